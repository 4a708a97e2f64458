/- Texts of this claim, one behind the other: what the law's functions come to, walked (printed by a program, with the words that the print uses), and what that is, in plain Lean. No conditions of their own. -/
import Derived.Test.YtmfffemidlhcpaaQGroupBest2
namespace Go.Proofs.Ytmfffemidlhcpaa.C
open Go.RowKit Go.Proofs.YtmfffemidlhcpaaW.PrintWords Go.Proofs.YtmfffemidlhcpaaW.PrintLast Go.Proofs.YtmfffemidlhcpaaW.PrintMore
attribute [local go_sem] Z3 Z1 Xg Xf Zt Zs Z2 Z0
set_option linter.unusedVariables false
set_option linter.unusedSimpArgs false
def api_Inside_90.l0:Nat→List (S86)→Int→Int→Int→Option ((List (S86)))
 |0,_,_,_,_=>none
 |k+1,B,J,X,O=>if O<(B.length:Int) then (if 0≤O then ((api_Inside_without_1.f ((Qt B O).f0) ((Qt B O).f1) J).bind fun ν =>(if ν = true then (api_Inside_90.l0 k B J X (wrap64 (O+1))) else (if 0≤X then (if X<(B.length:Int) then (api_Inside_90.l0 k (B.set (X:Int).toNat (⟨(Qt B O).f0,(Qt B O).f1⟩:S86)) J (wrap64 (X+1)) (wrap64 (O+1))) else (none)) else (none)))) else (none)) else (if 0≤X then (if X≤(B.length:Int) then (some (B.take (X:Int).toNat)) else (none)) else (none))
def api_Inside_90.f (k:Nat) (l0:List (S86)) (Y:Int):Option ((List (S86))):=(api_Inside_100.f k l0 Y).bind fun δ =>(if δ = (-1) then (some l0) else (api_Inside_90.l0 k l0 Y δ (wrap64 (δ + 1))))
set_option maxHeartbeats 8000000 in
set_option maxRecDepth 100000 in
theorem api_Inside_90.calls (k:Nat) (γ:Nat→Prop) (a8:Value) (l0:List (S86)) (Y:Int) (r:List (S86)) (w0 w:World) (hB:Below w0.heap.size w0 w) (ay:Kd.R k86 86 w w0.heap.size γ a8 l0) (h:api_Inside_90.f k l0 Y=some r) (Ar_:Option Addr) (nr_ cr_ gr_ gx_:Nat) (zx_:Int) (hgr_:w.heap[gr_]?=some (.cells #[.slice Ar_ nr_ cr_,.func (.func 83) #[] #[]] 116 (0,0))) (hgx_:w.heap[gx_]?=some (.cells #[.int .i64 (Yk Y),.int .i64 (Yj Y)] 86 (0,0))) (hnr_:¬ γ gr_) (hnx_:¬ γ gx_):
  Calls Try.prog 90 #[a8,.func (.func 92) #[] #[.pointer (some ⟨gr_,0,none⟩),.pointer (some ⟨gx_,0,none⟩)]] w fun e w'=>∃ bb:Value,e = .returned (bb)∧Kd.R k86 86 w' w0.heap.size (fun k_=>(γ k_∨w.heap.size≤k_)) bb r∧Below w0.heap.size w0 w'∧Kept w w' (fun k_=>γ k_):=by
 have HCR:=Aside0.mk hgr_
 have HCX:=Aside0.mk hgx_
 have HNR:=Aside0.mk hnr_
 have HNX:=Aside0.mk hnx_
 clear hgr_ hgx_ hnr_ hnx_
 have dl:=Try.underlying86
 have η :=Aside0.mk (show Kd.R k86 86 w w0.heap.size (fun k_=>(γ k_∨w.heap.size≤k_)) a8 l0 from Kd.Qw ay (fun k_ hk=>(.inl hk)))
 have HK:=Aside0.mk (Kept.refl w (fun k_=>γ k_))
 have di:=Aside0.mk hB.size
 have HB:=Aside0.mk hB
 clear hB
 have H:((api_Inside_100.f k l0 Y).bind fun δ =>(if δ = (-1) then (some l0) else (api_Inside_90.l0 k l0 Y δ (wrap64 (δ + 1)))))=some r:=h
 clear h
 replace H:=Option.bind_eq_some_iff.mp H
 obtain⟨δ,d1,H⟩:=H
 replace H:(if δ = (-1) then (some l0) else (api_Inside_90.l0 k l0 Y δ (wrap64 (δ + 1))))=some r:=H
 have A3:=Aside0.mk d1
 clear d1
 by_cases c4: δ = (-1)
 ·rw[if_pos c4] at H
  have c4b0:(δ == (-1))=true:=beq_iff_eq.mpr c4
  have c4b1:(δ != (-1))=false:=bne_eq_false_iff_eq.mpr c4
  clear c4
  obtain rfl:=Option.some.inj H
  obtain⟨dj,dk,d7⟩:=Kd.Q7 η.out
  subst d7
  go_enter Try.func90,Try.ntmps90
  go_wp2_with (first|(go_at_call 100;((with_reducible refine(api_Inside_100.calls k _ _ l0 Y δ _ ?side1 ?side2 A3.out Ar_ nr_ cr_ gr_ gx_ zx_ (Ya HCR.out (by repeat(first|(with_reducible first|exact HK.out|apply Kept.alloc|apply Kept.drewN|apply Kept.drew|refine Kept.setCell ?_ (.inr φ.out) _)|exact HK.out)) HNR.out) (Ya HCX.out (by repeat(first|(with_reducible first|exact HK.out|apply Kept.alloc|apply Kept.drewN|apply Kept.drew|refine Kept.setCell ?_ (.inr φ.out) _)|exact HK.out)) HNX.out)).mono ?_);(case side1=>exact(Kd.Qu η.out).2.2);(case side2=>exact(Kd.Qu η.out).2.1);rintro e w6 ⟨rfl,hb⟩;have ξ :=Aside0.mk (Kd.Z7 η.out hb);have ρ:=Aside0.mk (Kept.below (S:=(fun k_=>γ k_)) (by repeat(first|(with_reducible first|exact HK.out|apply Kept.alloc|apply Kept.drewN|apply Kept.drew)|exact HK.out)) hb);have a3:=Aside0.mk (Q0 HB.out hb);clear η;clear HK;clear HB;have η := ξ;have HK:=ρ;have HB:=a3;clear ξ ρ a3;(try clear hb);(try clear ac);(try clear hk);(try clear hi))))
  go_ret
  exact⟨_,rfl,by(with_reducible repeat first|apply Kd.Qq|apply Kd.Qp|apply Kd.Qr);exact η.out,HB.out,by repeat(first|(with_reducible first|exact HK.out|apply Kept.alloc|apply Kept.drewN|apply Kept.drew)|exact HK.out)⟩
 ·rw[if_neg c4] at H
  have c4b0:(δ == (-1))=false:=beq_eq_false_iff_ne.mpr c4
  have c4b1:(δ != (-1))=true:=bne_iff_ne.mpr c4
  have H':=Aside0.mk H
  clear H
  obtain⟨a9,ι,d9⟩:=Kd.Q7 η.out
  subst d9
  go_enter Try.func90,Try.ntmps90
  go_wp2_with (first|(go_at_call 100;((with_reducible refine(api_Inside_100.calls k _ _ l0 Y δ _ ?side1 ?side2 A3.out Ar_ nr_ cr_ gr_ gx_ zx_ (Ya HCR.out (by repeat(first|(with_reducible first|exact HK.out|apply Kept.alloc|apply Kept.drewN|apply Kept.drew|refine Kept.setCell ?_ (.inr φ.out) _)|exact HK.out)) HNR.out) (Ya HCX.out (by repeat(first|(with_reducible first|exact HK.out|apply Kept.alloc|apply Kept.drewN|apply Kept.drew|refine Kept.setCell ?_ (.inr φ.out) _)|exact HK.out)) HNX.out)).mono ?_);(case side1=>exact(Kd.Qu η.out).2.2);(case side2=>exact(Kd.Qu η.out).2.1);rintro e w8 ⟨rfl,hb⟩;have ξ :=Aside0.mk (Kd.Z7 η.out hb);have ρ:=Aside0.mk (Kept.below (S:=(fun k_=>γ k_)) (by repeat(first|(with_reducible first|exact HK.out|apply Kept.alloc|apply Kept.drewN|apply Kept.drew)|exact HK.out)) hb);have a3:=Aside0.mk (Q0 HB.out hb);clear η;clear HK;clear HB;have η := ξ;have HK:=ρ;have HB:=a3;clear ξ ρ a3;(try clear hb);(try clear ac);(try clear hk);(try clear hi))))
  go_loopg [5,6] k (fun kq v5 v6 w'=>∃ (B:List (S86)) (J:Int) (O:Int),v5 = .int .i64 J∧v6 = .int .i64 O∧Aside0 (api_Inside_90.l0 kq B Y J O=some r)∧Aside0 (kq≤k)∧Aside0 (Kd.R k86 86 w' w0.heap.size (fun k_=>(γ k_∨w.heap.size≤k_)) (.slice a9 l0.length ι) B)∧Aside0 (Kept w w' (fun k_=>γ k_))∧Aside0 (Below w0.heap.size w0 w'))
  case atStart=>exact⟨(l0),(δ),(wrap64 (δ + 1)),rfl,rfl,H',⟨Nat.le_refl _⟩,⟨by(with_reducible repeat first|apply Kd.Qq|apply Kd.Qp|apply Kd.Qr);exact η.out⟩,⟨by repeat(first|(with_reducible first|exact HK.out|apply Kept.alloc|apply Kept.drewN|apply Kept.drew)|exact HK.out)⟩,HB⟩
  case round=>
   clear H'
   try clear c1
   try clear p2
   try clear c4
   try clear c4b0
   try clear c4b1
   try clear p6
   obtain⟨B,J,O,rfl,rfl,HA,b0,Z,HK,HB⟩:=hrel
   have θ :=(Kd.Qu Z.out).1
   rw[θ] at Z
   (try simp only[θ])
   cases gk with
   |zero=>exact absurd HA.out (by simp[api_Inside_90.l0])
   |succ k1=>
    have H:=HA.out
    clear HA
    simp only[api_Inside_90.l0] at H
    by_cases c9:O<(B.length:Int)
    ·rw[if_pos c9] at H
     have c9b0:decide (O<(B.length:Int))=true:=decide_eq_true c9
     clear c9
     by_cases c10:0≤O
     ·rw[if_pos c10] at H
      have c10b0:decide (0≤O)=true:=decide_eq_true c10
      clear c10
      replace H:=Option.bind_eq_some_iff.mp H
      obtain⟨ν,bp,H⟩:=H
      replace H:(if ν = true then (api_Inside_90.l0 k1 B Y J (wrap64 (O+1))) else (if 0≤J then (if J<(B.length:Int) then (api_Inside_90.l0 k1 (B.set (J:Int).toNat (⟨(Qt B O).f0,(Qt B O).f1⟩:S86)) Y (wrap64 (J+1)) (wrap64 (O+1))) else (none)) else (none)))=some r:=H
      have ep:=Aside0.mk bp
      clear bp
      by_cases ah: ν = true
      ·subst ah
       have H1:(api_Inside_90.l0 k1 B Y J (wrap64 (O+1)))=some r:=by rw[if_pos rfl] at H;exact H
       clear H
       have H:=H1
       clear H1
       have H':=Aside0.mk H
       clear H
       have ae:0≤(O:Int):=of_decide_eq_true (by assumption)
       have af:O<(B.length:Int):=of_decide_eq_true (by assumption)
       obtain⟨ζ,av,κ,ω⟩:=Jk (Kd.Qu Z.out).2.2 O ae af
       cases av
       replace ae:=eq_true ae
       replace af:=eq_true af
       go_wp2_with (first|((with_reducible refine Qf (N:=7) rfl ?_);refine qE 7 #[.int .i64 0,.int .i64 0] 86 ?_;intro ε hg fx hbox hb;have X:=Aside0.mk hbox;have φ :=Aside0.mk ((by rw[hg];exact(by first|exact HK.out.1|exact(show Kept w _ (fun k_=>γ k_) from by repeat(first|(with_reducible first|exact HK.out|apply Kept.alloc|apply Kept.drewN|apply Kept.drew)|exact HK.out)).1):w.heap.size ≤ ε));have b1:=Aside0.mk ((by rw[hg];exact(Qi bel):w0.heap.size ≤ ε));replace Z:=Aside0.mk (Kd.Z7 (Kd.Yv (kra Z) ε (Nat.le_of_eq hg.symm)) hb);replace HK:=Aside0.mk (Kept.below (S:=(fun k_=>γ k_)) (by repeat(first|(with_reducible first|exact HK.out|apply Kept.alloc|apply Kept.drewN|apply Kept.drew)|exact HK.out)) hb);replace HB:=sHb hb;clear hb hbox hg;obtain⟨ct,cu,cv,cw⟩:=qD2 X.out)|(go_at_call 92;((with_reducible refine(api_Inside_without_1.calls ((Qt B O).f0) ((Qt B O).f1) Y true _ ep.out Ar_ nr_ cr_ gr_ gx_ zx_ (Ya HCR.out (by repeat(first|(with_reducible first|exact HK.out|apply Kept.alloc|apply Kept.drewN|apply Kept.drew|refine Kept.setCell ?_ (.inr φ.out) _)|exact HK.out)) HNR.out) (Ya HCX.out (by repeat(first|(with_reducible first|exact HK.out|apply Kept.alloc|apply Kept.drewN|apply Kept.drew|refine Kept.setCell ?_ (.inr φ.out) _)|exact HK.out)) HNX.out)).mono ?_);rintro e ge ⟨rfl,hb⟩;have ξ :=Aside0.mk (Kd.Z7 (by(with_reducible repeat first|apply Kd.Qq|apply Kd.Qp|apply Kd.Qr);exact(Kd.Qw (Kd.Qx (Kd.Qx (Kd.Qw Z.out (fun k_ hk=>(⟨hk,hk.2⟩:_∧k_ ≠ ε))) (fun _ hk=>hk.2) (.int .i64 ((Qt B O).f0))) (fun _ hk=>hk.2) (.int .i64 ((Qt B O).f1))) (fun _ h_=>h_.1))) hb);have ρ:=Aside0.mk (Qz (g:= ε) (o:=.cells #[.int .i64 ((Qt B O).f0),.int .i64 ((Qt B O).f1)] 86 (0,0)) (by(with_reducible repeat first|refine Qm ?_ _|refine Qe ?_|refine Qn ?_ _);refine Ql (cs:=#[.int .i64 ((Qt B O).f0),.int .i64 0]) ?_ 1 _ rfl;(with_reducible repeat first|refine Qm ?_ _|refine Qe ?_|refine Qn ?_ _);refine Ql (cs:=#[.int .i64 0,.int .i64 0]) ?_ 0 _ rfl;(with_reducible repeat first|refine Qm ?_ _|refine Qe ?_|refine Qn ?_ _);exact X.out) hb);have a3:=Aside0.mk (Kept.below (S:=(fun k_=>γ k_)) (by repeat(first|(with_reducible first|exact HK.out|apply Kept.alloc|apply Kept.drewN|apply Kept.drew|refine Kept.setCell ?_ (.inr φ.out) _)|exact HK.out)) hb);have a7:=Aside0.mk (Q0 bel hb);clear Z;clear X;clear HK;clear HB;have Z:= ξ;have X:=ρ;have HK:=a3;have HB:=a7;clear ξ ρ a3 a7;(try clear hb);(try clear ac);(try clear hk);(try clear hi))))
       (try simp only[← θ])
       go_roundg k1
       case measure=>have:=b0.out;omega
       case rel=>exact⟨(B),(J),(wrap64 (O+1)),rfl,rfl,H',⟨by have:=b0.out;omega⟩,⟨by(try simp only[θ]);(with_reducible repeat first|apply Kd.Qq|apply Kd.Qp|apply Kd.Qr);exact Kd.Qw Z.out (fun _ hk=>hk.1)⟩,⟨by repeat(first|(with_reducible first|exact HK.out|apply Kept.alloc|apply Kept.drewN|apply Kept.drew|refine Kept.setCell ?_ (.inr φ.out) _)|exact HK.out)⟩,HB⟩
      ·replace ah:=Bool.eq_false_iff.mpr ah
       subst ah
       have H1:(if 0≤J then (if J<(B.length:Int) then (api_Inside_90.l0 k1 (B.set (J:Int).toNat (⟨(Qt B O).f0,(Qt B O).f1⟩:S86)) Y (wrap64 (J+1)) (wrap64 (O+1))) else (none)) else (none))=some r:=by rw[if_neg (show ¬ (false=true) by decide)] at H;exact H
       clear H
       have H:=H1
       clear H1
       by_cases ψ :0≤J
       ·rw[if_pos ψ] at H
        have c16b0:decide (0≤J)=true:=decide_eq_true ψ
        clear ψ
        by_cases σ:J<(B.length:Int)
        ·rw[if_pos σ] at H
         have c17b0:decide (J<(B.length:Int))=true:=decide_eq_true σ
         clear σ
         obtain⟨ag,χ⟩:∃ y_:List (S86),y_=(B.set (J:Int).toNat (⟨(Qt B O).f0,(Qt B O).f1⟩:S86)):=⟨_,rfl⟩
         replace H:(api_Inside_90.l0 k1 ag Y (wrap64 (J+1)) (wrap64 (O+1)))=some r:=by first|(rw[χ];with_reducible exact H)|(have an:=(Option.bind_some _ _).symm.trans H;rw[χ];with_reducible exact an)|(have an:=(Option.bind_some _ _).symm.trans H;with_reducible exact an)|with_reducible exact H|(rw[χ];exact H)|exact H
         have aj:=Aside0.mk χ
         clear χ
         have H':=Aside0.mk H
         clear H
         have ae:0≤(O:Int):=of_decide_eq_true (by assumption)
         have af:O<(B.length:Int):=of_decide_eq_true (by assumption)
         obtain⟨ζ,av,κ,ω⟩:=Jk (Kd.Qu Z.out).2.2 O ae af
         cases av
         replace ae:=eq_true ae
         replace af:=eq_true af
         go_wp2_with (first|((with_reducible refine Qf (N:=7) rfl ?_);refine qE 7 #[.int .i64 0,.int .i64 0] 86 ?_;intro ε hg b6 hbox hb;have X:=Aside0.mk hbox;have φ :=Aside0.mk ((by rw[hg];exact(by first|exact HK.out.1|exact(show Kept w _ (fun k_=>γ k_) from by repeat(first|(with_reducible first|exact HK.out|apply Kept.alloc|apply Kept.drewN|apply Kept.drew)|exact HK.out)).1):w.heap.size ≤ ε));have b1:=Aside0.mk ((by rw[hg];exact(Qi HB.out):w0.heap.size ≤ ε));replace Z:=Aside0.mk (Kd.Z7 (Kd.Yv Z.out ε (Nat.le_of_eq hg.symm)) hb);replace HK:=Aside0.mk (Kept.below (S:=(fun k_=>γ k_)) (by repeat(first|(with_reducible first|exact HK.out|apply Kept.alloc|apply Kept.drewN|apply Kept.drew)|exact HK.out)) hb);replace HB:=sHb hb;clear hb hbox hg;obtain⟨ab,al,ax,b5⟩:=qD2 X.out)|(go_at_call 92;((with_reducible refine(api_Inside_without_1.calls ((Qt B O).f0) ((Qt B O).f1) Y false _ ep.out Ar_ nr_ cr_ gr_ gx_ zx_ (Ya HCR.out (by repeat(first|(with_reducible first|exact HK.out|apply Kept.alloc|apply Kept.drewN|apply Kept.drew|refine Kept.setCell ?_ (.inr φ.out) _)|exact HK.out)) HNR.out) (Ya HCX.out (by repeat(first|(with_reducible first|exact HK.out|apply Kept.alloc|apply Kept.drewN|apply Kept.drew|refine Kept.setCell ?_ (.inr φ.out) _)|exact HK.out)) HNX.out)).mono ?_);rintro e cz ⟨rfl,hb⟩;have ξ :=Aside0.mk (Kd.Z7 (by(with_reducible repeat first|apply Kd.Qq|apply Kd.Qp|apply Kd.Qr);exact(Kd.Qw (Kd.Qx (p:=⟨ε,1,none⟩) (Kd.Qx (p:=⟨ε,0,none⟩) (Kd.Qw Z.out (fun k_ hk=>(⟨hk,hk.2⟩:_∧k_ ≠ ε))) (fun _ hk=>hk.2) (.int .i64 ((Qt B O).f0))) (fun _ hk=>hk.2) (.int .i64 ((Qt B O).f1))) (fun _ h_=>h_.1))) hb);have ρ:=Aside0.mk (Qz (g:= ε) (o:=.cells #[.int .i64 ((Qt B O).f0),.int .i64 ((Qt B O).f1)] 86 (0,0)) (by(with_reducible repeat first|refine Qm ?_ _|refine Qe ?_|refine Qn ?_ _);refine Ql (cs:=#[.int .i64 ((Qt B O).f0),.int .i64 0]) ?_ 1 _ rfl;(with_reducible repeat first|refine Qm ?_ _|refine Qe ?_|refine Qn ?_ _);refine Ql (cs:=#[.int .i64 0,.int .i64 0]) ?_ 0 _ rfl;(with_reducible repeat first|refine Qm ?_ _|refine Qe ?_|refine Qn ?_ _);exact X.out) hb);have a3:=Aside0.mk (Kept.below (S:=(fun k_=>γ k_)) (by repeat(first|(with_reducible first|exact HK.out|apply Kept.alloc|apply Kept.drewN|apply Kept.drew|refine Kept.setCell ?_ (.inr φ.out) _)|exact HK.out)) hb);have a7:=Aside0.mk (Q0 (by repeat(first|(with_reducible first|exact HB.out|apply Qs|apply Qh|apply Qg|refine Qv ?_ b1.out)|exact HB.out)) hb);clear Z;clear X;clear HK;clear HB;have Z:= ξ;have X:=ρ;have HK:=a3;have HB:=a7;clear ξ ρ a3 a7;(try clear hb);(try clear ac);(try clear hk);(try clear hi);obtain⟨bn,bq,br,bu⟩:=qD2 X.out;have ak:0≤(J:Int):=of_decide_eq_true (by first|(with_reducible assumption)|assumption);have am:(J:Int)<((B.length:Int):Int):=of_decide_eq_true (by first|(with_reducible assumption)|assumption);obtain⟨μ,co,aw,az,bd,cp,b2⟩:=Kd.Uc Z.out (by omega);(first|cases aw|(injection aw with ea_ en_ ec_;(first|subst ea_|(injection ea_ with ea_;subst ea_));subst ec_;clear en_));have ap:=Aside0.mk az;have cq:=Aside0.mk b2;clear az bd b2;have da:=Aside0.mk (show(γ μ ∨ w.heap.size ≤ μ) from(Z.out.1 _ rfl).1);(first|simp only[add_plain] at κ |skip);(first|simp only[add_plain] at ω |skip);obtain⟨cr,b4,b3,τ,ai⟩:=Kd.Jl Z.out z86 (J:Int) ak am;obtain rfl:=J1 b3;have ba:cz.cell? ⟨μ,(J:Int).toNat * 2,none⟩=some (.int .i64 ((Qt B J).f0)):= τ 0 _ rfl;have bc:cz.cell? ⟨μ,(J:Int).toNat * 2+1,none⟩=some (.int .i64 ((Qt B J).f1)):= τ 1 _ rfl;have bv:cz.frozen? ⟨μ,(J:Int).toNat * 2,none⟩=false:=ai 0;have bw:cz.frozen? ⟨μ,(J:Int).toNat * 2+1,none⟩=false:=ai 1;clear b4 τ ai b3;replace ak:=eq_true ak;replace am:=eq_true am;have bl:=Aside0.mk (show Kd.R k86 86 cz w0.heap.size (fun k_=>(γ k_∨w.heap.size≤k_)∧k_ ≠ ε) (.slice (some ⟨μ,0,none⟩) B.length ι) B from(by(with_reducible repeat first|apply Kd.Qq|apply Kd.Qp|apply Kd.Qr);exact Z.out));obtain⟨dd,bg,bm,a6,ao⟩:=Kd.Jl bl.out z86 (J:Int) (of_decide_eq_true (by first|(with_reducible assumption)|assumption)) (by have h_:(J:Int)<((B.length:Int):Int):=of_decide_eq_true (by first|(with_reducible assumption)|assumption);first|exact h_|(have e_:=(Kd.Qu Z.out).1;omega)|simpa using h_);obtain rfl:=J1 bm;have be:=Kd.Lj bl.out (J:Int) (of_decide_eq_true (by first|(with_reducible assumption)|assumption)) (by have h_:(J:Int)<((B.length:Int):Int):=of_decide_eq_true (by first|(with_reducible assumption)|assumption);first|exact h_|(have e_:=(Kd.Qu Z.out).1;omega)|simpa using h_) (seg:=[.int .i64 ((Qt B O).f0),.int .i64 ((Qt B O).f1)]) (j:=0) bg a6 (show 2≤2 from by decide) (x':=(⟨(Qt B O).f0,(Qt B O).f1⟩:S86)) (V0 _ _ _ (⟨(Qt B O).f0,(Qt B O).f1⟩:S86)) (fun _ hk=>hk);have bo:=a6 0 _ rfl;(try simp only[show(k86).sz=2 from rfl,Nat.mul_one,Nat.add_zero] at bo);have bz:=ao 0;(try simp only[show(k86).sz=2 from rfl,Nat.mul_one,Nat.add_zero] at bz);have ca:=a6 1 _ rfl;(try simp only[show(k86).sz=2 from rfl,Nat.mul_one,Nat.add_zero] at ca);have cb:=ao 1;(try simp only[show(k86).sz=2 from rfl,Nat.mul_one,Nat.add_zero] at cb);clear bg a6 ao bm))|((with_reducible refine Jg (t:=86) (p:=33) rfl ?_);refine Yz (t:=86) (p:=33) (v:=?vo_w24) (w1:=((cz.setCell ⟨μ,(J:Int).toNat * 2,none⟩ (.int .i64 ((Qt B O).f0))).setCell ⟨μ,(J:Int).toNat * 2+1,none⟩ (.int .i64 ((Qt B O).f1)))) ?hg ?ho ?hn ?hr ?_;(case ho=>rfl);(case hg=>rfl);(case hn=>rfl);(case hr=>go_simp <;> rfl);intro bs hw;have hg:cz.grownBy bs (some μ):=(by rw[hw];exact be.2);have hp_:Kd.R k86 86 bs w0.heap.size (fun k_=>(γ k_∨w.heap.size≤k_)∧k_ ≠ ε) (.slice (some ⟨μ,0,none⟩) B.length ι) ag:=(by rw[hw,aj.out];exact be.1);clear be;replace X:=Aside0.mk (Q1 (g:= ε) (o:=.cells #[.int .i64 ((Qt B O).f0),.int .i64 ((Qt B O).f1)] 86 (0,0)) X.out hg (Kd.Ws Z.out (fun _ hk=>hk.2)));replace HB:=Aside0.mk ((by rw[hw];exact Qv (Qv (HB.out) ap.out) ap.out:Below w0.heap.size w0 bs));replace HK:=Aside0.mk (Kept.Gu (S:=(fun k_=>γ k_)) hg (by repeat(first|(with_reducible first|exact HK.out|apply Kept.alloc|apply Kept.drewN|apply Kept.drew|refine Kept.setCell ?_ (.inr φ.out) _)|exact HK.out)) (fun k_ e_=>(Z.out.1 k_ e_).1));replace Z:=Aside0.mk hp_;clear hg hw hp_))
         (try simp only[← θ])
         go_roundg k1
         case measure=>have:=b0.out;omega
         case rel=>exact⟨(ag),(wrap64 (J+1)),(wrap64 (O+1)),rfl,rfl,H',⟨by have:=b0.out;omega⟩,⟨by(try simp only[θ]);(with_reducible repeat first|apply Kd.Qq|apply Kd.Qp|apply Kd.Qr);exact Kd.Qw Z.out (fun _ hk=>hk.1)⟩,⟨by repeat(first|(with_reducible first|exact HK.out|apply Kept.alloc|apply Kept.drewN|apply Kept.drew|refine Kept.setCell ?_ (.inr φ.out) _)|exact HK.out)⟩,HB⟩
        ·rw[if_neg σ] at H
         exact absurd H (by simp)
       ·rw[if_neg ψ] at H
        exact absurd H (by simp)
     ·rw[if_neg c10] at H
      exact absurd H (by simp)
    ·rw[if_neg c9] at H
     have c9b0:decide (O<(B.length:Int))=false:=decide_eq_false c9
     clear c9
     by_cases d3:0≤J
     ·rw[if_pos d3] at H
      have c25b0:=eq_true d3
      have c25b1:decide (0≤J)=true:=decide_eq_true d3
      clear d3
      by_cases d8:J≤(B.length:Int)
      ·rw[if_pos d8] at H
       have c26b0:=eq_true d8
       have c26b1:decide (J≤(B.length:Int))=true:=decide_eq_true d8
       clear d8
       obtain⟨a4,a0⟩:∃ y_:List (S86),y_=(B.drop (J:Int).toNat):=⟨_,rfl⟩
       replace H:(some (B.take (J:Int).toNat))=some r:=by first|(rw[a0];with_reducible exact H)|(have an:=(Option.bind_some _ _).symm.trans H;rw[a0];with_reducible exact an)|(have an:=(Option.bind_some _ _).symm.trans H;with_reducible exact an)|with_reducible exact H|(rw[a0];exact H)|exact H
       have bh:=Aside0.mk a0
       clear a0
       have c27b0:=eq_true (of_decide_eq_true (by assumption):J≤(B.length:Int))
       obtain⟨bf,a2⟩:∃ y_:List (S86),y_=(B.take (J:Int).toNat):=⟨_,rfl⟩
       replace H:(some bf)=some r:=by first|(rw[a2];with_reducible exact H)|(have an:=(Option.bind_some _ _).symm.trans H;rw[a2];with_reducible exact an)|(have an:=(Option.bind_some _ _).symm.trans H;with_reducible exact an)|with_reducible exact H|(rw[a2];exact H)|exact H
       have ar:=Aside0.mk a2
       clear a2
       obtain rfl:=Option.some.inj H
       have cd:(J:Int)≤((B.length:Int):Int):=of_decide_eq_true (by assumption)
       obtain⟨de,bi,_,bj,_⟩:=info_parts K4
       have hroom28:B.length ≤ ι :=(Kd.Qu Z.out).2.1
       have ce:Kd.C k86 _ a9 B.length B:=(Kd.Qu Z.out).2.2
       have cy:(0:Int)≤(J:Int):=of_decide_eq_true (by assumption)
       have cf:=Nn (P:=Try.prog) 48 86 .i64 Try.underlying48 bi 2 bj a9 B.length ι J cy cd
       have aa:=Kd.Dz (m:=(J:Int).toNat) (c:= ι) ce (by omega) hroom28
       obtain⟨d0,au⟩:∃ A1,A1=(if ι = (J:Int).toNat then a9 else (a9:Option Addr).map (·.add ((J:Int).toNat * 2))):=⟨_,rfl⟩
       obtain⟨cx,b7⟩:∃ c1,c1 = ι - (J:Int).toNat:=⟨_,rfl⟩
       have b8:a4.length=B.length - (J:Int).toNat:=(by rw[bh.out,List.length_drop] <;> omega)
       rw[show(B).drop (J:Int).toNat=a4 from bh.out.symm] at aa
       replace aa:Kd.C k86 _ d0 a4.length a4:=(by rw[au];exact aa)
       rw[← b8,← au,← b7] at cf
       have db:=Aside0.mk aa
       have dc:=Aside0.mk (show a4.length≤cx from by rw[b8,b7];exact Nat.sub_le_sub_right hroom28 _)
       have d2:=Aside0.mk b7
       clear aa ce hroom28 bi bj b7
       have d4:=Aside0.mk b8
       have d5:=Aside0.mk au
       clear b8 au
       have d6:=Aside0.mk (show(J:Int).toNat≤B.length from by omega)
       replace cd:=eq_true cd
       have cg:(J:Int)≤((B.length:Int):Int):=of_decide_eq_true (by assumption)
       obtain⟨df,bk,_,cj,_⟩:=info_parts K4
       have ch:=Dj (P:=Try.prog) 48 86 .i64 Try.underlying48 bk a9 B.length ι J (of_decide_eq_true (by assumption)) cg (Kd.Qu Z.out).2.1
       have b9:=Kd.Dr (m:=(J:Int).toNat) Z.out (by omega)
       have ci:bf.length=(J:Int).toNat:=(by rw[ar.out,List.length_take];omega)
       rw[← ar.out] at b9
       rw[← ci] at b9 ch
       clear ci bk cj
       have a5:=Aside0.mk b9
       clear b9
       replace cg:=eq_true cg
       go_wp2_with (first|((with_reducible refine Xs (b:=.clear) (xs:=#[.tmp 38]) rfl ?_);refine Wn flatI (w:=w) (S:=fun k_=>γ k_) rfl (.tmp 38) 48 rfl Try.underlying48 (.agg #[.int .i64 0,.int .i64 0]) zeroI (by decide) rfl a9 d0 ι cx a4.length B Z.out (J:Int).toNat d6.out d5.out d4.out d2.out rfl HB.out HK.out (fun _ hk=>hk) bf (ar.out) ?_;intro dh ck cm cn;have ξ :=Aside0.mk ck;have ρ:=Aside0.mk cm;have a3:=Aside0.mk cn;clear ck cm cn Z a5 HB HK;have a5:= ξ;have HB:=ρ;have HK:=a3;clear ξ ρ a3))
       go_ret
       exact⟨_,rfl,by(with_reducible repeat first|apply Kd.Qq|apply Kd.Qp|apply Kd.Qr);exact a5.out,HB.out,by repeat(first|(with_reducible first|exact HK.out|apply Kept.alloc|apply Kept.drewN|apply Kept.drew)|exact HK.out)⟩
      ·rw[if_neg d8] at H
       exact absurd H (by simp)
     ·rw[if_neg d3] at H
      exact absurd H (by simp)
def api_Hall_89.l0:Nat→List (S36)→Int→Int→Int→Int→Int→Int→Option (Int×Bool)
 |0,_,_,_,_,_,_,_=>none
 |k+1,B,X,Y,O,J,Z,γ=>if Y<O then (if 0≤(wrap64 ((IntKind.u64.wrap (wrap64 (Y+O))) / 2)) then (if (wrap64 ((IntKind.u64.wrap (wrap64 (Y+O))) / 2))<(B.length:Int) then ((call_halls_1.f ((Qd B (wrap64 ((IntKind.u64.wrap (wrap64 (Y+O))) / 2))).f0) ((Qd B (wrap64 ((IntKind.u64.wrap (wrap64 (Y+O))) / 2))).f1) ((Qd B (wrap64 ((IntKind.u64.wrap (wrap64 (Y+O))) / 2))).f2) J Z γ).bind fun a1=>(if a1<0 then (api_Hall_89.l0 k B X (wrap64 ((wrap64 ((IntKind.u64.wrap (wrap64 (Y+O))) / 2))+1)) O J Z γ) else (api_Hall_89.l0 k B X Y (wrap64 ((IntKind.u64.wrap (wrap64 (Y+O))) / 2)) J Z γ))) else (none)) else (none)) else (if Y<X then (if 0≤Y then (if Y<(B.length:Int) then ((call_halls_1.f ((Qd B Y).f0) ((Qd B Y).f1) ((Qd B Y).f2) J Z γ).bind fun ι =>(some (Y,(ι == 0)))) else (none)) else (none)) else (some (Y,false)))
def api_Hall_89.f (k:Nat) (l0:List (S36)) (ζ :Int) (ε :Int) (κ :Int) (a2:Int):Option (Int×Bool):=api_Hall_89.l0 k l0 (l0.length:Int) 0 (l0.length:Int) ζ ε κ
def api_Hall_89.T5:Bool×List (List Nat×List Nat):=(true,[([],[]),([],[]),([],[]),([1,2],[1,2]),([3],[3]),([],[]),([0,4,5],[0,4,5]),([6],[6])])
def api_Hall_89.B5:List Nat:=[0,0,0,6,14,0,63,127]
theorem api_Hall_89.N7:rtab .any (opsOf Try.f89 5)=api_Hall_89.T5:=by kernel_rfl
theorem api_Hall_89.Li:Zk api_Hall_89.T5.2 api_Hall_89.B5=true:=by kernel_rfl
def api_Hall_89.T8:Bool×List (List Nat×List Nat):=(true,[([],[]),([],[]),([],[]),([1,2],[1,2]),([3],[3]),([4],[4]),([4],[4]),([4],[4]),([6,7,4],[4,6,7]),([8,4],[4,8]),([4],[4]),([5,9,10,4,4],[4,5,9,10]),([11,4],[4,11]),([4,12],[4,12]),([0,11,0],[0]),([13,14,0,1,2,3,4,5,6,7,8,9,10,11,12,13,14],[13])])
def api_Hall_89.B8:List Nat:=[0,0,0,6,14,30,30,30,222,478,30,2046,4094,8190,4095,32767]
theorem api_Hall_89.N6:rtab .any (opsOf Try.f89 8)=api_Hall_89.T8:=by kernel_rfl
theorem api_Hall_89.Lh:Zk api_Hall_89.T8.2 api_Hall_89.B8=true:=by kernel_rfl
set_option maxHeartbeats 8000000 in
set_option maxRecDepth 100000 in
theorem api_Hall_89.calls (k:Nat) (Z:Option Addr) (c0:Nat) (l0:List (S36)) (ζ :Int) (ε :Int) (κ :Int) (a2:Int) (r1:Int) (r2:Bool) (w:World) (ρ:Kd.C k36 w Z l0.length l0) (γ:l0.length≤c0) (h:api_Hall_89.f k l0 ζ ε κ a2=some (r1,r2)):
  Calls Try.prog 89 #[.slice Z l0.length c0,.agg #[.int .i64 ζ,.int .i64 ε,.int .i64 κ],.func (.func 79) #[] #[]] w fun e w'=>e = .returned (.tuple #[.int .i64 r1,.bool r2])∧Below w.heap.size w w':=by
 have e4:=Try.underlying36
 have χ :=Aside0.mk ρ
 have ai:=Aside0.mk γ
 clear ρ γ
 have HB:=Aside0.mk (Below.refl w.heap.size w)
 have H:(api_Hall_89.l0 k l0 (l0.length:Int) 0 (l0.length:Int) ζ ε κ)=some (r1,r2):=h
 clear h
 have H':=Aside0.mk H
 clear H
 go_enter Try.func89,Try.ntmps89
 go_wp2_with (first|((with_reducible refine Qf (N:=4) rfl ?_);refine qE 4 #[.int .i64 ζ,.int .i64 ε,.int .i64 κ] 36 ?_;intro φ hg w4 hbox hb;have O:=Aside0.mk hbox;have ag:=sGe hg;have ah:=sGe hg;replace HB:=sHb hb;clear hb hbox hg))
 go_loopg [9,10] k (fun kq v9 ap w'=>∃ (B:Int) (J:Int),v9 = .int .i64 B∧ap = .int .i64 J∧Aside0 (api_Hall_89.l0 kq l0 (l0.length:Int) B J ζ ε κ = some (r1,r2))∧Aside0 (kq≤k)∧Aside0 (w'.heap[φ]?=some (.cells #[.int .i64 ζ,.int .i64 ε,.int .i64 κ] 36 (0,0)))∧Aside0 (Below w.heap.size w w'))
 case atStart=>exact⟨(0),((l0.length:Int)),rfl,rfl,H',⟨Nat.le_refl _⟩,O,HB⟩
 case round=>
  clear H'
  try clear p2
  obtain⟨B,J,rfl,rfl,HA,b0,O,HB⟩:=hrel
  cases gk with
  |zero=>exact absurd HA.out (by simp[api_Hall_89.l0])
  |succ k1=>
   have H:=HA.out
   clear HA
   simp only[api_Hall_89.l0] at H
   by_cases c5:B<J
   ·rw[if_pos c5] at H
    have c5b0:decide (B<J)=true:=decide_eq_true c5
    clear c5
    obtain⟨X,a9⟩:∃ j_:Int,(wrap64 ((IntKind.u64.wrap (wrap64 (B+J))) / 2))=j_:=⟨_,rfl⟩
    replace H:(if 0≤(X) then (if (X)<(l0.length:Int) then ((call_halls_1.f ((Qd l0 (X)).f0) ((Qd l0 (X)).f1) ((Qd l0 (X)).f2) ζ ε κ).bind fun a1=>(if a1<0 then (api_Hall_89.l0 k1 l0 (l0.length:Int) (wrap64 ((X)+1)) J ζ ε κ) else (api_Hall_89.l0 k1 l0 (l0.length:Int) B X ζ ε κ))) else (none)) else (none))=some (r1,r2):=by first|(rw[a9] at H;exact H)|(simp only[a9] at H ⊢;exact H)
    have hji6w:(IntKind.i64.wrap ((IntKind.u64.wrap (wrap64 (B+J))) / 2))=X:=(Zg _).trans a9
    by_cases c7:0≤(X)
    ·rw[if_pos c7] at H
     have c7b0:decide (0≤(X))=true:=decide_eq_true c7
     clear c7
     by_cases c8:(X)<(l0.length:Int)
     ·rw[if_pos c8] at H
      have c8b0:decide ((X)<(l0.length:Int))=true:=decide_eq_true c8
      clear c8
      replace H:=Option.bind_eq_some_iff.mp H
      obtain⟨a1,bl,H⟩:=H
      replace H:(if a1<0 then (api_Hall_89.l0 k1 l0 (l0.length:Int) (wrap64 ((X)+1)) J ζ ε κ) else (api_Hall_89.l0 k1 l0 (l0.length:Int) B X ζ ε κ))=some (r1,r2):=H
      have A9:=Aside0.mk bl
      clear bl
      by_cases c10:a1<0
      ·rw[if_pos c10] at H
       have c10b0:decide (a1<0)=true:=decide_eq_true c10
       clear c10
       have H':=Aside0.mk H
       clear H
       try go_wp2
       replace O:=Aside0.mk (Qe O.out)
       replace HB:=Aside0.mk (Qg HB.out)
       have aa:0≤((X):Int):=of_decide_eq_true (by assumption)
       have ab:(X)<(l0.length:Int):=of_decide_eq_true (by assumption)
       obtain⟨ξ,af,Y,δ,η⟩:=X3 χ.out (X) aa ab
       have θ := η
       have μ := δ
       have ν :=Y
       cases af
       replace Y:=(HB.out.cell (World.block_lt_of_cell? w _ Y)).trans Y
       replace δ :=(HB.out.cell (World.block_lt_of_cell? w _ δ)).trans δ
       replace η :=(HB.out.cell (World.block_lt_of_cell? w _ η)).trans η
       replace aa:=eq_true aa
       replace ab:=eq_true ab
       refine Zi (n:=8) (S:=fun w'=>w'.cell? ⟨φ,0,none⟩=some (.int .i64 ζ)∧w'.cell? ⟨φ,1,none⟩=some (.int .i64 ε)∧w'.cell? ⟨φ,2,none⟩=some (.int .i64 κ)∧w'.cell? (ξ.add (((X)).toNat * 3))=some (.int .i64 ((Qd l0 (X)).f0))∧w'.cell? ⟨(ξ.add (((X)).toNat * 3)).block,(ξ.add (((X)).toNat * 3)).off+1,none⟩=some (.int .i64 ((Qd l0 (X)).f1))∧w'.cell? ⟨(ξ.add (((X)).toNat * 3)).block,(ξ.add (((X)).toNat * 3)).off+2,none⟩=some (.int .i64 ((Qd l0 (X)).f2))) (ds:=[]) #[false,false,false,false,false,false,false,false] kr rfl rfl ⟨(Qa O.out 0).trans rfl,(Qa O.out 1).trans rfl,(Qa O.out 2).trans rfl,((HB.out.cell (World.block_lt_of_cell? w _ ν)).trans ν),((HB.out.cell (World.block_lt_of_cell? w _ μ)).trans μ),((HB.out.cell (World.block_lt_of_cell? w _ θ)).trans θ)⟩ (fun hHeld=>?_);refine Q9 api_Hall_89.N7 api_Hall_89.Li (fun HT_ HW_=>?_)
       generalize wr.drew=di at O HB Y δ η hHeld ⊢
       refine qP 0 (some 24) (bN 8 1) HT_ ?_
       refine qP 1 (some 25) (bN 8 3) HT_ ?_
       refine qP 2 (some 26) (bN 8 7) HT_ ?_
       refine qP 3 (some 27) (bN 8 15) HT_ ?_
       refine qT 4 (some 28) (bN 8 31) HT_ HW_ hHeld ?_
       refine qT 5 (some 29) (bN 8 63) HT_ HW_ hHeld ?_
       refine Zb (i:=6) (N:=some 30) (bN 8 127) rfl rfl (Q4 HT_.out kr) (by decide) (fun K hK=>?_)
       refine X8 Try.func79 kr rfl #[] #[] #[.agg #[.int .i64 ((Qd l0 (X)).f0),.int .i64 ((Qd l0 (X)).f1),.int .i64 ((Qd l0 (X)).f2)],.agg #[.int .i64 ζ,.int .i64 ε,.int .i64 κ]] #[.agg #[.int .i64 ((Qd l0 (X)).f0),.int .i64 ((Qd l0 (X)).f1),.int .i64 ((Qd l0 (X)).f2)],.agg #[.int .i64 ζ,.int .i64 ε,.int .i64 κ]] rfl (by rfl) rfl rfl rfl (by(try simp only[List.map_toArray,List.map_cons,List.map_nil]);first|done|(simp only[a9];rfl)|rfl|(simp only[List.length_drop,List.length_take];rfl)) ?_
       with_reducible refine(call_halls_1.calls ((Qd l0 (X)).f0) ((Qd l0 (X)).f1) ((Qd l0 (X)).f2) ζ ε κ a1 _ A9.out).mono ?_
       rintro e fy ⟨rfl,hb⟩
       refine⟨_,rfl, ?_⟩
       replace O:=sBk O hb
       replace HB:=sHb hb
       (try clear hb)
       (try clear ac)
       (try clear hk)
       (try clear hi)
       refine hK.out _ _ ⟨qc O,qc O,qc O,((HB.out.cell (World.block_lt_of_cell? w _ ν)).trans ν),((HB.out.cell (World.block_lt_of_cell? w _ μ)).trans μ),((HB.out.cell (World.block_lt_of_cell? w _ θ)).trans θ)⟩ (fun hHeld=>?_)
       clear hK K
       refine qN (some 30) ?_
       refine qP 7 (some 31) (bN 8 255) HT_ ?_
       refine Zx (Ze HT_.out kr) ?_
       try go_wp2
       go_roundg k1
       case measure=>have:=b0.out;omega
       case rel=>exact⟨(wrap64 ((X)+1)),(J),(by first|rfl|(simp;done)|(simp only[← a9] <;> (first|rfl|simp))|(simp[*];done)),rfl,H',⟨by have:=b0.out;omega⟩,O,HB⟩
      ·rw[if_neg c10] at H
       have c10b0:decide (a1<0)=false:=decide_eq_false c10
       clear c10
       have H':=Aside0.mk H
       clear H
       try go_wp2
       replace O:=Aside0.mk (Qe O.out)
       replace HB:=Aside0.mk (Qg HB.out)
       have aa:0≤((X):Int):=of_decide_eq_true (by assumption)
       have ab:(X)<(l0.length:Int):=of_decide_eq_true (by assumption)
       obtain⟨ξ,af,Y,δ,η⟩:=X3 χ.out (X) aa ab
       have θ := η
       have μ := δ
       have ν :=Y
       cases af
       replace Y:=(HB.out.cell (World.block_lt_of_cell? w _ Y)).trans Y
       replace δ :=(HB.out.cell (World.block_lt_of_cell? w _ δ)).trans δ
       replace η :=(HB.out.cell (World.block_lt_of_cell? w _ η)).trans η
       replace aa:=eq_true aa
       replace ab:=eq_true ab
       refine Zi (n:=8) (S:=fun w'=>w'.cell? ⟨φ,0,none⟩=some (.int .i64 ζ)∧w'.cell? ⟨φ,1,none⟩=some (.int .i64 ε)∧w'.cell? ⟨φ,2,none⟩=some (.int .i64 κ)∧w'.cell? (ξ.add (((X)).toNat * 3))=some (.int .i64 ((Qd l0 (X)).f0))∧w'.cell? ⟨(ξ.add (((X)).toNat * 3)).block,(ξ.add (((X)).toNat * 3)).off+1,none⟩=some (.int .i64 ((Qd l0 (X)).f1))∧w'.cell? ⟨(ξ.add (((X)).toNat * 3)).block,(ξ.add (((X)).toNat * 3)).off+2,none⟩=some (.int .i64 ((Qd l0 (X)).f2))) (ds:=[]) #[false,false,false,false,false,false,false,false] kr rfl rfl ⟨(Qa O.out 0).trans rfl,(Qa O.out 1).trans rfl,(Qa O.out 2).trans rfl,((HB.out.cell (World.block_lt_of_cell? w _ ν)).trans ν),((HB.out.cell (World.block_lt_of_cell? w _ μ)).trans μ),((HB.out.cell (World.block_lt_of_cell? w _ θ)).trans θ)⟩ (fun hHeld=>?_);refine Q9 api_Hall_89.N7 api_Hall_89.Li (fun HT_ HW_=>?_)
       generalize wr.drew=fx at O HB Y δ η hHeld ⊢
       refine qP 0 (some 24) (bN 8 1) HT_ ?_
       refine qP 1 (some 25) (bN 8 3) HT_ ?_
       refine qP 2 (some 26) (bN 8 7) HT_ ?_
       refine qP 3 (some 27) (bN 8 15) HT_ ?_
       refine qT 4 (some 28) (bN 8 31) HT_ HW_ hHeld ?_
       refine qT 5 (some 29) (bN 8 63) HT_ HW_ hHeld ?_
       refine Zb (i:=6) (N:=some 30) (bN 8 127) rfl rfl (Q4 HT_.out kr) (by decide) (fun K hK=>?_)
       refine X8 Try.func79 kr rfl #[] #[] #[.agg #[.int .i64 ((Qd l0 (X)).f0),.int .i64 ((Qd l0 (X)).f1),.int .i64 ((Qd l0 (X)).f2)],.agg #[.int .i64 ζ,.int .i64 ε,.int .i64 κ]] #[.agg #[.int .i64 ((Qd l0 (X)).f0),.int .i64 ((Qd l0 (X)).f1),.int .i64 ((Qd l0 (X)).f2)],.agg #[.int .i64 ζ,.int .i64 ε,.int .i64 κ]] rfl (by rfl) rfl rfl rfl (by(try simp only[List.map_toArray,List.map_cons,List.map_nil]);first|done|(simp only[a9];rfl)|rfl|(simp only[List.length_drop,List.length_take];rfl)) ?_
       with_reducible refine(call_halls_1.calls ((Qd l0 (X)).f0) ((Qd l0 (X)).f1) ((Qd l0 (X)).f2) ζ ε κ a1 _ A9.out).mono ?_
       rintro e ec ⟨rfl,hb⟩
       refine⟨_,rfl, ?_⟩
       replace O:=sBk O hb
       replace HB:=sHb hb
       (try clear hb)
       (try clear ac)
       (try clear hk)
       (try clear hi)
       refine hK.out _ _ ⟨qc O,qc O,qc O,((HB.out.cell (World.block_lt_of_cell? w _ ν)).trans ν),((HB.out.cell (World.block_lt_of_cell? w _ μ)).trans μ),((HB.out.cell (World.block_lt_of_cell? w _ θ)).trans θ)⟩ (fun hHeld=>?_)
       clear hK K
       refine qN (some 30) ?_
       refine qP 7 (some 31) (bN 8 255) HT_ ?_
       refine Zx (Ze HT_.out kr) ?_
       try go_wp2
       go_roundg k1
       case measure=>have:=b0.out;omega
       case rel=>exact⟨(B),(X),rfl,(by first|rfl|(simp;done)|(simp only[← a9] <;> (first|rfl|simp))|(simp[*];done)),H',⟨by have:=b0.out;omega⟩,O,HB⟩
     ·rw[if_neg c8] at H
      exact absurd H (by simp)
    ·rw[if_neg c7] at H
     exact absurd H (by simp)
   ·rw[if_neg c5] at H
    have c5b0:decide (B<J)=false:=decide_eq_false c5
    clear c5
    by_cases ci:B<(l0.length:Int)
    ·rw[if_pos ci] at H
     have c15b0:decide (B<(l0.length:Int))=true:=decide_eq_true ci
     clear ci
     by_cases ψ :0≤B
     ·rw[if_pos ψ] at H
      have c16b0:decide (0≤B)=true:=decide_eq_true ψ
      clear ψ
      by_cases σ:B<(l0.length:Int)
      ·rw[if_pos σ] at H
       have c17b0:decide (B<(l0.length:Int))=true:=decide_eq_true σ
       clear σ
       replace H:=Option.bind_eq_some_iff.mp H
       obtain⟨ι,az,H⟩:=H
       replace H:(some (B,(ι == 0)))=some (r1,r2):=H
       have d2:=Aside0.mk az
       clear az
       simp only[Option.some.injEq,Prod.mk.injEq] at H
       obtain⟨rfl,rfl⟩:=H
       try go_wp2
       replace O:=Aside0.mk (Qe O.out)
       replace HB:=Aside0.mk (Qg HB.out)
       have ω :0≤(B:Int):=of_decide_eq_true (by assumption)
       have a0:B<(l0.length:Int):=of_decide_eq_true (by assumption)
       obtain⟨a5,ae,τ,a3,a4⟩:=X3 χ.out B ω a0
       have a6:=a4
       have a7:=a3
       have a8:= τ
       cases ae
       replace τ :=(HB.out.cell (World.block_lt_of_cell? w _ τ)).trans τ
       replace a3:=(HB.out.cell (World.block_lt_of_cell? w _ a3)).trans a3
       replace a4:=(HB.out.cell (World.block_lt_of_cell? w _ a4)).trans a4
       replace ω :=eq_true ω
       replace a0:=eq_true a0
       refine Zi (n:=16) (S:=fun w'=>w'.cell? ⟨φ,0,none⟩=some (.int .i64 ζ)∧w'.cell? ⟨φ,1,none⟩=some (.int .i64 ε)∧w'.cell? ⟨φ,2,none⟩=some (.int .i64 κ)∧w'.cell? (a5.add ((B).toNat * 3))=some (.int .i64 ((Qd l0 B).f0))∧w'.cell? ⟨(a5.add ((B).toNat * 3)).block,(a5.add ((B).toNat * 3)).off+1,none⟩=some (.int .i64 ((Qd l0 B).f1))∧w'.cell? ⟨(a5.add ((B).toNat * 3)).block,(a5.add ((B).toNat * 3)).off+2,none⟩=some (.int .i64 ((Qd l0 B).f2))) (ds:=[]) #[false,false,false,false,false,false,false,false,false,false,false,false,false,false,false,false] kr rfl rfl ⟨(Qa O.out 0).trans rfl,(Qa O.out 1).trans rfl,(Qa O.out 2).trans rfl,((HB.out.cell (World.block_lt_of_cell? w _ a8)).trans a8),((HB.out.cell (World.block_lt_of_cell? w _ a7)).trans a7),((HB.out.cell (World.block_lt_of_cell? w _ a6)).trans a6)⟩ (fun hHeld=>?_);refine Q9 api_Hall_89.N6 api_Hall_89.Lh (fun HT_ HW_=>?_)
       generalize wr.drew=b6 at O HB τ a3 a4 hHeld ⊢
       refine qP 0 (some 35) (bN 16 1) HT_ ?_
       refine qP 1 (some 36) (bN 16 3) HT_ ?_
       refine qP 2 (some 37) (bN 16 7) HT_ ?_
       refine qP 3 (some 38) (bN 16 15) HT_ ?_
       refine qP 4 (some 39) (bN 16 31) HT_ ?_
       refine qP 5 (some 40) (bN 16 63) HT_ ?_
       refine qP 6 (some 41) (bN 16 127) HT_ ?_
       refine qP 7 (some 42) (bN 16 255) HT_ ?_
       refine qP 8 (some 43) (bN 16 511) HT_ ?_
       refine qT 9 (some 44) (bN 16 1023) HT_ HW_ hHeld ?_
       refine qT 10 (some 45) (bN 16 2047) HT_ HW_ hHeld ?_
       refine Zb (i:=11) (N:=some 46) (bN 16 4095) rfl rfl (Q4 HT_.out kr) (by decide) (fun K hK=>?_)
       refine X8 Try.func79 kr rfl #[] #[] #[.agg #[.int .i64 ((Qd l0 B).f0),.int .i64 ((Qd l0 B).f1),.int .i64 ((Qd l0 B).f2)],.agg #[.int .i64 ζ,.int .i64 ε,.int .i64 κ]] #[.agg #[.int .i64 ((Qd l0 B).f0),.int .i64 ((Qd l0 B).f1),.int .i64 ((Qd l0 B).f2)],.agg #[.int .i64 ζ,.int .i64 ε,.int .i64 κ]] rfl (by rfl) rfl rfl rfl qM ?_
       with_reducible refine(call_halls_1.calls ((Qd l0 B).f0) ((Qd l0 B).f1) ((Qd l0 B).f2) ζ ε κ ι _ d2.out).mono ?_
       rintro e dj ⟨rfl,hb⟩
       refine⟨_,rfl, ?_⟩
       replace O:=sBk O hb
       replace HB:=sHb hb
       (try clear hb)
       (try clear ac)
       (try clear hk)
       (try clear hi)
       refine hK.out _ _ ⟨qc O,qc O,qc O,((HB.out.cell (World.block_lt_of_cell? w _ a8)).trans a8),((HB.out.cell (World.block_lt_of_cell? w _ a7)).trans a7),((HB.out.cell (World.block_lt_of_cell? w _ a6)).trans a6)⟩ (fun hHeld=>?_)
       clear hK K
       refine qN (some 46) ?_
       refine qP 12 (some 47) (bN 16 8191) HT_ ?_
       refine qP 13 (some 48) (bN 16 16383) HT_ ?_
       refine qP 14 (some 6) (bN 16 32767) HT_ ?_
       refine qP 15 (some 7) (bN 16 65535) HT_ ?_
       refine Zx (Ze HT_.out kr) ?_
       try go_wp2
       go_ret2
       exact⟨rfl,HB.out⟩
      ·rw[if_neg σ] at H
       exact absurd H (by simp)
     ·rw[if_neg ψ] at H
      exact absurd H (by simp)
    ·rw[if_neg ci] at H
     have c15b0:decide (B<(l0.length:Int))=false:=decide_eq_false ci
     clear ci
     simp only[Option.some.injEq,Prod.mk.injEq] at H
     obtain⟨rfl,rfl⟩:=H
     try go_wp2
     replace O:=Aside0.mk (Qe O.out)
     replace HB:=Aside0.mk (Qg HB.out)
     refine Zi (n:=16) (S:=fun w'=>True) (ds:=[]) #[false,false,false,false,false,false,false,false,false,false,false,false,false,false,false,false] kr rfl rfl trivial (fun hHeld=>?_);refine Q9 api_Hall_89.N6 api_Hall_89.Lh (fun HT_ HW_=>?_)
     generalize wr.drew=cz at O HB hHeld ⊢
     refine qP 0 (some 35) (bN 16 1) HT_ ?_
     refine qP 1 (some 36) (bN 16 3) HT_ ?_
     refine qP 2 (some 37) (bN 16 7) HT_ ?_
     refine qP 3 (some 38) (bN 16 15) HT_ ?_
     refine qP 4 (some 39) (bN 16 31) HT_ ?_
     refine qU 5 (some 40) (bN 16 63) HT_ ?_
     refine qU 6 (some 41) (bN 16 127) HT_ ?_
     refine qU 7 (some 42) (bN 16 255) HT_ ?_
     refine qU 8 (some 43) (bN 16 511) HT_ ?_
     refine qU 9 (some 44) (bN 16 1023) HT_ ?_
     refine qU 10 (some 45) (bN 16 2047) HT_ ?_
     refine qU 11 (some 46) (bN 16 4095) HT_ ?_
     refine qU 12 (some 47) (bN 16 8191) HT_ ?_
     refine qP 13 (some 48) (bN 16 16383) HT_ ?_
     refine qP 14 (some 6) (bN 16 32767) HT_ ?_
     refine qP 15 (some 7) (bN 16 65535) HT_ ?_
     refine Zx (Ze HT_.out kr) ?_
     try go_wp2
     go_ret2
     exact⟨rfl,HB.out⟩
mutual
def api_Hall_right.l0:Nat→Int→List (S36)→Int→Int→List (S36)→Int→Option (Bool)
 |0,_,_,_,_,_,_=>none
 |k+1,J,X,Y,O,B,Z=>if O<Y then (if 0≤O then (if O<(X.length:Int) then ((call_hall_1.f ((Qd X O).f0) ((Qd X O).f1) ((Qd X O).f2) J).bind fun ν =>(if ν = true then (if O>0 then (if 0≤(wrap64 (O-1)) then (if (wrap64 (O-1))<(B.length:Int) then ((call_halls_1.f ((Qd B (wrap64 (O-1))).f0) ((Qd B (wrap64 (O-1))).f1) ((Qd B (wrap64 (O-1))).f2) ((Qd X O).f0) ((Qd X O).f1) ((Qd X O).f2)).bind fun χ =>(api_Hall_right.j1 k J X Y O (decide (χ ≥ 0)) B Z)) else (none)) else (none)) else (api_Hall_right.j1 k J X Y O false B Z)) else (api_Hall_right.j1 k J X Y O true B Z))) else (none)) else (none)) else (some true)
def api_Hall_right.j1:Nat→Int→List (S36)→Int→Int→Bool→List (S36)→Int→Option (Bool)
 |0,_,_,_,_,_,_,_=>none
 |k+1,J,X,Y,O,ν,B,Z=>if ν = true then (some false) else (api_Hall_right.l0 k J X Y (wrap64 (O+1)) B Z)
end
def api_Hall_right.f (k:Nat) (B:List (S36)) (O:Int) (Y:Int):Option (Bool):=api_Hall_right.l0 k Y B (B.length:Int) 0 B O
def api_Hall_right.T4:Bool×List (List Nat×List Nat):=(true,[([],[]),([],[]),([0,1],[0,1]),([2],[2]),([3,2],[3]),([4],[4]),([5,4],[4,5]),([6,4,4],[4,6]),([7],[7]),([8,7],[7,8]),([7],[7]),([10,7],[7,10]),([7],[7]),([12,7],[7,12]),([11,13,7],[7,11,13]),([14,7],[7,14]),([7],[7]),([9,15,16,7,7],[7,9,15,16]),([17,7],[7,17]),([7,18,4],[4,7,18]),([4,19],[4,19])])
def api_Hall_right.B4:List Nat:=[0,0,3,7,15,31,63,127,255,511,255,1279,255,4351,15615,31999,255,131071,262143,524287,1048575]
theorem api_Hall_right.Vu:rtab .any (opsOf Try.f64 4)=api_Hall_right.T4:=by kernel_rfl
theorem api_Hall_right.Kx:Zk api_Hall_right.T4.2 api_Hall_right.B4=true:=by kernel_rfl
set_option maxHeartbeats 8000000 in
set_option maxRecDepth 100000 in
theorem api_Hall_right.calls (k:Nat) (ι :Option Addr) (θ :Nat) (B:List (S36)) (O:Int) (Y:Int) (r:Bool) (w:World) (a6:Kd.C k36 w ι B.length B) (a8:B.length ≤ θ) (h:api_Hall_right.f k B O Y=some r) (gh_:Nat) (hgh_:w.heap[gh_]?=some (.cells #[.int .i64 (Yk Y),.int .i64 (Yj Y)] 59 (0,0))):
  Calls Try.prog 64 #[.agg #[.slice ι B.length θ,.func (.func 79) #[] #[]],.func (.func 82) #[] #[.pointer (some ⟨gh_,0,none⟩)]] w fun e w'=>e = .returned (.bool r)∧Below w.heap.size w w':=by
 have HCH:=Aside0.mk hgh_
 clear hgh_
 have cg:=Try.underlying109
 have e4:=Try.underlying36
 have a9:=Aside0.mk a6
 have ao:=Aside0.mk a8
 clear a6 a8
 have HB:=Aside0.mk (Below.refl w.heap.size w)
 have H:(api_Hall_right.l0 k Y B (B.length:Int) 0 B O)=some r:=h
 clear h
 have H':=Aside0.mk H
 clear H
 go_enter Try.func64,Try.ntmps64
 go_wp2_with (first|((with_reducible refine Qf (N:=2) rfl ?_);refine qE 2 #[.slice ι B.length θ,.func (.func 79) #[] #[]] 109 ?_;intro τ hg w3 hbox hb;have γ:=Aside0.mk hbox;have bh:=sGe hg;have ar:=sGe hg;replace HB:=sHb hb;clear hb hbox hg;obtain⟨ab,ag,ai,aj⟩:=qD2 γ.out))
 go_loopg [10] k (fun kq ap w'=>∃ (J:Int),ap = .int .i64 J∧Aside0 (api_Hall_right.l0 kq Y B (B.length:Int) J B O=some r)∧Aside0 (kq≤k)∧Aside0 (w'.heap[τ]?=some (.cells #[(.slice ι B.length θ),.func (.func 79) #[] #[]] 109 (0,0)))∧Aside0 (Below w.heap.size w w'))
 case atStart=>exact⟨(0),rfl,H',⟨Nat.le_refl _⟩,γ,HB⟩
 case round=>
  clear H'
  try clear p2
  try clear ab
  try clear ag
  try clear ai
  try clear aj
  obtain⟨J,rfl,HA,b0,γ,HB⟩:=hrel
  cases gk with
  |zero=>exact absurd HA.out (by simp[api_Hall_right.l0])
  |succ k1=>
   have H:=HA.out
   clear HA
   simp only[api_Hall_right.l0] at H
   by_cases c5:J<(B.length:Int)
   ·rw[if_pos c5] at H
    have c5b0:decide (J<(B.length:Int))=true:=decide_eq_true c5
    clear c5
    by_cases c6:0≤J
    ·rw[if_pos c6] at H
     have c6b0:decide (0≤J)=true:=decide_eq_true c6
     clear c6
     by_cases c7:J<(B.length:Int)
     ·rw[if_pos c7] at H
      have c7b0:decide (J<(B.length:Int))=true:=decide_eq_true c7
      clear c7
      have al:=Aside0.mk H
      clear H
      have ae:0≤(J:Int):=of_decide_eq_true (by assumption)
      have af:J<(B.length:Int):=of_decide_eq_true (by assumption)
      obtain⟨ζ,av,κ,ω,ak⟩:=X3 a9.out J ae af
      cases av
      replace κ :=(HB.out.cell (World.block_lt_of_cell? w _ κ)).trans κ
      replace ω :=(HB.out.cell (World.block_lt_of_cell? w _ ω)).trans ω
      replace ak:=(HB.out.cell (World.block_lt_of_cell? w _ ak)).trans ak
      replace ae:=eq_true ae
      replace af:=eq_true af
      go_upto_region 4 with(first|((with_reducible refine Qf (N:=6) rfl ?_);refine qE 6 #[.int .i64 0,.int .i64 0,.int .i64 0] 36 ?_;intro ε hg w9 hbox hb;have X:=Aside0.mk hbox;have φ :=sGe hg;have b1:=sGe hg;have aw:=sNl γ hg;have ax:=sNg γ hg;replace γ:=sBk γ hb;replace HB:=sHb hb;clear hb hbox hg;have jk:=ax.out;have jl:=aw.out;obtain⟨dq,dr,e0,dt,du,e3⟩:=qD3 X.out))
      (try simp only[Act.put,qS])
      go_cut [35] (fun b3 wc=>∃ (kq:Nat) (μ :Bool),b3 = .bool μ ∧ Aside0 (api_Hall_right.j1 kq Y B (B.length:Int) J μ B O=some r)∧Aside0 (kq≤k1)∧Aside0 (wc.heap[τ]?=some (.cells #[(.slice (some ζ) B.length θ),.func (.func 79) #[] #[]] 109 (0,0)))∧Aside0 (wc.heap[ε]?=some (.cells #[.int .i64 ((Qd B J).f0),.int .i64 ((Qd B J).f1),.int .i64 ((Qd B J).f2)] 36 (0,0)))∧Aside0 (Below w.heap.size w wc))
      case first=>
       have H:=al.out
       clear al
       replace H:=Option.bind_eq_some_iff.mp H
       obtain⟨ν,ah,H⟩:=H
       replace H:(if ν = true then (if J>0 then (if 0≤(wrap64 (J-1)) then (if (wrap64 (J-1))<(B.length:Int) then ((call_halls_1.f ((Qd B (wrap64 (J-1))).f0) ((Qd B (wrap64 (J-1))).f1) ((Qd B (wrap64 (J-1))).f2) ((Qd B J).f0) ((Qd B J).f1) ((Qd B J).f2)).bind fun χ =>(api_Hall_right.j1 k1 Y B (B.length:Int) J (decide (χ ≥ 0)) B O)) else (none)) else (none)) else (api_Hall_right.j1 k1 Y B (B.length:Int) J false B O)) else (api_Hall_right.j1 k1 Y B (B.length:Int) J true B O))=some r:=H
       have a7:=Aside0.mk ah
       clear ah
       by_cases cy: ν = true
       ·subst cy
        have H1:(if J>0 then (if 0≤(wrap64 (J-1)) then (if (wrap64 (J-1))<(B.length:Int) then ((call_halls_1.f ((Qd B (wrap64 (J-1))).f0) ((Qd B (wrap64 (J-1))).f1) ((Qd B (wrap64 (J-1))).f2) ((Qd B J).f0) ((Qd B J).f1) ((Qd B J).f2)).bind fun χ =>(api_Hall_right.j1 k1 Y B (B.length:Int) J (decide (χ ≥ 0)) B O)) else (none)) else (none)) else (api_Hall_right.j1 k1 Y B (B.length:Int) J false B O))=some r:=by rw[if_pos rfl] at H;exact H
        clear H
        have H:=H1
        clear H1
        by_cases bp:J>0
        ·rw[if_pos bp] at H
         have c14b0:decide (0<J)=true:=decide_eq_true bp
         clear bp
         (first|rw[c14b0]|(simp only[Zg,Zl];rw[c14b0])|skip)
         obtain⟨δ,η⟩:∃ j_:Int,(wrap64 (J-1))=j_:=⟨_,rfl⟩
         replace H:(if 0≤(δ) then (if (δ)<(B.length:Int) then ((call_halls_1.f ((Qd B (δ)).f0) ((Qd B (δ)).f1) ((Qd B (δ)).f2) ((Qd B J).f0) ((Qd B J).f1) ((Qd B J).f2)).bind fun χ =>(api_Hall_right.j1 k1 Y B (B.length:Int) J (decide (χ ≥ 0)) B O)) else (none)) else (none))=some r:=by first|(rw[η] at H;exact H)|(simp only[η] at H ⊢;exact H)
         (try rw[η] at a7)
         have hji15w:(IntKind.i64.wrap (J-1)) = δ :=(Zg _).trans η
         by_cases ψ :0≤(δ)
         ·rw[if_pos ψ] at H
          have c16b0:decide (0≤(δ))=true:=decide_eq_true ψ
          clear ψ
          by_cases σ:(δ)<(B.length:Int)
          ·rw[if_pos σ] at H
           have c17b0:decide ((δ)<(B.length:Int))=true:=decide_eq_true σ
           clear σ
           replace H:=Option.bind_eq_some_iff.mp H
           obtain⟨χ,az,H⟩:=H
           replace H:(api_Hall_right.j1 k1 Y B (B.length:Int) J (decide (χ ≥ 0)) B O)=some r:=H
           have d2:=Aside0.mk az
           clear az
           have H':=Aside0.mk H
           clear H
           try go_wp2
           have ξ :Aside0 ((((w9.setCell ⟨ε,0,none⟩ (.int .i64 ((Qd B J).f0))).setCell ⟨ε,1,none⟩ (.int .i64 ((Qd B J).f1))).setCell ⟨ε,2,none⟩ (.int .i64 ((Qd B J).f2))).heap[τ]?=some (.cells #[.slice (some ζ) B.length θ,.func (.func 79) #[] #[]] 109 (0,0))):=⟨bka γ⟩
           have ρ:Aside0 ((((w9.setCell ⟨ε,0,none⟩ (.int .i64 ((Qd B J).f0))).setCell ⟨ε,1,none⟩ (.int .i64 ((Qd B J).f1))).setCell ⟨ε,2,none⟩ (.int .i64 ((Qd B J).f2))).heap[ε]?=some (.cells #[.int .i64 ((Qd B J).f0),.int .i64 ((Qd B J).f1),.int .i64 ((Qd B J).f2)] 36 (0,0))):=⟨by refine Ql (cs:=#[.int .i64 ((Qd B J).f0),.int .i64 ((Qd B J).f1),.int .i64 0]) ?_ 2 _ rfl;refine Ql (cs:=#[.int .i64 ((Qd B J).f0),.int .i64 0,.int .i64 0]) ?_ 1 _ rfl;refine Ql (cs:=#[.int .i64 0,.int .i64 0,.int .i64 0]) ?_ 0 _ rfl;exact X.out⟩
           have a3:Aside0 (Below w.heap.size w (((w9.setCell ⟨ε,0,none⟩ (.int .i64 ((Qd B J).f0))).setCell ⟨ε,1,none⟩ (.int .i64 ((Qd B J).f1))).setCell ⟨ε,2,none⟩ (.int .i64 ((Qd B J).f2)))):=⟨bel⟩
           (try clear γ)
           (try clear X)
           (try clear HB)
           generalize(((w9.setCell ⟨ε,0,none⟩ (.int .i64 ((Qd B J).f0))).setCell ⟨ε,1,none⟩ (.int .i64 ((Qd B J).f1))).setCell ⟨ε,2,none⟩ (.int .i64 ((Qd B J).f2)))=b6 at ξ ρ a3 ⊢
           have γ:= ξ
           have X:=ρ
           have HB:=a3
           clear ξ ρ a3
           replace γ:=Aside0.mk (Qe γ.out)
           replace X:=Aside0.mk (Qe X.out)
           replace HB:=Aside0.mk (Qg HB.out)
           have am:0≤((δ):Int):=of_decide_eq_true (by assumption)
           have an:(δ)<(B.length:Int):=of_decide_eq_true (by assumption)
           obtain⟨b4,b5,Z,a0,a2⟩:=X3 a9.out (δ) am an
           have a4:=a2
           have a5:=a0
           have aa:=Z
           obtain rfl: ζ = b4:=(by injection b5)
           replace Z:=(HB.out.cell (World.block_lt_of_cell? w _ Z)).trans Z
           replace a0:=(HB.out.cell (World.block_lt_of_cell? w _ a0)).trans a0
           replace a2:=(HB.out.cell (World.block_lt_of_cell? w _ a2)).trans a2
           replace am:=eq_true am
           replace an:=eq_true an
           refine Zi (n:=21) (S:=fun w'=>w'.cell? ⟨ε,0,none⟩=some (.int .i64 ((Qd B J).f0))∧w'.cell? ⟨ε,1,none⟩=some (.int .i64 ((Qd B J).f1))∧w'.cell? ⟨ε,2,none⟩=some (.int .i64 ((Qd B J).f2))∧w'.cell? ⟨τ,0,none⟩=some (.slice (some ζ) B.length θ)∧w'.cell? ⟨τ,1,none⟩=some (.func (.func 79) #[] #[])∧w'.cell? (ζ.add (((δ)).toNat * 3))=some (.int .i64 ((Qd B (δ)).f0))∧w'.cell? ⟨(ζ.add (((δ)).toNat * 3)).block,(ζ.add (((δ)).toNat * 3)).off+1,none⟩=some (.int .i64 ((Qd B (δ)).f1))∧w'.cell? ⟨(ζ.add (((δ)).toNat * 3)).block,(ζ.add (((δ)).toNat * 3)).off+2,none⟩=some (.int .i64 ((Qd B (δ)).f2))) (ds:=[]) #[false,false,false,false,false,false,false,false,false,false,false,false,false,false,false,false,false,false,false,false,false] kr rfl rfl ⟨(Qa X.out 0).trans rfl,(Qa X.out 1).trans rfl,(Qa X.out 2).trans rfl,(Qa γ.out 0).trans rfl,(Qa γ.out 1).trans rfl,((HB.out.cell (World.block_lt_of_cell? w _ aa)).trans aa),((HB.out.cell (World.block_lt_of_cell? w _ a5)).trans a5),((HB.out.cell (World.block_lt_of_cell? w _ a4)).trans a4)⟩ (fun hHeld=>?_);refine Q9 api_Hall_right.Vu api_Hall_right.Kx (fun HT_ HW_=>?_)
           generalize b6.drew=dj at γ X HB Z a0 a2 hHeld ⊢
           refine qP 0 (some 15) (bN 21 1) HT_ ?_
           refine qT 1 (some 16) (bN 21 3) HT_ HW_ hHeld ?_
           refine Zb (i:=2) (N:=some 17) (bN 21 7) rfl rfl (Q4 HT_.out kr) (by decide) (fun K hK=>?_)
           refine X8 Try.func82 kr rfl #[] #[.pointer (some ⟨gh_,0,none⟩)] #[.agg #[.int .i64 ((Qd B J).f0),.int .i64 ((Qd B J).f1),.int .i64 ((Qd B J).f2)]] #[.agg #[.int .i64 ((Qd B J).f0),.int .i64 ((Qd B J).f1),.int .i64 ((Qd B J).f2)],.pointer (some ⟨gh_,0,none⟩)] rfl (by rfl) rfl rfl rfl qM ?_
           with_reducible refine(call_hall_1.calls ((Qd B J).f0) ((Qd B J).f1) ((Qd B J).f2) Y true _ a7.out gh_ (Z8 HCH.out (by repeat(first|(with_reducible first|exact HB.out|apply Qs|apply Qh|apply Qg)|exact HB.out|(refine Qv ?_ (Aside0.out (by assumption))))))).mono ?_
           rintro e cz ⟨rfl,hb⟩
           refine⟨_,rfl, ?_⟩
           replace γ:=sBk γ hb
           replace X:=sBk X hb
           replace HB:=sHb hb
           (try clear hb)
           (try clear ac)
           (try clear hk)
           (try clear hi)
           refine hK.out _ _ ⟨qc X,qc X,qc X,qc γ,qc γ,((HB.out.cell (World.block_lt_of_cell? w _ aa)).trans aa),((HB.out.cell (World.block_lt_of_cell? w _ a5)).trans a5),((HB.out.cell (World.block_lt_of_cell? w _ a4)).trans a4)⟩ (fun hHeld=>?_)
           clear hK K
           refine qN (some 17) ?_
           refine qP 3 (some 18) (bN 21 15) HT_ ?_
           refine qP 4 (some 19) (bN 21 31) HT_ ?_
           refine qP 5 (some 20) (bN 21 63) HT_ ?_
           refine qP 6 (some 21) (bN 21 127) HT_ ?_
           refine qP 7 (some 22) (bN 21 255) HT_ ?_
           refine qP 8 (some 23) (bN 21 511) HT_ ?_
           refine qP 10 (some 25) (bN 21 1535) HT_ ?_
           refine qP 12 (some 27) (bN 21 5631) HT_ ?_
           refine qP 13 (some 28) (bN 21 13823) HT_ ?_
           refine qT 9 (some 24) (bN 21 14335) HT_ HW_ hHeld ?_
           refine qT 11 (some 26) (bN 21 16383) HT_ HW_ hHeld ?_
           refine qP 14 (some 29) (bN 21 32767) HT_ ?_
           refine qT 15 (some 30) (bN 21 65535) HT_ HW_ hHeld ?_
           refine qT 16 (some 31) (bN 21 131071) HT_ HW_ hHeld ?_
           refine Zb (i:=17) (N:=some 32) (bN 21 262143) rfl rfl (Q4 HT_.out kr) (by decide) (fun K hK=>?_)
           refine X8 Try.func79 kr rfl #[] #[] #[.agg #[.int .i64 ((Qd B (δ)).f0),.int .i64 ((Qd B (δ)).f1),.int .i64 ((Qd B (δ)).f2)],.agg #[.int .i64 ((Qd B J).f0),.int .i64 ((Qd B J).f1),.int .i64 ((Qd B J).f2)]] #[.agg #[.int .i64 ((Qd B (δ)).f0),.int .i64 ((Qd B (δ)).f1),.int .i64 ((Qd B (δ)).f2)],.agg #[.int .i64 ((Qd B J).f0),.int .i64 ((Qd B J).f1),.int .i64 ((Qd B J).f2)]] rfl (by rfl) rfl rfl rfl (by(try simp only[List.map_toArray,List.map_cons,List.map_nil]);first|done|(simp only[η];rfl)|rfl|(simp only[List.length_drop,List.length_take];rfl)) ?_
           with_reducible refine(call_halls_1.calls ((Qd B (δ)).f0) ((Qd B (δ)).f1) ((Qd B (δ)).f2) ((Qd B J).f0) ((Qd B J).f1) ((Qd B J).f2) χ _ d2.out).mono ?_
           rintro e bf ⟨rfl,hb⟩
           refine⟨_,rfl, ?_⟩
           replace γ:=sBk γ hb
           replace X:=sBk X hb
           replace HB:=sHb hb
           (try clear hb)
           (try clear ac)
           (try clear hk)
           (try clear hi)
           refine hK.out _ _ ⟨qc X,qc X,qc X,qc γ,qc γ,((HB.out.cell (World.block_lt_of_cell? w _ aa)).trans aa),((HB.out.cell (World.block_lt_of_cell? w _ a5)).trans a5),((HB.out.cell (World.block_lt_of_cell? w _ a4)).trans a4)⟩ (fun hHeld=>?_)
           clear hK K
           refine qN (some 32) ?_
           refine qP 18 (some 33) (bN 21 524287) HT_ ?_
           refine qP 19 (some 34) (bN 21 1048575) HT_ ?_
           refine qP 20 (some 35) (bN 21 2097151) HT_ ?_
           refine Zx (Ze HT_.out kr) ?_
           try go_wp2
           go_meet
           case rel=>exact⟨_,(decide (χ ≥ 0)),rfl,H',⟨by have:=b0.out;omega⟩,γ,X,HB⟩
          ·rw[if_neg σ] at H
           exact absurd H (by simp)
         ·rw[if_neg ψ] at H
          exact absurd H (by simp)
        ·rw[if_neg bp] at H
         have c14b0:decide (0<J)=false:=decide_eq_false bp
         clear bp
         (first|rw[c14b0]|(simp only[Zg,Zl];rw[c14b0])|skip)
         have H':=Aside0.mk H
         clear H
         try go_wp2
         have ξ :Aside0 ((((w9.setCell ⟨ε,0,none⟩ (.int .i64 ((Qd B J).f0))).setCell ⟨ε,1,none⟩ (.int .i64 ((Qd B J).f1))).setCell ⟨ε,2,none⟩ (.int .i64 ((Qd B J).f2))).heap[τ]?=some (.cells #[.slice (some ζ) B.length θ,.func (.func 79) #[] #[]] 109 (0,0))):=⟨bka γ⟩
         have ρ:Aside0 ((((w9.setCell ⟨ε,0,none⟩ (.int .i64 ((Qd B J).f0))).setCell ⟨ε,1,none⟩ (.int .i64 ((Qd B J).f1))).setCell ⟨ε,2,none⟩ (.int .i64 ((Qd B J).f2))).heap[ε]?=some (.cells #[.int .i64 ((Qd B J).f0),.int .i64 ((Qd B J).f1),.int .i64 ((Qd B J).f2)] 36 (0,0))):=⟨by refine Ql (cs:=#[.int .i64 ((Qd B J).f0),.int .i64 ((Qd B J).f1),.int .i64 0]) ?_ 2 _ rfl;refine Ql (cs:=#[.int .i64 ((Qd B J).f0),.int .i64 0,.int .i64 0]) ?_ 1 _ rfl;refine Ql (cs:=#[.int .i64 0,.int .i64 0,.int .i64 0]) ?_ 0 _ rfl;exact X.out⟩
         have a3:Aside0 (Below w.heap.size w (((w9.setCell ⟨ε,0,none⟩ (.int .i64 ((Qd B J).f0))).setCell ⟨ε,1,none⟩ (.int .i64 ((Qd B J).f1))).setCell ⟨ε,2,none⟩ (.int .i64 ((Qd B J).f2)))):=⟨bel⟩
         (try clear γ)
         (try clear X)
         (try clear HB)
         generalize(((w9.setCell ⟨ε,0,none⟩ (.int .i64 ((Qd B J).f0))).setCell ⟨ε,1,none⟩ (.int .i64 ((Qd B J).f1))).setCell ⟨ε,2,none⟩ (.int .i64 ((Qd B J).f2)))=bd at ξ ρ a3 ⊢
         have γ:= ξ
         have X:=ρ
         have HB:=a3
         clear ξ ρ a3
         replace γ:=Aside0.mk (Qe γ.out)
         replace X:=Aside0.mk (Qe X.out)
         replace HB:=Aside0.mk (Qg HB.out)
         refine Zi (n:=21) (S:=fun w'=>w'.cell? ⟨ε,0,none⟩=some (.int .i64 ((Qd B J).f0))∧w'.cell? ⟨ε,1,none⟩=some (.int .i64 ((Qd B J).f1))∧w'.cell? ⟨ε,2,none⟩=some (.int .i64 ((Qd B J).f2))) (ds:=[]) #[false,false,false,false,false,false,false,false,false,false,false,false,false,false,false,false,false,false,false,false,false] kr rfl rfl ⟨(Qa X.out 0).trans rfl,(Qa X.out 1).trans rfl,(Qa X.out 2).trans rfl⟩ (fun hHeld=>?_);refine Q9 api_Hall_right.Vu api_Hall_right.Kx (fun HT_ HW_=>?_)
         generalize bd.drew=bs at γ X HB hHeld ⊢
         refine qP 0 (some 15) (bN 21 1) HT_ ?_
         refine qT 1 (some 16) (bN 21 3) HT_ HW_ hHeld ?_
         refine Zb (i:=2) (N:=some 17) (bN 21 7) rfl rfl (Q4 HT_.out kr) (by decide) (fun K hK=>?_)
         refine X8 Try.func82 kr rfl #[] #[.pointer (some ⟨gh_,0,none⟩)] #[.agg #[.int .i64 ((Qd B J).f0),.int .i64 ((Qd B J).f1),.int .i64 ((Qd B J).f2)]] #[.agg #[.int .i64 ((Qd B J).f0),.int .i64 ((Qd B J).f1),.int .i64 ((Qd B J).f2)],.pointer (some ⟨gh_,0,none⟩)] rfl (by rfl) rfl rfl rfl qM ?_
         with_reducible refine(call_hall_1.calls ((Qd B J).f0) ((Qd B J).f1) ((Qd B J).f2) Y true _ a7.out gh_ (Z8 HCH.out (by repeat(first|(with_reducible first|exact HB.out|apply Qs|apply Qh|apply Qg)|exact HB.out|(refine Qv ?_ (Aside0.out (by assumption))))))).mono ?_
         rintro e e9 ⟨rfl,hb⟩
         refine⟨_,rfl, ?_⟩
         replace γ:=sBk γ hb
         replace X:=sBk X hb
         replace HB:=sHb hb
         (try clear hb)
         (try clear ac)
         (try clear hk)
         (try clear hi)
         refine hK.out _ _ ⟨qc X,qc X,qc X⟩ (fun hHeld=>?_)
         clear hK K
         refine qN (some 17) ?_
         refine qP 3 (some 18) (bN 21 15) HT_ ?_
         refine qP 4 (some 19) (bN 21 31) HT_ ?_
         refine qP 5 (some 20) (bN 21 63) HT_ ?_
         refine qP 6 (some 21) (bN 21 127) HT_ ?_
         refine qP 7 (some 22) (bN 21 255) HT_ ?_
         refine qU 8 (some 23) (bN 21 511) HT_ ?_
         refine qU 9 (some 24) (bN 21 1023) HT_ ?_
         refine qU 10 (some 25) (bN 21 2047) HT_ ?_
         refine qU 11 (some 26) (bN 21 4095) HT_ ?_
         refine qU 12 (some 27) (bN 21 8191) HT_ ?_
         refine qU 13 (some 28) (bN 21 16383) HT_ ?_
         refine qU 14 (some 29) (bN 21 32767) HT_ ?_
         refine qU 15 (some 30) (bN 21 65535) HT_ ?_
         refine qU 16 (some 31) (bN 21 131071) HT_ ?_
         refine qU 17 (some 32) (bN 21 262143) HT_ ?_
         refine qU 18 (some 33) (bN 21 524287) HT_ ?_
         refine qP 19 (some 34) (bN 21 1048575) HT_ ?_
         refine qP 20 (some 35) (bN 21 2097151) HT_ ?_
         refine Zx (Ze HT_.out kr) ?_
         try go_wp2
         go_meet
         case rel=>exact⟨_,(false),rfl,H',⟨by have:=b0.out;omega⟩,γ,X,HB⟩
       ·replace cy:=Bool.eq_false_iff.mpr cy
        subst cy
        have H1:(api_Hall_right.j1 k1 Y B (B.length:Int) J true B O)=some r:=by rw[if_neg (show ¬ (false=true) by decide)] at H;exact H
        clear H
        have H:=H1
        clear H1
        have H':=Aside0.mk H
        clear H
        try go_wp2
        have ξ :Aside0 ((((w9.setCell ⟨ε,0,none⟩ (.int .i64 ((Qd B J).f0))).setCell ⟨ε,1,none⟩ (.int .i64 ((Qd B J).f1))).setCell ⟨ε,2,none⟩ (.int .i64 ((Qd B J).f2))).heap[τ]?=some (.cells #[.slice (some ζ) B.length θ,.func (.func 79) #[] #[]] 109 (0,0))):=⟨bka γ⟩
        have ρ:Aside0 ((((w9.setCell ⟨ε,0,none⟩ (.int .i64 ((Qd B J).f0))).setCell ⟨ε,1,none⟩ (.int .i64 ((Qd B J).f1))).setCell ⟨ε,2,none⟩ (.int .i64 ((Qd B J).f2))).heap[ε]?=some (.cells #[.int .i64 ((Qd B J).f0),.int .i64 ((Qd B J).f1),.int .i64 ((Qd B J).f2)] 36 (0,0))):=⟨by refine Ql (cs:=#[.int .i64 ((Qd B J).f0),.int .i64 ((Qd B J).f1),.int .i64 0]) ?_ 2 _ rfl;refine Ql (cs:=#[.int .i64 ((Qd B J).f0),.int .i64 0,.int .i64 0]) ?_ 1 _ rfl;refine Ql (cs:=#[.int .i64 0,.int .i64 0,.int .i64 0]) ?_ 0 _ rfl;exact X.out⟩
        have a3:Aside0 (Below w.heap.size w (((w9.setCell ⟨ε,0,none⟩ (.int .i64 ((Qd B J).f0))).setCell ⟨ε,1,none⟩ (.int .i64 ((Qd B J).f1))).setCell ⟨ε,2,none⟩ (.int .i64 ((Qd B J).f2)))):=⟨bel⟩
        (try clear γ)
        (try clear X)
        (try clear HB)
        generalize(((w9.setCell ⟨ε,0,none⟩ (.int .i64 ((Qd B J).f0))).setCell ⟨ε,1,none⟩ (.int .i64 ((Qd B J).f1))).setCell ⟨ε,2,none⟩ (.int .i64 ((Qd B J).f2)))=ie at ξ ρ a3 ⊢
        have γ:= ξ
        have X:=ρ
        have HB:=a3
        clear ξ ρ a3
        replace γ:=Aside0.mk (Qe γ.out)
        replace X:=Aside0.mk (Qe X.out)
        replace HB:=Aside0.mk (Qg HB.out)
        refine Zi (n:=21) (S:=fun w'=>w'.cell? ⟨ε,0,none⟩=some (.int .i64 ((Qd B J).f0))∧w'.cell? ⟨ε,1,none⟩=some (.int .i64 ((Qd B J).f1))∧w'.cell? ⟨ε,2,none⟩=some (.int .i64 ((Qd B J).f2))) (ds:=[]) #[false,false,false,false,false,false,false,false,false,false,false,false,false,false,false,false,false,false,false,false,false] kr rfl rfl ⟨(Qa X.out 0).trans rfl,(Qa X.out 1).trans rfl,(Qa X.out 2).trans rfl⟩ (fun hHeld=>?_);refine Q9 api_Hall_right.Vu api_Hall_right.Kx (fun HT_ HW_=>?_)
        generalize ie.drew=d8 at γ X HB hHeld ⊢
        refine qP 0 (some 15) (bN 21 1) HT_ ?_
        refine qT 1 (some 16) (bN 21 3) HT_ HW_ hHeld ?_
        refine Zb (i:=2) (N:=some 17) (bN 21 7) rfl rfl (Q4 HT_.out kr) (by decide) (fun K hK=>?_)
        refine X8 Try.func82 kr rfl #[] #[.pointer (some ⟨gh_,0,none⟩)] #[.agg #[.int .i64 ((Qd B J).f0),.int .i64 ((Qd B J).f1),.int .i64 ((Qd B J).f2)]] #[.agg #[.int .i64 ((Qd B J).f0),.int .i64 ((Qd B J).f1),.int .i64 ((Qd B J).f2)],.pointer (some ⟨gh_,0,none⟩)] rfl (by rfl) rfl rfl rfl qM ?_
        with_reducible refine(call_hall_1.calls ((Qd B J).f0) ((Qd B J).f1) ((Qd B J).f2) Y false _ a7.out gh_ (Z8 HCH.out (by repeat(first|(with_reducible first|exact HB.out|apply Qs|apply Qh|apply Qg)|exact HB.out|(refine Qv ?_ (Aside0.out (by assumption))))))).mono ?_
        rintro e dy ⟨rfl,hb⟩
        refine⟨_,rfl, ?_⟩
        replace γ:=sBk γ hb
        replace X:=sBk X hb
        replace HB:=sHb hb
        (try clear hb)
        (try clear ac)
        (try clear hk)
        (try clear hi)
        refine hK.out _ _ ⟨qc X,qc X,qc X⟩ (fun hHeld=>?_)
        clear hK K
        refine qN (some 17) ?_
        refine qP 3 (some 18) (bN 21 15) HT_ ?_
        refine qP 4 (some 19) (bN 21 31) HT_ ?_
        refine qU 5 (some 20) (bN 21 63) HT_ ?_
        refine qU 6 (some 21) (bN 21 127) HT_ ?_
        refine qU 7 (some 22) (bN 21 255) HT_ ?_
        refine qU 8 (some 23) (bN 21 511) HT_ ?_
        refine qU 9 (some 24) (bN 21 1023) HT_ ?_
        refine qU 10 (some 25) (bN 21 2047) HT_ ?_
        refine qU 11 (some 26) (bN 21 4095) HT_ ?_
        refine qU 12 (some 27) (bN 21 8191) HT_ ?_
        refine qU 13 (some 28) (bN 21 16383) HT_ ?_
        refine qU 14 (some 29) (bN 21 32767) HT_ ?_
        refine qU 15 (some 30) (bN 21 65535) HT_ ?_
        refine qU 16 (some 31) (bN 21 131071) HT_ ?_
        refine qU 17 (some 32) (bN 21 262143) HT_ ?_
        refine qU 18 (some 33) (bN 21 524287) HT_ ?_
        refine qU 19 (some 34) (bN 21 1048575) HT_ ?_
        refine qP 20 (some 35) (bN 21 2097151) HT_ ?_
        refine Zx (Ze HT_.out kr) ?_
        try go_wp2
        go_meet
        case rel=>exact⟨_,(true),rfl,H',⟨by have:=b0.out;omega⟩,γ,X,HB⟩
      case rest=>
       clear al
       try clear c1
       try clear p1
       try clear q1
       try clear au
       try clear p2
       try clear c7
       try clear c8
       try clear b8
       try clear b9
       try clear b7
       try clear cy
       try clear bp
       try clear c14b0
       try clear ψ
       try clear σ
       try clear c17b0
       try clear Z
       try clear a0
       try clear a2
       try clear am
       try clear an
       obtain⟨kq,μ,rfl,HA,ay,γ,X,HB⟩:=hcut
       cases kq with
       |zero=>exact absurd HA.out (by simp[api_Hall_right.j1])
       |succ b2=>
        have H:=HA.out
        clear HA
        simp only[api_Hall_right.j1] at H
        by_cases bg: μ = true
        ·subst bg
         have H1:(some false)=some r:=by rw[if_pos rfl] at H;exact H
         clear H
         have H:=H1
         clear H1
         obtain rfl:=Option.some.inj H
         go_wp2
         go_ret
         exact⟨rfl,HB.out⟩
        ·replace bg:=Bool.eq_false_iff.mpr bg
         subst bg
         have H1:(api_Hall_right.l0 b2 Y B (B.length:Int) (wrap64 (J+1)) B O)=some r:=by rw[if_neg (show ¬ (false=true) by decide)] at H;exact H
         clear H
         have H:=H1
         clear H1
         have H':=Aside0.mk H
         clear H
         go_wp2
         go_roundg b2
         case measure=>have:=b0.out;have:=ay.out;omega
         case rel=>exact⟨(wrap64 (J+1)),rfl,H',⟨by have:=b0.out;have:=ay.out;omega⟩,γ,HB⟩
     ·rw[if_neg c7] at H
      exact absurd H (by simp)
    ·rw[if_neg c6] at H
     exact absurd H (by simp)
   ·rw[if_neg c5] at H
    have c5b0:decide (J<(B.length:Int))=false:=decide_eq_false c5
    clear c5
    obtain rfl:=Option.some.inj H
    go_wp2
    go_ret
    exact⟨rfl,HB.out⟩
mutual
def api_Inside_right.l0:Nat→Int→List (S86)→Int→Int→List (S86)→Int→Option (Bool)
 |0,_,_,_,_,_,_=>none
 |k+1,J,X,Y,O,B,Z=>if O<Y then (if 0≤O then (if O<(X.length:Int) then ((call_inside_1.f ((Qt X O).f0) ((Qt X O).f1) J).bind fun a2=>(if a2=true then (if O>0 then (if 0≤(wrap64 (O-1)) then (if (wrap64 (O-1))<(B.length:Int) then ((call_ins_1.f ((Qt B (wrap64 (O-1))).f0) ((Qt B (wrap64 (O-1))).f1) ((Qt X O).f0) ((Qt X O).f1)).bind fun κ =>(api_Inside_right.j1 k J X Y O (decide (κ ≥ 0)) B Z)) else (none)) else (none)) else (api_Inside_right.j1 k J X Y O false B Z)) else (api_Inside_right.j1 k J X Y O true B Z))) else (none)) else (none)) else (some true)
def api_Inside_right.j1:Nat→Int→List (S86)→Int→Int→Bool→List (S86)→Int→Option (Bool)
 |0,_,_,_,_,_,_,_=>none
 |k+1,J,X,Y,O,ν,B,Z=>if ν = true then (some false) else (api_Inside_right.l0 k J X Y (wrap64 (O+1)) B Z)
end
def api_Inside_right.f (k:Nat) (B:List (S86)) (O:Int) (Y:Int):Option (Bool):=api_Inside_right.l0 k Y B (B.length:Int) 0 B O
def api_Inside_right.T4:Bool×List (List Nat×List Nat):=(true,[([],[]),([],[]),([0,1],[0,1]),([2],[2]),([3,2],[3]),([4],[4]),([5,4],[4,5]),([6,4,4],[4,6]),([7],[7]),([8,7],[7,8]),([7],[7]),([10,7],[7,10]),([7],[7]),([12,7],[7,12]),([11,13,7],[7,11,13]),([14,7],[7,14]),([7],[7]),([9,15,16,7,7],[7,9,15,16]),([17,7],[7,17]),([7,18,4],[4,7,18]),([4,19],[4,19])])
def api_Inside_right.B4:List Nat:=[0,0,3,7,15,31,63,127,255,511,255,1279,255,4351,15615,31999,255,131071,262143,524287,1048575]
theorem api_Inside_right.Vu:rtab .any (opsOf Try.f67 4)=api_Inside_right.T4:=by kernel_rfl
theorem api_Inside_right.Kx:Zk api_Inside_right.T4.2 api_Inside_right.B4=true:=by kernel_rfl
set_option maxHeartbeats 8000000 in
set_option maxRecDepth 100000 in
theorem api_Inside_right.calls (k:Nat) (ι :Option Addr) (θ :Nat) (B:List (S86)) (O:Int) (Y:Int) (r:Bool) (w:World) (a6:Kd.C k86 w ι B.length B) (a8:B.length ≤ θ) (h:api_Inside_right.f k B O Y=some r) (gh_:Nat) (hgh_:w.heap[gh_]?=some (.cells #[.int .i64 (Yk Y),.int .i64 (Yj Y)] 59 (0,0))):
  Calls Try.prog 67 #[.agg #[.slice ι B.length θ,.func (.func 83) #[] #[]],.func (.func 84) #[] #[.pointer (some ⟨gh_,0,none⟩)]] w fun e w'=>e = .returned (.bool r)∧Below w.heap.size w w':=by
 have HCH:=Aside0.mk hgh_
 clear hgh_
 have ax:=Try.underlying116
 have dl:=Try.underlying86
 have a9:=Aside0.mk a6
 have ao:=Aside0.mk a8
 clear a6 a8
 have HB:=Aside0.mk (Below.refl w.heap.size w)
 have H:(api_Inside_right.l0 k Y B (B.length:Int) 0 B O)=some r:=h
 clear h
 have H':=Aside0.mk H
 clear H
 go_enter Try.func67,Try.ntmps67
 go_wp2_with (first|((with_reducible refine Qf (N:=2) rfl ?_);refine qE 2 #[.slice ι B.length θ,.func (.func 83) #[] #[]] 116 ?_;intro ω hg w3 hbox hb;have γ:=Aside0.mk hbox;have b1:=sGe hg;have b4:=sGe hg;replace HB:=sHb hb;clear hb hbox hg;obtain⟨ab,ag,ai,aj⟩:=qD2 γ.out))
 go_loopg [10] k (fun kq ap w'=>∃ (J:Int),ap = .int .i64 J∧Aside0 (api_Inside_right.l0 kq Y B (B.length:Int) J B O=some r)∧Aside0 (kq≤k)∧Aside0 (w'.heap[ω]?=some (.cells #[(.slice ι B.length θ),.func (.func 83) #[] #[]] 116 (0,0)))∧Aside0 (Below w.heap.size w w'))
 case atStart=>exact⟨(0),rfl,H',⟨Nat.le_refl _⟩,γ,HB⟩
 case round=>
  clear H'
  try clear p2
  try clear ab
  try clear ag
  try clear ai
  try clear aj
  obtain⟨J,rfl,HA,b0,γ,HB⟩:=hrel
  cases gk with
  |zero=>exact absurd HA.out (by simp[api_Inside_right.l0])
  |succ k1=>
   have H:=HA.out
   clear HA
   simp only[api_Inside_right.l0] at H
   by_cases c5:J<(B.length:Int)
   ·rw[if_pos c5] at H
    have c5b0:decide (J<(B.length:Int))=true:=decide_eq_true c5
    clear c5
    by_cases c6:0≤J
    ·rw[if_pos c6] at H
     have c6b0:decide (0≤J)=true:=decide_eq_true c6
     clear c6
     by_cases c7:J<(B.length:Int)
     ·rw[if_pos c7] at H
      have c7b0:decide (J<(B.length:Int))=true:=decide_eq_true c7
      clear c7
      have al:=Aside0.mk H
      clear H
      have ak:0≤(J:Int):=of_decide_eq_true (by assumption)
      have am:J<(B.length:Int):=of_decide_eq_true (by assumption)
      obtain⟨ε,av,a0,a4⟩:=Jk a9.out J ak am
      cases av
      replace a0:=(HB.out.cell (World.block_lt_of_cell? w _ a0)).trans a0
      replace a4:=(HB.out.cell (World.block_lt_of_cell? w _ a4)).trans a4
      replace ak:=eq_true ak
      replace am:=eq_true am
      go_upto_region 4 with(first|((with_reducible refine Qf (N:=6) rfl ?_);refine qE 6 #[.int .i64 0,.int .i64 0] 86 ?_;intro Z hg w9 hbox hb;have X:=Aside0.mk hbox;have ar:=sGe hg;have χ :=sGe hg;have ae:=sNl γ hg;have af:=sNg γ hg;replace γ:=sBk γ hb;replace HB:=sHb hb;clear hb hbox hg;have jk:=af.out;have jl:=ae.out;obtain⟨dq,dr,dt,du⟩:=qD2 X.out))
      (try simp only[Act.put,qS])
      go_cut [35] (fun b3 wc=>∃ (kq:Nat) (μ :Bool),b3 = .bool μ ∧ Aside0 (api_Inside_right.j1 kq Y B (B.length:Int) J μ B O=some r)∧Aside0 (kq≤k1)∧Aside0 (wc.heap[ω]?=some (.cells #[(.slice (some ε) B.length θ),.func (.func 83) #[] #[]] 116 (0,0)))∧Aside0 (wc.heap[Z]?=some (.cells #[.int .i64 ((Qt B J).f0),.int .i64 ((Qt B J).f1)] 86 (0,0)))∧Aside0 (Below w.heap.size w wc))
      case first=>
       have H:=al.out
       clear al
       replace H:=Option.bind_eq_some_iff.mp H
       obtain⟨a2,ah,H⟩:=H
       replace H:(if a2=true then (if J>0 then (if 0≤(wrap64 (J-1)) then (if (wrap64 (J-1))<(B.length:Int) then ((call_ins_1.f ((Qt B (wrap64 (J-1))).f0) ((Qt B (wrap64 (J-1))).f1) ((Qt B J).f0) ((Qt B J).f1)).bind fun κ =>(api_Inside_right.j1 k1 Y B (B.length:Int) J (decide (κ ≥ 0)) B O)) else (none)) else (none)) else (api_Inside_right.j1 k1 Y B (B.length:Int) J false B O)) else (api_Inside_right.j1 k1 Y B (B.length:Int) J true B O))=some r:=H
       have a7:=Aside0.mk ah
       clear ah
       by_cases cy:a2=true
       ·subst cy
        have H1:(if J>0 then (if 0≤(wrap64 (J-1)) then (if (wrap64 (J-1))<(B.length:Int) then ((call_ins_1.f ((Qt B (wrap64 (J-1))).f0) ((Qt B (wrap64 (J-1))).f1) ((Qt B J).f0) ((Qt B J).f1)).bind fun κ =>(api_Inside_right.j1 k1 Y B (B.length:Int) J (decide (κ ≥ 0)) B O)) else (none)) else (none)) else (api_Inside_right.j1 k1 Y B (B.length:Int) J false B O))=some r:=by rw[if_pos rfl] at H;exact H
        clear H
        have H:=H1
        clear H1
        by_cases bp:J>0
        ·rw[if_pos bp] at H
         have c14b0:decide (0<J)=true:=decide_eq_true bp
         clear bp
         (first|rw[c14b0]|(simp only[Zg,Zl];rw[c14b0])|skip)
         obtain⟨δ,η⟩:∃ j_:Int,(wrap64 (J-1))=j_:=⟨_,rfl⟩
         replace H:(if 0≤(δ) then (if (δ)<(B.length:Int) then ((call_ins_1.f ((Qt B (δ)).f0) ((Qt B (δ)).f1) ((Qt B J).f0) ((Qt B J).f1)).bind fun κ =>(api_Inside_right.j1 k1 Y B (B.length:Int) J (decide (κ ≥ 0)) B O)) else (none)) else (none))=some r:=by first|(rw[η] at H;exact H)|(simp only[η] at H ⊢;exact H)
         (try rw[η] at a7)
         have hji15w:(IntKind.i64.wrap (J-1)) = δ :=(Zg _).trans η
         by_cases ψ :0≤(δ)
         ·rw[if_pos ψ] at H
          have c16b0:decide (0≤(δ))=true:=decide_eq_true ψ
          clear ψ
          by_cases σ:(δ)<(B.length:Int)
          ·rw[if_pos σ] at H
           have c17b0:decide ((δ)<(B.length:Int))=true:=decide_eq_true σ
           clear σ
           replace H:=Option.bind_eq_some_iff.mp H
           obtain⟨κ,az,H⟩:=H
           replace H:(api_Inside_right.j1 k1 Y B (B.length:Int) J (decide (κ ≥ 0)) B O)=some r:=H
           have d2:=Aside0.mk az
           clear az
           have H':=Aside0.mk H
           clear H
           try go_wp2
           have ξ :Aside0 (((w9.setCell ⟨Z,0,none⟩ (.int .i64 ((Qt B J).f0))).setCell ⟨Z,1,none⟩ (.int .i64 ((Qt B J).f1))).heap[ω]?=some (.cells #[.slice (some ε) B.length θ,.func (.func 83) #[] #[]] 116 (0,0))):=⟨bka γ⟩
           have ρ:Aside0 (((w9.setCell ⟨Z,0,none⟩ (.int .i64 ((Qt B J).f0))).setCell ⟨Z,1,none⟩ (.int .i64 ((Qt B J).f1))).heap[Z]?=some (.cells #[.int .i64 ((Qt B J).f0),.int .i64 ((Qt B J).f1)] 86 (0,0))):=⟨by refine Ql (cs:=#[.int .i64 ((Qt B J).f0),.int .i64 0]) ?_ 1 _ rfl;refine Ql (cs:=#[.int .i64 0,.int .i64 0]) ?_ 0 _ rfl;exact X.out⟩
           have a3:Aside0 (Below w.heap.size w ((w9.setCell ⟨Z,0,none⟩ (.int .i64 ((Qt B J).f0))).setCell ⟨Z,1,none⟩ (.int .i64 ((Qt B J).f1)))):=⟨bel⟩
           (try clear γ)
           (try clear X)
           (try clear HB)
           generalize((w9.setCell ⟨Z,0,none⟩ (.int .i64 ((Qt B J).f0))).setCell ⟨Z,1,none⟩ (.int .i64 ((Qt B J).f1)))=b6 at ξ ρ a3 ⊢
           have γ:= ξ
           have X:=ρ
           have HB:=a3
           clear ξ ρ a3
           replace γ:=Aside0.mk (Qe γ.out)
           replace X:=Aside0.mk (Qe X.out)
           replace HB:=Aside0.mk (Qg HB.out)
           have a5:0≤((δ):Int):=of_decide_eq_true (by assumption)
           have aa:(δ)<(B.length:Int):=of_decide_eq_true (by assumption)
           obtain⟨an,aw,ζ,ν⟩:=Jk a9.out (δ) a5 aa
           have τ := ν
           have φ := ζ
           obtain rfl: ε = an:=(by injection aw)
           replace ζ :=(HB.out.cell (World.block_lt_of_cell? w _ ζ)).trans ζ
           replace ν :=(HB.out.cell (World.block_lt_of_cell? w _ ν)).trans ν
           replace a5:=eq_true a5
           replace aa:=eq_true aa
           refine Zi (n:=21) (S:=fun w'=>w'.cell? ⟨Z,0,none⟩=some (.int .i64 ((Qt B J).f0))∧w'.cell? ⟨Z,1,none⟩=some (.int .i64 ((Qt B J).f1))∧w'.cell? ⟨ω,0,none⟩=some (.slice (some ε) B.length θ)∧w'.cell? ⟨ω,1,none⟩=some (.func (.func 83) #[] #[])∧w'.cell? (ε.add (((δ)).toNat * 2))=some (.int .i64 ((Qt B (δ)).f0))∧w'.cell? ⟨(ε.add (((δ)).toNat * 2)).block,(ε.add (((δ)).toNat * 2)).off+1,none⟩=some (.int .i64 ((Qt B (δ)).f1))) (ds:=[]) #[false,false,false,false,false,false,false,false,false,false,false,false,false,false,false,false,false,false,false,false,false] kr rfl rfl ⟨(Qa X.out 0).trans rfl,(Qa X.out 1).trans rfl,(Qa γ.out 0).trans rfl,(Qa γ.out 1).trans rfl,((HB.out.cell (World.block_lt_of_cell? w _ φ)).trans φ),((HB.out.cell (World.block_lt_of_cell? w _ τ)).trans τ)⟩ (fun hHeld=>?_);refine Q9 api_Inside_right.Vu api_Inside_right.Kx (fun HT_ HW_=>?_)
           generalize b6.drew=dj at γ X HB ζ ν hHeld ⊢
           refine qP 0 (some 15) (bN 21 1) HT_ ?_
           refine qT 1 (some 16) (bN 21 3) HT_ HW_ hHeld ?_
           refine Zb (i:=2) (N:=some 17) (bN 21 7) rfl rfl (Q4 HT_.out kr) (by decide) (fun K hK=>?_)
           refine X8 Try.func84 kr rfl #[] #[.pointer (some ⟨gh_,0,none⟩)] #[.agg #[.int .i64 ((Qt B J).f0),.int .i64 ((Qt B J).f1)]] #[.agg #[.int .i64 ((Qt B J).f0),.int .i64 ((Qt B J).f1)],.pointer (some ⟨gh_,0,none⟩)] rfl (by rfl) rfl rfl rfl qM ?_
           with_reducible refine(call_inside_1.calls ((Qt B J).f0) ((Qt B J).f1) Y true _ a7.out gh_ (Z8 HCH.out (by repeat(first|(with_reducible first|exact HB.out|apply Qs|apply Qh|apply Qg)|exact HB.out|(refine Qv ?_ (Aside0.out (by assumption))))))).mono ?_
           rintro e cz ⟨rfl,hb⟩
           refine⟨_,rfl, ?_⟩
           replace γ:=sBk γ hb
           replace X:=sBk X hb
           replace HB:=sHb hb
           (try clear hb)
           (try clear ac)
           (try clear hk)
           (try clear hi)
           refine hK.out _ _ ⟨qc X,qc X,qc γ,qc γ,((HB.out.cell (World.block_lt_of_cell? w _ φ)).trans φ),((HB.out.cell (World.block_lt_of_cell? w _ τ)).trans τ)⟩ (fun hHeld=>?_)
           clear hK K
           refine qN (some 17) ?_
           refine qP 3 (some 18) (bN 21 15) HT_ ?_
           refine qP 4 (some 19) (bN 21 31) HT_ ?_
           refine qP 5 (some 20) (bN 21 63) HT_ ?_
           refine qP 6 (some 21) (bN 21 127) HT_ ?_
           refine qP 7 (some 22) (bN 21 255) HT_ ?_
           refine qP 8 (some 23) (bN 21 511) HT_ ?_
           refine qP 10 (some 25) (bN 21 1535) HT_ ?_
           refine qP 12 (some 27) (bN 21 5631) HT_ ?_
           refine qP 13 (some 28) (bN 21 13823) HT_ ?_
           refine qT 9 (some 24) (bN 21 14335) HT_ HW_ hHeld ?_
           refine qT 11 (some 26) (bN 21 16383) HT_ HW_ hHeld ?_
           refine qP 14 (some 29) (bN 21 32767) HT_ ?_
           refine qT 15 (some 30) (bN 21 65535) HT_ HW_ hHeld ?_
           refine qT 16 (some 31) (bN 21 131071) HT_ HW_ hHeld ?_
           refine Zb (i:=17) (N:=some 32) (bN 21 262143) rfl rfl (Q4 HT_.out kr) (by decide) (fun K hK=>?_)
           refine X8 Try.func83 kr rfl #[] #[] #[.agg #[.int .i64 ((Qt B (δ)).f0),.int .i64 ((Qt B (δ)).f1)],.agg #[.int .i64 ((Qt B J).f0),.int .i64 ((Qt B J).f1)]] #[.agg #[.int .i64 ((Qt B (δ)).f0),.int .i64 ((Qt B (δ)).f1)],.agg #[.int .i64 ((Qt B J).f0),.int .i64 ((Qt B J).f1)]] rfl (by rfl) rfl rfl rfl (by(try simp only[List.map_toArray,List.map_cons,List.map_nil]);first|done|(simp only[η];rfl)|rfl|(simp only[List.length_drop,List.length_take];rfl)) ?_
           with_reducible refine(call_ins_1.calls ((Qt B (δ)).f0) ((Qt B (δ)).f1) ((Qt B J).f0) ((Qt B J).f1) κ _ d2.out).mono ?_
           rintro e bf ⟨rfl,hb⟩
           refine⟨_,rfl, ?_⟩
           replace γ:=sBk γ hb
           replace X:=sBk X hb
           replace HB:=sHb hb
           (try clear hb)
           (try clear ac)
           (try clear hk)
           (try clear hi)
           refine hK.out _ _ ⟨qc X,qc X,qc γ,qc γ,((HB.out.cell (World.block_lt_of_cell? w _ φ)).trans φ),((HB.out.cell (World.block_lt_of_cell? w _ τ)).trans τ)⟩ (fun hHeld=>?_)
           clear hK K
           refine qN (some 32) ?_
           refine qP 18 (some 33) (bN 21 524287) HT_ ?_
           refine qP 19 (some 34) (bN 21 1048575) HT_ ?_
           refine qP 20 (some 35) (bN 21 2097151) HT_ ?_
           refine Zx (Ze HT_.out kr) ?_
           try go_wp2
           go_meet
           case rel=>exact⟨_,(decide (κ ≥ 0)),rfl,H',⟨by have:=b0.out;omega⟩,γ,X,HB⟩
          ·rw[if_neg σ] at H
           exact absurd H (by simp)
         ·rw[if_neg ψ] at H
          exact absurd H (by simp)
        ·rw[if_neg bp] at H
         have c14b0:decide (0<J)=false:=decide_eq_false bp
         clear bp
         (first|rw[c14b0]|(simp only[Zg,Zl];rw[c14b0])|skip)
         have H':=Aside0.mk H
         clear H
         try go_wp2
         have ξ :Aside0 (((w9.setCell ⟨Z,0,none⟩ (.int .i64 ((Qt B J).f0))).setCell ⟨Z,1,none⟩ (.int .i64 ((Qt B J).f1))).heap[ω]?=some (.cells #[.slice (some ε) B.length θ,.func (.func 83) #[] #[]] 116 (0,0))):=⟨bka γ⟩
         have ρ:Aside0 (((w9.setCell ⟨Z,0,none⟩ (.int .i64 ((Qt B J).f0))).setCell ⟨Z,1,none⟩ (.int .i64 ((Qt B J).f1))).heap[Z]?=some (.cells #[.int .i64 ((Qt B J).f0),.int .i64 ((Qt B J).f1)] 86 (0,0))):=⟨by refine Ql (cs:=#[.int .i64 ((Qt B J).f0),.int .i64 0]) ?_ 1 _ rfl;refine Ql (cs:=#[.int .i64 0,.int .i64 0]) ?_ 0 _ rfl;exact X.out⟩
         have a3:Aside0 (Below w.heap.size w ((w9.setCell ⟨Z,0,none⟩ (.int .i64 ((Qt B J).f0))).setCell ⟨Z,1,none⟩ (.int .i64 ((Qt B J).f1)))):=⟨bel⟩
         (try clear γ)
         (try clear X)
         (try clear HB)
         generalize((w9.setCell ⟨Z,0,none⟩ (.int .i64 ((Qt B J).f0))).setCell ⟨Z,1,none⟩ (.int .i64 ((Qt B J).f1)))=bd at ξ ρ a3 ⊢
         have γ:= ξ
         have X:=ρ
         have HB:=a3
         clear ξ ρ a3
         replace γ:=Aside0.mk (Qe γ.out)
         replace X:=Aside0.mk (Qe X.out)
         replace HB:=Aside0.mk (Qg HB.out)
         refine Zi (n:=21) (S:=fun w'=>w'.cell? ⟨Z,0,none⟩=some (.int .i64 ((Qt B J).f0))∧w'.cell? ⟨Z,1,none⟩=some (.int .i64 ((Qt B J).f1))) (ds:=[]) #[false,false,false,false,false,false,false,false,false,false,false,false,false,false,false,false,false,false,false,false,false] kr rfl rfl ⟨(Qa X.out 0).trans rfl,(Qa X.out 1).trans rfl⟩ (fun hHeld=>?_);refine Q9 api_Inside_right.Vu api_Inside_right.Kx (fun HT_ HW_=>?_)
         generalize bd.drew=bs at γ X HB hHeld ⊢
         refine qP 0 (some 15) (bN 21 1) HT_ ?_
         refine qT 1 (some 16) (bN 21 3) HT_ HW_ hHeld ?_
         refine Zb (i:=2) (N:=some 17) (bN 21 7) rfl rfl (Q4 HT_.out kr) (by decide) (fun K hK=>?_)
         refine X8 Try.func84 kr rfl #[] #[.pointer (some ⟨gh_,0,none⟩)] #[.agg #[.int .i64 ((Qt B J).f0),.int .i64 ((Qt B J).f1)]] #[.agg #[.int .i64 ((Qt B J).f0),.int .i64 ((Qt B J).f1)],.pointer (some ⟨gh_,0,none⟩)] rfl (by rfl) rfl rfl rfl qM ?_
         with_reducible refine(call_inside_1.calls ((Qt B J).f0) ((Qt B J).f1) Y true _ a7.out gh_ (Z8 HCH.out (by repeat(first|(with_reducible first|exact HB.out|apply Qs|apply Qh|apply Qg)|exact HB.out|(refine Qv ?_ (Aside0.out (by assumption))))))).mono ?_
         rintro e e9 ⟨rfl,hb⟩
         refine⟨_,rfl, ?_⟩
         replace γ:=sBk γ hb
         replace X:=sBk X hb
         replace HB:=sHb hb
         (try clear hb)
         (try clear ac)
         (try clear hk)
         (try clear hi)
         refine hK.out _ _ ⟨qc X,qc X⟩ (fun hHeld=>?_)
         clear hK K
         refine qN (some 17) ?_
         refine qP 3 (some 18) (bN 21 15) HT_ ?_
         refine qP 4 (some 19) (bN 21 31) HT_ ?_
         refine qP 5 (some 20) (bN 21 63) HT_ ?_
         refine qP 6 (some 21) (bN 21 127) HT_ ?_
         refine qP 7 (some 22) (bN 21 255) HT_ ?_
         refine qU 8 (some 23) (bN 21 511) HT_ ?_
         refine qU 9 (some 24) (bN 21 1023) HT_ ?_
         refine qU 10 (some 25) (bN 21 2047) HT_ ?_
         refine qU 11 (some 26) (bN 21 4095) HT_ ?_
         refine qU 12 (some 27) (bN 21 8191) HT_ ?_
         refine qU 13 (some 28) (bN 21 16383) HT_ ?_
         refine qU 14 (some 29) (bN 21 32767) HT_ ?_
         refine qU 15 (some 30) (bN 21 65535) HT_ ?_
         refine qU 16 (some 31) (bN 21 131071) HT_ ?_
         refine qU 17 (some 32) (bN 21 262143) HT_ ?_
         refine qU 18 (some 33) (bN 21 524287) HT_ ?_
         refine qP 19 (some 34) (bN 21 1048575) HT_ ?_
         refine qP 20 (some 35) (bN 21 2097151) HT_ ?_
         refine Zx (Ze HT_.out kr) ?_
         try go_wp2
         go_meet
         case rel=>exact⟨_,(false),rfl,H',⟨by have:=b0.out;omega⟩,γ,X,HB⟩
       ·replace cy:=Bool.eq_false_iff.mpr cy
        subst cy
        have H1:(api_Inside_right.j1 k1 Y B (B.length:Int) J true B O)=some r:=by rw[if_neg (show ¬ (false=true) by decide)] at H;exact H
        clear H
        have H:=H1
        clear H1
        have H':=Aside0.mk H
        clear H
        try go_wp2
        have ξ :Aside0 (((w9.setCell ⟨Z,0,none⟩ (.int .i64 ((Qt B J).f0))).setCell ⟨Z,1,none⟩ (.int .i64 ((Qt B J).f1))).heap[ω]?=some (.cells #[.slice (some ε) B.length θ,.func (.func 83) #[] #[]] 116 (0,0))):=⟨bka γ⟩
        have ρ:Aside0 (((w9.setCell ⟨Z,0,none⟩ (.int .i64 ((Qt B J).f0))).setCell ⟨Z,1,none⟩ (.int .i64 ((Qt B J).f1))).heap[Z]?=some (.cells #[.int .i64 ((Qt B J).f0),.int .i64 ((Qt B J).f1)] 86 (0,0))):=⟨by refine Ql (cs:=#[.int .i64 ((Qt B J).f0),.int .i64 0]) ?_ 1 _ rfl;refine Ql (cs:=#[.int .i64 0,.int .i64 0]) ?_ 0 _ rfl;exact X.out⟩
        have a3:Aside0 (Below w.heap.size w ((w9.setCell ⟨Z,0,none⟩ (.int .i64 ((Qt B J).f0))).setCell ⟨Z,1,none⟩ (.int .i64 ((Qt B J).f1)))):=⟨bel⟩
        (try clear γ)
        (try clear X)
        (try clear HB)
        generalize((w9.setCell ⟨Z,0,none⟩ (.int .i64 ((Qt B J).f0))).setCell ⟨Z,1,none⟩ (.int .i64 ((Qt B J).f1)))=ie at ξ ρ a3 ⊢
        have γ:= ξ
        have X:=ρ
        have HB:=a3
        clear ξ ρ a3
        replace γ:=Aside0.mk (Qe γ.out)
        replace X:=Aside0.mk (Qe X.out)
        replace HB:=Aside0.mk (Qg HB.out)
        refine Zi (n:=21) (S:=fun w'=>w'.cell? ⟨Z,0,none⟩=some (.int .i64 ((Qt B J).f0))∧w'.cell? ⟨Z,1,none⟩=some (.int .i64 ((Qt B J).f1))) (ds:=[]) #[false,false,false,false,false,false,false,false,false,false,false,false,false,false,false,false,false,false,false,false,false] kr rfl rfl ⟨(Qa X.out 0).trans rfl,(Qa X.out 1).trans rfl⟩ (fun hHeld=>?_);refine Q9 api_Inside_right.Vu api_Inside_right.Kx (fun HT_ HW_=>?_)
        generalize ie.drew=d8 at γ X HB hHeld ⊢
        refine qP 0 (some 15) (bN 21 1) HT_ ?_
        refine qT 1 (some 16) (bN 21 3) HT_ HW_ hHeld ?_
        refine Zb (i:=2) (N:=some 17) (bN 21 7) rfl rfl (Q4 HT_.out kr) (by decide) (fun K hK=>?_)
        refine X8 Try.func84 kr rfl #[] #[.pointer (some ⟨gh_,0,none⟩)] #[.agg #[.int .i64 ((Qt B J).f0),.int .i64 ((Qt B J).f1)]] #[.agg #[.int .i64 ((Qt B J).f0),.int .i64 ((Qt B J).f1)],.pointer (some ⟨gh_,0,none⟩)] rfl (by rfl) rfl rfl rfl qM ?_
        with_reducible refine(call_inside_1.calls ((Qt B J).f0) ((Qt B J).f1) Y false _ a7.out gh_ (Z8 HCH.out (by repeat(first|(with_reducible first|exact HB.out|apply Qs|apply Qh|apply Qg)|exact HB.out|(refine Qv ?_ (Aside0.out (by assumption))))))).mono ?_
        rintro e dy ⟨rfl,hb⟩
        refine⟨_,rfl, ?_⟩
        replace γ:=sBk γ hb
        replace X:=sBk X hb
        replace HB:=sHb hb
        (try clear hb)
        (try clear ac)
        (try clear hk)
        (try clear hi)
        refine hK.out _ _ ⟨qc X,qc X⟩ (fun hHeld=>?_)
        clear hK K
        refine qN (some 17) ?_
        refine qP 3 (some 18) (bN 21 15) HT_ ?_
        refine qP 4 (some 19) (bN 21 31) HT_ ?_
        refine qU 5 (some 20) (bN 21 63) HT_ ?_
        refine qU 6 (some 21) (bN 21 127) HT_ ?_
        refine qU 7 (some 22) (bN 21 255) HT_ ?_
        refine qU 8 (some 23) (bN 21 511) HT_ ?_
        refine qU 9 (some 24) (bN 21 1023) HT_ ?_
        refine qU 10 (some 25) (bN 21 2047) HT_ ?_
        refine qU 11 (some 26) (bN 21 4095) HT_ ?_
        refine qU 12 (some 27) (bN 21 8191) HT_ ?_
        refine qU 13 (some 28) (bN 21 16383) HT_ ?_
        refine qU 14 (some 29) (bN 21 32767) HT_ ?_
        refine qU 15 (some 30) (bN 21 65535) HT_ ?_
        refine qU 16 (some 31) (bN 21 131071) HT_ ?_
        refine qU 17 (some 32) (bN 21 262143) HT_ ?_
        refine qU 18 (some 33) (bN 21 524287) HT_ ?_
        refine qU 19 (some 34) (bN 21 1048575) HT_ ?_
        refine qP 20 (some 35) (bN 21 2097151) HT_ ?_
        refine Zx (Ze HT_.out kr) ?_
        try go_wp2
        go_meet
        case rel=>exact⟨_,(true),rfl,H',⟨by have:=b0.out;omega⟩,γ,X,HB⟩
      case rest=>
       clear al
       try clear c1
       try clear p1
       try clear q1
       try clear au
       try clear p2
       try clear c8
       try clear b7
       try clear b8
       try clear b5
       try clear cy
       try clear bp
       try clear c14b0
       try clear ψ
       try clear c16b0
       try clear σ
       try clear c17b0
       try clear ζ
       try clear ν
       try clear a5
       try clear aa
       obtain⟨kq,μ,rfl,HA,ay,γ,X,HB⟩:=hcut
       cases kq with
       |zero=>exact absurd HA.out (by simp[api_Inside_right.j1])
       |succ b2=>
        have H:=HA.out
        clear HA
        simp only[api_Inside_right.j1] at H
        by_cases bg: μ = true
        ·subst bg
         have H1:(some false)=some r:=by rw[if_pos rfl] at H;exact H
         clear H
         have H:=H1
         clear H1
         obtain rfl:=Option.some.inj H
         go_wp2
         go_ret
         exact⟨rfl,HB.out⟩
        ·replace bg:=Bool.eq_false_iff.mpr bg
         subst bg
         have H1:(api_Inside_right.l0 b2 Y B (B.length:Int) (wrap64 (J+1)) B O)=some r:=by rw[if_neg (show ¬ (false=true) by decide)] at H;exact H
         clear H
         have H:=H1
         clear H1
         have H':=Aside0.mk H
         clear H
         go_wp2
         go_roundg b2
         case measure=>have:=b0.out;have:=ay.out;omega
         case rel=>exact⟨(wrap64 (J+1)),rfl,H',⟨by have:=b0.out;have:=ay.out;omega⟩,γ,HB⟩
     ·rw[if_neg c7] at H
      exact absurd H (by simp)
    ·rw[if_neg c6] at H
     exact absurd H (by simp)
   ·rw[if_neg c5] at H
    have c5b0:decide (J<(B.length:Int))=false:=decide_eq_false c5
    clear c5
    obtain rfl:=Option.some.inj H
    go_wp2
    go_ret
    exact⟨rfl,HB.out⟩
end Go.Proofs.Ytmfffemidlhcpaa.C
namespace Go.Proofs.Ytmfffemidlhcpaa.Call
open Go.RowKit Go.Proofs.YtmfffemidlhcpaaW.PrintWords Go.Proofs.YtmfffemidlhcpaaW.PrintLast Go.Proofs.YtmfffemidlhcpaaW.PrintMore Go.Proofs.Ytmfffemidlhcpaa.C
set_option linter.unusedVariables false
set_option linter.unusedSimpArgs false
theorem V4 (a b:Int):V6 a b<0↔a<b:=by unfold V6;split <;> (try split) <;> omega
theorem V5 (a b:Int):V6 a b=0↔a=b:=by unfold V6;split <;> (try split) <;> omega
theorem Kv (a b c d:Int):Yc a b c d<0↔(a<c∨(a=c∧b<d)):=by
  unfold Yc
  have h1:=V4 a c
  have O:=V5 a c
  have Z:=V4 b d
  split <;> omega
theorem Gg (a b c d:Int):Yc a b c d=0↔(a=c∧b=d):=by
  unfold Yc
  have h1:=V4 a c
  have O:=V5 a c
  have Z:=V5 b d
  split <;> omega
def Wk {α:Type} (q:α→Bool):Nat→List α→Int
  |_,[]=> -1
  |i,x :: l=>if q x=true then (i:Int) else Wk q (i+1) l
theorem Ma {α:Type} (q:α→Bool) (l:List α):∀ i:Nat,(Wk q i l = -1 ∧ ∀ x ∈ l,q x=false) ∨ ∃ k:Nat,∃ h:k<l.length,Wk q i l=((i+k:Nat):Int)∧q l[k]=true ∧ ∀ x ∈ l.take k,q x=false:=by
  induction l with
  |nil=>intro i;exact .inl ⟨rfl,by simp⟩
  |cons x l ih=>
    intro i
    simp only[Wk]
    by_cases h:q x=true
    · rw[if_pos h]
      exact .inr ⟨0,by simp,by simp,by simpa using h,by simp⟩
    · rw[if_neg h]
      have hf:q x=false:=by simpa using h
      rcases ih (i+1) with⟨e,ha⟩|⟨k,hk,e,ht,ha⟩
      · refine .inl ⟨e,fun y hy=>?_⟩
        rcases List.mem_cons.1 hy with rfl|hy
        · exact hf
        · exact ha y hy
      · refine .inr ⟨k+1,by simpa using hk,by rw[e];congr 1;omega,by simpa using ht,fun y hy=>?_⟩
        rw[List.take_succ_cons] at hy
        rcases List.mem_cons.1 hy with rfl|hy
        · exact hf
        · exact ha y hy
def Zm {α:Type} (may:α→Bool) (lt:α→α→Bool):Option α→List α→Bool
  |_,[]=>true
  |none,x :: l=>may x&&Zm may lt (some x) l
  |some p,x :: l=>(may x&&lt p x)&&Zm may lt (some x) l
def ltH (x y:S36):Bool:=decide (Yc x.f0 x.f1 y.f0 y.f1<0)
theorem Kq (x y:S36):ltH x y=true↔(x.f0<y.f0∨(x.f0=y.f0∧x.f1<y.f1)):=by
  unfold ltH
  rw[decide_eq_true_iff,Kv]
theorem L9 {x y z:S36} (h1:ltH x y=true) (O:ltH y z=true):ltH x z=true:=by
  rw[Kq] at *
  omega
theorem Gr (l:List S36) (i:Nat) (h:i<l.length):Qd l (i:Int)=l[i]:=by
  unfold Qd
  rw[Int.toNat_natCast,List.getD_eq_getElem?_getD,List.getElem?_eq_getElem h]
  rfl
def G9 (l:List S36) (B J:Int) (p:Nat):Prop:=p≤l.length∧(∀ y ∈ l.take p,Yc y.f0 y.f1 B J<0)∧(∀ y ∈ l.drop p,¬ Yc y.f0 y.f1 B J<0)
def Vh (l:List S36) (B J:Int) (p:Nat):Bool:=match l[p]? with|some y=>Yc y.f0 y.f1 B J==0|none=>false
theorem Vx (l:List S36) (B J Y:Int) (hm:l.length≤1000000000) (hs:l.Pairwise (fun x y=>ltH x y=true)) (d:Nat):∀ (f i j:Nat),j-i≤d→i≤j→j≤l.length→d<f→(∀ y ∈ l.take i,Yc y.f0 y.f1 B J<0)→(∀ y ∈ l.drop j,¬ Yc y.f0 y.f1 B J<0) →
    ∃ p,G9 l B J p∧api_Hall_89.l0 f l (l.length:Int) (i:Int) (j:Int) B J Y=some ((p:Int),Vh l B J p):=by
  have stop:∀ (f i:Nat),0<f→i≤l.length→(∀ y ∈ l.take i,Yc y.f0 y.f1 B J<0)→(∀ y ∈ l.drop i,¬ Yc y.f0 y.f1 B J<0) → ∃ p,G9 l B J p∧api_Hall_89.l0 f l (l.length:Int) (i:Int) (i:Int) B J Y=some ((p:Int),Vh l B J p):=by
    intro f i hf hi h1 O
    obtain⟨f,rfl⟩:∃ m,f=m+1:=⟨f-1,by omega⟩
    refine⟨i,⟨hi,h1,O⟩, ?_⟩
    simp only[api_Hall_89.l0]
    unfold Vh
    rw[if_neg (by omega)]
    by_cases h:i<l.length
    · rw[if_pos (by omega),if_pos (by omega),if_pos (by omega),Gr l i h,List.getElem?_eq_getElem h]
      rfl
    · rw[if_neg (by omega),List.getElem?_eq_none (by omega)]
  induction d with
  |zero=>
    intro f i j hd hij hj hf h1 O
    obtain rfl:i=j:=by omega
    exact stop f i hf hj h1 O
  |succ d ih=>
    intro f i j hd hij hj hf h1 O
    by_cases he:i=j
    · subst he
      exact stop f i (by omega) hj h1 O
    · obtain⟨f,rfl⟩:∃ m,f=m+1:=⟨f-1,by omega⟩
      have hmid:wrap64 ((IntKind.u64.wrap (wrap64 ((i:Int)+(j:Int)))) / 2)=(((i+j) / 2:Nat):Int):=by
        rw[show wrap64 ((i:Int)+(j:Int))=(i:Int)+(j:Int) from by unfold wrap64;omega,IntKind.wrap_u64]
        unfold wrap64;omega
      have e1:wrap64 ((((i+j) / 2:Nat):Int)+1)=(((i+j) / 2+1:Nat):Int):=by unfold wrap64;omega
      simp only[api_Hall_89.l0]
      rw[if_pos (by omega),hmid]
      have hh:(i+j) / 2<l.length:=by omega
      generalize hg:(i+j) / 2=h at *
      rw[if_pos (by omega),if_pos (by omega),Gr l h hh,e1]
      unfold call_halls_1.f
      simp only[Option.bind_some]
      have hlt:∀ m:Nat,(hm:m<h)→Yc (l[m]'(by omega)).f0 (l[m]'(by omega)).f1 l[h].f0 l[h].f1<0:=by
        intro m hm
        have:=List.pairwise_iff_getElem.1 hs m h (by omega) hh hm
        exact of_decide_eq_true this
      have hgt:∀ m:Nat,h<m→(hm:m<l.length)→Yc l[h].f0 l[h].f1 l[m].f0 l[m].f1<0:=by
        intro m hm hml
        have:=List.pairwise_iff_getElem.1 hs h m hh hml hm
        exact of_decide_eq_true this
      by_cases hc:Yc l[h].f0 l[h].f1 B J<0
      · rw[if_pos hc]
        refine ih f (h+1) j (by omega) (by omega) hj (by omega) ?_ O
        intro y hy
        obtain⟨m,hm,rfl⟩:=List.mem_iff_getElem.1 hy
        rw[List.length_take] at hm
        rw[List.getElem_take]
        by_cases hmh:m=h
        · subst hmh;exact hc
        · have Z:=hlt m (by omega)
          rw[Kv] at *
          omega
      · rw[if_neg hc]
        refine ih f i h (by omega) (by omega) (by omega) (by omega) h1 ?_
        intro y hy
        obtain⟨m,hm,rfl⟩:=List.mem_iff_getElem.1 hy
        rw[List.length_drop] at hm
        rw[List.getElem_drop]
        by_cases hmh:m=0
        · subst hmh;simpa using hc
        · have Z:=hgt (h+m) (by omega) (by omega)
          rw[Kv] at *
          omega
theorem Wa (l:List S36) (B J Y:Int) (a2:Int) (hm:l.length≤1000000000) (hs:l.Pairwise (fun x y=>ltH x y=true)) (k:Nat) (hk:l.length<k):
    ∃ p,G9 l B J p∧api_Hall_89.f k l B J Y a2=some ((p:Int),Vh l B J p):=by
  unfold api_Hall_89.f
  have:=Vx l B J Y hm hs l.length k 0 l.length (by omega) (by omega) (by omega) hk (by simp) (by simp)
  simpa using this
theorem Ut (l:List S36) (Y tok_:Int) (hm:l.length≤1000000000) (j:Nat):∀ (f i:Nat),i+j=l.length→2 * j<f→api_Hall_right.l0 f Y l (l.length:Int) (i:Int) l tok_=some (Zm (fun x=>Xi (Yk Y) (Yj Y) x.f0 x.f1 x.f2) ltH (if i=0 then none else l[i-1]?) (l.drop i)):=by
  induction j with
  |zero=>
    intro f i hi hf
    obtain⟨f,rfl⟩:∃ m,f=m+1:=⟨f-1,by omega⟩
    simp only[api_Hall_right.l0]
    rw[if_neg (by omega),List.drop_of_length_le (by omega)]
    cases(if i=0 then none else l[i-1]?) <;> rfl
  |succ j ih=>
    intro f i hi hf
    obtain⟨f,rfl⟩:∃ m,f=m+2:=⟨f-2,by omega⟩
    have ha:i<l.length:=by omega
    have ei:wrap64 ((i:Int)+1)=((i+1:Nat):Int):=by unfold wrap64;omega
    have jt:api_Hall_right.j1 (f+1) Y l (l.length:Int) (i:Int) true l tok_=some false:=by simp[api_Hall_right.j1]
    have jf:api_Hall_right.j1 (f+1) Y l (l.length:Int) (i:Int) false l tok_=some (Zm (fun x=>Xi (Yk Y) (Yj Y) x.f0 x.f1 x.f2) ltH (some l[i]) (l.drop (i+1))):=by
      simp only[api_Hall_right.j1]
      rw[if_neg (by decide),ei,ih f (i+1) (by omega) (by omega),if_neg (by omega),Nat.add_sub_cancel,List.getElem?_eq_getElem ha]
    simp only[api_Hall_right.l0]
    rw[if_pos (by omega),if_pos (by omega),if_pos (by omega),Gr l i ha]
    unfold call_hall_1.f
    simp only[Option.bind_some]
    rw[List.drop_eq_getElem_cons ha]
    by_cases h1:Xi (Yk Y) (Yj Y) l[i].f0 l[i].f1 l[i].f2=true
    · rw[if_pos h1]
      by_cases X:i=0
      · subst X
        rw[if_neg (by omega),if_pos rfl,jf]
        simp only[Zm,h1,Bool.true_and]
      · have ep:wrap64 ((i:Int)-1)=((i-1:Nat):Int):=by unfold wrap64;omega
        rw[if_pos (by omega),ep,if_pos (by omega),if_pos (by omega),Gr l (i-1) (by omega),if_neg X,List.getElem?_eq_getElem (by omega)]
        unfold call_halls_1.f
        simp only[Option.bind_some]
        simp only[Zm,h1,Bool.true_and]
        unfold ltH
        by_cases hc:Yc (l[i-1]'(by omega)).f0 (l[i-1]'(by omega)).f1 l[i].f0 l[i].f1<0
        · rw[decide_eq_false (by omega),decide_eq_true hc,jf,Bool.true_and]
          rfl
        · rw[decide_eq_true (by omega),decide_eq_false hc,jt,Bool.false_and]
    · have h1':Xi (Yk Y) (Yj Y) l[i].f0 l[i].f1 l[i].f2=false:=by simpa using h1
      rw[if_neg h1,jt]
      by_cases X:i=0
      · rw[if_pos X]
        simp only[Zm,h1',Bool.false_and]
      · rw[if_neg X,List.getElem?_eq_getElem (by omega)]
        simp only[Zm,h1',Bool.false_and]
theorem Lt (l:List S36) (Y tok_:Int) (hm:l.length≤1000000000) (k:Nat) (hk:2 * l.length<k):api_Hall_right.f k l tok_ Y=some (Zm (fun x=>Xi (Yk Y) (Yj Y) x.f0 x.f1 x.f2) ltH none l):=by
  unfold api_Hall_right.f
  have:=Ut l Y tok_ hm l.length k 0 (by omega) hk
  simpa using this
theorem Us (may:S36→Bool) (l:List S36):∀ p,Zm may ltH (some p) l=true↔((∀ x ∈ l,may x=true)∧(p :: l).Pairwise (fun x y=>ltH x y=true)):=by
  induction l with
  |nil=>intro p;simp[Zm]
  |cons x l ih=>
    intro p
    simp only[Zm,Bool.and_eq_true]
    rw[ih x]
    simp only[List.pairwise_cons,List.mem_cons,forall_eq_or_imp]
    constructor
    · rintro⟨⟨h1,O⟩,Z,h4,J⟩
      exact⟨⟨h1,Z⟩,⟨O,fun y hy=>L9 O (h4 y hy)⟩,h4,J⟩
    · rintro⟨⟨h1,Z⟩,⟨O,_⟩,h4,J⟩
      exact⟨⟨h1,O⟩,Z,h4,J⟩
theorem Jp (may:S36→Bool) (l:List S36):Zm may ltH none l=true↔((∀ x ∈ l,may x=true)∧l.Pairwise (fun x y=>ltH x y=true)):=by
  cases l with
  |nil=>simp[Zm]
  |cons x l=>
    simp only[Zm,Bool.and_eq_true]
    rw[Us]
    simp only[List.mem_cons,forall_eq_or_imp]
    constructor
    · rintro⟨h1,O,Z⟩
      exact⟨⟨h1,O⟩,Z⟩
    · rintro⟨⟨h1,O⟩,Z⟩
      exact⟨h1,O,Z⟩
abbrev qI (Y:Int) (x:S86):Bool:=Yc (Yk Y) (Yj Y) x.f0 x.f1==0
def ltI (x y:S86):Bool:=decide (Yc x.f0 x.f1 y.f0 y.f1<0)
theorem W4 (x y:S86):ltI x y=true↔(x.f0<y.f0∨(x.f0=y.f0∧x.f1<y.f1)):=by
  unfold ltI
  rw[decide_eq_true_iff,Kv]
theorem L8 {x y z:S86} (h1:ltI x y=true) (O:ltI y z=true):ltI x z=true:=by
  rw[W4] at *
  omega
theorem Gq (l:List S86) (i:Nat) (h:i<l.length):Qt l (i:Int)=l[i]:=by
  unfold Qt
  rw[Int.toNat_natCast,List.getD_eq_getElem?_getD,List.getElem?_eq_getElem h]
  rfl
theorem Mb (l:List S86) (Y:Int) (hm:l.length≤1000000000) (j:Nat):∀ (f i:Nat),i+j=l.length→j<f→api_Inside_100.l0 f l Y (l.length:Int) (i:Int)=some (Wk (qI Y) i (l.drop i)):=by
  induction j with
  |zero=>
    intro f i hi hf
    obtain⟨f,rfl⟩:∃ m,f=m+1:=⟨f-1,by omega⟩
    simp only[api_Inside_100.l0]
    rw[if_neg (by omega),List.drop_of_length_le (by omega)]
    rfl
  |succ j ih=>
    intro f i hi hf
    obtain⟨f,rfl⟩:∃ m,f=m+1:=⟨f-1,by omega⟩
    have ha:i<l.length:=by omega
    have ei:wrap64 ((i:Int)+1)=((i+1:Nat):Int):=by unfold wrap64;omega
    simp only[api_Inside_100.l0]
    rw[if_pos (by omega),if_pos (by omega),if_pos (by omega),Gq l i ha,ei,ih f (i+1) (by omega) (by omega)]
    unfold api_Inside_without_1.f
    simp only[Option.bind_some]
    rw[List.drop_eq_getElem_cons ha]
    simp only[Wk]
    by_cases h:qI Y l[i]=true
    · rw[if_pos h,if_pos h]
    · rw[if_neg h,if_neg h]
theorem En (l:List S86) (Y:Int) (hm:l.length≤1000000000) (k:Nat) (hk:l.length<k):api_Inside_100.f k l Y=some (Wk (qI Y) 0 l):=by
  unfold api_Inside_100.f
  have:=Mb l Y hm l.length k 0 (by omega) hk
  simpa using this
theorem Md (l:List S86) (Y:Int) (hm:l.length≤1000000000) (j:Nat):∀ (f:Nat) (x:List S86) (i m:Nat),x.length=l.length→m+j=l.length→i≤m→j<f→x.drop m=l.drop m→x.take i=(l.take m).filter (fun y=> !qI Y y) →
    api_Inside_90.l0 f x Y (i:Int) (m:Int)=some (l.filter (fun y=> !qI Y y)):=by
  induction j with
  |zero=>
    intro f x i m hx hj him hf hd ht
    obtain⟨f,rfl⟩:∃ m,f=m+1:=⟨f-1,by omega⟩
    simp only[api_Inside_90.l0]
    rw[if_neg (by omega),if_pos (by omega),if_pos (by omega),Int.toNat_natCast,ht,List.take_of_length_le (by omega)]
  |succ j ih=>
    intro f x i m hx hj him hf hd ht
    obtain⟨f,rfl⟩:∃ m,f=m+1:=⟨f-1,by omega⟩
    have ha:m<l.length:=by omega
    have hax:m<x.length:=by omega
    have em:wrap64 ((m:Int)+1)=((m+1:Nat):Int):=by unfold wrap64;omega
    have ei:wrap64 ((i:Int)+1)=((i+1:Nat):Int):=by unfold wrap64;omega
    have hxm:x[m]=l[m]:=by
      have h1:=List.drop_eq_getElem_cons hax
      have O:=List.drop_eq_getElem_cons ha
      rw[hd,O] at h1
      exact(List.cons.inj h1).1.symm
    have Z:x.drop (m+1)=l.drop (m+1):=by
      have h1:=List.drop_eq_getElem_cons hax
      have O:=List.drop_eq_getElem_cons ha
      rw[hd,O] at h1
      exact(List.cons.inj h1).2.symm
    have B:(l.take (m+1)).filter (fun y=> !qI Y y)=(l.take m).filter (fun y=> !qI Y y) ++ [l[m]].filter (fun y=> !qI Y y):=by
      rw[List.take_succ_eq_append_getElem ha,List.filter_append]
    simp only[api_Inside_90.l0]
    rw[if_pos (by omega),if_pos (by omega),Gq x m hax,hxm,em,ei]
    unfold api_Inside_without_1.f
    simp only[Option.bind_some]
    by_cases h:qI Y l[m]=true
    · rw[if_pos h]
      refine ih f x i (m+1) hx (by omega) (by omega) (by omega) Z ?_
      rw[B,ht]
      simp only[List.filter_cons,List.filter_nil]
      rw[if_neg (by rw[h];decide),List.append_nil]
    · have hf':qI Y l[m]=false:=by simpa using h
      rw[if_neg h,if_pos (by omega),if_pos (by omega),Int.toNat_natCast]
      refine ih f (x.set i _) (i+1) (m+1) (by rw[List.length_set];exact hx) (by omega) (by omega) (by omega) ?_ ?_
      · rw[List.drop_set_of_lt (by omega)]
        exact Z
      · rw[B]
        simp only[List.filter_cons,List.filter_nil]
        rw[if_pos (by rw[hf'];rfl),List.take_succ_eq_append_getElem (by rw[List.length_set];omega),List.getElem_set_self,List.take_set_of_le (by omega),ht]
theorem Es (l:List S86) (Y:Int) (hm:l.length≤1000000000) (k:Nat) (hk:l.length+5<k):api_Inside_90.f k l Y=some (l.filter (fun y=> !qI Y y)):=by
  unfold api_Inside_90.f
  rw[En l Y hm k (by omega)]
  simp only[Option.bind_some]
  rcases Ma (qI Y) l 0 with⟨e,ha⟩|⟨i,hi,e,ht,ha⟩
  · rw[e,if_pos rfl]
    congr 1
    exact(List.filter_eq_self.2 (fun y hy=>by rw[ha y hy];rfl)).symm
  · rw[e,Nat.zero_add,if_neg (by omega)]
    have ei:wrap64 ((i:Int)+1)=((i+1:Nat):Int):=by unfold wrap64;omega
    rw[ei]
    refine Md l Y hm (l.length - (i+1)) k l i (i+1) rfl (by omega) (by omega) (by omega) rfl ?_
    rw[List.take_succ_eq_append_getElem hi,List.filter_append]
    simp only[List.filter_cons,List.filter_nil]
    rw[if_neg (by rw[ht];decide),List.append_nil]
    exact(List.filter_eq_self.2 (fun y hy=>by rw[ha y hy];rfl)).symm
theorem Ur (l:List S86) (Y tok_:Int) (hm:l.length≤1000000000) (j:Nat):∀ (f i:Nat),i+j=l.length→2 * j<f→api_Inside_right.l0 f Y l (l.length:Int) (i:Int) l tok_=some (Zm (fun x=>Ke (Yk Y) (Yj Y) x.f0 x.f1) ltI (if i=0 then none else l[i-1]?) (l.drop i)):=by
  induction j with
  |zero=>
    intro f i hi hf
    obtain⟨f,rfl⟩:∃ m,f=m+1:=⟨f-1,by omega⟩
    simp only[api_Inside_right.l0]
    rw[if_neg (by omega),List.drop_of_length_le (by omega)]
    cases(if i=0 then none else l[i-1]?) <;> rfl
  |succ j ih=>
    intro f i hi hf
    obtain⟨f,rfl⟩:∃ m,f=m+2:=⟨f-2,by omega⟩
    have ha:i<l.length:=by omega
    have ei:wrap64 ((i:Int)+1)=((i+1:Nat):Int):=by unfold wrap64;omega
    have jt:api_Inside_right.j1 (f+1) Y l (l.length:Int) (i:Int) true l tok_=some false:=by simp[api_Inside_right.j1]
    have jf:api_Inside_right.j1 (f+1) Y l (l.length:Int) (i:Int) false l tok_=some (Zm (fun x=>Ke (Yk Y) (Yj Y) x.f0 x.f1) ltI (some l[i]) (l.drop (i+1))):=by
      simp only[api_Inside_right.j1]
      rw[if_neg (by decide),ei,ih f (i+1) (by omega) (by omega),if_neg (by omega),Nat.add_sub_cancel,List.getElem?_eq_getElem ha]
    simp only[api_Inside_right.l0]
    rw[if_pos (by omega),if_pos (by omega),if_pos (by omega),Gq l i ha]
    unfold call_inside_1.f
    simp only[Option.bind_some]
    rw[List.drop_eq_getElem_cons ha]
    by_cases h1:Ke (Yk Y) (Yj Y) l[i].f0 l[i].f1=true
    · rw[if_pos h1]
      by_cases X:i=0
      · subst X
        rw[if_neg (by omega),if_pos rfl,jf]
        simp only[Zm,h1,Bool.true_and]
      · have ep:wrap64 ((i:Int)-1)=((i-1:Nat):Int):=by unfold wrap64;omega
        rw[if_pos (by omega),ep,if_pos (by omega),if_pos (by omega),Gq l (i-1) (by omega),if_neg X,List.getElem?_eq_getElem (by omega)]
        unfold call_ins_1.f
        simp only[Option.bind_some]
        simp only[Zm,h1,Bool.true_and]
        unfold ltI
        by_cases hc:Yc (l[i-1]'(by omega)).f0 (l[i-1]'(by omega)).f1 l[i].f0 l[i].f1<0
        · rw[decide_eq_false (by omega),decide_eq_true hc,jf,Bool.true_and]
          rfl
        · rw[decide_eq_true (by omega),decide_eq_false hc,jt,Bool.false_and]
    · have h1':Ke (Yk Y) (Yj Y) l[i].f0 l[i].f1=false:=by simpa using h1
      rw[if_neg h1,jt]
      by_cases X:i=0
      · rw[if_pos X]
        simp only[Zm,h1',Bool.false_and]
      · rw[if_neg X,List.getElem?_eq_getElem (by omega)]
        simp only[Zm,h1',Bool.false_and]
theorem Ls (l:List S86) (Y tok_:Int) (hm:l.length≤1000000000) (k:Nat) (hk:2 * l.length<k):api_Inside_right.f k l tok_ Y=some (Zm (fun x=>Ke (Yk Y) (Yj Y) x.f0 x.f1) ltI none l):=by
  unfold api_Inside_right.f
  have:=Ur l Y tok_ hm l.length k 0 (by omega) hk
  simpa using this
theorem Up (may:S86→Bool) (l:List S86):∀ p,Zm may ltI (some p) l=true↔((∀ x ∈ l,may x=true)∧(p :: l).Pairwise (fun x y=>ltI x y=true)):=by
  induction l with
  |nil=>intro p;simp[Zm]
  |cons x l ih=>
    intro p
    simp only[Zm,Bool.and_eq_true]
    rw[ih x]
    simp only[List.pairwise_cons,List.mem_cons,forall_eq_or_imp]
    constructor
    · rintro⟨⟨h1,O⟩,Z,h4,J⟩
      exact⟨⟨h1,Z⟩,⟨O,fun y hy=>L8 O (h4 y hy)⟩,h4,J⟩
    · rintro⟨⟨h1,Z⟩,⟨O,_⟩,h4,J⟩
      exact⟨⟨h1,O⟩,Z,h4,J⟩
theorem Uq (may:S86→Bool) (l:List S86):Zm may ltI none l=true↔((∀ x ∈ l,may x=true)∧l.Pairwise (fun x y=>ltI x y=true)):=by
  cases l with
  |nil=>simp[Zm]
  |cons x l=>
    simp only[Zm,Bool.and_eq_true]
    rw[Up]
    simp only[List.mem_cons,forall_eq_or_imp]
    constructor
    · rintro⟨h1,O,Z⟩
      exact⟨⟨h1,O⟩,Z⟩
    · rintro⟨⟨h1,O⟩,Z⟩
      exact⟨h1,O,Z⟩
end Go.Proofs.Ytmfffemidlhcpaa.Call
namespace Go.Proofs.Ytmfffemidlhcpaa.C
open Go.RowKit Go.Proofs.YtmfffemidlhcpaaW.PrintWords Go.Proofs.YtmfffemidlhcpaaW.PrintLast Go.Proofs.YtmfffemidlhcpaaW.PrintMore
attribute [local go_sem] Z3 Z1 Xg Xf Zt Zs Z2 Z0
set_option linter.unusedVariables false
set_option linter.unusedSimpArgs false
def newellaw19_Own.f (B:List (S36)) (X:List (S86)):Option ((List (S36))×(List (S86))):=(some (([]:List (S36)):List (S36))).bind fun τ =>(if τ.length+B.length<5864062014805 then ((some (([]:List (S86)):List (S86))).bind fun δ =>(if δ.length+X.length<8796093022208 then (some ((τ ++ B),(δ ++ X))) else (none))) else (none))
def newellaw19_Own.T1:Bool×List (List Nat×List Nat):=(true,[([],[]),([],[]),([1],[1]),([0,2],[0,2]),([],[]),([],[]),([5],[5]),([4,6,3],[4,6]),([3,7],[3,7]),([8,7,0,1,2,3,4,5,6,7,8],[8])])
def newellaw19_Own.B1:List Nat:=[0,0,2,7,0,0,32,127,255,511]
theorem newellaw19_Own.Km:rtab .any (opsOf Try.f15 1)=newellaw19_Own.T1:=by kernel_rfl
theorem newellaw19_Own.Y3:Zk newellaw19_Own.T1.2 newellaw19_Own.B1=true:=by kernel_rfl
set_option maxHeartbeats 8000000 in
set_option maxRecDepth 100000 in
theorem newellaw19_Own.calls (ι :Option Addr) (θ :Nat) (B:List (S36)) (ε :Option Addr) (ζ :Nat) (X:List (S86)) (r1:List (S36)) (r2:List (S86)) (w:World) (a6:Kd.C k36 w ι B.length B) (a8:B.length ≤ θ) (a2:Kd.C k86 w ε X.length X) (a4:X.length ≤ ζ) (h:newellaw19_Own.f B X=some (r1,r2)):
  Calls Try.prog 15 #[.agg #[.slice ι B.length θ,.slice ε X.length ζ]] w fun e w'=>∃ bb ea:Value,e = .returned (.agg #[bb,ea])∧Kd.R k36 36 w' w.heap.size (fun _=>True) bb r1∧Kd.R k86 86 w' w.heap.size (fun _=>True) ea r2∧Below w.heap.size w w':=by
 have ed:=Try.underlying50
 have a9:=Aside0.mk a6
 have ao:=Aside0.mk a8
 clear a6 a8
 have am:=Aside0.mk a2
 have b0:=Aside0.mk a4
 clear a2 a4
 have HB:=Aside0.mk (Below.refl w.heap.size w)
 have H:((some (([]:List (S36)):List (S36))).bind fun τ =>(if τ.length+B.length<5864062014805 then ((some (([]:List (S86)):List (S86))).bind fun δ =>(if δ.length+X.length<8796093022208 then (some ((τ ++ B),(δ ++ X))) else (none))) else (none)))=some (r1,r2):=h
 clear h
 obtain⟨τ,a5⟩:∃ y_:List (S36),y_=(([]:List (S36))):=⟨_,rfl⟩
 replace H:(if τ.length+B.length<5864062014805 then ((some (([]:List (S86)):List (S86))).bind fun δ =>(if δ.length+X.length<8796093022208 then (some ((τ ++ B),(δ ++ X))) else (none))) else (none))=some (r1,r2):=by first|(rw[a5];with_reducible exact H)|(have an:=(Option.bind_some _ _).symm.trans H;rw[a5];with_reducible exact an)|(have an:=(Option.bind_some _ _).symm.trans H;with_reducible exact an)|with_reducible exact H|(rw[a5];exact H)|exact H
 have ah:=Aside0.mk a5
 clear a5
 by_cases c2: τ.length+B.length<5864062014805
 ·rw[if_pos c2] at H
  have ak:=Aside0.mk c2
  clear c2
  obtain⟨a0,aa⟩:∃ y_:List (S36),y_=(τ ++ B):=⟨_,rfl⟩
  replace H:((some (([]:List (S86)):List (S86))).bind fun δ =>(if δ.length+X.length<8796093022208 then (some (a0,(δ ++ X))) else (none)))=some (r1,r2):=by first|(rw[aa];with_reducible exact H)|(have an:=(Option.bind_some _ _).symm.trans H;rw[aa];with_reducible exact an)|(have an:=(Option.bind_some _ _).symm.trans H;with_reducible exact an)|with_reducible exact H|(rw[aa];exact H)|exact H
  have aj:=Aside0.mk aa
  clear aa
  obtain⟨δ,ab⟩:∃ y_:List (S86),y_=(([]:List (S86))):=⟨_,rfl⟩
  replace H:(if δ.length+X.length<8796093022208 then (some (a0,(δ ++ X))) else (none))=some (r1,r2):=by first|(rw[ab];with_reducible exact H)|(have an:=(Option.bind_some _ _).symm.trans H;rw[ab];with_reducible exact an)|(have an:=(Option.bind_some _ _).symm.trans H;with_reducible exact an)|with_reducible exact H|(rw[ab];exact H)|exact H
  have ω :=Aside0.mk ab
  clear ab
  by_cases c3: δ.length+X.length<8796093022208
  ·rw[if_pos c3] at H
   have b3:=Aside0.mk c3
   clear c3
   obtain⟨ay,ac⟩:∃ y_:List (S86),y_=(δ ++ X):=⟨_,rfl⟩
   replace H:(some (a0,ay))=some (r1,r2):=by first|(rw[ac];with_reducible exact H)|(have an:=(Option.bind_some _ _).symm.trans H;rw[ac];with_reducible exact an)|(have an:=(Option.bind_some _ _).symm.trans H;with_reducible exact an)|with_reducible exact H|(rw[ac];exact H)|exact H
   have b1:=Aside0.mk ac
   clear ac
   simp only[Option.some.injEq,Prod.mk.injEq] at H
   obtain⟨rfl,rfl⟩:=H
   go_enter Try.func15,Try.ntmps15
   try go_wp2_with (first|((with_reducible refine Qf (N:=1) rfl ?_);refine qE 1 #[.slice ι B.length θ,.slice ε X.length ζ] 50 ?_;intro κ hg w4 hbox hb;have J:=Aside0.mk hbox;have b9:=sGe hg;have ba:=sGe hg;replace HB:=sHb hb;clear hb hbox hg)|((with_reducible refine Qf (N:=2) rfl ?_);refine qE 2 #[.slice none 0 0,.slice none 0 0] 50 ?_;intro η hg w5 hbox hb;have O:=Aside0.mk hbox;have bc:=sGe hg;have bd:=sGe hg;have ν :=sNl J hg;have ag:=sNg J hg;replace J:=sBk J hb;replace HB:=sHb hb;clear hb hbox hg))
   replace J:=Aside0.mk (Qe J.out)
   replace O:=Aside0.mk (Qe O.out)
   replace HB:=Aside0.mk (Qg HB.out)
   refine Zi (n:=10) (S:=fun w'=>w'.cell? ⟨κ,0,none⟩=some (.slice ι B.length θ)∧w'.cell? ⟨κ,1,none⟩=some (.slice ε X.length ζ)) (ds:=[]) #[false,false,false,false,false,false,false,false,false,false] kr rfl rfl ⟨(Qa J.out 0).trans rfl,(Qa J.out 1).trans rfl⟩ (fun hHeld=>?_);refine Q9 newellaw19_Own.Km newellaw19_Own.Y3 (fun HT_ HW_=>?_)
   generalize w5.drew=w6 at J O HB hHeld ⊢
   refine qP 1 (some 4) (bN 10 2) HT_ ?_
   refine qP 5 (some 8) (bN 10 34) HT_ ?_
   refine qT 2 (some 5) (bN 10 38) HT_ HW_ hHeld ?_
   refine qT 6 (some 9) (bN 10 102) HT_ HW_ hHeld ?_
   refine Yi (σ:=Value×Value×Value) 3 (bN 10 127) (fun s_=>[(3,s_.1),(6,s_.2.1),(7,s_.2.2)]) (fun s_ w'=>(w'.cell? ⟨κ,0,none⟩=some (.slice ι B.length θ)∧w'.cell? ⟨κ,1,none⟩=some (.slice ε X.length ζ))∧(Kd.R k36 36 w' w.heap.size (fun _=>True) s_.2.1 a0)∧(Kd.R k86 86 w' w.heap.size (fun _=>True) s_.2.2 δ)∧(w'.heap[κ]?=some (.cells #[.slice ι B.length θ,.slice ε X.length ζ] 50 (0,0)))∧(w'.heap[η]?=some (.cells #[.slice none 0 0,.slice none 0 0] 50 (0,0)))∧(Below w.heap.size w w')) ?_ ?_
   rotate_left
   ·intro hCont
    refine Kj (i:=0) (j:=4) (Ni:=some 3) (Nj:=some 7) (bN 10 103) (bN 10 118) rfl rfl rfl rfl (X5 HT_.out kr) (by decide) (by decide) (fun K hK=>?_) (fun K hK=>?_)
    ·skip
     refine Kd.Zq k36 _ 36 ?hg (N:=3) ?hd (xs:=([]:List (S36))) (inner:=[]) (ok:=fun _=>True) (okp:=fun _=>True) ?hr ?hp (fun _ hk=>hk) trivial (Below.refl _ _) (Nat.le_refl _) (by simp) ?_;(case hd=>rfl);(case hg=>rfl);(case hr=>go_simp <;> rfl);(case hp=>exact(Reps.none _ _))
     intro φ w7 χ hb hg_ hnew_
     clear hg_ hnew_
     (first|rw[← ah.out] at χ |(simp only[Int.reduceToNat] at χ;rw[← ah.out] at χ))
     have Z:=Aside0.mk (Kd.Q3 χ (Qi HB.out))
     replace J:=sBk J hb
     replace O:=sBk O hb
     replace HB:=sHb hb
     clear hb χ
     refine hK.out _ _ ⟨qc J,qc J⟩ (fun hHeld=>?_)
     clear hK K
     refine qN (some 3) ?_
     refine Kj (i:=3) (j:=4) (Ni:=some 6) (Nj:=some 7) (bN 10 111) (bN 10 119) rfl rfl rfl rfl (X5 HT_.out kr) (by decide) (by decide) (fun K hK=>?_) (fun K hK=>?_)
     ·skip
      refine Kd.Zc k36 (w0:=w) w.heap.size (by rfl) (.tmp 3) (.tmp 5) 47 36 (.agg #[(.int .i64 0),(.int .i64 0),(.int .i64 0)]) 24 rfl Try.underlying47 Js rfl (by decide) (by omega) φ τ B _ _ _ (fun _=>True) (fun _=>False) rfl rfl ?aO ?aR (fun _ _ h=>h) (fun _ h=>h.elim) ?aF ?aB ?aS ?aL ?_
      (case aR=>exact(Kd.Qy a9.out HB.out))
      (case aB=>exact HB.out)
      (case aF=>exact(fun _ _=>trivial))
      (case aO=>exact Z.out)
      (case aS=>exact(Qi HB.out))
      (case aL=>have:=ak.out;omega)
      intro a1 w9 ho hb hg hat
      rw[← aj.out] at ho
      have μ :=Aside0.mk ho
      replace J:=Aside0.mk (Q1 (g:= κ) (o:=.cells #[.slice ι B.length θ,.slice ε X.length ζ] 50 (0,0)) J.out hg (Kd.Z6 Z.out J.out (by decide)))
      replace O:=Aside0.mk (Q1 (g:= η) (o:=.cells #[.slice none 0 0,.slice none 0 0] 50 (0,0)) O.out hg (Kd.Z6 Z.out O.out (by decide)))
      replace HB:=Aside0.mk hb
      clear Z
      clear ho hb hg hat
      refine hK.out _ _ ⟨qc J,qc J⟩ (fun hHeld=>?_)
      clear hK K
      refine qN (some 6) ?_
      refine Zb (i:=4) (N:=some 7) (bN 10 127) rfl rfl (Q4 HT_.out kr) (by decide) (fun K hK=>?_)
      refine Kd.Zq k86 _ 86 ?hg (N:=7) ?hd (xs:=([]:List (S86))) (inner:=[]) (ok:=fun _=>True) (okp:=fun _=>True) ?hr ?hp (fun _ hk=>hk) trivial (Below.refl _ _) (Nat.le_refl _) (by simp) ?_;(case hd=>rfl);(case hg=>rfl);(case hr=>go_simp <;> rfl);(case hp=>exact(Reps.none _ _))
      intro ψ ih ai hb hg_ hnew_
      clear hg_ hnew_
      (first|rw[← ω.out] at ai|(simp only[Int.reduceToNat] at ai;rw[← ω.out] at ai))
      have γ:=Aside0.mk (Kd.Q3 ai (Qi HB.out))
      replace μ :=sRb μ hb
      replace J:=sBk J hb
      replace O:=sBk O hb
      replace HB:=sHb hb
      clear hb ai
      refine hK.out _ _ ⟨qc J,qc J⟩ (fun hHeld=>?_)
      clear hK K
      refine qN (some 7) ?_
      exact Zf (by simp only[Q8,Act.put,qS]) (hCont (φ,a1,ψ) _ ⟨hHeld,μ.out,γ.out,J.out,O.out,HB.out⟩)
     ·skip
      refine Kd.Zq k86 _ 86 ?hg (N:=7) ?hd (xs:=([]:List (S86))) (inner:=[]) (ok:=fun _=>True) (okp:=fun _=>True) ?hr ?hp (fun _ hk=>hk) trivial (Below.refl _ _) (Nat.le_refl _) (by simp) ?_;(case hd=>rfl);(case hg=>rfl);(case hr=>go_simp <;> rfl);(case hp=>exact(Reps.none _ _))
      intro ψ w9 Y hb hg_ hnew_
      clear hg_ hnew_
      (first|rw[← ω.out] at Y|(simp only[Int.reduceToNat] at Y;rw[← ω.out] at Y))
      have γ:=Aside0.mk (Kd.Q3 Y (Qi HB.out))
      replace Z:=sRb Z hb
      replace J:=sBk J hb
      replace O:=sBk O hb
      replace HB:=sHb hb
      clear hb Y
      refine hK.out _ _ ⟨qc J,qc J⟩ (fun hHeld=>?_)
      clear hK K
      refine qN (some 7) ?_
      refine Zb (i:=3) (N:=some 6) (bN 10 127) rfl rfl (Q4 HT_.out kr) (by decide) (fun K hK=>?_)
      refine Kd.Zc k36 (w0:=w) w.heap.size (by rfl) (.tmp 3) (.tmp 5) 47 36 (.agg #[(.int .i64 0),(.int .i64 0),(.int .i64 0)]) 24 rfl Try.underlying47 Js rfl (by decide) (by omega) φ τ B _ _ _ (fun _=>True) (fun _=>False) rfl rfl ?aO ?aR (fun _ _ h=>h) (fun _ h=>h.elim) ?aF ?aB ?aS ?aL ?_
      (case aR=>exact(Kd.Qy a9.out HB.out))
      (case aB=>exact HB.out)
      (case aF=>exact(fun _ _=>trivial))
      (case aO=>exact Z.out)
      (case aS=>exact(Qi HB.out))
      (case aL=>have:=ak.out;omega)
      intro a1 di ho hb hg hat
      rw[← aj.out] at ho
      have μ :=Aside0.mk ho
      replace J:=Aside0.mk (Q1 (g:= κ) (o:=.cells #[.slice ι B.length θ,.slice ε X.length ζ] 50 (0,0)) J.out hg (Kd.Z6 Z.out J.out (by decide)))
      replace O:=Aside0.mk (Q1 (g:= η) (o:=.cells #[.slice none 0 0,.slice none 0 0] 50 (0,0)) O.out hg (Kd.Z6 Z.out O.out (by decide)))
      replace γ:=Aside0.mk (Kd.Y5 γ.out (Kd.Y4 Z.out) (by decide) hg)
      replace HB:=Aside0.mk hb
      clear Z
      clear ho hb hg hat
      refine hK.out _ _ ⟨qc J,qc J⟩ (fun hHeld=>?_)
      clear hK K
      refine qN (some 6) ?_
      exact Zf (by simp only[Q8,Act.put,qS]) (hCont (φ,a1,ψ) _ ⟨hHeld,μ.out,γ.out,J.out,O.out,HB.out⟩)
    ·skip
     refine Kd.Zq k86 _ 86 ?hg (N:=7) ?hd (xs:=([]:List (S86))) (inner:=[]) (ok:=fun _=>True) (okp:=fun _=>True) ?hr ?hp (fun _ hk=>hk) trivial (Below.refl _ _) (Nat.le_refl _) (by simp) ?_;(case hd=>rfl);(case hg=>rfl);(case hr=>go_simp <;> rfl);(case hp=>exact(Reps.none _ _))
     intro ψ w7 χ hb hg_ hnew_
     clear hg_ hnew_
     (first|rw[← ω.out] at χ |(simp only[Int.reduceToNat] at χ;rw[← ω.out] at χ))
     have γ:=Aside0.mk (Kd.Q3 χ (Qi HB.out))
     replace J:=sBk J hb
     replace O:=sBk O hb
     replace HB:=sHb hb
     clear hb χ
     refine hK.out _ _ ⟨qc J,qc J⟩ (fun hHeld=>?_)
     clear hK K
     refine qN (some 7) ?_
     refine Zb (i:=0) (N:=some 3) (bN 10 119) rfl rfl (Q4 HT_.out kr) (by decide) (fun K hK=>?_)
     refine Kd.Zq k36 _ 36 ?hg (N:=3) ?hd (xs:=([]:List (S36))) (inner:=[]) (ok:=fun _=>True) (okp:=fun _=>True) ?hr ?hp (fun _ hk=>hk) trivial (Below.refl _ _) (Nat.le_refl _) (by simp) ?_;(case hd=>rfl);(case hg=>rfl);(case hr=>go_simp <;> rfl);(case hp=>exact(Reps.none _ _))
     intro φ w9 Y hb hg_ hnew_
     clear hg_ hnew_
     (first|rw[← ah.out] at Y|(simp only[Int.reduceToNat] at Y;rw[← ah.out] at Y))
     have Z:=Aside0.mk (Kd.Q3 Y (Qi HB.out))
     replace γ:=sRb γ hb
     replace J:=sBk J hb
     replace O:=sBk O hb
     replace HB:=sHb hb
     clear hb Y
     refine hK.out _ _ ⟨qc J,qc J⟩ (fun hHeld=>?_)
     clear hK K
     refine qN (some 3) ?_
     refine Zb (i:=3) (N:=some 6) (bN 10 127) rfl rfl (Q4 HT_.out kr) (by decide) (fun K hK=>?_)
     refine Kd.Zc k36 (w0:=w) w.heap.size (by rfl) (.tmp 3) (.tmp 5) 47 36 (.agg #[(.int .i64 0),(.int .i64 0),(.int .i64 0)]) 24 rfl Try.underlying47 Js rfl (by decide) (by omega) φ τ B _ _ _ (fun _=>True) (fun _=>False) rfl rfl ?aO ?aR (fun _ _ h=>h) (fun _ h=>h.elim) ?aF ?aB ?aS ?aL ?_
     (case aR=>exact(Kd.Qy a9.out HB.out))
     (case aB=>exact HB.out)
     (case aF=>exact(fun _ _=>trivial))
     (case aO=>exact Z.out)
     (case aS=>exact(Qi HB.out))
     (case aL=>have:=ak.out;omega)
     intro a1 di ho hb hg hat
     rw[← aj.out] at ho
     have μ :=Aside0.mk ho
     replace J:=Aside0.mk (Q1 (g:= κ) (o:=.cells #[.slice ι B.length θ,.slice ε X.length ζ] 50 (0,0)) J.out hg (Kd.Z6 Z.out J.out (by decide)))
     replace O:=Aside0.mk (Q1 (g:= η) (o:=.cells #[.slice none 0 0,.slice none 0 0] 50 (0,0)) O.out hg (Kd.Z6 Z.out O.out (by decide)))
     replace γ:=Aside0.mk (Kd.Y5 γ.out (Kd.Y4 Z.out) (by decide) hg)
     replace HB:=Aside0.mk hb
     clear Z
     clear ho hb hg hat
     refine hK.out _ _ ⟨qc J,qc J⟩ (fun hHeld=>?_)
     clear hK K
     refine qN (some 6) ?_
     exact Zf (by simp only[Q8,Act.put,qS]) (hCont (φ,a1,ψ) _ ⟨hHeld,μ.out,γ.out,J.out,O.out,HB.out⟩)
   rintro⟨φ,a1,ψ⟩ fy ⟨hS_,bj,bk,bl,bm,bn⟩
   have ξ :Aside0 (Kd.R k36 36 fy w.heap.size (fun _=>True) a1 a0):=⟨bj⟩
   have ρ:Aside0 (Kd.R k86 86 fy w.heap.size (fun _=>True) ψ δ):=⟨bk⟩
   have a3:Aside0 (fy.heap[κ]?=some (.cells #[.slice ι B.length θ,.slice ε X.length ζ] 50 (0,0))):=⟨bl⟩
   have a7:Aside0 (fy.heap[η]?=some (.cells #[.slice none 0 0,.slice none 0 0] 50 (0,0))):=⟨bm⟩
   have al:Aside0 (Below w.heap.size w fy):=⟨bn⟩
   clear J
   clear O
   clear HB
   clear bj bk bl bm bn
   have μ := ξ
   have γ:=ρ
   have J:=a3
   have O:=a7
   have HB:=al
   clear ξ ρ a3 a7 al
   have hHeld:fy.cell? ⟨κ,0,none⟩=some (.slice ι B.length θ)∧fy.cell? ⟨κ,1,none⟩=some (.slice ε X.length ζ):=hS_
   refine Zf (a':=?_) ?_ ?_
   rotate_left
   ·simp only[Q8,Act.put,qS]
    rfl
   refine Zb (i:=7) (N:=some 10) (bN 10 255) rfl rfl (Q4 HT_.out kr) (by decide) (fun K hK=>?_)
   refine Kd.Zc k86 (w0:=w) w.heap.size (by rfl) (.tmp 7) (.tmp 9) 48 86 (.agg #[(.int .i64 0),(.int .i64 0)]) 16 rfl Try.underlying48 K4 rfl (by decide) (by omega) ψ δ X _ _ _ (fun _=>True) (fun _=>False) rfl rfl ?aO ?aR (fun _ _ h=>h) (fun _ h=>h.elim) ?aF ?aB ?aS ?aL ?_
   (case aR=>exact(Kd.Qy am.out HB.out))
   (case aB=>exact HB.out)
   (case aF=>exact(fun _ _=>trivial))
   (case aO=>exact γ.out)
   (case aS=>exact(Qi HB.out))
   (case aL=>have:=b3.out;omega)
   intro bf fx ho hb hg hat
   rw[← b1.out] at ho
   have ap:=Aside0.mk ho
   replace J:=Aside0.mk (Q1 (g:= κ) (o:=.cells #[.slice ι B.length θ,.slice ε X.length ζ] 50 (0,0)) J.out hg (Kd.Z6 γ.out J.out (by decide)))
   replace O:=Aside0.mk (Q1 (g:= η) (o:=.cells #[.slice none 0 0,.slice none 0 0] 50 (0,0)) O.out hg (Kd.Z6 γ.out O.out (by decide)))
   replace μ :=Aside0.mk (Kd.Y5 μ.out (Kd.Y4 γ.out) (by decide) hg)
   replace HB:=Aside0.mk hb
   clear γ
   clear ho hb hg hat
   obtain⟨b4,b5,az⟩:=Kd.Q7 ap.out
   (first|subst az|(injection az with ae av af;have aw:=ae.symm;have ax:=af.symm;clear ae av af;subst aw;subst ax))
   obtain⟨jd,je,gi⟩:=Kd.Q7 μ.out
   (first|subst gi|(injection gi with ae av af;have aw:=ae.symm;have ax:=af.symm;clear ae av af;subst aw;subst ax))
   refine hK.out _ _ ⟨qc J,qc J⟩ (fun hHeld=>?_)
   clear hK K
   refine qN (some 10) ?_
   refine qP 8 (some 11) (bN 10 511) HT_ ?_
   refine Zb (i:=9) (N:=none) (bN 10 1023) rfl rfl (Q4 HT_.out kr) (by decide) (fun K hK=>?_)
   have b8:fx.cell? ⟨η,0,none⟩=some (.slice none 0 0):=(Qa O.out 0).trans rfl
   have b2:=Qc O.out 0
   have ar:= ν.out
   have au:=ag.out
   have bg:fx.cell? ⟨η,1,none⟩=some (.slice none 0 0):=(Qa O.out 1).trans rfl
   have be:=Qc O.out 1
   have b6:= ν.out
   have b7:=ag.out
   refine K8 (w1:=?_) (by rfl) rfl ?_ ?_
   rotate_left
   ·go_simp
    rfl
   refine hK.out _ _ ⟨((cell_far (p:=⟨η,_,none⟩) ν.out _).trans (((cell_far (p:=⟨η,_,none⟩) ν.out _).trans (hHeld.1)))),((cell_far (p:=⟨η,_,none⟩) ν.out _).trans (((cell_far (p:=⟨η,_,none⟩) ν.out _).trans (hHeld.2))))⟩ (fun hHeld=>?_)
   clear hK K
   refine Zx (Ze HT_.out kr) ?_
   try go_wp2
   refine bodyPost_ret (results_cell_row rfl _ _ η 50 #[.slice jd a0.length je,.slice b4 ay.length b5] (0,0) _ rfl (by refine Ql (cs:=#[.slice jd a0.length je,.slice none 0 0]) ?_ 1 _ rfl;refine Ql (cs:=#[.slice none 0 0,.slice none 0 0]) ?_ 0 _ rfl;exact O.out) Try.underlying50 rfl kr) rfl ?_
   exact⟨_,_,by first|rfl|(simp[Qk,Qj] <;> rfl)|(simp[*,Qk,Qj] <;> rfl),by(with_reducible repeat first|apply Kd.Qq|apply Kd.Qp|apply Kd.Qr);exact Kd.Qw (Kd.Qx (Kd.Qx (Kd.Q5 μ.out O.out (by decide)) (fun _ hk=>hk.2) _) (fun _ hk=>hk.2) _) (fun _ hk=>trivial),by(with_reducible repeat first|apply Kd.Qq|apply Kd.Qp|apply Kd.Qr);exact Kd.Qw (Kd.Qx (Kd.Qx (Kd.Q5 ap.out O.out (by decide)) (fun _ hk=>hk.2) _) (fun _ hk=>hk.2) _) (fun _ hk=>trivial),bel⟩
  ·rw[if_neg c3] at H
   exact absurd H (by simp)
 ·rw[if_neg c2] at H
  exact absurd H (by simp)
theorem eqA36 (d:Nat) (w:World) (B O:Int) (J X:Int) (Y Z:Int):
  (Op.equalIn (d+2) 36 (.agg #[.int .i64 B,.int .i64 J,.int .i64 Y]) (.agg #[.int .i64 O,.int .i64 X,.int .i64 Z])).run Try.prog w = .ok (B==O&&(J==X&&(Y==Z))) w:=by
 refine Nm Try.underlying36 kr ?_
 refine Gy (by rfl) (by go_simp;rfl) (by go_simp;rfl) (by go_simp) ?_
 refine Gy (by rfl) (by go_simp;rfl) (by go_simp;rfl) (by go_simp) ?_
 exact U3 (by rfl) (by go_simp;rfl) (by go_simp;rfl) (by go_simp)
theorem eqA86 (d:Nat) (w:World) (B O:Int) (J X:Int):
  (Op.equalIn (d+2) 86 (.agg #[.int .i64 B,.int .i64 J]) (.agg #[.int .i64 O,.int .i64 X])).run Try.prog w = .ok (B==O&&(J==X)) w:=by
 refine Nm Try.underlying86 kr ?_
 refine Gy (by rfl) (by go_simp;rfl) (by go_simp;rfl) (by go_simp) ?_
 exact U3 (by rfl) (by go_simp;rfl) (by go_simp;rfl) (by go_simp)
def group_house.f (J:Int) (O:Int) (X:Int) (Y:Int) (Z:Int) (δ :Int) (γ:Int) (ι :Int) (θ :Int) (η :Int) (l1:List (S31)):Option (Int×Int):=some (J,(l1.length:Int))
set_option maxHeartbeats 8000000 in
set_option maxRecDepth 100000 in
theorem group_house.calls (J:Int) (O:Int) (X:Int) (Y:Int) (Z:Int) (δ :Int) (γ:Int) (ι :Int) (θ :Int) (η :Int) (A1:Option Addr) (c1:Nat) (l1:List (S31)) (r1:Int) (r2:Int) (w:World) (dh:Kd.C k31 w A1 l1.length l1) (ck:l1.length≤c1) (h:group_house.f J O X Y Z δ γ ι θ η l1=some (r1,r2)):
  Calls Try.prog 37 #[.agg #[.int .i64 J,.int .i64 O,.int .i64 X,.int .i64 Y,.int .i64 Z,.int .i64 δ,.int .i64 γ,.int .i64 ι,.int .i64 θ,.int .i64 η],.slice A1 l1.length c1] w fun e w'=>e = .returned (.agg #[.int .i64 r1,.int .i64 r2])∧Below w.heap.size w w':=by
 have e5:=Try.underlying25
 have jf:=Try.underlying59
 have d1:=Aside0.mk dh
 have dk:=Aside0.mk ck
 clear dh ck
 have HB:=Aside0.mk (Below.refl w.heap.size w)
 have H:(some (J,(l1.length:Int)))=some (r1,r2):=h
 clear h
 simp only[Option.some.injEq,Prod.mk.injEq] at H
 obtain⟨rfl,rfl⟩:=H
 go_enter Try.func37,Try.ntmps37
 go_wp2_with (first|((with_reducible refine Qf (N:=2) rfl ?_);refine Zh ?hg (N:=2) ?hd (cs:=#[.int .i64 J,.int .i64 O,.int .i64 X,.int .i64 Y,.int .i64 Z,.int .i64 δ,.int .i64 γ,.int .i64 ι,.int .i64 θ,.int .i64 η]) (t:=25) ?hr ?_;(case hd=>rfl);(case hg=>rfl);(case hr=>first|(go_simp;done)|(go_simp;rfl));intro B hg w3 hbox hb;have ξ :=Aside0.mk (Q0 (by repeat(first|(with_reducible first|exact HB.out|apply Qs|apply Qh|apply Qg)|exact HB.out)) hb);have ρ:=Aside0.mk (hbox);have a3:=Aside0.mk ((by rw[hg];exact(Qi (by repeat(first|(with_reducible first|exact HB.out|apply Qs|apply Qh|apply Qg)|exact HB.out))):w.heap.size≤B));have a7:=Aside0.mk ((by rw[hg];exact(Qi (by repeat(first|(with_reducible first|exact HB.out|apply Qs|apply Qh|apply Qg)|exact HB.out))):w.heap.size≤B));clear HB;have HB:= ξ;have ε :=ρ;have aj:=a3;have κ :=a7;clear ξ ρ a3 a7;clear hb hbox hg)|((with_reducible refine Qf (N:=4) rfl ?_);refine Zh ?hg (N:=4) ?hd (cs:=#[.int .i64 0,.int .i64 0]) (t:=59) ?hr ?_;(case hd=>rfl);(case hg=>rfl);(case hr=>first|(go_simp;done)|(go_simp;rfl));intro ζ hg w4 hbox hb;have ξ :=Aside0.mk (Qz (g:=B) (o:=.cells #[.int .i64 J,.int .i64 O,.int .i64 X,.int .i64 Y,.int .i64 Z,.int .i64 δ,.int .i64 γ,.int .i64 ι,.int .i64 θ,.int .i64 η] 25 (0,0)) (by(with_reducible repeat first|refine Qm ?_ _|refine Qe ?_|refine Qn ?_ _);exact ε.out) hb);have ρ:=Aside0.mk (Q0 (by repeat(first|(with_reducible first|exact HB.out|apply Qs|apply Qh|apply Qg|refine Qv ?_ κ.out)|exact HB.out)) hb);have a3:=Aside0.mk (hbox);have a7:=Aside0.mk ((by rw[hg];exact(Qi (by repeat(first|(with_reducible first|exact HB.out|apply Qs|apply Qh|apply Qg|refine Qv ?_ κ.out)|exact HB.out))):w.heap.size ≤ ζ));have al:=Aside0.mk ((by rw[hg];exact(Qi (by repeat(first|(with_reducible first|exact HB.out|apply Qs|apply Qh|apply Qg|refine Qv ?_ κ.out)|exact HB.out))):w.heap.size ≤ ζ));have b1:=Aside0.mk ((by rw[hg];exact Nat.ne_of_lt (Xj (g:=B) (o:=.cells #[.int .i64 J,.int .i64 O,.int .i64 X,.int .i64 Y,.int .i64 Z,.int .i64 δ,.int .i64 γ,.int .i64 ι,.int .i64 θ,.int .i64 η] 25 (0,0)) (by(with_reducible repeat first|refine Qm ?_ _|refine Qe ?_|refine Qn ?_ _);exact ε.out)):B ≠ ζ));have b8:=Aside0.mk ((by rw[hg];exact Nat.ne_of_gt (Xj (g:=B) (o:=.cells #[.int .i64 J,.int .i64 O,.int .i64 X,.int .i64 Y,.int .i64 Z,.int .i64 δ,.int .i64 γ,.int .i64 ι,.int .i64 θ,.int .i64 η] 25 (0,0)) (by(with_reducible repeat first|refine Qm ?_ _|refine Qe ?_|refine Qn ?_ _);exact ε.out)): ζ ≠ B));clear ε;clear HB;have ε := ξ;have HB:=ρ;have σ:=a3;have ak:=a7;have ω :=al;have μ :=b1;have ν :=b8;clear ξ ρ a3 a7 al b1 b8;clear hb hbox hg;have an:= μ.out;have au:= ν.out;obtain⟨τ,φ,a0,a1,a2,a4,a5,a6,a8,a9,χ,ψ,aa,ab,ac,ae,af,ag,ah,ai⟩:=Zn ε.out;obtain⟨am,ao,ap,ar⟩:=qD2 σ.out))
 refine bodyPost_ret (results_cell_row rfl _ _ ζ 59 #[.int .i64 J,.int .i64 (l1.length:Int)] (0,0) _ rfl (by(with_reducible repeat first|refine Qm ?_ _|refine Qe ?_|refine Qn ?_ _);refine Ql (cs:=#[.int .i64 J,.int .i64 0]) ?_ 1 _ rfl;(with_reducible repeat first|refine Qm ?_ _|refine Qe ?_|refine Qn ?_ _);refine Ql (cs:=#[.int .i64 0,.int .i64 0]) ?_ 0 _ rfl;(with_reducible repeat first|refine Qm ?_ _|refine Qe ?_|refine Qn ?_ _);exact σ.out) Try.underlying59 rfl kr) rfl ?_
 exact⟨by first|rfl|(simp[Qk,Qj] <;> rfl)|(simp[*,Qk,Qj] <;> rfl),by repeat(first|(with_reducible first|exact HB.out|apply Qs|apply Qh|apply Qg|refine Qv ?_ κ.out|refine Qv ?_ ω.out)|exact HB.out)⟩
def newellaw17_Plain.f:Option (Int×Int×Int×Int×Int×Int×Int×Int×Int×Int):=some (4,2,1,2,4,1,2,3,4,0)
set_option maxHeartbeats 8000000 in
set_option maxRecDepth 100000 in
theorem newellaw17_Plain.calls  (r1:Int) (r2:Int) (r3:Int) (r4:Int) (J:Int) (O:Int) (X:Int) (Y:Int) (Z:Int) (B:Int) (w:World) (h:newellaw17_Plain.f=some (r1,r2,r3,r4,J,O,X,Y,Z,B)):
  Calls Try.prog 27 #[] w fun e w'=>e = .returned (.agg #[.int .i64 r1,.int .i64 r2,.int .i64 r3,.int .i64 r4,.int .i64 J,.int .i64 O,.int .i64 X,.int .i64 Y,.int .i64 Z,.int .i64 B])∧Below w.heap.size w w':=by
 have e5:=Try.underlying25
 have gn:=Try.underlying23
 have HB:=Aside0.mk (Below.refl w.heap.size w)
 have H:(some (4,2,1,2,4,1,2,3,4,0))=some (r1,r2,r3,r4,J,O,X,Y,Z,B):=h
 clear h
 simp only[Option.some.injEq,Prod.mk.injEq] at H
 obtain⟨rfl,rfl,rfl,rfl,rfl,rfl,rfl,rfl,rfl,rfl⟩:=H
 go_enter Try.func27,Try.ntmps27
 go_wp2_with (first|((with_reducible refine Qf (N:=0) rfl ?_);refine Zh ?hg (N:=0) ?hd (cs:=#[.int .i64 0,.int .i64 0,.int .i64 0,.int .i64 0,.int .i64 0,.int .i64 0,.int .i64 0,.int .i64 0,.int .i64 0,.int .i64 0]) (t:=25) ?hr ?_;(case hd=>rfl);(case hg=>rfl);(case hr=>first|(go_simp;done)|(go_simp;rfl));intro a9 hg w1 hbox hb;have ξ :=Aside0.mk (Q0 (by repeat(first|(with_reducible first|exact HB.out|apply Qs|apply Qh|apply Qg)|exact HB.out)) hb);have ρ:=Aside0.mk (hbox);have a3:=Aside0.mk ((by rw[hg];exact(Qi (by repeat(first|(with_reducible first|exact HB.out|apply Qs|apply Qh|apply Qg)|exact HB.out))):w.heap.size≤a9));have a7:=Aside0.mk ((by rw[hg];exact(Qi (by repeat(first|(with_reducible first|exact HB.out|apply Qs|apply Qh|apply Qg)|exact HB.out))):w.heap.size≤a9));clear HB;have HB:= ξ;have ε :=ρ;have l6:=a3;have jo:=a7;clear ξ ρ a3 a7;clear hb hbox hg;obtain⟨γ,δ,ζ,η,θ,ι,κ,μ,ν,σ,τ,φ,χ,ψ,ω,a0,a1,a2,a4,a5⟩:=Zn ε.out))
 refine bodyPost_ret (results_cell_row rfl _ _ a9 25 #[.int .i64 4,.int .i64 2,.int .i64 1,.int .i64 2,.int .i64 4,.int .i64 1,.int .i64 2,.int .i64 3,.int .i64 4,.int .i64 0] (0,0) _ rfl (by(with_reducible repeat first|refine Qm ?_ _|refine Qe ?_|refine Qn ?_ _);refine Ql (cs:=#[.int .i64 4,.int .i64 2,.int .i64 1,.int .i64 2,.int .i64 4,.int .i64 1,.int .i64 2,.int .i64 3,.int .i64 4,.int .i64 0]) ?_ 9 _ rfl;(with_reducible repeat first|refine Qm ?_ _|refine Qe ?_|refine Qn ?_ _);refine Ql (cs:=#[.int .i64 4,.int .i64 2,.int .i64 1,.int .i64 2,.int .i64 4,.int .i64 1,.int .i64 2,.int .i64 3,.int .i64 0,.int .i64 0]) ?_ 8 _ rfl;(with_reducible repeat first|refine Qm ?_ _|refine Qe ?_|refine Qn ?_ _);refine Ql (cs:=#[.int .i64 4,.int .i64 2,.int .i64 1,.int .i64 2,.int .i64 4,.int .i64 1,.int .i64 2,.int .i64 0,.int .i64 0,.int .i64 0]) ?_ 7 _ rfl;(with_reducible repeat first|refine Qm ?_ _|refine Qe ?_|refine Qn ?_ _);refine Ql (cs:=#[.int .i64 4,.int .i64 2,.int .i64 1,.int .i64 2,.int .i64 4,.int .i64 1,.int .i64 0,.int .i64 0,.int .i64 0,.int .i64 0]) ?_ 6 _ rfl;(with_reducible repeat first|refine Qm ?_ _|refine Qe ?_|refine Qn ?_ _);refine Ql (cs:=#[.int .i64 4,.int .i64 2,.int .i64 1,.int .i64 2,.int .i64 4,.int .i64 0,.int .i64 0,.int .i64 0,.int .i64 0,.int .i64 0]) ?_ 5 _ rfl;(with_reducible repeat first|refine Qm ?_ _|refine Qe ?_|refine Qn ?_ _);refine Ql (cs:=#[.int .i64 4,.int .i64 2,.int .i64 1,.int .i64 2,.int .i64 0,.int .i64 0,.int .i64 0,.int .i64 0,.int .i64 0,.int .i64 0]) ?_ 4 _ rfl;(with_reducible repeat first|refine Qm ?_ _|refine Qe ?_|refine Qn ?_ _);refine Ql (cs:=#[.int .i64 4,.int .i64 2,.int .i64 1,.int .i64 0,.int .i64 0,.int .i64 0,.int .i64 0,.int .i64 0,.int .i64 0,.int .i64 0]) ?_ 3 _ rfl;(with_reducible repeat first|refine Qm ?_ _|refine Qe ?_|refine Qn ?_ _);refine Ql (cs:=#[.int .i64 4,.int .i64 2,.int .i64 0,.int .i64 0,.int .i64 0,.int .i64 0,.int .i64 0,.int .i64 0,.int .i64 0,.int .i64 0]) ?_ 2 _ rfl;(with_reducible repeat first|refine Qm ?_ _|refine Qe ?_|refine Qn ?_ _);refine Ql (cs:=#[.int .i64 4,.int .i64 0,.int .i64 0,.int .i64 0,.int .i64 0,.int .i64 0,.int .i64 0,.int .i64 0,.int .i64 0,.int .i64 0]) ?_ 1 _ rfl;(with_reducible repeat first|refine Qm ?_ _|refine Qe ?_|refine Qn ?_ _);refine Ql (cs:=#[.int .i64 0,.int .i64 0,.int .i64 0,.int .i64 0,.int .i64 0,.int .i64 0,.int .i64 0,.int .i64 0,.int .i64 0,.int .i64 0]) ?_ 0 _ rfl;(with_reducible repeat first|refine Qm ?_ _|refine Qe ?_|refine Qn ?_ _);exact ε.out) Try.underlying25 rfl kr) rfl ?_
 exact⟨by first|rfl|(simp[Qk,Qj] <;> rfl)|(simp[*,Qk,Qj] <;> rfl),by repeat(first|(with_reducible first|exact HB.out|apply Qs|apply Qh|apply Qg|refine Qv ?_ jo.out)|exact HB.out)⟩
def newelref19_Few.f (B:List (S36)) (X:List (S86)):Option (Bool):=if (B.length:Int)≤130 then (some (decide ((X.length:Int)≤520))) else (some false)
set_option maxHeartbeats 8000000 in
set_option maxRecDepth 100000 in
theorem newelref19_Few.calls (ι :Option Addr) (θ :Nat) (B:List (S36)) (ε :Option Addr) (ζ :Nat) (X:List (S86)) (r:Bool) (w:World) (a6:Kd.C k36 w ι B.length B) (a8:B.length ≤ θ) (a2:Kd.C k86 w ε X.length X) (a4:X.length ≤ ζ) (h:newelref19_Few.f B X=some r):
  Calls Try.prog 36 #[.agg #[.slice ι B.length θ,.slice ε X.length ζ]] w fun e w'=>e = .returned (.bool r)∧Below w.heap.size w w':=by
 have ed:=Try.underlying50
 have a9:=Aside0.mk a6
 have ao:=Aside0.mk a8
 clear a6 a8
 have am:=Aside0.mk a2
 have b0:=Aside0.mk a4
 clear a2 a4
 have HB:=Aside0.mk (Below.refl w.heap.size w)
 have H:(if (B.length:Int)≤130 then (some (decide ((X.length:Int)≤520))) else (some false))=some r:=h
 clear h
 by_cases c2:(B.length:Int)≤130
 ·rw[if_pos c2] at H
  have c2b0:decide ((B.length:Int)≤130)=true:=decide_eq_true c2
  have c2b1:decide (B.length≤130)=true:=decide_eq_true (by omega)
  clear c2
  obtain rfl:=Option.some.inj H
  go_enter Try.func36,Try.ntmps36
  go_wp2_with (first|((with_reducible refine Qf (N:=1) rfl ?_);(try(refine Zr (by rfl) ?_;dsimp only));refine Zh ?hg (N:=1) ?hd (cs:=#[.slice ι B.length θ,.slice ε X.length ζ]) (t:=50) ?hr ?_;(case hd=>rfl);(case hg=>rfl);(case hr=>first|(go_simp;done)|(go_simp;rfl));intro J hg w3 hbox hb;have ξ :=Aside0.mk (Q0 (by repeat(first|(with_reducible first|exact HB.out|apply Qs|apply Qh|apply Qg)|exact HB.out)) hb);have ρ:=Aside0.mk (hbox);have a3:=Aside0.mk ((by rw[hg];exact(Qi (by repeat(first|(with_reducible first|exact HB.out|apply Qs|apply Qh|apply Qg)|exact HB.out))):w.heap.size≤J));have a7:=Aside0.mk ((by rw[hg];exact(Qi (by repeat(first|(with_reducible first|exact HB.out|apply Qs|apply Qh|apply Qg)|exact HB.out))):w.heap.size≤J));clear HB;have HB:= ξ;have O:=ρ;have Z:=a3;have Y:=a7;clear ξ ρ a3 a7;clear hb hbox hg;obtain⟨ab,ag,ai,aj⟩:=qD2 O.out))
  go_ret
  exact⟨by first|rfl|(simp[Qk,Qj] <;> rfl)|(simp[*,Qk,Qj] <;> rfl),by repeat(first|(with_reducible first|exact HB.out|apply Qs|apply Qh|apply Qg|refine Qv ?_ Y.out)|exact HB.out)⟩
 ·rw[if_neg c2] at H
  have c2b0:decide ((B.length:Int)≤130)=false:=decide_eq_false c2
  have c2b1:decide (B.length≤130)=false:=decide_eq_false (by omega)
  clear c2
  obtain rfl:=Option.some.inj H
  go_enter Try.func36,Try.ntmps36
  go_wp2_with (first|((with_reducible refine Qf (N:=1) rfl ?_);(try(refine Zr (by rfl) ?_;dsimp only));refine Zh ?hg (N:=1) ?hd (cs:=#[.slice ι B.length θ,.slice ε X.length ζ]) (t:=50) ?hr ?_;(case hd=>rfl);(case hg=>rfl);(case hr=>first|(go_simp;done)|(go_simp;rfl));intro J hg w5 hbox hb;have ξ :=Aside0.mk (Q0 (by repeat(first|(with_reducible first|exact HB.out|apply Qs|apply Qh|apply Qg)|exact HB.out)) hb);have ρ:=Aside0.mk (hbox);have a3:=Aside0.mk ((by rw[hg];exact(Qi (by repeat(first|(with_reducible first|exact HB.out|apply Qs|apply Qh|apply Qg)|exact HB.out))):w.heap.size≤J));have a7:=Aside0.mk ((by rw[hg];exact(Qi (by repeat(first|(with_reducible first|exact HB.out|apply Qs|apply Qh|apply Qg)|exact HB.out))):w.heap.size≤J));clear HB;have HB:= ξ;have O:=ρ;have Z:=a3;have Y:=a7;clear ξ ρ a3 a7;clear hb hbox hg;obtain⟨τ,φ,χ,ψ⟩:=qD2 O.out))
  go_ret
  exact⟨by first|rfl|(simp[Qk,Qj] <;> rfl)|(simp[*,Qk,Qj] <;> rfl),by repeat(first|(with_reducible first|exact HB.out|apply Qs|apply Qh|apply Qg|refine Qv ?_ Y.out)|exact HB.out)⟩
def newellaw21_few.f (J:Int) (O:Int) (X:Int) (Y:Int) (Z:Int) (δ :Int) (γ:Int) (ι :Int) (θ :Int) (η :Int) (μ :List (S31)) (a4:Int) (ω :List (S36)) (a0:List (S86)):Option (Bool):=if (μ.length:Int)≤10 then ((newelref19_Few.f ω a0).bind fun ζ =>(some ζ)) else (some false)
set_option maxHeartbeats 8000000 in
set_option maxRecDepth 100000 in
theorem newellaw21_few.calls (J:Int) (O:Int) (X:Int) (Y:Int) (Z:Int) (δ :Int) (γ:Int) (ι :Int) (θ :Int) (η :Int) (b9:Option Addr) (ar:Nat) (μ :List (S31)) (a4:Int) (ag:Option Addr) (ah:Nat) (ω :List (S36)) (ai:Option Addr) (aj:Nat) (a0:List (S86)) (r:Bool) (w:World) (h6:Kd.C k31 w b9 μ.length μ) (h7: μ.length≤ar) (h8:Kd.C k36 w ag ω.length ω) (h9: ω.length≤ah) (ha:Kd.C k86 w ai a0.length a0) (he:a0.length≤aj) (h:newellaw21_few.f J O X Y Z δ γ ι θ η μ a4 ω a0=some r):
  Calls Try.prog 13 #[.agg #[.int .i64 J,.int .i64 O,.int .i64 X,.int .i64 Y,.int .i64 Z,.int .i64 δ,.int .i64 γ,.int .i64 ι,.int .i64 θ,.int .i64 η,.slice b9 μ.length ar,.int .i64 a4,.slice ag ω.length ah,.slice ai a0.length aj]] w fun e w'=>e = .returned (.bool r)∧Below w.heap.size w w':=by
 have tl:=Try.underlying52
 have ed:=Try.underlying50
 have gp:=Aside0.mk h6
 have jm:=Aside0.mk h7
 clear h6 h7
 have ee:=Aside0.mk h8
 have ef:=Aside0.mk h9
 clear h8 h9
 have eg:=Aside0.mk ha
 have eh:=Aside0.mk he
 clear ha he
 have HB:=Aside0.mk (Below.refl w.heap.size w)
 have H:(if (μ.length:Int)≤10 then ((newelref19_Few.f ω a0).bind fun ζ =>(some ζ)) else (some false))=some r:=h
 clear h
 by_cases c2:(μ.length:Int)≤10
 ·rw[if_pos c2] at H
  have c2b0:decide ((μ.length:Int)≤10)=true:=decide_eq_true c2
  have c2b1:decide (μ.length≤10)=true:=decide_eq_true (by omega)
  clear c2
  replace H:=Option.bind_eq_some_iff.mp H
  obtain⟨ζ,d1,H⟩:=H
  replace H:(some ζ)=some r:=H
  have A3:=Aside0.mk d1
  clear d1
  obtain rfl:=Option.some.inj H
  go_enter Try.func13,Try.ntmps13
  go_wp2_with (first|((with_reducible refine Qf (N:=1) rfl ?_);refine qE 1 #[.int .i64 J,.int .i64 O,.int .i64 X,.int .i64 Y,.int .i64 Z,.int .i64 δ,.int .i64 γ,.int .i64 ι,.int .i64 θ,.int .i64 η,.slice b9 μ.length ar,.int .i64 a4,.slice ag ω.length ah,.slice ai a0.length aj] 52 ?_;intro ε hg w4 hbox hb;have B:=Aside0.mk hbox;have κ :=sGe hg;have ν :=sGe hg;replace HB:=sHb hb;clear hb hbox hg;have b4:w4.cell? ⟨ε,0,none⟩=some (.int .i64 J):=(Qa B.out 0).trans rfl;have b5:w4.cell? ⟨ε,1,none⟩=some (.int .i64 O):=(Qa B.out 1).trans rfl;have b7:w4.cell? ⟨ε,2,none⟩=some (.int .i64 X):=(Qa B.out 2).trans rfl;have b8:w4.cell? ⟨ε,3,none⟩=some (.int .i64 Y):=(Qa B.out 3).trans rfl;have ba:w4.cell? ⟨ε,4,none⟩=some (.int .i64 Z):=(Qa B.out 4).trans rfl;have bb:w4.cell? ⟨ε,5,none⟩=some (.int .i64 δ):=(Qa B.out 5).trans rfl;have bc:w4.cell? ⟨ε,6,none⟩=some (.int .i64 γ):=(Qa B.out 6).trans rfl;have be:w4.cell? ⟨ε,7,none⟩=some (.int .i64 ι):=(Qa B.out 7).trans rfl;have al:w4.cell? ⟨ε,8,none⟩=some (.int .i64 θ):=(Qa B.out 8).trans rfl;have am:w4.cell? ⟨ε,9,none⟩=some (.int .i64 η):=(Qa B.out 9).trans rfl;have σ:w4.cell? ⟨ε,10,none⟩=some (.slice b9 μ.length ar):=(Qa B.out 10).trans rfl;have τ :w4.cell? ⟨ε,11,none⟩=some (.int .i64 a4):=(Qa B.out 11).trans rfl;have φ :w4.cell? ⟨ε,12,none⟩=some (.slice ag ω.length ah):=(Qa B.out 12).trans rfl;have χ :w4.cell? ⟨ε,13,none⟩=some (.slice ai a0.length aj):=(Qa B.out 13).trans rfl;have bf:=Qc B.out 0;have bi:=Qc B.out 1;have bj:=Qc B.out 2;have bk:=Qc B.out 3;have bn:=Qc B.out 4;have ce:=Qc B.out 5;have cg:=Qc B.out 6;have cn:=Qc B.out 7;have an:=Qc B.out 8;have ao:=Qc B.out 9;have ψ :=Qc B.out 10;have a1:=Qc B.out 11;have a2:=Qc B.out 12;have a3:=Qc B.out 13)|(go_at_call 36;(with_reducible refine(newelref19_Few.calls _ _ ω _ _ a0 ζ _ ?side1 ?side2 ?side3 ?side4 A3.out).mono ?_);(case side1=>exact(Kd.Qy ee.out HB.out));(case side2=>exact ef.out);(case side3=>exact(Kd.Qy eg.out HB.out));(case side4=>exact eh.out);rintro e w6 ⟨rfl,hb⟩;have ξ :=Aside0.mk (Qz (g:= ε) (o:=.cells #[.int .i64 J,.int .i64 O,.int .i64 X,.int .i64 Y,.int .i64 Z,.int .i64 δ,.int .i64 γ,.int .i64 ι,.int .i64 θ,.int .i64 η,.slice b9 μ.length ar,.int .i64 a4,.slice ag ω.length ah,.slice ai a0.length aj] 52 (0,0)) B.out hb);have ρ:=Aside0.mk (Q0 HB.out hb);clear B;clear HB;have B:= ξ;have HB:=ρ;clear ξ ρ;(try clear hb);(try clear ac);(try clear hk);(try clear hi)))
  go_ret
  exact⟨rfl,HB.out⟩
 ·rw[if_neg c2] at H
  have c2b0:decide ((μ.length:Int)≤10)=false:=decide_eq_false c2
  have c2b1:decide (μ.length≤10)=false:=decide_eq_false (by omega)
  clear c2
  obtain rfl:=Option.some.inj H
  go_enter Try.func13,Try.ntmps13
  go_wp2_with (first|((with_reducible refine Qf (N:=1) rfl ?_);refine qE 1 #[.int .i64 J,.int .i64 O,.int .i64 X,.int .i64 Y,.int .i64 Z,.int .i64 δ,.int .i64 γ,.int .i64 ι,.int .i64 θ,.int .i64 η,.slice b9 μ.length ar,.int .i64 a4,.slice ag ω.length ah,.slice ai a0.length aj] 52 ?_;intro ε hg w7 hbox hb;have B:=Aside0.mk hbox;have κ :=sGe hg;have ν :=sGe hg;replace HB:=sHb hb;clear hb hbox hg;have a5:w7.cell? ⟨ε,0,none⟩=some (.int .i64 J):=(Qa B.out 0).trans rfl;have a6:w7.cell? ⟨ε,1,none⟩=some (.int .i64 O):=(Qa B.out 1).trans rfl;have bq:w7.cell? ⟨ε,2,none⟩=some (.int .i64 X):=(Qa B.out 2).trans rfl;have ch:w7.cell? ⟨ε,3,none⟩=some (.int .i64 Y):=(Qa B.out 3).trans rfl;have co:w7.cell? ⟨ε,4,none⟩=some (.int .i64 Z):=(Qa B.out 4).trans rfl;have cp:w7.cell? ⟨ε,5,none⟩=some (.int .i64 δ):=(Qa B.out 5).trans rfl;have cq:w7.cell? ⟨ε,6,none⟩=some (.int .i64 γ):=(Qa B.out 6).trans rfl;have cr:w7.cell? ⟨ε,7,none⟩=some (.int .i64 ι):=(Qa B.out 7).trans rfl;have cu:w7.cell? ⟨ε,8,none⟩=some (.int .i64 θ):=(Qa B.out 8).trans rfl;have cv:w7.cell? ⟨ε,9,none⟩=some (.int .i64 η):=(Qa B.out 9).trans rfl;have a7:w7.cell? ⟨ε,10,none⟩=some (.slice b9 μ.length ar):=(Qa B.out 10).trans rfl;have a8:w7.cell? ⟨ε,11,none⟩=some (.int .i64 a4):=(Qa B.out 11).trans rfl;have a9:w7.cell? ⟨ε,12,none⟩=some (.slice ag ω.length ah):=(Qa B.out 12).trans rfl;have aa:w7.cell? ⟨ε,13,none⟩=some (.slice ai a0.length aj):=(Qa B.out 13).trans rfl;have bu:=Qc B.out 0;have cd:=Qc B.out 1;have cf:=Qc B.out 2;have cw:=Qc B.out 3;have cx:=Qc B.out 4;have cz:=Qc B.out 5;have d2:=Qc B.out 6;have d4:=Qc B.out 7;have d5:=Qc B.out 8;have df:=Qc B.out 9;have ab:=Qc B.out 10;have ae:=Qc B.out 11;have af:=Qc B.out 12;have ak:=Qc B.out 13))
  go_ret
  exact⟨rfl,HB.out⟩
end Go.Proofs.Ytmfffemidlhcpaa.C
