/- Texts of this claim, one behind the other: what the law's functions come to, walked (printed by a program, with the words that the print uses), and what that is, in plain Lean. No conditions of their own. -/
import Derived.Test.YtmfffemidlhcpaaQGroupAll2
namespace Go.Proofs.Ytmfffemidlhcpaa.C
open Go.RowKit Go.Proofs.YtmfffemidlhcpaaW.PrintWords Go.Proofs.YtmfffemidlhcpaaW.PrintLast Go.Proofs.YtmfffemidlhcpaaW.PrintMore
attribute [local go_sem] Zv Zt Z6 Z5 Zk Zj Zu Zs
set_option linter.unusedVariables false
set_option linter.unusedSimpArgs false
def api_Inside_90.l0:Nat→List (S86)→Int→Int→Int→Option ((List (S86)))
 |0,_,_,_,_=>none
 |k+1,B,J,x5,x6=>if x6<(B.length:Int) then (if 0≤x6 then ((api_Inside_without_1.f ((Qt B x6).f0) ((Qt B x6).f1) J).bind fun ρ=>(if ρ=true then (api_Inside_90.l0 k B J x5 (wrap64 (x6+1))) else (if 0≤x5 then (if x5<(B.length:Int) then (api_Inside_90.l0 k (B.set (x5:Int).toNat (⟨(Qt B x6).f0,(Qt B x6).f1⟩:S86)) J (wrap64 (x5+1)) (wrap64 (x6+1))) else (none)) else (none)))) else (none)) else (if 0≤x5 then (if x5≤(B.length:Int) then (some (B.take (x5:Int).toNat)) else (none)) else (none))
def api_Inside_90.f (k:Nat) (l0:List (S86)) (Y:Int):Option ((List (S86))):=(api_Inside_100.f k l0 Y).bind fun ν =>(if ν = (-1) then (some l0) else (api_Inside_90.l0 k l0 Y ν (wrap64 (ν + 1))))
set_option maxHeartbeats 8000000 in
set_option maxRecDepth 100000 in
theorem api_Inside_90.calls (k:Nat) (O:Nat→Prop) (a9:Value) (l0:List (S86)) (Y:Int) (r:List (S86)) (w0 w:World) (hB:Below w0.heap.size w0 w) (ak:Kd.R k86 86 w w0.heap.size O a9 l0) (h:api_Inside_90.f k l0 Y=some r) (Ar_:Option Addr) (nr_ cr_ gr_ gx_:Nat) (zx_:Int) (hgr_:w.heap[gr_]?=some (.cells #[.slice Ar_ nr_ cr_,.func (.func 83) #[] #[]] 116 (0,0))) (hgx_:w.heap[gx_]?=some (.cells #[.int .i64 (Yi Y),.int .i64 (Yh Y)] 86 (0,0))) (hnr_:¬ O gr_) (hnx_:¬ O gx_):
  Calls Try.prog 90 #[a9,.func (.func 92) #[] #[.pointer (some ⟨gr_,0,none⟩),.pointer (some ⟨gx_,0,none⟩)]] w fun e w'=>∃ bg:Value,e = .returned (bg)∧Kd.R k86 86 w' w0.heap.size (fun k_=>(O k_∨w.heap.size≤k_)) bg r∧Below w0.heap.size w0 w'∧Kept w w' (fun k_=>O k_):=by
 have HCR:=Aside0.mk hgr_
 have HCX:=Aside0.mk hgx_
 have HNR:=Aside0.mk hnr_
 have HNX:=Aside0.mk hnx_
 clear hgr_ hgx_ hnr_ hnx_
 have d9:=Try.underlying86
 have δ :=Aside0.mk (show Kd.R k86 86 w w0.heap.size (fun k_=>(O k_∨w.heap.size≤k_)) a9 l0 from Kd.Qw ak (fun k_ hk=>(.inl hk)))
 have HK:=Aside0.mk (Kept.refl w (fun k_=>O k_))
 have dl:=Aside0.mk hB.size
 have HB:=Aside0.mk hB
 clear hB
 have H:((api_Inside_100.f k l0 Y).bind fun ν =>(if ν = (-1) then (some l0) else (api_Inside_90.l0 k l0 Y ν (wrap64 (ν + 1)))))=some r:=h
 clear h
 replace H:=Option.bind_eq_some_iff.mp H
 obtain⟨ν,a5,H⟩:=H
 replace H:(if ν = (-1) then (some l0) else (api_Inside_90.l0 k l0 Y ν (wrap64 (ν + 1))))=some r:=H
 have A3:=Aside0.mk a5
 clear a5
 by_cases c4: ν = (-1)
 ·rw[if_pos c4] at H
  have c4b0:(ν == (-1))=true:=beq_iff_eq.mpr c4
  have c4b1:(ν != (-1))=false:=bne_eq_false_iff_eq.mpr c4
  clear c4
  obtain rfl:=Option.some.inj H
  obtain⟨dm,dn,d8⟩:=Kd.Q5 δ.out
  subst d8
  go_enter Try.func90,Try.ntmps90
  go_wp2_with (first|(go_at_call 100;((with_reducible refine(api_Inside_100.calls k _ _ l0 Y ν _ ?side1 ?side2 A3.out Ar_ nr_ cr_ gr_ gx_ zx_ (X3 HCR.out (by repeat(first|(with_reducible first|exact HK.out|apply Kept.alloc|apply Kept.drewN|apply Kept.drew|refine Kept.setCell ?_ (.inr aa.out) _)|exact HK.out)) HNR.out) (X3 HCX.out (by repeat(first|(with_reducible first|exact HK.out|apply Kept.alloc|apply Kept.drewN|apply Kept.drew|refine Kept.setCell ?_ (.inr aa.out) _)|exact HK.out)) HNX.out)).mono ?_);(case side1=>exact(Kd.Qr δ.out).2.2);(case side2=>exact(Kd.Qr δ.out).2.1);rintro e w6 ⟨rfl,hb⟩;have μ :=Aside0.mk (Kd.Za δ.out hb);have ξ :=Aside0.mk (Kept.below (S:=(fun k_=>O k_)) (by repeat(first|(with_reducible first|exact HK.out|apply Kept.alloc|apply Kept.drewN|apply Kept.drew)|exact HK.out)) hb);have a3:=Aside0.mk (Q0 HB.out hb);clear δ;clear HK;clear HB;have δ := μ;have HK:= ξ;have HB:=a3;clear μ ξ a3;(try clear hb);(try clear a6);(try clear hk);(try clear hi))))
  go_ret
  exact⟨_,rfl,by(with_reducible repeat first|apply Kd.Qm|apply Kd.Ql|apply Kd.Qs);exact δ.out,HB.out,by repeat(first|(with_reducible first|exact HK.out|apply Kept.alloc|apply Kept.drewN|apply Kept.drew)|exact HK.out)⟩
 ·rw[if_neg c4] at H
  have c4b0:(ν == (-1))=false:=beq_eq_false_iff_ne.mpr c4
  have c4b1:(ν != (-1))=true:=bne_iff_ne.mpr c4
  have H':=Aside0.mk H
  clear H
  obtain⟨ag,ι,db⟩:=Kd.Q5 δ.out
  subst db
  go_enter Try.func90,Try.ntmps90
  go_wp2_with (first|(go_at_call 100;((with_reducible refine(api_Inside_100.calls k _ _ l0 Y ν _ ?side1 ?side2 A3.out Ar_ nr_ cr_ gr_ gx_ zx_ (X3 HCR.out (by repeat(first|(with_reducible first|exact HK.out|apply Kept.alloc|apply Kept.drewN|apply Kept.drew|refine Kept.setCell ?_ (.inr aa.out) _)|exact HK.out)) HNR.out) (X3 HCX.out (by repeat(first|(with_reducible first|exact HK.out|apply Kept.alloc|apply Kept.drewN|apply Kept.drew|refine Kept.setCell ?_ (.inr aa.out) _)|exact HK.out)) HNX.out)).mono ?_);(case side1=>exact(Kd.Qr δ.out).2.2);(case side2=>exact(Kd.Qr δ.out).2.1);rintro e w8 ⟨rfl,hb⟩;have μ :=Aside0.mk (Kd.Za δ.out hb);have ξ :=Aside0.mk (Kept.below (S:=(fun k_=>O k_)) (by repeat(first|(with_reducible first|exact HK.out|apply Kept.alloc|apply Kept.drewN|apply Kept.drew)|exact HK.out)) hb);have a3:=Aside0.mk (Q0 HB.out hb);clear δ;clear HK;clear HB;have δ := μ;have HK:= ξ;have HB:=a3;clear μ ξ a3;(try clear hb);(try clear a6);(try clear hk);(try clear hi))))
  go_loopg [5,6] k (fun kq v5 v6 w'=>∃ (B:List (S86)) (a7:Int) (am:Int),v5 = .int .i64 a7∧v6 = .int .i64 am∧Aside0 (api_Inside_90.l0 kq B Y a7 am=some r)∧Aside0 (kq≤k)∧Aside0 (Kd.R k86 86 w' w0.heap.size (fun k_=>(O k_∨w.heap.size≤k_)) (.slice ag l0.length ι) B)∧Aside0 (Kept w w' (fun k_=>O k_))∧Aside0 (Below w0.heap.size w0 w'))
  case atStart=>exact⟨(l0),(ν),(wrap64 (ν + 1)),rfl,rfl,H',⟨Nat.le_refl _⟩,⟨by(with_reducible repeat first|apply Kd.Qm|apply Kd.Ql|apply Kd.Qs);exact δ.out⟩,⟨by repeat(first|(with_reducible first|exact HK.out|apply Kept.alloc|apply Kept.drewN|apply Kept.drew)|exact HK.out)⟩,HB⟩
  case round=>
   clear H'
   try clear c1
   try clear p2
   try clear c4
   try clear c4b0
   try clear c4b1
   try clear p6
   obtain⟨B,a7,am,rfl,rfl,HA,ao,J,HK,HB⟩:=hrel
   have ζ :=(Kd.Qr J.out).1
   rw[ζ] at J
   (try simp only[ζ])
   cases gk with
   |zero=>exact absurd HA.out (by simp[api_Inside_90.l0])
   |succ k1=>
    have H:=HA.out
    clear HA
    simp only[api_Inside_90.l0] at H
    by_cases c9:am<(B.length:Int)
    ·rw[if_pos c9] at H
     have c9b0:decide (am<(B.length:Int))=true:=decide_eq_true c9
     clear c9
     by_cases c10:0≤am
     ·rw[if_pos c10] at H
      have c10b0:decide (0≤am)=true:=decide_eq_true c10
      clear c10
      replace H:=Option.bind_eq_some_iff.mp H
      obtain⟨ρ,bh,H⟩:=H
      replace H:(if ρ=true then (api_Inside_90.l0 k1 B Y a7 (wrap64 (am+1))) else (if 0≤a7 then (if a7<(B.length:Int) then (api_Inside_90.l0 k1 (B.set (a7:Int).toNat (⟨(Qt B am).f0,(Qt B am).f1⟩:S86)) Y (wrap64 (a7+1)) (wrap64 (am+1))) else (none)) else (none)))=some r:=H
      have da:=Aside0.mk bh
      clear bh
      by_cases ai:ρ=true
      ·subst ai
       have H1:(api_Inside_90.l0 k1 B Y a7 (wrap64 (am+1)))=some r:=by rw[if_pos rfl] at H;exact H
       clear H
       have H:=H1
       clear H1
       have H':=Aside0.mk H
       clear H
       have ac:0≤(am:Int):=of_decide_eq_true (by assumption)
       have aj:am<(B.length:Int):=of_decide_eq_true (by assumption)
       obtain⟨η,b2,κ,a8⟩:=Yc (Kd.Qr J.out).2.2 am ac aj
       cases b2
       replace ac:=eq_true ac
       replace aj:=eq_true aj
       go_wp2_with (first|((with_reducible refine Qf (N:=7) rfl ?_);refine qE 7 #[.int .i64 0,.int .i64 0] 86 ?_;intro ε hg ch hbox hb;have γ:=Aside0.mk hbox;have aa:=Aside0.mk ((by rw[hg];exact(by first|exact HK.out.1|exact(show Kept w _ (fun k_=>O k_) from by repeat(first|(with_reducible first|exact HK.out|apply Kept.alloc|apply Kept.drewN|apply Kept.drew)|exact HK.out)).1):w.heap.size ≤ ε));have b0:=Aside0.mk ((by rw[hg];exact(Qh bel):w0.heap.size ≤ ε));replace J:=Aside0.mk (Kd.Za (Kd.Yy (kra J) ε (Nat.le_of_eq hg.symm)) hb);replace HK:=Aside0.mk (Kept.below (S:=(fun k_=>O k_)) (by repeat(first|(with_reducible first|exact HK.out|apply Kept.alloc|apply Kept.drewN|apply Kept.drew)|exact HK.out)) hb);replace HB:=sHb hb;clear hb hbox hg;obtain⟨cz,d5,d6,dd⟩:=qD2 γ.out)|(go_at_call 92;((with_reducible refine(api_Inside_without_1.calls ((Qt B am).f0) ((Qt B am).f1) Y true _ da.out Ar_ nr_ cr_ gr_ gx_ zx_ (X3 HCR.out (by repeat(first|(with_reducible first|exact HK.out|apply Kept.alloc|apply Kept.drewN|apply Kept.drew|refine Kept.setCell ?_ (.inr aa.out) _)|exact HK.out)) HNR.out) (X3 HCX.out (by repeat(first|(with_reducible first|exact HK.out|apply Kept.alloc|apply Kept.drewN|apply Kept.drew|refine Kept.setCell ?_ (.inr aa.out) _)|exact HK.out)) HNX.out)).mono ?_);rintro e kp ⟨rfl,hb⟩;have μ :=Aside0.mk (Kd.Za (by(with_reducible repeat first|apply Kd.Qm|apply Kd.Ql|apply Kd.Qs);exact(Kd.Qw (Kd.Qz (Kd.Qz (Kd.Qw J.out (fun k_ hk=>(⟨hk,hk.2⟩:_∧k_ ≠ ε))) (fun _ hk=>hk.2) (.int .i64 ((Qt B am).f0))) (fun _ hk=>hk.2) (.int .i64 ((Qt B am).f1))) (fun _ h_=>h_.1))) hb);have ξ :=Aside0.mk (Qy (g:= ε) (o:=.cells #[.int .i64 ((Qt B am).f0),.int .i64 ((Qt B am).f1)] 86 (0,0)) (by(with_reducible repeat first|refine Qn ?_ _|refine Qe ?_|refine Qo ?_ _);refine Qq (cs:=#[.int .i64 ((Qt B am).f0),.int .i64 0]) ?_ 1 _ rfl;(with_reducible repeat first|refine Qn ?_ _|refine Qe ?_|refine Qo ?_ _);refine Qq (cs:=#[.int .i64 0,.int .i64 0]) ?_ 0 _ rfl;(with_reducible repeat first|refine Qn ?_ _|refine Qe ?_|refine Qo ?_ _);exact γ.out) hb);have a3:=Aside0.mk (Kept.below (S:=(fun k_=>O k_)) (by repeat(first|(with_reducible first|exact HK.out|apply Kept.alloc|apply Kept.drewN|apply Kept.drew|refine Kept.setCell ?_ (.inr aa.out) _)|exact HK.out)) hb);have a4:=Aside0.mk (Q0 bel hb);clear J;clear γ;clear HK;clear HB;have J:= μ;have γ:= ξ;have HK:=a3;have HB:=a4;clear μ ξ a3 a4;(try clear hb);(try clear a6);(try clear hk);(try clear hi))))
       (try simp only[← ζ])
       go_roundg k1
       case measure=>have:=ao.out;omega
       case rel=>exact⟨(B),(a7),(wrap64 (am+1)),rfl,rfl,H',⟨by have:=ao.out;omega⟩,⟨by(try simp only[ζ]);(with_reducible repeat first|apply Kd.Qm|apply Kd.Ql|apply Kd.Qs);exact Kd.Qw J.out (fun _ hk=>hk.1)⟩,⟨by repeat(first|(with_reducible first|exact HK.out|apply Kept.alloc|apply Kept.drewN|apply Kept.drew|refine Kept.setCell ?_ (.inr aa.out) _)|exact HK.out)⟩,HB⟩
      ·replace ai:=Bool.eq_false_iff.mpr ai
       subst ai
       have H1:(if 0≤a7 then (if a7<(B.length:Int) then (api_Inside_90.l0 k1 (B.set (a7:Int).toNat (⟨(Qt B am).f0,(Qt B am).f1⟩:S86)) Y (wrap64 (a7+1)) (wrap64 (am+1))) else (none)) else (none))=some r:=by rw[if_neg (show ¬ (false=true) by decide)] at H;exact H
       clear H
       have H:=H1
       clear H1
       by_cases ψ :0≤a7
       ·rw[if_pos ψ] at H
        have c16b0:decide (0≤a7)=true:=decide_eq_true ψ
        clear ψ
        by_cases σ:a7<(B.length:Int)
        ·rw[if_pos σ] at H
         have c17b0:decide (a7<(B.length:Int))=true:=decide_eq_true σ
         clear σ
         obtain⟨θ,Z⟩:∃ y_:List (S86),y_=(B.set (a7:Int).toNat (⟨(Qt B am).f0,(Qt B am).f1⟩:S86)):=⟨_,rfl⟩
         replace H:(api_Inside_90.l0 k1 θ Y (wrap64 (a7+1)) (wrap64 (am+1)))=some r:=by first|(rw[Z];with_reducible exact H)|(have an:=(Option.bind_some _ _).symm.trans H;rw[Z];with_reducible exact an)|(have an:=(Option.bind_some _ _).symm.trans H;with_reducible exact an)|with_reducible exact H|(rw[Z];exact H)|exact H
         have aw:=Aside0.mk Z
         clear Z
         have H':=Aside0.mk H
         clear H
         have ac:0≤(am:Int):=of_decide_eq_true (by assumption)
         have aj:am<(B.length:Int):=of_decide_eq_true (by assumption)
         obtain⟨η,b2,κ,a8⟩:=Yc (Kd.Qr J.out).2.2 am ac aj
         cases b2
         replace ac:=eq_true ac
         replace aj:=eq_true aj
         go_wp2_with (first|((with_reducible refine Qf (N:=7) rfl ?_);refine qE 7 #[.int .i64 0,.int .i64 0] 86 ?_;intro ε hg bc hbox hb;have γ:=Aside0.mk hbox;have aa:=Aside0.mk ((by rw[hg];exact(by first|exact HK.out.1|exact(show Kept w _ (fun k_=>O k_) from by repeat(first|(with_reducible first|exact HK.out|apply Kept.alloc|apply Kept.drewN|apply Kept.drew)|exact HK.out)).1):w.heap.size ≤ ε));have b0:=Aside0.mk ((by rw[hg];exact(Qh HB.out):w0.heap.size ≤ ε));replace J:=Aside0.mk (Kd.Za (Kd.Yy J.out ε (Nat.le_of_eq hg.symm)) hb);replace HK:=Aside0.mk (Kept.below (S:=(fun k_=>O k_)) (by repeat(first|(with_reducible first|exact HK.out|apply Kept.alloc|apply Kept.drewN|apply Kept.drew)|exact HK.out)) hb);replace HB:=sHb hb;clear hb hbox hg;obtain⟨af,al,ar,av⟩:=qD2 γ.out)|(go_at_call 92;((with_reducible refine(api_Inside_without_1.calls ((Qt B am).f0) ((Qt B am).f1) Y false _ da.out Ar_ nr_ cr_ gr_ gx_ zx_ (X3 HCR.out (by repeat(first|(with_reducible first|exact HK.out|apply Kept.alloc|apply Kept.drewN|apply Kept.drew|refine Kept.setCell ?_ (.inr aa.out) _)|exact HK.out)) HNR.out) (X3 HCX.out (by repeat(first|(with_reducible first|exact HK.out|apply Kept.alloc|apply Kept.drewN|apply Kept.drew|refine Kept.setCell ?_ (.inr aa.out) _)|exact HK.out)) HNX.out)).mono ?_);rintro e bs ⟨rfl,hb⟩;have μ :=Aside0.mk (Kd.Za (by(with_reducible repeat first|apply Kd.Qm|apply Kd.Ql|apply Kd.Qs);exact(Kd.Qw (Kd.Qz (p:=⟨ε,1,none⟩) (Kd.Qz (p:=⟨ε,0,none⟩) (Kd.Qw J.out (fun k_ hk=>(⟨hk,hk.2⟩:_∧k_ ≠ ε))) (fun _ hk=>hk.2) (.int .i64 ((Qt B am).f0))) (fun _ hk=>hk.2) (.int .i64 ((Qt B am).f1))) (fun _ h_=>h_.1))) hb);have ξ :=Aside0.mk (Qy (g:= ε) (o:=.cells #[.int .i64 ((Qt B am).f0),.int .i64 ((Qt B am).f1)] 86 (0,0)) (by(with_reducible repeat first|refine Qn ?_ _|refine Qe ?_|refine Qo ?_ _);refine Qq (cs:=#[.int .i64 ((Qt B am).f0),.int .i64 0]) ?_ 1 _ rfl;(with_reducible repeat first|refine Qn ?_ _|refine Qe ?_|refine Qo ?_ _);refine Qq (cs:=#[.int .i64 0,.int .i64 0]) ?_ 0 _ rfl;(with_reducible repeat first|refine Qn ?_ _|refine Qe ?_|refine Qo ?_ _);exact γ.out) hb);have a3:=Aside0.mk (Kept.below (S:=(fun k_=>O k_)) (by repeat(first|(with_reducible first|exact HK.out|apply Kept.alloc|apply Kept.drewN|apply Kept.drew|refine Kept.setCell ?_ (.inr aa.out) _)|exact HK.out)) hb);have a4:=Aside0.mk (Q0 (by repeat(first|(with_reducible first|exact HB.out|apply Qu|apply Qi|apply Qg|refine Qx ?_ b0.out)|exact HB.out)) hb);clear J;clear γ;clear HK;clear HB;have J:= μ;have γ:= ξ;have HK:=a3;have HB:=a4;clear μ ξ a3 a4;(try clear hb);(try clear a6);(try clear hk);(try clear hi);obtain⟨bz,ca,cb,cd⟩:=qD2 γ.out;have au:0≤(a7:Int):=of_decide_eq_true (by first|(with_reducible assumption)|assumption);have ax:(a7:Int)<((B.length:Int):Int):=of_decide_eq_true (by first|(with_reducible assumption)|assumption);obtain⟨X,cw,b5,b6,bq,cx,b7⟩:=Kd.Ui J.out (by omega);(first|cases b5|(injection b5 with ea_ en_ ec_;(first|subst ea_|(injection ea_ with ea_;subst ea_));subst ec_;clear en_));have az:=Aside0.mk b6;have cy:=Aside0.mk b7;clear b6 bq b7;have dc:=Aside0.mk (show(O X∨w.heap.size≤X) from(J.out.1 _ rfl).1);(first|simp only[add_plain] at κ |skip);(first|simp only[add_plain] at a8|skip);obtain⟨d0,b9,b8,ab,ap⟩:=Kd.Jr J.out z86 (a7:Int) au ax;obtain rfl:=J5 b8;have bd:bs.cell? ⟨X,(a7:Int).toNat * 2,none⟩=some (.int .i64 ((Qt B a7).f0)):=ab 0 _ rfl;have bp:bs.cell? ⟨X,(a7:Int).toNat * 2+1,none⟩=some (.int .i64 ((Qt B a7).f1)):=ab 1 _ rfl;have bv:bs.frozen? ⟨X,(a7:Int).toNat * 2,none⟩=false:=ap 0;have cf:bs.frozen? ⟨X,(a7:Int).toNat * 2+1,none⟩=false:=ap 1;clear b9 ab ap b8;replace au:=eq_true au;replace ax:=eq_true ax;have bo:=Aside0.mk (show Kd.R k86 86 bs w0.heap.size (fun k_=>(O k_∨w.heap.size≤k_)∧k_ ≠ ε) (.slice (some ⟨X,0,none⟩) B.length ι) B from(by(with_reducible repeat first|apply Kd.Qm|apply Kd.Ql|apply Kd.Qs);exact J.out));obtain⟨dh,bj,br,ω,ay⟩:=Kd.Jr bo.out z86 (a7:Int) (of_decide_eq_true (by first|(with_reducible assumption)|assumption)) (by have h_:(a7:Int)<((B.length:Int):Int):=of_decide_eq_true (by first|(with_reducible assumption)|assumption);first|exact h_|(have e_:=(Kd.Qr J.out).1;omega)|simpa using h_);obtain rfl:=J5 br;have be:=Kd.Lm bo.out (a7:Int) (of_decide_eq_true (by first|(with_reducible assumption)|assumption)) (by have h_:(a7:Int)<((B.length:Int):Int):=of_decide_eq_true (by first|(with_reducible assumption)|assumption);first|exact h_|(have e_:=(Kd.Qr J.out).1;omega)|simpa using h_) (seg:=[.int .i64 ((Qt B am).f0),.int .i64 ((Qt B am).f1)]) (j:=0) bj ω (show 2≤2 from by decide) (x':=(⟨(Qt B am).f0,(Qt B am).f1⟩:S86)) (V6 _ _ _ (⟨(Qt B am).f0,(Qt B am).f1⟩:S86)) (fun _ hk=>hk);have bu:= ω 0 _ rfl;(try simp only[show(k86).sz=2 from rfl,Nat.mul_one,Nat.add_zero] at bu);have bw:=ay 0;(try simp only[show(k86).sz=2 from rfl,Nat.mul_one,Nat.add_zero] at bw);have ce:= ω 1 _ rfl;(try simp only[show(k86).sz=2 from rfl,Nat.mul_one,Nat.add_zero] at ce);have ci:=ay 1;(try simp only[show(k86).sz=2 from rfl,Nat.mul_one,Nat.add_zero] at ci);clear bj ω ay br))|((with_reducible refine Jm (t:=86) (p:=33) rfl ?_);refine Y3 (t:=86) (p:=33) (v:=?vo_w24) (w1:=((bs.setCell ⟨X,(a7:Int).toNat * 2,none⟩ (.int .i64 ((Qt B am).f0))).setCell ⟨X,(a7:Int).toNat * 2+1,none⟩ (.int .i64 ((Qt B am).f1)))) ?hg ?ho ?hn ?hr ?_;(case ho=>rfl);(case hg=>rfl);(case hn=>rfl);(case hr=>go_simp <;> rfl);intro cg hw;have hg:bs.grownBy cg (some X):=(by rw[hw];exact be.2);have hp_:Kd.R k86 86 cg w0.heap.size (fun k_=>(O k_∨w.heap.size≤k_)∧k_ ≠ ε) (.slice (some ⟨X,0,none⟩) B.length ι) θ :=(by rw[hw,aw.out];exact be.1);clear be;replace γ:=Aside0.mk (Q2 (g:= ε) (o:=.cells #[.int .i64 ((Qt B am).f0),.int .i64 ((Qt B am).f1)] 86 (0,0)) γ.out hg (Kd.W4 J.out (fun _ hk=>hk.2)));replace HB:=Aside0.mk ((by rw[hw];exact Qx (Qx (HB.out) az.out) az.out:Below w0.heap.size w0 cg));replace HK:=Aside0.mk (Kept.Gs (S:=(fun k_=>O k_)) hg (by repeat(first|(with_reducible first|exact HK.out|apply Kept.alloc|apply Kept.drewN|apply Kept.drew|refine Kept.setCell ?_ (.inr aa.out) _)|exact HK.out)) (fun k_ e_=>(J.out.1 k_ e_).1));replace J:=Aside0.mk hp_;clear hg hw hp_))
         (try simp only[← ζ])
         go_roundg k1
         case measure=>have:=ao.out;omega
         case rel=>exact⟨(θ),(wrap64 (a7+1)),(wrap64 (am+1)),rfl,rfl,H',⟨by have:=ao.out;omega⟩,⟨by(try simp only[ζ]);(with_reducible repeat first|apply Kd.Qm|apply Kd.Ql|apply Kd.Qs);exact Kd.Qw J.out (fun _ hk=>hk.1)⟩,⟨by repeat(first|(with_reducible first|exact HK.out|apply Kept.alloc|apply Kept.drewN|apply Kept.drew|refine Kept.setCell ?_ (.inr aa.out) _)|exact HK.out)⟩,HB⟩
        ·rw[if_neg σ] at H
         exact absurd H (by simp)
       ·rw[if_neg ψ] at H
        exact absurd H (by simp)
     ·rw[if_neg c10] at H
      exact absurd H (by simp)
    ·rw[if_neg c9] at H
     have c9b0:decide (am<(B.length:Int))=false:=decide_eq_false c9
     clear c9
     by_cases bf:0≤a7
     ·rw[if_pos bf] at H
      have c25b0:=eq_true bf
      have c25b1:decide (0≤a7)=true:=decide_eq_true bf
      clear bf
      by_cases ae:a7≤(B.length:Int)
      ·rw[if_pos ae] at H
       have c26b0:=eq_true ae
       have c26b1:decide (a7≤(B.length:Int))=true:=decide_eq_true ae
       clear ae
       obtain⟨χ,τ⟩:∃ y_:List (S86),y_=(B.drop (a7:Int).toNat):=⟨_,rfl⟩
       replace H:(some (B.take (a7:Int).toNat))=some r:=by first|(rw[τ];with_reducible exact H)|(have an:=(Option.bind_some _ _).symm.trans H;rw[τ];with_reducible exact an)|(have an:=(Option.bind_some _ _).symm.trans H;with_reducible exact an)|with_reducible exact H|(rw[τ];exact H)|exact H
       have bk:=Aside0.mk τ
       clear τ
       have c27b0:=eq_true (of_decide_eq_true (by assumption):a7≤(B.length:Int))
       obtain⟨bi,φ⟩:∃ y_:List (S86),y_=(B.take (a7:Int).toNat):=⟨_,rfl⟩
       replace H:(some bi)=some r:=by first|(rw[φ];with_reducible exact H)|(have an:=(Option.bind_some _ _).symm.trans H;rw[φ];with_reducible exact an)|(have an:=(Option.bind_some _ _).symm.trans H;with_reducible exact an)|with_reducible exact H|(rw[φ];exact H)|exact H
       have b1:=Aside0.mk φ
       clear φ
       obtain rfl:=Option.some.inj H
       have cj:(a7:Int)≤((B.length:Int):Int):=of_decide_eq_true (by assumption)
       obtain⟨di,bl,_,bm,_⟩:=info_parts K6
       have hroom28:B.length ≤ ι :=(Kd.Qr J.out).2.1
       have ck:Kd.C k86 _ ag B.length B:=(Kd.Qr J.out).2.2
       have d1:(0:Int)≤(a7:Int):=of_decide_eq_true (by assumption)
       have cm:=Nu (P:=Try.prog) 48 86 .i64 Try.underlying48 bl 2 bm ag B.length ι a7 d1 cj
       have ah:=Kd.Ce (m:=(a7:Int).toNat) (c:= ι) ck (by omega) hroom28
       obtain⟨eb,b3⟩:∃ A1,A1=(if ι = (a7:Int).toNat then ag else (ag:Option Addr).map (·.add ((a7:Int).toNat * 2))):=⟨_,rfl⟩
       obtain⟨cr,b4⟩:∃ c1,c1 = ι - (a7:Int).toNat:=⟨_,rfl⟩
       have ba: χ.length=B.length - (a7:Int).toNat:=(by rw[bk.out,List.length_drop] <;> omega)
       rw[show(B).drop (a7:Int).toNat = χ from bk.out.symm] at ah
       replace ah:Kd.C k86 _ eb χ.length χ :=(by rw[b3];exact ah)
       rw[← ba,← b3,← b4] at cm
       have de:=Aside0.mk ah
       have df:=Aside0.mk (show χ.length≤cr from by rw[ba,b4];exact Nat.sub_le_sub_right hroom28 _)
       have d2:=Aside0.mk b4
       clear ah ck hroom28 bl bm b4
       have d3:=Aside0.mk ba
       have d4:=Aside0.mk b3
       clear ba b3
       have d7:=Aside0.mk (show(a7:Int).toNat≤B.length from by omega)
       replace cj:=eq_true cj
       have cn:(a7:Int)≤((B.length:Int):Int):=of_decide_eq_true (by assumption)
       obtain⟨dj,bn,_,cq,_⟩:=info_parts K6
       have co:=Dt (P:=Try.prog) 48 86 .i64 Try.underlying48 bn ag B.length ι a7 (of_decide_eq_true (by assumption)) cn (Kd.Qr J.out).2.1
       have bb:=Kd.D6 (m:=(a7:Int).toNat) J.out (by omega)
       have cp:bi.length=(a7:Int).toNat:=(by rw[b1.out,List.length_take];omega)
       rw[← b1.out] at bb
       rw[← cp] at bb co
       clear cp bn cq
       have a0:=Aside0.mk bb
       clear bb
       replace cn:=eq_true cn
       go_wp2_with (first|((with_reducible refine Xq (b:=.clear) (xs:=#[.tmp 38]) rfl ?_);refine Wx flatI (w:=w) (S:=fun k_=>O k_) rfl (.tmp 38) 48 rfl Try.underlying48 (.agg #[.int .i64 0,.int .i64 0]) zeroI (by decide) rfl ag eb ι cr χ.length B J.out (a7:Int).toNat d7.out d4.out d3.out d2.out rfl HB.out HK.out (fun _ hk=>hk) bi (b1.out) ?_;intro dk ct cu cv;have μ :=Aside0.mk ct;have ξ :=Aside0.mk cu;have a3:=Aside0.mk cv;clear ct cu cv J a0 HB HK;have a0:= μ;have HB:= ξ;have HK:=a3;clear μ ξ a3))
       go_ret
       exact⟨_,rfl,by(with_reducible repeat first|apply Kd.Qm|apply Kd.Ql|apply Kd.Qs);exact a0.out,HB.out,by repeat(first|(with_reducible first|exact HK.out|apply Kept.alloc|apply Kept.drewN|apply Kept.drew)|exact HK.out)⟩
      ·rw[if_neg ae] at H
       exact absurd H (by simp)
     ·rw[if_neg bf] at H
      exact absurd H (by simp)
def api_Hall_89.l0:Nat→List (S36)→Int→Int→Int→Int→Int→Int→Option (Int×Bool)
 |0,_,_,_,_,_,_,_=>none
 |k+1,B,x8,x9,O,J,X,Y=>if x9<O then (if 0≤(wrap64 ((IntKind.u64.wrap (wrap64 (x9+O))) / 2)) then (if (wrap64 ((IntKind.u64.wrap (wrap64 (x9+O))) / 2))<(B.length:Int) then ((call_halls_1.f ((Qc B (wrap64 ((IntKind.u64.wrap (wrap64 (x9+O))) / 2))).f0) ((Qc B (wrap64 ((IntKind.u64.wrap (wrap64 (x9+O))) / 2))).f1) ((Qc B (wrap64 ((IntKind.u64.wrap (wrap64 (x9+O))) / 2))).f2) J X Y).bind fun a0=>(if a0<0 then (api_Hall_89.l0 k B x8 (wrap64 ((wrap64 ((IntKind.u64.wrap (wrap64 (x9+O))) / 2))+1)) O J X Y) else (api_Hall_89.l0 k B x8 x9 (wrap64 ((IntKind.u64.wrap (wrap64 (x9+O))) / 2)) J X Y))) else (none)) else (none)) else (if x9<x8 then (if 0≤x9 then (if x9<(B.length:Int) then ((call_halls_1.f ((Qc B x9).f0) ((Qc B x9).f1) ((Qc B x9).f2) J X Y).bind fun ν =>(some (x9,(ν == 0)))) else (none)) else (none)) else (some (x9,false)))
def api_Hall_89.f (k:Nat) (l0:List (S36)) (ι :Int) (ε :Int) (κ :Int) (a2:Int):Option (Int×Bool):=api_Hall_89.l0 k l0 (l0.length:Int) 0 (l0.length:Int) ι ε κ
def api_Hall_89.T5:Bool×List (List Nat×List Nat):=(true,[([],[]),([],[]),([],[]),([1,2],[1,2]),([3],[3]),([],[]),([0,4,5],[0,4,5]),([6],[6])])
def api_Hall_89.B5:List Nat:=[0,0,0,6,14,0,63,127]
theorem api_Hall_89.Eb:rtab .any (opsOf Try.f89 5)=api_Hall_89.T5:=by kernel_rfl
theorem api_Hall_89.Lk:Zq api_Hall_89.T5.2 api_Hall_89.B5=true:=by kernel_rfl
def api_Hall_89.T8:Bool×List (List Nat×List Nat):=(true,[([],[]),([],[]),([],[]),([1,2],[1,2]),([3],[3]),([4],[4]),([4],[4]),([4],[4]),([6,7,4],[4,6,7]),([8,4],[4,8]),([4],[4]),([5,9,10,4,4],[4,5,9,10]),([11,4],[4,11]),([4,12],[4,12]),([0,11,0],[0]),([13,14,0,1,2,3,4,5,6,7,8,9,10,11,12,13,14],[13])])
def api_Hall_89.B8:List Nat:=[0,0,0,6,14,30,30,30,222,478,30,2046,4094,8190,4095,32767]
theorem api_Hall_89.Ea:rtab .any (opsOf Try.f89 8)=api_Hall_89.T8:=by kernel_rfl
theorem api_Hall_89.Lj:Zq api_Hall_89.T8.2 api_Hall_89.B8=true:=by kernel_rfl
set_option maxHeartbeats 8000000 in
set_option maxRecDepth 100000 in
theorem api_Hall_89.calls (k:Nat) (A0:Option Addr) (c0:Nat) (l0:List (S36)) (ι :Int) (ε :Int) (κ :Int) (a2:Int) (r1:Int) (r2:Bool) (w:World) (ζ :Kd.C k36 w A0 l0.length l0) (Z:l0.length≤c0) (h:api_Hall_89.f k l0 ι ε κ a2=some (r1,r2)):
  Calls Try.prog 89 #[.slice A0 l0.length c0,.agg #[.int .i64 ι,.int .i64 ε,.int .i64 κ],.func (.func 79) #[] #[]] w fun e w'=>e = .returned (.tuple #[.int .i64 r1,.bool r2])∧Below w.heap.size w w':=by
 have dm:=Try.underlying36
 have η :=Aside0.mk ζ
 have ac:=Aside0.mk Z
 clear ζ Z
 have HB:=Aside0.mk (Below.refl w.heap.size w)
 have H:(api_Hall_89.l0 k l0 (l0.length:Int) 0 (l0.length:Int) ι ε κ)=some (r1,r2):=h
 clear h
 have H':=Aside0.mk H
 clear H
 go_enter Try.func89,Try.ntmps89
 go_wp2_with (first|((with_reducible refine Qf (N:=4) rfl ?_);refine qE 4 #[.int .i64 ι,.int .i64 ε,.int .i64 κ] 36 ?_;intro φ hg w4 hbox hb;have O:=Aside0.mk hbox;have ag:=sGe hg;have ah:=sGe hg;replace HB:=sHb hb;clear hb hbox hg))
 go_loopg [9,10] k (fun kq v9 av w'=>∃ (B:Int) (J:Int),v9 = .int .i64 B∧av = .int .i64 J∧Aside0 (api_Hall_89.l0 kq l0 (l0.length:Int) B J ι ε κ = some (r1,r2))∧Aside0 (kq≤k)∧Aside0 (w'.heap[φ]?=some (.cells #[.int .i64 ι,.int .i64 ε,.int .i64 κ] 36 (0,0)))∧Aside0 (Below w.heap.size w w'))
 case atStart=>exact⟨(0),((l0.length:Int)),rfl,rfl,H',⟨Nat.le_refl _⟩,O,HB⟩
 case round=>
  clear H'
  try clear p2
  obtain⟨B,J,rfl,rfl,HA,ao,O,HB⟩:=hrel
  cases gk with
  |zero=>exact absurd HA.out (by simp[api_Hall_89.l0])
  |succ k1=>
   have H:=HA.out
   clear HA
   simp only[api_Hall_89.l0] at H
   by_cases c5:B<J
   ·rw[if_pos c5] at H
    have c5b0:decide (B<J)=true:=decide_eq_true c5
    clear c5
    obtain⟨X,a9⟩:∃ j_:Int,(wrap64 ((IntKind.u64.wrap (wrap64 (B+J))) / 2))=j_:=⟨_,rfl⟩
    replace H:(if 0≤(X) then (if (X)<(l0.length:Int) then ((call_halls_1.f ((Qc l0 (X)).f0) ((Qc l0 (X)).f1) ((Qc l0 (X)).f2) ι ε κ).bind fun a0=>(if a0<0 then (api_Hall_89.l0 k1 l0 (l0.length:Int) (wrap64 ((X)+1)) J ι ε κ) else (api_Hall_89.l0 k1 l0 (l0.length:Int) B X ι ε κ))) else (none)) else (none))=some (r1,r2):=by first|(rw[a9] at H;exact H)|(simp only[a9] at H ⊢;exact H)
    have hji6w:(IntKind.i64.wrap ((IntKind.u64.wrap (wrap64 (B+J))) / 2))=X:=(Xe _).trans a9
    by_cases c7:0≤(X)
    ·rw[if_pos c7] at H
     have c7b0:decide (0≤(X))=true:=decide_eq_true c7
     clear c7
     by_cases c8:(X)<(l0.length:Int)
     ·rw[if_pos c8] at H
      have c8b0:decide ((X)<(l0.length:Int))=true:=decide_eq_true c8
      clear c8
      replace H:=Option.bind_eq_some_iff.mp H
      obtain⟨a0,bw,H⟩:=H
      replace H:(if a0<0 then (api_Hall_89.l0 k1 l0 (l0.length:Int) (wrap64 ((X)+1)) J ι ε κ) else (api_Hall_89.l0 k1 l0 (l0.length:Int) B X ι ε κ))=some (r1,r2):=H
      have A9:=Aside0.mk bw
      clear bw
      by_cases c10:a0<0
      ·rw[if_pos c10] at H
       have c10b0:decide (a0<0)=true:=decide_eq_true c10
       clear c10
       have H':=Aside0.mk H
       clear H
       try go_wp2
       replace O:=Aside0.mk (Qe O.out)
       replace HB:=Aside0.mk (Qg HB.out)
       have aa:0≤((X):Int):=of_decide_eq_true (by assumption)
       have ab:(X)<(l0.length:Int):=of_decide_eq_true (by assumption)
       obtain⟨ρ,af,Y,γ,δ⟩:=Z9 η.out (X) aa ab
       have θ := δ
       have μ :=γ
       have ξ :=Y
       cases af
       replace Y:=(HB.out.cell (World.block_lt_of_cell? w _ Y)).trans Y
       replace γ:=(HB.out.cell (World.block_lt_of_cell? w _ γ)).trans γ
       replace δ :=(HB.out.cell (World.block_lt_of_cell? w _ δ)).trans δ
       replace aa:=eq_true aa
       replace ab:=eq_true ab
       refine Zh (n:=8) (S:=fun w'=>w'.cell? ⟨φ,0,none⟩=some (.int .i64 ι)∧w'.cell? ⟨φ,1,none⟩=some (.int .i64 ε)∧w'.cell? ⟨φ,2,none⟩=some (.int .i64 κ)∧w'.cell? (ρ.add (((X)).toNat * 3))=some (.int .i64 ((Qc l0 (X)).f0))∧w'.cell? ⟨(ρ.add (((X)).toNat * 3)).block,(ρ.add (((X)).toNat * 3)).off+1,none⟩=some (.int .i64 ((Qc l0 (X)).f1))∧w'.cell? ⟨(ρ.add (((X)).toNat * 3)).block,(ρ.add (((X)).toNat * 3)).off+2,none⟩=some (.int .i64 ((Qc l0 (X)).f2))) (ds:=[]) #[false,false,false,false,false,false,false,false] kr rfl rfl ⟨(Qa O.out 0).trans rfl,(Qa O.out 1).trans rfl,(Qa O.out 2).trans rfl,((HB.out.cell (World.block_lt_of_cell? w _ ξ)).trans ξ),((HB.out.cell (World.block_lt_of_cell? w _ μ)).trans μ),((HB.out.cell (World.block_lt_of_cell? w _ θ)).trans θ)⟩ (fun hHeld=>?_);refine Q8 api_Hall_89.Eb api_Hall_89.Lk (fun HT_ HW_=>?_)
       generalize wr.drew=ec at O HB Y γ δ hHeld ⊢
       refine qP 0 (some 24) (bN 8 1) HT_ ?_
       refine qP 1 (some 25) (bN 8 3) HT_ ?_
       refine qP 2 (some 26) (bN 8 7) HT_ ?_
       refine qP 3 (some 27) (bN 8 15) HT_ ?_
       refine qT 4 (some 28) (bN 8 31) HT_ HW_ hHeld ?_
       refine qT 5 (some 29) (bN 8 63) HT_ HW_ hHeld ?_
       refine qK 6 (some 30) (bN 8 127) HT_ fun K hK=>?_
       refine X2 Try.func79 kr rfl #[] #[] #[.agg #[.int .i64 ((Qc l0 (X)).f0),.int .i64 ((Qc l0 (X)).f1),.int .i64 ((Qc l0 (X)).f2)],.agg #[.int .i64 ι,.int .i64 ε,.int .i64 κ]] #[.agg #[.int .i64 ((Qc l0 (X)).f0),.int .i64 ((Qc l0 (X)).f1),.int .i64 ((Qc l0 (X)).f2)],.agg #[.int .i64 ι,.int .i64 ε,.int .i64 κ]] rfl (by rfl) rfl rfl rfl (by(try simp only[List.map_toArray,List.map_cons,List.map_nil]);first|done|(simp only[a9];rfl)|rfl|(simp only[List.length_drop,List.length_take];rfl)) ?_
       with_reducible refine(call_halls_1.calls ((Qc l0 (X)).f0) ((Qc l0 (X)).f1) ((Qc l0 (X)).f2) ι ε κ a0 _ A9.out).mono ?_
       rintro e he ⟨rfl,hb⟩
       refine⟨_,rfl, ?_⟩
       replace O:=sBk O hb
       replace HB:=sHb hb
       (try clear hb)
       (try clear a6)
       (try clear hk)
       (try clear hi)
       refine hK.out _ _ ⟨qc O,qc O,qc O,((HB.out.cell (World.block_lt_of_cell? w _ ξ)).trans ξ),((HB.out.cell (World.block_lt_of_cell? w _ μ)).trans μ),((HB.out.cell (World.block_lt_of_cell? w _ θ)).trans θ)⟩ (fun hHeld=>?_)
       clear hK K
       refine qN (some 30) ?_
       refine qP 7 (some 31) (bN 8 255) HT_ ?_
       refine Z2 (Zf HT_.out kr) ?_
       try go_wp2
       go_roundg k1
       case measure=>have:=ao.out;omega
       case rel=>exact⟨(wrap64 ((X)+1)),(J),(by first|rfl|(simp;done)|(simp only[← a9] <;> (first|rfl|simp))|(simp[*];done)),rfl,H',⟨by have:=ao.out;omega⟩,O,HB⟩
      ·rw[if_neg c10] at H
       have c10b0:decide (a0<0)=false:=decide_eq_false c10
       clear c10
       have H':=Aside0.mk H
       clear H
       try go_wp2
       replace O:=Aside0.mk (Qe O.out)
       replace HB:=Aside0.mk (Qg HB.out)
       have aa:0≤((X):Int):=of_decide_eq_true (by assumption)
       have ab:(X)<(l0.length:Int):=of_decide_eq_true (by assumption)
       obtain⟨ρ,af,Y,γ,δ⟩:=Z9 η.out (X) aa ab
       have θ := δ
       have μ :=γ
       have ξ :=Y
       cases af
       replace Y:=(HB.out.cell (World.block_lt_of_cell? w _ Y)).trans Y
       replace γ:=(HB.out.cell (World.block_lt_of_cell? w _ γ)).trans γ
       replace δ :=(HB.out.cell (World.block_lt_of_cell? w _ δ)).trans δ
       replace aa:=eq_true aa
       replace ab:=eq_true ab
       refine Zh (n:=8) (S:=fun w'=>w'.cell? ⟨φ,0,none⟩=some (.int .i64 ι)∧w'.cell? ⟨φ,1,none⟩=some (.int .i64 ε)∧w'.cell? ⟨φ,2,none⟩=some (.int .i64 κ)∧w'.cell? (ρ.add (((X)).toNat * 3))=some (.int .i64 ((Qc l0 (X)).f0))∧w'.cell? ⟨(ρ.add (((X)).toNat * 3)).block,(ρ.add (((X)).toNat * 3)).off+1,none⟩=some (.int .i64 ((Qc l0 (X)).f1))∧w'.cell? ⟨(ρ.add (((X)).toNat * 3)).block,(ρ.add (((X)).toNat * 3)).off+2,none⟩=some (.int .i64 ((Qc l0 (X)).f2))) (ds:=[]) #[false,false,false,false,false,false,false,false] kr rfl rfl ⟨(Qa O.out 0).trans rfl,(Qa O.out 1).trans rfl,(Qa O.out 2).trans rfl,((HB.out.cell (World.block_lt_of_cell? w _ ξ)).trans ξ),((HB.out.cell (World.block_lt_of_cell? w _ μ)).trans μ),((HB.out.cell (World.block_lt_of_cell? w _ θ)).trans θ)⟩ (fun hHeld=>?_);refine Q8 api_Hall_89.Eb api_Hall_89.Lk (fun HT_ HW_=>?_)
       generalize wr.drew=ch at O HB Y γ δ hHeld ⊢
       refine qP 0 (some 24) (bN 8 1) HT_ ?_
       refine qP 1 (some 25) (bN 8 3) HT_ ?_
       refine qP 2 (some 26) (bN 8 7) HT_ ?_
       refine qP 3 (some 27) (bN 8 15) HT_ ?_
       refine qT 4 (some 28) (bN 8 31) HT_ HW_ hHeld ?_
       refine qT 5 (some 29) (bN 8 63) HT_ HW_ hHeld ?_
       refine qK 6 (some 30) (bN 8 127) HT_ fun K hK=>?_
       refine X2 Try.func79 kr rfl #[] #[] #[.agg #[.int .i64 ((Qc l0 (X)).f0),.int .i64 ((Qc l0 (X)).f1),.int .i64 ((Qc l0 (X)).f2)],.agg #[.int .i64 ι,.int .i64 ε,.int .i64 κ]] #[.agg #[.int .i64 ((Qc l0 (X)).f0),.int .i64 ((Qc l0 (X)).f1),.int .i64 ((Qc l0 (X)).f2)],.agg #[.int .i64 ι,.int .i64 ε,.int .i64 κ]] rfl (by rfl) rfl rfl rfl (by(try simp only[List.map_toArray,List.map_cons,List.map_nil]);first|done|(simp only[a9];rfl)|rfl|(simp only[List.length_drop,List.length_take];rfl)) ?_
       with_reducible refine(call_halls_1.calls ((Qc l0 (X)).f0) ((Qc l0 (X)).f1) ((Qc l0 (X)).f2) ι ε κ a0 _ A9.out).mono ?_
       rintro e ft ⟨rfl,hb⟩
       refine⟨_,rfl, ?_⟩
       replace O:=sBk O hb
       replace HB:=sHb hb
       (try clear hb)
       (try clear a6)
       (try clear hk)
       (try clear hi)
       refine hK.out _ _ ⟨qc O,qc O,qc O,((HB.out.cell (World.block_lt_of_cell? w _ ξ)).trans ξ),((HB.out.cell (World.block_lt_of_cell? w _ μ)).trans μ),((HB.out.cell (World.block_lt_of_cell? w _ θ)).trans θ)⟩ (fun hHeld=>?_)
       clear hK K
       refine qN (some 30) ?_
       refine qP 7 (some 31) (bN 8 255) HT_ ?_
       refine Z2 (Zf HT_.out kr) ?_
       try go_wp2
       go_roundg k1
       case measure=>have:=ao.out;omega
       case rel=>exact⟨(B),(X),rfl,(by first|rfl|(simp;done)|(simp only[← a9] <;> (first|rfl|simp))|(simp[*];done)),H',⟨by have:=ao.out;omega⟩,O,HB⟩
     ·rw[if_neg c8] at H
      exact absurd H (by simp)
    ·rw[if_neg c7] at H
     exact absurd H (by simp)
   ·rw[if_neg c5] at H
    have c5b0:decide (B<J)=false:=decide_eq_false c5
    clear c5
    by_cases b4:B<(l0.length:Int)
    ·rw[if_pos b4] at H
     have c15b0:decide (B<(l0.length:Int))=true:=decide_eq_true b4
     clear b4
     by_cases ψ :0≤B
     ·rw[if_pos ψ] at H
      have c16b0:decide (0≤B)=true:=decide_eq_true ψ
      clear ψ
      by_cases σ:B<(l0.length:Int)
      ·rw[if_pos σ] at H
       have c17b0:decide (B<(l0.length:Int))=true:=decide_eq_true σ
       clear σ
       replace H:=Option.bind_eq_some_iff.mp H
       obtain⟨ν,b7,H⟩:=H
       replace H:(some (B,(ν == 0)))=some (r1,r2):=H
       have cq:=Aside0.mk b7
       clear b7
       simp only[Option.some.injEq,Prod.mk.injEq] at H
       obtain⟨rfl,rfl⟩:=H
       try go_wp2
       replace O:=Aside0.mk (Qe O.out)
       replace HB:=Aside0.mk (Qg HB.out)
       have χ :0≤(B:Int):=of_decide_eq_true (by assumption)
       have ω :B<(l0.length:Int):=of_decide_eq_true (by assumption)
       obtain⟨a5,ae,τ,a1,a3⟩:=Z9 η.out B χ ω
       have a4:=a3
       have a7:=a1
       have a8:= τ
       cases ae
       replace τ :=(HB.out.cell (World.block_lt_of_cell? w _ τ)).trans τ
       replace a1:=(HB.out.cell (World.block_lt_of_cell? w _ a1)).trans a1
       replace a3:=(HB.out.cell (World.block_lt_of_cell? w _ a3)).trans a3
       replace χ :=eq_true χ
       replace ω :=eq_true ω
       refine Zh (n:=16) (S:=fun w'=>w'.cell? ⟨φ,0,none⟩=some (.int .i64 ι)∧w'.cell? ⟨φ,1,none⟩=some (.int .i64 ε)∧w'.cell? ⟨φ,2,none⟩=some (.int .i64 κ)∧w'.cell? (a5.add ((B).toNat * 3))=some (.int .i64 ((Qc l0 B).f0))∧w'.cell? ⟨(a5.add ((B).toNat * 3)).block,(a5.add ((B).toNat * 3)).off+1,none⟩=some (.int .i64 ((Qc l0 B).f1))∧w'.cell? ⟨(a5.add ((B).toNat * 3)).block,(a5.add ((B).toNat * 3)).off+2,none⟩=some (.int .i64 ((Qc l0 B).f2))) (ds:=[]) #[false,false,false,false,false,false,false,false,false,false,false,false,false,false,false,false] kr rfl rfl ⟨(Qa O.out 0).trans rfl,(Qa O.out 1).trans rfl,(Qa O.out 2).trans rfl,((HB.out.cell (World.block_lt_of_cell? w _ a8)).trans a8),((HB.out.cell (World.block_lt_of_cell? w _ a7)).trans a7),((HB.out.cell (World.block_lt_of_cell? w _ a4)).trans a4)⟩ (fun hHeld=>?_);refine Q8 api_Hall_89.Ea api_Hall_89.Lj (fun HT_ HW_=>?_)
       generalize wr.drew=bc at O HB τ a1 a3 hHeld ⊢
       refine qP 0 (some 35) (bN 16 1) HT_ ?_
       refine qP 1 (some 36) (bN 16 3) HT_ ?_
       refine qP 2 (some 37) (bN 16 7) HT_ ?_
       refine qP 3 (some 38) (bN 16 15) HT_ ?_
       refine qP 4 (some 39) (bN 16 31) HT_ ?_
       refine qP 5 (some 40) (bN 16 63) HT_ ?_
       refine qP 6 (some 41) (bN 16 127) HT_ ?_
       refine qP 7 (some 42) (bN 16 255) HT_ ?_
       refine qP 8 (some 43) (bN 16 511) HT_ ?_
       refine qT 9 (some 44) (bN 16 1023) HT_ HW_ hHeld ?_
       refine qT 10 (some 45) (bN 16 2047) HT_ HW_ hHeld ?_
       refine qK 11 (some 46) (bN 16 4095) HT_ fun K hK=>?_
       refine X2 Try.func79 kr rfl #[] #[] #[.agg #[.int .i64 ((Qc l0 B).f0),.int .i64 ((Qc l0 B).f1),.int .i64 ((Qc l0 B).f2)],.agg #[.int .i64 ι,.int .i64 ε,.int .i64 κ]] #[.agg #[.int .i64 ((Qc l0 B).f0),.int .i64 ((Qc l0 B).f1),.int .i64 ((Qc l0 B).f2)],.agg #[.int .i64 ι,.int .i64 ε,.int .i64 κ]] rfl (by rfl) rfl rfl rfl qM ?_
       with_reducible refine(call_halls_1.calls ((Qc l0 B).f0) ((Qc l0 B).f1) ((Qc l0 B).f2) ι ε κ ν _ cq.out).mono ?_
       rintro e dl ⟨rfl,hb⟩
       refine⟨_,rfl, ?_⟩
       replace O:=sBk O hb
       replace HB:=sHb hb
       (try clear hb)
       (try clear a6)
       (try clear hk)
       (try clear hi)
       refine hK.out _ _ ⟨qc O,qc O,qc O,((HB.out.cell (World.block_lt_of_cell? w _ a8)).trans a8),((HB.out.cell (World.block_lt_of_cell? w _ a7)).trans a7),((HB.out.cell (World.block_lt_of_cell? w _ a4)).trans a4)⟩ (fun hHeld=>?_)
       clear hK K
       refine qN (some 46) ?_
       refine qP 12 (some 47) (bN 16 8191) HT_ ?_
       refine qP 13 (some 48) (bN 16 16383) HT_ ?_
       refine qP 14 (some 6) (bN 16 32767) HT_ ?_
       refine qP 15 (some 7) (bN 16 65535) HT_ ?_
       refine Z2 (Zf HT_.out kr) ?_
       try go_wp2
       go_ret2
       exact⟨rfl,HB.out⟩
      ·rw[if_neg σ] at H
       exact absurd H (by simp)
     ·rw[if_neg ψ] at H
      exact absurd H (by simp)
    ·rw[if_neg b4] at H
     have c15b0:decide (B<(l0.length:Int))=false:=decide_eq_false b4
     clear b4
     simp only[Option.some.injEq,Prod.mk.injEq] at H
     obtain⟨rfl,rfl⟩:=H
     try go_wp2
     replace O:=Aside0.mk (Qe O.out)
     replace HB:=Aside0.mk (Qg HB.out)
     refine Zh (n:=16) (S:=fun w'=>True) (ds:=[]) #[false,false,false,false,false,false,false,false,false,false,false,false,false,false,false,false] kr rfl rfl trivial (fun hHeld=>?_);refine Q8 api_Hall_89.Ea api_Hall_89.Lj (fun HT_ HW_=>?_)
     generalize wr.drew=bs at O HB hHeld ⊢
     refine qP 0 (some 35) (bN 16 1) HT_ ?_
     refine qP 1 (some 36) (bN 16 3) HT_ ?_
     refine qP 2 (some 37) (bN 16 7) HT_ ?_
     refine qP 3 (some 38) (bN 16 15) HT_ ?_
     refine qP 4 (some 39) (bN 16 31) HT_ ?_
     refine qU 5 (some 40) (bN 16 63) HT_ ?_
     refine qU 6 (some 41) (bN 16 127) HT_ ?_
     refine qU 7 (some 42) (bN 16 255) HT_ ?_
     refine qU 8 (some 43) (bN 16 511) HT_ ?_
     refine qU 9 (some 44) (bN 16 1023) HT_ ?_
     refine qU 10 (some 45) (bN 16 2047) HT_ ?_
     refine qU 11 (some 46) (bN 16 4095) HT_ ?_
     refine qU 12 (some 47) (bN 16 8191) HT_ ?_
     refine qP 13 (some 48) (bN 16 16383) HT_ ?_
     refine qP 14 (some 6) (bN 16 32767) HT_ ?_
     refine qP 15 (some 7) (bN 16 65535) HT_ ?_
     refine Z2 (Zf HT_.out kr) ?_
     try go_wp2
     go_ret2
     exact⟨rfl,HB.out⟩
mutual
def api_Hall_right.l0:Nat→Int→List (S36)→Int→Int→List (S36)→Int→Option (Bool)
 |0,_,_,_,_,_,_=>none
 |k+1,J,x8,x9,O,B,X=>if O<x9 then (if 0≤O then (if O<(x8.length:Int) then ((call_hall_1.f ((Qc x8 O).f0) ((Qc x8 O).f1) ((Qc x8 O).f2) J).bind fun ρ=>(if ρ=true then (if O>0 then (if 0≤(wrap64 (O-1)) then (if (wrap64 (O-1))<(B.length:Int) then ((call_halls_1.f ((Qc B (wrap64 (O-1))).f0) ((Qc B (wrap64 (O-1))).f1) ((Qc B (wrap64 (O-1))).f2) ((Qc x8 O).f0) ((Qc x8 O).f1) ((Qc x8 O).f2)).bind fun a4=>(api_Hall_right.j1 k J x8 x9 O (decide (a4≥0)) B X)) else (none)) else (none)) else (api_Hall_right.j1 k J x8 x9 O false B X)) else (api_Hall_right.j1 k J x8 x9 O true B X))) else (none)) else (none)) else (some true)
def api_Hall_right.j1:Nat→Int→List (S36)→Int→Int→Bool→List (S36)→Int→Option (Bool)
 |0,_,_,_,_,_,_,_=>none
 |k+1,J,x8,x9,O,ν,B,X=>if ν = true then (some false) else (api_Hall_right.l0 k J x8 x9 (wrap64 (O+1)) B X)
end
def api_Hall_right.f (k:Nat) (B:List (S36)) (O:Int) (Y:Int):Option (Bool):=api_Hall_right.l0 k Y B (B.length:Int) 0 B O
def api_Hall_right.T4:Bool×List (List Nat×List Nat):=(true,[([],[]),([],[]),([0,1],[0,1]),([2],[2]),([3,2],[3]),([4],[4]),([5,4],[4,5]),([6,4,4],[4,6]),([7],[7]),([8,7],[7,8]),([7],[7]),([10,7],[7,10]),([7],[7]),([12,7],[7,12]),([11,13,7],[7,11,13]),([14,7],[7,14]),([7],[7]),([9,15,16,7,7],[7,9,15,16]),([17,7],[7,17]),([7,18,4],[4,7,18]),([4,19],[4,19])])
def api_Hall_right.B4:List Nat:=[0,0,3,7,15,31,63,127,255,511,255,1279,255,4351,15615,31999,255,131071,262143,524287,1048575]
theorem api_Hall_right.Vz:rtab .any (opsOf Try.f64 4)=api_Hall_right.T4:=by kernel_rfl
theorem api_Hall_right.K1:Zq api_Hall_right.T4.2 api_Hall_right.B4=true:=by kernel_rfl
set_option maxHeartbeats 8000000 in
set_option maxRecDepth 100000 in
theorem api_Hall_right.calls (k:Nat) (τ :Option Addr) (ν :Nat) (B:List (S36)) (O:Int) (Y:Int) (r:Bool) (w:World) (χ :Kd.C k36 w τ B.length B) (a0:B.length ≤ ν) (h:api_Hall_right.f k B O Y=some r) (gh_:Nat) (hgh_:w.heap[gh_]?=some (.cells #[.int .i64 (Yi Y),.int .i64 (Yh Y)] 59 (0,0))):
  Calls Try.prog 64 #[.agg #[.slice τ B.length ν,.func (.func 79) #[] #[]],.func (.func 82) #[] #[.pointer (some ⟨gh_,0,none⟩)]] w fun e w'=>e = .returned (.bool r)∧Below w.heap.size w w':=by
 have HCH:=Aside0.mk hgh_
 clear hgh_
 have cn:=Try.underlying109
 have dm:=Try.underlying36
 have ae:=Aside0.mk χ
 have ay:=Aside0.mk a0
 clear χ a0
 have HB:=Aside0.mk (Below.refl w.heap.size w)
 have H:(api_Hall_right.l0 k Y B (B.length:Int) 0 B O)=some r:=h
 clear h
 have H':=Aside0.mk H
 clear H
 go_enter Try.func64,Try.ntmps64
 go_wp2_with (first|((with_reducible refine Qf (N:=2) rfl ?_);refine qE 2 #[.slice τ B.length ν,.func (.func 79) #[] #[]] 109 ?_;intro φ hg w3 hbox hb;have δ :=Aside0.mk hbox;have bd:=sGe hg;have ax:=sGe hg;replace HB:=sHb hb;clear hb hbox hg;obtain⟨af,ak,al,am⟩:=qD2 δ.out))
 go_loopg [10] k (fun kq av w'=>∃ (J:Int),av = .int .i64 J∧Aside0 (api_Hall_right.l0 kq Y B (B.length:Int) J B O=some r)∧Aside0 (kq≤k)∧Aside0 (w'.heap[φ]?=some (.cells #[(.slice τ B.length ν),.func (.func 79) #[] #[]] 109 (0,0)))∧Aside0 (Below w.heap.size w w'))
 case atStart=>exact⟨(0),rfl,H',⟨Nat.le_refl _⟩,δ,HB⟩
 case round=>
  clear H'
  try clear p2
  try clear af
  try clear ak
  try clear al
  try clear am
  obtain⟨J,rfl,HA,ao,δ,HB⟩:=hrel
  cases gk with
  |zero=>exact absurd HA.out (by simp[api_Hall_right.l0])
  |succ k1=>
   have H:=HA.out
   clear HA
   simp only[api_Hall_right.l0] at H
   by_cases c5:J<(B.length:Int)
   ·rw[if_pos c5] at H
    have c5b0:decide (J<(B.length:Int))=true:=decide_eq_true c5
    clear c5
    by_cases c6:0≤J
    ·rw[if_pos c6] at H
     have c6b0:decide (0≤J)=true:=decide_eq_true c6
     clear c6
     by_cases c7:J<(B.length:Int)
     ·rw[if_pos c7] at H
      have c7b0:decide (J<(B.length:Int))=true:=decide_eq_true c7
      clear c7
      have ap:=Aside0.mk H
      clear H
      have ac:0≤(J:Int):=of_decide_eq_true (by assumption)
      have aj:J<(B.length:Int):=of_decide_eq_true (by assumption)
      obtain⟨η,b2,κ,a8,an⟩:=Z9 ae.out J ac aj
      cases b2
      replace κ :=(HB.out.cell (World.block_lt_of_cell? w _ κ)).trans κ
      replace a8:=(HB.out.cell (World.block_lt_of_cell? w _ a8)).trans a8
      replace an:=(HB.out.cell (World.block_lt_of_cell? w _ an)).trans an
      replace ac:=eq_true ac
      replace aj:=eq_true aj
      go_upto_region 4 with(first|((with_reducible refine Qf (N:=6) rfl ?_);refine qE 6 #[.int .i64 0,.int .i64 0,.int .i64 0] 36 ?_;intro ε hg w9 hbox hb;have γ:=Aside0.mk hbox;have aa:=sGe hg;have b0:=sGe hg;have az:=sNl δ hg;have b4:=sNg δ hg;replace δ :=sBk δ hb;replace HB:=sHb hb;clear hb hbox hg;have bv:=b4.out;have cp:=az.out;obtain⟨ω,ah,bj,b3,bf,bk⟩:=qD3 γ.out))
      (try simp only[Act.put,qS])
      go_cut [35] (fun b8 wc=>∃ (kq:Nat) (ι :Bool),b8 = .bool ι ∧ Aside0 (api_Hall_right.j1 kq Y B (B.length:Int) J ι B O=some r)∧Aside0 (kq≤k1)∧Aside0 (wc.heap[φ]?=some (.cells #[(.slice (some η) B.length ν),.func (.func 79) #[] #[]] 109 (0,0)))∧Aside0 (wc.heap[ε]?=some (.cells #[.int .i64 ((Qc B J).f0),.int .i64 ((Qc B J).f1),.int .i64 ((Qc B J).f2)] 36 (0,0)))∧Aside0 (Below w.heap.size w wc))
      case first=>
       have H:=ap.out
       clear ap
       replace H:=Option.bind_eq_some_iff.mp H
       obtain⟨ρ,ai,H⟩:=H
       replace H:(if ρ=true then (if J>0 then (if 0≤(wrap64 (J-1)) then (if (wrap64 (J-1))<(B.length:Int) then ((call_halls_1.f ((Qc B (wrap64 (J-1))).f0) ((Qc B (wrap64 (J-1))).f1) ((Qc B (wrap64 (J-1))).f2) ((Qc B J).f0) ((Qc B J).f1) ((Qc B J).f2)).bind fun a4=>(api_Hall_right.j1 k1 Y B (B.length:Int) J (decide (a4≥0)) B O)) else (none)) else (none)) else (api_Hall_right.j1 k1 Y B (B.length:Int) J false B O)) else (api_Hall_right.j1 k1 Y B (B.length:Int) J true B O))=some r:=H
       have aw:=Aside0.mk ai
       clear ai
       by_cases be:ρ=true
       ·subst be
        have H1:(if J>0 then (if 0≤(wrap64 (J-1)) then (if (wrap64 (J-1))<(B.length:Int) then ((call_halls_1.f ((Qc B (wrap64 (J-1))).f0) ((Qc B (wrap64 (J-1))).f1) ((Qc B (wrap64 (J-1))).f2) ((Qc B J).f0) ((Qc B J).f1) ((Qc B J).f2)).bind fun a4=>(api_Hall_right.j1 k1 Y B (B.length:Int) J (decide (a4≥0)) B O)) else (none)) else (none)) else (api_Hall_right.j1 k1 Y B (B.length:Int) J false B O))=some r:=by rw[if_pos rfl] at H;exact H
        clear H
        have H:=H1
        clear H1
        by_cases ag:J>0
        ·rw[if_pos ag] at H
         have c14b0:decide (0<J)=true:=decide_eq_true ag
         clear ag
         (first|rw[c14b0]|(simp only[Xe,Xh];rw[c14b0])|skip)
         obtain⟨ζ,θ⟩:∃ j_:Int,(wrap64 (J-1))=j_:=⟨_,rfl⟩
         replace H:(if 0≤(ζ) then (if (ζ)<(B.length:Int) then ((call_halls_1.f ((Qc B (ζ)).f0) ((Qc B (ζ)).f1) ((Qc B (ζ)).f2) ((Qc B J).f0) ((Qc B J).f1) ((Qc B J).f2)).bind fun a4=>(api_Hall_right.j1 k1 Y B (B.length:Int) J (decide (a4≥0)) B O)) else (none)) else (none))=some r:=by first|(rw[θ] at H;exact H)|(simp only[θ] at H ⊢;exact H)
         (try rw[θ] at aw)
         have hji15w:(IntKind.i64.wrap (J-1)) = ζ :=(Xe _).trans θ
         by_cases ψ :0≤(ζ)
         ·rw[if_pos ψ] at H
          have c16b0:decide (0≤(ζ))=true:=decide_eq_true ψ
          clear ψ
          by_cases σ:(ζ)<(B.length:Int)
          ·rw[if_pos σ] at H
           have c17b0:decide ((ζ)<(B.length:Int))=true:=decide_eq_true σ
           clear σ
           replace H:=Option.bind_eq_some_iff.mp H
           obtain⟨a4,b7,H⟩:=H
           replace H:(api_Hall_right.j1 k1 Y B (B.length:Int) J (decide (a4≥0)) B O)=some r:=H
           have cq:=Aside0.mk b7
           clear b7
           have H':=Aside0.mk H
           clear H
           try go_wp2
           have μ :Aside0 ((((w9.setCell ⟨ε,0,none⟩ (.int .i64 ((Qc B J).f0))).setCell ⟨ε,1,none⟩ (.int .i64 ((Qc B J).f1))).setCell ⟨ε,2,none⟩ (.int .i64 ((Qc B J).f2))).heap[φ]?=some (.cells #[.slice (some η) B.length ν,.func (.func 79) #[] #[]] 109 (0,0))):=⟨bka δ⟩
           have ξ :Aside0 ((((w9.setCell ⟨ε,0,none⟩ (.int .i64 ((Qc B J).f0))).setCell ⟨ε,1,none⟩ (.int .i64 ((Qc B J).f1))).setCell ⟨ε,2,none⟩ (.int .i64 ((Qc B J).f2))).heap[ε]?=some (.cells #[.int .i64 ((Qc B J).f0),.int .i64 ((Qc B J).f1),.int .i64 ((Qc B J).f2)] 36 (0,0))):=⟨by refine Qq (cs:=#[.int .i64 ((Qc B J).f0),.int .i64 ((Qc B J).f1),.int .i64 0]) ?_ 2 _ rfl;refine Qq (cs:=#[.int .i64 ((Qc B J).f0),.int .i64 0,.int .i64 0]) ?_ 1 _ rfl;refine Qq (cs:=#[.int .i64 0,.int .i64 0,.int .i64 0]) ?_ 0 _ rfl;exact γ.out⟩
           have a3:Aside0 (Below w.heap.size w (((w9.setCell ⟨ε,0,none⟩ (.int .i64 ((Qc B J).f0))).setCell ⟨ε,1,none⟩ (.int .i64 ((Qc B J).f1))).setCell ⟨ε,2,none⟩ (.int .i64 ((Qc B J).f2)))):=⟨bel⟩
           (try clear δ)
           (try clear γ)
           (try clear HB)
           generalize(((w9.setCell ⟨ε,0,none⟩ (.int .i64 ((Qc B J).f0))).setCell ⟨ε,1,none⟩ (.int .i64 ((Qc B J).f1))).setCell ⟨ε,2,none⟩ (.int .i64 ((Qc B J).f2)))=bc at μ ξ a3 ⊢
           have δ := μ
           have γ:= ξ
           have HB:=a3
           clear μ ξ a3
           replace δ :=Aside0.mk (Qe δ.out)
           replace γ:=Aside0.mk (Qe γ.out)
           replace HB:=Aside0.mk (Qg HB.out)
           have ar:0≤((ζ):Int):=of_decide_eq_true (by assumption)
           have au:(ζ)<(B.length:Int):=of_decide_eq_true (by assumption)
           obtain⟨b9,ba,X,Z,a5⟩:=Z9 ae.out (ζ) ar au
           have a7:=a5
           have a9:=Z
           have ab:=X
           obtain rfl: η = b9:=(by injection ba)
           replace X:=(HB.out.cell (World.block_lt_of_cell? w _ X)).trans X
           replace Z:=(HB.out.cell (World.block_lt_of_cell? w _ Z)).trans Z
           replace a5:=(HB.out.cell (World.block_lt_of_cell? w _ a5)).trans a5
           replace ar:=eq_true ar
           replace au:=eq_true au
           refine Zh (n:=21) (S:=fun w'=>w'.cell? ⟨ε,0,none⟩=some (.int .i64 ((Qc B J).f0))∧w'.cell? ⟨ε,1,none⟩=some (.int .i64 ((Qc B J).f1))∧w'.cell? ⟨ε,2,none⟩=some (.int .i64 ((Qc B J).f2))∧w'.cell? ⟨φ,0,none⟩=some (.slice (some η) B.length ν)∧w'.cell? ⟨φ,1,none⟩=some (.func (.func 79) #[] #[])∧w'.cell? (η.add (((ζ)).toNat * 3))=some (.int .i64 ((Qc B (ζ)).f0))∧w'.cell? ⟨(η.add (((ζ)).toNat * 3)).block,(η.add (((ζ)).toNat * 3)).off+1,none⟩=some (.int .i64 ((Qc B (ζ)).f1))∧w'.cell? ⟨(η.add (((ζ)).toNat * 3)).block,(η.add (((ζ)).toNat * 3)).off+2,none⟩=some (.int .i64 ((Qc B (ζ)).f2))) (ds:=[]) #[false,false,false,false,false,false,false,false,false,false,false,false,false,false,false,false,false,false,false,false,false] kr rfl rfl ⟨(Qa γ.out 0).trans rfl,(Qa γ.out 1).trans rfl,(Qa γ.out 2).trans rfl,(Qa δ.out 0).trans rfl,(Qa δ.out 1).trans rfl,((HB.out.cell (World.block_lt_of_cell? w _ ab)).trans ab),((HB.out.cell (World.block_lt_of_cell? w _ a9)).trans a9),((HB.out.cell (World.block_lt_of_cell? w _ a7)).trans a7)⟩ (fun hHeld=>?_);refine Q8 api_Hall_right.Vz api_Hall_right.K1 (fun HT_ HW_=>?_)
           generalize bc.drew=dl at δ γ HB X Z a5 hHeld ⊢
           refine qP 0 (some 15) (bN 21 1) HT_ ?_
           refine qT 1 (some 16) (bN 21 3) HT_ HW_ hHeld ?_
           refine qK 2 (some 17) (bN 21 7) HT_ fun K hK=>?_
           refine X2 Try.func82 kr rfl #[] #[.pointer (some ⟨gh_,0,none⟩)] #[.agg #[.int .i64 ((Qc B J).f0),.int .i64 ((Qc B J).f1),.int .i64 ((Qc B J).f2)]] #[.agg #[.int .i64 ((Qc B J).f0),.int .i64 ((Qc B J).f1),.int .i64 ((Qc B J).f2)],.pointer (some ⟨gh_,0,none⟩)] rfl (by rfl) rfl rfl rfl qM ?_
           with_reducible refine(call_hall_1.calls ((Qc B J).f0) ((Qc B J).f1) ((Qc B J).f2) Y true _ aw.out gh_ (Z7 HCH.out (by repeat(first|(with_reducible first|exact HB.out|apply Qu|apply Qi|apply Qg)|exact HB.out|(refine Qx ?_ (Aside0.out (by assumption))))))).mono ?_
           rintro e bs ⟨rfl,hb⟩
           refine⟨_,rfl, ?_⟩
           replace δ :=sBk δ hb
           replace γ:=sBk γ hb
           replace HB:=sHb hb
           (try clear hb)
           (try clear a6)
           (try clear hk)
           (try clear hi)
           refine hK.out _ _ ⟨qc γ,qc γ,qc γ,qc δ,qc δ,((HB.out.cell (World.block_lt_of_cell? w _ ab)).trans ab),((HB.out.cell (World.block_lt_of_cell? w _ a9)).trans a9),((HB.out.cell (World.block_lt_of_cell? w _ a7)).trans a7)⟩ (fun hHeld=>?_)
           clear hK K
           refine qN (some 17) ?_
           refine qP 3 (some 18) (bN 21 15) HT_ ?_
           refine qP 4 (some 19) (bN 21 31) HT_ ?_
           refine qP 5 (some 20) (bN 21 63) HT_ ?_
           refine qP 6 (some 21) (bN 21 127) HT_ ?_
           refine qP 7 (some 22) (bN 21 255) HT_ ?_
           refine qP 8 (some 23) (bN 21 511) HT_ ?_
           refine qP 10 (some 25) (bN 21 1535) HT_ ?_
           refine qP 12 (some 27) (bN 21 5631) HT_ ?_
           refine qP 13 (some 28) (bN 21 13823) HT_ ?_
           refine qT 9 (some 24) (bN 21 14335) HT_ HW_ hHeld ?_
           refine qT 11 (some 26) (bN 21 16383) HT_ HW_ hHeld ?_
           refine qP 14 (some 29) (bN 21 32767) HT_ ?_
           refine qT 15 (some 30) (bN 21 65535) HT_ HW_ hHeld ?_
           refine qT 16 (some 31) (bN 21 131071) HT_ HW_ hHeld ?_
           refine qK 17 (some 32) (bN 21 262143) HT_ fun K hK=>?_
           refine X2 Try.func79 kr rfl #[] #[] #[.agg #[.int .i64 ((Qc B (ζ)).f0),.int .i64 ((Qc B (ζ)).f1),.int .i64 ((Qc B (ζ)).f2)],.agg #[.int .i64 ((Qc B J).f0),.int .i64 ((Qc B J).f1),.int .i64 ((Qc B J).f2)]] #[.agg #[.int .i64 ((Qc B (ζ)).f0),.int .i64 ((Qc B (ζ)).f1),.int .i64 ((Qc B (ζ)).f2)],.agg #[.int .i64 ((Qc B J).f0),.int .i64 ((Qc B J).f1),.int .i64 ((Qc B J).f2)]] rfl (by rfl) rfl rfl rfl (by(try simp only[List.map_toArray,List.map_cons,List.map_nil]);first|done|(simp only[θ];rfl)|rfl|(simp only[List.length_drop,List.length_take];rfl)) ?_
           with_reducible refine(call_halls_1.calls ((Qc B (ζ)).f0) ((Qc B (ζ)).f1) ((Qc B (ζ)).f2) ((Qc B J).f0) ((Qc B J).f1) ((Qc B J).f2) a4 _ cq.out).mono ?_
           rintro e br ⟨rfl,hb⟩
           refine⟨_,rfl, ?_⟩
           replace δ :=sBk δ hb
           replace γ:=sBk γ hb
           replace HB:=sHb hb
           (try clear hb)
           (try clear a6)
           (try clear hk)
           (try clear hi)
           refine hK.out _ _ ⟨qc γ,qc γ,qc γ,qc δ,qc δ,((HB.out.cell (World.block_lt_of_cell? w _ ab)).trans ab),((HB.out.cell (World.block_lt_of_cell? w _ a9)).trans a9),((HB.out.cell (World.block_lt_of_cell? w _ a7)).trans a7)⟩ (fun hHeld=>?_)
           clear hK K
           refine qN (some 32) ?_
           refine qP 18 (some 33) (bN 21 524287) HT_ ?_
           refine qP 19 (some 34) (bN 21 1048575) HT_ ?_
           refine qP 20 (some 35) (bN 21 2097151) HT_ ?_
           refine Z2 (Zf HT_.out kr) ?_
           try go_wp2
           go_meet
           case rel=>exact⟨_,(decide (a4≥0)),rfl,H',⟨by have:=ao.out;omega⟩,δ,γ,HB⟩
          ·rw[if_neg σ] at H
           exact absurd H (by simp)
         ·rw[if_neg ψ] at H
          exact absurd H (by simp)
        ·rw[if_neg ag] at H
         have c14b0:decide (0<J)=false:=decide_eq_false ag
         clear ag
         (first|rw[c14b0]|(simp only[Xe,Xh];rw[c14b0])|skip)
         have H':=Aside0.mk H
         clear H
         try go_wp2
         have μ :Aside0 ((((w9.setCell ⟨ε,0,none⟩ (.int .i64 ((Qc B J).f0))).setCell ⟨ε,1,none⟩ (.int .i64 ((Qc B J).f1))).setCell ⟨ε,2,none⟩ (.int .i64 ((Qc B J).f2))).heap[φ]?=some (.cells #[.slice (some η) B.length ν,.func (.func 79) #[] #[]] 109 (0,0))):=⟨bka δ⟩
         have ξ :Aside0 ((((w9.setCell ⟨ε,0,none⟩ (.int .i64 ((Qc B J).f0))).setCell ⟨ε,1,none⟩ (.int .i64 ((Qc B J).f1))).setCell ⟨ε,2,none⟩ (.int .i64 ((Qc B J).f2))).heap[ε]?=some (.cells #[.int .i64 ((Qc B J).f0),.int .i64 ((Qc B J).f1),.int .i64 ((Qc B J).f2)] 36 (0,0))):=⟨by refine Qq (cs:=#[.int .i64 ((Qc B J).f0),.int .i64 ((Qc B J).f1),.int .i64 0]) ?_ 2 _ rfl;refine Qq (cs:=#[.int .i64 ((Qc B J).f0),.int .i64 0,.int .i64 0]) ?_ 1 _ rfl;refine Qq (cs:=#[.int .i64 0,.int .i64 0,.int .i64 0]) ?_ 0 _ rfl;exact γ.out⟩
         have a3:Aside0 (Below w.heap.size w (((w9.setCell ⟨ε,0,none⟩ (.int .i64 ((Qc B J).f0))).setCell ⟨ε,1,none⟩ (.int .i64 ((Qc B J).f1))).setCell ⟨ε,2,none⟩ (.int .i64 ((Qc B J).f2)))):=⟨bel⟩
         (try clear δ)
         (try clear γ)
         (try clear HB)
         generalize(((w9.setCell ⟨ε,0,none⟩ (.int .i64 ((Qc B J).f0))).setCell ⟨ε,1,none⟩ (.int .i64 ((Qc B J).f1))).setCell ⟨ε,2,none⟩ (.int .i64 ((Qc B J).f2)))=bm at μ ξ a3 ⊢
         have δ := μ
         have γ:= ξ
         have HB:=a3
         clear μ ξ a3
         replace δ :=Aside0.mk (Qe δ.out)
         replace γ:=Aside0.mk (Qe γ.out)
         replace HB:=Aside0.mk (Qg HB.out)
         refine Zh (n:=21) (S:=fun w'=>w'.cell? ⟨ε,0,none⟩=some (.int .i64 ((Qc B J).f0))∧w'.cell? ⟨ε,1,none⟩=some (.int .i64 ((Qc B J).f1))∧w'.cell? ⟨ε,2,none⟩=some (.int .i64 ((Qc B J).f2))) (ds:=[]) #[false,false,false,false,false,false,false,false,false,false,false,false,false,false,false,false,false,false,false,false,false] kr rfl rfl ⟨(Qa γ.out 0).trans rfl,(Qa γ.out 1).trans rfl,(Qa γ.out 2).trans rfl⟩ (fun hHeld=>?_);refine Q8 api_Hall_right.Vz api_Hall_right.K1 (fun HT_ HW_=>?_)
         generalize bm.drew=cg at δ γ HB hHeld ⊢
         refine qP 0 (some 15) (bN 21 1) HT_ ?_
         refine qT 1 (some 16) (bN 21 3) HT_ HW_ hHeld ?_
         refine qK 2 (some 17) (bN 21 7) HT_ fun K hK=>?_
         refine X2 Try.func82 kr rfl #[] #[.pointer (some ⟨gh_,0,none⟩)] #[.agg #[.int .i64 ((Qc B J).f0),.int .i64 ((Qc B J).f1),.int .i64 ((Qc B J).f2)]] #[.agg #[.int .i64 ((Qc B J).f0),.int .i64 ((Qc B J).f1),.int .i64 ((Qc B J).f2)],.pointer (some ⟨gh_,0,none⟩)] rfl (by rfl) rfl rfl rfl qM ?_
         with_reducible refine(call_hall_1.calls ((Qc B J).f0) ((Qc B J).f1) ((Qc B J).f2) Y true _ aw.out gh_ (Z7 HCH.out (by repeat(first|(with_reducible first|exact HB.out|apply Qu|apply Qi|apply Qg)|exact HB.out|(refine Qx ?_ (Aside0.out (by assumption))))))).mono ?_
         rintro e ea ⟨rfl,hb⟩
         refine⟨_,rfl, ?_⟩
         replace δ :=sBk δ hb
         replace γ:=sBk γ hb
         replace HB:=sHb hb
         (try clear hb)
         (try clear a6)
         (try clear hk)
         (try clear hi)
         refine hK.out _ _ ⟨qc γ,qc γ,qc γ⟩ (fun hHeld=>?_)
         clear hK K
         refine qN (some 17) ?_
         refine qP 3 (some 18) (bN 21 15) HT_ ?_
         refine qP 4 (some 19) (bN 21 31) HT_ ?_
         refine qP 5 (some 20) (bN 21 63) HT_ ?_
         refine qP 6 (some 21) (bN 21 127) HT_ ?_
         refine qP 7 (some 22) (bN 21 255) HT_ ?_
         refine qU 8 (some 23) (bN 21 511) HT_ ?_
         refine qU 9 (some 24) (bN 21 1023) HT_ ?_
         refine qU 10 (some 25) (bN 21 2047) HT_ ?_
         refine qU 11 (some 26) (bN 21 4095) HT_ ?_
         refine qU 12 (some 27) (bN 21 8191) HT_ ?_
         refine qU 13 (some 28) (bN 21 16383) HT_ ?_
         refine qU 14 (some 29) (bN 21 32767) HT_ ?_
         refine qU 15 (some 30) (bN 21 65535) HT_ ?_
         refine qU 16 (some 31) (bN 21 131071) HT_ ?_
         refine qU 17 (some 32) (bN 21 262143) HT_ ?_
         refine qU 18 (some 33) (bN 21 524287) HT_ ?_
         refine qP 19 (some 34) (bN 21 1048575) HT_ ?_
         refine qP 20 (some 35) (bN 21 2097151) HT_ ?_
         refine Z2 (Zf HT_.out kr) ?_
         try go_wp2
         go_meet
         case rel=>exact⟨_,(false),rfl,H',⟨by have:=ao.out;omega⟩,δ,γ,HB⟩
       ·replace be:=Bool.eq_false_iff.mpr be
        subst be
        have H1:(api_Hall_right.j1 k1 Y B (B.length:Int) J true B O)=some r:=by rw[if_neg (show ¬ (false=true) by decide)] at H;exact H
        clear H
        have H:=H1
        clear H1
        have H':=Aside0.mk H
        clear H
        try go_wp2
        have μ :Aside0 ((((w9.setCell ⟨ε,0,none⟩ (.int .i64 ((Qc B J).f0))).setCell ⟨ε,1,none⟩ (.int .i64 ((Qc B J).f1))).setCell ⟨ε,2,none⟩ (.int .i64 ((Qc B J).f2))).heap[φ]?=some (.cells #[.slice (some η) B.length ν,.func (.func 79) #[] #[]] 109 (0,0))):=⟨bka δ⟩
        have ξ :Aside0 ((((w9.setCell ⟨ε,0,none⟩ (.int .i64 ((Qc B J).f0))).setCell ⟨ε,1,none⟩ (.int .i64 ((Qc B J).f1))).setCell ⟨ε,2,none⟩ (.int .i64 ((Qc B J).f2))).heap[ε]?=some (.cells #[.int .i64 ((Qc B J).f0),.int .i64 ((Qc B J).f1),.int .i64 ((Qc B J).f2)] 36 (0,0))):=⟨by refine Qq (cs:=#[.int .i64 ((Qc B J).f0),.int .i64 ((Qc B J).f1),.int .i64 0]) ?_ 2 _ rfl;refine Qq (cs:=#[.int .i64 ((Qc B J).f0),.int .i64 0,.int .i64 0]) ?_ 1 _ rfl;refine Qq (cs:=#[.int .i64 0,.int .i64 0,.int .i64 0]) ?_ 0 _ rfl;exact γ.out⟩
        have a3:Aside0 (Below w.heap.size w (((w9.setCell ⟨ε,0,none⟩ (.int .i64 ((Qc B J).f0))).setCell ⟨ε,1,none⟩ (.int .i64 ((Qc B J).f1))).setCell ⟨ε,2,none⟩ (.int .i64 ((Qc B J).f2)))):=⟨bel⟩
        (try clear δ)
        (try clear γ)
        (try clear HB)
        generalize(((w9.setCell ⟨ε,0,none⟩ (.int .i64 ((Qc B J).f0))).setCell ⟨ε,1,none⟩ (.int .i64 ((Qc B J).f1))).setCell ⟨ε,2,none⟩ (.int .i64 ((Qc B J).f2)))=i2 at μ ξ a3 ⊢
        have δ := μ
        have γ:= ξ
        have HB:=a3
        clear μ ξ a3
        replace δ :=Aside0.mk (Qe δ.out)
        replace γ:=Aside0.mk (Qe γ.out)
        replace HB:=Aside0.mk (Qg HB.out)
        refine Zh (n:=21) (S:=fun w'=>w'.cell? ⟨ε,0,none⟩=some (.int .i64 ((Qc B J).f0))∧w'.cell? ⟨ε,1,none⟩=some (.int .i64 ((Qc B J).f1))∧w'.cell? ⟨ε,2,none⟩=some (.int .i64 ((Qc B J).f2))) (ds:=[]) #[false,false,false,false,false,false,false,false,false,false,false,false,false,false,false,false,false,false,false,false,false] kr rfl rfl ⟨(Qa γ.out 0).trans rfl,(Qa γ.out 1).trans rfl,(Qa γ.out 2).trans rfl⟩ (fun hHeld=>?_);refine Q8 api_Hall_right.Vz api_Hall_right.K1 (fun HT_ HW_=>?_)
        generalize i2.drew=df at δ γ HB hHeld ⊢
        refine qP 0 (some 15) (bN 21 1) HT_ ?_
        refine qT 1 (some 16) (bN 21 3) HT_ HW_ hHeld ?_
        refine qK 2 (some 17) (bN 21 7) HT_ fun K hK=>?_
        refine X2 Try.func82 kr rfl #[] #[.pointer (some ⟨gh_,0,none⟩)] #[.agg #[.int .i64 ((Qc B J).f0),.int .i64 ((Qc B J).f1),.int .i64 ((Qc B J).f2)]] #[.agg #[.int .i64 ((Qc B J).f0),.int .i64 ((Qc B J).f1),.int .i64 ((Qc B J).f2)],.pointer (some ⟨gh_,0,none⟩)] rfl (by rfl) rfl rfl rfl qM ?_
        with_reducible refine(call_hall_1.calls ((Qc B J).f0) ((Qc B J).f1) ((Qc B J).f2) Y false _ aw.out gh_ (Z7 HCH.out (by repeat(first|(with_reducible first|exact HB.out|apply Qu|apply Qi|apply Qg)|exact HB.out|(refine Qx ?_ (Aside0.out (by assumption))))))).mono ?_
        rintro e e9 ⟨rfl,hb⟩
        refine⟨_,rfl, ?_⟩
        replace δ :=sBk δ hb
        replace γ:=sBk γ hb
        replace HB:=sHb hb
        (try clear hb)
        (try clear a6)
        (try clear hk)
        (try clear hi)
        refine hK.out _ _ ⟨qc γ,qc γ,qc γ⟩ (fun hHeld=>?_)
        clear hK K
        refine qN (some 17) ?_
        refine qP 3 (some 18) (bN 21 15) HT_ ?_
        refine qP 4 (some 19) (bN 21 31) HT_ ?_
        refine qU 5 (some 20) (bN 21 63) HT_ ?_
        refine qU 6 (some 21) (bN 21 127) HT_ ?_
        refine qU 7 (some 22) (bN 21 255) HT_ ?_
        refine qU 8 (some 23) (bN 21 511) HT_ ?_
        refine qU 9 (some 24) (bN 21 1023) HT_ ?_
        refine qU 10 (some 25) (bN 21 2047) HT_ ?_
        refine qU 11 (some 26) (bN 21 4095) HT_ ?_
        refine qU 12 (some 27) (bN 21 8191) HT_ ?_
        refine qU 13 (some 28) (bN 21 16383) HT_ ?_
        refine qU 14 (some 29) (bN 21 32767) HT_ ?_
        refine qU 15 (some 30) (bN 21 65535) HT_ ?_
        refine qU 16 (some 31) (bN 21 131071) HT_ ?_
        refine qU 17 (some 32) (bN 21 262143) HT_ ?_
        refine qU 18 (some 33) (bN 21 524287) HT_ ?_
        refine qU 19 (some 34) (bN 21 1048575) HT_ ?_
        refine qP 20 (some 35) (bN 21 2097151) HT_ ?_
        refine Z2 (Zf HT_.out kr) ?_
        try go_wp2
        go_meet
        case rel=>exact⟨_,(true),rfl,H',⟨by have:=ao.out;omega⟩,δ,γ,HB⟩
      case rest=>
       clear ap
       try clear c1
       try clear p1
       try clear q1
       try clear b1
       try clear p2
       try clear c7
       try clear c8
       try clear bg
       try clear bh
       try clear bb
       try clear be
       try clear ag
       try clear c14b0
       try clear ψ
       try clear σ
       try clear c17b0
       try clear X
       try clear Z
       try clear a5
       try clear ar
       try clear au
       obtain⟨kq,ι,rfl,HA,b5,δ,γ,HB⟩:=hcut
       cases kq with
       |zero=>exact absurd HA.out (by simp[api_Hall_right.j1])
       |succ b6=>
        have H:=HA.out
        clear HA
        simp only[api_Hall_right.j1] at H
        by_cases d5: ι = true
        ·subst d5
         have H1:(some false)=some r:=by rw[if_pos rfl] at H;exact H
         clear H
         have H:=H1
         clear H1
         obtain rfl:=Option.some.inj H
         go_wp2
         go_ret
         exact⟨rfl,HB.out⟩
        ·replace d5:=Bool.eq_false_iff.mpr d5
         subst d5
         have H1:(api_Hall_right.l0 b6 Y B (B.length:Int) (wrap64 (J+1)) B O)=some r:=by rw[if_neg (show ¬ (false=true) by decide)] at H;exact H
         clear H
         have H:=H1
         clear H1
         have H':=Aside0.mk H
         clear H
         go_wp2
         go_roundg b6
         case measure=>have:=ao.out;have:=b5.out;omega
         case rel=>exact⟨(wrap64 (J+1)),rfl,H',⟨by have:=ao.out;have:=b5.out;omega⟩,δ,HB⟩
     ·rw[if_neg c7] at H
      exact absurd H (by simp)
    ·rw[if_neg c6] at H
     exact absurd H (by simp)
   ·rw[if_neg c5] at H
    have c5b0:decide (J<(B.length:Int))=false:=decide_eq_false c5
    clear c5
    obtain rfl:=Option.some.inj H
    go_wp2
    go_ret
    exact⟨rfl,HB.out⟩
mutual
def api_Inside_right.l0:Nat→Int→List (S86)→Int→Int→List (S86)→Int→Option (Bool)
 |0,_,_,_,_,_,_=>none
 |k+1,J,x8,x9,O,B,X=>if O<x9 then (if 0≤O then (if O<(x8.length:Int) then ((call_inside_1.f ((Qt x8 O).f0) ((Qt x8 O).f1) J).bind fun a5=>(if a5=true then (if O>0 then (if 0≤(wrap64 (O-1)) then (if (wrap64 (O-1))<(B.length:Int) then ((call_ins_1.f ((Qt B (wrap64 (O-1))).f0) ((Qt B (wrap64 (O-1))).f1) ((Qt x8 O).f0) ((Qt x8 O).f1)).bind fun δ =>(api_Inside_right.j1 k J x8 x9 O (decide (δ ≥ 0)) B X)) else (none)) else (none)) else (api_Inside_right.j1 k J x8 x9 O false B X)) else (api_Inside_right.j1 k J x8 x9 O true B X))) else (none)) else (none)) else (some true)
def api_Inside_right.j1:Nat→Int→List (S86)→Int→Int→Bool→List (S86)→Int→Option (Bool)
 |0,_,_,_,_,_,_,_=>none
 |k+1,J,x8,x9,O,ν,B,X=>if ν = true then (some false) else (api_Inside_right.l0 k J x8 x9 (wrap64 (O+1)) B X)
end
def api_Inside_right.f (k:Nat) (B:List (S86)) (O:Int) (Y:Int):Option (Bool):=api_Inside_right.l0 k Y B (B.length:Int) 0 B O
def api_Inside_right.T4:Bool×List (List Nat×List Nat):=(true,[([],[]),([],[]),([0,1],[0,1]),([2],[2]),([3,2],[3]),([4],[4]),([5,4],[4,5]),([6,4,4],[4,6]),([7],[7]),([8,7],[7,8]),([7],[7]),([10,7],[7,10]),([7],[7]),([12,7],[7,12]),([11,13,7],[7,11,13]),([14,7],[7,14]),([7],[7]),([9,15,16,7,7],[7,9,15,16]),([17,7],[7,17]),([7,18,4],[4,7,18]),([4,19],[4,19])])
def api_Inside_right.B4:List Nat:=[0,0,3,7,15,31,63,127,255,511,255,1279,255,4351,15615,31999,255,131071,262143,524287,1048575]
theorem api_Inside_right.Vz:rtab .any (opsOf Try.f67 4)=api_Inside_right.T4:=by kernel_rfl
theorem api_Inside_right.K1:Zq api_Inside_right.T4.2 api_Inside_right.B4=true:=by kernel_rfl
set_option maxHeartbeats 8000000 in
set_option maxRecDepth 100000 in
theorem api_Inside_right.calls (k:Nat) (τ :Option Addr) (ν :Nat) (B:List (S86)) (O:Int) (Y:Int) (r:Bool) (w:World) (χ :Kd.C k86 w τ B.length B) (a0:B.length ≤ ν) (h:api_Inside_right.f k B O Y=some r) (gh_:Nat) (hgh_:w.heap[gh_]?=some (.cells #[.int .i64 (Yi Y),.int .i64 (Yh Y)] 59 (0,0))):
  Calls Try.prog 67 #[.agg #[.slice τ B.length ν,.func (.func 83) #[] #[]],.func (.func 84) #[] #[.pointer (some ⟨gh_,0,none⟩)]] w fun e w'=>e = .returned (.bool r)∧Below w.heap.size w w':=by
 have HCH:=Aside0.mk hgh_
 clear hgh_
 have b2:=Try.underlying116
 have d9:=Try.underlying86
 have ae:=Aside0.mk χ
 have ay:=Aside0.mk a0
 clear χ a0
 have HB:=Aside0.mk (Below.refl w.heap.size w)
 have H:(api_Inside_right.l0 k Y B (B.length:Int) 0 B O)=some r:=h
 clear h
 have H':=Aside0.mk H
 clear H
 go_enter Try.func67,Try.ntmps67
 go_wp2_with (first|((with_reducible refine Qf (N:=2) rfl ?_);refine qE 2 #[.slice τ B.length ν,.func (.func 83) #[] #[]] 116 ?_;intro a4 hg w3 hbox hb;have γ:=Aside0.mk hbox;have b4:=sGe hg;have b9:=sGe hg;replace HB:=sHb hb;clear hb hbox hg;obtain⟨af,ak,al,am⟩:=qD2 γ.out))
 go_loopg [10] k (fun kq av w'=>∃ (J:Int),av = .int .i64 J∧Aside0 (api_Inside_right.l0 kq Y B (B.length:Int) J B O=some r)∧Aside0 (kq≤k)∧Aside0 (w'.heap[a4]?=some (.cells #[(.slice τ B.length ν),.func (.func 83) #[] #[]] 116 (0,0)))∧Aside0 (Below w.heap.size w w'))
 case atStart=>exact⟨(0),rfl,H',⟨Nat.le_refl _⟩,γ,HB⟩
 case round=>
  clear H'
  try clear p2
  try clear af
  try clear ak
  try clear al
  try clear am
  obtain⟨J,rfl,HA,ao,γ,HB⟩:=hrel
  cases gk with
  |zero=>exact absurd HA.out (by simp[api_Inside_right.l0])
  |succ k1=>
   have H:=HA.out
   clear HA
   simp only[api_Inside_right.l0] at H
   by_cases c5:J<(B.length:Int)
   ·rw[if_pos c5] at H
    have c5b0:decide (J<(B.length:Int))=true:=decide_eq_true c5
    clear c5
    by_cases c6:0≤J
    ·rw[if_pos c6] at H
     have c6b0:decide (0≤J)=true:=decide_eq_true c6
     clear c6
     by_cases c7:J<(B.length:Int)
     ·rw[if_pos c7] at H
      have c7b0:decide (J<(B.length:Int))=true:=decide_eq_true c7
      clear c7
      have ap:=Aside0.mk H
      clear H
      have an:0≤(J:Int):=of_decide_eq_true (by assumption)
      have ar:J<(B.length:Int):=of_decide_eq_true (by assumption)
      obtain⟨ε,az,a8,a9⟩:=Yc ae.out J an ar
      cases az
      replace a8:=(HB.out.cell (World.block_lt_of_cell? w _ a8)).trans a8
      replace a9:=(HB.out.cell (World.block_lt_of_cell? w _ a9)).trans a9
      replace an:=eq_true an
      replace ar:=eq_true ar
      go_upto_region 4 with(first|((with_reducible refine Qf (N:=6) rfl ?_);refine qE 6 #[.int .i64 0,.int .i64 0] 86 ?_;intro Z hg w9 hbox hb;have X:=Aside0.mk hbox;have ax:=sGe hg;have a7:=sGe hg;have ac:=sNl γ hg;have aj:=sNg γ hg;replace γ:=sBk γ hb;replace HB:=sHb hb;clear hb hbox hg;have bv:=aj.out;have cp:=ac.out;obtain⟨ω,ah,b3,bf⟩:=qD2 X.out))
      (try simp only[Act.put,qS])
      go_cut [35] (fun b8 wc=>∃ (kq:Nat) (ι :Bool),b8 = .bool ι ∧ Aside0 (api_Inside_right.j1 kq Y B (B.length:Int) J ι B O=some r)∧Aside0 (kq≤k1)∧Aside0 (wc.heap[a4]?=some (.cells #[(.slice (some ε) B.length ν),.func (.func 83) #[] #[]] 116 (0,0)))∧Aside0 (wc.heap[Z]?=some (.cells #[.int .i64 ((Qt B J).f0),.int .i64 ((Qt B J).f1)] 86 (0,0)))∧Aside0 (Below w.heap.size w wc))
      case first=>
       have H:=ap.out
       clear ap
       replace H:=Option.bind_eq_some_iff.mp H
       obtain⟨a5,ai,H⟩:=H
       replace H:(if a5=true then (if J>0 then (if 0≤(wrap64 (J-1)) then (if (wrap64 (J-1))<(B.length:Int) then ((call_ins_1.f ((Qt B (wrap64 (J-1))).f0) ((Qt B (wrap64 (J-1))).f1) ((Qt B J).f0) ((Qt B J).f1)).bind fun δ =>(api_Inside_right.j1 k1 Y B (B.length:Int) J (decide (δ ≥ 0)) B O)) else (none)) else (none)) else (api_Inside_right.j1 k1 Y B (B.length:Int) J false B O)) else (api_Inside_right.j1 k1 Y B (B.length:Int) J true B O))=some r:=H
       have aw:=Aside0.mk ai
       clear ai
       by_cases be:a5=true
       ·subst be
        have H1:(if J>0 then (if 0≤(wrap64 (J-1)) then (if (wrap64 (J-1))<(B.length:Int) then ((call_ins_1.f ((Qt B (wrap64 (J-1))).f0) ((Qt B (wrap64 (J-1))).f1) ((Qt B J).f0) ((Qt B J).f1)).bind fun δ =>(api_Inside_right.j1 k1 Y B (B.length:Int) J (decide (δ ≥ 0)) B O)) else (none)) else (none)) else (api_Inside_right.j1 k1 Y B (B.length:Int) J false B O))=some r:=by rw[if_pos rfl] at H;exact H
        clear H
        have H:=H1
        clear H1
        by_cases ag:J>0
        ·rw[if_pos ag] at H
         have c14b0:decide (0<J)=true:=decide_eq_true ag
         clear ag
         (first|rw[c14b0]|(simp only[Xe,Xh];rw[c14b0])|skip)
         obtain⟨ζ,θ⟩:∃ j_:Int,(wrap64 (J-1))=j_:=⟨_,rfl⟩
         replace H:(if 0≤(ζ) then (if (ζ)<(B.length:Int) then ((call_ins_1.f ((Qt B (ζ)).f0) ((Qt B (ζ)).f1) ((Qt B J).f0) ((Qt B J).f1)).bind fun δ =>(api_Inside_right.j1 k1 Y B (B.length:Int) J (decide (δ ≥ 0)) B O)) else (none)) else (none))=some r:=by first|(rw[θ] at H;exact H)|(simp only[θ] at H ⊢;exact H)
         (try rw[θ] at aw)
         have hji15w:(IntKind.i64.wrap (J-1)) = ζ :=(Xe _).trans θ
         by_cases ψ :0≤(ζ)
         ·rw[if_pos ψ] at H
          have c16b0:decide (0≤(ζ))=true:=decide_eq_true ψ
          clear ψ
          by_cases σ:(ζ)<(B.length:Int)
          ·rw[if_pos σ] at H
           have c17b0:decide ((ζ)<(B.length:Int))=true:=decide_eq_true σ
           clear σ
           replace H:=Option.bind_eq_some_iff.mp H
           obtain⟨δ,b7,H⟩:=H
           replace H:(api_Inside_right.j1 k1 Y B (B.length:Int) J (decide (δ ≥ 0)) B O)=some r:=H
           have cq:=Aside0.mk b7
           clear b7
           have H':=Aside0.mk H
           clear H
           try go_wp2
           have μ :Aside0 (((w9.setCell ⟨Z,0,none⟩ (.int .i64 ((Qt B J).f0))).setCell ⟨Z,1,none⟩ (.int .i64 ((Qt B J).f1))).heap[a4]?=some (.cells #[.slice (some ε) B.length ν,.func (.func 83) #[] #[]] 116 (0,0))):=⟨bka γ⟩
           have ξ :Aside0 (((w9.setCell ⟨Z,0,none⟩ (.int .i64 ((Qt B J).f0))).setCell ⟨Z,1,none⟩ (.int .i64 ((Qt B J).f1))).heap[Z]?=some (.cells #[.int .i64 ((Qt B J).f0),.int .i64 ((Qt B J).f1)] 86 (0,0))):=⟨by refine Qq (cs:=#[.int .i64 ((Qt B J).f0),.int .i64 0]) ?_ 1 _ rfl;refine Qq (cs:=#[.int .i64 0,.int .i64 0]) ?_ 0 _ rfl;exact X.out⟩
           have a3:Aside0 (Below w.heap.size w ((w9.setCell ⟨Z,0,none⟩ (.int .i64 ((Qt B J).f0))).setCell ⟨Z,1,none⟩ (.int .i64 ((Qt B J).f1)))):=⟨bel⟩
           (try clear γ)
           (try clear X)
           (try clear HB)
           generalize((w9.setCell ⟨Z,0,none⟩ (.int .i64 ((Qt B J).f0))).setCell ⟨Z,1,none⟩ (.int .i64 ((Qt B J).f1)))=bc at μ ξ a3 ⊢
           have γ:= μ
           have X:= ξ
           have HB:=a3
           clear μ ξ a3
           replace γ:=Aside0.mk (Qe γ.out)
           replace X:=Aside0.mk (Qe X.out)
           replace HB:=Aside0.mk (Qg HB.out)
           have aa:0≤((ζ):Int):=of_decide_eq_true (by assumption)
           have ab:(ζ)<(B.length:Int):=of_decide_eq_true (by assumption)
           obtain⟨au,b0,η,κ⟩:=Yc ae.out (ζ) aa ab
           have ρ:= κ
           have φ := η
           obtain rfl: ε = au:=(by injection b0)
           replace η :=(HB.out.cell (World.block_lt_of_cell? w _ η)).trans η
           replace κ :=(HB.out.cell (World.block_lt_of_cell? w _ κ)).trans κ
           replace aa:=eq_true aa
           replace ab:=eq_true ab
           refine Zh (n:=21) (S:=fun w'=>w'.cell? ⟨Z,0,none⟩=some (.int .i64 ((Qt B J).f0))∧w'.cell? ⟨Z,1,none⟩=some (.int .i64 ((Qt B J).f1))∧w'.cell? ⟨a4,0,none⟩=some (.slice (some ε) B.length ν)∧w'.cell? ⟨a4,1,none⟩=some (.func (.func 83) #[] #[])∧w'.cell? (ε.add (((ζ)).toNat * 2))=some (.int .i64 ((Qt B (ζ)).f0))∧w'.cell? ⟨(ε.add (((ζ)).toNat * 2)).block,(ε.add (((ζ)).toNat * 2)).off+1,none⟩=some (.int .i64 ((Qt B (ζ)).f1))) (ds:=[]) #[false,false,false,false,false,false,false,false,false,false,false,false,false,false,false,false,false,false,false,false,false] kr rfl rfl ⟨(Qa X.out 0).trans rfl,(Qa X.out 1).trans rfl,(Qa γ.out 0).trans rfl,(Qa γ.out 1).trans rfl,((HB.out.cell (World.block_lt_of_cell? w _ φ)).trans φ),((HB.out.cell (World.block_lt_of_cell? w _ ρ)).trans ρ)⟩ (fun hHeld=>?_);refine Q8 api_Inside_right.Vz api_Inside_right.K1 (fun HT_ HW_=>?_)
           generalize bc.drew=dl at γ X HB η κ hHeld ⊢
           refine qP 0 (some 15) (bN 21 1) HT_ ?_
           refine qT 1 (some 16) (bN 21 3) HT_ HW_ hHeld ?_
           refine qK 2 (some 17) (bN 21 7) HT_ fun K hK=>?_
           refine X2 Try.func84 kr rfl #[] #[.pointer (some ⟨gh_,0,none⟩)] #[.agg #[.int .i64 ((Qt B J).f0),.int .i64 ((Qt B J).f1)]] #[.agg #[.int .i64 ((Qt B J).f0),.int .i64 ((Qt B J).f1)],.pointer (some ⟨gh_,0,none⟩)] rfl (by rfl) rfl rfl rfl qM ?_
           with_reducible refine(call_inside_1.calls ((Qt B J).f0) ((Qt B J).f1) Y true _ aw.out gh_ (Z7 HCH.out (by repeat(first|(with_reducible first|exact HB.out|apply Qu|apply Qi|apply Qg)|exact HB.out|(refine Qx ?_ (Aside0.out (by assumption))))))).mono ?_
           rintro e bs ⟨rfl,hb⟩
           refine⟨_,rfl, ?_⟩
           replace γ:=sBk γ hb
           replace X:=sBk X hb
           replace HB:=sHb hb
           (try clear hb)
           (try clear a6)
           (try clear hk)
           (try clear hi)
           refine hK.out _ _ ⟨qc X,qc X,qc γ,qc γ,((HB.out.cell (World.block_lt_of_cell? w _ φ)).trans φ),((HB.out.cell (World.block_lt_of_cell? w _ ρ)).trans ρ)⟩ (fun hHeld=>?_)
           clear hK K
           refine qN (some 17) ?_
           refine qP 3 (some 18) (bN 21 15) HT_ ?_
           refine qP 4 (some 19) (bN 21 31) HT_ ?_
           refine qP 5 (some 20) (bN 21 63) HT_ ?_
           refine qP 6 (some 21) (bN 21 127) HT_ ?_
           refine qP 7 (some 22) (bN 21 255) HT_ ?_
           refine qP 8 (some 23) (bN 21 511) HT_ ?_
           refine qP 10 (some 25) (bN 21 1535) HT_ ?_
           refine qP 12 (some 27) (bN 21 5631) HT_ ?_
           refine qP 13 (some 28) (bN 21 13823) HT_ ?_
           refine qT 9 (some 24) (bN 21 14335) HT_ HW_ hHeld ?_
           refine qT 11 (some 26) (bN 21 16383) HT_ HW_ hHeld ?_
           refine qP 14 (some 29) (bN 21 32767) HT_ ?_
           refine qT 15 (some 30) (bN 21 65535) HT_ HW_ hHeld ?_
           refine qT 16 (some 31) (bN 21 131071) HT_ HW_ hHeld ?_
           refine qK 17 (some 32) (bN 21 262143) HT_ fun K hK=>?_
           refine X2 Try.func83 kr rfl #[] #[] #[.agg #[.int .i64 ((Qt B (ζ)).f0),.int .i64 ((Qt B (ζ)).f1)],.agg #[.int .i64 ((Qt B J).f0),.int .i64 ((Qt B J).f1)]] #[.agg #[.int .i64 ((Qt B (ζ)).f0),.int .i64 ((Qt B (ζ)).f1)],.agg #[.int .i64 ((Qt B J).f0),.int .i64 ((Qt B J).f1)]] rfl (by rfl) rfl rfl rfl (by(try simp only[List.map_toArray,List.map_cons,List.map_nil]);first|done|(simp only[θ];rfl)|rfl|(simp only[List.length_drop,List.length_take];rfl)) ?_
           with_reducible refine(call_ins_1.calls ((Qt B (ζ)).f0) ((Qt B (ζ)).f1) ((Qt B J).f0) ((Qt B J).f1) δ _ cq.out).mono ?_
           rintro e br ⟨rfl,hb⟩
           refine⟨_,rfl, ?_⟩
           replace γ:=sBk γ hb
           replace X:=sBk X hb
           replace HB:=sHb hb
           (try clear hb)
           (try clear a6)
           (try clear hk)
           (try clear hi)
           refine hK.out _ _ ⟨qc X,qc X,qc γ,qc γ,((HB.out.cell (World.block_lt_of_cell? w _ φ)).trans φ),((HB.out.cell (World.block_lt_of_cell? w _ ρ)).trans ρ)⟩ (fun hHeld=>?_)
           clear hK K
           refine qN (some 32) ?_
           refine qP 18 (some 33) (bN 21 524287) HT_ ?_
           refine qP 19 (some 34) (bN 21 1048575) HT_ ?_
           refine qP 20 (some 35) (bN 21 2097151) HT_ ?_
           refine Z2 (Zf HT_.out kr) ?_
           try go_wp2
           go_meet
           case rel=>exact⟨_,(decide (δ ≥ 0)),rfl,H',⟨by have:=ao.out;omega⟩,γ,X,HB⟩
          ·rw[if_neg σ] at H
           exact absurd H (by simp)
         ·rw[if_neg ψ] at H
          exact absurd H (by simp)
        ·rw[if_neg ag] at H
         have c14b0:decide (0<J)=false:=decide_eq_false ag
         clear ag
         (first|rw[c14b0]|(simp only[Xe,Xh];rw[c14b0])|skip)
         have H':=Aside0.mk H
         clear H
         try go_wp2
         have μ :Aside0 (((w9.setCell ⟨Z,0,none⟩ (.int .i64 ((Qt B J).f0))).setCell ⟨Z,1,none⟩ (.int .i64 ((Qt B J).f1))).heap[a4]?=some (.cells #[.slice (some ε) B.length ν,.func (.func 83) #[] #[]] 116 (0,0))):=⟨bka γ⟩
         have ξ :Aside0 (((w9.setCell ⟨Z,0,none⟩ (.int .i64 ((Qt B J).f0))).setCell ⟨Z,1,none⟩ (.int .i64 ((Qt B J).f1))).heap[Z]?=some (.cells #[.int .i64 ((Qt B J).f0),.int .i64 ((Qt B J).f1)] 86 (0,0))):=⟨by refine Qq (cs:=#[.int .i64 ((Qt B J).f0),.int .i64 0]) ?_ 1 _ rfl;refine Qq (cs:=#[.int .i64 0,.int .i64 0]) ?_ 0 _ rfl;exact X.out⟩
         have a3:Aside0 (Below w.heap.size w ((w9.setCell ⟨Z,0,none⟩ (.int .i64 ((Qt B J).f0))).setCell ⟨Z,1,none⟩ (.int .i64 ((Qt B J).f1)))):=⟨bel⟩
         (try clear γ)
         (try clear X)
         (try clear HB)
         generalize((w9.setCell ⟨Z,0,none⟩ (.int .i64 ((Qt B J).f0))).setCell ⟨Z,1,none⟩ (.int .i64 ((Qt B J).f1)))=bm at μ ξ a3 ⊢
         have γ:= μ
         have X:= ξ
         have HB:=a3
         clear μ ξ a3
         replace γ:=Aside0.mk (Qe γ.out)
         replace X:=Aside0.mk (Qe X.out)
         replace HB:=Aside0.mk (Qg HB.out)
         refine Zh (n:=21) (S:=fun w'=>w'.cell? ⟨Z,0,none⟩=some (.int .i64 ((Qt B J).f0))∧w'.cell? ⟨Z,1,none⟩=some (.int .i64 ((Qt B J).f1))) (ds:=[]) #[false,false,false,false,false,false,false,false,false,false,false,false,false,false,false,false,false,false,false,false,false] kr rfl rfl ⟨(Qa X.out 0).trans rfl,(Qa X.out 1).trans rfl⟩ (fun hHeld=>?_);refine Q8 api_Inside_right.Vz api_Inside_right.K1 (fun HT_ HW_=>?_)
         generalize bm.drew=cg at γ X HB hHeld ⊢
         refine qP 0 (some 15) (bN 21 1) HT_ ?_
         refine qT 1 (some 16) (bN 21 3) HT_ HW_ hHeld ?_
         refine qK 2 (some 17) (bN 21 7) HT_ fun K hK=>?_
         refine X2 Try.func84 kr rfl #[] #[.pointer (some ⟨gh_,0,none⟩)] #[.agg #[.int .i64 ((Qt B J).f0),.int .i64 ((Qt B J).f1)]] #[.agg #[.int .i64 ((Qt B J).f0),.int .i64 ((Qt B J).f1)],.pointer (some ⟨gh_,0,none⟩)] rfl (by rfl) rfl rfl rfl qM ?_
         with_reducible refine(call_inside_1.calls ((Qt B J).f0) ((Qt B J).f1) Y true _ aw.out gh_ (Z7 HCH.out (by repeat(first|(with_reducible first|exact HB.out|apply Qu|apply Qi|apply Qg)|exact HB.out|(refine Qx ?_ (Aside0.out (by assumption))))))).mono ?_
         rintro e ea ⟨rfl,hb⟩
         refine⟨_,rfl, ?_⟩
         replace γ:=sBk γ hb
         replace X:=sBk X hb
         replace HB:=sHb hb
         (try clear hb)
         (try clear a6)
         (try clear hk)
         (try clear hi)
         refine hK.out _ _ ⟨qc X,qc X⟩ (fun hHeld=>?_)
         clear hK K
         refine qN (some 17) ?_
         refine qP 3 (some 18) (bN 21 15) HT_ ?_
         refine qP 4 (some 19) (bN 21 31) HT_ ?_
         refine qP 5 (some 20) (bN 21 63) HT_ ?_
         refine qP 6 (some 21) (bN 21 127) HT_ ?_
         refine qP 7 (some 22) (bN 21 255) HT_ ?_
         refine qU 8 (some 23) (bN 21 511) HT_ ?_
         refine qU 9 (some 24) (bN 21 1023) HT_ ?_
         refine qU 10 (some 25) (bN 21 2047) HT_ ?_
         refine qU 11 (some 26) (bN 21 4095) HT_ ?_
         refine qU 12 (some 27) (bN 21 8191) HT_ ?_
         refine qU 13 (some 28) (bN 21 16383) HT_ ?_
         refine qU 14 (some 29) (bN 21 32767) HT_ ?_
         refine qU 15 (some 30) (bN 21 65535) HT_ ?_
         refine qU 16 (some 31) (bN 21 131071) HT_ ?_
         refine qU 17 (some 32) (bN 21 262143) HT_ ?_
         refine qU 18 (some 33) (bN 21 524287) HT_ ?_
         refine qP 19 (some 34) (bN 21 1048575) HT_ ?_
         refine qP 20 (some 35) (bN 21 2097151) HT_ ?_
         refine Z2 (Zf HT_.out kr) ?_
         try go_wp2
         go_meet
         case rel=>exact⟨_,(false),rfl,H',⟨by have:=ao.out;omega⟩,γ,X,HB⟩
       ·replace be:=Bool.eq_false_iff.mpr be
        subst be
        have H1:(api_Inside_right.j1 k1 Y B (B.length:Int) J true B O)=some r:=by rw[if_neg (show ¬ (false=true) by decide)] at H;exact H
        clear H
        have H:=H1
        clear H1
        have H':=Aside0.mk H
        clear H
        try go_wp2
        have μ :Aside0 (((w9.setCell ⟨Z,0,none⟩ (.int .i64 ((Qt B J).f0))).setCell ⟨Z,1,none⟩ (.int .i64 ((Qt B J).f1))).heap[a4]?=some (.cells #[.slice (some ε) B.length ν,.func (.func 83) #[] #[]] 116 (0,0))):=⟨bka γ⟩
        have ξ :Aside0 (((w9.setCell ⟨Z,0,none⟩ (.int .i64 ((Qt B J).f0))).setCell ⟨Z,1,none⟩ (.int .i64 ((Qt B J).f1))).heap[Z]?=some (.cells #[.int .i64 ((Qt B J).f0),.int .i64 ((Qt B J).f1)] 86 (0,0))):=⟨by refine Qq (cs:=#[.int .i64 ((Qt B J).f0),.int .i64 0]) ?_ 1 _ rfl;refine Qq (cs:=#[.int .i64 0,.int .i64 0]) ?_ 0 _ rfl;exact X.out⟩
        have a3:Aside0 (Below w.heap.size w ((w9.setCell ⟨Z,0,none⟩ (.int .i64 ((Qt B J).f0))).setCell ⟨Z,1,none⟩ (.int .i64 ((Qt B J).f1)))):=⟨bel⟩
        (try clear γ)
        (try clear X)
        (try clear HB)
        generalize((w9.setCell ⟨Z,0,none⟩ (.int .i64 ((Qt B J).f0))).setCell ⟨Z,1,none⟩ (.int .i64 ((Qt B J).f1)))=i2 at μ ξ a3 ⊢
        have γ:= μ
        have X:= ξ
        have HB:=a3
        clear μ ξ a3
        replace γ:=Aside0.mk (Qe γ.out)
        replace X:=Aside0.mk (Qe X.out)
        replace HB:=Aside0.mk (Qg HB.out)
        refine Zh (n:=21) (S:=fun w'=>w'.cell? ⟨Z,0,none⟩=some (.int .i64 ((Qt B J).f0))∧w'.cell? ⟨Z,1,none⟩=some (.int .i64 ((Qt B J).f1))) (ds:=[]) #[false,false,false,false,false,false,false,false,false,false,false,false,false,false,false,false,false,false,false,false,false] kr rfl rfl ⟨(Qa X.out 0).trans rfl,(Qa X.out 1).trans rfl⟩ (fun hHeld=>?_);refine Q8 api_Inside_right.Vz api_Inside_right.K1 (fun HT_ HW_=>?_)
        generalize i2.drew=df at γ X HB hHeld ⊢
        refine qP 0 (some 15) (bN 21 1) HT_ ?_
        refine qT 1 (some 16) (bN 21 3) HT_ HW_ hHeld ?_
        refine qK 2 (some 17) (bN 21 7) HT_ fun K hK=>?_
        refine X2 Try.func84 kr rfl #[] #[.pointer (some ⟨gh_,0,none⟩)] #[.agg #[.int .i64 ((Qt B J).f0),.int .i64 ((Qt B J).f1)]] #[.agg #[.int .i64 ((Qt B J).f0),.int .i64 ((Qt B J).f1)],.pointer (some ⟨gh_,0,none⟩)] rfl (by rfl) rfl rfl rfl qM ?_
        with_reducible refine(call_inside_1.calls ((Qt B J).f0) ((Qt B J).f1) Y false _ aw.out gh_ (Z7 HCH.out (by repeat(first|(with_reducible first|exact HB.out|apply Qu|apply Qi|apply Qg)|exact HB.out|(refine Qx ?_ (Aside0.out (by assumption))))))).mono ?_
        rintro e e9 ⟨rfl,hb⟩
        refine⟨_,rfl, ?_⟩
        replace γ:=sBk γ hb
        replace X:=sBk X hb
        replace HB:=sHb hb
        (try clear hb)
        (try clear a6)
        (try clear hk)
        (try clear hi)
        refine hK.out _ _ ⟨qc X,qc X⟩ (fun hHeld=>?_)
        clear hK K
        refine qN (some 17) ?_
        refine qP 3 (some 18) (bN 21 15) HT_ ?_
        refine qP 4 (some 19) (bN 21 31) HT_ ?_
        refine qU 5 (some 20) (bN 21 63) HT_ ?_
        refine qU 6 (some 21) (bN 21 127) HT_ ?_
        refine qU 7 (some 22) (bN 21 255) HT_ ?_
        refine qU 8 (some 23) (bN 21 511) HT_ ?_
        refine qU 9 (some 24) (bN 21 1023) HT_ ?_
        refine qU 10 (some 25) (bN 21 2047) HT_ ?_
        refine qU 11 (some 26) (bN 21 4095) HT_ ?_
        refine qU 12 (some 27) (bN 21 8191) HT_ ?_
        refine qU 13 (some 28) (bN 21 16383) HT_ ?_
        refine qU 14 (some 29) (bN 21 32767) HT_ ?_
        refine qU 15 (some 30) (bN 21 65535) HT_ ?_
        refine qU 16 (some 31) (bN 21 131071) HT_ ?_
        refine qU 17 (some 32) (bN 21 262143) HT_ ?_
        refine qU 18 (some 33) (bN 21 524287) HT_ ?_
        refine qU 19 (some 34) (bN 21 1048575) HT_ ?_
        refine qP 20 (some 35) (bN 21 2097151) HT_ ?_
        refine Z2 (Zf HT_.out kr) ?_
        try go_wp2
        go_meet
        case rel=>exact⟨_,(true),rfl,H',⟨by have:=ao.out;omega⟩,γ,X,HB⟩
      case rest=>
       clear ap
       try clear c1
       try clear p1
       try clear q1
       try clear b1
       try clear p2
       try clear c8
       try clear bb
       try clear bd
       try clear ba
       try clear be
       try clear ag
       try clear c14b0
       try clear ψ
       try clear c16b0
       try clear σ
       try clear c17b0
       try clear η
       try clear κ
       try clear aa
       try clear ab
       obtain⟨kq,ι,rfl,HA,b5,γ,X,HB⟩:=hcut
       cases kq with
       |zero=>exact absurd HA.out (by simp[api_Inside_right.j1])
       |succ b6=>
        have H:=HA.out
        clear HA
        simp only[api_Inside_right.j1] at H
        by_cases d5: ι = true
        ·subst d5
         have H1:(some false)=some r:=by rw[if_pos rfl] at H;exact H
         clear H
         have H:=H1
         clear H1
         obtain rfl:=Option.some.inj H
         go_wp2
         go_ret
         exact⟨rfl,HB.out⟩
        ·replace d5:=Bool.eq_false_iff.mpr d5
         subst d5
         have H1:(api_Inside_right.l0 b6 Y B (B.length:Int) (wrap64 (J+1)) B O)=some r:=by rw[if_neg (show ¬ (false=true) by decide)] at H;exact H
         clear H
         have H:=H1
         clear H1
         have H':=Aside0.mk H
         clear H
         go_wp2
         go_roundg b6
         case measure=>have:=ao.out;have:=b5.out;omega
         case rel=>exact⟨(wrap64 (J+1)),rfl,H',⟨by have:=ao.out;have:=b5.out;omega⟩,γ,HB⟩
     ·rw[if_neg c7] at H
      exact absurd H (by simp)
    ·rw[if_neg c6] at H
     exact absurd H (by simp)
   ·rw[if_neg c5] at H
    have c5b0:decide (J<(B.length:Int))=false:=decide_eq_false c5
    clear c5
    obtain rfl:=Option.some.inj H
    go_wp2
    go_ret
    exact⟨rfl,HB.out⟩
end Go.Proofs.Ytmfffemidlhcpaa.C
namespace Go.Proofs.Ytmfffemidlhcpaa.Call
open Go.RowKit Go.Proofs.YtmfffemidlhcpaaW.PrintWords Go.Proofs.YtmfffemidlhcpaaW.PrintLast Go.Proofs.YtmfffemidlhcpaaW.PrintMore Go.Proofs.Ytmfffemidlhcpaa.C
set_option linter.unusedVariables false
set_option linter.unusedSimpArgs false
theorem Ua (a b:Int):Uc a b<0↔a<b:=by unfold Uc;split <;> (try split) <;> omega
theorem Ub (a b:Int):Uc a b=0↔a=b:=by unfold Uc;split <;> (try split) <;> omega
theorem Ky (a b c d:Int):Yb a b c d<0↔(a<c∨(a=c∧b<d)):=by
  unfold Yb
  have h1:=Ua a c
  have O:=Ub a c
  have Y:=Ua b d
  split <;> omega
theorem Ud (a b c d:Int):Yb a b c d=0↔(a=c∧b=d):=by
  unfold Yb
  have h1:=Ua a c
  have O:=Ub a c
  have Y:=Ub b d
  split <;> omega
def Wt {α:Type} (q:α→Bool):Nat→List α→Int
  |_,[]=> -1
  |i,x :: l=>if q x=true then (i:Int) else Wt q (i+1) l
theorem Mf {α:Type} (q:α→Bool) (l:List α):∀ i:Nat,(Wt q i l = -1 ∧ ∀ x ∈ l,q x=false) ∨ ∃ k:Nat,∃ h:k<l.length,Wt q i l=((i+k:Nat):Int)∧q l[k]=true ∧ ∀ x ∈ l.take k,q x=false:=by
  induction l with
  |nil=>intro i;exact .inl ⟨rfl,by simp⟩
  |cons x l ih=>
    intro i
    simp only[Wt]
    by_cases h:q x=true
    · rw[if_pos h]
      exact .inr ⟨0,by simp,by simp,by simpa using h,by simp⟩
    · rw[if_neg h]
      have hf:q x=false:=by simpa using h
      rcases ih (i+1) with⟨e,ha⟩|⟨k,hk,e,ht,ha⟩
      · refine .inl ⟨e,fun y hy=>?_⟩
        rcases List.mem_cons.1 hy with rfl|hy
        · exact hf
        · exact ha y hy
      · refine .inr ⟨k+1,by simpa using hk,by rw[e];congr 1;omega,by simpa using ht,fun y hy=>?_⟩
        rw[List.take_succ_cons] at hy
        rcases List.mem_cons.1 hy with rfl|hy
        · exact hf
        · exact ha y hy
def Zn {α:Type} (may:α→Bool) (lt:α→α→Bool):Option α→List α→Bool
  |_,[]=>true
  |none,x :: l=>may x&&Zn may lt (some x) l
  |some p,x :: l=>(may x&&lt p x)&&Zn may lt (some x) l
def ltH (x y:S36):Bool:=decide (Yb x.f0 x.f1 y.f0 y.f1<0)
theorem Ku (x y:S36):ltH x y=true↔(x.f0<y.f0∨(x.f0=y.f0∧x.f1<y.f1)):=by
  unfold ltH
  rw[decide_eq_true_iff,Ky]
theorem Me {x y z:S36} (h1:ltH x y=true) (O:ltH y z=true):ltH x z=true:=by
  rw[Ku] at *
  omega
theorem Yk (l:List S36) (i:Nat) (h:i<l.length):Qc l (i:Int)=l[i]:=by
  unfold Qc
  rw[Int.toNat_natCast,List.getD_eq_getElem?_getD,List.getElem?_eq_getElem h]
  rfl
def Va (l:List S36) (B J:Int) (p:Nat):Prop:=p≤l.length∧(∀ y ∈ l.take p,Yb y.f0 y.f1 B J<0)∧(∀ y ∈ l.drop p,¬ Yb y.f0 y.f1 B J<0)
def Vh (l:List S36) (B J:Int) (p:Nat):Bool:=match l[p]? with|some y=>Yb y.f0 y.f1 B J==0|none=>false
theorem V2 (l:List S36) (B J Z:Int) (hm:l.length≤1000000000) (hs:l.Pairwise (fun x y=>ltH x y=true)) (d:Nat):∀ (f i j:Nat),j-i≤d→i≤j→j≤l.length→d<f→(∀ y ∈ l.take i,Yb y.f0 y.f1 B J<0)→(∀ y ∈ l.drop j,¬ Yb y.f0 y.f1 B J<0) →
    ∃ p,Va l B J p∧api_Hall_89.l0 f l (l.length:Int) (i:Int) (j:Int) B J Z=some ((p:Int),Vh l B J p):=by
  have stop:∀ (f i:Nat),0<f→i≤l.length→(∀ y ∈ l.take i,Yb y.f0 y.f1 B J<0)→(∀ y ∈ l.drop i,¬ Yb y.f0 y.f1 B J<0) → ∃ p,Va l B J p∧api_Hall_89.l0 f l (l.length:Int) (i:Int) (i:Int) B J Z=some ((p:Int),Vh l B J p):=by
    intro f i hf hi h1 O
    obtain⟨f,rfl⟩:∃ m,f=m+1:=⟨f-1,by omega⟩
    refine⟨i,⟨hi,h1,O⟩, ?_⟩
    simp only[api_Hall_89.l0]
    unfold Vh
    rw[if_neg (by omega)]
    by_cases h:i<l.length
    · rw[if_pos (by omega),if_pos (by omega),if_pos (by omega),Yk l i h,List.getElem?_eq_getElem h]
      rfl
    · rw[if_neg (by omega),List.getElem?_eq_none (by omega)]
  induction d with
  |zero=>
    intro f i j hd hij hj hf h1 O
    obtain rfl:i=j:=by omega
    exact stop f i hf hj h1 O
  |succ d ih=>
    intro f i j hd hij hj hf h1 O
    by_cases he:i=j
    · subst he
      exact stop f i (by omega) hj h1 O
    · obtain⟨f,rfl⟩:∃ m,f=m+1:=⟨f-1,by omega⟩
      have hmid:wrap64 ((IntKind.u64.wrap (wrap64 ((i:Int)+(j:Int)))) / 2)=(((i+j) / 2:Nat):Int):=by
        rw[show wrap64 ((i:Int)+(j:Int))=(i:Int)+(j:Int) from by unfold wrap64;omega,IntKind.wrap_u64]
        unfold wrap64;omega
      have e1:wrap64 ((((i+j) / 2:Nat):Int)+1)=(((i+j) / 2+1:Nat):Int):=by unfold wrap64;omega
      simp only[api_Hall_89.l0]
      rw[if_pos (by omega),hmid]
      have hh:(i+j) / 2<l.length:=by omega
      generalize hg:(i+j) / 2=h at *
      rw[if_pos (by omega),if_pos (by omega),Yk l h hh,e1]
      unfold call_halls_1.f
      simp only[Option.bind_some]
      have hlt:∀ m:Nat,(hm:m<h)→Yb (l[m]'(by omega)).f0 (l[m]'(by omega)).f1 l[h].f0 l[h].f1<0:=by
        intro m hm
        have:=List.pairwise_iff_getElem.1 hs m h (by omega) hh hm
        exact of_decide_eq_true this
      have hgt:∀ m:Nat,h<m→(hm:m<l.length)→Yb l[h].f0 l[h].f1 l[m].f0 l[m].f1<0:=by
        intro m hm hml
        have:=List.pairwise_iff_getElem.1 hs h m hh hml hm
        exact of_decide_eq_true this
      by_cases hc:Yb l[h].f0 l[h].f1 B J<0
      · rw[if_pos hc]
        refine ih f (h+1) j (by omega) (by omega) hj (by omega) ?_ O
        intro y hy
        obtain⟨m,hm,rfl⟩:=List.mem_iff_getElem.1 hy
        rw[List.length_take] at hm
        rw[List.getElem_take]
        by_cases hmh:m=h
        · subst hmh;exact hc
        · have Y:=hlt m (by omega)
          rw[Ky] at *
          omega
      · rw[if_neg hc]
        refine ih f i h (by omega) (by omega) (by omega) (by omega) h1 ?_
        intro y hy
        obtain⟨m,hm,rfl⟩:=List.mem_iff_getElem.1 hy
        rw[List.length_drop] at hm
        rw[List.getElem_drop]
        by_cases hmh:m=0
        · subst hmh;simpa using hc
        · have Y:=hgt (h+m) (by omega) (by omega)
          rw[Ky] at *
          omega
theorem Wi (l:List S36) (B J Z:Int) (a2:Int) (hm:l.length≤1000000000) (hs:l.Pairwise (fun x y=>ltH x y=true)) (k:Nat) (hk:l.length<k):
    ∃ p,Va l B J p∧api_Hall_89.f k l B J Z a2=some ((p:Int),Vh l B J p):=by
  unfold api_Hall_89.f
  have:=V2 l B J Z hm hs l.length k 0 l.length (by omega) (by omega) (by omega) hk (by simp) (by simp)
  simpa using this
theorem Uz (l:List S36) (Y tok_:Int) (hm:l.length≤1000000000) (j:Nat):∀ (f i:Nat),i+j=l.length→2 * j<f→api_Hall_right.l0 f Y l (l.length:Int) (i:Int) l tok_=some (Zn (fun x=>Yn (Yi Y) (Yh Y) x.f0 x.f1 x.f2) ltH (if i=0 then none else l[i-1]?) (l.drop i)):=by
  induction j with
  |zero=>
    intro f i hi hf
    obtain⟨f,rfl⟩:∃ m,f=m+1:=⟨f-1,by omega⟩
    simp only[api_Hall_right.l0]
    rw[if_neg (by omega),List.drop_of_length_le (by omega)]
    cases(if i=0 then none else l[i-1]?) <;> rfl
  |succ j ih=>
    intro f i hi hf
    obtain⟨f,rfl⟩:∃ m,f=m+2:=⟨f-2,by omega⟩
    have ha:i<l.length:=by omega
    have ei:wrap64 ((i:Int)+1)=((i+1:Nat):Int):=by unfold wrap64;omega
    have jt:api_Hall_right.j1 (f+1) Y l (l.length:Int) (i:Int) true l tok_=some false:=by simp[api_Hall_right.j1]
    have jf:api_Hall_right.j1 (f+1) Y l (l.length:Int) (i:Int) false l tok_=some (Zn (fun x=>Yn (Yi Y) (Yh Y) x.f0 x.f1 x.f2) ltH (some l[i]) (l.drop (i+1))):=by
      simp only[api_Hall_right.j1]
      rw[if_neg (by decide),ei,ih f (i+1) (by omega) (by omega),if_neg (by omega),Nat.add_sub_cancel,List.getElem?_eq_getElem ha]
    simp only[api_Hall_right.l0]
    rw[if_pos (by omega),if_pos (by omega),if_pos (by omega),Yk l i ha]
    unfold call_hall_1.f
    simp only[Option.bind_some]
    rw[List.drop_eq_getElem_cons ha]
    by_cases h1:Yn (Yi Y) (Yh Y) l[i].f0 l[i].f1 l[i].f2=true
    · rw[if_pos h1]
      by_cases X:i=0
      · subst X
        rw[if_neg (by omega),if_pos rfl,jf]
        simp only[Zn,h1,Bool.true_and]
      · have ep:wrap64 ((i:Int)-1)=((i-1:Nat):Int):=by unfold wrap64;omega
        rw[if_pos (by omega),ep,if_pos (by omega),if_pos (by omega),Yk l (i-1) (by omega),if_neg X,List.getElem?_eq_getElem (by omega)]
        unfold call_halls_1.f
        simp only[Option.bind_some]
        simp only[Zn,h1,Bool.true_and]
        unfold ltH
        by_cases hc:Yb (l[i-1]'(by omega)).f0 (l[i-1]'(by omega)).f1 l[i].f0 l[i].f1<0
        · rw[decide_eq_false (by omega),decide_eq_true hc,jf,Bool.true_and]
          rfl
        · rw[decide_eq_true (by omega),decide_eq_false hc,jt,Bool.false_and]
    · have h1':Yn (Yi Y) (Yh Y) l[i].f0 l[i].f1 l[i].f2=false:=by simpa using h1
      rw[if_neg h1,jt]
      by_cases X:i=0
      · rw[if_pos X]
        simp only[Zn,h1',Bool.false_and]
      · rw[if_neg X,List.getElem?_eq_getElem (by omega)]
        simp only[Zn,h1',Bool.false_and]
theorem Ly (l:List S36) (Y tok_:Int) (hm:l.length≤1000000000) (k:Nat) (hk:2 * l.length<k):api_Hall_right.f k l tok_ Y=some (Zn (fun x=>Yn (Yi Y) (Yh Y) x.f0 x.f1 x.f2) ltH none l):=by
  unfold api_Hall_right.f
  have:=Uz l Y tok_ hm l.length k 0 (by omega) hk
  simpa using this
theorem Uy (may:S36→Bool) (l:List S36):∀ p,Zn may ltH (some p) l=true↔((∀ x ∈ l,may x=true)∧(p :: l).Pairwise (fun x y=>ltH x y=true)):=by
  induction l with
  |nil=>intro p;simp[Zn]
  |cons x l ih=>
    intro p
    simp only[Zn,Bool.and_eq_true]
    rw[ih x]
    simp only[List.pairwise_cons,List.mem_cons,forall_eq_or_imp]
    constructor
    · rintro⟨⟨h1,O⟩,Y,h4,J⟩
      exact⟨⟨h1,Y⟩,⟨O,fun y hy=>Me O (h4 y hy)⟩,h4,J⟩
    · rintro⟨⟨h1,Y⟩,⟨O,_⟩,h4,J⟩
      exact⟨⟨h1,O⟩,Y,h4,J⟩
theorem Gb (may:S36→Bool) (l:List S36):Zn may ltH none l=true↔((∀ x ∈ l,may x=true)∧l.Pairwise (fun x y=>ltH x y=true)):=by
  cases l with
  |nil=>simp[Zn]
  |cons x l=>
    simp only[Zn,Bool.and_eq_true]
    rw[Uy]
    simp only[List.mem_cons,forall_eq_or_imp]
    constructor
    · rintro⟨h1,O,Y⟩
      exact⟨⟨h1,O⟩,Y⟩
    · rintro⟨⟨h1,O⟩,Y⟩
      exact⟨h1,O,Y⟩
abbrev qI (Y:Int) (x:S86):Bool:=Yb (Yi Y) (Yh Y) x.f0 x.f1==0
def ltI (x y:S86):Bool:=decide (Yb x.f0 x.f1 y.f0 y.f1<0)
theorem Ep (x y:S86):ltI x y=true↔(x.f0<y.f0∨(x.f0=y.f0∧x.f1<y.f1)):=by
  unfold ltI
  rw[decide_eq_true_iff,Ky]
theorem Md {x y z:S86} (h1:ltI x y=true) (O:ltI y z=true):ltI x z=true:=by
  rw[Ep] at *
  omega
theorem Ki (l:List S86) (i:Nat) (h:i<l.length):Qt l (i:Int)=l[i]:=by
  unfold Qt
  rw[Int.toNat_natCast,List.getD_eq_getElem?_getD,List.getElem?_eq_getElem h]
  rfl
theorem Mg (l:List S86) (Y:Int) (hm:l.length≤1000000000) (j:Nat):∀ (f i:Nat),i+j=l.length→j<f→api_Inside_100.l0 f l Y (l.length:Int) (i:Int)=some (Wt (qI Y) i (l.drop i)):=by
  induction j with
  |zero=>
    intro f i hi hf
    obtain⟨f,rfl⟩:∃ m,f=m+1:=⟨f-1,by omega⟩
    simp only[api_Inside_100.l0]
    rw[if_neg (by omega),List.drop_of_length_le (by omega)]
    rfl
  |succ j ih=>
    intro f i hi hf
    obtain⟨f,rfl⟩:∃ m,f=m+1:=⟨f-1,by omega⟩
    have ha:i<l.length:=by omega
    have ei:wrap64 ((i:Int)+1)=((i+1:Nat):Int):=by unfold wrap64;omega
    simp only[api_Inside_100.l0]
    rw[if_pos (by omega),if_pos (by omega),if_pos (by omega),Ki l i ha,ei,ih f (i+1) (by omega) (by omega)]
    unfold api_Inside_without_1.f
    simp only[Option.bind_some]
    rw[List.drop_eq_getElem_cons ha]
    simp only[Wt]
    by_cases h:qI Y l[i]=true
    · rw[if_pos h,if_pos h]
    · rw[if_neg h,if_neg h]
theorem Ex (l:List S86) (Y:Int) (hm:l.length≤1000000000) (k:Nat) (hk:l.length<k):api_Inside_100.f k l Y=some (Wt (qI Y) 0 l):=by
  unfold api_Inside_100.f
  have:=Mg l Y hm l.length k 0 (by omega) hk
  simpa using this
theorem Mk (l:List S86) (Y:Int) (hm:l.length≤1000000000) (j:Nat):∀ (f:Nat) (x:List S86) (i m:Nat),x.length=l.length→m+j=l.length→i≤m→j<f→x.drop m=l.drop m→x.take i=(l.take m).filter (fun y=> !qI Y y) →
    api_Inside_90.l0 f x Y (i:Int) (m:Int)=some (l.filter (fun y=> !qI Y y)):=by
  induction j with
  |zero=>
    intro f x i m hx hj him hf hd ht
    obtain⟨f,rfl⟩:∃ m,f=m+1:=⟨f-1,by omega⟩
    simp only[api_Inside_90.l0]
    rw[if_neg (by omega),if_pos (by omega),if_pos (by omega),Int.toNat_natCast,ht,List.take_of_length_le (by omega)]
  |succ j ih=>
    intro f x i m hx hj him hf hd ht
    obtain⟨f,rfl⟩:∃ m,f=m+1:=⟨f-1,by omega⟩
    have ha:m<l.length:=by omega
    have hax:m<x.length:=by omega
    have em:wrap64 ((m:Int)+1)=((m+1:Nat):Int):=by unfold wrap64;omega
    have ei:wrap64 ((i:Int)+1)=((i+1:Nat):Int):=by unfold wrap64;omega
    have hxm:x[m]=l[m]:=by
      have h1:=List.drop_eq_getElem_cons hax
      have O:=List.drop_eq_getElem_cons ha
      rw[hd,O] at h1
      exact(List.cons.inj h1).1.symm
    have γ:x.drop (m+1)=l.drop (m+1):=by
      have h1:=List.drop_eq_getElem_cons hax
      have O:=List.drop_eq_getElem_cons ha
      rw[hd,O] at h1
      exact(List.cons.inj h1).2.symm
    have B:(l.take (m+1)).filter (fun y=> !qI Y y)=(l.take m).filter (fun y=> !qI Y y) ++ [l[m]].filter (fun y=> !qI Y y):=by
      rw[List.take_succ_eq_append_getElem ha,List.filter_append]
    simp only[api_Inside_90.l0]
    rw[if_pos (by omega),if_pos (by omega),Ki x m hax,hxm,em,ei]
    unfold api_Inside_without_1.f
    simp only[Option.bind_some]
    by_cases h:qI Y l[m]=true
    · rw[if_pos h]
      refine ih f x i (m+1) hx (by omega) (by omega) (by omega) γ ?_
      rw[B,ht]
      simp only[List.filter_cons,List.filter_nil]
      rw[if_neg (by rw[h];decide),List.append_nil]
    · have hf':qI Y l[m]=false:=by simpa using h
      rw[if_neg h,if_pos (by omega),if_pos (by omega),Int.toNat_natCast]
      refine ih f (x.set i _) (i+1) (m+1) (by rw[List.length_set];exact hx) (by omega) (by omega) (by omega) ?_ ?_
      · rw[List.drop_set_of_lt (by omega)]
        exact γ
      · rw[B]
        simp only[List.filter_cons,List.filter_nil]
        rw[if_pos (by rw[hf'];rfl),List.take_succ_eq_append_getElem (by rw[List.length_set];omega),List.getElem_set_self,List.take_set_of_le (by omega),ht]
theorem E2 (l:List S86) (Y:Int) (hm:l.length≤1000000000) (k:Nat) (hk:l.length+5<k):api_Inside_90.f k l Y=some (l.filter (fun y=> !qI Y y)):=by
  unfold api_Inside_90.f
  rw[Ex l Y hm k (by omega)]
  simp only[Option.bind_some]
  rcases Mf (qI Y) l 0 with⟨e,ha⟩|⟨i,hi,e,ht,ha⟩
  · rw[e,if_pos rfl]
    congr 1
    exact(List.filter_eq_self.2 (fun y hy=>by rw[ha y hy];rfl)).symm
  · rw[e,Nat.zero_add,if_neg (by omega)]
    have ei:wrap64 ((i:Int)+1)=((i+1:Nat):Int):=by unfold wrap64;omega
    rw[ei]
    refine Mk l Y hm (l.length - (i+1)) k l i (i+1) rfl (by omega) (by omega) (by omega) rfl ?_
    rw[List.take_succ_eq_append_getElem hi,List.filter_append]
    simp only[List.filter_cons,List.filter_nil]
    rw[if_neg (by rw[ht];decide),List.append_nil]
    exact(List.filter_eq_self.2 (fun y hy=>by rw[ha y hy];rfl)).symm
theorem Ux (l:List S86) (Y tok_:Int) (hm:l.length≤1000000000) (j:Nat):∀ (f i:Nat),i+j=l.length→2 * j<f→api_Inside_right.l0 f Y l (l.length:Int) (i:Int) l tok_=some (Zn (fun x=>K5 (Yi Y) (Yh Y) x.f0 x.f1) ltI (if i=0 then none else l[i-1]?) (l.drop i)):=by
  induction j with
  |zero=>
    intro f i hi hf
    obtain⟨f,rfl⟩:∃ m,f=m+1:=⟨f-1,by omega⟩
    simp only[api_Inside_right.l0]
    rw[if_neg (by omega),List.drop_of_length_le (by omega)]
    cases(if i=0 then none else l[i-1]?) <;> rfl
  |succ j ih=>
    intro f i hi hf
    obtain⟨f,rfl⟩:∃ m,f=m+2:=⟨f-2,by omega⟩
    have ha:i<l.length:=by omega
    have ei:wrap64 ((i:Int)+1)=((i+1:Nat):Int):=by unfold wrap64;omega
    have jt:api_Inside_right.j1 (f+1) Y l (l.length:Int) (i:Int) true l tok_=some false:=by simp[api_Inside_right.j1]
    have jf:api_Inside_right.j1 (f+1) Y l (l.length:Int) (i:Int) false l tok_=some (Zn (fun x=>K5 (Yi Y) (Yh Y) x.f0 x.f1) ltI (some l[i]) (l.drop (i+1))):=by
      simp only[api_Inside_right.j1]
      rw[if_neg (by decide),ei,ih f (i+1) (by omega) (by omega),if_neg (by omega),Nat.add_sub_cancel,List.getElem?_eq_getElem ha]
    simp only[api_Inside_right.l0]
    rw[if_pos (by omega),if_pos (by omega),if_pos (by omega),Ki l i ha]
    unfold call_inside_1.f
    simp only[Option.bind_some]
    rw[List.drop_eq_getElem_cons ha]
    by_cases h1:K5 (Yi Y) (Yh Y) l[i].f0 l[i].f1=true
    · rw[if_pos h1]
      by_cases X:i=0
      · subst X
        rw[if_neg (by omega),if_pos rfl,jf]
        simp only[Zn,h1,Bool.true_and]
      · have ep:wrap64 ((i:Int)-1)=((i-1:Nat):Int):=by unfold wrap64;omega
        rw[if_pos (by omega),ep,if_pos (by omega),if_pos (by omega),Ki l (i-1) (by omega),if_neg X,List.getElem?_eq_getElem (by omega)]
        unfold call_ins_1.f
        simp only[Option.bind_some]
        simp only[Zn,h1,Bool.true_and]
        unfold ltI
        by_cases hc:Yb (l[i-1]'(by omega)).f0 (l[i-1]'(by omega)).f1 l[i].f0 l[i].f1<0
        · rw[decide_eq_false (by omega),decide_eq_true hc,jf,Bool.true_and]
          rfl
        · rw[decide_eq_true (by omega),decide_eq_false hc,jt,Bool.false_and]
    · have h1':K5 (Yi Y) (Yh Y) l[i].f0 l[i].f1=false:=by simpa using h1
      rw[if_neg h1,jt]
      by_cases X:i=0
      · rw[if_pos X]
        simp only[Zn,h1',Bool.false_and]
      · rw[if_neg X,List.getElem?_eq_getElem (by omega)]
        simp only[Zn,h1',Bool.false_and]
theorem Lx (l:List S86) (Y tok_:Int) (hm:l.length≤1000000000) (k:Nat) (hk:2 * l.length<k):api_Inside_right.f k l tok_ Y=some (Zn (fun x=>K5 (Yi Y) (Yh Y) x.f0 x.f1) ltI none l):=by
  unfold api_Inside_right.f
  have:=Ux l Y tok_ hm l.length k 0 (by omega) hk
  simpa using this
theorem Uv (may:S86→Bool) (l:List S86):∀ p,Zn may ltI (some p) l=true↔((∀ x ∈ l,may x=true)∧(p :: l).Pairwise (fun x y=>ltI x y=true)):=by
  induction l with
  |nil=>intro p;simp[Zn]
  |cons x l ih=>
    intro p
    simp only[Zn,Bool.and_eq_true]
    rw[ih x]
    simp only[List.pairwise_cons,List.mem_cons,forall_eq_or_imp]
    constructor
    · rintro⟨⟨h1,O⟩,Y,h4,J⟩
      exact⟨⟨h1,Y⟩,⟨O,fun y hy=>Md O (h4 y hy)⟩,h4,J⟩
    · rintro⟨⟨h1,Y⟩,⟨O,_⟩,h4,J⟩
      exact⟨⟨h1,O⟩,Y,h4,J⟩
theorem Uw (may:S86→Bool) (l:List S86):Zn may ltI none l=true↔((∀ x ∈ l,may x=true)∧l.Pairwise (fun x y=>ltI x y=true)):=by
  cases l with
  |nil=>simp[Zn]
  |cons x l=>
    simp only[Zn,Bool.and_eq_true]
    rw[Uv]
    simp only[List.mem_cons,forall_eq_or_imp]
    constructor
    · rintro⟨h1,O,Y⟩
      exact⟨⟨h1,O⟩,Y⟩
    · rintro⟨⟨h1,O⟩,Y⟩
      exact⟨h1,O,Y⟩
end Go.Proofs.Ytmfffemidlhcpaa.Call
namespace Go.Proofs.Ytmfffemidlhcpaa.C
open Go.RowKit Go.Proofs.YtmfffemidlhcpaaW.PrintWords Go.Proofs.YtmfffemidlhcpaaW.PrintLast Go.Proofs.YtmfffemidlhcpaaW.PrintMore
attribute [local go_sem] Zv Zt Z6 Z5 Zk Zj Zu Zs
set_option linter.unusedVariables false
set_option linter.unusedSimpArgs false
def newellaw19_Own.f (B:List (S36)) (O:List (S86)):Option ((List (S36))×(List (S86))):=(some (([]:List (S36)):List (S36))).bind fun ρ=>(if ρ.length+B.length<5864062014805 then ((some (([]:List (S86)):List (S86))).bind fun ζ =>(if ζ.length+O.length<8796093022208 then (some ((ρ++B),(ζ ++ O))) else (none))) else (none))
def newellaw19_Own.T1:Bool×List (List Nat×List Nat):=(true,[([],[]),([],[]),([1],[1]),([0,2],[0,2]),([],[]),([],[]),([5],[5]),([4,6,3],[4,6]),([3,7],[3,7]),([8,7,0,1,2,3,4,5,6,7,8],[8])])
def newellaw19_Own.B1:List Nat:=[0,0,2,7,0,0,32,127,255,511]
theorem newellaw19_Own.Kp:rtab .any (opsOf Try.f15 1)=newellaw19_Own.T1:=by kernel_rfl
theorem newellaw19_Own.Y7:Zq newellaw19_Own.T1.2 newellaw19_Own.B1=true:=by kernel_rfl
set_option maxHeartbeats 8000000 in
set_option maxRecDepth 100000 in
theorem newellaw19_Own.calls (τ :Option Addr) (ν :Nat) (B:List (S36)) (γ:Option Addr) (δ :Nat) (O:List (S86)) (r1:List (S36)) (r2:List (S86)) (w:World) (χ :Kd.C k36 w τ B.length B) (a0:B.length ≤ ν) (φ :Kd.C k86 w γ O.length O) (ψ :O.length ≤ δ) (h:newellaw19_Own.f B O=some (r1,r2)):
  Calls Try.prog 15 #[.agg #[.slice τ B.length ν,.slice γ O.length δ]] w fun e w'=>∃ bg e4:Value,e = .returned (.agg #[bg,e4])∧Kd.R k36 36 w' w.heap.size (fun _=>True) bg r1∧Kd.R k86 86 w' w.heap.size (fun _=>True) e4 r2∧Below w.heap.size w w':=by
 have ey:=Try.underlying50
 have ae:=Aside0.mk χ
 have ay:=Aside0.mk a0
 clear χ a0
 have ao:=Aside0.mk φ
 have ax:=Aside0.mk ψ
 clear φ ψ
 have HB:=Aside0.mk (Below.refl w.heap.size w)
 have H:((some (([]:List (S36)):List (S36))).bind fun ρ=>(if ρ.length+B.length<5864062014805 then ((some (([]:List (S86)):List (S86))).bind fun ζ =>(if ζ.length+O.length<8796093022208 then (some ((ρ++B),(ζ ++ O))) else (none))) else (none)))=some (r1,r2):=h
 clear h
 obtain⟨ρ,a9⟩:∃ y_:List (S36),y_=(([]:List (S36))):=⟨_,rfl⟩
 replace H:(if ρ.length+B.length<5864062014805 then ((some (([]:List (S86)):List (S86))).bind fun ζ =>(if ζ.length+O.length<8796093022208 then (some ((ρ++B),(ζ ++ O))) else (none))) else (none))=some (r1,r2):=by first|(rw[a9];with_reducible exact H)|(have an:=(Option.bind_some _ _).symm.trans H;rw[a9];with_reducible exact an)|(have an:=(Option.bind_some _ _).symm.trans H;with_reducible exact an)|with_reducible exact H|(rw[a9];exact H)|exact H
 have aj:=Aside0.mk a9
 clear a9
 by_cases c2:ρ.length+B.length<5864062014805
 ·rw[if_pos c2] at H
  have av:=Aside0.mk c2
  clear c2
  obtain⟨a7,aa⟩:∃ y_:List (S36),y_=(ρ++B):=⟨_,rfl⟩
  replace H:((some (([]:List (S86)):List (S86))).bind fun ζ =>(if ζ.length+O.length<8796093022208 then (some (a7,(ζ ++ O))) else (none)))=some (r1,r2):=by first|(rw[aa];with_reducible exact H)|(have an:=(Option.bind_some _ _).symm.trans H;rw[aa];with_reducible exact an)|(have an:=(Option.bind_some _ _).symm.trans H;with_reducible exact an)|with_reducible exact H|(rw[aa];exact H)|exact H
  have am:=Aside0.mk aa
  clear aa
  obtain⟨ζ,ag⟩:∃ y_:List (S86),y_=(([]:List (S86))):=⟨_,rfl⟩
  replace H:(if ζ.length+O.length<8796093022208 then (some (a7,(ζ ++ O))) else (none))=some (r1,r2):=by first|(rw[ag];with_reducible exact H)|(have an:=(Option.bind_some _ _).symm.trans H;rw[ag];with_reducible exact an)|(have an:=(Option.bind_some _ _).symm.trans H;with_reducible exact an)|with_reducible exact H|(rw[ag];exact H)|exact H
  have a6:=Aside0.mk ag
  clear ag
  by_cases c3: ζ.length+O.length<8796093022208
  ·rw[if_pos c3] at H
   have ba:=Aside0.mk c3
   clear c3
   obtain⟨b3,ah⟩:∃ y_:List (S86),y_=(ζ ++ O):=⟨_,rfl⟩
   replace H:(some (a7,b3))=some (r1,r2):=by first|(rw[ah];with_reducible exact H)|(have an:=(Option.bind_some _ _).symm.trans H;rw[ah];with_reducible exact an)|(have an:=(Option.bind_some _ _).symm.trans H;with_reducible exact an)|with_reducible exact H|(rw[ah];exact H)|exact H
   have b4:=Aside0.mk ah
   clear ah
   simp only[Option.some.injEq,Prod.mk.injEq] at H
   obtain⟨rfl,rfl⟩:=H
   go_enter Try.func15,Try.ntmps15
   try go_wp2_with (first|((with_reducible refine Qf (N:=1) rfl ?_);refine qE 1 #[.slice τ B.length ν,.slice γ O.length δ] 50 ?_;intro θ hg w4 hbox hb;have J:=Aside0.mk hbox;have bf:=sGe hg;have bh:=sGe hg;replace HB:=sHb hb;clear hb hbox hg)|((with_reducible refine Qf (N:=2) rfl ?_);refine qE 2 #[.slice none 0 0,.slice none 0 0] 50 ?_;intro η hg w5 hbox hb;have X:=Aside0.mk hbox;have bi:=sGe hg;have bj:=sGe hg;have κ :=sNl J hg;have ai:=sNg J hg;replace J:=sBk J hb;replace HB:=sHb hb;clear hb hbox hg))
   replace J:=Aside0.mk (Qe J.out)
   replace X:=Aside0.mk (Qe X.out)
   replace HB:=Aside0.mk (Qg HB.out)
   refine Zh (n:=10) (S:=fun w'=>w'.cell? ⟨θ,0,none⟩=some (.slice τ B.length ν)∧w'.cell? ⟨θ,1,none⟩=some (.slice γ O.length δ)) (ds:=[]) #[false,false,false,false,false,false,false,false,false,false] kr rfl rfl ⟨(Qa J.out 0).trans rfl,(Qa J.out 1).trans rfl⟩ (fun hHeld=>?_);refine Q8 newellaw19_Own.Kp newellaw19_Own.Y7 (fun HT_ HW_=>?_)
   generalize w5.drew=w6 at J X HB hHeld ⊢
   refine qP 1 (some 4) (bN 10 2) HT_ ?_
   refine qP 5 (some 8) (bN 10 34) HT_ ?_
   refine qT 2 (some 5) (bN 10 38) HT_ HW_ hHeld ?_
   refine qT 6 (some 9) (bN 10 102) HT_ HW_ hHeld ?_
   refine X7 (σ:=Value×Value×Value) 3 (bN 10 127) (fun s_=>[(3,s_.1),(6,s_.2.1),(7,s_.2.2)]) (fun s_ w'=>(w'.cell? ⟨θ,0,none⟩=some (.slice τ B.length ν)∧w'.cell? ⟨θ,1,none⟩=some (.slice γ O.length δ))∧(Kd.R k36 36 w' w.heap.size (fun _=>True) s_.2.1 a7)∧(Kd.R k86 86 w' w.heap.size (fun _=>True) s_.2.2 ζ)∧(w'.heap[θ]?=some (.cells #[.slice τ B.length ν,.slice γ O.length δ] 50 (0,0)))∧(w'.heap[η]?=some (.cells #[.slice none 0 0,.slice none 0 0] 50 (0,0)))∧(Below w.heap.size w w')) ?_ ?_
   rotate_left
   ·intro hCont
    refine J8 (i:=0) (j:=4) (Ni:=some 3) (Nj:=some 7) (bN 10 103) (bN 10 118) rfl rfl rfl rfl (Xt HT_.out kr) (by decide) (by decide) (fun K hK=>?_) (fun K hK=>?_)
    ·skip
     refine Kd.Zp k36 _ 36 ?hg (N:=3) ?hd (xs:=([]:List (S36))) (inner:=[]) (ok:=fun _=>True) (okp:=fun _=>True) ?hr ?hp (fun _ hk=>hk) trivial (Below.refl _ _) (Nat.le_refl _) (by simp) ?_;(case hd=>rfl);(case hg=>rfl);(case hr=>go_simp <;> rfl);(case hp=>exact(Reps.none _ _))
     intro ω w7 a1 hb hg_ hnew_
     clear hg_ hnew_
     (first|rw[← aj.out] at a1|(simp only[Int.reduceToNat] at a1;rw[← aj.out] at a1))
     have Z:=Aside0.mk (Kd.Q3 a1 (Qh HB.out))
     replace J:=sBk J hb
     replace X:=sBk X hb
     replace HB:=sHb hb
     clear hb a1
     refine hK.out _ _ ⟨qc J,qc J⟩ (fun hHeld=>?_)
     clear hK K
     refine qN (some 3) ?_
     refine J8 (i:=3) (j:=4) (Ni:=some 6) (Nj:=some 7) (bN 10 111) (bN 10 119) rfl rfl rfl rfl (Xt HT_.out kr) (by decide) (by decide) (fun K hK=>?_) (fun K hK=>?_)
     ·skip
      refine Kd.Zc k36 (w0:=w) w.heap.size (by rfl) (.tmp 3) (.tmp 5) 47 36 (.agg #[(.int .i64 0),(.int .i64 0),(.int .i64 0)]) 24 rfl Try.underlying47 Jy rfl (by decide) (by omega) ω ρ B _ _ _ (fun _=>True) (fun _=>False) rfl rfl ?aO ?aR (fun _ _ h=>h) (fun _ h=>h.elim) ?aF ?aB ?aS ?aL ?_
      (case aR=>exact(Kd.Qv ae.out HB.out))
      (case aB=>exact HB.out)
      (case aF=>exact(fun _ _=>trivial))
      (case aO=>exact Z.out)
      (case aS=>exact(Qh HB.out))
      (case aL=>have:=av.out;omega)
      intro a8 w9 ho hb hg hat
      rw[← am.out] at ho
      have ι :=Aside0.mk ho
      replace J:=Aside0.mk (Q2 (g:= θ) (o:=.cells #[.slice τ B.length ν,.slice γ O.length δ] 50 (0,0)) J.out hg (Kd.Z4 Z.out J.out (by decide)))
      replace X:=Aside0.mk (Q2 (g:= η) (o:=.cells #[.slice none 0 0,.slice none 0 0] 50 (0,0)) X.out hg (Kd.Z4 Z.out X.out (by decide)))
      replace HB:=Aside0.mk hb
      clear Z
      clear ho hb hg hat
      refine hK.out _ _ ⟨qc J,qc J⟩ (fun hHeld=>?_)
      clear hK K
      refine qN (some 6) ?_
      refine qK 4 (some 7) (bN 10 127) HT_ fun K hK=>?_
      refine Kd.Zp k86 _ 86 ?hg (N:=7) ?hd (xs:=([]:List (S86))) (inner:=[]) (ok:=fun _=>True) (okp:=fun _=>True) ?hr ?hp (fun _ hk=>hk) trivial (Below.refl _ _) (Nat.le_refl _) (by simp) ?_;(case hd=>rfl);(case hg=>rfl);(case hr=>go_simp <;> rfl);(case hp=>exact(Reps.none _ _))
      intro a5 ni ak hb hg_ hnew_
      clear hg_ hnew_
      (first|rw[← a6.out] at ak|(simp only[Int.reduceToNat] at ak;rw[← a6.out] at ak))
      have ε :=Aside0.mk (Kd.Q3 ak (Qh HB.out))
      replace ι :=sRb ι hb
      replace J:=sBk J hb
      replace X:=sBk X hb
      replace HB:=sHb hb
      clear hb ak
      refine hK.out _ _ ⟨qc J,qc J⟩ (fun hHeld=>?_)
      clear hK K
      refine qN (some 7) ?_
      exact Ze (by simp only[Q6,Act.put,qS]) (hCont (ω,a8,a5) _ ⟨hHeld,ι.out,ε.out,J.out,X.out,HB.out⟩)
     ·skip
      refine Kd.Zp k86 _ 86 ?hg (N:=7) ?hd (xs:=([]:List (S86))) (inner:=[]) (ok:=fun _=>True) (okp:=fun _=>True) ?hr ?hp (fun _ hk=>hk) trivial (Below.refl _ _) (Nat.le_refl _) (by simp) ?_;(case hd=>rfl);(case hg=>rfl);(case hr=>go_simp <;> rfl);(case hp=>exact(Reps.none _ _))
      intro a5 w9 Y hb hg_ hnew_
      clear hg_ hnew_
      (first|rw[← a6.out] at Y|(simp only[Int.reduceToNat] at Y;rw[← a6.out] at Y))
      have ε :=Aside0.mk (Kd.Q3 Y (Qh HB.out))
      replace Z:=sRb Z hb
      replace J:=sBk J hb
      replace X:=sBk X hb
      replace HB:=sHb hb
      clear hb Y
      refine hK.out _ _ ⟨qc J,qc J⟩ (fun hHeld=>?_)
      clear hK K
      refine qN (some 7) ?_
      refine qK 3 (some 6) (bN 10 127) HT_ fun K hK=>?_
      refine Kd.Zc k36 (w0:=w) w.heap.size (by rfl) (.tmp 3) (.tmp 5) 47 36 (.agg #[(.int .i64 0),(.int .i64 0),(.int .i64 0)]) 24 rfl Try.underlying47 Jy rfl (by decide) (by omega) ω ρ B _ _ _ (fun _=>True) (fun _=>False) rfl rfl ?aO ?aR (fun _ _ h=>h) (fun _ h=>h.elim) ?aF ?aB ?aS ?aL ?_
      (case aR=>exact(Kd.Qv ae.out HB.out))
      (case aB=>exact HB.out)
      (case aF=>exact(fun _ _=>trivial))
      (case aO=>exact Z.out)
      (case aS=>exact(Qh HB.out))
      (case aL=>have:=av.out;omega)
      intro a8 ec ho hb hg hat
      rw[← am.out] at ho
      have ι :=Aside0.mk ho
      replace J:=Aside0.mk (Q2 (g:= θ) (o:=.cells #[.slice τ B.length ν,.slice γ O.length δ] 50 (0,0)) J.out hg (Kd.Z4 Z.out J.out (by decide)))
      replace X:=Aside0.mk (Q2 (g:= η) (o:=.cells #[.slice none 0 0,.slice none 0 0] 50 (0,0)) X.out hg (Kd.Z4 Z.out X.out (by decide)))
      replace ε :=Aside0.mk (Kd.Y9 ε.out (Kd.Y8 Z.out) (by decide) hg)
      replace HB:=Aside0.mk hb
      clear Z
      clear ho hb hg hat
      refine hK.out _ _ ⟨qc J,qc J⟩ (fun hHeld=>?_)
      clear hK K
      refine qN (some 6) ?_
      exact Ze (by simp only[Q6,Act.put,qS]) (hCont (ω,a8,a5) _ ⟨hHeld,ι.out,ε.out,J.out,X.out,HB.out⟩)
    ·skip
     refine Kd.Zp k86 _ 86 ?hg (N:=7) ?hd (xs:=([]:List (S86))) (inner:=[]) (ok:=fun _=>True) (okp:=fun _=>True) ?hr ?hp (fun _ hk=>hk) trivial (Below.refl _ _) (Nat.le_refl _) (by simp) ?_;(case hd=>rfl);(case hg=>rfl);(case hr=>go_simp <;> rfl);(case hp=>exact(Reps.none _ _))
     intro a5 w7 a1 hb hg_ hnew_
     clear hg_ hnew_
     (first|rw[← a6.out] at a1|(simp only[Int.reduceToNat] at a1;rw[← a6.out] at a1))
     have ε :=Aside0.mk (Kd.Q3 a1 (Qh HB.out))
     replace J:=sBk J hb
     replace X:=sBk X hb
     replace HB:=sHb hb
     clear hb a1
     refine hK.out _ _ ⟨qc J,qc J⟩ (fun hHeld=>?_)
     clear hK K
     refine qN (some 7) ?_
     refine qK 0 (some 3) (bN 10 119) HT_ fun K hK=>?_
     refine Kd.Zp k36 _ 36 ?hg (N:=3) ?hd (xs:=([]:List (S36))) (inner:=[]) (ok:=fun _=>True) (okp:=fun _=>True) ?hr ?hp (fun _ hk=>hk) trivial (Below.refl _ _) (Nat.le_refl _) (by simp) ?_;(case hd=>rfl);(case hg=>rfl);(case hr=>go_simp <;> rfl);(case hp=>exact(Reps.none _ _))
     intro ω w9 Y hb hg_ hnew_
     clear hg_ hnew_
     (first|rw[← aj.out] at Y|(simp only[Int.reduceToNat] at Y;rw[← aj.out] at Y))
     have Z:=Aside0.mk (Kd.Q3 Y (Qh HB.out))
     replace ε :=sRb ε hb
     replace J:=sBk J hb
     replace X:=sBk X hb
     replace HB:=sHb hb
     clear hb Y
     refine hK.out _ _ ⟨qc J,qc J⟩ (fun hHeld=>?_)
     clear hK K
     refine qN (some 3) ?_
     refine qK 3 (some 6) (bN 10 127) HT_ fun K hK=>?_
     refine Kd.Zc k36 (w0:=w) w.heap.size (by rfl) (.tmp 3) (.tmp 5) 47 36 (.agg #[(.int .i64 0),(.int .i64 0),(.int .i64 0)]) 24 rfl Try.underlying47 Jy rfl (by decide) (by omega) ω ρ B _ _ _ (fun _=>True) (fun _=>False) rfl rfl ?aO ?aR (fun _ _ h=>h) (fun _ h=>h.elim) ?aF ?aB ?aS ?aL ?_
     (case aR=>exact(Kd.Qv ae.out HB.out))
     (case aB=>exact HB.out)
     (case aF=>exact(fun _ _=>trivial))
     (case aO=>exact Z.out)
     (case aS=>exact(Qh HB.out))
     (case aL=>have:=av.out;omega)
     intro a8 ec ho hb hg hat
     rw[← am.out] at ho
     have ι :=Aside0.mk ho
     replace J:=Aside0.mk (Q2 (g:= θ) (o:=.cells #[.slice τ B.length ν,.slice γ O.length δ] 50 (0,0)) J.out hg (Kd.Z4 Z.out J.out (by decide)))
     replace X:=Aside0.mk (Q2 (g:= η) (o:=.cells #[.slice none 0 0,.slice none 0 0] 50 (0,0)) X.out hg (Kd.Z4 Z.out X.out (by decide)))
     replace ε :=Aside0.mk (Kd.Y9 ε.out (Kd.Y8 Z.out) (by decide) hg)
     replace HB:=Aside0.mk hb
     clear Z
     clear ho hb hg hat
     refine hK.out _ _ ⟨qc J,qc J⟩ (fun hHeld=>?_)
     clear hK K
     refine qN (some 6) ?_
     exact Ze (by simp only[Q6,Act.put,qS]) (hCont (ω,a8,a5) _ ⟨hHeld,ι.out,ε.out,J.out,X.out,HB.out⟩)
   rintro⟨ω,a8,a5⟩ he ⟨hS_,b5,b6,b7,b8,b9⟩
   have μ :Aside0 (Kd.R k36 36 he w.heap.size (fun _=>True) a8 a7):=⟨b5⟩
   have ξ :Aside0 (Kd.R k86 86 he w.heap.size (fun _=>True) a5 ζ):=⟨b6⟩
   have a3:Aside0 (he.heap[θ]?=some (.cells #[.slice τ B.length ν,.slice γ O.length δ] 50 (0,0))):=⟨b7⟩
   have a4:Aside0 (he.heap[η]?=some (.cells #[.slice none 0 0,.slice none 0 0] 50 (0,0))):=⟨b8⟩
   have al:Aside0 (Below w.heap.size w he):=⟨b9⟩
   clear J
   clear X
   clear HB
   clear b5 b6 b7 b8 b9
   have ι := μ
   have ε := ξ
   have J:=a3
   have X:=a4
   have HB:=al
   clear μ ξ a3 a4 al
   have hHeld:he.cell? ⟨θ,0,none⟩=some (.slice τ B.length ν)∧he.cell? ⟨θ,1,none⟩=some (.slice γ O.length δ):=hS_
   refine Ze (a':=?_) ?_ ?_
   rotate_left
   ·simp only[Q6,Act.put,qS]
    rfl
   refine qK 7 (some 10) (bN 10 255) HT_ fun K hK=>?_
   refine Kd.Zc k86 (w0:=w) w.heap.size (by rfl) (.tmp 7) (.tmp 9) 48 86 (.agg #[(.int .i64 0),(.int .i64 0)]) 16 rfl Try.underlying48 K6 rfl (by decide) (by omega) a5 ζ O _ _ _ (fun _=>True) (fun _=>False) rfl rfl ?aO ?aR (fun _ _ h=>h) (fun _ h=>h.elim) ?aF ?aB ?aS ?aL ?_
   (case aR=>exact(Kd.Qv ao.out HB.out))
   (case aB=>exact HB.out)
   (case aF=>exact(fun _ _=>trivial))
   (case aO=>exact ε.out)
   (case aS=>exact(Qh HB.out))
   (case aL=>have:=ba.out;omega)
   intro bl ch ho hb hg hat
   rw[← b4.out] at ho
   have b0:=Aside0.mk ho
   replace J:=Aside0.mk (Q2 (g:= θ) (o:=.cells #[.slice τ B.length ν,.slice γ O.length δ] 50 (0,0)) J.out hg (Kd.Z4 ε.out J.out (by decide)))
   replace X:=Aside0.mk (Q2 (g:= η) (o:=.cells #[.slice none 0 0,.slice none 0 0] 50 (0,0)) X.out hg (Kd.Z4 ε.out X.out (by decide)))
   replace ι :=Aside0.mk (Kd.Y9 ι.out (Kd.Y8 ε.out) (by decide) hg)
   replace HB:=Aside0.mk hb
   clear ε
   clear ho hb hg hat
   obtain⟨m6,m7,ks⟩:=Kd.Q5 b0.out
   (first|subst ks|(injection ks with ab ap ac;have ar:=ab.symm;have au:=ac.symm;clear ab ap ac;subst ar;subst au))
   obtain⟨aw,az,af⟩:=Kd.Q5 ι.out
   (first|subst af|(injection af with ab ap ac;have ar:=ab.symm;have au:=ac.symm;clear ab ap ac;subst ar;subst au))
   refine hK.out _ _ ⟨qc J,qc J⟩ (fun hHeld=>?_)
   clear hK K
   refine qN (some 10) ?_
   refine qP 8 (some 11) (bN 10 511) HT_ ?_
   refine qK 9 (none) (bN 10 1023) HT_ fun K hK=>?_
   have bc:ch.cell? ⟨η,0,none⟩=some (.slice none 0 0):=(Qa X.out 0).trans rfl
   have bb:=Qb X.out 0
   have b1:= κ.out
   have b2:=ai.out
   have bm:ch.cell? ⟨η,1,none⟩=some (.slice none 0 0):=(Qa X.out 1).trans rfl
   have bk:=Qb X.out 1
   have bd:= κ.out
   have be:=ai.out
   refine Kq (w1:=?_) (by rfl) rfl ?_ ?_
   rotate_left
   ·go_simp
    rfl
   refine hK.out _ _ ⟨((cell_far (p:=⟨η,_,none⟩) κ.out _).trans (((cell_far (p:=⟨η,_,none⟩) κ.out _).trans (hHeld.1)))),((cell_far (p:=⟨η,_,none⟩) κ.out _).trans (((cell_far (p:=⟨η,_,none⟩) κ.out _).trans (hHeld.2))))⟩ (fun hHeld=>?_)
   clear hK K
   refine Z2 (Zf HT_.out kr) ?_
   try go_wp2
   refine bodyPost_ret (results_cell_row rfl _ _ η 50 #[.slice aw a7.length az,.slice m6 b3.length m7] (0,0) _ rfl (by refine Qq (cs:=#[.slice aw a7.length az,.slice none 0 0]) ?_ 1 _ rfl;refine Qq (cs:=#[.slice none 0 0,.slice none 0 0]) ?_ 0 _ rfl;exact X.out) Try.underlying50 rfl kr) rfl ?_
   exact⟨_,_,by first|rfl|(simp[Qk,Qj] <;> rfl)|(simp[*,Qk,Qj] <;> rfl),by(with_reducible repeat first|apply Kd.Qm|apply Kd.Ql|apply Kd.Qs);exact Kd.Qw (Kd.Qz (Kd.Qz (Kd.Q7 ι.out X.out (by decide)) (fun _ hk=>hk.2) _) (fun _ hk=>hk.2) _) (fun _ hk=>trivial),by(with_reducible repeat first|apply Kd.Qm|apply Kd.Ql|apply Kd.Qs);exact Kd.Qw (Kd.Qz (Kd.Qz (Kd.Q7 b0.out X.out (by decide)) (fun _ hk=>hk.2) _) (fun _ hk=>hk.2) _) (fun _ hk=>trivial),bel⟩
  ·rw[if_neg c3] at H
   exact absurd H (by simp)
 ·rw[if_neg c2] at H
  exact absurd H (by simp)
theorem eqA36 (d:Nat) (w:World) (B O:Int) (J X:Int) (Z Y:Int):
  (Op.equalIn (d+2) 36 (.agg #[.int .i64 B,.int .i64 J,.int .i64 Z]) (.agg #[.int .i64 O,.int .i64 X,.int .i64 Y])).run Try.prog w = .ok (B==O&&(J==X&&(Z==Y))) w:=by
 refine Nt Try.underlying36 kr ?_
 refine Gy (by rfl) (by go_simp;rfl) (by go_simp;rfl) (by go_simp) ?_
 refine Gy (by rfl) (by go_simp;rfl) (by go_simp;rfl) (by go_simp) ?_
 exact Wb (by rfl) (by go_simp;rfl) (by go_simp;rfl) (by go_simp)
theorem eqA86 (d:Nat) (w:World) (B O:Int) (J X:Int):
  (Op.equalIn (d+2) 86 (.agg #[.int .i64 B,.int .i64 J]) (.agg #[.int .i64 O,.int .i64 X])).run Try.prog w = .ok (B==O&&(J==X)) w:=by
 refine Nt Try.underlying86 kr ?_
 refine Gy (by rfl) (by go_simp;rfl) (by go_simp;rfl) (by go_simp) ?_
 exact Wb (by rfl) (by go_simp;rfl) (by go_simp;rfl) (by go_simp)
def group_house.f (J:Int) (O:Int) (X:Int) (Y:Int) (Z:Int) (δ :Int) (γ:Int) (θ :Int) (η :Int) (ζ :Int) (l1:List (S31)):Option (Int×Int):=some (J,(l1.length:Int))
set_option maxHeartbeats 8000000 in
set_option maxRecDepth 100000 in
theorem group_house.calls (J:Int) (O:Int) (X:Int) (Y:Int) (Z:Int) (δ :Int) (γ:Int) (θ :Int) (η :Int) (ζ :Int) (A1:Option Addr) (c1:Nat) (l1:List (S31)) (r1:Int) (r2:Int) (w:World) (cv:Kd.C k31 w A1 l1.length l1) (ct:l1.length≤c1) (h:group_house.f J O X Y Z δ γ θ η ζ l1=some (r1,r2)):
  Calls Try.prog 37 #[.agg #[.int .i64 J,.int .i64 O,.int .i64 X,.int .i64 Y,.int .i64 Z,.int .i64 δ,.int .i64 γ,.int .i64 θ,.int .i64 η,.int .i64 ζ],.slice A1 l1.length c1] w fun e w'=>e = .returned (.agg #[.int .i64 r1,.int .i64 r2])∧Below w.heap.size w w':=by
 have ew:=Try.underlying25
 have dp:=Try.underlying59
 have cu:=Aside0.mk cv
 have d4:=Aside0.mk ct
 clear cv ct
 have HB:=Aside0.mk (Below.refl w.heap.size w)
 have H:(some (J,(l1.length:Int)))=some (r1,r2):=h
 clear h
 simp only[Option.some.injEq,Prod.mk.injEq] at H
 obtain⟨rfl,rfl⟩:=H
 go_enter Try.func37,Try.ntmps37
 go_wp2_with (first|((with_reducible refine Qf (N:=2) rfl ?_);refine Zg ?hg (N:=2) ?hd (cs:=#[.int .i64 J,.int .i64 O,.int .i64 X,.int .i64 Y,.int .i64 Z,.int .i64 δ,.int .i64 γ,.int .i64 θ,.int .i64 η,.int .i64 ζ]) (t:=25) ?hr ?_;(case hd=>rfl);(case hg=>rfl);(case hr=>first|(go_simp;done)|(go_simp;rfl));intro B hg w3 hbox hb;have μ :=Aside0.mk (Q0 (by repeat(first|(with_reducible first|exact HB.out|apply Qu|apply Qi|apply Qg)|exact HB.out)) hb);have ξ :=Aside0.mk (hbox);have a3:=Aside0.mk ((by rw[hg];exact(Qh (by repeat(first|(with_reducible first|exact HB.out|apply Qu|apply Qi|apply Qg)|exact HB.out))):w.heap.size≤B));have a4:=Aside0.mk ((by rw[hg];exact(Qh (by repeat(first|(with_reducible first|exact HB.out|apply Qu|apply Qi|apply Qg)|exact HB.out))):w.heap.size≤B));clear HB;have HB:= μ;have ε := ξ;have ak:=a3;have κ :=a4;clear μ ξ a3 a4;clear hb hbox hg)|((with_reducible refine Qf (N:=4) rfl ?_);refine Zg ?hg (N:=4) ?hd (cs:=#[.int .i64 0,.int .i64 0]) (t:=59) ?hr ?_;(case hd=>rfl);(case hg=>rfl);(case hr=>first|(go_simp;done)|(go_simp;rfl));intro ι hg w4 hbox hb;have μ :=Aside0.mk (Qy (g:=B) (o:=.cells #[.int .i64 J,.int .i64 O,.int .i64 X,.int .i64 Y,.int .i64 Z,.int .i64 δ,.int .i64 γ,.int .i64 θ,.int .i64 η,.int .i64 ζ] 25 (0,0)) (by(with_reducible repeat first|refine Qn ?_ _|refine Qe ?_|refine Qo ?_ _);exact ε.out) hb);have ξ :=Aside0.mk (Q0 (by repeat(first|(with_reducible first|exact HB.out|apply Qu|apply Qi|apply Qg|refine Qx ?_ κ.out)|exact HB.out)) hb);have a3:=Aside0.mk (hbox);have a4:=Aside0.mk ((by rw[hg];exact(Qh (by repeat(first|(with_reducible first|exact HB.out|apply Qu|apply Qi|apply Qg|refine Qx ?_ κ.out)|exact HB.out))):w.heap.size ≤ ι));have al:=Aside0.mk ((by rw[hg];exact(Qh (by repeat(first|(with_reducible first|exact HB.out|apply Qu|apply Qi|apply Qg|refine Qx ?_ κ.out)|exact HB.out))):w.heap.size ≤ ι));have az:=Aside0.mk ((by rw[hg];exact Nat.ne_of_lt (Xi (g:=B) (o:=.cells #[.int .i64 J,.int .i64 O,.int .i64 X,.int .i64 Y,.int .i64 Z,.int .i64 δ,.int .i64 γ,.int .i64 θ,.int .i64 η,.int .i64 ζ] 25 (0,0)) (by(with_reducible repeat first|refine Qn ?_ _|refine Qe ?_|refine Qo ?_ _);exact ε.out)):B ≠ ι));have b3:=Aside0.mk ((by rw[hg];exact Nat.ne_of_gt (Xi (g:=B) (o:=.cells #[.int .i64 J,.int .i64 O,.int .i64 X,.int .i64 Y,.int .i64 Z,.int .i64 δ,.int .i64 γ,.int .i64 θ,.int .i64 η,.int .i64 ζ] 25 (0,0)) (by(with_reducible repeat first|refine Qn ?_ _|refine Qe ?_|refine Qo ?_ _);exact ε.out)): ι ≠ B));clear ε;clear HB;have ε := μ;have HB:= ξ;have σ:=a3;have am:=a4;have τ :=al;have ν :=az;have ρ:=b3;clear μ ξ a3 a4 al az b3;clear hb hbox hg;have an:= ν.out;have au:=ρ.out;obtain⟨ω,a1,φ,χ,ψ,a0,a7,a8,a9,aa,a5,a6,ab,ac,ae,af,ag,ah,ai,aj⟩:=Zl ε.out;obtain⟨ao,ap,ar,av⟩:=qD2 σ.out))
 refine bodyPost_ret (results_cell_row rfl _ _ ι 59 #[.int .i64 J,.int .i64 (l1.length:Int)] (0,0) _ rfl (by(with_reducible repeat first|refine Qn ?_ _|refine Qe ?_|refine Qo ?_ _);refine Qq (cs:=#[.int .i64 J,.int .i64 0]) ?_ 1 _ rfl;(with_reducible repeat first|refine Qn ?_ _|refine Qe ?_|refine Qo ?_ _);refine Qq (cs:=#[.int .i64 0,.int .i64 0]) ?_ 0 _ rfl;(with_reducible repeat first|refine Qn ?_ _|refine Qe ?_|refine Qo ?_ _);exact σ.out) Try.underlying59 rfl kr) rfl ?_
 exact⟨by first|rfl|(simp[Qk,Qj] <;> rfl)|(simp[*,Qk,Qj] <;> rfl),by repeat(first|(with_reducible first|exact HB.out|apply Qu|apply Qi|apply Qg|refine Qx ?_ κ.out|refine Qx ?_ τ.out)|exact HB.out)⟩
def newellaw17_Plain.f:Option (Int×Int×Int×Int×Int×Int×Int×Int×Int×Int):=some (4,2,1,2,4,1,2,3,4,0)
set_option maxHeartbeats 8000000 in
set_option maxRecDepth 100000 in
theorem newellaw17_Plain.calls  (r1:Int) (r2:Int) (r3:Int) (r4:Int) (J:Int) (O:Int) (X:Int) (Y:Int) (Z:Int) (B:Int) (w:World) (h:newellaw17_Plain.f=some (r1,r2,r3,r4,J,O,X,Y,Z,B)):
  Calls Try.prog 27 #[] w fun e w'=>e = .returned (.agg #[.int .i64 r1,.int .i64 r2,.int .i64 r3,.int .i64 r4,.int .i64 J,.int .i64 O,.int .i64 X,.int .i64 Y,.int .i64 Z,.int .i64 B])∧Below w.heap.size w w':=by
 have ew:=Try.underlying25
 have h5:=Try.underlying23
 have HB:=Aside0.mk (Below.refl w.heap.size w)
 have H:(some (4,2,1,2,4,1,2,3,4,0))=some (r1,r2,r3,r4,J,O,X,Y,Z,B):=h
 clear h
 simp only[Option.some.injEq,Prod.mk.injEq] at H
 obtain⟨rfl,rfl,rfl,rfl,rfl,rfl,rfl,rfl,rfl,rfl⟩:=H
 go_enter Try.func27,Try.ntmps27
 go_wp2_with (first|((with_reducible refine Qf (N:=0) rfl ?_);refine Zg ?hg (N:=0) ?hd (cs:=#[.int .i64 0,.int .i64 0,.int .i64 0,.int .i64 0,.int .i64 0,.int .i64 0,.int .i64 0,.int .i64 0,.int .i64 0,.int .i64 0]) (t:=25) ?hr ?_;(case hd=>rfl);(case hg=>rfl);(case hr=>first|(go_simp;done)|(go_simp;rfl));intro aa hg w1 hbox hb;have μ :=Aside0.mk (Q0 (by repeat(first|(with_reducible first|exact HB.out|apply Qu|apply Qi|apply Qg)|exact HB.out)) hb);have ξ :=Aside0.mk (hbox);have a3:=Aside0.mk ((by rw[hg];exact(Qh (by repeat(first|(with_reducible first|exact HB.out|apply Qu|apply Qi|apply Qg)|exact HB.out))):w.heap.size≤aa));have a4:=Aside0.mk ((by rw[hg];exact(Qh (by repeat(first|(with_reducible first|exact HB.out|apply Qu|apply Qi|apply Qg)|exact HB.out))):w.heap.size≤aa));clear HB;have HB:= μ;have ε := ξ;have l2:=a3;have jr:=a4;clear μ ξ a3 a4;clear hb hbox hg;obtain⟨γ,δ,ζ,η,θ,ι,κ,ν,ρ,σ,τ,φ,χ,ψ,ω,a0,a1,a5,a6,a7⟩:=Zl ε.out))
 refine bodyPost_ret (results_cell_row rfl _ _ aa 25 #[.int .i64 4,.int .i64 2,.int .i64 1,.int .i64 2,.int .i64 4,.int .i64 1,.int .i64 2,.int .i64 3,.int .i64 4,.int .i64 0] (0,0) _ rfl (by(with_reducible repeat first|refine Qn ?_ _|refine Qe ?_|refine Qo ?_ _);refine Qq (cs:=#[.int .i64 4,.int .i64 2,.int .i64 1,.int .i64 2,.int .i64 4,.int .i64 1,.int .i64 2,.int .i64 3,.int .i64 4,.int .i64 0]) ?_ 9 _ rfl;(with_reducible repeat first|refine Qn ?_ _|refine Qe ?_|refine Qo ?_ _);refine Qq (cs:=#[.int .i64 4,.int .i64 2,.int .i64 1,.int .i64 2,.int .i64 4,.int .i64 1,.int .i64 2,.int .i64 3,.int .i64 0,.int .i64 0]) ?_ 8 _ rfl;(with_reducible repeat first|refine Qn ?_ _|refine Qe ?_|refine Qo ?_ _);refine Qq (cs:=#[.int .i64 4,.int .i64 2,.int .i64 1,.int .i64 2,.int .i64 4,.int .i64 1,.int .i64 2,.int .i64 0,.int .i64 0,.int .i64 0]) ?_ 7 _ rfl;(with_reducible repeat first|refine Qn ?_ _|refine Qe ?_|refine Qo ?_ _);refine Qq (cs:=#[.int .i64 4,.int .i64 2,.int .i64 1,.int .i64 2,.int .i64 4,.int .i64 1,.int .i64 0,.int .i64 0,.int .i64 0,.int .i64 0]) ?_ 6 _ rfl;(with_reducible repeat first|refine Qn ?_ _|refine Qe ?_|refine Qo ?_ _);refine Qq (cs:=#[.int .i64 4,.int .i64 2,.int .i64 1,.int .i64 2,.int .i64 4,.int .i64 0,.int .i64 0,.int .i64 0,.int .i64 0,.int .i64 0]) ?_ 5 _ rfl;(with_reducible repeat first|refine Qn ?_ _|refine Qe ?_|refine Qo ?_ _);refine Qq (cs:=#[.int .i64 4,.int .i64 2,.int .i64 1,.int .i64 2,.int .i64 0,.int .i64 0,.int .i64 0,.int .i64 0,.int .i64 0,.int .i64 0]) ?_ 4 _ rfl;(with_reducible repeat first|refine Qn ?_ _|refine Qe ?_|refine Qo ?_ _);refine Qq (cs:=#[.int .i64 4,.int .i64 2,.int .i64 1,.int .i64 0,.int .i64 0,.int .i64 0,.int .i64 0,.int .i64 0,.int .i64 0,.int .i64 0]) ?_ 3 _ rfl;(with_reducible repeat first|refine Qn ?_ _|refine Qe ?_|refine Qo ?_ _);refine Qq (cs:=#[.int .i64 4,.int .i64 2,.int .i64 0,.int .i64 0,.int .i64 0,.int .i64 0,.int .i64 0,.int .i64 0,.int .i64 0,.int .i64 0]) ?_ 2 _ rfl;(with_reducible repeat first|refine Qn ?_ _|refine Qe ?_|refine Qo ?_ _);refine Qq (cs:=#[.int .i64 4,.int .i64 0,.int .i64 0,.int .i64 0,.int .i64 0,.int .i64 0,.int .i64 0,.int .i64 0,.int .i64 0,.int .i64 0]) ?_ 1 _ rfl;(with_reducible repeat first|refine Qn ?_ _|refine Qe ?_|refine Qo ?_ _);refine Qq (cs:=#[.int .i64 0,.int .i64 0,.int .i64 0,.int .i64 0,.int .i64 0,.int .i64 0,.int .i64 0,.int .i64 0,.int .i64 0,.int .i64 0]) ?_ 0 _ rfl;(with_reducible repeat first|refine Qn ?_ _|refine Qe ?_|refine Qo ?_ _);exact ε.out) Try.underlying25 rfl kr) rfl ?_
 exact⟨by first|rfl|(simp[Qk,Qj] <;> rfl)|(simp[*,Qk,Qj] <;> rfl),by repeat(first|(with_reducible first|exact HB.out|apply Qu|apply Qi|apply Qg|refine Qx ?_ jr.out)|exact HB.out)⟩
end Go.Proofs.Ytmfffemidlhcpaa.C
namespace Go.Proofs.Ytmfffemidlhcpaa.C
open Go.RowKit Go.Proofs.YtmfffemidlhcpaaW.PrintWords Go.Proofs.YtmfffemidlhcpaaW.PrintLast Go.Proofs.YtmfffemidlhcpaaW.PrintMore
attribute [local go_sem] Zv Zt Z6 Z5 Zk Zj Zu Zs
set_option linter.unusedVariables false
set_option linter.unusedSimpArgs false
attribute [local go_sem high] eqA36
def api_Hall.l0:Nat→List (S36)→List (S36)→Int→Int→Option (Bool)
 |0,_,_,_,_=>none
 |k+1,B,J,σ,O=>if O<σ then (if 0≤O then (if O<(B.length:Int) then (if O<(J.length:Int) then (if (!(((Qc B O).f0)==((Qc J O).f0))||(!(((Qc B O).f1)==((Qc J O).f1))||(!(((Qc B O).f2)==((Qc J O).f2)))))=true then (some false) else (api_Hall.l0 k B J σ (wrap64 (O+1)))) else (none)) else (none)) else (none)) else (some true)
def api_Hall.f (k:Nat) (l0:List (S36)) (l1:List (S36)):Option (Bool):=if (l0.length:Int)=(l1.length:Int) then (api_Hall.l0 k l0 l1 (l0.length:Int) 0) else (some false)
set_option maxHeartbeats 8000000 in
set_option maxRecDepth 100000 in
theorem api_Hall.calls (k:Nat) (A0:Option Addr) (c0:Nat) (l0:List (S36)) (A1:Option Addr) (c1:Nat) (l1:List (S36)) (r:Bool) (w:World) (ζ :Kd.C k36 w A0 l0.length l0) (Z:l0.length≤c0) (cv:Kd.C k36 w A1 l1.length l1) (ct:l1.length≤c1) (h:api_Hall.f k l0 l1=some r):
  Calls Try.prog 48 #[.slice A0 l0.length c0,.slice A1 l1.length c1] w fun e w'=>e = .returned (.bool r)∧Drawn0 w w':=by
 have dm:=Try.underlying36
 have η :=Aside0.mk ζ
 have ac:=Aside0.mk Z
 clear ζ Z
 have cu:=Aside0.mk cv
 have d4:=Aside0.mk ct
 clear cv ct
 have H:(if (l0.length:Int)=(l1.length:Int) then (api_Hall.l0 k l0 l1 (l0.length:Int) 0) else (some false))=some r:=h
 clear h
 by_cases c3:(l0.length:Int)=(l1.length:Int)
 ·rw[if_pos c3] at H
  have c3b0:((l0.length:Int)==(l1.length:Int))=true:=beq_iff_eq.mpr c3
  have c3b1:((l0.length:Int) != (l1.length:Int))=false:=bne_eq_false_iff_eq.mpr c3
  have c3b2:(l0.length==l1.length)=true:=by first|simpa using c3|(simp at c3 ⊢;omega)
  clear c3
  have H':=Aside0.mk H
  clear H
  go_enter Try.func48,Try.ntmps48
  go_wp2
  repeat(go_quiet (fail);try go_wp2)
  go_loopg [13] k (fun kq ar w'=>∃ (B:Int),ar = .int .i64 B∧Aside0 (api_Hall.l0 kq l0 l1 (l0.length:Int) B=some r)∧Aside0 (kq≤k)∧Drawn0 w w')
  case atStart=>exact⟨(0),rfl,H',⟨Nat.le_refl _⟩,by repeat(first|exact Drawn0.refl _|apply Drawn0.step)⟩
  case round=>
   clear H'
   try clear c1
   try clear p2
   try clear c3
   try clear c3b0
   try clear c3b1
   try clear c3b2
   obtain⟨B,rfl,HA,ao,⟨m1,rfl⟩⟩:=hrel
   cases gk with
   |zero=>exact absurd HA.out (by simp[api_Hall.l0])
   |succ k1=>
    have H:=HA.out
    clear HA
    simp only[api_Hall.l0] at H
    by_cases c4:B<(l0.length:Int)
    ·rw[if_pos c4] at H
     have c4b0:decide (B<(l0.length:Int))=true:=decide_eq_true c4
     clear c4
     by_cases c5:0≤B
     ·rw[if_pos c5] at H
      have c5b0:decide (0≤B)=true:=decide_eq_true c5
      clear c5
      by_cases c6:B<(l0.length:Int)
      ·rw[if_pos c6] at H
       have c6b0:decide (B<(l0.length:Int))=true:=decide_eq_true c6
       clear c6
       by_cases c7:B<(l1.length:Int)
       ·rw[if_pos c7] at H
        have c7b0:decide (B<(l1.length:Int))=true:=decide_eq_true c7
        clear c7
        by_cases c8:(!(((Qc l0 B).f0)==((Qc l1 B).f0))||(!(((Qc l0 B).f1)==((Qc l1 B).f1))||(!(((Qc l0 B).f2)==((Qc l1 B).f2)))))=true
        ·rw[if_pos c8] at H
         have c8b0:(!(((Qc l0 B).f0)==((Qc l1 B).f0))||(!(((Qc l0 B).f1)==((Qc l1 B).f1))||(!(((Qc l0 B).f2)==((Qc l1 B).f2)))))=true:=c8
         (try(have c8s0:=c8b0;simp only[beq_self_eq_true,bne_self_eq_false,Bool.not_true,Bool.not_false,Bool.true_and,Bool.and_true,Bool.false_or,Bool.or_false] at c8s0))
         clear c8
         obtain rfl:=Option.some.inj H
         have J:0≤(B:Int):=of_decide_eq_true (by assumption)
         have O:B<(l0.length:Int):=of_decide_eq_true (by assumption)
         obtain⟨ξ,γ,ε,θ,ι⟩:=Z9 η.out B J O
         cases γ
         replace J:=eq_true J
         replace O:=eq_true O
         have X:0≤(B:Int):=of_decide_eq_true (by assumption)
         have Y:B<(l1.length:Int):=of_decide_eq_true (by assumption)
         obtain⟨ρ,δ,κ,μ,ν⟩:=Z9 cu.out B X Y
         cases δ
         replace X:=eq_true X
         replace Y:=eq_true Y
         go_wp2
         repeat(go_quiet (fail);try go_wp2)
         go_ret
         exact⟨qR,by repeat(first|exact Drawn0.refl _|apply Drawn0.step)⟩
        ·rw[if_neg c8] at H
         have c8b0:(!(((Qc l0 B).f0)==((Qc l1 B).f0))||(!(((Qc l0 B).f1)==((Qc l1 B).f1))||(!(((Qc l0 B).f2)==((Qc l1 B).f2)))))=false:=by simpa using c8
         (try(have c8s0:=c8b0;simp only[beq_self_eq_true,bne_self_eq_false,Bool.not_true,Bool.not_false,Bool.true_and,Bool.and_true,Bool.false_or,Bool.or_false] at c8s0))
         clear c8
         have H':=Aside0.mk H
         clear H
         have J:0≤(B:Int):=of_decide_eq_true (by assumption)
         have O:B<(l0.length:Int):=of_decide_eq_true (by assumption)
         obtain⟨ξ,γ,ε,θ,ι⟩:=Z9 η.out B J O
         cases γ
         replace J:=eq_true J
         replace O:=eq_true O
         have X:0≤(B:Int):=of_decide_eq_true (by assumption)
         have Y:B<(l1.length:Int):=of_decide_eq_true (by assumption)
         obtain⟨ρ,δ,κ,μ,ν⟩:=Z9 cu.out B X Y
         cases δ
         replace X:=eq_true X
         replace Y:=eq_true Y
         go_wp2
         repeat(go_quiet (fail);try go_wp2)
         go_roundg k1
         case measure=>have:=ao.out;omega
         case rel=>exact⟨(wrap64 (B+1)),rfl,H',⟨by have:=ao.out;omega⟩,by repeat(first|exact Drawn0.refl _|apply Drawn0.step)⟩
       ·rw[if_neg c7] at H
        exact absurd H (by simp)
      ·rw[if_neg c6] at H
       exact absurd H (by simp)
     ·rw[if_neg c5] at H
      exact absurd H (by simp)
    ·rw[if_neg c4] at H
     have c4b0:decide (B<(l0.length:Int))=false:=decide_eq_false c4
     clear c4
     obtain rfl:=Option.some.inj H
     go_wp2
     repeat(go_quiet (fail);try go_wp2)
     go_ret
     exact⟨qR,by repeat(first|exact Drawn0.refl _|apply Drawn0.step)⟩
 ·rw[if_neg c3] at H
  have c3b0:((l0.length:Int)==(l1.length:Int))=false:=beq_eq_false_iff_ne.mpr c3
  have c3b1:((l0.length:Int) != (l1.length:Int))=true:=bne_iff_ne.mpr c3
  have c3b2:(l0.length==l1.length)=false:=by first|simpa using c3|(simp at c3 ⊢;omega)
  obtain rfl:=Option.some.inj H
  go_enter Try.func48,Try.ntmps48
  go_wp2
  repeat(go_quiet (fail);try go_wp2)
  go_ret
  exact⟨qR,by repeat(first|exact Drawn0.refl _|apply Drawn0.step)⟩
end Go.Proofs.Ytmfffemidlhcpaa.C
namespace Go.Proofs.Ytmfffemidlhcpaa.C
open Go.RowKit Go.Proofs.YtmfffemidlhcpaaW.PrintWords Go.Proofs.YtmfffemidlhcpaaW.PrintLast Go.Proofs.YtmfffemidlhcpaaW.PrintMore
attribute [local go_sem] Zv Zt Z6 Z5 Zk Zj Zu Zs
set_option linter.unusedVariables false
set_option linter.unusedSimpArgs false
attribute [local go_sem high] eqA86
def api_Inside.l0:Nat→List (S86)→List (S86)→Int→Int→Option (Bool)
 |0,_,_,_,_=>none
 |k+1,B,J,σ,O=>if O<σ then (if 0≤O then (if O<(B.length:Int) then (if O<(J.length:Int) then (if (!(((Qt B O).f0)==((Qt J O).f0))||(!(((Qt B O).f1)==((Qt J O).f1))))=true then (some false) else (api_Inside.l0 k B J σ (wrap64 (O+1)))) else (none)) else (none)) else (none)) else (some true)
def api_Inside.f (k:Nat) (l0:List (S86)) (l1:List (S86)):Option (Bool):=if (l0.length:Int)=(l1.length:Int) then (api_Inside.l0 k l0 l1 (l0.length:Int) 0) else (some false)
set_option maxHeartbeats 8000000 in
set_option maxRecDepth 100000 in
theorem api_Inside.calls (k:Nat) (A0:Option Addr) (c0:Nat) (l0:List (S86)) (A1:Option Addr) (c1:Nat) (l1:List (S86)) (r:Bool) (w:World) (ζ :Kd.C k86 w A0 l0.length l0) (Z:l0.length≤c0) (cv:Kd.C k86 w A1 l1.length l1) (ct:l1.length≤c1) (h:api_Inside.f k l0 l1=some r):
  Calls Try.prog 49 #[.slice A0 l0.length c0,.slice A1 l1.length c1] w fun e w'=>e = .returned (.bool r)∧Drawn0 w w':=by
 have d9:=Try.underlying86
 have η :=Aside0.mk ζ
 have ac:=Aside0.mk Z
 clear ζ Z
 have cu:=Aside0.mk cv
 have d4:=Aside0.mk ct
 clear cv ct
 have H:(if (l0.length:Int)=(l1.length:Int) then (api_Inside.l0 k l0 l1 (l0.length:Int) 0) else (some false))=some r:=h
 clear h
 by_cases c3:(l0.length:Int)=(l1.length:Int)
 ·rw[if_pos c3] at H
  have c3b0:((l0.length:Int)==(l1.length:Int))=true:=beq_iff_eq.mpr c3
  have c3b1:((l0.length:Int) != (l1.length:Int))=false:=bne_eq_false_iff_eq.mpr c3
  have c3b2:(l0.length==l1.length)=true:=by first|simpa using c3|(simp at c3 ⊢;omega)
  clear c3
  have H':=Aside0.mk H
  clear H
  go_enter Try.func49,Try.ntmps49
  go_wp2
  repeat(go_quiet (fail);try go_wp2)
  go_loopg [13] k (fun kq ar w'=>∃ (B:Int),ar = .int .i64 B∧Aside0 (api_Inside.l0 kq l0 l1 (l0.length:Int) B=some r)∧Aside0 (kq≤k)∧Drawn0 w w')
  case atStart=>exact⟨(0),rfl,H',⟨Nat.le_refl _⟩,by repeat(first|exact Drawn0.refl _|apply Drawn0.step)⟩
  case round=>
   clear H'
   try clear c1
   try clear p2
   try clear c3
   try clear c3b0
   try clear c3b1
   try clear c3b2
   obtain⟨B,rfl,HA,ao,⟨m1,rfl⟩⟩:=hrel
   cases gk with
   |zero=>exact absurd HA.out (by simp[api_Inside.l0])
   |succ k1=>
    have H:=HA.out
    clear HA
    simp only[api_Inside.l0] at H
    by_cases c4:B<(l0.length:Int)
    ·rw[if_pos c4] at H
     have c4b0:decide (B<(l0.length:Int))=true:=decide_eq_true c4
     clear c4
     by_cases c5:0≤B
     ·rw[if_pos c5] at H
      have c5b0:decide (0≤B)=true:=decide_eq_true c5
      clear c5
      by_cases c6:B<(l0.length:Int)
      ·rw[if_pos c6] at H
       have c6b0:decide (B<(l0.length:Int))=true:=decide_eq_true c6
       clear c6
       by_cases c7:B<(l1.length:Int)
       ·rw[if_pos c7] at H
        have c7b0:decide (B<(l1.length:Int))=true:=decide_eq_true c7
        clear c7
        by_cases c8:(!(((Qt l0 B).f0)==((Qt l1 B).f0))||(!(((Qt l0 B).f1)==((Qt l1 B).f1))))=true
        ·rw[if_pos c8] at H
         have c8b0:(!(((Qt l0 B).f0)==((Qt l1 B).f0))||(!(((Qt l0 B).f1)==((Qt l1 B).f1))))=true:=c8
         (try(have c8s0:=c8b0;simp only[beq_self_eq_true,bne_self_eq_false,Bool.not_true,Bool.not_false,Bool.true_and,Bool.and_true,Bool.false_or,Bool.or_false] at c8s0))
         clear c8
         obtain rfl:=Option.some.inj H
         have J:0≤(B:Int):=of_decide_eq_true (by assumption)
         have O:B<(l0.length:Int):=of_decide_eq_true (by assumption)
         obtain⟨μ,γ,ε,θ⟩:=Yc η.out B J O
         cases γ
         replace J:=eq_true J
         replace O:=eq_true O
         have X:0≤(B:Int):=of_decide_eq_true (by assumption)
         have Y:B<(l1.length:Int):=of_decide_eq_true (by assumption)
         obtain⟨ν,δ,ι,κ⟩:=Yc cu.out B X Y
         cases δ
         replace X:=eq_true X
         replace Y:=eq_true Y
         go_wp2
         repeat(go_quiet (fail);try go_wp2)
         go_ret
         exact⟨qR,by repeat(first|exact Drawn0.refl _|apply Drawn0.step)⟩
        ·rw[if_neg c8] at H
         have c8b0:(!(((Qt l0 B).f0)==((Qt l1 B).f0))||(!(((Qt l0 B).f1)==((Qt l1 B).f1))))=false:=by simpa using c8
         (try(have c8s0:=c8b0;simp only[beq_self_eq_true,bne_self_eq_false,Bool.not_true,Bool.not_false,Bool.true_and,Bool.and_true,Bool.false_or,Bool.or_false] at c8s0))
         clear c8
         have H':=Aside0.mk H
         clear H
         have J:0≤(B:Int):=of_decide_eq_true (by assumption)
         have O:B<(l0.length:Int):=of_decide_eq_true (by assumption)
         obtain⟨μ,γ,ε,θ⟩:=Yc η.out B J O
         cases γ
         replace J:=eq_true J
         replace O:=eq_true O
         have X:0≤(B:Int):=of_decide_eq_true (by assumption)
         have Y:B<(l1.length:Int):=of_decide_eq_true (by assumption)
         obtain⟨ν,δ,ι,κ⟩:=Yc cu.out B X Y
         cases δ
         replace X:=eq_true X
         replace Y:=eq_true Y
         go_wp2
         repeat(go_quiet (fail);try go_wp2)
         go_roundg k1
         case measure=>have:=ao.out;omega
         case rel=>exact⟨(wrap64 (B+1)),rfl,H',⟨by have:=ao.out;omega⟩,by repeat(first|exact Drawn0.refl _|apply Drawn0.step)⟩
       ·rw[if_neg c7] at H
        exact absurd H (by simp)
      ·rw[if_neg c6] at H
       exact absurd H (by simp)
     ·rw[if_neg c5] at H
      exact absurd H (by simp)
    ·rw[if_neg c4] at H
     have c4b0:decide (B<(l0.length:Int))=false:=decide_eq_false c4
     clear c4
     obtain rfl:=Option.some.inj H
     go_wp2
     repeat(go_quiet (fail);try go_wp2)
     go_ret
     exact⟨qR,by repeat(first|exact Drawn0.refl _|apply Drawn0.step)⟩
 ·rw[if_neg c3] at H
  have c3b0:((l0.length:Int)==(l1.length:Int))=false:=beq_eq_false_iff_ne.mpr c3
  have c3b1:((l0.length:Int) != (l1.length:Int))=true:=bne_iff_ne.mpr c3
  have c3b2:(l0.length==l1.length)=false:=by first|simpa using c3|(simp at c3 ⊢;omega)
  obtain rfl:=Option.some.inj H
  go_enter Try.func49,Try.ntmps49
  go_wp2
  repeat(go_quiet (fail);try go_wp2)
  go_ret
  exact⟨qR,by repeat(first|exact Drawn0.refl _|apply Drawn0.step)⟩
end Go.Proofs.Ytmfffemidlhcpaa.C
namespace Go.Proofs.Ytmfffemidlhcpaa.C
open Go.RowKit Go.Proofs.YtmfffemidlhcpaaW.PrintWords Go.Proofs.YtmfffemidlhcpaaW.PrintLast Go.Proofs.YtmfffemidlhcpaaW.PrintMore
attribute [local go_sem] Zv Zt Z6 Z5 Zk Zj Zu Zs
set_option linter.unusedVariables false
set_option linter.unusedSimpArgs false
def call_Same.f (k:Nat) (B:List (S36)) (O:List (S86)) (X:List (S36)) (Z:List (S86)):Option (Bool):=(api_Hall.f k B X).bind fun μ =>(if μ = true then ((api_Inside.f k O Z).bind fun Y=>(some Y)) else (some false))
set_option maxHeartbeats 8000000 in
set_option maxRecDepth 100000 in
theorem call_Same.calls (k:Nat) (τ :Option Addr) (ν :Nat) (B:List (S36)) (γ:Option Addr) (δ :Nat) (O:List (S86)) (θ :Option Addr) (η :Nat) (X:List (S36)) (κ :Option Addr) (ι :Nat) (Z:List (S86)) (r:Bool) (w:World) (χ :Kd.C k36 w τ B.length B) (a0:B.length ≤ ν) (φ :Kd.C k86 w γ O.length O) (ψ :O.length ≤ δ) (a8:Kd.C k36 w θ X.length X) (a9:X.length ≤ η) (aj:Kd.C k86 w κ Z.length Z) (al:Z.length ≤ ι) (h:call_Same.f k B O X Z=some r):
  Calls Try.prog 26 #[.agg #[.slice τ B.length ν,.slice γ O.length δ],.agg #[.slice θ X.length η,.slice κ Z.length ι]] w fun e w'=>e = .returned (.bool r)∧Below w.heap.size w w':=by
 have ey:=Try.underlying50
 have ae:=Aside0.mk χ
 have ay:=Aside0.mk a0
 clear χ a0
 have ao:=Aside0.mk φ
 have ax:=Aside0.mk ψ
 clear φ ψ
 have ω :=Aside0.mk a8
 have am:=Aside0.mk a9
 clear a8 a9
 have a7:=Aside0.mk aj
 have av:=Aside0.mk al
 clear aj al
 have HB:=Aside0.mk (Below.refl w.heap.size w)
 have H:((api_Hall.f k B X).bind fun μ =>(if μ = true then ((api_Inside.f k O Z).bind fun Y=>(some Y)) else (some false)))=some r:=h
 clear h
 replace H:=Option.bind_eq_some_iff.mp H
 obtain⟨μ,a5,H⟩:=H
 replace H:(if μ = true then ((api_Inside.f k O Z).bind fun Y=>(some Y)) else (some false))=some r:=H
 have A3:=Aside0.mk a5
 clear a5
 by_cases c4: μ = true
 ·subst c4
  have H1:((api_Inside.f k O Z).bind fun Y=>(some Y))=some r:=by rw[if_pos rfl] at H;exact H
  clear H
  have H:=H1
  clear H1
  replace H:=Option.bind_eq_some_iff.mp H
  obtain⟨Y,bv,H⟩:=H
  replace H:(some Y)=some r:=H
  have A5:=Aside0.mk bv
  clear bv
  obtain rfl:=Option.some.inj H
  go_enter Try.func26,Try.ntmps26
  go_wp2_with (first|((with_reducible refine Qf (N:=2) rfl ?_);refine qE 2 #[.slice τ B.length ν,.slice γ O.length δ] 50 ?_;intro ρ hg w6 hbox hb;have J:=Aside0.mk hbox;have σ:=sGe hg;have a1:=sGe hg;replace HB:=sHb hb;clear hb hbox hg)|((with_reducible refine Qf (N:=3) rfl ?_);refine qE 3 #[.slice θ X.length η,.slice κ Z.length ι] 50 ?_;intro a3 hg w7 hbox hb;have ξ :=Aside0.mk hbox;have a6:=sGe hg;have aa:=sGe hg;have ε :=sNl J hg;have ζ :=sNg J hg;replace J:=sBk J hb;replace HB:=sHb hb;clear hb hbox hg;have d3:= ε.out;have eb:= ζ.out;obtain⟨b0,bw,cb,cd⟩:=qD2 J.out;obtain⟨a4,ah,b3,bu⟩:=qD2 ξ.out)|((with_reducible refine Qp (f:=48) rfl ?_);refine Q4 (some 9) rfl rfl Try.func48 kr rfl #[.slice τ B.length ν,.slice θ X.length η] rfl qM ?_;(with_reducible refine(api_Hall.calls k _ _ B _ _ X true _ ?side1 ?side2 ?side3 ?side4 A3.out).mono ?_);(case side1=>repeat(first|exact(Kd.Qv ae.out HB.out)|(with_reducible refine Kd.Yf ?_ _)|(with_reducible refine Kd.Ye ?_ _)|(with_reducible refine Kd.Je ?_)));(case side2=>exact ay.out);(case side3=>repeat(first|exact(Kd.Qv ω.out HB.out)|(with_reducible refine Kd.Yf ?_ _)|(with_reducible refine Kd.Ye ?_ _)|(with_reducible refine Kd.Je ?_)));(case side4=>exact am.out);rintro e w' ⟨rfl,⟨nd,rfl⟩⟩;refine⟨_,rfl, ?_⟩)|(go_at_call 49;(with_reducible refine(api_Inside.calls k _ _ O _ _ Z Y _ ?side1 ?side2 ?side3 ?side4 A5.out).mono ?_);(case side1=>repeat(first|exact(Kd.Qv ao.out bel)|(with_reducible refine Kd.Yf ?_ _)|(with_reducible refine Kd.Ye ?_ _)|(with_reducible refine Kd.Je ?_)));(case side2=>exact ax.out);(case side3=>repeat(first|exact(Kd.Qv a7.out bel)|(with_reducible refine Kd.Yf ?_ _)|(with_reducible refine Kd.Ye ?_ _)|(with_reducible refine Kd.Je ?_)));(case side4=>exact av.out);rintro e w' ⟨rfl,⟨nd,rfl⟩⟩))
  go_ret
  exact⟨by first|rfl|(simp[Qk,Qj] <;> rfl)|(simp[*,Qk,Qj] <;> rfl),bel⟩
 ·replace c4:=Bool.eq_false_iff.mpr c4
  subst c4
  have H1:(some false)=some r:=by rw[if_neg (show ¬ (false=true) by decide)] at H;exact H
  clear H
  have H:=H1
  clear H1
  obtain rfl:=Option.some.inj H
  go_enter Try.func26,Try.ntmps26
  go_wp2_with (first|((with_reducible refine Qf (N:=2) rfl ?_);refine qE 2 #[.slice τ B.length ν,.slice γ O.length δ] 50 ?_;intro ρ hg ec hbox hb;have J:=Aside0.mk hbox;have σ:=sGe hg;have a1:=sGe hg;replace HB:=sHb hb;clear hb hbox hg)|((with_reducible refine Qf (N:=3) rfl ?_);refine qE 3 #[.slice θ X.length η,.slice κ Z.length ι] 50 ?_;intro a3 hg he hbox hb;have ξ :=Aside0.mk hbox;have a6:=sGe hg;have aa:=sGe hg;have ε :=sNl J hg;have ζ :=sNg J hg;replace J:=sBk J hb;replace HB:=sHb hb;clear hb hbox hg;have js:= ε.out;have jt:= ζ.out;obtain⟨cz,d5,d6,dd⟩:=qD2 J.out;obtain⟨bk,bl,bm,br⟩:=qD2 ξ.out)|((with_reducible refine Qp (f:=48) rfl ?_);refine Q4 (some 9) rfl rfl Try.func48 kr rfl #[.slice τ B.length ν,.slice θ X.length η] rfl qM ?_;(with_reducible refine(api_Hall.calls k _ _ B _ _ X false _ ?side1 ?side2 ?side3 ?side4 A3.out).mono ?_);(case side1=>exact(Kd.Qv ae.out HB.out));(case side2=>exact ay.out);(case side3=>exact(Kd.Qv ω.out HB.out));(case side4=>exact am.out);rintro e w' ⟨rfl,⟨nd,rfl⟩⟩;refine⟨_,rfl, ?_⟩))
  go_ret
  exact⟨by first|rfl|(simp[Qk,Qj] <;> rfl)|(simp[*,Qk,Qj] <;> rfl),bel⟩
def newelref19_Few.f (B:List (S36)) (O:List (S86)):Option (Bool):=if (B.length:Int)≤130 then (some (decide ((O.length:Int)≤520))) else (some false)
set_option maxHeartbeats 8000000 in
set_option maxRecDepth 100000 in
theorem newelref19_Few.calls (τ :Option Addr) (ν :Nat) (B:List (S36)) (γ:Option Addr) (δ :Nat) (O:List (S86)) (r:Bool) (w:World) (χ :Kd.C k36 w τ B.length B) (a0:B.length ≤ ν) (φ :Kd.C k86 w γ O.length O) (ψ :O.length ≤ δ) (h:newelref19_Few.f B O=some r):
  Calls Try.prog 36 #[.agg #[.slice τ B.length ν,.slice γ O.length δ]] w fun e w'=>e = .returned (.bool r)∧Below w.heap.size w w':=by
 have ey:=Try.underlying50
 have ae:=Aside0.mk χ
 have ay:=Aside0.mk a0
 clear χ a0
 have ao:=Aside0.mk φ
 have ax:=Aside0.mk ψ
 clear φ ψ
 have HB:=Aside0.mk (Below.refl w.heap.size w)
 have H:(if (B.length:Int)≤130 then (some (decide ((O.length:Int)≤520))) else (some false))=some r:=h
 clear h
 by_cases c2:(B.length:Int)≤130
 ·rw[if_pos c2] at H
  have c2b0:decide ((B.length:Int)≤130)=true:=decide_eq_true c2
  have c2b1:decide (B.length≤130)=true:=decide_eq_true (by omega)
  clear c2
  obtain rfl:=Option.some.inj H
  go_enter Try.func36,Try.ntmps36
  go_wp2_with (first|((with_reducible refine Qf (N:=1) rfl ?_);(try(refine Zr (by rfl) ?_;dsimp only));refine Zg ?hg (N:=1) ?hd (cs:=#[.slice τ B.length ν,.slice γ O.length δ]) (t:=50) ?hr ?_;(case hd=>rfl);(case hg=>rfl);(case hr=>first|(go_simp;done)|(go_simp;rfl));intro J hg w3 hbox hb;have μ :=Aside0.mk (Q0 (by repeat(first|(with_reducible first|exact HB.out|apply Qu|apply Qi|apply Qg)|exact HB.out)) hb);have ξ :=Aside0.mk (hbox);have a3:=Aside0.mk ((by rw[hg];exact(Qh (by repeat(first|(with_reducible first|exact HB.out|apply Qu|apply Qi|apply Qg)|exact HB.out))):w.heap.size≤J));have a4:=Aside0.mk ((by rw[hg];exact(Qh (by repeat(first|(with_reducible first|exact HB.out|apply Qu|apply Qi|apply Qg)|exact HB.out))):w.heap.size≤J));clear HB;have HB:= μ;have X:= ξ;have Z:=a3;have Y:=a4;clear μ ξ a3 a4;clear hb hbox hg;obtain⟨af,ak,al,am⟩:=qD2 X.out))
  go_ret
  exact⟨by first|rfl|(simp[Qk,Qj] <;> rfl)|(simp[*,Qk,Qj] <;> rfl),by repeat(first|(with_reducible first|exact HB.out|apply Qu|apply Qi|apply Qg|refine Qx ?_ Y.out)|exact HB.out)⟩
 ·rw[if_neg c2] at H
  have c2b0:decide ((B.length:Int)≤130)=false:=decide_eq_false c2
  have c2b1:decide (B.length≤130)=false:=decide_eq_false (by omega)
  clear c2
  obtain rfl:=Option.some.inj H
  go_enter Try.func36,Try.ntmps36
  go_wp2_with (first|((with_reducible refine Qf (N:=1) rfl ?_);(try(refine Zr (by rfl) ?_;dsimp only));refine Zg ?hg (N:=1) ?hd (cs:=#[.slice τ B.length ν,.slice γ O.length δ]) (t:=50) ?hr ?_;(case hd=>rfl);(case hg=>rfl);(case hr=>first|(go_simp;done)|(go_simp;rfl));intro J hg w5 hbox hb;have μ :=Aside0.mk (Q0 (by repeat(first|(with_reducible first|exact HB.out|apply Qu|apply Qi|apply Qg)|exact HB.out)) hb);have ξ :=Aside0.mk (hbox);have a3:=Aside0.mk ((by rw[hg];exact(Qh (by repeat(first|(with_reducible first|exact HB.out|apply Qu|apply Qi|apply Qg)|exact HB.out))):w.heap.size≤J));have a4:=Aside0.mk ((by rw[hg];exact(Qh (by repeat(first|(with_reducible first|exact HB.out|apply Qu|apply Qi|apply Qg)|exact HB.out))):w.heap.size≤J));clear HB;have HB:= μ;have X:= ξ;have Z:=a3;have Y:=a4;clear μ ξ a3 a4;clear hb hbox hg;obtain⟨ω,a1,a5,a6⟩:=qD2 X.out))
  go_ret
  exact⟨by first|rfl|(simp[Qk,Qj] <;> rfl)|(simp[*,Qk,Qj] <;> rfl),by repeat(first|(with_reducible first|exact HB.out|apply Qu|apply Qi|apply Qg|refine Qx ?_ Y.out)|exact HB.out)⟩
def newellaw21_few.f (J:Int) (O:Int) (X:Int) (Y:Int) (Z:Int) (δ :Int) (γ:Int) (θ :Int) (η :Int) (ζ :Int) (ρ:List (S31)) (ν :Int) (ι :List (S36)) (φ :List (S86)):Option (Bool):=if (ρ.length:Int)≤10 then ((newelref19_Few.f ι φ).bind fun κ =>(some κ)) else (some false)
set_option maxHeartbeats 8000000 in
set_option maxRecDepth 100000 in
theorem newellaw21_few.calls (J:Int) (O:Int) (X:Int) (Y:Int) (Z:Int) (δ :Int) (γ:Int) (θ :Int) (η :Int) (ζ :Int) (a8:Option Addr) (a9:Nat) (ρ:List (S31)) (ν :Int) (ah:Option Addr) (ae:Nat) (ι :List (S36)) (af:Option Addr) (ag:Nat) (φ :List (S86)) (r:Bool) (w:World) (kt:Kd.C k31 w a8 ρ.length ρ) (ku:ρ.length≤a9) (kv:Kd.C k36 w ah ι.length ι) (kw: ι.length≤ae) (kx:Kd.C k86 w af φ.length φ) (ky: φ.length≤ag) (h:newellaw21_few.f J O X Y Z δ γ θ η ζ ρ ν ι φ = some r):
  Calls Try.prog 13 #[.agg #[.int .i64 J,.int .i64 O,.int .i64 X,.int .i64 Y,.int .i64 Z,.int .i64 δ,.int .i64 γ,.int .i64 θ,.int .i64 η,.int .i64 ζ,.slice a8 ρ.length a9,.int .i64 ν,.slice ah ι.length ae,.slice af φ.length ag]] w fun e w'=>e = .returned (.bool r)∧Below w.heap.size w w':=by
 have wl:=Try.underlying52
 have ey:=Try.underlying50
 have cy:=Aside0.mk kt
 have cz:=Aside0.mk ku
 clear kt ku
 have d6:=Aside0.mk kv
 have fu:=Aside0.mk kw
 clear kv kw
 have et:=Aside0.mk kx
 have eu:=Aside0.mk ky
 clear kx ky
 have HB:=Aside0.mk (Below.refl w.heap.size w)
 have H:(if (ρ.length:Int)≤10 then ((newelref19_Few.f ι φ).bind fun κ =>(some κ)) else (some false))=some r:=h
 clear h
 by_cases c2:(ρ.length:Int)≤10
 ·rw[if_pos c2] at H
  have c2b0:decide ((ρ.length:Int)≤10)=true:=decide_eq_true c2
  have c2b1:decide (ρ.length≤10)=true:=decide_eq_true (by omega)
  clear c2
  replace H:=Option.bind_eq_some_iff.mp H
  obtain⟨κ,a5,H⟩:=H
  replace H:(some κ)=some r:=H
  have A3:=Aside0.mk a5
  clear a5
  obtain rfl:=Option.some.inj H
  go_enter Try.func13,Try.ntmps13
  go_wp2_with (first|((with_reducible refine Qf (N:=1) rfl ?_);refine qE 1 #[.int .i64 J,.int .i64 O,.int .i64 X,.int .i64 Y,.int .i64 Z,.int .i64 δ,.int .i64 γ,.int .i64 θ,.int .i64 η,.int .i64 ζ,.slice a8 ρ.length a9,.int .i64 ν,.slice ah ι.length ae,.slice af φ.length ag] 52 ?_;intro ε hg w4 hbox hb;have B:=Aside0.mk hbox;have σ:=sGe hg;have τ :=sGe hg;replace HB:=sHb hb;clear hb hbox hg;have b8:w4.cell? ⟨ε,0,none⟩=some (.int .i64 J):=(Qa B.out 0).trans rfl;have b9:w4.cell? ⟨ε,1,none⟩=some (.int .i64 O):=(Qa B.out 1).trans rfl;have bb:w4.cell? ⟨ε,2,none⟩=some (.int .i64 X):=(Qa B.out 2).trans rfl;have bc:w4.cell? ⟨ε,3,none⟩=some (.int .i64 Y):=(Qa B.out 3).trans rfl;have bd:w4.cell? ⟨ε,4,none⟩=some (.int .i64 Z):=(Qa B.out 4).trans rfl;have bz:w4.cell? ⟨ε,5,none⟩=some (.int .i64 δ):=(Qa B.out 5).trans rfl;have ca:w4.cell? ⟨ε,6,none⟩=some (.int .i64 γ):=(Qa B.out 6).trans rfl;have ch:w4.cell? ⟨ε,7,none⟩=some (.int .i64 θ):=(Qa B.out 7).trans rfl;have aa:w4.cell? ⟨ε,8,none⟩=some (.int .i64 η):=(Qa B.out 8).trans rfl;have ab:w4.cell? ⟨ε,9,none⟩=some (.int .i64 ζ):=(Qa B.out 9).trans rfl;have χ :w4.cell? ⟨ε,10,none⟩=some (.slice a8 ρ.length a9):=(Qa B.out 10).trans rfl;have ψ :w4.cell? ⟨ε,11,none⟩=some (.int .i64 ν):=(Qa B.out 11).trans rfl;have ω :w4.cell? ⟨ε,12,none⟩=some (.slice ah ι.length ae):=(Qa B.out 12).trans rfl;have a0:w4.cell? ⟨ε,13,none⟩=some (.slice af φ.length ag):=(Qa B.out 13).trans rfl;have ci:=Qb B.out 0;have cj:=Qb B.out 1;have ck:=Qb B.out 2;have co:=Qb B.out 3;have cv:=Qb B.out 4;have cx:=Qb B.out 5;have dr:=Qb B.out 6;have dt:=Qb B.out 7;have ac:=Qb B.out 8;have ai:=Qb B.out 9;have a1:=Qb B.out 10;have a3:=Qb B.out 11;have a4:=Qb B.out 12;have a7:=Qb B.out 13)|(go_at_call 36;(with_reducible refine(newelref19_Few.calls _ _ ι _ _ φ κ _ ?side1 ?side2 ?side3 ?side4 A3.out).mono ?_);(case side1=>exact(Kd.Qv d6.out HB.out));(case side2=>exact fu.out);(case side3=>exact(Kd.Qv et.out HB.out));(case side4=>exact eu.out);rintro e w6 ⟨rfl,hb⟩;have μ :=Aside0.mk (Qy (g:= ε) (o:=.cells #[.int .i64 J,.int .i64 O,.int .i64 X,.int .i64 Y,.int .i64 Z,.int .i64 δ,.int .i64 γ,.int .i64 θ,.int .i64 η,.int .i64 ζ,.slice a8 ρ.length a9,.int .i64 ν,.slice ah ι.length ae,.slice af φ.length ag] 52 (0,0)) B.out hb);have ξ :=Aside0.mk (Q0 HB.out hb);clear B;clear HB;have B:= μ;have HB:= ξ;clear μ ξ;(try clear hb);(try clear a6);(try clear hk);(try clear hi)))
  go_ret
  exact⟨rfl,HB.out⟩
 ·rw[if_neg c2] at H
  have c2b0:decide ((ρ.length:Int)≤10)=false:=decide_eq_false c2
  have c2b1:decide (ρ.length≤10)=false:=decide_eq_false (by omega)
  clear c2
  obtain rfl:=Option.some.inj H
  go_enter Try.func13,Try.ntmps13
  go_wp2_with (first|((with_reducible refine Qf (N:=1) rfl ?_);refine qE 1 #[.int .i64 J,.int .i64 O,.int .i64 X,.int .i64 Y,.int .i64 Z,.int .i64 δ,.int .i64 γ,.int .i64 θ,.int .i64 η,.int .i64 ζ,.slice a8 ρ.length a9,.int .i64 ν,.slice ah ι.length ae,.slice af φ.length ag] 52 ?_;intro ε hg w7 hbox hb;have B:=Aside0.mk hbox;have σ:=sGe hg;have τ :=sGe hg;replace HB:=sHb hb;clear hb hbox hg;have df:w7.cell? ⟨ε,0,none⟩=some (.int .i64 J):=(Qa B.out 0).trans rfl;have dh:w7.cell? ⟨ε,1,none⟩=some (.int .i64 O):=(Qa B.out 1).trans rfl;have di:w7.cell? ⟨ε,2,none⟩=some (.int .i64 X):=(Qa B.out 2).trans rfl;have ed:w7.cell? ⟨ε,3,none⟩=some (.int .i64 Y):=(Qa B.out 3).trans rfl;have ee:w7.cell? ⟨ε,4,none⟩=some (.int .i64 Z):=(Qa B.out 4).trans rfl;have ef:w7.cell? ⟨ε,5,none⟩=some (.int .i64 δ):=(Qa B.out 5).trans rfl;have eg:w7.cell? ⟨ε,6,none⟩=some (.int .i64 γ):=(Qa B.out 6).trans rfl;have eh:w7.cell? ⟨ε,7,none⟩=some (.int .i64 θ):=(Qa B.out 7).trans rfl;have ei:w7.cell? ⟨ε,8,none⟩=some (.int .i64 η):=(Qa B.out 8).trans rfl;have ej:w7.cell? ⟨ε,9,none⟩=some (.int .i64 ζ):=(Qa B.out 9).trans rfl;have gg:w7.cell? ⟨ε,10,none⟩=some (.slice a8 ρ.length a9):=(Qa B.out 10).trans rfl;have gh:w7.cell? ⟨ε,11,none⟩=some (.int .i64 ν):=(Qa B.out 11).trans rfl;have gi:w7.cell? ⟨ε,12,none⟩=some (.slice ah ι.length ae):=(Qa B.out 12).trans rfl;have gj:w7.cell? ⟨ε,13,none⟩=some (.slice af φ.length ag):=(Qa B.out 13).trans rfl;have dj:=Qb B.out 0;have dk:=Qb B.out 1;have dl:=Qb B.out 2;have ek:=Qb B.out 3;have el:=Qb B.out 4;have em:=Qb B.out 5;have en:=Qb B.out 6;have eo:=Qb B.out 7;have ep:=Qb B.out 8;have er:=Qb B.out 9;have gl:=Qb B.out 10;have gm:=Qb B.out 11;have gn:=Qb B.out 12;have gp:=Qb B.out 13))
  go_ret
  exact⟨rfl,HB.out⟩
end Go.Proofs.Ytmfffemidlhcpaa.C
