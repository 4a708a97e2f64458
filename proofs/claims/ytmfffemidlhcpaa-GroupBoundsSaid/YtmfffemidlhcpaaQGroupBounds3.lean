/- Texts of this claim, one behind the other: what the law's functions come to, walked (printed by a program, with the words that the print uses), and what that is, in plain Lean. No conditions of their own. -/
import Derived.Test.YtmfffemidlhcpaaQGroupBounds2
namespace Go.Proofs.Ytmfffemidlhcpaa.C
open Go.RowKit Go.Proofs.YtmfffemidlhcpaaW.PrintWords Go.Proofs.YtmfffemidlhcpaaW.PrintLast Go.Proofs.YtmfffemidlhcpaaW.PrintMore
attribute [local go_sem] Z1 Zz Z9 Z8 Zq Zp Z0 Zy
set_option linter.unusedVariables false
set_option linter.unusedSimpArgs false
def api_Inside_90.l0:Nat→List (S86)→Int→Int→Int→Option ((List (S86)))
 |0,_,_,_,_=>none
 |k+1,B,J,Y,O=>if O<(B.length:Int) then (if 0≤O then ((api_Inside_without_1.f ((Qv B O).f0) ((Qv B O).f1) J).bind fun a9=>(if a9=true then (api_Inside_90.l0 k B J Y (wrap64 (O+1))) else (if 0≤Y then (if Y<(B.length:Int) then (api_Inside_90.l0 k (B.set (Y:Int).toNat (⟨(Qv B O).f0,(Qv B O).f1⟩:S86)) J (wrap64 (Y+1)) (wrap64 (O+1))) else (none)) else (none)))) else (none)) else (if 0≤Y then (if Y≤(B.length:Int) then (some (B.take (Y:Int).toNat)) else (none)) else (none))
def api_Inside_90.f (k:Nat) (l0:List (S86)) (Z:Int):Option ((List (S86))):=(api_Inside_100.f k l0 Z).bind fun ρ=>(if ρ=(-1) then (some l0) else (api_Inside_90.l0 k l0 Z ρ (wrap64 (ρ+1))))
set_option maxHeartbeats 8000000 in
set_option maxRecDepth 100000 in
theorem api_Inside_90.calls (k:Nat) (ζ :Nat→Prop) (ah:Value) (l0:List (S86)) (Z:Int) (r:List (S86)) (w0 w:World) (hB:Below w0.heap.size w0 w) (bb:Kd.R k86 86 w w0.heap.size ζ ah l0) (h:api_Inside_90.f k l0 Z=some r) (Ar_:Option Addr) (nr_ cr_ gr_ gx_:Nat) (zx_:Int) (hgr_:w.heap[gr_]?=some (.cells #[.slice Ar_ nr_ cr_,.func (.func 83) #[] #[]] 116 (0,0))) (hgx_:w.heap[gx_]?=some (.cells #[.int .i64 (Ya Z),.int .i64 (X9 Z)] 86 (0,0))) (hnr_:¬ ζ gr_) (hnx_:¬ ζ gx_):
  Calls Try.prog 90 #[ah,.func (.func 92) #[] #[.pointer (some ⟨gr_,0,none⟩),.pointer (some ⟨gx_,0,none⟩)]] w fun e w'=>∃ bk:Value,e = .returned (bk)∧Kd.R k86 86 w' w0.heap.size (fun k_=>(ζ k_∨w.heap.size≤k_)) bk r∧Below w0.heap.size w0 w'∧Kept w w' (fun k_=> ζ k_):=by
 have HCR:=Aside0.mk hgr_
 have HCX:=Aside0.mk hgx_
 have HNR:=Aside0.mk hnr_
 have HNX:=Aside0.mk hnx_
 clear hgr_ hgx_ hnr_ hnx_
 have ea:=Try.underlying86
 have η :=Aside0.mk (show Kd.R k86 86 w w0.heap.size (fun k_=>(ζ k_∨w.heap.size≤k_)) ah l0 from Kd.Q5 bb (fun k_ hk=>(.inl hk)))
 have HK:=Aside0.mk (Kept.refl w (fun k_=> ζ k_))
 have dh:=Aside0.mk hB.size
 have HB:=Aside0.mk hB
 clear hB
 have H:((api_Inside_100.f k l0 Z).bind fun ρ=>(if ρ=(-1) then (some l0) else (api_Inside_90.l0 k l0 Z ρ (wrap64 (ρ+1)))))=some r:=h
 clear h
 replace H:=Option.bind_eq_some_iff.mp H
 obtain⟨ρ,ab,H⟩:=H
 replace H:(if ρ=(-1) then (some l0) else (api_Inside_90.l0 k l0 Z ρ (wrap64 (ρ+1))))=some r:=H
 have A3:=Aside0.mk ab
 clear ab
 by_cases c4:ρ=(-1)
 ·rw[if_pos c4] at H
  have c4b0:(ρ==(-1))=true:=beq_iff_eq.mpr c4
  have c4b1:(ρ != (-1))=false:=bne_eq_false_iff_eq.mpr c4
  clear c4
  obtain rfl:=Option.some.inj H
  obtain⟨di,dj,d7⟩:=Kd.Ze η.out
  subst d7
  go_enter Try.func90,Try.ntmps90
  go_wp2_with (first|(go_at_call 100;((with_reducible refine(api_Inside_100.calls k _ _ l0 Z ρ _ ?side1 ?side2 A3.out Ar_ nr_ cr_ gr_ gx_ zx_ (X4 HCR.out (by repeat(first|(with_reducible first|exact HK.out|apply Kept.alloc|apply Kept.drewN|apply Kept.drew|refine Kept.setCell ?_ (.inr a0.out) _)|exact HK.out)) HNR.out) (X4 HCX.out (by repeat(first|(with_reducible first|exact HK.out|apply Kept.alloc|apply Kept.drewN|apply Kept.drew|refine Kept.setCell ?_ (.inr a0.out) _)|exact HK.out)) HNX.out)).mono ?_);(case side1=>repeat(first|exact(Kd.Q4 η.out).2.2|(with_reducible refine Kd.Q3 ?_ _)|(with_reducible refine Kd.Q2 ?_ _)|(with_reducible refine Kd.Q9 ?_)));(case side2=>exact(Kd.Q4 η.out).2.1);rintro e w6 ⟨rfl,hb⟩;have L:=Aside0.mk (Kd.Za (by(with_reducible repeat first|apply Kd.Qx|apply Kd.Qw|apply Kd.Qy);exact η.out) hb);have O:=Aside0.mk (Kept.below (S:=(fun k_=> ζ k_)) (by repeat(first|(with_reducible first|exact HK.out|apply Kept.alloc|apply Kept.drewN|apply Kept.drew)|exact HK.out)) hb);have X:=Aside0.mk (Qj (by repeat(first|(with_reducible first|exact HB.out|apply Qg|apply Qd|apply Qf)|exact HB.out)) hb);clear η;clear HK;clear HB;have η :=L;have HK:=O;have HB:=X;clear L O X;(try clear hb);(try clear ak);(try clear hk);(try clear hi))))
  go_ret
  exact⟨_,by first|rfl|(simp[Qo,Qn] <;> rfl)|(simp[*,Qo,Qn] <;> rfl),by(with_reducible repeat first|apply Kd.Qx|apply Kd.Qw|apply Kd.Qy);exact η.out,by repeat(first|(with_reducible first|exact HB.out|apply Qg|apply Qd|apply Qf)|exact HB.out),by repeat(first|(with_reducible first|exact HK.out|apply Kept.alloc|apply Kept.drewN|apply Kept.drew)|exact HK.out)⟩
 ·rw[if_neg c4] at H
  have c4b0:(ρ==(-1))=false:=beq_eq_false_iff_ne.mpr c4
  have c4b1:(ρ != (-1))=true:=bne_iff_ne.mpr c4
  have H':=Aside0.mk H
  clear H
  obtain⟨ai,χ,d8⟩:=Kd.Ze η.out
  subst d8
  go_enter Try.func90,Try.ntmps90
  go_wp2_with (first|(go_at_call 100;((with_reducible refine(api_Inside_100.calls k _ _ l0 Z ρ _ ?side1 ?side2 A3.out Ar_ nr_ cr_ gr_ gx_ zx_ (X4 HCR.out (by repeat(first|(with_reducible first|exact HK.out|apply Kept.alloc|apply Kept.drewN|apply Kept.drew|refine Kept.setCell ?_ (.inr a0.out) _)|exact HK.out)) HNR.out) (X4 HCX.out (by repeat(first|(with_reducible first|exact HK.out|apply Kept.alloc|apply Kept.drewN|apply Kept.drew|refine Kept.setCell ?_ (.inr a0.out) _)|exact HK.out)) HNX.out)).mono ?_);(case side1=>repeat(first|exact(Kd.Q4 η.out).2.2|(with_reducible refine Kd.Q3 ?_ _)|(with_reducible refine Kd.Q2 ?_ _)|(with_reducible refine Kd.Q9 ?_)));(case side2=>exact(Kd.Q4 η.out).2.1);rintro e w8 ⟨rfl,hb⟩;have L:=Aside0.mk (Kd.Za (by(with_reducible repeat first|apply Kd.Qx|apply Kd.Qw|apply Kd.Qy);exact η.out) hb);have O:=Aside0.mk (Kept.below (S:=(fun k_=> ζ k_)) (by repeat(first|(with_reducible first|exact HK.out|apply Kept.alloc|apply Kept.drewN|apply Kept.drew)|exact HK.out)) hb);have X:=Aside0.mk (Qj (by repeat(first|(with_reducible first|exact HB.out|apply Qg|apply Qd|apply Qf)|exact HB.out)) hb);clear η;clear HK;clear HB;have η :=L;have HK:=O;have HB:=X;clear L O X;(try clear hb);(try clear ak);(try clear hk);(try clear hi))))
  go_loopg [5,6] k (fun kq v5 v6 w'=>∃ (B:List (S86)) (J:Int) (Y:Int),v5 = .int .i64 J∧v6 = .int .i64 Y∧Aside0 (api_Inside_90.l0 kq B Z J Y=some r)∧Aside0 (kq≤k)∧Aside0 (Kd.R k86 86 w' w0.heap.size (fun k_=>(ζ k_∨w.heap.size≤k_)) (.slice ai l0.length χ) B)∧Aside0 (Kept w w' (fun k_=> ζ k_))∧Aside0 (Below w0.heap.size w0 w'))
  case atStart=>exact⟨(l0),(ρ),(wrap64 (ρ+1)),qR,qR,H',⟨Nat.le_refl _⟩,⟨by(with_reducible repeat first|apply Kd.Qx|apply Kd.Qw|apply Kd.Qy);exact η.out⟩,⟨by repeat(first|(with_reducible first|exact HK.out|apply Kept.alloc|apply Kept.drewN|apply Kept.drew)|exact HK.out)⟩,⟨by repeat(first|(with_reducible first|exact HB.out|apply Qg|apply Qd|apply Qf)|exact HB.out)⟩⟩
  case round=>
   clear H'
   try clear c1
   try clear p2
   try clear c4
   try clear c4b0
   try clear c4b1
   try clear p6
   obtain⟨B,J,Y,rfl,rfl,HA,az,HO_0,HK,HB⟩:=hrel
   have θ :=(Kd.Q4 HO_0.out).1
   rw[θ] at HO_0
   (try simp only[θ])
   cases gk with
   |zero=>exact absurd HA.out (by simp[api_Inside_90.l0])
   |succ k1=>
    have H:=HA.out
    clear HA
    simp only[api_Inside_90.l0] at H
    by_cases c9:Y<(B.length:Int)
    ·rw[if_pos c9] at H
     have c9b0:decide (Y<(B.length:Int))=true:=decide_eq_true c9
     clear c9
     by_cases c10:0≤Y
     ·rw[if_pos c10] at H
      have c10b0:decide (0≤Y)=true:=decide_eq_true c10
      clear c10
      replace H:=Option.bind_eq_some_iff.mp H
      obtain⟨a9,cp,H⟩:=H
      replace H:(if a9=true then (api_Inside_90.l0 k1 B Z J (wrap64 (Y+1))) else (if 0≤J then (if J<(B.length:Int) then (api_Inside_90.l0 k1 (B.set (J:Int).toNat (⟨(Qv B Y).f0,(Qv B Y).f1⟩:S86)) Z (wrap64 (J+1)) (wrap64 (Y+1))) else (none)) else (none)))=some r:=H
      have eg:=Aside0.mk cp
      clear cp
      by_cases b4:a9=true
      ·subst b4
       have H1:(api_Inside_90.l0 k1 B Z J (wrap64 (Y+1)))=some r:=by rw[if_pos rfl] at H;exact H
       clear H
       have H:=H1
       clear H1
       have H':=Aside0.mk H
       clear H
       have ae:0≤(Y:Int):=of_decide_eq_true (by first|(with_reducible assumption)|assumption)
       have af:Y<(B.length:Int):=of_decide_eq_true (by first|(with_reducible assumption)|assumption)
       obtain⟨γ,an,μ,σ⟩:=Y6 (Kd.Q4 HO_0.out).2.2 Y ae af
       cases an
       replace ae:=eq_true ae
       replace af:=eq_true af
       go_wp2_with (first|((with_reducible refine Qr (N:=7) rfl ?_);refine Qq ?hg (N:=7) ?hd (cs:=#[.int .i64 0,.int .i64 0]) (t:=86) ?hr ?_;(case hd=>rfl);(case hg=>rfl);(case hr=>first|(go_simp;done)|(go_simp;rfl));intro ι hg ew hbox hb;have L:=Aside0.mk (Kd.Za (Kd.Yn (by(with_reducible repeat first|apply Kd.Qx|apply Kd.Qw|apply Kd.Qy);exact HO_0.out) ι (Nat.le_of_eq hg.symm)) hb);have O:=Aside0.mk (Kept.below (S:=(fun k_=> ζ k_)) (by repeat(first|(with_reducible first|exact HK.out|apply Kept.alloc|apply Kept.drewN|apply Kept.drew)|exact HK.out)) hb);have X:=Aside0.mk (Qj (by repeat(first|(with_reducible first|exact HB.out|apply Qg|apply Qd|apply Qf)|exact HB.out)) hb);have δ :=Aside0.mk (hbox);have ξ :=Aside0.mk ((by rw[hg];exact(by first|exact HK.out.1|exact(show Kept w _ (fun k_=> ζ k_) from by repeat(first|(with_reducible first|exact HK.out|apply Kept.alloc|apply Kept.drewN|apply Kept.drew)|exact HK.out)).1):w.heap.size ≤ ι));have φ :=Aside0.mk ((by rw[hg];exact(Qi (by repeat(first|(with_reducible first|exact HB.out|apply Qg|apply Qd|apply Qf)|exact HB.out))):w0.heap.size ≤ ι));clear HO_0;clear HK;clear HB;have HO_0:=L;have HK:=O;have HB:=X;have ε := δ;have a0:= ξ;have ν := φ;clear L O X δ ξ φ;clear hb hbox hg;obtain⟨cj,ck,cm,cn⟩:=qD2 ε.out)|(go_at_call 92;((with_reducible refine(api_Inside_without_1.calls ((Qv B Y).f0) ((Qv B Y).f1) Z true _ eg.out Ar_ nr_ cr_ gr_ gx_ zx_ (X4 HCR.out (by repeat(first|(with_reducible first|exact HK.out|apply Kept.alloc|apply Kept.drewN|apply Kept.drew|refine Kept.setCell ?_ (.inr a0.out) _)|exact HK.out)) HNR.out) (X4 HCX.out (by repeat(first|(with_reducible first|exact HK.out|apply Kept.alloc|apply Kept.drewN|apply Kept.drew|refine Kept.setCell ?_ (.inr a0.out) _)|exact HK.out)) HNX.out)).mono ?_);rintro e gf ⟨rfl,hb⟩;have L:=Aside0.mk (Kd.Za (by(with_reducible repeat first|apply Kd.Qx|apply Kd.Qw|apply Kd.Qy);exact(Kd.Q5 (Kd.Q1 (p:=⟨ι,1,none⟩) (Kd.Q1 (p:=⟨ι,0,none⟩) (Kd.Q5 HO_0.out (fun k_ hk=>(⟨hk,hk.2⟩:_∧k_ ≠ ι))) (fun _ hk=>hk.2) (.int .i64 ((Qv B Y).f0))) (fun _ hk=>hk.2) (.int .i64 ((Qv B Y).f1))) (fun _ h_=>h_.1))) hb);have O:=Aside0.mk (Qh (g:= ι) (o:=.cells #[.int .i64 ((Qv B Y).f0),.int .i64 ((Qv B Y).f1)] 86 (0,0)) (by(with_reducible repeat first|apply Qb|apply Qe|apply Qc);refine Qu (cs:=#[.int .i64 ((Qv B Y).f0),.int .i64 0]) ?_ 1 _ rfl;(with_reducible repeat first|apply Qb|apply Qe|apply Qc);refine Qu (cs:=#[.int .i64 0,.int .i64 0]) ?_ 0 _ rfl;(with_reducible repeat first|apply Qb|apply Qe|apply Qc);exact ε.out) hb);have X:=Aside0.mk (Kept.below (S:=(fun k_=> ζ k_)) (by repeat(first|(with_reducible first|exact HK.out|apply Kept.alloc|apply Kept.drewN|apply Kept.drew|refine Kept.setCell ?_ (.inr a0.out) _)|exact HK.out)) hb);have δ :=Aside0.mk (Qj (by repeat(first|(with_reducible first|exact HB.out|apply Qg|apply Qd|apply Qf|refine Qa ?_ ν.out)|exact HB.out)) hb);clear HO_0;clear ε;clear HK;clear HB;have HO_0:=L;have ε :=O;have HK:=X;have HB:= δ;clear L O X δ;(try clear hb);(try clear ak);(try clear hk);(try clear hi))))
       (try simp only[← θ])
       go_roundg k1
       case measure=>have:=az.out;omega
       case rel=>exact⟨(B),(J),(wrap64 (Y+1)),qR,qR,H',⟨by have:=az.out;omega⟩,⟨by(try simp only[θ]);(with_reducible repeat first|apply Kd.Qx|apply Kd.Qw|apply Kd.Qy);exact Kd.Q5 HO_0.out (fun _ hk=>hk.1)⟩,⟨by repeat(first|(with_reducible first|exact HK.out|apply Kept.alloc|apply Kept.drewN|apply Kept.drew|refine Kept.setCell ?_ (.inr a0.out) _)|exact HK.out)⟩,⟨by repeat(first|(with_reducible first|exact HB.out|apply Qg|apply Qd|apply Qf|refine Qa ?_ ν.out)|exact HB.out)⟩⟩
      ·replace b4:=Bool.eq_false_iff.mpr b4
       subst b4
       have H1:(if 0≤J then (if J<(B.length:Int) then (api_Inside_90.l0 k1 (B.set (J:Int).toNat (⟨(Qv B Y).f0,(Qv B Y).f1⟩:S86)) Z (wrap64 (J+1)) (wrap64 (Y+1))) else (none)) else (none))=some r:=by rw[if_neg (show ¬ (false=true) by decide)] at H;exact H
       clear H
       have H:=H1
       clear H1
       by_cases aa:0≤J
       ·rw[if_pos aa] at H
        have c16b0:decide (0≤J)=true:=decide_eq_true aa
        clear aa
        by_cases a5:J<(B.length:Int)
        ·rw[if_pos a5] at H
         have c17b0:decide (J<(B.length:Int))=true:=decide_eq_true a5
         clear a5
         obtain⟨a3,a2⟩:∃ y_:List (S86),y_=(B.set (J:Int).toNat (⟨(Qv B Y).f0,(Qv B Y).f1⟩:S86)):=⟨_,rfl⟩
         replace H:(api_Inside_90.l0 k1 a3 Z (wrap64 (J+1)) (wrap64 (Y+1)))=some r:=by first|(rw[a2];with_reducible exact H)|(have ax:=(Option.bind_some _ _).symm.trans H;rw[a2];with_reducible exact ax)|(have ax:=(Option.bind_some _ _).symm.trans H;with_reducible exact ax)|with_reducible exact H|(rw[a2];exact H)|exact H
         have a4:=Aside0.mk a2
         clear a2
         have H':=Aside0.mk H
         clear H
         have ae:0≤(Y:Int):=of_decide_eq_true (by first|(with_reducible assumption)|assumption)
         have af:Y<(B.length:Int):=of_decide_eq_true (by first|(with_reducible assumption)|assumption)
         obtain⟨γ,an,μ,σ⟩:=Y6 (Kd.Q4 HO_0.out).2.2 Y ae af
         cases an
         replace ae:=eq_true ae
         replace af:=eq_true af
         go_wp2_with (first|((with_reducible refine Qr (N:=7) rfl ?_);refine Qq ?hg (N:=7) ?hd (cs:=#[.int .i64 0,.int .i64 0]) (t:=86) ?hr ?_;(case hd=>rfl);(case hg=>rfl);(case hr=>first|(go_simp;done)|(go_simp;rfl));intro ι hg ba hbox hb;have L:=Aside0.mk (Kd.Za (Kd.Yn (by(with_reducible repeat first|apply Kd.Qx|apply Kd.Qw|apply Kd.Qy);exact HO_0.out) ι (Nat.le_of_eq hg.symm)) hb);have O:=Aside0.mk (Kept.below (S:=(fun k_=> ζ k_)) (by repeat(first|(with_reducible first|exact HK.out|apply Kept.alloc|apply Kept.drewN|apply Kept.drew)|exact HK.out)) hb);have X:=Aside0.mk (Qj (by repeat(first|(with_reducible first|exact HB.out|apply Qg|apply Qd|apply Qf)|exact HB.out)) hb);have δ :=Aside0.mk (hbox);have ξ :=Aside0.mk ((by rw[hg];exact(by first|exact HK.out.1|exact(show Kept w _ (fun k_=> ζ k_) from by repeat(first|(with_reducible first|exact HK.out|apply Kept.alloc|apply Kept.drewN|apply Kept.drew)|exact HK.out)).1):w.heap.size ≤ ι));have φ :=Aside0.mk ((by rw[hg];exact(Qi (by repeat(first|(with_reducible first|exact HB.out|apply Qg|apply Qd|apply Qf)|exact HB.out))):w0.heap.size ≤ ι));clear HO_0;clear HK;clear HB;have HO_0:=L;have HK:=O;have HB:=X;have ε := δ;have a0:= ξ;have ν := φ;clear L O X δ ξ φ;clear hb hbox hg;obtain⟨cb,cd,ce,cg⟩:=qD2 ε.out)|(go_at_call 92;((with_reducible refine(api_Inside_without_1.calls ((Qv B Y).f0) ((Qv B Y).f1) Z false _ eg.out Ar_ nr_ cr_ gr_ gx_ zx_ (X4 HCR.out (by repeat(first|(with_reducible first|exact HK.out|apply Kept.alloc|apply Kept.drewN|apply Kept.drew|refine Kept.setCell ?_ (.inr a0.out) _)|exact HK.out)) HNR.out) (X4 HCX.out (by repeat(first|(with_reducible first|exact HK.out|apply Kept.alloc|apply Kept.drewN|apply Kept.drew|refine Kept.setCell ?_ (.inr a0.out) _)|exact HK.out)) HNX.out)).mono ?_);rintro e bn ⟨rfl,hb⟩;have L:=Aside0.mk (Kd.Za (by(with_reducible repeat first|apply Kd.Qx|apply Kd.Qw|apply Kd.Qy);exact(Kd.Q5 (Kd.Q1 (p:=⟨ι,1,none⟩) (Kd.Q1 (p:=⟨ι,0,none⟩) (Kd.Q5 HO_0.out (fun k_ hk=>(⟨hk,hk.2⟩:_∧k_ ≠ ι))) (fun _ hk=>hk.2) (.int .i64 ((Qv B Y).f0))) (fun _ hk=>hk.2) (.int .i64 ((Qv B Y).f1))) (fun _ h_=>h_.1))) hb);have O:=Aside0.mk (Qh (g:= ι) (o:=.cells #[.int .i64 ((Qv B Y).f0),.int .i64 ((Qv B Y).f1)] 86 (0,0)) (by(with_reducible repeat first|apply Qb|apply Qe|apply Qc);refine Qu (cs:=#[.int .i64 ((Qv B Y).f0),.int .i64 0]) ?_ 1 _ rfl;(with_reducible repeat first|apply Qb|apply Qe|apply Qc);refine Qu (cs:=#[.int .i64 0,.int .i64 0]) ?_ 0 _ rfl;(with_reducible repeat first|apply Qb|apply Qe|apply Qc);exact ε.out) hb);have X:=Aside0.mk (Kept.below (S:=(fun k_=> ζ k_)) (by repeat(first|(with_reducible first|exact HK.out|apply Kept.alloc|apply Kept.drewN|apply Kept.drew|refine Kept.setCell ?_ (.inr a0.out) _)|exact HK.out)) hb);have δ :=Aside0.mk (Qj (by repeat(first|(with_reducible first|exact HB.out|apply Qg|apply Qd|apply Qf|refine Qa ?_ ν.out)|exact HB.out)) hb);clear HO_0;clear ε;clear HK;clear HB;have HO_0:=L;have ε :=O;have HK:=X;have HB:= δ;clear L O X δ;(try clear hb);(try clear ak);(try clear hk);(try clear hi);obtain⟨cu,cv,cw,cx⟩:=qD2 ε.out;have a6:0≤(J:Int):=of_decide_eq_true (by first|(with_reducible assumption)|assumption);have a7:(J:Int)<((B.length:Int):Int):=of_decide_eq_true (by first|(with_reducible assumption)|assumption);obtain⟨κ,cz,b6,b7,bs,d0,b8⟩:=Kd.Vt HO_0.out (by omega);(first|cases b6|(injection b6 with ea_ en_ ec_;(first|subst ea_|(injection ea_ with ea_;subst ea_));subst ec_;clear en_));have ap:=Aside0.mk b7;have d1:=Aside0.mk b8;clear b7 bs b8;have d9:=Aside0.mk (show(ζ κ ∨ w.heap.size ≤ κ) from(HO_0.out.1 _ rfl).1);(first|simp only[add_plain] at μ |skip);(first|simp only[add_plain] at σ|skip);obtain⟨d2,bd,b9,τ,ψ⟩:=Kd.Y7 HO_0.out z86 (J:Int) a6 a7;obtain rfl:=Jm b9;have be:bn.cell? ⟨κ,(J:Int).toNat * 2,none⟩=some (.int .i64 ((Qv B J).f0)):= τ 0 _ rfl;have bf:bn.cell? ⟨κ,(J:Int).toNat * 2+1,none⟩=some (.int .i64 ((Qv B J).f1)):= τ 1 _ rfl;have bw:bn.frozen? ⟨κ,(J:Int).toNat * 2,none⟩=false:= ψ 0;have bz:bn.frozen? ⟨κ,(J:Int).toNat * 2+1,none⟩=false:= ψ 1;clear bd τ ψ b9;replace a6:=eq_true a6;replace a7:=eq_true a7;have bi:=Aside0.mk (show Kd.R k86 86 bn w0.heap.size (fun k_=>(ζ k_∨w.heap.size≤k_)∧k_ ≠ ι) (.slice (some ⟨κ,0,none⟩) B.length χ) B from(by(with_reducible repeat first|apply Kd.Qx|apply Kd.Qw|apply Kd.Qy);exact HO_0.out));obtain⟨dc,b1,bj,ag,al⟩:=Kd.Y7 bi.out z86 (J:Int) (of_decide_eq_true (by first|(with_reducible assumption)|assumption)) (by have h_:(J:Int)<((B.length:Int):Int):=of_decide_eq_true (by first|(with_reducible assumption)|assumption);first|exact h_|(have e_:=(Kd.Q4 HO_0.out).1;omega)|simpa using h_);obtain rfl:=Jm bj;have ay:=Kd.Wl bi.out (J:Int) (of_decide_eq_true (by first|(with_reducible assumption)|assumption)) (by have h_:(J:Int)<((B.length:Int):Int):=of_decide_eq_true (by first|(with_reducible assumption)|assumption);first|exact h_|(have e_:=(Kd.Q4 HO_0.out).1;omega)|simpa using h_) (seg:=[.int .i64 ((Qv B Y).f0),.int .i64 ((Qv B Y).f1)]) (j:=0) b1 ag (show 2≤2 from by decide) (x':=(⟨(Qv B Y).f0,(Qv B Y).f1⟩:S86)) (Vi _ _ _ (⟨(Qv B Y).f0,(Qv B Y).f1⟩:S86)) (fun _ hk=>hk);have bl:=ag 0 _ rfl;(try simp only[show(k86).sz=2 from rfl,Nat.mul_one,Nat.add_zero] at bl);have bm:=al 0;(try simp only[show(k86).sz=2 from rfl,Nat.mul_one,Nat.add_zero] at bm);have bo:=ag 1 _ rfl;(try simp only[show(k86).sz=2 from rfl,Nat.mul_one,Nat.add_zero] at bo);have bp:=al 1;(try simp only[show(k86).sz=2 from rfl,Nat.mul_one,Nat.add_zero] at bp);clear b1 ag al bj))|((with_reducible refine Y3 (t:=86) (p:=33) rfl ?_);refine Yr (t:=86) (p:=33) (v:=?vo_w24) (w1:=((bn.setCell ⟨κ,(J:Int).toNat * 2,none⟩ (.int .i64 ((Qv B Y).f0))).setCell ⟨κ,(J:Int).toNat * 2+1,none⟩ (.int .i64 ((Qv B Y).f1)))) ?hg ?ho ?hn ?hr ?_;(case ho=>rfl);(case hg=>rfl);(case hn=>rfl);(case hr=>first|(go_simp;done)|(go_simp;rfl));intro cf hw;have hg:bn.grownBy cf (some κ):=(by rw[hw];exact ay.2);have hp_:Kd.R k86 86 cf w0.heap.size (fun k_=>(ζ k_∨w.heap.size≤k_)∧k_ ≠ ι) (.slice (some ⟨κ,0,none⟩) B.length χ) a3:=(by rw[hw,a4.out];exact ay.1);clear ay;have L:=Aside0.mk (hp_);have O:=Aside0.mk (Q8 (g:= ι) (o:=.cells #[.int .i64 ((Qv B Y).f0),.int .i64 ((Qv B Y).f1)] 86 (0,0)) (by(with_reducible repeat first|apply Qb|apply Qe|apply Qc);exact ε.out) hg (Kd.U2 HO_0.out (fun _ hk=>hk.2)));have X:=Aside0.mk ((by rw[hw];exact Qa (Qa (HB.out) ap.out) ap.out:Below w0.heap.size w0 cf));have δ :=Aside0.mk (Kept.K8 (S:=(fun k_=> ζ k_)) hg (by repeat(first|(with_reducible first|exact HK.out|apply Kept.alloc|apply Kept.drewN|apply Kept.drew|refine Kept.setCell ?_ (.inr a0.out) _)|exact HK.out)) (fun k_ e_=>(HO_0.out.1 k_ e_).1));clear HO_0;clear ε;clear HB;clear HK;have HO_0:=L;have ε :=O;have HB:=X;have HK:= δ;clear L O X δ;clear hg hw hp_))
         (try simp only[← θ])
         go_roundg k1
         case measure=>have:=az.out;omega
         case rel=>exact⟨(a3),(wrap64 (J+1)),(wrap64 (Y+1)),qR,qR,H',⟨by have:=az.out;omega⟩,⟨by(try simp only[θ]);(with_reducible repeat first|apply Kd.Qx|apply Kd.Qw|apply Kd.Qy);exact Kd.Q5 HO_0.out (fun _ hk=>hk.1)⟩,⟨by repeat(first|(with_reducible first|exact HK.out|apply Kept.alloc|apply Kept.drewN|apply Kept.drew|refine Kept.setCell ?_ (.inr a0.out) _)|exact HK.out)⟩,⟨by repeat(first|(with_reducible first|exact HB.out|apply Qg|apply Qd|apply Qf|refine Qa ?_ ν.out)|exact HB.out)⟩⟩
        ·rw[if_neg a5] at H
         exact absurd H (by simp)
       ·rw[if_neg aa] at H
        exact absurd H (by simp)
     ·rw[if_neg c10] at H
      exact absurd H (by simp)
    ·rw[if_neg c9] at H
     have c9b0:decide (Y<(B.length:Int))=false:=decide_eq_false c9
     clear c9
     by_cases b5:0≤J
     ·rw[if_pos b5] at H
      have c25b0:=eq_true b5
      have c25b1:decide (0≤J)=true:=decide_eq_true b5
      clear b5
      by_cases bh:J≤(B.length:Int)
      ·rw[if_pos bh] at H
       have c26b0:=eq_true bh
       have c26b1:decide (J≤(B.length:Int))=true:=decide_eq_true bh
       clear bh
       obtain⟨ac,ω⟩:∃ y_:List (S86),y_=(B.drop (J:Int).toNat):=⟨_,rfl⟩
       replace H:(some (B.take (J:Int).toNat))=some r:=by first|(rw[ω];with_reducible exact H)|(have ax:=(Option.bind_some _ _).symm.trans H;rw[ω];with_reducible exact ax)|(have ax:=(Option.bind_some _ _).symm.trans H;with_reducible exact ax)|with_reducible exact H|(rw[ω];exact H)|exact H
       have b2:=Aside0.mk ω
       clear ω
       have c27b0:=eq_true (of_decide_eq_true (by first|(with_reducible assumption)|assumption):J≤(B.length:Int))
       obtain⟨b0,a8⟩:∃ y_:List (S86),y_=(B.take (J:Int).toNat):=⟨_,rfl⟩
       replace H:(some b0)=some r:=by first|(rw[a8];with_reducible exact H)|(have ax:=(Option.bind_some _ _).symm.trans H;rw[a8];with_reducible exact ax)|(have ax:=(Option.bind_some _ _).symm.trans H;with_reducible exact ax)|with_reducible exact H|(rw[a8];exact H)|exact H
       have ao:=Aside0.mk a8
       clear a8
       obtain rfl:=Option.some.inj H
       have bq:(J:Int)≤((B.length:Int):Int):=of_decide_eq_true (by first|(with_reducible assumption)|assumption)
       obtain⟨dd,b3,_,bc,_⟩:=info_parts K9
       have hroom28:B.length ≤ χ :=(Kd.Q4 HO_0.out).2.1
       have br:Kd.C k86 _ ai B.length B:=(Kd.Q4 HO_0.out).2.2
       have ct:(0:Int)≤(J:Int):=of_decide_eq_true (by first|(with_reducible assumption)|assumption)
       have bu:=Mc (P:=Try.prog) 48 86 .i64 Try.underlying48 b3 2 bc ai B.length χ J ct bq
       have aj:=Kd.Ek (m:=(J:Int).toNat) (c:= χ) br (by omega) hroom28
       obtain⟨cy,ar⟩:∃ A1,A1=(if χ = (J:Int).toNat then ai else (ai:Option Addr).map (·.add ((J:Int).toNat * 2))):=⟨_,rfl⟩
       obtain⟨dq,au⟩:∃ c1,c1 = χ - (J:Int).toNat:=⟨_,rfl⟩
       have av:ac.length=B.length - (J:Int).toNat:=(by rw[b2.out,List.length_drop] <;> omega)
       rw[show(B).drop (J:Int).toNat=ac from b2.out.symm] at aj
       replace aj:Kd.C k86 _ cy ac.length ac:=(by rw[ar];exact aj)
       rw[← av,← ar,← au] at bu
       have da:=Aside0.mk aj
       have db:=Aside0.mk (show ac.length≤dq from by rw[av,au];exact Nat.sub_le_sub_right hroom28 _)
       have d3:=Aside0.mk au
       clear aj br hroom28 b3 bc au
       have d4:=Aside0.mk av
       have d5:=Aside0.mk ar
       clear av ar
       have d6:=Aside0.mk (show(J:Int).toNat≤B.length from by omega)
       replace bq:=eq_true bq
       have bv:(J:Int)≤((B.length:Int):Int):=of_decide_eq_true (by first|(with_reducible assumption)|assumption)
       obtain⟨de,bg,_,ci,_⟩:=info_parts K9
       have ca:=N7 (P:=Try.prog) 48 86 .i64 Try.underlying48 bg ai B.length χ J (of_decide_eq_true (by first|(with_reducible assumption)|assumption)) bv (Kd.Q4 HO_0.out).2.1
       have aw:=Kd.Eb (m:=(J:Int).toNat) HO_0.out (by omega)
       have ch:b0.length=(J:Int).toNat:=(by rw[ao.out,List.length_take];omega)
       rw[← ao.out] at aw
       rw[← ch] at aw ca
       clear ch bg ci
       have am:=Aside0.mk aw
       clear aw
       replace bv:=eq_true bv
       go_wp2_with (first|((with_reducible refine Xq (b:=.clear) (xs:=#[.tmp 38]) rfl ?_);refine Ux flatI (w:=w) (S:=fun k_=> ζ k_) rfl (.tmp 38) 48 rfl Try.underlying48 (.agg #[.int .i64 0,.int .i64 0]) zeroI (by decide) rfl ai cy χ dq ac.length B HO_0.out (J:Int).toNat d6.out d5.out d4.out d3.out rfl HB.out HK.out (fun _ hk=>hk) b0 (ao.out) ?_;intro df co cq cr;have L:=Aside0.mk co;have O:=Aside0.mk cq;have X:=Aside0.mk cr;clear co cq cr HO_0 am HB HK;have am:=L;have HB:=O;have HK:=X;clear L O X))
       go_ret
       exact⟨_,by first|rfl|(simp[Qo,Qn] <;> rfl)|(simp[*,Qo,Qn] <;> rfl),by(with_reducible repeat first|apply Kd.Qx|apply Kd.Qw|apply Kd.Qy);exact am.out,by repeat(first|(with_reducible first|exact HB.out|apply Qg|apply Qd|apply Qf)|exact HB.out),by repeat(first|(with_reducible first|exact HK.out|apply Kept.alloc|apply Kept.drewN|apply Kept.drew)|exact HK.out)⟩
      ·rw[if_neg bh] at H
       exact absurd H (by simp)
     ·rw[if_neg b5] at H
      exact absurd H (by simp)
def api_Hall_89.l0:Nat→List (S36)→Int→Int→Int→Int→Int→Int→Option (Int×Bool)
 |0,_,_,_,_,_,_,_=>none
 |k+1,B,X,O,L,J,Y,Z=>if O<L then (if 0≤(wrap64 ((IntKind.u64.wrap (wrap64 (O+L))) / 2)) then (if (wrap64 ((IntKind.u64.wrap (wrap64 (O+L))) / 2))<(B.length:Int) then ((call_halls_1.f ((Ql B (wrap64 ((IntKind.u64.wrap (wrap64 (O+L))) / 2))).f0) ((Ql B (wrap64 ((IntKind.u64.wrap (wrap64 (O+L))) / 2))).f1) ((Ql B (wrap64 ((IntKind.u64.wrap (wrap64 (O+L))) / 2))).f2) J Y Z).bind fun a1=>(if a1<0 then (api_Hall_89.l0 k B X (wrap64 ((wrap64 ((IntKind.u64.wrap (wrap64 (O+L))) / 2))+1)) L J Y Z) else (api_Hall_89.l0 k B X O (wrap64 ((IntKind.u64.wrap (wrap64 (O+L))) / 2)) J Y Z))) else (none)) else (none)) else (if O<X then (if 0≤O then (if O<(B.length:Int) then ((call_halls_1.f ((Ql B O).f0) ((Ql B O).f1) ((Ql B O).f2) J Y Z).bind fun ξ =>(some (O,(ξ == 0)))) else (none)) else (none)) else (some (O,false)))
def api_Hall_89.f (k:Nat) (l0:List (S36)) (μ :Int) (η :Int) (ν :Int) (a2:Int):Option (Int×Bool):=api_Hall_89.l0 k l0 (l0.length:Int) 0 (l0.length:Int) μ η ν
def api_Hall_89.T5:Bool×List (List Nat×List Nat):=(true,[([],[]),([],[]),([],[]),([1,2],[1,2]),([3],[3]),([],[]),([0,4,5],[0,4,5]),([6],[6])])
def api_Hall_89.B5:List Nat:=[0,0,0,6,14,0,63,127]
theorem api_Hall_89.Mr:rtab .any (opsOf Try.f89 5)=api_Hall_89.T5:=by kernel_rfl
theorem api_Hall_89.Wj:Z3 api_Hall_89.T5.2 api_Hall_89.B5=true:=by kernel_rfl
def api_Hall_89.T8:Bool×List (List Nat×List Nat):=(true,[([],[]),([],[]),([],[]),([1,2],[1,2]),([3],[3]),([4],[4]),([4],[4]),([4],[4]),([6,7,4],[4,6,7]),([8,4],[4,8]),([4],[4]),([5,9,10,4,4],[4,5,9,10]),([11,4],[4,11]),([4,12],[4,12]),([0,11,0],[0]),([13,14,0,1,2,3,4,5,6,7,8,9,10,11,12,13,14],[13])])
def api_Hall_89.B8:List Nat:=[0,0,0,6,14,30,30,30,222,478,30,2046,4094,8190,4095,32767]
theorem api_Hall_89.Mq:rtab .any (opsOf Try.f89 8)=api_Hall_89.T8:=by kernel_rfl
theorem api_Hall_89.Wi:Z3 api_Hall_89.T8.2 api_Hall_89.B8=true:=by kernel_rfl
set_option maxHeartbeats 8000000 in
set_option maxRecDepth 100000 in
theorem api_Hall_89.calls (k:Nat) (A0:Option Addr) (c0:Nat) (l0:List (S36)) (μ :Int) (η :Int) (ν :Int) (a2:Int) (r1:Int) (r2:Bool) (w:World) (τ :Kd.C k36 w A0 l0.length l0) (γ:l0.length≤c0) (h:api_Hall_89.f k l0 μ η ν a2=some (r1,r2)):
  Calls Try.prog 89 #[.slice A0 l0.length c0,.agg #[.int .i64 μ,.int .i64 η,.int .i64 ν],.func (.func 79) #[] #[]] w fun e w'=>e = .returned (.tuple #[.int .i64 r1,.bool r2])∧Below w.heap.size w w':=by
 have da:=Try.underlying36
 have ψ :=Aside0.mk τ
 have ai:=Aside0.mk γ
 clear τ γ
 have HB:=Aside0.mk (Below.refl w.heap.size w)
 have H:(api_Hall_89.l0 k l0 (l0.length:Int) 0 (l0.length:Int) μ η ν)=some (r1,r2):=h
 clear h
 have H':=Aside0.mk H
 clear H
 go_enter Try.func89,Try.ntmps89
 go_wp2_with (first|((with_reducible refine Qr (N:=4) rfl ?_);refine Qq ?hg (N:=4) ?hd (cs:=#[.int .i64 μ,.int .i64 η,.int .i64 ν]) (t:=36) ?hr ?_;(case hd=>rfl);(case hg=>rfl);(case hr=>first|(go_simp;done)|(go_simp;rfl));intro ι hg w4 hbox hb;have L:=Aside0.mk (Qj (by repeat(first|(with_reducible first|exact HB.out|apply Qg|apply Qd|apply Qf)|exact HB.out)) hb);have O:=Aside0.mk (hbox);have X:=Aside0.mk ((by rw[hg];exact(Qi (by repeat(first|(with_reducible first|exact HB.out|apply Qg|apply Qd|apply Qf)|exact HB.out))):w.heap.size ≤ ι));have δ :=Aside0.mk ((by rw[hg];exact(Qi (by repeat(first|(with_reducible first|exact HB.out|apply Qg|apply Qd|apply Qf)|exact HB.out))):w.heap.size ≤ ι));clear HB;have HB:=L;have J:=O;have aj:=X;have a3:= δ;clear L O X δ;clear hb hbox hg))
 go_loopg [9,10] k (fun kq v9 b2 w'=>∃ (B:Int) (Y:Int),v9 = .int .i64 B∧b2 = .int .i64 Y∧Aside0 (api_Hall_89.l0 kq l0 (l0.length:Int) B Y μ η ν = some (r1,r2))∧Aside0 (kq≤k)∧Aside0 (w'.heap[ι]?=some (.cells #[.int .i64 μ,.int .i64 η,.int .i64 ν] 36 (0,0)))∧Aside0 (Below w.heap.size w w'))
 case atStart=>exact⟨(0),((l0.length:Int)),qR,qR,H',⟨Nat.le_refl _⟩,⟨by(with_reducible repeat first|apply Qb|apply Qe|apply Qc);exact J.out⟩,⟨by repeat(first|(with_reducible first|exact HB.out|apply Qg|apply Qd|apply Qf|refine Qa ?_ a3.out)|exact HB.out)⟩⟩
 case round=>
  clear H'
  try clear p2
  obtain⟨B,Y,rfl,rfl,HA,az,J,HB⟩:=hrel
  cases gk with
  |zero=>exact absurd HA.out (by simp[api_Hall_89.l0])
  |succ k1=>
   have H:=HA.out
   clear HA
   simp only[api_Hall_89.l0] at H
   by_cases c5:B<Y
   ·rw[if_pos c5] at H
    have c5b0:decide (B<Y)=true:=decide_eq_true c5
    clear c5
    obtain⟨Z,ac⟩:∃ j_:Int,(wrap64 ((IntKind.u64.wrap (wrap64 (B+Y))) / 2))=j_:=⟨_,rfl⟩
    replace H:(if 0≤(Z) then (if (Z)<(l0.length:Int) then ((call_halls_1.f ((Ql l0 (Z)).f0) ((Ql l0 (Z)).f1) ((Ql l0 (Z)).f2) μ η ν).bind fun a1=>(if a1<0 then (api_Hall_89.l0 k1 l0 (l0.length:Int) (wrap64 ((Z)+1)) Y μ η ν) else (api_Hall_89.l0 k1 l0 (l0.length:Int) B Z μ η ν))) else (none)) else (none))=some (r1,r2):=by first|(rw[ac] at H;exact H)|(simp only[ac] at H ⊢;exact H)
    have hji6w:(IntKind.i64.wrap ((IntKind.u64.wrap (wrap64 (B+Y))) / 2))=Z:=(Zi _).trans ac
    by_cases c7:0≤(Z)
    ·rw[if_pos c7] at H
     have c7b0:decide (0≤(Z))=true:=decide_eq_true c7
     clear c7
     by_cases c8:(Z)<(l0.length:Int)
     ·rw[if_pos c8] at H
      have c8b0:decide ((Z)<(l0.length:Int))=true:=decide_eq_true c8
      clear c8
      replace H:=Option.bind_eq_some_iff.mp H
      obtain⟨a1,cn,H⟩:=H
      replace H:(if a1<0 then (api_Hall_89.l0 k1 l0 (l0.length:Int) (wrap64 ((Z)+1)) Y μ η ν) else (api_Hall_89.l0 k1 l0 (l0.length:Int) B Z μ η ν))=some (r1,r2):=H
      have A9:=Aside0.mk cn
      clear cn
      by_cases c10:a1<0
      ·rw[if_pos c10] at H
       have c10b0:decide (a1<0)=true:=decide_eq_true c10
       clear c10
       have H':=Aside0.mk H
       clear H
       try go_wp2
       have L:=Aside0.mk (Qe J.out)
       have O:=Aside0.mk (Qf HB.out)
       clear J
       clear HB
       have J:=L
       have HB:=O
       clear L O
       have ae:0≤((Z):Int):=of_decide_eq_true (by first|(with_reducible assumption)|assumption)
       have af:(Z)<(l0.length:Int):=of_decide_eq_true (by first|(with_reducible assumption)|assumption)
       obtain⟨φ,ah,ε,ζ,θ⟩:=Xz ψ.out (Z) ae af
       have κ := θ
       have ρ:= ζ
       have σ:= ε
       cases ah
       replace ε :=(HB.out.cell (World.block_lt_of_cell? w _ ε)).trans ε
       replace ζ :=(HB.out.cell (World.block_lt_of_cell? w _ ζ)).trans ζ
       replace θ :=(HB.out.cell (World.block_lt_of_cell? w _ θ)).trans θ
       replace ae:=eq_true ae
       replace af:=eq_true af
       refine Zv (n:=8) (S:=fun w'=>w'.cell? ⟨ι,0,none⟩=some (.int .i64 μ)∧w'.cell? ⟨ι,1,none⟩=some (.int .i64 η)∧w'.cell? ⟨ι,2,none⟩=some (.int .i64 ν)∧w'.cell? (φ.add (((Z)).toNat * 3))=some (.int .i64 ((Ql l0 (Z)).f0))∧w'.cell? ⟨(φ.add (((Z)).toNat * 3)).block,(φ.add (((Z)).toNat * 3)).off+1,none⟩=some (.int .i64 ((Ql l0 (Z)).f1))∧w'.cell? ⟨(φ.add (((Z)).toNat * 3)).block,(φ.add (((Z)).toNat * 3)).off+2,none⟩=some (.int .i64 ((Ql l0 (Z)).f2))) (ds:=[]) #[false,false,false,false,false,false,false,false] kr rfl rfl ⟨(Qk J.out 0).trans rfl,(Qk J.out 1).trans rfl,(Qk J.out 2).trans rfl,((HB.out.cell (World.block_lt_of_cell? w _ σ)).trans σ),((HB.out.cell (World.block_lt_of_cell? w _ ρ)).trans ρ),((HB.out.cell (World.block_lt_of_cell? w _ κ)).trans κ)⟩ (fun hHeld=>?_);refine Zf api_Hall_89.Mr api_Hall_89.Wj (fun HT_ HW_=>?_)
       generalize wr.drew=em at J HB ε ζ θ hHeld ⊢
       refine qP 0 (some 24) (qB 8 1) HT_ ?_
       refine qP 1 (some 25) (qB 8 3) HT_ ?_
       refine qP 2 (some 26) (qB 8 7) HT_ ?_
       refine qP 3 (some 27) (qB 8 15) HT_ ?_
       refine qT 4 (some 28) (qB 8 31) HT_ HW_ hHeld ?_
       refine qT 5 (some 29) (qB 8 63) HT_ HW_ hHeld ?_
       refine Zn (i:=6) (N:=some 30) #[true,true,true,true,true,true,true,false] rfl rfl (Zc HT_.out kr) (by decide) (fun K hK=>?_)
       refine X2 Try.func79 kr rfl #[] #[] #[.agg #[.int .i64 ((Ql l0 (Z)).f0),.int .i64 ((Ql l0 (Z)).f1),.int .i64 ((Ql l0 (Z)).f2)],.agg #[.int .i64 μ,.int .i64 η,.int .i64 ν]] #[.agg #[.int .i64 ((Ql l0 (Z)).f0),.int .i64 ((Ql l0 (Z)).f1),.int .i64 ((Ql l0 (Z)).f2)],.agg #[.int .i64 μ,.int .i64 η,.int .i64 ν]] rfl (by rfl) rfl rfl rfl (by(try simp only[List.map_toArray,List.map_cons,List.map_nil]);first|done|(simp only[ac];rfl)|rfl|(simp only[List.length_drop,List.length_take];rfl)) ?_
       with_reducible refine(call_halls_1.calls ((Ql l0 (Z)).f0) ((Ql l0 (Z)).f1) ((Ql l0 (Z)).f2) μ η ν a1 _ A9.out).mono ?_
       rintro e fb ⟨rfl,hb⟩
       refine⟨_,rfl, ?_⟩
       have L:=Aside0.mk (Qh (g:= ι) (o:=.cells #[.int .i64 μ,.int .i64 η,.int .i64 ν] 36 (0,0)) (by(with_reducible repeat first|apply Qb|apply Qe|apply Qc);exact J.out) hb)
       have O:=Aside0.mk (Qj (by repeat(first|(with_reducible first|exact HB.out|apply Qg|apply Qd|apply Qf|refine Qa ?_ a3.out)|exact HB.out)) hb)
       clear J
       clear HB
       have J:=L
       have HB:=O
       clear L O
       (try clear hb)
       (try clear ak)
       (try clear hk)
       (try clear hi)
       refine hK.out _ _ ⟨qc J,qc J,qc J,((HB.out.cell (World.block_lt_of_cell? w _ σ)).trans σ),((HB.out.cell (World.block_lt_of_cell? w _ ρ)).trans ρ),((HB.out.cell (World.block_lt_of_cell? w _ κ)).trans κ)⟩ (fun hHeld=>?_)
       clear hK K
       refine qN (some 30) ?_
       refine qP 7 (some 31) (qB 8 255) HT_ ?_
       refine Xd (Zu HT_.out kr) ?_
       try go_wp2
       go_roundg k1
       case measure=>have:=az.out;omega
       case rel=>exact⟨(wrap64 ((Z)+1)),(Y),(by first|rfl|(simp;done)|(simp only[← ac] <;> (first|rfl|simp))|(simp[*];done)),qR,H',⟨by have:=az.out;omega⟩,⟨by(with_reducible repeat first|apply Qb|apply Qe|apply Qc);exact J.out⟩,⟨by repeat(first|(with_reducible first|exact HB.out|apply Qg|apply Qd|apply Qf|refine Qa ?_ a3.out)|exact HB.out)⟩⟩
      ·rw[if_neg c10] at H
       have c10b0:decide (a1<0)=false:=decide_eq_false c10
       clear c10
       have H':=Aside0.mk H
       clear H
       try go_wp2
       have L:=Aside0.mk (Qe J.out)
       have O:=Aside0.mk (Qf HB.out)
       clear J
       clear HB
       have J:=L
       have HB:=O
       clear L O
       have ae:0≤((Z):Int):=of_decide_eq_true (by first|(with_reducible assumption)|assumption)
       have af:(Z)<(l0.length:Int):=of_decide_eq_true (by first|(with_reducible assumption)|assumption)
       obtain⟨φ,ah,ε,ζ,θ⟩:=Xz ψ.out (Z) ae af
       have κ := θ
       have ρ:= ζ
       have σ:= ε
       cases ah
       replace ε :=(HB.out.cell (World.block_lt_of_cell? w _ ε)).trans ε
       replace ζ :=(HB.out.cell (World.block_lt_of_cell? w _ ζ)).trans ζ
       replace θ :=(HB.out.cell (World.block_lt_of_cell? w _ θ)).trans θ
       replace ae:=eq_true ae
       replace af:=eq_true af
       refine Zv (n:=8) (S:=fun w'=>w'.cell? ⟨ι,0,none⟩=some (.int .i64 μ)∧w'.cell? ⟨ι,1,none⟩=some (.int .i64 η)∧w'.cell? ⟨ι,2,none⟩=some (.int .i64 ν)∧w'.cell? (φ.add (((Z)).toNat * 3))=some (.int .i64 ((Ql l0 (Z)).f0))∧w'.cell? ⟨(φ.add (((Z)).toNat * 3)).block,(φ.add (((Z)).toNat * 3)).off+1,none⟩=some (.int .i64 ((Ql l0 (Z)).f1))∧w'.cell? ⟨(φ.add (((Z)).toNat * 3)).block,(φ.add (((Z)).toNat * 3)).off+2,none⟩=some (.int .i64 ((Ql l0 (Z)).f2))) (ds:=[]) #[false,false,false,false,false,false,false,false] kr rfl rfl ⟨(Qk J.out 0).trans rfl,(Qk J.out 1).trans rfl,(Qk J.out 2).trans rfl,((HB.out.cell (World.block_lt_of_cell? w _ σ)).trans σ),((HB.out.cell (World.block_lt_of_cell? w _ ρ)).trans ρ),((HB.out.cell (World.block_lt_of_cell? w _ κ)).trans κ)⟩ (fun hHeld=>?_);refine Zf api_Hall_89.Mr api_Hall_89.Wj (fun HT_ HW_=>?_)
       generalize wr.drew=ew at J HB ε ζ θ hHeld ⊢
       refine qP 0 (some 24) (qB 8 1) HT_ ?_
       refine qP 1 (some 25) (qB 8 3) HT_ ?_
       refine qP 2 (some 26) (qB 8 7) HT_ ?_
       refine qP 3 (some 27) (qB 8 15) HT_ ?_
       refine qT 4 (some 28) (qB 8 31) HT_ HW_ hHeld ?_
       refine qT 5 (some 29) (qB 8 63) HT_ HW_ hHeld ?_
       refine Zn (i:=6) (N:=some 30) #[true,true,true,true,true,true,true,false] rfl rfl (Zc HT_.out kr) (by decide) (fun K hK=>?_)
       refine X2 Try.func79 kr rfl #[] #[] #[.agg #[.int .i64 ((Ql l0 (Z)).f0),.int .i64 ((Ql l0 (Z)).f1),.int .i64 ((Ql l0 (Z)).f2)],.agg #[.int .i64 μ,.int .i64 η,.int .i64 ν]] #[.agg #[.int .i64 ((Ql l0 (Z)).f0),.int .i64 ((Ql l0 (Z)).f1),.int .i64 ((Ql l0 (Z)).f2)],.agg #[.int .i64 μ,.int .i64 η,.int .i64 ν]] rfl (by rfl) rfl rfl rfl (by(try simp only[List.map_toArray,List.map_cons,List.map_nil]);first|done|(simp only[ac];rfl)|rfl|(simp only[List.length_drop,List.length_take];rfl)) ?_
       with_reducible refine(call_halls_1.calls ((Ql l0 (Z)).f0) ((Ql l0 (Z)).f1) ((Ql l0 (Z)).f2) μ η ν a1 _ A9.out).mono ?_
       rintro e cf ⟨rfl,hb⟩
       refine⟨_,rfl, ?_⟩
       have L:=Aside0.mk (Qh (g:= ι) (o:=.cells #[.int .i64 μ,.int .i64 η,.int .i64 ν] 36 (0,0)) (by(with_reducible repeat first|apply Qb|apply Qe|apply Qc);exact J.out) hb)
       have O:=Aside0.mk (Qj (by repeat(first|(with_reducible first|exact HB.out|apply Qg|apply Qd|apply Qf|refine Qa ?_ a3.out)|exact HB.out)) hb)
       clear J
       clear HB
       have J:=L
       have HB:=O
       clear L O
       (try clear hb)
       (try clear ak)
       (try clear hk)
       (try clear hi)
       refine hK.out _ _ ⟨qc J,qc J,qc J,((HB.out.cell (World.block_lt_of_cell? w _ σ)).trans σ),((HB.out.cell (World.block_lt_of_cell? w _ ρ)).trans ρ),((HB.out.cell (World.block_lt_of_cell? w _ κ)).trans κ)⟩ (fun hHeld=>?_)
       clear hK K
       refine qN (some 30) ?_
       refine qP 7 (some 31) (qB 8 255) HT_ ?_
       refine Xd (Zu HT_.out kr) ?_
       try go_wp2
       go_roundg k1
       case measure=>have:=az.out;omega
       case rel=>exact⟨(B),(Z),qR,(by first|rfl|(simp;done)|(simp only[← ac] <;> (first|rfl|simp))|(simp[*];done)),H',⟨by have:=az.out;omega⟩,⟨by(with_reducible repeat first|apply Qb|apply Qe|apply Qc);exact J.out⟩,⟨by repeat(first|(with_reducible first|exact HB.out|apply Qg|apply Qd|apply Qf|refine Qa ?_ a3.out)|exact HB.out)⟩⟩
     ·rw[if_neg c8] at H
      exact absurd H (by simp)
    ·rw[if_neg c7] at H
     exact absurd H (by simp)
   ·rw[if_neg c5] at H
    have c5b0:decide (B<Y)=false:=decide_eq_false c5
    clear c5
    by_cases am:B<(l0.length:Int)
    ·rw[if_pos am] at H
     have c15b0:decide (B<(l0.length:Int))=true:=decide_eq_true am
     clear am
     by_cases aa:0≤B
     ·rw[if_pos aa] at H
      have c16b0:decide (0≤B)=true:=decide_eq_true aa
      clear aa
      by_cases a5:B<(l0.length:Int)
      ·rw[if_pos a5] at H
       have c17b0:decide (B<(l0.length:Int))=true:=decide_eq_true a5
       clear a5
       replace H:=Option.bind_eq_some_iff.mp H
       obtain⟨ξ,bi,H⟩:=H
       replace H:(some (B,(ξ == 0)))=some (r1,r2):=H
       have d7:=Aside0.mk bi
       clear bi
       simp only[Option.some.injEq,Prod.mk.injEq] at H
       obtain⟨rfl,rfl⟩:=H
       try go_wp2
       have L:=Aside0.mk (Qe J.out)
       have O:=Aside0.mk (Qf HB.out)
       clear J
       clear HB
       have J:=L
       have HB:=O
       clear L O
       have ω :0≤(B:Int):=of_decide_eq_true (by first|(with_reducible assumption)|assumption)
       have a0:B<(l0.length:Int):=of_decide_eq_true (by first|(with_reducible assumption)|assumption)
       obtain⟨a7,ag,χ,a4,a6⟩:=Xz ψ.out B ω a0
       have a8:=a6
       have a9:=a4
       have ab:= χ
       cases ag
       replace χ :=(HB.out.cell (World.block_lt_of_cell? w _ χ)).trans χ
       replace a4:=(HB.out.cell (World.block_lt_of_cell? w _ a4)).trans a4
       replace a6:=(HB.out.cell (World.block_lt_of_cell? w _ a6)).trans a6
       replace ω :=eq_true ω
       replace a0:=eq_true a0
       refine Zv (n:=16) (S:=fun w'=>w'.cell? ⟨ι,0,none⟩=some (.int .i64 μ)∧w'.cell? ⟨ι,1,none⟩=some (.int .i64 η)∧w'.cell? ⟨ι,2,none⟩=some (.int .i64 ν)∧w'.cell? (a7.add ((B).toNat * 3))=some (.int .i64 ((Ql l0 B).f0))∧w'.cell? ⟨(a7.add ((B).toNat * 3)).block,(a7.add ((B).toNat * 3)).off+1,none⟩=some (.int .i64 ((Ql l0 B).f1))∧w'.cell? ⟨(a7.add ((B).toNat * 3)).block,(a7.add ((B).toNat * 3)).off+2,none⟩=some (.int .i64 ((Ql l0 B).f2))) (ds:=[]) #[false,false,false,false,false,false,false,false,false,false,false,false,false,false,false,false] kr rfl rfl ⟨(Qk J.out 0).trans rfl,(Qk J.out 1).trans rfl,(Qk J.out 2).trans rfl,((HB.out.cell (World.block_lt_of_cell? w _ ab)).trans ab),((HB.out.cell (World.block_lt_of_cell? w _ a9)).trans a9),((HB.out.cell (World.block_lt_of_cell? w _ a8)).trans a8)⟩ (fun hHeld=>?_);refine Zf api_Hall_89.Mq api_Hall_89.Wi (fun HT_ HW_=>?_)
       generalize wr.drew=ba at J HB χ a4 a6 hHeld ⊢
       refine qP 0 (some 35) (qB 16 1) HT_ ?_
       refine qP 1 (some 36) (qB 16 3) HT_ ?_
       refine qP 2 (some 37) (qB 16 7) HT_ ?_
       refine qP 3 (some 38) (qB 16 15) HT_ ?_
       refine qP 4 (some 39) (qB 16 31) HT_ ?_
       refine qP 5 (some 40) (qB 16 63) HT_ ?_
       refine qP 6 (some 41) (qB 16 127) HT_ ?_
       refine qP 7 (some 42) (qB 16 255) HT_ ?_
       refine qP 8 (some 43) (qB 16 511) HT_ ?_
       refine qT 9 (some 44) (qB 16 1023) HT_ HW_ hHeld ?_
       refine qT 10 (some 45) (qB 16 2047) HT_ HW_ hHeld ?_
       refine Zn (i:=11) (N:=some 46) #[true,true,true,true,true,true,true,true,true,true,true,true,false,false,false,false] rfl rfl (Zc HT_.out kr) (by decide) (fun K hK=>?_)
       refine X2 Try.func79 kr rfl #[] #[] #[.agg #[.int .i64 ((Ql l0 B).f0),.int .i64 ((Ql l0 B).f1),.int .i64 ((Ql l0 B).f2)],.agg #[.int .i64 μ,.int .i64 η,.int .i64 ν]] #[.agg #[.int .i64 ((Ql l0 B).f0),.int .i64 ((Ql l0 B).f1),.int .i64 ((Ql l0 B).f2)],.agg #[.int .i64 μ,.int .i64 η,.int .i64 ν]] rfl (by rfl) rfl rfl rfl (by(try simp only[List.map_toArray,List.map_cons,List.map_nil]);first|done|rfl|(simp only[List.length_drop,List.length_take];rfl)) ?_
       with_reducible refine(call_halls_1.calls ((Ql l0 B).f0) ((Ql l0 B).f1) ((Ql l0 B).f2) μ η ν ξ _ d7.out).mono ?_
       rintro e dw ⟨rfl,hb⟩
       refine⟨_,rfl, ?_⟩
       have L:=Aside0.mk (Qh (g:= ι) (o:=.cells #[.int .i64 μ,.int .i64 η,.int .i64 ν] 36 (0,0)) (by(with_reducible repeat first|apply Qb|apply Qe|apply Qc);exact J.out) hb)
       have O:=Aside0.mk (Qj (by repeat(first|(with_reducible first|exact HB.out|apply Qg|apply Qd|apply Qf|refine Qa ?_ a3.out)|exact HB.out)) hb)
       clear J
       clear HB
       have J:=L
       have HB:=O
       clear L O
       (try clear hb)
       (try clear ak)
       (try clear hk)
       (try clear hi)
       refine hK.out _ _ ⟨qc J,qc J,qc J,((HB.out.cell (World.block_lt_of_cell? w _ ab)).trans ab),((HB.out.cell (World.block_lt_of_cell? w _ a9)).trans a9),((HB.out.cell (World.block_lt_of_cell? w _ a8)).trans a8)⟩ (fun hHeld=>?_)
       clear hK K
       refine qN (some 46) ?_
       refine qP 12 (some 47) (qB 16 8191) HT_ ?_
       refine qP 13 (some 48) (qB 16 16383) HT_ ?_
       refine qP 14 (some 6) (qB 16 32767) HT_ ?_
       refine qP 15 (some 7) (qB 16 65535) HT_ ?_
       refine Xd (Zu HT_.out kr) ?_
       try go_wp2
       go_ret2
       exact⟨by first|rfl|(simp[Qo,Qn] <;> rfl)|(simp[*,Qo,Qn] <;> rfl),by repeat(first|(with_reducible first|exact HB.out|apply Qg|apply Qd|apply Qf|refine Qa ?_ a3.out)|exact HB.out)⟩
      ·rw[if_neg a5] at H
       exact absurd H (by simp)
     ·rw[if_neg aa] at H
      exact absurd H (by simp)
    ·rw[if_neg am] at H
     have c15b0:decide (B<(l0.length:Int))=false:=decide_eq_false am
     clear am
     simp only[Option.some.injEq,Prod.mk.injEq] at H
     obtain⟨rfl,rfl⟩:=H
     try go_wp2
     have L:=Aside0.mk (Qe J.out)
     have O:=Aside0.mk (Qf HB.out)
     clear J
     clear HB
     have J:=L
     have HB:=O
     clear L O
     refine Zv (n:=16) (S:=fun w'=>True) (ds:=[]) #[false,false,false,false,false,false,false,false,false,false,false,false,false,false,false,false] kr rfl rfl trivial (fun hHeld=>?_);refine Zf api_Hall_89.Mq api_Hall_89.Wi (fun HT_ HW_=>?_)
     generalize wr.drew=bn at J HB hHeld ⊢
     refine qP 0 (some 35) (qB 16 1) HT_ ?_
     refine qP 1 (some 36) (qB 16 3) HT_ ?_
     refine qP 2 (some 37) (qB 16 7) HT_ ?_
     refine qP 3 (some 38) (qB 16 15) HT_ ?_
     refine qP 4 (some 39) (qB 16 31) HT_ ?_
     refine qU 5 (some 40) (qB 16 63) HT_ ?_
     refine qU 6 (some 41) (qB 16 127) HT_ ?_
     refine qU 7 (some 42) (qB 16 255) HT_ ?_
     refine qU 8 (some 43) (qB 16 511) HT_ ?_
     refine qU 9 (some 44) (qB 16 1023) HT_ ?_
     refine qU 10 (some 45) (qB 16 2047) HT_ ?_
     refine qU 11 (some 46) (qB 16 4095) HT_ ?_
     refine qU 12 (some 47) (qB 16 8191) HT_ ?_
     refine qP 13 (some 48) (qB 16 16383) HT_ ?_
     refine qP 14 (some 6) (qB 16 32767) HT_ ?_
     refine qP 15 (some 7) (qB 16 65535) HT_ ?_
     refine Xd (Zu HT_.out kr) ?_
     try go_wp2
     go_ret2
     exact⟨by first|rfl|(simp[Qo,Qn] <;> rfl)|(simp[*,Qo,Qn] <;> rfl),by repeat(first|(with_reducible first|exact HB.out|apply Qg|apply Qd|apply Qf|refine Qa ?_ a3.out)|exact HB.out)⟩
mutual
def api_Hall_right.l0:Nat→Int→List (S36)→Int→Int→List (S36)→Int→Option (Bool)
 |0,_,_,_,_,_,_=>none
 |k+1,J,X,O,L,B,Y=>if L<O then (if 0≤L then (if L<(X.length:Int) then ((call_hall_1.f ((Ql X L).f0) ((Ql X L).f1) ((Ql X L).f2) J).bind fun a9=>(if a9=true then (if L>0 then (if 0≤(wrap64 (L-1)) then (if (wrap64 (L-1))<(B.length:Int) then ((call_halls_1.f ((Ql B (wrap64 (L-1))).f0) ((Ql B (wrap64 (L-1))).f1) ((Ql B (wrap64 (L-1))).f2) ((Ql X L).f0) ((Ql X L).f1) ((Ql X L).f2)).bind fun a2=>(api_Hall_right.j1 k J X O L (decide (a2≥0)) B Y)) else (none)) else (none)) else (api_Hall_right.j1 k J X O L false B Y)) else (api_Hall_right.j1 k J X O L true B Y))) else (none)) else (none)) else (some true)
def api_Hall_right.j1:Nat→Int→List (S36)→Int→Int→Bool→List (S36)→Int→Option (Bool)
 |0,_,_,_,_,_,_,_=>none
 |k+1,J,X,O,L,μ,B,Y=>if μ = true then (some false) else (api_Hall_right.l0 k J X O (wrap64 (L+1)) B Y)
end
def api_Hall_right.f (k:Nat) (J:List (S36)) (B:Int) (Z:Int):Option (Bool):=api_Hall_right.l0 k Z J (J.length:Int) 0 J B
def api_Hall_right.T4:Bool×List (List Nat×List Nat):=(true,[([],[]),([],[]),([0,1],[0,1]),([2],[2]),([3,2],[3]),([4],[4]),([5,4],[4,5]),([6,4,4],[4,6]),([7],[7]),([8,7],[7,8]),([7],[7]),([10,7],[7,10]),([7],[7]),([12,7],[7,12]),([11,13,7],[7,11,13]),([14,7],[7,14]),([7],[7]),([9,15,16,7,7],[7,9,15,16]),([17,7],[7,17]),([7,18,4],[4,7,18]),([4,19],[4,19])])
def api_Hall_right.B4:List Nat:=[0,0,3,7,15,31,63,127,255,511,255,1279,255,4351,15615,31999,255,131071,262143,524287,1048575]
theorem api_Hall_right.G9:rtab .any (opsOf Try.f64 4)=api_Hall_right.T4:=by kernel_rfl
theorem api_Hall_right.Kf:Z3 api_Hall_right.T4.2 api_Hall_right.B4=true:=by kernel_rfl
set_option maxHeartbeats 8000000 in
set_option maxRecDepth 100000 in
theorem api_Hall_right.calls (k:Nat) (ρ:Option Addr) (θ :Nat) (J:List (S36)) (B:Int) (Z:Int) (r:Bool) (w:World) (ag:Kd.C k36 w ρ J.length J) (ai:J.length ≤ θ) (h:api_Hall_right.f k J B Z=some r) (gh_:Nat) (hgh_:w.heap[gh_]?=some (.cells #[.int .i64 (Ya Z),.int .i64 (X9 Z)] 59 (0,0))):
  Calls Try.prog 64 #[.agg #[.slice ρ J.length θ,.func (.func 79) #[] #[]],.func (.func 82) #[] #[.pointer (some ⟨gh_,0,none⟩)]] w fun e w'=>e = .returned (.bool r)∧Below w.heap.size w w':=by
 have HCH:=Aside0.mk hgh_
 clear hgh_
 have cy:=Try.underlying109
 have da:=Try.underlying36
 have aj:=Aside0.mk ag
 have b4:=Aside0.mk ai
 clear ag ai
 have HB:=Aside0.mk (Below.refl w.heap.size w)
 have H:(api_Hall_right.l0 k Z J (J.length:Int) 0 J B)=some r:=h
 clear h
 have H':=Aside0.mk H
 clear H
 go_enter Try.func64,Try.ntmps64
 go_wp2_with (first|((with_reducible refine Qr (N:=2) rfl ?_);refine Qq ?hg (N:=2) ?hd (cs:=#[.slice ρ J.length θ,.func (.func 79) #[] #[]]) (t:=109) ?hr ?_;(case hd=>rfl);(case hg=>rfl);(case hr=>first|(go_simp;done)|(go_simp;rfl));intro ψ hg w3 hbox hb;have L:=Aside0.mk (Qj (by repeat(first|(with_reducible first|exact HB.out|apply Qg|apply Qd|apply Qf)|exact HB.out)) hb);have O:=Aside0.mk (hbox);have X:=Aside0.mk ((by rw[hg];exact(Qi (by repeat(first|(with_reducible first|exact HB.out|apply Qg|apply Qd|apply Qf)|exact HB.out))):w.heap.size ≤ ψ));have δ :=Aside0.mk ((by rw[hg];exact(Qi (by repeat(first|(with_reducible first|exact HB.out|apply Qg|apply Qd|apply Qf)|exact HB.out))):w.heap.size ≤ ψ));clear HB;have HB:=L;have ζ :=O;have cd:=X;have a8:= δ;clear L O X δ;clear hb hbox hg;obtain⟨am,ao,au,ax⟩:=qD2 ζ.out))
 go_loopg [10] k (fun kq b2 w'=>∃ (Y:Int),b2 = .int .i64 Y∧Aside0 (api_Hall_right.l0 kq Z J (J.length:Int) Y J B=some r)∧Aside0 (kq≤k)∧Aside0 (w'.heap[ψ]?=some (.cells #[(.slice ρ J.length θ),.func (.func 79) #[] #[]] 109 (0,0)))∧Aside0 (Below w.heap.size w w'))
 case atStart=>exact⟨(0),qR,H',⟨Nat.le_refl _⟩,⟨by(with_reducible repeat first|apply Qb|apply Qe|apply Qc);exact ζ.out⟩,⟨by repeat(first|(with_reducible first|exact HB.out|apply Qg|apply Qd|apply Qf|refine Qa ?_ a8.out)|exact HB.out)⟩⟩
 case round=>
  clear H'
  try clear p2
  try clear am
  try clear ao
  try clear au
  try clear ax
  obtain⟨Y,rfl,HA,az,ζ,HB⟩:=hrel
  cases gk with
  |zero=>exact absurd HA.out (by simp[api_Hall_right.l0])
  |succ k1=>
   have H:=HA.out
   clear HA
   simp only[api_Hall_right.l0] at H
   by_cases c5:Y<(J.length:Int)
   ·rw[if_pos c5] at H
    have c5b0:decide (Y<(J.length:Int))=true:=decide_eq_true c5
    clear c5
    by_cases c6:0≤Y
    ·rw[if_pos c6] at H
     have c6b0:decide (0≤Y)=true:=decide_eq_true c6
     clear c6
     by_cases c7:Y<(J.length:Int)
     ·rw[if_pos c7] at H
      have c7b0:decide (Y<(J.length:Int))=true:=decide_eq_true c7
      clear c7
      have ay:=Aside0.mk H
      clear H
      have ae:0≤(Y:Int):=of_decide_eq_true (by first|(with_reducible assumption)|assumption)
      have af:Y<(J.length:Int):=of_decide_eq_true (by first|(with_reducible assumption)|assumption)
      obtain⟨γ,an,μ,σ,ah⟩:=Xz aj.out Y ae af
      cases an
      replace μ :=(HB.out.cell (World.block_lt_of_cell? w _ μ)).trans μ
      replace σ:=(HB.out.cell (World.block_lt_of_cell? w _ σ)).trans σ
      replace ah:=(HB.out.cell (World.block_lt_of_cell? w _ ah)).trans ah
      replace ae:=eq_true ae
      replace af:=eq_true af
      go_upto_region 4 with(first|((with_reducible refine Qr (N:=6) rfl ?_);refine Qq ?hg (N:=6) ?hd (cs:=#[.int .i64 0,.int .i64 0,.int .i64 0]) (t:=36) ?hr ?_;(case hd=>rfl);(case hg=>rfl);(case hr=>first|(go_simp;done)|(go_simp;rfl));intro ι hg w9 hbox hb;have L:=Aside0.mk (Qh (g:= ψ) (o:=.cells #[.slice (some γ) J.length θ,.func (.func 79) #[] #[]] 109 (0,0)) (by(with_reducible repeat first|apply Qb|apply Qe|apply Qc);exact ζ.out) hb);have O:=Aside0.mk (Qj (by repeat(first|(with_reducible first|exact HB.out|apply Qg|apply Qd|apply Qf|refine Qa ?_ a8.out)|exact HB.out)) hb);have X:=Aside0.mk (hbox);have δ :=Aside0.mk ((by rw[hg];exact(Qi (by repeat(first|(with_reducible first|exact HB.out|apply Qg|apply Qd|apply Qf|refine Qa ?_ a8.out)|exact HB.out))):w.heap.size ≤ ι));have ξ :=Aside0.mk ((by rw[hg];exact(Qi (by repeat(first|(with_reducible first|exact HB.out|apply Qg|apply Qd|apply Qf|refine Qa ?_ a8.out)|exact HB.out))):w.heap.size ≤ ι));have φ :=Aside0.mk ((by rw[hg];exact Nat.ne_of_lt (Qp (g:= ψ) (o:=.cells #[.slice (some γ) J.length θ,.func (.func 79) #[] #[]] 109 (0,0)) (by(with_reducible repeat first|apply Qb|apply Qe|apply Qc);exact ζ.out)): ψ ≠ ι));have ω :=Aside0.mk ((by rw[hg];exact Nat.ne_of_gt (Qp (g:= ψ) (o:=.cells #[.slice (some γ) J.length θ,.func (.func 79) #[] #[]] 109 (0,0)) (by(with_reducible repeat first|apply Qb|apply Qe|apply Qc);exact ζ.out)): ι ≠ ψ));clear ζ;clear HB;have ζ :=L;have HB:=O;have ε :=X;have a0:= δ;have ν := ξ;have κ := φ;have b3:= ω;clear L O X δ ξ φ ω;clear hb hbox hg;have eg:=b3.out;have em:= κ.out;obtain⟨aw,b5,bp,bh,bo,bq⟩:=qD3 ε.out))
      (try simp only[Act.put,qS])
      go_cut [35] (fun b8 wc=>∃ (kq:Nat) (a3:Bool),b8 = .bool a3∧Aside0 (api_Hall_right.j1 kq Z J (J.length:Int) Y a3 J B=some r)∧Aside0 (kq≤k1)∧Aside0 (wc.heap[ψ]?=some (.cells #[(.slice (some γ) J.length θ),.func (.func 79) #[] #[]] 109 (0,0)))∧Aside0 (wc.heap[ι]?=some (.cells #[.int .i64 ((Ql J Y).f0),.int .i64 ((Ql J Y).f1),.int .i64 ((Ql J Y).f2)] 36 (0,0)))∧Aside0 (Below w.heap.size w wc))
      case first=>
       have H:=ay.out
       clear ay
       replace H:=Option.bind_eq_some_iff.mp H
       obtain⟨a9,av,H⟩:=H
       replace H:(if a9=true then (if Y>0 then (if 0≤(wrap64 (Y-1)) then (if (wrap64 (Y-1))<(J.length:Int) then ((call_halls_1.f ((Ql J (wrap64 (Y-1))).f0) ((Ql J (wrap64 (Y-1))).f1) ((Ql J (wrap64 (Y-1))).f2) ((Ql J Y).f0) ((Ql J Y).f1) ((Ql J Y).f2)).bind fun a2=>(api_Hall_right.j1 k1 Z J (J.length:Int) Y (decide (a2≥0)) J B)) else (none)) else (none)) else (api_Hall_right.j1 k1 Z J (J.length:Int) Y false J B)) else (api_Hall_right.j1 k1 Z J (J.length:Int) Y true J B))=some r:=H
       have bu:=Aside0.mk av
       clear av
       by_cases ap:a9=true
       ·subst ap
        have H1:(if Y>0 then (if 0≤(wrap64 (Y-1)) then (if (wrap64 (Y-1))<(J.length:Int) then ((call_halls_1.f ((Ql J (wrap64 (Y-1))).f0) ((Ql J (wrap64 (Y-1))).f1) ((Ql J (wrap64 (Y-1))).f2) ((Ql J Y).f0) ((Ql J Y).f1) ((Ql J Y).f2)).bind fun a2=>(api_Hall_right.j1 k1 Z J (J.length:Int) Y (decide (a2≥0)) J B)) else (none)) else (none)) else (api_Hall_right.j1 k1 Z J (J.length:Int) Y false J B))=some r:=by rw[if_pos rfl] at H;exact H
        clear H
        have H:=H1
        clear H1
        by_cases al:Y>0
        ·rw[if_pos al] at H
         have c14b0:decide (0<Y)=true:=decide_eq_true al
         clear al
         (first|rw[c14b0]|(simp only[Zi,Zt];rw[c14b0])|skip)
         obtain⟨η,χ⟩:∃ j_:Int,(wrap64 (Y-1))=j_:=⟨_,rfl⟩
         replace H:(if 0≤(η) then (if (η)<(J.length:Int) then ((call_halls_1.f ((Ql J (η)).f0) ((Ql J (η)).f1) ((Ql J (η)).f2) ((Ql J Y).f0) ((Ql J Y).f1) ((Ql J Y).f2)).bind fun a2=>(api_Hall_right.j1 k1 Z J (J.length:Int) Y (decide (a2≥0)) J B)) else (none)) else (none))=some r:=by first|(rw[χ] at H;exact H)|(simp only[χ] at H ⊢;exact H)
         (try rw[χ] at bu)
         have hji15w:(IntKind.i64.wrap (Y-1)) = η :=(Zi _).trans χ
         by_cases aa:0≤(η)
         ·rw[if_pos aa] at H
          have c16b0:decide (0≤(η))=true:=decide_eq_true aa
          clear aa
          by_cases a5:(η)<(J.length:Int)
          ·rw[if_pos a5] at H
           have c17b0:decide ((η)<(J.length:Int))=true:=decide_eq_true a5
           clear a5
           replace H:=Option.bind_eq_some_iff.mp H
           obtain⟨a2,bi,H⟩:=H
           replace H:(api_Hall_right.j1 k1 Z J (J.length:Int) Y (decide (a2≥0)) J B)=some r:=H
           have d7:=Aside0.mk bi
           clear bi
           have H':=Aside0.mk H
           clear H
           try go_wp2
           have L:Aside0 ((((w9.setCell ⟨ι,0,none⟩ (.int .i64 ((Ql J Y).f0))).setCell ⟨ι,1,none⟩ (.int .i64 ((Ql J Y).f1))).setCell ⟨ι,2,none⟩ (.int .i64 ((Ql J Y).f2))).heap[ψ]?=some (.cells #[.slice (some γ) J.length θ,.func (.func 79) #[] #[]] 109 (0,0))):=⟨by(with_reducible repeat first|apply Qb|apply Qe|apply Qc);refine Qs ?_ κ.out _;(with_reducible repeat first|apply Qb|apply Qe|apply Qc);refine Qs ?_ κ.out _;(with_reducible repeat first|apply Qb|apply Qe|apply Qc);refine Qs ?_ κ.out _;(with_reducible repeat first|apply Qb|apply Qe|apply Qc);exact ζ.out⟩
           have O:Aside0 ((((w9.setCell ⟨ι,0,none⟩ (.int .i64 ((Ql J Y).f0))).setCell ⟨ι,1,none⟩ (.int .i64 ((Ql J Y).f1))).setCell ⟨ι,2,none⟩ (.int .i64 ((Ql J Y).f2))).heap[ι]?=some (.cells #[.int .i64 ((Ql J Y).f0),.int .i64 ((Ql J Y).f1),.int .i64 ((Ql J Y).f2)] 36 (0,0))):=⟨by(with_reducible repeat first|apply Qb|apply Qe|apply Qc);refine Qu (cs:=#[.int .i64 ((Ql J Y).f0),.int .i64 ((Ql J Y).f1),.int .i64 0]) ?_ 2 _ rfl;(with_reducible repeat first|apply Qb|apply Qe|apply Qc);refine Qu (cs:=#[.int .i64 ((Ql J Y).f0),.int .i64 0,.int .i64 0]) ?_ 1 _ rfl;(with_reducible repeat first|apply Qb|apply Qe|apply Qc);refine Qu (cs:=#[.int .i64 0,.int .i64 0,.int .i64 0]) ?_ 0 _ rfl;(with_reducible repeat first|apply Qb|apply Qe|apply Qc);exact ε.out⟩
           have X:Aside0 (Below w.heap.size w (((w9.setCell ⟨ι,0,none⟩ (.int .i64 ((Ql J Y).f0))).setCell ⟨ι,1,none⟩ (.int .i64 ((Ql J Y).f1))).setCell ⟨ι,2,none⟩ (.int .i64 ((Ql J Y).f2)))):=⟨by repeat(first|(with_reducible first|exact HB.out|apply Qg|apply Qd|apply Qf|refine Qa ?_ a8.out|refine Qa ?_ ν.out)|exact HB.out)⟩
           (try clear ζ)
           (try clear ε)
           (try clear HB)
           generalize(((w9.setCell ⟨ι,0,none⟩ (.int .i64 ((Ql J Y).f0))).setCell ⟨ι,1,none⟩ (.int .i64 ((Ql J Y).f1))).setCell ⟨ι,2,none⟩ (.int .i64 ((Ql J Y).f2)))=ba at L O X ⊢
           have ζ :=L
           have ε :=O
           have HB:=X
           clear L O X
           have L:=Aside0.mk (Qe ζ.out)
           have O:=Aside0.mk (Qe ε.out)
           have X:=Aside0.mk (Qf HB.out)
           clear ζ
           clear ε
           clear HB
           have ζ :=L
           have ε :=O
           have HB:=X
           clear L O X
           have b0:0≤((η):Int):=of_decide_eq_true (by first|(with_reducible assumption)|assumption)
           have b1:(η)<(J.length:Int):=of_decide_eq_true (by first|(with_reducible assumption)|assumption)
           obtain⟨b9,bb,τ,a4,a6⟩:=Xz aj.out (η) b0 b1
           have a7:=a6
           have ab:=a4
           have ac:= τ
           obtain rfl:γ=b9:=(by injection bb)
           replace τ :=(HB.out.cell (World.block_lt_of_cell? w _ τ)).trans τ
           replace a4:=(HB.out.cell (World.block_lt_of_cell? w _ a4)).trans a4
           replace a6:=(HB.out.cell (World.block_lt_of_cell? w _ a6)).trans a6
           replace b0:=eq_true b0
           replace b1:=eq_true b1
           refine Zv (n:=21) (S:=fun w'=>w'.cell? ⟨ι,0,none⟩=some (.int .i64 ((Ql J Y).f0))∧w'.cell? ⟨ι,1,none⟩=some (.int .i64 ((Ql J Y).f1))∧w'.cell? ⟨ι,2,none⟩=some (.int .i64 ((Ql J Y).f2))∧w'.cell? ⟨ψ,0,none⟩=some (.slice (some γ) J.length θ)∧w'.cell? ⟨ψ,1,none⟩=some (.func (.func 79) #[] #[])∧w'.cell? (γ.add (((η)).toNat * 3))=some (.int .i64 ((Ql J (η)).f0))∧w'.cell? ⟨(γ.add (((η)).toNat * 3)).block,(γ.add (((η)).toNat * 3)).off+1,none⟩=some (.int .i64 ((Ql J (η)).f1))∧w'.cell? ⟨(γ.add (((η)).toNat * 3)).block,(γ.add (((η)).toNat * 3)).off+2,none⟩=some (.int .i64 ((Ql J (η)).f2))) (ds:=[]) #[false,false,false,false,false,false,false,false,false,false,false,false,false,false,false,false,false,false,false,false,false] kr rfl rfl ⟨(Qk ε.out 0).trans rfl,(Qk ε.out 1).trans rfl,(Qk ε.out 2).trans rfl,(Qk ζ.out 0).trans rfl,(Qk ζ.out 1).trans rfl,((HB.out.cell (World.block_lt_of_cell? w _ ac)).trans ac),((HB.out.cell (World.block_lt_of_cell? w _ ab)).trans ab),((HB.out.cell (World.block_lt_of_cell? w _ a7)).trans a7)⟩ (fun hHeld=>?_);refine Zf api_Hall_right.G9 api_Hall_right.Kf (fun HT_ HW_=>?_)
           generalize ba.drew=dw at ζ ε HB τ a4 a6 hHeld ⊢
           refine qP 0 (some 15) (qB 21 1) HT_ ?_
           refine qT 1 (some 16) (qB 21 3) HT_ HW_ hHeld ?_
           refine Zn (i:=2) (N:=some 17) #[true,true,true,false,false,false,false,false,false,false,false,false,false,false,false,false,false,false,false,false,false] rfl rfl (Zc HT_.out kr) (by decide) (fun K hK=>?_)
           refine X2 Try.func82 kr rfl #[] #[.pointer (some ⟨gh_,0,none⟩)] #[.agg #[.int .i64 ((Ql J Y).f0),.int .i64 ((Ql J Y).f1),.int .i64 ((Ql J Y).f2)]] #[.agg #[.int .i64 ((Ql J Y).f0),.int .i64 ((Ql J Y).f1),.int .i64 ((Ql J Y).f2)],.pointer (some ⟨gh_,0,none⟩)] rfl (by rfl) rfl rfl rfl (by(try simp only[List.map_toArray,List.map_cons,List.map_nil]);first|done|rfl|(simp only[List.length_drop,List.length_take];rfl)) ?_
           with_reducible refine(call_hall_1.calls ((Ql J Y).f0) ((Ql J Y).f1) ((Ql J Y).f2) Z true _ bu.out gh_ (Xa HCH.out (by repeat(first|(with_reducible first|exact HB.out|apply Qg|apply Qd|apply Qf)|exact HB.out|(refine Qa ?_ (Aside0.out (by assumption))))))).mono ?_
           rintro e bn ⟨rfl,hb⟩
           refine⟨_,rfl, ?_⟩
           have L:=Aside0.mk (Qh (g:= ψ) (o:=.cells #[.slice (some γ) J.length θ,.func (.func 79) #[] #[]] 109 (0,0)) (by(with_reducible repeat first|apply Qb|apply Qe|apply Qc);exact ζ.out) hb)
           have O:=Aside0.mk (Qh (g:= ι) (o:=.cells #[.int .i64 ((Ql J Y).f0),.int .i64 ((Ql J Y).f1),.int .i64 ((Ql J Y).f2)] 36 (0,0)) (by(with_reducible repeat first|apply Qb|apply Qe|apply Qc);exact ε.out) hb)
           have X:=Aside0.mk (Qj (by repeat(first|(with_reducible first|exact HB.out|apply Qg|apply Qd|apply Qf|refine Qa ?_ a8.out|refine Qa ?_ ν.out)|exact HB.out)) hb)
           clear ζ
           clear ε
           clear HB
           have ζ :=L
           have ε :=O
           have HB:=X
           clear L O X
           (try clear hb)
           (try clear ak)
           (try clear hk)
           (try clear hi)
           refine hK.out _ _ ⟨qc ε,qc ε,qc ε,qc ζ,qc ζ,((HB.out.cell (World.block_lt_of_cell? w _ ac)).trans ac),((HB.out.cell (World.block_lt_of_cell? w _ ab)).trans ab),((HB.out.cell (World.block_lt_of_cell? w _ a7)).trans a7)⟩ (fun hHeld=>?_)
           clear hK K
           refine qN (some 17) ?_
           refine qP 3 (some 18) (qB 21 15) HT_ ?_
           refine qP 4 (some 19) (qB 21 31) HT_ ?_
           refine qP 5 (some 20) (qB 21 63) HT_ ?_
           refine qP 6 (some 21) (qB 21 127) HT_ ?_
           refine qP 7 (some 22) (qB 21 255) HT_ ?_
           refine qP 8 (some 23) (qB 21 511) HT_ ?_
           refine qP 10 (some 25) (qB 21 1535) HT_ ?_
           refine qP 12 (some 27) (qB 21 5631) HT_ ?_
           refine qP 13 (some 28) (qB 21 13823) HT_ ?_
           refine qT 9 (some 24) (qB 21 14335) HT_ HW_ hHeld ?_
           refine qT 11 (some 26) (qB 21 16383) HT_ HW_ hHeld ?_
           refine qP 14 (some 29) (qB 21 32767) HT_ ?_
           refine qT 15 (some 30) (qB 21 65535) HT_ HW_ hHeld ?_
           refine qT 16 (some 31) (qB 21 131071) HT_ HW_ hHeld ?_
           refine Zn (i:=17) (N:=some 32) #[true,true,true,true,true,true,true,true,true,true,true,true,true,true,true,true,true,true,false,false,false] rfl rfl (Zc HT_.out kr) (by decide) (fun K hK=>?_)
           refine X2 Try.func79 kr rfl #[] #[] #[.agg #[.int .i64 ((Ql J (η)).f0),.int .i64 ((Ql J (η)).f1),.int .i64 ((Ql J (η)).f2)],.agg #[.int .i64 ((Ql J Y).f0),.int .i64 ((Ql J Y).f1),.int .i64 ((Ql J Y).f2)]] #[.agg #[.int .i64 ((Ql J (η)).f0),.int .i64 ((Ql J (η)).f1),.int .i64 ((Ql J (η)).f2)],.agg #[.int .i64 ((Ql J Y).f0),.int .i64 ((Ql J Y).f1),.int .i64 ((Ql J Y).f2)]] rfl (by rfl) rfl rfl rfl (by(try simp only[List.map_toArray,List.map_cons,List.map_nil]);first|done|(simp only[χ];rfl)|rfl|(simp only[List.length_drop,List.length_take];rfl)) ?_
           with_reducible refine(call_halls_1.calls ((Ql J (η)).f0) ((Ql J (η)).f1) ((Ql J (η)).f2) ((Ql J Y).f0) ((Ql J Y).f1) ((Ql J Y).f2) a2 _ d7.out).mono ?_
           rintro e bm ⟨rfl,hb⟩
           refine⟨_,rfl, ?_⟩
           have L:=Aside0.mk (Qh (g:= ψ) (o:=.cells #[.slice (some γ) J.length θ,.func (.func 79) #[] #[]] 109 (0,0)) (by(with_reducible repeat first|apply Qb|apply Qe|apply Qc);exact ζ.out) hb)
           have O:=Aside0.mk (Qh (g:= ι) (o:=.cells #[.int .i64 ((Ql J Y).f0),.int .i64 ((Ql J Y).f1),.int .i64 ((Ql J Y).f2)] 36 (0,0)) (by(with_reducible repeat first|apply Qb|apply Qe|apply Qc);exact ε.out) hb)
           have X:=Aside0.mk (Qj (by repeat(first|(with_reducible first|exact HB.out|apply Qg|apply Qd|apply Qf|refine Qa ?_ a8.out|refine Qa ?_ ν.out)|exact HB.out)) hb)
           clear ζ
           clear ε
           clear HB
           have ζ :=L
           have ε :=O
           have HB:=X
           clear L O X
           (try clear hb)
           (try clear ak)
           (try clear hk)
           (try clear hi)
           refine hK.out _ _ ⟨qc ε,qc ε,qc ε,qc ζ,qc ζ,((HB.out.cell (World.block_lt_of_cell? w _ ac)).trans ac),((HB.out.cell (World.block_lt_of_cell? w _ ab)).trans ab),((HB.out.cell (World.block_lt_of_cell? w _ a7)).trans a7)⟩ (fun hHeld=>?_)
           clear hK K
           refine qN (some 32) ?_
           refine qP 18 (some 33) (qB 21 524287) HT_ ?_
           refine qP 19 (some 34) (qB 21 1048575) HT_ ?_
           refine qP 20 (some 35) (qB 21 2097151) HT_ ?_
           refine Xd (Zu HT_.out kr) ?_
           try go_wp2
           go_meet
           case rel=>exact⟨_,(decide (a2≥0)),qR,H',⟨by have:=az.out;first|omega|exact Nat.le_refl _⟩,⟨by(with_reducible repeat first|apply Qb|apply Qe|apply Qc);exact ζ.out⟩,⟨by(with_reducible repeat first|apply Qb|apply Qe|apply Qc);exact ε.out⟩,⟨by repeat(first|(with_reducible first|exact HB.out|apply Qg|apply Qd|apply Qf|refine Qa ?_ a8.out|refine Qa ?_ ν.out)|exact HB.out)⟩⟩
          ·rw[if_neg a5] at H
           exact absurd H (by simp)
         ·rw[if_neg aa] at H
          exact absurd H (by simp)
        ·rw[if_neg al] at H
         have c14b0:decide (0<Y)=false:=decide_eq_false al
         clear al
         (first|rw[c14b0]|(simp only[Zi,Zt];rw[c14b0])|skip)
         have H':=Aside0.mk H
         clear H
         try go_wp2
         have L:Aside0 ((((w9.setCell ⟨ι,0,none⟩ (.int .i64 ((Ql J Y).f0))).setCell ⟨ι,1,none⟩ (.int .i64 ((Ql J Y).f1))).setCell ⟨ι,2,none⟩ (.int .i64 ((Ql J Y).f2))).heap[ψ]?=some (.cells #[.slice (some γ) J.length θ,.func (.func 79) #[] #[]] 109 (0,0))):=⟨by(with_reducible repeat first|apply Qb|apply Qe|apply Qc);refine Qs ?_ κ.out _;(with_reducible repeat first|apply Qb|apply Qe|apply Qc);refine Qs ?_ κ.out _;(with_reducible repeat first|apply Qb|apply Qe|apply Qc);refine Qs ?_ κ.out _;(with_reducible repeat first|apply Qb|apply Qe|apply Qc);exact ζ.out⟩
         have O:Aside0 ((((w9.setCell ⟨ι,0,none⟩ (.int .i64 ((Ql J Y).f0))).setCell ⟨ι,1,none⟩ (.int .i64 ((Ql J Y).f1))).setCell ⟨ι,2,none⟩ (.int .i64 ((Ql J Y).f2))).heap[ι]?=some (.cells #[.int .i64 ((Ql J Y).f0),.int .i64 ((Ql J Y).f1),.int .i64 ((Ql J Y).f2)] 36 (0,0))):=⟨by(with_reducible repeat first|apply Qb|apply Qe|apply Qc);refine Qu (cs:=#[.int .i64 ((Ql J Y).f0),.int .i64 ((Ql J Y).f1),.int .i64 0]) ?_ 2 _ rfl;(with_reducible repeat first|apply Qb|apply Qe|apply Qc);refine Qu (cs:=#[.int .i64 ((Ql J Y).f0),.int .i64 0,.int .i64 0]) ?_ 1 _ rfl;(with_reducible repeat first|apply Qb|apply Qe|apply Qc);refine Qu (cs:=#[.int .i64 0,.int .i64 0,.int .i64 0]) ?_ 0 _ rfl;(with_reducible repeat first|apply Qb|apply Qe|apply Qc);exact ε.out⟩
         have X:Aside0 (Below w.heap.size w (((w9.setCell ⟨ι,0,none⟩ (.int .i64 ((Ql J Y).f0))).setCell ⟨ι,1,none⟩ (.int .i64 ((Ql J Y).f1))).setCell ⟨ι,2,none⟩ (.int .i64 ((Ql J Y).f2)))):=⟨by repeat(first|(with_reducible first|exact HB.out|apply Qg|apply Qd|apply Qf|refine Qa ?_ a8.out|refine Qa ?_ ν.out)|exact HB.out)⟩
         (try clear ζ)
         (try clear ε)
         (try clear HB)
         generalize(((w9.setCell ⟨ι,0,none⟩ (.int .i64 ((Ql J Y).f0))).setCell ⟨ι,1,none⟩ (.int .i64 ((Ql J Y).f1))).setCell ⟨ι,2,none⟩ (.int .i64 ((Ql J Y).f2)))=bl at L O X ⊢
         have ζ :=L
         have ε :=O
         have HB:=X
         clear L O X
         have L:=Aside0.mk (Qe ζ.out)
         have O:=Aside0.mk (Qe ε.out)
         have X:=Aside0.mk (Qf HB.out)
         clear ζ
         clear ε
         clear HB
         have ζ :=L
         have ε :=O
         have HB:=X
         clear L O X
         refine Zv (n:=21) (S:=fun w'=>w'.cell? ⟨ι,0,none⟩=some (.int .i64 ((Ql J Y).f0))∧w'.cell? ⟨ι,1,none⟩=some (.int .i64 ((Ql J Y).f1))∧w'.cell? ⟨ι,2,none⟩=some (.int .i64 ((Ql J Y).f2))) (ds:=[]) #[false,false,false,false,false,false,false,false,false,false,false,false,false,false,false,false,false,false,false,false,false] kr rfl rfl ⟨(Qk ε.out 0).trans rfl,(Qk ε.out 1).trans rfl,(Qk ε.out 2).trans rfl⟩ (fun hHeld=>?_);refine Zf api_Hall_right.G9 api_Hall_right.Kf (fun HT_ HW_=>?_)
         generalize bl.drew=cf at ζ ε HB hHeld ⊢
         refine qP 0 (some 15) (qB 21 1) HT_ ?_
         refine qT 1 (some 16) (qB 21 3) HT_ HW_ hHeld ?_
         refine Zn (i:=2) (N:=some 17) #[true,true,true,false,false,false,false,false,false,false,false,false,false,false,false,false,false,false,false,false,false] rfl rfl (Zc HT_.out kr) (by decide) (fun K hK=>?_)
         refine X2 Try.func82 kr rfl #[] #[.pointer (some ⟨gh_,0,none⟩)] #[.agg #[.int .i64 ((Ql J Y).f0),.int .i64 ((Ql J Y).f1),.int .i64 ((Ql J Y).f2)]] #[.agg #[.int .i64 ((Ql J Y).f0),.int .i64 ((Ql J Y).f1),.int .i64 ((Ql J Y).f2)],.pointer (some ⟨gh_,0,none⟩)] rfl (by rfl) rfl rfl rfl (by(try simp only[List.map_toArray,List.map_cons,List.map_nil]);first|done|rfl|(simp only[List.length_drop,List.length_take];rfl)) ?_
         with_reducible refine(call_hall_1.calls ((Ql J Y).f0) ((Ql J Y).f1) ((Ql J Y).f2) Z true _ bu.out gh_ (Xa HCH.out (by repeat(first|(with_reducible first|exact HB.out|apply Qg|apply Qd|apply Qf)|exact HB.out|(refine Qa ?_ (Aside0.out (by assumption))))))).mono ?_
         rintro e en ⟨rfl,hb⟩
         refine⟨_,rfl, ?_⟩
         have L:=Aside0.mk (Qh (g:= ψ) (o:=.cells #[.slice (some γ) J.length θ,.func (.func 79) #[] #[]] 109 (0,0)) (by(with_reducible repeat first|apply Qb|apply Qe|apply Qc);exact ζ.out) hb)
         have O:=Aside0.mk (Qh (g:= ι) (o:=.cells #[.int .i64 ((Ql J Y).f0),.int .i64 ((Ql J Y).f1),.int .i64 ((Ql J Y).f2)] 36 (0,0)) (by(with_reducible repeat first|apply Qb|apply Qe|apply Qc);exact ε.out) hb)
         have X:=Aside0.mk (Qj (by repeat(first|(with_reducible first|exact HB.out|apply Qg|apply Qd|apply Qf|refine Qa ?_ a8.out|refine Qa ?_ ν.out)|exact HB.out)) hb)
         clear ζ
         clear ε
         clear HB
         have ζ :=L
         have ε :=O
         have HB:=X
         clear L O X
         (try clear hb)
         (try clear ak)
         (try clear hk)
         (try clear hi)
         refine hK.out _ _ ⟨qc ε,qc ε,qc ε⟩ (fun hHeld=>?_)
         clear hK K
         refine qN (some 17) ?_
         refine qP 3 (some 18) (qB 21 15) HT_ ?_
         refine qP 4 (some 19) (qB 21 31) HT_ ?_
         refine qP 5 (some 20) (qB 21 63) HT_ ?_
         refine qP 6 (some 21) (qB 21 127) HT_ ?_
         refine qP 7 (some 22) (qB 21 255) HT_ ?_
         refine qU 8 (some 23) (qB 21 511) HT_ ?_
         refine qU 9 (some 24) (qB 21 1023) HT_ ?_
         refine qU 10 (some 25) (qB 21 2047) HT_ ?_
         refine qU 11 (some 26) (qB 21 4095) HT_ ?_
         refine qU 12 (some 27) (qB 21 8191) HT_ ?_
         refine qU 13 (some 28) (qB 21 16383) HT_ ?_
         refine qU 14 (some 29) (qB 21 32767) HT_ ?_
         refine qU 15 (some 30) (qB 21 65535) HT_ ?_
         refine qU 16 (some 31) (qB 21 131071) HT_ ?_
         refine qU 17 (some 32) (qB 21 262143) HT_ ?_
         refine qU 18 (some 33) (qB 21 524287) HT_ ?_
         refine qP 19 (some 34) (qB 21 1048575) HT_ ?_
         refine qP 20 (some 35) (qB 21 2097151) HT_ ?_
         refine Xd (Zu HT_.out kr) ?_
         try go_wp2
         go_meet
         case rel=>exact⟨_,(false),qR,H',⟨by have:=az.out;first|omega|exact Nat.le_refl _⟩,⟨by(with_reducible repeat first|apply Qb|apply Qe|apply Qc);exact ζ.out⟩,⟨by(with_reducible repeat first|apply Qb|apply Qe|apply Qc);exact ε.out⟩,⟨by repeat(first|(with_reducible first|exact HB.out|apply Qg|apply Qd|apply Qf|refine Qa ?_ a8.out|refine Qa ?_ ν.out)|exact HB.out)⟩⟩
       ·replace ap:=Bool.eq_false_iff.mpr ap
        subst ap
        have H1:(api_Hall_right.j1 k1 Z J (J.length:Int) Y true J B)=some r:=by rw[if_neg (show ¬ (false=true) by decide)] at H;exact H
        clear H
        have H:=H1
        clear H1
        have H':=Aside0.mk H
        clear H
        try go_wp2
        have L:Aside0 ((((w9.setCell ⟨ι,0,none⟩ (.int .i64 ((Ql J Y).f0))).setCell ⟨ι,1,none⟩ (.int .i64 ((Ql J Y).f1))).setCell ⟨ι,2,none⟩ (.int .i64 ((Ql J Y).f2))).heap[ψ]?=some (.cells #[.slice (some γ) J.length θ,.func (.func 79) #[] #[]] 109 (0,0))):=⟨by(with_reducible repeat first|apply Qb|apply Qe|apply Qc);refine Qs ?_ κ.out _;(with_reducible repeat first|apply Qb|apply Qe|apply Qc);refine Qs ?_ κ.out _;(with_reducible repeat first|apply Qb|apply Qe|apply Qc);refine Qs ?_ κ.out _;(with_reducible repeat first|apply Qb|apply Qe|apply Qc);exact ζ.out⟩
        have O:Aside0 ((((w9.setCell ⟨ι,0,none⟩ (.int .i64 ((Ql J Y).f0))).setCell ⟨ι,1,none⟩ (.int .i64 ((Ql J Y).f1))).setCell ⟨ι,2,none⟩ (.int .i64 ((Ql J Y).f2))).heap[ι]?=some (.cells #[.int .i64 ((Ql J Y).f0),.int .i64 ((Ql J Y).f1),.int .i64 ((Ql J Y).f2)] 36 (0,0))):=⟨by(with_reducible repeat first|apply Qb|apply Qe|apply Qc);refine Qu (cs:=#[.int .i64 ((Ql J Y).f0),.int .i64 ((Ql J Y).f1),.int .i64 0]) ?_ 2 _ rfl;(with_reducible repeat first|apply Qb|apply Qe|apply Qc);refine Qu (cs:=#[.int .i64 ((Ql J Y).f0),.int .i64 0,.int .i64 0]) ?_ 1 _ rfl;(with_reducible repeat first|apply Qb|apply Qe|apply Qc);refine Qu (cs:=#[.int .i64 0,.int .i64 0,.int .i64 0]) ?_ 0 _ rfl;(with_reducible repeat first|apply Qb|apply Qe|apply Qc);exact ε.out⟩
        have X:Aside0 (Below w.heap.size w (((w9.setCell ⟨ι,0,none⟩ (.int .i64 ((Ql J Y).f0))).setCell ⟨ι,1,none⟩ (.int .i64 ((Ql J Y).f1))).setCell ⟨ι,2,none⟩ (.int .i64 ((Ql J Y).f2)))):=⟨by repeat(first|(with_reducible first|exact HB.out|apply Qg|apply Qd|apply Qf|refine Qa ?_ a8.out|refine Qa ?_ ν.out)|exact HB.out)⟩
        (try clear ζ)
        (try clear ε)
        (try clear HB)
        generalize(((w9.setCell ⟨ι,0,none⟩ (.int .i64 ((Ql J Y).f0))).setCell ⟨ι,1,none⟩ (.int .i64 ((Ql J Y).f1))).setCell ⟨ι,2,none⟩ (.int .i64 ((Ql J Y).f2)))=i2 at L O X ⊢
        have ζ :=L
        have ε :=O
        have HB:=X
        clear L O X
        have L:=Aside0.mk (Qe ζ.out)
        have O:=Aside0.mk (Qe ε.out)
        have X:=Aside0.mk (Qf HB.out)
        clear ζ
        clear ε
        clear HB
        have ζ :=L
        have ε :=O
        have HB:=X
        clear L O X
        refine Zv (n:=21) (S:=fun w'=>w'.cell? ⟨ι,0,none⟩=some (.int .i64 ((Ql J Y).f0))∧w'.cell? ⟨ι,1,none⟩=some (.int .i64 ((Ql J Y).f1))∧w'.cell? ⟨ι,2,none⟩=some (.int .i64 ((Ql J Y).f2))) (ds:=[]) #[false,false,false,false,false,false,false,false,false,false,false,false,false,false,false,false,false,false,false,false,false] kr rfl rfl ⟨(Qk ε.out 0).trans rfl,(Qk ε.out 1).trans rfl,(Qk ε.out 2).trans rfl⟩ (fun hHeld=>?_);refine Zf api_Hall_right.G9 api_Hall_right.Kf (fun HT_ HW_=>?_)
        generalize i2.drew=dn at ζ ε HB hHeld ⊢
        refine qP 0 (some 15) (qB 21 1) HT_ ?_
        refine qT 1 (some 16) (qB 21 3) HT_ HW_ hHeld ?_
        refine Zn (i:=2) (N:=some 17) #[true,true,true,false,false,false,false,false,false,false,false,false,false,false,false,false,false,false,false,false,false] rfl rfl (Zc HT_.out kr) (by decide) (fun K hK=>?_)
        refine X2 Try.func82 kr rfl #[] #[.pointer (some ⟨gh_,0,none⟩)] #[.agg #[.int .i64 ((Ql J Y).f0),.int .i64 ((Ql J Y).f1),.int .i64 ((Ql J Y).f2)]] #[.agg #[.int .i64 ((Ql J Y).f0),.int .i64 ((Ql J Y).f1),.int .i64 ((Ql J Y).f2)],.pointer (some ⟨gh_,0,none⟩)] rfl (by rfl) rfl rfl rfl (by(try simp only[List.map_toArray,List.map_cons,List.map_nil]);first|done|rfl|(simp only[List.length_drop,List.length_take];rfl)) ?_
        with_reducible refine(call_hall_1.calls ((Ql J Y).f0) ((Ql J Y).f1) ((Ql J Y).f2) Z false _ bu.out gh_ (Xa HCH.out (by repeat(first|(with_reducible first|exact HB.out|apply Qg|apply Qd|apply Qf)|exact HB.out|(refine Qa ?_ (Aside0.out (by assumption))))))).mono ?_
        rintro e eh ⟨rfl,hb⟩
        refine⟨_,rfl, ?_⟩
        have L:=Aside0.mk (Qh (g:= ψ) (o:=.cells #[.slice (some γ) J.length θ,.func (.func 79) #[] #[]] 109 (0,0)) (by(with_reducible repeat first|apply Qb|apply Qe|apply Qc);exact ζ.out) hb)
        have O:=Aside0.mk (Qh (g:= ι) (o:=.cells #[.int .i64 ((Ql J Y).f0),.int .i64 ((Ql J Y).f1),.int .i64 ((Ql J Y).f2)] 36 (0,0)) (by(with_reducible repeat first|apply Qb|apply Qe|apply Qc);exact ε.out) hb)
        have X:=Aside0.mk (Qj (by repeat(first|(with_reducible first|exact HB.out|apply Qg|apply Qd|apply Qf|refine Qa ?_ a8.out|refine Qa ?_ ν.out)|exact HB.out)) hb)
        clear ζ
        clear ε
        clear HB
        have ζ :=L
        have ε :=O
        have HB:=X
        clear L O X
        (try clear hb)
        (try clear ak)
        (try clear hk)
        (try clear hi)
        refine hK.out _ _ ⟨qc ε,qc ε,qc ε⟩ (fun hHeld=>?_)
        clear hK K
        refine qN (some 17) ?_
        refine qP 3 (some 18) (qB 21 15) HT_ ?_
        refine qP 4 (some 19) (qB 21 31) HT_ ?_
        refine qU 5 (some 20) (qB 21 63) HT_ ?_
        refine qU 6 (some 21) (qB 21 127) HT_ ?_
        refine qU 7 (some 22) (qB 21 255) HT_ ?_
        refine qU 8 (some 23) (qB 21 511) HT_ ?_
        refine qU 9 (some 24) (qB 21 1023) HT_ ?_
        refine qU 10 (some 25) (qB 21 2047) HT_ ?_
        refine qU 11 (some 26) (qB 21 4095) HT_ ?_
        refine qU 12 (some 27) (qB 21 8191) HT_ ?_
        refine qU 13 (some 28) (qB 21 16383) HT_ ?_
        refine qU 14 (some 29) (qB 21 32767) HT_ ?_
        refine qU 15 (some 30) (qB 21 65535) HT_ ?_
        refine qU 16 (some 31) (qB 21 131071) HT_ ?_
        refine qU 17 (some 32) (qB 21 262143) HT_ ?_
        refine qU 18 (some 33) (qB 21 524287) HT_ ?_
        refine qU 19 (some 34) (qB 21 1048575) HT_ ?_
        refine qP 20 (some 35) (qB 21 2097151) HT_ ?_
        refine Xd (Zu HT_.out kr) ?_
        try go_wp2
        go_meet
        case rel=>exact⟨_,(true),qR,H',⟨by have:=az.out;first|omega|exact Nat.le_refl _⟩,⟨by(with_reducible repeat first|apply Qb|apply Qe|apply Qc);exact ζ.out⟩,⟨by(with_reducible repeat first|apply Qb|apply Qe|apply Qc);exact ε.out⟩,⟨by repeat(first|(with_reducible first|exact HB.out|apply Qg|apply Qd|apply Qf|refine Qa ?_ a8.out|refine Qa ?_ ν.out)|exact HB.out)⟩⟩
      case rest=>
       clear ay
       try clear c1
       try clear p1
       try clear q1
       try clear ar
       try clear p2
       try clear c7
       try clear c8
       try clear bd
       try clear be
       try clear bc
       try clear ap
       try clear al
       try clear c14b0
       try clear aa
       try clear a5
       try clear c17b0
       try clear τ
       try clear a4
       try clear a6
       try clear b0
       try clear b1
       obtain⟨kq,a3,rfl,HA,b6,ζ,ε,HB⟩:=hcut
       cases kq with
       |zero=>exact absurd HA.out (by simp[api_Hall_right.j1])
       |succ b7=>
        have H:=HA.out
        clear HA
        simp only[api_Hall_right.j1] at H
        by_cases cm:a3=true
        ·subst cm
         have H1:(some false)=some r:=by rw[if_pos rfl] at H;exact H
         clear H
         have H:=H1
         clear H1
         obtain rfl:=Option.some.inj H
         go_wp2
         go_ret
         exact⟨by first|rfl|(simp[Qo,Qn] <;> rfl)|(simp[*,Qo,Qn] <;> rfl),by repeat(first|(with_reducible first|exact HB.out|apply Qg|apply Qd|apply Qf|refine Qa ?_ a8.out|refine Qa ?_ ν.out)|exact HB.out)⟩
        ·replace cm:=Bool.eq_false_iff.mpr cm
         subst cm
         have H1:(api_Hall_right.l0 b7 Z J (J.length:Int) (wrap64 (Y+1)) J B)=some r:=by rw[if_neg (show ¬ (false=true) by decide)] at H;exact H
         clear H
         have H:=H1
         clear H1
         have H':=Aside0.mk H
         clear H
         go_wp2
         go_roundg b7
         case measure=>have:=az.out;have:=b6.out;omega
         case rel=>exact⟨(wrap64 (Y+1)),qR,H',⟨by have:=az.out;have:=b6.out;omega⟩,⟨by(with_reducible repeat first|apply Qb|apply Qe|apply Qc);exact ζ.out⟩,⟨by repeat(first|(with_reducible first|exact HB.out|apply Qg|apply Qd|apply Qf|refine Qa ?_ a8.out|refine Qa ?_ ν.out)|exact HB.out)⟩⟩
     ·rw[if_neg c7] at H
      exact absurd H (by simp)
    ·rw[if_neg c6] at H
     exact absurd H (by simp)
   ·rw[if_neg c5] at H
    have c5b0:decide (Y<(J.length:Int))=false:=decide_eq_false c5
    clear c5
    obtain rfl:=Option.some.inj H
    go_wp2
    go_ret
    exact⟨by first|rfl|(simp[Qo,Qn] <;> rfl)|(simp[*,Qo,Qn] <;> rfl),by repeat(first|(with_reducible first|exact HB.out|apply Qg|apply Qd|apply Qf|refine Qa ?_ a8.out)|exact HB.out)⟩
mutual
def api_Inside_right.l0:Nat→Int→List (S86)→Int→Int→List (S86)→Int→Option (Bool)
 |0,_,_,_,_,_,_=>none
 |k+1,J,X,O,L,B,Y=>if L<O then (if 0≤L then (if L<(X.length:Int) then ((call_inside_1.f ((Qv X L).f0) ((Qv X L).f1) J).bind fun ae=>(if ae=true then (if L>0 then (if 0≤(wrap64 (L-1)) then (if (wrap64 (L-1))<(B.length:Int) then ((call_ins_1.f ((Qv B (wrap64 (L-1))).f0) ((Qv B (wrap64 (L-1))).f1) ((Qv X L).f0) ((Qv X L).f1)).bind fun κ =>(api_Inside_right.j1 k J X O L (decide (κ ≥ 0)) B Y)) else (none)) else (none)) else (api_Inside_right.j1 k J X O L false B Y)) else (api_Inside_right.j1 k J X O L true B Y))) else (none)) else (none)) else (some true)
def api_Inside_right.j1:Nat→Int→List (S86)→Int→Int→Bool→List (S86)→Int→Option (Bool)
 |0,_,_,_,_,_,_,_=>none
 |k+1,J,X,O,L,μ,B,Y=>if μ = true then (some false) else (api_Inside_right.l0 k J X O (wrap64 (L+1)) B Y)
end
def api_Inside_right.f (k:Nat) (J:List (S86)) (B:Int) (Z:Int):Option (Bool):=api_Inside_right.l0 k Z J (J.length:Int) 0 J B
def api_Inside_right.T4:Bool×List (List Nat×List Nat):=(true,[([],[]),([],[]),([0,1],[0,1]),([2],[2]),([3,2],[3]),([4],[4]),([5,4],[4,5]),([6,4,4],[4,6]),([7],[7]),([8,7],[7,8]),([7],[7]),([10,7],[7,10]),([7],[7]),([12,7],[7,12]),([11,13,7],[7,11,13]),([14,7],[7,14]),([7],[7]),([9,15,16,7,7],[7,9,15,16]),([17,7],[7,17]),([7,18,4],[4,7,18]),([4,19],[4,19])])
def api_Inside_right.B4:List Nat:=[0,0,3,7,15,31,63,127,255,511,255,1279,255,4351,15615,31999,255,131071,262143,524287,1048575]
theorem api_Inside_right.G9:rtab .any (opsOf Try.f67 4)=api_Inside_right.T4:=by kernel_rfl
theorem api_Inside_right.Kf:Z3 api_Inside_right.T4.2 api_Inside_right.B4=true:=by kernel_rfl
set_option maxHeartbeats 8000000 in
set_option maxRecDepth 100000 in
theorem api_Inside_right.calls (k:Nat) (ρ:Option Addr) (θ :Nat) (J:List (S86)) (B:Int) (Z:Int) (r:Bool) (w:World) (ag:Kd.C k86 w ρ J.length J) (ai:J.length ≤ θ) (h:api_Inside_right.f k J B Z=some r) (gh_:Nat) (hgh_:w.heap[gh_]?=some (.cells #[.int .i64 (Ya Z),.int .i64 (X9 Z)] 59 (0,0))):
  Calls Try.prog 67 #[.agg #[.slice ρ J.length θ,.func (.func 83) #[] #[]],.func (.func 84) #[] #[.pointer (some ⟨gh_,0,none⟩)]] w fun e w'=>e = .returned (.bool r)∧Below w.heap.size w w':=by
 have HCH:=Aside0.mk hgh_
 clear hgh_
 have b3:=Try.underlying116
 have ea:=Try.underlying86
 have aj:=Aside0.mk ag
 have b4:=Aside0.mk ai
 clear ag ai
 have HB:=Aside0.mk (Below.refl w.heap.size w)
 have H:(api_Inside_right.l0 k Z J (J.length:Int) 0 J B)=some r:=h
 clear h
 have H':=Aside0.mk H
 clear H
 go_enter Try.func67,Try.ntmps67
 go_wp2_with (first|((with_reducible refine Qr (N:=2) rfl ?_);refine Qq ?hg (N:=2) ?hd (cs:=#[.slice ρ J.length θ,.func (.func 83) #[] #[]]) (t:=116) ?hr ?_;(case hd=>rfl);(case hg=>rfl);(case hr=>first|(go_simp;done)|(go_simp;rfl));intro ι hg w3 hbox hb;have L:=Aside0.mk (Qj (by repeat(first|(with_reducible first|exact HB.out|apply Qg|apply Qd|apply Qf)|exact HB.out)) hb);have O:=Aside0.mk (hbox);have X:=Aside0.mk ((by rw[hg];exact(Qi (by repeat(first|(with_reducible first|exact HB.out|apply Qg|apply Qd|apply Qf)|exact HB.out))):w.heap.size ≤ ι));have δ :=Aside0.mk ((by rw[hg];exact(Qi (by repeat(first|(with_reducible first|exact HB.out|apply Qg|apply Qd|apply Qf)|exact HB.out))):w.heap.size ≤ ι));clear HB;have HB:=L;have ζ :=O;have b9:=X;have μ := δ;clear L O X δ;clear hb hbox hg;obtain⟨am,ao,au,ax⟩:=qD2 ζ.out))
 go_loopg [10] k (fun kq b2 w'=>∃ (Y:Int),b2 = .int .i64 Y∧Aside0 (api_Inside_right.l0 kq Z J (J.length:Int) Y J B=some r)∧Aside0 (kq≤k)∧Aside0 (w'.heap[ι]?=some (.cells #[(.slice ρ J.length θ),.func (.func 83) #[] #[]] 116 (0,0)))∧Aside0 (Below w.heap.size w w'))
 case atStart=>exact⟨(0),qR,H',⟨Nat.le_refl _⟩,⟨by(with_reducible repeat first|apply Qb|apply Qe|apply Qc);exact ζ.out⟩,⟨by repeat(first|(with_reducible first|exact HB.out|apply Qg|apply Qd|apply Qf|refine Qa ?_ μ.out)|exact HB.out)⟩⟩
 case round=>
  clear H'
  try clear p2
  try clear am
  try clear ao
  try clear au
  try clear ax
  obtain⟨Y,rfl,HA,az,ζ,HB⟩:=hrel
  cases gk with
  |zero=>exact absurd HA.out (by simp[api_Inside_right.l0])
  |succ k1=>
   have H:=HA.out
   clear HA
   simp only[api_Inside_right.l0] at H
   by_cases c5:Y<(J.length:Int)
   ·rw[if_pos c5] at H
    have c5b0:decide (Y<(J.length:Int))=true:=decide_eq_true c5
    clear c5
    by_cases c6:0≤Y
    ·rw[if_pos c6] at H
     have c6b0:decide (0≤Y)=true:=decide_eq_true c6
     clear c6
     by_cases c7:Y<(J.length:Int)
     ·rw[if_pos c7] at H
      have c7b0:decide (Y<(J.length:Int))=true:=decide_eq_true c7
      clear c7
      have ay:=Aside0.mk H
      clear H
      have ac:0≤(Y:Int):=of_decide_eq_true (by first|(with_reducible assumption)|assumption)
      have af:Y<(J.length:Int):=of_decide_eq_true (by first|(with_reducible assumption)|assumption)
      obtain⟨σ,b0,a6,a7⟩:=Y6 aj.out Y ac af
      cases b0
      replace a6:=(HB.out.cell (World.block_lt_of_cell? w _ a6)).trans a6
      replace a7:=(HB.out.cell (World.block_lt_of_cell? w _ a7)).trans a7
      replace ac:=eq_true ac
      replace af:=eq_true af
      go_upto_region 4 with(first|((with_reducible refine Qr (N:=6) rfl ?_);refine Qq ?hg (N:=6) ?hd (cs:=#[.int .i64 0,.int .i64 0]) (t:=86) ?hr ?_;(case hd=>rfl);(case hg=>rfl);(case hr=>first|(go_simp;done)|(go_simp;rfl));intro ε hg w9 hbox hb;have L:=Aside0.mk (Qh (g:= ι) (o:=.cells #[.slice (some σ) J.length θ,.func (.func 83) #[] #[]] 116 (0,0)) (by(with_reducible repeat first|apply Qb|apply Qe|apply Qc);exact ζ.out) hb);have O:=Aside0.mk (Qj (by repeat(first|(with_reducible first|exact HB.out|apply Qg|apply Qd|apply Qf|refine Qa ?_ μ.out)|exact HB.out)) hb);have X:=Aside0.mk (hbox);have δ :=Aside0.mk ((by rw[hg];exact(Qi (by repeat(first|(with_reducible first|exact HB.out|apply Qg|apply Qd|apply Qf|refine Qa ?_ μ.out)|exact HB.out))):w.heap.size ≤ ε));have ξ :=Aside0.mk ((by rw[hg];exact(Qi (by repeat(first|(with_reducible first|exact HB.out|apply Qg|apply Qd|apply Qf|refine Qa ?_ μ.out)|exact HB.out))):w.heap.size ≤ ε));have φ :=Aside0.mk ((by rw[hg];exact Nat.ne_of_lt (Qp (g:= ι) (o:=.cells #[.slice (some σ) J.length θ,.func (.func 83) #[] #[]] 116 (0,0)) (by(with_reducible repeat first|apply Qb|apply Qe|apply Qc);exact ζ.out)): ι ≠ ε));have ω :=Aside0.mk ((by rw[hg];exact Nat.ne_of_gt (Qp (g:= ι) (o:=.cells #[.slice (some σ) J.length θ,.func (.func 83) #[] #[]] 116 (0,0)) (by(with_reducible repeat first|apply Qb|apply Qe|apply Qc);exact ζ.out)): ε ≠ ι));clear ζ;clear HB;have ζ :=L;have HB:=O;have γ:=X;have ah:= δ;have ν := ξ;have τ := φ;have ab:= ω;clear L O X δ ξ φ ω;clear hb hbox hg;have eg:=ab.out;have em:= τ.out;obtain⟨aw,b5,bh,bo⟩:=qD2 γ.out))
      (try simp only[Act.put,qS])
      go_cut [35] (fun b8 wc=>∃ (kq:Nat) (a3:Bool),b8 = .bool a3∧Aside0 (api_Inside_right.j1 kq Z J (J.length:Int) Y a3 J B=some r)∧Aside0 (kq≤k1)∧Aside0 (wc.heap[ι]?=some (.cells #[(.slice (some σ) J.length θ),.func (.func 83) #[] #[]] 116 (0,0)))∧Aside0 (wc.heap[ε]?=some (.cells #[.int .i64 ((Qv J Y).f0),.int .i64 ((Qv J Y).f1)] 86 (0,0)))∧Aside0 (Below w.heap.size w wc))
      case first=>
       have H:=ay.out
       clear ay
       replace H:=Option.bind_eq_some_iff.mp H
       obtain⟨ae,av,H⟩:=H
       replace H:(if ae=true then (if Y>0 then (if 0≤(wrap64 (Y-1)) then (if (wrap64 (Y-1))<(J.length:Int) then ((call_ins_1.f ((Qv J (wrap64 (Y-1))).f0) ((Qv J (wrap64 (Y-1))).f1) ((Qv J Y).f0) ((Qv J Y).f1)).bind fun κ =>(api_Inside_right.j1 k1 Z J (J.length:Int) Y (decide (κ ≥ 0)) J B)) else (none)) else (none)) else (api_Inside_right.j1 k1 Z J (J.length:Int) Y false J B)) else (api_Inside_right.j1 k1 Z J (J.length:Int) Y true J B))=some r:=H
       have bu:=Aside0.mk av
       clear av
       by_cases ap:ae=true
       ·subst ap
        have H1:(if Y>0 then (if 0≤(wrap64 (Y-1)) then (if (wrap64 (Y-1))<(J.length:Int) then ((call_ins_1.f ((Qv J (wrap64 (Y-1))).f0) ((Qv J (wrap64 (Y-1))).f1) ((Qv J Y).f0) ((Qv J Y).f1)).bind fun κ =>(api_Inside_right.j1 k1 Z J (J.length:Int) Y (decide (κ ≥ 0)) J B)) else (none)) else (none)) else (api_Inside_right.j1 k1 Z J (J.length:Int) Y false J B))=some r:=by rw[if_pos rfl] at H;exact H
        clear H
        have H:=H1
        clear H1
        by_cases al:Y>0
        ·rw[if_pos al] at H
         have c14b0:decide (0<Y)=true:=decide_eq_true al
         clear al
         (first|rw[c14b0]|(simp only[Zi,Zt];rw[c14b0])|skip)
         obtain⟨η,χ⟩:∃ j_:Int,(wrap64 (Y-1))=j_:=⟨_,rfl⟩
         replace H:(if 0≤(η) then (if (η)<(J.length:Int) then ((call_ins_1.f ((Qv J (η)).f0) ((Qv J (η)).f1) ((Qv J Y).f0) ((Qv J Y).f1)).bind fun κ =>(api_Inside_right.j1 k1 Z J (J.length:Int) Y (decide (κ ≥ 0)) J B)) else (none)) else (none))=some r:=by first|(rw[χ] at H;exact H)|(simp only[χ] at H ⊢;exact H)
         (try rw[χ] at bu)
         have hji15w:(IntKind.i64.wrap (Y-1)) = η :=(Zi _).trans χ
         by_cases aa:0≤(η)
         ·rw[if_pos aa] at H
          have c16b0:decide (0≤(η))=true:=decide_eq_true aa
          clear aa
          by_cases a5:(η)<(J.length:Int)
          ·rw[if_pos a5] at H
           have c17b0:decide ((η)<(J.length:Int))=true:=decide_eq_true a5
           clear a5
           replace H:=Option.bind_eq_some_iff.mp H
           obtain⟨κ,bi,H⟩:=H
           replace H:(api_Inside_right.j1 k1 Z J (J.length:Int) Y (decide (κ ≥ 0)) J B)=some r:=H
           have d7:=Aside0.mk bi
           clear bi
           have H':=Aside0.mk H
           clear H
           try go_wp2
           have L:Aside0 (((w9.setCell ⟨ε,0,none⟩ (.int .i64 ((Qv J Y).f0))).setCell ⟨ε,1,none⟩ (.int .i64 ((Qv J Y).f1))).heap[ι]?=some (.cells #[.slice (some σ) J.length θ,.func (.func 83) #[] #[]] 116 (0,0))):=⟨by(with_reducible repeat first|apply Qb|apply Qe|apply Qc);refine Qs ?_ τ.out _;(with_reducible repeat first|apply Qb|apply Qe|apply Qc);refine Qs ?_ τ.out _;(with_reducible repeat first|apply Qb|apply Qe|apply Qc);exact ζ.out⟩
           have O:Aside0 (((w9.setCell ⟨ε,0,none⟩ (.int .i64 ((Qv J Y).f0))).setCell ⟨ε,1,none⟩ (.int .i64 ((Qv J Y).f1))).heap[ε]?=some (.cells #[.int .i64 ((Qv J Y).f0),.int .i64 ((Qv J Y).f1)] 86 (0,0))):=⟨by(with_reducible repeat first|apply Qb|apply Qe|apply Qc);refine Qu (cs:=#[.int .i64 ((Qv J Y).f0),.int .i64 0]) ?_ 1 _ rfl;(with_reducible repeat first|apply Qb|apply Qe|apply Qc);refine Qu (cs:=#[.int .i64 0,.int .i64 0]) ?_ 0 _ rfl;(with_reducible repeat first|apply Qb|apply Qe|apply Qc);exact γ.out⟩
           have X:Aside0 (Below w.heap.size w ((w9.setCell ⟨ε,0,none⟩ (.int .i64 ((Qv J Y).f0))).setCell ⟨ε,1,none⟩ (.int .i64 ((Qv J Y).f1)))):=⟨by repeat(first|(with_reducible first|exact HB.out|apply Qg|apply Qd|apply Qf|refine Qa ?_ μ.out|refine Qa ?_ ν.out)|exact HB.out)⟩
           (try clear ζ)
           (try clear γ)
           (try clear HB)
           generalize((w9.setCell ⟨ε,0,none⟩ (.int .i64 ((Qv J Y).f0))).setCell ⟨ε,1,none⟩ (.int .i64 ((Qv J Y).f1)))=ba at L O X ⊢
           have ζ :=L
           have γ:=O
           have HB:=X
           clear L O X
           have L:=Aside0.mk (Qe ζ.out)
           have O:=Aside0.mk (Qe γ.out)
           have X:=Aside0.mk (Qf HB.out)
           clear ζ
           clear γ
           clear HB
           have ζ :=L
           have γ:=O
           have HB:=X
           clear L O X
           have a8:0≤((η):Int):=of_decide_eq_true (by first|(with_reducible assumption)|assumption)
           have a9:(η)<(J.length:Int):=of_decide_eq_true (by first|(with_reducible assumption)|assumption)
           obtain⟨an,b1,ψ,a0⟩:=Y6 aj.out (η) a8 a9
           have a2:=a0
           have a4:= ψ
           obtain rfl:σ=an:=(by injection b1)
           replace ψ :=(HB.out.cell (World.block_lt_of_cell? w _ ψ)).trans ψ
           replace a0:=(HB.out.cell (World.block_lt_of_cell? w _ a0)).trans a0
           replace a8:=eq_true a8
           replace a9:=eq_true a9
           refine Zv (n:=21) (S:=fun w'=>w'.cell? ⟨ε,0,none⟩=some (.int .i64 ((Qv J Y).f0))∧w'.cell? ⟨ε,1,none⟩=some (.int .i64 ((Qv J Y).f1))∧w'.cell? ⟨ι,0,none⟩=some (.slice (some σ) J.length θ)∧w'.cell? ⟨ι,1,none⟩=some (.func (.func 83) #[] #[])∧w'.cell? (σ.add (((η)).toNat * 2))=some (.int .i64 ((Qv J (η)).f0))∧w'.cell? ⟨(σ.add (((η)).toNat * 2)).block,(σ.add (((η)).toNat * 2)).off+1,none⟩=some (.int .i64 ((Qv J (η)).f1))) (ds:=[]) #[false,false,false,false,false,false,false,false,false,false,false,false,false,false,false,false,false,false,false,false,false] kr rfl rfl ⟨(Qk γ.out 0).trans rfl,(Qk γ.out 1).trans rfl,(Qk ζ.out 0).trans rfl,(Qk ζ.out 1).trans rfl,((HB.out.cell (World.block_lt_of_cell? w _ a4)).trans a4),((HB.out.cell (World.block_lt_of_cell? w _ a2)).trans a2)⟩ (fun hHeld=>?_);refine Zf api_Inside_right.G9 api_Inside_right.Kf (fun HT_ HW_=>?_)
           generalize ba.drew=dw at ζ γ HB ψ a0 hHeld ⊢
           refine qP 0 (some 15) (qB 21 1) HT_ ?_
           refine qT 1 (some 16) (qB 21 3) HT_ HW_ hHeld ?_
           refine Zn (i:=2) (N:=some 17) #[true,true,true,false,false,false,false,false,false,false,false,false,false,false,false,false,false,false,false,false,false] rfl rfl (Zc HT_.out kr) (by decide) (fun K hK=>?_)
           refine X2 Try.func84 kr rfl #[] #[.pointer (some ⟨gh_,0,none⟩)] #[.agg #[.int .i64 ((Qv J Y).f0),.int .i64 ((Qv J Y).f1)]] #[.agg #[.int .i64 ((Qv J Y).f0),.int .i64 ((Qv J Y).f1)],.pointer (some ⟨gh_,0,none⟩)] rfl (by rfl) rfl rfl rfl (by(try simp only[List.map_toArray,List.map_cons,List.map_nil]);first|done|rfl|(simp only[List.length_drop,List.length_take];rfl)) ?_
           with_reducible refine(call_inside_1.calls ((Qv J Y).f0) ((Qv J Y).f1) Z true _ bu.out gh_ (Xa HCH.out (by repeat(first|(with_reducible first|exact HB.out|apply Qg|apply Qd|apply Qf)|exact HB.out|(refine Qa ?_ (Aside0.out (by assumption))))))).mono ?_
           rintro e bn ⟨rfl,hb⟩
           refine⟨_,rfl, ?_⟩
           have L:=Aside0.mk (Qh (g:= ι) (o:=.cells #[.slice (some σ) J.length θ,.func (.func 83) #[] #[]] 116 (0,0)) (by(with_reducible repeat first|apply Qb|apply Qe|apply Qc);exact ζ.out) hb)
           have O:=Aside0.mk (Qh (g:= ε) (o:=.cells #[.int .i64 ((Qv J Y).f0),.int .i64 ((Qv J Y).f1)] 86 (0,0)) (by(with_reducible repeat first|apply Qb|apply Qe|apply Qc);exact γ.out) hb)
           have X:=Aside0.mk (Qj (by repeat(first|(with_reducible first|exact HB.out|apply Qg|apply Qd|apply Qf|refine Qa ?_ μ.out|refine Qa ?_ ν.out)|exact HB.out)) hb)
           clear ζ
           clear γ
           clear HB
           have ζ :=L
           have γ:=O
           have HB:=X
           clear L O X
           (try clear hb)
           (try clear ak)
           (try clear hk)
           (try clear hi)
           refine hK.out _ _ ⟨qc γ,qc γ,qc ζ,qc ζ,((HB.out.cell (World.block_lt_of_cell? w _ a4)).trans a4),((HB.out.cell (World.block_lt_of_cell? w _ a2)).trans a2)⟩ (fun hHeld=>?_)
           clear hK K
           refine qN (some 17) ?_
           refine qP 3 (some 18) (qB 21 15) HT_ ?_
           refine qP 4 (some 19) (qB 21 31) HT_ ?_
           refine qP 5 (some 20) (qB 21 63) HT_ ?_
           refine qP 6 (some 21) (qB 21 127) HT_ ?_
           refine qP 7 (some 22) (qB 21 255) HT_ ?_
           refine qP 8 (some 23) (qB 21 511) HT_ ?_
           refine qP 10 (some 25) (qB 21 1535) HT_ ?_
           refine qP 12 (some 27) (qB 21 5631) HT_ ?_
           refine qP 13 (some 28) (qB 21 13823) HT_ ?_
           refine qT 9 (some 24) (qB 21 14335) HT_ HW_ hHeld ?_
           refine qT 11 (some 26) (qB 21 16383) HT_ HW_ hHeld ?_
           refine qP 14 (some 29) (qB 21 32767) HT_ ?_
           refine qT 15 (some 30) (qB 21 65535) HT_ HW_ hHeld ?_
           refine qT 16 (some 31) (qB 21 131071) HT_ HW_ hHeld ?_
           refine Zn (i:=17) (N:=some 32) #[true,true,true,true,true,true,true,true,true,true,true,true,true,true,true,true,true,true,false,false,false] rfl rfl (Zc HT_.out kr) (by decide) (fun K hK=>?_)
           refine X2 Try.func83 kr rfl #[] #[] #[.agg #[.int .i64 ((Qv J (η)).f0),.int .i64 ((Qv J (η)).f1)],.agg #[.int .i64 ((Qv J Y).f0),.int .i64 ((Qv J Y).f1)]] #[.agg #[.int .i64 ((Qv J (η)).f0),.int .i64 ((Qv J (η)).f1)],.agg #[.int .i64 ((Qv J Y).f0),.int .i64 ((Qv J Y).f1)]] rfl (by rfl) rfl rfl rfl (by(try simp only[List.map_toArray,List.map_cons,List.map_nil]);first|done|(simp only[χ];rfl)|rfl|(simp only[List.length_drop,List.length_take];rfl)) ?_
           with_reducible refine(call_ins_1.calls ((Qv J (η)).f0) ((Qv J (η)).f1) ((Qv J Y).f0) ((Qv J Y).f1) κ _ d7.out).mono ?_
           rintro e bm ⟨rfl,hb⟩
           refine⟨_,rfl, ?_⟩
           have L:=Aside0.mk (Qh (g:= ι) (o:=.cells #[.slice (some σ) J.length θ,.func (.func 83) #[] #[]] 116 (0,0)) (by(with_reducible repeat first|apply Qb|apply Qe|apply Qc);exact ζ.out) hb)
           have O:=Aside0.mk (Qh (g:= ε) (o:=.cells #[.int .i64 ((Qv J Y).f0),.int .i64 ((Qv J Y).f1)] 86 (0,0)) (by(with_reducible repeat first|apply Qb|apply Qe|apply Qc);exact γ.out) hb)
           have X:=Aside0.mk (Qj (by repeat(first|(with_reducible first|exact HB.out|apply Qg|apply Qd|apply Qf|refine Qa ?_ μ.out|refine Qa ?_ ν.out)|exact HB.out)) hb)
           clear ζ
           clear γ
           clear HB
           have ζ :=L
           have γ:=O
           have HB:=X
           clear L O X
           (try clear hb)
           (try clear ak)
           (try clear hk)
           (try clear hi)
           refine hK.out _ _ ⟨qc γ,qc γ,qc ζ,qc ζ,((HB.out.cell (World.block_lt_of_cell? w _ a4)).trans a4),((HB.out.cell (World.block_lt_of_cell? w _ a2)).trans a2)⟩ (fun hHeld=>?_)
           clear hK K
           refine qN (some 32) ?_
           refine qP 18 (some 33) (qB 21 524287) HT_ ?_
           refine qP 19 (some 34) (qB 21 1048575) HT_ ?_
           refine qP 20 (some 35) (qB 21 2097151) HT_ ?_
           refine Xd (Zu HT_.out kr) ?_
           try go_wp2
           go_meet
           case rel=>exact⟨_,(decide (κ ≥ 0)),qR,H',⟨by have:=az.out;first|omega|exact Nat.le_refl _⟩,⟨by(with_reducible repeat first|apply Qb|apply Qe|apply Qc);exact ζ.out⟩,⟨by(with_reducible repeat first|apply Qb|apply Qe|apply Qc);exact γ.out⟩,⟨by repeat(first|(with_reducible first|exact HB.out|apply Qg|apply Qd|apply Qf|refine Qa ?_ μ.out|refine Qa ?_ ν.out)|exact HB.out)⟩⟩
          ·rw[if_neg a5] at H
           exact absurd H (by simp)
         ·rw[if_neg aa] at H
          exact absurd H (by simp)
        ·rw[if_neg al] at H
         have c14b0:decide (0<Y)=false:=decide_eq_false al
         clear al
         (first|rw[c14b0]|(simp only[Zi,Zt];rw[c14b0])|skip)
         have H':=Aside0.mk H
         clear H
         try go_wp2
         have L:Aside0 (((w9.setCell ⟨ε,0,none⟩ (.int .i64 ((Qv J Y).f0))).setCell ⟨ε,1,none⟩ (.int .i64 ((Qv J Y).f1))).heap[ι]?=some (.cells #[.slice (some σ) J.length θ,.func (.func 83) #[] #[]] 116 (0,0))):=⟨by(with_reducible repeat first|apply Qb|apply Qe|apply Qc);refine Qs ?_ τ.out _;(with_reducible repeat first|apply Qb|apply Qe|apply Qc);refine Qs ?_ τ.out _;(with_reducible repeat first|apply Qb|apply Qe|apply Qc);exact ζ.out⟩
         have O:Aside0 (((w9.setCell ⟨ε,0,none⟩ (.int .i64 ((Qv J Y).f0))).setCell ⟨ε,1,none⟩ (.int .i64 ((Qv J Y).f1))).heap[ε]?=some (.cells #[.int .i64 ((Qv J Y).f0),.int .i64 ((Qv J Y).f1)] 86 (0,0))):=⟨by(with_reducible repeat first|apply Qb|apply Qe|apply Qc);refine Qu (cs:=#[.int .i64 ((Qv J Y).f0),.int .i64 0]) ?_ 1 _ rfl;(with_reducible repeat first|apply Qb|apply Qe|apply Qc);refine Qu (cs:=#[.int .i64 0,.int .i64 0]) ?_ 0 _ rfl;(with_reducible repeat first|apply Qb|apply Qe|apply Qc);exact γ.out⟩
         have X:Aside0 (Below w.heap.size w ((w9.setCell ⟨ε,0,none⟩ (.int .i64 ((Qv J Y).f0))).setCell ⟨ε,1,none⟩ (.int .i64 ((Qv J Y).f1)))):=⟨by repeat(first|(with_reducible first|exact HB.out|apply Qg|apply Qd|apply Qf|refine Qa ?_ μ.out|refine Qa ?_ ν.out)|exact HB.out)⟩
         (try clear ζ)
         (try clear γ)
         (try clear HB)
         generalize((w9.setCell ⟨ε,0,none⟩ (.int .i64 ((Qv J Y).f0))).setCell ⟨ε,1,none⟩ (.int .i64 ((Qv J Y).f1)))=bl at L O X ⊢
         have ζ :=L
         have γ:=O
         have HB:=X
         clear L O X
         have L:=Aside0.mk (Qe ζ.out)
         have O:=Aside0.mk (Qe γ.out)
         have X:=Aside0.mk (Qf HB.out)
         clear ζ
         clear γ
         clear HB
         have ζ :=L
         have γ:=O
         have HB:=X
         clear L O X
         refine Zv (n:=21) (S:=fun w'=>w'.cell? ⟨ε,0,none⟩=some (.int .i64 ((Qv J Y).f0))∧w'.cell? ⟨ε,1,none⟩=some (.int .i64 ((Qv J Y).f1))) (ds:=[]) #[false,false,false,false,false,false,false,false,false,false,false,false,false,false,false,false,false,false,false,false,false] kr rfl rfl ⟨(Qk γ.out 0).trans rfl,(Qk γ.out 1).trans rfl⟩ (fun hHeld=>?_);refine Zf api_Inside_right.G9 api_Inside_right.Kf (fun HT_ HW_=>?_)
         generalize bl.drew=cf at ζ γ HB hHeld ⊢
         refine qP 0 (some 15) (qB 21 1) HT_ ?_
         refine qT 1 (some 16) (qB 21 3) HT_ HW_ hHeld ?_
         refine Zn (i:=2) (N:=some 17) #[true,true,true,false,false,false,false,false,false,false,false,false,false,false,false,false,false,false,false,false,false] rfl rfl (Zc HT_.out kr) (by decide) (fun K hK=>?_)
         refine X2 Try.func84 kr rfl #[] #[.pointer (some ⟨gh_,0,none⟩)] #[.agg #[.int .i64 ((Qv J Y).f0),.int .i64 ((Qv J Y).f1)]] #[.agg #[.int .i64 ((Qv J Y).f0),.int .i64 ((Qv J Y).f1)],.pointer (some ⟨gh_,0,none⟩)] rfl (by rfl) rfl rfl rfl (by(try simp only[List.map_toArray,List.map_cons,List.map_nil]);first|done|rfl|(simp only[List.length_drop,List.length_take];rfl)) ?_
         with_reducible refine(call_inside_1.calls ((Qv J Y).f0) ((Qv J Y).f1) Z true _ bu.out gh_ (Xa HCH.out (by repeat(first|(with_reducible first|exact HB.out|apply Qg|apply Qd|apply Qf)|exact HB.out|(refine Qa ?_ (Aside0.out (by assumption))))))).mono ?_
         rintro e en ⟨rfl,hb⟩
         refine⟨_,rfl, ?_⟩
         have L:=Aside0.mk (Qh (g:= ι) (o:=.cells #[.slice (some σ) J.length θ,.func (.func 83) #[] #[]] 116 (0,0)) (by(with_reducible repeat first|apply Qb|apply Qe|apply Qc);exact ζ.out) hb)
         have O:=Aside0.mk (Qh (g:= ε) (o:=.cells #[.int .i64 ((Qv J Y).f0),.int .i64 ((Qv J Y).f1)] 86 (0,0)) (by(with_reducible repeat first|apply Qb|apply Qe|apply Qc);exact γ.out) hb)
         have X:=Aside0.mk (Qj (by repeat(first|(with_reducible first|exact HB.out|apply Qg|apply Qd|apply Qf|refine Qa ?_ μ.out|refine Qa ?_ ν.out)|exact HB.out)) hb)
         clear ζ
         clear γ
         clear HB
         have ζ :=L
         have γ:=O
         have HB:=X
         clear L O X
         (try clear hb)
         (try clear ak)
         (try clear hk)
         (try clear hi)
         refine hK.out _ _ ⟨qc γ,qc γ⟩ (fun hHeld=>?_)
         clear hK K
         refine qN (some 17) ?_
         refine qP 3 (some 18) (qB 21 15) HT_ ?_
         refine qP 4 (some 19) (qB 21 31) HT_ ?_
         refine qP 5 (some 20) (qB 21 63) HT_ ?_
         refine qP 6 (some 21) (qB 21 127) HT_ ?_
         refine qP 7 (some 22) (qB 21 255) HT_ ?_
         refine qU 8 (some 23) (qB 21 511) HT_ ?_
         refine qU 9 (some 24) (qB 21 1023) HT_ ?_
         refine qU 10 (some 25) (qB 21 2047) HT_ ?_
         refine qU 11 (some 26) (qB 21 4095) HT_ ?_
         refine qU 12 (some 27) (qB 21 8191) HT_ ?_
         refine qU 13 (some 28) (qB 21 16383) HT_ ?_
         refine qU 14 (some 29) (qB 21 32767) HT_ ?_
         refine qU 15 (some 30) (qB 21 65535) HT_ ?_
         refine qU 16 (some 31) (qB 21 131071) HT_ ?_
         refine qU 17 (some 32) (qB 21 262143) HT_ ?_
         refine qU 18 (some 33) (qB 21 524287) HT_ ?_
         refine qP 19 (some 34) (qB 21 1048575) HT_ ?_
         refine qP 20 (some 35) (qB 21 2097151) HT_ ?_
         refine Xd (Zu HT_.out kr) ?_
         try go_wp2
         go_meet
         case rel=>exact⟨_,(false),qR,H',⟨by have:=az.out;first|omega|exact Nat.le_refl _⟩,⟨by(with_reducible repeat first|apply Qb|apply Qe|apply Qc);exact ζ.out⟩,⟨by(with_reducible repeat first|apply Qb|apply Qe|apply Qc);exact γ.out⟩,⟨by repeat(first|(with_reducible first|exact HB.out|apply Qg|apply Qd|apply Qf|refine Qa ?_ μ.out|refine Qa ?_ ν.out)|exact HB.out)⟩⟩
       ·replace ap:=Bool.eq_false_iff.mpr ap
        subst ap
        have H1:(api_Inside_right.j1 k1 Z J (J.length:Int) Y true J B)=some r:=by rw[if_neg (show ¬ (false=true) by decide)] at H;exact H
        clear H
        have H:=H1
        clear H1
        have H':=Aside0.mk H
        clear H
        try go_wp2
        have L:Aside0 (((w9.setCell ⟨ε,0,none⟩ (.int .i64 ((Qv J Y).f0))).setCell ⟨ε,1,none⟩ (.int .i64 ((Qv J Y).f1))).heap[ι]?=some (.cells #[.slice (some σ) J.length θ,.func (.func 83) #[] #[]] 116 (0,0))):=⟨by(with_reducible repeat first|apply Qb|apply Qe|apply Qc);refine Qs ?_ τ.out _;(with_reducible repeat first|apply Qb|apply Qe|apply Qc);refine Qs ?_ τ.out _;(with_reducible repeat first|apply Qb|apply Qe|apply Qc);exact ζ.out⟩
        have O:Aside0 (((w9.setCell ⟨ε,0,none⟩ (.int .i64 ((Qv J Y).f0))).setCell ⟨ε,1,none⟩ (.int .i64 ((Qv J Y).f1))).heap[ε]?=some (.cells #[.int .i64 ((Qv J Y).f0),.int .i64 ((Qv J Y).f1)] 86 (0,0))):=⟨by(with_reducible repeat first|apply Qb|apply Qe|apply Qc);refine Qu (cs:=#[.int .i64 ((Qv J Y).f0),.int .i64 0]) ?_ 1 _ rfl;(with_reducible repeat first|apply Qb|apply Qe|apply Qc);refine Qu (cs:=#[.int .i64 0,.int .i64 0]) ?_ 0 _ rfl;(with_reducible repeat first|apply Qb|apply Qe|apply Qc);exact γ.out⟩
        have X:Aside0 (Below w.heap.size w ((w9.setCell ⟨ε,0,none⟩ (.int .i64 ((Qv J Y).f0))).setCell ⟨ε,1,none⟩ (.int .i64 ((Qv J Y).f1)))):=⟨by repeat(first|(with_reducible first|exact HB.out|apply Qg|apply Qd|apply Qf|refine Qa ?_ μ.out|refine Qa ?_ ν.out)|exact HB.out)⟩
        (try clear ζ)
        (try clear γ)
        (try clear HB)
        generalize((w9.setCell ⟨ε,0,none⟩ (.int .i64 ((Qv J Y).f0))).setCell ⟨ε,1,none⟩ (.int .i64 ((Qv J Y).f1)))=i2 at L O X ⊢
        have ζ :=L
        have γ:=O
        have HB:=X
        clear L O X
        have L:=Aside0.mk (Qe ζ.out)
        have O:=Aside0.mk (Qe γ.out)
        have X:=Aside0.mk (Qf HB.out)
        clear ζ
        clear γ
        clear HB
        have ζ :=L
        have γ:=O
        have HB:=X
        clear L O X
        refine Zv (n:=21) (S:=fun w'=>w'.cell? ⟨ε,0,none⟩=some (.int .i64 ((Qv J Y).f0))∧w'.cell? ⟨ε,1,none⟩=some (.int .i64 ((Qv J Y).f1))) (ds:=[]) #[false,false,false,false,false,false,false,false,false,false,false,false,false,false,false,false,false,false,false,false,false] kr rfl rfl ⟨(Qk γ.out 0).trans rfl,(Qk γ.out 1).trans rfl⟩ (fun hHeld=>?_);refine Zf api_Inside_right.G9 api_Inside_right.Kf (fun HT_ HW_=>?_)
        generalize i2.drew=dn at ζ γ HB hHeld ⊢
        refine qP 0 (some 15) (qB 21 1) HT_ ?_
        refine qT 1 (some 16) (qB 21 3) HT_ HW_ hHeld ?_
        refine Zn (i:=2) (N:=some 17) #[true,true,true,false,false,false,false,false,false,false,false,false,false,false,false,false,false,false,false,false,false] rfl rfl (Zc HT_.out kr) (by decide) (fun K hK=>?_)
        refine X2 Try.func84 kr rfl #[] #[.pointer (some ⟨gh_,0,none⟩)] #[.agg #[.int .i64 ((Qv J Y).f0),.int .i64 ((Qv J Y).f1)]] #[.agg #[.int .i64 ((Qv J Y).f0),.int .i64 ((Qv J Y).f1)],.pointer (some ⟨gh_,0,none⟩)] rfl (by rfl) rfl rfl rfl (by(try simp only[List.map_toArray,List.map_cons,List.map_nil]);first|done|rfl|(simp only[List.length_drop,List.length_take];rfl)) ?_
        with_reducible refine(call_inside_1.calls ((Qv J Y).f0) ((Qv J Y).f1) Z false _ bu.out gh_ (Xa HCH.out (by repeat(first|(with_reducible first|exact HB.out|apply Qg|apply Qd|apply Qf)|exact HB.out|(refine Qa ?_ (Aside0.out (by assumption))))))).mono ?_
        rintro e eh ⟨rfl,hb⟩
        refine⟨_,rfl, ?_⟩
        have L:=Aside0.mk (Qh (g:= ι) (o:=.cells #[.slice (some σ) J.length θ,.func (.func 83) #[] #[]] 116 (0,0)) (by(with_reducible repeat first|apply Qb|apply Qe|apply Qc);exact ζ.out) hb)
        have O:=Aside0.mk (Qh (g:= ε) (o:=.cells #[.int .i64 ((Qv J Y).f0),.int .i64 ((Qv J Y).f1)] 86 (0,0)) (by(with_reducible repeat first|apply Qb|apply Qe|apply Qc);exact γ.out) hb)
        have X:=Aside0.mk (Qj (by repeat(first|(with_reducible first|exact HB.out|apply Qg|apply Qd|apply Qf|refine Qa ?_ μ.out|refine Qa ?_ ν.out)|exact HB.out)) hb)
        clear ζ
        clear γ
        clear HB
        have ζ :=L
        have γ:=O
        have HB:=X
        clear L O X
        (try clear hb)
        (try clear ak)
        (try clear hk)
        (try clear hi)
        refine hK.out _ _ ⟨qc γ,qc γ⟩ (fun hHeld=>?_)
        clear hK K
        refine qN (some 17) ?_
        refine qP 3 (some 18) (qB 21 15) HT_ ?_
        refine qP 4 (some 19) (qB 21 31) HT_ ?_
        refine qU 5 (some 20) (qB 21 63) HT_ ?_
        refine qU 6 (some 21) (qB 21 127) HT_ ?_
        refine qU 7 (some 22) (qB 21 255) HT_ ?_
        refine qU 8 (some 23) (qB 21 511) HT_ ?_
        refine qU 9 (some 24) (qB 21 1023) HT_ ?_
        refine qU 10 (some 25) (qB 21 2047) HT_ ?_
        refine qU 11 (some 26) (qB 21 4095) HT_ ?_
        refine qU 12 (some 27) (qB 21 8191) HT_ ?_
        refine qU 13 (some 28) (qB 21 16383) HT_ ?_
        refine qU 14 (some 29) (qB 21 32767) HT_ ?_
        refine qU 15 (some 30) (qB 21 65535) HT_ ?_
        refine qU 16 (some 31) (qB 21 131071) HT_ ?_
        refine qU 17 (some 32) (qB 21 262143) HT_ ?_
        refine qU 18 (some 33) (qB 21 524287) HT_ ?_
        refine qU 19 (some 34) (qB 21 1048575) HT_ ?_
        refine qP 20 (some 35) (qB 21 2097151) HT_ ?_
        refine Xd (Zu HT_.out kr) ?_
        try go_wp2
        go_meet
        case rel=>exact⟨_,(true),qR,H',⟨by have:=az.out;first|omega|exact Nat.le_refl _⟩,⟨by(with_reducible repeat first|apply Qb|apply Qe|apply Qc);exact ζ.out⟩,⟨by(with_reducible repeat first|apply Qb|apply Qe|apply Qc);exact γ.out⟩,⟨by repeat(first|(with_reducible first|exact HB.out|apply Qg|apply Qd|apply Qf|refine Qa ?_ μ.out|refine Qa ?_ ν.out)|exact HB.out)⟩⟩
      case rest=>
       clear ay
       try clear c1
       try clear p1
       try clear q1
       try clear ar
       try clear p2
       try clear c8
       try clear bc
       try clear bd
       try clear bb
       try clear ap
       try clear al
       try clear c14b0
       try clear aa
       try clear c16b0
       try clear a5
       try clear c17b0
       try clear ψ
       try clear a0
       try clear a8
       try clear a9
       obtain⟨kq,a3,rfl,HA,b6,ζ,γ,HB⟩:=hcut
       cases kq with
       |zero=>exact absurd HA.out (by simp[api_Inside_right.j1])
       |succ b7=>
        have H:=HA.out
        clear HA
        simp only[api_Inside_right.j1] at H
        by_cases cm:a3=true
        ·subst cm
         have H1:(some false)=some r:=by rw[if_pos rfl] at H;exact H
         clear H
         have H:=H1
         clear H1
         obtain rfl:=Option.some.inj H
         go_wp2
         go_ret
         exact⟨by first|rfl|(simp[Qo,Qn] <;> rfl)|(simp[*,Qo,Qn] <;> rfl),by repeat(first|(with_reducible first|exact HB.out|apply Qg|apply Qd|apply Qf|refine Qa ?_ μ.out|refine Qa ?_ ν.out)|exact HB.out)⟩
        ·replace cm:=Bool.eq_false_iff.mpr cm
         subst cm
         have H1:(api_Inside_right.l0 b7 Z J (J.length:Int) (wrap64 (Y+1)) J B)=some r:=by rw[if_neg (show ¬ (false=true) by decide)] at H;exact H
         clear H
         have H:=H1
         clear H1
         have H':=Aside0.mk H
         clear H
         go_wp2
         go_roundg b7
         case measure=>have:=az.out;have:=b6.out;omega
         case rel=>exact⟨(wrap64 (Y+1)),qR,H',⟨by have:=az.out;have:=b6.out;omega⟩,⟨by(with_reducible repeat first|apply Qb|apply Qe|apply Qc);exact ζ.out⟩,⟨by repeat(first|(with_reducible first|exact HB.out|apply Qg|apply Qd|apply Qf|refine Qa ?_ μ.out|refine Qa ?_ ν.out)|exact HB.out)⟩⟩
     ·rw[if_neg c7] at H
      exact absurd H (by simp)
    ·rw[if_neg c6] at H
     exact absurd H (by simp)
   ·rw[if_neg c5] at H
    have c5b0:decide (Y<(J.length:Int))=false:=decide_eq_false c5
    clear c5
    obtain rfl:=Option.some.inj H
    go_wp2
    go_ret
    exact⟨by first|rfl|(simp[Qo,Qn] <;> rfl)|(simp[*,Qo,Qn] <;> rfl),by repeat(first|(with_reducible first|exact HB.out|apply Qg|apply Qd|apply Qf|refine Qa ?_ μ.out)|exact HB.out)⟩
end Go.Proofs.Ytmfffemidlhcpaa.C
namespace Go.Proofs.Ytmfffemidlhcpaa.Call
open Go.RowKit Go.Proofs.YtmfffemidlhcpaaW.PrintWords Go.Proofs.YtmfffemidlhcpaaW.PrintLast Go.Proofs.YtmfffemidlhcpaaW.PrintMore Go.Proofs.Ytmfffemidlhcpaa.C
set_option linter.unusedVariables false
set_option linter.unusedSimpArgs false
theorem Vm (a b:Int):Vo a b<0↔a<b:=by unfold Vo;split <;> (try split) <;> omega
theorem Vn (a b:Int):Vo a b=0↔a=b:=by unfold Vo;split <;> (try split) <;> omega
theorem Kb (a b c d:Int):X5 a b c d<0↔(a<c∨(a=c∧b<d)):=by
  unfold X5
  have h1:=Vm a c
  have L:=Vn a c
  have Z:=Vm b d
  split <;> omega
theorem Kt (a b c d:Int):X5 a b c d=0↔(a=c∧b=d):=by
  unfold X5
  have h1:=Vm a c
  have L:=Vn a c
  have Z:=Vn b d
  split <;> omega
def Uv {α:Type} (q:α→Bool):Nat→List α→Int
  |_,[]=> -1
  |i,x :: l=>if q x=true then (i:Int) else Uv q (i+1) l
theorem La {α:Type} (q:α→Bool) (l:List α):∀ i:Nat,(Uv q i l = -1 ∧ ∀ x ∈ l,q x=false) ∨ ∃ k:Nat,∃ h:k<l.length,Uv q i l=((i+k:Nat):Int)∧q l[k]=true ∧ ∀ x ∈ l.take k,q x=false:=by
  induction l with
  |nil=>intro i;exact .inl ⟨rfl,by simp⟩
  |cons x l ih=>
    intro i
    simp only[Uv]
    by_cases h:q x=true
    · rw[if_pos h]
      exact .inr ⟨0,by simp,by simp,by simpa using h,by simp⟩
    · rw[if_neg h]
      have hf:q x=false:=by simpa using h
      rcases ih (i+1) with⟨e,ha⟩|⟨k,hk,e,ht,ha⟩
      · refine .inl ⟨e,fun y hy=>?_⟩
        rcases List.mem_cons.1 hy with rfl|hy
        · exact hf
        · exact ha y hy
      · refine .inr ⟨k+1,by simpa using hk,by rw[e];congr 1;omega,by simpa using ht,fun y hy=>?_⟩
        rw[List.take_succ_cons] at hy
        rcases List.mem_cons.1 hy with rfl|hy
        · exact hf
        · exact ha y hy
def Zo {α:Type} (may:α→Bool) (lt:α→α→Bool):Option α→List α→Bool
  |_,[]=>true
  |none,x :: l=>may x&&Zo may lt (some x) l
  |some p,x :: l=>(may x&&lt p x)&&Zo may lt (some x) l
def ltH (x y:S36):Bool:=decide (X5 x.f0 x.f1 y.f0 y.f1<0)
theorem Ks (x y:S36):ltH x y=true↔(x.f0<y.f0∨(x.f0=y.f0∧x.f1<y.f1)):=by
  unfold ltH
  rw[decide_eq_true_iff,Kb]
theorem W9 {x y z:S36} (h1:ltH x y=true) (L:ltH y z=true):ltH x z=true:=by
  rw[Ks] at *
  omega
theorem Vf (l:List S36) (i:Nat) (h:i<l.length):Ql l (i:Int)=l[i]:=by
  unfold Ql
  rw[Int.toNat_natCast,List.getD_eq_getElem?_getD,List.getElem?_eq_getElem h]
  rfl
def Gp (l:List S36) (B J:Int) (p:Nat):Prop:=p≤l.length∧(∀ y ∈ l.take p,X5 y.f0 y.f1 B J<0)∧(∀ y ∈ l.drop p,¬ X5 y.f0 y.f1 B J<0)
def Gv (l:List S36) (B J:Int) (p:Nat):Bool:=match l[p]? with|some y=>X5 y.f0 y.f1 B J==0|none=>false
theorem Vd (l:List S36) (B J X:Int) (hm:l.length≤1000000000) (hs:l.Pairwise (fun x y=>ltH x y=true)) (d:Nat):∀ (f i j:Nat),j-i≤d→i≤j→j≤l.length→d<f→(∀ y ∈ l.take i,X5 y.f0 y.f1 B J<0)→(∀ y ∈ l.drop j,¬ X5 y.f0 y.f1 B J<0) →
    ∃ p,Gp l B J p∧api_Hall_89.l0 f l (l.length:Int) (i:Int) (j:Int) B J X=some ((p:Int),Gv l B J p):=by
  have stop:∀ (f i:Nat),0<f→i≤l.length→(∀ y ∈ l.take i,X5 y.f0 y.f1 B J<0)→(∀ y ∈ l.drop i,¬ X5 y.f0 y.f1 B J<0) → ∃ p,Gp l B J p∧api_Hall_89.l0 f l (l.length:Int) (i:Int) (i:Int) B J X=some ((p:Int),Gv l B J p):=by
    intro f i hf hi h1 L
    obtain⟨f,rfl⟩:∃ m,f=m+1:=⟨f-1,by omega⟩
    refine⟨i,⟨hi,h1,L⟩, ?_⟩
    simp only[api_Hall_89.l0]
    unfold Gv
    rw[if_neg (by omega)]
    by_cases h:i<l.length
    · rw[if_pos (by omega),if_pos (by omega),if_pos (by omega),Vf l i h,List.getElem?_eq_getElem h]
      rfl
    · rw[if_neg (by omega),List.getElem?_eq_none (by omega)]
  induction d with
  |zero=>
    intro f i j hd hij hj hf h1 L
    obtain rfl:i=j:=by omega
    exact stop f i hf hj h1 L
  |succ d ih=>
    intro f i j hd hij hj hf h1 L
    by_cases he:i=j
    · subst he
      exact stop f i (by omega) hj h1 L
    · obtain⟨f,rfl⟩:∃ m,f=m+1:=⟨f-1,by omega⟩
      have hmid:wrap64 ((IntKind.u64.wrap (wrap64 ((i:Int)+(j:Int)))) / 2)=(((i+j) / 2:Nat):Int):=by
        rw[show wrap64 ((i:Int)+(j:Int))=(i:Int)+(j:Int) from by unfold wrap64;omega,IntKind.wrap_u64]
        unfold wrap64;omega
      have e1:wrap64 ((((i+j) / 2:Nat):Int)+1)=(((i+j) / 2+1:Nat):Int):=by unfold wrap64;omega
      simp only[api_Hall_89.l0]
      rw[if_pos (by omega),hmid]
      have hh:(i+j) / 2<l.length:=by omega
      generalize hg:(i+j) / 2=h at *
      rw[if_pos (by omega),if_pos (by omega),Vf l h hh,e1]
      unfold call_halls_1.f
      simp only[Option.bind_some]
      have hlt:∀ m:Nat,(hm:m<h)→X5 (l[m]'(by omega)).f0 (l[m]'(by omega)).f1 l[h].f0 l[h].f1<0:=by
        intro m hm
        have:=List.pairwise_iff_getElem.1 hs m h (by omega) hh hm
        exact of_decide_eq_true this
      have hgt:∀ m:Nat,h<m→(hm:m<l.length)→X5 l[h].f0 l[h].f1 l[m].f0 l[m].f1<0:=by
        intro m hm hml
        have:=List.pairwise_iff_getElem.1 hs h m hh hml hm
        exact of_decide_eq_true this
      by_cases hc:X5 l[h].f0 l[h].f1 B J<0
      · rw[if_pos hc]
        refine ih f (h+1) j (by omega) (by omega) hj (by omega) ?_ L
        intro y hy
        obtain⟨m,hm,rfl⟩:=List.mem_iff_getElem.1 hy
        rw[List.length_take] at hm
        rw[List.getElem_take]
        by_cases hmh:m=h
        · subst hmh;exact hc
        · have Z:=hlt m (by omega)
          rw[Kb] at *
          omega
      · rw[if_neg hc]
        refine ih f i h (by omega) (by omega) (by omega) (by omega) h1 ?_
        intro y hy
        obtain⟨m,hm,rfl⟩:=List.mem_iff_getElem.1 hy
        rw[List.length_drop] at hm
        rw[List.getElem_drop]
        by_cases hmh:m=0
        · subst hmh;simpa using hc
        · have Z:=hgt (h+m) (by omega) (by omega)
          rw[Kb] at *
          omega
theorem Up (l:List S36) (B J X:Int) (a2:Int) (hm:l.length≤1000000000) (hs:l.Pairwise (fun x y=>ltH x y=true)) (k:Nat) (hk:l.length<k):
    ∃ p,Gp l B J p∧api_Hall_89.f k l B J X a2=some ((p:Int),Gv l B J p):=by
  unfold api_Hall_89.f
  have:=Vd l B J X hm hs l.length k 0 l.length (by omega) (by omega) (by omega) hk (by simp) (by simp)
  simpa using this
theorem Ub (l:List S36) (Z tok_:Int) (hm:l.length≤1000000000) (j:Nat):∀ (f i:Nat),i+j=l.length→2 * j<f→api_Hall_right.l0 f Z l (l.length:Int) (i:Int) l tok_=some (Zo (fun x=>Xo (Ya Z) (X9 Z) x.f0 x.f1 x.f2) ltH (if i=0 then none else l[i-1]?) (l.drop i)):=by
  induction j with
  |zero=>
    intro f i hi hf
    obtain⟨f,rfl⟩:∃ m,f=m+1:=⟨f-1,by omega⟩
    simp only[api_Hall_right.l0]
    rw[if_neg (by omega),List.drop_of_length_le (by omega)]
    cases(if i=0 then none else l[i-1]?) <;> rfl
  |succ j ih=>
    intro f i hi hf
    obtain⟨f,rfl⟩:∃ m,f=m+2:=⟨f-2,by omega⟩
    have ha:i<l.length:=by omega
    have ei:wrap64 ((i:Int)+1)=((i+1:Nat):Int):=by unfold wrap64;omega
    have jt:api_Hall_right.j1 (f+1) Z l (l.length:Int) (i:Int) true l tok_=some false:=by simp[api_Hall_right.j1]
    have jf:api_Hall_right.j1 (f+1) Z l (l.length:Int) (i:Int) false l tok_=some (Zo (fun x=>Xo (Ya Z) (X9 Z) x.f0 x.f1 x.f2) ltH (some l[i]) (l.drop (i+1))):=by
      simp only[api_Hall_right.j1]
      rw[if_neg (by decide),ei,ih f (i+1) (by omega) (by omega),if_neg (by omega),Nat.add_sub_cancel,List.getElem?_eq_getElem ha]
    simp only[api_Hall_right.l0]
    rw[if_pos (by omega),if_pos (by omega),if_pos (by omega),Vf l i ha]
    unfold call_hall_1.f
    simp only[Option.bind_some]
    rw[List.drop_eq_getElem_cons ha]
    by_cases h1:Xo (Ya Z) (X9 Z) l[i].f0 l[i].f1 l[i].f2=true
    · rw[if_pos h1]
      by_cases O:i=0
      · subst O
        rw[if_neg (by omega),if_pos rfl,jf]
        simp only[Zo,h1,Bool.true_and]
      · have ep:wrap64 ((i:Int)-1)=((i-1:Nat):Int):=by unfold wrap64;omega
        rw[if_pos (by omega),ep,if_pos (by omega),if_pos (by omega),Vf l (i-1) (by omega),if_neg O,List.getElem?_eq_getElem (by omega)]
        unfold call_halls_1.f
        simp only[Option.bind_some]
        simp only[Zo,h1,Bool.true_and]
        unfold ltH
        by_cases hc:X5 (l[i-1]'(by omega)).f0 (l[i-1]'(by omega)).f1 l[i].f0 l[i].f1<0
        · rw[decide_eq_false (by omega),decide_eq_true hc,jf,Bool.true_and]
          rfl
        · rw[decide_eq_true (by omega),decide_eq_false hc,jt,Bool.false_and]
    · have h1':Xo (Ya Z) (X9 Z) l[i].f0 l[i].f1 l[i].f2=false:=by simpa using h1
      rw[if_neg h1,jt]
      by_cases O:i=0
      · rw[if_pos O]
        simp only[Zo,h1',Bool.false_and]
      · rw[if_neg O,List.getElem?_eq_getElem (by omega)]
        simp only[Zo,h1',Bool.false_and]
theorem Wu (l:List S36) (Z tok_:Int) (hm:l.length≤1000000000) (k:Nat) (hk:2 * l.length<k):api_Hall_right.f k l tok_ Z=some (Zo (fun x=>Xo (Ya Z) (X9 Z) x.f0 x.f1 x.f2) ltH none l):=by
  unfold api_Hall_right.f
  have:=Ub l Z tok_ hm l.length k 0 (by omega) hk
  simpa using this
theorem Ua (may:S36→Bool) (l:List S36):∀ p,Zo may ltH (some p) l=true↔((∀ x ∈ l,may x=true)∧(p :: l).Pairwise (fun x y=>ltH x y=true)):=by
  induction l with
  |nil=>intro p;simp[Zo]
  |cons x l ih=>
    intro p
    simp only[Zo,Bool.and_eq_true]
    rw[ih x]
    simp only[List.pairwise_cons,List.mem_cons,forall_eq_or_imp]
    constructor
    · rintro⟨⟨h1,L⟩,Z,Y,J⟩
      exact⟨⟨h1,Z⟩,⟨L,fun y hy=>W9 L (Y y hy)⟩,Y,J⟩
    · rintro⟨⟨h1,Z⟩,⟨L,_⟩,Y,J⟩
      exact⟨⟨h1,L⟩,Z,Y,J⟩
theorem Jd (may:S36→Bool) (l:List S36):Zo may ltH none l=true↔((∀ x ∈ l,may x=true)∧l.Pairwise (fun x y=>ltH x y=true)):=by
  cases l with
  |nil=>simp[Zo]
  |cons x l=>
    simp only[Zo,Bool.and_eq_true]
    rw[Ua]
    simp only[List.mem_cons,forall_eq_or_imp]
    constructor
    · rintro⟨h1,L,Z⟩
      exact⟨⟨h1,L⟩,Z⟩
    · rintro⟨⟨h1,L⟩,Z⟩
      exact⟨h1,L,Z⟩
abbrev qI (Z:Int) (x:S86):Bool:=X5 (Ya Z) (X9 Z) x.f0 x.f1==0
def ltI (x y:S86):Bool:=decide (X5 x.f0 x.f1 y.f0 y.f1<0)
theorem M0 (x y:S86):ltI x y=true↔(x.f0<y.f0∨(x.f0=y.f0∧x.f1<y.f1)):=by
  unfold ltI
  rw[decide_eq_true_iff,Kb]
theorem W8 {x y z:S86} (h1:ltI x y=true) (L:ltI y z=true):ltI x z=true:=by
  rw[M0] at *
  omega
theorem Ve (l:List S86) (i:Nat) (h:i<l.length):Qv l (i:Int)=l[i]:=by
  unfold Qv
  rw[Int.toNat_natCast,List.getD_eq_getElem?_getD,List.getElem?_eq_getElem h]
  rfl
theorem Lb (l:List S86) (Z:Int) (hm:l.length≤1000000000) (j:Nat):∀ (f i:Nat),i+j=l.length→j<f→api_Inside_100.l0 f l Z (l.length:Int) (i:Int)=some (Uv (qI Z) i (l.drop i)):=by
  induction j with
  |zero=>
    intro f i hi hf
    obtain⟨f,rfl⟩:∃ m,f=m+1:=⟨f-1,by omega⟩
    simp only[api_Inside_100.l0]
    rw[if_neg (by omega),List.drop_of_length_le (by omega)]
    rfl
  |succ j ih=>
    intro f i hi hf
    obtain⟨f,rfl⟩:∃ m,f=m+1:=⟨f-1,by omega⟩
    have ha:i<l.length:=by omega
    have ei:wrap64 ((i:Int)+1)=((i+1:Nat):Int):=by unfold wrap64;omega
    simp only[api_Inside_100.l0]
    rw[if_pos (by omega),if_pos (by omega),if_pos (by omega),Ve l i ha,ei,ih f (i+1) (by omega) (by omega)]
    unfold api_Inside_without_1.f
    simp only[Option.bind_some]
    rw[List.drop_eq_getElem_cons ha]
    simp only[Uv]
    by_cases h:qI Z l[i]=true
    · rw[if_pos h,if_pos h]
    · rw[if_neg h,if_neg h]
theorem M7 (l:List S86) (Z:Int) (hm:l.length≤1000000000) (k:Nat) (hk:l.length<k):api_Inside_100.f k l Z=some (Uv (qI Z) 0 l):=by
  unfold api_Inside_100.f
  have:=Lb l Z hm l.length k 0 (by omega) hk
  simpa using this
theorem Lc (l:List S86) (Z:Int) (hm:l.length≤1000000000) (j:Nat):∀ (f:Nat) (x:List S86) (i m:Nat),x.length=l.length→m+j=l.length→i≤m→j<f→x.drop m=l.drop m→x.take i=(l.take m).filter (fun y=> !qI Z y) →
    api_Inside_90.l0 f x Z (i:Int) (m:Int)=some (l.filter (fun y=> !qI Z y)):=by
  induction j with
  |zero=>
    intro f x i m hx hj him hf hd ht
    obtain⟨f,rfl⟩:∃ m,f=m+1:=⟨f-1,by omega⟩
    simp only[api_Inside_90.l0]
    rw[if_neg (by omega),if_pos (by omega),if_pos (by omega),Int.toNat_natCast,ht,List.take_of_length_le (by omega)]
  |succ j ih=>
    intro f x i m hx hj him hf hd ht
    obtain⟨f,rfl⟩:∃ m,f=m+1:=⟨f-1,by omega⟩
    have ha:m<l.length:=by omega
    have hax:m<x.length:=by omega
    have em:wrap64 ((m:Int)+1)=((m+1:Nat):Int):=by unfold wrap64;omega
    have ei:wrap64 ((i:Int)+1)=((i+1:Nat):Int):=by unfold wrap64;omega
    have hxm:x[m]=l[m]:=by
      have h1:=List.drop_eq_getElem_cons hax
      have L:=List.drop_eq_getElem_cons ha
      rw[hd,L] at h1
      exact(List.cons.inj h1).1.symm
    have O:x.drop (m+1)=l.drop (m+1):=by
      have h1:=List.drop_eq_getElem_cons hax
      have L:=List.drop_eq_getElem_cons ha
      rw[hd,L] at h1
      exact(List.cons.inj h1).2.symm
    have B:(l.take (m+1)).filter (fun y=> !qI Z y)=(l.take m).filter (fun y=> !qI Z y) ++ [l[m]].filter (fun y=> !qI Z y):=by
      rw[List.take_succ_eq_append_getElem ha,List.filter_append]
    simp only[api_Inside_90.l0]
    rw[if_pos (by omega),if_pos (by omega),Ve x m hax,hxm,em,ei]
    unfold api_Inside_without_1.f
    simp only[Option.bind_some]
    by_cases h:qI Z l[m]=true
    · rw[if_pos h]
      refine ih f x i (m+1) hx (by omega) (by omega) (by omega) O ?_
      rw[B,ht]
      simp only[List.filter_cons,List.filter_nil]
      rw[if_neg (by rw[h];decide),List.append_nil]
    · have hf':qI Z l[m]=false:=by simpa using h
      rw[if_neg h,if_pos (by omega),if_pos (by omega),Int.toNat_natCast]
      refine ih f (x.set i _) (i+1) (m+1) (by rw[List.length_set];exact hx) (by omega) (by omega) (by omega) ?_ ?_
      · rw[List.drop_set_of_lt (by omega)]
        exact O
      · rw[B]
        simp only[List.filter_cons,List.filter_nil]
        rw[if_pos (by rw[hf'];rfl),List.take_succ_eq_append_getElem (by rw[List.length_set];omega),List.getElem_set_self,List.take_set_of_le (by omega),ht]
theorem Nc (l:List S86) (Z:Int) (hm:l.length≤1000000000) (k:Nat) (hk:l.length+5<k):api_Inside_90.f k l Z=some (l.filter (fun y=> !qI Z y)):=by
  unfold api_Inside_90.f
  rw[M7 l Z hm k (by omega)]
  simp only[Option.bind_some]
  rcases La (qI Z) l 0 with⟨e,ha⟩|⟨i,hi,e,ht,ha⟩
  · rw[e,if_pos rfl]
    congr 1
    exact(List.filter_eq_self.2 (fun y hy=>by rw[ha y hy];rfl)).symm
  · rw[e,Nat.zero_add,if_neg (by omega)]
    have ei:wrap64 ((i:Int)+1)=((i+1:Nat):Int):=by unfold wrap64;omega
    rw[ei]
    refine Lc l Z hm (l.length - (i+1)) k l i (i+1) rfl (by omega) (by omega) (by omega) rfl ?_
    rw[List.take_succ_eq_append_getElem hi,List.filter_append]
    simp only[List.filter_cons,List.filter_nil]
    rw[if_neg (by rw[ht];decide),List.append_nil]
    exact(List.filter_eq_self.2 (fun y hy=>by rw[ha y hy];rfl)).symm
theorem V9 (l:List S86) (Z tok_:Int) (hm:l.length≤1000000000) (j:Nat):∀ (f i:Nat),i+j=l.length→2 * j<f→api_Inside_right.l0 f Z l (l.length:Int) (i:Int) l tok_=some (Zo (fun x=>Jw (Ya Z) (X9 Z) x.f0 x.f1) ltI (if i=0 then none else l[i-1]?) (l.drop i)):=by
  induction j with
  |zero=>
    intro f i hi hf
    obtain⟨f,rfl⟩:∃ m,f=m+1:=⟨f-1,by omega⟩
    simp only[api_Inside_right.l0]
    rw[if_neg (by omega),List.drop_of_length_le (by omega)]
    cases(if i=0 then none else l[i-1]?) <;> rfl
  |succ j ih=>
    intro f i hi hf
    obtain⟨f,rfl⟩:∃ m,f=m+2:=⟨f-2,by omega⟩
    have ha:i<l.length:=by omega
    have ei:wrap64 ((i:Int)+1)=((i+1:Nat):Int):=by unfold wrap64;omega
    have jt:api_Inside_right.j1 (f+1) Z l (l.length:Int) (i:Int) true l tok_=some false:=by simp[api_Inside_right.j1]
    have jf:api_Inside_right.j1 (f+1) Z l (l.length:Int) (i:Int) false l tok_=some (Zo (fun x=>Jw (Ya Z) (X9 Z) x.f0 x.f1) ltI (some l[i]) (l.drop (i+1))):=by
      simp only[api_Inside_right.j1]
      rw[if_neg (by decide),ei,ih f (i+1) (by omega) (by omega),if_neg (by omega),Nat.add_sub_cancel,List.getElem?_eq_getElem ha]
    simp only[api_Inside_right.l0]
    rw[if_pos (by omega),if_pos (by omega),if_pos (by omega),Ve l i ha]
    unfold call_inside_1.f
    simp only[Option.bind_some]
    rw[List.drop_eq_getElem_cons ha]
    by_cases h1:Jw (Ya Z) (X9 Z) l[i].f0 l[i].f1=true
    · rw[if_pos h1]
      by_cases O:i=0
      · subst O
        rw[if_neg (by omega),if_pos rfl,jf]
        simp only[Zo,h1,Bool.true_and]
      · have ep:wrap64 ((i:Int)-1)=((i-1:Nat):Int):=by unfold wrap64;omega
        rw[if_pos (by omega),ep,if_pos (by omega),if_pos (by omega),Ve l (i-1) (by omega),if_neg O,List.getElem?_eq_getElem (by omega)]
        unfold call_ins_1.f
        simp only[Option.bind_some]
        simp only[Zo,h1,Bool.true_and]
        unfold ltI
        by_cases hc:X5 (l[i-1]'(by omega)).f0 (l[i-1]'(by omega)).f1 l[i].f0 l[i].f1<0
        · rw[decide_eq_false (by omega),decide_eq_true hc,jf,Bool.true_and]
          rfl
        · rw[decide_eq_true (by omega),decide_eq_false hc,jt,Bool.false_and]
    · have h1':Jw (Ya Z) (X9 Z) l[i].f0 l[i].f1=false:=by simpa using h1
      rw[if_neg h1,jt]
      by_cases O:i=0
      · rw[if_pos O]
        simp only[Zo,h1',Bool.false_and]
      · rw[if_neg O,List.getElem?_eq_getElem (by omega)]
        simp only[Zo,h1',Bool.false_and]
theorem Wt (l:List S86) (Z tok_:Int) (hm:l.length≤1000000000) (k:Nat) (hk:2 * l.length<k):api_Inside_right.f k l tok_ Z=some (Zo (fun x=>Jw (Ya Z) (X9 Z) x.f0 x.f1) ltI none l):=by
  unfold api_Inside_right.f
  have:=V9 l Z tok_ hm l.length k 0 (by omega) hk
  simpa using this
theorem V7 (may:S86→Bool) (l:List S86):∀ p,Zo may ltI (some p) l=true↔((∀ x ∈ l,may x=true)∧(p :: l).Pairwise (fun x y=>ltI x y=true)):=by
  induction l with
  |nil=>intro p;simp[Zo]
  |cons x l ih=>
    intro p
    simp only[Zo,Bool.and_eq_true]
    rw[ih x]
    simp only[List.pairwise_cons,List.mem_cons,forall_eq_or_imp]
    constructor
    · rintro⟨⟨h1,L⟩,Z,Y,J⟩
      exact⟨⟨h1,Z⟩,⟨L,fun y hy=>W8 L (Y y hy)⟩,Y,J⟩
    · rintro⟨⟨h1,Z⟩,⟨L,_⟩,Y,J⟩
      exact⟨⟨h1,L⟩,Z,Y,J⟩
theorem V8 (may:S86→Bool) (l:List S86):Zo may ltI none l=true↔((∀ x ∈ l,may x=true)∧l.Pairwise (fun x y=>ltI x y=true)):=by
  cases l with
  |nil=>simp[Zo]
  |cons x l=>
    simp only[Zo,Bool.and_eq_true]
    rw[V7]
    simp only[List.mem_cons,forall_eq_or_imp]
    constructor
    · rintro⟨h1,L,Z⟩
      exact⟨⟨h1,L⟩,Z⟩
    · rintro⟨⟨h1,L⟩,Z⟩
      exact⟨h1,L,Z⟩
end Go.Proofs.Ytmfffemidlhcpaa.Call
namespace Go.Proofs.Ytmfffemidlhcpaa.C
open Go.RowKit Go.Proofs.YtmfffemidlhcpaaW.PrintWords Go.Proofs.YtmfffemidlhcpaaW.PrintLast Go.Proofs.YtmfffemidlhcpaaW.PrintMore
attribute [local go_sem] Z1 Zz Z9 Z8 Zq Zp Z0 Zy
set_option linter.unusedVariables false
set_option linter.unusedSimpArgs false
theorem eqA36 (d:Nat) (w:World) (B O:Int) (J Y:Int) (X L:Int):
  (Op.equalIn (d+2) 36 (.agg #[.int .i64 B,.int .i64 J,.int .i64 X]) (.agg #[.int .i64 O,.int .i64 Y,.int .i64 L])).run Try.prog w = .ok (B==O&&(J==Y&&(X==L))) w:=by
 refine Ma Try.underlying36 kr ?_
 refine Ge (by rfl) (by go_simp;rfl) (by go_simp;rfl) (by go_simp) ?_
 refine Ge (by rfl) (by go_simp;rfl) (by go_simp;rfl) (by go_simp) ?_
 exact Uk (by rfl) (by go_simp;rfl) (by go_simp;rfl) (by go_simp)
theorem eqA86 (d:Nat) (w:World) (B O:Int) (J Y:Int):
  (Op.equalIn (d+2) 86 (.agg #[.int .i64 B,.int .i64 J]) (.agg #[.int .i64 O,.int .i64 Y])).run Try.prog w = .ok (B==O&&(J==Y)) w:=by
 refine Ma Try.underlying86 kr ?_
 refine Ge (by rfl) (by go_simp;rfl) (by go_simp;rfl) (by go_simp) ?_
 exact Uk (by rfl) (by go_simp;rfl) (by go_simp;rfl) (by go_simp)
end Go.Proofs.Ytmfffemidlhcpaa.C
set_option linter.unusedVariables false
namespace Go.Proofs.Ytmfffemidlhcpaa.C
open Go.RowKit Go.Proofs.YtmfffemidlhcpaaW.PrintWords Go.Proofs.YtmfffemidlhcpaaW.PrintLast Go.Proofs.YtmfffemidlhcpaaW.PrintMore
theorem bel {B:Nat} {w W:World} (h:Below B w W:=by repeat(first|(with_reducible first|exact HB.out|apply Qg|apply Qd|apply Qf|refine Qa ?_ (Aside0.out (by assumption)))|exact HB.out|(refine Qa ?_ (Aside0.out (by assumption))))):Below B w W:=h
theorem bka {w W:World} {g:Nat} {o:Obj} (b:Aside0 (w.heap[g]?=some o)) (e:W.heap[g]?=some o:=by(with_reducible repeat(first|refine Qb ?_ _|refine Qe ?_|refine Qc ?_ _|refine Qs ?_ (Aside0.out (by assumption)) _));exact Aside0.out (by assumption)):W.heap[g]?=some o:=e
theorem kra {α:Type} {d:Kd α} {Z:TypeId} {w W:World} {base:Nat} {ok:Nat→Prop} {v:Value} {xs:List α} (b:Aside0 (d.R Z w base ok v xs)) (e:d.R Z W base ok v xs:=by(with_reducible repeat first|apply Kd.Qx|apply Kd.Qw|apply Kd.Qy);exact Aside0.out (by assumption)):d.R Z W base ok v xs:=e
theorem sRb {α:Type} {d:Kd α} {Z:TypeId} {w w1 w2:World} {base:Nat} {ok:Nat→Prop} {v:Value} {xs:List α} (b:Aside0 (d.R Z w base ok v xs)) (h:Below w1.heap.size w1 w2) (e:d.R Z w1 base ok v xs:=by(with_reducible repeat first|apply Kd.Qx|apply Kd.Qw|apply Kd.Qy);exact Aside0.out (by assumption)):Aside0 (d.R Z w2 base ok v xs):=⟨Kd.Za e h⟩
theorem sBk {w w1 w2:World} {g:Nat} {o:Obj} (b:Aside0 (w.heap[g]?=some o)) (h:Below w1.heap.size w1 w2) (e:w1.heap[g]?=some o:=by(with_reducible repeat(first|refine Qb ?_ _|refine Qe ?_|refine Qc ?_ _|refine Qs ?_ (Aside0.out (by assumption)) _));exact Aside0.out (by assumption)):Aside0 (w2.heap[g]?=some o):=⟨Qh e h⟩
theorem sHb {w W w2:World} (h:Below W.heap.size W w2) (b:Below w.heap.size w W:=by repeat(first|(with_reducible first|exact HB.out|apply Qg|apply Qd|apply Qf|refine Qa ?_ (Aside0.out (by assumption)))|exact HB.out|(refine Qa ?_ (Aside0.out (by assumption))))):Aside0 (Below w.heap.size w w2):=⟨Qj b h⟩
theorem sGe {w W:World} {g:Nat} (h:g=W.heap.size) (b:Below w.heap.size w W:=by repeat(first|(with_reducible first|exact HB.out|apply Qg|apply Qd|apply Qf|refine Qa ?_ (Aside0.out (by assumption)))|exact HB.out|(refine Qa ?_ (Aside0.out (by assumption))))):Aside0 (w.heap.size≤g):=⟨by rw[h];exact Qi b⟩
theorem sNl {w W:World} {g k:Nat} {o:Obj} (b:Aside0 (w.heap[g]?=some o)) (h:k=W.heap.size) (e:W.heap[g]?=some o:=by(with_reducible repeat(first|refine Qb ?_ _|refine Qe ?_|refine Qc ?_ _|refine Qs ?_ (Aside0.out (by assumption)) _));exact Aside0.out (by assumption)):Aside0 (g≠k):=⟨by rw[h];exact Nat.ne_of_lt (Qp e)⟩
theorem sNg {w W:World} {g k:Nat} {o:Obj} (b:Aside0 (w.heap[g]?=some o)) (h:k=W.heap.size) (e:W.heap[g]?=some o:=by(with_reducible repeat(first|refine Qb ?_ _|refine Qe ?_|refine Qc ?_ _|refine Qs ?_ (Aside0.out (by assumption)) _));exact Aside0.out (by assumption)):Aside0 (k≠g):=⟨by rw[h];exact Nat.ne_of_gt (Qp e)⟩
def bN (n m:Nat):Array Bool:=((List.range n).map fun i=>m.testBit i).toArray
end Go.Proofs.Ytmfffemidlhcpaa.C
namespace Go.Proofs.Ytmfffemidlhcpaa.C
open Go.RowKit Go.Proofs.YtmfffemidlhcpaaW.PrintWords Go.Proofs.YtmfffemidlhcpaaW.PrintLast Go.Proofs.YtmfffemidlhcpaaW.PrintMore
attribute [local go_sem] Z1 Zz Z9 Z8 Zq Zp Z0 Zy
set_option linter.unusedVariables false
set_option linter.unusedSimpArgs false
def group_house.f (J:Int) (B:Int) (Y:Int) (Z:Int) (γ:Int) (ζ :Int) (ε :Int) (κ :Int) (ι :Int) (θ :Int) (l1:List (S31)):Option (Int×Int):=some (J,(l1.length:Int))
set_option maxHeartbeats 8000000 in
set_option maxRecDepth 100000 in
theorem group_house.calls (J:Int) (B:Int) (Y:Int) (Z:Int) (γ:Int) (ζ :Int) (ε :Int) (κ :Int) (ι :Int) (θ :Int) (A1:Option Addr) (c1:Nat) (l1:List (S31)) (r1:Int) (r2:Int) (w:World) (du:Kd.C k31 w A1 l1.length l1) (dm:l1.length≤c1) (h:group_house.f J B Y Z γ ζ ε κ ι θ l1=some (r1,r2)):
  Calls Try.prog 37 #[.agg #[.int .i64 J,.int .i64 B,.int .i64 Y,.int .i64 Z,.int .i64 γ,.int .i64 ζ,.int .i64 ε,.int .i64 κ,.int .i64 ι,.int .i64 θ],.slice A1 l1.length c1] w fun e w'=>e = .returned (.agg #[.int .i64 r1,.int .i64 r2])∧Below w.heap.size w w':=by
 have dc:=Try.underlying25
 have eb:=Try.underlying59
 have df:=Aside0.mk du
 have dx:=Aside0.mk dm
 clear du dm
 have HB:=Aside0.mk (Below.refl w.heap.size w)
 have H:(some (J,(l1.length:Int)))=some (r1,r2):=h
 clear h
 simp only[Option.some.injEq,Prod.mk.injEq] at H
 obtain⟨rfl,rfl⟩:=H
 go_enter Try.func37,Try.ntmps37
 go_wp2_with (first|((with_reducible refine Qr (N:=2) rfl ?_);refine Qq ?hg (N:=2) ?hd (cs:=#[.int .i64 J,.int .i64 B,.int .i64 Y,.int .i64 Z,.int .i64 γ,.int .i64 ζ,.int .i64 ε,.int .i64 κ,.int .i64 ι,.int .i64 θ]) (t:=25) ?hr ?_;(case hd=>rfl);(case hg=>rfl);(case hr=>first|(go_simp;done)|(go_simp;rfl));intro η hg w3 hbox hb;have L:=Aside0.mk (Qj (by repeat(first|(with_reducible first|exact HB.out|apply Qg|apply Qd|apply Qf)|exact HB.out)) hb);have O:=Aside0.mk (hbox);have X:=Aside0.mk ((by rw[hg];exact(Qi (by repeat(first|(with_reducible first|exact HB.out|apply Qg|apply Qd|apply Qf)|exact HB.out))):w.heap.size ≤ η));have δ :=Aside0.mk ((by rw[hg];exact(Qi (by repeat(first|(with_reducible first|exact HB.out|apply Qg|apply Qd|apply Qf)|exact HB.out))):w.heap.size ≤ η));clear HB;have HB:=L;have μ :=O;have al:=X;have ρ:= δ;clear L O X δ;clear hb hbox hg)|((with_reducible refine Qr (N:=4) rfl ?_);refine Qq ?hg (N:=4) ?hd (cs:=#[.int .i64 0,.int .i64 0]) (t:=59) ?hr ?_;(case hd=>rfl);(case hg=>rfl);(case hr=>first|(go_simp;done)|(go_simp;rfl));intro ν hg w4 hbox hb;have L:=Aside0.mk (Qh (g:= η) (o:=.cells #[.int .i64 J,.int .i64 B,.int .i64 Y,.int .i64 Z,.int .i64 γ,.int .i64 ζ,.int .i64 ε,.int .i64 κ,.int .i64 ι,.int .i64 θ] 25 (0,0)) (by(with_reducible repeat first|apply Qb|apply Qe|apply Qc);exact μ.out) hb);have O:=Aside0.mk (Qj (by repeat(first|(with_reducible first|exact HB.out|apply Qg|apply Qd|apply Qf|refine Qa ?_ ρ.out)|exact HB.out)) hb);have X:=Aside0.mk (hbox);have δ :=Aside0.mk ((by rw[hg];exact(Qi (by repeat(first|(with_reducible first|exact HB.out|apply Qg|apply Qd|apply Qf|refine Qa ?_ ρ.out)|exact HB.out))):w.heap.size ≤ ν));have ξ :=Aside0.mk ((by rw[hg];exact(Qi (by repeat(first|(with_reducible first|exact HB.out|apply Qg|apply Qd|apply Qf|refine Qa ?_ ρ.out)|exact HB.out))):w.heap.size ≤ ν));have φ :=Aside0.mk ((by rw[hg];exact Nat.ne_of_lt (Qp (g:= η) (o:=.cells #[.int .i64 J,.int .i64 B,.int .i64 Y,.int .i64 Z,.int .i64 γ,.int .i64 ζ,.int .i64 ε,.int .i64 κ,.int .i64 ι,.int .i64 θ] 25 (0,0)) (by(with_reducible repeat first|apply Qb|apply Qe|apply Qc);exact μ.out)): η ≠ ν));have ω :=Aside0.mk ((by rw[hg];exact Nat.ne_of_gt (Qp (g:= η) (o:=.cells #[.int .i64 J,.int .i64 B,.int .i64 Y,.int .i64 Z,.int .i64 γ,.int .i64 ζ,.int .i64 ε,.int .i64 κ,.int .i64 ι,.int .i64 θ] 25 (0,0)) (by(with_reducible repeat first|apply Qb|apply Qe|apply Qc);exact μ.out)): ν ≠ η));clear μ;clear HB;have μ :=L;have HB:=O;have χ :=X;have am:= δ;have ψ := ξ;have σ:= φ;have τ := ω;clear L O X δ ξ φ ω;clear hb hbox hg;have an:=σ.out;have ao:= τ.out;obtain⟨a0,a1,a2,a3,a4,a5,a6,a7,a8,a9,aa,ab,ac,ae,af,ag,ah,ai,aj,ak⟩:=Zh μ.out;obtain⟨b2,b3,b6,b7⟩:=qD2 χ.out))
 refine bodyPost_ret (results_cell_row rfl _ _ ν 59 #[.int .i64 J,.int .i64 (l1.length:Int)] (0,0) _ rfl (by(with_reducible repeat first|apply Qb|apply Qe|apply Qc);refine Qu (cs:=#[.int .i64 J,.int .i64 0]) ?_ 1 _ rfl;(with_reducible repeat first|apply Qb|apply Qe|apply Qc);refine Qu (cs:=#[.int .i64 0,.int .i64 0]) ?_ 0 _ rfl;(with_reducible repeat first|apply Qb|apply Qe|apply Qc);exact χ.out) Try.underlying59 rfl kr) rfl ?_
 exact⟨by first|rfl|(simp[Qo,Qn] <;> rfl)|(simp[*,Qo,Qn] <;> rfl),by repeat(first|(with_reducible first|exact HB.out|apply Qg|apply Qd|apply Qf|refine Qa ?_ ρ.out|refine Qa ?_ ψ.out)|exact HB.out)⟩
def newellaw17_Plain.f:Option (Int×Int×Int×Int×Int×Int×Int×Int×Int×Int):=some (4,2,1,2,4,1,2,3,4,0)
set_option maxHeartbeats 8000000 in
set_option maxRecDepth 100000 in
theorem newellaw17_Plain.calls  (r1:Int) (r2:Int) (r3:Int) (r4:Int) (J:Int) (Y:Int) (Z:Int) (r8:Int) (r9:Int) (B:Int) (w:World) (h:newellaw17_Plain.f=some (r1,r2,r3,r4,J,Y,Z,r8,r9,B)):
  Calls Try.prog 27 #[] w fun e w'=>e = .returned (.agg #[.int .i64 r1,.int .i64 r2,.int .i64 r3,.int .i64 r4,.int .i64 J,.int .i64 Y,.int .i64 Z,.int .i64 r8,.int .i64 r9,.int .i64 B])∧Below w.heap.size w w':=by
 have dc:=Try.underlying25
 have h4:=Try.underlying23
 have HB:=Aside0.mk (Below.refl w.heap.size w)
 have H:(some (4,2,1,2,4,1,2,3,4,0))=some (r1,r2,r3,r4,J,Y,Z,r8,r9,B):=h
 clear h
 simp only[Option.some.injEq,Prod.mk.injEq] at H
 obtain⟨rfl,rfl,rfl,rfl,rfl,rfl,rfl,rfl,rfl,rfl⟩:=H
 go_enter Try.func27,Try.ntmps27
 go_wp2_with (first|((with_reducible refine Qr (N:=0) rfl ?_);refine Qq ?hg (N:=0) ?hd (cs:=#[.int .i64 0,.int .i64 0,.int .i64 0,.int .i64 0,.int .i64 0,.int .i64 0,.int .i64 0,.int .i64 0,.int .i64 0,.int .i64 0]) (t:=25) ?hr ?_;(case hd=>rfl);(case hg=>rfl);(case hr=>first|(go_simp;done)|(go_simp;rfl));intro ac hg w1 hbox hb;have L:=Aside0.mk (Qj (by repeat(first|(with_reducible first|exact HB.out|apply Qg|apply Qd|apply Qf)|exact HB.out)) hb);have O:=Aside0.mk (hbox);have X:=Aside0.mk ((by rw[hg];exact(Qi (by repeat(first|(with_reducible first|exact HB.out|apply Qg|apply Qd|apply Qf)|exact HB.out))):w.heap.size≤ac));have δ :=Aside0.mk ((by rw[hg];exact(Qi (by repeat(first|(with_reducible first|exact HB.out|apply Qg|apply Qd|apply Qf)|exact HB.out))):w.heap.size≤ac));clear HB;have HB:=L;have μ :=O;have ki:=X;have iz:= δ;clear L O X δ;clear hb hbox hg;obtain⟨γ,ε,ζ,η,θ,ι,κ,ν,ξ,ρ,σ,τ,φ,χ,ψ,ω,a0,a1,a2,a3⟩:=Zh μ.out))
 refine bodyPost_ret (results_cell_row rfl _ _ ac 25 #[.int .i64 4,.int .i64 2,.int .i64 1,.int .i64 2,.int .i64 4,.int .i64 1,.int .i64 2,.int .i64 3,.int .i64 4,.int .i64 0] (0,0) _ rfl (by(with_reducible repeat first|apply Qb|apply Qe|apply Qc);refine Qu (cs:=#[.int .i64 4,.int .i64 2,.int .i64 1,.int .i64 2,.int .i64 4,.int .i64 1,.int .i64 2,.int .i64 3,.int .i64 4,.int .i64 0]) ?_ 9 _ rfl;(with_reducible repeat first|apply Qb|apply Qe|apply Qc);refine Qu (cs:=#[.int .i64 4,.int .i64 2,.int .i64 1,.int .i64 2,.int .i64 4,.int .i64 1,.int .i64 2,.int .i64 3,.int .i64 0,.int .i64 0]) ?_ 8 _ rfl;(with_reducible repeat first|apply Qb|apply Qe|apply Qc);refine Qu (cs:=#[.int .i64 4,.int .i64 2,.int .i64 1,.int .i64 2,.int .i64 4,.int .i64 1,.int .i64 2,.int .i64 0,.int .i64 0,.int .i64 0]) ?_ 7 _ rfl;(with_reducible repeat first|apply Qb|apply Qe|apply Qc);refine Qu (cs:=#[.int .i64 4,.int .i64 2,.int .i64 1,.int .i64 2,.int .i64 4,.int .i64 1,.int .i64 0,.int .i64 0,.int .i64 0,.int .i64 0]) ?_ 6 _ rfl;(with_reducible repeat first|apply Qb|apply Qe|apply Qc);refine Qu (cs:=#[.int .i64 4,.int .i64 2,.int .i64 1,.int .i64 2,.int .i64 4,.int .i64 0,.int .i64 0,.int .i64 0,.int .i64 0,.int .i64 0]) ?_ 5 _ rfl;(with_reducible repeat first|apply Qb|apply Qe|apply Qc);refine Qu (cs:=#[.int .i64 4,.int .i64 2,.int .i64 1,.int .i64 2,.int .i64 0,.int .i64 0,.int .i64 0,.int .i64 0,.int .i64 0,.int .i64 0]) ?_ 4 _ rfl;(with_reducible repeat first|apply Qb|apply Qe|apply Qc);refine Qu (cs:=#[.int .i64 4,.int .i64 2,.int .i64 1,.int .i64 0,.int .i64 0,.int .i64 0,.int .i64 0,.int .i64 0,.int .i64 0,.int .i64 0]) ?_ 3 _ rfl;(with_reducible repeat first|apply Qb|apply Qe|apply Qc);refine Qu (cs:=#[.int .i64 4,.int .i64 2,.int .i64 0,.int .i64 0,.int .i64 0,.int .i64 0,.int .i64 0,.int .i64 0,.int .i64 0,.int .i64 0]) ?_ 2 _ rfl;(with_reducible repeat first|apply Qb|apply Qe|apply Qc);refine Qu (cs:=#[.int .i64 4,.int .i64 0,.int .i64 0,.int .i64 0,.int .i64 0,.int .i64 0,.int .i64 0,.int .i64 0,.int .i64 0,.int .i64 0]) ?_ 1 _ rfl;(with_reducible repeat first|apply Qb|apply Qe|apply Qc);refine Qu (cs:=#[.int .i64 0,.int .i64 0,.int .i64 0,.int .i64 0,.int .i64 0,.int .i64 0,.int .i64 0,.int .i64 0,.int .i64 0,.int .i64 0]) ?_ 0 _ rfl;(with_reducible repeat first|apply Qb|apply Qe|apply Qc);exact μ.out) Try.underlying25 rfl kr) rfl ?_
 exact⟨by first|rfl|(simp[Qo,Qn] <;> rfl)|(simp[*,Qo,Qn] <;> rfl),by repeat(first|(with_reducible first|exact HB.out|apply Qg|apply Qd|apply Qf|refine Qa ?_ iz.out)|exact HB.out)⟩
end Go.Proofs.Ytmfffemidlhcpaa.C
