/- Texts of this claim, one behind the other: what the law's functions come to, walked (printed by a program, with the words that the print uses), and what that is, in plain Lean. No conditions of their own. -/
import Derived.Test.YtickbejailcehaaDoorQFlashWrites3
namespace Go.Proofs.YtickbejailcehaaDoor.C
open Go.RowKit Go.Proofs.YtickbejailcehaaDoorW.PrintWords Go.Proofs.YtickbejailcehaaDoorW.PrintLast Go.Proofs.YtickbejailcehaaDoorW.PrintMore
attribute [local go_sem] Xm Xk X0 Xz Xc Xb Xl Xj
set_option linter.unusedVariables false
set_option linter.unusedSimpArgs false
def newelref12_Recover.j0:Nat→Bool→Int→Int→Int→List Int→Int→Int→Int→Int→List Int→Int→Option (Int×Int×Int×List Int×Bool×Bool)
 |0,_,_,_,_,_,_,_,_,_,_,_=>none
 |k+1,δ,B,D,I,J,γ,O,U,X,Y,Z=>if δ = true then (some (B,D,I,J,false,true)) else (if Z=0 then (some (O,U,X,Y,true,true)) else (some (0,0,0,([]:List Int),false,false)))
def newelref12_Recover.f (k:Nat) (J:List Int) (B:List Int):Option (Int×Int×Int×List Int×Bool×Bool):=(newelref12_Read.f k J).bind fun τ =>((newelref12_Read.f k B).bind fun ζ =>(if τ.2.2.2.2=0 then (if ζ.2.2.2.2=0 then (newelref12_Recover.j0 k (decide (τ.1 ≥ ζ.1)) τ.1 τ.2.1 τ.2.2.1 τ.2.2.2.1 τ.2.2.2.2 ζ.1 ζ.2.1 ζ.2.2.1 ζ.2.2.2.1 ζ.2.2.2.2) else (newelref12_Recover.j0 k true τ.1 τ.2.1 τ.2.2.1 τ.2.2.2.1 τ.2.2.2.2 ζ.1 ζ.2.1 ζ.2.2.1 ζ.2.2.2.1 ζ.2.2.2.2)) else (newelref12_Recover.j0 k false τ.1 τ.2.1 τ.2.2.1 τ.2.2.2.1 τ.2.2.2.2 ζ.1 ζ.2.1 ζ.2.2.1 ζ.2.2.2.1 ζ.2.2.2.2)))
theorem newelref12_Recover.Zl:∀ k,(∀ B I J U Y Z y6 y7 y8 y9 X,LeO (newelref12_Recover.j0 k B I J U Y Z y6 y7 y8 y9 X) (newelref12_Recover.j0 (k+1) B I J U Y Z y6 y7 y8 y9 X))
 |0=>fun _ _ _ _ _ _ _ _ _ _ _ r h=>by simp[newelref12_Recover.j0] at h
 |k+1=>by
  have D:=newelref12_Recover.Zl k
  ·intro B I J U Y Z y6 y7 y8 y9 X
   unfold newelref12_Recover.j0
   repeat' first
   |(with_reducible exact D _ _ _ _ _ _ _ _ _ _ _)
   |(with_reducible exact newelref12_Read.mono _ _)
   |(with_reducible exact LeO.refl _)
   |(with_reducible exact LeO.none _)
   |(with_reducible refine LeO.ite ?_ ?_)
   |(with_reducible refine LeO.bind ?_ (fun _=>?_))
   |exact D _ _ _ _ _ _ _ _ _ _ _
   |exact newelref12_Read.mono _ _
   |exact LeO.none _
   |refine LeO.ite ?_ ?_
   |refine LeO.bind ?_ (fun _=>?_)
theorem newelref12_Recover.mono:∀ J B k,LeO (newelref12_Recover.f k J B) (newelref12_Recover.f (k+1) J B):=by
 intro J B k
 have D:=newelref12_Recover.Zl k
 unfold newelref12_Recover.f
 repeat' first
   |(with_reducible exact D _ _ _ _ _ _ _ _ _ _ _)
   |(with_reducible exact newelref12_Read.mono _ _)
   |(with_reducible exact LeO.refl _)
   |(with_reducible exact LeO.none _)
   |(with_reducible refine LeO.ite ?_ ?_)
   |(with_reducible refine LeO.bind ?_ (fun _=>?_))
   |exact D _ _ _ _ _ _ _ _ _ _ _
   |exact newelref12_Read.mono _ _
   |exact LeO.none _
   |refine LeO.ite ?_ ?_
   |refine LeO.bind ?_ (fun _=>?_)
set_option maxHeartbeats 8000000 in
set_option maxRecDepth 100000 in
theorem newelref12_Recover.calls (k:Nat) (ae:Nat→Prop) (γ:Option Addr) (δ :Nat) (J:List Int) (af:Nat→Prop) (Y:Option Addr) (Z:Nat) (B:List Int) (r1:Int) (r2:Int) (r3:Int) (r4:List Int) (r5:Bool) (r6:Bool) (w:World) (jk:Kd.V (Kd.int .u8) 5 w w.heap.size (fun k_=>ae k_) (.slice γ J.length δ) J) (jl:Kd.V (Kd.int .u8) 5 w w.heap.size (fun k_=>af k_) (.slice Y B.length Z) B) (h:newelref12_Recover.f k J B=some (r1,r2,r3,r4,r5,r6)):
  Calls Tryd.prog 15 #[.agg #[.slice γ J.length δ,.slice Y B.length Z]] w fun e w'=>∃ bw:Value,e = .returned (.agg #[.int .i64 r1,.int .i64 r2,.int .i64 r3,bw,.bool r5,.bool r6])∧Kd.V (Kd.int .u8) 5 w' w.heap.size (fun k_=>((ae k_∨af k_)∨w.heap.size≤k_)) bw r4∧Below w.heap.size w w':=by
 have iv:=Tryd.underlying24
 have om:=Tryd.underlying39
 have hu:=Tryd.underlying62
 have dz:=Tryd.underlying26
 have aa:=Aside0.mk (show Kd.V (Kd.int .u8) 5 w w.heap.size (fun k_=>((ae k_∨af k_)∨w.heap.size≤k_)) (.slice γ J.length δ) J from Kd.Qt jk (fun k_ hk=>.inl (.inl hk)))
 have ac:=Aside0.mk (show Kd.V (Kd.int .u8) 5 w w.heap.size (fun k_=>((ae k_∨af k_)∨w.heap.size≤k_)) (.slice Y B.length Z) B from Kd.Qt jl (fun k_ hk=>.inl (.inr hk)))
 have HB:=Aside0.mk (Below.refl w.heap.size w)
 have H:((newelref12_Read.f k J).bind fun τ =>((newelref12_Read.f k B).bind fun ζ =>(if τ.2.2.2.2=0 then (if ζ.2.2.2.2=0 then (newelref12_Recover.j0 k (decide (τ.1 ≥ ζ.1)) τ.1 τ.2.1 τ.2.2.1 τ.2.2.2.1 τ.2.2.2.2 ζ.1 ζ.2.1 ζ.2.2.1 ζ.2.2.2.1 ζ.2.2.2.2) else (newelref12_Recover.j0 k true τ.1 τ.2.1 τ.2.2.1 τ.2.2.2.1 τ.2.2.2.2 ζ.1 ζ.2.1 ζ.2.2.1 ζ.2.2.2.1 ζ.2.2.2.2)) else (newelref12_Recover.j0 k false τ.1 τ.2.1 τ.2.2.1 τ.2.2.2.1 τ.2.2.2.2 ζ.1 ζ.2.1 ζ.2.2.1 ζ.2.2.2.1 ζ.2.2.2.2))))=some (r1,r2,r3,r4,r5,r6):=h
 clear h
 replace H:=Option.bind_eq_some_iff.mp H
 obtain⟨⟨a1,a7,ak,ag,ao⟩,cg,H⟩:=H
 replace H:((newelref12_Read.f k B).bind fun ζ =>(if ao=0 then (if ζ.2.2.2.2=0 then (newelref12_Recover.j0 k (decide (a1 ≥ ζ.1)) a1 a7 ak ag ao ζ.1 ζ.2.1 ζ.2.2.1 ζ.2.2.2.1 ζ.2.2.2.2) else (newelref12_Recover.j0 k true a1 a7 ak ag ao ζ.1 ζ.2.1 ζ.2.2.1 ζ.2.2.2.1 ζ.2.2.2.2)) else (newelref12_Recover.j0 k false a1 a7 ak ag ao ζ.1 ζ.2.1 ζ.2.2.1 ζ.2.2.2.1 ζ.2.2.2.2)))=some (r1,r2,r3,r4,r5,r6):=H
 have A2:=Aside0.mk cg
 clear cg
 replace H:=Option.bind_eq_some_iff.mp H
 obtain⟨⟨χ,a2,a3,ai,a6⟩,cy,H⟩:=H
 replace H:(if ao=0 then (if a6=0 then (newelref12_Recover.j0 k (decide (a1 ≥ χ)) a1 a7 ak ag ao χ a2 a3 ai a6) else (newelref12_Recover.j0 k true a1 a7 ak ag ao χ a2 a3 ai a6)) else (newelref12_Recover.j0 k false a1 a7 ak ag ao χ a2 a3 ai a6))=some (r1,r2,r3,r4,r5,r6):=H
 have A3:=Aside0.mk cy
 clear cy
 have en:=Aside0.mk H
 clear H
 go_enter Tryd.func15,Tryd.ntmps15
 go_upto_region 3 with(first|((with_reducible refine Qz (N:=1) rfl ?_);refine Q7 ?hg (N:=1) ?hd (cs:=#[.slice γ J.length δ,.slice Y B.length Z]) (t:=24) ?hr ?_;(case hd=>rfl);(case hg=>rfl);(case hr=>first|(go_simp;done)|(go_simp;rfl));intro σ hg w5 hbox hb;have D:=Aside0.mk (Kd.Q2 (Kd.Q9 (by(with_reducible repeat first|apply Kd.Qx|apply Kd.Qw|apply Kd.Q0);exact aa.out) σ (Nat.le_of_eq hg.symm)) hb);have I:=Aside0.mk (Kd.Q2 (Kd.Q9 (by(with_reducible repeat first|apply Kd.Qx|apply Kd.Qw|apply Kd.Q0);exact ac.out) σ (Nat.le_of_eq hg.symm)) hb);have O:=Aside0.mk (Qr (by repeat(first|(with_reducible first|exact HB.out|apply Qe|apply Qa|apply Qf)|exact HB.out)) hb);have U:=Aside0.mk (hbox);have ε :=Aside0.mk ((by rw[hg];exact(Qj (by repeat(first|(with_reducible first|exact HB.out|apply Qe|apply Qa|apply Qf)|exact HB.out))):w.heap.size≤σ));have ν :=Aside0.mk ((by rw[hg];exact(Qj (by repeat(first|(with_reducible first|exact HB.out|apply Qe|apply Qa|apply Qf)|exact HB.out))):w.heap.size≤σ));clear aa;clear ac;clear HB;have aa:=D;have ac:=I;have HB:=O;have φ :=U;have ix:= ε;have aj:= ν;clear D I O U ε ν;clear hb hbox hg)|((with_reducible refine Qz (N:=2) rfl ?_);refine Q7 ?hg (N:=2) ?hd (cs:=#[.int .i64 0,.int .i64 0,.int .i64 0,.slice none 0 0,.bool false,.bool false]) (t:=39) ?hr ?_;(case hd=>rfl);(case hg=>rfl);(case hr=>first|(go_simp;done)|(go_simp;rfl));intro η hg w6 hbox hb;have D:=Aside0.mk (Kd.Q2 (Kd.Q9 (by(with_reducible repeat first|apply Kd.Qx|apply Kd.Qw|apply Kd.Q0);exact aa.out) η (Nat.le_of_eq hg.symm)) hb);have I:=Aside0.mk (Kd.Q2 (Kd.Q9 (by(with_reducible repeat first|apply Kd.Qx|apply Kd.Qw|apply Kd.Q0);exact ac.out) η (Nat.le_of_eq hg.symm)) hb);have O:=Aside0.mk (Qp (g:=σ) (o:=.cells #[.slice γ J.length δ,.slice Y B.length Z] 24 (0,0)) (by(with_reducible repeat first|apply Qb|apply Qd|apply Qc);exact φ.out) hb);have U:=Aside0.mk (Qr (by repeat(first|(with_reducible first|exact HB.out|apply Qe|apply Qa|apply Qf|refine Qg ?_ aj.out)|exact HB.out)) hb);have ε :=Aside0.mk (hbox);have ν :=Aside0.mk ((by rw[hg];exact(Qj (by repeat(first|(with_reducible first|exact HB.out|apply Qe|apply Qa|apply Qf|refine Qg ?_ aj.out)|exact HB.out))):w.heap.size ≤ η));have ρ:=Aside0.mk ((by rw[hg];exact(Qj (by repeat(first|(with_reducible first|exact HB.out|apply Qe|apply Qa|apply Qf|refine Qg ?_ aj.out)|exact HB.out))):w.heap.size ≤ η));have a4:=Aside0.mk ((by rw[hg];exact Nat.ne_of_lt (Q8 (g:=σ) (o:=.cells #[.slice γ J.length δ,.slice Y B.length Z] 24 (0,0)) (by(with_reducible repeat first|apply Qb|apply Qd|apply Qc);exact φ.out)):σ ≠ η));have a5:=Aside0.mk ((by rw[hg];exact Nat.ne_of_gt (Q8 (g:=σ) (o:=.cells #[.slice γ J.length δ,.slice Y B.length Z] 24 (0,0)) (by(with_reducible repeat first|apply Qb|apply Qd|apply Qc);exact φ.out)): η ≠ σ));clear aa;clear ac;clear φ;clear HB;have aa:=D;have ac:=I;have φ :=O;have HB:=U;have ψ := ε;have iy:= ν;have ap:=ρ;have b4:=a4;have b5:=a5;clear D I O U ε ν ρ a4 a5;clear hb hbox hg;have h5:=b4.out;have h6:=b5.out;obtain⟨cd,cq,cu,cw⟩:=qD2 φ.out)|((with_reducible refine Qv (f:=26) rfl ?_);refine Ze (some 7) rfl rfl Tryd.func26 kr rfl #[.slice γ J.length δ] rfl (by(try simp only[List.map_toArray,List.map_cons,List.map_nil]);first|done|rfl|(simp only[List.length_drop,List.length_take];rfl)) ?_;(with_reducible refine(newelref12_Read.calls k (fun k_=>((((ae k_∨af k_)∨w.heap.size≤k_)∧k_≠σ)∧k_ ≠ η)) _ _ J a1 a7 ak ag ao _ ?side1 A2.out).mono ?_);(case side1=>exact aa.out);rintro e w9 ⟨j5,rfl,θ,hb⟩;refine⟨_,rfl, ?_⟩;have D:=Aside0.mk (Kd.Q2 (by(with_reducible repeat first|apply Kd.Qx|apply Kd.Qw|apply Kd.Q0);exact aa.out) hb);have I:=Aside0.mk (Kd.Q2 (by(with_reducible repeat first|apply Kd.Qx|apply Kd.Qw|apply Kd.Q0);exact ac.out) hb);have O:=Aside0.mk (Kd.Y1 (Kd.Qt (ok':=fun k_=>((ae k_∨af k_)∨w.heap.size≤k_)∧k_≠σ∧k_ ≠ η) θ (fun k_ hk_=>⟨Or.elim hk_ (fun hs_=>hs_.1.1) (fun hn_=>(.inr (Nat.le_trans (Qj (by repeat(first|(with_reducible first|exact HB.out|apply Qe|apply Qa|apply Qf|refine Qg ?_ aj.out|refine Qg ?_ ap.out)|exact HB.out))) hn_))),Or.elim hk_ (fun hs_=>hs_.1.2) (fun hn_=>(Kd.Z5 (g:=σ) (o:=.cells #[.slice γ J.length δ,.slice Y B.length Z] 24 (0,0)) (by(with_reducible repeat first|apply Qb|apply Qd|apply Qc);exact φ.out) k_ hn_)),Or.elim hk_ (fun hs_=>hs_.2) (fun hn_=>(Kd.Z5 (g:= η) (o:=.cells #[.int .i64 0,.int .i64 0,.int .i64 0,.slice none 0 0,.bool false,.bool false] 39 (0,0)) (by(with_reducible repeat first|apply Qb|apply Qd|apply Qc);exact ψ.out) k_ hn_))⟩)) (Qj (by repeat(first|(with_reducible first|exact HB.out|apply Qe|apply Qa|apply Qf|refine Qg ?_ aj.out|refine Qg ?_ ap.out)|exact HB.out))));have U:=Aside0.mk (Qp (g:=σ) (o:=.cells #[.slice γ J.length δ,.slice Y B.length Z] 24 (0,0)) (by(with_reducible repeat first|apply Qb|apply Qd|apply Qc);exact φ.out) hb);have ε :=Aside0.mk (Qp (g:= η) (o:=.cells #[.int .i64 0,.int .i64 0,.int .i64 0,.slice none 0 0,.bool false,.bool false] 39 (0,0)) (by(with_reducible repeat first|apply Qb|apply Qd|apply Qc);exact ψ.out) hb);have ν :=Aside0.mk (Qr (by repeat(first|(with_reducible first|exact HB.out|apply Qe|apply Qa|apply Qf|refine Qg ?_ aj.out|refine Qg ?_ ap.out)|exact HB.out)) hb);clear aa;clear ac;clear φ;clear ψ;clear HB;have aa:=D;have ac:=I;have av:=O;have φ :=U;have ψ := ε;have HB:= ν;clear D I O U ε ν;(try clear hb);(try clear az);(try clear hk);(try clear hi);(try clear θ))|((with_reducible refine Qz (N:=3) rfl ?_);refine Q7 ?hg (N:=3) ?hd (cs:=#[.int .i64 0,.int .i64 0,.int .i64 0,.slice none 0 0,.int .i64 0]) (t:=62) ?hr ?_;(case hd=>rfl);(case hg=>rfl);(case hr=>first|(go_simp;done)|(go_simp;rfl));intro ι hg gh hbox hb;have D:=Aside0.mk (Kd.Q2 (Kd.Q9 (by(with_reducible repeat first|apply Kd.Qx|apply Kd.Qw|apply Kd.Q0);exact aa.out) ι (Nat.le_of_eq hg.symm)) hb);have I:=Aside0.mk (Kd.Q2 (Kd.Q9 (by(with_reducible repeat first|apply Kd.Qx|apply Kd.Qw|apply Kd.Q0);exact ac.out) ι (Nat.le_of_eq hg.symm)) hb);have O:=Aside0.mk (Kd.Q2 (Kd.Q9 (by(with_reducible repeat first|apply Kd.Qx|apply Kd.Qw|apply Kd.Q0);exact av.out) ι (Nat.le_of_eq hg.symm)) hb);have U:=Aside0.mk (Qp (g:=σ) (o:=.cells #[.slice γ J.length δ,.slice Y B.length Z] 24 (0,0)) (by(with_reducible repeat first|apply Qb|apply Qd|apply Qc);exact φ.out) hb);have ε :=Aside0.mk (Qp (g:= η) (o:=.cells #[.int .i64 0,.int .i64 0,.int .i64 0,.slice none 0 0,.bool false,.bool false] 39 (0,0)) (by(with_reducible repeat first|apply Qb|apply Qd|apply Qc);exact ψ.out) hb);have ν :=Aside0.mk (Qr (by repeat(first|(with_reducible first|exact HB.out|apply Qe|apply Qa|apply Qf|refine Qg ?_ aj.out|refine Qg ?_ ap.out)|exact HB.out)) hb);have ρ:=Aside0.mk (hbox);have a4:=Aside0.mk ((by rw[hg];exact(Qj (by repeat(first|(with_reducible first|exact HB.out|apply Qe|apply Qa|apply Qf|refine Qg ?_ aj.out|refine Qg ?_ ap.out)|exact HB.out))):w.heap.size ≤ ι));have a5:=Aside0.mk ((by rw[hg];exact(Qj (by repeat(first|(with_reducible first|exact HB.out|apply Qe|apply Qa|apply Qf|refine Qg ?_ aj.out|refine Qg ?_ ap.out)|exact HB.out))):w.heap.size ≤ ι));have ab:=Aside0.mk ((by rw[hg];exact Nat.ne_of_lt (Q8 (g:=σ) (o:=.cells #[.slice γ J.length δ,.slice Y B.length Z] 24 (0,0)) (by(with_reducible repeat first|apply Qb|apply Qd|apply Qc);exact φ.out)):σ ≠ ι));have am:=Aside0.mk ((by rw[hg];exact Nat.ne_of_gt (Q8 (g:=σ) (o:=.cells #[.slice γ J.length δ,.slice Y B.length Z] 24 (0,0)) (by(with_reducible repeat first|apply Qb|apply Qd|apply Qc);exact φ.out)): ι ≠ σ));have ar:=Aside0.mk ((by rw[hg];exact Nat.ne_of_lt (Q8 (g:= η) (o:=.cells #[.int .i64 0,.int .i64 0,.int .i64 0,.slice none 0 0,.bool false,.bool false] 39 (0,0)) (by(with_reducible repeat first|apply Qb|apply Qd|apply Qc);exact ψ.out)): η ≠ ι));have b8:=Aside0.mk ((by rw[hg];exact Nat.ne_of_gt (Q8 (g:= η) (o:=.cells #[.int .i64 0,.int .i64 0,.int .i64 0,.slice none 0 0,.bool false,.bool false] 39 (0,0)) (by(with_reducible repeat first|apply Qb|apply Qd|apply Qc);exact ψ.out)): ι ≠ η));clear aa;clear ac;clear av;clear φ;clear ψ;clear HB;have aa:=D;have ac:=I;have av:=O;have φ :=U;have ψ := ε;have HB:= ν;have an:=ρ;have iz:=a4;have ay:=a5;have au:=ab;have b1:=am;have ah:=ar;have aw:=b8;clear D I O U ε ν ρ a4 a5 ab am ar b8;clear hb hbox hg;have jm:=b1.out;have jn:=au.out;have jo:=aw.out;have jp:=ah.out;obtain⟨b7,b9,ba,bc,d0,bg,bh,bi,bj,d2⟩:=qD5 an.out;obtain⟨ω,a0,cx⟩:=Kd.Jo av.out;subst cx)|((with_reducible refine Xq (t:=62) (p:=3) rfl ?_);refine Xd (t:=62) (p:=3) (v:=?vo_w15) (w1:=(((((gh.setCell ⟨ι,0,none⟩ (.int .i64 a1)).setCell ⟨ι,1,none⟩ (.int .i64 a7)).setCell ⟨ι,2,none⟩ (.int .i64 ak)).setCell ⟨ι,3,none⟩ (.slice ω ag.length a0)).setCell ⟨ι,4,none⟩ (.int .i64 ao))) ?hg ?ho ?hn ?hr ?_;(case ho=>rfl);(case hg=>rfl);(case hn=>rfl);(case hr=>first|(go_simp;done)|(go_simp;rfl));intro ec hw;have D:Aside0 (Kd.V (Kd.int .u8) 5 ec w.heap.size (fun k_=>((ae k_∨af k_)∨w.heap.size≤k_)∧k_≠σ∧k_ ≠ η ∧ k_ ≠ ι) (.slice γ J.length δ) J):=⟨(by rw[hw];exact(by(with_reducible repeat first|apply Kd.Qx|apply Kd.Qw|apply Kd.Q0);exact Kd.Qt (Kd.Qq (p:=⟨ι,4,none⟩) (Kd.Qq (p:=⟨ι,3,none⟩) (Kd.Qq (p:=⟨ι,2,none⟩) (Kd.Qq (p:=⟨ι,1,none⟩) (Kd.Qq (p:=⟨ι,0,none⟩) (Kd.Qt aa.out (fun k_ hk=>(⟨hk,hk.2⟩:_∧k_ ≠ ι))) (fun _ hk=>hk.2) (.int .i64 a1)) (fun _ hk=>hk.2) (.int .i64 a7)) (fun _ hk=>hk.2) (.int .i64 ak)) (fun _ hk=>hk.2) (.slice ω ag.length a0)) (fun _ hk=>hk.2) (.int .i64 ao)) (fun _ hk=>⟨hk.1.1.1.1,⟨hk.1.1.1.2,⟨hk.1.1.2,hk.1.2⟩⟩⟩)))⟩;have I:Aside0 (Kd.V (Kd.int .u8) 5 ec w.heap.size (fun k_=>((ae k_∨af k_)∨w.heap.size≤k_)∧k_≠σ∧k_ ≠ η ∧ k_ ≠ ι) (.slice Y B.length Z) B):=⟨(by rw[hw];exact(by(with_reducible repeat first|apply Kd.Qx|apply Kd.Qw|apply Kd.Q0);exact Kd.Qt (Kd.Qq (p:=⟨ι,4,none⟩) (Kd.Qq (p:=⟨ι,3,none⟩) (Kd.Qq (p:=⟨ι,2,none⟩) (Kd.Qq (p:=⟨ι,1,none⟩) (Kd.Qq (p:=⟨ι,0,none⟩) (Kd.Qt ac.out (fun k_ hk=>(⟨hk,hk.2⟩:_∧k_ ≠ ι))) (fun _ hk=>hk.2) (.int .i64 a1)) (fun _ hk=>hk.2) (.int .i64 a7)) (fun _ hk=>hk.2) (.int .i64 ak)) (fun _ hk=>hk.2) (.slice ω ag.length a0)) (fun _ hk=>hk.2) (.int .i64 ao)) (fun _ hk=>⟨hk.1.1.1.1,⟨hk.1.1.1.2,⟨hk.1.1.2,hk.1.2⟩⟩⟩)))⟩;have O:Aside0 (Kd.V (Kd.int .u8) 5 ec w.heap.size (fun k_=>((ae k_∨af k_)∨w.heap.size≤k_)∧k_≠σ∧k_ ≠ η ∧ k_ ≠ ι) (.slice ω ag.length a0) ag):=⟨(by rw[hw];exact(by(with_reducible repeat first|apply Kd.Qx|apply Kd.Qw|apply Kd.Q0);exact Kd.Qt (Kd.Qq (p:=⟨ι,4,none⟩) (Kd.Qq (p:=⟨ι,3,none⟩) (Kd.Qq (p:=⟨ι,2,none⟩) (Kd.Qq (p:=⟨ι,1,none⟩) (Kd.Qq (p:=⟨ι,0,none⟩) (Kd.Qt av.out (fun k_ hk=>(⟨hk,hk.2⟩:_∧k_ ≠ ι))) (fun _ hk=>hk.2) (.int .i64 a1)) (fun _ hk=>hk.2) (.int .i64 a7)) (fun _ hk=>hk.2) (.int .i64 ak)) (fun _ hk=>hk.2) (.slice ω ag.length a0)) (fun _ hk=>hk.2) (.int .i64 ao)) (fun _ hk=>⟨hk.1.1.1,⟨hk.1.1.2.1,⟨hk.1.1.2.2,hk.1.2⟩⟩⟩)))⟩;have U:Aside0 (ec.heap[σ]?=some (.cells #[.slice γ J.length δ,.slice Y B.length Z] 24 (0,0))):=⟨(by rw[hw];exact(by(with_reducible repeat first|apply Qb|apply Qd|apply Qc);refine Qs ?_ au.out _;(with_reducible repeat first|apply Qb|apply Qd|apply Qc);refine Qs ?_ au.out _;(with_reducible repeat first|apply Qb|apply Qd|apply Qc);refine Qs ?_ au.out _;(with_reducible repeat first|apply Qb|apply Qd|apply Qc);refine Qs ?_ au.out _;(with_reducible repeat first|apply Qb|apply Qd|apply Qc);refine Qs ?_ au.out _;(with_reducible repeat first|apply Qb|apply Qd|apply Qc);exact φ.out))⟩;have ε :Aside0 (ec.heap[η]?=some (.cells #[.int .i64 0,.int .i64 0,.int .i64 0,.slice none 0 0,.bool false,.bool false] 39 (0,0))):=⟨(by rw[hw];exact(by(with_reducible repeat first|apply Qb|apply Qd|apply Qc);refine Qs ?_ ah.out _;(with_reducible repeat first|apply Qb|apply Qd|apply Qc);refine Qs ?_ ah.out _;(with_reducible repeat first|apply Qb|apply Qd|apply Qc);refine Qs ?_ ah.out _;(with_reducible repeat first|apply Qb|apply Qd|apply Qc);refine Qs ?_ ah.out _;(with_reducible repeat first|apply Qb|apply Qd|apply Qc);refine Qs ?_ ah.out _;(with_reducible repeat first|apply Qb|apply Qd|apply Qc);exact ψ.out))⟩;have ν :Aside0 (ec.heap[ι]?=some (.cells #[.int .i64 a1,.int .i64 a7,.int .i64 ak,.slice ω ag.length a0,.int .i64 ao] 62 (0,0))):=⟨(by rw[hw];exact(by(with_reducible repeat first|apply Qb|apply Qd|apply Qc);refine Qk (cs:=#[.int .i64 a1,.int .i64 a7,.int .i64 ak,.slice ω ag.length a0,.int .i64 0]) ?_ 4 _ rfl;(with_reducible repeat first|apply Qb|apply Qd|apply Qc);refine Qk (cs:=#[.int .i64 a1,.int .i64 a7,.int .i64 ak,.slice none 0 0,.int .i64 0]) ?_ 3 _ rfl;(with_reducible repeat first|apply Qb|apply Qd|apply Qc);refine Qk (cs:=#[.int .i64 a1,.int .i64 a7,.int .i64 0,.slice none 0 0,.int .i64 0]) ?_ 2 _ rfl;(with_reducible repeat first|apply Qb|apply Qd|apply Qc);refine Qk (cs:=#[.int .i64 a1,.int .i64 0,.int .i64 0,.slice none 0 0,.int .i64 0]) ?_ 1 _ rfl;(with_reducible repeat first|apply Qb|apply Qd|apply Qc);refine Qk (cs:=#[.int .i64 0,.int .i64 0,.int .i64 0,.slice none 0 0,.int .i64 0]) ?_ 0 _ rfl;(with_reducible repeat first|apply Qb|apply Qd|apply Qc);exact an.out))⟩;have ρ:Aside0 (Below w.heap.size w ec):=⟨(by rw[hw];exact(by repeat(first|(with_reducible first|exact HB.out|apply Qe|apply Qa|apply Qf|refine Qg ?_ aj.out|refine Qg ?_ ap.out|refine Qg ?_ ay.out)|exact HB.out)))⟩;clear hw;clear aa;clear ac;clear av;clear φ;clear ψ;clear an;clear HB;have aa:=D;have ac:=I;have av:=O;have φ :=U;have ψ := ε;have an:= ν;have HB:=ρ;clear D I O U ε ν ρ;obtain⟨bk,bm,bn,bo⟩:=qD2 φ.out)|((with_reducible refine Qv (f:=26) rfl ?_);refine Ze (some 10) rfl rfl Tryd.func26 kr rfl #[.slice Y B.length Z] rfl (by(try simp only[List.map_toArray,List.map_cons,List.map_nil]);first|done|rfl|(simp only[List.length_drop,List.length_take];rfl)) ?_;(with_reducible refine(newelref12_Read.calls k (fun k_=>(((ae k_∨af k_)∨w.heap.size≤k_)∧(k_≠σ∧(k_ ≠ η ∧ k_ ≠ ι)))) _ _ B χ a2 a3 ai a6 _ ?side1 A3.out).mono ?_);(case side1=>exact ac.out);rintro e ju ⟨j6,rfl,θ,hb⟩;refine⟨_,rfl, ?_⟩;have D:=Aside0.mk (Kd.Q2 (by(with_reducible repeat first|apply Kd.Qx|apply Kd.Qw|apply Kd.Q0);exact aa.out) hb);have I:=Aside0.mk (Kd.Q2 (by(with_reducible repeat first|apply Kd.Qx|apply Kd.Qw|apply Kd.Q0);exact ac.out) hb);have O:=Aside0.mk (Kd.Q2 (by(with_reducible repeat first|apply Kd.Qx|apply Kd.Qw|apply Kd.Q0);exact av.out) hb);have U:=Aside0.mk (Kd.Y1 (Kd.Qt (ok':=fun k_=>((ae k_∨af k_)∨w.heap.size≤k_)∧k_≠σ∧k_ ≠ η ∧ k_ ≠ ι) θ (fun k_ hk_=>⟨Or.elim hk_ (fun hs_=>hs_.1) (fun hn_=>(.inr (Nat.le_trans (Qj (by repeat(first|(with_reducible first|exact HB.out|apply Qe|apply Qa|apply Qf|refine Qg ?_ aj.out|refine Qg ?_ ap.out|refine Qg ?_ ay.out)|exact HB.out))) hn_))),Or.elim hk_ (fun hs_=>hs_.2.1) (fun hn_=>(Kd.Z5 (g:=σ) (o:=.cells #[.slice γ J.length δ,.slice Y B.length Z] 24 (0,0)) (by(with_reducible repeat first|apply Qb|apply Qd|apply Qc);exact φ.out) k_ hn_)),Or.elim hk_ (fun hs_=>hs_.2.2.1) (fun hn_=>(Kd.Z5 (g:= η) (o:=.cells #[.int .i64 0,.int .i64 0,.int .i64 0,.slice none 0 0,.bool false,.bool false] 39 (0,0)) (by(with_reducible repeat first|apply Qb|apply Qd|apply Qc);exact ψ.out) k_ hn_)),Or.elim hk_ (fun hs_=>hs_.2.2.2) (fun hn_=>(Kd.Z5 (g:= ι) (o:=.cells #[.int .i64 a1,.int .i64 a7,.int .i64 ak,.slice ω ag.length a0,.int .i64 ao] 62 (0,0)) (by(with_reducible repeat first|apply Qb|apply Qd|apply Qc);exact an.out) k_ hn_))⟩)) (Qj (by repeat(first|(with_reducible first|exact HB.out|apply Qe|apply Qa|apply Qf|refine Qg ?_ aj.out|refine Qg ?_ ap.out|refine Qg ?_ ay.out)|exact HB.out))));have ε :=Aside0.mk (Qp (g:=σ) (o:=.cells #[.slice γ J.length δ,.slice Y B.length Z] 24 (0,0)) (by(with_reducible repeat first|apply Qb|apply Qd|apply Qc);exact φ.out) hb);have ν :=Aside0.mk (Qp (g:= η) (o:=.cells #[.int .i64 0,.int .i64 0,.int .i64 0,.slice none 0 0,.bool false,.bool false] 39 (0,0)) (by(with_reducible repeat first|apply Qb|apply Qd|apply Qc);exact ψ.out) hb);have ρ:=Aside0.mk (Qp (g:= ι) (o:=.cells #[.int .i64 a1,.int .i64 a7,.int .i64 ak,.slice ω ag.length a0,.int .i64 ao] 62 (0,0)) (by(with_reducible repeat first|apply Qb|apply Qd|apply Qc);exact an.out) hb);have a4:=Aside0.mk (Qr (by repeat(first|(with_reducible first|exact HB.out|apply Qe|apply Qa|apply Qf|refine Qg ?_ aj.out|refine Qg ?_ ap.out|refine Qg ?_ ay.out)|exact HB.out)) hb);clear aa;clear ac;clear av;clear φ;clear ψ;clear an;clear HB;have aa:=D;have ac:=I;have av:=O;have bd:=U;have φ := ε;have ψ := ν;have an:=ρ;have HB:=a4;clear D I O U ε ν ρ a4;(try clear hb);(try clear az);(try clear hk);(try clear hi);(try clear θ))|((with_reducible refine Qz (N:=4) rfl ?_);refine Q7 ?hg (N:=4) ?hd (cs:=#[.int .i64 0,.int .i64 0,.int .i64 0,.slice none 0 0,.int .i64 0]) (t:=62) ?hr ?_;(case hd=>rfl);(case hg=>rfl);(case hr=>first|(go_simp;done)|(go_simp;rfl));intro X hg m0 hbox hb;have D:=Aside0.mk (Kd.Q2 (Kd.Q9 (by(with_reducible repeat first|apply Kd.Qx|apply Kd.Qw|apply Kd.Q0);exact aa.out) X (Nat.le_of_eq hg.symm)) hb);have I:=Aside0.mk (Kd.Q2 (Kd.Q9 (by(with_reducible repeat first|apply Kd.Qx|apply Kd.Qw|apply Kd.Q0);exact ac.out) X (Nat.le_of_eq hg.symm)) hb);have O:=Aside0.mk (Kd.Q2 (Kd.Q9 (by(with_reducible repeat first|apply Kd.Qx|apply Kd.Qw|apply Kd.Q0);exact av.out) X (Nat.le_of_eq hg.symm)) hb);have U:=Aside0.mk (Kd.Q2 (Kd.Q9 (by(with_reducible repeat first|apply Kd.Qx|apply Kd.Qw|apply Kd.Q0);exact bd.out) X (Nat.le_of_eq hg.symm)) hb);have ε :=Aside0.mk (Qp (g:=σ) (o:=.cells #[.slice γ J.length δ,.slice Y B.length Z] 24 (0,0)) (by(with_reducible repeat first|apply Qb|apply Qd|apply Qc);exact φ.out) hb);have ν :=Aside0.mk (Qp (g:= η) (o:=.cells #[.int .i64 0,.int .i64 0,.int .i64 0,.slice none 0 0,.bool false,.bool false] 39 (0,0)) (by(with_reducible repeat first|apply Qb|apply Qd|apply Qc);exact ψ.out) hb);have ρ:=Aside0.mk (Qp (g:= ι) (o:=.cells #[.int .i64 a1,.int .i64 a7,.int .i64 ak,.slice ω ag.length a0,.int .i64 ao] 62 (0,0)) (by(with_reducible repeat first|apply Qb|apply Qd|apply Qc);exact an.out) hb);have a4:=Aside0.mk (Qr (by repeat(first|(with_reducible first|exact HB.out|apply Qe|apply Qa|apply Qf|refine Qg ?_ aj.out|refine Qg ?_ ap.out|refine Qg ?_ ay.out)|exact HB.out)) hb);have a5:=Aside0.mk (hbox);have ab:=Aside0.mk ((by rw[hg];exact(Qj (by repeat(first|(with_reducible first|exact HB.out|apply Qe|apply Qa|apply Qf|refine Qg ?_ aj.out|refine Qg ?_ ap.out|refine Qg ?_ ay.out)|exact HB.out))):w.heap.size≤X));have am:=Aside0.mk ((by rw[hg];exact(Qj (by repeat(first|(with_reducible first|exact HB.out|apply Qe|apply Qa|apply Qf|refine Qg ?_ aj.out|refine Qg ?_ ap.out|refine Qg ?_ ay.out)|exact HB.out))):w.heap.size≤X));have ar:=Aside0.mk ((by rw[hg];exact Nat.ne_of_lt (Q8 (g:=σ) (o:=.cells #[.slice γ J.length δ,.slice Y B.length Z] 24 (0,0)) (by(with_reducible repeat first|apply Qb|apply Qd|apply Qc);exact φ.out)):σ≠X));have b8:=Aside0.mk ((by rw[hg];exact Nat.ne_of_gt (Q8 (g:=σ) (o:=.cells #[.slice γ J.length δ,.slice Y B.length Z] 24 (0,0)) (by(with_reducible repeat first|apply Qb|apply Qd|apply Qc);exact φ.out)):X≠σ));have bb:=Aside0.mk ((by rw[hg];exact Nat.ne_of_lt (Q8 (g:= η) (o:=.cells #[.int .i64 0,.int .i64 0,.int .i64 0,.slice none 0 0,.bool false,.bool false] 39 (0,0)) (by(with_reducible repeat first|apply Qb|apply Qd|apply Qc);exact ψ.out)): η ≠ X));have bz:=Aside0.mk ((by rw[hg];exact Nat.ne_of_gt (Q8 (g:= η) (o:=.cells #[.int .i64 0,.int .i64 0,.int .i64 0,.slice none 0 0,.bool false,.bool false] 39 (0,0)) (by(with_reducible repeat first|apply Qb|apply Qd|apply Qc);exact ψ.out)):X ≠ η));have cj:=Aside0.mk ((by rw[hg];exact Nat.ne_of_lt (Q8 (g:= ι) (o:=.cells #[.int .i64 a1,.int .i64 a7,.int .i64 ak,.slice ω ag.length a0,.int .i64 ao] 62 (0,0)) (by(with_reducible repeat first|apply Qb|apply Qd|apply Qc);exact an.out)): ι ≠ X));have cr:=Aside0.mk ((by rw[hg];exact Nat.ne_of_gt (Q8 (g:= ι) (o:=.cells #[.int .i64 a1,.int .i64 a7,.int .i64 ak,.slice ω ag.length a0,.int .i64 ao] 62 (0,0)) (by(with_reducible repeat first|apply Qb|apply Qd|apply Qc);exact an.out)):X ≠ ι));clear aa;clear ac;clear av;clear bd;clear φ;clear ψ;clear an;clear HB;have aa:=D;have ac:=I;have av:=O;have bd:=U;have φ := ε;have ψ := ν;have an:=ρ;have HB:=a4;have b3:=a5;have j4:=ab;have bs:=am;have ξ :=ar;have b2:=b8;have μ :=bb;have b0:=bz;have κ :=cj;have ax:=cr;clear D I O U ε ν ρ a4 a5 ab am ar b8 bb bz cj cr;clear hb hbox hg;have f9:=b2.out;have fa:= ξ.out;have gi:=b0.out;have gj:= μ.out;have kc:=ax.out;have kd:= κ.out;obtain⟨d1,d4,d8,d9,eb,da,di,dj,dk,ed⟩:=qD5 b3.out;obtain⟨a8,a9,f8⟩:=Kd.Jo bd.out;subst f8))
 (try simp only[Act.put,qS])
 go_cut [27] (fun iw wc=>∃ (kq:Nat) (bu:Bool),iw = .bool bu∧Aside0 (newelref12_Recover.j0 kq bu a1 a7 ak ag ao χ a2 a3 ai a6=some (r1,r2,r3,r4,r5,r6))∧Aside0 (kq≤k)∧Aside0 (Kd.V (Kd.int .u8) 5 wc w.heap.size (fun k_=>((ae k_∨af k_)∨w.heap.size≤k_)∧k_≠σ∧k_ ≠ η ∧ k_ ≠ ι ∧ k_≠X) (.slice γ J.length δ) J)∧Aside0 (Kd.V (Kd.int .u8) 5 wc w.heap.size (fun k_=>((ae k_∨af k_)∨w.heap.size≤k_)∧k_≠σ∧k_ ≠ η ∧ k_ ≠ ι ∧ k_≠X) (.slice Y B.length Z) B)∧Aside0 (Kd.V (Kd.int .u8) 5 wc w.heap.size (fun k_=>((ae k_∨af k_)∨w.heap.size≤k_)∧k_≠σ∧k_ ≠ η ∧ k_ ≠ ι ∧ k_≠X) (.slice ω ag.length a0) ag)∧Aside0 (Kd.V (Kd.int .u8) 5 wc w.heap.size (fun k_=>((ae k_∨af k_)∨w.heap.size≤k_)∧k_≠σ∧k_ ≠ η ∧ k_ ≠ ι ∧ k_≠X) (.slice a8 ai.length a9) ai)∧Aside0 (wc.heap[σ]?=some (.cells #[(.slice γ J.length δ),(.slice Y B.length Z)] 24 (0,0)))∧Aside0 (wc.heap[η]?=some (.cells #[.int .i64 0,.int .i64 0,.int .i64 0,(.slice none 0 0),.bool false,.bool false] 39 (0,0)))∧Aside0 (wc.heap[ι]?=some (.cells #[.int .i64 a1,.int .i64 a7,.int .i64 ak,(.slice ω ag.length a0),.int .i64 ao] 62 (0,0)))∧Aside0 (wc.heap[X]?=some (.cells #[.int .i64 χ,.int .i64 a2,.int .i64 a3,(.slice a8 ai.length a9),.int .i64 a6] 62 (0,0)))∧Aside0 (Below w.heap.size w wc))
 case first=>
  have H:=en.out
  clear en
  by_cases al:ao=0
  ·rw[if_pos al] at H
   have c24b0:(ao==0)=true:=beq_iff_eq.mpr al
   have c24b1:(ao != 0)=false:=bne_eq_false_iff_eq.mpr al
   clear al
   (first|rw[c24b0]|(simp only[Zu,Z4];rw[c24b0])|skip)
   by_cases cb:a6=0
   ·rw[if_pos cb] at H
    have c25b0:(a6==0)=true:=beq_iff_eq.mpr cb
    have c25b1:(a6 != 0)=false:=bne_eq_false_iff_eq.mpr cb
    clear cb
    have H':=Aside0.mk H
    clear H
    have ga:=b1.out
    have gb:=au.out
    have gk:=aw.out
    have gn:=ah.out
    have gy:= κ.out
    have h4:=ax.out
    obtain⟨co,cp,ct,cv,d5,cz,df,dh,dm,d6⟩:=qD5 an.out
    have je:=b2.out
    have jf:= ξ.out
    have g6:=b0.out
    have h0:= μ.out
    obtain⟨bv,ca,ce,d7,dd,ch,ci,ck,de,e5⟩:=qD5 b3.out
    go_wp2
    go_meet
    case rel=>exact⟨_,(decide (a1 ≥ χ)),qR,H',⟨by first|omega|exact Nat.le_refl _⟩,⟨by(with_reducible repeat first|apply Kd.Qx|apply Kd.Qw|apply Kd.Q0);exact Kd.Qt (Kd.Qq (p:=⟨X,4,none⟩) (Kd.Qq (p:=⟨X,3,none⟩) (Kd.Qq (p:=⟨X,2,none⟩) (Kd.Qq (p:=⟨X,1,none⟩) (Kd.Qq (p:=⟨X,0,none⟩) (Kd.Qt aa.out (fun k_ hk=>(⟨hk,hk.2⟩:_∧k_≠X))) (fun _ hk=>hk.2) (.int .i64 χ)) (fun _ hk=>hk.2) (.int .i64 a2)) (fun _ hk=>hk.2) (.int .i64 a3)) (fun _ hk=>hk.2) (.slice a8 ai.length a9)) (fun _ hk=>hk.2) (.int .i64 a6)) (fun _ hk=>⟨hk.1.1.1,⟨hk.1.1.2.1,⟨hk.1.1.2.2.1,⟨hk.1.1.2.2.2,hk.1.2⟩⟩⟩⟩)⟩,⟨by(with_reducible repeat first|apply Kd.Qx|apply Kd.Qw|apply Kd.Q0);exact Kd.Qt (Kd.Qq (p:=⟨X,4,none⟩) (Kd.Qq (p:=⟨X,3,none⟩) (Kd.Qq (p:=⟨X,2,none⟩) (Kd.Qq (p:=⟨X,1,none⟩) (Kd.Qq (p:=⟨X,0,none⟩) (Kd.Qt ac.out (fun k_ hk=>(⟨hk,hk.2⟩:_∧k_≠X))) (fun _ hk=>hk.2) (.int .i64 χ)) (fun _ hk=>hk.2) (.int .i64 a2)) (fun _ hk=>hk.2) (.int .i64 a3)) (fun _ hk=>hk.2) (.slice a8 ai.length a9)) (fun _ hk=>hk.2) (.int .i64 a6)) (fun _ hk=>⟨hk.1.1.1,⟨hk.1.1.2.1,⟨hk.1.1.2.2.1,⟨hk.1.1.2.2.2,hk.1.2⟩⟩⟩⟩)⟩,⟨by(with_reducible repeat first|apply Kd.Qx|apply Kd.Qw|apply Kd.Q0);exact Kd.Qt (Kd.Qq (p:=⟨X,4,none⟩) (Kd.Qq (p:=⟨X,3,none⟩) (Kd.Qq (p:=⟨X,2,none⟩) (Kd.Qq (p:=⟨X,1,none⟩) (Kd.Qq (p:=⟨X,0,none⟩) (Kd.Qt av.out (fun k_ hk=>(⟨hk,hk.2⟩:_∧k_≠X))) (fun _ hk=>hk.2) (.int .i64 χ)) (fun _ hk=>hk.2) (.int .i64 a2)) (fun _ hk=>hk.2) (.int .i64 a3)) (fun _ hk=>hk.2) (.slice a8 ai.length a9)) (fun _ hk=>hk.2) (.int .i64 a6)) (fun _ hk=>⟨hk.1.1.1,⟨hk.1.1.2.1,⟨hk.1.1.2.2.1,⟨hk.1.1.2.2.2,hk.1.2⟩⟩⟩⟩)⟩,⟨by(with_reducible repeat first|apply Kd.Qx|apply Kd.Qw|apply Kd.Q0);exact Kd.Qt (Kd.Qq (p:=⟨X,4,none⟩) (Kd.Qq (p:=⟨X,3,none⟩) (Kd.Qq (p:=⟨X,2,none⟩) (Kd.Qq (p:=⟨X,1,none⟩) (Kd.Qq (p:=⟨X,0,none⟩) (Kd.Qt bd.out (fun k_ hk=>(⟨hk,hk.2⟩:_∧k_≠X))) (fun _ hk=>hk.2) (.int .i64 χ)) (fun _ hk=>hk.2) (.int .i64 a2)) (fun _ hk=>hk.2) (.int .i64 a3)) (fun _ hk=>hk.2) (.slice a8 ai.length a9)) (fun _ hk=>hk.2) (.int .i64 a6)) (fun _ hk=>⟨hk.1.1.1,⟨hk.1.1.2.1,⟨hk.1.1.2.2.1,⟨hk.1.1.2.2.2,hk.1.2⟩⟩⟩⟩)⟩,⟨by(with_reducible repeat first|apply Qb|apply Qd|apply Qc);refine Qs ?_ ξ.out _;(with_reducible repeat first|apply Qb|apply Qd|apply Qc);refine Qs ?_ ξ.out _;(with_reducible repeat first|apply Qb|apply Qd|apply Qc);refine Qs ?_ ξ.out _;(with_reducible repeat first|apply Qb|apply Qd|apply Qc);refine Qs ?_ ξ.out _;(with_reducible repeat first|apply Qb|apply Qd|apply Qc);refine Qs ?_ ξ.out _;(with_reducible repeat first|apply Qb|apply Qd|apply Qc);exact φ.out⟩,⟨by(with_reducible repeat first|apply Qb|apply Qd|apply Qc);refine Qs ?_ μ.out _;(with_reducible repeat first|apply Qb|apply Qd|apply Qc);refine Qs ?_ μ.out _;(with_reducible repeat first|apply Qb|apply Qd|apply Qc);refine Qs ?_ μ.out _;(with_reducible repeat first|apply Qb|apply Qd|apply Qc);refine Qs ?_ μ.out _;(with_reducible repeat first|apply Qb|apply Qd|apply Qc);refine Qs ?_ μ.out _;(with_reducible repeat first|apply Qb|apply Qd|apply Qc);exact ψ.out⟩,⟨by(with_reducible repeat first|apply Qb|apply Qd|apply Qc);refine Qs ?_ κ.out _;(with_reducible repeat first|apply Qb|apply Qd|apply Qc);refine Qs ?_ κ.out _;(with_reducible repeat first|apply Qb|apply Qd|apply Qc);refine Qs ?_ κ.out _;(with_reducible repeat first|apply Qb|apply Qd|apply Qc);refine Qs ?_ κ.out _;(with_reducible repeat first|apply Qb|apply Qd|apply Qc);refine Qs ?_ κ.out _;(with_reducible repeat first|apply Qb|apply Qd|apply Qc);exact an.out⟩,⟨by(with_reducible repeat first|apply Qb|apply Qd|apply Qc);refine Qk (cs:=#[.int .i64 χ,.int .i64 a2,.int .i64 a3,.slice a8 ai.length a9,.int .i64 0]) ?_ 4 _ rfl;(with_reducible repeat first|apply Qb|apply Qd|apply Qc);refine Qk (cs:=#[.int .i64 χ,.int .i64 a2,.int .i64 a3,.slice none 0 0,.int .i64 0]) ?_ 3 _ rfl;(with_reducible repeat first|apply Qb|apply Qd|apply Qc);refine Qk (cs:=#[.int .i64 χ,.int .i64 a2,.int .i64 0,.slice none 0 0,.int .i64 0]) ?_ 2 _ rfl;(with_reducible repeat first|apply Qb|apply Qd|apply Qc);refine Qk (cs:=#[.int .i64 χ,.int .i64 0,.int .i64 0,.slice none 0 0,.int .i64 0]) ?_ 1 _ rfl;(with_reducible repeat first|apply Qb|apply Qd|apply Qc);refine Qk (cs:=#[.int .i64 0,.int .i64 0,.int .i64 0,.slice none 0 0,.int .i64 0]) ?_ 0 _ rfl;(with_reducible repeat first|apply Qb|apply Qd|apply Qc);exact b3.out⟩,⟨by repeat(first|(with_reducible first|exact HB.out|apply Qe|apply Qa|apply Qf|refine Qg ?_ aj.out|refine Qg ?_ ap.out|refine Qg ?_ ay.out|refine Qg ?_ bs.out)|exact HB.out)⟩⟩
   ·rw[if_neg cb] at H
    have c25b0:(a6==0)=false:=beq_eq_false_iff_ne.mpr cb
    have c25b1:(a6 != 0)=true:=bne_iff_ne.mpr cb
    have H':=Aside0.mk H
    clear H
    have gp:=b1.out
    have gq:=au.out
    have gr:=aw.out
    have gs:=ah.out
    have fq:= κ.out
    have fr:=ax.out
    obtain⟨dp,dr,be,e9,ej,dt,du,br,ek,el⟩:=qD5 an.out
    have kb:=b2.out
    have ke:= ξ.out
    have n1:=b0.out
    have n2:= μ.out
    obtain⟨ey,ez,f4,fc,fe,ff,fg,fh,fi,fj⟩:=qD5 b3.out
    go_wp2
    go_meet
    case rel=>exact⟨_,(true),qR,H',⟨by first|omega|exact Nat.le_refl _⟩,⟨by(with_reducible repeat first|apply Kd.Qx|apply Kd.Qw|apply Kd.Q0);exact Kd.Qt (Kd.Qq (p:=⟨X,4,none⟩) (Kd.Qq (p:=⟨X,3,none⟩) (Kd.Qq (p:=⟨X,2,none⟩) (Kd.Qq (p:=⟨X,1,none⟩) (Kd.Qq (p:=⟨X,0,none⟩) (Kd.Qt aa.out (fun k_ hk=>(⟨hk,hk.2⟩:_∧k_≠X))) (fun _ hk=>hk.2) (.int .i64 χ)) (fun _ hk=>hk.2) (.int .i64 a2)) (fun _ hk=>hk.2) (.int .i64 a3)) (fun _ hk=>hk.2) (.slice a8 ai.length a9)) (fun _ hk=>hk.2) (.int .i64 a6)) (fun _ hk=>⟨hk.1.1.1,⟨hk.1.1.2.1,⟨hk.1.1.2.2.1,⟨hk.1.1.2.2.2,hk.1.2⟩⟩⟩⟩)⟩,⟨by(with_reducible repeat first|apply Kd.Qx|apply Kd.Qw|apply Kd.Q0);exact Kd.Qt (Kd.Qq (p:=⟨X,4,none⟩) (Kd.Qq (p:=⟨X,3,none⟩) (Kd.Qq (p:=⟨X,2,none⟩) (Kd.Qq (p:=⟨X,1,none⟩) (Kd.Qq (p:=⟨X,0,none⟩) (Kd.Qt ac.out (fun k_ hk=>(⟨hk,hk.2⟩:_∧k_≠X))) (fun _ hk=>hk.2) (.int .i64 χ)) (fun _ hk=>hk.2) (.int .i64 a2)) (fun _ hk=>hk.2) (.int .i64 a3)) (fun _ hk=>hk.2) (.slice a8 ai.length a9)) (fun _ hk=>hk.2) (.int .i64 a6)) (fun _ hk=>⟨hk.1.1.1,⟨hk.1.1.2.1,⟨hk.1.1.2.2.1,⟨hk.1.1.2.2.2,hk.1.2⟩⟩⟩⟩)⟩,⟨by(with_reducible repeat first|apply Kd.Qx|apply Kd.Qw|apply Kd.Q0);exact Kd.Qt (Kd.Qq (p:=⟨X,4,none⟩) (Kd.Qq (p:=⟨X,3,none⟩) (Kd.Qq (p:=⟨X,2,none⟩) (Kd.Qq (p:=⟨X,1,none⟩) (Kd.Qq (p:=⟨X,0,none⟩) (Kd.Qt av.out (fun k_ hk=>(⟨hk,hk.2⟩:_∧k_≠X))) (fun _ hk=>hk.2) (.int .i64 χ)) (fun _ hk=>hk.2) (.int .i64 a2)) (fun _ hk=>hk.2) (.int .i64 a3)) (fun _ hk=>hk.2) (.slice a8 ai.length a9)) (fun _ hk=>hk.2) (.int .i64 a6)) (fun _ hk=>⟨hk.1.1.1,⟨hk.1.1.2.1,⟨hk.1.1.2.2.1,⟨hk.1.1.2.2.2,hk.1.2⟩⟩⟩⟩)⟩,⟨by(with_reducible repeat first|apply Kd.Qx|apply Kd.Qw|apply Kd.Q0);exact Kd.Qt (Kd.Qq (p:=⟨X,4,none⟩) (Kd.Qq (p:=⟨X,3,none⟩) (Kd.Qq (p:=⟨X,2,none⟩) (Kd.Qq (p:=⟨X,1,none⟩) (Kd.Qq (p:=⟨X,0,none⟩) (Kd.Qt bd.out (fun k_ hk=>(⟨hk,hk.2⟩:_∧k_≠X))) (fun _ hk=>hk.2) (.int .i64 χ)) (fun _ hk=>hk.2) (.int .i64 a2)) (fun _ hk=>hk.2) (.int .i64 a3)) (fun _ hk=>hk.2) (.slice a8 ai.length a9)) (fun _ hk=>hk.2) (.int .i64 a6)) (fun _ hk=>⟨hk.1.1.1,⟨hk.1.1.2.1,⟨hk.1.1.2.2.1,⟨hk.1.1.2.2.2,hk.1.2⟩⟩⟩⟩)⟩,⟨by(with_reducible repeat first|apply Qb|apply Qd|apply Qc);refine Qs ?_ ξ.out _;(with_reducible repeat first|apply Qb|apply Qd|apply Qc);refine Qs ?_ ξ.out _;(with_reducible repeat first|apply Qb|apply Qd|apply Qc);refine Qs ?_ ξ.out _;(with_reducible repeat first|apply Qb|apply Qd|apply Qc);refine Qs ?_ ξ.out _;(with_reducible repeat first|apply Qb|apply Qd|apply Qc);refine Qs ?_ ξ.out _;(with_reducible repeat first|apply Qb|apply Qd|apply Qc);exact φ.out⟩,⟨by(with_reducible repeat first|apply Qb|apply Qd|apply Qc);refine Qs ?_ μ.out _;(with_reducible repeat first|apply Qb|apply Qd|apply Qc);refine Qs ?_ μ.out _;(with_reducible repeat first|apply Qb|apply Qd|apply Qc);refine Qs ?_ μ.out _;(with_reducible repeat first|apply Qb|apply Qd|apply Qc);refine Qs ?_ μ.out _;(with_reducible repeat first|apply Qb|apply Qd|apply Qc);refine Qs ?_ μ.out _;(with_reducible repeat first|apply Qb|apply Qd|apply Qc);exact ψ.out⟩,⟨by(with_reducible repeat first|apply Qb|apply Qd|apply Qc);refine Qs ?_ κ.out _;(with_reducible repeat first|apply Qb|apply Qd|apply Qc);refine Qs ?_ κ.out _;(with_reducible repeat first|apply Qb|apply Qd|apply Qc);refine Qs ?_ κ.out _;(with_reducible repeat first|apply Qb|apply Qd|apply Qc);refine Qs ?_ κ.out _;(with_reducible repeat first|apply Qb|apply Qd|apply Qc);refine Qs ?_ κ.out _;(with_reducible repeat first|apply Qb|apply Qd|apply Qc);exact an.out⟩,⟨by(with_reducible repeat first|apply Qb|apply Qd|apply Qc);refine Qk (cs:=#[.int .i64 χ,.int .i64 a2,.int .i64 a3,.slice a8 ai.length a9,.int .i64 0]) ?_ 4 _ rfl;(with_reducible repeat first|apply Qb|apply Qd|apply Qc);refine Qk (cs:=#[.int .i64 χ,.int .i64 a2,.int .i64 a3,.slice none 0 0,.int .i64 0]) ?_ 3 _ rfl;(with_reducible repeat first|apply Qb|apply Qd|apply Qc);refine Qk (cs:=#[.int .i64 χ,.int .i64 a2,.int .i64 0,.slice none 0 0,.int .i64 0]) ?_ 2 _ rfl;(with_reducible repeat first|apply Qb|apply Qd|apply Qc);refine Qk (cs:=#[.int .i64 χ,.int .i64 0,.int .i64 0,.slice none 0 0,.int .i64 0]) ?_ 1 _ rfl;(with_reducible repeat first|apply Qb|apply Qd|apply Qc);refine Qk (cs:=#[.int .i64 0,.int .i64 0,.int .i64 0,.slice none 0 0,.int .i64 0]) ?_ 0 _ rfl;(with_reducible repeat first|apply Qb|apply Qd|apply Qc);exact b3.out⟩,⟨by repeat(first|(with_reducible first|exact HB.out|apply Qe|apply Qa|apply Qf|refine Qg ?_ aj.out|refine Qg ?_ ap.out|refine Qg ?_ ay.out|refine Qg ?_ bs.out)|exact HB.out)⟩⟩
  ·rw[if_neg al] at H
   have c24b0:(ao==0)=false:=beq_eq_false_iff_ne.mpr al
   have c24b1:(ao != 0)=true:=bne_iff_ne.mpr al
   (first|rw[c24b0]|(simp only[Zu,Z4];rw[c24b0])|skip)
   have H':=Aside0.mk H
   clear H
   have e7:=b1.out
   have e8:=au.out
   have nb:=aw.out
   have nc:=ah.out
   have e3:= κ.out
   have e6:=ax.out
   obtain⟨fk,fl,fw,fx,fy,fz,g0,g1,g2,g3⟩:=qD5 an.out
   go_wp2
   go_meet
   case rel=>exact⟨_,(false),qR,H',⟨by first|omega|exact Nat.le_refl _⟩,⟨by(with_reducible repeat first|apply Kd.Qx|apply Kd.Qw|apply Kd.Q0);exact Kd.Qt (Kd.Qq (p:=⟨X,4,none⟩) (Kd.Qq (p:=⟨X,3,none⟩) (Kd.Qq (p:=⟨X,2,none⟩) (Kd.Qq (p:=⟨X,1,none⟩) (Kd.Qq (p:=⟨X,0,none⟩) (Kd.Qt aa.out (fun k_ hk=>(⟨hk,hk.2⟩:_∧k_≠X))) (fun _ hk=>hk.2) (.int .i64 χ)) (fun _ hk=>hk.2) (.int .i64 a2)) (fun _ hk=>hk.2) (.int .i64 a3)) (fun _ hk=>hk.2) (.slice a8 ai.length a9)) (fun _ hk=>hk.2) (.int .i64 a6)) (fun _ hk=>⟨hk.1.1.1,⟨hk.1.1.2.1,⟨hk.1.1.2.2.1,⟨hk.1.1.2.2.2,hk.1.2⟩⟩⟩⟩)⟩,⟨by(with_reducible repeat first|apply Kd.Qx|apply Kd.Qw|apply Kd.Q0);exact Kd.Qt (Kd.Qq (p:=⟨X,4,none⟩) (Kd.Qq (p:=⟨X,3,none⟩) (Kd.Qq (p:=⟨X,2,none⟩) (Kd.Qq (p:=⟨X,1,none⟩) (Kd.Qq (p:=⟨X,0,none⟩) (Kd.Qt ac.out (fun k_ hk=>(⟨hk,hk.2⟩:_∧k_≠X))) (fun _ hk=>hk.2) (.int .i64 χ)) (fun _ hk=>hk.2) (.int .i64 a2)) (fun _ hk=>hk.2) (.int .i64 a3)) (fun _ hk=>hk.2) (.slice a8 ai.length a9)) (fun _ hk=>hk.2) (.int .i64 a6)) (fun _ hk=>⟨hk.1.1.1,⟨hk.1.1.2.1,⟨hk.1.1.2.2.1,⟨hk.1.1.2.2.2,hk.1.2⟩⟩⟩⟩)⟩,⟨by(with_reducible repeat first|apply Kd.Qx|apply Kd.Qw|apply Kd.Q0);exact Kd.Qt (Kd.Qq (p:=⟨X,4,none⟩) (Kd.Qq (p:=⟨X,3,none⟩) (Kd.Qq (p:=⟨X,2,none⟩) (Kd.Qq (p:=⟨X,1,none⟩) (Kd.Qq (p:=⟨X,0,none⟩) (Kd.Qt av.out (fun k_ hk=>(⟨hk,hk.2⟩:_∧k_≠X))) (fun _ hk=>hk.2) (.int .i64 χ)) (fun _ hk=>hk.2) (.int .i64 a2)) (fun _ hk=>hk.2) (.int .i64 a3)) (fun _ hk=>hk.2) (.slice a8 ai.length a9)) (fun _ hk=>hk.2) (.int .i64 a6)) (fun _ hk=>⟨hk.1.1.1,⟨hk.1.1.2.1,⟨hk.1.1.2.2.1,⟨hk.1.1.2.2.2,hk.1.2⟩⟩⟩⟩)⟩,⟨by(with_reducible repeat first|apply Kd.Qx|apply Kd.Qw|apply Kd.Q0);exact Kd.Qt (Kd.Qq (p:=⟨X,4,none⟩) (Kd.Qq (p:=⟨X,3,none⟩) (Kd.Qq (p:=⟨X,2,none⟩) (Kd.Qq (p:=⟨X,1,none⟩) (Kd.Qq (p:=⟨X,0,none⟩) (Kd.Qt bd.out (fun k_ hk=>(⟨hk,hk.2⟩:_∧k_≠X))) (fun _ hk=>hk.2) (.int .i64 χ)) (fun _ hk=>hk.2) (.int .i64 a2)) (fun _ hk=>hk.2) (.int .i64 a3)) (fun _ hk=>hk.2) (.slice a8 ai.length a9)) (fun _ hk=>hk.2) (.int .i64 a6)) (fun _ hk=>⟨hk.1.1.1,⟨hk.1.1.2.1,⟨hk.1.1.2.2.1,⟨hk.1.1.2.2.2,hk.1.2⟩⟩⟩⟩)⟩,⟨by(with_reducible repeat first|apply Qb|apply Qd|apply Qc);refine Qs ?_ ξ.out _;(with_reducible repeat first|apply Qb|apply Qd|apply Qc);refine Qs ?_ ξ.out _;(with_reducible repeat first|apply Qb|apply Qd|apply Qc);refine Qs ?_ ξ.out _;(with_reducible repeat first|apply Qb|apply Qd|apply Qc);refine Qs ?_ ξ.out _;(with_reducible repeat first|apply Qb|apply Qd|apply Qc);refine Qs ?_ ξ.out _;(with_reducible repeat first|apply Qb|apply Qd|apply Qc);exact φ.out⟩,⟨by(with_reducible repeat first|apply Qb|apply Qd|apply Qc);refine Qs ?_ μ.out _;(with_reducible repeat first|apply Qb|apply Qd|apply Qc);refine Qs ?_ μ.out _;(with_reducible repeat first|apply Qb|apply Qd|apply Qc);refine Qs ?_ μ.out _;(with_reducible repeat first|apply Qb|apply Qd|apply Qc);refine Qs ?_ μ.out _;(with_reducible repeat first|apply Qb|apply Qd|apply Qc);refine Qs ?_ μ.out _;(with_reducible repeat first|apply Qb|apply Qd|apply Qc);exact ψ.out⟩,⟨by(with_reducible repeat first|apply Qb|apply Qd|apply Qc);refine Qs ?_ κ.out _;(with_reducible repeat first|apply Qb|apply Qd|apply Qc);refine Qs ?_ κ.out _;(with_reducible repeat first|apply Qb|apply Qd|apply Qc);refine Qs ?_ κ.out _;(with_reducible repeat first|apply Qb|apply Qd|apply Qc);refine Qs ?_ κ.out _;(with_reducible repeat first|apply Qb|apply Qd|apply Qc);refine Qs ?_ κ.out _;(with_reducible repeat first|apply Qb|apply Qd|apply Qc);exact an.out⟩,⟨by(with_reducible repeat first|apply Qb|apply Qd|apply Qc);refine Qk (cs:=#[.int .i64 χ,.int .i64 a2,.int .i64 a3,.slice a8 ai.length a9,.int .i64 0]) ?_ 4 _ rfl;(with_reducible repeat first|apply Qb|apply Qd|apply Qc);refine Qk (cs:=#[.int .i64 χ,.int .i64 a2,.int .i64 a3,.slice none 0 0,.int .i64 0]) ?_ 3 _ rfl;(with_reducible repeat first|apply Qb|apply Qd|apply Qc);refine Qk (cs:=#[.int .i64 χ,.int .i64 a2,.int .i64 0,.slice none 0 0,.int .i64 0]) ?_ 2 _ rfl;(with_reducible repeat first|apply Qb|apply Qd|apply Qc);refine Qk (cs:=#[.int .i64 χ,.int .i64 0,.int .i64 0,.slice none 0 0,.int .i64 0]) ?_ 1 _ rfl;(with_reducible repeat first|apply Qb|apply Qd|apply Qc);refine Qk (cs:=#[.int .i64 0,.int .i64 0,.int .i64 0,.slice none 0 0,.int .i64 0]) ?_ 0 _ rfl;(with_reducible repeat first|apply Qb|apply Qd|apply Qc);exact b3.out⟩,⟨by repeat(first|(with_reducible first|exact HB.out|apply Qe|apply Qa|apply Qf|refine Qg ?_ aj.out|refine Qg ?_ ap.out|refine Qg ?_ ay.out|refine Qg ?_ bs.out)|exact HB.out)⟩⟩
 case rest=>
  clear en
  try clear c1
  try clear c2
  try clear p2
  try clear c3
  try clear c4
  try clear c7
  try clear bf
  try clear bl
  try clear e4
  try clear bp
  try clear er
  try clear cf
  try clear al
  try clear c24b0
  try clear c24b1
  try clear cb
  try clear c25b0
  try clear c25b1
  try clear dn
  try clear eu
  try clear j7
  try clear dq
  try clear bq
  try clear ev
  try clear ew
  try clear fb
  try clear ep
  try clear em
  try clear fu
  try clear oo
  try clear pp
  try clear b7
  try clear b9
  try clear ba
  try clear bc
  try clear d0
  try clear bk
  try clear bm
  try clear d1
  try clear d4
  try clear d8
  try clear d9
  try clear eb
  try clear co
  try clear cp
  try clear ct
  try clear cv
  try clear d5
  try clear bv
  try clear ca
  try clear ce
  try clear d7
  try clear dd
  try clear dp
  try clear dr
  try clear be
  try clear e9
  try clear ej
  try clear ey
  try clear ez
  try clear f4
  try clear fc
  try clear fe
  try clear fk
  try clear fl
  try clear fw
  try clear fx
  try clear fy
  try clear cd
  try clear cq
  try clear bg
  try clear bh
  try clear bi
  try clear bj
  try clear d2
  try clear bn
  try clear bo
  try clear da
  try clear di
  try clear dj
  try clear dk
  try clear ed
  try clear cz
  try clear df
  try clear dh
  try clear dm
  try clear d6
  try clear ch
  try clear ci
  try clear ck
  try clear de
  try clear e5
  try clear dt
  try clear du
  try clear br
  try clear ek
  try clear el
  try clear ff
  try clear fg
  try clear fh
  try clear fi
  try clear fj
  try clear fz
  try clear g0
  try clear g1
  try clear g2
  try clear g3
  try clear cu
  try clear cw
  obtain⟨kq,bu,rfl,HA,k4,HO_302000,HO_302001,HO_311003,HO_319003,φ,ψ,an,b3,HB⟩:=hcut
  cases kq with
  |zero=>exact absurd HA.out (by simp[newelref12_Recover.j0])
  |succ b6=>
   have H:=HA.out
   clear HA
   simp only[newelref12_Recover.j0] at H
   by_cases ie:bu=true
   ·subst ie
    have H1:(some (a1,a7,ak,ag,false,true))=some (r1,r2,r3,r4,r5,r6):=by rw[if_pos rfl] at H;exact H
    clear H
    have H:=H1
    clear H1
    simp only[Option.some.injEq,Prod.mk.injEq] at H
    obtain⟨rfl,rfl,rfl,rfl,rfl,rfl⟩:=H
    have kf:=b1.out
    have kg:=au.out
    have o0:=aw.out
    have o1:=ah.out
    have ns:= κ.out
    have nt:=ax.out
    obtain⟨gl,gm,h7,h8,h9,ha,hx,hy,i0,i1⟩:=qD5 an.out
    have g7:=b5.out
    have gz:=b4.out
    have db:= μ.out
    have dc:=b0.out
    obtain⟨ee,ef,cm,g4,i2,i3,eg,eh,cn,g5,i4,i5⟩:=qD6 ψ.out
    go_wp2
    refine bodyPost_ret (results_cell_row rfl _ _ η 39 #[.int .i64 a1,.int .i64 a7,.int .i64 ak,.slice ω ag.length a0,.bool false,.bool true] (0,0) _ rfl (by(with_reducible repeat first|apply Qb|apply Qd|apply Qc);refine Qk (cs:=#[.int .i64 a1,.int .i64 a7,.int .i64 ak,.slice ω ag.length a0,.bool false,.bool false]) ?_ 5 _ rfl;(with_reducible repeat first|apply Qb|apply Qd|apply Qc);refine Qk (cs:=#[.int .i64 a1,.int .i64 a7,.int .i64 ak,.slice ω ag.length a0,.bool false,.bool false]) ?_ 4 _ rfl;(with_reducible repeat first|apply Qb|apply Qd|apply Qc);refine Qk (cs:=#[.int .i64 a1,.int .i64 a7,.int .i64 ak,.slice none 0 0,.bool false,.bool false]) ?_ 3 _ rfl;(with_reducible repeat first|apply Qb|apply Qd|apply Qc);refine Qk (cs:=#[.int .i64 a1,.int .i64 a7,.int .i64 0,.slice none 0 0,.bool false,.bool false]) ?_ 2 _ rfl;(with_reducible repeat first|apply Qb|apply Qd|apply Qc);refine Qk (cs:=#[.int .i64 a1,.int .i64 0,.int .i64 0,.slice none 0 0,.bool false,.bool false]) ?_ 1 _ rfl;(with_reducible repeat first|apply Qb|apply Qd|apply Qc);refine Qk (cs:=#[.int .i64 0,.int .i64 0,.int .i64 0,.slice none 0 0,.bool false,.bool false]) ?_ 0 _ rfl;(with_reducible repeat first|apply Qb|apply Qd|apply Qc);exact ψ.out) Tryd.underlying39 rfl kr) rfl ?_
    exact⟨_,by first|rfl|(simp[Qo,Qn] <;> rfl)|(simp[*,Qo,Qn] <;> rfl),by(with_reducible repeat first|apply Kd.Qx|apply Kd.Qw|apply Kd.Q0);exact Kd.Qt (Kd.Qq (p:=⟨η,5,none⟩) (Kd.Qq (p:=⟨η,4,none⟩) (Kd.Qq (p:=⟨η,3,none⟩) (Kd.Qq (p:=⟨η,2,none⟩) (Kd.Qq (p:=⟨η,1,none⟩) (Kd.Qq (p:=⟨η,0,none⟩) (Kd.Qt HO_311003.out (fun k_ hk=>(⟨hk,hk.2.2.1⟩:_∧k_ ≠ η))) (fun _ hk=>hk.2) (.int .i64 a1)) (fun _ hk=>hk.2) (.int .i64 a7)) (fun _ hk=>hk.2) (.int .i64 ak)) (fun _ hk=>hk.2) (.slice ω ag.length a0)) (fun _ hk=>hk.2) (.bool false)) (fun _ hk=>hk.2) (.bool true)) (fun _ hk=>hk.1.1),by repeat(first|(with_reducible first|exact HB.out|apply Qe|apply Qa|apply Qf|refine Qg ?_ aj.out|refine Qg ?_ ap.out|refine Qg ?_ ay.out|refine Qg ?_ bs.out)|exact HB.out)⟩
   ·replace ie:=Bool.eq_false_iff.mpr ie
    subst ie
    have H1:(if a6=0 then (some (χ,a2,a3,ai,true,true)) else (some (0,0,0,([]:List Int),false,false)))=some (r1,r2,r3,r4,r5,r6):=by rw[if_neg (show ¬ (false=true) by decide)] at H;exact H
    clear H
    have H:=H1
    clear H1
    by_cases dx:a6=0
    ·rw[if_pos dx] at H
     have c52b0:(a6==0)=true:=beq_iff_eq.mpr dx
     have c52b1:(a6 != 0)=false:=bne_eq_false_iff_eq.mpr dx
     clear dx
     simp only[Option.some.injEq,Prod.mk.injEq] at H
     obtain⟨rfl,rfl,rfl,rfl,rfl,rfl⟩:=H
     have ea:=b2.out
     have ei:= ξ.out
     have eo:=b0.out
     have et:= μ.out
     have kh:=ax.out
     have ki:= κ.out
     obtain⟨g8,g9,ge,gf,i6,gg,gt,gu,gv,i7⟩:=qD5 b3.out
     have lx:=b5.out
     have ly:=b4.out
     have o2:=ah.out
     have o3:=aw.out
     obtain⟨i9,ia,ib,ic,ig,ih,ii,ij,ik,il,im,io⟩:=qD6 ψ.out
     go_wp2
     refine bodyPost_ret (results_cell_row rfl _ _ η 39 #[.int .i64 χ,.int .i64 a2,.int .i64 a3,.slice a8 ai.length a9,.bool true,.bool true] (0,0) _ rfl (by(with_reducible repeat first|apply Qb|apply Qd|apply Qc);refine Qk (cs:=#[.int .i64 χ,.int .i64 a2,.int .i64 a3,.slice a8 ai.length a9,.bool true,.bool false]) ?_ 5 _ rfl;(with_reducible repeat first|apply Qb|apply Qd|apply Qc);refine Qk (cs:=#[.int .i64 χ,.int .i64 a2,.int .i64 a3,.slice a8 ai.length a9,.bool false,.bool false]) ?_ 4 _ rfl;(with_reducible repeat first|apply Qb|apply Qd|apply Qc);refine Qk (cs:=#[.int .i64 χ,.int .i64 a2,.int .i64 a3,.slice none 0 0,.bool false,.bool false]) ?_ 3 _ rfl;(with_reducible repeat first|apply Qb|apply Qd|apply Qc);refine Qk (cs:=#[.int .i64 χ,.int .i64 a2,.int .i64 0,.slice none 0 0,.bool false,.bool false]) ?_ 2 _ rfl;(with_reducible repeat first|apply Qb|apply Qd|apply Qc);refine Qk (cs:=#[.int .i64 χ,.int .i64 0,.int .i64 0,.slice none 0 0,.bool false,.bool false]) ?_ 1 _ rfl;(with_reducible repeat first|apply Qb|apply Qd|apply Qc);refine Qk (cs:=#[.int .i64 0,.int .i64 0,.int .i64 0,.slice none 0 0,.bool false,.bool false]) ?_ 0 _ rfl;(with_reducible repeat first|apply Qb|apply Qd|apply Qc);exact ψ.out) Tryd.underlying39 rfl kr) rfl ?_
     exact⟨_,by first|rfl|(simp[Qo,Qn] <;> rfl)|(simp[*,Qo,Qn] <;> rfl),by(with_reducible repeat first|apply Kd.Qx|apply Kd.Qw|apply Kd.Q0);exact Kd.Qt (Kd.Qq (p:=⟨η,5,none⟩) (Kd.Qq (p:=⟨η,4,none⟩) (Kd.Qq (p:=⟨η,3,none⟩) (Kd.Qq (p:=⟨η,2,none⟩) (Kd.Qq (p:=⟨η,1,none⟩) (Kd.Qq (p:=⟨η,0,none⟩) (Kd.Qt HO_319003.out (fun k_ hk=>(⟨hk,hk.2.2.1⟩:_∧k_ ≠ η))) (fun _ hk=>hk.2) (.int .i64 χ)) (fun _ hk=>hk.2) (.int .i64 a2)) (fun _ hk=>hk.2) (.int .i64 a3)) (fun _ hk=>hk.2) (.slice a8 ai.length a9)) (fun _ hk=>hk.2) (.bool true)) (fun _ hk=>hk.2) (.bool true)) (fun _ hk=>hk.1.1),by repeat(first|(with_reducible first|exact HB.out|apply Qe|apply Qa|apply Qf|refine Qg ?_ aj.out|refine Qg ?_ ap.out|refine Qg ?_ ay.out|refine Qg ?_ bs.out)|exact HB.out)⟩
    ·rw[if_neg dx] at H
     have c52b0:(a6==0)=false:=beq_eq_false_iff_ne.mpr dx
     have c52b1:(a6 != 0)=true:=bne_iff_ne.mpr dx
     simp only[Option.some.injEq,Prod.mk.injEq] at H
     obtain⟨rfl,rfl,rfl,rfl,rfl,rfl⟩:=H
     have n3:=b2.out
     have na:= ξ.out
     have jg:=b0.out
     have jh:= μ.out
     have ji:=ax.out
     have jj:= κ.out
     obtain⟨d3,dl,dv,gw,ip,dw,dy,e0,gx,iq⟩:=qD5 b3.out
     have he:=b5.out
     have hh:=b4.out
     have hj:=ah.out
     have hl:=aw.out
     obtain⟨f5,f6,f7,fm,fn,ir,fo,fp,fs,ft,fv,iu⟩:=qD6 ψ.out
     go_wp2
     refine bodyPost_ret (results_cell_row rfl _ _ η 39 #[.int .i64 0,.int .i64 0,.int .i64 0,.slice none 0 0,.bool false,.bool false] (0,0) _ rfl (by(with_reducible repeat first|apply Qb|apply Qd|apply Qc);refine Qk (cs:=#[.int .i64 0,.int .i64 0,.int .i64 0,.slice none 0 0,.bool false,.bool false]) ?_ 5 _ rfl;(with_reducible repeat first|apply Qb|apply Qd|apply Qc);refine Qk (cs:=#[.int .i64 0,.int .i64 0,.int .i64 0,.slice none 0 0,.bool false,.bool false]) ?_ 4 _ rfl;(with_reducible repeat first|apply Qb|apply Qd|apply Qc);refine Qk (cs:=#[.int .i64 0,.int .i64 0,.int .i64 0,.slice none 0 0,.bool false,.bool false]) ?_ 3 _ rfl;(with_reducible repeat first|apply Qb|apply Qd|apply Qc);refine Qk (cs:=#[.int .i64 0,.int .i64 0,.int .i64 0,.slice none 0 0,.bool false,.bool false]) ?_ 2 _ rfl;(with_reducible repeat first|apply Qb|apply Qd|apply Qc);refine Qk (cs:=#[.int .i64 0,.int .i64 0,.int .i64 0,.slice none 0 0,.bool false,.bool false]) ?_ 1 _ rfl;(with_reducible repeat first|apply Qb|apply Qd|apply Qc);refine Qk (cs:=#[.int .i64 0,.int .i64 0,.int .i64 0,.slice none 0 0,.bool false,.bool false]) ?_ 0 _ rfl;(with_reducible repeat first|apply Qb|apply Qd|apply Qc);exact ψ.out) Tryd.underlying39 rfl kr) rfl ?_
     refine⟨.slice none 0 0,by first|rfl|(simp[Qo,Qn] <;> rfl)|(simp[*,Qo,Qn] <;> rfl),Kd.Qt (Kd.R_V (Kd.Z1 _ _ _ w.heap.size _)) (fun k_ hk=>by first|exact⟨(.inr (hk.1)),hk.2⟩|exact(.inr (hk))),by repeat(first|(with_reducible first|exact HB.out|apply Qe|apply Qa|apply Qf|refine Qg ?_ aj.out|refine Qg ?_ ap.out|refine Qg ?_ ay.out|refine Qg ?_ bs.out)|exact HB.out)⟩
def newelref12_Code.f (k:Nat) (J:Int) (Y:Int) (X:Int) (B:List Int):Option (List Int):=(newelref08_Row.f k (([J,Y,X]:List Int))).bind fun ρ=>((newelref08_Put.f k (B.length:Int)).bind fun η =>(if ρ.length + η.length<140737488355328 then ((some (ρ ++ η :List Int)).bind fun κ =>(if κ.length+B.length<140737488355328 then ((newelref09_Seal.f k (κ ++ B)).bind fun τ =>(some τ)) else (none))) else (none)))
theorem newelref12_Code.mono:∀ J B a2 I k,LeO (newelref12_Code.f k J B a2 I) (newelref12_Code.f (k+1) J B a2 I):=by
 intro J B a2 I k
 unfold newelref12_Code.f
 repeat' first
   |(with_reducible exact newelref08_Put.mono _ _)
   |(with_reducible exact newelref08_Row.mono _ _)
   |(with_reducible exact newelref09_Seal.mono _ _)
   |(with_reducible exact LeO.refl _)
   |(with_reducible exact LeO.none _)
   |(with_reducible refine LeO.ite ?_ ?_)
   |(with_reducible refine LeO.bind ?_ (fun _=>?_))
   |exact newelref08_Put.mono _ _
   |exact newelref08_Row.mono _ _
   |exact newelref09_Seal.mono _ _
   |exact LeO.none _
   |refine LeO.ite ?_ ?_
   |refine LeO.bind ?_ (fun _=>?_)
set_option maxHeartbeats 8000000 in
set_option maxRecDepth 100000 in
theorem newelref12_Code.calls (k:Nat) (J:Int) (Y:Int) (X:Int) (Z:Option Addr) (γ:Nat) (B:List Int) (r:List Int) (w:World) (ι :Kd.C (Kd.int .u8) w Z B.length B) (ξ :B.length≤γ) (h:newelref12_Code.f k J Y X B=some r):
  Calls Tryd.prog 25 #[.agg #[.int .i64 J,.int .i64 Y,.int .i64 X,.slice Z B.length γ]] w fun e w'=>∃ ak:Value,e = .returned (ak)∧Kd.R (Kd.int .u8) 5 w' w.heap.size (fun _=>True) ak r∧Below w.heap.size w w':=by
 have dz:=Tryd.underlying26
 have ω :=Aside0.mk ι
 have a0:=Aside0.mk ξ
 clear ι ξ
 have HB:=Aside0.mk (Below.refl w.heap.size w)
 have H:((newelref08_Row.f k (([J,Y,X]:List Int))).bind fun ρ=>((newelref08_Put.f k (B.length:Int)).bind fun η =>(if ρ.length + η.length<140737488355328 then ((some (ρ ++ η :List Int)).bind fun κ =>(if κ.length+B.length<140737488355328 then ((newelref09_Seal.f k (κ ++ B)).bind fun τ =>(some τ)) else (none))) else (none))))=some r:=h
 clear h
 obtain⟨aa,a3⟩:∃ y_:List Int,y_=(([J,Y,X]:List Int)):=⟨_,rfl⟩
 replace H:((newelref08_Row.f k aa).bind fun ρ=>((newelref08_Put.f k (B.length:Int)).bind fun η =>(if ρ.length + η.length<140737488355328 then ((some (ρ ++ η :List Int)).bind fun κ =>(if κ.length+B.length<140737488355328 then ((newelref09_Seal.f k (κ ++ B)).bind fun τ =>(some τ)) else (none))) else (none))))=some r:=by first|(rw[a3];with_reducible exact H)|(have φ :=(Option.bind_some _ _).symm.trans H;rw[a3];with_reducible exact φ)|(have φ :=(Option.bind_some _ _).symm.trans H;with_reducible exact φ)|with_reducible exact H|(rw[a3];exact H)|exact H
 have ag:=Aside0.mk a3
 clear a3
 replace H:=Option.bind_eq_some_iff.mp H
 obtain⟨ρ,cg,H⟩:=H
 replace H:((newelref08_Put.f k (B.length:Int)).bind fun η =>(if ρ.length + η.length<140737488355328 then ((some (ρ ++ η :List Int)).bind fun κ =>(if κ.length+B.length<140737488355328 then ((newelref09_Seal.f k (κ ++ B)).bind fun τ =>(some τ)) else (none))) else (none)))=some r:=H
 have A2:=Aside0.mk cg
 clear cg
 replace H:=Option.bind_eq_some_iff.mp H
 obtain⟨η,cy,H⟩:=H
 replace H:(if ρ.length + η.length<140737488355328 then ((some (ρ ++ η :List Int)).bind fun κ =>(if κ.length+B.length<140737488355328 then ((newelref09_Seal.f k (κ ++ B)).bind fun τ =>(some τ)) else (none))) else (none))=some r:=H
 have A3:=Aside0.mk cy
 clear cy
 by_cases c4:ρ.length + η.length<140737488355328
 ·rw[if_pos c4] at H
  have a7:=Aside0.mk c4
  clear c4
  obtain⟨κ,a4⟩:∃ y_:List Int,y_=(ρ ++ η):=⟨_,rfl⟩
  replace H:(if κ.length+B.length<140737488355328 then ((newelref09_Seal.f k (κ ++ B)).bind fun τ =>(some τ)) else (none))=some r:=by first|(rw[a4];with_reducible exact H)|(have φ :=(Option.bind_some _ _).symm.trans H;rw[a4];with_reducible exact φ)|(have φ :=(Option.bind_some _ _).symm.trans H;with_reducible exact φ)|with_reducible exact H|(rw[a4];exact H)|exact H
  have ah:=Aside0.mk a4
  clear a4
  by_cases c5: κ.length+B.length<140737488355328
  ·rw[if_pos c5] at H
   have am:=Aside0.mk c5
   clear c5
   obtain⟨ab,a5⟩:∃ y_:List Int,y_=(κ ++ B):=⟨_,rfl⟩
   replace H:((newelref09_Seal.f k ab).bind fun τ =>(some τ))=some r:=by first|(rw[a5];with_reducible exact H)|(have φ :=(Option.bind_some _ _).symm.trans H;rw[a5];with_reducible exact φ)|(have φ :=(Option.bind_some _ _).symm.trans H;with_reducible exact φ)|with_reducible exact H|(rw[a5];exact H)|exact H
   have ai:=Aside0.mk a5
   clear a5
   replace H:=Option.bind_eq_some_iff.mp H
   obtain⟨τ,bq,H⟩:=H
   replace H:(some τ)=some r:=H
   have A6:=Aside0.mk bq
   clear bq
   obtain rfl:=Option.some.inj H
   go_enter Tryd.func25,Tryd.ntmps25
   go_wp2_with (first|((with_reducible refine Qz (N:=1) rfl ?_);refine Q7 ?hg (N:=1) ?hd (cs:=#[.int .i64 J,.int .i64 Y,.int .i64 X,.slice Z B.length γ]) (t:=26) ?hr ?_;(case hd=>rfl);(case hg=>rfl);(case hr=>first|(go_simp;done)|(go_simp;rfl));intro χ hg w7 hbox hb;have D:=Aside0.mk (Qr (by repeat(first|(with_reducible first|exact HB.out|apply Qe|apply Qa|apply Qf)|exact HB.out)) hb);have I:=Aside0.mk (hbox);have O:=Aside0.mk ((by rw[hg];exact(Qj (by repeat(first|(with_reducible first|exact HB.out|apply Qe|apply Qa|apply Qf)|exact HB.out))):w.heap.size ≤ χ));have U:=Aside0.mk ((by rw[hg];exact(Qj (by repeat(first|(with_reducible first|exact HB.out|apply Qe|apply Qa|apply Qf)|exact HB.out))):w.heap.size ≤ χ));clear HB;have HB:=D;have δ :=I;have b0:=O;have σ:=U;clear D I O U;clear hb hbox hg;obtain⟨cd,cq,av,aw,cu,cw,ax,ay⟩:=qD4 δ.out)|((with_reducible refine Qz (N:=10) rfl ?_);refine Kd.K2 (Kd.int .i64) _ 3 ?hg (N:=10) ?hd (xs:=([J,Y,X]:List Int)) (inner:=[.int .i64 J,.int .i64 Y,.int .i64 X]) (ok:=fun _=>True) (okp:=fun _=>True) ?hr ?hp (fun _ hk=>hk) trivial (Below.refl _ _) (Nat.le_refl _) (by simp) ?_;(case hd=>rfl);(case hg=>rfl);(case hr=>first|(go_simp;done)|(go_simp;rfl));(case hp=>exact(Reps.one (show Kd.M (Kd.int .i64) _ _ _ J [.int .i64 J] from rfl) (Reps.one (show Kd.M (Kd.int .i64) _ _ _ Y [.int .i64 Y] from rfl) (Reps.one (show Kd.M (Kd.int .i64) _ _ _ X [.int .i64 X] from rfl) (Reps.none _ _)))));intro b1 w9 ψ hb hg_ hnew_;clear hg_ hnew_;(first|rw[← ag.out] at ψ |(simp only[Int.reduceToNat] at ψ;rw[← ag.out] at ψ));have D:=Aside0.mk (Kd.Zd ψ (Qj (by repeat(first|(with_reducible first|exact HB.out|apply Qe|apply Qa|apply Qf|refine Qg ?_ σ.out)|exact HB.out))));have I:=Aside0.mk (Qp (g:= χ) (o:=.cells #[.int .i64 J,.int .i64 Y,.int .i64 X,.slice Z B.length γ] 26 (0,0)) (by(with_reducible repeat first|apply Qb|apply Qd|apply Qc);exact δ.out) hb);have O:=Aside0.mk (Qr (by repeat(first|(with_reducible first|exact HB.out|apply Qe|apply Qa|apply Qf|refine Qg ?_ σ.out)|exact HB.out)) hb);clear δ;clear HB;have ζ :=D;have δ :=I;have HB:=O;clear D I O;clear hb ψ;obtain⟨ac,ae,af⟩:=Kd.Zf ζ.out;subst af)|((with_reducible refine Qv (f:=35) rfl ?_);refine Ze (some 11) rfl rfl Tryd.func35 kr rfl #[.slice ac aa.length ae] rfl (by(try simp only[List.map_toArray,List.map_cons,List.map_nil]);first|done|rfl|(simp only[List.length_drop,List.length_take];rfl)) ?_;(with_reducible refine(newelref08_Row.calls k _ _ aa ρ _ ?side1 ?side2 A2.out).mono ?_);(case side1=>repeat(first|exact(Kd.Q4 ζ.out).2.2|(with_reducible refine Kd.Zc ?_ _)|(with_reducible refine Kd.Za ?_ _)|(with_reducible refine Kd.Zh ?_)));(case side2=>exact(Kd.Q4 ζ.out).2.1);rintro e a9 ⟨an,rfl,θ,hb⟩;refine⟨_,rfl, ?_⟩;have D:=Aside0.mk (Kd.Q1 (by(with_reducible repeat first|apply Kd.Qi|apply Kd.Qh|apply Kd.Ql);exact ζ.out) hb);have I:=Aside0.mk (Kd.Zd θ (Qj (by repeat(first|(with_reducible first|exact HB.out|apply Qe|apply Qa|apply Qf|refine Qg ?_ σ.out)|exact HB.out))));have O:=Aside0.mk (Qp (g:= χ) (o:=.cells #[.int .i64 J,.int .i64 Y,.int .i64 X,.slice Z B.length γ] 26 (0,0)) (by(with_reducible repeat first|apply Qb|apply Qd|apply Qc);exact δ.out) hb);have U:=Aside0.mk (Qr (by repeat(first|(with_reducible first|exact HB.out|apply Qe|apply Qa|apply Qf|refine Qg ?_ σ.out)|exact HB.out)) hb);clear ζ;clear δ;clear HB;have ζ :=D;have a1:=I;have δ :=O;have HB:=U;clear D I O U;(try clear hb);(try clear az);(try clear hk);(try clear hi);(try clear θ);obtain⟨b7,b9,ba,bc,bg,bh,bi,bj⟩:=qD4 δ.out)|((with_reducible refine Qv (f:=36) rfl ?_);refine Ze (some 16) rfl rfl Tryd.func36 kr rfl #[.int .i64 (B.length:Int)] rfl (by(try simp only[List.map_toArray,List.map_cons,List.map_nil]);first|done|rfl|(simp only[List.length_drop,List.length_take];rfl)) ?_;(with_reducible refine(newelref08_Put.calls k (B.length:Int) η _ A3.out).mono ?_);rintro e gy ⟨b2,rfl,θ,hb⟩;refine⟨_,rfl, ?_⟩;have D:=Aside0.mk (Kd.Q1 (by(with_reducible repeat first|apply Kd.Qi|apply Kd.Qh|apply Kd.Ql);exact ζ.out) hb);have I:=Aside0.mk (Kd.Zj (by(with_reducible repeat first|apply Kd.Qi|apply Kd.Qh|apply Kd.Ql);exact a1.out) (Kd.Q5 θ) hb);have O:=Aside0.mk (Kd.Zd (Kd.Zi θ (Kd.Zp (by(with_reducible repeat first|apply Kd.Qi|apply Kd.Qh|apply Kd.Ql);exact a1.out))) (Qj (by repeat(first|(with_reducible first|exact HB.out|apply Qe|apply Qa|apply Qf|refine Qg ?_ σ.out)|exact HB.out))));have U:=Aside0.mk (Qp (g:= χ) (o:=.cells #[.int .i64 J,.int .i64 Y,.int .i64 X,.slice Z B.length γ] 26 (0,0)) (by(with_reducible repeat first|apply Qb|apply Qd|apply Qc);exact δ.out) hb);have ε :=Aside0.mk (Qr (by repeat(first|(with_reducible first|exact HB.out|apply Qe|apply Qa|apply Qf|refine Qg ?_ σ.out)|exact HB.out)) hb);clear ζ;clear a1;clear δ;clear HB;have ζ :=D;have a1:=I;have μ :=O;have δ :=U;have HB:= ε;clear D I O U ε;(try clear hb);(try clear az);(try clear hk);(try clear hi);(try clear θ);obtain⟨aj,a8,di⟩:=Kd.Zf μ.out;subst di)|((with_reducible refine Zs (b:=.append) (xs:=#[.tmp 12,.tmp 16]) rfl ?_);at_builtin;refine Kd.Zz (Kd.int .u8) (w0:=w) w.heap.size rfl (.tmp 12) (.tmp 16) 22 5 (.int .u8 0) 1 rfl Tryd.underlying22 Zx rfl (by decide) (by omega) an ρ η _ _ _ (fun k_=>some k_≠(.slice aj η.length a8:Value).ownBlock) (fun _=>False) rfl rfl ?aO ?aR (fun _ _ h=>h) (fun _ h=>h.elim) ?aF ?aB ?aS ?aL ?_;(case aR=>repeat(first|exact(Kd.Q4 μ.out).2.2|(with_reducible refine Kd.Zc ?_ _)|(with_reducible refine Kd.Za ?_ _)|(with_reducible refine Kd.Zh ?_)));(case aB=>exact(by repeat(first|(with_reducible first|exact HB.out|apply Qe|apply Qa|apply Qf|refine Qg ?_ σ.out)|exact HB.out)));(case aF=>exact(fun k_ hk=>Kd.fresh' (Kd.Zp (by(with_reducible repeat first|apply Kd.Qi|apply Kd.Qh|apply Kd.Ql);exact μ.out)) k_ hk));(case aO=>exact(by(with_reducible repeat first|apply Kd.Qi|apply Kd.Qh|apply Kd.Ql);exact Kd.Qu a1.out (fun _ hk=>hk.2)));(case aS=>exact(Qj (by repeat(first|(with_reducible first|exact HB.out|apply Qe|apply Qa|apply Qf|refine Qg ?_ σ.out)|exact HB.out))));(case aL=>have:=a7.out;omega);intro ao ec ho hb hg hat;rw[← ah.out] at ho;have D:=Aside0.mk (Z2 (g:= χ) (o:=.cells #[.int .i64 J,.int .i64 Y,.int .i64 X,.slice Z B.length γ] 26 (0,0)) (by(with_reducible repeat first|apply Qb|apply Qd|apply Qc);exact δ.out) hg (Kd.Y5 a1.out δ.out (by decide)));have I:=Aside0.mk (Kd.Ge (by(with_reducible repeat first|apply Kd.Qi|apply Kd.Qh|apply Kd.Ql);exact ζ.out) (Kd.Gd (by(with_reducible repeat first|apply Kd.Qi|apply Kd.Qh|apply Kd.Ql);exact a1.out)) (by decide) hg);have O:=Aside0.mk (Kd.Ym (ok:=(fun _=>True)) (by(with_reducible repeat first|apply Kd.Qi|apply Kd.Qh|apply Kd.Ql);exact μ.out) hg hat);have U:=Aside0.mk (hb);have ε :=Aside0.mk (ho);clear δ;clear ζ;clear μ;clear HB;clear a1;have δ :=D;have ζ :=I;have μ :=O;have HB:=U;have a6:= ε;clear D I O U ε;clear ho hb hg hat;obtain⟨b5,b8,bb,bd,be,bf,bk,bl⟩:=qD4 δ.out)|((with_reducible refine Zs (b:=.append) (xs:=#[.tmp 18,.tmp 20]) rfl ?_);at_builtin;refine Kd.Zz (Kd.int .u8) (w0:=w) w.heap.size rfl (.tmp 18) (.tmp 20) 22 5 (.int .u8 0) 1 rfl Tryd.underlying22 Zx rfl (by decide) (by omega) ao κ B _ _ _ (fun k_=>some k_≠(.slice aj η.length a8:Value).ownBlock) (fun _=>False) rfl rfl ?aO ?aR (fun _ _ h=>h) (fun _ h=>h.elim) ?aF ?aB ?aS ?aL ?_;(case aR=>repeat(first|exact(Kd.Zb ω.out HB.out)|(with_reducible refine Kd.Zc ?_ _)|(with_reducible refine Kd.Za ?_ _)|(with_reducible refine Kd.Zh ?_)));(case aB=>exact(by repeat(first|(with_reducible first|exact HB.out|apply Qe|apply Qa|apply Qf|refine Qg ?_ σ.out)|exact HB.out)));(case aF=>exact(fun k_ hk=>Kd.fresh' (Kd.Zp (by(with_reducible repeat first|apply Kd.Qi|apply Kd.Qh|apply Kd.Ql);exact μ.out)) k_ hk));(case aO=>exact(by(with_reducible repeat first|apply Kd.Qi|apply Kd.Qh|apply Kd.Ql);exact a6.out));(case aS=>exact(Qj (by repeat(first|(with_reducible first|exact HB.out|apply Qe|apply Qa|apply Qf|refine Qg ?_ σ.out)|exact HB.out))));(case aL=>have:=am.out;omega);intro b3 m0 ho hb hg hat;rw[← ai.out] at ho;have D:=Aside0.mk (Z2 (g:= χ) (o:=.cells #[.int .i64 J,.int .i64 Y,.int .i64 X,.slice Z B.length γ] 26 (0,0)) (by(with_reducible repeat first|apply Qb|apply Qd|apply Qc);exact δ.out) hg (Kd.Y5 a6.out δ.out (by decide)));have I:=Aside0.mk (Kd.Ge (by(with_reducible repeat first|apply Kd.Qi|apply Kd.Qh|apply Kd.Ql);exact ζ.out) (Kd.Gd (by(with_reducible repeat first|apply Kd.Qi|apply Kd.Qh|apply Kd.Ql);exact a6.out)) (by decide) hg);have O:=Aside0.mk (Kd.Ym (ok:=(fun _=>True)) (by(with_reducible repeat first|apply Kd.Qi|apply Kd.Qh|apply Kd.Ql);exact μ.out) hg hat);have U:=Aside0.mk (hb);have ε :=Aside0.mk (ho);clear δ;clear ζ;clear μ;clear HB;clear a6;have δ :=D;have ζ :=I;have μ :=O;have HB:=U;have a2:= ε;clear D I O U ε;clear ho hb hg hat;obtain⟨ap,ar,au⟩:=Kd.Zf a2.out;subst au)|((with_reducible refine Qv (f:=37) rfl ?_);refine Ze (some 23) rfl rfl Tryd.func37 kr rfl #[.slice ap ab.length ar] rfl (by(try simp only[List.map_toArray,List.map_cons,List.map_nil]);first|done|rfl|(simp only[List.length_drop,List.length_take];rfl)) ?_;(with_reducible refine(newelref09_Seal.calls k _ _ ab τ _ ?side1 ?side2 A6.out).mono ?_);(case side1=>repeat(first|exact(Kd.Q4 a2.out).2.2|(with_reducible refine Kd.Zc ?_ _)|(with_reducible refine Kd.Za ?_ _)|(with_reducible refine Kd.Zh ?_)));(case side2=>exact(Kd.Q4 a2.out).2.1);rintro e pn ⟨b4,rfl,θ,hb⟩;refine⟨_,rfl, ?_⟩;have D:=Aside0.mk (Kd.Q1 (by(with_reducible repeat first|apply Kd.Qi|apply Kd.Qh|apply Kd.Ql);exact ζ.out) hb);have I:=Aside0.mk (Kd.Zj (by(with_reducible repeat first|apply Kd.Qi|apply Kd.Qh|apply Kd.Ql);exact μ.out) (Kd.Q5 θ) hb);have O:=Aside0.mk (Kd.Zj (by(with_reducible repeat first|apply Kd.Qi|apply Kd.Qh|apply Kd.Ql);exact a2.out) (Kd.Q5 θ) hb);have U:=Aside0.mk (Kd.Zd (Kd.Zi (Kd.Zi θ (Kd.Zp (by(with_reducible repeat first|apply Kd.Qi|apply Kd.Qh|apply Kd.Ql);exact μ.out))) (Kd.Zp (by(with_reducible repeat first|apply Kd.Qi|apply Kd.Qh|apply Kd.Ql);exact a2.out))) (Qj (by repeat(first|(with_reducible first|exact HB.out|apply Qe|apply Qa|apply Qf|refine Qg ?_ σ.out)|exact HB.out))));have ε :=Aside0.mk (Qp (g:= χ) (o:=.cells #[.int .i64 J,.int .i64 Y,.int .i64 X,.slice Z B.length γ] 26 (0,0)) (by(with_reducible repeat first|apply Qb|apply Qd|apply Qc);exact δ.out) hb);have ν :=Aside0.mk (Qr (by repeat(first|(with_reducible first|exact HB.out|apply Qe|apply Qa|apply Qf|refine Qg ?_ σ.out)|exact HB.out)) hb);clear ζ;clear μ;clear a2;clear δ;clear HB;have ζ :=D;have μ :=I;have a2:=O;have al:=U;have δ := ε;have HB:= ν;clear D I O U ε ν;(try clear hb);(try clear az);(try clear hk);(try clear hi);(try clear θ)))
   go_ret
   exact⟨_,by first|rfl|(simp[Qo,Qn] <;> rfl)|(simp[*,Qo,Qn] <;> rfl),by(with_reducible repeat first|apply Kd.Qi|apply Kd.Qh|apply Kd.Ql);exact Kd.Qu al.out (fun _ hk=>trivial),by repeat(first|(with_reducible first|exact HB.out|apply Qe|apply Qa|apply Qf|refine Qg ?_ σ.out)|exact HB.out)⟩
  ·rw[if_neg c5] at H
   exact absurd H (by simp)
 ·rw[if_neg c4] at H
  exact absurd H (by simp)
mutual
def newelref12_Write.j0:Nat→Int→Bool→List Int→List Int→Int→Int→Int→List Int→Int→Int→Int→List Int→Bool→Bool→Option (List Int×List Int×Bool×Int)
 |0,_,_,_,_,_,_,_,_,_,_,_,_,_,_=>none
 |k+1,x2,η,J,I,B,D,ε,ζ,Y,Z,γ,δ,O,U=>if η = true then (some (([]:List Int),([]:List Int),false,124)) else ((newelref12_Code.f k B D ε ζ).bind fun X=>(if x2<0 then (newelref12_Write.j1 k x2 X 0 J I Y Z γ δ O U) else (newelref12_Write.j1 k x2 X x2 J I Y Z γ δ O U)))
def newelref12_Write.j1:Nat→Int→List Int→Int→List Int→List Int→Int→Int→Int→List Int→Bool→Bool→Option (List Int×List Int×Bool×Int)
 |0,_,_,_,_,_,_,_,_,_,_,_=>none
 |k+1,x2,B,D,J,I,Y,Z,γ,δ,O,U=>if D>(B.length:Int) then (if U=true then (if O=true then (if 0≤(B.length:Int) then (if (B.length:Int)≤(B.length:Int) then (some ((B.take ((B.length:Int):Int).toNat),I,decide (x2≥(B.length:Int)),0)) else (none)) else (none)) else (if 0≤(B.length:Int) then (if (B.length:Int)≤(B.length:Int) then (some (J,(B.take ((B.length:Int):Int).toNat),decide (x2≥(B.length:Int)),0)) else (none)) else (none))) else (if 0≤(B.length:Int) then (if (B.length:Int)≤(B.length:Int) then (some ((B.take ((B.length:Int):Int).toNat),I,decide (x2≥(B.length:Int)),0)) else (none)) else (none))) else (if U=true then (if O=true then (if 0≤D then (if D≤(B.length:Int) then (some ((B.take (D:Int).toNat),I,decide (x2≥(B.length:Int)),0)) else (none)) else (none)) else (if 0≤D then (if D≤(B.length:Int) then (some (J,(B.take (D:Int).toNat),decide (x2≥(B.length:Int)),0)) else (none)) else (none))) else (if 0≤D then (if D≤(B.length:Int) then (some ((B.take (D:Int).toNat),I,decide (x2≥(B.length:Int)),0)) else (none)) else (none)))
end
def newelref12_Write.f (k:Nat) (J:List Int) (B:List Int) (ζ :Int) (κ :Int) (μ :Int) (η :List Int) (a2:Int):Option (List Int×List Int×Bool×Int):=(newelref12_May.f ζ κ μ η).bind fun f6=>(if f6=true then ((newelref12_Recover.f k J B).bind fun a0=>(if a0.2.2.2.2.2=true then (newelref12_Write.j0 k a2 (decide (ζ ≤ a0.1)) J B ζ κ μ η a0.1 a0.2.1 a0.2.2.1 a0.2.2.2.1 a0.2.2.2.2.1 a0.2.2.2.2.2) else (newelref12_Write.j0 k a2 false J B ζ κ μ η a0.1 a0.2.1 a0.2.2.1 a0.2.2.2.1 a0.2.2.2.2.1 a0.2.2.2.2.2))) else (some (([]:List Int),([]:List Int),false,120)))
theorem newelref12_Write.Zl:∀ k,(∀ B I J U Y Z y6 y7 y8 y9 X γ δ ε,LeO (newelref12_Write.j0 k B I J U Y Z y6 y7 y8 y9 X γ δ ε) (newelref12_Write.j0 (k+1) B I J U Y Z y6 y7 y8 y9 X γ δ ε))∧(∀ B I J U Y Z y6 y7 y8 y9 X,LeO (newelref12_Write.j1 k B I J U Y Z y6 y7 y8 y9 X) (newelref12_Write.j1 (k+1) B I J U Y Z y6 y7 y8 y9 X))
 |0=>⟨fun _ _ _ _ _ _ _ _ _ _ _ _ _ _ r h=>by simp[newelref12_Write.j0] at h,fun _ _ _ _ _ _ _ _ _ _ _ r h=>by simp[newelref12_Write.j1] at h⟩
 |k+1=>by
  obtain⟨D,O⟩:=newelref12_Write.Zl k
  refine⟨?_, ?_⟩
  ·intro B I J U Y Z y6 y7 y8 y9 X γ δ ε
   unfold newelref12_Write.j0
   repeat' first
   |(with_reducible exact D _ _ _ _ _ _ _ _ _ _ _ _ _ _)
   |(with_reducible exact O _ _ _ _ _ _ _ _ _ _ _)
   |(with_reducible exact newelref12_Code.mono _ _ _ _ _)
   |(with_reducible exact newelref12_Recover.mono _ _ _)
   |(with_reducible exact LeO.refl _)
   |(with_reducible exact LeO.none _)
   |(with_reducible refine LeO.ite ?_ ?_)
   |(with_reducible refine LeO.bind ?_ (fun _=>?_))
   |exact D _ _ _ _ _ _ _ _ _ _ _ _ _ _
   |exact O _ _ _ _ _ _ _ _ _ _ _
   |exact newelref12_Code.mono _ _ _ _ _
   |exact newelref12_Recover.mono _ _ _
   |exact LeO.none _
   |refine LeO.ite ?_ ?_
   |refine LeO.bind ?_ (fun _=>?_)
  ·intro B I J U Y Z y6 y7 y8 y9 X
   unfold newelref12_Write.j1
   repeat' first
   |(with_reducible exact D _ _ _ _ _ _ _ _ _ _ _ _ _ _)
   |(with_reducible exact O _ _ _ _ _ _ _ _ _ _ _)
   |(with_reducible exact newelref12_Code.mono _ _ _ _ _)
   |(with_reducible exact newelref12_Recover.mono _ _ _)
   |(with_reducible exact LeO.refl _)
   |(with_reducible exact LeO.none _)
   |(with_reducible refine LeO.ite ?_ ?_)
   |(with_reducible refine LeO.bind ?_ (fun _=>?_))
   |exact D _ _ _ _ _ _ _ _ _ _ _ _ _ _
   |exact O _ _ _ _ _ _ _ _ _ _ _
   |exact newelref12_Code.mono _ _ _ _ _
   |exact newelref12_Recover.mono _ _ _
   |exact LeO.none _
   |refine LeO.ite ?_ ?_
   |refine LeO.bind ?_ (fun _=>?_)
theorem newelref12_Write.mono:∀ J B a2 I U Y Z k,LeO (newelref12_Write.f k J B a2 I U Y Z) (newelref12_Write.f (k+1) J B a2 I U Y Z):=by
 intro J B a2 I U Y Z k
 obtain⟨D,O⟩:=newelref12_Write.Zl k
 unfold newelref12_Write.f
 repeat' first
   |(with_reducible exact D _ _ _ _ _ _ _ _ _ _ _ _ _ _)
   |(with_reducible exact O _ _ _ _ _ _ _ _ _ _ _)
   |(with_reducible exact newelref12_Code.mono _ _ _ _ _)
   |(with_reducible exact newelref12_Recover.mono _ _ _)
   |(with_reducible exact LeO.refl _)
   |(with_reducible exact LeO.none _)
   |(with_reducible refine LeO.ite ?_ ?_)
   |(with_reducible refine LeO.bind ?_ (fun _=>?_))
   |exact D _ _ _ _ _ _ _ _ _ _ _ _ _ _
   |exact O _ _ _ _ _ _ _ _ _ _ _
   |exact newelref12_Code.mono _ _ _ _ _
   |exact newelref12_Recover.mono _ _ _
   |exact LeO.none _
   |refine LeO.ite ?_ ?_
   |refine LeO.bind ?_ (fun _=>?_)
set_option maxHeartbeats 8000000 in
set_option maxRecDepth 100000 in
theorem newelref12_Write.calls (k:Nat) (ae:Nat→Prop) (γ:Option Addr) (δ :Nat) (J:List Int) (af:Nat→Prop) (Y:Option Addr) (Z:Nat) (B:List Int) (ζ :Int) (κ :Int) (μ :Int) (a6:Option Addr) (a7:Nat) (η :List Int) (a2:Int) (r1:List Int) (r2:List Int) (r3:Bool) (r4:Int) (w:World) (jk:Kd.V (Kd.int .u8) 5 w w.heap.size (fun k_=>ae k_) (.slice γ J.length δ) J) (jl:Kd.V (Kd.int .u8) 5 w w.heap.size (fun k_=>af k_) (.slice Y B.length Z) B) (db:Kd.C (Kd.int .u8) w a6 η.length η) (dc: η.length≤a7) (h:newelref12_Write.f k J B ζ κ μ η a2=some (r1,r2,r3,r4)):
  Calls Tryd.prog 13 #[.agg #[.slice γ J.length δ,.slice Y B.length Z],.agg #[.int .i64 ζ,.int .i64 κ,.int .i64 μ,.slice a6 η.length a7],.int .i64 a2] w fun e w'=>∃ ak f7:Value,e = .returned (.agg #[ak,f7,.bool r3,.int .i64 r4])∧Kd.V (Kd.int .u8) 5 w' w.heap.size (fun k_=>((ae k_∨af k_)∨w.heap.size≤k_)) ak r1∧Kd.V (Kd.int .u8) 5 w' w.heap.size (fun k_=>((ae k_∨af k_)∨w.heap.size≤k_)) f7 r2∧Below w.heap.size w w':=by
 have iv:=Tryd.underlying24
 have dz:=Tryd.underlying26
 have rt:=Tryd.underlying34
 have om:=Tryd.underlying39
 have aa:=Aside0.mk (show Kd.V (Kd.int .u8) 5 w w.heap.size (fun k_=>((ae k_∨af k_)∨w.heap.size≤k_)) (.slice γ J.length δ) J from Kd.Qt jk (fun k_ hk=>.inl (.inl hk)))
 have ac:=Aside0.mk (show Kd.V (Kd.int .u8) 5 w w.heap.size (fun k_=>((ae k_∨af k_)∨w.heap.size≤k_)) (.slice Y B.length Z) B from Kd.Qt jl (fun k_ hk=>.inl (.inr hk)))
 have d5:=Aside0.mk db
 have d6:=Aside0.mk dc
 clear db dc
 have HB:=Aside0.mk (Below.refl w.heap.size w)
 have H:((newelref12_May.f ζ κ μ η).bind fun f6=>(if f6=true then ((newelref12_Recover.f k J B).bind fun a0=>(if a0.2.2.2.2.2=true then (newelref12_Write.j0 k a2 (decide (ζ ≤ a0.1)) J B ζ κ μ η a0.1 a0.2.1 a0.2.2.1 a0.2.2.2.1 a0.2.2.2.2.1 a0.2.2.2.2.2) else (newelref12_Write.j0 k a2 false J B ζ κ μ η a0.1 a0.2.1 a0.2.2.1 a0.2.2.2.1 a0.2.2.2.2.1 a0.2.2.2.2.2))) else (some (([]:List Int),([]:List Int),false,120))))=some (r1,r2,r3,r4):=h
 clear h
 replace H:=Option.bind_eq_some_iff.mp H
 obtain⟨f6,e9,H⟩:=H
 replace H:(if f6=true then ((newelref12_Recover.f k J B).bind fun a0=>(if a0.2.2.2.2.2=true then (newelref12_Write.j0 k a2 (decide (ζ ≤ a0.1)) J B ζ κ μ η a0.1 a0.2.1 a0.2.2.1 a0.2.2.2.1 a0.2.2.2.2.1 a0.2.2.2.2.2) else (newelref12_Write.j0 k a2 false J B ζ κ μ η a0.1 a0.2.1 a0.2.2.1 a0.2.2.2.1 a0.2.2.2.2.1 a0.2.2.2.2.2))) else (some (([]:List Int),([]:List Int),false,120)))=some (r1,r2,r3,r4):=H
 have A4:=Aside0.mk e9
 clear e9
 by_cases c5:f6=true
 ·subst c5
  have H1:((newelref12_Recover.f k J B).bind fun a0=>(if a0.2.2.2.2.2=true then (newelref12_Write.j0 k a2 (decide (ζ ≤ a0.1)) J B ζ κ μ η a0.1 a0.2.1 a0.2.2.1 a0.2.2.2.1 a0.2.2.2.2.1 a0.2.2.2.2.2) else (newelref12_Write.j0 k a2 false J B ζ κ μ η a0.1 a0.2.1 a0.2.2.1 a0.2.2.2.1 a0.2.2.2.2.1 a0.2.2.2.2.2)))=some (r1,r2,r3,r4):=by rw[if_pos rfl] at H;exact H
  clear H
  have H:=H1
  clear H1
  replace H:=Option.bind_eq_some_iff.mp H
  obtain⟨⟨aj,am,an,ai,av,br⟩,bq,H⟩:=H
  replace H:(if br=true then (newelref12_Write.j0 k a2 (decide (ζ ≤ aj)) J B ζ κ μ η aj am an ai av br) else (newelref12_Write.j0 k a2 false J B ζ κ μ η aj am an ai av br))=some (r1,r2,r3,r4):=H
  have A6:=Aside0.mk bq
  clear bq
  have gz:=Aside0.mk H
  clear H
  go_enter Tryd.func13,Tryd.ntmps13
  go_upto_region 5 with(first|((with_reducible refine Qz (N:=3) rfl ?_);refine qE 3 #[.slice γ J.length δ,.slice Y B.length Z] 24 ?_;intro ag hg w8 hbox hb;have σ:=Aside0.mk hbox;have mi:=sGe hg;have mj:=sGe hg;replace aa:=Aside0.mk (Kd.Q2 (Kd.Q9 aa.out ag (Nat.le_of_eq hg.symm)) hb);replace ac:=Aside0.mk (Kd.Q2 (Kd.Q9 ac.out ag (Nat.le_of_eq hg.symm)) hb);replace HB:=sHb hb;clear hb hbox hg)|((with_reducible refine Qz (N:=4) rfl ?_);refine qE 4 #[.int .i64 ζ,.int .i64 κ,.int .i64 μ,.slice a6 η.length a7] 26 ?_;intro ah hg w9 hbox hb;have ω :=Aside0.mk hbox;have ml:=sGe hg;have mm:=sGe hg;have aw:=sNl σ hg;have ax:=sNg σ hg;replace aa:=Aside0.mk (Kd.Q2 (Kd.Q9 aa.out ah (Nat.le_of_eq hg.symm)) hb);replace ac:=Aside0.mk (Kd.Q2 (Kd.Q9 ac.out ah (Nat.le_of_eq hg.symm)) hb);replace σ:=sBk σ hb;replace HB:=sHb hb;clear hb hbox hg)|((with_reducible refine Qz (N:=6) rfl ?_);refine qE 6 #[.slice none 0 0,.slice none 0 0,.bool false,.int .i64 0] 34 ?_;intro χ hg gh hbox hb;have τ :=Aside0.mk hbox;have mo:=sGe hg;have mq:=sGe hg;have ay:=sNl σ hg;have b0:=sNg σ hg;have ar:=sNl ω hg;have au:=sNg ω hg;replace aa:=Aside0.mk (Kd.Q2 (Kd.Q9 aa.out χ (Nat.le_of_eq hg.symm)) hb);replace ac:=Aside0.mk (Kd.Q2 (Kd.Q9 ac.out χ (Nat.le_of_eq hg.symm)) hb);replace σ:=sBk σ hb;replace ω :=sBk ω hb;replace HB:=sHb hb;clear hb hbox hg;have jm:=ax.out;have jn:=aw.out;have jo:=ar.out;have jp:=au.out;obtain⟨b7,b9,ba,bc,bg,bh,bi,bj⟩:=qD4 ω.out)|((with_reducible refine Qv (f:=21) rfl ?_);refine Ze (some 13) rfl rfl Tryd.func21 kr rfl #[.agg #[.int .i64 ζ,.int .i64 κ,.int .i64 μ,.slice a6 η.length a7]] rfl qM ?_;(with_reducible refine(newelref12_May.calls ζ κ μ _ _ η true _ ?side1 ?side2 A4.out).mono ?_);(case side1=>exact(Kd.Zb d5.out HB.out));(case side2=>exact d6.out);rintro e gy ⟨rfl,hb⟩;refine⟨_,rfl, ?_⟩;replace aa:=Aside0.mk (Kd.Q2 aa.out hb);replace ac:=Aside0.mk (Kd.Q2 ac.out hb);replace σ:=sBk σ hb;replace ω :=sBk ω hb;replace τ :=sBk τ hb;replace HB:=sHb hb;(try clear hb);(try clear az);(try clear hk);(try clear hi);have k8:=ay.out;have k9:=b0.out;obtain⟨bk,bm,bn,bo⟩:=qD2 σ.out)|((with_reducible refine Qv (f:=15) rfl ?_);refine Ze (some 18) rfl rfl Tryd.func15 kr rfl #[.agg #[.slice γ J.length δ,.slice Y B.length Z]] rfl qM ?_;(with_reducible refine(newelref12_Recover.calls k (fun k_=>(((((ae k_∨af k_)∨w.heap.size≤k_)∧k_≠ag)∧k_≠ah)∧k_ ≠ χ)) _ _ J (fun k_=>(((((ae k_∨af k_)∨w.heap.size≤k_)∧k_≠ag)∧k_≠ah)∧k_ ≠ χ)) _ _ B aj am an ai av br _ ?side1 ?side2 A6.out).mono ?_);(case side1=>exact aa.out);(case side2=>exact ac.out);rintro e ju ⟨xx,rfl,θ,hb⟩;refine⟨_,rfl, ?_⟩;have ee:=Aside0.mk (Kd.Y1 (Kd.Qt (ok':=fun k_=>((ae k_∨af k_)∨w.heap.size≤k_)∧k_≠ag∧k_≠ah∧k_ ≠ χ) θ (fun k_ hk_=>⟨Or.elim hk_ (fun hs_=>Or.elim hs_ (fun hs_=>hs_.1.1.1) (fun hs_=>hs_.1.1.1)) (fun hn_=>(.inr (Nat.le_trans (Qj HB.out) hn_))),Or.elim hk_ (fun hs_=>Or.elim hs_ (fun hs_=>hs_.1.1.2) (fun hs_=>hs_.1.1.2)) (fun hn_=>(Kd.Z5 (g:=ag) (o:=.cells #[.slice γ J.length δ,.slice Y B.length Z] 24 (0,0)) σ.out k_ hn_)),Or.elim hk_ (fun hs_=>Or.elim hs_ (fun hs_=>hs_.1.2) (fun hs_=>hs_.1.2)) (fun hn_=>(Kd.Z5 (g:=ah) (o:=.cells #[.int .i64 ζ,.int .i64 κ,.int .i64 μ,.slice a6 η.length a7] 26 (0,0)) ω.out k_ hn_)),Or.elim hk_ (fun hs_=>Or.elim hs_ (fun hs_=>hs_.2) (fun hs_=>hs_.2)) (fun hn_=>(Kd.Z5 (g:= χ) (o:=.cells #[.slice none 0 0,.slice none 0 0,.bool false,.int .i64 0] 34 (0,0)) τ.out k_ hn_))⟩)) (Qj HB.out));replace aa:=Aside0.mk (Kd.Q2 aa.out hb);replace ac:=Aside0.mk (Kd.Q2 ac.out hb);replace σ:=sBk σ hb;replace ω :=sBk ω hb;replace τ :=sBk τ hb;replace HB:=sHb hb;(try clear hb);(try clear az);(try clear hk);(try clear hi);(try clear θ))|((with_reducible refine Qz (N:=8) rfl ?_);refine qE 8 #[.int .i64 0,.int .i64 0,.int .i64 0,.slice none 0 0,.bool false,.bool false] 39 ?_;intro ψ hg m0 hbox hb;have a1:=Aside0.mk hbox;have xg:=sGe hg;have xh:=sGe hg;have b8:=sNl σ hg;have bb:=sNg σ hg;have b1:=sNl ω hg;have b2:=sNg ω hg;have b5:=sNl τ hg;have b6:=sNg τ hg;replace aa:=Aside0.mk (Kd.Q2 (Kd.Q9 aa.out ψ (Nat.le_of_eq hg.symm)) hb);replace ac:=Aside0.mk (Kd.Q2 (Kd.Q9 ac.out ψ (Nat.le_of_eq hg.symm)) hb);replace ee:=Aside0.mk (Kd.Q2 (Kd.Q9 ee.out ψ (Nat.le_of_eq hg.symm)) hb);replace σ:=sBk σ hb;replace ω :=sBk ω hb;replace τ :=sBk τ hb;replace HB:=sHb hb;clear hb hbox hg;have f9:=bb.out;have fa:=b8.out;have gi:=b2.out;have gj:=b1.out;have kc:=b6.out;have kd:=b5.out;obtain⟨d1,d4,d8,d9,eb,ik,da,di,dj,dk,ed,il⟩:=qD6 a1.out;obtain⟨a8,a9,f8⟩:=Kd.Jo ee.out;subst f8))
  (try simp only[Act.put,qS])
  go_cut [28] (fun lp wc=>∃ (kq:Nat) (gt:Bool),lp = .bool gt∧Aside0 (newelref12_Write.j0 kq a2 gt J B ζ κ μ η aj am an ai av br=some (r1,r2,r3,r4))∧Aside0 (kq≤k)∧Aside0 (Kd.V (Kd.int .u8) 5 wc w.heap.size (fun k_=>((ae k_∨af k_)∨w.heap.size≤k_)∧k_≠ag∧k_≠ah∧k_ ≠ χ ∧ k_ ≠ ψ) (.slice γ J.length δ) J)∧Aside0 (Kd.V (Kd.int .u8) 5 wc w.heap.size (fun k_=>((ae k_∨af k_)∨w.heap.size≤k_)∧k_≠ag∧k_≠ah∧k_ ≠ χ ∧ k_ ≠ ψ) (.slice Y B.length Z) B)∧Aside0 (Kd.V (Kd.int .u8) 5 wc w.heap.size (fun k_=>((ae k_∨af k_)∨w.heap.size≤k_)∧k_≠ag∧k_≠ah∧k_ ≠ χ ∧ k_ ≠ ψ) (.slice a8 ai.length a9) ai)∧Aside0 (wc.heap[ag]?=some (.cells #[(.slice γ J.length δ),(.slice Y B.length Z)] 24 (0,0)))∧Aside0 (wc.heap[ah]?=some (.cells #[.int .i64 ζ,.int .i64 κ,.int .i64 μ,(.slice a6 η.length a7)] 26 (0,0)))∧Aside0 (wc.heap[χ]?=some (.cells #[(.slice none 0 0),(.slice none 0 0),.bool false,.int .i64 0] 34 (0,0)))∧Aside0 (wc.heap[ψ]?=some (.cells #[.int .i64 aj,.int .i64 am,.int .i64 an,(.slice a8 ai.length a9),.bool av,.bool br] 39 (0,0)))∧Aside0 (Below w.heap.size w wc))
  case first=>
   have H:=gz.out
   clear gz
   by_cases al:br=true
   ·subst al
    have H1:(newelref12_Write.j0 k a2 (decide (ζ ≤ aj)) J B ζ κ μ η aj am an ai av true)=some (r1,r2,r3,r4):=by rw[if_pos rfl] at H;exact H
    clear H
    have H:=H1
    clear H1
    have H':=Aside0.mk H
    clear H
    have kj:=bb.out
    have kk:=b8.out
    have ga:=b2.out
    have gb:=b1.out
    have gk:=b6.out
    have gn:=b5.out
    obtain⟨ce,ch,ci,ck,im,io,cm,cn,co,cp,ip,iq⟩:=qD6 a1.out
    have mr:=ax.out
    have ms:=aw.out
    have je:=ar.out
    have jf:=au.out
    obtain⟨cw,cx,cy,dv,d0,d2,d3,dy⟩:=qD4 ω.out
    go_wp2
    go_meet
    case rel=>exact⟨_,(decide (ζ ≤ aj)),qR,H',⟨by first|omega|exact Nat.le_refl _⟩,⟨by(with_reducible repeat first|apply Kd.Qx|apply Kd.Qw|apply Kd.Q0);exact Kd.Qt (Kd.Qq (p:=⟨ψ,5,none⟩) (Kd.Qq (p:=⟨ψ,4,none⟩) (Kd.Qq (p:=⟨ψ,3,none⟩) (Kd.Qq (p:=⟨ψ,2,none⟩) (Kd.Qq (p:=⟨ψ,1,none⟩) (Kd.Qq (p:=⟨ψ,0,none⟩) (Kd.Qt aa.out (fun k_ hk=>(⟨hk,hk.2⟩:_∧k_ ≠ ψ))) (fun _ hk=>hk.2) (.int .i64 aj)) (fun _ hk=>hk.2) (.int .i64 am)) (fun _ hk=>hk.2) (.int .i64 an)) (fun _ hk=>hk.2) _) (fun _ hk=>hk.2) (.bool av)) (fun _ hk=>hk.2) (.bool true)) (fun _ hk=>⟨hk.1.1.1.1.1,⟨hk.1.1.1.1.2,⟨hk.1.1.1.2,⟨hk.1.1.2,hk.1.2⟩⟩⟩⟩)⟩,⟨by(with_reducible repeat first|apply Kd.Qx|apply Kd.Qw|apply Kd.Q0);exact Kd.Qt (Kd.Qq (p:=⟨ψ,5,none⟩) (Kd.Qq (p:=⟨ψ,4,none⟩) (Kd.Qq (p:=⟨ψ,3,none⟩) (Kd.Qq (p:=⟨ψ,2,none⟩) (Kd.Qq (p:=⟨ψ,1,none⟩) (Kd.Qq (p:=⟨ψ,0,none⟩) (Kd.Qt ac.out (fun k_ hk=>(⟨hk,hk.2⟩:_∧k_ ≠ ψ))) (fun _ hk=>hk.2) (.int .i64 aj)) (fun _ hk=>hk.2) (.int .i64 am)) (fun _ hk=>hk.2) (.int .i64 an)) (fun _ hk=>hk.2) _) (fun _ hk=>hk.2) (.bool av)) (fun _ hk=>hk.2) (.bool true)) (fun _ hk=>⟨hk.1.1.1.1.1,⟨hk.1.1.1.1.2,⟨hk.1.1.1.2,⟨hk.1.1.2,hk.1.2⟩⟩⟩⟩)⟩,⟨by(with_reducible repeat first|apply Kd.Qx|apply Kd.Qw|apply Kd.Q0);exact Kd.Qt (Kd.Qq (p:=⟨ψ,5,none⟩) (Kd.Qq (p:=⟨ψ,4,none⟩) (Kd.Qq (p:=⟨ψ,3,none⟩) (Kd.Qq (p:=⟨ψ,2,none⟩) (Kd.Qq (p:=⟨ψ,1,none⟩) (Kd.Qq (p:=⟨ψ,0,none⟩) (Kd.Qt ee.out (fun k_ hk=>(⟨hk,hk.2⟩:_∧k_ ≠ ψ))) (fun _ hk=>hk.2) (.int .i64 aj)) (fun _ hk=>hk.2) (.int .i64 am)) (fun _ hk=>hk.2) (.int .i64 an)) (fun _ hk=>hk.2) _) (fun _ hk=>hk.2) (.bool av)) (fun _ hk=>hk.2) (.bool true)) (fun _ hk=>⟨hk.1.1.1,⟨hk.1.1.2.1,⟨hk.1.1.2.2.1,⟨hk.1.1.2.2.2,hk.1.2⟩⟩⟩⟩)⟩,⟨bka σ⟩,⟨bka ω⟩,⟨bka τ⟩,⟨by(with_reducible repeat first|apply Qb|apply Qd|apply Qc);refine Qk (cs:=#[.int .i64 aj,.int .i64 am,.int .i64 an,.slice a8 ai.length a9,.bool av,.bool false]) ?_ 5 _ rfl;(with_reducible repeat first|apply Qb|apply Qd|apply Qc);refine Qk (cs:=#[.int .i64 aj,.int .i64 am,.int .i64 an,.slice a8 ai.length a9,.bool false,.bool false]) ?_ 4 _ rfl;(with_reducible repeat first|apply Qb|apply Qd|apply Qc);refine Qk (cs:=#[.int .i64 aj,.int .i64 am,.int .i64 an,.slice none 0 0,.bool false,.bool false]) ?_ 3 _ rfl;(with_reducible repeat first|apply Qb|apply Qd|apply Qc);refine Qk (cs:=#[.int .i64 aj,.int .i64 am,.int .i64 0,.slice none 0 0,.bool false,.bool false]) ?_ 2 _ rfl;(with_reducible repeat first|apply Qb|apply Qd|apply Qc);refine Qk (cs:=#[.int .i64 aj,.int .i64 0,.int .i64 0,.slice none 0 0,.bool false,.bool false]) ?_ 1 _ rfl;(with_reducible repeat first|apply Qb|apply Qd|apply Qc);refine Qk (cs:=#[.int .i64 0,.int .i64 0,.int .i64 0,.slice none 0 0,.bool false,.bool false]) ?_ 0 _ rfl;(with_reducible repeat first|apply Qb|apply Qd|apply Qc);exact a1.out⟩,⟨bel⟩⟩
   ·replace al:=Bool.eq_false_iff.mpr al
    subst al
    have H1:(newelref12_Write.j0 k a2 false J B ζ κ μ η aj am an ai av false)=some (r1,r2,r3,r4):=by rw[if_neg (show ¬ (false=true) by decide)] at H;exact H
    clear H
    have H:=H1
    clear H1
    have H':=Aside0.mk H
    clear H
    have mt:=bb.out
    have mu:=b8.out
    have gp:=b2.out
    have gq:=b1.out
    have gr:=b6.out
    have gs:=b5.out
    obtain⟨fb,fc,g2,g3,ir,iw,g4,g5,g6,g7,ix,iy⟩:=qD6 a1.out
    go_wp2
    go_meet
    case rel=>exact⟨_,(false),qR,H',⟨by first|omega|exact Nat.le_refl _⟩,⟨by(with_reducible repeat first|apply Kd.Qx|apply Kd.Qw|apply Kd.Q0);exact Kd.Qt (Kd.Qq (p:=⟨ψ,5,none⟩) (Kd.Qq (p:=⟨ψ,4,none⟩) (Kd.Qq (p:=⟨ψ,3,none⟩) (Kd.Qq (p:=⟨ψ,2,none⟩) (Kd.Qq (p:=⟨ψ,1,none⟩) (Kd.Qq (p:=⟨ψ,0,none⟩) (Kd.Qt aa.out (fun k_ hk=>(⟨hk,hk.2⟩:_∧k_ ≠ ψ))) (fun _ hk=>hk.2) (.int .i64 aj)) (fun _ hk=>hk.2) (.int .i64 am)) (fun _ hk=>hk.2) (.int .i64 an)) (fun _ hk=>hk.2) _) (fun _ hk=>hk.2) (.bool av)) (fun _ hk=>hk.2) (.bool false)) (fun _ hk=>⟨hk.1.1.1.1.1,⟨hk.1.1.1.1.2,⟨hk.1.1.1.2,⟨hk.1.1.2,hk.1.2⟩⟩⟩⟩)⟩,⟨by(with_reducible repeat first|apply Kd.Qx|apply Kd.Qw|apply Kd.Q0);exact Kd.Qt (Kd.Qq (p:=⟨ψ,5,none⟩) (Kd.Qq (p:=⟨ψ,4,none⟩) (Kd.Qq (p:=⟨ψ,3,none⟩) (Kd.Qq (p:=⟨ψ,2,none⟩) (Kd.Qq (p:=⟨ψ,1,none⟩) (Kd.Qq (p:=⟨ψ,0,none⟩) (Kd.Qt ac.out (fun k_ hk=>(⟨hk,hk.2⟩:_∧k_ ≠ ψ))) (fun _ hk=>hk.2) (.int .i64 aj)) (fun _ hk=>hk.2) (.int .i64 am)) (fun _ hk=>hk.2) (.int .i64 an)) (fun _ hk=>hk.2) _) (fun _ hk=>hk.2) (.bool av)) (fun _ hk=>hk.2) (.bool false)) (fun _ hk=>⟨hk.1.1.1.1.1,⟨hk.1.1.1.1.2,⟨hk.1.1.1.2,⟨hk.1.1.2,hk.1.2⟩⟩⟩⟩)⟩,⟨by(with_reducible repeat first|apply Kd.Qx|apply Kd.Qw|apply Kd.Q0);exact Kd.Qt (Kd.Qq (p:=⟨ψ,5,none⟩) (Kd.Qq (p:=⟨ψ,4,none⟩) (Kd.Qq (p:=⟨ψ,3,none⟩) (Kd.Qq (p:=⟨ψ,2,none⟩) (Kd.Qq (p:=⟨ψ,1,none⟩) (Kd.Qq (p:=⟨ψ,0,none⟩) (Kd.Qt ee.out (fun k_ hk=>(⟨hk,hk.2⟩:_∧k_ ≠ ψ))) (fun _ hk=>hk.2) (.int .i64 aj)) (fun _ hk=>hk.2) (.int .i64 am)) (fun _ hk=>hk.2) (.int .i64 an)) (fun _ hk=>hk.2) _) (fun _ hk=>hk.2) (.bool av)) (fun _ hk=>hk.2) (.bool false)) (fun _ hk=>⟨hk.1.1.1,⟨hk.1.1.2.1,⟨hk.1.1.2.2.1,⟨hk.1.1.2.2.2,hk.1.2⟩⟩⟩⟩)⟩,⟨bka σ⟩,⟨bka ω⟩,⟨bka τ⟩,⟨by(with_reducible repeat first|apply Qb|apply Qd|apply Qc);refine Qk (cs:=#[.int .i64 aj,.int .i64 am,.int .i64 an,.slice a8 ai.length a9,.bool av,.bool false]) ?_ 5 _ rfl;(with_reducible repeat first|apply Qb|apply Qd|apply Qc);refine Qk (cs:=#[.int .i64 aj,.int .i64 am,.int .i64 an,.slice a8 ai.length a9,.bool false,.bool false]) ?_ 4 _ rfl;(with_reducible repeat first|apply Qb|apply Qd|apply Qc);refine Qk (cs:=#[.int .i64 aj,.int .i64 am,.int .i64 an,.slice none 0 0,.bool false,.bool false]) ?_ 3 _ rfl;(with_reducible repeat first|apply Qb|apply Qd|apply Qc);refine Qk (cs:=#[.int .i64 aj,.int .i64 am,.int .i64 0,.slice none 0 0,.bool false,.bool false]) ?_ 2 _ rfl;(with_reducible repeat first|apply Qb|apply Qd|apply Qc);refine Qk (cs:=#[.int .i64 aj,.int .i64 0,.int .i64 0,.slice none 0 0,.bool false,.bool false]) ?_ 1 _ rfl;(with_reducible repeat first|apply Qb|apply Qd|apply Qc);refine Qk (cs:=#[.int .i64 0,.int .i64 0,.int .i64 0,.slice none 0 0,.bool false,.bool false]) ?_ 0 _ rfl;(with_reducible repeat first|apply Qb|apply Qd|apply Qc);exact a1.out⟩,⟨bel⟩⟩
  case rest=>
   clear gz
   try clear c1
   try clear c2
   try clear p2
   try clear c3
   try clear c5
   try clear bf
   try clear bl
   try clear cq
   try clear e4
   try clear bp
   try clear er
   try clear cf
   try clear al
   try clear cb
   try clear dn
   try clear eu
   try clear dm
   try clear dq
   try clear eh
   try clear ev
   try clear ew
   try clear b7
   try clear b9
   try clear ba
   try clear bc
   try clear bk
   try clear bm
   try clear d1
   try clear d4
   try clear d8
   try clear d9
   try clear eb
   try clear ik
   try clear ce
   try clear ch
   try clear ci
   try clear ck
   try clear im
   try clear io
   try clear cw
   try clear cx
   try clear cy
   try clear dv
   try clear fb
   try clear fc
   try clear g2
   try clear g3
   try clear ir
   try clear iw
   try clear bg
   try clear bh
   try clear bi
   try clear bj
   try clear bn
   try clear bo
   try clear da
   try clear di
   try clear dj
   try clear dk
   try clear ed
   try clear il
   try clear cm
   try clear cn
   try clear co
   try clear cp
   try clear ip
   try clear iq
   try clear d0
   try clear d2
   try clear d3
   try clear dy
   try clear g4
   try clear g5
   try clear g6
   try clear g7
   try clear ix
   try clear iy
   obtain⟨kq,gt,rfl,HA,h0,HO_366000,HO_366001,HO_378003,σ,ω,τ,a1,HB⟩:=hcut
   cases kq with
   |zero=>exact absurd HA.out (by simp[newelref12_Write.j0])
   |succ en=>
    have H:=HA.out
    clear HA
    simp only[newelref12_Write.j0] at H
    by_cases e6:gt=true
    ·subst e6
     have H1:(some (([]:List Int),([]:List Int),false,124))=some (r1,r2,r3,r4):=by rw[if_pos rfl] at H;exact H
     clear H
     have H:=H1
     clear H1
     simp only[Option.some.injEq,Prod.mk.injEq] at H
     obtain⟨rfl,rfl,rfl,rfl⟩:=H
     have kb:=b0.out
     have ke:=ay.out
     have n1:=au.out
     have n2:=ar.out
     have lv:=b5.out
     have lw:=b6.out
     obtain⟨ei,ej,iz,j4,ek,el,j5,j6⟩:=qD4 τ.out
     go_wp2
     refine bodyPost_ret (results_cell_row rfl _ _ χ 34 #[.slice none 0 0,.slice none 0 0,.bool false,.int .i64 124] (0,0) _ rfl (by refine Qk (cs:=#[.slice none 0 0,.slice none 0 0,.bool false,.int .i64 0]) ?_ 3 _ rfl;refine Qk (cs:=#[.slice none 0 0,.slice none 0 0,.bool false,.int .i64 0]) ?_ 2 _ rfl;refine Qk (cs:=#[.slice none 0 0,.slice none 0 0,.bool false,.int .i64 0]) ?_ 1 _ rfl;refine Qk (cs:=#[.slice none 0 0,.slice none 0 0,.bool false,.int .i64 0]) ?_ 0 _ rfl;exact τ.out) Tryd.underlying34 rfl kr) rfl ?_
     refine⟨.slice none 0 0,.slice none 0 0,by first|rfl|(simp[Qo,Qn] <;> rfl)|(simp[*,Qo,Qn] <;> rfl),Kd.Qt (Kd.R_V (Kd.Z1 _ _ _ w.heap.size _)) (fun k_ hk=>by first|exact⟨(.inr (hk.1)),hk.2⟩|exact(.inr (hk))),Kd.Qt (Kd.R_V (Kd.Z1 _ _ _ w.heap.size _)) (fun k_ hk=>by first|exact⟨(.inr (hk.1)),hk.2⟩|exact(.inr (hk))),bel⟩
    ·replace e6:=Bool.eq_false_iff.mpr e6
     subst e6
     have H1:((newelref12_Code.f en ζ κ μ η).bind fun X=>(if a2<0 then (newelref12_Write.j1 en a2 X 0 J B aj am an ai av br) else (newelref12_Write.j1 en a2 X a2 J B aj am an ai av br)))=some (r1,r2,r3,r4):=by rw[if_neg (show ¬ (false=true) by decide)] at H;exact H
     clear H
     have H:=H1
     clear H1
     replace H:=Option.bind_eq_some_iff.mp H
     obtain⟨X,h4,H⟩:=H
     replace H:(if a2<0 then (newelref12_Write.j1 en a2 X 0 J B aj am an ai av br) else (newelref12_Write.j1 en a2 X a2 J B aj am an ai av br))=some (r1,r2,r3,r4):=H
     have j7:=Aside0.mk h4
     clear h4
     have k3:=Aside0.mk H
     clear H
     have gl:=ax.out
     have gm:=aw.out
     have me:=ar.out
     have mf:=au.out
     have kf:=b1.out
     have kg:=b2.out
     obtain⟨i6,i7,i9,l7,ia,ib,ic,l8⟩:=qD4 ω.out
     go_upto_if 34 with(first|((with_reducible refine Qv (f:=25) rfl ?_);refine Ze (some 31) rfl rfl Tryd.func25 kr rfl #[.agg #[.int .i64 ζ,.int .i64 κ,.int .i64 μ,.slice a6 η.length a7]] rfl qM ?_;(with_reducible refine(newelref12_Code.calls en ζ κ μ _ _ η X _ ?side1 ?side2 j7.out).mono ?_);(case side1=>exact(Kd.Zb d5.out HB.out));(case side2=>exact d6.out);rintro e np ⟨jq,rfl,θ,hb⟩;refine⟨_,rfl, ?_⟩;have kl:=Aside0.mk (Kd.Zd (Kd.Kq (M:=fun k_=>(w.heap.size≤k_)) θ (Qj HB.out) (fun k_ h_=>h_)) (Qj HB.out));replace HO_366000:=Aside0.mk (Kd.Ya HO_366000.out (Kd.Q5 θ) hb);replace HO_366001:=Aside0.mk (Kd.Ya HO_366001.out (Kd.Q5 θ) hb);replace HO_378003:=Aside0.mk (Kd.Ya HO_378003.out (Kd.Q5 θ) hb);replace σ:=sBk σ hb;replace ω :=sBk ω hb;replace τ :=sBk τ hb;replace a1:=sBk a1 hb;replace HB:=sHb hb;(try clear hb);(try clear az);(try clear hk);(try clear hi);(try clear θ)))
     (try simp only[Act.put,qS])
     go_cut [10] (fun jt wc=>∃ (kq:Nat) (a3:Int),jt = .int .i64 a3∧Aside0 (newelref12_Write.j1 kq a2 X a3 J B aj am an ai av br=some (r1,r2,r3,r4))∧Aside0 (kq≤en)∧Aside0 (Kd.R (Kd.int .u8) 5 wc w.heap.size (fun k_=>(w.heap.size≤k_)) jq X)∧Aside0 (Kd.V (Kd.int .u8) 5 wc w.heap.size (fun k_=>((ae k_∨af k_)∨w.heap.size≤k_)∧some k_≠(jq:Value).ownBlock∧k_≠ag∧k_≠ah∧k_ ≠ χ ∧ k_ ≠ ψ) (.slice γ J.length δ) J)∧Aside0 (Kd.V (Kd.int .u8) 5 wc w.heap.size (fun k_=>((ae k_∨af k_)∨w.heap.size≤k_)∧some k_≠(jq:Value).ownBlock∧k_≠ag∧k_≠ah∧k_ ≠ χ ∧ k_ ≠ ψ) (.slice Y B.length Z) B)∧Aside0 (Kd.V (Kd.int .u8) 5 wc w.heap.size (fun k_=>((ae k_∨af k_)∨w.heap.size≤k_)∧some k_≠(jq:Value).ownBlock∧k_≠ag∧k_≠ah∧k_ ≠ χ ∧ k_ ≠ ψ) (.slice a8 ai.length a9) ai)∧Aside0 (wc.heap[ag]?=some (.cells #[(.slice γ J.length δ),(.slice Y B.length Z)] 24 (0,0)))∧Aside0 (wc.heap[ah]?=some (.cells #[.int .i64 ζ,.int .i64 κ,.int .i64 μ,(.slice a6 η.length a7)] 26 (0,0)))∧Aside0 (wc.heap[χ]?=some (.cells #[(.slice none 0 0),(.slice none 0 0),.bool false,.int .i64 0] 34 (0,0)))∧Aside0 (wc.heap[ψ]?=some (.cells #[.int .i64 aj,.int .i64 am,.int .i64 an,(.slice a8 ai.length a9),.bool av,.bool br] 39 (0,0)))∧Aside0 (Below w.heap.size w wc))
     case first=>
      have H:=k3.out
      clear k3
      by_cases iu:a2<0
      ·rw[if_pos iu] at H
       have c48b0:decide (a2<0)=true:=decide_eq_true iu
       clear iu
       (first|rw[c48b0]|(simp only[Zu,Z4];rw[c48b0])|skip)
       have H':=Aside0.mk H
       clear H
       go_wp2
       go_meet
       case rel=>exact⟨_,(0),rfl,H',⟨by have:=h0.out;omega⟩,⟨by(with_reducible repeat first|apply Kd.Qi|apply Kd.Qh|apply Kd.Ql);exact Kd.Qu kl.out (fun _ hk=>hk.1)⟩,⟨by(with_reducible repeat first|apply Kd.Qx|apply Kd.Qw|apply Kd.Q0);exact Kd.Qt HO_366000.out (fun _ hk=>⟨hk.1.1,⟨hk.2,⟨hk.1.2.1,⟨hk.1.2.2.1,⟨hk.1.2.2.2.1,hk.1.2.2.2.2⟩⟩⟩⟩⟩)⟩,⟨by(with_reducible repeat first|apply Kd.Qx|apply Kd.Qw|apply Kd.Q0);exact Kd.Qt HO_366001.out (fun _ hk=>⟨hk.1.1,⟨hk.2,⟨hk.1.2.1,⟨hk.1.2.2.1,⟨hk.1.2.2.2.1,hk.1.2.2.2.2⟩⟩⟩⟩⟩)⟩,⟨by(with_reducible repeat first|apply Kd.Qx|apply Kd.Qw|apply Kd.Q0);exact Kd.Qt HO_378003.out (fun _ hk=>⟨hk.1.1,⟨hk.2,⟨hk.1.2.1,⟨hk.1.2.2.1,⟨hk.1.2.2.2.1,hk.1.2.2.2.2⟩⟩⟩⟩⟩)⟩,σ,ω,τ,a1,HB⟩
      ·rw[if_neg iu] at H
       have c48b0:decide (a2<0)=false:=decide_eq_false iu
       clear iu
       (first|rw[c48b0]|(simp only[Zu,Z4];rw[c48b0])|skip)
       have H':=Aside0.mk H
       clear H
       go_wp2
       go_meet
       case rel=>exact⟨_,(a2),qR,H',⟨by have:=h0.out;omega⟩,⟨by(with_reducible repeat first|apply Kd.Qi|apply Kd.Qh|apply Kd.Ql);exact Kd.Qu kl.out (fun _ hk=>hk.1)⟩,⟨by(with_reducible repeat first|apply Kd.Qx|apply Kd.Qw|apply Kd.Q0);exact Kd.Qt HO_366000.out (fun _ hk=>⟨hk.1.1,⟨hk.2,⟨hk.1.2.1,⟨hk.1.2.2.1,⟨hk.1.2.2.2.1,hk.1.2.2.2.2⟩⟩⟩⟩⟩)⟩,⟨by(with_reducible repeat first|apply Kd.Qx|apply Kd.Qw|apply Kd.Q0);exact Kd.Qt HO_366001.out (fun _ hk=>⟨hk.1.1,⟨hk.2,⟨hk.1.2.1,⟨hk.1.2.2.1,⟨hk.1.2.2.2.1,hk.1.2.2.2.2⟩⟩⟩⟩⟩)⟩,⟨by(with_reducible repeat first|apply Kd.Qx|apply Kd.Qw|apply Kd.Q0);exact Kd.Qt HO_378003.out (fun _ hk=>⟨hk.1.1,⟨hk.2,⟨hk.1.2.1,⟨hk.1.2.2.1,⟨hk.1.2.2.2.1,hk.1.2.2.2.2⟩⟩⟩⟩⟩)⟩,⟨bka σ⟩,⟨bka ω⟩,⟨bka τ⟩,⟨bka a1⟩,⟨bel⟩⟩
     case rest=>
      clear k3
      try clear c1
      try clear c2
      try clear p2
      try clear c3
      try clear c4
      try clear c5
      try clear bf
      try clear bl
      try clear cq
      try clear e4
      try clear bp
      try clear er
      try clear cf
      try clear al
      try clear cb
      try clear dn
      try clear eu
      try clear dm
      try clear dq
      try clear eh
      try clear ev
      try clear ew
      try clear e6
      try clear ep
      try clear em
      try clear nr
      try clear vt
      try clear ie
      try clear jc
      try clear iu
      try clear c48b0
      try clear b7
      try clear b9
      try clear ba
      try clear bc
      try clear bk
      try clear bm
      try clear d1
      try clear d4
      try clear d8
      try clear d9
      try clear eb
      try clear ik
      try clear ce
      try clear ch
      try clear ci
      try clear ck
      try clear im
      try clear io
      try clear cw
      try clear cx
      try clear cy
      try clear dv
      try clear fb
      try clear fc
      try clear g2
      try clear g3
      try clear ir
      try clear iw
      try clear ei
      try clear ej
      try clear iz
      try clear j4
      try clear i6
      try clear i7
      try clear i9
      try clear l7
      try clear bg
      try clear bh
      try clear bi
      try clear bj
      try clear bn
      try clear bo
      try clear da
      try clear di
      try clear dj
      try clear dk
      try clear ed
      try clear il
      try clear cm
      try clear cn
      try clear co
      try clear cp
      try clear ip
      try clear iq
      try clear d0
      try clear d2
      try clear d3
      try clear dy
      try clear g4
      try clear g5
      try clear g6
      try clear g7
      try clear ix
      try clear iy
      try clear ek
      try clear el
      try clear j5
      try clear j6
      try clear ia
      try clear ib
      try clear ic
      try clear l8
      try clear p2
      obtain⟨kq,a3,rfl,HA,xy,HO_9,HO_366000,HO_366001,HO_378003,σ,ω,τ,a1,HB⟩:=hcut
      cases kq with
      |zero=>exact absurd HA.out (by simp[newelref12_Write.j1])
      |succ xz=>
       have H:=HA.out
       clear HA
       simp only[newelref12_Write.j1] at H
       by_cases jd:a3>(X.length:Int)
       ·rw[if_pos jd] at H
        have c49b0:decide ((X.length:Int)<a3)=true:=decide_eq_true jd
        clear jd
        by_cases km:br=true
        ·subst km
         have H1:(if av=true then (if 0≤(X.length:Int) then (if (X.length:Int)≤(X.length:Int) then (some ((X.take ((X.length:Int):Int).toNat),B,decide (a2≥(X.length:Int)),0)) else (none)) else (none)) else (if 0≤(X.length:Int) then (if (X.length:Int)≤(X.length:Int) then (some (J,(X.take ((X.length:Int):Int).toNat),decide (a2≥(X.length:Int)),0)) else (none)) else (none)))=some (r1,r2,r3,r4):=by rw[if_pos rfl] at H;exact H
         clear H
         have H:=H1
         clear H1
         by_cases e5:av=true
         ·subst e5
          have H1:(if 0≤(X.length:Int) then (if (X.length:Int)≤(X.length:Int) then (some ((X.take ((X.length:Int):Int).toNat),B,decide (a2≥(X.length:Int)),0)) else (none)) else (none))=some (r1,r2,r3,r4):=by rw[if_pos rfl] at H;exact H
          clear H
          have H:=H1
          clear H1
          by_cases dx:0≤(X.length:Int)
          ·rw[if_pos dx] at H
           have c52b0:=eq_true dx
           have c52b1:decide (0≤(X.length:Int))=true:=decide_eq_true dx
           clear dx
           by_cases jv:(X.length:Int)≤(X.length:Int)
           ·rw[if_pos jv] at H
            have c53b0:=eq_true jv
            have c53b1:decide ((X.length:Int)≤(X.length:Int))=true:=decide_eq_true jv
            clear jv
            obtain⟨g9,ef⟩:∃ y_:List Int,y_=(X.take ((X.length:Int):Int).toNat):=⟨_,rfl⟩
            replace H:(some (g9,B,decide (a2≥(X.length:Int)),0))=some (r1,r2,r3,r4):=by first|(rw[ef];with_reducible exact H)|(have φ :=(Option.bind_some _ _).symm.trans H;rw[ef];with_reducible exact φ)|(have φ :=(Option.bind_some _ _).symm.trans H;with_reducible exact φ)|with_reducible exact H|(rw[ef];exact H)|exact H
            have kn:=Aside0.mk ef
            clear ef
            simp only[Option.some.injEq,Prod.mk.injEq] at H
            obtain⟨rfl,rfl,rfl,rfl⟩:=H
            obtain⟨b3,b4,ka⟩:=Kd.Zf HO_9.out
            subst ka
            have kh:=aw.out
            have ki:=ax.out
            have mg:=ay.out
            have mh:=b0.out
            have lx:=b8.out
            have ly:=bb.out
            obtain⟨ig,ih,ii,ij⟩:=qD2 σ.out
            go_wp2_with (first|((with_reducible refine Qz (N:=11) rfl ?_);refine qE 11 #[.slice none 0 0,.slice none 0 0,.bool false,.int .i64 0] 34 ?_;intro ι hg jw hbox hb;have ao:=Aside0.mk hbox;have ko:=sGe hg;have kp:=sGe hg;have bs:=sNl σ hg;have bu:=sNg σ hg;have bv:=sNl ω hg;have bw:=sNg ω hg;have bd:=sNl τ hg;have bz:=sNg τ hg;have ca:=sNl a1 hg;have cd:=sNg a1 hg;replace HO_9:=sRb HO_9 hb;replace HO_366000:=Aside0.mk (Kd.Q2 (Kd.Q9 (by(with_reducible repeat first|apply Kd.Qx|apply Kd.Qw|apply Kd.Q0);exact HO_366000.out) ι (Nat.le_of_eq hg.symm)) hb);replace HO_366001:=Aside0.mk (Kd.Q2 (Kd.Q9 (by(with_reducible repeat first|apply Kd.Qx|apply Kd.Qw|apply Kd.Q0);exact HO_366001.out) ι (Nat.le_of_eq hg.symm)) hb);replace HO_378003:=Aside0.mk (Kd.Q2 (Kd.Q9 (by(with_reducible repeat first|apply Kd.Qx|apply Kd.Qw|apply Kd.Q0);exact HO_378003.out) ι (Nat.le_of_eq hg.symm)) hb);replace σ:=sBk σ hb;replace ω :=sBk ω hb;replace τ :=sBk τ hb;replace a1:=sBk a1 hb;replace HB:=sHb hb;clear hb hbox hg;have n3:=bu.out;have na:=bs.out;have jg:=bw.out;have jh:=bv.out;have ji:=bz.out;have jj:=bd.out;have xi:=cd.out;have xj:=ca.out;obtain⟨he,hh,ua,ub,hj,hl,uc,ud⟩:=qD4 ao.out)|((with_reducible refine Xq (t:=34) (p:=11) rfl ?_);refine Xd (t:=34) (p:=11) (v:=?vo_w65) (w1:=((((jw.setCell ⟨ι,0,none⟩ (.slice γ J.length δ)).setCell ⟨ι,1,none⟩ (.slice Y B.length Z)).setCell ⟨ι,2,none⟩ (.bool (decide (a2≥(X.length:Int))))).setCell ⟨ι,3,none⟩ (.int .i64 0))) ?hg ?ho ?hn ?hr ?_;(case ho=>rfl);(case hg=>rfl);(case hn=>rfl);(case hr=>go_simp <;> rfl);intro g8 hw;have D:Aside0 (Kd.R (Kd.int .u8) 5 g8 w.heap.size (fun k_=>(w.heap.size≤k_)) (.slice b3 X.length b4) X):=⟨(by rw[hw];exact(by(with_reducible repeat first|apply Kd.Qi|apply Kd.Qh|apply Kd.Ql);exact Kd.Qu (Kd.Qm (Kd.Qm (Kd.Qm (Kd.Qm (Kd.Qy HO_9.out ao.out (by decide)) (fun _ hk=>hk.2) (.slice γ J.length δ)) (fun _ hk=>hk.2) (.slice Y B.length Z)) (fun _ hk=>hk.2) (.bool (decide (a2≥(X.length:Int))))) (fun _ hk=>hk.2) (.int .i64 0)) (fun _ hk=>hk.1)))⟩;have I:Aside0 (Kd.V (Kd.int .u8) 5 g8 w.heap.size (fun k_=>((ae k_∨af k_)∨w.heap.size≤k_)∧some k_≠(.slice b3 X.length b4:Value).ownBlock∧k_≠ag∧k_≠ah∧k_ ≠ χ ∧ k_ ≠ ψ ∧ k_ ≠ ι) (.slice γ J.length δ) J):=⟨(by rw[hw];exact(by(with_reducible repeat first|apply Kd.Qx|apply Kd.Qw|apply Kd.Q0);exact Kd.Qt (Kd.Qq (p:=⟨ι,3,none⟩) (Kd.Qq (p:=⟨ι,2,none⟩) (Kd.Qq (p:=⟨ι,1,none⟩) (Kd.Qq (p:=⟨ι,0,none⟩) (Kd.Qt HO_366000.out (fun k_ hk=>(⟨hk,hk.2⟩:_∧k_ ≠ ι))) (fun _ hk=>hk.2) (.slice γ J.length δ)) (fun _ hk=>hk.2) (.slice Y B.length Z)) (fun _ hk=>hk.2) (.bool (decide (a2≥(X.length:Int))))) (fun _ hk=>hk.2) (.int .i64 0)) (fun _ hk=>⟨hk.1.1.1,⟨hk.1.1.2.1,⟨hk.1.1.2.2.1,⟨hk.1.1.2.2.2.1,⟨hk.1.1.2.2.2.2.1,⟨hk.1.1.2.2.2.2.2,hk.1.2⟩⟩⟩⟩⟩⟩)))⟩;have O:Aside0 (Kd.V (Kd.int .u8) 5 g8 w.heap.size (fun k_=>((ae k_∨af k_)∨w.heap.size≤k_)∧some k_≠(.slice b3 X.length b4:Value).ownBlock∧k_≠ag∧k_≠ah∧k_ ≠ χ ∧ k_ ≠ ψ ∧ k_ ≠ ι) (.slice Y B.length Z) B):=⟨(by rw[hw];exact(by(with_reducible repeat first|apply Kd.Qx|apply Kd.Qw|apply Kd.Q0);exact Kd.Qt (Kd.Qq (p:=⟨ι,3,none⟩) (Kd.Qq (p:=⟨ι,2,none⟩) (Kd.Qq (p:=⟨ι,1,none⟩) (Kd.Qq (p:=⟨ι,0,none⟩) (Kd.Qt HO_366001.out (fun k_ hk=>(⟨hk,hk.2⟩:_∧k_ ≠ ι))) (fun _ hk=>hk.2) (.slice γ J.length δ)) (fun _ hk=>hk.2) (.slice Y B.length Z)) (fun _ hk=>hk.2) (.bool (decide (a2≥(X.length:Int))))) (fun _ hk=>hk.2) (.int .i64 0)) (fun _ hk=>⟨hk.1.1.1,⟨hk.1.1.2.1,⟨hk.1.1.2.2.1,⟨hk.1.1.2.2.2.1,⟨hk.1.1.2.2.2.2.1,⟨hk.1.1.2.2.2.2.2,hk.1.2⟩⟩⟩⟩⟩⟩)))⟩;have U:Aside0 (Kd.V (Kd.int .u8) 5 g8 w.heap.size (fun k_=>((ae k_∨af k_)∨w.heap.size≤k_)∧some k_≠(.slice b3 X.length b4:Value).ownBlock∧k_≠ag∧k_≠ah∧k_ ≠ χ ∧ k_ ≠ ψ ∧ k_ ≠ ι) (.slice a8 ai.length a9) ai):=⟨(by rw[hw];exact(by(with_reducible repeat first|apply Kd.Qx|apply Kd.Qw|apply Kd.Q0);exact Kd.Qt (Kd.Qq (p:=⟨ι,3,none⟩) (Kd.Qq (p:=⟨ι,2,none⟩) (Kd.Qq (p:=⟨ι,1,none⟩) (Kd.Qq (p:=⟨ι,0,none⟩) (Kd.Qt HO_378003.out (fun k_ hk=>(⟨hk,hk.2⟩:_∧k_ ≠ ι))) (fun _ hk=>hk.2) (.slice γ J.length δ)) (fun _ hk=>hk.2) (.slice Y B.length Z)) (fun _ hk=>hk.2) (.bool (decide (a2≥(X.length:Int))))) (fun _ hk=>hk.2) (.int .i64 0)) (fun _ hk=>⟨hk.1.1.1,⟨hk.1.1.2.1,⟨hk.1.1.2.2.1,⟨hk.1.1.2.2.2.1,⟨hk.1.1.2.2.2.2.1,⟨hk.1.1.2.2.2.2.2,hk.1.2⟩⟩⟩⟩⟩⟩)))⟩;have ε :Aside0 (g8.heap[ag]?=some (.cells #[.slice γ J.length δ,.slice Y B.length Z] 24 (0,0))):=⟨(by rw[hw];exact(bka σ))⟩;have ν :Aside0 (g8.heap[ah]?=some (.cells #[.int .i64 ζ,.int .i64 κ,.int .i64 μ,.slice a6 η.length a7] 26 (0,0))):=⟨(by rw[hw];exact(bka ω))⟩;have ρ:Aside0 (g8.heap[χ]?=some (.cells #[.slice none 0 0,.slice none 0 0,.bool false,.int .i64 0] 34 (0,0))):=⟨(by rw[hw];exact(bka τ))⟩;have a4:Aside0 (g8.heap[ψ]?=some (.cells #[.int .i64 aj,.int .i64 am,.int .i64 an,.slice a8 ai.length a9,.bool true,.bool true] 39 (0,0))):=⟨(by rw[hw];exact(bka a1))⟩;have a5:Aside0 (g8.heap[ι]?=some (.cells #[.slice γ J.length δ,.slice Y B.length Z,.bool (decide (a2≥(X.length:Int))),.int .i64 0] 34 (0,0))):=⟨(by rw[hw];exact(by(with_reducible repeat first|apply Qb|apply Qd|apply Qc);refine Qk (cs:=#[.slice γ J.length δ,.slice Y B.length Z,.bool (decide (a2≥(X.length:Int))),.int .i64 0]) ?_ 3 _ rfl;(with_reducible repeat first|apply Qb|apply Qd|apply Qc);refine Qk (cs:=#[.slice γ J.length δ,.slice Y B.length Z,.bool false,.int .i64 0]) ?_ 2 _ rfl;(with_reducible repeat first|apply Qb|apply Qd|apply Qc);refine Qk (cs:=#[.slice γ J.length δ,.slice none 0 0,.bool false,.int .i64 0]) ?_ 1 _ rfl;(with_reducible repeat first|apply Qb|apply Qd|apply Qc);refine Qk (cs:=#[.slice none 0 0,.slice none 0 0,.bool false,.int .i64 0]) ?_ 0 _ rfl;(with_reducible repeat first|apply Qb|apply Qd|apply Qc);exact ao.out))⟩;have ab:Aside0 (Below w.heap.size w g8):=⟨(by rw[hw];exact bel)⟩;clear hw;clear HO_9;clear HO_366000;clear HO_366001;clear HO_378003;clear σ;clear ω;clear τ;clear a1;clear ao;clear HB;have HO_9:=D;have HO_366000:=I;have HO_366001:=O;have HO_378003:=U;have σ:= ε;have ω := ν;have τ :=ρ;have a1:=a4;have ao:=a5;have HB:=ab;clear D I O U ε ν ρ a4 a5 ab;have xk:=b2.out;have xl:=b1.out;have ql:=b6.out;have qm:=b5.out;obtain⟨ue,uf,ug,uh,ui,uj,uk,ul,um,un,uo,uq⟩:=qD6 a1.out;have m3:((X.length:Int):Int)≤((X.length:Int):Int):=of_decide_eq_true (by assumption);obtain⟨y0,ks,_,mw,_⟩:=info_parts Zx;have m4:=Yr (P:=Tryd.prog) 22 5 .i64 Tryd.underlying22 ks b3 X.length b4 (X.length:Int) (of_decide_eq_true (by assumption)) m3 (Kd.Q4 HO_9.out).2.1;have jr:=Kd.Jj (m:=((X.length:Int):Int).toNat) HO_9.out (by omega);have m5:g9.length=((X.length:Int):Int).toNat:=(by rw[kn.out,List.length_take];omega);rw[← kn.out] at jr;rw[← m5] at jr m4;clear m5 ks mw HO_9;have my:=Aside0.mk jr;clear jr;replace m3:=eq_true m3;obtain⟨us,ut,uu,uv,uw,ux,uy,uz⟩:=qD4 ao.out;have qn:=au.out;have qo:=ar.out;obtain⟨hu,hx,hy,i0,i1,i2,i3,i4⟩:=qD4 τ.out))
            refine bodyPost_ret (results_cell_row rfl _ _ χ 34 #[.slice b3 g9.length b4,.slice Y B.length Z,.bool (decide (a2≥(X.length:Int))),.int .i64 0] (0,0) _ rfl (by(with_reducible repeat first|apply Qb|apply Qd|apply Qc);refine Qk (cs:=#[.slice b3 g9.length b4,.slice Y B.length Z,.bool (decide (a2≥(X.length:Int))),.int .i64 0]) ?_ 3 _ rfl;(with_reducible repeat first|apply Qb|apply Qd|apply Qc);refine Qk (cs:=#[.slice b3 g9.length b4,.slice Y B.length Z,.bool false,.int .i64 0]) ?_ 2 _ rfl;(with_reducible repeat first|apply Qb|apply Qd|apply Qc);refine Qk (cs:=#[.slice b3 g9.length b4,.slice none 0 0,.bool false,.int .i64 0]) ?_ 1 _ rfl;(with_reducible repeat first|apply Qb|apply Qd|apply Qc);refine Qk (cs:=#[.slice none 0 0,.slice none 0 0,.bool false,.int .i64 0]) ?_ 0 _ rfl;(with_reducible repeat first|apply Qb|apply Qd|apply Qc);refine Qs ?_ bd.out _;(with_reducible repeat first|apply Qb|apply Qd|apply Qc);exact τ.out) Tryd.underlying34 rfl kr) rfl ?_
            exact⟨_,_,by first|rfl|(simp[Qo,Qn] <;> rfl)|(simp[*,Qo,Qn] <;> rfl),Kd.Qt (Kd.R_V (by(with_reducible repeat first|apply Kd.Qi|apply Kd.Qh|apply Kd.Ql);exact Kd.Qu (Kd.Qm (Kd.Qm (Kd.Qm (Kd.Qm (Kd.Qm (Kd.Qy (Kd.Qy my.out ao.out (by decide)) τ.out (by decide)) (fun _ hk=>hk.1.2) _) (fun _ hk=>hk.2) _) (fun _ hk=>hk.2) (.slice Y B.length Z)) (fun _ hk=>hk.2) (.bool (decide (a2≥(X.length:Int))))) (fun _ hk=>hk.2) (.int .i64 0)) (fun _ hk=>hk.1.1))) (fun k_ hk=>by first|exact⟨(.inr (hk.1)),hk.2⟩|exact(.inr (hk))),by(with_reducible repeat first|apply Kd.Qx|apply Kd.Qw|apply Kd.Q0);exact Kd.Qt (Kd.Qq (p:=⟨χ,3,none⟩) (Kd.Qq (p:=⟨χ,2,none⟩) (Kd.Qq (p:=⟨χ,1,none⟩) (Kd.Qq (p:=⟨χ,0,none⟩) (Kd.Qq (p:=⟨ι,0,none⟩) (Kd.Qt (Kd.Qt HO_366001.out (fun k_ hk=>(⟨hk,hk.2.2.2.2.2.2⟩:_∧k_ ≠ ι))) (fun k_ hk=>(⟨hk,hk.1.2.2.2.2.1⟩:_∧k_ ≠ χ))) (fun _ hk=>hk.1.2) _) (fun _ hk=>hk.2) _) (fun _ hk=>hk.2) (.slice Y B.length Z)) (fun _ hk=>hk.2) (.bool (decide (a2≥(X.length:Int))))) (fun _ hk=>hk.2) (.int .i64 0)) (fun _ hk=>hk.1.1.1),bel⟩
           ·rw[if_neg jv] at H
            exact absurd H (by simp)
          ·rw[if_neg dx] at H
           exact absurd H (by simp)
         ·replace e5:=Bool.eq_false_iff.mpr e5
          subst e5
          have H1:(if 0≤(X.length:Int) then (if (X.length:Int)≤(X.length:Int) then (some (J,(X.take ((X.length:Int):Int).toNat),decide (a2≥(X.length:Int)),0)) else (none)) else (none))=some (r1,r2,r3,r4):=by rw[if_neg (show ¬ (false=true) by decide)] at H;exact H
          clear H
          have H:=H1
          clear H1
          by_cases jx:0≤(X.length:Int)
          ·rw[if_pos jx] at H
           have c73b0:=eq_true jx
           have c73b1:decide (0≤(X.length:Int))=true:=decide_eq_true jx
           clear jx
           by_cases et:(X.length:Int)≤(X.length:Int)
           ·rw[if_pos et] at H
            have c74b0:=eq_true et
            have c74b1:decide ((X.length:Int)≤(X.length:Int))=true:=decide_eq_true et
            clear et
            obtain⟨h5,eg⟩:∃ y_:List Int,y_=(X.take ((X.length:Int):Int).toNat):=⟨_,rfl⟩
            replace H:(some (J,h5,decide (a2≥(X.length:Int)),0))=some (r1,r2,r3,r4):=by first|(rw[eg];with_reducible exact H)|(have φ :=(Option.bind_some _ _).symm.trans H;rw[eg];with_reducible exact φ)|(have φ :=(Option.bind_some _ _).symm.trans H;with_reducible exact φ)|with_reducible exact H|(rw[eg];exact H)|exact H
            have kt:=Aside0.mk eg
            clear eg
            simp only[Option.some.injEq,Prod.mk.injEq] at H
            obtain⟨rfl,rfl,rfl,rfl⟩:=H
            obtain⟨e7,e8,nq⟩:=Kd.Zf HO_9.out
            subst nq
            have xm:=aw.out
            have xn:=ax.out
            have xo:=ay.out
            have xp:=b0.out
            have mz:=b8.out
            have n0:=bb.out
            obtain⟨l9,lb,lc,lf⟩:=qD2 σ.out
            go_wp2_with (first|((with_reducible refine Qz (N:=11) rfl ?_);refine qE 11 #[.slice none 0 0,.slice none 0 0,.bool false,.int .i64 0] 34 ?_;intro ι hg vu hbox hb;have ao:=Aside0.mk hbox;have ko:=sGe hg;have kp:=sGe hg;have bs:=sNl σ hg;have bu:=sNg σ hg;have bv:=sNl ω hg;have bw:=sNg ω hg;have bd:=sNl τ hg;have bz:=sNg τ hg;have ca:=sNl a1 hg;have cd:=sNg a1 hg;replace HO_9:=sRb HO_9 hb;replace HO_366000:=Aside0.mk (Kd.Q2 (Kd.Q9 (by(with_reducible repeat first|apply Kd.Qx|apply Kd.Qw|apply Kd.Q0);exact HO_366000.out) ι (Nat.le_of_eq hg.symm)) hb);replace HO_366001:=Aside0.mk (Kd.Q2 (Kd.Q9 (by(with_reducible repeat first|apply Kd.Qx|apply Kd.Qw|apply Kd.Q0);exact HO_366001.out) ι (Nat.le_of_eq hg.symm)) hb);replace HO_378003:=Aside0.mk (Kd.Q2 (Kd.Q9 (by(with_reducible repeat first|apply Kd.Qx|apply Kd.Qw|apply Kd.Q0);exact HO_378003.out) ι (Nat.le_of_eq hg.symm)) hb);replace σ:=sBk σ hb;replace ω :=sBk ω hb;replace τ :=sBk τ hb;replace a1:=sBk a1 hb;replace HB:=sHb hb;clear hb hbox hg;have qp:=bu.out;have qq:=bs.out;have nw:=bw.out;have nx:=bv.out;have qs:=bz.out;have qt:=bd.out;have ny:=cd.out;have nz:=ca.out;obtain⟨v0,v2,v3,v4,v5,v6,v7,v8⟩:=qD4 ao.out)|((with_reducible refine Xq (t:=34) (p:=11) rfl ?_);refine Xd (t:=34) (p:=11) (v:=?vo_w86) (w1:=((((vu.setCell ⟨ι,0,none⟩ (.slice γ J.length δ)).setCell ⟨ι,1,none⟩ (.slice Y B.length Z)).setCell ⟨ι,2,none⟩ (.bool (decide (a2≥(X.length:Int))))).setCell ⟨ι,3,none⟩ (.int .i64 0))) ?hg ?ho ?hn ?hr ?_;(case ho=>rfl);(case hg=>rfl);(case hn=>rfl);(case hr=>go_simp <;> rfl);intro ec hw;have D:Aside0 (Kd.R (Kd.int .u8) 5 ec w.heap.size (fun k_=>(w.heap.size≤k_)) (.slice e7 X.length e8) X):=⟨(by rw[hw];exact(by(with_reducible repeat first|apply Kd.Qi|apply Kd.Qh|apply Kd.Ql);exact Kd.Qu (Kd.Qm (Kd.Qm (Kd.Qm (Kd.Qm (Kd.Qy HO_9.out ao.out (by decide)) (fun _ hk=>hk.2) (.slice γ J.length δ)) (fun _ hk=>hk.2) (.slice Y B.length Z)) (fun _ hk=>hk.2) (.bool (decide (a2≥(X.length:Int))))) (fun _ hk=>hk.2) (.int .i64 0)) (fun _ hk=>hk.1)))⟩;have I:Aside0 (Kd.V (Kd.int .u8) 5 ec w.heap.size (fun k_=>((ae k_∨af k_)∨w.heap.size≤k_)∧some k_≠(.slice e7 X.length e8:Value).ownBlock∧k_≠ag∧k_≠ah∧k_ ≠ χ ∧ k_ ≠ ψ ∧ k_ ≠ ι) (.slice γ J.length δ) J):=⟨(by rw[hw];exact(by(with_reducible repeat first|apply Kd.Qx|apply Kd.Qw|apply Kd.Q0);exact Kd.Qt (Kd.Qq (p:=⟨ι,3,none⟩) (Kd.Qq (p:=⟨ι,2,none⟩) (Kd.Qq (p:=⟨ι,1,none⟩) (Kd.Qq (p:=⟨ι,0,none⟩) (Kd.Qt HO_366000.out (fun k_ hk=>(⟨hk,hk.2⟩:_∧k_ ≠ ι))) (fun _ hk=>hk.2) (.slice γ J.length δ)) (fun _ hk=>hk.2) (.slice Y B.length Z)) (fun _ hk=>hk.2) (.bool (decide (a2≥(X.length:Int))))) (fun _ hk=>hk.2) (.int .i64 0)) (fun _ hk=>⟨hk.1.1.1,⟨hk.1.1.2.1,⟨hk.1.1.2.2.1,⟨hk.1.1.2.2.2.1,⟨hk.1.1.2.2.2.2.1,⟨hk.1.1.2.2.2.2.2,hk.1.2⟩⟩⟩⟩⟩⟩)))⟩;have O:Aside0 (Kd.V (Kd.int .u8) 5 ec w.heap.size (fun k_=>((ae k_∨af k_)∨w.heap.size≤k_)∧some k_≠(.slice e7 X.length e8:Value).ownBlock∧k_≠ag∧k_≠ah∧k_ ≠ χ ∧ k_ ≠ ψ ∧ k_ ≠ ι) (.slice Y B.length Z) B):=⟨(by rw[hw];exact(by(with_reducible repeat first|apply Kd.Qx|apply Kd.Qw|apply Kd.Q0);exact Kd.Qt (Kd.Qq (p:=⟨ι,3,none⟩) (Kd.Qq (p:=⟨ι,2,none⟩) (Kd.Qq (p:=⟨ι,1,none⟩) (Kd.Qq (p:=⟨ι,0,none⟩) (Kd.Qt HO_366001.out (fun k_ hk=>(⟨hk,hk.2⟩:_∧k_ ≠ ι))) (fun _ hk=>hk.2) (.slice γ J.length δ)) (fun _ hk=>hk.2) (.slice Y B.length Z)) (fun _ hk=>hk.2) (.bool (decide (a2≥(X.length:Int))))) (fun _ hk=>hk.2) (.int .i64 0)) (fun _ hk=>⟨hk.1.1.1,⟨hk.1.1.2.1,⟨hk.1.1.2.2.1,⟨hk.1.1.2.2.2.1,⟨hk.1.1.2.2.2.2.1,⟨hk.1.1.2.2.2.2.2,hk.1.2⟩⟩⟩⟩⟩⟩)))⟩;have U:Aside0 (Kd.V (Kd.int .u8) 5 ec w.heap.size (fun k_=>((ae k_∨af k_)∨w.heap.size≤k_)∧some k_≠(.slice e7 X.length e8:Value).ownBlock∧k_≠ag∧k_≠ah∧k_ ≠ χ ∧ k_ ≠ ψ ∧ k_ ≠ ι) (.slice a8 ai.length a9) ai):=⟨(by rw[hw];exact(by(with_reducible repeat first|apply Kd.Qx|apply Kd.Qw|apply Kd.Q0);exact Kd.Qt (Kd.Qq (p:=⟨ι,3,none⟩) (Kd.Qq (p:=⟨ι,2,none⟩) (Kd.Qq (p:=⟨ι,1,none⟩) (Kd.Qq (p:=⟨ι,0,none⟩) (Kd.Qt HO_378003.out (fun k_ hk=>(⟨hk,hk.2⟩:_∧k_ ≠ ι))) (fun _ hk=>hk.2) (.slice γ J.length δ)) (fun _ hk=>hk.2) (.slice Y B.length Z)) (fun _ hk=>hk.2) (.bool (decide (a2≥(X.length:Int))))) (fun _ hk=>hk.2) (.int .i64 0)) (fun _ hk=>⟨hk.1.1.1,⟨hk.1.1.2.1,⟨hk.1.1.2.2.1,⟨hk.1.1.2.2.2.1,⟨hk.1.1.2.2.2.2.1,⟨hk.1.1.2.2.2.2.2,hk.1.2⟩⟩⟩⟩⟩⟩)))⟩;have ε :Aside0 (ec.heap[ag]?=some (.cells #[.slice γ J.length δ,.slice Y B.length Z] 24 (0,0))):=⟨(by rw[hw];exact(bka σ))⟩;have ν :Aside0 (ec.heap[ah]?=some (.cells #[.int .i64 ζ,.int .i64 κ,.int .i64 μ,.slice a6 η.length a7] 26 (0,0))):=⟨(by rw[hw];exact(bka ω))⟩;have ρ:Aside0 (ec.heap[χ]?=some (.cells #[.slice none 0 0,.slice none 0 0,.bool false,.int .i64 0] 34 (0,0))):=⟨(by rw[hw];exact(bka τ))⟩;have a4:Aside0 (ec.heap[ψ]?=some (.cells #[.int .i64 aj,.int .i64 am,.int .i64 an,.slice a8 ai.length a9,.bool false,.bool true] 39 (0,0))):=⟨(by rw[hw];exact(bka a1))⟩;have a5:Aside0 (ec.heap[ι]?=some (.cells #[.slice γ J.length δ,.slice Y B.length Z,.bool (decide (a2≥(X.length:Int))),.int .i64 0] 34 (0,0))):=⟨(by rw[hw];exact(by(with_reducible repeat first|apply Qb|apply Qd|apply Qc);refine Qk (cs:=#[.slice γ J.length δ,.slice Y B.length Z,.bool (decide (a2≥(X.length:Int))),.int .i64 0]) ?_ 3 _ rfl;(with_reducible repeat first|apply Qb|apply Qd|apply Qc);refine Qk (cs:=#[.slice γ J.length δ,.slice Y B.length Z,.bool false,.int .i64 0]) ?_ 2 _ rfl;(with_reducible repeat first|apply Qb|apply Qd|apply Qc);refine Qk (cs:=#[.slice γ J.length δ,.slice none 0 0,.bool false,.int .i64 0]) ?_ 1 _ rfl;(with_reducible repeat first|apply Qb|apply Qd|apply Qc);refine Qk (cs:=#[.slice none 0 0,.slice none 0 0,.bool false,.int .i64 0]) ?_ 0 _ rfl;(with_reducible repeat first|apply Qb|apply Qd|apply Qc);exact ao.out))⟩;have ab:Aside0 (Below w.heap.size w ec):=⟨(by rw[hw];exact bel)⟩;clear hw;clear HO_9;clear HO_366000;clear HO_366001;clear HO_378003;clear σ;clear ω;clear τ;clear a1;clear ao;clear HB;have HO_9:=D;have HO_366000:=I;have HO_366001:=O;have HO_378003:=U;have σ:= ε;have ω := ν;have τ :=ρ;have a1:=a4;have ao:=a5;have HB:=ab;clear D I O U ε ν ρ a4 a5 ab;have qu:=b2.out;have qv:=b1.out;have qw:=b6.out;have qx:=b5.out;obtain⟨v9,va,vb,vc,vd,ve,vf,vg,vh,vi,vj,vk⟩:=qD6 a1.out;have m6:((X.length:Int):Int)≤((X.length:Int):Int):=of_decide_eq_true (by assumption);obtain⟨y1,ku,_,nb,_⟩:=info_parts Zx;have m7:=Yr (P:=Tryd.prog) 22 5 .i64 Tryd.underlying22 ku e7 X.length e8 (X.length:Int) (of_decide_eq_true (by assumption)) m6 (Kd.Q4 HO_9.out).2.1;have js:=Kd.Jj (m:=((X.length:Int):Int).toNat) HO_9.out (by omega);have m8:h5.length=((X.length:Int):Int).toNat:=(by rw[kt.out,List.length_take];omega);rw[← kt.out] at js;rw[← m8] at js m7;clear m8 ku nb HO_9;have nc:=Aside0.mk js;clear js;replace m6:=eq_true m6;obtain⟨fe,ff,fg,fh,fi,fj,fk,fl⟩:=qD4 ao.out;have qy:=au.out;have qz:=ar.out;obtain⟨vl,vm,vn,vo,vp,vq,vr,vs⟩:=qD4 τ.out))
            refine bodyPost_ret (results_cell_row rfl _ _ χ 34 #[.slice γ J.length δ,.slice e7 h5.length e8,.bool (decide (a2≥(X.length:Int))),.int .i64 0] (0,0) _ rfl (by(with_reducible repeat first|apply Qb|apply Qd|apply Qc);refine Qk (cs:=#[.slice γ J.length δ,.slice e7 h5.length e8,.bool (decide (a2≥(X.length:Int))),.int .i64 0]) ?_ 3 _ rfl;(with_reducible repeat first|apply Qb|apply Qd|apply Qc);refine Qk (cs:=#[.slice γ J.length δ,.slice e7 h5.length e8,.bool false,.int .i64 0]) ?_ 2 _ rfl;(with_reducible repeat first|apply Qb|apply Qd|apply Qc);refine Qk (cs:=#[.slice γ J.length δ,.slice none 0 0,.bool false,.int .i64 0]) ?_ 1 _ rfl;(with_reducible repeat first|apply Qb|apply Qd|apply Qc);refine Qk (cs:=#[.slice none 0 0,.slice none 0 0,.bool false,.int .i64 0]) ?_ 0 _ rfl;(with_reducible repeat first|apply Qb|apply Qd|apply Qc);refine Qs ?_ bd.out _;(with_reducible repeat first|apply Qb|apply Qd|apply Qc);exact τ.out) Tryd.underlying34 rfl kr) rfl ?_
            exact⟨_,_,by first|rfl|(simp[Qo,Qn] <;> rfl)|(simp[*,Qo,Qn] <;> rfl),by(with_reducible repeat first|apply Kd.Qx|apply Kd.Qw|apply Kd.Q0);exact Kd.Qt (Kd.Qq (p:=⟨χ,3,none⟩) (Kd.Qq (p:=⟨χ,2,none⟩) (Kd.Qq (p:=⟨χ,1,none⟩) (Kd.Qq (p:=⟨χ,0,none⟩) (Kd.Qq (p:=⟨ι,1,none⟩) (Kd.Qt (Kd.Qt HO_366000.out (fun k_ hk=>(⟨hk,hk.2.2.2.2.2.2⟩:_∧k_ ≠ ι))) (fun k_ hk=>(⟨hk,hk.1.2.2.2.2.1⟩:_∧k_ ≠ χ))) (fun _ hk=>hk.1.2) _) (fun _ hk=>hk.2) (.slice γ J.length δ)) (fun _ hk=>hk.2) _) (fun _ hk=>hk.2) (.bool (decide (a2≥(X.length:Int))))) (fun _ hk=>hk.2) (.int .i64 0)) (fun _ hk=>hk.1.1.1),Kd.Qt (Kd.R_V (by(with_reducible repeat first|apply Kd.Qi|apply Kd.Qh|apply Kd.Ql);exact Kd.Qu (Kd.Qm (Kd.Qm (Kd.Qm (Kd.Qm (Kd.Qm (Kd.Qy (Kd.Qy nc.out ao.out (by decide)) τ.out (by decide)) (fun _ hk=>hk.1.2) _) (fun _ hk=>hk.2) (.slice γ J.length δ)) (fun _ hk=>hk.2) _) (fun _ hk=>hk.2) (.bool (decide (a2≥(X.length:Int))))) (fun _ hk=>hk.2) (.int .i64 0)) (fun _ hk=>hk.1.1))) (fun k_ hk=>by first|exact⟨(.inr (hk.1)),hk.2⟩|exact(.inr (hk))),bel⟩
           ·rw[if_neg et] at H
            exact absurd H (by simp)
          ·rw[if_neg jx] at H
           exact absurd H (by simp)
        ·replace km:=Bool.eq_false_iff.mpr km
         subst km
         have H1:(if 0≤(X.length:Int) then (if (X.length:Int)≤(X.length:Int) then (some ((X.take ((X.length:Int):Int).toNat),B,decide (a2≥(X.length:Int)),0)) else (none)) else (none))=some (r1,r2,r3,r4):=by rw[if_neg (show ¬ (false=true) by decide)] at H;exact H
         clear H
         have H:=H1
         clear H1
         by_cases ln:0≤(X.length:Int)
         ·rw[if_pos ln] at H
          have c94b0:=eq_true ln
          have c94b1:decide (0≤(X.length:Int))=true:=decide_eq_true ln
          clear ln
          by_cases jy:(X.length:Int)≤(X.length:Int)
          ·rw[if_pos jy] at H
           have c95b0:=eq_true jy
           have c95b1:decide ((X.length:Int)≤(X.length:Int))=true:=decide_eq_true jy
           clear jy
           obtain⟨ge,ey⟩:∃ y_:List Int,y_=(X.take ((X.length:Int):Int).toNat):=⟨_,rfl⟩
           replace H:(some (ge,B,decide (a2≥(X.length:Int)),0))=some (r1,r2,r3,r4):=by first|(rw[ey];with_reducible exact H)|(have φ :=(Option.bind_some _ _).symm.trans H;rw[ey];with_reducible exact φ)|(have φ :=(Option.bind_some _ _).symm.trans H;with_reducible exact φ)|with_reducible exact H|(rw[ey];exact H)|exact H
           have kv:=Aside0.mk ey
           clear ey
           simp only[Option.some.injEq,Prod.mk.injEq] at H
           obtain⟨rfl,rfl,rfl,rfl⟩:=H
           obtain⟨e0,e3,ns⟩:=Kd.Zf HO_9.out
           subst ns
           have xq:=aw.out
           have xr:=ax.out
           have r0:=ay.out
           have r5:=b0.out
           have r6:=b8.out
           have r7:=bb.out
           obtain⟨nt,nu,nv,o0⟩:=qD2 σ.out
           go_wp2_with (first|((with_reducible refine Qz (N:=11) rfl ?_);refine qE 11 #[.slice none 0 0,.slice none 0 0,.bool false,.int .i64 0] 34 ?_;intro ι hg o1 hbox hb;have ao:=Aside0.mk hbox;have ko:=sGe hg;have kp:=sGe hg;have bs:=sNl σ hg;have bu:=sNg σ hg;have bv:=sNl ω hg;have bw:=sNg ω hg;have bd:=sNl τ hg;have bz:=sNg τ hg;have ca:=sNl a1 hg;have cd:=sNg a1 hg;replace HO_9:=sRb HO_9 hb;replace HO_366000:=Aside0.mk (Kd.Q2 (Kd.Q9 (by(with_reducible repeat first|apply Kd.Qx|apply Kd.Qw|apply Kd.Q0);exact HO_366000.out) ι (Nat.le_of_eq hg.symm)) hb);replace HO_366001:=Aside0.mk (Kd.Q2 (Kd.Q9 (by(with_reducible repeat first|apply Kd.Qx|apply Kd.Qw|apply Kd.Q0);exact HO_366001.out) ι (Nat.le_of_eq hg.symm)) hb);replace HO_378003:=Aside0.mk (Kd.Q2 (Kd.Q9 (by(with_reducible repeat first|apply Kd.Qx|apply Kd.Qw|apply Kd.Q0);exact HO_378003.out) ι (Nat.le_of_eq hg.symm)) hb);replace σ:=sBk σ hb;replace ω :=sBk ω hb;replace τ :=sBk τ hb;replace a1:=sBk a1 hb;replace HB:=sHb hb;clear hb hbox hg;have oq:=bu.out;have ot:=bs.out;have vv:=bw.out;have vw:=bv.out;have ou:=bz.out;have ov:=bd.out;have nh:=cd.out;have ni:=ca.out;obtain⟨o2,o3,o4,o5,o6,o7,o8,o9⟩:=qD4 ao.out)|((with_reducible refine Xq (t:=34) (p:=11) rfl ?_);refine Xd (t:=34) (p:=11) (v:=?vo_w107) (w1:=((((o1.setCell ⟨ι,0,none⟩ (.slice γ J.length δ)).setCell ⟨ι,1,none⟩ (.slice Y B.length Z)).setCell ⟨ι,2,none⟩ (.bool (decide (a2≥(X.length:Int))))).setCell ⟨ι,3,none⟩ (.int .i64 0))) ?hg ?ho ?hn ?hr ?_;(case ho=>rfl);(case hg=>rfl);(case hn=>rfl);(case hr=>go_simp <;> rfl);intro dp hw;have D:Aside0 (Kd.R (Kd.int .u8) 5 dp w.heap.size (fun k_=>(w.heap.size≤k_)) (.slice e0 X.length e3) X):=⟨(by rw[hw];exact(by(with_reducible repeat first|apply Kd.Qi|apply Kd.Qh|apply Kd.Ql);exact Kd.Qu (Kd.Qm (Kd.Qm (Kd.Qm (Kd.Qm (Kd.Qy HO_9.out ao.out (by decide)) (fun _ hk=>hk.2) (.slice γ J.length δ)) (fun _ hk=>hk.2) (.slice Y B.length Z)) (fun _ hk=>hk.2) (.bool (decide (a2≥(X.length:Int))))) (fun _ hk=>hk.2) (.int .i64 0)) (fun _ hk=>hk.1)))⟩;have I:Aside0 (Kd.V (Kd.int .u8) 5 dp w.heap.size (fun k_=>((ae k_∨af k_)∨w.heap.size≤k_)∧some k_≠(.slice e0 X.length e3:Value).ownBlock∧k_≠ag∧k_≠ah∧k_ ≠ χ ∧ k_ ≠ ψ ∧ k_ ≠ ι) (.slice γ J.length δ) J):=⟨(by rw[hw];exact(by(with_reducible repeat first|apply Kd.Qx|apply Kd.Qw|apply Kd.Q0);exact Kd.Qt (Kd.Qq (p:=⟨ι,3,none⟩) (Kd.Qq (p:=⟨ι,2,none⟩) (Kd.Qq (p:=⟨ι,1,none⟩) (Kd.Qq (p:=⟨ι,0,none⟩) (Kd.Qt HO_366000.out (fun k_ hk=>(⟨hk,hk.2⟩:_∧k_ ≠ ι))) (fun _ hk=>hk.2) (.slice γ J.length δ)) (fun _ hk=>hk.2) (.slice Y B.length Z)) (fun _ hk=>hk.2) (.bool (decide (a2≥(X.length:Int))))) (fun _ hk=>hk.2) (.int .i64 0)) (fun _ hk=>⟨hk.1.1.1,⟨hk.1.1.2.1,⟨hk.1.1.2.2.1,⟨hk.1.1.2.2.2.1,⟨hk.1.1.2.2.2.2.1,⟨hk.1.1.2.2.2.2.2,hk.1.2⟩⟩⟩⟩⟩⟩)))⟩;have O:Aside0 (Kd.V (Kd.int .u8) 5 dp w.heap.size (fun k_=>((ae k_∨af k_)∨w.heap.size≤k_)∧some k_≠(.slice e0 X.length e3:Value).ownBlock∧k_≠ag∧k_≠ah∧k_ ≠ χ ∧ k_ ≠ ψ ∧ k_ ≠ ι) (.slice Y B.length Z) B):=⟨(by rw[hw];exact(by(with_reducible repeat first|apply Kd.Qx|apply Kd.Qw|apply Kd.Q0);exact Kd.Qt (Kd.Qq (p:=⟨ι,3,none⟩) (Kd.Qq (p:=⟨ι,2,none⟩) (Kd.Qq (p:=⟨ι,1,none⟩) (Kd.Qq (p:=⟨ι,0,none⟩) (Kd.Qt HO_366001.out (fun k_ hk=>(⟨hk,hk.2⟩:_∧k_ ≠ ι))) (fun _ hk=>hk.2) (.slice γ J.length δ)) (fun _ hk=>hk.2) (.slice Y B.length Z)) (fun _ hk=>hk.2) (.bool (decide (a2≥(X.length:Int))))) (fun _ hk=>hk.2) (.int .i64 0)) (fun _ hk=>⟨hk.1.1.1,⟨hk.1.1.2.1,⟨hk.1.1.2.2.1,⟨hk.1.1.2.2.2.1,⟨hk.1.1.2.2.2.2.1,⟨hk.1.1.2.2.2.2.2,hk.1.2⟩⟩⟩⟩⟩⟩)))⟩;have U:Aside0 (Kd.V (Kd.int .u8) 5 dp w.heap.size (fun k_=>((ae k_∨af k_)∨w.heap.size≤k_)∧some k_≠(.slice e0 X.length e3:Value).ownBlock∧k_≠ag∧k_≠ah∧k_ ≠ χ ∧ k_ ≠ ψ ∧ k_ ≠ ι) (.slice a8 ai.length a9) ai):=⟨(by rw[hw];exact(by(with_reducible repeat first|apply Kd.Qx|apply Kd.Qw|apply Kd.Q0);exact Kd.Qt (Kd.Qq (p:=⟨ι,3,none⟩) (Kd.Qq (p:=⟨ι,2,none⟩) (Kd.Qq (p:=⟨ι,1,none⟩) (Kd.Qq (p:=⟨ι,0,none⟩) (Kd.Qt HO_378003.out (fun k_ hk=>(⟨hk,hk.2⟩:_∧k_ ≠ ι))) (fun _ hk=>hk.2) (.slice γ J.length δ)) (fun _ hk=>hk.2) (.slice Y B.length Z)) (fun _ hk=>hk.2) (.bool (decide (a2≥(X.length:Int))))) (fun _ hk=>hk.2) (.int .i64 0)) (fun _ hk=>⟨hk.1.1.1,⟨hk.1.1.2.1,⟨hk.1.1.2.2.1,⟨hk.1.1.2.2.2.1,⟨hk.1.1.2.2.2.2.1,⟨hk.1.1.2.2.2.2.2,hk.1.2⟩⟩⟩⟩⟩⟩)))⟩;have ε :Aside0 (dp.heap[ag]?=some (.cells #[.slice γ J.length δ,.slice Y B.length Z] 24 (0,0))):=⟨(by rw[hw];exact(bka σ))⟩;have ν :Aside0 (dp.heap[ah]?=some (.cells #[.int .i64 ζ,.int .i64 κ,.int .i64 μ,.slice a6 η.length a7] 26 (0,0))):=⟨(by rw[hw];exact(bka ω))⟩;have ρ:Aside0 (dp.heap[χ]?=some (.cells #[.slice none 0 0,.slice none 0 0,.bool false,.int .i64 0] 34 (0,0))):=⟨(by rw[hw];exact(bka τ))⟩;have a4:Aside0 (dp.heap[ψ]?=some (.cells #[.int .i64 aj,.int .i64 am,.int .i64 an,.slice a8 ai.length a9,.bool av,.bool false] 39 (0,0))):=⟨(by rw[hw];exact(bka a1))⟩;have a5:Aside0 (dp.heap[ι]?=some (.cells #[.slice γ J.length δ,.slice Y B.length Z,.bool (decide (a2≥(X.length:Int))),.int .i64 0] 34 (0,0))):=⟨(by rw[hw];exact(by(with_reducible repeat first|apply Qb|apply Qd|apply Qc);refine Qk (cs:=#[.slice γ J.length δ,.slice Y B.length Z,.bool (decide (a2≥(X.length:Int))),.int .i64 0]) ?_ 3 _ rfl;(with_reducible repeat first|apply Qb|apply Qd|apply Qc);refine Qk (cs:=#[.slice γ J.length δ,.slice Y B.length Z,.bool false,.int .i64 0]) ?_ 2 _ rfl;(with_reducible repeat first|apply Qb|apply Qd|apply Qc);refine Qk (cs:=#[.slice γ J.length δ,.slice none 0 0,.bool false,.int .i64 0]) ?_ 1 _ rfl;(with_reducible repeat first|apply Qb|apply Qd|apply Qc);refine Qk (cs:=#[.slice none 0 0,.slice none 0 0,.bool false,.int .i64 0]) ?_ 0 _ rfl;(with_reducible repeat first|apply Qb|apply Qd|apply Qc);exact ao.out))⟩;have ab:Aside0 (Below w.heap.size w dp):=⟨(by rw[hw];exact bel)⟩;clear hw;clear HO_9;clear HO_366000;clear HO_366001;clear HO_378003;clear σ;clear ω;clear τ;clear a1;clear ao;clear HB;have HO_9:=D;have HO_366000:=I;have HO_366001:=O;have HO_378003:=U;have σ:= ε;have ω := ν;have τ :=ρ;have a1:=a4;have ao:=a5;have HB:=ab;clear D I O U ε ν ρ a4 a5 ab;have vx:=b2.out;have vy:=b1.out;have ow:=b6.out;have ox:=b5.out;obtain⟨oa,ob,oc,od,oe,og,oh,oi,oj,ol,oo,pi⟩:=qD6 a1.out;have k4:((X.length:Int):Int)≤((X.length:Int):Int):=of_decide_eq_true (by assumption);obtain⟨xt,jz,_,m9,_⟩:=info_parts Zx;have lg:=Yr (P:=Tryd.prog) 22 5 .i64 Tryd.underlying22 jz e0 X.length e3 (X.length:Int) (of_decide_eq_true (by assumption)) k4 (Kd.Q4 HO_9.out).2.1;have gu:=Kd.Jj (m:=((X.length:Int):Int).toNat) HO_9.out (by omega);have kw:ge.length=((X.length:Int):Int).toNat:=(by rw[kv.out,List.length_take];omega);rw[← kv.out] at gu;rw[← kw] at gu lg;clear kw jz m9 HO_9;have nd:=Aside0.mk gu;clear gu;replace k4:=eq_true k4;obtain⟨fm,fn,fo,fp,fq,fr,fs,ft⟩:=qD4 ao.out;have lq:=au.out;have lr:=ar.out;obtain⟨fu,fv,fw,fx,fy,fz,g0,g1⟩:=qD4 τ.out))
           refine bodyPost_ret (results_cell_row rfl _ _ χ 34 #[.slice e0 ge.length e3,.slice Y B.length Z,.bool (decide (a2≥(X.length:Int))),.int .i64 0] (0,0) _ rfl (by(with_reducible repeat first|apply Qb|apply Qd|apply Qc);refine Qk (cs:=#[.slice e0 ge.length e3,.slice Y B.length Z,.bool (decide (a2≥(X.length:Int))),.int .i64 0]) ?_ 3 _ rfl;(with_reducible repeat first|apply Qb|apply Qd|apply Qc);refine Qk (cs:=#[.slice e0 ge.length e3,.slice Y B.length Z,.bool false,.int .i64 0]) ?_ 2 _ rfl;(with_reducible repeat first|apply Qb|apply Qd|apply Qc);refine Qk (cs:=#[.slice e0 ge.length e3,.slice none 0 0,.bool false,.int .i64 0]) ?_ 1 _ rfl;(with_reducible repeat first|apply Qb|apply Qd|apply Qc);refine Qk (cs:=#[.slice none 0 0,.slice none 0 0,.bool false,.int .i64 0]) ?_ 0 _ rfl;(with_reducible repeat first|apply Qb|apply Qd|apply Qc);refine Qs ?_ bd.out _;(with_reducible repeat first|apply Qb|apply Qd|apply Qc);exact τ.out) Tryd.underlying34 rfl kr) rfl ?_
           exact⟨_,_,by first|rfl|(simp[Qo,Qn] <;> rfl)|(simp[*,Qo,Qn] <;> rfl),Kd.Qt (Kd.R_V (by(with_reducible repeat first|apply Kd.Qi|apply Kd.Qh|apply Kd.Ql);exact Kd.Qu (Kd.Qm (Kd.Qm (Kd.Qm (Kd.Qm (Kd.Qm (Kd.Qy (Kd.Qy nd.out ao.out (by decide)) τ.out (by decide)) (fun _ hk=>hk.1.2) _) (fun _ hk=>hk.2) _) (fun _ hk=>hk.2) (.slice Y B.length Z)) (fun _ hk=>hk.2) (.bool (decide (a2≥(X.length:Int))))) (fun _ hk=>hk.2) (.int .i64 0)) (fun _ hk=>hk.1.1))) (fun k_ hk=>by first|exact⟨(.inr (hk.1)),hk.2⟩|exact(.inr (hk))),by(with_reducible repeat first|apply Kd.Qx|apply Kd.Qw|apply Kd.Q0);exact Kd.Qt (Kd.Qq (p:=⟨χ,3,none⟩) (Kd.Qq (p:=⟨χ,2,none⟩) (Kd.Qq (p:=⟨χ,1,none⟩) (Kd.Qq (p:=⟨χ,0,none⟩) (Kd.Qq (p:=⟨ι,0,none⟩) (Kd.Qt (Kd.Qt HO_366001.out (fun k_ hk=>(⟨hk,hk.2.2.2.2.2.2⟩:_∧k_ ≠ ι))) (fun k_ hk=>(⟨hk,hk.1.2.2.2.2.1⟩:_∧k_ ≠ χ))) (fun _ hk=>hk.1.2) _) (fun _ hk=>hk.2) _) (fun _ hk=>hk.2) (.slice Y B.length Z)) (fun _ hk=>hk.2) (.bool (decide (a2≥(X.length:Int))))) (fun _ hk=>hk.2) (.int .i64 0)) (fun _ hk=>hk.1.1.1),bel⟩
          ·rw[if_neg jy] at H
           exact absurd H (by simp)
         ·rw[if_neg ln] at H
          exact absurd H (by simp)
       ·rw[if_neg jd] at H
        have c49b0:decide ((X.length:Int)<a3)=false:=decide_eq_false jd
        clear jd
        by_cases eo:br=true
        ·subst eo
         have H1:(if av=true then (if 0≤a3 then (if a3≤(X.length:Int) then (some ((X.take (a3:Int).toNat),B,decide (a2≥(X.length:Int)),0)) else (none)) else (none)) else (if 0≤a3 then (if a3≤(X.length:Int) then (some (J,(X.take (a3:Int).toNat),decide (a2≥(X.length:Int)),0)) else (none)) else (none)))=some (r1,r2,r3,r4):=by rw[if_pos rfl] at H;exact H
         clear H
         have H:=H1
         clear H1
         by_cases dw:av=true
         ·subst dw
          have H1:(if 0≤a3 then (if a3≤(X.length:Int) then (some ((X.take (a3:Int).toNat),B,decide (a2≥(X.length:Int)),0)) else (none)) else (none))=some (r1,r2,r3,r4):=by rw[if_pos rfl] at H;exact H
          clear H
          have H:=H1
          clear H1
          by_cases h6:0≤a3
          ·rw[if_pos h6] at H
           have c117b0:=eq_true h6
           have c117b1:decide (0≤a3)=true:=decide_eq_true h6
           clear h6
           by_cases h7:a3≤(X.length:Int)
           ·rw[if_pos h7] at H
            have c118b0:=eq_true h7
            have c118b1:decide (a3≤(X.length:Int))=true:=decide_eq_true h7
            clear h7
            obtain⟨gf,ez⟩:∃ y_:List Int,y_=(X.take (a3:Int).toNat):=⟨_,rfl⟩
            replace H:(some (gf,B,decide (a2≥(X.length:Int)),0))=some (r1,r2,r3,r4):=by first|(rw[ez];with_reducible exact H)|(have φ :=(Option.bind_some _ _).symm.trans H;rw[ez];with_reducible exact φ)|(have φ :=(Option.bind_some _ _).symm.trans H;with_reducible exact φ)|with_reducible exact H|(rw[ez];exact H)|exact H
            have kx:=Aside0.mk ez
            clear ez
            simp only[Option.some.injEq,Prod.mk.injEq] at H
            obtain⟨rfl,rfl,rfl,rfl⟩:=H
            obtain⟨d7,dd,nf⟩:=Kd.Zf HO_9.out
            subst nf
            have vz:=aw.out
            have w3:=ax.out
            have ls:=ay.out
            have lu:=b0.out
            have w4:=b8.out
            have w5:=bb.out
            obtain⟨pj,pk,pm,pn⟩:=qD2 σ.out
            go_wp2_with (first|((with_reducible refine Qz (N:=11) rfl ?_);refine qE 11 #[.slice none 0 0,.slice none 0 0,.bool false,.int .i64 0] 34 ?_;intro ξ hg lz hbox hb;have ap:=Aside0.mk hbox;have ky:=sGe hg;have kz:=sGe hg;have cg:=sNl σ hg;have cj:=sNg σ hg;have cr:=sNl ω hg;have ct:=sNg ω hg;have be:=sNl τ hg;have cu:=sNg τ hg;have cv:=sNl a1 hg;have cz:=sNg a1 hg;replace HO_9:=sRb HO_9 hb;replace HO_366000:=Aside0.mk (Kd.Q2 (Kd.Q9 (by(with_reducible repeat first|apply Kd.Qx|apply Kd.Qw|apply Kd.Q0);exact HO_366000.out) ξ (Nat.le_of_eq hg.symm)) hb);replace HO_366001:=Aside0.mk (Kd.Q2 (Kd.Q9 (by(with_reducible repeat first|apply Kd.Qx|apply Kd.Qw|apply Kd.Q0);exact HO_366001.out) ξ (Nat.le_of_eq hg.symm)) hb);replace HO_378003:=Aside0.mk (Kd.Q2 (Kd.Q9 (by(with_reducible repeat first|apply Kd.Qx|apply Kd.Qw|apply Kd.Q0);exact HO_378003.out) ξ (Nat.le_of_eq hg.symm)) hb);replace σ:=sBk σ hb;replace ω :=sBk ω hb;replace τ :=sBk τ hb;replace a1:=sBk a1 hb;replace HB:=sHb hb;clear hb hbox hg;have oy:=cj.out;have oz:=cg.out;have p0:=ct.out;have p1:=cr.out;have p5:=cu.out;have p6:=be.out;have p7:=cz.out;have p8:=cv.out;obtain⟨j8,j9,po,pp,ja,jb,pq,pr⟩:=qD4 ap.out)|((with_reducible refine Xq (t:=34) (p:=11) rfl ?_);refine Xd (t:=34) (p:=11) (v:=?vo_w130) (w1:=((((lz.setCell ⟨ξ,0,none⟩ (.slice γ J.length δ)).setCell ⟨ξ,1,none⟩ (.slice Y B.length Z)).setCell ⟨ξ,2,none⟩ (.bool (decide (a2≥(X.length:Int))))).setCell ⟨ξ,3,none⟩ (.int .i64 0))) ?hg ?ho ?hn ?hr ?_;(case ho=>rfl);(case hg=>rfl);(case hn=>rfl);(case hr=>go_simp <;> rfl);intro dr hw;have D:Aside0 (Kd.R (Kd.int .u8) 5 dr w.heap.size (fun k_=>(w.heap.size≤k_)) (.slice d7 X.length dd) X):=⟨(by rw[hw];exact(by(with_reducible repeat first|apply Kd.Qi|apply Kd.Qh|apply Kd.Ql);exact Kd.Qu (Kd.Qm (Kd.Qm (Kd.Qm (Kd.Qm (Kd.Qy HO_9.out ap.out (by decide)) (fun _ hk=>hk.2) (.slice γ J.length δ)) (fun _ hk=>hk.2) (.slice Y B.length Z)) (fun _ hk=>hk.2) (.bool (decide (a2≥(X.length:Int))))) (fun _ hk=>hk.2) (.int .i64 0)) (fun _ hk=>hk.1)))⟩;have I:Aside0 (Kd.V (Kd.int .u8) 5 dr w.heap.size (fun k_=>((ae k_∨af k_)∨w.heap.size≤k_)∧some k_≠(.slice d7 X.length dd:Value).ownBlock∧k_≠ag∧k_≠ah∧k_ ≠ χ ∧ k_ ≠ ψ ∧ k_ ≠ ξ) (.slice γ J.length δ) J):=⟨(by rw[hw];exact(by(with_reducible repeat first|apply Kd.Qx|apply Kd.Qw|apply Kd.Q0);exact Kd.Qt (Kd.Qq (p:=⟨ξ,3,none⟩) (Kd.Qq (p:=⟨ξ,2,none⟩) (Kd.Qq (p:=⟨ξ,1,none⟩) (Kd.Qq (p:=⟨ξ,0,none⟩) (Kd.Qt HO_366000.out (fun k_ hk=>(⟨hk,hk.2⟩:_∧k_ ≠ ξ))) (fun _ hk=>hk.2) (.slice γ J.length δ)) (fun _ hk=>hk.2) (.slice Y B.length Z)) (fun _ hk=>hk.2) (.bool (decide (a2≥(X.length:Int))))) (fun _ hk=>hk.2) (.int .i64 0)) (fun _ hk=>⟨hk.1.1.1,⟨hk.1.1.2.1,⟨hk.1.1.2.2.1,⟨hk.1.1.2.2.2.1,⟨hk.1.1.2.2.2.2.1,⟨hk.1.1.2.2.2.2.2,hk.1.2⟩⟩⟩⟩⟩⟩)))⟩;have O:Aside0 (Kd.V (Kd.int .u8) 5 dr w.heap.size (fun k_=>((ae k_∨af k_)∨w.heap.size≤k_)∧some k_≠(.slice d7 X.length dd:Value).ownBlock∧k_≠ag∧k_≠ah∧k_ ≠ χ ∧ k_ ≠ ψ ∧ k_ ≠ ξ) (.slice Y B.length Z) B):=⟨(by rw[hw];exact(by(with_reducible repeat first|apply Kd.Qx|apply Kd.Qw|apply Kd.Q0);exact Kd.Qt (Kd.Qq (p:=⟨ξ,3,none⟩) (Kd.Qq (p:=⟨ξ,2,none⟩) (Kd.Qq (p:=⟨ξ,1,none⟩) (Kd.Qq (p:=⟨ξ,0,none⟩) (Kd.Qt HO_366001.out (fun k_ hk=>(⟨hk,hk.2⟩:_∧k_ ≠ ξ))) (fun _ hk=>hk.2) (.slice γ J.length δ)) (fun _ hk=>hk.2) (.slice Y B.length Z)) (fun _ hk=>hk.2) (.bool (decide (a2≥(X.length:Int))))) (fun _ hk=>hk.2) (.int .i64 0)) (fun _ hk=>⟨hk.1.1.1,⟨hk.1.1.2.1,⟨hk.1.1.2.2.1,⟨hk.1.1.2.2.2.1,⟨hk.1.1.2.2.2.2.1,⟨hk.1.1.2.2.2.2.2,hk.1.2⟩⟩⟩⟩⟩⟩)))⟩;have U:Aside0 (Kd.V (Kd.int .u8) 5 dr w.heap.size (fun k_=>((ae k_∨af k_)∨w.heap.size≤k_)∧some k_≠(.slice d7 X.length dd:Value).ownBlock∧k_≠ag∧k_≠ah∧k_ ≠ χ ∧ k_ ≠ ψ ∧ k_ ≠ ξ) (.slice a8 ai.length a9) ai):=⟨(by rw[hw];exact(by(with_reducible repeat first|apply Kd.Qx|apply Kd.Qw|apply Kd.Q0);exact Kd.Qt (Kd.Qq (p:=⟨ξ,3,none⟩) (Kd.Qq (p:=⟨ξ,2,none⟩) (Kd.Qq (p:=⟨ξ,1,none⟩) (Kd.Qq (p:=⟨ξ,0,none⟩) (Kd.Qt HO_378003.out (fun k_ hk=>(⟨hk,hk.2⟩:_∧k_ ≠ ξ))) (fun _ hk=>hk.2) (.slice γ J.length δ)) (fun _ hk=>hk.2) (.slice Y B.length Z)) (fun _ hk=>hk.2) (.bool (decide (a2≥(X.length:Int))))) (fun _ hk=>hk.2) (.int .i64 0)) (fun _ hk=>⟨hk.1.1.1,⟨hk.1.1.2.1,⟨hk.1.1.2.2.1,⟨hk.1.1.2.2.2.1,⟨hk.1.1.2.2.2.2.1,⟨hk.1.1.2.2.2.2.2,hk.1.2⟩⟩⟩⟩⟩⟩)))⟩;have ε :Aside0 (dr.heap[ag]?=some (.cells #[.slice γ J.length δ,.slice Y B.length Z] 24 (0,0))):=⟨(by rw[hw];exact(bka σ))⟩;have ν :Aside0 (dr.heap[ah]?=some (.cells #[.int .i64 ζ,.int .i64 κ,.int .i64 μ,.slice a6 η.length a7] 26 (0,0))):=⟨(by rw[hw];exact(bka ω))⟩;have ρ:Aside0 (dr.heap[χ]?=some (.cells #[.slice none 0 0,.slice none 0 0,.bool false,.int .i64 0] 34 (0,0))):=⟨(by rw[hw];exact(bka τ))⟩;have a4:Aside0 (dr.heap[ψ]?=some (.cells #[.int .i64 aj,.int .i64 am,.int .i64 an,.slice a8 ai.length a9,.bool true,.bool true] 39 (0,0))):=⟨(by rw[hw];exact(bka a1))⟩;have a5:Aside0 (dr.heap[ξ]?=some (.cells #[.slice γ J.length δ,.slice Y B.length Z,.bool (decide (a2≥(X.length:Int))),.int .i64 0] 34 (0,0))):=⟨(by rw[hw];exact(by(with_reducible repeat first|apply Qb|apply Qd|apply Qc);refine Qk (cs:=#[.slice γ J.length δ,.slice Y B.length Z,.bool (decide (a2≥(X.length:Int))),.int .i64 0]) ?_ 3 _ rfl;(with_reducible repeat first|apply Qb|apply Qd|apply Qc);refine Qk (cs:=#[.slice γ J.length δ,.slice Y B.length Z,.bool false,.int .i64 0]) ?_ 2 _ rfl;(with_reducible repeat first|apply Qb|apply Qd|apply Qc);refine Qk (cs:=#[.slice γ J.length δ,.slice none 0 0,.bool false,.int .i64 0]) ?_ 1 _ rfl;(with_reducible repeat first|apply Qb|apply Qd|apply Qc);refine Qk (cs:=#[.slice none 0 0,.slice none 0 0,.bool false,.int .i64 0]) ?_ 0 _ rfl;(with_reducible repeat first|apply Qb|apply Qd|apply Qc);exact ap.out))⟩;have ab:Aside0 (Below w.heap.size w dr):=⟨(by rw[hw];exact bel)⟩;clear hw;clear HO_9;clear HO_366000;clear HO_366001;clear HO_378003;clear σ;clear ω;clear τ;clear a1;clear ap;clear HB;have HO_9:=D;have HO_366000:=I;have HO_366001:=O;have HO_378003:=U;have σ:= ε;have ω := ν;have τ :=ρ;have a1:=a4;have ap:=a5;have HB:=ab;clear D I O U ε ν ρ a4 a5 ab;have nj:=b2.out;have nk:=b1.out;have p9:=b6.out;have pa:=b5.out;obtain⟨pu,pv,pw,px,py,pz,q0,q1,q2,q3,q4,q5⟩:=qD6 a1.out;have k5:(a3:Int)≤((X.length:Int):Int):=of_decide_eq_true (by assumption);obtain⟨xu,k0,_,ma,_⟩:=info_parts Zx;have lh:=Yr (P:=Tryd.prog) 22 5 .i64 Tryd.underlying22 k0 d7 X.length dd a3 (of_decide_eq_true (by assumption)) k5 (Kd.Q4 HO_9.out).2.1;have gv:=Kd.Jj (m:=(a3:Int).toNat) HO_9.out (by omega);have l2:gf.length=(a3:Int).toNat:=(by rw[kx.out,List.length_take];omega);rw[← kx.out] at gv;rw[← l2] at gv lh;clear l2 k0 ma HO_9;have ng:=Aside0.mk gv;clear gv;replace k5:=eq_true k5;obtain⟨q6,q7,q8,q9,qa,qb,qd,qe⟩:=qD4 ap.out;have w6:=au.out;have w7:=ar.out;obtain⟨qf,qg,qh,qi,qj,qk,r8,r9⟩:=qD4 τ.out))
            refine bodyPost_ret (results_cell_row rfl _ _ χ 34 #[.slice d7 gf.length dd,.slice Y B.length Z,.bool (decide (a2≥(X.length:Int))),.int .i64 0] (0,0) _ rfl (by(with_reducible repeat first|apply Qb|apply Qd|apply Qc);refine Qk (cs:=#[.slice d7 gf.length dd,.slice Y B.length Z,.bool (decide (a2≥(X.length:Int))),.int .i64 0]) ?_ 3 _ rfl;(with_reducible repeat first|apply Qb|apply Qd|apply Qc);refine Qk (cs:=#[.slice d7 gf.length dd,.slice Y B.length Z,.bool false,.int .i64 0]) ?_ 2 _ rfl;(with_reducible repeat first|apply Qb|apply Qd|apply Qc);refine Qk (cs:=#[.slice d7 gf.length dd,.slice none 0 0,.bool false,.int .i64 0]) ?_ 1 _ rfl;(with_reducible repeat first|apply Qb|apply Qd|apply Qc);refine Qk (cs:=#[.slice none 0 0,.slice none 0 0,.bool false,.int .i64 0]) ?_ 0 _ rfl;(with_reducible repeat first|apply Qb|apply Qd|apply Qc);refine Qs ?_ be.out _;(with_reducible repeat first|apply Qb|apply Qd|apply Qc);exact τ.out) Tryd.underlying34 rfl kr) rfl ?_
            exact⟨_,_,by first|rfl|(simp[Qo,Qn] <;> rfl)|(simp[*,Qo,Qn] <;> rfl),Kd.Qt (Kd.R_V (by(with_reducible repeat first|apply Kd.Qi|apply Kd.Qh|apply Kd.Ql);exact Kd.Qu (Kd.Qm (Kd.Qm (Kd.Qm (Kd.Qm (Kd.Qm (Kd.Qy (Kd.Qy ng.out ap.out (by decide)) τ.out (by decide)) (fun _ hk=>hk.1.2) _) (fun _ hk=>hk.2) _) (fun _ hk=>hk.2) (.slice Y B.length Z)) (fun _ hk=>hk.2) (.bool (decide (a2≥(X.length:Int))))) (fun _ hk=>hk.2) (.int .i64 0)) (fun _ hk=>hk.1.1))) (fun k_ hk=>by first|exact⟨(.inr (hk.1)),hk.2⟩|exact(.inr (hk))),by(with_reducible repeat first|apply Kd.Qx|apply Kd.Qw|apply Kd.Q0);exact Kd.Qt (Kd.Qq (p:=⟨χ,3,none⟩) (Kd.Qq (p:=⟨χ,2,none⟩) (Kd.Qq (p:=⟨χ,1,none⟩) (Kd.Qq (p:=⟨χ,0,none⟩) (Kd.Qq (p:=⟨ξ,0,none⟩) (Kd.Qt (Kd.Qt HO_366001.out (fun k_ hk=>(⟨hk,hk.2.2.2.2.2.2⟩:_∧k_ ≠ ξ))) (fun k_ hk=>(⟨hk,hk.1.2.2.2.2.1⟩:_∧k_ ≠ χ))) (fun _ hk=>hk.1.2) _) (fun _ hk=>hk.2) _) (fun _ hk=>hk.2) (.slice Y B.length Z)) (fun _ hk=>hk.2) (.bool (decide (a2≥(X.length:Int))))) (fun _ hk=>hk.2) (.int .i64 0)) (fun _ hk=>hk.1.1.1),bel⟩
           ·rw[if_neg h7] at H
            exact absurd H (by simp)
          ·rw[if_neg h6] at H
           exact absurd H (by simp)
         ·replace dw:=Bool.eq_false_iff.mpr dw
          subst dw
          have H1:(if 0≤a3 then (if a3≤(X.length:Int) then (some (J,(X.take (a3:Int).toNat),decide (a2≥(X.length:Int)),0)) else (none)) else (none))=some (r1,r2,r3,r4):=by rw[if_neg (show ¬ (false=true) by decide)] at H;exact H
          clear H
          have H:=H1
          clear H1
          by_cases ea:0≤a3
          ·rw[if_pos ea] at H
           have c138b0:=eq_true ea
           have c138b1:decide (0≤a3)=true:=decide_eq_true ea
           clear ea
           by_cases h8:a3≤(X.length:Int)
           ·rw[if_pos h8] at H
            have c139b0:=eq_true h8
            have c139b1:decide (a3≤(X.length:Int))=true:=decide_eq_true h8
            clear h8
            obtain⟨h9,f4⟩:∃ y_:List Int,y_=(X.take (a3:Int).toNat):=⟨_,rfl⟩
            replace H:(some (J,h9,decide (a2≥(X.length:Int)),0))=some (r1,r2,r3,r4):=by first|(rw[f4];with_reducible exact H)|(have φ :=(Option.bind_some _ _).symm.trans H;rw[f4];with_reducible exact φ)|(have φ :=(Option.bind_some _ _).symm.trans H;with_reducible exact φ)|with_reducible exact H|(rw[f4];exact H)|exact H
            have l3:=Aside0.mk f4
            clear f4
            simp only[Option.some.injEq,Prod.mk.injEq] at H
            obtain⟨rfl,rfl,rfl,rfl⟩:=H
            obtain⟨dh,dl,nl⟩:=Kd.Zf HO_9.out
            subst nl
            have pb:=aw.out
            have pc:=ax.out
            have pd:=ay.out
            have pe:=b0.out
            have pf:=b8.out
            have pg:=bb.out
            obtain⟨ra,rb,rc,re⟩:=qD2 σ.out
            go_wp2_with (first|((with_reducible refine Qz (N:=11) rfl ?_);refine qE 11 #[.slice none 0 0,.slice none 0 0,.bool false,.int .i64 0] 34 ?_;intro ξ hg rf hbox hb;have ap:=Aside0.mk hbox;have ky:=sGe hg;have kz:=sGe hg;have cg:=sNl σ hg;have cj:=sNg σ hg;have cr:=sNl ω hg;have ct:=sNg ω hg;have be:=sNl τ hg;have cu:=sNg τ hg;have cv:=sNl a1 hg;have cz:=sNg a1 hg;replace HO_9:=sRb HO_9 hb;replace HO_366000:=Aside0.mk (Kd.Q2 (Kd.Q9 (by(with_reducible repeat first|apply Kd.Qx|apply Kd.Qw|apply Kd.Q0);exact HO_366000.out) ξ (Nat.le_of_eq hg.symm)) hb);replace HO_366001:=Aside0.mk (Kd.Q2 (Kd.Q9 (by(with_reducible repeat first|apply Kd.Qx|apply Kd.Qw|apply Kd.Q0);exact HO_366001.out) ξ (Nat.le_of_eq hg.symm)) hb);replace HO_378003:=Aside0.mk (Kd.Q2 (Kd.Q9 (by(with_reducible repeat first|apply Kd.Qx|apply Kd.Qw|apply Kd.Q0);exact HO_378003.out) ξ (Nat.le_of_eq hg.symm)) hb);replace σ:=sBk σ hb;replace ω :=sBk ω hb;replace τ :=sBk τ hb;replace a1:=sBk a1 hb;replace HB:=sHb hb;clear hb hbox hg;have m1:=cj.out;have m2:=cg.out;have wa:=ct.out;have wb:=cr.out;have wd:=cu.out;have we:=be.out;have wg:=cz.out;have wh:=cv.out;obtain⟨rh,ri,rj,rk,rl,rm,rn,rp⟩:=qD4 ap.out)|((with_reducible refine Xq (t:=34) (p:=11) rfl ?_);refine Xd (t:=34) (p:=11) (v:=?vo_w151) (w1:=((((rf.setCell ⟨ξ,0,none⟩ (.slice γ J.length δ)).setCell ⟨ξ,1,none⟩ (.slice Y B.length Z)).setCell ⟨ξ,2,none⟩ (.bool (decide (a2≥(X.length:Int))))).setCell ⟨ξ,3,none⟩ (.int .i64 0))) ?hg ?ho ?hn ?hr ?_;(case ho=>rfl);(case hg=>rfl);(case hn=>rfl);(case hr=>go_simp <;> rfl);intro dt hw;have D:Aside0 (Kd.R (Kd.int .u8) 5 dt w.heap.size (fun k_=>(w.heap.size≤k_)) (.slice dh X.length dl) X):=⟨(by rw[hw];exact(by(with_reducible repeat first|apply Kd.Qi|apply Kd.Qh|apply Kd.Ql);exact Kd.Qu (Kd.Qm (Kd.Qm (Kd.Qm (Kd.Qm (Kd.Qy HO_9.out ap.out (by decide)) (fun _ hk=>hk.2) (.slice γ J.length δ)) (fun _ hk=>hk.2) (.slice Y B.length Z)) (fun _ hk=>hk.2) (.bool (decide (a2≥(X.length:Int))))) (fun _ hk=>hk.2) (.int .i64 0)) (fun _ hk=>hk.1)))⟩;have I:Aside0 (Kd.V (Kd.int .u8) 5 dt w.heap.size (fun k_=>((ae k_∨af k_)∨w.heap.size≤k_)∧some k_≠(.slice dh X.length dl:Value).ownBlock∧k_≠ag∧k_≠ah∧k_ ≠ χ ∧ k_ ≠ ψ ∧ k_ ≠ ξ) (.slice γ J.length δ) J):=⟨(by rw[hw];exact(by(with_reducible repeat first|apply Kd.Qx|apply Kd.Qw|apply Kd.Q0);exact Kd.Qt (Kd.Qq (p:=⟨ξ,3,none⟩) (Kd.Qq (p:=⟨ξ,2,none⟩) (Kd.Qq (p:=⟨ξ,1,none⟩) (Kd.Qq (p:=⟨ξ,0,none⟩) (Kd.Qt HO_366000.out (fun k_ hk=>(⟨hk,hk.2⟩:_∧k_ ≠ ξ))) (fun _ hk=>hk.2) (.slice γ J.length δ)) (fun _ hk=>hk.2) (.slice Y B.length Z)) (fun _ hk=>hk.2) (.bool (decide (a2≥(X.length:Int))))) (fun _ hk=>hk.2) (.int .i64 0)) (fun _ hk=>⟨hk.1.1.1,⟨hk.1.1.2.1,⟨hk.1.1.2.2.1,⟨hk.1.1.2.2.2.1,⟨hk.1.1.2.2.2.2.1,⟨hk.1.1.2.2.2.2.2,hk.1.2⟩⟩⟩⟩⟩⟩)))⟩;have O:Aside0 (Kd.V (Kd.int .u8) 5 dt w.heap.size (fun k_=>((ae k_∨af k_)∨w.heap.size≤k_)∧some k_≠(.slice dh X.length dl:Value).ownBlock∧k_≠ag∧k_≠ah∧k_ ≠ χ ∧ k_ ≠ ψ ∧ k_ ≠ ξ) (.slice Y B.length Z) B):=⟨(by rw[hw];exact(by(with_reducible repeat first|apply Kd.Qx|apply Kd.Qw|apply Kd.Q0);exact Kd.Qt (Kd.Qq (p:=⟨ξ,3,none⟩) (Kd.Qq (p:=⟨ξ,2,none⟩) (Kd.Qq (p:=⟨ξ,1,none⟩) (Kd.Qq (p:=⟨ξ,0,none⟩) (Kd.Qt HO_366001.out (fun k_ hk=>(⟨hk,hk.2⟩:_∧k_ ≠ ξ))) (fun _ hk=>hk.2) (.slice γ J.length δ)) (fun _ hk=>hk.2) (.slice Y B.length Z)) (fun _ hk=>hk.2) (.bool (decide (a2≥(X.length:Int))))) (fun _ hk=>hk.2) (.int .i64 0)) (fun _ hk=>⟨hk.1.1.1,⟨hk.1.1.2.1,⟨hk.1.1.2.2.1,⟨hk.1.1.2.2.2.1,⟨hk.1.1.2.2.2.2.1,⟨hk.1.1.2.2.2.2.2,hk.1.2⟩⟩⟩⟩⟩⟩)))⟩;have U:Aside0 (Kd.V (Kd.int .u8) 5 dt w.heap.size (fun k_=>((ae k_∨af k_)∨w.heap.size≤k_)∧some k_≠(.slice dh X.length dl:Value).ownBlock∧k_≠ag∧k_≠ah∧k_ ≠ χ ∧ k_ ≠ ψ ∧ k_ ≠ ξ) (.slice a8 ai.length a9) ai):=⟨(by rw[hw];exact(by(with_reducible repeat first|apply Kd.Qx|apply Kd.Qw|apply Kd.Q0);exact Kd.Qt (Kd.Qq (p:=⟨ξ,3,none⟩) (Kd.Qq (p:=⟨ξ,2,none⟩) (Kd.Qq (p:=⟨ξ,1,none⟩) (Kd.Qq (p:=⟨ξ,0,none⟩) (Kd.Qt HO_378003.out (fun k_ hk=>(⟨hk,hk.2⟩:_∧k_ ≠ ξ))) (fun _ hk=>hk.2) (.slice γ J.length δ)) (fun _ hk=>hk.2) (.slice Y B.length Z)) (fun _ hk=>hk.2) (.bool (decide (a2≥(X.length:Int))))) (fun _ hk=>hk.2) (.int .i64 0)) (fun _ hk=>⟨hk.1.1.1,⟨hk.1.1.2.1,⟨hk.1.1.2.2.1,⟨hk.1.1.2.2.2.1,⟨hk.1.1.2.2.2.2.1,⟨hk.1.1.2.2.2.2.2,hk.1.2⟩⟩⟩⟩⟩⟩)))⟩;have ε :Aside0 (dt.heap[ag]?=some (.cells #[.slice γ J.length δ,.slice Y B.length Z] 24 (0,0))):=⟨(by rw[hw];exact(bka σ))⟩;have ν :Aside0 (dt.heap[ah]?=some (.cells #[.int .i64 ζ,.int .i64 κ,.int .i64 μ,.slice a6 η.length a7] 26 (0,0))):=⟨(by rw[hw];exact(bka ω))⟩;have ρ:Aside0 (dt.heap[χ]?=some (.cells #[.slice none 0 0,.slice none 0 0,.bool false,.int .i64 0] 34 (0,0))):=⟨(by rw[hw];exact(bka τ))⟩;have a4:Aside0 (dt.heap[ψ]?=some (.cells #[.int .i64 aj,.int .i64 am,.int .i64 an,.slice a8 ai.length a9,.bool false,.bool true] 39 (0,0))):=⟨(by rw[hw];exact(bka a1))⟩;have a5:Aside0 (dt.heap[ξ]?=some (.cells #[.slice γ J.length δ,.slice Y B.length Z,.bool (decide (a2≥(X.length:Int))),.int .i64 0] 34 (0,0))):=⟨(by rw[hw];exact(by(with_reducible repeat first|apply Qb|apply Qd|apply Qc);refine Qk (cs:=#[.slice γ J.length δ,.slice Y B.length Z,.bool (decide (a2≥(X.length:Int))),.int .i64 0]) ?_ 3 _ rfl;(with_reducible repeat first|apply Qb|apply Qd|apply Qc);refine Qk (cs:=#[.slice γ J.length δ,.slice Y B.length Z,.bool false,.int .i64 0]) ?_ 2 _ rfl;(with_reducible repeat first|apply Qb|apply Qd|apply Qc);refine Qk (cs:=#[.slice γ J.length δ,.slice none 0 0,.bool false,.int .i64 0]) ?_ 1 _ rfl;(with_reducible repeat first|apply Qb|apply Qd|apply Qc);refine Qk (cs:=#[.slice none 0 0,.slice none 0 0,.bool false,.int .i64 0]) ?_ 0 _ rfl;(with_reducible repeat first|apply Qb|apply Qd|apply Qc);exact ap.out))⟩;have ab:Aside0 (Below w.heap.size w dt):=⟨(by rw[hw];exact bel)⟩;clear hw;clear HO_9;clear HO_366000;clear HO_366001;clear HO_378003;clear σ;clear ω;clear τ;clear a1;clear ap;clear HB;have HO_9:=D;have HO_366000:=I;have HO_366001:=O;have HO_378003:=U;have σ:= ε;have ω := ν;have τ :=ρ;have a1:=a4;have ap:=a5;have HB:=ab;clear D I O U ε ν ρ a4 a5 ab;have wi:=b2.out;have wj:=b1.out;have wk:=b6.out;have wl:=b5.out;obtain⟨rq,rr,rs,ru,rv,rx,ry,rz,s0,s1,s2,s3⟩:=qD6 a1.out;have k6:(a3:Int)≤((X.length:Int):Int):=of_decide_eq_true (by assumption);obtain⟨xv,k1,_,mb,_⟩:=info_parts Zx;have ll:=Yr (P:=Tryd.prog) 22 5 .i64 Tryd.underlying22 k1 dh X.length dl a3 (of_decide_eq_true (by assumption)) k6 (Kd.Q4 HO_9.out).2.1;have gw:=Kd.Jj (m:=(a3:Int).toNat) HO_9.out (by omega);have l4:h9.length=(a3:Int).toNat:=(by rw[l3.out,List.length_take];omega);rw[← l3.out] at gw;rw[← l4] at gw ll;clear l4 k1 mb HO_9;have nm:=Aside0.mk gw;clear gw;replace k6:=eq_true k6;obtain⟨s4,s5,s6,s7,s8,s9,sa,sb⟩:=qD4 ap.out;have wm:=au.out;have wn:=ar.out;obtain⟨sc,sd,se,sf,sg,sh,si,sj⟩:=qD4 τ.out))
            refine bodyPost_ret (results_cell_row rfl _ _ χ 34 #[.slice γ J.length δ,.slice dh h9.length dl,.bool (decide (a2≥(X.length:Int))),.int .i64 0] (0,0) _ rfl (by(with_reducible repeat first|apply Qb|apply Qd|apply Qc);refine Qk (cs:=#[.slice γ J.length δ,.slice dh h9.length dl,.bool (decide (a2≥(X.length:Int))),.int .i64 0]) ?_ 3 _ rfl;(with_reducible repeat first|apply Qb|apply Qd|apply Qc);refine Qk (cs:=#[.slice γ J.length δ,.slice dh h9.length dl,.bool false,.int .i64 0]) ?_ 2 _ rfl;(with_reducible repeat first|apply Qb|apply Qd|apply Qc);refine Qk (cs:=#[.slice γ J.length δ,.slice none 0 0,.bool false,.int .i64 0]) ?_ 1 _ rfl;(with_reducible repeat first|apply Qb|apply Qd|apply Qc);refine Qk (cs:=#[.slice none 0 0,.slice none 0 0,.bool false,.int .i64 0]) ?_ 0 _ rfl;(with_reducible repeat first|apply Qb|apply Qd|apply Qc);refine Qs ?_ be.out _;(with_reducible repeat first|apply Qb|apply Qd|apply Qc);exact τ.out) Tryd.underlying34 rfl kr) rfl ?_
            exact⟨_,_,by first|rfl|(simp[Qo,Qn] <;> rfl)|(simp[*,Qo,Qn] <;> rfl),by(with_reducible repeat first|apply Kd.Qx|apply Kd.Qw|apply Kd.Q0);exact Kd.Qt (Kd.Qq (p:=⟨χ,3,none⟩) (Kd.Qq (p:=⟨χ,2,none⟩) (Kd.Qq (p:=⟨χ,1,none⟩) (Kd.Qq (p:=⟨χ,0,none⟩) (Kd.Qq (p:=⟨ξ,1,none⟩) (Kd.Qt (Kd.Qt HO_366000.out (fun k_ hk=>(⟨hk,hk.2.2.2.2.2.2⟩:_∧k_ ≠ ξ))) (fun k_ hk=>(⟨hk,hk.1.2.2.2.2.1⟩:_∧k_ ≠ χ))) (fun _ hk=>hk.1.2) _) (fun _ hk=>hk.2) (.slice γ J.length δ)) (fun _ hk=>hk.2) _) (fun _ hk=>hk.2) (.bool (decide (a2≥(X.length:Int))))) (fun _ hk=>hk.2) (.int .i64 0)) (fun _ hk=>hk.1.1.1),Kd.Qt (Kd.R_V (by(with_reducible repeat first|apply Kd.Qi|apply Kd.Qh|apply Kd.Ql);exact Kd.Qu (Kd.Qm (Kd.Qm (Kd.Qm (Kd.Qm (Kd.Qm (Kd.Qy (Kd.Qy nm.out ap.out (by decide)) τ.out (by decide)) (fun _ hk=>hk.1.2) _) (fun _ hk=>hk.2) (.slice γ J.length δ)) (fun _ hk=>hk.2) _) (fun _ hk=>hk.2) (.bool (decide (a2≥(X.length:Int))))) (fun _ hk=>hk.2) (.int .i64 0)) (fun _ hk=>hk.1.1))) (fun k_ hk=>by first|exact⟨(.inr (hk.1)),hk.2⟩|exact(.inr (hk))),bel⟩
           ·rw[if_neg h8] at H
            exact absurd H (by simp)
          ·rw[if_neg ea] at H
           exact absurd H (by simp)
        ·replace eo:=Bool.eq_false_iff.mpr eo
         subst eo
         have H1:(if 0≤a3 then (if a3≤(X.length:Int) then (some ((X.take (a3:Int).toNat),B,decide (a2≥(X.length:Int)),0)) else (none)) else (none))=some (r1,r2,r3,r4):=by rw[if_neg (show ¬ (false=true) by decide)] at H;exact H
         clear H
         have H:=H1
         clear H1
         by_cases ha:0≤a3
         ·rw[if_pos ha] at H
          have c159b0:=eq_true ha
          have c159b1:decide (0≤a3)=true:=decide_eq_true ha
          clear ha
          by_cases i5:a3≤(X.length:Int)
          ·rw[if_pos i5] at H
           have c160b0:=eq_true i5
           have c160b1:decide (a3≤(X.length:Int))=true:=decide_eq_true i5
           clear i5
           obtain⟨gg,f5⟩:∃ y_:List Int,y_=(X.take (a3:Int).toNat):=⟨_,rfl⟩
           replace H:(some (gg,B,decide (a2≥(X.length:Int)),0))=some (r1,r2,r3,r4):=by first|(rw[f5];with_reducible exact H)|(have φ :=(Option.bind_some _ _).symm.trans H;rw[f5];with_reducible exact φ)|(have φ :=(Option.bind_some _ _).symm.trans H;with_reducible exact φ)|with_reducible exact H|(rw[f5];exact H)|exact H
           have l5:=Aside0.mk f5
           clear f5
           simp only[Option.some.injEq,Prod.mk.injEq] at H
           obtain⟨rfl,rfl,rfl,rfl⟩:=H
           obtain⟨de,df,nn⟩:=Kd.Zf HO_9.out
           subst nn
           have wo:=aw.out
           have wq:=ax.out
           have ws:=ay.out
           have wt:=b0.out
           have wu:=b8.out
           have wv:=bb.out
           obtain⟨sk,sl,sn,so⟩:=qD2 σ.out
           go_wp2_with (first|((with_reducible refine Qz (N:=11) rfl ?_);refine qE 11 #[.slice none 0 0,.slice none 0 0,.bool false,.int .i64 0] 34 ?_;intro ξ hg sp hbox hb;have ap:=Aside0.mk hbox;have ky:=sGe hg;have kz:=sGe hg;have cg:=sNl σ hg;have cj:=sNg σ hg;have cr:=sNl ω hg;have ct:=sNg ω hg;have be:=sNl τ hg;have cu:=sNg τ hg;have cv:=sNl a1 hg;have cz:=sNg a1 hg;replace HO_9:=sRb HO_9 hb;replace HO_366000:=Aside0.mk (Kd.Q2 (Kd.Q9 (by(with_reducible repeat first|apply Kd.Qx|apply Kd.Qw|apply Kd.Q0);exact HO_366000.out) ξ (Nat.le_of_eq hg.symm)) hb);replace HO_366001:=Aside0.mk (Kd.Q2 (Kd.Q9 (by(with_reducible repeat first|apply Kd.Qx|apply Kd.Qw|apply Kd.Q0);exact HO_366001.out) ξ (Nat.le_of_eq hg.symm)) hb);replace HO_378003:=Aside0.mk (Kd.Q2 (Kd.Q9 (by(with_reducible repeat first|apply Kd.Qx|apply Kd.Qw|apply Kd.Q0);exact HO_378003.out) ξ (Nat.le_of_eq hg.symm)) hb);replace σ:=sBk σ hb;replace ω :=sBk ω hb;replace τ :=sBk τ hb;replace a1:=sBk a1 hb;replace HB:=sHb hb;clear hb hbox hg;have ww:=cj.out;have wx:=cg.out;have wy:=ct.out;have wz:=cr.out;have x0:=cu.out;have x1:=be.out;have x2:=cz.out;have x3:=cv.out;obtain⟨sq,sr,ss,st,su,sv,sw,sx⟩:=qD4 ap.out)|((with_reducible refine Xq (t:=34) (p:=11) rfl ?_);refine Xd (t:=34) (p:=11) (v:=?vo_w172) (w1:=((((sp.setCell ⟨ξ,0,none⟩ (.slice γ J.length δ)).setCell ⟨ξ,1,none⟩ (.slice Y B.length Z)).setCell ⟨ξ,2,none⟩ (.bool (decide (a2≥(X.length:Int))))).setCell ⟨ξ,3,none⟩ (.int .i64 0))) ?hg ?ho ?hn ?hr ?_;(case ho=>rfl);(case hg=>rfl);(case hn=>rfl);(case hr=>go_simp <;> rfl);intro du hw;have D:Aside0 (Kd.R (Kd.int .u8) 5 du w.heap.size (fun k_=>(w.heap.size≤k_)) (.slice de X.length df) X):=⟨(by rw[hw];exact(by(with_reducible repeat first|apply Kd.Qi|apply Kd.Qh|apply Kd.Ql);exact Kd.Qu (Kd.Qm (Kd.Qm (Kd.Qm (Kd.Qm (Kd.Qy HO_9.out ap.out (by decide)) (fun _ hk=>hk.2) (.slice γ J.length δ)) (fun _ hk=>hk.2) (.slice Y B.length Z)) (fun _ hk=>hk.2) (.bool (decide (a2≥(X.length:Int))))) (fun _ hk=>hk.2) (.int .i64 0)) (fun _ hk=>hk.1)))⟩;have I:Aside0 (Kd.V (Kd.int .u8) 5 du w.heap.size (fun k_=>((ae k_∨af k_)∨w.heap.size≤k_)∧some k_≠(.slice de X.length df:Value).ownBlock∧k_≠ag∧k_≠ah∧k_ ≠ χ ∧ k_ ≠ ψ ∧ k_ ≠ ξ) (.slice γ J.length δ) J):=⟨(by rw[hw];exact(by(with_reducible repeat first|apply Kd.Qx|apply Kd.Qw|apply Kd.Q0);exact Kd.Qt (Kd.Qq (p:=⟨ξ,3,none⟩) (Kd.Qq (p:=⟨ξ,2,none⟩) (Kd.Qq (p:=⟨ξ,1,none⟩) (Kd.Qq (p:=⟨ξ,0,none⟩) (Kd.Qt HO_366000.out (fun k_ hk=>(⟨hk,hk.2⟩:_∧k_ ≠ ξ))) (fun _ hk=>hk.2) (.slice γ J.length δ)) (fun _ hk=>hk.2) (.slice Y B.length Z)) (fun _ hk=>hk.2) (.bool (decide (a2≥(X.length:Int))))) (fun _ hk=>hk.2) (.int .i64 0)) (fun _ hk=>⟨hk.1.1.1,⟨hk.1.1.2.1,⟨hk.1.1.2.2.1,⟨hk.1.1.2.2.2.1,⟨hk.1.1.2.2.2.2.1,⟨hk.1.1.2.2.2.2.2,hk.1.2⟩⟩⟩⟩⟩⟩)))⟩;have O:Aside0 (Kd.V (Kd.int .u8) 5 du w.heap.size (fun k_=>((ae k_∨af k_)∨w.heap.size≤k_)∧some k_≠(.slice de X.length df:Value).ownBlock∧k_≠ag∧k_≠ah∧k_ ≠ χ ∧ k_ ≠ ψ ∧ k_ ≠ ξ) (.slice Y B.length Z) B):=⟨(by rw[hw];exact(by(with_reducible repeat first|apply Kd.Qx|apply Kd.Qw|apply Kd.Q0);exact Kd.Qt (Kd.Qq (p:=⟨ξ,3,none⟩) (Kd.Qq (p:=⟨ξ,2,none⟩) (Kd.Qq (p:=⟨ξ,1,none⟩) (Kd.Qq (p:=⟨ξ,0,none⟩) (Kd.Qt HO_366001.out (fun k_ hk=>(⟨hk,hk.2⟩:_∧k_ ≠ ξ))) (fun _ hk=>hk.2) (.slice γ J.length δ)) (fun _ hk=>hk.2) (.slice Y B.length Z)) (fun _ hk=>hk.2) (.bool (decide (a2≥(X.length:Int))))) (fun _ hk=>hk.2) (.int .i64 0)) (fun _ hk=>⟨hk.1.1.1,⟨hk.1.1.2.1,⟨hk.1.1.2.2.1,⟨hk.1.1.2.2.2.1,⟨hk.1.1.2.2.2.2.1,⟨hk.1.1.2.2.2.2.2,hk.1.2⟩⟩⟩⟩⟩⟩)))⟩;have U:Aside0 (Kd.V (Kd.int .u8) 5 du w.heap.size (fun k_=>((ae k_∨af k_)∨w.heap.size≤k_)∧some k_≠(.slice de X.length df:Value).ownBlock∧k_≠ag∧k_≠ah∧k_ ≠ χ ∧ k_ ≠ ψ ∧ k_ ≠ ξ) (.slice a8 ai.length a9) ai):=⟨(by rw[hw];exact(by(with_reducible repeat first|apply Kd.Qx|apply Kd.Qw|apply Kd.Q0);exact Kd.Qt (Kd.Qq (p:=⟨ξ,3,none⟩) (Kd.Qq (p:=⟨ξ,2,none⟩) (Kd.Qq (p:=⟨ξ,1,none⟩) (Kd.Qq (p:=⟨ξ,0,none⟩) (Kd.Qt HO_378003.out (fun k_ hk=>(⟨hk,hk.2⟩:_∧k_ ≠ ξ))) (fun _ hk=>hk.2) (.slice γ J.length δ)) (fun _ hk=>hk.2) (.slice Y B.length Z)) (fun _ hk=>hk.2) (.bool (decide (a2≥(X.length:Int))))) (fun _ hk=>hk.2) (.int .i64 0)) (fun _ hk=>⟨hk.1.1.1,⟨hk.1.1.2.1,⟨hk.1.1.2.2.1,⟨hk.1.1.2.2.2.1,⟨hk.1.1.2.2.2.2.1,⟨hk.1.1.2.2.2.2.2,hk.1.2⟩⟩⟩⟩⟩⟩)))⟩;have ε :Aside0 (du.heap[ag]?=some (.cells #[.slice γ J.length δ,.slice Y B.length Z] 24 (0,0))):=⟨(by rw[hw];exact(bka σ))⟩;have ν :Aside0 (du.heap[ah]?=some (.cells #[.int .i64 ζ,.int .i64 κ,.int .i64 μ,.slice a6 η.length a7] 26 (0,0))):=⟨(by rw[hw];exact(bka ω))⟩;have ρ:Aside0 (du.heap[χ]?=some (.cells #[.slice none 0 0,.slice none 0 0,.bool false,.int .i64 0] 34 (0,0))):=⟨(by rw[hw];exact(bka τ))⟩;have a4:Aside0 (du.heap[ψ]?=some (.cells #[.int .i64 aj,.int .i64 am,.int .i64 an,.slice a8 ai.length a9,.bool av,.bool false] 39 (0,0))):=⟨(by rw[hw];exact(bka a1))⟩;have a5:Aside0 (du.heap[ξ]?=some (.cells #[.slice γ J.length δ,.slice Y B.length Z,.bool (decide (a2≥(X.length:Int))),.int .i64 0] 34 (0,0))):=⟨(by rw[hw];exact(by(with_reducible repeat first|apply Qb|apply Qd|apply Qc);refine Qk (cs:=#[.slice γ J.length δ,.slice Y B.length Z,.bool (decide (a2≥(X.length:Int))),.int .i64 0]) ?_ 3 _ rfl;(with_reducible repeat first|apply Qb|apply Qd|apply Qc);refine Qk (cs:=#[.slice γ J.length δ,.slice Y B.length Z,.bool false,.int .i64 0]) ?_ 2 _ rfl;(with_reducible repeat first|apply Qb|apply Qd|apply Qc);refine Qk (cs:=#[.slice γ J.length δ,.slice none 0 0,.bool false,.int .i64 0]) ?_ 1 _ rfl;(with_reducible repeat first|apply Qb|apply Qd|apply Qc);refine Qk (cs:=#[.slice none 0 0,.slice none 0 0,.bool false,.int .i64 0]) ?_ 0 _ rfl;(with_reducible repeat first|apply Qb|apply Qd|apply Qc);exact ap.out))⟩;have ab:Aside0 (Below w.heap.size w du):=⟨(by rw[hw];exact bel)⟩;clear hw;clear HO_9;clear HO_366000;clear HO_366001;clear HO_378003;clear σ;clear ω;clear τ;clear a1;clear ap;clear HB;have HO_9:=D;have HO_366000:=I;have HO_366001:=O;have HO_378003:=U;have σ:= ε;have ω := ν;have τ :=ρ;have a1:=a4;have ap:=a5;have HB:=ab;clear D I O U ε ν ρ a4 a5 ab;have x4:=b2.out;have x5:=b1.out;have x6:=b6.out;have x7:=b5.out;obtain⟨sy,t0,t1,t2,t3,t4,t5,t6,t7,t8,t9,ta⟩:=qD6 a1.out;have k7:(a3:Int)≤((X.length:Int):Int):=of_decide_eq_true (by assumption);obtain⟨xw,k2,_,mc,_⟩:=info_parts Zx;have lm:=Yr (P:=Tryd.prog) 22 5 .i64 Tryd.underlying22 k2 de X.length df a3 (of_decide_eq_true (by assumption)) k7 (Kd.Q4 HO_9.out).2.1;have gx:=Kd.Jj (m:=(a3:Int).toNat) HO_9.out (by omega);have l6:gg.length=(a3:Int).toNat:=(by rw[l5.out,List.length_take];omega);rw[← l5.out] at gx;rw[← l6] at gx lm;clear l6 k2 mc HO_9;have no:=Aside0.mk gx;clear gx;replace k7:=eq_true k7;obtain⟨tb,tc,td,te,tf,tg,ti,tj⟩:=qD4 ap.out;have x8:=au.out;have x9:=ar.out;obtain⟨tk,tl,tm,tn,tp,tq,tr,ts⟩:=qD4 τ.out))
           refine bodyPost_ret (results_cell_row rfl _ _ χ 34 #[.slice de gg.length df,.slice Y B.length Z,.bool (decide (a2≥(X.length:Int))),.int .i64 0] (0,0) _ rfl (by(with_reducible repeat first|apply Qb|apply Qd|apply Qc);refine Qk (cs:=#[.slice de gg.length df,.slice Y B.length Z,.bool (decide (a2≥(X.length:Int))),.int .i64 0]) ?_ 3 _ rfl;(with_reducible repeat first|apply Qb|apply Qd|apply Qc);refine Qk (cs:=#[.slice de gg.length df,.slice Y B.length Z,.bool false,.int .i64 0]) ?_ 2 _ rfl;(with_reducible repeat first|apply Qb|apply Qd|apply Qc);refine Qk (cs:=#[.slice de gg.length df,.slice none 0 0,.bool false,.int .i64 0]) ?_ 1 _ rfl;(with_reducible repeat first|apply Qb|apply Qd|apply Qc);refine Qk (cs:=#[.slice none 0 0,.slice none 0 0,.bool false,.int .i64 0]) ?_ 0 _ rfl;(with_reducible repeat first|apply Qb|apply Qd|apply Qc);refine Qs ?_ be.out _;(with_reducible repeat first|apply Qb|apply Qd|apply Qc);exact τ.out) Tryd.underlying34 rfl kr) rfl ?_
           exact⟨_,_,by first|rfl|(simp[Qo,Qn] <;> rfl)|(simp[*,Qo,Qn] <;> rfl),Kd.Qt (Kd.R_V (by(with_reducible repeat first|apply Kd.Qi|apply Kd.Qh|apply Kd.Ql);exact Kd.Qu (Kd.Qm (Kd.Qm (Kd.Qm (Kd.Qm (Kd.Qm (Kd.Qy (Kd.Qy no.out ap.out (by decide)) τ.out (by decide)) (fun _ hk=>hk.1.2) _) (fun _ hk=>hk.2) _) (fun _ hk=>hk.2) (.slice Y B.length Z)) (fun _ hk=>hk.2) (.bool (decide (a2≥(X.length:Int))))) (fun _ hk=>hk.2) (.int .i64 0)) (fun _ hk=>hk.1.1))) (fun k_ hk=>by first|exact⟨(.inr (hk.1)),hk.2⟩|exact(.inr (hk))),by(with_reducible repeat first|apply Kd.Qx|apply Kd.Qw|apply Kd.Q0);exact Kd.Qt (Kd.Qq (p:=⟨χ,3,none⟩) (Kd.Qq (p:=⟨χ,2,none⟩) (Kd.Qq (p:=⟨χ,1,none⟩) (Kd.Qq (p:=⟨χ,0,none⟩) (Kd.Qq (p:=⟨ξ,0,none⟩) (Kd.Qt (Kd.Qt HO_366001.out (fun k_ hk=>(⟨hk,hk.2.2.2.2.2.2⟩:_∧k_ ≠ ξ))) (fun k_ hk=>(⟨hk,hk.1.2.2.2.2.1⟩:_∧k_ ≠ χ))) (fun _ hk=>hk.1.2) _) (fun _ hk=>hk.2) _) (fun _ hk=>hk.2) (.slice Y B.length Z)) (fun _ hk=>hk.2) (.bool (decide (a2≥(X.length:Int))))) (fun _ hk=>hk.2) (.int .i64 0)) (fun _ hk=>hk.1.1.1),bel⟩
          ·rw[if_neg i5] at H
           exact absurd H (by simp)
         ·rw[if_neg ha] at H
          exact absurd H (by simp)
 ·replace c5:=Bool.eq_false_iff.mpr c5
  subst c5
  have H1:(some (([]:List Int),([]:List Int),false,120))=some (r1,r2,r3,r4):=by rw[if_neg (show ¬ (false=true) by decide)] at H;exact H
  clear H
  have H:=H1
  clear H1
  simp only[Option.some.injEq,Prod.mk.injEq] at H
  obtain⟨rfl,rfl,rfl,rfl⟩:=H
  go_enter Tryd.func13,Tryd.ntmps13
  go_wp2_with (first|((with_reducible refine Qz (N:=3) rfl ?_);refine qE 3 #[.slice γ J.length δ,.slice Y B.length Z] 24 ?_;intro ag hg y2 hbox hb;have σ:=Aside0.mk hbox;have mi:=sGe hg;have mj:=sGe hg;replace aa:=Aside0.mk (Kd.Q2 (Kd.Q9 aa.out ag (Nat.le_of_eq hg.symm)) hb);replace ac:=Aside0.mk (Kd.Q2 (Kd.Q9 ac.out ag (Nat.le_of_eq hg.symm)) hb);replace HB:=sHb hb;clear hb hbox hg)|((with_reducible refine Qz (N:=4) rfl ?_);refine qE 4 #[.int .i64 ζ,.int .i64 κ,.int .i64 μ,.slice a6 η.length a7] 26 ?_;intro ah hg y3 hbox hb;have ω :=Aside0.mk hbox;have ml:=sGe hg;have mm:=sGe hg;have aw:=sNl σ hg;have ax:=sNg σ hg;replace aa:=Aside0.mk (Kd.Q2 (Kd.Q9 aa.out ah (Nat.le_of_eq hg.symm)) hb);replace ac:=Aside0.mk (Kd.Q2 (Kd.Q9 ac.out ah (Nat.le_of_eq hg.symm)) hb);replace σ:=sBk σ hb;replace HB:=sHb hb;clear hb hbox hg)|((with_reducible refine Qz (N:=6) rfl ?_);refine qE 6 #[.slice none 0 0,.slice none 0 0,.bool false,.int .i64 0] 34 ?_;intro χ hg y4 hbox hb;have τ :=Aside0.mk hbox;have mo:=sGe hg;have mq:=sGe hg;have ay:=sNl σ hg;have b0:=sNg σ hg;have ar:=sNl ω hg;have au:=sNg ω hg;replace aa:=Aside0.mk (Kd.Q2 (Kd.Q9 aa.out χ (Nat.le_of_eq hg.symm)) hb);replace ac:=Aside0.mk (Kd.Q2 (Kd.Q9 ac.out χ (Nat.le_of_eq hg.symm)) hb);replace σ:=sBk σ hb;replace ω :=sBk ω hb;replace HB:=sHb hb;clear hb hbox hg;have xa:=ax.out;have xb:=aw.out;have xc:=ar.out;have xd:=au.out;obtain⟨tt,tu,tv,tw,tx,ty,tz,u0⟩:=qD4 ω.out)|((with_reducible refine Qv (f:=21) rfl ?_);refine Ze (some 13) rfl rfl Tryd.func21 kr rfl #[.agg #[.int .i64 ζ,.int .i64 κ,.int .i64 μ,.slice a6 η.length a7]] rfl qM ?_;(with_reducible refine(newelref12_May.calls ζ κ μ _ _ η false _ ?side1 ?side2 A4.out).mono ?_);(case side1=>exact(Kd.Zb d5.out HB.out));(case side2=>exact d6.out);rintro e y5 ⟨rfl,hb⟩;refine⟨_,rfl, ?_⟩;replace aa:=Aside0.mk (Kd.Q2 aa.out hb);replace ac:=Aside0.mk (Kd.Q2 ac.out hb);replace σ:=sBk σ hb;replace ω :=sBk ω hb;replace τ :=sBk τ hb;replace HB:=sHb hb;(try clear hb);(try clear az);(try clear hk);(try clear hi);have xe:=b0.out;have xf:=ay.out;obtain⟨u1,u2,u3,u4,u5,u6,u7,u9⟩:=qD4 τ.out))
  refine bodyPost_ret (results_cell_row rfl _ _ χ 34 #[.slice none 0 0,.slice none 0 0,.bool false,.int .i64 120] (0,0) _ rfl (by refine Qk (cs:=#[.slice none 0 0,.slice none 0 0,.bool false,.int .i64 0]) ?_ 3 _ rfl;refine Qk (cs:=#[.slice none 0 0,.slice none 0 0,.bool false,.int .i64 0]) ?_ 2 _ rfl;refine Qk (cs:=#[.slice none 0 0,.slice none 0 0,.bool false,.int .i64 0]) ?_ 1 _ rfl;refine Qk (cs:=#[.slice none 0 0,.slice none 0 0,.bool false,.int .i64 0]) ?_ 0 _ rfl;exact τ.out) Tryd.underlying34 rfl kr) rfl ?_
  refine⟨.slice none 0 0,.slice none 0 0,by first|rfl|(simp[Qo,Qn] <;> rfl)|(simp[*,Qo,Qn] <;> rfl),Kd.Qt (Kd.R_V (Kd.Z1 _ _ _ w.heap.size _)) (fun k_ hk=>by first|exact⟨(.inr (hk.1)),hk.2⟩|exact(.inr (hk))),Kd.Qt (Kd.R_V (Kd.Z1 _ _ _ w.heap.size _)) (fun k_ hk=>by first|exact⟨(.inr (hk.1)),hk.2⟩|exact(.inr (hk))),bel⟩
end Go.Proofs.YtickbejailcehaaDoor.C
