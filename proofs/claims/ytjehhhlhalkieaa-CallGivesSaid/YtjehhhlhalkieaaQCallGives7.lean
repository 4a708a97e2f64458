/- Texts of this claim, one behind the other: what the law's functions come to, walked (printed by a program, with the words that the print uses), and what that is, in plain Lean. No conditions of their own. -/
import Derived.Test.YtjehhhlhalkieaaQCallGives6
namespace Go.Proofs.Ytjehhhlhalkieaa.C
open Go.RowKit Go.Proofs.YtjehhhlhalkieaaW.PrintWords Go.Proofs.YtjehhhlhalkieaaW.PrintLast Go.Proofs.YtjehhhlhalkieaaW.PrintMore
attribute [local go_sem] Z2 Z0 Xb Xa Zq Zp Z1 Zz
set_option linter.unusedVariables false
set_option linter.unusedSimpArgs false
def call_Give.f (k:Nat) (I:Int) (J:Int) (B:List (S56)) (D:List (S62)) (X:Int) (L:Int) (ζ :Int):Option ((List (S56))×(List (S62))×Int):=(hallP.f X L ζ I J).bind fun ρ=>((call_change.f (setP_H.f X L ζ B) (woP_I.f (-2) 0 D) k I J B D ρ 0 X L ζ 0 (-2) 0).bind fun κ =>(some (κ.1,κ.2.1,κ.2.2)))
theorem call_Give.mono:∀ I D a2 X J a5 L k,LeO (call_Give.f k I D a2 X J a5 L) (call_Give.f (k+1) I D a2 X J a5 L):=by
 intro I D a2 X J a5 L k
 unfold call_Give.f
 repeat' first
   |(with_reducible exact call_change.mono _ _ _ _ _ _ _ _ _ _ _ _ _ _ _)
   |(with_reducible exact LeO.refl _)
   |(with_reducible exact LeO.none _)
   |(with_reducible refine LeO.ite ?_ ?_)
   |(with_reducible refine LeO.bind ?_ (fun _=>?_))
   |exact call_change.mono _ _ _ _ _ _ _ _ _ _ _ _ _ _ _
   |exact LeO.none _
   |refine LeO.ite ?_ ?_
   |refine LeO.bind ?_ (fun _=>?_)
def call_Give.T1:Bool×List (List Nat×List Nat):=(true,[([],[]),([],[]),([],[]),([2],[2]),([],[]),([3,4,3],[3,4]),([],[]),([6,5],[6]),([7],[7]),([],[]),([],[]),([10,7],[10]),([11],[11]),([],[]),([0,1,5,8,9,12,13,11],[0,1,5,8,9,12,13]),([14],[14]),([14],[14]),([15,14,0,1,2,3,4,5,6,7,8,9,10,11,12,13,14,15,16],[15]),([16,17,0,1,2,3,4,5,6,7,8,9,10,11,12,13,14,15,16,17],[16])])
def call_Give.B1:List Nat:=[0,0,0,4,0,28,0,124,252,0,0,1276,3324,0,16383,32767,32767,131071,262143]
theorem call_Give.Gh:rtab .any (opsOf Try.f24 1)=call_Give.T1:=by kernel_rfl
theorem call_Give.Jt:Zr call_Give.T1.2 call_Give.B1=true:=by kernel_rfl
set_option maxHeartbeats 8000000 in
set_option maxRecDepth 100000 in
theorem call_Give.calls (k:Nat) (I:Int) (J:Int) (η :Option Addr) (δ :Nat) (B:List (S56)) (θ :Option Addr) (ε :Nat) (D:List (S62)) (X:Int) (L:Int) (ζ :Int) (r1:List (S56)) (r2:List (S62)) (r3:Int) (w:World) (b4:Kd.C k56 w η B.length B) (b5:B.length ≤ δ) (b6:Kd.C k62 w θ D.length D) (b7:D.length ≤ ε) (h:call_Give.f k I J B D X L ζ = some (r1,r2,r3)):
  Calls Try.prog 24 #[.agg #[.int .i64 I,.int .i64 J],.agg #[.slice η B.length δ,.slice θ D.length ε],.agg #[.int .i64 X,.int .i64 L,.int .i64 ζ]] w fun e w'=>∃ a4 b9:Value,e = .returned (.tuple #[.agg #[a4,b9],.int .i64 r3])∧Kd.R k56 56 w' w.heap.size (fun _=>True) a4 r1∧Kd.R k62 62 w' w.heap.size (fun _=>True) b9 r2∧Below w.heap.size w w':=by
 have dn:=Try.underlying23
 have d4:=Try.underlying27
 have bq:=Try.underlying56
 have bd:=Try.underlying62
 have ag:=Aside0.mk b4
 have ar:=Aside0.mk b5
 clear b4 b5
 have ah:=Aside0.mk b6
 have aw:=Aside0.mk b7
 clear b6 b7
 have HB:=Aside0.mk (Below.refl w.heap.size w)
 have H:((hallP.f X L ζ I J).bind fun ρ=>((call_change.f (setP_H.f X L ζ B) (woP_I.f (-2) 0 D) k I J B D ρ 0 X L ζ 0 (-2) 0).bind fun κ =>(some (κ.1,κ.2.1,κ.2.2))))=some (r1,r2,r3):=h
 clear h
 replace H:=Option.bind_eq_some_iff.mp H
 obtain⟨ρ,bv,H⟩:=H
 replace H:((call_change.f (setP_H.f X L ζ B) (woP_I.f (-2) 0 D) k I J B D ρ 0 X L ζ 0 (-2) 0).bind fun κ =>(some (κ.1,κ.2.1,κ.2.2)))=some (r1,r2,r3):=H
 have A4:=Aside0.mk bv
 clear bv
 replace H:=Option.bind_eq_some_iff.mp H
 obtain⟨⟨χ,σ,ae⟩,ca,H⟩:=H
 replace H:(some (χ,σ,ae))=some (r1,r2,r3):=H
 have A5:=Aside0.mk ca
 clear ca
 simp only[Option.some.injEq,Prod.mk.injEq] at H
 obtain⟨rfl,rfl,rfl⟩:=H
 go_enter Try.func24,Try.ntmps24
 try go_wp2_with (first|((with_reducible refine Qr (N:=3) rfl ?_);refine qE 3 #[.int .i64 I,.int .i64 J] 23 ?_;intro a6 hg w6 hbox hb;have μ :=Aside0.mk hbox;have bh:=sGe hg;have b3:=sGe hg;replace HB:=sHb hb;clear hb hbox hg)|((with_reducible refine Qr (N:=4) rfl ?_);refine qE 4 #[.slice η B.length δ,.slice θ D.length ε] 27 ?_;intro ν hg w7 hbox hb;have Z:=Aside0.mk hbox;have a8:=sGe hg;have bi:=sGe hg;have af:=sNl μ hg;have ai:=sNg μ hg;replace μ :=sBk μ hb;replace HB:=sHb hb;clear hb hbox hg)|((with_reducible refine Qr (N:=5) rfl ?_);refine qE 5 #[.int .i64 X,.int .i64 L,.int .i64 ζ] 56 ?_;intro a9 hg w8 hbox hb;have U:=Aside0.mk hbox;have bm:=sGe hg;have bn:=sGe hg;have aj:=sNl μ hg;have al:=sNg μ hg;have an:=sNl Z hg;have ay:=sNg Z hg;replace μ :=sBk μ hb;replace Z:=sBk Z hb;replace HB:=sHb hb;clear hb hbox hg)|((with_reducible refine Qr (N:=6) rfl ?_);refine qE 6 #[.slice none 0 0,.slice none 0 0] 27 ?_;intro τ hg w9 hbox hb;have O:=Aside0.mk hbox;have ey:=sGe hg;have f8:=sGe hg;have γ:=sNl μ hg;have ξ :=sNg μ hg;have ι :=sNl Z hg;have a1:=sNg Z hg;have Y:=sNl U hg;have a3:=sNg U hg;replace μ :=sBk μ hb;replace Z:=sBk Z hb;replace U:=sBk U hb;replace HB:=sHb hb;clear hb hbox hg))
 replace μ :=Aside0.mk (Qa μ.out)
 replace Z:=Aside0.mk (Qa Z.out)
 replace U:=Aside0.mk (Qa U.out)
 replace O:=Aside0.mk (Qa O.out)
 replace HB:=Aside0.mk (Qf HB.out)
 refine Zn (n:=19) (S:=fun w'=>w'.cell? ⟨a6,0,none⟩=some (.int .i64 I)∧w'.cell? ⟨a6,1,none⟩=some (.int .i64 J)∧w'.cell? ⟨ν,0,none⟩=some (.slice η B.length δ)∧w'.cell? ⟨ν,1,none⟩=some (.slice θ D.length ε)∧w'.cell? ⟨a9,0,none⟩=some (.int .i64 X)∧w'.cell? ⟨a9,1,none⟩=some (.int .i64 L)∧w'.cell? ⟨a9,2,none⟩=some (.int .i64 ζ)) (ds:=[]) #[false,false,false,false,false,false,false,false,false,false,false,false,false,false,false,false,false,false,false] kr rfl rfl ⟨(Ql μ.out 0).trans rfl,(Ql μ.out 1).trans rfl,(Ql Z.out 0).trans rfl,(Ql Z.out 1).trans rfl,(Ql U.out 0).trans rfl,(Ql U.out 1).trans rfl,(Ql U.out 2).trans rfl⟩ (fun hHeld=>?_);refine Q8 call_Give.Gh call_Give.Jt (fun HT_ HW_=>?_)
 generalize w9.drew=em at μ Z U O HB hHeld ⊢
 refine qP 13 (some 21) (bN 19 8192) HT_ ?_
 refine qT 0 (some 8) (bN 19 8193) HT_ HW_ hHeld ?_
 refine qT 1 (some 9) (bN 19 8195) HT_ HW_ hHeld ?_
 refine qT 2 (some 10) (bN 19 8199) HT_ HW_ hHeld ?_
 refine qT 4 (some 12) (bN 19 8215) HT_ HW_ hHeld ?_
 refine qT 6 (some 14) (bN 19 8279) HT_ HW_ hHeld ?_
 refine qT 9 (some 17) (bN 19 8791) HT_ HW_ hHeld ?_
 refine qT 10 (some 18) (bN 19 9815) HT_ HW_ hHeld ?_
 refine Zg (i:=3) (N:=some 11) (bN 19 9823) rfl rfl (Q1 HT_.out kr) (by decide) (fun K hK=>?_)
 refine Ze Try.func34 kr rfl #[.agg #[.int .i64 I,.int .i64 J]] (by rfl) rfl rfl qM ?_
 refine(Ja I J _).mono ?_
 rintro e ea ⟨ap,rfl,hgp,hgw,hb⟩
 have bo:=Aside0.mk hgp
 clear hgp hgw
 refine⟨_,rfl, ?_⟩
 replace μ :=sBk μ hb
 replace Z:=sBk Z hb
 replace U:=sBk U hb
 replace O:=sBk O hb
 replace HB:=sHb hb
 (try clear hb)
 (try clear a0)
 (try clear hk)
 (try clear hi)
 refine hK.out _ _ ⟨qc μ,qc μ,qc Z,qc Z,qc U,qc U,qc U⟩ (fun hHeld=>?_)
 clear hK K
 refine qN (some 11) ?_
 refine Zg (i:=5) (N:=some 13) (bN 19 9855) rfl rfl (Q1 HT_.out kr) (by decide) (fun K hK=>?_)
 refine Xm Try.func61 kr rfl #[] #[.pointer (some ⟨ap,0,none⟩)] #[.agg #[.int .i64 X,.int .i64 L,.int .i64 ζ]] #[.agg #[.int .i64 X,.int .i64 L,.int .i64 ζ],.pointer (some ⟨ap,0,none⟩)] rfl (by rfl) rfl rfl rfl qM ?_
 refine(Ke I J X L ζ ρ _ (Option.some.inj A4.out) ap bo.out).mono ?_
 rintro e e5 ⟨rfl,hb⟩
 refine⟨_,rfl, ?_⟩
 replace μ :=sBk μ hb
 replace Z:=sBk Z hb
 replace U:=sBk U hb
 replace O:=sBk O hb
 replace HB:=sHb hb
 (try clear hb)
 (try clear a0)
 (try clear hk)
 (try clear hi)
 refine hK.out _ _ ⟨qc μ,qc μ,qc Z,qc Z,qc U,qc U,qc U⟩ (fun hHeld=>?_)
 clear hK K
 refine qN (some 13) ?_
 refine Zg (i:=7) (N:=some 15) (bN 19 9983) rfl rfl (Q1 HT_.out kr) (by decide) (fun K hK=>?_)
 refine Ze Try.func30 kr rfl #[.agg #[.slice η B.length δ,.slice θ D.length ε]] (by rfl) rfl rfl qM ?_
 refine(Yb η θ B.length D.length δ ε _).mono ?_
 rintro e eb ⟨rfl,hb⟩
 refine⟨_,rfl, ?_⟩
 replace μ :=sBk μ hb
 replace Z:=sBk Z hb
 replace U:=sBk U hb
 replace O:=sBk O hb
 replace HB:=sHb hb
 (try clear hb)
 (try clear a0)
 (try clear hk)
 (try clear hi)
 refine hK.out _ _ ⟨qc μ,qc μ,qc Z,qc Z,qc U,qc U,qc U⟩ (fun hHeld=>?_)
 clear hK K
 refine qN (some 15) ?_
 refine qP 8 (some 16) (bN 19 10239) HT_ ?_
 refine Zg (i:=11) (N:=some 19) (bN 19 12287) rfl rfl (Q1 HT_.out kr) (by decide) (fun K hK=>?_)
 refine Ze Try.func32 kr rfl #[.agg #[.slice η B.length δ,.slice θ D.length ε]] (by rfl) rfl rfl qM ?_
 refine(Yi η θ B.length D.length δ ε _).mono ?_
 rintro e ec ⟨rfl,hb⟩
 refine⟨_,rfl, ?_⟩
 replace μ :=sBk μ hb
 replace Z:=sBk Z hb
 replace U:=sBk U hb
 replace O:=sBk O hb
 replace HB:=sHb hb
 (try clear hb)
 (try clear a0)
 (try clear hk)
 (try clear hi)
 refine hK.out _ _ ⟨qc μ,qc μ,qc Z,qc Z,qc U,qc U,qc U⟩ (fun hHeld=>?_)
 clear hK K
 refine qN (some 19) ?_
 refine qP 12 (some 20) (bN 19 16383) HT_ ?_
 refine Zg (i:=14) (N:=some 22) (bN 19 32767) rfl rfl (Q1 HT_.out kr) (by decide) (fun K hK=>?_)
 refine Ze Try.func28 kr rfl #[.agg #[.int .i64 I,.int .i64 J],.agg #[.slice η B.length δ,.slice θ D.length ε],.bool ρ,.func (.func 47) #[.agg #[.slice η B.length δ,.func (.func 51) #[] #[]]] #[],.agg #[.int .i64 X,.int .i64 L,.int .i64 ζ],.func (.func 36) #[.agg #[.slice θ D.length ε,.func (.func 57) #[] #[]]] #[],.agg #[.int .i64 (-2),.int .i64 0]] (by rfl) rfl rfl qM ?_
 refine(call_change.calls _ _ k I J η δ B θ ε D ρ 0 X L ζ 0 (-2) 0 χ σ ae _ ?side1 ?side2 ?side3 ?side4 A5.out 47 Try.f47 (.agg #[.slice η B.length δ,.func (.func 51) #[] #[]]) Try.func47 kr rfl (fun W t ht hb=>Vl η δ B _ _ _ t W (Kd.Qx (Kd.Qx ag.out (by repeat(first|(with_reducible first|exact HB.out|apply Qh|apply Qb|apply Qf)|exact HB.out|(refine Qc ?_ (Aside0.out (by assumption)))))) hb) ar.out ht) 36 Try.f36 (.agg #[.slice θ D.length ε,.func (.func 57) #[] #[]]) Try.func36 kr rfl (fun W t ht hb=>Y5 θ ε D _ _ t W (Kd.Qx (Kd.Qx ah.out (by repeat(first|(with_reducible first|exact HB.out|apply Qh|apply Qb|apply Qf)|exact HB.out|(refine Qc ?_ (Aside0.out (by assumption)))))) hb) aw.out ht)).mono ?_
 (case side1=>exact(Kd.Qx ag.out HB.out))
 (case side2=>exact ar.out)
 (case side3=>exact(Kd.Qx ah.out HB.out))
 (case side4=>exact aw.out)
 rintro e dt ⟨bu,br,rfl,φ,a7,hb⟩
 refine⟨_,rfl, ?_⟩
 have bb:=Aside0.mk (Kd.Q2 (Kd.Zs φ (g:=a9) (o:=.cells #[.int .i64 X,.int .i64 L,.int .i64 ζ] 56 (0,0)) U.out) (Qi HB.out))
 have a5:=Aside0.mk (Kd.Q2 a7 (Qi HB.out))
 replace μ :=sBk μ hb
 replace Z:=sBk Z hb
 replace U:=sBk U hb
 replace O:=sBk O hb
 replace HB:=sHb hb
 (try clear hb)
 (try clear a0)
 (try clear hk)
 (try clear hi)
 (try clear φ)
 (try clear a7)
 obtain⟨ak,a2,b8⟩:=Kd.Q4 bb.out
 (first|subst b8|(injection b8 with ψ aa ω;have ab:= ψ.symm;have ac:= ω.symm;clear ψ aa ω;subst ab;subst ac))
 obtain⟨ao,au,am⟩:=Kd.Q4 a5.out
 (first|subst am|(injection am with ψ aa ω;have ab:= ψ.symm;have ac:= ω.symm;clear ψ aa ω;subst ab;subst ac))
 refine hK.out _ _ ⟨qc μ,qc μ,qc Z,qc Z,qc U,qc U,qc U⟩ (fun hHeld=>?_)
 clear hK K
 refine qN (some 22) ?_
 refine qP 15 (some 23) (bN 19 65535) HT_ ?_
 refine qP 16 (some 24) (bN 19 131071) HT_ ?_
 refine Zg (i:=17) (N:=none) (bN 19 262143) rfl rfl (Q1 HT_.out kr) (by decide) (fun K hK=>?_)
 have bs:dt.cell? ⟨τ,0,none⟩=some (.slice none 0 0):=(Ql O.out 0).trans rfl
 have bp:=Q6 O.out 0
 have az:=γ.out
 have b1:= ι.out
 have b2:=Y.out
 have bc:= ξ.out
 have be:=a1.out
 have bf:=a3.out
 have ba:dt.cell? ⟨τ,1,none⟩=some (.slice none 0 0):=(Ql O.out 1).trans rfl
 have b0:=Q6 O.out 1
 have av:=γ.out
 have bg:= ι.out
 have bj:=Y.out
 have ax:= ξ.out
 have bk:=a1.out
 have bl:=a3.out
 refine Js (w1:=?_) (by rfl) rfl ?_ ?_
 rotate_left
 ·go_simp
  rfl
 refine hK.out _ _ ⟨((cell_far (p:=⟨τ,_,none⟩) γ.out _).trans (((cell_far (p:=⟨τ,_,none⟩) γ.out _).trans (hHeld.1)))),((cell_far (p:=⟨τ,_,none⟩) γ.out _).trans (((cell_far (p:=⟨τ,_,none⟩) γ.out _).trans (hHeld.2.1)))),((cell_far (p:=⟨τ,_,none⟩) ι.out _).trans (((cell_far (p:=⟨τ,_,none⟩) ι.out _).trans (hHeld.2.2.1)))),((cell_far (p:=⟨τ,_,none⟩) ι.out _).trans (((cell_far (p:=⟨τ,_,none⟩) ι.out _).trans (hHeld.2.2.2.1)))),((cell_far (p:=⟨τ,_,none⟩) Y.out _).trans (((cell_far (p:=⟨τ,_,none⟩) Y.out _).trans (hHeld.2.2.2.2.1)))),((cell_far (p:=⟨τ,_,none⟩) Y.out _).trans (((cell_far (p:=⟨τ,_,none⟩) Y.out _).trans (hHeld.2.2.2.2.2.1)))),((cell_far (p:=⟨τ,_,none⟩) Y.out _).trans (((cell_far (p:=⟨τ,_,none⟩) Y.out _).trans (hHeld.2.2.2.2.2.2))))⟩ (fun hHeld=>?_)
 clear hK K
 refine qP 18 (some 7) (bN 19 524287) HT_ ?_
 refine Zu (Zj HT_.out kr) ?_
 try go_wp2
 refine bodyPost_ret (Xi rfl _ _ τ 27 #[.slice ak χ.length a2,.slice ao σ.length au] (0,0) _ rfl (by refine Qv (cs:=#[.slice ak χ.length a2,.slice none 0 0]) ?_ 1 _ rfl;refine Qv (cs:=#[.slice none 0 0,.slice none 0 0]) ?_ 0 _ rfl;exact O.out) Try.underlying27 rfl kr) rfl ?_
 exact⟨_,_,by first|rfl|(simp[Qz,Qy] <;> rfl)|(simp[*,Qz,Qy] <;> rfl),by(with_reducible repeat first|apply Kd.Qk|apply Kd.Qj|apply Kd.Qn);exact Kd.Qq (Kd.Qs (Kd.Qs (Kd.Qw bb.out O.out (by decide)) (fun _ hk=>hk.2) _) (fun _ hk=>hk.2) _) (fun _ hk=>trivial),by(with_reducible repeat first|apply Kd.Qk|apply Kd.Qj|apply Kd.Qn);exact Kd.Qq (Kd.Qs (Kd.Qs (Kd.Qw a5.out O.out (by decide)) (fun _ hk=>hk.2) _) (fun _ hk=>hk.2) _) (fun _ hk=>trivial),bel⟩
end Go.Proofs.Ytjehhhlhalkieaa.C
