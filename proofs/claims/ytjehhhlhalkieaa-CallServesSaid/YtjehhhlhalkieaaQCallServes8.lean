/- Texts of this claim, one behind the other: what the law's functions come to, walked (printed by a program, with the words that the print uses), and what that is, in plain Lean. No conditions of their own. -/
import Derived.Test.YtjehhhlhalkieaaQCallServes7
namespace Go.Proofs.Ytjehhhlhalkieaa.C
open Go.RowKit Go.Proofs.YtjehhhlhalkieaaW.PrintWords Go.Proofs.YtjehhhlhalkieaaW.PrintLast Go.Proofs.YtjehhhlhalkieaaW.PrintMore
attribute [local go_sem] Z3 Z1 Xb Xa Zt Zs Z2 Z0
set_option linter.unusedVariables false
set_option linter.unusedSimpArgs false
def call_Give.f (k:Nat) (D:Int) (I:Int) (B:List (S56)) (J:List (S62)) (Y:Int) (X:Int) (θ :Int):Option ((List (S56))×(List (S62))×Int):=(hallP.f Y X θ D I).bind fun τ =>((call_change.f (setP_H.f Y X θ B) (woP_I.f (-2) 0 J) k D I B J τ 0 Y X θ 0 (-2) 0).bind fun φ =>(some (φ.1,φ.2.1,φ.2.2)))
theorem call_Give.mono:∀ D J a2 X L a5 O k,LeO (call_Give.f k D J a2 X L a5 O) (call_Give.f (k+1) D J a2 X L a5 O):=by
 intro D J a2 X L a5 O k
 unfold call_Give.f
 repeat' first
   |(with_reducible exact call_change.mono _ _ _ _ _ _ _ _ _ _ _ _ _ _ _)
   |(with_reducible exact LeO.refl _)
   |(with_reducible exact LeO.none _)
   |(with_reducible refine LeO.ite ?_ ?_)
   |(with_reducible refine LeO.bind ?_ (fun _=>?_))
   |exact call_change.mono _ _ _ _ _ _ _ _ _ _ _ _ _ _ _
   |exact LeO.none _
   |refine LeO.ite ?_ ?_
   |refine LeO.bind ?_ (fun _=>?_)
def call_Give.T1:Bool×List (List Nat×List Nat):=(true,[([],[]),([],[]),([],[]),([2],[2]),([],[]),([3,4,3],[3,4]),([],[]),([6,5],[6]),([7],[7]),([],[]),([],[]),([10,7],[10]),([11],[11]),([],[]),([0,1,5,8,9,12,13,11],[0,1,5,8,9,12,13]),([14],[14]),([14],[14]),([15,14,0,1,2,3,4,5,6,7,8,9,10,11,12,13,14,15,16],[15]),([16,17,0,1,2,3,4,5,6,7,8,9,10,11,12,13,14,15,16,17],[16])])
def call_Give.B1:List Nat:=[0,0,0,4,0,28,0,124,252,0,0,1276,3324,0,16383,32767,32767,131071,262143]
theorem call_Give.Gk:rtab .any (opsOf Try.f24 1)=call_Give.T1:=by kernel_rfl
theorem call_Give.Ju:Zp call_Give.T1.2 call_Give.B1=true:=by kernel_rfl
set_option maxHeartbeats 8000000 in
set_option maxRecDepth 100000 in
theorem call_Give.calls (k:Nat) (D:Int) (I:Int) (ζ :Option Addr) (γ:Nat) (B:List (S56)) (η :Option Addr) (δ :Nat) (J:List (S62)) (Y:Int) (X:Int) (θ :Int) (r1:List (S56)) (r2:List (S62)) (r3:Int) (w:World) (bj:Kd.C k56 w ζ B.length B) (bk:B.length≤γ) (bl:Kd.C k62 w η J.length J) (bm:J.length ≤ δ) (h:call_Give.f k D I B J Y X θ = some (r1,r2,r3)):
  Calls Try.prog 24 #[.agg #[.int .i64 D,.int .i64 I],.agg #[.slice ζ B.length γ,.slice η J.length δ],.agg #[.int .i64 Y,.int .i64 X,.int .i64 θ]] w fun e w'=>∃ a6 b0:Value,e = .returned (.tuple #[.agg #[a6,b0],.int .i64 r3])∧Kd.R k56 56 w' w.heap.size (fun _=>True) a6 r1∧Kd.R k62 62 w' w.heap.size (fun _=>True) b0 r2∧Below w.heap.size w w':=by
 have et:=Try.underlying23
 have eh:=Try.underlying27
 have b2:=Try.underlying56
 have b9:=Try.underlying62
 have ai:=Aside0.mk bj
 have ay:=Aside0.mk bk
 clear bj bk
 have ak:=Aside0.mk bl
 have az:=Aside0.mk bm
 clear bl bm
 have HB:=Aside0.mk (Below.refl w.heap.size w)
 have H:((hallP.f Y X θ D I).bind fun τ =>((call_change.f (setP_H.f Y X θ B) (woP_I.f (-2) 0 J) k D I B J τ 0 Y X θ 0 (-2) 0).bind fun φ =>(some (φ.1,φ.2.1,φ.2.2))))=some (r1,r2,r3):=h
 clear h
 replace H:=Option.bind_eq_some_iff.mp H
 obtain⟨τ,cy,H⟩:=H
 replace H:((call_change.f (setP_H.f Y X θ B) (woP_I.f (-2) 0 J) k D I B J τ 0 Y X θ 0 (-2) 0).bind fun φ =>(some (φ.1,φ.2.1,φ.2.2)))=some (r1,r2,r3):=H
 have A4:=Aside0.mk cy
 clear cy
 replace H:=Option.bind_eq_some_iff.mp H
 obtain⟨⟨ω,ac,aa⟩,bv,H⟩:=H
 replace H:(some (ω,ac,aa))=some (r1,r2,r3):=H
 have A5:=Aside0.mk bv
 clear bv
 simp only[Option.some.injEq,Prod.mk.injEq] at H
 obtain⟨rfl,rfl,rfl⟩:=H
 go_enter Try.func24,Try.ntmps24
 try go_wp2_with (first|((with_reducible refine Qs (N:=3) rfl ?_);refine qE 3 #[.int .i64 D,.int .i64 I] 23 ?_;intro σ hg w6 hbox hb;have μ :=Aside0.mk hbox;have bi:=sGe hg;have b6:=sGe hg;replace HB:=sHb hb;clear hb hbox hg)|((with_reducible refine Qs (N:=4) rfl ?_);refine qE 4 #[.slice ζ B.length γ,.slice η J.length δ] 27 ?_;intro U hg w7 hbox hb;have O:=Aside0.mk hbox;have ρ:=sGe hg;have ca:=sGe hg;have ae:=sNl μ hg;have af:=sNg μ hg;replace μ :=sBk μ hb;replace HB:=sHb hb;clear hb hbox hg)|((with_reducible refine Qs (N:=5) rfl ?_);refine qE 5 #[.int .i64 Y,.int .i64 X,.int .i64 θ] 56 ?_;intro a5 hg w8 hbox hb;have Z:=Aside0.mk hbox;have bh:=sGe hg;have bn:=sGe hg;have ag:=sNl μ hg;have ah:=sNg μ hg;have aj:=sNl O hg;have al:=sNg O hg;replace μ :=sBk μ hb;replace O:=sBk O hb;replace HB:=sHb hb;clear hb hbox hg)|((with_reducible refine Qs (N:=6) rfl ?_);refine qE 6 #[.slice none 0 0,.slice none 0 0] 27 ?_;intro χ hg w9 hbox hb;have L:=Aside0.mk hbox;have ey:=sGe hg;have ez:=sGe hg;have ι :=sNl μ hg;have a0:=sNg μ hg;have κ :=sNl O hg;have a1:=sNg O hg;have ε :=sNl Z hg;have a3:=sNg Z hg;replace μ :=sBk μ hb;replace O:=sBk O hb;replace Z:=sBk Z hb;replace HB:=sHb hb;clear hb hbox hg))
 replace μ :=Aside0.mk (Qa μ.out)
 replace O:=Aside0.mk (Qa O.out)
 replace Z:=Aside0.mk (Qa Z.out)
 replace L:=Aside0.mk (Qa L.out)
 replace HB:=Aside0.mk (Qf HB.out)
 refine Zm (n:=19) (S:=fun w'=>w'.cell? ⟨σ,0,none⟩=some (.int .i64 D)∧w'.cell? ⟨σ,1,none⟩=some (.int .i64 I)∧w'.cell? ⟨U,0,none⟩=some (.slice ζ B.length γ)∧w'.cell? ⟨U,1,none⟩=some (.slice η J.length δ)∧w'.cell? ⟨a5,0,none⟩=some (.int .i64 Y)∧w'.cell? ⟨a5,1,none⟩=some (.int .i64 X)∧w'.cell? ⟨a5,2,none⟩=some (.int .i64 θ)) (ds:=[]) #[false,false,false,false,false,false,false,false,false,false,false,false,false,false,false,false,false,false,false] kr rfl rfl ⟨(Qi μ.out 0).trans rfl,(Qi μ.out 1).trans rfl,(Qi O.out 0).trans rfl,(Qi O.out 1).trans rfl,(Qi Z.out 0).trans rfl,(Qi Z.out 1).trans rfl,(Qi Z.out 2).trans rfl⟩ (fun hHeld=>?_);refine Q7 call_Give.Gk call_Give.Ju (fun HT_ HW_=>?_)
 generalize w9.drew=e4 at μ O Z L HB hHeld ⊢
 refine qP 13 (some 21) (bN 19 8192) HT_ ?_
 refine qT 0 (some 8) (bN 19 8193) HT_ HW_ hHeld ?_
 refine qT 1 (some 9) (bN 19 8195) HT_ HW_ hHeld ?_
 refine qT 2 (some 10) (bN 19 8199) HT_ HW_ hHeld ?_
 refine qT 4 (some 12) (bN 19 8215) HT_ HW_ hHeld ?_
 refine qT 6 (some 14) (bN 19 8279) HT_ HW_ hHeld ?_
 refine qT 9 (some 17) (bN 19 8791) HT_ HW_ hHeld ?_
 refine qT 10 (some 18) (bN 19 9815) HT_ HW_ hHeld ?_
 refine Zi (i:=3) (N:=some 11) (bN 19 9823) rfl rfl (Q2 HT_.out kr) (by decide) (fun K hK=>?_)
 refine Zh Try.func34 kr rfl #[.agg #[.int .i64 D,.int .i64 I]] (by rfl) rfl rfl qM ?_
 refine(Je D I _).mono ?_
 rintro e en ⟨ba,rfl,hgp,hgw,hb⟩
 have br:=Aside0.mk hgp
 clear hgp hgw
 refine⟨_,rfl, ?_⟩
 replace μ :=sBk μ hb
 replace O:=sBk O hb
 replace Z:=sBk Z hb
 replace L:=sBk L hb
 replace HB:=sHb hb
 (try clear hb)
 (try clear a4)
 (try clear hk)
 (try clear hi)
 refine hK.out _ _ ⟨qc μ,qc μ,qc O,qc O,qc Z,qc Z,qc Z⟩ (fun hHeld=>?_)
 clear hK K
 refine qN (some 11) ?_
 refine Zi (i:=5) (N:=some 13) (bN 19 9855) rfl rfl (Q2 HT_.out kr) (by decide) (fun K hK=>?_)
 refine Xj Try.func61 kr rfl #[] #[.pointer (some ⟨ba,0,none⟩)] #[.agg #[.int .i64 Y,.int .i64 X,.int .i64 θ]] #[.agg #[.int .i64 Y,.int .i64 X,.int .i64 θ],.pointer (some ⟨ba,0,none⟩)] rfl (by rfl) rfl rfl rfl qM ?_
 refine(Kf D I Y X θ τ _ (Option.some.inj A4.out) ba br.out).mono ?_
 rintro e d6 ⟨rfl,hb⟩
 refine⟨_,rfl, ?_⟩
 replace μ :=sBk μ hb
 replace O:=sBk O hb
 replace Z:=sBk Z hb
 replace L:=sBk L hb
 replace HB:=sHb hb
 (try clear hb)
 (try clear a4)
 (try clear hk)
 (try clear hi)
 refine hK.out _ _ ⟨qc μ,qc μ,qc O,qc O,qc Z,qc Z,qc Z⟩ (fun hHeld=>?_)
 clear hK K
 refine qN (some 13) ?_
 refine Zi (i:=7) (N:=some 15) (bN 19 9983) rfl rfl (Q2 HT_.out kr) (by decide) (fun K hK=>?_)
 refine Zh Try.func30 kr rfl #[.agg #[.slice ζ B.length γ,.slice η J.length δ]] (by rfl) rfl rfl qM ?_
 refine(Yd ζ η B.length J.length γ δ _).mono ?_
 rintro e eo ⟨rfl,hb⟩
 refine⟨_,rfl, ?_⟩
 replace μ :=sBk μ hb
 replace O:=sBk O hb
 replace Z:=sBk Z hb
 replace L:=sBk L hb
 replace HB:=sHb hb
 (try clear hb)
 (try clear a4)
 (try clear hk)
 (try clear hi)
 refine hK.out _ _ ⟨qc μ,qc μ,qc O,qc O,qc Z,qc Z,qc Z⟩ (fun hHeld=>?_)
 clear hK K
 refine qN (some 15) ?_
 refine qP 8 (some 16) (bN 19 10239) HT_ ?_
 refine Zi (i:=11) (N:=some 19) (bN 19 12287) rfl rfl (Q2 HT_.out kr) (by decide) (fun K hK=>?_)
 refine Zh Try.func32 kr rfl #[.agg #[.slice ζ B.length γ,.slice η J.length δ]] (by rfl) rfl rfl qM ?_
 refine(Yr ζ η B.length J.length γ δ _).mono ?_
 rintro e ep ⟨rfl,hb⟩
 refine⟨_,rfl, ?_⟩
 replace μ :=sBk μ hb
 replace O:=sBk O hb
 replace Z:=sBk Z hb
 replace L:=sBk L hb
 replace HB:=sHb hb
 (try clear hb)
 (try clear a4)
 (try clear hk)
 (try clear hi)
 refine hK.out _ _ ⟨qc μ,qc μ,qc O,qc O,qc Z,qc Z,qc Z⟩ (fun hHeld=>?_)
 clear hK K
 refine qN (some 19) ?_
 refine qP 12 (some 20) (bN 19 16383) HT_ ?_
 refine Zi (i:=14) (N:=some 22) (bN 19 32767) rfl rfl (Q2 HT_.out kr) (by decide) (fun K hK=>?_)
 refine Zh Try.func28 kr rfl #[.agg #[.int .i64 D,.int .i64 I],.agg #[.slice ζ B.length γ,.slice η J.length δ],.bool τ,.func (.func 47) #[.agg #[.slice ζ B.length γ,.func (.func 51) #[] #[]]] #[],.agg #[.int .i64 Y,.int .i64 X,.int .i64 θ],.func (.func 36) #[.agg #[.slice η J.length δ,.func (.func 57) #[] #[]]] #[],.agg #[.int .i64 (-2),.int .i64 0]] (by rfl) rfl rfl qM ?_
 refine(call_change.calls _ _ k D I ζ γ B η δ J τ 0 Y X θ 0 (-2) 0 ω ac aa _ ?side1 ?side2 ?side3 ?side4 A5.out 47 Try.f47 (.agg #[.slice ζ B.length γ,.func (.func 51) #[] #[]]) Try.func47 kr rfl (fun W t ht hb=>Vr ζ γ B _ _ _ t W (Kd.Qx (Kd.Qx ai.out (by repeat(first|(with_reducible first|exact HB.out|apply Qh|apply Qc|apply Qf)|exact HB.out|(refine Qd ?_ (Aside0.out (by assumption)))))) hb) ay.out ht) 36 Try.f36 (.agg #[.slice η J.length δ,.func (.func 57) #[] #[]]) Try.func36 kr rfl (fun W t ht hb=>Ja η δ J _ _ t W (Kd.Qx (Kd.Qx ak.out (by repeat(first|(with_reducible first|exact HB.out|apply Qh|apply Qc|apply Qf)|exact HB.out|(refine Qd ?_ (Aside0.out (by assumption)))))) hb) az.out ht)).mono ?_
 (case side1=>exact(Kd.Qx ai.out HB.out))
 (case side2=>exact ay.out)
 (case side3=>exact(Kd.Qx ak.out HB.out))
 (case side4=>exact az.out)
 rintro e d5 ⟨cg,bp,rfl,ψ,a2,hb⟩
 refine⟨_,rfl, ?_⟩
 have b8:=Aside0.mk (Kd.Q1 (Kd.Xo ψ (g:=a5) (o:=.cells #[.int .i64 Y,.int .i64 X,.int .i64 θ] 56 (0,0)) Z.out) (Ql HB.out))
 have ab:=Aside0.mk (Kd.Q1 a2 (Ql HB.out))
 replace μ :=sBk μ hb
 replace O:=sBk O hb
 replace Z:=sBk Z hb
 replace L:=sBk L hb
 replace HB:=sHb hb
 (try clear hb)
 (try clear a4)
 (try clear hk)
 (try clear hi)
 (try clear ψ)
 (try clear a2)
 obtain⟨ax,au,b7⟩:=Kd.Q3 b8.out
 (first|subst b7|(injection b7 with ν a7 ξ;have a8:= ν.symm;have a9:= ξ.symm;clear ν a7 ξ;subst a8;subst a9))
 obtain⟨ap,ar,an⟩:=Kd.Q3 ab.out
 (first|subst an|(injection an with ν a7 ξ;have a8:= ν.symm;have a9:= ξ.symm;clear ν a7 ξ;subst a8;subst a9))
 refine hK.out _ _ ⟨qc μ,qc μ,qc O,qc O,qc Z,qc Z,qc Z⟩ (fun hHeld=>?_)
 clear hK K
 refine qN (some 22) ?_
 refine qP 15 (some 23) (bN 19 65535) HT_ ?_
 refine qP 16 (some 24) (bN 19 131071) HT_ ?_
 refine Zi (i:=17) (N:=none) (bN 19 262143) rfl rfl (Q2 HT_.out kr) (by decide) (fun K hK=>?_)
 have bq:d5.cell? ⟨χ,0,none⟩=some (.slice none 0 0):=(Qi L.out 0).trans rfl
 have bo:=Q6 L.out 0
 have am:= ι.out
 have ao:= κ.out
 have av:= ε.out
 have b4:=a0.out
 have b5:=a1.out
 have bc:=a3.out
 have bb:d5.cell? ⟨χ,1,none⟩=some (.slice none 0 0):=(Qi L.out 1).trans rfl
 have b3:=Q6 L.out 1
 have aw:= ι.out
 have bd:= κ.out
 have be:= ε.out
 have b1:=a0.out
 have bf:=a1.out
 have bg:=a3.out
 refine Yl (w1:=?_) (by rfl) rfl ?_ ?_
 rotate_left
 ·go_simp
  rfl
 refine hK.out _ _ ⟨((cell_far (p:=⟨χ,_,none⟩) ι.out _).trans (((cell_far (p:=⟨χ,_,none⟩) ι.out _).trans (hHeld.1)))),((cell_far (p:=⟨χ,_,none⟩) ι.out _).trans (((cell_far (p:=⟨χ,_,none⟩) ι.out _).trans (hHeld.2.1)))),((cell_far (p:=⟨χ,_,none⟩) κ.out _).trans (((cell_far (p:=⟨χ,_,none⟩) κ.out _).trans (hHeld.2.2.1)))),((cell_far (p:=⟨χ,_,none⟩) κ.out _).trans (((cell_far (p:=⟨χ,_,none⟩) κ.out _).trans (hHeld.2.2.2.1)))),((cell_far (p:=⟨χ,_,none⟩) ε.out _).trans (((cell_far (p:=⟨χ,_,none⟩) ε.out _).trans (hHeld.2.2.2.2.1)))),((cell_far (p:=⟨χ,_,none⟩) ε.out _).trans (((cell_far (p:=⟨χ,_,none⟩) ε.out _).trans (hHeld.2.2.2.2.2.1)))),((cell_far (p:=⟨χ,_,none⟩) ε.out _).trans (((cell_far (p:=⟨χ,_,none⟩) ε.out _).trans (hHeld.2.2.2.2.2.2))))⟩ (fun hHeld=>?_)
 clear hK K
 refine qP 18 (some 7) (bN 19 524287) HT_ ?_
 refine Zr (Ze HT_.out kr) ?_
 try go_wp2
 refine bodyPost_ret (Xh rfl _ _ χ 27 #[.slice ax ω.length au,.slice ap ac.length ar] (0,0) _ rfl (by refine Qw (cs:=#[.slice ax ω.length au,.slice none 0 0]) ?_ 1 _ rfl;refine Qw (cs:=#[.slice none 0 0,.slice none 0 0]) ?_ 0 _ rfl;exact L.out) Try.underlying27 rfl kr) rfl ?_
 exact⟨_,_,by first|rfl|(simp[Qz,Qy] <;> rfl)|(simp[*,Qz,Qy] <;> rfl),by(with_reducible repeat first|apply Kd.Qk|apply Kd.Qj|apply Kd.Qm);exact Kd.Qq (Kd.Qr (Kd.Qr (Kd.Qu b8.out L.out (by decide)) (fun _ hk=>hk.2) _) (fun _ hk=>hk.2) _) (fun _ hk=>trivial),by(with_reducible repeat first|apply Kd.Qk|apply Kd.Qj|apply Kd.Qm);exact Kd.Qq (Kd.Qr (Kd.Qr (Kd.Qu ab.out L.out (by decide)) (fun _ hk=>hk.2) _) (fun _ hk=>hk.2) _) (fun _ hk=>trivial),bel⟩
end Go.Proofs.Ytjehhhlhalkieaa.C
