/- Texts of this claim, one behind the other: what the law's functions come to, walked (printed by a program, with the words that the print uses), and what that is, in plain Lean. No conditions of their own. -/
import Derived.Test.YtjehhhlhalkieaaQCallPresses7
namespace Go.Proofs.Ytjehhhlhalkieaa.C
open Go.RowKit Go.Proofs.YtjehhhlhalkieaaW.PrintWords Go.Proofs.YtjehhhlhalkieaaW.PrintLast Go.Proofs.YtjehhhlhalkieaaW.PrintMore
attribute [local go_sem] Z4 Z2 Xe Xd Zx Zw Z3 Z1
set_option linter.unusedVariables false
set_option linter.unusedSimpArgs false
def call_Give.f (k:Nat) (J:Int) (D:Int) (B:List (S56)) (I:List (S62)) (δ :Int) (L:Int) (θ :Int):Option ((List (S56))×(List (S62))×Int):=(hallP.f δ L θ J D).bind fun κ =>((call_change.f (setP_H.f δ L θ B) (woP_I.f (-2) 0 I) k J D B I κ 0 δ L θ 0 (-2) 0).bind fun ξ =>(some (ξ.1,ξ.2.1,ξ.2.2)))
theorem call_Give.mono:∀ D L a2 X I a5 J k,LeO (call_Give.f k D L a2 X I a5 J) (call_Give.f (k+1) D L a2 X I a5 J):=by
 intro D L a2 X I a5 J k
 unfold call_Give.f
 repeat' first
   |(with_reducible exact call_change.mono _ _ _ _ _ _ _ _ _ _ _ _ _ _ _)
   |(with_reducible exact LeO.refl _)
   |(with_reducible exact LeO.none _)
   |(with_reducible refine LeO.ite ?_ ?_)
   |(with_reducible refine LeO.bind ?_ (fun _=>?_))
   |exact call_change.mono _ _ _ _ _ _ _ _ _ _ _ _ _ _ _
   |exact LeO.none _
   |refine LeO.ite ?_ ?_
   |refine LeO.bind ?_ (fun _=>?_)
def call_Give.T1:Bool×List (List Nat×List Nat):=(true,[([],[]),([],[]),([],[]),([2],[2]),([],[]),([3,4,3],[3,4]),([],[]),([6,5],[6]),([7],[7]),([],[]),([],[]),([10,7],[10]),([11],[11]),([],[]),([0,1,5,8,9,12,13,11],[0,1,5,8,9,12,13]),([14],[14]),([14],[14]),([15,14,0,1,2,3,4,5,6,7,8,9,10,11,12,13,14,15,16],[15]),([16,17,0,1,2,3,4,5,6,7,8,9,10,11,12,13,14,15,16,17],[16])])
def call_Give.B1:List Nat:=[0,0,0,4,0,28,0,124,252,0,0,1276,3324,0,16383,32767,32767,131071,262143]
theorem call_Give.Gu:rtab .any (opsOf Try.f24 1)=call_Give.T1:=by kernel_rfl
theorem call_Give.J2:Zv call_Give.T1.2 call_Give.B1=true:=by kernel_rfl
set_option maxHeartbeats 8000000 in
set_option maxRecDepth 100000 in
theorem call_Give.calls (k:Nat) (J:Int) (D:Int) (ζ :Option Addr) (γ:Nat) (B:List (S56)) (η :Option Addr) (ε :Nat) (I:List (S62)) (δ :Int) (L:Int) (θ :Int) (r1:List (S56)) (r2:List (S62)) (r3:Int) (w:World) (b4:Kd.C k56 w ζ B.length B) (b5:B.length≤γ) (b6:Kd.C k62 w η I.length I) (b7:I.length ≤ ε) (h:call_Give.f k J D B I δ L θ = some (r1,r2,r3)):
  Calls Try.prog 24 #[.agg #[.int .i64 J,.int .i64 D],.agg #[.slice ζ B.length γ,.slice η I.length ε],.agg #[.int .i64 δ,.int .i64 L,.int .i64 θ]] w fun e w'=>∃ ω ba:Value,e = .returned (.tuple #[.agg #[ω,ba],.int .i64 r3])∧Kd.R k56 56 w' w.heap.size (fun _=>True) ω r1∧Kd.R k62 62 w' w.heap.size (fun _=>True) ba r2∧Below w.heap.size w w':=by
 have dk:=Try.underlying23
 have d6:=Try.underlying27
 have ay:=Try.underlying56
 have b8:=Try.underlying62
 have ag:=Aside0.mk b4
 have ar:=Aside0.mk b5
 clear b4 b5
 have ai:=Aside0.mk b6
 have au:=Aside0.mk b7
 clear b6 b7
 have HB:=Aside0.mk (Below.refl w.heap.size w)
 have H:((hallP.f δ L θ J D).bind fun κ =>((call_change.f (setP_H.f δ L θ B) (woP_I.f (-2) 0 I) k J D B I κ 0 δ L θ 0 (-2) 0).bind fun ξ =>(some (ξ.1,ξ.2.1,ξ.2.2))))=some (r1,r2,r3):=h
 clear h
 replace H:=Option.bind_eq_some_iff.mp H
 obtain⟨κ,bv,H⟩:=H
 replace H:((call_change.f (setP_H.f δ L θ B) (woP_I.f (-2) 0 I) k J D B I κ 0 δ L θ 0 (-2) 0).bind fun ξ =>(some (ξ.1,ξ.2.1,ξ.2.2)))=some (r1,r2,r3):=H
 have A4:=Aside0.mk bv
 clear bv
 replace H:=Option.bind_eq_some_iff.mp H
 obtain⟨⟨ψ,σ,ac⟩,bz,H⟩:=H
 replace H:(some (ψ,σ,ac))=some (r1,r2,r3):=H
 have A5:=Aside0.mk bz
 clear bz
 simp only[Option.some.injEq,Prod.mk.injEq] at H
 obtain⟨rfl,rfl,rfl⟩:=H
 go_enter Try.func24,Try.ntmps24
 try go_wp2_with (first|((with_reducible refine Qp (N:=3) rfl ?_);refine qE 3 #[.int .i64 J,.int .i64 D] 23 ?_;intro a4 hg w6 hbox hb;have μ :=Aside0.mk hbox;have bi:=sGe hg;have bd:=sGe hg;replace HB:=sHb hb;clear hb hbox hg)|((with_reducible refine Qp (N:=4) rfl ?_);refine qE 4 #[.slice ζ B.length γ,.slice η I.length ε] 27 ?_;intro ν hg w7 hbox hb;have X:=Aside0.mk hbox;have ae:=sGe hg;have bj:=sGe hg;have af:=sNl μ hg;have ah:=sNg μ hg;replace μ :=sBk μ hb;replace HB:=sHb hb;clear hb hbox hg)|((with_reducible refine Qp (N:=5) rfl ?_);refine qE 5 #[.int .i64 δ,.int .i64 L,.int .i64 θ] 56 ?_;intro a8 hg w8 hbox hb;have O:=Aside0.mk hbox;have bp:=sGe hg;have bq:=sGe hg;have al:=sNl μ hg;have an:=sNg μ hg;have b9:=sNl X hg;have bb:=sNg X hg;replace μ :=sBk μ hb;replace X:=sBk X hb;replace HB:=sHb hb;clear hb hbox hg)|((with_reducible refine Qp (N:=6) rfl ?_);refine qE 6 #[.slice none 0 0,.slice none 0 0] 27 ?_;intro τ hg w9 hbox hb;have U:=Aside0.mk hbox;have fg:=sGe hg;have fh:=sGe hg;have Z:=sNl μ hg;have a1:=sNg μ hg;have ι :=sNl X hg;have a2:=sNg X hg;have Y:=sNl O hg;have a5:=sNg O hg;replace μ :=sBk μ hb;replace X:=sBk X hb;replace O:=sBk O hb;replace HB:=sHb hb;clear hb hbox hg))
 replace μ :=Aside0.mk (Qb μ.out)
 replace X:=Aside0.mk (Qb X.out)
 replace O:=Aside0.mk (Qb O.out)
 replace U:=Aside0.mk (Qb U.out)
 replace HB:=Aside0.mk (Qe HB.out)
 refine Ze (n:=19) (S:=fun w'=>w'.cell? ⟨a4,0,none⟩=some (.int .i64 J)∧w'.cell? ⟨a4,1,none⟩=some (.int .i64 D)∧w'.cell? ⟨ν,0,none⟩=some (.slice ζ B.length γ)∧w'.cell? ⟨ν,1,none⟩=some (.slice η I.length ε)∧w'.cell? ⟨a8,0,none⟩=some (.int .i64 δ)∧w'.cell? ⟨a8,1,none⟩=some (.int .i64 L)∧w'.cell? ⟨a8,2,none⟩=some (.int .i64 θ)) (ds:=[]) #[false,false,false,false,false,false,false,false,false,false,false,false,false,false,false,false,false,false,false] kr rfl rfl ⟨(Qi μ.out 0).trans rfl,(Qi μ.out 1).trans rfl,(Qi X.out 0).trans rfl,(Qi X.out 1).trans rfl,(Qi O.out 0).trans rfl,(Qi O.out 1).trans rfl,(Qi O.out 2).trans rfl⟩ (fun hHeld=>?_);refine Q4 call_Give.Gu call_Give.J2 (fun HT_ HW_=>?_)
 generalize w9.drew=cu at μ X O U HB hHeld ⊢
 refine qP 13 (some 21) (bN 19 8192) HT_ ?_
 refine qT 0 (some 8) (bN 19 8193) HT_ HW_ hHeld ?_
 refine qT 1 (some 9) (bN 19 8195) HT_ HW_ hHeld ?_
 refine qT 2 (some 10) (bN 19 8199) HT_ HW_ hHeld ?_
 refine qT 4 (some 12) (bN 19 8215) HT_ HW_ hHeld ?_
 refine qT 6 (some 14) (bN 19 8279) HT_ HW_ hHeld ?_
 refine qT 9 (some 17) (bN 19 8791) HT_ HW_ hHeld ?_
 refine qT 10 (some 18) (bN 19 9815) HT_ HW_ hHeld ?_
 refine Zi (i:=3) (N:=some 11) (bN 19 9823) rfl rfl (Q0 HT_.out kr) (by decide) (fun K hK=>?_)
 refine Zc Try.func34 kr rfl #[.agg #[.int .i64 J,.int .i64 D]] (by rfl) rfl rfl qM ?_
 refine(Jl J D _).mono ?_
 rintro e e3 ⟨bc,rfl,hgp,hgw,hb⟩
 have bs:=Aside0.mk hgp
 clear hgp hgw
 refine⟨_,rfl, ?_⟩
 replace μ :=sBk μ hb
 replace X:=sBk X hb
 replace O:=sBk O hb
 replace U:=sBk U hb
 replace HB:=sHb hb
 (try clear hb)
 (try clear a0)
 (try clear hk)
 (try clear hi)
 refine hK.out _ _ ⟨qc μ,qc μ,qc X,qc X,qc O,qc O,qc O⟩ (fun hHeld=>?_)
 clear hK K
 refine qN (some 11) ?_
 refine Zi (i:=5) (N:=some 13) (bN 19 9855) rfl rfl (Q0 HT_.out kr) (by decide) (fun K hK=>?_)
 refine Xu Try.func61 kr rfl #[] #[.pointer (some ⟨bc,0,none⟩)] #[.agg #[.int .i64 δ,.int .i64 L,.int .i64 θ]] #[.agg #[.int .i64 δ,.int .i64 L,.int .i64 θ],.pointer (some ⟨bc,0,none⟩)] rfl (by rfl) rfl rfl rfl qM ?_
 refine(Kn J D δ L θ κ _ (Option.some.inj A4.out) bc bs.out).mono ?_
 rintro e dm ⟨rfl,hb⟩
 refine⟨_,rfl, ?_⟩
 replace μ :=sBk μ hb
 replace X:=sBk X hb
 replace O:=sBk O hb
 replace U:=sBk U hb
 replace HB:=sHb hb
 (try clear hb)
 (try clear a0)
 (try clear hk)
 (try clear hi)
 refine hK.out _ _ ⟨qc μ,qc μ,qc X,qc X,qc O,qc O,qc O⟩ (fun hHeld=>?_)
 clear hK K
 refine qN (some 13) ?_
 refine Zi (i:=7) (N:=some 15) (bN 19 9983) rfl rfl (Q0 HT_.out kr) (by decide) (fun K hK=>?_)
 refine Zc Try.func30 kr rfl #[.agg #[.slice ζ B.length γ,.slice η I.length ε]] (by rfl) rfl rfl qM ?_
 refine(Yl ζ η B.length I.length γ ε _).mono ?_
 rintro e e4 ⟨rfl,hb⟩
 refine⟨_,rfl, ?_⟩
 replace μ :=sBk μ hb
 replace X:=sBk X hb
 replace O:=sBk O hb
 replace U:=sBk U hb
 replace HB:=sHb hb
 (try clear hb)
 (try clear a0)
 (try clear hk)
 (try clear hi)
 refine hK.out _ _ ⟨qc μ,qc μ,qc X,qc X,qc O,qc O,qc O⟩ (fun hHeld=>?_)
 clear hK K
 refine qN (some 15) ?_
 refine qP 8 (some 16) (bN 19 10239) HT_ ?_
 refine Zi (i:=11) (N:=some 19) (bN 19 12287) rfl rfl (Q0 HT_.out kr) (by decide) (fun K hK=>?_)
 refine Zc Try.func32 kr rfl #[.agg #[.slice ζ B.length γ,.slice η I.length ε]] (by rfl) rfl rfl qM ?_
 refine(Yt ζ η B.length I.length γ ε _).mono ?_
 rintro e e7 ⟨rfl,hb⟩
 refine⟨_,rfl, ?_⟩
 replace μ :=sBk μ hb
 replace X:=sBk X hb
 replace O:=sBk O hb
 replace U:=sBk U hb
 replace HB:=sHb hb
 (try clear hb)
 (try clear a0)
 (try clear hk)
 (try clear hi)
 refine hK.out _ _ ⟨qc μ,qc μ,qc X,qc X,qc O,qc O,qc O⟩ (fun hHeld=>?_)
 clear hK K
 refine qN (some 19) ?_
 refine qP 12 (some 20) (bN 19 16383) HT_ ?_
 refine Zi (i:=14) (N:=some 22) (bN 19 32767) rfl rfl (Q0 HT_.out kr) (by decide) (fun K hK=>?_)
 refine Zc Try.func28 kr rfl #[.agg #[.int .i64 J,.int .i64 D],.agg #[.slice ζ B.length γ,.slice η I.length ε],.bool κ,.func (.func 47) #[.agg #[.slice ζ B.length γ,.func (.func 51) #[] #[]]] #[],.agg #[.int .i64 δ,.int .i64 L,.int .i64 θ],.func (.func 36) #[.agg #[.slice η I.length ε,.func (.func 57) #[] #[]]] #[],.agg #[.int .i64 (-2),.int .i64 0]] (by rfl) rfl rfl qM ?_
 refine(call_change.calls _ _ k J D ζ γ B η ε I κ 0 δ L θ 0 (-2) 0 ψ σ ac _ ?side1 ?side2 ?side3 ?side4 A5.out 47 Try.f47 (.agg #[.slice ζ B.length γ,.func (.func 51) #[] #[]]) Try.func47 kr rfl (fun W t ht hb=>V0 ζ γ B _ _ _ t W (Kd.Qz (Kd.Qz ag.out (by repeat(first|(with_reducible first|exact HB.out|apply Qh|apply Qc|apply Qe)|exact HB.out|(refine Qd ?_ (Aside0.out (by assumption)))))) hb) ar.out ht) 36 Try.f36 (.agg #[.slice η I.length ε,.func (.func 57) #[] #[]]) Try.func36 kr rfl (fun W t ht hb=>Jg η ε I _ _ t W (Kd.Qz (Kd.Qz ai.out (by repeat(first|(with_reducible first|exact HB.out|apply Qh|apply Qc|apply Qe)|exact HB.out|(refine Qd ?_ (Aside0.out (by assumption)))))) hb) au.out ht)).mono ?_
 (case side1=>exact(Kd.Qz ag.out HB.out))
 (case side2=>exact ar.out)
 (case side3=>exact(Kd.Qz ai.out HB.out))
 (case side4=>exact au.out)
 rintro e d2 ⟨ce,br,rfl,ρ,a7,hb⟩
 refine⟨_,rfl, ?_⟩
 have be:=Aside0.mk (Kd.Q2 (Kd.Xx ρ (g:=a8) (o:=.cells #[.int .i64 δ,.int .i64 L,.int .i64 θ] 56 (0,0)) O.out) (Qj HB.out))
 have a6:=Aside0.mk (Kd.Q2 a7 (Qj HB.out))
 replace μ :=sBk μ hb
 replace X:=sBk X hb
 replace O:=sBk O hb
 replace U:=sBk U hb
 replace HB:=sHb hb
 (try clear hb)
 (try clear a0)
 (try clear hk)
 (try clear hi)
 (try clear ρ)
 (try clear a7)
 obtain⟨ap,a3,av⟩:=Kd.Q5 be.out
 (first|subst av|(injection av with φ a9 χ;have aa:= φ.symm;have ab:= χ.symm;clear φ a9 χ;subst aa;subst ab))
 obtain⟨ao,aw,am⟩:=Kd.Q5 a6.out
 (first|subst am|(injection am with φ a9 χ;have aa:= φ.symm;have ab:= χ.symm;clear φ a9 χ;subst aa;subst ab))
 refine hK.out _ _ ⟨qc μ,qc μ,qc X,qc X,qc O,qc O,qc O⟩ (fun hHeld=>?_)
 clear hK K
 refine qN (some 22) ?_
 refine qP 15 (some 23) (bN 19 65535) HT_ ?_
 refine qP 16 (some 24) (bN 19 131071) HT_ ?_
 refine Zi (i:=17) (N:=none) (bN 19 262143) rfl rfl (Q0 HT_.out kr) (by decide) (fun K hK=>?_)
 have bo:d2.cell? ⟨τ,0,none⟩=some (.slice none 0 0):=(Qi U.out 0).trans rfl
 have b3:=Q6 U.out 0
 have aj:=Z.out
 have ak:= ι.out
 have bg:=Y.out
 have b0:=a1.out
 have b1:=a2.out
 have bh:=a5.out
 have bf:d2.cell? ⟨τ,1,none⟩=some (.slice none 0 0):=(Qi U.out 1).trans rfl
 have b2:=Q6 U.out 1
 have ax:=Z.out
 have bk:= ι.out
 have bl:=Y.out
 have az:=a1.out
 have bm:=a2.out
 have bn:=a5.out
 refine Y4 (w1:=?_) (by rfl) rfl ?_ ?_
 rotate_left
 ·go_simp
  rfl
 refine hK.out _ _ ⟨((cell_far (p:=⟨τ,_,none⟩) Z.out _).trans (((cell_far (p:=⟨τ,_,none⟩) Z.out _).trans (hHeld.1)))),((cell_far (p:=⟨τ,_,none⟩) Z.out _).trans (((cell_far (p:=⟨τ,_,none⟩) Z.out _).trans (hHeld.2.1)))),((cell_far (p:=⟨τ,_,none⟩) ι.out _).trans (((cell_far (p:=⟨τ,_,none⟩) ι.out _).trans (hHeld.2.2.1)))),((cell_far (p:=⟨τ,_,none⟩) ι.out _).trans (((cell_far (p:=⟨τ,_,none⟩) ι.out _).trans (hHeld.2.2.2.1)))),((cell_far (p:=⟨τ,_,none⟩) Y.out _).trans (((cell_far (p:=⟨τ,_,none⟩) Y.out _).trans (hHeld.2.2.2.2.1)))),((cell_far (p:=⟨τ,_,none⟩) Y.out _).trans (((cell_far (p:=⟨τ,_,none⟩) Y.out _).trans (hHeld.2.2.2.2.2.1)))),((cell_far (p:=⟨τ,_,none⟩) Y.out _).trans (((cell_far (p:=⟨τ,_,none⟩) Y.out _).trans (hHeld.2.2.2.2.2.2))))⟩ (fun hHeld=>?_)
 clear hK K
 refine qP 18 (some 7) (bN 19 524287) HT_ ?_
 refine Zq (Zd HT_.out kr) ?_
 try go_wp2
 refine bodyPost_ret (Xm rfl _ _ τ 27 #[.slice ap ψ.length a3,.slice ao σ.length aw] (0,0) _ rfl (by refine Qw (cs:=#[.slice ap ψ.length a3,.slice none 0 0]) ?_ 1 _ rfl;refine Qw (cs:=#[.slice none 0 0,.slice none 0 0]) ?_ 0 _ rfl;exact U.out) Try.underlying27 rfl kr) rfl ?_
 exact⟨_,_,by first|rfl|(simp[Qy,Qx] <;> rfl)|(simp[*,Qy,Qx] <;> rfl),by(with_reducible repeat first|apply Kd.Qm|apply Kd.Ql|apply Kd.Qn);exact Kd.Qr (Kd.Qs (Kd.Qs (Kd.Qv be.out U.out (by decide)) (fun _ hk=>hk.2) _) (fun _ hk=>hk.2) _) (fun _ hk=>trivial),by(with_reducible repeat first|apply Kd.Qm|apply Kd.Ql|apply Kd.Qn);exact Kd.Qr (Kd.Qs (Kd.Qs (Kd.Qv a6.out U.out (by decide)) (fun _ hk=>hk.2) _) (fun _ hk=>hk.2) _) (fun _ hk=>trivial),bel⟩
end Go.Proofs.Ytjehhhlhalkieaa.C
