/- Texts of this claim, one behind the other: what the law's functions come to, walked (printed by a program, with the words that the print uses), and what that is, in plain Lean. No conditions of their own. -/
import Derived.Test.YtjehhhlhalkieaaQCallGives6
namespace Go.Proofs.Ytjehhhlhalkieaa.C
open Go.RowKit Go.Proofs.YtjehhhlhalkieaaW.PrintWords Go.Proofs.YtjehhhlhalkieaaW.PrintLast Go.Proofs.YtjehhhlhalkieaaW.PrintMore
attribute [local go_sem] Zk Zi Zt Zs Zd Zc Zj Zh
set_option linter.unusedVariables false
set_option linter.unusedSimpArgs false
def call_Give.f (k:Nat) (I:Int) (J:Int) (B:List (S56)) (D:List (S62)) (ζ :Int) (L:Int) (η :Int):Option ((List (S56))×(List (S62))×Int):=(hallP.f ζ L η I J).bind fun ρ=>((call_change.f (setP_H.f ζ L η B) (woP_I.f (-2) 0 D) k I J B D ρ 0 ζ L η 0 (-2) 0).bind fun κ =>(some (κ.1,κ.2.1,κ.2.2)))
theorem call_Give.mono:∀ I D a2 a3 J a5 L k,LeO (call_Give.f k I D a2 a3 J a5 L) (call_Give.f (k+1) I D a2 a3 J a5 L):=by
 intro I D a2 a3 J a5 L k
 unfold call_Give.f
 repeat' first
   |(with_reducible exact call_change.mono _ _ _ _ _ _ _ _ _ _ _ _ _ _ _)
   |(with_reducible exact LeO.refl _)
   |(with_reducible exact LeO.none _)
   |(with_reducible refine LeO.ite ?_ ?_)
   |(with_reducible refine LeO.bind ?_ (fun _=>?_))
   |exact call_change.mono _ _ _ _ _ _ _ _ _ _ _ _ _ _ _
   |exact LeO.none _
   |refine LeO.ite ?_ ?_
   |refine LeO.bind ?_ (fun _=>?_)
def call_Give.T1:Bool×List (List Nat×List Nat):=(true,[([],[]),([],[]),([],[]),([2],[2]),([],[]),([3,4,3],[3,4]),([],[]),([6,5],[6]),([7],[7]),([],[]),([],[]),([10,7],[10]),([11],[11]),([],[]),([0,1,5,8,9,12,13,11],[0,1,5,8,9,12,13]),([14],[14]),([14],[14]),([15,14,0,1,2,3,4,5,6,7,8,9,10,11,12,13,14,15,16],[15]),([16,17,0,1,2,3,4,5,6,7,8,9,10,11,12,13,14,15,16,17],[16])])
def call_Give.B1:List Nat:=[0,0,0,4,0,28,0,124,252,0,0,1276,3324,0,16383,32767,32767,131071,262143]
theorem call_Give.Gh:rtab .any (opsOf Try.f24 1)=call_Give.T1:=by kernel_rfl
theorem call_Give.Jt:Zx call_Give.T1.2 call_Give.B1=true:=by kernel_rfl
set_option maxHeartbeats 8000000 in
set_option maxRecDepth 100000 in
theorem call_Give.calls (k:Nat) (I:Int) (J:Int) (Z:Option Addr) (U:Nat) (B:List (S56)) (γ:Option Addr) (X:Nat) (D:List (S62)) (ζ :Int) (L:Int) (η :Int) (r1:List (S56)) (r2:List (S62)) (r3:Int) (w:World) (b5:Kd.C k56 w Z B.length B) (b6:B.length≤U) (b7:Kd.C k62 w γ D.length D) (b8:D.length≤X) (h:call_Give.f k I J B D ζ L η = some (r1,r2,r3)):
  Calls Try.prog 24 #[.agg #[.int .i64 I,.int .i64 J],.agg #[.slice Z B.length U,.slice γ D.length X],.agg #[.int .i64 ζ,.int .i64 L,.int .i64 η]] w fun e w'=>∃ a6 b9:Value,e = .returned (.tuple #[.agg #[a6,b9],.int .i64 r3])∧Kd.R k56 56 w' w.heap.size (fun _=>True) a6 r1∧Kd.R k62 62 w' w.heap.size (fun _=>True) b9 r2∧Below w.heap.size w w':=by
 have dx:=Try.underlying23
 have db:=Try.underlying27
 have bu:=Try.underlying56
 have be:=Try.underlying62
 have ag:=Aside0.mk b5
 have ar:=Aside0.mk b6
 clear b5 b6
 have ah:=Aside0.mk b7
 have aw:=Aside0.mk b8
 clear b7 b8
 have HB:=Aside0.mk (Below.refl w.heap.size w)
 have H:((hallP.f ζ L η I J).bind fun ρ=>((call_change.f (setP_H.f ζ L η B) (woP_I.f (-2) 0 D) k I J B D ρ 0 ζ L η 0 (-2) 0).bind fun κ =>(some (κ.1,κ.2.1,κ.2.2))))=some (r1,r2,r3):=h
 clear h
 replace H:=Option.bind_eq_some_iff.mp H
 obtain⟨ρ,bz,H⟩:=H
 replace H:((call_change.f (setP_H.f ζ L η B) (woP_I.f (-2) 0 D) k I J B D ρ 0 ζ L η 0 (-2) 0).bind fun κ =>(some (κ.1,κ.2.1,κ.2.2)))=some (r1,r2,r3):=H
 have A4:=Aside0.mk bz
 clear bz
 replace H:=Option.bind_eq_some_iff.mp H
 obtain⟨⟨ψ,ξ,af⟩,cf,H⟩:=H
 replace H:(some (ψ,ξ,af))=some (r1,r2,r3):=H
 have A5:=Aside0.mk cf
 clear cf
 simp only[Option.some.injEq,Prod.mk.injEq] at H
 obtain⟨rfl,rfl,rfl⟩:=H
 go_enter Try.func24,Try.ntmps24
 try go_wp2_with (first|((with_reducible refine Qt (N:=3) rfl ?_);refine Qp ?hg (N:=3) ?hd (cs:=#[.int .i64 I,.int .i64 J]) (t:=23) ?hr ?_;(case hd=>rfl);(case hg=>rfl);(case hr=>go_simp <;> rfl);intro σ hg w6 hbox hb;have μ :=Aside0.mk hbox;have bg:=sGe hg;have b3:=sGe hg;replace HB:=sHb hb;clear hb hbox hg)|((with_reducible refine Qt (N:=4) rfl ?_);refine Qp ?hg (N:=4) ?hd (cs:=#[.slice Z B.length U,.slice γ D.length X]) (t:=27) ?hr ?_;(case hd=>rfl);(case hg=>rfl);(case hr=>go_simp <;> rfl);intro ν hg w7 hbox hb;have Y:=Aside0.mk hbox;have a8:=sGe hg;have bh:=sGe hg;have ai:=sNl μ hg;have aj:=sNg μ hg;replace μ :=sBk μ hb;replace HB:=sHb hb;clear hb hbox hg)|((with_reducible refine Qt (N:=5) rfl ?_);refine Qp ?hg (N:=5) ?hd (cs:=#[.int .i64 ζ,.int .i64 L,.int .i64 η]) (t:=56) ?hr ?_;(case hd=>rfl);(case hg=>rfl);(case hr=>go_simp <;> rfl);intro a9 hg w8 hbox hb;have δ :=Aside0.mk hbox;have bm:=sGe hg;have bn:=sGe hg;have al:=sNl μ hg;have an:=sNg μ hg;have au:=sNl Y hg;have ay:=sNg Y hg;replace μ :=sBk μ hb;replace Y:=sBk Y hb;replace HB:=sHb hb;clear hb hbox hg)|((with_reducible refine Qt (N:=6) rfl ?_);refine Qp ?hg (N:=6) ?hd (cs:=#[.slice none 0 0,.slice none 0 0]) (t:=27) ?hr ?_;(case hd=>rfl);(case hg=>rfl);(case hr=>go_simp <;> rfl);intro τ hg w9 hbox hb;have O:=Aside0.mk hbox;have fl:=sGe hg;have fm:=sGe hg;have θ :=sNl μ hg;have φ :=sNg μ hg;have ι :=sNl Y hg;have a3:=sNg Y hg;have ε :=sNl δ hg;have a5:=sNg δ hg;replace μ :=sBk μ hb;replace Y:=sBk Y hb;replace δ :=sBk δ hb;replace HB:=sHb hb;clear hb hbox hg))
 replace μ :=Aside0.mk (Qc μ.out)
 replace Y:=Aside0.mk (Qc Y.out)
 replace δ :=Aside0.mk (Qc δ.out)
 replace O:=Aside0.mk (Qc O.out)
 replace HB:=Aside0.mk (Qh HB.out)
 refine Zv (n:=19) (S:=fun w'=>w'.cell? ⟨σ,0,none⟩=some (.int .i64 I)∧w'.cell? ⟨σ,1,none⟩=some (.int .i64 J)∧w'.cell? ⟨ν,0,none⟩=some (.slice Z B.length U)∧w'.cell? ⟨ν,1,none⟩=some (.slice γ D.length X)∧w'.cell? ⟨a9,0,none⟩=some (.int .i64 ζ)∧w'.cell? ⟨a9,1,none⟩=some (.int .i64 L)∧w'.cell? ⟨a9,2,none⟩=some (.int .i64 η)) (ds:=[]) #[false,false,false,false,false,false,false,false,false,false,false,false,false,false,false,false,false,false,false] kr rfl rfl ⟨(Qa μ.out 0).trans rfl,(Qa μ.out 1).trans rfl,(Qa Y.out 0).trans rfl,(Qa Y.out 1).trans rfl,(Qa δ.out 0).trans rfl,(Qa δ.out 1).trans rfl,(Qa δ.out 2).trans rfl⟩ (fun hHeld=>?_);refine Q8 call_Give.Gh call_Give.Jt (fun HT_ HW_=>?_)
 generalize w9.drew=ci at μ Y δ O HB hHeld ⊢
 refine qP 13 (some 21) (bN 19 8192) HT_ ?_
 refine qT 0 (some 8) (bN 19 8193) HT_ HW_ hHeld ?_
 refine qT 1 (some 9) (bN 19 8195) HT_ HW_ hHeld ?_
 refine qT 2 (some 10) (bN 19 8199) HT_ HW_ hHeld ?_
 refine qT 4 (some 12) (bN 19 8215) HT_ HW_ hHeld ?_
 refine qT 6 (some 14) (bN 19 8279) HT_ HW_ hHeld ?_
 refine qT 9 (some 17) (bN 19 8791) HT_ HW_ hHeld ?_
 refine qT 10 (some 18) (bN 19 9815) HT_ HW_ hHeld ?_
 refine Zm (i:=3) (N:=some 11) (bN 19 9823) rfl rfl (Q3 HT_.out kr) (by decide) (fun K hK=>?_)
 refine Zg Try.func34 kr rfl #[.agg #[.int .i64 I,.int .i64 J]] (by rfl) rfl rfl (by(try simp only[List.map_toArray,List.map_cons,List.map_nil]);first|done|rfl) ?_
 refine(Ja I J _).mono ?_
 rintro e e6 ⟨ba,rfl,hgp,hgw,hb⟩
 have br:=Aside0.mk hgp
 clear hgp hgw
 refine⟨_,rfl, ?_⟩
 replace μ :=sBk μ hb
 replace Y:=sBk Y hb
 replace δ :=sBk δ hb
 replace O:=sBk O hb
 replace HB:=sHb hb
 (try clear hb)
 (try clear a4)
 (try clear hk)
 (try clear hi)
 refine hK.out _ _ ⟨(Qa μ.out 0).trans rfl,(Qa μ.out 1).trans rfl,(Qa Y.out 0).trans rfl,(Qa Y.out 1).trans rfl,(Qa δ.out 0).trans rfl,(Qa δ.out 1).trans rfl,(Qa δ.out 2).trans rfl⟩ (fun hHeld=>?_)
 clear hK K
 refine qN (some 11) ?_
 refine Zm (i:=5) (N:=some 13) (bN 19 9855) rfl rfl (Q3 HT_.out kr) (by decide) (fun K hK=>?_)
 refine Xm Try.func61 kr rfl #[] #[.pointer (some ⟨ba,0,none⟩)] #[.agg #[.int .i64 ζ,.int .i64 L,.int .i64 η]] #[.agg #[.int .i64 ζ,.int .i64 L,.int .i64 η],.pointer (some ⟨ba,0,none⟩)] rfl (by rfl) rfl rfl rfl (by simp only[List.map_toArray,List.map_cons,List.map_nil] <;> rfl) ?_
 refine(Ke I J ζ L η ρ _ (Option.some.inj A4.out) ba br.out).mono ?_
 rintro e bw ⟨rfl,hb⟩
 refine⟨_,rfl, ?_⟩
 replace μ :=sBk μ hb
 replace Y:=sBk Y hb
 replace δ :=sBk δ hb
 replace O:=sBk O hb
 replace HB:=sHb hb
 (try clear hb)
 (try clear a4)
 (try clear hk)
 (try clear hi)
 refine hK.out _ _ ⟨(Qa μ.out 0).trans rfl,(Qa μ.out 1).trans rfl,(Qa Y.out 0).trans rfl,(Qa Y.out 1).trans rfl,(Qa δ.out 0).trans rfl,(Qa δ.out 1).trans rfl,(Qa δ.out 2).trans rfl⟩ (fun hHeld=>?_)
 clear hK K
 refine qN (some 13) ?_
 refine Zm (i:=7) (N:=some 15) (bN 19 9983) rfl rfl (Q3 HT_.out kr) (by decide) (fun K hK=>?_)
 refine Zg Try.func30 kr rfl #[.agg #[.slice Z B.length U,.slice γ D.length X]] (by rfl) rfl rfl (by(try simp only[List.map_toArray,List.map_cons,List.map_nil]);first|done|rfl) ?_
 refine(Yb Z γ B.length D.length U X _).mono ?_
 rintro e e7 ⟨rfl,hb⟩
 refine⟨_,rfl, ?_⟩
 replace μ :=sBk μ hb
 replace Y:=sBk Y hb
 replace δ :=sBk δ hb
 replace O:=sBk O hb
 replace HB:=sHb hb
 (try clear hb)
 (try clear a4)
 (try clear hk)
 (try clear hi)
 refine hK.out _ _ ⟨(Qa μ.out 0).trans rfl,(Qa μ.out 1).trans rfl,(Qa Y.out 0).trans rfl,(Qa Y.out 1).trans rfl,(Qa δ.out 0).trans rfl,(Qa δ.out 1).trans rfl,(Qa δ.out 2).trans rfl⟩ (fun hHeld=>?_)
 clear hK K
 refine qN (some 15) ?_
 refine qP 8 (some 16) (bN 19 10239) HT_ ?_
 refine Zm (i:=11) (N:=some 19) (bN 19 12287) rfl rfl (Q3 HT_.out kr) (by decide) (fun K hK=>?_)
 refine Zg Try.func32 kr rfl #[.agg #[.slice Z B.length U,.slice γ D.length X]] (by rfl) rfl rfl (by(try simp only[List.map_toArray,List.map_cons,List.map_nil]);first|done|rfl) ?_
 refine(Yi Z γ B.length D.length U X _).mono ?_
 rintro e e8 ⟨rfl,hb⟩
 refine⟨_,rfl, ?_⟩
 replace μ :=sBk μ hb
 replace Y:=sBk Y hb
 replace δ :=sBk δ hb
 replace O:=sBk O hb
 replace HB:=sHb hb
 (try clear hb)
 (try clear a4)
 (try clear hk)
 (try clear hi)
 refine hK.out _ _ ⟨(Qa μ.out 0).trans rfl,(Qa μ.out 1).trans rfl,(Qa Y.out 0).trans rfl,(Qa Y.out 1).trans rfl,(Qa δ.out 0).trans rfl,(Qa δ.out 1).trans rfl,(Qa δ.out 2).trans rfl⟩ (fun hHeld=>?_)
 clear hK K
 refine qN (some 19) ?_
 refine qP 12 (some 20) (bN 19 16383) HT_ ?_
 refine Zm (i:=14) (N:=some 22) (bN 19 32767) rfl rfl (Q3 HT_.out kr) (by decide) (fun K hK=>?_)
 refine Zg Try.func28 kr rfl #[.agg #[.int .i64 I,.int .i64 J],.agg #[.slice Z B.length U,.slice γ D.length X],.bool ρ,.func (.func 47) #[.agg #[.slice Z B.length U,.func (.func 51) #[] #[]]] #[],.agg #[.int .i64 ζ,.int .i64 L,.int .i64 η],.func (.func 36) #[.agg #[.slice γ D.length X,.func (.func 57) #[] #[]]] #[],.agg #[.int .i64 (-2),.int .i64 0]] (by rfl) rfl rfl (by simp only[List.map_toArray,List.map_cons,List.map_nil] <;> rfl) ?_
 refine(call_change.calls _ _ k I J Z U B γ X D ρ 0 ζ L η 0 (-2) 0 ψ ξ af _ ?side1 ?side2 ?side3 ?side4 A5.out 47 Try.f47 (.agg #[.slice Z B.length U,.func (.func 51) #[] #[]]) Try.func47 kr rfl (fun W t ht hb=>Vl Z U B _ _ _ t W (Kd.Qz (Kd.Qz ag.out (by repeat(first|(with_reducible first|exact HB.out|apply Qj|apply Qd|apply Qh)|exact HB.out|(refine Qe ?_ (Aside0.out (by assumption)))))) hb) ar.out ht) 36 Try.f36 (.agg #[.slice γ D.length X,.func (.func 57) #[] #[]]) Try.func36 kr rfl (fun W t ht hb=>Y5 γ X D _ _ t W (Kd.Qz (Kd.Qz ah.out (by repeat(first|(with_reducible first|exact HB.out|apply Qj|apply Qd|apply Qh)|exact HB.out|(refine Qe ?_ (Aside0.out (by assumption)))))) hb) aw.out ht)).mono ?_
 (case side1=>exact(Kd.Qz ag.out HB.out))
 (case side2=>exact ar.out)
 (case side3=>exact(Kd.Qz ah.out HB.out))
 (case side4=>exact aw.out)
 rintro e cp ⟨cb,bp,rfl,χ,a7,hb⟩
 refine⟨_,rfl, ?_⟩
 have bb:=Aside0.mk (Kd.Q4 (Kd.Zy χ (g:=a9) (o:=.cells #[.int .i64 ζ,.int .i64 L,.int .i64 η] 56 (0,0)) δ.out) (Qk HB.out))
 have a2:=Aside0.mk (Kd.Q4 a7 (Qk HB.out))
 replace μ :=sBk μ hb
 replace Y:=sBk Y hb
 replace δ :=sBk δ hb
 replace O:=sBk O hb
 replace HB:=sHb hb
 (try clear hb)
 (try clear a4)
 (try clear hk)
 (try clear hi)
 (try clear χ)
 (try clear a7)
 obtain⟨aa,a1,ak⟩:=Kd.Q6 bb.out
 (first|subst ak|(injection ak with ω ab a0;have ac:= ω.symm;have ae:=a0.symm;clear ω ab a0;subst ac;subst ae))
 obtain⟨ao,ap,am⟩:=Kd.Q6 a2.out
 (first|subst am|(injection am with ω ab a0;have ac:= ω.symm;have ae:=a0.symm;clear ω ab a0;subst ac;subst ae))
 refine hK.out _ _ ⟨(Qa μ.out 0).trans rfl,(Qa μ.out 1).trans rfl,(Qa Y.out 0).trans rfl,(Qa Y.out 1).trans rfl,(Qa δ.out 0).trans rfl,(Qa δ.out 1).trans rfl,(Qa δ.out 2).trans rfl⟩ (fun hHeld=>?_)
 clear hK K
 refine qN (some 22) ?_
 refine qP 15 (some 23) (bN 19 65535) HT_ ?_
 refine qP 16 (some 24) (bN 19 131071) HT_ ?_
 refine Zm (i:=17) (N:=none) (bN 19 262143) rfl rfl (Q3 HT_.out kr) (by decide) (fun K hK=>?_)
 have bq:cp.cell? ⟨τ,0,none⟩=some (.slice none 0 0):=(Qa O.out 0).trans rfl
 have bo:=Qb O.out 0
 have az:= θ.out
 have b1:= ι.out
 have b2:= ε.out
 have bc:= φ.out
 have bd:=a3.out
 have bf:=a5.out
 have b4:cp.cell? ⟨τ,1,none⟩=some (.slice none 0 0):=(Qa O.out 1).trans rfl
 have b0:=Qb O.out 1
 have av:= θ.out
 have bi:= ι.out
 have bj:= ε.out
 have ax:= φ.out
 have bk:=a3.out
 have bl:=a5.out
 refine Js (w1:=?_) (by rfl) rfl ?_ ?_
 rotate_left
 ·go_simp
  rfl
 refine hK.out _ _ ⟨((cell_far (p:=⟨τ,_,none⟩) θ.out _).trans (((cell_far (p:=⟨τ,_,none⟩) θ.out _).trans (hHeld.1)))),((cell_far (p:=⟨τ,_,none⟩) θ.out _).trans (((cell_far (p:=⟨τ,_,none⟩) θ.out _).trans (hHeld.2.1)))),((cell_far (p:=⟨τ,_,none⟩) ι.out _).trans (((cell_far (p:=⟨τ,_,none⟩) ι.out _).trans (hHeld.2.2.1)))),((cell_far (p:=⟨τ,_,none⟩) ι.out _).trans (((cell_far (p:=⟨τ,_,none⟩) ι.out _).trans (hHeld.2.2.2.1)))),((cell_far (p:=⟨τ,_,none⟩) ε.out _).trans (((cell_far (p:=⟨τ,_,none⟩) ε.out _).trans (hHeld.2.2.2.2.1)))),((cell_far (p:=⟨τ,_,none⟩) ε.out _).trans (((cell_far (p:=⟨τ,_,none⟩) ε.out _).trans (hHeld.2.2.2.2.2.1)))),((cell_far (p:=⟨τ,_,none⟩) ε.out _).trans (((cell_far (p:=⟨τ,_,none⟩) ε.out _).trans (hHeld.2.2.2.2.2.2))))⟩ (fun hHeld=>?_)
 clear hK K
 refine qP 18 (some 7) (bN 19 524287) HT_ ?_
 refine Z0 (Zp HT_.out kr) ?_
 try go_wp2
 refine bodyPost_ret (Xi rfl _ _ τ 27 #[.slice aa ψ.length a1,.slice ao ξ.length ap] (0,0) _ rfl (by refine Qx (cs:=#[.slice aa ψ.length a1,.slice none 0 0]) ?_ 1 _ rfl;refine Qx (cs:=#[.slice none 0 0,.slice none 0 0]) ?_ 0 _ rfl;exact O.out) Try.underlying27 rfl kr) rfl ?_
 exact⟨_,_,by first|rfl|(simp[Q1,Q0] <;> rfl)|(simp[*,Q1,Q0] <;> rfl),by(with_reducible repeat(first|apply Kd.Qm|apply Kd.Ql|apply Kd.Qo));exact Kd.Qs (Kd.Qu (Kd.Qu (Kd.Qy bb.out O.out (by decide)) (fun _ hk=>hk.2) _) (fun _ hk=>hk.2) _) (fun _ hk=>trivial),by(with_reducible repeat(first|apply Kd.Qm|apply Kd.Ql|apply Kd.Qo));exact Kd.Qs (Kd.Qu (Kd.Qu (Kd.Qy a2.out O.out (by decide)) (fun _ hk=>hk.2) _) (fun _ hk=>hk.2) _) (fun _ hk=>trivial),bel⟩
end Go.Proofs.Ytjehhhlhalkieaa.C

