/- Texts of this claim, one behind the other: what the law's functions come to, walked (printed by a program, with the words that the print uses), and what that is, in plain Lean. No conditions of their own. -/
import Derived.Test.YtjehhhlhalkieaaQCallGives11
import Derived.Carry
import Derived.ProofKit
import Derived.ShutString
namespace Go.Proofs.Ytjehhhlhalkieaa.RowCallGives
open Go.ChangeShapes Go.WideShapes Go.ChangeAt Go.RowKit Go.Proofs.YtjehhhlhalkieaaW.PrintWords Go.Proofs.Ytjehhhlhalkieaa.Opens Go.Proofs.Ytjehhhlhalkieaa.C Go.Proofs.Ytjehhhlhalkieaa.Par
open Go.ChangeMaps (open_string shut_string)
set_option linter.unusedVariables false
theorem own:ownKnob Try.prog.godebug=none:=by kernel_rfl
theorem laidOut:laidOutB Try.prog=true:=by kernel_rfl
set_option maxRecDepth 100000 in
theorem lifted (P:Yn) (os:Os) (started:os.Started) (H:Type) (enc:TypeId×Value→H):
    ReturnsInHanded {} Try.checked os 5 .any (Rows.callGivesSpec.pre6 enc Try.prog Try.f5 Rows.callGivesRow.domain false) (Rows.callGivesSpec.post enc Try.prog Try.f5 false true false false):=by
  refine returnsInHanded_of_change_sized (C:=Try.checked) own started kr Try.func5
    (ChangeSpec.witness6 (enc:=enc) (C:=Try.checked) false ⟨#[],#[.agg #[.int .i64 0,.int .i64 0],.agg #[.slice none 0 0,.slice none 0 0],.agg #[.int .i64 0,.int .i64 0,.int .i64 0]],[]⟩ 8 kr kr kr kr) ?_
  intro W base args ds gs before κ hW hcnd μ _
  have hsz:(DataW.weightsEach Try.prog (Try.f5.params.toList++Rows.callGivesSpec.plain.varTypes Try.prog) (ds++gs)).all (· ≤ reachBytes)=true:= μ
  have hval:∀ (j:Nat) t v,Try.f5.params[j]?=some t→args[j]?=some v→Value.okWide Try.prog W .any base t v:= κ
  have hW':=hW
  obtain⟨p,q,ν,hV,rfl,hfz,hnd⟩:=hW
  have hA:DataW.TrodAll enc Try.prog W 0 (fun _=>true) true Try.f5.params.toList args.toList ds p:= ν
  rw[Try.params5] at hA hval hsz
  obtain⟨v0,a0,d0,a1,p0,q0,hargs,rfl,rfl,U,r0⟩:=trodAll_cons hA
  obtain⟨v1,a2,d1,a3,p1,q1,rfl,rfl,rfl,h1,r1⟩:=trodAll_cons r0
  obtain⟨v2,a4,d2,a5,p2,q2,rfl,rfl,rfl,O,r2⟩:=trodAll_cons r1
  obtain⟨rfl,rfl,rfl⟩:=trodAll_nil r2
  obtain rfl:args = #[v0,v1,v2]:=by cases args;simp_all
  obtain⟨rfl,rfl⟩:=trodVars_none hV
  have k0:=U
  have ξ :∀ x ∈ p0,x.block<W.heap.size:=by obtain⟨m,hm⟩:=k0;exact DataW.trod_lt m _ _ _ hm
  obtain⟨J,K0,w0⟩:=Opens.arg Mv hsz (j:=0) rfl rfl U
  obtain⟨ρ,rfl,z0⟩:=okWide_struct Try.underlying23 (hval 0 23 v0 rfl rfl)
  have I:=Lw K0
  obtain⟨σ⟩:=ρ
  obtain rfl:σ=_:=I
  have k1:=h1
  have τ :∀ x ∈ p1,x.block<W.heap.size:=by obtain⟨m,hm⟩:=k1;exact DataW.trod_lt m _ _ _ hm
  obtain⟨L,K1,w1⟩:=Opens.arg Mu hsz (j:=1) rfl rfl h1
  obtain⟨φ,rfl,z1⟩:=okWide_struct Try.underlying27 (hval 1 27 v1 rfl rfl)
  obtain⟨η,δ,θ,ε,Y,B,γ,D,ζ⟩:=Lv K1
  obtain⟨χ⟩:= φ
  obtain rfl: χ = _:=Y
  have k2:=O
  have ι :∀ x ∈ p2,x.block<W.heap.size:=by obtain⟨m,hm⟩:=k2;exact DataW.trod_lt m _ _ _ hm
  obtain⟨X,K2,Z⟩:=Opens.arg Wb hsz (j:=2) rfl rfl O
  obtain⟨ψ,rfl,z2⟩:=okWide_struct Try.underlying56 (hval 2 56 v2 rfl rfl)
  have e2:=Jz K2
  obtain⟨ω⟩:= ψ
  obtain rfl: ω = _:=e2
  clear ν κ μ hsz
  refine(P J L η δ θ ε X W w0 w1 B γ D ζ Z).mono fun e W' ⟨he,bel⟩=>?_
  subst he
  exact⟨_,rfl,_,_,_,[],_,[],hW',trodAll_mk1 (shut_bool Try.underlying4 _),(trodAll_cons_mk (Below.trod laidOut kr (of_decide_eq_true kr) k0 bel ξ) (trodAll_cons_mk (Below.trod laidOut kr (of_decide_eq_true kr) k1 bel τ) (trodAll_cons_mk (Below.trod laidOut kr (of_decide_eq_true kr) k2 bel ι) trodAll_mk0))),rfl,bel.frame _,fun h=>by cases h⟩
theorem over (P:Yn):Rows.callGivesRow.holds Try.pinned (OpenSpec.ofChange Rows.callGivesSpec):=
  OpenClaim.holds_of_wide 5 Try.f5 rfl rfl rfl rfl rfl rfl rfl ⟨rfl,rfl,rfl,rfl,rfl⟩ rfl rfl rfl rfl rfl kr Try.func5 kr
    (of_decide_eq_true kr) (by unfold Func.isWrapper;first|(rw[if_pos (by decide +kernel)];kernel_rfl)|(rw[if_neg (by decide +kernel)];exact⟨rfl,rfl⟩))
    (fun os started H enc _=>lifted P os started H enc)
theorem row (P:Yn):Rows.CallGivesSaid:=over P
end Go.Proofs.Ytjehhhlhalkieaa.RowCallGives
