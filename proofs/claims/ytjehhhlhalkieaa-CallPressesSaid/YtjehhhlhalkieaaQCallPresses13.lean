/- Texts of this claim, one behind the other: what the law's functions come to, walked (printed by a program, with the words that the print uses), and what that is, in plain Lean. No conditions of their own. -/
import Derived.Test.YtjehhhlhalkieaaQCallPresses12
import Derived.Carry
import Derived.ProofKit
import Derived.ShutString
namespace Go.Proofs.Ytjehhhlhalkieaa.RowCallPresses
open Go.ChangeShapes Go.WideShapes Go.ChangeAt Go.RowKit Go.Proofs.YtjehhhlhalkieaaW.PrintWords Go.Proofs.Ytjehhhlhalkieaa.Opens Go.Proofs.Ytjehhhlhalkieaa.C Go.Proofs.Ytjehhhlhalkieaa.Par
open Go.ChangeMaps (open_string shut_string)
set_option linter.unusedVariables false
theorem own:ownKnob Try.prog.godebug=none:=by kernel_rfl
theorem laidOut:laidOutB Try.prog=true:=by kernel_rfl
set_option maxRecDepth 100000 in
theorem lifted (P:Yk) (os:Os) (started:os.Started) (H:Type) (enc:TypeId×Value→H):
    ReturnsInHanded {} Try.checked os 3 .any (Rows.callPressesSpec.pre6 enc Try.prog Try.f3 Rows.callPressesRow.domain false) (Rows.callPressesSpec.post enc Try.prog Try.f3 false true false false):=by
  refine returnsInHanded_of_change_sized (C:=Try.checked) own started kr Try.func3
    (ChangeSpec.witness6 (enc:=enc) (C:=Try.checked) false ⟨#[],#[.agg #[.int .i64 0,.int .i64 0],.agg #[.slice none 0 0,.slice none 0 0],.agg #[.int .i64 0,.int .i64 0,.int .i64 0]],[]⟩ 8 kr kr kr kr) ?_
  intro W base args ds gs before κ hW hcnd μ _
  have hsz:(DataW.weightsEach Try.prog (Try.f3.params.toList++Rows.callPressesSpec.plain.varTypes Try.prog) (ds++gs)).all (· ≤ reachBytes)=true:= μ
  have hval:∀ (j:Nat) t v,Try.f3.params[j]?=some t→args[j]?=some v→Value.okWide Try.prog W .any base t v:= κ
  have hW':=hW
  obtain⟨p,q,ν,hV,rfl,hfz,hnd⟩:=hW
  have hA:DataW.TrodAll enc Try.prog W 0 (fun _=>true) true Try.f3.params.toList args.toList ds p:= ν
  rw[Try.params3] at hA hval hsz
  obtain⟨v0,a0,d0,a1,p0,q0,hargs,rfl,rfl,U,r0⟩:=trodAll_cons hA
  obtain⟨v1,a2,d1,a3,p1,q1,rfl,rfl,rfl,h1,r1⟩:=trodAll_cons r0
  obtain⟨v2,a4,d2,a5,p2,q2,rfl,rfl,rfl,O,r2⟩:=trodAll_cons r1
  obtain⟨rfl,rfl,rfl⟩:=trodAll_nil r2
  obtain rfl:args = #[v0,v1,v2]:=by cases args;simp_all
  obtain⟨rfl,rfl⟩:=trodVars_none hV
  have k0:=U
  have ξ :∀ x ∈ p0,x.block<W.heap.size:=by obtain⟨m,hm⟩:=k0;exact DataW.trod_lt m _ _ _ hm
  obtain⟨D,K0,w0⟩:=Opens.arg Nw hsz (j:=0) rfl rfl U
  obtain⟨ρ,rfl,z0⟩:=okWide_struct Try.underlying23 (hval 0 23 v0 rfl rfl)
  have L:=Mt K0
  obtain⟨σ⟩:=ρ
  obtain rfl:σ=_:=L
  have k1:=h1
  have τ :∀ x ∈ p1,x.block<W.heap.size:=by obtain⟨m,hm⟩:=k1;exact DataW.trod_lt m _ _ _ hm
  obtain⟨J,K1,w1⟩:=Opens.arg Nv hsz (j:=1) rfl rfl h1
  obtain⟨φ,rfl,z1⟩:=okWide_struct Try.underlying27 (hval 1 27 v1 rfl rfl)
  obtain⟨ζ,γ,η,ε,Z,B,δ,I,θ⟩:=Ms K1
  obtain⟨χ⟩:= φ
  obtain rfl: χ = _:=Z
  have k2:=O
  have ι :∀ x ∈ p2,x.block<W.heap.size:=by obtain⟨m,hm⟩:=k2;exact DataW.trod_lt m _ _ _ hm
  obtain⟨X,K2,Y⟩:=Opens.arg Nu hsz (j:=2) rfl rfl O
  obtain⟨ψ,rfl,z2⟩:=okWide_struct Try.underlying29 (hval 2 29 v2 rfl rfl)
  have e2:=Mr K2
  obtain⟨ω⟩:= ψ
  obtain rfl: ω = _:=e2
  clear ν κ μ hsz
  refine(P D J ζ γ η ε X W w0 w1 B δ I θ Y).mono fun e W' ⟨he,bel⟩=>?_
  subst he
  exact⟨_,rfl,_,_,_,[],_,[],hW',trodAll_mk1 (shut_bool Try.underlying4 _),(trodAll_cons_mk (Below.trod laidOut kr (of_decide_eq_true kr) k0 bel ξ) (trodAll_cons_mk (Below.trod laidOut kr (of_decide_eq_true kr) k1 bel τ) (trodAll_cons_mk (Below.trod laidOut kr (of_decide_eq_true kr) k2 bel ι) trodAll_mk0))),rfl,bel.frame _,fun h=>by cases h⟩
theorem over (P:Yk):Rows.callPressesRow.holds Try.pinned (OpenSpec.ofChange Rows.callPressesSpec):=
  OpenClaim.holds_of_wide 3 Try.f3 rfl rfl rfl rfl rfl rfl rfl ⟨rfl,rfl,rfl,rfl,rfl⟩ rfl rfl rfl rfl rfl kr Try.func3 kr
    (of_decide_eq_true kr) (by unfold Func.isWrapper;first|(rw[if_pos (by decide +kernel)];kernel_rfl)|(rw[if_neg (by decide +kernel)];exact⟨rfl,rfl⟩))
    (fun os started H enc _=>lifted P os started H enc)
theorem row (P:Yk):Rows.CallPressesSaid:=over P
end Go.Proofs.Ytjehhhlhalkieaa.RowCallPresses
