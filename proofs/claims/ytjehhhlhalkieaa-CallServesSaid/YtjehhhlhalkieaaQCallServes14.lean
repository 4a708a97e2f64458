/- Texts of this claim, one behind the other: what the law's functions come to, walked (printed by a program, with the words that the print uses), and what that is, in plain Lean. No conditions of their own. -/
import Derived.Test.YtjehhhlhalkieaaQCallServes13
import Derived.Carry
import Derived.ProofKit
import Derived.ShutString
namespace Go.Proofs.Ytjehhhlhalkieaa.RowCallServes
open Go.ChangeShapes Go.WideShapes Go.ChangeAt Go.RowKit Go.Proofs.YtjehhhlhalkieaaW.PrintWords Go.Proofs.Ytjehhhlhalkieaa.Opens Go.Proofs.Ytjehhhlhalkieaa.C Go.Proofs.Ytjehhhlhalkieaa.Par
open Go.ChangeMaps (open_string shut_string)
set_option linter.unusedVariables false
theorem own:ownKnob Try.prog.godebug=none:=by kernel_rfl
theorem laidOut:laidOutB Try.prog=true:=by kernel_rfl
set_option maxRecDepth 100000 in
theorem lifted (P:Yj) (os:Os) (started:os.Started) (H:Type) (enc:TypeId×Value→H):
    ReturnsInHanded {} Try.checked os 4 .any (Rows.callServesSpec.pre6 enc Try.prog Try.f4 Rows.callServesRow.domain false) (Rows.callServesSpec.post enc Try.prog Try.f4 false true false false):=by
  refine returnsInHanded_of_change_sized (C:=Try.checked) own started kr Try.func4
    (ChangeSpec.witness6 (enc:=enc) (C:=Try.checked) false ⟨#[],#[.agg #[.int .i64 0,.int .i64 0],.agg #[.slice none 0 0,.slice none 0 0],.agg #[.int .i64 0,.int .i64 0,.int .i64 0]],[]⟩ 8 kr kr kr kr) ?_
  intro W base args ds gs before κ hW hcnd μ _
  have hsz:(DataW.weightsEach Try.prog (Try.f4.params.toList++Rows.callServesSpec.plain.varTypes Try.prog) (ds++gs)).all (· ≤ reachBytes)=true:= μ
  have hval:∀ (j:Nat) t v,Try.f4.params[j]?=some t→args[j]?=some v→Value.okWide Try.prog W .any base t v:= κ
  have hW':=hW
  obtain⟨p,q,ν,hV,rfl,hfz,hnd⟩:=hW
  have hA:DataW.TrodAll enc Try.prog W 0 (fun _=>true) true Try.f4.params.toList args.toList ds p:= ν
  rw[Try.params4] at hA hval hsz
  obtain⟨v0,a0,d0,a1,p0,q0,hargs,rfl,rfl,O,r0⟩:=trodAll_cons hA
  obtain⟨v1,a2,d1,a3,p1,q1,rfl,rfl,rfl,h1,r1⟩:=trodAll_cons r0
  obtain⟨v2,a4,d2,a5,p2,q2,rfl,rfl,rfl,L,r2⟩:=trodAll_cons r1
  obtain⟨rfl,rfl,rfl⟩:=trodAll_nil r2
  obtain rfl:args = #[v0,v1,v2]:=by cases args;simp_all
  obtain⟨rfl,rfl⟩:=trodVars_none hV
  have k0:=O
  have ξ :∀ x ∈ p0,x.block<W.heap.size:=by obtain⟨m,hm⟩:=k0;exact DataW.trod_lt m _ _ _ hm
  obtain⟨I,K0,w0⟩:=Opens.arg M3 hsz (j:=0) rfl rfl O
  obtain⟨ρ,rfl,z0⟩:=okWide_struct Try.underlying23 (hval 0 23 v0 rfl rfl)
  have e0:=L8 K0
  obtain⟨σ⟩:=ρ
  obtain rfl:σ=_:=e0
  have k1:=h1
  have τ :∀ x ∈ p1,x.block<W.heap.size:=by obtain⟨m,hm⟩:=k1;exact DataW.trod_lt m _ _ _ hm
  obtain⟨D,K1,w1⟩:=Opens.arg M2 hsz (j:=1) rfl rfl h1
  obtain⟨φ,rfl,z1⟩:=okWide_struct Try.underlying27 (hval 1 27 v1 rfl rfl)
  obtain⟨ζ,γ,η,δ,Y,B,ε,J,θ⟩:=L6 K1
  obtain⟨χ⟩:= φ
  obtain rfl: χ = _:=Y
  have k2:=L
  have ι :∀ x ∈ p2,x.block<W.heap.size:=by obtain⟨m,hm⟩:=k2;exact DataW.trod_lt m _ _ _ hm
  obtain⟨U,K2,X⟩:=Opens.arg M1 hsz (j:=2) rfl rfl L
  obtain⟨ψ,rfl,z2⟩:=okWide_struct Try.underlying43 (hval 2 43 v2 rfl rfl)
  have Z:=L5 K2
  obtain⟨ω⟩:= ψ
  obtain rfl: ω = _:=Z
  clear ν κ μ hsz
  refine(P I D ζ γ η δ U W w0 w1 B ε J θ X).mono fun e W' ⟨he,bel⟩=>?_
  subst he
  exact⟨_,rfl,_,_,_,[],_,[],hW',trodAll_mk1 (shut_bool Try.underlying4 _),(trodAll_cons_mk (Below.trod laidOut kr (of_decide_eq_true kr) k0 bel ξ) (trodAll_cons_mk (Below.trod laidOut kr (of_decide_eq_true kr) k1 bel τ) (trodAll_cons_mk (Below.trod laidOut kr (of_decide_eq_true kr) k2 bel ι) trodAll_mk0))),rfl,bel.frame _,fun h=>by cases h⟩
theorem over (P:Yj):Rows.callServesRow.holds Try.pinned (OpenSpec.ofChange Rows.callServesSpec):=
  OpenClaim.holds_of_wide 4 Try.f4 rfl rfl rfl rfl rfl rfl rfl ⟨rfl,rfl,rfl,rfl,rfl⟩ rfl rfl rfl rfl rfl kr Try.func4 kr
    (of_decide_eq_true kr) (by unfold Func.isWrapper;first|(rw[if_pos (by decide +kernel)];kernel_rfl)|(rw[if_neg (by decide +kernel)];exact⟨rfl,rfl⟩))
    (fun os started H enc _=>lifted P os started H enc)
theorem row (P:Yj):Rows.CallServesSaid:=over P
end Go.Proofs.Ytjehhhlhalkieaa.RowCallServes
