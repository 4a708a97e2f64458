/- Texts of this claim, one behind the other: what the law's functions come to, walked (printed by a program, with the words that the print uses), and what that is, in plain Lean. No conditions of their own. -/
import Derived.Test.YtmfffemidlhcpaaQGroupCosts12
import Derived.Carry
import Derived.ProofKit
import Derived.ShutString
namespace Go.Proofs.Ytmfffemidlhcpaa.RowGroupCosts
open Go.ChangeShapes Go.WideShapes Go.ChangeAt Go.RowKit Go.Proofs.YtmfffemidlhcpaaW.PrintWords Go.Proofs.Ytmfffemidlhcpaa.Opens Go.Proofs.Ytmfffemidlhcpaa.C Go.Proofs.Ytmfffemidlhcpaa.Par
open Go.ChangeMaps (open_string shut_string)
set_option linter.unusedVariables false
theorem own:ownKnob Try.prog.godebug=none:=by kernel_rfl
theorem laidOut:laidOutB Try.prog=true:=by kernel_rfl
set_option maxRecDepth 100000 in
theorem lifted (P:X8) (os:Os) (started:os.Started) (H:Type) (enc:TypeId×Value→H):
    ReturnsInHanded {} Try.checked os 3 .any (Rows.groupCostsSpec.pre6 enc Try.prog Try.f3 Rows.groupCostsRow.domain false) (Rows.groupCostsSpec.post enc Try.prog Try.f3 false true false false):=by
  refine returnsInHanded_of_change_sized (C:=Try.checked) own started kr Try.func3
    (ChangeSpec.witness6 (enc:=enc) (C:=Try.checked) false ⟨#[],#[.agg #[.int .i64 0,.int .i64 0,.int .i64 0,.int .i64 0,.int .i64 0,.int .i64 0,.int .i64 0,.int .i64 0,.int .i64 0,.int .i64 0],.agg #[.int .i64 0,.int .i64 0,.int .i64 0,.int .i64 0,.int .i64 0,.int .i64 0,.int .i64 0,.int .i64 0,.bool false,.bool false],.agg #[.slice none 0 0,.slice none 0 0,.slice none 0 0,.int .i64 0,.int .i64 0,.int .i64 0]],[]⟩ 8 kr kr kr kr) ?_
  intro W base args ds gs before δ hW hcnd ζ _
  have hsz:(DataW.weightsEach Try.prog (Try.f3.params.toList++Rows.groupCostsSpec.plain.varTypes Try.prog) (ds++gs)).all (· ≤ reachBytes)=true:= ζ
  have hval:∀ (j:Nat) t v,Try.f3.params[j]?=some t→args[j]?=some v→Value.okWide Try.prog W .any base t v:= δ
  have hW':=hW
  obtain⟨p,q,η,hV,rfl,hfz,hnd⟩:=hW
  have hA:DataW.TrodAll enc Try.prog W 0 (fun _=>true) true Try.f3.params.toList args.toList ds p:= η
  rw[Try.params3] at hA hval hsz
  obtain⟨v0,ψ,d0,ω,p0,q0,hargs,rfl,rfl,X,r0⟩:=trodAll_cons hA
  obtain⟨v1,a0,d1,a1,p1,q1,rfl,rfl,rfl,h1,r1⟩:=trodAll_cons r0
  obtain⟨v2,a2,d2,a3,p2,q2,rfl,rfl,rfl,L,r2⟩:=trodAll_cons r1
  obtain⟨rfl,rfl,rfl⟩:=trodAll_nil r2
  obtain rfl:args = #[v0,v1,v2]:=by cases args;simp_all
  obtain⟨rfl,rfl⟩:=trodVars_none hV
  have k0:=X
  have θ :∀ x ∈ p0,x.block<W.heap.size:=by obtain⟨m,hm⟩:=k0;exact DataW.trod_lt m _ _ _ hm
  obtain⟨B,K0,w0⟩:=Opens.arg Nu hsz (j:=0) rfl rfl X
  obtain⟨ι,rfl,z0⟩:=okWide_struct Try.underlying25 (hval 0 25 v0 rfl rfl)
  have e0:=Mo K0
  obtain⟨κ⟩:= ι
  obtain rfl: κ = _:=e0
  have k1:=h1
  have μ :∀ x ∈ p1,x.block<W.heap.size:=by obtain⟨m,hm⟩:=k1;exact DataW.trod_lt m _ _ _ hm
  obtain⟨J,K1,w1⟩:=Opens.arg Nr hsz (j:=1) rfl rfl h1
  obtain⟨ν,rfl,z1⟩:=okWide_struct Try.underlying31 (hval 1 31 v1 rfl rfl)
  have e1:=Uq K1
  obtain⟨ξ⟩:= ν
  obtain rfl: ξ = _:=e1
  have k2:=L
  have ε :∀ x ∈ p2,x.block<W.heap.size:=by obtain⟨m,hm⟩:=k2;exact DataW.trod_lt m _ _ _ hm
  obtain⟨O,K2,w2⟩:=Opens.arg Nn hsz (j:=2) rfl rfl L
  obtain⟨ρ,rfl,z2⟩:=okWide_struct Try.underlying38 (hval 2 38 v2 rfl rfl)
  obtain⟨a9,aa,ab,ac,ai,aj,e2,σ,Y,τ,Z,φ,γ⟩:=Mk K2
  obtain⟨χ⟩:=ρ
  obtain rfl: χ = _:=e2
  clear η δ ζ hsz
  refine(P B J O a9 aa ab ac ai aj W w0 w1 w2 σ Y τ Z φ γ).mono fun e W' ⟨he,bel⟩=>?_
  subst he
  exact⟨_,rfl,_,_,_,[],_,[],hW',trodAll_mk1 (shut_bool Try.underlying4 _),(trodAll_cons_mk (Below.trod laidOut kr (of_decide_eq_true kr) k0 bel θ) (trodAll_cons_mk (Below.trod laidOut kr (of_decide_eq_true kr) k1 bel μ) (trodAll_cons_mk (Below.trod laidOut kr (of_decide_eq_true kr) k2 bel ε) trodAll_mk0))),rfl,bel.frame _,fun h=>by cases h⟩
theorem over (P:X8):Rows.groupCostsRow.holds Try.pinned (OpenSpec.ofChange Rows.groupCostsSpec):=
  OpenClaim.holds_of_wide 3 Try.f3 rfl rfl rfl rfl rfl rfl rfl ⟨rfl,rfl,rfl,rfl,rfl⟩ rfl rfl rfl rfl rfl kr Try.func3 kr
    (of_decide_eq_true kr) (by unfold Func.isWrapper;first|(rw[if_pos (by decide +kernel)];kernel_rfl)|(rw[if_neg (by decide +kernel)];exact⟨rfl,rfl⟩))
    (fun os started H enc _=>lifted P os started H enc)
theorem row (P:X8):Rows.GroupCostsSaid:=over P
end Go.Proofs.Ytmfffemidlhcpaa.RowGroupCosts
