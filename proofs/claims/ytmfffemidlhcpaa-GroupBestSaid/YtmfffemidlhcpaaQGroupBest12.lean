/- Texts of this claim, one behind the other: what the law's functions come to, walked (printed by a program, with the words that the print uses), and what that is, in plain Lean. No conditions of their own. -/
import Derived.Test.YtmfffemidlhcpaaQGroupBest11
import Derived.Carry
import Derived.ProofKit
import Derived.ShutString
namespace Go.Proofs.Ytmfffemidlhcpaa.RowGroupBest
open Go.ChangeShapes Go.WideShapes Go.ChangeAt Go.RowKit Go.Proofs.YtmfffemidlhcpaaW.PrintWords Go.Proofs.Ytmfffemidlhcpaa.Opens Go.Proofs.Ytmfffemidlhcpaa.C Go.Proofs.Ytmfffemidlhcpaa.Par
open Go.ChangeMaps (open_string shut_string)
set_option linter.unusedVariables false
theorem own:ownKnob Try.prog.godebug=none:=by kernel_rfl
theorem laidOut:laidOutB Try.prog=true:=by kernel_rfl
set_option maxRecDepth 100000 in
theorem lifted (P:Yg) (os:Os) (started:os.Started) (H:Type) (enc:TypeId×Value→H):
    ReturnsInHanded {} Try.checked os 6 .any (Rows.groupBestSpec.pre6 enc Try.prog Try.f6 Rows.groupBestRow.domain false) (Rows.groupBestSpec.post enc Try.prog Try.f6 false true false false):=by
  refine returnsInHanded_of_change_sized (C:=Try.checked) own started kr Try.func6
    (ChangeSpec.witness6 (enc:=enc) (C:=Try.checked) false ⟨#[],#[.agg #[.int .i64 0,.int .i64 0,.int .i64 0,.int .i64 0,.int .i64 0,.int .i64 0,.int .i64 0,.int .i64 0,.int .i64 0,.int .i64 0,.slice none 0 0,.int .i64 0,.slice none 0 0,.slice none 0 0],.agg #[.int .i64 0,.int .i64 0,.int .i64 0]],[]⟩ 8 kr kr kr kr) ?_
  intro W base args ds gs before ε hW hcnd ζ _
  have hsz:(DataW.weightsEach Try.prog (Try.f6.params.toList++Rows.groupBestSpec.plain.varTypes Try.prog) (ds++gs)).all (· ≤ reachBytes)=true:= ζ
  have hval:∀ (j:Nat) t v,Try.f6.params[j]?=some t→args[j]?=some v→Value.okWide Try.prog W .any base t v:= ε
  have hW':=hW
  obtain⟨p,q,η,hV,rfl,hfz,hnd⟩:=hW
  have hA:DataW.TrodAll enc Try.prog W 0 (fun _=>true) true Try.f6.params.toList args.toList ds p:= η
  rw[Try.params6] at hA hval hsz
  obtain⟨v0,σ,Z,τ,p0,q0,hargs,rfl,rfl,X,r0⟩:=trodAll_cons hA
  obtain⟨v1,φ,d1,χ,p1,q1,rfl,rfl,rfl,h1,r1⟩:=trodAll_cons r0
  obtain⟨rfl,rfl,rfl⟩:=trodAll_nil r1
  obtain rfl:args = #[v0,v1]:=by cases args;simp_all
  obtain⟨rfl,rfl⟩:=trodVars_none hV
  have k0:=X
  have θ :∀ x ∈ p0,x.block<W.heap.size:=by obtain⟨m,hm⟩:=k0;exact DataW.trod_lt m _ _ _ hm
  obtain⟨B,K0,w0⟩:=Opens.arg Ec hsz (j:=0) rfl rfl X
  obtain⟨ι,rfl,z0⟩:=okWide_struct Try.underlying52 (hval 0 52 v0 rfl rfl)
  obtain⟨b9,ar,ag,ah,ai,aj,Y,μ,O,ω,γ,a0,δ⟩:=M6 K0
  obtain⟨κ⟩:= ι
  obtain rfl: κ = _:=Y
  have k1:=h1
  have ν :∀ x ∈ p1,x.block<W.heap.size:=by obtain⟨m,hm⟩:=k1;exact DataW.trod_lt m _ _ _ hm
  obtain⟨J,K1,w1⟩:=Opens.arg W3 hsz (j:=1) rfl rfl h1
  obtain⟨ξ,rfl,z1⟩:=okWide_struct Try.underlying36 (hval 1 36 v1 rfl rfl)
  have e1:=Ks K1
  obtain⟨ρ⟩:= ξ
  obtain rfl:ρ=_:=e1
  clear η ε ζ hsz
  refine(P B b9 ar ag ah ai aj J W w0 μ O ω γ a0 δ w1).mono fun e W' ⟨he,bel⟩=>?_
  subst he
  exact⟨_,rfl,_,_,_,[],_,[],hW',trodAll_mk1 (shut_bool Try.underlying4 _),(trodAll_cons_mk (Below.trod laidOut kr (of_decide_eq_true kr) k0 bel θ) (trodAll_cons_mk (Below.trod laidOut kr (of_decide_eq_true kr) k1 bel ν) trodAll_mk0)),rfl,bel.frame _,fun h=>by cases h⟩
theorem over (P:Yg):Rows.groupBestRow.holds Try.pinned (OpenSpec.ofChange Rows.groupBestSpec):=
  OpenClaim.holds_of_wide 6 Try.f6 rfl rfl rfl rfl rfl rfl rfl ⟨rfl,rfl,rfl,rfl,rfl⟩ rfl rfl rfl rfl rfl kr Try.func6 kr
    (of_decide_eq_true kr) (by unfold Func.isWrapper;first|(rw[if_pos (by decide +kernel)];kernel_rfl)|(rw[if_neg (by decide +kernel)];exact⟨rfl,rfl⟩))
    (fun os started H enc _=>lifted P os started H enc)
theorem row (P:Yg):Rows.GroupBestSaid:=over P
end Go.Proofs.Ytmfffemidlhcpaa.RowGroupBest
