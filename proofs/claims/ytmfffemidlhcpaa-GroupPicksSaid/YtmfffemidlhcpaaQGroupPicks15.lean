/- Texts of this claim, one behind the other: what the law's functions come to, walked (printed by a program, with the words that the print uses), and what that is, in plain Lean. No conditions of their own. -/
import Derived.Test.YtmfffemidlhcpaaQGroupPicks14
import Derived.Carry
import Derived.ProofKit
import Derived.ShutString
namespace Go.Proofs.Ytmfffemidlhcpaa.RowGroupPicks
open Go.ChangeShapes Go.WideShapes Go.ChangeAt Go.RowKit Go.Proofs.YtmfffemidlhcpaaW.PrintWords Go.Proofs.Ytmfffemidlhcpaa.Opens Go.Proofs.Ytmfffemidlhcpaa.C Go.Proofs.Ytmfffemidlhcpaa.Par
open Go.ChangeMaps (open_string shut_string)
set_option linter.unusedVariables false
theorem own:ownKnob Try.prog.godebug=none:=by kernel_rfl
theorem laidOut:laidOutB Try.prog=true:=by kernel_rfl
set_option maxRecDepth 100000 in
theorem lifted (P:Ya) (os:Os) (started:os.Started) (H:Type) (enc:TypeId×Value→H):
 ReturnsInHanded {} Try.checked os 4 .any (Rows.groupPicksSpec.pre6 enc Try.prog Try.f4 Rows.groupPicksRow.domain false) (Rows.groupPicksSpec.post enc Try.prog Try.f4 false true false false):=by
 refine returnsInHanded_of_change_sized (C:=Try.checked) own started kr Try.func4
  (ChangeSpec.witness6 (enc:=enc) (C:=Try.checked) false ⟨#[],#[.agg #[.int .i64 0,.int .i64 0,.int .i64 0,.int .i64 0,.int .i64 0,.int .i64 0,.int .i64 0,.int .i64 0,.int .i64 0,.int .i64 0,.slice none 0 0,.int .i64 0,.slice none 0 0,.slice none 0 0],.agg #[.int .i64 0,.int .i64 0,.int .i64 0]],[]⟩ 8 kr kr kr kr) ?_
 intro W base args ds gs before γ hW hcnd δ _
 have hsz:(DataW.weightsEach Try.prog (Try.f4.params.toList++Rows.groupPicksSpec.plain.varTypes Try.prog) (ds++gs)).all (· ≤ reachBytes)=true:= δ
 have hval:∀ (j:Nat) t v,Try.f4.params[j]?=some t→args[j]?=some v→Value.okWide Try.prog W .any base t v:=γ
 have hW':=hW
 obtain⟨p,q,ε,hV,rfl,hfz,hnd⟩:=hW
 have hA:DataW.TrodAll enc Try.prog W 0 (fun _=>true) true Try.f4.params.toList args.toList ds p:= ε
 rw[Try.params4] at hA hval hsz
 obtain⟨v0,ρ,d0,τ,p0,q0,hargs,rfl,rfl,Y,r0⟩:=trodAll_cons hA
 obtain⟨v1,φ,d1,χ,p1,q1,rfl,rfl,rfl,h1,r1⟩:=trodAll_cons r0
 obtain⟨rfl,rfl,rfl⟩:=trodAll_nil r1
 obtain rfl:args = #[v0,v1]:=by cases args;simp_all
 obtain⟨rfl,rfl⟩:=trodVars_none hV
 have k0:=Y
 have ζ :∀ x ∈ p0,x.block<W.heap.size:=by obtain⟨m,hm⟩:=k0;exact DataW.trod_lt m _ _ _ hm
 obtain⟨B,K0,w0⟩:=Opens.arg Ew hsz (j:=0) rfl rfl Y
 obtain⟨η,rfl,z0⟩:=okWide_struct Try.underlying52 (hval 0 52 v0 rfl rfl)
 obtain⟨ψ,a0,a1,a2,a3,a5,e0,ν,O,ξ,X,σ,Z⟩:=Nt K0
 obtain⟨θ⟩:= η
 obtain rfl: θ = _:=e0
 have k1:=h1
 have ι :∀ x ∈ p1,x.block<W.heap.size:=by obtain⟨m,hm⟩:=k1;exact DataW.trod_lt m _ _ _ hm
 obtain⟨J,K1,w1⟩:=Opens.arg Ln hsz (j:=1) rfl rfl h1
 obtain⟨κ,rfl,z1⟩:=okWide_struct Try.underlying36 (hval 1 36 v1 rfl rfl)
 have e1:=Kz K1
 obtain⟨μ⟩:= κ
 obtain rfl: μ = _:=e1
 clear ε γ δ hsz
 refine(P B ψ a0 a1 a2 a3 a5 J W w0 ν O ξ X σ Z w1).mono fun e W' ⟨he,bel⟩=>?_
 subst he
 exact⟨_,rfl,_,_,_,[],_,[],hW',trodAll_mk1 (shut_bool Try.underlying4 _),(trodAll_cons_mk (Below.trod laidOut kr (of_decide_eq_true kr) k0 bel ζ) (trodAll_cons_mk (Below.trod laidOut kr (of_decide_eq_true kr) k1 bel ι) trodAll_mk0)),rfl,bel.frame _,fun h=>by cases h⟩
theorem over (P:Ya):Rows.groupPicksRow.holds Try.pinned (OpenSpec.ofChange Rows.groupPicksSpec):=
 OpenClaim.holds_of_wide 4 Try.f4 rfl rfl rfl rfl rfl rfl rfl ⟨rfl,rfl,rfl,rfl,rfl⟩ rfl rfl rfl rfl rfl kr Try.func4 kr
  (of_decide_eq_true kr) (by unfold Func.isWrapper;first|(rw[if_pos (by decide +kernel)];kernel_rfl)|(rw[if_neg (by decide +kernel)];exact⟨rfl,rfl⟩))
  (fun os started H enc _=>lifted P os started H enc)
theorem row (P:Ya):Rows.GroupPicksSaid:=over P
end Go.Proofs.Ytmfffemidlhcpaa.RowGroupPicks
