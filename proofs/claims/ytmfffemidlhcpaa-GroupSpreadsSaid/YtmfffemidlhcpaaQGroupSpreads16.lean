/- What this law's functions come to, walked; what that is, in plain Lean. No conditions of its own. -/
import Derived.Test.YtmfffemidlhcpaaQGroupSpreads15
import Derived.Carry
import Derived.ProofKit
import Derived.ShutString
set_option linter.unusedVariables false
set_option maxRecDepth 100000
namespace Go.Proofs.Ytmfffemidlhcpaa.RowGroupSpreads
open Go.ChangeShapes Go.WideShapes Go.ChangeAt Go.RowKit Go.Proofs.YtmfffemidlhcpaaW.PrintWords Go.Proofs.Ytmfffemidlhcpaa.Opens Go.Proofs.Ytmfffemidlhcpaa.C Go.Proofs.Ytmfffemidlhcpaa.Par
open Go.ChangeMaps (open_string shut_string)
theorem own:ownKnob Try.prog.godebug=none:=by kernel_rfl
theorem laidOut:laidOutB Try.prog=true:=by kernel_rfl
theorem lifted (P:X9) (os:Os) (started:os.Started) (H:Type) (enc:TypeId×Value→H):
 ReturnsInHanded {} Try.checked os 5 .any (Rows.groupSpreadsSpec.pre6 enc Try.prog Try.f5 Rows.groupSpreadsRow.domain false) (Rows.groupSpreadsSpec.post enc Try.prog Try.f5 false true false false):=by
 refine returnsInHanded_of_change_sized (C:=Try.checked) own started kr Try.func5
  (ChangeSpec.witness6 (enc:=enc) (C:=Try.checked) false ⟨#[],#[.agg #[nI 0,nI 0,nI 0,nI 0,nI 0,nI 0,nI 0,nI 0,nI 0,nI 0,.slice none 0 0,nI 0,.slice none 0 0,.slice none 0 0]],[]⟩ 8 kr kr kr kr) ?_
 intro W base args ds gs before γ hW hcnd δ _
 have hsz:(DataW.weightsEach Try.prog (Try.f5.params.toList++Rows.groupSpreadsSpec.plain.varTypes Try.prog) (ds++gs)).all (· ≤ reachBytes)=true:= δ
 have hval:∀ (j:Nat) t v,Try.f5.params[j]?=some t→args[j]?=some v→Value.okWide Try.prog W .any base t v:=γ
 have hW':=hW
 obtain⟨p,q,ε,hV,rfl,hfz,hnd⟩:=hW
 have hA:DataW.TrodAll enc Try.prog W 0 (fun _=>true) true Try.f5.params.toList args.toList ds p:= ε
 rw[Try.params5] at hA hval hsz
 obtain⟨v0,ι,J,ξ,p0,q0,hargs,rfl,rfl,X,r0⟩:=trodAll_cons hA
 obtain⟨rfl,rfl,rfl⟩:=trodAll_nil r0
 obtain rfl:args = #[v0]:=by cases args;simp_all
 obtain⟨rfl,rfl⟩:=trodVars_none hV
 have k0:=X
 have ζ :∀ x ∈ p0,x.block<W.heap.size:=by obtain⟨m,hm⟩:=k0;exact DataW.trod_lt m _ _ _ hm
 obtain⟨B,K0,w0⟩:=Opens.arg Dr hsz (j:=0) rfl rfl X
 obtain⟨η,rfl,z0⟩:=okWide_struct Try.underlying52 (hval 0 52 v0 rfl rfl)
 obtain⟨a0,a1,a2,a3,a5,a7,e0,κ,O,μ,Y,ν,Z⟩:=Ej K0
 obtain⟨θ⟩:= η
 obtain rfl: θ = _:=e0
 clear ε γ δ hsz
 refine(P B a0 a1 a2 a3 a5 a7 W w0 κ O μ Y ν Z).mono fun e W' ⟨he,bel⟩=>?_
 subst he
 exact⟨_,rfl,_,_,_,[],_,[],hW',trodAll_mk1 (shut_bool Try.underlying4 _),(trodAll_cons_mk (Below.trod laidOut kr (of_decide_eq_true kr) k0 bel ζ) trodAll_mk0),rfl,bel.frame _,fun h=>by cases h⟩
theorem over (P:X9):Rows.groupSpreadsRow.holds Try.pinned (OpenSpec.ofChange Rows.groupSpreadsSpec):=
 OpenClaim.holds_of_wide 5 Try.f5 rfl rfl rfl rfl rfl rfl rfl ⟨rfl,rfl,rfl,rfl,rfl⟩ rfl rfl rfl rfl rfl kr Try.func5 kr
  (of_decide_eq_true kr) (by unfold Func.isWrapper;first|(rw[if_pos (by decide +kernel)];kernel_rfl)|(rw[if_neg (by decide +kernel)];exact⟨rfl,rfl⟩))
  (fun os started H enc _=>lifted P os started H enc)
theorem row (P:X9):Rows.GroupSpreadsSaid:=over P
end Go.Proofs.Ytmfffemidlhcpaa.RowGroupSpreads
