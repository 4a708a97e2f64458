/- Texts of this claim, one behind the other: what the law's functions come to, walked (printed by a program, with the words that the print uses), and what that is, in plain Lean. No conditions of their own. -/
import Derived.Test.YtmfffemidlhcpaaQGroupAll12
import Derived.Carry
import Derived.ProofKit
import Derived.ShutString
namespace Go.Proofs.Ytmfffemidlhcpaa.RowGroupAll
open Go.ChangeShapes Go.WideShapes Go.ChangeAt Go.RowKit Go.Proofs.YtmfffemidlhcpaaW.PrintWords Go.Proofs.Ytmfffemidlhcpaa.Opens Go.Proofs.Ytmfffemidlhcpaa.C Go.Proofs.Ytmfffemidlhcpaa.Par
open Go.ChangeMaps (open_string shut_string)
set_option linter.unusedVariables false
theorem own:ownKnob Try.prog.godebug=none:=by kernel_rfl
theorem laidOut:laidOutB Try.prog=true:=by kernel_rfl
set_option maxRecDepth 100000 in
theorem lifted (P:Yo) (os:Os) (started:os.Started) (H:Type) (enc:TypeId×Value→H):
    ReturnsInHanded {} Try.checked os 8 .any (Rows.groupAllSpec.pre6 enc Try.prog Try.f8 Rows.groupAllRow.domain false) (Rows.groupAllSpec.post enc Try.prog Try.f8 false true false false):=by
  refine returnsInHanded_of_change_sized (C:=Try.checked) own started kr Try.func8
    (ChangeSpec.witness6 (enc:=enc) (C:=Try.checked) false ⟨#[],#[.agg #[.int .i64 0,.int .i64 0,.int .i64 0,.int .i64 0,.int .i64 0,.int .i64 0,.int .i64 0,.int .i64 0,.int .i64 0,.int .i64 0,.slice none 0 0,.int .i64 0,.slice none 0 0,.slice none 0 0]],[]⟩ 8 kr kr kr kr) ?_
  intro W base args ds gs before δ hW hcnd ε _
  have hsz:(DataW.weightsEach Try.prog (Try.f8.params.toList++Rows.groupAllSpec.plain.varTypes Try.prog) (ds++gs)).all (· ≤ reachBytes)=true:= ε
  have hval:∀ (j:Nat) t v,Try.f8.params[j]?=some t→args[j]?=some v→Value.okWide Try.prog W .any base t v:= δ
  have hW':=hW
  obtain⟨p,q,ζ,hV,rfl,hfz,hnd⟩:=hW
  have hA:DataW.TrodAll enc Try.prog W 0 (fun _=>true) true Try.f8.params.toList args.toList ds p:= ζ
  rw[Try.params8] at hA hval hsz
  obtain⟨v0,μ,J,ν,p0,q0,hargs,rfl,rfl,X,r0⟩:=trodAll_cons hA
  obtain⟨rfl,rfl,rfl⟩:=trodAll_nil r0
  obtain rfl:args = #[v0]:=by cases args;simp_all
  obtain⟨rfl,rfl⟩:=trodVars_none hV
  have k0:=X
  have η :∀ x ∈ p0,x.block<W.heap.size:=by obtain⟨m,hm⟩:=k0;exact DataW.trod_lt m _ _ _ hm
  obtain⟨B,K0,w0⟩:=Opens.arg Eh hsz (j:=0) rfl rfl X
  obtain⟨θ,rfl,z0⟩:=okWide_struct Try.underlying52 (hval 0 52 v0 rfl rfl)
  obtain⟨a8,a9,ah,ae,af,ag,Y,ρ,O,ι,Z,φ,γ⟩:=Nc K0
  obtain⟨κ⟩:= θ
  obtain rfl: κ = _:=Y
  clear ζ δ ε hsz
  refine(P B a8 a9 ah ae af ag W w0 ρ O ι Z φ γ).mono fun e W' ⟨he,bel⟩=>?_
  subst he
  exact⟨_,rfl,_,_,_,[],_,[],hW',trodAll_mk1 (shut_bool Try.underlying4 _),(trodAll_cons_mk (Below.trod laidOut kr (of_decide_eq_true kr) k0 bel η) trodAll_mk0),rfl,bel.frame _,fun h=>by cases h⟩
theorem over (P:Yo):Rows.groupAllRow.holds Try.pinned (OpenSpec.ofChange Rows.groupAllSpec):=
  OpenClaim.holds_of_wide 8 Try.f8 rfl rfl rfl rfl rfl rfl rfl ⟨rfl,rfl,rfl,rfl,rfl⟩ rfl rfl rfl rfl rfl kr Try.func8 kr
    (of_decide_eq_true kr) (by unfold Func.isWrapper;first|(rw[if_pos (by decide +kernel)];kernel_rfl)|(rw[if_neg (by decide +kernel)];exact⟨rfl,rfl⟩))
    (fun os started H enc _=>lifted P os started H enc)
theorem row (P:Yo):Rows.GroupAllSaid:=over P
end Go.Proofs.Ytmfffemidlhcpaa.RowGroupAll
