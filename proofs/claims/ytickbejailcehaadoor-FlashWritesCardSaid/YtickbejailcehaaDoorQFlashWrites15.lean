/- Texts of this claim, one behind the other: what the law's functions come to, walked (printed by a program, with the words that the print uses), and what that is, in plain Lean. No conditions of their own. -/
import Derived.Test.YtickbejailcehaaDoorQFlashWrites14
import Derived.Carry
import Derived.SevenTiedAt
import Derived.ShutString
import Derived.Test.YtickbejailcehaaDoorCards
namespace Go.Proofs.YtickbejailcehaaDoor.RowFlashWrites
open Go.ChangeShapes Go.WideShapes Go.ChangeAt Go.RowKit Go.Proofs.YtickbejailcehaaDoorW.PrintWords Go.Proofs.YtickbejailcehaaDoor.Opens Go.Proofs.YtickbejailcehaaDoor.C Go.Proofs.YtickbejailcehaaDoor.Par
open Go.ChangeMaps (open_string shut_string)
set_option linter.unusedVariables false
theorem own:ownKnob Tryd.prog.godebug=none:=by kernel_rfl
theorem laidOut:laidOutB Tryd.prog=true:=by kernel_rfl
set_option maxRecDepth 100000 in
theorem lifted (P:Xu) (os:Os) (started:os.Started) (H:Type) (enc:TypeId×Value→H):
    ReturnsInHanded {} Tryd.checked os 3 .any (fun w args=>(Rows.flashWritesSpec.pre enc Tryd.prog Tryd.f3 [] false w args∧laidMetH Tryd.prog Laid.L w)∧sizedMet enc Tryd.prog Tryd.f3 (OpenSpec.ofChange Rows.flashWritesSpec) false w args) (Rows.flashWritesSpec.post enc Tryd.prog Tryd.f3 false true false false):=by
  refine returnsInHanded_of_change_and (C:=Tryd.checked) (X:=fun w _=>laidMetH Tryd.prog Laid.L w) (fun _ _ _ hh h=>h.of_heap hh) own started kr Tryd.func3
    (ChangeSpec.witness_shaped (enc:=enc) (C:=Tryd.checked) (os:=os) (X:=fun w _=>laidMetH Tryd.prog Laid.L w) false (World.doorLaid Tryd.prog 14 os) #[.agg #[.slice none 0 0,.slice none 0 0],.agg #[.int .i64 0,.int .i64 0,.int .i64 0,.slice none 0 0],.int .i64 0] 8 rfl (World.shaped_of_RefB kr kr) kr kr kr (Laid.Mv os _)) ?_
  intro W base args ds gs before hval0 hW _ hsz0 hL _
  have hsz:(DataW.weightsEach Tryd.prog (Tryd.f3.params.toList++Rows.flashWritesSpec.plain.varTypes Tryd.prog) (ds++gs)).all (· ≤ reachBytes)=true:=hsz0
  have hval:∀ (j:Nat) t v,Tryd.f3.params[j]?=some t→args[j]?=some v→Value.okWide Tryd.prog W .any base t v:=hval0
  have hW':=hW
  obtain⟨p,q,hA0,hV,rfl,hfz,hnd⟩:=hW
  have hA:DataW.TrodAll enc Tryd.prog W 0 (fun _=>true) true Tryd.f3.params.toList args.toList ds p:=hA0
  rw[Tryd.params3] at hA hval hsz
  obtain⟨v0,vs0,d0,ds0,p0,q0,hargs,rfl,rfl,h0,r0⟩:=trodAll_cons hA
  obtain⟨v1,vs1,d1,ds1,p1,q1,rfl,rfl,rfl,h1,r1⟩:=trodAll_cons r0
  obtain⟨v2,vs2,d2,ds2,p2,q2,rfl,rfl,rfl,h2,r2⟩:=trodAll_cons r1
  obtain⟨rfl,rfl,rfl⟩:=trodAll_nil r2
  obtain rfl:args = #[v0,v1,v2]:=by cases args;simp_all
  obtain⟨rfl,rfl⟩:=trodVars_none hV
  have k0:=h0
  have lt0:∀ x ∈ p0,x.block<W.heap.size:=by obtain⟨m,hm⟩:=k0;exact DataW.trod_lt m _ _ _ hm
  obtain⟨x0,K0,w0⟩:=Opens.arg Nu hsz (j:=0) rfl rfl h0
  obtain⟨cs0,rfl,z0⟩:=okWide_struct Tryd.underlying24 (hval 0 24 v0 rfl rfl)
  obtain⟨A0_0,c0_0,A0_1,c0_1,e0,l0_0,g0_0,l0_1,g0_1⟩:=Mp K0
  obtain⟨cl0⟩:=cs0
  obtain rfl:cl0=_:=e0
  have k1:=h1
  have lt1:∀ x ∈ p1,x.block<W.heap.size:=by obtain⟨m,hm⟩:=k1;exact DataW.trod_lt m _ _ _ hm
  obtain⟨x1,K1,w1⟩:=Opens.arg Nt hsz (j:=1) rfl rfl h1
  obtain⟨cs1,rfl,z1⟩:=okWide_struct Tryd.underlying26 (hval 1 26 v1 rfl rfl)
  obtain⟨A1_3,c1_3,e1,l1_3,g1_3⟩:=Mo K1
  obtain⟨cl1⟩:=cs1
  obtain rfl:cl1=_:=e1
  obtain⟨x2,rfl,rfl,rfl,w2⟩:=open_int Tryd.underlying3 (hval 2 3 v2 rfl rfl) h2
  clear hA0 hval0 hsz0 hsz
  refine(P x0 A0_0 c0_0 A0_1 c0_1 x1 A1_3 c1_3 x2 W w0 l0_0 g0_0 l0_1 g0_1 w1 l1_3 g1_3 w2 (Laid.Nx hL)).mono fun e W' ⟨he,bel⟩=>?_
  subst he
  exact⟨_,rfl,_,_,_,[],_,[],hW',trodAll_mk1 (shut_bool Tryd.underlying4 _),(trodAll_cons_mk (Below.trod laidOut kr (of_decide_eq_true kr) k0 bel lt0) (trodAll_cons_mk (Below.trod laidOut kr (of_decide_eq_true kr) k1 bel lt1) (trodAll_cons_mk (shut_int Tryd.underlying3 w2) trodAll_mk0))),rfl,bel.frame _,fun h=>by cases h⟩
theorem over (P:Xu):Rows.flashWritesRow.holds Tryd.pinned (OpenSpec.ofChange Rows.flashWritesSpec):=
  OpenClaim.holds_of_wide 3 Tryd.f3 rfl rfl rfl rfl rfl rfl rfl ⟨rfl,rfl,rfl,rfl,rfl⟩ rfl rfl rfl rfl rfl kr Tryd.func3 kr
    (of_decide_eq_true kr) (by unfold Func.isWrapper;first|(rw[if_pos (by decide +kernel)];kernel_rfl)|(rw[if_neg (by decide +kernel)];exact⟨rfl,rfl⟩))
    (fun os started H enc _=>lifted P os started H enc)
theorem row (P:Xu):Rows.FlashWritesSaid:=over P
theorem card (P:Xu):Rows.FlashWritesCardSaid:=
  Claim7.holds_tied_plain_at .later [] [.data] true (true,"414f699e35bdfec5ce5c2e320e698369fbe724da38887bb48f8dd7d2f379b0a0") false
    (row P) (fun _ h=>by cases h) kr (fun _ h=>by cases h) flashWrites_row_tie rfl ⟨rfl,rfl⟩ kr rfl
    (fun f fn hf hfn=>by
      obtain rfl:f=3:=Option.some.inj ((show Tryd.prog.funcNamed "newel/newellaw12.FlashWrites" = some 3 by kernel_rfl).symm.trans hf) |>.symm
      obtain rfl:fn=Tryd.f3:=(Option.some.inj (Tryd.func3.symm.trans hfn)).symm
      exact⟨by kernel_rfl,fun j t ht=>by
        rw[Tryd.params3] at ht
        have hm:t ∈ [24,26,3]:=by simpa using Array.mem_of_getElem? ht
        have hall:([24,26,3].all fun u=> !Tryd.prog.wantsStandIn u)=true:=by kernel_rfl
        exact(show Tryd.prog.wantsStandIn t=false by simpa using List.all_eq_true.1 hall t hm)⟩)
    kr
end Go.Proofs.YtickbejailcehaaDoor.RowFlashWrites
