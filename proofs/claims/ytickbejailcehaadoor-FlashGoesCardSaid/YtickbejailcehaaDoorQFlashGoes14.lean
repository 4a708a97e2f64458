/- Texts of this claim, one behind the other: what the law's functions come to, walked (printed by a program, with the words that the print uses), and what that is, in plain Lean. No conditions of their own. -/
import Derived.Test.YtickbejailcehaaDoorQFlashGoes13
import Derived.Carry
import Derived.SevenTiedAt
import Derived.ShutString
import Derived.Test.YtickbejailcehaaDoorCards
namespace Go.Proofs.YtickbejailcehaaDoor.RowFlashGoes
open Go.ChangeShapes Go.WideShapes Go.ChangeAt Go.RowKit Go.Proofs.YtickbejailcehaaDoorW.PrintWords Go.Proofs.YtickbejailcehaaDoor.Opens Go.Proofs.YtickbejailcehaaDoor.C Go.Proofs.YtickbejailcehaaDoor.Par
open Go.ChangeMaps (open_string shut_string)
set_option linter.unusedVariables false
theorem own : ownKnob Tryd.prog.godebug = none := by kernel_rfl
theorem laidOut : laidOutB Tryd.prog = true := by kernel_rfl
set_option maxRecDepth 100000 in
theorem lifted (P : WalkFlashGoes) (os : Os) (started : os.Started) (H : Type) (enc : TypeId × Value → H) :
    ReturnsInHanded {} Tryd.checked os 8 .any (fun w args => (Rows.flashGoesSpec.pre enc Tryd.prog Tryd.f8 [] false w args ∧ laidMetH Tryd.prog Laid.L w) ∧ sizedMet enc Tryd.prog Tryd.f8 (OpenSpec.ofChange Rows.flashGoesSpec) false w args) (Rows.flashGoesSpec.post enc Tryd.prog Tryd.f8 false true false false) := by
  refine returnsInHanded_of_change_and (C := Tryd.checked) (X := fun w _ => laidMetH Tryd.prog Laid.L w) (fun _ _ _ hh h => h.of_heap hh) own started (by kernel_rfl) Tryd.func8
    (ChangeSpec.witness_shaped (enc := enc) (C := Tryd.checked) (os := os) (X := fun w _ => laidMetH Tryd.prog Laid.L w) false (World.doorLaid Tryd.prog 14 os) #[.slice none 0 0, .slice none 0 0] 8 rfl (World.shaped_of_RefB (by kernel_rfl) (by kernel_rfl)) (by kernel_rfl) (by kernel_rfl) (by kernel_rfl) (Laid.door_met os _)) ?_
  intro W base args ds gs before hval0 hW _ hsz0 hL _
  have hsz : (DataW.weightsEach Tryd.prog (Tryd.f8.params.toList ++ Rows.flashGoesSpec.plain.varTypes Tryd.prog) (ds ++ gs)).all (· ≤ reachBytes) = true := hsz0
  have hval : ∀ (j : Nat) t v, Tryd.f8.params[j]? = some t → args[j]? = some v → Value.okWide Tryd.prog W .any base t v := hval0
  have hW' := hW
  obtain ⟨p, q, hA0, hV, rfl, hfz, hnd⟩ := hW
  have hA : DataW.TrodAll enc Tryd.prog W 0 (fun _ => true) true Tryd.f8.params.toList args.toList ds p := hA0
  rw [Tryd.params8] at hA hval hsz
  obtain ⟨v0, vs0, d0, ds0, p0, q0, hargs, rfl, rfl, h0, r0⟩ := trodAll_cons hA
  obtain ⟨v1, vs1, d1, ds1, p1, q1, rfl, rfl, rfl, h1, r1⟩ := trodAll_cons r0
  obtain ⟨rfl, rfl, rfl⟩ := trodAll_nil r1
  obtain rfl : args = #[v0, v1] := by cases args; simp_all
  obtain ⟨rfl, rfl⟩ := trodVars_none hV
  have k0 := h0
  have lt0 : ∀ x ∈ p0, x.block < W.heap.size := by obtain ⟨m, hm⟩ := k0; exact DataW.trod_lt m _ _ _ hm
  obtain ⟨x0, K0, w0⟩ := Opens.arg (opens_slice' z26 (B := 48) Tryd.underlying51 (by kernel_rfl) (by kernel_rfl) opens26) hsz (j := 0) rfl rfl h0
  obtain ⟨B0, n0, m0, rfl⟩ := okWide_slice Tryd.underlying51 (hval 0 51 v0 rfl rfl)
  obtain ⟨A0, c0, e0, l0, g0⟩ := K0
  obtain ⟨rfl, rfl, rfl⟩ : B0 = A0 ∧ n0 = x0.length ∧ m0 = c0 := by simpa [Value.cells] using e0
  have k1 := h1
  have lt1 : ∀ x ∈ p1, x.block < W.heap.size := by obtain ⟨m, hm⟩ := k1; exact DataW.trod_lt m _ _ _ hm
  obtain ⟨x1, K1, w1⟩ := Opens.arg (opens_slice' (0 : Int) (B := 8) Tryd.underlying52 (by kernel_rfl) (by kernel_rfl) (opens_int .i64 Tryd.underlying3)) hsz (j := 1) rfl rfl h1
  obtain ⟨B1, n1, m1, rfl⟩ := okWide_slice Tryd.underlying52 (hval 1 52 v1 rfl rfl)
  obtain ⟨A1, c1, e1, l1, g1⟩ := K1
  obtain ⟨rfl, rfl, rfl⟩ : B1 = A1 ∧ n1 = x1.length ∧ m1 = c1 := by simpa [Value.cells] using e1
  clear hA0 hval0 hsz0 hsz
  refine (P x0 B0 m0 x1 B1 m1 W w0 l0 g0 w1 l1 g1 (Laid.of_laid hL)).mono fun e W' ⟨he, bel⟩ => ?_
  subst he
  exact ⟨_, rfl, _, _, _, [], _, [], hW', trodAll_mk1 (shut_bool Tryd.underlying4 _), (trodAll_cons_mk (Below.trod laidOut (by kernel_rfl) (of_decide_eq_true (by kernel_rfl)) k0 bel lt0) (trodAll_cons_mk (Below.trod laidOut (by kernel_rfl) (of_decide_eq_true (by kernel_rfl)) k1 bel lt1) trodAll_mk0)), rfl, bel.frame _, fun h => by cases h⟩
theorem over (P : WalkFlashGoes) : Rows.flashGoesRow.holds Tryd.pinned (OpenSpec.ofChange Rows.flashGoesSpec) :=
  OpenClaim.holds_of_wide 8 Tryd.f8 rfl rfl rfl rfl rfl rfl rfl ⟨rfl, rfl, rfl, rfl, rfl⟩ rfl rfl rfl rfl rfl (by kernel_rfl) Tryd.func8 (by kernel_rfl)
    (of_decide_eq_true (by kernel_rfl)) (by unfold Func.isWrapper; first | (rw [if_pos (by decide +kernel)]; kernel_rfl) | (rw [if_neg (by decide +kernel)]; exact ⟨rfl, rfl⟩))
    (fun os started H enc _ => lifted P os started H enc)
theorem row (P : WalkFlashGoes) : Rows.FlashGoesSaid := over P
theorem card (P : WalkFlashGoes) : Rows.FlashGoesCardSaid :=
  Claim7.holds_tied_plain_at .later [] [.data] true (true, "414f699e35bdfec5ce5c2e320e698369fbe724da38887bb48f8dd7d2f379b0a0") false
    (row P) (fun _ h => by cases h) (by kernel_rfl) (fun _ h => by cases h) flashGoes_row_tie rfl ⟨rfl, rfl⟩ (by kernel_rfl) rfl
    (fun f fn hf hfn => by
      obtain rfl : f = 8 := Option.some.inj ((show Tryd.prog.funcNamed "newel/newellaw12.FlashGoes" = some 8 by kernel_rfl).symm.trans hf) |>.symm
      obtain rfl : fn = Tryd.f8 := (Option.some.inj (Tryd.func8.symm.trans hfn)).symm
      exact ⟨by kernel_rfl, fun j t ht => by
        rw [Tryd.params8] at ht
        have hm : t ∈ [51, 52] := by simpa using Array.mem_of_getElem? ht
        have hall : ([51, 52].all fun u => !Tryd.prog.wantsStandIn u) = true := by kernel_rfl
        exact (show Tryd.prog.wantsStandIn t = false by simpa using List.all_eq_true.1 hall t hm)⟩)
    (by kernel_rfl)
end Go.Proofs.YtickbejailcehaaDoor.RowFlashGoes
