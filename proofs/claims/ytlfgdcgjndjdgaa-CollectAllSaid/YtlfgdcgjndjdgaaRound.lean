/- A region in a round of a range over a function, by the words for a plain one. -/
import Derived.Test.YtlfgdcgjndjdgaaIter
import Derived.OrdersIn
namespace Go.Proofs.Ytlfgdcgjndjdgaa.Iter
open Go.RowKit Go.Shelf Go.Proofs.YtlfgdcgjndjdgaaW.PrintWords Go.Proofs.YtlfgdcgjndjdgaaW.PrintLast Go.Proofs.YtlfgdcgjndjdgaaW.PrintMore
set_option linter.unusedVariables false
section
variable {P : Program} {ops : Array Oper} {Q : Exit → Act → World → Prop} {md : Region.Mode} {S : World → Prop} {ds : List Nat} {rl m : Nat}
theorem upon_in {o : Oper} {a : Act} {K : Act → World → Prop} {r : Result Next} (h : o.upon P a K Q r) : o.uponIn (Fence.wide.inRound rl) m P a K Q r := by
  match r, h with
  | .ok (.value v) w', h => exact h
  | .ok .skip w', h => exact h
  | .ok (.defer d) w', h => exact h
  | .ok (.enter f args) w', h => exact ⟨fun hd => (by cases hd), CallsIn.inRound rl (callsIn_wide.2 h)⟩
  | .ok (.row row args) w', h => exact ⟨fun hd => (by cases hd), fun c cs _ => by
      obtain ⟨v, w'', r, s⟩ := h c cs
      exact ⟨v, w'', r, stepsIn_wide.2 s⟩⟩
  | .halt (.panic v) w', h => exact h
theorem op_in {o : Oper} {a : Act} {w : World} {K : Act → World → Prop} (hd : ∀ c, o.op ≠ .defer c) (h : o.wp P a w K Q) : o.wpIn (Fence.wide.inRound rl) m P a w K Q := by
  refine ⟨fun _ _ => trivial, ?_⟩
  show o.uponIn (Fence.wide.inRound rl) m P a K Q ((o.semAt (some rl) a.eval).run P w)
  rw [Oper.semAt_some _ _ _ hd]
  exact upon_in h
theorem any_in (hd : ∀ (i : Nat) (o : Oper), ops[i]? = some o → ∀ c, o.op ≠ .defer c) (hL : ¬ LetsOut Q) : ∀ (fuel : Nat) (listed : Array Bool) (a : Act) (w : World), wpAny P md ops Q fuel listed a w → wpAnyIn (Fence.wide.inRound rl) m P md ops Q fuel listed a w
  | 0, _, _, _, h => h
  | fuel + 1, listed, a, w, h => ⟨h.1, fun i hi => by
      have h2 := h.2 i hi
      unfold wpOp at h2
      unfold wpOpIn
      cases ho : ops[i]? with
      | none =>
        rw [ho] at h2
        exact any_in hd hL fuel _ _ _ h2
      | some o =>
        rw [ho] at h2
        by_cases hw : Region.wanted o (yielded ops a.tmps) = true
        · simp only [hw, if_true] at h2 ⊢
          rcases h2 with h2 | h2
          · exact Oper.wpIn_mono (fun a' w' h3 => any_in hd hL fuel _ _ _ h3) (op_in (hd i o ho) h2)
          · exact absurd h2.2 hL
        · simp only [hw] at h2 ⊢
          exact ⟨fun _ _ => trivial, any_in hd hL fuel _ _ _ h2⟩⟩
def plainOp (o : Oper) : Bool := match o.op with | .defer _ => false | _ => true
theorem plain_of_all (h : ops.all plainOp = true) : ∀ (i : Nat) (o : Oper), ops[i]? = some o → ∀ c, o.op ≠ .defer c := by
  intro i o ho c e
  have h2 := Array.all_eq_true_iff_forall_mem.1 h o (Array.mem_of_getElem? ho)
  unfold plainOp at h2
  rw [e] at h2
  cases h2
theorem start_in {id n : Nat} {a : Act} {w : World} (l : Array Bool) (hm : P.follows .mixedOrders = true) (hn : ops.size = n) (hl : Array.replicate n false = l) (hS : S w.drew)
    (hd : ops.all plainOp = true) (hL : ¬ LetsOut Q)
    (h : wpAnyLast P .any ops Q S ds n l a w.drew) : (Code.region id ops true).wpIn (Fence.wide.inRound rl) m P Q a w := by
  subst hn
  subst hl
  exact wpIn_region_any hm (any_in (plain_of_all hd) hL _ _ _ _ (wpAny_of_last _ _ _ _ h))
end
end Go.Proofs.Ytlfgdcgjndjdgaa.Iter
