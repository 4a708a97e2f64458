/- Texts of this claim, one behind the other: what the law's functions come to, walked (printed by a program, with the words that the print uses), and what that is, in plain Lean. No conditions of their own. -/
import Derived.Test.YtjehhhlhalkieaaQCallViews4
import Derived.Laws.EntriesVeiled
import Derived.WalkSpells
namespace Go.Proofs.Ytjehhhlhalkieaa.C
open Go.RowKit Go.Proofs.YtjehhhlhalkieaaW.PrintWords Go.Proofs.YtjehhhlhalkieaaW.PrintLast Go.Proofs.YtjehhhlhalkieaaW.PrintMore
attribute [local go_sem] max2_int min2_int max_two min_two max_three min_three max_four min_four
set_option linter.unusedVariables false
set_option linter.unusedSimpArgs false
def api_Hall_55.f (l0 : List S56) : Option (List S56) := if l0.length < 1000000000 then some l0 else none
set_option maxRecDepth 100000 in
set_option maxHeartbeats 1000000 in
theorem api_Hall_55.calls (A0 : Option Addr) (c0 : Nat) (l0 : List S56) (r : List S56) (w : World) (hr0 : Kd.C k56 w A0 l0.length l0) (hc0 : l0.length ≤ c0) (h : api_Hall_55.f l0 = some r) :
    Calls Try.prog 55 #[.slice A0 l0.length c0] w fun e w' => ∃ v0_ : Value, e = .returned v0_ ∧ Kd.R k56 56 w' w.heap.size (fun _ => True) v0_ r ∧ Below w.heap.size w w' := by
  unfold api_Hall_55.f at h
  split at h
  case isFalse => cases h
  case isTrue hl =>
  cases h
  have HR := Aside0.mk hr0
  have HC := Aside0.mk hc0
  have HL := Aside0.mk hl
  have HB := Aside0.mk (Below.refl w.heap.size w)
  have hn : A0 = none → l0 = [] := by
    intro hA
    rcases Nat.eq_zero_or_pos l0.length with h | h
    · exact List.eq_nil_of_length_eq_zero h
    · obtain ⟨ad, e, _⟩ := hr0.2.2 h
      rw [hA] at e
      cases e
  clear hr0 hc0 hl
  have hEq : ∀ (W : World), (binOp .eql 24 (.slice A0 l0.length c0) (.slice none 0 0)).run Try.prog W = .ok (.bool A0.isNone) W := fun W => Lib.run_eql_slice_nil W _ _ _ _ _ _ _ Try.underlying24
  rcases A0 with _ | ad
  · have hn2 := Aside0.mk (hn rfl)
    clear hn
    go_enter Try.func55, Try.ntmps55
    go_wp2
    go_ret
    rw [hn2.out]
    exact ⟨_, rfl, Kd.R_nil _ _ _ _ _, HB.out⟩
  · clear hn
    go_enter Try.func55, Try.ntmps55
    go_wp2_with (first | ((with_reducible refine gate_dst (N := 5) rfl ?_); refine Kd.R_lit k56 _ 56 ?hg (N := 5) ?hd (xs := ([] : List S56)) (inner := []) (ok := fun _ => True) (okp := fun _ => True) ?hr ?hp (fun _ hk => hk) trivial (Below.refl _ _) (Nat.le_refl _) (by simp) ?_; (case hd => rfl); (case hg => rfl); (case hr => first | (go_simp; done) | (go_simp; rfl)); (case hp => exact (Reps.none _ _)); intro v1 w1 ho1 hb1 hg_ hnew_; clear hg_ hnew_; have HO := Aside0.mk ho1; have HB1 := Aside0.mk hb1; clear ho1 hb1) | ((with_reducible refine gate_builtin (b := .append) (xs := #[.tmp 5, .tmp 6]) rfl ?_); at_builtin; refine Kd.R_append_rows k56 (w0 := w) w.heap.size rfl (.tmp 5) (.tmp 6) 24 56 (.agg #[(.int .i64 0), (.int .i64 0), (.int .i64 0)]) 24 rfl Try.underlying24 info56 rfl (by decide) (by omega) v1 [] l0 _ _ _ (fun _ => True) (fun _ => False) rfl rfl ?aO ?aR (fun _ _ h => h) (fun _ h => h.elim) ?aF ?aB ?aS ?aL ?_; (case aR => exact (Kd.C_below HR.out HB1.out)); (case aB => exact HB1.out); (case aF => exact (fun _ _ => trivial)); (case aO => exact HO.out); (case aS => exact below_size HB1.out); (case aL => have := HL.out; simp only [List.length_nil]; omega); intro v2 w2 ho hb hg hat; clear hg hat))
    go_ret
    exact ⟨_, rfl, by simpa using ho, hb⟩
def woH (x0 x1 x2 : Int) (l : List S56) : List S56 := l.filter (fun y => !(cmp2 x0 x1 y.f0 y.f1 == 0))
set_option maxRecDepth 100000 in
set_option maxHeartbeats 2000000 in
theorem withoutH_row (A : Option Addr) (c : Nat) (l : List S56) (x0 x1 x2 : Int) (w : World) (hr : Kd.C k56 w A l.length l) (hc : l.length ≤ c) (hl : l.length < 1000000000) (hx1 : -9223372036854775808 ≤ x1 ∧ x1 ≤ 9223372036854775807) :
    Calls Try.prog 31 #[.agg #[.slice A l.length c, .func (.func 51) #[] #[]], .agg #[.int .i64 x0, .int .i64 x1, .int .i64 x2]] w fun e w' => ∃ v0_ : Value, e = .returned v0_ ∧ Kd.R k56 56 w' w.heap.size (fun _ => True) v0_ (woH x0 x1 x2 l) ∧ Below w.heap.size w w' := by
  have HR := Aside0.mk hr
  have HC := Aside0.mk hc
  have HF := Aside0.mk (show api_Hall_55.f l = some l by unfold api_Hall_55.f; rw [if_pos hl])
  have HB := Aside0.mk (Below.refl w.heap.size w)
  have HD := Aside0.mk (show api_Hall_54.f (l.length + 6) l (tok x0 x1) = some (woH x0 x1 x2 l) by
    rw [Call.delH_eq l (tok x0 x1) (by omega) _ (by omega)]
    show some (l.filter (fun y => !(cmp2 (tok1 (tok x0 x1)) (tok2 (tok x0 x1)) y.f0 y.f1 == 0))) = _
    rw [tok1_tok x0 x1 hx1, tok2_tok x0 x1 hx1]
    rfl)
  have T1 := Aside0.mk (tok1_tok x0 x1 hx1)
  have T2 := Aside0.mk (tok2_tok x0 x1 hx1)
  clear hr hc hl hx1
  go_enter Try.func31, Try.ntmps31
  go_wp2_with (first | ((with_reducible refine gate_dst (N := 2) rfl ?_); refine box_event ?hg (N := 2) ?hd (cs := #[.slice A l.length c, .func (.func 51) #[] #[]]) (t := 69) ?hr ?_; (case hd => rfl); (case hg => rfl); (case hr => first | (go_simp; done) | (go_simp; rfl)); intro g2 hg_ w2 hbox hb; have n0_ := Aside0.mk (below_step HB.out hb); have n1_ := Aside0.mk hbox; clear HB; have HB := n0_; have BKg2 := n1_; clear n0_ n1_; clear hb hbox hg_) | ((with_reducible refine gate_dst (N := 3) rfl ?_); refine box_event ?hg (N := 3) ?hd (cs := #[.int .i64 x0, .int .i64 x1, .int .i64 x2]) (t := 56) ?hr ?_; (case hd => rfl); (case hg => rfl); (case hr => first | (go_simp; done) | (go_simp; rfl)); intro g3 hg_ w3 hbox hb; have m0_ := Aside0.mk (blk_below (g := g2) (o := .cells #[.slice A l.length c, .func (.func 51) #[] #[]] 69 (0, 0)) BKg2.out hb); have n0_ := Aside0.mk (below_step HB.out hb); have n1_ := Aside0.mk hbox; clear HB BKg2; have HB := n0_; have BKg3 := n1_; have BKg2 := m0_; clear n0_ n1_ m0_; clear hb hbox hg_; have hcz0 : w3.cell? ⟨g2, 0, none⟩ = some (.slice A l.length c) := (blk_cell BKg2.out 0).trans rfl; have hcz1 : w3.cell? ⟨g2, 1, none⟩ = some (.func (.func 51) #[] #[]) := (blk_cell BKg2.out 1).trans rfl) | (go_at_call 55; ((with_reducible refine (api_Hall_55.calls A c l l _ ?side1 ?side2 HF.out).mono ?_); (case side1 => exact Kd.C_below HR.out HB.out); (case side2 => exact HC.out); rintro e w4 ⟨v4, rfl, ho0, hb⟩; have lt2 := Aside0.mk (Nat.not_le.2 (blk_lt BKg2.out)); have lt3 := Aside0.mk (Nat.not_le.2 (blk_lt BKg3.out)); have m0_ := Aside0.mk (Kd.R_lower (Kd.R_mono (Kd.R_bound ho0) (fun k_ hk => hk.2.1)) HB.out.size); have m1_ := Aside0.mk (blk_below (g := g2) (o := .cells #[.slice A l.length c, .func (.func 51) #[] #[]] 69 (0, 0)) BKg2.out hb); have m2_ := Aside0.mk (blk_below (g := g3) (o := .cells #[.int .i64 x0, .int .i64 x1, .int .i64 x2] 56 (0, 0)) BKg3.out hb); have n0_ := Aside0.mk (below_step HB.out hb); clear HB BKg2 BKg3; have HB := n0_; have BKg2 := m1_; have BKg3 := m2_; have HO := m0_; clear n0_ m0_ m1_ m2_ hb ho0)) | (go_at_call 54; ((with_reducible refine (api_Hall_54.calls (l.length + 6) _ v4 l (tok x0 x1) _ w w4 HB.out HO.out HD.out A l.length c g2 g3 x2 BKg2.out ?hx lt2.out lt3.out).mono ?_); (case hx => rw [T1.out, T2.out]; exact BKg3.out); rintro e w5 ⟨v5, rfl, ho0, hb, hk⟩; have HO2 := Aside0.mk ho0; have HB2 := Aside0.mk hb; clear ho0 hb hk)))
  go_ret
  exact ⟨_, rfl, Kd.R_mono HO2.out (fun _ _ => trivial), HB2.out⟩
def api_Inside_59.f (l0 : List S62) : Option (List S62) := if l0.length < 1000000000 then some l0 else none
set_option maxRecDepth 100000 in
set_option maxHeartbeats 1000000 in
theorem api_Inside_59.calls (A0 : Option Addr) (c0 : Nat) (l0 : List S62) (r : List S62) (w : World) (hr0 : Kd.C k62 w A0 l0.length l0) (hc0 : l0.length ≤ c0) (h : api_Inside_59.f l0 = some r) :
    Calls Try.prog 59 #[.slice A0 l0.length c0] w fun e w' => ∃ v0_ : Value, e = .returned v0_ ∧ Kd.R k62 62 w' w.heap.size (fun _ => True) v0_ r ∧ Below w.heap.size w w' := by
  unfold api_Inside_59.f at h
  split at h
  case isFalse => cases h
  case isTrue hl =>
  cases h
  have HR := Aside0.mk hr0
  have HC := Aside0.mk hc0
  have HL := Aside0.mk hl
  have HB := Aside0.mk (Below.refl w.heap.size w)
  have hn : A0 = none → l0 = [] := by
    intro hA
    rcases Nat.eq_zero_or_pos l0.length with h | h
    · exact List.eq_nil_of_length_eq_zero h
    · obtain ⟨ad, e, _⟩ := hr0.2.2 h
      rw [hA] at e
      cases e
  clear hr0 hc0 hl
  have hEq : ∀ (W : World), (binOp .eql 25 (.slice A0 l0.length c0) (.slice none 0 0)).run Try.prog W = .ok (.bool A0.isNone) W := fun W => Lib.run_eql_slice_nil W _ _ _ _ _ _ _ Try.underlying25
  rcases A0 with _ | ad
  · have hn2 := Aside0.mk (hn rfl)
    clear hn
    go_enter Try.func59, Try.ntmps59
    go_wp2
    go_ret
    rw [hn2.out]
    exact ⟨_, rfl, Kd.R_nil _ _ _ _ _, HB.out⟩
  · clear hn
    go_enter Try.func59, Try.ntmps59
    go_wp2_with (first | ((with_reducible refine gate_dst (N := 5) rfl ?_); refine Kd.R_lit k62 _ 62 ?hg (N := 5) ?hd (xs := ([] : List S62)) (inner := []) (ok := fun _ => True) (okp := fun _ => True) ?hr ?hp (fun _ hk => hk) trivial (Below.refl _ _) (Nat.le_refl _) (by simp) ?_; (case hd => rfl); (case hg => rfl); (case hr => first | (go_simp; done) | (go_simp; rfl)); (case hp => exact (Reps.none _ _)); intro v1 w1 ho1 hb1 hg_ hnew_; clear hg_ hnew_; have HO := Aside0.mk ho1; have HB1 := Aside0.mk hb1; clear ho1 hb1) | ((with_reducible refine gate_builtin (b := .append) (xs := #[.tmp 5, .tmp 6]) rfl ?_); at_builtin; refine Kd.R_append_rows k62 (w0 := w) w.heap.size rfl (.tmp 5) (.tmp 6) 25 62 (.agg #[(.int .i64 0), (.int .i64 0)]) 16 rfl Try.underlying25 info62 rfl (by decide) (by omega) v1 [] l0 _ _ _ (fun _ => True) (fun _ => False) rfl rfl ?aO ?aR (fun _ _ h => h) (fun _ h => h.elim) ?aF ?aB ?aS ?aL ?_; (case aR => exact (Kd.C_below HR.out HB1.out)); (case aB => exact HB1.out); (case aF => exact (fun _ _ => trivial)); (case aO => exact HO.out); (case aS => exact below_size HB1.out); (case aL => have := HL.out; simp only [List.length_nil]; omega); intro v2 w2 ho hb hg hat; clear hg hat))
    go_ret
    exact ⟨_, rfl, by simpa using ho, hb⟩
def woI (x0 x1 : Int) (l : List S62) : List S62 := l.filter (fun y => !(cmp2 x0 x1 y.f0 y.f1 == 0))
set_option maxRecDepth 100000 in
set_option maxHeartbeats 2000000 in
theorem withoutI_row (A : Option Addr) (c : Nat) (l : List S62) (x0 x1 : Int) (w : World) (hr : Kd.C k62 w A l.length l) (hc : l.length ≤ c) (hl : l.length < 1000000000) (hx1 : -9223372036854775808 ≤ x1 ∧ x1 ≤ 9223372036854775807) :
    Calls Try.prog 36 #[.agg #[.slice A l.length c, .func (.func 57) #[] #[]], .agg #[.int .i64 x0, .int .i64 x1]] w fun e w' => ∃ v0_ : Value, e = .returned v0_ ∧ Kd.R k62 62 w' w.heap.size (fun _ => True) v0_ (woI x0 x1 l) ∧ Below w.heap.size w w' := by
  have HR := Aside0.mk hr
  have HC := Aside0.mk hc
  have HF := Aside0.mk (show api_Inside_59.f l = some l by unfold api_Inside_59.f; rw [if_pos hl])
  have HB := Aside0.mk (Below.refl w.heap.size w)
  have HD := Aside0.mk (show api_Inside_64.f (l.length + 6) l (tok x0 x1) = some (woI x0 x1 l) by
    rw [Call.delI_eq l (tok x0 x1) (by omega) _ (by omega)]
    show some (l.filter (fun y => !(cmp2 (tok1 (tok x0 x1)) (tok2 (tok x0 x1)) y.f0 y.f1 == 0))) = _
    rw [tok1_tok x0 x1 hx1, tok2_tok x0 x1 hx1]
    rfl)
  have T1 := Aside0.mk (tok1_tok x0 x1 hx1)
  have T2 := Aside0.mk (tok2_tok x0 x1 hx1)
  clear hr hc hl hx1
  go_enter Try.func36, Try.ntmps36
  go_wp2_with (first | ((with_reducible refine gate_dst (N := 2) rfl ?_); refine box_event ?hg (N := 2) ?hd (cs := #[.slice A l.length c, .func (.func 57) #[] #[]]) (t := 74) ?hr ?_; (case hd => rfl); (case hg => rfl); (case hr => first | (go_simp; done) | (go_simp; rfl)); intro g2 hg_ w2 hbox hb; have n0_ := Aside0.mk (below_step HB.out hb); have n1_ := Aside0.mk hbox; clear HB; have HB := n0_; have BKg2 := n1_; clear n0_ n1_; clear hb hbox hg_) | ((with_reducible refine gate_dst (N := 3) rfl ?_); refine box_event ?hg (N := 3) ?hd (cs := #[.int .i64 x0, .int .i64 x1]) (t := 62) ?hr ?_; (case hd => rfl); (case hg => rfl); (case hr => first | (go_simp; done) | (go_simp; rfl)); intro g3 hg_ w3 hbox hb; have m0_ := Aside0.mk (blk_below (g := g2) (o := .cells #[.slice A l.length c, .func (.func 57) #[] #[]] 74 (0, 0)) BKg2.out hb); have n0_ := Aside0.mk (below_step HB.out hb); have n1_ := Aside0.mk hbox; clear HB BKg2; have HB := n0_; have BKg3 := n1_; have BKg2 := m0_; clear n0_ n1_ m0_; clear hb hbox hg_; have hcz0 : w3.cell? ⟨g2, 0, none⟩ = some (.slice A l.length c) := (blk_cell BKg2.out 0).trans rfl; have hcz1 : w3.cell? ⟨g2, 1, none⟩ = some (.func (.func 57) #[] #[]) := (blk_cell BKg2.out 1).trans rfl) | (go_at_call 59; ((with_reducible refine (api_Inside_59.calls A c l l _ ?side1 ?side2 HF.out).mono ?_); (case side1 => exact Kd.C_below HR.out HB.out); (case side2 => exact HC.out); rintro e w4 ⟨v4, rfl, ho0, hb⟩; have lt2 := Aside0.mk (Nat.not_le.2 (blk_lt BKg2.out)); have lt3 := Aside0.mk (Nat.not_le.2 (blk_lt BKg3.out)); have m0_ := Aside0.mk (Kd.R_lower (Kd.R_mono (Kd.R_bound ho0) (fun k_ hk => hk.2.1)) HB.out.size); have m1_ := Aside0.mk (blk_below (g := g2) (o := .cells #[.slice A l.length c, .func (.func 57) #[] #[]] 74 (0, 0)) BKg2.out hb); have m2_ := Aside0.mk (blk_below (g := g3) (o := .cells #[.int .i64 x0, .int .i64 x1] 62 (0, 0)) BKg3.out hb); have n0_ := Aside0.mk (below_step HB.out hb); clear HB BKg2 BKg3; have HB := n0_; have BKg2 := m1_; have BKg3 := m2_; have HO := m0_; clear n0_ m0_ m1_ m2_ hb ho0)) | (go_at_call 64; ((with_reducible refine (api_Inside_64.calls (l.length + 6) _ v4 l (tok x0 x1) _ w w4 HB.out HO.out HD.out A l.length c g2 g3 0 BKg2.out ?hx lt2.out lt3.out).mono ?_); (case hx => rw [T1.out, T2.out]; exact BKg3.out); rintro e w5 ⟨v5, rfl, ho0, hb, hk⟩; have HO2 := Aside0.mk ho0; have HB2 := Aside0.mk hb; clear ho0 hb hk)))
  go_ret
  exact ⟨_, rfl, Kd.R_mono HO2.out (fun _ _ => trivial), HB2.out⟩
set_option maxRecDepth 100000 in
set_option maxHeartbeats 1000000 in
theorem rowH_calls (A0 A1 : Option Addr) (n0 n1 c0 c1 : Nat) (w : World) :
    Calls Try.prog 30 #[.agg #[.slice A0 n0 c0, .slice A1 n1 c1]] w fun e w' => e = .returned (.agg #[.slice A0 n0 c0, .func (.func 51) #[] #[]]) ∧ Below w.heap.size w w' := by
  have HB := Aside0.mk (Below.refl w.heap.size w)
  go_enter Try.func30, Try.ntmps30
  go_wp2_with (first | ((with_reducible refine gate_dst (N := 1) rfl ?_); refine box_event ?hg (N := 1) ?hd (cs := #[.slice A0 n0 c0, .slice A1 n1 c1]) (t := 27) ?hr ?_; (case hd => rfl); (case hg => rfl); (case hr => first | (go_simp; done) | (go_simp; rfl)); intro g1 hg_ w1 hbox hb; have n0_ := Aside0.mk (below_step HB.out hb); have n1_ := Aside0.mk hbox; clear HB; have HB := n0_; have BKg1 := n1_; clear n0_ n1_; clear hb hbox hg_) | ((with_reducible refine gate_dst (N := 2) rfl ?_); refine box_event ?hg (N := 2) ?hd (cs := #[.slice none 0 0, .nilFunc]) (t := 69) ?hr ?_; (case hd => rfl); (case hg => rfl); (case hr => first | (go_simp; done) | (go_simp; rfl)); intro g2 hg_ w2 hbox hb; have GEs := Aside0.mk HB.out.size; have GEl := Aside0.mk (blk_lt BKg1.out); have m0_ := Aside0.mk (blk_below (g := g1) (o := .cells #[.slice A0 n0 c0, .slice A1 n1 c1] 27 (0, 0)) BKg1.out hb); have n0_ := Aside0.mk (below_step HB.out hb); have n1_ := Aside0.mk hbox; clear HB BKg1; have HB := n0_; have BKg2 := n1_; have BKg1 := m0_; clear n0_ n1_ m0_; have GEg2 := Aside0.mk (by rw [hg_]; exact GEs.out : w.heap.size ≤ g2); have NB := Aside0.mk (by rw [hg_]; exact Nat.ne_of_lt GEl.out : g1 ≠ g2); clear hb hbox hg_; have hnb := NB.out; have hcz0 : w2.cell? ⟨g1, 0, none⟩ = some (.slice A0 n0 c0) := (blk_cell BKg1.out 0).trans rfl; have hcz1 : w2.cell? ⟨g1, 1, none⟩ = some (.slice A1 n1 c1) := (blk_cell BKg1.out 1).trans rfl; have hcy0 : w2.cell? ⟨g2, 0, none⟩ = some (.slice none 0 0) := (blk_cell BKg2.out 0).trans rfl; have hcy1 : w2.cell? ⟨g2, 1, none⟩ = some (.nilFunc) := (blk_cell BKg2.out 1).trans rfl; have hfy0 := blk_frozen BKg2.out 0; have hfy1 := blk_frozen BKg2.out 1))
  refine bodyPost_ret (results_cell_row rfl _ _ g2 69 #[.slice A0 n0 c0, .func (.func 51) #[] #[]] (0, 0) _ rfl (by refine blk_put (cs := #[.slice A0 n0 c0, .nilFunc]) ?_ 1 _ rfl; refine blk_put (cs := #[.slice none 0 0, .nilFunc]) ?_ 0 _ rfl; exact BKg2.out) Try.underlying69 rfl (by kernel_rfl)) rfl ?_
  exact ⟨rfl, below_set (below_set HB.out GEg2.out) GEg2.out⟩
set_option maxRecDepth 100000 in
set_option maxHeartbeats 1000000 in
theorem predH_calls (F C : Int) (w : World) :
    Calls Try.prog 34 #[.agg #[.int .i64 F, .int .i64 C]] w fun e w' => ∃ g : Nat, e = .returned (.func (.func 61) #[] #[.pointer (some ⟨g, 0, none⟩)]) ∧ w'.heap[g]? = some (.cells #[.int .i64 F, .int .i64 C] 23 (0, 0)) ∧ w.heap.size ≤ g ∧ Below w.heap.size w w' := by
  have HB := Aside0.mk (Below.refl w.heap.size w)
  go_enter Try.func34, Try.ntmps34
  go_wp2_with (first | ((with_reducible refine gate_dst (N := 1) rfl ?_); refine box_event ?hg (N := 1) ?hd (cs := #[.int .i64 F, .int .i64 C]) (t := 23) ?hr ?_; (case hd => rfl); (case hg => rfl); (case hr => first | (go_simp; done) | (go_simp; rfl)); intro g1 hg_ w1 hbox hb; have GEs := Aside0.mk HB.out.size; have n0_ := Aside0.mk (below_step HB.out hb); have n1_ := Aside0.mk hbox; clear HB; have HB := n0_; have BKg1 := n1_; clear n0_ n1_; have GEg1 := Aside0.mk (by rw [hg_]; exact GEs.out : w.heap.size ≤ g1); clear hb hbox hg_))
  go_ret
  exact ⟨_, rfl, BKg1.out, GEg1.out, HB.out⟩
set_option maxRecDepth 100000 in
set_option maxHeartbeats 1000000 in
theorem rowI_calls (A0 A1 : Option Addr) (n0 n1 c0 c1 : Nat) (w : World) :
    Calls Try.prog 32 #[.agg #[.slice A0 n0 c0, .slice A1 n1 c1]] w fun e w' => e = .returned (.agg #[.slice A1 n1 c1, .func (.func 57) #[] #[]]) ∧ Below w.heap.size w w' := by
  have HB := Aside0.mk (Below.refl w.heap.size w)
  go_enter Try.func32, Try.ntmps32
  go_wp2_with (first | ((with_reducible refine gate_dst (N := 1) rfl ?_); refine box_event ?hg (N := 1) ?hd (cs := #[.slice A0 n0 c0, .slice A1 n1 c1]) (t := 27) ?hr ?_; (case hd => rfl); (case hg => rfl); (case hr => first | (go_simp; done) | (go_simp; rfl)); intro g1 hg_ w1 hbox hb; have n0_ := Aside0.mk (below_step HB.out hb); have n1_ := Aside0.mk hbox; clear HB; have HB := n0_; have BKg1 := n1_; clear n0_ n1_; clear hb hbox hg_) | ((with_reducible refine gate_dst (N := 2) rfl ?_); refine box_event ?hg (N := 2) ?hd (cs := #[.slice none 0 0, .nilFunc]) (t := 74) ?hr ?_; (case hd => rfl); (case hg => rfl); (case hr => first | (go_simp; done) | (go_simp; rfl)); intro g2 hg_ w2 hbox hb; have GEs := Aside0.mk HB.out.size; have GEl := Aside0.mk (blk_lt BKg1.out); have m0_ := Aside0.mk (blk_below (g := g1) (o := .cells #[.slice A0 n0 c0, .slice A1 n1 c1] 27 (0, 0)) BKg1.out hb); have n0_ := Aside0.mk (below_step HB.out hb); have n1_ := Aside0.mk hbox; clear HB BKg1; have HB := n0_; have BKg2 := n1_; have BKg1 := m0_; clear n0_ n1_ m0_; have GEg2 := Aside0.mk (by rw [hg_]; exact GEs.out : w.heap.size ≤ g2); have NB := Aside0.mk (by rw [hg_]; exact Nat.ne_of_lt GEl.out : g1 ≠ g2); clear hb hbox hg_; have hnb := NB.out; have hcz0 : w2.cell? ⟨g1, 0, none⟩ = some (.slice A0 n0 c0) := (blk_cell BKg1.out 0).trans rfl; have hcz1 : w2.cell? ⟨g1, 1, none⟩ = some (.slice A1 n1 c1) := (blk_cell BKg1.out 1).trans rfl; have hcy0 : w2.cell? ⟨g2, 0, none⟩ = some (.slice none 0 0) := (blk_cell BKg2.out 0).trans rfl; have hcy1 : w2.cell? ⟨g2, 1, none⟩ = some (.nilFunc) := (blk_cell BKg2.out 1).trans rfl; have hfy0 := blk_frozen BKg2.out 0; have hfy1 := blk_frozen BKg2.out 1))
  refine bodyPost_ret (results_cell_row rfl _ _ g2 74 #[.slice A1 n1 c1, .func (.func 57) #[] #[]] (0, 0) _ rfl (by refine blk_put (cs := #[.slice A1 n1 c1, .nilFunc]) ?_ 1 _ rfl; refine blk_put (cs := #[.slice none 0 0, .nilFunc]) ?_ 0 _ rfl; exact BKg2.out) Try.underlying74 rfl (by kernel_rfl)) rfl ?_
  exact ⟨rfl, below_set (below_set HB.out GEg2.out) GEg2.out⟩
set_option maxRecDepth 100000 in
set_option maxHeartbeats 1000000 in
theorem predI_calls (F C : Int) (w : World) :
    Calls Try.prog 29 #[.agg #[.int .i64 F, .int .i64 C]] w fun e w' => ∃ g : Nat, e = .returned (.func (.func 50) #[] #[.pointer (some ⟨g, 0, none⟩)]) ∧ w'.heap[g]? = some (.cells #[.int .i64 F, .int .i64 C] 23 (0, 0)) ∧ w.heap.size ≤ g ∧ Below w.heap.size w w' := by
  have HB := Aside0.mk (Below.refl w.heap.size w)
  go_enter Try.func29, Try.ntmps29
  go_wp2_with (first | ((with_reducible refine gate_dst (N := 1) rfl ?_); refine box_event ?hg (N := 1) ?hd (cs := #[.int .i64 F, .int .i64 C]) (t := 23) ?hr ?_; (case hd => rfl); (case hg => rfl); (case hr => first | (go_simp; done) | (go_simp; rfl)); intro g1 hg_ w1 hbox hb; have GEs := Aside0.mk HB.out.size; have n0_ := Aside0.mk (below_step HB.out hb); have n1_ := Aside0.mk hbox; clear HB; have HB := n0_; have BKg1 := n1_; clear n0_ n1_; have GEg1 := Aside0.mk (by rw [hg_]; exact GEs.out : w.heap.size ≤ g1); clear hb hbox hg_))
  go_ret
  exact ⟨_, rfl, BKg1.out, GEg1.out, HB.out⟩
end Go.Proofs.Ytjehhhlhalkieaa.C
namespace Go.Proofs.Ytjehhhlhalkieaa.C
open Go.RowKit Go.Proofs.YtjehhhlhalkieaaW.PrintWords Go.Proofs.YtjehhhlhalkieaaW.PrintLast Go.Proofs.YtjehhhlhalkieaaW.PrintMore
set_option linter.unusedVariables false
def small (n : Nat) (C : Int) : Bool := decide (n < 1000000000 ∧ -9223372036854775808 ≤ C ∧ C ≤ 9223372036854775807)
def rightP_H.f (l1_0 : List S56) (l1_1 : List S62) (a0_0 a0_1 : Int) : Option Bool := if small l1_0.length a0_1 = true then some (Call.rightS (fun x => hallB a0_0 a0_1 x.f0 x.f1 x.f2) Call.ltH none l1_0) else none
theorem rightP_H.calls (A1_0 : Option Addr) (c1_0 : Nat) (l1_0 : List S56) (A1_1 : Option Addr) (c1_1 : Nat) (l1_1 : List S62) (a0_0 a0_1 : Int) (r : Bool) (w : World) (hr1_0 : Kd.C k56 w A1_0 l1_0.length l1_0) (hc1_0 : l1_0.length ≤ c1_0) (hr1_1 : Kd.C k62 w A1_1 l1_1.length l1_1) (hc1_1 : l1_1.length ≤ c1_1) (h : rightP_H.f l1_0 l1_1 a0_0 a0_1 = some r) (g : Nat) (hg : w.heap[g]? = some (.cells #[.int .i64 a0_0, .int .i64 a0_1] 23 (0, 0))) :
    Calls Try.prog 42 #[.agg #[.slice A1_0 l1_0.length c1_0, .func (.func 51) #[] #[]], .func (.func 61) #[] #[.pointer (some ⟨g, 0, none⟩)]] w fun e w' => e = .returned (.bool r) ∧ Below w.heap.size w w' := by
  unfold rightP_H.f at h
  split at h
  case isFalse => cases h
  case isTrue hs =>
  cases h
  obtain ⟨hl, hb⟩ := of_decide_eq_true hs
  have e1 := tok1_tok a0_0 a0_1 hb
  have e2 := tok2_tok a0_0 a0_1 hb
  refine api_Hall_right.calls (2 * l1_0.length + 1) A1_0 c1_0 l1_0 0 (tok a0_0 a0_1) _ w hr1_0 hc1_0 ?_ g ?_
  · rw [Call.rightH_eq l1_0 _ 0 (by omega) _ (by omega), e1, e2]
  · rw [e1, e2]; exact hg
def rightP_I.f (l1_0 : List S56) (l1_1 : List S62) (a0_0 a0_1 : Int) : Option Bool := if small l1_1.length a0_1 = true then some (Call.rightS (fun x => insB a0_0 a0_1 x.f0 x.f1) Call.ltI none l1_1) else none
theorem rightP_I.calls (A1_0 : Option Addr) (c1_0 : Nat) (l1_0 : List S56) (A1_1 : Option Addr) (c1_1 : Nat) (l1_1 : List S62) (a0_0 a0_1 : Int) (r : Bool) (w : World) (hr1_0 : Kd.C k56 w A1_0 l1_0.length l1_0) (hc1_0 : l1_0.length ≤ c1_0) (hr1_1 : Kd.C k62 w A1_1 l1_1.length l1_1) (hc1_1 : l1_1.length ≤ c1_1) (h : rightP_I.f l1_0 l1_1 a0_0 a0_1 = some r) (g : Nat) (hg : w.heap[g]? = some (.cells #[.int .i64 a0_0, .int .i64 a0_1] 23 (0, 0))) :
    Calls Try.prog 43 #[.agg #[.slice A1_1 l1_1.length c1_1, .func (.func 57) #[] #[]], .func (.func 50) #[] #[.pointer (some ⟨g, 0, none⟩)]] w fun e w' => e = .returned (.bool r) ∧ Below w.heap.size w w' := by
  unfold rightP_I.f at h
  split at h
  case isFalse => cases h
  case isTrue hs =>
  cases h
  obtain ⟨hl, hb⟩ := of_decide_eq_true hs
  have e1 := tok1_tok a0_0 a0_1 hb
  have e2 := tok2_tok a0_0 a0_1 hb
  refine api_Inside_right.calls (2 * l1_1.length + 1) A1_1 c1_1 l1_1 0 (tok a0_0 a0_1) _ w hr1_1 hc1_1 ?_ g ?_
  · rw [Call.rightI_eq l1_1 _ 0 (by omega) _ (by omega), e1, e2]
  · rw [e1, e2]; exact hg
end Go.Proofs.Ytjehhhlhalkieaa.C
namespace Go.Proofs.Ytjehhhlhalkieaa.C
open Go.RowKit Go.Proofs.YtjehhhlhalkieaaW.PrintWords Go.Proofs.YtjehhhlhalkieaaW.PrintLast Go.Proofs.YtjehhhlhalkieaaW.PrintMore
attribute [local go_sem] max2_int min2_int max_two min_two max_three min_three max_four min_four
set_option linter.unusedVariables false
set_option linter.unusedSimpArgs false
def api_Hall_set.j0 : Nat → List (S56) → Option ((List (S56)))
 | 0, _ => none
 | k + 1, x5 => some x5
def api_Hall_set.f (k : Nat) (l0_0 : List (S56)) (a0_1 : Int) (a1_0 : Int) (a1_1 : Int) (a1_2 : Int) : Option ((List (S56))) := (api_Hall_55.f l0_0).bind fun t103 => ((api_Hall_62.f k t103 a1_0 a1_1 a1_2 a0_1).bind fun bt106 => (if bt106.2 = true then (if 0 ≤ bt106.1 then (if bt106.1 < (t103.length : Int) then (api_Hall_set.j0 k (t103.set (bt106.1 : Int).toNat (⟨a1_0, a1_1, a1_2⟩ : S56))) else (none)) else (none)) else (api_Hall_set.j0 k t103)))
theorem api_Hall_set.mono_l : ∀ k, (∀ y0, LeO (api_Hall_set.j0 k y0) (api_Hall_set.j0 (k + 1) y0))
 | 0 => fun _ r h => by simp [api_Hall_set.j0] at h
 | k + 1 => by
  have ih0 := api_Hall_set.mono_l k
  ·intro y0
   unfold api_Hall_set.j0
   repeat' first
   | (with_reducible exact ih0 _)
   | (with_reducible exact api_Hall_62.mono _ _ _ _ _ _)
   | (with_reducible exact LeO.refl _)
   | (with_reducible exact LeO.none _)
   | (with_reducible refine LeO.ite ?_ ?_)
   | (with_reducible refine LeO.bind ?_ (fun _ => ?_))
   | exact ih0 _
   | exact api_Hall_62.mono _ _ _ _ _ _
   | exact LeO.none _
   | refine LeO.ite ?_ ?_
   | refine LeO.bind ?_ (fun _ => ?_)
theorem api_Hall_set.mono : ∀ a0 a1 a2 a3 a4 k, LeO (api_Hall_set.f k a0 a1 a2 a3 a4) (api_Hall_set.f (k + 1) a0 a1 a2 a3 a4) := by
 intro a0 a1 a2 a3 a4 k
 have ih0 := api_Hall_set.mono_l k
 unfold api_Hall_set.f
 repeat' first
   | (with_reducible exact ih0 _)
   | (with_reducible exact api_Hall_62.mono _ _ _ _ _ _)
   | (with_reducible exact LeO.refl _)
   | (with_reducible exact LeO.none _)
   | (with_reducible refine LeO.ite ?_ ?_)
   | (with_reducible refine LeO.bind ?_ (fun _ => ?_))
   | exact ih0 _
   | exact api_Hall_62.mono _ _ _ _ _ _
   | exact LeO.none _
   | refine LeO.ite ?_ ?_
   | refine LeO.bind ?_ (fun _ => ?_)
set_option maxHeartbeats 8000000 in
set_option maxRecDepth 100000 in
theorem api_Hall_set.calls (k : Nat) (A0_0 : Option Addr) (c0_0 : Nat) (l0_0 : List (S56)) (a0_1 : Int) (a1_0 : Int) (a1_1 : Int) (a1_2 : Int) (r : List (S56)) (w : World) (hr0_0 : Kd.C k56 w A0_0 l0_0.length l0_0) (hc0_0 : l0_0.length ≤ c0_0) (h : api_Hall_set.f k l0_0 a0_1 a1_0 a1_1 a1_2 = some r) :
  Calls Try.prog 47 #[.agg #[.slice A0_0 l0_0.length c0_0, .func (.func 51) #[] #[]], .agg #[.int .i64 a1_0, .int .i64 a1_1, .int .i64 a1_2]] w fun e w' => ∃ v0_ : Value, e = .returned (v0_) ∧ Kd.R k56 56 w' w.heap.size (fun _ => True) v0_ r ∧ Below w.heap.size w w' := by
 have hu69 := Try.underlying69
 have hu56 := Try.underlying56
 have HR0_0 := Aside0.mk hr0_0
 have HC0_0 := Aside0.mk hc0_0
 clear hr0_0 hc0_0
 have HB := Aside0.mk (Below.refl w.heap.size w)
 have H : ((api_Hall_55.f l0_0).bind fun t103 => ((api_Hall_62.f k t103 a1_0 a1_1 a1_2 a0_1).bind fun bt106 => (if bt106.2 = true then (if 0 ≤ bt106.1 then (if bt106.1 < (t103.length : Int) then (api_Hall_set.j0 k (t103.set (bt106.1 : Int).toNat (⟨a1_0, a1_1, a1_2⟩ : S56))) else (none)) else (none)) else (api_Hall_set.j0 k t103)))) = some r := h
 clear h
 replace H := Option.bind_eq_some_iff.mp H
 obtain ⟨t103, A30, H⟩ := H
 replace H : ((api_Hall_62.f k t103 a1_0 a1_1 a1_2 a0_1).bind fun bt106 => (if bt106.2 = true then (if 0 ≤ bt106.1 then (if bt106.1 < (t103.length : Int) then (api_Hall_set.j0 k (t103.set (bt106.1 : Int).toNat (⟨a1_0, a1_1, a1_2⟩ : S56))) else (none)) else (none)) else (api_Hall_set.j0 k t103))) = some r := H
 have A3 := Aside0.mk A30
 clear A30
 replace H := Option.bind_eq_some_iff.mp H
 obtain ⟨⟨t106, t107⟩, A40, H⟩ := H
 replace H : (if t107 = true then (if 0 ≤ t106 then (if t106 < (t103.length : Int) then (api_Hall_set.j0 k (t103.set (t106 : Int).toNat (⟨a1_0, a1_1, a1_2⟩ : S56))) else (none)) else (none)) else (api_Hall_set.j0 k t103)) = some r := H
 have A4 := Aside0.mk A40
 clear A40
 have HC5 := Aside0.mk H
 clear H
 go_enter Try.func47, Try.ntmps47
 go_upto_if 19 with (first | ((with_reducible refine gate_dst (N := 2) rfl ?_); refine box_event ?hg (N := 2) ?hd (cs := #[.slice A0_0 l0_0.length c0_0, .func (.func 51) #[] #[]]) (t := 69) ?hr ?_; (case hd => rfl); (case hg => rfl); (case hr => go_simp <;> rfl); intro gb101 hg w6 hbox hb; have BK101 := Aside0.mk hbox; have GW101 := sGe hg; have GE101 := sGe hg; replace HB := sHb hb; clear hb hbox hg) | ((with_reducible refine gate_dst (N := 3) rfl ?_); refine box_event ?hg (N := 3) ?hd (cs := #[.int .i64 a1_0, .int .i64 a1_1, .int .i64 a1_2]) (t := 56) ?hr ?_; (case hd => rfl); (case hg => rfl); (case hr => go_simp <;> rfl); intro gb102 hg w7 hbox hb; have BK102 := Aside0.mk hbox; have GW102 := sGe hg; have GE102 := sGe hg; have NB101_102 := sNl BK101 hg; have NB102_101 := sNg BK101 hg; replace BK101 := sBk BK101 hb; replace HB := sHb hb; clear hb hbox hg; have hnb8 := NB101_102.out; have hnc8 := NB102_101.out; have hcz9_0 : w7.cell? ⟨gb101, 0, none⟩ = some (.slice A0_0 l0_0.length c0_0) := (blk_cell BK101.out 0).trans rfl; have hcz9_1 : w7.cell? ⟨gb101, 1, none⟩ = some (.func (.func 51) #[] #[]) := (blk_cell BK101.out 1).trans rfl; have hfz9_0 := blk_frozen BK101.out 0; have hfz9_1 := blk_frozen BK101.out 1) | ((with_reducible refine gate_callee (f := 55) rfl ?_); refine goesL_ (some 10) rfl rfl Try.func55 (by kernel_rfl) rfl #[.slice A0_0 l0_0.length c0_0] rfl (by simp only [List.map_toArray, List.map_cons, List.map_nil] <;> rfl) ?_; (with_reducible refine (api_Hall_55.calls _ _ l0_0 t103 _ ?side1 ?side2 A3.out).mono ?_); (case side1 => exact (Kd.C_below HR0_0.out HB.out)); (case side2 => exact HC0_0.out); rintro e w10 ⟨v104, rfl, ho0, hb⟩; refine ⟨_, rfl, ?_⟩; have HO105 := Aside0.mk (Kd.R_lower (Kd.R_newB ho0 (g := gb102) (o := .cells #[.int .i64 a1_0, .int .i64 a1_1, .int .i64 a1_2] 56 (0, 0)) BK102.out) (below_size HB.out)); replace BK101 := sBk BK101 hb; replace BK102 := sBk BK102 hb; replace HB := sHb hb; (try clear hb); (try clear hb2); (try clear hk); (try clear hi); (try clear ho0); have hcz11_0 : w10.cell? ⟨gb102, 0, none⟩ = some (.int .i64 a1_0) := (blk_cell BK102.out 0).trans rfl; have hcz11_1 : w10.cell? ⟨gb102, 1, none⟩ = some (.int .i64 a1_1) := (blk_cell BK102.out 1).trans rfl; have hcz11_2 : w10.cell? ⟨gb102, 2, none⟩ = some (.int .i64 a1_2) := (blk_cell BK102.out 2).trans rfl; have hfz11_0 := blk_frozen BK102.out 0; have hfz11_1 := blk_frozen BK102.out 1; have hfz11_2 := blk_frozen BK102.out 2; have hcz12_0 : w10.cell? ⟨gb101, 0, none⟩ = some (.slice A0_0 l0_0.length c0_0) := (blk_cell BK101.out 0).trans rfl; have hcz12_1 : w10.cell? ⟨gb101, 1, none⟩ = some (.func (.func 51) #[] #[]) := (blk_cell BK101.out 1).trans rfl; have hfz12_0 := blk_frozen BK101.out 0; have hfz12_1 := blk_frozen BK101.out 1; obtain ⟨Ao13, co13, eo13⟩ := Kd.R_slice HO105.out; subst eo13) | ((with_reducible refine gate_callee (f := 62) rfl ?_); refine goesL_ (some 16) rfl rfl Try.func62 (by kernel_rfl) rfl #[.slice Ao13 t103.length co13, .agg #[.int .i64 a1_0, .int .i64 a1_1, .int .i64 a1_2], .func (.func 51) #[] #[]] rfl (by simp only [List.map_toArray, List.map_cons, List.map_nil] <;> rfl) ?_; (with_reducible refine (api_Hall_62.calls k _ _ t103 a1_0 a1_1 a1_2 a0_1 t106 t107 _ ?side1 ?side2 A4.out).mono ?_); (case side1 => exact (Kd.R_reads' HO105.out).2.2); (case side2 => exact (Kd.R_reads' HO105.out).2.1); rintro e w14 ⟨rfl, hb⟩; refine ⟨_, rfl, ?_⟩; replace HO105 := sRb HO105 hb; replace BK101 := sBk BK101 hb; replace BK102 := sBk BK102 hb; replace HB := sHb hb; (try clear hb); (try clear hb2); (try clear hk); (try clear hi)))
 (try simp only [Act.put, List.setIfInBounds_toArray, List.set_cons_zero, List.set_cons_succ])
 go_cut [] (fun wc => ∃ (kq : Nat) (x5_4 : List (S56)) (x103000_4 : Int) (x103001_4 : Int) (x103002_4 : Int), Aside0 (api_Hall_set.j0 kq x5_4 = some r) ∧ Aside0 (kq ≤ k) ∧ Aside0 (Kd.R k56 56 wc w.heap.size (fun k_ => k_ ≠ gb102) (.slice Ao13 t103.length co13) x5_4) ∧ Aside0 (wc.heap[gb101]? = some (.cells #[(.slice A0_0 l0_0.length c0_0), .func (.func 51) #[] #[]] 69 (0, 0))) ∧ Aside0 (wc.heap[gb102]? = some (.cells #[.int .i64 x103000_4, .int .i64 x103001_4, .int .i64 x103002_4] 56 (0, 0))) ∧ Aside0 (Below w.heap.size w wc))
 case first =>
  have H := HC5.out
  clear HC5
  by_cases c15 : t107 = true
  ·subst c15
   have H1 : (if 0 ≤ t106 then (if t106 < (t103.length : Int) then (api_Hall_set.j0 k (t103.set (t106 : Int).toNat (⟨a1_0, a1_1, a1_2⟩ : S56))) else (none)) else (none)) = some r := by rw [if_pos rfl] at H; exact H
   clear H
   have H := H1
   clear H1
   by_cases c16 : 0 ≤ t106
   ·rw [if_pos c16] at H
    have c16b0 : decide (0 ≤ t106) = true := decide_eq_true c16
    clear c16
    (first | rw [c16b0] | (simp only [i64_w, i32_w]; rw [c16b0]) | skip)
    by_cases c17 : t106 < (t103.length : Int)
    ·rw [if_pos c17] at H
     have c17b0 : decide (t106 < (t103.length : Int)) = true := decide_eq_true c17
     clear c17
     obtain ⟨y108, hy108⟩ : ∃ y_ : List (S56), y_ = (t103.set (t106 : Int).toNat (⟨a1_0, a1_1, a1_2⟩ : S56)) := ⟨_, rfl⟩
     replace H : (api_Hall_set.j0 k y108) = some r := by first | (rw [hy108]; with_reducible exact H) | (have H2_ := (Option.bind_some _ _).symm.trans H; rw [hy108]; with_reducible exact H2_) | (have H2_ := (Option.bind_some _ _).symm.trans H; with_reducible exact H2_) | with_reducible exact H | (rw [hy108]; exact H) | exact H
     have Ny108 := Aside0.mk hy108
     clear hy108
     have H' := Aside0.mk H
     clear H
     have hnb19 := NB102_101.out
     have hnc19 := NB101_102.out
     have hcz20_0 : w14.cell? ⟨gb102, 0, none⟩ = some (.int .i64 a1_0) := (blk_cell BK102.out 0).trans rfl
     have hcz20_1 : w14.cell? ⟨gb102, 1, none⟩ = some (.int .i64 a1_1) := (blk_cell BK102.out 1).trans rfl
     have hcz20_2 : w14.cell? ⟨gb102, 2, none⟩ = some (.int .i64 a1_2) := (blk_cell BK102.out 2).trans rfl
     have hfz20_0 := blk_frozen BK102.out 0
     have hfz20_1 := blk_frozen BK102.out 1
     have hfz20_2 := blk_frozen BK102.out 2
     have p18 : 0 ≤ (t106 : Int) := of_decide_eq_true (by assumption)
     have q18 : (t106 : Int) < ((t103.length : Int) : Int) := of_decide_eq_true (by assumption)
     obtain ⟨go18, co18, eo18, gb18, gl18, cl18, HG18⟩ := Kd.R_form HO105.out (by omega)
     (first | cases eo18 | (injection eo18 with ea_ en_ ec_; (first | subst ea_ | (injection ea_ with ea_; subst ea_)); subst ec_; clear en_))
     have GB18 := Aside0.mk gb18
     have GG18 := Aside0.mk HG18
     clear gb18 gl18 HG18
     obtain ⟨ce18, hcl18, hM18, hcc18, hfr18⟩ := Kd.R_elem HO105.out z56 (t106 : Int) p18 q18
     obtain rfl := k56_openM hM18
     have hx18_0 : w14.cell? ⟨go18, (t106 : Int).toNat * 3, none⟩ = some (.int .i64 ((rd_T56 t103 t106).f0)) := hcc18 0 _ rfl
     have hx18_1 : w14.cell? ⟨go18, (t106 : Int).toNat * 3 + 1, none⟩ = some (.int .i64 ((rd_T56 t103 t106).f1)) := hcc18 1 _ rfl
     have hx18_2 : w14.cell? ⟨go18, (t106 : Int).toNat * 3 + 2, none⟩ = some (.int .i64 ((rd_T56 t103 t106).f2)) := hcc18 2 _ rfl
     have hf18_0 : w14.frozen? ⟨go18, (t106 : Int).toNat * 3, none⟩ = false := hfr18 0
     have hf18_1 : w14.frozen? ⟨go18, (t106 : Int).toNat * 3 + 1, none⟩ = false := hfr18 1
     have hf18_2 : w14.frozen? ⟨go18, (t106 : Int).toNat * 3 + 2, none⟩ = false := hfr18 2
     clear hcl18 hcc18 hfr18 hM18
     replace p18 := eq_true p18
     replace q18 := eq_true q18
     have n_ := Aside0.mk (Kd.R_mono (ok' := (fun k_ => k_ ≠ gb102)) HO105.out (fun k_ hk => hk.2))
     clear HO105
     have HO105 := n_
     clear n_
     have HX21 := Aside0.mk (show Kd.R k56 56 w14 w.heap.size (fun k_ => k_ ≠ gb102) (.slice (some ⟨go18, 0, none⟩) t103.length co13) t103 from HO105.out)
     obtain ⟨ce21, hcl21, hM21, hcc21, hfr21⟩ := Kd.R_elem HX21.out z56 (t106 : Int) (of_decide_eq_true (by assumption)) (by have h_ : (t106 : Int) < ((t103.length : Int) : Int) := of_decide_eq_true (by assumption); first | exact h_ | (have e_ := (Kd.R_reads' HO105.out).1; omega) | simpa using h_)
     obtain rfl := k56_openM hM21
     have HP21 := Kd.R_seg HX21.out (t106 : Int) (of_decide_eq_true (by assumption)) (by have h_ : (t106 : Int) < ((t103.length : Int) : Int) := of_decide_eq_true (by assumption); first | exact h_ | (have e_ := (Kd.R_reads' HO105.out).1; omega) | simpa using h_) (seg := [.int .i64 a1_0, .int .i64 a1_1, .int .i64 a1_2]) (j := 0) hcl21 hcc21 (show 3 ≤ 3 from by decide) (x' := (⟨a1_0, a1_1, a1_2⟩ : S56)) (k56_mkM _ _ _ (⟨a1_0, a1_1, a1_2⟩ : S56) ) (fun _ hk => hk)
     have hx21_0 := hcc21 0 _ rfl
     (try simp only [show (k56).sz = 3 from rfl, Nat.mul_one, Nat.add_zero] at hx21_0)
     have hf21_0 := hfr21 0
     (try simp only [show (k56).sz = 3 from rfl, Nat.mul_one, Nat.add_zero] at hf21_0)
     have hx21_1 := hcc21 1 _ rfl
     (try simp only [show (k56).sz = 3 from rfl, Nat.mul_one, Nat.add_zero] at hx21_1)
     have hf21_1 := hfr21 1
     (try simp only [show (k56).sz = 3 from rfl, Nat.mul_one, Nat.add_zero] at hf21_1)
     have hx21_2 := hcc21 2 _ rfl
     (try simp only [show (k56).sz = 3 from rfl, Nat.mul_one, Nat.add_zero] at hx21_2)
     have hf21_2 := hfr21 2
     (try simp only [show (k56).sz = 3 from rfl, Nat.mul_one, Nat.add_zero] at hf21_2)
     clear hcl21 hcc21 hfr21 hM21
     go_wp2_with (first | ((with_reducible refine gate_store (t := 56) (p := 23) rfl ?_); refine store_event (t := 56) (p := 23) (v := ?vo_w22) (w1 := (((w14.setCell ⟨go18, (t106 : Int).toNat * 3, none⟩ (.int .i64 a1_0)).setCell ⟨go18, (t106 : Int).toNat * 3 + 1, none⟩ (.int .i64 a1_1)).setCell ⟨go18, (t106 : Int).toNat * 3 + 2, none⟩ (.int .i64 a1_2))) ?hg ?ho ?hn ?hr ?_; (case ho => rfl); (case hg => rfl); (case hn => rfl); (case hr => go_simp <;> rfl); intro w22 hw; have hg : w14.grownBy w22 (some go18) := (by rw [hw]; exact HP21.2); have hp_ : Kd.R k56 56 w22 w.heap.size (fun k_ => k_ ≠ gb102) (.slice (some ⟨go18, 0, none⟩) t103.length co13) y108 := (by rw [hw, Ny108.out]; exact HP21.1); clear HP21; replace BK101 := Aside0.mk (blk_grown (g := gb101) (o := .cells #[.slice A0_0 l0_0.length c0_0, .func (.func 51) #[] #[]] 69 (0, 0)) BK101.out hg (Kd.R_ne HO105.out BK101.out (by decide))); replace BK102 := Aside0.mk (blk_grown (g := gb102) (o := .cells #[.int .i64 a1_0, .int .i64 a1_1, .int .i64 a1_2] 56 (0, 0)) BK102.out hg (Kd.R_away HO105.out (fun _ hk => hk))); replace HO105 := Aside0.mk hp_; replace HB := Aside0.mk ((by rw [hw]; exact below_set (below_set (below_set (HB.out) GB18.out) GB18.out) GB18.out : Below w.heap.size w w22)); clear hg hw hp_))
     go_meet
     case rel => exact ⟨_, (y108), (a1_0), (a1_1), (a1_2), H', ⟨by first | omega | exact Nat.le_refl _⟩, ⟨by (with_reducible repeat (first | apply Kd.R_alloc | apply Kd.R_drewN | apply Kd.R_drew)); exact HO105.out⟩, BK101, BK102, HB⟩
    ·rw [if_neg c17] at H
     exact absurd H (by simp)
   ·rw [if_neg c16] at H
    exact absurd H (by simp)
  ·replace c15 := Bool.eq_false_iff.mpr c15
   subst c15
   have H1 : (api_Hall_set.j0 k t103) = some r := by rw [if_neg (show ¬ (false = true) by decide)] at H; exact H
   clear H
   have H := H1
   clear H1
   have H' := Aside0.mk H
   clear H
   go_wp2
   go_meet
   case rel => exact ⟨_, (t103), (a1_0), (a1_1), (a1_2), H', ⟨by first | omega | exact Nat.le_refl _⟩, ⟨by (with_reducible repeat (first | apply Kd.R_alloc | apply Kd.R_drewN | apply Kd.R_drew)); exact Kd.R_mono HO105.out (fun _ hk => hk.2)⟩, BK101, BK102, HB⟩
 case rest =>
  clear HC5
  try clear c1
  try clear p1
  try clear q1
  try clear hx1
  try clear c2
  try clear p2
  try clear hx2
  try clear hf2
  try clear c4
  try clear c5
  try clear c6
  try clear c8
  try clear c15
  try clear c16
  try clear c16b0
  try clear c17
  try clear c17b0
  try clear c18
  try clear p18
  try clear q18
  try clear hx18
  try clear hf18
  try clear c19
  try clear c21
  try clear hx21
  try clear hf21
  try clear hcz11_0
  try clear hcz11_1
  try clear hcz11_2
  try clear hcz12_0
  try clear hcz12_1
  try clear hcz20_0
  try clear hcz20_1
  try clear hcz20_2
  try clear hcz9_0
  try clear hcz9_1
  try clear hfz11_0
  try clear hfz11_1
  try clear hfz11_2
  try clear hfz12_0
  try clear hfz12_1
  try clear hfz20_0
  try clear hfz20_1
  try clear hfz20_2
  try clear hfz9_0
  try clear hfz9_1
  try clear hx18_0
  try clear hx18_1
  try clear hx18_2
  try clear hx21_0
  try clear hx21_1
  try clear hx21_2
  try clear p18
  try clear q18
  obtain ⟨kq, x5_4, x103000_4, x103001_4, x103002_4, HA, HJ4, HO_5, BK101, BK102, HB⟩ := hcut
  have hl5_4 := (Kd.R_reads' HO_5.out).1
  rw [hl5_4] at HO_5
  (try simp only [hl5_4])
  (try simp only [hl5_4] at BK101)
  (try simp only [hl5_4] at BK102)
  cases kq with
  | zero => exact absurd HA.out (by simp [api_Hall_set.j0])
  | succ kj4 =>
   have H := HA.out
   clear HA
   simp only [api_Hall_set.j0] at H
   obtain rfl := Option.some.inj H
   go_wp2
   go_ret
   exact ⟨_, rfl, by (with_reducible repeat (first | apply Kd.R_alloc | apply Kd.R_drewN | apply Kd.R_drew)); exact Kd.R_mono HO_5.out (fun _ hk => trivial), HB.out⟩
end Go.Proofs.Ytjehhhlhalkieaa.C
namespace Go.Proofs.Ytjehhhlhalkieaa.C
open Go.RowKit Go.Proofs.YtjehhhlhalkieaaW.PrintWords Go.Proofs.YtjehhhlhalkieaaW.PrintLast Go.Proofs.YtjehhhlhalkieaaW.PrintMore
set_option linter.unusedVariables false
def hallP.f (x0 x1 x2 F C : Int) : Option Bool := some (hallB F C x0 x1 x2)
def insP.f (x0 x1 F C : Int) : Option Bool := some (insB F C x0 x1)
def woP_H.f (x0 x1 x2 : Int) (l : List S56) : Option (List S56) := if small l.length x1 = true then some (woH x0 x1 x2 l) else none
def woP_I.f (x0 x1 : Int) (l : List S62) : Option (List S62) := if small l.length x1 = true then some (woI x0 x1 l) else none
def setS (x : S56) (l : List S56) : List S56 := l.map (fun y => if y.f0 = x.f0 ∧ y.f1 = x.f1 then x else y)
def setP_H.f (x0 x1 x2 : Int) (l : List S56) : Option (List S56) := if small l.length x1 = true ∧ Call.rightS (fun _ => true) Call.ltH none l = true then some (setS ⟨x0, x1, x2⟩ l) else none
theorem woP_H_calls (A0 : Option Addr) (c : Nat) (l : List S56) (x0 x1 x2 : Int) (t : List S56) (W : World) (hr : Kd.C k56 W A0 l.length l) (hc : l.length ≤ c) (h : woP_H.f x0 x1 x2 l = some t) :
    Calls Try.prog 31 #[.agg #[.slice A0 l.length c, .func (.func 51) #[] #[]], .agg #[.int .i64 x0, .int .i64 x1, .int .i64 x2]] W fun e w' => ∃ v0_ : Value, e = .returned v0_ ∧ Kd.R k56 56 w' W.heap.size (fun _ => True) v0_ t ∧ Below W.heap.size W w' := by
  unfold woP_H.f at h
  split at h
  case isFalse => cases h
  case isTrue hs =>
  cases h
  obtain ⟨hl, hb⟩ := of_decide_eq_true hs
  exact withoutH_row A0 c l x0 x1 x2 W hr hc hl hb
theorem woP_I_calls (A0 : Option Addr) (c : Nat) (l : List S62) (x0 x1 : Int) (t : List S62) (W : World) (hr : Kd.C k62 W A0 l.length l) (hc : l.length ≤ c) (h : woP_I.f x0 x1 l = some t) :
    Calls Try.prog 36 #[.agg #[.slice A0 l.length c, .func (.func 57) #[] #[]], .agg #[.int .i64 x0, .int .i64 x1]] W fun e w' => ∃ v0_ : Value, e = .returned v0_ ∧ Kd.R k62 62 w' W.heap.size (fun _ => True) v0_ t ∧ Below W.heap.size W w' := by
  unfold woP_I.f at h
  split at h
  case isFalse => cases h
  case isTrue hs =>
  cases h
  obtain ⟨hl, hb⟩ := of_decide_eq_true hs
  exact withoutI_row A0 c l x0 x1 W hr hc hl hb
theorem setS_len (x : S56) (l : List S56) : (setS x l).length = l.length := by unfold setS; simp
theorem setS_get (x : S56) (l : List S56) (m : Nat) (h : m < l.length) (h2 : m < (setS x l).length) : (setS x l)[m] = if l[m].f0 = x.f0 ∧ l[m].f1 = x.f1 then x else l[m] := by
  simp only [setS, List.getElem_map]
theorem set_place (l : List S56) (x : S56) (p : Nat) (hs : l.Pairwise (fun x y => Call.ltH x y = true)) (hp : Call.PlaceH l x.f0 x.f1 p) :
    Call.fndH l x.f0 x.f1 p = true → l.set p x = setS x l := by
  intro h
  unfold Call.fndH at h
  obtain ⟨h1, h2, h3⟩ := hp
  rcases Nat.lt_or_ge p l.length with hlt | hge
  case inr => rw [List.getElem?_eq_none hge] at h; simp at h
  rw [List.getElem?_eq_getElem hlt] at h
  have he : cmp2 l[p].f0 l[p].f1 x.f0 x.f1 = 0 := by simpa using h
  rw [Call.cmp2_eq] at he
  apply List.ext_getElem
  · rw [setS_len]; simp
  intro m hm1 hm2
  rw [List.length_set] at hm1
  rw [List.getElem_set, setS_get x l m hm1 hm2]
  by_cases hm : p = m
  · subst hm
    rw [if_pos rfl, if_pos he]
  · rw [if_neg hm, if_neg]
    intro hq
    rcases Nat.lt_or_ge m p with hlt2 | hge2
    · have := List.pairwise_iff_getElem.1 hs m p hm1 hlt hlt2
      rw [Call.ltH_iff] at this
      omega
    · have := List.pairwise_iff_getElem.1 hs p m hlt hm1 (by omega)
      rw [Call.ltH_iff] at this
      omega
theorem set_none (l : List S56) (x : S56) (p : Nat) (hs : l.Pairwise (fun x y => Call.ltH x y = true)) (hp : Call.PlaceH l x.f0 x.f1 p) :
    Call.fndH l x.f0 x.f1 p = false → l = setS x l := by
  intro h
  unfold Call.fndH at h
  obtain ⟨h1, h2, h3⟩ := hp
  have key : ∀ m : Nat, (hm : m < l.length) → ¬ (l[m].f0 = x.f0 ∧ l[m].f1 = x.f1) := by
    intro m hm hq
    rw [← Call.cmp2_eq] at hq
    rcases Nat.lt_or_ge m p with hlt | hge
    · have := h2 l[m] (List.mem_iff_getElem.2 ⟨m, by rw [List.length_take]; omega, by rw [List.getElem_take]⟩)
      omega
    · rcases Nat.lt_or_ge p m with hlt2 | hge2
      · have g1 := List.pairwise_iff_getElem.1 hs p m (by omega) hm hlt2
        have g2 := h3 l[p] (List.mem_iff_getElem.2 ⟨0, by rw [List.length_drop]; omega, by rw [List.getElem_drop]; simp⟩)
        rw [Call.ltH_iff] at g1
        rw [Call.cmp2_eq] at hq
        rw [Call.cmp2_lt] at g2
        omega
      · have hpm : p = m := by omega
        subst hpm
        rw [List.getElem?_eq_getElem hm] at h
        simp [hq] at h
  apply List.ext_getElem
  · rw [setS_len]
  intro m hm1 hm2
  rw [setS_get x l m hm1 hm2, if_neg (key m hm1)]
theorem setP_H_calls (A0 : Option Addr) (c : Nat) (l : List S56) (x0 x1 x2 : Int) (t : List S56) (W : World) (hr : Kd.C k56 W A0 l.length l) (hc : l.length ≤ c) (h : setP_H.f x0 x1 x2 l = some t) :
    Calls Try.prog 47 #[.agg #[.slice A0 l.length c, .func (.func 51) #[] #[]], .agg #[.int .i64 x0, .int .i64 x1, .int .i64 x2]] W fun e w' => ∃ v0_ : Value, e = .returned v0_ ∧ Kd.R k56 56 w' W.heap.size (fun _ => True) v0_ t ∧ Below W.heap.size W w' := by
  unfold setP_H.f at h
  split at h
  case isFalse => cases h
  case isTrue hs =>
  cases h
  obtain ⟨hl, hb⟩ := of_decide_eq_true hs.1
  have hso := ((Call.rightH_none (fun _ => true) l).1 hs.2).2
  refine api_Hall_set.calls (l.length + 2) A0 c l 0 x0 x1 x2 _ W hr hc ?_
  unfold api_Hall_set.f api_Hall_55.f
  rw [if_pos hl]
  simp only [Option.bind_some]
  obtain ⟨p, hp, e⟩ := Call.searchH_eq l x0 x1 x2 0 (by omega) hso (l.length + 2) (by omega)
  obtain ⟨b, hm⟩ : ∃ b, Call.fndH l x0 x1 p = b := ⟨_, rfl⟩
  rw [hm] at e
  rw [e]
  simp only [Option.bind_some]
  cases b
  · rw [if_neg (by decide)]
    simp only [api_Hall_set.j0]
    congr 1
    exact set_none l ⟨x0, x1, x2⟩ p hso hp hm
  · have hlt : p < l.length := by
      rcases Nat.lt_or_ge p l.length with h | h
      · exact h
      · unfold Call.fndH at hm; rw [List.getElem?_eq_none h] at hm; simp at hm
    rw [if_pos rfl, if_pos (by omega), if_pos (by omega)]
    simp only [api_Hall_set.j0, Int.toNat_natCast]
    congr 1
    exact set_place l ⟨x0, x1, x2⟩ p hso hp hm
end Go.Proofs.Ytjehhhlhalkieaa.C
namespace Go.Proofs.Ytjehhhlhalkieaa.C
open Go.RowKit Go.Proofs.YtjehhhlhalkieaaW.PrintWords Go.Proofs.YtjehhhlhalkieaaW.PrintLast Go.Proofs.YtjehhhlhalkieaaW.PrintMore
attribute [local go_sem] max2_int min2_int max_two min_two max_three min_three max_four min_four
set_option linter.unusedVariables false
set_option linter.unusedSimpArgs false
def call_Check.j0 : Nat → Bool → Option (Int)
 | 0, _ => none
 | k + 1, x30 => if x30 = true then (some 190) else (some 0)
def call_Check.f (k : Nat) (a0_0 : Int) (a0_1 : Int) (l1_0 : List (S56)) (l1_1 : List (S62)) : Option (Int) := (call_within.f a0_0 2 64).bind fun t103 => (if t103 = true then ((call_within.f a0_1 1 8).bind fun t104 => (if t104 = true then ((rightP_H.f l1_0 l1_1 a0_0 a0_1).bind fun t105 => (if t105 = true then ((rightP_I.f l1_0 l1_1 a0_0 a0_1).bind fun t106 => (call_Check.j0 k (!t106))) else (call_Check.j0 k true))) else (call_Check.j0 k true))) else (call_Check.j0 k true))
theorem call_Check.mono_l : ∀ k, (∀ y0, LeO (call_Check.j0 k y0) (call_Check.j0 (k + 1) y0))
 | 0 => fun _ r h => by simp [call_Check.j0] at h
 | k + 1 => by
  have ih0 := call_Check.mono_l k
  ·intro y0
   unfold call_Check.j0
   repeat' first
   | (with_reducible exact ih0 _)
   | (with_reducible exact LeO.refl _)
   | (with_reducible exact LeO.none _)
   | (with_reducible refine LeO.ite ?_ ?_)
   | (with_reducible refine LeO.bind ?_ (fun _ => ?_))
   | exact ih0 _
   | exact LeO.none _
   | refine LeO.ite ?_ ?_
   | refine LeO.bind ?_ (fun _ => ?_)
theorem call_Check.mono : ∀ a0 a1 a2 a3 k, LeO (call_Check.f k a0 a1 a2 a3) (call_Check.f (k + 1) a0 a1 a2 a3) := by
 intro a0 a1 a2 a3 k
 have ih0 := call_Check.mono_l k
 unfold call_Check.f
 repeat' first
   | (with_reducible exact ih0 _)
   | (with_reducible exact LeO.refl _)
   | (with_reducible exact LeO.none _)
   | (with_reducible refine LeO.ite ?_ ?_)
   | (with_reducible refine LeO.bind ?_ (fun _ => ?_))
   | exact ih0 _
   | exact LeO.none _
   | refine LeO.ite ?_ ?_
   | refine LeO.bind ?_ (fun _ => ?_)
def call_Check.T1 : Bool × List (List Nat × List Nat) := (true, [([], []), ([0], [0]), ([1], [1]), ([2], [2]), ([3, 2], [3]), ([4], [4]), ([5, 4], [4, 5]), ([6, 4, 4], [4, 6]), ([7, 4], [4, 7]), ([4, 8], [4, 8]), ([9, 7], [9]), ([10], [10]), ([11, 10, 10], [10, 11]), ([10], [10]), ([13, 12, 10], [10, 13]), ([12, 14, 14, 10], [10, 12, 14]), ([15, 10], [10, 15]), ([10, 16], [10, 16]), ([17, 15], [17]), ([18], [18]), ([19, 18, 18], [18, 19]), ([18], [18]), ([21, 20, 18], [18, 21]), ([20, 22, 22, 18], [18, 20, 22]), ([23, 18], [18, 23]), ([18, 24], [18, 24])])
def call_Check.B1 : List Nat := [0, 1, 3, 7, 15, 31, 63, 127, 255, 511, 1023, 2047, 4095, 2047, 16383, 32767, 65535, 131071, 262143, 524287, 1048575, 524287, 4194303, 8388607, 16777215, 33554431]
theorem call_Check.tab1 : rtab .any (opsOf Try.f14 1) = call_Check.T1 := by kernel_rfl
theorem call_Check.bits1 : waitsOk call_Check.T1.2 call_Check.B1 = true := by kernel_rfl
set_option maxHeartbeats 8000000 in
set_option maxRecDepth 100000 in
theorem call_Check.calls (k : Nat) (a0_0 : Int) (a0_1 : Int) (A1_0 : Option Addr) (c1_0 : Nat) (l1_0 : List (S56)) (A1_1 : Option Addr) (c1_1 : Nat) (l1_1 : List (S62)) (r : Int) (w : World) (hr1_0 : Kd.C k56 w A1_0 l1_0.length l1_0) (hc1_0 : l1_0.length ≤ c1_0) (hr1_1 : Kd.C k62 w A1_1 l1_1.length l1_1) (hc1_1 : l1_1.length ≤ c1_1) (h : call_Check.f k a0_0 a0_1 l1_0 l1_1 = some r) :
  Calls Try.prog 14 #[.agg #[.int .i64 a0_0, .int .i64 a0_1], .agg #[.slice A1_0 l1_0.length c1_0, .slice A1_1 l1_1.length c1_1]] w fun e w' => e = .returned (.int .i64 r) ∧ Below w.heap.size w w' := by
 have hu23 := Try.underlying23
 have hu27 := Try.underlying27
 have HR1_0 := Aside0.mk hr1_0
 have HC1_0 := Aside0.mk hc1_0
 clear hr1_0 hc1_0
 have HR1_1 := Aside0.mk hr1_1
 have HC1_1 := Aside0.mk hc1_1
 clear hr1_1 hc1_1
 have HB := Aside0.mk (Below.refl w.heap.size w)
 have H : ((call_within.f a0_0 2 64).bind fun t103 => (if t103 = true then ((call_within.f a0_1 1 8).bind fun t104 => (if t104 = true then ((rightP_H.f l1_0 l1_1 a0_0 a0_1).bind fun t105 => (if t105 = true then ((rightP_I.f l1_0 l1_1 a0_0 a0_1).bind fun t106 => (call_Check.j0 k (!t106))) else (call_Check.j0 k true))) else (call_Check.j0 k true))) else (call_Check.j0 k true))) = some r := h
 clear h
 have HC3 := Aside0.mk H
 clear H
 go_enter Try.func14, Try.ntmps14
 go_upto_region 1 with (first | ((with_reducible refine gate_dst (N := 2) rfl ?_); refine box_event ?hg (N := 2) ?hd (cs := #[.int .i64 a0_0, .int .i64 a0_1]) (t := 23) ?hr ?_; (case hd => rfl); (case hg => rfl); (case hr => go_simp <;> rfl); intro gb101 hg w4 hbox hb; have BK101 := Aside0.mk hbox; have GW101 := sGe hg; have GE101 := sGe hg; replace HB := sHb hb; clear hb hbox hg) | ((with_reducible refine gate_dst (N := 3) rfl ?_); refine box_event ?hg (N := 3) ?hd (cs := #[.slice A1_0 l1_0.length c1_0, .slice A1_1 l1_1.length c1_1]) (t := 27) ?hr ?_; (case hd => rfl); (case hg => rfl); (case hr => go_simp <;> rfl); intro gb102 hg w5 hbox hb; have BK102 := Aside0.mk hbox; have GW102 := sGe hg; have GE102 := sGe hg; have NB101_102 := sNl BK101 hg; have NB102_101 := sNg BK101 hg; replace BK101 := sBk BK101 hb; replace HB := sHb hb; clear hb hbox hg))
 (try simp only [Act.put, List.setIfInBounds_toArray, List.set_cons_zero, List.set_cons_succ])
 go_cut [30] (fun v30 wc => ∃ (kq : Nat) (x30_2 : Bool), v30 = .bool x30_2 ∧ Aside0 (call_Check.j0 kq x30_2 = some r) ∧ Aside0 (kq ≤ k) ∧ Aside0 (wc.heap[gb101]? = some (.cells #[.int .i64 a0_0, .int .i64 a0_1] 23 (0, 0))) ∧ Aside0 (wc.heap[gb102]? = some (.cells #[(.slice A1_0 l1_0.length c1_0), (.slice A1_1 l1_1.length c1_1)] 27 (0, 0))) ∧ Aside0 (Below w.heap.size w wc))
 case first =>
  have H := HC3.out
  clear HC3
  replace H := Option.bind_eq_some_iff.mp H
  obtain ⟨t103, A60, H⟩ := H
  replace H : (if t103 = true then ((call_within.f a0_1 1 8).bind fun t104 => (if t104 = true then ((rightP_H.f l1_0 l1_1 a0_0 a0_1).bind fun t105 => (if t105 = true then ((rightP_I.f l1_0 l1_1 a0_0 a0_1).bind fun t106 => (call_Check.j0 k (!t106))) else (call_Check.j0 k true))) else (call_Check.j0 k true))) else (call_Check.j0 k true)) = some r := H
  have A6 := Aside0.mk A60
  clear A60
  by_cases c7 : t103 = true
  ·subst c7
   have H1 : ((call_within.f a0_1 1 8).bind fun t104 => (if t104 = true then ((rightP_H.f l1_0 l1_1 a0_0 a0_1).bind fun t105 => (if t105 = true then ((rightP_I.f l1_0 l1_1 a0_0 a0_1).bind fun t106 => (call_Check.j0 k (!t106))) else (call_Check.j0 k true))) else (call_Check.j0 k true))) = some r := by rw [if_pos rfl] at H; exact H
   clear H
   have H := H1
   clear H1
   replace H := Option.bind_eq_some_iff.mp H
   obtain ⟨t104, A80, H⟩ := H
   replace H : (if t104 = true then ((rightP_H.f l1_0 l1_1 a0_0 a0_1).bind fun t105 => (if t105 = true then ((rightP_I.f l1_0 l1_1 a0_0 a0_1).bind fun t106 => (call_Check.j0 k (!t106))) else (call_Check.j0 k true))) else (call_Check.j0 k true)) = some r := H
   have A8 := Aside0.mk A80
   clear A80
   by_cases c9 : t104 = true
   ·subst c9
    have H1 : ((rightP_H.f l1_0 l1_1 a0_0 a0_1).bind fun t105 => (if t105 = true then ((rightP_I.f l1_0 l1_1 a0_0 a0_1).bind fun t106 => (call_Check.j0 k (!t106))) else (call_Check.j0 k true))) = some r := by rw [if_pos rfl] at H; exact H
    clear H
    have H := H1
    clear H1
    replace H := Option.bind_eq_some_iff.mp H
    obtain ⟨t105, A100, H⟩ := H
    replace H : (if t105 = true then ((rightP_I.f l1_0 l1_1 a0_0 a0_1).bind fun t106 => (call_Check.j0 k (!t106))) else (call_Check.j0 k true)) = some r := H
    have A10 := Aside0.mk A100
    clear A100
    by_cases c11 : t105 = true
    ·subst c11
     have H1 : ((rightP_I.f l1_0 l1_1 a0_0 a0_1).bind fun t106 => (call_Check.j0 k (!t106))) = some r := by rw [if_pos rfl] at H; exact H
     clear H
     have H := H1
     clear H1
     replace H := Option.bind_eq_some_iff.mp H
     obtain ⟨t106, A120, H⟩ := H
     replace H : (call_Check.j0 k (!t106)) = some r := H
     have A12 := Aside0.mk A120
     clear A120
     have H' := Aside0.mk H
     clear H
     try go_wp2
     replace BK101 := Aside0.mk (blk_drew BK101.out)
     replace BK102 := Aside0.mk (blk_drew BK102.out)
     replace HB := Aside0.mk (below_drew1 HB.out)
     refine start_ (n := 26) (S := fun w' => w'.cell? ⟨gb101, 0, none⟩ = some (.int .i64 a0_0) ∧ w'.cell? ⟨gb101, 1, none⟩ = some (.int .i64 a0_1) ∧ w'.cell? ⟨gb102, 0, none⟩ = some (.slice A1_0 l1_0.length c1_0) ∧ w'.cell? ⟨gb102, 1, none⟩ = some (.slice A1_1 l1_1.length c1_1)) (ds := []) #[false, false, false, false, false, false, false, false, false, false, false, false, false, false, false, false, false, false, false, false, false, false, false, false, false, false] (by kernel_rfl) rfl rfl ⟨(blk_cell BK101.out 0).trans rfl, (blk_cell BK101.out 1).trans rfl, (blk_cell BK102.out 0).trans rfl, (blk_cell BK102.out 1).trans rfl⟩ (fun hHeld => ?_); refine with_tabW call_Check.tab1 call_Check.bits1 (fun HT_ HW_ => ?_)
     generalize w5.drew = w13 at BK101 BK102 HB hHeld ⊢
     refine pure_ (i := 0) (N := some 5) (v := ?_) (a' := ?_) (bN 26 1) rfl rfl (any_of HT_.out (by kernel_rfl)) (fun _ _ _ h => h) (Or.inl ⟨by rfl, ?_⟩) ?_ ?_
     rotate_left
     ·intro w'
      go_simp
      with_reducible rfl
     rotate_left
     ·simp only [Act.put, List.setIfInBounds_toArray, List.set_cons_zero, List.set_cons_succ, i64_w, i32_w]
      rfl
     refine take_ (i := 1) (N := some 6) (v := ?_) (a' := ?_) (bN 26 3) rfl rfl (take_ofW HT_.out HW_.out (by kernel_rfl)) (fun _ _ _ h => h) (Or.inl ⟨by rfl, ?_⟩) hHeld ?_ ?_
     rotate_left
     ·rintro w' ⟨s0, s1, s2, s3⟩
      go_simp
      with_reducible rfl
     rotate_left
     ·simp only [Act.put, List.setIfInBounds_toArray, List.set_cons_zero, List.set_cons_succ, i64_w, i32_w]
      rfl
     refine one_ (i := 2) (N := some 7) (bN 26 7) rfl rfl (one_of HT_.out (by kernel_rfl)) (by decide) (fun K hK => ?_)
     refine goes_ Try.func41 (by kernel_rfl) rfl #[.int .i64 a0_0, .int .i64 2, .int .i64 64] (by rfl) rfl rfl (by simp only [List.map_toArray, List.map_cons, List.map_nil] <;> rfl) ?_
     with_reducible refine (call_within.calls a0_0 2 64 true _ A6.out).mono ?_
     rintro e w' ⟨rfl, ⟨nd, rfl⟩⟩
     refine ⟨_, rfl, ?_⟩
     refine hK.out _ _ ⟨(blk_cell BK101.out 0).trans rfl, (blk_cell BK101.out 1).trans rfl, (blk_cell BK102.out 0).trans rfl, (blk_cell BK102.out 1).trans rfl⟩ (fun hHeld => ?_)
     clear hK K
     refine norm_ (a' := ?_) ?_ ?_
     rotate_left
     ·show Act.put _ (some 7) _ = _
      simp only [Act.put, List.setIfInBounds_toArray, List.set_cons_zero, List.set_cons_succ, i64_w, i32_w]
      rfl
     refine pure_ (i := 3) (N := some 8) (v := ?_) (a' := ?_) (bN 26 15) rfl rfl (any_of HT_.out (by kernel_rfl)) (fun _ _ _ h => h) (Or.inl ⟨by rfl, ?_⟩) ?_ ?_
     rotate_left
     ·intro w'
      go_simp
      with_reducible rfl
     rotate_left
     ·simp only [Act.put, List.setIfInBounds_toArray, List.set_cons_zero, List.set_cons_succ, i64_w, i32_w]
      rfl
     refine pure_ (i := 4) (N := some 9) (v := ?_) (a' := ?_) (bN 26 31) rfl rfl (any_of HT_.out (by kernel_rfl)) (fun _ _ _ h => h) (Or.inl ⟨by rfl, ?_⟩) ?_ ?_
     rotate_left
     ·intro w'
      go_simp
      with_reducible rfl
     rotate_left
     ·simp only [Act.put, List.setIfInBounds_toArray, List.set_cons_zero, List.set_cons_succ, i64_w, i32_w]
      rfl
     refine pure_ (i := 5) (N := some 10) (v := ?_) (a' := ?_) (bN 26 63) rfl rfl (any_of HT_.out (by kernel_rfl)) (fun _ _ _ h => h) (Or.inl ⟨by rfl, ?_⟩) ?_ ?_
     rotate_left
     ·intro w'
      go_simp
      with_reducible rfl
     rotate_left
     ·simp only [Act.put, List.setIfInBounds_toArray, List.set_cons_zero, List.set_cons_succ, i64_w, i32_w]
      rfl
     refine take_ (i := 6) (N := some 11) (v := ?_) (a' := ?_) (bN 26 127) rfl rfl (take_ofW HT_.out HW_.out (by kernel_rfl)) (fun _ _ _ h => h) (Or.inl ⟨by rfl, ?_⟩) hHeld ?_ ?_
     rotate_left
     ·rintro w' ⟨s0, s1, s2, s3⟩
      go_simp
      with_reducible rfl
     rotate_left
     ·simp only [Act.put, List.setIfInBounds_toArray, List.set_cons_zero, List.set_cons_succ, i64_w, i32_w]
      rfl
     refine one_ (i := 7) (N := some 12) (bN 26 255) rfl rfl (one_of HT_.out (by kernel_rfl)) (by decide) (fun K hK => ?_)
     refine goes_ Try.func41 (by kernel_rfl) rfl #[.int .i64 a0_1, .int .i64 1, .int .i64 8] (by rfl) rfl rfl (by simp only [List.map_toArray, List.map_cons, List.map_nil] <;> rfl) ?_
     with_reducible refine (call_within.calls a0_1 1 8 true _ A8.out).mono ?_
     rintro e w' ⟨rfl, ⟨nd, rfl⟩⟩
     refine ⟨_, rfl, ?_⟩
     refine hK.out _ _ ⟨(blk_cell BK101.out 0).trans rfl, (blk_cell BK101.out 1).trans rfl, (blk_cell BK102.out 0).trans rfl, (blk_cell BK102.out 1).trans rfl⟩ (fun hHeld => ?_)
     clear hK K
     refine norm_ (a' := ?_) ?_ ?_
     rotate_left
     ·show Act.put _ (some 12) _ = _
      simp only [Act.put, List.setIfInBounds_toArray, List.set_cons_zero, List.set_cons_succ, i64_w, i32_w]
      rfl
     refine pure_ (i := 8) (N := some 13) (v := ?_) (a' := ?_) (bN 26 511) rfl rfl (any_of HT_.out (by kernel_rfl)) (fun _ _ _ h => h) (Or.inl ⟨by rfl, ?_⟩) ?_ ?_
     rotate_left
     ·intro w'
      go_simp
      with_reducible rfl
     rotate_left
     ·simp only [Act.put, List.setIfInBounds_toArray, List.set_cons_zero, List.set_cons_succ, i64_w, i32_w]
      rfl
     refine pure_ (i := 9) (N := some 14) (v := ?_) (a' := ?_) (bN 26 1023) rfl rfl (any_of HT_.out (by kernel_rfl)) (fun _ _ _ h => h) (Or.inl ⟨by rfl, ?_⟩) ?_ ?_
     rotate_left
     ·intro w'
      go_simp
      with_reducible rfl
     rotate_left
     ·simp only [Act.put, List.setIfInBounds_toArray, List.set_cons_zero, List.set_cons_succ, i64_w, i32_w]
      rfl
     refine pure_ (i := 10) (N := some 15) (v := ?_) (a' := ?_) (bN 26 2047) rfl rfl (any_of HT_.out (by kernel_rfl)) (fun _ _ _ h => h) (Or.inl ⟨by rfl, ?_⟩) ?_ ?_
     rotate_left
     ·intro w'
      go_simp
      with_reducible rfl
     rotate_left
     ·simp only [Act.put, List.setIfInBounds_toArray, List.set_cons_zero, List.set_cons_succ, i64_w, i32_w]
      rfl
     refine take_ (i := 11) (N := some 16) (v := ?_) (a' := ?_) (bN 26 4095) rfl rfl (take_ofW HT_.out HW_.out (by kernel_rfl)) (fun _ _ _ h => h) (Or.inl ⟨by rfl, ?_⟩) hHeld ?_ ?_
     rotate_left
     ·rintro w' ⟨s0, s1, s2, s3⟩
      go_simp
      with_reducible rfl
     rotate_left
     ·simp only [Act.put, List.setIfInBounds_toArray, List.set_cons_zero, List.set_cons_succ, i64_w, i32_w]
      rfl
     refine take_ (i := 13) (N := some 18) (v := ?_) (a' := ?_) (bN 26 12287) rfl rfl (take_ofW HT_.out HW_.out (by kernel_rfl)) (fun _ _ _ h => h) (Or.inl ⟨by rfl, ?_⟩) hHeld ?_ ?_
     rotate_left
     ·rintro w' ⟨s0, s1, s2, s3⟩
      go_simp
      with_reducible rfl
     rotate_left
     ·simp only [Act.put, List.setIfInBounds_toArray, List.set_cons_zero, List.set_cons_succ, i64_w, i32_w]
      rfl
     refine one_ (i := 12) (N := some 17) (bN 26 16383) rfl rfl (one_of HT_.out (by kernel_rfl)) (by decide) (fun K hK => ?_)
     refine goes_ Try.func30 (by kernel_rfl) rfl #[.agg #[.slice A1_0 l1_0.length c1_0, .slice A1_1 l1_1.length c1_1]] (by rfl) rfl rfl (by (try simp only [List.map_toArray, List.map_cons, List.map_nil]); first | done | rfl) ?_
     refine (rowH_calls A1_0 A1_1 l1_0.length l1_1.length c1_0 c1_1 _).mono ?_
     rintro e w901 ⟨rfl, hb⟩
     refine ⟨_, rfl, ?_⟩
     replace BK101 := sBk BK101 hb
     replace BK102 := sBk BK102 hb
     replace HB := sHb hb
     (try clear hb)
     (try clear hb2)
     (try clear hk)
     (try clear hi)
     refine hK.out _ _ ⟨(blk_cell BK101.out 0).trans rfl, (blk_cell BK101.out 1).trans rfl, (blk_cell BK102.out 0).trans rfl, (blk_cell BK102.out 1).trans rfl⟩ (fun hHeld => ?_)
     clear hK K
     refine norm_ (a' := ?_) ?_ ?_
     rotate_left
     ·show Act.put _ (some 17) _ = _
      simp only [Act.put, List.setIfInBounds_toArray, List.set_cons_zero, List.set_cons_succ, i64_w, i32_w]
      rfl
     refine one_ (i := 14) (N := some 19) (bN 26 32767) rfl rfl (one_of HT_.out (by kernel_rfl)) (by decide) (fun K hK => ?_)
     refine goes_ Try.func34 (by kernel_rfl) rfl #[.agg #[.int .i64 a0_0, .int .i64 a0_1]] (by rfl) rfl rfl (by (try simp only [List.map_toArray, List.map_cons, List.map_nil]); first | done | rfl) ?_
     refine (predH_calls a0_0 a0_1 _).mono ?_
     rintro e w902 ⟨gp902, rfl, hgp, hgw, hb⟩
     have BKP902 := Aside0.mk hgp
     clear hgp hgw
     refine ⟨_, rfl, ?_⟩
     replace BK101 := sBk BK101 hb
     replace BK102 := sBk BK102 hb
     replace HB := sHb hb
     (try clear hb)
     (try clear hb2)
     (try clear hk)
     (try clear hi)
     refine hK.out _ _ ⟨(blk_cell BK101.out 0).trans rfl, (blk_cell BK101.out 1).trans rfl, (blk_cell BK102.out 0).trans rfl, (blk_cell BK102.out 1).trans rfl⟩ (fun hHeld => ?_)
     clear hK K
     refine norm_ (a' := ?_) ?_ ?_
     rotate_left
     ·show Act.put _ (some 19) _ = _
      simp only [Act.put, List.setIfInBounds_toArray, List.set_cons_zero, List.set_cons_succ, i64_w, i32_w]
      rfl
     refine one_ (i := 15) (N := some 20) (bN 26 65535) rfl rfl (one_of HT_.out (by kernel_rfl)) (by decide) (fun K hK => ?_)
     refine goes_ Try.func42 (by kernel_rfl) rfl #[.agg #[.slice A1_0 l1_0.length c1_0, .func (.func 51) #[] #[]], .func (.func 61) #[] #[.pointer (some ⟨gp902, 0, none⟩)]] (by rfl) rfl rfl (by simp only [List.map_toArray, List.map_cons, List.map_nil] <;> rfl) ?_
     with_reducible refine (rightP_H.calls A1_0 c1_0 l1_0 A1_1 c1_1 l1_1 a0_0 a0_1 true _ ?side1 ?side2 ?side3 ?side4 A10.out gp902 BKP902.out).mono ?_
     (case side1 => exact (Kd.C_below HR1_0.out HB.out))
     (case side2 => exact HC1_0.out)
     (case side3 => exact (Kd.C_below HR1_1.out HB.out))
     (case side4 => exact HC1_1.out)
     rintro e w14 ⟨rfl, hb⟩
     refine ⟨_, rfl, ?_⟩
     replace BK101 := sBk BK101 hb
     replace BK102 := sBk BK102 hb
     replace HB := sHb hb
     (try clear hb)
     (try clear hb2)
     (try clear hk)
     (try clear hi)
     refine hK.out _ _ ⟨(blk_cell BK101.out 0).trans rfl, (blk_cell BK101.out 1).trans rfl, (blk_cell BK102.out 0).trans rfl, (blk_cell BK102.out 1).trans rfl⟩ (fun hHeld => ?_)
     clear hK K
     refine norm_ (a' := ?_) ?_ ?_
     rotate_left
     ·show Act.put _ (some 20) _ = _
      simp only [Act.put, List.setIfInBounds_toArray, List.set_cons_zero, List.set_cons_succ, i64_w, i32_w]
      rfl
     refine pure_ (i := 16) (N := some 21) (v := ?_) (a' := ?_) (bN 26 131071) rfl rfl (any_of HT_.out (by kernel_rfl)) (fun _ _ _ h => h) (Or.inl ⟨by rfl, ?_⟩) ?_ ?_
     rotate_left
     ·intro w'
      go_simp
      with_reducible rfl
     rotate_left
     ·simp only [Act.put, List.setIfInBounds_toArray, List.set_cons_zero, List.set_cons_succ, i64_w, i32_w]
      rfl
     refine pure_ (i := 17) (N := some 22) (v := ?_) (a' := ?_) (bN 26 262143) rfl rfl (any_of HT_.out (by kernel_rfl)) (fun _ _ _ h => h) (Or.inl ⟨by rfl, ?_⟩) ?_ ?_
     rotate_left
     ·intro w'
      go_simp
      with_reducible rfl
     rotate_left
     ·simp only [Act.put, List.setIfInBounds_toArray, List.set_cons_zero, List.set_cons_succ, i64_w, i32_w]
      rfl
     refine pure_ (i := 18) (N := some 23) (v := ?_) (a' := ?_) (bN 26 524287) rfl rfl (any_of HT_.out (by kernel_rfl)) (fun _ _ _ h => h) (Or.inl ⟨by rfl, ?_⟩) ?_ ?_
     rotate_left
     ·intro w'
      go_simp
      with_reducible rfl
     rotate_left
     ·simp only [Act.put, List.setIfInBounds_toArray, List.set_cons_zero, List.set_cons_succ, i64_w, i32_w]
      rfl
     refine take_ (i := 19) (N := some 24) (v := ?_) (a' := ?_) (bN 26 1048575) rfl rfl (take_ofW HT_.out HW_.out (by kernel_rfl)) (fun _ _ _ h => h) (Or.inl ⟨by rfl, ?_⟩) hHeld ?_ ?_
     rotate_left
     ·rintro w' ⟨s0, s1, s2, s3⟩
      go_simp
      with_reducible rfl
     rotate_left
     ·simp only [Act.put, List.setIfInBounds_toArray, List.set_cons_zero, List.set_cons_succ, i64_w, i32_w]
      rfl
     refine take_ (i := 21) (N := some 26) (v := ?_) (a' := ?_) (bN 26 3145727) rfl rfl (take_ofW HT_.out HW_.out (by kernel_rfl)) (fun _ _ _ h => h) (Or.inl ⟨by rfl, ?_⟩) hHeld ?_ ?_
     rotate_left
     ·rintro w' ⟨s0, s1, s2, s3⟩
      go_simp
      with_reducible rfl
     rotate_left
     ·simp only [Act.put, List.setIfInBounds_toArray, List.set_cons_zero, List.set_cons_succ, i64_w, i32_w]
      rfl
     refine one_ (i := 20) (N := some 25) (bN 26 4194303) rfl rfl (one_of HT_.out (by kernel_rfl)) (by decide) (fun K hK => ?_)
     refine goes_ Try.func32 (by kernel_rfl) rfl #[.agg #[.slice A1_0 l1_0.length c1_0, .slice A1_1 l1_1.length c1_1]] (by rfl) rfl rfl (by (try simp only [List.map_toArray, List.map_cons, List.map_nil]); first | done | rfl) ?_
     refine (rowI_calls A1_0 A1_1 l1_0.length l1_1.length c1_0 c1_1 _).mono ?_
     rintro e w903 ⟨rfl, hb⟩
     refine ⟨_, rfl, ?_⟩
     replace BK101 := sBk BK101 hb
     replace BK102 := sBk BK102 hb
     replace HB := sHb hb
     (try clear hb)
     (try clear hb2)
     (try clear hk)
     (try clear hi)
     refine hK.out _ _ ⟨(blk_cell BK101.out 0).trans rfl, (blk_cell BK101.out 1).trans rfl, (blk_cell BK102.out 0).trans rfl, (blk_cell BK102.out 1).trans rfl⟩ (fun hHeld => ?_)
     clear hK K
     refine norm_ (a' := ?_) ?_ ?_
     rotate_left
     ·show Act.put _ (some 25) _ = _
      simp only [Act.put, List.setIfInBounds_toArray, List.set_cons_zero, List.set_cons_succ, i64_w, i32_w]
      rfl
     refine one_ (i := 22) (N := some 27) (bN 26 8388607) rfl rfl (one_of HT_.out (by kernel_rfl)) (by decide) (fun K hK => ?_)
     refine goes_ Try.func29 (by kernel_rfl) rfl #[.agg #[.int .i64 a0_0, .int .i64 a0_1]] (by rfl) rfl rfl (by (try simp only [List.map_toArray, List.map_cons, List.map_nil]); first | done | rfl) ?_
     refine (predI_calls a0_0 a0_1 _).mono ?_
     rintro e w904 ⟨gp904, rfl, hgp, hgw, hb⟩
     have BKP904 := Aside0.mk hgp
     clear hgp hgw
     refine ⟨_, rfl, ?_⟩
     replace BK101 := sBk BK101 hb
     replace BK102 := sBk BK102 hb
     replace HB := sHb hb
     (try clear hb)
     (try clear hb2)
     (try clear hk)
     (try clear hi)
     refine hK.out _ _ ⟨(blk_cell BK101.out 0).trans rfl, (blk_cell BK101.out 1).trans rfl, (blk_cell BK102.out 0).trans rfl, (blk_cell BK102.out 1).trans rfl⟩ (fun hHeld => ?_)
     clear hK K
     refine norm_ (a' := ?_) ?_ ?_
     rotate_left
     ·show Act.put _ (some 27) _ = _
      simp only [Act.put, List.setIfInBounds_toArray, List.set_cons_zero, List.set_cons_succ, i64_w, i32_w]
      rfl
     refine one_ (i := 23) (N := some 28) (bN 26 16777215) rfl rfl (one_of HT_.out (by kernel_rfl)) (by decide) (fun K hK => ?_)
     refine goes_ Try.func43 (by kernel_rfl) rfl #[.agg #[.slice A1_1 l1_1.length c1_1, .func (.func 57) #[] #[]], .func (.func 50) #[] #[.pointer (some ⟨gp904, 0, none⟩)]] (by rfl) rfl rfl (by simp only [List.map_toArray, List.map_cons, List.map_nil] <;> rfl) ?_
     with_reducible refine (rightP_I.calls A1_0 c1_0 l1_0 A1_1 c1_1 l1_1 a0_0 a0_1 t106 _ ?side1 ?side2 ?side3 ?side4 A12.out gp904 BKP904.out).mono ?_
     (case side1 => exact (Kd.C_below HR1_0.out HB.out))
     (case side2 => exact HC1_0.out)
     (case side3 => exact (Kd.C_below HR1_1.out HB.out))
     (case side4 => exact HC1_1.out)
     rintro e w15 ⟨rfl, hb⟩
     refine ⟨_, rfl, ?_⟩
     replace BK101 := sBk BK101 hb
     replace BK102 := sBk BK102 hb
     replace HB := sHb hb
     (try clear hb)
     (try clear hb2)
     (try clear hk)
     (try clear hi)
     refine hK.out _ _ ⟨(blk_cell BK101.out 0).trans rfl, (blk_cell BK101.out 1).trans rfl, (blk_cell BK102.out 0).trans rfl, (blk_cell BK102.out 1).trans rfl⟩ (fun hHeld => ?_)
     clear hK K
     refine norm_ (a' := ?_) ?_ ?_
     rotate_left
     ·show Act.put _ (some 28) _ = _
      simp only [Act.put, List.setIfInBounds_toArray, List.set_cons_zero, List.set_cons_succ, i64_w, i32_w]
      rfl
     refine pure_ (i := 24) (N := some 29) (v := ?_) (a' := ?_) (bN 26 33554431) rfl rfl (any_of HT_.out (by kernel_rfl)) (fun _ _ _ h => h) (Or.inl ⟨by rfl, ?_⟩) ?_ ?_
     rotate_left
     ·intro w'
      go_simp
      with_reducible rfl
     rotate_left
     ·simp only [Act.put, List.setIfInBounds_toArray, List.set_cons_zero, List.set_cons_succ, i64_w, i32_w]
      rfl
     refine pure_ (i := 25) (N := some 30) (v := ?_) (a' := ?_) (bN 26 67108863) rfl rfl (any_of HT_.out (by kernel_rfl)) (fun _ _ _ h => h) (Or.inl ⟨by rfl, ?_⟩) ?_ ?_
     rotate_left
     ·intro w'
      go_simp
      with_reducible rfl
     rotate_left
     ·simp only [Act.put, List.setIfInBounds_toArray, List.set_cons_zero, List.set_cons_succ, i64_w, i32_w]
      rfl
     refine done_ (done_of HT_.out (by kernel_rfl)) ?_
     try go_wp2
     go_meet
     case rel => exact ⟨_, (!t106), rfl, H', ⟨by first | omega | exact Nat.le_refl _⟩, BK101, BK102, HB⟩
    ·replace c11 := Bool.eq_false_iff.mpr c11
     subst c11
     have H1 : (call_Check.j0 k true) = some r := by rw [if_neg (show ¬ (false = true) by decide)] at H; exact H
     clear H
     have H := H1
     clear H1
     have H' := Aside0.mk H
     clear H
     try go_wp2
     replace BK101 := Aside0.mk (blk_drew BK101.out)
     replace BK102 := Aside0.mk (blk_drew BK102.out)
     replace HB := Aside0.mk (below_drew1 HB.out)
     refine start_ (n := 26) (S := fun w' => w'.cell? ⟨gb101, 0, none⟩ = some (.int .i64 a0_0) ∧ w'.cell? ⟨gb101, 1, none⟩ = some (.int .i64 a0_1) ∧ w'.cell? ⟨gb102, 0, none⟩ = some (.slice A1_0 l1_0.length c1_0) ∧ w'.cell? ⟨gb102, 1, none⟩ = some (.slice A1_1 l1_1.length c1_1)) (ds := []) #[false, false, false, false, false, false, false, false, false, false, false, false, false, false, false, false, false, false, false, false, false, false, false, false, false, false] (by kernel_rfl) rfl rfl ⟨(blk_cell BK101.out 0).trans rfl, (blk_cell BK101.out 1).trans rfl, (blk_cell BK102.out 0).trans rfl, (blk_cell BK102.out 1).trans rfl⟩ (fun hHeld => ?_); refine with_tabW call_Check.tab1 call_Check.bits1 (fun HT_ HW_ => ?_)
     generalize w5.drew = w16 at BK101 BK102 HB hHeld ⊢
     refine pure_ (i := 0) (N := some 5) (v := ?_) (a' := ?_) (bN 26 1) rfl rfl (any_of HT_.out (by kernel_rfl)) (fun _ _ _ h => h) (Or.inl ⟨by rfl, ?_⟩) ?_ ?_
     rotate_left
     ·intro w'
      go_simp
      with_reducible rfl
     rotate_left
     ·simp only [Act.put, List.setIfInBounds_toArray, List.set_cons_zero, List.set_cons_succ, i64_w, i32_w]
      rfl
     refine take_ (i := 1) (N := some 6) (v := ?_) (a' := ?_) (bN 26 3) rfl rfl (take_ofW HT_.out HW_.out (by kernel_rfl)) (fun _ _ _ h => h) (Or.inl ⟨by rfl, ?_⟩) hHeld ?_ ?_
     rotate_left
     ·rintro w' ⟨s0, s1, s2, s3⟩
      go_simp
      with_reducible rfl
     rotate_left
     ·simp only [Act.put, List.setIfInBounds_toArray, List.set_cons_zero, List.set_cons_succ, i64_w, i32_w]
      rfl
     refine one_ (i := 2) (N := some 7) (bN 26 7) rfl rfl (one_of HT_.out (by kernel_rfl)) (by decide) (fun K hK => ?_)
     refine goes_ Try.func41 (by kernel_rfl) rfl #[.int .i64 a0_0, .int .i64 2, .int .i64 64] (by rfl) rfl rfl (by simp only [List.map_toArray, List.map_cons, List.map_nil] <;> rfl) ?_
     with_reducible refine (call_within.calls a0_0 2 64 true _ A6.out).mono ?_
     rintro e w' ⟨rfl, ⟨nd, rfl⟩⟩
     refine ⟨_, rfl, ?_⟩
     refine hK.out _ _ ⟨(blk_cell BK101.out 0).trans rfl, (blk_cell BK101.out 1).trans rfl, (blk_cell BK102.out 0).trans rfl, (blk_cell BK102.out 1).trans rfl⟩ (fun hHeld => ?_)
     clear hK K
     refine norm_ (a' := ?_) ?_ ?_
     rotate_left
     ·show Act.put _ (some 7) _ = _
      simp only [Act.put, List.setIfInBounds_toArray, List.set_cons_zero, List.set_cons_succ, i64_w, i32_w]
      rfl
     refine pure_ (i := 3) (N := some 8) (v := ?_) (a' := ?_) (bN 26 15) rfl rfl (any_of HT_.out (by kernel_rfl)) (fun _ _ _ h => h) (Or.inl ⟨by rfl, ?_⟩) ?_ ?_
     rotate_left
     ·intro w'
      go_simp
      with_reducible rfl
     rotate_left
     ·simp only [Act.put, List.setIfInBounds_toArray, List.set_cons_zero, List.set_cons_succ, i64_w, i32_w]
      rfl
     refine pure_ (i := 4) (N := some 9) (v := ?_) (a' := ?_) (bN 26 31) rfl rfl (any_of HT_.out (by kernel_rfl)) (fun _ _ _ h => h) (Or.inl ⟨by rfl, ?_⟩) ?_ ?_
     rotate_left
     ·intro w'
      go_simp
      with_reducible rfl
     rotate_left
     ·simp only [Act.put, List.setIfInBounds_toArray, List.set_cons_zero, List.set_cons_succ, i64_w, i32_w]
      rfl
     refine pure_ (i := 5) (N := some 10) (v := ?_) (a' := ?_) (bN 26 63) rfl rfl (any_of HT_.out (by kernel_rfl)) (fun _ _ _ h => h) (Or.inl ⟨by rfl, ?_⟩) ?_ ?_
     rotate_left
     ·intro w'
      go_simp
      with_reducible rfl
     rotate_left
     ·simp only [Act.put, List.setIfInBounds_toArray, List.set_cons_zero, List.set_cons_succ, i64_w, i32_w]
      rfl
     refine take_ (i := 6) (N := some 11) (v := ?_) (a' := ?_) (bN 26 127) rfl rfl (take_ofW HT_.out HW_.out (by kernel_rfl)) (fun _ _ _ h => h) (Or.inl ⟨by rfl, ?_⟩) hHeld ?_ ?_
     rotate_left
     ·rintro w' ⟨s0, s1, s2, s3⟩
      go_simp
      with_reducible rfl
     rotate_left
     ·simp only [Act.put, List.setIfInBounds_toArray, List.set_cons_zero, List.set_cons_succ, i64_w, i32_w]
      rfl
     refine one_ (i := 7) (N := some 12) (bN 26 255) rfl rfl (one_of HT_.out (by kernel_rfl)) (by decide) (fun K hK => ?_)
     refine goes_ Try.func41 (by kernel_rfl) rfl #[.int .i64 a0_1, .int .i64 1, .int .i64 8] (by rfl) rfl rfl (by simp only [List.map_toArray, List.map_cons, List.map_nil] <;> rfl) ?_
     with_reducible refine (call_within.calls a0_1 1 8 true _ A8.out).mono ?_
     rintro e w' ⟨rfl, ⟨nd, rfl⟩⟩
     refine ⟨_, rfl, ?_⟩
     refine hK.out _ _ ⟨(blk_cell BK101.out 0).trans rfl, (blk_cell BK101.out 1).trans rfl, (blk_cell BK102.out 0).trans rfl, (blk_cell BK102.out 1).trans rfl⟩ (fun hHeld => ?_)
     clear hK K
     refine norm_ (a' := ?_) ?_ ?_
     rotate_left
     ·show Act.put _ (some 12) _ = _
      simp only [Act.put, List.setIfInBounds_toArray, List.set_cons_zero, List.set_cons_succ, i64_w, i32_w]
      rfl
     refine pure_ (i := 8) (N := some 13) (v := ?_) (a' := ?_) (bN 26 511) rfl rfl (any_of HT_.out (by kernel_rfl)) (fun _ _ _ h => h) (Or.inl ⟨by rfl, ?_⟩) ?_ ?_
     rotate_left
     ·intro w'
      go_simp
      with_reducible rfl
     rotate_left
     ·simp only [Act.put, List.setIfInBounds_toArray, List.set_cons_zero, List.set_cons_succ, i64_w, i32_w]
      rfl
     refine pure_ (i := 9) (N := some 14) (v := ?_) (a' := ?_) (bN 26 1023) rfl rfl (any_of HT_.out (by kernel_rfl)) (fun _ _ _ h => h) (Or.inl ⟨by rfl, ?_⟩) ?_ ?_
     rotate_left
     ·intro w'
      go_simp
      with_reducible rfl
     rotate_left
     ·simp only [Act.put, List.setIfInBounds_toArray, List.set_cons_zero, List.set_cons_succ, i64_w, i32_w]
      rfl
     refine pure_ (i := 10) (N := some 15) (v := ?_) (a' := ?_) (bN 26 2047) rfl rfl (any_of HT_.out (by kernel_rfl)) (fun _ _ _ h => h) (Or.inl ⟨by rfl, ?_⟩) ?_ ?_
     rotate_left
     ·intro w'
      go_simp
      with_reducible rfl
     rotate_left
     ·simp only [Act.put, List.setIfInBounds_toArray, List.set_cons_zero, List.set_cons_succ, i64_w, i32_w]
      rfl
     refine take_ (i := 11) (N := some 16) (v := ?_) (a' := ?_) (bN 26 4095) rfl rfl (take_ofW HT_.out HW_.out (by kernel_rfl)) (fun _ _ _ h => h) (Or.inl ⟨by rfl, ?_⟩) hHeld ?_ ?_
     rotate_left
     ·rintro w' ⟨s0, s1, s2, s3⟩
      go_simp
      with_reducible rfl
     rotate_left
     ·simp only [Act.put, List.setIfInBounds_toArray, List.set_cons_zero, List.set_cons_succ, i64_w, i32_w]
      rfl
     refine take_ (i := 13) (N := some 18) (v := ?_) (a' := ?_) (bN 26 12287) rfl rfl (take_ofW HT_.out HW_.out (by kernel_rfl)) (fun _ _ _ h => h) (Or.inl ⟨by rfl, ?_⟩) hHeld ?_ ?_
     rotate_left
     ·rintro w' ⟨s0, s1, s2, s3⟩
      go_simp
      with_reducible rfl
     rotate_left
     ·simp only [Act.put, List.setIfInBounds_toArray, List.set_cons_zero, List.set_cons_succ, i64_w, i32_w]
      rfl
     refine one_ (i := 12) (N := some 17) (bN 26 16383) rfl rfl (one_of HT_.out (by kernel_rfl)) (by decide) (fun K hK => ?_)
     refine goes_ Try.func30 (by kernel_rfl) rfl #[.agg #[.slice A1_0 l1_0.length c1_0, .slice A1_1 l1_1.length c1_1]] (by rfl) rfl rfl (by (try simp only [List.map_toArray, List.map_cons, List.map_nil]); first | done | rfl) ?_
     refine (rowH_calls A1_0 A1_1 l1_0.length l1_1.length c1_0 c1_1 _).mono ?_
     rintro e w905 ⟨rfl, hb⟩
     refine ⟨_, rfl, ?_⟩
     replace BK101 := sBk BK101 hb
     replace BK102 := sBk BK102 hb
     replace HB := sHb hb
     (try clear hb)
     (try clear hb2)
     (try clear hk)
     (try clear hi)
     refine hK.out _ _ ⟨(blk_cell BK101.out 0).trans rfl, (blk_cell BK101.out 1).trans rfl, (blk_cell BK102.out 0).trans rfl, (blk_cell BK102.out 1).trans rfl⟩ (fun hHeld => ?_)
     clear hK K
     refine norm_ (a' := ?_) ?_ ?_
     rotate_left
     ·show Act.put _ (some 17) _ = _
      simp only [Act.put, List.setIfInBounds_toArray, List.set_cons_zero, List.set_cons_succ, i64_w, i32_w]
      rfl
     refine one_ (i := 14) (N := some 19) (bN 26 32767) rfl rfl (one_of HT_.out (by kernel_rfl)) (by decide) (fun K hK => ?_)
     refine goes_ Try.func34 (by kernel_rfl) rfl #[.agg #[.int .i64 a0_0, .int .i64 a0_1]] (by rfl) rfl rfl (by (try simp only [List.map_toArray, List.map_cons, List.map_nil]); first | done | rfl) ?_
     refine (predH_calls a0_0 a0_1 _).mono ?_
     rintro e w906 ⟨gp906, rfl, hgp, hgw, hb⟩
     have BKP906 := Aside0.mk hgp
     clear hgp hgw
     refine ⟨_, rfl, ?_⟩
     replace BK101 := sBk BK101 hb
     replace BK102 := sBk BK102 hb
     replace HB := sHb hb
     (try clear hb)
     (try clear hb2)
     (try clear hk)
     (try clear hi)
     refine hK.out _ _ ⟨(blk_cell BK101.out 0).trans rfl, (blk_cell BK101.out 1).trans rfl, (blk_cell BK102.out 0).trans rfl, (blk_cell BK102.out 1).trans rfl⟩ (fun hHeld => ?_)
     clear hK K
     refine norm_ (a' := ?_) ?_ ?_
     rotate_left
     ·show Act.put _ (some 19) _ = _
      simp only [Act.put, List.setIfInBounds_toArray, List.set_cons_zero, List.set_cons_succ, i64_w, i32_w]
      rfl
     refine one_ (i := 15) (N := some 20) (bN 26 65535) rfl rfl (one_of HT_.out (by kernel_rfl)) (by decide) (fun K hK => ?_)
     refine goes_ Try.func42 (by kernel_rfl) rfl #[.agg #[.slice A1_0 l1_0.length c1_0, .func (.func 51) #[] #[]], .func (.func 61) #[] #[.pointer (some ⟨gp906, 0, none⟩)]] (by rfl) rfl rfl (by simp only [List.map_toArray, List.map_cons, List.map_nil] <;> rfl) ?_
     with_reducible refine (rightP_H.calls A1_0 c1_0 l1_0 A1_1 c1_1 l1_1 a0_0 a0_1 false _ ?side1 ?side2 ?side3 ?side4 A10.out gp906 BKP906.out).mono ?_
     (case side1 => exact (Kd.C_below HR1_0.out HB.out))
     (case side2 => exact HC1_0.out)
     (case side3 => exact (Kd.C_below HR1_1.out HB.out))
     (case side4 => exact HC1_1.out)
     rintro e w17 ⟨rfl, hb⟩
     refine ⟨_, rfl, ?_⟩
     replace BK101 := sBk BK101 hb
     replace BK102 := sBk BK102 hb
     replace HB := sHb hb
     (try clear hb)
     (try clear hb2)
     (try clear hk)
     (try clear hi)
     refine hK.out _ _ ⟨(blk_cell BK101.out 0).trans rfl, (blk_cell BK101.out 1).trans rfl, (blk_cell BK102.out 0).trans rfl, (blk_cell BK102.out 1).trans rfl⟩ (fun hHeld => ?_)
     clear hK K
     refine norm_ (a' := ?_) ?_ ?_
     rotate_left
     ·show Act.put _ (some 20) _ = _
      simp only [Act.put, List.setIfInBounds_toArray, List.set_cons_zero, List.set_cons_succ, i64_w, i32_w]
      rfl
     refine pure_ (i := 16) (N := some 21) (v := ?_) (a' := ?_) (bN 26 131071) rfl rfl (any_of HT_.out (by kernel_rfl)) (fun _ _ _ h => h) (Or.inl ⟨by rfl, ?_⟩) ?_ ?_
     rotate_left
     ·intro w'
      go_simp
      with_reducible rfl
     rotate_left
     ·simp only [Act.put, List.setIfInBounds_toArray, List.set_cons_zero, List.set_cons_succ, i64_w, i32_w]
      rfl
     refine pure_ (i := 17) (N := some 22) (v := ?_) (a' := ?_) (bN 26 262143) rfl rfl (any_of HT_.out (by kernel_rfl)) (fun _ _ _ h => h) (Or.inl ⟨by rfl, ?_⟩) ?_ ?_
     rotate_left
     ·intro w'
      go_simp
      with_reducible rfl
     rotate_left
     ·simp only [Act.put, List.setIfInBounds_toArray, List.set_cons_zero, List.set_cons_succ, i64_w, i32_w]
      rfl
     refine pure_ (i := 18) (N := some 23) (v := ?_) (a' := ?_) (bN 26 524287) rfl rfl (any_of HT_.out (by kernel_rfl)) (fun _ _ _ h => h) (Or.inl ⟨by rfl, ?_⟩) ?_ ?_
     rotate_left
     ·intro w'
      go_simp
      with_reducible rfl
     rotate_left
     ·simp only [Act.put, List.setIfInBounds_toArray, List.set_cons_zero, List.set_cons_succ, i64_w, i32_w]
      rfl
     refine pure_ (i := 19) (N := some 24) (v := undef) (a' := ?_) (bN 26 1048575) rfl rfl (any_of HT_.out (by kernel_rfl)) (fun _ _ _ h => h) (Or.inr ⟨by rfl, rfl⟩) ?_ ?_
     rotate_left
     ·simp only [Act.put, List.setIfInBounds_toArray, List.set_cons_zero, List.set_cons_succ, i64_w, i32_w]
      rfl
     refine pure_ (i := 20) (N := some 25) (v := undef) (a' := ?_) (bN 26 2097151) rfl rfl (any_of HT_.out (by kernel_rfl)) (fun _ _ _ h => h) (Or.inr ⟨by rfl, rfl⟩) ?_ ?_
     rotate_left
     ·simp only [Act.put, List.setIfInBounds_toArray, List.set_cons_zero, List.set_cons_succ, i64_w, i32_w]
      rfl
     refine pure_ (i := 21) (N := some 26) (v := undef) (a' := ?_) (bN 26 4194303) rfl rfl (any_of HT_.out (by kernel_rfl)) (fun _ _ _ h => h) (Or.inr ⟨by rfl, rfl⟩) ?_ ?_
     rotate_left
     ·simp only [Act.put, List.setIfInBounds_toArray, List.set_cons_zero, List.set_cons_succ, i64_w, i32_w]
      rfl
     refine pure_ (i := 22) (N := some 27) (v := undef) (a' := ?_) (bN 26 8388607) rfl rfl (any_of HT_.out (by kernel_rfl)) (fun _ _ _ h => h) (Or.inr ⟨by rfl, rfl⟩) ?_ ?_
     rotate_left
     ·simp only [Act.put, List.setIfInBounds_toArray, List.set_cons_zero, List.set_cons_succ, i64_w, i32_w]
      rfl
     refine pure_ (i := 23) (N := some 28) (v := undef) (a' := ?_) (bN 26 16777215) rfl rfl (any_of HT_.out (by kernel_rfl)) (fun _ _ _ h => h) (Or.inr ⟨by rfl, rfl⟩) ?_ ?_
     rotate_left
     ·simp only [Act.put, List.setIfInBounds_toArray, List.set_cons_zero, List.set_cons_succ, i64_w, i32_w]
      rfl
     refine pure_ (i := 24) (N := some 29) (v := undef) (a' := ?_) (bN 26 33554431) rfl rfl (any_of HT_.out (by kernel_rfl)) (fun _ _ _ h => h) (Or.inr ⟨by rfl, rfl⟩) ?_ ?_
     rotate_left
     ·simp only [Act.put, List.setIfInBounds_toArray, List.set_cons_zero, List.set_cons_succ, i64_w, i32_w]
      rfl
     refine pure_ (i := 25) (N := some 30) (v := ?_) (a' := ?_) (bN 26 67108863) rfl rfl (any_of HT_.out (by kernel_rfl)) (fun _ _ _ h => h) (Or.inl ⟨by rfl, ?_⟩) ?_ ?_
     rotate_left
     ·intro w'
      go_simp
      with_reducible rfl
     rotate_left
     ·simp only [Act.put, List.setIfInBounds_toArray, List.set_cons_zero, List.set_cons_succ, i64_w, i32_w]
      rfl
     refine done_ (done_of HT_.out (by kernel_rfl)) ?_
     try go_wp2
     go_meet
     case rel => exact ⟨_, (true), rfl, H', ⟨by first | omega | exact Nat.le_refl _⟩, BK101, BK102, HB⟩
   ·replace c9 := Bool.eq_false_iff.mpr c9
    subst c9
    have H1 : (call_Check.j0 k true) = some r := by rw [if_neg (show ¬ (false = true) by decide)] at H; exact H
    clear H
    have H := H1
    clear H1
    have H' := Aside0.mk H
    clear H
    try go_wp2
    replace BK101 := Aside0.mk (blk_drew BK101.out)
    replace BK102 := Aside0.mk (blk_drew BK102.out)
    replace HB := Aside0.mk (below_drew1 HB.out)
    refine start_ (n := 26) (S := fun w' => w'.cell? ⟨gb101, 0, none⟩ = some (.int .i64 a0_0) ∧ w'.cell? ⟨gb101, 1, none⟩ = some (.int .i64 a0_1)) (ds := []) #[false, false, false, false, false, false, false, false, false, false, false, false, false, false, false, false, false, false, false, false, false, false, false, false, false, false] (by kernel_rfl) rfl rfl ⟨(blk_cell BK101.out 0).trans rfl, (blk_cell BK101.out 1).trans rfl⟩ (fun hHeld => ?_); refine with_tabW call_Check.tab1 call_Check.bits1 (fun HT_ HW_ => ?_)
    generalize w5.drew = w18 at BK101 BK102 HB hHeld ⊢
    refine pure_ (i := 0) (N := some 5) (v := ?_) (a' := ?_) (bN 26 1) rfl rfl (any_of HT_.out (by kernel_rfl)) (fun _ _ _ h => h) (Or.inl ⟨by rfl, ?_⟩) ?_ ?_
    rotate_left
    ·intro w'
     go_simp
     with_reducible rfl
    rotate_left
    ·simp only [Act.put, List.setIfInBounds_toArray, List.set_cons_zero, List.set_cons_succ, i64_w, i32_w]
     rfl
    refine take_ (i := 1) (N := some 6) (v := ?_) (a' := ?_) (bN 26 3) rfl rfl (take_ofW HT_.out HW_.out (by kernel_rfl)) (fun _ _ _ h => h) (Or.inl ⟨by rfl, ?_⟩) hHeld ?_ ?_
    rotate_left
    ·rintro w' ⟨s0, s1⟩
     go_simp
     with_reducible rfl
    rotate_left
    ·simp only [Act.put, List.setIfInBounds_toArray, List.set_cons_zero, List.set_cons_succ, i64_w, i32_w]
     rfl
    refine one_ (i := 2) (N := some 7) (bN 26 7) rfl rfl (one_of HT_.out (by kernel_rfl)) (by decide) (fun K hK => ?_)
    refine goes_ Try.func41 (by kernel_rfl) rfl #[.int .i64 a0_0, .int .i64 2, .int .i64 64] (by rfl) rfl rfl (by simp only [List.map_toArray, List.map_cons, List.map_nil] <;> rfl) ?_
    with_reducible refine (call_within.calls a0_0 2 64 true _ A6.out).mono ?_
    rintro e w' ⟨rfl, ⟨nd, rfl⟩⟩
    refine ⟨_, rfl, ?_⟩
    refine hK.out _ _ ⟨(blk_cell BK101.out 0).trans rfl, (blk_cell BK101.out 1).trans rfl⟩ (fun hHeld => ?_)
    clear hK K
    refine norm_ (a' := ?_) ?_ ?_
    rotate_left
    ·show Act.put _ (some 7) _ = _
     simp only [Act.put, List.setIfInBounds_toArray, List.set_cons_zero, List.set_cons_succ, i64_w, i32_w]
     rfl
    refine pure_ (i := 3) (N := some 8) (v := ?_) (a' := ?_) (bN 26 15) rfl rfl (any_of HT_.out (by kernel_rfl)) (fun _ _ _ h => h) (Or.inl ⟨by rfl, ?_⟩) ?_ ?_
    rotate_left
    ·intro w'
     go_simp
     with_reducible rfl
    rotate_left
    ·simp only [Act.put, List.setIfInBounds_toArray, List.set_cons_zero, List.set_cons_succ, i64_w, i32_w]
     rfl
    refine pure_ (i := 4) (N := some 9) (v := ?_) (a' := ?_) (bN 26 31) rfl rfl (any_of HT_.out (by kernel_rfl)) (fun _ _ _ h => h) (Or.inl ⟨by rfl, ?_⟩) ?_ ?_
    rotate_left
    ·intro w'
     go_simp
     with_reducible rfl
    rotate_left
    ·simp only [Act.put, List.setIfInBounds_toArray, List.set_cons_zero, List.set_cons_succ, i64_w, i32_w]
     rfl
    refine pure_ (i := 5) (N := some 10) (v := ?_) (a' := ?_) (bN 26 63) rfl rfl (any_of HT_.out (by kernel_rfl)) (fun _ _ _ h => h) (Or.inl ⟨by rfl, ?_⟩) ?_ ?_
    rotate_left
    ·intro w'
     go_simp
     with_reducible rfl
    rotate_left
    ·simp only [Act.put, List.setIfInBounds_toArray, List.set_cons_zero, List.set_cons_succ, i64_w, i32_w]
     rfl
    refine take_ (i := 6) (N := some 11) (v := ?_) (a' := ?_) (bN 26 127) rfl rfl (take_ofW HT_.out HW_.out (by kernel_rfl)) (fun _ _ _ h => h) (Or.inl ⟨by rfl, ?_⟩) hHeld ?_ ?_
    rotate_left
    ·rintro w' ⟨s0, s1⟩
     go_simp
     with_reducible rfl
    rotate_left
    ·simp only [Act.put, List.setIfInBounds_toArray, List.set_cons_zero, List.set_cons_succ, i64_w, i32_w]
     rfl
    refine one_ (i := 7) (N := some 12) (bN 26 255) rfl rfl (one_of HT_.out (by kernel_rfl)) (by decide) (fun K hK => ?_)
    refine goes_ Try.func41 (by kernel_rfl) rfl #[.int .i64 a0_1, .int .i64 1, .int .i64 8] (by rfl) rfl rfl (by simp only [List.map_toArray, List.map_cons, List.map_nil] <;> rfl) ?_
    with_reducible refine (call_within.calls a0_1 1 8 false _ A8.out).mono ?_
    rintro e w' ⟨rfl, ⟨nd, rfl⟩⟩
    refine ⟨_, rfl, ?_⟩
    refine hK.out _ _ ⟨(blk_cell BK101.out 0).trans rfl, (blk_cell BK101.out 1).trans rfl⟩ (fun hHeld => ?_)
    clear hK K
    refine norm_ (a' := ?_) ?_ ?_
    rotate_left
    ·show Act.put _ (some 12) _ = _
     simp only [Act.put, List.setIfInBounds_toArray, List.set_cons_zero, List.set_cons_succ, i64_w, i32_w]
     rfl
    refine pure_ (i := 8) (N := some 13) (v := ?_) (a' := ?_) (bN 26 511) rfl rfl (any_of HT_.out (by kernel_rfl)) (fun _ _ _ h => h) (Or.inl ⟨by rfl, ?_⟩) ?_ ?_
    rotate_left
    ·intro w'
     go_simp
     with_reducible rfl
    rotate_left
    ·simp only [Act.put, List.setIfInBounds_toArray, List.set_cons_zero, List.set_cons_succ, i64_w, i32_w]
     rfl
    refine pure_ (i := 9) (N := some 14) (v := ?_) (a' := ?_) (bN 26 1023) rfl rfl (any_of HT_.out (by kernel_rfl)) (fun _ _ _ h => h) (Or.inl ⟨by rfl, ?_⟩) ?_ ?_
    rotate_left
    ·intro w'
     go_simp
     with_reducible rfl
    rotate_left
    ·simp only [Act.put, List.setIfInBounds_toArray, List.set_cons_zero, List.set_cons_succ, i64_w, i32_w]
     rfl
    refine pure_ (i := 10) (N := some 15) (v := ?_) (a' := ?_) (bN 26 2047) rfl rfl (any_of HT_.out (by kernel_rfl)) (fun _ _ _ h => h) (Or.inl ⟨by rfl, ?_⟩) ?_ ?_
    rotate_left
    ·intro w'
     go_simp
     with_reducible rfl
    rotate_left
    ·simp only [Act.put, List.setIfInBounds_toArray, List.set_cons_zero, List.set_cons_succ, i64_w, i32_w]
     rfl
    refine pure_ (i := 11) (N := some 16) (v := undef) (a' := ?_) (bN 26 4095) rfl rfl (any_of HT_.out (by kernel_rfl)) (fun _ _ _ h => h) (Or.inr ⟨by rfl, rfl⟩) ?_ ?_
    rotate_left
    ·simp only [Act.put, List.setIfInBounds_toArray, List.set_cons_zero, List.set_cons_succ, i64_w, i32_w]
     rfl
    refine pure_ (i := 12) (N := some 17) (v := undef) (a' := ?_) (bN 26 8191) rfl rfl (any_of HT_.out (by kernel_rfl)) (fun _ _ _ h => h) (Or.inr ⟨by rfl, rfl⟩) ?_ ?_
    rotate_left
    ·simp only [Act.put, List.setIfInBounds_toArray, List.set_cons_zero, List.set_cons_succ, i64_w, i32_w]
     rfl
    refine pure_ (i := 13) (N := some 18) (v := undef) (a' := ?_) (bN 26 16383) rfl rfl (any_of HT_.out (by kernel_rfl)) (fun _ _ _ h => h) (Or.inr ⟨by rfl, rfl⟩) ?_ ?_
    rotate_left
    ·simp only [Act.put, List.setIfInBounds_toArray, List.set_cons_zero, List.set_cons_succ, i64_w, i32_w]
     rfl
    refine pure_ (i := 14) (N := some 19) (v := undef) (a' := ?_) (bN 26 32767) rfl rfl (any_of HT_.out (by kernel_rfl)) (fun _ _ _ h => h) (Or.inr ⟨by rfl, rfl⟩) ?_ ?_
    rotate_left
    ·simp only [Act.put, List.setIfInBounds_toArray, List.set_cons_zero, List.set_cons_succ, i64_w, i32_w]
     rfl
    refine pure_ (i := 15) (N := some 20) (v := undef) (a' := ?_) (bN 26 65535) rfl rfl (any_of HT_.out (by kernel_rfl)) (fun _ _ _ h => h) (Or.inr ⟨by rfl, rfl⟩) ?_ ?_
    rotate_left
    ·simp only [Act.put, List.setIfInBounds_toArray, List.set_cons_zero, List.set_cons_succ, i64_w, i32_w]
     rfl
    refine pure_ (i := 16) (N := some 21) (v := undef) (a' := ?_) (bN 26 131071) rfl rfl (any_of HT_.out (by kernel_rfl)) (fun _ _ _ h => h) (Or.inr ⟨by rfl, rfl⟩) ?_ ?_
    rotate_left
    ·simp only [Act.put, List.setIfInBounds_toArray, List.set_cons_zero, List.set_cons_succ, i64_w, i32_w]
     rfl
    refine pure_ (i := 17) (N := some 22) (v := ?_) (a' := ?_) (bN 26 262143) rfl rfl (any_of HT_.out (by kernel_rfl)) (fun _ _ _ h => h) (Or.inl ⟨by rfl, ?_⟩) ?_ ?_
    rotate_left
    ·intro w'
     go_simp
     with_reducible rfl
    rotate_left
    ·simp only [Act.put, List.setIfInBounds_toArray, List.set_cons_zero, List.set_cons_succ, i64_w, i32_w]
     rfl
    refine pure_ (i := 18) (N := some 23) (v := ?_) (a' := ?_) (bN 26 524287) rfl rfl (any_of HT_.out (by kernel_rfl)) (fun _ _ _ h => h) (Or.inl ⟨by rfl, ?_⟩) ?_ ?_
    rotate_left
    ·intro w'
     go_simp
     with_reducible rfl
    rotate_left
    ·simp only [Act.put, List.setIfInBounds_toArray, List.set_cons_zero, List.set_cons_succ, i64_w, i32_w]
     rfl
    refine pure_ (i := 19) (N := some 24) (v := undef) (a' := ?_) (bN 26 1048575) rfl rfl (any_of HT_.out (by kernel_rfl)) (fun _ _ _ h => h) (Or.inr ⟨by rfl, rfl⟩) ?_ ?_
    rotate_left
    ·simp only [Act.put, List.setIfInBounds_toArray, List.set_cons_zero, List.set_cons_succ, i64_w, i32_w]
     rfl
    refine pure_ (i := 20) (N := some 25) (v := undef) (a' := ?_) (bN 26 2097151) rfl rfl (any_of HT_.out (by kernel_rfl)) (fun _ _ _ h => h) (Or.inr ⟨by rfl, rfl⟩) ?_ ?_
    rotate_left
    ·simp only [Act.put, List.setIfInBounds_toArray, List.set_cons_zero, List.set_cons_succ, i64_w, i32_w]
     rfl
    refine pure_ (i := 21) (N := some 26) (v := undef) (a' := ?_) (bN 26 4194303) rfl rfl (any_of HT_.out (by kernel_rfl)) (fun _ _ _ h => h) (Or.inr ⟨by rfl, rfl⟩) ?_ ?_
    rotate_left
    ·simp only [Act.put, List.setIfInBounds_toArray, List.set_cons_zero, List.set_cons_succ, i64_w, i32_w]
     rfl
    refine pure_ (i := 22) (N := some 27) (v := undef) (a' := ?_) (bN 26 8388607) rfl rfl (any_of HT_.out (by kernel_rfl)) (fun _ _ _ h => h) (Or.inr ⟨by rfl, rfl⟩) ?_ ?_
    rotate_left
    ·simp only [Act.put, List.setIfInBounds_toArray, List.set_cons_zero, List.set_cons_succ, i64_w, i32_w]
     rfl
    refine pure_ (i := 23) (N := some 28) (v := undef) (a' := ?_) (bN 26 16777215) rfl rfl (any_of HT_.out (by kernel_rfl)) (fun _ _ _ h => h) (Or.inr ⟨by rfl, rfl⟩) ?_ ?_
    rotate_left
    ·simp only [Act.put, List.setIfInBounds_toArray, List.set_cons_zero, List.set_cons_succ, i64_w, i32_w]
     rfl
    refine pure_ (i := 24) (N := some 29) (v := undef) (a' := ?_) (bN 26 33554431) rfl rfl (any_of HT_.out (by kernel_rfl)) (fun _ _ _ h => h) (Or.inr ⟨by rfl, rfl⟩) ?_ ?_
    rotate_left
    ·simp only [Act.put, List.setIfInBounds_toArray, List.set_cons_zero, List.set_cons_succ, i64_w, i32_w]
     rfl
    refine pure_ (i := 25) (N := some 30) (v := ?_) (a' := ?_) (bN 26 67108863) rfl rfl (any_of HT_.out (by kernel_rfl)) (fun _ _ _ h => h) (Or.inl ⟨by rfl, ?_⟩) ?_ ?_
    rotate_left
    ·intro w'
     go_simp
     with_reducible rfl
    rotate_left
    ·simp only [Act.put, List.setIfInBounds_toArray, List.set_cons_zero, List.set_cons_succ, i64_w, i32_w]
     rfl
    refine done_ (done_of HT_.out (by kernel_rfl)) ?_
    try go_wp2
    go_meet
    case rel => exact ⟨_, (true), (by first | rfl | (simp; done) | (simp [*]; done)), H', ⟨by first | omega | exact Nat.le_refl _⟩, ⟨bka BK101⟩, ⟨bka BK102⟩, ⟨bel⟩⟩
  ·replace c7 := Bool.eq_false_iff.mpr c7
   subst c7
   have H1 : (call_Check.j0 k true) = some r := by rw [if_neg (show ¬ (false = true) by decide)] at H; exact H
   clear H
   have H := H1
   clear H1
   have H' := Aside0.mk H
   clear H
   try go_wp2
   replace BK101 := Aside0.mk (blk_drew BK101.out)
   replace BK102 := Aside0.mk (blk_drew BK102.out)
   replace HB := Aside0.mk (below_drew1 HB.out)
   refine start_ (n := 26) (S := fun w' => w'.cell? ⟨gb101, 0, none⟩ = some (.int .i64 a0_0) ∧ w'.cell? ⟨gb101, 1, none⟩ = some (.int .i64 a0_1)) (ds := []) #[false, false, false, false, false, false, false, false, false, false, false, false, false, false, false, false, false, false, false, false, false, false, false, false, false, false] (by kernel_rfl) rfl rfl ⟨(blk_cell BK101.out 0).trans rfl, (blk_cell BK101.out 1).trans rfl⟩ (fun hHeld => ?_); refine with_tabW call_Check.tab1 call_Check.bits1 (fun HT_ HW_ => ?_)
   generalize w5.drew = w19 at BK101 BK102 HB hHeld ⊢
   refine pure_ (i := 0) (N := some 5) (v := ?_) (a' := ?_) (bN 26 1) rfl rfl (any_of HT_.out (by kernel_rfl)) (fun _ _ _ h => h) (Or.inl ⟨by rfl, ?_⟩) ?_ ?_
   rotate_left
   ·intro w'
    go_simp
    with_reducible rfl
   rotate_left
   ·simp only [Act.put, List.setIfInBounds_toArray, List.set_cons_zero, List.set_cons_succ, i64_w, i32_w]
    rfl
   refine take_ (i := 1) (N := some 6) (v := ?_) (a' := ?_) (bN 26 3) rfl rfl (take_ofW HT_.out HW_.out (by kernel_rfl)) (fun _ _ _ h => h) (Or.inl ⟨by rfl, ?_⟩) hHeld ?_ ?_
   rotate_left
   ·rintro w' ⟨s0, s1⟩
    go_simp
    with_reducible rfl
   rotate_left
   ·simp only [Act.put, List.setIfInBounds_toArray, List.set_cons_zero, List.set_cons_succ, i64_w, i32_w]
    rfl
   refine one_ (i := 2) (N := some 7) (bN 26 7) rfl rfl (one_of HT_.out (by kernel_rfl)) (by decide) (fun K hK => ?_)
   refine goes_ Try.func41 (by kernel_rfl) rfl #[.int .i64 a0_0, .int .i64 2, .int .i64 64] (by rfl) rfl rfl (by simp only [List.map_toArray, List.map_cons, List.map_nil] <;> rfl) ?_
   with_reducible refine (call_within.calls a0_0 2 64 false _ A6.out).mono ?_
   rintro e w' ⟨rfl, ⟨nd, rfl⟩⟩
   refine ⟨_, rfl, ?_⟩
   refine hK.out _ _ ⟨(blk_cell BK101.out 0).trans rfl, (blk_cell BK101.out 1).trans rfl⟩ (fun hHeld => ?_)
   clear hK K
   refine norm_ (a' := ?_) ?_ ?_
   rotate_left
   ·show Act.put _ (some 7) _ = _
    simp only [Act.put, List.setIfInBounds_toArray, List.set_cons_zero, List.set_cons_succ, i64_w, i32_w]
    rfl
   refine pure_ (i := 3) (N := some 8) (v := ?_) (a' := ?_) (bN 26 15) rfl rfl (any_of HT_.out (by kernel_rfl)) (fun _ _ _ h => h) (Or.inl ⟨by rfl, ?_⟩) ?_ ?_
   rotate_left
   ·intro w'
    go_simp
    with_reducible rfl
   rotate_left
   ·simp only [Act.put, List.setIfInBounds_toArray, List.set_cons_zero, List.set_cons_succ, i64_w, i32_w]
    rfl
   refine pure_ (i := 4) (N := some 9) (v := ?_) (a' := ?_) (bN 26 31) rfl rfl (any_of HT_.out (by kernel_rfl)) (fun _ _ _ h => h) (Or.inl ⟨by rfl, ?_⟩) ?_ ?_
   rotate_left
   ·intro w'
    go_simp
    with_reducible rfl
   rotate_left
   ·simp only [Act.put, List.setIfInBounds_toArray, List.set_cons_zero, List.set_cons_succ, i64_w, i32_w]
    rfl
   refine pure_ (i := 5) (N := some 10) (v := undef) (a' := ?_) (bN 26 63) rfl rfl (any_of HT_.out (by kernel_rfl)) (fun _ _ _ h => h) (Or.inr ⟨by rfl, rfl⟩) ?_ ?_
   rotate_left
   ·simp only [Act.put, List.setIfInBounds_toArray, List.set_cons_zero, List.set_cons_succ, i64_w, i32_w]
    rfl
   refine pure_ (i := 6) (N := some 11) (v := undef) (a' := ?_) (bN 26 127) rfl rfl (any_of HT_.out (by kernel_rfl)) (fun _ _ _ h => h) (Or.inr ⟨by rfl, rfl⟩) ?_ ?_
   rotate_left
   ·simp only [Act.put, List.setIfInBounds_toArray, List.set_cons_zero, List.set_cons_succ, i64_w, i32_w]
    rfl
   refine pure_ (i := 7) (N := some 12) (v := undef) (a' := ?_) (bN 26 255) rfl rfl (any_of HT_.out (by kernel_rfl)) (fun _ _ _ h => h) (Or.inr ⟨by rfl, rfl⟩) ?_ ?_
   rotate_left
   ·simp only [Act.put, List.setIfInBounds_toArray, List.set_cons_zero, List.set_cons_succ, i64_w, i32_w]
    rfl
   refine pure_ (i := 8) (N := some 13) (v := undef) (a' := ?_) (bN 26 511) rfl rfl (any_of HT_.out (by kernel_rfl)) (fun _ _ _ h => h) (Or.inr ⟨by rfl, rfl⟩) ?_ ?_
   rotate_left
   ·simp only [Act.put, List.setIfInBounds_toArray, List.set_cons_zero, List.set_cons_succ, i64_w, i32_w]
    rfl
   refine pure_ (i := 9) (N := some 14) (v := ?_) (a' := ?_) (bN 26 1023) rfl rfl (any_of HT_.out (by kernel_rfl)) (fun _ _ _ h => h) (Or.inl ⟨by rfl, ?_⟩) ?_ ?_
   rotate_left
   ·intro w'
    go_simp
    with_reducible rfl
   rotate_left
   ·simp only [Act.put, List.setIfInBounds_toArray, List.set_cons_zero, List.set_cons_succ, i64_w, i32_w]
    rfl
   refine pure_ (i := 10) (N := some 15) (v := ?_) (a' := ?_) (bN 26 2047) rfl rfl (any_of HT_.out (by kernel_rfl)) (fun _ _ _ h => h) (Or.inl ⟨by rfl, ?_⟩) ?_ ?_
   rotate_left
   ·intro w'
    go_simp
    with_reducible rfl
   rotate_left
   ·simp only [Act.put, List.setIfInBounds_toArray, List.set_cons_zero, List.set_cons_succ, i64_w, i32_w]
    rfl
   refine pure_ (i := 11) (N := some 16) (v := undef) (a' := ?_) (bN 26 4095) rfl rfl (any_of HT_.out (by kernel_rfl)) (fun _ _ _ h => h) (Or.inr ⟨by rfl, rfl⟩) ?_ ?_
   rotate_left
   ·simp only [Act.put, List.setIfInBounds_toArray, List.set_cons_zero, List.set_cons_succ, i64_w, i32_w]
    rfl
   refine pure_ (i := 12) (N := some 17) (v := undef) (a' := ?_) (bN 26 8191) rfl rfl (any_of HT_.out (by kernel_rfl)) (fun _ _ _ h => h) (Or.inr ⟨by rfl, rfl⟩) ?_ ?_
   rotate_left
   ·simp only [Act.put, List.setIfInBounds_toArray, List.set_cons_zero, List.set_cons_succ, i64_w, i32_w]
    rfl
   refine pure_ (i := 13) (N := some 18) (v := undef) (a' := ?_) (bN 26 16383) rfl rfl (any_of HT_.out (by kernel_rfl)) (fun _ _ _ h => h) (Or.inr ⟨by rfl, rfl⟩) ?_ ?_
   rotate_left
   ·simp only [Act.put, List.setIfInBounds_toArray, List.set_cons_zero, List.set_cons_succ, i64_w, i32_w]
    rfl
   refine pure_ (i := 14) (N := some 19) (v := undef) (a' := ?_) (bN 26 32767) rfl rfl (any_of HT_.out (by kernel_rfl)) (fun _ _ _ h => h) (Or.inr ⟨by rfl, rfl⟩) ?_ ?_
   rotate_left
   ·simp only [Act.put, List.setIfInBounds_toArray, List.set_cons_zero, List.set_cons_succ, i64_w, i32_w]
    rfl
   refine pure_ (i := 15) (N := some 20) (v := undef) (a' := ?_) (bN 26 65535) rfl rfl (any_of HT_.out (by kernel_rfl)) (fun _ _ _ h => h) (Or.inr ⟨by rfl, rfl⟩) ?_ ?_
   rotate_left
   ·simp only [Act.put, List.setIfInBounds_toArray, List.set_cons_zero, List.set_cons_succ, i64_w, i32_w]
    rfl
   refine pure_ (i := 16) (N := some 21) (v := undef) (a' := ?_) (bN 26 131071) rfl rfl (any_of HT_.out (by kernel_rfl)) (fun _ _ _ h => h) (Or.inr ⟨by rfl, rfl⟩) ?_ ?_
   rotate_left
   ·simp only [Act.put, List.setIfInBounds_toArray, List.set_cons_zero, List.set_cons_succ, i64_w, i32_w]
    rfl
   refine pure_ (i := 17) (N := some 22) (v := ?_) (a' := ?_) (bN 26 262143) rfl rfl (any_of HT_.out (by kernel_rfl)) (fun _ _ _ h => h) (Or.inl ⟨by rfl, ?_⟩) ?_ ?_
   rotate_left
   ·intro w'
    go_simp
    with_reducible rfl
   rotate_left
   ·simp only [Act.put, List.setIfInBounds_toArray, List.set_cons_zero, List.set_cons_succ, i64_w, i32_w]
    rfl
   refine pure_ (i := 18) (N := some 23) (v := ?_) (a' := ?_) (bN 26 524287) rfl rfl (any_of HT_.out (by kernel_rfl)) (fun _ _ _ h => h) (Or.inl ⟨by rfl, ?_⟩) ?_ ?_
   rotate_left
   ·intro w'
    go_simp
    with_reducible rfl
   rotate_left
   ·simp only [Act.put, List.setIfInBounds_toArray, List.set_cons_zero, List.set_cons_succ, i64_w, i32_w]
    rfl
   refine pure_ (i := 19) (N := some 24) (v := undef) (a' := ?_) (bN 26 1048575) rfl rfl (any_of HT_.out (by kernel_rfl)) (fun _ _ _ h => h) (Or.inr ⟨by rfl, rfl⟩) ?_ ?_
   rotate_left
   ·simp only [Act.put, List.setIfInBounds_toArray, List.set_cons_zero, List.set_cons_succ, i64_w, i32_w]
    rfl
   refine pure_ (i := 20) (N := some 25) (v := undef) (a' := ?_) (bN 26 2097151) rfl rfl (any_of HT_.out (by kernel_rfl)) (fun _ _ _ h => h) (Or.inr ⟨by rfl, rfl⟩) ?_ ?_
   rotate_left
   ·simp only [Act.put, List.setIfInBounds_toArray, List.set_cons_zero, List.set_cons_succ, i64_w, i32_w]
    rfl
   refine pure_ (i := 21) (N := some 26) (v := undef) (a' := ?_) (bN 26 4194303) rfl rfl (any_of HT_.out (by kernel_rfl)) (fun _ _ _ h => h) (Or.inr ⟨by rfl, rfl⟩) ?_ ?_
   rotate_left
   ·simp only [Act.put, List.setIfInBounds_toArray, List.set_cons_zero, List.set_cons_succ, i64_w, i32_w]
    rfl
   refine pure_ (i := 22) (N := some 27) (v := undef) (a' := ?_) (bN 26 8388607) rfl rfl (any_of HT_.out (by kernel_rfl)) (fun _ _ _ h => h) (Or.inr ⟨by rfl, rfl⟩) ?_ ?_
   rotate_left
   ·simp only [Act.put, List.setIfInBounds_toArray, List.set_cons_zero, List.set_cons_succ, i64_w, i32_w]
    rfl
   refine pure_ (i := 23) (N := some 28) (v := undef) (a' := ?_) (bN 26 16777215) rfl rfl (any_of HT_.out (by kernel_rfl)) (fun _ _ _ h => h) (Or.inr ⟨by rfl, rfl⟩) ?_ ?_
   rotate_left
   ·simp only [Act.put, List.setIfInBounds_toArray, List.set_cons_zero, List.set_cons_succ, i64_w, i32_w]
    rfl
   refine pure_ (i := 24) (N := some 29) (v := undef) (a' := ?_) (bN 26 33554431) rfl rfl (any_of HT_.out (by kernel_rfl)) (fun _ _ _ h => h) (Or.inr ⟨by rfl, rfl⟩) ?_ ?_
   rotate_left
   ·simp only [Act.put, List.setIfInBounds_toArray, List.set_cons_zero, List.set_cons_succ, i64_w, i32_w]
    rfl
   refine pure_ (i := 25) (N := some 30) (v := ?_) (a' := ?_) (bN 26 67108863) rfl rfl (any_of HT_.out (by kernel_rfl)) (fun _ _ _ h => h) (Or.inl ⟨by rfl, ?_⟩) ?_ ?_
   rotate_left
   ·intro w'
    go_simp
    with_reducible rfl
   rotate_left
   ·simp only [Act.put, List.setIfInBounds_toArray, List.set_cons_zero, List.set_cons_succ, i64_w, i32_w]
    rfl
   refine done_ (done_of HT_.out (by kernel_rfl)) ?_
   try go_wp2
   go_meet
   case rel => exact ⟨_, (true), (by first | rfl | (simp; done) | (simp [*]; done)), H', ⟨by first | omega | exact Nat.le_refl _⟩, ⟨bka BK101⟩, ⟨bka BK102⟩, ⟨bel⟩⟩
 case rest =>
  clear HC3
  try clear c1
  try clear p2
  try clear c4
  try clear c7
  try clear c9
  obtain ⟨kq, x30_2, rfl, HA, HJ2, BK101, BK102, HB⟩ := hcut
  cases kq with
  | zero => exact absurd HA.out (by simp [call_Check.j0])
  | succ kj2 =>
   have H := HA.out
   clear HA
   simp only [call_Check.j0] at H
   by_cases c20 : x30_2 = true
   ·subst c20
    have H1 : (some 190) = some r := by rw [if_pos rfl] at H; exact H
    clear H
    have H := H1
    clear H1
    obtain rfl := Option.some.inj H
    go_wp2
    go_ret
    exact ⟨rfl, HB.out⟩
   ·replace c20 := Bool.eq_false_iff.mpr c20
    subst c20
    have H1 : (some 0) = some r := by rw [if_neg (show ¬ (false = true) by decide)] at H; exact H
    clear H
    have H := H1
    clear H1
    obtain rfl := Option.some.inj H
    go_wp2
    go_ret
    exact ⟨rfl, HB.out⟩
end Go.Proofs.Ytjehhhlhalkieaa.C
namespace Go.Proofs.Ytjehhhlhalkieaa.C
open Go.RowKit Go.Proofs.YtjehhhlhalkieaaW.PrintWords Go.Proofs.YtjehhhlhalkieaaW.PrintLast Go.Proofs.YtjehhhlhalkieaaW.PrintMore
attribute [local go_sem] max2_int min2_int max_two min_two max_three min_three max_four min_four
set_option linter.unusedVariables false
set_option linter.unusedSimpArgs false
def call_change.f (U_ : Option (List S56)) (I_ : Option (List S62)) (k : Nat) (a0_0 : Int) (a0_1 : Int) (l1_0 : List (S56)) (l1_1 : List (S62)) (a2 : Bool) (a3 : Int) (a4_0 : Int) (a4_1 : Int) (a4_2 : Int) (a5 : Int) (a6_0 : Int) (a6_1 : Int) : Option ((List (S56)) × (List (S62)) × Int) := (call_Check.f k a0_0 a0_1 l1_0 l1_1).bind fun t106 => (if t106 = 0 then (if a2 = true then ((U_).bind fun t107 => ((I_).bind fun t110 => (some (t107, t110, 0)))) else (some (([] : List (S56)), ([] : List (S62)), 191))) else (some (([] : List (S56)), ([] : List (S62)), t106)))
theorem call_change.mono : ∀ U_ I_ a0 a1 a2 a3 a4 a5 a6 a7 a8 a9 a10 a11 k, LeO (call_change.f U_ I_ k a0 a1 a2 a3 a4 a5 a6 a7 a8 a9 a10 a11) (call_change.f U_ I_ (k + 1) a0 a1 a2 a3 a4 a5 a6 a7 a8 a9 a10 a11) := by
 intro U_ I_ a0 a1 a2 a3 a4 a5 a6 a7 a8 a9 a10 a11 k
 unfold call_change.f
 repeat' first
   | (with_reducible exact call_Check.mono _ _ _ _ _)
   | (with_reducible exact LeO.refl _)
   | (with_reducible exact LeO.none _)
   | (with_reducible refine LeO.ite ?_ ?_)
   | (with_reducible refine LeO.bind ?_ (fun _ => ?_))
   | exact call_Check.mono _ _ _ _ _
   | exact LeO.none _
   | refine LeO.ite ?_ ?_
   | refine LeO.bind ?_ (fun _ => ?_)
def call_change.T6 : Bool × List (List Nat × List Nat) := (true, [([], []), ([], []), ([0, 1], [0, 1]), ([], []), ([], []), ([3, 4, 2], [3, 4]), ([2, 5], [2, 5]), ([6, 5, 0, 1, 2, 3, 4, 5, 6], [6]), ([7, 0, 1, 2, 3, 4, 5, 6, 7], [])])
def call_change.B6 : List Nat := [0, 0, 3, 0, 0, 31, 63, 127, 255]
theorem call_change.tab6 : rtab .any (opsOf Try.f28 6) = call_change.T6 := by kernel_rfl
theorem call_change.bits6 : waitsOk call_change.T6.2 call_change.B6 = true := by kernel_rfl
set_option maxHeartbeats 8000000 in
set_option maxRecDepth 100000 in
theorem call_change.calls (U_ : Option (List S56)) (I_ : Option (List S62)) (k : Nat) (a0_0 : Int) (a0_1 : Int) (A1_0 : Option Addr) (c1_0 : Nat) (l1_0 : List (S56)) (A1_1 : Option Addr) (c1_1 : Nat) (l1_1 : List (S62)) (a2 : Bool) (a3 : Int) (a4_0 : Int) (a4_1 : Int) (a4_2 : Int) (a5 : Int) (a6_0 : Int) (a6_1 : Int) (r1 : List (S56)) (r2 : List (S62)) (r3 : Int) (w : World) (hr1_0 : Kd.C k56 w A1_0 l1_0.length l1_0) (hc1_0 : l1_0.length ≤ c1_0) (hr1_1 : Kd.C k62 w A1_1 l1_1.length l1_1) (hc1_1 : l1_1.length ≤ c1_1) (h : call_change.f U_ I_ k a0_0 a0_1 l1_0 l1_1 a2 a3 a4_0 a4_1 a4_2 a5 a6_0 a6_1 = some (r1, r2, r3)) (fu_ : FuncId) (fnu_ : Func) (ru_ : Value) (hfu_ : Try.prog.funcs[fu_]? = some fnu_) (hnu_ : (fnu_.name == "runtime.NumGoroutine") = false) (hbu_ : fnu_.body.isSome = true) (hu_ : ∀ (W : World) (t : List S56), U_ = some t → Below w.heap.size w W → Calls Try.prog fu_ #[ru_, .agg #[.int .i64 a4_0, .int .i64 a4_1, .int .i64 a4_2]] W fun e w' => ∃ v0_ : Value, e = .returned v0_ ∧ Kd.R k56 56 w' W.heap.size (fun _ => True) v0_ t ∧ Below W.heap.size W w') (fi_ : FuncId) (fni_ : Func) (ri_ : Value) (hfi_ : Try.prog.funcs[fi_]? = some fni_) (hni_ : (fni_.name == "runtime.NumGoroutine") = false) (hbi_ : fni_.body.isSome = true) (hi_ : ∀ (W : World) (t : List S62), I_ = some t → Below w.heap.size w W → Calls Try.prog fi_ #[ri_, .agg #[.int .i64 a6_0, .int .i64 a6_1]] W fun e w' => ∃ v0_ : Value, e = .returned v0_ ∧ Kd.R k62 62 w' W.heap.size (fun _ => True) v0_ t ∧ Below W.heap.size W w') :
  Calls Try.prog 28 #[.agg #[.int .i64 a0_0, .int .i64 a0_1], .agg #[.slice A1_0 l1_0.length c1_0, .slice A1_1 l1_1.length c1_1], .bool a2, (.func (.func fu_) #[ru_] #[]), .agg #[.int .i64 a4_0, .int .i64 a4_1, .int .i64 a4_2], (.func (.func fi_) #[ri_] #[]), .agg #[.int .i64 a6_0, .int .i64 a6_1]] w fun e w' => ∃ v0_ v1_ : Value, e = .returned (.tuple #[.agg #[v0_, v1_], .int .i64 r3]) ∧ Kd.R k56 56 w' w.heap.size (fun _ => True) v0_ r1 ∧ Kd.R k62 62 w' w.heap.size (fun _ => True) v1_ r2 ∧ Below w.heap.size w w' := by
 have HFU := Aside0.mk hfu_
 have HNU := Aside0.mk hnu_
 have HBU := Aside0.mk hbu_
 have HCU := Aside0.mk hu_
 have HFI := Aside0.mk hfi_
 have HNI := Aside0.mk hni_
 have HBI := Aside0.mk hbi_
 have HCI := Aside0.mk hi_
 clear hfu_ hnu_ hbu_ hu_ hfi_ hni_ hbi_ hi_
 have hu23 := Try.underlying23
 have hu27 := Try.underlying27
 have hu56 := Try.underlying56
 have hu62 := Try.underlying62
 have HR1_0 := Aside0.mk hr1_0
 have HC1_0 := Aside0.mk hc1_0
 clear hr1_0 hc1_0
 have HR1_1 := Aside0.mk hr1_1
 have HC1_1 := Aside0.mk hc1_1
 clear hr1_1 hc1_1
 have HB := Aside0.mk (Below.refl w.heap.size w)
 have H : ((call_Check.f k a0_0 a0_1 l1_0 l1_1).bind fun t106 => (if t106 = 0 then (if a2 = true then ((U_).bind fun t107 => ((I_).bind fun t110 => (some (t107, t110, 0)))) else (some (([] : List (S56)), ([] : List (S62)), 191))) else (some (([] : List (S56)), ([] : List (S62)), t106)))) = some (r1, r2, r3) := h
 clear h
 replace H := Option.bind_eq_some_iff.mp H
 obtain ⟨t106, A80, H⟩ := H
 replace H : (if t106 = 0 then (if a2 = true then ((U_).bind fun t107 => ((I_).bind fun t110 => (some (t107, t110, 0)))) else (some (([] : List (S56)), ([] : List (S62)), 191))) else (some (([] : List (S56)), ([] : List (S62)), t106))) = some (r1, r2, r3) := H
 have A8 := Aside0.mk A80
 clear A80
 by_cases c9 : t106 = 0
 ·rw [if_pos c9] at H
  have c9b0 : (t106 == 0) = true := beq_iff_eq.mpr c9
  have c9b1 : (t106 != 0) = false := bne_eq_false_iff_eq.mpr c9
  clear c9
  by_cases c10 : a2 = true
  ·subst c10
   have H1 : ((U_).bind fun t107 => ((I_).bind fun t110 => (some (t107, t110, 0)))) = some (r1, r2, r3) := by rw [if_pos rfl] at H; exact H
   clear H
   have H := H1
   clear H1
   replace H := Option.bind_eq_some_iff.mp H
   obtain ⟨t107, A110, H⟩ := H
   replace H : ((I_).bind fun t110 => (some (t107, t110, 0))) = some (r1, r2, r3) := H
   have A11 := Aside0.mk A110
   clear A110
   replace H := Option.bind_eq_some_iff.mp H
   obtain ⟨t110, A120, H⟩ := H
   replace H : (some (t107, t110, 0)) = some (r1, r2, r3) := H
   have A12 := Aside0.mk A120
   clear A120
   simp only [Option.some.injEq, Prod.mk.injEq] at H
   obtain ⟨rfl, rfl, rfl⟩ := H
   go_enter Try.func28, Try.ntmps28
   try go_wp2_with (first | ((with_reducible refine gate_dst (N := 7) rfl ?_); refine box_event ?hg (N := 7) ?hd (cs := #[.int .i64 a0_0, .int .i64 a0_1]) (t := 23) ?hr ?_; (case hd => rfl); (case hg => rfl); (case hr => go_simp <;> rfl); intro gb101 hg w13 hbox hb; have BK101 := Aside0.mk hbox; have GW101 := sGe hg; have GE101 := sGe hg; replace HB := sHb hb; clear hb hbox hg) | ((with_reducible refine gate_dst (N := 8) rfl ?_); refine box_event ?hg (N := 8) ?hd (cs := #[.slice A1_0 l1_0.length c1_0, .slice A1_1 l1_1.length c1_1]) (t := 27) ?hr ?_; (case hd => rfl); (case hg => rfl); (case hr => go_simp <;> rfl); intro gb102 hg w14 hbox hb; have BK102 := Aside0.mk hbox; have GW102 := sGe hg; have GE102 := sGe hg; have NB101_102 := sNl BK101 hg; have NB102_101 := sNg BK101 hg; replace BK101 := sBk BK101 hb; replace HB := sHb hb; clear hb hbox hg) | ((with_reducible refine gate_dst (N := 11) rfl ?_); refine box_event ?hg (N := 11) ?hd (cs := #[.int .i64 a4_0, .int .i64 a4_1, .int .i64 a4_2]) (t := 56) ?hr ?_; (case hd => rfl); (case hg => rfl); (case hr => go_simp <;> rfl); intro gb103 hg w15 hbox hb; have BK103 := Aside0.mk hbox; have GW103 := sGe hg; have GE103 := sGe hg; have NB101_103 := sNl BK101 hg; have NB103_101 := sNg BK101 hg; have NB102_103 := sNl BK102 hg; have NB103_102 := sNg BK102 hg; replace BK101 := sBk BK101 hb; replace BK102 := sBk BK102 hb; replace HB := sHb hb; clear hb hbox hg) | ((with_reducible refine gate_dst (N := 13) rfl ?_); refine box_event ?hg (N := 13) ?hd (cs := #[.int .i64 a6_0, .int .i64 a6_1]) (t := 62) ?hr ?_; (case hd => rfl); (case hg => rfl); (case hr => go_simp <;> rfl); intro gb104 hg w16 hbox hb; have BK104 := Aside0.mk hbox; have GW104 := sGe hg; have GE104 := sGe hg; have NB101_104 := sNl BK101 hg; have NB104_101 := sNg BK101 hg; have NB102_104 := sNl BK102 hg; have NB104_102 := sNg BK102 hg; have NB103_104 := sNl BK103 hg; have NB104_103 := sNg BK103 hg; replace BK101 := sBk BK101 hb; replace BK102 := sBk BK102 hb; replace BK103 := sBk BK103 hb; replace HB := sHb hb; clear hb hbox hg) | ((with_reducible refine gate_dst (N := 14) rfl ?_); refine box_event ?hg (N := 14) ?hd (cs := #[.slice none 0 0, .slice none 0 0]) (t := 27) ?hr ?_; (case hd => rfl); (case hg => rfl); (case hr => go_simp <;> rfl); intro gb105 hg w17 hbox hb; have BK105 := Aside0.mk hbox; have GW105 := sGe hg; have GE105 := sGe hg; have NB101_105 := sNl BK101 hg; have NB105_101 := sNg BK101 hg; have NB102_105 := sNl BK102 hg; have NB105_102 := sNg BK102 hg; have NB103_105 := sNl BK103 hg; have NB105_103 := sNg BK103 hg; have NB104_105 := sNl BK104 hg; have NB105_104 := sNg BK104 hg; replace BK101 := sBk BK101 hb; replace BK102 := sBk BK102 hb; replace BK103 := sBk BK103 hb; replace BK104 := sBk BK104 hb; replace HB := sHb hb; clear hb hbox hg; have hnb18 := NB101_102.out; have hnc18 := NB102_101.out; have hnb19 := NB101_103.out; have hnc19 := NB103_101.out; have hnb20 := NB101_104.out; have hnc20 := NB104_101.out; have hnb21 := NB101_105.out; have hnc21 := NB105_101.out; have hcz22_0 : w17.cell? ⟨gb101, 0, none⟩ = some (.int .i64 a0_0) := (blk_cell BK101.out 0).trans rfl; have hcz22_1 : w17.cell? ⟨gb101, 1, none⟩ = some (.int .i64 a0_1) := (blk_cell BK101.out 1).trans rfl; have hfz22_0 := blk_frozen BK101.out 0; have hfz22_1 := blk_frozen BK101.out 1; have hnb23 := NB102_103.out; have hnc23 := NB103_102.out; have hnb24 := NB102_104.out; have hnc24 := NB104_102.out; have hnb25 := NB102_105.out; have hnc25 := NB105_102.out; have hcz26_0 : w17.cell? ⟨gb102, 0, none⟩ = some (.slice A1_0 l1_0.length c1_0) := (blk_cell BK102.out 0).trans rfl; have hcz26_1 : w17.cell? ⟨gb102, 1, none⟩ = some (.slice A1_1 l1_1.length c1_1) := (blk_cell BK102.out 1).trans rfl; have hfz26_0 := blk_frozen BK102.out 0; have hfz26_1 := blk_frozen BK102.out 1) | ((with_reducible refine gate_callee (f := 14) rfl ?_); refine goesL_ (some 19) rfl rfl Try.func14 (by kernel_rfl) rfl #[.agg #[.int .i64 a0_0, .int .i64 a0_1], .agg #[.slice A1_0 l1_0.length c1_0, .slice A1_1 l1_1.length c1_1]] rfl (by simp only [List.map_toArray, List.map_cons, List.map_nil] <;> rfl) ?_; (with_reducible refine (call_Check.calls k a0_0 a0_1 _ _ l1_0 _ _ l1_1 t106 _ ?side1 ?side2 ?side3 ?side4 A8.out).mono ?_); (case side1 => exact (Kd.C_below HR1_0.out HB.out)); (case side2 => exact HC1_0.out); (case side3 => exact (Kd.C_below HR1_1.out HB.out)); (case side4 => exact HC1_1.out); rintro e w27 ⟨rfl, hb⟩; refine ⟨_, rfl, ?_⟩; replace BK101 := sBk BK101 hb; replace BK102 := sBk BK102 hb; replace BK103 := sBk BK103 hb; replace BK104 := sBk BK104 hb; replace BK105 := sBk BK105 hb; replace HB := sHb hb; (try clear hb); (try clear hb2); (try clear hk); (try clear hi)))
   replace BK101 := Aside0.mk (blk_drew BK101.out)
   replace BK102 := Aside0.mk (blk_drew BK102.out)
   replace BK103 := Aside0.mk (blk_drew BK103.out)
   replace BK104 := Aside0.mk (blk_drew BK104.out)
   replace BK105 := Aside0.mk (blk_drew BK105.out)
   replace HB := Aside0.mk (below_drew1 HB.out)
   refine start_ (n := 9) (S := fun w' => w'.cell? ⟨gb103, 0, none⟩ = some (.int .i64 a4_0) ∧ w'.cell? ⟨gb103, 1, none⟩ = some (.int .i64 a4_1) ∧ w'.cell? ⟨gb103, 2, none⟩ = some (.int .i64 a4_2) ∧ w'.cell? ⟨gb104, 0, none⟩ = some (.int .i64 a6_0) ∧ w'.cell? ⟨gb104, 1, none⟩ = some (.int .i64 a6_1)) (ds := []) #[false, false, false, false, false, false, false, false, false] (by kernel_rfl) rfl rfl ⟨(blk_cell BK103.out 0).trans rfl, (blk_cell BK103.out 1).trans rfl, (blk_cell BK103.out 2).trans rfl, (blk_cell BK104.out 0).trans rfl, (blk_cell BK104.out 1).trans rfl⟩ (fun hHeld => ?_); refine with_tabW call_change.tab6 call_change.bits6 (fun HT_ HW_ => ?_)
   generalize w27.drew = w28 at BK101 BK102 BK103 BK104 BK105 HB hHeld ⊢
   refine pure_ (i := 0) (N := some 27) (v := ?_) (a' := ?_) (bN 9 1) rfl rfl (any_of HT_.out (by kernel_rfl)) (fun _ _ _ h => h) (Or.inl ⟨by rfl, ?_⟩) ?_ ?_
   rotate_left
   ·intro w'
    go_simp
    with_reducible rfl
   rotate_left
   ·simp only [Act.put, List.setIfInBounds_toArray, List.set_cons_zero, List.set_cons_succ, i64_w, i32_w]
    rfl
   refine pure_ (i := 3) (N := some 30) (v := ?_) (a' := ?_) (bN 9 9) rfl rfl (any_of HT_.out (by kernel_rfl)) (fun _ _ _ h => h) (Or.inl ⟨by rfl, ?_⟩) ?_ ?_
   rotate_left
   ·intro w'
    go_simp
    with_reducible rfl
   rotate_left
   ·simp only [Act.put, List.setIfInBounds_toArray, List.set_cons_zero, List.set_cons_succ, i64_w, i32_w]
    rfl
   refine take_ (i := 1) (N := some 28) (v := ?_) (a' := ?_) (bN 9 11) rfl rfl (take_ofW HT_.out HW_.out (by kernel_rfl)) (fun _ _ _ h => h) (Or.inl ⟨by rfl, ?_⟩) hHeld ?_ ?_
   rotate_left
   ·rintro w' ⟨s0, s1, s2, s3, s4⟩
    go_simp
    with_reducible rfl
   rotate_left
   ·simp only [Act.put, List.setIfInBounds_toArray, List.set_cons_zero, List.set_cons_succ, i64_w, i32_w]
    rfl
   refine take_ (i := 4) (N := some 31) (v := ?_) (a' := ?_) (bN 9 27) rfl rfl (take_ofW HT_.out HW_.out (by kernel_rfl)) (fun _ _ _ h => h) (Or.inl ⟨by rfl, ?_⟩) hHeld ?_ ?_
   rotate_left
   ·rintro w' ⟨s0, s1, s2, s3, s4⟩
    go_simp
    with_reducible rfl
   rotate_left
   ·simp only [Act.put, List.setIfInBounds_toArray, List.set_cons_zero, List.set_cons_succ, i64_w, i32_w]
    rfl
   refine one_ (i := 2) (N := some 29) (bN 9 31) rfl rfl (one_of HT_.out (by kernel_rfl)) (by decide) (fun K hK => ?_)
   refine goesV_ HFU.out HNU.out HBU.out #[ru_] #[] #[.agg #[.int .i64 a4_0, .int .i64 a4_1, .int .i64 a4_2]] #[ru_, .agg #[.int .i64 a4_0, .int .i64 a4_1, .int .i64 a4_2]] rfl (by rfl) rfl rfl rfl (by simp only [List.map_toArray, List.map_cons, List.map_nil] <;> rfl) ?_
   refine (HCU.out _ t107 A11.out (by repeat (first | (with_reducible first | exact HB.out | apply below_alloc | apply pw_below_drewN | apply below_drew1) | exact HB.out | (refine below_set ?_ (Aside0.out (by assumption)))))).mono ?_
   rintro e w29 ⟨v108, rfl, ho0, hb⟩
   refine ⟨_, rfl, ?_⟩
   have HO109 := Aside0.mk (Kd.R_lower (Kd.R_newB ho0 (g := gb103) (o := .cells #[.int .i64 a4_0, .int .i64 a4_1, .int .i64 a4_2] 56 (0, 0)) BK103.out) (below_size HB.out))
   replace BK101 := sBk BK101 hb
   replace BK102 := sBk BK102 hb
   replace BK103 := sBk BK103 hb
   replace BK104 := sBk BK104 hb
   replace BK105 := sBk BK105 hb
   replace HB := sHb hb
   (try clear hb)
   (try clear hb2)
   (try clear hk)
   (try clear hi)
   (try clear ho0)
   refine hK.out _ _ ⟨(blk_cell BK103.out 0).trans rfl, (blk_cell BK103.out 1).trans rfl, (blk_cell BK103.out 2).trans rfl, (blk_cell BK104.out 0).trans rfl, (blk_cell BK104.out 1).trans rfl⟩ (fun hHeld => ?_)
   clear hK K
   refine norm_ (a' := ?_) ?_ ?_
   rotate_left
   ·show Act.put _ (some 29) _ = _
    simp only [Act.put, List.setIfInBounds_toArray, List.set_cons_zero, List.set_cons_succ, i64_w, i32_w]
    rfl
   refine one_ (i := 5) (N := some 32) (bN 9 63) rfl rfl (one_of HT_.out (by kernel_rfl)) (by decide) (fun K hK => ?_)
   refine goesV_ HFI.out HNI.out HBI.out #[ri_] #[] #[.agg #[.int .i64 a6_0, .int .i64 a6_1]] #[ri_, .agg #[.int .i64 a6_0, .int .i64 a6_1]] rfl (by rfl) rfl rfl rfl (by simp only [List.map_toArray, List.map_cons, List.map_nil] <;> rfl) ?_
   refine (HCI.out _ t110 A12.out (by repeat (first | (with_reducible first | exact HB.out | apply below_alloc | apply pw_below_drewN | apply below_drew1) | exact HB.out | (refine below_set ?_ (Aside0.out (by assumption)))))).mono ?_
   rintro e w30 ⟨v111, rfl, ho0, hb⟩
   refine ⟨_, rfl, ?_⟩
   have HO112 := Aside0.mk (Kd.R_lower (Kd.R_newB ho0 (g := gb104) (o := .cells #[.int .i64 a6_0, .int .i64 a6_1] 62 (0, 0)) BK104.out) (below_size HB.out))
   replace HO109 := sRb HO109 hb
   replace BK101 := sBk BK101 hb
   replace BK102 := sBk BK102 hb
   replace BK103 := sBk BK103 hb
   replace BK104 := sBk BK104 hb
   replace BK105 := sBk BK105 hb
   replace HB := sHb hb
   (try clear hb)
   (try clear hb2)
   (try clear hk)
   (try clear hi)
   (try clear ho0)
   obtain ⟨Ao31, co31, eo31⟩ := Kd.R_slice HO112.out
   (first | subst eo31 | (injection eo31 with f1_ f2_ f3_; have f4_ := f1_.symm; have f5_ := f3_.symm; clear f1_ f2_ f3_; subst f4_; subst f5_))
   obtain ⟨Ao32, co32, eo32⟩ := Kd.R_slice HO109.out
   (first | subst eo32 | (injection eo32 with f1_ f2_ f3_; have f4_ := f1_.symm; have f5_ := f3_.symm; clear f1_ f2_ f3_; subst f4_; subst f5_))
   refine hK.out _ _ ⟨(blk_cell BK103.out 0).trans rfl, (blk_cell BK103.out 1).trans rfl, (blk_cell BK103.out 2).trans rfl, (blk_cell BK104.out 0).trans rfl, (blk_cell BK104.out 1).trans rfl⟩ (fun hHeld => ?_)
   clear hK K
   refine norm_ (a' := ?_) ?_ ?_
   rotate_left
   ·show Act.put _ (some 32) _ = _
    simp only [Act.put, List.setIfInBounds_toArray, List.set_cons_zero, List.set_cons_succ, i64_w, i32_w]
    rfl
   refine pure_ (i := 6) (N := some 33) (v := ?_) (a' := ?_) (bN 9 127) rfl rfl (any_of HT_.out (by kernel_rfl)) (fun _ _ _ h => h) (Or.inl ⟨by rfl, ?_⟩) ?_ ?_
   rotate_left
   ·intro w'
    go_simp
    with_reducible rfl
   rotate_left
   ·simp only [Act.put, List.setIfInBounds_toArray, List.set_cons_zero, List.set_cons_succ, i64_w, i32_w]
    rfl
   refine one_ (i := 7) (N := none) (bN 9 255) rfl rfl (one_of HT_.out (by kernel_rfl)) (by decide) (fun K hK => ?_)
   have hs33 : w30.cell? ⟨gb105, 0, none⟩ = some (.slice none 0 0) := (blk_cell BK105.out 0).trans rfl
   have hfs33 := blk_frozen BK105.out 0
   have hns33_0 := NB101_105.out
   have hns33_1 := NB102_105.out
   have hns33_2 := NB103_105.out
   have hns33_3 := NB104_105.out
   have hms33_0 := NB105_101.out
   have hms33_1 := NB105_102.out
   have hms33_2 := NB105_103.out
   have hms33_3 := NB105_104.out
   have hs34 : w30.cell? ⟨gb105, 1, none⟩ = some (.slice none 0 0) := (blk_cell BK105.out 1).trans rfl
   have hfs34 := blk_frozen BK105.out 1
   have hns34_0 := NB101_105.out
   have hns34_1 := NB102_105.out
   have hns34_2 := NB103_105.out
   have hns34_3 := NB104_105.out
   have hms34_0 := NB105_101.out
   have hms34_1 := NB105_102.out
   have hms34_2 := NB105_103.out
   have hms34_3 := NB105_104.out
   refine skip_ (w1 := ?_) (by rfl) rfl ?_ ?_
   rotate_left
   ·go_simp
    rfl
   refine hK.out _ _ ⟨((cell_far (p := ⟨gb105, _, none⟩) NB103_105.out _).trans (((cell_far (p := ⟨gb105, _, none⟩) NB103_105.out _).trans (hHeld.1)))), ((cell_far (p := ⟨gb105, _, none⟩) NB103_105.out _).trans (((cell_far (p := ⟨gb105, _, none⟩) NB103_105.out _).trans (hHeld.2.1)))), ((cell_far (p := ⟨gb105, _, none⟩) NB103_105.out _).trans (((cell_far (p := ⟨gb105, _, none⟩) NB103_105.out _).trans (hHeld.2.2.1)))), ((cell_far (p := ⟨gb105, _, none⟩) NB104_105.out _).trans (((cell_far (p := ⟨gb105, _, none⟩) NB104_105.out _).trans (hHeld.2.2.2.1)))), ((cell_far (p := ⟨gb105, _, none⟩) NB104_105.out _).trans (((cell_far (p := ⟨gb105, _, none⟩) NB104_105.out _).trans (hHeld.2.2.2.2))))⟩ (fun hHeld => ?_)
   clear hK K
   refine pure_ (i := 8) (N := some 15) (v := ?_) (a' := ?_) (bN 9 511) rfl rfl (any_of HT_.out (by kernel_rfl)) (fun _ _ _ h => h) (Or.inl ⟨by rfl, ?_⟩) ?_ ?_
   rotate_left
   ·intro w'
    go_simp
    with_reducible rfl
   rotate_left
   ·simp only [Act.put, List.setIfInBounds_toArray, List.set_cons_zero, List.set_cons_succ, i64_w, i32_w]
    rfl
   refine done_ (done_of HT_.out (by kernel_rfl)) ?_
   try go_wp2
   refine bodyPost_ret (results_ct rfl _ _ gb105 27 #[.slice Ao32 t107.length co32, .slice Ao31 t110.length co31] (0, 0) _ rfl (by refine blk_put (cs := #[.slice Ao32 t107.length co32, .slice none 0 0]) ?_ 1 _ rfl; refine blk_put (cs := #[.slice none 0 0, .slice none 0 0]) ?_ 0 _ rfl; exact BK105.out) Try.underlying27 rfl (by kernel_rfl)) rfl ?_
   exact ⟨_, _, by first | rfl | (simp [errW_none, errW_some] <;> rfl) | (simp [*, errW_none, errW_some] <;> rfl), by (with_reducible repeat (first | apply Kd.R_alloc | apply Kd.R_drewN | apply Kd.R_drew)); exact Kd.R_mono (Kd.R_far (Kd.R_far (Kd.R_types HO109.out BK105.out (by decide)) (fun _ hk => hk.2) _) (fun _ hk => hk.2) _) (fun _ hk => trivial), by (with_reducible repeat (first | apply Kd.R_alloc | apply Kd.R_drewN | apply Kd.R_drew)); exact Kd.R_mono (Kd.R_far (Kd.R_far (Kd.R_types HO112.out BK105.out (by decide)) (fun _ hk => hk.2) _) (fun _ hk => hk.2) _) (fun _ hk => trivial), bel⟩
  ·replace c10 := Bool.eq_false_iff.mpr c10
   subst c10
   have H1 : (some (([] : List (S56)), ([] : List (S62)), 191)) = some (r1, r2, r3) := by rw [if_neg (show ¬ (false = true) by decide)] at H; exact H
   clear H
   have H := H1
   clear H1
   simp only [Option.some.injEq, Prod.mk.injEq] at H
   obtain ⟨rfl, rfl, rfl⟩ := H
   go_enter Try.func28, Try.ntmps28
   go_wp2_with (first | ((with_reducible refine gate_dst (N := 7) rfl ?_); refine box_event ?hg (N := 7) ?hd (cs := #[.int .i64 a0_0, .int .i64 a0_1]) (t := 23) ?hr ?_; (case hd => rfl); (case hg => rfl); (case hr => go_simp <;> rfl); intro gb101 hg w35 hbox hb; have BK101 := Aside0.mk hbox; have GW101 := sGe hg; have GE101 := sGe hg; replace HB := sHb hb; clear hb hbox hg) | ((with_reducible refine gate_dst (N := 8) rfl ?_); refine box_event ?hg (N := 8) ?hd (cs := #[.slice A1_0 l1_0.length c1_0, .slice A1_1 l1_1.length c1_1]) (t := 27) ?hr ?_; (case hd => rfl); (case hg => rfl); (case hr => go_simp <;> rfl); intro gb102 hg w36 hbox hb; have BK102 := Aside0.mk hbox; have GW102 := sGe hg; have GE102 := sGe hg; have NB101_102 := sNl BK101 hg; have NB102_101 := sNg BK101 hg; replace BK101 := sBk BK101 hb; replace HB := sHb hb; clear hb hbox hg) | ((with_reducible refine gate_dst (N := 11) rfl ?_); refine box_event ?hg (N := 11) ?hd (cs := #[.int .i64 a4_0, .int .i64 a4_1, .int .i64 a4_2]) (t := 56) ?hr ?_; (case hd => rfl); (case hg => rfl); (case hr => go_simp <;> rfl); intro gb103 hg w37 hbox hb; have BK103 := Aside0.mk hbox; have GW103 := sGe hg; have GE103 := sGe hg; have NB101_103 := sNl BK101 hg; have NB103_101 := sNg BK101 hg; have NB102_103 := sNl BK102 hg; have NB103_102 := sNg BK102 hg; replace BK101 := sBk BK101 hb; replace BK102 := sBk BK102 hb; replace HB := sHb hb; clear hb hbox hg) | ((with_reducible refine gate_dst (N := 13) rfl ?_); refine box_event ?hg (N := 13) ?hd (cs := #[.int .i64 a6_0, .int .i64 a6_1]) (t := 62) ?hr ?_; (case hd => rfl); (case hg => rfl); (case hr => go_simp <;> rfl); intro gb104 hg w38 hbox hb; have BK104 := Aside0.mk hbox; have GW104 := sGe hg; have GE104 := sGe hg; have NB101_104 := sNl BK101 hg; have NB104_101 := sNg BK101 hg; have NB102_104 := sNl BK102 hg; have NB104_102 := sNg BK102 hg; have NB103_104 := sNl BK103 hg; have NB104_103 := sNg BK103 hg; replace BK101 := sBk BK101 hb; replace BK102 := sBk BK102 hb; replace BK103 := sBk BK103 hb; replace HB := sHb hb; clear hb hbox hg) | ((with_reducible refine gate_dst (N := 14) rfl ?_); refine box_event ?hg (N := 14) ?hd (cs := #[.slice none 0 0, .slice none 0 0]) (t := 27) ?hr ?_; (case hd => rfl); (case hg => rfl); (case hr => go_simp <;> rfl); intro gb105 hg w39 hbox hb; have BK105 := Aside0.mk hbox; have GW105 := sGe hg; have GE105 := sGe hg; have NB101_105 := sNl BK101 hg; have NB105_101 := sNg BK101 hg; have NB102_105 := sNl BK102 hg; have NB105_102 := sNg BK102 hg; have NB103_105 := sNl BK103 hg; have NB105_103 := sNg BK103 hg; have NB104_105 := sNl BK104 hg; have NB105_104 := sNg BK104 hg; replace BK101 := sBk BK101 hb; replace BK102 := sBk BK102 hb; replace BK103 := sBk BK103 hb; replace BK104 := sBk BK104 hb; replace HB := sHb hb; clear hb hbox hg; have hnb40 := NB101_102.out; have hnc40 := NB102_101.out; have hnb41 := NB101_103.out; have hnc41 := NB103_101.out; have hnb42 := NB101_104.out; have hnc42 := NB104_101.out; have hnb43 := NB101_105.out; have hnc43 := NB105_101.out; have hcz44_0 : w39.cell? ⟨gb101, 0, none⟩ = some (.int .i64 a0_0) := (blk_cell BK101.out 0).trans rfl; have hcz44_1 : w39.cell? ⟨gb101, 1, none⟩ = some (.int .i64 a0_1) := (blk_cell BK101.out 1).trans rfl; have hfz44_0 := blk_frozen BK101.out 0; have hfz44_1 := blk_frozen BK101.out 1; have hnb45 := NB102_103.out; have hnc45 := NB103_102.out; have hnb46 := NB102_104.out; have hnc46 := NB104_102.out; have hnb47 := NB102_105.out; have hnc47 := NB105_102.out; have hcz48_0 : w39.cell? ⟨gb102, 0, none⟩ = some (.slice A1_0 l1_0.length c1_0) := (blk_cell BK102.out 0).trans rfl; have hcz48_1 : w39.cell? ⟨gb102, 1, none⟩ = some (.slice A1_1 l1_1.length c1_1) := (blk_cell BK102.out 1).trans rfl; have hfz48_0 := blk_frozen BK102.out 0; have hfz48_1 := blk_frozen BK102.out 1) | ((with_reducible refine gate_callee (f := 14) rfl ?_); refine goesL_ (some 19) rfl rfl Try.func14 (by kernel_rfl) rfl #[.agg #[.int .i64 a0_0, .int .i64 a0_1], .agg #[.slice A1_0 l1_0.length c1_0, .slice A1_1 l1_1.length c1_1]] rfl (by simp only [List.map_toArray, List.map_cons, List.map_nil] <;> rfl) ?_; (with_reducible refine (call_Check.calls k a0_0 a0_1 _ _ l1_0 _ _ l1_1 t106 _ ?side1 ?side2 ?side3 ?side4 A8.out).mono ?_); (case side1 => exact (Kd.C_below HR1_0.out HB.out)); (case side2 => exact HC1_0.out); (case side3 => exact (Kd.C_below HR1_1.out HB.out)); (case side4 => exact HC1_1.out); rintro e w49 ⟨rfl, hb⟩; refine ⟨_, rfl, ?_⟩; replace BK101 := sBk BK101 hb; replace BK102 := sBk BK102 hb; replace BK103 := sBk BK103 hb; replace BK104 := sBk BK104 hb; replace BK105 := sBk BK105 hb; replace HB := sHb hb; (try clear hb); (try clear hb2); (try clear hk); (try clear hi); have hnb50 := NB105_103.out; have hnc50 := NB103_105.out; have hnb51 := NB105_104.out; have hnc51 := NB104_105.out; have hcz52_0 : w49.cell? ⟨gb105, 0, none⟩ = some (.slice none 0 0) := (blk_cell BK105.out 0).trans rfl; have hcz52_1 : w49.cell? ⟨gb105, 1, none⟩ = some (.slice none 0 0) := (blk_cell BK105.out 1).trans rfl; have hfz52_0 := blk_frozen BK105.out 0; have hfz52_1 := blk_frozen BK105.out 1))
   refine bodyPost_ret (results_ct rfl _ _ gb105 27 #[.slice none 0 0, .slice none 0 0] (0, 0) _ rfl (by refine blk_put (cs := #[.slice none 0 0, .slice none 0 0]) ?_ 1 _ rfl; refine blk_put (cs := #[.slice none 0 0, .slice none 0 0]) ?_ 0 _ rfl; exact BK105.out) Try.underlying27 rfl (by kernel_rfl)) rfl ?_
   exact ⟨_, _, by first | rfl | (simp [errW_none, errW_some] <;> rfl) | (simp [*, errW_none, errW_some] <;> rfl), by first | exact Kd.R_nil _ _ _ _ _ | exact Kd.N_nil _ _ _ _ _ | exact Kd.V_nil _ _ _ _ _ | exact Kd.Q_nil _ _ _ _ _ | exact Kd.S_nil _ _ _ _ _, by first | exact Kd.R_nil _ _ _ _ _ | exact Kd.N_nil _ _ _ _ _ | exact Kd.V_nil _ _ _ _ _ | exact Kd.Q_nil _ _ _ _ _ | exact Kd.S_nil _ _ _ _ _, bel⟩
 ·rw [if_neg c9] at H
  have c9b0 : (t106 == 0) = false := beq_eq_false_iff_ne.mpr c9
  have c9b1 : (t106 != 0) = true := bne_iff_ne.mpr c9
  simp only [Option.some.injEq, Prod.mk.injEq] at H
  obtain ⟨rfl, rfl, rfl⟩ := H
  go_enter Try.func28, Try.ntmps28
  go_wp2_with (first | ((with_reducible refine gate_dst (N := 7) rfl ?_); refine box_event ?hg (N := 7) ?hd (cs := #[.int .i64 a0_0, .int .i64 a0_1]) (t := 23) ?hr ?_; (case hd => rfl); (case hg => rfl); (case hr => go_simp <;> rfl); intro gb101 hg w53 hbox hb; have BK101 := Aside0.mk hbox; have GW101 := sGe hg; have GE101 := sGe hg; replace HB := sHb hb; clear hb hbox hg) | ((with_reducible refine gate_dst (N := 8) rfl ?_); refine box_event ?hg (N := 8) ?hd (cs := #[.slice A1_0 l1_0.length c1_0, .slice A1_1 l1_1.length c1_1]) (t := 27) ?hr ?_; (case hd => rfl); (case hg => rfl); (case hr => go_simp <;> rfl); intro gb102 hg w54 hbox hb; have BK102 := Aside0.mk hbox; have GW102 := sGe hg; have GE102 := sGe hg; have NB101_102 := sNl BK101 hg; have NB102_101 := sNg BK101 hg; replace BK101 := sBk BK101 hb; replace HB := sHb hb; clear hb hbox hg) | ((with_reducible refine gate_dst (N := 11) rfl ?_); refine box_event ?hg (N := 11) ?hd (cs := #[.int .i64 a4_0, .int .i64 a4_1, .int .i64 a4_2]) (t := 56) ?hr ?_; (case hd => rfl); (case hg => rfl); (case hr => go_simp <;> rfl); intro gb103 hg w55 hbox hb; have BK103 := Aside0.mk hbox; have GW103 := sGe hg; have GE103 := sGe hg; have NB101_103 := sNl BK101 hg; have NB103_101 := sNg BK101 hg; have NB102_103 := sNl BK102 hg; have NB103_102 := sNg BK102 hg; replace BK101 := sBk BK101 hb; replace BK102 := sBk BK102 hb; replace HB := sHb hb; clear hb hbox hg) | ((with_reducible refine gate_dst (N := 13) rfl ?_); refine box_event ?hg (N := 13) ?hd (cs := #[.int .i64 a6_0, .int .i64 a6_1]) (t := 62) ?hr ?_; (case hd => rfl); (case hg => rfl); (case hr => go_simp <;> rfl); intro gb104 hg w56 hbox hb; have BK104 := Aside0.mk hbox; have GW104 := sGe hg; have GE104 := sGe hg; have NB101_104 := sNl BK101 hg; have NB104_101 := sNg BK101 hg; have NB102_104 := sNl BK102 hg; have NB104_102 := sNg BK102 hg; have NB103_104 := sNl BK103 hg; have NB104_103 := sNg BK103 hg; replace BK101 := sBk BK101 hb; replace BK102 := sBk BK102 hb; replace BK103 := sBk BK103 hb; replace HB := sHb hb; clear hb hbox hg) | ((with_reducible refine gate_dst (N := 14) rfl ?_); refine box_event ?hg (N := 14) ?hd (cs := #[.slice none 0 0, .slice none 0 0]) (t := 27) ?hr ?_; (case hd => rfl); (case hg => rfl); (case hr => go_simp <;> rfl); intro gb105 hg w57 hbox hb; have BK105 := Aside0.mk hbox; have GW105 := sGe hg; have GE105 := sGe hg; have NB101_105 := sNl BK101 hg; have NB105_101 := sNg BK101 hg; have NB102_105 := sNl BK102 hg; have NB105_102 := sNg BK102 hg; have NB103_105 := sNl BK103 hg; have NB105_103 := sNg BK103 hg; have NB104_105 := sNl BK104 hg; have NB105_104 := sNg BK104 hg; replace BK101 := sBk BK101 hb; replace BK102 := sBk BK102 hb; replace BK103 := sBk BK103 hb; replace BK104 := sBk BK104 hb; replace HB := sHb hb; clear hb hbox hg; have hnb58 := NB101_102.out; have hnc58 := NB102_101.out; have hnb59 := NB101_103.out; have hnc59 := NB103_101.out; have hnb60 := NB101_104.out; have hnc60 := NB104_101.out; have hnb61 := NB101_105.out; have hnc61 := NB105_101.out; have hcz62_0 : w57.cell? ⟨gb101, 0, none⟩ = some (.int .i64 a0_0) := (blk_cell BK101.out 0).trans rfl; have hcz62_1 : w57.cell? ⟨gb101, 1, none⟩ = some (.int .i64 a0_1) := (blk_cell BK101.out 1).trans rfl; have hfz62_0 := blk_frozen BK101.out 0; have hfz62_1 := blk_frozen BK101.out 1; have hnb63 := NB102_103.out; have hnc63 := NB103_102.out; have hnb64 := NB102_104.out; have hnc64 := NB104_102.out; have hnb65 := NB102_105.out; have hnc65 := NB105_102.out; have hcz66_0 : w57.cell? ⟨gb102, 0, none⟩ = some (.slice A1_0 l1_0.length c1_0) := (blk_cell BK102.out 0).trans rfl; have hcz66_1 : w57.cell? ⟨gb102, 1, none⟩ = some (.slice A1_1 l1_1.length c1_1) := (blk_cell BK102.out 1).trans rfl; have hfz66_0 := blk_frozen BK102.out 0; have hfz66_1 := blk_frozen BK102.out 1) | ((with_reducible refine gate_callee (f := 14) rfl ?_); refine goesL_ (some 19) rfl rfl Try.func14 (by kernel_rfl) rfl #[.agg #[.int .i64 a0_0, .int .i64 a0_1], .agg #[.slice A1_0 l1_0.length c1_0, .slice A1_1 l1_1.length c1_1]] rfl (by simp only [List.map_toArray, List.map_cons, List.map_nil] <;> rfl) ?_; (with_reducible refine (call_Check.calls k a0_0 a0_1 _ _ l1_0 _ _ l1_1 t106 _ ?side1 ?side2 ?side3 ?side4 A8.out).mono ?_); (case side1 => exact (Kd.C_below HR1_0.out HB.out)); (case side2 => exact HC1_0.out); (case side3 => exact (Kd.C_below HR1_1.out HB.out)); (case side4 => exact HC1_1.out); rintro e w67 ⟨rfl, hb⟩; refine ⟨_, rfl, ?_⟩; replace BK101 := sBk BK101 hb; replace BK102 := sBk BK102 hb; replace BK103 := sBk BK103 hb; replace BK104 := sBk BK104 hb; replace BK105 := sBk BK105 hb; replace HB := sHb hb; (try clear hb); (try clear hb2); (try clear hk); (try clear hi); have hnb68 := NB105_103.out; have hnc68 := NB103_105.out; have hnb69 := NB105_104.out; have hnc69 := NB104_105.out; have hcz70_0 : w67.cell? ⟨gb105, 0, none⟩ = some (.slice none 0 0) := (blk_cell BK105.out 0).trans rfl; have hcz70_1 : w67.cell? ⟨gb105, 1, none⟩ = some (.slice none 0 0) := (blk_cell BK105.out 1).trans rfl; have hfz70_0 := blk_frozen BK105.out 0; have hfz70_1 := blk_frozen BK105.out 1))
  refine bodyPost_ret (results_ct rfl _ _ gb105 27 #[.slice none 0 0, .slice none 0 0] (0, 0) _ rfl (by refine blk_put (cs := #[.slice none 0 0, .slice none 0 0]) ?_ 1 _ rfl; refine blk_put (cs := #[.slice none 0 0, .slice none 0 0]) ?_ 0 _ rfl; exact BK105.out) Try.underlying27 rfl (by kernel_rfl)) rfl ?_
  exact ⟨_, _, by first | rfl | (simp [errW_none, errW_some] <;> rfl) | (simp [*, errW_none, errW_some] <;> rfl), by first | exact Kd.R_nil _ _ _ _ _ | exact Kd.N_nil _ _ _ _ _ | exact Kd.V_nil _ _ _ _ _ | exact Kd.Q_nil _ _ _ _ _ | exact Kd.S_nil _ _ _ _ _, by first | exact Kd.R_nil _ _ _ _ _ | exact Kd.N_nil _ _ _ _ _ | exact Kd.V_nil _ _ _ _ _ | exact Kd.Q_nil _ _ _ _ _ | exact Kd.S_nil _ _ _ _ _, bel⟩
end Go.Proofs.Ytjehhhlhalkieaa.C
namespace Go.Proofs.Ytjehhhlhalkieaa.C
open Go.RowKit Go.Proofs.YtjehhhlhalkieaaW.PrintWords Go.Proofs.YtjehhhlhalkieaaW.PrintLast Go.Proofs.YtjehhhlhalkieaaW.PrintMore
attribute [local go_sem] max2_int min2_int max_two min_two max_three min_three max_four min_four
set_option linter.unusedVariables false
set_option linter.unusedSimpArgs false
mutual
def call_View.l0 : Nat → Int → List (S62) → Int → Int → List (S56) → List (S62) → List Int → Option (List Int × List Int × List Int × Int)
 | 0, _, _, _, _, _, _, _ => none
 | k + 1, x2, x30, x31, x32, x110000, x110001, x114000 => if x32 < x31 then (if 0 ≤ x32 then (if x32 < (x30.length : Int) then (if ((rd_T62 x30 x32).f0) = x2 then (if x114000.length < 17592186044416 then (call_View.l0 k x2 x30 x31 (wrap64 (x32 + 1)) x110000 x110001 (x114000 ++ [(rd_T62 x30 x32).f1])) else (none)) else (call_View.l0 k x2 x30 x31 (wrap64 (x32 + 1)) x110000 x110001 x114000)) else (none)) else (none)) else (call_View.l1 k x2 x110000 (x110000.length : Int) 0 x114000 ([] : List Int) ([] : List Int))
def call_View.l1 : Nat → Int → List (S56) → Int → Int → List Int → List Int → List Int → Option (List Int × List Int × List Int × Int)
 | 0, _, _, _, _, _, _, _ => none
 | k + 1, x2, x49, x50, x51, x114000, x114001, x114002 => if x51 < x50 then (if 0 ≤ x51 then (if x51 < (x49.length : Int) then (if ((rd_T56 x49 x51).f2) = x2 then (if ((rd_T56 x49 x51).f1) > 0 then (if x114001.length < 17592186044416 then (call_View.l1 k x2 x49 x50 (wrap64 (x51 + 1)) x114000 (x114001 ++ [(rd_T56 x49 x51).f0]) x114002) else (none)) else (if x114002.length < 17592186044416 then (call_View.l1 k x2 x49 x50 (wrap64 (x51 + 1)) x114000 x114001 (x114002 ++ [(rd_T56 x49 x51).f0])) else (none))) else (call_View.l1 k x2 x49 x50 (wrap64 (x51 + 1)) x114000 x114001 x114002)) else (none)) else (none)) else (some (x114000, x114001, x114002, 0))
end
def call_View.f (k : Nat) (a0_0 : Int) (a0_1 : Int) (l1_0 : List (S56)) (l1_1 : List (S62)) (a2 : Int) : Option (List Int × List Int × List Int × Int) := (call_Check.f k a0_0 a0_1 l1_0 l1_1).bind fun t111 => (if t111 = 0 then ((call_within.f a2 0 (wrap64 (a0_1 - 1))).bind fun t112 => (if t112 = true then (call_View.l0 k a2 l1_1 (l1_1.length : Int) 0 l1_0 l1_1 ([] : List Int)) else (some (([] : List Int), ([] : List Int), ([] : List Int), 191)))) else (some (([] : List Int), ([] : List Int), ([] : List Int), t111)))
theorem call_View.mono_l : ∀ k, (∀ y0 y1 y2 y3 y4 y5 y6, LeO (call_View.l0 k y0 y1 y2 y3 y4 y5 y6) (call_View.l0 (k + 1) y0 y1 y2 y3 y4 y5 y6)) ∧ (∀ y0 y1 y2 y3 y4 y5 y6, LeO (call_View.l1 k y0 y1 y2 y3 y4 y5 y6) (call_View.l1 (k + 1) y0 y1 y2 y3 y4 y5 y6))
 | 0 => ⟨fun _ _ _ _ _ _ _ r h => by simp [call_View.l0] at h, fun _ _ _ _ _ _ _ r h => by simp [call_View.l1] at h⟩
 | k + 1 => by
  obtain ⟨ih0, ih1⟩ := call_View.mono_l k
  refine ⟨?_, ?_⟩
  ·intro y0 y1 y2 y3 y4 y5 y6
   unfold call_View.l0
   repeat' first
   | (with_reducible exact ih0 _ _ _ _ _ _ _)
   | (with_reducible exact ih1 _ _ _ _ _ _ _)
   | (with_reducible exact call_Check.mono _ _ _ _ _)
   | (with_reducible exact LeO.refl _)
   | (with_reducible exact LeO.none _)
   | (with_reducible refine LeO.ite ?_ ?_)
   | (with_reducible refine LeO.bind ?_ (fun _ => ?_))
   | exact ih0 _ _ _ _ _ _ _
   | exact ih1 _ _ _ _ _ _ _
   | exact call_Check.mono _ _ _ _ _
   | exact LeO.none _
   | refine LeO.ite ?_ ?_
   | refine LeO.bind ?_ (fun _ => ?_)
  ·intro y0 y1 y2 y3 y4 y5 y6
   unfold call_View.l1
   repeat' first
   | (with_reducible exact ih0 _ _ _ _ _ _ _)
   | (with_reducible exact ih1 _ _ _ _ _ _ _)
   | (with_reducible exact call_Check.mono _ _ _ _ _)
   | (with_reducible exact LeO.refl _)
   | (with_reducible exact LeO.none _)
   | (with_reducible refine LeO.ite ?_ ?_)
   | (with_reducible refine LeO.bind ?_ (fun _ => ?_))
   | exact ih0 _ _ _ _ _ _ _
   | exact ih1 _ _ _ _ _ _ _
   | exact call_Check.mono _ _ _ _ _
   | exact LeO.none _
   | refine LeO.ite ?_ ?_
   | refine LeO.bind ?_ (fun _ => ?_)
theorem call_View.mono : ∀ a0 a1 a2 a3 a4 k, LeO (call_View.f k a0 a1 a2 a3 a4) (call_View.f (k + 1) a0 a1 a2 a3 a4) := by
 intro a0 a1 a2 a3 a4 k
 obtain ⟨ih0, ih1⟩ := call_View.mono_l k
 unfold call_View.f
 repeat' first
   | (with_reducible exact ih0 _ _ _ _ _ _ _)
   | (with_reducible exact ih1 _ _ _ _ _ _ _)
   | (with_reducible exact call_Check.mono _ _ _ _ _)
   | (with_reducible exact LeO.refl _)
   | (with_reducible exact LeO.none _)
   | (with_reducible refine LeO.ite ?_ ?_)
   | (with_reducible refine LeO.bind ?_ (fun _ => ?_))
   | exact ih0 _ _ _ _ _ _ _
   | exact ih1 _ _ _ _ _ _ _
   | exact call_Check.mono _ _ _ _ _
   | exact LeO.none _
   | refine LeO.ite ?_ ?_
   | refine LeO.bind ?_ (fun _ => ?_)
set_option maxHeartbeats 8000000 in
set_option maxRecDepth 100000 in
theorem call_View.calls (k : Nat) (a0_0 : Int) (a0_1 : Int) (A1_0 : Option Addr) (c1_0 : Nat) (l1_0 : List (S56)) (A1_1 : Option Addr) (c1_1 : Nat) (l1_1 : List (S62)) (a2 : Int) (r1 : List Int) (r2 : List Int) (r3 : List Int) (r4 : Int) (w : World) (hr1_0 : Kd.C k56 w A1_0 l1_0.length l1_0) (hc1_0 : l1_0.length ≤ c1_0) (hr1_1 : Kd.C k62 w A1_1 l1_1.length l1_1) (hc1_1 : l1_1.length ≤ c1_1) (h : call_View.f k a0_0 a0_1 l1_0 l1_1 a2 = some (r1, r2, r3, r4)) :
  Calls Try.prog 19 #[.agg #[.int .i64 a0_0, .int .i64 a0_1], .agg #[.slice A1_0 l1_0.length c1_0, .slice A1_1 l1_1.length c1_1], .int .i64 a2] w fun e w' => ∃ v0_ v1_ v2_ : Value, e = .returned (.tuple #[.agg #[v0_, v1_, v2_], .int .i64 r4]) ∧ Kd.R (Kd.int .i64) 3 w' w.heap.size (fun k_ => some k_ ≠ (v1_ : Value).ownBlock ∧ some k_ ≠ (v2_ : Value).ownBlock) v0_ r1 ∧ Kd.R (Kd.int .i64) 3 w' w.heap.size (fun k_ => some k_ ≠ (v0_ : Value).ownBlock ∧ some k_ ≠ (v2_ : Value).ownBlock) v1_ r2 ∧ Kd.R (Kd.int .i64) 3 w' w.heap.size (fun k_ => some k_ ≠ (v0_ : Value).ownBlock ∧ some k_ ≠ (v1_ : Value).ownBlock) v2_ r3 ∧ Below w.heap.size w w' := by
 have hu23 := Try.underlying23
 have hu27 := Try.underlying27
 have hu47 := Try.underlying47
 have hu62 := Try.underlying62
 have hu56 := Try.underlying56
 have HR1_0 := Aside0.mk hr1_0
 have HC1_0 := Aside0.mk hc1_0
 clear hr1_0 hc1_0
 have HR1_1 := Aside0.mk hr1_1
 have HC1_1 := Aside0.mk hc1_1
 clear hr1_1 hc1_1
 have HB := Aside0.mk (Below.refl w.heap.size w)
 have H : ((call_Check.f k a0_0 a0_1 l1_0 l1_1).bind fun t111 => (if t111 = 0 then ((call_within.f a2 0 (wrap64 (a0_1 - 1))).bind fun t112 => (if t112 = true then (call_View.l0 k a2 l1_1 (l1_1.length : Int) 0 l1_0 l1_1 ([] : List Int)) else (some (([] : List Int), ([] : List Int), ([] : List Int), 191)))) else (some (([] : List Int), ([] : List Int), ([] : List Int), t111)))) = some (r1, r2, r3, r4) := h
 clear h
 replace H := Option.bind_eq_some_iff.mp H
 obtain ⟨t111, A40, H⟩ := H
 replace H : (if t111 = 0 then ((call_within.f a2 0 (wrap64 (a0_1 - 1))).bind fun t112 => (if t112 = true then (call_View.l0 k a2 l1_1 (l1_1.length : Int) 0 l1_0 l1_1 ([] : List Int)) else (some (([] : List Int), ([] : List Int), ([] : List Int), 191)))) else (some (([] : List Int), ([] : List Int), ([] : List Int), t111))) = some (r1, r2, r3, r4) := H
 have A4 := Aside0.mk A40
 clear A40
 by_cases c5 : t111 = 0
 ·rw [if_pos c5] at H
  have c5b0 : (t111 == 0) = true := beq_iff_eq.mpr c5
  have c5b1 : (t111 != 0) = false := bne_eq_false_iff_eq.mpr c5
  clear c5
  replace H := Option.bind_eq_some_iff.mp H
  obtain ⟨t112, A60, H⟩ := H
  replace H : (if t112 = true then (call_View.l0 k a2 l1_1 (l1_1.length : Int) 0 l1_0 l1_1 ([] : List Int)) else (some (([] : List Int), ([] : List Int), ([] : List Int), 191))) = some (r1, r2, r3, r4) := H
  have A6 := Aside0.mk A60
  clear A60
  by_cases c7 : t112 = true
  ·subst c7
   have H1 : (call_View.l0 k a2 l1_1 (l1_1.length : Int) 0 l1_0 l1_1 ([] : List Int)) = some (r1, r2, r3, r4) := by rw [if_pos rfl] at H; exact H
   clear H
   have H := H1
   clear H1
   have H' := Aside0.mk H
   clear H
   go_enter Try.func19, Try.ntmps19
   go_wp2_with (first | ((with_reducible refine gate_dst (N := 3) rfl ?_); refine box_event ?hg (N := 3) ?hd (cs := #[.int .i64 a0_0, .int .i64 a0_1]) (t := 23) ?hr ?_; (case hd => rfl); (case hg => rfl); (case hr => go_simp <;> rfl); intro gb108 hg w8 hbox hb; have BK108 := Aside0.mk hbox; have GW108 := sGe hg; have GE108 := sGe hg; replace HB := sHb hb; clear hb hbox hg) | ((with_reducible refine gate_dst (N := 4) rfl ?_); refine box_event ?hg (N := 4) ?hd (cs := #[.slice A1_0 l1_0.length c1_0, .slice A1_1 l1_1.length c1_1]) (t := 27) ?hr ?_; (case hd => rfl); (case hg => rfl); (case hr => go_simp <;> rfl); intro gb109 hg w9 hbox hb; have BK109 := Aside0.mk hbox; have GW109 := sGe hg; have GE109 := sGe hg; have NB108_109 := sNl BK108 hg; have NB109_108 := sNg BK108 hg; replace BK108 := sBk BK108 hb; replace HB := sHb hb; clear hb hbox hg) | ((with_reducible refine gate_dst (N := 6) rfl ?_); refine box_event ?hg (N := 6) ?hd (cs := #[.slice none 0 0, .slice none 0 0, .slice none 0 0]) (t := 47) ?hr ?_; (case hd => rfl); (case hg => rfl); (case hr => go_simp <;> rfl); intro gb110 hg w10 hbox hb; have BK110 := Aside0.mk hbox; have GW110 := sGe hg; have GE110 := sGe hg; have NB108_110 := sNl BK108 hg; have NB110_108 := sNg BK108 hg; have NB109_110 := sNl BK109 hg; have NB110_109 := sNg BK109 hg; replace BK108 := sBk BK108 hb; replace BK109 := sBk BK109 hb; replace HB := sHb hb; clear hb hbox hg; have hnb11 := NB108_109.out; have hnc11 := NB109_108.out; have hnb12 := NB108_110.out; have hnc12 := NB110_108.out; have hcz13_0 : w10.cell? ⟨gb108, 0, none⟩ = some (.int .i64 a0_0) := (blk_cell BK108.out 0).trans rfl; have hcz13_1 : w10.cell? ⟨gb108, 1, none⟩ = some (.int .i64 a0_1) := (blk_cell BK108.out 1).trans rfl; have hfz13_0 := blk_frozen BK108.out 0; have hfz13_1 := blk_frozen BK108.out 1; have hnb14 := NB109_110.out; have hnc14 := NB110_109.out; have hcz15_0 : w10.cell? ⟨gb109, 0, none⟩ = some (.slice A1_0 l1_0.length c1_0) := (blk_cell BK109.out 0).trans rfl; have hcz15_1 : w10.cell? ⟨gb109, 1, none⟩ = some (.slice A1_1 l1_1.length c1_1) := (blk_cell BK109.out 1).trans rfl; have hfz15_0 := blk_frozen BK109.out 0; have hfz15_1 := blk_frozen BK109.out 1) | ((with_reducible refine gate_callee (f := 14) rfl ?_); refine goesL_ (some 16) rfl rfl Try.func14 (by kernel_rfl) rfl #[.agg #[.int .i64 a0_0, .int .i64 a0_1], .agg #[.slice A1_0 l1_0.length c1_0, .slice A1_1 l1_1.length c1_1]] rfl (by simp only [List.map_toArray, List.map_cons, List.map_nil] <;> rfl) ?_; (with_reducible refine (call_Check.calls k a0_0 a0_1 _ _ l1_0 _ _ l1_1 t111 _ ?side1 ?side2 ?side3 ?side4 A4.out).mono ?_); (case side1 => exact (Kd.C_below HR1_0.out HB.out)); (case side2 => exact HC1_0.out); (case side3 => exact (Kd.C_below HR1_1.out HB.out)); (case side4 => exact HC1_1.out); rintro e w16 ⟨rfl, hb⟩; refine ⟨_, rfl, ?_⟩; replace BK108 := sBk BK108 hb; replace BK109 := sBk BK109 hb; replace BK110 := sBk BK110 hb; replace HB := sHb hb; (try clear hb); (try clear hb2); (try clear hk); (try clear hi); have hcz17_0 : w16.cell? ⟨gb108, 0, none⟩ = some (.int .i64 a0_0) := (blk_cell BK108.out 0).trans rfl; have hcz17_1 : w16.cell? ⟨gb108, 1, none⟩ = some (.int .i64 a0_1) := (blk_cell BK108.out 1).trans rfl; have hfz17_0 := blk_frozen BK108.out 0; have hfz17_1 := blk_frozen BK108.out 1) | ((with_reducible refine gate_callee (f := 41) rfl ?_); refine goesL_ (some 25) rfl rfl Try.func41 (by kernel_rfl) rfl #[.int .i64 a2, .int .i64 0, .int .i64 (wrap64 (a0_1 - 1))] rfl (by simp only [List.map_toArray, List.map_cons, List.map_nil] <;> rfl) ?_; (with_reducible refine (call_within.calls a2 0 (wrap64 (a0_1 - 1)) true _ A6.out).mono ?_); rintro e w' ⟨rfl, ⟨nd, rfl⟩⟩; refine ⟨_, rfl, ?_⟩; (try (rw [drewN_self w16]; generalize hq_ : World.drewN w16 _ = w16; have n0_ : Aside0 (w16.heap[gb108]? = some (.cells #[.int .i64 a0_0, .int .i64 a0_1] 23 (0, 0))) := ⟨by rw [← hq_]; exact BK108.out⟩; have n1_ : Aside0 (w16.heap[gb109]? = some (.cells #[.slice A1_0 l1_0.length c1_0, .slice A1_1 l1_1.length c1_1] 27 (0, 0))) := ⟨by rw [← hq_]; exact BK109.out⟩; have n2_ : Aside0 (w16.heap[gb110]? = some (.cells #[.slice none 0 0, .slice none 0 0, .slice none 0 0] 47 (0, 0))) := ⟨by rw [← hq_]; exact BK110.out⟩; have n3_ : Aside0 (Below w.heap.size w w16) := ⟨by rw [← hq_]; exact HB.out⟩; clear BK108 BK109 BK110 HB hq_; have BK108 := n0_; have BK109 := n1_; have BK110 := n2_; have HB := n3_; clear n0_ n1_ n2_ n3_)); (try (have hcz18_0 : w16.cell? ⟨gb108, 0, none⟩ = some (.int .i64 a0_0) := (blk_cell BK108.out 0).trans rfl)); (try (have hcz18_1 : w16.cell? ⟨gb108, 1, none⟩ = some (.int .i64 a0_1) := (blk_cell BK108.out 1).trans rfl)); (try (have hfz18_0 := blk_frozen BK108.out 0)); (try (have hfz18_1 := blk_frozen BK108.out 1))) | ((with_reducible refine gate_dst (N := 9) rfl ?_); refine box_event ?hg (N := 9) ?hd (cs := #[.slice none 0 0, .slice none 0 0, .slice none 0 0]) (t := 47) ?hr ?_; (case hd => rfl); (case hg => rfl); (case hr => go_simp <;> rfl); intro gb113 hg w19 hbox hb; have BK113 := Aside0.mk hbox; have GW113 := sGe hg; have GE113 := sGe hg; have NB108_113 := sNl BK108 hg; have NB113_108 := sNg BK108 hg; have NB109_113 := sNl BK109 hg; have NB113_109 := sNg BK109 hg; have NB110_113 := sNl BK110 hg; have NB113_110 := sNg BK110 hg; replace BK108 := sBk BK108 hb; replace BK109 := sBk BK109 hb; replace BK110 := sBk BK110 hb; replace HB := sHb hb; clear hb hbox hg; have hnb20 := NB113_108.out; have hnc20 := NB108_113.out; have hnb21 := NB113_109.out; have hnc21 := NB109_113.out; have hnb22 := NB113_110.out; have hnc22 := NB110_113.out; have hcz23_0 : w19.cell? ⟨gb113, 0, none⟩ = some (.slice none 0 0) := (blk_cell BK113.out 0).trans rfl; have hcz23_1 : w19.cell? ⟨gb113, 1, none⟩ = some (.slice none 0 0) := (blk_cell BK113.out 1).trans rfl; have hcz23_2 : w19.cell? ⟨gb113, 2, none⟩ = some (.slice none 0 0) := (blk_cell BK113.out 2).trans rfl; have hfz23_0 := blk_frozen BK113.out 0; have hfz23_1 := blk_frozen BK113.out 1; have hfz23_2 := blk_frozen BK113.out 2; have hcz24_0 : w19.cell? ⟨gb109, 0, none⟩ = some (.slice A1_0 l1_0.length c1_0) := (blk_cell BK109.out 0).trans rfl; have hcz24_1 : w19.cell? ⟨gb109, 1, none⟩ = some (.slice A1_1 l1_1.length c1_1) := (blk_cell BK109.out 1).trans rfl; have hfz24_0 := blk_frozen BK109.out 0; have hfz24_1 := blk_frozen BK109.out 1))
   go_loopg [32] k (fun kq v32 w' => ∃ (x32_1 : Int) (x114000_1 : List Int) (u114000 : Value), v32 = .int .i64 x32_1 ∧ Aside0 (call_View.l0 kq a2 l1_1 (l1_1.length : Int) x32_1 l1_0 l1_1 x114000_1 = some (r1, r2, r3, r4)) ∧ Aside0 (kq ≤ k) ∧ Aside0 (Kd.R (Kd.int .i64) 3 w' w.heap.size (fun _ => True) u114000 x114000_1) ∧ Aside0 (w'.heap[gb108]? = some (.cells #[.int .i64 a0_0, .int .i64 a0_1] 23 (0, 0))) ∧ Aside0 (w'.heap[gb109]? = some (.cells #[(.slice A1_0 l1_0.length c1_0), (.slice A1_1 l1_1.length c1_1)] 27 (0, 0))) ∧ Aside0 (w'.heap[gb110]? = some (.cells #[(.slice none 0 0), (.slice none 0 0), (.slice none 0 0)] 47 (0, 0))) ∧ Aside0 (w'.heap[gb113]? = some (.cells #[u114000, (.slice none 0 0), (.slice none 0 0)] 47 (0, 0))) ∧ Aside0 (Below w.heap.size w w'))
   case atStart => exact ⟨(0), (([] : List Int)), (.slice none 0 0), (by first | rfl | (simp; done) | (simp [*]; done)), H', ⟨Nat.le_refl _⟩, ⟨by first | exact Kd.R_nil _ _ _ _ _ | exact Kd.N_nil _ _ _ _ _ | exact Kd.V_nil _ _ _ _ _ | exact Kd.Q_nil _ _ _ _ _ | exact Kd.S_nil _ _ _ _ _⟩, ⟨bka BK108⟩, ⟨bka BK109⟩, ⟨bka BK110⟩, ⟨by (with_reducible repeat (first | refine blk_drewN ?_ _ | refine blk_drew ?_ | refine blk_alloc ?_ _)); refine blk_put (cs := #[.slice none 0 0, .slice none 0 0, .slice none 0 0]) ?_ 2 _ rfl; (with_reducible repeat (first | refine blk_drewN ?_ _ | refine blk_drew ?_ | refine blk_alloc ?_ _)); refine blk_put (cs := #[.slice none 0 0, .slice none 0 0, .slice none 0 0]) ?_ 1 _ rfl; (with_reducible repeat (first | refine blk_drewN ?_ _ | refine blk_drew ?_ | refine blk_alloc ?_ _)); refine blk_put (cs := #[.slice none 0 0, .slice none 0 0, .slice none 0 0]) ?_ 0 _ rfl; (with_reducible repeat (first | refine blk_drewN ?_ _ | refine blk_drew ?_ | refine blk_alloc ?_ _)); exact BK113.out⟩, ⟨bel⟩⟩
   case round =>
    clear H'
    try clear c1
    try clear c2
    try clear p2
    try clear c4
    try clear c5
    try clear c5b0
    try clear c5b1
    try clear p6
    try clear c7
    try clear c11
    try clear c12
    try clear c14
    try clear c19
    try clear c20
    try clear c21
    try clear c22
    try clear hcz13_0
    try clear hcz13_1
    try clear hcz15_0
    try clear hcz15_1
    try clear hcz17_0
    try clear hcz17_1
    try clear hcz18_0
    try clear hcz18_1
    try clear hcz23_0
    try clear hcz23_1
    try clear hcz23_2
    try clear hcz24_0
    try clear hcz24_1
    try clear hfz13_0
    try clear hfz13_1
    try clear hfz15_0
    try clear hfz15_1
    try clear hfz17_0
    try clear hfz17_1
    try clear hfz18_0
    try clear hfz18_1
    try clear hfz23_0
    try clear hfz23_1
    try clear hfz23_2
    try clear hfz24_0
    try clear hfz24_1
    obtain ⟨x32_1, x114000_1, u114000, rfl, HA, HK1, HO_114000, BK108, BK109, BK110, BK113, HB⟩ := hrel
    cases gk with
    | zero => exact absurd HA.out (by simp [call_View.l0])
    | succ k1 =>
     have H := HA.out
     clear HA
     simp only [call_View.l0] at H
     by_cases c25 : x32_1 < (l1_1.length : Int)
     ·rw [if_pos c25] at H
      have c25b0 : decide (x32_1 < (l1_1.length : Int)) = true := decide_eq_true c25
      clear c25
      by_cases c26 : 0 ≤ x32_1
      ·rw [if_pos c26] at H
       have c26b0 : decide (0 ≤ x32_1) = true := decide_eq_true c26
       clear c26
       by_cases c27 : x32_1 < (l1_1.length : Int)
       ·rw [if_pos c27] at H
        have c27b0 : decide (x32_1 < (l1_1.length : Int)) = true := decide_eq_true c27
        clear c27
        by_cases c28 : ((rd_T62 l1_1 x32_1).f0) = a2
        ·rw [if_pos c28] at H
         have c28b0 : (((rd_T62 l1_1 x32_1).f0) == a2) = true := beq_iff_eq.mpr c28
         have c28b1 : (((rd_T62 l1_1 x32_1).f0) != a2) = false := bne_eq_false_iff_eq.mpr c28
         clear c28
         by_cases c29 : x114000_1.length < 17592186044416
         ·rw [if_pos c29] at H
          have LMc29 := Aside0.mk c29
          clear c29
          obtain ⟨y116, hy116⟩ : ∃ y_ : List Int, y_ = (x114000_1 ++ [(rd_T62 l1_1 x32_1).f1]) := ⟨_, rfl⟩
          replace H : (call_View.l0 k1 a2 l1_1 (l1_1.length : Int) (wrap64 (x32_1 + 1)) l1_0 l1_1 y116) = some (r1, r2, r3, r4) := by first | (rw [hy116]; with_reducible exact H) | (have H2_ := (Option.bind_some _ _).symm.trans H; rw [hy116]; with_reducible exact H2_) | (have H2_ := (Option.bind_some _ _).symm.trans H; with_reducible exact H2_) | with_reducible exact H | (rw [hy116]; exact H) | exact H
          have Ny116 := Aside0.mk hy116
          clear hy116
          have H' := Aside0.mk H
          clear H
          have p114 : 0 ≤ (x32_1 : Int) := of_decide_eq_true (by assumption)
          have q114 : x32_1 < (l1_1.length : Int) := of_decide_eq_true (by assumption)
          obtain ⟨ad114, e114, hx114_0, hx114_1⟩ := at_T62 HR1_1.out x32_1 p114 q114
          cases e114
          replace hx114_0 := (HB.out.cell (World.block_lt_of_cell? w _ hx114_0)).trans hx114_0
          replace hx114_1 := (HB.out.cell (World.block_lt_of_cell? w _ hx114_1)).trans hx114_1
          replace p114 := eq_true p114
          replace q114 := eq_true q114
          go_wp2_with (first | ((with_reducible refine gate_dst (N := 11) rfl ?_); refine box_event ?hg (N := 11) ?hd (cs := #[.int .i64 0, .int .i64 0]) (t := 62) ?hr ?_; (case hd => rfl); (case hg => rfl); (case hr => go_simp <;> rfl); intro gb115 hg w30 hbox hb; have BK115 := Aside0.mk hbox; have GW115 := sGe hg; have GE115 := sGe hg; have NB108_115 := sNl BK108 hg; have NB115_108 := sNg BK108 hg; have NB109_115 := sNl BK109 hg; have NB115_109 := sNg BK109 hg; have NB110_115 := sNl BK110 hg; have NB115_110 := sNg BK110 hg; have NB113_115 := sNl BK113 hg; have NB115_113 := sNg BK113 hg; replace HO_114000 := sRb HO_114000 hb; replace BK108 := sBk BK108 hb; replace BK109 := sBk BK109 hb; replace BK110 := sBk BK110 hb; replace BK113 := sBk BK113 hb; replace HB := sHb hb; clear hb hbox hg; have hnb31 := NB115_108.out; have hnc31 := NB108_115.out; have hnb32 := NB115_109.out; have hnc32 := NB109_115.out; have hnb33 := NB115_110.out; have hnc33 := NB110_115.out; have hnb34 := NB115_113.out; have hnc34 := NB113_115.out; have hcz35_0 : w30.cell? ⟨gb115, 0, none⟩ = some (.int .i64 0) := (blk_cell BK115.out 0).trans rfl; have hcz35_1 : w30.cell? ⟨gb115, 1, none⟩ = some (.int .i64 0) := (blk_cell BK115.out 1).trans rfl; have hfz35_0 := blk_frozen BK115.out 0; have hfz35_1 := blk_frozen BK115.out 1; have hnb36 := NB113_108.out; have hnc36 := NB108_113.out; have hnb37 := NB113_109.out; have hnc37 := NB109_113.out; have hnb38 := NB113_110.out; have hnc38 := NB110_113.out; have hcz39_0 : w30.cell? ⟨gb113, 0, none⟩ = some (u114000) := (blk_cell BK113.out 0).trans rfl; have hcz39_1 : w30.cell? ⟨gb113, 1, none⟩ = some (.slice none 0 0) := (blk_cell BK113.out 1).trans rfl; have hcz39_2 : w30.cell? ⟨gb113, 2, none⟩ = some (.slice none 0 0) := (blk_cell BK113.out 2).trans rfl; have hfz39_0 := blk_frozen BK113.out 0; have hfz39_1 := blk_frozen BK113.out 1; have hfz39_2 := blk_frozen BK113.out 2) | ((with_reducible refine gate_builtin (b := .append) (xs := #[.tmp 41, .tmp 44]) rfl ?_); at_builtin; refine Kd.R_append (Kd.int .i64) (w0 := w) w.heap.size rfl (.tmp 41) (.tmp 44) 45 3 (.int .i64 0) 8 rfl Try.underlying45 info3 rfl (by decide) (by omega) u114000 x114000_1 ((rd_T62 l1_1 x32_1).f1) [.int .i64 ((rd_T62 l1_1 x32_1).f1)] (fun _ => True) (fun _ => False) rfl (by first | (go_simp; done) | (go_simp; rfl)) ?aP (fun _ hk => hk.elim) ?aF ?aO ?aB ?aS ?aL ?_; (case aP => exact rfl); (case aB => exact bel); (case aF => exact (fun _ _ => trivial)); (case aO => exact (by (with_reducible repeat (first | apply Kd.R_alloc | apply Kd.R_drewN | apply Kd.R_drew)); exact Kd.R_mono (Kd.R_far (Kd.R_far (Kd.R_types HO_114000.out BK115.out (by decide)) (fun _ hk => hk.2) (.int .i64 ((rd_T62 l1_1 x32_1).f0))) (fun _ hk => hk.2) (.int .i64 ((rd_T62 l1_1 x32_1).f1))) (fun _ hk => trivial))); (case aS => exact (below_size bel)); (case aL => have := LMc29.out; omega); intro v117 w40 ho hb hg hat; rw [← Ny116.out] at ho; have HO118 := Aside0.mk ho; replace BK108 := Aside0.mk (blk_grown (g := gb108) (o := .cells #[.int .i64 a0_0, .int .i64 a0_1] 23 (0, 0)) (bka BK108) hg (Kd.R_ne HO_114000.out BK108.out (by decide))); replace BK109 := Aside0.mk (blk_grown (g := gb109) (o := .cells #[.slice A1_0 l1_0.length c1_0, .slice (some ad114) l1_1.length c1_1] 27 (0, 0)) (bka BK109) hg (Kd.R_ne HO_114000.out BK109.out (by decide))); replace BK110 := Aside0.mk (blk_grown (g := gb110) (o := .cells #[.slice none 0 0, .slice none 0 0, .slice none 0 0] 47 (0, 0)) (bka BK110) hg (Kd.R_ne HO_114000.out BK110.out (by decide))); replace BK113 := Aside0.mk (blk_grown (g := gb113) (o := .cells #[u114000, .slice none 0 0, .slice none 0 0] 47 (0, 0)) (bka BK113) hg (Kd.R_ne HO_114000.out BK113.out (by decide))); replace BK115 := Aside0.mk (blk_grown (g := gb115) (o := .cells #[.int .i64 ((rd_T62 l1_1 x32_1).f0), .int .i64 ((rd_T62 l1_1 x32_1).f1)] 62 (0, 0)) (by (with_reducible repeat (first | refine blk_drewN ?_ _ | refine blk_drew ?_ | refine blk_alloc ?_ _)); refine blk_put (cs := #[.int .i64 ((rd_T62 l1_1 x32_1).f0), .int .i64 0]) ?_ 1 _ rfl; (with_reducible repeat (first | refine blk_drewN ?_ _ | refine blk_drew ?_ | refine blk_alloc ?_ _)); refine blk_put (cs := #[.int .i64 0, .int .i64 0]) ?_ 0 _ rfl; (with_reducible repeat (first | refine blk_drewN ?_ _ | refine blk_drew ?_ | refine blk_alloc ?_ _)); exact BK115.out) hg (Kd.R_ne HO_114000.out BK115.out (by decide))); replace HB := Aside0.mk hb; clear HO_114000; clear ho hb hg hat; obtain ⟨Ao41, co41, eo41⟩ := Kd.R_slice HO118.out; subst eo41; have hcz42_0 : w40.cell? ⟨gb113, 0, none⟩ = some (u114000) := (blk_cell BK113.out 0).trans rfl; have hcz42_1 : w40.cell? ⟨gb113, 1, none⟩ = some (.slice none 0 0) := (blk_cell BK113.out 1).trans rfl; have hcz42_2 : w40.cell? ⟨gb113, 2, none⟩ = some (.slice none 0 0) := (blk_cell BK113.out 2).trans rfl; have hfz42_0 := blk_frozen BK113.out 0; have hfz42_1 := blk_frozen BK113.out 1; have hfz42_2 := blk_frozen BK113.out 2))
          go_roundg k1
          case measure => have := HK1.out; omega
          case rel => exact ⟨(wrap64 (x32_1 + 1)), (y116), (.slice Ao41 y116.length co41), (by first | rfl | (simp; done) | (simp [*]; done)), H', ⟨by have := HK1.out; omega⟩, ⟨by (with_reducible repeat (first | apply Kd.R_alloc | apply Kd.R_drewN | apply Kd.R_drew)); exact Kd.R_mono (Kd.R_far (Kd.R_types HO118.out BK113.out (by decide)) (fun _ hk => hk.2) _) (fun _ hk => trivial)⟩, ⟨bka BK108⟩, ⟨bka BK109⟩, ⟨bka BK110⟩, ⟨by (with_reducible repeat (first | refine blk_drewN ?_ _ | refine blk_drew ?_ | refine blk_alloc ?_ _)); refine blk_put (cs := #[u114000, .slice none 0 0, .slice none 0 0]) ?_ 0 _ rfl; (with_reducible repeat (first | refine blk_drewN ?_ _ | refine blk_drew ?_ | refine blk_alloc ?_ _)); exact BK113.out⟩, ⟨bel⟩⟩
         ·rw [if_neg c29] at H
          exact absurd H (by simp)
        ·rw [if_neg c28] at H
         have c28b0 : (((rd_T62 l1_1 x32_1).f0) == a2) = false := beq_eq_false_iff_ne.mpr c28
         have c28b1 : (((rd_T62 l1_1 x32_1).f0) != a2) = true := bne_iff_ne.mpr c28
         have H' := Aside0.mk H
         clear H
         have p114 : 0 ≤ (x32_1 : Int) := of_decide_eq_true (by assumption)
         have q114 : x32_1 < (l1_1.length : Int) := of_decide_eq_true (by assumption)
         obtain ⟨ad114, e114, hx114_0, hx114_1⟩ := at_T62 HR1_1.out x32_1 p114 q114
         cases e114
         replace hx114_0 := (HB.out.cell (World.block_lt_of_cell? w _ hx114_0)).trans hx114_0
         replace hx114_1 := (HB.out.cell (World.block_lt_of_cell? w _ hx114_1)).trans hx114_1
         replace p114 := eq_true p114
         replace q114 := eq_true q114
         go_wp2_with (first | ((with_reducible refine gate_dst (N := 11) rfl ?_); refine box_event ?hg (N := 11) ?hd (cs := #[.int .i64 0, .int .i64 0]) (t := 62) ?hr ?_; (case hd => rfl); (case hg => rfl); (case hr => go_simp <;> rfl); intro gb115 hg w43 hbox hb; have BK115 := Aside0.mk hbox; have GW115 := sGe hg; have GE115 := sGe hg; have NB108_115 := sNl BK108 hg; have NB115_108 := sNg BK108 hg; have NB109_115 := sNl BK109 hg; have NB115_109 := sNg BK109 hg; have NB110_115 := sNl BK110 hg; have NB115_110 := sNg BK110 hg; have NB113_115 := sNl BK113 hg; have NB115_113 := sNg BK113 hg; replace HO_114000 := sRb HO_114000 hb; replace BK108 := sBk BK108 hb; replace BK109 := sBk BK109 hb; replace BK110 := sBk BK110 hb; replace BK113 := sBk BK113 hb; replace HB := sHb hb; clear hb hbox hg; have hnb44 := NB115_108.out; have hnc44 := NB108_115.out; have hnb45 := NB115_109.out; have hnc45 := NB109_115.out; have hnb46 := NB115_110.out; have hnc46 := NB110_115.out; have hnb47 := NB115_113.out; have hnc47 := NB113_115.out; have hcz48_0 : w43.cell? ⟨gb115, 0, none⟩ = some (.int .i64 0) := (blk_cell BK115.out 0).trans rfl; have hcz48_1 : w43.cell? ⟨gb115, 1, none⟩ = some (.int .i64 0) := (blk_cell BK115.out 1).trans rfl; have hfz48_0 := blk_frozen BK115.out 0; have hfz48_1 := blk_frozen BK115.out 1))
         go_roundg k1
         case measure => have := HK1.out; omega
         case rel => exact ⟨(wrap64 (x32_1 + 1)), (x114000_1), (u114000), (by first | rfl | (simp; done) | (simp [*]; done)), H', ⟨by have := HK1.out; omega⟩, ⟨by (with_reducible repeat (first | apply Kd.R_alloc | apply Kd.R_drewN | apply Kd.R_drew)); exact Kd.R_mono (Kd.R_far (Kd.R_far (Kd.R_types HO_114000.out BK115.out (by decide)) (fun _ hk => hk.2) (.int .i64 ((rd_T62 l1_1 x32_1).f0))) (fun _ hk => hk.2) (.int .i64 ((rd_T62 l1_1 x32_1).f1))) (fun _ hk => trivial)⟩, ⟨bka BK108⟩, ⟨bka BK109⟩, ⟨bka BK110⟩, ⟨bka BK113⟩, ⟨bel⟩⟩
       ·rw [if_neg c27] at H
        exact absurd H (by simp)
      ·rw [if_neg c26] at H
       exact absurd H (by simp)
     ·rw [if_neg c25] at H
      have c25b0 : decide (x32_1 < (l1_1.length : Int)) = false := decide_eq_false c25
      clear c25
      have H' := Aside0.mk H
      clear H
      have hnb49 := NB109_108.out
      have hnc49 := NB108_109.out
      have hnb50 := NB109_110.out
      have hnc50 := NB110_109.out
      have hnb51 := NB109_113.out
      have hnc51 := NB113_109.out
      have hcz52_0 : wr.cell? ⟨gb109, 0, none⟩ = some (.slice A1_0 l1_0.length c1_0) := (blk_cell BK109.out 0).trans rfl
      have hcz52_1 : wr.cell? ⟨gb109, 1, none⟩ = some (.slice A1_1 l1_1.length c1_1) := (blk_cell BK109.out 1).trans rfl
      have hfz52_0 := blk_frozen BK109.out 0
      have hfz52_1 := blk_frozen BK109.out 1
      go_wp2
      go_loopg [51] k1 (fun kq v51 w' => ∃ (x51_2 : Int) (x114001_2 : List Int) (x114002_2 : List Int) (u114001 : Value) (u114002 : Value), v51 = .int .i64 x51_2 ∧ Aside0 (call_View.l1 kq a2 l1_0 (l1_0.length : Int) x51_2 x114000_1 x114001_2 x114002_2 = some (r1, r2, r3, r4)) ∧ Aside0 (kq ≤ k1) ∧ Aside0 (Kd.R (Kd.int .i64) 3 w' w.heap.size (fun k_ => some k_ ≠ (u114001 : Value).ownBlock ∧ some k_ ≠ (u114002 : Value).ownBlock) u114000 x114000_1) ∧ Aside0 (Kd.R (Kd.int .i64) 3 w' w.heap.size (fun k_ => some k_ ≠ (u114000 : Value).ownBlock ∧ some k_ ≠ (u114002 : Value).ownBlock) u114001 x114001_2) ∧ Aside0 (Kd.R (Kd.int .i64) 3 w' w.heap.size (fun k_ => some k_ ≠ (u114000 : Value).ownBlock ∧ some k_ ≠ (u114001 : Value).ownBlock) u114002 x114002_2) ∧ Aside0 (w'.heap[gb108]? = some (.cells #[.int .i64 a0_0, .int .i64 a0_1] 23 (0, 0))) ∧ Aside0 (w'.heap[gb109]? = some (.cells #[(.slice A1_0 l1_0.length c1_0), (.slice A1_1 l1_1.length c1_1)] 27 (0, 0))) ∧ Aside0 (w'.heap[gb110]? = some (.cells #[(.slice none 0 0), (.slice none 0 0), (.slice none 0 0)] 47 (0, 0))) ∧ Aside0 (w'.heap[gb113]? = some (.cells #[u114000, u114001, u114002] 47 (0, 0))) ∧ Aside0 (Below w.heap.size w w'))
      case atStart => exact ⟨(0), (([] : List Int)), (([] : List Int)), (.slice none 0 0), (.slice none 0 0), rfl, H', ⟨Nat.le_refl _⟩, ⟨by (with_reducible repeat (first | apply Kd.R_alloc | apply Kd.R_drewN | apply Kd.R_drew)); exact Kd.R_mono HO_114000.out (fun _ hk => ⟨(by simp [Value.ownBlock]), (by simp [Value.ownBlock])⟩)⟩, ⟨by first | exact Kd.R_nil _ _ _ _ _ | exact Kd.N_nil _ _ _ _ _ | exact Kd.V_nil _ _ _ _ _ | exact Kd.Q_nil _ _ _ _ _ | exact Kd.S_nil _ _ _ _ _⟩, ⟨by first | exact Kd.R_nil _ _ _ _ _ | exact Kd.N_nil _ _ _ _ _ | exact Kd.V_nil _ _ _ _ _ | exact Kd.Q_nil _ _ _ _ _ | exact Kd.S_nil _ _ _ _ _⟩, BK108, BK109, BK110, BK113, HB⟩
      case round =>
       clear H'
       try clear c1
       try clear p1
       try clear q1
       try clear hx1
       try clear c2
       try clear p2
       try clear c3
       try clear c4
       try clear c5
       try clear c5b0
       try clear c5b1
       try clear p6
       try clear c7
       try clear c11
       try clear p11
       try clear q11
       try clear hx11
       try clear c12
       try clear c14
       try clear c19
       try clear c20
       try clear c21
       try clear c22
       try clear c25
       try clear c25b0
       try clear c26
       try clear c26b0
       try clear c27
       try clear c27b0
       try clear c28
       try clear c28b0
       try clear c28b1
       try clear c29
       try clear c31
       try clear c32
       try clear c33
       try clear c34
       try clear c36
       try clear c37
       try clear c38
       try clear c41
       try clear c44
       try clear c45
       try clear c46
       try clear c47
       try clear c49
       try clear c50
       try clear c51
       try clear hcz13_0
       try clear hcz13_1
       try clear hcz15_0
       try clear hcz15_1
       try clear hcz17_0
       try clear hcz17_1
       try clear hcz18_0
       try clear hcz18_1
       try clear hcz23_0
       try clear hcz23_1
       try clear hcz23_2
       try clear hcz24_0
       try clear hcz24_1
       try clear hcz35_0
       try clear hcz35_1
       try clear hcz39_0
       try clear hcz39_1
       try clear hcz39_2
       try clear hcz42_0
       try clear hcz42_1
       try clear hcz42_2
       try clear hcz48_0
       try clear hcz48_1
       try clear hcz52_0
       try clear hcz52_1
       try clear hfz13_0
       try clear hfz13_1
       try clear hfz15_0
       try clear hfz15_1
       try clear hfz17_0
       try clear hfz17_1
       try clear hfz18_0
       try clear hfz18_1
       try clear hfz23_0
       try clear hfz23_1
       try clear hfz23_2
       try clear hfz24_0
       try clear hfz24_1
       try clear hfz35_0
       try clear hfz35_1
       try clear hfz39_0
       try clear hfz39_1
       try clear hfz39_2
       try clear hfz42_0
       try clear hfz42_1
       try clear hfz42_2
       try clear hfz48_0
       try clear hfz48_1
       try clear hfz52_0
       try clear hfz52_1
       try clear hx114_0
       try clear hx114_1
       try clear p114
       try clear p2
       try clear p6
       try clear q114
       obtain ⟨x51_2, x114001_2, x114002_2, u114001, u114002, rfl, HA, HK2, HO_114000, HO_114001, HO_114002, BK108, BK109, BK110, BK113, HB⟩ := hrel
       cases gk with
       | zero => exact absurd HA.out (by simp [call_View.l1])
       | succ k2 =>
        have H := HA.out
        clear HA
        simp only [call_View.l1] at H
        by_cases c53 : x51_2 < (l1_0.length : Int)
        ·rw [if_pos c53] at H
         have c53b0 : decide (x51_2 < (l1_0.length : Int)) = true := decide_eq_true c53
         clear c53
         by_cases c54 : 0 ≤ x51_2
         ·rw [if_pos c54] at H
          have c54b0 : decide (0 ≤ x51_2) = true := decide_eq_true c54
          clear c54
          by_cases c55 : x51_2 < (l1_0.length : Int)
          ·rw [if_pos c55] at H
           have c55b0 : decide (x51_2 < (l1_0.length : Int)) = true := decide_eq_true c55
           clear c55
           by_cases c56 : ((rd_T56 l1_0 x51_2).f2) = a2
           ·rw [if_pos c56] at H
            have c56b0 : (((rd_T56 l1_0 x51_2).f2) == a2) = true := beq_iff_eq.mpr c56
            have c56b1 : (((rd_T56 l1_0 x51_2).f2) != a2) = false := bne_eq_false_iff_eq.mpr c56
            clear c56
            by_cases c57 : ((rd_T56 l1_0 x51_2).f1) > 0
            ·rw [if_pos c57] at H
             have c57b0 : decide (0 < ((rd_T56 l1_0 x51_2).f1)) = true := decide_eq_true c57
             clear c57
             by_cases c58 : x114001_2.length < 17592186044416
             ·rw [if_pos c58] at H
              have LMc58 := Aside0.mk c58
              clear c58
              obtain ⟨y121, hy121⟩ : ∃ y_ : List Int, y_ = (x114001_2 ++ [(rd_T56 l1_0 x51_2).f0]) := ⟨_, rfl⟩
              replace H : (call_View.l1 k2 a2 l1_0 (l1_0.length : Int) (wrap64 (x51_2 + 1)) x114000_1 y121 x114002_2) = some (r1, r2, r3, r4) := by first | (rw [hy121]; with_reducible exact H) | (have H2_ := (Option.bind_some _ _).symm.trans H; rw [hy121]; with_reducible exact H2_) | (have H2_ := (Option.bind_some _ _).symm.trans H; with_reducible exact H2_) | with_reducible exact H | (rw [hy121]; exact H) | exact H
              have Ny121 := Aside0.mk hy121
              clear hy121
              have H' := Aside0.mk H
              clear H
              have p119 : 0 ≤ (x51_2 : Int) := of_decide_eq_true (by assumption)
              have q119 : x51_2 < (l1_0.length : Int) := of_decide_eq_true (by assumption)
              obtain ⟨ad119, e119, hx119_0, hx119_1, hx119_2⟩ := at_T56 HR1_0.out x51_2 p119 q119
              cases e119
              replace hx119_0 := (HB.out.cell (World.block_lt_of_cell? w _ hx119_0)).trans hx119_0
              replace hx119_1 := (HB.out.cell (World.block_lt_of_cell? w _ hx119_1)).trans hx119_1
              replace hx119_2 := (HB.out.cell (World.block_lt_of_cell? w _ hx119_2)).trans hx119_2
              replace p119 := eq_true p119
              replace q119 := eq_true q119
              go_wp2_with (first | ((with_reducible refine gate_dst (N := 13) rfl ?_); refine box_event ?hg (N := 13) ?hd (cs := #[.int .i64 0, .int .i64 0, .int .i64 0]) (t := 56) ?hr ?_; (case hd => rfl); (case hg => rfl); (case hr => go_simp <;> rfl); intro gb120 hg w59 hbox hb; have BK120 := Aside0.mk hbox; have GW120 := sGe hg; have GE120 := sGe hg; have NB108_120 := sNl BK108 hg; have NB120_108 := sNg BK108 hg; have NB109_120 := sNl BK109 hg; have NB120_109 := sNg BK109 hg; have NB110_120 := sNl BK110 hg; have NB120_110 := sNg BK110 hg; have NB113_120 := sNl BK113 hg; have NB120_113 := sNg BK113 hg; replace HO_114000 := sRb HO_114000 hb; replace HO_114001 := sRb HO_114001 hb; replace HO_114002 := sRb HO_114002 hb; replace BK108 := sBk BK108 hb; replace BK109 := sBk BK109 hb; replace BK110 := sBk BK110 hb; replace BK113 := sBk BK113 hb; replace HB := sHb hb; clear hb hbox hg; have hnb60 := NB120_108.out; have hnc60 := NB108_120.out; have hnb61 := NB120_109.out; have hnc61 := NB109_120.out; have hnb62 := NB120_110.out; have hnc62 := NB110_120.out; have hnb63 := NB120_113.out; have hnc63 := NB113_120.out; have hcz64_0 : w59.cell? ⟨gb120, 0, none⟩ = some (.int .i64 0) := (blk_cell BK120.out 0).trans rfl; have hcz64_1 : w59.cell? ⟨gb120, 1, none⟩ = some (.int .i64 0) := (blk_cell BK120.out 1).trans rfl; have hcz64_2 : w59.cell? ⟨gb120, 2, none⟩ = some (.int .i64 0) := (blk_cell BK120.out 2).trans rfl; have hfz64_0 := blk_frozen BK120.out 0; have hfz64_1 := blk_frozen BK120.out 1; have hfz64_2 := blk_frozen BK120.out 2; have hnb65 := NB113_108.out; have hnc65 := NB108_113.out; have hnb66 := NB113_109.out; have hnc66 := NB109_113.out; have hnb67 := NB113_110.out; have hnc67 := NB110_113.out; have hcz68_0 : w59.cell? ⟨gb113, 0, none⟩ = some (u114000) := (blk_cell BK113.out 0).trans rfl; have hcz68_1 : w59.cell? ⟨gb113, 1, none⟩ = some (u114001) := (blk_cell BK113.out 1).trans rfl; have hcz68_2 : w59.cell? ⟨gb113, 2, none⟩ = some (u114002) := (blk_cell BK113.out 2).trans rfl; have hfz68_0 := blk_frozen BK113.out 0; have hfz68_1 := blk_frozen BK113.out 1; have hfz68_2 := blk_frozen BK113.out 2) | ((with_reducible refine gate_builtin (b := .append) (xs := #[.tmp 72, .tmp 75]) rfl ?_); at_builtin; refine Kd.R_append (Kd.int .i64) (w0 := w) w.heap.size rfl (.tmp 72) (.tmp 75) 45 3 (.int .i64 0) 8 rfl Try.underlying45 info3 rfl (by decide) (by omega) u114001 x114001_2 ((rd_T56 l1_0 x51_2).f0) [.int .i64 ((rd_T56 l1_0 x51_2).f0)] (fun k_ => some k_ ≠ (u114000 : Value).ownBlock ∧ some k_ ≠ (u114002 : Value).ownBlock) (fun _ => False) rfl (by first | (go_simp; done) | (go_simp; rfl)) ?aP (fun _ hk => hk.elim) ?aF ?aO ?aB ?aS ?aL ?_; (case aP => exact rfl); (case aB => exact bel); (case aF => exact (fun k_ hk => ⟨Kd.fresh' (Kd.R_lt (by (with_reducible repeat (first | apply Kd.R_alloc | apply Kd.R_drewN | apply Kd.R_drew)); exact (Kd.R_mono (Kd.R_far (Kd.R_far (Kd.R_far (Kd.R_types HO_114000.out BK120.out (by decide)) (fun _ hk => hk.2) (.int .i64 ((rd_T56 l1_0 x51_2).f0))) (fun _ hk => hk.2) (.int .i64 ((rd_T56 l1_0 x51_2).f1))) (fun _ hk => hk.2) (.int .i64 ((rd_T56 l1_0 x51_2).f2))) (fun _ h_ => h_.1)))) k_ hk, Kd.fresh' (Kd.R_lt (by (with_reducible repeat (first | apply Kd.R_alloc | apply Kd.R_drewN | apply Kd.R_drew)); exact (Kd.R_mono (Kd.R_far (Kd.R_far (Kd.R_far (Kd.R_types HO_114002.out BK120.out (by decide)) (fun _ hk => hk.2) (.int .i64 ((rd_T56 l1_0 x51_2).f0))) (fun _ hk => hk.2) (.int .i64 ((rd_T56 l1_0 x51_2).f1))) (fun _ hk => hk.2) (.int .i64 ((rd_T56 l1_0 x51_2).f2))) (fun _ h_ => h_.1)))) k_ hk⟩)); (case aO => exact (by (with_reducible repeat (first | apply Kd.R_alloc | apply Kd.R_drewN | apply Kd.R_drew)); exact Kd.R_mono (Kd.R_far (Kd.R_far (Kd.R_far (Kd.R_types HO_114001.out BK120.out (by decide)) (fun _ hk => hk.2) (.int .i64 ((rd_T56 l1_0 x51_2).f0))) (fun _ hk => hk.2) (.int .i64 ((rd_T56 l1_0 x51_2).f1))) (fun _ hk => hk.2) (.int .i64 ((rd_T56 l1_0 x51_2).f2))) (fun _ hk => ⟨hk.1.1, hk.1.2⟩))); (case aS => exact (below_size bel)); (case aL => have := LMc58.out; omega); intro v122 w69 ho hb hg hat; rw [← Ny121.out] at ho; have HO123 := Aside0.mk ho; replace HO_114000 := Aside0.mk (Kd.R_after (ok := (fun k_ => some k_ ≠ (u114002 : Value).ownBlock)) (by (with_reducible repeat (first | apply Kd.R_alloc | apply Kd.R_drewN | apply Kd.R_drew)); exact Kd.R_mono (Kd.R_far (Kd.R_far (Kd.R_far (Kd.R_types HO_114000.out BK120.out (by decide)) (fun _ hk => hk.2) (.int .i64 ((rd_T56 l1_0 x51_2).f0))) (fun _ hk => hk.2) (.int .i64 ((rd_T56 l1_0 x51_2).f1))) (fun _ hk => hk.2) (.int .i64 ((rd_T56 l1_0 x51_2).f2))) (fun _ hk => ⟨hk.1.2, hk.1.1⟩)) hg hat); replace HO_114002 := Aside0.mk (Kd.R_after (ok := (fun k_ => some k_ ≠ (u114000 : Value).ownBlock)) (by (with_reducible repeat (first | apply Kd.R_alloc | apply Kd.R_drewN | apply Kd.R_drew)); exact Kd.R_mono (Kd.R_far (Kd.R_far (Kd.R_far (Kd.R_types HO_114002.out BK120.out (by decide)) (fun _ hk => hk.2) (.int .i64 ((rd_T56 l1_0 x51_2).f0))) (fun _ hk => hk.2) (.int .i64 ((rd_T56 l1_0 x51_2).f1))) (fun _ hk => hk.2) (.int .i64 ((rd_T56 l1_0 x51_2).f2))) (fun _ hk => ⟨hk.1.1, hk.1.2⟩)) hg hat); replace BK108 := Aside0.mk (blk_grown (g := gb108) (o := .cells #[.int .i64 a0_0, .int .i64 a0_1] 23 (0, 0)) (bka BK108) hg (Kd.R_ne HO_114001.out BK108.out (by decide))); replace BK109 := Aside0.mk (blk_grown (g := gb109) (o := .cells #[.slice (some ad119) l1_0.length c1_0, .slice A1_1 l1_1.length c1_1] 27 (0, 0)) (bka BK109) hg (Kd.R_ne HO_114001.out BK109.out (by decide))); replace BK110 := Aside0.mk (blk_grown (g := gb110) (o := .cells #[.slice none 0 0, .slice none 0 0, .slice none 0 0] 47 (0, 0)) (bka BK110) hg (Kd.R_ne HO_114001.out BK110.out (by decide))); replace BK113 := Aside0.mk (blk_grown (g := gb113) (o := .cells #[u114000, u114001, u114002] 47 (0, 0)) (bka BK113) hg (Kd.R_ne HO_114001.out BK113.out (by decide))); replace BK120 := Aside0.mk (blk_grown (g := gb120) (o := .cells #[.int .i64 ((rd_T56 l1_0 x51_2).f0), .int .i64 ((rd_T56 l1_0 x51_2).f1), .int .i64 ((rd_T56 l1_0 x51_2).f2)] 56 (0, 0)) (by (with_reducible repeat (first | refine blk_drewN ?_ _ | refine blk_drew ?_ | refine blk_alloc ?_ _)); refine blk_put (cs := #[.int .i64 ((rd_T56 l1_0 x51_2).f0), .int .i64 ((rd_T56 l1_0 x51_2).f1), .int .i64 0]) ?_ 2 _ rfl; (with_reducible repeat (first | refine blk_drewN ?_ _ | refine blk_drew ?_ | refine blk_alloc ?_ _)); refine blk_put (cs := #[.int .i64 ((rd_T56 l1_0 x51_2).f0), .int .i64 0, .int .i64 0]) ?_ 1 _ rfl; (with_reducible repeat (first | refine blk_drewN ?_ _ | refine blk_drew ?_ | refine blk_alloc ?_ _)); refine blk_put (cs := #[.int .i64 0, .int .i64 0, .int .i64 0]) ?_ 0 _ rfl; (with_reducible repeat (first | refine blk_drewN ?_ _ | refine blk_drew ?_ | refine blk_alloc ?_ _)); exact BK120.out) hg (Kd.R_ne HO_114001.out BK120.out (by decide))); replace HB := Aside0.mk hb; clear HO_114001; clear ho hb hg hat; obtain ⟨Ao70, co70, eo70⟩ := Kd.R_slice HO123.out; subst eo70; have hcz71_0 : w69.cell? ⟨gb113, 0, none⟩ = some (u114000) := (blk_cell BK113.out 0).trans rfl; have hcz71_1 : w69.cell? ⟨gb113, 1, none⟩ = some (u114001) := (blk_cell BK113.out 1).trans rfl; have hcz71_2 : w69.cell? ⟨gb113, 2, none⟩ = some (u114002) := (blk_cell BK113.out 2).trans rfl; have hfz71_0 := blk_frozen BK113.out 0; have hfz71_1 := blk_frozen BK113.out 1; have hfz71_2 := blk_frozen BK113.out 2))
              go_roundg k2
              case measure => have := HK1.out; have := HK2.out; omega
              case rel => exact ⟨(wrap64 (x51_2 + 1)), (y121), (x114002_2), (.slice Ao70 y121.length co70), (u114002), (by first | rfl | (simp; done) | (simp [*]; done)), H', ⟨by have := HK1.out; have := HK2.out; omega⟩, ⟨by (with_reducible repeat (first | apply Kd.R_alloc | apply Kd.R_drewN | apply Kd.R_drew)); exact Kd.R_mono (Kd.R_far (Kd.R_types HO_114000.out BK113.out (by decide)) (fun _ hk => hk.2) _) (fun _ hk => ⟨hk.1.2, hk.1.1⟩)⟩, ⟨by (with_reducible repeat (first | apply Kd.R_alloc | apply Kd.R_drewN | apply Kd.R_drew)); exact Kd.R_mono (Kd.R_far (Kd.R_types HO123.out BK113.out (by decide)) (fun _ hk => hk.2) _) (fun _ hk => ⟨hk.1.1, hk.1.2⟩)⟩, ⟨by (with_reducible repeat (first | apply Kd.R_alloc | apply Kd.R_drewN | apply Kd.R_drew)); exact Kd.R_mono (Kd.R_far (Kd.R_types HO_114002.out BK113.out (by decide)) (fun _ hk => hk.2) _) (fun _ hk => ⟨hk.1.1, hk.1.2⟩)⟩, ⟨bka BK108⟩, ⟨bka BK109⟩, ⟨bka BK110⟩, ⟨by (with_reducible repeat (first | refine blk_drewN ?_ _ | refine blk_drew ?_ | refine blk_alloc ?_ _)); refine blk_put (cs := #[u114000, u114001, u114002]) ?_ 1 _ rfl; (with_reducible repeat (first | refine blk_drewN ?_ _ | refine blk_drew ?_ | refine blk_alloc ?_ _)); exact BK113.out⟩, ⟨bel⟩⟩
             ·rw [if_neg c58] at H
              exact absurd H (by simp)
            ·rw [if_neg c57] at H
             have c57b0 : decide (0 < ((rd_T56 l1_0 x51_2).f1)) = false := decide_eq_false c57
             clear c57
             by_cases c72 : x114002_2.length < 17592186044416
             ·rw [if_pos c72] at H
              have LMc72 := Aside0.mk c72
              clear c72
              obtain ⟨y124, hy124⟩ : ∃ y_ : List Int, y_ = (x114002_2 ++ [(rd_T56 l1_0 x51_2).f0]) := ⟨_, rfl⟩
              replace H : (call_View.l1 k2 a2 l1_0 (l1_0.length : Int) (wrap64 (x51_2 + 1)) x114000_1 x114001_2 y124) = some (r1, r2, r3, r4) := by first | (rw [hy124]; with_reducible exact H) | (have H2_ := (Option.bind_some _ _).symm.trans H; rw [hy124]; with_reducible exact H2_) | (have H2_ := (Option.bind_some _ _).symm.trans H; with_reducible exact H2_) | with_reducible exact H | (rw [hy124]; exact H) | exact H
              have Ny124 := Aside0.mk hy124
              clear hy124
              have H' := Aside0.mk H
              clear H
              have p119 : 0 ≤ (x51_2 : Int) := of_decide_eq_true (by assumption)
              have q119 : x51_2 < (l1_0.length : Int) := of_decide_eq_true (by assumption)
              obtain ⟨ad119, e119, hx119_0, hx119_1, hx119_2⟩ := at_T56 HR1_0.out x51_2 p119 q119
              cases e119
              replace hx119_0 := (HB.out.cell (World.block_lt_of_cell? w _ hx119_0)).trans hx119_0
              replace hx119_1 := (HB.out.cell (World.block_lt_of_cell? w _ hx119_1)).trans hx119_1
              replace hx119_2 := (HB.out.cell (World.block_lt_of_cell? w _ hx119_2)).trans hx119_2
              replace p119 := eq_true p119
              replace q119 := eq_true q119
              go_wp2_with (first | ((with_reducible refine gate_dst (N := 13) rfl ?_); refine box_event ?hg (N := 13) ?hd (cs := #[.int .i64 0, .int .i64 0, .int .i64 0]) (t := 56) ?hr ?_; (case hd => rfl); (case hg => rfl); (case hr => go_simp <;> rfl); intro gb120 hg w73 hbox hb; have BK120 := Aside0.mk hbox; have GW120 := sGe hg; have GE120 := sGe hg; have NB108_120 := sNl BK108 hg; have NB120_108 := sNg BK108 hg; have NB109_120 := sNl BK109 hg; have NB120_109 := sNg BK109 hg; have NB110_120 := sNl BK110 hg; have NB120_110 := sNg BK110 hg; have NB113_120 := sNl BK113 hg; have NB120_113 := sNg BK113 hg; replace HO_114000 := sRb HO_114000 hb; replace HO_114001 := sRb HO_114001 hb; replace HO_114002 := sRb HO_114002 hb; replace BK108 := sBk BK108 hb; replace BK109 := sBk BK109 hb; replace BK110 := sBk BK110 hb; replace BK113 := sBk BK113 hb; replace HB := sHb hb; clear hb hbox hg; have hnb74 := NB120_108.out; have hnc74 := NB108_120.out; have hnb75 := NB120_109.out; have hnc75 := NB109_120.out; have hnb76 := NB120_110.out; have hnc76 := NB110_120.out; have hnb77 := NB120_113.out; have hnc77 := NB113_120.out; have hcz78_0 : w73.cell? ⟨gb120, 0, none⟩ = some (.int .i64 0) := (blk_cell BK120.out 0).trans rfl; have hcz78_1 : w73.cell? ⟨gb120, 1, none⟩ = some (.int .i64 0) := (blk_cell BK120.out 1).trans rfl; have hcz78_2 : w73.cell? ⟨gb120, 2, none⟩ = some (.int .i64 0) := (blk_cell BK120.out 2).trans rfl; have hfz78_0 := blk_frozen BK120.out 0; have hfz78_1 := blk_frozen BK120.out 1; have hfz78_2 := blk_frozen BK120.out 2; have hnb79 := NB113_108.out; have hnc79 := NB108_113.out; have hnb80 := NB113_109.out; have hnc80 := NB109_113.out; have hnb81 := NB113_110.out; have hnc81 := NB110_113.out; have hcz82_0 : w73.cell? ⟨gb113, 0, none⟩ = some (u114000) := (blk_cell BK113.out 0).trans rfl; have hcz82_1 : w73.cell? ⟨gb113, 1, none⟩ = some (u114001) := (blk_cell BK113.out 1).trans rfl; have hcz82_2 : w73.cell? ⟨gb113, 2, none⟩ = some (u114002) := (blk_cell BK113.out 2).trans rfl; have hfz82_0 := blk_frozen BK113.out 0; have hfz82_1 := blk_frozen BK113.out 1; have hfz82_2 := blk_frozen BK113.out 2) | ((with_reducible refine gate_builtin (b := .append) (xs := #[.tmp 56, .tmp 59]) rfl ?_); at_builtin; refine Kd.R_append (Kd.int .i64) (w0 := w) w.heap.size rfl (.tmp 56) (.tmp 59) 45 3 (.int .i64 0) 8 rfl Try.underlying45 info3 rfl (by decide) (by omega) u114002 x114002_2 ((rd_T56 l1_0 x51_2).f0) [.int .i64 ((rd_T56 l1_0 x51_2).f0)] (fun k_ => some k_ ≠ (u114000 : Value).ownBlock ∧ some k_ ≠ (u114001 : Value).ownBlock) (fun _ => False) rfl (by first | (go_simp; done) | (go_simp; rfl)) ?aP (fun _ hk => hk.elim) ?aF ?aO ?aB ?aS ?aL ?_; (case aP => exact rfl); (case aB => exact bel); (case aF => exact (fun k_ hk => ⟨Kd.fresh' (Kd.R_lt (by (with_reducible repeat (first | apply Kd.R_alloc | apply Kd.R_drewN | apply Kd.R_drew)); exact (Kd.R_mono (Kd.R_far (Kd.R_far (Kd.R_far (Kd.R_types HO_114000.out BK120.out (by decide)) (fun _ hk => hk.2) (.int .i64 ((rd_T56 l1_0 x51_2).f0))) (fun _ hk => hk.2) (.int .i64 ((rd_T56 l1_0 x51_2).f1))) (fun _ hk => hk.2) (.int .i64 ((rd_T56 l1_0 x51_2).f2))) (fun _ h_ => h_.1)))) k_ hk, Kd.fresh' (Kd.R_lt (by (with_reducible repeat (first | apply Kd.R_alloc | apply Kd.R_drewN | apply Kd.R_drew)); exact (Kd.R_mono (Kd.R_far (Kd.R_far (Kd.R_far (Kd.R_types HO_114001.out BK120.out (by decide)) (fun _ hk => hk.2) (.int .i64 ((rd_T56 l1_0 x51_2).f0))) (fun _ hk => hk.2) (.int .i64 ((rd_T56 l1_0 x51_2).f1))) (fun _ hk => hk.2) (.int .i64 ((rd_T56 l1_0 x51_2).f2))) (fun _ h_ => h_.1)))) k_ hk⟩)); (case aO => exact (by (with_reducible repeat (first | apply Kd.R_alloc | apply Kd.R_drewN | apply Kd.R_drew)); exact Kd.R_mono (Kd.R_far (Kd.R_far (Kd.R_far (Kd.R_types HO_114002.out BK120.out (by decide)) (fun _ hk => hk.2) (.int .i64 ((rd_T56 l1_0 x51_2).f0))) (fun _ hk => hk.2) (.int .i64 ((rd_T56 l1_0 x51_2).f1))) (fun _ hk => hk.2) (.int .i64 ((rd_T56 l1_0 x51_2).f2))) (fun _ hk => ⟨hk.1.1, hk.1.2⟩))); (case aS => exact (below_size bel)); (case aL => have := LMc72.out; omega); intro v125 w83 ho hb hg hat; rw [← Ny124.out] at ho; have HO126 := Aside0.mk ho; replace HO_114000 := Aside0.mk (Kd.R_after (ok := (fun k_ => some k_ ≠ (u114001 : Value).ownBlock)) (by (with_reducible repeat (first | apply Kd.R_alloc | apply Kd.R_drewN | apply Kd.R_drew)); exact Kd.R_mono (Kd.R_far (Kd.R_far (Kd.R_far (Kd.R_types HO_114000.out BK120.out (by decide)) (fun _ hk => hk.2) (.int .i64 ((rd_T56 l1_0 x51_2).f0))) (fun _ hk => hk.2) (.int .i64 ((rd_T56 l1_0 x51_2).f1))) (fun _ hk => hk.2) (.int .i64 ((rd_T56 l1_0 x51_2).f2))) (fun _ hk => ⟨hk.1.1, hk.1.2⟩)) hg hat); replace HO_114001 := Aside0.mk (Kd.R_after (ok := (fun k_ => some k_ ≠ (u114000 : Value).ownBlock)) (by (with_reducible repeat (first | apply Kd.R_alloc | apply Kd.R_drewN | apply Kd.R_drew)); exact Kd.R_mono (Kd.R_far (Kd.R_far (Kd.R_far (Kd.R_types HO_114001.out BK120.out (by decide)) (fun _ hk => hk.2) (.int .i64 ((rd_T56 l1_0 x51_2).f0))) (fun _ hk => hk.2) (.int .i64 ((rd_T56 l1_0 x51_2).f1))) (fun _ hk => hk.2) (.int .i64 ((rd_T56 l1_0 x51_2).f2))) (fun _ hk => ⟨hk.1.1, hk.1.2⟩)) hg hat); replace BK108 := Aside0.mk (blk_grown (g := gb108) (o := .cells #[.int .i64 a0_0, .int .i64 a0_1] 23 (0, 0)) (bka BK108) hg (Kd.R_ne HO_114002.out BK108.out (by decide))); replace BK109 := Aside0.mk (blk_grown (g := gb109) (o := .cells #[.slice (some ad119) l1_0.length c1_0, .slice A1_1 l1_1.length c1_1] 27 (0, 0)) (bka BK109) hg (Kd.R_ne HO_114002.out BK109.out (by decide))); replace BK110 := Aside0.mk (blk_grown (g := gb110) (o := .cells #[.slice none 0 0, .slice none 0 0, .slice none 0 0] 47 (0, 0)) (bka BK110) hg (Kd.R_ne HO_114002.out BK110.out (by decide))); replace BK113 := Aside0.mk (blk_grown (g := gb113) (o := .cells #[u114000, u114001, u114002] 47 (0, 0)) (bka BK113) hg (Kd.R_ne HO_114002.out BK113.out (by decide))); replace BK120 := Aside0.mk (blk_grown (g := gb120) (o := .cells #[.int .i64 ((rd_T56 l1_0 x51_2).f0), .int .i64 ((rd_T56 l1_0 x51_2).f1), .int .i64 ((rd_T56 l1_0 x51_2).f2)] 56 (0, 0)) (by (with_reducible repeat (first | refine blk_drewN ?_ _ | refine blk_drew ?_ | refine blk_alloc ?_ _)); refine blk_put (cs := #[.int .i64 ((rd_T56 l1_0 x51_2).f0), .int .i64 ((rd_T56 l1_0 x51_2).f1), .int .i64 0]) ?_ 2 _ rfl; (with_reducible repeat (first | refine blk_drewN ?_ _ | refine blk_drew ?_ | refine blk_alloc ?_ _)); refine blk_put (cs := #[.int .i64 ((rd_T56 l1_0 x51_2).f0), .int .i64 0, .int .i64 0]) ?_ 1 _ rfl; (with_reducible repeat (first | refine blk_drewN ?_ _ | refine blk_drew ?_ | refine blk_alloc ?_ _)); refine blk_put (cs := #[.int .i64 0, .int .i64 0, .int .i64 0]) ?_ 0 _ rfl; (with_reducible repeat (first | refine blk_drewN ?_ _ | refine blk_drew ?_ | refine blk_alloc ?_ _)); exact BK120.out) hg (Kd.R_ne HO_114002.out BK120.out (by decide))); replace HB := Aside0.mk hb; clear HO_114002; clear ho hb hg hat; obtain ⟨Ao84, co84, eo84⟩ := Kd.R_slice HO126.out; subst eo84; have hcz85_0 : w83.cell? ⟨gb113, 0, none⟩ = some (u114000) := (blk_cell BK113.out 0).trans rfl; have hcz85_1 : w83.cell? ⟨gb113, 1, none⟩ = some (u114001) := (blk_cell BK113.out 1).trans rfl; have hcz85_2 : w83.cell? ⟨gb113, 2, none⟩ = some (u114002) := (blk_cell BK113.out 2).trans rfl; have hfz85_0 := blk_frozen BK113.out 0; have hfz85_1 := blk_frozen BK113.out 1; have hfz85_2 := blk_frozen BK113.out 2))
              go_roundg k2
              case measure => have := HK1.out; have := HK2.out; omega
              case rel => exact ⟨(wrap64 (x51_2 + 1)), (x114001_2), (y124), (u114001), (.slice Ao84 y124.length co84), (by first | rfl | (simp; done) | (simp [*]; done)), H', ⟨by have := HK1.out; have := HK2.out; omega⟩, ⟨by (with_reducible repeat (first | apply Kd.R_alloc | apply Kd.R_drewN | apply Kd.R_drew)); exact Kd.R_mono (Kd.R_far (Kd.R_types HO_114000.out BK113.out (by decide)) (fun _ hk => hk.2) _) (fun _ hk => ⟨hk.1.1, hk.1.2⟩)⟩, ⟨by (with_reducible repeat (first | apply Kd.R_alloc | apply Kd.R_drewN | apply Kd.R_drew)); exact Kd.R_mono (Kd.R_far (Kd.R_types HO_114001.out BK113.out (by decide)) (fun _ hk => hk.2) _) (fun _ hk => ⟨hk.1.1, hk.1.2⟩)⟩, ⟨by (with_reducible repeat (first | apply Kd.R_alloc | apply Kd.R_drewN | apply Kd.R_drew)); exact Kd.R_mono (Kd.R_far (Kd.R_types HO126.out BK113.out (by decide)) (fun _ hk => hk.2) _) (fun _ hk => ⟨hk.1.1, hk.1.2⟩)⟩, ⟨bka BK108⟩, ⟨bka BK109⟩, ⟨bka BK110⟩, ⟨by (with_reducible repeat (first | refine blk_drewN ?_ _ | refine blk_drew ?_ | refine blk_alloc ?_ _)); refine blk_put (cs := #[u114000, u114001, u114002]) ?_ 2 _ rfl; (with_reducible repeat (first | refine blk_drewN ?_ _ | refine blk_drew ?_ | refine blk_alloc ?_ _)); exact BK113.out⟩, ⟨bel⟩⟩
             ·rw [if_neg c72] at H
              exact absurd H (by simp)
           ·rw [if_neg c56] at H
            have c56b0 : (((rd_T56 l1_0 x51_2).f2) == a2) = false := beq_eq_false_iff_ne.mpr c56
            have c56b1 : (((rd_T56 l1_0 x51_2).f2) != a2) = true := bne_iff_ne.mpr c56
            have H' := Aside0.mk H
            clear H
            have p119 : 0 ≤ (x51_2 : Int) := of_decide_eq_true (by assumption)
            have q119 : x51_2 < (l1_0.length : Int) := of_decide_eq_true (by assumption)
            obtain ⟨ad119, e119, hx119_0, hx119_1, hx119_2⟩ := at_T56 HR1_0.out x51_2 p119 q119
            cases e119
            replace hx119_0 := (HB.out.cell (World.block_lt_of_cell? w _ hx119_0)).trans hx119_0
            replace hx119_1 := (HB.out.cell (World.block_lt_of_cell? w _ hx119_1)).trans hx119_1
            replace hx119_2 := (HB.out.cell (World.block_lt_of_cell? w _ hx119_2)).trans hx119_2
            replace p119 := eq_true p119
            replace q119 := eq_true q119
            go_wp2_with (first | ((with_reducible refine gate_dst (N := 13) rfl ?_); refine box_event ?hg (N := 13) ?hd (cs := #[.int .i64 0, .int .i64 0, .int .i64 0]) (t := 56) ?hr ?_; (case hd => rfl); (case hg => rfl); (case hr => go_simp <;> rfl); intro gb120 hg w86 hbox hb; have BK120 := Aside0.mk hbox; have GW120 := sGe hg; have GE120 := sGe hg; have NB108_120 := sNl BK108 hg; have NB120_108 := sNg BK108 hg; have NB109_120 := sNl BK109 hg; have NB120_109 := sNg BK109 hg; have NB110_120 := sNl BK110 hg; have NB120_110 := sNg BK110 hg; have NB113_120 := sNl BK113 hg; have NB120_113 := sNg BK113 hg; replace HO_114000 := sRb HO_114000 hb; replace HO_114001 := sRb HO_114001 hb; replace HO_114002 := sRb HO_114002 hb; replace BK108 := sBk BK108 hb; replace BK109 := sBk BK109 hb; replace BK110 := sBk BK110 hb; replace BK113 := sBk BK113 hb; replace HB := sHb hb; clear hb hbox hg; have hnb87 := NB120_108.out; have hnc87 := NB108_120.out; have hnb88 := NB120_109.out; have hnc88 := NB109_120.out; have hnb89 := NB120_110.out; have hnc89 := NB110_120.out; have hnb90 := NB120_113.out; have hnc90 := NB113_120.out; have hcz91_0 : w86.cell? ⟨gb120, 0, none⟩ = some (.int .i64 0) := (blk_cell BK120.out 0).trans rfl; have hcz91_1 : w86.cell? ⟨gb120, 1, none⟩ = some (.int .i64 0) := (blk_cell BK120.out 1).trans rfl; have hcz91_2 : w86.cell? ⟨gb120, 2, none⟩ = some (.int .i64 0) := (blk_cell BK120.out 2).trans rfl; have hfz91_0 := blk_frozen BK120.out 0; have hfz91_1 := blk_frozen BK120.out 1; have hfz91_2 := blk_frozen BK120.out 2))
            go_roundg k2
            case measure => have := HK1.out; have := HK2.out; omega
            case rel => exact ⟨(wrap64 (x51_2 + 1)), (x114001_2), (x114002_2), (u114001), (u114002), (by first | rfl | (simp; done) | (simp [*]; done)), H', ⟨by have := HK1.out; have := HK2.out; omega⟩, ⟨by (with_reducible repeat (first | apply Kd.R_alloc | apply Kd.R_drewN | apply Kd.R_drew)); exact Kd.R_mono (Kd.R_far (Kd.R_far (Kd.R_far (Kd.R_types HO_114000.out BK120.out (by decide)) (fun _ hk => hk.2) (.int .i64 ((rd_T56 l1_0 x51_2).f0))) (fun _ hk => hk.2) (.int .i64 ((rd_T56 l1_0 x51_2).f1))) (fun _ hk => hk.2) (.int .i64 ((rd_T56 l1_0 x51_2).f2))) (fun _ hk => ⟨hk.1.1, hk.1.2⟩)⟩, ⟨by (with_reducible repeat (first | apply Kd.R_alloc | apply Kd.R_drewN | apply Kd.R_drew)); exact Kd.R_mono (Kd.R_far (Kd.R_far (Kd.R_far (Kd.R_types HO_114001.out BK120.out (by decide)) (fun _ hk => hk.2) (.int .i64 ((rd_T56 l1_0 x51_2).f0))) (fun _ hk => hk.2) (.int .i64 ((rd_T56 l1_0 x51_2).f1))) (fun _ hk => hk.2) (.int .i64 ((rd_T56 l1_0 x51_2).f2))) (fun _ hk => ⟨hk.1.1, hk.1.2⟩)⟩, ⟨by (with_reducible repeat (first | apply Kd.R_alloc | apply Kd.R_drewN | apply Kd.R_drew)); exact Kd.R_mono (Kd.R_far (Kd.R_far (Kd.R_far (Kd.R_types HO_114002.out BK120.out (by decide)) (fun _ hk => hk.2) (.int .i64 ((rd_T56 l1_0 x51_2).f0))) (fun _ hk => hk.2) (.int .i64 ((rd_T56 l1_0 x51_2).f1))) (fun _ hk => hk.2) (.int .i64 ((rd_T56 l1_0 x51_2).f2))) (fun _ hk => ⟨hk.1.1, hk.1.2⟩)⟩, ⟨bka BK108⟩, ⟨bka BK109⟩, ⟨bka BK110⟩, ⟨bka BK113⟩, ⟨bel⟩⟩
          ·rw [if_neg c55] at H
           exact absurd H (by simp)
         ·rw [if_neg c54] at H
          exact absurd H (by simp)
        ·rw [if_neg c53] at H
         have c53b0 : decide (x51_2 < (l1_0.length : Int)) = false := decide_eq_false c53
         clear c53
         simp only [Option.some.injEq, Prod.mk.injEq] at H
         obtain ⟨rfl, rfl, rfl, rfl⟩ := H
         have hnb92 := NB113_108.out
         have hnc92 := NB108_113.out
         have hnb93 := NB113_109.out
         have hnc93 := NB109_113.out
         have hnb94 := NB113_110.out
         have hnc94 := NB110_113.out
         have hcz95_0 : wr.cell? ⟨gb113, 0, none⟩ = some (u114000) := (blk_cell BK113.out 0).trans rfl
         have hcz95_1 : wr.cell? ⟨gb113, 1, none⟩ = some (u114001) := (blk_cell BK113.out 1).trans rfl
         have hcz95_2 : wr.cell? ⟨gb113, 2, none⟩ = some (u114002) := (blk_cell BK113.out 2).trans rfl
         have hfz95_0 := blk_frozen BK113.out 0
         have hfz95_1 := blk_frozen BK113.out 1
         have hfz95_2 := blk_frozen BK113.out 2
         obtain ⟨Ao96, co96, eo96⟩ := Kd.R_slice HO_114000.out
         subst eo96
         have hnb97 := NB110_108.out
         have hnc97 := NB108_110.out
         have hnb98 := NB110_109.out
         have hnc98 := NB109_110.out
         have hcz99_0 : wr.cell? ⟨gb110, 0, none⟩ = some (.slice none 0 0) := (blk_cell BK110.out 0).trans rfl
         have hcz99_1 : wr.cell? ⟨gb110, 1, none⟩ = some (.slice none 0 0) := (blk_cell BK110.out 1).trans rfl
         have hcz99_2 : wr.cell? ⟨gb110, 2, none⟩ = some (.slice none 0 0) := (blk_cell BK110.out 2).trans rfl
         have hfz99_0 := blk_frozen BK110.out 0
         have hfz99_1 := blk_frozen BK110.out 1
         have hfz99_2 := blk_frozen BK110.out 2
         obtain ⟨Ao100, co100, eo100⟩ := Kd.R_slice HO_114001.out
         subst eo100
         obtain ⟨Ao101, co101, eo101⟩ := Kd.R_slice HO_114002.out
         subst eo101
         go_wp2
         refine bodyPost_ret (results_ct rfl _ _ gb110 47 #[.slice Ao96 x114000_1.length co96, .slice Ao100 x114001_2.length co100, .slice Ao101 x114002_2.length co101] (0, 0) _ rfl (by refine blk_put (cs := #[.slice Ao96 x114000_1.length co96, .slice Ao100 x114001_2.length co100, .slice none 0 0]) ?_ 2 _ rfl; refine blk_put (cs := #[.slice Ao96 x114000_1.length co96, .slice none 0 0, .slice none 0 0]) ?_ 1 _ rfl; refine blk_put (cs := #[.slice none 0 0, .slice none 0 0, .slice none 0 0]) ?_ 0 _ rfl; exact BK110.out) Try.underlying47 rfl (by kernel_rfl)) rfl ?_
         exact ⟨_, _, _, by first | rfl | (simp [errW_none, errW_some] <;> rfl) | (simp [*, errW_none, errW_some] <;> rfl), by (with_reducible repeat (first | apply Kd.R_alloc | apply Kd.R_drewN | apply Kd.R_drew)); exact Kd.R_mono (Kd.R_far (Kd.R_far (Kd.R_far (Kd.R_types HO_114000.out BK110.out (by decide)) (fun _ hk => hk.2) _) (fun _ hk => hk.2) _) (fun _ hk => hk.2) _) (fun _ hk => ⟨hk.1.1, hk.1.2⟩), by (with_reducible repeat (first | apply Kd.R_alloc | apply Kd.R_drewN | apply Kd.R_drew)); exact Kd.R_mono (Kd.R_far (Kd.R_far (Kd.R_far (Kd.R_types HO_114001.out BK110.out (by decide)) (fun _ hk => hk.2) _) (fun _ hk => hk.2) _) (fun _ hk => hk.2) _) (fun _ hk => ⟨hk.1.1, hk.1.2⟩), by (with_reducible repeat (first | apply Kd.R_alloc | apply Kd.R_drewN | apply Kd.R_drew)); exact Kd.R_mono (Kd.R_far (Kd.R_far (Kd.R_far (Kd.R_types HO_114002.out BK110.out (by decide)) (fun _ hk => hk.2) _) (fun _ hk => hk.2) _) (fun _ hk => hk.2) _) (fun _ hk => ⟨hk.1.1, hk.1.2⟩), bel⟩
  ·replace c7 := Bool.eq_false_iff.mpr c7
   subst c7
   have H1 : (some (([] : List Int), ([] : List Int), ([] : List Int), 191)) = some (r1, r2, r3, r4) := by rw [if_neg (show ¬ (false = true) by decide)] at H; exact H
   clear H
   have H := H1
   clear H1
   simp only [Option.some.injEq, Prod.mk.injEq] at H
   obtain ⟨rfl, rfl, rfl, rfl⟩ := H
   go_enter Try.func19, Try.ntmps19
   go_wp2_with (first | ((with_reducible refine gate_dst (N := 3) rfl ?_); refine box_event ?hg (N := 3) ?hd (cs := #[.int .i64 a0_0, .int .i64 a0_1]) (t := 23) ?hr ?_; (case hd => rfl); (case hg => rfl); (case hr => go_simp <;> rfl); intro gb108 hg w102 hbox hb; have BK108 := Aside0.mk hbox; have GW108 := sGe hg; have GE108 := sGe hg; replace HB := sHb hb; clear hb hbox hg) | ((with_reducible refine gate_dst (N := 4) rfl ?_); refine box_event ?hg (N := 4) ?hd (cs := #[.slice A1_0 l1_0.length c1_0, .slice A1_1 l1_1.length c1_1]) (t := 27) ?hr ?_; (case hd => rfl); (case hg => rfl); (case hr => go_simp <;> rfl); intro gb109 hg w103 hbox hb; have BK109 := Aside0.mk hbox; have GW109 := sGe hg; have GE109 := sGe hg; have NB108_109 := sNl BK108 hg; have NB109_108 := sNg BK108 hg; replace BK108 := sBk BK108 hb; replace HB := sHb hb; clear hb hbox hg) | ((with_reducible refine gate_dst (N := 6) rfl ?_); refine box_event ?hg (N := 6) ?hd (cs := #[.slice none 0 0, .slice none 0 0, .slice none 0 0]) (t := 47) ?hr ?_; (case hd => rfl); (case hg => rfl); (case hr => go_simp <;> rfl); intro gb110 hg w104 hbox hb; have BK110 := Aside0.mk hbox; have GW110 := sGe hg; have GE110 := sGe hg; have NB108_110 := sNl BK108 hg; have NB110_108 := sNg BK108 hg; have NB109_110 := sNl BK109 hg; have NB110_109 := sNg BK109 hg; replace BK108 := sBk BK108 hb; replace BK109 := sBk BK109 hb; replace HB := sHb hb; clear hb hbox hg; have hnb105 := NB108_109.out; have hnc105 := NB109_108.out; have hnb106 := NB108_110.out; have hnc106 := NB110_108.out; have hcz107_0 : w104.cell? ⟨gb108, 0, none⟩ = some (.int .i64 a0_0) := (blk_cell BK108.out 0).trans rfl; have hcz107_1 : w104.cell? ⟨gb108, 1, none⟩ = some (.int .i64 a0_1) := (blk_cell BK108.out 1).trans rfl; have hfz107_0 := blk_frozen BK108.out 0; have hfz107_1 := blk_frozen BK108.out 1; have hnb108 := NB109_110.out; have hnc108 := NB110_109.out; have hcz109_0 : w104.cell? ⟨gb109, 0, none⟩ = some (.slice A1_0 l1_0.length c1_0) := (blk_cell BK109.out 0).trans rfl; have hcz109_1 : w104.cell? ⟨gb109, 1, none⟩ = some (.slice A1_1 l1_1.length c1_1) := (blk_cell BK109.out 1).trans rfl; have hfz109_0 := blk_frozen BK109.out 0; have hfz109_1 := blk_frozen BK109.out 1) | ((with_reducible refine gate_callee (f := 14) rfl ?_); refine goesL_ (some 16) rfl rfl Try.func14 (by kernel_rfl) rfl #[.agg #[.int .i64 a0_0, .int .i64 a0_1], .agg #[.slice A1_0 l1_0.length c1_0, .slice A1_1 l1_1.length c1_1]] rfl (by simp only [List.map_toArray, List.map_cons, List.map_nil] <;> rfl) ?_; (with_reducible refine (call_Check.calls k a0_0 a0_1 _ _ l1_0 _ _ l1_1 t111 _ ?side1 ?side2 ?side3 ?side4 A4.out).mono ?_); (case side1 => exact (Kd.C_below HR1_0.out HB.out)); (case side2 => exact HC1_0.out); (case side3 => exact (Kd.C_below HR1_1.out HB.out)); (case side4 => exact HC1_1.out); rintro e w110 ⟨rfl, hb⟩; refine ⟨_, rfl, ?_⟩; replace BK108 := sBk BK108 hb; replace BK109 := sBk BK109 hb; replace BK110 := sBk BK110 hb; replace HB := sHb hb; (try clear hb); (try clear hb2); (try clear hk); (try clear hi); have hcz111_0 : w110.cell? ⟨gb108, 0, none⟩ = some (.int .i64 a0_0) := (blk_cell BK108.out 0).trans rfl; have hcz111_1 : w110.cell? ⟨gb108, 1, none⟩ = some (.int .i64 a0_1) := (blk_cell BK108.out 1).trans rfl; have hfz111_0 := blk_frozen BK108.out 0; have hfz111_1 := blk_frozen BK108.out 1) | ((with_reducible refine gate_callee (f := 41) rfl ?_); refine goesL_ (some 25) rfl rfl Try.func41 (by kernel_rfl) rfl #[.int .i64 a2, .int .i64 0, .int .i64 (wrap64 (a0_1 - 1))] rfl (by simp only [List.map_toArray, List.map_cons, List.map_nil] <;> rfl) ?_; (with_reducible refine (call_within.calls a2 0 (wrap64 (a0_1 - 1)) false _ A6.out).mono ?_); rintro e w' ⟨rfl, ⟨nd, rfl⟩⟩; refine ⟨_, rfl, ?_⟩; (try (rw [drewN_self w110]; generalize hq_ : World.drewN w110 _ = w110; have n0_ : Aside0 (w110.heap[gb108]? = some (.cells #[.int .i64 a0_0, .int .i64 a0_1] 23 (0, 0))) := ⟨by rw [← hq_]; exact BK108.out⟩; have n1_ : Aside0 (w110.heap[gb109]? = some (.cells #[.slice A1_0 l1_0.length c1_0, .slice A1_1 l1_1.length c1_1] 27 (0, 0))) := ⟨by rw [← hq_]; exact BK109.out⟩; have n2_ : Aside0 (w110.heap[gb110]? = some (.cells #[.slice none 0 0, .slice none 0 0, .slice none 0 0] 47 (0, 0))) := ⟨by rw [← hq_]; exact BK110.out⟩; have n3_ : Aside0 (Below w.heap.size w w110) := ⟨by rw [← hq_]; exact HB.out⟩; clear BK108 BK109 BK110 HB hq_; have BK108 := n0_; have BK109 := n1_; have BK110 := n2_; have HB := n3_; clear n0_ n1_ n2_ n3_)); (try (have hcz112_0 : w110.cell? ⟨gb108, 0, none⟩ = some (.int .i64 a0_0) := (blk_cell BK108.out 0).trans rfl)); (try (have hcz112_1 : w110.cell? ⟨gb108, 1, none⟩ = some (.int .i64 a0_1) := (blk_cell BK108.out 1).trans rfl)); (try (have hfz112_0 := blk_frozen BK108.out 0)); (try (have hfz112_1 := blk_frozen BK108.out 1)); have hcz113_0 : w110.cell? ⟨gb110, 0, none⟩ = some (.slice none 0 0) := (blk_cell BK110.out 0).trans rfl; have hcz113_1 : w110.cell? ⟨gb110, 1, none⟩ = some (.slice none 0 0) := (blk_cell BK110.out 1).trans rfl; have hcz113_2 : w110.cell? ⟨gb110, 2, none⟩ = some (.slice none 0 0) := (blk_cell BK110.out 2).trans rfl; have hfz113_0 := blk_frozen BK110.out 0; have hfz113_1 := blk_frozen BK110.out 1; have hfz113_2 := blk_frozen BK110.out 2))
   refine bodyPost_ret (results_ct rfl _ _ gb110 47 #[.slice none 0 0, .slice none 0 0, .slice none 0 0] (0, 0) _ rfl (by refine blk_put (cs := #[.slice none 0 0, .slice none 0 0, .slice none 0 0]) ?_ 2 _ rfl; refine blk_put (cs := #[.slice none 0 0, .slice none 0 0, .slice none 0 0]) ?_ 1 _ rfl; refine blk_put (cs := #[.slice none 0 0, .slice none 0 0, .slice none 0 0]) ?_ 0 _ rfl; exact BK110.out) Try.underlying47 rfl (by kernel_rfl)) rfl ?_
   exact ⟨_, _, _, by first | rfl | (simp [errW_none, errW_some] <;> rfl) | (simp [*, errW_none, errW_some] <;> rfl), by first | exact Kd.R_nil _ _ _ _ _ | exact Kd.N_nil _ _ _ _ _ | exact Kd.V_nil _ _ _ _ _ | exact Kd.Q_nil _ _ _ _ _ | exact Kd.S_nil _ _ _ _ _, by first | exact Kd.R_nil _ _ _ _ _ | exact Kd.N_nil _ _ _ _ _ | exact Kd.V_nil _ _ _ _ _ | exact Kd.Q_nil _ _ _ _ _ | exact Kd.S_nil _ _ _ _ _, by first | exact Kd.R_nil _ _ _ _ _ | exact Kd.N_nil _ _ _ _ _ | exact Kd.V_nil _ _ _ _ _ | exact Kd.Q_nil _ _ _ _ _ | exact Kd.S_nil _ _ _ _ _, bel⟩
 ·rw [if_neg c5] at H
  have c5b0 : (t111 == 0) = false := beq_eq_false_iff_ne.mpr c5
  have c5b1 : (t111 != 0) = true := bne_iff_ne.mpr c5
  simp only [Option.some.injEq, Prod.mk.injEq] at H
  obtain ⟨rfl, rfl, rfl, rfl⟩ := H
  go_enter Try.func19, Try.ntmps19
  go_wp2_with (first | ((with_reducible refine gate_dst (N := 3) rfl ?_); refine box_event ?hg (N := 3) ?hd (cs := #[.int .i64 a0_0, .int .i64 a0_1]) (t := 23) ?hr ?_; (case hd => rfl); (case hg => rfl); (case hr => go_simp <;> rfl); intro gb108 hg w114 hbox hb; have BK108 := Aside0.mk hbox; have GW108 := sGe hg; have GE108 := sGe hg; replace HB := sHb hb; clear hb hbox hg) | ((with_reducible refine gate_dst (N := 4) rfl ?_); refine box_event ?hg (N := 4) ?hd (cs := #[.slice A1_0 l1_0.length c1_0, .slice A1_1 l1_1.length c1_1]) (t := 27) ?hr ?_; (case hd => rfl); (case hg => rfl); (case hr => go_simp <;> rfl); intro gb109 hg w115 hbox hb; have BK109 := Aside0.mk hbox; have GW109 := sGe hg; have GE109 := sGe hg; have NB108_109 := sNl BK108 hg; have NB109_108 := sNg BK108 hg; replace BK108 := sBk BK108 hb; replace HB := sHb hb; clear hb hbox hg) | ((with_reducible refine gate_dst (N := 6) rfl ?_); refine box_event ?hg (N := 6) ?hd (cs := #[.slice none 0 0, .slice none 0 0, .slice none 0 0]) (t := 47) ?hr ?_; (case hd => rfl); (case hg => rfl); (case hr => go_simp <;> rfl); intro gb110 hg w116 hbox hb; have BK110 := Aside0.mk hbox; have GW110 := sGe hg; have GE110 := sGe hg; have NB108_110 := sNl BK108 hg; have NB110_108 := sNg BK108 hg; have NB109_110 := sNl BK109 hg; have NB110_109 := sNg BK109 hg; replace BK108 := sBk BK108 hb; replace BK109 := sBk BK109 hb; replace HB := sHb hb; clear hb hbox hg; have hnb117 := NB108_109.out; have hnc117 := NB109_108.out; have hnb118 := NB108_110.out; have hnc118 := NB110_108.out; have hcz119_0 : w116.cell? ⟨gb108, 0, none⟩ = some (.int .i64 a0_0) := (blk_cell BK108.out 0).trans rfl; have hcz119_1 : w116.cell? ⟨gb108, 1, none⟩ = some (.int .i64 a0_1) := (blk_cell BK108.out 1).trans rfl; have hfz119_0 := blk_frozen BK108.out 0; have hfz119_1 := blk_frozen BK108.out 1; have hnb120 := NB109_110.out; have hnc120 := NB110_109.out; have hcz121_0 : w116.cell? ⟨gb109, 0, none⟩ = some (.slice A1_0 l1_0.length c1_0) := (blk_cell BK109.out 0).trans rfl; have hcz121_1 : w116.cell? ⟨gb109, 1, none⟩ = some (.slice A1_1 l1_1.length c1_1) := (blk_cell BK109.out 1).trans rfl; have hfz121_0 := blk_frozen BK109.out 0; have hfz121_1 := blk_frozen BK109.out 1) | ((with_reducible refine gate_callee (f := 14) rfl ?_); refine goesL_ (some 16) rfl rfl Try.func14 (by kernel_rfl) rfl #[.agg #[.int .i64 a0_0, .int .i64 a0_1], .agg #[.slice A1_0 l1_0.length c1_0, .slice A1_1 l1_1.length c1_1]] rfl (by simp only [List.map_toArray, List.map_cons, List.map_nil] <;> rfl) ?_; (with_reducible refine (call_Check.calls k a0_0 a0_1 _ _ l1_0 _ _ l1_1 t111 _ ?side1 ?side2 ?side3 ?side4 A4.out).mono ?_); (case side1 => exact (Kd.C_below HR1_0.out HB.out)); (case side2 => exact HC1_0.out); (case side3 => exact (Kd.C_below HR1_1.out HB.out)); (case side4 => exact HC1_1.out); rintro e w122 ⟨rfl, hb⟩; refine ⟨_, rfl, ?_⟩; replace BK108 := sBk BK108 hb; replace BK109 := sBk BK109 hb; replace BK110 := sBk BK110 hb; replace HB := sHb hb; (try clear hb); (try clear hb2); (try clear hk); (try clear hi); have hcz123_0 : w122.cell? ⟨gb110, 0, none⟩ = some (.slice none 0 0) := (blk_cell BK110.out 0).trans rfl; have hcz123_1 : w122.cell? ⟨gb110, 1, none⟩ = some (.slice none 0 0) := (blk_cell BK110.out 1).trans rfl; have hcz123_2 : w122.cell? ⟨gb110, 2, none⟩ = some (.slice none 0 0) := (blk_cell BK110.out 2).trans rfl; have hfz123_0 := blk_frozen BK110.out 0; have hfz123_1 := blk_frozen BK110.out 1; have hfz123_2 := blk_frozen BK110.out 2))
  refine bodyPost_ret (results_ct rfl _ _ gb110 47 #[.slice none 0 0, .slice none 0 0, .slice none 0 0] (0, 0) _ rfl (by refine blk_put (cs := #[.slice none 0 0, .slice none 0 0, .slice none 0 0]) ?_ 2 _ rfl; refine blk_put (cs := #[.slice none 0 0, .slice none 0 0, .slice none 0 0]) ?_ 1 _ rfl; refine blk_put (cs := #[.slice none 0 0, .slice none 0 0, .slice none 0 0]) ?_ 0 _ rfl; exact BK110.out) Try.underlying47 rfl (by kernel_rfl)) rfl ?_
  exact ⟨_, _, _, by first | rfl | (simp [errW_none, errW_some] <;> rfl) | (simp [*, errW_none, errW_some] <;> rfl), by first | exact Kd.R_nil _ _ _ _ _ | exact Kd.N_nil _ _ _ _ _ | exact Kd.V_nil _ _ _ _ _ | exact Kd.Q_nil _ _ _ _ _ | exact Kd.S_nil _ _ _ _ _, by first | exact Kd.R_nil _ _ _ _ _ | exact Kd.N_nil _ _ _ _ _ | exact Kd.V_nil _ _ _ _ _ | exact Kd.Q_nil _ _ _ _ _ | exact Kd.S_nil _ _ _ _ _, by first | exact Kd.R_nil _ _ _ _ _ | exact Kd.N_nil _ _ _ _ _ | exact Kd.V_nil _ _ _ _ _ | exact Kd.Q_nil _ _ _ _ _ | exact Kd.S_nil _ _ _ _ _, bel⟩
end Go.Proofs.Ytjehhhlhalkieaa.C
namespace Go.Proofs.Ytjehhhlhalkieaa.C
open Go.RowKit Go.Proofs.YtjehhhlhalkieaaW.PrintWords Go.Proofs.YtjehhhlhalkieaaW.PrintLast Go.Proofs.YtjehhhlhalkieaaW.PrintMore
attribute [local go_sem] max2_int min2_int max_two min_two max_three min_three max_four min_four
set_option linter.unusedVariables false
set_option linter.unusedSimpArgs false
def call_Serve.f (k : Nat) (a0_0 : Int) (a0_1 : Int) (l1_0 : List (S56)) (l1_1 : List (S62)) (a2_0 : Int) (a2_1 : Int) (a2_2 : Int) : Option ((List (S56)) × (List (S62)) × Int) := (insP.f a2_0 a2_1 a0_0 a0_1).bind fun t122 => (if t122 = true then ((call_within.f a2_2 (-1) 1).bind fun t123 => ((call_change.f (woP_H.f a2_1 a2_2 0 l1_0) (woP_I.f a2_0 a2_1 l1_1) k a0_0 a0_1 l1_0 l1_1 t123 0 a2_1 a2_2 0 0 a2_0 a2_1).bind fun bt124 => (some (bt124.1, bt124.2.1, bt124.2.2)))) else ((call_change.f (woP_H.f a2_1 a2_2 0 l1_0) (woP_I.f a2_0 a2_1 l1_1) k a0_0 a0_1 l1_0 l1_1 false 0 a2_1 a2_2 0 0 a2_0 a2_1).bind fun bt131 => (some (bt131.1, bt131.2.1, bt131.2.2))))
theorem call_Serve.mono : ∀ a0 a1 a2 a3 a4 a5 a6 k, LeO (call_Serve.f k a0 a1 a2 a3 a4 a5 a6) (call_Serve.f (k + 1) a0 a1 a2 a3 a4 a5 a6) := by
 intro a0 a1 a2 a3 a4 a5 a6 k
 unfold call_Serve.f
 repeat' first
   | (with_reducible exact call_change.mono _ _ _ _ _ _ _ _ _ _ _ _ _ _ _)
   | (with_reducible exact LeO.refl _)
   | (with_reducible exact LeO.none _)
   | (with_reducible refine LeO.ite ?_ ?_)
   | (with_reducible refine LeO.bind ?_ (fun _ => ?_))
   | exact call_change.mono _ _ _ _ _ _ _ _ _ _ _ _ _ _ _
   | exact LeO.none _
   | refine LeO.ite ?_ ?_
   | refine LeO.bind ?_ (fun _ => ?_)
def call_Serve.T2 : Bool × List (List Nat × List Nat) := (true, [([], []), ([], []), ([], []), ([2], [2]), ([], []), ([3, 4, 3], [3, 4]), ([5, 5], [5]), ([6], [6]), ([7, 6], [6, 7]), ([8, 6, 6], [6, 8]), ([6, 9], [6, 9]), ([], []), ([11, 9], [11]), ([12], [12]), ([], []), ([14], [14]), ([], []), ([16], [16]), ([15, 17], [15, 17]), ([], []), ([19, 12], [19]), ([20], [20]), ([], []), ([0, 1, 10, 13, 18, 21, 22, 20], [0, 1, 10, 13, 18, 21, 22]), ([23], [23]), ([23], [23]), ([24, 23, 0, 1, 2, 3, 4, 5, 6, 7, 8, 9, 10, 11, 12, 13, 14, 15, 16, 17, 18, 19, 20, 21, 22, 23, 24, 25], [24]), ([25, 26, 0, 1, 2, 3, 4, 5, 6, 7, 8, 9, 10, 11, 12, 13, 14, 15, 16, 17, 18, 19, 20, 21, 22, 23, 24, 25, 26], [25])])
def call_Serve.B2 : List Nat := [0, 0, 0, 4, 0, 28, 60, 124, 252, 508, 1020, 0, 3068, 7164, 0, 16384, 0, 65536, 245760, 0, 531452, 1580028, 0, 8388607, 16777215, 16777215, 67108863, 134217727]
theorem call_Serve.tab2 : rtab .any (opsOf Try.f18 2) = call_Serve.T2 := by kernel_rfl
theorem call_Serve.bits2 : waitsOk call_Serve.T2.2 call_Serve.B2 = true := by kernel_rfl
set_option maxHeartbeats 8000000 in
set_option maxRecDepth 100000 in
theorem call_Serve.calls (k : Nat) (a0_0 : Int) (a0_1 : Int) (A1_0 : Option Addr) (c1_0 : Nat) (l1_0 : List (S56)) (A1_1 : Option Addr) (c1_1 : Nat) (l1_1 : List (S62)) (a2_0 : Int) (a2_1 : Int) (a2_2 : Int) (r1 : List (S56)) (r2 : List (S62)) (r3 : Int) (w : World) (hr1_0 : Kd.C k56 w A1_0 l1_0.length l1_0) (hc1_0 : l1_0.length ≤ c1_0) (hr1_1 : Kd.C k62 w A1_1 l1_1.length l1_1) (hc1_1 : l1_1.length ≤ c1_1) (h : call_Serve.f k a0_0 a0_1 l1_0 l1_1 a2_0 a2_1 a2_2 = some (r1, r2, r3)) :
  Calls Try.prog 18 #[.agg #[.int .i64 a0_0, .int .i64 a0_1], .agg #[.slice A1_0 l1_0.length c1_0, .slice A1_1 l1_1.length c1_1], .agg #[.int .i64 a2_0, .int .i64 a2_1, .int .i64 a2_2]] w fun e w' => ∃ v0_ v1_ : Value, e = .returned (.tuple #[.agg #[v0_, v1_], .int .i64 r3]) ∧ Kd.R k56 56 w' w.heap.size (fun _ => True) v0_ r1 ∧ Kd.R k62 62 w' w.heap.size (fun _ => True) v1_ r2 ∧ Below w.heap.size w w' := by
 have hu23 := Try.underlying23
 have hu27 := Try.underlying27
 have hu43 := Try.underlying43
 have hu62 := Try.underlying62
 have hu56 := Try.underlying56
 have HR1_0 := Aside0.mk hr1_0
 have HC1_0 := Aside0.mk hc1_0
 clear hr1_0 hc1_0
 have HR1_1 := Aside0.mk hr1_1
 have HC1_1 := Aside0.mk hc1_1
 clear hr1_1 hc1_1
 have HB := Aside0.mk (Below.refl w.heap.size w)
 have H : ((insP.f a2_0 a2_1 a0_0 a0_1).bind fun t122 => (if t122 = true then ((call_within.f a2_2 (-1) 1).bind fun t123 => ((call_change.f (woP_H.f a2_1 a2_2 0 l1_0) (woP_I.f a2_0 a2_1 l1_1) k a0_0 a0_1 l1_0 l1_1 t123 0 a2_1 a2_2 0 0 a2_0 a2_1).bind fun bt124 => (some (bt124.1, bt124.2.1, bt124.2.2)))) else ((call_change.f (woP_H.f a2_1 a2_2 0 l1_0) (woP_I.f a2_0 a2_1 l1_1) k a0_0 a0_1 l1_0 l1_1 false 0 a2_1 a2_2 0 0 a2_0 a2_1).bind fun bt131 => (some (bt131.1, bt131.2.1, bt131.2.2))))) = some (r1, r2, r3) := h
 clear h
 replace H := Option.bind_eq_some_iff.mp H
 obtain ⟨t122, A40, H⟩ := H
 replace H : (if t122 = true then ((call_within.f a2_2 (-1) 1).bind fun t123 => ((call_change.f (woP_H.f a2_1 a2_2 0 l1_0) (woP_I.f a2_0 a2_1 l1_1) k a0_0 a0_1 l1_0 l1_1 t123 0 a2_1 a2_2 0 0 a2_0 a2_1).bind fun bt124 => (some (bt124.1, bt124.2.1, bt124.2.2)))) else ((call_change.f (woP_H.f a2_1 a2_2 0 l1_0) (woP_I.f a2_0 a2_1 l1_1) k a0_0 a0_1 l1_0 l1_1 false 0 a2_1 a2_2 0 0 a2_0 a2_1).bind fun bt131 => (some (bt131.1, bt131.2.1, bt131.2.2)))) = some (r1, r2, r3) := H
 have A4 := Aside0.mk A40
 clear A40
 by_cases c5 : t122 = true
 ·subst c5
  have H1 : ((call_within.f a2_2 (-1) 1).bind fun t123 => ((call_change.f (woP_H.f a2_1 a2_2 0 l1_0) (woP_I.f a2_0 a2_1 l1_1) k a0_0 a0_1 l1_0 l1_1 t123 0 a2_1 a2_2 0 0 a2_0 a2_1).bind fun bt124 => (some (bt124.1, bt124.2.1, bt124.2.2)))) = some (r1, r2, r3) := by rw [if_pos rfl] at H; exact H
  clear H
  have H := H1
  clear H1
  replace H := Option.bind_eq_some_iff.mp H
  obtain ⟨t123, A60, H⟩ := H
  replace H : ((call_change.f (woP_H.f a2_1 a2_2 0 l1_0) (woP_I.f a2_0 a2_1 l1_1) k a0_0 a0_1 l1_0 l1_1 t123 0 a2_1 a2_2 0 0 a2_0 a2_1).bind fun bt124 => (some (bt124.1, bt124.2.1, bt124.2.2))) = some (r1, r2, r3) := H
  have A6 := Aside0.mk A60
  clear A60
  replace H := Option.bind_eq_some_iff.mp H
  obtain ⟨⟨t124, t127, t130⟩, A70, H⟩ := H
  replace H : (some (t124, t127, t130)) = some (r1, r2, r3) := H
  have A7 := Aside0.mk A70
  clear A70
  simp only [Option.some.injEq, Prod.mk.injEq] at H
  obtain ⟨rfl, rfl, rfl⟩ := H
  go_enter Try.func18, Try.ntmps18
  try go_wp2_with (first | ((with_reducible refine gate_dst (N := 3) rfl ?_); refine box_event ?hg (N := 3) ?hd (cs := #[.int .i64 a0_0, .int .i64 a0_1]) (t := 23) ?hr ?_; (case hd => rfl); (case hg => rfl); (case hr => go_simp <;> rfl); intro gb117 hg w8 hbox hb; have BK117 := Aside0.mk hbox; have GW117 := sGe hg; have GE117 := sGe hg; replace HB := sHb hb; clear hb hbox hg) | ((with_reducible refine gate_dst (N := 4) rfl ?_); refine box_event ?hg (N := 4) ?hd (cs := #[.slice A1_0 l1_0.length c1_0, .slice A1_1 l1_1.length c1_1]) (t := 27) ?hr ?_; (case hd => rfl); (case hg => rfl); (case hr => go_simp <;> rfl); intro gb118 hg w9 hbox hb; have BK118 := Aside0.mk hbox; have GW118 := sGe hg; have GE118 := sGe hg; have NB117_118 := sNl BK117 hg; have NB118_117 := sNg BK117 hg; replace BK117 := sBk BK117 hb; replace HB := sHb hb; clear hb hbox hg) | ((with_reducible refine gate_dst (N := 5) rfl ?_); refine box_event ?hg (N := 5) ?hd (cs := #[.int .i64 a2_0, .int .i64 a2_1, .int .i64 a2_2]) (t := 43) ?hr ?_; (case hd => rfl); (case hg => rfl); (case hr => go_simp <;> rfl); intro gb119 hg w10 hbox hb; have BK119 := Aside0.mk hbox; have GW119 := sGe hg; have GE119 := sGe hg; have NB117_119 := sNl BK117 hg; have NB119_117 := sNg BK117 hg; have NB118_119 := sNl BK118 hg; have NB119_118 := sNg BK118 hg; replace BK117 := sBk BK117 hb; replace BK118 := sBk BK118 hb; replace HB := sHb hb; clear hb hbox hg) | ((with_reducible refine gate_dst (N := 6) rfl ?_); refine box_event ?hg (N := 6) ?hd (cs := #[.slice none 0 0, .slice none 0 0]) (t := 27) ?hr ?_; (case hd => rfl); (case hg => rfl); (case hr => go_simp <;> rfl); intro gb120 hg w11 hbox hb; have BK120 := Aside0.mk hbox; have GW120 := sGe hg; have GE120 := sGe hg; have NB117_120 := sNl BK117 hg; have NB120_117 := sNg BK117 hg; have NB118_120 := sNl BK118 hg; have NB120_118 := sNg BK118 hg; have NB119_120 := sNl BK119 hg; have NB120_119 := sNg BK119 hg; replace BK117 := sBk BK117 hb; replace BK118 := sBk BK118 hb; replace BK119 := sBk BK119 hb; replace HB := sHb hb; clear hb hbox hg; have hnb12 := NB119_117.out; have hnc12 := NB117_119.out; have hnb13 := NB119_118.out; have hnc13 := NB118_119.out; have hnb14 := NB119_120.out; have hnc14 := NB120_119.out; have hcz15_0 : w11.cell? ⟨gb119, 0, none⟩ = some (.int .i64 a2_0) := (blk_cell BK119.out 0).trans rfl; have hcz15_1 : w11.cell? ⟨gb119, 1, none⟩ = some (.int .i64 a2_1) := (blk_cell BK119.out 1).trans rfl; have hcz15_2 : w11.cell? ⟨gb119, 2, none⟩ = some (.int .i64 a2_2) := (blk_cell BK119.out 2).trans rfl; have hfz15_0 := blk_frozen BK119.out 0; have hfz15_1 := blk_frozen BK119.out 1; have hfz15_2 := blk_frozen BK119.out 2) | ((with_reducible refine gate_dst (N := 8) rfl ?_); refine box_event ?hg (N := 8) ?hd (cs := #[.int .i64 0, .int .i64 0]) (t := 62) ?hr ?_; (case hd => rfl); (case hg => rfl); (case hr => go_simp <;> rfl); intro gb121 hg w16 hbox hb; have BK121 := Aside0.mk hbox; have GW121 := sGe hg; have GE121 := sGe hg; have NB117_121 := sNl BK117 hg; have NB121_117 := sNg BK117 hg; have NB118_121 := sNl BK118 hg; have NB121_118 := sNg BK118 hg; have NB119_121 := sNl BK119 hg; have NB121_119 := sNg BK119 hg; have NB120_121 := sNl BK120 hg; have NB121_120 := sNg BK120 hg; replace BK117 := sBk BK117 hb; replace BK118 := sBk BK118 hb; replace BK119 := sBk BK119 hb; replace BK120 := sBk BK120 hb; replace HB := sHb hb; clear hb hbox hg; have hnb17 := NB121_117.out; have hnc17 := NB117_121.out; have hnb18 := NB121_118.out; have hnc18 := NB118_121.out; have hnb19 := NB121_119.out; have hnc19 := NB119_121.out; have hnb20 := NB121_120.out; have hnc20 := NB120_121.out; have hcz21_0 : w16.cell? ⟨gb121, 0, none⟩ = some (.int .i64 0) := (blk_cell BK121.out 0).trans rfl; have hcz21_1 : w16.cell? ⟨gb121, 1, none⟩ = some (.int .i64 0) := (blk_cell BK121.out 1).trans rfl; have hfz21_0 := blk_frozen BK121.out 0; have hfz21_1 := blk_frozen BK121.out 1))
  have n0_ : Aside0 (((w16.setCell ⟨gb121, 0, none⟩ (.int .i64 a2_0)).setCell ⟨gb121, 1, none⟩ (.int .i64 a2_1)).heap[gb117]? = some (.cells #[.int .i64 a0_0, .int .i64 a0_1] 23 (0, 0))) := ⟨bka BK117⟩
  have n1_ : Aside0 (((w16.setCell ⟨gb121, 0, none⟩ (.int .i64 a2_0)).setCell ⟨gb121, 1, none⟩ (.int .i64 a2_1)).heap[gb118]? = some (.cells #[.slice A1_0 l1_0.length c1_0, .slice A1_1 l1_1.length c1_1] 27 (0, 0))) := ⟨bka BK118⟩
  have n2_ : Aside0 (((w16.setCell ⟨gb121, 0, none⟩ (.int .i64 a2_0)).setCell ⟨gb121, 1, none⟩ (.int .i64 a2_1)).heap[gb119]? = some (.cells #[.int .i64 a2_0, .int .i64 a2_1, .int .i64 a2_2] 43 (0, 0))) := ⟨bka BK119⟩
  have n3_ : Aside0 (((w16.setCell ⟨gb121, 0, none⟩ (.int .i64 a2_0)).setCell ⟨gb121, 1, none⟩ (.int .i64 a2_1)).heap[gb120]? = some (.cells #[.slice none 0 0, .slice none 0 0] 27 (0, 0))) := ⟨bka BK120⟩
  have n4_ : Aside0 (((w16.setCell ⟨gb121, 0, none⟩ (.int .i64 a2_0)).setCell ⟨gb121, 1, none⟩ (.int .i64 a2_1)).heap[gb121]? = some (.cells #[.int .i64 a2_0, .int .i64 a2_1] 62 (0, 0))) := ⟨by refine blk_put (cs := #[.int .i64 a2_0, .int .i64 0]) ?_ 1 _ rfl; refine blk_put (cs := #[.int .i64 0, .int .i64 0]) ?_ 0 _ rfl; exact BK121.out⟩
  have n5_ : Aside0 (Below w.heap.size w ((w16.setCell ⟨gb121, 0, none⟩ (.int .i64 a2_0)).setCell ⟨gb121, 1, none⟩ (.int .i64 a2_1))) := ⟨bel⟩
  (try clear BK117)
  (try clear BK118)
  (try clear BK119)
  (try clear BK120)
  (try clear BK121)
  (try clear HB)
  generalize ((w16.setCell ⟨gb121, 0, none⟩ (.int .i64 a2_0)).setCell ⟨gb121, 1, none⟩ (.int .i64 a2_1)) = w22 at n0_ n1_ n2_ n3_ n4_ n5_ ⊢
  have BK117 := n0_
  have BK118 := n1_
  have BK119 := n2_
  have BK120 := n3_
  have BK121 := n4_
  have HB := n5_
  clear n0_ n1_ n2_ n3_ n4_ n5_
  replace BK117 := Aside0.mk (blk_drew BK117.out)
  replace BK118 := Aside0.mk (blk_drew BK118.out)
  replace BK119 := Aside0.mk (blk_drew BK119.out)
  replace BK120 := Aside0.mk (blk_drew BK120.out)
  replace BK121 := Aside0.mk (blk_drew BK121.out)
  replace HB := Aside0.mk (below_drew1 HB.out)
  refine start_ (n := 28) (S := fun w' => w'.cell? ⟨gb117, 0, none⟩ = some (.int .i64 a0_0) ∧ w'.cell? ⟨gb117, 1, none⟩ = some (.int .i64 a0_1) ∧ w'.cell? ⟨gb118, 0, none⟩ = some (.slice A1_0 l1_0.length c1_0) ∧ w'.cell? ⟨gb118, 1, none⟩ = some (.slice A1_1 l1_1.length c1_1) ∧ w'.cell? ⟨gb121, 0, none⟩ = some (.int .i64 a2_0) ∧ w'.cell? ⟨gb121, 1, none⟩ = some (.int .i64 a2_1) ∧ w'.cell? ⟨gb119, 0, none⟩ = some (.int .i64 a2_0) ∧ w'.cell? ⟨gb119, 1, none⟩ = some (.int .i64 a2_1) ∧ w'.cell? ⟨gb119, 2, none⟩ = some (.int .i64 a2_2)) (ds := []) #[false, false, false, false, false, false, false, false, false, false, false, false, false, false, false, false, false, false, false, false, false, false, false, false, false, false, false, false] (by kernel_rfl) rfl rfl ⟨(blk_cell BK117.out 0).trans rfl, (blk_cell BK117.out 1).trans rfl, (blk_cell BK118.out 0).trans rfl, (blk_cell BK118.out 1).trans rfl, (blk_cell BK121.out 0).trans rfl, (blk_cell BK121.out 1).trans rfl, (blk_cell BK119.out 0).trans rfl, (blk_cell BK119.out 1).trans rfl, (blk_cell BK119.out 2).trans rfl⟩ (fun hHeld => ?_); refine with_tabW call_Serve.tab2 call_Serve.bits2 (fun HT_ HW_ => ?_)
  generalize w22.drew = w23 at BK117 BK118 BK119 BK120 BK121 HB hHeld ⊢
  refine pure_ (i := 14) (N := some 28) (v := ?_) (a' := ?_) (bN 28 16384) rfl rfl (any_of HT_.out (by kernel_rfl)) (fun _ _ _ h => h) (Or.inl ⟨by rfl, ?_⟩) ?_ ?_
  rotate_left
  ·intro w'
   go_simp
   with_reducible rfl
  rotate_left
  ·simp only [Act.put, List.setIfInBounds_toArray, List.set_cons_zero, List.set_cons_succ, i64_w, i32_w]
   rfl
  refine pure_ (i := 16) (N := some 30) (v := ?_) (a' := ?_) (bN 28 81920) rfl rfl (any_of HT_.out (by kernel_rfl)) (fun _ _ _ h => h) (Or.inl ⟨by rfl, ?_⟩) ?_ ?_
  rotate_left
  ·intro w'
   go_simp
   with_reducible rfl
  rotate_left
  ·simp only [Act.put, List.setIfInBounds_toArray, List.set_cons_zero, List.set_cons_succ, i64_w, i32_w]
   rfl
  refine take_ (i := 0) (N := some 14) (v := ?_) (a' := ?_) (bN 28 81921) rfl rfl (take_ofW HT_.out HW_.out (by kernel_rfl)) (fun _ _ _ h => h) (Or.inl ⟨by rfl, ?_⟩) hHeld ?_ ?_
  rotate_left
  ·rintro w' ⟨s0, s1, s2, s3, s4, s5, s6, s7, s8⟩
   go_simp
   with_reducible rfl
  rotate_left
  ·simp only [Act.put, List.setIfInBounds_toArray, List.set_cons_zero, List.set_cons_succ, i64_w, i32_w]
   rfl
  refine take_ (i := 1) (N := some 15) (v := ?_) (a' := ?_) (bN 28 81923) rfl rfl (take_ofW HT_.out HW_.out (by kernel_rfl)) (fun _ _ _ h => h) (Or.inl ⟨by rfl, ?_⟩) hHeld ?_ ?_
  rotate_left
  ·rintro w' ⟨s0, s1, s2, s3, s4, s5, s6, s7, s8⟩
   go_simp
   with_reducible rfl
  rotate_left
  ·simp only [Act.put, List.setIfInBounds_toArray, List.set_cons_zero, List.set_cons_succ, i64_w, i32_w]
   rfl
  refine take_ (i := 2) (N := some 16) (v := ?_) (a' := ?_) (bN 28 81927) rfl rfl (take_ofW HT_.out HW_.out (by kernel_rfl)) (fun _ _ _ h => h) (Or.inl ⟨by rfl, ?_⟩) hHeld ?_ ?_
  rotate_left
  ·rintro w' ⟨s0, s1, s2, s3, s4, s5, s6, s7, s8⟩
   go_simp
   with_reducible rfl
  rotate_left
  ·simp only [Act.put, List.setIfInBounds_toArray, List.set_cons_zero, List.set_cons_succ, i64_w, i32_w]
   rfl
  refine take_ (i := 4) (N := some 18) (v := ?_) (a' := ?_) (bN 28 81943) rfl rfl (take_ofW HT_.out HW_.out (by kernel_rfl)) (fun _ _ _ h => h) (Or.inl ⟨by rfl, ?_⟩) hHeld ?_ ?_
  rotate_left
  ·rintro w' ⟨s0, s1, s2, s3, s4, s5, s6, s7, s8⟩
   go_simp
   with_reducible rfl
  rotate_left
  ·simp only [Act.put, List.setIfInBounds_toArray, List.set_cons_zero, List.set_cons_succ, i64_w, i32_w]
   rfl
  refine take_ (i := 11) (N := some 25) (v := ?_) (a' := ?_) (bN 28 83991) rfl rfl (take_ofW HT_.out HW_.out (by kernel_rfl)) (fun _ _ _ h => h) (Or.inl ⟨by rfl, ?_⟩) hHeld ?_ ?_
  rotate_left
  ·rintro w' ⟨s0, s1, s2, s3, s4, s5, s6, s7, s8⟩
   go_simp
   with_reducible rfl
  rotate_left
  ·simp only [Act.put, List.setIfInBounds_toArray, List.set_cons_zero, List.set_cons_succ, i64_w, i32_w]
   rfl
  refine take_ (i := 15) (N := some 29) (v := ?_) (a' := ?_) (bN 28 116759) rfl rfl (take_ofW HT_.out HW_.out (by kernel_rfl)) (fun _ _ _ h => h) (Or.inl ⟨by rfl, ?_⟩) hHeld ?_ ?_
  rotate_left
  ·rintro w' ⟨s0, s1, s2, s3, s4, s5, s6, s7, s8⟩
   go_simp
   with_reducible rfl
  rotate_left
  ·simp only [Act.put, List.setIfInBounds_toArray, List.set_cons_zero, List.set_cons_succ, i64_w, i32_w]
   rfl
  refine take_ (i := 17) (N := some 31) (v := ?_) (a' := ?_) (bN 28 247831) rfl rfl (take_ofW HT_.out HW_.out (by kernel_rfl)) (fun _ _ _ h => h) (Or.inl ⟨by rfl, ?_⟩) hHeld ?_ ?_
  rotate_left
  ·rintro w' ⟨s0, s1, s2, s3, s4, s5, s6, s7, s8⟩
   go_simp
   with_reducible rfl
  rotate_left
  ·simp only [Act.put, List.setIfInBounds_toArray, List.set_cons_zero, List.set_cons_succ, i64_w, i32_w]
   rfl
  refine pure_ (i := 18) (N := some 32) (v := ?_) (a' := ?_) (bN 28 509975) rfl rfl (any_of HT_.out (by kernel_rfl)) (fun _ _ _ h => h) (Or.inl ⟨by rfl, ?_⟩) ?_ ?_
  rotate_left
  ·intro w'
   go_simp
   with_reducible rfl
  rotate_left
  ·simp only [Act.put, List.setIfInBounds_toArray, List.set_cons_zero, List.set_cons_succ, i64_w, i32_w]
   rfl
  refine take_ (i := 19) (N := some 33) (v := ?_) (a' := ?_) (bN 28 1034263) rfl rfl (take_ofW HT_.out HW_.out (by kernel_rfl)) (fun _ _ _ h => h) (Or.inl ⟨by rfl, ?_⟩) hHeld ?_ ?_
  rotate_left
  ·rintro w' ⟨s0, s1, s2, s3, s4, s5, s6, s7, s8⟩
   go_simp
   with_reducible rfl
  rotate_left
  ·simp only [Act.put, List.setIfInBounds_toArray, List.set_cons_zero, List.set_cons_succ, i64_w, i32_w]
   rfl
  refine take_ (i := 22) (N := some 36) (v := ?_) (a' := ?_) (bN 28 5228567) rfl rfl (take_ofW HT_.out HW_.out (by kernel_rfl)) (fun _ _ _ h => h) (Or.inl ⟨by rfl, ?_⟩) hHeld ?_ ?_
  rotate_left
  ·rintro w' ⟨s0, s1, s2, s3, s4, s5, s6, s7, s8⟩
   go_simp
   with_reducible rfl
  rotate_left
  ·simp only [Act.put, List.setIfInBounds_toArray, List.set_cons_zero, List.set_cons_succ, i64_w, i32_w]
   rfl
  refine one_ (i := 3) (N := some 17) (bN 28 5228575) rfl rfl (one_of HT_.out (by kernel_rfl)) (by decide) (fun K hK => ?_)
  refine goes_ Try.func29 (by kernel_rfl) rfl #[.agg #[.int .i64 a0_0, .int .i64 a0_1]] (by rfl) rfl rfl (by (try simp only [List.map_toArray, List.map_cons, List.map_nil]); first | done | rfl) ?_
  refine (predI_calls a0_0 a0_1 _).mono ?_
  rintro e w901 ⟨gp901, rfl, hgp, hgw, hb⟩
  have BKP901 := Aside0.mk hgp
  clear hgp hgw
  refine ⟨_, rfl, ?_⟩
  replace BK117 := sBk BK117 hb
  replace BK118 := sBk BK118 hb
  replace BK119 := sBk BK119 hb
  replace BK120 := sBk BK120 hb
  replace BK121 := sBk BK121 hb
  replace HB := sHb hb
  (try clear hb)
  (try clear hb2)
  (try clear hk)
  (try clear hi)
  refine hK.out _ _ ⟨(blk_cell BK117.out 0).trans rfl, (blk_cell BK117.out 1).trans rfl, (blk_cell BK118.out 0).trans rfl, (blk_cell BK118.out 1).trans rfl, (blk_cell BK121.out 0).trans rfl, (blk_cell BK121.out 1).trans rfl, (blk_cell BK119.out 0).trans rfl, (blk_cell BK119.out 1).trans rfl, (blk_cell BK119.out 2).trans rfl⟩ (fun hHeld => ?_)
  clear hK K
  refine norm_ (a' := ?_) ?_ ?_
  rotate_left
  ·show Act.put _ (some 17) _ = _
   simp only [Act.put, List.setIfInBounds_toArray, List.set_cons_zero, List.set_cons_succ, i64_w, i32_w]
   rfl
  refine one_ (i := 5) (N := some 19) (bN 28 5228607) rfl rfl (one_of HT_.out (by kernel_rfl)) (by decide) (fun K hK => ?_)
  refine goesV_ Try.func50 (by kernel_rfl) rfl #[] #[.pointer (some ⟨gp901, 0, none⟩)] #[.agg #[.int .i64 a2_0, .int .i64 a2_1]] #[.agg #[.int .i64 a2_0, .int .i64 a2_1], .pointer (some ⟨gp901, 0, none⟩)] rfl (by rfl) rfl rfl rfl (by simp only [List.map_toArray, List.map_cons, List.map_nil] <;> rfl) ?_
  refine (inside_calls a0_0 a0_1 a2_0 a2_1 true _ (Option.some.inj A4.out) gp901 BKP901.out).mono ?_
  rintro e w24 ⟨rfl, hb⟩
  refine ⟨_, rfl, ?_⟩
  replace BK117 := sBk BK117 hb
  replace BK118 := sBk BK118 hb
  replace BK119 := sBk BK119 hb
  replace BK120 := sBk BK120 hb
  replace BK121 := sBk BK121 hb
  replace HB := sHb hb
  (try clear hb)
  (try clear hb2)
  (try clear hk)
  (try clear hi)
  refine hK.out _ _ ⟨(blk_cell BK117.out 0).trans rfl, (blk_cell BK117.out 1).trans rfl, (blk_cell BK118.out 0).trans rfl, (blk_cell BK118.out 1).trans rfl, (blk_cell BK121.out 0).trans rfl, (blk_cell BK121.out 1).trans rfl, (blk_cell BK119.out 0).trans rfl, (blk_cell BK119.out 1).trans rfl, (blk_cell BK119.out 2).trans rfl⟩ (fun hHeld => ?_)
  clear hK K
  refine norm_ (a' := ?_) ?_ ?_
  rotate_left
  ·show Act.put _ (some 19) _ = _
   simp only [Act.put, List.setIfInBounds_toArray, List.set_cons_zero, List.set_cons_succ, i64_w, i32_w]
   rfl
  refine pure_ (i := 6) (N := some 20) (v := ?_) (a' := ?_) (bN 28 5228671) rfl rfl (any_of HT_.out (by kernel_rfl)) (fun _ _ _ h => h) (Or.inl ⟨by rfl, ?_⟩) ?_ ?_
  rotate_left
  ·intro w'
   go_simp
   with_reducible rfl
  rotate_left
  ·simp only [Act.put, List.setIfInBounds_toArray, List.set_cons_zero, List.set_cons_succ, i64_w, i32_w]
   rfl
  refine pure_ (i := 7) (N := some 21) (v := ?_) (a' := ?_) (bN 28 5228799) rfl rfl (any_of HT_.out (by kernel_rfl)) (fun _ _ _ h => h) (Or.inl ⟨by rfl, ?_⟩) ?_ ?_
  rotate_left
  ·intro w'
   go_simp
   with_reducible rfl
  rotate_left
  ·simp only [Act.put, List.setIfInBounds_toArray, List.set_cons_zero, List.set_cons_succ, i64_w, i32_w]
   rfl
  refine take_ (i := 8) (N := some 22) (v := ?_) (a' := ?_) (bN 28 5229055) rfl rfl (take_ofW HT_.out HW_.out (by kernel_rfl)) (fun _ _ _ h => h) (Or.inl ⟨by rfl, ?_⟩) hHeld ?_ ?_
  rotate_left
  ·rintro w' ⟨s0, s1, s2, s3, s4, s5, s6, s7, s8⟩
   go_simp
   with_reducible rfl
  rotate_left
  ·simp only [Act.put, List.setIfInBounds_toArray, List.set_cons_zero, List.set_cons_succ, i64_w, i32_w]
   rfl
  refine one_ (i := 9) (N := some 23) (bN 28 5229567) rfl rfl (one_of HT_.out (by kernel_rfl)) (by decide) (fun K hK => ?_)
  refine goes_ Try.func41 (by kernel_rfl) rfl #[.int .i64 a2_2, .int .i64 (-1), .int .i64 1] (by rfl) rfl rfl (by simp only [List.map_toArray, List.map_cons, List.map_nil] <;> rfl) ?_
  with_reducible refine (call_within.calls a2_2 (-1) 1 t123 _ A6.out).mono ?_
  rintro e w' ⟨rfl, ⟨nd, rfl⟩⟩
  refine ⟨_, rfl, ?_⟩
  refine hK.out _ _ ⟨(blk_cell BK117.out 0).trans rfl, (blk_cell BK117.out 1).trans rfl, (blk_cell BK118.out 0).trans rfl, (blk_cell BK118.out 1).trans rfl, (blk_cell BK121.out 0).trans rfl, (blk_cell BK121.out 1).trans rfl, (blk_cell BK119.out 0).trans rfl, (blk_cell BK119.out 1).trans rfl, (blk_cell BK119.out 2).trans rfl⟩ (fun hHeld => ?_)
  clear hK K
  refine norm_ (a' := ?_) ?_ ?_
  rotate_left
  ·show Act.put _ (some 23) _ = _
   simp only [Act.put, List.setIfInBounds_toArray, List.set_cons_zero, List.set_cons_succ, i64_w, i32_w]
   rfl
  refine pure_ (i := 10) (N := some 24) (v := ?_) (a' := ?_) (bN 28 5230591) rfl rfl (any_of HT_.out (by kernel_rfl)) (fun _ _ _ h => h) (Or.inl ⟨by rfl, ?_⟩) ?_ ?_
  rotate_left
  ·intro w'
   go_simp
   with_reducible rfl
  rotate_left
  ·simp only [Act.put, List.setIfInBounds_toArray, List.set_cons_zero, List.set_cons_succ, i64_w, i32_w]
   rfl
  refine one_ (i := 12) (N := some 26) (bN 28 5234687) rfl rfl (one_of HT_.out (by kernel_rfl)) (by decide) (fun K hK => ?_)
  refine goes_ Try.func30 (by kernel_rfl) rfl #[.agg #[.slice A1_0 l1_0.length c1_0, .slice A1_1 l1_1.length c1_1]] (by rfl) rfl rfl (by (try simp only [List.map_toArray, List.map_cons, List.map_nil]); first | done | rfl) ?_
  refine (rowH_calls A1_0 A1_1 l1_0.length l1_1.length c1_0 c1_1 _).mono ?_
  rintro e w902 ⟨rfl, hb⟩
  refine ⟨_, rfl, ?_⟩
  replace BK117 := sBk BK117 hb
  replace BK118 := sBk BK118 hb
  replace BK119 := sBk BK119 hb
  replace BK120 := sBk BK120 hb
  replace BK121 := sBk BK121 hb
  replace HB := sHb hb
  (try clear hb)
  (try clear hb2)
  (try clear hk)
  (try clear hi)
  refine hK.out _ _ ⟨(blk_cell BK117.out 0).trans rfl, (blk_cell BK117.out 1).trans rfl, (blk_cell BK118.out 0).trans rfl, (blk_cell BK118.out 1).trans rfl, (blk_cell BK121.out 0).trans rfl, (blk_cell BK121.out 1).trans rfl, (blk_cell BK119.out 0).trans rfl, (blk_cell BK119.out 1).trans rfl, (blk_cell BK119.out 2).trans rfl⟩ (fun hHeld => ?_)
  clear hK K
  refine norm_ (a' := ?_) ?_ ?_
  rotate_left
  ·show Act.put _ (some 26) _ = _
   simp only [Act.put, List.setIfInBounds_toArray, List.set_cons_zero, List.set_cons_succ, i64_w, i32_w]
   rfl
  refine pure_ (i := 13) (N := some 27) (v := ?_) (a' := ?_) (bN 28 5242879) rfl rfl (any_of HT_.out (by kernel_rfl)) (fun _ _ _ h => h) (Or.inl ⟨by rfl, ?_⟩) ?_ ?_
  rotate_left
  ·intro w'
   go_simp
   with_reducible rfl
  rotate_left
  ·simp only [Act.put, List.setIfInBounds_toArray, List.set_cons_zero, List.set_cons_succ, i64_w, i32_w]
   rfl
  refine one_ (i := 20) (N := some 34) (bN 28 6291455) rfl rfl (one_of HT_.out (by kernel_rfl)) (by decide) (fun K hK => ?_)
  refine goes_ Try.func32 (by kernel_rfl) rfl #[.agg #[.slice A1_0 l1_0.length c1_0, .slice A1_1 l1_1.length c1_1]] (by rfl) rfl rfl (by (try simp only [List.map_toArray, List.map_cons, List.map_nil]); first | done | rfl) ?_
  refine (rowI_calls A1_0 A1_1 l1_0.length l1_1.length c1_0 c1_1 _).mono ?_
  rintro e w903 ⟨rfl, hb⟩
  refine ⟨_, rfl, ?_⟩
  replace BK117 := sBk BK117 hb
  replace BK118 := sBk BK118 hb
  replace BK119 := sBk BK119 hb
  replace BK120 := sBk BK120 hb
  replace BK121 := sBk BK121 hb
  replace HB := sHb hb
  (try clear hb)
  (try clear hb2)
  (try clear hk)
  (try clear hi)
  refine hK.out _ _ ⟨(blk_cell BK117.out 0).trans rfl, (blk_cell BK117.out 1).trans rfl, (blk_cell BK118.out 0).trans rfl, (blk_cell BK118.out 1).trans rfl, (blk_cell BK121.out 0).trans rfl, (blk_cell BK121.out 1).trans rfl, (blk_cell BK119.out 0).trans rfl, (blk_cell BK119.out 1).trans rfl, (blk_cell BK119.out 2).trans rfl⟩ (fun hHeld => ?_)
  clear hK K
  refine norm_ (a' := ?_) ?_ ?_
  rotate_left
  ·show Act.put _ (some 34) _ = _
   simp only [Act.put, List.setIfInBounds_toArray, List.set_cons_zero, List.set_cons_succ, i64_w, i32_w]
   rfl
  refine pure_ (i := 21) (N := some 35) (v := ?_) (a' := ?_) (bN 28 8388607) rfl rfl (any_of HT_.out (by kernel_rfl)) (fun _ _ _ h => h) (Or.inl ⟨by rfl, ?_⟩) ?_ ?_
  rotate_left
  ·intro w'
   go_simp
   with_reducible rfl
  rotate_left
  ·simp only [Act.put, List.setIfInBounds_toArray, List.set_cons_zero, List.set_cons_succ, i64_w, i32_w]
   rfl
  refine one_ (i := 23) (N := some 37) (bN 28 16777215) rfl rfl (one_of HT_.out (by kernel_rfl)) (by decide) (fun K hK => ?_)
  refine goes_ Try.func28 (by kernel_rfl) rfl #[.agg #[.int .i64 a0_0, .int .i64 a0_1], .agg #[.slice A1_0 l1_0.length c1_0, .slice A1_1 l1_1.length c1_1], .bool t123, .func (.func 31) #[.agg #[.slice A1_0 l1_0.length c1_0, .func (.func 51) #[] #[]]] #[], .agg #[.int .i64 a2_1, .int .i64 a2_2, .int .i64 0], .func (.func 36) #[.agg #[.slice A1_1 l1_1.length c1_1, .func (.func 57) #[] #[]]] #[], .agg #[.int .i64 a2_0, .int .i64 a2_1]] (by rfl) rfl rfl (by simp only [List.map_toArray, List.map_cons, List.map_nil] <;> rfl) ?_
  refine (call_change.calls _ _ k a0_0 a0_1 A1_0 c1_0 l1_0 A1_1 c1_1 l1_1 t123 0 a2_1 a2_2 0 0 a2_0 a2_1 t124 t127 t130 _ ?side1 ?side2 ?side3 ?side4 A7.out 31 Try.f31 (.agg #[.slice A1_0 l1_0.length c1_0, .func (.func 51) #[] #[]]) Try.func31 (by kernel_rfl) rfl (fun W t ht hb => woP_H_calls A1_0 c1_0 l1_0 _ _ _ t W (Kd.C_below (Kd.C_below HR1_0.out (by repeat (first | (with_reducible first | exact HB.out | apply below_alloc | apply pw_below_drewN | apply below_drew1) | exact HB.out | (refine below_set ?_ (Aside0.out (by assumption)))))) hb) HC1_0.out ht) 36 Try.f36 (.agg #[.slice A1_1 l1_1.length c1_1, .func (.func 57) #[] #[]]) Try.func36 (by kernel_rfl) rfl (fun W t ht hb => woP_I_calls A1_1 c1_1 l1_1 _ _ t W (Kd.C_below (Kd.C_below HR1_1.out (by repeat (first | (with_reducible first | exact HB.out | apply below_alloc | apply pw_below_drewN | apply below_drew1) | exact HB.out | (refine below_set ?_ (Aside0.out (by assumption)))))) hb) HC1_1.out ht)).mono ?_
  (case side1 => exact (Kd.C_below HR1_0.out HB.out))
  (case side2 => exact HC1_0.out)
  (case side3 => exact (Kd.C_below HR1_1.out HB.out))
  (case side4 => exact HC1_1.out)
  rintro e w25 ⟨v125, v128, rfl, ho0, ho1, hb⟩
  refine ⟨_, rfl, ?_⟩
  have HO126 := Aside0.mk (Kd.R_lower ho0 (below_size HB.out))
  have HO129 := Aside0.mk (Kd.R_lower (Kd.R_newB ho1 (g := gb121) (o := .cells #[.int .i64 a2_0, .int .i64 a2_1] 62 (0, 0)) BK121.out) (below_size HB.out))
  replace BK117 := sBk BK117 hb
  replace BK118 := sBk BK118 hb
  replace BK119 := sBk BK119 hb
  replace BK120 := sBk BK120 hb
  replace BK121 := sBk BK121 hb
  replace HB := sHb hb
  (try clear hb)
  (try clear hb2)
  (try clear hk)
  (try clear hi)
  (try clear ho0)
  (try clear ho1)
  obtain ⟨Ao26, co26, eo26⟩ := Kd.R_slice HO126.out
  (first | subst eo26 | (injection eo26 with f1_ f2_ f3_; have f4_ := f1_.symm; have f5_ := f3_.symm; clear f1_ f2_ f3_; subst f4_; subst f5_))
  obtain ⟨Ao28, co28, eo28⟩ := Kd.R_slice HO129.out
  (first | subst eo28 | (injection eo28 with f1_ f2_ f3_; have f4_ := f1_.symm; have f5_ := f3_.symm; clear f1_ f2_ f3_; subst f4_; subst f5_))
  refine hK.out _ _ ⟨(blk_cell BK117.out 0).trans rfl, (blk_cell BK117.out 1).trans rfl, (blk_cell BK118.out 0).trans rfl, (blk_cell BK118.out 1).trans rfl, (blk_cell BK121.out 0).trans rfl, (blk_cell BK121.out 1).trans rfl, (blk_cell BK119.out 0).trans rfl, (blk_cell BK119.out 1).trans rfl, (blk_cell BK119.out 2).trans rfl⟩ (fun hHeld => ?_)
  clear hK K
  refine norm_ (a' := ?_) ?_ ?_
  rotate_left
  ·show Act.put _ (some 37) _ = _
   simp only [Act.put, List.setIfInBounds_toArray, List.set_cons_zero, List.set_cons_succ, i64_w, i32_w]
   rfl
  refine pure_ (i := 24) (N := some 38) (v := ?_) (a' := ?_) (bN 28 33554431) rfl rfl (any_of HT_.out (by kernel_rfl)) (fun _ _ _ h => h) (Or.inl ⟨by rfl, ?_⟩) ?_ ?_
  rotate_left
  ·intro w'
   go_simp
   with_reducible rfl
  rotate_left
  ·simp only [Act.put, List.setIfInBounds_toArray, List.set_cons_zero, List.set_cons_succ, i64_w, i32_w]
   rfl
  refine pure_ (i := 25) (N := some 39) (v := ?_) (a' := ?_) (bN 28 67108863) rfl rfl (any_of HT_.out (by kernel_rfl)) (fun _ _ _ h => h) (Or.inl ⟨by rfl, ?_⟩) ?_ ?_
  rotate_left
  ·intro w'
   go_simp
   with_reducible rfl
  rotate_left
  ·simp only [Act.put, List.setIfInBounds_toArray, List.set_cons_zero, List.set_cons_succ, i64_w, i32_w]
   rfl
  refine one_ (i := 26) (N := none) (bN 28 134217727) rfl rfl (one_of HT_.out (by kernel_rfl)) (by decide) (fun K hK => ?_)
  have hs27 : w25.cell? ⟨gb120, 0, none⟩ = some (.slice none 0 0) := (blk_cell BK120.out 0).trans rfl
  have hfs27 := blk_frozen BK120.out 0
  have hns27_0 := NB117_120.out
  have hns27_1 := NB118_120.out
  have hns27_2 := NB119_120.out
  have hns27_4 := NB121_120.out
  have hms27_0 := NB120_117.out
  have hms27_1 := NB120_118.out
  have hms27_2 := NB120_119.out
  have hms27_4 := NB120_121.out
  have hs29 : w25.cell? ⟨gb120, 1, none⟩ = some (.slice none 0 0) := (blk_cell BK120.out 1).trans rfl
  have hfs29 := blk_frozen BK120.out 1
  have hns29_0 := NB117_120.out
  have hns29_1 := NB118_120.out
  have hns29_2 := NB119_120.out
  have hns29_4 := NB121_120.out
  have hms29_0 := NB120_117.out
  have hms29_1 := NB120_118.out
  have hms29_2 := NB120_119.out
  have hms29_4 := NB120_121.out
  refine skip_ (w1 := ?_) (by rfl) rfl ?_ ?_
  rotate_left
  ·go_simp
   rfl
  refine hK.out _ _ ⟨((cell_far (p := ⟨gb120, _, none⟩) NB117_120.out _).trans (((cell_far (p := ⟨gb120, _, none⟩) NB117_120.out _).trans (hHeld.1)))), ((cell_far (p := ⟨gb120, _, none⟩) NB117_120.out _).trans (((cell_far (p := ⟨gb120, _, none⟩) NB117_120.out _).trans (hHeld.2.1)))), ((cell_far (p := ⟨gb120, _, none⟩) NB118_120.out _).trans (((cell_far (p := ⟨gb120, _, none⟩) NB118_120.out _).trans (hHeld.2.2.1)))), ((cell_far (p := ⟨gb120, _, none⟩) NB118_120.out _).trans (((cell_far (p := ⟨gb120, _, none⟩) NB118_120.out _).trans (hHeld.2.2.2.1)))), ((cell_far (p := ⟨gb120, _, none⟩) NB121_120.out _).trans (((cell_far (p := ⟨gb120, _, none⟩) NB121_120.out _).trans (hHeld.2.2.2.2.1)))), ((cell_far (p := ⟨gb120, _, none⟩) NB121_120.out _).trans (((cell_far (p := ⟨gb120, _, none⟩) NB121_120.out _).trans (hHeld.2.2.2.2.2.1)))), ((cell_far (p := ⟨gb120, _, none⟩) NB119_120.out _).trans (((cell_far (p := ⟨gb120, _, none⟩) NB119_120.out _).trans (hHeld.2.2.2.2.2.2.1)))), ((cell_far (p := ⟨gb120, _, none⟩) NB119_120.out _).trans (((cell_far (p := ⟨gb120, _, none⟩) NB119_120.out _).trans (hHeld.2.2.2.2.2.2.2.1)))), ((cell_far (p := ⟨gb120, _, none⟩) NB119_120.out _).trans (((cell_far (p := ⟨gb120, _, none⟩) NB119_120.out _).trans (hHeld.2.2.2.2.2.2.2.2))))⟩ (fun hHeld => ?_)
  clear hK K
  refine pure_ (i := 27) (N := some 7) (v := ?_) (a' := ?_) (bN 28 268435455) rfl rfl (any_of HT_.out (by kernel_rfl)) (fun _ _ _ h => h) (Or.inl ⟨by rfl, ?_⟩) ?_ ?_
  rotate_left
  ·intro w'
   go_simp
   with_reducible rfl
  rotate_left
  ·simp only [Act.put, List.setIfInBounds_toArray, List.set_cons_zero, List.set_cons_succ, i64_w, i32_w]
   rfl
  refine done_ (done_of HT_.out (by kernel_rfl)) ?_
  try go_wp2
  refine bodyPost_ret (results_ct rfl _ _ gb120 27 #[.slice Ao26 t124.length co26, .slice Ao28 t127.length co28] (0, 0) _ rfl (by refine blk_put (cs := #[.slice Ao26 t124.length co26, .slice none 0 0]) ?_ 1 _ rfl; refine blk_put (cs := #[.slice none 0 0, .slice none 0 0]) ?_ 0 _ rfl; exact BK120.out) Try.underlying27 rfl (by kernel_rfl)) rfl ?_
  exact ⟨_, _, by first | rfl | (simp [errW_none, errW_some] <;> rfl) | (simp [*, errW_none, errW_some] <;> rfl), by (with_reducible repeat (first | apply Kd.R_alloc | apply Kd.R_drewN | apply Kd.R_drew)); exact Kd.R_mono (Kd.R_far (Kd.R_far (Kd.R_types HO126.out BK120.out (by decide)) (fun _ hk => hk.2) _) (fun _ hk => hk.2) _) (fun _ hk => trivial), by (with_reducible repeat (first | apply Kd.R_alloc | apply Kd.R_drewN | apply Kd.R_drew)); exact Kd.R_mono (Kd.R_far (Kd.R_far (Kd.R_types HO129.out BK120.out (by decide)) (fun _ hk => hk.2) _) (fun _ hk => hk.2) _) (fun _ hk => trivial), bel⟩
 ·replace c5 := Bool.eq_false_iff.mpr c5
  subst c5
  have H1 : ((call_change.f (woP_H.f a2_1 a2_2 0 l1_0) (woP_I.f a2_0 a2_1 l1_1) k a0_0 a0_1 l1_0 l1_1 false 0 a2_1 a2_2 0 0 a2_0 a2_1).bind fun bt131 => (some (bt131.1, bt131.2.1, bt131.2.2))) = some (r1, r2, r3) := by rw [if_neg (show ¬ (false = true) by decide)] at H; exact H
  clear H
  have H := H1
  clear H1
  replace H := Option.bind_eq_some_iff.mp H
  obtain ⟨⟨t131, t134, t137⟩, A300, H⟩ := H
  replace H : (some (t131, t134, t137)) = some (r1, r2, r3) := H
  have A30 := Aside0.mk A300
  clear A300
  simp only [Option.some.injEq, Prod.mk.injEq] at H
  obtain ⟨rfl, rfl, rfl⟩ := H
  go_enter Try.func18, Try.ntmps18
  try go_wp2_with (first | ((with_reducible refine gate_dst (N := 3) rfl ?_); refine box_event ?hg (N := 3) ?hd (cs := #[.int .i64 a0_0, .int .i64 a0_1]) (t := 23) ?hr ?_; (case hd => rfl); (case hg => rfl); (case hr => go_simp <;> rfl); intro gb117 hg w31 hbox hb; have BK117 := Aside0.mk hbox; have GW117 := sGe hg; have GE117 := sGe hg; replace HB := sHb hb; clear hb hbox hg) | ((with_reducible refine gate_dst (N := 4) rfl ?_); refine box_event ?hg (N := 4) ?hd (cs := #[.slice A1_0 l1_0.length c1_0, .slice A1_1 l1_1.length c1_1]) (t := 27) ?hr ?_; (case hd => rfl); (case hg => rfl); (case hr => go_simp <;> rfl); intro gb118 hg w32 hbox hb; have BK118 := Aside0.mk hbox; have GW118 := sGe hg; have GE118 := sGe hg; have NB117_118 := sNl BK117 hg; have NB118_117 := sNg BK117 hg; replace BK117 := sBk BK117 hb; replace HB := sHb hb; clear hb hbox hg) | ((with_reducible refine gate_dst (N := 5) rfl ?_); refine box_event ?hg (N := 5) ?hd (cs := #[.int .i64 a2_0, .int .i64 a2_1, .int .i64 a2_2]) (t := 43) ?hr ?_; (case hd => rfl); (case hg => rfl); (case hr => go_simp <;> rfl); intro gb119 hg w33 hbox hb; have BK119 := Aside0.mk hbox; have GW119 := sGe hg; have GE119 := sGe hg; have NB117_119 := sNl BK117 hg; have NB119_117 := sNg BK117 hg; have NB118_119 := sNl BK118 hg; have NB119_118 := sNg BK118 hg; replace BK117 := sBk BK117 hb; replace BK118 := sBk BK118 hb; replace HB := sHb hb; clear hb hbox hg) | ((with_reducible refine gate_dst (N := 6) rfl ?_); refine box_event ?hg (N := 6) ?hd (cs := #[.slice none 0 0, .slice none 0 0]) (t := 27) ?hr ?_; (case hd => rfl); (case hg => rfl); (case hr => go_simp <;> rfl); intro gb120 hg w34 hbox hb; have BK120 := Aside0.mk hbox; have GW120 := sGe hg; have GE120 := sGe hg; have NB117_120 := sNl BK117 hg; have NB120_117 := sNg BK117 hg; have NB118_120 := sNl BK118 hg; have NB120_118 := sNg BK118 hg; have NB119_120 := sNl BK119 hg; have NB120_119 := sNg BK119 hg; replace BK117 := sBk BK117 hb; replace BK118 := sBk BK118 hb; replace BK119 := sBk BK119 hb; replace HB := sHb hb; clear hb hbox hg; have hnb35 := NB119_117.out; have hnc35 := NB117_119.out; have hnb36 := NB119_118.out; have hnc36 := NB118_119.out; have hnb37 := NB119_120.out; have hnc37 := NB120_119.out; have hcz38_0 : w34.cell? ⟨gb119, 0, none⟩ = some (.int .i64 a2_0) := (blk_cell BK119.out 0).trans rfl; have hcz38_1 : w34.cell? ⟨gb119, 1, none⟩ = some (.int .i64 a2_1) := (blk_cell BK119.out 1).trans rfl; have hcz38_2 : w34.cell? ⟨gb119, 2, none⟩ = some (.int .i64 a2_2) := (blk_cell BK119.out 2).trans rfl; have hfz38_0 := blk_frozen BK119.out 0; have hfz38_1 := blk_frozen BK119.out 1; have hfz38_2 := blk_frozen BK119.out 2) | ((with_reducible refine gate_dst (N := 8) rfl ?_); refine box_event ?hg (N := 8) ?hd (cs := #[.int .i64 0, .int .i64 0]) (t := 62) ?hr ?_; (case hd => rfl); (case hg => rfl); (case hr => go_simp <;> rfl); intro gb121 hg w39 hbox hb; have BK121 := Aside0.mk hbox; have GW121 := sGe hg; have GE121 := sGe hg; have NB117_121 := sNl BK117 hg; have NB121_117 := sNg BK117 hg; have NB118_121 := sNl BK118 hg; have NB121_118 := sNg BK118 hg; have NB119_121 := sNl BK119 hg; have NB121_119 := sNg BK119 hg; have NB120_121 := sNl BK120 hg; have NB121_120 := sNg BK120 hg; replace BK117 := sBk BK117 hb; replace BK118 := sBk BK118 hb; replace BK119 := sBk BK119 hb; replace BK120 := sBk BK120 hb; replace HB := sHb hb; clear hb hbox hg; have hnb40 := NB121_117.out; have hnc40 := NB117_121.out; have hnb41 := NB121_118.out; have hnc41 := NB118_121.out; have hnb42 := NB121_119.out; have hnc42 := NB119_121.out; have hnb43 := NB121_120.out; have hnc43 := NB120_121.out; have hcz44_0 : w39.cell? ⟨gb121, 0, none⟩ = some (.int .i64 0) := (blk_cell BK121.out 0).trans rfl; have hcz44_1 : w39.cell? ⟨gb121, 1, none⟩ = some (.int .i64 0) := (blk_cell BK121.out 1).trans rfl; have hfz44_0 := blk_frozen BK121.out 0; have hfz44_1 := blk_frozen BK121.out 1))
  have n0_ : Aside0 (((w39.setCell ⟨gb121, 0, none⟩ (.int .i64 a2_0)).setCell ⟨gb121, 1, none⟩ (.int .i64 a2_1)).heap[gb117]? = some (.cells #[.int .i64 a0_0, .int .i64 a0_1] 23 (0, 0))) := ⟨bka BK117⟩
  have n1_ : Aside0 (((w39.setCell ⟨gb121, 0, none⟩ (.int .i64 a2_0)).setCell ⟨gb121, 1, none⟩ (.int .i64 a2_1)).heap[gb118]? = some (.cells #[.slice A1_0 l1_0.length c1_0, .slice A1_1 l1_1.length c1_1] 27 (0, 0))) := ⟨bka BK118⟩
  have n2_ : Aside0 (((w39.setCell ⟨gb121, 0, none⟩ (.int .i64 a2_0)).setCell ⟨gb121, 1, none⟩ (.int .i64 a2_1)).heap[gb119]? = some (.cells #[.int .i64 a2_0, .int .i64 a2_1, .int .i64 a2_2] 43 (0, 0))) := ⟨bka BK119⟩
  have n3_ : Aside0 (((w39.setCell ⟨gb121, 0, none⟩ (.int .i64 a2_0)).setCell ⟨gb121, 1, none⟩ (.int .i64 a2_1)).heap[gb120]? = some (.cells #[.slice none 0 0, .slice none 0 0] 27 (0, 0))) := ⟨bka BK120⟩
  have n4_ : Aside0 (((w39.setCell ⟨gb121, 0, none⟩ (.int .i64 a2_0)).setCell ⟨gb121, 1, none⟩ (.int .i64 a2_1)).heap[gb121]? = some (.cells #[.int .i64 a2_0, .int .i64 a2_1] 62 (0, 0))) := ⟨by refine blk_put (cs := #[.int .i64 a2_0, .int .i64 0]) ?_ 1 _ rfl; refine blk_put (cs := #[.int .i64 0, .int .i64 0]) ?_ 0 _ rfl; exact BK121.out⟩
  have n5_ : Aside0 (Below w.heap.size w ((w39.setCell ⟨gb121, 0, none⟩ (.int .i64 a2_0)).setCell ⟨gb121, 1, none⟩ (.int .i64 a2_1))) := ⟨bel⟩
  (try clear BK117)
  (try clear BK118)
  (try clear BK119)
  (try clear BK120)
  (try clear BK121)
  (try clear HB)
  generalize ((w39.setCell ⟨gb121, 0, none⟩ (.int .i64 a2_0)).setCell ⟨gb121, 1, none⟩ (.int .i64 a2_1)) = w45 at n0_ n1_ n2_ n3_ n4_ n5_ ⊢
  have BK117 := n0_
  have BK118 := n1_
  have BK119 := n2_
  have BK120 := n3_
  have BK121 := n4_
  have HB := n5_
  clear n0_ n1_ n2_ n3_ n4_ n5_
  replace BK117 := Aside0.mk (blk_drew BK117.out)
  replace BK118 := Aside0.mk (blk_drew BK118.out)
  replace BK119 := Aside0.mk (blk_drew BK119.out)
  replace BK120 := Aside0.mk (blk_drew BK120.out)
  replace BK121 := Aside0.mk (blk_drew BK121.out)
  replace HB := Aside0.mk (below_drew1 HB.out)
  refine start_ (n := 28) (S := fun w' => w'.cell? ⟨gb117, 0, none⟩ = some (.int .i64 a0_0) ∧ w'.cell? ⟨gb117, 1, none⟩ = some (.int .i64 a0_1) ∧ w'.cell? ⟨gb118, 0, none⟩ = some (.slice A1_0 l1_0.length c1_0) ∧ w'.cell? ⟨gb118, 1, none⟩ = some (.slice A1_1 l1_1.length c1_1) ∧ w'.cell? ⟨gb121, 0, none⟩ = some (.int .i64 a2_0) ∧ w'.cell? ⟨gb121, 1, none⟩ = some (.int .i64 a2_1) ∧ w'.cell? ⟨gb119, 0, none⟩ = some (.int .i64 a2_0) ∧ w'.cell? ⟨gb119, 1, none⟩ = some (.int .i64 a2_1) ∧ w'.cell? ⟨gb119, 2, none⟩ = some (.int .i64 a2_2)) (ds := []) #[false, false, false, false, false, false, false, false, false, false, false, false, false, false, false, false, false, false, false, false, false, false, false, false, false, false, false, false] (by kernel_rfl) rfl rfl ⟨(blk_cell BK117.out 0).trans rfl, (blk_cell BK117.out 1).trans rfl, (blk_cell BK118.out 0).trans rfl, (blk_cell BK118.out 1).trans rfl, (blk_cell BK121.out 0).trans rfl, (blk_cell BK121.out 1).trans rfl, (blk_cell BK119.out 0).trans rfl, (blk_cell BK119.out 1).trans rfl, (blk_cell BK119.out 2).trans rfl⟩ (fun hHeld => ?_); refine with_tabW call_Serve.tab2 call_Serve.bits2 (fun HT_ HW_ => ?_)
  generalize w45.drew = w46 at BK117 BK118 BK119 BK120 BK121 HB hHeld ⊢
  refine pure_ (i := 14) (N := some 28) (v := ?_) (a' := ?_) (bN 28 16384) rfl rfl (any_of HT_.out (by kernel_rfl)) (fun _ _ _ h => h) (Or.inl ⟨by rfl, ?_⟩) ?_ ?_
  rotate_left
  ·intro w'
   go_simp
   with_reducible rfl
  rotate_left
  ·simp only [Act.put, List.setIfInBounds_toArray, List.set_cons_zero, List.set_cons_succ, i64_w, i32_w]
   rfl
  refine pure_ (i := 16) (N := some 30) (v := ?_) (a' := ?_) (bN 28 81920) rfl rfl (any_of HT_.out (by kernel_rfl)) (fun _ _ _ h => h) (Or.inl ⟨by rfl, ?_⟩) ?_ ?_
  rotate_left
  ·intro w'
   go_simp
   with_reducible rfl
  rotate_left
  ·simp only [Act.put, List.setIfInBounds_toArray, List.set_cons_zero, List.set_cons_succ, i64_w, i32_w]
   rfl
  refine take_ (i := 0) (N := some 14) (v := ?_) (a' := ?_) (bN 28 81921) rfl rfl (take_ofW HT_.out HW_.out (by kernel_rfl)) (fun _ _ _ h => h) (Or.inl ⟨by rfl, ?_⟩) hHeld ?_ ?_
  rotate_left
  ·rintro w' ⟨s0, s1, s2, s3, s4, s5, s6, s7, s8⟩
   go_simp
   with_reducible rfl
  rotate_left
  ·simp only [Act.put, List.setIfInBounds_toArray, List.set_cons_zero, List.set_cons_succ, i64_w, i32_w]
   rfl
  refine take_ (i := 1) (N := some 15) (v := ?_) (a' := ?_) (bN 28 81923) rfl rfl (take_ofW HT_.out HW_.out (by kernel_rfl)) (fun _ _ _ h => h) (Or.inl ⟨by rfl, ?_⟩) hHeld ?_ ?_
  rotate_left
  ·rintro w' ⟨s0, s1, s2, s3, s4, s5, s6, s7, s8⟩
   go_simp
   with_reducible rfl
  rotate_left
  ·simp only [Act.put, List.setIfInBounds_toArray, List.set_cons_zero, List.set_cons_succ, i64_w, i32_w]
   rfl
  refine take_ (i := 2) (N := some 16) (v := ?_) (a' := ?_) (bN 28 81927) rfl rfl (take_ofW HT_.out HW_.out (by kernel_rfl)) (fun _ _ _ h => h) (Or.inl ⟨by rfl, ?_⟩) hHeld ?_ ?_
  rotate_left
  ·rintro w' ⟨s0, s1, s2, s3, s4, s5, s6, s7, s8⟩
   go_simp
   with_reducible rfl
  rotate_left
  ·simp only [Act.put, List.setIfInBounds_toArray, List.set_cons_zero, List.set_cons_succ, i64_w, i32_w]
   rfl
  refine take_ (i := 4) (N := some 18) (v := ?_) (a' := ?_) (bN 28 81943) rfl rfl (take_ofW HT_.out HW_.out (by kernel_rfl)) (fun _ _ _ h => h) (Or.inl ⟨by rfl, ?_⟩) hHeld ?_ ?_
  rotate_left
  ·rintro w' ⟨s0, s1, s2, s3, s4, s5, s6, s7, s8⟩
   go_simp
   with_reducible rfl
  rotate_left
  ·simp only [Act.put, List.setIfInBounds_toArray, List.set_cons_zero, List.set_cons_succ, i64_w, i32_w]
   rfl
  refine take_ (i := 11) (N := some 25) (v := ?_) (a' := ?_) (bN 28 83991) rfl rfl (take_ofW HT_.out HW_.out (by kernel_rfl)) (fun _ _ _ h => h) (Or.inl ⟨by rfl, ?_⟩) hHeld ?_ ?_
  rotate_left
  ·rintro w' ⟨s0, s1, s2, s3, s4, s5, s6, s7, s8⟩
   go_simp
   with_reducible rfl
  rotate_left
  ·simp only [Act.put, List.setIfInBounds_toArray, List.set_cons_zero, List.set_cons_succ, i64_w, i32_w]
   rfl
  refine take_ (i := 15) (N := some 29) (v := ?_) (a' := ?_) (bN 28 116759) rfl rfl (take_ofW HT_.out HW_.out (by kernel_rfl)) (fun _ _ _ h => h) (Or.inl ⟨by rfl, ?_⟩) hHeld ?_ ?_
  rotate_left
  ·rintro w' ⟨s0, s1, s2, s3, s4, s5, s6, s7, s8⟩
   go_simp
   with_reducible rfl
  rotate_left
  ·simp only [Act.put, List.setIfInBounds_toArray, List.set_cons_zero, List.set_cons_succ, i64_w, i32_w]
   rfl
  refine take_ (i := 17) (N := some 31) (v := ?_) (a' := ?_) (bN 28 247831) rfl rfl (take_ofW HT_.out HW_.out (by kernel_rfl)) (fun _ _ _ h => h) (Or.inl ⟨by rfl, ?_⟩) hHeld ?_ ?_
  rotate_left
  ·rintro w' ⟨s0, s1, s2, s3, s4, s5, s6, s7, s8⟩
   go_simp
   with_reducible rfl
  rotate_left
  ·simp only [Act.put, List.setIfInBounds_toArray, List.set_cons_zero, List.set_cons_succ, i64_w, i32_w]
   rfl
  refine pure_ (i := 18) (N := some 32) (v := ?_) (a' := ?_) (bN 28 509975) rfl rfl (any_of HT_.out (by kernel_rfl)) (fun _ _ _ h => h) (Or.inl ⟨by rfl, ?_⟩) ?_ ?_
  rotate_left
  ·intro w'
   go_simp
   with_reducible rfl
  rotate_left
  ·simp only [Act.put, List.setIfInBounds_toArray, List.set_cons_zero, List.set_cons_succ, i64_w, i32_w]
   rfl
  refine take_ (i := 19) (N := some 33) (v := ?_) (a' := ?_) (bN 28 1034263) rfl rfl (take_ofW HT_.out HW_.out (by kernel_rfl)) (fun _ _ _ h => h) (Or.inl ⟨by rfl, ?_⟩) hHeld ?_ ?_
  rotate_left
  ·rintro w' ⟨s0, s1, s2, s3, s4, s5, s6, s7, s8⟩
   go_simp
   with_reducible rfl
  rotate_left
  ·simp only [Act.put, List.setIfInBounds_toArray, List.set_cons_zero, List.set_cons_succ, i64_w, i32_w]
   rfl
  refine take_ (i := 22) (N := some 36) (v := ?_) (a' := ?_) (bN 28 5228567) rfl rfl (take_ofW HT_.out HW_.out (by kernel_rfl)) (fun _ _ _ h => h) (Or.inl ⟨by rfl, ?_⟩) hHeld ?_ ?_
  rotate_left
  ·rintro w' ⟨s0, s1, s2, s3, s4, s5, s6, s7, s8⟩
   go_simp
   with_reducible rfl
  rotate_left
  ·simp only [Act.put, List.setIfInBounds_toArray, List.set_cons_zero, List.set_cons_succ, i64_w, i32_w]
   rfl
  refine one_ (i := 3) (N := some 17) (bN 28 5228575) rfl rfl (one_of HT_.out (by kernel_rfl)) (by decide) (fun K hK => ?_)
  refine goes_ Try.func29 (by kernel_rfl) rfl #[.agg #[.int .i64 a0_0, .int .i64 a0_1]] (by rfl) rfl rfl (by (try simp only [List.map_toArray, List.map_cons, List.map_nil]); first | done | rfl) ?_
  refine (predI_calls a0_0 a0_1 _).mono ?_
  rintro e w904 ⟨gp904, rfl, hgp, hgw, hb⟩
  have BKP904 := Aside0.mk hgp
  clear hgp hgw
  refine ⟨_, rfl, ?_⟩
  replace BK117 := sBk BK117 hb
  replace BK118 := sBk BK118 hb
  replace BK119 := sBk BK119 hb
  replace BK120 := sBk BK120 hb
  replace BK121 := sBk BK121 hb
  replace HB := sHb hb
  (try clear hb)
  (try clear hb2)
  (try clear hk)
  (try clear hi)
  refine hK.out _ _ ⟨(blk_cell BK117.out 0).trans rfl, (blk_cell BK117.out 1).trans rfl, (blk_cell BK118.out 0).trans rfl, (blk_cell BK118.out 1).trans rfl, (blk_cell BK121.out 0).trans rfl, (blk_cell BK121.out 1).trans rfl, (blk_cell BK119.out 0).trans rfl, (blk_cell BK119.out 1).trans rfl, (blk_cell BK119.out 2).trans rfl⟩ (fun hHeld => ?_)
  clear hK K
  refine norm_ (a' := ?_) ?_ ?_
  rotate_left
  ·show Act.put _ (some 17) _ = _
   simp only [Act.put, List.setIfInBounds_toArray, List.set_cons_zero, List.set_cons_succ, i64_w, i32_w]
   rfl
  refine one_ (i := 5) (N := some 19) (bN 28 5228607) rfl rfl (one_of HT_.out (by kernel_rfl)) (by decide) (fun K hK => ?_)
  refine goesV_ Try.func50 (by kernel_rfl) rfl #[] #[.pointer (some ⟨gp904, 0, none⟩)] #[.agg #[.int .i64 a2_0, .int .i64 a2_1]] #[.agg #[.int .i64 a2_0, .int .i64 a2_1], .pointer (some ⟨gp904, 0, none⟩)] rfl (by rfl) rfl rfl rfl (by simp only [List.map_toArray, List.map_cons, List.map_nil] <;> rfl) ?_
  refine (inside_calls a0_0 a0_1 a2_0 a2_1 false _ (Option.some.inj A4.out) gp904 BKP904.out).mono ?_
  rintro e w47 ⟨rfl, hb⟩
  refine ⟨_, rfl, ?_⟩
  replace BK117 := sBk BK117 hb
  replace BK118 := sBk BK118 hb
  replace BK119 := sBk BK119 hb
  replace BK120 := sBk BK120 hb
  replace BK121 := sBk BK121 hb
  replace HB := sHb hb
  (try clear hb)
  (try clear hb2)
  (try clear hk)
  (try clear hi)
  refine hK.out _ _ ⟨(blk_cell BK117.out 0).trans rfl, (blk_cell BK117.out 1).trans rfl, (blk_cell BK118.out 0).trans rfl, (blk_cell BK118.out 1).trans rfl, (blk_cell BK121.out 0).trans rfl, (blk_cell BK121.out 1).trans rfl, (blk_cell BK119.out 0).trans rfl, (blk_cell BK119.out 1).trans rfl, (blk_cell BK119.out 2).trans rfl⟩ (fun hHeld => ?_)
  clear hK K
  refine norm_ (a' := ?_) ?_ ?_
  rotate_left
  ·show Act.put _ (some 19) _ = _
   simp only [Act.put, List.setIfInBounds_toArray, List.set_cons_zero, List.set_cons_succ, i64_w, i32_w]
   rfl
  refine pure_ (i := 6) (N := some 20) (v := ?_) (a' := ?_) (bN 28 5228671) rfl rfl (any_of HT_.out (by kernel_rfl)) (fun _ _ _ h => h) (Or.inl ⟨by rfl, ?_⟩) ?_ ?_
  rotate_left
  ·intro w'
   go_simp
   with_reducible rfl
  rotate_left
  ·simp only [Act.put, List.setIfInBounds_toArray, List.set_cons_zero, List.set_cons_succ, i64_w, i32_w]
   rfl
  refine pure_ (i := 7) (N := some 21) (v := undef) (a' := ?_) (bN 28 5228799) rfl rfl (any_of HT_.out (by kernel_rfl)) (fun _ _ _ h => h) (Or.inr ⟨by rfl, rfl⟩) ?_ ?_
  rotate_left
  ·simp only [Act.put, List.setIfInBounds_toArray, List.set_cons_zero, List.set_cons_succ, i64_w, i32_w]
   rfl
  refine pure_ (i := 8) (N := some 22) (v := undef) (a' := ?_) (bN 28 5229055) rfl rfl (any_of HT_.out (by kernel_rfl)) (fun _ _ _ h => h) (Or.inr ⟨by rfl, rfl⟩) ?_ ?_
  rotate_left
  ·simp only [Act.put, List.setIfInBounds_toArray, List.set_cons_zero, List.set_cons_succ, i64_w, i32_w]
   rfl
  refine pure_ (i := 9) (N := some 23) (v := undef) (a' := ?_) (bN 28 5229567) rfl rfl (any_of HT_.out (by kernel_rfl)) (fun _ _ _ h => h) (Or.inr ⟨by rfl, rfl⟩) ?_ ?_
  rotate_left
  ·simp only [Act.put, List.setIfInBounds_toArray, List.set_cons_zero, List.set_cons_succ, i64_w, i32_w]
   rfl
  refine pure_ (i := 10) (N := some 24) (v := ?_) (a' := ?_) (bN 28 5230591) rfl rfl (any_of HT_.out (by kernel_rfl)) (fun _ _ _ h => h) (Or.inl ⟨by rfl, ?_⟩) ?_ ?_
  rotate_left
  ·intro w'
   go_simp
   with_reducible rfl
  rotate_left
  ·simp only [Act.put, List.setIfInBounds_toArray, List.set_cons_zero, List.set_cons_succ, i64_w, i32_w]
   rfl
  refine one_ (i := 12) (N := some 26) (bN 28 5234687) rfl rfl (one_of HT_.out (by kernel_rfl)) (by decide) (fun K hK => ?_)
  refine goes_ Try.func30 (by kernel_rfl) rfl #[.agg #[.slice A1_0 l1_0.length c1_0, .slice A1_1 l1_1.length c1_1]] (by rfl) rfl rfl (by (try simp only [List.map_toArray, List.map_cons, List.map_nil]); first | done | rfl) ?_
  refine (rowH_calls A1_0 A1_1 l1_0.length l1_1.length c1_0 c1_1 _).mono ?_
  rintro e w905 ⟨rfl, hb⟩
  refine ⟨_, rfl, ?_⟩
  replace BK117 := sBk BK117 hb
  replace BK118 := sBk BK118 hb
  replace BK119 := sBk BK119 hb
  replace BK120 := sBk BK120 hb
  replace BK121 := sBk BK121 hb
  replace HB := sHb hb
  (try clear hb)
  (try clear hb2)
  (try clear hk)
  (try clear hi)
  refine hK.out _ _ ⟨(blk_cell BK117.out 0).trans rfl, (blk_cell BK117.out 1).trans rfl, (blk_cell BK118.out 0).trans rfl, (blk_cell BK118.out 1).trans rfl, (blk_cell BK121.out 0).trans rfl, (blk_cell BK121.out 1).trans rfl, (blk_cell BK119.out 0).trans rfl, (blk_cell BK119.out 1).trans rfl, (blk_cell BK119.out 2).trans rfl⟩ (fun hHeld => ?_)
  clear hK K
  refine norm_ (a' := ?_) ?_ ?_
  rotate_left
  ·show Act.put _ (some 26) _ = _
   simp only [Act.put, List.setIfInBounds_toArray, List.set_cons_zero, List.set_cons_succ, i64_w, i32_w]
   rfl
  refine pure_ (i := 13) (N := some 27) (v := ?_) (a' := ?_) (bN 28 5242879) rfl rfl (any_of HT_.out (by kernel_rfl)) (fun _ _ _ h => h) (Or.inl ⟨by rfl, ?_⟩) ?_ ?_
  rotate_left
  ·intro w'
   go_simp
   with_reducible rfl
  rotate_left
  ·simp only [Act.put, List.setIfInBounds_toArray, List.set_cons_zero, List.set_cons_succ, i64_w, i32_w]
   rfl
  refine one_ (i := 20) (N := some 34) (bN 28 6291455) rfl rfl (one_of HT_.out (by kernel_rfl)) (by decide) (fun K hK => ?_)
  refine goes_ Try.func32 (by kernel_rfl) rfl #[.agg #[.slice A1_0 l1_0.length c1_0, .slice A1_1 l1_1.length c1_1]] (by rfl) rfl rfl (by (try simp only [List.map_toArray, List.map_cons, List.map_nil]); first | done | rfl) ?_
  refine (rowI_calls A1_0 A1_1 l1_0.length l1_1.length c1_0 c1_1 _).mono ?_
  rintro e w906 ⟨rfl, hb⟩
  refine ⟨_, rfl, ?_⟩
  replace BK117 := sBk BK117 hb
  replace BK118 := sBk BK118 hb
  replace BK119 := sBk BK119 hb
  replace BK120 := sBk BK120 hb
  replace BK121 := sBk BK121 hb
  replace HB := sHb hb
  (try clear hb)
  (try clear hb2)
  (try clear hk)
  (try clear hi)
  refine hK.out _ _ ⟨(blk_cell BK117.out 0).trans rfl, (blk_cell BK117.out 1).trans rfl, (blk_cell BK118.out 0).trans rfl, (blk_cell BK118.out 1).trans rfl, (blk_cell BK121.out 0).trans rfl, (blk_cell BK121.out 1).trans rfl, (blk_cell BK119.out 0).trans rfl, (blk_cell BK119.out 1).trans rfl, (blk_cell BK119.out 2).trans rfl⟩ (fun hHeld => ?_)
  clear hK K
  refine norm_ (a' := ?_) ?_ ?_
  rotate_left
  ·show Act.put _ (some 34) _ = _
   simp only [Act.put, List.setIfInBounds_toArray, List.set_cons_zero, List.set_cons_succ, i64_w, i32_w]
   rfl
  refine pure_ (i := 21) (N := some 35) (v := ?_) (a' := ?_) (bN 28 8388607) rfl rfl (any_of HT_.out (by kernel_rfl)) (fun _ _ _ h => h) (Or.inl ⟨by rfl, ?_⟩) ?_ ?_
  rotate_left
  ·intro w'
   go_simp
   with_reducible rfl
  rotate_left
  ·simp only [Act.put, List.setIfInBounds_toArray, List.set_cons_zero, List.set_cons_succ, i64_w, i32_w]
   rfl
  refine one_ (i := 23) (N := some 37) (bN 28 16777215) rfl rfl (one_of HT_.out (by kernel_rfl)) (by decide) (fun K hK => ?_)
  refine goes_ Try.func28 (by kernel_rfl) rfl #[.agg #[.int .i64 a0_0, .int .i64 a0_1], .agg #[.slice A1_0 l1_0.length c1_0, .slice A1_1 l1_1.length c1_1], .bool false, .func (.func 31) #[.agg #[.slice A1_0 l1_0.length c1_0, .func (.func 51) #[] #[]]] #[], .agg #[.int .i64 a2_1, .int .i64 a2_2, .int .i64 0], .func (.func 36) #[.agg #[.slice A1_1 l1_1.length c1_1, .func (.func 57) #[] #[]]] #[], .agg #[.int .i64 a2_0, .int .i64 a2_1]] (by rfl) rfl rfl (by simp only [List.map_toArray, List.map_cons, List.map_nil] <;> rfl) ?_
  refine (call_change.calls _ _ k a0_0 a0_1 A1_0 c1_0 l1_0 A1_1 c1_1 l1_1 false 0 a2_1 a2_2 0 0 a2_0 a2_1 t131 t134 t137 _ ?side1 ?side2 ?side3 ?side4 A30.out 31 Try.f31 (.agg #[.slice A1_0 l1_0.length c1_0, .func (.func 51) #[] #[]]) Try.func31 (by kernel_rfl) rfl (fun W t ht hb => woP_H_calls A1_0 c1_0 l1_0 _ _ _ t W (Kd.C_below (Kd.C_below HR1_0.out (by repeat (first | (with_reducible first | exact HB.out | apply below_alloc | apply pw_below_drewN | apply below_drew1) | exact HB.out | (refine below_set ?_ (Aside0.out (by assumption)))))) hb) HC1_0.out ht) 36 Try.f36 (.agg #[.slice A1_1 l1_1.length c1_1, .func (.func 57) #[] #[]]) Try.func36 (by kernel_rfl) rfl (fun W t ht hb => woP_I_calls A1_1 c1_1 l1_1 _ _ t W (Kd.C_below (Kd.C_below HR1_1.out (by repeat (first | (with_reducible first | exact HB.out | apply below_alloc | apply pw_below_drewN | apply below_drew1) | exact HB.out | (refine below_set ?_ (Aside0.out (by assumption)))))) hb) HC1_1.out ht)).mono ?_
  (case side1 => exact (Kd.C_below HR1_0.out HB.out))
  (case side2 => exact HC1_0.out)
  (case side3 => exact (Kd.C_below HR1_1.out HB.out))
  (case side4 => exact HC1_1.out)
  rintro e w48 ⟨v132, v135, rfl, ho0, ho1, hb⟩
  refine ⟨_, rfl, ?_⟩
  have HO133 := Aside0.mk (Kd.R_lower ho0 (below_size HB.out))
  have HO136 := Aside0.mk (Kd.R_lower (Kd.R_newB ho1 (g := gb121) (o := .cells #[.int .i64 a2_0, .int .i64 a2_1] 62 (0, 0)) BK121.out) (below_size HB.out))
  replace BK117 := sBk BK117 hb
  replace BK118 := sBk BK118 hb
  replace BK119 := sBk BK119 hb
  replace BK120 := sBk BK120 hb
  replace BK121 := sBk BK121 hb
  replace HB := sHb hb
  (try clear hb)
  (try clear hb2)
  (try clear hk)
  (try clear hi)
  (try clear ho0)
  (try clear ho1)
  obtain ⟨Ao49, co49, eo49⟩ := Kd.R_slice HO133.out
  (first | subst eo49 | (injection eo49 with f1_ f2_ f3_; have f4_ := f1_.symm; have f5_ := f3_.symm; clear f1_ f2_ f3_; subst f4_; subst f5_))
  obtain ⟨Ao51, co51, eo51⟩ := Kd.R_slice HO136.out
  (first | subst eo51 | (injection eo51 with f1_ f2_ f3_; have f4_ := f1_.symm; have f5_ := f3_.symm; clear f1_ f2_ f3_; subst f4_; subst f5_))
  refine hK.out _ _ ⟨(blk_cell BK117.out 0).trans rfl, (blk_cell BK117.out 1).trans rfl, (blk_cell BK118.out 0).trans rfl, (blk_cell BK118.out 1).trans rfl, (blk_cell BK121.out 0).trans rfl, (blk_cell BK121.out 1).trans rfl, (blk_cell BK119.out 0).trans rfl, (blk_cell BK119.out 1).trans rfl, (blk_cell BK119.out 2).trans rfl⟩ (fun hHeld => ?_)
  clear hK K
  refine norm_ (a' := ?_) ?_ ?_
  rotate_left
  ·show Act.put _ (some 37) _ = _
   simp only [Act.put, List.setIfInBounds_toArray, List.set_cons_zero, List.set_cons_succ, i64_w, i32_w]
   rfl
  refine pure_ (i := 24) (N := some 38) (v := ?_) (a' := ?_) (bN 28 33554431) rfl rfl (any_of HT_.out (by kernel_rfl)) (fun _ _ _ h => h) (Or.inl ⟨by rfl, ?_⟩) ?_ ?_
  rotate_left
  ·intro w'
   go_simp
   with_reducible rfl
  rotate_left
  ·simp only [Act.put, List.setIfInBounds_toArray, List.set_cons_zero, List.set_cons_succ, i64_w, i32_w]
   rfl
  refine pure_ (i := 25) (N := some 39) (v := ?_) (a' := ?_) (bN 28 67108863) rfl rfl (any_of HT_.out (by kernel_rfl)) (fun _ _ _ h => h) (Or.inl ⟨by rfl, ?_⟩) ?_ ?_
  rotate_left
  ·intro w'
   go_simp
   with_reducible rfl
  rotate_left
  ·simp only [Act.put, List.setIfInBounds_toArray, List.set_cons_zero, List.set_cons_succ, i64_w, i32_w]
   rfl
  refine one_ (i := 26) (N := none) (bN 28 134217727) rfl rfl (one_of HT_.out (by kernel_rfl)) (by decide) (fun K hK => ?_)
  have hs50 : w48.cell? ⟨gb120, 0, none⟩ = some (.slice none 0 0) := (blk_cell BK120.out 0).trans rfl
  have hfs50 := blk_frozen BK120.out 0
  have hns50_0 := NB117_120.out
  have hns50_1 := NB118_120.out
  have hns50_2 := NB119_120.out
  have hns50_4 := NB121_120.out
  have hms50_0 := NB120_117.out
  have hms50_1 := NB120_118.out
  have hms50_2 := NB120_119.out
  have hms50_4 := NB120_121.out
  have hs52 : w48.cell? ⟨gb120, 1, none⟩ = some (.slice none 0 0) := (blk_cell BK120.out 1).trans rfl
  have hfs52 := blk_frozen BK120.out 1
  have hns52_0 := NB117_120.out
  have hns52_1 := NB118_120.out
  have hns52_2 := NB119_120.out
  have hns52_4 := NB121_120.out
  have hms52_0 := NB120_117.out
  have hms52_1 := NB120_118.out
  have hms52_2 := NB120_119.out
  have hms52_4 := NB120_121.out
  refine skip_ (w1 := ?_) (by rfl) rfl ?_ ?_
  rotate_left
  ·go_simp
   rfl
  refine hK.out _ _ ⟨((cell_far (p := ⟨gb120, _, none⟩) NB117_120.out _).trans (((cell_far (p := ⟨gb120, _, none⟩) NB117_120.out _).trans (hHeld.1)))), ((cell_far (p := ⟨gb120, _, none⟩) NB117_120.out _).trans (((cell_far (p := ⟨gb120, _, none⟩) NB117_120.out _).trans (hHeld.2.1)))), ((cell_far (p := ⟨gb120, _, none⟩) NB118_120.out _).trans (((cell_far (p := ⟨gb120, _, none⟩) NB118_120.out _).trans (hHeld.2.2.1)))), ((cell_far (p := ⟨gb120, _, none⟩) NB118_120.out _).trans (((cell_far (p := ⟨gb120, _, none⟩) NB118_120.out _).trans (hHeld.2.2.2.1)))), ((cell_far (p := ⟨gb120, _, none⟩) NB121_120.out _).trans (((cell_far (p := ⟨gb120, _, none⟩) NB121_120.out _).trans (hHeld.2.2.2.2.1)))), ((cell_far (p := ⟨gb120, _, none⟩) NB121_120.out _).trans (((cell_far (p := ⟨gb120, _, none⟩) NB121_120.out _).trans (hHeld.2.2.2.2.2.1)))), ((cell_far (p := ⟨gb120, _, none⟩) NB119_120.out _).trans (((cell_far (p := ⟨gb120, _, none⟩) NB119_120.out _).trans (hHeld.2.2.2.2.2.2.1)))), ((cell_far (p := ⟨gb120, _, none⟩) NB119_120.out _).trans (((cell_far (p := ⟨gb120, _, none⟩) NB119_120.out _).trans (hHeld.2.2.2.2.2.2.2.1)))), ((cell_far (p := ⟨gb120, _, none⟩) NB119_120.out _).trans (((cell_far (p := ⟨gb120, _, none⟩) NB119_120.out _).trans (hHeld.2.2.2.2.2.2.2.2))))⟩ (fun hHeld => ?_)
  clear hK K
  refine pure_ (i := 27) (N := some 7) (v := ?_) (a' := ?_) (bN 28 268435455) rfl rfl (any_of HT_.out (by kernel_rfl)) (fun _ _ _ h => h) (Or.inl ⟨by rfl, ?_⟩) ?_ ?_
  rotate_left
  ·intro w'
   go_simp
   with_reducible rfl
  rotate_left
  ·simp only [Act.put, List.setIfInBounds_toArray, List.set_cons_zero, List.set_cons_succ, i64_w, i32_w]
   rfl
  refine done_ (done_of HT_.out (by kernel_rfl)) ?_
  try go_wp2
  refine bodyPost_ret (results_ct rfl _ _ gb120 27 #[.slice Ao49 t131.length co49, .slice Ao51 t134.length co51] (0, 0) _ rfl (by refine blk_put (cs := #[.slice Ao49 t131.length co49, .slice none 0 0]) ?_ 1 _ rfl; refine blk_put (cs := #[.slice none 0 0, .slice none 0 0]) ?_ 0 _ rfl; exact BK120.out) Try.underlying27 rfl (by kernel_rfl)) rfl ?_
  exact ⟨_, _, by first | rfl | (simp [errW_none, errW_some] <;> rfl) | (simp [*, errW_none, errW_some] <;> rfl), by (with_reducible repeat (first | apply Kd.R_alloc | apply Kd.R_drewN | apply Kd.R_drew)); exact Kd.R_mono (Kd.R_far (Kd.R_far (Kd.R_types HO133.out BK120.out (by decide)) (fun _ hk => hk.2) _) (fun _ hk => hk.2) _) (fun _ hk => trivial), by (with_reducible repeat (first | apply Kd.R_alloc | apply Kd.R_drewN | apply Kd.R_drew)); exact Kd.R_mono (Kd.R_far (Kd.R_far (Kd.R_types HO136.out BK120.out (by decide)) (fun _ hk => hk.2) _) (fun _ hk => hk.2) _) (fun _ hk => trivial), bel⟩
end Go.Proofs.Ytjehhhlhalkieaa.C
