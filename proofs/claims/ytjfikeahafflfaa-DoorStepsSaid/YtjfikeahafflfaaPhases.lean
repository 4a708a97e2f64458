/- PROVED: the table of a door's phases, as the code makes it: what it answers. No conditions. -/
import Derived.Test.YtjfikeahafflfaaCx0
import Derived.Laws.EntriesVeiled
namespace Go.Proofs.Ytjfikeahafflfaa.C
open Go.RowKit Go.Proofs.YtjfikeahafflfaaW.PrintWords Go.Proofs.YtjfikeahafflfaaW.PrintLast Go.Proofs.YtjfikeahafflfaaW.PrintMore
/-- The phases: how many ticks of each are left at most, and what its ticks do. -/
def phV : Value := .agg #[.int .i64 0, .func (.func 43) #[] #[], .int .i64 60, .func (.func 44) #[] #[], .int .i64 300, .func (.func 46) #[] #[], .int .i64 60, .func (.func 47) #[] #[]]
set_option maxHeartbeats 8000000 in
set_option maxRecDepth 100000 in
theorem door_phases.calls (w : World) : Calls Try.prog 37 #[] w fun e w' => e = .returned phV ∧ Below w.heap.size w w' := by
  have hu73 := Try.underlying73
  have hu74 := Try.underlying74
  have HB := Aside0.mk (Below.refl w.heap.size w)
  go_enter Try.func37, Try.ntmps37
  go_wp2_with (first | ((with_reducible refine gate_dst (N := 0) rfl ?_); refine box_event ?hg (N := 0) ?hd (cs := #[.int .i64 0, .nilFunc, .int .i64 0, .nilFunc, .int .i64 0, .nilFunc, .int .i64 0, .nilFunc]) (t := 74) ?hr ?_; (case hd => rfl); (case hg => rfl); (case hr => first | (go_simp; done) | (go_simp; rfl)); intro gb hg w1 hbox hb; have HB1 := Aside0.mk (below_step HB.out hb); have BK := Aside0.mk hbox; have GE := Aside0.mk (by rw [hg]; exact Nat.le_refl _ : w.heap.size ≤ gb); clear HB hg hb hbox; have hc0 := (blk_cell BK.out 0).trans rfl; have hf0 := blk_frozen BK.out 0; have hc1 := (blk_cell BK.out 1).trans rfl; have hf1 := blk_frozen BK.out 1; have hc2 := (blk_cell BK.out 2).trans rfl; have hf2 := blk_frozen BK.out 2; have hc3 := (blk_cell BK.out 3).trans rfl; have hf3 := blk_frozen BK.out 3; have hc4 := (blk_cell BK.out 4).trans rfl; have hf4 := blk_frozen BK.out 4; have hc5 := (blk_cell BK.out 5).trans rfl; have hf5 := blk_frozen BK.out 5; have hc6 := (blk_cell BK.out 6).trans rfl; have hf6 := blk_frozen BK.out 6; have hc7 := (blk_cell BK.out 7).trans rfl; have hf7 := blk_frozen BK.out 7))
  have b0 := blk_set BK.out 0 (.int .i64 0)
  have b1 := blk_set b0 1 (.func (.func 43) #[] #[])
  have b2 := blk_set b1 2 (.int .i64 60)
  have b3 := blk_set b2 3 (.func (.func 44) #[] #[])
  have b4 := blk_set b3 4 (.int .i64 300)
  have b5 := blk_set b4 5 (.func (.func 46) #[] #[])
  have b6 := blk_set b5 6 (.int .i64 60)
  have b7 := blk_set b6 7 (.func (.func 47) #[] #[])
  simp only [List.setIfInBounds_toArray, List.set_cons_zero, List.set_cons_succ] at b7
  refine bodyPost_ret (v := phV) ?_ rfl ⟨rfl, ?_⟩
  · refine results_cell_row (p := 0) (ty := 74) ?_ _ _ gb 74 _ (0, 0) _ ?_ b7 hu74 ?_ ?_
    · rfl
    · rfl
    · rfl
    · kernel_rfl
  · with_reducible repeat (first | exact HB1.out | refine below_set ?_ GE.out)
end Go.Proofs.Ytjfikeahafflfaa.C
