/- Texts of this claim, one behind the other: what the law's functions come to, walked (printed by a program, with the words that the print uses), and what that is, in plain Lean. No conditions of their own. -/
import Derived.Test.YtjehhhlhalkieaaQCallViews6
import Derived.Deep.RegionLaw
import Derived.Laws.NewBlocks
import Derived.Lib.AppendZerosOnto
import Derived.Shelf.Spec.SlicesInsert
namespace Go.Proofs.Ytjehhhlhalkieaa.C
open Go.RowKit Go.Proofs.YtjehhhlhalkieaaW.PrintWords Go.Proofs.YtjehhhlhalkieaaW.PrintLast Go.Proofs.YtjehhhlhalkieaaW.PrintMore
set_option linter.unusedVariables false
set_option linter.unusedSimpArgs false
section
variable {α : Type} {d : Kd α} {enc : α → List Value}
theorem take_drop_mid (a b c : List Value) (n : Nat) (h : n = a.length + b.length + c.length) (r : List Value) : (a ++ b ++ (c ++ r)).take n = a ++ b ++ c := by
  subst h
  rw [← List.append_assoc, List.take_left' (by simp only [List.length_append])]
theorem shift_cells (F : Flat d enc) {e : TypeId} (w : World) (b i n : Nat) (cur : Array Value) (l : List α) (x : α) (hh : w.heap[b]? = some (.cells cur e (0, 0))) (hl : l.length = n) (hi : i ≤ n) (hs : (n + 1) * d.sz ≤ cur.size) (ht : cur.toList.take (i * d.sz) = encsK enc (l.take i)) :
    ∃ cur', ((w.setCells b ((i + 1) * d.sz) (encsK enc (l.drop i))).setCells b (i * d.sz) (enc x)).heap[b]? = some (.cells cur' e (0, 0)) ∧ cur'.size = cur.size ∧ cur'.toList.take ((n + 1) * d.sz) = encsK enc (l.take i ++ [x] ++ l.drop i) := by
  have l1 : (encsK enc (l.drop i)).length = (n - i) * d.sz := by rw [encsK_len F, List.length_drop, hl]
  have l0 : (encsK enc (l.take i)).length = i * d.sz := by rw [encsK_len F, List.length_take, hl, Nat.min_eq_left hi]
  have e1 : (i + 1) * d.sz + (n - i) * d.sz = (n + 1) * d.sz := by rw [← Nat.add_mul]; congr 1; omega
  have e2 : (i + 1) * d.sz = i * d.sz + d.sz := by rw [Nat.add_mul, Nat.one_mul]
  obtain ⟨cur1, a1, a2, a3⟩ := setCells_row (encsK enc (l.drop i)) ((i + 1) * d.sz) w cur hh (by rw [l1, e1]; exact hs)
  obtain ⟨cur2, b1, b2, b3⟩ := setCells_row (enc x) (i * d.sz) _ cur1 a1 (by rw [F.len, a2, ← e2]; omega)
  refine ⟨cur2, b1, by rw [b2, a2], ?_⟩
  have hcl : cur.toList.length = cur.size := by simp
  have t1 : cur1.toList.take (i * d.sz) = encsK enc (l.take i) := by
    rw [a3, List.append_assoc, List.take_append_of_le_length (by rw [List.length_take, hcl]; omega), List.take_take, Nat.min_eq_left (by omega), ht]
  have d1 : cur1.toList.drop (i * d.sz + d.sz) = encsK enc (l.drop i) ++ cur.toList.drop ((i + 1) * d.sz + (encsK enc (l.drop i)).length) := by
    rw [a3, ← e2, List.append_assoc, List.drop_left' (by rw [List.length_take, hcl]; omega)]
  rw [b3, t1, F.len, d1, take_drop_mid _ _ _ _ (by rw [l0, l1, F.len, ← e2, e1])]
  rw [encsK_append, encsK_append]
  simp [encsK]
end
abbrev encH : S56 → List Value := (fun x : S56 => [.int .i64 x.f0, .int .i64 x.f1, .int .i64 x.f2])
set_option maxHeartbeats 4000000 in
set_option maxRecDepth 100000 in
theorem insH_shift (b n c i vb vc : Nat) (l : List S56) (x : S56) (w : World) (cur curv : Array Value) (hi : i < n) (hroom : n + 1 ≤ c) (hc63 : c ≤ 9223372036854775807) (hvb : vb ≠ b) (hl : l.length = n)
    (hh : w.heap[b]? = some (.cells cur 56 (0, 0))) (hcs : cur.size = c * 3) (ht : cur.toList.take (n * 3) = encsK encH l) (hv : w.heap[vb]? = some (.cells curv 56 (0, 0))) (hvs : 0 < curv.size) (hvt : curv.toList.take 3 = encH x) :
    Calls Try.prog 63 #[.slice (some ⟨b, 0, none⟩) n c, .int .i64 (i : Int), .slice (some ⟨vb, 0, none⟩) 1 vc] w fun e w' =>
      e = .returned (.slice (some ⟨b, 0, none⟩) (n + 1) c) ∧ w' = (w.drew.setCells b ((i + 1) * 3) (encsK encH (l.drop i))).setCells b (i * 3) (encH x) := by
  obtain ⟨i0, hi0, hz0, hsz, hz2⟩ := info_parts info56
  have hsz1 : (Try.prog.info? 56).map (·.size) = some 3 := by rw [hi0]; simp [hsz]
  have hcur : ∀ j v, cur[j]? = some v → w.cell? ⟨b, j, none⟩ = some v := fun j v hj => by rw [cell_of_row w b j cur 56 (0, 0) hh]; exact hj
  have hsome : ∀ j, j < c * 3 → (w.cell? ⟨b, j, none⟩).isSome = true := fun j hj => by rw [cell_of_row w b j cur 56 (0, 0) hh]; simp; omega
  have hfz : ∀ j, w.frozen? ⟨b, j, none⟩ = false := fun j => blk_frozen hh j
  have hsa : w.shape? vb = some (56, curv.size) := by simp [World.shape?, hv]
  have hsb : w.shape? b = some (56, cur.size) := by simp [World.shape?, hh]
  have hsize : ∀ w, (sizeOf 56).run Try.prog w = .ok 3 w := fun w => by kernel_rfl
  have hov : ∀ lb cb, (callFunc 70 #[.slice (some ⟨vb, 0, none⟩) 1 vc, .slice (some ⟨b, (i + 1) * 3, none⟩) lb cb]).run Try.prog w = .ok (.value (.bool false)) w := fun lb cb => by
    rw [run_callFunc_extern Try.func70 (by kernel_rfl) (by kernel_rfl) (by kernel_rfl) (e := Extern.SlicesOverlaps.overlaps #[24, 24] #[4]) (by kernel_rfl),
      Lib.run_overlaps_apart w 24 4 56 Try.underlying24 3 hsize ⟨vb, 0, none⟩ ⟨b, (i + 1) * 3, none⟩ 1 vc lb cb hvb 56 56 curv.size cur.size hsa hsb (by omega) (blk_frozen hv _) (blk_frozen hv _)]
    rfl
  have hdl : (encsK encH (l.drop i)).length = (n - i) * 3 := by rw [encsK_len flatH, List.length_drop, hl]; rfl
  have hdr : (encsK encH (l.drop i)) = (cur.toList.take (n * 3)).drop (i * 3) := by rw [ht]; exact (encsK_drop flatH l i (by omega)).symm
  have hcp1 : ∀ ty la dc lb sc, min lb la = n - i → (Builtin.copy_ #[24, 24] ty #[.slice (some ⟨b, (i + 1) * 3, none⟩) la dc, .slice (some ⟨b, i * 3, none⟩) lb sc]).run Try.prog w.drew = .ok (goInt (n - i : Nat)) (w.drew.setCells b ((i + 1) * 3) (encsK encH (l.drop i))) := fun ty la dc lb sc hm => by
    have := run_copyK (P := Try.prog) w.drew 24 24 ty 56 3 b ((i + 1) * 3) la dc ⟨b, i * 3, none⟩ lb sc (encsK encH (l.drop i)) Try.underlying24 hsz1 (by rw [hdl, hm])
      (fun j v hj => by
        have hj2 := (List.getElem?_eq_some_iff.1 hj).1
        rw [hdr, List.getElem?_drop, List.getElem?_take] at hj
        split at hj
        · rw [Addr.add_lit]
          exact hcur (i * 3 + j) v (by rw [← Array.getElem?_toList]; exact hj)
        · cases hj)
      (fun j hj => hsome _ (by rw [hdl] at hj; omega)) (fun j hj => hfz _) (encsK_one flatH _)
    rw [hm] at this
    exact this
  obtain ⟨W1, hW1⟩ : ∃ W1, W1 = w.drew.setCells b ((i + 1) * 3) (encsK encH (l.drop i)) := ⟨_, rfl⟩
  have hcp2 : ∀ (W : World), (∀ x, W.cell? x = W1.cell? x) → (∀ x, W.frozen? x = W1.frozen? x) → ∀ ty la dc, 1 ≤ la → (Builtin.copy_ #[24, 24] ty #[.slice (some ⟨b, i * 3, none⟩) la dc, .slice (some ⟨vb, 0, none⟩) 1 vc]).run Try.prog W = .ok (goInt (1 : Nat)) (W.setCells b (i * 3) (encH x)) := fun W hWc hWf ty la dc hla => by
    have hm : min 1 la = 1 := by omega
    have := run_copyK (P := Try.prog) W 24 24 ty 56 3 b (i * 3) la dc ⟨vb, 0, none⟩ 1 vc (encH x) Try.underlying24 hsz1 (by rw [hm]; rfl)
      (fun j v hj => by
        rw [Addr.add_lit, hWc, hW1, World.cell?_setCells_out b _ _ _ _ (fun h _ => absurd h hvb)]
        rw [← hvt, List.getElem?_take] at hj
        split at hj
        · show w.cell? ⟨vb, 0 + j, none⟩ = some v
          rw [Nat.zero_add, cell_of_row w vb j curv 56 (0, 0) hv, ← Array.getElem?_toList]; exact hj
        · cases hj)
      (fun j hj => by
        rw [hWc, hW1]
        have hj3 : j < 3 := hj
        exact isSome_setCells b _ _ w.drew (fun q hq => hsome ((i + 1) * 3 + q) (by rw [hdl] at hq; omega)) _ (hsome (i * 3 + j) (by omega)))
      (fun j hj => by rw [hWf, hW1, World.frozen?_setCells]; exact hfz _) (flatH.one x)
    rw [hm] at this
    exact this
  subst hW1
  have hcp3 := hcp2 _ (fun _ => rfl) (fun _ => rfl) 3 (n + 1 - i) (c - i) (by omega)
  have g1 : ∀ W : World, (Instr.slice 24 (.slice (some ⟨b, 0, none⟩) n c) (some (.int .i64 (i : Int))) none none).run Try.prog W = .ok (.slice (some ⟨b, i * 3, none⟩) (n - i) (c - i)) W := fun W => by
    rw [cut_from (P := Try.prog) 24 56 .i64 Try.underlying24 hi0 3 hsz (some ⟨b, 0, none⟩) n c (i : Int) (by omega) (by omega) W, Int.toNat_natCast, if_neg (by omega), Option.map_some, addr_zero]
  have g2 : ∀ W : World, (Instr.slice 24 (.slice (some ⟨b, 0, none⟩) n c) none (some (.int .i64 ((n : Int) + 1))) none).run Try.prog W = .ok (.slice (some ⟨b, 0, none⟩) (n + 1) c) W := fun W => by
    have hel : Try.prog.elem 24 = 56 := by simp [Program.elem, Try.underlying24]
    rw [run_slice_h W 24 (some ⟨b, 0, none⟩) n c (by rw [hel]; exact Try.underlying24) .i64 ((n : Int) + 1) (by omega) (by omega), hel]
    simp [sizeOf, typeInfo, hi0, sliced, Result.andThen, Addr.add]
  have g3 : ∀ W : World, (Instr.slice 24 (.slice (some ⟨b, 0, none⟩) (n + 1) c) (some (.int .i64 ((i : Int) + 1))) none none).run Try.prog W = .ok (.slice (some ⟨b, (i + 1) * 3, none⟩) (n + 1 - (i + 1)) (c - (i + 1))) W := fun W => by
    rw [cut_from (P := Try.prog) 24 56 .i64 Try.underlying24 hi0 3 hsz (some ⟨b, 0, none⟩) (n + 1) c ((i : Int) + 1) (by omega) (by omega) W, show ((i : Int) + 1).toNat = i + 1 from by omega, if_neg (by omega), Option.map_some, addr_zero]
  have g4 : ∀ W : World, (Instr.slice 24 (.slice (some ⟨b, 0, none⟩) (n + 1) c) (some (.int .i64 (i : Int))) none none).run Try.prog W = .ok (.slice (some ⟨b, i * 3, none⟩) (n + 1 - i) (c - i)) W := fun W => by
    rw [cut_from (P := Try.prog) 24 56 .i64 Try.underlying24 hi0 3 hsz (some ⟨b, 0, none⟩) (n + 1) c (i : Int) (by omega) (by omega) W, Int.toNat_natCast, if_neg (by omega), Option.map_some, addr_zero]
  have hz2' : ¬ ((i : Int) = (n : Int)) := by omega
  have hw1 : IntKind.i64.wrap ((i : Int) + 1) = (i : Int) + 1 := by rw [IntKind.wrap_i64]; omega
  have hb1 : (0 : Int) ≤ (i : Int) + 1 := by omega
  have hb5 : ((n : Int) + 1 ≤ (c : Int)) := by omega
  have hb6 : ¬ ((c : Int) < (n : Int) + 1) := by omega
  clear hsz1 hcur hsome hfz hsa hsb hsize hdl hdr hi0 hz0 hsz hz2 hh hcs ht hv hvs hvt
  go_enter Try.func63, Try.ntmps63
  go_wp2_with (simp only [hov])
  go_region_law (refine step_copy_runI rfl _ _ 24 24 rfl (.slice (some ⟨b, (i + 1) * 3, none⟩) (n - i) (c - (i + 1))) (.slice (some ⟨b, i * 3, none⟩) (n + 1 - i) (c - i)) (by simp [Act.eval, Act.put]) (by simp [Act.eval, Act.put]) (hcp1 _ _ _ _ _ (by omega)) ?_)
  go_wp2_with (at_builtin; refine wpList_copy_runI _ rfl _ _ 24 24 rfl (.slice (some ⟨b, i * 3, none⟩) (n + 1 - i) (c - i)) (.slice (some ⟨vb, 0, none⟩) 1 vc) rfl rfl hcp3 ?_)
  go_ret
  exact ⟨rfl, rfl⟩
abbrev encI : S62 → List Value := (fun x : S62 => [.int .i64 x.f0, .int .i64 x.f1])
set_option maxHeartbeats 4000000 in
set_option maxRecDepth 100000 in
theorem insI_shift (b n c i vb vc : Nat) (l : List S62) (x : S62) (w : World) (cur curv : Array Value) (hi : i < n) (hroom : n + 1 ≤ c) (hc63 : c ≤ 9223372036854775807) (hvb : vb ≠ b) (hl : l.length = n)
    (hh : w.heap[b]? = some (.cells cur 62 (0, 0))) (hcs : cur.size = c * 2) (ht : cur.toList.take (n * 2) = encsK encI l) (hv : w.heap[vb]? = some (.cells curv 62 (0, 0))) (hvs : 0 < curv.size) (hvt : curv.toList.take 2 = encI x) :
    Calls Try.prog 60 #[.slice (some ⟨b, 0, none⟩) n c, .int .i64 (i : Int), .slice (some ⟨vb, 0, none⟩) 1 vc] w fun e w' =>
      e = .returned (.slice (some ⟨b, 0, none⟩) (n + 1) c) ∧ w' = (w.drew.setCells b ((i + 1) * 2) (encsK encI (l.drop i))).setCells b (i * 2) (encI x) := by
  obtain ⟨i0, hi0, hz0, hsz, hz2⟩ := info_parts info62
  have hsz1 : (Try.prog.info? 62).map (·.size) = some 2 := by rw [hi0]; simp [hsz]
  have hcur : ∀ j v, cur[j]? = some v → w.cell? ⟨b, j, none⟩ = some v := fun j v hj => by rw [cell_of_row w b j cur 62 (0, 0) hh]; exact hj
  have hsome : ∀ j, j < c * 2 → (w.cell? ⟨b, j, none⟩).isSome = true := fun j hj => by rw [cell_of_row w b j cur 62 (0, 0) hh]; simp; omega
  have hfz : ∀ j, w.frozen? ⟨b, j, none⟩ = false := fun j => blk_frozen hh j
  have hsa : w.shape? vb = some (62, curv.size) := by simp [World.shape?, hv]
  have hsb : w.shape? b = some (62, cur.size) := by simp [World.shape?, hh]
  have hsize : ∀ w, (sizeOf 62).run Try.prog w = .ok 2 w := fun w => by kernel_rfl
  have hov : ∀ lb cb, (callFunc 68 #[.slice (some ⟨vb, 0, none⟩) 1 vc, .slice (some ⟨b, (i + 1) * 2, none⟩) lb cb]).run Try.prog w = .ok (.value (.bool false)) w := fun lb cb => by
    rw [run_callFunc_extern Try.func68 (by kernel_rfl) (by kernel_rfl) (by kernel_rfl) (e := Extern.SlicesOverlaps.overlaps #[25, 25] #[4]) (by kernel_rfl),
      Lib.run_overlaps_apart w 25 4 62 Try.underlying25 2 hsize ⟨vb, 0, none⟩ ⟨b, (i + 1) * 2, none⟩ 1 vc lb cb hvb 62 62 curv.size cur.size hsa hsb (by omega) (blk_frozen hv _) (blk_frozen hv _)]
    rfl
  have hdl : (encsK encI (l.drop i)).length = (n - i) * 2 := by rw [encsK_len flatI, List.length_drop, hl]; rfl
  have hdr : (encsK encI (l.drop i)) = (cur.toList.take (n * 2)).drop (i * 2) := by rw [ht]; exact (encsK_drop flatI l i (by omega)).symm
  have hcp1 : ∀ ty la dc lb sc, min lb la = n - i → (Builtin.copy_ #[25, 25] ty #[.slice (some ⟨b, (i + 1) * 2, none⟩) la dc, .slice (some ⟨b, i * 2, none⟩) lb sc]).run Try.prog w.drew = .ok (goInt (n - i : Nat)) (w.drew.setCells b ((i + 1) * 2) (encsK encI (l.drop i))) := fun ty la dc lb sc hm => by
    have := run_copyK (P := Try.prog) w.drew 25 25 ty 62 2 b ((i + 1) * 2) la dc ⟨b, i * 2, none⟩ lb sc (encsK encI (l.drop i)) Try.underlying25 hsz1 (by rw [hdl, hm])
      (fun j v hj => by
        have hj2 := (List.getElem?_eq_some_iff.1 hj).1
        rw [hdr, List.getElem?_drop, List.getElem?_take] at hj
        split at hj
        · rw [Addr.add_lit]
          exact hcur (i * 2 + j) v (by rw [← Array.getElem?_toList]; exact hj)
        · cases hj)
      (fun j hj => hsome _ (by rw [hdl] at hj; omega)) (fun j hj => hfz _) (encsK_one flatI _)
    rw [hm] at this
    exact this
  obtain ⟨W1, hW1⟩ : ∃ W1, W1 = w.drew.setCells b ((i + 1) * 2) (encsK encI (l.drop i)) := ⟨_, rfl⟩
  have hcp2 : ∀ (W : World), (∀ x, W.cell? x = W1.cell? x) → (∀ x, W.frozen? x = W1.frozen? x) → ∀ ty la dc, 1 ≤ la → (Builtin.copy_ #[25, 25] ty #[.slice (some ⟨b, i * 2, none⟩) la dc, .slice (some ⟨vb, 0, none⟩) 1 vc]).run Try.prog W = .ok (goInt (1 : Nat)) (W.setCells b (i * 2) (encI x)) := fun W hWc hWf ty la dc hla => by
    have hm : min 1 la = 1 := by omega
    have := run_copyK (P := Try.prog) W 25 25 ty 62 2 b (i * 2) la dc ⟨vb, 0, none⟩ 1 vc (encI x) Try.underlying25 hsz1 (by rw [hm]; rfl)
      (fun j v hj => by
        rw [Addr.add_lit, hWc, hW1, World.cell?_setCells_out b _ _ _ _ (fun h _ => absurd h hvb)]
        rw [← hvt, List.getElem?_take] at hj
        split at hj
        · show w.cell? ⟨vb, 0 + j, none⟩ = some v
          rw [Nat.zero_add, cell_of_row w vb j curv 62 (0, 0) hv, ← Array.getElem?_toList]; exact hj
        · cases hj)
      (fun j hj => by
        rw [hWc, hW1]
        have hj3 : j < 2 := hj
        exact isSome_setCells b _ _ w.drew (fun q hq => hsome ((i + 1) * 2 + q) (by rw [hdl] at hq; omega)) _ (hsome (i * 2 + j) (by omega)))
      (fun j hj => by rw [hWf, hW1, World.frozen?_setCells]; exact hfz _) (flatI.one x)
    rw [hm] at this
    exact this
  subst hW1
  have hcp3 := hcp2 _ (fun _ => rfl) (fun _ => rfl) 3 (n + 1 - i) (c - i) (by omega)
  have g1 : ∀ W : World, (Instr.slice 25 (.slice (some ⟨b, 0, none⟩) n c) (some (.int .i64 (i : Int))) none none).run Try.prog W = .ok (.slice (some ⟨b, i * 2, none⟩) (n - i) (c - i)) W := fun W => by
    rw [cut_from (P := Try.prog) 25 62 .i64 Try.underlying25 hi0 2 hsz (some ⟨b, 0, none⟩) n c (i : Int) (by omega) (by omega) W, Int.toNat_natCast, if_neg (by omega), Option.map_some, addr_zero]
  have g2 : ∀ W : World, (Instr.slice 25 (.slice (some ⟨b, 0, none⟩) n c) none (some (.int .i64 ((n : Int) + 1))) none).run Try.prog W = .ok (.slice (some ⟨b, 0, none⟩) (n + 1) c) W := fun W => by
    have hel : Try.prog.elem 25 = 62 := by simp [Program.elem, Try.underlying25]
    rw [run_slice_h W 25 (some ⟨b, 0, none⟩) n c (by rw [hel]; exact Try.underlying25) .i64 ((n : Int) + 1) (by omega) (by omega), hel]
    simp [sizeOf, typeInfo, hi0, sliced, Result.andThen, Addr.add]
  have g3 : ∀ W : World, (Instr.slice 25 (.slice (some ⟨b, 0, none⟩) (n + 1) c) (some (.int .i64 ((i : Int) + 1))) none none).run Try.prog W = .ok (.slice (some ⟨b, (i + 1) * 2, none⟩) (n + 1 - (i + 1)) (c - (i + 1))) W := fun W => by
    rw [cut_from (P := Try.prog) 25 62 .i64 Try.underlying25 hi0 2 hsz (some ⟨b, 0, none⟩) (n + 1) c ((i : Int) + 1) (by omega) (by omega) W, show ((i : Int) + 1).toNat = i + 1 from by omega, if_neg (by omega), Option.map_some, addr_zero]
  have g4 : ∀ W : World, (Instr.slice 25 (.slice (some ⟨b, 0, none⟩) (n + 1) c) (some (.int .i64 (i : Int))) none none).run Try.prog W = .ok (.slice (some ⟨b, i * 2, none⟩) (n + 1 - i) (c - i)) W := fun W => by
    rw [cut_from (P := Try.prog) 25 62 .i64 Try.underlying25 hi0 2 hsz (some ⟨b, 0, none⟩) (n + 1) c (i : Int) (by omega) (by omega) W, Int.toNat_natCast, if_neg (by omega), Option.map_some, addr_zero]
  have hz2' : ¬ ((i : Int) = (n : Int)) := by omega
  have hw1 : IntKind.i64.wrap ((i : Int) + 1) = (i : Int) + 1 := by rw [IntKind.wrap_i64]; omega
  have hb1 : (0 : Int) ≤ (i : Int) + 1 := by omega
  have hb5 : ((n : Int) + 1 ≤ (c : Int)) := by omega
  have hb6 : ¬ ((c : Int) < (n : Int) + 1) := by omega
  clear hsz1 hcur hsome hfz hsa hsb hsize hdl hdr hi0 hz0 hsz hz2 hh hcs ht hv hvs hvt
  go_enter Try.func60, Try.ntmps60
  go_wp2_with (simp only [hov])
  go_region_law (refine step_copy_runI rfl _ _ 25 25 rfl (.slice (some ⟨b, (i + 1) * 2, none⟩) (n - i) (c - (i + 1))) (.slice (some ⟨b, i * 2, none⟩) (n + 1 - i) (c - i)) (by simp [Act.eval, Act.put]) (by simp [Act.eval, Act.put]) (hcp1 _ _ _ _ _ (by omega)) ?_)
  go_wp2_with (at_builtin; refine wpList_copy_runI _ rfl _ _ 25 25 rfl (.slice (some ⟨b, i * 2, none⟩) (n + 1 - i) (c - i)) (.slice (some ⟨vb, 0, none⟩) 1 vc) rfl rfl hcp3 ?_)
  go_ret
  exact ⟨rfl, rfl⟩
end Go.Proofs.Ytjehhhlhalkieaa.C
namespace Go.Proofs.Ytjehhhlhalkieaa.C
open Go.RowKit Go.Proofs.YtjehhhlhalkieaaW.PrintWords Go.Proofs.YtjehhhlhalkieaaW.PrintLast Go.Proofs.YtjehhhlhalkieaaW.PrintMore
set_option linter.unusedVariables false
set_option linter.unusedSimpArgs false
section
variable {α : Type} {d : Kd α} {enc : α → List Value}
theorem grown_cells (F : Flat d enc) {e : TypeId} (w : World) (b i n : Nat) (cur : Array Value) (l : List α) (x : α) (hh : w.heap[b]? = some (.cells cur e (0, 0))) (hl : l.length = n) (hi : i ≤ n) (hs : (n + 1) * d.sz ≤ cur.size) (ht : cur.toList.take (i * d.sz) = encsK enc (l.take i)) :
    ∃ cur', ((w.setCells b (i * d.sz) (enc x)).drew.setCells b ((i + 1) * d.sz) (encsK enc (l.drop i))).heap[b]? = some (.cells cur' e (0, 0)) ∧ cur'.size = cur.size ∧ cur'.toList.take ((n + 1) * d.sz) = encsK enc (l.take i ++ [x] ++ l.drop i) := by
  have l1 : (encsK enc (l.drop i)).length = (n - i) * d.sz := by rw [encsK_len F, List.length_drop, hl]
  have l0 : (encsK enc (l.take i)).length = i * d.sz := by rw [encsK_len F, List.length_take, hl, Nat.min_eq_left hi]
  have e1 : (i + 1) * d.sz + (n - i) * d.sz = (n + 1) * d.sz := by rw [← Nat.add_mul]; congr 1; omega
  have e2 : (i + 1) * d.sz = i * d.sz + d.sz := by rw [Nat.add_mul, Nat.one_mul]
  obtain ⟨cur1, a1, a2, a3⟩ := setCells_row (enc x) (i * d.sz) w cur hh (by rw [F.len, ← e2]; omega)
  obtain ⟨cur2, b1, b2, b3⟩ := setCells_row (encsK enc (l.drop i)) ((i + 1) * d.sz) ((w.setCells b (i * d.sz) (enc x)).drew) cur1 a1 (by rw [l1, e1, a2]; exact hs)
  refine ⟨cur2, b1, by rw [b2, a2], ?_⟩
  have hcl : cur.toList.length = cur.size := by simp
  have t1 : cur1.toList.take ((i + 1) * d.sz) = encsK enc (l.take i) ++ enc x := by
    rw [a3, ht, List.take_left' (by rw [List.length_append, l0, F.len, e2])]
  rw [b3, t1, List.append_assoc _ (encsK enc (l.drop i)) _, ← List.append_assoc, List.append_assoc _ (enc x)]
  rw [List.take_append_of_le_length (by simp only [List.length_append, l0, l1, F.len]; rw [← e1, e2]; omega), List.take_of_length_le (by simp only [List.length_append, l0, l1, F.len]; rw [← e1, e2]; omega)]
  rw [encsK_append, encsK_append]
  simp [encsK]
end
set_option maxHeartbeats 4000000 in
set_option maxRecDepth 100000 in
theorem insH_grow (b n c i vb vc : Nat) (l : List S56) (x : S56) (w : World) (cur curv : Array Value) (hi : i < n) (hnc : n ≤ c) (hroom : c < n + 1) (hbig : n ≤ 1000000000) (hvb : vb ≠ b) (hl : l.length = n)
    (hh : w.heap[b]? = some (.cells cur 56 (0, 0))) (hcs : cur.size = c * 3) (ht : cur.toList.take (n * 3) = encsK encH l) (hv : w.heap[vb]? = some (.cells curv 56 (0, 0))) (hvs : 0 < curv.size) (hvt : curv.toList.take 3 = encH x) :
    Calls Try.prog 63 #[.slice (some ⟨b, 0, none⟩) n c, .int .i64 (i : Int), .slice (some ⟨vb, 0, none⟩) 1 vc] w fun e w' =>
      e = .returned (.slice (some ⟨w.heap.size, 0, none⟩) (n + 1) (grownCap w (n + 1) c 56)) ∧
      w' = (((w.alloc (.cells ((encsK encH (l.take i)).toArray ++ Builtin.zeroCells (Value.agg #[(.int .i64 0), (.int .i64 0), (.int .i64 0)]).cells (n + 1 - i) ++ Builtin.zeroCells (Value.agg #[(.int .i64 0), (.int .i64 0), (.int .i64 0)]).cells (grownCap w (n + 1) c 56 - (n + 1))) 56)).drew.setCells w.heap.size (i * 3) (encH x)).drew).setCells w.heap.size ((i + 1) * 3) (encsK encH (l.drop i)) := by
  obtain ⟨i0, hi0, hz0, hsz, hz2⟩ := info_parts info56
  have hsz1 : (Try.prog.info? 56).map (·.size) = some 3 := by rw [hi0]; simp [hsz]
  have hcur : ∀ j v, cur[j]? = some v → w.cell? ⟨b, j, none⟩ = some v := fun j v hj => by rw [cell_of_row w b j cur 56 (0, 0) hh]; exact hj
  have hbw : b < w.heap.size := blk_lt hh
  have hvw : vb < w.heap.size := blk_lt hv
  have hkk : (n : Int) + 1 - (i : Int) = ((n + 1 - i : Nat) : Int) := by omega
  have hik : i + (n + 1 - i) = n + 1 := by omega
  have htl : (encsK encH (l.take i)).length = i * 3 := by rw [encsK_len flatH, List.length_take, hl, Nat.min_eq_left (by omega)]; rfl
  have hdl : (encsK encH (l.drop i)).length = (n - i) * 3 := by rw [encsK_len flatH, List.length_drop, hl]; rfl
  have htk : encsK encH (l.take i) = (cur.toList.take (n * 3)).take (i * 3) := by rw [ht]; exact (encsK_take flatH l i (by omega)).symm
  have hdr : encsK encH (l.drop i) = (cur.toList.take (n * 3)).drop (i * 3) := by rw [ht]; exact (encsK_drop flatH l i (by omega)).symm
  have hold : (Builtin.firstCells i0.size i (.slice (some ⟨b, 0, none⟩) i c)).run Try.prog w.drew = .ok (encsK encH (l.take i)).toArray w.drew := by
    rw [hsz]
    exact run_firstCells_some (w := w.drew) 3 i ⟨b, 0, none⟩ i c (encsK encH (l.take i)) htl (fun j v hj => by
      rw [addr_zero]
      rw [htk, List.getElem?_take, List.getElem?_take] at hj
      split at hj
      · split at hj
        · exact hcur j v (by rw [← Array.getElem?_toList]; exact hj)
        · cases hj
      · cases hj)
  have hrz : ∀ ty, (Builtin.append_ #[24, 3] ty #[.slice (some ⟨b, 0, none⟩) i c, .int .i64 ((n : Int) + 1 - (i : Int))]).run Try.prog w =
      .ok (.slice (some ⟨w.heap.size, 0, none⟩) (n + 1) (grownCap w (n + 1) c 56)) (w.drew.alloc (.cells ((encsK encH (l.take i)).toArray ++ Builtin.zeroCells (Value.agg #[(.int .i64 0), (.int .i64 0), (.int .i64 0)]).cells (n + 1 - i) ++ Builtin.zeroCells (Value.agg #[(.int .i64 0), (.int .i64 0), (.int .i64 0)]).cells (grownCap w (n + 1) c 56 - (n + 1))) 56)) := fun ty => by
    have h := Lib.run_append_grow_zeros (P := Try.prog) w 24 3 ty 56 i0 _ .i64 .i64 Try.underlying24 Try.underlying3 hi0 hz0 (some ⟨b, 0, none⟩) i c (encsK encH (l.take i)) hold (n + 1 - i) (by omega) (by rw [hsz]; omega) (by omega) (by omega) (by rw [hz2]; omega) (by rw [hz2, hik]; exact growslice_fits (by omega) (by omega))
    rw [hik] at h
    rw [hkk]
    exact h
  obtain ⟨G, hG⟩ : ∃ G, G = grownCap w (n + 1) c 56 := ⟨_, rfl⟩
  obtain ⟨ROW, hROW⟩ : ∃ ROW : Array Value, ROW = (encsK encH (l.take i)).toArray ++ Builtin.zeroCells (Value.agg #[(.int .i64 0), (.int .i64 0), (.int .i64 0)]).cells (n + 1 - i) ++ Builtin.zeroCells (Value.agg #[(.int .i64 0), (.int .i64 0), (.int .i64 0)]).cells (G - (n + 1)) := ⟨_, rfl⟩
  rw [← hG] at hrz ⊢
  rw [← hROW] at hrz ⊢
  have hRl : (n + 1) * 3 ≤ ROW.size := by
    rw [hROW]
    simp only [Array.size_append, size_zeroCells, List.size_toArray, htl]
    show (n + 1) * 3 ≤ i * 3 + (n + 1 - i) * 3 + (G - (n + 1)) * 3
    omega
  obtain ⟨W1, hW1⟩ : ∃ W1, W1 = w.drew.alloc (.cells ROW 56) := ⟨_, rfl⟩
  rw [← hW1] at hrz
  have hN : ∀ j, j < (n + 1) * 3 → (W1.cell? ⟨w.heap.size, j, none⟩).isSome = true := fun j hj => by
    rw [hW1, World.cell?_alloc_at (w := w.drew) ROW _ w.heap.size j rfl, Array.getElem?_eq_getElem (by omega)]; rfl
  have hNf : ∀ j, W1.frozen? ⟨w.heap.size, j, none⟩ = false := fun j => by rw [hW1]; exact World.frozen?_alloc_at (w := w.drew) ROW _ w.heap.size j rfl
  have hOb : ∀ j v, w.cell? ⟨b, j, none⟩ = some v → W1.cell? ⟨b, j, none⟩ = some v := fun j v h => by rw [hW1, World.cell?_alloc_past (w := w.drew) _ b j hbw]; exact h
  have hOv : ∀ j v, w.cell? ⟨vb, j, none⟩ = some v → W1.cell? ⟨vb, j, none⟩ = some v := fun j v h => by rw [hW1, World.cell?_alloc_past (w := w.drew) _ vb j hvw]; exact h
  have hcpA : ∀ (W : World), (∀ x, W.cell? x = W1.cell? x) → (∀ x, W.frozen? x = W1.frozen? x) → ∀ ty la dc, 1 ≤ la → (Builtin.copy_ #[24, 24] ty #[.slice (some ⟨w.heap.size, i * 3, none⟩) la dc, .slice (some ⟨vb, 0, none⟩) 1 vc]).run Try.prog W = .ok (goInt (1 : Nat)) (W.setCells w.heap.size (i * 3) (encH x)) := fun W hWc hWf ty la dc hla => by
    have hm : min 1 la = 1 := by omega
    have := run_copyK (P := Try.prog) W 24 24 ty 56 3 w.heap.size (i * 3) la dc ⟨vb, 0, none⟩ 1 vc (encH x) Try.underlying24 hsz1 (by rw [hm]; rfl)
      (fun j v hj => by
        rw [addr_zero, hWc]
        rw [← hvt, List.getElem?_take] at hj
        split at hj
        · exact hOv j v (by rw [cell_of_row w vb j curv 56 (0, 0) hv, ← Array.getElem?_toList]; exact hj)
        · cases hj)
      (fun j hj => by
        rw [hWc]
        have hj3 : j < 3 := hj
        exact hN (i * 3 + j) (by omega))
      (fun j hj => by rw [hWf]; exact hNf _) (flatH.one x)
    rw [hm] at this
    exact this
  have hG1 : n + 1 ≤ G := by rw [hG]; exact grownCap_ge w _ _ _
  have hG63 : G ≤ 9223372036854775807 := by
    have := grownCap_le_maxLen w (n + 1) c 56 (by unfold maxLen; omega)
    rw [← hG] at this
    unfold maxLen at this
    omega
  have hbN : b ≠ w.heap.size := by omega
  have hcpB : ∀ (W : World), (∀ y, W.cell? y = (W1.setCells w.heap.size (i * 3) (encH x)).cell? y) → (∀ y, W.frozen? y = (W1.setCells w.heap.size (i * 3) (encH x)).frozen? y) → ∀ ty la dc lb sc, min lb la = n - i → (Builtin.copy_ #[24, 24] ty #[.slice (some ⟨w.heap.size, (i + 1) * 3, none⟩) la dc, .slice (some ⟨b, i * 3, none⟩) lb sc]).run Try.prog W = .ok (goInt (n - i : Nat)) (W.setCells w.heap.size ((i + 1) * 3) (encsK encH (l.drop i))) := fun W hWc hWf ty la dc lb sc hm => by
    have := run_copyK (P := Try.prog) W 24 24 ty 56 3 w.heap.size ((i + 1) * 3) la dc ⟨b, i * 3, none⟩ lb sc (encsK encH (l.drop i)) Try.underlying24 hsz1 (by rw [hdl, hm])
      (fun j v hj => by
        rw [hdr, List.getElem?_drop, List.getElem?_take] at hj
        split at hj
        · rw [Addr.add_lit, hWc, World.cell?_setCells_out _ _ _ _ _ (fun h _ => absurd h hbN)]
          exact hOb _ v (hcur (i * 3 + j) v (by rw [← Array.getElem?_toList]; exact hj))
        · cases hj)
      (fun j hj => by
        rw [hWc]
        rw [hdl] at hj
        exact isSome_setCells _ _ _ W1 (fun q hq => hN (i * 3 + q) (by have : q < 3 := hq; omega)) ((i + 1) * 3 + j) (hN ((i + 1) * 3 + j) (by omega)))
      (fun j hj => by rw [hWf, World.frozen?_setCells]; exact hNf _) (encsK_one flatH _)
    rw [hm] at this
    exact this
  subst hW1
  have hE1 : ∀ x, ((w.alloc (.cells ROW 56)).drew).cell? x = (w.drew.alloc (.cells ROW 56)).cell? x := fun x => rfl
  have hE2 : ∀ x, ((w.alloc (.cells ROW 56)).drew).frozen? x = (w.drew.alloc (.cells ROW 56)).frozen? x := fun x => rfl
  have hcp3 := hcpA _ hE1 hE2 3 (n + 1 - i) (G - i) (by omega)
  have hcp4 := hcpB ((w.alloc (.cells ROW 56)).drew.setCells w.heap.size (i * 3) (encH x)).drew (fun x => rfl) (fun x => rfl) 3 (n - i) (G - (i + 1)) (n - i) (c - i) (by omega)
  have g1 : ∀ W : World, (Instr.slice 24 (.slice (some ⟨b, 0, none⟩) n c) (some (.int .i64 (i : Int))) none none).run Try.prog W = .ok (.slice (some ⟨b, i * 3, none⟩) (n - i) (c - i)) W := fun W => by
    rw [cut_from (P := Try.prog) 24 56 .i64 Try.underlying24 hi0 3 hsz (some ⟨b, 0, none⟩) n c (i : Int) (by omega) (by omega) W, Int.toNat_natCast, if_neg (by omega), Option.map_some, addr_zero]
  have g2 : ∀ W : World, (Instr.slice 24 (.slice (some ⟨b, 0, none⟩) n c) none (some (.int .i64 (i : Int))) none).run Try.prog W = .ok (.slice (some ⟨b, 0, none⟩) i c) W := fun W => by
    have hel : Try.prog.elem 24 = 56 := by simp [Program.elem, Try.underlying24]
    rw [run_slice_h W 24 (some ⟨b, 0, none⟩) n c (by rw [hel]; exact Try.underlying24) .i64 (i : Int) (by omega) (by omega), hel]
    simp [sizeOf, typeInfo, hi0, sliced, Result.andThen, Addr.add]
  have g3 : ∀ W : World, (Instr.slice 24 (.slice (some ⟨w.heap.size, 0, none⟩) (n + 1) G) (some (.int .i64 (i : Int))) none none).run Try.prog W = .ok (.slice (some ⟨w.heap.size, i * 3, none⟩) (n + 1 - i) (G - i)) W := fun W => by
    rw [cut_from (P := Try.prog) 24 56 .i64 Try.underlying24 hi0 3 hsz (some ⟨w.heap.size, 0, none⟩) (n + 1) G (i : Int) (by omega) (by omega) W, Int.toNat_natCast, if_neg (by omega), Option.map_some, addr_zero]
  have g4 : ∀ W : World, (Instr.slice 24 (.slice (some ⟨w.heap.size, 0, none⟩) (n + 1) G) (some (.int .i64 ((i : Int) + 1))) none none).run Try.prog W = .ok (.slice (some ⟨w.heap.size, (i + 1) * 3, none⟩) (n - i) (G - (i + 1))) W := fun W => by
    rw [cut_from (P := Try.prog) 24 56 .i64 Try.underlying24 hi0 3 hsz (some ⟨w.heap.size, 0, none⟩) (n + 1) G ((i : Int) + 1) (by omega) (by omega) W, show ((i : Int) + 1).toNat = i + 1 from by omega, if_neg (by omega), Option.map_some, addr_zero, show n + 1 - (i + 1) = n - i from by omega]
  have hz2' : ¬ ((i : Int) = (n : Int)) := by omega
  have hz3 : (c : Int) < (n : Int) + 1 := by omega
  have hw1 : IntKind.i64.wrap ((i : Int) + 1) = (i : Int) + 1 := by rw [IntKind.wrap_i64]; omega
  have hb1 : (0 : Int) ≤ (i : Int) + 1 := by omega
  clear hcpA hcpB hN hNf hOb hOv hE1 hE2 hkk hik hold hROW hG hRl hsz1 hcur hdl hdr htl htk hi0 hz0 hsz hz2 hh hcs ht hv hvs hvt
  go_enter Try.func63, Try.ntmps63
  go_wp2_with (first
    | (at_builtin; refine Lib.wpList_append_run _ rfl _ _ _ _ rfl _ _ rfl rfl _ _ (hrz _) ?_)
    | (at_builtin; refine wpList_copy_runI _ rfl _ _ 24 24 rfl (.slice (some ⟨w.heap.size, i * 3, none⟩) (n + 1 - i) (G - i)) (.slice (some ⟨vb, 0, none⟩) 1 vc) rfl rfl hcp3 ?_))
  go_region_law (refine step_copy_runI rfl _ _ 24 24 rfl (.slice (some ⟨w.heap.size, (i + 1) * 3, none⟩) (n - i) (G - (i + 1))) (.slice (some ⟨b, i * 3, none⟩) (n - i) (c - i)) (by simp [Act.eval, Act.put]) (by simp [Act.eval, Act.put]) hcp4 ?_)
  go_wp2
  go_ret
  exact ⟨rfl, rfl⟩
set_option maxHeartbeats 4000000 in
set_option maxRecDepth 100000 in
theorem insI_grow (b n c i vb vc : Nat) (l : List S62) (x : S62) (w : World) (cur curv : Array Value) (hi : i < n) (hnc : n ≤ c) (hroom : c < n + 1) (hbig : n ≤ 1000000000) (hvb : vb ≠ b) (hl : l.length = n)
    (hh : w.heap[b]? = some (.cells cur 62 (0, 0))) (hcs : cur.size = c * 2) (ht : cur.toList.take (n * 2) = encsK encI l) (hv : w.heap[vb]? = some (.cells curv 62 (0, 0))) (hvs : 0 < curv.size) (hvt : curv.toList.take 2 = encI x) :
    Calls Try.prog 60 #[.slice (some ⟨b, 0, none⟩) n c, .int .i64 (i : Int), .slice (some ⟨vb, 0, none⟩) 1 vc] w fun e w' =>
      e = .returned (.slice (some ⟨w.heap.size, 0, none⟩) (n + 1) (grownCap w (n + 1) c 62)) ∧
      w' = (((w.alloc (.cells ((encsK encI (l.take i)).toArray ++ Builtin.zeroCells (Value.agg #[(.int .i64 0), (.int .i64 0)]).cells (n + 1 - i) ++ Builtin.zeroCells (Value.agg #[(.int .i64 0), (.int .i64 0)]).cells (grownCap w (n + 1) c 62 - (n + 1))) 62)).drew.setCells w.heap.size (i * 2) (encI x)).drew).setCells w.heap.size ((i + 1) * 2) (encsK encI (l.drop i)) := by
  obtain ⟨i0, hi0, hz0, hsz, hz2⟩ := info_parts info62
  have hsz1 : (Try.prog.info? 62).map (·.size) = some 2 := by rw [hi0]; simp [hsz]
  have hcur : ∀ j v, cur[j]? = some v → w.cell? ⟨b, j, none⟩ = some v := fun j v hj => by rw [cell_of_row w b j cur 62 (0, 0) hh]; exact hj
  have hbw : b < w.heap.size := blk_lt hh
  have hvw : vb < w.heap.size := blk_lt hv
  have hkk : (n : Int) + 1 - (i : Int) = ((n + 1 - i : Nat) : Int) := by omega
  have hik : i + (n + 1 - i) = n + 1 := by omega
  have htl : (encsK encI (l.take i)).length = i * 2 := by rw [encsK_len flatI, List.length_take, hl, Nat.min_eq_left (by omega)]; rfl
  have hdl : (encsK encI (l.drop i)).length = (n - i) * 2 := by rw [encsK_len flatI, List.length_drop, hl]; rfl
  have htk : encsK encI (l.take i) = (cur.toList.take (n * 2)).take (i * 2) := by rw [ht]; exact (encsK_take flatI l i (by omega)).symm
  have hdr : encsK encI (l.drop i) = (cur.toList.take (n * 2)).drop (i * 2) := by rw [ht]; exact (encsK_drop flatI l i (by omega)).symm
  have hold : (Builtin.firstCells i0.size i (.slice (some ⟨b, 0, none⟩) i c)).run Try.prog w.drew = .ok (encsK encI (l.take i)).toArray w.drew := by
    rw [hsz]
    exact run_firstCells_some (w := w.drew) 2 i ⟨b, 0, none⟩ i c (encsK encI (l.take i)) htl (fun j v hj => by
      rw [addr_zero]
      rw [htk, List.getElem?_take, List.getElem?_take] at hj
      split at hj
      · split at hj
        · exact hcur j v (by rw [← Array.getElem?_toList]; exact hj)
        · cases hj
      · cases hj)
  have hrz : ∀ ty, (Builtin.append_ #[25, 3] ty #[.slice (some ⟨b, 0, none⟩) i c, .int .i64 ((n : Int) + 1 - (i : Int))]).run Try.prog w =
      .ok (.slice (some ⟨w.heap.size, 0, none⟩) (n + 1) (grownCap w (n + 1) c 62)) (w.drew.alloc (.cells ((encsK encI (l.take i)).toArray ++ Builtin.zeroCells (Value.agg #[(.int .i64 0), (.int .i64 0)]).cells (n + 1 - i) ++ Builtin.zeroCells (Value.agg #[(.int .i64 0), (.int .i64 0)]).cells (grownCap w (n + 1) c 62 - (n + 1))) 62)) := fun ty => by
    have h := Lib.run_append_grow_zeros (P := Try.prog) w 25 3 ty 62 i0 _ .i64 .i64 Try.underlying25 Try.underlying3 hi0 hz0 (some ⟨b, 0, none⟩) i c (encsK encI (l.take i)) hold (n + 1 - i) (by omega) (by rw [hsz]; omega) (by omega) (by omega) (by rw [hz2]; omega) (by rw [hz2, hik]; exact growslice_fits (by omega) (by omega))
    rw [hik] at h
    rw [hkk]
    exact h
  obtain ⟨G, hG⟩ : ∃ G, G = grownCap w (n + 1) c 62 := ⟨_, rfl⟩
  obtain ⟨ROW, hROW⟩ : ∃ ROW : Array Value, ROW = (encsK encI (l.take i)).toArray ++ Builtin.zeroCells (Value.agg #[(.int .i64 0), (.int .i64 0)]).cells (n + 1 - i) ++ Builtin.zeroCells (Value.agg #[(.int .i64 0), (.int .i64 0)]).cells (G - (n + 1)) := ⟨_, rfl⟩
  rw [← hG] at hrz ⊢
  rw [← hROW] at hrz ⊢
  have hRl : (n + 1) * 2 ≤ ROW.size := by
    rw [hROW]
    simp only [Array.size_append, size_zeroCells, List.size_toArray, htl]
    show (n + 1) * 2 ≤ i * 2 + (n + 1 - i) * 2 + (G - (n + 1)) * 2
    omega
  obtain ⟨W1, hW1⟩ : ∃ W1, W1 = w.drew.alloc (.cells ROW 62) := ⟨_, rfl⟩
  rw [← hW1] at hrz
  have hN : ∀ j, j < (n + 1) * 2 → (W1.cell? ⟨w.heap.size, j, none⟩).isSome = true := fun j hj => by
    rw [hW1, World.cell?_alloc_at (w := w.drew) ROW _ w.heap.size j rfl, Array.getElem?_eq_getElem (by omega)]; rfl
  have hNf : ∀ j, W1.frozen? ⟨w.heap.size, j, none⟩ = false := fun j => by rw [hW1]; exact World.frozen?_alloc_at (w := w.drew) ROW _ w.heap.size j rfl
  have hOb : ∀ j v, w.cell? ⟨b, j, none⟩ = some v → W1.cell? ⟨b, j, none⟩ = some v := fun j v h => by rw [hW1, World.cell?_alloc_past (w := w.drew) _ b j hbw]; exact h
  have hOv : ∀ j v, w.cell? ⟨vb, j, none⟩ = some v → W1.cell? ⟨vb, j, none⟩ = some v := fun j v h => by rw [hW1, World.cell?_alloc_past (w := w.drew) _ vb j hvw]; exact h
  have hcpA : ∀ (W : World), (∀ x, W.cell? x = W1.cell? x) → (∀ x, W.frozen? x = W1.frozen? x) → ∀ ty la dc, 1 ≤ la → (Builtin.copy_ #[25, 25] ty #[.slice (some ⟨w.heap.size, i * 2, none⟩) la dc, .slice (some ⟨vb, 0, none⟩) 1 vc]).run Try.prog W = .ok (goInt (1 : Nat)) (W.setCells w.heap.size (i * 2) (encI x)) := fun W hWc hWf ty la dc hla => by
    have hm : min 1 la = 1 := by omega
    have := run_copyK (P := Try.prog) W 25 25 ty 62 2 w.heap.size (i * 2) la dc ⟨vb, 0, none⟩ 1 vc (encI x) Try.underlying25 hsz1 (by rw [hm]; rfl)
      (fun j v hj => by
        rw [addr_zero, hWc]
        rw [← hvt, List.getElem?_take] at hj
        split at hj
        · exact hOv j v (by rw [cell_of_row w vb j curv 62 (0, 0) hv, ← Array.getElem?_toList]; exact hj)
        · cases hj)
      (fun j hj => by
        rw [hWc]
        have hj3 : j < 2 := hj
        exact hN (i * 2 + j) (by omega))
      (fun j hj => by rw [hWf]; exact hNf _) (flatI.one x)
    rw [hm] at this
    exact this
  have hG1 : n + 1 ≤ G := by rw [hG]; exact grownCap_ge w _ _ _
  have hG63 : G ≤ 9223372036854775807 := by
    have := grownCap_le_maxLen w (n + 1) c 62 (by unfold maxLen; omega)
    rw [← hG] at this
    unfold maxLen at this
    omega
  have hbN : b ≠ w.heap.size := by omega
  have hcpB : ∀ (W : World), (∀ y, W.cell? y = (W1.setCells w.heap.size (i * 2) (encI x)).cell? y) → (∀ y, W.frozen? y = (W1.setCells w.heap.size (i * 2) (encI x)).frozen? y) → ∀ ty la dc lb sc, min lb la = n - i → (Builtin.copy_ #[25, 25] ty #[.slice (some ⟨w.heap.size, (i + 1) * 2, none⟩) la dc, .slice (some ⟨b, i * 2, none⟩) lb sc]).run Try.prog W = .ok (goInt (n - i : Nat)) (W.setCells w.heap.size ((i + 1) * 2) (encsK encI (l.drop i))) := fun W hWc hWf ty la dc lb sc hm => by
    have := run_copyK (P := Try.prog) W 25 25 ty 62 2 w.heap.size ((i + 1) * 2) la dc ⟨b, i * 2, none⟩ lb sc (encsK encI (l.drop i)) Try.underlying25 hsz1 (by rw [hdl, hm])
      (fun j v hj => by
        rw [hdr, List.getElem?_drop, List.getElem?_take] at hj
        split at hj
        · rw [Addr.add_lit, hWc, World.cell?_setCells_out _ _ _ _ _ (fun h _ => absurd h hbN)]
          exact hOb _ v (hcur (i * 2 + j) v (by rw [← Array.getElem?_toList]; exact hj))
        · cases hj)
      (fun j hj => by
        rw [hWc]
        rw [hdl] at hj
        exact isSome_setCells _ _ _ W1 (fun q hq => hN (i * 2 + q) (by have : q < 2 := hq; omega)) ((i + 1) * 2 + j) (hN ((i + 1) * 2 + j) (by omega)))
      (fun j hj => by rw [hWf, World.frozen?_setCells]; exact hNf _) (encsK_one flatI _)
    rw [hm] at this
    exact this
  subst hW1
  have hE1 : ∀ x, ((w.alloc (.cells ROW 62)).drew).cell? x = (w.drew.alloc (.cells ROW 62)).cell? x := fun x => rfl
  have hE2 : ∀ x, ((w.alloc (.cells ROW 62)).drew).frozen? x = (w.drew.alloc (.cells ROW 62)).frozen? x := fun x => rfl
  have hcp3 := hcpA _ hE1 hE2 3 (n + 1 - i) (G - i) (by omega)
  have hcp4 := hcpB ((w.alloc (.cells ROW 62)).drew.setCells w.heap.size (i * 2) (encI x)).drew (fun x => rfl) (fun x => rfl) 3 (n - i) (G - (i + 1)) (n - i) (c - i) (by omega)
  have g1 : ∀ W : World, (Instr.slice 25 (.slice (some ⟨b, 0, none⟩) n c) (some (.int .i64 (i : Int))) none none).run Try.prog W = .ok (.slice (some ⟨b, i * 2, none⟩) (n - i) (c - i)) W := fun W => by
    rw [cut_from (P := Try.prog) 25 62 .i64 Try.underlying25 hi0 2 hsz (some ⟨b, 0, none⟩) n c (i : Int) (by omega) (by omega) W, Int.toNat_natCast, if_neg (by omega), Option.map_some, addr_zero]
  have g2 : ∀ W : World, (Instr.slice 25 (.slice (some ⟨b, 0, none⟩) n c) none (some (.int .i64 (i : Int))) none).run Try.prog W = .ok (.slice (some ⟨b, 0, none⟩) i c) W := fun W => by
    have hel : Try.prog.elem 25 = 62 := by simp [Program.elem, Try.underlying25]
    rw [run_slice_h W 25 (some ⟨b, 0, none⟩) n c (by rw [hel]; exact Try.underlying25) .i64 (i : Int) (by omega) (by omega), hel]
    simp [sizeOf, typeInfo, hi0, sliced, Result.andThen, Addr.add]
  have g3 : ∀ W : World, (Instr.slice 25 (.slice (some ⟨w.heap.size, 0, none⟩) (n + 1) G) (some (.int .i64 (i : Int))) none none).run Try.prog W = .ok (.slice (some ⟨w.heap.size, i * 2, none⟩) (n + 1 - i) (G - i)) W := fun W => by
    rw [cut_from (P := Try.prog) 25 62 .i64 Try.underlying25 hi0 2 hsz (some ⟨w.heap.size, 0, none⟩) (n + 1) G (i : Int) (by omega) (by omega) W, Int.toNat_natCast, if_neg (by omega), Option.map_some, addr_zero]
  have g4 : ∀ W : World, (Instr.slice 25 (.slice (some ⟨w.heap.size, 0, none⟩) (n + 1) G) (some (.int .i64 ((i : Int) + 1))) none none).run Try.prog W = .ok (.slice (some ⟨w.heap.size, (i + 1) * 2, none⟩) (n - i) (G - (i + 1))) W := fun W => by
    rw [cut_from (P := Try.prog) 25 62 .i64 Try.underlying25 hi0 2 hsz (some ⟨w.heap.size, 0, none⟩) (n + 1) G ((i : Int) + 1) (by omega) (by omega) W, show ((i : Int) + 1).toNat = i + 1 from by omega, if_neg (by omega), Option.map_some, addr_zero, show n + 1 - (i + 1) = n - i from by omega]
  have hz2' : ¬ ((i : Int) = (n : Int)) := by omega
  have hz3 : (c : Int) < (n : Int) + 1 := by omega
  have hw1 : IntKind.i64.wrap ((i : Int) + 1) = (i : Int) + 1 := by rw [IntKind.wrap_i64]; omega
  have hb1 : (0 : Int) ≤ (i : Int) + 1 := by omega
  clear hcpA hcpB hN hNf hOb hOv hE1 hE2 hkk hik hold hROW hG hRl hsz1 hcur hdl hdr htl htk hi0 hz0 hsz hz2 hh hcs ht hv hvs hvt
  go_enter Try.func60, Try.ntmps60
  go_wp2_with (first
    | (at_builtin; refine Lib.wpList_append_run _ rfl _ _ _ _ rfl _ _ rfl rfl _ _ (hrz _) ?_)
    | (at_builtin; refine wpList_copy_runI _ rfl _ _ 25 25 rfl (.slice (some ⟨w.heap.size, i * 2, none⟩) (n + 1 - i) (G - i)) (.slice (some ⟨vb, 0, none⟩) 1 vc) rfl rfl hcp3 ?_))
  go_region_law (refine step_copy_runI rfl _ _ 25 25 rfl (.slice (some ⟨w.heap.size, (i + 1) * 2, none⟩) (n - i) (G - (i + 1))) (.slice (some ⟨b, i * 2, none⟩) (n - i) (c - i)) (by simp [Act.eval, Act.put]) (by simp [Act.eval, Act.put]) hcp4 ?_)
  go_wp2
  go_ret
  exact ⟨rfl, rfl⟩
end Go.Proofs.Ytjehhhlhalkieaa.C
namespace Go.Proofs.Ytjehhhlhalkieaa.C
open Go.RowKit Go.Proofs.YtjehhhlhalkieaaW.PrintWords Go.Proofs.YtjehhhlhalkieaaW.PrintLast Go.Proofs.YtjehhhlhalkieaaW.PrintMore
set_option linter.unusedVariables false
set_option linter.unusedSimpArgs false
theorem below_cells {B g : Nat} {w0 w : World} (hb : Below B w0 w) (hg : B ≤ g) : ∀ (vs : List Value) (o : Nat) {w : World}, Below B w0 w → Below B w0 (w.setCells g o vs)
  | [], _, _, h => h
  | v :: r, o, _, h => below_cells hb hg r (o + 1) (h.setCell (p := ⟨g, o, none⟩) hg v)
theorem cells_grown (w : World) (g o1 o2 : Nat) (v1 v2 : List Value) : w.grownBy ((w.drew.setCells g o1 v1).setCells g o2 v2) (some g) := by
  obtain ⟨s1, s2, s3, s4⟩ := setCells_same g v1 o1 w.drew
  obtain ⟨t1, t2, t3, t4⟩ := setCells_same g v2 o2 (w.drew.setCells g o1 v1)
  exact ⟨t1.trans s1, t2.trans s2, t3.trans s3, by rw [t4, s4]; exact Nat.le_refl _, fun k _ hk => (setCells_far _ _ k (fun he => hk (by rw [he]))).trans (setCells_far (w := w.drew) _ _ k (fun he => hk (by rw [he])))⟩
theorem below_from {B : Nat} {w : World} (hB : B ≤ w.heap.size) (o : Obj) : Below B w (w.alloc o) := (Below.refl B w).alloc hB o
set_option maxHeartbeats 4000000 in
set_option maxRecDepth 100000 in
theorem insH_end (w : World) (base : Nat) (ok : Nat → Prop) (A : Option Addr) (c : Nat) (l : List S56) (x : S56) (vb vc : Nat) (curv : Array Value) (hbase : base ≤ w.heap.size) (hfresh : ∀ k, w.heap.size ≤ k → ok k)
    (HO : Kd.R k56 56 w base ok (.slice A l.length c) l) (hnc : l.length ≤ c) (hl : l.length ≤ 1000000000)
    (hv : w.heap[vb]? = some (.cells curv 56 (0, 0))) (hvs : 0 < curv.size) (hvt : curv.toList.take 3 = encH x) :
    Calls Try.prog 63 #[.slice A l.length c, .int .i64 (l.length : Int), .slice (some ⟨vb, 0, none⟩) 1 vc] w fun e w' =>
      ∃ v1 : Value, e = .returned v1 ∧ Kd.R k56 56 w' base ok v1 (l ++ [x]) ∧ Below base w w' ∧ w.grownBy w' (Value.slice A l.length c).ownBlock ∧ (v1.ownBlock = (Value.slice A l.length c).ownBlock ∨ ∃ b, v1.ownBlock = some b ∧ w.heap.size ≤ b) := by
  obtain ⟨i0, hi0, hz0, hsz, hz2⟩ := info_parts info56
  obtain ⟨sv, g1⟩ : ∃ sv, ∀ W : World, (Instr.slice 24 (.slice A l.length c) (some (.int .i64 (l.length : Int))) none none).run Try.prog W = .ok sv W := ⟨_, fun W => cut_from (P := Try.prog) 24 56 .i64 Try.underlying24 hi0 3 hsz A l.length c (l.length : Int) (by omega) (by omega) W⟩
  have HR : ReadsRow (fun p cs => cs = encH p) 3 w (some ⟨vb, 0, none⟩) 1 [x] := by
    refine ⟨rfl, by decide, fun _ => ⟨_, rfl, fun j p hj => ⟨encH p, rfl, rfl, fun q u hu => ?_⟩⟩⟩
    have hj0 : j < 1 := (List.getElem?_eq_some_iff.1 hj).1
    obtain rfl : j = 0 := by omega
    obtain rfl : x = p := by simpa using hj
    rw [addr_zero, Nat.zero_mul, Nat.zero_add, cell_of_row w vb q curv 56 (0, 0) hv, ← Array.getElem?_toList]
    rw [← hvt, List.getElem?_take] at hu
    split at hu
    · exact hu
    · cases hu
  go_enter Try.func63, Try.ntmps63
  go_wp2_with (at_builtin; refine Kd.R_append_rows k56 (w0 := w) base rfl (.tmp 23) (.tmp 24) 24 56 (Value.agg #[(.int .i64 0), (.int .i64 0), (.int .i64 0)]) 24 rfl Try.underlying24 info56 rfl (by decide) (by decide) (.slice A l.length c) l [x] _ _ _ ok (fun _ => False) rfl rfl HO HR (fun _ _ h => (flatH.M _ _ _ _ _).2 h) (fun _ h => h.elim) hfresh (Below.refl _ _) hbase (by omega) ?_)
  intro v1 w1 h1 h2 h3 h4
  go_wp2
  go_ret
  exact ⟨_, rfl, h1, h2, h3, h4⟩
theorem insH_calls (w : World) (base : Nat) (ok : Nat → Prop) (A : Option Addr) (c : Nat) (l : List S56) (x : S56) (i : Int) (vb vc : Nat) (curv : Array Value) (hbase : base ≤ w.heap.size) (hfresh : ∀ k, w.heap.size ≤ k → ok k)
    (HO : Kd.R k56 56 w base ok (.slice A l.length c) l) (hvb : ∀ a, A = some a → vb ≠ a.block) (hl : l.length ≤ 1000000000)
    (hv : w.heap[vb]? = some (.cells curv 56 (0, 0))) (hvs : 0 < curv.size) (hvt : curv.toList.take 3 = encH x) (h0 : 0 ≤ i) (hi : i ≤ (l.length : Int)) :
    Calls Try.prog 63 #[.slice A l.length c, .int .i64 i, .slice (some ⟨vb, 0, none⟩) 1 vc] w fun e w' =>
      ∃ v1 : Value, e = .returned v1 ∧ Kd.R k56 56 w' base ok v1 (l.take i.toNat ++ [x] ++ l.drop i.toNat) ∧ Below base w w' ∧ w.grownBy w' (Value.slice A l.length c).ownBlock ∧ (v1.ownBlock = (Value.slice A l.length c).ownBlock ∨ ∃ b, v1.ownBlock = some b ∧ w.heap.size ≤ b) := by
  obtain ⟨m, rfl⟩ : ∃ m : Nat, i = m := ⟨i.toNat, by omega⟩
  rw [Int.toNat_natCast]
  obtain ⟨hq, ho⟩ := (R_flat flatH).1 HO
  have hlen : (l.take m ++ [x] ++ l.drop m).length = l.length + 1 := by simp only [List.length_append, List.length_take, List.length_drop, List.length_cons, List.length_nil]; omega
  have hs3 : (k56).sz = 3 := rfl
  rcases Nat.lt_or_ge m l.length with hlt | hge
  · rcases ho.2 with ⟨_, hn⟩ | ⟨g, cap, cur, he, hb, hh, hnc, hcm, hcs, htake⟩
    · omega
    injection he with e1 e2 e3
    subst e1 e3
    have hne : vb ≠ g := hvb _ rfl
    have htk : cur.toList.take (m * 3) = encsK encH (l.take m) := by
      have := encsK_take flatH l m (by omega)
      rw [hs3] at this
      rw [← this, ← htake, List.take_take, hs3, Nat.min_eq_left (Nat.mul_le_mul_right _ (by omega))]
    rcases Nat.lt_or_ge l.length c with hr | hr
    · refine (insH_shift g l.length c m vb vc l x w cur curv hlt (by omega) (by unfold maxLen at hcm; omega) hne rfl hh hcs htake hv hvs hvt).mono ?_
      rintro e w' ⟨he, hw⟩
      obtain ⟨cur', c1, c2, c3⟩ := shift_cells flatH w.drew g m l.length cur l x hh rfl (by omega) (by rw [hcs]; exact Nat.mul_le_mul_right _ (by omega)) (by rw [hs3]; exact htk)
      rw [hs3] at c1 c3
      rw [← hw] at c1
      refine ⟨_, he, (R_flat flatH).2 ⟨hq, by rw [encsK_len flatH], .inr ⟨g, c, cur', by rw [hlen], hb, c1, by omega, hcm, by rw [c2, hcs], by rw [hlen]; exact c3⟩⟩, ?_, ?_, .inl rfl⟩ <;> rw [hw]
      · exact below_cells (Below.refl _ w) hb _ _ (below_cells (Below.refl _ w) hb _ _ (below_drew1 (Below.refl _ _)))
      · exact cells_grown _ _ _ _ _ _
    · have hce : c = l.length := by omega
      refine (insH_grow g l.length c m vb vc l x w cur curv hlt (by omega) (by omega) hl hne rfl hh hcs htake hv hvs hvt).mono ?_
      rintro e w' ⟨he, hw⟩
      have hG1 := grownCap_ge w (l.length + 1) c 56
      have hGm := grownCap_le_maxLen w (l.length + 1) c 56 (by unfold maxLen; omega)
      obtain ⟨G, hG⟩ : ∃ G, G = grownCap w (l.length + 1) c 56 := ⟨_, rfl⟩
      rw [← hG] at he hw hG1 hGm
      obtain ⟨ROW, hROW⟩ : ∃ ROW : Array Value, ROW = (encsK encH (l.take m)).toArray ++ Builtin.zeroCells (Value.agg #[(.int .i64 0), (.int .i64 0), (.int .i64 0)]).cells (l.length + 1 - m) ++ Builtin.zeroCells (Value.agg #[(.int .i64 0), (.int .i64 0), (.int .i64 0)]).cells (G - (l.length + 1)) := ⟨_, rfl⟩
      have htl : (encsK encH (l.take m)).length = m * 3 := by rw [encsK_len flatH, List.length_take, Nat.min_eq_left (by omega)]; rfl
      have hRs : ROW.size = G * 3 := by
        rw [hROW]
        simp only [Array.size_append, size_zeroCells, List.size_toArray, htl]
        show m * 3 + (l.length + 1 - m) * 3 + (G - (l.length + 1)) * 3 = G * 3
        omega
      have hRt : ROW.toList.take (m * 3) = encsK encH (l.take m) := by
        rw [hROW, Array.toList_append, Array.toList_append, List.append_assoc]
        exact List.take_left' htl
      rw [← hROW] at hw
      have hblk : (w.alloc (.cells ROW 56)).drew.heap[w.heap.size]? = some (.cells ROW 56 (0, 0)) := by
        show (w.heap.push (.cells ROW 56))[w.heap.size]? = _
        exact Array.getElem?_push_size
      obtain ⟨cur', c1, c2, c3⟩ := grown_cells flatH (w.alloc (.cells ROW 56)).drew w.heap.size m l.length ROW l x hblk rfl (by omega) (by rw [hRs]; exact Nat.mul_le_mul_right _ hG1) (by rw [hs3]; exact hRt)
      rw [hs3] at c1 c3
      rw [← hw] at c1
      refine ⟨_, he, (R_flat flatH).2 ⟨fun k hk => hfresh k (by simp [Value.ownBlock] at hk; omega), by rw [encsK_len flatH], .inr ⟨w.heap.size, G, cur', by rw [hlen], hbase, c1, by omega, hGm, by rw [c2, hRs]; rfl, by rw [hlen]; exact c3⟩⟩, ?_, ?_, .inr ⟨_, rfl, Nat.le_refl _⟩⟩ <;> rw [hw]
      · exact below_cells (Below.refl _ w) hbase _ _ (below_drew1 (below_cells (Below.refl _ w) hbase _ _ (below_drew1 (below_from hbase _))))
      · exact grown_of_below (below_cells (Below.refl _ w) (Nat.le_refl _) _ _ (below_drew1 (below_cells (Below.refl _ w) (Nat.le_refl _) _ _ (below_drew1 (below_from (Nat.le_refl _) _))))) _
  · have hme : m = l.length := by omega
    subst hme
    rw [List.take_length, List.drop_length, List.append_nil]
    have hnc : l.length ≤ c := by
      rcases ho.2 with ⟨he, hn⟩ | ⟨g, cap, cur, he, hb, hh, hnc, _⟩
      · omega
      · injection he with e1 e2 e3; omega
    exact insH_end w base ok A c l x vb vc curv hbase hfresh HO hnc hl hv hvs hvt
theorem insH_R (w : World) (base : Nat) (okA okB : Nat → Prop) (v : Value) (l ys : List S56) (x : S56) (i : Int) (A : Option Addr) (c : Nat) (hys : ys = [x]) (hbase : base ≤ w.heap.size) (hfresh : ∀ k, w.heap.size ≤ k → okA k)
    (HO : Kd.R k56 56 w base okA v l) (HL : Kd.R k56 56 w base okB (.slice A ys.length c) ys) (hne : ∀ k, okA k → some k ≠ (Value.slice A ys.length c).ownBlock) (hl : l.length ≤ 1000000000) (h0 : 0 ≤ i) (hi : i ≤ (l.length : Int)) :
    Calls Try.prog 63 #[v, .int .i64 i, .slice A ys.length c] w fun e w' =>
      ∃ v1 : Value, e = .returned v1 ∧ Kd.R k56 56 w' base okA v1 (l.take i.toNat ++ ys ++ l.drop i.toNat) ∧ Below base w w' ∧ w.grownBy w' v.ownBlock ∧ (v1.ownBlock = v.ownBlock ∨ ∃ b, v1.ownBlock = some b ∧ w.heap.size ≤ b) := by
  subst hys
  obtain ⟨qL, oL⟩ := (R_flat flatH).1 HL
  obtain ⟨qO, oO⟩ := (R_flat flatH).1 HO
  rcases oL.2 with ⟨_, hn⟩ | ⟨g, cap, cur, he, hb, hh, hnc, hcm, hcs, htake⟩
  · cases hn
  injection he with e1 e2 e3
  subst e1 e3
  obtain ⟨A2, c2, rfl⟩ : ∃ A2 c2, v = .slice A2 l.length c2 := by
    rcases oO.2 with ⟨he, hn⟩ | ⟨g, cap, cur, he, _⟩
    · exact ⟨none, 0, by rw [he, hn]⟩
    · exact ⟨_, _, he⟩
  have hne2 : ∀ a, A2 = some a → g ≠ a.block := by
    rintro a rfl hga
    exact hne a.block (qO _ rfl) (by rw [← hga]; rfl)
  exact insH_calls w base okA A2 c2 l x i g c cur hbase hfresh HO hne2 hl hh (by rw [hcs]; have h1c : 1 ≤ c := hnc; exact Nat.mul_pos h1c (by decide)) (by rw [← show encsK encH [x] = encH x from List.append_nil _]; exact htake) h0 hi
set_option maxHeartbeats 4000000 in
set_option maxRecDepth 100000 in
theorem insI_end (w : World) (base : Nat) (ok : Nat → Prop) (A : Option Addr) (c : Nat) (l : List S62) (x : S62) (vb vc : Nat) (curv : Array Value) (hbase : base ≤ w.heap.size) (hfresh : ∀ k, w.heap.size ≤ k → ok k)
    (HO : Kd.R k62 62 w base ok (.slice A l.length c) l) (hnc : l.length ≤ c) (hl : l.length ≤ 1000000000)
    (hv : w.heap[vb]? = some (.cells curv 62 (0, 0))) (hvs : 0 < curv.size) (hvt : curv.toList.take 2 = encI x) :
    Calls Try.prog 60 #[.slice A l.length c, .int .i64 (l.length : Int), .slice (some ⟨vb, 0, none⟩) 1 vc] w fun e w' =>
      ∃ v1 : Value, e = .returned v1 ∧ Kd.R k62 62 w' base ok v1 (l ++ [x]) ∧ Below base w w' ∧ w.grownBy w' (Value.slice A l.length c).ownBlock ∧ (v1.ownBlock = (Value.slice A l.length c).ownBlock ∨ ∃ b, v1.ownBlock = some b ∧ w.heap.size ≤ b) := by
  obtain ⟨i0, hi0, hz0, hsz, hz2⟩ := info_parts info62
  obtain ⟨sv, g1⟩ : ∃ sv, ∀ W : World, (Instr.slice 25 (.slice A l.length c) (some (.int .i64 (l.length : Int))) none none).run Try.prog W = .ok sv W := ⟨_, fun W => cut_from (P := Try.prog) 25 62 .i64 Try.underlying25 hi0 2 hsz A l.length c (l.length : Int) (by omega) (by omega) W⟩
  have HR : ReadsRow (fun p cs => cs = encI p) 2 w (some ⟨vb, 0, none⟩) 1 [x] := by
    refine ⟨rfl, by decide, fun _ => ⟨_, rfl, fun j p hj => ⟨encI p, rfl, rfl, fun q u hu => ?_⟩⟩⟩
    have hj0 : j < 1 := (List.getElem?_eq_some_iff.1 hj).1
    obtain rfl : j = 0 := by omega
    obtain rfl : x = p := by simpa using hj
    rw [addr_zero, Nat.zero_mul, Nat.zero_add, cell_of_row w vb q curv 62 (0, 0) hv, ← Array.getElem?_toList]
    rw [← hvt, List.getElem?_take] at hu
    split at hu
    · exact hu
    · cases hu
  go_enter Try.func60, Try.ntmps60
  go_wp2_with (at_builtin; refine Kd.R_append_rows k62 (w0 := w) base rfl (.tmp 23) (.tmp 24) 25 62 (Value.agg #[(.int .i64 0), (.int .i64 0)]) 16 rfl Try.underlying25 info62 rfl (by decide) (by decide) (.slice A l.length c) l [x] _ _ _ ok (fun _ => False) rfl rfl HO HR (fun _ _ h => (flatI.M _ _ _ _ _).2 h) (fun _ h => h.elim) hfresh (Below.refl _ _) hbase (by omega) ?_)
  intro v1 w1 h1 h2 h3 h4
  go_wp2
  go_ret
  exact ⟨_, rfl, h1, h2, h3, h4⟩
theorem insI_calls (w : World) (base : Nat) (ok : Nat → Prop) (A : Option Addr) (c : Nat) (l : List S62) (x : S62) (i : Int) (vb vc : Nat) (curv : Array Value) (hbase : base ≤ w.heap.size) (hfresh : ∀ k, w.heap.size ≤ k → ok k)
    (HO : Kd.R k62 62 w base ok (.slice A l.length c) l) (hvb : ∀ a, A = some a → vb ≠ a.block) (hl : l.length ≤ 1000000000)
    (hv : w.heap[vb]? = some (.cells curv 62 (0, 0))) (hvs : 0 < curv.size) (hvt : curv.toList.take 2 = encI x) (h0 : 0 ≤ i) (hi : i ≤ (l.length : Int)) :
    Calls Try.prog 60 #[.slice A l.length c, .int .i64 i, .slice (some ⟨vb, 0, none⟩) 1 vc] w fun e w' =>
      ∃ v1 : Value, e = .returned v1 ∧ Kd.R k62 62 w' base ok v1 (l.take i.toNat ++ [x] ++ l.drop i.toNat) ∧ Below base w w' ∧ w.grownBy w' (Value.slice A l.length c).ownBlock ∧ (v1.ownBlock = (Value.slice A l.length c).ownBlock ∨ ∃ b, v1.ownBlock = some b ∧ w.heap.size ≤ b) := by
  obtain ⟨m, rfl⟩ : ∃ m : Nat, i = m := ⟨i.toNat, by omega⟩
  rw [Int.toNat_natCast]
  obtain ⟨hq, ho⟩ := (R_flat flatI).1 HO
  have hlen : (l.take m ++ [x] ++ l.drop m).length = l.length + 1 := by simp only [List.length_append, List.length_take, List.length_drop, List.length_cons, List.length_nil]; omega
  have hs3 : (k62).sz = 2 := rfl
  rcases Nat.lt_or_ge m l.length with hlt | hge
  · rcases ho.2 with ⟨_, hn⟩ | ⟨g, cap, cur, he, hb, hh, hnc, hcm, hcs, htake⟩
    · omega
    injection he with e1 e2 e3
    subst e1 e3
    have hne : vb ≠ g := hvb _ rfl
    have htk : cur.toList.take (m * 2) = encsK encI (l.take m) := by
      have := encsK_take flatI l m (by omega)
      rw [hs3] at this
      rw [← this, ← htake, List.take_take, hs3, Nat.min_eq_left (Nat.mul_le_mul_right _ (by omega))]
    rcases Nat.lt_or_ge l.length c with hr | hr
    · refine (insI_shift g l.length c m vb vc l x w cur curv hlt (by omega) (by unfold maxLen at hcm; omega) hne rfl hh hcs htake hv hvs hvt).mono ?_
      rintro e w' ⟨he, hw⟩
      obtain ⟨cur', c1, c2, c3⟩ := shift_cells flatI w.drew g m l.length cur l x hh rfl (by omega) (by rw [hcs]; exact Nat.mul_le_mul_right _ (by omega)) (by rw [hs3]; exact htk)
      rw [hs3] at c1 c3
      rw [← hw] at c1
      refine ⟨_, he, (R_flat flatI).2 ⟨hq, by rw [encsK_len flatI], .inr ⟨g, c, cur', by rw [hlen], hb, c1, by omega, hcm, by rw [c2, hcs], by rw [hlen]; exact c3⟩⟩, ?_, ?_, .inl rfl⟩ <;> rw [hw]
      · exact below_cells (Below.refl _ w) hb _ _ (below_cells (Below.refl _ w) hb _ _ (below_drew1 (Below.refl _ _)))
      · exact cells_grown _ _ _ _ _ _
    · have hce : c = l.length := by omega
      refine (insI_grow g l.length c m vb vc l x w cur curv hlt (by omega) (by omega) hl hne rfl hh hcs htake hv hvs hvt).mono ?_
      rintro e w' ⟨he, hw⟩
      have hG1 := grownCap_ge w (l.length + 1) c 62
      have hGm := grownCap_le_maxLen w (l.length + 1) c 62 (by unfold maxLen; omega)
      obtain ⟨G, hG⟩ : ∃ G, G = grownCap w (l.length + 1) c 62 := ⟨_, rfl⟩
      rw [← hG] at he hw hG1 hGm
      obtain ⟨ROW, hROW⟩ : ∃ ROW : Array Value, ROW = (encsK encI (l.take m)).toArray ++ Builtin.zeroCells (Value.agg #[(.int .i64 0), (.int .i64 0)]).cells (l.length + 1 - m) ++ Builtin.zeroCells (Value.agg #[(.int .i64 0), (.int .i64 0)]).cells (G - (l.length + 1)) := ⟨_, rfl⟩
      have htl : (encsK encI (l.take m)).length = m * 2 := by rw [encsK_len flatI, List.length_take, Nat.min_eq_left (by omega)]; rfl
      have hRs : ROW.size = G * 2 := by
        rw [hROW]
        simp only [Array.size_append, size_zeroCells, List.size_toArray, htl]
        show m * 2 + (l.length + 1 - m) * 2 + (G - (l.length + 1)) * 2 = G * 2
        omega
      have hRt : ROW.toList.take (m * 2) = encsK encI (l.take m) := by
        rw [hROW, Array.toList_append, Array.toList_append, List.append_assoc]
        exact List.take_left' htl
      rw [← hROW] at hw
      have hblk : (w.alloc (.cells ROW 62)).drew.heap[w.heap.size]? = some (.cells ROW 62 (0, 0)) := by
        show (w.heap.push (.cells ROW 62))[w.heap.size]? = _
        exact Array.getElem?_push_size
      obtain ⟨cur', c1, c2, c3⟩ := grown_cells flatI (w.alloc (.cells ROW 62)).drew w.heap.size m l.length ROW l x hblk rfl (by omega) (by rw [hRs]; exact Nat.mul_le_mul_right _ hG1) (by rw [hs3]; exact hRt)
      rw [hs3] at c1 c3
      rw [← hw] at c1
      refine ⟨_, he, (R_flat flatI).2 ⟨fun k hk => hfresh k (by simp [Value.ownBlock] at hk; omega), by rw [encsK_len flatI], .inr ⟨w.heap.size, G, cur', by rw [hlen], hbase, c1, by omega, hGm, by rw [c2, hRs]; rfl, by rw [hlen]; exact c3⟩⟩, ?_, ?_, .inr ⟨_, rfl, Nat.le_refl _⟩⟩ <;> rw [hw]
      · exact below_cells (Below.refl _ w) hbase _ _ (below_drew1 (below_cells (Below.refl _ w) hbase _ _ (below_drew1 (below_from hbase _))))
      · exact grown_of_below (below_cells (Below.refl _ w) (Nat.le_refl _) _ _ (below_drew1 (below_cells (Below.refl _ w) (Nat.le_refl _) _ _ (below_drew1 (below_from (Nat.le_refl _) _))))) _
  · have hme : m = l.length := by omega
    subst hme
    rw [List.take_length, List.drop_length, List.append_nil]
    have hnc : l.length ≤ c := by
      rcases ho.2 with ⟨he, hn⟩ | ⟨g, cap, cur, he, hb, hh, hnc, _⟩
      · omega
      · injection he with e1 e2 e3; omega
    exact insI_end w base ok A c l x vb vc curv hbase hfresh HO hnc hl hv hvs hvt
theorem insI_R (w : World) (base : Nat) (okA okB : Nat → Prop) (v : Value) (l ys : List S62) (x : S62) (i : Int) (A : Option Addr) (c : Nat) (hys : ys = [x]) (hbase : base ≤ w.heap.size) (hfresh : ∀ k, w.heap.size ≤ k → okA k)
    (HO : Kd.R k62 62 w base okA v l) (HL : Kd.R k62 62 w base okB (.slice A ys.length c) ys) (hne : ∀ k, okA k → some k ≠ (Value.slice A ys.length c).ownBlock) (hl : l.length ≤ 1000000000) (h0 : 0 ≤ i) (hi : i ≤ (l.length : Int)) :
    Calls Try.prog 60 #[v, .int .i64 i, .slice A ys.length c] w fun e w' =>
      ∃ v1 : Value, e = .returned v1 ∧ Kd.R k62 62 w' base okA v1 (l.take i.toNat ++ ys ++ l.drop i.toNat) ∧ Below base w w' ∧ w.grownBy w' v.ownBlock ∧ (v1.ownBlock = v.ownBlock ∨ ∃ b, v1.ownBlock = some b ∧ w.heap.size ≤ b) := by
  subst hys
  obtain ⟨qL, oL⟩ := (R_flat flatI).1 HL
  obtain ⟨qO, oO⟩ := (R_flat flatI).1 HO
  rcases oL.2 with ⟨_, hn⟩ | ⟨g, cap, cur, he, hb, hh, hnc, hcm, hcs, htake⟩
  · cases hn
  injection he with e1 e2 e3
  subst e1 e3
  obtain ⟨A2, c2, rfl⟩ : ∃ A2 c2, v = .slice A2 l.length c2 := by
    rcases oO.2 with ⟨he, hn⟩ | ⟨g, cap, cur, he, _⟩
    · exact ⟨none, 0, by rw [he, hn]⟩
    · exact ⟨_, _, he⟩
  have hne2 : ∀ a, A2 = some a → g ≠ a.block := by
    rintro a rfl hga
    exact hne a.block (qO _ rfl) (by rw [← hga]; rfl)
  exact insI_calls w base okA A2 c2 l x i g c cur hbase hfresh HO hne2 hl hh (by rw [hcs]; have h1c : 1 ≤ c := hnc; exact Nat.mul_pos h1c (by decide)) (by rw [← show encsK encI [x] = encI x from List.append_nil _]; exact htake) h0 hi
end Go.Proofs.Ytjehhhlhalkieaa.C
namespace Go.Proofs.Ytjehhhlhalkieaa.C
open Go.RowKit Go.Proofs.YtjehhhlhalkieaaW.PrintWords Go.Proofs.YtjehhhlhalkieaaW.PrintLast Go.Proofs.YtjehhhlhalkieaaW.PrintMore
attribute [local go_sem] max2_int min2_int max_two min_two max_three min_three max_four min_four
set_option linter.unusedVariables false
set_option linter.unusedSimpArgs false
def api_Hall_with.f (k : Nat) (l0_0 : List (S56)) (a0_1 : Int) (a1_0 : Int) (a1_1 : Int) (a1_2 : Int) : Option ((List (S56))) := (api_Hall_62.f k l0_0 a1_0 a1_1 a1_2 a0_1).bind fun bt118 => (if bt118.2 = true then ((api_Hall_55.f l0_0).bind fun t120 => (some t120)) else ((api_Hall_55.f l0_0).bind fun t123 => ((some (([(⟨a1_0, a1_1, a1_2⟩ : S56)] : List (S56)) : List (S56))).bind fun y126 => (if (t123.length + y126.length < 1000000000 ∧ 0 ≤ bt118.1 ∧ bt118.1 ≤ (t123.length : Int)) then (some (t123.take bt118.1.toNat ++ y126 ++ t123.drop bt118.1.toNat)) else (none)))))
theorem api_Hall_with.mono : ∀ a0 a1 a2 a3 a4 k, LeO (api_Hall_with.f k a0 a1 a2 a3 a4) (api_Hall_with.f (k + 1) a0 a1 a2 a3 a4) := by
 intro a0 a1 a2 a3 a4 k
 unfold api_Hall_with.f
 repeat' first
   | (with_reducible exact api_Hall_62.mono _ _ _ _ _ _)
   | (with_reducible exact LeO.refl _)
   | (with_reducible exact LeO.none _)
   | (with_reducible refine LeO.ite ?_ ?_)
   | (with_reducible refine LeO.bind ?_ (fun _ => ?_))
   | exact api_Hall_62.mono _ _ _ _ _ _
   | exact LeO.none _
   | refine LeO.ite ?_ ?_
   | refine LeO.bind ?_ (fun _ => ?_)
def api_Hall_with.T4 : Bool × List (List Nat × List Nat) := (true, [([], []), ([0], [0]), ([1], [1]), ([], []), ([], []), ([4], [4]), ([2, 3, 5, 2], [2, 3, 5]), ([6, 6, 0, 1, 2, 3, 4, 5, 6], [6])])
def api_Hall_with.B4 : List Nat := [0, 1, 3, 0, 0, 16, 63, 127]
theorem api_Hall_with.tab4 : rtab .any (opsOf Try.f35 4) = api_Hall_with.T4 := by kernel_rfl
theorem api_Hall_with.bits4 : waitsOk api_Hall_with.T4.2 api_Hall_with.B4 = true := by kernel_rfl
set_option maxHeartbeats 8000000 in
set_option maxRecDepth 100000 in
theorem api_Hall_with.calls (k : Nat) (A0_0 : Option Addr) (c0_0 : Nat) (l0_0 : List (S56)) (a0_1 : Int) (a1_0 : Int) (a1_1 : Int) (a1_2 : Int) (r : List (S56)) (w : World) (hr0_0 : Kd.C k56 w A0_0 l0_0.length l0_0) (hc0_0 : l0_0.length ≤ c0_0) (h : api_Hall_with.f k l0_0 a0_1 a1_0 a1_1 a1_2 = some r) :
  Calls Try.prog 35 #[.agg #[.slice A0_0 l0_0.length c0_0, .func (.func 51) #[] #[]], .agg #[.int .i64 a1_0, .int .i64 a1_1, .int .i64 a1_2]] w fun e w' => ∃ v0_ : Value, e = .returned (v0_) ∧ Kd.R k56 56 w' w.heap.size (fun _ => True) v0_ r ∧ Below w.heap.size w w' := by
 have hu69 := Try.underlying69
 have hu56 := Try.underlying56
 have HR0_0 := Aside0.mk hr0_0
 have HC0_0 := Aside0.mk hc0_0
 clear hr0_0 hc0_0
 have HB := Aside0.mk (Below.refl w.heap.size w)
 have H : ((api_Hall_62.f k l0_0 a1_0 a1_1 a1_2 a0_1).bind fun bt118 => (if bt118.2 = true then ((api_Hall_55.f l0_0).bind fun t120 => (some t120)) else ((api_Hall_55.f l0_0).bind fun t123 => ((some (([(⟨a1_0, a1_1, a1_2⟩ : S56)] : List (S56)) : List (S56))).bind fun y126 => (if (t123.length + y126.length < 1000000000 ∧ 0 ≤ bt118.1 ∧ bt118.1 ≤ (t123.length : Int)) then (some (t123.take bt118.1.toNat ++ y126 ++ t123.drop bt118.1.toNat)) else (none)))))) = some r := h
 clear h
 replace H := Option.bind_eq_some_iff.mp H
 obtain ⟨⟨t118, t119⟩, A30, H⟩ := H
 replace H : (if t119 = true then ((api_Hall_55.f l0_0).bind fun t120 => (some t120)) else ((api_Hall_55.f l0_0).bind fun t123 => ((some (([(⟨a1_0, a1_1, a1_2⟩ : S56)] : List (S56)) : List (S56))).bind fun y126 => (if (t123.length + y126.length < 1000000000 ∧ 0 ≤ t118 ∧ t118 ≤ (t123.length : Int)) then (some (t123.take t118.toNat ++ y126 ++ t123.drop t118.toNat)) else (none))))) = some r := H
 have A3 := Aside0.mk A30
 clear A30
 by_cases c4 : t119 = true
 ·subst c4
  have H1 : ((api_Hall_55.f l0_0).bind fun t120 => (some t120)) = some r := by rw [if_pos rfl] at H; exact H
  clear H
  have H := H1
  clear H1
  replace H := Option.bind_eq_some_iff.mp H
  obtain ⟨t120, A50, H⟩ := H
  replace H : (some t120) = some r := H
  have A5 := Aside0.mk A50
  clear A50
  obtain rfl := Option.some.inj H
  go_enter Try.func35, Try.ntmps35
  go_wp2_with (first | ((with_reducible refine gate_dst (N := 2) rfl ?_); refine box_event ?hg (N := 2) ?hd (cs := #[.slice A0_0 l0_0.length c0_0, .func (.func 51) #[] #[]]) (t := 69) ?hr ?_; (case hd => rfl); (case hg => rfl); (case hr => go_simp <;> rfl); intro gb116 hg w6 hbox hb; have BK116 := Aside0.mk hbox; have GW116 := sGe hg; have GE116 := sGe hg; replace HB := sHb hb; clear hb hbox hg) | ((with_reducible refine gate_dst (N := 3) rfl ?_); refine box_event ?hg (N := 3) ?hd (cs := #[.int .i64 a1_0, .int .i64 a1_1, .int .i64 a1_2]) (t := 56) ?hr ?_; (case hd => rfl); (case hg => rfl); (case hr => go_simp <;> rfl); intro gb117 hg w7 hbox hb; have BK117 := Aside0.mk hbox; have GW117 := sGe hg; have GE117 := sGe hg; have NB116_117 := sNl BK116 hg; have NB117_116 := sNg BK116 hg; replace BK116 := sBk BK116 hb; replace HB := sHb hb; clear hb hbox hg; have hnb8 := NB116_117.out; have hnc8 := NB117_116.out; have hcz9_0 : w7.cell? ⟨gb116, 0, none⟩ = some (.slice A0_0 l0_0.length c0_0) := (blk_cell BK116.out 0).trans rfl; have hcz9_1 : w7.cell? ⟨gb116, 1, none⟩ = some (.func (.func 51) #[] #[]) := (blk_cell BK116.out 1).trans rfl; have hfz9_0 := blk_frozen BK116.out 0; have hfz9_1 := blk_frozen BK116.out 1; have hcz10_0 : w7.cell? ⟨gb117, 0, none⟩ = some (.int .i64 a1_0) := (blk_cell BK117.out 0).trans rfl; have hcz10_1 : w7.cell? ⟨gb117, 1, none⟩ = some (.int .i64 a1_1) := (blk_cell BK117.out 1).trans rfl; have hcz10_2 : w7.cell? ⟨gb117, 2, none⟩ = some (.int .i64 a1_2) := (blk_cell BK117.out 2).trans rfl; have hfz10_0 := blk_frozen BK117.out 0; have hfz10_1 := blk_frozen BK117.out 1; have hfz10_2 := blk_frozen BK117.out 2) | ((with_reducible refine gate_callee (f := 62) rfl ?_); refine goesL_ (some 13) rfl rfl Try.func62 (by kernel_rfl) rfl #[.slice A0_0 l0_0.length c0_0, .agg #[.int .i64 a1_0, .int .i64 a1_1, .int .i64 a1_2], .func (.func 51) #[] #[]] rfl (by simp only [List.map_toArray, List.map_cons, List.map_nil] <;> rfl) ?_; (with_reducible refine (api_Hall_62.calls k _ _ l0_0 a1_0 a1_1 a1_2 a0_1 t118 true _ ?side1 ?side2 A3.out).mono ?_); (case side1 => exact (Kd.C_below HR0_0.out HB.out)); (case side2 => exact HC0_0.out); rintro e w11 ⟨rfl, hb⟩; refine ⟨_, rfl, ?_⟩; replace BK116 := sBk BK116 hb; replace BK117 := sBk BK117 hb; replace HB := sHb hb; (try clear hb); (try clear hb2); (try clear hk); (try clear hi); have hcz12_0 : w11.cell? ⟨gb116, 0, none⟩ = some (.slice A0_0 l0_0.length c0_0) := (blk_cell BK116.out 0).trans rfl; have hcz12_1 : w11.cell? ⟨gb116, 1, none⟩ = some (.func (.func 51) #[] #[]) := (blk_cell BK116.out 1).trans rfl; have hfz12_0 := blk_frozen BK116.out 0; have hfz12_1 := blk_frozen BK116.out 1) | ((with_reducible refine gate_callee (f := 55) rfl ?_); refine goesL_ (some 19) rfl rfl Try.func55 (by kernel_rfl) rfl #[.slice A0_0 l0_0.length c0_0] rfl (by simp only [List.map_toArray, List.map_cons, List.map_nil] <;> rfl) ?_; (with_reducible refine (api_Hall_55.calls _ _ l0_0 t120 _ ?side1 ?side2 A5.out).mono ?_); (case side1 => exact (Kd.C_below HR0_0.out HB.out)); (case side2 => exact HC0_0.out); rintro e w13 ⟨v121, rfl, ho0, hb⟩; refine ⟨_, rfl, ?_⟩; have HO122 := Aside0.mk (Kd.R_lower (Kd.R_newB ho0 (g := gb117) (o := .cells #[.int .i64 a1_0, .int .i64 a1_1, .int .i64 a1_2] 56 (0, 0)) BK117.out) (below_size HB.out)); replace BK116 := sBk BK116 hb; replace BK117 := sBk BK117 hb; replace HB := sHb hb; (try clear hb); (try clear hb2); (try clear hk); (try clear hi); (try clear ho0)))
  go_ret
  exact ⟨_, rfl, by (with_reducible repeat (first | apply Kd.R_alloc | apply Kd.R_drewN | apply Kd.R_drew)); exact Kd.R_mono HO122.out (fun _ hk => trivial), HB.out⟩
 ·replace c4 := Bool.eq_false_iff.mpr c4
  subst c4
  have H1 : ((api_Hall_55.f l0_0).bind fun t123 => ((some (([(⟨a1_0, a1_1, a1_2⟩ : S56)] : List (S56)) : List (S56))).bind fun y126 => (if (t123.length + y126.length < 1000000000 ∧ 0 ≤ t118 ∧ t118 ≤ (t123.length : Int)) then (some (t123.take t118.toNat ++ y126 ++ t123.drop t118.toNat)) else (none)))) = some r := by rw [if_neg (show ¬ (false = true) by decide)] at H; exact H
  clear H
  have H := H1
  clear H1
  replace H := Option.bind_eq_some_iff.mp H
  obtain ⟨t123, A140, H⟩ := H
  replace H : ((some (([(⟨a1_0, a1_1, a1_2⟩ : S56)] : List (S56)) : List (S56))).bind fun y126 => (if (t123.length + y126.length < 1000000000 ∧ 0 ≤ t118 ∧ t118 ≤ (t123.length : Int)) then (some (t123.take t118.toNat ++ y126 ++ t123.drop t118.toNat)) else (none))) = some r := H
  have A14 := Aside0.mk A140
  clear A140
  obtain ⟨y126, hy126⟩ : ∃ y_ : List (S56), y_ = (([(⟨a1_0, a1_1, a1_2⟩ : S56)] : List (S56))) := ⟨_, rfl⟩
  replace H : (if (t123.length + y126.length < 1000000000 ∧ 0 ≤ t118 ∧ t118 ≤ (t123.length : Int)) then (some (t123.take t118.toNat ++ y126 ++ t123.drop t118.toNat)) else (none)) = some r := by first | (rw [hy126]; with_reducible exact H) | (have H2_ := (Option.bind_some _ _).symm.trans H; rw [hy126]; with_reducible exact H2_) | (have H2_ := (Option.bind_some _ _).symm.trans H; with_reducible exact H2_) | with_reducible exact H | (rw [hy126]; exact H) | exact H
  have Ny126 := Aside0.mk hy126
  clear hy126
  by_cases c15 : (t123.length + y126.length < 1000000000 ∧ 0 ≤ t118 ∧ t118 ≤ (t123.length : Int))
  ·rw [if_pos c15] at H
   have LMc15 := Aside0.mk c15
   clear c15
   obtain ⟨y129, hy129⟩ : ∃ y_ : List (S56), y_ = (t123.take t118.toNat ++ y126 ++ t123.drop t118.toNat) := ⟨_, rfl⟩
   replace H : (some y129) = some r := by first | (rw [hy129]; with_reducible exact H) | (have H2_ := (Option.bind_some _ _).symm.trans H; rw [hy129]; with_reducible exact H2_) | (have H2_ := (Option.bind_some _ _).symm.trans H; with_reducible exact H2_) | with_reducible exact H | (rw [hy129]; exact H) | exact H
   have Ny129 := Aside0.mk hy129
   clear hy129
   obtain rfl := Option.some.inj H
   go_enter Try.func35, Try.ntmps35
   try go_wp2_with (first | ((with_reducible refine gate_dst (N := 2) rfl ?_); refine box_event ?hg (N := 2) ?hd (cs := #[.slice A0_0 l0_0.length c0_0, .func (.func 51) #[] #[]]) (t := 69) ?hr ?_; (case hd => rfl); (case hg => rfl); (case hr => go_simp <;> rfl); intro gb116 hg w16 hbox hb; have BK116 := Aside0.mk hbox; have GW116 := sGe hg; have GE116 := sGe hg; replace HB := sHb hb; clear hb hbox hg) | ((with_reducible refine gate_dst (N := 3) rfl ?_); refine box_event ?hg (N := 3) ?hd (cs := #[.int .i64 a1_0, .int .i64 a1_1, .int .i64 a1_2]) (t := 56) ?hr ?_; (case hd => rfl); (case hg => rfl); (case hr => go_simp <;> rfl); intro gb117 hg w17 hbox hb; have BK117 := Aside0.mk hbox; have GW117 := sGe hg; have GE117 := sGe hg; have NB116_117 := sNl BK116 hg; have NB117_116 := sNg BK116 hg; replace BK116 := sBk BK116 hb; replace HB := sHb hb; clear hb hbox hg; have hnb18 := NB116_117.out; have hnc18 := NB117_116.out; have hcz19_0 : w17.cell? ⟨gb116, 0, none⟩ = some (.slice A0_0 l0_0.length c0_0) := (blk_cell BK116.out 0).trans rfl; have hcz19_1 : w17.cell? ⟨gb116, 1, none⟩ = some (.func (.func 51) #[] #[]) := (blk_cell BK116.out 1).trans rfl; have hfz19_0 := blk_frozen BK116.out 0; have hfz19_1 := blk_frozen BK116.out 1; have hcz20_0 : w17.cell? ⟨gb117, 0, none⟩ = some (.int .i64 a1_0) := (blk_cell BK117.out 0).trans rfl; have hcz20_1 : w17.cell? ⟨gb117, 1, none⟩ = some (.int .i64 a1_1) := (blk_cell BK117.out 1).trans rfl; have hcz20_2 : w17.cell? ⟨gb117, 2, none⟩ = some (.int .i64 a1_2) := (blk_cell BK117.out 2).trans rfl; have hfz20_0 := blk_frozen BK117.out 0; have hfz20_1 := blk_frozen BK117.out 1; have hfz20_2 := blk_frozen BK117.out 2) | ((with_reducible refine gate_callee (f := 62) rfl ?_); refine goesL_ (some 13) rfl rfl Try.func62 (by kernel_rfl) rfl #[.slice A0_0 l0_0.length c0_0, .agg #[.int .i64 a1_0, .int .i64 a1_1, .int .i64 a1_2], .func (.func 51) #[] #[]] rfl (by simp only [List.map_toArray, List.map_cons, List.map_nil] <;> rfl) ?_; (with_reducible refine (api_Hall_62.calls k _ _ l0_0 a1_0 a1_1 a1_2 a0_1 t118 false _ ?side1 ?side2 A3.out).mono ?_); (case side1 => exact (Kd.C_below HR0_0.out HB.out)); (case side2 => exact HC0_0.out); rintro e w21 ⟨rfl, hb⟩; refine ⟨_, rfl, ?_⟩; replace BK116 := sBk BK116 hb; replace BK117 := sBk BK117 hb; replace HB := sHb hb; (try clear hb); (try clear hb2); (try clear hk); (try clear hi)))
   replace BK116 := Aside0.mk (blk_drew BK116.out)
   replace BK117 := Aside0.mk (blk_drew BK117.out)
   replace HB := Aside0.mk (below_drew1 HB.out)
   refine start_ (n := 8) (S := fun w' => w'.cell? ⟨gb116, 0, none⟩ = some (.slice A0_0 l0_0.length c0_0) ∧ w'.cell? ⟨gb116, 1, none⟩ = some (.func (.func 51) #[] #[]) ∧ w'.cell? ⟨gb117, 0, none⟩ = some (.int .i64 a1_0) ∧ w'.cell? ⟨gb117, 1, none⟩ = some (.int .i64 a1_1) ∧ w'.cell? ⟨gb117, 2, none⟩ = some (.int .i64 a1_2)) (ds := []) #[false, false, false, false, false, false, false, false] (by kernel_rfl) rfl rfl ⟨(blk_cell BK116.out 0).trans rfl, (blk_cell BK116.out 1).trans rfl, (blk_cell BK117.out 0).trans rfl, (blk_cell BK117.out 1).trans rfl, (blk_cell BK117.out 2).trans rfl⟩ (fun hHeld => ?_); refine with_tabW api_Hall_with.tab4 api_Hall_with.bits4 (fun HT_ HW_ => ?_)
   generalize w21.drew = w22 at BK116 BK117 HB hHeld ⊢
   refine pure_ (i := 0) (N := some 20) (v := ?_) (a' := ?_) (bN 8 1) rfl rfl (any_of HT_.out (by kernel_rfl)) (fun _ _ _ h => h) (Or.inl ⟨by rfl, ?_⟩) ?_ ?_
   rotate_left
   ·intro w'
    go_simp
    with_reducible rfl
   rotate_left
   ·simp only [Act.put, List.setIfInBounds_toArray, List.set_cons_zero, List.set_cons_succ, i64_w, i32_w]
    rfl
   refine pure_ (i := 3) (N := some 23) (v := ?_) (a' := ?_) (bN 8 9) rfl rfl (any_of HT_.out (by kernel_rfl)) (fun _ _ _ h => h) (Or.inl ⟨by rfl, ?_⟩) ?_ ?_
   rotate_left
   ·intro w'
    go_simp
    with_reducible rfl
   rotate_left
   ·simp only [Act.put, List.setIfInBounds_toArray, List.set_cons_zero, List.set_cons_succ, i64_w, i32_w]
    rfl
   refine take_ (i := 1) (N := some 21) (v := ?_) (a' := ?_) (bN 8 11) rfl rfl (take_ofW HT_.out HW_.out (by kernel_rfl)) (fun _ _ _ h => h) (Or.inl ⟨by rfl, ?_⟩) hHeld ?_ ?_
   rotate_left
   ·rintro w' ⟨s0, s1, s2, s3, s4⟩
    go_simp
    with_reducible rfl
   rotate_left
   ·simp only [Act.put, List.setIfInBounds_toArray, List.set_cons_zero, List.set_cons_succ, i64_w, i32_w]
    rfl
   refine take_ (i := 4) (N := some 24) (v := ?_) (a' := ?_) (bN 8 27) rfl rfl (take_ofW HT_.out HW_.out (by kernel_rfl)) (fun _ _ _ h => h) (Or.inl ⟨by rfl, ?_⟩) hHeld ?_ ?_
   rotate_left
   ·rintro w' ⟨s0, s1, s2, s3, s4⟩
    go_simp
    with_reducible rfl
   rotate_left
   ·simp only [Act.put, List.setIfInBounds_toArray, List.set_cons_zero, List.set_cons_succ, i64_w, i32_w]
    rfl
   refine join_ (σ := Value × Value) 2 (bN 8 63) (fun s_ => [(22, s_.1), (25, s_.2)]) (fun s_ w' => (w'.cell? ⟨gb116, 0, none⟩ = some (.slice A0_0 l0_0.length c0_0) ∧ w'.cell? ⟨gb116, 1, none⟩ = some (.func (.func 51) #[] #[]) ∧ w'.cell? ⟨gb117, 0, none⟩ = some (.int .i64 a1_0) ∧ w'.cell? ⟨gb117, 1, none⟩ = some (.int .i64 a1_1) ∧ w'.cell? ⟨gb117, 2, none⟩ = some (.int .i64 a1_2)) ∧ (Kd.R k56 56 w' w.heap.size (fun k_ => some k_ ≠ (s_.2 : Value).ownBlock ∧ k_ ≠ gb117) s_.1 t123) ∧ (Kd.R k56 56 w' w.heap.size (fun k_ => some k_ ≠ (s_.1 : Value).ownBlock ∧ k_ ≠ gb117) s_.2 y126) ∧ (w'.heap[gb116]? = some (.cells #[.slice A0_0 l0_0.length c0_0, .func (.func 51) #[] #[]] 69 (0, 0))) ∧ (w'.heap[gb117]? = some (.cells #[.int .i64 a1_0, .int .i64 a1_1, .int .i64 a1_2] 56 (0, 0))) ∧ (Below w.heap.size w w')) ?_ ?_
   rotate_left
   ·intro hCont
    refine two_ (i := 2) (j := 5) (Ni := some 22) (Nj := some 25) (bN 8 31) (bN 8 59) rfl rfl rfl rfl (two_of HT_.out (by kernel_rfl)) (by decide) (by decide) (fun K hK => ?_) (fun K hK => ?_)
    ·skip
     refine goes_ Try.func55 (by kernel_rfl) rfl #[.slice A0_0 l0_0.length c0_0] (by rfl) rfl rfl (by simp only [List.map_toArray, List.map_cons, List.map_nil] <;> rfl) ?_
     with_reducible refine (api_Hall_55.calls _ _ l0_0 t123 _ ?side1 ?side2 A14.out).mono ?_
     (case side1 => exact (Kd.C_below HR0_0.out HB.out))
     (case side2 => exact HC0_0.out)
     rintro e w23 ⟨v124, rfl, ho0, hb⟩
     refine ⟨_, rfl, ?_⟩
     have HO125 := Aside0.mk (Kd.R_lower (Kd.R_newB ho0 (g := gb117) (o := .cells #[.int .i64 a1_0, .int .i64 a1_1, .int .i64 a1_2] 56 (0, 0)) BK117.out) (below_size HB.out))
     replace BK116 := sBk BK116 hb
     replace BK117 := sBk BK117 hb
     replace HB := sHb hb
     (try clear hb)
     (try clear hb2)
     (try clear hk)
     (try clear hi)
     (try clear ho0)
     refine hK.out _ _ ⟨(blk_cell BK116.out 0).trans rfl, (blk_cell BK116.out 1).trans rfl, (blk_cell BK117.out 0).trans rfl, (blk_cell BK117.out 1).trans rfl, (blk_cell BK117.out 2).trans rfl⟩ (fun hHeld => ?_)
     clear hK K
     refine norm_ (a' := ?_) ?_ ?_
     rotate_left
     ·show Act.put _ (some 22) _ = _
      simp only [Act.put, List.setIfInBounds_toArray, List.set_cons_zero, List.set_cons_succ, i64_w, i32_w]
      rfl
     refine one_ (i := 5) (N := some 25) (bN 8 63) rfl rfl (one_of HT_.out (by kernel_rfl)) (by decide) (fun K hK => ?_)
     refine Kd.R_lit_step k56 _ 56 ?hg (N := 25) ?hd (xs := ([(⟨a1_0, a1_1, a1_2⟩ : S56)] : List (S56))) (inner := [.int .i64 a1_0, .int .i64 a1_1, .int .i64 a1_2]) (ok := fun _ => True) (okp := fun _ => True) ?hr ?hp (fun _ hk => hk) trivial (Below.refl _ _) (Nat.le_refl _) (by simp) ?_; (case hd => rfl); (case hg => rfl); (case hr => go_simp <;> rfl); (case hp => exact (Reps.c3 (show Kd.M k56 _ _ _ (⟨a1_0, a1_1, a1_2⟩ : S56) [.int .i64 a1_0, .int .i64 a1_1, .int .i64 a1_2] from (k56_mkM _ _ _ (⟨a1_0, a1_1, a1_2⟩ : S56) )) (Reps.none _ _)))
     intro v127 w24 ho25 hb hg_ hnew_
     clear hg_ hnew_
     (first | rw [← Ny126.out] at ho25 | (simp only [Int.reduceToNat] at ho25; rw [← Ny126.out] at ho25))
     have HO128 := Aside0.mk (Kd.R_lower (Kd.R_newB (Kd.R_new' ho25 (Kd.R_lt HO125.out)) (g := gb117) (o := .cells #[.int .i64 a1_0, .int .i64 a1_1, .int .i64 a1_2] 56 (0, 0)) BK117.out) (below_size HB.out))
     replace HO125 := Aside0.mk (Kd.R_elder' HO125.out (Kd.R_base ho25) hb)
     replace BK116 := sBk BK116 hb
     replace BK117 := sBk BK117 hb
     replace HB := sHb hb
     clear hb ho25
     refine hK.out _ _ ⟨(blk_cell BK116.out 0).trans rfl, (blk_cell BK116.out 1).trans rfl, (blk_cell BK117.out 0).trans rfl, (blk_cell BK117.out 1).trans rfl, (blk_cell BK117.out 2).trans rfl⟩ (fun hHeld => ?_)
     clear hK K
     refine norm_ (a' := ?_) ?_ ?_
     rotate_left
     ·show Act.put _ (some 25) _ = _
      simp only [Act.put, List.setIfInBounds_toArray, List.set_cons_zero, List.set_cons_succ, i64_w, i32_w]
      rfl
     exact norm_ (by simp only [putAll, Act.put, List.setIfInBounds_toArray, List.set_cons_zero, List.set_cons_succ]) (hCont (v124, v127) _ ⟨hHeld, (by (with_reducible repeat (first | apply Kd.R_alloc | apply Kd.R_drewN | apply Kd.R_drew)); exact Kd.R_mono HO125.out (fun _ hk => ⟨hk.2, hk.1.2⟩)), (by (with_reducible repeat (first | apply Kd.R_alloc | apply Kd.R_drewN | apply Kd.R_drew)); exact Kd.R_mono HO128.out (fun _ hk => ⟨hk.1.2, hk.2⟩)), BK116.out, BK117.out, HB.out⟩)
    ·skip
     refine Kd.R_lit_step k56 _ 56 ?hg (N := 25) ?hd (xs := ([(⟨a1_0, a1_1, a1_2⟩ : S56)] : List (S56))) (inner := [.int .i64 a1_0, .int .i64 a1_1, .int .i64 a1_2]) (ok := fun _ => True) (okp := fun _ => True) ?hr ?hp (fun _ hk => hk) trivial (Below.refl _ _) (Nat.le_refl _) (by simp) ?_; (case hd => rfl); (case hg => rfl); (case hr => go_simp <;> rfl); (case hp => exact (Reps.c3 (show Kd.M k56 _ _ _ (⟨a1_0, a1_1, a1_2⟩ : S56) [.int .i64 a1_0, .int .i64 a1_1, .int .i64 a1_2] from (k56_mkM _ _ _ (⟨a1_0, a1_1, a1_2⟩ : S56) )) (Reps.none _ _)))
     intro v127 w23 ho24 hb hg_ hnew_
     clear hg_ hnew_
     (first | rw [← Ny126.out] at ho24 | (simp only [Int.reduceToNat] at ho24; rw [← Ny126.out] at ho24))
     have HO128 := Aside0.mk (Kd.R_lower (Kd.R_newB ho24 (g := gb117) (o := .cells #[.int .i64 a1_0, .int .i64 a1_1, .int .i64 a1_2] 56 (0, 0)) BK117.out) (below_size HB.out))
     replace BK116 := sBk BK116 hb
     replace BK117 := sBk BK117 hb
     replace HB := sHb hb
     clear hb ho24
     refine hK.out _ _ ⟨(blk_cell BK116.out 0).trans rfl, (blk_cell BK116.out 1).trans rfl, (blk_cell BK117.out 0).trans rfl, (blk_cell BK117.out 1).trans rfl, (blk_cell BK117.out 2).trans rfl⟩ (fun hHeld => ?_)
     clear hK K
     refine norm_ (a' := ?_) ?_ ?_
     rotate_left
     ·show Act.put _ (some 25) _ = _
      simp only [Act.put, List.setIfInBounds_toArray, List.set_cons_zero, List.set_cons_succ, i64_w, i32_w]
      rfl
     refine one_ (i := 2) (N := some 22) (bN 8 63) rfl rfl (one_of HT_.out (by kernel_rfl)) (by decide) (fun K hK => ?_)
     refine goes_ Try.func55 (by kernel_rfl) rfl #[.slice A0_0 l0_0.length c0_0] (by rfl) rfl rfl (by simp only [List.map_toArray, List.map_cons, List.map_nil] <;> rfl) ?_
     with_reducible refine (api_Hall_55.calls _ _ l0_0 t123 _ ?side1 ?side2 A14.out).mono ?_
     (case side1 => exact (Kd.C_below HR0_0.out HB.out))
     (case side2 => exact HC0_0.out)
     rintro e w25 ⟨v124, rfl, ho0, hb⟩
     refine ⟨_, rfl, ?_⟩
     have HO125 := Aside0.mk (Kd.R_lower (Kd.R_newB (Kd.R_new' ho0 (Kd.R_lt HO128.out)) (g := gb117) (o := .cells #[.int .i64 a1_0, .int .i64 a1_1, .int .i64 a1_2] 56 (0, 0)) BK117.out) (below_size HB.out))
     replace HO128 := Aside0.mk (Kd.R_elder' HO128.out (Kd.R_base ho0) hb)
     replace BK116 := sBk BK116 hb
     replace BK117 := sBk BK117 hb
     replace HB := sHb hb
     (try clear hb)
     (try clear hb2)
     (try clear hk)
     (try clear hi)
     (try clear ho0)
     refine hK.out _ _ ⟨(blk_cell BK116.out 0).trans rfl, (blk_cell BK116.out 1).trans rfl, (blk_cell BK117.out 0).trans rfl, (blk_cell BK117.out 1).trans rfl, (blk_cell BK117.out 2).trans rfl⟩ (fun hHeld => ?_)
     clear hK K
     refine norm_ (a' := ?_) ?_ ?_
     rotate_left
     ·show Act.put _ (some 22) _ = _
      simp only [Act.put, List.setIfInBounds_toArray, List.set_cons_zero, List.set_cons_succ, i64_w, i32_w]
      rfl
     exact norm_ (by simp only [putAll, Act.put, List.setIfInBounds_toArray, List.set_cons_zero, List.set_cons_succ]) (hCont (v124, v127) _ ⟨hHeld, (by (with_reducible repeat (first | apply Kd.R_alloc | apply Kd.R_drewN | apply Kd.R_drew)); exact Kd.R_mono HO125.out (fun _ hk => ⟨hk.1.2, hk.2⟩)), (by (with_reducible repeat (first | apply Kd.R_alloc | apply Kd.R_drewN | apply Kd.R_drew)); exact Kd.R_mono HO128.out (fun _ hk => ⟨hk.2, hk.1.2⟩)), BK116.out, BK117.out, HB.out⟩)
   rintro ⟨v124, v127⟩ w26 ⟨hS_, h0_, h1_, h2_, h3_, h4_⟩
   have n0_ : Aside0 (Kd.R k56 56 w26 w.heap.size (fun k_ => some k_ ≠ (v127 : Value).ownBlock ∧ k_ ≠ gb117) v124 t123) := ⟨h0_⟩
   have n1_ : Aside0 (Kd.R k56 56 w26 w.heap.size (fun k_ => some k_ ≠ (v124 : Value).ownBlock ∧ k_ ≠ gb117) v127 y126) := ⟨h1_⟩
   have n2_ : Aside0 (w26.heap[gb116]? = some (.cells #[.slice A0_0 l0_0.length c0_0, .func (.func 51) #[] #[]] 69 (0, 0))) := ⟨h2_⟩
   have n3_ : Aside0 (w26.heap[gb117]? = some (.cells #[.int .i64 a1_0, .int .i64 a1_1, .int .i64 a1_2] 56 (0, 0))) := ⟨h3_⟩
   have n4_ : Aside0 (Below w.heap.size w w26) := ⟨h4_⟩
   clear BK116
   clear BK117
   clear HB
   clear h0_ h1_ h2_ h3_ h4_
   have HO125 := n0_
   have HO128 := n1_
   have BK116 := n2_
   have BK117 := n3_
   have HB := n4_
   clear n0_ n1_ n2_ n3_ n4_
   have hHeld : w26.cell? ⟨gb116, 0, none⟩ = some (.slice A0_0 l0_0.length c0_0) ∧ w26.cell? ⟨gb116, 1, none⟩ = some (.func (.func 51) #[] #[]) ∧ w26.cell? ⟨gb117, 0, none⟩ = some (.int .i64 a1_0) ∧ w26.cell? ⟨gb117, 1, none⟩ = some (.int .i64 a1_1) ∧ w26.cell? ⟨gb117, 2, none⟩ = some (.int .i64 a1_2) := hS_
   obtain ⟨Ao28, co28, eo28⟩ := Kd.R_slice HO128.out
   (first | subst eo28 | (injection eo28 with f1_ f2_ f3_; have f4_ := f1_.symm; have f5_ := f3_.symm; clear f1_ f2_ f3_; subst f4_; subst f5_))
   refine norm_ (a' := ?_) ?_ ?_
   rotate_left
   ·simp only [putAll, Act.put, List.setIfInBounds_toArray, List.set_cons_zero, List.set_cons_succ]
    rfl
   refine one_ (i := 6) (N := some 26) (bN 8 127) rfl rfl (one_of HT_.out (by kernel_rfl)) (by decide) (fun K hK => ?_)
   refine goes_ Try.func63 (by kernel_rfl) rfl #[v124, .int .i64 t118, .slice Ao28 y126.length co28] (by rfl) rfl rfl (by simp only [List.map_toArray, List.map_cons, List.map_nil] <;> rfl) ?_
   refine (insH_R _ w.heap.size (fun k_ => some k_ ≠ (.slice Ao28 y126.length co28 : Value).ownBlock ∧ k_ ≠ gb117) _ v124 t123 y126 _ t118 Ao28 co28 Ny126.out ?aS ?aF ?aO HO128.out ?aN (by have h_ := LMc15.out; omega) (by have h_ := LMc15.out; omega) (by have h_ := LMc15.out; omega)).mono ?_
   (case aS => exact (below_size HB.out))
   (case aF => exact (fun k_ hk => ⟨Kd.fresh' (Kd.R_lt HO128.out) k_ hk, Kd.freshB (g := gb117) (o := .cells #[.int .i64 a1_0, .int .i64 a1_1, .int .i64 a1_2] 56 (0, 0)) BK117.out k_ hk⟩))
   (case aO => exact HO125.out)
   (case aN => exact fun k_ hk => hk.1)
   rintro e w27 ⟨v130, rfl, ho, hb2_, hg, hat⟩
   refine ⟨_, rfl, ?_⟩
   have hb := HB.out.trans hb2_
   rw [← Ny129.out] at ho
   have HO131 := Aside0.mk ho
   replace BK116 := Aside0.mk (blk_grown (g := gb116) (o := .cells #[.slice A0_0 l0_0.length c0_0, .func (.func 51) #[] #[]] 69 (0, 0)) BK116.out hg (Kd.R_ne HO125.out BK116.out (by decide)))
   replace BK117 := Aside0.mk (blk_grown (g := gb117) (o := .cells #[.int .i64 a1_0, .int .i64 a1_1, .int .i64 a1_2] 56 (0, 0)) BK117.out hg (Kd.R_away HO125.out (fun _ hk => hk.2)))
   replace HO128 := Aside0.mk (Kd.R_after (ok := (fun k_ => k_ ≠ gb117)) (by (with_reducible repeat (first | apply Kd.R_alloc | apply Kd.R_drewN | apply Kd.R_drew)); exact Kd.R_mono HO128.out (fun _ hk => ⟨hk.2, hk.1⟩)) hg hat)
   replace HB := Aside0.mk hb
   clear HO125
   clear ho hb hg hat
   refine hK.out _ _ ⟨(blk_cell BK116.out 0).trans rfl, (blk_cell BK116.out 1).trans rfl, (blk_cell BK117.out 0).trans rfl, (blk_cell BK117.out 1).trans rfl, (blk_cell BK117.out 2).trans rfl⟩ (fun hHeld => ?_)
   clear hK K
   refine norm_ (a' := ?_) ?_ ?_
   rotate_left
   ·show Act.put _ (some 26) _ = _
    simp only [Act.put, List.setIfInBounds_toArray, List.set_cons_zero, List.set_cons_succ, i64_w, i32_w]
    rfl
   refine pure_ (i := 7) (N := some 4) (v := ?_) (a' := ?_) (bN 8 255) rfl rfl (any_of HT_.out (by kernel_rfl)) (fun _ _ _ h => h) (Or.inl ⟨by rfl, ?_⟩) ?_ ?_
   rotate_left
   ·intro w'
    go_simp
    with_reducible rfl
   rotate_left
   ·simp only [Act.put, List.setIfInBounds_toArray, List.set_cons_zero, List.set_cons_succ, i64_w, i32_w]
    rfl
   refine done_ (done_of HT_.out (by kernel_rfl)) ?_
   try go_wp2
   go_ret
   exact ⟨_, rfl, by (with_reducible repeat (first | apply Kd.R_alloc | apply Kd.R_drewN | apply Kd.R_drew)); exact Kd.R_mono HO131.out (fun _ hk => trivial), HB.out⟩
  ·rw [if_neg c15] at H
   exact absurd H (by simp)
end Go.Proofs.Ytjehhhlhalkieaa.C
namespace Go.Proofs.Ytjehhhlhalkieaa.C
open Go.RowKit Go.Proofs.YtjehhhlhalkieaaW.PrintWords Go.Proofs.YtjehhhlhalkieaaW.PrintLast Go.Proofs.YtjehhhlhalkieaaW.PrintMore
attribute [local go_sem] max2_int min2_int max_two min_two max_three min_three max_four min_four
set_option linter.unusedVariables false
set_option linter.unusedSimpArgs false
def api_Inside_with.f (k : Nat) (l0_0 : List (S62)) (a0_1 : Int) (a1_0 : Int) (a1_1 : Int) : Option ((List (S62))) := (api_Inside_58.f k l0_0 a1_0 a1_1 a0_1).bind fun bt149 => (if bt149.2 = true then ((api_Inside_59.f l0_0).bind fun t151 => (some t151)) else ((api_Inside_59.f l0_0).bind fun t154 => ((some (([(⟨a1_0, a1_1⟩ : S62)] : List (S62)) : List (S62))).bind fun y157 => (if (t154.length + y157.length < 1000000000 ∧ 0 ≤ bt149.1 ∧ bt149.1 ≤ (t154.length : Int)) then (some (t154.take bt149.1.toNat ++ y157 ++ t154.drop bt149.1.toNat)) else (none)))))
theorem api_Inside_with.mono : ∀ a0 a1 a2 a3 k, LeO (api_Inside_with.f k a0 a1 a2 a3) (api_Inside_with.f (k + 1) a0 a1 a2 a3) := by
 intro a0 a1 a2 a3 k
 unfold api_Inside_with.f
 repeat' first
   | (with_reducible exact api_Inside_58.mono _ _ _ _ _)
   | (with_reducible exact LeO.refl _)
   | (with_reducible exact LeO.none _)
   | (with_reducible refine LeO.ite ?_ ?_)
   | (with_reducible refine LeO.bind ?_ (fun _ => ?_))
   | exact api_Inside_58.mono _ _ _ _ _
   | exact LeO.none _
   | refine LeO.ite ?_ ?_
   | refine LeO.bind ?_ (fun _ => ?_)
def api_Inside_with.T4 : Bool × List (List Nat × List Nat) := (true, [([], []), ([0], [0]), ([1], [1]), ([], []), ([], []), ([4], [4]), ([2, 3, 5, 2], [2, 3, 5]), ([6, 6, 0, 1, 2, 3, 4, 5, 6], [6])])
def api_Inside_with.B4 : List Nat := [0, 1, 3, 0, 0, 16, 63, 127]
theorem api_Inside_with.tab4 : rtab .any (opsOf Try.f33 4) = api_Inside_with.T4 := by kernel_rfl
theorem api_Inside_with.bits4 : waitsOk api_Inside_with.T4.2 api_Inside_with.B4 = true := by kernel_rfl
set_option maxHeartbeats 8000000 in
set_option maxRecDepth 100000 in
theorem api_Inside_with.calls (k : Nat) (A0_0 : Option Addr) (c0_0 : Nat) (l0_0 : List (S62)) (a0_1 : Int) (a1_0 : Int) (a1_1 : Int) (r : List (S62)) (w : World) (hr0_0 : Kd.C k62 w A0_0 l0_0.length l0_0) (hc0_0 : l0_0.length ≤ c0_0) (h : api_Inside_with.f k l0_0 a0_1 a1_0 a1_1 = some r) :
  Calls Try.prog 33 #[.agg #[.slice A0_0 l0_0.length c0_0, .func (.func 57) #[] #[]], .agg #[.int .i64 a1_0, .int .i64 a1_1]] w fun e w' => ∃ v0_ : Value, e = .returned (v0_) ∧ Kd.R k62 62 w' w.heap.size (fun _ => True) v0_ r ∧ Below w.heap.size w w' := by
 have hu74 := Try.underlying74
 have hu62 := Try.underlying62
 have HR0_0 := Aside0.mk hr0_0
 have HC0_0 := Aside0.mk hc0_0
 clear hr0_0 hc0_0
 have HB := Aside0.mk (Below.refl w.heap.size w)
 have H : ((api_Inside_58.f k l0_0 a1_0 a1_1 a0_1).bind fun bt149 => (if bt149.2 = true then ((api_Inside_59.f l0_0).bind fun t151 => (some t151)) else ((api_Inside_59.f l0_0).bind fun t154 => ((some (([(⟨a1_0, a1_1⟩ : S62)] : List (S62)) : List (S62))).bind fun y157 => (if (t154.length + y157.length < 1000000000 ∧ 0 ≤ bt149.1 ∧ bt149.1 ≤ (t154.length : Int)) then (some (t154.take bt149.1.toNat ++ y157 ++ t154.drop bt149.1.toNat)) else (none)))))) = some r := h
 clear h
 replace H := Option.bind_eq_some_iff.mp H
 obtain ⟨⟨t149, t150⟩, A30, H⟩ := H
 replace H : (if t150 = true then ((api_Inside_59.f l0_0).bind fun t151 => (some t151)) else ((api_Inside_59.f l0_0).bind fun t154 => ((some (([(⟨a1_0, a1_1⟩ : S62)] : List (S62)) : List (S62))).bind fun y157 => (if (t154.length + y157.length < 1000000000 ∧ 0 ≤ t149 ∧ t149 ≤ (t154.length : Int)) then (some (t154.take t149.toNat ++ y157 ++ t154.drop t149.toNat)) else (none))))) = some r := H
 have A3 := Aside0.mk A30
 clear A30
 by_cases c4 : t150 = true
 ·subst c4
  have H1 : ((api_Inside_59.f l0_0).bind fun t151 => (some t151)) = some r := by rw [if_pos rfl] at H; exact H
  clear H
  have H := H1
  clear H1
  replace H := Option.bind_eq_some_iff.mp H
  obtain ⟨t151, A50, H⟩ := H
  replace H : (some t151) = some r := H
  have A5 := Aside0.mk A50
  clear A50
  obtain rfl := Option.some.inj H
  go_enter Try.func33, Try.ntmps33
  go_wp2_with (first | ((with_reducible refine gate_dst (N := 2) rfl ?_); refine box_event ?hg (N := 2) ?hd (cs := #[.slice A0_0 l0_0.length c0_0, .func (.func 57) #[] #[]]) (t := 74) ?hr ?_; (case hd => rfl); (case hg => rfl); (case hr => go_simp <;> rfl); intro gb147 hg w6 hbox hb; have BK147 := Aside0.mk hbox; have GW147 := sGe hg; have GE147 := sGe hg; replace HB := sHb hb; clear hb hbox hg) | ((with_reducible refine gate_dst (N := 3) rfl ?_); refine box_event ?hg (N := 3) ?hd (cs := #[.int .i64 a1_0, .int .i64 a1_1]) (t := 62) ?hr ?_; (case hd => rfl); (case hg => rfl); (case hr => go_simp <;> rfl); intro gb148 hg w7 hbox hb; have BK148 := Aside0.mk hbox; have GW148 := sGe hg; have GE148 := sGe hg; have NB147_148 := sNl BK147 hg; have NB148_147 := sNg BK147 hg; replace BK147 := sBk BK147 hb; replace HB := sHb hb; clear hb hbox hg; have hnb8 := NB147_148.out; have hnc8 := NB148_147.out; have hcz9_0 : w7.cell? ⟨gb147, 0, none⟩ = some (.slice A0_0 l0_0.length c0_0) := (blk_cell BK147.out 0).trans rfl; have hcz9_1 : w7.cell? ⟨gb147, 1, none⟩ = some (.func (.func 57) #[] #[]) := (blk_cell BK147.out 1).trans rfl; have hfz9_0 := blk_frozen BK147.out 0; have hfz9_1 := blk_frozen BK147.out 1; have hcz10_0 : w7.cell? ⟨gb148, 0, none⟩ = some (.int .i64 a1_0) := (blk_cell BK148.out 0).trans rfl; have hcz10_1 : w7.cell? ⟨gb148, 1, none⟩ = some (.int .i64 a1_1) := (blk_cell BK148.out 1).trans rfl; have hfz10_0 := blk_frozen BK148.out 0; have hfz10_1 := blk_frozen BK148.out 1) | ((with_reducible refine gate_callee (f := 58) rfl ?_); refine goesL_ (some 13) rfl rfl Try.func58 (by kernel_rfl) rfl #[.slice A0_0 l0_0.length c0_0, .agg #[.int .i64 a1_0, .int .i64 a1_1], .func (.func 57) #[] #[]] rfl (by simp only [List.map_toArray, List.map_cons, List.map_nil] <;> rfl) ?_; (with_reducible refine (api_Inside_58.calls k _ _ l0_0 a1_0 a1_1 a0_1 t149 true _ ?side1 ?side2 A3.out).mono ?_); (case side1 => exact (Kd.C_below HR0_0.out HB.out)); (case side2 => exact HC0_0.out); rintro e w11 ⟨rfl, hb⟩; refine ⟨_, rfl, ?_⟩; replace BK147 := sBk BK147 hb; replace BK148 := sBk BK148 hb; replace HB := sHb hb; (try clear hb); (try clear hb2); (try clear hk); (try clear hi); have hcz12_0 : w11.cell? ⟨gb147, 0, none⟩ = some (.slice A0_0 l0_0.length c0_0) := (blk_cell BK147.out 0).trans rfl; have hcz12_1 : w11.cell? ⟨gb147, 1, none⟩ = some (.func (.func 57) #[] #[]) := (blk_cell BK147.out 1).trans rfl; have hfz12_0 := blk_frozen BK147.out 0; have hfz12_1 := blk_frozen BK147.out 1) | ((with_reducible refine gate_callee (f := 59) rfl ?_); refine goesL_ (some 19) rfl rfl Try.func59 (by kernel_rfl) rfl #[.slice A0_0 l0_0.length c0_0] rfl (by simp only [List.map_toArray, List.map_cons, List.map_nil] <;> rfl) ?_; (with_reducible refine (api_Inside_59.calls _ _ l0_0 t151 _ ?side1 ?side2 A5.out).mono ?_); (case side1 => exact (Kd.C_below HR0_0.out HB.out)); (case side2 => exact HC0_0.out); rintro e w13 ⟨v152, rfl, ho0, hb⟩; refine ⟨_, rfl, ?_⟩; have HO153 := Aside0.mk (Kd.R_lower (Kd.R_newB ho0 (g := gb148) (o := .cells #[.int .i64 a1_0, .int .i64 a1_1] 62 (0, 0)) BK148.out) (below_size HB.out)); replace BK147 := sBk BK147 hb; replace BK148 := sBk BK148 hb; replace HB := sHb hb; (try clear hb); (try clear hb2); (try clear hk); (try clear hi); (try clear ho0)))
  go_ret
  exact ⟨_, rfl, by (with_reducible repeat (first | apply Kd.R_alloc | apply Kd.R_drewN | apply Kd.R_drew)); exact Kd.R_mono HO153.out (fun _ hk => trivial), HB.out⟩
 ·replace c4 := Bool.eq_false_iff.mpr c4
  subst c4
  have H1 : ((api_Inside_59.f l0_0).bind fun t154 => ((some (([(⟨a1_0, a1_1⟩ : S62)] : List (S62)) : List (S62))).bind fun y157 => (if (t154.length + y157.length < 1000000000 ∧ 0 ≤ t149 ∧ t149 ≤ (t154.length : Int)) then (some (t154.take t149.toNat ++ y157 ++ t154.drop t149.toNat)) else (none)))) = some r := by rw [if_neg (show ¬ (false = true) by decide)] at H; exact H
  clear H
  have H := H1
  clear H1
  replace H := Option.bind_eq_some_iff.mp H
  obtain ⟨t154, A140, H⟩ := H
  replace H : ((some (([(⟨a1_0, a1_1⟩ : S62)] : List (S62)) : List (S62))).bind fun y157 => (if (t154.length + y157.length < 1000000000 ∧ 0 ≤ t149 ∧ t149 ≤ (t154.length : Int)) then (some (t154.take t149.toNat ++ y157 ++ t154.drop t149.toNat)) else (none))) = some r := H
  have A14 := Aside0.mk A140
  clear A140
  obtain ⟨y157, hy157⟩ : ∃ y_ : List (S62), y_ = (([(⟨a1_0, a1_1⟩ : S62)] : List (S62))) := ⟨_, rfl⟩
  replace H : (if (t154.length + y157.length < 1000000000 ∧ 0 ≤ t149 ∧ t149 ≤ (t154.length : Int)) then (some (t154.take t149.toNat ++ y157 ++ t154.drop t149.toNat)) else (none)) = some r := by first | (rw [hy157]; with_reducible exact H) | (have H2_ := (Option.bind_some _ _).symm.trans H; rw [hy157]; with_reducible exact H2_) | (have H2_ := (Option.bind_some _ _).symm.trans H; with_reducible exact H2_) | with_reducible exact H | (rw [hy157]; exact H) | exact H
  have Ny157 := Aside0.mk hy157
  clear hy157
  by_cases c15 : (t154.length + y157.length < 1000000000 ∧ 0 ≤ t149 ∧ t149 ≤ (t154.length : Int))
  ·rw [if_pos c15] at H
   have LMc15 := Aside0.mk c15
   clear c15
   obtain ⟨y160, hy160⟩ : ∃ y_ : List (S62), y_ = (t154.take t149.toNat ++ y157 ++ t154.drop t149.toNat) := ⟨_, rfl⟩
   replace H : (some y160) = some r := by first | (rw [hy160]; with_reducible exact H) | (have H2_ := (Option.bind_some _ _).symm.trans H; rw [hy160]; with_reducible exact H2_) | (have H2_ := (Option.bind_some _ _).symm.trans H; with_reducible exact H2_) | with_reducible exact H | (rw [hy160]; exact H) | exact H
   have Ny160 := Aside0.mk hy160
   clear hy160
   obtain rfl := Option.some.inj H
   go_enter Try.func33, Try.ntmps33
   try go_wp2_with (first | ((with_reducible refine gate_dst (N := 2) rfl ?_); refine box_event ?hg (N := 2) ?hd (cs := #[.slice A0_0 l0_0.length c0_0, .func (.func 57) #[] #[]]) (t := 74) ?hr ?_; (case hd => rfl); (case hg => rfl); (case hr => go_simp <;> rfl); intro gb147 hg w16 hbox hb; have BK147 := Aside0.mk hbox; have GW147 := sGe hg; have GE147 := sGe hg; replace HB := sHb hb; clear hb hbox hg) | ((with_reducible refine gate_dst (N := 3) rfl ?_); refine box_event ?hg (N := 3) ?hd (cs := #[.int .i64 a1_0, .int .i64 a1_1]) (t := 62) ?hr ?_; (case hd => rfl); (case hg => rfl); (case hr => go_simp <;> rfl); intro gb148 hg w17 hbox hb; have BK148 := Aside0.mk hbox; have GW148 := sGe hg; have GE148 := sGe hg; have NB147_148 := sNl BK147 hg; have NB148_147 := sNg BK147 hg; replace BK147 := sBk BK147 hb; replace HB := sHb hb; clear hb hbox hg; have hnb18 := NB147_148.out; have hnc18 := NB148_147.out; have hcz19_0 : w17.cell? ⟨gb147, 0, none⟩ = some (.slice A0_0 l0_0.length c0_0) := (blk_cell BK147.out 0).trans rfl; have hcz19_1 : w17.cell? ⟨gb147, 1, none⟩ = some (.func (.func 57) #[] #[]) := (blk_cell BK147.out 1).trans rfl; have hfz19_0 := blk_frozen BK147.out 0; have hfz19_1 := blk_frozen BK147.out 1; have hcz20_0 : w17.cell? ⟨gb148, 0, none⟩ = some (.int .i64 a1_0) := (blk_cell BK148.out 0).trans rfl; have hcz20_1 : w17.cell? ⟨gb148, 1, none⟩ = some (.int .i64 a1_1) := (blk_cell BK148.out 1).trans rfl; have hfz20_0 := blk_frozen BK148.out 0; have hfz20_1 := blk_frozen BK148.out 1) | ((with_reducible refine gate_callee (f := 58) rfl ?_); refine goesL_ (some 13) rfl rfl Try.func58 (by kernel_rfl) rfl #[.slice A0_0 l0_0.length c0_0, .agg #[.int .i64 a1_0, .int .i64 a1_1], .func (.func 57) #[] #[]] rfl (by simp only [List.map_toArray, List.map_cons, List.map_nil] <;> rfl) ?_; (with_reducible refine (api_Inside_58.calls k _ _ l0_0 a1_0 a1_1 a0_1 t149 false _ ?side1 ?side2 A3.out).mono ?_); (case side1 => exact (Kd.C_below HR0_0.out HB.out)); (case side2 => exact HC0_0.out); rintro e w21 ⟨rfl, hb⟩; refine ⟨_, rfl, ?_⟩; replace BK147 := sBk BK147 hb; replace BK148 := sBk BK148 hb; replace HB := sHb hb; (try clear hb); (try clear hb2); (try clear hk); (try clear hi)))
   replace BK147 := Aside0.mk (blk_drew BK147.out)
   replace BK148 := Aside0.mk (blk_drew BK148.out)
   replace HB := Aside0.mk (below_drew1 HB.out)
   refine start_ (n := 8) (S := fun w' => w'.cell? ⟨gb147, 0, none⟩ = some (.slice A0_0 l0_0.length c0_0) ∧ w'.cell? ⟨gb147, 1, none⟩ = some (.func (.func 57) #[] #[]) ∧ w'.cell? ⟨gb148, 0, none⟩ = some (.int .i64 a1_0) ∧ w'.cell? ⟨gb148, 1, none⟩ = some (.int .i64 a1_1)) (ds := []) #[false, false, false, false, false, false, false, false] (by kernel_rfl) rfl rfl ⟨(blk_cell BK147.out 0).trans rfl, (blk_cell BK147.out 1).trans rfl, (blk_cell BK148.out 0).trans rfl, (blk_cell BK148.out 1).trans rfl⟩ (fun hHeld => ?_); refine with_tabW api_Inside_with.tab4 api_Inside_with.bits4 (fun HT_ HW_ => ?_)
   generalize w21.drew = w22 at BK147 BK148 HB hHeld ⊢
   refine pure_ (i := 0) (N := some 20) (v := ?_) (a' := ?_) (bN 8 1) rfl rfl (any_of HT_.out (by kernel_rfl)) (fun _ _ _ h => h) (Or.inl ⟨by rfl, ?_⟩) ?_ ?_
   rotate_left
   ·intro w'
    go_simp
    with_reducible rfl
   rotate_left
   ·simp only [Act.put, List.setIfInBounds_toArray, List.set_cons_zero, List.set_cons_succ, i64_w, i32_w]
    rfl
   refine pure_ (i := 3) (N := some 23) (v := ?_) (a' := ?_) (bN 8 9) rfl rfl (any_of HT_.out (by kernel_rfl)) (fun _ _ _ h => h) (Or.inl ⟨by rfl, ?_⟩) ?_ ?_
   rotate_left
   ·intro w'
    go_simp
    with_reducible rfl
   rotate_left
   ·simp only [Act.put, List.setIfInBounds_toArray, List.set_cons_zero, List.set_cons_succ, i64_w, i32_w]
    rfl
   refine take_ (i := 1) (N := some 21) (v := ?_) (a' := ?_) (bN 8 11) rfl rfl (take_ofW HT_.out HW_.out (by kernel_rfl)) (fun _ _ _ h => h) (Or.inl ⟨by rfl, ?_⟩) hHeld ?_ ?_
   rotate_left
   ·rintro w' ⟨s0, s1, s2, s3⟩
    go_simp
    with_reducible rfl
   rotate_left
   ·simp only [Act.put, List.setIfInBounds_toArray, List.set_cons_zero, List.set_cons_succ, i64_w, i32_w]
    rfl
   refine take_ (i := 4) (N := some 24) (v := ?_) (a' := ?_) (bN 8 27) rfl rfl (take_ofW HT_.out HW_.out (by kernel_rfl)) (fun _ _ _ h => h) (Or.inl ⟨by rfl, ?_⟩) hHeld ?_ ?_
   rotate_left
   ·rintro w' ⟨s0, s1, s2, s3⟩
    go_simp
    with_reducible rfl
   rotate_left
   ·simp only [Act.put, List.setIfInBounds_toArray, List.set_cons_zero, List.set_cons_succ, i64_w, i32_w]
    rfl
   refine join_ (σ := Value × Value) 2 (bN 8 63) (fun s_ => [(22, s_.1), (25, s_.2)]) (fun s_ w' => (w'.cell? ⟨gb147, 0, none⟩ = some (.slice A0_0 l0_0.length c0_0) ∧ w'.cell? ⟨gb147, 1, none⟩ = some (.func (.func 57) #[] #[]) ∧ w'.cell? ⟨gb148, 0, none⟩ = some (.int .i64 a1_0) ∧ w'.cell? ⟨gb148, 1, none⟩ = some (.int .i64 a1_1)) ∧ (Kd.R k62 62 w' w.heap.size (fun k_ => some k_ ≠ (s_.2 : Value).ownBlock ∧ k_ ≠ gb148) s_.1 t154) ∧ (Kd.R k62 62 w' w.heap.size (fun k_ => some k_ ≠ (s_.1 : Value).ownBlock ∧ k_ ≠ gb148) s_.2 y157) ∧ (w'.heap[gb147]? = some (.cells #[.slice A0_0 l0_0.length c0_0, .func (.func 57) #[] #[]] 74 (0, 0))) ∧ (w'.heap[gb148]? = some (.cells #[.int .i64 a1_0, .int .i64 a1_1] 62 (0, 0))) ∧ (Below w.heap.size w w')) ?_ ?_
   rotate_left
   ·intro hCont
    refine two_ (i := 2) (j := 5) (Ni := some 22) (Nj := some 25) (bN 8 31) (bN 8 59) rfl rfl rfl rfl (two_of HT_.out (by kernel_rfl)) (by decide) (by decide) (fun K hK => ?_) (fun K hK => ?_)
    ·skip
     refine goes_ Try.func59 (by kernel_rfl) rfl #[.slice A0_0 l0_0.length c0_0] (by rfl) rfl rfl (by simp only [List.map_toArray, List.map_cons, List.map_nil] <;> rfl) ?_
     with_reducible refine (api_Inside_59.calls _ _ l0_0 t154 _ ?side1 ?side2 A14.out).mono ?_
     (case side1 => exact (Kd.C_below HR0_0.out HB.out))
     (case side2 => exact HC0_0.out)
     rintro e w23 ⟨v155, rfl, ho0, hb⟩
     refine ⟨_, rfl, ?_⟩
     have HO156 := Aside0.mk (Kd.R_lower (Kd.R_newB ho0 (g := gb148) (o := .cells #[.int .i64 a1_0, .int .i64 a1_1] 62 (0, 0)) BK148.out) (below_size HB.out))
     replace BK147 := sBk BK147 hb
     replace BK148 := sBk BK148 hb
     replace HB := sHb hb
     (try clear hb)
     (try clear hb2)
     (try clear hk)
     (try clear hi)
     (try clear ho0)
     refine hK.out _ _ ⟨(blk_cell BK147.out 0).trans rfl, (blk_cell BK147.out 1).trans rfl, (blk_cell BK148.out 0).trans rfl, (blk_cell BK148.out 1).trans rfl⟩ (fun hHeld => ?_)
     clear hK K
     refine norm_ (a' := ?_) ?_ ?_
     rotate_left
     ·show Act.put _ (some 22) _ = _
      simp only [Act.put, List.setIfInBounds_toArray, List.set_cons_zero, List.set_cons_succ, i64_w, i32_w]
      rfl
     refine one_ (i := 5) (N := some 25) (bN 8 63) rfl rfl (one_of HT_.out (by kernel_rfl)) (by decide) (fun K hK => ?_)
     refine Kd.R_lit_step k62 _ 62 ?hg (N := 25) ?hd (xs := ([(⟨a1_0, a1_1⟩ : S62)] : List (S62))) (inner := [.int .i64 a1_0, .int .i64 a1_1]) (ok := fun _ => True) (okp := fun _ => True) ?hr ?hp (fun _ hk => hk) trivial (Below.refl _ _) (Nat.le_refl _) (by simp) ?_; (case hd => rfl); (case hg => rfl); (case hr => go_simp <;> rfl); (case hp => exact (Reps.c2 (show Kd.M k62 _ _ _ (⟨a1_0, a1_1⟩ : S62) [.int .i64 a1_0, .int .i64 a1_1] from (k62_mkM _ _ _ (⟨a1_0, a1_1⟩ : S62) )) (Reps.none _ _)))
     intro v158 w24 ho25 hb hg_ hnew_
     clear hg_ hnew_
     (first | rw [← Ny157.out] at ho25 | (simp only [Int.reduceToNat] at ho25; rw [← Ny157.out] at ho25))
     have HO159 := Aside0.mk (Kd.R_lower (Kd.R_newB (Kd.R_new' ho25 (Kd.R_lt HO156.out)) (g := gb148) (o := .cells #[.int .i64 a1_0, .int .i64 a1_1] 62 (0, 0)) BK148.out) (below_size HB.out))
     replace HO156 := Aside0.mk (Kd.R_elder' HO156.out (Kd.R_base ho25) hb)
     replace BK147 := sBk BK147 hb
     replace BK148 := sBk BK148 hb
     replace HB := sHb hb
     clear hb ho25
     refine hK.out _ _ ⟨(blk_cell BK147.out 0).trans rfl, (blk_cell BK147.out 1).trans rfl, (blk_cell BK148.out 0).trans rfl, (blk_cell BK148.out 1).trans rfl⟩ (fun hHeld => ?_)
     clear hK K
     refine norm_ (a' := ?_) ?_ ?_
     rotate_left
     ·show Act.put _ (some 25) _ = _
      simp only [Act.put, List.setIfInBounds_toArray, List.set_cons_zero, List.set_cons_succ, i64_w, i32_w]
      rfl
     exact norm_ (by simp only [putAll, Act.put, List.setIfInBounds_toArray, List.set_cons_zero, List.set_cons_succ]) (hCont (v155, v158) _ ⟨hHeld, (by (with_reducible repeat (first | apply Kd.R_alloc | apply Kd.R_drewN | apply Kd.R_drew)); exact Kd.R_mono HO156.out (fun _ hk => ⟨hk.2, hk.1.2⟩)), (by (with_reducible repeat (first | apply Kd.R_alloc | apply Kd.R_drewN | apply Kd.R_drew)); exact Kd.R_mono HO159.out (fun _ hk => ⟨hk.1.2, hk.2⟩)), BK147.out, BK148.out, HB.out⟩)
    ·skip
     refine Kd.R_lit_step k62 _ 62 ?hg (N := 25) ?hd (xs := ([(⟨a1_0, a1_1⟩ : S62)] : List (S62))) (inner := [.int .i64 a1_0, .int .i64 a1_1]) (ok := fun _ => True) (okp := fun _ => True) ?hr ?hp (fun _ hk => hk) trivial (Below.refl _ _) (Nat.le_refl _) (by simp) ?_; (case hd => rfl); (case hg => rfl); (case hr => go_simp <;> rfl); (case hp => exact (Reps.c2 (show Kd.M k62 _ _ _ (⟨a1_0, a1_1⟩ : S62) [.int .i64 a1_0, .int .i64 a1_1] from (k62_mkM _ _ _ (⟨a1_0, a1_1⟩ : S62) )) (Reps.none _ _)))
     intro v158 w23 ho24 hb hg_ hnew_
     clear hg_ hnew_
     (first | rw [← Ny157.out] at ho24 | (simp only [Int.reduceToNat] at ho24; rw [← Ny157.out] at ho24))
     have HO159 := Aside0.mk (Kd.R_lower (Kd.R_newB ho24 (g := gb148) (o := .cells #[.int .i64 a1_0, .int .i64 a1_1] 62 (0, 0)) BK148.out) (below_size HB.out))
     replace BK147 := sBk BK147 hb
     replace BK148 := sBk BK148 hb
     replace HB := sHb hb
     clear hb ho24
     refine hK.out _ _ ⟨(blk_cell BK147.out 0).trans rfl, (blk_cell BK147.out 1).trans rfl, (blk_cell BK148.out 0).trans rfl, (blk_cell BK148.out 1).trans rfl⟩ (fun hHeld => ?_)
     clear hK K
     refine norm_ (a' := ?_) ?_ ?_
     rotate_left
     ·show Act.put _ (some 25) _ = _
      simp only [Act.put, List.setIfInBounds_toArray, List.set_cons_zero, List.set_cons_succ, i64_w, i32_w]
      rfl
     refine one_ (i := 2) (N := some 22) (bN 8 63) rfl rfl (one_of HT_.out (by kernel_rfl)) (by decide) (fun K hK => ?_)
     refine goes_ Try.func59 (by kernel_rfl) rfl #[.slice A0_0 l0_0.length c0_0] (by rfl) rfl rfl (by simp only [List.map_toArray, List.map_cons, List.map_nil] <;> rfl) ?_
     with_reducible refine (api_Inside_59.calls _ _ l0_0 t154 _ ?side1 ?side2 A14.out).mono ?_
     (case side1 => exact (Kd.C_below HR0_0.out HB.out))
     (case side2 => exact HC0_0.out)
     rintro e w25 ⟨v155, rfl, ho0, hb⟩
     refine ⟨_, rfl, ?_⟩
     have HO156 := Aside0.mk (Kd.R_lower (Kd.R_newB (Kd.R_new' ho0 (Kd.R_lt HO159.out)) (g := gb148) (o := .cells #[.int .i64 a1_0, .int .i64 a1_1] 62 (0, 0)) BK148.out) (below_size HB.out))
     replace HO159 := Aside0.mk (Kd.R_elder' HO159.out (Kd.R_base ho0) hb)
     replace BK147 := sBk BK147 hb
     replace BK148 := sBk BK148 hb
     replace HB := sHb hb
     (try clear hb)
     (try clear hb2)
     (try clear hk)
     (try clear hi)
     (try clear ho0)
     refine hK.out _ _ ⟨(blk_cell BK147.out 0).trans rfl, (blk_cell BK147.out 1).trans rfl, (blk_cell BK148.out 0).trans rfl, (blk_cell BK148.out 1).trans rfl⟩ (fun hHeld => ?_)
     clear hK K
     refine norm_ (a' := ?_) ?_ ?_
     rotate_left
     ·show Act.put _ (some 22) _ = _
      simp only [Act.put, List.setIfInBounds_toArray, List.set_cons_zero, List.set_cons_succ, i64_w, i32_w]
      rfl
     exact norm_ (by simp only [putAll, Act.put, List.setIfInBounds_toArray, List.set_cons_zero, List.set_cons_succ]) (hCont (v155, v158) _ ⟨hHeld, (by (with_reducible repeat (first | apply Kd.R_alloc | apply Kd.R_drewN | apply Kd.R_drew)); exact Kd.R_mono HO156.out (fun _ hk => ⟨hk.1.2, hk.2⟩)), (by (with_reducible repeat (first | apply Kd.R_alloc | apply Kd.R_drewN | apply Kd.R_drew)); exact Kd.R_mono HO159.out (fun _ hk => ⟨hk.2, hk.1.2⟩)), BK147.out, BK148.out, HB.out⟩)
   rintro ⟨v155, v158⟩ w26 ⟨hS_, h0_, h1_, h2_, h3_, h4_⟩
   have n0_ : Aside0 (Kd.R k62 62 w26 w.heap.size (fun k_ => some k_ ≠ (v158 : Value).ownBlock ∧ k_ ≠ gb148) v155 t154) := ⟨h0_⟩
   have n1_ : Aside0 (Kd.R k62 62 w26 w.heap.size (fun k_ => some k_ ≠ (v155 : Value).ownBlock ∧ k_ ≠ gb148) v158 y157) := ⟨h1_⟩
   have n2_ : Aside0 (w26.heap[gb147]? = some (.cells #[.slice A0_0 l0_0.length c0_0, .func (.func 57) #[] #[]] 74 (0, 0))) := ⟨h2_⟩
   have n3_ : Aside0 (w26.heap[gb148]? = some (.cells #[.int .i64 a1_0, .int .i64 a1_1] 62 (0, 0))) := ⟨h3_⟩
   have n4_ : Aside0 (Below w.heap.size w w26) := ⟨h4_⟩
   clear BK147
   clear BK148
   clear HB
   clear h0_ h1_ h2_ h3_ h4_
   have HO156 := n0_
   have HO159 := n1_
   have BK147 := n2_
   have BK148 := n3_
   have HB := n4_
   clear n0_ n1_ n2_ n3_ n4_
   have hHeld : w26.cell? ⟨gb147, 0, none⟩ = some (.slice A0_0 l0_0.length c0_0) ∧ w26.cell? ⟨gb147, 1, none⟩ = some (.func (.func 57) #[] #[]) ∧ w26.cell? ⟨gb148, 0, none⟩ = some (.int .i64 a1_0) ∧ w26.cell? ⟨gb148, 1, none⟩ = some (.int .i64 a1_1) := hS_
   obtain ⟨Ao28, co28, eo28⟩ := Kd.R_slice HO159.out
   (first | subst eo28 | (injection eo28 with f1_ f2_ f3_; have f4_ := f1_.symm; have f5_ := f3_.symm; clear f1_ f2_ f3_; subst f4_; subst f5_))
   refine norm_ (a' := ?_) ?_ ?_
   rotate_left
   ·simp only [putAll, Act.put, List.setIfInBounds_toArray, List.set_cons_zero, List.set_cons_succ]
    rfl
   refine one_ (i := 6) (N := some 26) (bN 8 127) rfl rfl (one_of HT_.out (by kernel_rfl)) (by decide) (fun K hK => ?_)
   refine goes_ Try.func60 (by kernel_rfl) rfl #[v155, .int .i64 t149, .slice Ao28 y157.length co28] (by rfl) rfl rfl (by simp only [List.map_toArray, List.map_cons, List.map_nil] <;> rfl) ?_
   refine (insI_R _ w.heap.size (fun k_ => some k_ ≠ (.slice Ao28 y157.length co28 : Value).ownBlock ∧ k_ ≠ gb148) _ v155 t154 y157 _ t149 Ao28 co28 Ny157.out ?aS ?aF ?aO HO159.out ?aN (by have h_ := LMc15.out; omega) (by have h_ := LMc15.out; omega) (by have h_ := LMc15.out; omega)).mono ?_
   (case aS => exact (below_size HB.out))
   (case aF => exact (fun k_ hk => ⟨Kd.fresh' (Kd.R_lt HO159.out) k_ hk, Kd.freshB (g := gb148) (o := .cells #[.int .i64 a1_0, .int .i64 a1_1] 62 (0, 0)) BK148.out k_ hk⟩))
   (case aO => exact HO156.out)
   (case aN => exact fun k_ hk => hk.1)
   rintro e w27 ⟨v161, rfl, ho, hb2_, hg, hat⟩
   refine ⟨_, rfl, ?_⟩
   have hb := HB.out.trans hb2_
   rw [← Ny160.out] at ho
   have HO162 := Aside0.mk ho
   replace BK147 := Aside0.mk (blk_grown (g := gb147) (o := .cells #[.slice A0_0 l0_0.length c0_0, .func (.func 57) #[] #[]] 74 (0, 0)) BK147.out hg (Kd.R_ne HO156.out BK147.out (by decide)))
   replace BK148 := Aside0.mk (blk_grown (g := gb148) (o := .cells #[.int .i64 a1_0, .int .i64 a1_1] 62 (0, 0)) BK148.out hg (Kd.R_away HO156.out (fun _ hk => hk.2)))
   replace HO159 := Aside0.mk (Kd.R_after (ok := (fun k_ => k_ ≠ gb148)) (by (with_reducible repeat (first | apply Kd.R_alloc | apply Kd.R_drewN | apply Kd.R_drew)); exact Kd.R_mono HO159.out (fun _ hk => ⟨hk.2, hk.1⟩)) hg hat)
   replace HB := Aside0.mk hb
   clear HO156
   clear ho hb hg hat
   refine hK.out _ _ ⟨(blk_cell BK147.out 0).trans rfl, (blk_cell BK147.out 1).trans rfl, (blk_cell BK148.out 0).trans rfl, (blk_cell BK148.out 1).trans rfl⟩ (fun hHeld => ?_)
   clear hK K
   refine norm_ (a' := ?_) ?_ ?_
   rotate_left
   ·show Act.put _ (some 26) _ = _
    simp only [Act.put, List.setIfInBounds_toArray, List.set_cons_zero, List.set_cons_succ, i64_w, i32_w]
    rfl
   refine pure_ (i := 7) (N := some 4) (v := ?_) (a' := ?_) (bN 8 255) rfl rfl (any_of HT_.out (by kernel_rfl)) (fun _ _ _ h => h) (Or.inl ⟨by rfl, ?_⟩) ?_ ?_
   rotate_left
   ·intro w'
    go_simp
    with_reducible rfl
   rotate_left
   ·simp only [Act.put, List.setIfInBounds_toArray, List.set_cons_zero, List.set_cons_succ, i64_w, i32_w]
    rfl
   refine done_ (done_of HT_.out (by kernel_rfl)) ?_
   try go_wp2
   go_ret
   exact ⟨_, rfl, by (with_reducible repeat (first | apply Kd.R_alloc | apply Kd.R_drewN | apply Kd.R_drew)); exact Kd.R_mono HO162.out (fun _ hk => trivial), HB.out⟩
  ·rw [if_neg c15] at H
   exact absurd H (by simp)
end Go.Proofs.Ytjehhhlhalkieaa.C
namespace Go.Proofs.Ytjehhhlhalkieaa.C
open Go.RowKit Go.Proofs.YtjehhhlhalkieaaW.PrintWords Go.Proofs.YtjehhhlhalkieaaW.PrintLast Go.Proofs.YtjehhhlhalkieaaW.PrintMore
set_option linter.unusedVariables false
theorem filter_split {α : Type} (q : α → Bool) (l : List α) (p : Nat) (h1 : ∀ y ∈ l.take p, q y = true) (h2 : ∀ y ∈ l.drop p, q y = false) : l.filter q = l.take p ∧ l.filter (fun y => !q y) = l.drop p := by
  have e := List.take_append_drop p l
  constructor
  · conv => lhs; rw [← e]
    rw [List.filter_append, List.filter_eq_self.2 h1, List.filter_eq_nil_iff.2 (fun y hy => by rw [h2 y hy]; decide), List.append_nil]
  · conv => lhs; rw [← e]
    rw [List.filter_append, List.filter_eq_nil_iff.2 (fun y hy => by rw [h1 y hy]; decide), List.filter_eq_self.2 (fun y hy => by rw [h2 y hy]; rfl), List.nil_append]
def withH (x : S56) (l : List S56) : List S56 := if l.any (fun y => cmp2 y.f0 y.f1 x.f0 x.f1 == 0) then l else l.filter (fun y => decide (cmp2 y.f0 y.f1 x.f0 x.f1 < 0)) ++ [x] ++ l.filter (fun y => !decide (cmp2 y.f0 y.f1 x.f0 x.f1 < 0))
def withP_H.f (x0 x1 x2 : Int) (l : List S56) : Option (List S56) := if small (l.length + 2) x1 = true ∧ Call.rightS (fun _ => true) Call.ltH none l = true then some (withH ⟨x0, x1, x2⟩ l) else none
set_option maxHeartbeats 1000000 in
theorem withP_H_calls (A0 : Option Addr) (c : Nat) (l : List S56) (x0 x1 x2 : Int) (t : List S56) (W : World) (hr : Kd.C k56 W A0 l.length l) (hc : l.length ≤ c) (h : withP_H.f x0 x1 x2 l = some t) :
    Calls Try.prog 35 #[.agg #[.slice A0 l.length c, .func (.func 51) #[] #[]], .agg #[.int .i64 x0, .int .i64 x1, .int .i64 x2]] W fun e w' => ∃ v0_ : Value, e = .returned v0_ ∧ Kd.R k56 56 w' W.heap.size (fun _ => True) v0_ t ∧ Below W.heap.size W w' := by
  unfold withP_H.f at h
  split at h
  case isFalse => cases h
  case isTrue hs =>
  cases h
  obtain ⟨hl, hb⟩ := of_decide_eq_true hs.1
  have hso := ((Call.rightH_none (fun _ => true) l).1 hs.2).2
  refine api_Hall_with.calls (l.length + 2) A0 c l 0 x0 x1 x2 _ W hr hc ?_
  unfold api_Hall_with.f api_Hall_55.f
  have hl' : l.length < 1000000000 := by omega
  obtain ⟨p, hp, e⟩ := Call.searchH_eq l x0 x1 x2 0 (by omega) hso (l.length + 2) (by omega)
  obtain ⟨h1, h2, h3⟩ := hp
  rw [e]
  simp only [Option.bind_some, if_pos hl', Int.toNat_natCast]
  have hany : l.any (fun y => cmp2 y.f0 y.f1 x0 x1 == 0) = Call.fndH l x0 x1 p := by
    unfold Call.fndH
    rcases Nat.lt_or_ge p l.length with hlt | hge
    · rw [List.getElem?_eq_getElem hlt]
      simp only
      obtain ⟨b, hb⟩ : ∃ b, (cmp2 l[p].f0 l[p].f1 x0 x1 == 0) = b := ⟨_, rfl⟩
      rw [hb]
      cases b
      · rw [List.any_eq_false]
        intro y hy hq
        obtain ⟨m, hm, rfl⟩ := List.mem_iff_getElem.1 hy
        have hq0 : cmp2 l[m].f0 l[m].f1 x0 x1 = 0 := by simpa using hq
        rw [Call.cmp2_eq] at hq0
        rcases Nat.lt_trichotomy m p with hlt2 | he | hgt
        · have := h2 l[m] (List.mem_iff_getElem.2 ⟨m, by rw [List.length_take]; omega, by rw [List.getElem_take]⟩)
          rw [Call.cmp2_lt] at this
          omega
        · subst he
          rw [← Call.cmp2_eq] at hq0
          rw [hq0] at hb
          cases hb
        · have h4 := h3 l[p] (List.mem_iff_getElem.2 ⟨0, by rw [List.length_drop]; omega, by rw [List.getElem_drop]; rfl⟩)
          rw [Call.cmp2_lt] at h4
          have h5 := List.pairwise_iff_getElem.1 hso p m hlt hm hgt
          rw [Call.ltH_iff] at h5
          omega
      · exact List.any_eq_true.2 ⟨l[p], List.getElem_mem hlt, hb⟩
    · rw [List.getElem?_eq_none hge]
      simp only
      rw [List.any_eq_false]
      intro y hy hq
      have := h2 y (by rw [List.take_of_length_le hge]; exact hy)
      rw [Call.cmp2_lt] at this
      have hq0 : cmp2 y.f0 y.f1 x0 x1 = 0 := by simpa using hq
      rw [Call.cmp2_eq] at hq0
      omega
  have hsp := filter_split (fun y => decide (cmp2 y.f0 y.f1 x0 x1 < 0)) l p (fun y hy => decide_eq_true (h2 y hy)) (fun y hy => decide_eq_false (h3 y hy))
  obtain ⟨b, hm⟩ : ∃ b, Call.fndH l x0 x1 p = b := ⟨_, rfl⟩
  unfold withH
  rw [hm] at hany ⊢
  simp only [hany, hsp.1, hsp.2]
  cases b
  · simp only [Bool.false_eq_true, if_false]
    rw [if_pos ⟨by simp only [List.length_cons, List.length_nil]; omega, by omega, by omega⟩]
  · simp only [if_true]
def withI (x : S62) (l : List S62) : List S62 := if l.any (fun y => cmp2 y.f0 y.f1 x.f0 x.f1 == 0) then l else l.filter (fun y => decide (cmp2 y.f0 y.f1 x.f0 x.f1 < 0)) ++ [x] ++ l.filter (fun y => !decide (cmp2 y.f0 y.f1 x.f0 x.f1 < 0))
def withP_I.f (x0 x1 : Int) (l : List S62) : Option (List S62) := if small (l.length + 2) x1 = true ∧ Call.rightS (fun _ => true) Call.ltI none l = true then some (withI ⟨x0, x1⟩ l) else none
set_option maxHeartbeats 1000000 in
theorem withP_I_calls (A0 : Option Addr) (c : Nat) (l : List S62) (x0 x1 : Int) (t : List S62) (W : World) (hr : Kd.C k62 W A0 l.length l) (hc : l.length ≤ c) (h : withP_I.f x0 x1 l = some t) :
    Calls Try.prog 33 #[.agg #[.slice A0 l.length c, .func (.func 57) #[] #[]], .agg #[.int .i64 x0, .int .i64 x1]] W fun e w' => ∃ v0_ : Value, e = .returned v0_ ∧ Kd.R k62 62 w' W.heap.size (fun _ => True) v0_ t ∧ Below W.heap.size W w' := by
  unfold withP_I.f at h
  split at h
  case isFalse => cases h
  case isTrue hs =>
  cases h
  obtain ⟨hl, hb⟩ := of_decide_eq_true hs.1
  have hso := ((Call.rightI_none (fun _ => true) l).1 hs.2).2
  refine api_Inside_with.calls (l.length + 2) A0 c l 0 x0 x1 _ W hr hc ?_
  unfold api_Inside_with.f api_Inside_59.f
  have hl' : l.length < 1000000000 := by omega
  obtain ⟨p, hp, e⟩ := Call.searchI_eq l x0 x1 0 (by omega) hso (l.length + 2) (by omega)
  obtain ⟨h1, h2, h3⟩ := hp
  rw [e]
  simp only [Option.bind_some, if_pos hl', Int.toNat_natCast]
  have hany : l.any (fun y => cmp2 y.f0 y.f1 x0 x1 == 0) = Call.fndI l x0 x1 p := by
    unfold Call.fndI
    rcases Nat.lt_or_ge p l.length with hlt | hge
    · rw [List.getElem?_eq_getElem hlt]
      simp only
      obtain ⟨b, hb⟩ : ∃ b, (cmp2 l[p].f0 l[p].f1 x0 x1 == 0) = b := ⟨_, rfl⟩
      rw [hb]
      cases b
      · rw [List.any_eq_false]
        intro y hy hq
        obtain ⟨m, hm, rfl⟩ := List.mem_iff_getElem.1 hy
        have hq0 : cmp2 l[m].f0 l[m].f1 x0 x1 = 0 := by simpa using hq
        rw [Call.cmp2_eq] at hq0
        rcases Nat.lt_trichotomy m p with hlt2 | he | hgt
        · have := h2 l[m] (List.mem_iff_getElem.2 ⟨m, by rw [List.length_take]; omega, by rw [List.getElem_take]⟩)
          rw [Call.cmp2_lt] at this
          omega
        · subst he
          rw [← Call.cmp2_eq] at hq0
          rw [hq0] at hb
          cases hb
        · have h4 := h3 l[p] (List.mem_iff_getElem.2 ⟨0, by rw [List.length_drop]; omega, by rw [List.getElem_drop]; rfl⟩)
          rw [Call.cmp2_lt] at h4
          have h5 := List.pairwise_iff_getElem.1 hso p m hlt hm hgt
          rw [Call.ltI_iff] at h5
          omega
      · exact List.any_eq_true.2 ⟨l[p], List.getElem_mem hlt, hb⟩
    · rw [List.getElem?_eq_none hge]
      simp only
      rw [List.any_eq_false]
      intro y hy hq
      have := h2 y (by rw [List.take_of_length_le hge]; exact hy)
      rw [Call.cmp2_lt] at this
      have hq0 : cmp2 y.f0 y.f1 x0 x1 = 0 := by simpa using hq
      rw [Call.cmp2_eq] at hq0
      omega
  have hsp := filter_split (fun y => decide (cmp2 y.f0 y.f1 x0 x1 < 0)) l p (fun y hy => decide_eq_true (h2 y hy)) (fun y hy => decide_eq_false (h3 y hy))
  obtain ⟨b, hm⟩ : ∃ b, Call.fndI l x0 x1 p = b := ⟨_, rfl⟩
  unfold withI
  rw [hm] at hany ⊢
  simp only [hany, hsp.1, hsp.2]
  cases b
  · simp only [Bool.false_eq_true, if_false]
    rw [if_pos ⟨by simp only [List.length_cons, List.length_nil]; omega, by omega, by omega⟩]
  · simp only [if_true]
end Go.Proofs.Ytjehhhlhalkieaa.C
namespace Go.Proofs.Ytjehhhlhalkieaa.C
open Go.RowKit Go.Proofs.YtjehhhlhalkieaaW.PrintWords Go.Proofs.YtjehhhlhalkieaaW.PrintLast Go.Proofs.YtjehhhlhalkieaaW.PrintMore
attribute [local go_sem] max2_int min2_int max_two min_two max_three min_three max_four min_four
set_option linter.unusedVariables false
set_option linter.unusedSimpArgs false
def call_Press.j0 : Nat → Int → Int → List (S56) → List (S62) → Int → Int → Int → Option ((List (S56)) × (List (S62)) × Int)
 | 0, _, _, _, _, _, _, _ => none
 | k + 1, x139000, x139001, x140000, x140001, x143000, x143001, x143002 => (hallP.f x143000 x143001 x143002 x139000 x139001).bind fun t152 => ((call_change.f (withP_H.f x143000 x143001 x143002 x140000) (woP_I.f (-2) 0 x140001) k x139000 x139001 x140000 x140001 t152 0 x143000 x143001 x143002 0 (-2) 0).bind fun bt153 => (some (bt153.1, bt153.2.1, bt153.2.2)))
def call_Press.f (k : Nat) (a0_0 : Int) (a0_1 : Int) (l1_0 : List (S56)) (l1_1 : List (S62)) (a2_0 : Int) (a2_1 : Int) (a2_2 : Int) : Option ((List (S56)) × (List (S62)) × Int) := if a2_0 = 0 then (call_Press.j0 k a0_0 a0_1 l1_0 l1_1 a2_1 1 (-1)) else (if a2_0 = 1 then (call_Press.j0 k a0_0 a0_1 l1_0 l1_1 a2_1 (-1) (-1)) else (if a2_0 = 2 then ((insP.f a2_2 a2_1 a0_0 a0_1).bind fun t144 => ((call_change.f (woP_H.f (-2) 0 0 l1_0) (withP_I.f a2_2 a2_1 l1_1) k a0_0 a0_1 l1_0 l1_1 t144 0 (-2) 0 0 0 a2_2 a2_1).bind fun bt145 => (some (bt145.1, bt145.2.1, bt145.2.2)))) else (call_Press.j0 k a0_0 a0_1 l1_0 l1_1 a2_1 0 (-1))))
theorem call_Press.mono_l : ∀ k, (∀ y0 y1 y2 y3 y4 y5 y6, LeO (call_Press.j0 k y0 y1 y2 y3 y4 y5 y6) (call_Press.j0 (k + 1) y0 y1 y2 y3 y4 y5 y6))
 | 0 => fun _ _ _ _ _ _ _ r h => by simp [call_Press.j0] at h
 | k + 1 => by
  have ih0 := call_Press.mono_l k
  ·intro y0 y1 y2 y3 y4 y5 y6
   unfold call_Press.j0
   repeat' first
   | (with_reducible exact ih0 _ _ _ _ _ _ _)
   | (with_reducible exact call_change.mono _ _ _ _ _ _ _ _ _ _ _ _ _ _ _)
   | (with_reducible exact LeO.refl _)
   | (with_reducible exact LeO.none _)
   | (with_reducible refine LeO.ite ?_ ?_)
   | (with_reducible refine LeO.bind ?_ (fun _ => ?_))
   | exact ih0 _ _ _ _ _ _ _
   | exact call_change.mono _ _ _ _ _ _ _ _ _ _ _ _ _ _ _
   | exact LeO.none _
   | refine LeO.ite ?_ ?_
   | refine LeO.bind ?_ (fun _ => ?_)
theorem call_Press.mono : ∀ a0 a1 a2 a3 a4 a5 a6 k, LeO (call_Press.f k a0 a1 a2 a3 a4 a5 a6) (call_Press.f (k + 1) a0 a1 a2 a3 a4 a5 a6) := by
 intro a0 a1 a2 a3 a4 a5 a6 k
 have ih0 := call_Press.mono_l k
 unfold call_Press.f
 repeat' first
   | (with_reducible exact ih0 _ _ _ _ _ _ _)
   | (with_reducible exact call_change.mono _ _ _ _ _ _ _ _ _ _ _ _ _ _ _)
   | (with_reducible exact LeO.refl _)
   | (with_reducible exact LeO.none _)
   | (with_reducible refine LeO.ite ?_ ?_)
   | (with_reducible refine LeO.bind ?_ (fun _ => ?_))
   | exact ih0 _ _ _ _ _ _ _
   | exact call_change.mono _ _ _ _ _ _ _ _ _ _ _ _ _ _ _
   | exact LeO.none _
   | refine LeO.ite ?_ ?_
   | refine LeO.bind ?_ (fun _ => ?_)
def call_Press.T9 : Bool × List (List Nat × List Nat) := (true, [([], []), ([], []), ([], []), ([2], [2]), ([], []), ([3, 4, 3], [3, 4]), ([], []), ([6, 5], [6]), ([7], [7]), ([], []), ([], []), ([10, 7], [10]), ([11], [11]), ([], []), ([0, 1, 5, 8, 9, 12, 13, 11], [0, 1, 5, 8, 9, 12, 13]), ([14], [14]), ([14], [14]), ([15, 14, 0, 1, 2, 3, 4, 5, 6, 7, 8, 9, 10, 11, 12, 13, 14, 15, 16], [15]), ([16, 17, 0, 1, 2, 3, 4, 5, 6, 7, 8, 9, 10, 11, 12, 13, 14, 15, 16, 17], [16])])
def call_Press.B9 : List Nat := [0, 0, 0, 4, 0, 28, 0, 124, 252, 0, 0, 1276, 3324, 0, 16383, 32767, 32767, 131071, 262143]
theorem call_Press.tab9 : rtab .any (opsOf Try.f11 9) = call_Press.T9 := by kernel_rfl
theorem call_Press.bits9 : waitsOk call_Press.T9.2 call_Press.B9 = true := by kernel_rfl
def call_Press.T10 : Bool × List (List Nat × List Nat) := (true, [([], []), ([], []), ([], []), ([2], [2]), ([], []), ([3, 4, 3], [3, 4]), ([], []), ([6, 5], [6]), ([7], [7]), ([], []), ([], []), ([10, 7], [10]), ([11], [11]), ([], []), ([0, 1, 5, 8, 9, 12, 13, 11], [0, 1, 5, 8, 9, 12, 13]), ([14], [14]), ([14], [14]), ([15, 14, 0, 1, 2, 3, 4, 5, 6, 7, 8, 9, 10, 11, 12, 13, 14, 15, 16], [15]), ([16, 17, 0, 1, 2, 3, 4, 5, 6, 7, 8, 9, 10, 11, 12, 13, 14, 15, 16, 17], [16])])
def call_Press.B10 : List Nat := [0, 0, 0, 4, 0, 28, 0, 124, 252, 0, 0, 1276, 3324, 0, 16383, 32767, 32767, 131071, 262143]
theorem call_Press.tab10 : rtab .any (opsOf Try.f11 10) = call_Press.T10 := by kernel_rfl
theorem call_Press.bits10 : waitsOk call_Press.T10.2 call_Press.B10 = true := by kernel_rfl
set_option maxHeartbeats 8000000 in
set_option maxRecDepth 100000 in
theorem call_Press.calls (k : Nat) (a0_0 : Int) (a0_1 : Int) (A1_0 : Option Addr) (c1_0 : Nat) (l1_0 : List (S56)) (A1_1 : Option Addr) (c1_1 : Nat) (l1_1 : List (S62)) (a2_0 : Int) (a2_1 : Int) (a2_2 : Int) (r1 : List (S56)) (r2 : List (S62)) (r3 : Int) (w : World) (hr1_0 : Kd.C k56 w A1_0 l1_0.length l1_0) (hc1_0 : l1_0.length ≤ c1_0) (hr1_1 : Kd.C k62 w A1_1 l1_1.length l1_1) (hc1_1 : l1_1.length ≤ c1_1) (h : call_Press.f k a0_0 a0_1 l1_0 l1_1 a2_0 a2_1 a2_2 = some (r1, r2, r3)) :
  Calls Try.prog 11 #[.agg #[.int .i64 a0_0, .int .i64 a0_1], .agg #[.slice A1_0 l1_0.length c1_0, .slice A1_1 l1_1.length c1_1], .agg #[.int .i64 a2_0, .int .i64 a2_1, .int .i64 a2_2]] w fun e w' => ∃ v0_ v1_ : Value, e = .returned (.tuple #[.agg #[v0_, v1_], .int .i64 r3]) ∧ Kd.R k56 56 w' w.heap.size (fun _ => True) v0_ r1 ∧ Kd.R k62 62 w' w.heap.size (fun _ => True) v1_ r2 ∧ Below w.heap.size w w' := by
 have hu23 := Try.underlying23
 have hu27 := Try.underlying27
 have hu29 := Try.underlying29
 have hu56 := Try.underlying56
 have hu62 := Try.underlying62
 have HR1_0 := Aside0.mk hr1_0
 have HC1_0 := Aside0.mk hc1_0
 clear hr1_0 hc1_0
 have HR1_1 := Aside0.mk hr1_1
 have HC1_1 := Aside0.mk hc1_1
 clear hr1_1 hc1_1
 have HB := Aside0.mk (Below.refl w.heap.size w)
 have H : (if a2_0 = 0 then (call_Press.j0 k a0_0 a0_1 l1_0 l1_1 a2_1 1 (-1)) else (if a2_0 = 1 then (call_Press.j0 k a0_0 a0_1 l1_0 l1_1 a2_1 (-1) (-1)) else (if a2_0 = 2 then ((insP.f a2_2 a2_1 a0_0 a0_1).bind fun t144 => ((call_change.f (woP_H.f (-2) 0 0 l1_0) (withP_I.f a2_2 a2_1 l1_1) k a0_0 a0_1 l1_0 l1_1 t144 0 (-2) 0 0 0 a2_2 a2_1).bind fun bt145 => (some (bt145.1, bt145.2.1, bt145.2.2)))) else (call_Press.j0 k a0_0 a0_1 l1_0 l1_1 a2_1 0 (-1))))) = some (r1, r2, r3) := h
 clear h
 have HC4 := Aside0.mk H
 clear H
 go_enter Try.func11, Try.ntmps11
 go_upto_block 0 with (first | ((with_reducible refine gate_dst (N := 3) rfl ?_); refine box_event ?hg (N := 3) ?hd (cs := #[.int .i64 a0_0, .int .i64 a0_1]) (t := 23) ?hr ?_; (case hd => rfl); (case hg => rfl); (case hr => go_simp <;> rfl); intro gb138 hg w5 hbox hb; have BK138 := Aside0.mk hbox; have GW138 := sGe hg; have GE138 := sGe hg; replace HB := sHb hb; clear hb hbox hg) | ((with_reducible refine gate_dst (N := 4) rfl ?_); refine box_event ?hg (N := 4) ?hd (cs := #[.slice A1_0 l1_0.length c1_0, .slice A1_1 l1_1.length c1_1]) (t := 27) ?hr ?_; (case hd => rfl); (case hg => rfl); (case hr => go_simp <;> rfl); intro gb139 hg w6 hbox hb; have BK139 := Aside0.mk hbox; have GW139 := sGe hg; have GE139 := sGe hg; have NB138_139 := sNl BK138 hg; have NB139_138 := sNg BK138 hg; replace BK138 := sBk BK138 hb; replace HB := sHb hb; clear hb hbox hg) | ((with_reducible refine gate_dst (N := 5) rfl ?_); refine box_event ?hg (N := 5) ?hd (cs := #[.int .i64 a2_0, .int .i64 a2_1, .int .i64 a2_2]) (t := 29) ?hr ?_; (case hd => rfl); (case hg => rfl); (case hr => go_simp <;> rfl); intro gb140 hg w7 hbox hb; have BK140 := Aside0.mk hbox; have GW140 := sGe hg; have GE140 := sGe hg; have NB138_140 := sNl BK138 hg; have NB140_138 := sNg BK138 hg; have NB139_140 := sNl BK139 hg; have NB140_139 := sNg BK139 hg; replace BK138 := sBk BK138 hb; replace BK139 := sBk BK139 hb; replace HB := sHb hb; clear hb hbox hg) | ((with_reducible refine gate_dst (N := 6) rfl ?_); refine box_event ?hg (N := 6) ?hd (cs := #[.slice none 0 0, .slice none 0 0]) (t := 27) ?hr ?_; (case hd => rfl); (case hg => rfl); (case hr => go_simp <;> rfl); intro gb141 hg w8 hbox hb; have BK141 := Aside0.mk hbox; have GW141 := sGe hg; have GE141 := sGe hg; have NB138_141 := sNl BK138 hg; have NB141_138 := sNg BK138 hg; have NB139_141 := sNl BK139 hg; have NB141_139 := sNg BK139 hg; have NB140_141 := sNl BK140 hg; have NB141_140 := sNg BK140 hg; replace BK138 := sBk BK138 hb; replace BK139 := sBk BK139 hb; replace BK140 := sBk BK140 hb; replace HB := sHb hb; clear hb hbox hg; have hnb9 := NB140_138.out; have hnc9 := NB138_140.out; have hnb10 := NB140_139.out; have hnc10 := NB139_140.out; have hnb11 := NB140_141.out; have hnc11 := NB141_140.out; have hcz12_0 : w8.cell? ⟨gb140, 0, none⟩ = some (.int .i64 a2_0) := (blk_cell BK140.out 0).trans rfl; have hcz12_1 : w8.cell? ⟨gb140, 1, none⟩ = some (.int .i64 a2_1) := (blk_cell BK140.out 1).trans rfl; have hcz12_2 : w8.cell? ⟨gb140, 2, none⟩ = some (.int .i64 a2_2) := (blk_cell BK140.out 2).trans rfl; have hfz12_0 := blk_frozen BK140.out 0; have hfz12_1 := blk_frozen BK140.out 1; have hfz12_2 := blk_frozen BK140.out 2) | ((with_reducible refine gate_dst (N := 8) rfl ?_); refine box_event ?hg (N := 8) ?hd (cs := #[.int .i64 0, .int .i64 0, .int .i64 0]) (t := 56) ?hr ?_; (case hd => rfl); (case hg => rfl); (case hr => go_simp <;> rfl); intro gb142 hg w13 hbox hb; have BK142 := Aside0.mk hbox; have GW142 := sGe hg; have GE142 := sGe hg; have NB138_142 := sNl BK138 hg; have NB142_138 := sNg BK138 hg; have NB139_142 := sNl BK139 hg; have NB142_139 := sNg BK139 hg; have NB140_142 := sNl BK140 hg; have NB142_140 := sNg BK140 hg; have NB141_142 := sNl BK141 hg; have NB142_141 := sNg BK141 hg; replace BK138 := sBk BK138 hb; replace BK139 := sBk BK139 hb; replace BK140 := sBk BK140 hb; replace BK141 := sBk BK141 hb; replace HB := sHb hb; clear hb hbox hg; have hnb14 := NB142_138.out; have hnc14 := NB138_142.out; have hnb15 := NB142_139.out; have hnc15 := NB139_142.out; have hnb16 := NB142_140.out; have hnc16 := NB140_142.out; have hnb17 := NB142_141.out; have hnc17 := NB141_142.out; have hcz18_0 : w13.cell? ⟨gb142, 0, none⟩ = some (.int .i64 0) := (blk_cell BK142.out 0).trans rfl; have hcz18_1 : w13.cell? ⟨gb142, 1, none⟩ = some (.int .i64 0) := (blk_cell BK142.out 1).trans rfl; have hcz18_2 : w13.cell? ⟨gb142, 2, none⟩ = some (.int .i64 0) := (blk_cell BK142.out 2).trans rfl; have hfz18_0 := blk_frozen BK142.out 0; have hfz18_1 := blk_frozen BK142.out 1; have hfz18_2 := blk_frozen BK142.out 2; have hcz19_0 : w13.cell? ⟨gb140, 0, none⟩ = some (.int .i64 a2_0) := (blk_cell BK140.out 0).trans rfl; have hcz19_1 : w13.cell? ⟨gb140, 1, none⟩ = some (.int .i64 a2_1) := (blk_cell BK140.out 1).trans rfl; have hcz19_2 : w13.cell? ⟨gb140, 2, none⟩ = some (.int .i64 a2_2) := (blk_cell BK140.out 2).trans rfl; have hfz19_0 := blk_frozen BK140.out 0; have hfz19_1 := blk_frozen BK140.out 1; have hfz19_2 := blk_frozen BK140.out 2) | ((with_reducible refine gate_dst (N := 9) rfl ?_); refine box_event ?hg (N := 9) ?hd (cs := #[.int .i64 0, .int .i64 0]) (t := 62) ?hr ?_; (case hd => rfl); (case hg => rfl); (case hr => go_simp <;> rfl); intro gb143 hg w20 hbox hb; have BK143 := Aside0.mk hbox; have GW143 := sGe hg; have GE143 := sGe hg; have NB138_143 := Aside0.mk ((by rw [hg]; exact Nat.ne_of_lt (blk_lt (g := gb138) (o := .cells #[.int .i64 a0_0, .int .i64 a0_1] 23 (0, 0)) (bka BK138)) : gb138 ≠ gb143)); have NB143_138 := Aside0.mk ((by rw [hg]; exact Nat.ne_of_gt (blk_lt (g := gb138) (o := .cells #[.int .i64 a0_0, .int .i64 a0_1] 23 (0, 0)) (bka BK138)) : gb143 ≠ gb138)); have NB139_143 := Aside0.mk ((by rw [hg]; exact Nat.ne_of_lt (blk_lt (g := gb139) (o := .cells #[.slice A1_0 l1_0.length c1_0, .slice A1_1 l1_1.length c1_1] 27 (0, 0)) (bka BK139)) : gb139 ≠ gb143)); have NB143_139 := Aside0.mk ((by rw [hg]; exact Nat.ne_of_gt (blk_lt (g := gb139) (o := .cells #[.slice A1_0 l1_0.length c1_0, .slice A1_1 l1_1.length c1_1] 27 (0, 0)) (bka BK139)) : gb143 ≠ gb139)); have NB140_143 := Aside0.mk ((by rw [hg]; exact Nat.ne_of_lt (blk_lt (g := gb140) (o := .cells #[.int .i64 a2_0, .int .i64 a2_1, .int .i64 a2_2] 29 (0, 0)) (bka BK140)) : gb140 ≠ gb143)); have NB143_140 := Aside0.mk ((by rw [hg]; exact Nat.ne_of_gt (blk_lt (g := gb140) (o := .cells #[.int .i64 a2_0, .int .i64 a2_1, .int .i64 a2_2] 29 (0, 0)) (bka BK140)) : gb143 ≠ gb140)); have NB141_143 := Aside0.mk ((by rw [hg]; exact Nat.ne_of_lt (blk_lt (g := gb141) (o := .cells #[.slice none 0 0, .slice none 0 0] 27 (0, 0)) (bka BK141)) : gb141 ≠ gb143)); have NB143_141 := Aside0.mk ((by rw [hg]; exact Nat.ne_of_gt (blk_lt (g := gb141) (o := .cells #[.slice none 0 0, .slice none 0 0] 27 (0, 0)) (bka BK141)) : gb143 ≠ gb141)); have NB142_143 := Aside0.mk ((by rw [hg]; exact Nat.ne_of_lt (blk_lt (g := gb142) (o := .cells #[.int .i64 a2_1, .int .i64 0, .int .i64 (-1)] 56 (0, 0)) (by refine blk_put (cs := #[.int .i64 a2_1, .int .i64 0, .int .i64 0]) ?_ 2 _ rfl; refine blk_put (cs := #[.int .i64 a2_1, .int .i64 0, .int .i64 0]) ?_ 1 _ rfl; refine blk_put (cs := #[.int .i64 0, .int .i64 0, .int .i64 0]) ?_ 0 _ rfl; exact BK142.out)) : gb142 ≠ gb143)); have NB143_142 := Aside0.mk ((by rw [hg]; exact Nat.ne_of_gt (blk_lt (g := gb142) (o := .cells #[.int .i64 a2_1, .int .i64 0, .int .i64 (-1)] 56 (0, 0)) (by refine blk_put (cs := #[.int .i64 a2_1, .int .i64 0, .int .i64 0]) ?_ 2 _ rfl; refine blk_put (cs := #[.int .i64 a2_1, .int .i64 0, .int .i64 0]) ?_ 1 _ rfl; refine blk_put (cs := #[.int .i64 0, .int .i64 0, .int .i64 0]) ?_ 0 _ rfl; exact BK142.out)) : gb143 ≠ gb142)); replace BK138 := sBk BK138 hb; replace BK139 := sBk BK139 hb; replace BK140 := sBk BK140 hb; replace BK141 := sBk BK141 hb; replace BK142 := Aside0.mk (blk_below (g := gb142) (o := .cells #[.int .i64 a2_1, .int .i64 0, .int .i64 (-1)] 56 (0, 0)) (by refine blk_put (cs := #[.int .i64 a2_1, .int .i64 0, .int .i64 0]) ?_ 2 _ rfl; refine blk_put (cs := #[.int .i64 a2_1, .int .i64 0, .int .i64 0]) ?_ 1 _ rfl; refine blk_put (cs := #[.int .i64 0, .int .i64 0, .int .i64 0]) ?_ 0 _ rfl; exact BK142.out) hb); replace HB := sHb hb; clear hb hbox hg; have hnb21 := NB143_138.out; have hnc21 := NB138_143.out; have hnb22 := NB143_139.out; have hnc22 := NB139_143.out; have hnb23 := NB143_140.out; have hnc23 := NB140_143.out; have hnb24 := NB143_141.out; have hnc24 := NB141_143.out; have hnb25 := NB143_142.out; have hnc25 := NB142_143.out; have hcz26_0 : w20.cell? ⟨gb143, 0, none⟩ = some (.int .i64 0) := (blk_cell BK143.out 0).trans rfl; have hcz26_1 : w20.cell? ⟨gb143, 1, none⟩ = some (.int .i64 0) := (blk_cell BK143.out 1).trans rfl; have hfz26_0 := blk_frozen BK143.out 0; have hfz26_1 := blk_frozen BK143.out 1; have hcz27_0 : w20.cell? ⟨gb140, 0, none⟩ = some (.int .i64 a2_0) := (blk_cell BK140.out 0).trans rfl; have hcz27_1 : w20.cell? ⟨gb140, 1, none⟩ = some (.int .i64 a2_1) := (blk_cell BK140.out 1).trans rfl; have hcz27_2 : w20.cell? ⟨gb140, 2, none⟩ = some (.int .i64 a2_2) := (blk_cell BK140.out 2).trans rfl; have hfz27_0 := blk_frozen BK140.out 0; have hfz27_1 := blk_frozen BK140.out 1; have hfz27_2 := blk_frozen BK140.out 2))
 (try simp only [Act.put, List.setIfInBounds_toArray, List.set_cons_zero, List.set_cons_succ])
 go_cut [] (fun wc => ∃ (kq : Nat) (x143001_3 : Int), Aside0 (call_Press.j0 kq a0_0 a0_1 l1_0 l1_1 a2_1 x143001_3 (-1) = some (r1, r2, r3)) ∧ Aside0 (kq ≤ k) ∧ Aside0 (wc.heap[gb138]? = some (.cells #[.int .i64 a0_0, .int .i64 a0_1] 23 (0, 0))) ∧ Aside0 (wc.heap[gb139]? = some (.cells #[(.slice A1_0 l1_0.length c1_0), (.slice A1_1 l1_1.length c1_1)] 27 (0, 0))) ∧ Aside0 (wc.heap[gb140]? = some (.cells #[.int .i64 a2_0, .int .i64 a2_1, .int .i64 a2_2] 29 (0, 0))) ∧ Aside0 (wc.heap[gb141]? = some (.cells #[(.slice none 0 0), (.slice none 0 0)] 27 (0, 0))) ∧ Aside0 (wc.heap[gb142]? = some (.cells #[.int .i64 a2_1, .int .i64 x143001_3, .int .i64 (-1)] 56 (0, 0))) ∧ Aside0 (wc.heap[gb143]? = some (.cells #[.int .i64 a2_2, .int .i64 a2_1] 62 (0, 0))) ∧ Aside0 (Below w.heap.size w wc))
 case first =>
  have H := HC4.out
  clear HC4
  by_cases c28 : a2_0 = 0
  ·rw [if_pos c28] at H
   have c28b0 : (a2_0 == 0) = true := beq_iff_eq.mpr c28
   have c28b1 : (a2_0 != 0) = false := bne_eq_false_iff_eq.mpr c28
   clear c28
   (first | rw [c28b0] | (simp only [i64_w, i32_w]; rw [c28b0]) | skip)
   have H' := Aside0.mk H
   clear H
   have hnb29 := NB142_138.out
   have hnc29 := NB138_142.out
   have hnb30 := NB142_139.out
   have hnc30 := NB139_142.out
   have hnb31 := NB142_140.out
   have hnc31 := NB140_142.out
   have hnb32 := NB142_141.out
   have hnc32 := NB141_142.out
   have hnb33 := NB142_143.out
   have hnc33 := NB143_142.out
   have hcz34_0 : w20.cell? ⟨gb142, 0, none⟩ = some (.int .i64 a2_1) := (blk_cell BK142.out 0).trans rfl
   have hcz34_1 : w20.cell? ⟨gb142, 1, none⟩ = some (.int .i64 0) := (blk_cell BK142.out 1).trans rfl
   have hcz34_2 : w20.cell? ⟨gb142, 2, none⟩ = some (.int .i64 (-1)) := (blk_cell BK142.out 2).trans rfl
   have hfz34_0 := blk_frozen BK142.out 0
   have hfz34_1 := blk_frozen BK142.out 1
   have hfz34_2 := blk_frozen BK142.out 2
   go_wp2
   go_meet
   case rel => exact ⟨_, (1), H', ⟨by first | omega | exact Nat.le_refl _⟩, ⟨bka BK138⟩, ⟨bka BK139⟩, ⟨bka BK140⟩, ⟨bka BK141⟩, ⟨by (with_reducible repeat (first | refine blk_drewN ?_ _ | refine blk_drew ?_ | refine blk_alloc ?_ _)); refine blk_put (cs := #[.int .i64 a2_1, .int .i64 0, .int .i64 (-1)]) ?_ 1 _ rfl; (with_reducible repeat (first | refine blk_drewN ?_ _ | refine blk_drew ?_ | refine blk_alloc ?_ _)); refine blk_far ?_ NB142_143.out _; (with_reducible repeat (first | refine blk_drewN ?_ _ | refine blk_drew ?_ | refine blk_alloc ?_ _)); refine blk_far ?_ NB142_143.out _; (with_reducible repeat (first | refine blk_drewN ?_ _ | refine blk_drew ?_ | refine blk_alloc ?_ _)); exact BK142.out⟩, ⟨by (with_reducible repeat (first | refine blk_drewN ?_ _ | refine blk_drew ?_ | refine blk_alloc ?_ _)); refine blk_far ?_ NB143_142.out _; (with_reducible repeat (first | refine blk_drewN ?_ _ | refine blk_drew ?_ | refine blk_alloc ?_ _)); refine blk_put (cs := #[.int .i64 a2_2, .int .i64 0]) ?_ 1 _ rfl; (with_reducible repeat (first | refine blk_drewN ?_ _ | refine blk_drew ?_ | refine blk_alloc ?_ _)); refine blk_put (cs := #[.int .i64 0, .int .i64 0]) ?_ 0 _ rfl; (with_reducible repeat (first | refine blk_drewN ?_ _ | refine blk_drew ?_ | refine blk_alloc ?_ _)); exact BK143.out⟩, ⟨bel⟩⟩
  ·rw [if_neg c28] at H
   have c28b0 : (a2_0 == 0) = false := beq_eq_false_iff_ne.mpr c28
   have c28b1 : (a2_0 != 0) = true := bne_iff_ne.mpr c28
   (first | rw [c28b0] | (simp only [i64_w, i32_w]; rw [c28b0]) | skip)
   by_cases c35 : a2_0 = 1
   ·rw [if_pos c35] at H
    have c35b0 : (a2_0 == 1) = true := beq_iff_eq.mpr c35
    have c35b1 : (a2_0 != 1) = false := bne_eq_false_iff_eq.mpr c35
    clear c35
    have H' := Aside0.mk H
    clear H
    have hnb36 := NB142_138.out
    have hnc36 := NB138_142.out
    have hnb37 := NB142_139.out
    have hnc37 := NB139_142.out
    have hnb38 := NB142_140.out
    have hnc38 := NB140_142.out
    have hnb39 := NB142_141.out
    have hnc39 := NB141_142.out
    have hnb40 := NB142_143.out
    have hnc40 := NB143_142.out
    have hcz41_0 : w20.cell? ⟨gb142, 0, none⟩ = some (.int .i64 a2_1) := (blk_cell BK142.out 0).trans rfl
    have hcz41_1 : w20.cell? ⟨gb142, 1, none⟩ = some (.int .i64 0) := (blk_cell BK142.out 1).trans rfl
    have hcz41_2 : w20.cell? ⟨gb142, 2, none⟩ = some (.int .i64 (-1)) := (blk_cell BK142.out 2).trans rfl
    have hfz41_0 := blk_frozen BK142.out 0
    have hfz41_1 := blk_frozen BK142.out 1
    have hfz41_2 := blk_frozen BK142.out 2
    go_wp2
    go_meet
    case rel => exact ⟨_, ((-1)), H', ⟨by first | omega | exact Nat.le_refl _⟩, ⟨bka BK138⟩, ⟨bka BK139⟩, ⟨bka BK140⟩, ⟨bka BK141⟩, ⟨by (with_reducible repeat (first | refine blk_drewN ?_ _ | refine blk_drew ?_ | refine blk_alloc ?_ _)); refine blk_put (cs := #[.int .i64 a2_1, .int .i64 0, .int .i64 (-1)]) ?_ 1 _ rfl; (with_reducible repeat (first | refine blk_drewN ?_ _ | refine blk_drew ?_ | refine blk_alloc ?_ _)); refine blk_far ?_ NB142_143.out _; (with_reducible repeat (first | refine blk_drewN ?_ _ | refine blk_drew ?_ | refine blk_alloc ?_ _)); refine blk_far ?_ NB142_143.out _; (with_reducible repeat (first | refine blk_drewN ?_ _ | refine blk_drew ?_ | refine blk_alloc ?_ _)); exact BK142.out⟩, ⟨by (with_reducible repeat (first | refine blk_drewN ?_ _ | refine blk_drew ?_ | refine blk_alloc ?_ _)); refine blk_far ?_ NB143_142.out _; (with_reducible repeat (first | refine blk_drewN ?_ _ | refine blk_drew ?_ | refine blk_alloc ?_ _)); refine blk_put (cs := #[.int .i64 a2_2, .int .i64 0]) ?_ 1 _ rfl; (with_reducible repeat (first | refine blk_drewN ?_ _ | refine blk_drew ?_ | refine blk_alloc ?_ _)); refine blk_put (cs := #[.int .i64 0, .int .i64 0]) ?_ 0 _ rfl; (with_reducible repeat (first | refine blk_drewN ?_ _ | refine blk_drew ?_ | refine blk_alloc ?_ _)); exact BK143.out⟩, ⟨bel⟩⟩
   ·rw [if_neg c35] at H
    have c35b0 : (a2_0 == 1) = false := beq_eq_false_iff_ne.mpr c35
    have c35b1 : (a2_0 != 1) = true := bne_iff_ne.mpr c35
    by_cases c42 : a2_0 = 2
    ·rw [if_pos c42] at H
     have c42b0 : (a2_0 == 2) = true := beq_iff_eq.mpr c42
     have c42b1 : (a2_0 != 2) = false := bne_eq_false_iff_eq.mpr c42
     clear c42
     replace H := Option.bind_eq_some_iff.mp H
     obtain ⟨t144, A430, H⟩ := H
     replace H : ((call_change.f (woP_H.f (-2) 0 0 l1_0) (withP_I.f a2_2 a2_1 l1_1) k a0_0 a0_1 l1_0 l1_1 t144 0 (-2) 0 0 0 a2_2 a2_1).bind fun bt145 => (some (bt145.1, bt145.2.1, bt145.2.2))) = some (r1, r2, r3) := H
     have A43 := Aside0.mk A430
     clear A430
     replace H := Option.bind_eq_some_iff.mp H
     obtain ⟨⟨t145, t148, t151⟩, A440, H⟩ := H
     replace H : (some (t145, t148, t151)) = some (r1, r2, r3) := H
     have A44 := Aside0.mk A440
     clear A440
     simp only [Option.some.injEq, Prod.mk.injEq] at H
     obtain ⟨rfl, rfl, rfl⟩ := H
     try go_wp2
     have n0_ : Aside0 (((w20.setCell ⟨gb143, 0, none⟩ (.int .i64 a2_2)).setCell ⟨gb143, 1, none⟩ (.int .i64 a2_1)).heap[gb138]? = some (.cells #[.int .i64 a0_0, .int .i64 a0_1] 23 (0, 0))) := ⟨bka BK138⟩
     have n1_ : Aside0 (((w20.setCell ⟨gb143, 0, none⟩ (.int .i64 a2_2)).setCell ⟨gb143, 1, none⟩ (.int .i64 a2_1)).heap[gb139]? = some (.cells #[.slice A1_0 l1_0.length c1_0, .slice A1_1 l1_1.length c1_1] 27 (0, 0))) := ⟨bka BK139⟩
     have n2_ : Aside0 (((w20.setCell ⟨gb143, 0, none⟩ (.int .i64 a2_2)).setCell ⟨gb143, 1, none⟩ (.int .i64 a2_1)).heap[gb140]? = some (.cells #[.int .i64 a2_0, .int .i64 a2_1, .int .i64 a2_2] 29 (0, 0))) := ⟨bka BK140⟩
     have n3_ : Aside0 (((w20.setCell ⟨gb143, 0, none⟩ (.int .i64 a2_2)).setCell ⟨gb143, 1, none⟩ (.int .i64 a2_1)).heap[gb141]? = some (.cells #[.slice none 0 0, .slice none 0 0] 27 (0, 0))) := ⟨bka BK141⟩
     have n4_ : Aside0 (((w20.setCell ⟨gb143, 0, none⟩ (.int .i64 a2_2)).setCell ⟨gb143, 1, none⟩ (.int .i64 a2_1)).heap[gb142]? = some (.cells #[.int .i64 a2_1, .int .i64 0, .int .i64 (-1)] 56 (0, 0))) := ⟨bka BK142⟩
     have n5_ : Aside0 (((w20.setCell ⟨gb143, 0, none⟩ (.int .i64 a2_2)).setCell ⟨gb143, 1, none⟩ (.int .i64 a2_1)).heap[gb143]? = some (.cells #[.int .i64 a2_2, .int .i64 a2_1] 62 (0, 0))) := ⟨by refine blk_put (cs := #[.int .i64 a2_2, .int .i64 0]) ?_ 1 _ rfl; refine blk_put (cs := #[.int .i64 0, .int .i64 0]) ?_ 0 _ rfl; exact BK143.out⟩
     have n6_ : Aside0 (Below w.heap.size w ((w20.setCell ⟨gb143, 0, none⟩ (.int .i64 a2_2)).setCell ⟨gb143, 1, none⟩ (.int .i64 a2_1))) := ⟨bel⟩
     (try clear BK138)
     (try clear BK139)
     (try clear BK140)
     (try clear BK141)
     (try clear BK142)
     (try clear BK143)
     (try clear HB)
     generalize ((w20.setCell ⟨gb143, 0, none⟩ (.int .i64 a2_2)).setCell ⟨gb143, 1, none⟩ (.int .i64 a2_1)) = w45 at n0_ n1_ n2_ n3_ n4_ n5_ n6_ ⊢
     have BK138 := n0_
     have BK139 := n1_
     have BK140 := n2_
     have BK141 := n3_
     have BK142 := n4_
     have BK143 := n5_
     have HB := n6_
     clear n0_ n1_ n2_ n3_ n4_ n5_ n6_
     replace BK138 := Aside0.mk (blk_drew BK138.out)
     replace BK139 := Aside0.mk (blk_drew BK139.out)
     replace BK140 := Aside0.mk (blk_drew BK140.out)
     replace BK141 := Aside0.mk (blk_drew BK141.out)
     replace BK142 := Aside0.mk (blk_drew BK142.out)
     replace BK143 := Aside0.mk (blk_drew BK143.out)
     replace HB := Aside0.mk (below_drew1 HB.out)
     refine start_ (n := 19) (S := fun w' => w'.cell? ⟨gb138, 0, none⟩ = some (.int .i64 a0_0) ∧ w'.cell? ⟨gb138, 1, none⟩ = some (.int .i64 a0_1) ∧ w'.cell? ⟨gb139, 0, none⟩ = some (.slice A1_0 l1_0.length c1_0) ∧ w'.cell? ⟨gb139, 1, none⟩ = some (.slice A1_1 l1_1.length c1_1) ∧ w'.cell? ⟨gb143, 0, none⟩ = some (.int .i64 a2_2) ∧ w'.cell? ⟨gb143, 1, none⟩ = some (.int .i64 a2_1)) (ds := []) #[false, false, false, false, false, false, false, false, false, false, false, false, false, false, false, false, false, false, false] (by kernel_rfl) rfl rfl ⟨(blk_cell BK138.out 0).trans rfl, (blk_cell BK138.out 1).trans rfl, (blk_cell BK139.out 0).trans rfl, (blk_cell BK139.out 1).trans rfl, (blk_cell BK143.out 0).trans rfl, (blk_cell BK143.out 1).trans rfl⟩ (fun hHeld => ?_); refine with_tabW call_Press.tab9 call_Press.bits9 (fun HT_ HW_ => ?_)
     generalize w45.drew = w46 at BK138 BK139 BK140 BK141 BK142 BK143 HB hHeld ⊢
     refine pure_ (i := 9) (N := some 37) (v := ?_) (a' := ?_) (bN 19 512) rfl rfl (any_of HT_.out (by kernel_rfl)) (fun _ _ _ h => h) (Or.inl ⟨by rfl, ?_⟩) ?_ ?_
     rotate_left
     ·intro w'
      go_simp
      with_reducible rfl
     rotate_left
     ·simp only [Act.put, List.setIfInBounds_toArray, List.set_cons_zero, List.set_cons_succ, i64_w, i32_w]
      rfl
     refine take_ (i := 0) (N := some 28) (v := ?_) (a' := ?_) (bN 19 513) rfl rfl (take_ofW HT_.out HW_.out (by kernel_rfl)) (fun _ _ _ h => h) (Or.inl ⟨by rfl, ?_⟩) hHeld ?_ ?_
     rotate_left
     ·rintro w' ⟨s0, s1, s2, s3, s4, s5⟩
      go_simp
      with_reducible rfl
     rotate_left
     ·simp only [Act.put, List.setIfInBounds_toArray, List.set_cons_zero, List.set_cons_succ, i64_w, i32_w]
      rfl
     refine take_ (i := 1) (N := some 29) (v := ?_) (a' := ?_) (bN 19 515) rfl rfl (take_ofW HT_.out HW_.out (by kernel_rfl)) (fun _ _ _ h => h) (Or.inl ⟨by rfl, ?_⟩) hHeld ?_ ?_
     rotate_left
     ·rintro w' ⟨s0, s1, s2, s3, s4, s5⟩
      go_simp
      with_reducible rfl
     rotate_left
     ·simp only [Act.put, List.setIfInBounds_toArray, List.set_cons_zero, List.set_cons_succ, i64_w, i32_w]
      rfl
     refine take_ (i := 2) (N := some 30) (v := ?_) (a' := ?_) (bN 19 519) rfl rfl (take_ofW HT_.out HW_.out (by kernel_rfl)) (fun _ _ _ h => h) (Or.inl ⟨by rfl, ?_⟩) hHeld ?_ ?_
     rotate_left
     ·rintro w' ⟨s0, s1, s2, s3, s4, s5⟩
      go_simp
      with_reducible rfl
     rotate_left
     ·simp only [Act.put, List.setIfInBounds_toArray, List.set_cons_zero, List.set_cons_succ, i64_w, i32_w]
      rfl
     refine take_ (i := 4) (N := some 32) (v := ?_) (a' := ?_) (bN 19 535) rfl rfl (take_ofW HT_.out HW_.out (by kernel_rfl)) (fun _ _ _ h => h) (Or.inl ⟨by rfl, ?_⟩) hHeld ?_ ?_
     rotate_left
     ·rintro w' ⟨s0, s1, s2, s3, s4, s5⟩
      go_simp
      with_reducible rfl
     rotate_left
     ·simp only [Act.put, List.setIfInBounds_toArray, List.set_cons_zero, List.set_cons_succ, i64_w, i32_w]
      rfl
     refine take_ (i := 6) (N := some 34) (v := ?_) (a' := ?_) (bN 19 599) rfl rfl (take_ofW HT_.out HW_.out (by kernel_rfl)) (fun _ _ _ h => h) (Or.inl ⟨by rfl, ?_⟩) hHeld ?_ ?_
     rotate_left
     ·rintro w' ⟨s0, s1, s2, s3, s4, s5⟩
      go_simp
      with_reducible rfl
     rotate_left
     ·simp only [Act.put, List.setIfInBounds_toArray, List.set_cons_zero, List.set_cons_succ, i64_w, i32_w]
      rfl
     refine take_ (i := 10) (N := some 38) (v := ?_) (a' := ?_) (bN 19 1623) rfl rfl (take_ofW HT_.out HW_.out (by kernel_rfl)) (fun _ _ _ h => h) (Or.inl ⟨by rfl, ?_⟩) hHeld ?_ ?_
     rotate_left
     ·rintro w' ⟨s0, s1, s2, s3, s4, s5⟩
      go_simp
      with_reducible rfl
     rotate_left
     ·simp only [Act.put, List.setIfInBounds_toArray, List.set_cons_zero, List.set_cons_succ, i64_w, i32_w]
      rfl
     refine take_ (i := 13) (N := some 41) (v := ?_) (a' := ?_) (bN 19 9815) rfl rfl (take_ofW HT_.out HW_.out (by kernel_rfl)) (fun _ _ _ h => h) (Or.inl ⟨by rfl, ?_⟩) hHeld ?_ ?_
     rotate_left
     ·rintro w' ⟨s0, s1, s2, s3, s4, s5⟩
      go_simp
      with_reducible rfl
     rotate_left
     ·simp only [Act.put, List.setIfInBounds_toArray, List.set_cons_zero, List.set_cons_succ, i64_w, i32_w]
      rfl
     refine one_ (i := 3) (N := some 31) (bN 19 9823) rfl rfl (one_of HT_.out (by kernel_rfl)) (by decide) (fun K hK => ?_)
     refine goes_ Try.func29 (by kernel_rfl) rfl #[.agg #[.int .i64 a0_0, .int .i64 a0_1]] (by rfl) rfl rfl (by (try simp only [List.map_toArray, List.map_cons, List.map_nil]); first | done | rfl) ?_
     refine (predI_calls a0_0 a0_1 _).mono ?_
     rintro e w901 ⟨gp901, rfl, hgp, hgw, hb⟩
     have BKP901 := Aside0.mk hgp
     clear hgp hgw
     refine ⟨_, rfl, ?_⟩
     replace BK138 := sBk BK138 hb
     replace BK139 := sBk BK139 hb
     replace BK140 := sBk BK140 hb
     replace BK141 := sBk BK141 hb
     replace BK142 := sBk BK142 hb
     replace BK143 := sBk BK143 hb
     replace HB := sHb hb
     (try clear hb)
     (try clear hb2)
     (try clear hk)
     (try clear hi)
     refine hK.out _ _ ⟨(blk_cell BK138.out 0).trans rfl, (blk_cell BK138.out 1).trans rfl, (blk_cell BK139.out 0).trans rfl, (blk_cell BK139.out 1).trans rfl, (blk_cell BK143.out 0).trans rfl, (blk_cell BK143.out 1).trans rfl⟩ (fun hHeld => ?_)
     clear hK K
     refine norm_ (a' := ?_) ?_ ?_
     rotate_left
     ·show Act.put _ (some 31) _ = _
      simp only [Act.put, List.setIfInBounds_toArray, List.set_cons_zero, List.set_cons_succ, i64_w, i32_w]
      rfl
     refine one_ (i := 5) (N := some 33) (bN 19 9855) rfl rfl (one_of HT_.out (by kernel_rfl)) (by decide) (fun K hK => ?_)
     refine goesV_ Try.func50 (by kernel_rfl) rfl #[] #[.pointer (some ⟨gp901, 0, none⟩)] #[.agg #[.int .i64 a2_2, .int .i64 a2_1]] #[.agg #[.int .i64 a2_2, .int .i64 a2_1], .pointer (some ⟨gp901, 0, none⟩)] rfl (by rfl) rfl rfl rfl (by simp only [List.map_toArray, List.map_cons, List.map_nil] <;> rfl) ?_
     refine (inside_calls a0_0 a0_1 a2_2 a2_1 t144 _ (Option.some.inj A43.out) gp901 BKP901.out).mono ?_
     rintro e w47 ⟨rfl, hb⟩
     refine ⟨_, rfl, ?_⟩
     replace BK138 := sBk BK138 hb
     replace BK139 := sBk BK139 hb
     replace BK140 := sBk BK140 hb
     replace BK141 := sBk BK141 hb
     replace BK142 := sBk BK142 hb
     replace BK143 := sBk BK143 hb
     replace HB := sHb hb
     (try clear hb)
     (try clear hb2)
     (try clear hk)
     (try clear hi)
     refine hK.out _ _ ⟨(blk_cell BK138.out 0).trans rfl, (blk_cell BK138.out 1).trans rfl, (blk_cell BK139.out 0).trans rfl, (blk_cell BK139.out 1).trans rfl, (blk_cell BK143.out 0).trans rfl, (blk_cell BK143.out 1).trans rfl⟩ (fun hHeld => ?_)
     clear hK K
     refine norm_ (a' := ?_) ?_ ?_
     rotate_left
     ·show Act.put _ (some 33) _ = _
      simp only [Act.put, List.setIfInBounds_toArray, List.set_cons_zero, List.set_cons_succ, i64_w, i32_w]
      rfl
     refine one_ (i := 7) (N := some 35) (bN 19 9983) rfl rfl (one_of HT_.out (by kernel_rfl)) (by decide) (fun K hK => ?_)
     refine goes_ Try.func30 (by kernel_rfl) rfl #[.agg #[.slice A1_0 l1_0.length c1_0, .slice A1_1 l1_1.length c1_1]] (by rfl) rfl rfl (by (try simp only [List.map_toArray, List.map_cons, List.map_nil]); first | done | rfl) ?_
     refine (rowH_calls A1_0 A1_1 l1_0.length l1_1.length c1_0 c1_1 _).mono ?_
     rintro e w902 ⟨rfl, hb⟩
     refine ⟨_, rfl, ?_⟩
     replace BK138 := sBk BK138 hb
     replace BK139 := sBk BK139 hb
     replace BK140 := sBk BK140 hb
     replace BK141 := sBk BK141 hb
     replace BK142 := sBk BK142 hb
     replace BK143 := sBk BK143 hb
     replace HB := sHb hb
     (try clear hb)
     (try clear hb2)
     (try clear hk)
     (try clear hi)
     refine hK.out _ _ ⟨(blk_cell BK138.out 0).trans rfl, (blk_cell BK138.out 1).trans rfl, (blk_cell BK139.out 0).trans rfl, (blk_cell BK139.out 1).trans rfl, (blk_cell BK143.out 0).trans rfl, (blk_cell BK143.out 1).trans rfl⟩ (fun hHeld => ?_)
     clear hK K
     refine norm_ (a' := ?_) ?_ ?_
     rotate_left
     ·show Act.put _ (some 35) _ = _
      simp only [Act.put, List.setIfInBounds_toArray, List.set_cons_zero, List.set_cons_succ, i64_w, i32_w]
      rfl
     refine pure_ (i := 8) (N := some 36) (v := ?_) (a' := ?_) (bN 19 10239) rfl rfl (any_of HT_.out (by kernel_rfl)) (fun _ _ _ h => h) (Or.inl ⟨by rfl, ?_⟩) ?_ ?_
     rotate_left
     ·intro w'
      go_simp
      with_reducible rfl
     rotate_left
     ·simp only [Act.put, List.setIfInBounds_toArray, List.set_cons_zero, List.set_cons_succ, i64_w, i32_w]
      rfl
     refine one_ (i := 11) (N := some 39) (bN 19 12287) rfl rfl (one_of HT_.out (by kernel_rfl)) (by decide) (fun K hK => ?_)
     refine goes_ Try.func32 (by kernel_rfl) rfl #[.agg #[.slice A1_0 l1_0.length c1_0, .slice A1_1 l1_1.length c1_1]] (by rfl) rfl rfl (by (try simp only [List.map_toArray, List.map_cons, List.map_nil]); first | done | rfl) ?_
     refine (rowI_calls A1_0 A1_1 l1_0.length l1_1.length c1_0 c1_1 _).mono ?_
     rintro e w903 ⟨rfl, hb⟩
     refine ⟨_, rfl, ?_⟩
     replace BK138 := sBk BK138 hb
     replace BK139 := sBk BK139 hb
     replace BK140 := sBk BK140 hb
     replace BK141 := sBk BK141 hb
     replace BK142 := sBk BK142 hb
     replace BK143 := sBk BK143 hb
     replace HB := sHb hb
     (try clear hb)
     (try clear hb2)
     (try clear hk)
     (try clear hi)
     refine hK.out _ _ ⟨(blk_cell BK138.out 0).trans rfl, (blk_cell BK138.out 1).trans rfl, (blk_cell BK139.out 0).trans rfl, (blk_cell BK139.out 1).trans rfl, (blk_cell BK143.out 0).trans rfl, (blk_cell BK143.out 1).trans rfl⟩ (fun hHeld => ?_)
     clear hK K
     refine norm_ (a' := ?_) ?_ ?_
     rotate_left
     ·show Act.put _ (some 39) _ = _
      simp only [Act.put, List.setIfInBounds_toArray, List.set_cons_zero, List.set_cons_succ, i64_w, i32_w]
      rfl
     refine pure_ (i := 12) (N := some 40) (v := ?_) (a' := ?_) (bN 19 16383) rfl rfl (any_of HT_.out (by kernel_rfl)) (fun _ _ _ h => h) (Or.inl ⟨by rfl, ?_⟩) ?_ ?_
     rotate_left
     ·intro w'
      go_simp
      with_reducible rfl
     rotate_left
     ·simp only [Act.put, List.setIfInBounds_toArray, List.set_cons_zero, List.set_cons_succ, i64_w, i32_w]
      rfl
     refine one_ (i := 14) (N := some 42) (bN 19 32767) rfl rfl (one_of HT_.out (by kernel_rfl)) (by decide) (fun K hK => ?_)
     refine goes_ Try.func28 (by kernel_rfl) rfl #[.agg #[.int .i64 a0_0, .int .i64 a0_1], .agg #[.slice A1_0 l1_0.length c1_0, .slice A1_1 l1_1.length c1_1], .bool t144, .func (.func 31) #[.agg #[.slice A1_0 l1_0.length c1_0, .func (.func 51) #[] #[]]] #[], .agg #[.int .i64 (-2), .int .i64 0, .int .i64 0], .func (.func 33) #[.agg #[.slice A1_1 l1_1.length c1_1, .func (.func 57) #[] #[]]] #[], .agg #[.int .i64 a2_2, .int .i64 a2_1]] (by rfl) rfl rfl (by simp only [List.map_toArray, List.map_cons, List.map_nil] <;> rfl) ?_
     refine (call_change.calls _ _ k a0_0 a0_1 A1_0 c1_0 l1_0 A1_1 c1_1 l1_1 t144 0 (-2) 0 0 0 a2_2 a2_1 t145 t148 t151 _ ?side1 ?side2 ?side3 ?side4 A44.out 31 Try.f31 (.agg #[.slice A1_0 l1_0.length c1_0, .func (.func 51) #[] #[]]) Try.func31 (by kernel_rfl) rfl (fun W t ht hb => woP_H_calls A1_0 c1_0 l1_0 _ _ _ t W (Kd.C_below (Kd.C_below HR1_0.out (by repeat (first | (with_reducible first | exact HB.out | apply below_alloc | apply pw_below_drewN | apply below_drew1) | exact HB.out | (refine below_set ?_ (Aside0.out (by assumption)))))) hb) HC1_0.out ht) 33 Try.f33 (.agg #[.slice A1_1 l1_1.length c1_1, .func (.func 57) #[] #[]]) Try.func33 (by kernel_rfl) rfl (fun W t ht hb => withP_I_calls A1_1 c1_1 l1_1 _ _ t W (Kd.C_below (Kd.C_below HR1_1.out (by repeat (first | (with_reducible first | exact HB.out | apply below_alloc | apply pw_below_drewN | apply below_drew1) | exact HB.out | (refine below_set ?_ (Aside0.out (by assumption)))))) hb) HC1_1.out ht)).mono ?_
     (case side1 => exact (Kd.C_below HR1_0.out HB.out))
     (case side2 => exact HC1_0.out)
     (case side3 => exact (Kd.C_below HR1_1.out HB.out))
     (case side4 => exact HC1_1.out)
     rintro e w48 ⟨v146, v149, rfl, ho0, ho1, hb⟩
     refine ⟨_, rfl, ?_⟩
     have HO147 := Aside0.mk (Kd.R_lower (Kd.R_newB ho0 (g := gb142) (o := .cells #[.int .i64 a2_1, .int .i64 0, .int .i64 (-1)] 56 (0, 0)) BK142.out) (below_size HB.out))
     have HO150 := Aside0.mk (Kd.R_lower (Kd.R_newB ho1 (g := gb143) (o := .cells #[.int .i64 a2_2, .int .i64 a2_1] 62 (0, 0)) BK143.out) (below_size HB.out))
     replace BK138 := sBk BK138 hb
     replace BK139 := sBk BK139 hb
     replace BK140 := sBk BK140 hb
     replace BK141 := sBk BK141 hb
     replace BK142 := sBk BK142 hb
     replace BK143 := sBk BK143 hb
     replace HB := sHb hb
     (try clear hb)
     (try clear hb2)
     (try clear hk)
     (try clear hi)
     (try clear ho0)
     (try clear ho1)
     obtain ⟨Ao49, co49, eo49⟩ := Kd.R_slice HO147.out
     (first | subst eo49 | (injection eo49 with f1_ f2_ f3_; have f4_ := f1_.symm; have f5_ := f3_.symm; clear f1_ f2_ f3_; subst f4_; subst f5_))
     obtain ⟨Ao51, co51, eo51⟩ := Kd.R_slice HO150.out
     (first | subst eo51 | (injection eo51 with f1_ f2_ f3_; have f4_ := f1_.symm; have f5_ := f3_.symm; clear f1_ f2_ f3_; subst f4_; subst f5_))
     refine hK.out _ _ ⟨(blk_cell BK138.out 0).trans rfl, (blk_cell BK138.out 1).trans rfl, (blk_cell BK139.out 0).trans rfl, (blk_cell BK139.out 1).trans rfl, (blk_cell BK143.out 0).trans rfl, (blk_cell BK143.out 1).trans rfl⟩ (fun hHeld => ?_)
     clear hK K
     refine norm_ (a' := ?_) ?_ ?_
     rotate_left
     ·show Act.put _ (some 42) _ = _
      simp only [Act.put, List.setIfInBounds_toArray, List.set_cons_zero, List.set_cons_succ, i64_w, i32_w]
      rfl
     refine pure_ (i := 15) (N := some 43) (v := ?_) (a' := ?_) (bN 19 65535) rfl rfl (any_of HT_.out (by kernel_rfl)) (fun _ _ _ h => h) (Or.inl ⟨by rfl, ?_⟩) ?_ ?_
     rotate_left
     ·intro w'
      go_simp
      with_reducible rfl
     rotate_left
     ·simp only [Act.put, List.setIfInBounds_toArray, List.set_cons_zero, List.set_cons_succ, i64_w, i32_w]
      rfl
     refine pure_ (i := 16) (N := some 44) (v := ?_) (a' := ?_) (bN 19 131071) rfl rfl (any_of HT_.out (by kernel_rfl)) (fun _ _ _ h => h) (Or.inl ⟨by rfl, ?_⟩) ?_ ?_
     rotate_left
     ·intro w'
      go_simp
      with_reducible rfl
     rotate_left
     ·simp only [Act.put, List.setIfInBounds_toArray, List.set_cons_zero, List.set_cons_succ, i64_w, i32_w]
      rfl
     refine one_ (i := 17) (N := none) (bN 19 262143) rfl rfl (one_of HT_.out (by kernel_rfl)) (by decide) (fun K hK => ?_)
     have hs50 : w48.cell? ⟨gb141, 0, none⟩ = some (.slice none 0 0) := (blk_cell BK141.out 0).trans rfl
     have hfs50 := blk_frozen BK141.out 0
     have hns50_0 := NB138_141.out
     have hns50_1 := NB139_141.out
     have hns50_2 := NB140_141.out
     have hns50_4 := NB142_141.out
     have hns50_5 := NB143_141.out
     have hms50_0 := NB141_138.out
     have hms50_1 := NB141_139.out
     have hms50_2 := NB141_140.out
     have hms50_4 := NB141_142.out
     have hms50_5 := NB141_143.out
     have hs52 : w48.cell? ⟨gb141, 1, none⟩ = some (.slice none 0 0) := (blk_cell BK141.out 1).trans rfl
     have hfs52 := blk_frozen BK141.out 1
     have hns52_0 := NB138_141.out
     have hns52_1 := NB139_141.out
     have hns52_2 := NB140_141.out
     have hns52_4 := NB142_141.out
     have hns52_5 := NB143_141.out
     have hms52_0 := NB141_138.out
     have hms52_1 := NB141_139.out
     have hms52_2 := NB141_140.out
     have hms52_4 := NB141_142.out
     have hms52_5 := NB141_143.out
     refine skip_ (w1 := ?_) (by rfl) rfl ?_ ?_
     rotate_left
     ·go_simp
      rfl
     refine hK.out _ _ ⟨((cell_far (p := ⟨gb141, _, none⟩) NB138_141.out _).trans (((cell_far (p := ⟨gb141, _, none⟩) NB138_141.out _).trans (hHeld.1)))), ((cell_far (p := ⟨gb141, _, none⟩) NB138_141.out _).trans (((cell_far (p := ⟨gb141, _, none⟩) NB138_141.out _).trans (hHeld.2.1)))), ((cell_far (p := ⟨gb141, _, none⟩) NB139_141.out _).trans (((cell_far (p := ⟨gb141, _, none⟩) NB139_141.out _).trans (hHeld.2.2.1)))), ((cell_far (p := ⟨gb141, _, none⟩) NB139_141.out _).trans (((cell_far (p := ⟨gb141, _, none⟩) NB139_141.out _).trans (hHeld.2.2.2.1)))), ((cell_far (p := ⟨gb141, _, none⟩) NB143_141.out _).trans (((cell_far (p := ⟨gb141, _, none⟩) NB143_141.out _).trans (hHeld.2.2.2.2.1)))), ((cell_far (p := ⟨gb141, _, none⟩) NB143_141.out _).trans (((cell_far (p := ⟨gb141, _, none⟩) NB143_141.out _).trans (hHeld.2.2.2.2.2))))⟩ (fun hHeld => ?_)
     clear hK K
     refine pure_ (i := 18) (N := some 7) (v := ?_) (a' := ?_) (bN 19 524287) rfl rfl (any_of HT_.out (by kernel_rfl)) (fun _ _ _ h => h) (Or.inl ⟨by rfl, ?_⟩) ?_ ?_
     rotate_left
     ·intro w'
      go_simp
      with_reducible rfl
     rotate_left
     ·simp only [Act.put, List.setIfInBounds_toArray, List.set_cons_zero, List.set_cons_succ, i64_w, i32_w]
      rfl
     refine done_ (done_of HT_.out (by kernel_rfl)) ?_
     try go_wp2
     refine bodyPost_ret (results_ct rfl _ _ gb141 27 #[.slice Ao49 t145.length co49, .slice Ao51 t148.length co51] (0, 0) _ rfl (by refine blk_put (cs := #[.slice Ao49 t145.length co49, .slice none 0 0]) ?_ 1 _ rfl; refine blk_put (cs := #[.slice none 0 0, .slice none 0 0]) ?_ 0 _ rfl; exact BK141.out) Try.underlying27 rfl (by kernel_rfl)) rfl ?_
     exact ⟨_, _, by first | rfl | (simp [errW_none, errW_some] <;> rfl) | (simp [*, errW_none, errW_some] <;> rfl), by (with_reducible repeat (first | apply Kd.R_alloc | apply Kd.R_drewN | apply Kd.R_drew)); exact Kd.R_mono (Kd.R_far (Kd.R_far (Kd.R_types HO147.out BK141.out (by decide)) (fun _ hk => hk.2) _) (fun _ hk => hk.2) _) (fun _ hk => trivial), by (with_reducible repeat (first | apply Kd.R_alloc | apply Kd.R_drewN | apply Kd.R_drew)); exact Kd.R_mono (Kd.R_far (Kd.R_far (Kd.R_types HO150.out BK141.out (by decide)) (fun _ hk => hk.2) _) (fun _ hk => hk.2) _) (fun _ hk => trivial), bel⟩
    ·rw [if_neg c42] at H
     have c42b0 : (a2_0 == 2) = false := beq_eq_false_iff_ne.mpr c42
     have c42b1 : (a2_0 != 2) = true := bne_iff_ne.mpr c42
     have H' := Aside0.mk H
     clear H
     go_wp2
     go_meet
     case rel => exact ⟨_, (0), H', ⟨by first | omega | exact Nat.le_refl _⟩, ⟨bka BK138⟩, ⟨bka BK139⟩, ⟨bka BK140⟩, ⟨bka BK141⟩, ⟨bka BK142⟩, ⟨by (with_reducible repeat (first | refine blk_drewN ?_ _ | refine blk_drew ?_ | refine blk_alloc ?_ _)); refine blk_put (cs := #[.int .i64 a2_2, .int .i64 0]) ?_ 1 _ rfl; (with_reducible repeat (first | refine blk_drewN ?_ _ | refine blk_drew ?_ | refine blk_alloc ?_ _)); refine blk_put (cs := #[.int .i64 0, .int .i64 0]) ?_ 0 _ rfl; (with_reducible repeat (first | refine blk_drewN ?_ _ | refine blk_drew ?_ | refine blk_alloc ?_ _)); exact BK143.out⟩, ⟨bel⟩⟩
 case rest =>
  clear HC4
  try clear c1
  try clear c2
  try clear p2
  try clear c3
  try clear c4
  try clear c5
  try clear c9
  try clear c10
  try clear c11
  try clear c14
  try clear c15
  try clear c16
  try clear c17
  try clear c21
  try clear c22
  try clear c23
  try clear c24
  try clear c25
  try clear c28
  try clear c28b0
  try clear c28b1
  try clear c29
  try clear c30
  try clear c31
  try clear c32
  try clear c33
  try clear c35
  try clear c35b0
  try clear c35b1
  try clear c36
  try clear c37
  try clear c38
  try clear c39
  try clear c40
  try clear c42
  try clear c42b0
  try clear c42b1
  try clear c50
  try clear hcz12_0
  try clear hcz12_1
  try clear hcz12_2
  try clear hcz18_0
  try clear hcz18_1
  try clear hcz18_2
  try clear hcz19_0
  try clear hcz19_1
  try clear hcz19_2
  try clear hcz26_0
  try clear hcz26_1
  try clear hcz27_0
  try clear hcz27_1
  try clear hcz27_2
  try clear hcz34_0
  try clear hcz34_1
  try clear hcz34_2
  try clear hcz41_0
  try clear hcz41_1
  try clear hcz41_2
  try clear hfz12_0
  try clear hfz12_1
  try clear hfz12_2
  try clear hfz18_0
  try clear hfz18_1
  try clear hfz18_2
  try clear hfz19_0
  try clear hfz19_1
  try clear hfz19_2
  try clear hfz26_0
  try clear hfz26_1
  try clear hfz27_0
  try clear hfz27_1
  try clear hfz27_2
  try clear hfz34_0
  try clear hfz34_1
  try clear hfz34_2
  try clear hfz41_0
  try clear hfz41_1
  try clear hfz41_2
  obtain ⟨kq, x143001_3, HA, HJ3, BK138, BK139, BK140, BK141, BK142, BK143, HB⟩ := hcut
  cases kq with
  | zero => exact absurd HA.out (by simp [call_Press.j0])
  | succ kj3 =>
   have H := HA.out
   clear HA
   simp only [call_Press.j0] at H
   replace H := Option.bind_eq_some_iff.mp H
   obtain ⟨t152, A530, H⟩ := H
   replace H : ((call_change.f (withP_H.f a2_1 x143001_3 (-1) l1_0) (woP_I.f (-2) 0 l1_1) kj3 a0_0 a0_1 l1_0 l1_1 t152 0 a2_1 x143001_3 (-1) 0 (-2) 0).bind fun bt153 => (some (bt153.1, bt153.2.1, bt153.2.2))) = some (r1, r2, r3) := H
   have A53 := Aside0.mk A530
   clear A530
   replace H := Option.bind_eq_some_iff.mp H
   obtain ⟨⟨t153, t156, t159⟩, A540, H⟩ := H
   replace H : (some (t153, t156, t159)) = some (r1, r2, r3) := H
   have A54 := Aside0.mk A540
   clear A540
   simp only [Option.some.injEq, Prod.mk.injEq] at H
   obtain ⟨rfl, rfl, rfl⟩ := H
   try go_wp2
   replace BK138 := Aside0.mk (blk_drew BK138.out)
   replace BK139 := Aside0.mk (blk_drew BK139.out)
   replace BK140 := Aside0.mk (blk_drew BK140.out)
   replace BK141 := Aside0.mk (blk_drew BK141.out)
   replace BK142 := Aside0.mk (blk_drew BK142.out)
   replace BK143 := Aside0.mk (blk_drew BK143.out)
   replace HB := Aside0.mk (below_drew1 HB.out)
   refine start_ (n := 19) (S := fun w' => w'.cell? ⟨gb138, 0, none⟩ = some (.int .i64 a0_0) ∧ w'.cell? ⟨gb138, 1, none⟩ = some (.int .i64 a0_1) ∧ w'.cell? ⟨gb139, 0, none⟩ = some (.slice A1_0 l1_0.length c1_0) ∧ w'.cell? ⟨gb139, 1, none⟩ = some (.slice A1_1 l1_1.length c1_1) ∧ w'.cell? ⟨gb142, 0, none⟩ = some (.int .i64 a2_1) ∧ w'.cell? ⟨gb142, 1, none⟩ = some (.int .i64 x143001_3) ∧ w'.cell? ⟨gb142, 2, none⟩ = some (.int .i64 (-1))) (ds := []) #[false, false, false, false, false, false, false, false, false, false, false, false, false, false, false, false, false, false, false] (by kernel_rfl) rfl rfl ⟨(blk_cell BK138.out 0).trans rfl, (blk_cell BK138.out 1).trans rfl, (blk_cell BK139.out 0).trans rfl, (blk_cell BK139.out 1).trans rfl, (blk_cell BK142.out 0).trans rfl, (blk_cell BK142.out 1).trans rfl, (blk_cell BK142.out 2).trans rfl⟩ (fun hHeld => ?_); refine with_tabW call_Press.tab10 call_Press.bits10 (fun HT_ HW_ => ?_)
   generalize wc.drew = w55 at BK138 BK139 BK140 BK141 BK142 BK143 HB hHeld ⊢
   refine pure_ (i := 13) (N := some 58) (v := ?_) (a' := ?_) (bN 19 8192) rfl rfl (any_of HT_.out (by kernel_rfl)) (fun _ _ _ h => h) (Or.inl ⟨by rfl, ?_⟩) ?_ ?_
   rotate_left
   ·intro w'
    go_simp
    with_reducible rfl
   rotate_left
   ·simp only [Act.put, List.setIfInBounds_toArray, List.set_cons_zero, List.set_cons_succ, i64_w, i32_w]
    rfl
   refine take_ (i := 0) (N := some 45) (v := ?_) (a' := ?_) (bN 19 8193) rfl rfl (take_ofW HT_.out HW_.out (by kernel_rfl)) (fun _ _ _ h => h) (Or.inl ⟨by rfl, ?_⟩) hHeld ?_ ?_
   rotate_left
   ·rintro w' ⟨s0, s1, s2, s3, s4, s5, s6⟩
    go_simp
    with_reducible rfl
   rotate_left
   ·simp only [Act.put, List.setIfInBounds_toArray, List.set_cons_zero, List.set_cons_succ, i64_w, i32_w]
    rfl
   refine take_ (i := 1) (N := some 46) (v := ?_) (a' := ?_) (bN 19 8195) rfl rfl (take_ofW HT_.out HW_.out (by kernel_rfl)) (fun _ _ _ h => h) (Or.inl ⟨by rfl, ?_⟩) hHeld ?_ ?_
   rotate_left
   ·rintro w' ⟨s0, s1, s2, s3, s4, s5, s6⟩
    go_simp
    with_reducible rfl
   rotate_left
   ·simp only [Act.put, List.setIfInBounds_toArray, List.set_cons_zero, List.set_cons_succ, i64_w, i32_w]
    rfl
   refine take_ (i := 2) (N := some 47) (v := ?_) (a' := ?_) (bN 19 8199) rfl rfl (take_ofW HT_.out HW_.out (by kernel_rfl)) (fun _ _ _ h => h) (Or.inl ⟨by rfl, ?_⟩) hHeld ?_ ?_
   rotate_left
   ·rintro w' ⟨s0, s1, s2, s3, s4, s5, s6⟩
    go_simp
    with_reducible rfl
   rotate_left
   ·simp only [Act.put, List.setIfInBounds_toArray, List.set_cons_zero, List.set_cons_succ, i64_w, i32_w]
    rfl
   refine take_ (i := 4) (N := some 49) (v := ?_) (a' := ?_) (bN 19 8215) rfl rfl (take_ofW HT_.out HW_.out (by kernel_rfl)) (fun _ _ _ h => h) (Or.inl ⟨by rfl, ?_⟩) hHeld ?_ ?_
   rotate_left
   ·rintro w' ⟨s0, s1, s2, s3, s4, s5, s6⟩
    go_simp
    with_reducible rfl
   rotate_left
   ·simp only [Act.put, List.setIfInBounds_toArray, List.set_cons_zero, List.set_cons_succ, i64_w, i32_w]
    rfl
   refine take_ (i := 6) (N := some 51) (v := ?_) (a' := ?_) (bN 19 8279) rfl rfl (take_ofW HT_.out HW_.out (by kernel_rfl)) (fun _ _ _ h => h) (Or.inl ⟨by rfl, ?_⟩) hHeld ?_ ?_
   rotate_left
   ·rintro w' ⟨s0, s1, s2, s3, s4, s5, s6⟩
    go_simp
    with_reducible rfl
   rotate_left
   ·simp only [Act.put, List.setIfInBounds_toArray, List.set_cons_zero, List.set_cons_succ, i64_w, i32_w]
    rfl
   refine take_ (i := 9) (N := some 54) (v := ?_) (a' := ?_) (bN 19 8791) rfl rfl (take_ofW HT_.out HW_.out (by kernel_rfl)) (fun _ _ _ h => h) (Or.inl ⟨by rfl, ?_⟩) hHeld ?_ ?_
   rotate_left
   ·rintro w' ⟨s0, s1, s2, s3, s4, s5, s6⟩
    go_simp
    with_reducible rfl
   rotate_left
   ·simp only [Act.put, List.setIfInBounds_toArray, List.set_cons_zero, List.set_cons_succ, i64_w, i32_w]
    rfl
   refine take_ (i := 10) (N := some 55) (v := ?_) (a' := ?_) (bN 19 9815) rfl rfl (take_ofW HT_.out HW_.out (by kernel_rfl)) (fun _ _ _ h => h) (Or.inl ⟨by rfl, ?_⟩) hHeld ?_ ?_
   rotate_left
   ·rintro w' ⟨s0, s1, s2, s3, s4, s5, s6⟩
    go_simp
    with_reducible rfl
   rotate_left
   ·simp only [Act.put, List.setIfInBounds_toArray, List.set_cons_zero, List.set_cons_succ, i64_w, i32_w]
    rfl
   refine one_ (i := 3) (N := some 48) (bN 19 9823) rfl rfl (one_of HT_.out (by kernel_rfl)) (by decide) (fun K hK => ?_)
   refine goes_ Try.func34 (by kernel_rfl) rfl #[.agg #[.int .i64 a0_0, .int .i64 a0_1]] (by rfl) rfl rfl (by (try simp only [List.map_toArray, List.map_cons, List.map_nil]); first | done | rfl) ?_
   refine (predH_calls a0_0 a0_1 _).mono ?_
   rintro e w904 ⟨gp904, rfl, hgp, hgw, hb⟩
   have BKP904 := Aside0.mk hgp
   clear hgp hgw
   refine ⟨_, rfl, ?_⟩
   replace BK138 := sBk BK138 hb
   replace BK139 := sBk BK139 hb
   replace BK140 := sBk BK140 hb
   replace BK141 := sBk BK141 hb
   replace BK142 := sBk BK142 hb
   replace BK143 := sBk BK143 hb
   replace HB := sHb hb
   (try clear hb)
   (try clear hb2)
   (try clear hk)
   (try clear hi)
   refine hK.out _ _ ⟨(blk_cell BK138.out 0).trans rfl, (blk_cell BK138.out 1).trans rfl, (blk_cell BK139.out 0).trans rfl, (blk_cell BK139.out 1).trans rfl, (blk_cell BK142.out 0).trans rfl, (blk_cell BK142.out 1).trans rfl, (blk_cell BK142.out 2).trans rfl⟩ (fun hHeld => ?_)
   clear hK K
   refine norm_ (a' := ?_) ?_ ?_
   rotate_left
   ·show Act.put _ (some 48) _ = _
    simp only [Act.put, List.setIfInBounds_toArray, List.set_cons_zero, List.set_cons_succ, i64_w, i32_w]
    rfl
   refine one_ (i := 5) (N := some 50) (bN 19 9855) rfl rfl (one_of HT_.out (by kernel_rfl)) (by decide) (fun K hK => ?_)
   refine goesV_ Try.func61 (by kernel_rfl) rfl #[] #[.pointer (some ⟨gp904, 0, none⟩)] #[.agg #[.int .i64 a2_1, .int .i64 x143001_3, .int .i64 (-1)]] #[.agg #[.int .i64 a2_1, .int .i64 x143001_3, .int .i64 (-1)], .pointer (some ⟨gp904, 0, none⟩)] rfl (by rfl) rfl rfl rfl (by simp only [List.map_toArray, List.map_cons, List.map_nil] <;> rfl) ?_
   refine (hall_calls a0_0 a0_1 a2_1 x143001_3 (-1) t152 _ (Option.some.inj A53.out) gp904 BKP904.out).mono ?_
   rintro e w56 ⟨rfl, hb⟩
   refine ⟨_, rfl, ?_⟩
   replace BK138 := sBk BK138 hb
   replace BK139 := sBk BK139 hb
   replace BK140 := sBk BK140 hb
   replace BK141 := sBk BK141 hb
   replace BK142 := sBk BK142 hb
   replace BK143 := sBk BK143 hb
   replace HB := sHb hb
   (try clear hb)
   (try clear hb2)
   (try clear hk)
   (try clear hi)
   refine hK.out _ _ ⟨(blk_cell BK138.out 0).trans rfl, (blk_cell BK138.out 1).trans rfl, (blk_cell BK139.out 0).trans rfl, (blk_cell BK139.out 1).trans rfl, (blk_cell BK142.out 0).trans rfl, (blk_cell BK142.out 1).trans rfl, (blk_cell BK142.out 2).trans rfl⟩ (fun hHeld => ?_)
   clear hK K
   refine norm_ (a' := ?_) ?_ ?_
   rotate_left
   ·show Act.put _ (some 50) _ = _
    simp only [Act.put, List.setIfInBounds_toArray, List.set_cons_zero, List.set_cons_succ, i64_w, i32_w]
    rfl
   refine one_ (i := 7) (N := some 52) (bN 19 9983) rfl rfl (one_of HT_.out (by kernel_rfl)) (by decide) (fun K hK => ?_)
   refine goes_ Try.func30 (by kernel_rfl) rfl #[.agg #[.slice A1_0 l1_0.length c1_0, .slice A1_1 l1_1.length c1_1]] (by rfl) rfl rfl (by (try simp only [List.map_toArray, List.map_cons, List.map_nil]); first | done | rfl) ?_
   refine (rowH_calls A1_0 A1_1 l1_0.length l1_1.length c1_0 c1_1 _).mono ?_
   rintro e w905 ⟨rfl, hb⟩
   refine ⟨_, rfl, ?_⟩
   replace BK138 := sBk BK138 hb
   replace BK139 := sBk BK139 hb
   replace BK140 := sBk BK140 hb
   replace BK141 := sBk BK141 hb
   replace BK142 := sBk BK142 hb
   replace BK143 := sBk BK143 hb
   replace HB := sHb hb
   (try clear hb)
   (try clear hb2)
   (try clear hk)
   (try clear hi)
   refine hK.out _ _ ⟨(blk_cell BK138.out 0).trans rfl, (blk_cell BK138.out 1).trans rfl, (blk_cell BK139.out 0).trans rfl, (blk_cell BK139.out 1).trans rfl, (blk_cell BK142.out 0).trans rfl, (blk_cell BK142.out 1).trans rfl, (blk_cell BK142.out 2).trans rfl⟩ (fun hHeld => ?_)
   clear hK K
   refine norm_ (a' := ?_) ?_ ?_
   rotate_left
   ·show Act.put _ (some 52) _ = _
    simp only [Act.put, List.setIfInBounds_toArray, List.set_cons_zero, List.set_cons_succ, i64_w, i32_w]
    rfl
   refine pure_ (i := 8) (N := some 53) (v := ?_) (a' := ?_) (bN 19 10239) rfl rfl (any_of HT_.out (by kernel_rfl)) (fun _ _ _ h => h) (Or.inl ⟨by rfl, ?_⟩) ?_ ?_
   rotate_left
   ·intro w'
    go_simp
    with_reducible rfl
   rotate_left
   ·simp only [Act.put, List.setIfInBounds_toArray, List.set_cons_zero, List.set_cons_succ, i64_w, i32_w]
    rfl
   refine one_ (i := 11) (N := some 56) (bN 19 12287) rfl rfl (one_of HT_.out (by kernel_rfl)) (by decide) (fun K hK => ?_)
   refine goes_ Try.func32 (by kernel_rfl) rfl #[.agg #[.slice A1_0 l1_0.length c1_0, .slice A1_1 l1_1.length c1_1]] (by rfl) rfl rfl (by (try simp only [List.map_toArray, List.map_cons, List.map_nil]); first | done | rfl) ?_
   refine (rowI_calls A1_0 A1_1 l1_0.length l1_1.length c1_0 c1_1 _).mono ?_
   rintro e w906 ⟨rfl, hb⟩
   refine ⟨_, rfl, ?_⟩
   replace BK138 := sBk BK138 hb
   replace BK139 := sBk BK139 hb
   replace BK140 := sBk BK140 hb
   replace BK141 := sBk BK141 hb
   replace BK142 := sBk BK142 hb
   replace BK143 := sBk BK143 hb
   replace HB := sHb hb
   (try clear hb)
   (try clear hb2)
   (try clear hk)
   (try clear hi)
   refine hK.out _ _ ⟨(blk_cell BK138.out 0).trans rfl, (blk_cell BK138.out 1).trans rfl, (blk_cell BK139.out 0).trans rfl, (blk_cell BK139.out 1).trans rfl, (blk_cell BK142.out 0).trans rfl, (blk_cell BK142.out 1).trans rfl, (blk_cell BK142.out 2).trans rfl⟩ (fun hHeld => ?_)
   clear hK K
   refine norm_ (a' := ?_) ?_ ?_
   rotate_left
   ·show Act.put _ (some 56) _ = _
    simp only [Act.put, List.setIfInBounds_toArray, List.set_cons_zero, List.set_cons_succ, i64_w, i32_w]
    rfl
   refine pure_ (i := 12) (N := some 57) (v := ?_) (a' := ?_) (bN 19 16383) rfl rfl (any_of HT_.out (by kernel_rfl)) (fun _ _ _ h => h) (Or.inl ⟨by rfl, ?_⟩) ?_ ?_
   rotate_left
   ·intro w'
    go_simp
    with_reducible rfl
   rotate_left
   ·simp only [Act.put, List.setIfInBounds_toArray, List.set_cons_zero, List.set_cons_succ, i64_w, i32_w]
    rfl
   refine one_ (i := 14) (N := some 59) (bN 19 32767) rfl rfl (one_of HT_.out (by kernel_rfl)) (by decide) (fun K hK => ?_)
   refine goes_ Try.func28 (by kernel_rfl) rfl #[.agg #[.int .i64 a0_0, .int .i64 a0_1], .agg #[.slice A1_0 l1_0.length c1_0, .slice A1_1 l1_1.length c1_1], .bool t152, .func (.func 35) #[.agg #[.slice A1_0 l1_0.length c1_0, .func (.func 51) #[] #[]]] #[], .agg #[.int .i64 a2_1, .int .i64 x143001_3, .int .i64 (-1)], .func (.func 36) #[.agg #[.slice A1_1 l1_1.length c1_1, .func (.func 57) #[] #[]]] #[], .agg #[.int .i64 (-2), .int .i64 0]] (by rfl) rfl rfl (by simp only [List.map_toArray, List.map_cons, List.map_nil] <;> rfl) ?_
   refine (call_change.calls _ _ kj3 a0_0 a0_1 A1_0 c1_0 l1_0 A1_1 c1_1 l1_1 t152 0 a2_1 x143001_3 (-1) 0 (-2) 0 t153 t156 t159 _ ?side1 ?side2 ?side3 ?side4 A54.out 35 Try.f35 (.agg #[.slice A1_0 l1_0.length c1_0, .func (.func 51) #[] #[]]) Try.func35 (by kernel_rfl) rfl (fun W t ht hb => withP_H_calls A1_0 c1_0 l1_0 _ _ _ t W (Kd.C_below (Kd.C_below HR1_0.out (by repeat (first | (with_reducible first | exact HB.out | apply below_alloc | apply pw_below_drewN | apply below_drew1) | exact HB.out | (refine below_set ?_ (Aside0.out (by assumption)))))) hb) HC1_0.out ht) 36 Try.f36 (.agg #[.slice A1_1 l1_1.length c1_1, .func (.func 57) #[] #[]]) Try.func36 (by kernel_rfl) rfl (fun W t ht hb => woP_I_calls A1_1 c1_1 l1_1 _ _ t W (Kd.C_below (Kd.C_below HR1_1.out (by repeat (first | (with_reducible first | exact HB.out | apply below_alloc | apply pw_below_drewN | apply below_drew1) | exact HB.out | (refine below_set ?_ (Aside0.out (by assumption)))))) hb) HC1_1.out ht)).mono ?_
   (case side1 => exact (Kd.C_below HR1_0.out HB.out))
   (case side2 => exact HC1_0.out)
   (case side3 => exact (Kd.C_below HR1_1.out HB.out))
   (case side4 => exact HC1_1.out)
   rintro e w57 ⟨v154, v157, rfl, ho0, ho1, hb⟩
   refine ⟨_, rfl, ?_⟩
   have HO155 := Aside0.mk (Kd.R_lower (Kd.R_newB ho0 (g := gb142) (o := .cells #[.int .i64 a2_1, .int .i64 x143001_3, .int .i64 (-1)] 56 (0, 0)) BK142.out) (below_size HB.out))
   have HO158 := Aside0.mk (Kd.R_lower (Kd.R_newB ho1 (g := gb143) (o := .cells #[.int .i64 a2_2, .int .i64 a2_1] 62 (0, 0)) BK143.out) (below_size HB.out))
   replace BK138 := sBk BK138 hb
   replace BK139 := sBk BK139 hb
   replace BK140 := sBk BK140 hb
   replace BK141 := sBk BK141 hb
   replace BK142 := sBk BK142 hb
   replace BK143 := sBk BK143 hb
   replace HB := sHb hb
   (try clear hb)
   (try clear hb2)
   (try clear hk)
   (try clear hi)
   (try clear ho0)
   (try clear ho1)
   obtain ⟨Ao58, co58, eo58⟩ := Kd.R_slice HO155.out
   (first | subst eo58 | (injection eo58 with f1_ f2_ f3_; have f4_ := f1_.symm; have f5_ := f3_.symm; clear f1_ f2_ f3_; subst f4_; subst f5_))
   obtain ⟨Ao60, co60, eo60⟩ := Kd.R_slice HO158.out
   (first | subst eo60 | (injection eo60 with f1_ f2_ f3_; have f4_ := f1_.symm; have f5_ := f3_.symm; clear f1_ f2_ f3_; subst f4_; subst f5_))
   refine hK.out _ _ ⟨(blk_cell BK138.out 0).trans rfl, (blk_cell BK138.out 1).trans rfl, (blk_cell BK139.out 0).trans rfl, (blk_cell BK139.out 1).trans rfl, (blk_cell BK142.out 0).trans rfl, (blk_cell BK142.out 1).trans rfl, (blk_cell BK142.out 2).trans rfl⟩ (fun hHeld => ?_)
   clear hK K
   refine norm_ (a' := ?_) ?_ ?_
   rotate_left
   ·show Act.put _ (some 59) _ = _
    simp only [Act.put, List.setIfInBounds_toArray, List.set_cons_zero, List.set_cons_succ, i64_w, i32_w]
    rfl
   refine pure_ (i := 15) (N := some 60) (v := ?_) (a' := ?_) (bN 19 65535) rfl rfl (any_of HT_.out (by kernel_rfl)) (fun _ _ _ h => h) (Or.inl ⟨by rfl, ?_⟩) ?_ ?_
   rotate_left
   ·intro w'
    go_simp
    with_reducible rfl
   rotate_left
   ·simp only [Act.put, List.setIfInBounds_toArray, List.set_cons_zero, List.set_cons_succ, i64_w, i32_w]
    rfl
   refine pure_ (i := 16) (N := some 61) (v := ?_) (a' := ?_) (bN 19 131071) rfl rfl (any_of HT_.out (by kernel_rfl)) (fun _ _ _ h => h) (Or.inl ⟨by rfl, ?_⟩) ?_ ?_
   rotate_left
   ·intro w'
    go_simp
    with_reducible rfl
   rotate_left
   ·simp only [Act.put, List.setIfInBounds_toArray, List.set_cons_zero, List.set_cons_succ, i64_w, i32_w]
    rfl
   refine one_ (i := 17) (N := none) (bN 19 262143) rfl rfl (one_of HT_.out (by kernel_rfl)) (by decide) (fun K hK => ?_)
   have hs59 : w57.cell? ⟨gb141, 0, none⟩ = some (.slice none 0 0) := (blk_cell BK141.out 0).trans rfl
   have hfs59 := blk_frozen BK141.out 0
   have hns59_0 := NB138_141.out
   have hns59_1 := NB139_141.out
   have hns59_2 := NB140_141.out
   have hns59_4 := NB142_141.out
   have hns59_5 := NB143_141.out
   have hms59_0 := NB141_138.out
   have hms59_1 := NB141_139.out
   have hms59_2 := NB141_140.out
   have hms59_4 := NB141_142.out
   have hms59_5 := NB141_143.out
   have hs61 : w57.cell? ⟨gb141, 1, none⟩ = some (.slice none 0 0) := (blk_cell BK141.out 1).trans rfl
   have hfs61 := blk_frozen BK141.out 1
   have hns61_0 := NB138_141.out
   have hns61_1 := NB139_141.out
   have hns61_2 := NB140_141.out
   have hns61_4 := NB142_141.out
   have hns61_5 := NB143_141.out
   have hms61_0 := NB141_138.out
   have hms61_1 := NB141_139.out
   have hms61_2 := NB141_140.out
   have hms61_4 := NB141_142.out
   have hms61_5 := NB141_143.out
   refine skip_ (w1 := ?_) (by rfl) rfl ?_ ?_
   rotate_left
   ·go_simp
    rfl
   refine hK.out _ _ ⟨((cell_far (p := ⟨gb141, _, none⟩) NB138_141.out _).trans (((cell_far (p := ⟨gb141, _, none⟩) NB138_141.out _).trans (hHeld.1)))), ((cell_far (p := ⟨gb141, _, none⟩) NB138_141.out _).trans (((cell_far (p := ⟨gb141, _, none⟩) NB138_141.out _).trans (hHeld.2.1)))), ((cell_far (p := ⟨gb141, _, none⟩) NB139_141.out _).trans (((cell_far (p := ⟨gb141, _, none⟩) NB139_141.out _).trans (hHeld.2.2.1)))), ((cell_far (p := ⟨gb141, _, none⟩) NB139_141.out _).trans (((cell_far (p := ⟨gb141, _, none⟩) NB139_141.out _).trans (hHeld.2.2.2.1)))), ((cell_far (p := ⟨gb141, _, none⟩) NB142_141.out _).trans (((cell_far (p := ⟨gb141, _, none⟩) NB142_141.out _).trans (hHeld.2.2.2.2.1)))), ((cell_far (p := ⟨gb141, _, none⟩) NB142_141.out _).trans (((cell_far (p := ⟨gb141, _, none⟩) NB142_141.out _).trans (hHeld.2.2.2.2.2.1)))), ((cell_far (p := ⟨gb141, _, none⟩) NB142_141.out _).trans (((cell_far (p := ⟨gb141, _, none⟩) NB142_141.out _).trans (hHeld.2.2.2.2.2.2))))⟩ (fun hHeld => ?_)
   clear hK K
   refine pure_ (i := 18) (N := some 7) (v := ?_) (a' := ?_) (bN 19 524287) rfl rfl (any_of HT_.out (by kernel_rfl)) (fun _ _ _ h => h) (Or.inl ⟨by rfl, ?_⟩) ?_ ?_
   rotate_left
   ·intro w'
    go_simp
    with_reducible rfl
   rotate_left
   ·simp only [Act.put, List.setIfInBounds_toArray, List.set_cons_zero, List.set_cons_succ, i64_w, i32_w]
    rfl
   refine done_ (done_of HT_.out (by kernel_rfl)) ?_
   try go_wp2
   refine bodyPost_ret (results_ct rfl _ _ gb141 27 #[.slice Ao58 t153.length co58, .slice Ao60 t156.length co60] (0, 0) _ rfl (by refine blk_put (cs := #[.slice Ao58 t153.length co58, .slice none 0 0]) ?_ 1 _ rfl; refine blk_put (cs := #[.slice none 0 0, .slice none 0 0]) ?_ 0 _ rfl; exact BK141.out) Try.underlying27 rfl (by kernel_rfl)) rfl ?_
   exact ⟨_, _, by first | rfl | (simp [errW_none, errW_some] <;> rfl) | (simp [*, errW_none, errW_some] <;> rfl), by (with_reducible repeat (first | apply Kd.R_alloc | apply Kd.R_drewN | apply Kd.R_drew)); exact Kd.R_mono (Kd.R_far (Kd.R_far (Kd.R_types HO155.out BK141.out (by decide)) (fun _ hk => hk.2) _) (fun _ hk => hk.2) _) (fun _ hk => trivial), by (with_reducible repeat (first | apply Kd.R_alloc | apply Kd.R_drewN | apply Kd.R_drew)); exact Kd.R_mono (Kd.R_far (Kd.R_far (Kd.R_types HO158.out BK141.out (by decide)) (fun _ hk => hk.2) _) (fun _ hk => hk.2) _) (fun _ hk => trivial), bel⟩
end Go.Proofs.Ytjehhhlhalkieaa.C
namespace Go.Proofs.Ytjehhhlhalkieaa.Call
open Go.RowKit Go.Proofs.YtjehhhlhalkieaaW.PrintWords Go.Proofs.YtjehhhlhalkieaaW.PrintLast Go.Proofs.YtjehhhlhalkieaaW.PrintMore Go.Proofs.Ytjehhhlhalkieaa.C
set_option linter.unusedVariables false
set_option linter.unusedSimpArgs false
abbrev Hall := S56
abbrev Ins := S62
def i64 (x : Int) : Prop := -9223372036854775808 ≤ x ∧ x ≤ 9223372036854775807
theorem within_eq (a lo hi : Int) : call_within.f a lo hi = some (decide (lo ≤ a ∧ a ≤ hi)) := by
  unfold call_within.f
  by_cases h : lo ≤ a <;> simp [h]
def okB (F C : Int) (H : List Hall) (I : List Ins) : Bool := decide (2 ≤ F ∧ F ≤ 64) && (decide (1 ≤ C ∧ C ≤ 8) && (rightS (fun x => hallB F C x.f0 x.f1 x.f2) ltH none H && rightS (fun x => insB F C x.f0 x.f1) ltI none I))
theorem small_of {n : Nat} {C : Int} (h : n < 1000000000) (hC : i64 C) : small n C = true := decide_eq_true ⟨h, hC.1, hC.2⟩
theorem check_eq (k : Nat) (F C : Int) (H : List Hall) (I : List Ins) (hH : H.length < 900000000) (hI : I.length < 900000000) (hC : i64 C) : call_Check.f (k + 1) F C H I = some (if okB F C H I = true then 0 else 190) := by
  unfold call_Check.f rightP_H.f rightP_I.f okB
  rw [within_eq, within_eq, if_pos (small_of (by omega) hC), if_pos (small_of (by omega) hC)]
  simp only [Option.bind_some]
  cases decide (2 ≤ F ∧ F ≤ 64) <;> cases decide (1 ≤ C ∧ C ≤ 8) <;> cases rightS (fun x : Hall => hallB F C x.f0 x.f1 x.f2) ltH none H <;> cases rightS (fun x : Ins => insB F C x.f0 x.f1) ltI none I <;> simp [call_Check.j0]
theorem ok_parts {F C : Int} {H : List Hall} {I : List Ins} : okB F C H I = true ↔ ((2 ≤ F ∧ F ≤ 64) ∧ (1 ≤ C ∧ C ≤ 8) ∧ ((∀ x ∈ H, hallB F C x.f0 x.f1 x.f2 = true) ∧ H.Pairwise (fun x y => ltH x y = true)) ∧ ((∀ x ∈ I, insB F C x.f0 x.f1 = true) ∧ I.Pairwise (fun x y => ltI x y = true))) := by
  unfold okB
  simp only [Bool.and_eq_true, decide_eq_true_eq]
  rw [rightH_none, rightI_none]
theorem wrapS (x : Int) (h : 1 ≤ x ∧ x ≤ 64) : wrap64 (x - 1) = x - 1 := by unfold wrap64; omega
theorem hall_car {F C : Int} {x0 x1 x2 : Int} (hF : 2 ≤ F ∧ F ≤ 64) (hC : 1 ≤ C ∧ C ≤ 8) : hallB F C x0 x1 x2 = true ↔ ((x1 = 1 ∨ x1 = -1) ∧ (0 ≤ x0 ∧ x0 ≤ F - 1) ∧ (0 ≤ x0 + x1 ∧ x0 + x1 ≤ F - 1) ∧ (-1 ≤ x2 ∧ x2 ≤ C - 1)) := by
  unfold hallB
  rw [decide_eq_true_eq, wrapS F (by omega), wrapS C (by omega)]
  constructor
  · rintro ⟨h1, h2, h3, h4⟩
    rw [show wrap64 (x0 + x1) = x0 + x1 from by unfold wrap64; omega] at h3
    exact ⟨h1, h2, h3, h4⟩
  · rintro ⟨h1, h2, h3, h4⟩
    rw [show wrap64 (x0 + x1) = x0 + x1 from by unfold wrap64; omega]
    exact ⟨h1, h2, h3, h4⟩
theorem ins_car {F C : Int} {x0 x1 : Int} (hF : 2 ≤ F ∧ F ≤ 64) (hC : 1 ≤ C ∧ C ≤ 8) : insB F C x0 x1 = true ↔ ((0 ≤ x0 ∧ x0 ≤ C - 1) ∧ (0 ≤ x1 ∧ x1 ≤ F - 1)) := by
  unfold insB
  rw [decide_eq_true_eq, wrapS F (by omega), wrapS C (by omega)]
theorem own_eq (H : List Hall) (I : List Ins) (hH : H.length < 900000000) (hI : I.length < 900000000) : newellaw19_Own.f H I = some (H, I) := by
  unfold newellaw19_Own.f
  simp only [Option.bind_some, List.length_nil, Nat.zero_add, List.nil_append]
  rw [if_pos (by omega), if_pos (by omega)]
end Go.Proofs.Ytjehhhlhalkieaa.Call
namespace Go.Proofs.Ytjehhhlhalkieaa.C
open Go.RowKit Go.Proofs.YtjehhhlhalkieaaW.PrintWords Go.Proofs.YtjehhhlhalkieaaW.PrintLast Go.Proofs.YtjehhhlhalkieaaW.PrintMore
attribute [local go_sem] max2_int min2_int max_two min_two max_three min_three max_four min_four
set_option linter.unusedVariables false
set_option linter.unusedSimpArgs false
def newellaw19_awake.f (k : Nat)  : Option (Bool) := (call_Press.f k 4 2 ([] : List (S56)) ([] : List (S62)) 0 2 0).bind fun bt136 => ((call_Press.f k 4 2 bt136.1 bt136.2.1 1 2 0).bind fun bt144 => ((call_Give.f k 4 2 bt144.1 bt144.2.1 2 1 1).bind fun bt152 => ((call_View.f k 4 2 bt152.1 bt152.2.1 1).bind fun bt160 => ((call_Serve.f k 4 2 bt152.1 bt152.2.1 0 2 1).bind fun bt171 => (if bt136.2.2 = 0 then (if bt144.2.2 = 0 then ((newelref19_Same.f k bt144.1 bt144.2.1 (([(⟨2, (-1), (-1)⟩ : S56), (⟨2, 1, (-1)⟩ : S56)] : List (S56))) ([] : List (S62))).bind fun t182 => (if t182 = true then (if bt152.2.2 = 0 then (if (bt160.2.1.length : Int) = 1 then (if bt160.2.2.2 = 0 then (if (bt171.1.length : Int) = 1 then (if bt171.2.2 = 0 then ((call_Same.f k bt136.1 bt136.2.1 bt136.1 bt136.2.1).bind fun t183 => (if t183 = true then ((call_Same.f k bt136.1 bt136.2.1 bt144.1 bt144.2.1).bind fun t184 => (if t184 = true then (none) else ((call_Check.f k 4 2 bt144.1 bt144.2.1).bind fun t185 => (some (t185 == 0))))) else (none))) else (none)) else (none)) else (none)) else (none)) else (none)) else (none))) else (none)) else (none))))))
theorem newellaw19_awake.mono : ∀ k, LeO (newellaw19_awake.f k ) (newellaw19_awake.f (k + 1) ) := by
 intro  k
 unfold newellaw19_awake.f
 repeat' first
   | (with_reducible exact call_Check.mono _ _ _ _ _)
   | (with_reducible exact call_Give.mono _ _ _ _ _ _ _ _)
   | (with_reducible exact call_Press.mono _ _ _ _ _ _ _ _)
   | (with_reducible exact call_Same.mono _ _ _ _ _)
   | (with_reducible exact call_Serve.mono _ _ _ _ _ _ _ _)
   | (with_reducible exact call_View.mono _ _ _ _ _ _)
   | (with_reducible exact newelref19_Same.mono _ _ _ _ _)
   | (with_reducible exact LeO.refl _)
   | (with_reducible exact LeO.none _)
   | (with_reducible refine LeO.ite ?_ ?_)
   | (with_reducible refine LeO.bind ?_ (fun _ => ?_))
   | exact call_Check.mono _ _ _ _ _
   | exact call_Give.mono _ _ _ _ _ _ _ _
   | exact call_Press.mono _ _ _ _ _ _ _ _
   | exact call_Same.mono _ _ _ _ _
   | exact call_Serve.mono _ _ _ _ _ _ _ _
   | exact call_View.mono _ _ _ _ _ _
   | exact newelref19_Same.mono _ _ _ _ _
   | exact LeO.none _
   | refine LeO.ite ?_ ?_
   | refine LeO.bind ?_ (fun _ => ?_)
set_option maxHeartbeats 8000000 in
set_option maxRecDepth 100000 in
theorem newellaw19_awake.calls (k : Nat)  (r : Bool) (w : World) (h : newellaw19_awake.f k  = some r) :
  Calls Try.prog 10 #[] w fun e w' => e = .returned (.bool r) ∧ Below w.heap.size w w' := by
 have hu23 := Try.underlying23
 have hu27 := Try.underlying27
 have hu29 := Try.underlying29
 have hu56 := Try.underlying56
 have hu47 := Try.underlying47
 have hu43 := Try.underlying43
 have HB := Aside0.mk (Below.refl w.heap.size w)
 have H : ((call_Press.f k 4 2 ([] : List (S56)) ([] : List (S62)) 0 2 0).bind fun bt136 => ((call_Press.f k 4 2 bt136.1 bt136.2.1 1 2 0).bind fun bt144 => ((call_Give.f k 4 2 bt144.1 bt144.2.1 2 1 1).bind fun bt152 => ((call_View.f k 4 2 bt152.1 bt152.2.1 1).bind fun bt160 => ((call_Serve.f k 4 2 bt152.1 bt152.2.1 0 2 1).bind fun bt171 => (if bt136.2.2 = 0 then (if bt144.2.2 = 0 then ((newelref19_Same.f k bt144.1 bt144.2.1 (([(⟨2, (-1), (-1)⟩ : S56), (⟨2, 1, (-1)⟩ : S56)] : List (S56))) ([] : List (S62))).bind fun t182 => (if t182 = true then (if bt152.2.2 = 0 then (if (bt160.2.1.length : Int) = 1 then (if bt160.2.2.2 = 0 then (if (bt171.1.length : Int) = 1 then (if bt171.2.2 = 0 then ((call_Same.f k bt136.1 bt136.2.1 bt136.1 bt136.2.1).bind fun t183 => (if t183 = true then ((call_Same.f k bt136.1 bt136.2.1 bt144.1 bt144.2.1).bind fun t184 => (if t184 = true then (none) else ((call_Check.f k 4 2 bt144.1 bt144.2.1).bind fun t185 => (some (t185 == 0))))) else (none))) else (none)) else (none)) else (none)) else (none)) else (none)) else (none))) else (none)) else (none))))))) = some r := h
 clear h
 replace H := Option.bind_eq_some_iff.mp H
 obtain ⟨⟨t136, t139, t142⟩, A10, H⟩ := H
 replace H : ((call_Press.f k 4 2 t136 t139 1 2 0).bind fun bt144 => ((call_Give.f k 4 2 bt144.1 bt144.2.1 2 1 1).bind fun bt152 => ((call_View.f k 4 2 bt152.1 bt152.2.1 1).bind fun bt160 => ((call_Serve.f k 4 2 bt152.1 bt152.2.1 0 2 1).bind fun bt171 => (if t142 = 0 then (if bt144.2.2 = 0 then ((newelref19_Same.f k bt144.1 bt144.2.1 (([(⟨2, (-1), (-1)⟩ : S56), (⟨2, 1, (-1)⟩ : S56)] : List (S56))) ([] : List (S62))).bind fun t182 => (if t182 = true then (if bt152.2.2 = 0 then (if (bt160.2.1.length : Int) = 1 then (if bt160.2.2.2 = 0 then (if (bt171.1.length : Int) = 1 then (if bt171.2.2 = 0 then ((call_Same.f k t136 t139 t136 t139).bind fun t183 => (if t183 = true then ((call_Same.f k t136 t139 bt144.1 bt144.2.1).bind fun t184 => (if t184 = true then (none) else ((call_Check.f k 4 2 bt144.1 bt144.2.1).bind fun t185 => (some (t185 == 0))))) else (none))) else (none)) else (none)) else (none)) else (none)) else (none)) else (none))) else (none)) else (none)))))) = some r := H
 have A1 := Aside0.mk A10
 clear A10
 replace H := Option.bind_eq_some_iff.mp H
 obtain ⟨⟨t144, t147, t150⟩, A20, H⟩ := H
 replace H : ((call_Give.f k 4 2 t144 t147 2 1 1).bind fun bt152 => ((call_View.f k 4 2 bt152.1 bt152.2.1 1).bind fun bt160 => ((call_Serve.f k 4 2 bt152.1 bt152.2.1 0 2 1).bind fun bt171 => (if t142 = 0 then (if t150 = 0 then ((newelref19_Same.f k t144 t147 (([(⟨2, (-1), (-1)⟩ : S56), (⟨2, 1, (-1)⟩ : S56)] : List (S56))) ([] : List (S62))).bind fun t182 => (if t182 = true then (if bt152.2.2 = 0 then (if (bt160.2.1.length : Int) = 1 then (if bt160.2.2.2 = 0 then (if (bt171.1.length : Int) = 1 then (if bt171.2.2 = 0 then ((call_Same.f k t136 t139 t136 t139).bind fun t183 => (if t183 = true then ((call_Same.f k t136 t139 t144 t147).bind fun t184 => (if t184 = true then (none) else ((call_Check.f k 4 2 t144 t147).bind fun t185 => (some (t185 == 0))))) else (none))) else (none)) else (none)) else (none)) else (none)) else (none)) else (none))) else (none)) else (none))))) = some r := H
 have A2 := Aside0.mk A20
 clear A20
 replace H := Option.bind_eq_some_iff.mp H
 obtain ⟨⟨t152, t155, t158⟩, A30, H⟩ := H
 replace H : ((call_View.f k 4 2 t152 t155 1).bind fun bt160 => ((call_Serve.f k 4 2 t152 t155 0 2 1).bind fun bt171 => (if t142 = 0 then (if t150 = 0 then ((newelref19_Same.f k t144 t147 (([(⟨2, (-1), (-1)⟩ : S56), (⟨2, 1, (-1)⟩ : S56)] : List (S56))) ([] : List (S62))).bind fun t182 => (if t182 = true then (if t158 = 0 then (if (bt160.2.1.length : Int) = 1 then (if bt160.2.2.2 = 0 then (if (bt171.1.length : Int) = 1 then (if bt171.2.2 = 0 then ((call_Same.f k t136 t139 t136 t139).bind fun t183 => (if t183 = true then ((call_Same.f k t136 t139 t144 t147).bind fun t184 => (if t184 = true then (none) else ((call_Check.f k 4 2 t144 t147).bind fun t185 => (some (t185 == 0))))) else (none))) else (none)) else (none)) else (none)) else (none)) else (none)) else (none))) else (none)) else (none)))) = some r := H
 have A3 := Aside0.mk A30
 clear A30
 replace H := Option.bind_eq_some_iff.mp H
 obtain ⟨⟨t160, t163, t166, t169⟩, A40, H⟩ := H
 replace H : ((call_Serve.f k 4 2 t152 t155 0 2 1).bind fun bt171 => (if t142 = 0 then (if t150 = 0 then ((newelref19_Same.f k t144 t147 (([(⟨2, (-1), (-1)⟩ : S56), (⟨2, 1, (-1)⟩ : S56)] : List (S56))) ([] : List (S62))).bind fun t182 => (if t182 = true then (if t158 = 0 then (if (t163.length : Int) = 1 then (if t169 = 0 then (if (bt171.1.length : Int) = 1 then (if bt171.2.2 = 0 then ((call_Same.f k t136 t139 t136 t139).bind fun t183 => (if t183 = true then ((call_Same.f k t136 t139 t144 t147).bind fun t184 => (if t184 = true then (none) else ((call_Check.f k 4 2 t144 t147).bind fun t185 => (some (t185 == 0))))) else (none))) else (none)) else (none)) else (none)) else (none)) else (none)) else (none))) else (none)) else (none))) = some r := H
 have A4 := Aside0.mk A40
 clear A40
 replace H := Option.bind_eq_some_iff.mp H
 obtain ⟨⟨t171, t174, t177⟩, A50, H⟩ := H
 replace H : (if t142 = 0 then (if t150 = 0 then ((newelref19_Same.f k t144 t147 (([(⟨2, (-1), (-1)⟩ : S56), (⟨2, 1, (-1)⟩ : S56)] : List (S56))) ([] : List (S62))).bind fun t182 => (if t182 = true then (if t158 = 0 then (if (t163.length : Int) = 1 then (if t169 = 0 then (if (t171.length : Int) = 1 then (if t177 = 0 then ((call_Same.f k t136 t139 t136 t139).bind fun t183 => (if t183 = true then ((call_Same.f k t136 t139 t144 t147).bind fun t184 => (if t184 = true then (none) else ((call_Check.f k 4 2 t144 t147).bind fun t185 => (some (t185 == 0))))) else (none))) else (none)) else (none)) else (none)) else (none)) else (none)) else (none))) else (none)) else (none)) = some r := H
 have A5 := Aside0.mk A50
 clear A50
 by_cases c6 : t142 = 0
 ·rw [if_pos c6] at H
  have c6b0 : (t142 == 0) = true := beq_iff_eq.mpr c6
  have c6b1 : (t142 != 0) = false := bne_eq_false_iff_eq.mpr c6
  clear c6
  by_cases c7 : t150 = 0
  ·rw [if_pos c7] at H
   have c7b0 : (t150 == 0) = true := beq_iff_eq.mpr c7
   have c7b1 : (t150 != 0) = false := bne_eq_false_iff_eq.mpr c7
   clear c7
   obtain ⟨y179, hy179⟩ : ∃ y_ : List (S56), y_ = (([(⟨2, (-1), (-1)⟩ : S56), (⟨2, 1, (-1)⟩ : S56)] : List (S56))) := ⟨_, rfl⟩
   replace H : ((newelref19_Same.f k t144 t147 y179 ([] : List (S62))).bind fun t182 => (if t182 = true then (if t158 = 0 then (if (t163.length : Int) = 1 then (if t169 = 0 then (if (t171.length : Int) = 1 then (if t177 = 0 then ((call_Same.f k t136 t139 t136 t139).bind fun t183 => (if t183 = true then ((call_Same.f k t136 t139 t144 t147).bind fun t184 => (if t184 = true then (none) else ((call_Check.f k 4 2 t144 t147).bind fun t185 => (some (t185 == 0))))) else (none))) else (none)) else (none)) else (none)) else (none)) else (none)) else (none))) = some r := by first | (rw [hy179]; with_reducible exact H) | (have H2_ := (Option.bind_some _ _).symm.trans H; rw [hy179]; with_reducible exact H2_) | (have H2_ := (Option.bind_some _ _).symm.trans H; with_reducible exact H2_) | with_reducible exact H | (rw [hy179]; exact H) | exact H
   have Ny179 := Aside0.mk hy179
   clear hy179
   replace H := Option.bind_eq_some_iff.mp H
   obtain ⟨t182, A80, H⟩ := H
   replace H : (if t182 = true then (if t158 = 0 then (if (t163.length : Int) = 1 then (if t169 = 0 then (if (t171.length : Int) = 1 then (if t177 = 0 then ((call_Same.f k t136 t139 t136 t139).bind fun t183 => (if t183 = true then ((call_Same.f k t136 t139 t144 t147).bind fun t184 => (if t184 = true then (none) else ((call_Check.f k 4 2 t144 t147).bind fun t185 => (some (t185 == 0))))) else (none))) else (none)) else (none)) else (none)) else (none)) else (none)) else (none)) = some r := H
   have A8 := Aside0.mk A80
   clear A80
   by_cases c9 : t182 = true
   ·subst c9
    have H1 : (if t158 = 0 then (if (t163.length : Int) = 1 then (if t169 = 0 then (if (t171.length : Int) = 1 then (if t177 = 0 then ((call_Same.f k t136 t139 t136 t139).bind fun t183 => (if t183 = true then ((call_Same.f k t136 t139 t144 t147).bind fun t184 => (if t184 = true then (none) else ((call_Check.f k 4 2 t144 t147).bind fun t185 => (some (t185 == 0))))) else (none))) else (none)) else (none)) else (none)) else (none)) else (none)) = some r := by rw [if_pos rfl] at H; exact H
    clear H
    have H := H1
    clear H1
    by_cases c10 : t158 = 0
    ·rw [if_pos c10] at H
     have c10b0 : (t158 == 0) = true := beq_iff_eq.mpr c10
     have c10b1 : (t158 != 0) = false := bne_eq_false_iff_eq.mpr c10
     clear c10
     by_cases c11 : (t163.length : Int) = 1
     ·rw [if_pos c11] at H
      have c11b0 : ((t163.length : Int) == 1) = true := beq_iff_eq.mpr c11
      have c11b1 : ((t163.length : Int) != 1) = false := bne_eq_false_iff_eq.mpr c11
      clear c11
      by_cases c12 : t169 = 0
      ·rw [if_pos c12] at H
       have c12b0 : (t169 == 0) = true := beq_iff_eq.mpr c12
       have c12b1 : (t169 != 0) = false := bne_eq_false_iff_eq.mpr c12
       clear c12
       by_cases c13 : (t171.length : Int) = 1
       ·rw [if_pos c13] at H
        have c13b0 : ((t171.length : Int) == 1) = true := beq_iff_eq.mpr c13
        have c13b1 : ((t171.length : Int) != 1) = false := bne_eq_false_iff_eq.mpr c13
        clear c13
        by_cases c14 : t177 = 0
        ·rw [if_pos c14] at H
         have c14b0 : (t177 == 0) = true := beq_iff_eq.mpr c14
         have c14b1 : (t177 != 0) = false := bne_eq_false_iff_eq.mpr c14
         clear c14
         replace H := Option.bind_eq_some_iff.mp H
         obtain ⟨t183, A150, H⟩ := H
         replace H : (if t183 = true then ((call_Same.f k t136 t139 t144 t147).bind fun t184 => (if t184 = true then (none) else ((call_Check.f k 4 2 t144 t147).bind fun t185 => (some (t185 == 0))))) else (none)) = some r := H
         have A15 := Aside0.mk A150
         clear A150
         by_cases c16 : t183 = true
         ·subst c16
          have H1 : ((call_Same.f k t136 t139 t144 t147).bind fun t184 => (if t184 = true then (none) else ((call_Check.f k 4 2 t144 t147).bind fun t185 => (some (t185 == 0))))) = some r := by rw [if_pos rfl] at H; exact H
          clear H
          have H := H1
          clear H1
          replace H := Option.bind_eq_some_iff.mp H
          obtain ⟨t184, A170, H⟩ := H
          replace H : (if t184 = true then (none) else ((call_Check.f k 4 2 t144 t147).bind fun t185 => (some (t185 == 0)))) = some r := H
          have A17 := Aside0.mk A170
          clear A170
          by_cases c18 : t184 = true
          ·subst c18
           have H1 : (none) = some r := by rw [if_pos rfl] at H; exact H
           clear H
           have H := H1
           clear H1
           exact absurd H (by simp)
          ·replace c18 := Bool.eq_false_iff.mpr c18
           subst c18
           have H1 : ((call_Check.f k 4 2 t144 t147).bind fun t185 => (some (t185 == 0))) = some r := by rw [if_neg (show ¬ (false = true) by decide)] at H; exact H
           clear H
           have H := H1
           clear H1
           replace H := Option.bind_eq_some_iff.mp H
           obtain ⟨t185, A190, H⟩ := H
           replace H : (some (t185 == 0)) = some r := H
           have A19 := Aside0.mk A190
           clear A190
           obtain rfl := Option.some.inj H
           go_enter Try.func10, Try.ntmps10
           go_wp2_with (first | ((with_reducible refine gate_dst (N := 1) rfl ?_); (try (refine gate_guard (by rfl) ?_; dsimp only)); refine box_event ?hg (N := 1) ?hd (cs := #[.int .i64 0, .int .i64 0]) (t := 23) ?hr ?_; (case hd => rfl); (case hg => rfl); (case hr => go_simp <;> rfl); intro gb135 hg w20 hbox hb; have BK135 := Aside0.mk hbox; have GW135 := sGe hg; have GE135 := sGe hg; replace HB := sHb hb; clear hb hbox hg; have hcz21_0 : w20.cell? ⟨gb135, 0, none⟩ = some (.int .i64 0) := (blk_cell BK135.out 0).trans rfl; have hcz21_1 : w20.cell? ⟨gb135, 1, none⟩ = some (.int .i64 0) := (blk_cell BK135.out 1).trans rfl; have hfz21_0 := blk_frozen BK135.out 0; have hfz21_1 := blk_frozen BK135.out 1) | ((with_reducible refine gate_callee (f := 11) rfl ?_); refine goesL_ (some 17) rfl rfl Try.func11 (by kernel_rfl) rfl #[.agg #[.int .i64 4, .int .i64 2], .agg #[.slice none 0 0, .slice none 0 0], .agg #[.int .i64 0, .int .i64 2, .int .i64 0]] rfl (by simp only [List.map_toArray, List.map_cons, List.map_nil] <;> rfl) ?_; (refine (call_Press.calls k 4 2 _ _ ([] : List (S56)) _ _ ([] : List (S62)) 0 2 0 t136 t139 t142 _ ?side1 ?side2 ?side3 ?side4 A1.out).mono ?_); (case side1 => exact Kd.C_nil _ _); (case side2 => exact Nat.le_refl _); (case side3 => exact Kd.C_nil _ _); (case side4 => exact Nat.le_refl _); rintro e w22 ⟨v137, v140, rfl, ho0, ho1, hb⟩; refine ⟨_, rfl, ?_⟩; have HO138 := Aside0.mk (Kd.R_lower ho0 (below_size bel)); have HO141 := Aside0.mk (Kd.R_lower ho1 (below_size bel)); replace BK135 := Aside0.mk (blk_below (g := gb135) (o := .cells #[.int .i64 4, .int .i64 2] 23 (0, 0)) (by (with_reducible repeat (first | refine blk_drewN ?_ _ | refine blk_drew ?_ | refine blk_alloc ?_ _)); refine blk_put (cs := #[.int .i64 4, .int .i64 0]) ?_ 1 _ rfl; (with_reducible repeat (first | refine blk_drewN ?_ _ | refine blk_drew ?_ | refine blk_alloc ?_ _)); refine blk_put (cs := #[.int .i64 0, .int .i64 0]) ?_ 0 _ rfl; (with_reducible repeat (first | refine blk_drewN ?_ _ | refine blk_drew ?_ | refine blk_alloc ?_ _)); exact BK135.out) hb); replace HB := sHb hb; (try clear hb); (try clear hb2); (try clear hk); (try clear hi); (try clear ho0); (try clear ho1)) | ((with_reducible refine gate_dst (N := 2) rfl ?_); (try (refine gate_guard (by rfl) ?_; dsimp only)); refine box_event ?hg (N := 2) ?hd (cs := #[.slice none 0 0, .slice none 0 0]) (t := 27) ?hr ?_; (case hd => rfl); (case hg => rfl); (case hr => go_simp <;> rfl); intro gb143 hg w23 hbox hb; have BK143 := Aside0.mk hbox; have GW143 := sGe hg; have GE143 := sGe hg; have NB135_143 := sNl BK135 hg; have NB143_135 := sNg BK135 hg; replace HO138 := sRb HO138 hb; replace HO141 := sRb HO141 hb; replace BK135 := sBk BK135 hb; replace HB := sHb hb; clear hb hbox hg; obtain ⟨Ao24, co24, eo24⟩ := Kd.R_slice HO138.out; subst eo24; have hnb25 := NB143_135.out; have hnc25 := NB135_143.out; have hcz26_0 : w23.cell? ⟨gb143, 0, none⟩ = some (.slice none 0 0) := (blk_cell BK143.out 0).trans rfl; have hcz26_1 : w23.cell? ⟨gb143, 1, none⟩ = some (.slice none 0 0) := (blk_cell BK143.out 1).trans rfl; have hfz26_0 := blk_frozen BK143.out 0; have hfz26_1 := blk_frozen BK143.out 1; obtain ⟨Ao27, co27, eo27⟩ := Kd.R_slice HO141.out; subst eo27; have hcz28_0 : w23.cell? ⟨gb135, 0, none⟩ = some (.int .i64 4) := (blk_cell BK135.out 0).trans rfl; have hcz28_1 : w23.cell? ⟨gb135, 1, none⟩ = some (.int .i64 2) := (blk_cell BK135.out 1).trans rfl; have hfz28_0 := blk_frozen BK135.out 0; have hfz28_1 := blk_frozen BK135.out 1) | ((with_reducible refine gate_callee (f := 11) rfl ?_); refine goesL_ (some 24) rfl rfl Try.func11 (by kernel_rfl) rfl #[.agg #[.int .i64 4, .int .i64 2], .agg #[.slice Ao24 t136.length co24, .slice Ao27 t139.length co27], .agg #[.int .i64 1, .int .i64 2, .int .i64 0]] rfl (by simp only [List.map_toArray, List.map_cons, List.map_nil] <;> rfl) ?_; (with_reducible refine (call_Press.calls k 4 2 _ _ t136 _ _ t139 1 2 0 t144 t147 t150 _ ?side1 ?side2 ?side3 ?side4 A2.out).mono ?_); (case side1 => refine (Kd.R_reads' (e := 56) (base := w.heap.size) (ok := fun k_ => True) (n := t136.length) (c := co24) ?_).2.2; exact (by (with_reducible repeat (first | apply Kd.R_alloc | apply Kd.R_drewN | apply Kd.R_drew)); exact (Kd.R_mono (Kd.R_far (Kd.R_far (Kd.R_types HO138.out BK143.out (by decide)) (fun _ hk => hk.2) _) (fun _ hk => hk.2) _) (fun _ h_ => h_.1)))); (case side2 => exact (Kd.R_reads' HO138.out).2.1); (case side3 => refine (Kd.R_reads' (e := 62) (base := w.heap.size) (ok := fun k_ => True) (n := t139.length) (c := co27) ?_).2.2; exact (by (with_reducible repeat (first | apply Kd.R_alloc | apply Kd.R_drewN | apply Kd.R_drew)); exact (Kd.R_mono (Kd.R_far (Kd.R_far (Kd.R_types HO141.out BK143.out (by decide)) (fun _ hk => hk.2) _) (fun _ hk => hk.2) _) (fun _ h_ => h_.1)))); (case side4 => exact (Kd.R_reads' HO141.out).2.1); rintro e w29 ⟨v145, v148, rfl, ho0, ho1, hb⟩; refine ⟨_, rfl, ?_⟩; have HO146 := Aside0.mk (Kd.R_lower (Kd.R_new' ho0 (Kd.R_lt (by (with_reducible repeat (first | apply Kd.R_alloc | apply Kd.R_drewN | apply Kd.R_drew)); exact (Kd.R_mono (Kd.R_far (Kd.R_far (Kd.R_types HO138.out BK143.out (by decide)) (fun _ hk => hk.2) _) (fun _ hk => hk.2) _) (fun _ h_ => h_.1))))) (below_size bel)); have HO149 := Aside0.mk (Kd.R_lower (Kd.R_new' ho1 (Kd.R_lt (by (with_reducible repeat (first | apply Kd.R_alloc | apply Kd.R_drewN | apply Kd.R_drew)); exact (Kd.R_mono (Kd.R_far (Kd.R_far (Kd.R_types HO141.out BK143.out (by decide)) (fun _ hk => hk.2) _) (fun _ hk => hk.2) _) (fun _ h_ => h_.1))))) (below_size bel)); replace HO138 := Aside0.mk (Kd.R_elder' (by (with_reducible repeat (first | apply Kd.R_alloc | apply Kd.R_drewN | apply Kd.R_drew)); exact (Kd.R_mono (Kd.R_far (Kd.R_far (Kd.R_types HO138.out BK143.out (by decide)) (fun _ hk => hk.2) _) (fun _ hk => hk.2) _) (fun _ h_ => h_.1))) (Kd.R_base ho0) hb); replace HO141 := Aside0.mk (Kd.R_elder' (by (with_reducible repeat (first | apply Kd.R_alloc | apply Kd.R_drewN | apply Kd.R_drew)); exact (Kd.R_mono (Kd.R_far (Kd.R_far (Kd.R_types HO141.out BK143.out (by decide)) (fun _ hk => hk.2) _) (fun _ hk => hk.2) _) (fun _ h_ => h_.1))) (Kd.R_base ho1) hb); replace BK135 := sBk BK135 hb; replace BK143 := Aside0.mk (blk_below (g := gb143) (o := .cells #[.slice Ao24 t136.length co24, .slice Ao27 t139.length co27] 27 (0, 0)) (by (with_reducible repeat (first | refine blk_drewN ?_ _ | refine blk_drew ?_ | refine blk_alloc ?_ _)); refine blk_put (cs := #[.slice Ao24 t136.length co24, .slice none 0 0]) ?_ 1 _ rfl; (with_reducible repeat (first | refine blk_drewN ?_ _ | refine blk_drew ?_ | refine blk_alloc ?_ _)); refine blk_put (cs := #[.slice none 0 0, .slice none 0 0]) ?_ 0 _ rfl; (with_reducible repeat (first | refine blk_drewN ?_ _ | refine blk_drew ?_ | refine blk_alloc ?_ _)); exact BK143.out) hb); replace HB := sHb hb; (try clear hb); (try clear hb2); (try clear hk); (try clear hi); (try clear ho0); (try clear ho1)) | ((with_reducible refine gate_dst (N := 4) rfl ?_); (try (refine gate_guard (by rfl) ?_; dsimp only)); refine box_event ?hg (N := 4) ?hd (cs := #[.slice none 0 0, .slice none 0 0]) (t := 27) ?hr ?_; (case hd => rfl); (case hg => rfl); (case hr => go_simp <;> rfl); intro gb151 hg w30 hbox hb; have BK151 := Aside0.mk hbox; have GW151 := sGe hg; have GE151 := sGe hg; have NB135_151 := sNl BK135 hg; have NB151_135 := sNg BK135 hg; have NB143_151 := sNl BK143 hg; have NB151_143 := sNg BK143 hg; replace HO138 := sRb HO138 hb; replace HO141 := sRb HO141 hb; replace HO146 := sRb HO146 hb; replace HO149 := sRb HO149 hb; replace BK135 := sBk BK135 hb; replace BK143 := sBk BK143 hb; replace HB := sHb hb; clear hb hbox hg; obtain ⟨Ao31, co31, eo31⟩ := Kd.R_slice HO146.out; subst eo31; have hnb32 := NB151_135.out; have hnc32 := NB135_151.out; have hnb33 := NB151_143.out; have hnc33 := NB143_151.out; have hcz34_0 : w30.cell? ⟨gb151, 0, none⟩ = some (.slice none 0 0) := (blk_cell BK151.out 0).trans rfl; have hcz34_1 : w30.cell? ⟨gb151, 1, none⟩ = some (.slice none 0 0) := (blk_cell BK151.out 1).trans rfl; have hfz34_0 := blk_frozen BK151.out 0; have hfz34_1 := blk_frozen BK151.out 1; obtain ⟨Ao35, co35, eo35⟩ := Kd.R_slice HO149.out; subst eo35; have hcz36_0 : w30.cell? ⟨gb135, 0, none⟩ = some (.int .i64 4) := (blk_cell BK135.out 0).trans rfl; have hcz36_1 : w30.cell? ⟨gb135, 1, none⟩ = some (.int .i64 2) := (blk_cell BK135.out 1).trans rfl; have hfz36_0 := blk_frozen BK135.out 0; have hfz36_1 := blk_frozen BK135.out 1) | ((with_reducible refine gate_callee (f := 24) rfl ?_); refine goesL_ (some 31) rfl rfl Try.func24 (by kernel_rfl) rfl #[.agg #[.int .i64 4, .int .i64 2], .agg #[.slice Ao31 t144.length co31, .slice Ao35 t147.length co35], .agg #[.int .i64 2, .int .i64 1, .int .i64 1]] rfl (by simp only [List.map_toArray, List.map_cons, List.map_nil] <;> rfl) ?_; (with_reducible refine (call_Give.calls k 4 2 _ _ t144 _ _ t147 2 1 1 t152 t155 t158 _ ?side1 ?side2 ?side3 ?side4 A3.out).mono ?_); (case side1 => refine (Kd.R_reads' (e := 56) (base := w.heap.size) (ok := fun k_ => (True ∧ some k_ ≠ (.slice Ao24 t136.length co24 : Value).ownBlock)) (n := t144.length) (c := co31) ?_).2.2; exact (by (with_reducible repeat (first | apply Kd.R_alloc | apply Kd.R_drewN | apply Kd.R_drew)); exact (Kd.R_mono (Kd.R_far (Kd.R_far (Kd.R_types HO146.out BK151.out (by decide)) (fun _ hk => hk.2) _) (fun _ hk => hk.2) _) (fun _ h_ => h_.1)))); (case side2 => exact (Kd.R_reads' HO146.out).2.1); (case side3 => refine (Kd.R_reads' (e := 62) (base := w.heap.size) (ok := fun k_ => (True ∧ some k_ ≠ (.slice Ao27 t139.length co27 : Value).ownBlock)) (n := t147.length) (c := co35) ?_).2.2; exact (by (with_reducible repeat (first | apply Kd.R_alloc | apply Kd.R_drewN | apply Kd.R_drew)); exact (Kd.R_mono (Kd.R_far (Kd.R_far (Kd.R_types HO149.out BK151.out (by decide)) (fun _ hk => hk.2) _) (fun _ hk => hk.2) _) (fun _ h_ => h_.1)))); (case side4 => exact (Kd.R_reads' HO149.out).2.1); rintro e w37 ⟨v153, v156, rfl, ho0, ho1, hb⟩; refine ⟨_, rfl, ?_⟩; have HO154 := Aside0.mk (Kd.R_lower (Kd.R_new' (Kd.R_new' ho0 (Kd.R_lt (by (with_reducible repeat (first | apply Kd.R_alloc | apply Kd.R_drewN | apply Kd.R_drew)); exact (Kd.R_mono (Kd.R_far (Kd.R_far (Kd.R_types HO138.out BK151.out (by decide)) (fun _ hk => hk.2) _) (fun _ hk => hk.2) _) (fun _ h_ => h_.1))))) (Kd.R_lt (by (with_reducible repeat (first | apply Kd.R_alloc | apply Kd.R_drewN | apply Kd.R_drew)); exact (Kd.R_mono (Kd.R_far (Kd.R_far (Kd.R_types HO146.out BK151.out (by decide)) (fun _ hk => hk.2) _) (fun _ hk => hk.2) _) (fun _ h_ => h_.1))))) (below_size bel)); have HO157 := Aside0.mk (Kd.R_lower (Kd.R_new' (Kd.R_new' ho1 (Kd.R_lt (by (with_reducible repeat (first | apply Kd.R_alloc | apply Kd.R_drewN | apply Kd.R_drew)); exact (Kd.R_mono (Kd.R_far (Kd.R_far (Kd.R_types HO141.out BK151.out (by decide)) (fun _ hk => hk.2) _) (fun _ hk => hk.2) _) (fun _ h_ => h_.1))))) (Kd.R_lt (by (with_reducible repeat (first | apply Kd.R_alloc | apply Kd.R_drewN | apply Kd.R_drew)); exact (Kd.R_mono (Kd.R_far (Kd.R_far (Kd.R_types HO149.out BK151.out (by decide)) (fun _ hk => hk.2) _) (fun _ hk => hk.2) _) (fun _ h_ => h_.1))))) (below_size bel)); replace HO138 := Aside0.mk (Kd.R_elder' (by (with_reducible repeat (first | apply Kd.R_alloc | apply Kd.R_drewN | apply Kd.R_drew)); exact (Kd.R_mono (Kd.R_far (Kd.R_far (Kd.R_types HO138.out BK151.out (by decide)) (fun _ hk => hk.2) _) (fun _ hk => hk.2) _) (fun _ h_ => h_.1))) (Kd.R_base ho0) hb); replace HO141 := Aside0.mk (Kd.R_elder' (by (with_reducible repeat (first | apply Kd.R_alloc | apply Kd.R_drewN | apply Kd.R_drew)); exact (Kd.R_mono (Kd.R_far (Kd.R_far (Kd.R_types HO141.out BK151.out (by decide)) (fun _ hk => hk.2) _) (fun _ hk => hk.2) _) (fun _ h_ => h_.1))) (Kd.R_base ho1) hb); replace HO146 := Aside0.mk (Kd.R_elder' (by (with_reducible repeat (first | apply Kd.R_alloc | apply Kd.R_drewN | apply Kd.R_drew)); exact (Kd.R_mono (Kd.R_far (Kd.R_far (Kd.R_types HO146.out BK151.out (by decide)) (fun _ hk => hk.2) _) (fun _ hk => hk.2) _) (fun _ h_ => h_.1))) (Kd.R_base ho0) hb); replace HO149 := Aside0.mk (Kd.R_elder' (by (with_reducible repeat (first | apply Kd.R_alloc | apply Kd.R_drewN | apply Kd.R_drew)); exact (Kd.R_mono (Kd.R_far (Kd.R_far (Kd.R_types HO149.out BK151.out (by decide)) (fun _ hk => hk.2) _) (fun _ hk => hk.2) _) (fun _ h_ => h_.1))) (Kd.R_base ho1) hb); replace BK135 := sBk BK135 hb; replace BK143 := sBk BK143 hb; replace BK151 := Aside0.mk (blk_below (g := gb151) (o := .cells #[.slice Ao31 t144.length co31, .slice Ao35 t147.length co35] 27 (0, 0)) (by (with_reducible repeat (first | refine blk_drewN ?_ _ | refine blk_drew ?_ | refine blk_alloc ?_ _)); refine blk_put (cs := #[.slice Ao31 t144.length co31, .slice none 0 0]) ?_ 1 _ rfl; (with_reducible repeat (first | refine blk_drewN ?_ _ | refine blk_drew ?_ | refine blk_alloc ?_ _)); refine blk_put (cs := #[.slice none 0 0, .slice none 0 0]) ?_ 0 _ rfl; (with_reducible repeat (first | refine blk_drewN ?_ _ | refine blk_drew ?_ | refine blk_alloc ?_ _)); exact BK151.out) hb); replace HB := sHb hb; (try clear hb); (try clear hb2); (try clear hk); (try clear hi); (try clear ho0); (try clear ho1)) | ((with_reducible refine gate_dst (N := 6) rfl ?_); (try (refine gate_guard (by rfl) ?_; dsimp only)); refine box_event ?hg (N := 6) ?hd (cs := #[.slice none 0 0, .slice none 0 0]) (t := 27) ?hr ?_; (case hd => rfl); (case hg => rfl); (case hr => go_simp <;> rfl); intro gb159 hg w38 hbox hb; have BK159 := Aside0.mk hbox; have GW159 := sGe hg; have GE159 := sGe hg; have NB135_159 := sNl BK135 hg; have NB159_135 := sNg BK135 hg; have NB143_159 := sNl BK143 hg; have NB159_143 := sNg BK143 hg; have NB151_159 := sNl BK151 hg; have NB159_151 := sNg BK151 hg; replace HO138 := sRb HO138 hb; replace HO141 := sRb HO141 hb; replace HO146 := sRb HO146 hb; replace HO149 := sRb HO149 hb; replace HO154 := sRb HO154 hb; replace HO157 := sRb HO157 hb; replace BK135 := sBk BK135 hb; replace BK143 := sBk BK143 hb; replace BK151 := sBk BK151 hb; replace HB := sHb hb; clear hb hbox hg; obtain ⟨Ao39, co39, eo39⟩ := Kd.R_slice HO154.out; subst eo39; have hnb40 := NB159_135.out; have hnc40 := NB135_159.out; have hnb41 := NB159_143.out; have hnc41 := NB143_159.out; have hnb42 := NB159_151.out; have hnc42 := NB151_159.out; have hcz43_0 : w38.cell? ⟨gb159, 0, none⟩ = some (.slice none 0 0) := (blk_cell BK159.out 0).trans rfl; have hcz43_1 : w38.cell? ⟨gb159, 1, none⟩ = some (.slice none 0 0) := (blk_cell BK159.out 1).trans rfl; have hfz43_0 := blk_frozen BK159.out 0; have hfz43_1 := blk_frozen BK159.out 1; obtain ⟨Ao44, co44, eo44⟩ := Kd.R_slice HO157.out; subst eo44; have hcz45_0 : w38.cell? ⟨gb135, 0, none⟩ = some (.int .i64 4) := (blk_cell BK135.out 0).trans rfl; have hcz45_1 : w38.cell? ⟨gb135, 1, none⟩ = some (.int .i64 2) := (blk_cell BK135.out 1).trans rfl; have hfz45_0 := blk_frozen BK135.out 0; have hfz45_1 := blk_frozen BK135.out 1) | ((with_reducible refine gate_callee (f := 19) rfl ?_); refine goesL_ (some 37) rfl rfl Try.func19 (by kernel_rfl) rfl #[.agg #[.int .i64 4, .int .i64 2], .agg #[.slice Ao39 t152.length co39, .slice Ao44 t155.length co44], .int .i64 1] rfl (by simp only [List.map_toArray, List.map_cons, List.map_nil] <;> rfl) ?_; (with_reducible refine (call_View.calls k 4 2 _ _ t152 _ _ t155 1 t160 t163 t166 t169 _ ?side1 ?side2 ?side3 ?side4 A4.out).mono ?_); (case side1 => refine (Kd.R_reads' (e := 56) (base := w.heap.size) (ok := fun k_ => ((True ∧ some k_ ≠ (.slice Ao24 t136.length co24 : Value).ownBlock) ∧ some k_ ≠ (.slice Ao31 t144.length co31 : Value).ownBlock)) (n := t152.length) (c := co39) ?_).2.2; exact (by (with_reducible repeat (first | apply Kd.R_alloc | apply Kd.R_drewN | apply Kd.R_drew)); exact (Kd.R_mono (Kd.R_far (Kd.R_far (Kd.R_types HO154.out BK159.out (by decide)) (fun _ hk => hk.2) _) (fun _ hk => hk.2) _) (fun _ h_ => h_.1)))); (case side2 => exact (Kd.R_reads' HO154.out).2.1); (case side3 => refine (Kd.R_reads' (e := 62) (base := w.heap.size) (ok := fun k_ => ((True ∧ some k_ ≠ (.slice Ao27 t139.length co27 : Value).ownBlock) ∧ some k_ ≠ (.slice Ao35 t147.length co35 : Value).ownBlock)) (n := t155.length) (c := co44) ?_).2.2; exact (by (with_reducible repeat (first | apply Kd.R_alloc | apply Kd.R_drewN | apply Kd.R_drew)); exact (Kd.R_mono (Kd.R_far (Kd.R_far (Kd.R_types HO157.out BK159.out (by decide)) (fun _ hk => hk.2) _) (fun _ hk => hk.2) _) (fun _ h_ => h_.1)))); (case side4 => exact (Kd.R_reads' HO157.out).2.1); rintro e w46 ⟨v161, v164, v167, rfl, ho0, ho1, ho2, hb⟩; refine ⟨_, rfl, ?_⟩; have HO162 := Aside0.mk (Kd.R_lower ho0 (below_size bel)); have HO165 := Aside0.mk (Kd.R_lower ho1 (below_size bel)); have HO168 := Aside0.mk (Kd.R_lower ho2 (below_size bel)); replace HO138 := Aside0.mk (Kd.R_below (by (with_reducible repeat (first | apply Kd.R_alloc | apply Kd.R_drewN | apply Kd.R_drew)); exact (Kd.R_mono (Kd.R_far (Kd.R_far (Kd.R_types HO138.out BK159.out (by decide)) (fun _ hk => hk.2) _) (fun _ hk => hk.2) _) (fun _ h_ => h_.1))) hb); replace HO141 := Aside0.mk (Kd.R_below (by (with_reducible repeat (first | apply Kd.R_alloc | apply Kd.R_drewN | apply Kd.R_drew)); exact (Kd.R_mono (Kd.R_far (Kd.R_far (Kd.R_types HO141.out BK159.out (by decide)) (fun _ hk => hk.2) _) (fun _ hk => hk.2) _) (fun _ h_ => h_.1))) hb); replace HO146 := Aside0.mk (Kd.R_below (by (with_reducible repeat (first | apply Kd.R_alloc | apply Kd.R_drewN | apply Kd.R_drew)); exact (Kd.R_mono (Kd.R_far (Kd.R_far (Kd.R_types HO146.out BK159.out (by decide)) (fun _ hk => hk.2) _) (fun _ hk => hk.2) _) (fun _ h_ => h_.1))) hb); replace HO149 := Aside0.mk (Kd.R_below (by (with_reducible repeat (first | apply Kd.R_alloc | apply Kd.R_drewN | apply Kd.R_drew)); exact (Kd.R_mono (Kd.R_far (Kd.R_far (Kd.R_types HO149.out BK159.out (by decide)) (fun _ hk => hk.2) _) (fun _ hk => hk.2) _) (fun _ h_ => h_.1))) hb); replace HO154 := Aside0.mk (Kd.R_below (by (with_reducible repeat (first | apply Kd.R_alloc | apply Kd.R_drewN | apply Kd.R_drew)); exact (Kd.R_mono (Kd.R_far (Kd.R_far (Kd.R_types HO154.out BK159.out (by decide)) (fun _ hk => hk.2) _) (fun _ hk => hk.2) _) (fun _ h_ => h_.1))) hb); replace HO157 := Aside0.mk (Kd.R_below (by (with_reducible repeat (first | apply Kd.R_alloc | apply Kd.R_drewN | apply Kd.R_drew)); exact (Kd.R_mono (Kd.R_far (Kd.R_far (Kd.R_types HO157.out BK159.out (by decide)) (fun _ hk => hk.2) _) (fun _ hk => hk.2) _) (fun _ h_ => h_.1))) hb); replace BK135 := sBk BK135 hb; replace BK143 := sBk BK143 hb; replace BK151 := sBk BK151 hb; replace BK159 := Aside0.mk (blk_below (g := gb159) (o := .cells #[.slice Ao39 t152.length co39, .slice Ao44 t155.length co44] 27 (0, 0)) (by (with_reducible repeat (first | refine blk_drewN ?_ _ | refine blk_drew ?_ | refine blk_alloc ?_ _)); refine blk_put (cs := #[.slice Ao39 t152.length co39, .slice none 0 0]) ?_ 1 _ rfl; (with_reducible repeat (first | refine blk_drewN ?_ _ | refine blk_drew ?_ | refine blk_alloc ?_ _)); refine blk_put (cs := #[.slice none 0 0, .slice none 0 0]) ?_ 0 _ rfl; (with_reducible repeat (first | refine blk_drewN ?_ _ | refine blk_drew ?_ | refine blk_alloc ?_ _)); exact BK159.out) hb); replace HB := sHb hb; (try clear hb); (try clear hb2); (try clear hk); (try clear hi); (try clear ho0); (try clear ho1); (try clear ho2)) | ((with_reducible refine gate_dst (N := 8) rfl ?_); (try (refine gate_guard (by rfl) ?_; dsimp only)); refine box_event ?hg (N := 8) ?hd (cs := #[.slice none 0 0, .slice none 0 0, .slice none 0 0]) (t := 47) ?hr ?_; (case hd => rfl); (case hg => rfl); (case hr => go_simp <;> rfl); intro gb170 hg w47 hbox hb; have BK170 := Aside0.mk hbox; have GW170 := sGe hg; have GE170 := sGe hg; have NB135_170 := sNl BK135 hg; have NB170_135 := sNg BK135 hg; have NB143_170 := sNl BK143 hg; have NB170_143 := sNg BK143 hg; have NB151_170 := sNl BK151 hg; have NB170_151 := sNg BK151 hg; have NB159_170 := sNl BK159 hg; have NB170_159 := sNg BK159 hg; replace HO138 := sRb HO138 hb; replace HO141 := sRb HO141 hb; replace HO146 := sRb HO146 hb; replace HO149 := sRb HO149 hb; replace HO154 := sRb HO154 hb; replace HO157 := sRb HO157 hb; replace HO162 := sRb HO162 hb; replace HO165 := sRb HO165 hb; replace HO168 := sRb HO168 hb; replace BK135 := sBk BK135 hb; replace BK143 := sBk BK143 hb; replace BK151 := sBk BK151 hb; replace BK159 := sBk BK159 hb; replace HB := sHb hb; clear hb hbox hg; obtain ⟨Ao48, co48, eo48⟩ := Kd.R_slice HO162.out; subst eo48; have hnb49 := NB170_135.out; have hnc49 := NB135_170.out; have hnb50 := NB170_143.out; have hnc50 := NB143_170.out; have hnb51 := NB170_151.out; have hnc51 := NB151_170.out; have hnb52 := NB170_159.out; have hnc52 := NB159_170.out; have hcz53_0 : w47.cell? ⟨gb170, 0, none⟩ = some (.slice none 0 0) := (blk_cell BK170.out 0).trans rfl; have hcz53_1 : w47.cell? ⟨gb170, 1, none⟩ = some (.slice none 0 0) := (blk_cell BK170.out 1).trans rfl; have hcz53_2 : w47.cell? ⟨gb170, 2, none⟩ = some (.slice none 0 0) := (blk_cell BK170.out 2).trans rfl; have hfz53_0 := blk_frozen BK170.out 0; have hfz53_1 := blk_frozen BK170.out 1; have hfz53_2 := blk_frozen BK170.out 2; obtain ⟨Ao54, co54, eo54⟩ := Kd.R_slice HO165.out; subst eo54; obtain ⟨Ao55, co55, eo55⟩ := Kd.R_slice HO168.out; subst eo55; have hcz56_0 : w47.cell? ⟨gb135, 0, none⟩ = some (.int .i64 4) := (blk_cell BK135.out 0).trans rfl; have hcz56_1 : w47.cell? ⟨gb135, 1, none⟩ = some (.int .i64 2) := (blk_cell BK135.out 1).trans rfl; have hfz56_0 := blk_frozen BK135.out 0; have hfz56_1 := blk_frozen BK135.out 1; have hcz57_0 : w47.cell? ⟨gb159, 0, none⟩ = some (.slice Ao39 t152.length co39) := (blk_cell BK159.out 0).trans rfl; have hcz57_1 : w47.cell? ⟨gb159, 1, none⟩ = some (.slice Ao44 t155.length co44) := (blk_cell BK159.out 1).trans rfl; have hfz57_0 := blk_frozen BK159.out 0; have hfz57_1 := blk_frozen BK159.out 1) | ((with_reducible refine gate_callee (f := 18) rfl ?_); refine goesL_ (some 44) rfl rfl Try.func18 (by kernel_rfl) rfl #[.agg #[.int .i64 4, .int .i64 2], .agg #[.slice Ao39 t152.length co39, .slice Ao44 t155.length co44], .agg #[.int .i64 0, .int .i64 2, .int .i64 1]] rfl (by simp only [List.map_toArray, List.map_cons, List.map_nil] <;> rfl) ?_; (with_reducible refine (call_Serve.calls k 4 2 _ _ t152 _ _ t155 0 2 1 t171 t174 t177 _ ?side1 ?side2 ?side3 ?side4 A5.out).mono ?_); (case side1 => refine (Kd.R_reads' (e := 56) (base := w.heap.size) (ok := fun k_ => ((True ∧ some k_ ≠ (.slice Ao24 t136.length co24 : Value).ownBlock) ∧ some k_ ≠ (.slice Ao31 t144.length co31 : Value).ownBlock)) (n := t152.length) (c := co39) ?_).2.2; exact (by (with_reducible repeat (first | apply Kd.R_alloc | apply Kd.R_drewN | apply Kd.R_drew)); exact (Kd.R_mono (Kd.R_far (Kd.R_far (Kd.R_far (Kd.R_types HO154.out BK170.out (by decide)) (fun _ hk => hk.2) _) (fun _ hk => hk.2) _) (fun _ hk => hk.2) _) (fun _ h_ => h_.1)))); (case side2 => exact (Kd.R_reads' HO154.out).2.1); (case side3 => refine (Kd.R_reads' (e := 62) (base := w.heap.size) (ok := fun k_ => ((True ∧ some k_ ≠ (.slice Ao27 t139.length co27 : Value).ownBlock) ∧ some k_ ≠ (.slice Ao35 t147.length co35 : Value).ownBlock)) (n := t155.length) (c := co44) ?_).2.2; exact (by (with_reducible repeat (first | apply Kd.R_alloc | apply Kd.R_drewN | apply Kd.R_drew)); exact (Kd.R_mono (Kd.R_far (Kd.R_far (Kd.R_far (Kd.R_types HO157.out BK170.out (by decide)) (fun _ hk => hk.2) _) (fun _ hk => hk.2) _) (fun _ hk => hk.2) _) (fun _ h_ => h_.1)))); (case side4 => exact (Kd.R_reads' HO157.out).2.1); rintro e w58 ⟨v172, v175, rfl, ho0, ho1, hb⟩; refine ⟨_, rfl, ?_⟩; have HO173 := Aside0.mk (Kd.R_lower (Kd.R_new' (Kd.R_new' (Kd.R_new' ho0 (Kd.R_lt (by (with_reducible repeat (first | apply Kd.R_alloc | apply Kd.R_drewN | apply Kd.R_drew)); exact (Kd.R_mono (Kd.R_far (Kd.R_far (Kd.R_far (Kd.R_types HO138.out BK170.out (by decide)) (fun _ hk => hk.2) _) (fun _ hk => hk.2) _) (fun _ hk => hk.2) _) (fun _ h_ => h_.1))))) (Kd.R_lt (by (with_reducible repeat (first | apply Kd.R_alloc | apply Kd.R_drewN | apply Kd.R_drew)); exact (Kd.R_mono (Kd.R_far (Kd.R_far (Kd.R_far (Kd.R_types HO146.out BK170.out (by decide)) (fun _ hk => hk.2) _) (fun _ hk => hk.2) _) (fun _ hk => hk.2) _) (fun _ h_ => h_.1))))) (Kd.R_lt (by (with_reducible repeat (first | apply Kd.R_alloc | apply Kd.R_drewN | apply Kd.R_drew)); exact (Kd.R_mono (Kd.R_far (Kd.R_far (Kd.R_far (Kd.R_types HO154.out BK170.out (by decide)) (fun _ hk => hk.2) _) (fun _ hk => hk.2) _) (fun _ hk => hk.2) _) (fun _ h_ => h_.1))))) (below_size bel)); have HO176 := Aside0.mk (Kd.R_lower (Kd.R_new' (Kd.R_new' (Kd.R_new' ho1 (Kd.R_lt (by (with_reducible repeat (first | apply Kd.R_alloc | apply Kd.R_drewN | apply Kd.R_drew)); exact (Kd.R_mono (Kd.R_far (Kd.R_far (Kd.R_far (Kd.R_types HO141.out BK170.out (by decide)) (fun _ hk => hk.2) _) (fun _ hk => hk.2) _) (fun _ hk => hk.2) _) (fun _ h_ => h_.1))))) (Kd.R_lt (by (with_reducible repeat (first | apply Kd.R_alloc | apply Kd.R_drewN | apply Kd.R_drew)); exact (Kd.R_mono (Kd.R_far (Kd.R_far (Kd.R_far (Kd.R_types HO149.out BK170.out (by decide)) (fun _ hk => hk.2) _) (fun _ hk => hk.2) _) (fun _ hk => hk.2) _) (fun _ h_ => h_.1))))) (Kd.R_lt (by (with_reducible repeat (first | apply Kd.R_alloc | apply Kd.R_drewN | apply Kd.R_drew)); exact (Kd.R_mono (Kd.R_far (Kd.R_far (Kd.R_far (Kd.R_types HO157.out BK170.out (by decide)) (fun _ hk => hk.2) _) (fun _ hk => hk.2) _) (fun _ hk => hk.2) _) (fun _ h_ => h_.1))))) (below_size bel)); replace HO138 := Aside0.mk (Kd.R_elder' (by (with_reducible repeat (first | apply Kd.R_alloc | apply Kd.R_drewN | apply Kd.R_drew)); exact (Kd.R_mono (Kd.R_far (Kd.R_far (Kd.R_far (Kd.R_types HO138.out BK170.out (by decide)) (fun _ hk => hk.2) _) (fun _ hk => hk.2) _) (fun _ hk => hk.2) _) (fun _ h_ => h_.1))) (Kd.R_base ho0) hb); replace HO141 := Aside0.mk (Kd.R_elder' (by (with_reducible repeat (first | apply Kd.R_alloc | apply Kd.R_drewN | apply Kd.R_drew)); exact (Kd.R_mono (Kd.R_far (Kd.R_far (Kd.R_far (Kd.R_types HO141.out BK170.out (by decide)) (fun _ hk => hk.2) _) (fun _ hk => hk.2) _) (fun _ hk => hk.2) _) (fun _ h_ => h_.1))) (Kd.R_base ho1) hb); replace HO146 := Aside0.mk (Kd.R_elder' (by (with_reducible repeat (first | apply Kd.R_alloc | apply Kd.R_drewN | apply Kd.R_drew)); exact (Kd.R_mono (Kd.R_far (Kd.R_far (Kd.R_far (Kd.R_types HO146.out BK170.out (by decide)) (fun _ hk => hk.2) _) (fun _ hk => hk.2) _) (fun _ hk => hk.2) _) (fun _ h_ => h_.1))) (Kd.R_base ho0) hb); replace HO149 := Aside0.mk (Kd.R_elder' (by (with_reducible repeat (first | apply Kd.R_alloc | apply Kd.R_drewN | apply Kd.R_drew)); exact (Kd.R_mono (Kd.R_far (Kd.R_far (Kd.R_far (Kd.R_types HO149.out BK170.out (by decide)) (fun _ hk => hk.2) _) (fun _ hk => hk.2) _) (fun _ hk => hk.2) _) (fun _ h_ => h_.1))) (Kd.R_base ho1) hb); replace HO154 := Aside0.mk (Kd.R_elder' (by (with_reducible repeat (first | apply Kd.R_alloc | apply Kd.R_drewN | apply Kd.R_drew)); exact (Kd.R_mono (Kd.R_far (Kd.R_far (Kd.R_far (Kd.R_types HO154.out BK170.out (by decide)) (fun _ hk => hk.2) _) (fun _ hk => hk.2) _) (fun _ hk => hk.2) _) (fun _ h_ => h_.1))) (Kd.R_base ho0) hb); replace HO157 := Aside0.mk (Kd.R_elder' (by (with_reducible repeat (first | apply Kd.R_alloc | apply Kd.R_drewN | apply Kd.R_drew)); exact (Kd.R_mono (Kd.R_far (Kd.R_far (Kd.R_far (Kd.R_types HO157.out BK170.out (by decide)) (fun _ hk => hk.2) _) (fun _ hk => hk.2) _) (fun _ hk => hk.2) _) (fun _ h_ => h_.1))) (Kd.R_base ho1) hb); replace HO162 := Aside0.mk (Kd.R_below (by (with_reducible repeat (first | apply Kd.R_alloc | apply Kd.R_drewN | apply Kd.R_drew)); exact (Kd.R_mono (Kd.R_far (Kd.R_far (Kd.R_far (Kd.R_types HO162.out BK170.out (by decide)) (fun _ hk => hk.2) _) (fun _ hk => hk.2) _) (fun _ hk => hk.2) _) (fun _ h_ => h_.1))) hb); replace HO165 := Aside0.mk (Kd.R_below (by (with_reducible repeat (first | apply Kd.R_alloc | apply Kd.R_drewN | apply Kd.R_drew)); exact (Kd.R_mono (Kd.R_far (Kd.R_far (Kd.R_far (Kd.R_types HO165.out BK170.out (by decide)) (fun _ hk => hk.2) _) (fun _ hk => hk.2) _) (fun _ hk => hk.2) _) (fun _ h_ => h_.1))) hb); replace HO168 := Aside0.mk (Kd.R_below (by (with_reducible repeat (first | apply Kd.R_alloc | apply Kd.R_drewN | apply Kd.R_drew)); exact (Kd.R_mono (Kd.R_far (Kd.R_far (Kd.R_far (Kd.R_types HO168.out BK170.out (by decide)) (fun _ hk => hk.2) _) (fun _ hk => hk.2) _) (fun _ hk => hk.2) _) (fun _ h_ => h_.1))) hb); replace BK135 := sBk BK135 hb; replace BK143 := sBk BK143 hb; replace BK151 := sBk BK151 hb; replace BK159 := sBk BK159 hb; replace BK170 := Aside0.mk (blk_below (g := gb170) (o := .cells #[.slice Ao48 t160.length co48, .slice Ao54 t163.length co54, .slice Ao55 t166.length co55] 47 (0, 0)) (by (with_reducible repeat (first | refine blk_drewN ?_ _ | refine blk_drew ?_ | refine blk_alloc ?_ _)); refine blk_put (cs := #[.slice Ao48 t160.length co48, .slice Ao54 t163.length co54, .slice none 0 0]) ?_ 2 _ rfl; (with_reducible repeat (first | refine blk_drewN ?_ _ | refine blk_drew ?_ | refine blk_alloc ?_ _)); refine blk_put (cs := #[.slice Ao48 t160.length co48, .slice none 0 0, .slice none 0 0]) ?_ 1 _ rfl; (with_reducible repeat (first | refine blk_drewN ?_ _ | refine blk_drew ?_ | refine blk_alloc ?_ _)); refine blk_put (cs := #[.slice none 0 0, .slice none 0 0, .slice none 0 0]) ?_ 0 _ rfl; (with_reducible repeat (first | refine blk_drewN ?_ _ | refine blk_drew ?_ | refine blk_alloc ?_ _)); exact BK170.out) hb); replace HB := sHb hb; (try clear hb); (try clear hb2); (try clear hk); (try clear hi); (try clear ho0); (try clear ho1)) | ((with_reducible refine gate_dst (N := 10) rfl ?_); (try (refine gate_guard (by rfl) ?_; dsimp only)); refine box_event ?hg (N := 10) ?hd (cs := #[.slice none 0 0, .slice none 0 0]) (t := 27) ?hr ?_; (case hd => rfl); (case hg => rfl); (case hr => go_simp <;> rfl); intro gb178 hg w59 hbox hb; have BK178 := Aside0.mk hbox; have GW178 := sGe hg; have GE178 := sGe hg; have NB135_178 := sNl BK135 hg; have NB178_135 := sNg BK135 hg; have NB143_178 := sNl BK143 hg; have NB178_143 := sNg BK143 hg; have NB151_178 := sNl BK151 hg; have NB178_151 := sNg BK151 hg; have NB159_178 := sNl BK159 hg; have NB178_159 := sNg BK159 hg; have NB170_178 := sNl BK170 hg; have NB178_170 := sNg BK170 hg; replace HO138 := sRb HO138 hb; replace HO141 := sRb HO141 hb; replace HO146 := sRb HO146 hb; replace HO149 := sRb HO149 hb; replace HO154 := sRb HO154 hb; replace HO157 := sRb HO157 hb; replace HO162 := sRb HO162 hb; replace HO165 := sRb HO165 hb; replace HO168 := sRb HO168 hb; replace HO173 := sRb HO173 hb; replace HO176 := sRb HO176 hb; replace BK135 := sBk BK135 hb; replace BK143 := sBk BK143 hb; replace BK151 := sBk BK151 hb; replace BK159 := sBk BK159 hb; replace BK170 := sBk BK170 hb; replace HB := sHb hb; clear hb hbox hg; obtain ⟨Ao60, co60, eo60⟩ := Kd.R_slice HO173.out; subst eo60; have hnb61 := NB178_135.out; have hnc61 := NB135_178.out; have hnb62 := NB178_143.out; have hnc62 := NB143_178.out; have hnb63 := NB178_151.out; have hnc63 := NB151_178.out; have hnb64 := NB178_159.out; have hnc64 := NB159_178.out; have hnb65 := NB178_170.out; have hnc65 := NB170_178.out; have hcz66_0 : w59.cell? ⟨gb178, 0, none⟩ = some (.slice none 0 0) := (blk_cell BK178.out 0).trans rfl; have hcz66_1 : w59.cell? ⟨gb178, 1, none⟩ = some (.slice none 0 0) := (blk_cell BK178.out 1).trans rfl; have hfz66_0 := blk_frozen BK178.out 0; have hfz66_1 := blk_frozen BK178.out 1; obtain ⟨Ao67, co67, eo67⟩ := Kd.R_slice HO176.out; subst eo67; have hcz68_0 : w59.cell? ⟨gb151, 0, none⟩ = some (.slice Ao31 t144.length co31) := (blk_cell BK151.out 0).trans rfl; have hcz68_1 : w59.cell? ⟨gb151, 1, none⟩ = some (.slice Ao35 t147.length co35) := (blk_cell BK151.out 1).trans rfl; have hfz68_0 := blk_frozen BK151.out 0; have hfz68_1 := blk_frozen BK151.out 1) | ((with_reducible refine gate_dst (N := 57) rfl ?_); (try (refine gate_guard (by rfl) ?_; dsimp only)); refine Kd.R_lit k56 _ 56 ?hg (N := 57) ?hd (xs := ([(⟨2, (-1), (-1)⟩ : S56), (⟨2, 1, (-1)⟩ : S56)] : List (S56))) (inner := [.int .i64 2, .int .i64 (-1), .int .i64 (-1), .int .i64 2, .int .i64 1, .int .i64 (-1)]) (ok := fun _ => True) (okp := fun _ => True) ?hr ?hp (fun _ hk => hk) trivial (Below.refl _ _) (Nat.le_refl _) (by simp) ?_; (case hd => rfl); (case hg => rfl); (case hr => go_simp <;> rfl); (case hp => exact (Reps.c3 (show Kd.M k56 _ _ _ (⟨2, (-1), (-1)⟩ : S56) [.int .i64 2, .int .i64 (-1), .int .i64 (-1)] from (k56_mkM _ _ _ (⟨2, (-1), (-1)⟩ : S56) )) (Reps.c3 (show Kd.M k56 _ _ _ (⟨2, 1, (-1)⟩ : S56) [.int .i64 2, .int .i64 1, .int .i64 (-1)] from (k56_mkM _ _ _ (⟨2, 1, (-1)⟩ : S56) )) (Reps.none _ _)))); intro v180 w69 ho70 hb hg_ hnew_; clear hg_ hnew_; (first | rw [← Ny179.out] at ho70 | (simp only [Int.reduceToNat] at ho70; rw [← Ny179.out] at ho70)); have HO181 := Aside0.mk (Kd.R_lower (Kd.R_new' (Kd.R_new' (Kd.R_new' (Kd.R_new' ho70 (Kd.R_lt (by (with_reducible repeat (first | apply Kd.R_alloc | apply Kd.R_drewN | apply Kd.R_drew)); exact (Kd.R_mono (Kd.R_far (Kd.R_far (Kd.R_types HO138.out BK178.out (by decide)) (fun _ hk => hk.2) _) (fun _ hk => hk.2) _) (fun _ h_ => h_.1))))) (Kd.R_lt (by (with_reducible repeat (first | apply Kd.R_alloc | apply Kd.R_drewN | apply Kd.R_drew)); exact (Kd.R_mono (Kd.R_far (Kd.R_far (Kd.R_types HO146.out BK178.out (by decide)) (fun _ hk => hk.2) _) (fun _ hk => hk.2) _) (fun _ h_ => h_.1))))) (Kd.R_lt (by (with_reducible repeat (first | apply Kd.R_alloc | apply Kd.R_drewN | apply Kd.R_drew)); exact (Kd.R_mono (Kd.R_far (Kd.R_far (Kd.R_types HO154.out BK178.out (by decide)) (fun _ hk => hk.2) _) (fun _ hk => hk.2) _) (fun _ h_ => h_.1))))) (Kd.R_lt (by (with_reducible repeat (first | apply Kd.R_alloc | apply Kd.R_drewN | apply Kd.R_drew)); exact (Kd.R_mono (Kd.R_far (Kd.R_far (Kd.R_types HO173.out BK178.out (by decide)) (fun _ hk => hk.2) _) (fun _ hk => hk.2) _) (fun _ h_ => h_.1))))) (below_size bel)); replace HO138 := Aside0.mk (Kd.R_elder' (by (with_reducible repeat (first | apply Kd.R_alloc | apply Kd.R_drewN | apply Kd.R_drew)); exact (Kd.R_mono (Kd.R_far (Kd.R_far (Kd.R_types HO138.out BK178.out (by decide)) (fun _ hk => hk.2) _) (fun _ hk => hk.2) _) (fun _ h_ => h_.1))) (Kd.R_base ho70) hb); replace HO141 := Aside0.mk (Kd.R_below (by (with_reducible repeat (first | apply Kd.R_alloc | apply Kd.R_drewN | apply Kd.R_drew)); exact (Kd.R_mono (Kd.R_far (Kd.R_far (Kd.R_types HO141.out BK178.out (by decide)) (fun _ hk => hk.2) _) (fun _ hk => hk.2) _) (fun _ h_ => h_.1))) hb); replace HO146 := Aside0.mk (Kd.R_elder' (by (with_reducible repeat (first | apply Kd.R_alloc | apply Kd.R_drewN | apply Kd.R_drew)); exact (Kd.R_mono (Kd.R_far (Kd.R_far (Kd.R_types HO146.out BK178.out (by decide)) (fun _ hk => hk.2) _) (fun _ hk => hk.2) _) (fun _ h_ => h_.1))) (Kd.R_base ho70) hb); replace HO149 := Aside0.mk (Kd.R_below (by (with_reducible repeat (first | apply Kd.R_alloc | apply Kd.R_drewN | apply Kd.R_drew)); exact (Kd.R_mono (Kd.R_far (Kd.R_far (Kd.R_types HO149.out BK178.out (by decide)) (fun _ hk => hk.2) _) (fun _ hk => hk.2) _) (fun _ h_ => h_.1))) hb); replace HO154 := Aside0.mk (Kd.R_elder' (by (with_reducible repeat (first | apply Kd.R_alloc | apply Kd.R_drewN | apply Kd.R_drew)); exact (Kd.R_mono (Kd.R_far (Kd.R_far (Kd.R_types HO154.out BK178.out (by decide)) (fun _ hk => hk.2) _) (fun _ hk => hk.2) _) (fun _ h_ => h_.1))) (Kd.R_base ho70) hb); replace HO157 := Aside0.mk (Kd.R_below (by (with_reducible repeat (first | apply Kd.R_alloc | apply Kd.R_drewN | apply Kd.R_drew)); exact (Kd.R_mono (Kd.R_far (Kd.R_far (Kd.R_types HO157.out BK178.out (by decide)) (fun _ hk => hk.2) _) (fun _ hk => hk.2) _) (fun _ h_ => h_.1))) hb); replace HO162 := Aside0.mk (Kd.R_below (by (with_reducible repeat (first | apply Kd.R_alloc | apply Kd.R_drewN | apply Kd.R_drew)); exact (Kd.R_mono (Kd.R_far (Kd.R_far (Kd.R_types HO162.out BK178.out (by decide)) (fun _ hk => hk.2) _) (fun _ hk => hk.2) _) (fun _ h_ => h_.1))) hb); replace HO165 := Aside0.mk (Kd.R_below (by (with_reducible repeat (first | apply Kd.R_alloc | apply Kd.R_drewN | apply Kd.R_drew)); exact (Kd.R_mono (Kd.R_far (Kd.R_far (Kd.R_types HO165.out BK178.out (by decide)) (fun _ hk => hk.2) _) (fun _ hk => hk.2) _) (fun _ h_ => h_.1))) hb); replace HO168 := Aside0.mk (Kd.R_below (by (with_reducible repeat (first | apply Kd.R_alloc | apply Kd.R_drewN | apply Kd.R_drew)); exact (Kd.R_mono (Kd.R_far (Kd.R_far (Kd.R_types HO168.out BK178.out (by decide)) (fun _ hk => hk.2) _) (fun _ hk => hk.2) _) (fun _ h_ => h_.1))) hb); replace HO173 := Aside0.mk (Kd.R_elder' (by (with_reducible repeat (first | apply Kd.R_alloc | apply Kd.R_drewN | apply Kd.R_drew)); exact (Kd.R_mono (Kd.R_far (Kd.R_far (Kd.R_types HO173.out BK178.out (by decide)) (fun _ hk => hk.2) _) (fun _ hk => hk.2) _) (fun _ h_ => h_.1))) (Kd.R_base ho70) hb); replace HO176 := Aside0.mk (Kd.R_below (by (with_reducible repeat (first | apply Kd.R_alloc | apply Kd.R_drewN | apply Kd.R_drew)); exact (Kd.R_mono (Kd.R_far (Kd.R_far (Kd.R_types HO176.out BK178.out (by decide)) (fun _ hk => hk.2) _) (fun _ hk => hk.2) _) (fun _ h_ => h_.1))) hb); replace BK135 := sBk BK135 hb; replace BK143 := sBk BK143 hb; replace BK151 := sBk BK151 hb; replace BK159 := sBk BK159 hb; replace BK170 := sBk BK170 hb; replace BK178 := Aside0.mk (blk_below (g := gb178) (o := .cells #[.slice Ao60 t171.length co60, .slice Ao67 t174.length co67] 27 (0, 0)) (by (with_reducible repeat (first | refine blk_drewN ?_ _ | refine blk_drew ?_ | refine blk_alloc ?_ _)); refine blk_put (cs := #[.slice Ao60 t171.length co60, .slice none 0 0]) ?_ 1 _ rfl; (with_reducible repeat (first | refine blk_drewN ?_ _ | refine blk_drew ?_ | refine blk_alloc ?_ _)); refine blk_put (cs := #[.slice none 0 0, .slice none 0 0]) ?_ 0 _ rfl; (with_reducible repeat (first | refine blk_drewN ?_ _ | refine blk_drew ?_ | refine blk_alloc ?_ _)); exact BK178.out) hb); replace HB := sHb hb; clear hb ho70; obtain ⟨Ao71, co71, eo71⟩ := Kd.R_slice HO181.out; subst eo71) | (go_at_call 15; (refine (newelref19_Same.calls k _ _ t144 _ _ t147 _ _ y179 _ _ ([] : List (S62)) true _ ?side1 ?side2 ?side3 ?side4 ?side5 ?side6 ?side7 ?side8 A8.out).mono ?_); (case side1 => repeat (first | exact (Kd.R_reads' HO146.out).2.2 | (with_reducible refine Kd.C_alloc ?_ _) | (with_reducible refine Kd.C_drewN ?_ _) | (with_reducible refine Kd.C_drew ?_))); (case side2 => exact (Kd.R_reads' HO146.out).2.1); (case side3 => repeat (first | exact (Kd.R_reads' HO149.out).2.2 | (with_reducible refine Kd.C_alloc ?_ _) | (with_reducible refine Kd.C_drewN ?_ _) | (with_reducible refine Kd.C_drew ?_))); (case side4 => exact (Kd.R_reads' HO149.out).2.1); (case side5 => repeat (first | exact (Kd.R_reads' HO181.out).2.2 | (with_reducible refine Kd.C_alloc ?_ _) | (with_reducible refine Kd.C_drewN ?_ _) | (with_reducible refine Kd.C_drew ?_))); (case side6 => exact (Kd.R_reads' HO181.out).2.1); (case side7 => exact Kd.C_nil _ _); (case side8 => exact Nat.le_refl _); rintro e w72 ⟨rfl, hb⟩; have n0_ := Aside0.mk (Kd.R_below (kra HO138) hb); have n1_ := Aside0.mk (Kd.R_below (kra HO141) hb); have n2_ := Aside0.mk (Kd.R_below (kra HO146) hb); have n3_ := Aside0.mk (Kd.R_below (kra HO149) hb); have n4_ := Aside0.mk (Kd.R_below (kra HO154) hb); have n5_ := Aside0.mk (Kd.R_below (kra HO157) hb); have n6_ := Aside0.mk (Kd.R_below (kra HO162) hb); have n7_ := Aside0.mk (Kd.R_below (kra HO165) hb); have n8_ := Aside0.mk (Kd.R_below (kra HO168) hb); have n9_ := Aside0.mk (Kd.R_below (kra HO173) hb); have n10_ := Aside0.mk (Kd.R_below (kra HO176) hb); have n11_ := Aside0.mk (Kd.R_below (kra HO181) hb); have n12_ := Aside0.mk (blk_below (g := gb135) (o := .cells #[.int .i64 4, .int .i64 2] 23 (0, 0)) (bka BK135) hb); have n13_ := Aside0.mk (blk_below (g := gb143) (o := .cells #[.slice Ao24 t136.length co24, .slice Ao27 t139.length co27] 27 (0, 0)) (bka BK143) hb); have n14_ := Aside0.mk (blk_below (g := gb151) (o := .cells #[.slice Ao31 t144.length co31, .slice Ao35 t147.length co35] 27 (0, 0)) (bka BK151) hb); have n15_ := Aside0.mk (blk_below (g := gb159) (o := .cells #[.slice Ao39 t152.length co39, .slice Ao44 t155.length co44] 27 (0, 0)) (bka BK159) hb); have n16_ := Aside0.mk (blk_below (g := gb170) (o := .cells #[.slice Ao48 t160.length co48, .slice Ao54 t163.length co54, .slice Ao55 t166.length co55] 47 (0, 0)) (bka BK170) hb); have n17_ := Aside0.mk (blk_below (g := gb178) (o := .cells #[.slice Ao60 t171.length co60, .slice Ao67 t174.length co67] 27 (0, 0)) (bka BK178) hb); have n18_ := Aside0.mk (below_step bel hb); clear HO138; clear HO141; clear HO146; clear HO149; clear HO154; clear HO157; clear HO162; clear HO165; clear HO168; clear HO173; clear HO176; clear HO181; clear BK135; clear BK143; clear BK151; clear BK159; clear BK170; clear BK178; clear HB; have HO138 := n0_; have HO141 := n1_; have HO146 := n2_; have HO149 := n3_; have HO154 := n4_; have HO157 := n5_; have HO162 := n6_; have HO165 := n7_; have HO168 := n8_; have HO173 := n9_; have HO176 := n10_; have HO181 := n11_; have BK135 := n12_; have BK143 := n13_; have BK151 := n14_; have BK159 := n15_; have BK170 := n16_; have BK178 := n17_; have HB := n18_; clear n0_ n1_ n2_ n3_ n4_ n5_ n6_ n7_ n8_ n9_ n10_ n11_ n12_ n13_ n14_ n15_ n16_ n17_ n18_; (try clear hb); (try clear hb2); (try clear hk); (try clear hi); have hcz73_0 : w72.cell? ⟨gb170, 0, none⟩ = some (.slice Ao48 t160.length co48) := (blk_cell BK170.out 0).trans rfl; have hcz73_1 : w72.cell? ⟨gb170, 1, none⟩ = some (.slice Ao54 t163.length co54) := (blk_cell BK170.out 1).trans rfl; have hcz73_2 : w72.cell? ⟨gb170, 2, none⟩ = some (.slice Ao55 t166.length co55) := (blk_cell BK170.out 2).trans rfl; have hfz73_0 := blk_frozen BK170.out 0; have hfz73_1 := blk_frozen BK170.out 1; have hfz73_2 := blk_frozen BK170.out 2; have hcz74_0 : w72.cell? ⟨gb178, 0, none⟩ = some (.slice Ao60 t171.length co60) := (blk_cell BK178.out 0).trans rfl; have hcz74_1 : w72.cell? ⟨gb178, 1, none⟩ = some (.slice Ao67 t174.length co67) := (blk_cell BK178.out 1).trans rfl; have hfz74_0 := blk_frozen BK178.out 0; have hfz74_1 := blk_frozen BK178.out 1; have hcz75_0 : w72.cell? ⟨gb143, 0, none⟩ = some (.slice Ao24 t136.length co24) := (blk_cell BK143.out 0).trans rfl; have hcz75_1 : w72.cell? ⟨gb143, 1, none⟩ = some (.slice Ao27 t139.length co27) := (blk_cell BK143.out 1).trans rfl; have hfz75_0 := blk_frozen BK143.out 0; have hfz75_1 := blk_frozen BK143.out 1) | (go_at_call 27; (with_reducible refine (call_Same.calls k _ _ t136 _ _ t139 _ _ t136 _ _ t139 true _ ?side1 ?side2 ?side3 ?side4 ?side5 ?side6 ?side7 ?side8 A15.out).mono ?_); (case side1 => repeat (first | exact (Kd.R_reads' HO138.out).2.2 | (with_reducible refine Kd.C_alloc ?_ _) | (with_reducible refine Kd.C_drewN ?_ _) | (with_reducible refine Kd.C_drew ?_))); (case side2 => exact (Kd.R_reads' HO138.out).2.1); (case side3 => repeat (first | exact (Kd.R_reads' HO141.out).2.2 | (with_reducible refine Kd.C_alloc ?_ _) | (with_reducible refine Kd.C_drewN ?_ _) | (with_reducible refine Kd.C_drew ?_))); (case side4 => exact (Kd.R_reads' HO141.out).2.1); (case side5 => repeat (first | exact (Kd.R_reads' HO138.out).2.2 | (with_reducible refine Kd.C_alloc ?_ _) | (with_reducible refine Kd.C_drewN ?_ _) | (with_reducible refine Kd.C_drew ?_))); (case side6 => exact (Kd.R_reads' HO138.out).2.1); (case side7 => repeat (first | exact (Kd.R_reads' HO141.out).2.2 | (with_reducible refine Kd.C_alloc ?_ _) | (with_reducible refine Kd.C_drewN ?_ _) | (with_reducible refine Kd.C_drew ?_))); (case side8 => exact (Kd.R_reads' HO141.out).2.1); rintro e w76 ⟨rfl, hb⟩; have n0_ := Aside0.mk (Kd.R_below (kra HO138) hb); have n1_ := Aside0.mk (Kd.R_below (kra HO141) hb); have n2_ := Aside0.mk (Kd.R_below (kra HO146) hb); have n3_ := Aside0.mk (Kd.R_below (kra HO149) hb); have n4_ := Aside0.mk (Kd.R_below (kra HO154) hb); have n5_ := Aside0.mk (Kd.R_below (kra HO157) hb); have n6_ := Aside0.mk (Kd.R_below (kra HO162) hb); have n7_ := Aside0.mk (Kd.R_below (kra HO165) hb); have n8_ := Aside0.mk (Kd.R_below (kra HO168) hb); have n9_ := Aside0.mk (Kd.R_below (kra HO173) hb); have n10_ := Aside0.mk (Kd.R_below (kra HO176) hb); have n11_ := Aside0.mk (Kd.R_below (kra HO181) hb); have n12_ := Aside0.mk (blk_below (g := gb135) (o := .cells #[.int .i64 4, .int .i64 2] 23 (0, 0)) (bka BK135) hb); have n13_ := Aside0.mk (blk_below (g := gb143) (o := .cells #[.slice Ao24 t136.length co24, .slice Ao27 t139.length co27] 27 (0, 0)) (bka BK143) hb); have n14_ := Aside0.mk (blk_below (g := gb151) (o := .cells #[.slice Ao31 t144.length co31, .slice Ao35 t147.length co35] 27 (0, 0)) (bka BK151) hb); have n15_ := Aside0.mk (blk_below (g := gb159) (o := .cells #[.slice Ao39 t152.length co39, .slice Ao44 t155.length co44] 27 (0, 0)) (bka BK159) hb); have n16_ := Aside0.mk (blk_below (g := gb170) (o := .cells #[.slice Ao48 t160.length co48, .slice Ao54 t163.length co54, .slice Ao55 t166.length co55] 47 (0, 0)) (bka BK170) hb); have n17_ := Aside0.mk (blk_below (g := gb178) (o := .cells #[.slice Ao60 t171.length co60, .slice Ao67 t174.length co67] 27 (0, 0)) (bka BK178) hb); have n18_ := Aside0.mk (below_step bel hb); clear HO138; clear HO141; clear HO146; clear HO149; clear HO154; clear HO157; clear HO162; clear HO165; clear HO168; clear HO173; clear HO176; clear HO181; clear BK135; clear BK143; clear BK151; clear BK159; clear BK170; clear BK178; clear HB; have HO138 := n0_; have HO141 := n1_; have HO146 := n2_; have HO149 := n3_; have HO154 := n4_; have HO157 := n5_; have HO162 := n6_; have HO165 := n7_; have HO168 := n8_; have HO173 := n9_; have HO176 := n10_; have HO181 := n11_; have BK135 := n12_; have BK143 := n13_; have BK151 := n14_; have BK159 := n15_; have BK170 := n16_; have BK178 := n17_; have HB := n18_; clear n0_ n1_ n2_ n3_ n4_ n5_ n6_ n7_ n8_ n9_ n10_ n11_ n12_ n13_ n14_ n15_ n16_ n17_ n18_; (try clear hb); (try clear hb2); (try clear hk); (try clear hi); have hcz77_0 : w76.cell? ⟨gb143, 0, none⟩ = some (.slice Ao24 t136.length co24) := (blk_cell BK143.out 0).trans rfl; have hcz77_1 : w76.cell? ⟨gb143, 1, none⟩ = some (.slice Ao27 t139.length co27) := (blk_cell BK143.out 1).trans rfl; have hfz77_0 := blk_frozen BK143.out 0; have hfz77_1 := blk_frozen BK143.out 1; have hcz78_0 : w76.cell? ⟨gb151, 0, none⟩ = some (.slice Ao31 t144.length co31) := (blk_cell BK151.out 0).trans rfl; have hcz78_1 : w76.cell? ⟨gb151, 1, none⟩ = some (.slice Ao35 t147.length co35) := (blk_cell BK151.out 1).trans rfl; have hfz78_0 := blk_frozen BK151.out 0; have hfz78_1 := blk_frozen BK151.out 1) | (go_at_call 27; (with_reducible refine (call_Same.calls k _ _ t136 _ _ t139 _ _ t144 _ _ t147 false _ ?side1 ?side2 ?side3 ?side4 ?side5 ?side6 ?side7 ?side8 A17.out).mono ?_); (case side1 => repeat (first | exact (Kd.R_reads' HO138.out).2.2 | (with_reducible refine Kd.C_alloc ?_ _) | (with_reducible refine Kd.C_drewN ?_ _) | (with_reducible refine Kd.C_drew ?_))); (case side2 => exact (Kd.R_reads' HO138.out).2.1); (case side3 => repeat (first | exact (Kd.R_reads' HO141.out).2.2 | (with_reducible refine Kd.C_alloc ?_ _) | (with_reducible refine Kd.C_drewN ?_ _) | (with_reducible refine Kd.C_drew ?_))); (case side4 => exact (Kd.R_reads' HO141.out).2.1); (case side5 => repeat (first | exact (Kd.R_reads' HO146.out).2.2 | (with_reducible refine Kd.C_alloc ?_ _) | (with_reducible refine Kd.C_drewN ?_ _) | (with_reducible refine Kd.C_drew ?_))); (case side6 => exact (Kd.R_reads' HO146.out).2.1); (case side7 => repeat (first | exact (Kd.R_reads' HO149.out).2.2 | (with_reducible refine Kd.C_alloc ?_ _) | (with_reducible refine Kd.C_drewN ?_ _) | (with_reducible refine Kd.C_drew ?_))); (case side8 => exact (Kd.R_reads' HO149.out).2.1); rintro e w79 ⟨rfl, hb⟩; have n0_ := Aside0.mk (Kd.R_below (kra HO138) hb); have n1_ := Aside0.mk (Kd.R_below (kra HO141) hb); have n2_ := Aside0.mk (Kd.R_below (kra HO146) hb); have n3_ := Aside0.mk (Kd.R_below (kra HO149) hb); have n4_ := Aside0.mk (Kd.R_below (kra HO154) hb); have n5_ := Aside0.mk (Kd.R_below (kra HO157) hb); have n6_ := Aside0.mk (Kd.R_below (kra HO162) hb); have n7_ := Aside0.mk (Kd.R_below (kra HO165) hb); have n8_ := Aside0.mk (Kd.R_below (kra HO168) hb); have n9_ := Aside0.mk (Kd.R_below (kra HO173) hb); have n10_ := Aside0.mk (Kd.R_below (kra HO176) hb); have n11_ := Aside0.mk (Kd.R_below (kra HO181) hb); have n12_ := Aside0.mk (blk_below (g := gb135) (o := .cells #[.int .i64 4, .int .i64 2] 23 (0, 0)) (bka BK135) hb); have n13_ := Aside0.mk (blk_below (g := gb143) (o := .cells #[.slice Ao24 t136.length co24, .slice Ao27 t139.length co27] 27 (0, 0)) (bka BK143) hb); have n14_ := Aside0.mk (blk_below (g := gb151) (o := .cells #[.slice Ao31 t144.length co31, .slice Ao35 t147.length co35] 27 (0, 0)) (bka BK151) hb); have n15_ := Aside0.mk (blk_below (g := gb159) (o := .cells #[.slice Ao39 t152.length co39, .slice Ao44 t155.length co44] 27 (0, 0)) (bka BK159) hb); have n16_ := Aside0.mk (blk_below (g := gb170) (o := .cells #[.slice Ao48 t160.length co48, .slice Ao54 t163.length co54, .slice Ao55 t166.length co55] 47 (0, 0)) (bka BK170) hb); have n17_ := Aside0.mk (blk_below (g := gb178) (o := .cells #[.slice Ao60 t171.length co60, .slice Ao67 t174.length co67] 27 (0, 0)) (bka BK178) hb); have n18_ := Aside0.mk (below_step bel hb); clear HO138; clear HO141; clear HO146; clear HO149; clear HO154; clear HO157; clear HO162; clear HO165; clear HO168; clear HO173; clear HO176; clear HO181; clear BK135; clear BK143; clear BK151; clear BK159; clear BK170; clear BK178; clear HB; have HO138 := n0_; have HO141 := n1_; have HO146 := n2_; have HO149 := n3_; have HO154 := n4_; have HO157 := n5_; have HO162 := n6_; have HO165 := n7_; have HO168 := n8_; have HO173 := n9_; have HO176 := n10_; have HO181 := n11_; have BK135 := n12_; have BK143 := n13_; have BK151 := n14_; have BK159 := n15_; have BK170 := n16_; have BK178 := n17_; have HB := n18_; clear n0_ n1_ n2_ n3_ n4_ n5_ n6_ n7_ n8_ n9_ n10_ n11_ n12_ n13_ n14_ n15_ n16_ n17_ n18_; (try clear hb); (try clear hb2); (try clear hk); (try clear hi); have hcz80_0 : w79.cell? ⟨gb135, 0, none⟩ = some (.int .i64 4) := (blk_cell BK135.out 0).trans rfl; have hcz80_1 : w79.cell? ⟨gb135, 1, none⟩ = some (.int .i64 2) := (blk_cell BK135.out 1).trans rfl; have hfz80_0 := blk_frozen BK135.out 0; have hfz80_1 := blk_frozen BK135.out 1; have hcz81_0 : w79.cell? ⟨gb151, 0, none⟩ = some (.slice Ao31 t144.length co31) := (blk_cell BK151.out 0).trans rfl; have hcz81_1 : w79.cell? ⟨gb151, 1, none⟩ = some (.slice Ao35 t147.length co35) := (blk_cell BK151.out 1).trans rfl; have hfz81_0 := blk_frozen BK151.out 0; have hfz81_1 := blk_frozen BK151.out 1) | (go_at_call 14; (with_reducible refine (call_Check.calls k 4 2 _ _ t144 _ _ t147 t185 _ ?side1 ?side2 ?side3 ?side4 A19.out).mono ?_); (case side1 => repeat (first | exact (Kd.R_reads' HO146.out).2.2 | (with_reducible refine Kd.C_alloc ?_ _) | (with_reducible refine Kd.C_drewN ?_ _) | (with_reducible refine Kd.C_drew ?_))); (case side2 => exact (Kd.R_reads' HO146.out).2.1); (case side3 => repeat (first | exact (Kd.R_reads' HO149.out).2.2 | (with_reducible refine Kd.C_alloc ?_ _) | (with_reducible refine Kd.C_drewN ?_ _) | (with_reducible refine Kd.C_drew ?_))); (case side4 => exact (Kd.R_reads' HO149.out).2.1); rintro e w82 ⟨rfl, hb⟩; have n0_ := Aside0.mk (Kd.R_below (kra HO138) hb); have n1_ := Aside0.mk (Kd.R_below (kra HO141) hb); have n2_ := Aside0.mk (Kd.R_below (kra HO146) hb); have n3_ := Aside0.mk (Kd.R_below (kra HO149) hb); have n4_ := Aside0.mk (Kd.R_below (kra HO154) hb); have n5_ := Aside0.mk (Kd.R_below (kra HO157) hb); have n6_ := Aside0.mk (Kd.R_below (kra HO162) hb); have n7_ := Aside0.mk (Kd.R_below (kra HO165) hb); have n8_ := Aside0.mk (Kd.R_below (kra HO168) hb); have n9_ := Aside0.mk (Kd.R_below (kra HO173) hb); have n10_ := Aside0.mk (Kd.R_below (kra HO176) hb); have n11_ := Aside0.mk (Kd.R_below (kra HO181) hb); have n12_ := Aside0.mk (blk_below (g := gb135) (o := .cells #[.int .i64 4, .int .i64 2] 23 (0, 0)) (bka BK135) hb); have n13_ := Aside0.mk (blk_below (g := gb143) (o := .cells #[.slice Ao24 t136.length co24, .slice Ao27 t139.length co27] 27 (0, 0)) (bka BK143) hb); have n14_ := Aside0.mk (blk_below (g := gb151) (o := .cells #[.slice Ao31 t144.length co31, .slice Ao35 t147.length co35] 27 (0, 0)) (bka BK151) hb); have n15_ := Aside0.mk (blk_below (g := gb159) (o := .cells #[.slice Ao39 t152.length co39, .slice Ao44 t155.length co44] 27 (0, 0)) (bka BK159) hb); have n16_ := Aside0.mk (blk_below (g := gb170) (o := .cells #[.slice Ao48 t160.length co48, .slice Ao54 t163.length co54, .slice Ao55 t166.length co55] 47 (0, 0)) (bka BK170) hb); have n17_ := Aside0.mk (blk_below (g := gb178) (o := .cells #[.slice Ao60 t171.length co60, .slice Ao67 t174.length co67] 27 (0, 0)) (bka BK178) hb); have n18_ := Aside0.mk (below_step bel hb); clear HO138; clear HO141; clear HO146; clear HO149; clear HO154; clear HO157; clear HO162; clear HO165; clear HO168; clear HO173; clear HO176; clear HO181; clear BK135; clear BK143; clear BK151; clear BK159; clear BK170; clear BK178; clear HB; have HO138 := n0_; have HO141 := n1_; have HO146 := n2_; have HO149 := n3_; have HO154 := n4_; have HO157 := n5_; have HO162 := n6_; have HO165 := n7_; have HO168 := n8_; have HO173 := n9_; have HO176 := n10_; have HO181 := n11_; have BK135 := n12_; have BK143 := n13_; have BK151 := n14_; have BK159 := n15_; have BK170 := n16_; have BK178 := n17_; have HB := n18_; clear n0_ n1_ n2_ n3_ n4_ n5_ n6_ n7_ n8_ n9_ n10_ n11_ n12_ n13_ n14_ n15_ n16_ n17_ n18_; (try clear hb); (try clear hb2); (try clear hk); (try clear hi)))
           go_ret
           exact ⟨rfl, HB.out⟩
         ·replace c16 := Bool.eq_false_iff.mpr c16
          subst c16
          have H1 : (none) = some r := by rw [if_neg (show ¬ (false = true) by decide)] at H; exact H
          clear H
          have H := H1
          clear H1
          exact absurd H (by simp)
        ·rw [if_neg c14] at H
         exact absurd H (by simp)
       ·rw [if_neg c13] at H
        exact absurd H (by simp)
      ·rw [if_neg c12] at H
       exact absurd H (by simp)
     ·rw [if_neg c11] at H
      exact absurd H (by simp)
    ·rw [if_neg c10] at H
     exact absurd H (by simp)
   ·replace c9 := Bool.eq_false_iff.mpr c9
    subst c9
    have H1 : (none) = some r := by rw [if_neg (show ¬ (false = true) by decide)] at H; exact H
    clear H
    have H := H1
    clear H1
    exact absurd H (by simp)
  ·rw [if_neg c7] at H
   exact absurd H (by simp)
 ·rw [if_neg c6] at H
  exact absurd H (by simp)
end Go.Proofs.Ytjehhhlhalkieaa.C
namespace Go.Proofs.Ytjehhhlhalkieaa.Call
open Go.RowKit Go.Proofs.YtjehhhlhalkieaaW.PrintWords Go.Proofs.YtjehhhlhalkieaaW.PrintLast Go.Proofs.YtjehhhlhalkieaaW.PrintMore Go.Proofs.Ytjehhhlhalkieaa.C
set_option linter.unusedVariables false
set_option linter.unusedSimpArgs false
theorem few_eq (H : List Hall) (I : List Ins) : newelref19_Few.f H I = some false ∨ (newelref19_Few.f H I = some true ∧ H.length ≤ 130 ∧ I.length ≤ 520) := by
  unfold newelref19_Few.f
  by_cases h1 : (H.length : Int) ≤ 130
  · rw [if_pos h1]
    by_cases h2 : (I.length : Int) ≤ 520
    · exact .inr ⟨by rw [decide_eq_true h2], by omega, by omega⟩
    · exact .inl (by rw [decide_eq_false h2])
  · rw [if_neg h1]; exact .inl rfl
theorem awake_at : newellaw19_awake.f 40 = some true := by kernel_rfl
theorem awake_eq (k : Nat) (hk : 40 ≤ k) : newellaw19_awake.f k = some true := at_rounds (g := newellaw19_awake.f) newellaw19_awake.mono hk awake_at
end Go.Proofs.Ytjehhhlhalkieaa.Call
namespace Go.Proofs.Ytjehhhlhalkieaa.Call
open Go.RowKit Go.Proofs.YtjehhhlhalkieaaW.PrintWords Go.Proofs.YtjehhhlhalkieaaW.PrintLast Go.Proofs.YtjehhhlhalkieaaW.PrintMore Go.Proofs.Ytjehhhlhalkieaa.C
set_option linter.unusedVariables false
set_option linter.unusedSimpArgs false
def viewI (c : Int) (I : List Ins) : List Int := (I.filter (fun x => decide (x.f0 = c))).map (·.f1)
def viewU (c : Int) (H : List Hall) : List Int := (H.filter (fun x => decide (x.f2 = c ∧ x.f1 > 0))).map (·.f0)
def viewD (c : Int) (H : List Hall) : List Int := (H.filter (fun x => decide (x.f2 = c ∧ ¬ x.f1 > 0))).map (·.f0)
theorem view_l1 (c : Int) (H : List Hall) (V : List Int) (hm : H.length < 900000000) (j : Nat) : ∀ (f i : Nat) (U D : List Int), i + j = H.length → j < f → U.length ≤ i → D.length ≤ i →
    call_View.l1 f c H (H.length : Int) (i : Int) V U D = some (V, U ++ viewU c (H.drop i), D ++ viewD c (H.drop i), 0) := by
  induction j with
  | zero =>
    intro f i U D hi hf hU hD
    obtain ⟨f, rfl⟩ : ∃ f', f = f' + 1 := ⟨f - 1, by omega⟩
    unfold call_View.l1
    rw [if_neg (by omega), List.drop_eq_nil_of_le (by omega)]
    simp [viewU, viewD]
  | succ j ih =>
    intro f i U D hi hf hU hD
    obtain ⟨f, rfl⟩ : ∃ f', f = f' + 1 := ⟨f - 1, by omega⟩
    have h1 : i < H.length := by omega
    unfold call_View.l1
    rw [if_pos (by omega), if_pos (by omega), if_pos (by omega), rdH_at H i h1, show wrap64 ((i : Int) + 1) = ((i + 1 : Nat) : Int) from by unfold wrap64; omega, List.drop_eq_getElem_cons h1]
    by_cases hc : H[i].f2 = c
    · rw [if_pos hc]
      by_cases hd : H[i].f1 > 0
      · rw [if_pos hd, if_pos (by omega), ih f (i + 1) _ D (by omega) (by omega) (by simp; omega) (by omega)]
        have e1 : viewU c (H[i] :: H.drop (i + 1)) = H[i].f0 :: viewU c (H.drop (i + 1)) := by
          unfold viewU; rw [List.filter_cons_of_pos (by exact decide_eq_true ⟨hc, hd⟩)]; rfl
        have e2 : viewD c (H[i] :: H.drop (i + 1)) = viewD c (H.drop (i + 1)) := by
          unfold viewD; rw [List.filter_cons_of_neg (by rw [decide_eq_true_eq]; exact fun h => h.2 hd)]
        rw [e1, e2, List.append_assoc]
        rfl
      · rw [if_neg hd, if_pos (by omega), ih f (i + 1) U _ (by omega) (by omega) (by omega) (by simp; omega)]
        have e1 : viewU c (H[i] :: H.drop (i + 1)) = viewU c (H.drop (i + 1)) := by
          unfold viewU; rw [List.filter_cons_of_neg (by rw [decide_eq_true_eq]; exact fun h => hd h.2)]
        have e2 : viewD c (H[i] :: H.drop (i + 1)) = H[i].f0 :: viewD c (H.drop (i + 1)) := by
          unfold viewD; rw [List.filter_cons_of_pos (by exact decide_eq_true ⟨hc, hd⟩)]; rfl
        rw [e1, e2, List.append_assoc D]
        rfl
    · rw [if_neg hc, ih f (i + 1) U D (by omega) (by omega) (by omega) (by omega)]
      have e1 : viewU c (H[i] :: H.drop (i + 1)) = viewU c (H.drop (i + 1)) := by
        unfold viewU; rw [List.filter_cons_of_neg (by rw [decide_eq_true_eq]; exact fun h => hc h.1)]
      have e2 : viewD c (H[i] :: H.drop (i + 1)) = viewD c (H.drop (i + 1)) := by
        unfold viewD; rw [List.filter_cons_of_neg (by rw [decide_eq_true_eq]; exact fun h => hc h.1)]
      rw [e1, e2]
theorem view_l0 (c : Int) (H : List Hall) (I : List Ins) (J : List Ins) (hm : H.length < 900000000) (hI : I.length < 900000000) (j : Nat) : ∀ (f i : Nat) (V : List Int), i + j = I.length → j + H.length + 1 < f → V.length ≤ i →
    call_View.l0 f c I (I.length : Int) (i : Int) H J V = some (V ++ viewI c (I.drop i), viewU c H, viewD c H, 0) := by
  induction j with
  | zero =>
    intro f i V hi hf hV
    obtain ⟨f, rfl⟩ : ∃ f', f = f' + 1 := ⟨f - 1, by omega⟩
    unfold call_View.l0
    rw [if_neg (by omega), List.drop_eq_nil_of_le (by omega)]
    have := view_l1 c H V hm H.length f 0 [] [] (by omega) (by omega) (by simp) (by simp)
    rw [List.drop_zero] at this
    simpa [viewI] using this
  | succ j ih =>
    intro f i V hi hf hV
    obtain ⟨f, rfl⟩ : ∃ f', f = f' + 1 := ⟨f - 1, by omega⟩
    have h1 : i < I.length := by omega
    unfold call_View.l0
    rw [if_pos (by omega), if_pos (by omega), if_pos (by omega), rdI_at I i h1, show wrap64 ((i : Int) + 1) = ((i + 1 : Nat) : Int) from by unfold wrap64; omega, List.drop_eq_getElem_cons h1]
    by_cases hc : I[i].f0 = c
    · rw [if_pos hc, if_pos (by omega), ih f (i + 1) _ (by omega) (by omega) (by simp; omega)]
      have e1 : viewI c (I[i] :: I.drop (i + 1)) = I[i].f1 :: viewI c (I.drop (i + 1)) := by
        unfold viewI; rw [List.filter_cons_of_pos (by exact decide_eq_true hc)]; rfl
      rw [e1, List.append_assoc]
      rfl
    · rw [if_neg hc, ih f (i + 1) V (by omega) (by omega) (by omega)]
      have e1 : viewI c (I[i] :: I.drop (i + 1)) = viewI c (I.drop (i + 1)) := by
        unfold viewI; rw [List.filter_cons_of_neg (by rw [decide_eq_true_eq]; exact hc)]
      rw [e1]
theorem view_eq (k : Nat) (F C : Int) (H : List Hall) (I : List Ins) (c : Int) (hH : H.length < 900000000) (hI : I.length < 900000000) (hC : i64 C) (hk : H.length + I.length + 3 < k) :
    call_View.f k F C H I c = some (if okB F C H I = true then (if 0 ≤ c ∧ c ≤ C - 1 then (viewI c I, viewU c H, viewD c H, 0) else ([], [], [], 191)) else ([], [], [], 190)) := by
  unfold call_View.f
  obtain ⟨k, rfl⟩ : ∃ k', k = k' + 1 := ⟨k - 1, by omega⟩
  rw [check_eq k F C H I hH hI hC, within_eq]
  cases hok : okB F C H I
  · simp
  · obtain ⟨hF, hC1, _⟩ := ok_parts.1 hok
    rw [wrapS C (by omega)]
    have := view_l0 c H I I hH hI I.length (k + 1) 0 [] (by omega) (by omega) (by simp)
    rw [List.drop_zero] at this
    rw [show ((0 : Nat) : Int) = 0 from rfl] at this
    simp only [Option.bind_some, if_true, decide_eq_true_eq]
    by_cases hc : 0 ≤ c ∧ c ≤ C - 1
    · rw [if_pos hc, if_pos hc, this]
      rfl
    · rw [if_neg hc, if_neg hc]
end Go.Proofs.Ytjehhhlhalkieaa.Call
