/- Texts of this claim, one behind the other: what the law's functions come to, walked (printed by a program, with the words that the print uses), and what that is, in plain Lean. No conditions of their own. -/
import Derived.Test.YtickbejailcehaaDoorQFlashGoes6
import Derived.LaidMore
import Derived.ProofKit
import Derived.Stop.Joined
import Derived.Test.YtickbejailcehaaDoorTie
namespace Go.Proofs.YtickbejailcehaaDoor.Laid
open Go.ChangeShapes Go.WideShapes Go.ChangeAt Go.RowKit Go.Proofs.YtickbejailcehaaDoorW.PrintWords Go.Proofs.YtickbejailcehaaDoorW.PrintLast Go.Proofs.YtickbejailcehaaDoorW.PrintMore
set_option linter.unusedVariables false
def tabL : List Nat := [0x0000, 0x1021, 0x2042, 0x3063, 0x4084, 0x50a5, 0x60c6, 0x70e7, 0x8108, 0x9129, 0xa14a, 0xb16b, 0xc18c, 0xd1ad, 0xe1ce, 0xf1ef]
def L : List (String × DataW Unit) := [("newel/crc.halves", Rows.laid_newel_crc_halves)]
theorem gTab : Tryd.prog.globalNamed "newel/crc.halves" = some 0 := by kernel_rfl
theorem tTab : (Tryd.prog.globals[0]?).map (·.type) = some 88 := by kernel_rfl
def tabI (i : Nat) : Int := (tabL.getD i 0 : Nat)
def TabAt (w : World) : Prop := ∀ i : Nat, i < 16 → w.cell? ⟨0, i, none⟩ = some (.int .u16 (tabI i))
theorem tab_pos {w : World} (h : TabAt w) : 0 < w.heap.size := World.block_lt_of_cell? w _ (h 0 (by omega))
theorem tab_below {w w' : World} {n : Nat} (h : TabAt w) (hn : 0 < n) (hb : Below n w w') : TabAt w' := fun i hi => (hb.cell hn).trans (h i hi)
theorem tab_below' {w w' : World} (h : TabAt w) (hb : Below w.heap.size w w') : TabAt w' := tab_below h (tab_pos h) hb
theorem tab_drew {w : World} (h : TabAt w) : TabAt w.drew := h
theorem tab_drewN {w : World} (h : TabAt w) (n : Nat) : TabAt (w.drewN n) := tab_below' h (pw_below_drewN (Below.refl _ _) n)
theorem tab_alloc {w : World} (h : TabAt w) (o : Obj) : TabAt (w.alloc o) := tab_below' h (below_alloc (Below.refl _ _) o)
theorem door_met (os : Os) (args : Array Value) : laidMetH Tryd.prog L ((World.doorLaid Tryd.prog 14 os).forCall (fun _ _ => 0) ⟨#[], args, []⟩).memory :=
  laidMetH_of_parts3 (fuel := 8) (laidMet_of_run' 8 (by kernel_rfl) (by kernel_rfl)) (by kernel_rfl) (by kernel_rfl)
theorem of_laid {W : World} (h : laidMetH Tryd.prog L W) : TabAt W := by
  rw [MakeChecks.laidMetH_plain _ _ _ (by kernel_rfl)] at h
  obtain ⟨ps, ⟨g, t, cs, fuel, p, q, hg, ht, hv, hd, _⟩, _⟩ := h
  obtain rfl := Option.some.inj (gTab.symm.trans hg)
  obtain rfl := Option.some.inj (tTab.symm.trans ht)
  obtain ⟨xs, m, rfl, hx, hlen, hn, hel⟩ := DataW.trod_array Tryd.underlying88 hd
  have c1 : Tryd.prog.cellsOf 86 = 1 := by kernel_rfl
  intro i hi
  have h1 := hel i hi
  rw [c1, Nat.mul_one, List.getElem?_eq_getElem (by omega : i < xs.length)] at h1
  obtain ⟨k, e1, e2, _⟩ := DataW.trod_int Tryd.underlying86 h1
  rw [World.var?_cell hg hv i]
  have hi2 : cs.toList[i]? = some (.int .u16 k) := by
    have := congrArg (fun l : List Value => l[0]?) e1
    simpa [List.getElem?_take, List.getElem?_drop] using this
  rw [Array.getElem?_toList] at hi2
  rw [hi2]
  have hk : (xs.map (·.1))[i]? = some (.lit (.int .u16 k)) := by rw [List.getElem?_map, List.getElem?_eq_getElem (by omega : i < xs.length)]; simp [e2]
  have hx1 : xs.map (·.1) = (match (Rows.laid_newel_crc_halves : DataW Unit) with | .agg l => l | _ => []) := by
    have := congrArg (fun z : DataW Unit × List MemPlace => z.1) hx
    simp only at this
    rw [this]
  rw [hx1] at hk
  have : i = 0 ∨ i = 1 ∨ i = 2 ∨ i = 3 ∨ i = 4 ∨ i = 5 ∨ i = 6 ∨ i = 7 ∨ i = 8 ∨ i = 9 ∨ i = 10 ∨ i = 11 ∨ i = 12 ∨ i = 13 ∨ i = 14 ∨ i = 15 := by omega
  rcases this with rfl | rfl | rfl | rfl | rfl | rfl | rfl | rfl | rfl | rfl | rfl | rfl | rfl | rfl | rfl | rfl <;> (cases hk; rfl)
end Go.Proofs.YtickbejailcehaaDoor.Laid
