-- Written by a program of this session (wip/pp: the kit's print, changed), out of the translation. Lean checks it.
import Derived.Test.YtjfikeahafflfaaCx0
import Derived.Test.YtjfikeahafflfaaCxe44
import Derived.Test.YtjfikeahafflfaaCxf23
import Derived.Test.YtjfikeahafflfaaCxf26
import Derived.Test.YtjfikeahafflfaaStep
namespace Go.Proofs.Ytjfikeahafflfaa.C
open Go.RowKit Go.Proofs.YtjfikeahafflfaaW.PrintWords Go.Proofs.YtjfikeahafflfaaW.PrintLast Go.Proofs.YtjfikeahafflfaaW.PrintMore
attribute [local go_sem] max2_int min2_int max_two min_two max_three min_three max_four min_four   -- for this text's walks alone
set_option linter.unusedVariables false
set_option linter.unusedSimpArgs false

attribute [local go_sem high] eqA44
/-! ### newellaw17_DoorEnds: function 11 -/
mutual
def newellaw17_DoorEnds.j0 : Nat → List Bool → Int → Bool → Int → Int → Int → Int → Int → Int → Int → Int → Int → Int → Int → Int → Int → Option (Bool)
 | 0, _, _, _, _, _, _, _, _, _, _, _, _, _, _, _, _ => none
 | k + 1, x2, x7, x25, x438000, x438001, x438002, x438003, x438004, x438005, x438006, x438007, x438008, x438009, x439000, x439001, x439002 => if x25 = true then ((newellaw17_awake.f k).bind fun t441 => (some t441)) else (newellaw17_DoorEnds.l0 k x2 x7 0 x438000 x438001 x438002 x438003 x438004 x438005 x438006 x438007 x438008 x438009 x439000 x439001 x439002)
def newellaw17_DoorEnds.l0 : Nat → List Bool → Int → Int → Int → Int → Int → Int → Int → Int → Int → Int → Int → Int → Int → Int → Int → Option (Bool)
 | 0, _, _, _, _, _, _, _, _, _, _, _, _, _, _, _, _ => none
 | k + 1, x2, x7, x9, x438000, x438001, x438002, x438003, x438004, x438005, x438006, x438007, x438008, x438009, x439000, x439001, x439002 => if x9 < x7 then (if x9 < (x2.length : Int) then (if 0 ≤ x9 then ((door_Step.f k x438000 x438001 x438002 x438003 x438004 x438005 x438006 x438007 x438008 x438009 x439000 x439001 x439002 (rdOf false x2 x9)).bind fun bt443 => (if bt443.2.2.2.2 = 0 then (if bt443.2.2.2.1 = true then (if x439000 = 2 then (if bt443.1 = 0 then (if x439000 = 3 then (newellaw17_DoorEnds.j2 k x2 x7 x9 false x438000 x438001 x438002 x438003 x438004 x438005 x438006 x438007 x438008 x438009 bt443.1 bt443.2.1 bt443.2.2.1) else (newellaw17_DoorEnds.j2 k x2 x7 x9 (x439000 != 0) x438000 x438001 x438002 x438003 x438004 x438005 x438006 x438007 x438008 x438009 bt443.1 bt443.2.1 bt443.2.2.1)) else (newellaw17_DoorEnds.j2 k x2 x7 x9 false x438000 x438001 x438002 x438003 x438004 x438005 x438006 x438007 x438008 x438009 bt443.1 bt443.2.1 bt443.2.2.1)) else (none)) else (if bt443.1 = 0 then (if x439000 = 3 then (newellaw17_DoorEnds.j2 k x2 x7 x9 false x438000 x438001 x438002 x438003 x438004 x438005 x438006 x438007 x438008 x438009 bt443.1 bt443.2.1 bt443.2.2.1) else (newellaw17_DoorEnds.j2 k x2 x7 x9 (x439000 != 0) x438000 x438001 x438002 x438003 x438004 x438005 x438006 x438007 x438008 x438009 bt443.1 bt443.2.1 bt443.2.2.1)) else (newellaw17_DoorEnds.j2 k x2 x7 x9 false x438000 x438001 x438002 x438003 x438004 x438005 x438006 x438007 x438008 x438009 bt443.1 bt443.2.1 bt443.2.2.1))) else (none))) else (none)) else ((door_Step.f k x438000 x438001 x438002 x438003 x438004 x438005 x438006 x438007 x438008 x438009 x439000 x439001 x439002 false).bind fun bt449 => (if bt449.2.2.2.2 = 0 then (if bt449.2.2.2.1 = true then (if x439000 = 2 then (if bt449.1 = 0 then (if x439000 = 3 then (newellaw17_DoorEnds.j3 k x2 x7 x9 false x438000 x438001 x438002 x438003 x438004 x438005 x438006 x438007 x438008 x438009 bt449.1 bt449.2.1 bt449.2.2.1) else (newellaw17_DoorEnds.j3 k x2 x7 x9 (x439000 != 0) x438000 x438001 x438002 x438003 x438004 x438005 x438006 x438007 x438008 x438009 bt449.1 bt449.2.1 bt449.2.2.1)) else (newellaw17_DoorEnds.j3 k x2 x7 x9 false x438000 x438001 x438002 x438003 x438004 x438005 x438006 x438007 x438008 x438009 bt449.1 bt449.2.1 bt449.2.2.1)) else (none)) else (if bt449.1 = 0 then (if x439000 = 3 then (newellaw17_DoorEnds.j3 k x2 x7 x9 false x438000 x438001 x438002 x438003 x438004 x438005 x438006 x438007 x438008 x438009 bt449.1 bt449.2.1 bt449.2.2.1) else (newellaw17_DoorEnds.j3 k x2 x7 x9 (x439000 != 0) x438000 x438001 x438002 x438003 x438004 x438005 x438006 x438007 x438008 x438009 bt449.1 bt449.2.1 bt449.2.2.1)) else (newellaw17_DoorEnds.j3 k x2 x7 x9 false x438000 x438001 x438002 x438003 x438004 x438005 x438006 x438007 x438008 x438009 bt449.1 bt449.2.1 bt449.2.2.1))) else (none)))) else ((newellaw17_awake.f k).bind fun t455 => (if t455 = true then (some (x439000 == 0 && (x439001 == 0 && (x439002 == 0)))) else (none)))
def newellaw17_DoorEnds.j4 : Nat → List Bool → Int → Int → Int → Int → Int → Int → Int → Int → Int → Int → Int → Int → Int → Int → Int → Option (Bool)
 | 0, _, _, _, _, _, _, _, _, _, _, _, _, _, _, _, _ => none
 | k + 1, x2, x7, x9, x438000, x438001, x438002, x438003, x438004, x438005, x438006, x438007, x438008, x438009, x439000, x439001, x439002 => newellaw17_DoorEnds.l0 k x2 x7 (wrap64 (x9 + 1)) x438000 x438001 x438002 x438003 x438004 x438005 x438006 x438007 x438008 x438009 x439000 x439001 x439002
def newellaw17_DoorEnds.j2 : Nat → List Bool → Int → Int → Bool → Int → Int → Int → Int → Int → Int → Int → Int → Int → Int → Int → Int → Int → Option (Bool)
 | 0, _, _, _, _, _, _, _, _, _, _, _, _, _, _, _, _, _ => none
 | k + 1, x2, x7, x9, x73, x438000, x438001, x438002, x438003, x438004, x438005, x438006, x438007, x438008, x438009, x449000, x449001, x449002 => if x73 = true then (none) else (newellaw17_DoorEnds.j4 k x2 x7 x9 x438000 x438001 x438002 x438003 x438004 x438005 x438006 x438007 x438008 x438009 x449000 x449001 x449002)
def newellaw17_DoorEnds.j3 : Nat → List Bool → Int → Int → Bool → Int → Int → Int → Int → Int → Int → Int → Int → Int → Int → Int → Int → Int → Option (Bool)
 | 0, _, _, _, _, _, _, _, _, _, _, _, _, _, _, _, _, _ => none
 | k + 1, x2, x7, x9, x73, x438000, x438001, x438002, x438003, x438004, x438005, x438006, x438007, x438008, x438009, x455000, x455001, x455002 => if x73 = true then (none) else (newellaw17_DoorEnds.j4 k x2 x7 x9 x438000 x438001 x438002 x438003 x438004 x438005 x438006 x438007 x438008 x438009 x455000 x455001 x455002)
end
def newellaw17_DoorEnds.f (k : Nat) (a0_0 : Int) (a0_1 : Int) (a0_2 : Int) (a0_3 : Int) (a0_4 : Int) (a0_5 : Int) (a0_6 : Int) (a0_7 : Int) (a0_8 : Int) (a0_9 : Int) (a1_0 : Int) (a1_1 : Int) (a1_2 : Int) (l2 : List Bool) : Option (Bool) := (door_Rest.f k a0_0 a0_1 a0_2 a0_3 a0_4 a0_5 a0_6 a0_7 a0_8 a0_9 a1_0 a1_1 a1_2).bind fun bt439 => (if bt439.2 = 0 then (newellaw17_DoorEnds.j0 k l2 bt439.1 (decide ((l2.length : Int) > 60)) a0_0 a0_1 a0_2 a0_3 a0_4 a0_5 a0_6 a0_7 a0_8 a0_9 a1_0 a1_1 a1_2) else (newellaw17_DoorEnds.j0 k l2 bt439.1 true a0_0 a0_1 a0_2 a0_3 a0_4 a0_5 a0_6 a0_7 a0_8 a0_9 a1_0 a1_1 a1_2))
theorem newellaw17_DoorEnds.mono_l : ∀ k, (∀ y0 y1 y2 y3 y4 y5 y6 y7 y8 y9 y10 y11 y12 y13 y14 y15, LeO (newellaw17_DoorEnds.j0 k y0 y1 y2 y3 y4 y5 y6 y7 y8 y9 y10 y11 y12 y13 y14 y15) (newellaw17_DoorEnds.j0 (k + 1) y0 y1 y2 y3 y4 y5 y6 y7 y8 y9 y10 y11 y12 y13 y14 y15)) ∧ (∀ y0 y1 y2 y3 y4 y5 y6 y7 y8 y9 y10 y11 y12 y13 y14 y15, LeO (newellaw17_DoorEnds.l0 k y0 y1 y2 y3 y4 y5 y6 y7 y8 y9 y10 y11 y12 y13 y14 y15) (newellaw17_DoorEnds.l0 (k + 1) y0 y1 y2 y3 y4 y5 y6 y7 y8 y9 y10 y11 y12 y13 y14 y15)) ∧ (∀ y0 y1 y2 y3 y4 y5 y6 y7 y8 y9 y10 y11 y12 y13 y14 y15, LeO (newellaw17_DoorEnds.j4 k y0 y1 y2 y3 y4 y5 y6 y7 y8 y9 y10 y11 y12 y13 y14 y15) (newellaw17_DoorEnds.j4 (k + 1) y0 y1 y2 y3 y4 y5 y6 y7 y8 y9 y10 y11 y12 y13 y14 y15)) ∧ (∀ y0 y1 y2 y3 y4 y5 y6 y7 y8 y9 y10 y11 y12 y13 y14 y15 y16, LeO (newellaw17_DoorEnds.j2 k y0 y1 y2 y3 y4 y5 y6 y7 y8 y9 y10 y11 y12 y13 y14 y15 y16) (newellaw17_DoorEnds.j2 (k + 1) y0 y1 y2 y3 y4 y5 y6 y7 y8 y9 y10 y11 y12 y13 y14 y15 y16)) ∧ (∀ y0 y1 y2 y3 y4 y5 y6 y7 y8 y9 y10 y11 y12 y13 y14 y15 y16, LeO (newellaw17_DoorEnds.j3 k y0 y1 y2 y3 y4 y5 y6 y7 y8 y9 y10 y11 y12 y13 y14 y15 y16) (newellaw17_DoorEnds.j3 (k + 1) y0 y1 y2 y3 y4 y5 y6 y7 y8 y9 y10 y11 y12 y13 y14 y15 y16))
 | 0 => ⟨fun _ _ _ _ _ _ _ _ _ _ _ _ _ _ _ _ r h => by simp [newellaw17_DoorEnds.j0] at h, fun _ _ _ _ _ _ _ _ _ _ _ _ _ _ _ _ r h => by simp [newellaw17_DoorEnds.l0] at h, fun _ _ _ _ _ _ _ _ _ _ _ _ _ _ _ _ r h => by simp [newellaw17_DoorEnds.j4] at h, fun _ _ _ _ _ _ _ _ _ _ _ _ _ _ _ _ _ r h => by simp [newellaw17_DoorEnds.j2] at h, fun _ _ _ _ _ _ _ _ _ _ _ _ _ _ _ _ _ r h => by simp [newellaw17_DoorEnds.j3] at h⟩
 | k + 1 => by
  obtain ⟨ih0, ih1, ih2, ih3, ih4⟩ := newellaw17_DoorEnds.mono_l k
  refine ⟨?_, ?_, ?_, ?_, ?_⟩
  ·intro y0 y1 y2 y3 y4 y5 y6 y7 y8 y9 y10 y11 y12 y13 y14 y15
   unfold newellaw17_DoorEnds.j0
   repeat' first
   | (with_reducible exact ih0 _ _ _ _ _ _ _ _ _ _ _ _ _ _ _ _)
   | (with_reducible exact ih1 _ _ _ _ _ _ _ _ _ _ _ _ _ _ _ _)
   | (with_reducible exact ih2 _ _ _ _ _ _ _ _ _ _ _ _ _ _ _ _)
   | (with_reducible exact ih3 _ _ _ _ _ _ _ _ _ _ _ _ _ _ _ _ _)
   | (with_reducible exact ih4 _ _ _ _ _ _ _ _ _ _ _ _ _ _ _ _ _)
   | (with_reducible exact door_Rest.mono _ _ _ _ _ _ _ _ _ _ _ _ _ _)
   | (with_reducible exact door_Step.mono _ _ _ _ _ _ _ _ _ _ _ _ _ _ _)
   | (with_reducible exact newellaw17_awake.mono _)
   | (with_reducible exact LeO.refl _)
   | (with_reducible exact LeO.none _)
   | (with_reducible refine LeO.ite ?_ ?_)
   | (with_reducible refine LeO.bind ?_ (fun _ => ?_))
   | exact ih0 _ _ _ _ _ _ _ _ _ _ _ _ _ _ _ _
   | exact ih1 _ _ _ _ _ _ _ _ _ _ _ _ _ _ _ _
   | exact ih2 _ _ _ _ _ _ _ _ _ _ _ _ _ _ _ _
   | exact ih3 _ _ _ _ _ _ _ _ _ _ _ _ _ _ _ _ _
   | exact ih4 _ _ _ _ _ _ _ _ _ _ _ _ _ _ _ _ _
   | exact door_Rest.mono _ _ _ _ _ _ _ _ _ _ _ _ _ _
   | exact door_Step.mono _ _ _ _ _ _ _ _ _ _ _ _ _ _ _
   | exact newellaw17_awake.mono _
   | exact LeO.none _
   | refine LeO.ite ?_ ?_
   | refine LeO.bind ?_ (fun _ => ?_)
  ·intro y0 y1 y2 y3 y4 y5 y6 y7 y8 y9 y10 y11 y12 y13 y14 y15
   unfold newellaw17_DoorEnds.l0
   repeat' first
   | (with_reducible exact ih0 _ _ _ _ _ _ _ _ _ _ _ _ _ _ _ _)
   | (with_reducible exact ih1 _ _ _ _ _ _ _ _ _ _ _ _ _ _ _ _)
   | (with_reducible exact ih2 _ _ _ _ _ _ _ _ _ _ _ _ _ _ _ _)
   | (with_reducible exact ih3 _ _ _ _ _ _ _ _ _ _ _ _ _ _ _ _ _)
   | (with_reducible exact ih4 _ _ _ _ _ _ _ _ _ _ _ _ _ _ _ _ _)
   | (with_reducible exact door_Rest.mono _ _ _ _ _ _ _ _ _ _ _ _ _ _)
   | (with_reducible exact door_Step.mono _ _ _ _ _ _ _ _ _ _ _ _ _ _ _)
   | (with_reducible exact newellaw17_awake.mono _)
   | (with_reducible exact LeO.refl _)
   | (with_reducible exact LeO.none _)
   | (with_reducible refine LeO.ite ?_ ?_)
   | (with_reducible refine LeO.bind ?_ (fun _ => ?_))
   | exact ih0 _ _ _ _ _ _ _ _ _ _ _ _ _ _ _ _
   | exact ih1 _ _ _ _ _ _ _ _ _ _ _ _ _ _ _ _
   | exact ih2 _ _ _ _ _ _ _ _ _ _ _ _ _ _ _ _
   | exact ih3 _ _ _ _ _ _ _ _ _ _ _ _ _ _ _ _ _
   | exact ih4 _ _ _ _ _ _ _ _ _ _ _ _ _ _ _ _ _
   | exact door_Rest.mono _ _ _ _ _ _ _ _ _ _ _ _ _ _
   | exact door_Step.mono _ _ _ _ _ _ _ _ _ _ _ _ _ _ _
   | exact newellaw17_awake.mono _
   | exact LeO.none _
   | refine LeO.ite ?_ ?_
   | refine LeO.bind ?_ (fun _ => ?_)
  ·intro y0 y1 y2 y3 y4 y5 y6 y7 y8 y9 y10 y11 y12 y13 y14 y15
   unfold newellaw17_DoorEnds.j4
   repeat' first
   | (with_reducible exact ih0 _ _ _ _ _ _ _ _ _ _ _ _ _ _ _ _)
   | (with_reducible exact ih1 _ _ _ _ _ _ _ _ _ _ _ _ _ _ _ _)
   | (with_reducible exact ih2 _ _ _ _ _ _ _ _ _ _ _ _ _ _ _ _)
   | (with_reducible exact ih3 _ _ _ _ _ _ _ _ _ _ _ _ _ _ _ _ _)
   | (with_reducible exact ih4 _ _ _ _ _ _ _ _ _ _ _ _ _ _ _ _ _)
   | (with_reducible exact door_Rest.mono _ _ _ _ _ _ _ _ _ _ _ _ _ _)
   | (with_reducible exact door_Step.mono _ _ _ _ _ _ _ _ _ _ _ _ _ _ _)
   | (with_reducible exact newellaw17_awake.mono _)
   | (with_reducible exact LeO.refl _)
   | (with_reducible exact LeO.none _)
   | (with_reducible refine LeO.ite ?_ ?_)
   | (with_reducible refine LeO.bind ?_ (fun _ => ?_))
   | exact ih0 _ _ _ _ _ _ _ _ _ _ _ _ _ _ _ _
   | exact ih1 _ _ _ _ _ _ _ _ _ _ _ _ _ _ _ _
   | exact ih2 _ _ _ _ _ _ _ _ _ _ _ _ _ _ _ _
   | exact ih3 _ _ _ _ _ _ _ _ _ _ _ _ _ _ _ _ _
   | exact ih4 _ _ _ _ _ _ _ _ _ _ _ _ _ _ _ _ _
   | exact door_Rest.mono _ _ _ _ _ _ _ _ _ _ _ _ _ _
   | exact door_Step.mono _ _ _ _ _ _ _ _ _ _ _ _ _ _ _
   | exact newellaw17_awake.mono _
   | exact LeO.none _
   | refine LeO.ite ?_ ?_
   | refine LeO.bind ?_ (fun _ => ?_)
  ·intro y0 y1 y2 y3 y4 y5 y6 y7 y8 y9 y10 y11 y12 y13 y14 y15 y16
   unfold newellaw17_DoorEnds.j2
   repeat' first
   | (with_reducible exact ih0 _ _ _ _ _ _ _ _ _ _ _ _ _ _ _ _)
   | (with_reducible exact ih1 _ _ _ _ _ _ _ _ _ _ _ _ _ _ _ _)
   | (with_reducible exact ih2 _ _ _ _ _ _ _ _ _ _ _ _ _ _ _ _)
   | (with_reducible exact ih3 _ _ _ _ _ _ _ _ _ _ _ _ _ _ _ _ _)
   | (with_reducible exact ih4 _ _ _ _ _ _ _ _ _ _ _ _ _ _ _ _ _)
   | (with_reducible exact door_Rest.mono _ _ _ _ _ _ _ _ _ _ _ _ _ _)
   | (with_reducible exact door_Step.mono _ _ _ _ _ _ _ _ _ _ _ _ _ _ _)
   | (with_reducible exact newellaw17_awake.mono _)
   | (with_reducible exact LeO.refl _)
   | (with_reducible exact LeO.none _)
   | (with_reducible refine LeO.ite ?_ ?_)
   | (with_reducible refine LeO.bind ?_ (fun _ => ?_))
   | exact ih0 _ _ _ _ _ _ _ _ _ _ _ _ _ _ _ _
   | exact ih1 _ _ _ _ _ _ _ _ _ _ _ _ _ _ _ _
   | exact ih2 _ _ _ _ _ _ _ _ _ _ _ _ _ _ _ _
   | exact ih3 _ _ _ _ _ _ _ _ _ _ _ _ _ _ _ _ _
   | exact ih4 _ _ _ _ _ _ _ _ _ _ _ _ _ _ _ _ _
   | exact door_Rest.mono _ _ _ _ _ _ _ _ _ _ _ _ _ _
   | exact door_Step.mono _ _ _ _ _ _ _ _ _ _ _ _ _ _ _
   | exact newellaw17_awake.mono _
   | exact LeO.none _
   | refine LeO.ite ?_ ?_
   | refine LeO.bind ?_ (fun _ => ?_)
  ·intro y0 y1 y2 y3 y4 y5 y6 y7 y8 y9 y10 y11 y12 y13 y14 y15 y16
   unfold newellaw17_DoorEnds.j3
   repeat' first
   | (with_reducible exact ih0 _ _ _ _ _ _ _ _ _ _ _ _ _ _ _ _)
   | (with_reducible exact ih1 _ _ _ _ _ _ _ _ _ _ _ _ _ _ _ _)
   | (with_reducible exact ih2 _ _ _ _ _ _ _ _ _ _ _ _ _ _ _ _)
   | (with_reducible exact ih3 _ _ _ _ _ _ _ _ _ _ _ _ _ _ _ _ _)
   | (with_reducible exact ih4 _ _ _ _ _ _ _ _ _ _ _ _ _ _ _ _ _)
   | (with_reducible exact door_Rest.mono _ _ _ _ _ _ _ _ _ _ _ _ _ _)
   | (with_reducible exact door_Step.mono _ _ _ _ _ _ _ _ _ _ _ _ _ _ _)
   | (with_reducible exact newellaw17_awake.mono _)
   | (with_reducible exact LeO.refl _)
   | (with_reducible exact LeO.none _)
   | (with_reducible refine LeO.ite ?_ ?_)
   | (with_reducible refine LeO.bind ?_ (fun _ => ?_))
   | exact ih0 _ _ _ _ _ _ _ _ _ _ _ _ _ _ _ _
   | exact ih1 _ _ _ _ _ _ _ _ _ _ _ _ _ _ _ _
   | exact ih2 _ _ _ _ _ _ _ _ _ _ _ _ _ _ _ _
   | exact ih3 _ _ _ _ _ _ _ _ _ _ _ _ _ _ _ _ _
   | exact ih4 _ _ _ _ _ _ _ _ _ _ _ _ _ _ _ _ _
   | exact door_Rest.mono _ _ _ _ _ _ _ _ _ _ _ _ _ _
   | exact door_Step.mono _ _ _ _ _ _ _ _ _ _ _ _ _ _ _
   | exact newellaw17_awake.mono _
   | exact LeO.none _
   | refine LeO.ite ?_ ?_
   | refine LeO.bind ?_ (fun _ => ?_)
theorem newellaw17_DoorEnds.mono : ∀ a0 a1 a2 a3 a4 a5 a6 a7 a8 a9 a10 a11 a12 a13 k, LeO (newellaw17_DoorEnds.f k a0 a1 a2 a3 a4 a5 a6 a7 a8 a9 a10 a11 a12 a13) (newellaw17_DoorEnds.f (k + 1) a0 a1 a2 a3 a4 a5 a6 a7 a8 a9 a10 a11 a12 a13) := by
 intro a0 a1 a2 a3 a4 a5 a6 a7 a8 a9 a10 a11 a12 a13 k
 obtain ⟨ih0, ih1, ih2, ih3, ih4⟩ := newellaw17_DoorEnds.mono_l k
 unfold newellaw17_DoorEnds.f
 repeat' first
   | (with_reducible exact ih0 _ _ _ _ _ _ _ _ _ _ _ _ _ _ _ _)
   | (with_reducible exact ih1 _ _ _ _ _ _ _ _ _ _ _ _ _ _ _ _)
   | (with_reducible exact ih2 _ _ _ _ _ _ _ _ _ _ _ _ _ _ _ _)
   | (with_reducible exact ih3 _ _ _ _ _ _ _ _ _ _ _ _ _ _ _ _ _)
   | (with_reducible exact ih4 _ _ _ _ _ _ _ _ _ _ _ _ _ _ _ _ _)
   | (with_reducible exact door_Rest.mono _ _ _ _ _ _ _ _ _ _ _ _ _ _)
   | (with_reducible exact door_Step.mono _ _ _ _ _ _ _ _ _ _ _ _ _ _ _)
   | (with_reducible exact newellaw17_awake.mono _)
   | (with_reducible exact LeO.refl _)
   | (with_reducible exact LeO.none _)
   | (with_reducible refine LeO.ite ?_ ?_)
   | (with_reducible refine LeO.bind ?_ (fun _ => ?_))
   | exact ih0 _ _ _ _ _ _ _ _ _ _ _ _ _ _ _ _
   | exact ih1 _ _ _ _ _ _ _ _ _ _ _ _ _ _ _ _
   | exact ih2 _ _ _ _ _ _ _ _ _ _ _ _ _ _ _ _
   | exact ih3 _ _ _ _ _ _ _ _ _ _ _ _ _ _ _ _ _
   | exact ih4 _ _ _ _ _ _ _ _ _ _ _ _ _ _ _ _ _
   | exact door_Rest.mono _ _ _ _ _ _ _ _ _ _ _ _ _ _
   | exact door_Step.mono _ _ _ _ _ _ _ _ _ _ _ _ _ _ _
   | exact newellaw17_awake.mono _
   | exact LeO.none _
   | refine LeO.ite ?_ ?_
   | refine LeO.bind ?_ (fun _ => ?_)
def newellaw17_DoorEnds.T7 : Bool × List (List Nat × List Nat) := (true, [([], []), ([], []), ([], []), ([], []), ([3], [3]), ([2, 4], [2, 4]), ([5], [5]), ([6], [6]), ([6], [6]), ([7, 8, 6], [6, 7, 8]), ([9, 6], [6, 9]), ([6, 10], [6, 10]), ([0, 1, 11, 6], [0, 1, 11]), ([12], [12]), ([13], [13]), ([13], [13]), ([13], [13]), ([], []), ([17, 14, 12, 0, 1, 2, 3, 4, 5, 6, 7, 8, 9, 10, 11, 12, 13, 14, 17], [14, 17]), ([15, 18, 0, 1, 2, 3, 4, 5, 6, 7, 8, 9, 10, 11, 12, 13, 14, 15, 17, 18], [15]), ([16, 19, 0, 1, 2, 3, 4, 5, 6, 7, 8, 9, 10, 11, 12, 13, 14, 15, 16, 17, 18, 19], [16])])
def newellaw17_DoorEnds.B7 : List Nat := [0, 0, 0, 0, 8, 28, 60, 124, 124, 508, 1020, 2044, 4095, 8191, 16383, 16383, 16383, 0, 163839, 458751, 1048575]
theorem newellaw17_DoorEnds.tab7 : rtab .any (opsOf Try.f11 7) = newellaw17_DoorEnds.T7 := by kernel_rfl
theorem newellaw17_DoorEnds.bits7 : waitsOk newellaw17_DoorEnds.T7.2 newellaw17_DoorEnds.B7 = true := by kernel_rfl
set_option maxHeartbeats 8000000 in
set_option maxRecDepth 100000 in
theorem newellaw17_DoorEnds.calls (k : Nat) (a0_0 : Int) (a0_1 : Int) (a0_2 : Int) (a0_3 : Int) (a0_4 : Int) (a0_5 : Int) (a0_6 : Int) (a0_7 : Int) (a0_8 : Int) (a0_9 : Int) (a1_0 : Int) (a1_1 : Int) (a1_2 : Int) (A2 : Option Addr) (c2 : Nat) (l2 : List Bool) (r : Bool) (w : World) (hr2 : Kd.C Kd.bool w A2 l2.length l2) (hc2 : l2.length ≤ c2) (h : newellaw17_DoorEnds.f k a0_0 a0_1 a0_2 a0_3 a0_4 a0_5 a0_6 a0_7 a0_8 a0_9 a1_0 a1_1 a1_2 l2 = some r) :
  Calls Try.prog 11 #[.agg #[.int .i64 a0_0, .int .i64 a0_1, .int .i64 a0_2, .int .i64 a0_3, .int .i64 a0_4, .int .i64 a0_5, .int .i64 a0_6, .int .i64 a0_7, .int .i64 a0_8, .int .i64 a0_9], .agg #[.int .i64 a1_0, .int .i64 a1_1, .int .i64 a1_2], .slice A2 l2.length c2] w fun e w' => e = .returned (.bool r) ∧ Below w.heap.size w w' := by
 have hu42 := Try.underlying42
 have hu44 := Try.underlying44
 have HR2 := Aside0.mk hr2
 have HC2 := Aside0.mk hc2
 clear hr2 hc2
 have HB := Aside0.mk (Below.refl w.heap.size w)
 have H : ((door_Rest.f k a0_0 a0_1 a0_2 a0_3 a0_4 a0_5 a0_6 a0_7 a0_8 a0_9 a1_0 a1_1 a1_2).bind fun bt439 => (if bt439.2 = 0 then (newellaw17_DoorEnds.j0 k l2 bt439.1 (decide ((l2.length : Int) > 60)) a0_0 a0_1 a0_2 a0_3 a0_4 a0_5 a0_6 a0_7 a0_8 a0_9 a1_0 a1_1 a1_2) else (newellaw17_DoorEnds.j0 k l2 bt439.1 true a0_0 a0_1 a0_2 a0_3 a0_4 a0_5 a0_6 a0_7 a0_8 a0_9 a1_0 a1_1 a1_2))) = some r := h
 clear h
 replace H := Option.bind_eq_some_iff.mp H
 obtain ⟨⟨t439, t440⟩, A40, H⟩ := H
 replace H : (if t440 = 0 then (newellaw17_DoorEnds.j0 k l2 t439 (decide ((l2.length : Int) > 60)) a0_0 a0_1 a0_2 a0_3 a0_4 a0_5 a0_6 a0_7 a0_8 a0_9 a1_0 a1_1 a1_2) else (newellaw17_DoorEnds.j0 k l2 t439 true a0_0 a0_1 a0_2 a0_3 a0_4 a0_5 a0_6 a0_7 a0_8 a0_9 a1_0 a1_1 a1_2)) = some r := H
 have A4 := Aside0.mk A40
 clear A40
 have HC5 := Aside0.mk H
 clear H
 go_enter Try.func11, Try.ntmps11
 go_upto_region 2 with (first | ((with_reducible refine gate_dst (N := 3) rfl ?_); (try (refine gate_guard (by rfl) ?_; dsimp only)); refine box_event ?hg (N := 3) ?hd (cs := #[.int .i64 a0_0, .int .i64 a0_1, .int .i64 a0_2, .int .i64 a0_3, .int .i64 a0_4, .int .i64 a0_5, .int .i64 a0_6, .int .i64 a0_7, .int .i64 a0_8, .int .i64 a0_9]) (t := 42) ?hr ?_; (case hd => rfl); (case hg => rfl); (case hr => first | (go_simp; done) | (go_simp; rfl)); intro gb437 hg w6 hbox hb; have n0_ := Aside0.mk (below_step (by repeat (first | (with_reducible first | exact HB.out | apply below_alloc | apply pw_below_drewN | apply below_drew1) | exact HB.out)) hb); have n1_ := Aside0.mk (hbox); have n2_ := Aside0.mk ((by rw [hg]; exact (below_size (by repeat (first | (with_reducible first | exact HB.out | apply below_alloc | apply pw_below_drewN | apply below_drew1) | exact HB.out))) : w.heap.size ≤ gb437)); have n3_ := Aside0.mk ((by rw [hg]; exact (below_size (by repeat (first | (with_reducible first | exact HB.out | apply below_alloc | apply pw_below_drewN | apply below_drew1) | exact HB.out))) : w.heap.size ≤ gb437)); clear HB; have HB := n0_; have BK437 := n1_; have GW437 := n2_; have GE437 := n3_; clear n0_ n1_ n2_ n3_; clear hb hbox hg) | ((with_reducible refine gate_dst (N := 4) rfl ?_); (try (refine gate_guard (by rfl) ?_; dsimp only)); refine box_event ?hg (N := 4) ?hd (cs := #[.int .i64 a1_0, .int .i64 a1_1, .int .i64 a1_2]) (t := 44) ?hr ?_; (case hd => rfl); (case hg => rfl); (case hr => first | (go_simp; done) | (go_simp; rfl)); intro gb438 hg w7 hbox hb; have n0_ := Aside0.mk (blk_below (g := gb437) (o := .cells #[.int .i64 a0_0, .int .i64 a0_1, .int .i64 a0_2, .int .i64 a0_3, .int .i64 a0_4, .int .i64 a0_5, .int .i64 a0_6, .int .i64 a0_7, .int .i64 a0_8, .int .i64 a0_9] 42 (0, 0)) (by (with_reducible repeat (first | refine blk_drewN ?_ _ | refine blk_drew ?_ | refine blk_alloc ?_ _)); exact BK437.out) hb); have n1_ := Aside0.mk (below_step (by repeat (first | (with_reducible first | exact HB.out | apply below_alloc | apply pw_below_drewN | apply below_drew1 | refine below_set ?_ GE437.out) | exact HB.out)) hb); have n2_ := Aside0.mk (hbox); have n3_ := Aside0.mk ((by rw [hg]; exact (below_size (by repeat (first | (with_reducible first | exact HB.out | apply below_alloc | apply pw_below_drewN | apply below_drew1 | refine below_set ?_ GE437.out) | exact HB.out))) : w.heap.size ≤ gb438)); have n4_ := Aside0.mk ((by rw [hg]; exact (below_size (by repeat (first | (with_reducible first | exact HB.out | apply below_alloc | apply pw_below_drewN | apply below_drew1 | refine below_set ?_ GE437.out) | exact HB.out))) : w.heap.size ≤ gb438)); have n5_ := Aside0.mk ((by rw [hg]; exact Nat.ne_of_lt (blk_lt (g := gb437) (o := .cells #[.int .i64 a0_0, .int .i64 a0_1, .int .i64 a0_2, .int .i64 a0_3, .int .i64 a0_4, .int .i64 a0_5, .int .i64 a0_6, .int .i64 a0_7, .int .i64 a0_8, .int .i64 a0_9] 42 (0, 0)) (by (with_reducible repeat (first | refine blk_drewN ?_ _ | refine blk_drew ?_ | refine blk_alloc ?_ _)); exact BK437.out)) : gb437 ≠ gb438)); have n6_ := Aside0.mk ((by rw [hg]; exact Nat.ne_of_gt (blk_lt (g := gb437) (o := .cells #[.int .i64 a0_0, .int .i64 a0_1, .int .i64 a0_2, .int .i64 a0_3, .int .i64 a0_4, .int .i64 a0_5, .int .i64 a0_6, .int .i64 a0_7, .int .i64 a0_8, .int .i64 a0_9] 42 (0, 0)) (by (with_reducible repeat (first | refine blk_drewN ?_ _ | refine blk_drew ?_ | refine blk_alloc ?_ _)); exact BK437.out)) : gb438 ≠ gb437)); clear BK437; clear HB; have BK437 := n0_; have HB := n1_; have BK438 := n2_; have GW438 := n3_; have GE438 := n4_; have NB437_438 := n5_; have NB438_437 := n6_; clear n0_ n1_ n2_ n3_ n4_ n5_ n6_; clear hb hbox hg; have hnb8 := NB437_438.out; have hnc8 := NB438_437.out; have hcz9_0 : w7.cell? ⟨gb437, 0, none⟩ = some (.int .i64 a0_0) := (blk_cell BK437.out 0).trans rfl; have hcz9_1 : w7.cell? ⟨gb437, 1, none⟩ = some (.int .i64 a0_1) := (blk_cell BK437.out 1).trans rfl; have hcz9_2 : w7.cell? ⟨gb437, 2, none⟩ = some (.int .i64 a0_2) := (blk_cell BK437.out 2).trans rfl; have hcz9_3 : w7.cell? ⟨gb437, 3, none⟩ = some (.int .i64 a0_3) := (blk_cell BK437.out 3).trans rfl; have hcz9_4 : w7.cell? ⟨gb437, 4, none⟩ = some (.int .i64 a0_4) := (blk_cell BK437.out 4).trans rfl; have hcz9_5 : w7.cell? ⟨gb437, 5, none⟩ = some (.int .i64 a0_5) := (blk_cell BK437.out 5).trans rfl; have hcz9_6 : w7.cell? ⟨gb437, 6, none⟩ = some (.int .i64 a0_6) := (blk_cell BK437.out 6).trans rfl; have hcz9_7 : w7.cell? ⟨gb437, 7, none⟩ = some (.int .i64 a0_7) := (blk_cell BK437.out 7).trans rfl; have hcz9_8 : w7.cell? ⟨gb437, 8, none⟩ = some (.int .i64 a0_8) := (blk_cell BK437.out 8).trans rfl; have hcz9_9 : w7.cell? ⟨gb437, 9, none⟩ = some (.int .i64 a0_9) := (blk_cell BK437.out 9).trans rfl; have hfz9_0 := blk_frozen BK437.out 0; have hfz9_1 := blk_frozen BK437.out 1; have hfz9_2 := blk_frozen BK437.out 2; have hfz9_3 := blk_frozen BK437.out 3; have hfz9_4 := blk_frozen BK437.out 4; have hfz9_5 := blk_frozen BK437.out 5; have hfz9_6 := blk_frozen BK437.out 6; have hfz9_7 := blk_frozen BK437.out 7; have hfz9_8 := blk_frozen BK437.out 8; have hfz9_9 := blk_frozen BK437.out 9; have hcz10_0 : w7.cell? ⟨gb438, 0, none⟩ = some (.int .i64 a1_0) := (blk_cell BK438.out 0).trans rfl; have hcz10_1 : w7.cell? ⟨gb438, 1, none⟩ = some (.int .i64 a1_1) := (blk_cell BK438.out 1).trans rfl; have hcz10_2 : w7.cell? ⟨gb438, 2, none⟩ = some (.int .i64 a1_2) := (blk_cell BK438.out 2).trans rfl; have hfz10_0 := blk_frozen BK438.out 0; have hfz10_1 := blk_frozen BK438.out 1; have hfz10_2 := blk_frozen BK438.out 2) | ((with_reducible refine gate_callee (f := 23) rfl ?_); refine goesL_ (some 16) rfl rfl Try.func23 (by kernel_rfl) rfl #[.agg #[.int .i64 a0_0, .int .i64 a0_1, .int .i64 a0_2, .int .i64 a0_3, .int .i64 a0_4, .int .i64 a0_5, .int .i64 a0_6, .int .i64 a0_7, .int .i64 a0_8, .int .i64 a0_9], .agg #[.int .i64 a1_0, .int .i64 a1_1, .int .i64 a1_2]] rfl (by (try simp only [List.map_toArray, List.map_cons, List.map_nil]); first | done | rfl | (simp only [List.length_drop, List.length_take]; rfl)) ?_; (with_reducible refine (door_Rest.calls k a0_0 a0_1 a0_2 a0_3 a0_4 a0_5 a0_6 a0_7 a0_8 a0_9 a1_0 a1_1 a1_2 t439 t440 _ A4.out).mono ?_); rintro e w11 ⟨rfl, hb⟩; refine ⟨_, rfl, ?_⟩; have n0_ := Aside0.mk (blk_below (g := gb437) (o := .cells #[.int .i64 a0_0, .int .i64 a0_1, .int .i64 a0_2, .int .i64 a0_3, .int .i64 a0_4, .int .i64 a0_5, .int .i64 a0_6, .int .i64 a0_7, .int .i64 a0_8, .int .i64 a0_9] 42 (0, 0)) (by (with_reducible repeat (first | refine blk_drewN ?_ _ | refine blk_drew ?_ | refine blk_alloc ?_ _)); exact BK437.out) hb); have n1_ := Aside0.mk (blk_below (g := gb438) (o := .cells #[.int .i64 a1_0, .int .i64 a1_1, .int .i64 a1_2] 44 (0, 0)) (by (with_reducible repeat (first | refine blk_drewN ?_ _ | refine blk_drew ?_ | refine blk_alloc ?_ _)); exact BK438.out) hb); have n2_ := Aside0.mk (below_step (by repeat (first | (with_reducible first | exact HB.out | apply below_alloc | apply pw_below_drewN | apply below_drew1 | refine below_set ?_ GE437.out | refine below_set ?_ GE438.out) | exact HB.out)) hb); clear BK437; clear BK438; clear HB; have BK437 := n0_; have BK438 := n1_; have HB := n2_; clear n0_ n1_ n2_; (try clear hb); (try clear hb2); (try clear hk); (try clear hi)))
 (try simp only [Act.put, List.setIfInBounds_toArray, List.set_cons_zero, List.set_cons_succ])
 go_cut [25] (fun v25 wc => ∃ (kq : Nat) (x25_4 : Bool), v25 = .bool x25_4 ∧ Aside0 (newellaw17_DoorEnds.j0 kq l2 t439 x25_4 a0_0 a0_1 a0_2 a0_3 a0_4 a0_5 a0_6 a0_7 a0_8 a0_9 a1_0 a1_1 a1_2 = some r) ∧ Aside0 (kq ≤ k) ∧ Aside0 (wc.heap[gb437]? = some (.cells #[.int .i64 a0_0, .int .i64 a0_1, .int .i64 a0_2, .int .i64 a0_3, .int .i64 a0_4, .int .i64 a0_5, .int .i64 a0_6, .int .i64 a0_7, .int .i64 a0_8, .int .i64 a0_9] 42 (0, 0))) ∧ Aside0 (wc.heap[gb438]? = some (.cells #[.int .i64 a1_0, .int .i64 a1_1, .int .i64 a1_2] 44 (0, 0))) ∧ Aside0 (Below w.heap.size w wc))
 case first =>
  have H := HC5.out
  clear HC5
  by_cases c12 : t440 = 0
  ·rw [if_pos c12] at H
   have c12b0 : (t440 == 0) = true := beq_iff_eq.mpr c12
   have c12b1 : (t440 != 0) = false := bne_eq_false_iff_eq.mpr c12
   clear c12
   (first | rw [c12b0] | (simp only [i64_w, i32_w]; rw [c12b0]) | skip)
   have H' := Aside0.mk H
   clear H
   go_wp2
   go_meet
   case rel => exact ⟨_, (decide ((l2.length : Int) > 60)), (by first | rfl | (simp; done) | (simp [*]; done)), H', ⟨by first | omega | exact Nat.le_refl _⟩, ⟨by (with_reducible repeat (first | refine blk_drewN ?_ _ | refine blk_drew ?_ | refine blk_alloc ?_ _)); exact BK437.out⟩, ⟨by (with_reducible repeat (first | refine blk_drewN ?_ _ | refine blk_drew ?_ | refine blk_alloc ?_ _)); exact BK438.out⟩, ⟨by repeat (first | (with_reducible first | exact HB.out | apply below_alloc | apply pw_below_drewN | apply below_drew1 | refine below_set ?_ GE437.out | refine below_set ?_ GE438.out) | exact HB.out)⟩⟩
  ·rw [if_neg c12] at H
   have c12b0 : (t440 == 0) = false := beq_eq_false_iff_ne.mpr c12
   have c12b1 : (t440 != 0) = true := bne_iff_ne.mpr c12
   (first | rw [c12b0] | (simp only [i64_w, i32_w]; rw [c12b0]) | skip)
   have H' := Aside0.mk H
   clear H
   go_wp2
   go_meet
   case rel => exact ⟨_, (true), (by first | rfl | (simp; done) | (simp [*]; done)), H', ⟨by first | omega | exact Nat.le_refl _⟩, ⟨by (with_reducible repeat (first | refine blk_drewN ?_ _ | refine blk_drew ?_ | refine blk_alloc ?_ _)); exact BK437.out⟩, ⟨by (with_reducible repeat (first | refine blk_drewN ?_ _ | refine blk_drew ?_ | refine blk_alloc ?_ _)); exact BK438.out⟩, ⟨by repeat (first | (with_reducible first | exact HB.out | apply below_alloc | apply pw_below_drewN | apply below_drew1 | refine below_set ?_ GE437.out | refine below_set ?_ GE438.out) | exact HB.out)⟩⟩
 case rest =>
  clear HC5
  try clear c1
  try clear c2
  try clear p2
  try clear c8
  try clear c11
  try clear c12
  try clear c12b0
  try clear c12b1
  try clear hcz10_0
  try clear hcz10_1
  try clear hcz10_2
  try clear hcz9_0
  try clear hcz9_1
  try clear hcz9_2
  try clear hcz9_3
  try clear hcz9_4
  try clear hcz9_5
  try clear hcz9_6
  try clear hcz9_7
  try clear hcz9_8
  try clear hcz9_9
  try clear hfz10_0
  try clear hfz10_1
  try clear hfz10_2
  try clear hfz9_0
  try clear hfz9_1
  try clear hfz9_2
  try clear hfz9_3
  try clear hfz9_4
  try clear hfz9_5
  try clear hfz9_6
  try clear hfz9_7
  try clear hfz9_8
  try clear hfz9_9
  obtain ⟨kq, x25_4, rfl, HA, HJ4, BK437, BK438, HB⟩ := hcut
  cases kq with
  | zero => exact absurd HA.out (by simp [newellaw17_DoorEnds.j0])
  | succ kj4 =>
   have H := HA.out
   clear HA
   simp only [newellaw17_DoorEnds.j0] at H
   by_cases c13 : x25_4 = true
   ·subst c13
    have H1 : ((newellaw17_awake.f kj4).bind fun t441 => (some t441)) = some r := by rw [if_pos rfl] at H; exact H
    clear H
    have H := H1
    clear H1
    replace H := Option.bind_eq_some_iff.mp H
    obtain ⟨t441, A140, H⟩ := H
    replace H : (some t441) = some r := H
    have A14 := Aside0.mk A140
    clear A140
    obtain rfl := Option.some.inj H
    go_wp2_with (first | ((with_reducible refine gate_callee (f := 26) rfl ?_); refine goesL_ (some 26) rfl rfl Try.func26 (by kernel_rfl) rfl #[] rfl (by (try simp only [List.map_toArray, List.map_cons, List.map_nil]); first | done | rfl | (simp only [List.length_drop, List.length_take]; rfl)) ?_; (with_reducible refine (newellaw17_awake.calls kj4  t441 _ A14.out).mono ?_); rintro e w15 ⟨rfl, hb⟩; refine ⟨_, rfl, ?_⟩; have n0_ := Aside0.mk (blk_below (g := gb437) (o := .cells #[.int .i64 a0_0, .int .i64 a0_1, .int .i64 a0_2, .int .i64 a0_3, .int .i64 a0_4, .int .i64 a0_5, .int .i64 a0_6, .int .i64 a0_7, .int .i64 a0_8, .int .i64 a0_9] 42 (0, 0)) (by (with_reducible repeat (first | refine blk_drewN ?_ _ | refine blk_drew ?_ | refine blk_alloc ?_ _)); exact BK437.out) hb); have n1_ := Aside0.mk (blk_below (g := gb438) (o := .cells #[.int .i64 a1_0, .int .i64 a1_1, .int .i64 a1_2] 44 (0, 0)) (by (with_reducible repeat (first | refine blk_drewN ?_ _ | refine blk_drew ?_ | refine blk_alloc ?_ _)); exact BK438.out) hb); have n2_ := Aside0.mk (below_step (by repeat (first | (with_reducible first | exact HB.out | apply below_alloc | apply pw_below_drewN | apply below_drew1 | refine below_set ?_ GE437.out | refine below_set ?_ GE438.out) | exact HB.out)) hb); clear BK437; clear BK438; clear HB; have BK437 := n0_; have BK438 := n1_; have HB := n2_; clear n0_ n1_ n2_; (try clear hb); (try clear hb2); (try clear hk); (try clear hi)))
    go_ret
    exact ⟨by first | rfl | (simp [errW_none, errW_some] <;> rfl) | (simp [*, errW_none, errW_some] <;> rfl), by repeat (first | (with_reducible first | exact HB.out | apply below_alloc | apply pw_below_drewN | apply below_drew1 | refine below_set ?_ GE437.out | refine below_set ?_ GE438.out) | exact HB.out)⟩
   ·replace c13 := Bool.eq_false_iff.mpr c13
    subst c13
    have H1 : (newellaw17_DoorEnds.l0 kj4 l2 t439 0 a0_0 a0_1 a0_2 a0_3 a0_4 a0_5 a0_6 a0_7 a0_8 a0_9 a1_0 a1_1 a1_2) = some r := by rw [if_neg (show ¬ (false = true) by decide)] at H; exact H
    clear H
    have H := H1
    clear H1
    have H' := Aside0.mk H
    clear H
    go_wp2
    go_loopg [9] kj4 (fun kq v9 w' => ∃ (x9_2 : Int) (x439000_2 : Int) (x439001_2 : Int) (x439002_2 : Int), v9 = .int .i64 x9_2 ∧ Aside0 (newellaw17_DoorEnds.l0 kq l2 t439 x9_2 a0_0 a0_1 a0_2 a0_3 a0_4 a0_5 a0_6 a0_7 a0_8 a0_9 x439000_2 x439001_2 x439002_2 = some r) ∧ Aside0 (kq ≤ kj4) ∧ Aside0 (w'.heap[gb437]? = some (.cells #[.int .i64 a0_0, .int .i64 a0_1, .int .i64 a0_2, .int .i64 a0_3, .int .i64 a0_4, .int .i64 a0_5, .int .i64 a0_6, .int .i64 a0_7, .int .i64 a0_8, .int .i64 a0_9] 42 (0, 0))) ∧ Aside0 (w'.heap[gb438]? = some (.cells #[.int .i64 x439000_2, .int .i64 x439001_2, .int .i64 x439002_2] 44 (0, 0))) ∧ Aside0 (Below w.heap.size w w'))
    case atStart => exact ⟨(0), (a1_0), (a1_1), (a1_2), (by first | rfl | (simp; done) | (simp [*]; done)), H', ⟨Nat.le_refl _⟩, ⟨by (with_reducible repeat (first | refine blk_drewN ?_ _ | refine blk_drew ?_ | refine blk_alloc ?_ _)); exact BK437.out⟩, ⟨by (with_reducible repeat (first | refine blk_drewN ?_ _ | refine blk_drew ?_ | refine blk_alloc ?_ _)); exact BK438.out⟩, ⟨by repeat (first | (with_reducible first | exact HB.out | apply below_alloc | apply pw_below_drewN | apply below_drew1 | refine below_set ?_ GE437.out | refine below_set ?_ GE438.out) | exact HB.out)⟩⟩
    case round =>
     clear H'
     try clear c1
     try clear c2
     try clear p2
     try clear c8
     try clear c11
     try clear c12
     try clear c12b0
     try clear c12b1
     try clear c13
     try clear hcz10_0
     try clear hcz10_1
     try clear hcz10_2
     try clear hcz9_0
     try clear hcz9_1
     try clear hcz9_2
     try clear hcz9_3
     try clear hcz9_4
     try clear hcz9_5
     try clear hcz9_6
     try clear hcz9_7
     try clear hcz9_8
     try clear hcz9_9
     try clear hfz10_0
     try clear hfz10_1
     try clear hfz10_2
     try clear hfz9_0
     try clear hfz9_1
     try clear hfz9_2
     try clear hfz9_3
     try clear hfz9_4
     try clear hfz9_5
     try clear hfz9_6
     try clear hfz9_7
     try clear hfz9_8
     try clear hfz9_9
     try clear p2
     obtain ⟨x9_2, x439000_2, x439001_2, x439002_2, rfl, HA, HK2, BK437, BK438, HB⟩ := hrel
     cases gk with
     | zero => exact absurd HA.out (by simp [newellaw17_DoorEnds.l0])
     | succ k2 =>
      have H := HA.out
      clear HA
      simp only [newellaw17_DoorEnds.l0] at H
      by_cases c16 : x9_2 < t439
      ·rw [if_pos c16] at H
       have c16b0 : decide (x9_2 < t439) = true := decide_eq_true c16
       clear c16
       have HC17 := Aside0.mk H
       clear H
       go_upto_block 1 with (fail)
       go_cut [] (fun wc => ∃ (kq : Nat) (x439000_16 : Int) (x439001_16 : Int) (x439002_16 : Int), Aside0 (newellaw17_DoorEnds.j4 kq l2 t439 x9_2 a0_0 a0_1 a0_2 a0_3 a0_4 a0_5 a0_6 a0_7 a0_8 a0_9 x439000_16 x439001_16 x439002_16 = some r) ∧ Aside0 (kq ≤ k2) ∧ Aside0 (wc.heap[gb437]? = some (.cells #[.int .i64 a0_0, .int .i64 a0_1, .int .i64 a0_2, .int .i64 a0_3, .int .i64 a0_4, .int .i64 a0_5, .int .i64 a0_6, .int .i64 a0_7, .int .i64 a0_8, .int .i64 a0_9] 42 (0, 0))) ∧ Aside0 (wc.heap[gb438]? = some (.cells #[.int .i64 x439000_16, .int .i64 x439001_16, .int .i64 x439002_16] 44 (0, 0))) ∧ Aside0 (Below w.heap.size w wc))
       case first =>
        have H := HC17.out
        clear HC17
        by_cases c18 : x9_2 < (l2.length : Int)
        ·rw [if_pos c18] at H
         have c18b0 : decide (x9_2 < (l2.length : Int)) = true := decide_eq_true c18
         clear c18
         (first | rw [c18b0] | (simp only [i64_w, i32_w]; rw [c18b0]) | skip)
         by_cases c19 : 0 ≤ x9_2
         ·rw [if_pos c19] at H
          have c19b0 : decide (0 ≤ x9_2) = true := decide_eq_true c19
          clear c19
          replace H := Option.bind_eq_some_iff.mp H
          obtain ⟨⟨t443, t444, t445, t446, t447⟩, A200, H⟩ := H
          replace H : (if t447 = 0 then (if t446 = true then (if x439000_2 = 2 then (if t443 = 0 then (if x439000_2 = 3 then (newellaw17_DoorEnds.j2 k2 l2 t439 x9_2 false a0_0 a0_1 a0_2 a0_3 a0_4 a0_5 a0_6 a0_7 a0_8 a0_9 t443 t444 t445) else (newellaw17_DoorEnds.j2 k2 l2 t439 x9_2 (x439000_2 != 0) a0_0 a0_1 a0_2 a0_3 a0_4 a0_5 a0_6 a0_7 a0_8 a0_9 t443 t444 t445)) else (newellaw17_DoorEnds.j2 k2 l2 t439 x9_2 false a0_0 a0_1 a0_2 a0_3 a0_4 a0_5 a0_6 a0_7 a0_8 a0_9 t443 t444 t445)) else (none)) else (if t443 = 0 then (if x439000_2 = 3 then (newellaw17_DoorEnds.j2 k2 l2 t439 x9_2 false a0_0 a0_1 a0_2 a0_3 a0_4 a0_5 a0_6 a0_7 a0_8 a0_9 t443 t444 t445) else (newellaw17_DoorEnds.j2 k2 l2 t439 x9_2 (x439000_2 != 0) a0_0 a0_1 a0_2 a0_3 a0_4 a0_5 a0_6 a0_7 a0_8 a0_9 t443 t444 t445)) else (newellaw17_DoorEnds.j2 k2 l2 t439 x9_2 false a0_0 a0_1 a0_2 a0_3 a0_4 a0_5 a0_6 a0_7 a0_8 a0_9 t443 t444 t445))) else (none)) = some r := H
          have A20 := Aside0.mk A200
          clear A200
          have HC21 := Aside0.mk H
          clear H
          try go_wp2
          have n0_ := Aside0.mk (blk_drew BK437.out)
          have n1_ := Aside0.mk (blk_drew BK438.out)
          have n2_ := Aside0.mk (below_drew1 HB.out)
          clear BK437
          clear BK438
          clear HB
          have BK437 := n0_
          have BK438 := n1_
          have HB := n2_
          clear n0_ n1_ n2_
          have p442 : 0 ≤ (x9_2 : Int) := of_decide_eq_true (by first | (with_reducible assumption) | assumption)
          have q442 : x9_2 < (l2.length : Int) := of_decide_eq_true (by first | (with_reducible assumption) | assumption)
          obtain ⟨ad442, e442, hx442_0⟩ := Kd.at_bool HR2.out x9_2 p442 q442
          have hw442_0 := hx442_0
          cases e442
          replace hx442_0 := (HB.out.cell (World.block_lt_of_cell? w _ hx442_0)).trans hx442_0
          replace p442 := eq_true p442
          replace q442 := eq_true q442
          refine start_ (n := 21) (S := fun w' => w'.cell? ⟨gb437, 0, none⟩ = some (.int .i64 a0_0) ∧ w'.cell? ⟨gb437, 1, none⟩ = some (.int .i64 a0_1) ∧ w'.cell? ⟨gb437, 2, none⟩ = some (.int .i64 a0_2) ∧ w'.cell? ⟨gb437, 3, none⟩ = some (.int .i64 a0_3) ∧ w'.cell? ⟨gb437, 4, none⟩ = some (.int .i64 a0_4) ∧ w'.cell? ⟨gb437, 5, none⟩ = some (.int .i64 a0_5) ∧ w'.cell? ⟨gb437, 6, none⟩ = some (.int .i64 a0_6) ∧ w'.cell? ⟨gb437, 7, none⟩ = some (.int .i64 a0_7) ∧ w'.cell? ⟨gb437, 8, none⟩ = some (.int .i64 a0_8) ∧ w'.cell? ⟨gb437, 9, none⟩ = some (.int .i64 a0_9) ∧ w'.cell? ⟨gb438, 0, none⟩ = some (.int .i64 x439000_2) ∧ w'.cell? ⟨gb438, 1, none⟩ = some (.int .i64 x439001_2) ∧ w'.cell? ⟨gb438, 2, none⟩ = some (.int .i64 x439002_2) ∧ w'.cell? (ad442.add (x9_2).toNat) = some (.bool (rdOf false l2 x9_2))) (ds := []) #[false, false, false, false, false, false, false, false, false, false, false, false, false, false, false, false, false, false, false, false, false] (by kernel_rfl) rfl rfl ⟨(blk_cell BK437.out 0).trans rfl, (blk_cell BK437.out 1).trans rfl, (blk_cell BK437.out 2).trans rfl, (blk_cell BK437.out 3).trans rfl, (blk_cell BK437.out 4).trans rfl, (blk_cell BK437.out 5).trans rfl, (blk_cell BK437.out 6).trans rfl, (blk_cell BK437.out 7).trans rfl, (blk_cell BK437.out 8).trans rfl, (blk_cell BK437.out 9).trans rfl, (blk_cell BK438.out 0).trans rfl, (blk_cell BK438.out 1).trans rfl, (blk_cell BK438.out 2).trans rfl, ((HB.out.cell (World.block_lt_of_cell? w _ hw442_0)).trans hw442_0)⟩ (fun hHeld => ?_); refine with_tabW newellaw17_DoorEnds.tab7 newellaw17_DoorEnds.bits7 (fun HT_ HW_ => ?_)
          generalize wr.drew = w22 at BK437 BK438 HB hx442_0 hHeld ⊢
          refine pure_ (i := 2) (N := some 35) (v := ?_) (a' := ?_) #[false, false, true, false, false, false, false, false, false, false, false, false, false, false, false, false, false, false, false, false, false] rfl rfl (any_of HT_.out (by kernel_rfl)) (fun _ _ _ h => h) (Or.inl ⟨by rfl, ?_⟩) ?_ ?_
          rotate_left
          ·intro w'
           go_simp
           with_reducible rfl
          rotate_left
          ·simp only [Act.put, List.setIfInBounds_toArray, List.set_cons_zero, List.set_cons_succ, i64_w, i32_w]
           rfl
          refine pure_ (i := 3) (N := some 36) (v := ?_) (a' := ?_) #[false, false, true, true, false, false, false, false, false, false, false, false, false, false, false, false, false, false, false, false, false] rfl rfl (any_of HT_.out (by kernel_rfl)) (fun _ _ _ h => h) (Or.inl ⟨by rfl, ?_⟩) ?_ ?_
          rotate_left
          ·intro w'
           go_simp
           with_reducible rfl
          rotate_left
          ·simp only [Act.put, List.setIfInBounds_toArray, List.set_cons_zero, List.set_cons_succ, i64_w, i32_w]
           rfl
          refine pure_ (i := 4) (N := some 37) (v := ?_) (a' := ?_) #[false, false, true, true, true, false, false, false, false, false, false, false, false, false, false, false, false, false, false, false, false] rfl rfl (any_of HT_.out (by kernel_rfl)) (fun _ _ _ h => h) (Or.inl ⟨by rfl, ?_⟩) ?_ ?_
          rotate_left
          ·intro w'
           go_simp
           with_reducible rfl
          rotate_left
          ·simp only [Act.put, List.setIfInBounds_toArray, List.set_cons_zero, List.set_cons_succ, i64_w, i32_w]
           rfl
          refine pure_ (i := 5) (N := some 38) (v := ?_) (a' := ?_) #[false, false, true, true, true, true, false, false, false, false, false, false, false, false, false, false, false, false, false, false, false] rfl rfl (any_of HT_.out (by kernel_rfl)) (fun _ _ _ h => h) (Or.inl ⟨by rfl, ?_⟩) ?_ ?_
          rotate_left
          ·intro w'
           go_simp
           with_reducible rfl
          rotate_left
          ·simp only [Act.put, List.setIfInBounds_toArray, List.set_cons_zero, List.set_cons_succ, i64_w, i32_w]
           rfl
          refine pure_ (i := 6) (N := some 39) (v := ?_) (a' := ?_) #[false, false, true, true, true, true, true, false, false, false, false, false, false, false, false, false, false, false, false, false, false] rfl rfl (any_of HT_.out (by kernel_rfl)) (fun _ _ _ h => h) (Or.inl ⟨by rfl, ?_⟩) ?_ ?_
          rotate_left
          ·intro w'
           go_simp
           with_reducible rfl
          rotate_left
          ·simp only [Act.put, List.setIfInBounds_toArray, List.set_cons_zero, List.set_cons_succ, i64_w, i32_w]
           rfl
          refine pure_ (i := 7) (N := some 40) (v := ?_) (a' := ?_) #[false, false, true, true, true, true, true, true, false, false, false, false, false, false, false, false, false, false, false, false, false] rfl rfl (any_of HT_.out (by kernel_rfl)) (fun _ _ _ h => h) (Or.inl ⟨by rfl, ?_⟩) ?_ ?_
          rotate_left
          ·intro w'
           go_simp
           with_reducible rfl
          rotate_left
          ·simp only [Act.put, List.setIfInBounds_toArray, List.set_cons_zero, List.set_cons_succ, i64_w, i32_w]
           rfl
          refine pure_ (i := 8) (N := some 41) (v := ?_) (a' := ?_) #[false, false, true, true, true, true, true, true, true, false, false, false, false, false, false, false, false, false, false, false, false] rfl rfl (any_of HT_.out (by kernel_rfl)) (fun _ _ _ h => h) (Or.inl ⟨by rfl, ?_⟩) ?_ ?_
          rotate_left
          ·intro w'
           go_simp
           with_reducible rfl
          rotate_left
          ·simp only [Act.put, List.setIfInBounds_toArray, List.set_cons_zero, List.set_cons_succ, i64_w, i32_w]
           rfl
          refine pure_ (i := 9) (N := some 42) (v := ?_) (a' := ?_) #[false, false, true, true, true, true, true, true, true, true, false, false, false, false, false, false, false, false, false, false, false] rfl rfl (any_of HT_.out (by kernel_rfl)) (fun _ _ _ h => h) (Or.inl ⟨by rfl, ?_⟩) ?_ ?_
          rotate_left
          ·intro w'
           go_simp
           with_reducible rfl
          rotate_left
          ·simp only [Act.put, List.setIfInBounds_toArray, List.set_cons_zero, List.set_cons_succ, i64_w, i32_w]
           rfl
          refine take_ (i := 0) (N := some 33) (v := ?_) (a' := ?_) #[true, false, true, true, true, true, true, true, true, true, false, false, false, false, false, false, false, false, false, false, false] rfl rfl (take_ofW HT_.out HW_.out (by kernel_rfl)) (fun _ _ _ h => h) (Or.inl ⟨by rfl, ?_⟩) hHeld ?_ ?_
          rotate_left
          ·rintro w' ⟨s0, s1, s2, s3, s4, s5, s6, s7, s8, s9, s10, s11, s12, s13⟩
           go_simp
           with_reducible rfl
          rotate_left
          ·simp only [Act.put, List.setIfInBounds_toArray, List.set_cons_zero, List.set_cons_succ, i64_w, i32_w]
           rfl
          refine take_ (i := 1) (N := some 34) (v := ?_) (a' := ?_) #[true, true, true, true, true, true, true, true, true, true, false, false, false, false, false, false, false, false, false, false, false] rfl rfl (take_ofW HT_.out HW_.out (by kernel_rfl)) (fun _ _ _ h => h) (Or.inl ⟨by rfl, ?_⟩) hHeld ?_ ?_
          rotate_left
          ·rintro w' ⟨s0, s1, s2, s3, s4, s5, s6, s7, s8, s9, s10, s11, s12, s13⟩
           go_simp
           with_reducible rfl
          rotate_left
          ·simp only [Act.put, List.setIfInBounds_toArray, List.set_cons_zero, List.set_cons_succ, i64_w, i32_w]
           rfl
          refine take_ (i := 10) (N := some 43) (v := ?_) (a' := ?_) #[true, true, true, true, true, true, true, true, true, true, true, false, false, false, false, false, false, false, false, false, false] rfl rfl (take_ofW HT_.out HW_.out (by kernel_rfl)) (fun _ _ _ h => h) (Or.inl ⟨by rfl, ?_⟩) hHeld ?_ ?_
          rotate_left
          ·rintro w' ⟨s0, s1, s2, s3, s4, s5, s6, s7, s8, s9, s10, s11, s12, s13⟩
           go_simp
           with_reducible rfl
          rotate_left
          ·simp only [Act.put, List.setIfInBounds_toArray, List.set_cons_zero, List.set_cons_succ, i64_w, i32_w]
           rfl
          refine pure_ (i := 11) (N := some 44) (v := ?_) (a' := ?_) #[true, true, true, true, true, true, true, true, true, true, true, true, false, false, false, false, false, false, false, false, false] rfl rfl (any_of HT_.out (by kernel_rfl)) (fun _ _ _ h => h) (Or.inl ⟨by rfl, ?_⟩) ?_ ?_
          rotate_left
          ·intro w'
           go_simp
           with_reducible rfl
          rotate_left
          ·simp only [Act.put, List.setIfInBounds_toArray, List.set_cons_zero, List.set_cons_succ, i64_w, i32_w]
           rfl
          refine join_ (σ := Nat) 3 #[true, true, true, true, true, true, true, true, true, true, true, true, true, true, true, true, true, true, false, false, false] (fun s_ => [(45, .tuple #[.agg #[.int .i64 t443, .int .i64 t444, .int .i64 t445], .bool t446, .int .i64 t447]), (10, .pointer (some ⟨s_, 0, none⟩)), (32, .tuple #[.agg #[.int .i64 t443, .int .i64 t444, .int .i64 t445], .bool t446, .int .i64 t447]), (46, .agg #[.int .i64 t443, .int .i64 t444, .int .i64 t445]), (47, .bool t446), (48, .int .i64 t447)]) (fun s_ w' => (w'.cell? ⟨gb437, 0, none⟩ = some (.int .i64 a0_0) ∧ w'.cell? ⟨gb437, 1, none⟩ = some (.int .i64 a0_1) ∧ w'.cell? ⟨gb437, 2, none⟩ = some (.int .i64 a0_2) ∧ w'.cell? ⟨gb437, 3, none⟩ = some (.int .i64 a0_3) ∧ w'.cell? ⟨gb437, 4, none⟩ = some (.int .i64 a0_4) ∧ w'.cell? ⟨gb437, 5, none⟩ = some (.int .i64 a0_5) ∧ w'.cell? ⟨gb437, 6, none⟩ = some (.int .i64 a0_6) ∧ w'.cell? ⟨gb437, 7, none⟩ = some (.int .i64 a0_7) ∧ w'.cell? ⟨gb437, 8, none⟩ = some (.int .i64 a0_8) ∧ w'.cell? ⟨gb437, 9, none⟩ = some (.int .i64 a0_9) ∧ w'.cell? ⟨gb438, 0, none⟩ = some (.int .i64 x439000_2) ∧ w'.cell? ⟨gb438, 1, none⟩ = some (.int .i64 x439001_2) ∧ w'.cell? ⟨gb438, 2, none⟩ = some (.int .i64 x439002_2) ∧ w'.cell? (ad442.add (x9_2).toNat) = some (.bool (rdOf false l2 x9_2))) ∧ (w'.heap[gb437]? = some (.cells #[.int .i64 a0_0, .int .i64 a0_1, .int .i64 a0_2, .int .i64 a0_3, .int .i64 a0_4, .int .i64 a0_5, .int .i64 a0_6, .int .i64 a0_7, .int .i64 a0_8, .int .i64 a0_9] 42 (0, 0))) ∧ (w'.heap[gb438]? = some (.cells #[.int .i64 x439000_2, .int .i64 x439001_2, .int .i64 x439002_2] 44 (0, 0))) ∧ (w'.heap[s_]? = some (.cells #[.int .i64 0, .int .i64 0, .int .i64 0] 44 (0, 0))) ∧ (w.heap.size ≤ s_) ∧ (w.heap.size ≤ s_) ∧ (gb437 ≠ s_) ∧ (s_ ≠ gb437) ∧ (gb438 ≠ s_) ∧ (s_ ≠ gb438) ∧ (Below w.heap.size w w')) ?_ ?_
          rotate_left
          ·intro hCont
           refine two_ (i := 12) (j := 17) (Ni := some 45) (Nj := some 10) #[true, true, true, true, true, true, true, true, true, true, true, true, true, false, false, false, false, false, false, false, false] #[true, true, true, true, true, true, true, true, true, true, true, true, false, false, false, false, false, true, false, false, false] rfl rfl rfl rfl (two_of HT_.out (by kernel_rfl)) (by decide) (by decide) (fun K hK => ?_) (fun K hK => ?_)
           ·skip
            refine goes_ Try.func22 (by kernel_rfl) rfl #[.agg #[.int .i64 a0_0, .int .i64 a0_1, .int .i64 a0_2, .int .i64 a0_3, .int .i64 a0_4, .int .i64 a0_5, .int .i64 a0_6, .int .i64 a0_7, .int .i64 a0_8, .int .i64 a0_9], .agg #[.int .i64 x439000_2, .int .i64 x439001_2, .int .i64 x439002_2], .bool (rdOf false l2 x9_2)] (by rfl) rfl rfl (by (try simp only [List.map_toArray, List.map_cons, List.map_nil]); first | done | rfl | (simp only [List.length_drop, List.length_take]; rfl)) ?_
            with_reducible refine (door_Step.calls k2 a0_0 a0_1 a0_2 a0_3 a0_4 a0_5 a0_6 a0_7 a0_8 a0_9 x439000_2 x439001_2 x439002_2 (rdOf false l2 x9_2) t443 t444 t445 t446 t447 _ A20.out).mono ?_
            rintro e w23 ⟨rfl, hb⟩
            refine ⟨_, rfl, ?_⟩
            have n0_ := Aside0.mk (blk_below (g := gb437) (o := .cells #[.int .i64 a0_0, .int .i64 a0_1, .int .i64 a0_2, .int .i64 a0_3, .int .i64 a0_4, .int .i64 a0_5, .int .i64 a0_6, .int .i64 a0_7, .int .i64 a0_8, .int .i64 a0_9] 42 (0, 0)) (by (with_reducible repeat (first | refine blk_drewN ?_ _ | refine blk_drew ?_ | refine blk_alloc ?_ _)); exact BK437.out) hb)
            have n1_ := Aside0.mk (blk_below (g := gb438) (o := .cells #[.int .i64 x439000_2, .int .i64 x439001_2, .int .i64 x439002_2] 44 (0, 0)) (by (with_reducible repeat (first | refine blk_drewN ?_ _ | refine blk_drew ?_ | refine blk_alloc ?_ _)); exact BK438.out) hb)
            have n2_ := Aside0.mk (below_step (by repeat (first | (with_reducible first | exact HB.out | apply below_alloc | apply pw_below_drewN | apply below_drew1 | refine below_set ?_ GE437.out | refine below_set ?_ GE438.out) | exact HB.out)) hb)
            clear BK437
            clear BK438
            clear HB
            have BK437 := n0_
            have BK438 := n1_
            have HB := n2_
            clear n0_ n1_ n2_
            (try clear hb)
            (try clear hb2)
            (try clear hk)
            (try clear hi)
            refine hK.out _ _ ⟨(blk_cell BK437.out 0).trans rfl, (blk_cell BK437.out 1).trans rfl, (blk_cell BK437.out 2).trans rfl, (blk_cell BK437.out 3).trans rfl, (blk_cell BK437.out 4).trans rfl, (blk_cell BK437.out 5).trans rfl, (blk_cell BK437.out 6).trans rfl, (blk_cell BK437.out 7).trans rfl, (blk_cell BK437.out 8).trans rfl, (blk_cell BK437.out 9).trans rfl, (blk_cell BK438.out 0).trans rfl, (blk_cell BK438.out 1).trans rfl, (blk_cell BK438.out 2).trans rfl, ((HB.out.cell (World.block_lt_of_cell? w _ hw442_0)).trans hw442_0)⟩ (fun hHeld => ?_)
            clear hK K
            refine norm_ (a' := ?_) ?_ ?_
            rotate_left
            ·show Act.put _ (some 45) _ = _
             simp only [Act.put, List.setIfInBounds_toArray, List.set_cons_zero, List.set_cons_succ, i64_w, i32_w]
             rfl
            refine pure_ (i := 13) (N := some 32) (v := ?_) (a' := ?_) #[true, true, true, true, true, true, true, true, true, true, true, true, true, true, false, false, false, false, false, false, false] rfl rfl (any_of HT_.out (by kernel_rfl)) (fun _ _ _ h => h) (Or.inl ⟨by rfl, ?_⟩) ?_ ?_
            rotate_left
            ·intro w'
             go_simp
             with_reducible rfl
            rotate_left
            ·simp only [Act.put, List.setIfInBounds_toArray, List.set_cons_zero, List.set_cons_succ, i64_w, i32_w]
             rfl
            refine pure_ (i := 14) (N := some 46) (v := ?_) (a' := ?_) #[true, true, true, true, true, true, true, true, true, true, true, true, true, true, true, false, false, false, false, false, false] rfl rfl (any_of HT_.out (by kernel_rfl)) (fun _ _ _ h => h) (Or.inl ⟨by rfl, ?_⟩) ?_ ?_
            rotate_left
            ·intro w'
             go_simp
             with_reducible rfl
            rotate_left
            ·simp only [Act.put, List.setIfInBounds_toArray, List.set_cons_zero, List.set_cons_succ, i64_w, i32_w]
             rfl
            refine pure_ (i := 15) (N := some 47) (v := ?_) (a' := ?_) #[true, true, true, true, true, true, true, true, true, true, true, true, true, true, true, true, false, false, false, false, false] rfl rfl (any_of HT_.out (by kernel_rfl)) (fun _ _ _ h => h) (Or.inl ⟨by rfl, ?_⟩) ?_ ?_
            rotate_left
            ·intro w'
             go_simp
             with_reducible rfl
            rotate_left
            ·simp only [Act.put, List.setIfInBounds_toArray, List.set_cons_zero, List.set_cons_succ, i64_w, i32_w]
             rfl
            refine pure_ (i := 16) (N := some 48) (v := ?_) (a' := ?_) #[true, true, true, true, true, true, true, true, true, true, true, true, true, true, true, true, true, false, false, false, false] rfl rfl (any_of HT_.out (by kernel_rfl)) (fun _ _ _ h => h) (Or.inl ⟨by rfl, ?_⟩) ?_ ?_
            rotate_left
            ·intro w'
             go_simp
             with_reducible rfl
            rotate_left
            ·simp only [Act.put, List.setIfInBounds_toArray, List.set_cons_zero, List.set_cons_succ, i64_w, i32_w]
             rfl
            refine one_ (i := 17) (N := some 10) #[true, true, true, true, true, true, true, true, true, true, true, true, true, true, true, true, true, true, false, false, false] rfl rfl (one_of HT_.out (by kernel_rfl)) (by decide) (fun K hK => ?_)
            refine box_step ?hg (N := 10) ?hd (cs := #[.int .i64 0, .int .i64 0, .int .i64 0]) (t := 44) ?hr ?_; (case hd => rfl); (case hg => rfl); (case hr => first | (go_simp; done) | (go_simp; rfl))
            intro gb448 hg w24 hbox hb
            have n0_ := Aside0.mk (blk_below (g := gb437) (o := .cells #[.int .i64 a0_0, .int .i64 a0_1, .int .i64 a0_2, .int .i64 a0_3, .int .i64 a0_4, .int .i64 a0_5, .int .i64 a0_6, .int .i64 a0_7, .int .i64 a0_8, .int .i64 a0_9] 42 (0, 0)) (by (with_reducible repeat (first | refine blk_drewN ?_ _ | refine blk_drew ?_ | refine blk_alloc ?_ _)); exact BK437.out) hb)
            have n1_ := Aside0.mk (blk_below (g := gb438) (o := .cells #[.int .i64 x439000_2, .int .i64 x439001_2, .int .i64 x439002_2] 44 (0, 0)) (by (with_reducible repeat (first | refine blk_drewN ?_ _ | refine blk_drew ?_ | refine blk_alloc ?_ _)); exact BK438.out) hb)
            have n2_ := Aside0.mk (below_step (by repeat (first | (with_reducible first | exact HB.out | apply below_alloc | apply pw_below_drewN | apply below_drew1 | refine below_set ?_ GE437.out | refine below_set ?_ GE438.out) | exact HB.out)) hb)
            have n3_ := Aside0.mk (hbox)
            have n4_ := Aside0.mk ((by rw [hg]; exact (below_size (by repeat (first | (with_reducible first | exact HB.out | apply below_alloc | apply pw_below_drewN | apply below_drew1 | refine below_set ?_ GE437.out | refine below_set ?_ GE438.out) | exact HB.out))) : w.heap.size ≤ gb448))
            have n5_ := Aside0.mk ((by rw [hg]; exact (below_size (by repeat (first | (with_reducible first | exact HB.out | apply below_alloc | apply pw_below_drewN | apply below_drew1 | refine below_set ?_ GE437.out | refine below_set ?_ GE438.out) | exact HB.out))) : w.heap.size ≤ gb448))
            have n6_ := Aside0.mk ((by rw [hg]; exact Nat.ne_of_lt (blk_lt (g := gb437) (o := .cells #[.int .i64 a0_0, .int .i64 a0_1, .int .i64 a0_2, .int .i64 a0_3, .int .i64 a0_4, .int .i64 a0_5, .int .i64 a0_6, .int .i64 a0_7, .int .i64 a0_8, .int .i64 a0_9] 42 (0, 0)) (by (with_reducible repeat (first | refine blk_drewN ?_ _ | refine blk_drew ?_ | refine blk_alloc ?_ _)); exact BK437.out)) : gb437 ≠ gb448))
            have n7_ := Aside0.mk ((by rw [hg]; exact Nat.ne_of_gt (blk_lt (g := gb437) (o := .cells #[.int .i64 a0_0, .int .i64 a0_1, .int .i64 a0_2, .int .i64 a0_3, .int .i64 a0_4, .int .i64 a0_5, .int .i64 a0_6, .int .i64 a0_7, .int .i64 a0_8, .int .i64 a0_9] 42 (0, 0)) (by (with_reducible repeat (first | refine blk_drewN ?_ _ | refine blk_drew ?_ | refine blk_alloc ?_ _)); exact BK437.out)) : gb448 ≠ gb437))
            have n8_ := Aside0.mk ((by rw [hg]; exact Nat.ne_of_lt (blk_lt (g := gb438) (o := .cells #[.int .i64 x439000_2, .int .i64 x439001_2, .int .i64 x439002_2] 44 (0, 0)) (by (with_reducible repeat (first | refine blk_drewN ?_ _ | refine blk_drew ?_ | refine blk_alloc ?_ _)); exact BK438.out)) : gb438 ≠ gb448))
            have n9_ := Aside0.mk ((by rw [hg]; exact Nat.ne_of_gt (blk_lt (g := gb438) (o := .cells #[.int .i64 x439000_2, .int .i64 x439001_2, .int .i64 x439002_2] 44 (0, 0)) (by (with_reducible repeat (first | refine blk_drewN ?_ _ | refine blk_drew ?_ | refine blk_alloc ?_ _)); exact BK438.out)) : gb448 ≠ gb438))
            clear BK437
            clear BK438
            clear HB
            have BK437 := n0_
            have BK438 := n1_
            have HB := n2_
            have BK448 := n3_
            have GW448 := n4_
            have GE448 := n5_
            have NB437_448 := n6_
            have NB448_437 := n7_
            have NB438_448 := n8_
            have NB448_438 := n9_
            clear n0_ n1_ n2_ n3_ n4_ n5_ n6_ n7_ n8_ n9_
            clear hb hbox hg
            refine hK.out _ _ ⟨(blk_cell BK437.out 0).trans rfl, (blk_cell BK437.out 1).trans rfl, (blk_cell BK437.out 2).trans rfl, (blk_cell BK437.out 3).trans rfl, (blk_cell BK437.out 4).trans rfl, (blk_cell BK437.out 5).trans rfl, (blk_cell BK437.out 6).trans rfl, (blk_cell BK437.out 7).trans rfl, (blk_cell BK437.out 8).trans rfl, (blk_cell BK437.out 9).trans rfl, (blk_cell BK438.out 0).trans rfl, (blk_cell BK438.out 1).trans rfl, (blk_cell BK438.out 2).trans rfl, ((HB.out.cell (World.block_lt_of_cell? w _ hw442_0)).trans hw442_0)⟩ (fun hHeld => ?_)
            clear hK K
            refine norm_ (a' := ?_) ?_ ?_
            rotate_left
            ·show Act.put _ (some 10) _ = _
             simp only [Act.put, List.setIfInBounds_toArray, List.set_cons_zero, List.set_cons_succ, i64_w, i32_w]
             rfl
            exact norm_ (by simp only [putAll, Act.put, List.setIfInBounds_toArray, List.set_cons_zero, List.set_cons_succ]) (hCont (gb448) _ ⟨hHeld, (by (with_reducible repeat (first | refine blk_drewN ?_ _ | refine blk_drew ?_ | refine blk_alloc ?_ _)); exact BK437.out), (by (with_reducible repeat (first | refine blk_drewN ?_ _ | refine blk_drew ?_ | refine blk_alloc ?_ _)); exact BK438.out), (by (with_reducible repeat (first | refine blk_drewN ?_ _ | refine blk_drew ?_ | refine blk_alloc ?_ _)); exact BK448.out), GW448.out, GE448.out, NB437_448.out, NB448_437.out, NB438_448.out, NB448_438.out, (by repeat (first | (with_reducible first | exact HB.out | apply below_alloc | apply pw_below_drewN | apply below_drew1 | refine below_set ?_ GE437.out | refine below_set ?_ GE438.out | refine below_set ?_ GE448.out) | exact HB.out))⟩)
           ·skip
            refine box_step ?hg (N := 10) ?hd (cs := #[.int .i64 0, .int .i64 0, .int .i64 0]) (t := 44) ?hr ?_; (case hd => rfl); (case hg => rfl); (case hr => first | (go_simp; done) | (go_simp; rfl))
            intro gb448 hg w23 hbox hb
            have n0_ := Aside0.mk (blk_below (g := gb437) (o := .cells #[.int .i64 a0_0, .int .i64 a0_1, .int .i64 a0_2, .int .i64 a0_3, .int .i64 a0_4, .int .i64 a0_5, .int .i64 a0_6, .int .i64 a0_7, .int .i64 a0_8, .int .i64 a0_9] 42 (0, 0)) (by (with_reducible repeat (first | refine blk_drewN ?_ _ | refine blk_drew ?_ | refine blk_alloc ?_ _)); exact BK437.out) hb)
            have n1_ := Aside0.mk (blk_below (g := gb438) (o := .cells #[.int .i64 x439000_2, .int .i64 x439001_2, .int .i64 x439002_2] 44 (0, 0)) (by (with_reducible repeat (first | refine blk_drewN ?_ _ | refine blk_drew ?_ | refine blk_alloc ?_ _)); exact BK438.out) hb)
            have n2_ := Aside0.mk (below_step (by repeat (first | (with_reducible first | exact HB.out | apply below_alloc | apply pw_below_drewN | apply below_drew1 | refine below_set ?_ GE437.out | refine below_set ?_ GE438.out) | exact HB.out)) hb)
            have n3_ := Aside0.mk (hbox)
            have n4_ := Aside0.mk ((by rw [hg]; exact (below_size (by repeat (first | (with_reducible first | exact HB.out | apply below_alloc | apply pw_below_drewN | apply below_drew1 | refine below_set ?_ GE437.out | refine below_set ?_ GE438.out) | exact HB.out))) : w.heap.size ≤ gb448))
            have n5_ := Aside0.mk ((by rw [hg]; exact (below_size (by repeat (first | (with_reducible first | exact HB.out | apply below_alloc | apply pw_below_drewN | apply below_drew1 | refine below_set ?_ GE437.out | refine below_set ?_ GE438.out) | exact HB.out))) : w.heap.size ≤ gb448))
            have n6_ := Aside0.mk ((by rw [hg]; exact Nat.ne_of_lt (blk_lt (g := gb437) (o := .cells #[.int .i64 a0_0, .int .i64 a0_1, .int .i64 a0_2, .int .i64 a0_3, .int .i64 a0_4, .int .i64 a0_5, .int .i64 a0_6, .int .i64 a0_7, .int .i64 a0_8, .int .i64 a0_9] 42 (0, 0)) (by (with_reducible repeat (first | refine blk_drewN ?_ _ | refine blk_drew ?_ | refine blk_alloc ?_ _)); exact BK437.out)) : gb437 ≠ gb448))
            have n7_ := Aside0.mk ((by rw [hg]; exact Nat.ne_of_gt (blk_lt (g := gb437) (o := .cells #[.int .i64 a0_0, .int .i64 a0_1, .int .i64 a0_2, .int .i64 a0_3, .int .i64 a0_4, .int .i64 a0_5, .int .i64 a0_6, .int .i64 a0_7, .int .i64 a0_8, .int .i64 a0_9] 42 (0, 0)) (by (with_reducible repeat (first | refine blk_drewN ?_ _ | refine blk_drew ?_ | refine blk_alloc ?_ _)); exact BK437.out)) : gb448 ≠ gb437))
            have n8_ := Aside0.mk ((by rw [hg]; exact Nat.ne_of_lt (blk_lt (g := gb438) (o := .cells #[.int .i64 x439000_2, .int .i64 x439001_2, .int .i64 x439002_2] 44 (0, 0)) (by (with_reducible repeat (first | refine blk_drewN ?_ _ | refine blk_drew ?_ | refine blk_alloc ?_ _)); exact BK438.out)) : gb438 ≠ gb448))
            have n9_ := Aside0.mk ((by rw [hg]; exact Nat.ne_of_gt (blk_lt (g := gb438) (o := .cells #[.int .i64 x439000_2, .int .i64 x439001_2, .int .i64 x439002_2] 44 (0, 0)) (by (with_reducible repeat (first | refine blk_drewN ?_ _ | refine blk_drew ?_ | refine blk_alloc ?_ _)); exact BK438.out)) : gb448 ≠ gb438))
            clear BK437
            clear BK438
            clear HB
            have BK437 := n0_
            have BK438 := n1_
            have HB := n2_
            have BK448 := n3_
            have GW448 := n4_
            have GE448 := n5_
            have NB437_448 := n6_
            have NB448_437 := n7_
            have NB438_448 := n8_
            have NB448_438 := n9_
            clear n0_ n1_ n2_ n3_ n4_ n5_ n6_ n7_ n8_ n9_
            clear hb hbox hg
            refine hK.out _ _ ⟨(blk_cell BK437.out 0).trans rfl, (blk_cell BK437.out 1).trans rfl, (blk_cell BK437.out 2).trans rfl, (blk_cell BK437.out 3).trans rfl, (blk_cell BK437.out 4).trans rfl, (blk_cell BK437.out 5).trans rfl, (blk_cell BK437.out 6).trans rfl, (blk_cell BK437.out 7).trans rfl, (blk_cell BK437.out 8).trans rfl, (blk_cell BK437.out 9).trans rfl, (blk_cell BK438.out 0).trans rfl, (blk_cell BK438.out 1).trans rfl, (blk_cell BK438.out 2).trans rfl, ((HB.out.cell (World.block_lt_of_cell? w _ hw442_0)).trans hw442_0)⟩ (fun hHeld => ?_)
            clear hK K
            refine norm_ (a' := ?_) ?_ ?_
            rotate_left
            ·show Act.put _ (some 10) _ = _
             simp only [Act.put, List.setIfInBounds_toArray, List.set_cons_zero, List.set_cons_succ, i64_w, i32_w]
             rfl
            refine one_ (i := 12) (N := some 45) #[true, true, true, true, true, true, true, true, true, true, true, true, true, false, false, false, false, true, false, false, false] rfl rfl (one_of HT_.out (by kernel_rfl)) (by decide) (fun K hK => ?_)
            refine goes_ Try.func22 (by kernel_rfl) rfl #[.agg #[.int .i64 a0_0, .int .i64 a0_1, .int .i64 a0_2, .int .i64 a0_3, .int .i64 a0_4, .int .i64 a0_5, .int .i64 a0_6, .int .i64 a0_7, .int .i64 a0_8, .int .i64 a0_9], .agg #[.int .i64 x439000_2, .int .i64 x439001_2, .int .i64 x439002_2], .bool (rdOf false l2 x9_2)] (by rfl) rfl rfl (by (try simp only [List.map_toArray, List.map_cons, List.map_nil]); first | done | rfl | (simp only [List.length_drop, List.length_take]; rfl)) ?_
            with_reducible refine (door_Step.calls k2 a0_0 a0_1 a0_2 a0_3 a0_4 a0_5 a0_6 a0_7 a0_8 a0_9 x439000_2 x439001_2 x439002_2 (rdOf false l2 x9_2) t443 t444 t445 t446 t447 _ A20.out).mono ?_
            rintro e w24 ⟨rfl, hb⟩
            refine ⟨_, rfl, ?_⟩
            have n0_ := Aside0.mk (blk_below (g := gb437) (o := .cells #[.int .i64 a0_0, .int .i64 a0_1, .int .i64 a0_2, .int .i64 a0_3, .int .i64 a0_4, .int .i64 a0_5, .int .i64 a0_6, .int .i64 a0_7, .int .i64 a0_8, .int .i64 a0_9] 42 (0, 0)) (by (with_reducible repeat (first | refine blk_drewN ?_ _ | refine blk_drew ?_ | refine blk_alloc ?_ _)); exact BK437.out) hb)
            have n1_ := Aside0.mk (blk_below (g := gb438) (o := .cells #[.int .i64 x439000_2, .int .i64 x439001_2, .int .i64 x439002_2] 44 (0, 0)) (by (with_reducible repeat (first | refine blk_drewN ?_ _ | refine blk_drew ?_ | refine blk_alloc ?_ _)); exact BK438.out) hb)
            have n2_ := Aside0.mk (blk_below (g := gb448) (o := .cells #[.int .i64 0, .int .i64 0, .int .i64 0] 44 (0, 0)) (by (with_reducible repeat (first | refine blk_drewN ?_ _ | refine blk_drew ?_ | refine blk_alloc ?_ _)); exact BK448.out) hb)
            have n3_ := Aside0.mk (below_step (by repeat (first | (with_reducible first | exact HB.out | apply below_alloc | apply pw_below_drewN | apply below_drew1 | refine below_set ?_ GE437.out | refine below_set ?_ GE438.out | refine below_set ?_ GE448.out) | exact HB.out)) hb)
            clear BK437
            clear BK438
            clear BK448
            clear HB
            have BK437 := n0_
            have BK438 := n1_
            have BK448 := n2_
            have HB := n3_
            clear n0_ n1_ n2_ n3_
            (try clear hb)
            (try clear hb2)
            (try clear hk)
            (try clear hi)
            refine hK.out _ _ ⟨(blk_cell BK437.out 0).trans rfl, (blk_cell BK437.out 1).trans rfl, (blk_cell BK437.out 2).trans rfl, (blk_cell BK437.out 3).trans rfl, (blk_cell BK437.out 4).trans rfl, (blk_cell BK437.out 5).trans rfl, (blk_cell BK437.out 6).trans rfl, (blk_cell BK437.out 7).trans rfl, (blk_cell BK437.out 8).trans rfl, (blk_cell BK437.out 9).trans rfl, (blk_cell BK438.out 0).trans rfl, (blk_cell BK438.out 1).trans rfl, (blk_cell BK438.out 2).trans rfl, ((HB.out.cell (World.block_lt_of_cell? w _ hw442_0)).trans hw442_0)⟩ (fun hHeld => ?_)
            clear hK K
            refine norm_ (a' := ?_) ?_ ?_
            rotate_left
            ·show Act.put _ (some 45) _ = _
             simp only [Act.put, List.setIfInBounds_toArray, List.set_cons_zero, List.set_cons_succ, i64_w, i32_w]
             rfl
            refine pure_ (i := 13) (N := some 32) (v := ?_) (a' := ?_) #[true, true, true, true, true, true, true, true, true, true, true, true, true, true, false, false, false, true, false, false, false] rfl rfl (any_of HT_.out (by kernel_rfl)) (fun _ _ _ h => h) (Or.inl ⟨by rfl, ?_⟩) ?_ ?_
            rotate_left
            ·intro w'
             go_simp
             with_reducible rfl
            rotate_left
            ·simp only [Act.put, List.setIfInBounds_toArray, List.set_cons_zero, List.set_cons_succ, i64_w, i32_w]
             rfl
            refine pure_ (i := 14) (N := some 46) (v := ?_) (a' := ?_) #[true, true, true, true, true, true, true, true, true, true, true, true, true, true, true, false, false, true, false, false, false] rfl rfl (any_of HT_.out (by kernel_rfl)) (fun _ _ _ h => h) (Or.inl ⟨by rfl, ?_⟩) ?_ ?_
            rotate_left
            ·intro w'
             go_simp
             with_reducible rfl
            rotate_left
            ·simp only [Act.put, List.setIfInBounds_toArray, List.set_cons_zero, List.set_cons_succ, i64_w, i32_w]
             rfl
            refine pure_ (i := 15) (N := some 47) (v := ?_) (a' := ?_) #[true, true, true, true, true, true, true, true, true, true, true, true, true, true, true, true, false, true, false, false, false] rfl rfl (any_of HT_.out (by kernel_rfl)) (fun _ _ _ h => h) (Or.inl ⟨by rfl, ?_⟩) ?_ ?_
            rotate_left
            ·intro w'
             go_simp
             with_reducible rfl
            rotate_left
            ·simp only [Act.put, List.setIfInBounds_toArray, List.set_cons_zero, List.set_cons_succ, i64_w, i32_w]
             rfl
            refine pure_ (i := 16) (N := some 48) (v := ?_) (a' := ?_) #[true, true, true, true, true, true, true, true, true, true, true, true, true, true, true, true, true, true, false, false, false] rfl rfl (any_of HT_.out (by kernel_rfl)) (fun _ _ _ h => h) (Or.inl ⟨by rfl, ?_⟩) ?_ ?_
            rotate_left
            ·intro w'
             go_simp
             with_reducible rfl
            rotate_left
            ·simp only [Act.put, List.setIfInBounds_toArray, List.set_cons_zero, List.set_cons_succ, i64_w, i32_w]
             rfl
            exact norm_ (by simp only [putAll, Act.put, List.setIfInBounds_toArray, List.set_cons_zero, List.set_cons_succ]) (hCont (gb448) _ ⟨hHeld, (by (with_reducible repeat (first | refine blk_drewN ?_ _ | refine blk_drew ?_ | refine blk_alloc ?_ _)); exact BK437.out), (by (with_reducible repeat (first | refine blk_drewN ?_ _ | refine blk_drew ?_ | refine blk_alloc ?_ _)); exact BK438.out), (by (with_reducible repeat (first | refine blk_drewN ?_ _ | refine blk_drew ?_ | refine blk_alloc ?_ _)); exact BK448.out), GW448.out, GE448.out, NB437_448.out, NB448_437.out, NB438_448.out, NB448_438.out, (by repeat (first | (with_reducible first | exact HB.out | apply below_alloc | apply pw_below_drewN | apply below_drew1 | refine below_set ?_ GE437.out | refine below_set ?_ GE438.out | refine below_set ?_ GE448.out) | exact HB.out))⟩)
          rintro gb448 w25 ⟨hS_, h0_, h1_, h2_, h3_, h4_, h5_, h6_, h7_, h8_, h9_⟩
          have n0_ : Aside0 (w25.heap[gb437]? = some (.cells #[.int .i64 a0_0, .int .i64 a0_1, .int .i64 a0_2, .int .i64 a0_3, .int .i64 a0_4, .int .i64 a0_5, .int .i64 a0_6, .int .i64 a0_7, .int .i64 a0_8, .int .i64 a0_9] 42 (0, 0))) := ⟨h0_⟩
          have n1_ : Aside0 (w25.heap[gb438]? = some (.cells #[.int .i64 x439000_2, .int .i64 x439001_2, .int .i64 x439002_2] 44 (0, 0))) := ⟨h1_⟩
          have n2_ : Aside0 (w25.heap[gb448]? = some (.cells #[.int .i64 0, .int .i64 0, .int .i64 0] 44 (0, 0))) := ⟨h2_⟩
          have n3_ : Aside0 (w.heap.size ≤ gb448) := ⟨h3_⟩
          have n4_ : Aside0 (w.heap.size ≤ gb448) := ⟨h4_⟩
          have n5_ : Aside0 (gb437 ≠ gb448) := ⟨h5_⟩
          have n6_ : Aside0 (gb448 ≠ gb437) := ⟨h6_⟩
          have n7_ : Aside0 (gb438 ≠ gb448) := ⟨h7_⟩
          have n8_ : Aside0 (gb448 ≠ gb438) := ⟨h8_⟩
          have n9_ : Aside0 (Below w.heap.size w w25) := ⟨h9_⟩
          clear BK437
          clear BK438
          clear HB
          clear h0_ h1_ h2_ h3_ h4_ h5_ h6_ h7_ h8_ h9_
          have BK437 := n0_
          have BK438 := n1_
          have BK448 := n2_
          have GW448 := n3_
          have GE448 := n4_
          have NB437_448 := n5_
          have NB448_437 := n6_
          have NB438_448 := n7_
          have NB448_438 := n8_
          have HB := n9_
          clear n0_ n1_ n2_ n3_ n4_ n5_ n6_ n7_ n8_ n9_
          have hHeld : w25.cell? ⟨gb437, 0, none⟩ = some (.int .i64 a0_0) ∧ w25.cell? ⟨gb437, 1, none⟩ = some (.int .i64 a0_1) ∧ w25.cell? ⟨gb437, 2, none⟩ = some (.int .i64 a0_2) ∧ w25.cell? ⟨gb437, 3, none⟩ = some (.int .i64 a0_3) ∧ w25.cell? ⟨gb437, 4, none⟩ = some (.int .i64 a0_4) ∧ w25.cell? ⟨gb437, 5, none⟩ = some (.int .i64 a0_5) ∧ w25.cell? ⟨gb437, 6, none⟩ = some (.int .i64 a0_6) ∧ w25.cell? ⟨gb437, 7, none⟩ = some (.int .i64 a0_7) ∧ w25.cell? ⟨gb437, 8, none⟩ = some (.int .i64 a0_8) ∧ w25.cell? ⟨gb437, 9, none⟩ = some (.int .i64 a0_9) ∧ w25.cell? ⟨gb438, 0, none⟩ = some (.int .i64 x439000_2) ∧ w25.cell? ⟨gb438, 1, none⟩ = some (.int .i64 x439001_2) ∧ w25.cell? ⟨gb438, 2, none⟩ = some (.int .i64 x439002_2) ∧ w25.cell? (ad442.add (x9_2).toNat) = some (.bool (rdOf false l2 x9_2)) := hS_
          refine norm_ (a' := ?_) ?_ ?_
          rotate_left
          ·simp only [putAll, Act.put, List.setIfInBounds_toArray, List.set_cons_zero, List.set_cons_succ]
           rfl
          refine one_ (i := 18) (N := none) #[true, true, true, true, true, true, true, true, true, true, true, true, true, true, true, true, true, true, true, false, false] rfl rfl (one_of HT_.out (by kernel_rfl)) (by decide) (fun K hK => ?_)
          have hs26 : w25.cell? ⟨gb448, 0, none⟩ = some (.int .i64 0) := (blk_cell BK448.out 0).trans rfl
          have hfs26 := blk_frozen BK448.out 0
          have hns26_0 := NB437_448.out
          have hns26_1 := NB438_448.out
          have hms26_0 := NB448_437.out
          have hms26_1 := NB448_438.out
          have hs27 : w25.cell? ⟨gb448, 1, none⟩ = some (.int .i64 0) := (blk_cell BK448.out 1).trans rfl
          have hfs27 := blk_frozen BK448.out 1
          have hns27_0 := NB437_448.out
          have hns27_1 := NB438_448.out
          have hms27_0 := NB448_437.out
          have hms27_1 := NB448_438.out
          have hs28 : w25.cell? ⟨gb448, 2, none⟩ = some (.int .i64 0) := (blk_cell BK448.out 2).trans rfl
          have hfs28 := blk_frozen BK448.out 2
          have hns28_0 := NB437_448.out
          have hns28_1 := NB438_448.out
          have hms28_0 := NB448_437.out
          have hms28_1 := NB448_438.out
          refine skip_ (w1 := ?_) (by rfl) rfl ?_ ?_
          rotate_left
          ·go_simp
           rfl
          refine hK.out _ _ ⟨((cell_far (p := ⟨gb448, _, none⟩) NB437_448.out _).trans (((cell_far (p := ⟨gb448, _, none⟩) NB437_448.out _).trans (((cell_far (p := ⟨gb448, _, none⟩) NB437_448.out _).trans (hHeld.1)))))), ((cell_far (p := ⟨gb448, _, none⟩) NB437_448.out _).trans (((cell_far (p := ⟨gb448, _, none⟩) NB437_448.out _).trans (((cell_far (p := ⟨gb448, _, none⟩) NB437_448.out _).trans (hHeld.2.1)))))), ((cell_far (p := ⟨gb448, _, none⟩) NB437_448.out _).trans (((cell_far (p := ⟨gb448, _, none⟩) NB437_448.out _).trans (((cell_far (p := ⟨gb448, _, none⟩) NB437_448.out _).trans (hHeld.2.2.1)))))), ((cell_far (p := ⟨gb448, _, none⟩) NB437_448.out _).trans (((cell_far (p := ⟨gb448, _, none⟩) NB437_448.out _).trans (((cell_far (p := ⟨gb448, _, none⟩) NB437_448.out _).trans (hHeld.2.2.2.1)))))), ((cell_far (p := ⟨gb448, _, none⟩) NB437_448.out _).trans (((cell_far (p := ⟨gb448, _, none⟩) NB437_448.out _).trans (((cell_far (p := ⟨gb448, _, none⟩) NB437_448.out _).trans (hHeld.2.2.2.2.1)))))), ((cell_far (p := ⟨gb448, _, none⟩) NB437_448.out _).trans (((cell_far (p := ⟨gb448, _, none⟩) NB437_448.out _).trans (((cell_far (p := ⟨gb448, _, none⟩) NB437_448.out _).trans (hHeld.2.2.2.2.2.1)))))), ((cell_far (p := ⟨gb448, _, none⟩) NB437_448.out _).trans (((cell_far (p := ⟨gb448, _, none⟩) NB437_448.out _).trans (((cell_far (p := ⟨gb448, _, none⟩) NB437_448.out _).trans (hHeld.2.2.2.2.2.2.1)))))), ((cell_far (p := ⟨gb448, _, none⟩) NB437_448.out _).trans (((cell_far (p := ⟨gb448, _, none⟩) NB437_448.out _).trans (((cell_far (p := ⟨gb448, _, none⟩) NB437_448.out _).trans (hHeld.2.2.2.2.2.2.2.1)))))), ((cell_far (p := ⟨gb448, _, none⟩) NB437_448.out _).trans (((cell_far (p := ⟨gb448, _, none⟩) NB437_448.out _).trans (((cell_far (p := ⟨gb448, _, none⟩) NB437_448.out _).trans (hHeld.2.2.2.2.2.2.2.2.1)))))), ((cell_far (p := ⟨gb448, _, none⟩) NB437_448.out _).trans (((cell_far (p := ⟨gb448, _, none⟩) NB437_448.out _).trans (((cell_far (p := ⟨gb448, _, none⟩) NB437_448.out _).trans (hHeld.2.2.2.2.2.2.2.2.2.1)))))), ((cell_far (p := ⟨gb448, _, none⟩) NB438_448.out _).trans (((cell_far (p := ⟨gb448, _, none⟩) NB438_448.out _).trans (((cell_far (p := ⟨gb448, _, none⟩) NB438_448.out _).trans (hHeld.2.2.2.2.2.2.2.2.2.2.1)))))), ((cell_far (p := ⟨gb448, _, none⟩) NB438_448.out _).trans (((cell_far (p := ⟨gb448, _, none⟩) NB438_448.out _).trans (((cell_far (p := ⟨gb448, _, none⟩) NB438_448.out _).trans (hHeld.2.2.2.2.2.2.2.2.2.2.2.1)))))), ((cell_far (p := ⟨gb448, _, none⟩) NB438_448.out _).trans (((cell_far (p := ⟨gb448, _, none⟩) NB438_448.out _).trans (((cell_far (p := ⟨gb448, _, none⟩) NB438_448.out _).trans (hHeld.2.2.2.2.2.2.2.2.2.2.2.2.1)))))), ((cell_far (p := ⟨gb448, _, none⟩) (by first | exact Nat.ne_of_lt (Nat.lt_of_lt_of_le (by have := World.block_lt_of_cell? _ _ hw442_0; first | rwa [add_block] at this | exact this) GW448.out) | (rw [add_block]; exact Nat.ne_of_lt (Nat.lt_of_lt_of_le (by have := World.block_lt_of_cell? _ _ hw442_0; first | rwa [add_block] at this | exact this) GW448.out)) | (show (Addr.add _ _).block ≠ _; rw [add_block]; exact Nat.ne_of_lt (Nat.lt_of_lt_of_le (by have := World.block_lt_of_cell? _ _ hw442_0; first | rwa [add_block] at this | exact this) GW448.out)) | (dsimp only; exact Nat.ne_of_lt (Nat.lt_of_lt_of_le (by have := World.block_lt_of_cell? _ _ hw442_0; first | rwa [add_block] at this | exact this) GW448.out))) _).trans (((cell_far (p := ⟨gb448, _, none⟩) (by first | exact Nat.ne_of_lt (Nat.lt_of_lt_of_le (by have := World.block_lt_of_cell? _ _ hw442_0; first | rwa [add_block] at this | exact this) GW448.out) | (rw [add_block]; exact Nat.ne_of_lt (Nat.lt_of_lt_of_le (by have := World.block_lt_of_cell? _ _ hw442_0; first | rwa [add_block] at this | exact this) GW448.out)) | (show (Addr.add _ _).block ≠ _; rw [add_block]; exact Nat.ne_of_lt (Nat.lt_of_lt_of_le (by have := World.block_lt_of_cell? _ _ hw442_0; first | rwa [add_block] at this | exact this) GW448.out)) | (dsimp only; exact Nat.ne_of_lt (Nat.lt_of_lt_of_le (by have := World.block_lt_of_cell? _ _ hw442_0; first | rwa [add_block] at this | exact this) GW448.out))) _).trans (((cell_far (p := ⟨gb448, _, none⟩) (by first | exact Nat.ne_of_lt (Nat.lt_of_lt_of_le (by have := World.block_lt_of_cell? _ _ hw442_0; first | rwa [add_block] at this | exact this) GW448.out) | (rw [add_block]; exact Nat.ne_of_lt (Nat.lt_of_lt_of_le (by have := World.block_lt_of_cell? _ _ hw442_0; first | rwa [add_block] at this | exact this) GW448.out)) | (show (Addr.add _ _).block ≠ _; rw [add_block]; exact Nat.ne_of_lt (Nat.lt_of_lt_of_le (by have := World.block_lt_of_cell? _ _ hw442_0; first | rwa [add_block] at this | exact this) GW448.out)) | (dsimp only; exact Nat.ne_of_lt (Nat.lt_of_lt_of_le (by have := World.block_lt_of_cell? _ _ hw442_0; first | rwa [add_block] at this | exact this) GW448.out))) _).trans (hHeld.2.2.2.2.2.2.2.2.2.2.2.2.2))))))⟩ (fun hHeld => ?_)
          clear hK K
          refine pure_ (i := 19) (N := some 11) (v := ?_) (a' := ?_) #[true, true, true, true, true, true, true, true, true, true, true, true, true, true, true, true, true, true, true, true, false] rfl rfl (any_of HT_.out (by kernel_rfl)) (fun _ _ _ h => h) (Or.inl ⟨by rfl, ?_⟩) ?_ ?_
          rotate_left
          ·intro w'
           go_simp
           with_reducible rfl
          rotate_left
          ·simp only [Act.put, List.setIfInBounds_toArray, List.set_cons_zero, List.set_cons_succ, i64_w, i32_w]
           rfl
          refine pure_ (i := 20) (N := some 12) (v := ?_) (a' := ?_) #[true, true, true, true, true, true, true, true, true, true, true, true, true, true, true, true, true, true, true, true, true] rfl rfl (any_of HT_.out (by kernel_rfl)) (fun _ _ _ h => h) (Or.inl ⟨by rfl, ?_⟩) ?_ ?_
          rotate_left
          ·intro w'
           go_simp
           with_reducible rfl
          rotate_left
          ·simp only [Act.put, List.setIfInBounds_toArray, List.set_cons_zero, List.set_cons_succ, i64_w, i32_w]
           rfl
          refine done_ (done_of HT_.out (by kernel_rfl)) ?_
          go_upto_region 8 with (fail)
          go_cut [73] (fun v73 wc => ∃ (kq : Nat) (x73_20 : Bool), v73 = .bool x73_20 ∧ Aside0 (newellaw17_DoorEnds.j2 kq l2 t439 x9_2 x73_20 a0_0 a0_1 a0_2 a0_3 a0_4 a0_5 a0_6 a0_7 a0_8 a0_9 t443 t444 t445 = some r) ∧ Aside0 (kq ≤ k2) ∧ Aside0 (wc.heap[gb437]? = some (.cells #[.int .i64 a0_0, .int .i64 a0_1, .int .i64 a0_2, .int .i64 a0_3, .int .i64 a0_4, .int .i64 a0_5, .int .i64 a0_6, .int .i64 a0_7, .int .i64 a0_8, .int .i64 a0_9] 42 (0, 0))) ∧ Aside0 (wc.heap[gb438]? = some (.cells #[.int .i64 x439000_2, .int .i64 x439001_2, .int .i64 x439002_2] 44 (0, 0))) ∧ Aside0 (wc.heap[gb448]? = some (.cells #[.int .i64 t443, .int .i64 t444, .int .i64 t445] 44 (0, 0))) ∧ Aside0 (Below w.heap.size w wc))
          case first =>
           have H := HC21.out
           clear HC21
           by_cases c29 : t447 = 0
           ·rw [if_pos c29] at H
            have c29b0 : (t447 == 0) = true := beq_iff_eq.mpr c29
            have c29b1 : (t447 != 0) = false := bne_eq_false_iff_eq.mpr c29
            clear c29
            (first | rw [c29b0] | (simp only [i64_w, i32_w]; rw [c29b0]) | skip)
            by_cases c30 : t446 = true
            ·subst c30
             have H1 : (if x439000_2 = 2 then (if t443 = 0 then (if x439000_2 = 3 then (newellaw17_DoorEnds.j2 k2 l2 t439 x9_2 false a0_0 a0_1 a0_2 a0_3 a0_4 a0_5 a0_6 a0_7 a0_8 a0_9 t443 t444 t445) else (newellaw17_DoorEnds.j2 k2 l2 t439 x9_2 (x439000_2 != 0) a0_0 a0_1 a0_2 a0_3 a0_4 a0_5 a0_6 a0_7 a0_8 a0_9 t443 t444 t445)) else (newellaw17_DoorEnds.j2 k2 l2 t439 x9_2 false a0_0 a0_1 a0_2 a0_3 a0_4 a0_5 a0_6 a0_7 a0_8 a0_9 t443 t444 t445)) else (none)) = some r := by rw [if_pos rfl] at H; exact H
             clear H
             have H := H1
             clear H1
             by_cases c31 : x439000_2 = 2
             ·rw [if_pos c31] at H
              have c31b0 : (x439000_2 == 2) = true := beq_iff_eq.mpr c31
              have c31b1 : (x439000_2 != 2) = false := bne_eq_false_iff_eq.mpr c31
              clear c31
              by_cases c32 : t443 = 0
              ·rw [if_pos c32] at H
               have c32b0 : (t443 == 0) = true := beq_iff_eq.mpr c32
               have c32b1 : (t443 != 0) = false := bne_eq_false_iff_eq.mpr c32
               clear c32
               by_cases c33 : x439000_2 = 3
               ·rw [if_pos c33] at H
                have c33b0 : (x439000_2 == 3) = true := beq_iff_eq.mpr c33
                have c33b1 : (x439000_2 != 3) = false := bne_eq_false_iff_eq.mpr c33
                clear c33
                have H' := Aside0.mk H
                clear H
                have hnb34 := NB438_437.out
                have hnc34 := NB437_438.out
                have hnb35 := NB438_448.out
                have hnc35 := NB448_438.out
                have hcz36_0 : w25.cell? ⟨gb438, 0, none⟩ = some (.int .i64 x439000_2) := (blk_cell BK438.out 0).trans rfl
                have hcz36_1 : w25.cell? ⟨gb438, 1, none⟩ = some (.int .i64 x439001_2) := (blk_cell BK438.out 1).trans rfl
                have hcz36_2 : w25.cell? ⟨gb438, 2, none⟩ = some (.int .i64 x439002_2) := (blk_cell BK438.out 2).trans rfl
                have hfz36_0 := blk_frozen BK438.out 0
                have hfz36_1 := blk_frozen BK438.out 1
                have hfz36_2 := blk_frozen BK438.out 2
                have hnb37 := NB448_437.out
                have hnc37 := NB437_448.out
                have hcz38_0 : w25.cell? ⟨gb448, 0, none⟩ = some (.int .i64 0) := (blk_cell BK448.out 0).trans rfl
                have hcz38_1 : w25.cell? ⟨gb448, 1, none⟩ = some (.int .i64 0) := (blk_cell BK448.out 1).trans rfl
                have hcz38_2 : w25.cell? ⟨gb448, 2, none⟩ = some (.int .i64 0) := (blk_cell BK448.out 2).trans rfl
                have hfz38_0 := blk_frozen BK448.out 0
                have hfz38_1 := blk_frozen BK448.out 1
                have hfz38_2 := blk_frozen BK448.out 2
                go_wp2
                go_meet
                case rel => exact ⟨_, (false), (by first | rfl | (simp; done) | (simp [*]; done)), H', ⟨by have := HJ4.out; have := HK2.out; first | omega | exact Nat.le_refl _⟩, ⟨by (with_reducible repeat (first | refine blk_drewN ?_ _ | refine blk_drew ?_ | refine blk_alloc ?_ _)); refine blk_far ?_ NB437_448.out _; (with_reducible repeat (first | refine blk_drewN ?_ _ | refine blk_drew ?_ | refine blk_alloc ?_ _)); refine blk_far ?_ NB437_448.out _; (with_reducible repeat (first | refine blk_drewN ?_ _ | refine blk_drew ?_ | refine blk_alloc ?_ _)); refine blk_far ?_ NB437_448.out _; (with_reducible repeat (first | refine blk_drewN ?_ _ | refine blk_drew ?_ | refine blk_alloc ?_ _)); exact BK437.out⟩, ⟨by (with_reducible repeat (first | refine blk_drewN ?_ _ | refine blk_drew ?_ | refine blk_alloc ?_ _)); refine blk_far ?_ NB438_448.out _; (with_reducible repeat (first | refine blk_drewN ?_ _ | refine blk_drew ?_ | refine blk_alloc ?_ _)); refine blk_far ?_ NB438_448.out _; (with_reducible repeat (first | refine blk_drewN ?_ _ | refine blk_drew ?_ | refine blk_alloc ?_ _)); refine blk_far ?_ NB438_448.out _; (with_reducible repeat (first | refine blk_drewN ?_ _ | refine blk_drew ?_ | refine blk_alloc ?_ _)); exact BK438.out⟩, ⟨by (with_reducible repeat (first | refine blk_drewN ?_ _ | refine blk_drew ?_ | refine blk_alloc ?_ _)); refine blk_put (cs := #[.int .i64 t443, .int .i64 t444, .int .i64 0]) ?_ 2 _ rfl; (with_reducible repeat (first | refine blk_drewN ?_ _ | refine blk_drew ?_ | refine blk_alloc ?_ _)); refine blk_put (cs := #[.int .i64 t443, .int .i64 0, .int .i64 0]) ?_ 1 _ rfl; (with_reducible repeat (first | refine blk_drewN ?_ _ | refine blk_drew ?_ | refine blk_alloc ?_ _)); refine blk_put (cs := #[.int .i64 0, .int .i64 0, .int .i64 0]) ?_ 0 _ rfl; (with_reducible repeat (first | refine blk_drewN ?_ _ | refine blk_drew ?_ | refine blk_alloc ?_ _)); exact BK448.out⟩, ⟨by repeat (first | (with_reducible first | exact HB.out | apply below_alloc | apply pw_below_drewN | apply below_drew1 | refine below_set ?_ GE437.out | refine below_set ?_ GE438.out | refine below_set ?_ GE448.out) | exact HB.out)⟩⟩
               ·rw [if_neg c33] at H
                have c33b0 : (x439000_2 == 3) = false := beq_eq_false_iff_ne.mpr c33
                have c33b1 : (x439000_2 != 3) = true := bne_iff_ne.mpr c33
                have H' := Aside0.mk H
                clear H
                have hnb39 := NB438_437.out
                have hnc39 := NB437_438.out
                have hnb40 := NB438_448.out
                have hnc40 := NB448_438.out
                have hcz41_0 : w25.cell? ⟨gb438, 0, none⟩ = some (.int .i64 x439000_2) := (blk_cell BK438.out 0).trans rfl
                have hcz41_1 : w25.cell? ⟨gb438, 1, none⟩ = some (.int .i64 x439001_2) := (blk_cell BK438.out 1).trans rfl
                have hcz41_2 : w25.cell? ⟨gb438, 2, none⟩ = some (.int .i64 x439002_2) := (blk_cell BK438.out 2).trans rfl
                have hfz41_0 := blk_frozen BK438.out 0
                have hfz41_1 := blk_frozen BK438.out 1
                have hfz41_2 := blk_frozen BK438.out 2
                have hnb42 := NB448_437.out
                have hnc42 := NB437_448.out
                have hcz43_0 : w25.cell? ⟨gb448, 0, none⟩ = some (.int .i64 0) := (blk_cell BK448.out 0).trans rfl
                have hcz43_1 : w25.cell? ⟨gb448, 1, none⟩ = some (.int .i64 0) := (blk_cell BK448.out 1).trans rfl
                have hcz43_2 : w25.cell? ⟨gb448, 2, none⟩ = some (.int .i64 0) := (blk_cell BK448.out 2).trans rfl
                have hfz43_0 := blk_frozen BK448.out 0
                have hfz43_1 := blk_frozen BK448.out 1
                have hfz43_2 := blk_frozen BK448.out 2
                go_wp2
                go_meet
                case rel => exact ⟨_, ((x439000_2 != 0)), (by first | rfl | (simp; done) | (simp [*]; done)), H', ⟨by have := HJ4.out; have := HK2.out; first | omega | exact Nat.le_refl _⟩, ⟨by (with_reducible repeat (first | refine blk_drewN ?_ _ | refine blk_drew ?_ | refine blk_alloc ?_ _)); refine blk_far ?_ NB437_448.out _; (with_reducible repeat (first | refine blk_drewN ?_ _ | refine blk_drew ?_ | refine blk_alloc ?_ _)); refine blk_far ?_ NB437_448.out _; (with_reducible repeat (first | refine blk_drewN ?_ _ | refine blk_drew ?_ | refine blk_alloc ?_ _)); refine blk_far ?_ NB437_448.out _; (with_reducible repeat (first | refine blk_drewN ?_ _ | refine blk_drew ?_ | refine blk_alloc ?_ _)); exact BK437.out⟩, ⟨by (with_reducible repeat (first | refine blk_drewN ?_ _ | refine blk_drew ?_ | refine blk_alloc ?_ _)); refine blk_far ?_ NB438_448.out _; (with_reducible repeat (first | refine blk_drewN ?_ _ | refine blk_drew ?_ | refine blk_alloc ?_ _)); refine blk_far ?_ NB438_448.out _; (with_reducible repeat (first | refine blk_drewN ?_ _ | refine blk_drew ?_ | refine blk_alloc ?_ _)); refine blk_far ?_ NB438_448.out _; (with_reducible repeat (first | refine blk_drewN ?_ _ | refine blk_drew ?_ | refine blk_alloc ?_ _)); exact BK438.out⟩, ⟨by (with_reducible repeat (first | refine blk_drewN ?_ _ | refine blk_drew ?_ | refine blk_alloc ?_ _)); refine blk_put (cs := #[.int .i64 t443, .int .i64 t444, .int .i64 0]) ?_ 2 _ rfl; (with_reducible repeat (first | refine blk_drewN ?_ _ | refine blk_drew ?_ | refine blk_alloc ?_ _)); refine blk_put (cs := #[.int .i64 t443, .int .i64 0, .int .i64 0]) ?_ 1 _ rfl; (with_reducible repeat (first | refine blk_drewN ?_ _ | refine blk_drew ?_ | refine blk_alloc ?_ _)); refine blk_put (cs := #[.int .i64 0, .int .i64 0, .int .i64 0]) ?_ 0 _ rfl; (with_reducible repeat (first | refine blk_drewN ?_ _ | refine blk_drew ?_ | refine blk_alloc ?_ _)); exact BK448.out⟩, ⟨by repeat (first | (with_reducible first | exact HB.out | apply below_alloc | apply pw_below_drewN | apply below_drew1 | refine below_set ?_ GE437.out | refine below_set ?_ GE438.out | refine below_set ?_ GE448.out) | exact HB.out)⟩⟩
              ·rw [if_neg c32] at H
               have c32b0 : (t443 == 0) = false := beq_eq_false_iff_ne.mpr c32
               have c32b1 : (t443 != 0) = true := bne_iff_ne.mpr c32
               have H' := Aside0.mk H
               clear H
               have hnb44 := NB438_437.out
               have hnc44 := NB437_438.out
               have hnb45 := NB438_448.out
               have hnc45 := NB448_438.out
               have hcz46_0 : w25.cell? ⟨gb438, 0, none⟩ = some (.int .i64 x439000_2) := (blk_cell BK438.out 0).trans rfl
               have hcz46_1 : w25.cell? ⟨gb438, 1, none⟩ = some (.int .i64 x439001_2) := (blk_cell BK438.out 1).trans rfl
               have hcz46_2 : w25.cell? ⟨gb438, 2, none⟩ = some (.int .i64 x439002_2) := (blk_cell BK438.out 2).trans rfl
               have hfz46_0 := blk_frozen BK438.out 0
               have hfz46_1 := blk_frozen BK438.out 1
               have hfz46_2 := blk_frozen BK438.out 2
               have hnb47 := NB448_437.out
               have hnc47 := NB437_448.out
               have hcz48_0 : w25.cell? ⟨gb448, 0, none⟩ = some (.int .i64 0) := (blk_cell BK448.out 0).trans rfl
               have hcz48_1 : w25.cell? ⟨gb448, 1, none⟩ = some (.int .i64 0) := (blk_cell BK448.out 1).trans rfl
               have hcz48_2 : w25.cell? ⟨gb448, 2, none⟩ = some (.int .i64 0) := (blk_cell BK448.out 2).trans rfl
               have hfz48_0 := blk_frozen BK448.out 0
               have hfz48_1 := blk_frozen BK448.out 1
               have hfz48_2 := blk_frozen BK448.out 2
               go_wp2
               go_meet
               case rel => exact ⟨_, (false), (by first | rfl | (simp; done) | (simp [*]; done)), H', ⟨by have := HJ4.out; have := HK2.out; first | omega | exact Nat.le_refl _⟩, ⟨by (with_reducible repeat (first | refine blk_drewN ?_ _ | refine blk_drew ?_ | refine blk_alloc ?_ _)); refine blk_far ?_ NB437_448.out _; (with_reducible repeat (first | refine blk_drewN ?_ _ | refine blk_drew ?_ | refine blk_alloc ?_ _)); refine blk_far ?_ NB437_448.out _; (with_reducible repeat (first | refine blk_drewN ?_ _ | refine blk_drew ?_ | refine blk_alloc ?_ _)); refine blk_far ?_ NB437_448.out _; (with_reducible repeat (first | refine blk_drewN ?_ _ | refine blk_drew ?_ | refine blk_alloc ?_ _)); exact BK437.out⟩, ⟨by (with_reducible repeat (first | refine blk_drewN ?_ _ | refine blk_drew ?_ | refine blk_alloc ?_ _)); refine blk_far ?_ NB438_448.out _; (with_reducible repeat (first | refine blk_drewN ?_ _ | refine blk_drew ?_ | refine blk_alloc ?_ _)); refine blk_far ?_ NB438_448.out _; (with_reducible repeat (first | refine blk_drewN ?_ _ | refine blk_drew ?_ | refine blk_alloc ?_ _)); refine blk_far ?_ NB438_448.out _; (with_reducible repeat (first | refine blk_drewN ?_ _ | refine blk_drew ?_ | refine blk_alloc ?_ _)); exact BK438.out⟩, ⟨by (with_reducible repeat (first | refine blk_drewN ?_ _ | refine blk_drew ?_ | refine blk_alloc ?_ _)); refine blk_put (cs := #[.int .i64 t443, .int .i64 t444, .int .i64 0]) ?_ 2 _ rfl; (with_reducible repeat (first | refine blk_drewN ?_ _ | refine blk_drew ?_ | refine blk_alloc ?_ _)); refine blk_put (cs := #[.int .i64 t443, .int .i64 0, .int .i64 0]) ?_ 1 _ rfl; (with_reducible repeat (first | refine blk_drewN ?_ _ | refine blk_drew ?_ | refine blk_alloc ?_ _)); refine blk_put (cs := #[.int .i64 0, .int .i64 0, .int .i64 0]) ?_ 0 _ rfl; (with_reducible repeat (first | refine blk_drewN ?_ _ | refine blk_drew ?_ | refine blk_alloc ?_ _)); exact BK448.out⟩, ⟨by repeat (first | (with_reducible first | exact HB.out | apply below_alloc | apply pw_below_drewN | apply below_drew1 | refine below_set ?_ GE437.out | refine below_set ?_ GE438.out | refine below_set ?_ GE448.out) | exact HB.out)⟩⟩
             ·rw [if_neg c31] at H
              exact absurd H (by simp)
            ·replace c30 := Bool.eq_false_iff.mpr c30
             subst c30
             have H1 : (if t443 = 0 then (if x439000_2 = 3 then (newellaw17_DoorEnds.j2 k2 l2 t439 x9_2 false a0_0 a0_1 a0_2 a0_3 a0_4 a0_5 a0_6 a0_7 a0_8 a0_9 t443 t444 t445) else (newellaw17_DoorEnds.j2 k2 l2 t439 x9_2 (x439000_2 != 0) a0_0 a0_1 a0_2 a0_3 a0_4 a0_5 a0_6 a0_7 a0_8 a0_9 t443 t444 t445)) else (newellaw17_DoorEnds.j2 k2 l2 t439 x9_2 false a0_0 a0_1 a0_2 a0_3 a0_4 a0_5 a0_6 a0_7 a0_8 a0_9 t443 t444 t445)) = some r := by rw [if_neg (show ¬ (false = true) by decide)] at H; exact H
             clear H
             have H := H1
             clear H1
             by_cases c49 : t443 = 0
             ·rw [if_pos c49] at H
              have c49b0 : (t443 == 0) = true := beq_iff_eq.mpr c49
              have c49b1 : (t443 != 0) = false := bne_eq_false_iff_eq.mpr c49
              clear c49
              by_cases c50 : x439000_2 = 3
              ·rw [if_pos c50] at H
               have c50b0 : (x439000_2 == 3) = true := beq_iff_eq.mpr c50
               have c50b1 : (x439000_2 != 3) = false := bne_eq_false_iff_eq.mpr c50
               clear c50
               have H' := Aside0.mk H
               clear H
               have hnb51 := NB448_437.out
               have hnc51 := NB437_448.out
               have hnb52 := NB448_438.out
               have hnc52 := NB438_448.out
               have hcz53_0 : w25.cell? ⟨gb448, 0, none⟩ = some (.int .i64 0) := (blk_cell BK448.out 0).trans rfl
               have hcz53_1 : w25.cell? ⟨gb448, 1, none⟩ = some (.int .i64 0) := (blk_cell BK448.out 1).trans rfl
               have hcz53_2 : w25.cell? ⟨gb448, 2, none⟩ = some (.int .i64 0) := (blk_cell BK448.out 2).trans rfl
               have hfz53_0 := blk_frozen BK448.out 0
               have hfz53_1 := blk_frozen BK448.out 1
               have hfz53_2 := blk_frozen BK448.out 2
               have hnb54 := NB438_437.out
               have hnc54 := NB437_438.out
               have hcz55_0 : w25.cell? ⟨gb438, 0, none⟩ = some (.int .i64 x439000_2) := (blk_cell BK438.out 0).trans rfl
               have hcz55_1 : w25.cell? ⟨gb438, 1, none⟩ = some (.int .i64 x439001_2) := (blk_cell BK438.out 1).trans rfl
               have hcz55_2 : w25.cell? ⟨gb438, 2, none⟩ = some (.int .i64 x439002_2) := (blk_cell BK438.out 2).trans rfl
               have hfz55_0 := blk_frozen BK438.out 0
               have hfz55_1 := blk_frozen BK438.out 1
               have hfz55_2 := blk_frozen BK438.out 2
               go_wp2
               go_meet
               case rel => exact ⟨_, (false), (by first | rfl | (simp; done) | (simp [*]; done)), H', ⟨by have := HJ4.out; have := HK2.out; first | omega | exact Nat.le_refl _⟩, ⟨by (with_reducible repeat (first | refine blk_drewN ?_ _ | refine blk_drew ?_ | refine blk_alloc ?_ _)); refine blk_far ?_ NB437_448.out _; (with_reducible repeat (first | refine blk_drewN ?_ _ | refine blk_drew ?_ | refine blk_alloc ?_ _)); refine blk_far ?_ NB437_448.out _; (with_reducible repeat (first | refine blk_drewN ?_ _ | refine blk_drew ?_ | refine blk_alloc ?_ _)); refine blk_far ?_ NB437_448.out _; (with_reducible repeat (first | refine blk_drewN ?_ _ | refine blk_drew ?_ | refine blk_alloc ?_ _)); exact BK437.out⟩, ⟨by (with_reducible repeat (first | refine blk_drewN ?_ _ | refine blk_drew ?_ | refine blk_alloc ?_ _)); refine blk_far ?_ NB438_448.out _; (with_reducible repeat (first | refine blk_drewN ?_ _ | refine blk_drew ?_ | refine blk_alloc ?_ _)); refine blk_far ?_ NB438_448.out _; (with_reducible repeat (first | refine blk_drewN ?_ _ | refine blk_drew ?_ | refine blk_alloc ?_ _)); refine blk_far ?_ NB438_448.out _; (with_reducible repeat (first | refine blk_drewN ?_ _ | refine blk_drew ?_ | refine blk_alloc ?_ _)); exact BK438.out⟩, ⟨by (with_reducible repeat (first | refine blk_drewN ?_ _ | refine blk_drew ?_ | refine blk_alloc ?_ _)); refine blk_put (cs := #[.int .i64 t443, .int .i64 t444, .int .i64 0]) ?_ 2 _ rfl; (with_reducible repeat (first | refine blk_drewN ?_ _ | refine blk_drew ?_ | refine blk_alloc ?_ _)); refine blk_put (cs := #[.int .i64 t443, .int .i64 0, .int .i64 0]) ?_ 1 _ rfl; (with_reducible repeat (first | refine blk_drewN ?_ _ | refine blk_drew ?_ | refine blk_alloc ?_ _)); refine blk_put (cs := #[.int .i64 0, .int .i64 0, .int .i64 0]) ?_ 0 _ rfl; (with_reducible repeat (first | refine blk_drewN ?_ _ | refine blk_drew ?_ | refine blk_alloc ?_ _)); exact BK448.out⟩, ⟨by repeat (first | (with_reducible first | exact HB.out | apply below_alloc | apply pw_below_drewN | apply below_drew1 | refine below_set ?_ GE437.out | refine below_set ?_ GE438.out | refine below_set ?_ GE448.out) | exact HB.out)⟩⟩
              ·rw [if_neg c50] at H
               have c50b0 : (x439000_2 == 3) = false := beq_eq_false_iff_ne.mpr c50
               have c50b1 : (x439000_2 != 3) = true := bne_iff_ne.mpr c50
               have H' := Aside0.mk H
               clear H
               have hnb56 := NB448_437.out
               have hnc56 := NB437_448.out
               have hnb57 := NB448_438.out
               have hnc57 := NB438_448.out
               have hcz58_0 : w25.cell? ⟨gb448, 0, none⟩ = some (.int .i64 0) := (blk_cell BK448.out 0).trans rfl
               have hcz58_1 : w25.cell? ⟨gb448, 1, none⟩ = some (.int .i64 0) := (blk_cell BK448.out 1).trans rfl
               have hcz58_2 : w25.cell? ⟨gb448, 2, none⟩ = some (.int .i64 0) := (blk_cell BK448.out 2).trans rfl
               have hfz58_0 := blk_frozen BK448.out 0
               have hfz58_1 := blk_frozen BK448.out 1
               have hfz58_2 := blk_frozen BK448.out 2
               have hnb59 := NB438_437.out
               have hnc59 := NB437_438.out
               have hcz60_0 : w25.cell? ⟨gb438, 0, none⟩ = some (.int .i64 x439000_2) := (blk_cell BK438.out 0).trans rfl
               have hcz60_1 : w25.cell? ⟨gb438, 1, none⟩ = some (.int .i64 x439001_2) := (blk_cell BK438.out 1).trans rfl
               have hcz60_2 : w25.cell? ⟨gb438, 2, none⟩ = some (.int .i64 x439002_2) := (blk_cell BK438.out 2).trans rfl
               have hfz60_0 := blk_frozen BK438.out 0
               have hfz60_1 := blk_frozen BK438.out 1
               have hfz60_2 := blk_frozen BK438.out 2
               go_wp2
               go_meet
               case rel => exact ⟨_, ((x439000_2 != 0)), (by first | rfl | (simp; done) | (simp [*]; done)), H', ⟨by have := HJ4.out; have := HK2.out; first | omega | exact Nat.le_refl _⟩, ⟨by (with_reducible repeat (first | refine blk_drewN ?_ _ | refine blk_drew ?_ | refine blk_alloc ?_ _)); refine blk_far ?_ NB437_448.out _; (with_reducible repeat (first | refine blk_drewN ?_ _ | refine blk_drew ?_ | refine blk_alloc ?_ _)); refine blk_far ?_ NB437_448.out _; (with_reducible repeat (first | refine blk_drewN ?_ _ | refine blk_drew ?_ | refine blk_alloc ?_ _)); refine blk_far ?_ NB437_448.out _; (with_reducible repeat (first | refine blk_drewN ?_ _ | refine blk_drew ?_ | refine blk_alloc ?_ _)); exact BK437.out⟩, ⟨by (with_reducible repeat (first | refine blk_drewN ?_ _ | refine blk_drew ?_ | refine blk_alloc ?_ _)); refine blk_far ?_ NB438_448.out _; (with_reducible repeat (first | refine blk_drewN ?_ _ | refine blk_drew ?_ | refine blk_alloc ?_ _)); refine blk_far ?_ NB438_448.out _; (with_reducible repeat (first | refine blk_drewN ?_ _ | refine blk_drew ?_ | refine blk_alloc ?_ _)); refine blk_far ?_ NB438_448.out _; (with_reducible repeat (first | refine blk_drewN ?_ _ | refine blk_drew ?_ | refine blk_alloc ?_ _)); exact BK438.out⟩, ⟨by (with_reducible repeat (first | refine blk_drewN ?_ _ | refine blk_drew ?_ | refine blk_alloc ?_ _)); refine blk_put (cs := #[.int .i64 t443, .int .i64 t444, .int .i64 0]) ?_ 2 _ rfl; (with_reducible repeat (first | refine blk_drewN ?_ _ | refine blk_drew ?_ | refine blk_alloc ?_ _)); refine blk_put (cs := #[.int .i64 t443, .int .i64 0, .int .i64 0]) ?_ 1 _ rfl; (with_reducible repeat (first | refine blk_drewN ?_ _ | refine blk_drew ?_ | refine blk_alloc ?_ _)); refine blk_put (cs := #[.int .i64 0, .int .i64 0, .int .i64 0]) ?_ 0 _ rfl; (with_reducible repeat (first | refine blk_drewN ?_ _ | refine blk_drew ?_ | refine blk_alloc ?_ _)); exact BK448.out⟩, ⟨by repeat (first | (with_reducible first | exact HB.out | apply below_alloc | apply pw_below_drewN | apply below_drew1 | refine below_set ?_ GE437.out | refine below_set ?_ GE438.out | refine below_set ?_ GE448.out) | exact HB.out)⟩⟩
             ·rw [if_neg c49] at H
              have c49b0 : (t443 == 0) = false := beq_eq_false_iff_ne.mpr c49
              have c49b1 : (t443 != 0) = true := bne_iff_ne.mpr c49
              have H' := Aside0.mk H
              clear H
              have hnb61 := NB448_437.out
              have hnc61 := NB437_448.out
              have hnb62 := NB448_438.out
              have hnc62 := NB438_448.out
              have hcz63_0 : w25.cell? ⟨gb448, 0, none⟩ = some (.int .i64 0) := (blk_cell BK448.out 0).trans rfl
              have hcz63_1 : w25.cell? ⟨gb448, 1, none⟩ = some (.int .i64 0) := (blk_cell BK448.out 1).trans rfl
              have hcz63_2 : w25.cell? ⟨gb448, 2, none⟩ = some (.int .i64 0) := (blk_cell BK448.out 2).trans rfl
              have hfz63_0 := blk_frozen BK448.out 0
              have hfz63_1 := blk_frozen BK448.out 1
              have hfz63_2 := blk_frozen BK448.out 2
              go_wp2
              go_meet
              case rel => exact ⟨_, (false), (by first | rfl | (simp; done) | (simp [*]; done)), H', ⟨by have := HJ4.out; have := HK2.out; first | omega | exact Nat.le_refl _⟩, ⟨by (with_reducible repeat (first | refine blk_drewN ?_ _ | refine blk_drew ?_ | refine blk_alloc ?_ _)); refine blk_far ?_ NB437_448.out _; (with_reducible repeat (first | refine blk_drewN ?_ _ | refine blk_drew ?_ | refine blk_alloc ?_ _)); refine blk_far ?_ NB437_448.out _; (with_reducible repeat (first | refine blk_drewN ?_ _ | refine blk_drew ?_ | refine blk_alloc ?_ _)); refine blk_far ?_ NB437_448.out _; (with_reducible repeat (first | refine blk_drewN ?_ _ | refine blk_drew ?_ | refine blk_alloc ?_ _)); exact BK437.out⟩, ⟨by (with_reducible repeat (first | refine blk_drewN ?_ _ | refine blk_drew ?_ | refine blk_alloc ?_ _)); refine blk_far ?_ NB438_448.out _; (with_reducible repeat (first | refine blk_drewN ?_ _ | refine blk_drew ?_ | refine blk_alloc ?_ _)); refine blk_far ?_ NB438_448.out _; (with_reducible repeat (first | refine blk_drewN ?_ _ | refine blk_drew ?_ | refine blk_alloc ?_ _)); refine blk_far ?_ NB438_448.out _; (with_reducible repeat (first | refine blk_drewN ?_ _ | refine blk_drew ?_ | refine blk_alloc ?_ _)); exact BK438.out⟩, ⟨by (with_reducible repeat (first | refine blk_drewN ?_ _ | refine blk_drew ?_ | refine blk_alloc ?_ _)); refine blk_put (cs := #[.int .i64 t443, .int .i64 t444, .int .i64 0]) ?_ 2 _ rfl; (with_reducible repeat (first | refine blk_drewN ?_ _ | refine blk_drew ?_ | refine blk_alloc ?_ _)); refine blk_put (cs := #[.int .i64 t443, .int .i64 0, .int .i64 0]) ?_ 1 _ rfl; (with_reducible repeat (first | refine blk_drewN ?_ _ | refine blk_drew ?_ | refine blk_alloc ?_ _)); refine blk_put (cs := #[.int .i64 0, .int .i64 0, .int .i64 0]) ?_ 0 _ rfl; (with_reducible repeat (first | refine blk_drewN ?_ _ | refine blk_drew ?_ | refine blk_alloc ?_ _)); exact BK448.out⟩, ⟨by repeat (first | (with_reducible first | exact HB.out | apply below_alloc | apply pw_below_drewN | apply below_drew1 | refine below_set ?_ GE437.out | refine below_set ?_ GE438.out | refine below_set ?_ GE448.out) | exact HB.out)⟩⟩
           ·rw [if_neg c29] at H
            exact absurd H (by simp)
          case rest =>
           clear HC21
           try clear c1
           try clear c2
           try clear p2
           try clear c3
           try clear c4
           try clear p4
           try clear q4
           try clear hx4
           try clear c5
           try clear c6
           try clear c18
           try clear c18b0
           try clear c19
           try clear c19b0
           try clear c22
           try clear c29
           try clear c29b0
           try clear c29b1
           try clear c30
           try clear c31
           try clear c31b0
           try clear c31b1
           try clear c32
           try clear c32b0
           try clear c32b1
           try clear c33
           try clear c33b0
           try clear c33b1
           try clear c34
           try clear c35
           try clear c37
           try clear c39
           try clear c40
           try clear c42
           try clear c44
           try clear p44
           try clear q44
           try clear hx44
           try clear c45
           try clear c47
           try clear c49
           try clear c49b0
           try clear c49b1
           try clear c50
           try clear c50b0
           try clear c50b1
           try clear c51
           try clear c52
           try clear c54
           try clear c56
           try clear c57
           try clear c59
           try clear c61
           try clear c62
           try clear hcz36_0
           try clear hcz36_1
           try clear hcz36_2
           try clear hcz38_0
           try clear hcz38_1
           try clear hcz38_2
           try clear hcz41_0
           try clear hcz41_1
           try clear hcz41_2
           try clear hcz43_0
           try clear hcz43_1
           try clear hcz43_2
           try clear hcz46_0
           try clear hcz46_1
           try clear hcz46_2
           try clear hcz48_0
           try clear hcz48_1
           try clear hcz48_2
           try clear hcz53_0
           try clear hcz53_1
           try clear hcz53_2
           try clear hcz55_0
           try clear hcz55_1
           try clear hcz55_2
           try clear hcz58_0
           try clear hcz58_1
           try clear hcz58_2
           try clear hcz60_0
           try clear hcz60_1
           try clear hcz60_2
           try clear hcz63_0
           try clear hcz63_1
           try clear hcz63_2
           try clear hfz36_0
           try clear hfz36_1
           try clear hfz36_2
           try clear hfz38_0
           try clear hfz38_1
           try clear hfz38_2
           try clear hfz41_0
           try clear hfz41_1
           try clear hfz41_2
           try clear hfz43_0
           try clear hfz43_1
           try clear hfz43_2
           try clear hfz46_0
           try clear hfz46_1
           try clear hfz46_2
           try clear hfz48_0
           try clear hfz48_1
           try clear hfz48_2
           try clear hfz53_0
           try clear hfz53_1
           try clear hfz53_2
           try clear hfz55_0
           try clear hfz55_1
           try clear hfz55_2
           try clear hfz58_0
           try clear hfz58_1
           try clear hfz58_2
           try clear hfz60_0
           try clear hfz60_1
           try clear hfz60_2
           try clear hfz63_0
           try clear hfz63_1
           try clear hfz63_2
           try clear hx442_0
           try clear p442
           try clear q442
           obtain ⟨kq, x73_20, rfl, HA, HJ20, BK437, BK438, BK448, HB⟩ := hcut
           cases kq with
           | zero => exact absurd HA.out (by simp [newellaw17_DoorEnds.j2])
           | succ kj20 =>
            have H := HA.out
            clear HA
            simp only [newellaw17_DoorEnds.j2] at H
            by_cases c64 : x73_20 = true
            ·subst c64
             have H1 : (none) = some r := by rw [if_pos rfl] at H; exact H
             clear H
             have H := H1
             clear H1
             exact absurd H (by simp)
            ·replace c64 := Bool.eq_false_iff.mpr c64
             subst c64
             have H1 : (newellaw17_DoorEnds.j4 kj20 l2 t439 x9_2 a0_0 a0_1 a0_2 a0_3 a0_4 a0_5 a0_6 a0_7 a0_8 a0_9 t443 t444 t445) = some r := by rw [if_neg (show ¬ (false = true) by decide)] at H; exact H
             clear H
             have H := H1
             clear H1
             have H' := Aside0.mk H
             clear H
             have hnb65 := NB448_437.out
             have hnc65 := NB437_448.out
             have hnb66 := NB448_438.out
             have hnc66 := NB438_448.out
             have hcz67_0 : wc.cell? ⟨gb448, 0, none⟩ = some (.int .i64 t443) := (blk_cell BK448.out 0).trans rfl
             have hcz67_1 : wc.cell? ⟨gb448, 1, none⟩ = some (.int .i64 t444) := (blk_cell BK448.out 1).trans rfl
             have hcz67_2 : wc.cell? ⟨gb448, 2, none⟩ = some (.int .i64 t445) := (blk_cell BK448.out 2).trans rfl
             have hfz67_0 := blk_frozen BK448.out 0
             have hfz67_1 := blk_frozen BK448.out 1
             have hfz67_2 := blk_frozen BK448.out 2
             have hnb68 := NB438_437.out
             have hnc68 := NB437_438.out
             have hcz69_0 : wc.cell? ⟨gb438, 0, none⟩ = some (.int .i64 x439000_2) := (blk_cell BK438.out 0).trans rfl
             have hcz69_1 : wc.cell? ⟨gb438, 1, none⟩ = some (.int .i64 x439001_2) := (blk_cell BK438.out 1).trans rfl
             have hcz69_2 : wc.cell? ⟨gb438, 2, none⟩ = some (.int .i64 x439002_2) := (blk_cell BK438.out 2).trans rfl
             have hfz69_0 := blk_frozen BK438.out 0
             have hfz69_1 := blk_frozen BK438.out 1
             have hfz69_2 := blk_frozen BK438.out 2
             go_wp2
             go_meet
             case rel => exact ⟨_, (t443), (t444), (t445), H', ⟨by have := HJ4.out; have := HK2.out; have := HJ20.out; first | omega | exact Nat.le_refl _⟩, ⟨by (with_reducible repeat (first | refine blk_drewN ?_ _ | refine blk_drew ?_ | refine blk_alloc ?_ _)); refine blk_far ?_ NB437_438.out _; (with_reducible repeat (first | refine blk_drewN ?_ _ | refine blk_drew ?_ | refine blk_alloc ?_ _)); refine blk_far ?_ NB437_438.out _; (with_reducible repeat (first | refine blk_drewN ?_ _ | refine blk_drew ?_ | refine blk_alloc ?_ _)); refine blk_far ?_ NB437_438.out _; (with_reducible repeat (first | refine blk_drewN ?_ _ | refine blk_drew ?_ | refine blk_alloc ?_ _)); exact BK437.out⟩, ⟨by (with_reducible repeat (first | refine blk_drewN ?_ _ | refine blk_drew ?_ | refine blk_alloc ?_ _)); refine blk_put (cs := #[.int .i64 t443, .int .i64 t444, .int .i64 x439002_2]) ?_ 2 _ rfl; (with_reducible repeat (first | refine blk_drewN ?_ _ | refine blk_drew ?_ | refine blk_alloc ?_ _)); refine blk_put (cs := #[.int .i64 t443, .int .i64 x439001_2, .int .i64 x439002_2]) ?_ 1 _ rfl; (with_reducible repeat (first | refine blk_drewN ?_ _ | refine blk_drew ?_ | refine blk_alloc ?_ _)); refine blk_put (cs := #[.int .i64 x439000_2, .int .i64 x439001_2, .int .i64 x439002_2]) ?_ 0 _ rfl; (with_reducible repeat (first | refine blk_drewN ?_ _ | refine blk_drew ?_ | refine blk_alloc ?_ _)); exact BK438.out⟩, ⟨by repeat (first | (with_reducible first | exact HB.out | apply below_alloc | apply pw_below_drewN | apply below_drew1 | refine below_set ?_ GE437.out | refine below_set ?_ GE438.out | refine below_set ?_ GE448.out) | exact HB.out)⟩⟩
         ·rw [if_neg c19] at H
          exact absurd H (by simp)
        ·rw [if_neg c18] at H
         have c18b0 : decide (x9_2 < (l2.length : Int)) = false := decide_eq_false c18
         clear c18
         (first | rw [c18b0] | (simp only [i64_w, i32_w]; rw [c18b0]) | skip)
         replace H := Option.bind_eq_some_iff.mp H
         obtain ⟨⟨t449, t450, t451, t452, t453⟩, A700, H⟩ := H
         replace H : (if t453 = 0 then (if t452 = true then (if x439000_2 = 2 then (if t449 = 0 then (if x439000_2 = 3 then (newellaw17_DoorEnds.j3 k2 l2 t439 x9_2 false a0_0 a0_1 a0_2 a0_3 a0_4 a0_5 a0_6 a0_7 a0_8 a0_9 t449 t450 t451) else (newellaw17_DoorEnds.j3 k2 l2 t439 x9_2 (x439000_2 != 0) a0_0 a0_1 a0_2 a0_3 a0_4 a0_5 a0_6 a0_7 a0_8 a0_9 t449 t450 t451)) else (newellaw17_DoorEnds.j3 k2 l2 t439 x9_2 false a0_0 a0_1 a0_2 a0_3 a0_4 a0_5 a0_6 a0_7 a0_8 a0_9 t449 t450 t451)) else (none)) else (if t449 = 0 then (if x439000_2 = 3 then (newellaw17_DoorEnds.j3 k2 l2 t439 x9_2 false a0_0 a0_1 a0_2 a0_3 a0_4 a0_5 a0_6 a0_7 a0_8 a0_9 t449 t450 t451) else (newellaw17_DoorEnds.j3 k2 l2 t439 x9_2 (x439000_2 != 0) a0_0 a0_1 a0_2 a0_3 a0_4 a0_5 a0_6 a0_7 a0_8 a0_9 t449 t450 t451)) else (newellaw17_DoorEnds.j3 k2 l2 t439 x9_2 false a0_0 a0_1 a0_2 a0_3 a0_4 a0_5 a0_6 a0_7 a0_8 a0_9 t449 t450 t451))) else (none)) = some r := H
         have A70 := Aside0.mk A700
         clear A700
         have HC71 := Aside0.mk H
         clear H
         try go_wp2
         have n0_ := Aside0.mk (blk_drew BK437.out)
         have n1_ := Aside0.mk (blk_drew BK438.out)
         have n2_ := Aside0.mk (below_drew1 HB.out)
         clear BK437
         clear BK438
         clear HB
         have BK437 := n0_
         have BK438 := n1_
         have HB := n2_
         clear n0_ n1_ n2_
         refine start_ (n := 21) (S := fun w' => w'.cell? ⟨gb437, 0, none⟩ = some (.int .i64 a0_0) ∧ w'.cell? ⟨gb437, 1, none⟩ = some (.int .i64 a0_1) ∧ w'.cell? ⟨gb437, 2, none⟩ = some (.int .i64 a0_2) ∧ w'.cell? ⟨gb437, 3, none⟩ = some (.int .i64 a0_3) ∧ w'.cell? ⟨gb437, 4, none⟩ = some (.int .i64 a0_4) ∧ w'.cell? ⟨gb437, 5, none⟩ = some (.int .i64 a0_5) ∧ w'.cell? ⟨gb437, 6, none⟩ = some (.int .i64 a0_6) ∧ w'.cell? ⟨gb437, 7, none⟩ = some (.int .i64 a0_7) ∧ w'.cell? ⟨gb437, 8, none⟩ = some (.int .i64 a0_8) ∧ w'.cell? ⟨gb437, 9, none⟩ = some (.int .i64 a0_9) ∧ w'.cell? ⟨gb438, 0, none⟩ = some (.int .i64 x439000_2) ∧ w'.cell? ⟨gb438, 1, none⟩ = some (.int .i64 x439001_2) ∧ w'.cell? ⟨gb438, 2, none⟩ = some (.int .i64 x439002_2)) (ds := []) #[false, false, false, false, false, false, false, false, false, false, false, false, false, false, false, false, false, false, false, false, false] (by kernel_rfl) rfl rfl ⟨(blk_cell BK437.out 0).trans rfl, (blk_cell BK437.out 1).trans rfl, (blk_cell BK437.out 2).trans rfl, (blk_cell BK437.out 3).trans rfl, (blk_cell BK437.out 4).trans rfl, (blk_cell BK437.out 5).trans rfl, (blk_cell BK437.out 6).trans rfl, (blk_cell BK437.out 7).trans rfl, (blk_cell BK437.out 8).trans rfl, (blk_cell BK437.out 9).trans rfl, (blk_cell BK438.out 0).trans rfl, (blk_cell BK438.out 1).trans rfl, (blk_cell BK438.out 2).trans rfl⟩ (fun hHeld => ?_); refine with_tabW newellaw17_DoorEnds.tab7 newellaw17_DoorEnds.bits7 (fun HT_ HW_ => ?_)
         generalize wr.drew = w72 at BK437 BK438 HB hHeld ⊢
         refine pure_ (i := 2) (N := some 35) (v := ?_) (a' := ?_) #[false, false, true, false, false, false, false, false, false, false, false, false, false, false, false, false, false, false, false, false, false] rfl rfl (any_of HT_.out (by kernel_rfl)) (fun _ _ _ h => h) (Or.inl ⟨by rfl, ?_⟩) ?_ ?_
         rotate_left
         ·intro w'
          go_simp
          with_reducible rfl
         rotate_left
         ·simp only [Act.put, List.setIfInBounds_toArray, List.set_cons_zero, List.set_cons_succ, i64_w, i32_w]
          rfl
         refine pure_ (i := 3) (N := some 36) (v := ?_) (a' := ?_) #[false, false, true, true, false, false, false, false, false, false, false, false, false, false, false, false, false, false, false, false, false] rfl rfl (any_of HT_.out (by kernel_rfl)) (fun _ _ _ h => h) (Or.inl ⟨by rfl, ?_⟩) ?_ ?_
         rotate_left
         ·intro w'
          go_simp
          with_reducible rfl
         rotate_left
         ·simp only [Act.put, List.setIfInBounds_toArray, List.set_cons_zero, List.set_cons_succ, i64_w, i32_w]
          rfl
         refine pure_ (i := 4) (N := some 37) (v := ?_) (a' := ?_) #[false, false, true, true, true, false, false, false, false, false, false, false, false, false, false, false, false, false, false, false, false] rfl rfl (any_of HT_.out (by kernel_rfl)) (fun _ _ _ h => h) (Or.inl ⟨by rfl, ?_⟩) ?_ ?_
         rotate_left
         ·intro w'
          go_simp
          with_reducible rfl
         rotate_left
         ·simp only [Act.put, List.setIfInBounds_toArray, List.set_cons_zero, List.set_cons_succ, i64_w, i32_w]
          rfl
         refine pure_ (i := 5) (N := some 38) (v := ?_) (a' := ?_) #[false, false, true, true, true, true, false, false, false, false, false, false, false, false, false, false, false, false, false, false, false] rfl rfl (any_of HT_.out (by kernel_rfl)) (fun _ _ _ h => h) (Or.inl ⟨by rfl, ?_⟩) ?_ ?_
         rotate_left
         ·intro w'
          go_simp
          with_reducible rfl
         rotate_left
         ·simp only [Act.put, List.setIfInBounds_toArray, List.set_cons_zero, List.set_cons_succ, i64_w, i32_w]
          rfl
         refine pure_ (i := 6) (N := some 39) (v := ?_) (a' := ?_) #[false, false, true, true, true, true, true, false, false, false, false, false, false, false, false, false, false, false, false, false, false] rfl rfl (any_of HT_.out (by kernel_rfl)) (fun _ _ _ h => h) (Or.inl ⟨by rfl, ?_⟩) ?_ ?_
         rotate_left
         ·intro w'
          go_simp
          with_reducible rfl
         rotate_left
         ·simp only [Act.put, List.setIfInBounds_toArray, List.set_cons_zero, List.set_cons_succ, i64_w, i32_w]
          rfl
         refine pure_ (i := 7) (N := some 40) (v := undef) (a' := ?_) #[false, false, true, true, true, true, true, true, false, false, false, false, false, false, false, false, false, false, false, false, false] rfl rfl (any_of HT_.out (by kernel_rfl)) (fun _ _ _ h => h) (Or.inr ⟨by rfl, rfl⟩) ?_ ?_
         rotate_left
         ·simp only [Act.put, List.setIfInBounds_toArray, List.set_cons_zero, List.set_cons_succ, i64_w, i32_w]
          rfl
         refine pure_ (i := 8) (N := some 41) (v := undef) (a' := ?_) #[false, false, true, true, true, true, true, true, true, false, false, false, false, false, false, false, false, false, false, false, false] rfl rfl (any_of HT_.out (by kernel_rfl)) (fun _ _ _ h => h) (Or.inr ⟨by rfl, rfl⟩) ?_ ?_
         rotate_left
         ·simp only [Act.put, List.setIfInBounds_toArray, List.set_cons_zero, List.set_cons_succ, i64_w, i32_w]
          rfl
         refine pure_ (i := 9) (N := some 42) (v := undef) (a' := ?_) #[false, false, true, true, true, true, true, true, true, true, false, false, false, false, false, false, false, false, false, false, false] rfl rfl (any_of HT_.out (by kernel_rfl)) (fun _ _ _ h => h) (Or.inr ⟨by rfl, rfl⟩) ?_ ?_
         rotate_left
         ·simp only [Act.put, List.setIfInBounds_toArray, List.set_cons_zero, List.set_cons_succ, i64_w, i32_w]
          rfl
         refine pure_ (i := 10) (N := some 43) (v := undef) (a' := ?_) #[false, false, true, true, true, true, true, true, true, true, true, false, false, false, false, false, false, false, false, false, false] rfl rfl (any_of HT_.out (by kernel_rfl)) (fun _ _ _ h => h) (Or.inr ⟨by rfl, rfl⟩) ?_ ?_
         rotate_left
         ·simp only [Act.put, List.setIfInBounds_toArray, List.set_cons_zero, List.set_cons_succ, i64_w, i32_w]
          rfl
         refine pure_ (i := 11) (N := some 44) (v := ?_) (a' := ?_) #[false, false, true, true, true, true, true, true, true, true, true, true, false, false, false, false, false, false, false, false, false] rfl rfl (any_of HT_.out (by kernel_rfl)) (fun _ _ _ h => h) (Or.inl ⟨by rfl, ?_⟩) ?_ ?_
         rotate_left
         ·intro w'
          go_simp
          with_reducible rfl
         rotate_left
         ·simp only [Act.put, List.setIfInBounds_toArray, List.set_cons_zero, List.set_cons_succ, i64_w, i32_w]
          rfl
         refine take_ (i := 0) (N := some 33) (v := ?_) (a' := ?_) #[true, false, true, true, true, true, true, true, true, true, true, true, false, false, false, false, false, false, false, false, false] rfl rfl (take_ofW HT_.out HW_.out (by kernel_rfl)) (fun _ _ _ h => h) (Or.inl ⟨by rfl, ?_⟩) hHeld ?_ ?_
         rotate_left
         ·rintro w' ⟨s0, s1, s2, s3, s4, s5, s6, s7, s8, s9, s10, s11, s12⟩
          go_simp
          with_reducible rfl
         rotate_left
         ·simp only [Act.put, List.setIfInBounds_toArray, List.set_cons_zero, List.set_cons_succ, i64_w, i32_w]
          rfl
         refine take_ (i := 1) (N := some 34) (v := ?_) (a' := ?_) #[true, true, true, true, true, true, true, true, true, true, true, true, false, false, false, false, false, false, false, false, false] rfl rfl (take_ofW HT_.out HW_.out (by kernel_rfl)) (fun _ _ _ h => h) (Or.inl ⟨by rfl, ?_⟩) hHeld ?_ ?_
         rotate_left
         ·rintro w' ⟨s0, s1, s2, s3, s4, s5, s6, s7, s8, s9, s10, s11, s12⟩
          go_simp
          with_reducible rfl
         rotate_left
         ·simp only [Act.put, List.setIfInBounds_toArray, List.set_cons_zero, List.set_cons_succ, i64_w, i32_w]
          rfl
         refine join_ (σ := Nat) 3 #[true, true, true, true, true, true, true, true, true, true, true, true, true, true, true, true, true, true, false, false, false] (fun s_ => [(45, .tuple #[.agg #[.int .i64 t449, .int .i64 t450, .int .i64 t451], .bool t452, .int .i64 t453]), (10, .pointer (some ⟨s_, 0, none⟩)), (32, .tuple #[.agg #[.int .i64 t449, .int .i64 t450, .int .i64 t451], .bool t452, .int .i64 t453]), (46, .agg #[.int .i64 t449, .int .i64 t450, .int .i64 t451]), (47, .bool t452), (48, .int .i64 t453)]) (fun s_ w' => (w'.cell? ⟨gb437, 0, none⟩ = some (.int .i64 a0_0) ∧ w'.cell? ⟨gb437, 1, none⟩ = some (.int .i64 a0_1) ∧ w'.cell? ⟨gb437, 2, none⟩ = some (.int .i64 a0_2) ∧ w'.cell? ⟨gb437, 3, none⟩ = some (.int .i64 a0_3) ∧ w'.cell? ⟨gb437, 4, none⟩ = some (.int .i64 a0_4) ∧ w'.cell? ⟨gb437, 5, none⟩ = some (.int .i64 a0_5) ∧ w'.cell? ⟨gb437, 6, none⟩ = some (.int .i64 a0_6) ∧ w'.cell? ⟨gb437, 7, none⟩ = some (.int .i64 a0_7) ∧ w'.cell? ⟨gb437, 8, none⟩ = some (.int .i64 a0_8) ∧ w'.cell? ⟨gb437, 9, none⟩ = some (.int .i64 a0_9) ∧ w'.cell? ⟨gb438, 0, none⟩ = some (.int .i64 x439000_2) ∧ w'.cell? ⟨gb438, 1, none⟩ = some (.int .i64 x439001_2) ∧ w'.cell? ⟨gb438, 2, none⟩ = some (.int .i64 x439002_2)) ∧ (w'.heap[gb437]? = some (.cells #[.int .i64 a0_0, .int .i64 a0_1, .int .i64 a0_2, .int .i64 a0_3, .int .i64 a0_4, .int .i64 a0_5, .int .i64 a0_6, .int .i64 a0_7, .int .i64 a0_8, .int .i64 a0_9] 42 (0, 0))) ∧ (w'.heap[gb438]? = some (.cells #[.int .i64 x439000_2, .int .i64 x439001_2, .int .i64 x439002_2] 44 (0, 0))) ∧ (w'.heap[s_]? = some (.cells #[.int .i64 0, .int .i64 0, .int .i64 0] 44 (0, 0))) ∧ (w.heap.size ≤ s_) ∧ (w.heap.size ≤ s_) ∧ (gb437 ≠ s_) ∧ (s_ ≠ gb437) ∧ (gb438 ≠ s_) ∧ (s_ ≠ gb438) ∧ (Below w.heap.size w w')) ?_ ?_
         rotate_left
         ·intro hCont
          refine two_ (i := 12) (j := 17) (Ni := some 45) (Nj := some 10) #[true, true, true, true, true, true, true, true, true, true, true, true, true, false, false, false, false, false, false, false, false] #[true, true, true, true, true, true, true, true, true, true, true, true, false, false, false, false, false, true, false, false, false] rfl rfl rfl rfl (two_of HT_.out (by kernel_rfl)) (by decide) (by decide) (fun K hK => ?_) (fun K hK => ?_)
          ·skip
           refine goes_ Try.func22 (by kernel_rfl) rfl #[.agg #[.int .i64 a0_0, .int .i64 a0_1, .int .i64 a0_2, .int .i64 a0_3, .int .i64 a0_4, .int .i64 a0_5, .int .i64 a0_6, .int .i64 a0_7, .int .i64 a0_8, .int .i64 a0_9], .agg #[.int .i64 x439000_2, .int .i64 x439001_2, .int .i64 x439002_2], .bool false] (by rfl) rfl rfl (by (try simp only [List.map_toArray, List.map_cons, List.map_nil]); first | done | rfl | (simp only [List.length_drop, List.length_take]; rfl)) ?_
           with_reducible refine (door_Step.calls k2 a0_0 a0_1 a0_2 a0_3 a0_4 a0_5 a0_6 a0_7 a0_8 a0_9 x439000_2 x439001_2 x439002_2 false t449 t450 t451 t452 t453 _ A70.out).mono ?_
           rintro e w73 ⟨rfl, hb⟩
           refine ⟨_, rfl, ?_⟩
           have n0_ := Aside0.mk (blk_below (g := gb437) (o := .cells #[.int .i64 a0_0, .int .i64 a0_1, .int .i64 a0_2, .int .i64 a0_3, .int .i64 a0_4, .int .i64 a0_5, .int .i64 a0_6, .int .i64 a0_7, .int .i64 a0_8, .int .i64 a0_9] 42 (0, 0)) (by (with_reducible repeat (first | refine blk_drewN ?_ _ | refine blk_drew ?_ | refine blk_alloc ?_ _)); exact BK437.out) hb)
           have n1_ := Aside0.mk (blk_below (g := gb438) (o := .cells #[.int .i64 x439000_2, .int .i64 x439001_2, .int .i64 x439002_2] 44 (0, 0)) (by (with_reducible repeat (first | refine blk_drewN ?_ _ | refine blk_drew ?_ | refine blk_alloc ?_ _)); exact BK438.out) hb)
           have n2_ := Aside0.mk (below_step (by repeat (first | (with_reducible first | exact HB.out | apply below_alloc | apply pw_below_drewN | apply below_drew1 | refine below_set ?_ GE437.out | refine below_set ?_ GE438.out) | exact HB.out)) hb)
           clear BK437
           clear BK438
           clear HB
           have BK437 := n0_
           have BK438 := n1_
           have HB := n2_
           clear n0_ n1_ n2_
           (try clear hb)
           (try clear hb2)
           (try clear hk)
           (try clear hi)
           refine hK.out _ _ ⟨(blk_cell BK437.out 0).trans rfl, (blk_cell BK437.out 1).trans rfl, (blk_cell BK437.out 2).trans rfl, (blk_cell BK437.out 3).trans rfl, (blk_cell BK437.out 4).trans rfl, (blk_cell BK437.out 5).trans rfl, (blk_cell BK437.out 6).trans rfl, (blk_cell BK437.out 7).trans rfl, (blk_cell BK437.out 8).trans rfl, (blk_cell BK437.out 9).trans rfl, (blk_cell BK438.out 0).trans rfl, (blk_cell BK438.out 1).trans rfl, (blk_cell BK438.out 2).trans rfl⟩ (fun hHeld => ?_)
           clear hK K
           refine norm_ (a' := ?_) ?_ ?_
           rotate_left
           ·show Act.put _ (some 45) _ = _
            simp only [Act.put, List.setIfInBounds_toArray, List.set_cons_zero, List.set_cons_succ, i64_w, i32_w]
            rfl
           refine pure_ (i := 13) (N := some 32) (v := ?_) (a' := ?_) #[true, true, true, true, true, true, true, true, true, true, true, true, true, true, false, false, false, false, false, false, false] rfl rfl (any_of HT_.out (by kernel_rfl)) (fun _ _ _ h => h) (Or.inl ⟨by rfl, ?_⟩) ?_ ?_
           rotate_left
           ·intro w'
            go_simp
            with_reducible rfl
           rotate_left
           ·simp only [Act.put, List.setIfInBounds_toArray, List.set_cons_zero, List.set_cons_succ, i64_w, i32_w]
            rfl
           refine pure_ (i := 14) (N := some 46) (v := ?_) (a' := ?_) #[true, true, true, true, true, true, true, true, true, true, true, true, true, true, true, false, false, false, false, false, false] rfl rfl (any_of HT_.out (by kernel_rfl)) (fun _ _ _ h => h) (Or.inl ⟨by rfl, ?_⟩) ?_ ?_
           rotate_left
           ·intro w'
            go_simp
            with_reducible rfl
           rotate_left
           ·simp only [Act.put, List.setIfInBounds_toArray, List.set_cons_zero, List.set_cons_succ, i64_w, i32_w]
            rfl
           refine pure_ (i := 15) (N := some 47) (v := ?_) (a' := ?_) #[true, true, true, true, true, true, true, true, true, true, true, true, true, true, true, true, false, false, false, false, false] rfl rfl (any_of HT_.out (by kernel_rfl)) (fun _ _ _ h => h) (Or.inl ⟨by rfl, ?_⟩) ?_ ?_
           rotate_left
           ·intro w'
            go_simp
            with_reducible rfl
           rotate_left
           ·simp only [Act.put, List.setIfInBounds_toArray, List.set_cons_zero, List.set_cons_succ, i64_w, i32_w]
            rfl
           refine pure_ (i := 16) (N := some 48) (v := ?_) (a' := ?_) #[true, true, true, true, true, true, true, true, true, true, true, true, true, true, true, true, true, false, false, false, false] rfl rfl (any_of HT_.out (by kernel_rfl)) (fun _ _ _ h => h) (Or.inl ⟨by rfl, ?_⟩) ?_ ?_
           rotate_left
           ·intro w'
            go_simp
            with_reducible rfl
           rotate_left
           ·simp only [Act.put, List.setIfInBounds_toArray, List.set_cons_zero, List.set_cons_succ, i64_w, i32_w]
            rfl
           refine one_ (i := 17) (N := some 10) #[true, true, true, true, true, true, true, true, true, true, true, true, true, true, true, true, true, true, false, false, false] rfl rfl (one_of HT_.out (by kernel_rfl)) (by decide) (fun K hK => ?_)
           refine box_step ?hg (N := 10) ?hd (cs := #[.int .i64 0, .int .i64 0, .int .i64 0]) (t := 44) ?hr ?_; (case hd => rfl); (case hg => rfl); (case hr => first | (go_simp; done) | (go_simp; rfl))
           intro gb454 hg w74 hbox hb
           have n0_ := Aside0.mk (blk_below (g := gb437) (o := .cells #[.int .i64 a0_0, .int .i64 a0_1, .int .i64 a0_2, .int .i64 a0_3, .int .i64 a0_4, .int .i64 a0_5, .int .i64 a0_6, .int .i64 a0_7, .int .i64 a0_8, .int .i64 a0_9] 42 (0, 0)) (by (with_reducible repeat (first | refine blk_drewN ?_ _ | refine blk_drew ?_ | refine blk_alloc ?_ _)); exact BK437.out) hb)
           have n1_ := Aside0.mk (blk_below (g := gb438) (o := .cells #[.int .i64 x439000_2, .int .i64 x439001_2, .int .i64 x439002_2] 44 (0, 0)) (by (with_reducible repeat (first | refine blk_drewN ?_ _ | refine blk_drew ?_ | refine blk_alloc ?_ _)); exact BK438.out) hb)
           have n2_ := Aside0.mk (below_step (by repeat (first | (with_reducible first | exact HB.out | apply below_alloc | apply pw_below_drewN | apply below_drew1 | refine below_set ?_ GE437.out | refine below_set ?_ GE438.out) | exact HB.out)) hb)
           have n3_ := Aside0.mk (hbox)
           have n4_ := Aside0.mk ((by rw [hg]; exact (below_size (by repeat (first | (with_reducible first | exact HB.out | apply below_alloc | apply pw_below_drewN | apply below_drew1 | refine below_set ?_ GE437.out | refine below_set ?_ GE438.out) | exact HB.out))) : w.heap.size ≤ gb454))
           have n5_ := Aside0.mk ((by rw [hg]; exact (below_size (by repeat (first | (with_reducible first | exact HB.out | apply below_alloc | apply pw_below_drewN | apply below_drew1 | refine below_set ?_ GE437.out | refine below_set ?_ GE438.out) | exact HB.out))) : w.heap.size ≤ gb454))
           have n6_ := Aside0.mk ((by rw [hg]; exact Nat.ne_of_lt (blk_lt (g := gb437) (o := .cells #[.int .i64 a0_0, .int .i64 a0_1, .int .i64 a0_2, .int .i64 a0_3, .int .i64 a0_4, .int .i64 a0_5, .int .i64 a0_6, .int .i64 a0_7, .int .i64 a0_8, .int .i64 a0_9] 42 (0, 0)) (by (with_reducible repeat (first | refine blk_drewN ?_ _ | refine blk_drew ?_ | refine blk_alloc ?_ _)); exact BK437.out)) : gb437 ≠ gb454))
           have n7_ := Aside0.mk ((by rw [hg]; exact Nat.ne_of_gt (blk_lt (g := gb437) (o := .cells #[.int .i64 a0_0, .int .i64 a0_1, .int .i64 a0_2, .int .i64 a0_3, .int .i64 a0_4, .int .i64 a0_5, .int .i64 a0_6, .int .i64 a0_7, .int .i64 a0_8, .int .i64 a0_9] 42 (0, 0)) (by (with_reducible repeat (first | refine blk_drewN ?_ _ | refine blk_drew ?_ | refine blk_alloc ?_ _)); exact BK437.out)) : gb454 ≠ gb437))
           have n8_ := Aside0.mk ((by rw [hg]; exact Nat.ne_of_lt (blk_lt (g := gb438) (o := .cells #[.int .i64 x439000_2, .int .i64 x439001_2, .int .i64 x439002_2] 44 (0, 0)) (by (with_reducible repeat (first | refine blk_drewN ?_ _ | refine blk_drew ?_ | refine blk_alloc ?_ _)); exact BK438.out)) : gb438 ≠ gb454))
           have n9_ := Aside0.mk ((by rw [hg]; exact Nat.ne_of_gt (blk_lt (g := gb438) (o := .cells #[.int .i64 x439000_2, .int .i64 x439001_2, .int .i64 x439002_2] 44 (0, 0)) (by (with_reducible repeat (first | refine blk_drewN ?_ _ | refine blk_drew ?_ | refine blk_alloc ?_ _)); exact BK438.out)) : gb454 ≠ gb438))
           clear BK437
           clear BK438
           clear HB
           have BK437 := n0_
           have BK438 := n1_
           have HB := n2_
           have BK454 := n3_
           have GW454 := n4_
           have GE454 := n5_
           have NB437_454 := n6_
           have NB454_437 := n7_
           have NB438_454 := n8_
           have NB454_438 := n9_
           clear n0_ n1_ n2_ n3_ n4_ n5_ n6_ n7_ n8_ n9_
           clear hb hbox hg
           refine hK.out _ _ ⟨(blk_cell BK437.out 0).trans rfl, (blk_cell BK437.out 1).trans rfl, (blk_cell BK437.out 2).trans rfl, (blk_cell BK437.out 3).trans rfl, (blk_cell BK437.out 4).trans rfl, (blk_cell BK437.out 5).trans rfl, (blk_cell BK437.out 6).trans rfl, (blk_cell BK437.out 7).trans rfl, (blk_cell BK437.out 8).trans rfl, (blk_cell BK437.out 9).trans rfl, (blk_cell BK438.out 0).trans rfl, (blk_cell BK438.out 1).trans rfl, (blk_cell BK438.out 2).trans rfl⟩ (fun hHeld => ?_)
           clear hK K
           refine norm_ (a' := ?_) ?_ ?_
           rotate_left
           ·show Act.put _ (some 10) _ = _
            simp only [Act.put, List.setIfInBounds_toArray, List.set_cons_zero, List.set_cons_succ, i64_w, i32_w]
            rfl
           exact norm_ (by simp only [putAll, Act.put, List.setIfInBounds_toArray, List.set_cons_zero, List.set_cons_succ]) (hCont (gb454) _ ⟨hHeld, (by (with_reducible repeat (first | refine blk_drewN ?_ _ | refine blk_drew ?_ | refine blk_alloc ?_ _)); exact BK437.out), (by (with_reducible repeat (first | refine blk_drewN ?_ _ | refine blk_drew ?_ | refine blk_alloc ?_ _)); exact BK438.out), (by (with_reducible repeat (first | refine blk_drewN ?_ _ | refine blk_drew ?_ | refine blk_alloc ?_ _)); exact BK454.out), GW454.out, GE454.out, NB437_454.out, NB454_437.out, NB438_454.out, NB454_438.out, (by repeat (first | (with_reducible first | exact HB.out | apply below_alloc | apply pw_below_drewN | apply below_drew1 | refine below_set ?_ GE437.out | refine below_set ?_ GE438.out | refine below_set ?_ GE454.out) | exact HB.out))⟩)
          ·skip
           refine box_step ?hg (N := 10) ?hd (cs := #[.int .i64 0, .int .i64 0, .int .i64 0]) (t := 44) ?hr ?_; (case hd => rfl); (case hg => rfl); (case hr => first | (go_simp; done) | (go_simp; rfl))
           intro gb454 hg w73 hbox hb
           have n0_ := Aside0.mk (blk_below (g := gb437) (o := .cells #[.int .i64 a0_0, .int .i64 a0_1, .int .i64 a0_2, .int .i64 a0_3, .int .i64 a0_4, .int .i64 a0_5, .int .i64 a0_6, .int .i64 a0_7, .int .i64 a0_8, .int .i64 a0_9] 42 (0, 0)) (by (with_reducible repeat (first | refine blk_drewN ?_ _ | refine blk_drew ?_ | refine blk_alloc ?_ _)); exact BK437.out) hb)
           have n1_ := Aside0.mk (blk_below (g := gb438) (o := .cells #[.int .i64 x439000_2, .int .i64 x439001_2, .int .i64 x439002_2] 44 (0, 0)) (by (with_reducible repeat (first | refine blk_drewN ?_ _ | refine blk_drew ?_ | refine blk_alloc ?_ _)); exact BK438.out) hb)
           have n2_ := Aside0.mk (below_step (by repeat (first | (with_reducible first | exact HB.out | apply below_alloc | apply pw_below_drewN | apply below_drew1 | refine below_set ?_ GE437.out | refine below_set ?_ GE438.out) | exact HB.out)) hb)
           have n3_ := Aside0.mk (hbox)
           have n4_ := Aside0.mk ((by rw [hg]; exact (below_size (by repeat (first | (with_reducible first | exact HB.out | apply below_alloc | apply pw_below_drewN | apply below_drew1 | refine below_set ?_ GE437.out | refine below_set ?_ GE438.out) | exact HB.out))) : w.heap.size ≤ gb454))
           have n5_ := Aside0.mk ((by rw [hg]; exact (below_size (by repeat (first | (with_reducible first | exact HB.out | apply below_alloc | apply pw_below_drewN | apply below_drew1 | refine below_set ?_ GE437.out | refine below_set ?_ GE438.out) | exact HB.out))) : w.heap.size ≤ gb454))
           have n6_ := Aside0.mk ((by rw [hg]; exact Nat.ne_of_lt (blk_lt (g := gb437) (o := .cells #[.int .i64 a0_0, .int .i64 a0_1, .int .i64 a0_2, .int .i64 a0_3, .int .i64 a0_4, .int .i64 a0_5, .int .i64 a0_6, .int .i64 a0_7, .int .i64 a0_8, .int .i64 a0_9] 42 (0, 0)) (by (with_reducible repeat (first | refine blk_drewN ?_ _ | refine blk_drew ?_ | refine blk_alloc ?_ _)); exact BK437.out)) : gb437 ≠ gb454))
           have n7_ := Aside0.mk ((by rw [hg]; exact Nat.ne_of_gt (blk_lt (g := gb437) (o := .cells #[.int .i64 a0_0, .int .i64 a0_1, .int .i64 a0_2, .int .i64 a0_3, .int .i64 a0_4, .int .i64 a0_5, .int .i64 a0_6, .int .i64 a0_7, .int .i64 a0_8, .int .i64 a0_9] 42 (0, 0)) (by (with_reducible repeat (first | refine blk_drewN ?_ _ | refine blk_drew ?_ | refine blk_alloc ?_ _)); exact BK437.out)) : gb454 ≠ gb437))
           have n8_ := Aside0.mk ((by rw [hg]; exact Nat.ne_of_lt (blk_lt (g := gb438) (o := .cells #[.int .i64 x439000_2, .int .i64 x439001_2, .int .i64 x439002_2] 44 (0, 0)) (by (with_reducible repeat (first | refine blk_drewN ?_ _ | refine blk_drew ?_ | refine blk_alloc ?_ _)); exact BK438.out)) : gb438 ≠ gb454))
           have n9_ := Aside0.mk ((by rw [hg]; exact Nat.ne_of_gt (blk_lt (g := gb438) (o := .cells #[.int .i64 x439000_2, .int .i64 x439001_2, .int .i64 x439002_2] 44 (0, 0)) (by (with_reducible repeat (first | refine blk_drewN ?_ _ | refine blk_drew ?_ | refine blk_alloc ?_ _)); exact BK438.out)) : gb454 ≠ gb438))
           clear BK437
           clear BK438
           clear HB
           have BK437 := n0_
           have BK438 := n1_
           have HB := n2_
           have BK454 := n3_
           have GW454 := n4_
           have GE454 := n5_
           have NB437_454 := n6_
           have NB454_437 := n7_
           have NB438_454 := n8_
           have NB454_438 := n9_
           clear n0_ n1_ n2_ n3_ n4_ n5_ n6_ n7_ n8_ n9_
           clear hb hbox hg
           refine hK.out _ _ ⟨(blk_cell BK437.out 0).trans rfl, (blk_cell BK437.out 1).trans rfl, (blk_cell BK437.out 2).trans rfl, (blk_cell BK437.out 3).trans rfl, (blk_cell BK437.out 4).trans rfl, (blk_cell BK437.out 5).trans rfl, (blk_cell BK437.out 6).trans rfl, (blk_cell BK437.out 7).trans rfl, (blk_cell BK437.out 8).trans rfl, (blk_cell BK437.out 9).trans rfl, (blk_cell BK438.out 0).trans rfl, (blk_cell BK438.out 1).trans rfl, (blk_cell BK438.out 2).trans rfl⟩ (fun hHeld => ?_)
           clear hK K
           refine norm_ (a' := ?_) ?_ ?_
           rotate_left
           ·show Act.put _ (some 10) _ = _
            simp only [Act.put, List.setIfInBounds_toArray, List.set_cons_zero, List.set_cons_succ, i64_w, i32_w]
            rfl
           refine one_ (i := 12) (N := some 45) #[true, true, true, true, true, true, true, true, true, true, true, true, true, false, false, false, false, true, false, false, false] rfl rfl (one_of HT_.out (by kernel_rfl)) (by decide) (fun K hK => ?_)
           refine goes_ Try.func22 (by kernel_rfl) rfl #[.agg #[.int .i64 a0_0, .int .i64 a0_1, .int .i64 a0_2, .int .i64 a0_3, .int .i64 a0_4, .int .i64 a0_5, .int .i64 a0_6, .int .i64 a0_7, .int .i64 a0_8, .int .i64 a0_9], .agg #[.int .i64 x439000_2, .int .i64 x439001_2, .int .i64 x439002_2], .bool false] (by rfl) rfl rfl (by (try simp only [List.map_toArray, List.map_cons, List.map_nil]); first | done | rfl | (simp only [List.length_drop, List.length_take]; rfl)) ?_
           with_reducible refine (door_Step.calls k2 a0_0 a0_1 a0_2 a0_3 a0_4 a0_5 a0_6 a0_7 a0_8 a0_9 x439000_2 x439001_2 x439002_2 false t449 t450 t451 t452 t453 _ A70.out).mono ?_
           rintro e w74 ⟨rfl, hb⟩
           refine ⟨_, rfl, ?_⟩
           have n0_ := Aside0.mk (blk_below (g := gb437) (o := .cells #[.int .i64 a0_0, .int .i64 a0_1, .int .i64 a0_2, .int .i64 a0_3, .int .i64 a0_4, .int .i64 a0_5, .int .i64 a0_6, .int .i64 a0_7, .int .i64 a0_8, .int .i64 a0_9] 42 (0, 0)) (by (with_reducible repeat (first | refine blk_drewN ?_ _ | refine blk_drew ?_ | refine blk_alloc ?_ _)); exact BK437.out) hb)
           have n1_ := Aside0.mk (blk_below (g := gb438) (o := .cells #[.int .i64 x439000_2, .int .i64 x439001_2, .int .i64 x439002_2] 44 (0, 0)) (by (with_reducible repeat (first | refine blk_drewN ?_ _ | refine blk_drew ?_ | refine blk_alloc ?_ _)); exact BK438.out) hb)
           have n2_ := Aside0.mk (blk_below (g := gb454) (o := .cells #[.int .i64 0, .int .i64 0, .int .i64 0] 44 (0, 0)) (by (with_reducible repeat (first | refine blk_drewN ?_ _ | refine blk_drew ?_ | refine blk_alloc ?_ _)); exact BK454.out) hb)
           have n3_ := Aside0.mk (below_step (by repeat (first | (with_reducible first | exact HB.out | apply below_alloc | apply pw_below_drewN | apply below_drew1 | refine below_set ?_ GE437.out | refine below_set ?_ GE438.out | refine below_set ?_ GE454.out) | exact HB.out)) hb)
           clear BK437
           clear BK438
           clear BK454
           clear HB
           have BK437 := n0_
           have BK438 := n1_
           have BK454 := n2_
           have HB := n3_
           clear n0_ n1_ n2_ n3_
           (try clear hb)
           (try clear hb2)
           (try clear hk)
           (try clear hi)
           refine hK.out _ _ ⟨(blk_cell BK437.out 0).trans rfl, (blk_cell BK437.out 1).trans rfl, (blk_cell BK437.out 2).trans rfl, (blk_cell BK437.out 3).trans rfl, (blk_cell BK437.out 4).trans rfl, (blk_cell BK437.out 5).trans rfl, (blk_cell BK437.out 6).trans rfl, (blk_cell BK437.out 7).trans rfl, (blk_cell BK437.out 8).trans rfl, (blk_cell BK437.out 9).trans rfl, (blk_cell BK438.out 0).trans rfl, (blk_cell BK438.out 1).trans rfl, (blk_cell BK438.out 2).trans rfl⟩ (fun hHeld => ?_)
           clear hK K
           refine norm_ (a' := ?_) ?_ ?_
           rotate_left
           ·show Act.put _ (some 45) _ = _
            simp only [Act.put, List.setIfInBounds_toArray, List.set_cons_zero, List.set_cons_succ, i64_w, i32_w]
            rfl
           refine pure_ (i := 13) (N := some 32) (v := ?_) (a' := ?_) #[true, true, true, true, true, true, true, true, true, true, true, true, true, true, false, false, false, true, false, false, false] rfl rfl (any_of HT_.out (by kernel_rfl)) (fun _ _ _ h => h) (Or.inl ⟨by rfl, ?_⟩) ?_ ?_
           rotate_left
           ·intro w'
            go_simp
            with_reducible rfl
           rotate_left
           ·simp only [Act.put, List.setIfInBounds_toArray, List.set_cons_zero, List.set_cons_succ, i64_w, i32_w]
            rfl
           refine pure_ (i := 14) (N := some 46) (v := ?_) (a' := ?_) #[true, true, true, true, true, true, true, true, true, true, true, true, true, true, true, false, false, true, false, false, false] rfl rfl (any_of HT_.out (by kernel_rfl)) (fun _ _ _ h => h) (Or.inl ⟨by rfl, ?_⟩) ?_ ?_
           rotate_left
           ·intro w'
            go_simp
            with_reducible rfl
           rotate_left
           ·simp only [Act.put, List.setIfInBounds_toArray, List.set_cons_zero, List.set_cons_succ, i64_w, i32_w]
            rfl
           refine pure_ (i := 15) (N := some 47) (v := ?_) (a' := ?_) #[true, true, true, true, true, true, true, true, true, true, true, true, true, true, true, true, false, true, false, false, false] rfl rfl (any_of HT_.out (by kernel_rfl)) (fun _ _ _ h => h) (Or.inl ⟨by rfl, ?_⟩) ?_ ?_
           rotate_left
           ·intro w'
            go_simp
            with_reducible rfl
           rotate_left
           ·simp only [Act.put, List.setIfInBounds_toArray, List.set_cons_zero, List.set_cons_succ, i64_w, i32_w]
            rfl
           refine pure_ (i := 16) (N := some 48) (v := ?_) (a' := ?_) #[true, true, true, true, true, true, true, true, true, true, true, true, true, true, true, true, true, true, false, false, false] rfl rfl (any_of HT_.out (by kernel_rfl)) (fun _ _ _ h => h) (Or.inl ⟨by rfl, ?_⟩) ?_ ?_
           rotate_left
           ·intro w'
            go_simp
            with_reducible rfl
           rotate_left
           ·simp only [Act.put, List.setIfInBounds_toArray, List.set_cons_zero, List.set_cons_succ, i64_w, i32_w]
            rfl
           exact norm_ (by simp only [putAll, Act.put, List.setIfInBounds_toArray, List.set_cons_zero, List.set_cons_succ]) (hCont (gb454) _ ⟨hHeld, (by (with_reducible repeat (first | refine blk_drewN ?_ _ | refine blk_drew ?_ | refine blk_alloc ?_ _)); exact BK437.out), (by (with_reducible repeat (first | refine blk_drewN ?_ _ | refine blk_drew ?_ | refine blk_alloc ?_ _)); exact BK438.out), (by (with_reducible repeat (first | refine blk_drewN ?_ _ | refine blk_drew ?_ | refine blk_alloc ?_ _)); exact BK454.out), GW454.out, GE454.out, NB437_454.out, NB454_437.out, NB438_454.out, NB454_438.out, (by repeat (first | (with_reducible first | exact HB.out | apply below_alloc | apply pw_below_drewN | apply below_drew1 | refine below_set ?_ GE437.out | refine below_set ?_ GE438.out | refine below_set ?_ GE454.out) | exact HB.out))⟩)
         rintro gb454 w75 ⟨hS_, h0_, h1_, h2_, h3_, h4_, h5_, h6_, h7_, h8_, h9_⟩
         have n0_ : Aside0 (w75.heap[gb437]? = some (.cells #[.int .i64 a0_0, .int .i64 a0_1, .int .i64 a0_2, .int .i64 a0_3, .int .i64 a0_4, .int .i64 a0_5, .int .i64 a0_6, .int .i64 a0_7, .int .i64 a0_8, .int .i64 a0_9] 42 (0, 0))) := ⟨h0_⟩
         have n1_ : Aside0 (w75.heap[gb438]? = some (.cells #[.int .i64 x439000_2, .int .i64 x439001_2, .int .i64 x439002_2] 44 (0, 0))) := ⟨h1_⟩
         have n2_ : Aside0 (w75.heap[gb454]? = some (.cells #[.int .i64 0, .int .i64 0, .int .i64 0] 44 (0, 0))) := ⟨h2_⟩
         have n3_ : Aside0 (w.heap.size ≤ gb454) := ⟨h3_⟩
         have n4_ : Aside0 (w.heap.size ≤ gb454) := ⟨h4_⟩
         have n5_ : Aside0 (gb437 ≠ gb454) := ⟨h5_⟩
         have n6_ : Aside0 (gb454 ≠ gb437) := ⟨h6_⟩
         have n7_ : Aside0 (gb438 ≠ gb454) := ⟨h7_⟩
         have n8_ : Aside0 (gb454 ≠ gb438) := ⟨h8_⟩
         have n9_ : Aside0 (Below w.heap.size w w75) := ⟨h9_⟩
         clear BK437
         clear BK438
         clear HB
         clear h0_ h1_ h2_ h3_ h4_ h5_ h6_ h7_ h8_ h9_
         have BK437 := n0_
         have BK438 := n1_
         have BK454 := n2_
         have GW454 := n3_
         have GE454 := n4_
         have NB437_454 := n5_
         have NB454_437 := n6_
         have NB438_454 := n7_
         have NB454_438 := n8_
         have HB := n9_
         clear n0_ n1_ n2_ n3_ n4_ n5_ n6_ n7_ n8_ n9_
         have hHeld : w75.cell? ⟨gb437, 0, none⟩ = some (.int .i64 a0_0) ∧ w75.cell? ⟨gb437, 1, none⟩ = some (.int .i64 a0_1) ∧ w75.cell? ⟨gb437, 2, none⟩ = some (.int .i64 a0_2) ∧ w75.cell? ⟨gb437, 3, none⟩ = some (.int .i64 a0_3) ∧ w75.cell? ⟨gb437, 4, none⟩ = some (.int .i64 a0_4) ∧ w75.cell? ⟨gb437, 5, none⟩ = some (.int .i64 a0_5) ∧ w75.cell? ⟨gb437, 6, none⟩ = some (.int .i64 a0_6) ∧ w75.cell? ⟨gb437, 7, none⟩ = some (.int .i64 a0_7) ∧ w75.cell? ⟨gb437, 8, none⟩ = some (.int .i64 a0_8) ∧ w75.cell? ⟨gb437, 9, none⟩ = some (.int .i64 a0_9) ∧ w75.cell? ⟨gb438, 0, none⟩ = some (.int .i64 x439000_2) ∧ w75.cell? ⟨gb438, 1, none⟩ = some (.int .i64 x439001_2) ∧ w75.cell? ⟨gb438, 2, none⟩ = some (.int .i64 x439002_2) := hS_
         refine norm_ (a' := ?_) ?_ ?_
         rotate_left
         ·simp only [putAll, Act.put, List.setIfInBounds_toArray, List.set_cons_zero, List.set_cons_succ]
          rfl
         refine one_ (i := 18) (N := none) #[true, true, true, true, true, true, true, true, true, true, true, true, true, true, true, true, true, true, true, false, false] rfl rfl (one_of HT_.out (by kernel_rfl)) (by decide) (fun K hK => ?_)
         have hs76 : w75.cell? ⟨gb454, 0, none⟩ = some (.int .i64 0) := (blk_cell BK454.out 0).trans rfl
         have hfs76 := blk_frozen BK454.out 0
         have hns76_0 := NB437_454.out
         have hns76_1 := NB438_454.out
         have hms76_0 := NB454_437.out
         have hms76_1 := NB454_438.out
         have hs77 : w75.cell? ⟨gb454, 1, none⟩ = some (.int .i64 0) := (blk_cell BK454.out 1).trans rfl
         have hfs77 := blk_frozen BK454.out 1
         have hns77_0 := NB437_454.out
         have hns77_1 := NB438_454.out
         have hms77_0 := NB454_437.out
         have hms77_1 := NB454_438.out
         have hs78 : w75.cell? ⟨gb454, 2, none⟩ = some (.int .i64 0) := (blk_cell BK454.out 2).trans rfl
         have hfs78 := blk_frozen BK454.out 2
         have hns78_0 := NB437_454.out
         have hns78_1 := NB438_454.out
         have hms78_0 := NB454_437.out
         have hms78_1 := NB454_438.out
         refine skip_ (w1 := ?_) (by rfl) rfl ?_ ?_
         rotate_left
         ·go_simp
          rfl
         refine hK.out _ _ ⟨((cell_far (p := ⟨gb454, _, none⟩) NB437_454.out _).trans (((cell_far (p := ⟨gb454, _, none⟩) NB437_454.out _).trans (((cell_far (p := ⟨gb454, _, none⟩) NB437_454.out _).trans (hHeld.1)))))), ((cell_far (p := ⟨gb454, _, none⟩) NB437_454.out _).trans (((cell_far (p := ⟨gb454, _, none⟩) NB437_454.out _).trans (((cell_far (p := ⟨gb454, _, none⟩) NB437_454.out _).trans (hHeld.2.1)))))), ((cell_far (p := ⟨gb454, _, none⟩) NB437_454.out _).trans (((cell_far (p := ⟨gb454, _, none⟩) NB437_454.out _).trans (((cell_far (p := ⟨gb454, _, none⟩) NB437_454.out _).trans (hHeld.2.2.1)))))), ((cell_far (p := ⟨gb454, _, none⟩) NB437_454.out _).trans (((cell_far (p := ⟨gb454, _, none⟩) NB437_454.out _).trans (((cell_far (p := ⟨gb454, _, none⟩) NB437_454.out _).trans (hHeld.2.2.2.1)))))), ((cell_far (p := ⟨gb454, _, none⟩) NB437_454.out _).trans (((cell_far (p := ⟨gb454, _, none⟩) NB437_454.out _).trans (((cell_far (p := ⟨gb454, _, none⟩) NB437_454.out _).trans (hHeld.2.2.2.2.1)))))), ((cell_far (p := ⟨gb454, _, none⟩) NB437_454.out _).trans (((cell_far (p := ⟨gb454, _, none⟩) NB437_454.out _).trans (((cell_far (p := ⟨gb454, _, none⟩) NB437_454.out _).trans (hHeld.2.2.2.2.2.1)))))), ((cell_far (p := ⟨gb454, _, none⟩) NB437_454.out _).trans (((cell_far (p := ⟨gb454, _, none⟩) NB437_454.out _).trans (((cell_far (p := ⟨gb454, _, none⟩) NB437_454.out _).trans (hHeld.2.2.2.2.2.2.1)))))), ((cell_far (p := ⟨gb454, _, none⟩) NB437_454.out _).trans (((cell_far (p := ⟨gb454, _, none⟩) NB437_454.out _).trans (((cell_far (p := ⟨gb454, _, none⟩) NB437_454.out _).trans (hHeld.2.2.2.2.2.2.2.1)))))), ((cell_far (p := ⟨gb454, _, none⟩) NB437_454.out _).trans (((cell_far (p := ⟨gb454, _, none⟩) NB437_454.out _).trans (((cell_far (p := ⟨gb454, _, none⟩) NB437_454.out _).trans (hHeld.2.2.2.2.2.2.2.2.1)))))), ((cell_far (p := ⟨gb454, _, none⟩) NB437_454.out _).trans (((cell_far (p := ⟨gb454, _, none⟩) NB437_454.out _).trans (((cell_far (p := ⟨gb454, _, none⟩) NB437_454.out _).trans (hHeld.2.2.2.2.2.2.2.2.2.1)))))), ((cell_far (p := ⟨gb454, _, none⟩) NB438_454.out _).trans (((cell_far (p := ⟨gb454, _, none⟩) NB438_454.out _).trans (((cell_far (p := ⟨gb454, _, none⟩) NB438_454.out _).trans (hHeld.2.2.2.2.2.2.2.2.2.2.1)))))), ((cell_far (p := ⟨gb454, _, none⟩) NB438_454.out _).trans (((cell_far (p := ⟨gb454, _, none⟩) NB438_454.out _).trans (((cell_far (p := ⟨gb454, _, none⟩) NB438_454.out _).trans (hHeld.2.2.2.2.2.2.2.2.2.2.2.1)))))), ((cell_far (p := ⟨gb454, _, none⟩) NB438_454.out _).trans (((cell_far (p := ⟨gb454, _, none⟩) NB438_454.out _).trans (((cell_far (p := ⟨gb454, _, none⟩) NB438_454.out _).trans (hHeld.2.2.2.2.2.2.2.2.2.2.2.2))))))⟩ (fun hHeld => ?_)
         clear hK K
         refine pure_ (i := 19) (N := some 11) (v := ?_) (a' := ?_) #[true, true, true, true, true, true, true, true, true, true, true, true, true, true, true, true, true, true, true, true, false] rfl rfl (any_of HT_.out (by kernel_rfl)) (fun _ _ _ h => h) (Or.inl ⟨by rfl, ?_⟩) ?_ ?_
         rotate_left
         ·intro w'
          go_simp
          with_reducible rfl
         rotate_left
         ·simp only [Act.put, List.setIfInBounds_toArray, List.set_cons_zero, List.set_cons_succ, i64_w, i32_w]
          rfl
         refine pure_ (i := 20) (N := some 12) (v := ?_) (a' := ?_) #[true, true, true, true, true, true, true, true, true, true, true, true, true, true, true, true, true, true, true, true, true] rfl rfl (any_of HT_.out (by kernel_rfl)) (fun _ _ _ h => h) (Or.inl ⟨by rfl, ?_⟩) ?_ ?_
         rotate_left
         ·intro w'
          go_simp
          with_reducible rfl
         rotate_left
         ·simp only [Act.put, List.setIfInBounds_toArray, List.set_cons_zero, List.set_cons_succ, i64_w, i32_w]
          rfl
         refine done_ (done_of HT_.out (by kernel_rfl)) ?_
         go_upto_region 8 with (fail)
         go_cut [73] (fun v73 wc => ∃ (kq : Nat) (x73_70 : Bool), v73 = .bool x73_70 ∧ Aside0 (newellaw17_DoorEnds.j3 kq l2 t439 x9_2 x73_70 a0_0 a0_1 a0_2 a0_3 a0_4 a0_5 a0_6 a0_7 a0_8 a0_9 t449 t450 t451 = some r) ∧ Aside0 (kq ≤ k2) ∧ Aside0 (wc.heap[gb437]? = some (.cells #[.int .i64 a0_0, .int .i64 a0_1, .int .i64 a0_2, .int .i64 a0_3, .int .i64 a0_4, .int .i64 a0_5, .int .i64 a0_6, .int .i64 a0_7, .int .i64 a0_8, .int .i64 a0_9] 42 (0, 0))) ∧ Aside0 (wc.heap[gb438]? = some (.cells #[.int .i64 x439000_2, .int .i64 x439001_2, .int .i64 x439002_2] 44 (0, 0))) ∧ Aside0 (wc.heap[gb454]? = some (.cells #[.int .i64 t449, .int .i64 t450, .int .i64 t451] 44 (0, 0))) ∧ Aside0 (Below w.heap.size w wc))
         case first =>
          have H := HC71.out
          clear HC71
          by_cases c79 : t453 = 0
          ·rw [if_pos c79] at H
           have c79b0 : (t453 == 0) = true := beq_iff_eq.mpr c79
           have c79b1 : (t453 != 0) = false := bne_eq_false_iff_eq.mpr c79
           clear c79
           (first | rw [c79b0] | (simp only [i64_w, i32_w]; rw [c79b0]) | skip)
           by_cases c80 : t452 = true
           ·subst c80
            have H1 : (if x439000_2 = 2 then (if t449 = 0 then (if x439000_2 = 3 then (newellaw17_DoorEnds.j3 k2 l2 t439 x9_2 false a0_0 a0_1 a0_2 a0_3 a0_4 a0_5 a0_6 a0_7 a0_8 a0_9 t449 t450 t451) else (newellaw17_DoorEnds.j3 k2 l2 t439 x9_2 (x439000_2 != 0) a0_0 a0_1 a0_2 a0_3 a0_4 a0_5 a0_6 a0_7 a0_8 a0_9 t449 t450 t451)) else (newellaw17_DoorEnds.j3 k2 l2 t439 x9_2 false a0_0 a0_1 a0_2 a0_3 a0_4 a0_5 a0_6 a0_7 a0_8 a0_9 t449 t450 t451)) else (none)) = some r := by rw [if_pos rfl] at H; exact H
            clear H
            have H := H1
            clear H1
            by_cases c81 : x439000_2 = 2
            ·rw [if_pos c81] at H
             have c81b0 : (x439000_2 == 2) = true := beq_iff_eq.mpr c81
             have c81b1 : (x439000_2 != 2) = false := bne_eq_false_iff_eq.mpr c81
             clear c81
             by_cases c82 : t449 = 0
             ·rw [if_pos c82] at H
              have c82b0 : (t449 == 0) = true := beq_iff_eq.mpr c82
              have c82b1 : (t449 != 0) = false := bne_eq_false_iff_eq.mpr c82
              clear c82
              by_cases c83 : x439000_2 = 3
              ·rw [if_pos c83] at H
               have c83b0 : (x439000_2 == 3) = true := beq_iff_eq.mpr c83
               have c83b1 : (x439000_2 != 3) = false := bne_eq_false_iff_eq.mpr c83
               clear c83
               have H' := Aside0.mk H
               clear H
               have hnb84 := NB438_437.out
               have hnc84 := NB437_438.out
               have hnb85 := NB438_454.out
               have hnc85 := NB454_438.out
               have hcz86_0 : w75.cell? ⟨gb438, 0, none⟩ = some (.int .i64 x439000_2) := (blk_cell BK438.out 0).trans rfl
               have hcz86_1 : w75.cell? ⟨gb438, 1, none⟩ = some (.int .i64 x439001_2) := (blk_cell BK438.out 1).trans rfl
               have hcz86_2 : w75.cell? ⟨gb438, 2, none⟩ = some (.int .i64 x439002_2) := (blk_cell BK438.out 2).trans rfl
               have hfz86_0 := blk_frozen BK438.out 0
               have hfz86_1 := blk_frozen BK438.out 1
               have hfz86_2 := blk_frozen BK438.out 2
               have hnb87 := NB454_437.out
               have hnc87 := NB437_454.out
               have hcz88_0 : w75.cell? ⟨gb454, 0, none⟩ = some (.int .i64 0) := (blk_cell BK454.out 0).trans rfl
               have hcz88_1 : w75.cell? ⟨gb454, 1, none⟩ = some (.int .i64 0) := (blk_cell BK454.out 1).trans rfl
               have hcz88_2 : w75.cell? ⟨gb454, 2, none⟩ = some (.int .i64 0) := (blk_cell BK454.out 2).trans rfl
               have hfz88_0 := blk_frozen BK454.out 0
               have hfz88_1 := blk_frozen BK454.out 1
               have hfz88_2 := blk_frozen BK454.out 2
               go_wp2
               go_meet
               case rel => exact ⟨_, (false), (by first | rfl | (simp; done) | (simp [*]; done)), H', ⟨by have := HJ4.out; have := HK2.out; first | omega | exact Nat.le_refl _⟩, ⟨by (with_reducible repeat (first | refine blk_drewN ?_ _ | refine blk_drew ?_ | refine blk_alloc ?_ _)); refine blk_far ?_ NB437_454.out _; (with_reducible repeat (first | refine blk_drewN ?_ _ | refine blk_drew ?_ | refine blk_alloc ?_ _)); refine blk_far ?_ NB437_454.out _; (with_reducible repeat (first | refine blk_drewN ?_ _ | refine blk_drew ?_ | refine blk_alloc ?_ _)); refine blk_far ?_ NB437_454.out _; (with_reducible repeat (first | refine blk_drewN ?_ _ | refine blk_drew ?_ | refine blk_alloc ?_ _)); exact BK437.out⟩, ⟨by (with_reducible repeat (first | refine blk_drewN ?_ _ | refine blk_drew ?_ | refine blk_alloc ?_ _)); refine blk_far ?_ NB438_454.out _; (with_reducible repeat (first | refine blk_drewN ?_ _ | refine blk_drew ?_ | refine blk_alloc ?_ _)); refine blk_far ?_ NB438_454.out _; (with_reducible repeat (first | refine blk_drewN ?_ _ | refine blk_drew ?_ | refine blk_alloc ?_ _)); refine blk_far ?_ NB438_454.out _; (with_reducible repeat (first | refine blk_drewN ?_ _ | refine blk_drew ?_ | refine blk_alloc ?_ _)); exact BK438.out⟩, ⟨by (with_reducible repeat (first | refine blk_drewN ?_ _ | refine blk_drew ?_ | refine blk_alloc ?_ _)); refine blk_put (cs := #[.int .i64 t449, .int .i64 t450, .int .i64 0]) ?_ 2 _ rfl; (with_reducible repeat (first | refine blk_drewN ?_ _ | refine blk_drew ?_ | refine blk_alloc ?_ _)); refine blk_put (cs := #[.int .i64 t449, .int .i64 0, .int .i64 0]) ?_ 1 _ rfl; (with_reducible repeat (first | refine blk_drewN ?_ _ | refine blk_drew ?_ | refine blk_alloc ?_ _)); refine blk_put (cs := #[.int .i64 0, .int .i64 0, .int .i64 0]) ?_ 0 _ rfl; (with_reducible repeat (first | refine blk_drewN ?_ _ | refine blk_drew ?_ | refine blk_alloc ?_ _)); exact BK454.out⟩, ⟨by repeat (first | (with_reducible first | exact HB.out | apply below_alloc | apply pw_below_drewN | apply below_drew1 | refine below_set ?_ GE437.out | refine below_set ?_ GE438.out | refine below_set ?_ GE454.out) | exact HB.out)⟩⟩
              ·rw [if_neg c83] at H
               have c83b0 : (x439000_2 == 3) = false := beq_eq_false_iff_ne.mpr c83
               have c83b1 : (x439000_2 != 3) = true := bne_iff_ne.mpr c83
               have H' := Aside0.mk H
               clear H
               have hnb89 := NB438_437.out
               have hnc89 := NB437_438.out
               have hnb90 := NB438_454.out
               have hnc90 := NB454_438.out
               have hcz91_0 : w75.cell? ⟨gb438, 0, none⟩ = some (.int .i64 x439000_2) := (blk_cell BK438.out 0).trans rfl
               have hcz91_1 : w75.cell? ⟨gb438, 1, none⟩ = some (.int .i64 x439001_2) := (blk_cell BK438.out 1).trans rfl
               have hcz91_2 : w75.cell? ⟨gb438, 2, none⟩ = some (.int .i64 x439002_2) := (blk_cell BK438.out 2).trans rfl
               have hfz91_0 := blk_frozen BK438.out 0
               have hfz91_1 := blk_frozen BK438.out 1
               have hfz91_2 := blk_frozen BK438.out 2
               have hnb92 := NB454_437.out
               have hnc92 := NB437_454.out
               have hcz93_0 : w75.cell? ⟨gb454, 0, none⟩ = some (.int .i64 0) := (blk_cell BK454.out 0).trans rfl
               have hcz93_1 : w75.cell? ⟨gb454, 1, none⟩ = some (.int .i64 0) := (blk_cell BK454.out 1).trans rfl
               have hcz93_2 : w75.cell? ⟨gb454, 2, none⟩ = some (.int .i64 0) := (blk_cell BK454.out 2).trans rfl
               have hfz93_0 := blk_frozen BK454.out 0
               have hfz93_1 := blk_frozen BK454.out 1
               have hfz93_2 := blk_frozen BK454.out 2
               go_wp2
               go_meet
               case rel => exact ⟨_, ((x439000_2 != 0)), (by first | rfl | (simp; done) | (simp [*]; done)), H', ⟨by have := HJ4.out; have := HK2.out; first | omega | exact Nat.le_refl _⟩, ⟨by (with_reducible repeat (first | refine blk_drewN ?_ _ | refine blk_drew ?_ | refine blk_alloc ?_ _)); refine blk_far ?_ NB437_454.out _; (with_reducible repeat (first | refine blk_drewN ?_ _ | refine blk_drew ?_ | refine blk_alloc ?_ _)); refine blk_far ?_ NB437_454.out _; (with_reducible repeat (first | refine blk_drewN ?_ _ | refine blk_drew ?_ | refine blk_alloc ?_ _)); refine blk_far ?_ NB437_454.out _; (with_reducible repeat (first | refine blk_drewN ?_ _ | refine blk_drew ?_ | refine blk_alloc ?_ _)); exact BK437.out⟩, ⟨by (with_reducible repeat (first | refine blk_drewN ?_ _ | refine blk_drew ?_ | refine blk_alloc ?_ _)); refine blk_far ?_ NB438_454.out _; (with_reducible repeat (first | refine blk_drewN ?_ _ | refine blk_drew ?_ | refine blk_alloc ?_ _)); refine blk_far ?_ NB438_454.out _; (with_reducible repeat (first | refine blk_drewN ?_ _ | refine blk_drew ?_ | refine blk_alloc ?_ _)); refine blk_far ?_ NB438_454.out _; (with_reducible repeat (first | refine blk_drewN ?_ _ | refine blk_drew ?_ | refine blk_alloc ?_ _)); exact BK438.out⟩, ⟨by (with_reducible repeat (first | refine blk_drewN ?_ _ | refine blk_drew ?_ | refine blk_alloc ?_ _)); refine blk_put (cs := #[.int .i64 t449, .int .i64 t450, .int .i64 0]) ?_ 2 _ rfl; (with_reducible repeat (first | refine blk_drewN ?_ _ | refine blk_drew ?_ | refine blk_alloc ?_ _)); refine blk_put (cs := #[.int .i64 t449, .int .i64 0, .int .i64 0]) ?_ 1 _ rfl; (with_reducible repeat (first | refine blk_drewN ?_ _ | refine blk_drew ?_ | refine blk_alloc ?_ _)); refine blk_put (cs := #[.int .i64 0, .int .i64 0, .int .i64 0]) ?_ 0 _ rfl; (with_reducible repeat (first | refine blk_drewN ?_ _ | refine blk_drew ?_ | refine blk_alloc ?_ _)); exact BK454.out⟩, ⟨by repeat (first | (with_reducible first | exact HB.out | apply below_alloc | apply pw_below_drewN | apply below_drew1 | refine below_set ?_ GE437.out | refine below_set ?_ GE438.out | refine below_set ?_ GE454.out) | exact HB.out)⟩⟩
             ·rw [if_neg c82] at H
              have c82b0 : (t449 == 0) = false := beq_eq_false_iff_ne.mpr c82
              have c82b1 : (t449 != 0) = true := bne_iff_ne.mpr c82
              have H' := Aside0.mk H
              clear H
              have hnb94 := NB438_437.out
              have hnc94 := NB437_438.out
              have hnb95 := NB438_454.out
              have hnc95 := NB454_438.out
              have hcz96_0 : w75.cell? ⟨gb438, 0, none⟩ = some (.int .i64 x439000_2) := (blk_cell BK438.out 0).trans rfl
              have hcz96_1 : w75.cell? ⟨gb438, 1, none⟩ = some (.int .i64 x439001_2) := (blk_cell BK438.out 1).trans rfl
              have hcz96_2 : w75.cell? ⟨gb438, 2, none⟩ = some (.int .i64 x439002_2) := (blk_cell BK438.out 2).trans rfl
              have hfz96_0 := blk_frozen BK438.out 0
              have hfz96_1 := blk_frozen BK438.out 1
              have hfz96_2 := blk_frozen BK438.out 2
              have hnb97 := NB454_437.out
              have hnc97 := NB437_454.out
              have hcz98_0 : w75.cell? ⟨gb454, 0, none⟩ = some (.int .i64 0) := (blk_cell BK454.out 0).trans rfl
              have hcz98_1 : w75.cell? ⟨gb454, 1, none⟩ = some (.int .i64 0) := (blk_cell BK454.out 1).trans rfl
              have hcz98_2 : w75.cell? ⟨gb454, 2, none⟩ = some (.int .i64 0) := (blk_cell BK454.out 2).trans rfl
              have hfz98_0 := blk_frozen BK454.out 0
              have hfz98_1 := blk_frozen BK454.out 1
              have hfz98_2 := blk_frozen BK454.out 2
              go_wp2
              go_meet
              case rel => exact ⟨_, (false), (by first | rfl | (simp; done) | (simp [*]; done)), H', ⟨by have := HJ4.out; have := HK2.out; first | omega | exact Nat.le_refl _⟩, ⟨by (with_reducible repeat (first | refine blk_drewN ?_ _ | refine blk_drew ?_ | refine blk_alloc ?_ _)); refine blk_far ?_ NB437_454.out _; (with_reducible repeat (first | refine blk_drewN ?_ _ | refine blk_drew ?_ | refine blk_alloc ?_ _)); refine blk_far ?_ NB437_454.out _; (with_reducible repeat (first | refine blk_drewN ?_ _ | refine blk_drew ?_ | refine blk_alloc ?_ _)); refine blk_far ?_ NB437_454.out _; (with_reducible repeat (first | refine blk_drewN ?_ _ | refine blk_drew ?_ | refine blk_alloc ?_ _)); exact BK437.out⟩, ⟨by (with_reducible repeat (first | refine blk_drewN ?_ _ | refine blk_drew ?_ | refine blk_alloc ?_ _)); refine blk_far ?_ NB438_454.out _; (with_reducible repeat (first | refine blk_drewN ?_ _ | refine blk_drew ?_ | refine blk_alloc ?_ _)); refine blk_far ?_ NB438_454.out _; (with_reducible repeat (first | refine blk_drewN ?_ _ | refine blk_drew ?_ | refine blk_alloc ?_ _)); refine blk_far ?_ NB438_454.out _; (with_reducible repeat (first | refine blk_drewN ?_ _ | refine blk_drew ?_ | refine blk_alloc ?_ _)); exact BK438.out⟩, ⟨by (with_reducible repeat (first | refine blk_drewN ?_ _ | refine blk_drew ?_ | refine blk_alloc ?_ _)); refine blk_put (cs := #[.int .i64 t449, .int .i64 t450, .int .i64 0]) ?_ 2 _ rfl; (with_reducible repeat (first | refine blk_drewN ?_ _ | refine blk_drew ?_ | refine blk_alloc ?_ _)); refine blk_put (cs := #[.int .i64 t449, .int .i64 0, .int .i64 0]) ?_ 1 _ rfl; (with_reducible repeat (first | refine blk_drewN ?_ _ | refine blk_drew ?_ | refine blk_alloc ?_ _)); refine blk_put (cs := #[.int .i64 0, .int .i64 0, .int .i64 0]) ?_ 0 _ rfl; (with_reducible repeat (first | refine blk_drewN ?_ _ | refine blk_drew ?_ | refine blk_alloc ?_ _)); exact BK454.out⟩, ⟨by repeat (first | (with_reducible first | exact HB.out | apply below_alloc | apply pw_below_drewN | apply below_drew1 | refine below_set ?_ GE437.out | refine below_set ?_ GE438.out | refine below_set ?_ GE454.out) | exact HB.out)⟩⟩
            ·rw [if_neg c81] at H
             exact absurd H (by simp)
           ·replace c80 := Bool.eq_false_iff.mpr c80
            subst c80
            have H1 : (if t449 = 0 then (if x439000_2 = 3 then (newellaw17_DoorEnds.j3 k2 l2 t439 x9_2 false a0_0 a0_1 a0_2 a0_3 a0_4 a0_5 a0_6 a0_7 a0_8 a0_9 t449 t450 t451) else (newellaw17_DoorEnds.j3 k2 l2 t439 x9_2 (x439000_2 != 0) a0_0 a0_1 a0_2 a0_3 a0_4 a0_5 a0_6 a0_7 a0_8 a0_9 t449 t450 t451)) else (newellaw17_DoorEnds.j3 k2 l2 t439 x9_2 false a0_0 a0_1 a0_2 a0_3 a0_4 a0_5 a0_6 a0_7 a0_8 a0_9 t449 t450 t451)) = some r := by rw [if_neg (show ¬ (false = true) by decide)] at H; exact H
            clear H
            have H := H1
            clear H1
            by_cases c99 : t449 = 0
            ·rw [if_pos c99] at H
             have c99b0 : (t449 == 0) = true := beq_iff_eq.mpr c99
             have c99b1 : (t449 != 0) = false := bne_eq_false_iff_eq.mpr c99
             clear c99
             by_cases c100 : x439000_2 = 3
             ·rw [if_pos c100] at H
              have c100b0 : (x439000_2 == 3) = true := beq_iff_eq.mpr c100
              have c100b1 : (x439000_2 != 3) = false := bne_eq_false_iff_eq.mpr c100
              clear c100
              have H' := Aside0.mk H
              clear H
              have hnb101 := NB454_437.out
              have hnc101 := NB437_454.out
              have hnb102 := NB454_438.out
              have hnc102 := NB438_454.out
              have hcz103_0 : w75.cell? ⟨gb454, 0, none⟩ = some (.int .i64 0) := (blk_cell BK454.out 0).trans rfl
              have hcz103_1 : w75.cell? ⟨gb454, 1, none⟩ = some (.int .i64 0) := (blk_cell BK454.out 1).trans rfl
              have hcz103_2 : w75.cell? ⟨gb454, 2, none⟩ = some (.int .i64 0) := (blk_cell BK454.out 2).trans rfl
              have hfz103_0 := blk_frozen BK454.out 0
              have hfz103_1 := blk_frozen BK454.out 1
              have hfz103_2 := blk_frozen BK454.out 2
              have hnb104 := NB438_437.out
              have hnc104 := NB437_438.out
              have hcz105_0 : w75.cell? ⟨gb438, 0, none⟩ = some (.int .i64 x439000_2) := (blk_cell BK438.out 0).trans rfl
              have hcz105_1 : w75.cell? ⟨gb438, 1, none⟩ = some (.int .i64 x439001_2) := (blk_cell BK438.out 1).trans rfl
              have hcz105_2 : w75.cell? ⟨gb438, 2, none⟩ = some (.int .i64 x439002_2) := (blk_cell BK438.out 2).trans rfl
              have hfz105_0 := blk_frozen BK438.out 0
              have hfz105_1 := blk_frozen BK438.out 1
              have hfz105_2 := blk_frozen BK438.out 2
              go_wp2
              go_meet
              case rel => exact ⟨_, (false), (by first | rfl | (simp; done) | (simp [*]; done)), H', ⟨by have := HJ4.out; have := HK2.out; first | omega | exact Nat.le_refl _⟩, ⟨by (with_reducible repeat (first | refine blk_drewN ?_ _ | refine blk_drew ?_ | refine blk_alloc ?_ _)); refine blk_far ?_ NB437_454.out _; (with_reducible repeat (first | refine blk_drewN ?_ _ | refine blk_drew ?_ | refine blk_alloc ?_ _)); refine blk_far ?_ NB437_454.out _; (with_reducible repeat (first | refine blk_drewN ?_ _ | refine blk_drew ?_ | refine blk_alloc ?_ _)); refine blk_far ?_ NB437_454.out _; (with_reducible repeat (first | refine blk_drewN ?_ _ | refine blk_drew ?_ | refine blk_alloc ?_ _)); exact BK437.out⟩, ⟨by (with_reducible repeat (first | refine blk_drewN ?_ _ | refine blk_drew ?_ | refine blk_alloc ?_ _)); refine blk_far ?_ NB438_454.out _; (with_reducible repeat (first | refine blk_drewN ?_ _ | refine blk_drew ?_ | refine blk_alloc ?_ _)); refine blk_far ?_ NB438_454.out _; (with_reducible repeat (first | refine blk_drewN ?_ _ | refine blk_drew ?_ | refine blk_alloc ?_ _)); refine blk_far ?_ NB438_454.out _; (with_reducible repeat (first | refine blk_drewN ?_ _ | refine blk_drew ?_ | refine blk_alloc ?_ _)); exact BK438.out⟩, ⟨by (with_reducible repeat (first | refine blk_drewN ?_ _ | refine blk_drew ?_ | refine blk_alloc ?_ _)); refine blk_put (cs := #[.int .i64 t449, .int .i64 t450, .int .i64 0]) ?_ 2 _ rfl; (with_reducible repeat (first | refine blk_drewN ?_ _ | refine blk_drew ?_ | refine blk_alloc ?_ _)); refine blk_put (cs := #[.int .i64 t449, .int .i64 0, .int .i64 0]) ?_ 1 _ rfl; (with_reducible repeat (first | refine blk_drewN ?_ _ | refine blk_drew ?_ | refine blk_alloc ?_ _)); refine blk_put (cs := #[.int .i64 0, .int .i64 0, .int .i64 0]) ?_ 0 _ rfl; (with_reducible repeat (first | refine blk_drewN ?_ _ | refine blk_drew ?_ | refine blk_alloc ?_ _)); exact BK454.out⟩, ⟨by repeat (first | (with_reducible first | exact HB.out | apply below_alloc | apply pw_below_drewN | apply below_drew1 | refine below_set ?_ GE437.out | refine below_set ?_ GE438.out | refine below_set ?_ GE454.out) | exact HB.out)⟩⟩
             ·rw [if_neg c100] at H
              have c100b0 : (x439000_2 == 3) = false := beq_eq_false_iff_ne.mpr c100
              have c100b1 : (x439000_2 != 3) = true := bne_iff_ne.mpr c100
              have H' := Aside0.mk H
              clear H
              have hnb106 := NB454_437.out
              have hnc106 := NB437_454.out
              have hnb107 := NB454_438.out
              have hnc107 := NB438_454.out
              have hcz108_0 : w75.cell? ⟨gb454, 0, none⟩ = some (.int .i64 0) := (blk_cell BK454.out 0).trans rfl
              have hcz108_1 : w75.cell? ⟨gb454, 1, none⟩ = some (.int .i64 0) := (blk_cell BK454.out 1).trans rfl
              have hcz108_2 : w75.cell? ⟨gb454, 2, none⟩ = some (.int .i64 0) := (blk_cell BK454.out 2).trans rfl
              have hfz108_0 := blk_frozen BK454.out 0
              have hfz108_1 := blk_frozen BK454.out 1
              have hfz108_2 := blk_frozen BK454.out 2
              have hnb109 := NB438_437.out
              have hnc109 := NB437_438.out
              have hcz110_0 : w75.cell? ⟨gb438, 0, none⟩ = some (.int .i64 x439000_2) := (blk_cell BK438.out 0).trans rfl
              have hcz110_1 : w75.cell? ⟨gb438, 1, none⟩ = some (.int .i64 x439001_2) := (blk_cell BK438.out 1).trans rfl
              have hcz110_2 : w75.cell? ⟨gb438, 2, none⟩ = some (.int .i64 x439002_2) := (blk_cell BK438.out 2).trans rfl
              have hfz110_0 := blk_frozen BK438.out 0
              have hfz110_1 := blk_frozen BK438.out 1
              have hfz110_2 := blk_frozen BK438.out 2
              go_wp2
              go_meet
              case rel => exact ⟨_, ((x439000_2 != 0)), (by first | rfl | (simp; done) | (simp [*]; done)), H', ⟨by have := HJ4.out; have := HK2.out; first | omega | exact Nat.le_refl _⟩, ⟨by (with_reducible repeat (first | refine blk_drewN ?_ _ | refine blk_drew ?_ | refine blk_alloc ?_ _)); refine blk_far ?_ NB437_454.out _; (with_reducible repeat (first | refine blk_drewN ?_ _ | refine blk_drew ?_ | refine blk_alloc ?_ _)); refine blk_far ?_ NB437_454.out _; (with_reducible repeat (first | refine blk_drewN ?_ _ | refine blk_drew ?_ | refine blk_alloc ?_ _)); refine blk_far ?_ NB437_454.out _; (with_reducible repeat (first | refine blk_drewN ?_ _ | refine blk_drew ?_ | refine blk_alloc ?_ _)); exact BK437.out⟩, ⟨by (with_reducible repeat (first | refine blk_drewN ?_ _ | refine blk_drew ?_ | refine blk_alloc ?_ _)); refine blk_far ?_ NB438_454.out _; (with_reducible repeat (first | refine blk_drewN ?_ _ | refine blk_drew ?_ | refine blk_alloc ?_ _)); refine blk_far ?_ NB438_454.out _; (with_reducible repeat (first | refine blk_drewN ?_ _ | refine blk_drew ?_ | refine blk_alloc ?_ _)); refine blk_far ?_ NB438_454.out _; (with_reducible repeat (first | refine blk_drewN ?_ _ | refine blk_drew ?_ | refine blk_alloc ?_ _)); exact BK438.out⟩, ⟨by (with_reducible repeat (first | refine blk_drewN ?_ _ | refine blk_drew ?_ | refine blk_alloc ?_ _)); refine blk_put (cs := #[.int .i64 t449, .int .i64 t450, .int .i64 0]) ?_ 2 _ rfl; (with_reducible repeat (first | refine blk_drewN ?_ _ | refine blk_drew ?_ | refine blk_alloc ?_ _)); refine blk_put (cs := #[.int .i64 t449, .int .i64 0, .int .i64 0]) ?_ 1 _ rfl; (with_reducible repeat (first | refine blk_drewN ?_ _ | refine blk_drew ?_ | refine blk_alloc ?_ _)); refine blk_put (cs := #[.int .i64 0, .int .i64 0, .int .i64 0]) ?_ 0 _ rfl; (with_reducible repeat (first | refine blk_drewN ?_ _ | refine blk_drew ?_ | refine blk_alloc ?_ _)); exact BK454.out⟩, ⟨by repeat (first | (with_reducible first | exact HB.out | apply below_alloc | apply pw_below_drewN | apply below_drew1 | refine below_set ?_ GE437.out | refine below_set ?_ GE438.out | refine below_set ?_ GE454.out) | exact HB.out)⟩⟩
            ·rw [if_neg c99] at H
             have c99b0 : (t449 == 0) = false := beq_eq_false_iff_ne.mpr c99
             have c99b1 : (t449 != 0) = true := bne_iff_ne.mpr c99
             have H' := Aside0.mk H
             clear H
             have hnb111 := NB454_437.out
             have hnc111 := NB437_454.out
             have hnb112 := NB454_438.out
             have hnc112 := NB438_454.out
             have hcz113_0 : w75.cell? ⟨gb454, 0, none⟩ = some (.int .i64 0) := (blk_cell BK454.out 0).trans rfl
             have hcz113_1 : w75.cell? ⟨gb454, 1, none⟩ = some (.int .i64 0) := (blk_cell BK454.out 1).trans rfl
             have hcz113_2 : w75.cell? ⟨gb454, 2, none⟩ = some (.int .i64 0) := (blk_cell BK454.out 2).trans rfl
             have hfz113_0 := blk_frozen BK454.out 0
             have hfz113_1 := blk_frozen BK454.out 1
             have hfz113_2 := blk_frozen BK454.out 2
             go_wp2
             go_meet
             case rel => exact ⟨_, (false), (by first | rfl | (simp; done) | (simp [*]; done)), H', ⟨by have := HJ4.out; have := HK2.out; first | omega | exact Nat.le_refl _⟩, ⟨by (with_reducible repeat (first | refine blk_drewN ?_ _ | refine blk_drew ?_ | refine blk_alloc ?_ _)); refine blk_far ?_ NB437_454.out _; (with_reducible repeat (first | refine blk_drewN ?_ _ | refine blk_drew ?_ | refine blk_alloc ?_ _)); refine blk_far ?_ NB437_454.out _; (with_reducible repeat (first | refine blk_drewN ?_ _ | refine blk_drew ?_ | refine blk_alloc ?_ _)); refine blk_far ?_ NB437_454.out _; (with_reducible repeat (first | refine blk_drewN ?_ _ | refine blk_drew ?_ | refine blk_alloc ?_ _)); exact BK437.out⟩, ⟨by (with_reducible repeat (first | refine blk_drewN ?_ _ | refine blk_drew ?_ | refine blk_alloc ?_ _)); refine blk_far ?_ NB438_454.out _; (with_reducible repeat (first | refine blk_drewN ?_ _ | refine blk_drew ?_ | refine blk_alloc ?_ _)); refine blk_far ?_ NB438_454.out _; (with_reducible repeat (first | refine blk_drewN ?_ _ | refine blk_drew ?_ | refine blk_alloc ?_ _)); refine blk_far ?_ NB438_454.out _; (with_reducible repeat (first | refine blk_drewN ?_ _ | refine blk_drew ?_ | refine blk_alloc ?_ _)); exact BK438.out⟩, ⟨by (with_reducible repeat (first | refine blk_drewN ?_ _ | refine blk_drew ?_ | refine blk_alloc ?_ _)); refine blk_put (cs := #[.int .i64 t449, .int .i64 t450, .int .i64 0]) ?_ 2 _ rfl; (with_reducible repeat (first | refine blk_drewN ?_ _ | refine blk_drew ?_ | refine blk_alloc ?_ _)); refine blk_put (cs := #[.int .i64 t449, .int .i64 0, .int .i64 0]) ?_ 1 _ rfl; (with_reducible repeat (first | refine blk_drewN ?_ _ | refine blk_drew ?_ | refine blk_alloc ?_ _)); refine blk_put (cs := #[.int .i64 0, .int .i64 0, .int .i64 0]) ?_ 0 _ rfl; (with_reducible repeat (first | refine blk_drewN ?_ _ | refine blk_drew ?_ | refine blk_alloc ?_ _)); exact BK454.out⟩, ⟨by repeat (first | (with_reducible first | exact HB.out | apply below_alloc | apply pw_below_drewN | apply below_drew1 | refine below_set ?_ GE437.out | refine below_set ?_ GE438.out | refine below_set ?_ GE454.out) | exact HB.out)⟩⟩
          ·rw [if_neg c79] at H
           exact absurd H (by simp)
         case rest =>
          clear HC71
          try clear c1
          try clear c2
          try clear p2
          try clear c6
          try clear c7
          try clear c8
          try clear c9
          try clear c10
          try clear c11
          try clear c18
          try clear c18b0
          try clear c19
          try clear c22
          try clear c64
          try clear c65
          try clear c66
          try clear c68
          try clear c79
          try clear c79b0
          try clear c79b1
          try clear c80
          try clear c81
          try clear c81b0
          try clear c81b1
          try clear c82
          try clear c82b0
          try clear c82b1
          try clear c83
          try clear c83b0
          try clear c83b1
          try clear c84
          try clear c85
          try clear c87
          try clear c89
          try clear c90
          try clear c92
          try clear c94
          try clear c95
          try clear c97
          try clear c99
          try clear c99b0
          try clear c99b1
          try clear c100
          try clear c100b0
          try clear c100b1
          try clear c101
          try clear c102
          try clear c104
          try clear c106
          try clear c107
          try clear c109
          try clear c111
          try clear c112
          try clear hcz103_0
          try clear hcz103_1
          try clear hcz103_2
          try clear hcz105_0
          try clear hcz105_1
          try clear hcz105_2
          try clear hcz108_0
          try clear hcz108_1
          try clear hcz108_2
          try clear hcz110_0
          try clear hcz110_1
          try clear hcz110_2
          try clear hcz113_0
          try clear hcz113_1
          try clear hcz113_2
          try clear hcz67_0
          try clear hcz67_1
          try clear hcz67_2
          try clear hcz69_0
          try clear hcz69_1
          try clear hcz69_2
          try clear hcz86_0
          try clear hcz86_1
          try clear hcz86_2
          try clear hcz88_0
          try clear hcz88_1
          try clear hcz88_2
          try clear hcz91_0
          try clear hcz91_1
          try clear hcz91_2
          try clear hcz93_0
          try clear hcz93_1
          try clear hcz93_2
          try clear hcz96_0
          try clear hcz96_1
          try clear hcz96_2
          try clear hcz98_0
          try clear hcz98_1
          try clear hcz98_2
          try clear hfz103_0
          try clear hfz103_1
          try clear hfz103_2
          try clear hfz105_0
          try clear hfz105_1
          try clear hfz105_2
          try clear hfz108_0
          try clear hfz108_1
          try clear hfz108_2
          try clear hfz110_0
          try clear hfz110_1
          try clear hfz110_2
          try clear hfz113_0
          try clear hfz113_1
          try clear hfz113_2
          try clear hfz67_0
          try clear hfz67_1
          try clear hfz67_2
          try clear hfz69_0
          try clear hfz69_1
          try clear hfz69_2
          try clear hfz86_0
          try clear hfz86_1
          try clear hfz86_2
          try clear hfz88_0
          try clear hfz88_1
          try clear hfz88_2
          try clear hfz91_0
          try clear hfz91_1
          try clear hfz91_2
          try clear hfz93_0
          try clear hfz93_1
          try clear hfz93_2
          try clear hfz96_0
          try clear hfz96_1
          try clear hfz96_2
          try clear hfz98_0
          try clear hfz98_1
          try clear hfz98_2
          obtain ⟨kq, x73_70, rfl, HA, HJ70, BK437, BK438, BK454, HB⟩ := hcut
          cases kq with
          | zero => exact absurd HA.out (by simp [newellaw17_DoorEnds.j3])
          | succ kj70 =>
           have H := HA.out
           clear HA
           simp only [newellaw17_DoorEnds.j3] at H
           by_cases c114 : x73_70 = true
           ·subst c114
            have H1 : (none) = some r := by rw [if_pos rfl] at H; exact H
            clear H
            have H := H1
            clear H1
            exact absurd H (by simp)
           ·replace c114 := Bool.eq_false_iff.mpr c114
            subst c114
            have H1 : (newellaw17_DoorEnds.j4 kj70 l2 t439 x9_2 a0_0 a0_1 a0_2 a0_3 a0_4 a0_5 a0_6 a0_7 a0_8 a0_9 t449 t450 t451) = some r := by rw [if_neg (show ¬ (false = true) by decide)] at H; exact H
            clear H
            have H := H1
            clear H1
            have H' := Aside0.mk H
            clear H
            have hnb115 := NB454_437.out
            have hnc115 := NB437_454.out
            have hnb116 := NB454_438.out
            have hnc116 := NB438_454.out
            have hcz117_0 : wc.cell? ⟨gb454, 0, none⟩ = some (.int .i64 t449) := (blk_cell BK454.out 0).trans rfl
            have hcz117_1 : wc.cell? ⟨gb454, 1, none⟩ = some (.int .i64 t450) := (blk_cell BK454.out 1).trans rfl
            have hcz117_2 : wc.cell? ⟨gb454, 2, none⟩ = some (.int .i64 t451) := (blk_cell BK454.out 2).trans rfl
            have hfz117_0 := blk_frozen BK454.out 0
            have hfz117_1 := blk_frozen BK454.out 1
            have hfz117_2 := blk_frozen BK454.out 2
            have hnb118 := NB438_437.out
            have hnc118 := NB437_438.out
            have hcz119_0 : wc.cell? ⟨gb438, 0, none⟩ = some (.int .i64 x439000_2) := (blk_cell BK438.out 0).trans rfl
            have hcz119_1 : wc.cell? ⟨gb438, 1, none⟩ = some (.int .i64 x439001_2) := (blk_cell BK438.out 1).trans rfl
            have hcz119_2 : wc.cell? ⟨gb438, 2, none⟩ = some (.int .i64 x439002_2) := (blk_cell BK438.out 2).trans rfl
            have hfz119_0 := blk_frozen BK438.out 0
            have hfz119_1 := blk_frozen BK438.out 1
            have hfz119_2 := blk_frozen BK438.out 2
            go_wp2
            go_meet
            case rel => exact ⟨_, (t449), (t450), (t451), H', ⟨by have := HJ4.out; have := HK2.out; have := HJ70.out; first | omega | exact Nat.le_refl _⟩, ⟨by (with_reducible repeat (first | refine blk_drewN ?_ _ | refine blk_drew ?_ | refine blk_alloc ?_ _)); refine blk_far ?_ NB437_438.out _; (with_reducible repeat (first | refine blk_drewN ?_ _ | refine blk_drew ?_ | refine blk_alloc ?_ _)); refine blk_far ?_ NB437_438.out _; (with_reducible repeat (first | refine blk_drewN ?_ _ | refine blk_drew ?_ | refine blk_alloc ?_ _)); refine blk_far ?_ NB437_438.out _; (with_reducible repeat (first | refine blk_drewN ?_ _ | refine blk_drew ?_ | refine blk_alloc ?_ _)); exact BK437.out⟩, ⟨by (with_reducible repeat (first | refine blk_drewN ?_ _ | refine blk_drew ?_ | refine blk_alloc ?_ _)); refine blk_put (cs := #[.int .i64 t449, .int .i64 t450, .int .i64 x439002_2]) ?_ 2 _ rfl; (with_reducible repeat (first | refine blk_drewN ?_ _ | refine blk_drew ?_ | refine blk_alloc ?_ _)); refine blk_put (cs := #[.int .i64 t449, .int .i64 x439001_2, .int .i64 x439002_2]) ?_ 1 _ rfl; (with_reducible repeat (first | refine blk_drewN ?_ _ | refine blk_drew ?_ | refine blk_alloc ?_ _)); refine blk_put (cs := #[.int .i64 x439000_2, .int .i64 x439001_2, .int .i64 x439002_2]) ?_ 0 _ rfl; (with_reducible repeat (first | refine blk_drewN ?_ _ | refine blk_drew ?_ | refine blk_alloc ?_ _)); exact BK438.out⟩, ⟨by repeat (first | (with_reducible first | exact HB.out | apply below_alloc | apply pw_below_drewN | apply below_drew1 | refine below_set ?_ GE437.out | refine below_set ?_ GE438.out | refine below_set ?_ GE454.out) | exact HB.out)⟩⟩
       case rest =>
        clear HC17
        try clear c1
        try clear c2
        try clear p2
        try clear c6
        try clear c7
        try clear c8
        try clear c9
        try clear c10
        try clear c11
        try clear c18
        try clear c18b0
        try clear c19
        try clear c22
        try clear c64
        try clear c65
        try clear c66
        try clear c68
        try clear c79
        try clear c79b0
        try clear c79b1
        try clear c80
        try clear c81
        try clear c81b0
        try clear c81b1
        try clear c82
        try clear c82b0
        try clear c82b1
        try clear c83
        try clear c83b0
        try clear c83b1
        try clear c84
        try clear c85
        try clear c87
        try clear c89
        try clear c90
        try clear c92
        try clear c94
        try clear c95
        try clear c97
        try clear c99
        try clear c99b0
        try clear c99b1
        try clear c100
        try clear c100b0
        try clear c100b1
        try clear c101
        try clear c102
        try clear c104
        try clear c106
        try clear c107
        try clear c109
        try clear c111
        try clear c112
        try clear c114
        try clear c115
        try clear c116
        try clear c118
        try clear hcz103_0
        try clear hcz103_1
        try clear hcz103_2
        try clear hcz105_0
        try clear hcz105_1
        try clear hcz105_2
        try clear hcz108_0
        try clear hcz108_1
        try clear hcz108_2
        try clear hcz110_0
        try clear hcz110_1
        try clear hcz110_2
        try clear hcz113_0
        try clear hcz113_1
        try clear hcz113_2
        try clear hcz117_0
        try clear hcz117_1
        try clear hcz117_2
        try clear hcz119_0
        try clear hcz119_1
        try clear hcz119_2
        try clear hcz67_0
        try clear hcz67_1
        try clear hcz67_2
        try clear hcz69_0
        try clear hcz69_1
        try clear hcz69_2
        try clear hcz86_0
        try clear hcz86_1
        try clear hcz86_2
        try clear hcz88_0
        try clear hcz88_1
        try clear hcz88_2
        try clear hcz91_0
        try clear hcz91_1
        try clear hcz91_2
        try clear hcz93_0
        try clear hcz93_1
        try clear hcz93_2
        try clear hcz96_0
        try clear hcz96_1
        try clear hcz96_2
        try clear hcz98_0
        try clear hcz98_1
        try clear hcz98_2
        try clear hfz103_0
        try clear hfz103_1
        try clear hfz103_2
        try clear hfz105_0
        try clear hfz105_1
        try clear hfz105_2
        try clear hfz108_0
        try clear hfz108_1
        try clear hfz108_2
        try clear hfz110_0
        try clear hfz110_1
        try clear hfz110_2
        try clear hfz113_0
        try clear hfz113_1
        try clear hfz113_2
        try clear hfz117_0
        try clear hfz117_1
        try clear hfz117_2
        try clear hfz119_0
        try clear hfz119_1
        try clear hfz119_2
        try clear hfz67_0
        try clear hfz67_1
        try clear hfz67_2
        try clear hfz69_0
        try clear hfz69_1
        try clear hfz69_2
        try clear hfz86_0
        try clear hfz86_1
        try clear hfz86_2
        try clear hfz88_0
        try clear hfz88_1
        try clear hfz88_2
        try clear hfz91_0
        try clear hfz91_1
        try clear hfz91_2
        try clear hfz93_0
        try clear hfz93_1
        try clear hfz93_2
        try clear hfz96_0
        try clear hfz96_1
        try clear hfz96_2
        try clear hfz98_0
        try clear hfz98_1
        try clear hfz98_2
        try clear p2
        obtain ⟨kq, x439000_16, x439001_16, x439002_16, HA, HJ16, BK437, BK438, HB⟩ := hcut
        cases kq with
        | zero => exact absurd HA.out (by simp [newellaw17_DoorEnds.j4])
        | succ kj16 =>
         have H := HA.out
         clear HA
         simp only [newellaw17_DoorEnds.j4] at H
         have H' := Aside0.mk H
         clear H
         go_wp2
         go_roundg kj16
         case measure => have := HJ4.out; have := HK2.out; have := HJ16.out; omega
         case rel => exact ⟨(wrap64 (x9_2 + 1)), (x439000_16), (x439001_16), (x439002_16), (by first | rfl | (simp; done) | (simp [*]; done)), H', ⟨by have := HJ4.out; have := HK2.out; have := HJ16.out; omega⟩, ⟨by (with_reducible repeat (first | refine blk_drewN ?_ _ | refine blk_drew ?_ | refine blk_alloc ?_ _)); exact BK437.out⟩, ⟨by (with_reducible repeat (first | refine blk_drewN ?_ _ | refine blk_drew ?_ | refine blk_alloc ?_ _)); exact BK438.out⟩, ⟨by repeat (first | (with_reducible first | exact HB.out | apply below_alloc | apply pw_below_drewN | apply below_drew1 | refine below_set ?_ GE437.out | refine below_set ?_ GE438.out) | exact HB.out)⟩⟩
      ·rw [if_neg c16] at H
       have c16b0 : decide (x9_2 < t439) = false := decide_eq_false c16
       clear c16
       replace H := Option.bind_eq_some_iff.mp H
       obtain ⟨t455, A1200, H⟩ := H
       replace H : (if t455 = true then (some (x439000_2 == 0 && (x439001_2 == 0 && (x439002_2 == 0)))) else (none)) = some r := H
       have A120 := Aside0.mk A1200
       clear A1200
       by_cases c121 : t455 = true
       ·subst c121
        have H1 : (some (x439000_2 == 0 && (x439001_2 == 0 && (x439002_2 == 0)))) = some r := by rw [if_pos rfl] at H; exact H
        clear H
        have H := H1
        clear H1
        obtain rfl := Option.some.inj H
        go_wp2_with (first | ((with_reducible refine gate_callee (f := 26) rfl ?_); refine goesL_ (some 75) rfl rfl Try.func26 (by kernel_rfl) rfl #[] rfl (by (try simp only [List.map_toArray, List.map_cons, List.map_nil]); first | done | rfl | (simp only [List.length_drop, List.length_take]; rfl)) ?_; (with_reducible refine (newellaw17_awake.calls k2  true _ A120.out).mono ?_); rintro e w122 ⟨rfl, hb⟩; refine ⟨_, rfl, ?_⟩; have n0_ := Aside0.mk (blk_below (g := gb437) (o := .cells #[.int .i64 a0_0, .int .i64 a0_1, .int .i64 a0_2, .int .i64 a0_3, .int .i64 a0_4, .int .i64 a0_5, .int .i64 a0_6, .int .i64 a0_7, .int .i64 a0_8, .int .i64 a0_9] 42 (0, 0)) (by (with_reducible repeat (first | refine blk_drewN ?_ _ | refine blk_drew ?_ | refine blk_alloc ?_ _)); exact BK437.out) hb); have n1_ := Aside0.mk (blk_below (g := gb438) (o := .cells #[.int .i64 x439000_2, .int .i64 x439001_2, .int .i64 x439002_2] 44 (0, 0)) (by (with_reducible repeat (first | refine blk_drewN ?_ _ | refine blk_drew ?_ | refine blk_alloc ?_ _)); exact BK438.out) hb); have n2_ := Aside0.mk (below_step (by repeat (first | (with_reducible first | exact HB.out | apply below_alloc | apply pw_below_drewN | apply below_drew1 | refine below_set ?_ GE437.out | refine below_set ?_ GE438.out) | exact HB.out)) hb); clear BK437; clear BK438; clear HB; have BK437 := n0_; have BK438 := n1_; have HB := n2_; clear n0_ n1_ n2_; (try clear hb); (try clear hb2); (try clear hk); (try clear hi); have hnb123 := NB438_437.out; have hnc123 := NB437_438.out; have hcz124_0 : w122.cell? ⟨gb438, 0, none⟩ = some (.int .i64 x439000_2) := (blk_cell BK438.out 0).trans rfl; have hcz124_1 : w122.cell? ⟨gb438, 1, none⟩ = some (.int .i64 x439001_2) := (blk_cell BK438.out 1).trans rfl; have hcz124_2 : w122.cell? ⟨gb438, 2, none⟩ = some (.int .i64 x439002_2) := (blk_cell BK438.out 2).trans rfl; have hfz124_0 := blk_frozen BK438.out 0; have hfz124_1 := blk_frozen BK438.out 1; have hfz124_2 := blk_frozen BK438.out 2))
        go_ret
        exact ⟨by first | rfl | (simp [errW_none, errW_some] <;> rfl) | (simp [*, errW_none, errW_some] <;> rfl), by repeat (first | (with_reducible first | exact HB.out | apply below_alloc | apply pw_below_drewN | apply below_drew1 | refine below_set ?_ GE437.out | refine below_set ?_ GE438.out) | exact HB.out)⟩
       ·replace c121 := Bool.eq_false_iff.mpr c121
        subst c121
        have H1 : (none) = some r := by rw [if_neg (show ¬ (false = true) by decide)] at H; exact H
        clear H
        have H := H1
        clear H1
        exact absurd H (by simp)

end Go.Proofs.Ytjfikeahafflfaa.C
