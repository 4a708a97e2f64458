/- Texts of this claim, one behind the other: what the law's functions come to, walked (printed by a program, with the words that the print uses), and what that is, in plain Lean. No conditions of their own. -/
import Derived.Test.YtickbejailcehaaDoorQFlashWrites12
namespace Go.Proofs.YtickbejailcehaaDoor.C
open Go.RowKit Go.Proofs.YtickbejailcehaaDoorW.PrintWords Go.Proofs.YtickbejailcehaaDoorW.PrintLast Go.Proofs.YtickbejailcehaaDoorW.PrintMore
attribute [local go_sem] Xm Xk X0 Xz Xc Xb Xl Xj
set_option linter.unusedVariables false
set_option linter.unusedSimpArgs false
mutual
def newellaw12_FlashWrites.j0:Nat→Int→Bool→List Int→List Int→Int→Int→Int→List Int→Option (Bool)
 |0,_,_,_,_,_,_,_,_=>none
 |k+1,x2,x23,x405000,x405001,x406000,x406001,x406002,x406003=>if x23=true then ((newellaw12_awake.f k).bind fun t407=>(some t407)) else ((newellaw12_Own.f x405000 x405001).bind fun bt408=>((flash_Write.f k bt408.1 bt408.2 x406000 x406001 x406002 x406003 x2).bind fun bt414=>((newelref12_Write.f k x405000 x405001 x406000 x406001 x406002 x406003 x2).bind fun bt423=>((newellaw12_Own.f x405000 x405001).bind fun bt432=>((flash_Recover.f k bt432.1 bt432.2).bind fun bt438=>((newelref12_Recover.f k x405000 x405001).bind fun bt447=>(if bt414.2.2.2=bt423.2.2.2 then (if (bt414.2.2.1 != bt423.2.2.1)=true then (none) else (if ((bt438.2.2.2.2.2==0) != bt447.2.2.2.2.2)=true then (none) else (if (bt438.2.2.2.2.1 != bt447.2.2.2.2.1)=true then (none) else ((newelref12_Same.f k bt438.1 bt438.2.1 bt438.2.2.1 bt438.2.2.2.1 bt447.1 bt447.2.1 bt447.2.2.1 bt447.2.2.2.1).bind fun t456=>(if t456=true then (if bt447.2.2.2.2.2=true then (newellaw12_FlashWrites.j1 k bt414.2.2.2 false bt414.1 bt414.2.1 bt423.1 bt423.2.1 bt423.2.2.1 bt423.2.2.2) else (newellaw12_FlashWrites.j1 k bt414.2.2.2 (bt438.2.2.2.2.2 != 123) bt414.1 bt414.2.1 bt423.1 bt423.2.1 bt423.2.2.1 bt423.2.2.2)) else (none)))))) else (none))))))))
def newellaw12_FlashWrites.j1:Nat→Int→Bool→List Int→List Int→List Int→List Int→Bool→Int→Option (Bool)
 |0,_,_,_,_,_,_,_,_=>none
 |k+1,x9,x85,x423000,x423001,x432000,x432001,x432002,x432003=>if x85=true then (none) else (if x9=0 then ((newellaw12_awake.f k).bind fun t458=>(if t458=true then ((newelref08_Same.f k x423000 x432000).bind fun t459=>(if t459=true then ((newelref08_Same.f k x423001 x432001).bind fun t460=>(newellaw12_FlashWrites.j3 k t460)) else (none))) else (none))) else ((newellaw12_awake.f k).bind fun t457=>(if t457=true then (if (x423000.length:Int)=0 then (newellaw12_FlashWrites.j2 k ((x423001.length:Int)==0)) else (none)) else (none))))
def newellaw12_FlashWrites.j3:Nat→Bool→Option (Bool)
 |0,_=>none
 |k+1,x6=>some x6
def newellaw12_FlashWrites.j2:Nat→Bool→Option (Bool)
 |0,_=>none
 |k+1,x6=>some x6
end
def newellaw12_FlashWrites.f (k:Nat) (l0_0:List Int) (l0_1:List Int) (a1_0:Int) (a1_1:Int) (a1_2:Int) (l1_3:List Int) (a2:Int):Option (Bool):=(newelref12_Few.f l0_0 l0_1).bind fun t406=>(if t406=true then (newellaw12_FlashWrites.j0 k a2 (decide ((l1_3.length:Int)>5000)) l0_0 l0_1 a1_0 a1_1 a1_2 l1_3) else (newellaw12_FlashWrites.j0 k a2 true l0_0 l0_1 a1_0 a1_1 a1_2 l1_3))
theorem newellaw12_FlashWrites.Zl:∀ k,(∀ y0 y1 y2 y3 y4 y5 y6 y7,LeO (newellaw12_FlashWrites.j0 k y0 y1 y2 y3 y4 y5 y6 y7) (newellaw12_FlashWrites.j0 (k+1) y0 y1 y2 y3 y4 y5 y6 y7))∧(∀ y0 y1 y2 y3 y4 y5 y6 y7,LeO (newellaw12_FlashWrites.j1 k y0 y1 y2 y3 y4 y5 y6 y7) (newellaw12_FlashWrites.j1 (k+1) y0 y1 y2 y3 y4 y5 y6 y7))∧(∀ y0,LeO (newellaw12_FlashWrites.j3 k y0) (newellaw12_FlashWrites.j3 (k+1) y0))∧(∀ y0,LeO (newellaw12_FlashWrites.j2 k y0) (newellaw12_FlashWrites.j2 (k+1) y0))
 |0=>⟨fun _ _ _ _ _ _ _ _ r h=>by simp[newellaw12_FlashWrites.j0] at h,fun _ _ _ _ _ _ _ _ r h=>by simp[newellaw12_FlashWrites.j1] at h,fun _ r h=>by simp[newellaw12_FlashWrites.j3] at h,fun _ r h=>by simp[newellaw12_FlashWrites.j2] at h⟩
 |k+1=>by
  obtain⟨ih0,ih1,ih2,ih3⟩:=newellaw12_FlashWrites.Zl k
  refine⟨?_, ?_, ?_, ?_⟩
  ·intro y0 y1 y2 y3 y4 y5 y6 y7
   unfold newellaw12_FlashWrites.j0
   repeat' first
   |(with_reducible exact ih0 _ _ _ _ _ _ _ _)
   |(with_reducible exact ih1 _ _ _ _ _ _ _ _)
   |(with_reducible exact ih2 _)
   |(with_reducible exact ih3 _)
   |(with_reducible exact flash_Recover.mono _ _ _)
   |(with_reducible exact flash_Write.mono _ _ _ _ _ _ _ _)
   |(with_reducible exact newellaw12_awake.mono _)
   |(with_reducible exact newelref08_Same.mono _ _ _)
   |(with_reducible exact newelref12_Recover.mono _ _ _)
   |(with_reducible exact newelref12_Same.mono _ _ _ _ _ _ _ _ _)
   |(with_reducible exact newelref12_Write.mono _ _ _ _ _ _ _ _)
   |(with_reducible exact LeO.refl _)
   |(with_reducible exact LeO.none _)
   |(with_reducible refine LeO.ite ?_ ?_)
   |(with_reducible refine LeO.bind ?_ (fun _=>?_))
   |exact ih0 _ _ _ _ _ _ _ _
   |exact ih1 _ _ _ _ _ _ _ _
   |exact ih2 _
   |exact ih3 _
   |exact flash_Recover.mono _ _ _
   |exact flash_Write.mono _ _ _ _ _ _ _ _
   |exact newellaw12_awake.mono _
   |exact newelref08_Same.mono _ _ _
   |exact newelref12_Recover.mono _ _ _
   |exact newelref12_Same.mono _ _ _ _ _ _ _ _ _
   |exact newelref12_Write.mono _ _ _ _ _ _ _ _
   |exact LeO.none _
   |refine LeO.ite ?_ ?_
   |refine LeO.bind ?_ (fun _=>?_)
  ·intro y0 y1 y2 y3 y4 y5 y6 y7
   unfold newellaw12_FlashWrites.j1
   repeat' first
   |(with_reducible exact ih0 _ _ _ _ _ _ _ _)
   |(with_reducible exact ih1 _ _ _ _ _ _ _ _)
   |(with_reducible exact ih2 _)
   |(with_reducible exact ih3 _)
   |(with_reducible exact flash_Recover.mono _ _ _)
   |(with_reducible exact flash_Write.mono _ _ _ _ _ _ _ _)
   |(with_reducible exact newellaw12_awake.mono _)
   |(with_reducible exact newelref08_Same.mono _ _ _)
   |(with_reducible exact newelref12_Recover.mono _ _ _)
   |(with_reducible exact newelref12_Same.mono _ _ _ _ _ _ _ _ _)
   |(with_reducible exact newelref12_Write.mono _ _ _ _ _ _ _ _)
   |(with_reducible exact LeO.refl _)
   |(with_reducible exact LeO.none _)
   |(with_reducible refine LeO.ite ?_ ?_)
   |(with_reducible refine LeO.bind ?_ (fun _=>?_))
   |exact ih0 _ _ _ _ _ _ _ _
   |exact ih1 _ _ _ _ _ _ _ _
   |exact ih2 _
   |exact ih3 _
   |exact flash_Recover.mono _ _ _
   |exact flash_Write.mono _ _ _ _ _ _ _ _
   |exact newellaw12_awake.mono _
   |exact newelref08_Same.mono _ _ _
   |exact newelref12_Recover.mono _ _ _
   |exact newelref12_Same.mono _ _ _ _ _ _ _ _ _
   |exact newelref12_Write.mono _ _ _ _ _ _ _ _
   |exact LeO.none _
   |refine LeO.ite ?_ ?_
   |refine LeO.bind ?_ (fun _=>?_)
  ·intro y0
   unfold newellaw12_FlashWrites.j3
   repeat' first
   |(with_reducible exact ih0 _ _ _ _ _ _ _ _)
   |(with_reducible exact ih1 _ _ _ _ _ _ _ _)
   |(with_reducible exact ih2 _)
   |(with_reducible exact ih3 _)
   |(with_reducible exact flash_Recover.mono _ _ _)
   |(with_reducible exact flash_Write.mono _ _ _ _ _ _ _ _)
   |(with_reducible exact newellaw12_awake.mono _)
   |(with_reducible exact newelref08_Same.mono _ _ _)
   |(with_reducible exact newelref12_Recover.mono _ _ _)
   |(with_reducible exact newelref12_Same.mono _ _ _ _ _ _ _ _ _)
   |(with_reducible exact newelref12_Write.mono _ _ _ _ _ _ _ _)
   |(with_reducible exact LeO.refl _)
   |(with_reducible exact LeO.none _)
   |(with_reducible refine LeO.ite ?_ ?_)
   |(with_reducible refine LeO.bind ?_ (fun _=>?_))
   |exact ih0 _ _ _ _ _ _ _ _
   |exact ih1 _ _ _ _ _ _ _ _
   |exact ih2 _
   |exact ih3 _
   |exact flash_Recover.mono _ _ _
   |exact flash_Write.mono _ _ _ _ _ _ _ _
   |exact newellaw12_awake.mono _
   |exact newelref08_Same.mono _ _ _
   |exact newelref12_Recover.mono _ _ _
   |exact newelref12_Same.mono _ _ _ _ _ _ _ _ _
   |exact newelref12_Write.mono _ _ _ _ _ _ _ _
   |exact LeO.none _
   |refine LeO.ite ?_ ?_
   |refine LeO.bind ?_ (fun _=>?_)
  ·intro y0
   unfold newellaw12_FlashWrites.j2
   repeat' first
   |(with_reducible exact ih0 _ _ _ _ _ _ _ _)
   |(with_reducible exact ih1 _ _ _ _ _ _ _ _)
   |(with_reducible exact ih2 _)
   |(with_reducible exact ih3 _)
   |(with_reducible exact flash_Recover.mono _ _ _)
   |(with_reducible exact flash_Write.mono _ _ _ _ _ _ _ _)
   |(with_reducible exact newellaw12_awake.mono _)
   |(with_reducible exact newelref08_Same.mono _ _ _)
   |(with_reducible exact newelref12_Recover.mono _ _ _)
   |(with_reducible exact newelref12_Same.mono _ _ _ _ _ _ _ _ _)
   |(with_reducible exact newelref12_Write.mono _ _ _ _ _ _ _ _)
   |(with_reducible exact LeO.refl _)
   |(with_reducible exact LeO.none _)
   |(with_reducible refine LeO.ite ?_ ?_)
   |(with_reducible refine LeO.bind ?_ (fun _=>?_))
   |exact ih0 _ _ _ _ _ _ _ _
   |exact ih1 _ _ _ _ _ _ _ _
   |exact ih2 _
   |exact ih3 _
   |exact flash_Recover.mono _ _ _
   |exact flash_Write.mono _ _ _ _ _ _ _ _
   |exact newellaw12_awake.mono _
   |exact newelref08_Same.mono _ _ _
   |exact newelref12_Recover.mono _ _ _
   |exact newelref12_Same.mono _ _ _ _ _ _ _ _ _
   |exact newelref12_Write.mono _ _ _ _ _ _ _ _
   |exact LeO.none _
   |refine LeO.ite ?_ ?_
   |refine LeO.bind ?_ (fun _=>?_)
theorem newellaw12_FlashWrites.mono:∀ a0 a1 a2 a3 a4 a5 a6 k,LeO (newellaw12_FlashWrites.f k a0 a1 a2 a3 a4 a5 a6) (newellaw12_FlashWrites.f (k+1) a0 a1 a2 a3 a4 a5 a6):=by
 intro a0 a1 a2 a3 a4 a5 a6 k
 obtain⟨ih0,ih1,ih2,ih3⟩:=newellaw12_FlashWrites.Zl k
 unfold newellaw12_FlashWrites.f
 repeat' first
   |(with_reducible exact ih0 _ _ _ _ _ _ _ _)
   |(with_reducible exact ih1 _ _ _ _ _ _ _ _)
   |(with_reducible exact ih2 _)
   |(with_reducible exact ih3 _)
   |(with_reducible exact flash_Recover.mono _ _ _)
   |(with_reducible exact flash_Write.mono _ _ _ _ _ _ _ _)
   |(with_reducible exact newellaw12_awake.mono _)
   |(with_reducible exact newelref08_Same.mono _ _ _)
   |(with_reducible exact newelref12_Recover.mono _ _ _)
   |(with_reducible exact newelref12_Same.mono _ _ _ _ _ _ _ _ _)
   |(with_reducible exact newelref12_Write.mono _ _ _ _ _ _ _ _)
   |(with_reducible exact LeO.refl _)
   |(with_reducible exact LeO.none _)
   |(with_reducible refine LeO.ite ?_ ?_)
   |(with_reducible refine LeO.bind ?_ (fun _=>?_))
   |exact ih0 _ _ _ _ _ _ _ _
   |exact ih1 _ _ _ _ _ _ _ _
   |exact ih2 _
   |exact ih3 _
   |exact flash_Recover.mono _ _ _
   |exact flash_Write.mono _ _ _ _ _ _ _ _
   |exact newellaw12_awake.mono _
   |exact newelref08_Same.mono _ _ _
   |exact newelref12_Recover.mono _ _ _
   |exact newelref12_Same.mono _ _ _ _ _ _ _ _ _
   |exact newelref12_Write.mono _ _ _ _ _ _ _ _
   |exact LeO.none _
   |refine LeO.ite ?_ ?_
   |refine LeO.bind ?_ (fun _=>?_)
def newellaw12_FlashWrites.T3:Bool×List (List Nat×List Nat):=(true,[([],[]),([0],[0]),([],[]),([],[]),([1,2,3,1],[1,2,3]),([4],[4]),([5],[5]),([5],[5]),([5],[5]),([],[]),([9,6,4,0,1,2,3,4,5,6,9],[6,9]),([7,10,0,1,2,3,4,5,6,7,9,10],[7]),([8,11,0,1,2,3,4,5,6,7,8,9,10,11],[8])])
def newellaw12_FlashWrites.B3:List Nat:=[0,1,0,0,15,31,63,63,63,0,639,1791,4095]
theorem newellaw12_FlashWrites.tab3:rtab .any (opsOf Tryd.f3 3)=newellaw12_FlashWrites.T3:=by kernel_rfl
theorem newellaw12_FlashWrites.bits3:Yb newellaw12_FlashWrites.T3.2 newellaw12_FlashWrites.B3=true:=by kernel_rfl
set_option maxHeartbeats 8000000 in
set_option maxRecDepth 100000 in
theorem newellaw12_FlashWrites.calls (k:Nat) (A0_0:Option Addr) (c0_0:Nat) (l0_0:List Int) (A0_1:Option Addr) (c0_1:Nat) (l0_1:List Int) (a1_0:Int) (a1_1:Int) (a1_2:Int) (A1_3:Option Addr) (c1_3:Nat) (l1_3:List Int) (a2:Int) (r:Bool) (w:World) (hr0_0:Kd.C (Kd.int .u8) w A0_0 l0_0.length l0_0) (hc0_0:l0_0.length≤c0_0) (hr0_1:Kd.C (Kd.int .u8) w A0_1 l0_1.length l0_1) (hc0_1:l0_1.length≤c0_1) (hr1_3:Kd.C (Kd.int .u8) w A1_3 l1_3.length l1_3) (hc1_3:l1_3.length≤c1_3) (h:newellaw12_FlashWrites.f k l0_0 l0_1 a1_0 a1_1 a1_2 l1_3 a2=some r) (ht_:Laid.TabAt w):
  Calls Tryd.prog 3 #[.agg #[.slice A0_0 l0_0.length c0_0,.slice A0_1 l0_1.length c0_1],.agg #[.int .i64 a1_0,.int .i64 a1_1,.int .i64 a1_2,.slice A1_3 l1_3.length c1_3],.int .i64 a2] w fun e w'=>e = .returned (.bool r)∧Below w.heap.size w w':=by
 have HTAB:=Aside0.mk ht_
 clear ht_
 have hu24:=Tryd.underlying24
 have hu26:=Tryd.underlying26
 have hu34:=Tryd.underlying34
 have hu39:=Tryd.underlying39
 have HR0_0:=Aside0.mk hr0_0
 have HC0_0:=Aside0.mk hc0_0
 clear hr0_0 hc0_0
 have HR0_1:=Aside0.mk hr0_1
 have HC0_1:=Aside0.mk hc0_1
 clear hr0_1 hc0_1
 have HR1_3:=Aside0.mk hr1_3
 have HC1_3:=Aside0.mk hc1_3
 clear hr1_3 hc1_3
 have HB:=Aside0.mk (Below.refl w.heap.size w)
 have H:((newelref12_Few.f l0_0 l0_1).bind fun t406=>(if t406=true then (newellaw12_FlashWrites.j0 k a2 (decide ((l1_3.length:Int)>5000)) l0_0 l0_1 a1_0 a1_1 a1_2 l1_3) else (newellaw12_FlashWrites.j0 k a2 true l0_0 l0_1 a1_0 a1_1 a1_2 l1_3)))=some r:=h
 clear h
 have HC4:=Aside0.mk H
 clear H
 go_enter Tryd.func3,Tryd.ntmps3
 go_upto_region 1 with(first|((with_reducible refine Qz (N:=3) rfl ?_);(try(refine Zw (by rfl) ?_;dsimp only));refine qE 3 #[.slice A0_0 l0_0.length c0_0,.slice A0_1 l0_1.length c0_1] 24 ?_;intro gb404 hg w5 hbox hb;have BK404:=Aside0.mk hbox;have GW404:=sGe hg;have GE404:=sGe hg;replace HB:=sHb hb;clear hb hbox hg)|((with_reducible refine Qz (N:=4) rfl ?_);(try(refine Zw (by rfl) ?_;dsimp only));refine qE 4 #[.int .i64 a1_0,.int .i64 a1_1,.int .i64 a1_2,.slice A1_3 l1_3.length c1_3] 26 ?_;intro gb405 hg w6 hbox hb;have BK405:=Aside0.mk hbox;have GW405:=sGe hg;have GE405:=sGe hg;have NB404_405:=sNl BK404 hg;have NB405_404:=sNg BK404 hg;replace BK404:=sBk BK404 hb;replace HB:=sHb hb;clear hb hbox hg))
 (try simp only[Act.put,qS])
 go_cut [23] (fun v23 wc=>∃ (kq:Nat) (x23_3:Bool),v23 = .bool x23_3∧Aside0 (newellaw12_FlashWrites.j0 kq a2 x23_3 l0_0 l0_1 a1_0 a1_1 a1_2 l1_3=some r)∧Aside0 (kq≤k)∧Aside0 (wc.heap[gb404]?=some (.cells #[(.slice A0_0 l0_0.length c0_0),(.slice A0_1 l0_1.length c0_1)] 24 (0,0)))∧Aside0 (wc.heap[gb405]?=some (.cells #[.int .i64 a1_0,.int .i64 a1_1,.int .i64 a1_2,(.slice A1_3 l1_3.length c1_3)] 26 (0,0)))∧Aside0 (Below w.heap.size w wc))
 case first=>
  have H:=HC4.out
  clear HC4
  replace H:=Option.bind_eq_some_iff.mp H
  obtain⟨t406,A70,H⟩:=H
  replace H:(if t406=true then (newellaw12_FlashWrites.j0 k a2 (decide ((l1_3.length:Int)>5000)) l0_0 l0_1 a1_0 a1_1 a1_2 l1_3) else (newellaw12_FlashWrites.j0 k a2 true l0_0 l0_1 a1_0 a1_1 a1_2 l1_3))=some r:=H
  have A7:=Aside0.mk A70
  clear A70
  by_cases c8:t406=true
  ·subst c8
   have H1:(newellaw12_FlashWrites.j0 k a2 (decide ((l1_3.length:Int)>5000)) l0_0 l0_1 a1_0 a1_1 a1_2 l1_3)=some r:=by rw[if_pos rfl] at H;exact H
   clear H
   have H:=H1
   clear H1
   have H':=Aside0.mk H
   clear H
   have hnb9:=NB404_405.out
   have hnc9:=NB405_404.out
   obtain⟨hcz10_0,hcz10_1,hfz10_0,hfz10_1⟩:=qD2 BK404.out
   go_wp2_with (first|((with_reducible refine Qv (f:=9) rfl ?_);refine Ze (some 16) rfl rfl Tryd.func9 kr rfl #[.agg #[.slice A0_0 l0_0.length c0_0,.slice A0_1 l0_1.length c0_1]] rfl qM ?_;(with_reducible refine(newelref12_Few.calls _ _ l0_0 _ _ l0_1 true _ ?side1 ?side2 ?side3 ?side4 A7.out).mono ?_);(case side1=>exact(Kd.Zb HR0_0.out HB.out));(case side2=>exact HC0_0.out);(case side3=>exact(Kd.Zb HR0_1.out HB.out));(case side4=>exact HC0_1.out);rintro e w11 ⟨rfl,hb⟩;refine⟨_,rfl, ?_⟩;replace BK404:=sBk BK404 hb;replace BK405:=sBk BK405 hb;replace HB:=sHb hb;(try clear hb);(try clear hb2);(try clear hk);(try clear hi);obtain⟨hcz12_0,hcz12_1,hcz12_2,hcz12_3,hfz12_0,hfz12_1,hfz12_2,hfz12_3⟩:=qD4 BK405.out))
   go_meet
   case rel=>exact⟨_,(decide ((l1_3.length:Int)>5000)),rfl,H',⟨by first|omega|exact Nat.le_refl _⟩,BK404,BK405,HB⟩
  ·replace c8:=Bool.eq_false_iff.mpr c8
   subst c8
   have H1:(newellaw12_FlashWrites.j0 k a2 true l0_0 l0_1 a1_0 a1_1 a1_2 l1_3)=some r:=by rw[if_neg (show ¬ (false=true) by decide)] at H;exact H
   clear H
   have H:=H1
   clear H1
   have H':=Aside0.mk H
   clear H
   have hnb13:=NB404_405.out
   have hnc13:=NB405_404.out
   obtain⟨hcz14_0,hcz14_1,hfz14_0,hfz14_1⟩:=qD2 BK404.out
   go_wp2_with (first|((with_reducible refine Qv (f:=9) rfl ?_);refine Ze (some 16) rfl rfl Tryd.func9 kr rfl #[.agg #[.slice A0_0 l0_0.length c0_0,.slice A0_1 l0_1.length c0_1]] rfl qM ?_;(with_reducible refine(newelref12_Few.calls _ _ l0_0 _ _ l0_1 false _ ?side1 ?side2 ?side3 ?side4 A7.out).mono ?_);(case side1=>exact(Kd.Zb HR0_0.out HB.out));(case side2=>exact HC0_0.out);(case side3=>exact(Kd.Zb HR0_1.out HB.out));(case side4=>exact HC0_1.out);rintro e w15 ⟨rfl,hb⟩;refine⟨_,rfl, ?_⟩;replace BK404:=sBk BK404 hb;replace BK405:=sBk BK405 hb;replace HB:=sHb hb;(try clear hb);(try clear hb2);(try clear hk);(try clear hi)))
   go_meet
   case rel=>exact⟨_,(true),rfl,H',⟨by first|omega|exact Nat.le_refl _⟩,BK404,BK405,HB⟩
 case rest=>
  clear HC4
  try clear c1
  try clear p2
  try clear c3
  try clear c8
  try clear c9
  try clear c13
  try clear hcz10_0
  try clear hcz10_1
  try clear hcz12_0
  try clear hcz12_1
  try clear hcz12_2
  try clear hcz12_3
  try clear hcz14_0
  try clear hcz14_1
  try clear hfz10_0
  try clear hfz10_1
  try clear hfz12_0
  try clear hfz12_1
  try clear hfz12_2
  try clear hfz12_3
  try clear hfz14_0
  try clear hfz14_1
  obtain⟨kq,x23_3,rfl,HA,HJ3,BK404,BK405,HB⟩:=hcut
  cases kq with
  |zero=>exact absurd HA.out (by simp[newellaw12_FlashWrites.j0])
  |succ kj3=>
   have H:=HA.out
   clear HA
   simp only[newellaw12_FlashWrites.j0] at H
   by_cases c16:x23_3=true
   ·subst c16
    have H1:((newellaw12_awake.f kj3).bind fun t407=>(some t407))=some r:=by rw[if_pos rfl] at H;exact H
    clear H
    have H:=H1
    clear H1
    replace H:=Option.bind_eq_some_iff.mp H
    obtain⟨t407,A170,H⟩:=H
    replace H:(some t407)=some r:=H
    have A17:=Aside0.mk A170
    clear A170
    obtain rfl:=Option.some.inj H
    go_wp2_with (first|((with_reducible refine Qv (f:=10) rfl ?_);refine Ze (some 24) rfl rfl Tryd.func10 kr rfl #[] rfl qM ?_;(with_reducible refine(newellaw12_awake.calls kj3  t407 _ A17.out (by first|exact HTAB.out|((repeat(first|exact HTAB.out|(with_reducible refine Laid.Zo ?_ _)|(with_reducible refine Laid.Zn ?_ _)|(with_reducible refine Laid.Zq ?_)));done)|(refine Laid.Zk HTAB.out ?_;(repeat(first|(with_reducible first|exact HB.out|apply Qe|apply Qa|apply Qf)|exact HB.out|(refine Qg ?_ (Aside0.out (by assumption)))))))).mono ?_);rintro e w18 ⟨rfl,hb⟩;refine⟨_,rfl, ?_⟩;replace BK404:=sBk BK404 hb;replace BK405:=sBk BK405 hb;replace HB:=sHb hb;(try clear hb);(try clear hb2);(try clear hk);(try clear hi)))
    go_ret
    exact⟨by first|rfl|(simp[Qo,Qn] <;> rfl)|(simp[*,Qo,Qn] <;> rfl),by repeat(first|(with_reducible first|exact HB.out|apply Qe|apply Qa|apply Qf|refine Qg ?_ GE404.out|refine Qg ?_ GE405.out)|exact HB.out)⟩
   ·replace c16:=Bool.eq_false_iff.mpr c16
    subst c16
    have H1:((newellaw12_Own.f l0_0 l0_1).bind fun bt408=>((flash_Write.f kj3 bt408.1 bt408.2 a1_0 a1_1 a1_2 l1_3 a2).bind fun bt414=>((newelref12_Write.f kj3 l0_0 l0_1 a1_0 a1_1 a1_2 l1_3 a2).bind fun bt423=>((newellaw12_Own.f l0_0 l0_1).bind fun bt432=>((flash_Recover.f kj3 bt432.1 bt432.2).bind fun bt438=>((newelref12_Recover.f kj3 l0_0 l0_1).bind fun bt447=>(if bt414.2.2.2=bt423.2.2.2 then (if (bt414.2.2.1 != bt423.2.2.1)=true then (none) else (if ((bt438.2.2.2.2.2==0) != bt447.2.2.2.2.2)=true then (none) else (if (bt438.2.2.2.2.1 != bt447.2.2.2.2.1)=true then (none) else ((newelref12_Same.f kj3 bt438.1 bt438.2.1 bt438.2.2.1 bt438.2.2.2.1 bt447.1 bt447.2.1 bt447.2.2.1 bt447.2.2.2.1).bind fun t456=>(if t456=true then (if bt447.2.2.2.2.2=true then (newellaw12_FlashWrites.j1 kj3 bt414.2.2.2 false bt414.1 bt414.2.1 bt423.1 bt423.2.1 bt423.2.2.1 bt423.2.2.2) else (newellaw12_FlashWrites.j1 kj3 bt414.2.2.2 (bt438.2.2.2.2.2 != 123) bt414.1 bt414.2.1 bt423.1 bt423.2.1 bt423.2.2.1 bt423.2.2.2)) else (none)))))) else (none))))))))=some r:=by rw[if_neg (show ¬ (false=true) by decide)] at H;exact H
    clear H
    have H:=H1
    clear H1
    replace H:=Option.bind_eq_some_iff.mp H
    obtain⟨⟨t408,t411⟩,A190,H⟩:=H
    replace H:((flash_Write.f kj3 t408 t411 a1_0 a1_1 a1_2 l1_3 a2).bind fun bt414=>((newelref12_Write.f kj3 l0_0 l0_1 a1_0 a1_1 a1_2 l1_3 a2).bind fun bt423=>((newellaw12_Own.f l0_0 l0_1).bind fun bt432=>((flash_Recover.f kj3 bt432.1 bt432.2).bind fun bt438=>((newelref12_Recover.f kj3 l0_0 l0_1).bind fun bt447=>(if bt414.2.2.2=bt423.2.2.2 then (if (bt414.2.2.1 != bt423.2.2.1)=true then (none) else (if ((bt438.2.2.2.2.2==0) != bt447.2.2.2.2.2)=true then (none) else (if (bt438.2.2.2.2.1 != bt447.2.2.2.2.1)=true then (none) else ((newelref12_Same.f kj3 bt438.1 bt438.2.1 bt438.2.2.1 bt438.2.2.2.1 bt447.1 bt447.2.1 bt447.2.2.1 bt447.2.2.2.1).bind fun t456=>(if t456=true then (if bt447.2.2.2.2.2=true then (newellaw12_FlashWrites.j1 kj3 bt414.2.2.2 false bt414.1 bt414.2.1 bt423.1 bt423.2.1 bt423.2.2.1 bt423.2.2.2) else (newellaw12_FlashWrites.j1 kj3 bt414.2.2.2 (bt438.2.2.2.2.2 != 123) bt414.1 bt414.2.1 bt423.1 bt423.2.1 bt423.2.2.1 bt423.2.2.2)) else (none)))))) else (none)))))))=some r:=H
    have A19:=Aside0.mk A190
    clear A190
    replace H:=Option.bind_eq_some_iff.mp H
    obtain⟨⟨t414,t417,t420,t421⟩,A200,H⟩:=H
    replace H:((newelref12_Write.f kj3 l0_0 l0_1 a1_0 a1_1 a1_2 l1_3 a2).bind fun bt423=>((newellaw12_Own.f l0_0 l0_1).bind fun bt432=>((flash_Recover.f kj3 bt432.1 bt432.2).bind fun bt438=>((newelref12_Recover.f kj3 l0_0 l0_1).bind fun bt447=>(if t421=bt423.2.2.2 then (if (t420 != bt423.2.2.1)=true then (none) else (if ((bt438.2.2.2.2.2==0) != bt447.2.2.2.2.2)=true then (none) else (if (bt438.2.2.2.2.1 != bt447.2.2.2.2.1)=true then (none) else ((newelref12_Same.f kj3 bt438.1 bt438.2.1 bt438.2.2.1 bt438.2.2.2.1 bt447.1 bt447.2.1 bt447.2.2.1 bt447.2.2.2.1).bind fun t456=>(if t456=true then (if bt447.2.2.2.2.2=true then (newellaw12_FlashWrites.j1 kj3 t421 false t414 t417 bt423.1 bt423.2.1 bt423.2.2.1 bt423.2.2.2) else (newellaw12_FlashWrites.j1 kj3 t421 (bt438.2.2.2.2.2 != 123) t414 t417 bt423.1 bt423.2.1 bt423.2.2.1 bt423.2.2.2)) else (none)))))) else (none))))))=some r:=H
    have A20:=Aside0.mk A200
    clear A200
    replace H:=Option.bind_eq_some_iff.mp H
    obtain⟨⟨t423,t426,t429,t430⟩,A210,H⟩:=H
    replace H:((newellaw12_Own.f l0_0 l0_1).bind fun bt432=>((flash_Recover.f kj3 bt432.1 bt432.2).bind fun bt438=>((newelref12_Recover.f kj3 l0_0 l0_1).bind fun bt447=>(if t421=t430 then (if (t420 != t429)=true then (none) else (if ((bt438.2.2.2.2.2==0) != bt447.2.2.2.2.2)=true then (none) else (if (bt438.2.2.2.2.1 != bt447.2.2.2.2.1)=true then (none) else ((newelref12_Same.f kj3 bt438.1 bt438.2.1 bt438.2.2.1 bt438.2.2.2.1 bt447.1 bt447.2.1 bt447.2.2.1 bt447.2.2.2.1).bind fun t456=>(if t456=true then (if bt447.2.2.2.2.2=true then (newellaw12_FlashWrites.j1 kj3 t421 false t414 t417 t423 t426 t429 t430) else (newellaw12_FlashWrites.j1 kj3 t421 (bt438.2.2.2.2.2 != 123) t414 t417 t423 t426 t429 t430)) else (none)))))) else (none)))))=some r:=H
    have A21:=Aside0.mk A210
    clear A210
    replace H:=Option.bind_eq_some_iff.mp H
    obtain⟨⟨t432,t435⟩,A220,H⟩:=H
    replace H:((flash_Recover.f kj3 t432 t435).bind fun bt438=>((newelref12_Recover.f kj3 l0_0 l0_1).bind fun bt447=>(if t421=t430 then (if (t420 != t429)=true then (none) else (if ((bt438.2.2.2.2.2==0) != bt447.2.2.2.2.2)=true then (none) else (if (bt438.2.2.2.2.1 != bt447.2.2.2.2.1)=true then (none) else ((newelref12_Same.f kj3 bt438.1 bt438.2.1 bt438.2.2.1 bt438.2.2.2.1 bt447.1 bt447.2.1 bt447.2.2.1 bt447.2.2.2.1).bind fun t456=>(if t456=true then (if bt447.2.2.2.2.2=true then (newellaw12_FlashWrites.j1 kj3 t421 false t414 t417 t423 t426 t429 t430) else (newellaw12_FlashWrites.j1 kj3 t421 (bt438.2.2.2.2.2 != 123) t414 t417 t423 t426 t429 t430)) else (none)))))) else (none))))=some r:=H
    have A22:=Aside0.mk A220
    clear A220
    replace H:=Option.bind_eq_some_iff.mp H
    obtain⟨⟨t438,t439,t440,t441,t444,t445⟩,A230,H⟩:=H
    replace H:((newelref12_Recover.f kj3 l0_0 l0_1).bind fun bt447=>(if t421=t430 then (if (t420 != t429)=true then (none) else (if ((t445==0) != bt447.2.2.2.2.2)=true then (none) else (if (t444 != bt447.2.2.2.2.1)=true then (none) else ((newelref12_Same.f kj3 t438 t439 t440 t441 bt447.1 bt447.2.1 bt447.2.2.1 bt447.2.2.2.1).bind fun t456=>(if t456=true then (if bt447.2.2.2.2.2=true then (newellaw12_FlashWrites.j1 kj3 t421 false t414 t417 t423 t426 t429 t430) else (newellaw12_FlashWrites.j1 kj3 t421 (t445 != 123) t414 t417 t423 t426 t429 t430)) else (none)))))) else (none)))=some r:=H
    have A23:=Aside0.mk A230
    clear A230
    replace H:=Option.bind_eq_some_iff.mp H
    obtain⟨⟨t447,t448,t449,t450,t453,t454⟩,A240,H⟩:=H
    replace H:(if t421=t430 then (if (t420 != t429)=true then (none) else (if ((t445==0) != t454)=true then (none) else (if (t444 != t453)=true then (none) else ((newelref12_Same.f kj3 t438 t439 t440 t441 t447 t448 t449 t450).bind fun t456=>(if t456=true then (if t454=true then (newellaw12_FlashWrites.j1 kj3 t421 false t414 t417 t423 t426 t429 t430) else (newellaw12_FlashWrites.j1 kj3 t421 (t445 != 123) t414 t417 t423 t426 t429 t430)) else (none)))))) else (none))=some r:=H
    have A24:=Aside0.mk A240
    clear A240
    have HC25:=Aside0.mk H
    clear H
    try go_wp2
    replace BK404:=Aside0.mk (Qd BK404.out)
    replace BK405:=Aside0.mk (Qd BK405.out)
    replace HB:=Aside0.mk (Qf HB.out)
    refine Yp (n:=13) (S:=fun w'=>w'.cell? ⟨gb404,0,none⟩=some (.slice A0_0 l0_0.length c0_0)∧w'.cell? ⟨gb404,1,none⟩=some (.slice A0_1 l0_1.length c0_1)∧w'.cell? ⟨gb405,0,none⟩=some (.int .i64 a1_0)∧w'.cell? ⟨gb405,1,none⟩=some (.int .i64 a1_1)∧w'.cell? ⟨gb405,2,none⟩=some (.int .i64 a1_2)∧w'.cell? ⟨gb405,3,none⟩=some (.slice A1_3 l1_3.length c1_3)) (ds:=[]) #[false,false,false,false,false,false,false,false,false,false,false,false,false] kr rfl rfl ⟨(Q3 BK404.out 0).trans rfl,(Q3 BK404.out 1).trans rfl,(Q3 BK405.out 0).trans rfl,(Q3 BK405.out 1).trans rfl,(Q3 BK405.out 2).trans rfl,(Q3 BK405.out 3).trans rfl⟩ (fun hHeld=>?_);refine Xh newellaw12_FlashWrites.tab3 newellaw12_FlashWrites.bits3 (fun HT_ HW_=>?_)
    generalize wc.drew=w26 at BK404 BK405 HB hHeld ⊢
    refine qP 3 (some 29) (bN 13 8) HT_ ?_
    refine qT 0 (some 26) (bN 13 9) HT_ HW_ hHeld ?_
    refine qT 2 (some 28) (bN 13 13) HT_ HW_ hHeld ?_
    refine Wm (σ:=Value×Value×Value×Value×Nat) 3 (bN 13 1023) (fun s_=>[(27,.agg #[s_.1,s_.2.1]),(30,.tuple #[.agg #[s_.2.2.1,s_.2.2.2.1],.bool t420,.int .i64 t421]),(7,.pointer (some ⟨s_.2.2.2.2,0,none⟩)),(25,.tuple #[.agg #[s_.2.2.1,s_.2.2.2.1],.bool t420,.int .i64 t421]),(31,.agg #[s_.2.2.1,s_.2.2.2.1]),(32,.bool t420),(33,.int .i64 t421)]) (fun s_ w'=>(w'.cell? ⟨gb404,0,none⟩=some (.slice A0_0 l0_0.length c0_0)∧w'.cell? ⟨gb404,1,none⟩=some (.slice A0_1 l0_1.length c0_1)∧w'.cell? ⟨gb405,0,none⟩=some (.int .i64 a1_0)∧w'.cell? ⟨gb405,1,none⟩=some (.int .i64 a1_1)∧w'.cell? ⟨gb405,2,none⟩=some (.int .i64 a1_2)∧w'.cell? ⟨gb405,3,none⟩=some (.slice A1_3 l1_3.length c1_3))∧(Kd.R (Kd.int .u8) 5 w' w.heap.size (fun k_=>some k_≠(s_.2.1:Value).ownBlock∧some k_≠(s_.2.2.1:Value).ownBlock∧some k_≠(s_.2.2.2.1:Value).ownBlock) s_.1 t408)∧(Kd.R (Kd.int .u8) 5 w' w.heap.size (fun k_=>some k_≠(s_.1:Value).ownBlock∧some k_≠(s_.2.2.1:Value).ownBlock∧some k_≠(s_.2.2.2.1:Value).ownBlock) s_.2.1 t411)∧(Kd.R (Kd.int .u8) 5 w' w.heap.size (fun k_=>some k_≠(s_.1:Value).ownBlock∧some k_≠(s_.2.1:Value).ownBlock∧some k_≠(s_.2.2.2.1:Value).ownBlock) s_.2.2.1 t414)∧(Kd.R (Kd.int .u8) 5 w' w.heap.size (fun k_=>some k_≠(s_.1:Value).ownBlock∧some k_≠(s_.2.1:Value).ownBlock∧some k_≠(s_.2.2.1:Value).ownBlock) s_.2.2.2.1 t417)∧(w'.heap[gb404]?=some (.cells #[.slice A0_0 l0_0.length c0_0,.slice A0_1 l0_1.length c0_1] 24 (0,0)))∧(w'.heap[gb405]?=some (.cells #[.int .i64 a1_0,.int .i64 a1_1,.int .i64 a1_2,.slice A1_3 l1_3.length c1_3] 26 (0,0)))∧(w'.heap[s_.2.2.2.2]?=some (.cells #[.slice none 0 0,.slice none 0 0] 24 (0,0)))∧(w.heap.size≤s_.2.2.2.2)∧(w.heap.size≤s_.2.2.2.2)∧(gb404≠s_.2.2.2.2)∧(s_.2.2.2.2≠gb404)∧(gb405≠s_.2.2.2.2)∧(s_.2.2.2.2≠gb405)∧(Below w.heap.size w w')) ?_ ?_
    rotate_left
    ·intro hCont
     refine Uq (i:=1) (j:=9) (Ni:=some 27) (Nj:=some 7) (bN 13 15) (bN 13 525) rfl rfl rfl rfl (Ju HT_.out kr) (by decide) (by decide) (fun K hK=>?_) (fun K hK=>?_)
     ·skip
      refine Jh Tryd.func12 kr rfl #[.agg #[.slice A0_0 l0_0.length c0_0,.slice A0_1 l0_1.length c0_1]] (by rfl) rfl rfl qM ?_
      with_reducible refine(newellaw12_Own.calls _ _ l0_0 _ _ l0_1 t408 t411 _ ?side1 ?side2 ?side3 ?side4 A19.out).mono ?_
      (case side1=>exact(Kd.Zb HR0_0.out HB.out))
      (case side2=>exact HC0_0.out)
      (case side3=>exact(Kd.Zb HR0_1.out HB.out))
      (case side4=>exact HC0_1.out)
      rintro e w27 ⟨v409,v412,rfl,ho0,ho1,hb⟩
      refine⟨_,rfl, ?_⟩
      have HO410:=Aside0.mk (Kd.Zd ho0 (Qj HB.out))
      have HO413:=Aside0.mk (Kd.Zd ho1 (Qj HB.out))
      replace BK404:=sBk BK404 hb
      replace BK405:=sBk BK405 hb
      replace HB:=sHb hb
      (try clear hb)
      (try clear hb2)
      (try clear hk)
      (try clear hi)
      (try clear ho0)
      (try clear ho1)
      obtain⟨Ao28,co28,eo28⟩:=Kd.Zf HO410.out
      (first|subst eo28|(injection eo28 with f1_ f2_ f3_;have f4_:=f1_.symm;have f5_:=f3_.symm;clear f1_ f2_ f3_;subst f4_;subst f5_))
      obtain⟨Ao29,co29,eo29⟩:=Kd.Zf HO413.out
      (first|subst eo29|(injection eo29 with f1_ f2_ f3_;have f4_:=f1_.symm;have f5_:=f3_.symm;clear f1_ f2_ f3_;subst f4_;subst f5_))
      refine hK.out _ _ ⟨qc BK404,qc BK404,qc BK405,qc BK405,qc BK405,qc BK405⟩ (fun hHeld=>?_)
      clear hK K
      refine qN (some 27) ?_
      refine Uq (i:=4) (j:=9) (Ni:=some 30) (Nj:=some 7) (bN 13 31) (bN 13 527) rfl rfl rfl rfl (Ju HT_.out kr) (by decide) (by decide) (fun K hK=>?_) (fun K hK=>?_)
      ·skip
       refine Jh Tryd.func11 kr rfl #[.agg #[.slice Ao28 t408.length co28,.slice Ao29 t411.length co29],.agg #[.int .i64 a1_0,.int .i64 a1_1,.int .i64 a1_2,.slice A1_3 l1_3.length c1_3],.int .i64 a2] (by rfl) rfl rfl qM ?_
       with_reducible refine(flash_Write.calls kj3 _ _ t408 _ _ t411 a1_0 a1_1 a1_2 _ _ l1_3 a2 t414 t417 t420 t421 _ ?side1 ?side2 ?side3 ?side4 ?side5 ?side6 A20.out (by first|exact HTAB.out|((repeat(first|exact HTAB.out|(with_reducible refine Laid.Zo ?_ _)|(with_reducible refine Laid.Zn ?_ _)|(with_reducible refine Laid.Zq ?_)));done)|(refine Laid.Zk HTAB.out ?_;(repeat(first|(with_reducible first|exact HB.out|apply Qe|apply Qa|apply Qf)|exact HB.out|(refine Qg ?_ (Aside0.out (by assumption)))))))).mono ?_
       (case side1=>exact(Kd.Q4 HO410.out).2.2)
       (case side2=>exact(Kd.Q4 HO410.out).2.1)
       (case side3=>exact(Kd.Q4 HO413.out).2.2)
       (case side4=>exact(Kd.Q4 HO413.out).2.1)
       (case side5=>exact(Kd.Zb HR1_3.out HB.out))
       (case side6=>exact HC1_3.out)
       rintro e w30 ⟨v415,v418,rfl,ho0,ho1,hb⟩
       refine⟨_,rfl, ?_⟩
       have HO416:=Aside0.mk (Kd.Zd (Kd.Zi (Kd.Zi ho0 (Kd.Zp HO410.out)) (Kd.Zp HO413.out)) (Qj HB.out))
       have HO419:=Aside0.mk (Kd.Zd (Kd.Zi (Kd.Zi ho1 (Kd.Zp HO410.out)) (Kd.Zp HO413.out)) (Qj HB.out))
       replace HO410:=Aside0.mk (Kd.Qu (Kd.Xa (Kd.Xa (Kd.Jd HO410.out hb) (Kd.Q5 ho0)) (Kd.Q5 ho1)) (fun _ h_=>h_.1))
       replace HO413:=Aside0.mk (Kd.Qu (Kd.Xa (Kd.Xa (Kd.Jd HO413.out hb) (Kd.Q5 ho0)) (Kd.Q5 ho1)) (fun _ h_=>h_.1))
       replace BK404:=sBk BK404 hb
       replace BK405:=sBk BK405 hb
       replace HB:=sHb hb
       (try clear hb)
       (try clear hb2)
       (try clear hk)
       (try clear hi)
       (try clear ho0)
       (try clear ho1)
       refine hK.out _ _ ⟨qc BK404,qc BK404,qc BK405,qc BK405,qc BK405,qc BK405⟩ (fun hHeld=>?_)
       clear hK K
       refine qN (some 30) ?_
       refine qP 5 (some 25) (bN 13 63) HT_ ?_
       refine qP 6 (some 31) (bN 13 127) HT_ ?_
       refine qP 7 (some 32) (bN 13 255) HT_ ?_
       refine qP 8 (some 33) (bN 13 511) HT_ ?_
       refine Ye (i:=9) (N:=some 7) (bN 13 1023) rfl rfl (Z3 HT_.out kr) (by decide) (fun K hK=>?_)
       refine Xy ?hg (N:=7) ?hd (cs:=#[.slice none 0 0,.slice none 0 0]) (t:=24) ?hr ?_;(case hd=>rfl);(case hg=>rfl);(case hr=>go_simp <;> rfl)
       intro gb422 hg w31 hbox hb
       have BK422:=Aside0.mk hbox
       have GW422:=sGe hg
       have GE422:=sGe hg
       have NB404_422:=sNl BK404 hg
       have NB422_404:=sNg BK404 hg
       have NB405_422:=sNl BK405 hg
       have NB422_405:=sNg BK405 hg
       replace HO410:=sRb HO410 hb
       replace HO413:=sRb HO413 hb
       replace HO416:=sRb HO416 hb
       replace HO419:=sRb HO419 hb
       replace BK404:=sBk BK404 hb
       replace BK405:=sBk BK405 hb
       replace HB:=sHb hb
       clear hb hbox hg
       refine hK.out _ _ ⟨qc BK404,qc BK404,qc BK405,qc BK405,qc BK405,qc BK405⟩ (fun hHeld=>?_)
       clear hK K
       refine qN (some 7) ?_
       exact Yt (by simp only[Xv,Act.put,qS]) (hCont (.slice Ao28 t408.length co28,.slice Ao29 t411.length co29,v415,v418,gb422) _ ⟨hHeld,(by(with_reducible repeat first|apply Kd.Qi|apply Kd.Qh|apply Kd.Ql);exact Kd.Qu HO410.out (fun _ hk=>⟨hk.1.1,⟨hk.1.2,hk.2⟩⟩)),(by(with_reducible repeat first|apply Kd.Qi|apply Kd.Qh|apply Kd.Ql);exact Kd.Qu HO413.out (fun _ hk=>⟨hk.1.1,⟨hk.1.2,hk.2⟩⟩)),(by(with_reducible repeat first|apply Kd.Qi|apply Kd.Qh|apply Kd.Ql);exact Kd.Qu HO416.out (fun _ hk=>⟨hk.1.2,⟨hk.2,hk.1.1⟩⟩)),(by(with_reducible repeat first|apply Kd.Qi|apply Kd.Qh|apply Kd.Ql);exact Kd.Qu HO419.out (fun _ hk=>⟨hk.1.2,⟨hk.2,hk.1.1⟩⟩)),BK404.out,BK405.out,BK422.out,GW422.out,GE422.out,NB404_422.out,NB422_404.out,NB405_422.out,NB422_405.out,HB.out⟩)
      ·skip
       refine Xy ?hg (N:=7) ?hd (cs:=#[.slice none 0 0,.slice none 0 0]) (t:=24) ?hr ?_;(case hd=>rfl);(case hg=>rfl);(case hr=>go_simp <;> rfl)
       intro gb422 hg w28 hbox hb
       have BK422:=Aside0.mk hbox
       have GW422:=sGe hg
       have GE422:=sGe hg
       have NB404_422:=sNl BK404 hg
       have NB422_404:=sNg BK404 hg
       have NB405_422:=sNl BK405 hg
       have NB422_405:=sNg BK405 hg
       replace HO410:=sRb HO410 hb
       replace HO413:=sRb HO413 hb
       replace BK404:=sBk BK404 hb
       replace BK405:=sBk BK405 hb
       replace HB:=sHb hb
       clear hb hbox hg
       obtain⟨Ao29,co29,eo29⟩:=Kd.Zf HO410.out
       (first|subst eo29|(injection eo29 with f1_ f2_ f3_;have f4_:=f1_.symm;have f5_:=f3_.symm;clear f1_ f2_ f3_;subst f4_;subst f5_))
       obtain⟨Ao30,co30,eo30⟩:=Kd.Zf HO413.out
       (first|subst eo30|(injection eo30 with f1_ f2_ f3_;have f4_:=f1_.symm;have f5_:=f3_.symm;clear f1_ f2_ f3_;subst f4_;subst f5_))
       refine hK.out _ _ ⟨qc BK404,qc BK404,qc BK405,qc BK405,qc BK405,qc BK405⟩ (fun hHeld=>?_)
       clear hK K
       refine qN (some 7) ?_
       refine Ye (i:=4) (N:=some 30) (bN 13 543) rfl rfl (Z3 HT_.out kr) (by decide) (fun K hK=>?_)
       refine Jh Tryd.func11 kr rfl #[.agg #[.slice Ao29 t408.length co29,.slice Ao30 t411.length co30],.agg #[.int .i64 a1_0,.int .i64 a1_1,.int .i64 a1_2,.slice A1_3 l1_3.length c1_3],.int .i64 a2] (by rfl) rfl rfl qM ?_
       with_reducible refine(flash_Write.calls kj3 _ _ t408 _ _ t411 a1_0 a1_1 a1_2 _ _ l1_3 a2 t414 t417 t420 t421 _ ?side1 ?side2 ?side3 ?side4 ?side5 ?side6 A20.out (by first|exact HTAB.out|((repeat(first|exact HTAB.out|(with_reducible refine Laid.Zo ?_ _)|(with_reducible refine Laid.Zn ?_ _)|(with_reducible refine Laid.Zq ?_)));done)|(refine Laid.Zk HTAB.out ?_;(repeat(first|(with_reducible first|exact HB.out|apply Qe|apply Qa|apply Qf)|exact HB.out|(refine Qg ?_ (Aside0.out (by assumption)))))))).mono ?_
       (case side1=>exact(Kd.Q4 HO410.out).2.2)
       (case side2=>exact(Kd.Q4 HO410.out).2.1)
       (case side3=>exact(Kd.Q4 HO413.out).2.2)
       (case side4=>exact(Kd.Q4 HO413.out).2.1)
       (case side5=>exact(Kd.Zb HR1_3.out HB.out))
       (case side6=>exact HC1_3.out)
       rintro e w31 ⟨v415,v418,rfl,ho0,ho1,hb⟩
       refine⟨_,rfl, ?_⟩
       have HO416:=Aside0.mk (Kd.Zd (Kd.Zi (Kd.Zi ho0 (Kd.Zp HO410.out)) (Kd.Zp HO413.out)) (Qj HB.out))
       have HO419:=Aside0.mk (Kd.Zd (Kd.Zi (Kd.Zi ho1 (Kd.Zp HO410.out)) (Kd.Zp HO413.out)) (Qj HB.out))
       replace HO410:=Aside0.mk (Kd.Qu (Kd.Xa (Kd.Xa (Kd.Jd HO410.out hb) (Kd.Q5 ho0)) (Kd.Q5 ho1)) (fun _ h_=>h_.1))
       replace HO413:=Aside0.mk (Kd.Qu (Kd.Xa (Kd.Xa (Kd.Jd HO413.out hb) (Kd.Q5 ho0)) (Kd.Q5 ho1)) (fun _ h_=>h_.1))
       replace BK404:=sBk BK404 hb
       replace BK405:=sBk BK405 hb
       replace BK422:=sBk BK422 hb
       replace HB:=sHb hb
       (try clear hb)
       (try clear hb2)
       (try clear hk)
       (try clear hi)
       (try clear ho0)
       (try clear ho1)
       refine hK.out _ _ ⟨qc BK404,qc BK404,qc BK405,qc BK405,qc BK405,qc BK405⟩ (fun hHeld=>?_)
       clear hK K
       refine qN (some 30) ?_
       refine qP 5 (some 25) (bN 13 575) HT_ ?_
       refine qP 6 (some 31) (bN 13 639) HT_ ?_
       refine qP 7 (some 32) (bN 13 767) HT_ ?_
       refine qP 8 (some 33) (bN 13 1023) HT_ ?_
       exact Yt (by simp only[Xv,Act.put,qS]) (hCont (.slice Ao29 t408.length co29,.slice Ao30 t411.length co30,v415,v418,gb422) _ ⟨hHeld,(by(with_reducible repeat first|apply Kd.Qi|apply Kd.Qh|apply Kd.Ql);exact Kd.Qu HO410.out (fun _ hk=>⟨hk.1.1,⟨hk.1.2,hk.2⟩⟩)),(by(with_reducible repeat first|apply Kd.Qi|apply Kd.Qh|apply Kd.Ql);exact Kd.Qu HO413.out (fun _ hk=>⟨hk.1.1,⟨hk.1.2,hk.2⟩⟩)),(by(with_reducible repeat first|apply Kd.Qi|apply Kd.Qh|apply Kd.Ql);exact Kd.Qu HO416.out (fun _ hk=>⟨hk.1.2,⟨hk.2,hk.1.1⟩⟩)),(by(with_reducible repeat first|apply Kd.Qi|apply Kd.Qh|apply Kd.Ql);exact Kd.Qu HO419.out (fun _ hk=>⟨hk.1.2,⟨hk.2,hk.1.1⟩⟩)),BK404.out,BK405.out,BK422.out,GW422.out,GE422.out,NB404_422.out,NB422_404.out,NB405_422.out,NB422_405.out,HB.out⟩)
     ·skip
      refine Xy ?hg (N:=7) ?hd (cs:=#[.slice none 0 0,.slice none 0 0]) (t:=24) ?hr ?_;(case hd=>rfl);(case hg=>rfl);(case hr=>go_simp <;> rfl)
      intro gb422 hg w27 hbox hb
      have BK422:=Aside0.mk hbox
      have GW422:=sGe hg
      have GE422:=sGe hg
      have NB404_422:=sNl BK404 hg
      have NB422_404:=sNg BK404 hg
      have NB405_422:=sNl BK405 hg
      have NB422_405:=sNg BK405 hg
      replace BK404:=sBk BK404 hb
      replace BK405:=sBk BK405 hb
      replace HB:=sHb hb
      clear hb hbox hg
      refine hK.out _ _ ⟨qc BK404,qc BK404,qc BK405,qc BK405,qc BK405,qc BK405⟩ (fun hHeld=>?_)
      clear hK K
      refine qN (some 7) ?_
      refine Ye (i:=1) (N:=some 27) (bN 13 527) rfl rfl (Z3 HT_.out kr) (by decide) (fun K hK=>?_)
      refine Jh Tryd.func12 kr rfl #[.agg #[.slice A0_0 l0_0.length c0_0,.slice A0_1 l0_1.length c0_1]] (by rfl) rfl rfl qM ?_
      with_reducible refine(newellaw12_Own.calls _ _ l0_0 _ _ l0_1 t408 t411 _ ?side1 ?side2 ?side3 ?side4 A19.out).mono ?_
      (case side1=>exact(Kd.Zb HR0_0.out HB.out))
      (case side2=>exact HC0_0.out)
      (case side3=>exact(Kd.Zb HR0_1.out HB.out))
      (case side4=>exact HC0_1.out)
      rintro e w28 ⟨v409,v412,rfl,ho0,ho1,hb⟩
      refine⟨_,rfl, ?_⟩
      have HO410:=Aside0.mk (Kd.Zd ho0 (Qj HB.out))
      have HO413:=Aside0.mk (Kd.Zd ho1 (Qj HB.out))
      replace BK404:=sBk BK404 hb
      replace BK405:=sBk BK405 hb
      replace BK422:=sBk BK422 hb
      replace HB:=sHb hb
      (try clear hb)
      (try clear hb2)
      (try clear hk)
      (try clear hi)
      (try clear ho0)
      (try clear ho1)
      obtain⟨Ao29,co29,eo29⟩:=Kd.Zf HO410.out
      (first|subst eo29|(injection eo29 with f1_ f2_ f3_;have f4_:=f1_.symm;have f5_:=f3_.symm;clear f1_ f2_ f3_;subst f4_;subst f5_))
      obtain⟨Ao30,co30,eo30⟩:=Kd.Zf HO413.out
      (first|subst eo30|(injection eo30 with f1_ f2_ f3_;have f4_:=f1_.symm;have f5_:=f3_.symm;clear f1_ f2_ f3_;subst f4_;subst f5_))
      refine hK.out _ _ ⟨qc BK404,qc BK404,qc BK405,qc BK405,qc BK405,qc BK405⟩ (fun hHeld=>?_)
      clear hK K
      refine qN (some 27) ?_
      refine Ye (i:=4) (N:=some 30) (bN 13 543) rfl rfl (Z3 HT_.out kr) (by decide) (fun K hK=>?_)
      refine Jh Tryd.func11 kr rfl #[.agg #[.slice Ao29 t408.length co29,.slice Ao30 t411.length co30],.agg #[.int .i64 a1_0,.int .i64 a1_1,.int .i64 a1_2,.slice A1_3 l1_3.length c1_3],.int .i64 a2] (by rfl) rfl rfl qM ?_
      with_reducible refine(flash_Write.calls kj3 _ _ t408 _ _ t411 a1_0 a1_1 a1_2 _ _ l1_3 a2 t414 t417 t420 t421 _ ?side1 ?side2 ?side3 ?side4 ?side5 ?side6 A20.out (by first|exact HTAB.out|((repeat(first|exact HTAB.out|(with_reducible refine Laid.Zo ?_ _)|(with_reducible refine Laid.Zn ?_ _)|(with_reducible refine Laid.Zq ?_)));done)|(refine Laid.Zk HTAB.out ?_;(repeat(first|(with_reducible first|exact HB.out|apply Qe|apply Qa|apply Qf)|exact HB.out|(refine Qg ?_ (Aside0.out (by assumption)))))))).mono ?_
      (case side1=>exact(Kd.Q4 HO410.out).2.2)
      (case side2=>exact(Kd.Q4 HO410.out).2.1)
      (case side3=>exact(Kd.Q4 HO413.out).2.2)
      (case side4=>exact(Kd.Q4 HO413.out).2.1)
      (case side5=>exact(Kd.Zb HR1_3.out HB.out))
      (case side6=>exact HC1_3.out)
      rintro e w31 ⟨v415,v418,rfl,ho0,ho1,hb⟩
      refine⟨_,rfl, ?_⟩
      have HO416:=Aside0.mk (Kd.Zd (Kd.Zi (Kd.Zi ho0 (Kd.Zp HO410.out)) (Kd.Zp HO413.out)) (Qj HB.out))
      have HO419:=Aside0.mk (Kd.Zd (Kd.Zi (Kd.Zi ho1 (Kd.Zp HO410.out)) (Kd.Zp HO413.out)) (Qj HB.out))
      replace HO410:=Aside0.mk (Kd.Qu (Kd.Xa (Kd.Xa (Kd.Jd HO410.out hb) (Kd.Q5 ho0)) (Kd.Q5 ho1)) (fun _ h_=>h_.1))
      replace HO413:=Aside0.mk (Kd.Qu (Kd.Xa (Kd.Xa (Kd.Jd HO413.out hb) (Kd.Q5 ho0)) (Kd.Q5 ho1)) (fun _ h_=>h_.1))
      replace BK404:=sBk BK404 hb
      replace BK405:=sBk BK405 hb
      replace BK422:=sBk BK422 hb
      replace HB:=sHb hb
      (try clear hb)
      (try clear hb2)
      (try clear hk)
      (try clear hi)
      (try clear ho0)
      (try clear ho1)
      refine hK.out _ _ ⟨qc BK404,qc BK404,qc BK405,qc BK405,qc BK405,qc BK405⟩ (fun hHeld=>?_)
      clear hK K
      refine qN (some 30) ?_
      refine qP 5 (some 25) (bN 13 575) HT_ ?_
      refine qP 6 (some 31) (bN 13 639) HT_ ?_
      refine qP 7 (some 32) (bN 13 767) HT_ ?_
      refine qP 8 (some 33) (bN 13 1023) HT_ ?_
      exact Yt (by simp only[Xv,Act.put,qS]) (hCont (.slice Ao29 t408.length co29,.slice Ao30 t411.length co30,v415,v418,gb422) _ ⟨hHeld,(by(with_reducible repeat first|apply Kd.Qi|apply Kd.Qh|apply Kd.Ql);exact Kd.Qu HO410.out (fun _ hk=>⟨hk.1.1,⟨hk.1.2,hk.2⟩⟩)),(by(with_reducible repeat first|apply Kd.Qi|apply Kd.Qh|apply Kd.Ql);exact Kd.Qu HO413.out (fun _ hk=>⟨hk.1.1,⟨hk.1.2,hk.2⟩⟩)),(by(with_reducible repeat first|apply Kd.Qi|apply Kd.Qh|apply Kd.Ql);exact Kd.Qu HO416.out (fun _ hk=>⟨hk.1.2,⟨hk.2,hk.1.1⟩⟩)),(by(with_reducible repeat first|apply Kd.Qi|apply Kd.Qh|apply Kd.Ql);exact Kd.Qu HO419.out (fun _ hk=>⟨hk.1.2,⟨hk.2,hk.1.1⟩⟩)),BK404.out,BK405.out,BK422.out,GW422.out,GE422.out,NB404_422.out,NB422_404.out,NB405_422.out,NB422_405.out,HB.out⟩)
    rintro⟨v409,v412,v415,v418,gb422⟩ w32 ⟨hS_,h0_,h1_,h2_,h3_,h4_,h5_,h6_,h7_,h8_,h9_,h10_,h11_,h12_,h13_⟩
    have n0_:Aside0 (Kd.R (Kd.int .u8) 5 w32 w.heap.size (fun k_=>some k_≠(v412:Value).ownBlock∧some k_≠(v415:Value).ownBlock∧some k_≠(v418:Value).ownBlock) v409 t408):=⟨h0_⟩
    have n1_:Aside0 (Kd.R (Kd.int .u8) 5 w32 w.heap.size (fun k_=>some k_≠(v409:Value).ownBlock∧some k_≠(v415:Value).ownBlock∧some k_≠(v418:Value).ownBlock) v412 t411):=⟨h1_⟩
    have n2_:Aside0 (Kd.R (Kd.int .u8) 5 w32 w.heap.size (fun k_=>some k_≠(v409:Value).ownBlock∧some k_≠(v412:Value).ownBlock∧some k_≠(v418:Value).ownBlock) v415 t414):=⟨h2_⟩
    have n3_:Aside0 (Kd.R (Kd.int .u8) 5 w32 w.heap.size (fun k_=>some k_≠(v409:Value).ownBlock∧some k_≠(v412:Value).ownBlock∧some k_≠(v415:Value).ownBlock) v418 t417):=⟨h3_⟩
    have n4_:Aside0 (w32.heap[gb404]?=some (.cells #[.slice A0_0 l0_0.length c0_0,.slice A0_1 l0_1.length c0_1] 24 (0,0))):=⟨h4_⟩
    have n5_:Aside0 (w32.heap[gb405]?=some (.cells #[.int .i64 a1_0,.int .i64 a1_1,.int .i64 a1_2,.slice A1_3 l1_3.length c1_3] 26 (0,0))):=⟨h5_⟩
    have n6_:Aside0 (w32.heap[gb422]?=some (.cells #[.slice none 0 0,.slice none 0 0] 24 (0,0))):=⟨h6_⟩
    have n7_:Aside0 (w.heap.size≤gb422):=⟨h7_⟩
    have n8_:Aside0 (w.heap.size≤gb422):=⟨h8_⟩
    have n9_:Aside0 (gb404≠gb422):=⟨h9_⟩
    have n10_:Aside0 (gb422≠gb404):=⟨h10_⟩
    have n11_:Aside0 (gb405≠gb422):=⟨h11_⟩
    have n12_:Aside0 (gb422≠gb405):=⟨h12_⟩
    have n13_:Aside0 (Below w.heap.size w w32):=⟨h13_⟩
    clear BK404
    clear BK405
    clear HB
    clear h0_ h1_ h2_ h3_ h4_ h5_ h6_ h7_ h8_ h9_ h10_ h11_ h12_ h13_
    have HO410:=n0_
    have HO413:=n1_
    have HO416:=n2_
    have HO419:=n3_
    have BK404:=n4_
    have BK405:=n5_
    have BK422:=n6_
    have GW422:=n7_
    have GE422:=n8_
    have NB404_422:=n9_
    have NB422_404:=n10_
    have NB405_422:=n11_
    have NB422_405:=n12_
    have HB:=n13_
    clear n0_ n1_ n2_ n3_ n4_ n5_ n6_ n7_ n8_ n9_ n10_ n11_ n12_ n13_
    have hHeld:w32.cell? ⟨gb404,0,none⟩=some (.slice A0_0 l0_0.length c0_0)∧w32.cell? ⟨gb404,1,none⟩=some (.slice A0_1 l0_1.length c0_1)∧w32.cell? ⟨gb405,0,none⟩=some (.int .i64 a1_0)∧w32.cell? ⟨gb405,1,none⟩=some (.int .i64 a1_1)∧w32.cell? ⟨gb405,2,none⟩=some (.int .i64 a1_2)∧w32.cell? ⟨gb405,3,none⟩=some (.slice A1_3 l1_3.length c1_3):=hS_
    obtain⟨Ao33,co33,eo33⟩:=Kd.Zf HO416.out
    (first|subst eo33|(injection eo33 with f1_ f2_ f3_;have f4_:=f1_.symm;have f5_:=f3_.symm;clear f1_ f2_ f3_;subst f4_;subst f5_))
    obtain⟨Ao35,co35,eo35⟩:=Kd.Zf HO419.out
    (first|subst eo35|(injection eo35 with f1_ f2_ f3_;have f4_:=f1_.symm;have f5_:=f3_.symm;clear f1_ f2_ f3_;subst f4_;subst f5_))
    refine Yt (a':=?_) ?_ ?_
    rotate_left
    ·simp only[Xv,Act.put,qS]
     rfl
    refine Ye (i:=10) (N:=none) (bN 13 2047) rfl rfl (Z3 HT_.out kr) (by decide) (fun K hK=>?_)
    have hs34:w32.cell? ⟨gb422,0,none⟩=some (.slice none 0 0):=(Q3 BK422.out 0).trans rfl
    have hfs34:=Q6 BK422.out 0
    have hns34_0:=NB404_422.out
    have hns34_1:=NB405_422.out
    have hms34_0:=NB422_404.out
    have hms34_1:=NB422_405.out
    have hs36:w32.cell? ⟨gb422,1,none⟩=some (.slice none 0 0):=(Q3 BK422.out 1).trans rfl
    have hfs36:=Q6 BK422.out 1
    have hns36_0:=NB404_422.out
    have hns36_1:=NB405_422.out
    have hms36_0:=NB422_404.out
    have hms36_1:=NB422_405.out
    refine J0 (w1:=?_) (by rfl) rfl ?_ ?_
    rotate_left
    ·go_simp
     rfl
    refine hK.out _ _ ⟨(by rw[cell_far,cell_far];all_goals (first|(with_reducible exact hHeld.1)|(with_reducible exact NB404_422.out))),(by rw[cell_far,cell_far];all_goals (first|(with_reducible exact hHeld.2.1)|(with_reducible exact NB404_422.out))),(by rw[cell_far,cell_far];all_goals (first|(with_reducible exact hHeld.2.2.1)|(with_reducible exact NB405_422.out))),(by rw[cell_far,cell_far];all_goals (first|(with_reducible exact hHeld.2.2.2.1)|(with_reducible exact NB405_422.out))),(by rw[cell_far,cell_far];all_goals (first|(with_reducible exact hHeld.2.2.2.2.1)|(with_reducible exact NB405_422.out))),(by rw[cell_far,cell_far];all_goals (first|(with_reducible exact hHeld.2.2.2.2.2)|(with_reducible exact NB405_422.out)))⟩ (fun hHeld=>?_)
    clear hK K
    refine qP 11 (some 8) (bN 13 4095) HT_ ?_
    refine qP 12 (some 9) (bN 13 8191) HT_ ?_
    refine Jc (Yi HT_.out kr) ?_
    have n0_:Aside0 (Kd.R (Kd.int .u8) 5 ((w32.setCell ⟨gb422,0,none⟩ (.slice Ao33 t414.length co33)).setCell ⟨gb422,1,none⟩ (.slice Ao35 t417.length co35)) w.heap.size (fun k_=>some k_≠(v412:Value).ownBlock∧some k_≠(.slice Ao33 t414.length co33:Value).ownBlock∧some k_≠(.slice Ao35 t417.length co35:Value).ownBlock) v409 t408):=⟨by(with_reducible repeat first|apply Kd.Qi|apply Kd.Qh|apply Kd.Ql);exact Kd.Qu (Kd.Qm (Kd.Qm (Kd.Qy HO410.out BK422.out (by decide)) (fun _ hk=>hk.2) _) (fun _ hk=>hk.2) _) (fun _ hk=>⟨hk.1.1,⟨hk.1.2.1,hk.1.2.2⟩⟩)⟩
    have n1_:Aside0 (Kd.R (Kd.int .u8) 5 ((w32.setCell ⟨gb422,0,none⟩ (.slice Ao33 t414.length co33)).setCell ⟨gb422,1,none⟩ (.slice Ao35 t417.length co35)) w.heap.size (fun k_=>some k_≠(v409:Value).ownBlock∧some k_≠(.slice Ao33 t414.length co33:Value).ownBlock∧some k_≠(.slice Ao35 t417.length co35:Value).ownBlock) v412 t411):=⟨by(with_reducible repeat first|apply Kd.Qi|apply Kd.Qh|apply Kd.Ql);exact Kd.Qu (Kd.Qm (Kd.Qm (Kd.Qy HO413.out BK422.out (by decide)) (fun _ hk=>hk.2) _) (fun _ hk=>hk.2) _) (fun _ hk=>⟨hk.1.1,⟨hk.1.2.1,hk.1.2.2⟩⟩)⟩
    have n2_:Aside0 (Kd.R (Kd.int .u8) 5 ((w32.setCell ⟨gb422,0,none⟩ (.slice Ao33 t414.length co33)).setCell ⟨gb422,1,none⟩ (.slice Ao35 t417.length co35)) w.heap.size (fun k_=>some k_≠(v409:Value).ownBlock∧some k_≠(v412:Value).ownBlock∧some k_≠(.slice Ao35 t417.length co35:Value).ownBlock) (.slice Ao33 t414.length co33) t414):=⟨by(with_reducible repeat first|apply Kd.Qi|apply Kd.Qh|apply Kd.Ql);exact Kd.Qu (Kd.Qm (Kd.Qm (Kd.Qy HO416.out BK422.out (by decide)) (fun _ hk=>hk.2) _) (fun _ hk=>hk.2) _) (fun _ hk=>⟨hk.1.1,⟨hk.1.2.1,hk.1.2.2⟩⟩)⟩
    have n3_:Aside0 (Kd.R (Kd.int .u8) 5 ((w32.setCell ⟨gb422,0,none⟩ (.slice Ao33 t414.length co33)).setCell ⟨gb422,1,none⟩ (.slice Ao35 t417.length co35)) w.heap.size (fun k_=>some k_≠(v409:Value).ownBlock∧some k_≠(v412:Value).ownBlock∧some k_≠(.slice Ao33 t414.length co33:Value).ownBlock) (.slice Ao35 t417.length co35) t417):=⟨by(with_reducible repeat first|apply Kd.Qi|apply Kd.Qh|apply Kd.Ql);exact Kd.Qu (Kd.Qm (Kd.Qm (Kd.Qy HO419.out BK422.out (by decide)) (fun _ hk=>hk.2) _) (fun _ hk=>hk.2) _) (fun _ hk=>⟨hk.1.1,⟨hk.1.2.1,hk.1.2.2⟩⟩)⟩
    have n4_:Aside0 (((w32.setCell ⟨gb422,0,none⟩ (.slice Ao33 t414.length co33)).setCell ⟨gb422,1,none⟩ (.slice Ao35 t417.length co35)).heap[gb404]?=some (.cells #[.slice A0_0 l0_0.length c0_0,.slice A0_1 l0_1.length c0_1] 24 (0,0))):=⟨bka BK404⟩
    have n5_:Aside0 (((w32.setCell ⟨gb422,0,none⟩ (.slice Ao33 t414.length co33)).setCell ⟨gb422,1,none⟩ (.slice Ao35 t417.length co35)).heap[gb405]?=some (.cells #[.int .i64 a1_0,.int .i64 a1_1,.int .i64 a1_2,.slice A1_3 l1_3.length c1_3] 26 (0,0))):=⟨bka BK405⟩
    have n6_:Aside0 (((w32.setCell ⟨gb422,0,none⟩ (.slice Ao33 t414.length co33)).setCell ⟨gb422,1,none⟩ (.slice Ao35 t417.length co35)).heap[gb422]?=some (.cells #[.slice Ao33 t414.length co33,.slice Ao35 t417.length co35] 24 (0,0))):=⟨by refine Qk (cs:=#[.slice Ao33 t414.length co33,.slice none 0 0]) ?_ 1 _ rfl;refine Qk (cs:=#[.slice none 0 0,.slice none 0 0]) ?_ 0 _ rfl;exact BK422.out⟩
    have n7_:Aside0 (Below w.heap.size w ((w32.setCell ⟨gb422,0,none⟩ (.slice Ao33 t414.length co33)).setCell ⟨gb422,1,none⟩ (.slice Ao35 t417.length co35))):=⟨by repeat(first|(with_reducible first|exact HB.out|apply Qe|apply Qa|apply Qf|refine Qg ?_ GE404.out|refine Qg ?_ GE405.out|refine Qg ?_ GE422.out)|exact HB.out)⟩
    (try clear HO410)
    (try clear HO413)
    (try clear HO416)
    (try clear HO419)
    (try clear BK404)
    (try clear BK405)
    (try clear BK422)
    (try clear HB)
    generalize((w32.setCell ⟨gb422,0,none⟩ (.slice Ao33 t414.length co33)).setCell ⟨gb422,1,none⟩ (.slice Ao35 t417.length co35))=w37 at n0_ n1_ n2_ n3_ n4_ n5_ n6_ n7_ ⊢
    have HO410:=n0_
    have HO413:=n1_
    have HO416:=n2_
    have HO419:=n3_
    have BK404:=n4_
    have BK405:=n5_
    have BK422:=n6_
    have HB:=n7_
    clear n0_ n1_ n2_ n3_ n4_ n5_ n6_ n7_
    have hnb38:=NB404_405.out
    have hnc38:=NB405_404.out
    have hnb39:=NB404_422.out
    have hnc39:=NB422_404.out
    obtain⟨hcz40_0,hcz40_1,hfz40_0,hfz40_1⟩:=qD2 BK404.out
    have hnb41:=NB405_422.out
    have hnc41:=NB422_405.out
    obtain⟨hcz42_0,hcz42_1,hcz42_2,hcz42_3,hfz42_0,hfz42_1,hfz42_2,hfz42_3⟩:=qD4 BK405.out
    go_upto_region 7 with(first|((with_reducible refine Qv (f:=13) rfl ?_);refine Ze (some 37) rfl rfl Tryd.func13 kr rfl #[.agg #[.slice A0_0 l0_0.length c0_0,.slice A0_1 l0_1.length c0_1],.agg #[.int .i64 a1_0,.int .i64 a1_1,.int .i64 a1_2,.slice A1_3 l1_3.length c1_3],.int .i64 a2] rfl (by(try simp only[List.map_toArray,List.map_cons,List.map_nil]);first|done|rfl|(simp only[List.length_drop,List.length_take];rfl)) ?_;(with_reducible refine(newelref12_Write.calls kj3 (fun k_=>k_<w.heap.size) _ _ l0_0 (fun k_=>k_<w.heap.size) _ _ l0_1 a1_0 a1_1 a1_2 _ _ l1_3 a2 t423 t426 t429 t430 _ ?side1 ?side2 ?side3 ?side4 A21.out).mono ?_);(case side1=>exact Kd.Vn HC0_0.out (Kd.Y2 (Kd.C_F (Kd.J8 .u8) HR0_0.out) (by repeat(first|(with_reducible first|exact HB.out|apply Qe|apply Qa|apply Qf|refine Qg ?_ GE404.out|refine Qg ?_ GE405.out|refine Qg ?_ GE422.out)|exact HB.out))));(case side2=>exact Kd.Vn HC0_1.out (Kd.Y2 (Kd.C_F (Kd.J8 .u8) HR0_1.out) (by repeat(first|(with_reducible first|exact HB.out|apply Qe|apply Qa|apply Qf|refine Qg ?_ GE404.out|refine Qg ?_ GE405.out|refine Qg ?_ GE422.out)|exact HB.out))));(case side3=>repeat(first|exact(Kd.Zb HR1_3.out HB.out)|(with_reducible refine Kd.Zc ?_ _)|(with_reducible refine Kd.Za ?_ _)|(with_reducible refine Kd.Zh ?_)));(case side4=>exact HC1_3.out);rintro e w43 ⟨v424,v427,rfl,ho0,ho1,hb⟩;refine⟨_,rfl, ?_⟩;have n0_:=Aside0.mk (Kd.Q1 (by(with_reducible repeat first|apply Kd.Qi|apply Kd.Qh|apply Kd.Ql);exact HO410.out) hb);have n1_:=Aside0.mk (Kd.Q1 (by(with_reducible repeat first|apply Kd.Qi|apply Kd.Qh|apply Kd.Ql);exact HO413.out) hb);have n2_:=Aside0.mk (Kd.Q1 (by(with_reducible repeat first|apply Kd.Qi|apply Kd.Qh|apply Kd.Ql);exact HO416.out) hb);have n3_:=Aside0.mk (Kd.Q1 (by(with_reducible repeat first|apply Kd.Qi|apply Kd.Qh|apply Kd.Ql);exact HO419.out) hb);have n4_:=Aside0.mk (Kd.Y1 (Kd.Qt (ok':=fun k_=>some k_≠(v409:Value).ownBlock∧some k_≠(v412:Value).ownBlock∧some k_≠(.slice Ao33 t414.length co33:Value).ownBlock∧some k_≠(.slice Ao35 t417.length co35:Value).ownBlock∧k_≠gb404∧k_≠gb405∧k_≠gb422) ho0 (fun k_ hk_=>⟨Or.elim hk_ (fun hs_=>Or.elim hs_ (fun hs_=>fun e_=>Nat.not_le.2 hs_ (Kd.Q5 HO410.out k_ e_.symm)) (fun hs_=>fun e_=>Nat.not_le.2 hs_ (Kd.Q5 HO410.out k_ e_.symm))) (fun hn_=>(Kd.fresh' (Kd.Zp (by(with_reducible repeat first|apply Kd.Qi|apply Kd.Qh|apply Kd.Ql);exact HO410.out)) k_ hn_)),Or.elim hk_ (fun hs_=>Or.elim hs_ (fun hs_=>fun e_=>Nat.not_le.2 hs_ (Kd.Q5 HO413.out k_ e_.symm)) (fun hs_=>fun e_=>Nat.not_le.2 hs_ (Kd.Q5 HO413.out k_ e_.symm))) (fun hn_=>(Kd.fresh' (Kd.Zp (by(with_reducible repeat first|apply Kd.Qi|apply Kd.Qh|apply Kd.Ql);exact HO413.out)) k_ hn_)),Or.elim hk_ (fun hs_=>Or.elim hs_ (fun hs_=>fun e_=>Nat.not_le.2 hs_ (Kd.Q5 HO416.out k_ e_.symm)) (fun hs_=>fun e_=>Nat.not_le.2 hs_ (Kd.Q5 HO416.out k_ e_.symm))) (fun hn_=>(Kd.fresh' (Kd.Zp (by(with_reducible repeat first|apply Kd.Qi|apply Kd.Qh|apply Kd.Ql);exact HO416.out)) k_ hn_)),Or.elim hk_ (fun hs_=>Or.elim hs_ (fun hs_=>fun e_=>Nat.not_le.2 hs_ (Kd.Q5 HO419.out k_ e_.symm)) (fun hs_=>fun e_=>Nat.not_le.2 hs_ (Kd.Q5 HO419.out k_ e_.symm))) (fun hn_=>(Kd.fresh' (Kd.Zp (by(with_reducible repeat first|apply Kd.Qi|apply Kd.Qh|apply Kd.Ql);exact HO419.out)) k_ hn_)),Or.elim hk_ (fun hs_=>Or.elim hs_ (fun hs_=>fun e_=>Nat.not_le.2 hs_ (by rw[e_];exact GW404.out)) (fun hs_=>fun e_=>Nat.not_le.2 hs_ (by rw[e_];exact GW404.out))) (fun hn_=>(Kd.Z5 (g:=gb404) (o:=.cells #[.slice A0_0 l0_0.length c0_0,.slice A0_1 l0_1.length c0_1] 24 (0,0)) (by(with_reducible repeat first|apply Qb|apply Qd|apply Qc);exact BK404.out) k_ hn_)),Or.elim hk_ (fun hs_=>Or.elim hs_ (fun hs_=>fun e_=>Nat.not_le.2 hs_ (by rw[e_];exact GW405.out)) (fun hs_=>fun e_=>Nat.not_le.2 hs_ (by rw[e_];exact GW405.out))) (fun hn_=>(Kd.Z5 (g:=gb405) (o:=.cells #[.int .i64 a1_0,.int .i64 a1_1,.int .i64 a1_2,.slice A1_3 l1_3.length c1_3] 26 (0,0)) (by(with_reducible repeat first|apply Qb|apply Qd|apply Qc);exact BK405.out) k_ hn_)),Or.elim hk_ (fun hs_=>Or.elim hs_ (fun hs_=>fun e_=>Nat.not_le.2 hs_ (by rw[e_];exact GW422.out)) (fun hs_=>fun e_=>Nat.not_le.2 hs_ (by rw[e_];exact GW422.out))) (fun hn_=>(Kd.Z5 (g:=gb422) (o:=.cells #[.slice Ao33 t414.length co33,.slice Ao35 t417.length co35] 24 (0,0)) (by(with_reducible repeat first|apply Qb|apply Qd|apply Qc);exact BK422.out) k_ hn_))⟩)) (Qj (by repeat(first|(with_reducible first|exact HB.out|apply Qe|apply Qa|apply Qf|refine Qg ?_ GE404.out|refine Qg ?_ GE405.out|refine Qg ?_ GE422.out)|exact HB.out))));have n5_:=Aside0.mk (Kd.Y1 (Kd.Qt (ok':=fun k_=>some k_≠(v409:Value).ownBlock∧some k_≠(v412:Value).ownBlock∧some k_≠(.slice Ao33 t414.length co33:Value).ownBlock∧some k_≠(.slice Ao35 t417.length co35:Value).ownBlock∧k_≠gb404∧k_≠gb405∧k_≠gb422) ho1 (fun k_ hk_=>⟨Or.elim hk_ (fun hs_=>Or.elim hs_ (fun hs_=>fun e_=>Nat.not_le.2 hs_ (Kd.Q5 HO410.out k_ e_.symm)) (fun hs_=>fun e_=>Nat.not_le.2 hs_ (Kd.Q5 HO410.out k_ e_.symm))) (fun hn_=>(Kd.fresh' (Kd.Zp (by(with_reducible repeat first|apply Kd.Qi|apply Kd.Qh|apply Kd.Ql);exact HO410.out)) k_ hn_)),Or.elim hk_ (fun hs_=>Or.elim hs_ (fun hs_=>fun e_=>Nat.not_le.2 hs_ (Kd.Q5 HO413.out k_ e_.symm)) (fun hs_=>fun e_=>Nat.not_le.2 hs_ (Kd.Q5 HO413.out k_ e_.symm))) (fun hn_=>(Kd.fresh' (Kd.Zp (by(with_reducible repeat first|apply Kd.Qi|apply Kd.Qh|apply Kd.Ql);exact HO413.out)) k_ hn_)),Or.elim hk_ (fun hs_=>Or.elim hs_ (fun hs_=>fun e_=>Nat.not_le.2 hs_ (Kd.Q5 HO416.out k_ e_.symm)) (fun hs_=>fun e_=>Nat.not_le.2 hs_ (Kd.Q5 HO416.out k_ e_.symm))) (fun hn_=>(Kd.fresh' (Kd.Zp (by(with_reducible repeat first|apply Kd.Qi|apply Kd.Qh|apply Kd.Ql);exact HO416.out)) k_ hn_)),Or.elim hk_ (fun hs_=>Or.elim hs_ (fun hs_=>fun e_=>Nat.not_le.2 hs_ (Kd.Q5 HO419.out k_ e_.symm)) (fun hs_=>fun e_=>Nat.not_le.2 hs_ (Kd.Q5 HO419.out k_ e_.symm))) (fun hn_=>(Kd.fresh' (Kd.Zp (by(with_reducible repeat first|apply Kd.Qi|apply Kd.Qh|apply Kd.Ql);exact HO419.out)) k_ hn_)),Or.elim hk_ (fun hs_=>Or.elim hs_ (fun hs_=>fun e_=>Nat.not_le.2 hs_ (by rw[e_];exact GW404.out)) (fun hs_=>fun e_=>Nat.not_le.2 hs_ (by rw[e_];exact GW404.out))) (fun hn_=>(Kd.Z5 (g:=gb404) (o:=.cells #[.slice A0_0 l0_0.length c0_0,.slice A0_1 l0_1.length c0_1] 24 (0,0)) (by(with_reducible repeat first|apply Qb|apply Qd|apply Qc);exact BK404.out) k_ hn_)),Or.elim hk_ (fun hs_=>Or.elim hs_ (fun hs_=>fun e_=>Nat.not_le.2 hs_ (by rw[e_];exact GW405.out)) (fun hs_=>fun e_=>Nat.not_le.2 hs_ (by rw[e_];exact GW405.out))) (fun hn_=>(Kd.Z5 (g:=gb405) (o:=.cells #[.int .i64 a1_0,.int .i64 a1_1,.int .i64 a1_2,.slice A1_3 l1_3.length c1_3] 26 (0,0)) (by(with_reducible repeat first|apply Qb|apply Qd|apply Qc);exact BK405.out) k_ hn_)),Or.elim hk_ (fun hs_=>Or.elim hs_ (fun hs_=>fun e_=>Nat.not_le.2 hs_ (by rw[e_];exact GW422.out)) (fun hs_=>fun e_=>Nat.not_le.2 hs_ (by rw[e_];exact GW422.out))) (fun hn_=>(Kd.Z5 (g:=gb422) (o:=.cells #[.slice Ao33 t414.length co33,.slice Ao35 t417.length co35] 24 (0,0)) (by(with_reducible repeat first|apply Qb|apply Qd|apply Qc);exact BK422.out) k_ hn_))⟩)) (Qj (by repeat(first|(with_reducible first|exact HB.out|apply Qe|apply Qa|apply Qf|refine Qg ?_ GE404.out|refine Qg ?_ GE405.out|refine Qg ?_ GE422.out)|exact HB.out))));have n6_:=Aside0.mk (Qp (g:=gb404) (o:=.cells #[.slice A0_0 l0_0.length c0_0,.slice A0_1 l0_1.length c0_1] 24 (0,0)) (by(with_reducible repeat first|apply Qb|apply Qd|apply Qc);exact BK404.out) hb);have n7_:=Aside0.mk (Qp (g:=gb405) (o:=.cells #[.int .i64 a1_0,.int .i64 a1_1,.int .i64 a1_2,.slice A1_3 l1_3.length c1_3] 26 (0,0)) (by(with_reducible repeat first|apply Qb|apply Qd|apply Qc);exact BK405.out) hb);have n8_:=Aside0.mk (Qp (g:=gb422) (o:=.cells #[.slice Ao33 t414.length co33,.slice Ao35 t417.length co35] 24 (0,0)) (by(with_reducible repeat first|apply Qb|apply Qd|apply Qc);exact BK422.out) hb);have n9_:=Aside0.mk (Qr (by repeat(first|(with_reducible first|exact HB.out|apply Qe|apply Qa|apply Qf|refine Qg ?_ GE404.out|refine Qg ?_ GE405.out|refine Qg ?_ GE422.out)|exact HB.out)) hb);clear HO410;clear HO413;clear HO416;clear HO419;clear BK404;clear BK405;clear BK422;clear HB;have HO410:=n0_;have HO413:=n1_;have HO416:=n2_;have HO419:=n3_;have HO425:=n4_;have HO428:=n5_;have BK404:=n6_;have BK405:=n7_;have BK422:=n8_;have HB:=n9_;clear n0_ n1_ n2_ n3_ n4_ n5_ n6_ n7_ n8_ n9_;(try clear hb);(try clear hb2);(try clear hk);(try clear hi);(try clear ho0);(try clear ho1))|((with_reducible refine Qz (N:=10) rfl ?_);(try(refine Zw (by rfl) ?_;dsimp only));refine Q7 ?hg (N:=10) ?hd (cs:=#[.slice none 0 0,.slice none 0 0,.bool false,.int .i64 0]) (t:=34) ?hr ?_;(case hd=>rfl);(case hg=>rfl);(case hr=>first|(go_simp;done)|(go_simp;rfl));intro gb431 hg w44 hbox hb;have n0_:=Aside0.mk (Kd.Q1 (by(with_reducible repeat first|apply Kd.Qi|apply Kd.Qh|apply Kd.Ql);exact HO410.out) hb);have n1_:=Aside0.mk (Kd.Q1 (by(with_reducible repeat first|apply Kd.Qi|apply Kd.Qh|apply Kd.Ql);exact HO413.out) hb);have n2_:=Aside0.mk (Kd.Q1 (by(with_reducible repeat first|apply Kd.Qi|apply Kd.Qh|apply Kd.Ql);exact HO416.out) hb);have n3_:=Aside0.mk (Kd.Q1 (by(with_reducible repeat first|apply Kd.Qi|apply Kd.Qh|apply Kd.Ql);exact HO419.out) hb);have n4_:=Aside0.mk (Kd.Q2 (Kd.Q9 (by(with_reducible repeat first|apply Kd.Qx|apply Kd.Qw|apply Kd.Q0);exact HO425.out) gb431 (Nat.le_of_eq hg.symm)) hb);have n5_:=Aside0.mk (Kd.Q2 (Kd.Q9 (by(with_reducible repeat first|apply Kd.Qx|apply Kd.Qw|apply Kd.Q0);exact HO428.out) gb431 (Nat.le_of_eq hg.symm)) hb);have n6_:=Aside0.mk (Qp (g:=gb404) (o:=.cells #[.slice A0_0 l0_0.length c0_0,.slice A0_1 l0_1.length c0_1] 24 (0,0)) (by(with_reducible repeat first|apply Qb|apply Qd|apply Qc);exact BK404.out) hb);have n7_:=Aside0.mk (Qp (g:=gb405) (o:=.cells #[.int .i64 a1_0,.int .i64 a1_1,.int .i64 a1_2,.slice A1_3 l1_3.length c1_3] 26 (0,0)) (by(with_reducible repeat first|apply Qb|apply Qd|apply Qc);exact BK405.out) hb);have n8_:=Aside0.mk (Qp (g:=gb422) (o:=.cells #[.slice Ao33 t414.length co33,.slice Ao35 t417.length co35] 24 (0,0)) (by(with_reducible repeat first|apply Qb|apply Qd|apply Qc);exact BK422.out) hb);have n9_:=Aside0.mk (Qr (by repeat(first|(with_reducible first|exact HB.out|apply Qe|apply Qa|apply Qf|refine Qg ?_ GE404.out|refine Qg ?_ GE405.out|refine Qg ?_ GE422.out)|exact HB.out)) hb);have n10_:=Aside0.mk (hbox);have n11_:=Aside0.mk ((by rw[hg];exact(Qj (by repeat(first|(with_reducible first|exact HB.out|apply Qe|apply Qa|apply Qf|refine Qg ?_ GE404.out|refine Qg ?_ GE405.out|refine Qg ?_ GE422.out)|exact HB.out))):w.heap.size≤gb431));have n12_:=Aside0.mk ((by rw[hg];exact(Qj (by repeat(first|(with_reducible first|exact HB.out|apply Qe|apply Qa|apply Qf|refine Qg ?_ GE404.out|refine Qg ?_ GE405.out|refine Qg ?_ GE422.out)|exact HB.out))):w.heap.size≤gb431));have n13_:=Aside0.mk ((by rw[hg];exact Nat.ne_of_lt (Q8 (g:=gb404) (o:=.cells #[.slice A0_0 l0_0.length c0_0,.slice A0_1 l0_1.length c0_1] 24 (0,0)) (by(with_reducible repeat first|apply Qb|apply Qd|apply Qc);exact BK404.out)):gb404≠gb431));have n14_:=Aside0.mk ((by rw[hg];exact Nat.ne_of_gt (Q8 (g:=gb404) (o:=.cells #[.slice A0_0 l0_0.length c0_0,.slice A0_1 l0_1.length c0_1] 24 (0,0)) (by(with_reducible repeat first|apply Qb|apply Qd|apply Qc);exact BK404.out)):gb431≠gb404));have n15_:=Aside0.mk ((by rw[hg];exact Nat.ne_of_lt (Q8 (g:=gb405) (o:=.cells #[.int .i64 a1_0,.int .i64 a1_1,.int .i64 a1_2,.slice A1_3 l1_3.length c1_3] 26 (0,0)) (by(with_reducible repeat first|apply Qb|apply Qd|apply Qc);exact BK405.out)):gb405≠gb431));have n16_:=Aside0.mk ((by rw[hg];exact Nat.ne_of_gt (Q8 (g:=gb405) (o:=.cells #[.int .i64 a1_0,.int .i64 a1_1,.int .i64 a1_2,.slice A1_3 l1_3.length c1_3] 26 (0,0)) (by(with_reducible repeat first|apply Qb|apply Qd|apply Qc);exact BK405.out)):gb431≠gb405));have n17_:=Aside0.mk ((by rw[hg];exact Nat.ne_of_lt (Q8 (g:=gb422) (o:=.cells #[.slice Ao33 t414.length co33,.slice Ao35 t417.length co35] 24 (0,0)) (by(with_reducible repeat first|apply Qb|apply Qd|apply Qc);exact BK422.out)):gb422≠gb431));have n18_:=Aside0.mk ((by rw[hg];exact Nat.ne_of_gt (Q8 (g:=gb422) (o:=.cells #[.slice Ao33 t414.length co33,.slice Ao35 t417.length co35] 24 (0,0)) (by(with_reducible repeat first|apply Qb|apply Qd|apply Qc);exact BK422.out)):gb431≠gb422));clear HO410;clear HO413;clear HO416;clear HO419;clear HO425;clear HO428;clear BK404;clear BK405;clear BK422;clear HB;have HO410:=n0_;have HO413:=n1_;have HO416:=n2_;have HO419:=n3_;have HO425:=n4_;have HO428:=n5_;have BK404:=n6_;have BK405:=n7_;have BK422:=n8_;have HB:=n9_;have BK431:=n10_;have GW431:=n11_;have GE431:=n12_;have NB404_431:=n13_;have NB431_404:=n14_;have NB405_431:=n15_;have NB431_405:=n16_;have NB422_431:=n17_;have NB431_422:=n18_;clear n0_ n1_ n2_ n3_ n4_ n5_ n6_ n7_ n8_ n9_ n10_ n11_ n12_ n13_ n14_ n15_ n16_ n17_ n18_;clear hb hbox hg;obtain⟨Ao45,co45,eo45⟩:=Kd.Jo HO425.out;subst eo45;have hnb46:=NB431_404.out;have hnc46:=NB404_431.out;have hnb47:=NB431_405.out;have hnc47:=NB405_431.out;have hnb48:=NB431_422.out;have hnc48:=NB422_431.out;obtain⟨hcz49_0,hcz49_1,hcz49_2,hcz49_3,hfz49_0,hfz49_1,hfz49_2,hfz49_3⟩:=qD4 BK431.out;obtain⟨Ao50,co50,eo50⟩:=Kd.Jo HO428.out;subst eo50;obtain⟨hcz51_0,hcz51_1,hfz51_0,hfz51_1⟩:=qD2 BK404.out)|((with_reducible refine Qv (f:=12) rfl ?_);refine Ze (some 40) rfl rfl Tryd.func12 kr rfl #[.agg #[.slice A0_0 l0_0.length c0_0,.slice A0_1 l0_1.length c0_1]] rfl (by(try simp only[List.map_toArray,List.map_cons,List.map_nil]);first|done|rfl|(simp only[List.length_drop,List.length_take];rfl)) ?_;(with_reducible refine(newellaw12_Own.calls _ _ l0_0 _ _ l0_1 t432 t435 _ ?side1 ?side2 ?side3 ?side4 A22.out).mono ?_);(case side1=>exact Kd.Zb HR0_0.out (by repeat(first|(with_reducible first|exact HB.out|apply Qe|apply Qa|apply Qf|refine Qg ?_ GE404.out|refine Qg ?_ GE405.out|refine Qg ?_ GE422.out|refine Qg ?_ GE431.out)|exact HB.out)));(case side2=>exact HC0_0.out);(case side3=>exact Kd.Zb HR0_1.out (by repeat(first|(with_reducible first|exact HB.out|apply Qe|apply Qa|apply Qf|refine Qg ?_ GE404.out|refine Qg ?_ GE405.out|refine Qg ?_ GE422.out|refine Qg ?_ GE431.out)|exact HB.out)));(case side4=>exact HC0_1.out);rintro e w52 ⟨v433,v436,rfl,ho0,ho1,hb⟩;refine⟨_,rfl, ?_⟩;have n0_:=Aside0.mk (Kd.Qu (Kd.Xa (Kd.Xa (Kd.Jd (by(with_reducible repeat first|apply Kd.Qi|apply Kd.Qh|apply Kd.Ql);exact(Kd.Qu (Kd.Qm (p:=⟨gb431,3,none⟩) (Kd.Qm (p:=⟨gb431,2,none⟩) (Kd.Qm (p:=⟨gb431,1,none⟩) (Kd.Qm (p:=⟨gb431,0,none⟩) (Kd.Qy HO410.out BK431.out (by decide)) (fun _ hk=>hk.2) (.slice Ao45 t423.length co45)) (fun _ hk=>hk.2) (.slice Ao50 t426.length co50)) (fun _ hk=>hk.2) (.bool t429)) (fun _ hk=>hk.2) (.int .i64 t430)) (fun _ h_=>h_.1))) hb) (Kd.Q5 ho0)) (Kd.Q5 ho1)) (fun _ h_=>h_.1));have n1_:=Aside0.mk (Kd.Qu (Kd.Xa (Kd.Xa (Kd.Jd (by(with_reducible repeat first|apply Kd.Qi|apply Kd.Qh|apply Kd.Ql);exact(Kd.Qu (Kd.Qm (p:=⟨gb431,3,none⟩) (Kd.Qm (p:=⟨gb431,2,none⟩) (Kd.Qm (p:=⟨gb431,1,none⟩) (Kd.Qm (p:=⟨gb431,0,none⟩) (Kd.Qy HO413.out BK431.out (by decide)) (fun _ hk=>hk.2) (.slice Ao45 t423.length co45)) (fun _ hk=>hk.2) (.slice Ao50 t426.length co50)) (fun _ hk=>hk.2) (.bool t429)) (fun _ hk=>hk.2) (.int .i64 t430)) (fun _ h_=>h_.1))) hb) (Kd.Q5 ho0)) (Kd.Q5 ho1)) (fun _ h_=>h_.1));have n2_:=Aside0.mk (Kd.Qu (Kd.Xa (Kd.Xa (Kd.Jd (by(with_reducible repeat first|apply Kd.Qi|apply Kd.Qh|apply Kd.Ql);exact(Kd.Qu (Kd.Qm (p:=⟨gb431,3,none⟩) (Kd.Qm (p:=⟨gb431,2,none⟩) (Kd.Qm (p:=⟨gb431,1,none⟩) (Kd.Qm (p:=⟨gb431,0,none⟩) (Kd.Qy HO416.out BK431.out (by decide)) (fun _ hk=>hk.2) (.slice Ao45 t423.length co45)) (fun _ hk=>hk.2) (.slice Ao50 t426.length co50)) (fun _ hk=>hk.2) (.bool t429)) (fun _ hk=>hk.2) (.int .i64 t430)) (fun _ h_=>h_.1))) hb) (Kd.Q5 ho0)) (Kd.Q5 ho1)) (fun _ h_=>h_.1));have n3_:=Aside0.mk (Kd.Qu (Kd.Xa (Kd.Xa (Kd.Jd (by(with_reducible repeat first|apply Kd.Qi|apply Kd.Qh|apply Kd.Ql);exact(Kd.Qu (Kd.Qm (p:=⟨gb431,3,none⟩) (Kd.Qm (p:=⟨gb431,2,none⟩) (Kd.Qm (p:=⟨gb431,1,none⟩) (Kd.Qm (p:=⟨gb431,0,none⟩) (Kd.Qy HO419.out BK431.out (by decide)) (fun _ hk=>hk.2) (.slice Ao45 t423.length co45)) (fun _ hk=>hk.2) (.slice Ao50 t426.length co50)) (fun _ hk=>hk.2) (.bool t429)) (fun _ hk=>hk.2) (.int .i64 t430)) (fun _ h_=>h_.1))) hb) (Kd.Q5 ho0)) (Kd.Q5 ho1)) (fun _ h_=>h_.1));have n4_:=Aside0.mk (Kd.Qt (Kd.Vm (Kd.Vm (Kd.Eo (by(with_reducible repeat first|apply Kd.Qx|apply Kd.Qw|apply Kd.Q0);exact(Kd.Qt (Kd.Qq (p:=⟨gb431,3,none⟩) (Kd.Qq (p:=⟨gb431,2,none⟩) (Kd.Qq (p:=⟨gb431,1,none⟩) (Kd.Qq (p:=⟨gb431,0,none⟩) (Kd.Qt HO425.out (fun k_ hk=>(⟨hk,hk.2⟩:_∧k_≠gb431))) (fun _ hk=>hk.2) (.slice Ao45 t423.length co45)) (fun _ hk=>hk.2) (.slice Ao50 t426.length co50)) (fun _ hk=>hk.2) (.bool t429)) (fun _ hk=>hk.2) (.int .i64 t430)) (fun _ h_=>h_.1))) hb) (Kd.Q5 ho0)) (Kd.Q5 ho1)) (fun _ h_=>h_.1));have n5_:=Aside0.mk (Kd.Qt (Kd.Vm (Kd.Vm (Kd.Eo (by(with_reducible repeat first|apply Kd.Qx|apply Kd.Qw|apply Kd.Q0);exact(Kd.Qt (Kd.Qq (p:=⟨gb431,3,none⟩) (Kd.Qq (p:=⟨gb431,2,none⟩) (Kd.Qq (p:=⟨gb431,1,none⟩) (Kd.Qq (p:=⟨gb431,0,none⟩) (Kd.Qt HO428.out (fun k_ hk=>(⟨hk,hk.2⟩:_∧k_≠gb431))) (fun _ hk=>hk.2) (.slice Ao45 t423.length co45)) (fun _ hk=>hk.2) (.slice Ao50 t426.length co50)) (fun _ hk=>hk.2) (.bool t429)) (fun _ hk=>hk.2) (.int .i64 t430)) (fun _ h_=>h_.1))) hb) (Kd.Q5 ho0)) (Kd.Q5 ho1)) (fun _ h_=>h_.1));have n6_:=Aside0.mk (Kd.Zd (Kd.Zi (Kd.Zi (Kd.Zi (Kd.Zi ho0 (Kd.Zp (by(with_reducible repeat first|apply Kd.Qi|apply Kd.Qh|apply Kd.Ql);exact(Kd.Qu (Kd.Qm (p:=⟨gb431,3,none⟩) (Kd.Qm (p:=⟨gb431,2,none⟩) (Kd.Qm (p:=⟨gb431,1,none⟩) (Kd.Qm (p:=⟨gb431,0,none⟩) (Kd.Qy HO410.out BK431.out (by decide)) (fun _ hk=>hk.2) (.slice Ao45 t423.length co45)) (fun _ hk=>hk.2) (.slice Ao50 t426.length co50)) (fun _ hk=>hk.2) (.bool t429)) (fun _ hk=>hk.2) (.int .i64 t430)) (fun _ h_=>h_.1))))) (Kd.Zp (by(with_reducible repeat first|apply Kd.Qi|apply Kd.Qh|apply Kd.Ql);exact(Kd.Qu (Kd.Qm (p:=⟨gb431,3,none⟩) (Kd.Qm (p:=⟨gb431,2,none⟩) (Kd.Qm (p:=⟨gb431,1,none⟩) (Kd.Qm (p:=⟨gb431,0,none⟩) (Kd.Qy HO413.out BK431.out (by decide)) (fun _ hk=>hk.2) (.slice Ao45 t423.length co45)) (fun _ hk=>hk.2) (.slice Ao50 t426.length co50)) (fun _ hk=>hk.2) (.bool t429)) (fun _ hk=>hk.2) (.int .i64 t430)) (fun _ h_=>h_.1))))) (Kd.Zp (by(with_reducible repeat first|apply Kd.Qi|apply Kd.Qh|apply Kd.Ql);exact(Kd.Qu (Kd.Qm (p:=⟨gb431,3,none⟩) (Kd.Qm (p:=⟨gb431,2,none⟩) (Kd.Qm (p:=⟨gb431,1,none⟩) (Kd.Qm (p:=⟨gb431,0,none⟩) (Kd.Qy HO416.out BK431.out (by decide)) (fun _ hk=>hk.2) (.slice Ao45 t423.length co45)) (fun _ hk=>hk.2) (.slice Ao50 t426.length co50)) (fun _ hk=>hk.2) (.bool t429)) (fun _ hk=>hk.2) (.int .i64 t430)) (fun _ h_=>h_.1))))) (Kd.Zp (by(with_reducible repeat first|apply Kd.Qi|apply Kd.Qh|apply Kd.Ql);exact(Kd.Qu (Kd.Qm (p:=⟨gb431,3,none⟩) (Kd.Qm (p:=⟨gb431,2,none⟩) (Kd.Qm (p:=⟨gb431,1,none⟩) (Kd.Qm (p:=⟨gb431,0,none⟩) (Kd.Qy HO419.out BK431.out (by decide)) (fun _ hk=>hk.2) (.slice Ao45 t423.length co45)) (fun _ hk=>hk.2) (.slice Ao50 t426.length co50)) (fun _ hk=>hk.2) (.bool t429)) (fun _ hk=>hk.2) (.int .i64 t430)) (fun _ h_=>h_.1))))) (Qj (by repeat(first|(with_reducible first|exact HB.out|apply Qe|apply Qa|apply Qf|refine Qg ?_ GE404.out|refine Qg ?_ GE405.out|refine Qg ?_ GE422.out|refine Qg ?_ GE431.out)|exact HB.out))));have n7_:=Aside0.mk (Kd.Zd (Kd.Zi (Kd.Zi (Kd.Zi (Kd.Zi ho1 (Kd.Zp (by(with_reducible repeat first|apply Kd.Qi|apply Kd.Qh|apply Kd.Ql);exact(Kd.Qu (Kd.Qm (p:=⟨gb431,3,none⟩) (Kd.Qm (p:=⟨gb431,2,none⟩) (Kd.Qm (p:=⟨gb431,1,none⟩) (Kd.Qm (p:=⟨gb431,0,none⟩) (Kd.Qy HO410.out BK431.out (by decide)) (fun _ hk=>hk.2) (.slice Ao45 t423.length co45)) (fun _ hk=>hk.2) (.slice Ao50 t426.length co50)) (fun _ hk=>hk.2) (.bool t429)) (fun _ hk=>hk.2) (.int .i64 t430)) (fun _ h_=>h_.1))))) (Kd.Zp (by(with_reducible repeat first|apply Kd.Qi|apply Kd.Qh|apply Kd.Ql);exact(Kd.Qu (Kd.Qm (p:=⟨gb431,3,none⟩) (Kd.Qm (p:=⟨gb431,2,none⟩) (Kd.Qm (p:=⟨gb431,1,none⟩) (Kd.Qm (p:=⟨gb431,0,none⟩) (Kd.Qy HO413.out BK431.out (by decide)) (fun _ hk=>hk.2) (.slice Ao45 t423.length co45)) (fun _ hk=>hk.2) (.slice Ao50 t426.length co50)) (fun _ hk=>hk.2) (.bool t429)) (fun _ hk=>hk.2) (.int .i64 t430)) (fun _ h_=>h_.1))))) (Kd.Zp (by(with_reducible repeat first|apply Kd.Qi|apply Kd.Qh|apply Kd.Ql);exact(Kd.Qu (Kd.Qm (p:=⟨gb431,3,none⟩) (Kd.Qm (p:=⟨gb431,2,none⟩) (Kd.Qm (p:=⟨gb431,1,none⟩) (Kd.Qm (p:=⟨gb431,0,none⟩) (Kd.Qy HO416.out BK431.out (by decide)) (fun _ hk=>hk.2) (.slice Ao45 t423.length co45)) (fun _ hk=>hk.2) (.slice Ao50 t426.length co50)) (fun _ hk=>hk.2) (.bool t429)) (fun _ hk=>hk.2) (.int .i64 t430)) (fun _ h_=>h_.1))))) (Kd.Zp (by(with_reducible repeat first|apply Kd.Qi|apply Kd.Qh|apply Kd.Ql);exact(Kd.Qu (Kd.Qm (p:=⟨gb431,3,none⟩) (Kd.Qm (p:=⟨gb431,2,none⟩) (Kd.Qm (p:=⟨gb431,1,none⟩) (Kd.Qm (p:=⟨gb431,0,none⟩) (Kd.Qy HO419.out BK431.out (by decide)) (fun _ hk=>hk.2) (.slice Ao45 t423.length co45)) (fun _ hk=>hk.2) (.slice Ao50 t426.length co50)) (fun _ hk=>hk.2) (.bool t429)) (fun _ hk=>hk.2) (.int .i64 t430)) (fun _ h_=>h_.1))))) (Qj (by repeat(first|(with_reducible first|exact HB.out|apply Qe|apply Qa|apply Qf|refine Qg ?_ GE404.out|refine Qg ?_ GE405.out|refine Qg ?_ GE422.out|refine Qg ?_ GE431.out)|exact HB.out))));have n8_:=Aside0.mk (Qp (g:=gb404) (o:=.cells #[.slice A0_0 l0_0.length c0_0,.slice A0_1 l0_1.length c0_1] 24 (0,0)) (by(with_reducible repeat first|apply Qb|apply Qd|apply Qc);refine Qs ?_ NB404_431.out _;(with_reducible repeat first|apply Qb|apply Qd|apply Qc);refine Qs ?_ NB404_431.out _;(with_reducible repeat first|apply Qb|apply Qd|apply Qc);refine Qs ?_ NB404_431.out _;(with_reducible repeat first|apply Qb|apply Qd|apply Qc);refine Qs ?_ NB404_431.out _;(with_reducible repeat first|apply Qb|apply Qd|apply Qc);exact BK404.out) hb);have n9_:=Aside0.mk (Qp (g:=gb405) (o:=.cells #[.int .i64 a1_0,.int .i64 a1_1,.int .i64 a1_2,.slice A1_3 l1_3.length c1_3] 26 (0,0)) (by(with_reducible repeat first|apply Qb|apply Qd|apply Qc);refine Qs ?_ NB405_431.out _;(with_reducible repeat first|apply Qb|apply Qd|apply Qc);refine Qs ?_ NB405_431.out _;(with_reducible repeat first|apply Qb|apply Qd|apply Qc);refine Qs ?_ NB405_431.out _;(with_reducible repeat first|apply Qb|apply Qd|apply Qc);refine Qs ?_ NB405_431.out _;(with_reducible repeat first|apply Qb|apply Qd|apply Qc);exact BK405.out) hb);have n10_:=Aside0.mk (Qp (g:=gb422) (o:=.cells #[.slice Ao33 t414.length co33,.slice Ao35 t417.length co35] 24 (0,0)) (by(with_reducible repeat first|apply Qb|apply Qd|apply Qc);refine Qs ?_ NB422_431.out _;(with_reducible repeat first|apply Qb|apply Qd|apply Qc);refine Qs ?_ NB422_431.out _;(with_reducible repeat first|apply Qb|apply Qd|apply Qc);refine Qs ?_ NB422_431.out _;(with_reducible repeat first|apply Qb|apply Qd|apply Qc);refine Qs ?_ NB422_431.out _;(with_reducible repeat first|apply Qb|apply Qd|apply Qc);exact BK422.out) hb);have n11_:=Aside0.mk (Qp (g:=gb431) (o:=.cells #[.slice Ao45 t423.length co45,.slice Ao50 t426.length co50,.bool t429,.int .i64 t430] 34 (0,0)) (by(with_reducible repeat first|apply Qb|apply Qd|apply Qc);refine Qk (cs:=#[.slice Ao45 t423.length co45,.slice Ao50 t426.length co50,.bool t429,.int .i64 0]) ?_ 3 _ rfl;(with_reducible repeat first|apply Qb|apply Qd|apply Qc);refine Qk (cs:=#[.slice Ao45 t423.length co45,.slice Ao50 t426.length co50,.bool false,.int .i64 0]) ?_ 2 _ rfl;(with_reducible repeat first|apply Qb|apply Qd|apply Qc);refine Qk (cs:=#[.slice Ao45 t423.length co45,.slice none 0 0,.bool false,.int .i64 0]) ?_ 1 _ rfl;(with_reducible repeat first|apply Qb|apply Qd|apply Qc);refine Qk (cs:=#[.slice none 0 0,.slice none 0 0,.bool false,.int .i64 0]) ?_ 0 _ rfl;(with_reducible repeat first|apply Qb|apply Qd|apply Qc);exact BK431.out) hb);have n12_:=Aside0.mk (Qr (by repeat(first|(with_reducible first|exact HB.out|apply Qe|apply Qa|apply Qf|refine Qg ?_ GE404.out|refine Qg ?_ GE405.out|refine Qg ?_ GE422.out|refine Qg ?_ GE431.out)|exact HB.out)) hb);clear HO410;clear HO413;clear HO416;clear HO419;clear HO425;clear HO428;clear BK404;clear BK405;clear BK422;clear BK431;clear HB;have HO410:=n0_;have HO413:=n1_;have HO416:=n2_;have HO419:=n3_;have HO425:=n4_;have HO428:=n5_;have HO434:=n6_;have HO437:=n7_;have BK404:=n8_;have BK405:=n9_;have BK422:=n10_;have BK431:=n11_;have HB:=n12_;clear n0_ n1_ n2_ n3_ n4_ n5_ n6_ n7_ n8_ n9_ n10_ n11_ n12_;(try clear hb);(try clear hb2);(try clear hk);(try clear hi);(try clear ho0);(try clear ho1);obtain⟨Ao53,co53,eo53⟩:=Kd.Zf HO434.out;subst eo53;obtain⟨Ao54,co54,eo54⟩:=Kd.Zf HO437.out;subst eo54)|((with_reducible refine Qv (f:=14) rfl ?_);refine Ze (some 41) rfl rfl Tryd.func14 kr rfl #[.agg #[.slice Ao53 t432.length co53,.slice Ao54 t435.length co54]] rfl (by(try simp only[List.map_toArray,List.map_cons,List.map_nil]);first|done|rfl|(simp only[List.length_drop,List.length_take];rfl)) ?_;(with_reducible refine(flash_Recover.calls kj3 _ _ t432 _ _ t435 t438 t439 t440 t441 t444 t445 _ ?side1 ?side2 ?side3 ?side4 A23.out (by first|exact HTAB.out|((repeat(first|exact HTAB.out|(with_reducible refine Laid.Zo ?_ _)|(with_reducible refine Laid.Zn ?_ _)|(with_reducible refine Laid.Zq ?_)));done)|(refine Laid.Zk HTAB.out ?_;(repeat(first|(with_reducible first|exact HB.out|apply Qe|apply Qa|apply Qf)|exact HB.out|(refine Qg ?_ (Aside0.out (by assumption)))))))).mono ?_);(case side1=>repeat(first|exact(Kd.Q4 HO434.out).2.2|(with_reducible refine Kd.Zc ?_ _)|(with_reducible refine Kd.Za ?_ _)|(with_reducible refine Kd.Zh ?_)));(case side2=>exact(Kd.Q4 HO434.out).2.1);(case side3=>repeat(first|exact(Kd.Q4 HO437.out).2.2|(with_reducible refine Kd.Zc ?_ _)|(with_reducible refine Kd.Za ?_ _)|(with_reducible refine Kd.Zh ?_)));(case side4=>exact(Kd.Q4 HO437.out).2.1);rintro e w55 ⟨v442,rfl,ho0,hb⟩;refine⟨_,rfl, ?_⟩;have n0_:=Aside0.mk (Kd.Zj (by(with_reducible repeat first|apply Kd.Qi|apply Kd.Qh|apply Kd.Ql);exact HO410.out) (Kd.Q5 ho0) hb);have n1_:=Aside0.mk (Kd.Zj (by(with_reducible repeat first|apply Kd.Qi|apply Kd.Qh|apply Kd.Ql);exact HO413.out) (Kd.Q5 ho0) hb);have n2_:=Aside0.mk (Kd.Zj (by(with_reducible repeat first|apply Kd.Qi|apply Kd.Qh|apply Kd.Ql);exact HO416.out) (Kd.Q5 ho0) hb);have n3_:=Aside0.mk (Kd.Zj (by(with_reducible repeat first|apply Kd.Qi|apply Kd.Qh|apply Kd.Ql);exact HO419.out) (Kd.Q5 ho0) hb);have n4_:=Aside0.mk (Kd.Ya (by(with_reducible repeat first|apply Kd.Qx|apply Kd.Qw|apply Kd.Q0);exact HO425.out) (Kd.Q5 ho0) hb);have n5_:=Aside0.mk (Kd.Ya (by(with_reducible repeat first|apply Kd.Qx|apply Kd.Qw|apply Kd.Q0);exact HO428.out) (Kd.Q5 ho0) hb);have n6_:=Aside0.mk (Kd.Zj (by(with_reducible repeat first|apply Kd.Qi|apply Kd.Qh|apply Kd.Ql);exact HO434.out) (Kd.Q5 ho0) hb);have n7_:=Aside0.mk (Kd.Zj (by(with_reducible repeat first|apply Kd.Qi|apply Kd.Qh|apply Kd.Ql);exact HO437.out) (Kd.Q5 ho0) hb);have n8_:=Aside0.mk (Kd.Zd (Kd.Zi (Kd.Zi (Kd.Zi (Kd.Zi (Kd.Zi (Kd.Zi ho0 (Kd.Zp (by(with_reducible repeat first|apply Kd.Qi|apply Kd.Qh|apply Kd.Ql);exact HO410.out))) (Kd.Zp (by(with_reducible repeat first|apply Kd.Qi|apply Kd.Qh|apply Kd.Ql);exact HO413.out))) (Kd.Zp (by(with_reducible repeat first|apply Kd.Qi|apply Kd.Qh|apply Kd.Ql);exact HO416.out))) (Kd.Zp (by(with_reducible repeat first|apply Kd.Qi|apply Kd.Qh|apply Kd.Ql);exact HO419.out))) (Kd.Zp (by(with_reducible repeat first|apply Kd.Qi|apply Kd.Qh|apply Kd.Ql);exact HO434.out))) (Kd.Zp (by(with_reducible repeat first|apply Kd.Qi|apply Kd.Qh|apply Kd.Ql);exact HO437.out))) (Qj (by repeat(first|(with_reducible first|exact HB.out|apply Qe|apply Qa|apply Qf|refine Qg ?_ GE404.out|refine Qg ?_ GE405.out|refine Qg ?_ GE422.out|refine Qg ?_ GE431.out)|exact HB.out))));have n9_:=Aside0.mk (Qp (g:=gb404) (o:=.cells #[.slice A0_0 l0_0.length c0_0,.slice A0_1 l0_1.length c0_1] 24 (0,0)) (by(with_reducible repeat first|apply Qb|apply Qd|apply Qc);exact BK404.out) hb);have n10_:=Aside0.mk (Qp (g:=gb405) (o:=.cells #[.int .i64 a1_0,.int .i64 a1_1,.int .i64 a1_2,.slice A1_3 l1_3.length c1_3] 26 (0,0)) (by(with_reducible repeat first|apply Qb|apply Qd|apply Qc);exact BK405.out) hb);have n11_:=Aside0.mk (Qp (g:=gb422) (o:=.cells #[.slice Ao33 t414.length co33,.slice Ao35 t417.length co35] 24 (0,0)) (by(with_reducible repeat first|apply Qb|apply Qd|apply Qc);exact BK422.out) hb);have n12_:=Aside0.mk (Qp (g:=gb431) (o:=.cells #[.slice Ao45 t423.length co45,.slice Ao50 t426.length co50,.bool t429,.int .i64 t430] 34 (0,0)) (by(with_reducible repeat first|apply Qb|apply Qd|apply Qc);exact BK431.out) hb);have n13_:=Aside0.mk (Qr (by repeat(first|(with_reducible first|exact HB.out|apply Qe|apply Qa|apply Qf|refine Qg ?_ GE404.out|refine Qg ?_ GE405.out|refine Qg ?_ GE422.out|refine Qg ?_ GE431.out)|exact HB.out)) hb);clear HO410;clear HO413;clear HO416;clear HO419;clear HO425;clear HO428;clear HO434;clear HO437;clear BK404;clear BK405;clear BK422;clear BK431;clear HB;have HO410:=n0_;have HO413:=n1_;have HO416:=n2_;have HO419:=n3_;have HO425:=n4_;have HO428:=n5_;have HO434:=n6_;have HO437:=n7_;have HO443:=n8_;have BK404:=n9_;have BK405:=n10_;have BK422:=n11_;have BK431:=n12_;have HB:=n13_;clear n0_ n1_ n2_ n3_ n4_ n5_ n6_ n7_ n8_ n9_ n10_ n11_ n12_ n13_;(try clear hb);(try clear hb2);(try clear hk);(try clear hi);(try clear ho0))|((with_reducible refine Qz (N:=11) rfl ?_);(try(refine Zw (by rfl) ?_;dsimp only));refine Q7 ?hg (N:=11) ?hd (cs:=#[.int .i64 0,.int .i64 0,.int .i64 0,.slice none 0 0]) (t:=26) ?hr ?_;(case hd=>rfl);(case hg=>rfl);(case hr=>first|(go_simp;done)|(go_simp;rfl));intro gb446 hg w56 hbox hb;have n0_:=Aside0.mk (Kd.Q1 (by(with_reducible repeat first|apply Kd.Qi|apply Kd.Qh|apply Kd.Ql);exact HO410.out) hb);have n1_:=Aside0.mk (Kd.Q1 (by(with_reducible repeat first|apply Kd.Qi|apply Kd.Qh|apply Kd.Ql);exact HO413.out) hb);have n2_:=Aside0.mk (Kd.Q1 (by(with_reducible repeat first|apply Kd.Qi|apply Kd.Qh|apply Kd.Ql);exact HO416.out) hb);have n3_:=Aside0.mk (Kd.Q1 (by(with_reducible repeat first|apply Kd.Qi|apply Kd.Qh|apply Kd.Ql);exact HO419.out) hb);have n4_:=Aside0.mk (Kd.Q2 (Kd.Q9 (by(with_reducible repeat first|apply Kd.Qx|apply Kd.Qw|apply Kd.Q0);exact HO425.out) gb446 (Nat.le_of_eq hg.symm)) hb);have n5_:=Aside0.mk (Kd.Q2 (Kd.Q9 (by(with_reducible repeat first|apply Kd.Qx|apply Kd.Qw|apply Kd.Q0);exact HO428.out) gb446 (Nat.le_of_eq hg.symm)) hb);have n6_:=Aside0.mk (Kd.Q1 (by(with_reducible repeat first|apply Kd.Qi|apply Kd.Qh|apply Kd.Ql);exact HO434.out) hb);have n7_:=Aside0.mk (Kd.Q1 (by(with_reducible repeat first|apply Kd.Qi|apply Kd.Qh|apply Kd.Ql);exact HO437.out) hb);have n8_:=Aside0.mk (Kd.Q1 (by(with_reducible repeat first|apply Kd.Qi|apply Kd.Qh|apply Kd.Ql);exact HO443.out) hb);have n9_:=Aside0.mk (Qp (g:=gb404) (o:=.cells #[.slice A0_0 l0_0.length c0_0,.slice A0_1 l0_1.length c0_1] 24 (0,0)) (by(with_reducible repeat first|apply Qb|apply Qd|apply Qc);exact BK404.out) hb);have n10_:=Aside0.mk (Qp (g:=gb405) (o:=.cells #[.int .i64 a1_0,.int .i64 a1_1,.int .i64 a1_2,.slice A1_3 l1_3.length c1_3] 26 (0,0)) (by(with_reducible repeat first|apply Qb|apply Qd|apply Qc);exact BK405.out) hb);have n11_:=Aside0.mk (Qp (g:=gb422) (o:=.cells #[.slice Ao33 t414.length co33,.slice Ao35 t417.length co35] 24 (0,0)) (by(with_reducible repeat first|apply Qb|apply Qd|apply Qc);exact BK422.out) hb);have n12_:=Aside0.mk (Qp (g:=gb431) (o:=.cells #[.slice Ao45 t423.length co45,.slice Ao50 t426.length co50,.bool t429,.int .i64 t430] 34 (0,0)) (by(with_reducible repeat first|apply Qb|apply Qd|apply Qc);exact BK431.out) hb);have n13_:=Aside0.mk (Qr (by repeat(first|(with_reducible first|exact HB.out|apply Qe|apply Qa|apply Qf|refine Qg ?_ GE404.out|refine Qg ?_ GE405.out|refine Qg ?_ GE422.out|refine Qg ?_ GE431.out)|exact HB.out)) hb);have n14_:=Aside0.mk (hbox);have n15_:=Aside0.mk ((by rw[hg];exact(Qj (by repeat(first|(with_reducible first|exact HB.out|apply Qe|apply Qa|apply Qf|refine Qg ?_ GE404.out|refine Qg ?_ GE405.out|refine Qg ?_ GE422.out|refine Qg ?_ GE431.out)|exact HB.out))):w.heap.size≤gb446));have n16_:=Aside0.mk ((by rw[hg];exact(Qj (by repeat(first|(with_reducible first|exact HB.out|apply Qe|apply Qa|apply Qf|refine Qg ?_ GE404.out|refine Qg ?_ GE405.out|refine Qg ?_ GE422.out|refine Qg ?_ GE431.out)|exact HB.out))):w.heap.size≤gb446));have n17_:=Aside0.mk ((by rw[hg];exact Nat.ne_of_lt (Q8 (g:=gb404) (o:=.cells #[.slice A0_0 l0_0.length c0_0,.slice A0_1 l0_1.length c0_1] 24 (0,0)) (by(with_reducible repeat first|apply Qb|apply Qd|apply Qc);exact BK404.out)):gb404≠gb446));have n18_:=Aside0.mk ((by rw[hg];exact Nat.ne_of_gt (Q8 (g:=gb404) (o:=.cells #[.slice A0_0 l0_0.length c0_0,.slice A0_1 l0_1.length c0_1] 24 (0,0)) (by(with_reducible repeat first|apply Qb|apply Qd|apply Qc);exact BK404.out)):gb446≠gb404));have n19_:=Aside0.mk ((by rw[hg];exact Nat.ne_of_lt (Q8 (g:=gb405) (o:=.cells #[.int .i64 a1_0,.int .i64 a1_1,.int .i64 a1_2,.slice A1_3 l1_3.length c1_3] 26 (0,0)) (by(with_reducible repeat first|apply Qb|apply Qd|apply Qc);exact BK405.out)):gb405≠gb446));have n20_:=Aside0.mk ((by rw[hg];exact Nat.ne_of_gt (Q8 (g:=gb405) (o:=.cells #[.int .i64 a1_0,.int .i64 a1_1,.int .i64 a1_2,.slice A1_3 l1_3.length c1_3] 26 (0,0)) (by(with_reducible repeat first|apply Qb|apply Qd|apply Qc);exact BK405.out)):gb446≠gb405));have n21_:=Aside0.mk ((by rw[hg];exact Nat.ne_of_lt (Q8 (g:=gb422) (o:=.cells #[.slice Ao33 t414.length co33,.slice Ao35 t417.length co35] 24 (0,0)) (by(with_reducible repeat first|apply Qb|apply Qd|apply Qc);exact BK422.out)):gb422≠gb446));have n22_:=Aside0.mk ((by rw[hg];exact Nat.ne_of_gt (Q8 (g:=gb422) (o:=.cells #[.slice Ao33 t414.length co33,.slice Ao35 t417.length co35] 24 (0,0)) (by(with_reducible repeat first|apply Qb|apply Qd|apply Qc);exact BK422.out)):gb446≠gb422));have n23_:=Aside0.mk ((by rw[hg];exact Nat.ne_of_lt (Q8 (g:=gb431) (o:=.cells #[.slice Ao45 t423.length co45,.slice Ao50 t426.length co50,.bool t429,.int .i64 t430] 34 (0,0)) (by(with_reducible repeat first|apply Qb|apply Qd|apply Qc);exact BK431.out)):gb431≠gb446));have n24_:=Aside0.mk ((by rw[hg];exact Nat.ne_of_gt (Q8 (g:=gb431) (o:=.cells #[.slice Ao45 t423.length co45,.slice Ao50 t426.length co50,.bool t429,.int .i64 t430] 34 (0,0)) (by(with_reducible repeat first|apply Qb|apply Qd|apply Qc);exact BK431.out)):gb446≠gb431));clear HO410;clear HO413;clear HO416;clear HO419;clear HO425;clear HO428;clear HO434;clear HO437;clear HO443;clear BK404;clear BK405;clear BK422;clear BK431;clear HB;have HO410:=n0_;have HO413:=n1_;have HO416:=n2_;have HO419:=n3_;have HO425:=n4_;have HO428:=n5_;have HO434:=n6_;have HO437:=n7_;have HO443:=n8_;have BK404:=n9_;have BK405:=n10_;have BK422:=n11_;have BK431:=n12_;have HB:=n13_;have BK446:=n14_;have GW446:=n15_;have GE446:=n16_;have NB404_446:=n17_;have NB446_404:=n18_;have NB405_446:=n19_;have NB446_405:=n20_;have NB422_446:=n21_;have NB446_422:=n22_;have NB431_446:=n23_;have NB446_431:=n24_;clear n0_ n1_ n2_ n3_ n4_ n5_ n6_ n7_ n8_ n9_ n10_ n11_ n12_ n13_ n14_ n15_ n16_ n17_ n18_ n19_ n20_ n21_ n22_ n23_ n24_;clear hb hbox hg;have hnb57:=NB446_404.out;have hnc57:=NB404_446.out;have hnb58:=NB446_405.out;have hnc58:=NB405_446.out;have hnb59:=NB446_422.out;have hnc59:=NB422_446.out;have hnb60:=NB446_431.out;have hnc60:=NB431_446.out;obtain⟨hcz61_0,hcz61_1,hcz61_2,hcz61_3,hfz61_0,hfz61_1,hfz61_2,hfz61_3⟩:=qD4 BK446.out;obtain⟨Ao62,co62,eo62⟩:=Kd.Zf HO443.out;subst eo62)|((with_reducible refine Xq (t:=26) (p:=11) rfl ?_);refine Xd (t:=26) (p:=11) (v:=?vo_w63) (w1:=((((w56.setCell ⟨gb446,0,none⟩ (.int .i64 t438)).setCell ⟨gb446,1,none⟩ (.int .i64 t439)).setCell ⟨gb446,2,none⟩ (.int .i64 t440)).setCell ⟨gb446,3,none⟩ (.slice Ao62 t441.length co62))) ?hg ?ho ?hn ?hr ?_;(case ho=>rfl);(case hg=>rfl);(case hn=>rfl);(case hr=>first|(go_simp;done)|(go_simp;rfl));intro w63 hw;have n0_:Aside0 (Kd.R (Kd.int .u8) 5 w63 w.heap.size (fun k_=>some k_≠(v412:Value).ownBlock∧some k_≠(.slice Ao33 t414.length co33:Value).ownBlock∧some k_≠(.slice Ao35 t417.length co35:Value).ownBlock∧some k_≠(.slice Ao53 t432.length co53:Value).ownBlock∧some k_≠(.slice Ao54 t435.length co54:Value).ownBlock∧some k_≠(.slice Ao62 t441.length co62:Value).ownBlock) v409 t408):=⟨(by rw[hw];exact(by(with_reducible repeat first|apply Kd.Qi|apply Kd.Qh|apply Kd.Ql);exact Kd.Qu (Kd.Qm (p:=⟨gb446,3,none⟩) (Kd.Qm (p:=⟨gb446,2,none⟩) (Kd.Qm (p:=⟨gb446,1,none⟩) (Kd.Qm (p:=⟨gb446,0,none⟩) (Kd.Qy HO410.out BK446.out (by decide)) (fun _ hk=>hk.2) (.int .i64 t438)) (fun _ hk=>hk.2) (.int .i64 t439)) (fun _ hk=>hk.2) (.int .i64 t440)) (fun _ hk=>hk.2) (.slice Ao62 t441.length co62)) (fun _ hk=>⟨hk.1.1.1.1.1,⟨hk.1.1.1.1.2.1,⟨hk.1.1.1.1.2.2,⟨hk.1.1.1.2,⟨hk.1.1.2,hk.1.2⟩⟩⟩⟩⟩)))⟩;have n1_:Aside0 (Kd.R (Kd.int .u8) 5 w63 w.heap.size (fun k_=>some k_≠(v409:Value).ownBlock∧some k_≠(.slice Ao33 t414.length co33:Value).ownBlock∧some k_≠(.slice Ao35 t417.length co35:Value).ownBlock∧some k_≠(.slice Ao53 t432.length co53:Value).ownBlock∧some k_≠(.slice Ao54 t435.length co54:Value).ownBlock∧some k_≠(.slice Ao62 t441.length co62:Value).ownBlock) v412 t411):=⟨(by rw[hw];exact(by(with_reducible repeat first|apply Kd.Qi|apply Kd.Qh|apply Kd.Ql);exact Kd.Qu (Kd.Qm (p:=⟨gb446,3,none⟩) (Kd.Qm (p:=⟨gb446,2,none⟩) (Kd.Qm (p:=⟨gb446,1,none⟩) (Kd.Qm (p:=⟨gb446,0,none⟩) (Kd.Qy HO413.out BK446.out (by decide)) (fun _ hk=>hk.2) (.int .i64 t438)) (fun _ hk=>hk.2) (.int .i64 t439)) (fun _ hk=>hk.2) (.int .i64 t440)) (fun _ hk=>hk.2) (.slice Ao62 t441.length co62)) (fun _ hk=>⟨hk.1.1.1.1.1,⟨hk.1.1.1.1.2.1,⟨hk.1.1.1.1.2.2,⟨hk.1.1.1.2,⟨hk.1.1.2,hk.1.2⟩⟩⟩⟩⟩)))⟩;have n2_:Aside0 (Kd.R (Kd.int .u8) 5 w63 w.heap.size (fun k_=>some k_≠(v409:Value).ownBlock∧some k_≠(v412:Value).ownBlock∧some k_≠(.slice Ao35 t417.length co35:Value).ownBlock∧some k_≠(.slice Ao53 t432.length co53:Value).ownBlock∧some k_≠(.slice Ao54 t435.length co54:Value).ownBlock∧some k_≠(.slice Ao62 t441.length co62:Value).ownBlock) (.slice Ao33 t414.length co33) t414):=⟨(by rw[hw];exact(by(with_reducible repeat first|apply Kd.Qi|apply Kd.Qh|apply Kd.Ql);exact Kd.Qu (Kd.Qm (p:=⟨gb446,3,none⟩) (Kd.Qm (p:=⟨gb446,2,none⟩) (Kd.Qm (p:=⟨gb446,1,none⟩) (Kd.Qm (p:=⟨gb446,0,none⟩) (Kd.Qy HO416.out BK446.out (by decide)) (fun _ hk=>hk.2) (.int .i64 t438)) (fun _ hk=>hk.2) (.int .i64 t439)) (fun _ hk=>hk.2) (.int .i64 t440)) (fun _ hk=>hk.2) (.slice Ao62 t441.length co62)) (fun _ hk=>⟨hk.1.1.1.1.1,⟨hk.1.1.1.1.2.1,⟨hk.1.1.1.1.2.2,⟨hk.1.1.1.2,⟨hk.1.1.2,hk.1.2⟩⟩⟩⟩⟩)))⟩;have n3_:Aside0 (Kd.R (Kd.int .u8) 5 w63 w.heap.size (fun k_=>some k_≠(v409:Value).ownBlock∧some k_≠(v412:Value).ownBlock∧some k_≠(.slice Ao33 t414.length co33:Value).ownBlock∧some k_≠(.slice Ao53 t432.length co53:Value).ownBlock∧some k_≠(.slice Ao54 t435.length co54:Value).ownBlock∧some k_≠(.slice Ao62 t441.length co62:Value).ownBlock) (.slice Ao35 t417.length co35) t417):=⟨(by rw[hw];exact(by(with_reducible repeat first|apply Kd.Qi|apply Kd.Qh|apply Kd.Ql);exact Kd.Qu (Kd.Qm (p:=⟨gb446,3,none⟩) (Kd.Qm (p:=⟨gb446,2,none⟩) (Kd.Qm (p:=⟨gb446,1,none⟩) (Kd.Qm (p:=⟨gb446,0,none⟩) (Kd.Qy HO419.out BK446.out (by decide)) (fun _ hk=>hk.2) (.int .i64 t438)) (fun _ hk=>hk.2) (.int .i64 t439)) (fun _ hk=>hk.2) (.int .i64 t440)) (fun _ hk=>hk.2) (.slice Ao62 t441.length co62)) (fun _ hk=>⟨hk.1.1.1.1.1,⟨hk.1.1.1.1.2.1,⟨hk.1.1.1.1.2.2,⟨hk.1.1.1.2,⟨hk.1.1.2,hk.1.2⟩⟩⟩⟩⟩)))⟩;have n4_:Aside0 (Kd.V (Kd.int .u8) 5 w63 w.heap.size (fun k_=>some k_≠(v409:Value).ownBlock∧some k_≠(v412:Value).ownBlock∧some k_≠(.slice Ao33 t414.length co33:Value).ownBlock∧some k_≠(.slice Ao35 t417.length co35:Value).ownBlock∧some k_≠(.slice Ao53 t432.length co53:Value).ownBlock∧some k_≠(.slice Ao54 t435.length co54:Value).ownBlock∧some k_≠(.slice Ao62 t441.length co62:Value).ownBlock∧k_≠gb404∧k_≠gb405∧k_≠gb422∧k_≠gb431∧k_≠gb446) (.slice Ao45 t423.length co45) t423):=⟨(by rw[hw];exact(by(with_reducible repeat first|apply Kd.Qx|apply Kd.Qw|apply Kd.Q0);exact Kd.Qt (Kd.Qq (p:=⟨gb446,3,none⟩) (Kd.Qq (p:=⟨gb446,2,none⟩) (Kd.Qq (p:=⟨gb446,1,none⟩) (Kd.Qq (p:=⟨gb446,0,none⟩) (Kd.Qt HO425.out (fun k_ hk=>(⟨hk,hk.2⟩:_∧k_≠gb446))) (fun _ hk=>hk.2) (.int .i64 t438)) (fun _ hk=>hk.2) (.int .i64 t439)) (fun _ hk=>hk.2) (.int .i64 t440)) (fun _ hk=>hk.2) (.slice Ao62 t441.length co62)) (fun _ hk=>⟨hk.1.1.1.1.1.1.1,⟨hk.1.1.1.1.1.1.2.1,⟨hk.1.1.1.1.1.1.2.2.1,⟨hk.1.1.1.1.1.1.2.2.2.1,⟨hk.1.1.1.1.2,⟨hk.1.1.1.2,⟨hk.1.1.2,⟨hk.1.1.1.1.1.1.2.2.2.2.1,⟨hk.1.1.1.1.1.1.2.2.2.2.2.1,⟨hk.1.1.1.1.1.1.2.2.2.2.2.2,⟨hk.1.1.1.1.1.2,hk.1.2⟩⟩⟩⟩⟩⟩⟩⟩⟩⟩⟩)))⟩;have n5_:Aside0 (Kd.V (Kd.int .u8) 5 w63 w.heap.size (fun k_=>some k_≠(v409:Value).ownBlock∧some k_≠(v412:Value).ownBlock∧some k_≠(.slice Ao33 t414.length co33:Value).ownBlock∧some k_≠(.slice Ao35 t417.length co35:Value).ownBlock∧some k_≠(.slice Ao53 t432.length co53:Value).ownBlock∧some k_≠(.slice Ao54 t435.length co54:Value).ownBlock∧some k_≠(.slice Ao62 t441.length co62:Value).ownBlock∧k_≠gb404∧k_≠gb405∧k_≠gb422∧k_≠gb431∧k_≠gb446) (.slice Ao50 t426.length co50) t426):=⟨(by rw[hw];exact(by(with_reducible repeat first|apply Kd.Qx|apply Kd.Qw|apply Kd.Q0);exact Kd.Qt (Kd.Qq (p:=⟨gb446,3,none⟩) (Kd.Qq (p:=⟨gb446,2,none⟩) (Kd.Qq (p:=⟨gb446,1,none⟩) (Kd.Qq (p:=⟨gb446,0,none⟩) (Kd.Qt HO428.out (fun k_ hk=>(⟨hk,hk.2⟩:_∧k_≠gb446))) (fun _ hk=>hk.2) (.int .i64 t438)) (fun _ hk=>hk.2) (.int .i64 t439)) (fun _ hk=>hk.2) (.int .i64 t440)) (fun _ hk=>hk.2) (.slice Ao62 t441.length co62)) (fun _ hk=>⟨hk.1.1.1.1.1.1.1,⟨hk.1.1.1.1.1.1.2.1,⟨hk.1.1.1.1.1.1.2.2.1,⟨hk.1.1.1.1.1.1.2.2.2.1,⟨hk.1.1.1.1.2,⟨hk.1.1.1.2,⟨hk.1.1.2,⟨hk.1.1.1.1.1.1.2.2.2.2.1,⟨hk.1.1.1.1.1.1.2.2.2.2.2.1,⟨hk.1.1.1.1.1.1.2.2.2.2.2.2,⟨hk.1.1.1.1.1.2,hk.1.2⟩⟩⟩⟩⟩⟩⟩⟩⟩⟩⟩)))⟩;have n6_:Aside0 (Kd.R (Kd.int .u8) 5 w63 w.heap.size (fun k_=>some k_≠(v409:Value).ownBlock∧some k_≠(v412:Value).ownBlock∧some k_≠(.slice Ao33 t414.length co33:Value).ownBlock∧some k_≠(.slice Ao35 t417.length co35:Value).ownBlock∧some k_≠(.slice Ao54 t435.length co54:Value).ownBlock∧some k_≠(.slice Ao62 t441.length co62:Value).ownBlock) (.slice Ao53 t432.length co53) t432):=⟨(by rw[hw];exact(by(with_reducible repeat first|apply Kd.Qi|apply Kd.Qh|apply Kd.Ql);exact Kd.Qu (Kd.Qm (p:=⟨gb446,3,none⟩) (Kd.Qm (p:=⟨gb446,2,none⟩) (Kd.Qm (p:=⟨gb446,1,none⟩) (Kd.Qm (p:=⟨gb446,0,none⟩) (Kd.Qy HO434.out BK446.out (by decide)) (fun _ hk=>hk.2) (.int .i64 t438)) (fun _ hk=>hk.2) (.int .i64 t439)) (fun _ hk=>hk.2) (.int .i64 t440)) (fun _ hk=>hk.2) (.slice Ao62 t441.length co62)) (fun _ hk=>⟨hk.1.1.1.1.1.2,⟨hk.1.1.1.1.2,⟨hk.1.1.1.2,⟨hk.1.1.2,⟨hk.1.1.1.1.1.1,hk.1.2⟩⟩⟩⟩⟩)))⟩;have n7_:Aside0 (Kd.R (Kd.int .u8) 5 w63 w.heap.size (fun k_=>some k_≠(v409:Value).ownBlock∧some k_≠(v412:Value).ownBlock∧some k_≠(.slice Ao33 t414.length co33:Value).ownBlock∧some k_≠(.slice Ao35 t417.length co35:Value).ownBlock∧some k_≠(.slice Ao53 t432.length co53:Value).ownBlock∧some k_≠(.slice Ao62 t441.length co62:Value).ownBlock) (.slice Ao54 t435.length co54) t435):=⟨(by rw[hw];exact(by(with_reducible repeat first|apply Kd.Qi|apply Kd.Qh|apply Kd.Ql);exact Kd.Qu (Kd.Qm (p:=⟨gb446,3,none⟩) (Kd.Qm (p:=⟨gb446,2,none⟩) (Kd.Qm (p:=⟨gb446,1,none⟩) (Kd.Qm (p:=⟨gb446,0,none⟩) (Kd.Qy HO437.out BK446.out (by decide)) (fun _ hk=>hk.2) (.int .i64 t438)) (fun _ hk=>hk.2) (.int .i64 t439)) (fun _ hk=>hk.2) (.int .i64 t440)) (fun _ hk=>hk.2) (.slice Ao62 t441.length co62)) (fun _ hk=>⟨hk.1.1.1.1.1.2,⟨hk.1.1.1.1.2,⟨hk.1.1.1.2,⟨hk.1.1.2,⟨hk.1.1.1.1.1.1,hk.1.2⟩⟩⟩⟩⟩)))⟩;have n8_:Aside0 (Kd.R (Kd.int .u8) 5 w63 w.heap.size (fun k_=>some k_≠(v409:Value).ownBlock∧some k_≠(v412:Value).ownBlock∧some k_≠(.slice Ao33 t414.length co33:Value).ownBlock∧some k_≠(.slice Ao35 t417.length co35:Value).ownBlock∧some k_≠(.slice Ao53 t432.length co53:Value).ownBlock∧some k_≠(.slice Ao54 t435.length co54:Value).ownBlock) (.slice Ao62 t441.length co62) t441):=⟨(by rw[hw];exact(by(with_reducible repeat first|apply Kd.Qi|apply Kd.Qh|apply Kd.Ql);exact Kd.Qu (Kd.Qm (p:=⟨gb446,3,none⟩) (Kd.Qm (p:=⟨gb446,2,none⟩) (Kd.Qm (p:=⟨gb446,1,none⟩) (Kd.Qm (p:=⟨gb446,0,none⟩) (Kd.Qy HO443.out BK446.out (by decide)) (fun _ hk=>hk.2) (.int .i64 t438)) (fun _ hk=>hk.2) (.int .i64 t439)) (fun _ hk=>hk.2) (.int .i64 t440)) (fun _ hk=>hk.2) (.slice Ao62 t441.length co62)) (fun _ hk=>⟨hk.1.1.1.1.1.1.2,⟨hk.1.1.1.1.1.2,⟨hk.1.1.1.1.2,⟨hk.1.1.1.2,⟨hk.1.1.2,hk.1.2⟩⟩⟩⟩⟩)))⟩;have n9_:Aside0 (w63.heap[gb404]?=some (.cells #[.slice A0_0 l0_0.length c0_0,.slice A0_1 l0_1.length c0_1] 24 (0,0))):=⟨(by rw[hw];exact(by(with_reducible repeat first|apply Qb|apply Qd|apply Qc);refine Qs ?_ NB404_446.out _;(with_reducible repeat first|apply Qb|apply Qd|apply Qc);refine Qs ?_ NB404_446.out _;(with_reducible repeat first|apply Qb|apply Qd|apply Qc);refine Qs ?_ NB404_446.out _;(with_reducible repeat first|apply Qb|apply Qd|apply Qc);refine Qs ?_ NB404_446.out _;(with_reducible repeat first|apply Qb|apply Qd|apply Qc);exact BK404.out))⟩;have n10_:Aside0 (w63.heap[gb405]?=some (.cells #[.int .i64 a1_0,.int .i64 a1_1,.int .i64 a1_2,.slice A1_3 l1_3.length c1_3] 26 (0,0))):=⟨(by rw[hw];exact(by(with_reducible repeat first|apply Qb|apply Qd|apply Qc);refine Qs ?_ NB405_446.out _;(with_reducible repeat first|apply Qb|apply Qd|apply Qc);refine Qs ?_ NB405_446.out _;(with_reducible repeat first|apply Qb|apply Qd|apply Qc);refine Qs ?_ NB405_446.out _;(with_reducible repeat first|apply Qb|apply Qd|apply Qc);refine Qs ?_ NB405_446.out _;(with_reducible repeat first|apply Qb|apply Qd|apply Qc);exact BK405.out))⟩;have n11_:Aside0 (w63.heap[gb422]?=some (.cells #[.slice Ao33 t414.length co33,.slice Ao35 t417.length co35] 24 (0,0))):=⟨(by rw[hw];exact(by(with_reducible repeat first|apply Qb|apply Qd|apply Qc);refine Qs ?_ NB422_446.out _;(with_reducible repeat first|apply Qb|apply Qd|apply Qc);refine Qs ?_ NB422_446.out _;(with_reducible repeat first|apply Qb|apply Qd|apply Qc);refine Qs ?_ NB422_446.out _;(with_reducible repeat first|apply Qb|apply Qd|apply Qc);refine Qs ?_ NB422_446.out _;(with_reducible repeat first|apply Qb|apply Qd|apply Qc);exact BK422.out))⟩;have n12_:Aside0 (w63.heap[gb431]?=some (.cells #[.slice Ao45 t423.length co45,.slice Ao50 t426.length co50,.bool t429,.int .i64 t430] 34 (0,0))):=⟨(by rw[hw];exact(by(with_reducible repeat first|apply Qb|apply Qd|apply Qc);refine Qs ?_ NB431_446.out _;(with_reducible repeat first|apply Qb|apply Qd|apply Qc);refine Qs ?_ NB431_446.out _;(with_reducible repeat first|apply Qb|apply Qd|apply Qc);refine Qs ?_ NB431_446.out _;(with_reducible repeat first|apply Qb|apply Qd|apply Qc);refine Qs ?_ NB431_446.out _;(with_reducible repeat first|apply Qb|apply Qd|apply Qc);exact BK431.out))⟩;have n13_:Aside0 (w63.heap[gb446]?=some (.cells #[.int .i64 t438,.int .i64 t439,.int .i64 t440,.slice Ao62 t441.length co62] 26 (0,0))):=⟨(by rw[hw];exact(by(with_reducible repeat first|apply Qb|apply Qd|apply Qc);refine Qk (cs:=#[.int .i64 t438,.int .i64 t439,.int .i64 t440,.slice none 0 0]) ?_ 3 _ rfl;(with_reducible repeat first|apply Qb|apply Qd|apply Qc);refine Qk (cs:=#[.int .i64 t438,.int .i64 t439,.int .i64 0,.slice none 0 0]) ?_ 2 _ rfl;(with_reducible repeat first|apply Qb|apply Qd|apply Qc);refine Qk (cs:=#[.int .i64 t438,.int .i64 0,.int .i64 0,.slice none 0 0]) ?_ 1 _ rfl;(with_reducible repeat first|apply Qb|apply Qd|apply Qc);refine Qk (cs:=#[.int .i64 0,.int .i64 0,.int .i64 0,.slice none 0 0]) ?_ 0 _ rfl;(with_reducible repeat first|apply Qb|apply Qd|apply Qc);exact BK446.out))⟩;have n14_:Aside0 (Below w.heap.size w w63):=⟨(by rw[hw];exact(by repeat(first|(with_reducible first|exact HB.out|apply Qe|apply Qa|apply Qf|refine Qg ?_ GE404.out|refine Qg ?_ GE405.out|refine Qg ?_ GE422.out|refine Qg ?_ GE431.out|refine Qg ?_ GE446.out)|exact HB.out)))⟩;clear hw;clear HO410;clear HO413;clear HO416;clear HO419;clear HO425;clear HO428;clear HO434;clear HO437;clear HO443;clear BK404;clear BK405;clear BK422;clear BK431;clear BK446;clear HB;have HO410:=n0_;have HO413:=n1_;have HO416:=n2_;have HO419:=n3_;have HO425:=n4_;have HO428:=n5_;have HO434:=n6_;have HO437:=n7_;have HO443:=n8_;have BK404:=n9_;have BK405:=n10_;have BK422:=n11_;have BK431:=n12_;have BK446:=n13_;have HB:=n14_;clear n0_ n1_ n2_ n3_ n4_ n5_ n6_ n7_ n8_ n9_ n10_ n11_ n12_ n13_ n14_;obtain⟨hcz64_0,hcz64_1,hfz64_0,hfz64_1⟩:=qD2 BK404.out)|((with_reducible refine Qv (f:=15) rfl ?_);refine Ze (some 46) rfl rfl Tryd.func15 kr rfl #[.agg #[.slice A0_0 l0_0.length c0_0,.slice A0_1 l0_1.length c0_1]] rfl (by(try simp only[List.map_toArray,List.map_cons,List.map_nil]);first|done|rfl|(simp only[List.length_drop,List.length_take];rfl)) ?_;(with_reducible refine(newelref12_Recover.calls kj3 (fun k_=>k_<w.heap.size) _ _ l0_0 (fun k_=>k_<w.heap.size) _ _ l0_1 t447 t448 t449 t450 t453 t454 _ ?side1 ?side2 A24.out).mono ?_);(case side1=>exact Kd.Vn HC0_0.out (Kd.Y2 (Kd.C_F (Kd.J8 .u8) HR0_0.out) (by repeat(first|(with_reducible first|exact HB.out|apply Qe|apply Qa|apply Qf|refine Qg ?_ GE404.out|refine Qg ?_ GE405.out|refine Qg ?_ GE422.out|refine Qg ?_ GE431.out|refine Qg ?_ GE446.out)|exact HB.out))));(case side2=>exact Kd.Vn HC0_1.out (Kd.Y2 (Kd.C_F (Kd.J8 .u8) HR0_1.out) (by repeat(first|(with_reducible first|exact HB.out|apply Qe|apply Qa|apply Qf|refine Qg ?_ GE404.out|refine Qg ?_ GE405.out|refine Qg ?_ GE422.out|refine Qg ?_ GE431.out|refine Qg ?_ GE446.out)|exact HB.out))));rintro e w65 ⟨v451,rfl,ho0,hb⟩;refine⟨_,rfl, ?_⟩;have n0_:=Aside0.mk (Kd.Q1 (by(with_reducible repeat first|apply Kd.Qi|apply Kd.Qh|apply Kd.Ql);exact HO410.out) hb);have n1_:=Aside0.mk (Kd.Q1 (by(with_reducible repeat first|apply Kd.Qi|apply Kd.Qh|apply Kd.Ql);exact HO413.out) hb);have n2_:=Aside0.mk (Kd.Q1 (by(with_reducible repeat first|apply Kd.Qi|apply Kd.Qh|apply Kd.Ql);exact HO416.out) hb);have n3_:=Aside0.mk (Kd.Q1 (by(with_reducible repeat first|apply Kd.Qi|apply Kd.Qh|apply Kd.Ql);exact HO419.out) hb);have n4_:=Aside0.mk (Kd.Q2 (by(with_reducible repeat first|apply Kd.Qx|apply Kd.Qw|apply Kd.Q0);exact HO425.out) hb);have n5_:=Aside0.mk (Kd.Q2 (by(with_reducible repeat first|apply Kd.Qx|apply Kd.Qw|apply Kd.Q0);exact HO428.out) hb);have n6_:=Aside0.mk (Kd.Q1 (by(with_reducible repeat first|apply Kd.Qi|apply Kd.Qh|apply Kd.Ql);exact HO434.out) hb);have n7_:=Aside0.mk (Kd.Q1 (by(with_reducible repeat first|apply Kd.Qi|apply Kd.Qh|apply Kd.Ql);exact HO437.out) hb);have n8_:=Aside0.mk (Kd.Q1 (by(with_reducible repeat first|apply Kd.Qi|apply Kd.Qh|apply Kd.Ql);exact HO443.out) hb);have n9_:=Aside0.mk (Kd.Y1 (Kd.Qt (ok':=fun k_=>some k_≠(v409:Value).ownBlock∧some k_≠(v412:Value).ownBlock∧some k_≠(.slice Ao33 t414.length co33:Value).ownBlock∧some k_≠(.slice Ao35 t417.length co35:Value).ownBlock∧some k_≠(.slice Ao53 t432.length co53:Value).ownBlock∧some k_≠(.slice Ao54 t435.length co54:Value).ownBlock∧some k_≠(.slice Ao62 t441.length co62:Value).ownBlock∧k_≠gb404∧k_≠gb405∧k_≠gb422∧k_≠gb431∧k_≠gb446) ho0 (fun k_ hk_=>⟨Or.elim hk_ (fun hs_=>Or.elim hs_ (fun hs_=>fun e_=>Nat.not_le.2 hs_ (Kd.Q5 HO410.out k_ e_.symm)) (fun hs_=>fun e_=>Nat.not_le.2 hs_ (Kd.Q5 HO410.out k_ e_.symm))) (fun hn_=>(Kd.fresh' (Kd.Zp (by(with_reducible repeat first|apply Kd.Qi|apply Kd.Qh|apply Kd.Ql);exact HO410.out)) k_ hn_)),Or.elim hk_ (fun hs_=>Or.elim hs_ (fun hs_=>fun e_=>Nat.not_le.2 hs_ (Kd.Q5 HO413.out k_ e_.symm)) (fun hs_=>fun e_=>Nat.not_le.2 hs_ (Kd.Q5 HO413.out k_ e_.symm))) (fun hn_=>(Kd.fresh' (Kd.Zp (by(with_reducible repeat first|apply Kd.Qi|apply Kd.Qh|apply Kd.Ql);exact HO413.out)) k_ hn_)),Or.elim hk_ (fun hs_=>Or.elim hs_ (fun hs_=>fun e_=>Nat.not_le.2 hs_ (Kd.Q5 HO416.out k_ e_.symm)) (fun hs_=>fun e_=>Nat.not_le.2 hs_ (Kd.Q5 HO416.out k_ e_.symm))) (fun hn_=>(Kd.fresh' (Kd.Zp (by(with_reducible repeat first|apply Kd.Qi|apply Kd.Qh|apply Kd.Ql);exact HO416.out)) k_ hn_)),Or.elim hk_ (fun hs_=>Or.elim hs_ (fun hs_=>fun e_=>Nat.not_le.2 hs_ (Kd.Q5 HO419.out k_ e_.symm)) (fun hs_=>fun e_=>Nat.not_le.2 hs_ (Kd.Q5 HO419.out k_ e_.symm))) (fun hn_=>(Kd.fresh' (Kd.Zp (by(with_reducible repeat first|apply Kd.Qi|apply Kd.Qh|apply Kd.Ql);exact HO419.out)) k_ hn_)),Or.elim hk_ (fun hs_=>Or.elim hs_ (fun hs_=>fun e_=>Nat.not_le.2 hs_ (Kd.Q5 HO434.out k_ e_.symm)) (fun hs_=>fun e_=>Nat.not_le.2 hs_ (Kd.Q5 HO434.out k_ e_.symm))) (fun hn_=>(Kd.fresh' (Kd.Zp (by(with_reducible repeat first|apply Kd.Qi|apply Kd.Qh|apply Kd.Ql);exact HO434.out)) k_ hn_)),Or.elim hk_ (fun hs_=>Or.elim hs_ (fun hs_=>fun e_=>Nat.not_le.2 hs_ (Kd.Q5 HO437.out k_ e_.symm)) (fun hs_=>fun e_=>Nat.not_le.2 hs_ (Kd.Q5 HO437.out k_ e_.symm))) (fun hn_=>(Kd.fresh' (Kd.Zp (by(with_reducible repeat first|apply Kd.Qi|apply Kd.Qh|apply Kd.Ql);exact HO437.out)) k_ hn_)),Or.elim hk_ (fun hs_=>Or.elim hs_ (fun hs_=>fun e_=>Nat.not_le.2 hs_ (Kd.Q5 HO443.out k_ e_.symm)) (fun hs_=>fun e_=>Nat.not_le.2 hs_ (Kd.Q5 HO443.out k_ e_.symm))) (fun hn_=>(Kd.fresh' (Kd.Zp (by(with_reducible repeat first|apply Kd.Qi|apply Kd.Qh|apply Kd.Ql);exact HO443.out)) k_ hn_)),Or.elim hk_ (fun hs_=>Or.elim hs_ (fun hs_=>fun e_=>Nat.not_le.2 hs_ (by rw[e_];exact GW404.out)) (fun hs_=>fun e_=>Nat.not_le.2 hs_ (by rw[e_];exact GW404.out))) (fun hn_=>(Kd.Z5 (g:=gb404) (o:=.cells #[.slice A0_0 l0_0.length c0_0,.slice A0_1 l0_1.length c0_1] 24 (0,0)) (by(with_reducible repeat first|apply Qb|apply Qd|apply Qc);exact BK404.out) k_ hn_)),Or.elim hk_ (fun hs_=>Or.elim hs_ (fun hs_=>fun e_=>Nat.not_le.2 hs_ (by rw[e_];exact GW405.out)) (fun hs_=>fun e_=>Nat.not_le.2 hs_ (by rw[e_];exact GW405.out))) (fun hn_=>(Kd.Z5 (g:=gb405) (o:=.cells #[.int .i64 a1_0,.int .i64 a1_1,.int .i64 a1_2,.slice A1_3 l1_3.length c1_3] 26 (0,0)) (by(with_reducible repeat first|apply Qb|apply Qd|apply Qc);exact BK405.out) k_ hn_)),Or.elim hk_ (fun hs_=>Or.elim hs_ (fun hs_=>fun e_=>Nat.not_le.2 hs_ (by rw[e_];exact GW422.out)) (fun hs_=>fun e_=>Nat.not_le.2 hs_ (by rw[e_];exact GW422.out))) (fun hn_=>(Kd.Z5 (g:=gb422) (o:=.cells #[.slice Ao33 t414.length co33,.slice Ao35 t417.length co35] 24 (0,0)) (by(with_reducible repeat first|apply Qb|apply Qd|apply Qc);exact BK422.out) k_ hn_)),Or.elim hk_ (fun hs_=>Or.elim hs_ (fun hs_=>fun e_=>Nat.not_le.2 hs_ (by rw[e_];exact GW431.out)) (fun hs_=>fun e_=>Nat.not_le.2 hs_ (by rw[e_];exact GW431.out))) (fun hn_=>(Kd.Z5 (g:=gb431) (o:=.cells #[.slice Ao45 t423.length co45,.slice Ao50 t426.length co50,.bool t429,.int .i64 t430] 34 (0,0)) (by(with_reducible repeat first|apply Qb|apply Qd|apply Qc);exact BK431.out) k_ hn_)),Or.elim hk_ (fun hs_=>Or.elim hs_ (fun hs_=>fun e_=>Nat.not_le.2 hs_ (by rw[e_];exact GW446.out)) (fun hs_=>fun e_=>Nat.not_le.2 hs_ (by rw[e_];exact GW446.out))) (fun hn_=>(Kd.Z5 (g:=gb446) (o:=.cells #[.int .i64 t438,.int .i64 t439,.int .i64 t440,.slice Ao62 t441.length co62] 26 (0,0)) (by(with_reducible repeat first|apply Qb|apply Qd|apply Qc);exact BK446.out) k_ hn_))⟩)) (Qj (by repeat(first|(with_reducible first|exact HB.out|apply Qe|apply Qa|apply Qf|refine Qg ?_ GE404.out|refine Qg ?_ GE405.out|refine Qg ?_ GE422.out|refine Qg ?_ GE431.out|refine Qg ?_ GE446.out)|exact HB.out))));have n10_:=Aside0.mk (Qp (g:=gb404) (o:=.cells #[.slice A0_0 l0_0.length c0_0,.slice A0_1 l0_1.length c0_1] 24 (0,0)) (by(with_reducible repeat first|apply Qb|apply Qd|apply Qc);exact BK404.out) hb);have n11_:=Aside0.mk (Qp (g:=gb405) (o:=.cells #[.int .i64 a1_0,.int .i64 a1_1,.int .i64 a1_2,.slice A1_3 l1_3.length c1_3] 26 (0,0)) (by(with_reducible repeat first|apply Qb|apply Qd|apply Qc);exact BK405.out) hb);have n12_:=Aside0.mk (Qp (g:=gb422) (o:=.cells #[.slice Ao33 t414.length co33,.slice Ao35 t417.length co35] 24 (0,0)) (by(with_reducible repeat first|apply Qb|apply Qd|apply Qc);exact BK422.out) hb);have n13_:=Aside0.mk (Qp (g:=gb431) (o:=.cells #[.slice Ao45 t423.length co45,.slice Ao50 t426.length co50,.bool t429,.int .i64 t430] 34 (0,0)) (by(with_reducible repeat first|apply Qb|apply Qd|apply Qc);exact BK431.out) hb);have n14_:=Aside0.mk (Qp (g:=gb446) (o:=.cells #[.int .i64 t438,.int .i64 t439,.int .i64 t440,.slice Ao62 t441.length co62] 26 (0,0)) (by(with_reducible repeat first|apply Qb|apply Qd|apply Qc);exact BK446.out) hb);have n15_:=Aside0.mk (Qr (by repeat(first|(with_reducible first|exact HB.out|apply Qe|apply Qa|apply Qf|refine Qg ?_ GE404.out|refine Qg ?_ GE405.out|refine Qg ?_ GE422.out|refine Qg ?_ GE431.out|refine Qg ?_ GE446.out)|exact HB.out)) hb);clear HO410;clear HO413;clear HO416;clear HO419;clear HO425;clear HO428;clear HO434;clear HO437;clear HO443;clear BK404;clear BK405;clear BK422;clear BK431;clear BK446;clear HB;have HO410:=n0_;have HO413:=n1_;have HO416:=n2_;have HO419:=n3_;have HO425:=n4_;have HO428:=n5_;have HO434:=n6_;have HO437:=n7_;have HO443:=n8_;have HO452:=n9_;have BK404:=n10_;have BK405:=n11_;have BK422:=n12_;have BK431:=n13_;have BK446:=n14_;have HB:=n15_;clear n0_ n1_ n2_ n3_ n4_ n5_ n6_ n7_ n8_ n9_ n10_ n11_ n12_ n13_ n14_ n15_;(try clear hb);(try clear hb2);(try clear hk);(try clear hi);(try clear ho0))|((with_reducible refine Qz (N:=14) rfl ?_);(try(refine Zw (by rfl) ?_;dsimp only));refine Q7 ?hg (N:=14) ?hd (cs:=#[.int .i64 0,.int .i64 0,.int .i64 0,.slice none 0 0,.bool false,.bool false]) (t:=39) ?hr ?_;(case hd=>rfl);(case hg=>rfl);(case hr=>first|(go_simp;done)|(go_simp;rfl));intro gb455 hg w66 hbox hb;have n0_:=Aside0.mk (Kd.Q1 (by(with_reducible repeat first|apply Kd.Qi|apply Kd.Qh|apply Kd.Ql);exact HO410.out) hb);have n1_:=Aside0.mk (Kd.Q1 (by(with_reducible repeat first|apply Kd.Qi|apply Kd.Qh|apply Kd.Ql);exact HO413.out) hb);have n2_:=Aside0.mk (Kd.Q1 (by(with_reducible repeat first|apply Kd.Qi|apply Kd.Qh|apply Kd.Ql);exact HO416.out) hb);have n3_:=Aside0.mk (Kd.Q1 (by(with_reducible repeat first|apply Kd.Qi|apply Kd.Qh|apply Kd.Ql);exact HO419.out) hb);have n4_:=Aside0.mk (Kd.Q2 (Kd.Q9 (by(with_reducible repeat first|apply Kd.Qx|apply Kd.Qw|apply Kd.Q0);exact HO425.out) gb455 (Nat.le_of_eq hg.symm)) hb);have n5_:=Aside0.mk (Kd.Q2 (Kd.Q9 (by(with_reducible repeat first|apply Kd.Qx|apply Kd.Qw|apply Kd.Q0);exact HO428.out) gb455 (Nat.le_of_eq hg.symm)) hb);have n6_:=Aside0.mk (Kd.Q1 (by(with_reducible repeat first|apply Kd.Qi|apply Kd.Qh|apply Kd.Ql);exact HO434.out) hb);have n7_:=Aside0.mk (Kd.Q1 (by(with_reducible repeat first|apply Kd.Qi|apply Kd.Qh|apply Kd.Ql);exact HO437.out) hb);have n8_:=Aside0.mk (Kd.Q1 (by(with_reducible repeat first|apply Kd.Qi|apply Kd.Qh|apply Kd.Ql);exact HO443.out) hb);have n9_:=Aside0.mk (Kd.Q2 (Kd.Q9 (by(with_reducible repeat first|apply Kd.Qx|apply Kd.Qw|apply Kd.Q0);exact HO452.out) gb455 (Nat.le_of_eq hg.symm)) hb);have n10_:=Aside0.mk (Qp (g:=gb404) (o:=.cells #[.slice A0_0 l0_0.length c0_0,.slice A0_1 l0_1.length c0_1] 24 (0,0)) (by(with_reducible repeat first|apply Qb|apply Qd|apply Qc);exact BK404.out) hb);have n11_:=Aside0.mk (Qp (g:=gb405) (o:=.cells #[.int .i64 a1_0,.int .i64 a1_1,.int .i64 a1_2,.slice A1_3 l1_3.length c1_3] 26 (0,0)) (by(with_reducible repeat first|apply Qb|apply Qd|apply Qc);exact BK405.out) hb);have n12_:=Aside0.mk (Qp (g:=gb422) (o:=.cells #[.slice Ao33 t414.length co33,.slice Ao35 t417.length co35] 24 (0,0)) (by(with_reducible repeat first|apply Qb|apply Qd|apply Qc);exact BK422.out) hb);have n13_:=Aside0.mk (Qp (g:=gb431) (o:=.cells #[.slice Ao45 t423.length co45,.slice Ao50 t426.length co50,.bool t429,.int .i64 t430] 34 (0,0)) (by(with_reducible repeat first|apply Qb|apply Qd|apply Qc);exact BK431.out) hb);have n14_:=Aside0.mk (Qp (g:=gb446) (o:=.cells #[.int .i64 t438,.int .i64 t439,.int .i64 t440,.slice Ao62 t441.length co62] 26 (0,0)) (by(with_reducible repeat first|apply Qb|apply Qd|apply Qc);exact BK446.out) hb);have n15_:=Aside0.mk (Qr (by repeat(first|(with_reducible first|exact HB.out|apply Qe|apply Qa|apply Qf|refine Qg ?_ GE404.out|refine Qg ?_ GE405.out|refine Qg ?_ GE422.out|refine Qg ?_ GE431.out|refine Qg ?_ GE446.out)|exact HB.out)) hb);have n16_:=Aside0.mk (hbox);have n17_:=Aside0.mk ((by rw[hg];exact(Qj (by repeat(first|(with_reducible first|exact HB.out|apply Qe|apply Qa|apply Qf|refine Qg ?_ GE404.out|refine Qg ?_ GE405.out|refine Qg ?_ GE422.out|refine Qg ?_ GE431.out|refine Qg ?_ GE446.out)|exact HB.out))):w.heap.size≤gb455));have n18_:=Aside0.mk ((by rw[hg];exact(Qj (by repeat(first|(with_reducible first|exact HB.out|apply Qe|apply Qa|apply Qf|refine Qg ?_ GE404.out|refine Qg ?_ GE405.out|refine Qg ?_ GE422.out|refine Qg ?_ GE431.out|refine Qg ?_ GE446.out)|exact HB.out))):w.heap.size≤gb455));have n19_:=Aside0.mk ((by rw[hg];exact Nat.ne_of_lt (Q8 (g:=gb404) (o:=.cells #[.slice A0_0 l0_0.length c0_0,.slice A0_1 l0_1.length c0_1] 24 (0,0)) (by(with_reducible repeat first|apply Qb|apply Qd|apply Qc);exact BK404.out)):gb404≠gb455));have n20_:=Aside0.mk ((by rw[hg];exact Nat.ne_of_gt (Q8 (g:=gb404) (o:=.cells #[.slice A0_0 l0_0.length c0_0,.slice A0_1 l0_1.length c0_1] 24 (0,0)) (by(with_reducible repeat first|apply Qb|apply Qd|apply Qc);exact BK404.out)):gb455≠gb404));have n21_:=Aside0.mk ((by rw[hg];exact Nat.ne_of_lt (Q8 (g:=gb405) (o:=.cells #[.int .i64 a1_0,.int .i64 a1_1,.int .i64 a1_2,.slice A1_3 l1_3.length c1_3] 26 (0,0)) (by(with_reducible repeat first|apply Qb|apply Qd|apply Qc);exact BK405.out)):gb405≠gb455));have n22_:=Aside0.mk ((by rw[hg];exact Nat.ne_of_gt (Q8 (g:=gb405) (o:=.cells #[.int .i64 a1_0,.int .i64 a1_1,.int .i64 a1_2,.slice A1_3 l1_3.length c1_3] 26 (0,0)) (by(with_reducible repeat first|apply Qb|apply Qd|apply Qc);exact BK405.out)):gb455≠gb405));have n23_:=Aside0.mk ((by rw[hg];exact Nat.ne_of_lt (Q8 (g:=gb422) (o:=.cells #[.slice Ao33 t414.length co33,.slice Ao35 t417.length co35] 24 (0,0)) (by(with_reducible repeat first|apply Qb|apply Qd|apply Qc);exact BK422.out)):gb422≠gb455));have n24_:=Aside0.mk ((by rw[hg];exact Nat.ne_of_gt (Q8 (g:=gb422) (o:=.cells #[.slice Ao33 t414.length co33,.slice Ao35 t417.length co35] 24 (0,0)) (by(with_reducible repeat first|apply Qb|apply Qd|apply Qc);exact BK422.out)):gb455≠gb422));have n25_:=Aside0.mk ((by rw[hg];exact Nat.ne_of_lt (Q8 (g:=gb431) (o:=.cells #[.slice Ao45 t423.length co45,.slice Ao50 t426.length co50,.bool t429,.int .i64 t430] 34 (0,0)) (by(with_reducible repeat first|apply Qb|apply Qd|apply Qc);exact BK431.out)):gb431≠gb455));have n26_:=Aside0.mk ((by rw[hg];exact Nat.ne_of_gt (Q8 (g:=gb431) (o:=.cells #[.slice Ao45 t423.length co45,.slice Ao50 t426.length co50,.bool t429,.int .i64 t430] 34 (0,0)) (by(with_reducible repeat first|apply Qb|apply Qd|apply Qc);exact BK431.out)):gb455≠gb431));have n27_:=Aside0.mk ((by rw[hg];exact Nat.ne_of_lt (Q8 (g:=gb446) (o:=.cells #[.int .i64 t438,.int .i64 t439,.int .i64 t440,.slice Ao62 t441.length co62] 26 (0,0)) (by(with_reducible repeat first|apply Qb|apply Qd|apply Qc);exact BK446.out)):gb446≠gb455));have n28_:=Aside0.mk ((by rw[hg];exact Nat.ne_of_gt (Q8 (g:=gb446) (o:=.cells #[.int .i64 t438,.int .i64 t439,.int .i64 t440,.slice Ao62 t441.length co62] 26 (0,0)) (by(with_reducible repeat first|apply Qb|apply Qd|apply Qc);exact BK446.out)):gb455≠gb446));clear HO410;clear HO413;clear HO416;clear HO419;clear HO425;clear HO428;clear HO434;clear HO437;clear HO443;clear HO452;clear BK404;clear BK405;clear BK422;clear BK431;clear BK446;clear HB;have HO410:=n0_;have HO413:=n1_;have HO416:=n2_;have HO419:=n3_;have HO425:=n4_;have HO428:=n5_;have HO434:=n6_;have HO437:=n7_;have HO443:=n8_;have HO452:=n9_;have BK404:=n10_;have BK405:=n11_;have BK422:=n12_;have BK431:=n13_;have BK446:=n14_;have HB:=n15_;have BK455:=n16_;have GW455:=n17_;have GE455:=n18_;have NB404_455:=n19_;have NB455_404:=n20_;have NB405_455:=n21_;have NB455_405:=n22_;have NB422_455:=n23_;have NB455_422:=n24_;have NB431_455:=n25_;have NB455_431:=n26_;have NB446_455:=n27_;have NB455_446:=n28_;clear n0_ n1_ n2_ n3_ n4_ n5_ n6_ n7_ n8_ n9_ n10_ n11_ n12_ n13_ n14_ n15_ n16_ n17_ n18_ n19_ n20_ n21_ n22_ n23_ n24_ n25_ n26_ n27_ n28_;clear hb hbox hg;have hnb67:=NB455_404.out;have hnc67:=NB404_455.out;have hnb68:=NB455_405.out;have hnc68:=NB405_455.out;have hnb69:=NB455_422.out;have hnc69:=NB422_455.out;have hnb70:=NB455_431.out;have hnc70:=NB431_455.out;have hnb71:=NB455_446.out;have hnc71:=NB446_455.out;obtain⟨hcz72_0,hcz72_1,hcz72_2,hcz72_3,hcz72_4,hcz72_5,hfz72_0,hfz72_1,hfz72_2,hfz72_3,hfz72_4,hfz72_5⟩:=qD6 BK455.out;obtain⟨Ao73,co73,eo73⟩:=Kd.Jo HO452.out;subst eo73))
    (try simp only[Act.put,qS])
    go_cut [85] (fun v85 wc=>∃ (kq:Nat) (x85_24:Bool),v85 = .bool x85_24∧Aside0 (newellaw12_FlashWrites.j1 kq t421 x85_24 t414 t417 t423 t426 t429 t430=some r)∧Aside0 (kq≤kj3)∧Aside0 (Kd.R (Kd.int .u8) 5 wc w.heap.size (fun k_=>some k_≠((.slice Ao35 t417.length co35):Value).ownBlock∧some k_≠((.slice Ao62 t441.length co62):Value).ownBlock) (.slice Ao33 t414.length co33) t414)∧Aside0 (Kd.R (Kd.int .u8) 5 wc w.heap.size (fun k_=>some k_≠((.slice Ao33 t414.length co33):Value).ownBlock∧some k_≠((.slice Ao62 t441.length co62):Value).ownBlock) (.slice Ao35 t417.length co35) t417)∧Aside0 (Kd.V (Kd.int .u8) 5 wc w.heap.size (fun k_=>some k_≠((.slice Ao33 t414.length co33):Value).ownBlock∧some k_≠((.slice Ao35 t417.length co35):Value).ownBlock∧some k_≠((.slice Ao62 t441.length co62):Value).ownBlock∧k_≠gb404∧k_≠gb405∧k_≠gb422∧k_≠gb431∧k_≠gb446∧k_≠gb455) (.slice Ao45 t423.length co45) t423)∧Aside0 (Kd.V (Kd.int .u8) 5 wc w.heap.size (fun k_=>some k_≠((.slice Ao33 t414.length co33):Value).ownBlock∧some k_≠((.slice Ao35 t417.length co35):Value).ownBlock∧some k_≠((.slice Ao62 t441.length co62):Value).ownBlock∧k_≠gb404∧k_≠gb405∧k_≠gb422∧k_≠gb431∧k_≠gb446∧k_≠gb455) (.slice Ao50 t426.length co50) t426)∧Aside0 (Kd.R (Kd.int .u8) 5 wc w.heap.size (fun k_=>some k_≠((.slice Ao33 t414.length co33):Value).ownBlock∧some k_≠((.slice Ao35 t417.length co35):Value).ownBlock) (.slice Ao62 t441.length co62) t441)∧Aside0 (Kd.V (Kd.int .u8) 5 wc w.heap.size (fun k_=>some k_≠((.slice Ao33 t414.length co33):Value).ownBlock∧some k_≠((.slice Ao35 t417.length co35):Value).ownBlock∧some k_≠((.slice Ao62 t441.length co62):Value).ownBlock∧k_≠gb404∧k_≠gb405∧k_≠gb422∧k_≠gb431∧k_≠gb446∧k_≠gb455) (.slice Ao73 t450.length co73) t450)∧Aside0 (wc.heap[gb404]?=some (.cells #[(.slice A0_0 l0_0.length c0_0),(.slice A0_1 l0_1.length c0_1)] 24 (0,0)))∧Aside0 (wc.heap[gb405]?=some (.cells #[.int .i64 a1_0,.int .i64 a1_1,.int .i64 a1_2,(.slice A1_3 l1_3.length c1_3)] 26 (0,0)))∧Aside0 (wc.heap[gb422]?=some (.cells #[(.slice Ao33 t414.length co33),(.slice Ao35 t417.length co35)] 24 (0,0)))∧Aside0 (wc.heap[gb431]?=some (.cells #[(.slice Ao45 t423.length co45),(.slice Ao50 t426.length co50),.bool t429,.int .i64 t430] 34 (0,0)))∧Aside0 (wc.heap[gb446]?=some (.cells #[.int .i64 t438,.int .i64 t439,.int .i64 t440,(.slice Ao62 t441.length co62)] 26 (0,0)))∧Aside0 (wc.heap[gb455]?=some (.cells #[.int .i64 t447,.int .i64 t448,.int .i64 t449,(.slice Ao73 t450.length co73),.bool t453,.bool t454] 39 (0,0)))∧Aside0 (Below w.heap.size w wc))
    case first=>
     have H:=HC25.out
     clear HC25
     by_cases c74:t421=t430
     ·rw[if_pos c74] at H
      have c74b0:(t421==t430)=true:=beq_iff_eq.mpr c74
      have c74b1:(t421 != t430)=false:=bne_eq_false_iff_eq.mpr c74
      clear c74
      (first|rw[c74b0]|(simp only[Zu,Z4];rw[c74b0])|skip)
      by_cases c75:(t420 != t429)=true
      ·rw[if_pos c75] at H
       exact absurd H (by simp)
      ·rw[if_neg c75] at H
       have c75b0:(t420 != t429)=false:=by simpa using c75
       (try(have c75b1:decide (t420=t429)=true:=by simpa using c75))
       (try(have c75b2:(t420==t429)=true:=by simpa using c75))
       clear c75
       by_cases c76:((t445==0) != t454)=true
       ·rw[if_pos c76] at H
        exact absurd H (by simp)
       ·rw[if_neg c76] at H
        have c76b0:((t445==0) != t454)=false:=by simpa using c76
        (try(have c76s0:=c76b0;simp only[beq_self_eq_true,bne_self_eq_false,Bool.not_true,Bool.not_false,Bool.true_and,Bool.and_true,Bool.false_or,Bool.or_false] at c76s0))
        (try(have c76b1:decide ((t445==0)=t454)=true:=by simpa using c76))
        (try(have c76b2:((t445==0)==t454)=true:=by simpa using c76))
        clear c76
        by_cases c77:(t444 != t453)=true
        ·rw[if_pos c77] at H
         exact absurd H (by simp)
        ·rw[if_neg c77] at H
         have c77b0:(t444 != t453)=false:=by simpa using c77
         (try(have c77b1:decide (t444=t453)=true:=by simpa using c77))
         (try(have c77b2:(t444==t453)=true:=by simpa using c77))
         clear c77
         replace H:=Option.bind_eq_some_iff.mp H
         obtain⟨t456,A780,H⟩:=H
         replace H:(if t456=true then (if t454=true then (newellaw12_FlashWrites.j1 kj3 t421 false t414 t417 t423 t426 t429 t430) else (newellaw12_FlashWrites.j1 kj3 t421 (t445 != 123) t414 t417 t423 t426 t429 t430)) else (none))=some r:=H
         have A78:=Aside0.mk A780
         clear A780
         by_cases c79:t456=true
         ·subst c79
          have H1:(if t454=true then (newellaw12_FlashWrites.j1 kj3 t421 false t414 t417 t423 t426 t429 t430) else (newellaw12_FlashWrites.j1 kj3 t421 (t445 != 123) t414 t417 t423 t426 t429 t430))=some r:=by rw[if_pos rfl] at H;exact H
          clear H
          have H:=H1
          clear H1
          by_cases c80:t454=true
          ·subst c80
           have H1:(newellaw12_FlashWrites.j1 kj3 t421 false t414 t417 t423 t426 t429 t430)=some r:=by rw[if_pos rfl] at H;exact H
           clear H
           have H:=H1
           clear H1
           have H':=Aside0.mk H
           clear H
           have hnb81:=NB431_404.out
           have hnc81:=NB404_431.out
           have hnb82:=NB431_405.out
           have hnc82:=NB405_431.out
           have hnb83:=NB431_422.out
           have hnc83:=NB422_431.out
           have hnb84:=NB431_446.out
           have hnc84:=NB446_431.out
           have hnb85:=NB431_455.out
           have hnc85:=NB455_431.out
           obtain⟨hcz86_0,hcz86_1,hcz86_2,hcz86_3,hfz86_0,hfz86_1,hfz86_2,hfz86_3⟩:=qD4 BK431.out
           have hnb87:=NB455_404.out
           have hnc87:=NB404_455.out
           have hnb88:=NB455_405.out
           have hnc88:=NB405_455.out
           have hnb89:=NB455_422.out
           have hnc89:=NB422_455.out
           have hnb90:=NB455_446.out
           have hnc90:=NB446_455.out
           obtain⟨hcz91_0,hcz91_1,hcz91_2,hcz91_3,hcz91_4,hcz91_5,hfz91_0,hfz91_1,hfz91_2,hfz91_3,hfz91_4,hfz91_5⟩:=qD6 BK455.out
           have hnb92:=NB446_404.out
           have hnc92:=NB404_446.out
           have hnb93:=NB446_405.out
           have hnc93:=NB405_446.out
           have hnb94:=NB446_422.out
           have hnc94:=NB422_446.out
           obtain⟨hcz95_0,hcz95_1,hcz95_2,hcz95_3,hfz95_0,hfz95_1,hfz95_2,hfz95_3⟩:=qD4 BK446.out
           go_wp2_with (first|(go_at_call 16;(with_reducible refine(newelref12_Same.calls kj3 t438 t439 t440 _ _ t441 t447 t448 t449 _ _ t450 true _ ?side1 ?side2 ?side3 ?side4 A78.out).mono ?_);(case side1=>refine(Kd.Q4 (e:=5) (base:=w.heap.size) (ok:=fun k_=>(some k_≠(v409:Value).ownBlock∧(some k_≠(v412:Value).ownBlock∧(some k_≠(.slice Ao33 t414.length co33:Value).ownBlock∧(some k_≠(.slice Ao35 t417.length co35:Value).ownBlock∧(some k_≠(.slice Ao53 t432.length co53:Value).ownBlock∧some k_≠(.slice Ao54 t435.length co54:Value).ownBlock)))))) (n:=t441.length) (c:=co62) ?_).2.2;exact(by(with_reducible repeat first|apply Kd.Qi|apply Kd.Qh|apply Kd.Ql);exact(Kd.Qu (Kd.Qm (Kd.Qm (Kd.Qm (Kd.Qm (Kd.Qm (Kd.Qm (Kd.Qy HO443.out BK455.out (by decide)) (fun _ hk=>hk.2) (.int .i64 t447)) (fun _ hk=>hk.2) (.int .i64 t448)) (fun _ hk=>hk.2) (.int .i64 t449)) (fun _ hk=>hk.2) _) (fun _ hk=>hk.2) (.bool t453)) (fun _ hk=>hk.2) (.bool true)) (fun _ h_=>h_.1))));(case side2=>exact(Kd.Q4 HO443.out).2.1);(case side3=>refine(Kd.Zm (e:=5) (base:=w.heap.size) (ok:=fun k_=>((some k_≠(v409:Value).ownBlock∧(some k_≠(v412:Value).ownBlock∧(some k_≠(.slice Ao33 t414.length co33:Value).ownBlock∧(some k_≠(.slice Ao35 t417.length co35:Value).ownBlock∧(some k_≠(.slice Ao53 t432.length co53:Value).ownBlock∧(some k_≠(.slice Ao54 t435.length co54:Value).ownBlock∧(some k_≠(.slice Ao62 t441.length co62:Value).ownBlock∧(k_≠gb404∧(k_≠gb405∧(k_≠gb422∧(k_≠gb431∧k_≠gb446)))))))))))∧k_≠gb455)) (n:=t450.length) (c:=co73) ?_).2.2;exact(by(with_reducible repeat first|apply Kd.Qx|apply Kd.Qw|apply Kd.Q0);exact(Kd.Qt (Kd.Qq (p:=⟨gb455,5,none⟩) (Kd.Qq (p:=⟨gb455,4,none⟩) (Kd.Qq (p:=⟨gb455,3,none⟩) (Kd.Qq (p:=⟨gb455,2,none⟩) (Kd.Qq (p:=⟨gb455,1,none⟩) (Kd.Qq (p:=⟨gb455,0,none⟩) (Kd.Qt HO452.out (fun k_ hk=>(⟨hk,hk.2⟩:_∧k_≠gb455))) (fun _ hk=>hk.2) (.int .i64 t447)) (fun _ hk=>hk.2) (.int .i64 t448)) (fun _ hk=>hk.2) (.int .i64 t449)) (fun _ hk=>hk.2) _) (fun _ hk=>hk.2) (.bool t453)) (fun _ hk=>hk.2) (.bool true)) (fun _ h_=>h_.1))));(case side4=>exact(Kd.Zm HO452.out).2.1);rintro e w96 ⟨rfl,hb⟩;have n0_:=Aside0.mk (Kd.Q1 (by(with_reducible repeat first|apply Kd.Qi|apply Kd.Qh|apply Kd.Ql);exact(Kd.Qu (Kd.Qm (Kd.Qm (Kd.Qm (Kd.Qm (Kd.Qm (Kd.Qm (Kd.Qy HO410.out BK455.out (by decide)) (fun _ hk=>hk.2) (.int .i64 t447)) (fun _ hk=>hk.2) (.int .i64 t448)) (fun _ hk=>hk.2) (.int .i64 t449)) (fun _ hk=>hk.2) _) (fun _ hk=>hk.2) (.bool t453)) (fun _ hk=>hk.2) (.bool true)) (fun _ h_=>h_.1))) hb);have n1_:=Aside0.mk (Kd.Q1 (by(with_reducible repeat first|apply Kd.Qi|apply Kd.Qh|apply Kd.Ql);exact(Kd.Qu (Kd.Qm (Kd.Qm (Kd.Qm (Kd.Qm (Kd.Qm (Kd.Qm (Kd.Qy HO413.out BK455.out (by decide)) (fun _ hk=>hk.2) (.int .i64 t447)) (fun _ hk=>hk.2) (.int .i64 t448)) (fun _ hk=>hk.2) (.int .i64 t449)) (fun _ hk=>hk.2) _) (fun _ hk=>hk.2) (.bool t453)) (fun _ hk=>hk.2) (.bool true)) (fun _ h_=>h_.1))) hb);have n2_:=Aside0.mk (Kd.Q1 (by(with_reducible repeat first|apply Kd.Qi|apply Kd.Qh|apply Kd.Ql);exact(Kd.Qu (Kd.Qm (Kd.Qm (Kd.Qm (Kd.Qm (Kd.Qm (Kd.Qm (Kd.Qy HO416.out BK455.out (by decide)) (fun _ hk=>hk.2) (.int .i64 t447)) (fun _ hk=>hk.2) (.int .i64 t448)) (fun _ hk=>hk.2) (.int .i64 t449)) (fun _ hk=>hk.2) _) (fun _ hk=>hk.2) (.bool t453)) (fun _ hk=>hk.2) (.bool true)) (fun _ h_=>h_.1))) hb);have n3_:=Aside0.mk (Kd.Q1 (by(with_reducible repeat first|apply Kd.Qi|apply Kd.Qh|apply Kd.Ql);exact(Kd.Qu (Kd.Qm (Kd.Qm (Kd.Qm (Kd.Qm (Kd.Qm (Kd.Qm (Kd.Qy HO419.out BK455.out (by decide)) (fun _ hk=>hk.2) (.int .i64 t447)) (fun _ hk=>hk.2) (.int .i64 t448)) (fun _ hk=>hk.2) (.int .i64 t449)) (fun _ hk=>hk.2) _) (fun _ hk=>hk.2) (.bool t453)) (fun _ hk=>hk.2) (.bool true)) (fun _ h_=>h_.1))) hb);have n4_:=Aside0.mk (Kd.Q2 (by(with_reducible repeat first|apply Kd.Qx|apply Kd.Qw|apply Kd.Q0);exact(Kd.Qt (Kd.Qq (p:=⟨gb455,5,none⟩) (Kd.Qq (p:=⟨gb455,4,none⟩) (Kd.Qq (p:=⟨gb455,3,none⟩) (Kd.Qq (p:=⟨gb455,2,none⟩) (Kd.Qq (p:=⟨gb455,1,none⟩) (Kd.Qq (p:=⟨gb455,0,none⟩) (Kd.Qt HO425.out (fun k_ hk=>(⟨hk,hk.2⟩:_∧k_≠gb455))) (fun _ hk=>hk.2) (.int .i64 t447)) (fun _ hk=>hk.2) (.int .i64 t448)) (fun _ hk=>hk.2) (.int .i64 t449)) (fun _ hk=>hk.2) _) (fun _ hk=>hk.2) (.bool t453)) (fun _ hk=>hk.2) (.bool true)) (fun _ h_=>h_.1))) hb);have n5_:=Aside0.mk (Kd.Q2 (by(with_reducible repeat first|apply Kd.Qx|apply Kd.Qw|apply Kd.Q0);exact(Kd.Qt (Kd.Qq (p:=⟨gb455,5,none⟩) (Kd.Qq (p:=⟨gb455,4,none⟩) (Kd.Qq (p:=⟨gb455,3,none⟩) (Kd.Qq (p:=⟨gb455,2,none⟩) (Kd.Qq (p:=⟨gb455,1,none⟩) (Kd.Qq (p:=⟨gb455,0,none⟩) (Kd.Qt HO428.out (fun k_ hk=>(⟨hk,hk.2⟩:_∧k_≠gb455))) (fun _ hk=>hk.2) (.int .i64 t447)) (fun _ hk=>hk.2) (.int .i64 t448)) (fun _ hk=>hk.2) (.int .i64 t449)) (fun _ hk=>hk.2) _) (fun _ hk=>hk.2) (.bool t453)) (fun _ hk=>hk.2) (.bool true)) (fun _ h_=>h_.1))) hb);have n6_:=Aside0.mk (Kd.Q1 (by(with_reducible repeat first|apply Kd.Qi|apply Kd.Qh|apply Kd.Ql);exact(Kd.Qu (Kd.Qm (Kd.Qm (Kd.Qm (Kd.Qm (Kd.Qm (Kd.Qm (Kd.Qy HO434.out BK455.out (by decide)) (fun _ hk=>hk.2) (.int .i64 t447)) (fun _ hk=>hk.2) (.int .i64 t448)) (fun _ hk=>hk.2) (.int .i64 t449)) (fun _ hk=>hk.2) _) (fun _ hk=>hk.2) (.bool t453)) (fun _ hk=>hk.2) (.bool true)) (fun _ h_=>h_.1))) hb);have n7_:=Aside0.mk (Kd.Q1 (by(with_reducible repeat first|apply Kd.Qi|apply Kd.Qh|apply Kd.Ql);exact(Kd.Qu (Kd.Qm (Kd.Qm (Kd.Qm (Kd.Qm (Kd.Qm (Kd.Qm (Kd.Qy HO437.out BK455.out (by decide)) (fun _ hk=>hk.2) (.int .i64 t447)) (fun _ hk=>hk.2) (.int .i64 t448)) (fun _ hk=>hk.2) (.int .i64 t449)) (fun _ hk=>hk.2) _) (fun _ hk=>hk.2) (.bool t453)) (fun _ hk=>hk.2) (.bool true)) (fun _ h_=>h_.1))) hb);have n8_:=Aside0.mk (Kd.Q1 (by(with_reducible repeat first|apply Kd.Qi|apply Kd.Qh|apply Kd.Ql);exact(Kd.Qu (Kd.Qm (Kd.Qm (Kd.Qm (Kd.Qm (Kd.Qm (Kd.Qm (Kd.Qy HO443.out BK455.out (by decide)) (fun _ hk=>hk.2) (.int .i64 t447)) (fun _ hk=>hk.2) (.int .i64 t448)) (fun _ hk=>hk.2) (.int .i64 t449)) (fun _ hk=>hk.2) _) (fun _ hk=>hk.2) (.bool t453)) (fun _ hk=>hk.2) (.bool true)) (fun _ h_=>h_.1))) hb);have n9_:=Aside0.mk (Kd.Q2 (by(with_reducible repeat first|apply Kd.Qx|apply Kd.Qw|apply Kd.Q0);exact(Kd.Qt (Kd.Qq (p:=⟨gb455,5,none⟩) (Kd.Qq (p:=⟨gb455,4,none⟩) (Kd.Qq (p:=⟨gb455,3,none⟩) (Kd.Qq (p:=⟨gb455,2,none⟩) (Kd.Qq (p:=⟨gb455,1,none⟩) (Kd.Qq (p:=⟨gb455,0,none⟩) (Kd.Qt HO452.out (fun k_ hk=>(⟨hk,hk.2⟩:_∧k_≠gb455))) (fun _ hk=>hk.2) (.int .i64 t447)) (fun _ hk=>hk.2) (.int .i64 t448)) (fun _ hk=>hk.2) (.int .i64 t449)) (fun _ hk=>hk.2) _) (fun _ hk=>hk.2) (.bool t453)) (fun _ hk=>hk.2) (.bool true)) (fun _ h_=>h_.1))) hb);have n10_:=Aside0.mk (Qp (g:=gb404) (o:=.cells #[.slice A0_0 l0_0.length c0_0,.slice A0_1 l0_1.length c0_1] 24 (0,0)) (bka BK404) hb);have n11_:=Aside0.mk (Qp (g:=gb405) (o:=.cells #[.int .i64 a1_0,.int .i64 a1_1,.int .i64 a1_2,.slice A1_3 l1_3.length c1_3] 26 (0,0)) (bka BK405) hb);have n12_:=Aside0.mk (Qp (g:=gb422) (o:=.cells #[.slice Ao33 t414.length co33,.slice Ao35 t417.length co35] 24 (0,0)) (bka BK422) hb);have n13_:=Aside0.mk (Qp (g:=gb431) (o:=.cells #[.slice Ao45 t423.length co45,.slice Ao50 t426.length co50,.bool t429,.int .i64 t430] 34 (0,0)) (bka BK431) hb);have n14_:=Aside0.mk (Qp (g:=gb446) (o:=.cells #[.int .i64 t438,.int .i64 t439,.int .i64 t440,.slice Ao62 t441.length co62] 26 (0,0)) (bka BK446) hb);have n15_:=Aside0.mk (Qp (g:=gb455) (o:=.cells #[.int .i64 t447,.int .i64 t448,.int .i64 t449,.slice Ao73 t450.length co73,.bool t453,.bool true] 39 (0,0)) (by(with_reducible repeat first|apply Qb|apply Qd|apply Qc);refine Qk (cs:=#[.int .i64 t447,.int .i64 t448,.int .i64 t449,.slice Ao73 t450.length co73,.bool t453,.bool false]) ?_ 5 _ rfl;(with_reducible repeat first|apply Qb|apply Qd|apply Qc);refine Qk (cs:=#[.int .i64 t447,.int .i64 t448,.int .i64 t449,.slice Ao73 t450.length co73,.bool false,.bool false]) ?_ 4 _ rfl;(with_reducible repeat first|apply Qb|apply Qd|apply Qc);refine Qk (cs:=#[.int .i64 t447,.int .i64 t448,.int .i64 t449,.slice none 0 0,.bool false,.bool false]) ?_ 3 _ rfl;(with_reducible repeat first|apply Qb|apply Qd|apply Qc);refine Qk (cs:=#[.int .i64 t447,.int .i64 t448,.int .i64 0,.slice none 0 0,.bool false,.bool false]) ?_ 2 _ rfl;(with_reducible repeat first|apply Qb|apply Qd|apply Qc);refine Qk (cs:=#[.int .i64 t447,.int .i64 0,.int .i64 0,.slice none 0 0,.bool false,.bool false]) ?_ 1 _ rfl;(with_reducible repeat first|apply Qb|apply Qd|apply Qc);refine Qk (cs:=#[.int .i64 0,.int .i64 0,.int .i64 0,.slice none 0 0,.bool false,.bool false]) ?_ 0 _ rfl;(with_reducible repeat first|apply Qb|apply Qd|apply Qc);exact BK455.out) hb);have n16_:=Aside0.mk (Qr bel hb);clear HO410;clear HO413;clear HO416;clear HO419;clear HO425;clear HO428;clear HO434;clear HO437;clear HO443;clear HO452;clear BK404;clear BK405;clear BK422;clear BK431;clear BK446;clear BK455;clear HB;have HO410:=n0_;have HO413:=n1_;have HO416:=n2_;have HO419:=n3_;have HO425:=n4_;have HO428:=n5_;have HO434:=n6_;have HO437:=n7_;have HO443:=n8_;have HO452:=n9_;have BK404:=n10_;have BK405:=n11_;have BK422:=n12_;have BK431:=n13_;have BK446:=n14_;have BK455:=n15_;have HB:=n16_;clear n0_ n1_ n2_ n3_ n4_ n5_ n6_ n7_ n8_ n9_ n10_ n11_ n12_ n13_ n14_ n15_ n16_;(try clear hb);(try clear hb2);(try clear hk);(try clear hi);obtain⟨hcz97_0,hcz97_1,hcz97_2,hcz97_3,hcz97_4,hcz97_5,hfz97_0,hfz97_1,hfz97_2,hfz97_3,hfz97_4,hfz97_5⟩:=qD6 BK455.out))
           go_meet
           case rel=>exact⟨_,(false),rfl,H',⟨by have:=HJ3.out;omega⟩,⟨by(with_reducible repeat first|apply Kd.Qi|apply Kd.Qh|apply Kd.Ql);exact Kd.Qu HO416.out (fun _ hk=>⟨hk.2.2.1,hk.2.2.2.2.2⟩)⟩,⟨by(with_reducible repeat first|apply Kd.Qi|apply Kd.Qh|apply Kd.Ql);exact Kd.Qu HO419.out (fun _ hk=>⟨hk.2.2.1,hk.2.2.2.2.2⟩)⟩,⟨by(with_reducible repeat first|apply Kd.Qx|apply Kd.Qw|apply Kd.Q0);exact Kd.Qt HO425.out (fun _ hk=>⟨hk.1.2.2.1,⟨hk.1.2.2.2.1,⟨hk.1.2.2.2.2.2.2.1,⟨hk.1.2.2.2.2.2.2.2.1,⟨hk.1.2.2.2.2.2.2.2.2.1,⟨hk.1.2.2.2.2.2.2.2.2.2.1,⟨hk.1.2.2.2.2.2.2.2.2.2.2.1,⟨hk.1.2.2.2.2.2.2.2.2.2.2.2,hk.2⟩⟩⟩⟩⟩⟩⟩⟩)⟩,⟨by(with_reducible repeat first|apply Kd.Qx|apply Kd.Qw|apply Kd.Q0);exact Kd.Qt HO428.out (fun _ hk=>⟨hk.1.2.2.1,⟨hk.1.2.2.2.1,⟨hk.1.2.2.2.2.2.2.1,⟨hk.1.2.2.2.2.2.2.2.1,⟨hk.1.2.2.2.2.2.2.2.2.1,⟨hk.1.2.2.2.2.2.2.2.2.2.1,⟨hk.1.2.2.2.2.2.2.2.2.2.2.1,⟨hk.1.2.2.2.2.2.2.2.2.2.2.2,hk.2⟩⟩⟩⟩⟩⟩⟩⟩)⟩,⟨by(with_reducible repeat first|apply Kd.Qi|apply Kd.Qh|apply Kd.Ql);exact Kd.Qu HO443.out (fun _ hk=>⟨hk.2.2.1,hk.2.2.2.1⟩)⟩,⟨by(with_reducible repeat first|apply Kd.Qx|apply Kd.Qw|apply Kd.Q0);exact Kd.Qt HO452.out (fun _ hk=>⟨hk.1.2.2.1,⟨hk.1.2.2.2.1,⟨hk.1.2.2.2.2.2.2.1,⟨hk.1.2.2.2.2.2.2.2.1,⟨hk.1.2.2.2.2.2.2.2.2.1,⟨hk.1.2.2.2.2.2.2.2.2.2.1,⟨hk.1.2.2.2.2.2.2.2.2.2.2.1,⟨hk.1.2.2.2.2.2.2.2.2.2.2.2,hk.2⟩⟩⟩⟩⟩⟩⟩⟩)⟩,BK404,BK405,BK422,BK431,BK446,BK455,HB⟩
          ·replace c80:=Bool.eq_false_iff.mpr c80
           subst c80
           have H1:(newellaw12_FlashWrites.j1 kj3 t421 (t445 != 123) t414 t417 t423 t426 t429 t430)=some r:=by rw[if_neg (show ¬ (false=true) by decide)] at H;exact H
           clear H
           have H:=H1
           clear H1
           have H':=Aside0.mk H
           clear H
           have hnb98:=NB431_404.out
           have hnc98:=NB404_431.out
           have hnb99:=NB431_405.out
           have hnc99:=NB405_431.out
           have hnb100:=NB431_422.out
           have hnc100:=NB422_431.out
           have hnb101:=NB431_446.out
           have hnc101:=NB446_431.out
           have hnb102:=NB431_455.out
           have hnc102:=NB455_431.out
           obtain⟨hcz103_0,hcz103_1,hcz103_2,hcz103_3,hfz103_0,hfz103_1,hfz103_2,hfz103_3⟩:=qD4 BK431.out
           have hnb104:=NB455_404.out
           have hnc104:=NB404_455.out
           have hnb105:=NB455_405.out
           have hnc105:=NB405_455.out
           have hnb106:=NB455_422.out
           have hnc106:=NB422_455.out
           have hnb107:=NB455_446.out
           have hnc107:=NB446_455.out
           obtain⟨hcz108_0,hcz108_1,hcz108_2,hcz108_3,hcz108_4,hcz108_5,hfz108_0,hfz108_1,hfz108_2,hfz108_3,hfz108_4,hfz108_5⟩:=qD6 BK455.out
           have hnb109:=NB446_404.out
           have hnc109:=NB404_446.out
           have hnb110:=NB446_405.out
           have hnc110:=NB405_446.out
           have hnb111:=NB446_422.out
           have hnc111:=NB422_446.out
           obtain⟨hcz112_0,hcz112_1,hcz112_2,hcz112_3,hfz112_0,hfz112_1,hfz112_2,hfz112_3⟩:=qD4 BK446.out
           go_wp2_with (first|(go_at_call 16;(with_reducible refine(newelref12_Same.calls kj3 t438 t439 t440 _ _ t441 t447 t448 t449 _ _ t450 true _ ?side1 ?side2 ?side3 ?side4 A78.out).mono ?_);(case side1=>refine(Kd.Q4 (e:=5) (base:=w.heap.size) (ok:=fun k_=>(some k_≠(v409:Value).ownBlock∧(some k_≠(v412:Value).ownBlock∧(some k_≠(.slice Ao33 t414.length co33:Value).ownBlock∧(some k_≠(.slice Ao35 t417.length co35:Value).ownBlock∧(some k_≠(.slice Ao53 t432.length co53:Value).ownBlock∧some k_≠(.slice Ao54 t435.length co54:Value).ownBlock)))))) (n:=t441.length) (c:=co62) ?_).2.2;exact(by(with_reducible repeat first|apply Kd.Qi|apply Kd.Qh|apply Kd.Ql);exact(Kd.Qu (Kd.Qm (Kd.Qm (Kd.Qm (Kd.Qm (Kd.Qm (Kd.Qm (Kd.Qy HO443.out BK455.out (by decide)) (fun _ hk=>hk.2) (.int .i64 t447)) (fun _ hk=>hk.2) (.int .i64 t448)) (fun _ hk=>hk.2) (.int .i64 t449)) (fun _ hk=>hk.2) _) (fun _ hk=>hk.2) (.bool t453)) (fun _ hk=>hk.2) (.bool false)) (fun _ h_=>h_.1))));(case side2=>exact(Kd.Q4 HO443.out).2.1);(case side3=>refine(Kd.Zm (e:=5) (base:=w.heap.size) (ok:=fun k_=>((some k_≠(v409:Value).ownBlock∧(some k_≠(v412:Value).ownBlock∧(some k_≠(.slice Ao33 t414.length co33:Value).ownBlock∧(some k_≠(.slice Ao35 t417.length co35:Value).ownBlock∧(some k_≠(.slice Ao53 t432.length co53:Value).ownBlock∧(some k_≠(.slice Ao54 t435.length co54:Value).ownBlock∧(some k_≠(.slice Ao62 t441.length co62:Value).ownBlock∧(k_≠gb404∧(k_≠gb405∧(k_≠gb422∧(k_≠gb431∧k_≠gb446)))))))))))∧k_≠gb455)) (n:=t450.length) (c:=co73) ?_).2.2;exact(by(with_reducible repeat first|apply Kd.Qx|apply Kd.Qw|apply Kd.Q0);exact(Kd.Qt (Kd.Qq (p:=⟨gb455,5,none⟩) (Kd.Qq (p:=⟨gb455,4,none⟩) (Kd.Qq (p:=⟨gb455,3,none⟩) (Kd.Qq (p:=⟨gb455,2,none⟩) (Kd.Qq (p:=⟨gb455,1,none⟩) (Kd.Qq (p:=⟨gb455,0,none⟩) (Kd.Qt HO452.out (fun k_ hk=>(⟨hk,hk.2⟩:_∧k_≠gb455))) (fun _ hk=>hk.2) (.int .i64 t447)) (fun _ hk=>hk.2) (.int .i64 t448)) (fun _ hk=>hk.2) (.int .i64 t449)) (fun _ hk=>hk.2) _) (fun _ hk=>hk.2) (.bool t453)) (fun _ hk=>hk.2) (.bool false)) (fun _ h_=>h_.1))));(case side4=>exact(Kd.Zm HO452.out).2.1);rintro e w113 ⟨rfl,hb⟩;have n0_:=Aside0.mk (Kd.Q1 (by(with_reducible repeat first|apply Kd.Qi|apply Kd.Qh|apply Kd.Ql);exact(Kd.Qu (Kd.Qm (Kd.Qm (Kd.Qm (Kd.Qm (Kd.Qm (Kd.Qm (Kd.Qy HO410.out BK455.out (by decide)) (fun _ hk=>hk.2) (.int .i64 t447)) (fun _ hk=>hk.2) (.int .i64 t448)) (fun _ hk=>hk.2) (.int .i64 t449)) (fun _ hk=>hk.2) _) (fun _ hk=>hk.2) (.bool t453)) (fun _ hk=>hk.2) (.bool false)) (fun _ h_=>h_.1))) hb);have n1_:=Aside0.mk (Kd.Q1 (by(with_reducible repeat first|apply Kd.Qi|apply Kd.Qh|apply Kd.Ql);exact(Kd.Qu (Kd.Qm (Kd.Qm (Kd.Qm (Kd.Qm (Kd.Qm (Kd.Qm (Kd.Qy HO413.out BK455.out (by decide)) (fun _ hk=>hk.2) (.int .i64 t447)) (fun _ hk=>hk.2) (.int .i64 t448)) (fun _ hk=>hk.2) (.int .i64 t449)) (fun _ hk=>hk.2) _) (fun _ hk=>hk.2) (.bool t453)) (fun _ hk=>hk.2) (.bool false)) (fun _ h_=>h_.1))) hb);have n2_:=Aside0.mk (Kd.Q1 (by(with_reducible repeat first|apply Kd.Qi|apply Kd.Qh|apply Kd.Ql);exact(Kd.Qu (Kd.Qm (Kd.Qm (Kd.Qm (Kd.Qm (Kd.Qm (Kd.Qm (Kd.Qy HO416.out BK455.out (by decide)) (fun _ hk=>hk.2) (.int .i64 t447)) (fun _ hk=>hk.2) (.int .i64 t448)) (fun _ hk=>hk.2) (.int .i64 t449)) (fun _ hk=>hk.2) _) (fun _ hk=>hk.2) (.bool t453)) (fun _ hk=>hk.2) (.bool false)) (fun _ h_=>h_.1))) hb);have n3_:=Aside0.mk (Kd.Q1 (by(with_reducible repeat first|apply Kd.Qi|apply Kd.Qh|apply Kd.Ql);exact(Kd.Qu (Kd.Qm (Kd.Qm (Kd.Qm (Kd.Qm (Kd.Qm (Kd.Qm (Kd.Qy HO419.out BK455.out (by decide)) (fun _ hk=>hk.2) (.int .i64 t447)) (fun _ hk=>hk.2) (.int .i64 t448)) (fun _ hk=>hk.2) (.int .i64 t449)) (fun _ hk=>hk.2) _) (fun _ hk=>hk.2) (.bool t453)) (fun _ hk=>hk.2) (.bool false)) (fun _ h_=>h_.1))) hb);have n4_:=Aside0.mk (Kd.Q2 (by(with_reducible repeat first|apply Kd.Qx|apply Kd.Qw|apply Kd.Q0);exact(Kd.Qt (Kd.Qq (p:=⟨gb455,5,none⟩) (Kd.Qq (p:=⟨gb455,4,none⟩) (Kd.Qq (p:=⟨gb455,3,none⟩) (Kd.Qq (p:=⟨gb455,2,none⟩) (Kd.Qq (p:=⟨gb455,1,none⟩) (Kd.Qq (p:=⟨gb455,0,none⟩) (Kd.Qt HO425.out (fun k_ hk=>(⟨hk,hk.2⟩:_∧k_≠gb455))) (fun _ hk=>hk.2) (.int .i64 t447)) (fun _ hk=>hk.2) (.int .i64 t448)) (fun _ hk=>hk.2) (.int .i64 t449)) (fun _ hk=>hk.2) _) (fun _ hk=>hk.2) (.bool t453)) (fun _ hk=>hk.2) (.bool false)) (fun _ h_=>h_.1))) hb);have n5_:=Aside0.mk (Kd.Q2 (by(with_reducible repeat first|apply Kd.Qx|apply Kd.Qw|apply Kd.Q0);exact(Kd.Qt (Kd.Qq (p:=⟨gb455,5,none⟩) (Kd.Qq (p:=⟨gb455,4,none⟩) (Kd.Qq (p:=⟨gb455,3,none⟩) (Kd.Qq (p:=⟨gb455,2,none⟩) (Kd.Qq (p:=⟨gb455,1,none⟩) (Kd.Qq (p:=⟨gb455,0,none⟩) (Kd.Qt HO428.out (fun k_ hk=>(⟨hk,hk.2⟩:_∧k_≠gb455))) (fun _ hk=>hk.2) (.int .i64 t447)) (fun _ hk=>hk.2) (.int .i64 t448)) (fun _ hk=>hk.2) (.int .i64 t449)) (fun _ hk=>hk.2) _) (fun _ hk=>hk.2) (.bool t453)) (fun _ hk=>hk.2) (.bool false)) (fun _ h_=>h_.1))) hb);have n6_:=Aside0.mk (Kd.Q1 (by(with_reducible repeat first|apply Kd.Qi|apply Kd.Qh|apply Kd.Ql);exact(Kd.Qu (Kd.Qm (Kd.Qm (Kd.Qm (Kd.Qm (Kd.Qm (Kd.Qm (Kd.Qy HO434.out BK455.out (by decide)) (fun _ hk=>hk.2) (.int .i64 t447)) (fun _ hk=>hk.2) (.int .i64 t448)) (fun _ hk=>hk.2) (.int .i64 t449)) (fun _ hk=>hk.2) _) (fun _ hk=>hk.2) (.bool t453)) (fun _ hk=>hk.2) (.bool false)) (fun _ h_=>h_.1))) hb);have n7_:=Aside0.mk (Kd.Q1 (by(with_reducible repeat first|apply Kd.Qi|apply Kd.Qh|apply Kd.Ql);exact(Kd.Qu (Kd.Qm (Kd.Qm (Kd.Qm (Kd.Qm (Kd.Qm (Kd.Qm (Kd.Qy HO437.out BK455.out (by decide)) (fun _ hk=>hk.2) (.int .i64 t447)) (fun _ hk=>hk.2) (.int .i64 t448)) (fun _ hk=>hk.2) (.int .i64 t449)) (fun _ hk=>hk.2) _) (fun _ hk=>hk.2) (.bool t453)) (fun _ hk=>hk.2) (.bool false)) (fun _ h_=>h_.1))) hb);have n8_:=Aside0.mk (Kd.Q1 (by(with_reducible repeat first|apply Kd.Qi|apply Kd.Qh|apply Kd.Ql);exact(Kd.Qu (Kd.Qm (Kd.Qm (Kd.Qm (Kd.Qm (Kd.Qm (Kd.Qm (Kd.Qy HO443.out BK455.out (by decide)) (fun _ hk=>hk.2) (.int .i64 t447)) (fun _ hk=>hk.2) (.int .i64 t448)) (fun _ hk=>hk.2) (.int .i64 t449)) (fun _ hk=>hk.2) _) (fun _ hk=>hk.2) (.bool t453)) (fun _ hk=>hk.2) (.bool false)) (fun _ h_=>h_.1))) hb);have n9_:=Aside0.mk (Kd.Q2 (by(with_reducible repeat first|apply Kd.Qx|apply Kd.Qw|apply Kd.Q0);exact(Kd.Qt (Kd.Qq (p:=⟨gb455,5,none⟩) (Kd.Qq (p:=⟨gb455,4,none⟩) (Kd.Qq (p:=⟨gb455,3,none⟩) (Kd.Qq (p:=⟨gb455,2,none⟩) (Kd.Qq (p:=⟨gb455,1,none⟩) (Kd.Qq (p:=⟨gb455,0,none⟩) (Kd.Qt HO452.out (fun k_ hk=>(⟨hk,hk.2⟩:_∧k_≠gb455))) (fun _ hk=>hk.2) (.int .i64 t447)) (fun _ hk=>hk.2) (.int .i64 t448)) (fun _ hk=>hk.2) (.int .i64 t449)) (fun _ hk=>hk.2) _) (fun _ hk=>hk.2) (.bool t453)) (fun _ hk=>hk.2) (.bool false)) (fun _ h_=>h_.1))) hb);have n10_:=Aside0.mk (Qp (g:=gb404) (o:=.cells #[.slice A0_0 l0_0.length c0_0,.slice A0_1 l0_1.length c0_1] 24 (0,0)) (bka BK404) hb);have n11_:=Aside0.mk (Qp (g:=gb405) (o:=.cells #[.int .i64 a1_0,.int .i64 a1_1,.int .i64 a1_2,.slice A1_3 l1_3.length c1_3] 26 (0,0)) (bka BK405) hb);have n12_:=Aside0.mk (Qp (g:=gb422) (o:=.cells #[.slice Ao33 t414.length co33,.slice Ao35 t417.length co35] 24 (0,0)) (bka BK422) hb);have n13_:=Aside0.mk (Qp (g:=gb431) (o:=.cells #[.slice Ao45 t423.length co45,.slice Ao50 t426.length co50,.bool t429,.int .i64 t430] 34 (0,0)) (bka BK431) hb);have n14_:=Aside0.mk (Qp (g:=gb446) (o:=.cells #[.int .i64 t438,.int .i64 t439,.int .i64 t440,.slice Ao62 t441.length co62] 26 (0,0)) (bka BK446) hb);have n15_:=Aside0.mk (Qp (g:=gb455) (o:=.cells #[.int .i64 t447,.int .i64 t448,.int .i64 t449,.slice Ao73 t450.length co73,.bool t453,.bool false] 39 (0,0)) (by(with_reducible repeat first|apply Qb|apply Qd|apply Qc);refine Qk (cs:=#[.int .i64 t447,.int .i64 t448,.int .i64 t449,.slice Ao73 t450.length co73,.bool t453,.bool false]) ?_ 5 _ rfl;(with_reducible repeat first|apply Qb|apply Qd|apply Qc);refine Qk (cs:=#[.int .i64 t447,.int .i64 t448,.int .i64 t449,.slice Ao73 t450.length co73,.bool false,.bool false]) ?_ 4 _ rfl;(with_reducible repeat first|apply Qb|apply Qd|apply Qc);refine Qk (cs:=#[.int .i64 t447,.int .i64 t448,.int .i64 t449,.slice none 0 0,.bool false,.bool false]) ?_ 3 _ rfl;(with_reducible repeat first|apply Qb|apply Qd|apply Qc);refine Qk (cs:=#[.int .i64 t447,.int .i64 t448,.int .i64 0,.slice none 0 0,.bool false,.bool false]) ?_ 2 _ rfl;(with_reducible repeat first|apply Qb|apply Qd|apply Qc);refine Qk (cs:=#[.int .i64 t447,.int .i64 0,.int .i64 0,.slice none 0 0,.bool false,.bool false]) ?_ 1 _ rfl;(with_reducible repeat first|apply Qb|apply Qd|apply Qc);refine Qk (cs:=#[.int .i64 0,.int .i64 0,.int .i64 0,.slice none 0 0,.bool false,.bool false]) ?_ 0 _ rfl;(with_reducible repeat first|apply Qb|apply Qd|apply Qc);exact BK455.out) hb);have n16_:=Aside0.mk (Qr bel hb);clear HO410;clear HO413;clear HO416;clear HO419;clear HO425;clear HO428;clear HO434;clear HO437;clear HO443;clear HO452;clear BK404;clear BK405;clear BK422;clear BK431;clear BK446;clear BK455;clear HB;have HO410:=n0_;have HO413:=n1_;have HO416:=n2_;have HO419:=n3_;have HO425:=n4_;have HO428:=n5_;have HO434:=n6_;have HO437:=n7_;have HO443:=n8_;have HO452:=n9_;have BK404:=n10_;have BK405:=n11_;have BK422:=n12_;have BK431:=n13_;have BK446:=n14_;have BK455:=n15_;have HB:=n16_;clear n0_ n1_ n2_ n3_ n4_ n5_ n6_ n7_ n8_ n9_ n10_ n11_ n12_ n13_ n14_ n15_ n16_;(try clear hb);(try clear hb2);(try clear hk);(try clear hi);obtain⟨hcz114_0,hcz114_1,hcz114_2,hcz114_3,hcz114_4,hcz114_5,hfz114_0,hfz114_1,hfz114_2,hfz114_3,hfz114_4,hfz114_5⟩:=qD6 BK455.out))
           go_meet
           case rel=>exact⟨_,((t445 != 123)),rfl,H',⟨by have:=HJ3.out;omega⟩,⟨by(with_reducible repeat first|apply Kd.Qi|apply Kd.Qh|apply Kd.Ql);exact Kd.Qu HO416.out (fun _ hk=>⟨hk.2.2.1,hk.2.2.2.2.2⟩)⟩,⟨by(with_reducible repeat first|apply Kd.Qi|apply Kd.Qh|apply Kd.Ql);exact Kd.Qu HO419.out (fun _ hk=>⟨hk.2.2.1,hk.2.2.2.2.2⟩)⟩,⟨by(with_reducible repeat first|apply Kd.Qx|apply Kd.Qw|apply Kd.Q0);exact Kd.Qt HO425.out (fun _ hk=>⟨hk.1.2.2.1,⟨hk.1.2.2.2.1,⟨hk.1.2.2.2.2.2.2.1,⟨hk.1.2.2.2.2.2.2.2.1,⟨hk.1.2.2.2.2.2.2.2.2.1,⟨hk.1.2.2.2.2.2.2.2.2.2.1,⟨hk.1.2.2.2.2.2.2.2.2.2.2.1,⟨hk.1.2.2.2.2.2.2.2.2.2.2.2,hk.2⟩⟩⟩⟩⟩⟩⟩⟩)⟩,⟨by(with_reducible repeat first|apply Kd.Qx|apply Kd.Qw|apply Kd.Q0);exact Kd.Qt HO428.out (fun _ hk=>⟨hk.1.2.2.1,⟨hk.1.2.2.2.1,⟨hk.1.2.2.2.2.2.2.1,⟨hk.1.2.2.2.2.2.2.2.1,⟨hk.1.2.2.2.2.2.2.2.2.1,⟨hk.1.2.2.2.2.2.2.2.2.2.1,⟨hk.1.2.2.2.2.2.2.2.2.2.2.1,⟨hk.1.2.2.2.2.2.2.2.2.2.2.2,hk.2⟩⟩⟩⟩⟩⟩⟩⟩)⟩,⟨by(with_reducible repeat first|apply Kd.Qi|apply Kd.Qh|apply Kd.Ql);exact Kd.Qu HO443.out (fun _ hk=>⟨hk.2.2.1,hk.2.2.2.1⟩)⟩,⟨by(with_reducible repeat first|apply Kd.Qx|apply Kd.Qw|apply Kd.Q0);exact Kd.Qt HO452.out (fun _ hk=>⟨hk.1.2.2.1,⟨hk.1.2.2.2.1,⟨hk.1.2.2.2.2.2.2.1,⟨hk.1.2.2.2.2.2.2.2.1,⟨hk.1.2.2.2.2.2.2.2.2.1,⟨hk.1.2.2.2.2.2.2.2.2.2.1,⟨hk.1.2.2.2.2.2.2.2.2.2.2.1,⟨hk.1.2.2.2.2.2.2.2.2.2.2.2,hk.2⟩⟩⟩⟩⟩⟩⟩⟩)⟩,BK404,BK405,BK422,BK431,BK446,BK455,HB⟩
         ·replace c79:=Bool.eq_false_iff.mpr c79
          subst c79
          have H1:(none)=some r:=by rw[if_neg (show ¬ (false=true) by decide)] at H;exact H
          clear H
          have H:=H1
          clear H1
          exact absurd H (by simp)
     ·rw[if_neg c74] at H
      exact absurd H (by simp)
    case rest=>
     clear HC25
     try clear c1
     try clear p2
     try clear c3
     try clear c4
     try clear c5
     try clear c6
     try clear c7
     try clear c8
     try clear c9
     try clear c10
     try clear c11
     try clear c12
     try clear c13
     try clear c14
     try clear c15
     try clear c38
     try clear c39
     try clear c41
     try clear c46
     try clear c47
     try clear c48
     try clear c57
     try clear c58
     try clear c59
     try clear c60
     try clear c67
     try clear c68
     try clear c69
     try clear c70
     try clear c71
     try clear c74
     try clear c74b0
     try clear c74b1
     try clear c75
     try clear c75b0
     try clear c75b1
     try clear c75b2
     try clear c76
     try clear c76b0
     try clear c76b1
     try clear c76b2
     try clear c77
     try clear c77b0
     try clear c77b1
     try clear c77b2
     try clear c79
     try clear c80
     try clear c81
     try clear c82
     try clear c83
     try clear c84
     try clear c85
     try clear c87
     try clear c88
     try clear c89
     try clear c90
     try clear c92
     try clear c93
     try clear c94
     try clear c98
     try clear c99
     try clear c100
     try clear c101
     try clear c102
     try clear c104
     try clear c105
     try clear c106
     try clear c107
     try clear c109
     try clear c110
     try clear c111
     try clear hcz103_0
     try clear hcz103_1
     try clear hcz103_2
     try clear hcz103_3
     try clear hcz108_0
     try clear hcz108_1
     try clear hcz108_2
     try clear hcz108_3
     try clear hcz108_4
     try clear hcz108_5
     try clear hcz112_0
     try clear hcz112_1
     try clear hcz112_2
     try clear hcz112_3
     try clear hcz114_0
     try clear hcz114_1
     try clear hcz114_2
     try clear hcz114_3
     try clear hcz114_4
     try clear hcz114_5
     try clear hcz40_0
     try clear hcz40_1
     try clear hcz42_0
     try clear hcz42_1
     try clear hcz42_2
     try clear hcz42_3
     try clear hcz49_0
     try clear hcz49_1
     try clear hcz49_2
     try clear hcz49_3
     try clear hcz51_0
     try clear hcz51_1
     try clear hcz61_0
     try clear hcz61_1
     try clear hcz61_2
     try clear hcz61_3
     try clear hcz64_0
     try clear hcz64_1
     try clear hcz72_0
     try clear hcz72_1
     try clear hcz72_2
     try clear hcz72_3
     try clear hcz72_4
     try clear hcz72_5
     try clear hcz86_0
     try clear hcz86_1
     try clear hcz86_2
     try clear hcz86_3
     try clear hcz91_0
     try clear hcz91_1
     try clear hcz91_2
     try clear hcz91_3
     try clear hcz91_4
     try clear hcz91_5
     try clear hcz95_0
     try clear hcz95_1
     try clear hcz95_2
     try clear hcz95_3
     try clear hcz97_0
     try clear hcz97_1
     try clear hcz97_2
     try clear hcz97_3
     try clear hcz97_4
     try clear hcz97_5
     try clear hfz103_0
     try clear hfz103_1
     try clear hfz103_2
     try clear hfz103_3
     try clear hfz108_0
     try clear hfz108_1
     try clear hfz108_2
     try clear hfz108_3
     try clear hfz108_4
     try clear hfz108_5
     try clear hfz112_0
     try clear hfz112_1
     try clear hfz112_2
     try clear hfz112_3
     try clear hfz114_0
     try clear hfz114_1
     try clear hfz114_2
     try clear hfz114_3
     try clear hfz114_4
     try clear hfz114_5
     try clear hfz40_0
     try clear hfz40_1
     try clear hfz42_0
     try clear hfz42_1
     try clear hfz42_2
     try clear hfz42_3
     try clear hfz49_0
     try clear hfz49_1
     try clear hfz49_2
     try clear hfz49_3
     try clear hfz51_0
     try clear hfz51_1
     try clear hfz61_0
     try clear hfz61_1
     try clear hfz61_2
     try clear hfz61_3
     try clear hfz64_0
     try clear hfz64_1
     try clear hfz72_0
     try clear hfz72_1
     try clear hfz72_2
     try clear hfz72_3
     try clear hfz72_4
     try clear hfz72_5
     try clear hfz86_0
     try clear hfz86_1
     try clear hfz86_2
     try clear hfz86_3
     try clear hfz91_0
     try clear hfz91_1
     try clear hfz91_2
     try clear hfz91_3
     try clear hfz91_4
     try clear hfz91_5
     try clear hfz95_0
     try clear hfz95_1
     try clear hfz95_2
     try clear hfz95_3
     try clear hfz97_0
     try clear hfz97_1
     try clear hfz97_2
     try clear hfz97_3
     try clear hfz97_4
     try clear hfz97_5
     obtain⟨kq,x85_24,rfl,HA,HJ24,HO_423000,HO_423001,HO_432000,HO_432001,HO_447003,HO_456003,BK404,BK405,BK422,BK431,BK446,BK455,HB⟩:=hcut
     cases kq with
     |zero=>exact absurd HA.out (by simp[newellaw12_FlashWrites.j1])
     |succ kj24=>
      have H:=HA.out
      clear HA
      simp only[newellaw12_FlashWrites.j1] at H
      by_cases c115:x85_24=true
      ·subst c115
       have H1:(none)=some r:=by rw[if_pos rfl] at H;exact H
       clear H
       have H:=H1
       clear H1
       exact absurd H (by simp)
      ·replace c115:=Bool.eq_false_iff.mpr c115
       subst c115
       have H1:(if t421=0 then ((newellaw12_awake.f kj24).bind fun t458=>(if t458=true then ((newelref08_Same.f kj24 t414 t423).bind fun t459=>(if t459=true then ((newelref08_Same.f kj24 t417 t426).bind fun t460=>(newellaw12_FlashWrites.j3 kj24 t460)) else (none))) else (none))) else ((newellaw12_awake.f kj24).bind fun t457=>(if t457=true then (if (t414.length:Int)=0 then (newellaw12_FlashWrites.j2 kj24 ((t417.length:Int)==0)) else (none)) else (none))))=some r:=by rw[if_neg (show ¬ (false=true) by decide)] at H;exact H
       clear H
       have H:=H1
       clear H1
       by_cases c116:t421=0
       ·rw[if_pos c116] at H
        have c116b0:(t421==0)=true:=beq_iff_eq.mpr c116
        have c116b1:(t421 != 0)=false:=bne_eq_false_iff_eq.mpr c116
        clear c116
        have HC117:=Aside0.mk H
        clear H
        go_upto_region 11 with(fail)
        go_cut [6] (fun v6 wc=>∃ (kq:Nat) (x6_116:Bool),v6 = .bool x6_116∧Aside0 (newellaw12_FlashWrites.j3 kq x6_116=some r)∧Aside0 (kq≤kj24)∧Aside0 (Kd.R (Kd.int .u8) 5 wc w.heap.size (fun k_=>some k_≠((.slice Ao35 t417.length co35):Value).ownBlock∧some k_≠((.slice Ao62 t441.length co62):Value).ownBlock) (.slice Ao33 t414.length co33) t414)∧Aside0 (Kd.R (Kd.int .u8) 5 wc w.heap.size (fun k_=>some k_≠((.slice Ao33 t414.length co33):Value).ownBlock∧some k_≠((.slice Ao62 t441.length co62):Value).ownBlock) (.slice Ao35 t417.length co35) t417)∧Aside0 (Kd.V (Kd.int .u8) 5 wc w.heap.size (fun k_=>some k_≠((.slice Ao33 t414.length co33):Value).ownBlock∧some k_≠((.slice Ao35 t417.length co35):Value).ownBlock∧some k_≠((.slice Ao62 t441.length co62):Value).ownBlock∧k_≠gb404∧k_≠gb405∧k_≠gb422∧k_≠gb431∧k_≠gb446∧k_≠gb455) (.slice Ao45 t423.length co45) t423)∧Aside0 (Kd.V (Kd.int .u8) 5 wc w.heap.size (fun k_=>some k_≠((.slice Ao33 t414.length co33):Value).ownBlock∧some k_≠((.slice Ao35 t417.length co35):Value).ownBlock∧some k_≠((.slice Ao62 t441.length co62):Value).ownBlock∧k_≠gb404∧k_≠gb405∧k_≠gb422∧k_≠gb431∧k_≠gb446∧k_≠gb455) (.slice Ao50 t426.length co50) t426)∧Aside0 (Kd.R (Kd.int .u8) 5 wc w.heap.size (fun k_=>some k_≠((.slice Ao33 t414.length co33):Value).ownBlock∧some k_≠((.slice Ao35 t417.length co35):Value).ownBlock) (.slice Ao62 t441.length co62) t441)∧Aside0 (Kd.V (Kd.int .u8) 5 wc w.heap.size (fun k_=>some k_≠((.slice Ao33 t414.length co33):Value).ownBlock∧some k_≠((.slice Ao35 t417.length co35):Value).ownBlock∧some k_≠((.slice Ao62 t441.length co62):Value).ownBlock∧k_≠gb404∧k_≠gb405∧k_≠gb422∧k_≠gb431∧k_≠gb446∧k_≠gb455) (.slice Ao73 t450.length co73) t450)∧Aside0 (wc.heap[gb404]?=some (.cells #[(.slice A0_0 l0_0.length c0_0),(.slice A0_1 l0_1.length c0_1)] 24 (0,0)))∧Aside0 (wc.heap[gb405]?=some (.cells #[.int .i64 a1_0,.int .i64 a1_1,.int .i64 a1_2,(.slice A1_3 l1_3.length c1_3)] 26 (0,0)))∧Aside0 (wc.heap[gb422]?=some (.cells #[(.slice Ao33 t414.length co33),(.slice Ao35 t417.length co35)] 24 (0,0)))∧Aside0 (wc.heap[gb431]?=some (.cells #[(.slice Ao45 t423.length co45),(.slice Ao50 t426.length co50),.bool t429,.int .i64 t430] 34 (0,0)))∧Aside0 (wc.heap[gb446]?=some (.cells #[.int .i64 t438,.int .i64 t439,.int .i64 t440,(.slice Ao62 t441.length co62)] 26 (0,0)))∧Aside0 (wc.heap[gb455]?=some (.cells #[.int .i64 t447,.int .i64 t448,.int .i64 t449,(.slice Ao73 t450.length co73),.bool t453,.bool t454] 39 (0,0)))∧Aside0 (Below w.heap.size w wc))
        case first=>
         have H:=HC117.out
         clear HC117
         replace H:=Option.bind_eq_some_iff.mp H
         obtain⟨t458,A1180,H⟩:=H
         replace H:(if t458=true then ((newelref08_Same.f kj24 t414 t423).bind fun t459=>(if t459=true then ((newelref08_Same.f kj24 t417 t426).bind fun t460=>(newellaw12_FlashWrites.j3 kj24 t460)) else (none))) else (none))=some r:=H
         have A118:=Aside0.mk A1180
         clear A1180
         by_cases c119:t458=true
         ·subst c119
          have H1:((newelref08_Same.f kj24 t414 t423).bind fun t459=>(if t459=true then ((newelref08_Same.f kj24 t417 t426).bind fun t460=>(newellaw12_FlashWrites.j3 kj24 t460)) else (none)))=some r:=by rw[if_pos rfl] at H;exact H
          clear H
          have H:=H1
          clear H1
          replace H:=Option.bind_eq_some_iff.mp H
          obtain⟨t459,A1200,H⟩:=H
          replace H:(if t459=true then ((newelref08_Same.f kj24 t417 t426).bind fun t460=>(newellaw12_FlashWrites.j3 kj24 t460)) else (none))=some r:=H
          have A120:=Aside0.mk A1200
          clear A1200
          by_cases c121:t459=true
          ·subst c121
           have H1:((newelref08_Same.f kj24 t417 t426).bind fun t460=>(newellaw12_FlashWrites.j3 kj24 t460))=some r:=by rw[if_pos rfl] at H;exact H
           clear H
           have H:=H1
           clear H1
           replace H:=Option.bind_eq_some_iff.mp H
           obtain⟨t460,A1220,H⟩:=H
           replace H:(newellaw12_FlashWrites.j3 kj24 t460)=some r:=H
           have A122:=Aside0.mk A1220
           clear A1220
           have H':=Aside0.mk H
           clear H
           go_wp2_with (first|((with_reducible refine Qv (f:=10) rfl ?_);refine Ze (some 101) rfl rfl Tryd.func10 kr rfl #[] rfl qM ?_;(with_reducible refine(newellaw12_awake.calls kj24  true _ A118.out (by first|exact HTAB.out|((repeat(first|exact HTAB.out|(with_reducible refine Laid.Zo ?_ _)|(with_reducible refine Laid.Zn ?_ _)|(with_reducible refine Laid.Zq ?_)));done)|(refine Laid.Zk HTAB.out ?_;(repeat(first|(with_reducible first|exact HB.out|apply Qe|apply Qa|apply Qf)|exact HB.out|(refine Qg ?_ (Aside0.out (by assumption)))))))).mono ?_);rintro e w123 ⟨rfl,hb⟩;refine⟨_,rfl, ?_⟩;replace HO_423000:=sRb HO_423000 hb;replace HO_423001:=sRb HO_423001 hb;replace HO_432000:=Aside0.mk (Kd.Q2 HO_432000.out hb);replace HO_432001:=Aside0.mk (Kd.Q2 HO_432001.out hb);replace HO_447003:=sRb HO_447003 hb;replace HO_456003:=Aside0.mk (Kd.Q2 HO_456003.out hb);replace BK404:=sBk BK404 hb;replace BK405:=sBk BK405 hb;replace BK422:=sBk BK422 hb;replace BK431:=sBk BK431 hb;replace BK446:=sBk BK446 hb;replace BK455:=sBk BK455 hb;replace HB:=sHb hb;(try clear hb);(try clear hb2);(try clear hk);(try clear hi);have hnb124:=NB422_404.out;have hnc124:=NB404_422.out;have hnb125:=NB422_405.out;have hnc125:=NB405_422.out;have hnb126:=NB422_431.out;have hnc126:=NB431_422.out;have hnb127:=NB422_446.out;have hnc127:=NB446_422.out;have hnb128:=NB422_455.out;have hnc128:=NB455_422.out;obtain⟨hcz129_0,hcz129_1,hfz129_0,hfz129_1⟩:=qD2 BK422.out;have hnb130:=NB431_404.out;have hnc130:=NB404_431.out;have hnb131:=NB431_405.out;have hnc131:=NB405_431.out;have hnb132:=NB431_446.out;have hnc132:=NB446_431.out;have hnb133:=NB431_455.out;have hnc133:=NB455_431.out;obtain⟨hcz134_0,hcz134_1,hcz134_2,hcz134_3,hfz134_0,hfz134_1,hfz134_2,hfz134_3⟩:=qD4 BK431.out)|(go_at_call 17;(with_reducible refine(newelref08_Same.calls kj24 _ _ t414 _ _ t423 true _ ?side1 ?side2 ?side3 ?side4 A120.out).mono ?_);(case side1=>exact(Kd.Q4 HO_423000.out).2.2);(case side2=>exact(Kd.Q4 HO_423000.out).2.1);(case side3=>exact(Kd.Zm HO_432000.out).2.2);(case side4=>exact(Kd.Zm HO_432000.out).2.1);rintro e w' ⟨rfl,⟨nd,rfl⟩⟩)|(go_at_call 17;(with_reducible refine(newelref08_Same.calls kj24 _ _ t417 _ _ t426 t460 _ ?side1 ?side2 ?side3 ?side4 A122.out).mono ?_);(case side1=>exact(Kd.Q4 HO_423001.out).2.2);(case side2=>exact(Kd.Q4 HO_423001.out).2.1);(case side3=>exact(Kd.Zm HO_432001.out).2.2);(case side4=>exact(Kd.Zm HO_432001.out).2.1);rintro e w' ⟨rfl,⟨nd,rfl⟩⟩))
           go_meet
           case rel=>exact⟨_,(t460),qR,H',⟨by have:=HJ3.out;have:=HJ24.out;first|omega|exact Nat.le_refl _⟩,⟨by(with_reducible repeat first|apply Kd.Qi|apply Kd.Qh|apply Kd.Ql);exact HO_423000.out⟩,⟨by(with_reducible repeat first|apply Kd.Qi|apply Kd.Qh|apply Kd.Ql);exact HO_423001.out⟩,⟨by(with_reducible repeat first|apply Kd.Qx|apply Kd.Qw|apply Kd.Q0);exact HO_432000.out⟩,⟨by(with_reducible repeat first|apply Kd.Qx|apply Kd.Qw|apply Kd.Q0);exact HO_432001.out⟩,⟨by(with_reducible repeat first|apply Kd.Qi|apply Kd.Qh|apply Kd.Ql);exact HO_447003.out⟩,⟨by(with_reducible repeat first|apply Kd.Qx|apply Kd.Qw|apply Kd.Q0);exact HO_456003.out⟩,⟨bka BK404⟩,⟨bka BK405⟩,⟨bka BK422⟩,⟨bka BK431⟩,⟨bka BK446⟩,⟨bka BK455⟩,⟨bel⟩⟩
          ·replace c121:=Bool.eq_false_iff.mpr c121
           subst c121
           have H1:(none)=some r:=by rw[if_neg (show ¬ (false=true) by decide)] at H;exact H
           clear H
           have H:=H1
           clear H1
           exact absurd H (by simp)
         ·replace c119:=Bool.eq_false_iff.mpr c119
          subst c119
          have H1:(none)=some r:=by rw[if_neg (show ¬ (false=true) by decide)] at H;exact H
          clear H
          have H:=H1
          clear H1
          exact absurd H (by simp)
        case rest=>
         clear HC117
         try clear c1
         try clear p2
         try clear c3
         try clear c4
         try clear c5
         try clear c6
         try clear c7
         try clear c8
         try clear c9
         try clear c10
         try clear c11
         try clear c12
         try clear c13
         try clear c14
         try clear c15
         try clear c38
         try clear c39
         try clear c41
         try clear c46
         try clear c47
         try clear c48
         try clear c57
         try clear c58
         try clear c59
         try clear c60
         try clear c67
         try clear c68
         try clear c69
         try clear c70
         try clear c71
         try clear c74
         try clear c74b0
         try clear c74b1
         try clear c75
         try clear c75b0
         try clear c75b1
         try clear c75b2
         try clear c76
         try clear c76b0
         try clear c76b1
         try clear c76b2
         try clear c77
         try clear c77b0
         try clear c77b1
         try clear c77b2
         try clear c79
         try clear c80
         try clear c81
         try clear c82
         try clear c83
         try clear c84
         try clear c85
         try clear c87
         try clear c88
         try clear c89
         try clear c90
         try clear c92
         try clear c93
         try clear c94
         try clear c98
         try clear c99
         try clear c100
         try clear c101
         try clear c102
         try clear c104
         try clear c105
         try clear c106
         try clear c107
         try clear c109
         try clear c110
         try clear c111
         try clear c115
         try clear c116
         try clear c116b0
         try clear c116b1
         try clear c119
         try clear c121
         try clear c124
         try clear c125
         try clear c126
         try clear c127
         try clear c128
         try clear c130
         try clear c131
         try clear c132
         try clear c133
         try clear hcz103_0
         try clear hcz103_1
         try clear hcz103_2
         try clear hcz103_3
         try clear hcz108_0
         try clear hcz108_1
         try clear hcz108_2
         try clear hcz108_3
         try clear hcz108_4
         try clear hcz108_5
         try clear hcz112_0
         try clear hcz112_1
         try clear hcz112_2
         try clear hcz112_3
         try clear hcz114_0
         try clear hcz114_1
         try clear hcz114_2
         try clear hcz114_3
         try clear hcz114_4
         try clear hcz114_5
         try clear hcz129_0
         try clear hcz129_1
         try clear hcz134_0
         try clear hcz134_1
         try clear hcz134_2
         try clear hcz134_3
         try clear hcz40_0
         try clear hcz40_1
         try clear hcz42_0
         try clear hcz42_1
         try clear hcz42_2
         try clear hcz42_3
         try clear hcz49_0
         try clear hcz49_1
         try clear hcz49_2
         try clear hcz49_3
         try clear hcz51_0
         try clear hcz51_1
         try clear hcz61_0
         try clear hcz61_1
         try clear hcz61_2
         try clear hcz61_3
         try clear hcz64_0
         try clear hcz64_1
         try clear hcz72_0
         try clear hcz72_1
         try clear hcz72_2
         try clear hcz72_3
         try clear hcz72_4
         try clear hcz72_5
         try clear hcz86_0
         try clear hcz86_1
         try clear hcz86_2
         try clear hcz86_3
         try clear hcz91_0
         try clear hcz91_1
         try clear hcz91_2
         try clear hcz91_3
         try clear hcz91_4
         try clear hcz91_5
         try clear hcz95_0
         try clear hcz95_1
         try clear hcz95_2
         try clear hcz95_3
         try clear hcz97_0
         try clear hcz97_1
         try clear hcz97_2
         try clear hcz97_3
         try clear hcz97_4
         try clear hcz97_5
         try clear hfz103_0
         try clear hfz103_1
         try clear hfz103_2
         try clear hfz103_3
         try clear hfz108_0
         try clear hfz108_1
         try clear hfz108_2
         try clear hfz108_3
         try clear hfz108_4
         try clear hfz108_5
         try clear hfz112_0
         try clear hfz112_1
         try clear hfz112_2
         try clear hfz112_3
         try clear hfz114_0
         try clear hfz114_1
         try clear hfz114_2
         try clear hfz114_3
         try clear hfz114_4
         try clear hfz114_5
         try clear hfz129_0
         try clear hfz129_1
         try clear hfz134_0
         try clear hfz134_1
         try clear hfz134_2
         try clear hfz134_3
         try clear hfz40_0
         try clear hfz40_1
         try clear hfz42_0
         try clear hfz42_1
         try clear hfz42_2
         try clear hfz42_3
         try clear hfz49_0
         try clear hfz49_1
         try clear hfz49_2
         try clear hfz49_3
         try clear hfz51_0
         try clear hfz51_1
         try clear hfz61_0
         try clear hfz61_1
         try clear hfz61_2
         try clear hfz61_3
         try clear hfz64_0
         try clear hfz64_1
         try clear hfz72_0
         try clear hfz72_1
         try clear hfz72_2
         try clear hfz72_3
         try clear hfz72_4
         try clear hfz72_5
         try clear hfz86_0
         try clear hfz86_1
         try clear hfz86_2
         try clear hfz86_3
         try clear hfz91_0
         try clear hfz91_1
         try clear hfz91_2
         try clear hfz91_3
         try clear hfz91_4
         try clear hfz91_5
         try clear hfz95_0
         try clear hfz95_1
         try clear hfz95_2
         try clear hfz95_3
         try clear hfz97_0
         try clear hfz97_1
         try clear hfz97_2
         try clear hfz97_3
         try clear hfz97_4
         try clear hfz97_5
         try clear p2
         obtain⟨kq,x6_116,rfl,HA,HJ116,HO_423000,HO_423001,HO_432000,HO_432001,HO_447003,HO_456003,BK404,BK405,BK422,BK431,BK446,BK455,HB⟩:=hcut
         cases kq with
         |zero=>exact absurd HA.out (by simp[newellaw12_FlashWrites.j3])
         |succ kj116=>
          have H:=HA.out
          clear HA
          simp only[newellaw12_FlashWrites.j3] at H
          obtain rfl:=Option.some.inj H
          go_wp2
          go_ret
          exact⟨rfl,HB.out⟩
       ·rw[if_neg c116] at H
        have c116b0:(t421==0)=false:=beq_eq_false_iff_ne.mpr c116
        have c116b1:(t421 != 0)=true:=bne_iff_ne.mpr c116
        have HC135:=Aside0.mk H
        clear H
        go_upto_region 10 with(fail)
        go_cut [6] (fun v6 wc=>∃ (kq:Nat) (x6_134:Bool),v6 = .bool x6_134∧Aside0 (newellaw12_FlashWrites.j2 kq x6_134=some r)∧Aside0 (kq≤kj24)∧Aside0 (Kd.R (Kd.int .u8) 5 wc w.heap.size (fun k_=>some k_≠((.slice Ao35 t417.length co35):Value).ownBlock∧some k_≠((.slice Ao62 t441.length co62):Value).ownBlock) (.slice Ao33 t414.length co33) t414)∧Aside0 (Kd.R (Kd.int .u8) 5 wc w.heap.size (fun k_=>some k_≠((.slice Ao33 t414.length co33):Value).ownBlock∧some k_≠((.slice Ao62 t441.length co62):Value).ownBlock) (.slice Ao35 t417.length co35) t417)∧Aside0 (Kd.V (Kd.int .u8) 5 wc w.heap.size (fun k_=>some k_≠((.slice Ao33 t414.length co33):Value).ownBlock∧some k_≠((.slice Ao35 t417.length co35):Value).ownBlock∧some k_≠((.slice Ao62 t441.length co62):Value).ownBlock∧k_≠gb404∧k_≠gb405∧k_≠gb422∧k_≠gb431∧k_≠gb446∧k_≠gb455) (.slice Ao45 t423.length co45) t423)∧Aside0 (Kd.V (Kd.int .u8) 5 wc w.heap.size (fun k_=>some k_≠((.slice Ao33 t414.length co33):Value).ownBlock∧some k_≠((.slice Ao35 t417.length co35):Value).ownBlock∧some k_≠((.slice Ao62 t441.length co62):Value).ownBlock∧k_≠gb404∧k_≠gb405∧k_≠gb422∧k_≠gb431∧k_≠gb446∧k_≠gb455) (.slice Ao50 t426.length co50) t426)∧Aside0 (Kd.R (Kd.int .u8) 5 wc w.heap.size (fun k_=>some k_≠((.slice Ao33 t414.length co33):Value).ownBlock∧some k_≠((.slice Ao35 t417.length co35):Value).ownBlock) (.slice Ao62 t441.length co62) t441)∧Aside0 (Kd.V (Kd.int .u8) 5 wc w.heap.size (fun k_=>some k_≠((.slice Ao33 t414.length co33):Value).ownBlock∧some k_≠((.slice Ao35 t417.length co35):Value).ownBlock∧some k_≠((.slice Ao62 t441.length co62):Value).ownBlock∧k_≠gb404∧k_≠gb405∧k_≠gb422∧k_≠gb431∧k_≠gb446∧k_≠gb455) (.slice Ao73 t450.length co73) t450)∧Aside0 (wc.heap[gb404]?=some (.cells #[(.slice A0_0 l0_0.length c0_0),(.slice A0_1 l0_1.length c0_1)] 24 (0,0)))∧Aside0 (wc.heap[gb405]?=some (.cells #[.int .i64 a1_0,.int .i64 a1_1,.int .i64 a1_2,(.slice A1_3 l1_3.length c1_3)] 26 (0,0)))∧Aside0 (wc.heap[gb422]?=some (.cells #[(.slice Ao33 t414.length co33),(.slice Ao35 t417.length co35)] 24 (0,0)))∧Aside0 (wc.heap[gb431]?=some (.cells #[(.slice Ao45 t423.length co45),(.slice Ao50 t426.length co50),.bool t429,.int .i64 t430] 34 (0,0)))∧Aside0 (wc.heap[gb446]?=some (.cells #[.int .i64 t438,.int .i64 t439,.int .i64 t440,(.slice Ao62 t441.length co62)] 26 (0,0)))∧Aside0 (wc.heap[gb455]?=some (.cells #[.int .i64 t447,.int .i64 t448,.int .i64 t449,(.slice Ao73 t450.length co73),.bool t453,.bool t454] 39 (0,0)))∧Aside0 (Below w.heap.size w wc))
        case first=>
         have H:=HC135.out
         clear HC135
         replace H:=Option.bind_eq_some_iff.mp H
         obtain⟨t457,A1360,H⟩:=H
         replace H:(if t457=true then (if (t414.length:Int)=0 then (newellaw12_FlashWrites.j2 kj24 ((t417.length:Int)==0)) else (none)) else (none))=some r:=H
         have A136:=Aside0.mk A1360
         clear A1360
         by_cases c137:t457=true
         ·subst c137
          have H1:(if (t414.length:Int)=0 then (newellaw12_FlashWrites.j2 kj24 ((t417.length:Int)==0)) else (none))=some r:=by rw[if_pos rfl] at H;exact H
          clear H
          have H:=H1
          clear H1
          by_cases c138:(t414.length:Int)=0
          ·rw[if_pos c138] at H
           have c138b0:((t414.length:Int)==0)=true:=beq_iff_eq.mpr c138
           have c138b1:((t414.length:Int) != 0)=false:=bne_eq_false_iff_eq.mpr c138
           clear c138
           (first|rw[c138b0]|(simp only[Zu,Z4];rw[c138b0])|skip)
           have H':=Aside0.mk H
           clear H
           go_wp2_with (first|((with_reducible refine Qv (f:=10) rfl ?_);refine Ze (some 88) rfl rfl Tryd.func10 kr rfl #[] rfl qM ?_;(with_reducible refine(newellaw12_awake.calls kj24  true _ A136.out (by first|exact HTAB.out|((repeat(first|exact HTAB.out|(with_reducible refine Laid.Zo ?_ _)|(with_reducible refine Laid.Zn ?_ _)|(with_reducible refine Laid.Zq ?_)));done)|(refine Laid.Zk HTAB.out ?_;(repeat(first|(with_reducible first|exact HB.out|apply Qe|apply Qa|apply Qf)|exact HB.out|(refine Qg ?_ (Aside0.out (by assumption)))))))).mono ?_);rintro e w139 ⟨rfl,hb⟩;refine⟨_,rfl, ?_⟩;replace HO_423000:=sRb HO_423000 hb;replace HO_423001:=sRb HO_423001 hb;replace HO_432000:=Aside0.mk (Kd.Q2 HO_432000.out hb);replace HO_432001:=Aside0.mk (Kd.Q2 HO_432001.out hb);replace HO_447003:=sRb HO_447003 hb;replace HO_456003:=Aside0.mk (Kd.Q2 HO_456003.out hb);replace BK404:=sBk BK404 hb;replace BK405:=sBk BK405 hb;replace BK422:=sBk BK422 hb;replace BK431:=sBk BK431 hb;replace BK446:=sBk BK446 hb;replace BK455:=sBk BK455 hb;replace HB:=sHb hb;(try clear hb);(try clear hb2);(try clear hk);(try clear hi);have hnb140:=NB422_404.out;have hnc140:=NB404_422.out;have hnb141:=NB422_405.out;have hnc141:=NB405_422.out;have hnb142:=NB422_431.out;have hnc142:=NB431_422.out;have hnb143:=NB422_446.out;have hnc143:=NB446_422.out;have hnb144:=NB422_455.out;have hnc144:=NB455_422.out;obtain⟨hcz145_0,hcz145_1,hfz145_0,hfz145_1⟩:=qD2 BK422.out))
           go_meet
           case rel=>exact⟨_,(((t417.length:Int)==0)),rfl,H',⟨by have:=HJ3.out;have:=HJ24.out;first|omega|exact Nat.le_refl _⟩,⟨by(with_reducible repeat first|apply Kd.Qi|apply Kd.Qh|apply Kd.Ql);exact HO_423000.out⟩,⟨by(with_reducible repeat first|apply Kd.Qi|apply Kd.Qh|apply Kd.Ql);exact HO_423001.out⟩,⟨by(with_reducible repeat first|apply Kd.Qx|apply Kd.Qw|apply Kd.Q0);exact HO_432000.out⟩,⟨by(with_reducible repeat first|apply Kd.Qx|apply Kd.Qw|apply Kd.Q0);exact HO_432001.out⟩,⟨by(with_reducible repeat first|apply Kd.Qi|apply Kd.Qh|apply Kd.Ql);exact HO_447003.out⟩,⟨by(with_reducible repeat first|apply Kd.Qx|apply Kd.Qw|apply Kd.Q0);exact HO_456003.out⟩,BK404,BK405,BK422,BK431,BK446,BK455,HB⟩
          ·rw[if_neg c138] at H
           exact absurd H (by simp)
         ·replace c137:=Bool.eq_false_iff.mpr c137
          subst c137
          have H1:(none)=some r:=by rw[if_neg (show ¬ (false=true) by decide)] at H;exact H
          clear H
          have H:=H1
          clear H1
          exact absurd H (by simp)
        case rest=>
         clear HC135
         try clear c1
         try clear p2
         try clear c3
         try clear c4
         try clear c5
         try clear c6
         try clear c7
         try clear c8
         try clear c9
         try clear c10
         try clear c11
         try clear c12
         try clear c13
         try clear c14
         try clear c15
         try clear c38
         try clear c39
         try clear c41
         try clear c46
         try clear c47
         try clear c48
         try clear c57
         try clear c58
         try clear c59
         try clear c60
         try clear c67
         try clear c68
         try clear c69
         try clear c70
         try clear c71
         try clear c74
         try clear c74b0
         try clear c74b1
         try clear c75
         try clear c75b0
         try clear c75b1
         try clear c75b2
         try clear c76
         try clear c76b0
         try clear c76b1
         try clear c76b2
         try clear c77
         try clear c77b0
         try clear c77b1
         try clear c77b2
         try clear c79
         try clear c80
         try clear c81
         try clear c82
         try clear c83
         try clear c84
         try clear c85
         try clear c87
         try clear c88
         try clear c89
         try clear c90
         try clear c92
         try clear c93
         try clear c94
         try clear c98
         try clear c99
         try clear c100
         try clear c101
         try clear c102
         try clear c104
         try clear c105
         try clear c106
         try clear c107
         try clear c109
         try clear c110
         try clear c111
         try clear c115
         try clear c116
         try clear c116b0
         try clear c116b1
         try clear c119
         try clear c121
         try clear c124
         try clear c125
         try clear c126
         try clear c127
         try clear c128
         try clear c130
         try clear c131
         try clear c132
         try clear c133
         try clear c137
         try clear c138
         try clear c138b0
         try clear c138b1
         try clear c140
         try clear c141
         try clear c142
         try clear c143
         try clear c144
         try clear hcz103_0
         try clear hcz103_1
         try clear hcz103_2
         try clear hcz103_3
         try clear hcz108_0
         try clear hcz108_1
         try clear hcz108_2
         try clear hcz108_3
         try clear hcz108_4
         try clear hcz108_5
         try clear hcz112_0
         try clear hcz112_1
         try clear hcz112_2
         try clear hcz112_3
         try clear hcz114_0
         try clear hcz114_1
         try clear hcz114_2
         try clear hcz114_3
         try clear hcz114_4
         try clear hcz114_5
         try clear hcz129_0
         try clear hcz129_1
         try clear hcz134_0
         try clear hcz134_1
         try clear hcz134_2
         try clear hcz134_3
         try clear hcz145_0
         try clear hcz145_1
         try clear hcz40_0
         try clear hcz40_1
         try clear hcz42_0
         try clear hcz42_1
         try clear hcz42_2
         try clear hcz42_3
         try clear hcz49_0
         try clear hcz49_1
         try clear hcz49_2
         try clear hcz49_3
         try clear hcz51_0
         try clear hcz51_1
         try clear hcz61_0
         try clear hcz61_1
         try clear hcz61_2
         try clear hcz61_3
         try clear hcz64_0
         try clear hcz64_1
         try clear hcz72_0
         try clear hcz72_1
         try clear hcz72_2
         try clear hcz72_3
         try clear hcz72_4
         try clear hcz72_5
         try clear hcz86_0
         try clear hcz86_1
         try clear hcz86_2
         try clear hcz86_3
         try clear hcz91_0
         try clear hcz91_1
         try clear hcz91_2
         try clear hcz91_3
         try clear hcz91_4
         try clear hcz91_5
         try clear hcz95_0
         try clear hcz95_1
         try clear hcz95_2
         try clear hcz95_3
         try clear hcz97_0
         try clear hcz97_1
         try clear hcz97_2
         try clear hcz97_3
         try clear hcz97_4
         try clear hcz97_5
         try clear hfz103_0
         try clear hfz103_1
         try clear hfz103_2
         try clear hfz103_3
         try clear hfz108_0
         try clear hfz108_1
         try clear hfz108_2
         try clear hfz108_3
         try clear hfz108_4
         try clear hfz108_5
         try clear hfz112_0
         try clear hfz112_1
         try clear hfz112_2
         try clear hfz112_3
         try clear hfz114_0
         try clear hfz114_1
         try clear hfz114_2
         try clear hfz114_3
         try clear hfz114_4
         try clear hfz114_5
         try clear hfz129_0
         try clear hfz129_1
         try clear hfz134_0
         try clear hfz134_1
         try clear hfz134_2
         try clear hfz134_3
         try clear hfz145_0
         try clear hfz145_1
         try clear hfz40_0
         try clear hfz40_1
         try clear hfz42_0
         try clear hfz42_1
         try clear hfz42_2
         try clear hfz42_3
         try clear hfz49_0
         try clear hfz49_1
         try clear hfz49_2
         try clear hfz49_3
         try clear hfz51_0
         try clear hfz51_1
         try clear hfz61_0
         try clear hfz61_1
         try clear hfz61_2
         try clear hfz61_3
         try clear hfz64_0
         try clear hfz64_1
         try clear hfz72_0
         try clear hfz72_1
         try clear hfz72_2
         try clear hfz72_3
         try clear hfz72_4
         try clear hfz72_5
         try clear hfz86_0
         try clear hfz86_1
         try clear hfz86_2
         try clear hfz86_3
         try clear hfz91_0
         try clear hfz91_1
         try clear hfz91_2
         try clear hfz91_3
         try clear hfz91_4
         try clear hfz91_5
         try clear hfz95_0
         try clear hfz95_1
         try clear hfz95_2
         try clear hfz95_3
         try clear hfz97_0
         try clear hfz97_1
         try clear hfz97_2
         try clear hfz97_3
         try clear hfz97_4
         try clear hfz97_5
         try clear p2
         obtain⟨kq,x6_134,rfl,HA,HJ134,HO_423000,HO_423001,HO_432000,HO_432001,HO_447003,HO_456003,BK404,BK405,BK422,BK431,BK446,BK455,HB⟩:=hcut
         cases kq with
         |zero=>exact absurd HA.out (by simp[newellaw12_FlashWrites.j2])
         |succ kj134=>
          have H:=HA.out
          clear HA
          simp only[newellaw12_FlashWrites.j2] at H
          obtain rfl:=Option.some.inj H
          go_wp2
          go_ret
          exact⟨rfl,HB.out⟩
end Go.Proofs.YtickbejailcehaaDoor.C
namespace Go.Proofs.YtickbejailcehaaDoor.Flash
open Go.RowKit Go.Proofs.YtickbejailcehaaDoorW.PrintWords Go.Proofs.YtickbejailcehaaDoorW.PrintLast Go.Proofs.YtickbejailcehaaDoorW.PrintMore Go.Proofs.YtickbejailcehaaDoor.C
open Go.Proofs.YtickbejailcehaaDoor.Wire (In pt Yk Z9 Zt)
open Go.Proofs.YtickbejailcehaaDoor.Crc (Yg Yh By)
set_option linter.unusedVariables false
theorem Nq (a b:List Int):(Zy a b).2.2.2.2.2=0∨(Zy a b).2.2.2.2.2=123:=by
  rw[Jg]
  rcases Kj (Z6 a) (Z6 b) with⟨_,_,e⟩|⟨_,_,e⟩|⟨_,_,e⟩ <;> rw[e]
  · exact .inr rfl
  · exact .inl rfl
  · exact .inl rfl
theorem V8 (l:List Int):(Z6 l).2.2.2.1.length≤l.length:=by
  unfold Z6
  split
  · split
    · split
      · split
        · exact Nat.zero_le _
        · split
          · exact Nat.zero_le _
          · split
            · exact Nat.zero_le _
            · split
              · show((l.drop _).take _).length≤_
                rw[List.length_take,List.length_drop]
                omega
              · exact Nat.zero_le _
      · exact Nat.zero_le _
    · exact Nat.zero_le _
  · exact Nat.zero_le _
theorem Np (a b:List Int):(Zy a b).2.2.2.1.length≤a.length+b.length:=by
  have h1:=V8 a
  have h2:=V8 b
  rw[Jg]
  rcases Kj (Z6 a) (Z6 b) with⟨_,_,e⟩|⟨_,_,e⟩|⟨_,_,e⟩ <;> rw[e]
  · exact Nat.zero_le _
  · show(Z6 b).2.2.2.1.length≤_
    omega
  · show(Z6 a).2.2.2.1.length≤_
    omega
theorem Wq (a b:List Int) (ha:∀ x ∈ a,By x) (hb:∀ x ∈ b,By x) {g c m:Int} {l:List Int} (hg:In g) (hc:In c) (hm:In m) (hl:∀ x ∈ l,By x) (cut:Int) (k:Nat) (hk:400000≤k):newellaw12_FlashWrites.f k a b g c m l cut=some true:=by
  obtain⟨k,rfl⟩:∃ n,k=n+3:=⟨k-3,by omega⟩
  unfold newellaw12_FlashWrites.f
  rw[E7]
  simp only[Option.bind_some]
  have jt:∀ x:Bool,x=true→newellaw12_FlashWrites.j0 (k+3) cut x a b g c m l=some true:=by
    intro x hx
    simp only[newellaw12_FlashWrites.j0]
    rw[if_pos hx,Uk _ (by omega)]
    rfl
  by_cases hs:a.length≤5000∧b.length≤5000
  case neg=>
    rw[decide_eq_false hs,if_neg (by decide),jt _ rfl]
  rw[decide_eq_true hs,if_pos rfl]
  by_cases hL:(l.length:Int)>5000
  · rw[decide_eq_true hL,jt _ rfl]
  rw[decide_eq_false hL]
  obtain⟨sa,sb⟩:=hs
  have ll:l.length≤1000000:=by omega
  have sr:=Np a b
  have wl:=Wr a b (g:=g) (c:=c) (m:=m) (l:=l) cut 6000 (by omega) (by omega) (by omega)
  simp only[newellaw12_FlashWrites.j0]
  rw[if_neg (by decide),E0 a b (by omega) (by omega)]
  simp only[Option.bind_some]
  rw[Vu a b ha hb (by omega) (by omega) hg hc hm hl ll cut _ (by omega)]
  simp only[Option.bind_some]
  rw[Ws a b ha hb (by omega) (by omega) hg hc hm hl ll cut _ (by omega)]
  simp only[Option.bind_some]
  rw[Jw a b ha hb (by omega) (by omega) _ (by omega)]
  simp only[Option.bind_some]
  rw[Kv a b ha hb (by omega) (by omega) _ (by omega)]
  simp only[Option.bind_some]
  have e1:∀ x:Bool,newellaw12_FlashWrites.j3 (k+1) x=some x:=fun x=>rfl
  have e2:∀ x:Bool,newellaw12_FlashWrites.j2 (k+1) x=some x:=fun x=>rfl
  have hr:=Nq a b
  have hwe:(Yf a b g c m l cut).2.2.2=0∨((Yf a b g c m l cut).1 = []∧(Yf a b g c m l cut).2.1 = []):=by
    unfold Yf
    split
    · split
      · exact .inr ⟨rfl,rfl⟩
      · exact .inl rfl
    · exact .inr ⟨rfl,rfl⟩
  generalize Zy a b=R at *
  generalize Yf a b g c m l cut=Wt at *
  have j1:newellaw12_FlashWrites.j1 (k+2) Wt.2.2.2 false Wt.1 Wt.2.1 Wt.1 Wt.2.1 Wt.2.2.1 Wt.2.2.2=some true:=by
    simp only[newellaw12_FlashWrites.j1]
    rw[if_neg (by decide),Uk _ (by omega)]
    simp only[Option.bind_some]
    by_cases h0:Wt.2.2.2=0
    · rw[if_pos h0,if_pos trivial,Wire.Jf _ _ _ (by omega) (by omega),Wire.Jf _ _ _ (by omega) (by omega)]
      simp only[Option.bind_some,decide_true,if_true]
      exact e1 true
    · rcases hwe with h|⟨h1,h2⟩
      · exact absurd h h0
      · rw[if_neg h0,if_pos trivial,h1,h2,if_pos (show(([]:List Int).length:Int)=0 from rfl)]
        exact(e2 _).trans rfl
  rw[if_pos trivial,if_neg (by simp),Ly _ _ _ _ _ _ _ _ (by omega) _ (by omega)]
  have e3:((R.2.2.2.2.2==0) != decide (R.2.2.2.2.2=0))=false:=by
    rcases hr with h|h <;> rw[h] <;> rfl
  rw[e3,if_neg (by decide),if_neg (by simp)]
  simp only[Option.bind_some,and_self,decide_true,if_true]
  by_cases h:R.2.2.2.2.2=0
  · rw[if_pos (decide_eq_true h)]
    exact j1
  · rw[if_neg (by rw[decide_eq_false h];decide)]
    rcases hr with e|e
    · exact absurd e h
    · rw[e]
      exact j1
end Go.Proofs.YtickbejailcehaaDoor.Flash
