/- Texts of this claim, one behind the other: what the law's functions come to, walked (printed by a program, with the words that the print uses), and what that is, in plain Lean. No conditions of their own. -/
import Derived.Test.YtickbejailcehaaDoorQFlashWhole10
namespace Go.Proofs.YtickbejailcehaaDoor.C
open Go.RowKit Go.Proofs.YtickbejailcehaaDoorW.PrintWords Go.Proofs.YtickbejailcehaaDoorW.PrintLast Go.Proofs.YtickbejailcehaaDoorW.PrintMore
attribute [local go_sem] Zr Zp Zy Zx Zl Zk Zq Zo
set_option linter.unusedVariables false
set_option linter.unusedSimpArgs false
mutual
def newellaw12_FlashWhole.j0:Nat→Int→Bool→List Int→List Int→Int→Int→Int→List Int→Option (Bool)
 |0,_,_,_,_,_,_,_,_=>none
 |k+1,x2,x24,x523000,x523001,x524000,x524001,x524002,x524003=>if x24=true then ((newellaw12_awake.f k).bind fun t525=>(some t525)) else ((newellaw12_Own.f x523000 x523001).bind fun bt526=>((flash_Recover.f k bt526.1 bt526.2).bind fun bt532=>((newellaw12_Own.f x523000 x523001).bind fun bt541=>((flash_Write.f k bt541.1 bt541.2 x524000 x524001 x524002 x524003 x2).bind fun bt547=>(if bt547.2.2.2=0 then ((flash_Recover.f k bt547.1 bt547.2.1).bind fun bt557=>(if bt547.2.2.1=true then ((newellaw12_awake.f k).bind fun t566=>(if t566=true then (if bt557.2.2.2.2.2=0 then ((flash_Same.f bt557.1 bt557.2.1 bt557.2.2.1 bt557.2.2.2.1 x524000 x524001 x524002 x524003).bind fun t567=>(newellaw12_FlashWhole.j1 k t567)) else (none)) else (none))) else ((newellaw12_awake.f k).bind fun t568=>(if t568=true then (if bt557.2.2.2.2.2=bt532.2.2.2.2.2 then (if bt557.2.2.2.2.2=0 then ((flash_Same.f bt557.1 bt557.2.1 bt557.2.2.1 bt557.2.2.2.1 bt532.1 bt532.2.1 bt532.2.2.1 bt532.2.2.2.1).bind fun t569=>(newellaw12_FlashWhole.j2 k t569)) else (newellaw12_FlashWhole.j2 k true)) else (none)) else (none))))) else ((newellaw12_awake.f k).bind fun t556=>(if t556=true then (some (!bt547.2.2.1)) else (none))))))))
def newellaw12_FlashWhole.j1:Nat→Bool→Option (Bool)
 |0,_=>none
 |k+1,x6=>some x6
def newellaw12_FlashWhole.j2:Nat→Bool→Option (Bool)
 |0,_=>none
 |k+1,x6=>some x6
end
def newellaw12_FlashWhole.f (k:Nat) (l0_0:List Int) (l0_1:List Int) (a1_0:Int) (a1_1:Int) (a1_2:Int) (l1_3:List Int) (a2:Int):Option (Bool):=(newelref12_Few.f l0_0 l0_1).bind fun t524=>(if t524=true then (newellaw12_FlashWhole.j0 k a2 (decide ((l1_3.length:Int)>5000)) l0_0 l0_1 a1_0 a1_1 a1_2 l1_3) else (newellaw12_FlashWhole.j0 k a2 true l0_0 l0_1 a1_0 a1_1 a1_2 l1_3))
theorem newellaw12_FlashWhole.Zv:∀ k,(∀ y0 y1 y2 y3 y4 y5 y6 y7,LeO (newellaw12_FlashWhole.j0 k y0 y1 y2 y3 y4 y5 y6 y7) (newellaw12_FlashWhole.j0 (k+1) y0 y1 y2 y3 y4 y5 y6 y7))∧(∀ y0,LeO (newellaw12_FlashWhole.j1 k y0) (newellaw12_FlashWhole.j1 (k+1) y0))∧(∀ y0,LeO (newellaw12_FlashWhole.j2 k y0) (newellaw12_FlashWhole.j2 (k+1) y0))
 |0=>⟨fun _ _ _ _ _ _ _ _ r h=>by simp[newellaw12_FlashWhole.j0] at h,fun _ r h=>by simp[newellaw12_FlashWhole.j1] at h,fun _ r h=>by simp[newellaw12_FlashWhole.j2] at h⟩
 |k+1=>by
  obtain⟨ih0,ih1,ih2⟩:=newellaw12_FlashWhole.Zv k
  refine⟨?_, ?_, ?_⟩
  ·intro y0 y1 y2 y3 y4 y5 y6 y7
   unfold newellaw12_FlashWhole.j0
   repeat' first
   |(with_reducible exact ih0 _ _ _ _ _ _ _ _)
   |(with_reducible exact ih1 _)
   |(with_reducible exact ih2 _)
   |(with_reducible exact flash_Recover.mono _ _ _)
   |(with_reducible exact flash_Write.mono _ _ _ _ _ _ _ _)
   |(with_reducible exact newellaw12_awake.mono _)
   |(with_reducible exact LeO.refl _)
   |(with_reducible exact LeO.none _)
   |(with_reducible refine LeO.ite ?_ ?_)
   |(with_reducible refine LeO.bind ?_ (fun _=>?_))
   |exact ih0 _ _ _ _ _ _ _ _
   |exact ih1 _
   |exact ih2 _
   |exact flash_Recover.mono _ _ _
   |exact flash_Write.mono _ _ _ _ _ _ _ _
   |exact newellaw12_awake.mono _
   |exact LeO.none _
   |refine LeO.ite ?_ ?_
   |refine LeO.bind ?_ (fun _=>?_)
  ·intro y0
   unfold newellaw12_FlashWhole.j1
   repeat' first
   |(with_reducible exact ih0 _ _ _ _ _ _ _ _)
   |(with_reducible exact ih1 _)
   |(with_reducible exact ih2 _)
   |(with_reducible exact flash_Recover.mono _ _ _)
   |(with_reducible exact flash_Write.mono _ _ _ _ _ _ _ _)
   |(with_reducible exact newellaw12_awake.mono _)
   |(with_reducible exact LeO.refl _)
   |(with_reducible exact LeO.none _)
   |(with_reducible refine LeO.ite ?_ ?_)
   |(with_reducible refine LeO.bind ?_ (fun _=>?_))
   |exact ih0 _ _ _ _ _ _ _ _
   |exact ih1 _
   |exact ih2 _
   |exact flash_Recover.mono _ _ _
   |exact flash_Write.mono _ _ _ _ _ _ _ _
   |exact newellaw12_awake.mono _
   |exact LeO.none _
   |refine LeO.ite ?_ ?_
   |refine LeO.bind ?_ (fun _=>?_)
  ·intro y0
   unfold newellaw12_FlashWhole.j2
   repeat' first
   |(with_reducible exact ih0 _ _ _ _ _ _ _ _)
   |(with_reducible exact ih1 _)
   |(with_reducible exact ih2 _)
   |(with_reducible exact flash_Recover.mono _ _ _)
   |(with_reducible exact flash_Write.mono _ _ _ _ _ _ _ _)
   |(with_reducible exact newellaw12_awake.mono _)
   |(with_reducible exact LeO.refl _)
   |(with_reducible exact LeO.none _)
   |(with_reducible refine LeO.ite ?_ ?_)
   |(with_reducible refine LeO.bind ?_ (fun _=>?_))
   |exact ih0 _ _ _ _ _ _ _ _
   |exact ih1 _
   |exact ih2 _
   |exact flash_Recover.mono _ _ _
   |exact flash_Write.mono _ _ _ _ _ _ _ _
   |exact newellaw12_awake.mono _
   |exact LeO.none _
   |refine LeO.ite ?_ ?_
   |refine LeO.bind ?_ (fun _=>?_)
theorem newellaw12_FlashWhole.mono:∀ a0 a1 a2 a3 a4 a5 a6 k,LeO (newellaw12_FlashWhole.f k a0 a1 a2 a3 a4 a5 a6) (newellaw12_FlashWhole.f (k+1) a0 a1 a2 a3 a4 a5 a6):=by
 intro a0 a1 a2 a3 a4 a5 a6 k
 obtain⟨ih0,ih1,ih2⟩:=newellaw12_FlashWhole.Zv k
 unfold newellaw12_FlashWhole.f
 repeat' first
   |(with_reducible exact ih0 _ _ _ _ _ _ _ _)
   |(with_reducible exact ih1 _)
   |(with_reducible exact ih2 _)
   |(with_reducible exact flash_Recover.mono _ _ _)
   |(with_reducible exact flash_Write.mono _ _ _ _ _ _ _ _)
   |(with_reducible exact newellaw12_awake.mono _)
   |(with_reducible exact LeO.refl _)
   |(with_reducible exact LeO.none _)
   |(with_reducible refine LeO.ite ?_ ?_)
   |(with_reducible refine LeO.bind ?_ (fun _=>?_))
   |exact ih0 _ _ _ _ _ _ _ _
   |exact ih1 _
   |exact ih2 _
   |exact flash_Recover.mono _ _ _
   |exact flash_Write.mono _ _ _ _ _ _ _ _
   |exact newellaw12_awake.mono _
   |exact LeO.none _
   |refine LeO.ite ?_ ?_
   |refine LeO.bind ?_ (fun _=>?_)
def newellaw12_FlashWhole.T4:Bool×List (List Nat×List Nat):=(true,[([],[]),([0],[0]),([],[]),([],[]),([1,2,3,1],[1,2,3]),([4],[4]),([5],[5]),([5],[5]),([5],[5]),([],[]),([9,6,4,0,1,2,3,4,5,6,9],[6,9]),([7,10,0,1,2,3,4,5,6,7,9,10],[7]),([8,11,0,1,2,3,4,5,6,7,8,9,10,11],[8])])
def newellaw12_FlashWhole.B4:List Nat:=[0,1,0,0,15,31,63,63,63,0,639,1791,4095]
theorem newellaw12_FlashWhole.Ut:rtab .any (opsOf Tryd.f7 4)=newellaw12_FlashWhole.T4:=by kernel_rfl
theorem newellaw12_FlashWhole.Gc:X3 newellaw12_FlashWhole.T4.2 newellaw12_FlashWhole.B4=true:=by kernel_rfl
set_option maxHeartbeats 8000000 in
set_option maxRecDepth 100000 in
theorem newellaw12_FlashWhole.calls (k:Nat) (A0_0:Option Addr) (c0_0:Nat) (l0_0:List Int) (A0_1:Option Addr) (c0_1:Nat) (l0_1:List Int) (a1_0:Int) (a1_1:Int) (a1_2:Int) (A1_3:Option Addr) (c1_3:Nat) (l1_3:List Int) (a2:Int) (r:Bool) (w:World) (hr0_0:Kd.C (Kd.int .u8) w A0_0 l0_0.length l0_0) (hc0_0:l0_0.length≤c0_0) (hr0_1:Kd.C (Kd.int .u8) w A0_1 l0_1.length l0_1) (hc0_1:l0_1.length≤c0_1) (hr1_3:Kd.C (Kd.int .u8) w A1_3 l1_3.length l1_3) (hc1_3:l1_3.length≤c1_3) (h:newellaw12_FlashWhole.f k l0_0 l0_1 a1_0 a1_1 a1_2 l1_3 a2=some r) (ht_:Laid.TabAt w):
  Calls Tryd.prog 7 #[.agg #[.slice A0_0 l0_0.length c0_0,.slice A0_1 l0_1.length c0_1],.agg #[.int .i64 a1_0,.int .i64 a1_1,.int .i64 a1_2,.slice A1_3 l1_3.length c1_3],.int .i64 a2] w fun e w'=>e = .returned (.bool r)∧Below w.heap.size w w':=by
 have HTAB:=Aside0.mk ht_
 clear ht_
 have hu24:=Tryd.underlying24
 have hu26:=Tryd.underlying26
 have HR0_0:=Aside0.mk hr0_0
 have HC0_0:=Aside0.mk hc0_0
 clear hr0_0 hc0_0
 have HR0_1:=Aside0.mk hr0_1
 have HC0_1:=Aside0.mk hc0_1
 clear hr0_1 hc0_1
 have HR1_3:=Aside0.mk hr1_3
 have HC1_3:=Aside0.mk hc1_3
 clear hr1_3 hc1_3
 have HB:=Aside0.mk (Below.refl w.heap.size w)
 have H:((newelref12_Few.f l0_0 l0_1).bind fun t524=>(if t524=true then (newellaw12_FlashWhole.j0 k a2 (decide ((l1_3.length:Int)>5000)) l0_0 l0_1 a1_0 a1_1 a1_2 l1_3) else (newellaw12_FlashWhole.j0 k a2 true l0_0 l0_1 a1_0 a1_1 a1_2 l1_3)))=some r:=h
 clear h
 have HC4:=Aside0.mk H
 clear H
 go_enter Tryd.func7,Tryd.ntmps7
 go_upto_region 1 with(first|((with_reducible refine Q5 (N:=3) rfl ?_);(try(refine Zm (by rfl) ?_;dsimp only));refine Q3 ?hg (N:=3) ?hd (cs:=#[.slice A0_0 l0_0.length c0_0,.slice A0_1 l0_1.length c0_1]) (t:=24) ?hr ?_;(case hd=>rfl);(case hg=>rfl);(case hr=>go_simp <;> rfl);intro gb522 hg w5 hbox hb;have BK522:=Aside0.mk hbox;have GW522:=sGe hg;have GE522:=sGe hg;replace HB:=sHb hb;clear hb hbox hg)|((with_reducible refine Q5 (N:=4) rfl ?_);(try(refine Zm (by rfl) ?_;dsimp only));refine Q3 ?hg (N:=4) ?hd (cs:=#[.int .i64 a1_0,.int .i64 a1_1,.int .i64 a1_2,.slice A1_3 l1_3.length c1_3]) (t:=26) ?hr ?_;(case hd=>rfl);(case hg=>rfl);(case hr=>go_simp <;> rfl);intro gb523 hg w6 hbox hb;have BK523:=Aside0.mk hbox;have GW523:=sGe hg;have GE523:=sGe hg;have NB522_523:=sNl BK522 hg;have NB523_522:=sNg BK522 hg;replace BK522:=sBk BK522 hb;replace HB:=sHb hb;clear hb hbox hg))
 (try simp only[Act.put,qS])
 go_cut [24] (fun v24 wc=>∃ (kq:Nat) (x24_3:Bool),v24 = .bool x24_3∧Aside0 (newellaw12_FlashWhole.j0 kq a2 x24_3 l0_0 l0_1 a1_0 a1_1 a1_2 l1_3=some r)∧Aside0 (kq≤k)∧Aside0 (wc.heap[gb522]?=some (.cells #[(.slice A0_0 l0_0.length c0_0),(.slice A0_1 l0_1.length c0_1)] 24 (0,0)))∧Aside0 (wc.heap[gb523]?=some (.cells #[.int .i64 a1_0,.int .i64 a1_1,.int .i64 a1_2,(.slice A1_3 l1_3.length c1_3)] 26 (0,0)))∧Aside0 (Below w.heap.size w wc))
 case first=>
  have H:=HC4.out
  clear HC4
  replace H:=Option.bind_eq_some_iff.mp H
  obtain⟨t524,A70,H⟩:=H
  replace H:(if t524=true then (newellaw12_FlashWhole.j0 k a2 (decide ((l1_3.length:Int)>5000)) l0_0 l0_1 a1_0 a1_1 a1_2 l1_3) else (newellaw12_FlashWhole.j0 k a2 true l0_0 l0_1 a1_0 a1_1 a1_2 l1_3))=some r:=H
  have A7:=Aside0.mk A70
  clear A70
  by_cases c8:t524=true
  ·subst c8
   have H1:(newellaw12_FlashWhole.j0 k a2 (decide ((l1_3.length:Int)>5000)) l0_0 l0_1 a1_0 a1_1 a1_2 l1_3)=some r:=by rw[if_pos rfl] at H;exact H
   clear H
   have H:=H1
   clear H1
   have H':=Aside0.mk H
   clear H
   have hnb9:=NB522_523.out
   have hnc9:=NB523_522.out
   have hcz10_0:w6.cell? ⟨gb522,0,none⟩=some (.slice A0_0 l0_0.length c0_0):=(Qb BK522.out 0).trans rfl
   have hcz10_1:w6.cell? ⟨gb522,1,none⟩=some (.slice A0_1 l0_1.length c0_1):=(Qb BK522.out 1).trans rfl
   have hfz10_0:=Qe BK522.out 0
   have hfz10_1:=Qe BK522.out 1
   go_wp2_with (first|((with_reducible refine Q0 (f:=9) rfl ?_);refine Zj (some 17) rfl rfl Tryd.func9 kr rfl #[.agg #[.slice A0_0 l0_0.length c0_0,.slice A0_1 l0_1.length c0_1]] rfl (by simp only[List.map_toArray,List.map_cons,List.map_nil] <;> rfl) ?_;(with_reducible refine(newelref12_Few.calls _ _ l0_0 _ _ l0_1 true _ ?side1 ?side2 ?side3 ?side4 A7.out).mono ?_);(case side1=>exact(Kd.Q1 HR0_0.out HB.out));(case side2=>exact HC0_0.out);(case side3=>exact(Kd.Q1 HR0_1.out HB.out));(case side4=>exact HC0_1.out);rintro e w11 ⟨rfl,hb⟩;refine⟨_,rfl, ?_⟩;replace BK522:=sBk BK522 hb;replace BK523:=sBk BK523 hb;replace HB:=sHb hb;(try clear hb);(try clear hb2);(try clear hk);(try clear hi);have hcz12_0:w11.cell? ⟨gb523,0,none⟩=some (.int .i64 a1_0):=(Qb BK523.out 0).trans rfl;have hcz12_1:w11.cell? ⟨gb523,1,none⟩=some (.int .i64 a1_1):=(Qb BK523.out 1).trans rfl;have hcz12_2:w11.cell? ⟨gb523,2,none⟩=some (.int .i64 a1_2):=(Qb BK523.out 2).trans rfl;have hcz12_3:w11.cell? ⟨gb523,3,none⟩=some (.slice A1_3 l1_3.length c1_3):=(Qb BK523.out 3).trans rfl;have hfz12_0:=Qe BK523.out 0;have hfz12_1:=Qe BK523.out 1;have hfz12_2:=Qe BK523.out 2;have hfz12_3:=Qe BK523.out 3))
   go_meet
   case rel=>exact⟨_,(decide ((l1_3.length:Int)>5000)),rfl,H',⟨by first|omega|exact Nat.le_refl _⟩,BK522,BK523,HB⟩
  ·replace c8:=Bool.eq_false_iff.mpr c8
   subst c8
   have H1:(newellaw12_FlashWhole.j0 k a2 true l0_0 l0_1 a1_0 a1_1 a1_2 l1_3)=some r:=by rw[if_neg (show ¬ (false=true) by decide)] at H;exact H
   clear H
   have H:=H1
   clear H1
   have H':=Aside0.mk H
   clear H
   have hnb13:=NB522_523.out
   have hnc13:=NB523_522.out
   have hcz14_0:w6.cell? ⟨gb522,0,none⟩=some (.slice A0_0 l0_0.length c0_0):=(Qb BK522.out 0).trans rfl
   have hcz14_1:w6.cell? ⟨gb522,1,none⟩=some (.slice A0_1 l0_1.length c0_1):=(Qb BK522.out 1).trans rfl
   have hfz14_0:=Qe BK522.out 0
   have hfz14_1:=Qe BK522.out 1
   go_wp2_with (first|((with_reducible refine Q0 (f:=9) rfl ?_);refine Zj (some 17) rfl rfl Tryd.func9 kr rfl #[.agg #[.slice A0_0 l0_0.length c0_0,.slice A0_1 l0_1.length c0_1]] rfl (by simp only[List.map_toArray,List.map_cons,List.map_nil] <;> rfl) ?_;(with_reducible refine(newelref12_Few.calls _ _ l0_0 _ _ l0_1 false _ ?side1 ?side2 ?side3 ?side4 A7.out).mono ?_);(case side1=>exact(Kd.Q1 HR0_0.out HB.out));(case side2=>exact HC0_0.out);(case side3=>exact(Kd.Q1 HR0_1.out HB.out));(case side4=>exact HC0_1.out);rintro e w15 ⟨rfl,hb⟩;refine⟨_,rfl, ?_⟩;replace BK522:=sBk BK522 hb;replace BK523:=sBk BK523 hb;replace HB:=sHb hb;(try clear hb);(try clear hb2);(try clear hk);(try clear hi)))
   go_meet
   case rel=>exact⟨_,(true),rfl,H',⟨by first|omega|exact Nat.le_refl _⟩,BK522,BK523,HB⟩
 case rest=>
  clear HC4
  try clear c1
  try clear p2
  try clear c7
  try clear c8
  try clear c9
  try clear c13
  try clear hcz10_0
  try clear hcz10_1
  try clear hcz12_0
  try clear hcz12_1
  try clear hcz12_2
  try clear hcz12_3
  try clear hcz14_0
  try clear hcz14_1
  try clear hfz10_0
  try clear hfz10_1
  try clear hfz12_0
  try clear hfz12_1
  try clear hfz12_2
  try clear hfz12_3
  try clear hfz14_0
  try clear hfz14_1
  obtain⟨kq,x24_3,rfl,HA,HJ3,BK522,BK523,HB⟩:=hcut
  cases kq with
  |zero=>exact absurd HA.out (by simp[newellaw12_FlashWhole.j0])
  |succ kj3=>
   have H:=HA.out
   clear HA
   simp only[newellaw12_FlashWhole.j0] at H
   by_cases c16:x24_3=true
   ·subst c16
    have H1:((newellaw12_awake.f kj3).bind fun t525=>(some t525))=some r:=by rw[if_pos rfl] at H;exact H
    clear H
    have H:=H1
    clear H1
    replace H:=Option.bind_eq_some_iff.mp H
    obtain⟨t525,A170,H⟩:=H
    replace H:(some t525)=some r:=H
    have A17:=Aside0.mk A170
    clear A170
    obtain rfl:=Option.some.inj H
    go_wp2_with (first|((with_reducible refine Q0 (f:=10) rfl ?_);refine Zj (some 25) rfl rfl Tryd.func10 kr rfl #[] rfl (by simp only[List.map_toArray,List.map_cons,List.map_nil] <;> rfl) ?_;(with_reducible refine(newellaw12_awake.calls kj3  t525 _ A17.out (by first|exact HTAB.out|((repeat(first|exact HTAB.out|(with_reducible refine Laid.Zc ?_ _)|(with_reducible refine Laid.Zb ?_ _)|(with_reducible refine Laid.Zf ?_)));done)|(refine Laid.Q6 HTAB.out ?_;(repeat(first|(with_reducible first|exact HB.out|apply Qc|apply Qa|apply Qd)|exact HB.out|(refine Qh ?_ (Aside0.out (by assumption)))))))).mono ?_);rintro e w18 ⟨rfl,hb⟩;refine⟨_,rfl, ?_⟩;replace BK522:=sBk BK522 hb;replace BK523:=sBk BK523 hb;replace HB:=sHb hb;(try clear hb);(try clear hb2);(try clear hk);(try clear hi)))
    go_ret
    exact⟨rfl,HB.out⟩
   ·replace c16:=Bool.eq_false_iff.mpr c16
    subst c16
    have H1:((newellaw12_Own.f l0_0 l0_1).bind fun bt526=>((flash_Recover.f kj3 bt526.1 bt526.2).bind fun bt532=>((newellaw12_Own.f l0_0 l0_1).bind fun bt541=>((flash_Write.f kj3 bt541.1 bt541.2 a1_0 a1_1 a1_2 l1_3 a2).bind fun bt547=>(if bt547.2.2.2=0 then ((flash_Recover.f kj3 bt547.1 bt547.2.1).bind fun bt557=>(if bt547.2.2.1=true then ((newellaw12_awake.f kj3).bind fun t566=>(if t566=true then (if bt557.2.2.2.2.2=0 then ((flash_Same.f bt557.1 bt557.2.1 bt557.2.2.1 bt557.2.2.2.1 a1_0 a1_1 a1_2 l1_3).bind fun t567=>(newellaw12_FlashWhole.j1 kj3 t567)) else (none)) else (none))) else ((newellaw12_awake.f kj3).bind fun t568=>(if t568=true then (if bt557.2.2.2.2.2=bt532.2.2.2.2.2 then (if bt557.2.2.2.2.2=0 then ((flash_Same.f bt557.1 bt557.2.1 bt557.2.2.1 bt557.2.2.2.1 bt532.1 bt532.2.1 bt532.2.2.1 bt532.2.2.2.1).bind fun t569=>(newellaw12_FlashWhole.j2 kj3 t569)) else (newellaw12_FlashWhole.j2 kj3 true)) else (none)) else (none))))) else ((newellaw12_awake.f kj3).bind fun t556=>(if t556=true then (some (!bt547.2.2.1)) else (none))))))))=some r:=by rw[if_neg (show ¬ (false=true) by decide)] at H;exact H
    clear H
    have H:=H1
    clear H1
    replace H:=Option.bind_eq_some_iff.mp H
    obtain⟨⟨t526,t529⟩,A190,H⟩:=H
    replace H:((flash_Recover.f kj3 t526 t529).bind fun bt532=>((newellaw12_Own.f l0_0 l0_1).bind fun bt541=>((flash_Write.f kj3 bt541.1 bt541.2 a1_0 a1_1 a1_2 l1_3 a2).bind fun bt547=>(if bt547.2.2.2=0 then ((flash_Recover.f kj3 bt547.1 bt547.2.1).bind fun bt557=>(if bt547.2.2.1=true then ((newellaw12_awake.f kj3).bind fun t566=>(if t566=true then (if bt557.2.2.2.2.2=0 then ((flash_Same.f bt557.1 bt557.2.1 bt557.2.2.1 bt557.2.2.2.1 a1_0 a1_1 a1_2 l1_3).bind fun t567=>(newellaw12_FlashWhole.j1 kj3 t567)) else (none)) else (none))) else ((newellaw12_awake.f kj3).bind fun t568=>(if t568=true then (if bt557.2.2.2.2.2=bt532.2.2.2.2.2 then (if bt557.2.2.2.2.2=0 then ((flash_Same.f bt557.1 bt557.2.1 bt557.2.2.1 bt557.2.2.2.1 bt532.1 bt532.2.1 bt532.2.2.1 bt532.2.2.2.1).bind fun t569=>(newellaw12_FlashWhole.j2 kj3 t569)) else (newellaw12_FlashWhole.j2 kj3 true)) else (none)) else (none))))) else ((newellaw12_awake.f kj3).bind fun t556=>(if t556=true then (some (!bt547.2.2.1)) else (none)))))))=some r:=H
    have A19:=Aside0.mk A190
    clear A190
    replace H:=Option.bind_eq_some_iff.mp H
    obtain⟨⟨t532,t533,t534,t535,t538,t539⟩,A200,H⟩:=H
    replace H:((newellaw12_Own.f l0_0 l0_1).bind fun bt541=>((flash_Write.f kj3 bt541.1 bt541.2 a1_0 a1_1 a1_2 l1_3 a2).bind fun bt547=>(if bt547.2.2.2=0 then ((flash_Recover.f kj3 bt547.1 bt547.2.1).bind fun bt557=>(if bt547.2.2.1=true then ((newellaw12_awake.f kj3).bind fun t566=>(if t566=true then (if bt557.2.2.2.2.2=0 then ((flash_Same.f bt557.1 bt557.2.1 bt557.2.2.1 bt557.2.2.2.1 a1_0 a1_1 a1_2 l1_3).bind fun t567=>(newellaw12_FlashWhole.j1 kj3 t567)) else (none)) else (none))) else ((newellaw12_awake.f kj3).bind fun t568=>(if t568=true then (if bt557.2.2.2.2.2=t539 then (if bt557.2.2.2.2.2=0 then ((flash_Same.f bt557.1 bt557.2.1 bt557.2.2.1 bt557.2.2.2.1 t532 t533 t534 t535).bind fun t569=>(newellaw12_FlashWhole.j2 kj3 t569)) else (newellaw12_FlashWhole.j2 kj3 true)) else (none)) else (none))))) else ((newellaw12_awake.f kj3).bind fun t556=>(if t556=true then (some (!bt547.2.2.1)) else (none))))))=some r:=H
    have A20:=Aside0.mk A200
    clear A200
    replace H:=Option.bind_eq_some_iff.mp H
    obtain⟨⟨t541,t544⟩,A210,H⟩:=H
    replace H:((flash_Write.f kj3 t541 t544 a1_0 a1_1 a1_2 l1_3 a2).bind fun bt547=>(if bt547.2.2.2=0 then ((flash_Recover.f kj3 bt547.1 bt547.2.1).bind fun bt557=>(if bt547.2.2.1=true then ((newellaw12_awake.f kj3).bind fun t566=>(if t566=true then (if bt557.2.2.2.2.2=0 then ((flash_Same.f bt557.1 bt557.2.1 bt557.2.2.1 bt557.2.2.2.1 a1_0 a1_1 a1_2 l1_3).bind fun t567=>(newellaw12_FlashWhole.j1 kj3 t567)) else (none)) else (none))) else ((newellaw12_awake.f kj3).bind fun t568=>(if t568=true then (if bt557.2.2.2.2.2=t539 then (if bt557.2.2.2.2.2=0 then ((flash_Same.f bt557.1 bt557.2.1 bt557.2.2.1 bt557.2.2.2.1 t532 t533 t534 t535).bind fun t569=>(newellaw12_FlashWhole.j2 kj3 t569)) else (newellaw12_FlashWhole.j2 kj3 true)) else (none)) else (none))))) else ((newellaw12_awake.f kj3).bind fun t556=>(if t556=true then (some (!bt547.2.2.1)) else (none)))))=some r:=H
    have A21:=Aside0.mk A210
    clear A210
    replace H:=Option.bind_eq_some_iff.mp H
    obtain⟨⟨t547,t550,t553,t554⟩,A220,H⟩:=H
    replace H:(if t554=0 then ((flash_Recover.f kj3 t547 t550).bind fun bt557=>(if t553=true then ((newellaw12_awake.f kj3).bind fun t566=>(if t566=true then (if bt557.2.2.2.2.2=0 then ((flash_Same.f bt557.1 bt557.2.1 bt557.2.2.1 bt557.2.2.2.1 a1_0 a1_1 a1_2 l1_3).bind fun t567=>(newellaw12_FlashWhole.j1 kj3 t567)) else (none)) else (none))) else ((newellaw12_awake.f kj3).bind fun t568=>(if t568=true then (if bt557.2.2.2.2.2=t539 then (if bt557.2.2.2.2.2=0 then ((flash_Same.f bt557.1 bt557.2.1 bt557.2.2.1 bt557.2.2.2.1 t532 t533 t534 t535).bind fun t569=>(newellaw12_FlashWhole.j2 kj3 t569)) else (newellaw12_FlashWhole.j2 kj3 true)) else (none)) else (none))))) else ((newellaw12_awake.f kj3).bind fun t556=>(if t556=true then (some (!t553)) else (none))))=some r:=H
    have A22:=Aside0.mk A220
    clear A220
    by_cases c23:t554=0
    ·rw[if_pos c23] at H
     have c23b0:(t554==0)=true:=beq_iff_eq.mpr c23
     have c23b1:(t554 != 0)=false:=bne_eq_false_iff_eq.mpr c23
     clear c23
     replace H:=Option.bind_eq_some_iff.mp H
     obtain⟨⟨t557,t558,t559,t560,t563,t564⟩,A240,H⟩:=H
     replace H:(if t553=true then ((newellaw12_awake.f kj3).bind fun t566=>(if t566=true then (if t564=0 then ((flash_Same.f t557 t558 t559 t560 a1_0 a1_1 a1_2 l1_3).bind fun t567=>(newellaw12_FlashWhole.j1 kj3 t567)) else (none)) else (none))) else ((newellaw12_awake.f kj3).bind fun t568=>(if t568=true then (if t564=t539 then (if t564=0 then ((flash_Same.f t557 t558 t559 t560 t532 t533 t534 t535).bind fun t569=>(newellaw12_FlashWhole.j2 kj3 t569)) else (newellaw12_FlashWhole.j2 kj3 true)) else (none)) else (none))))=some r:=H
     have A24:=Aside0.mk A240
     clear A240
     by_cases c25:t553=true
     ·subst c25
      have H1:((newellaw12_awake.f kj3).bind fun t566=>(if t566=true then (if t564=0 then ((flash_Same.f t557 t558 t559 t560 a1_0 a1_1 a1_2 l1_3).bind fun t567=>(newellaw12_FlashWhole.j1 kj3 t567)) else (none)) else (none)))=some r:=by rw[if_pos rfl] at H;exact H
      clear H
      have H:=H1
      clear H1
      have HC26:=Aside0.mk H
      clear H
      have hnb27:=NB522_523.out
      have hnc27:=NB523_522.out
      have hcz28_0:wc.cell? ⟨gb522,0,none⟩=some (.slice A0_0 l0_0.length c0_0):=(Qb BK522.out 0).trans rfl
      have hcz28_1:wc.cell? ⟨gb522,1,none⟩=some (.slice A0_1 l0_1.length c0_1):=(Qb BK522.out 1).trans rfl
      have hfz28_0:=Qe BK522.out 0
      have hfz28_1:=Qe BK522.out 1
      try go_wp2_with (first|((with_reducible refine Q0 (f:=12) rfl ?_);refine Zj (some 28) rfl rfl Tryd.func12 kr rfl #[.agg #[.slice A0_0 l0_0.length c0_0,.slice A0_1 l0_1.length c0_1]] rfl (by simp only[List.map_toArray,List.map_cons,List.map_nil] <;> rfl) ?_;(with_reducible refine(newellaw12_Own.calls _ _ l0_0 _ _ l0_1 t526 t529 _ ?side1 ?side2 ?side3 ?side4 A19.out).mono ?_);(case side1=>exact(Kd.Q1 HR0_0.out HB.out));(case side2=>exact HC0_0.out);(case side3=>exact(Kd.Q1 HR0_1.out HB.out));(case side4=>exact HC0_1.out);rintro e w29 ⟨v527,v530,rfl,ho0,ho1,hb⟩;refine⟨_,rfl, ?_⟩;have HO528:=Aside0.mk (Kd.Q2 ho0 (Qm HB.out));have HO531:=Aside0.mk (Kd.Q2 ho1 (Qm HB.out));replace BK522:=sBk BK522 hb;replace BK523:=sBk BK523 hb;replace HB:=sHb hb;(try clear hb);(try clear hb2);(try clear hk);(try clear hi);(try clear ho0);(try clear ho1);obtain⟨Ao30,co30,eo30⟩:=Kd.Q7 HO528.out;subst eo30;obtain⟨Ao31,co31,eo31⟩:=Kd.Q7 HO531.out;subst eo31)|((with_reducible refine Q0 (f:=14) rfl ?_);refine Zj (some 29) rfl rfl Tryd.func14 kr rfl #[.agg #[.slice Ao30 t526.length co30,.slice Ao31 t529.length co31]] rfl (by simp only[List.map_toArray,List.map_cons,List.map_nil] <;> rfl) ?_;(with_reducible refine(flash_Recover.calls kj3 _ _ t526 _ _ t529 t532 t533 t534 t535 t538 t539 _ ?side1 ?side2 ?side3 ?side4 A20.out (by first|exact HTAB.out|((repeat(first|exact HTAB.out|(with_reducible refine Laid.Zc ?_ _)|(with_reducible refine Laid.Zb ?_ _)|(with_reducible refine Laid.Zf ?_)));done)|(refine Laid.Q6 HTAB.out ?_;(repeat(first|(with_reducible first|exact HB.out|apply Qc|apply Qa|apply Qd)|exact HB.out|(refine Qh ?_ (Aside0.out (by assumption)))))))).mono ?_);(case side1=>exact(Kd.Qx HO528.out).2.2);(case side2=>exact(Kd.Qx HO528.out).2.1);(case side3=>exact(Kd.Qx HO531.out).2.2);(case side4=>exact(Kd.Qx HO531.out).2.1);rintro e w32 ⟨v536,rfl,ho0,hb⟩;refine⟨_,rfl, ?_⟩;have HO537:=Aside0.mk (Kd.Q2 (Kd.Qp (Kd.Qp ho0 (Kd.Q4 HO528.out)) (Kd.Q4 HO531.out)) (Qm HB.out));replace HO528:=Aside0.mk (Kd.Q8 HO528.out (Kd.Qq ho0) hb);replace HO531:=Aside0.mk (Kd.Q8 HO531.out (Kd.Qq ho0) hb);replace BK522:=sBk BK522 hb;replace BK523:=sBk BK523 hb;replace HB:=sHb hb;(try clear hb);(try clear hb2);(try clear hk);(try clear hi);(try clear ho0))|((with_reducible refine Q5 (N:=7) rfl ?_);(try(refine Zm (by rfl) ?_;dsimp only));refine Q3 ?hg (N:=7) ?hd (cs:=#[.int .i64 0,.int .i64 0,.int .i64 0,.slice none 0 0]) (t:=26) ?hr ?_;(case hd=>rfl);(case hg=>rfl);(case hr=>go_simp <;> rfl);intro gb540 hg w33 hbox hb;have BK540:=Aside0.mk hbox;have GW540:=sGe hg;have GE540:=sGe hg;have NB522_540:=sNl BK522 hg;have NB540_522:=sNg BK522 hg;have NB523_540:=sNl BK523 hg;have NB540_523:=sNg BK523 hg;replace HO528:=sRb HO528 hb;replace HO531:=sRb HO531 hb;replace HO537:=sRb HO537 hb;replace BK522:=sBk BK522 hb;replace BK523:=sBk BK523 hb;replace HB:=sHb hb;clear hb hbox hg;have hnb34:=NB540_522.out;have hnc34:=NB522_540.out;have hnb35:=NB540_523.out;have hnc35:=NB523_540.out;have hcz36_0:w33.cell? ⟨gb540,0,none⟩=some (.int .i64 0):=(Qb BK540.out 0).trans rfl;have hcz36_1:w33.cell? ⟨gb540,1,none⟩=some (.int .i64 0):=(Qb BK540.out 1).trans rfl;have hcz36_2:w33.cell? ⟨gb540,2,none⟩=some (.int .i64 0):=(Qb BK540.out 2).trans rfl;have hcz36_3:w33.cell? ⟨gb540,3,none⟩=some (.slice none 0 0):=(Qb BK540.out 3).trans rfl;have hfz36_0:=Qe BK540.out 0;have hfz36_1:=Qe BK540.out 1;have hfz36_2:=Qe BK540.out 2;have hfz36_3:=Qe BK540.out 3;obtain⟨Ao37,co37,eo37⟩:=Kd.Q7 HO537.out;subst eo37))
      have n0_:Aside0 (Kd.R (Kd.int .u8) 5 ((((w33.setCell ⟨gb540,0,none⟩ (.int .i64 t532)).setCell ⟨gb540,1,none⟩ (.int .i64 t533)).setCell ⟨gb540,2,none⟩ (.int .i64 t534)).setCell ⟨gb540,3,none⟩ (.slice Ao37 t535.length co37)) w.heap.size (fun k_=>some k_≠(.slice Ao31 t529.length co31:Value).ownBlock∧some k_≠(.slice Ao37 t535.length co37:Value).ownBlock) (.slice Ao30 t526.length co30) t526):=⟨by(with_reducible repeat(first|apply Kd.Qk|apply Kd.Qj|apply Kd.Ql));exact Kd.Qn (Kd.Qo (Kd.Qo (Kd.Qo (Kd.Qo (Kd.Qw HO528.out BK540.out (by decide)) (fun _ hk=>hk.2) (.int .i64 t532)) (fun _ hk=>hk.2) (.int .i64 t533)) (fun _ hk=>hk.2) (.int .i64 t534)) (fun _ hk=>hk.2) _) (fun _ hk=>⟨hk.1.1,hk.1.2⟩)⟩
      have n1_:Aside0 (Kd.R (Kd.int .u8) 5 ((((w33.setCell ⟨gb540,0,none⟩ (.int .i64 t532)).setCell ⟨gb540,1,none⟩ (.int .i64 t533)).setCell ⟨gb540,2,none⟩ (.int .i64 t534)).setCell ⟨gb540,3,none⟩ (.slice Ao37 t535.length co37)) w.heap.size (fun k_=>some k_≠(.slice Ao30 t526.length co30:Value).ownBlock∧some k_≠(.slice Ao37 t535.length co37:Value).ownBlock) (.slice Ao31 t529.length co31) t529):=⟨by(with_reducible repeat(first|apply Kd.Qk|apply Kd.Qj|apply Kd.Ql));exact Kd.Qn (Kd.Qo (Kd.Qo (Kd.Qo (Kd.Qo (Kd.Qw HO531.out BK540.out (by decide)) (fun _ hk=>hk.2) (.int .i64 t532)) (fun _ hk=>hk.2) (.int .i64 t533)) (fun _ hk=>hk.2) (.int .i64 t534)) (fun _ hk=>hk.2) _) (fun _ hk=>⟨hk.1.1,hk.1.2⟩)⟩
      have n2_:Aside0 (Kd.R (Kd.int .u8) 5 ((((w33.setCell ⟨gb540,0,none⟩ (.int .i64 t532)).setCell ⟨gb540,1,none⟩ (.int .i64 t533)).setCell ⟨gb540,2,none⟩ (.int .i64 t534)).setCell ⟨gb540,3,none⟩ (.slice Ao37 t535.length co37)) w.heap.size (fun k_=>some k_≠(.slice Ao30 t526.length co30:Value).ownBlock∧some k_≠(.slice Ao31 t529.length co31:Value).ownBlock) (.slice Ao37 t535.length co37) t535):=⟨by(with_reducible repeat(first|apply Kd.Qk|apply Kd.Qj|apply Kd.Ql));exact Kd.Qn (Kd.Qo (Kd.Qo (Kd.Qo (Kd.Qo (Kd.Qw HO537.out BK540.out (by decide)) (fun _ hk=>hk.2) (.int .i64 t532)) (fun _ hk=>hk.2) (.int .i64 t533)) (fun _ hk=>hk.2) (.int .i64 t534)) (fun _ hk=>hk.2) _) (fun _ hk=>⟨hk.1.1.2,hk.1.2⟩)⟩
      have n3_:Aside0 (((((w33.setCell ⟨gb540,0,none⟩ (.int .i64 t532)).setCell ⟨gb540,1,none⟩ (.int .i64 t533)).setCell ⟨gb540,2,none⟩ (.int .i64 t534)).setCell ⟨gb540,3,none⟩ (.slice Ao37 t535.length co37)).heap[gb522]?=some (.cells #[.slice A0_0 l0_0.length c0_0,.slice A0_1 l0_1.length c0_1] 24 (0,0))):=⟨bka BK522⟩
      have n4_:Aside0 (((((w33.setCell ⟨gb540,0,none⟩ (.int .i64 t532)).setCell ⟨gb540,1,none⟩ (.int .i64 t533)).setCell ⟨gb540,2,none⟩ (.int .i64 t534)).setCell ⟨gb540,3,none⟩ (.slice Ao37 t535.length co37)).heap[gb523]?=some (.cells #[.int .i64 a1_0,.int .i64 a1_1,.int .i64 a1_2,.slice A1_3 l1_3.length c1_3] 26 (0,0))):=⟨bka BK523⟩
      have n5_:Aside0 (((((w33.setCell ⟨gb540,0,none⟩ (.int .i64 t532)).setCell ⟨gb540,1,none⟩ (.int .i64 t533)).setCell ⟨gb540,2,none⟩ (.int .i64 t534)).setCell ⟨gb540,3,none⟩ (.slice Ao37 t535.length co37)).heap[gb540]?=some (.cells #[.int .i64 t532,.int .i64 t533,.int .i64 t534,.slice Ao37 t535.length co37] 26 (0,0))):=⟨by refine Qr (cs:=#[.int .i64 t532,.int .i64 t533,.int .i64 t534,.slice none 0 0]) ?_ 3 _ rfl;refine Qr (cs:=#[.int .i64 t532,.int .i64 t533,.int .i64 0,.slice none 0 0]) ?_ 2 _ rfl;refine Qr (cs:=#[.int .i64 t532,.int .i64 0,.int .i64 0,.slice none 0 0]) ?_ 1 _ rfl;refine Qr (cs:=#[.int .i64 0,.int .i64 0,.int .i64 0,.slice none 0 0]) ?_ 0 _ rfl;exact BK540.out⟩
      have n6_:Aside0 (Below w.heap.size w ((((w33.setCell ⟨gb540,0,none⟩ (.int .i64 t532)).setCell ⟨gb540,1,none⟩ (.int .i64 t533)).setCell ⟨gb540,2,none⟩ (.int .i64 t534)).setCell ⟨gb540,3,none⟩ (.slice Ao37 t535.length co37))):=⟨bel⟩
      (try clear HO528)
      (try clear HO531)
      (try clear HO537)
      (try clear BK522)
      (try clear BK523)
      (try clear BK540)
      (try clear HB)
      generalize((((w33.setCell ⟨gb540,0,none⟩ (.int .i64 t532)).setCell ⟨gb540,1,none⟩ (.int .i64 t533)).setCell ⟨gb540,2,none⟩ (.int .i64 t534)).setCell ⟨gb540,3,none⟩ (.slice Ao37 t535.length co37))=w38 at n0_ n1_ n2_ n3_ n4_ n5_ n6_ ⊢
      have HO528:=n0_
      have HO531:=n1_
      have HO537:=n2_
      have BK522:=n3_
      have BK523:=n4_
      have BK540:=n5_
      have HB:=n6_
      clear n0_ n1_ n2_ n3_ n4_ n5_ n6_
      replace HO528:=Aside0.mk (Kd.Ql HO528.out)
      replace HO531:=Aside0.mk (Kd.Ql HO531.out)
      replace HO537:=Aside0.mk (Kd.Ql HO537.out)
      replace BK522:=Aside0.mk (Qi BK522.out)
      replace BK523:=Aside0.mk (Qi BK523.out)
      replace BK540:=Aside0.mk (Qi BK540.out)
      replace HB:=Aside0.mk (Qd HB.out)
      refine Yh (n:=13) (S:=fun w'=>w'.cell? ⟨gb522,0,none⟩=some (.slice A0_0 l0_0.length c0_0)∧w'.cell? ⟨gb522,1,none⟩=some (.slice A0_1 l0_1.length c0_1)∧w'.cell? ⟨gb523,0,none⟩=some (.int .i64 a1_0)∧w'.cell? ⟨gb523,1,none⟩=some (.int .i64 a1_1)∧w'.cell? ⟨gb523,2,none⟩=some (.int .i64 a1_2)∧w'.cell? ⟨gb523,3,none⟩=some (.slice A1_3 l1_3.length c1_3)) (ds:=[]) #[false,false,false,false,false,false,false,false,false,false,false,false,false] kr rfl rfl ⟨(Qb BK522.out 0).trans rfl,(Qb BK522.out 1).trans rfl,(Qb BK523.out 0).trans rfl,(Qb BK523.out 1).trans rfl,(Qb BK523.out 2).trans rfl,(Qb BK523.out 3).trans rfl⟩ (fun hHeld=>?_);refine Xp newellaw12_FlashWhole.Ut newellaw12_FlashWhole.Gc (fun HT_ HW_=>?_)
      generalize w38.drew=w39 at HO528 HO531 HO537 BK522 BK523 BK540 HB hHeld ⊢
      refine qP 3 (some 37) (bN 13 8) HT_ ?_
      refine qT 0 (some 34) (bN 13 9) HT_ HW_ hHeld ?_
      refine qT 2 (some 36) (bN 13 13) HT_ HW_ hHeld ?_
      refine Ga (σ:=Value×Value×Value×Value×Nat) 3 (bN 13 1023) (fun s_=>[(35,.agg #[s_.1,s_.2.1]),(38,.tuple #[.agg #[s_.2.2.1,s_.2.2.2.1],.bool true,.int .i64 t554]),(10,.pointer (some ⟨s_.2.2.2.2,0,none⟩)),(33,.tuple #[.agg #[s_.2.2.1,s_.2.2.2.1],.bool true,.int .i64 t554]),(39,.agg #[s_.2.2.1,s_.2.2.2.1]),(40,.bool true),(41,.int .i64 t554)]) (fun s_ w'=>(w'.cell? ⟨gb522,0,none⟩=some (.slice A0_0 l0_0.length c0_0)∧w'.cell? ⟨gb522,1,none⟩=some (.slice A0_1 l0_1.length c0_1)∧w'.cell? ⟨gb523,0,none⟩=some (.int .i64 a1_0)∧w'.cell? ⟨gb523,1,none⟩=some (.int .i64 a1_1)∧w'.cell? ⟨gb523,2,none⟩=some (.int .i64 a1_2)∧w'.cell? ⟨gb523,3,none⟩=some (.slice A1_3 l1_3.length c1_3))∧(Kd.R (Kd.int .u8) 5 w' w.heap.size (fun k_=>some k_≠(.slice Ao31 t529.length co31:Value).ownBlock∧some k_≠(.slice Ao37 t535.length co37:Value).ownBlock∧some k_≠(s_.1:Value).ownBlock∧some k_≠(s_.2.1:Value).ownBlock∧some k_≠(s_.2.2.1:Value).ownBlock∧some k_≠(s_.2.2.2.1:Value).ownBlock) (.slice Ao30 t526.length co30) t526)∧(Kd.R (Kd.int .u8) 5 w' w.heap.size (fun k_=>some k_≠(.slice Ao30 t526.length co30:Value).ownBlock∧some k_≠(.slice Ao37 t535.length co37:Value).ownBlock∧some k_≠(s_.1:Value).ownBlock∧some k_≠(s_.2.1:Value).ownBlock∧some k_≠(s_.2.2.1:Value).ownBlock∧some k_≠(s_.2.2.2.1:Value).ownBlock) (.slice Ao31 t529.length co31) t529)∧(Kd.R (Kd.int .u8) 5 w' w.heap.size (fun k_=>some k_≠(.slice Ao30 t526.length co30:Value).ownBlock∧some k_≠(.slice Ao31 t529.length co31:Value).ownBlock∧some k_≠(s_.1:Value).ownBlock∧some k_≠(s_.2.1:Value).ownBlock∧some k_≠(s_.2.2.1:Value).ownBlock∧some k_≠(s_.2.2.2.1:Value).ownBlock) (.slice Ao37 t535.length co37) t535)∧(Kd.R (Kd.int .u8) 5 w' w.heap.size (fun k_=>some k_≠(.slice Ao30 t526.length co30:Value).ownBlock∧some k_≠(.slice Ao31 t529.length co31:Value).ownBlock∧some k_≠(.slice Ao37 t535.length co37:Value).ownBlock∧some k_≠(s_.2.1:Value).ownBlock∧some k_≠(s_.2.2.1:Value).ownBlock∧some k_≠(s_.2.2.2.1:Value).ownBlock) s_.1 t541)∧(Kd.R (Kd.int .u8) 5 w' w.heap.size (fun k_=>some k_≠(.slice Ao30 t526.length co30:Value).ownBlock∧some k_≠(.slice Ao31 t529.length co31:Value).ownBlock∧some k_≠(.slice Ao37 t535.length co37:Value).ownBlock∧some k_≠(s_.1:Value).ownBlock∧some k_≠(s_.2.2.1:Value).ownBlock∧some k_≠(s_.2.2.2.1:Value).ownBlock) s_.2.1 t544)∧(Kd.R (Kd.int .u8) 5 w' w.heap.size (fun k_=>some k_≠(.slice Ao30 t526.length co30:Value).ownBlock∧some k_≠(.slice Ao31 t529.length co31:Value).ownBlock∧some k_≠(.slice Ao37 t535.length co37:Value).ownBlock∧some k_≠(s_.1:Value).ownBlock∧some k_≠(s_.2.1:Value).ownBlock∧some k_≠(s_.2.2.2.1:Value).ownBlock) s_.2.2.1 t547)∧(Kd.R (Kd.int .u8) 5 w' w.heap.size (fun k_=>some k_≠(.slice Ao30 t526.length co30:Value).ownBlock∧some k_≠(.slice Ao31 t529.length co31:Value).ownBlock∧some k_≠(.slice Ao37 t535.length co37:Value).ownBlock∧some k_≠(s_.1:Value).ownBlock∧some k_≠(s_.2.1:Value).ownBlock∧some k_≠(s_.2.2.1:Value).ownBlock) s_.2.2.2.1 t550)∧(w'.heap[gb522]?=some (.cells #[.slice A0_0 l0_0.length c0_0,.slice A0_1 l0_1.length c0_1] 24 (0,0)))∧(w'.heap[gb523]?=some (.cells #[.int .i64 a1_0,.int .i64 a1_1,.int .i64 a1_2,.slice A1_3 l1_3.length c1_3] 26 (0,0)))∧(w'.heap[gb540]?=some (.cells #[.int .i64 t532,.int .i64 t533,.int .i64 t534,.slice Ao37 t535.length co37] 26 (0,0)))∧(w'.heap[s_.2.2.2.2]?=some (.cells #[.slice none 0 0,.slice none 0 0] 24 (0,0)))∧(w.heap.size≤s_.2.2.2.2)∧(w.heap.size≤s_.2.2.2.2)∧(gb522≠s_.2.2.2.2)∧(s_.2.2.2.2≠gb522)∧(gb523≠s_.2.2.2.2)∧(s_.2.2.2.2≠gb523)∧(gb540≠s_.2.2.2.2)∧(s_.2.2.2.2≠gb540)∧(Below w.heap.size w w')) ?_ ?_
      rotate_left
      ·intro hCont
       refine Kk (i:=1) (j:=9) (Ni:=some 35) (Nj:=some 10) (bN 13 15) (bN 13 525) rfl rfl rfl rfl (Yg HT_.out kr) (by decide) (by decide) (fun K hK=>?_) (fun K hK=>?_)
       ·skip
        refine Xz Tryd.func12 kr rfl #[.agg #[.slice A0_0 l0_0.length c0_0,.slice A0_1 l0_1.length c0_1]] (by rfl) rfl rfl (by simp only[List.map_toArray,List.map_cons,List.map_nil] <;> rfl) ?_
        with_reducible refine(newellaw12_Own.calls _ _ l0_0 _ _ l0_1 t541 t544 _ ?side1 ?side2 ?side3 ?side4 A21.out).mono ?_
        (case side1=>exact(Kd.Q1 HR0_0.out HB.out))
        (case side2=>exact HC0_0.out)
        (case side3=>exact(Kd.Q1 HR0_1.out HB.out))
        (case side4=>exact HC0_1.out)
        rintro e w40 ⟨v542,v545,rfl,ho0,ho1,hb⟩
        refine⟨_,rfl, ?_⟩
        have HO543:=Aside0.mk (Kd.Q2 (Kd.Qp (Kd.Qp (Kd.Qp ho0 (Kd.Q4 HO528.out)) (Kd.Q4 HO531.out)) (Kd.Q4 HO537.out)) (Qm HB.out))
        have HO546:=Aside0.mk (Kd.Q2 (Kd.Qp (Kd.Qp (Kd.Qp ho1 (Kd.Q4 HO528.out)) (Kd.Q4 HO531.out)) (Kd.Q4 HO537.out)) (Qm HB.out))
        replace HO528:=Aside0.mk (Kd.Qn (Kd.Qy (Kd.Qy (Kd.Zi HO528.out hb) (Kd.Qq ho0)) (Kd.Qq ho1)) (fun _ h_=>h_.1))
        replace HO531:=Aside0.mk (Kd.Qn (Kd.Qy (Kd.Qy (Kd.Zi HO531.out hb) (Kd.Qq ho0)) (Kd.Qq ho1)) (fun _ h_=>h_.1))
        replace HO537:=Aside0.mk (Kd.Qn (Kd.Qy (Kd.Qy (Kd.Zi HO537.out hb) (Kd.Qq ho0)) (Kd.Qq ho1)) (fun _ h_=>h_.1))
        replace BK522:=sBk BK522 hb
        replace BK523:=sBk BK523 hb
        replace BK540:=sBk BK540 hb
        replace HB:=sHb hb
        (try clear hb)
        (try clear hb2)
        (try clear hk)
        (try clear hi)
        (try clear ho0)
        (try clear ho1)
        obtain⟨Ao41,co41,eo41⟩:=Kd.Q7 HO543.out
        (first|subst eo41|(injection eo41 with f1_ f2_ f3_;have f4_:=f1_.symm;have f5_:=f3_.symm;clear f1_ f2_ f3_;subst f4_;subst f5_))
        obtain⟨Ao42,co42,eo42⟩:=Kd.Q7 HO546.out
        (first|subst eo42|(injection eo42 with f1_ f2_ f3_;have f4_:=f1_.symm;have f5_:=f3_.symm;clear f1_ f2_ f3_;subst f4_;subst f5_))
        refine hK.out _ _ ⟨(Qb BK522.out 0).trans rfl,(Qb BK522.out 1).trans rfl,(Qb BK523.out 0).trans rfl,(Qb BK523.out 1).trans rfl,(Qb BK523.out 2).trans rfl,(Qb BK523.out 3).trans rfl⟩ (fun hHeld=>?_)
        clear hK K
        refine qN (some 35) ?_
        refine Kk (i:=4) (j:=9) (Ni:=some 38) (Nj:=some 10) (bN 13 31) (bN 13 527) rfl rfl rfl rfl (Yg HT_.out kr) (by decide) (by decide) (fun K hK=>?_) (fun K hK=>?_)
        ·skip
         refine Xz Tryd.func11 kr rfl #[.agg #[.slice Ao41 t541.length co41,.slice Ao42 t544.length co42],.agg #[.int .i64 a1_0,.int .i64 a1_1,.int .i64 a1_2,.slice A1_3 l1_3.length c1_3],.int .i64 a2] (by rfl) rfl rfl (by simp only[List.map_toArray,List.map_cons,List.map_nil] <;> rfl) ?_
         with_reducible refine(flash_Write.calls kj3 _ _ t541 _ _ t544 a1_0 a1_1 a1_2 _ _ l1_3 a2 t547 t550 true t554 _ ?side1 ?side2 ?side3 ?side4 ?side5 ?side6 A22.out (by first|exact HTAB.out|((repeat(first|exact HTAB.out|(with_reducible refine Laid.Zc ?_ _)|(with_reducible refine Laid.Zb ?_ _)|(with_reducible refine Laid.Zf ?_)));done)|(refine Laid.Q6 HTAB.out ?_;(repeat(first|(with_reducible first|exact HB.out|apply Qc|apply Qa|apply Qd)|exact HB.out|(refine Qh ?_ (Aside0.out (by assumption)))))))).mono ?_
         (case side1=>exact(Kd.Qx HO543.out).2.2)
         (case side2=>exact(Kd.Qx HO543.out).2.1)
         (case side3=>exact(Kd.Qx HO546.out).2.2)
         (case side4=>exact(Kd.Qx HO546.out).2.1)
         (case side5=>exact(Kd.Q1 HR1_3.out HB.out))
         (case side6=>exact HC1_3.out)
         rintro e w43 ⟨v548,v551,rfl,ho0,ho1,hb⟩
         refine⟨_,rfl, ?_⟩
         have HO549:=Aside0.mk (Kd.Q2 (Kd.Qp (Kd.Qp (Kd.Qp (Kd.Qp (Kd.Qp ho0 (Kd.Q4 HO528.out)) (Kd.Q4 HO531.out)) (Kd.Q4 HO537.out)) (Kd.Q4 HO543.out)) (Kd.Q4 HO546.out)) (Qm HB.out))
         have HO552:=Aside0.mk (Kd.Q2 (Kd.Qp (Kd.Qp (Kd.Qp (Kd.Qp (Kd.Qp ho1 (Kd.Q4 HO528.out)) (Kd.Q4 HO531.out)) (Kd.Q4 HO537.out)) (Kd.Q4 HO543.out)) (Kd.Q4 HO546.out)) (Qm HB.out))
         replace HO528:=Aside0.mk (Kd.Qn (Kd.Qy (Kd.Qy (Kd.Zi HO528.out hb) (Kd.Qq ho0)) (Kd.Qq ho1)) (fun _ h_=>h_.1))
         replace HO531:=Aside0.mk (Kd.Qn (Kd.Qy (Kd.Qy (Kd.Zi HO531.out hb) (Kd.Qq ho0)) (Kd.Qq ho1)) (fun _ h_=>h_.1))
         replace HO537:=Aside0.mk (Kd.Qn (Kd.Qy (Kd.Qy (Kd.Zi HO537.out hb) (Kd.Qq ho0)) (Kd.Qq ho1)) (fun _ h_=>h_.1))
         replace HO543:=Aside0.mk (Kd.Qn (Kd.Qy (Kd.Qy (Kd.Zi HO543.out hb) (Kd.Qq ho0)) (Kd.Qq ho1)) (fun _ h_=>h_.1))
         replace HO546:=Aside0.mk (Kd.Qn (Kd.Qy (Kd.Qy (Kd.Zi HO546.out hb) (Kd.Qq ho0)) (Kd.Qq ho1)) (fun _ h_=>h_.1))
         replace BK522:=sBk BK522 hb
         replace BK523:=sBk BK523 hb
         replace BK540:=sBk BK540 hb
         replace HB:=sHb hb
         (try clear hb)
         (try clear hb2)
         (try clear hk)
         (try clear hi)
         (try clear ho0)
         (try clear ho1)
         refine hK.out _ _ ⟨(Qb BK522.out 0).trans rfl,(Qb BK522.out 1).trans rfl,(Qb BK523.out 0).trans rfl,(Qb BK523.out 1).trans rfl,(Qb BK523.out 2).trans rfl,(Qb BK523.out 3).trans rfl⟩ (fun hHeld=>?_)
         clear hK K
         refine qN (some 38) ?_
         refine qP 5 (some 33) (bN 13 63) HT_ ?_
         refine qP 6 (some 39) (bN 13 127) HT_ ?_
         refine qP 7 (some 40) (bN 13 255) HT_ ?_
         refine qP 8 (some 41) (bN 13 511) HT_ ?_
         refine Xt (i:=9) (N:=some 10) (bN 13 1023) rfl rfl (Zs HT_.out kr) (by decide) (fun K hK=>?_)
         refine Xb ?hg (N:=10) ?hd (cs:=#[.slice none 0 0,.slice none 0 0]) (t:=24) ?hr ?_;(case hd=>rfl);(case hg=>rfl);(case hr=>go_simp <;> rfl)
         intro gb555 hg w44 hbox hb
         have BK555:=Aside0.mk hbox
         have GW555:=sGe hg
         have GE555:=sGe hg
         have NB522_555:=sNl BK522 hg
         have NB555_522:=sNg BK522 hg
         have NB523_555:=sNl BK523 hg
         have NB555_523:=sNg BK523 hg
         have NB540_555:=sNl BK540 hg
         have NB555_540:=sNg BK540 hg
         replace HO528:=sRb HO528 hb
         replace HO531:=sRb HO531 hb
         replace HO537:=sRb HO537 hb
         replace HO543:=sRb HO543 hb
         replace HO546:=sRb HO546 hb
         replace HO549:=sRb HO549 hb
         replace HO552:=sRb HO552 hb
         replace BK522:=sBk BK522 hb
         replace BK523:=sBk BK523 hb
         replace BK540:=sBk BK540 hb
         replace HB:=sHb hb
         clear hb hbox hg
         refine hK.out _ _ ⟨(Qb BK522.out 0).trans rfl,(Qb BK522.out 1).trans rfl,(Qb BK523.out 0).trans rfl,(Qb BK523.out 1).trans rfl,(Qb BK523.out 2).trans rfl,(Qb BK523.out 3).trans rfl⟩ (fun hHeld=>?_)
         clear hK K
         refine qN (some 10) ?_
         exact Xq (by simp only[Z2,Act.put,qS]) (hCont (.slice Ao41 t541.length co41,.slice Ao42 t544.length co42,v548,v551,gb555) _ ⟨hHeld,(by(with_reducible repeat(first|apply Kd.Qk|apply Kd.Qj|apply Kd.Ql));exact Kd.Qn HO528.out (fun _ hk=>⟨hk.1.1.1.1.1,⟨hk.1.1.1.1.2,⟨hk.1.1.1.2,⟨hk.1.1.2,⟨hk.1.2,hk.2⟩⟩⟩⟩⟩)),(by(with_reducible repeat(first|apply Kd.Qk|apply Kd.Qj|apply Kd.Ql));exact Kd.Qn HO531.out (fun _ hk=>⟨hk.1.1.1.1.1,⟨hk.1.1.1.1.2,⟨hk.1.1.1.2,⟨hk.1.1.2,⟨hk.1.2,hk.2⟩⟩⟩⟩⟩)),(by(with_reducible repeat(first|apply Kd.Qk|apply Kd.Qj|apply Kd.Ql));exact Kd.Qn HO537.out (fun _ hk=>⟨hk.1.1.1.1.1,⟨hk.1.1.1.1.2,⟨hk.1.1.1.2,⟨hk.1.1.2,⟨hk.1.2,hk.2⟩⟩⟩⟩⟩)),(by(with_reducible repeat(first|apply Kd.Qk|apply Kd.Qj|apply Kd.Ql));exact Kd.Qn HO543.out (fun _ hk=>⟨hk.1.1.1.1.2,⟨hk.1.1.1.2,⟨hk.1.1.2,⟨hk.1.1.1.1.1,⟨hk.1.2,hk.2⟩⟩⟩⟩⟩)),(by(with_reducible repeat(first|apply Kd.Qk|apply Kd.Qj|apply Kd.Ql));exact Kd.Qn HO546.out (fun _ hk=>⟨hk.1.1.1.1.2,⟨hk.1.1.1.2,⟨hk.1.1.2,⟨hk.1.1.1.1.1,⟨hk.1.2,hk.2⟩⟩⟩⟩⟩)),(by(with_reducible repeat(first|apply Kd.Qk|apply Kd.Qj|apply Kd.Ql));exact Kd.Qn HO549.out (fun _ hk=>⟨hk.1.1.1.1.2,⟨hk.1.1.1.2,⟨hk.1.1.2,⟨hk.1.2,⟨hk.2,hk.1.1.1.1.1⟩⟩⟩⟩⟩)),(by(with_reducible repeat(first|apply Kd.Qk|apply Kd.Qj|apply Kd.Ql));exact Kd.Qn HO552.out (fun _ hk=>⟨hk.1.1.1.1.2,⟨hk.1.1.1.2,⟨hk.1.1.2,⟨hk.1.2,⟨hk.2,hk.1.1.1.1.1⟩⟩⟩⟩⟩)),BK522.out,BK523.out,BK540.out,BK555.out,GW555.out,GE555.out,NB522_555.out,NB555_522.out,NB523_555.out,NB555_523.out,NB540_555.out,NB555_540.out,HB.out⟩)
        ·skip
         refine Xb ?hg (N:=10) ?hd (cs:=#[.slice none 0 0,.slice none 0 0]) (t:=24) ?hr ?_;(case hd=>rfl);(case hg=>rfl);(case hr=>go_simp <;> rfl)
         intro gb555 hg w41 hbox hb
         have BK555:=Aside0.mk hbox
         have GW555:=sGe hg
         have GE555:=sGe hg
         have NB522_555:=sNl BK522 hg
         have NB555_522:=sNg BK522 hg
         have NB523_555:=sNl BK523 hg
         have NB555_523:=sNg BK523 hg
         have NB540_555:=sNl BK540 hg
         have NB555_540:=sNg BK540 hg
         replace HO528:=sRb HO528 hb
         replace HO531:=sRb HO531 hb
         replace HO537:=sRb HO537 hb
         replace HO543:=sRb HO543 hb
         replace HO546:=sRb HO546 hb
         replace BK522:=sBk BK522 hb
         replace BK523:=sBk BK523 hb
         replace BK540:=sBk BK540 hb
         replace HB:=sHb hb
         clear hb hbox hg
         obtain⟨Ao42,co42,eo42⟩:=Kd.Q7 HO543.out
         (first|subst eo42|(injection eo42 with f1_ f2_ f3_;have f4_:=f1_.symm;have f5_:=f3_.symm;clear f1_ f2_ f3_;subst f4_;subst f5_))
         obtain⟨Ao43,co43,eo43⟩:=Kd.Q7 HO546.out
         (first|subst eo43|(injection eo43 with f1_ f2_ f3_;have f4_:=f1_.symm;have f5_:=f3_.symm;clear f1_ f2_ f3_;subst f4_;subst f5_))
         refine hK.out _ _ ⟨(Qb BK522.out 0).trans rfl,(Qb BK522.out 1).trans rfl,(Qb BK523.out 0).trans rfl,(Qb BK523.out 1).trans rfl,(Qb BK523.out 2).trans rfl,(Qb BK523.out 3).trans rfl⟩ (fun hHeld=>?_)
         clear hK K
         refine qN (some 10) ?_
         refine Xt (i:=4) (N:=some 38) (bN 13 543) rfl rfl (Zs HT_.out kr) (by decide) (fun K hK=>?_)
         refine Xz Tryd.func11 kr rfl #[.agg #[.slice Ao42 t541.length co42,.slice Ao43 t544.length co43],.agg #[.int .i64 a1_0,.int .i64 a1_1,.int .i64 a1_2,.slice A1_3 l1_3.length c1_3],.int .i64 a2] (by rfl) rfl rfl (by simp only[List.map_toArray,List.map_cons,List.map_nil] <;> rfl) ?_
         with_reducible refine(flash_Write.calls kj3 _ _ t541 _ _ t544 a1_0 a1_1 a1_2 _ _ l1_3 a2 t547 t550 true t554 _ ?side1 ?side2 ?side3 ?side4 ?side5 ?side6 A22.out (by first|exact HTAB.out|((repeat(first|exact HTAB.out|(with_reducible refine Laid.Zc ?_ _)|(with_reducible refine Laid.Zb ?_ _)|(with_reducible refine Laid.Zf ?_)));done)|(refine Laid.Q6 HTAB.out ?_;(repeat(first|(with_reducible first|exact HB.out|apply Qc|apply Qa|apply Qd)|exact HB.out|(refine Qh ?_ (Aside0.out (by assumption)))))))).mono ?_
         (case side1=>exact(Kd.Qx HO543.out).2.2)
         (case side2=>exact(Kd.Qx HO543.out).2.1)
         (case side3=>exact(Kd.Qx HO546.out).2.2)
         (case side4=>exact(Kd.Qx HO546.out).2.1)
         (case side5=>exact(Kd.Q1 HR1_3.out HB.out))
         (case side6=>exact HC1_3.out)
         rintro e w44 ⟨v548,v551,rfl,ho0,ho1,hb⟩
         refine⟨_,rfl, ?_⟩
         have HO549:=Aside0.mk (Kd.Q2 (Kd.Qp (Kd.Qp (Kd.Qp (Kd.Qp (Kd.Qp ho0 (Kd.Q4 HO528.out)) (Kd.Q4 HO531.out)) (Kd.Q4 HO537.out)) (Kd.Q4 HO543.out)) (Kd.Q4 HO546.out)) (Qm HB.out))
         have HO552:=Aside0.mk (Kd.Q2 (Kd.Qp (Kd.Qp (Kd.Qp (Kd.Qp (Kd.Qp ho1 (Kd.Q4 HO528.out)) (Kd.Q4 HO531.out)) (Kd.Q4 HO537.out)) (Kd.Q4 HO543.out)) (Kd.Q4 HO546.out)) (Qm HB.out))
         replace HO528:=Aside0.mk (Kd.Qn (Kd.Qy (Kd.Qy (Kd.Zi HO528.out hb) (Kd.Qq ho0)) (Kd.Qq ho1)) (fun _ h_=>h_.1))
         replace HO531:=Aside0.mk (Kd.Qn (Kd.Qy (Kd.Qy (Kd.Zi HO531.out hb) (Kd.Qq ho0)) (Kd.Qq ho1)) (fun _ h_=>h_.1))
         replace HO537:=Aside0.mk (Kd.Qn (Kd.Qy (Kd.Qy (Kd.Zi HO537.out hb) (Kd.Qq ho0)) (Kd.Qq ho1)) (fun _ h_=>h_.1))
         replace HO543:=Aside0.mk (Kd.Qn (Kd.Qy (Kd.Qy (Kd.Zi HO543.out hb) (Kd.Qq ho0)) (Kd.Qq ho1)) (fun _ h_=>h_.1))
         replace HO546:=Aside0.mk (Kd.Qn (Kd.Qy (Kd.Qy (Kd.Zi HO546.out hb) (Kd.Qq ho0)) (Kd.Qq ho1)) (fun _ h_=>h_.1))
         replace BK522:=sBk BK522 hb
         replace BK523:=sBk BK523 hb
         replace BK540:=sBk BK540 hb
         replace BK555:=sBk BK555 hb
         replace HB:=sHb hb
         (try clear hb)
         (try clear hb2)
         (try clear hk)
         (try clear hi)
         (try clear ho0)
         (try clear ho1)
         refine hK.out _ _ ⟨(Qb BK522.out 0).trans rfl,(Qb BK522.out 1).trans rfl,(Qb BK523.out 0).trans rfl,(Qb BK523.out 1).trans rfl,(Qb BK523.out 2).trans rfl,(Qb BK523.out 3).trans rfl⟩ (fun hHeld=>?_)
         clear hK K
         refine qN (some 38) ?_
         refine qP 5 (some 33) (bN 13 575) HT_ ?_
         refine qP 6 (some 39) (bN 13 639) HT_ ?_
         refine qP 7 (some 40) (bN 13 767) HT_ ?_
         refine qP 8 (some 41) (bN 13 1023) HT_ ?_
         exact Xq (by simp only[Z2,Act.put,qS]) (hCont (.slice Ao42 t541.length co42,.slice Ao43 t544.length co43,v548,v551,gb555) _ ⟨hHeld,(by(with_reducible repeat(first|apply Kd.Qk|apply Kd.Qj|apply Kd.Ql));exact Kd.Qn HO528.out (fun _ hk=>⟨hk.1.1.1.1.1,⟨hk.1.1.1.1.2,⟨hk.1.1.1.2,⟨hk.1.1.2,⟨hk.1.2,hk.2⟩⟩⟩⟩⟩)),(by(with_reducible repeat(first|apply Kd.Qk|apply Kd.Qj|apply Kd.Ql));exact Kd.Qn HO531.out (fun _ hk=>⟨hk.1.1.1.1.1,⟨hk.1.1.1.1.2,⟨hk.1.1.1.2,⟨hk.1.1.2,⟨hk.1.2,hk.2⟩⟩⟩⟩⟩)),(by(with_reducible repeat(first|apply Kd.Qk|apply Kd.Qj|apply Kd.Ql));exact Kd.Qn HO537.out (fun _ hk=>⟨hk.1.1.1.1.1,⟨hk.1.1.1.1.2,⟨hk.1.1.1.2,⟨hk.1.1.2,⟨hk.1.2,hk.2⟩⟩⟩⟩⟩)),(by(with_reducible repeat(first|apply Kd.Qk|apply Kd.Qj|apply Kd.Ql));exact Kd.Qn HO543.out (fun _ hk=>⟨hk.1.1.1.1.2,⟨hk.1.1.1.2,⟨hk.1.1.2,⟨hk.1.1.1.1.1,⟨hk.1.2,hk.2⟩⟩⟩⟩⟩)),(by(with_reducible repeat(first|apply Kd.Qk|apply Kd.Qj|apply Kd.Ql));exact Kd.Qn HO546.out (fun _ hk=>⟨hk.1.1.1.1.2,⟨hk.1.1.1.2,⟨hk.1.1.2,⟨hk.1.1.1.1.1,⟨hk.1.2,hk.2⟩⟩⟩⟩⟩)),(by(with_reducible repeat(first|apply Kd.Qk|apply Kd.Qj|apply Kd.Ql));exact Kd.Qn HO549.out (fun _ hk=>⟨hk.1.1.1.1.2,⟨hk.1.1.1.2,⟨hk.1.1.2,⟨hk.1.2,⟨hk.2,hk.1.1.1.1.1⟩⟩⟩⟩⟩)),(by(with_reducible repeat(first|apply Kd.Qk|apply Kd.Qj|apply Kd.Ql));exact Kd.Qn HO552.out (fun _ hk=>⟨hk.1.1.1.1.2,⟨hk.1.1.1.2,⟨hk.1.1.2,⟨hk.1.2,⟨hk.2,hk.1.1.1.1.1⟩⟩⟩⟩⟩)),BK522.out,BK523.out,BK540.out,BK555.out,GW555.out,GE555.out,NB522_555.out,NB555_522.out,NB523_555.out,NB555_523.out,NB540_555.out,NB555_540.out,HB.out⟩)
       ·skip
        refine Xb ?hg (N:=10) ?hd (cs:=#[.slice none 0 0,.slice none 0 0]) (t:=24) ?hr ?_;(case hd=>rfl);(case hg=>rfl);(case hr=>go_simp <;> rfl)
        intro gb555 hg w40 hbox hb
        have BK555:=Aside0.mk hbox
        have GW555:=sGe hg
        have GE555:=sGe hg
        have NB522_555:=sNl BK522 hg
        have NB555_522:=sNg BK522 hg
        have NB523_555:=sNl BK523 hg
        have NB555_523:=sNg BK523 hg
        have NB540_555:=sNl BK540 hg
        have NB555_540:=sNg BK540 hg
        replace HO528:=sRb HO528 hb
        replace HO531:=sRb HO531 hb
        replace HO537:=sRb HO537 hb
        replace BK522:=sBk BK522 hb
        replace BK523:=sBk BK523 hb
        replace BK540:=sBk BK540 hb
        replace HB:=sHb hb
        clear hb hbox hg
        refine hK.out _ _ ⟨(Qb BK522.out 0).trans rfl,(Qb BK522.out 1).trans rfl,(Qb BK523.out 0).trans rfl,(Qb BK523.out 1).trans rfl,(Qb BK523.out 2).trans rfl,(Qb BK523.out 3).trans rfl⟩ (fun hHeld=>?_)
        clear hK K
        refine qN (some 10) ?_
        refine Xt (i:=1) (N:=some 35) (bN 13 527) rfl rfl (Zs HT_.out kr) (by decide) (fun K hK=>?_)
        refine Xz Tryd.func12 kr rfl #[.agg #[.slice A0_0 l0_0.length c0_0,.slice A0_1 l0_1.length c0_1]] (by rfl) rfl rfl (by simp only[List.map_toArray,List.map_cons,List.map_nil] <;> rfl) ?_
        with_reducible refine(newellaw12_Own.calls _ _ l0_0 _ _ l0_1 t541 t544 _ ?side1 ?side2 ?side3 ?side4 A21.out).mono ?_
        (case side1=>exact(Kd.Q1 HR0_0.out HB.out))
        (case side2=>exact HC0_0.out)
        (case side3=>exact(Kd.Q1 HR0_1.out HB.out))
        (case side4=>exact HC0_1.out)
        rintro e w41 ⟨v542,v545,rfl,ho0,ho1,hb⟩
        refine⟨_,rfl, ?_⟩
        have HO543:=Aside0.mk (Kd.Q2 (Kd.Qp (Kd.Qp (Kd.Qp ho0 (Kd.Q4 HO528.out)) (Kd.Q4 HO531.out)) (Kd.Q4 HO537.out)) (Qm HB.out))
        have HO546:=Aside0.mk (Kd.Q2 (Kd.Qp (Kd.Qp (Kd.Qp ho1 (Kd.Q4 HO528.out)) (Kd.Q4 HO531.out)) (Kd.Q4 HO537.out)) (Qm HB.out))
        replace HO528:=Aside0.mk (Kd.Qn (Kd.Qy (Kd.Qy (Kd.Zi HO528.out hb) (Kd.Qq ho0)) (Kd.Qq ho1)) (fun _ h_=>h_.1))
        replace HO531:=Aside0.mk (Kd.Qn (Kd.Qy (Kd.Qy (Kd.Zi HO531.out hb) (Kd.Qq ho0)) (Kd.Qq ho1)) (fun _ h_=>h_.1))
        replace HO537:=Aside0.mk (Kd.Qn (Kd.Qy (Kd.Qy (Kd.Zi HO537.out hb) (Kd.Qq ho0)) (Kd.Qq ho1)) (fun _ h_=>h_.1))
        replace BK522:=sBk BK522 hb
        replace BK523:=sBk BK523 hb
        replace BK540:=sBk BK540 hb
        replace BK555:=sBk BK555 hb
        replace HB:=sHb hb
        (try clear hb)
        (try clear hb2)
        (try clear hk)
        (try clear hi)
        (try clear ho0)
        (try clear ho1)
        obtain⟨Ao42,co42,eo42⟩:=Kd.Q7 HO543.out
        (first|subst eo42|(injection eo42 with f1_ f2_ f3_;have f4_:=f1_.symm;have f5_:=f3_.symm;clear f1_ f2_ f3_;subst f4_;subst f5_))
        obtain⟨Ao43,co43,eo43⟩:=Kd.Q7 HO546.out
        (first|subst eo43|(injection eo43 with f1_ f2_ f3_;have f4_:=f1_.symm;have f5_:=f3_.symm;clear f1_ f2_ f3_;subst f4_;subst f5_))
        refine hK.out _ _ ⟨(Qb BK522.out 0).trans rfl,(Qb BK522.out 1).trans rfl,(Qb BK523.out 0).trans rfl,(Qb BK523.out 1).trans rfl,(Qb BK523.out 2).trans rfl,(Qb BK523.out 3).trans rfl⟩ (fun hHeld=>?_)
        clear hK K
        refine qN (some 35) ?_
        refine Xt (i:=4) (N:=some 38) (bN 13 543) rfl rfl (Zs HT_.out kr) (by decide) (fun K hK=>?_)
        refine Xz Tryd.func11 kr rfl #[.agg #[.slice Ao42 t541.length co42,.slice Ao43 t544.length co43],.agg #[.int .i64 a1_0,.int .i64 a1_1,.int .i64 a1_2,.slice A1_3 l1_3.length c1_3],.int .i64 a2] (by rfl) rfl rfl (by simp only[List.map_toArray,List.map_cons,List.map_nil] <;> rfl) ?_
        with_reducible refine(flash_Write.calls kj3 _ _ t541 _ _ t544 a1_0 a1_1 a1_2 _ _ l1_3 a2 t547 t550 true t554 _ ?side1 ?side2 ?side3 ?side4 ?side5 ?side6 A22.out (by first|exact HTAB.out|((repeat(first|exact HTAB.out|(with_reducible refine Laid.Zc ?_ _)|(with_reducible refine Laid.Zb ?_ _)|(with_reducible refine Laid.Zf ?_)));done)|(refine Laid.Q6 HTAB.out ?_;(repeat(first|(with_reducible first|exact HB.out|apply Qc|apply Qa|apply Qd)|exact HB.out|(refine Qh ?_ (Aside0.out (by assumption)))))))).mono ?_
        (case side1=>exact(Kd.Qx HO543.out).2.2)
        (case side2=>exact(Kd.Qx HO543.out).2.1)
        (case side3=>exact(Kd.Qx HO546.out).2.2)
        (case side4=>exact(Kd.Qx HO546.out).2.1)
        (case side5=>exact(Kd.Q1 HR1_3.out HB.out))
        (case side6=>exact HC1_3.out)
        rintro e w44 ⟨v548,v551,rfl,ho0,ho1,hb⟩
        refine⟨_,rfl, ?_⟩
        have HO549:=Aside0.mk (Kd.Q2 (Kd.Qp (Kd.Qp (Kd.Qp (Kd.Qp (Kd.Qp ho0 (Kd.Q4 HO528.out)) (Kd.Q4 HO531.out)) (Kd.Q4 HO537.out)) (Kd.Q4 HO543.out)) (Kd.Q4 HO546.out)) (Qm HB.out))
        have HO552:=Aside0.mk (Kd.Q2 (Kd.Qp (Kd.Qp (Kd.Qp (Kd.Qp (Kd.Qp ho1 (Kd.Q4 HO528.out)) (Kd.Q4 HO531.out)) (Kd.Q4 HO537.out)) (Kd.Q4 HO543.out)) (Kd.Q4 HO546.out)) (Qm HB.out))
        replace HO528:=Aside0.mk (Kd.Qn (Kd.Qy (Kd.Qy (Kd.Zi HO528.out hb) (Kd.Qq ho0)) (Kd.Qq ho1)) (fun _ h_=>h_.1))
        replace HO531:=Aside0.mk (Kd.Qn (Kd.Qy (Kd.Qy (Kd.Zi HO531.out hb) (Kd.Qq ho0)) (Kd.Qq ho1)) (fun _ h_=>h_.1))
        replace HO537:=Aside0.mk (Kd.Qn (Kd.Qy (Kd.Qy (Kd.Zi HO537.out hb) (Kd.Qq ho0)) (Kd.Qq ho1)) (fun _ h_=>h_.1))
        replace HO543:=Aside0.mk (Kd.Qn (Kd.Qy (Kd.Qy (Kd.Zi HO543.out hb) (Kd.Qq ho0)) (Kd.Qq ho1)) (fun _ h_=>h_.1))
        replace HO546:=Aside0.mk (Kd.Qn (Kd.Qy (Kd.Qy (Kd.Zi HO546.out hb) (Kd.Qq ho0)) (Kd.Qq ho1)) (fun _ h_=>h_.1))
        replace BK522:=sBk BK522 hb
        replace BK523:=sBk BK523 hb
        replace BK540:=sBk BK540 hb
        replace BK555:=sBk BK555 hb
        replace HB:=sHb hb
        (try clear hb)
        (try clear hb2)
        (try clear hk)
        (try clear hi)
        (try clear ho0)
        (try clear ho1)
        refine hK.out _ _ ⟨(Qb BK522.out 0).trans rfl,(Qb BK522.out 1).trans rfl,(Qb BK523.out 0).trans rfl,(Qb BK523.out 1).trans rfl,(Qb BK523.out 2).trans rfl,(Qb BK523.out 3).trans rfl⟩ (fun hHeld=>?_)
        clear hK K
        refine qN (some 38) ?_
        refine qP 5 (some 33) (bN 13 575) HT_ ?_
        refine qP 6 (some 39) (bN 13 639) HT_ ?_
        refine qP 7 (some 40) (bN 13 767) HT_ ?_
        refine qP 8 (some 41) (bN 13 1023) HT_ ?_
        exact Xq (by simp only[Z2,Act.put,qS]) (hCont (.slice Ao42 t541.length co42,.slice Ao43 t544.length co43,v548,v551,gb555) _ ⟨hHeld,(by(with_reducible repeat(first|apply Kd.Qk|apply Kd.Qj|apply Kd.Ql));exact Kd.Qn HO528.out (fun _ hk=>⟨hk.1.1.1.1.1,⟨hk.1.1.1.1.2,⟨hk.1.1.1.2,⟨hk.1.1.2,⟨hk.1.2,hk.2⟩⟩⟩⟩⟩)),(by(with_reducible repeat(first|apply Kd.Qk|apply Kd.Qj|apply Kd.Ql));exact Kd.Qn HO531.out (fun _ hk=>⟨hk.1.1.1.1.1,⟨hk.1.1.1.1.2,⟨hk.1.1.1.2,⟨hk.1.1.2,⟨hk.1.2,hk.2⟩⟩⟩⟩⟩)),(by(with_reducible repeat(first|apply Kd.Qk|apply Kd.Qj|apply Kd.Ql));exact Kd.Qn HO537.out (fun _ hk=>⟨hk.1.1.1.1.1,⟨hk.1.1.1.1.2,⟨hk.1.1.1.2,⟨hk.1.1.2,⟨hk.1.2,hk.2⟩⟩⟩⟩⟩)),(by(with_reducible repeat(first|apply Kd.Qk|apply Kd.Qj|apply Kd.Ql));exact Kd.Qn HO543.out (fun _ hk=>⟨hk.1.1.1.1.2,⟨hk.1.1.1.2,⟨hk.1.1.2,⟨hk.1.1.1.1.1,⟨hk.1.2,hk.2⟩⟩⟩⟩⟩)),(by(with_reducible repeat(first|apply Kd.Qk|apply Kd.Qj|apply Kd.Ql));exact Kd.Qn HO546.out (fun _ hk=>⟨hk.1.1.1.1.2,⟨hk.1.1.1.2,⟨hk.1.1.2,⟨hk.1.1.1.1.1,⟨hk.1.2,hk.2⟩⟩⟩⟩⟩)),(by(with_reducible repeat(first|apply Kd.Qk|apply Kd.Qj|apply Kd.Ql));exact Kd.Qn HO549.out (fun _ hk=>⟨hk.1.1.1.1.2,⟨hk.1.1.1.2,⟨hk.1.1.2,⟨hk.1.2,⟨hk.2,hk.1.1.1.1.1⟩⟩⟩⟩⟩)),(by(with_reducible repeat(first|apply Kd.Qk|apply Kd.Qj|apply Kd.Ql));exact Kd.Qn HO552.out (fun _ hk=>⟨hk.1.1.1.1.2,⟨hk.1.1.1.2,⟨hk.1.1.2,⟨hk.1.2,⟨hk.2,hk.1.1.1.1.1⟩⟩⟩⟩⟩)),BK522.out,BK523.out,BK540.out,BK555.out,GW555.out,GE555.out,NB522_555.out,NB555_522.out,NB523_555.out,NB555_523.out,NB540_555.out,NB555_540.out,HB.out⟩)
      rintro⟨v542,v545,v548,v551,gb555⟩ w45 ⟨hS_,h0_,h1_,h2_,h3_,h4_,h5_,h6_,h7_,h8_,h9_,h10_,h11_,h12_,h13_,h14_,h15_,h16_,h17_,h18_,h19_⟩
      have n0_:Aside0 (Kd.R (Kd.int .u8) 5 w45 w.heap.size (fun k_=>some k_≠(.slice Ao31 t529.length co31:Value).ownBlock∧some k_≠(.slice Ao37 t535.length co37:Value).ownBlock∧some k_≠(v542:Value).ownBlock∧some k_≠(v545:Value).ownBlock∧some k_≠(v548:Value).ownBlock∧some k_≠(v551:Value).ownBlock) (.slice Ao30 t526.length co30) t526):=⟨h0_⟩
      have n1_:Aside0 (Kd.R (Kd.int .u8) 5 w45 w.heap.size (fun k_=>some k_≠(.slice Ao30 t526.length co30:Value).ownBlock∧some k_≠(.slice Ao37 t535.length co37:Value).ownBlock∧some k_≠(v542:Value).ownBlock∧some k_≠(v545:Value).ownBlock∧some k_≠(v548:Value).ownBlock∧some k_≠(v551:Value).ownBlock) (.slice Ao31 t529.length co31) t529):=⟨h1_⟩
      have n2_:Aside0 (Kd.R (Kd.int .u8) 5 w45 w.heap.size (fun k_=>some k_≠(.slice Ao30 t526.length co30:Value).ownBlock∧some k_≠(.slice Ao31 t529.length co31:Value).ownBlock∧some k_≠(v542:Value).ownBlock∧some k_≠(v545:Value).ownBlock∧some k_≠(v548:Value).ownBlock∧some k_≠(v551:Value).ownBlock) (.slice Ao37 t535.length co37) t535):=⟨h2_⟩
      have n3_:Aside0 (Kd.R (Kd.int .u8) 5 w45 w.heap.size (fun k_=>some k_≠(.slice Ao30 t526.length co30:Value).ownBlock∧some k_≠(.slice Ao31 t529.length co31:Value).ownBlock∧some k_≠(.slice Ao37 t535.length co37:Value).ownBlock∧some k_≠(v545:Value).ownBlock∧some k_≠(v548:Value).ownBlock∧some k_≠(v551:Value).ownBlock) v542 t541):=⟨h3_⟩
      have n4_:Aside0 (Kd.R (Kd.int .u8) 5 w45 w.heap.size (fun k_=>some k_≠(.slice Ao30 t526.length co30:Value).ownBlock∧some k_≠(.slice Ao31 t529.length co31:Value).ownBlock∧some k_≠(.slice Ao37 t535.length co37:Value).ownBlock∧some k_≠(v542:Value).ownBlock∧some k_≠(v548:Value).ownBlock∧some k_≠(v551:Value).ownBlock) v545 t544):=⟨h4_⟩
      have n5_:Aside0 (Kd.R (Kd.int .u8) 5 w45 w.heap.size (fun k_=>some k_≠(.slice Ao30 t526.length co30:Value).ownBlock∧some k_≠(.slice Ao31 t529.length co31:Value).ownBlock∧some k_≠(.slice Ao37 t535.length co37:Value).ownBlock∧some k_≠(v542:Value).ownBlock∧some k_≠(v545:Value).ownBlock∧some k_≠(v551:Value).ownBlock) v548 t547):=⟨h5_⟩
      have n6_:Aside0 (Kd.R (Kd.int .u8) 5 w45 w.heap.size (fun k_=>some k_≠(.slice Ao30 t526.length co30:Value).ownBlock∧some k_≠(.slice Ao31 t529.length co31:Value).ownBlock∧some k_≠(.slice Ao37 t535.length co37:Value).ownBlock∧some k_≠(v542:Value).ownBlock∧some k_≠(v545:Value).ownBlock∧some k_≠(v548:Value).ownBlock) v551 t550):=⟨h6_⟩
      have n7_:Aside0 (w45.heap[gb522]?=some (.cells #[.slice A0_0 l0_0.length c0_0,.slice A0_1 l0_1.length c0_1] 24 (0,0))):=⟨h7_⟩
      have n8_:Aside0 (w45.heap[gb523]?=some (.cells #[.int .i64 a1_0,.int .i64 a1_1,.int .i64 a1_2,.slice A1_3 l1_3.length c1_3] 26 (0,0))):=⟨h8_⟩
      have n9_:Aside0 (w45.heap[gb540]?=some (.cells #[.int .i64 t532,.int .i64 t533,.int .i64 t534,.slice Ao37 t535.length co37] 26 (0,0))):=⟨h9_⟩
      have n10_:Aside0 (w45.heap[gb555]?=some (.cells #[.slice none 0 0,.slice none 0 0] 24 (0,0))):=⟨h10_⟩
      have n11_:Aside0 (w.heap.size≤gb555):=⟨h11_⟩
      have n12_:Aside0 (w.heap.size≤gb555):=⟨h12_⟩
      have n13_:Aside0 (gb522≠gb555):=⟨h13_⟩
      have n14_:Aside0 (gb555≠gb522):=⟨h14_⟩
      have n15_:Aside0 (gb523≠gb555):=⟨h15_⟩
      have n16_:Aside0 (gb555≠gb523):=⟨h16_⟩
      have n17_:Aside0 (gb540≠gb555):=⟨h17_⟩
      have n18_:Aside0 (gb555≠gb540):=⟨h18_⟩
      have n19_:Aside0 (Below w.heap.size w w45):=⟨h19_⟩
      clear HO528
      clear HO531
      clear HO537
      clear BK522
      clear BK523
      clear BK540
      clear HB
      clear h0_ h1_ h2_ h3_ h4_ h5_ h6_ h7_ h8_ h9_ h10_ h11_ h12_ h13_ h14_ h15_ h16_ h17_ h18_ h19_
      have HO528:=n0_
      have HO531:=n1_
      have HO537:=n2_
      have HO543:=n3_
      have HO546:=n4_
      have HO549:=n5_
      have HO552:=n6_
      have BK522:=n7_
      have BK523:=n8_
      have BK540:=n9_
      have BK555:=n10_
      have GW555:=n11_
      have GE555:=n12_
      have NB522_555:=n13_
      have NB555_522:=n14_
      have NB523_555:=n15_
      have NB555_523:=n16_
      have NB540_555:=n17_
      have NB555_540:=n18_
      have HB:=n19_
      clear n0_ n1_ n2_ n3_ n4_ n5_ n6_ n7_ n8_ n9_ n10_ n11_ n12_ n13_ n14_ n15_ n16_ n17_ n18_ n19_
      have hHeld:w45.cell? ⟨gb522,0,none⟩=some (.slice A0_0 l0_0.length c0_0)∧w45.cell? ⟨gb522,1,none⟩=some (.slice A0_1 l0_1.length c0_1)∧w45.cell? ⟨gb523,0,none⟩=some (.int .i64 a1_0)∧w45.cell? ⟨gb523,1,none⟩=some (.int .i64 a1_1)∧w45.cell? ⟨gb523,2,none⟩=some (.int .i64 a1_2)∧w45.cell? ⟨gb523,3,none⟩=some (.slice A1_3 l1_3.length c1_3):=hS_
      obtain⟨Ao46,co46,eo46⟩:=Kd.Q7 HO549.out
      (first|subst eo46|(injection eo46 with f1_ f2_ f3_;have f4_:=f1_.symm;have f5_:=f3_.symm;clear f1_ f2_ f3_;subst f4_;subst f5_))
      obtain⟨Ao48,co48,eo48⟩:=Kd.Q7 HO552.out
      (first|subst eo48|(injection eo48 with f1_ f2_ f3_;have f4_:=f1_.symm;have f5_:=f3_.symm;clear f1_ f2_ f3_;subst f4_;subst f5_))
      refine Xq (a':=?_) ?_ ?_
      rotate_left
      ·simp only[Z2,Act.put,qS]
       rfl
      refine Xt (i:=10) (N:=none) (bN 13 2047) rfl rfl (Zs HT_.out kr) (by decide) (fun K hK=>?_)
      have hs47:w45.cell? ⟨gb555,0,none⟩=some (.slice none 0 0):=(Qb BK555.out 0).trans rfl
      have hfs47:=Qe BK555.out 0
      have hns47_0:=NB522_555.out
      have hns47_1:=NB523_555.out
      have hns47_2:=NB540_555.out
      have hms47_0:=NB555_522.out
      have hms47_1:=NB555_523.out
      have hms47_2:=NB555_540.out
      have hs49:w45.cell? ⟨gb555,1,none⟩=some (.slice none 0 0):=(Qb BK555.out 1).trans rfl
      have hfs49:=Qe BK555.out 1
      have hns49_0:=NB522_555.out
      have hns49_1:=NB523_555.out
      have hns49_2:=NB540_555.out
      have hms49_0:=NB555_522.out
      have hms49_1:=NB555_523.out
      have hms49_2:=NB555_540.out
      refine Jz (w1:=?_) (by rfl) rfl ?_ ?_
      rotate_left
      ·go_simp
       rfl
      refine hK.out _ _ ⟨((cell_far (p:=⟨gb555,_,none⟩) NB522_555.out _).trans (((cell_far (p:=⟨gb555,_,none⟩) NB522_555.out _).trans (hHeld.1)))),((cell_far (p:=⟨gb555,_,none⟩) NB522_555.out _).trans (((cell_far (p:=⟨gb555,_,none⟩) NB522_555.out _).trans (hHeld.2.1)))),((cell_far (p:=⟨gb555,_,none⟩) NB523_555.out _).trans (((cell_far (p:=⟨gb555,_,none⟩) NB523_555.out _).trans (hHeld.2.2.1)))),((cell_far (p:=⟨gb555,_,none⟩) NB523_555.out _).trans (((cell_far (p:=⟨gb555,_,none⟩) NB523_555.out _).trans (hHeld.2.2.2.1)))),((cell_far (p:=⟨gb555,_,none⟩) NB523_555.out _).trans (((cell_far (p:=⟨gb555,_,none⟩) NB523_555.out _).trans (hHeld.2.2.2.2.1)))),((cell_far (p:=⟨gb555,_,none⟩) NB523_555.out _).trans (((cell_far (p:=⟨gb555,_,none⟩) NB523_555.out _).trans (hHeld.2.2.2.2.2))))⟩ (fun hHeld=>?_)
      clear hK K
      refine qP 11 (some 11) (bN 13 4095) HT_ ?_
      refine qP 12 (some 12) (bN 13 8191) HT_ ?_
      refine Y1 (X7 HT_.out kr) ?_
      have hnb50:=NB555_522.out
      have hnc50:=NB522_555.out
      have hnb51:=NB555_523.out
      have hnc51:=NB523_555.out
      have hnb52:=NB555_540.out
      have hnc52:=NB540_555.out
      have hcz53_0:w45.cell? ⟨gb555,0,none⟩=some (.slice none 0 0):=(Qb BK555.out 0).trans rfl
      have hcz53_1:w45.cell? ⟨gb555,1,none⟩=some (.slice none 0 0):=(Qb BK555.out 1).trans rfl
      have hfz53_0:=Qe BK555.out 0
      have hfz53_1:=Qe BK555.out 1
      go_upto_region 9 with(first|((with_reducible refine Q0 (f:=14) rfl ?_);refine Zj (some 51) rfl rfl Tryd.func14 kr rfl #[.agg #[.slice Ao46 t547.length co46,.slice Ao48 t550.length co48]] rfl (by simp only[List.map_toArray,List.map_cons,List.map_nil] <;> rfl) ?_;(with_reducible refine(flash_Recover.calls kj3 _ _ t547 _ _ t550 t557 t558 t559 t560 t563 t564 _ ?side1 ?side2 ?side3 ?side4 A24.out (by first|exact HTAB.out|((repeat(first|exact HTAB.out|(with_reducible refine Laid.Zc ?_ _)|(with_reducible refine Laid.Zb ?_ _)|(with_reducible refine Laid.Zf ?_)));done)|(refine Laid.Q6 HTAB.out ?_;(repeat(first|(with_reducible first|exact HB.out|apply Qc|apply Qa|apply Qd)|exact HB.out|(refine Qh ?_ (Aside0.out (by assumption)))))))).mono ?_);(case side1=>refine(Kd.Qx (e:=5) (base:=w.heap.size) (ok:=fun k_=>(some k_≠(.slice Ao30 t526.length co30:Value).ownBlock∧(some k_≠(.slice Ao31 t529.length co31:Value).ownBlock∧(some k_≠(.slice Ao37 t535.length co37:Value).ownBlock∧(some k_≠(v542:Value).ownBlock∧(some k_≠(v545:Value).ownBlock∧some k_≠(.slice Ao48 t550.length co48:Value).ownBlock)))))) (n:=t547.length) (c:=co46) ?_).2.2;exact(by(with_reducible repeat(first|apply Kd.Qk|apply Kd.Qj|apply Kd.Ql));exact(Kd.Qn (Kd.Qo (Kd.Qo (Kd.Qw HO549.out BK555.out (by decide)) (fun _ hk=>hk.2) _) (fun _ hk=>hk.2) _) (fun _ h_=>h_.1))));(case side2=>exact(Kd.Qx HO549.out).2.1);(case side3=>refine(Kd.Qx (e:=5) (base:=w.heap.size) (ok:=fun k_=>(some k_≠(.slice Ao30 t526.length co30:Value).ownBlock∧(some k_≠(.slice Ao31 t529.length co31:Value).ownBlock∧(some k_≠(.slice Ao37 t535.length co37:Value).ownBlock∧(some k_≠(v542:Value).ownBlock∧(some k_≠(v545:Value).ownBlock∧some k_≠(.slice Ao46 t547.length co46:Value).ownBlock)))))) (n:=t550.length) (c:=co48) ?_).2.2;exact(by(with_reducible repeat(first|apply Kd.Qk|apply Kd.Qj|apply Kd.Ql));exact(Kd.Qn (Kd.Qo (Kd.Qo (Kd.Qw HO552.out BK555.out (by decide)) (fun _ hk=>hk.2) _) (fun _ hk=>hk.2) _) (fun _ h_=>h_.1))));(case side4=>exact(Kd.Qx HO552.out).2.1);rintro e w54 ⟨v561,rfl,ho0,hb⟩;refine⟨_,rfl, ?_⟩;have HO562:=Aside0.mk (Kd.Q2 (Kd.Qp (Kd.Qp (Kd.Qp (Kd.Qp (Kd.Qp (Kd.Qp (Kd.Qp ho0 (Kd.Q4 (by(with_reducible repeat(first|apply Kd.Qk|apply Kd.Qj|apply Kd.Ql));exact(Kd.Qn (Kd.Qo (Kd.Qo (Kd.Qw HO528.out BK555.out (by decide)) (fun _ hk=>hk.2) _) (fun _ hk=>hk.2) _) (fun _ h_=>h_.1))))) (Kd.Q4 (by(with_reducible repeat(first|apply Kd.Qk|apply Kd.Qj|apply Kd.Ql));exact(Kd.Qn (Kd.Qo (Kd.Qo (Kd.Qw HO531.out BK555.out (by decide)) (fun _ hk=>hk.2) _) (fun _ hk=>hk.2) _) (fun _ h_=>h_.1))))) (Kd.Q4 (by(with_reducible repeat(first|apply Kd.Qk|apply Kd.Qj|apply Kd.Ql));exact(Kd.Qn (Kd.Qo (Kd.Qo (Kd.Qw HO537.out BK555.out (by decide)) (fun _ hk=>hk.2) _) (fun _ hk=>hk.2) _) (fun _ h_=>h_.1))))) (Kd.Q4 (by(with_reducible repeat(first|apply Kd.Qk|apply Kd.Qj|apply Kd.Ql));exact(Kd.Qn (Kd.Qo (Kd.Qo (Kd.Qw HO543.out BK555.out (by decide)) (fun _ hk=>hk.2) _) (fun _ hk=>hk.2) _) (fun _ h_=>h_.1))))) (Kd.Q4 (by(with_reducible repeat(first|apply Kd.Qk|apply Kd.Qj|apply Kd.Ql));exact(Kd.Qn (Kd.Qo (Kd.Qo (Kd.Qw HO546.out BK555.out (by decide)) (fun _ hk=>hk.2) _) (fun _ hk=>hk.2) _) (fun _ h_=>h_.1))))) (Kd.Q4 (by(with_reducible repeat(first|apply Kd.Qk|apply Kd.Qj|apply Kd.Ql));exact(Kd.Qn (Kd.Qo (Kd.Qo (Kd.Qw HO549.out BK555.out (by decide)) (fun _ hk=>hk.2) _) (fun _ hk=>hk.2) _) (fun _ h_=>h_.1))))) (Kd.Q4 (by(with_reducible repeat(first|apply Kd.Qk|apply Kd.Qj|apply Kd.Ql));exact(Kd.Qn (Kd.Qo (Kd.Qo (Kd.Qw HO552.out BK555.out (by decide)) (fun _ hk=>hk.2) _) (fun _ hk=>hk.2) _) (fun _ h_=>h_.1))))) (Qm bel));replace HO528:=Aside0.mk (Kd.Q8 (by(with_reducible repeat(first|apply Kd.Qk|apply Kd.Qj|apply Kd.Ql));exact(Kd.Qn (Kd.Qo (Kd.Qo (Kd.Qw HO528.out BK555.out (by decide)) (fun _ hk=>hk.2) _) (fun _ hk=>hk.2) _) (fun _ h_=>h_.1))) (Kd.Qq ho0) hb);replace HO531:=Aside0.mk (Kd.Q8 (by(with_reducible repeat(first|apply Kd.Qk|apply Kd.Qj|apply Kd.Ql));exact(Kd.Qn (Kd.Qo (Kd.Qo (Kd.Qw HO531.out BK555.out (by decide)) (fun _ hk=>hk.2) _) (fun _ hk=>hk.2) _) (fun _ h_=>h_.1))) (Kd.Qq ho0) hb);replace HO537:=Aside0.mk (Kd.Q8 (by(with_reducible repeat(first|apply Kd.Qk|apply Kd.Qj|apply Kd.Ql));exact(Kd.Qn (Kd.Qo (Kd.Qo (Kd.Qw HO537.out BK555.out (by decide)) (fun _ hk=>hk.2) _) (fun _ hk=>hk.2) _) (fun _ h_=>h_.1))) (Kd.Qq ho0) hb);replace HO543:=Aside0.mk (Kd.Q8 (by(with_reducible repeat(first|apply Kd.Qk|apply Kd.Qj|apply Kd.Ql));exact(Kd.Qn (Kd.Qo (Kd.Qo (Kd.Qw HO543.out BK555.out (by decide)) (fun _ hk=>hk.2) _) (fun _ hk=>hk.2) _) (fun _ h_=>h_.1))) (Kd.Qq ho0) hb);replace HO546:=Aside0.mk (Kd.Q8 (by(with_reducible repeat(first|apply Kd.Qk|apply Kd.Qj|apply Kd.Ql));exact(Kd.Qn (Kd.Qo (Kd.Qo (Kd.Qw HO546.out BK555.out (by decide)) (fun _ hk=>hk.2) _) (fun _ hk=>hk.2) _) (fun _ h_=>h_.1))) (Kd.Qq ho0) hb);replace HO549:=Aside0.mk (Kd.Q8 (by(with_reducible repeat(first|apply Kd.Qk|apply Kd.Qj|apply Kd.Ql));exact(Kd.Qn (Kd.Qo (Kd.Qo (Kd.Qw HO549.out BK555.out (by decide)) (fun _ hk=>hk.2) _) (fun _ hk=>hk.2) _) (fun _ h_=>h_.1))) (Kd.Qq ho0) hb);replace HO552:=Aside0.mk (Kd.Q8 (by(with_reducible repeat(first|apply Kd.Qk|apply Kd.Qj|apply Kd.Ql));exact(Kd.Qn (Kd.Qo (Kd.Qo (Kd.Qw HO552.out BK555.out (by decide)) (fun _ hk=>hk.2) _) (fun _ hk=>hk.2) _) (fun _ h_=>h_.1))) (Kd.Qq ho0) hb);replace BK522:=sBk BK522 hb;replace BK523:=sBk BK523 hb;replace BK540:=sBk BK540 hb;replace BK555:=Aside0.mk (Qu (g:=gb555) (o:=.cells #[.slice Ao46 t547.length co46,.slice Ao48 t550.length co48] 24 (0,0)) (by(with_reducible repeat(first|refine Qf ?_ _|refine Qi ?_|refine Qg ?_ _));refine Qr (cs:=#[.slice Ao46 t547.length co46,.slice none 0 0]) ?_ 1 _ rfl;(with_reducible repeat(first|refine Qf ?_ _|refine Qi ?_|refine Qg ?_ _));refine Qr (cs:=#[.slice none 0 0,.slice none 0 0]) ?_ 0 _ rfl;(with_reducible repeat(first|refine Qf ?_ _|refine Qi ?_|refine Qg ?_ _));exact BK555.out) hb);replace HB:=sHb hb;(try clear hb);(try clear hb2);(try clear hk);(try clear hi);(try clear ho0))|((with_reducible refine Q5 (N:=13) rfl ?_);(try(refine Zm (by rfl) ?_;dsimp only));refine Q3 ?hg (N:=13) ?hd (cs:=#[.int .i64 0,.int .i64 0,.int .i64 0,.slice none 0 0]) (t:=26) ?hr ?_;(case hd=>rfl);(case hg=>rfl);(case hr=>go_simp <;> rfl);intro gb565 hg w55 hbox hb;have BK565:=Aside0.mk hbox;have GW565:=sGe hg;have GE565:=sGe hg;have NB522_565:=sNl BK522 hg;have NB565_522:=sNg BK522 hg;have NB523_565:=sNl BK523 hg;have NB565_523:=sNg BK523 hg;have NB540_565:=sNl BK540 hg;have NB565_540:=sNg BK540 hg;have NB555_565:=sNl BK555 hg;have NB565_555:=sNg BK555 hg;replace HO528:=sRb HO528 hb;replace HO531:=sRb HO531 hb;replace HO537:=sRb HO537 hb;replace HO543:=sRb HO543 hb;replace HO546:=sRb HO546 hb;replace HO549:=sRb HO549 hb;replace HO552:=sRb HO552 hb;replace HO562:=sRb HO562 hb;replace BK522:=sBk BK522 hb;replace BK523:=sBk BK523 hb;replace BK540:=sBk BK540 hb;replace BK555:=sBk BK555 hb;replace HB:=sHb hb;clear hb hbox hg;have hnb56:=NB565_522.out;have hnc56:=NB522_565.out;have hnb57:=NB565_523.out;have hnc57:=NB523_565.out;have hnb58:=NB565_540.out;have hnc58:=NB540_565.out;have hnb59:=NB565_555.out;have hnc59:=NB555_565.out;have hcz60_0:w55.cell? ⟨gb565,0,none⟩=some (.int .i64 0):=(Qb BK565.out 0).trans rfl;have hcz60_1:w55.cell? ⟨gb565,1,none⟩=some (.int .i64 0):=(Qb BK565.out 1).trans rfl;have hcz60_2:w55.cell? ⟨gb565,2,none⟩=some (.int .i64 0):=(Qb BK565.out 2).trans rfl;have hcz60_3:w55.cell? ⟨gb565,3,none⟩=some (.slice none 0 0):=(Qb BK565.out 3).trans rfl;have hfz60_0:=Qe BK565.out 0;have hfz60_1:=Qe BK565.out 1;have hfz60_2:=Qe BK565.out 2;have hfz60_3:=Qe BK565.out 3;obtain⟨Ao61,co61,eo61⟩:=Kd.Q7 HO562.out;subst eo61))
      (try simp only[Act.put,qS])
      go_cut [6] (fun v6 wc=>∃ (kq:Nat) (x6_25:Bool),v6 = .bool x6_25∧Aside0 (newellaw12_FlashWhole.j1 kq x6_25=some r)∧Aside0 (kq≤kj3)∧Aside0 (Kd.R (Kd.int .u8) 5 wc w.heap.size (fun k_=>some k_≠((.slice Ao46 t547.length co46):Value).ownBlock∧some k_≠((.slice Ao48 t550.length co48):Value).ownBlock∧some k_≠((.slice Ao61 t560.length co61):Value).ownBlock) (.slice Ao37 t535.length co37) t535)∧Aside0 (Kd.R (Kd.int .u8) 5 wc w.heap.size (fun k_=>some k_≠((.slice Ao37 t535.length co37):Value).ownBlock∧some k_≠((.slice Ao48 t550.length co48):Value).ownBlock∧some k_≠((.slice Ao61 t560.length co61):Value).ownBlock) (.slice Ao46 t547.length co46) t547)∧Aside0 (Kd.R (Kd.int .u8) 5 wc w.heap.size (fun k_=>some k_≠((.slice Ao37 t535.length co37):Value).ownBlock∧some k_≠((.slice Ao46 t547.length co46):Value).ownBlock∧some k_≠((.slice Ao61 t560.length co61):Value).ownBlock) (.slice Ao48 t550.length co48) t550)∧Aside0 (Kd.R (Kd.int .u8) 5 wc w.heap.size (fun k_=>some k_≠((.slice Ao37 t535.length co37):Value).ownBlock∧some k_≠((.slice Ao46 t547.length co46):Value).ownBlock∧some k_≠((.slice Ao48 t550.length co48):Value).ownBlock) (.slice Ao61 t560.length co61) t560)∧Aside0 (wc.heap[gb522]?=some (.cells #[(.slice A0_0 l0_0.length c0_0),(.slice A0_1 l0_1.length c0_1)] 24 (0,0)))∧Aside0 (wc.heap[gb523]?=some (.cells #[.int .i64 a1_0,.int .i64 a1_1,.int .i64 a1_2,(.slice A1_3 l1_3.length c1_3)] 26 (0,0)))∧Aside0 (wc.heap[gb540]?=some (.cells #[.int .i64 t532,.int .i64 t533,.int .i64 t534,(.slice Ao37 t535.length co37)] 26 (0,0)))∧Aside0 (wc.heap[gb555]?=some (.cells #[(.slice Ao46 t547.length co46),(.slice Ao48 t550.length co48)] 24 (0,0)))∧Aside0 (wc.heap[gb565]?=some (.cells #[.int .i64 t557,.int .i64 t558,.int .i64 t559,(.slice Ao61 t560.length co61)] 26 (0,0)))∧Aside0 (Below w.heap.size w wc))
      case first=>
       have H:=HC26.out
       clear HC26
       replace H:=Option.bind_eq_some_iff.mp H
       obtain⟨t566,A620,H⟩:=H
       replace H:(if t566=true then (if t564=0 then ((flash_Same.f t557 t558 t559 t560 a1_0 a1_1 a1_2 l1_3).bind fun t567=>(newellaw12_FlashWhole.j1 kj3 t567)) else (none)) else (none))=some r:=H
       have A62:=Aside0.mk A620
       clear A620
       by_cases c63:t566=true
       ·subst c63
        have H1:(if t564=0 then ((flash_Same.f t557 t558 t559 t560 a1_0 a1_1 a1_2 l1_3).bind fun t567=>(newellaw12_FlashWhole.j1 kj3 t567)) else (none))=some r:=by rw[if_pos rfl] at H;exact H
        clear H
        have H:=H1
        clear H1
        by_cases c64:t564=0
        ·rw[if_pos c64] at H
         have c64b0:(t564==0)=true:=beq_iff_eq.mpr c64
         have c64b1:(t564 != 0)=false:=bne_eq_false_iff_eq.mpr c64
         clear c64
         (first|rw[c64b0]|(simp only[Z3,Xg];rw[c64b0])|skip)
         replace H:=Option.bind_eq_some_iff.mp H
         obtain⟨t567,A650,H⟩:=H
         replace H:(newellaw12_FlashWhole.j1 kj3 t567)=some r:=H
         have A65:=Aside0.mk A650
         clear A650
         have H':=Aside0.mk H
         clear H
         go_wp2_with (first|((with_reducible refine Q0 (f:=10) rfl ?_);refine Zj (some 56) rfl rfl Tryd.func10 kr rfl #[] rfl (by simp only[List.map_toArray,List.map_cons,List.map_nil] <;> rfl) ?_;(with_reducible refine(newellaw12_awake.calls kj3  true _ A62.out (by first|exact HTAB.out|((repeat(first|exact HTAB.out|(with_reducible refine Laid.Zc ?_ _)|(with_reducible refine Laid.Zb ?_ _)|(with_reducible refine Laid.Zf ?_)));done)|(refine Laid.Q6 HTAB.out ?_;(repeat(first|(with_reducible first|exact HB.out|apply Qc|apply Qa|apply Qd)|exact HB.out|(refine Qh ?_ (Aside0.out (by assumption)))))))).mono ?_);rintro e w66 ⟨rfl,hb⟩;refine⟨_,rfl, ?_⟩;replace HO528:=Aside0.mk (Kd.Qz (by(with_reducible repeat(first|apply Kd.Qk|apply Kd.Qj|apply Kd.Ql));exact(Kd.Qn (Kd.Qo (Kd.Qo (Kd.Qo (Kd.Qo (Kd.Qw HO528.out BK565.out (by decide)) (fun _ hk=>hk.2) (.int .i64 t557)) (fun _ hk=>hk.2) (.int .i64 t558)) (fun _ hk=>hk.2) (.int .i64 t559)) (fun _ hk=>hk.2) _) (fun _ h_=>h_.1))) hb);replace HO531:=Aside0.mk (Kd.Qz (by(with_reducible repeat(first|apply Kd.Qk|apply Kd.Qj|apply Kd.Ql));exact(Kd.Qn (Kd.Qo (Kd.Qo (Kd.Qo (Kd.Qo (Kd.Qw HO531.out BK565.out (by decide)) (fun _ hk=>hk.2) (.int .i64 t557)) (fun _ hk=>hk.2) (.int .i64 t558)) (fun _ hk=>hk.2) (.int .i64 t559)) (fun _ hk=>hk.2) _) (fun _ h_=>h_.1))) hb);replace HO537:=Aside0.mk (Kd.Qz (by(with_reducible repeat(first|apply Kd.Qk|apply Kd.Qj|apply Kd.Ql));exact(Kd.Qn (Kd.Qo (Kd.Qo (Kd.Qo (Kd.Qo (Kd.Qw HO537.out BK565.out (by decide)) (fun _ hk=>hk.2) (.int .i64 t557)) (fun _ hk=>hk.2) (.int .i64 t558)) (fun _ hk=>hk.2) (.int .i64 t559)) (fun _ hk=>hk.2) _) (fun _ h_=>h_.1))) hb);replace HO543:=Aside0.mk (Kd.Qz (by(with_reducible repeat(first|apply Kd.Qk|apply Kd.Qj|apply Kd.Ql));exact(Kd.Qn (Kd.Qo (Kd.Qo (Kd.Qo (Kd.Qo (Kd.Qw HO543.out BK565.out (by decide)) (fun _ hk=>hk.2) (.int .i64 t557)) (fun _ hk=>hk.2) (.int .i64 t558)) (fun _ hk=>hk.2) (.int .i64 t559)) (fun _ hk=>hk.2) _) (fun _ h_=>h_.1))) hb);replace HO546:=Aside0.mk (Kd.Qz (by(with_reducible repeat(first|apply Kd.Qk|apply Kd.Qj|apply Kd.Ql));exact(Kd.Qn (Kd.Qo (Kd.Qo (Kd.Qo (Kd.Qo (Kd.Qw HO546.out BK565.out (by decide)) (fun _ hk=>hk.2) (.int .i64 t557)) (fun _ hk=>hk.2) (.int .i64 t558)) (fun _ hk=>hk.2) (.int .i64 t559)) (fun _ hk=>hk.2) _) (fun _ h_=>h_.1))) hb);replace HO549:=Aside0.mk (Kd.Qz (by(with_reducible repeat(first|apply Kd.Qk|apply Kd.Qj|apply Kd.Ql));exact(Kd.Qn (Kd.Qo (Kd.Qo (Kd.Qo (Kd.Qo (Kd.Qw HO549.out BK565.out (by decide)) (fun _ hk=>hk.2) (.int .i64 t557)) (fun _ hk=>hk.2) (.int .i64 t558)) (fun _ hk=>hk.2) (.int .i64 t559)) (fun _ hk=>hk.2) _) (fun _ h_=>h_.1))) hb);replace HO552:=Aside0.mk (Kd.Qz (by(with_reducible repeat(first|apply Kd.Qk|apply Kd.Qj|apply Kd.Ql));exact(Kd.Qn (Kd.Qo (Kd.Qo (Kd.Qo (Kd.Qo (Kd.Qw HO552.out BK565.out (by decide)) (fun _ hk=>hk.2) (.int .i64 t557)) (fun _ hk=>hk.2) (.int .i64 t558)) (fun _ hk=>hk.2) (.int .i64 t559)) (fun _ hk=>hk.2) _) (fun _ h_=>h_.1))) hb);replace HO562:=Aside0.mk (Kd.Qz (by(with_reducible repeat(first|apply Kd.Qk|apply Kd.Qj|apply Kd.Ql));exact(Kd.Qn (Kd.Qo (Kd.Qo (Kd.Qo (Kd.Qo (Kd.Qw HO562.out BK565.out (by decide)) (fun _ hk=>hk.2) (.int .i64 t557)) (fun _ hk=>hk.2) (.int .i64 t558)) (fun _ hk=>hk.2) (.int .i64 t559)) (fun _ hk=>hk.2) _) (fun _ h_=>h_.1))) hb);replace BK522:=sBk BK522 hb;replace BK523:=sBk BK523 hb;replace BK540:=sBk BK540 hb;replace BK555:=sBk BK555 hb;replace BK565:=Aside0.mk (Qu (g:=gb565) (o:=.cells #[.int .i64 t557,.int .i64 t558,.int .i64 t559,.slice Ao61 t560.length co61] 26 (0,0)) (by refine Qr (cs:=#[.int .i64 t557,.int .i64 t558,.int .i64 t559,.slice none 0 0]) ?_ 3 _ rfl;refine Qr (cs:=#[.int .i64 t557,.int .i64 t558,.int .i64 0,.slice none 0 0]) ?_ 2 _ rfl;refine Qr (cs:=#[.int .i64 t557,.int .i64 0,.int .i64 0,.slice none 0 0]) ?_ 1 _ rfl;refine Qr (cs:=#[.int .i64 0,.int .i64 0,.int .i64 0,.slice none 0 0]) ?_ 0 _ rfl;exact BK565.out) hb);replace HB:=sHb hb;(try clear hb);(try clear hb2);(try clear hk);(try clear hi);have hnb67:=NB565_522.out;have hnc67:=NB522_565.out;have hnb68:=NB565_523.out;have hnc68:=NB523_565.out;have hnb69:=NB565_540.out;have hnc69:=NB540_565.out;have hnb70:=NB565_555.out;have hnc70:=NB555_565.out;have hcz71_0:w66.cell? ⟨gb565,0,none⟩=some (.int .i64 t557):=(Qb BK565.out 0).trans rfl;have hcz71_1:w66.cell? ⟨gb565,1,none⟩=some (.int .i64 t558):=(Qb BK565.out 1).trans rfl;have hcz71_2:w66.cell? ⟨gb565,2,none⟩=some (.int .i64 t559):=(Qb BK565.out 2).trans rfl;have hcz71_3:w66.cell? ⟨gb565,3,none⟩=some (.slice Ao61 t560.length co61):=(Qb BK565.out 3).trans rfl;have hfz71_0:=Qe BK565.out 0;have hfz71_1:=Qe BK565.out 1;have hfz71_2:=Qe BK565.out 2;have hfz71_3:=Qe BK565.out 3;have hnb72:=NB523_522.out;have hnc72:=NB522_523.out;have hnb73:=NB523_540.out;have hnc73:=NB540_523.out;have hnb74:=NB523_555.out;have hnc74:=NB555_523.out;have hcz75_0:w66.cell? ⟨gb523,0,none⟩=some (.int .i64 a1_0):=(Qb BK523.out 0).trans rfl;have hcz75_1:w66.cell? ⟨gb523,1,none⟩=some (.int .i64 a1_1):=(Qb BK523.out 1).trans rfl;have hcz75_2:w66.cell? ⟨gb523,2,none⟩=some (.int .i64 a1_2):=(Qb BK523.out 2).trans rfl;have hcz75_3:w66.cell? ⟨gb523,3,none⟩=some (.slice A1_3 l1_3.length c1_3):=(Qb BK523.out 3).trans rfl;have hfz75_0:=Qe BK523.out 0;have hfz75_1:=Qe BK523.out 1;have hfz75_2:=Qe BK523.out 2;have hfz75_3:=Qe BK523.out 3)|(go_at_call 20;(with_reducible refine(flash_Same.calls t557 t558 t559 _ _ t560 a1_0 a1_1 a1_2 _ _ l1_3 t567 _ ?side1 ?side2 ?side3 ?side4 A65.out).mono ?_);(case side1=>exact(Kd.Qx HO562.out).2.2);(case side2=>exact(Kd.Qx HO562.out).2.1);(case side3=>exact(Kd.Q1 HR1_3.out HB.out));(case side4=>exact HC1_3.out);rintro e w76 ⟨rfl,hb⟩;have n0_:=Aside0.mk (Kd.Qz HO528.out hb);have n1_:=Aside0.mk (Kd.Qz HO531.out hb);have n2_:=Aside0.mk (Kd.Qz HO537.out hb);have n3_:=Aside0.mk (Kd.Qz HO543.out hb);have n4_:=Aside0.mk (Kd.Qz HO546.out hb);have n5_:=Aside0.mk (Kd.Qz HO549.out hb);have n6_:=Aside0.mk (Kd.Qz HO552.out hb);have n7_:=Aside0.mk (Kd.Qz HO562.out hb);have n8_:=Aside0.mk (Qu (g:=gb522) (o:=.cells #[.slice A0_0 l0_0.length c0_0,.slice A0_1 l0_1.length c0_1] 24 (0,0)) BK522.out hb);have n9_:=Aside0.mk (Qu (g:=gb523) (o:=.cells #[.int .i64 a1_0,.int .i64 a1_1,.int .i64 a1_2,.slice A1_3 l1_3.length c1_3] 26 (0,0)) BK523.out hb);have n10_:=Aside0.mk (Qu (g:=gb540) (o:=.cells #[.int .i64 t532,.int .i64 t533,.int .i64 t534,.slice Ao37 t535.length co37] 26 (0,0)) BK540.out hb);have n11_:=Aside0.mk (Qu (g:=gb555) (o:=.cells #[.slice Ao46 t547.length co46,.slice Ao48 t550.length co48] 24 (0,0)) BK555.out hb);have n12_:=Aside0.mk (Qu (g:=gb565) (o:=.cells #[.int .i64 t557,.int .i64 t558,.int .i64 t559,.slice Ao61 t560.length co61] 26 (0,0)) BK565.out hb);have n13_:=Aside0.mk (Qv HB.out hb);clear HO528;clear HO531;clear HO537;clear HO543;clear HO546;clear HO549;clear HO552;clear HO562;clear BK522;clear BK523;clear BK540;clear BK555;clear BK565;clear HB;have HO528:=n0_;have HO531:=n1_;have HO537:=n2_;have HO543:=n3_;have HO546:=n4_;have HO549:=n5_;have HO552:=n6_;have HO562:=n7_;have BK522:=n8_;have BK523:=n9_;have BK540:=n10_;have BK555:=n11_;have BK565:=n12_;have HB:=n13_;clear n0_ n1_ n2_ n3_ n4_ n5_ n6_ n7_ n8_ n9_ n10_ n11_ n12_ n13_;(try clear hb);(try clear hb2);(try clear hk);(try clear hi)))
         go_meet
         case rel=>exact⟨_,(t567),rfl,H',⟨by have:=HJ3.out;omega⟩,⟨by(with_reducible repeat(first|apply Kd.Qk|apply Kd.Qj|apply Kd.Ql));exact Kd.Qn HO537.out (fun _ hk=>⟨hk.1.2.2.2.2.1,⟨hk.1.2.2.2.2.2,hk.2⟩⟩)⟩,⟨by(with_reducible repeat(first|apply Kd.Qk|apply Kd.Qj|apply Kd.Ql));exact Kd.Qn HO549.out (fun _ hk=>⟨hk.1.2.2.1,⟨hk.1.2.2.2.2.2,hk.2⟩⟩)⟩,⟨by(with_reducible repeat(first|apply Kd.Qk|apply Kd.Qj|apply Kd.Ql));exact Kd.Qn HO552.out (fun _ hk=>⟨hk.1.2.2.1,⟨hk.1.2.2.2.2.2,hk.2⟩⟩)⟩,⟨by(with_reducible repeat(first|apply Kd.Qk|apply Kd.Qj|apply Kd.Ql));exact Kd.Qn HO562.out (fun _ hk=>⟨hk.1.1.1.1.2,⟨hk.1.2,hk.2⟩⟩)⟩,BK522,BK523,BK540,BK555,BK565,HB⟩
        ·rw[if_neg c64] at H
         exact absurd H (by simp)
       ·replace c63:=Bool.eq_false_iff.mpr c63
        subst c63
        have H1:(none)=some r:=by rw[if_neg (show ¬ (false=true) by decide)] at H;exact H
        clear H
        have H:=H1
        clear H1
        exact absurd H (by simp)
      case rest=>
       clear HC26
       try clear c1
       try clear p2
       try clear c5
       try clear c6
       try clear c7
       try clear c10
       try clear c11
       try clear c12
       try clear c14
       try clear c50
       try clear c51
       try clear c52
       try clear c56
       try clear c57
       try clear c58
       try clear c59
       try clear c63
       try clear c64
       try clear c64b0
       try clear c64b1
       try clear c67
       try clear c68
       try clear c69
       try clear c70
       try clear c72
       try clear c73
       try clear c74
       try clear hcz53_0
       try clear hcz53_1
       try clear hcz60_0
       try clear hcz60_1
       try clear hcz60_2
       try clear hcz60_3
       try clear hcz71_0
       try clear hcz71_1
       try clear hcz71_2
       try clear hcz71_3
       try clear hcz75_0
       try clear hcz75_1
       try clear hcz75_2
       try clear hcz75_3
       try clear hfz53_0
       try clear hfz53_1
       try clear hfz60_0
       try clear hfz60_1
       try clear hfz60_2
       try clear hfz60_3
       try clear hfz71_0
       try clear hfz71_1
       try clear hfz71_2
       try clear hfz71_3
       try clear hfz75_0
       try clear hfz75_1
       try clear hfz75_2
       try clear hfz75_3
       obtain⟨kq,x6_25,rfl,HA,HJ25,HO_541003,HO_556000,HO_556001,HO_566003,BK522,BK523,BK540,BK555,BK565,HB⟩:=hcut
       cases kq with
       |zero=>exact absurd HA.out (by simp[newellaw12_FlashWhole.j1])
       |succ kj25=>
        have H:=HA.out
        clear HA
        simp only[newellaw12_FlashWhole.j1] at H
        obtain rfl:=Option.some.inj H
        go_wp2
        go_ret
        exact⟨rfl,HB.out⟩
     ·replace c25:=Bool.eq_false_iff.mpr c25
      subst c25
      have H1:((newellaw12_awake.f kj3).bind fun t568=>(if t568=true then (if t564=t539 then (if t564=0 then ((flash_Same.f t557 t558 t559 t560 t532 t533 t534 t535).bind fun t569=>(newellaw12_FlashWhole.j2 kj3 t569)) else (newellaw12_FlashWhole.j2 kj3 true)) else (none)) else (none)))=some r:=by rw[if_neg (show ¬ (false=true) by decide)] at H;exact H
      clear H
      have H:=H1
      clear H1
      have HC77:=Aside0.mk H
      clear H
      have hnb78:=NB522_523.out
      have hnc78:=NB523_522.out
      have hcz79_0:wc.cell? ⟨gb522,0,none⟩=some (.slice A0_0 l0_0.length c0_0):=(Qb BK522.out 0).trans rfl
      have hcz79_1:wc.cell? ⟨gb522,1,none⟩=some (.slice A0_1 l0_1.length c0_1):=(Qb BK522.out 1).trans rfl
      have hfz79_0:=Qe BK522.out 0
      have hfz79_1:=Qe BK522.out 1
      try go_wp2_with (first|((with_reducible refine Q0 (f:=12) rfl ?_);refine Zj (some 28) rfl rfl Tryd.func12 kr rfl #[.agg #[.slice A0_0 l0_0.length c0_0,.slice A0_1 l0_1.length c0_1]] rfl (by simp only[List.map_toArray,List.map_cons,List.map_nil] <;> rfl) ?_;(with_reducible refine(newellaw12_Own.calls _ _ l0_0 _ _ l0_1 t526 t529 _ ?side1 ?side2 ?side3 ?side4 A19.out).mono ?_);(case side1=>exact(Kd.Q1 HR0_0.out HB.out));(case side2=>exact HC0_0.out);(case side3=>exact(Kd.Q1 HR0_1.out HB.out));(case side4=>exact HC0_1.out);rintro e w80 ⟨v527,v530,rfl,ho0,ho1,hb⟩;refine⟨_,rfl, ?_⟩;have HO528:=Aside0.mk (Kd.Q2 ho0 (Qm HB.out));have HO531:=Aside0.mk (Kd.Q2 ho1 (Qm HB.out));replace BK522:=sBk BK522 hb;replace BK523:=sBk BK523 hb;replace HB:=sHb hb;(try clear hb);(try clear hb2);(try clear hk);(try clear hi);(try clear ho0);(try clear ho1);obtain⟨Ao81,co81,eo81⟩:=Kd.Q7 HO528.out;subst eo81;obtain⟨Ao82,co82,eo82⟩:=Kd.Q7 HO531.out;subst eo82)|((with_reducible refine Q0 (f:=14) rfl ?_);refine Zj (some 29) rfl rfl Tryd.func14 kr rfl #[.agg #[.slice Ao81 t526.length co81,.slice Ao82 t529.length co82]] rfl (by simp only[List.map_toArray,List.map_cons,List.map_nil] <;> rfl) ?_;(with_reducible refine(flash_Recover.calls kj3 _ _ t526 _ _ t529 t532 t533 t534 t535 t538 t539 _ ?side1 ?side2 ?side3 ?side4 A20.out (by first|exact HTAB.out|((repeat(first|exact HTAB.out|(with_reducible refine Laid.Zc ?_ _)|(with_reducible refine Laid.Zb ?_ _)|(with_reducible refine Laid.Zf ?_)));done)|(refine Laid.Q6 HTAB.out ?_;(repeat(first|(with_reducible first|exact HB.out|apply Qc|apply Qa|apply Qd)|exact HB.out|(refine Qh ?_ (Aside0.out (by assumption)))))))).mono ?_);(case side1=>exact(Kd.Qx HO528.out).2.2);(case side2=>exact(Kd.Qx HO528.out).2.1);(case side3=>exact(Kd.Qx HO531.out).2.2);(case side4=>exact(Kd.Qx HO531.out).2.1);rintro e w83 ⟨v536,rfl,ho0,hb⟩;refine⟨_,rfl, ?_⟩;have HO537:=Aside0.mk (Kd.Q2 (Kd.Qp (Kd.Qp ho0 (Kd.Q4 HO528.out)) (Kd.Q4 HO531.out)) (Qm HB.out));replace HO528:=Aside0.mk (Kd.Q8 HO528.out (Kd.Qq ho0) hb);replace HO531:=Aside0.mk (Kd.Q8 HO531.out (Kd.Qq ho0) hb);replace BK522:=sBk BK522 hb;replace BK523:=sBk BK523 hb;replace HB:=sHb hb;(try clear hb);(try clear hb2);(try clear hk);(try clear hi);(try clear ho0))|((with_reducible refine Q5 (N:=7) rfl ?_);(try(refine Zm (by rfl) ?_;dsimp only));refine Q3 ?hg (N:=7) ?hd (cs:=#[.int .i64 0,.int .i64 0,.int .i64 0,.slice none 0 0]) (t:=26) ?hr ?_;(case hd=>rfl);(case hg=>rfl);(case hr=>go_simp <;> rfl);intro gb540 hg w84 hbox hb;have BK540:=Aside0.mk hbox;have GW540:=sGe hg;have GE540:=sGe hg;have NB522_540:=sNl BK522 hg;have NB540_522:=sNg BK522 hg;have NB523_540:=sNl BK523 hg;have NB540_523:=sNg BK523 hg;replace HO528:=sRb HO528 hb;replace HO531:=sRb HO531 hb;replace HO537:=sRb HO537 hb;replace BK522:=sBk BK522 hb;replace BK523:=sBk BK523 hb;replace HB:=sHb hb;clear hb hbox hg;have hnb85:=NB540_522.out;have hnc85:=NB522_540.out;have hnb86:=NB540_523.out;have hnc86:=NB523_540.out;have hcz87_0:w84.cell? ⟨gb540,0,none⟩=some (.int .i64 0):=(Qb BK540.out 0).trans rfl;have hcz87_1:w84.cell? ⟨gb540,1,none⟩=some (.int .i64 0):=(Qb BK540.out 1).trans rfl;have hcz87_2:w84.cell? ⟨gb540,2,none⟩=some (.int .i64 0):=(Qb BK540.out 2).trans rfl;have hcz87_3:w84.cell? ⟨gb540,3,none⟩=some (.slice none 0 0):=(Qb BK540.out 3).trans rfl;have hfz87_0:=Qe BK540.out 0;have hfz87_1:=Qe BK540.out 1;have hfz87_2:=Qe BK540.out 2;have hfz87_3:=Qe BK540.out 3;obtain⟨Ao88,co88,eo88⟩:=Kd.Q7 HO537.out;subst eo88))
      have n0_:Aside0 (Kd.R (Kd.int .u8) 5 ((((w84.setCell ⟨gb540,0,none⟩ (.int .i64 t532)).setCell ⟨gb540,1,none⟩ (.int .i64 t533)).setCell ⟨gb540,2,none⟩ (.int .i64 t534)).setCell ⟨gb540,3,none⟩ (.slice Ao88 t535.length co88)) w.heap.size (fun k_=>some k_≠(.slice Ao82 t529.length co82:Value).ownBlock∧some k_≠(.slice Ao88 t535.length co88:Value).ownBlock) (.slice Ao81 t526.length co81) t526):=⟨by(with_reducible repeat(first|apply Kd.Qk|apply Kd.Qj|apply Kd.Ql));exact Kd.Qn (Kd.Qo (Kd.Qo (Kd.Qo (Kd.Qo (Kd.Qw HO528.out BK540.out (by decide)) (fun _ hk=>hk.2) (.int .i64 t532)) (fun _ hk=>hk.2) (.int .i64 t533)) (fun _ hk=>hk.2) (.int .i64 t534)) (fun _ hk=>hk.2) _) (fun _ hk=>⟨hk.1.1,hk.1.2⟩)⟩
      have n1_:Aside0 (Kd.R (Kd.int .u8) 5 ((((w84.setCell ⟨gb540,0,none⟩ (.int .i64 t532)).setCell ⟨gb540,1,none⟩ (.int .i64 t533)).setCell ⟨gb540,2,none⟩ (.int .i64 t534)).setCell ⟨gb540,3,none⟩ (.slice Ao88 t535.length co88)) w.heap.size (fun k_=>some k_≠(.slice Ao81 t526.length co81:Value).ownBlock∧some k_≠(.slice Ao88 t535.length co88:Value).ownBlock) (.slice Ao82 t529.length co82) t529):=⟨by(with_reducible repeat(first|apply Kd.Qk|apply Kd.Qj|apply Kd.Ql));exact Kd.Qn (Kd.Qo (Kd.Qo (Kd.Qo (Kd.Qo (Kd.Qw HO531.out BK540.out (by decide)) (fun _ hk=>hk.2) (.int .i64 t532)) (fun _ hk=>hk.2) (.int .i64 t533)) (fun _ hk=>hk.2) (.int .i64 t534)) (fun _ hk=>hk.2) _) (fun _ hk=>⟨hk.1.1,hk.1.2⟩)⟩
      have n2_:Aside0 (Kd.R (Kd.int .u8) 5 ((((w84.setCell ⟨gb540,0,none⟩ (.int .i64 t532)).setCell ⟨gb540,1,none⟩ (.int .i64 t533)).setCell ⟨gb540,2,none⟩ (.int .i64 t534)).setCell ⟨gb540,3,none⟩ (.slice Ao88 t535.length co88)) w.heap.size (fun k_=>some k_≠(.slice Ao81 t526.length co81:Value).ownBlock∧some k_≠(.slice Ao82 t529.length co82:Value).ownBlock) (.slice Ao88 t535.length co88) t535):=⟨by(with_reducible repeat(first|apply Kd.Qk|apply Kd.Qj|apply Kd.Ql));exact Kd.Qn (Kd.Qo (Kd.Qo (Kd.Qo (Kd.Qo (Kd.Qw HO537.out BK540.out (by decide)) (fun _ hk=>hk.2) (.int .i64 t532)) (fun _ hk=>hk.2) (.int .i64 t533)) (fun _ hk=>hk.2) (.int .i64 t534)) (fun _ hk=>hk.2) _) (fun _ hk=>⟨hk.1.1.2,hk.1.2⟩)⟩
      have n3_:Aside0 (((((w84.setCell ⟨gb540,0,none⟩ (.int .i64 t532)).setCell ⟨gb540,1,none⟩ (.int .i64 t533)).setCell ⟨gb540,2,none⟩ (.int .i64 t534)).setCell ⟨gb540,3,none⟩ (.slice Ao88 t535.length co88)).heap[gb522]?=some (.cells #[.slice A0_0 l0_0.length c0_0,.slice A0_1 l0_1.length c0_1] 24 (0,0))):=⟨bka BK522⟩
      have n4_:Aside0 (((((w84.setCell ⟨gb540,0,none⟩ (.int .i64 t532)).setCell ⟨gb540,1,none⟩ (.int .i64 t533)).setCell ⟨gb540,2,none⟩ (.int .i64 t534)).setCell ⟨gb540,3,none⟩ (.slice Ao88 t535.length co88)).heap[gb523]?=some (.cells #[.int .i64 a1_0,.int .i64 a1_1,.int .i64 a1_2,.slice A1_3 l1_3.length c1_3] 26 (0,0))):=⟨bka BK523⟩
      have n5_:Aside0 (((((w84.setCell ⟨gb540,0,none⟩ (.int .i64 t532)).setCell ⟨gb540,1,none⟩ (.int .i64 t533)).setCell ⟨gb540,2,none⟩ (.int .i64 t534)).setCell ⟨gb540,3,none⟩ (.slice Ao88 t535.length co88)).heap[gb540]?=some (.cells #[.int .i64 t532,.int .i64 t533,.int .i64 t534,.slice Ao88 t535.length co88] 26 (0,0))):=⟨by refine Qr (cs:=#[.int .i64 t532,.int .i64 t533,.int .i64 t534,.slice none 0 0]) ?_ 3 _ rfl;refine Qr (cs:=#[.int .i64 t532,.int .i64 t533,.int .i64 0,.slice none 0 0]) ?_ 2 _ rfl;refine Qr (cs:=#[.int .i64 t532,.int .i64 0,.int .i64 0,.slice none 0 0]) ?_ 1 _ rfl;refine Qr (cs:=#[.int .i64 0,.int .i64 0,.int .i64 0,.slice none 0 0]) ?_ 0 _ rfl;exact BK540.out⟩
      have n6_:Aside0 (Below w.heap.size w ((((w84.setCell ⟨gb540,0,none⟩ (.int .i64 t532)).setCell ⟨gb540,1,none⟩ (.int .i64 t533)).setCell ⟨gb540,2,none⟩ (.int .i64 t534)).setCell ⟨gb540,3,none⟩ (.slice Ao88 t535.length co88))):=⟨bel⟩
      (try clear HO528)
      (try clear HO531)
      (try clear HO537)
      (try clear BK522)
      (try clear BK523)
      (try clear BK540)
      (try clear HB)
      generalize((((w84.setCell ⟨gb540,0,none⟩ (.int .i64 t532)).setCell ⟨gb540,1,none⟩ (.int .i64 t533)).setCell ⟨gb540,2,none⟩ (.int .i64 t534)).setCell ⟨gb540,3,none⟩ (.slice Ao88 t535.length co88))=w89 at n0_ n1_ n2_ n3_ n4_ n5_ n6_ ⊢
      have HO528:=n0_
      have HO531:=n1_
      have HO537:=n2_
      have BK522:=n3_
      have BK523:=n4_
      have BK540:=n5_
      have HB:=n6_
      clear n0_ n1_ n2_ n3_ n4_ n5_ n6_
      replace HO528:=Aside0.mk (Kd.Ql HO528.out)
      replace HO531:=Aside0.mk (Kd.Ql HO531.out)
      replace HO537:=Aside0.mk (Kd.Ql HO537.out)
      replace BK522:=Aside0.mk (Qi BK522.out)
      replace BK523:=Aside0.mk (Qi BK523.out)
      replace BK540:=Aside0.mk (Qi BK540.out)
      replace HB:=Aside0.mk (Qd HB.out)
      refine Yh (n:=13) (S:=fun w'=>w'.cell? ⟨gb522,0,none⟩=some (.slice A0_0 l0_0.length c0_0)∧w'.cell? ⟨gb522,1,none⟩=some (.slice A0_1 l0_1.length c0_1)∧w'.cell? ⟨gb523,0,none⟩=some (.int .i64 a1_0)∧w'.cell? ⟨gb523,1,none⟩=some (.int .i64 a1_1)∧w'.cell? ⟨gb523,2,none⟩=some (.int .i64 a1_2)∧w'.cell? ⟨gb523,3,none⟩=some (.slice A1_3 l1_3.length c1_3)) (ds:=[]) #[false,false,false,false,false,false,false,false,false,false,false,false,false] kr rfl rfl ⟨(Qb BK522.out 0).trans rfl,(Qb BK522.out 1).trans rfl,(Qb BK523.out 0).trans rfl,(Qb BK523.out 1).trans rfl,(Qb BK523.out 2).trans rfl,(Qb BK523.out 3).trans rfl⟩ (fun hHeld=>?_);refine Xp newellaw12_FlashWhole.Ut newellaw12_FlashWhole.Gc (fun HT_ HW_=>?_)
      generalize w89.drew=w90 at HO528 HO531 HO537 BK522 BK523 BK540 HB hHeld ⊢
      refine qP 3 (some 37) (bN 13 8) HT_ ?_
      refine qT 0 (some 34) (bN 13 9) HT_ HW_ hHeld ?_
      refine qT 2 (some 36) (bN 13 13) HT_ HW_ hHeld ?_
      refine Ga (σ:=Value×Value×Value×Value×Nat) 3 (bN 13 1023) (fun s_=>[(35,.agg #[s_.1,s_.2.1]),(38,.tuple #[.agg #[s_.2.2.1,s_.2.2.2.1],.bool false,.int .i64 t554]),(10,.pointer (some ⟨s_.2.2.2.2,0,none⟩)),(33,.tuple #[.agg #[s_.2.2.1,s_.2.2.2.1],.bool false,.int .i64 t554]),(39,.agg #[s_.2.2.1,s_.2.2.2.1]),(40,.bool false),(41,.int .i64 t554)]) (fun s_ w'=>(w'.cell? ⟨gb522,0,none⟩=some (.slice A0_0 l0_0.length c0_0)∧w'.cell? ⟨gb522,1,none⟩=some (.slice A0_1 l0_1.length c0_1)∧w'.cell? ⟨gb523,0,none⟩=some (.int .i64 a1_0)∧w'.cell? ⟨gb523,1,none⟩=some (.int .i64 a1_1)∧w'.cell? ⟨gb523,2,none⟩=some (.int .i64 a1_2)∧w'.cell? ⟨gb523,3,none⟩=some (.slice A1_3 l1_3.length c1_3))∧(Kd.R (Kd.int .u8) 5 w' w.heap.size (fun k_=>some k_≠(.slice Ao82 t529.length co82:Value).ownBlock∧some k_≠(.slice Ao88 t535.length co88:Value).ownBlock∧some k_≠(s_.1:Value).ownBlock∧some k_≠(s_.2.1:Value).ownBlock∧some k_≠(s_.2.2.1:Value).ownBlock∧some k_≠(s_.2.2.2.1:Value).ownBlock) (.slice Ao81 t526.length co81) t526)∧(Kd.R (Kd.int .u8) 5 w' w.heap.size (fun k_=>some k_≠(.slice Ao81 t526.length co81:Value).ownBlock∧some k_≠(.slice Ao88 t535.length co88:Value).ownBlock∧some k_≠(s_.1:Value).ownBlock∧some k_≠(s_.2.1:Value).ownBlock∧some k_≠(s_.2.2.1:Value).ownBlock∧some k_≠(s_.2.2.2.1:Value).ownBlock) (.slice Ao82 t529.length co82) t529)∧(Kd.R (Kd.int .u8) 5 w' w.heap.size (fun k_=>some k_≠(.slice Ao81 t526.length co81:Value).ownBlock∧some k_≠(.slice Ao82 t529.length co82:Value).ownBlock∧some k_≠(s_.1:Value).ownBlock∧some k_≠(s_.2.1:Value).ownBlock∧some k_≠(s_.2.2.1:Value).ownBlock∧some k_≠(s_.2.2.2.1:Value).ownBlock) (.slice Ao88 t535.length co88) t535)∧(Kd.R (Kd.int .u8) 5 w' w.heap.size (fun k_=>some k_≠(.slice Ao81 t526.length co81:Value).ownBlock∧some k_≠(.slice Ao82 t529.length co82:Value).ownBlock∧some k_≠(.slice Ao88 t535.length co88:Value).ownBlock∧some k_≠(s_.2.1:Value).ownBlock∧some k_≠(s_.2.2.1:Value).ownBlock∧some k_≠(s_.2.2.2.1:Value).ownBlock) s_.1 t541)∧(Kd.R (Kd.int .u8) 5 w' w.heap.size (fun k_=>some k_≠(.slice Ao81 t526.length co81:Value).ownBlock∧some k_≠(.slice Ao82 t529.length co82:Value).ownBlock∧some k_≠(.slice Ao88 t535.length co88:Value).ownBlock∧some k_≠(s_.1:Value).ownBlock∧some k_≠(s_.2.2.1:Value).ownBlock∧some k_≠(s_.2.2.2.1:Value).ownBlock) s_.2.1 t544)∧(Kd.R (Kd.int .u8) 5 w' w.heap.size (fun k_=>some k_≠(.slice Ao81 t526.length co81:Value).ownBlock∧some k_≠(.slice Ao82 t529.length co82:Value).ownBlock∧some k_≠(.slice Ao88 t535.length co88:Value).ownBlock∧some k_≠(s_.1:Value).ownBlock∧some k_≠(s_.2.1:Value).ownBlock∧some k_≠(s_.2.2.2.1:Value).ownBlock) s_.2.2.1 t547)∧(Kd.R (Kd.int .u8) 5 w' w.heap.size (fun k_=>some k_≠(.slice Ao81 t526.length co81:Value).ownBlock∧some k_≠(.slice Ao82 t529.length co82:Value).ownBlock∧some k_≠(.slice Ao88 t535.length co88:Value).ownBlock∧some k_≠(s_.1:Value).ownBlock∧some k_≠(s_.2.1:Value).ownBlock∧some k_≠(s_.2.2.1:Value).ownBlock) s_.2.2.2.1 t550)∧(w'.heap[gb522]?=some (.cells #[.slice A0_0 l0_0.length c0_0,.slice A0_1 l0_1.length c0_1] 24 (0,0)))∧(w'.heap[gb523]?=some (.cells #[.int .i64 a1_0,.int .i64 a1_1,.int .i64 a1_2,.slice A1_3 l1_3.length c1_3] 26 (0,0)))∧(w'.heap[gb540]?=some (.cells #[.int .i64 t532,.int .i64 t533,.int .i64 t534,.slice Ao88 t535.length co88] 26 (0,0)))∧(w'.heap[s_.2.2.2.2]?=some (.cells #[.slice none 0 0,.slice none 0 0] 24 (0,0)))∧(w.heap.size≤s_.2.2.2.2)∧(w.heap.size≤s_.2.2.2.2)∧(gb522≠s_.2.2.2.2)∧(s_.2.2.2.2≠gb522)∧(gb523≠s_.2.2.2.2)∧(s_.2.2.2.2≠gb523)∧(gb540≠s_.2.2.2.2)∧(s_.2.2.2.2≠gb540)∧(Below w.heap.size w w')) ?_ ?_
      rotate_left
      ·intro hCont
       refine Kk (i:=1) (j:=9) (Ni:=some 35) (Nj:=some 10) (bN 13 15) (bN 13 525) rfl rfl rfl rfl (Yg HT_.out kr) (by decide) (by decide) (fun K hK=>?_) (fun K hK=>?_)
       ·skip
        refine Xz Tryd.func12 kr rfl #[.agg #[.slice A0_0 l0_0.length c0_0,.slice A0_1 l0_1.length c0_1]] (by rfl) rfl rfl (by simp only[List.map_toArray,List.map_cons,List.map_nil] <;> rfl) ?_
        with_reducible refine(newellaw12_Own.calls _ _ l0_0 _ _ l0_1 t541 t544 _ ?side1 ?side2 ?side3 ?side4 A21.out).mono ?_
        (case side1=>exact(Kd.Q1 HR0_0.out HB.out))
        (case side2=>exact HC0_0.out)
        (case side3=>exact(Kd.Q1 HR0_1.out HB.out))
        (case side4=>exact HC0_1.out)
        rintro e w91 ⟨v542,v545,rfl,ho0,ho1,hb⟩
        refine⟨_,rfl, ?_⟩
        have HO543:=Aside0.mk (Kd.Q2 (Kd.Qp (Kd.Qp (Kd.Qp ho0 (Kd.Q4 HO528.out)) (Kd.Q4 HO531.out)) (Kd.Q4 HO537.out)) (Qm HB.out))
        have HO546:=Aside0.mk (Kd.Q2 (Kd.Qp (Kd.Qp (Kd.Qp ho1 (Kd.Q4 HO528.out)) (Kd.Q4 HO531.out)) (Kd.Q4 HO537.out)) (Qm HB.out))
        replace HO528:=Aside0.mk (Kd.Qn (Kd.Qy (Kd.Qy (Kd.Zi HO528.out hb) (Kd.Qq ho0)) (Kd.Qq ho1)) (fun _ h_=>h_.1))
        replace HO531:=Aside0.mk (Kd.Qn (Kd.Qy (Kd.Qy (Kd.Zi HO531.out hb) (Kd.Qq ho0)) (Kd.Qq ho1)) (fun _ h_=>h_.1))
        replace HO537:=Aside0.mk (Kd.Qn (Kd.Qy (Kd.Qy (Kd.Zi HO537.out hb) (Kd.Qq ho0)) (Kd.Qq ho1)) (fun _ h_=>h_.1))
        replace BK522:=sBk BK522 hb
        replace BK523:=sBk BK523 hb
        replace BK540:=sBk BK540 hb
        replace HB:=sHb hb
        (try clear hb)
        (try clear hb2)
        (try clear hk)
        (try clear hi)
        (try clear ho0)
        (try clear ho1)
        obtain⟨Ao92,co92,eo92⟩:=Kd.Q7 HO543.out
        (first|subst eo92|(injection eo92 with f1_ f2_ f3_;have f4_:=f1_.symm;have f5_:=f3_.symm;clear f1_ f2_ f3_;subst f4_;subst f5_))
        obtain⟨Ao93,co93,eo93⟩:=Kd.Q7 HO546.out
        (first|subst eo93|(injection eo93 with f1_ f2_ f3_;have f4_:=f1_.symm;have f5_:=f3_.symm;clear f1_ f2_ f3_;subst f4_;subst f5_))
        refine hK.out _ _ ⟨(Qb BK522.out 0).trans rfl,(Qb BK522.out 1).trans rfl,(Qb BK523.out 0).trans rfl,(Qb BK523.out 1).trans rfl,(Qb BK523.out 2).trans rfl,(Qb BK523.out 3).trans rfl⟩ (fun hHeld=>?_)
        clear hK K
        refine qN (some 35) ?_
        refine Kk (i:=4) (j:=9) (Ni:=some 38) (Nj:=some 10) (bN 13 31) (bN 13 527) rfl rfl rfl rfl (Yg HT_.out kr) (by decide) (by decide) (fun K hK=>?_) (fun K hK=>?_)
        ·skip
         refine Xz Tryd.func11 kr rfl #[.agg #[.slice Ao92 t541.length co92,.slice Ao93 t544.length co93],.agg #[.int .i64 a1_0,.int .i64 a1_1,.int .i64 a1_2,.slice A1_3 l1_3.length c1_3],.int .i64 a2] (by rfl) rfl rfl (by simp only[List.map_toArray,List.map_cons,List.map_nil] <;> rfl) ?_
         with_reducible refine(flash_Write.calls kj3 _ _ t541 _ _ t544 a1_0 a1_1 a1_2 _ _ l1_3 a2 t547 t550 false t554 _ ?side1 ?side2 ?side3 ?side4 ?side5 ?side6 A22.out (by first|exact HTAB.out|((repeat(first|exact HTAB.out|(with_reducible refine Laid.Zc ?_ _)|(with_reducible refine Laid.Zb ?_ _)|(with_reducible refine Laid.Zf ?_)));done)|(refine Laid.Q6 HTAB.out ?_;(repeat(first|(with_reducible first|exact HB.out|apply Qc|apply Qa|apply Qd)|exact HB.out|(refine Qh ?_ (Aside0.out (by assumption)))))))).mono ?_
         (case side1=>exact(Kd.Qx HO543.out).2.2)
         (case side2=>exact(Kd.Qx HO543.out).2.1)
         (case side3=>exact(Kd.Qx HO546.out).2.2)
         (case side4=>exact(Kd.Qx HO546.out).2.1)
         (case side5=>exact(Kd.Q1 HR1_3.out HB.out))
         (case side6=>exact HC1_3.out)
         rintro e w94 ⟨v548,v551,rfl,ho0,ho1,hb⟩
         refine⟨_,rfl, ?_⟩
         have HO549:=Aside0.mk (Kd.Q2 (Kd.Qp (Kd.Qp (Kd.Qp (Kd.Qp (Kd.Qp ho0 (Kd.Q4 HO528.out)) (Kd.Q4 HO531.out)) (Kd.Q4 HO537.out)) (Kd.Q4 HO543.out)) (Kd.Q4 HO546.out)) (Qm HB.out))
         have HO552:=Aside0.mk (Kd.Q2 (Kd.Qp (Kd.Qp (Kd.Qp (Kd.Qp (Kd.Qp ho1 (Kd.Q4 HO528.out)) (Kd.Q4 HO531.out)) (Kd.Q4 HO537.out)) (Kd.Q4 HO543.out)) (Kd.Q4 HO546.out)) (Qm HB.out))
         replace HO528:=Aside0.mk (Kd.Qn (Kd.Qy (Kd.Qy (Kd.Zi HO528.out hb) (Kd.Qq ho0)) (Kd.Qq ho1)) (fun _ h_=>h_.1))
         replace HO531:=Aside0.mk (Kd.Qn (Kd.Qy (Kd.Qy (Kd.Zi HO531.out hb) (Kd.Qq ho0)) (Kd.Qq ho1)) (fun _ h_=>h_.1))
         replace HO537:=Aside0.mk (Kd.Qn (Kd.Qy (Kd.Qy (Kd.Zi HO537.out hb) (Kd.Qq ho0)) (Kd.Qq ho1)) (fun _ h_=>h_.1))
         replace HO543:=Aside0.mk (Kd.Qn (Kd.Qy (Kd.Qy (Kd.Zi HO543.out hb) (Kd.Qq ho0)) (Kd.Qq ho1)) (fun _ h_=>h_.1))
         replace HO546:=Aside0.mk (Kd.Qn (Kd.Qy (Kd.Qy (Kd.Zi HO546.out hb) (Kd.Qq ho0)) (Kd.Qq ho1)) (fun _ h_=>h_.1))
         replace BK522:=sBk BK522 hb
         replace BK523:=sBk BK523 hb
         replace BK540:=sBk BK540 hb
         replace HB:=sHb hb
         (try clear hb)
         (try clear hb2)
         (try clear hk)
         (try clear hi)
         (try clear ho0)
         (try clear ho1)
         refine hK.out _ _ ⟨(Qb BK522.out 0).trans rfl,(Qb BK522.out 1).trans rfl,(Qb BK523.out 0).trans rfl,(Qb BK523.out 1).trans rfl,(Qb BK523.out 2).trans rfl,(Qb BK523.out 3).trans rfl⟩ (fun hHeld=>?_)
         clear hK K
         refine qN (some 38) ?_
         refine qP 5 (some 33) (bN 13 63) HT_ ?_
         refine qP 6 (some 39) (bN 13 127) HT_ ?_
         refine qP 7 (some 40) (bN 13 255) HT_ ?_
         refine qP 8 (some 41) (bN 13 511) HT_ ?_
         refine Xt (i:=9) (N:=some 10) (bN 13 1023) rfl rfl (Zs HT_.out kr) (by decide) (fun K hK=>?_)
         refine Xb ?hg (N:=10) ?hd (cs:=#[.slice none 0 0,.slice none 0 0]) (t:=24) ?hr ?_;(case hd=>rfl);(case hg=>rfl);(case hr=>go_simp <;> rfl)
         intro gb555 hg w95 hbox hb
         have BK555:=Aside0.mk hbox
         have GW555:=sGe hg
         have GE555:=sGe hg
         have NB522_555:=sNl BK522 hg
         have NB555_522:=sNg BK522 hg
         have NB523_555:=sNl BK523 hg
         have NB555_523:=sNg BK523 hg
         have NB540_555:=sNl BK540 hg
         have NB555_540:=sNg BK540 hg
         replace HO528:=sRb HO528 hb
         replace HO531:=sRb HO531 hb
         replace HO537:=sRb HO537 hb
         replace HO543:=sRb HO543 hb
         replace HO546:=sRb HO546 hb
         replace HO549:=sRb HO549 hb
         replace HO552:=sRb HO552 hb
         replace BK522:=sBk BK522 hb
         replace BK523:=sBk BK523 hb
         replace BK540:=sBk BK540 hb
         replace HB:=sHb hb
         clear hb hbox hg
         refine hK.out _ _ ⟨(Qb BK522.out 0).trans rfl,(Qb BK522.out 1).trans rfl,(Qb BK523.out 0).trans rfl,(Qb BK523.out 1).trans rfl,(Qb BK523.out 2).trans rfl,(Qb BK523.out 3).trans rfl⟩ (fun hHeld=>?_)
         clear hK K
         refine qN (some 10) ?_
         exact Xq (by simp only[Z2,Act.put,qS]) (hCont (.slice Ao92 t541.length co92,.slice Ao93 t544.length co93,v548,v551,gb555) _ ⟨hHeld,(by(with_reducible repeat(first|apply Kd.Qk|apply Kd.Qj|apply Kd.Ql));exact Kd.Qn HO528.out (fun _ hk=>⟨hk.1.1.1.1.1,⟨hk.1.1.1.1.2,⟨hk.1.1.1.2,⟨hk.1.1.2,⟨hk.1.2,hk.2⟩⟩⟩⟩⟩)),(by(with_reducible repeat(first|apply Kd.Qk|apply Kd.Qj|apply Kd.Ql));exact Kd.Qn HO531.out (fun _ hk=>⟨hk.1.1.1.1.1,⟨hk.1.1.1.1.2,⟨hk.1.1.1.2,⟨hk.1.1.2,⟨hk.1.2,hk.2⟩⟩⟩⟩⟩)),(by(with_reducible repeat(first|apply Kd.Qk|apply Kd.Qj|apply Kd.Ql));exact Kd.Qn HO537.out (fun _ hk=>⟨hk.1.1.1.1.1,⟨hk.1.1.1.1.2,⟨hk.1.1.1.2,⟨hk.1.1.2,⟨hk.1.2,hk.2⟩⟩⟩⟩⟩)),(by(with_reducible repeat(first|apply Kd.Qk|apply Kd.Qj|apply Kd.Ql));exact Kd.Qn HO543.out (fun _ hk=>⟨hk.1.1.1.1.2,⟨hk.1.1.1.2,⟨hk.1.1.2,⟨hk.1.1.1.1.1,⟨hk.1.2,hk.2⟩⟩⟩⟩⟩)),(by(with_reducible repeat(first|apply Kd.Qk|apply Kd.Qj|apply Kd.Ql));exact Kd.Qn HO546.out (fun _ hk=>⟨hk.1.1.1.1.2,⟨hk.1.1.1.2,⟨hk.1.1.2,⟨hk.1.1.1.1.1,⟨hk.1.2,hk.2⟩⟩⟩⟩⟩)),(by(with_reducible repeat(first|apply Kd.Qk|apply Kd.Qj|apply Kd.Ql));exact Kd.Qn HO549.out (fun _ hk=>⟨hk.1.1.1.1.2,⟨hk.1.1.1.2,⟨hk.1.1.2,⟨hk.1.2,⟨hk.2,hk.1.1.1.1.1⟩⟩⟩⟩⟩)),(by(with_reducible repeat(first|apply Kd.Qk|apply Kd.Qj|apply Kd.Ql));exact Kd.Qn HO552.out (fun _ hk=>⟨hk.1.1.1.1.2,⟨hk.1.1.1.2,⟨hk.1.1.2,⟨hk.1.2,⟨hk.2,hk.1.1.1.1.1⟩⟩⟩⟩⟩)),BK522.out,BK523.out,BK540.out,BK555.out,GW555.out,GE555.out,NB522_555.out,NB555_522.out,NB523_555.out,NB555_523.out,NB540_555.out,NB555_540.out,HB.out⟩)
        ·skip
         refine Xb ?hg (N:=10) ?hd (cs:=#[.slice none 0 0,.slice none 0 0]) (t:=24) ?hr ?_;(case hd=>rfl);(case hg=>rfl);(case hr=>go_simp <;> rfl)
         intro gb555 hg w92 hbox hb
         have BK555:=Aside0.mk hbox
         have GW555:=sGe hg
         have GE555:=sGe hg
         have NB522_555:=sNl BK522 hg
         have NB555_522:=sNg BK522 hg
         have NB523_555:=sNl BK523 hg
         have NB555_523:=sNg BK523 hg
         have NB540_555:=sNl BK540 hg
         have NB555_540:=sNg BK540 hg
         replace HO528:=sRb HO528 hb
         replace HO531:=sRb HO531 hb
         replace HO537:=sRb HO537 hb
         replace HO543:=sRb HO543 hb
         replace HO546:=sRb HO546 hb
         replace BK522:=sBk BK522 hb
         replace BK523:=sBk BK523 hb
         replace BK540:=sBk BK540 hb
         replace HB:=sHb hb
         clear hb hbox hg
         obtain⟨Ao93,co93,eo93⟩:=Kd.Q7 HO543.out
         (first|subst eo93|(injection eo93 with f1_ f2_ f3_;have f4_:=f1_.symm;have f5_:=f3_.symm;clear f1_ f2_ f3_;subst f4_;subst f5_))
         obtain⟨Ao94,co94,eo94⟩:=Kd.Q7 HO546.out
         (first|subst eo94|(injection eo94 with f1_ f2_ f3_;have f4_:=f1_.symm;have f5_:=f3_.symm;clear f1_ f2_ f3_;subst f4_;subst f5_))
         refine hK.out _ _ ⟨(Qb BK522.out 0).trans rfl,(Qb BK522.out 1).trans rfl,(Qb BK523.out 0).trans rfl,(Qb BK523.out 1).trans rfl,(Qb BK523.out 2).trans rfl,(Qb BK523.out 3).trans rfl⟩ (fun hHeld=>?_)
         clear hK K
         refine qN (some 10) ?_
         refine Xt (i:=4) (N:=some 38) (bN 13 543) rfl rfl (Zs HT_.out kr) (by decide) (fun K hK=>?_)
         refine Xz Tryd.func11 kr rfl #[.agg #[.slice Ao93 t541.length co93,.slice Ao94 t544.length co94],.agg #[.int .i64 a1_0,.int .i64 a1_1,.int .i64 a1_2,.slice A1_3 l1_3.length c1_3],.int .i64 a2] (by rfl) rfl rfl (by simp only[List.map_toArray,List.map_cons,List.map_nil] <;> rfl) ?_
         with_reducible refine(flash_Write.calls kj3 _ _ t541 _ _ t544 a1_0 a1_1 a1_2 _ _ l1_3 a2 t547 t550 false t554 _ ?side1 ?side2 ?side3 ?side4 ?side5 ?side6 A22.out (by first|exact HTAB.out|((repeat(first|exact HTAB.out|(with_reducible refine Laid.Zc ?_ _)|(with_reducible refine Laid.Zb ?_ _)|(with_reducible refine Laid.Zf ?_)));done)|(refine Laid.Q6 HTAB.out ?_;(repeat(first|(with_reducible first|exact HB.out|apply Qc|apply Qa|apply Qd)|exact HB.out|(refine Qh ?_ (Aside0.out (by assumption)))))))).mono ?_
         (case side1=>exact(Kd.Qx HO543.out).2.2)
         (case side2=>exact(Kd.Qx HO543.out).2.1)
         (case side3=>exact(Kd.Qx HO546.out).2.2)
         (case side4=>exact(Kd.Qx HO546.out).2.1)
         (case side5=>exact(Kd.Q1 HR1_3.out HB.out))
         (case side6=>exact HC1_3.out)
         rintro e w95 ⟨v548,v551,rfl,ho0,ho1,hb⟩
         refine⟨_,rfl, ?_⟩
         have HO549:=Aside0.mk (Kd.Q2 (Kd.Qp (Kd.Qp (Kd.Qp (Kd.Qp (Kd.Qp ho0 (Kd.Q4 HO528.out)) (Kd.Q4 HO531.out)) (Kd.Q4 HO537.out)) (Kd.Q4 HO543.out)) (Kd.Q4 HO546.out)) (Qm HB.out))
         have HO552:=Aside0.mk (Kd.Q2 (Kd.Qp (Kd.Qp (Kd.Qp (Kd.Qp (Kd.Qp ho1 (Kd.Q4 HO528.out)) (Kd.Q4 HO531.out)) (Kd.Q4 HO537.out)) (Kd.Q4 HO543.out)) (Kd.Q4 HO546.out)) (Qm HB.out))
         replace HO528:=Aside0.mk (Kd.Qn (Kd.Qy (Kd.Qy (Kd.Zi HO528.out hb) (Kd.Qq ho0)) (Kd.Qq ho1)) (fun _ h_=>h_.1))
         replace HO531:=Aside0.mk (Kd.Qn (Kd.Qy (Kd.Qy (Kd.Zi HO531.out hb) (Kd.Qq ho0)) (Kd.Qq ho1)) (fun _ h_=>h_.1))
         replace HO537:=Aside0.mk (Kd.Qn (Kd.Qy (Kd.Qy (Kd.Zi HO537.out hb) (Kd.Qq ho0)) (Kd.Qq ho1)) (fun _ h_=>h_.1))
         replace HO543:=Aside0.mk (Kd.Qn (Kd.Qy (Kd.Qy (Kd.Zi HO543.out hb) (Kd.Qq ho0)) (Kd.Qq ho1)) (fun _ h_=>h_.1))
         replace HO546:=Aside0.mk (Kd.Qn (Kd.Qy (Kd.Qy (Kd.Zi HO546.out hb) (Kd.Qq ho0)) (Kd.Qq ho1)) (fun _ h_=>h_.1))
         replace BK522:=sBk BK522 hb
         replace BK523:=sBk BK523 hb
         replace BK540:=sBk BK540 hb
         replace BK555:=sBk BK555 hb
         replace HB:=sHb hb
         (try clear hb)
         (try clear hb2)
         (try clear hk)
         (try clear hi)
         (try clear ho0)
         (try clear ho1)
         refine hK.out _ _ ⟨(Qb BK522.out 0).trans rfl,(Qb BK522.out 1).trans rfl,(Qb BK523.out 0).trans rfl,(Qb BK523.out 1).trans rfl,(Qb BK523.out 2).trans rfl,(Qb BK523.out 3).trans rfl⟩ (fun hHeld=>?_)
         clear hK K
         refine qN (some 38) ?_
         refine qP 5 (some 33) (bN 13 575) HT_ ?_
         refine qP 6 (some 39) (bN 13 639) HT_ ?_
         refine qP 7 (some 40) (bN 13 767) HT_ ?_
         refine qP 8 (some 41) (bN 13 1023) HT_ ?_
         exact Xq (by simp only[Z2,Act.put,qS]) (hCont (.slice Ao93 t541.length co93,.slice Ao94 t544.length co94,v548,v551,gb555) _ ⟨hHeld,(by(with_reducible repeat(first|apply Kd.Qk|apply Kd.Qj|apply Kd.Ql));exact Kd.Qn HO528.out (fun _ hk=>⟨hk.1.1.1.1.1,⟨hk.1.1.1.1.2,⟨hk.1.1.1.2,⟨hk.1.1.2,⟨hk.1.2,hk.2⟩⟩⟩⟩⟩)),(by(with_reducible repeat(first|apply Kd.Qk|apply Kd.Qj|apply Kd.Ql));exact Kd.Qn HO531.out (fun _ hk=>⟨hk.1.1.1.1.1,⟨hk.1.1.1.1.2,⟨hk.1.1.1.2,⟨hk.1.1.2,⟨hk.1.2,hk.2⟩⟩⟩⟩⟩)),(by(with_reducible repeat(first|apply Kd.Qk|apply Kd.Qj|apply Kd.Ql));exact Kd.Qn HO537.out (fun _ hk=>⟨hk.1.1.1.1.1,⟨hk.1.1.1.1.2,⟨hk.1.1.1.2,⟨hk.1.1.2,⟨hk.1.2,hk.2⟩⟩⟩⟩⟩)),(by(with_reducible repeat(first|apply Kd.Qk|apply Kd.Qj|apply Kd.Ql));exact Kd.Qn HO543.out (fun _ hk=>⟨hk.1.1.1.1.2,⟨hk.1.1.1.2,⟨hk.1.1.2,⟨hk.1.1.1.1.1,⟨hk.1.2,hk.2⟩⟩⟩⟩⟩)),(by(with_reducible repeat(first|apply Kd.Qk|apply Kd.Qj|apply Kd.Ql));exact Kd.Qn HO546.out (fun _ hk=>⟨hk.1.1.1.1.2,⟨hk.1.1.1.2,⟨hk.1.1.2,⟨hk.1.1.1.1.1,⟨hk.1.2,hk.2⟩⟩⟩⟩⟩)),(by(with_reducible repeat(first|apply Kd.Qk|apply Kd.Qj|apply Kd.Ql));exact Kd.Qn HO549.out (fun _ hk=>⟨hk.1.1.1.1.2,⟨hk.1.1.1.2,⟨hk.1.1.2,⟨hk.1.2,⟨hk.2,hk.1.1.1.1.1⟩⟩⟩⟩⟩)),(by(with_reducible repeat(first|apply Kd.Qk|apply Kd.Qj|apply Kd.Ql));exact Kd.Qn HO552.out (fun _ hk=>⟨hk.1.1.1.1.2,⟨hk.1.1.1.2,⟨hk.1.1.2,⟨hk.1.2,⟨hk.2,hk.1.1.1.1.1⟩⟩⟩⟩⟩)),BK522.out,BK523.out,BK540.out,BK555.out,GW555.out,GE555.out,NB522_555.out,NB555_522.out,NB523_555.out,NB555_523.out,NB540_555.out,NB555_540.out,HB.out⟩)
       ·skip
        refine Xb ?hg (N:=10) ?hd (cs:=#[.slice none 0 0,.slice none 0 0]) (t:=24) ?hr ?_;(case hd=>rfl);(case hg=>rfl);(case hr=>go_simp <;> rfl)
        intro gb555 hg w91 hbox hb
        have BK555:=Aside0.mk hbox
        have GW555:=sGe hg
        have GE555:=sGe hg
        have NB522_555:=sNl BK522 hg
        have NB555_522:=sNg BK522 hg
        have NB523_555:=sNl BK523 hg
        have NB555_523:=sNg BK523 hg
        have NB540_555:=sNl BK540 hg
        have NB555_540:=sNg BK540 hg
        replace HO528:=sRb HO528 hb
        replace HO531:=sRb HO531 hb
        replace HO537:=sRb HO537 hb
        replace BK522:=sBk BK522 hb
        replace BK523:=sBk BK523 hb
        replace BK540:=sBk BK540 hb
        replace HB:=sHb hb
        clear hb hbox hg
        refine hK.out _ _ ⟨(Qb BK522.out 0).trans rfl,(Qb BK522.out 1).trans rfl,(Qb BK523.out 0).trans rfl,(Qb BK523.out 1).trans rfl,(Qb BK523.out 2).trans rfl,(Qb BK523.out 3).trans rfl⟩ (fun hHeld=>?_)
        clear hK K
        refine qN (some 10) ?_
        refine Xt (i:=1) (N:=some 35) (bN 13 527) rfl rfl (Zs HT_.out kr) (by decide) (fun K hK=>?_)
        refine Xz Tryd.func12 kr rfl #[.agg #[.slice A0_0 l0_0.length c0_0,.slice A0_1 l0_1.length c0_1]] (by rfl) rfl rfl (by simp only[List.map_toArray,List.map_cons,List.map_nil] <;> rfl) ?_
        with_reducible refine(newellaw12_Own.calls _ _ l0_0 _ _ l0_1 t541 t544 _ ?side1 ?side2 ?side3 ?side4 A21.out).mono ?_
        (case side1=>exact(Kd.Q1 HR0_0.out HB.out))
        (case side2=>exact HC0_0.out)
        (case side3=>exact(Kd.Q1 HR0_1.out HB.out))
        (case side4=>exact HC0_1.out)
        rintro e w92 ⟨v542,v545,rfl,ho0,ho1,hb⟩
        refine⟨_,rfl, ?_⟩
        have HO543:=Aside0.mk (Kd.Q2 (Kd.Qp (Kd.Qp (Kd.Qp ho0 (Kd.Q4 HO528.out)) (Kd.Q4 HO531.out)) (Kd.Q4 HO537.out)) (Qm HB.out))
        have HO546:=Aside0.mk (Kd.Q2 (Kd.Qp (Kd.Qp (Kd.Qp ho1 (Kd.Q4 HO528.out)) (Kd.Q4 HO531.out)) (Kd.Q4 HO537.out)) (Qm HB.out))
        replace HO528:=Aside0.mk (Kd.Qn (Kd.Qy (Kd.Qy (Kd.Zi HO528.out hb) (Kd.Qq ho0)) (Kd.Qq ho1)) (fun _ h_=>h_.1))
        replace HO531:=Aside0.mk (Kd.Qn (Kd.Qy (Kd.Qy (Kd.Zi HO531.out hb) (Kd.Qq ho0)) (Kd.Qq ho1)) (fun _ h_=>h_.1))
        replace HO537:=Aside0.mk (Kd.Qn (Kd.Qy (Kd.Qy (Kd.Zi HO537.out hb) (Kd.Qq ho0)) (Kd.Qq ho1)) (fun _ h_=>h_.1))
        replace BK522:=sBk BK522 hb
        replace BK523:=sBk BK523 hb
        replace BK540:=sBk BK540 hb
        replace BK555:=sBk BK555 hb
        replace HB:=sHb hb
        (try clear hb)
        (try clear hb2)
        (try clear hk)
        (try clear hi)
        (try clear ho0)
        (try clear ho1)
        obtain⟨Ao93,co93,eo93⟩:=Kd.Q7 HO543.out
        (first|subst eo93|(injection eo93 with f1_ f2_ f3_;have f4_:=f1_.symm;have f5_:=f3_.symm;clear f1_ f2_ f3_;subst f4_;subst f5_))
        obtain⟨Ao94,co94,eo94⟩:=Kd.Q7 HO546.out
        (first|subst eo94|(injection eo94 with f1_ f2_ f3_;have f4_:=f1_.symm;have f5_:=f3_.symm;clear f1_ f2_ f3_;subst f4_;subst f5_))
        refine hK.out _ _ ⟨(Qb BK522.out 0).trans rfl,(Qb BK522.out 1).trans rfl,(Qb BK523.out 0).trans rfl,(Qb BK523.out 1).trans rfl,(Qb BK523.out 2).trans rfl,(Qb BK523.out 3).trans rfl⟩ (fun hHeld=>?_)
        clear hK K
        refine qN (some 35) ?_
        refine Xt (i:=4) (N:=some 38) (bN 13 543) rfl rfl (Zs HT_.out kr) (by decide) (fun K hK=>?_)
        refine Xz Tryd.func11 kr rfl #[.agg #[.slice Ao93 t541.length co93,.slice Ao94 t544.length co94],.agg #[.int .i64 a1_0,.int .i64 a1_1,.int .i64 a1_2,.slice A1_3 l1_3.length c1_3],.int .i64 a2] (by rfl) rfl rfl (by simp only[List.map_toArray,List.map_cons,List.map_nil] <;> rfl) ?_
        with_reducible refine(flash_Write.calls kj3 _ _ t541 _ _ t544 a1_0 a1_1 a1_2 _ _ l1_3 a2 t547 t550 false t554 _ ?side1 ?side2 ?side3 ?side4 ?side5 ?side6 A22.out (by first|exact HTAB.out|((repeat(first|exact HTAB.out|(with_reducible refine Laid.Zc ?_ _)|(with_reducible refine Laid.Zb ?_ _)|(with_reducible refine Laid.Zf ?_)));done)|(refine Laid.Q6 HTAB.out ?_;(repeat(first|(with_reducible first|exact HB.out|apply Qc|apply Qa|apply Qd)|exact HB.out|(refine Qh ?_ (Aside0.out (by assumption)))))))).mono ?_
        (case side1=>exact(Kd.Qx HO543.out).2.2)
        (case side2=>exact(Kd.Qx HO543.out).2.1)
        (case side3=>exact(Kd.Qx HO546.out).2.2)
        (case side4=>exact(Kd.Qx HO546.out).2.1)
        (case side5=>exact(Kd.Q1 HR1_3.out HB.out))
        (case side6=>exact HC1_3.out)
        rintro e w95 ⟨v548,v551,rfl,ho0,ho1,hb⟩
        refine⟨_,rfl, ?_⟩
        have HO549:=Aside0.mk (Kd.Q2 (Kd.Qp (Kd.Qp (Kd.Qp (Kd.Qp (Kd.Qp ho0 (Kd.Q4 HO528.out)) (Kd.Q4 HO531.out)) (Kd.Q4 HO537.out)) (Kd.Q4 HO543.out)) (Kd.Q4 HO546.out)) (Qm HB.out))
        have HO552:=Aside0.mk (Kd.Q2 (Kd.Qp (Kd.Qp (Kd.Qp (Kd.Qp (Kd.Qp ho1 (Kd.Q4 HO528.out)) (Kd.Q4 HO531.out)) (Kd.Q4 HO537.out)) (Kd.Q4 HO543.out)) (Kd.Q4 HO546.out)) (Qm HB.out))
        replace HO528:=Aside0.mk (Kd.Qn (Kd.Qy (Kd.Qy (Kd.Zi HO528.out hb) (Kd.Qq ho0)) (Kd.Qq ho1)) (fun _ h_=>h_.1))
        replace HO531:=Aside0.mk (Kd.Qn (Kd.Qy (Kd.Qy (Kd.Zi HO531.out hb) (Kd.Qq ho0)) (Kd.Qq ho1)) (fun _ h_=>h_.1))
        replace HO537:=Aside0.mk (Kd.Qn (Kd.Qy (Kd.Qy (Kd.Zi HO537.out hb) (Kd.Qq ho0)) (Kd.Qq ho1)) (fun _ h_=>h_.1))
        replace HO543:=Aside0.mk (Kd.Qn (Kd.Qy (Kd.Qy (Kd.Zi HO543.out hb) (Kd.Qq ho0)) (Kd.Qq ho1)) (fun _ h_=>h_.1))
        replace HO546:=Aside0.mk (Kd.Qn (Kd.Qy (Kd.Qy (Kd.Zi HO546.out hb) (Kd.Qq ho0)) (Kd.Qq ho1)) (fun _ h_=>h_.1))
        replace BK522:=sBk BK522 hb
        replace BK523:=sBk BK523 hb
        replace BK540:=sBk BK540 hb
        replace BK555:=sBk BK555 hb
        replace HB:=sHb hb
        (try clear hb)
        (try clear hb2)
        (try clear hk)
        (try clear hi)
        (try clear ho0)
        (try clear ho1)
        refine hK.out _ _ ⟨(Qb BK522.out 0).trans rfl,(Qb BK522.out 1).trans rfl,(Qb BK523.out 0).trans rfl,(Qb BK523.out 1).trans rfl,(Qb BK523.out 2).trans rfl,(Qb BK523.out 3).trans rfl⟩ (fun hHeld=>?_)
        clear hK K
        refine qN (some 38) ?_
        refine qP 5 (some 33) (bN 13 575) HT_ ?_
        refine qP 6 (some 39) (bN 13 639) HT_ ?_
        refine qP 7 (some 40) (bN 13 767) HT_ ?_
        refine qP 8 (some 41) (bN 13 1023) HT_ ?_
        exact Xq (by simp only[Z2,Act.put,qS]) (hCont (.slice Ao93 t541.length co93,.slice Ao94 t544.length co94,v548,v551,gb555) _ ⟨hHeld,(by(with_reducible repeat(first|apply Kd.Qk|apply Kd.Qj|apply Kd.Ql));exact Kd.Qn HO528.out (fun _ hk=>⟨hk.1.1.1.1.1,⟨hk.1.1.1.1.2,⟨hk.1.1.1.2,⟨hk.1.1.2,⟨hk.1.2,hk.2⟩⟩⟩⟩⟩)),(by(with_reducible repeat(first|apply Kd.Qk|apply Kd.Qj|apply Kd.Ql));exact Kd.Qn HO531.out (fun _ hk=>⟨hk.1.1.1.1.1,⟨hk.1.1.1.1.2,⟨hk.1.1.1.2,⟨hk.1.1.2,⟨hk.1.2,hk.2⟩⟩⟩⟩⟩)),(by(with_reducible repeat(first|apply Kd.Qk|apply Kd.Qj|apply Kd.Ql));exact Kd.Qn HO537.out (fun _ hk=>⟨hk.1.1.1.1.1,⟨hk.1.1.1.1.2,⟨hk.1.1.1.2,⟨hk.1.1.2,⟨hk.1.2,hk.2⟩⟩⟩⟩⟩)),(by(with_reducible repeat(first|apply Kd.Qk|apply Kd.Qj|apply Kd.Ql));exact Kd.Qn HO543.out (fun _ hk=>⟨hk.1.1.1.1.2,⟨hk.1.1.1.2,⟨hk.1.1.2,⟨hk.1.1.1.1.1,⟨hk.1.2,hk.2⟩⟩⟩⟩⟩)),(by(with_reducible repeat(first|apply Kd.Qk|apply Kd.Qj|apply Kd.Ql));exact Kd.Qn HO546.out (fun _ hk=>⟨hk.1.1.1.1.2,⟨hk.1.1.1.2,⟨hk.1.1.2,⟨hk.1.1.1.1.1,⟨hk.1.2,hk.2⟩⟩⟩⟩⟩)),(by(with_reducible repeat(first|apply Kd.Qk|apply Kd.Qj|apply Kd.Ql));exact Kd.Qn HO549.out (fun _ hk=>⟨hk.1.1.1.1.2,⟨hk.1.1.1.2,⟨hk.1.1.2,⟨hk.1.2,⟨hk.2,hk.1.1.1.1.1⟩⟩⟩⟩⟩)),(by(with_reducible repeat(first|apply Kd.Qk|apply Kd.Qj|apply Kd.Ql));exact Kd.Qn HO552.out (fun _ hk=>⟨hk.1.1.1.1.2,⟨hk.1.1.1.2,⟨hk.1.1.2,⟨hk.1.2,⟨hk.2,hk.1.1.1.1.1⟩⟩⟩⟩⟩)),BK522.out,BK523.out,BK540.out,BK555.out,GW555.out,GE555.out,NB522_555.out,NB555_522.out,NB523_555.out,NB555_523.out,NB540_555.out,NB555_540.out,HB.out⟩)
      rintro⟨v542,v545,v548,v551,gb555⟩ w96 ⟨hS_,h0_,h1_,h2_,h3_,h4_,h5_,h6_,h7_,h8_,h9_,h10_,h11_,h12_,h13_,h14_,h15_,h16_,h17_,h18_,h19_⟩
      have n0_:Aside0 (Kd.R (Kd.int .u8) 5 w96 w.heap.size (fun k_=>some k_≠(.slice Ao82 t529.length co82:Value).ownBlock∧some k_≠(.slice Ao88 t535.length co88:Value).ownBlock∧some k_≠(v542:Value).ownBlock∧some k_≠(v545:Value).ownBlock∧some k_≠(v548:Value).ownBlock∧some k_≠(v551:Value).ownBlock) (.slice Ao81 t526.length co81) t526):=⟨h0_⟩
      have n1_:Aside0 (Kd.R (Kd.int .u8) 5 w96 w.heap.size (fun k_=>some k_≠(.slice Ao81 t526.length co81:Value).ownBlock∧some k_≠(.slice Ao88 t535.length co88:Value).ownBlock∧some k_≠(v542:Value).ownBlock∧some k_≠(v545:Value).ownBlock∧some k_≠(v548:Value).ownBlock∧some k_≠(v551:Value).ownBlock) (.slice Ao82 t529.length co82) t529):=⟨h1_⟩
      have n2_:Aside0 (Kd.R (Kd.int .u8) 5 w96 w.heap.size (fun k_=>some k_≠(.slice Ao81 t526.length co81:Value).ownBlock∧some k_≠(.slice Ao82 t529.length co82:Value).ownBlock∧some k_≠(v542:Value).ownBlock∧some k_≠(v545:Value).ownBlock∧some k_≠(v548:Value).ownBlock∧some k_≠(v551:Value).ownBlock) (.slice Ao88 t535.length co88) t535):=⟨h2_⟩
      have n3_:Aside0 (Kd.R (Kd.int .u8) 5 w96 w.heap.size (fun k_=>some k_≠(.slice Ao81 t526.length co81:Value).ownBlock∧some k_≠(.slice Ao82 t529.length co82:Value).ownBlock∧some k_≠(.slice Ao88 t535.length co88:Value).ownBlock∧some k_≠(v545:Value).ownBlock∧some k_≠(v548:Value).ownBlock∧some k_≠(v551:Value).ownBlock) v542 t541):=⟨h3_⟩
      have n4_:Aside0 (Kd.R (Kd.int .u8) 5 w96 w.heap.size (fun k_=>some k_≠(.slice Ao81 t526.length co81:Value).ownBlock∧some k_≠(.slice Ao82 t529.length co82:Value).ownBlock∧some k_≠(.slice Ao88 t535.length co88:Value).ownBlock∧some k_≠(v542:Value).ownBlock∧some k_≠(v548:Value).ownBlock∧some k_≠(v551:Value).ownBlock) v545 t544):=⟨h4_⟩
      have n5_:Aside0 (Kd.R (Kd.int .u8) 5 w96 w.heap.size (fun k_=>some k_≠(.slice Ao81 t526.length co81:Value).ownBlock∧some k_≠(.slice Ao82 t529.length co82:Value).ownBlock∧some k_≠(.slice Ao88 t535.length co88:Value).ownBlock∧some k_≠(v542:Value).ownBlock∧some k_≠(v545:Value).ownBlock∧some k_≠(v551:Value).ownBlock) v548 t547):=⟨h5_⟩
      have n6_:Aside0 (Kd.R (Kd.int .u8) 5 w96 w.heap.size (fun k_=>some k_≠(.slice Ao81 t526.length co81:Value).ownBlock∧some k_≠(.slice Ao82 t529.length co82:Value).ownBlock∧some k_≠(.slice Ao88 t535.length co88:Value).ownBlock∧some k_≠(v542:Value).ownBlock∧some k_≠(v545:Value).ownBlock∧some k_≠(v548:Value).ownBlock) v551 t550):=⟨h6_⟩
      have n7_:Aside0 (w96.heap[gb522]?=some (.cells #[.slice A0_0 l0_0.length c0_0,.slice A0_1 l0_1.length c0_1] 24 (0,0))):=⟨h7_⟩
      have n8_:Aside0 (w96.heap[gb523]?=some (.cells #[.int .i64 a1_0,.int .i64 a1_1,.int .i64 a1_2,.slice A1_3 l1_3.length c1_3] 26 (0,0))):=⟨h8_⟩
      have n9_:Aside0 (w96.heap[gb540]?=some (.cells #[.int .i64 t532,.int .i64 t533,.int .i64 t534,.slice Ao88 t535.length co88] 26 (0,0))):=⟨h9_⟩
      have n10_:Aside0 (w96.heap[gb555]?=some (.cells #[.slice none 0 0,.slice none 0 0] 24 (0,0))):=⟨h10_⟩
      have n11_:Aside0 (w.heap.size≤gb555):=⟨h11_⟩
      have n12_:Aside0 (w.heap.size≤gb555):=⟨h12_⟩
      have n13_:Aside0 (gb522≠gb555):=⟨h13_⟩
      have n14_:Aside0 (gb555≠gb522):=⟨h14_⟩
      have n15_:Aside0 (gb523≠gb555):=⟨h15_⟩
      have n16_:Aside0 (gb555≠gb523):=⟨h16_⟩
      have n17_:Aside0 (gb540≠gb555):=⟨h17_⟩
      have n18_:Aside0 (gb555≠gb540):=⟨h18_⟩
      have n19_:Aside0 (Below w.heap.size w w96):=⟨h19_⟩
      clear HO528
      clear HO531
      clear HO537
      clear BK522
      clear BK523
      clear BK540
      clear HB
      clear h0_ h1_ h2_ h3_ h4_ h5_ h6_ h7_ h8_ h9_ h10_ h11_ h12_ h13_ h14_ h15_ h16_ h17_ h18_ h19_
      have HO528:=n0_
      have HO531:=n1_
      have HO537:=n2_
      have HO543:=n3_
      have HO546:=n4_
      have HO549:=n5_
      have HO552:=n6_
      have BK522:=n7_
      have BK523:=n8_
      have BK540:=n9_
      have BK555:=n10_
      have GW555:=n11_
      have GE555:=n12_
      have NB522_555:=n13_
      have NB555_522:=n14_
      have NB523_555:=n15_
      have NB555_523:=n16_
      have NB540_555:=n17_
      have NB555_540:=n18_
      have HB:=n19_
      clear n0_ n1_ n2_ n3_ n4_ n5_ n6_ n7_ n8_ n9_ n10_ n11_ n12_ n13_ n14_ n15_ n16_ n17_ n18_ n19_
      have hHeld:w96.cell? ⟨gb522,0,none⟩=some (.slice A0_0 l0_0.length c0_0)∧w96.cell? ⟨gb522,1,none⟩=some (.slice A0_1 l0_1.length c0_1)∧w96.cell? ⟨gb523,0,none⟩=some (.int .i64 a1_0)∧w96.cell? ⟨gb523,1,none⟩=some (.int .i64 a1_1)∧w96.cell? ⟨gb523,2,none⟩=some (.int .i64 a1_2)∧w96.cell? ⟨gb523,3,none⟩=some (.slice A1_3 l1_3.length c1_3):=hS_
      obtain⟨Ao97,co97,eo97⟩:=Kd.Q7 HO549.out
      (first|subst eo97|(injection eo97 with f1_ f2_ f3_;have f4_:=f1_.symm;have f5_:=f3_.symm;clear f1_ f2_ f3_;subst f4_;subst f5_))
      obtain⟨Ao99,co99,eo99⟩:=Kd.Q7 HO552.out
      (first|subst eo99|(injection eo99 with f1_ f2_ f3_;have f4_:=f1_.symm;have f5_:=f3_.symm;clear f1_ f2_ f3_;subst f4_;subst f5_))
      refine Xq (a':=?_) ?_ ?_
      rotate_left
      ·simp only[Z2,Act.put,qS]
       rfl
      refine Xt (i:=10) (N:=none) (bN 13 2047) rfl rfl (Zs HT_.out kr) (by decide) (fun K hK=>?_)
      have hs98:w96.cell? ⟨gb555,0,none⟩=some (.slice none 0 0):=(Qb BK555.out 0).trans rfl
      have hfs98:=Qe BK555.out 0
      have hns98_0:=NB522_555.out
      have hns98_1:=NB523_555.out
      have hns98_2:=NB540_555.out
      have hms98_0:=NB555_522.out
      have hms98_1:=NB555_523.out
      have hms98_2:=NB555_540.out
      have hs100:w96.cell? ⟨gb555,1,none⟩=some (.slice none 0 0):=(Qb BK555.out 1).trans rfl
      have hfs100:=Qe BK555.out 1
      have hns100_0:=NB522_555.out
      have hns100_1:=NB523_555.out
      have hns100_2:=NB540_555.out
      have hms100_0:=NB555_522.out
      have hms100_1:=NB555_523.out
      have hms100_2:=NB555_540.out
      refine Jz (w1:=?_) (by rfl) rfl ?_ ?_
      rotate_left
      ·go_simp
       rfl
      refine hK.out _ _ ⟨((cell_far (p:=⟨gb555,_,none⟩) NB522_555.out _).trans (((cell_far (p:=⟨gb555,_,none⟩) NB522_555.out _).trans (hHeld.1)))),((cell_far (p:=⟨gb555,_,none⟩) NB522_555.out _).trans (((cell_far (p:=⟨gb555,_,none⟩) NB522_555.out _).trans (hHeld.2.1)))),((cell_far (p:=⟨gb555,_,none⟩) NB523_555.out _).trans (((cell_far (p:=⟨gb555,_,none⟩) NB523_555.out _).trans (hHeld.2.2.1)))),((cell_far (p:=⟨gb555,_,none⟩) NB523_555.out _).trans (((cell_far (p:=⟨gb555,_,none⟩) NB523_555.out _).trans (hHeld.2.2.2.1)))),((cell_far (p:=⟨gb555,_,none⟩) NB523_555.out _).trans (((cell_far (p:=⟨gb555,_,none⟩) NB523_555.out _).trans (hHeld.2.2.2.2.1)))),((cell_far (p:=⟨gb555,_,none⟩) NB523_555.out _).trans (((cell_far (p:=⟨gb555,_,none⟩) NB523_555.out _).trans (hHeld.2.2.2.2.2))))⟩ (fun hHeld=>?_)
      clear hK K
      refine qP 11 (some 11) (bN 13 4095) HT_ ?_
      refine qP 12 (some 12) (bN 13 8191) HT_ ?_
      refine Y1 (X7 HT_.out kr) ?_
      have hnb101:=NB555_522.out
      have hnc101:=NB522_555.out
      have hnb102:=NB555_523.out
      have hnc102:=NB523_555.out
      have hnb103:=NB555_540.out
      have hnc103:=NB540_555.out
      have hcz104_0:w96.cell? ⟨gb555,0,none⟩=some (.slice none 0 0):=(Qb BK555.out 0).trans rfl
      have hcz104_1:w96.cell? ⟨gb555,1,none⟩=some (.slice none 0 0):=(Qb BK555.out 1).trans rfl
      have hfz104_0:=Qe BK555.out 0
      have hfz104_1:=Qe BK555.out 1
      go_upto_region 10 with(first|((with_reducible refine Q0 (f:=14) rfl ?_);refine Zj (some 51) rfl rfl Tryd.func14 kr rfl #[.agg #[.slice Ao97 t547.length co97,.slice Ao99 t550.length co99]] rfl (by simp only[List.map_toArray,List.map_cons,List.map_nil] <;> rfl) ?_;(with_reducible refine(flash_Recover.calls kj3 _ _ t547 _ _ t550 t557 t558 t559 t560 t563 t564 _ ?side1 ?side2 ?side3 ?side4 A24.out (by first|exact HTAB.out|((repeat(first|exact HTAB.out|(with_reducible refine Laid.Zc ?_ _)|(with_reducible refine Laid.Zb ?_ _)|(with_reducible refine Laid.Zf ?_)));done)|(refine Laid.Q6 HTAB.out ?_;(repeat(first|(with_reducible first|exact HB.out|apply Qc|apply Qa|apply Qd)|exact HB.out|(refine Qh ?_ (Aside0.out (by assumption)))))))).mono ?_);(case side1=>refine(Kd.Qx (e:=5) (base:=w.heap.size) (ok:=fun k_=>(some k_≠(.slice Ao81 t526.length co81:Value).ownBlock∧(some k_≠(.slice Ao82 t529.length co82:Value).ownBlock∧(some k_≠(.slice Ao88 t535.length co88:Value).ownBlock∧(some k_≠(v542:Value).ownBlock∧(some k_≠(v545:Value).ownBlock∧some k_≠(.slice Ao99 t550.length co99:Value).ownBlock)))))) (n:=t547.length) (c:=co97) ?_).2.2;exact(by(with_reducible repeat(first|apply Kd.Qk|apply Kd.Qj|apply Kd.Ql));exact(Kd.Qn (Kd.Qo (Kd.Qo (Kd.Qw HO549.out BK555.out (by decide)) (fun _ hk=>hk.2) _) (fun _ hk=>hk.2) _) (fun _ h_=>h_.1))));(case side2=>exact(Kd.Qx HO549.out).2.1);(case side3=>refine(Kd.Qx (e:=5) (base:=w.heap.size) (ok:=fun k_=>(some k_≠(.slice Ao81 t526.length co81:Value).ownBlock∧(some k_≠(.slice Ao82 t529.length co82:Value).ownBlock∧(some k_≠(.slice Ao88 t535.length co88:Value).ownBlock∧(some k_≠(v542:Value).ownBlock∧(some k_≠(v545:Value).ownBlock∧some k_≠(.slice Ao97 t547.length co97:Value).ownBlock)))))) (n:=t550.length) (c:=co99) ?_).2.2;exact(by(with_reducible repeat(first|apply Kd.Qk|apply Kd.Qj|apply Kd.Ql));exact(Kd.Qn (Kd.Qo (Kd.Qo (Kd.Qw HO552.out BK555.out (by decide)) (fun _ hk=>hk.2) _) (fun _ hk=>hk.2) _) (fun _ h_=>h_.1))));(case side4=>exact(Kd.Qx HO552.out).2.1);rintro e w105 ⟨v561,rfl,ho0,hb⟩;refine⟨_,rfl, ?_⟩;have HO562:=Aside0.mk (Kd.Q2 (Kd.Qp (Kd.Qp (Kd.Qp (Kd.Qp (Kd.Qp (Kd.Qp (Kd.Qp ho0 (Kd.Q4 (by(with_reducible repeat(first|apply Kd.Qk|apply Kd.Qj|apply Kd.Ql));exact(Kd.Qn (Kd.Qo (Kd.Qo (Kd.Qw HO528.out BK555.out (by decide)) (fun _ hk=>hk.2) _) (fun _ hk=>hk.2) _) (fun _ h_=>h_.1))))) (Kd.Q4 (by(with_reducible repeat(first|apply Kd.Qk|apply Kd.Qj|apply Kd.Ql));exact(Kd.Qn (Kd.Qo (Kd.Qo (Kd.Qw HO531.out BK555.out (by decide)) (fun _ hk=>hk.2) _) (fun _ hk=>hk.2) _) (fun _ h_=>h_.1))))) (Kd.Q4 (by(with_reducible repeat(first|apply Kd.Qk|apply Kd.Qj|apply Kd.Ql));exact(Kd.Qn (Kd.Qo (Kd.Qo (Kd.Qw HO537.out BK555.out (by decide)) (fun _ hk=>hk.2) _) (fun _ hk=>hk.2) _) (fun _ h_=>h_.1))))) (Kd.Q4 (by(with_reducible repeat(first|apply Kd.Qk|apply Kd.Qj|apply Kd.Ql));exact(Kd.Qn (Kd.Qo (Kd.Qo (Kd.Qw HO543.out BK555.out (by decide)) (fun _ hk=>hk.2) _) (fun _ hk=>hk.2) _) (fun _ h_=>h_.1))))) (Kd.Q4 (by(with_reducible repeat(first|apply Kd.Qk|apply Kd.Qj|apply Kd.Ql));exact(Kd.Qn (Kd.Qo (Kd.Qo (Kd.Qw HO546.out BK555.out (by decide)) (fun _ hk=>hk.2) _) (fun _ hk=>hk.2) _) (fun _ h_=>h_.1))))) (Kd.Q4 (by(with_reducible repeat(first|apply Kd.Qk|apply Kd.Qj|apply Kd.Ql));exact(Kd.Qn (Kd.Qo (Kd.Qo (Kd.Qw HO549.out BK555.out (by decide)) (fun _ hk=>hk.2) _) (fun _ hk=>hk.2) _) (fun _ h_=>h_.1))))) (Kd.Q4 (by(with_reducible repeat(first|apply Kd.Qk|apply Kd.Qj|apply Kd.Ql));exact(Kd.Qn (Kd.Qo (Kd.Qo (Kd.Qw HO552.out BK555.out (by decide)) (fun _ hk=>hk.2) _) (fun _ hk=>hk.2) _) (fun _ h_=>h_.1))))) (Qm bel));replace HO528:=Aside0.mk (Kd.Q8 (by(with_reducible repeat(first|apply Kd.Qk|apply Kd.Qj|apply Kd.Ql));exact(Kd.Qn (Kd.Qo (Kd.Qo (Kd.Qw HO528.out BK555.out (by decide)) (fun _ hk=>hk.2) _) (fun _ hk=>hk.2) _) (fun _ h_=>h_.1))) (Kd.Qq ho0) hb);replace HO531:=Aside0.mk (Kd.Q8 (by(with_reducible repeat(first|apply Kd.Qk|apply Kd.Qj|apply Kd.Ql));exact(Kd.Qn (Kd.Qo (Kd.Qo (Kd.Qw HO531.out BK555.out (by decide)) (fun _ hk=>hk.2) _) (fun _ hk=>hk.2) _) (fun _ h_=>h_.1))) (Kd.Qq ho0) hb);replace HO537:=Aside0.mk (Kd.Q8 (by(with_reducible repeat(first|apply Kd.Qk|apply Kd.Qj|apply Kd.Ql));exact(Kd.Qn (Kd.Qo (Kd.Qo (Kd.Qw HO537.out BK555.out (by decide)) (fun _ hk=>hk.2) _) (fun _ hk=>hk.2) _) (fun _ h_=>h_.1))) (Kd.Qq ho0) hb);replace HO543:=Aside0.mk (Kd.Q8 (by(with_reducible repeat(first|apply Kd.Qk|apply Kd.Qj|apply Kd.Ql));exact(Kd.Qn (Kd.Qo (Kd.Qo (Kd.Qw HO543.out BK555.out (by decide)) (fun _ hk=>hk.2) _) (fun _ hk=>hk.2) _) (fun _ h_=>h_.1))) (Kd.Qq ho0) hb);replace HO546:=Aside0.mk (Kd.Q8 (by(with_reducible repeat(first|apply Kd.Qk|apply Kd.Qj|apply Kd.Ql));exact(Kd.Qn (Kd.Qo (Kd.Qo (Kd.Qw HO546.out BK555.out (by decide)) (fun _ hk=>hk.2) _) (fun _ hk=>hk.2) _) (fun _ h_=>h_.1))) (Kd.Qq ho0) hb);replace HO549:=Aside0.mk (Kd.Q8 (by(with_reducible repeat(first|apply Kd.Qk|apply Kd.Qj|apply Kd.Ql));exact(Kd.Qn (Kd.Qo (Kd.Qo (Kd.Qw HO549.out BK555.out (by decide)) (fun _ hk=>hk.2) _) (fun _ hk=>hk.2) _) (fun _ h_=>h_.1))) (Kd.Qq ho0) hb);replace HO552:=Aside0.mk (Kd.Q8 (by(with_reducible repeat(first|apply Kd.Qk|apply Kd.Qj|apply Kd.Ql));exact(Kd.Qn (Kd.Qo (Kd.Qo (Kd.Qw HO552.out BK555.out (by decide)) (fun _ hk=>hk.2) _) (fun _ hk=>hk.2) _) (fun _ h_=>h_.1))) (Kd.Qq ho0) hb);replace BK522:=sBk BK522 hb;replace BK523:=sBk BK523 hb;replace BK540:=sBk BK540 hb;replace BK555:=Aside0.mk (Qu (g:=gb555) (o:=.cells #[.slice Ao97 t547.length co97,.slice Ao99 t550.length co99] 24 (0,0)) (by(with_reducible repeat(first|refine Qf ?_ _|refine Qi ?_|refine Qg ?_ _));refine Qr (cs:=#[.slice Ao97 t547.length co97,.slice none 0 0]) ?_ 1 _ rfl;(with_reducible repeat(first|refine Qf ?_ _|refine Qi ?_|refine Qg ?_ _));refine Qr (cs:=#[.slice none 0 0,.slice none 0 0]) ?_ 0 _ rfl;(with_reducible repeat(first|refine Qf ?_ _|refine Qi ?_|refine Qg ?_ _));exact BK555.out) hb);replace HB:=sHb hb;(try clear hb);(try clear hb2);(try clear hk);(try clear hi);(try clear ho0))|((with_reducible refine Q5 (N:=13) rfl ?_);(try(refine Zm (by rfl) ?_;dsimp only));refine Q3 ?hg (N:=13) ?hd (cs:=#[.int .i64 0,.int .i64 0,.int .i64 0,.slice none 0 0]) (t:=26) ?hr ?_;(case hd=>rfl);(case hg=>rfl);(case hr=>go_simp <;> rfl);intro gb565 hg w106 hbox hb;have BK565:=Aside0.mk hbox;have GW565:=sGe hg;have GE565:=sGe hg;have NB522_565:=sNl BK522 hg;have NB565_522:=sNg BK522 hg;have NB523_565:=sNl BK523 hg;have NB565_523:=sNg BK523 hg;have NB540_565:=sNl BK540 hg;have NB565_540:=sNg BK540 hg;have NB555_565:=sNl BK555 hg;have NB565_555:=sNg BK555 hg;replace HO528:=sRb HO528 hb;replace HO531:=sRb HO531 hb;replace HO537:=sRb HO537 hb;replace HO543:=sRb HO543 hb;replace HO546:=sRb HO546 hb;replace HO549:=sRb HO549 hb;replace HO552:=sRb HO552 hb;replace HO562:=sRb HO562 hb;replace BK522:=sBk BK522 hb;replace BK523:=sBk BK523 hb;replace BK540:=sBk BK540 hb;replace BK555:=sBk BK555 hb;replace HB:=sHb hb;clear hb hbox hg;have hnb107:=NB565_522.out;have hnc107:=NB522_565.out;have hnb108:=NB565_523.out;have hnc108:=NB523_565.out;have hnb109:=NB565_540.out;have hnc109:=NB540_565.out;have hnb110:=NB565_555.out;have hnc110:=NB555_565.out;have hcz111_0:w106.cell? ⟨gb565,0,none⟩=some (.int .i64 0):=(Qb BK565.out 0).trans rfl;have hcz111_1:w106.cell? ⟨gb565,1,none⟩=some (.int .i64 0):=(Qb BK565.out 1).trans rfl;have hcz111_2:w106.cell? ⟨gb565,2,none⟩=some (.int .i64 0):=(Qb BK565.out 2).trans rfl;have hcz111_3:w106.cell? ⟨gb565,3,none⟩=some (.slice none 0 0):=(Qb BK565.out 3).trans rfl;have hfz111_0:=Qe BK565.out 0;have hfz111_1:=Qe BK565.out 1;have hfz111_2:=Qe BK565.out 2;have hfz111_3:=Qe BK565.out 3;obtain⟨Ao112,co112,eo112⟩:=Kd.Q7 HO562.out;subst eo112))
      (try simp only[Act.put,qS])
      go_cut [6] (fun v6 wc=>∃ (kq:Nat) (x6_76:Bool),v6 = .bool x6_76∧Aside0 (newellaw12_FlashWhole.j2 kq x6_76=some r)∧Aside0 (kq≤kj3)∧Aside0 (Kd.R (Kd.int .u8) 5 wc w.heap.size (fun k_=>some k_≠((.slice Ao97 t547.length co97):Value).ownBlock∧some k_≠((.slice Ao99 t550.length co99):Value).ownBlock∧some k_≠((.slice Ao112 t560.length co112):Value).ownBlock) (.slice Ao88 t535.length co88) t535)∧Aside0 (Kd.R (Kd.int .u8) 5 wc w.heap.size (fun k_=>some k_≠((.slice Ao88 t535.length co88):Value).ownBlock∧some k_≠((.slice Ao99 t550.length co99):Value).ownBlock∧some k_≠((.slice Ao112 t560.length co112):Value).ownBlock) (.slice Ao97 t547.length co97) t547)∧Aside0 (Kd.R (Kd.int .u8) 5 wc w.heap.size (fun k_=>some k_≠((.slice Ao88 t535.length co88):Value).ownBlock∧some k_≠((.slice Ao97 t547.length co97):Value).ownBlock∧some k_≠((.slice Ao112 t560.length co112):Value).ownBlock) (.slice Ao99 t550.length co99) t550)∧Aside0 (Kd.R (Kd.int .u8) 5 wc w.heap.size (fun k_=>some k_≠((.slice Ao88 t535.length co88):Value).ownBlock∧some k_≠((.slice Ao97 t547.length co97):Value).ownBlock∧some k_≠((.slice Ao99 t550.length co99):Value).ownBlock) (.slice Ao112 t560.length co112) t560)∧Aside0 (wc.heap[gb522]?=some (.cells #[(.slice A0_0 l0_0.length c0_0),(.slice A0_1 l0_1.length c0_1)] 24 (0,0)))∧Aside0 (wc.heap[gb523]?=some (.cells #[.int .i64 a1_0,.int .i64 a1_1,.int .i64 a1_2,(.slice A1_3 l1_3.length c1_3)] 26 (0,0)))∧Aside0 (wc.heap[gb540]?=some (.cells #[.int .i64 t532,.int .i64 t533,.int .i64 t534,(.slice Ao88 t535.length co88)] 26 (0,0)))∧Aside0 (wc.heap[gb555]?=some (.cells #[(.slice Ao97 t547.length co97),(.slice Ao99 t550.length co99)] 24 (0,0)))∧Aside0 (wc.heap[gb565]?=some (.cells #[.int .i64 t557,.int .i64 t558,.int .i64 t559,(.slice Ao112 t560.length co112)] 26 (0,0)))∧Aside0 (Below w.heap.size w wc))
      case first=>
       have H:=HC77.out
       clear HC77
       replace H:=Option.bind_eq_some_iff.mp H
       obtain⟨t568,A1130,H⟩:=H
       replace H:(if t568=true then (if t564=t539 then (if t564=0 then ((flash_Same.f t557 t558 t559 t560 t532 t533 t534 t535).bind fun t569=>(newellaw12_FlashWhole.j2 kj3 t569)) else (newellaw12_FlashWhole.j2 kj3 true)) else (none)) else (none))=some r:=H
       have A113:=Aside0.mk A1130
       clear A1130
       by_cases c114:t568=true
       ·subst c114
        have H1:(if t564=t539 then (if t564=0 then ((flash_Same.f t557 t558 t559 t560 t532 t533 t534 t535).bind fun t569=>(newellaw12_FlashWhole.j2 kj3 t569)) else (newellaw12_FlashWhole.j2 kj3 true)) else (none))=some r:=by rw[if_pos rfl] at H;exact H
        clear H
        have H:=H1
        clear H1
        by_cases c115:t564=t539
        ·rw[if_pos c115] at H
         have c115b0:(t564==t539)=true:=beq_iff_eq.mpr c115
         have c115b1:(t564 != t539)=false:=bne_eq_false_iff_eq.mpr c115
         clear c115
         (first|rw[c115b0]|(simp only[Z3,Xg];rw[c115b0])|skip)
         by_cases c116:t564=0
         ·rw[if_pos c116] at H
          have c116b0:(t564==0)=true:=beq_iff_eq.mpr c116
          have c116b1:(t564 != 0)=false:=bne_eq_false_iff_eq.mpr c116
          clear c116
          replace H:=Option.bind_eq_some_iff.mp H
          obtain⟨t569,A1170,H⟩:=H
          replace H:(newellaw12_FlashWhole.j2 kj3 t569)=some r:=H
          have A117:=Aside0.mk A1170
          clear A1170
          have H':=Aside0.mk H
          clear H
          go_wp2_with (first|((with_reducible refine Q0 (f:=10) rfl ?_);refine Zj (some 66) rfl rfl Tryd.func10 kr rfl #[] rfl (by simp only[List.map_toArray,List.map_cons,List.map_nil] <;> rfl) ?_;(with_reducible refine(newellaw12_awake.calls kj3  true _ A113.out (by first|exact HTAB.out|((repeat(first|exact HTAB.out|(with_reducible refine Laid.Zc ?_ _)|(with_reducible refine Laid.Zb ?_ _)|(with_reducible refine Laid.Zf ?_)));done)|(refine Laid.Q6 HTAB.out ?_;(repeat(first|(with_reducible first|exact HB.out|apply Qc|apply Qa|apply Qd)|exact HB.out|(refine Qh ?_ (Aside0.out (by assumption)))))))).mono ?_);rintro e w118 ⟨rfl,hb⟩;refine⟨_,rfl, ?_⟩;replace HO528:=Aside0.mk (Kd.Qz (by(with_reducible repeat(first|apply Kd.Qk|apply Kd.Qj|apply Kd.Ql));exact(Kd.Qn (Kd.Qo (Kd.Qo (Kd.Qo (Kd.Qo (Kd.Qw HO528.out BK565.out (by decide)) (fun _ hk=>hk.2) (.int .i64 t557)) (fun _ hk=>hk.2) (.int .i64 t558)) (fun _ hk=>hk.2) (.int .i64 t559)) (fun _ hk=>hk.2) _) (fun _ h_=>h_.1))) hb);replace HO531:=Aside0.mk (Kd.Qz (by(with_reducible repeat(first|apply Kd.Qk|apply Kd.Qj|apply Kd.Ql));exact(Kd.Qn (Kd.Qo (Kd.Qo (Kd.Qo (Kd.Qo (Kd.Qw HO531.out BK565.out (by decide)) (fun _ hk=>hk.2) (.int .i64 t557)) (fun _ hk=>hk.2) (.int .i64 t558)) (fun _ hk=>hk.2) (.int .i64 t559)) (fun _ hk=>hk.2) _) (fun _ h_=>h_.1))) hb);replace HO537:=Aside0.mk (Kd.Qz (by(with_reducible repeat(first|apply Kd.Qk|apply Kd.Qj|apply Kd.Ql));exact(Kd.Qn (Kd.Qo (Kd.Qo (Kd.Qo (Kd.Qo (Kd.Qw HO537.out BK565.out (by decide)) (fun _ hk=>hk.2) (.int .i64 t557)) (fun _ hk=>hk.2) (.int .i64 t558)) (fun _ hk=>hk.2) (.int .i64 t559)) (fun _ hk=>hk.2) _) (fun _ h_=>h_.1))) hb);replace HO543:=Aside0.mk (Kd.Qz (by(with_reducible repeat(first|apply Kd.Qk|apply Kd.Qj|apply Kd.Ql));exact(Kd.Qn (Kd.Qo (Kd.Qo (Kd.Qo (Kd.Qo (Kd.Qw HO543.out BK565.out (by decide)) (fun _ hk=>hk.2) (.int .i64 t557)) (fun _ hk=>hk.2) (.int .i64 t558)) (fun _ hk=>hk.2) (.int .i64 t559)) (fun _ hk=>hk.2) _) (fun _ h_=>h_.1))) hb);replace HO546:=Aside0.mk (Kd.Qz (by(with_reducible repeat(first|apply Kd.Qk|apply Kd.Qj|apply Kd.Ql));exact(Kd.Qn (Kd.Qo (Kd.Qo (Kd.Qo (Kd.Qo (Kd.Qw HO546.out BK565.out (by decide)) (fun _ hk=>hk.2) (.int .i64 t557)) (fun _ hk=>hk.2) (.int .i64 t558)) (fun _ hk=>hk.2) (.int .i64 t559)) (fun _ hk=>hk.2) _) (fun _ h_=>h_.1))) hb);replace HO549:=Aside0.mk (Kd.Qz (by(with_reducible repeat(first|apply Kd.Qk|apply Kd.Qj|apply Kd.Ql));exact(Kd.Qn (Kd.Qo (Kd.Qo (Kd.Qo (Kd.Qo (Kd.Qw HO549.out BK565.out (by decide)) (fun _ hk=>hk.2) (.int .i64 t557)) (fun _ hk=>hk.2) (.int .i64 t558)) (fun _ hk=>hk.2) (.int .i64 t559)) (fun _ hk=>hk.2) _) (fun _ h_=>h_.1))) hb);replace HO552:=Aside0.mk (Kd.Qz (by(with_reducible repeat(first|apply Kd.Qk|apply Kd.Qj|apply Kd.Ql));exact(Kd.Qn (Kd.Qo (Kd.Qo (Kd.Qo (Kd.Qo (Kd.Qw HO552.out BK565.out (by decide)) (fun _ hk=>hk.2) (.int .i64 t557)) (fun _ hk=>hk.2) (.int .i64 t558)) (fun _ hk=>hk.2) (.int .i64 t559)) (fun _ hk=>hk.2) _) (fun _ h_=>h_.1))) hb);replace HO562:=Aside0.mk (Kd.Qz (by(with_reducible repeat(first|apply Kd.Qk|apply Kd.Qj|apply Kd.Ql));exact(Kd.Qn (Kd.Qo (Kd.Qo (Kd.Qo (Kd.Qo (Kd.Qw HO562.out BK565.out (by decide)) (fun _ hk=>hk.2) (.int .i64 t557)) (fun _ hk=>hk.2) (.int .i64 t558)) (fun _ hk=>hk.2) (.int .i64 t559)) (fun _ hk=>hk.2) _) (fun _ h_=>h_.1))) hb);replace BK522:=sBk BK522 hb;replace BK523:=sBk BK523 hb;replace BK540:=sBk BK540 hb;replace BK555:=sBk BK555 hb;replace BK565:=Aside0.mk (Qu (g:=gb565) (o:=.cells #[.int .i64 t557,.int .i64 t558,.int .i64 t559,.slice Ao112 t560.length co112] 26 (0,0)) (by refine Qr (cs:=#[.int .i64 t557,.int .i64 t558,.int .i64 t559,.slice none 0 0]) ?_ 3 _ rfl;refine Qr (cs:=#[.int .i64 t557,.int .i64 t558,.int .i64 0,.slice none 0 0]) ?_ 2 _ rfl;refine Qr (cs:=#[.int .i64 t557,.int .i64 0,.int .i64 0,.slice none 0 0]) ?_ 1 _ rfl;refine Qr (cs:=#[.int .i64 0,.int .i64 0,.int .i64 0,.slice none 0 0]) ?_ 0 _ rfl;exact BK565.out) hb);replace HB:=sHb hb;(try clear hb);(try clear hb2);(try clear hk);(try clear hi);have hnb119:=NB565_522.out;have hnc119:=NB522_565.out;have hnb120:=NB565_523.out;have hnc120:=NB523_565.out;have hnb121:=NB565_540.out;have hnc121:=NB540_565.out;have hnb122:=NB565_555.out;have hnc122:=NB555_565.out;have hcz123_0:w118.cell? ⟨gb565,0,none⟩=some (.int .i64 t557):=(Qb BK565.out 0).trans rfl;have hcz123_1:w118.cell? ⟨gb565,1,none⟩=some (.int .i64 t558):=(Qb BK565.out 1).trans rfl;have hcz123_2:w118.cell? ⟨gb565,2,none⟩=some (.int .i64 t559):=(Qb BK565.out 2).trans rfl;have hcz123_3:w118.cell? ⟨gb565,3,none⟩=some (.slice Ao112 t560.length co112):=(Qb BK565.out 3).trans rfl;have hfz123_0:=Qe BK565.out 0;have hfz123_1:=Qe BK565.out 1;have hfz123_2:=Qe BK565.out 2;have hfz123_3:=Qe BK565.out 3;have hnb124:=NB540_522.out;have hnc124:=NB522_540.out;have hnb125:=NB540_523.out;have hnc125:=NB523_540.out;have hnb126:=NB540_555.out;have hnc126:=NB555_540.out;have hcz127_0:w118.cell? ⟨gb540,0,none⟩=some (.int .i64 t532):=(Qb BK540.out 0).trans rfl;have hcz127_1:w118.cell? ⟨gb540,1,none⟩=some (.int .i64 t533):=(Qb BK540.out 1).trans rfl;have hcz127_2:w118.cell? ⟨gb540,2,none⟩=some (.int .i64 t534):=(Qb BK540.out 2).trans rfl;have hcz127_3:w118.cell? ⟨gb540,3,none⟩=some (.slice Ao88 t535.length co88):=(Qb BK540.out 3).trans rfl;have hfz127_0:=Qe BK540.out 0;have hfz127_1:=Qe BK540.out 1;have hfz127_2:=Qe BK540.out 2;have hfz127_3:=Qe BK540.out 3)|(go_at_call 20;(with_reducible refine(flash_Same.calls t557 t558 t559 _ _ t560 t532 t533 t534 _ _ t535 t569 _ ?side1 ?side2 ?side3 ?side4 A117.out).mono ?_);(case side1=>exact(Kd.Qx HO562.out).2.2);(case side2=>exact(Kd.Qx HO562.out).2.1);(case side3=>exact(Kd.Qx HO537.out).2.2);(case side4=>exact(Kd.Qx HO537.out).2.1);rintro e w128 ⟨rfl,hb⟩;have n0_:=Aside0.mk (Kd.Qz HO528.out hb);have n1_:=Aside0.mk (Kd.Qz HO531.out hb);have n2_:=Aside0.mk (Kd.Qz HO537.out hb);have n3_:=Aside0.mk (Kd.Qz HO543.out hb);have n4_:=Aside0.mk (Kd.Qz HO546.out hb);have n5_:=Aside0.mk (Kd.Qz HO549.out hb);have n6_:=Aside0.mk (Kd.Qz HO552.out hb);have n7_:=Aside0.mk (Kd.Qz HO562.out hb);have n8_:=Aside0.mk (Qu (g:=gb522) (o:=.cells #[.slice A0_0 l0_0.length c0_0,.slice A0_1 l0_1.length c0_1] 24 (0,0)) BK522.out hb);have n9_:=Aside0.mk (Qu (g:=gb523) (o:=.cells #[.int .i64 a1_0,.int .i64 a1_1,.int .i64 a1_2,.slice A1_3 l1_3.length c1_3] 26 (0,0)) BK523.out hb);have n10_:=Aside0.mk (Qu (g:=gb540) (o:=.cells #[.int .i64 t532,.int .i64 t533,.int .i64 t534,.slice Ao88 t535.length co88] 26 (0,0)) BK540.out hb);have n11_:=Aside0.mk (Qu (g:=gb555) (o:=.cells #[.slice Ao97 t547.length co97,.slice Ao99 t550.length co99] 24 (0,0)) BK555.out hb);have n12_:=Aside0.mk (Qu (g:=gb565) (o:=.cells #[.int .i64 t557,.int .i64 t558,.int .i64 t559,.slice Ao112 t560.length co112] 26 (0,0)) BK565.out hb);have n13_:=Aside0.mk (Qv HB.out hb);clear HO528;clear HO531;clear HO537;clear HO543;clear HO546;clear HO549;clear HO552;clear HO562;clear BK522;clear BK523;clear BK540;clear BK555;clear BK565;clear HB;have HO528:=n0_;have HO531:=n1_;have HO537:=n2_;have HO543:=n3_;have HO546:=n4_;have HO549:=n5_;have HO552:=n6_;have HO562:=n7_;have BK522:=n8_;have BK523:=n9_;have BK540:=n10_;have BK555:=n11_;have BK565:=n12_;have HB:=n13_;clear n0_ n1_ n2_ n3_ n4_ n5_ n6_ n7_ n8_ n9_ n10_ n11_ n12_ n13_;(try clear hb);(try clear hb2);(try clear hk);(try clear hi)))
          go_meet
          case rel=>exact⟨_,(t569),rfl,H',⟨by have:=HJ3.out;omega⟩,⟨by(with_reducible repeat(first|apply Kd.Qk|apply Kd.Qj|apply Kd.Ql));exact Kd.Qn HO537.out (fun _ hk=>⟨hk.1.2.2.2.2.1,⟨hk.1.2.2.2.2.2,hk.2⟩⟩)⟩,⟨by(with_reducible repeat(first|apply Kd.Qk|apply Kd.Qj|apply Kd.Ql));exact Kd.Qn HO549.out (fun _ hk=>⟨hk.1.2.2.1,⟨hk.1.2.2.2.2.2,hk.2⟩⟩)⟩,⟨by(with_reducible repeat(first|apply Kd.Qk|apply Kd.Qj|apply Kd.Ql));exact Kd.Qn HO552.out (fun _ hk=>⟨hk.1.2.2.1,⟨hk.1.2.2.2.2.2,hk.2⟩⟩)⟩,⟨by(with_reducible repeat(first|apply Kd.Qk|apply Kd.Qj|apply Kd.Ql));exact Kd.Qn HO562.out (fun _ hk=>⟨hk.1.1.1.1.2,⟨hk.1.2,hk.2⟩⟩)⟩,BK522,BK523,BK540,BK555,BK565,HB⟩
         ·rw[if_neg c116] at H
          have c116b0:(t564==0)=false:=beq_eq_false_iff_ne.mpr c116
          have c116b1:(t564 != 0)=true:=bne_iff_ne.mpr c116
          have H':=Aside0.mk H
          clear H
          go_wp2_with (first|((with_reducible refine Q0 (f:=10) rfl ?_);refine Zj (some 66) rfl rfl Tryd.func10 kr rfl #[] rfl (by simp only[List.map_toArray,List.map_cons,List.map_nil] <;> rfl) ?_;(with_reducible refine(newellaw12_awake.calls kj3  true _ A113.out (by first|exact HTAB.out|((repeat(first|exact HTAB.out|(with_reducible refine Laid.Zc ?_ _)|(with_reducible refine Laid.Zb ?_ _)|(with_reducible refine Laid.Zf ?_)));done)|(refine Laid.Q6 HTAB.out ?_;(repeat(first|(with_reducible first|exact HB.out|apply Qc|apply Qa|apply Qd)|exact HB.out|(refine Qh ?_ (Aside0.out (by assumption)))))))).mono ?_);rintro e w129 ⟨rfl,hb⟩;refine⟨_,rfl, ?_⟩;replace HO528:=Aside0.mk (Kd.Qz (by(with_reducible repeat(first|apply Kd.Qk|apply Kd.Qj|apply Kd.Ql));exact(Kd.Qn (Kd.Qo (Kd.Qo (Kd.Qo (Kd.Qo (Kd.Qw HO528.out BK565.out (by decide)) (fun _ hk=>hk.2) (.int .i64 t557)) (fun _ hk=>hk.2) (.int .i64 t558)) (fun _ hk=>hk.2) (.int .i64 t559)) (fun _ hk=>hk.2) _) (fun _ h_=>h_.1))) hb);replace HO531:=Aside0.mk (Kd.Qz (by(with_reducible repeat(first|apply Kd.Qk|apply Kd.Qj|apply Kd.Ql));exact(Kd.Qn (Kd.Qo (Kd.Qo (Kd.Qo (Kd.Qo (Kd.Qw HO531.out BK565.out (by decide)) (fun _ hk=>hk.2) (.int .i64 t557)) (fun _ hk=>hk.2) (.int .i64 t558)) (fun _ hk=>hk.2) (.int .i64 t559)) (fun _ hk=>hk.2) _) (fun _ h_=>h_.1))) hb);replace HO537:=Aside0.mk (Kd.Qz (by(with_reducible repeat(first|apply Kd.Qk|apply Kd.Qj|apply Kd.Ql));exact(Kd.Qn (Kd.Qo (Kd.Qo (Kd.Qo (Kd.Qo (Kd.Qw HO537.out BK565.out (by decide)) (fun _ hk=>hk.2) (.int .i64 t557)) (fun _ hk=>hk.2) (.int .i64 t558)) (fun _ hk=>hk.2) (.int .i64 t559)) (fun _ hk=>hk.2) _) (fun _ h_=>h_.1))) hb);replace HO543:=Aside0.mk (Kd.Qz (by(with_reducible repeat(first|apply Kd.Qk|apply Kd.Qj|apply Kd.Ql));exact(Kd.Qn (Kd.Qo (Kd.Qo (Kd.Qo (Kd.Qo (Kd.Qw HO543.out BK565.out (by decide)) (fun _ hk=>hk.2) (.int .i64 t557)) (fun _ hk=>hk.2) (.int .i64 t558)) (fun _ hk=>hk.2) (.int .i64 t559)) (fun _ hk=>hk.2) _) (fun _ h_=>h_.1))) hb);replace HO546:=Aside0.mk (Kd.Qz (by(with_reducible repeat(first|apply Kd.Qk|apply Kd.Qj|apply Kd.Ql));exact(Kd.Qn (Kd.Qo (Kd.Qo (Kd.Qo (Kd.Qo (Kd.Qw HO546.out BK565.out (by decide)) (fun _ hk=>hk.2) (.int .i64 t557)) (fun _ hk=>hk.2) (.int .i64 t558)) (fun _ hk=>hk.2) (.int .i64 t559)) (fun _ hk=>hk.2) _) (fun _ h_=>h_.1))) hb);replace HO549:=Aside0.mk (Kd.Qz (by(with_reducible repeat(first|apply Kd.Qk|apply Kd.Qj|apply Kd.Ql));exact(Kd.Qn (Kd.Qo (Kd.Qo (Kd.Qo (Kd.Qo (Kd.Qw HO549.out BK565.out (by decide)) (fun _ hk=>hk.2) (.int .i64 t557)) (fun _ hk=>hk.2) (.int .i64 t558)) (fun _ hk=>hk.2) (.int .i64 t559)) (fun _ hk=>hk.2) _) (fun _ h_=>h_.1))) hb);replace HO552:=Aside0.mk (Kd.Qz (by(with_reducible repeat(first|apply Kd.Qk|apply Kd.Qj|apply Kd.Ql));exact(Kd.Qn (Kd.Qo (Kd.Qo (Kd.Qo (Kd.Qo (Kd.Qw HO552.out BK565.out (by decide)) (fun _ hk=>hk.2) (.int .i64 t557)) (fun _ hk=>hk.2) (.int .i64 t558)) (fun _ hk=>hk.2) (.int .i64 t559)) (fun _ hk=>hk.2) _) (fun _ h_=>h_.1))) hb);replace HO562:=Aside0.mk (Kd.Qz (by(with_reducible repeat(first|apply Kd.Qk|apply Kd.Qj|apply Kd.Ql));exact(Kd.Qn (Kd.Qo (Kd.Qo (Kd.Qo (Kd.Qo (Kd.Qw HO562.out BK565.out (by decide)) (fun _ hk=>hk.2) (.int .i64 t557)) (fun _ hk=>hk.2) (.int .i64 t558)) (fun _ hk=>hk.2) (.int .i64 t559)) (fun _ hk=>hk.2) _) (fun _ h_=>h_.1))) hb);replace BK522:=sBk BK522 hb;replace BK523:=sBk BK523 hb;replace BK540:=sBk BK540 hb;replace BK555:=sBk BK555 hb;replace BK565:=Aside0.mk (Qu (g:=gb565) (o:=.cells #[.int .i64 t557,.int .i64 t558,.int .i64 t559,.slice Ao112 t560.length co112] 26 (0,0)) (by refine Qr (cs:=#[.int .i64 t557,.int .i64 t558,.int .i64 t559,.slice none 0 0]) ?_ 3 _ rfl;refine Qr (cs:=#[.int .i64 t557,.int .i64 t558,.int .i64 0,.slice none 0 0]) ?_ 2 _ rfl;refine Qr (cs:=#[.int .i64 t557,.int .i64 0,.int .i64 0,.slice none 0 0]) ?_ 1 _ rfl;refine Qr (cs:=#[.int .i64 0,.int .i64 0,.int .i64 0,.slice none 0 0]) ?_ 0 _ rfl;exact BK565.out) hb);replace HB:=sHb hb;(try clear hb);(try clear hb2);(try clear hk);(try clear hi)))
          go_meet
          case rel=>exact⟨_,(true),rfl,H',⟨by have:=HJ3.out;omega⟩,⟨by(with_reducible repeat(first|apply Kd.Qk|apply Kd.Qj|apply Kd.Ql));exact Kd.Qn HO537.out (fun _ hk=>⟨hk.1.2.2.2.2.1,⟨hk.1.2.2.2.2.2,hk.2⟩⟩)⟩,⟨by(with_reducible repeat(first|apply Kd.Qk|apply Kd.Qj|apply Kd.Ql));exact Kd.Qn HO549.out (fun _ hk=>⟨hk.1.2.2.1,⟨hk.1.2.2.2.2.2,hk.2⟩⟩)⟩,⟨by(with_reducible repeat(first|apply Kd.Qk|apply Kd.Qj|apply Kd.Ql));exact Kd.Qn HO552.out (fun _ hk=>⟨hk.1.2.2.1,⟨hk.1.2.2.2.2.2,hk.2⟩⟩)⟩,⟨by(with_reducible repeat(first|apply Kd.Qk|apply Kd.Qj|apply Kd.Ql));exact Kd.Qn HO562.out (fun _ hk=>⟨hk.1.1.1.1.2,⟨hk.1.2,hk.2⟩⟩)⟩,BK522,BK523,BK540,BK555,BK565,HB⟩
        ·rw[if_neg c115] at H
         exact absurd H (by simp)
       ·replace c114:=Bool.eq_false_iff.mpr c114
        subst c114
        have H1:(none)=some r:=by rw[if_neg (show ¬ (false=true) by decide)] at H;exact H
        clear H
        have H:=H1
        clear H1
        exact absurd H (by simp)
      case rest=>
       clear HC77
       try clear c1
       try clear p2
       try clear c10
       try clear c11
       try clear c12
       try clear c14
       try clear c101
       try clear c102
       try clear c103
       try clear c107
       try clear c108
       try clear c109
       try clear c110
       try clear c114
       try clear c115
       try clear c115b0
       try clear c115b1
       try clear c116
       try clear c116b0
       try clear c116b1
       try clear c119
       try clear c120
       try clear c121
       try clear c122
       try clear c124
       try clear c125
       try clear c126
       try clear hcz104_0
       try clear hcz104_1
       try clear hcz111_0
       try clear hcz111_1
       try clear hcz111_2
       try clear hcz111_3
       try clear hcz123_0
       try clear hcz123_1
       try clear hcz123_2
       try clear hcz123_3
       try clear hcz127_0
       try clear hcz127_1
       try clear hcz127_2
       try clear hcz127_3
       try clear hfz104_0
       try clear hfz104_1
       try clear hfz111_0
       try clear hfz111_1
       try clear hfz111_2
       try clear hfz111_3
       try clear hfz123_0
       try clear hfz123_1
       try clear hfz123_2
       try clear hfz123_3
       try clear hfz127_0
       try clear hfz127_1
       try clear hfz127_2
       try clear hfz127_3
       obtain⟨kq,x6_76,rfl,HA,HJ76,HO_541003,HO_556000,HO_556001,HO_566003,BK522,BK523,BK540,BK555,BK565,HB⟩:=hcut
       cases kq with
       |zero=>exact absurd HA.out (by simp[newellaw12_FlashWhole.j2])
       |succ kj76=>
        have H:=HA.out
        clear HA
        simp only[newellaw12_FlashWhole.j2] at H
        obtain rfl:=Option.some.inj H
        go_wp2
        go_ret
        exact⟨rfl,HB.out⟩
    ·rw[if_neg c23] at H
     have c23b0:(t554==0)=false:=beq_eq_false_iff_ne.mpr c23
     have c23b1:(t554 != 0)=true:=bne_iff_ne.mpr c23
     replace H:=Option.bind_eq_some_iff.mp H
     obtain⟨t556,A1300,H⟩:=H
     replace H:(if t556=true then (some (!t553)) else (none))=some r:=H
     have A130:=Aside0.mk A1300
     clear A1300
     by_cases c131:t556=true
     ·subst c131
      have H1:(some (!t553))=some r:=by rw[if_pos rfl] at H;exact H
      clear H
      have H:=H1
      clear H1
      obtain rfl:=Option.some.inj H
      have hnb132:=NB522_523.out
      have hnc132:=NB523_522.out
      have hcz133_0:wc.cell? ⟨gb522,0,none⟩=some (.slice A0_0 l0_0.length c0_0):=(Qb BK522.out 0).trans rfl
      have hcz133_1:wc.cell? ⟨gb522,1,none⟩=some (.slice A0_1 l0_1.length c0_1):=(Qb BK522.out 1).trans rfl
      have hfz133_0:=Qe BK522.out 0
      have hfz133_1:=Qe BK522.out 1
      try go_wp2_with (first|((with_reducible refine Q0 (f:=12) rfl ?_);refine Zj (some 28) rfl rfl Tryd.func12 kr rfl #[.agg #[.slice A0_0 l0_0.length c0_0,.slice A0_1 l0_1.length c0_1]] rfl (by simp only[List.map_toArray,List.map_cons,List.map_nil] <;> rfl) ?_;(with_reducible refine(newellaw12_Own.calls _ _ l0_0 _ _ l0_1 t526 t529 _ ?side1 ?side2 ?side3 ?side4 A19.out).mono ?_);(case side1=>exact(Kd.Q1 HR0_0.out HB.out));(case side2=>exact HC0_0.out);(case side3=>exact(Kd.Q1 HR0_1.out HB.out));(case side4=>exact HC0_1.out);rintro e w134 ⟨v527,v530,rfl,ho0,ho1,hb⟩;refine⟨_,rfl, ?_⟩;have HO528:=Aside0.mk (Kd.Q2 ho0 (Qm HB.out));have HO531:=Aside0.mk (Kd.Q2 ho1 (Qm HB.out));replace BK522:=sBk BK522 hb;replace BK523:=sBk BK523 hb;replace HB:=sHb hb;(try clear hb);(try clear hb2);(try clear hk);(try clear hi);(try clear ho0);(try clear ho1);obtain⟨Ao135,co135,eo135⟩:=Kd.Q7 HO528.out;subst eo135;obtain⟨Ao136,co136,eo136⟩:=Kd.Q7 HO531.out;subst eo136)|((with_reducible refine Q0 (f:=14) rfl ?_);refine Zj (some 29) rfl rfl Tryd.func14 kr rfl #[.agg #[.slice Ao135 t526.length co135,.slice Ao136 t529.length co136]] rfl (by simp only[List.map_toArray,List.map_cons,List.map_nil] <;> rfl) ?_;(with_reducible refine(flash_Recover.calls kj3 _ _ t526 _ _ t529 t532 t533 t534 t535 t538 t539 _ ?side1 ?side2 ?side3 ?side4 A20.out (by first|exact HTAB.out|((repeat(first|exact HTAB.out|(with_reducible refine Laid.Zc ?_ _)|(with_reducible refine Laid.Zb ?_ _)|(with_reducible refine Laid.Zf ?_)));done)|(refine Laid.Q6 HTAB.out ?_;(repeat(first|(with_reducible first|exact HB.out|apply Qc|apply Qa|apply Qd)|exact HB.out|(refine Qh ?_ (Aside0.out (by assumption)))))))).mono ?_);(case side1=>exact(Kd.Qx HO528.out).2.2);(case side2=>exact(Kd.Qx HO528.out).2.1);(case side3=>exact(Kd.Qx HO531.out).2.2);(case side4=>exact(Kd.Qx HO531.out).2.1);rintro e w137 ⟨v536,rfl,ho0,hb⟩;refine⟨_,rfl, ?_⟩;have HO537:=Aside0.mk (Kd.Q2 (Kd.Qp (Kd.Qp ho0 (Kd.Q4 HO528.out)) (Kd.Q4 HO531.out)) (Qm HB.out));replace HO528:=Aside0.mk (Kd.Q8 HO528.out (Kd.Qq ho0) hb);replace HO531:=Aside0.mk (Kd.Q8 HO531.out (Kd.Qq ho0) hb);replace BK522:=sBk BK522 hb;replace BK523:=sBk BK523 hb;replace HB:=sHb hb;(try clear hb);(try clear hb2);(try clear hk);(try clear hi);(try clear ho0))|((with_reducible refine Q5 (N:=7) rfl ?_);(try(refine Zm (by rfl) ?_;dsimp only));refine Q3 ?hg (N:=7) ?hd (cs:=#[.int .i64 0,.int .i64 0,.int .i64 0,.slice none 0 0]) (t:=26) ?hr ?_;(case hd=>rfl);(case hg=>rfl);(case hr=>go_simp <;> rfl);intro gb540 hg w138 hbox hb;have BK540:=Aside0.mk hbox;have GW540:=sGe hg;have GE540:=sGe hg;have NB522_540:=sNl BK522 hg;have NB540_522:=sNg BK522 hg;have NB523_540:=sNl BK523 hg;have NB540_523:=sNg BK523 hg;replace HO528:=sRb HO528 hb;replace HO531:=sRb HO531 hb;replace HO537:=sRb HO537 hb;replace BK522:=sBk BK522 hb;replace BK523:=sBk BK523 hb;replace HB:=sHb hb;clear hb hbox hg;have hnb139:=NB540_522.out;have hnc139:=NB522_540.out;have hnb140:=NB540_523.out;have hnc140:=NB523_540.out;have hcz141_0:w138.cell? ⟨gb540,0,none⟩=some (.int .i64 0):=(Qb BK540.out 0).trans rfl;have hcz141_1:w138.cell? ⟨gb540,1,none⟩=some (.int .i64 0):=(Qb BK540.out 1).trans rfl;have hcz141_2:w138.cell? ⟨gb540,2,none⟩=some (.int .i64 0):=(Qb BK540.out 2).trans rfl;have hcz141_3:w138.cell? ⟨gb540,3,none⟩=some (.slice none 0 0):=(Qb BK540.out 3).trans rfl;have hfz141_0:=Qe BK540.out 0;have hfz141_1:=Qe BK540.out 1;have hfz141_2:=Qe BK540.out 2;have hfz141_3:=Qe BK540.out 3;obtain⟨Ao142,co142,eo142⟩:=Kd.Q7 HO537.out;subst eo142))
      have n0_:Aside0 (Kd.R (Kd.int .u8) 5 ((((w138.setCell ⟨gb540,0,none⟩ (.int .i64 t532)).setCell ⟨gb540,1,none⟩ (.int .i64 t533)).setCell ⟨gb540,2,none⟩ (.int .i64 t534)).setCell ⟨gb540,3,none⟩ (.slice Ao142 t535.length co142)) w.heap.size (fun k_=>some k_≠(.slice Ao136 t529.length co136:Value).ownBlock∧some k_≠(.slice Ao142 t535.length co142:Value).ownBlock) (.slice Ao135 t526.length co135) t526):=⟨by(with_reducible repeat(first|apply Kd.Qk|apply Kd.Qj|apply Kd.Ql));exact Kd.Qn (Kd.Qo (Kd.Qo (Kd.Qo (Kd.Qo (Kd.Qw HO528.out BK540.out (by decide)) (fun _ hk=>hk.2) (.int .i64 t532)) (fun _ hk=>hk.2) (.int .i64 t533)) (fun _ hk=>hk.2) (.int .i64 t534)) (fun _ hk=>hk.2) _) (fun _ hk=>⟨hk.1.1,hk.1.2⟩)⟩
      have n1_:Aside0 (Kd.R (Kd.int .u8) 5 ((((w138.setCell ⟨gb540,0,none⟩ (.int .i64 t532)).setCell ⟨gb540,1,none⟩ (.int .i64 t533)).setCell ⟨gb540,2,none⟩ (.int .i64 t534)).setCell ⟨gb540,3,none⟩ (.slice Ao142 t535.length co142)) w.heap.size (fun k_=>some k_≠(.slice Ao135 t526.length co135:Value).ownBlock∧some k_≠(.slice Ao142 t535.length co142:Value).ownBlock) (.slice Ao136 t529.length co136) t529):=⟨by(with_reducible repeat(first|apply Kd.Qk|apply Kd.Qj|apply Kd.Ql));exact Kd.Qn (Kd.Qo (Kd.Qo (Kd.Qo (Kd.Qo (Kd.Qw HO531.out BK540.out (by decide)) (fun _ hk=>hk.2) (.int .i64 t532)) (fun _ hk=>hk.2) (.int .i64 t533)) (fun _ hk=>hk.2) (.int .i64 t534)) (fun _ hk=>hk.2) _) (fun _ hk=>⟨hk.1.1,hk.1.2⟩)⟩
      have n2_:Aside0 (Kd.R (Kd.int .u8) 5 ((((w138.setCell ⟨gb540,0,none⟩ (.int .i64 t532)).setCell ⟨gb540,1,none⟩ (.int .i64 t533)).setCell ⟨gb540,2,none⟩ (.int .i64 t534)).setCell ⟨gb540,3,none⟩ (.slice Ao142 t535.length co142)) w.heap.size (fun k_=>some k_≠(.slice Ao135 t526.length co135:Value).ownBlock∧some k_≠(.slice Ao136 t529.length co136:Value).ownBlock) (.slice Ao142 t535.length co142) t535):=⟨by(with_reducible repeat(first|apply Kd.Qk|apply Kd.Qj|apply Kd.Ql));exact Kd.Qn (Kd.Qo (Kd.Qo (Kd.Qo (Kd.Qo (Kd.Qw HO537.out BK540.out (by decide)) (fun _ hk=>hk.2) (.int .i64 t532)) (fun _ hk=>hk.2) (.int .i64 t533)) (fun _ hk=>hk.2) (.int .i64 t534)) (fun _ hk=>hk.2) _) (fun _ hk=>⟨hk.1.1.2,hk.1.2⟩)⟩
      have n3_:Aside0 (((((w138.setCell ⟨gb540,0,none⟩ (.int .i64 t532)).setCell ⟨gb540,1,none⟩ (.int .i64 t533)).setCell ⟨gb540,2,none⟩ (.int .i64 t534)).setCell ⟨gb540,3,none⟩ (.slice Ao142 t535.length co142)).heap[gb522]?=some (.cells #[.slice A0_0 l0_0.length c0_0,.slice A0_1 l0_1.length c0_1] 24 (0,0))):=⟨bka BK522⟩
      have n4_:Aside0 (((((w138.setCell ⟨gb540,0,none⟩ (.int .i64 t532)).setCell ⟨gb540,1,none⟩ (.int .i64 t533)).setCell ⟨gb540,2,none⟩ (.int .i64 t534)).setCell ⟨gb540,3,none⟩ (.slice Ao142 t535.length co142)).heap[gb523]?=some (.cells #[.int .i64 a1_0,.int .i64 a1_1,.int .i64 a1_2,.slice A1_3 l1_3.length c1_3] 26 (0,0))):=⟨bka BK523⟩
      have n5_:Aside0 (((((w138.setCell ⟨gb540,0,none⟩ (.int .i64 t532)).setCell ⟨gb540,1,none⟩ (.int .i64 t533)).setCell ⟨gb540,2,none⟩ (.int .i64 t534)).setCell ⟨gb540,3,none⟩ (.slice Ao142 t535.length co142)).heap[gb540]?=some (.cells #[.int .i64 t532,.int .i64 t533,.int .i64 t534,.slice Ao142 t535.length co142] 26 (0,0))):=⟨by refine Qr (cs:=#[.int .i64 t532,.int .i64 t533,.int .i64 t534,.slice none 0 0]) ?_ 3 _ rfl;refine Qr (cs:=#[.int .i64 t532,.int .i64 t533,.int .i64 0,.slice none 0 0]) ?_ 2 _ rfl;refine Qr (cs:=#[.int .i64 t532,.int .i64 0,.int .i64 0,.slice none 0 0]) ?_ 1 _ rfl;refine Qr (cs:=#[.int .i64 0,.int .i64 0,.int .i64 0,.slice none 0 0]) ?_ 0 _ rfl;exact BK540.out⟩
      have n6_:Aside0 (Below w.heap.size w ((((w138.setCell ⟨gb540,0,none⟩ (.int .i64 t532)).setCell ⟨gb540,1,none⟩ (.int .i64 t533)).setCell ⟨gb540,2,none⟩ (.int .i64 t534)).setCell ⟨gb540,3,none⟩ (.slice Ao142 t535.length co142))):=⟨bel⟩
      (try clear HO528)
      (try clear HO531)
      (try clear HO537)
      (try clear BK522)
      (try clear BK523)
      (try clear BK540)
      (try clear HB)
      generalize((((w138.setCell ⟨gb540,0,none⟩ (.int .i64 t532)).setCell ⟨gb540,1,none⟩ (.int .i64 t533)).setCell ⟨gb540,2,none⟩ (.int .i64 t534)).setCell ⟨gb540,3,none⟩ (.slice Ao142 t535.length co142))=w143 at n0_ n1_ n2_ n3_ n4_ n5_ n6_ ⊢
      have HO528:=n0_
      have HO531:=n1_
      have HO537:=n2_
      have BK522:=n3_
      have BK523:=n4_
      have BK540:=n5_
      have HB:=n6_
      clear n0_ n1_ n2_ n3_ n4_ n5_ n6_
      replace HO528:=Aside0.mk (Kd.Ql HO528.out)
      replace HO531:=Aside0.mk (Kd.Ql HO531.out)
      replace HO537:=Aside0.mk (Kd.Ql HO537.out)
      replace BK522:=Aside0.mk (Qi BK522.out)
      replace BK523:=Aside0.mk (Qi BK523.out)
      replace BK540:=Aside0.mk (Qi BK540.out)
      replace HB:=Aside0.mk (Qd HB.out)
      refine Yh (n:=13) (S:=fun w'=>w'.cell? ⟨gb522,0,none⟩=some (.slice A0_0 l0_0.length c0_0)∧w'.cell? ⟨gb522,1,none⟩=some (.slice A0_1 l0_1.length c0_1)∧w'.cell? ⟨gb523,0,none⟩=some (.int .i64 a1_0)∧w'.cell? ⟨gb523,1,none⟩=some (.int .i64 a1_1)∧w'.cell? ⟨gb523,2,none⟩=some (.int .i64 a1_2)∧w'.cell? ⟨gb523,3,none⟩=some (.slice A1_3 l1_3.length c1_3)) (ds:=[]) #[false,false,false,false,false,false,false,false,false,false,false,false,false] kr rfl rfl ⟨(Qb BK522.out 0).trans rfl,(Qb BK522.out 1).trans rfl,(Qb BK523.out 0).trans rfl,(Qb BK523.out 1).trans rfl,(Qb BK523.out 2).trans rfl,(Qb BK523.out 3).trans rfl⟩ (fun hHeld=>?_);refine Xp newellaw12_FlashWhole.Ut newellaw12_FlashWhole.Gc (fun HT_ HW_=>?_)
      generalize w143.drew=w144 at HO528 HO531 HO537 BK522 BK523 BK540 HB hHeld ⊢
      refine qP 3 (some 37) (bN 13 8) HT_ ?_
      refine qT 0 (some 34) (bN 13 9) HT_ HW_ hHeld ?_
      refine qT 2 (some 36) (bN 13 13) HT_ HW_ hHeld ?_
      refine Ga (σ:=Value×Value×Value×Value×Nat) 3 (bN 13 1023) (fun s_=>[(35,.agg #[s_.1,s_.2.1]),(38,.tuple #[.agg #[s_.2.2.1,s_.2.2.2.1],.bool t553,.int .i64 t554]),(10,.pointer (some ⟨s_.2.2.2.2,0,none⟩)),(33,.tuple #[.agg #[s_.2.2.1,s_.2.2.2.1],.bool t553,.int .i64 t554]),(39,.agg #[s_.2.2.1,s_.2.2.2.1]),(40,.bool t553),(41,.int .i64 t554)]) (fun s_ w'=>(w'.cell? ⟨gb522,0,none⟩=some (.slice A0_0 l0_0.length c0_0)∧w'.cell? ⟨gb522,1,none⟩=some (.slice A0_1 l0_1.length c0_1)∧w'.cell? ⟨gb523,0,none⟩=some (.int .i64 a1_0)∧w'.cell? ⟨gb523,1,none⟩=some (.int .i64 a1_1)∧w'.cell? ⟨gb523,2,none⟩=some (.int .i64 a1_2)∧w'.cell? ⟨gb523,3,none⟩=some (.slice A1_3 l1_3.length c1_3))∧(Kd.R (Kd.int .u8) 5 w' w.heap.size (fun k_=>some k_≠(.slice Ao136 t529.length co136:Value).ownBlock∧some k_≠(.slice Ao142 t535.length co142:Value).ownBlock∧some k_≠(s_.1:Value).ownBlock∧some k_≠(s_.2.1:Value).ownBlock∧some k_≠(s_.2.2.1:Value).ownBlock∧some k_≠(s_.2.2.2.1:Value).ownBlock) (.slice Ao135 t526.length co135) t526)∧(Kd.R (Kd.int .u8) 5 w' w.heap.size (fun k_=>some k_≠(.slice Ao135 t526.length co135:Value).ownBlock∧some k_≠(.slice Ao142 t535.length co142:Value).ownBlock∧some k_≠(s_.1:Value).ownBlock∧some k_≠(s_.2.1:Value).ownBlock∧some k_≠(s_.2.2.1:Value).ownBlock∧some k_≠(s_.2.2.2.1:Value).ownBlock) (.slice Ao136 t529.length co136) t529)∧(Kd.R (Kd.int .u8) 5 w' w.heap.size (fun k_=>some k_≠(.slice Ao135 t526.length co135:Value).ownBlock∧some k_≠(.slice Ao136 t529.length co136:Value).ownBlock∧some k_≠(s_.1:Value).ownBlock∧some k_≠(s_.2.1:Value).ownBlock∧some k_≠(s_.2.2.1:Value).ownBlock∧some k_≠(s_.2.2.2.1:Value).ownBlock) (.slice Ao142 t535.length co142) t535)∧(Kd.R (Kd.int .u8) 5 w' w.heap.size (fun k_=>some k_≠(.slice Ao135 t526.length co135:Value).ownBlock∧some k_≠(.slice Ao136 t529.length co136:Value).ownBlock∧some k_≠(.slice Ao142 t535.length co142:Value).ownBlock∧some k_≠(s_.2.1:Value).ownBlock∧some k_≠(s_.2.2.1:Value).ownBlock∧some k_≠(s_.2.2.2.1:Value).ownBlock) s_.1 t541)∧(Kd.R (Kd.int .u8) 5 w' w.heap.size (fun k_=>some k_≠(.slice Ao135 t526.length co135:Value).ownBlock∧some k_≠(.slice Ao136 t529.length co136:Value).ownBlock∧some k_≠(.slice Ao142 t535.length co142:Value).ownBlock∧some k_≠(s_.1:Value).ownBlock∧some k_≠(s_.2.2.1:Value).ownBlock∧some k_≠(s_.2.2.2.1:Value).ownBlock) s_.2.1 t544)∧(Kd.R (Kd.int .u8) 5 w' w.heap.size (fun k_=>some k_≠(.slice Ao135 t526.length co135:Value).ownBlock∧some k_≠(.slice Ao136 t529.length co136:Value).ownBlock∧some k_≠(.slice Ao142 t535.length co142:Value).ownBlock∧some k_≠(s_.1:Value).ownBlock∧some k_≠(s_.2.1:Value).ownBlock∧some k_≠(s_.2.2.2.1:Value).ownBlock) s_.2.2.1 t547)∧(Kd.R (Kd.int .u8) 5 w' w.heap.size (fun k_=>some k_≠(.slice Ao135 t526.length co135:Value).ownBlock∧some k_≠(.slice Ao136 t529.length co136:Value).ownBlock∧some k_≠(.slice Ao142 t535.length co142:Value).ownBlock∧some k_≠(s_.1:Value).ownBlock∧some k_≠(s_.2.1:Value).ownBlock∧some k_≠(s_.2.2.1:Value).ownBlock) s_.2.2.2.1 t550)∧(w'.heap[gb522]?=some (.cells #[.slice A0_0 l0_0.length c0_0,.slice A0_1 l0_1.length c0_1] 24 (0,0)))∧(w'.heap[gb523]?=some (.cells #[.int .i64 a1_0,.int .i64 a1_1,.int .i64 a1_2,.slice A1_3 l1_3.length c1_3] 26 (0,0)))∧(w'.heap[gb540]?=some (.cells #[.int .i64 t532,.int .i64 t533,.int .i64 t534,.slice Ao142 t535.length co142] 26 (0,0)))∧(w'.heap[s_.2.2.2.2]?=some (.cells #[.slice none 0 0,.slice none 0 0] 24 (0,0)))∧(w.heap.size≤s_.2.2.2.2)∧(w.heap.size≤s_.2.2.2.2)∧(gb522≠s_.2.2.2.2)∧(s_.2.2.2.2≠gb522)∧(gb523≠s_.2.2.2.2)∧(s_.2.2.2.2≠gb523)∧(gb540≠s_.2.2.2.2)∧(s_.2.2.2.2≠gb540)∧(Below w.heap.size w w')) ?_ ?_
      rotate_left
      ·intro hCont
       refine Kk (i:=1) (j:=9) (Ni:=some 35) (Nj:=some 10) (bN 13 15) (bN 13 525) rfl rfl rfl rfl (Yg HT_.out kr) (by decide) (by decide) (fun K hK=>?_) (fun K hK=>?_)
       ·skip
        refine Xz Tryd.func12 kr rfl #[.agg #[.slice A0_0 l0_0.length c0_0,.slice A0_1 l0_1.length c0_1]] (by rfl) rfl rfl (by simp only[List.map_toArray,List.map_cons,List.map_nil] <;> rfl) ?_
        with_reducible refine(newellaw12_Own.calls _ _ l0_0 _ _ l0_1 t541 t544 _ ?side1 ?side2 ?side3 ?side4 A21.out).mono ?_
        (case side1=>exact(Kd.Q1 HR0_0.out HB.out))
        (case side2=>exact HC0_0.out)
        (case side3=>exact(Kd.Q1 HR0_1.out HB.out))
        (case side4=>exact HC0_1.out)
        rintro e w145 ⟨v542,v545,rfl,ho0,ho1,hb⟩
        refine⟨_,rfl, ?_⟩
        have HO543:=Aside0.mk (Kd.Q2 (Kd.Qp (Kd.Qp (Kd.Qp ho0 (Kd.Q4 HO528.out)) (Kd.Q4 HO531.out)) (Kd.Q4 HO537.out)) (Qm HB.out))
        have HO546:=Aside0.mk (Kd.Q2 (Kd.Qp (Kd.Qp (Kd.Qp ho1 (Kd.Q4 HO528.out)) (Kd.Q4 HO531.out)) (Kd.Q4 HO537.out)) (Qm HB.out))
        replace HO528:=Aside0.mk (Kd.Qn (Kd.Qy (Kd.Qy (Kd.Zi HO528.out hb) (Kd.Qq ho0)) (Kd.Qq ho1)) (fun _ h_=>h_.1))
        replace HO531:=Aside0.mk (Kd.Qn (Kd.Qy (Kd.Qy (Kd.Zi HO531.out hb) (Kd.Qq ho0)) (Kd.Qq ho1)) (fun _ h_=>h_.1))
        replace HO537:=Aside0.mk (Kd.Qn (Kd.Qy (Kd.Qy (Kd.Zi HO537.out hb) (Kd.Qq ho0)) (Kd.Qq ho1)) (fun _ h_=>h_.1))
        replace BK522:=sBk BK522 hb
        replace BK523:=sBk BK523 hb
        replace BK540:=sBk BK540 hb
        replace HB:=sHb hb
        (try clear hb)
        (try clear hb2)
        (try clear hk)
        (try clear hi)
        (try clear ho0)
        (try clear ho1)
        obtain⟨Ao146,co146,eo146⟩:=Kd.Q7 HO543.out
        (first|subst eo146|(injection eo146 with f1_ f2_ f3_;have f4_:=f1_.symm;have f5_:=f3_.symm;clear f1_ f2_ f3_;subst f4_;subst f5_))
        obtain⟨Ao147,co147,eo147⟩:=Kd.Q7 HO546.out
        (first|subst eo147|(injection eo147 with f1_ f2_ f3_;have f4_:=f1_.symm;have f5_:=f3_.symm;clear f1_ f2_ f3_;subst f4_;subst f5_))
        refine hK.out _ _ ⟨(Qb BK522.out 0).trans rfl,(Qb BK522.out 1).trans rfl,(Qb BK523.out 0).trans rfl,(Qb BK523.out 1).trans rfl,(Qb BK523.out 2).trans rfl,(Qb BK523.out 3).trans rfl⟩ (fun hHeld=>?_)
        clear hK K
        refine qN (some 35) ?_
        refine Kk (i:=4) (j:=9) (Ni:=some 38) (Nj:=some 10) (bN 13 31) (bN 13 527) rfl rfl rfl rfl (Yg HT_.out kr) (by decide) (by decide) (fun K hK=>?_) (fun K hK=>?_)
        ·skip
         refine Xz Tryd.func11 kr rfl #[.agg #[.slice Ao146 t541.length co146,.slice Ao147 t544.length co147],.agg #[.int .i64 a1_0,.int .i64 a1_1,.int .i64 a1_2,.slice A1_3 l1_3.length c1_3],.int .i64 a2] (by rfl) rfl rfl (by simp only[List.map_toArray,List.map_cons,List.map_nil] <;> rfl) ?_
         with_reducible refine(flash_Write.calls kj3 _ _ t541 _ _ t544 a1_0 a1_1 a1_2 _ _ l1_3 a2 t547 t550 t553 t554 _ ?side1 ?side2 ?side3 ?side4 ?side5 ?side6 A22.out (by first|exact HTAB.out|((repeat(first|exact HTAB.out|(with_reducible refine Laid.Zc ?_ _)|(with_reducible refine Laid.Zb ?_ _)|(with_reducible refine Laid.Zf ?_)));done)|(refine Laid.Q6 HTAB.out ?_;(repeat(first|(with_reducible first|exact HB.out|apply Qc|apply Qa|apply Qd)|exact HB.out|(refine Qh ?_ (Aside0.out (by assumption)))))))).mono ?_
         (case side1=>exact(Kd.Qx HO543.out).2.2)
         (case side2=>exact(Kd.Qx HO543.out).2.1)
         (case side3=>exact(Kd.Qx HO546.out).2.2)
         (case side4=>exact(Kd.Qx HO546.out).2.1)
         (case side5=>exact(Kd.Q1 HR1_3.out HB.out))
         (case side6=>exact HC1_3.out)
         rintro e w148 ⟨v548,v551,rfl,ho0,ho1,hb⟩
         refine⟨_,rfl, ?_⟩
         have HO549:=Aside0.mk (Kd.Q2 (Kd.Qp (Kd.Qp (Kd.Qp (Kd.Qp (Kd.Qp ho0 (Kd.Q4 HO528.out)) (Kd.Q4 HO531.out)) (Kd.Q4 HO537.out)) (Kd.Q4 HO543.out)) (Kd.Q4 HO546.out)) (Qm HB.out))
         have HO552:=Aside0.mk (Kd.Q2 (Kd.Qp (Kd.Qp (Kd.Qp (Kd.Qp (Kd.Qp ho1 (Kd.Q4 HO528.out)) (Kd.Q4 HO531.out)) (Kd.Q4 HO537.out)) (Kd.Q4 HO543.out)) (Kd.Q4 HO546.out)) (Qm HB.out))
         replace HO528:=Aside0.mk (Kd.Qn (Kd.Qy (Kd.Qy (Kd.Zi HO528.out hb) (Kd.Qq ho0)) (Kd.Qq ho1)) (fun _ h_=>h_.1))
         replace HO531:=Aside0.mk (Kd.Qn (Kd.Qy (Kd.Qy (Kd.Zi HO531.out hb) (Kd.Qq ho0)) (Kd.Qq ho1)) (fun _ h_=>h_.1))
         replace HO537:=Aside0.mk (Kd.Qn (Kd.Qy (Kd.Qy (Kd.Zi HO537.out hb) (Kd.Qq ho0)) (Kd.Qq ho1)) (fun _ h_=>h_.1))
         replace HO543:=Aside0.mk (Kd.Qn (Kd.Qy (Kd.Qy (Kd.Zi HO543.out hb) (Kd.Qq ho0)) (Kd.Qq ho1)) (fun _ h_=>h_.1))
         replace HO546:=Aside0.mk (Kd.Qn (Kd.Qy (Kd.Qy (Kd.Zi HO546.out hb) (Kd.Qq ho0)) (Kd.Qq ho1)) (fun _ h_=>h_.1))
         replace BK522:=sBk BK522 hb
         replace BK523:=sBk BK523 hb
         replace BK540:=sBk BK540 hb
         replace HB:=sHb hb
         (try clear hb)
         (try clear hb2)
         (try clear hk)
         (try clear hi)
         (try clear ho0)
         (try clear ho1)
         refine hK.out _ _ ⟨(Qb BK522.out 0).trans rfl,(Qb BK522.out 1).trans rfl,(Qb BK523.out 0).trans rfl,(Qb BK523.out 1).trans rfl,(Qb BK523.out 2).trans rfl,(Qb BK523.out 3).trans rfl⟩ (fun hHeld=>?_)
         clear hK K
         refine qN (some 38) ?_
         refine qP 5 (some 33) (bN 13 63) HT_ ?_
         refine qP 6 (some 39) (bN 13 127) HT_ ?_
         refine qP 7 (some 40) (bN 13 255) HT_ ?_
         refine qP 8 (some 41) (bN 13 511) HT_ ?_
         refine Xt (i:=9) (N:=some 10) (bN 13 1023) rfl rfl (Zs HT_.out kr) (by decide) (fun K hK=>?_)
         refine Xb ?hg (N:=10) ?hd (cs:=#[.slice none 0 0,.slice none 0 0]) (t:=24) ?hr ?_;(case hd=>rfl);(case hg=>rfl);(case hr=>go_simp <;> rfl)
         intro gb555 hg w149 hbox hb
         have BK555:=Aside0.mk hbox
         have GW555:=sGe hg
         have GE555:=sGe hg
         have NB522_555:=sNl BK522 hg
         have NB555_522:=sNg BK522 hg
         have NB523_555:=sNl BK523 hg
         have NB555_523:=sNg BK523 hg
         have NB540_555:=sNl BK540 hg
         have NB555_540:=sNg BK540 hg
         replace HO528:=sRb HO528 hb
         replace HO531:=sRb HO531 hb
         replace HO537:=sRb HO537 hb
         replace HO543:=sRb HO543 hb
         replace HO546:=sRb HO546 hb
         replace HO549:=sRb HO549 hb
         replace HO552:=sRb HO552 hb
         replace BK522:=sBk BK522 hb
         replace BK523:=sBk BK523 hb
         replace BK540:=sBk BK540 hb
         replace HB:=sHb hb
         clear hb hbox hg
         refine hK.out _ _ ⟨(Qb BK522.out 0).trans rfl,(Qb BK522.out 1).trans rfl,(Qb BK523.out 0).trans rfl,(Qb BK523.out 1).trans rfl,(Qb BK523.out 2).trans rfl,(Qb BK523.out 3).trans rfl⟩ (fun hHeld=>?_)
         clear hK K
         refine qN (some 10) ?_
         exact Xq (by simp only[Z2,Act.put,qS]) (hCont (.slice Ao146 t541.length co146,.slice Ao147 t544.length co147,v548,v551,gb555) _ ⟨hHeld,(by(with_reducible repeat(first|apply Kd.Qk|apply Kd.Qj|apply Kd.Ql));exact Kd.Qn HO528.out (fun _ hk=>⟨hk.1.1.1.1.1,⟨hk.1.1.1.1.2,⟨hk.1.1.1.2,⟨hk.1.1.2,⟨hk.1.2,hk.2⟩⟩⟩⟩⟩)),(by(with_reducible repeat(first|apply Kd.Qk|apply Kd.Qj|apply Kd.Ql));exact Kd.Qn HO531.out (fun _ hk=>⟨hk.1.1.1.1.1,⟨hk.1.1.1.1.2,⟨hk.1.1.1.2,⟨hk.1.1.2,⟨hk.1.2,hk.2⟩⟩⟩⟩⟩)),(by(with_reducible repeat(first|apply Kd.Qk|apply Kd.Qj|apply Kd.Ql));exact Kd.Qn HO537.out (fun _ hk=>⟨hk.1.1.1.1.1,⟨hk.1.1.1.1.2,⟨hk.1.1.1.2,⟨hk.1.1.2,⟨hk.1.2,hk.2⟩⟩⟩⟩⟩)),(by(with_reducible repeat(first|apply Kd.Qk|apply Kd.Qj|apply Kd.Ql));exact Kd.Qn HO543.out (fun _ hk=>⟨hk.1.1.1.1.2,⟨hk.1.1.1.2,⟨hk.1.1.2,⟨hk.1.1.1.1.1,⟨hk.1.2,hk.2⟩⟩⟩⟩⟩)),(by(with_reducible repeat(first|apply Kd.Qk|apply Kd.Qj|apply Kd.Ql));exact Kd.Qn HO546.out (fun _ hk=>⟨hk.1.1.1.1.2,⟨hk.1.1.1.2,⟨hk.1.1.2,⟨hk.1.1.1.1.1,⟨hk.1.2,hk.2⟩⟩⟩⟩⟩)),(by(with_reducible repeat(first|apply Kd.Qk|apply Kd.Qj|apply Kd.Ql));exact Kd.Qn HO549.out (fun _ hk=>⟨hk.1.1.1.1.2,⟨hk.1.1.1.2,⟨hk.1.1.2,⟨hk.1.2,⟨hk.2,hk.1.1.1.1.1⟩⟩⟩⟩⟩)),(by(with_reducible repeat(first|apply Kd.Qk|apply Kd.Qj|apply Kd.Ql));exact Kd.Qn HO552.out (fun _ hk=>⟨hk.1.1.1.1.2,⟨hk.1.1.1.2,⟨hk.1.1.2,⟨hk.1.2,⟨hk.2,hk.1.1.1.1.1⟩⟩⟩⟩⟩)),BK522.out,BK523.out,BK540.out,BK555.out,GW555.out,GE555.out,NB522_555.out,NB555_522.out,NB523_555.out,NB555_523.out,NB540_555.out,NB555_540.out,HB.out⟩)
        ·skip
         refine Xb ?hg (N:=10) ?hd (cs:=#[.slice none 0 0,.slice none 0 0]) (t:=24) ?hr ?_;(case hd=>rfl);(case hg=>rfl);(case hr=>go_simp <;> rfl)
         intro gb555 hg w146 hbox hb
         have BK555:=Aside0.mk hbox
         have GW555:=sGe hg
         have GE555:=sGe hg
         have NB522_555:=sNl BK522 hg
         have NB555_522:=sNg BK522 hg
         have NB523_555:=sNl BK523 hg
         have NB555_523:=sNg BK523 hg
         have NB540_555:=sNl BK540 hg
         have NB555_540:=sNg BK540 hg
         replace HO528:=sRb HO528 hb
         replace HO531:=sRb HO531 hb
         replace HO537:=sRb HO537 hb
         replace HO543:=sRb HO543 hb
         replace HO546:=sRb HO546 hb
         replace BK522:=sBk BK522 hb
         replace BK523:=sBk BK523 hb
         replace BK540:=sBk BK540 hb
         replace HB:=sHb hb
         clear hb hbox hg
         obtain⟨Ao147,co147,eo147⟩:=Kd.Q7 HO543.out
         (first|subst eo147|(injection eo147 with f1_ f2_ f3_;have f4_:=f1_.symm;have f5_:=f3_.symm;clear f1_ f2_ f3_;subst f4_;subst f5_))
         obtain⟨Ao148,co148,eo148⟩:=Kd.Q7 HO546.out
         (first|subst eo148|(injection eo148 with f1_ f2_ f3_;have f4_:=f1_.symm;have f5_:=f3_.symm;clear f1_ f2_ f3_;subst f4_;subst f5_))
         refine hK.out _ _ ⟨(Qb BK522.out 0).trans rfl,(Qb BK522.out 1).trans rfl,(Qb BK523.out 0).trans rfl,(Qb BK523.out 1).trans rfl,(Qb BK523.out 2).trans rfl,(Qb BK523.out 3).trans rfl⟩ (fun hHeld=>?_)
         clear hK K
         refine qN (some 10) ?_
         refine Xt (i:=4) (N:=some 38) (bN 13 543) rfl rfl (Zs HT_.out kr) (by decide) (fun K hK=>?_)
         refine Xz Tryd.func11 kr rfl #[.agg #[.slice Ao147 t541.length co147,.slice Ao148 t544.length co148],.agg #[.int .i64 a1_0,.int .i64 a1_1,.int .i64 a1_2,.slice A1_3 l1_3.length c1_3],.int .i64 a2] (by rfl) rfl rfl (by simp only[List.map_toArray,List.map_cons,List.map_nil] <;> rfl) ?_
         with_reducible refine(flash_Write.calls kj3 _ _ t541 _ _ t544 a1_0 a1_1 a1_2 _ _ l1_3 a2 t547 t550 t553 t554 _ ?side1 ?side2 ?side3 ?side4 ?side5 ?side6 A22.out (by first|exact HTAB.out|((repeat(first|exact HTAB.out|(with_reducible refine Laid.Zc ?_ _)|(with_reducible refine Laid.Zb ?_ _)|(with_reducible refine Laid.Zf ?_)));done)|(refine Laid.Q6 HTAB.out ?_;(repeat(first|(with_reducible first|exact HB.out|apply Qc|apply Qa|apply Qd)|exact HB.out|(refine Qh ?_ (Aside0.out (by assumption)))))))).mono ?_
         (case side1=>exact(Kd.Qx HO543.out).2.2)
         (case side2=>exact(Kd.Qx HO543.out).2.1)
         (case side3=>exact(Kd.Qx HO546.out).2.2)
         (case side4=>exact(Kd.Qx HO546.out).2.1)
         (case side5=>exact(Kd.Q1 HR1_3.out HB.out))
         (case side6=>exact HC1_3.out)
         rintro e w149 ⟨v548,v551,rfl,ho0,ho1,hb⟩
         refine⟨_,rfl, ?_⟩
         have HO549:=Aside0.mk (Kd.Q2 (Kd.Qp (Kd.Qp (Kd.Qp (Kd.Qp (Kd.Qp ho0 (Kd.Q4 HO528.out)) (Kd.Q4 HO531.out)) (Kd.Q4 HO537.out)) (Kd.Q4 HO543.out)) (Kd.Q4 HO546.out)) (Qm HB.out))
         have HO552:=Aside0.mk (Kd.Q2 (Kd.Qp (Kd.Qp (Kd.Qp (Kd.Qp (Kd.Qp ho1 (Kd.Q4 HO528.out)) (Kd.Q4 HO531.out)) (Kd.Q4 HO537.out)) (Kd.Q4 HO543.out)) (Kd.Q4 HO546.out)) (Qm HB.out))
         replace HO528:=Aside0.mk (Kd.Qn (Kd.Qy (Kd.Qy (Kd.Zi HO528.out hb) (Kd.Qq ho0)) (Kd.Qq ho1)) (fun _ h_=>h_.1))
         replace HO531:=Aside0.mk (Kd.Qn (Kd.Qy (Kd.Qy (Kd.Zi HO531.out hb) (Kd.Qq ho0)) (Kd.Qq ho1)) (fun _ h_=>h_.1))
         replace HO537:=Aside0.mk (Kd.Qn (Kd.Qy (Kd.Qy (Kd.Zi HO537.out hb) (Kd.Qq ho0)) (Kd.Qq ho1)) (fun _ h_=>h_.1))
         replace HO543:=Aside0.mk (Kd.Qn (Kd.Qy (Kd.Qy (Kd.Zi HO543.out hb) (Kd.Qq ho0)) (Kd.Qq ho1)) (fun _ h_=>h_.1))
         replace HO546:=Aside0.mk (Kd.Qn (Kd.Qy (Kd.Qy (Kd.Zi HO546.out hb) (Kd.Qq ho0)) (Kd.Qq ho1)) (fun _ h_=>h_.1))
         replace BK522:=sBk BK522 hb
         replace BK523:=sBk BK523 hb
         replace BK540:=sBk BK540 hb
         replace BK555:=sBk BK555 hb
         replace HB:=sHb hb
         (try clear hb)
         (try clear hb2)
         (try clear hk)
         (try clear hi)
         (try clear ho0)
         (try clear ho1)
         refine hK.out _ _ ⟨(Qb BK522.out 0).trans rfl,(Qb BK522.out 1).trans rfl,(Qb BK523.out 0).trans rfl,(Qb BK523.out 1).trans rfl,(Qb BK523.out 2).trans rfl,(Qb BK523.out 3).trans rfl⟩ (fun hHeld=>?_)
         clear hK K
         refine qN (some 38) ?_
         refine qP 5 (some 33) (bN 13 575) HT_ ?_
         refine qP 6 (some 39) (bN 13 639) HT_ ?_
         refine qP 7 (some 40) (bN 13 767) HT_ ?_
         refine qP 8 (some 41) (bN 13 1023) HT_ ?_
         exact Xq (by simp only[Z2,Act.put,qS]) (hCont (.slice Ao147 t541.length co147,.slice Ao148 t544.length co148,v548,v551,gb555) _ ⟨hHeld,(by(with_reducible repeat(first|apply Kd.Qk|apply Kd.Qj|apply Kd.Ql));exact Kd.Qn HO528.out (fun _ hk=>⟨hk.1.1.1.1.1,⟨hk.1.1.1.1.2,⟨hk.1.1.1.2,⟨hk.1.1.2,⟨hk.1.2,hk.2⟩⟩⟩⟩⟩)),(by(with_reducible repeat(first|apply Kd.Qk|apply Kd.Qj|apply Kd.Ql));exact Kd.Qn HO531.out (fun _ hk=>⟨hk.1.1.1.1.1,⟨hk.1.1.1.1.2,⟨hk.1.1.1.2,⟨hk.1.1.2,⟨hk.1.2,hk.2⟩⟩⟩⟩⟩)),(by(with_reducible repeat(first|apply Kd.Qk|apply Kd.Qj|apply Kd.Ql));exact Kd.Qn HO537.out (fun _ hk=>⟨hk.1.1.1.1.1,⟨hk.1.1.1.1.2,⟨hk.1.1.1.2,⟨hk.1.1.2,⟨hk.1.2,hk.2⟩⟩⟩⟩⟩)),(by(with_reducible repeat(first|apply Kd.Qk|apply Kd.Qj|apply Kd.Ql));exact Kd.Qn HO543.out (fun _ hk=>⟨hk.1.1.1.1.2,⟨hk.1.1.1.2,⟨hk.1.1.2,⟨hk.1.1.1.1.1,⟨hk.1.2,hk.2⟩⟩⟩⟩⟩)),(by(with_reducible repeat(first|apply Kd.Qk|apply Kd.Qj|apply Kd.Ql));exact Kd.Qn HO546.out (fun _ hk=>⟨hk.1.1.1.1.2,⟨hk.1.1.1.2,⟨hk.1.1.2,⟨hk.1.1.1.1.1,⟨hk.1.2,hk.2⟩⟩⟩⟩⟩)),(by(with_reducible repeat(first|apply Kd.Qk|apply Kd.Qj|apply Kd.Ql));exact Kd.Qn HO549.out (fun _ hk=>⟨hk.1.1.1.1.2,⟨hk.1.1.1.2,⟨hk.1.1.2,⟨hk.1.2,⟨hk.2,hk.1.1.1.1.1⟩⟩⟩⟩⟩)),(by(with_reducible repeat(first|apply Kd.Qk|apply Kd.Qj|apply Kd.Ql));exact Kd.Qn HO552.out (fun _ hk=>⟨hk.1.1.1.1.2,⟨hk.1.1.1.2,⟨hk.1.1.2,⟨hk.1.2,⟨hk.2,hk.1.1.1.1.1⟩⟩⟩⟩⟩)),BK522.out,BK523.out,BK540.out,BK555.out,GW555.out,GE555.out,NB522_555.out,NB555_522.out,NB523_555.out,NB555_523.out,NB540_555.out,NB555_540.out,HB.out⟩)
       ·skip
        refine Xb ?hg (N:=10) ?hd (cs:=#[.slice none 0 0,.slice none 0 0]) (t:=24) ?hr ?_;(case hd=>rfl);(case hg=>rfl);(case hr=>go_simp <;> rfl)
        intro gb555 hg w145 hbox hb
        have BK555:=Aside0.mk hbox
        have GW555:=sGe hg
        have GE555:=sGe hg
        have NB522_555:=sNl BK522 hg
        have NB555_522:=sNg BK522 hg
        have NB523_555:=sNl BK523 hg
        have NB555_523:=sNg BK523 hg
        have NB540_555:=sNl BK540 hg
        have NB555_540:=sNg BK540 hg
        replace HO528:=sRb HO528 hb
        replace HO531:=sRb HO531 hb
        replace HO537:=sRb HO537 hb
        replace BK522:=sBk BK522 hb
        replace BK523:=sBk BK523 hb
        replace BK540:=sBk BK540 hb
        replace HB:=sHb hb
        clear hb hbox hg
        refine hK.out _ _ ⟨(Qb BK522.out 0).trans rfl,(Qb BK522.out 1).trans rfl,(Qb BK523.out 0).trans rfl,(Qb BK523.out 1).trans rfl,(Qb BK523.out 2).trans rfl,(Qb BK523.out 3).trans rfl⟩ (fun hHeld=>?_)
        clear hK K
        refine qN (some 10) ?_
        refine Xt (i:=1) (N:=some 35) (bN 13 527) rfl rfl (Zs HT_.out kr) (by decide) (fun K hK=>?_)
        refine Xz Tryd.func12 kr rfl #[.agg #[.slice A0_0 l0_0.length c0_0,.slice A0_1 l0_1.length c0_1]] (by rfl) rfl rfl (by simp only[List.map_toArray,List.map_cons,List.map_nil] <;> rfl) ?_
        with_reducible refine(newellaw12_Own.calls _ _ l0_0 _ _ l0_1 t541 t544 _ ?side1 ?side2 ?side3 ?side4 A21.out).mono ?_
        (case side1=>exact(Kd.Q1 HR0_0.out HB.out))
        (case side2=>exact HC0_0.out)
        (case side3=>exact(Kd.Q1 HR0_1.out HB.out))
        (case side4=>exact HC0_1.out)
        rintro e w146 ⟨v542,v545,rfl,ho0,ho1,hb⟩
        refine⟨_,rfl, ?_⟩
        have HO543:=Aside0.mk (Kd.Q2 (Kd.Qp (Kd.Qp (Kd.Qp ho0 (Kd.Q4 HO528.out)) (Kd.Q4 HO531.out)) (Kd.Q4 HO537.out)) (Qm HB.out))
        have HO546:=Aside0.mk (Kd.Q2 (Kd.Qp (Kd.Qp (Kd.Qp ho1 (Kd.Q4 HO528.out)) (Kd.Q4 HO531.out)) (Kd.Q4 HO537.out)) (Qm HB.out))
        replace HO528:=Aside0.mk (Kd.Qn (Kd.Qy (Kd.Qy (Kd.Zi HO528.out hb) (Kd.Qq ho0)) (Kd.Qq ho1)) (fun _ h_=>h_.1))
        replace HO531:=Aside0.mk (Kd.Qn (Kd.Qy (Kd.Qy (Kd.Zi HO531.out hb) (Kd.Qq ho0)) (Kd.Qq ho1)) (fun _ h_=>h_.1))
        replace HO537:=Aside0.mk (Kd.Qn (Kd.Qy (Kd.Qy (Kd.Zi HO537.out hb) (Kd.Qq ho0)) (Kd.Qq ho1)) (fun _ h_=>h_.1))
        replace BK522:=sBk BK522 hb
        replace BK523:=sBk BK523 hb
        replace BK540:=sBk BK540 hb
        replace BK555:=sBk BK555 hb
        replace HB:=sHb hb
        (try clear hb)
        (try clear hb2)
        (try clear hk)
        (try clear hi)
        (try clear ho0)
        (try clear ho1)
        obtain⟨Ao147,co147,eo147⟩:=Kd.Q7 HO543.out
        (first|subst eo147|(injection eo147 with f1_ f2_ f3_;have f4_:=f1_.symm;have f5_:=f3_.symm;clear f1_ f2_ f3_;subst f4_;subst f5_))
        obtain⟨Ao148,co148,eo148⟩:=Kd.Q7 HO546.out
        (first|subst eo148|(injection eo148 with f1_ f2_ f3_;have f4_:=f1_.symm;have f5_:=f3_.symm;clear f1_ f2_ f3_;subst f4_;subst f5_))
        refine hK.out _ _ ⟨(Qb BK522.out 0).trans rfl,(Qb BK522.out 1).trans rfl,(Qb BK523.out 0).trans rfl,(Qb BK523.out 1).trans rfl,(Qb BK523.out 2).trans rfl,(Qb BK523.out 3).trans rfl⟩ (fun hHeld=>?_)
        clear hK K
        refine qN (some 35) ?_
        refine Xt (i:=4) (N:=some 38) (bN 13 543) rfl rfl (Zs HT_.out kr) (by decide) (fun K hK=>?_)
        refine Xz Tryd.func11 kr rfl #[.agg #[.slice Ao147 t541.length co147,.slice Ao148 t544.length co148],.agg #[.int .i64 a1_0,.int .i64 a1_1,.int .i64 a1_2,.slice A1_3 l1_3.length c1_3],.int .i64 a2] (by rfl) rfl rfl (by simp only[List.map_toArray,List.map_cons,List.map_nil] <;> rfl) ?_
        with_reducible refine(flash_Write.calls kj3 _ _ t541 _ _ t544 a1_0 a1_1 a1_2 _ _ l1_3 a2 t547 t550 t553 t554 _ ?side1 ?side2 ?side3 ?side4 ?side5 ?side6 A22.out (by first|exact HTAB.out|((repeat(first|exact HTAB.out|(with_reducible refine Laid.Zc ?_ _)|(with_reducible refine Laid.Zb ?_ _)|(with_reducible refine Laid.Zf ?_)));done)|(refine Laid.Q6 HTAB.out ?_;(repeat(first|(with_reducible first|exact HB.out|apply Qc|apply Qa|apply Qd)|exact HB.out|(refine Qh ?_ (Aside0.out (by assumption)))))))).mono ?_
        (case side1=>exact(Kd.Qx HO543.out).2.2)
        (case side2=>exact(Kd.Qx HO543.out).2.1)
        (case side3=>exact(Kd.Qx HO546.out).2.2)
        (case side4=>exact(Kd.Qx HO546.out).2.1)
        (case side5=>exact(Kd.Q1 HR1_3.out HB.out))
        (case side6=>exact HC1_3.out)
        rintro e w149 ⟨v548,v551,rfl,ho0,ho1,hb⟩
        refine⟨_,rfl, ?_⟩
        have HO549:=Aside0.mk (Kd.Q2 (Kd.Qp (Kd.Qp (Kd.Qp (Kd.Qp (Kd.Qp ho0 (Kd.Q4 HO528.out)) (Kd.Q4 HO531.out)) (Kd.Q4 HO537.out)) (Kd.Q4 HO543.out)) (Kd.Q4 HO546.out)) (Qm HB.out))
        have HO552:=Aside0.mk (Kd.Q2 (Kd.Qp (Kd.Qp (Kd.Qp (Kd.Qp (Kd.Qp ho1 (Kd.Q4 HO528.out)) (Kd.Q4 HO531.out)) (Kd.Q4 HO537.out)) (Kd.Q4 HO543.out)) (Kd.Q4 HO546.out)) (Qm HB.out))
        replace HO528:=Aside0.mk (Kd.Qn (Kd.Qy (Kd.Qy (Kd.Zi HO528.out hb) (Kd.Qq ho0)) (Kd.Qq ho1)) (fun _ h_=>h_.1))
        replace HO531:=Aside0.mk (Kd.Qn (Kd.Qy (Kd.Qy (Kd.Zi HO531.out hb) (Kd.Qq ho0)) (Kd.Qq ho1)) (fun _ h_=>h_.1))
        replace HO537:=Aside0.mk (Kd.Qn (Kd.Qy (Kd.Qy (Kd.Zi HO537.out hb) (Kd.Qq ho0)) (Kd.Qq ho1)) (fun _ h_=>h_.1))
        replace HO543:=Aside0.mk (Kd.Qn (Kd.Qy (Kd.Qy (Kd.Zi HO543.out hb) (Kd.Qq ho0)) (Kd.Qq ho1)) (fun _ h_=>h_.1))
        replace HO546:=Aside0.mk (Kd.Qn (Kd.Qy (Kd.Qy (Kd.Zi HO546.out hb) (Kd.Qq ho0)) (Kd.Qq ho1)) (fun _ h_=>h_.1))
        replace BK522:=sBk BK522 hb
        replace BK523:=sBk BK523 hb
        replace BK540:=sBk BK540 hb
        replace BK555:=sBk BK555 hb
        replace HB:=sHb hb
        (try clear hb)
        (try clear hb2)
        (try clear hk)
        (try clear hi)
        (try clear ho0)
        (try clear ho1)
        refine hK.out _ _ ⟨(Qb BK522.out 0).trans rfl,(Qb BK522.out 1).trans rfl,(Qb BK523.out 0).trans rfl,(Qb BK523.out 1).trans rfl,(Qb BK523.out 2).trans rfl,(Qb BK523.out 3).trans rfl⟩ (fun hHeld=>?_)
        clear hK K
        refine qN (some 38) ?_
        refine qP 5 (some 33) (bN 13 575) HT_ ?_
        refine qP 6 (some 39) (bN 13 639) HT_ ?_
        refine qP 7 (some 40) (bN 13 767) HT_ ?_
        refine qP 8 (some 41) (bN 13 1023) HT_ ?_
        exact Xq (by simp only[Z2,Act.put,qS]) (hCont (.slice Ao147 t541.length co147,.slice Ao148 t544.length co148,v548,v551,gb555) _ ⟨hHeld,(by(with_reducible repeat(first|apply Kd.Qk|apply Kd.Qj|apply Kd.Ql));exact Kd.Qn HO528.out (fun _ hk=>⟨hk.1.1.1.1.1,⟨hk.1.1.1.1.2,⟨hk.1.1.1.2,⟨hk.1.1.2,⟨hk.1.2,hk.2⟩⟩⟩⟩⟩)),(by(with_reducible repeat(first|apply Kd.Qk|apply Kd.Qj|apply Kd.Ql));exact Kd.Qn HO531.out (fun _ hk=>⟨hk.1.1.1.1.1,⟨hk.1.1.1.1.2,⟨hk.1.1.1.2,⟨hk.1.1.2,⟨hk.1.2,hk.2⟩⟩⟩⟩⟩)),(by(with_reducible repeat(first|apply Kd.Qk|apply Kd.Qj|apply Kd.Ql));exact Kd.Qn HO537.out (fun _ hk=>⟨hk.1.1.1.1.1,⟨hk.1.1.1.1.2,⟨hk.1.1.1.2,⟨hk.1.1.2,⟨hk.1.2,hk.2⟩⟩⟩⟩⟩)),(by(with_reducible repeat(first|apply Kd.Qk|apply Kd.Qj|apply Kd.Ql));exact Kd.Qn HO543.out (fun _ hk=>⟨hk.1.1.1.1.2,⟨hk.1.1.1.2,⟨hk.1.1.2,⟨hk.1.1.1.1.1,⟨hk.1.2,hk.2⟩⟩⟩⟩⟩)),(by(with_reducible repeat(first|apply Kd.Qk|apply Kd.Qj|apply Kd.Ql));exact Kd.Qn HO546.out (fun _ hk=>⟨hk.1.1.1.1.2,⟨hk.1.1.1.2,⟨hk.1.1.2,⟨hk.1.1.1.1.1,⟨hk.1.2,hk.2⟩⟩⟩⟩⟩)),(by(with_reducible repeat(first|apply Kd.Qk|apply Kd.Qj|apply Kd.Ql));exact Kd.Qn HO549.out (fun _ hk=>⟨hk.1.1.1.1.2,⟨hk.1.1.1.2,⟨hk.1.1.2,⟨hk.1.2,⟨hk.2,hk.1.1.1.1.1⟩⟩⟩⟩⟩)),(by(with_reducible repeat(first|apply Kd.Qk|apply Kd.Qj|apply Kd.Ql));exact Kd.Qn HO552.out (fun _ hk=>⟨hk.1.1.1.1.2,⟨hk.1.1.1.2,⟨hk.1.1.2,⟨hk.1.2,⟨hk.2,hk.1.1.1.1.1⟩⟩⟩⟩⟩)),BK522.out,BK523.out,BK540.out,BK555.out,GW555.out,GE555.out,NB522_555.out,NB555_522.out,NB523_555.out,NB555_523.out,NB540_555.out,NB555_540.out,HB.out⟩)
      rintro⟨v542,v545,v548,v551,gb555⟩ w150 ⟨hS_,h0_,h1_,h2_,h3_,h4_,h5_,h6_,h7_,h8_,h9_,h10_,h11_,h12_,h13_,h14_,h15_,h16_,h17_,h18_,h19_⟩
      have n0_:Aside0 (Kd.R (Kd.int .u8) 5 w150 w.heap.size (fun k_=>some k_≠(.slice Ao136 t529.length co136:Value).ownBlock∧some k_≠(.slice Ao142 t535.length co142:Value).ownBlock∧some k_≠(v542:Value).ownBlock∧some k_≠(v545:Value).ownBlock∧some k_≠(v548:Value).ownBlock∧some k_≠(v551:Value).ownBlock) (.slice Ao135 t526.length co135) t526):=⟨h0_⟩
      have n1_:Aside0 (Kd.R (Kd.int .u8) 5 w150 w.heap.size (fun k_=>some k_≠(.slice Ao135 t526.length co135:Value).ownBlock∧some k_≠(.slice Ao142 t535.length co142:Value).ownBlock∧some k_≠(v542:Value).ownBlock∧some k_≠(v545:Value).ownBlock∧some k_≠(v548:Value).ownBlock∧some k_≠(v551:Value).ownBlock) (.slice Ao136 t529.length co136) t529):=⟨h1_⟩
      have n2_:Aside0 (Kd.R (Kd.int .u8) 5 w150 w.heap.size (fun k_=>some k_≠(.slice Ao135 t526.length co135:Value).ownBlock∧some k_≠(.slice Ao136 t529.length co136:Value).ownBlock∧some k_≠(v542:Value).ownBlock∧some k_≠(v545:Value).ownBlock∧some k_≠(v548:Value).ownBlock∧some k_≠(v551:Value).ownBlock) (.slice Ao142 t535.length co142) t535):=⟨h2_⟩
      have n3_:Aside0 (Kd.R (Kd.int .u8) 5 w150 w.heap.size (fun k_=>some k_≠(.slice Ao135 t526.length co135:Value).ownBlock∧some k_≠(.slice Ao136 t529.length co136:Value).ownBlock∧some k_≠(.slice Ao142 t535.length co142:Value).ownBlock∧some k_≠(v545:Value).ownBlock∧some k_≠(v548:Value).ownBlock∧some k_≠(v551:Value).ownBlock) v542 t541):=⟨h3_⟩
      have n4_:Aside0 (Kd.R (Kd.int .u8) 5 w150 w.heap.size (fun k_=>some k_≠(.slice Ao135 t526.length co135:Value).ownBlock∧some k_≠(.slice Ao136 t529.length co136:Value).ownBlock∧some k_≠(.slice Ao142 t535.length co142:Value).ownBlock∧some k_≠(v542:Value).ownBlock∧some k_≠(v548:Value).ownBlock∧some k_≠(v551:Value).ownBlock) v545 t544):=⟨h4_⟩
      have n5_:Aside0 (Kd.R (Kd.int .u8) 5 w150 w.heap.size (fun k_=>some k_≠(.slice Ao135 t526.length co135:Value).ownBlock∧some k_≠(.slice Ao136 t529.length co136:Value).ownBlock∧some k_≠(.slice Ao142 t535.length co142:Value).ownBlock∧some k_≠(v542:Value).ownBlock∧some k_≠(v545:Value).ownBlock∧some k_≠(v551:Value).ownBlock) v548 t547):=⟨h5_⟩
      have n6_:Aside0 (Kd.R (Kd.int .u8) 5 w150 w.heap.size (fun k_=>some k_≠(.slice Ao135 t526.length co135:Value).ownBlock∧some k_≠(.slice Ao136 t529.length co136:Value).ownBlock∧some k_≠(.slice Ao142 t535.length co142:Value).ownBlock∧some k_≠(v542:Value).ownBlock∧some k_≠(v545:Value).ownBlock∧some k_≠(v548:Value).ownBlock) v551 t550):=⟨h6_⟩
      have n7_:Aside0 (w150.heap[gb522]?=some (.cells #[.slice A0_0 l0_0.length c0_0,.slice A0_1 l0_1.length c0_1] 24 (0,0))):=⟨h7_⟩
      have n8_:Aside0 (w150.heap[gb523]?=some (.cells #[.int .i64 a1_0,.int .i64 a1_1,.int .i64 a1_2,.slice A1_3 l1_3.length c1_3] 26 (0,0))):=⟨h8_⟩
      have n9_:Aside0 (w150.heap[gb540]?=some (.cells #[.int .i64 t532,.int .i64 t533,.int .i64 t534,.slice Ao142 t535.length co142] 26 (0,0))):=⟨h9_⟩
      have n10_:Aside0 (w150.heap[gb555]?=some (.cells #[.slice none 0 0,.slice none 0 0] 24 (0,0))):=⟨h10_⟩
      have n11_:Aside0 (w.heap.size≤gb555):=⟨h11_⟩
      have n12_:Aside0 (w.heap.size≤gb555):=⟨h12_⟩
      have n13_:Aside0 (gb522≠gb555):=⟨h13_⟩
      have n14_:Aside0 (gb555≠gb522):=⟨h14_⟩
      have n15_:Aside0 (gb523≠gb555):=⟨h15_⟩
      have n16_:Aside0 (gb555≠gb523):=⟨h16_⟩
      have n17_:Aside0 (gb540≠gb555):=⟨h17_⟩
      have n18_:Aside0 (gb555≠gb540):=⟨h18_⟩
      have n19_:Aside0 (Below w.heap.size w w150):=⟨h19_⟩
      clear HO528
      clear HO531
      clear HO537
      clear BK522
      clear BK523
      clear BK540
      clear HB
      clear h0_ h1_ h2_ h3_ h4_ h5_ h6_ h7_ h8_ h9_ h10_ h11_ h12_ h13_ h14_ h15_ h16_ h17_ h18_ h19_
      have HO528:=n0_
      have HO531:=n1_
      have HO537:=n2_
      have HO543:=n3_
      have HO546:=n4_
      have HO549:=n5_
      have HO552:=n6_
      have BK522:=n7_
      have BK523:=n8_
      have BK540:=n9_
      have BK555:=n10_
      have GW555:=n11_
      have GE555:=n12_
      have NB522_555:=n13_
      have NB555_522:=n14_
      have NB523_555:=n15_
      have NB555_523:=n16_
      have NB540_555:=n17_
      have NB555_540:=n18_
      have HB:=n19_
      clear n0_ n1_ n2_ n3_ n4_ n5_ n6_ n7_ n8_ n9_ n10_ n11_ n12_ n13_ n14_ n15_ n16_ n17_ n18_ n19_
      have hHeld:w150.cell? ⟨gb522,0,none⟩=some (.slice A0_0 l0_0.length c0_0)∧w150.cell? ⟨gb522,1,none⟩=some (.slice A0_1 l0_1.length c0_1)∧w150.cell? ⟨gb523,0,none⟩=some (.int .i64 a1_0)∧w150.cell? ⟨gb523,1,none⟩=some (.int .i64 a1_1)∧w150.cell? ⟨gb523,2,none⟩=some (.int .i64 a1_2)∧w150.cell? ⟨gb523,3,none⟩=some (.slice A1_3 l1_3.length c1_3):=hS_
      obtain⟨Ao151,co151,eo151⟩:=Kd.Q7 HO549.out
      (first|subst eo151|(injection eo151 with f1_ f2_ f3_;have f4_:=f1_.symm;have f5_:=f3_.symm;clear f1_ f2_ f3_;subst f4_;subst f5_))
      obtain⟨Ao153,co153,eo153⟩:=Kd.Q7 HO552.out
      (first|subst eo153|(injection eo153 with f1_ f2_ f3_;have f4_:=f1_.symm;have f5_:=f3_.symm;clear f1_ f2_ f3_;subst f4_;subst f5_))
      refine Xq (a':=?_) ?_ ?_
      rotate_left
      ·simp only[Z2,Act.put,qS]
       rfl
      refine Xt (i:=10) (N:=none) (bN 13 2047) rfl rfl (Zs HT_.out kr) (by decide) (fun K hK=>?_)
      have hs152:w150.cell? ⟨gb555,0,none⟩=some (.slice none 0 0):=(Qb BK555.out 0).trans rfl
      have hfs152:=Qe BK555.out 0
      have hns152_0:=NB522_555.out
      have hns152_1:=NB523_555.out
      have hns152_2:=NB540_555.out
      have hms152_0:=NB555_522.out
      have hms152_1:=NB555_523.out
      have hms152_2:=NB555_540.out
      have hs154:w150.cell? ⟨gb555,1,none⟩=some (.slice none 0 0):=(Qb BK555.out 1).trans rfl
      have hfs154:=Qe BK555.out 1
      have hns154_0:=NB522_555.out
      have hns154_1:=NB523_555.out
      have hns154_2:=NB540_555.out
      have hms154_0:=NB555_522.out
      have hms154_1:=NB555_523.out
      have hms154_2:=NB555_540.out
      refine Jz (w1:=?_) (by rfl) rfl ?_ ?_
      rotate_left
      ·go_simp
       rfl
      refine hK.out _ _ ⟨((cell_far (p:=⟨gb555,_,none⟩) NB522_555.out _).trans (((cell_far (p:=⟨gb555,_,none⟩) NB522_555.out _).trans (hHeld.1)))),((cell_far (p:=⟨gb555,_,none⟩) NB522_555.out _).trans (((cell_far (p:=⟨gb555,_,none⟩) NB522_555.out _).trans (hHeld.2.1)))),((cell_far (p:=⟨gb555,_,none⟩) NB523_555.out _).trans (((cell_far (p:=⟨gb555,_,none⟩) NB523_555.out _).trans (hHeld.2.2.1)))),((cell_far (p:=⟨gb555,_,none⟩) NB523_555.out _).trans (((cell_far (p:=⟨gb555,_,none⟩) NB523_555.out _).trans (hHeld.2.2.2.1)))),((cell_far (p:=⟨gb555,_,none⟩) NB523_555.out _).trans (((cell_far (p:=⟨gb555,_,none⟩) NB523_555.out _).trans (hHeld.2.2.2.2.1)))),((cell_far (p:=⟨gb555,_,none⟩) NB523_555.out _).trans (((cell_far (p:=⟨gb555,_,none⟩) NB523_555.out _).trans (hHeld.2.2.2.2.2))))⟩ (fun hHeld=>?_)
      clear hK K
      refine qP 11 (some 11) (bN 13 4095) HT_ ?_
      refine qP 12 (some 12) (bN 13 8191) HT_ ?_
      refine Y1 (X7 HT_.out kr) ?_
      try go_wp2_with (first|((with_reducible refine Q0 (f:=10) rfl ?_);refine Zj (some 44) rfl rfl Tryd.func10 kr rfl #[] rfl (by simp only[List.map_toArray,List.map_cons,List.map_nil] <;> rfl) ?_;(with_reducible refine(newellaw12_awake.calls kj3  true _ A130.out (by first|exact HTAB.out|((repeat(first|exact HTAB.out|(with_reducible refine Laid.Zc ?_ _)|(with_reducible refine Laid.Zb ?_ _)|(with_reducible refine Laid.Zf ?_)));done)|(refine Laid.Q6 HTAB.out ?_;(repeat(first|(with_reducible first|exact HB.out|apply Qc|apply Qa|apply Qd)|exact HB.out|(refine Qh ?_ (Aside0.out (by assumption)))))))).mono ?_);rintro e w155 ⟨rfl,hb⟩;refine⟨_,rfl, ?_⟩;replace HO528:=Aside0.mk (Kd.Qz (by(with_reducible repeat(first|apply Kd.Qk|apply Kd.Qj|apply Kd.Ql));exact(Kd.Qn (Kd.Qo (Kd.Qo (Kd.Qw HO528.out BK555.out (by decide)) (fun _ hk=>hk.2) _) (fun _ hk=>hk.2) _) (fun _ h_=>h_.1))) hb);replace HO531:=Aside0.mk (Kd.Qz (by(with_reducible repeat(first|apply Kd.Qk|apply Kd.Qj|apply Kd.Ql));exact(Kd.Qn (Kd.Qo (Kd.Qo (Kd.Qw HO531.out BK555.out (by decide)) (fun _ hk=>hk.2) _) (fun _ hk=>hk.2) _) (fun _ h_=>h_.1))) hb);replace HO537:=Aside0.mk (Kd.Qz (by(with_reducible repeat(first|apply Kd.Qk|apply Kd.Qj|apply Kd.Ql));exact(Kd.Qn (Kd.Qo (Kd.Qo (Kd.Qw HO537.out BK555.out (by decide)) (fun _ hk=>hk.2) _) (fun _ hk=>hk.2) _) (fun _ h_=>h_.1))) hb);replace HO543:=Aside0.mk (Kd.Qz (by(with_reducible repeat(first|apply Kd.Qk|apply Kd.Qj|apply Kd.Ql));exact(Kd.Qn (Kd.Qo (Kd.Qo (Kd.Qw HO543.out BK555.out (by decide)) (fun _ hk=>hk.2) _) (fun _ hk=>hk.2) _) (fun _ h_=>h_.1))) hb);replace HO546:=Aside0.mk (Kd.Qz (by(with_reducible repeat(first|apply Kd.Qk|apply Kd.Qj|apply Kd.Ql));exact(Kd.Qn (Kd.Qo (Kd.Qo (Kd.Qw HO546.out BK555.out (by decide)) (fun _ hk=>hk.2) _) (fun _ hk=>hk.2) _) (fun _ h_=>h_.1))) hb);replace HO549:=Aside0.mk (Kd.Qz (by(with_reducible repeat(first|apply Kd.Qk|apply Kd.Qj|apply Kd.Ql));exact(Kd.Qn (Kd.Qo (Kd.Qo (Kd.Qw HO549.out BK555.out (by decide)) (fun _ hk=>hk.2) _) (fun _ hk=>hk.2) _) (fun _ h_=>h_.1))) hb);replace HO552:=Aside0.mk (Kd.Qz (by(with_reducible repeat(first|apply Kd.Qk|apply Kd.Qj|apply Kd.Ql));exact(Kd.Qn (Kd.Qo (Kd.Qo (Kd.Qw HO552.out BK555.out (by decide)) (fun _ hk=>hk.2) _) (fun _ hk=>hk.2) _) (fun _ h_=>h_.1))) hb);replace BK522:=sBk BK522 hb;replace BK523:=sBk BK523 hb;replace BK540:=sBk BK540 hb;replace BK555:=Aside0.mk (Qu (g:=gb555) (o:=.cells #[.slice Ao151 t547.length co151,.slice Ao153 t550.length co153] 24 (0,0)) (by refine Qr (cs:=#[.slice Ao151 t547.length co151,.slice none 0 0]) ?_ 1 _ rfl;refine Qr (cs:=#[.slice none 0 0,.slice none 0 0]) ?_ 0 _ rfl;exact BK555.out) hb);replace HB:=sHb hb;(try clear hb);(try clear hb2);(try clear hk);(try clear hi)))
      go_ret
      exact⟨rfl,HB.out⟩
     ·replace c131:=Bool.eq_false_iff.mpr c131
      subst c131
      have H1:(none)=some r:=by rw[if_neg (show ¬ (false=true) by decide)] at H;exact H
      clear H
      have H:=H1
      clear H1
      exact absurd H (by simp)
end Go.Proofs.YtickbejailcehaaDoor.C
namespace Go.Proofs.YtickbejailcehaaDoor.Flash
open Go.RowKit Go.Proofs.YtickbejailcehaaDoorW.PrintWords Go.Proofs.YtickbejailcehaaDoorW.PrintLast Go.Proofs.YtickbejailcehaaDoorW.PrintMore Go.Proofs.YtickbejailcehaaDoor.C
open Go.Proofs.YtickbejailcehaaDoor.Wire (In pt Z6 Z9 Zn)
open Go.Proofs.YtickbejailcehaaDoor.Crc (X4 Yk By)
set_option linter.unusedVariables false
theorem Wm (a b:List Int) (ha:∀ x ∈ a,By x) (hb:∀ x ∈ b,By x) {g c m:Int} {l:List Int} (hg:In g) (hc:In c) (hm:In m) (hl:∀ x ∈ l,By x) (cut:Int) (k:Nat) (hk:40000≤k):newellaw12_FlashWhole.f k a b g c m l cut=some true:=by
  obtain⟨k,rfl⟩:∃ n,k=n+2:=⟨k-2,by omega⟩
  unfold newellaw12_FlashWhole.f
  rw[Nl]
  simp only[Option.bind_some]
  have jt:∀ x:Bool,x=true→newellaw12_FlashWhole.j0 (k+2) cut x a b g c m l=some true:=by
    intro x hx
    simp only[newellaw12_FlashWhole.j0]
    rw[if_pos hx,Vm _ (by omega)]
    rfl
  by_cases hs:a.length≤5000∧b.length≤5000
  case neg=>
    rw[decide_eq_false hs,if_neg (by decide),jt _ rfl]
  rw[decide_eq_true hs,if_pos rfl]
  by_cases hL:(l.length:Int)>5000
  · rw[decide_eq_true hL,jt _ rfl]
  rw[decide_eq_false hL]
  obtain⟨sa,sb⟩:=hs
  have ll:l.length≤1000000:=by omega
  simp only[newellaw12_FlashWhole.j0]
  rw[if_neg (by decide),Nb a b (by omega) (by omega)]
  simp only[Option.bind_some]
  rw[Yt a b ha hb (by omega) (by omega) _ (by omega)]
  simp only[Option.bind_some]
  rw[Gt a b ha hb (by omega) (by omega) hg hc hm hl ll cut _ (by omega)]
  simp only[Option.bind_some]
  rw[Vm _ (by omega)]
  simp only[Option.bind_some]
  have e1:∀ x:Bool,newellaw12_FlashWhole.j1 (k+1) x=some x:=fun x=>rfl
  have e2:∀ x:Bool,newellaw12_FlashWhole.j2 (k+1) x=some x:=fun x=>rfl
  by_cases h1:Y0 g m l.length=true
  case neg=>
    have hw:Z1 a b g c m l cut=([],[],false,120):=by unfold Z1;rw[if_neg h1]
    rw[hw]
    dsimp only
    rw[if_neg (by decide),if_pos trivial]
    rfl
  by_cases h2:(Zt a b).2.2.2.2.2=0∧g≤(Zt a b).1
  · have hw:Z1 a b g c m l cut=([],[],false,124):=by unfold Z1;rw[if_pos h1,if_pos h2]
    rw[hw]
    dsimp only
    rw[if_neg (by decide),if_pos trivial]
    rfl
  have w0:(Z1 a b g c m l cut).2.2.2=0:=by unfold Z1;rw[if_pos h1,if_neg h2]
  have wl:=Up a b (g:=g) (c:=c) (m:=m) (l:=l) cut 6000 (by omega) (by omega) (by omega)
  have wb:=Wk a b ha hb hg hc hm hl ll cut
  rw[if_pos w0,Yt _ _ wb.1 wb.2 (by omega) (by omega) _ (by omega)]
  simp only[Option.bind_some]
  by_cases h3:cut≥((Z0 g c m l).length:Int)
  · have wa:(Z1 a b g c m l cut).2.2.1=true:=by unfold Z1;rw[if_pos h1,if_neg h2];exact decide_eq_true h3
    obtain⟨s,hr⟩:=Uq a b hg hc hm hl cut h1 h2 h3
    rw[if_pos wa,hr,if_pos trivial]
    dsimp only
    rw[if_pos rfl,Jf]
    rfl
  · have wa:(Z1 a b g c m l cut).2.2.1=false:=by unfold Z1;rw[if_pos h1,if_neg h2];exact decide_eq_false h3
    rw[if_neg (by rw[wa];decide),Vp a b hg hc hm cut h1 h2 h3,if_pos trivial,if_pos rfl]
    by_cases h4:(Zt a b).2.2.2.2.2=0
    · rw[if_pos h4,Jf]
      rfl
    · rw[if_neg h4]
      rfl
end Go.Proofs.YtickbejailcehaaDoor.Flash

