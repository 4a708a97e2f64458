/- Texts of this claim, one behind the other: what the law's functions come to, walked (printed by a program, with the words that the print uses), and what that is, in plain Lean. No conditions of their own. -/
import Derived.Test.YtickbejailcehaaDoorQFlashWrites11
namespace Go.Proofs.YtickbejailcehaaDoor.C
open Go.RowKit Go.Proofs.YtickbejailcehaaDoorW.PrintWords Go.Proofs.YtickbejailcehaaDoorW.PrintLast Go.Proofs.YtickbejailcehaaDoorW.PrintMore
attribute [local go_sem] Xm Xk X0 Xz Xc Xb Xl Xj
set_option linter.unusedVariables false
set_option linter.unusedSimpArgs false
mutual
def flash_Write.j0:Nat→Int→List Int→Bool→Int→Bool→List Int→List Int→Option (List Int×List Int×Bool×Int)
 |0,_,_,_,_,_,_,_=>none
 |k+1,x2,x9,x12,x13,x40,x180000,x180001=>if x40=true then (some (([]:List Int),([]:List Int),false,124)) else (if x13=0 then (flash_Write.j1 k x2 x9 false x12 x180000 x180001) else (flash_Write.j1 k x2 x9 false true x180000 x180001))
def flash_Write.j1:Nat→Int→List Int→Bool→Bool→List Int→List Int→Option (List Int×List Int×Bool×Int)
 |0,_,_,_,_,_,_=>none
 |k+1,x2,x9,x14,x46,x180000,x180001=>if x46=true then (flash_Write.j2 k x2 x9 true x180000 x180001) else (flash_Write.j2 k x2 x9 x14 x180000 x180001)
def flash_Write.j2:Nat→Int→List Int→Bool→List Int→List Int→Option (List Int×List Int×Bool×Int)
 |0,_,_,_,_,_=>none
 |k+1,x2,x9,x14,x180000,x180001=>(bytes_Clone.f x180000).bind fun t195=>((bytes_Clone.f x180001).bind fun t198=>(if 0≤(mn (mx x2 0) (x9.length:Int)) then (if (mn (mx x2 0) (x9.length:Int))≤(x9.length:Int) then (some (Xi x14 (x9.take ((mn (mx x2 0) (x9.length:Int)):Int).toNat) t195,Xi x14 t198 (x9.take ((mn (mx x2 0) (x9.length:Int)):Int).toNat),decide (x2≥(x9.length:Int)),0)) else (none)) else (none)))
end
def flash_Write.f (k:Nat) (l0_0:List Int) (l0_1:List Int) (a1_0:Int) (a1_1:Int) (a1_2:Int) (l1_3:List Int) (a2:Int):Option (List Int×List Int×Bool×Int):=(flash_Code.f k a1_0 a1_1 a1_2 l1_3).bind fun bt182=>(if bt182.2=0 then ((flash_Recover.f k l0_0 l0_1).bind fun bt186=>(if bt186.2.2.2.2.2=0 then (flash_Write.j0 k a2 bt182.1 bt186.2.2.2.2.1 bt186.2.2.2.2.2 (decide (a1_0≤bt186.1)) l0_0 l0_1) else (flash_Write.j0 k a2 bt182.1 bt186.2.2.2.2.1 bt186.2.2.2.2.2 false l0_0 l0_1))) else (some (([]:List Int),([]:List Int),false,bt182.2)))
theorem flash_Write.Zl:∀ k,(∀ y0 y1 y2 y3 y4 y5 y6,LeO (flash_Write.j0 k y0 y1 y2 y3 y4 y5 y6) (flash_Write.j0 (k+1) y0 y1 y2 y3 y4 y5 y6))∧(∀ y0 y1 y2 y3 y4 y5,LeO (flash_Write.j1 k y0 y1 y2 y3 y4 y5) (flash_Write.j1 (k+1) y0 y1 y2 y3 y4 y5))∧(∀ y0 y1 y2 y3 y4,LeO (flash_Write.j2 k y0 y1 y2 y3 y4) (flash_Write.j2 (k+1) y0 y1 y2 y3 y4))
 |0=>⟨fun _ _ _ _ _ _ _ r h=>by simp[flash_Write.j0] at h,fun _ _ _ _ _ _ r h=>by simp[flash_Write.j1] at h,fun _ _ _ _ _ r h=>by simp[flash_Write.j2] at h⟩
 |k+1=>by
  obtain⟨ih0,ih1,ih2⟩:=flash_Write.Zl k
  refine⟨?_, ?_, ?_⟩
  ·intro y0 y1 y2 y3 y4 y5 y6
   unfold flash_Write.j0
   repeat' first
   |(with_reducible exact ih0 _ _ _ _ _ _ _)
   |(with_reducible exact ih1 _ _ _ _ _ _)
   |(with_reducible exact ih2 _ _ _ _ _)
   |(with_reducible exact flash_Code.mono _ _ _ _ _)
   |(with_reducible exact flash_Recover.mono _ _ _)
   |(with_reducible exact LeO.refl _)
   |(with_reducible exact LeO.none _)
   |(with_reducible refine LeO.ite ?_ ?_)
   |(with_reducible refine LeO.bind ?_ (fun _=>?_))
   |exact ih0 _ _ _ _ _ _ _
   |exact ih1 _ _ _ _ _ _
   |exact ih2 _ _ _ _ _
   |exact flash_Code.mono _ _ _ _ _
   |exact flash_Recover.mono _ _ _
   |exact LeO.none _
   |refine LeO.ite ?_ ?_
   |refine LeO.bind ?_ (fun _=>?_)
  ·intro y0 y1 y2 y3 y4 y5
   unfold flash_Write.j1
   repeat' first
   |(with_reducible exact ih0 _ _ _ _ _ _ _)
   |(with_reducible exact ih1 _ _ _ _ _ _)
   |(with_reducible exact ih2 _ _ _ _ _)
   |(with_reducible exact flash_Code.mono _ _ _ _ _)
   |(with_reducible exact flash_Recover.mono _ _ _)
   |(with_reducible exact LeO.refl _)
   |(with_reducible exact LeO.none _)
   |(with_reducible refine LeO.ite ?_ ?_)
   |(with_reducible refine LeO.bind ?_ (fun _=>?_))
   |exact ih0 _ _ _ _ _ _ _
   |exact ih1 _ _ _ _ _ _
   |exact ih2 _ _ _ _ _
   |exact flash_Code.mono _ _ _ _ _
   |exact flash_Recover.mono _ _ _
   |exact LeO.none _
   |refine LeO.ite ?_ ?_
   |refine LeO.bind ?_ (fun _=>?_)
  ·intro y0 y1 y2 y3 y4
   unfold flash_Write.j2
   repeat' first
   |(with_reducible exact ih0 _ _ _ _ _ _ _)
   |(with_reducible exact ih1 _ _ _ _ _ _)
   |(with_reducible exact ih2 _ _ _ _ _)
   |(with_reducible exact flash_Code.mono _ _ _ _ _)
   |(with_reducible exact flash_Recover.mono _ _ _)
   |(with_reducible exact LeO.refl _)
   |(with_reducible exact LeO.none _)
   |(with_reducible refine LeO.ite ?_ ?_)
   |(with_reducible refine LeO.bind ?_ (fun _=>?_))
   |exact ih0 _ _ _ _ _ _ _
   |exact ih1 _ _ _ _ _ _
   |exact ih2 _ _ _ _ _
   |exact flash_Code.mono _ _ _ _ _
   |exact flash_Recover.mono _ _ _
   |exact LeO.none _
   |refine LeO.ite ?_ ?_
   |refine LeO.bind ?_ (fun _=>?_)
theorem flash_Write.mono:∀ a0 a1 a2 a3 a4 a5 a6 k,LeO (flash_Write.f k a0 a1 a2 a3 a4 a5 a6) (flash_Write.f (k+1) a0 a1 a2 a3 a4 a5 a6):=by
 intro a0 a1 a2 a3 a4 a5 a6 k
 obtain⟨ih0,ih1,ih2⟩:=flash_Write.Zl k
 unfold flash_Write.f
 repeat' first
   |(with_reducible exact ih0 _ _ _ _ _ _ _)
   |(with_reducible exact ih1 _ _ _ _ _ _)
   |(with_reducible exact ih2 _ _ _ _ _)
   |(with_reducible exact flash_Code.mono _ _ _ _ _)
   |(with_reducible exact flash_Recover.mono _ _ _)
   |(with_reducible exact LeO.refl _)
   |(with_reducible exact LeO.none _)
   |(with_reducible refine LeO.ite ?_ ?_)
   |(with_reducible refine LeO.bind ?_ (fun _=>?_))
   |exact ih0 _ _ _ _ _ _ _
   |exact ih1 _ _ _ _ _ _
   |exact ih2 _ _ _ _ _
   |exact flash_Code.mono _ _ _ _ _
   |exact flash_Recover.mono _ _ _
   |exact LeO.none _
   |refine LeO.ite ?_ ?_
   |refine LeO.bind ?_ (fun _=>?_)
def flash_Write.T10:Bool×List (List Nat×List Nat):=(true,[([],[]),([0],[0]),([1],[1]),([],[]),([3],[3]),([4,2],[4]),([2,5],[2,5]),([],[]),([7,6,5,0,1,2,3,4,5,6,7],[6,7])])
def flash_Write.B10:List Nat:=[0,1,3,0,8,31,63,0,255]
theorem flash_Write.tab10:rtab .any (opsOf Tryd.f11 10)=flash_Write.T10:=by kernel_rfl
theorem flash_Write.Dc:Yb flash_Write.T10.2 flash_Write.B10=true:=by kernel_rfl
def flash_Write.T12:Bool×List (List Nat×List Nat):=(true,[([],[]),([0],[0]),([],[]),([],[]),([3],[3]),([],[]),([5],[5]),([4,6],[4,6]),([2,7],[2,7]),([1,0,1,2,3,4,5,6,7,8],[1]),([9,8,1,0,1,2,3,4,5,6,7,8],[8,9])])
def flash_Write.B12:List Nat:=[0,1,0,0,8,0,32,120,252,511,1023]
theorem flash_Write.Ej:rtab .any (opsOf Tryd.f11 12)=flash_Write.T12:=by kernel_rfl
theorem flash_Write.M7:Yb flash_Write.T12.2 flash_Write.B12=true:=by kernel_rfl
set_option maxHeartbeats 8000000 in
set_option maxRecDepth 100000 in
theorem flash_Write.calls (k:Nat) (A0_0:Option Addr) (c0_0:Nat) (l0_0:List Int) (A0_1:Option Addr) (c0_1:Nat) (l0_1:List Int) (a1_0:Int) (a1_1:Int) (a1_2:Int) (A1_3:Option Addr) (c1_3:Nat) (l1_3:List Int) (a2:Int) (r1:List Int) (r2:List Int) (r3:Bool) (r4:Int) (w:World) (hr0_0:Kd.C (Kd.int .u8) w A0_0 l0_0.length l0_0) (hc0_0:l0_0.length≤c0_0) (hr0_1:Kd.C (Kd.int .u8) w A0_1 l0_1.length l0_1) (hc0_1:l0_1.length≤c0_1) (hr1_3:Kd.C (Kd.int .u8) w A1_3 l1_3.length l1_3) (hc1_3:l1_3.length≤c1_3) (h:flash_Write.f k l0_0 l0_1 a1_0 a1_1 a1_2 l1_3 a2=some (r1,r2,r3,r4)) (ht_:Laid.TabAt w):
  Calls Tryd.prog 11 #[.agg #[.slice A0_0 l0_0.length c0_0,.slice A0_1 l0_1.length c0_1],.agg #[.int .i64 a1_0,.int .i64 a1_1,.int .i64 a1_2,.slice A1_3 l1_3.length c1_3],.int .i64 a2] w fun e w'=>∃ v0_ v1_:Value,e = .returned (.tuple #[.agg #[v0_,v1_],.bool r3,.int .i64 r4])∧Kd.R (Kd.int .u8) 5 w' w.heap.size (fun k_=>some k_≠(v1_:Value).ownBlock) v0_ r1∧Kd.R (Kd.int .u8) 5 w' w.heap.size (fun k_=>some k_≠(v0_:Value).ownBlock) v1_ r2∧Below w.heap.size w w':=by
 have HTAB:=Aside0.mk ht_
 clear ht_
 have hu24:=Tryd.underlying24
 have hu26:=Tryd.underlying26
 have hu58:=Tryd.underlying58
 have HR0_0:=Aside0.mk hr0_0
 have HC0_0:=Aside0.mk hc0_0
 clear hr0_0 hc0_0
 have HR0_1:=Aside0.mk hr0_1
 have HC0_1:=Aside0.mk hc0_1
 clear hr0_1 hc0_1
 have HR1_3:=Aside0.mk hr1_3
 have HC1_3:=Aside0.mk hc1_3
 clear hr1_3 hc1_3
 have HB:=Aside0.mk (Below.refl w.heap.size w)
 have H:((flash_Code.f k a1_0 a1_1 a1_2 l1_3).bind fun bt182=>(if bt182.2=0 then ((flash_Recover.f k l0_0 l0_1).bind fun bt186=>(if bt186.2.2.2.2.2=0 then (flash_Write.j0 k a2 bt182.1 bt186.2.2.2.2.1 bt186.2.2.2.2.2 (decide (a1_0≤bt186.1)) l0_0 l0_1) else (flash_Write.j0 k a2 bt182.1 bt186.2.2.2.2.1 bt186.2.2.2.2.2 false l0_0 l0_1))) else (some (([]:List Int),([]:List Int),false,bt182.2))))=some (r1,r2,r3,r4):=h
 clear h
 replace H:=Option.bind_eq_some_iff.mp H
 obtain⟨⟨t182,t185⟩,A40,H⟩:=H
 replace H:(if t185=0 then ((flash_Recover.f k l0_0 l0_1).bind fun bt186=>(if bt186.2.2.2.2.2=0 then (flash_Write.j0 k a2 t182 bt186.2.2.2.2.1 bt186.2.2.2.2.2 (decide (a1_0≤bt186.1)) l0_0 l0_1) else (flash_Write.j0 k a2 t182 bt186.2.2.2.2.1 bt186.2.2.2.2.2 false l0_0 l0_1))) else (some (([]:List Int),([]:List Int),false,t185)))=some (r1,r2,r3,r4):=H
 have A4:=Aside0.mk A40
 clear A40
 by_cases c5:t185=0
 ·rw[if_pos c5] at H
  have c5b0:(t185==0)=true:=beq_iff_eq.mpr c5
  have c5b1:(t185 != 0)=false:=bne_eq_false_iff_eq.mpr c5
  clear c5
  replace H:=Option.bind_eq_some_iff.mp H
  obtain⟨⟨t186,t187,t188,t189,t192,t193⟩,A60,H⟩:=H
  replace H:(if t193=0 then (flash_Write.j0 k a2 t182 t192 t193 (decide (a1_0≤t186)) l0_0 l0_1) else (flash_Write.j0 k a2 t182 t192 t193 false l0_0 l0_1))=some (r1,r2,r3,r4):=H
  have A6:=Aside0.mk A60
  clear A60
  have HC7:=Aside0.mk H
  clear H
  go_enter Tryd.func11,Tryd.ntmps11
  go_upto_region 5 with(first|((with_reducible refine Qz (N:=3) rfl ?_);refine qE 3 #[.slice A0_0 l0_0.length c0_0,.slice A0_1 l0_1.length c0_1] 24 ?_;intro gb179 hg w8 hbox hb;have BK179:=Aside0.mk hbox;have GW179:=sGe hg;have GE179:=sGe hg;replace HB:=sHb hb;clear hb hbox hg)|((with_reducible refine Qz (N:=4) rfl ?_);refine qE 4 #[.int .i64 a1_0,.int .i64 a1_1,.int .i64 a1_2,.slice A1_3 l1_3.length c1_3] 26 ?_;intro gb180 hg w9 hbox hb;have BK180:=Aside0.mk hbox;have GW180:=sGe hg;have GE180:=sGe hg;have NB179_180:=sNl BK179 hg;have NB180_179:=sNg BK179 hg;replace BK179:=sBk BK179 hb;replace HB:=sHb hb;clear hb hbox hg)|((with_reducible refine Qz (N:=6) rfl ?_);refine qE 6 #[.slice none 0 0,.slice none 0 0] 24 ?_;intro gb181 hg w10 hbox hb;have BK181:=Aside0.mk hbox;have GW181:=sGe hg;have GE181:=sGe hg;have NB179_181:=sNl BK179 hg;have NB181_179:=sNg BK179 hg;have NB180_181:=sNl BK180 hg;have NB181_180:=sNg BK180 hg;replace BK179:=sBk BK179 hb;replace BK180:=sBk BK180 hb;replace HB:=sHb hb;clear hb hbox hg;have hnb11:=NB180_179.out;have hnc11:=NB179_180.out;have hnb12:=NB180_181.out;have hnc12:=NB181_180.out;obtain⟨hcz13_0,hcz13_1,hcz13_2,hcz13_3,hfz13_0,hfz13_1,hfz13_2,hfz13_3⟩:=qD4 BK180.out)|((with_reducible refine Qv (f:=18) rfl ?_);refine Ze (some 19) rfl rfl Tryd.func18 kr rfl #[.agg #[.int .i64 a1_0,.int .i64 a1_1,.int .i64 a1_2,.slice A1_3 l1_3.length c1_3]] rfl qM ?_;(with_reducible refine(flash_Code.calls k a1_0 a1_1 a1_2 _ _ l1_3 t182 t185 _ ?side1 ?side2 A4.out (by first|exact HTAB.out|((repeat(first|exact HTAB.out|(with_reducible refine Laid.Zo ?_ _)|(with_reducible refine Laid.Zn ?_ _)|(with_reducible refine Laid.Zq ?_)));done)|(refine Laid.Zk HTAB.out ?_;(repeat(first|(with_reducible first|exact HB.out|apply Qe|apply Qa|apply Qf)|exact HB.out|(refine Qg ?_ (Aside0.out (by assumption)))))))).mono ?_);(case side1=>exact(Kd.Zb HR1_3.out HB.out));(case side2=>exact HC1_3.out);rintro e w14 ⟨v183,rfl,ho0,hb⟩;refine⟨_,rfl, ?_⟩;have HO184:=Aside0.mk (Kd.Zd ho0 (Qj HB.out));replace BK179:=sBk BK179 hb;replace BK180:=sBk BK180 hb;replace BK181:=sBk BK181 hb;replace HB:=sHb hb;(try clear hb);(try clear hb2);(try clear hk);(try clear hi);(try clear ho0);have hnb15:=NB179_181.out;have hnc15:=NB181_179.out;obtain⟨hcz16_0,hcz16_1,hfz16_0,hfz16_1⟩:=qD2 BK179.out)|((with_reducible refine Qv (f:=14) rfl ?_);refine Ze (some 28) rfl rfl Tryd.func14 kr rfl #[.agg #[.slice A0_0 l0_0.length c0_0,.slice A0_1 l0_1.length c0_1]] rfl qM ?_;(with_reducible refine(flash_Recover.calls k _ _ l0_0 _ _ l0_1 t186 t187 t188 t189 t192 t193 _ ?side1 ?side2 ?side3 ?side4 A6.out (by first|exact HTAB.out|((repeat(first|exact HTAB.out|(with_reducible refine Laid.Zo ?_ _)|(with_reducible refine Laid.Zn ?_ _)|(with_reducible refine Laid.Zq ?_)));done)|(refine Laid.Zk HTAB.out ?_;(repeat(first|(with_reducible first|exact HB.out|apply Qe|apply Qa|apply Qf)|exact HB.out|(refine Qg ?_ (Aside0.out (by assumption)))))))).mono ?_);(case side1=>exact(Kd.Zb HR0_0.out HB.out));(case side2=>exact HC0_0.out);(case side3=>exact(Kd.Zb HR0_1.out HB.out));(case side4=>exact HC0_1.out);rintro e w17 ⟨v190,rfl,ho0,hb⟩;refine⟨_,rfl, ?_⟩;have HO191:=Aside0.mk (Kd.Zd (Kd.Zi ho0 (Kd.Zp HO184.out)) (Qj HB.out));replace HO184:=Aside0.mk (Kd.Zj HO184.out (Kd.Q5 ho0) hb);replace BK179:=sBk BK179 hb;replace BK180:=sBk BK180 hb;replace BK181:=sBk BK181 hb;replace HB:=sHb hb;(try clear hb);(try clear hb2);(try clear hk);(try clear hi);(try clear ho0))|((with_reducible refine Qz (N:=11) rfl ?_);refine qE 11 #[.int .i64 0,.int .i64 0,.int .i64 0,.slice none 0 0] 26 ?_;intro gb194 hg w18 hbox hb;have BK194:=Aside0.mk hbox;have GW194:=sGe hg;have GE194:=sGe hg;have NB179_194:=sNl BK179 hg;have NB194_179:=sNg BK179 hg;have NB180_194:=sNl BK180 hg;have NB194_180:=sNg BK180 hg;have NB181_194:=sNl BK181 hg;have NB194_181:=sNg BK181 hg;replace HO184:=sRb HO184 hb;replace HO191:=sRb HO191 hb;replace BK179:=sBk BK179 hb;replace BK180:=sBk BK180 hb;replace BK181:=sBk BK181 hb;replace HB:=sHb hb;clear hb hbox hg;have hnb19:=NB194_179.out;have hnc19:=NB179_194.out;have hnb20:=NB194_180.out;have hnc20:=NB180_194.out;have hnb21:=NB194_181.out;have hnc21:=NB181_194.out;obtain⟨hcz22_0,hcz22_1,hcz22_2,hcz22_3,hfz22_0,hfz22_1,hfz22_2,hfz22_3⟩:=qD4 BK194.out;obtain⟨Ao23,co23,eo23⟩:=Kd.Zf HO191.out;subst eo23))
  (try simp only[Act.put,qS])
  go_cut [40] (fun v40 wc=>∃ (kq:Nat) (x40_6:Bool),v40 = .bool x40_6∧Aside0 (flash_Write.j0 kq a2 t182 t192 t193 x40_6 l0_0 l0_1=some (r1,r2,r3,r4))∧Aside0 (kq≤k)∧Aside0 (Kd.R (Kd.int .u8) 5 wc w.heap.size (fun k_=>some k_≠((.slice Ao23 t189.length co23):Value).ownBlock) v183 t182)∧Aside0 (Kd.R (Kd.int .u8) 5 wc w.heap.size (fun k_=>some k_≠(v183:Value).ownBlock) (.slice Ao23 t189.length co23) t189)∧Aside0 (wc.heap[gb179]?=some (.cells #[(.slice A0_0 l0_0.length c0_0),(.slice A0_1 l0_1.length c0_1)] 24 (0,0)))∧Aside0 (wc.heap[gb180]?=some (.cells #[.int .i64 a1_0,.int .i64 a1_1,.int .i64 a1_2,(.slice A1_3 l1_3.length c1_3)] 26 (0,0)))∧Aside0 (wc.heap[gb181]?=some (.cells #[(.slice none 0 0),(.slice none 0 0)] 24 (0,0)))∧Aside0 (wc.heap[gb194]?=some (.cells #[.int .i64 t186,.int .i64 t187,.int .i64 t188,(.slice Ao23 t189.length co23)] 26 (0,0)))∧Aside0 (Below w.heap.size w wc))
  case first=>
   have H:=HC7.out
   clear HC7
   by_cases c24:t193=0
   ·rw[if_pos c24] at H
    have c24b0:(t193==0)=true:=beq_iff_eq.mpr c24
    have c24b1:(t193 != 0)=false:=bne_eq_false_iff_eq.mpr c24
    clear c24
    (first|rw[c24b0]|(simp only[Zu,Z4];rw[c24b0])|skip)
    have H':=Aside0.mk H
    clear H
    have hnb25:=NB180_179.out
    have hnc25:=NB179_180.out
    have hnb26:=NB180_181.out
    have hnc26:=NB181_180.out
    have hnb27:=NB180_194.out
    have hnc27:=NB194_180.out
    obtain⟨hcz28_0,hcz28_1,hcz28_2,hcz28_3,hfz28_0,hfz28_1,hfz28_2,hfz28_3⟩:=qD4 BK180.out
    have hnb29:=NB194_179.out
    have hnc29:=NB179_194.out
    have hnb30:=NB194_181.out
    have hnc30:=NB181_194.out
    obtain⟨hcz31_0,hcz31_1,hcz31_2,hcz31_3,hfz31_0,hfz31_1,hfz31_2,hfz31_3⟩:=qD4 BK194.out
    go_wp2
    go_meet
    case rel=>exact⟨_,(decide (a1_0≤t186)),qR,H',⟨by first|omega|exact Nat.le_refl _⟩,⟨by(with_reducible repeat first|apply Kd.Qi|apply Kd.Qh|apply Kd.Ql);exact Kd.Qu (Kd.Qm (Kd.Qm (Kd.Qm (Kd.Qm (Kd.Qy HO184.out BK194.out (by decide)) (fun _ hk=>hk.2) (.int .i64 t186)) (fun _ hk=>hk.2) (.int .i64 t187)) (fun _ hk=>hk.2) (.int .i64 t188)) (fun _ hk=>hk.2) _) (fun _ hk=>hk.1.2)⟩,⟨by(with_reducible repeat first|apply Kd.Qi|apply Kd.Qh|apply Kd.Ql);exact Kd.Qu (Kd.Qm (Kd.Qm (Kd.Qm (Kd.Qm (Kd.Qy HO191.out BK194.out (by decide)) (fun _ hk=>hk.2) (.int .i64 t186)) (fun _ hk=>hk.2) (.int .i64 t187)) (fun _ hk=>hk.2) (.int .i64 t188)) (fun _ hk=>hk.2) _) (fun _ hk=>hk.1.2)⟩,⟨bka BK179⟩,⟨bka BK180⟩,⟨bka BK181⟩,⟨by(with_reducible repeat first|apply Qb|apply Qd|apply Qc);refine Qk (cs:=#[.int .i64 t186,.int .i64 t187,.int .i64 t188,.slice none 0 0]) ?_ 3 _ rfl;(with_reducible repeat first|apply Qb|apply Qd|apply Qc);refine Qk (cs:=#[.int .i64 t186,.int .i64 t187,.int .i64 0,.slice none 0 0]) ?_ 2 _ rfl;(with_reducible repeat first|apply Qb|apply Qd|apply Qc);refine Qk (cs:=#[.int .i64 t186,.int .i64 0,.int .i64 0,.slice none 0 0]) ?_ 1 _ rfl;(with_reducible repeat first|apply Qb|apply Qd|apply Qc);refine Qk (cs:=#[.int .i64 0,.int .i64 0,.int .i64 0,.slice none 0 0]) ?_ 0 _ rfl;(with_reducible repeat first|apply Qb|apply Qd|apply Qc);exact BK194.out⟩,⟨bel⟩⟩
   ·rw[if_neg c24] at H
    have c24b0:(t193==0)=false:=beq_eq_false_iff_ne.mpr c24
    have c24b1:(t193 != 0)=true:=bne_iff_ne.mpr c24
    (first|rw[c24b0]|(simp only[Zu,Z4];rw[c24b0])|skip)
    have H':=Aside0.mk H
    clear H
    go_wp2
    go_meet
    case rel=>exact⟨_,(false),qR,H',⟨by first|omega|exact Nat.le_refl _⟩,⟨by(with_reducible repeat first|apply Kd.Qi|apply Kd.Qh|apply Kd.Ql);exact Kd.Qu (Kd.Qm (Kd.Qm (Kd.Qm (Kd.Qm (Kd.Qy HO184.out BK194.out (by decide)) (fun _ hk=>hk.2) (.int .i64 t186)) (fun _ hk=>hk.2) (.int .i64 t187)) (fun _ hk=>hk.2) (.int .i64 t188)) (fun _ hk=>hk.2) _) (fun _ hk=>hk.1.2)⟩,⟨by(with_reducible repeat first|apply Kd.Qi|apply Kd.Qh|apply Kd.Ql);exact Kd.Qu (Kd.Qm (Kd.Qm (Kd.Qm (Kd.Qm (Kd.Qy HO191.out BK194.out (by decide)) (fun _ hk=>hk.2) (.int .i64 t186)) (fun _ hk=>hk.2) (.int .i64 t187)) (fun _ hk=>hk.2) (.int .i64 t188)) (fun _ hk=>hk.2) _) (fun _ hk=>hk.1.2)⟩,⟨bka BK179⟩,⟨bka BK180⟩,⟨bka BK181⟩,⟨by(with_reducible repeat first|apply Qb|apply Qd|apply Qc);refine Qk (cs:=#[.int .i64 t186,.int .i64 t187,.int .i64 t188,.slice none 0 0]) ?_ 3 _ rfl;(with_reducible repeat first|apply Qb|apply Qd|apply Qc);refine Qk (cs:=#[.int .i64 t186,.int .i64 t187,.int .i64 0,.slice none 0 0]) ?_ 2 _ rfl;(with_reducible repeat first|apply Qb|apply Qd|apply Qc);refine Qk (cs:=#[.int .i64 t186,.int .i64 0,.int .i64 0,.slice none 0 0]) ?_ 1 _ rfl;(with_reducible repeat first|apply Qb|apply Qd|apply Qc);refine Qk (cs:=#[.int .i64 0,.int .i64 0,.int .i64 0,.slice none 0 0]) ?_ 0 _ rfl;(with_reducible repeat first|apply Qb|apply Qd|apply Qc);exact BK194.out⟩,⟨bel⟩⟩
  case rest=>
   clear HC7
   try clear c1
   try clear c2
   try clear p2
   try clear c3
   try clear c5
   try clear c5b0
   try clear c5b1
   try clear c11
   try clear c12
   try clear c14
   try clear c15
   try clear c18
   try clear c19
   try clear c20
   try clear c21
   try clear c24
   try clear c24b0
   try clear c24b1
   try clear c25
   try clear c26
   try clear c27
   try clear c29
   try clear c30
   try clear hcz13_0
   try clear hcz13_1
   try clear hcz13_2
   try clear hcz13_3
   try clear hcz16_0
   try clear hcz16_1
   try clear hcz22_0
   try clear hcz22_1
   try clear hcz22_2
   try clear hcz22_3
   try clear hcz28_0
   try clear hcz28_1
   try clear hcz28_2
   try clear hcz28_3
   try clear hcz31_0
   try clear hcz31_1
   try clear hcz31_2
   try clear hcz31_3
   try clear hfz13_0
   try clear hfz13_1
   try clear hfz13_2
   try clear hfz13_3
   try clear hfz16_0
   try clear hfz16_1
   try clear hfz22_0
   try clear hfz22_1
   try clear hfz22_2
   try clear hfz22_3
   try clear hfz28_0
   try clear hfz28_1
   try clear hfz28_2
   try clear hfz28_3
   try clear hfz31_0
   try clear hfz31_1
   try clear hfz31_2
   try clear hfz31_3
   obtain⟨kq,x40_6,rfl,HA,HJ6,HO_9,HO_195003,BK179,BK180,BK181,BK194,HB⟩:=hcut
   cases kq with
   |zero=>exact absurd HA.out (by simp[flash_Write.j0])
   |succ kj6=>
    have H:=HA.out
    clear HA
    simp only[flash_Write.j0] at H
    by_cases c32:x40_6=true
    ·subst c32
     have H1:(some (([]:List Int),([]:List Int),false,124))=some (r1,r2,r3,r4):=by rw[if_pos rfl] at H;exact H
     clear H
     have H:=H1
     clear H1
     simp only[Option.some.injEq,Prod.mk.injEq] at H
     obtain⟨rfl,rfl,rfl,rfl⟩:=H
     have hnb33:=NB181_179.out
     have hnc33:=NB179_181.out
     have hnb34:=NB181_180.out
     have hnc34:=NB180_181.out
     have hnb35:=NB181_194.out
     have hnc35:=NB194_181.out
     obtain⟨hcz36_0,hcz36_1,hfz36_0,hfz36_1⟩:=qD2 BK181.out
     go_wp2
     refine bodyPost_ret (Xe rfl _ _ gb181 24 #[.slice none 0 0,.slice none 0 0] (0,0) _ rfl (by refine Qk (cs:=#[.slice none 0 0,.slice none 0 0]) ?_ 1 _ rfl;refine Qk (cs:=#[.slice none 0 0,.slice none 0 0]) ?_ 0 _ rfl;exact BK181.out) Tryd.underlying24 rfl kr) rfl ?_
     exact⟨_,_,by first|rfl|(simp[Qo,Qn] <;> rfl)|(simp[*,Qo,Qn] <;> rfl),by first|exact Kd.Z1 _ _ _ _ _|exact Kd.X4 _ _ _ _ _|exact Kd.X1 _ _ _ _ _|exact Kd.X3 _ _ _ _ _|exact Kd.X2 _ _ _ _ _,by first|exact Kd.Z1 _ _ _ _ _|exact Kd.X4 _ _ _ _ _|exact Kd.X1 _ _ _ _ _|exact Kd.X3 _ _ _ _ _|exact Kd.X2 _ _ _ _ _,bel⟩
    ·replace c32:=Bool.eq_false_iff.mpr c32
     subst c32
     have H1:(if t193=0 then (flash_Write.j1 kj6 a2 t182 false t192 l0_0 l0_1) else (flash_Write.j1 kj6 a2 t182 false true l0_0 l0_1))=some (r1,r2,r3,r4):=by rw[if_neg (show ¬ (false=true) by decide)] at H;exact H
     clear H
     have H:=H1
     clear H1
     have HC37:=Aside0.mk H
     clear H
     go_upto_region 8 with(fail)
     go_cut [46] (fun v46 wc=>∃ (kq:Nat) (x46_36:Bool),v46 = .bool x46_36∧Aside0 (flash_Write.j1 kq a2 t182 false x46_36 l0_0 l0_1=some (r1,r2,r3,r4))∧Aside0 (kq≤kj6)∧Aside0 (Kd.R (Kd.int .u8) 5 wc w.heap.size (fun k_=>some k_≠((.slice Ao23 t189.length co23):Value).ownBlock) v183 t182)∧Aside0 (Kd.R (Kd.int .u8) 5 wc w.heap.size (fun k_=>some k_≠(v183:Value).ownBlock) (.slice Ao23 t189.length co23) t189)∧Aside0 (wc.heap[gb179]?=some (.cells #[(.slice A0_0 l0_0.length c0_0),(.slice A0_1 l0_1.length c0_1)] 24 (0,0)))∧Aside0 (wc.heap[gb180]?=some (.cells #[.int .i64 a1_0,.int .i64 a1_1,.int .i64 a1_2,(.slice A1_3 l1_3.length c1_3)] 26 (0,0)))∧Aside0 (wc.heap[gb181]?=some (.cells #[(.slice none 0 0),(.slice none 0 0)] 24 (0,0)))∧Aside0 (wc.heap[gb194]?=some (.cells #[.int .i64 t186,.int .i64 t187,.int .i64 t188,(.slice Ao23 t189.length co23)] 26 (0,0)))∧Aside0 (Below w.heap.size w wc))
     case first=>
      have H:=HC37.out
      clear HC37
      by_cases c38:t193=0
      ·rw[if_pos c38] at H
       have c38b0:(t193==0)=true:=beq_iff_eq.mpr c38
       have c38b1:(t193 != 0)=false:=bne_eq_false_iff_eq.mpr c38
       clear c38
       (first|rw[c38b0]|(simp only[Zu,Z4];rw[c38b0])|skip)
       have H':=Aside0.mk H
       clear H
       go_wp2
       go_meet
       case rel=>exact⟨_,(t192),rfl,H',⟨by have:=HJ6.out;omega⟩,⟨by(with_reducible repeat first|apply Kd.Qi|apply Kd.Qh|apply Kd.Ql);exact HO_9.out⟩,⟨by(with_reducible repeat first|apply Kd.Qi|apply Kd.Qh|apply Kd.Ql);exact HO_195003.out⟩,BK179,BK180,BK181,BK194,HB⟩
      ·rw[if_neg c38] at H
       have c38b0:(t193==0)=false:=beq_eq_false_iff_ne.mpr c38
       have c38b1:(t193 != 0)=true:=bne_iff_ne.mpr c38
       (first|rw[c38b0]|(simp only[Zu,Z4];rw[c38b0])|skip)
       have H':=Aside0.mk H
       clear H
       go_wp2
       go_meet
       case rel=>exact⟨_,(true),rfl,H',⟨by have:=HJ6.out;omega⟩,⟨by(with_reducible repeat first|apply Kd.Qi|apply Kd.Qh|apply Kd.Ql);exact HO_9.out⟩,⟨by(with_reducible repeat first|apply Kd.Qi|apply Kd.Qh|apply Kd.Ql);exact HO_195003.out⟩,BK179,BK180,BK181,BK194,HB⟩
     case rest=>
      clear HC37
      try clear c1
      try clear c2
      try clear p2
      try clear c3
      try clear c5
      try clear c5b0
      try clear c5b1
      try clear c11
      try clear c12
      try clear c14
      try clear c15
      try clear c18
      try clear c19
      try clear c20
      try clear c21
      try clear c24
      try clear c24b0
      try clear c24b1
      try clear c25
      try clear c26
      try clear c27
      try clear c29
      try clear c30
      try clear c32
      try clear c33
      try clear c34
      try clear c35
      try clear c38
      try clear c38b0
      try clear c38b1
      try clear hcz13_0
      try clear hcz13_1
      try clear hcz13_2
      try clear hcz13_3
      try clear hcz16_0
      try clear hcz16_1
      try clear hcz22_0
      try clear hcz22_1
      try clear hcz22_2
      try clear hcz22_3
      try clear hcz28_0
      try clear hcz28_1
      try clear hcz28_2
      try clear hcz28_3
      try clear hcz31_0
      try clear hcz31_1
      try clear hcz31_2
      try clear hcz31_3
      try clear hcz36_0
      try clear hcz36_1
      try clear hfz13_0
      try clear hfz13_1
      try clear hfz13_2
      try clear hfz13_3
      try clear hfz16_0
      try clear hfz16_1
      try clear hfz22_0
      try clear hfz22_1
      try clear hfz22_2
      try clear hfz22_3
      try clear hfz28_0
      try clear hfz28_1
      try clear hfz28_2
      try clear hfz28_3
      try clear hfz31_0
      try clear hfz31_1
      try clear hfz31_2
      try clear hfz31_3
      try clear hfz36_0
      try clear hfz36_1
      try clear p2
      obtain⟨kq,x46_36,rfl,HA,HJ36,HO_9,HO_195003,BK179,BK180,BK181,BK194,HB⟩:=hcut
      cases kq with
      |zero=>exact absurd HA.out (by simp[flash_Write.j1])
      |succ kj36=>
       have H:=HA.out
       clear HA
       simp only[flash_Write.j1] at H
       have HC39:=Aside0.mk H
       clear H
       go_upto_if 46 with(fail)
       go_cut [14] (fun v14 wc=>∃ (kq:Nat) (x14_38:Bool),v14=pickF x14_38∧Aside0 (flash_Write.j2 kq a2 t182 x14_38 l0_0 l0_1=some (r1,r2,r3,r4))∧Aside0 (kq≤kj36)∧Aside0 (Kd.R (Kd.int .u8) 5 wc w.heap.size (fun k_=>some k_≠((.slice Ao23 t189.length co23):Value).ownBlock) v183 t182)∧Aside0 (Kd.R (Kd.int .u8) 5 wc w.heap.size (fun k_=>some k_≠(v183:Value).ownBlock) (.slice Ao23 t189.length co23) t189)∧Aside0 (wc.heap[gb179]?=some (.cells #[(.slice A0_0 l0_0.length c0_0),(.slice A0_1 l0_1.length c0_1)] 24 (0,0)))∧Aside0 (wc.heap[gb180]?=some (.cells #[.int .i64 a1_0,.int .i64 a1_1,.int .i64 a1_2,(.slice A1_3 l1_3.length c1_3)] 26 (0,0)))∧Aside0 (wc.heap[gb181]?=some (.cells #[(.slice none 0 0),(.slice none 0 0)] 24 (0,0)))∧Aside0 (wc.heap[gb194]?=some (.cells #[.int .i64 t186,.int .i64 t187,.int .i64 t188,(.slice Ao23 t189.length co23)] 26 (0,0)))∧Aside0 (Below w.heap.size w wc))
       case first=>
        have H:=HC39.out
        clear HC39
        by_cases c40:x46_36=true
        ·subst c40
         have H1:(flash_Write.j2 kj36 a2 t182 true l0_0 l0_1)=some (r1,r2,r3,r4):=by rw[if_pos rfl] at H;exact H
         clear H
         have H:=H1
         clear H1
         have H':=Aside0.mk H
         clear H
         go_wp2
         go_meet
         case rel=>exact⟨_,(true),rfl,H',⟨by have:=HJ6.out;have:=HJ36.out;first|omega|exact Nat.le_refl _⟩,⟨by(with_reducible repeat first|apply Kd.Qi|apply Kd.Qh|apply Kd.Ql);exact HO_9.out⟩,⟨by(with_reducible repeat first|apply Kd.Qi|apply Kd.Qh|apply Kd.Ql);exact HO_195003.out⟩,BK179,BK180,BK181,BK194,HB⟩
        ·replace c40:=Bool.eq_false_iff.mpr c40
         subst c40
         have H1:(flash_Write.j2 kj36 a2 t182 false l0_0 l0_1)=some (r1,r2,r3,r4):=by rw[if_neg (show ¬ (false=true) by decide)] at H;exact H
         clear H
         have H:=H1
         clear H1
         have H':=Aside0.mk H
         clear H
         go_wp2
         go_meet
         case rel=>exact⟨_,(false),rfl,H',⟨by have:=HJ6.out;have:=HJ36.out;first|omega|exact Nat.le_refl _⟩,⟨by(with_reducible repeat first|apply Kd.Qi|apply Kd.Qh|apply Kd.Ql);exact HO_9.out⟩,⟨by(with_reducible repeat first|apply Kd.Qi|apply Kd.Qh|apply Kd.Ql);exact HO_195003.out⟩,BK179,BK180,BK181,BK194,HB⟩
       case rest=>
        clear HC39
        try clear c1
        try clear c2
        try clear p2
        try clear c3
        try clear c4
        try clear c5
        try clear c5b0
        try clear c5b1
        try clear c11
        try clear c12
        try clear c14
        try clear c15
        try clear c18
        try clear c19
        try clear c20
        try clear c21
        try clear c24
        try clear c24b0
        try clear c24b1
        try clear c25
        try clear c26
        try clear c27
        try clear c29
        try clear c30
        try clear c32
        try clear c33
        try clear c34
        try clear c35
        try clear c38
        try clear c38b0
        try clear c38b1
        try clear c40
        try clear hcz13_0
        try clear hcz13_1
        try clear hcz13_2
        try clear hcz13_3
        try clear hcz16_0
        try clear hcz16_1
        try clear hcz22_0
        try clear hcz22_1
        try clear hcz22_2
        try clear hcz22_3
        try clear hcz28_0
        try clear hcz28_1
        try clear hcz28_2
        try clear hcz28_3
        try clear hcz31_0
        try clear hcz31_1
        try clear hcz31_2
        try clear hcz31_3
        try clear hcz36_0
        try clear hcz36_1
        try clear hfz13_0
        try clear hfz13_1
        try clear hfz13_2
        try clear hfz13_3
        try clear hfz16_0
        try clear hfz16_1
        try clear hfz22_0
        try clear hfz22_1
        try clear hfz22_2
        try clear hfz22_3
        try clear hfz28_0
        try clear hfz28_1
        try clear hfz28_2
        try clear hfz28_3
        try clear hfz31_0
        try clear hfz31_1
        try clear hfz31_2
        try clear hfz31_3
        try clear hfz36_0
        try clear hfz36_1
        try clear p2
        obtain⟨kq,x14_38,rfl,HA,HJ38,HO_9,HO_195003,BK179,BK180,BK181,BK194,HB⟩:=hcut
        cases kq with
        |zero=>exact absurd HA.out (by simp[flash_Write.j2])
        |succ kj38=>
         have H:=HA.out
         clear HA
         simp only[flash_Write.j2] at H
         replace H:=Option.bind_eq_some_iff.mp H
         obtain⟨t195,A410,H⟩:=H
         replace H:((bytes_Clone.f l0_1).bind fun t198=>(if 0≤(mn (mx a2 0) (t182.length:Int)) then (if (mn (mx a2 0) (t182.length:Int))≤(t182.length:Int) then (some (Xi x14_38 (t182.take ((mn (mx a2 0) (t182.length:Int)):Int).toNat) t195,Xi x14_38 t198 (t182.take ((mn (mx a2 0) (t182.length:Int)):Int).toNat),decide (a2≥(t182.length:Int)),0)) else (none)) else (none)))=some (r1,r2,r3,r4):=H
         have A41:=Aside0.mk A410
         clear A410
         replace H:=Option.bind_eq_some_iff.mp H
         obtain⟨t198,A420,H⟩:=H
         replace H:(if 0≤(mn (mx a2 0) (t182.length:Int)) then (if (mn (mx a2 0) (t182.length:Int))≤(t182.length:Int) then (some (Xi x14_38 (t182.take ((mn (mx a2 0) (t182.length:Int)):Int).toNat) t195,Xi x14_38 t198 (t182.take ((mn (mx a2 0) (t182.length:Int)):Int).toNat),decide (a2≥(t182.length:Int)),0)) else (none)) else (none))=some (r1,r2,r3,r4):=H
         have A42:=Aside0.mk A420
         clear A420
         obtain⟨ji43,hji43⟩:∃ j_:Int,(mx a2 0)=j_:=⟨_,rfl⟩
         replace H:(if 0≤(mn (ji43) (t182.length:Int)) then (if (mn (ji43) (t182.length:Int))≤(t182.length:Int) then (some (Xi x14_38 (t182.take ((mn (ji43) (t182.length:Int)):Int).toNat) t195,Xi x14_38 t198 (t182.take ((mn (ji43) (t182.length:Int)):Int).toNat),decide (a2≥(t182.length:Int)),0)) else (none)) else (none))=some (r1,r2,r3,r4):=by first|(rw[hji43] at H;exact H)|(simp only[hji43] at H ⊢;exact H)
         (try rw[hji43] at A41)
         (try rw[hji43] at A42)
         have hji43_:(if a2<0 then 0 else a2)=ji43:=hji43
         obtain⟨ji44,hji44⟩:∃ j_:Int,(mn (ji43) (t182.length:Int))=j_:=⟨_,rfl⟩
         replace H:(if 0≤(ji44) then (if (ji44)≤(t182.length:Int) then (some (Xi x14_38 (t182.take ((ji44):Int).toNat) t195,Xi x14_38 t198 (t182.take ((ji44):Int).toNat),decide (a2≥(t182.length:Int)),0)) else (none)) else (none))=some (r1,r2,r3,r4):=by first|(rw[hji44] at H;exact H)|(simp only[hji44] at H ⊢;exact H)
         (try rw[hji44] at A41)
         (try rw[hji44] at A42)
         have hji44_:(if (t182.length:Int)<(ji43) then (t182.length:Int) else (ji43))=ji44:=hji44
         by_cases c45:0≤(ji44)
         ·rw[if_pos c45] at H
          have c45b0:=eq_true c45
          have c45b1:decide (0≤(ji44))=true:=decide_eq_true c45
          clear c45
          by_cases c46:(ji44)≤(t182.length:Int)
          ·rw[if_pos c46] at H
           have c46b0:=eq_true c46
           have c46b1:decide ((ji44)≤(t182.length:Int))=true:=decide_eq_true c46
           clear c46
           obtain⟨y202,hy202⟩:∃ y_:List Int,y_=(t182.take ((ji44):Int).toNat):=⟨_,rfl⟩
           replace H:(some (Xi x14_38 y202 t195,Xi x14_38 t198 y202,decide (a2≥(t182.length:Int)),0))=some (r1,r2,r3,r4):=by first|(rw[hy202];with_reducible exact H)|(have H2_:=(Option.bind_some _ _).symm.trans H;rw[hy202];with_reducible exact H2_)|(have H2_:=(Option.bind_some _ _).symm.trans H;with_reducible exact H2_)|with_reducible exact H|(rw[hy202];exact H)|exact H
           have Ny202:=Aside0.mk hy202
           clear hy202
           simp only[Option.some.injEq,Prod.mk.injEq] at H
           obtain⟨rfl,rfl,rfl,rfl⟩:=H
           try go_wp2
           replace HO_9:=Aside0.mk (Kd.Ql HO_9.out)
           replace HO_195003:=Aside0.mk (Kd.Ql HO_195003.out)
           replace BK179:=Aside0.mk (Qd BK179.out)
           replace BK180:=Aside0.mk (Qd BK180.out)
           replace BK181:=Aside0.mk (Qd BK181.out)
           replace BK194:=Aside0.mk (Qd BK194.out)
           replace HB:=Aside0.mk (Qf HB.out)
           refine Yp (n:=9) (S:=fun w'=>w'.cell? ⟨gb179,0,none⟩=some (.slice A0_0 l0_0.length c0_0)∧w'.cell? ⟨gb179,1,none⟩=some (.slice A0_1 l0_1.length c0_1)) (ds:=[]) #[false,false,false,false,false,false,false,false,false] kr rfl rfl ⟨(Q3 BK179.out 0).trans rfl,(Q3 BK179.out 1).trans rfl⟩ (fun hHeld=>?_);refine Xh flash_Write.tab10 flash_Write.Dc (fun HT_ HW_=>?_)
           generalize wc.drew=w47 at HO_9 HO_195003 BK179 BK180 BK181 BK194 HB hHeld ⊢
           refine qP 0 (some 47) (bN 9 1) HT_ ?_
           refine qP 3 (some 50) (bN 9 9) HT_ ?_
           refine qT 1 (some 48) (bN 9 11) HT_ HW_ hHeld ?_
           refine qT 4 (some 51) (bN 9 27) HT_ HW_ hHeld ?_
           refine Wm (σ:=Value×Value×Nat) 1 (bN 9 255) (fun s_=>[(49,s_.1),(52,s_.2.1),(15,.pointer (some ⟨s_.2.2,0,none⟩)),(53,.agg #[s_.1,s_.2.1])]) (fun s_ w'=>(w'.cell? ⟨gb179,0,none⟩=some (.slice A0_0 l0_0.length c0_0)∧w'.cell? ⟨gb179,1,none⟩=some (.slice A0_1 l0_1.length c0_1))∧(Kd.R (Kd.int .u8) 5 w' w.heap.size (fun k_=>some k_≠(s_.2.1:Value).ownBlock∧some k_≠(.slice Ao23 t189.length co23:Value).ownBlock∧some k_≠(v183:Value).ownBlock) s_.1 t195)∧(Kd.R (Kd.int .u8) 5 w' w.heap.size (fun k_=>some k_≠(s_.1:Value).ownBlock∧some k_≠(.slice Ao23 t189.length co23:Value).ownBlock∧some k_≠(v183:Value).ownBlock) s_.2.1 t198)∧(Kd.R (Kd.int .u8) 5 w' w.heap.size (fun k_=>some k_≠(s_.1:Value).ownBlock∧some k_≠(s_.2.1:Value).ownBlock∧some k_≠(v183:Value).ownBlock) (.slice Ao23 t189.length co23) t189)∧(Kd.R (Kd.int .u8) 5 w' w.heap.size (fun k_=>some k_≠(s_.1:Value).ownBlock∧some k_≠(s_.2.1:Value).ownBlock∧some k_≠(.slice Ao23 t189.length co23:Value).ownBlock) v183 t182)∧(w'.heap[gb179]?=some (.cells #[.slice A0_0 l0_0.length c0_0,.slice A0_1 l0_1.length c0_1] 24 (0,0)))∧(w'.heap[gb180]?=some (.cells #[.int .i64 a1_0,.int .i64 a1_1,.int .i64 a1_2,.slice A1_3 l1_3.length c1_3] 26 (0,0)))∧(w'.heap[gb181]?=some (.cells #[.slice none 0 0,.slice none 0 0] 24 (0,0)))∧(w'.heap[gb194]?=some (.cells #[.int .i64 t186,.int .i64 t187,.int .i64 t188,.slice Ao23 t189.length co23] 26 (0,0)))∧(w'.heap[s_.2.2]?=some (.cells #[.slice none 0 0,.slice none 0 0] 58 (0,0)))∧(w.heap.size≤s_.2.2)∧(w.heap.size≤s_.2.2)∧(gb179≠s_.2.2)∧(s_.2.2≠gb179)∧(gb180≠s_.2.2)∧(s_.2.2≠gb180)∧(gb181≠s_.2.2)∧(s_.2.2≠gb181)∧(gb194≠s_.2.2)∧(s_.2.2≠gb194)∧(Below w.heap.size w w')) ?_ ?_
           rotate_left
           ·intro hCont
            refine Uq (i:=2) (j:=7) (Ni:=some 49) (Nj:=some 15) (bN 9 31) (bN 9 155) rfl rfl rfl rfl (Ju HT_.out kr) (by decide) (by decide) (fun K hK=>?_) (fun K hK=>?_)
            ·skip
             refine Jh Tryd.func24 kr rfl #[.slice A0_0 l0_0.length c0_0] (by rfl) rfl rfl qM ?_
             with_reducible refine(bytes_Clone.calls _ _ l0_0 t195 _ ?side1 ?side2 A41.out).mono ?_
             (case side1=>exact(Kd.Zb HR0_0.out HB.out))
             (case side2=>exact HC0_0.out)
             rintro e w48 ⟨v196,rfl,ho0,hb⟩
             refine⟨_,rfl, ?_⟩
             have HO197:=Aside0.mk (Kd.Zd (Kd.Zi (Kd.Zi ho0 (Kd.Zp HO_9.out)) (Kd.Zp HO_195003.out)) (Qj HB.out))
             replace HO_9:=Aside0.mk (Kd.Zj HO_9.out (Kd.Q5 ho0) hb)
             replace HO_195003:=Aside0.mk (Kd.Zj HO_195003.out (Kd.Q5 ho0) hb)
             replace BK179:=sBk BK179 hb
             replace BK180:=sBk BK180 hb
             replace BK181:=sBk BK181 hb
             replace BK194:=sBk BK194 hb
             replace HB:=sHb hb
             (try clear hb)
             (try clear hb2)
             (try clear hk)
             (try clear hi)
             (try clear ho0)
             refine hK.out _ _ ⟨qc BK179,qc BK179⟩ (fun hHeld=>?_)
             clear hK K
             refine qN (some 49) ?_
             refine Uq (i:=5) (j:=7) (Ni:=some 52) (Nj:=some 15) (bN 9 63) (bN 9 159) rfl rfl rfl rfl (Ju HT_.out kr) (by decide) (by decide) (fun K hK=>?_) (fun K hK=>?_)
             ·skip
              refine Jh Tryd.func24 kr rfl #[.slice A0_1 l0_1.length c0_1] (by rfl) rfl rfl qM ?_
              with_reducible refine(bytes_Clone.calls _ _ l0_1 t198 _ ?side1 ?side2 A42.out).mono ?_
              (case side1=>exact(Kd.Zb HR0_1.out HB.out))
              (case side2=>exact HC0_1.out)
              rintro e w49 ⟨v199,rfl,ho0,hb⟩
              refine⟨_,rfl, ?_⟩
              have HO200:=Aside0.mk (Kd.Zd (Kd.Zi (Kd.Zi (Kd.Zi ho0 (Kd.Zp HO_9.out)) (Kd.Zp HO_195003.out)) (Kd.Zp HO197.out)) (Qj HB.out))
              replace HO_9:=Aside0.mk (Kd.Zj HO_9.out (Kd.Q5 ho0) hb)
              replace HO_195003:=Aside0.mk (Kd.Zj HO_195003.out (Kd.Q5 ho0) hb)
              replace HO197:=Aside0.mk (Kd.Zj HO197.out (Kd.Q5 ho0) hb)
              replace BK179:=sBk BK179 hb
              replace BK180:=sBk BK180 hb
              replace BK181:=sBk BK181 hb
              replace BK194:=sBk BK194 hb
              replace HB:=sHb hb
              (try clear hb)
              (try clear hb2)
              (try clear hk)
              (try clear hi)
              (try clear ho0)
              obtain⟨Ao50,co50,eo50⟩:=Kd.Zf HO200.out
              (first|subst eo50|(injection eo50 with f1_ f2_ f3_;have f4_:=f1_.symm;have f5_:=f3_.symm;clear f1_ f2_ f3_;subst f4_;subst f5_))
              obtain⟨Ao51,co51,eo51⟩:=Kd.Zf HO197.out
              (first|subst eo51|(injection eo51 with f1_ f2_ f3_;have f4_:=f1_.symm;have f5_:=f3_.symm;clear f1_ f2_ f3_;subst f4_;subst f5_))
              refine hK.out _ _ ⟨qc BK179,qc BK179⟩ (fun hHeld=>?_)
              clear hK K
              refine qN (some 52) ?_
              refine qP 6 (some 53) (bN 9 127) HT_ ?_
              refine Ye (i:=7) (N:=some 15) (bN 9 255) rfl rfl (Z3 HT_.out kr) (by decide) (fun K hK=>?_)
              refine Xy ?hg (N:=15) ?hd (cs:=#[.slice none 0 0,.slice none 0 0]) (t:=58) ?hr ?_;(case hd=>rfl);(case hg=>rfl);(case hr=>go_simp <;> rfl)
              intro gb201 hg w52 hbox hb
              have BK201:=Aside0.mk hbox
              have GW201:=sGe hg
              have GE201:=sGe hg
              have NB179_201:=sNl BK179 hg
              have NB201_179:=sNg BK179 hg
              have NB180_201:=sNl BK180 hg
              have NB201_180:=sNg BK180 hg
              have NB181_201:=sNl BK181 hg
              have NB201_181:=sNg BK181 hg
              have NB194_201:=sNl BK194 hg
              have NB201_194:=sNg BK194 hg
              replace HO_9:=sRb HO_9 hb
              replace HO_195003:=sRb HO_195003 hb
              replace HO197:=sRb HO197 hb
              replace HO200:=sRb HO200 hb
              replace BK179:=sBk BK179 hb
              replace BK180:=sBk BK180 hb
              replace BK181:=sBk BK181 hb
              replace BK194:=sBk BK194 hb
              replace HB:=sHb hb
              clear hb hbox hg
              refine hK.out _ _ ⟨qc BK179,qc BK179⟩ (fun hHeld=>?_)
              clear hK K
              refine qN (some 15) ?_
              exact Yt (by simp only[Xv,Act.put,qS]) (hCont (.slice Ao51 t195.length co51,.slice Ao50 t198.length co50,gb201) _ ⟨hHeld,(by(with_reducible repeat first|apply Kd.Qi|apply Kd.Qh|apply Kd.Ql);exact Kd.Qu HO197.out (fun _ hk=>⟨hk.2,⟨hk.1.2,hk.1.1.2⟩⟩)),(by(with_reducible repeat first|apply Kd.Qi|apply Kd.Qh|apply Kd.Ql);exact Kd.Qu HO200.out (fun _ hk=>⟨hk.2,⟨hk.1.2,hk.1.1.2⟩⟩)),(by(with_reducible repeat first|apply Kd.Qi|apply Kd.Qh|apply Kd.Ql);exact Kd.Qu HO_195003.out (fun _ hk=>⟨hk.1.2,⟨hk.2,hk.1.1⟩⟩)),(by(with_reducible repeat first|apply Kd.Qi|apply Kd.Qh|apply Kd.Ql);exact Kd.Qu HO_9.out (fun _ hk=>⟨hk.1.2,⟨hk.2,hk.1.1⟩⟩)),BK179.out,BK180.out,BK181.out,BK194.out,BK201.out,GW201.out,GE201.out,NB179_201.out,NB201_179.out,NB180_201.out,NB201_180.out,NB181_201.out,NB201_181.out,NB194_201.out,NB201_194.out,HB.out⟩)
             ·skip
              refine Xy ?hg (N:=15) ?hd (cs:=#[.slice none 0 0,.slice none 0 0]) (t:=58) ?hr ?_;(case hd=>rfl);(case hg=>rfl);(case hr=>go_simp <;> rfl)
              intro gb201 hg w49 hbox hb
              have BK201:=Aside0.mk hbox
              have GW201:=sGe hg
              have GE201:=sGe hg
              have NB179_201:=sNl BK179 hg
              have NB201_179:=sNg BK179 hg
              have NB180_201:=sNl BK180 hg
              have NB201_180:=sNg BK180 hg
              have NB181_201:=sNl BK181 hg
              have NB201_181:=sNg BK181 hg
              have NB194_201:=sNl BK194 hg
              have NB201_194:=sNg BK194 hg
              replace HO_9:=sRb HO_9 hb
              replace HO_195003:=sRb HO_195003 hb
              replace HO197:=sRb HO197 hb
              replace BK179:=sBk BK179 hb
              replace BK180:=sBk BK180 hb
              replace BK181:=sBk BK181 hb
              replace BK194:=sBk BK194 hb
              replace HB:=sHb hb
              clear hb hbox hg
              refine hK.out _ _ ⟨qc BK179,qc BK179⟩ (fun hHeld=>?_)
              clear hK K
              refine qN (some 15) ?_
              refine Ye (i:=5) (N:=some 52) (bN 9 191) rfl rfl (Z3 HT_.out kr) (by decide) (fun K hK=>?_)
              refine Jh Tryd.func24 kr rfl #[.slice A0_1 l0_1.length c0_1] (by rfl) rfl rfl qM ?_
              with_reducible refine(bytes_Clone.calls _ _ l0_1 t198 _ ?side1 ?side2 A42.out).mono ?_
              (case side1=>exact(Kd.Zb HR0_1.out HB.out))
              (case side2=>exact HC0_1.out)
              rintro e w50 ⟨v199,rfl,ho0,hb⟩
              refine⟨_,rfl, ?_⟩
              have HO200:=Aside0.mk (Kd.Zd (Kd.Zi (Kd.Zi (Kd.Zi ho0 (Kd.Zp HO_9.out)) (Kd.Zp HO_195003.out)) (Kd.Zp HO197.out)) (Qj HB.out))
              replace HO_9:=Aside0.mk (Kd.Zj HO_9.out (Kd.Q5 ho0) hb)
              replace HO_195003:=Aside0.mk (Kd.Zj HO_195003.out (Kd.Q5 ho0) hb)
              replace HO197:=Aside0.mk (Kd.Zj HO197.out (Kd.Q5 ho0) hb)
              replace BK179:=sBk BK179 hb
              replace BK180:=sBk BK180 hb
              replace BK181:=sBk BK181 hb
              replace BK194:=sBk BK194 hb
              replace BK201:=sBk BK201 hb
              replace HB:=sHb hb
              (try clear hb)
              (try clear hb2)
              (try clear hk)
              (try clear hi)
              (try clear ho0)
              obtain⟨Ao51,co51,eo51⟩:=Kd.Zf HO200.out
              (first|subst eo51|(injection eo51 with f1_ f2_ f3_;have f4_:=f1_.symm;have f5_:=f3_.symm;clear f1_ f2_ f3_;subst f4_;subst f5_))
              obtain⟨Ao52,co52,eo52⟩:=Kd.Zf HO197.out
              (first|subst eo52|(injection eo52 with f1_ f2_ f3_;have f4_:=f1_.symm;have f5_:=f3_.symm;clear f1_ f2_ f3_;subst f4_;subst f5_))
              refine hK.out _ _ ⟨qc BK179,qc BK179⟩ (fun hHeld=>?_)
              clear hK K
              refine qN (some 52) ?_
              refine qP 6 (some 53) (bN 9 255) HT_ ?_
              exact Yt (by simp only[Xv,Act.put,qS]) (hCont (.slice Ao52 t195.length co52,.slice Ao51 t198.length co51,gb201) _ ⟨hHeld,(by(with_reducible repeat first|apply Kd.Qi|apply Kd.Qh|apply Kd.Ql);exact Kd.Qu HO197.out (fun _ hk=>⟨hk.2,⟨hk.1.2,hk.1.1.2⟩⟩)),(by(with_reducible repeat first|apply Kd.Qi|apply Kd.Qh|apply Kd.Ql);exact Kd.Qu HO200.out (fun _ hk=>⟨hk.2,⟨hk.1.2,hk.1.1.2⟩⟩)),(by(with_reducible repeat first|apply Kd.Qi|apply Kd.Qh|apply Kd.Ql);exact Kd.Qu HO_195003.out (fun _ hk=>⟨hk.1.2,⟨hk.2,hk.1.1⟩⟩)),(by(with_reducible repeat first|apply Kd.Qi|apply Kd.Qh|apply Kd.Ql);exact Kd.Qu HO_9.out (fun _ hk=>⟨hk.1.2,⟨hk.2,hk.1.1⟩⟩)),BK179.out,BK180.out,BK181.out,BK194.out,BK201.out,GW201.out,GE201.out,NB179_201.out,NB201_179.out,NB180_201.out,NB201_180.out,NB181_201.out,NB201_181.out,NB194_201.out,NB201_194.out,HB.out⟩)
            ·skip
             refine Xy ?hg (N:=15) ?hd (cs:=#[.slice none 0 0,.slice none 0 0]) (t:=58) ?hr ?_;(case hd=>rfl);(case hg=>rfl);(case hr=>go_simp <;> rfl)
             intro gb201 hg w48 hbox hb
             have BK201:=Aside0.mk hbox
             have GW201:=sGe hg
             have GE201:=sGe hg
             have NB179_201:=sNl BK179 hg
             have NB201_179:=sNg BK179 hg
             have NB180_201:=sNl BK180 hg
             have NB201_180:=sNg BK180 hg
             have NB181_201:=sNl BK181 hg
             have NB201_181:=sNg BK181 hg
             have NB194_201:=sNl BK194 hg
             have NB201_194:=sNg BK194 hg
             replace HO_9:=sRb HO_9 hb
             replace HO_195003:=sRb HO_195003 hb
             replace BK179:=sBk BK179 hb
             replace BK180:=sBk BK180 hb
             replace BK181:=sBk BK181 hb
             replace BK194:=sBk BK194 hb
             replace HB:=sHb hb
             clear hb hbox hg
             refine hK.out _ _ ⟨qc BK179,qc BK179⟩ (fun hHeld=>?_)
             clear hK K
             refine qN (some 15) ?_
             refine Ye (i:=2) (N:=some 49) (bN 9 159) rfl rfl (Z3 HT_.out kr) (by decide) (fun K hK=>?_)
             refine Jh Tryd.func24 kr rfl #[.slice A0_0 l0_0.length c0_0] (by rfl) rfl rfl qM ?_
             with_reducible refine(bytes_Clone.calls _ _ l0_0 t195 _ ?side1 ?side2 A41.out).mono ?_
             (case side1=>exact(Kd.Zb HR0_0.out HB.out))
             (case side2=>exact HC0_0.out)
             rintro e w49 ⟨v196,rfl,ho0,hb⟩
             refine⟨_,rfl, ?_⟩
             have HO197:=Aside0.mk (Kd.Zd (Kd.Zi (Kd.Zi ho0 (Kd.Zp HO_9.out)) (Kd.Zp HO_195003.out)) (Qj HB.out))
             replace HO_9:=Aside0.mk (Kd.Zj HO_9.out (Kd.Q5 ho0) hb)
             replace HO_195003:=Aside0.mk (Kd.Zj HO_195003.out (Kd.Q5 ho0) hb)
             replace BK179:=sBk BK179 hb
             replace BK180:=sBk BK180 hb
             replace BK181:=sBk BK181 hb
             replace BK194:=sBk BK194 hb
             replace BK201:=sBk BK201 hb
             replace HB:=sHb hb
             (try clear hb)
             (try clear hb2)
             (try clear hk)
             (try clear hi)
             (try clear ho0)
             refine hK.out _ _ ⟨qc BK179,qc BK179⟩ (fun hHeld=>?_)
             clear hK K
             refine qN (some 49) ?_
             refine Ye (i:=5) (N:=some 52) (bN 9 191) rfl rfl (Z3 HT_.out kr) (by decide) (fun K hK=>?_)
             refine Jh Tryd.func24 kr rfl #[.slice A0_1 l0_1.length c0_1] (by rfl) rfl rfl qM ?_
             with_reducible refine(bytes_Clone.calls _ _ l0_1 t198 _ ?side1 ?side2 A42.out).mono ?_
             (case side1=>exact(Kd.Zb HR0_1.out HB.out))
             (case side2=>exact HC0_1.out)
             rintro e w50 ⟨v199,rfl,ho0,hb⟩
             refine⟨_,rfl, ?_⟩
             have HO200:=Aside0.mk (Kd.Zd (Kd.Zi (Kd.Zi (Kd.Zi ho0 (Kd.Zp HO_9.out)) (Kd.Zp HO_195003.out)) (Kd.Zp HO197.out)) (Qj HB.out))
             replace HO_9:=Aside0.mk (Kd.Zj HO_9.out (Kd.Q5 ho0) hb)
             replace HO_195003:=Aside0.mk (Kd.Zj HO_195003.out (Kd.Q5 ho0) hb)
             replace HO197:=Aside0.mk (Kd.Zj HO197.out (Kd.Q5 ho0) hb)
             replace BK179:=sBk BK179 hb
             replace BK180:=sBk BK180 hb
             replace BK181:=sBk BK181 hb
             replace BK194:=sBk BK194 hb
             replace BK201:=sBk BK201 hb
             replace HB:=sHb hb
             (try clear hb)
             (try clear hb2)
             (try clear hk)
             (try clear hi)
             (try clear ho0)
             obtain⟨Ao51,co51,eo51⟩:=Kd.Zf HO200.out
             (first|subst eo51|(injection eo51 with f1_ f2_ f3_;have f4_:=f1_.symm;have f5_:=f3_.symm;clear f1_ f2_ f3_;subst f4_;subst f5_))
             obtain⟨Ao52,co52,eo52⟩:=Kd.Zf HO197.out
             (first|subst eo52|(injection eo52 with f1_ f2_ f3_;have f4_:=f1_.symm;have f5_:=f3_.symm;clear f1_ f2_ f3_;subst f4_;subst f5_))
             refine hK.out _ _ ⟨qc BK179,qc BK179⟩ (fun hHeld=>?_)
             clear hK K
             refine qN (some 52) ?_
             refine qP 6 (some 53) (bN 9 255) HT_ ?_
             exact Yt (by simp only[Xv,Act.put,qS]) (hCont (.slice Ao52 t195.length co52,.slice Ao51 t198.length co51,gb201) _ ⟨hHeld,(by(with_reducible repeat first|apply Kd.Qi|apply Kd.Qh|apply Kd.Ql);exact Kd.Qu HO197.out (fun _ hk=>⟨hk.2,⟨hk.1.2,hk.1.1.2⟩⟩)),(by(with_reducible repeat first|apply Kd.Qi|apply Kd.Qh|apply Kd.Ql);exact Kd.Qu HO200.out (fun _ hk=>⟨hk.2,⟨hk.1.2,hk.1.1.2⟩⟩)),(by(with_reducible repeat first|apply Kd.Qi|apply Kd.Qh|apply Kd.Ql);exact Kd.Qu HO_195003.out (fun _ hk=>⟨hk.1.2,⟨hk.2,hk.1.1⟩⟩)),(by(with_reducible repeat first|apply Kd.Qi|apply Kd.Qh|apply Kd.Ql);exact Kd.Qu HO_9.out (fun _ hk=>⟨hk.1.2,⟨hk.2,hk.1.1⟩⟩)),BK179.out,BK180.out,BK181.out,BK194.out,BK201.out,GW201.out,GE201.out,NB179_201.out,NB201_179.out,NB180_201.out,NB201_180.out,NB181_201.out,NB201_181.out,NB194_201.out,NB201_194.out,HB.out⟩)
           rintro⟨v196,v199,gb201⟩ w53 ⟨hS_,h0_,h1_,h2_,h3_,h4_,h5_,h6_,h7_,h8_,h9_,h10_,h11_,h12_,h13_,h14_,h15_,h16_,h17_,h18_,h19_⟩
           have n0_:Aside0 (Kd.R (Kd.int .u8) 5 w53 w.heap.size (fun k_=>some k_≠(v199:Value).ownBlock∧some k_≠(.slice Ao23 t189.length co23:Value).ownBlock∧some k_≠(v183:Value).ownBlock) v196 t195):=⟨h0_⟩
           have n1_:Aside0 (Kd.R (Kd.int .u8) 5 w53 w.heap.size (fun k_=>some k_≠(v196:Value).ownBlock∧some k_≠(.slice Ao23 t189.length co23:Value).ownBlock∧some k_≠(v183:Value).ownBlock) v199 t198):=⟨h1_⟩
           have n2_:Aside0 (Kd.R (Kd.int .u8) 5 w53 w.heap.size (fun k_=>some k_≠(v196:Value).ownBlock∧some k_≠(v199:Value).ownBlock∧some k_≠(v183:Value).ownBlock) (.slice Ao23 t189.length co23) t189):=⟨h2_⟩
           have n3_:Aside0 (Kd.R (Kd.int .u8) 5 w53 w.heap.size (fun k_=>some k_≠(v196:Value).ownBlock∧some k_≠(v199:Value).ownBlock∧some k_≠(.slice Ao23 t189.length co23:Value).ownBlock) v183 t182):=⟨h3_⟩
           have n4_:Aside0 (w53.heap[gb179]?=some (.cells #[.slice A0_0 l0_0.length c0_0,.slice A0_1 l0_1.length c0_1] 24 (0,0))):=⟨h4_⟩
           have n5_:Aside0 (w53.heap[gb180]?=some (.cells #[.int .i64 a1_0,.int .i64 a1_1,.int .i64 a1_2,.slice A1_3 l1_3.length c1_3] 26 (0,0))):=⟨h5_⟩
           have n6_:Aside0 (w53.heap[gb181]?=some (.cells #[.slice none 0 0,.slice none 0 0] 24 (0,0))):=⟨h6_⟩
           have n7_:Aside0 (w53.heap[gb194]?=some (.cells #[.int .i64 t186,.int .i64 t187,.int .i64 t188,.slice Ao23 t189.length co23] 26 (0,0))):=⟨h7_⟩
           have n8_:Aside0 (w53.heap[gb201]?=some (.cells #[.slice none 0 0,.slice none 0 0] 58 (0,0))):=⟨h8_⟩
           have n9_:Aside0 (w.heap.size≤gb201):=⟨h9_⟩
           have n10_:Aside0 (w.heap.size≤gb201):=⟨h10_⟩
           have n11_:Aside0 (gb179≠gb201):=⟨h11_⟩
           have n12_:Aside0 (gb201≠gb179):=⟨h12_⟩
           have n13_:Aside0 (gb180≠gb201):=⟨h13_⟩
           have n14_:Aside0 (gb201≠gb180):=⟨h14_⟩
           have n15_:Aside0 (gb181≠gb201):=⟨h15_⟩
           have n16_:Aside0 (gb201≠gb181):=⟨h16_⟩
           have n17_:Aside0 (gb194≠gb201):=⟨h17_⟩
           have n18_:Aside0 (gb201≠gb194):=⟨h18_⟩
           have n19_:Aside0 (Below w.heap.size w w53):=⟨h19_⟩
           clear HO_9
           clear HO_195003
           clear BK179
           clear BK180
           clear BK181
           clear BK194
           clear HB
           clear h0_ h1_ h2_ h3_ h4_ h5_ h6_ h7_ h8_ h9_ h10_ h11_ h12_ h13_ h14_ h15_ h16_ h17_ h18_ h19_
           have HO197:=n0_
           have HO200:=n1_
           have HO_195003:=n2_
           have HO_9:=n3_
           have BK179:=n4_
           have BK180:=n5_
           have BK181:=n6_
           have BK194:=n7_
           have BK201:=n8_
           have GW201:=n9_
           have GE201:=n10_
           have NB179_201:=n11_
           have NB201_179:=n12_
           have NB180_201:=n13_
           have NB201_180:=n14_
           have NB181_201:=n15_
           have NB201_181:=n16_
           have NB194_201:=n17_
           have NB201_194:=n18_
           have HB:=n19_
           clear n0_ n1_ n2_ n3_ n4_ n5_ n6_ n7_ n8_ n9_ n10_ n11_ n12_ n13_ n14_ n15_ n16_ n17_ n18_ n19_
           have hHeld:w53.cell? ⟨gb179,0,none⟩=some (.slice A0_0 l0_0.length c0_0)∧w53.cell? ⟨gb179,1,none⟩=some (.slice A0_1 l0_1.length c0_1):=hS_
           obtain⟨Ao54,co54,eo54⟩:=Kd.Zf HO200.out
           (first|subst eo54|(injection eo54 with f1_ f2_ f3_;have f4_:=f1_.symm;have f5_:=f3_.symm;clear f1_ f2_ f3_;subst f4_;subst f5_))
           obtain⟨Ao55,co55,eo55⟩:=Kd.Zf HO197.out
           (first|subst eo55|(injection eo55 with f1_ f2_ f3_;have f4_:=f1_.symm;have f5_:=f3_.symm;clear f1_ f2_ f3_;subst f4_;subst f5_))
           refine Yt (a':=?_) ?_ ?_
           rotate_left
           ·simp only[Xv,Act.put,qS]
            rfl
           refine Ye (i:=8) (N:=none) (bN 9 511) rfl rfl (Z3 HT_.out kr) (by decide) (fun K hK=>?_)
           have hs56:w53.cell? ⟨gb201,0,none⟩=some (.slice none 0 0):=(Q3 BK201.out 0).trans rfl
           have hfs56:=Q6 BK201.out 0
           have hns56_0:=NB179_201.out
           have hns56_1:=NB180_201.out
           have hns56_2:=NB181_201.out
           have hns56_3:=NB194_201.out
           have hms56_0:=NB201_179.out
           have hms56_1:=NB201_180.out
           have hms56_2:=NB201_181.out
           have hms56_3:=NB201_194.out
           have hs57:w53.cell? ⟨gb201,1,none⟩=some (.slice none 0 0):=(Q3 BK201.out 1).trans rfl
           have hfs57:=Q6 BK201.out 1
           have hns57_0:=NB179_201.out
           have hns57_1:=NB180_201.out
           have hns57_2:=NB181_201.out
           have hns57_3:=NB194_201.out
           have hms57_0:=NB201_179.out
           have hms57_1:=NB201_180.out
           have hms57_2:=NB201_181.out
           have hms57_3:=NB201_194.out
           refine J0 (w1:=?_) (by rfl) rfl ?_ ?_
           rotate_left
           ·go_simp
            rfl
           refine hK.out _ _ ⟨(by rw[cell_far,cell_far];all_goals (first|(with_reducible exact hHeld.1)|(with_reducible exact NB179_201.out))),(by rw[cell_far,cell_far];all_goals (first|(with_reducible exact hHeld.2)|(with_reducible exact NB179_201.out)))⟩ (fun hHeld=>?_)
           clear hK K
           refine Jc (Yi HT_.out kr) ?_
           obtain⟨Ao58,co58,eo58⟩:=Kd.Zf HO_9.out
           subst eo58
           try go_wp2
           have n0_:Aside0 (Kd.R (Kd.int .u8) 5 ((w53.setCell ⟨gb201,0,none⟩ (.slice Ao55 t195.length co55)).setCell ⟨gb201,1,none⟩ (.slice Ao54 t198.length co54)) w.heap.size (fun k_=>some k_≠(.slice Ao23 t189.length co23:Value).ownBlock∧some k_≠(.slice Ao55 t195.length co55:Value).ownBlock∧some k_≠(.slice Ao54 t198.length co54:Value).ownBlock) (.slice Ao58 t182.length co58) t182):=⟨by(with_reducible repeat first|apply Kd.Qi|apply Kd.Qh|apply Kd.Ql);exact Kd.Qu (Kd.Qm (Kd.Qm (Kd.Qy HO_9.out BK201.out (by decide)) (fun _ hk=>hk.2) _) (fun _ hk=>hk.2) _) (fun _ hk=>⟨hk.1.2.2,⟨hk.1.1,hk.1.2.1⟩⟩)⟩
           have n1_:Aside0 (Kd.R (Kd.int .u8) 5 ((w53.setCell ⟨gb201,0,none⟩ (.slice Ao55 t195.length co55)).setCell ⟨gb201,1,none⟩ (.slice Ao54 t198.length co54)) w.heap.size (fun k_=>some k_≠(.slice Ao58 t182.length co58:Value).ownBlock∧some k_≠(.slice Ao55 t195.length co55:Value).ownBlock∧some k_≠(.slice Ao54 t198.length co54:Value).ownBlock) (.slice Ao23 t189.length co23) t189):=⟨by(with_reducible repeat first|apply Kd.Qi|apply Kd.Qh|apply Kd.Ql);exact Kd.Qu (Kd.Qm (Kd.Qm (Kd.Qy HO_195003.out BK201.out (by decide)) (fun _ hk=>hk.2) _) (fun _ hk=>hk.2) _) (fun _ hk=>⟨hk.1.2.2,⟨hk.1.1,hk.1.2.1⟩⟩)⟩
           have n2_:Aside0 (Kd.R (Kd.int .u8) 5 ((w53.setCell ⟨gb201,0,none⟩ (.slice Ao55 t195.length co55)).setCell ⟨gb201,1,none⟩ (.slice Ao54 t198.length co54)) w.heap.size (fun k_=>some k_≠(.slice Ao58 t182.length co58:Value).ownBlock∧some k_≠(.slice Ao23 t189.length co23:Value).ownBlock∧some k_≠(.slice Ao54 t198.length co54:Value).ownBlock) (.slice Ao55 t195.length co55) t195):=⟨by(with_reducible repeat first|apply Kd.Qi|apply Kd.Qh|apply Kd.Ql);exact Kd.Qu (Kd.Qm (Kd.Qm (Kd.Qy HO197.out BK201.out (by decide)) (fun _ hk=>hk.2) _) (fun _ hk=>hk.2) _) (fun _ hk=>⟨hk.1.2.2,⟨hk.1.2.1,hk.1.1⟩⟩)⟩
           have n3_:Aside0 (Kd.R (Kd.int .u8) 5 ((w53.setCell ⟨gb201,0,none⟩ (.slice Ao55 t195.length co55)).setCell ⟨gb201,1,none⟩ (.slice Ao54 t198.length co54)) w.heap.size (fun k_=>some k_≠(.slice Ao58 t182.length co58:Value).ownBlock∧some k_≠(.slice Ao23 t189.length co23:Value).ownBlock∧some k_≠(.slice Ao55 t195.length co55:Value).ownBlock) (.slice Ao54 t198.length co54) t198):=⟨by(with_reducible repeat first|apply Kd.Qi|apply Kd.Qh|apply Kd.Ql);exact Kd.Qu (Kd.Qm (Kd.Qm (Kd.Qy HO200.out BK201.out (by decide)) (fun _ hk=>hk.2) _) (fun _ hk=>hk.2) _) (fun _ hk=>⟨hk.1.2.2,⟨hk.1.2.1,hk.1.1⟩⟩)⟩
           have n4_:Aside0 (((w53.setCell ⟨gb201,0,none⟩ (.slice Ao55 t195.length co55)).setCell ⟨gb201,1,none⟩ (.slice Ao54 t198.length co54)).heap[gb179]?=some (.cells #[.slice A0_0 l0_0.length c0_0,.slice A0_1 l0_1.length c0_1] 24 (0,0))):=⟨bka BK179⟩
           have n5_:Aside0 (((w53.setCell ⟨gb201,0,none⟩ (.slice Ao55 t195.length co55)).setCell ⟨gb201,1,none⟩ (.slice Ao54 t198.length co54)).heap[gb180]?=some (.cells #[.int .i64 a1_0,.int .i64 a1_1,.int .i64 a1_2,.slice A1_3 l1_3.length c1_3] 26 (0,0))):=⟨bka BK180⟩
           have n6_:Aside0 (((w53.setCell ⟨gb201,0,none⟩ (.slice Ao55 t195.length co55)).setCell ⟨gb201,1,none⟩ (.slice Ao54 t198.length co54)).heap[gb181]?=some (.cells #[.slice none 0 0,.slice none 0 0] 24 (0,0))):=⟨bka BK181⟩
           have n7_:Aside0 (((w53.setCell ⟨gb201,0,none⟩ (.slice Ao55 t195.length co55)).setCell ⟨gb201,1,none⟩ (.slice Ao54 t198.length co54)).heap[gb194]?=some (.cells #[.int .i64 t186,.int .i64 t187,.int .i64 t188,.slice Ao23 t189.length co23] 26 (0,0))):=⟨bka BK194⟩
           have n8_:Aside0 (((w53.setCell ⟨gb201,0,none⟩ (.slice Ao55 t195.length co55)).setCell ⟨gb201,1,none⟩ (.slice Ao54 t198.length co54)).heap[gb201]?=some (.cells #[.slice Ao55 t195.length co55,.slice Ao54 t198.length co54] 58 (0,0))):=⟨by refine Qk (cs:=#[.slice Ao55 t195.length co55,.slice none 0 0]) ?_ 1 _ rfl;refine Qk (cs:=#[.slice none 0 0,.slice none 0 0]) ?_ 0 _ rfl;exact BK201.out⟩
           have n9_:Aside0 (Below w.heap.size w ((w53.setCell ⟨gb201,0,none⟩ (.slice Ao55 t195.length co55)).setCell ⟨gb201,1,none⟩ (.slice Ao54 t198.length co54))):=⟨bel⟩
           (try clear HO_9)
           (try clear HO_195003)
           (try clear HO197)
           (try clear HO200)
           (try clear BK179)
           (try clear BK180)
           (try clear BK181)
           (try clear BK194)
           (try clear BK201)
           (try clear HB)
           generalize((w53.setCell ⟨gb201,0,none⟩ (.slice Ao55 t195.length co55)).setCell ⟨gb201,1,none⟩ (.slice Ao54 t198.length co54))=w59 at n0_ n1_ n2_ n3_ n4_ n5_ n6_ n7_ n8_ n9_ ⊢
           have HO_9:=n0_
           have HO_195003:=n1_
           have HO197:=n2_
           have HO200:=n3_
           have BK179:=n4_
           have BK180:=n5_
           have BK181:=n6_
           have BK194:=n7_
           have BK201:=n8_
           have HB:=n9_
           clear n0_ n1_ n2_ n3_ n4_ n5_ n6_ n7_ n8_ n9_
           replace HO_9:=Aside0.mk (Kd.Ql HO_9.out)
           replace HO_195003:=Aside0.mk (Kd.Ql HO_195003.out)
           replace HO197:=Aside0.mk (Kd.Ql HO197.out)
           replace HO200:=Aside0.mk (Kd.Ql HO200.out)
           replace BK179:=Aside0.mk (Qd BK179.out)
           replace BK180:=Aside0.mk (Qd BK180.out)
           replace BK181:=Aside0.mk (Qd BK181.out)
           replace BK194:=Aside0.mk (Qd BK194.out)
           replace BK201:=Aside0.mk (Qd BK201.out)
           replace HB:=Aside0.mk (Qf HB.out)
           have q61:((ji44):Int)≤((t182.length:Int):Int):=of_decide_eq_true (by assumption)
           obtain⟨i061,hi061,_,hsz61,_⟩:=info_parts Zx
           have hroom61:t182.length≤co58:=(Kd.Q4 HO_9.out).2.1
           have hC61:Kd.C (Kd.int .u8) _ Ao58 t182.length t182:=(Kd.Q4 HO_9.out).2.2
           have hcut61:=Yr (P:=Tryd.prog) 22 5 .i64 Tryd.underlying22 hi061 Ao58 t182.length co58 (ji44) (of_decide_eq_true (by assumption)) q61 hroom61
           have hr61:=Kd.Vr (m:=((ji44):Int).toNat) hC61 (by omega)
           have hy61:y202.length=((ji44):Int).toNat:=(by rw[Ny202.out,List.length_take];omega)
           rw[← Ny202.out] at hr61
           rw[← hy61] at hcut61
           have HR205:=Aside0.mk hr61
           have HC205:=Aside0.mk (show y202.length≤co58 from by omega)
           clear hr61 hC61 hroom61 hi061 hsz61
           have KY61:=Aside0.mk hy61
           clear hy61
           have KL61:=Aside0.mk (show((ji44):Int).toNat≤t182.length from by omega)
           replace q61:=eq_true q61
           cases x14_38
           ·skip
            refine Yp (n:=11) (S:=fun w'=>True) (ds:=[]) #[false,false,false,false,false,false,false,false,false,false,false] kr rfl rfl trivial (fun hHeld=>?_);refine Xh flash_Write.Ej flash_Write.M7 (fun HT_ HW_=>?_)
            generalize w59.drew=w60 at HO_9 HO_195003 HO197 HO200 BK179 BK180 BK181 BK194 BK201 HB HR205 hHeld ⊢
            refine qP 0 (some 58) (bN 11 1) HT_ ?_
            refine qP 2 (some 60) (bN 11 5) HT_ ?_
            refine qP 3 (some 61) (bN 11 13) HT_ ?_
            refine qP 4 (some 62) (bN 11 29) HT_ ?_
            refine qP 5 (some 63) (bN 11 61) HT_ ?_
            refine qP 6 (some 64) (bN 11 125) HT_ ?_
            refine qP 7 (some 65) (bN 11 253) HT_ ?_
            refine qP 8 (some 66) (bN 11 509) HT_ ?_
            refine Ye (i:=1) (N:=some 59) (bN 11 511) rfl rfl (Z3 HT_.out kr) (by decide) (fun K hK=>?_)
            refine Mt Tryd.func22 kr rfl #[.pointer (some ⟨gb201,0,none⟩)] (by rfl) rfl rfl rfl qM ?_
            refine(Vz gb201 _).mono ?_
            rintro e w' ⟨rfl,hw'⟩
            rw[hw']
            clear hw'
            refine⟨_,rfl, ?_⟩
            refine hK.out _ _ trivial (fun hHeld=>?_)
            clear hK K
            refine qN (some 59) ?_
            refine qP 9 (some 67) (bN 11 1023) HT_ ?_
            refine Ye (i:=10) (N:=none) (bN 11 2047) rfl rfl (Z3 HT_.out kr) (by decide) (fun K hK=>?_)
            have hs900:w60.cell? ⟨gb201,1,none⟩=some (.slice Ao54 t198.length co54):=(Q3 BK201.out 1).trans rfl
            have hfs900:=Q6 BK201.out 1
            refine J0 (w1:=?_) (by rfl) rfl ?_ ?_
            rotate_left
            ·go_simp
             rfl
            refine hK.out _ _ trivial (fun hHeld=>?_)
            clear hK K
            refine Jc (Yi HT_.out kr) ?_
            have m0_:=Aside0.mk (Kd.Qm (p:=⟨gb201,1,none⟩) (Kd.Qy HO_9.out BK201.out (by decide)) (fun _ hk=>hk.2) (.slice Ao58 y202.length co58))
            have m1_:=Aside0.mk (Kd.Qm (p:=⟨gb201,1,none⟩) (Kd.Qy HO197.out BK201.out (by decide)) (fun _ hk=>hk.2) (.slice Ao58 y202.length co58))
            have m2_:Aside0 ((w60.setCell ⟨gb201,1,none⟩ (.slice Ao58 y202.length co58)).heap[gb201]?=some (.cells #[.slice Ao55 t195.length co55,.slice Ao58 y202.length co58] 58 (0,0))):=⟨Qk (cs:=#[.slice Ao55 t195.length co55,.slice Ao54 t198.length co54]) BK201.out 1 _ rfl⟩
            have m3_:Aside0 ((w60.setCell ⟨gb201,1,none⟩ (.slice Ao58 y202.length co58)).heap[gb181]?=some (.cells #[.slice none 0 0,.slice none 0 0] 24 (0,0))):=⟨Qs BK181.out NB181_201.out _⟩
            have m4_:Aside0 (Below w.heap.size w (w60.setCell ⟨gb201,1,none⟩ (.slice Ao58 y202.length co58))):=⟨Qg HB.out GE201.out⟩
            clear hs900 hfs900
            clear HO_9
            clear HO_195003
            clear HO197
            clear HO200
            clear BK179
            clear BK180
            clear BK181
            clear BK194
            clear BK201
            clear HB
            (try clear HR205)
            generalize(w60.setCell ⟨gb201,1,none⟩ (.slice Ao58 y202.length co58))=w901 at m0_ m1_ m2_ m3_ m4_ ⊢
            have hnb901:=NB181_201.out
            have hnc901:=NB201_181.out
            have hc900:w901.cell? ⟨gb201,0,none⟩=some (.slice Ao55 t195.length co55):=(Q3 m2_.out 0).trans rfl
            have hf900:=Q6 m2_.out 0
            have hc910:w901.cell? ⟨gb181,0,none⟩=some (.slice none 0 0):=(Q3 m3_.out 0).trans rfl
            have hf910:=Q6 m3_.out 0
            have hc901:w901.cell? ⟨gb201,1,none⟩=some (.slice Ao58 y202.length co58):=(Q3 m2_.out 1).trans rfl
            have hf901:=Q6 m2_.out 1
            have hc911:w901.cell? ⟨gb181,1,none⟩=some (.slice none 0 0):=(Q3 m3_.out 1).trans rfl
            have hf911:=Q6 m3_.out 1
            try go_wp2
            refine bodyPost_ret (Xe rfl _ _ gb181 24 #[.slice Ao55 t195.length co55,.slice Ao58 y202.length co58] (0,0) _ rfl (by refine Qk (cs:=#[.slice Ao55 t195.length co55,.slice none 0 0]) ?_ 1 _ rfl;refine Qk (cs:=#[.slice none 0 0,.slice none 0 0]) ?_ 0 _ rfl;exact m3_.out) Tryd.underlying24 rfl kr) rfl ?_
            have hlen:y202.length≤t182.length:=by rw[Ny202.out,List.length_take];omega
            have hR:=Kd.Jj m0_.out hlen
            have hq:t182.take y202.length=y202:=by rw[Ny202.out,List.length_take];exact(List.take_eq_take_iff.2 (by omega))
            rw[hq] at hR
            refine⟨.slice Ao55 t195.length co55,.slice Ao58 y202.length co58,by first|rfl|(simp[*];done),Kd.Qu (Kd.Qm (Kd.Qm (Kd.Qy m1_.out m3_.out (by decide)) (fun _ hk=>hk.2) _) (fun _ hk=>hk.2) _) (fun k_ hk=>?_),Kd.Qu (Kd.Qm (Kd.Qm (Kd.Qy hR m3_.out (by decide)) (fun _ hk=>hk.2) _) (fun _ hk=>hk.2) _) (fun k_ hk=>?_),Qg (Qg m4_.out GE181.out) GE181.out⟩
            ·(try rw[K7 Ao58 y202.length t182.length co58])
             first|exact hk.1.1.1.1.1|exact hk.1.1.1.1.2.1|exact hk.1.1.1.1.2.2|exact hk.1.1.1.1|exact hk.1.1.1.2.1|exact hk.1.1.1.2.2|exact hk.1.1.1.2|exact hk.1.1.1|exact hk.1.1.2.1|exact hk.1.1.2.2|exact hk.1.1.2|exact hk.1.1|exact hk.1.2.1|exact hk.1.2.2|exact hk.1|exact hk.2
            ·(try rw[K7 Ao58 y202.length t182.length co58])
             first|exact hk.1.1.1.1.1|exact hk.1.1.1.1.2.1|exact hk.1.1.1.1.2.2|exact hk.1.1.1.1|exact hk.1.1.1.2.1|exact hk.1.1.1.2.2|exact hk.1.1.1.2|exact hk.1.1.1|exact hk.1.1.2.1|exact hk.1.1.2.2|exact hk.1.1.2|exact hk.1.1|exact hk.1.2.1|exact hk.1.2.2|exact hk.1|exact hk.2
           ·skip
            refine Yp (n:=11) (S:=fun w'=>True) (ds:=[]) #[false,false,false,false,false,false,false,false,false,false,false] kr rfl rfl trivial (fun hHeld=>?_);refine Xh flash_Write.Ej flash_Write.M7 (fun HT_ HW_=>?_)
            generalize w59.drew=w60 at HO_9 HO_195003 HO197 HO200 BK179 BK180 BK181 BK194 BK201 HB HR205 hHeld ⊢
            refine qP 0 (some 58) (bN 11 1) HT_ ?_
            refine qP 2 (some 60) (bN 11 5) HT_ ?_
            refine qP 3 (some 61) (bN 11 13) HT_ ?_
            refine qP 4 (some 62) (bN 11 29) HT_ ?_
            refine qP 5 (some 63) (bN 11 61) HT_ ?_
            refine qP 6 (some 64) (bN 11 125) HT_ ?_
            refine qP 7 (some 65) (bN 11 253) HT_ ?_
            refine qP 8 (some 66) (bN 11 509) HT_ ?_
            refine Ye (i:=1) (N:=some 59) (bN 11 511) rfl rfl (Z3 HT_.out kr) (by decide) (fun K hK=>?_)
            refine Mt Tryd.func23 kr rfl #[.pointer (some ⟨gb201,0,none⟩)] (by rfl) rfl rfl rfl qM ?_
            refine(V0 gb201 _).mono ?_
            rintro e w' ⟨rfl,hw'⟩
            rw[hw']
            clear hw'
            refine⟨_,rfl, ?_⟩
            refine hK.out _ _ trivial (fun hHeld=>?_)
            clear hK K
            refine qN (some 59) ?_
            refine qP 9 (some 67) (bN 11 1023) HT_ ?_
            refine Ye (i:=10) (N:=none) (bN 11 2047) rfl rfl (Z3 HT_.out kr) (by decide) (fun K hK=>?_)
            have hs900:w60.cell? ⟨gb201,0,none⟩=some (.slice Ao55 t195.length co55):=(Q3 BK201.out 0).trans rfl
            have hfs900:=Q6 BK201.out 0
            refine J0 (w1:=?_) (by rfl) rfl ?_ ?_
            rotate_left
            ·go_simp
             rfl
            refine hK.out _ _ trivial (fun hHeld=>?_)
            clear hK K
            refine Jc (Yi HT_.out kr) ?_
            have m0_:=Aside0.mk (Kd.Qm (p:=⟨gb201,0,none⟩) (Kd.Qy HO_9.out BK201.out (by decide)) (fun _ hk=>hk.2) (.slice Ao58 y202.length co58))
            have m1_:=Aside0.mk (Kd.Qm (p:=⟨gb201,0,none⟩) (Kd.Qy HO200.out BK201.out (by decide)) (fun _ hk=>hk.2) (.slice Ao58 y202.length co58))
            have m2_:Aside0 ((w60.setCell ⟨gb201,0,none⟩ (.slice Ao58 y202.length co58)).heap[gb201]?=some (.cells #[.slice Ao58 y202.length co58,.slice Ao54 t198.length co54] 58 (0,0))):=⟨Qk (cs:=#[.slice Ao55 t195.length co55,.slice Ao54 t198.length co54]) BK201.out 0 _ rfl⟩
            have m3_:Aside0 ((w60.setCell ⟨gb201,0,none⟩ (.slice Ao58 y202.length co58)).heap[gb181]?=some (.cells #[.slice none 0 0,.slice none 0 0] 24 (0,0))):=⟨Qs BK181.out NB181_201.out _⟩
            have m4_:Aside0 (Below w.heap.size w (w60.setCell ⟨gb201,0,none⟩ (.slice Ao58 y202.length co58))):=⟨Qg HB.out GE201.out⟩
            clear hs900 hfs900
            clear HO_9
            clear HO_195003
            clear HO197
            clear HO200
            clear BK179
            clear BK180
            clear BK181
            clear BK194
            clear BK201
            clear HB
            (try clear HR205)
            generalize(w60.setCell ⟨gb201,0,none⟩ (.slice Ao58 y202.length co58))=w901 at m0_ m1_ m2_ m3_ m4_ ⊢
            have hnb901:=NB181_201.out
            have hnc901:=NB201_181.out
            have hc900:w901.cell? ⟨gb201,0,none⟩=some (.slice Ao58 y202.length co58):=(Q3 m2_.out 0).trans rfl
            have hf900:=Q6 m2_.out 0
            have hc910:w901.cell? ⟨gb181,0,none⟩=some (.slice none 0 0):=(Q3 m3_.out 0).trans rfl
            have hf910:=Q6 m3_.out 0
            have hc901:w901.cell? ⟨gb201,1,none⟩=some (.slice Ao54 t198.length co54):=(Q3 m2_.out 1).trans rfl
            have hf901:=Q6 m2_.out 1
            have hc911:w901.cell? ⟨gb181,1,none⟩=some (.slice none 0 0):=(Q3 m3_.out 1).trans rfl
            have hf911:=Q6 m3_.out 1
            try go_wp2
            refine bodyPost_ret (Xe rfl _ _ gb181 24 #[.slice Ao58 y202.length co58,.slice Ao54 t198.length co54] (0,0) _ rfl (by refine Qk (cs:=#[.slice Ao58 y202.length co58,.slice none 0 0]) ?_ 1 _ rfl;refine Qk (cs:=#[.slice none 0 0,.slice none 0 0]) ?_ 0 _ rfl;exact m3_.out) Tryd.underlying24 rfl kr) rfl ?_
            have hlen:y202.length≤t182.length:=by rw[Ny202.out,List.length_take];omega
            have hR:=Kd.Jj m0_.out hlen
            have hq:t182.take y202.length=y202:=by rw[Ny202.out,List.length_take];exact(List.take_eq_take_iff.2 (by omega))
            rw[hq] at hR
            refine⟨.slice Ao58 y202.length co58,.slice Ao54 t198.length co54,by first|rfl|(simp[*];done),Kd.Qu (Kd.Qm (Kd.Qm (Kd.Qy hR m3_.out (by decide)) (fun _ hk=>hk.2) _) (fun _ hk=>hk.2) _) (fun k_ hk=>?_),Kd.Qu (Kd.Qm (Kd.Qm (Kd.Qy m1_.out m3_.out (by decide)) (fun _ hk=>hk.2) _) (fun _ hk=>hk.2) _) (fun k_ hk=>?_),Qg (Qg m4_.out GE181.out) GE181.out⟩
            ·(try rw[K7 Ao58 y202.length t182.length co58])
             first|exact hk.1.1.1.1.1|exact hk.1.1.1.1.2.1|exact hk.1.1.1.1.2.2|exact hk.1.1.1.1|exact hk.1.1.1.2.1|exact hk.1.1.1.2.2|exact hk.1.1.1.2|exact hk.1.1.1|exact hk.1.1.2.1|exact hk.1.1.2.2|exact hk.1.1.2|exact hk.1.1|exact hk.1.2.1|exact hk.1.2.2|exact hk.1|exact hk.2
            ·(try rw[K7 Ao58 y202.length t182.length co58])
             first|exact hk.1.1.1.1.1|exact hk.1.1.1.1.2.1|exact hk.1.1.1.1.2.2|exact hk.1.1.1.1|exact hk.1.1.1.2.1|exact hk.1.1.1.2.2|exact hk.1.1.1.2|exact hk.1.1.1|exact hk.1.1.2.1|exact hk.1.1.2.2|exact hk.1.1.2|exact hk.1.1|exact hk.1.2.1|exact hk.1.2.2|exact hk.1|exact hk.2
          ·rw[if_neg c46] at H
           exact absurd H (by simp)
         ·rw[if_neg c45] at H
          exact absurd H (by simp)
 ·rw[if_neg c5] at H
  have c5b0:(t185==0)=false:=beq_eq_false_iff_ne.mpr c5
  have c5b1:(t185 != 0)=true:=bne_iff_ne.mpr c5
  simp only[Option.some.injEq,Prod.mk.injEq] at H
  obtain⟨rfl,rfl,rfl,rfl⟩:=H
  go_enter Tryd.func11,Tryd.ntmps11
  go_wp2_with (first|((with_reducible refine Qz (N:=3) rfl ?_);refine qE 3 #[.slice A0_0 l0_0.length c0_0,.slice A0_1 l0_1.length c0_1] 24 ?_;intro gb179 hg w71 hbox hb;have BK179:=Aside0.mk hbox;have GW179:=sGe hg;have GE179:=sGe hg;replace HB:=sHb hb;clear hb hbox hg)|((with_reducible refine Qz (N:=4) rfl ?_);refine qE 4 #[.int .i64 a1_0,.int .i64 a1_1,.int .i64 a1_2,.slice A1_3 l1_3.length c1_3] 26 ?_;intro gb180 hg w72 hbox hb;have BK180:=Aside0.mk hbox;have GW180:=sGe hg;have GE180:=sGe hg;have NB179_180:=sNl BK179 hg;have NB180_179:=sNg BK179 hg;replace BK179:=sBk BK179 hb;replace HB:=sHb hb;clear hb hbox hg)|((with_reducible refine Qz (N:=6) rfl ?_);refine qE 6 #[.slice none 0 0,.slice none 0 0] 24 ?_;intro gb181 hg w73 hbox hb;have BK181:=Aside0.mk hbox;have GW181:=sGe hg;have GE181:=sGe hg;have NB179_181:=sNl BK179 hg;have NB181_179:=sNg BK179 hg;have NB180_181:=sNl BK180 hg;have NB181_180:=sNg BK180 hg;replace BK179:=sBk BK179 hb;replace BK180:=sBk BK180 hb;replace HB:=sHb hb;clear hb hbox hg;have hnb74:=NB180_179.out;have hnc74:=NB179_180.out;have hnb75:=NB180_181.out;have hnc75:=NB181_180.out;obtain⟨hcz76_0,hcz76_1,hcz76_2,hcz76_3,hfz76_0,hfz76_1,hfz76_2,hfz76_3⟩:=qD4 BK180.out)|((with_reducible refine Qv (f:=18) rfl ?_);refine Ze (some 19) rfl rfl Tryd.func18 kr rfl #[.agg #[.int .i64 a1_0,.int .i64 a1_1,.int .i64 a1_2,.slice A1_3 l1_3.length c1_3]] rfl qM ?_;(with_reducible refine(flash_Code.calls k a1_0 a1_1 a1_2 _ _ l1_3 t182 t185 _ ?side1 ?side2 A4.out (by first|exact HTAB.out|((repeat(first|exact HTAB.out|(with_reducible refine Laid.Zo ?_ _)|(with_reducible refine Laid.Zn ?_ _)|(with_reducible refine Laid.Zq ?_)));done)|(refine Laid.Zk HTAB.out ?_;(repeat(first|(with_reducible first|exact HB.out|apply Qe|apply Qa|apply Qf)|exact HB.out|(refine Qg ?_ (Aside0.out (by assumption)))))))).mono ?_);(case side1=>exact(Kd.Zb HR1_3.out HB.out));(case side2=>exact HC1_3.out);rintro e w77 ⟨v183,rfl,ho0,hb⟩;refine⟨_,rfl, ?_⟩;have HO184:=Aside0.mk (Kd.Zd ho0 (Qj HB.out));replace BK179:=sBk BK179 hb;replace BK180:=sBk BK180 hb;replace BK181:=sBk BK181 hb;replace HB:=sHb hb;(try clear hb);(try clear hb2);(try clear hk);(try clear hi);(try clear ho0);have hnb78:=NB181_179.out;have hnc78:=NB179_181.out;obtain⟨hcz79_0,hcz79_1,hfz79_0,hfz79_1⟩:=qD2 BK181.out))
  refine bodyPost_ret (Xe rfl _ _ gb181 24 #[.slice none 0 0,.slice none 0 0] (0,0) _ rfl (by refine Qk (cs:=#[.slice none 0 0,.slice none 0 0]) ?_ 1 _ rfl;refine Qk (cs:=#[.slice none 0 0,.slice none 0 0]) ?_ 0 _ rfl;exact BK181.out) Tryd.underlying24 rfl kr) rfl ?_
  exact⟨_,_,by first|rfl|(simp[Qo,Qn] <;> rfl)|(simp[*,Qo,Qn] <;> rfl),by first|exact Kd.Z1 _ _ _ _ _|exact Kd.X4 _ _ _ _ _|exact Kd.X1 _ _ _ _ _|exact Kd.X3 _ _ _ _ _|exact Kd.X2 _ _ _ _ _,by first|exact Kd.Z1 _ _ _ _ _|exact Kd.X4 _ _ _ _ _|exact Kd.X1 _ _ _ _ _|exact Kd.X3 _ _ _ _ _|exact Kd.X2 _ _ _ _ _,bel⟩
end Go.Proofs.YtickbejailcehaaDoor.C
namespace Go.Proofs.YtickbejailcehaaDoor.Flash
open Go.RowKit Go.Proofs.YtickbejailcehaaDoorW.PrintWords Go.Proofs.YtickbejailcehaaDoorW.PrintLast Go.Proofs.YtickbejailcehaaDoorW.PrintMore Go.Proofs.YtickbejailcehaaDoor.C
open Go.Proofs.YtickbejailcehaaDoor.Wire (In pt Yk Z9 Zt)
open Go.Proofs.YtickbejailcehaaDoor.Crc (Yg Yh By)
set_option linter.unusedVariables false
def Jp (g m:Int) (n:Nat):Bool:=decide (1≤g∧g≤1099511627776∧0≤m∧m≤5∧n≤4096)
theorem Uz (g c m:Int) (l:List Int):flash_may.f g c m l=some (Jp g m l.length):=by
  unfold flash_may.f Jp
  by_cases h1:g≥1
  · rw[if_pos h1]
    by_cases h2:g≤1099511627776
    · rw[if_pos h2]
      by_cases h3:m≥0
      · rw[if_pos h3]
        by_cases h4:m≤5
        · rw[if_pos h4]
          congr 1
          rw[decide_eq_decide]
          omega
        · rw[if_neg h4,decide_eq_false (by omega)]
      · rw[if_neg h3,decide_eq_false (by omega)]
    · rw[if_neg h2,decide_eq_false (by omega)]
  · rw[if_neg h1,decide_eq_false (by omega)]
theorem Wj (g c m:Int) (l:List Int):newelref12_May.f g c m l=some (Jp g m l.length):=Uz g c m l
def X8 (g c m:Int) (n:Nat):List Int:=Yk [g,c,m]++pt (n:Int)
def Xt (g c m:Int) (l:List Int):List Int:=Yg (X8 g c m l.length++l)
theorem Gm (g c m:Int) (n:Nat):(X8 g c m n).length≤50:=by
  have h1:=Wire.Gk [g,c,m]
  have h2:=Wire.Y8 (n:Int)
  unfold X8
  simp only[List.length_append,List.length_cons,List.length_nil] at *
  omega
theorem Gq (g c m:Int) (l:List Int):(Xt g c m l).length=(X8 g c m l.length).length+l.length+2:=by
  unfold Xt
  rw[Crc.Kg,List.length_append]
theorem in3 {g c m:Int} (hg:In g) (hc:In c) (hm:In m):∀ x ∈ [g,c,m],In x:=by
  intro x hx
  simp only[List.mem_cons,List.not_mem_nil,or_false] at hx
  rcases hx with rfl|rfl|rfl <;> assumption
theorem Vg {n:Nat} (h:n≤1000000000):In (n:Int):=by unfold In;omega
theorem N6 {g c m:Int} {n:Nat} (hg:In g) (hc:In c) (hm:In m) (hn:n≤1000000000):∀ x ∈ X8 g c m n,By x:=by
  intro x hx
  unfold X8 at hx
  rcases List.mem_append.1 hx with h|h
  · exact Wire.Nn (in3 hg hc hm) (by simp) x h
  · exact Wire.L6 (Vg hn) x h
theorem Ga {g c m:Int} {l:List Int} (hg:In g) (hc:In c) (hm:In m) (hb:∀ x ∈ l,By x) (hl:l.length≤1000000):∀ x ∈ X8 g c m l.length++l,By x:=by
  intro x hx
  rcases List.mem_append.1 hx with h|h
  · exact N6 hg hc hm (by omega) x h
  · exact hb x h
theorem Ea {g c m:Int} {l:List Int} (hg:In g) (hc:In c) (hm:In m) (hb:∀ x ∈ l,By x) (hl:l.length≤1000000):∀ x ∈ Xt g c m l,By x:=Crc.V1 (Ga hg hc hm hb hl)
def Wn (g c m:Int) (l:List Int):List Int×Int:=if Jp g m l.length=true then (Xt g c m l,0) else ([],120)
theorem K8 {g c m:Int} {l:List Int} (hg:In g) (hc:In c) (hm:In m) (hb:∀ x ∈ l,By x) (hl:l.length≤1000000) (k:Nat) (hk:l.length+100<k):flash_Code.f k g c m l=some (Wn g c m l):=by
  unfold flash_Code.f Wn
  rw[Uz]
  simp only[Option.bind_some]
  by_cases h:Jp g m l.length=true
  · rw[if_pos h,if_pos h,Wire.Ew _ (in3 hg hc hm) (by simp) k (by simp;omega),Wire.put_eq _ (Vg (by omega))]
    simp only[Option.bind_some]
    have h1:=Wire.Gk [g,c,m]
    have h2:=Wire.Y8 (l.length:Int)
    simp only[List.length_cons,List.length_nil] at h1
    rw[show leb 9 (Wire.Yj (l.length:Int))=pt (l.length:Int) from rfl,if_pos (by omega),if_pos (by simp only[List.length_append];omega)]
    have hd:=Gm g c m l.length
    rw[show Yk [g,c,m]++pt (l.length:Int)=X8 g c m l.length from rfl,Crc.Nm _ (Ga hg hc hm hb hl) (by simp only[List.length_append];omega) k (by simp only[List.length_append];omega)]
    rfl
  · rw[if_neg h,if_neg h]
def Z6 (l:List Int):Int×Int×Int×List Int×Int:=
  if (Zt l 0 3).2.2=0 then
    (if (Zt l 0 3).1.length=3∧Jp (rd (Zt l 0 3).1 0) (rd (Zt l 0 3).1 2) 0=true then
      (if (Z9 l (Zt l 0 3).2.1).2.2=0 then
        (if (Z9 l (Zt l 0 3).2.1).1<0∨4096<(Z9 l (Zt l 0 3).2.1).1 then (0,0,0,[],120) else
          if (l.length:Int) - (Z9 l (Zt l 0 3).2.1).2.1-2<(Z9 l (Zt l 0 3).2.1).1 then (0,0,0,[],121) else
          if (l.length:Int) - (Z9 l (Zt l 0 3).2.1).2.1-2>(Z9 l (Zt l 0 3).2.1).1 then (0,0,0,[],122) else
          if (Yh l).2=0 then (rd (Zt l 0 3).1 0,rd (Zt l 0 3).1 1,rd (Zt l 0 3).1 2,(l.drop (Z9 l (Zt l 0 3).2.1).2.1.toNat).take (Z9 l (Zt l 0 3).2.1).1.toNat,0) else (0,0,0,[],(Yh l).2))
      else (0,0,0,[],(Z9 l (Zt l 0 3).2.1).2.2))
    else (0,0,0,[],120))
  else (0,0,0,[],(Zt l 0 3).2.2)
theorem U3 (l:List Int) (n:Nat) (h:n≤l.length):Ky l (List.replicate n 0)=l.take n:=by
  unfold Ky
  rw[List.length_replicate,Nat.min_eq_right h,List.drop_of_length_le (by simp),List.append_nil]
theorem J2 (l:List Int) (hb:∀ x ∈ l,By x) (hl:l.length≤1000000) (k:Nat) (hk:l.length+100<k):flash_Read.f k l=some (Z6 l):=by
  obtain⟨k,rfl⟩:∃ m,k=m+2:=⟨k-2,by omega⟩
  unfold flash_Read.f Z6
  rw[Wire.Lg l hb (by omega) 0 3 (by decide) (k+2) (by omega)]
  simp only[Option.bind_some]
  generalize Zt l 0 3=p
  obtain⟨q,at_,e⟩:=p
  dsimp only
  by_cases h0:e=0
  case neg=>rw[if_neg h0,if_neg h0]
  rw[if_pos h0,if_pos h0]
  by_cases h1:q.length=3
  case neg=>
    rw[if_neg (by omega),if_neg (fun x=>h1 x.1)]
    simp only[flash_Read.j0]
    rw[if_pos trivial]
  rw[if_pos (by omega),if_pos (by omega),if_pos (by omega),Uz]
  simp only[Option.bind_some,List.length_nil,flash_Read.j0]
  cases h2:Jp (rd q 0) (rd q 2) 0
  case false=>
    rw[if_pos (by decide),if_neg (fun x=>Bool.noConfusion x.2)]
  rw[if_neg (by decide),if_pos ⟨h1,rfl⟩,Wire.U2 l hb (by omega) at_ (k+1) (by omega)]
  simp only[Option.bind_some]
  have hg:=Wire.G5 l hb at_
  generalize Z9 l at_=p at *
  obtain⟨n,at2,e2⟩:=p
  dsimp only at hg ⊢
  by_cases h3:e2=0
  case neg=>rw[if_neg h3,if_neg h3]
  obtain⟨g1,g2,g3,_,_⟩:=hg h3
  have w1:wrap64 ((wrap64 ((l.length:Int)-at2))-2)=(l.length:Int)-at2-2:=by
    rw[show wrap64 ((l.length:Int)-at2)=(l.length:Int)-at2 from by unfold wrap64;omega]
    unfold wrap64;omega
  have w2:∀ b:Bool,b=decide (n<0∨4096<n)→flash_Read.j1 (k+1) l q at2 n ((l.length:Int)-at2-2) b=some (if n<0∨4096<n then (0,0,0,[],120) else
          if (l.length:Int)-at2-2<n then (0,0,0,[],121) else
          if (l.length:Int)-at2-2>n then (0,0,0,[],122) else
          if (Yh l).2=0 then (rd q 0,rd q 1,rd q 2,(l.drop at2.toNat).take n.toNat,0) else (0,0,0,[],(Yh l).2)):=by
    intro b hbb
    simp only[flash_Read.j1]
    by_cases c:n<0∨4096<n
    · rw[hbb,decide_eq_true c,if_pos rfl,if_pos c]
    rw[hbb,decide_eq_false c,if_neg (by decide),if_neg c]
    by_cases c1:(l.length:Int)-at2-2<n
    · rw[if_pos c1,if_pos c1]
    rw[if_neg c1,if_neg c1]
    by_cases c2:(l.length:Int)-at2-2>n
    · rw[if_pos c2,if_pos c2]
    rw[if_neg c2,if_neg c2,Crc.Nw l hb (by omega) k (by omega)]
    simp only[Option.bind_some]
    by_cases c3:(Yh l).2=0
    · rw[if_pos c3,if_pos c3,if_pos (by omega),if_pos (by omega),if_pos (by omega),if_pos (by omega),if_pos (by omega),if_pos (by omega),if_pos (by omega),U3 _ _ (by rw[List.length_drop];omega)]
    · rw[if_neg c3,if_neg c3]
  rw[if_pos h3,if_pos h3,w1]
  by_cases c:n<0
  · rw[if_pos c]
    exact w2 true (decide_eq_true (.inl c)).symm
  · rw[if_neg c]
    refine w2 _ ?_
    rw[decide_eq_decide]
    omega
theorem Mk {g m:Int} {n:Nat} (h:Jp g m n=true):1≤g∧g≤1099511627776∧0≤m∧m≤5∧n≤4096:=of_decide_eq_true h
theorem Mj {g m:Int} {n:Nat} (h:Jp g m n=true):Jp g m 0=true:=by
  have:=Mk h
  exact decide_eq_true ⟨by omega,by omega,by omega,by omega,by omega⟩
theorem Ms {g c m:Int} (hg:In g) (hc:In c) (hm:In m) (tail:List Int):Zt (Yk [g,c,m]++tail) 0 3=([g,c,m],((Yk [g,c,m]).length:Int),0):=
  Wire.Vi [g,c,m] tail (in3 hg hc hm) (by simp) 3 (by simp)
theorem W7 {g c m:Int} {l:List Int} (hg:In g) (hc:In c) (hm:In m) (hb:∀ x ∈ l,By x) (h:Jp g m l.length=true):Z6 (Xt g c m l)=(g,c,m,l,0):=by
  obtain⟨_,_,_,_,hl⟩:=Mk h
  have e:Xt g c m l=Yk [g,c,m]++(pt (l.length:Int)++(l ++ [Crc.hiB (Crc.Xw Crc.F (X8 g c m l.length++l)),Crc.loB (Crc.Xw Crc.F (X8 g c m l.length++l))])):=by
    unfold Xt Yg X8
    simp only[List.append_assoc]
  have r1:=Ms hg hc hm (pt (l.length:Int)++(l ++ [Crc.hiB (Crc.Xw Crc.F (X8 g c m l.length++l)),Crc.loB (Crc.Xw Crc.F (X8 g c m l.length++l))]))
  have r2:=Wire.Vh (Vg (show l.length≤1000000000 by omega)) (Yk [g,c,m]) (l ++ [Crc.hiB (Crc.Xw Crc.F (X8 g c m l.length++l)),Crc.loB (Crc.Xw Crc.F (X8 g c m l.length++l))])
  rw[← e] at r1 r2
  have r3:Yh (Xt g c m l)=(X8 g c m l.length++l,0):=Crc.W9 _ (Ga hg hc hm hb (by omega))
  have r4:(Xt g c m l).length=(Yk [g,c,m]).length+(pt (l.length:Int)).length+l.length+2:=by
    rw[Gq];unfold X8;rw[List.length_append]
  unfold Z6
  rw[r1]
  dsimp only
  rw[if_pos rfl,if_pos ⟨rfl,Mj h⟩,r2]
  dsimp only
  rw[if_pos rfl,if_neg (by omega),if_neg (by omega),if_neg (by omega),r3]
  dsimp only
  rw[if_pos rfl]
  have d:((Xt g c m l).drop (((Yk [g,c,m]).length:Int)+((pt (l.length:Int)).length:Int)).toNat).take ((l.length:Int)).toNat=l:=by
    rw[Int.toNat_natCast,show(((Yk [g,c,m]).length:Int)+((pt (l.length:Int)).length:Int)).toNat=(X8 g c m l.length).length from by unfold X8;rw[List.length_append];omega]
    unfold Xt Yg
    rw[List.append_assoc,List.drop_left,List.take_left']
    rfl
  rw[d]
  rfl
end Go.Proofs.YtickbejailcehaaDoor.Flash
namespace Go.Proofs.YtickbejailcehaaDoor.C
open Go.RowKit Go.Proofs.YtickbejailcehaaDoorW.PrintWords Go.Proofs.YtickbejailcehaaDoorW.PrintLast Go.Proofs.YtickbejailcehaaDoorW.PrintMore
attribute [local go_sem] Xm Xk X0 Xz Xc Xb Xl Xj
set_option linter.unusedVariables false
set_option linter.unusedSimpArgs false
def newellaw12_awake.j0:Nat→List Int→Bool→Int→Int→Int→Option (Bool)
 |0,_,_,_,_,_=>none
 |k+1,x2,x24,x186000,x186001,x186002=>if x24=true then (none) else ((flash_Read.f k x2).bind fun bt190=>((flash_Write.f k ([]:List Int) ([]:List Int) x186000 x186001 x186002 ([]:List Int) 99).bind fun bt198=>((flash_Recover.f k bt198.1 bt198.2.1).bind fun bt207=>(if 5≤(x2.length:Int) then ((newelref08_Same.f k (x2.take 5) (([6,2,0,6,0]:List Int))).bind fun t223=>(if t223=true then ((flash_Same.f bt190.1 bt190.2.1 bt190.2.2.1 bt190.2.2.2.1 x186000 x186001 x186002 ([]:List Int)).bind fun t224=>(if t224=true then (if bt190.2.2.2.2=0 then (if bt198.2.2.1=true then (if bt198.2.2.2=0 then ((flash_Same.f bt207.1 bt207.2.1 bt207.2.2.1 bt207.2.2.2.1 x186000 x186001 x186002 ([]:List Int)).bind fun t225=>(if t225=true then (if bt207.2.2.2.2.1=true then (none) else (if bt207.2.2.2.2.2=0 then ((flash_Same.f bt190.1 bt190.2.1 bt190.2.2.1 bt190.2.2.2.1 0 0 0 ([]:List Int)).bind fun t226=>(some (!t226))) else (none))) else (none))) else (none)) else (none)) else (none)) else (none))) else (none))) else (none)))))
def newellaw12_awake.f (k:Nat):Option (Bool):=(flash_Code.f k 1 0 3 ([]:List Int)).bind fun bt186=>(if (bt186.1.length:Int)=7 then (newellaw12_awake.j0 k bt186.1 (bt186.2 != 0) 1 0 3) else (none))
theorem newellaw12_awake.Zl:∀ k,(∀ y0 y1 y2 y3 y4,LeO (newellaw12_awake.j0 k y0 y1 y2 y3 y4) (newellaw12_awake.j0 (k+1) y0 y1 y2 y3 y4))
 |0=>fun _ _ _ _ _ r h=>by simp[newellaw12_awake.j0] at h
 |k+1=>by
  have ih0:=newellaw12_awake.Zl k
  ·intro y0 y1 y2 y3 y4
   unfold newellaw12_awake.j0
   repeat' first
   |(with_reducible exact ih0 _ _ _ _ _)
   |(with_reducible exact flash_Code.mono _ _ _ _ _)
   |(with_reducible exact flash_Read.mono _ _)
   |(with_reducible exact flash_Recover.mono _ _ _)
   |(with_reducible exact flash_Write.mono _ _ _ _ _ _ _ _)
   |(with_reducible exact newelref08_Same.mono _ _ _)
   |(with_reducible exact LeO.refl _)
   |(with_reducible exact LeO.none _)
   |(with_reducible refine LeO.ite ?_ ?_)
   |(with_reducible refine LeO.bind ?_ (fun _=>?_))
   |exact ih0 _ _ _ _ _
   |exact flash_Code.mono _ _ _ _ _
   |exact flash_Read.mono _ _
   |exact flash_Recover.mono _ _ _
   |exact flash_Write.mono _ _ _ _ _ _ _ _
   |exact newelref08_Same.mono _ _ _
   |exact LeO.none _
   |refine LeO.ite ?_ ?_
   |refine LeO.bind ?_ (fun _=>?_)
theorem newellaw12_awake.mono:∀ k,LeO (newellaw12_awake.f k) (newellaw12_awake.f (k+1)):=by
 intro  k
 have ih0:=newellaw12_awake.Zl k
 unfold newellaw12_awake.f
 repeat' first
   |(with_reducible exact ih0 _ _ _ _ _)
   |(with_reducible exact flash_Code.mono _ _ _ _ _)
   |(with_reducible exact flash_Read.mono _ _)
   |(with_reducible exact flash_Recover.mono _ _ _)
   |(with_reducible exact flash_Write.mono _ _ _ _ _ _ _ _)
   |(with_reducible exact newelref08_Same.mono _ _ _)
   |(with_reducible exact LeO.refl _)
   |(with_reducible exact LeO.none _)
   |(with_reducible refine LeO.ite ?_ ?_)
   |(with_reducible refine LeO.bind ?_ (fun _=>?_))
   |exact ih0 _ _ _ _ _
   |exact flash_Code.mono _ _ _ _ _
   |exact flash_Read.mono _ _
   |exact flash_Recover.mono _ _ _
   |exact flash_Write.mono _ _ _ _ _ _ _ _
   |exact newelref08_Same.mono _ _ _
   |exact LeO.none _
   |refine LeO.ite ?_ ?_
   |refine LeO.bind ?_ (fun _=>?_)
theorem flash_Same.Ji (a0_0:Int) (a0_1:Int) (a0_2:Int) (A0_3:Option Addr) (c0_3:Nat) (l0_3:List Int) (a1_0:Int) (a1_1:Int) (a1_2:Int) (r:Bool) (w:World) (hr0_3:Kd.C (Kd.int .u8) w A0_3 l0_3.length l0_3) (hc0_3:l0_3.length≤c0_3) (h:flash_Same.f a0_0 a0_1 a0_2 l0_3 a1_0 a1_1 a1_2 ([]:List Int)=some r):
  Calls Tryd.prog 20 #[.agg #[.int .i64 a0_0,.int .i64 a0_1,.int .i64 a0_2,.slice A0_3 l0_3.length c0_3],.agg #[.int .i64 a1_0,.int .i64 a1_1,.int .i64 a1_2,.slice none 0 0]] w fun e w'=>e = .returned (.bool r)∧Below w.heap.size w w':=
 flash_Same.calls a0_0 a0_1 a0_2 A0_3 c0_3 l0_3 a1_0 a1_1 a1_2 none 0 [] r w hr0_3 hc0_3 (Kd.Jt _ _) (Nat.le_refl _) h
set_option maxHeartbeats 8000000 in
set_option maxRecDepth 100000 in
theorem newellaw12_awake.calls (k:Nat)  (r:Bool) (w:World) (h:newellaw12_awake.f k=some r) (ht_:Laid.TabAt w):
  Calls Tryd.prog 10 #[] w fun e w'=>e = .returned (.bool r)∧Below w.heap.size w w':=by
 have HTAB:=Aside0.mk ht_
 clear ht_
 have hu26:=Tryd.underlying26
 have hu24:=Tryd.underlying24
 have HB:=Aside0.mk (Below.refl w.heap.size w)
 have H:((flash_Code.f k 1 0 3 ([]:List Int)).bind fun bt186=>(if (bt186.1.length:Int)=7 then (newellaw12_awake.j0 k bt186.1 (bt186.2 != 0) 1 0 3) else (none)))=some r:=h
 clear h
 replace H:=Option.bind_eq_some_iff.mp H
 obtain⟨⟨t186,t189⟩,A10,H⟩:=H
 replace H:(if (t186.length:Int)=7 then (newellaw12_awake.j0 k t186 (t189 != 0) 1 0 3) else (none))=some r:=H
 have A1:=Aside0.mk A10
 clear A10
 have HC2:=Aside0.mk H
 clear H
 go_enter Tryd.func10,Tryd.ntmps10
 go_upto_region 3 with(first|((with_reducible refine Qz (N:=1) rfl ?_);refine Q7 ?hg (N:=1) ?hd (cs:=#[.int .i64 0,.int .i64 0,.int .i64 0,.slice none 0 0]) (t:=26) ?hr ?_;(case hd=>rfl);(case hg=>rfl);(case hr=>first|(go_simp;done)|(go_simp;rfl));intro gb185 hg w3 hbox hb;have n0_:=Aside0.mk (Qr (by repeat(first|(with_reducible first|exact HB.out|apply Qe|apply Qa|apply Qf)|exact HB.out)) hb);have n1_:=Aside0.mk (hbox);have n2_:=Aside0.mk ((by rw[hg];exact(Qj (by repeat(first|(with_reducible first|exact HB.out|apply Qe|apply Qa|apply Qf)|exact HB.out))):w.heap.size≤gb185));have n3_:=Aside0.mk ((by rw[hg];exact(Qj (by repeat(first|(with_reducible first|exact HB.out|apply Qe|apply Qa|apply Qf)|exact HB.out))):w.heap.size≤gb185));clear HB;have HB:=n0_;have BK185:=n1_;have GW185:=n2_;have GE185:=n3_;clear n0_ n1_ n2_ n3_;clear hb hbox hg;obtain⟨hcz4_0,hcz4_1,hcz4_2,hcz4_3,hfz4_0,hfz4_1,hfz4_2,hfz4_3⟩:=qD4 BK185.out)|((with_reducible refine Qv (f:=18) rfl ?_);refine Ze (some 15) rfl rfl Tryd.func18 kr rfl #[.agg #[.int .i64 1,.int .i64 0,.int .i64 3,.slice none 0 0]] rfl (by(try simp only[List.map_toArray,List.map_cons,List.map_nil]);first|done|rfl|(simp only[List.length_drop,List.length_take];rfl)) ?_;(refine(flash_Code.calls k 1 0 3 _ _ ([]:List Int) t186 t189 _ ?side1 ?side2 A1.out (by first|exact HTAB.out|((repeat(first|exact HTAB.out|(with_reducible refine Laid.Zo ?_ _)|(with_reducible refine Laid.Zn ?_ _)|(with_reducible refine Laid.Zq ?_)));done)|(refine Laid.Zk HTAB.out ?_;(repeat(first|(with_reducible first|exact HB.out|apply Qe|apply Qa|apply Qf)|exact HB.out|(refine Qg ?_ (Aside0.out (by assumption)))))))).mono ?_);(case side1=>exact Kd.Jt _ _);(case side2=>exact Nat.le_refl _);rintro e w5 ⟨v187,rfl,ho0,hb⟩;refine⟨_,rfl, ?_⟩;have n0_:=Aside0.mk (Kd.Zd ho0 (Qj (by repeat(first|(with_reducible first|exact HB.out|apply Qe|apply Qa|apply Qf|refine Qg ?_ GE185.out)|exact HB.out))));have n1_:=Aside0.mk (Qp (g:=gb185) (o:=.cells #[.int .i64 1,.int .i64 0,.int .i64 3,.slice none 0 0] 26 (0,0)) (by(with_reducible repeat first|apply Qb|apply Qd|apply Qc);refine Qk (cs:=#[.int .i64 1,.int .i64 0,.int .i64 3,.slice none 0 0]) ?_ 3 _ rfl;(with_reducible repeat first|apply Qb|apply Qd|apply Qc);refine Qk (cs:=#[.int .i64 1,.int .i64 0,.int .i64 0,.slice none 0 0]) ?_ 2 _ rfl;(with_reducible repeat first|apply Qb|apply Qd|apply Qc);refine Qk (cs:=#[.int .i64 1,.int .i64 0,.int .i64 0,.slice none 0 0]) ?_ 1 _ rfl;(with_reducible repeat first|apply Qb|apply Qd|apply Qc);refine Qk (cs:=#[.int .i64 0,.int .i64 0,.int .i64 0,.slice none 0 0]) ?_ 0 _ rfl;(with_reducible repeat first|apply Qb|apply Qd|apply Qc);exact BK185.out) hb);have n2_:=Aside0.mk (Qr (by repeat(first|(with_reducible first|exact HB.out|apply Qe|apply Qa|apply Qf|refine Qg ?_ GE185.out)|exact HB.out)) hb);clear BK185;clear HB;have HO188:=n0_;have BK185:=n1_;have HB:=n2_;clear n0_ n1_ n2_;(try clear hb);(try clear hb2);(try clear hk);(try clear hi);(try clear ho0)))
 (try simp only[Act.put,qS])
 go_cut [24] (fun v24 wc=>∃ (kq:Nat) (x24_1:Bool),v24 = .bool x24_1∧Aside0 (newellaw12_awake.j0 kq t186 x24_1 1 0 3=some r)∧Aside0 (kq≤k)∧Aside0 (Kd.R (Kd.int .u8) 5 wc w.heap.size (fun _=>True) v187 t186)∧Aside0 (wc.heap[gb185]?=some (.cells #[.int .i64 1,.int .i64 0,.int .i64 3,(.slice none 0 0)] 26 (0,0)))∧Aside0 (Below w.heap.size w wc))
 case first=>
  have H:=HC2.out
  clear HC2
  by_cases c6:(t186.length:Int)=7
  ·rw[if_pos c6] at H
   have c6b0:((t186.length:Int)==7)=true:=beq_iff_eq.mpr c6
   have c6b1:((t186.length:Int) != 7)=false:=bne_eq_false_iff_eq.mpr c6
   clear c6
   (first|rw[c6b0]|(simp only[Zu,Z4];rw[c6b0])|skip)
   have H':=Aside0.mk H
   clear H
   obtain⟨Ao7,co7,eo7⟩:=Kd.Zf HO188.out
   subst eo7
   go_wp2
   go_meet
   case rel=>exact⟨_,((t189 != 0)),qR,H',⟨by first|omega|exact Nat.le_refl _⟩,⟨by(with_reducible repeat first|apply Kd.Qi|apply Kd.Qh|apply Kd.Ql);exact HO188.out⟩,⟨by(with_reducible repeat first|apply Qb|apply Qd|apply Qc);exact BK185.out⟩,⟨by repeat(first|(with_reducible first|exact HB.out|apply Qe|apply Qa|apply Qf|refine Qg ?_ GE185.out)|exact HB.out)⟩⟩
  ·rw[if_neg c6] at H
   exact absurd H (by simp)
 case rest=>
  clear HC2
  try clear c1
  try clear p2
  try clear c6
  try clear c6b0
  try clear c6b1
  try clear hcz4_0
  try clear hcz4_1
  try clear hcz4_2
  try clear hcz4_3
  try clear hfz4_0
  try clear hfz4_1
  try clear hfz4_2
  try clear hfz4_3
  obtain⟨kq,x24_1,rfl,HA,HJ1,HO_2,BK185,HB⟩:=hcut
  cases kq with
  |zero=>exact absurd HA.out (by simp[newellaw12_awake.j0])
  |succ kj1=>
   have H:=HA.out
   clear HA
   simp only[newellaw12_awake.j0] at H
   by_cases c8:x24_1=true
   ·subst c8
    have H1:(none)=some r:=by rw[if_pos rfl] at H;exact H
    clear H
    have H:=H1
    clear H1
    exact absurd H (by simp)
   ·replace c8:=Bool.eq_false_iff.mpr c8
    subst c8
    have H1:((flash_Read.f kj1 t186).bind fun bt190=>((flash_Write.f kj1 ([]:List Int) ([]:List Int) 1 0 3 ([]:List Int) 99).bind fun bt198=>((flash_Recover.f kj1 bt198.1 bt198.2.1).bind fun bt207=>(if 5≤(t186.length:Int) then ((newelref08_Same.f kj1 (t186.take 5) (([6,2,0,6,0]:List Int))).bind fun t223=>(if t223=true then ((flash_Same.f bt190.1 bt190.2.1 bt190.2.2.1 bt190.2.2.2.1 1 0 3 ([]:List Int)).bind fun t224=>(if t224=true then (if bt190.2.2.2.2=0 then (if bt198.2.2.1=true then (if bt198.2.2.2=0 then ((flash_Same.f bt207.1 bt207.2.1 bt207.2.2.1 bt207.2.2.2.1 1 0 3 ([]:List Int)).bind fun t225=>(if t225=true then (if bt207.2.2.2.2.1=true then (none) else (if bt207.2.2.2.2.2=0 then ((flash_Same.f bt190.1 bt190.2.1 bt190.2.2.1 bt190.2.2.2.1 0 0 0 ([]:List Int)).bind fun t226=>(some (!t226))) else (none))) else (none))) else (none)) else (none)) else (none)) else (none))) else (none))) else (none)))))=some r:=by rw[if_neg (show ¬ (false=true) by decide)] at H;exact H
    clear H
    have H:=H1
    clear H1
    replace H:=Option.bind_eq_some_iff.mp H
    obtain⟨⟨t190,t191,t192,t193,t196⟩,A90,H⟩:=H
    replace H:((flash_Write.f kj1 ([]:List Int) ([]:List Int) 1 0 3 ([]:List Int) 99).bind fun bt198=>((flash_Recover.f kj1 bt198.1 bt198.2.1).bind fun bt207=>(if 5≤(t186.length:Int) then ((newelref08_Same.f kj1 (t186.take 5) (([6,2,0,6,0]:List Int))).bind fun t223=>(if t223=true then ((flash_Same.f t190 t191 t192 t193 1 0 3 ([]:List Int)).bind fun t224=>(if t224=true then (if t196=0 then (if bt198.2.2.1=true then (if bt198.2.2.2=0 then ((flash_Same.f bt207.1 bt207.2.1 bt207.2.2.1 bt207.2.2.2.1 1 0 3 ([]:List Int)).bind fun t225=>(if t225=true then (if bt207.2.2.2.2.1=true then (none) else (if bt207.2.2.2.2.2=0 then ((flash_Same.f t190 t191 t192 t193 0 0 0 ([]:List Int)).bind fun t226=>(some (!t226))) else (none))) else (none))) else (none)) else (none)) else (none)) else (none))) else (none))) else (none))))=some r:=H
    have A9:=Aside0.mk A90
    clear A90
    replace H:=Option.bind_eq_some_iff.mp H
    obtain⟨⟨t198,t201,t204,t205⟩,A100,H⟩:=H
    replace H:((flash_Recover.f kj1 t198 t201).bind fun bt207=>(if 5≤(t186.length:Int) then ((newelref08_Same.f kj1 (t186.take 5) (([6,2,0,6,0]:List Int))).bind fun t223=>(if t223=true then ((flash_Same.f t190 t191 t192 t193 1 0 3 ([]:List Int)).bind fun t224=>(if t224=true then (if t196=0 then (if t204=true then (if t205=0 then ((flash_Same.f bt207.1 bt207.2.1 bt207.2.2.1 bt207.2.2.2.1 1 0 3 ([]:List Int)).bind fun t225=>(if t225=true then (if bt207.2.2.2.2.1=true then (none) else (if bt207.2.2.2.2.2=0 then ((flash_Same.f t190 t191 t192 t193 0 0 0 ([]:List Int)).bind fun t226=>(some (!t226))) else (none))) else (none))) else (none)) else (none)) else (none)) else (none))) else (none))) else (none)))=some r:=H
    have A10:=Aside0.mk A100
    clear A100
    replace H:=Option.bind_eq_some_iff.mp H
    obtain⟨⟨t207,t208,t209,t210,t213,t214⟩,A110,H⟩:=H
    replace H:(if 5≤(t186.length:Int) then ((newelref08_Same.f kj1 (t186.take 5) (([6,2,0,6,0]:List Int))).bind fun t223=>(if t223=true then ((flash_Same.f t190 t191 t192 t193 1 0 3 ([]:List Int)).bind fun t224=>(if t224=true then (if t196=0 then (if t204=true then (if t205=0 then ((flash_Same.f t207 t208 t209 t210 1 0 3 ([]:List Int)).bind fun t225=>(if t225=true then (if t213=true then (none) else (if t214=0 then ((flash_Same.f t190 t191 t192 t193 0 0 0 ([]:List Int)).bind fun t226=>(some (!t226))) else (none))) else (none))) else (none)) else (none)) else (none)) else (none))) else (none))) else (none))=some r:=H
    have A11:=Aside0.mk A110
    clear A110
    by_cases c12:5≤(t186.length:Int)
    ·rw[if_pos c12] at H
     have c12b0:=eq_true c12
     have c12b1:decide (5≤(t186.length:Int))=true:=decide_eq_true c12
     clear c12
     obtain⟨y216,hy216⟩:∃ y_:List Int,y_=(t186.take 5):=⟨_,rfl⟩
     replace H:((newelref08_Same.f kj1 y216 (([6,2,0,6,0]:List Int))).bind fun t223=>(if t223=true then ((flash_Same.f t190 t191 t192 t193 1 0 3 ([]:List Int)).bind fun t224=>(if t224=true then (if t196=0 then (if t204=true then (if t205=0 then ((flash_Same.f t207 t208 t209 t210 1 0 3 ([]:List Int)).bind fun t225=>(if t225=true then (if t213=true then (none) else (if t214=0 then ((flash_Same.f t190 t191 t192 t193 0 0 0 ([]:List Int)).bind fun t226=>(some (!t226))) else (none))) else (none))) else (none)) else (none)) else (none)) else (none))) else (none)))=some r:=by first|(rw[hy216];with_reducible exact H)|(have H2_:=(Option.bind_some _ _).symm.trans H;rw[hy216];with_reducible exact H2_)|(have H2_:=(Option.bind_some _ _).symm.trans H;with_reducible exact H2_)|with_reducible exact H|(rw[hy216];exact H)|exact H
     have Ny216:=Aside0.mk hy216
     clear hy216
     obtain⟨y220,hy220⟩:∃ y_:List Int,y_=(([6,2,0,6,0]:List Int)):=⟨_,rfl⟩
     replace H:((newelref08_Same.f kj1 y216 y220).bind fun t223=>(if t223=true then ((flash_Same.f t190 t191 t192 t193 1 0 3 ([]:List Int)).bind fun t224=>(if t224=true then (if t196=0 then (if t204=true then (if t205=0 then ((flash_Same.f t207 t208 t209 t210 1 0 3 ([]:List Int)).bind fun t225=>(if t225=true then (if t213=true then (none) else (if t214=0 then ((flash_Same.f t190 t191 t192 t193 0 0 0 ([]:List Int)).bind fun t226=>(some (!t226))) else (none))) else (none))) else (none)) else (none)) else (none)) else (none))) else (none)))=some r:=by first|(rw[hy220];with_reducible exact H)|(have H2_:=(Option.bind_some _ _).symm.trans H;rw[hy220];with_reducible exact H2_)|(have H2_:=(Option.bind_some _ _).symm.trans H;with_reducible exact H2_)|with_reducible exact H|(rw[hy220];exact H)|exact H
     have Ny220:=Aside0.mk hy220
     clear hy220
     replace H:=Option.bind_eq_some_iff.mp H
     obtain⟨t223,A130,H⟩:=H
     replace H:(if t223=true then ((flash_Same.f t190 t191 t192 t193 1 0 3 ([]:List Int)).bind fun t224=>(if t224=true then (if t196=0 then (if t204=true then (if t205=0 then ((flash_Same.f t207 t208 t209 t210 1 0 3 ([]:List Int)).bind fun t225=>(if t225=true then (if t213=true then (none) else (if t214=0 then ((flash_Same.f t190 t191 t192 t193 0 0 0 ([]:List Int)).bind fun t226=>(some (!t226))) else (none))) else (none))) else (none)) else (none)) else (none)) else (none))) else (none))=some r:=H
     have A13:=Aside0.mk A130
     clear A130
     by_cases c14:t223=true
     ·subst c14
      have H1:((flash_Same.f t190 t191 t192 t193 1 0 3 ([]:List Int)).bind fun t224=>(if t224=true then (if t196=0 then (if t204=true then (if t205=0 then ((flash_Same.f t207 t208 t209 t210 1 0 3 ([]:List Int)).bind fun t225=>(if t225=true then (if t213=true then (none) else (if t214=0 then ((flash_Same.f t190 t191 t192 t193 0 0 0 ([]:List Int)).bind fun t226=>(some (!t226))) else (none))) else (none))) else (none)) else (none)) else (none)) else (none)))=some r:=by rw[if_pos rfl] at H;exact H
      clear H
      have H:=H1
      clear H1
      replace H:=Option.bind_eq_some_iff.mp H
      obtain⟨t224,A150,H⟩:=H
      replace H:(if t224=true then (if t196=0 then (if t204=true then (if t205=0 then ((flash_Same.f t207 t208 t209 t210 1 0 3 ([]:List Int)).bind fun t225=>(if t225=true then (if t213=true then (none) else (if t214=0 then ((flash_Same.f t190 t191 t192 t193 0 0 0 ([]:List Int)).bind fun t226=>(some (!t226))) else (none))) else (none))) else (none)) else (none)) else (none)) else (none))=some r:=H
      have A15:=Aside0.mk A150
      clear A150
      by_cases c16:t224=true
      ·subst c16
       have H1:(if t196=0 then (if t204=true then (if t205=0 then ((flash_Same.f t207 t208 t209 t210 1 0 3 ([]:List Int)).bind fun t225=>(if t225=true then (if t213=true then (none) else (if t214=0 then ((flash_Same.f t190 t191 t192 t193 0 0 0 ([]:List Int)).bind fun t226=>(some (!t226))) else (none))) else (none))) else (none)) else (none)) else (none))=some r:=by rw[if_pos rfl] at H;exact H
       clear H
       have H:=H1
       clear H1
       by_cases c17:t196=0
       ·rw[if_pos c17] at H
        have c17b0:(t196==0)=true:=beq_iff_eq.mpr c17
        have c17b1:(t196 != 0)=false:=bne_eq_false_iff_eq.mpr c17
        clear c17
        by_cases c18:t204=true
        ·subst c18
         have H1:(if t205=0 then ((flash_Same.f t207 t208 t209 t210 1 0 3 ([]:List Int)).bind fun t225=>(if t225=true then (if t213=true then (none) else (if t214=0 then ((flash_Same.f t190 t191 t192 t193 0 0 0 ([]:List Int)).bind fun t226=>(some (!t226))) else (none))) else (none))) else (none))=some r:=by rw[if_pos rfl] at H;exact H
         clear H
         have H:=H1
         clear H1
         by_cases c19:t205=0
         ·rw[if_pos c19] at H
          have c19b0:(t205==0)=true:=beq_iff_eq.mpr c19
          have c19b1:(t205 != 0)=false:=bne_eq_false_iff_eq.mpr c19
          clear c19
          replace H:=Option.bind_eq_some_iff.mp H
          obtain⟨t225,A200,H⟩:=H
          replace H:(if t225=true then (if t213=true then (none) else (if t214=0 then ((flash_Same.f t190 t191 t192 t193 0 0 0 ([]:List Int)).bind fun t226=>(some (!t226))) else (none))) else (none))=some r:=H
          have A20:=Aside0.mk A200
          clear A200
          by_cases c21:t225=true
          ·subst c21
           have H1:(if t213=true then (none) else (if t214=0 then ((flash_Same.f t190 t191 t192 t193 0 0 0 ([]:List Int)).bind fun t226=>(some (!t226))) else (none)))=some r:=by rw[if_pos rfl] at H;exact H
           clear H
           have H:=H1
           clear H1
           by_cases c22:t213=true
           ·subst c22
            have H1:(none)=some r:=by rw[if_pos rfl] at H;exact H
            clear H
            have H:=H1
            clear H1
            exact absurd H (by simp)
           ·replace c22:=Bool.eq_false_iff.mpr c22
            subst c22
            have H1:(if t214=0 then ((flash_Same.f t190 t191 t192 t193 0 0 0 ([]:List Int)).bind fun t226=>(some (!t226))) else (none))=some r:=by rw[if_neg (show ¬ (false=true) by decide)] at H;exact H
            clear H
            have H:=H1
            clear H1
            by_cases c23:t214=0
            ·rw[if_pos c23] at H
             have c23b0:(t214==0)=true:=beq_iff_eq.mpr c23
             have c23b1:(t214 != 0)=false:=bne_eq_false_iff_eq.mpr c23
             clear c23
             replace H:=Option.bind_eq_some_iff.mp H
             obtain⟨t226,A240,H⟩:=H
             replace H:(some (!t226))=some r:=H
             have A24:=Aside0.mk A240
             clear A240
             obtain rfl:=Option.some.inj H
             obtain⟨Ao25,co25,eo25⟩:=Kd.Zf HO_2.out
             subst eo25
             go_wp2_with (first|((with_reducible refine Qv (f:=19) rfl ?_);refine Ze (some 27) rfl rfl Tryd.func19 kr rfl #[.slice Ao25 t186.length co25] rfl (by(try simp only[List.map_toArray,List.map_cons,List.map_nil]);first|done|rfl|(simp only[List.length_drop,List.length_take];rfl)) ?_;(with_reducible refine(flash_Read.calls kj1 _ _ t186 t190 t191 t192 t193 t196 _ ?side1 ?side2 A9.out (by first|exact HTAB.out|((repeat(first|exact HTAB.out|(with_reducible refine Laid.Zo ?_ _)|(with_reducible refine Laid.Zn ?_ _)|(with_reducible refine Laid.Zq ?_)));done)|(refine Laid.Zk HTAB.out ?_;(repeat(first|(with_reducible first|exact HB.out|apply Qe|apply Qa|apply Qf)|exact HB.out|(refine Qg ?_ (Aside0.out (by assumption)))))))).mono ?_);(case side1=>repeat(first|exact(Kd.Q4 HO_2.out).2.2|(with_reducible refine Kd.Zc ?_ _)|(with_reducible refine Kd.Za ?_ _)|(with_reducible refine Kd.Zh ?_)));(case side2=>exact(Kd.Q4 HO_2.out).2.1);rintro e w26 ⟨v194,rfl,ho0,hb⟩;refine⟨_,rfl, ?_⟩;have n0_:=Aside0.mk (Kd.Zj (by(with_reducible repeat first|apply Kd.Qi|apply Kd.Qh|apply Kd.Ql);exact HO_2.out) (Kd.Q5 ho0) hb);have n1_:=Aside0.mk (Kd.Zd (Kd.Zi ho0 (Kd.Zp (by(with_reducible repeat first|apply Kd.Qi|apply Kd.Qh|apply Kd.Ql);exact HO_2.out))) (Qj (by repeat(first|(with_reducible first|exact HB.out|apply Qe|apply Qa|apply Qf|refine Qg ?_ GE185.out)|exact HB.out))));have n2_:=Aside0.mk (Qp (g:=gb185) (o:=.cells #[.int .i64 1,.int .i64 0,.int .i64 3,.slice none 0 0] 26 (0,0)) (by(with_reducible repeat first|apply Qb|apply Qd|apply Qc);exact BK185.out) hb);have n3_:=Aside0.mk (Qr (by repeat(first|(with_reducible first|exact HB.out|apply Qe|apply Qa|apply Qf|refine Qg ?_ GE185.out)|exact HB.out)) hb);clear HO_2;clear BK185;clear HB;have HO_2:=n0_;have HO195:=n1_;have BK185:=n2_;have HB:=n3_;clear n0_ n1_ n2_ n3_;(try clear hb);(try clear hb2);(try clear hk);(try clear hi);(try clear ho0))|((with_reducible refine Qz (N:=4) rfl ?_);refine Q7 ?hg (N:=4) ?hd (cs:=#[.int .i64 0,.int .i64 0,.int .i64 0,.slice none 0 0]) (t:=26) ?hr ?_;(case hd=>rfl);(case hg=>rfl);(case hr=>first|(go_simp;done)|(go_simp;rfl));intro gb197 hg w27 hbox hb;have n0_:=Aside0.mk (Kd.Q1 (by(with_reducible repeat first|apply Kd.Qi|apply Kd.Qh|apply Kd.Ql);exact HO_2.out) hb);have n1_:=Aside0.mk (Kd.Q1 (by(with_reducible repeat first|apply Kd.Qi|apply Kd.Qh|apply Kd.Ql);exact HO195.out) hb);have n2_:=Aside0.mk (Qp (g:=gb185) (o:=.cells #[.int .i64 1,.int .i64 0,.int .i64 3,.slice none 0 0] 26 (0,0)) (by(with_reducible repeat first|apply Qb|apply Qd|apply Qc);exact BK185.out) hb);have n3_:=Aside0.mk (Qr (by repeat(first|(with_reducible first|exact HB.out|apply Qe|apply Qa|apply Qf|refine Qg ?_ GE185.out)|exact HB.out)) hb);have n4_:=Aside0.mk (hbox);have n5_:=Aside0.mk ((by rw[hg];exact(Qj (by repeat(first|(with_reducible first|exact HB.out|apply Qe|apply Qa|apply Qf|refine Qg ?_ GE185.out)|exact HB.out))):w.heap.size≤gb197));have n6_:=Aside0.mk ((by rw[hg];exact(Qj (by repeat(first|(with_reducible first|exact HB.out|apply Qe|apply Qa|apply Qf|refine Qg ?_ GE185.out)|exact HB.out))):w.heap.size≤gb197));have n7_:=Aside0.mk ((by rw[hg];exact Nat.ne_of_lt (Q8 (g:=gb185) (o:=.cells #[.int .i64 1,.int .i64 0,.int .i64 3,.slice none 0 0] 26 (0,0)) (by(with_reducible repeat first|apply Qb|apply Qd|apply Qc);exact BK185.out)):gb185≠gb197));have n8_:=Aside0.mk ((by rw[hg];exact Nat.ne_of_gt (Q8 (g:=gb185) (o:=.cells #[.int .i64 1,.int .i64 0,.int .i64 3,.slice none 0 0] 26 (0,0)) (by(with_reducible repeat first|apply Qb|apply Qd|apply Qc);exact BK185.out)):gb197≠gb185));clear HO_2;clear HO195;clear BK185;clear HB;have HO_2:=n0_;have HO195:=n1_;have BK185:=n2_;have HB:=n3_;have BK197:=n4_;have GW197:=n5_;have GE197:=n6_;have NB185_197:=n7_;have NB197_185:=n8_;clear n0_ n1_ n2_ n3_ n4_ n5_ n6_ n7_ n8_;clear hb hbox hg;have hnb28:=NB197_185.out;have hnc28:=NB185_197.out;obtain⟨hcz29_0,hcz29_1,hcz29_2,hcz29_3,hfz29_0,hfz29_1,hfz29_2,hfz29_3⟩:=qD4 BK197.out;obtain⟨Ao30,co30,eo30⟩:=Kd.Zf HO195.out;subst eo30;obtain⟨hcz31_0,hcz31_1,hcz31_2,hcz31_3,hfz31_0,hfz31_1,hfz31_2,hfz31_3⟩:=qD4 BK185.out)|((with_reducible refine Qv (f:=11) rfl ?_);refine Ze (some 33) rfl rfl Tryd.func11 kr rfl #[.agg #[.slice none 0 0,.slice none 0 0],.agg #[.int .i64 1,.int .i64 0,.int .i64 3,.slice none 0 0],.int .i64 99] rfl (by(try simp only[List.map_toArray,List.map_cons,List.map_nil]);first|done|rfl|(simp only[List.length_drop,List.length_take];rfl)) ?_;(refine(flash_Write.calls kj1 _ _ ([]:List Int) _ _ ([]:List Int) 1 0 3 _ _ ([]:List Int) 99 t198 t201 true t205 _ ?side1 ?side2 ?side3 ?side4 ?side5 ?side6 A10.out (by first|exact HTAB.out|((repeat(first|exact HTAB.out|(with_reducible refine Laid.Zo ?_ _)|(with_reducible refine Laid.Zn ?_ _)|(with_reducible refine Laid.Zq ?_)));done)|(refine Laid.Zk HTAB.out ?_;(repeat(first|(with_reducible first|exact HB.out|apply Qe|apply Qa|apply Qf)|exact HB.out|(refine Qg ?_ (Aside0.out (by assumption)))))))).mono ?_);(case side1=>exact Kd.Jt _ _);(case side2=>exact Nat.le_refl _);(case side3=>exact Kd.Jt _ _);(case side4=>exact Nat.le_refl _);(case side5=>exact Kd.Jt _ _);(case side6=>exact Nat.le_refl _);rintro e w32 ⟨v199,v202,rfl,ho0,ho1,hb⟩;refine⟨_,rfl, ?_⟩;have n0_:=Aside0.mk (Kd.Qu (Kd.Xa (Kd.Xa (Kd.Jd (by(with_reducible repeat first|apply Kd.Qi|apply Kd.Qh|apply Kd.Ql);exact(Kd.Qu (Kd.Qm (p:=⟨gb197,3,none⟩) (Kd.Qm (p:=⟨gb197,2,none⟩) (Kd.Qm (p:=⟨gb197,1,none⟩) (Kd.Qm (p:=⟨gb197,0,none⟩) (Kd.Qy HO_2.out BK197.out (by decide)) (fun _ hk=>hk.2) (.int .i64 t190)) (fun _ hk=>hk.2) (.int .i64 t191)) (fun _ hk=>hk.2) (.int .i64 t192)) (fun _ hk=>hk.2) (.slice Ao30 t193.length co30)) (fun _ h_=>h_.1))) hb) (Kd.Q5 ho0)) (Kd.Q5 ho1)) (fun _ h_=>h_.1));have n1_:=Aside0.mk (Kd.Qu (Kd.Xa (Kd.Xa (Kd.Jd (by(with_reducible repeat first|apply Kd.Qi|apply Kd.Qh|apply Kd.Ql);exact(Kd.Qu (Kd.Qm (p:=⟨gb197,3,none⟩) (Kd.Qm (p:=⟨gb197,2,none⟩) (Kd.Qm (p:=⟨gb197,1,none⟩) (Kd.Qm (p:=⟨gb197,0,none⟩) (Kd.Qy HO195.out BK197.out (by decide)) (fun _ hk=>hk.2) (.int .i64 t190)) (fun _ hk=>hk.2) (.int .i64 t191)) (fun _ hk=>hk.2) (.int .i64 t192)) (fun _ hk=>hk.2) (.slice Ao30 t193.length co30)) (fun _ h_=>h_.1))) hb) (Kd.Q5 ho0)) (Kd.Q5 ho1)) (fun _ h_=>h_.1));have n2_:=Aside0.mk (Kd.Zd (Kd.Zi (Kd.Zi ho0 (Kd.Zp (by(with_reducible repeat first|apply Kd.Qi|apply Kd.Qh|apply Kd.Ql);exact(Kd.Qu (Kd.Qm (p:=⟨gb197,3,none⟩) (Kd.Qm (p:=⟨gb197,2,none⟩) (Kd.Qm (p:=⟨gb197,1,none⟩) (Kd.Qm (p:=⟨gb197,0,none⟩) (Kd.Qy HO_2.out BK197.out (by decide)) (fun _ hk=>hk.2) (.int .i64 t190)) (fun _ hk=>hk.2) (.int .i64 t191)) (fun _ hk=>hk.2) (.int .i64 t192)) (fun _ hk=>hk.2) (.slice Ao30 t193.length co30)) (fun _ h_=>h_.1))))) (Kd.Zp (by(with_reducible repeat first|apply Kd.Qi|apply Kd.Qh|apply Kd.Ql);exact(Kd.Qu (Kd.Qm (p:=⟨gb197,3,none⟩) (Kd.Qm (p:=⟨gb197,2,none⟩) (Kd.Qm (p:=⟨gb197,1,none⟩) (Kd.Qm (p:=⟨gb197,0,none⟩) (Kd.Qy HO195.out BK197.out (by decide)) (fun _ hk=>hk.2) (.int .i64 t190)) (fun _ hk=>hk.2) (.int .i64 t191)) (fun _ hk=>hk.2) (.int .i64 t192)) (fun _ hk=>hk.2) (.slice Ao30 t193.length co30)) (fun _ h_=>h_.1))))) (Qj (by repeat(first|(with_reducible first|exact HB.out|apply Qe|apply Qa|apply Qf|refine Qg ?_ GE185.out|refine Qg ?_ GE197.out)|exact HB.out))));have n3_:=Aside0.mk (Kd.Zd (Kd.Zi (Kd.Zi ho1 (Kd.Zp (by(with_reducible repeat first|apply Kd.Qi|apply Kd.Qh|apply Kd.Ql);exact(Kd.Qu (Kd.Qm (p:=⟨gb197,3,none⟩) (Kd.Qm (p:=⟨gb197,2,none⟩) (Kd.Qm (p:=⟨gb197,1,none⟩) (Kd.Qm (p:=⟨gb197,0,none⟩) (Kd.Qy HO_2.out BK197.out (by decide)) (fun _ hk=>hk.2) (.int .i64 t190)) (fun _ hk=>hk.2) (.int .i64 t191)) (fun _ hk=>hk.2) (.int .i64 t192)) (fun _ hk=>hk.2) (.slice Ao30 t193.length co30)) (fun _ h_=>h_.1))))) (Kd.Zp (by(with_reducible repeat first|apply Kd.Qi|apply Kd.Qh|apply Kd.Ql);exact(Kd.Qu (Kd.Qm (p:=⟨gb197,3,none⟩) (Kd.Qm (p:=⟨gb197,2,none⟩) (Kd.Qm (p:=⟨gb197,1,none⟩) (Kd.Qm (p:=⟨gb197,0,none⟩) (Kd.Qy HO195.out BK197.out (by decide)) (fun _ hk=>hk.2) (.int .i64 t190)) (fun _ hk=>hk.2) (.int .i64 t191)) (fun _ hk=>hk.2) (.int .i64 t192)) (fun _ hk=>hk.2) (.slice Ao30 t193.length co30)) (fun _ h_=>h_.1))))) (Qj (by repeat(first|(with_reducible first|exact HB.out|apply Qe|apply Qa|apply Qf|refine Qg ?_ GE185.out|refine Qg ?_ GE197.out)|exact HB.out))));have n4_:=Aside0.mk (Qp (g:=gb185) (o:=.cells #[.int .i64 1,.int .i64 0,.int .i64 3,.slice none 0 0] 26 (0,0)) (by(with_reducible repeat first|apply Qb|apply Qd|apply Qc);refine Qs ?_ NB185_197.out _;(with_reducible repeat first|apply Qb|apply Qd|apply Qc);refine Qs ?_ NB185_197.out _;(with_reducible repeat first|apply Qb|apply Qd|apply Qc);refine Qs ?_ NB185_197.out _;(with_reducible repeat first|apply Qb|apply Qd|apply Qc);refine Qs ?_ NB185_197.out _;(with_reducible repeat first|apply Qb|apply Qd|apply Qc);exact BK185.out) hb);have n5_:=Aside0.mk (Qp (g:=gb197) (o:=.cells #[.int .i64 t190,.int .i64 t191,.int .i64 t192,.slice Ao30 t193.length co30] 26 (0,0)) (by(with_reducible repeat first|apply Qb|apply Qd|apply Qc);refine Qk (cs:=#[.int .i64 t190,.int .i64 t191,.int .i64 t192,.slice none 0 0]) ?_ 3 _ rfl;(with_reducible repeat first|apply Qb|apply Qd|apply Qc);refine Qk (cs:=#[.int .i64 t190,.int .i64 t191,.int .i64 0,.slice none 0 0]) ?_ 2 _ rfl;(with_reducible repeat first|apply Qb|apply Qd|apply Qc);refine Qk (cs:=#[.int .i64 t190,.int .i64 0,.int .i64 0,.slice none 0 0]) ?_ 1 _ rfl;(with_reducible repeat first|apply Qb|apply Qd|apply Qc);refine Qk (cs:=#[.int .i64 0,.int .i64 0,.int .i64 0,.slice none 0 0]) ?_ 0 _ rfl;(with_reducible repeat first|apply Qb|apply Qd|apply Qc);exact BK197.out) hb);have n6_:=Aside0.mk (Qr (by repeat(first|(with_reducible first|exact HB.out|apply Qe|apply Qa|apply Qf|refine Qg ?_ GE185.out|refine Qg ?_ GE197.out)|exact HB.out)) hb);clear HO_2;clear HO195;clear BK185;clear BK197;clear HB;have HO_2:=n0_;have HO195:=n1_;have HO200:=n2_;have HO203:=n3_;have BK185:=n4_;have BK197:=n5_;have HB:=n6_;clear n0_ n1_ n2_ n3_ n4_ n5_ n6_;(try clear hb);(try clear hb2);(try clear hk);(try clear hi);(try clear ho0);(try clear ho1))|((with_reducible refine Qz (N:=6) rfl ?_);refine Q7 ?hg (N:=6) ?hd (cs:=#[.slice none 0 0,.slice none 0 0]) (t:=24) ?hr ?_;(case hd=>rfl);(case hg=>rfl);(case hr=>first|(go_simp;done)|(go_simp;rfl));intro gb206 hg w33 hbox hb;have n0_:=Aside0.mk (Kd.Q1 (by(with_reducible repeat first|apply Kd.Qi|apply Kd.Qh|apply Kd.Ql);exact HO_2.out) hb);have n1_:=Aside0.mk (Kd.Q1 (by(with_reducible repeat first|apply Kd.Qi|apply Kd.Qh|apply Kd.Ql);exact HO195.out) hb);have n2_:=Aside0.mk (Kd.Q1 (by(with_reducible repeat first|apply Kd.Qi|apply Kd.Qh|apply Kd.Ql);exact HO200.out) hb);have n3_:=Aside0.mk (Kd.Q1 (by(with_reducible repeat first|apply Kd.Qi|apply Kd.Qh|apply Kd.Ql);exact HO203.out) hb);have n4_:=Aside0.mk (Qp (g:=gb185) (o:=.cells #[.int .i64 1,.int .i64 0,.int .i64 3,.slice none 0 0] 26 (0,0)) (by(with_reducible repeat first|apply Qb|apply Qd|apply Qc);exact BK185.out) hb);have n5_:=Aside0.mk (Qp (g:=gb197) (o:=.cells #[.int .i64 t190,.int .i64 t191,.int .i64 t192,.slice Ao30 t193.length co30] 26 (0,0)) (by(with_reducible repeat first|apply Qb|apply Qd|apply Qc);exact BK197.out) hb);have n6_:=Aside0.mk (Qr (by repeat(first|(with_reducible first|exact HB.out|apply Qe|apply Qa|apply Qf|refine Qg ?_ GE185.out|refine Qg ?_ GE197.out)|exact HB.out)) hb);have n7_:=Aside0.mk (hbox);have n8_:=Aside0.mk ((by rw[hg];exact(Qj (by repeat(first|(with_reducible first|exact HB.out|apply Qe|apply Qa|apply Qf|refine Qg ?_ GE185.out|refine Qg ?_ GE197.out)|exact HB.out))):w.heap.size≤gb206));have n9_:=Aside0.mk ((by rw[hg];exact(Qj (by repeat(first|(with_reducible first|exact HB.out|apply Qe|apply Qa|apply Qf|refine Qg ?_ GE185.out|refine Qg ?_ GE197.out)|exact HB.out))):w.heap.size≤gb206));have n10_:=Aside0.mk ((by rw[hg];exact Nat.ne_of_lt (Q8 (g:=gb185) (o:=.cells #[.int .i64 1,.int .i64 0,.int .i64 3,.slice none 0 0] 26 (0,0)) (by(with_reducible repeat first|apply Qb|apply Qd|apply Qc);exact BK185.out)):gb185≠gb206));have n11_:=Aside0.mk ((by rw[hg];exact Nat.ne_of_gt (Q8 (g:=gb185) (o:=.cells #[.int .i64 1,.int .i64 0,.int .i64 3,.slice none 0 0] 26 (0,0)) (by(with_reducible repeat first|apply Qb|apply Qd|apply Qc);exact BK185.out)):gb206≠gb185));have n12_:=Aside0.mk ((by rw[hg];exact Nat.ne_of_lt (Q8 (g:=gb197) (o:=.cells #[.int .i64 t190,.int .i64 t191,.int .i64 t192,.slice Ao30 t193.length co30] 26 (0,0)) (by(with_reducible repeat first|apply Qb|apply Qd|apply Qc);exact BK197.out)):gb197≠gb206));have n13_:=Aside0.mk ((by rw[hg];exact Nat.ne_of_gt (Q8 (g:=gb197) (o:=.cells #[.int .i64 t190,.int .i64 t191,.int .i64 t192,.slice Ao30 t193.length co30] 26 (0,0)) (by(with_reducible repeat first|apply Qb|apply Qd|apply Qc);exact BK197.out)):gb206≠gb197));clear HO_2;clear HO195;clear HO200;clear HO203;clear BK185;clear BK197;clear HB;have HO_2:=n0_;have HO195:=n1_;have HO200:=n2_;have HO203:=n3_;have BK185:=n4_;have BK197:=n5_;have HB:=n6_;have BK206:=n7_;have GW206:=n8_;have GE206:=n9_;have NB185_206:=n10_;have NB206_185:=n11_;have NB197_206:=n12_;have NB206_197:=n13_;clear n0_ n1_ n2_ n3_ n4_ n5_ n6_ n7_ n8_ n9_ n10_ n11_ n12_ n13_;clear hb hbox hg;obtain⟨Ao34,co34,eo34⟩:=Kd.Zf HO200.out;subst eo34;have hnb35:=NB206_185.out;have hnc35:=NB185_206.out;have hnb36:=NB206_197.out;have hnc36:=NB197_206.out;obtain⟨hcz37_0,hcz37_1,hfz37_0,hfz37_1⟩:=qD2 BK206.out;obtain⟨Ao38,co38,eo38⟩:=Kd.Zf HO203.out;subst eo38)|((with_reducible refine Qv (f:=14) rfl ?_);refine Ze (some 39) rfl rfl Tryd.func14 kr rfl #[.agg #[.slice Ao34 t198.length co34,.slice Ao38 t201.length co38]] rfl (by(try simp only[List.map_toArray,List.map_cons,List.map_nil]);first|done|rfl|(simp only[List.length_drop,List.length_take];rfl)) ?_;(with_reducible refine(flash_Recover.calls kj1 _ _ t198 _ _ t201 t207 t208 t209 t210 false t214 _ ?side1 ?side2 ?side3 ?side4 A11.out (by first|exact HTAB.out|((repeat(first|exact HTAB.out|(with_reducible refine Laid.Zo ?_ _)|(with_reducible refine Laid.Zn ?_ _)|(with_reducible refine Laid.Zq ?_)));done)|(refine Laid.Zk HTAB.out ?_;(repeat(first|(with_reducible first|exact HB.out|apply Qe|apply Qa|apply Qf)|exact HB.out|(refine Qg ?_ (Aside0.out (by assumption)))))))).mono ?_);(case side1=>refine(Kd.Q4 (e:=5) (base:=w.heap.size) (ok:=fun k_=>((some k_≠(.slice Ao38 t201.length co38:Value).ownBlock∧some k_≠(.slice Ao25 t186.length co25:Value).ownBlock)∧some k_≠(.slice Ao30 t193.length co30:Value).ownBlock)) (n:=t198.length) (c:=co34) ?_).2.2;exact(by(with_reducible repeat first|apply Kd.Qi|apply Kd.Qh|apply Kd.Ql);exact(Kd.Qu (Kd.Qm (p:=⟨gb206,1,none⟩) (Kd.Qm (p:=⟨gb206,0,none⟩) (Kd.Qy HO200.out BK206.out (by decide)) (fun _ hk=>hk.2) (.slice Ao34 t198.length co34)) (fun _ hk=>hk.2) (.slice Ao38 t201.length co38)) (fun _ h_=>h_.1))));(case side2=>exact(Kd.Q4 HO200.out).2.1);(case side3=>refine(Kd.Q4 (e:=5) (base:=w.heap.size) (ok:=fun k_=>((some k_≠(.slice Ao34 t198.length co34:Value).ownBlock∧some k_≠(.slice Ao25 t186.length co25:Value).ownBlock)∧some k_≠(.slice Ao30 t193.length co30:Value).ownBlock)) (n:=t201.length) (c:=co38) ?_).2.2;exact(by(with_reducible repeat first|apply Kd.Qi|apply Kd.Qh|apply Kd.Ql);exact(Kd.Qu (Kd.Qm (p:=⟨gb206,1,none⟩) (Kd.Qm (p:=⟨gb206,0,none⟩) (Kd.Qy HO203.out BK206.out (by decide)) (fun _ hk=>hk.2) (.slice Ao34 t198.length co34)) (fun _ hk=>hk.2) (.slice Ao38 t201.length co38)) (fun _ h_=>h_.1))));(case side4=>exact(Kd.Q4 HO203.out).2.1);rintro e w39 ⟨v211,rfl,ho0,hb⟩;refine⟨_,rfl, ?_⟩;have n0_:=Aside0.mk (Kd.Zj (by(with_reducible repeat first|apply Kd.Qi|apply Kd.Qh|apply Kd.Ql);exact(Kd.Qu (Kd.Qm (p:=⟨gb206,1,none⟩) (Kd.Qm (p:=⟨gb206,0,none⟩) (Kd.Qy HO_2.out BK206.out (by decide)) (fun _ hk=>hk.2) (.slice Ao34 t198.length co34)) (fun _ hk=>hk.2) (.slice Ao38 t201.length co38)) (fun _ h_=>h_.1))) (Kd.Q5 ho0) hb);have n1_:=Aside0.mk (Kd.Zj (by(with_reducible repeat first|apply Kd.Qi|apply Kd.Qh|apply Kd.Ql);exact(Kd.Qu (Kd.Qm (p:=⟨gb206,1,none⟩) (Kd.Qm (p:=⟨gb206,0,none⟩) (Kd.Qy HO195.out BK206.out (by decide)) (fun _ hk=>hk.2) (.slice Ao34 t198.length co34)) (fun _ hk=>hk.2) (.slice Ao38 t201.length co38)) (fun _ h_=>h_.1))) (Kd.Q5 ho0) hb);have n2_:=Aside0.mk (Kd.Zj (by(with_reducible repeat first|apply Kd.Qi|apply Kd.Qh|apply Kd.Ql);exact(Kd.Qu (Kd.Qm (p:=⟨gb206,1,none⟩) (Kd.Qm (p:=⟨gb206,0,none⟩) (Kd.Qy HO200.out BK206.out (by decide)) (fun _ hk=>hk.2) (.slice Ao34 t198.length co34)) (fun _ hk=>hk.2) (.slice Ao38 t201.length co38)) (fun _ h_=>h_.1))) (Kd.Q5 ho0) hb);have n3_:=Aside0.mk (Kd.Zj (by(with_reducible repeat first|apply Kd.Qi|apply Kd.Qh|apply Kd.Ql);exact(Kd.Qu (Kd.Qm (p:=⟨gb206,1,none⟩) (Kd.Qm (p:=⟨gb206,0,none⟩) (Kd.Qy HO203.out BK206.out (by decide)) (fun _ hk=>hk.2) (.slice Ao34 t198.length co34)) (fun _ hk=>hk.2) (.slice Ao38 t201.length co38)) (fun _ h_=>h_.1))) (Kd.Q5 ho0) hb);have n4_:=Aside0.mk (Kd.Zd (Kd.Zi (Kd.Zi (Kd.Zi (Kd.Zi ho0 (Kd.Zp (by(with_reducible repeat first|apply Kd.Qi|apply Kd.Qh|apply Kd.Ql);exact(Kd.Qu (Kd.Qm (p:=⟨gb206,1,none⟩) (Kd.Qm (p:=⟨gb206,0,none⟩) (Kd.Qy HO_2.out BK206.out (by decide)) (fun _ hk=>hk.2) (.slice Ao34 t198.length co34)) (fun _ hk=>hk.2) (.slice Ao38 t201.length co38)) (fun _ h_=>h_.1))))) (Kd.Zp (by(with_reducible repeat first|apply Kd.Qi|apply Kd.Qh|apply Kd.Ql);exact(Kd.Qu (Kd.Qm (p:=⟨gb206,1,none⟩) (Kd.Qm (p:=⟨gb206,0,none⟩) (Kd.Qy HO195.out BK206.out (by decide)) (fun _ hk=>hk.2) (.slice Ao34 t198.length co34)) (fun _ hk=>hk.2) (.slice Ao38 t201.length co38)) (fun _ h_=>h_.1))))) (Kd.Zp (by(with_reducible repeat first|apply Kd.Qi|apply Kd.Qh|apply Kd.Ql);exact(Kd.Qu (Kd.Qm (p:=⟨gb206,1,none⟩) (Kd.Qm (p:=⟨gb206,0,none⟩) (Kd.Qy HO200.out BK206.out (by decide)) (fun _ hk=>hk.2) (.slice Ao34 t198.length co34)) (fun _ hk=>hk.2) (.slice Ao38 t201.length co38)) (fun _ h_=>h_.1))))) (Kd.Zp (by(with_reducible repeat first|apply Kd.Qi|apply Kd.Qh|apply Kd.Ql);exact(Kd.Qu (Kd.Qm (p:=⟨gb206,1,none⟩) (Kd.Qm (p:=⟨gb206,0,none⟩) (Kd.Qy HO203.out BK206.out (by decide)) (fun _ hk=>hk.2) (.slice Ao34 t198.length co34)) (fun _ hk=>hk.2) (.slice Ao38 t201.length co38)) (fun _ h_=>h_.1))))) (Qj (by repeat(first|(with_reducible first|exact HB.out|apply Qe|apply Qa|apply Qf|refine Qg ?_ GE185.out|refine Qg ?_ GE197.out|refine Qg ?_ GE206.out)|exact HB.out))));have n5_:=Aside0.mk (Qp (g:=gb185) (o:=.cells #[.int .i64 1,.int .i64 0,.int .i64 3,.slice none 0 0] 26 (0,0)) (by(with_reducible repeat first|apply Qb|apply Qd|apply Qc);refine Qs ?_ NB185_206.out _;(with_reducible repeat first|apply Qb|apply Qd|apply Qc);refine Qs ?_ NB185_206.out _;(with_reducible repeat first|apply Qb|apply Qd|apply Qc);exact BK185.out) hb);have n6_:=Aside0.mk (Qp (g:=gb197) (o:=.cells #[.int .i64 t190,.int .i64 t191,.int .i64 t192,.slice Ao30 t193.length co30] 26 (0,0)) (by(with_reducible repeat first|apply Qb|apply Qd|apply Qc);refine Qs ?_ NB197_206.out _;(with_reducible repeat first|apply Qb|apply Qd|apply Qc);refine Qs ?_ NB197_206.out _;(with_reducible repeat first|apply Qb|apply Qd|apply Qc);exact BK197.out) hb);have n7_:=Aside0.mk (Qp (g:=gb206) (o:=.cells #[.slice Ao34 t198.length co34,.slice Ao38 t201.length co38] 24 (0,0)) (by(with_reducible repeat first|apply Qb|apply Qd|apply Qc);refine Qk (cs:=#[.slice Ao34 t198.length co34,.slice none 0 0]) ?_ 1 _ rfl;(with_reducible repeat first|apply Qb|apply Qd|apply Qc);refine Qk (cs:=#[.slice none 0 0,.slice none 0 0]) ?_ 0 _ rfl;(with_reducible repeat first|apply Qb|apply Qd|apply Qc);exact BK206.out) hb);have n8_:=Aside0.mk (Qr (by repeat(first|(with_reducible first|exact HB.out|apply Qe|apply Qa|apply Qf|refine Qg ?_ GE185.out|refine Qg ?_ GE197.out|refine Qg ?_ GE206.out)|exact HB.out)) hb);clear HO_2;clear HO195;clear HO200;clear HO203;clear BK185;clear BK197;clear BK206;clear HB;have HO_2:=n0_;have HO195:=n1_;have HO200:=n2_;have HO203:=n3_;have HO212:=n4_;have BK185:=n5_;have BK197:=n6_;have BK206:=n7_;have HB:=n8_;clear n0_ n1_ n2_ n3_ n4_ n5_ n6_ n7_ n8_;(try clear hb);(try clear hb2);(try clear hk);(try clear hi);(try clear ho0))|((with_reducible refine Qz (N:=9) rfl ?_);refine Q7 ?hg (N:=9) ?hd (cs:=#[.int .i64 0,.int .i64 0,.int .i64 0,.slice none 0 0]) (t:=26) ?hr ?_;(case hd=>rfl);(case hg=>rfl);(case hr=>first|(go_simp;done)|(go_simp;rfl));intro gb215 hg w40 hbox hb;have n0_:=Aside0.mk (Kd.Q1 (by(with_reducible repeat first|apply Kd.Qi|apply Kd.Qh|apply Kd.Ql);exact HO_2.out) hb);have n1_:=Aside0.mk (Kd.Q1 (by(with_reducible repeat first|apply Kd.Qi|apply Kd.Qh|apply Kd.Ql);exact HO195.out) hb);have n2_:=Aside0.mk (Kd.Q1 (by(with_reducible repeat first|apply Kd.Qi|apply Kd.Qh|apply Kd.Ql);exact HO200.out) hb);have n3_:=Aside0.mk (Kd.Q1 (by(with_reducible repeat first|apply Kd.Qi|apply Kd.Qh|apply Kd.Ql);exact HO203.out) hb);have n4_:=Aside0.mk (Kd.Q1 (by(with_reducible repeat first|apply Kd.Qi|apply Kd.Qh|apply Kd.Ql);exact HO212.out) hb);have n5_:=Aside0.mk (Qp (g:=gb185) (o:=.cells #[.int .i64 1,.int .i64 0,.int .i64 3,.slice none 0 0] 26 (0,0)) (by(with_reducible repeat first|apply Qb|apply Qd|apply Qc);exact BK185.out) hb);have n6_:=Aside0.mk (Qp (g:=gb197) (o:=.cells #[.int .i64 t190,.int .i64 t191,.int .i64 t192,.slice Ao30 t193.length co30] 26 (0,0)) (by(with_reducible repeat first|apply Qb|apply Qd|apply Qc);exact BK197.out) hb);have n7_:=Aside0.mk (Qp (g:=gb206) (o:=.cells #[.slice Ao34 t198.length co34,.slice Ao38 t201.length co38] 24 (0,0)) (by(with_reducible repeat first|apply Qb|apply Qd|apply Qc);exact BK206.out) hb);have n8_:=Aside0.mk (Qr (by repeat(first|(with_reducible first|exact HB.out|apply Qe|apply Qa|apply Qf|refine Qg ?_ GE185.out|refine Qg ?_ GE197.out|refine Qg ?_ GE206.out)|exact HB.out)) hb);have n9_:=Aside0.mk (hbox);have n10_:=Aside0.mk ((by rw[hg];exact(Qj (by repeat(first|(with_reducible first|exact HB.out|apply Qe|apply Qa|apply Qf|refine Qg ?_ GE185.out|refine Qg ?_ GE197.out|refine Qg ?_ GE206.out)|exact HB.out))):w.heap.size≤gb215));have n11_:=Aside0.mk ((by rw[hg];exact(Qj (by repeat(first|(with_reducible first|exact HB.out|apply Qe|apply Qa|apply Qf|refine Qg ?_ GE185.out|refine Qg ?_ GE197.out|refine Qg ?_ GE206.out)|exact HB.out))):w.heap.size≤gb215));have n12_:=Aside0.mk ((by rw[hg];exact Nat.ne_of_lt (Q8 (g:=gb185) (o:=.cells #[.int .i64 1,.int .i64 0,.int .i64 3,.slice none 0 0] 26 (0,0)) (by(with_reducible repeat first|apply Qb|apply Qd|apply Qc);exact BK185.out)):gb185≠gb215));have n13_:=Aside0.mk ((by rw[hg];exact Nat.ne_of_gt (Q8 (g:=gb185) (o:=.cells #[.int .i64 1,.int .i64 0,.int .i64 3,.slice none 0 0] 26 (0,0)) (by(with_reducible repeat first|apply Qb|apply Qd|apply Qc);exact BK185.out)):gb215≠gb185));have n14_:=Aside0.mk ((by rw[hg];exact Nat.ne_of_lt (Q8 (g:=gb197) (o:=.cells #[.int .i64 t190,.int .i64 t191,.int .i64 t192,.slice Ao30 t193.length co30] 26 (0,0)) (by(with_reducible repeat first|apply Qb|apply Qd|apply Qc);exact BK197.out)):gb197≠gb215));have n15_:=Aside0.mk ((by rw[hg];exact Nat.ne_of_gt (Q8 (g:=gb197) (o:=.cells #[.int .i64 t190,.int .i64 t191,.int .i64 t192,.slice Ao30 t193.length co30] 26 (0,0)) (by(with_reducible repeat first|apply Qb|apply Qd|apply Qc);exact BK197.out)):gb215≠gb197));have n16_:=Aside0.mk ((by rw[hg];exact Nat.ne_of_lt (Q8 (g:=gb206) (o:=.cells #[.slice Ao34 t198.length co34,.slice Ao38 t201.length co38] 24 (0,0)) (by(with_reducible repeat first|apply Qb|apply Qd|apply Qc);exact BK206.out)):gb206≠gb215));have n17_:=Aside0.mk ((by rw[hg];exact Nat.ne_of_gt (Q8 (g:=gb206) (o:=.cells #[.slice Ao34 t198.length co34,.slice Ao38 t201.length co38] 24 (0,0)) (by(with_reducible repeat first|apply Qb|apply Qd|apply Qc);exact BK206.out)):gb215≠gb206));clear HO_2;clear HO195;clear HO200;clear HO203;clear HO212;clear BK185;clear BK197;clear BK206;clear HB;have HO_2:=n0_;have HO195:=n1_;have HO200:=n2_;have HO203:=n3_;have HO212:=n4_;have BK185:=n5_;have BK197:=n6_;have BK206:=n7_;have HB:=n8_;have BK215:=n9_;have GW215:=n10_;have GE215:=n11_;have NB185_215:=n12_;have NB215_185:=n13_;have NB197_215:=n14_;have NB215_197:=n15_;have NB206_215:=n16_;have NB215_206:=n17_;clear n0_ n1_ n2_ n3_ n4_ n5_ n6_ n7_ n8_ n9_ n10_ n11_ n12_ n13_ n14_ n15_ n16_ n17_;clear hb hbox hg;have hnb41:=NB215_185.out;have hnc41:=NB185_215.out;have hnb42:=NB215_197.out;have hnc42:=NB197_215.out;have hnb43:=NB215_206.out;have hnc43:=NB206_215.out;obtain⟨hcz44_0,hcz44_1,hcz44_2,hcz44_3,hfz44_0,hfz44_1,hfz44_2,hfz44_3⟩:=qD4 BK215.out;obtain⟨Ao45,co45,eo45⟩:=Kd.Zf HO212.out;subst eo45)|((with_reducible refine Xq (t:=26) (p:=9) rfl ?_);refine Xd (t:=26) (p:=9) (v:=?vo_w46) (w1:=((((w40.setCell ⟨gb215,0,none⟩ (.int .i64 t207)).setCell ⟨gb215,1,none⟩ (.int .i64 t208)).setCell ⟨gb215,2,none⟩ (.int .i64 t209)).setCell ⟨gb215,3,none⟩ (.slice Ao45 t210.length co45))) ?hg ?ho ?hn ?hr ?_;(case ho=>rfl);(case hg=>rfl);(case hn=>rfl);(case hr=>first|(go_simp;done)|(go_simp;rfl));intro w46 hw;have n0_:Aside0 (Kd.R (Kd.int .u8) 5 w46 w.heap.size (fun k_=>some k_≠(.slice Ao30 t193.length co30:Value).ownBlock∧some k_≠(.slice Ao34 t198.length co34:Value).ownBlock∧some k_≠(.slice Ao38 t201.length co38:Value).ownBlock∧some k_≠(.slice Ao45 t210.length co45:Value).ownBlock) (.slice Ao25 t186.length co25) t186):=⟨(by rw[hw];exact(by(with_reducible repeat first|apply Kd.Qi|apply Kd.Qh|apply Kd.Ql);exact Kd.Qu (Kd.Qm (p:=⟨gb215,3,none⟩) (Kd.Qm (p:=⟨gb215,2,none⟩) (Kd.Qm (p:=⟨gb215,1,none⟩) (Kd.Qm (p:=⟨gb215,0,none⟩) (Kd.Qy HO_2.out BK215.out (by decide)) (fun _ hk=>hk.2) (.int .i64 t207)) (fun _ hk=>hk.2) (.int .i64 t208)) (fun _ hk=>hk.2) (.int .i64 t209)) (fun _ hk=>hk.2) (.slice Ao45 t210.length co45)) (fun _ hk=>⟨hk.1.1.1.1.2,⟨hk.1.1.1.2,⟨hk.1.1.2,hk.1.2⟩⟩⟩)))⟩;have n1_:Aside0 (Kd.R (Kd.int .u8) 5 w46 w.heap.size (fun k_=>some k_≠(.slice Ao25 t186.length co25:Value).ownBlock∧some k_≠(.slice Ao34 t198.length co34:Value).ownBlock∧some k_≠(.slice Ao38 t201.length co38:Value).ownBlock∧some k_≠(.slice Ao45 t210.length co45:Value).ownBlock) (.slice Ao30 t193.length co30) t193):=⟨(by rw[hw];exact(by(with_reducible repeat first|apply Kd.Qi|apply Kd.Qh|apply Kd.Ql);exact Kd.Qu (Kd.Qm (p:=⟨gb215,3,none⟩) (Kd.Qm (p:=⟨gb215,2,none⟩) (Kd.Qm (p:=⟨gb215,1,none⟩) (Kd.Qm (p:=⟨gb215,0,none⟩) (Kd.Qy HO195.out BK215.out (by decide)) (fun _ hk=>hk.2) (.int .i64 t207)) (fun _ hk=>hk.2) (.int .i64 t208)) (fun _ hk=>hk.2) (.int .i64 t209)) (fun _ hk=>hk.2) (.slice Ao45 t210.length co45)) (fun _ hk=>⟨hk.1.1.1.1.2,⟨hk.1.1.1.2,⟨hk.1.1.2,hk.1.2⟩⟩⟩)))⟩;have n2_:Aside0 (Kd.R (Kd.int .u8) 5 w46 w.heap.size (fun k_=>some k_≠(.slice Ao25 t186.length co25:Value).ownBlock∧some k_≠(.slice Ao30 t193.length co30:Value).ownBlock∧some k_≠(.slice Ao38 t201.length co38:Value).ownBlock∧some k_≠(.slice Ao45 t210.length co45:Value).ownBlock) (.slice Ao34 t198.length co34) t198):=⟨(by rw[hw];exact(by(with_reducible repeat first|apply Kd.Qi|apply Kd.Qh|apply Kd.Ql);exact Kd.Qu (Kd.Qm (p:=⟨gb215,3,none⟩) (Kd.Qm (p:=⟨gb215,2,none⟩) (Kd.Qm (p:=⟨gb215,1,none⟩) (Kd.Qm (p:=⟨gb215,0,none⟩) (Kd.Qy HO200.out BK215.out (by decide)) (fun _ hk=>hk.2) (.int .i64 t207)) (fun _ hk=>hk.2) (.int .i64 t208)) (fun _ hk=>hk.2) (.int .i64 t209)) (fun _ hk=>hk.2) (.slice Ao45 t210.length co45)) (fun _ hk=>⟨hk.1.1.1.2,⟨hk.1.1.2,⟨hk.1.1.1.1,hk.1.2⟩⟩⟩)))⟩;have n3_:Aside0 (Kd.R (Kd.int .u8) 5 w46 w.heap.size (fun k_=>some k_≠(.slice Ao25 t186.length co25:Value).ownBlock∧some k_≠(.slice Ao30 t193.length co30:Value).ownBlock∧some k_≠(.slice Ao34 t198.length co34:Value).ownBlock∧some k_≠(.slice Ao45 t210.length co45:Value).ownBlock) (.slice Ao38 t201.length co38) t201):=⟨(by rw[hw];exact(by(with_reducible repeat first|apply Kd.Qi|apply Kd.Qh|apply Kd.Ql);exact Kd.Qu (Kd.Qm (p:=⟨gb215,3,none⟩) (Kd.Qm (p:=⟨gb215,2,none⟩) (Kd.Qm (p:=⟨gb215,1,none⟩) (Kd.Qm (p:=⟨gb215,0,none⟩) (Kd.Qy HO203.out BK215.out (by decide)) (fun _ hk=>hk.2) (.int .i64 t207)) (fun _ hk=>hk.2) (.int .i64 t208)) (fun _ hk=>hk.2) (.int .i64 t209)) (fun _ hk=>hk.2) (.slice Ao45 t210.length co45)) (fun _ hk=>⟨hk.1.1.1.2,⟨hk.1.1.2,⟨hk.1.1.1.1,hk.1.2⟩⟩⟩)))⟩;have n4_:Aside0 (Kd.R (Kd.int .u8) 5 w46 w.heap.size (fun k_=>some k_≠(.slice Ao25 t186.length co25:Value).ownBlock∧some k_≠(.slice Ao30 t193.length co30:Value).ownBlock∧some k_≠(.slice Ao34 t198.length co34:Value).ownBlock∧some k_≠(.slice Ao38 t201.length co38:Value).ownBlock) (.slice Ao45 t210.length co45) t210):=⟨(by rw[hw];exact(by(with_reducible repeat first|apply Kd.Qi|apply Kd.Qh|apply Kd.Ql);exact Kd.Qu (Kd.Qm (p:=⟨gb215,3,none⟩) (Kd.Qm (p:=⟨gb215,2,none⟩) (Kd.Qm (p:=⟨gb215,1,none⟩) (Kd.Qm (p:=⟨gb215,0,none⟩) (Kd.Qy HO212.out BK215.out (by decide)) (fun _ hk=>hk.2) (.int .i64 t207)) (fun _ hk=>hk.2) (.int .i64 t208)) (fun _ hk=>hk.2) (.int .i64 t209)) (fun _ hk=>hk.2) (.slice Ao45 t210.length co45)) (fun _ hk=>⟨hk.1.1.1.1.2,⟨hk.1.1.1.2,⟨hk.1.1.2,hk.1.2⟩⟩⟩)))⟩;have n5_:Aside0 (w46.heap[gb185]?=some (.cells #[.int .i64 1,.int .i64 0,.int .i64 3,.slice none 0 0] 26 (0,0))):=⟨(by rw[hw];exact(by(with_reducible repeat first|apply Qb|apply Qd|apply Qc);refine Qs ?_ NB185_215.out _;(with_reducible repeat first|apply Qb|apply Qd|apply Qc);refine Qs ?_ NB185_215.out _;(with_reducible repeat first|apply Qb|apply Qd|apply Qc);refine Qs ?_ NB185_215.out _;(with_reducible repeat first|apply Qb|apply Qd|apply Qc);refine Qs ?_ NB185_215.out _;(with_reducible repeat first|apply Qb|apply Qd|apply Qc);exact BK185.out))⟩;have n6_:Aside0 (w46.heap[gb197]?=some (.cells #[.int .i64 t190,.int .i64 t191,.int .i64 t192,.slice Ao30 t193.length co30] 26 (0,0))):=⟨(by rw[hw];exact(by(with_reducible repeat first|apply Qb|apply Qd|apply Qc);refine Qs ?_ NB197_215.out _;(with_reducible repeat first|apply Qb|apply Qd|apply Qc);refine Qs ?_ NB197_215.out _;(with_reducible repeat first|apply Qb|apply Qd|apply Qc);refine Qs ?_ NB197_215.out _;(with_reducible repeat first|apply Qb|apply Qd|apply Qc);refine Qs ?_ NB197_215.out _;(with_reducible repeat first|apply Qb|apply Qd|apply Qc);exact BK197.out))⟩;have n7_:Aside0 (w46.heap[gb206]?=some (.cells #[.slice Ao34 t198.length co34,.slice Ao38 t201.length co38] 24 (0,0))):=⟨(by rw[hw];exact(by(with_reducible repeat first|apply Qb|apply Qd|apply Qc);refine Qs ?_ NB206_215.out _;(with_reducible repeat first|apply Qb|apply Qd|apply Qc);refine Qs ?_ NB206_215.out _;(with_reducible repeat first|apply Qb|apply Qd|apply Qc);refine Qs ?_ NB206_215.out _;(with_reducible repeat first|apply Qb|apply Qd|apply Qc);refine Qs ?_ NB206_215.out _;(with_reducible repeat first|apply Qb|apply Qd|apply Qc);exact BK206.out))⟩;have n8_:Aside0 (w46.heap[gb215]?=some (.cells #[.int .i64 t207,.int .i64 t208,.int .i64 t209,.slice Ao45 t210.length co45] 26 (0,0))):=⟨(by rw[hw];exact(by(with_reducible repeat first|apply Qb|apply Qd|apply Qc);refine Qk (cs:=#[.int .i64 t207,.int .i64 t208,.int .i64 t209,.slice none 0 0]) ?_ 3 _ rfl;(with_reducible repeat first|apply Qb|apply Qd|apply Qc);refine Qk (cs:=#[.int .i64 t207,.int .i64 t208,.int .i64 0,.slice none 0 0]) ?_ 2 _ rfl;(with_reducible repeat first|apply Qb|apply Qd|apply Qc);refine Qk (cs:=#[.int .i64 t207,.int .i64 0,.int .i64 0,.slice none 0 0]) ?_ 1 _ rfl;(with_reducible repeat first|apply Qb|apply Qd|apply Qc);refine Qk (cs:=#[.int .i64 0,.int .i64 0,.int .i64 0,.slice none 0 0]) ?_ 0 _ rfl;(with_reducible repeat first|apply Qb|apply Qd|apply Qc);exact BK215.out))⟩;have n9_:Aside0 (Below w.heap.size w w46):=⟨(by rw[hw];exact(by repeat(first|(with_reducible first|exact HB.out|apply Qe|apply Qa|apply Qf|refine Qg ?_ GE185.out|refine Qg ?_ GE197.out|refine Qg ?_ GE206.out|refine Qg ?_ GE215.out)|exact HB.out)))⟩;clear hw;clear HO_2;clear HO195;clear HO200;clear HO203;clear HO212;clear BK185;clear BK197;clear BK206;clear BK215;clear HB;have HO_2:=n0_;have HO195:=n1_;have HO200:=n2_;have HO203:=n3_;have HO212:=n4_;have BK185:=n5_;have BK197:=n6_;have BK206:=n7_;have BK215:=n8_;have HB:=n9_;clear n0_ n1_ n2_ n3_ n4_ n5_ n6_ n7_ n8_ n9_;have q47:(5:Int)≤((t186.length:Int):Int):=of_decide_eq_true (by first|(with_reducible assumption)|assumption);obtain⟨i047,hi047,_,hsz47,_⟩:=info_parts Zx;have hroom47:t186.length≤co25:=(Kd.Q4 HO_2.out).2.1;have hC47:Kd.C (Kd.int .u8) _ Ao25 t186.length t186:=(Kd.Q4 HO_2.out).2.2;have hcut47:=Yr (P:=Tryd.prog) 22 5 .i64 Tryd.underlying22 hi047 Ao25 t186.length co25 5 (by omega) q47 hroom47;have hr47:=Kd.Vr (m:=5) hC47 (by omega);have hy47:y216.length=(5:Int).toNat:=(by rw[Ny216.out,List.length_take];omega);rw[← Ny216.out] at hr47;rw[← hy47] at hcut47;have HR219:=Aside0.mk hr47;have HC219:=Aside0.mk (show y216.length≤co25 from by omega);clear hr47 hC47 hroom47 hi047 hsz47;have KY47:=Aside0.mk hy47;clear hy47;have KL47:=Aside0.mk (show 5≤t186.length from by omega);replace q47:=eq_true q47)|((with_reducible refine Qz (N:=45) rfl ?_);refine Kd.K2 (Kd.int .u8) _ 5 ?hg (N:=45) ?hd (xs:=([6,2,0,6,0]:List Int)) (inner:=[.int .u8 6,.int .u8 2,.int .u8 0,.int .u8 6,.int .u8 0]) (ok:=fun _=>True) (okp:=fun _=>True) ?hr ?hp (fun _ hk=>hk) trivial (Below.refl _ _) (Nat.le_refl _) (by simp) ?_;(case hd=>rfl);(case hg=>rfl);(case hr=>first|(go_simp;done)|(go_simp;rfl));(case hp=>exact(Reps.one (show Kd.M (Kd.int .u8) _ _ _ 6 [.int .u8 6] from rfl) (Reps.one (show Kd.M (Kd.int .u8) _ _ _ 2 [.int .u8 2] from rfl) (Reps.one (show Kd.M (Kd.int .u8) _ _ _ 0 [.int .u8 0] from rfl) (Reps.one (show Kd.M (Kd.int .u8) _ _ _ 6 [.int .u8 6] from rfl) (Reps.one (show Kd.M (Kd.int .u8) _ _ _ 0 [.int .u8 0] from rfl) (Reps.none _ _)))))));intro v221 w48 ho49 hb hg_ hnew_;clear hg_ hnew_;(first|rw[← Ny220.out] at ho49|(simp only[Int.reduceToNat] at ho49;rw[← Ny220.out] at ho49));have n0_:=Aside0.mk (Kd.Zj (by(with_reducible repeat first|apply Kd.Qi|apply Kd.Qh|apply Kd.Ql);exact HO_2.out) (Kd.Q5 ho49) hb);have n1_:=Aside0.mk (Kd.Zj (by(with_reducible repeat first|apply Kd.Qi|apply Kd.Qh|apply Kd.Ql);exact HO195.out) (Kd.Q5 ho49) hb);have n2_:=Aside0.mk (Kd.Zj (by(with_reducible repeat first|apply Kd.Qi|apply Kd.Qh|apply Kd.Ql);exact HO200.out) (Kd.Q5 ho49) hb);have n3_:=Aside0.mk (Kd.Zj (by(with_reducible repeat first|apply Kd.Qi|apply Kd.Qh|apply Kd.Ql);exact HO203.out) (Kd.Q5 ho49) hb);have n4_:=Aside0.mk (Kd.Zj (by(with_reducible repeat first|apply Kd.Qi|apply Kd.Qh|apply Kd.Ql);exact HO212.out) (Kd.Q5 ho49) hb);have n5_:=Aside0.mk (Kd.Zd (Kd.Zi (Kd.Zi (Kd.Zi (Kd.Zi (Kd.Zi ho49 (Kd.Zp (by(with_reducible repeat first|apply Kd.Qi|apply Kd.Qh|apply Kd.Ql);exact HO_2.out))) (Kd.Zp (by(with_reducible repeat first|apply Kd.Qi|apply Kd.Qh|apply Kd.Ql);exact HO195.out))) (Kd.Zp (by(with_reducible repeat first|apply Kd.Qi|apply Kd.Qh|apply Kd.Ql);exact HO200.out))) (Kd.Zp (by(with_reducible repeat first|apply Kd.Qi|apply Kd.Qh|apply Kd.Ql);exact HO203.out))) (Kd.Zp (by(with_reducible repeat first|apply Kd.Qi|apply Kd.Qh|apply Kd.Ql);exact HO212.out))) (Qj (by repeat(first|(with_reducible first|exact HB.out|apply Qe|apply Qa|apply Qf|refine Qg ?_ GE185.out|refine Qg ?_ GE197.out|refine Qg ?_ GE206.out|refine Qg ?_ GE215.out)|exact HB.out))));have n6_:=Aside0.mk (Qp (g:=gb185) (o:=.cells #[.int .i64 1,.int .i64 0,.int .i64 3,.slice none 0 0] 26 (0,0)) (by(with_reducible repeat first|apply Qb|apply Qd|apply Qc);exact BK185.out) hb);have n7_:=Aside0.mk (Qp (g:=gb197) (o:=.cells #[.int .i64 t190,.int .i64 t191,.int .i64 t192,.slice Ao30 t193.length co30] 26 (0,0)) (by(with_reducible repeat first|apply Qb|apply Qd|apply Qc);exact BK197.out) hb);have n8_:=Aside0.mk (Qp (g:=gb206) (o:=.cells #[.slice Ao34 t198.length co34,.slice Ao38 t201.length co38] 24 (0,0)) (by(with_reducible repeat first|apply Qb|apply Qd|apply Qc);exact BK206.out) hb);have n9_:=Aside0.mk (Qp (g:=gb215) (o:=.cells #[.int .i64 t207,.int .i64 t208,.int .i64 t209,.slice Ao45 t210.length co45] 26 (0,0)) (by(with_reducible repeat first|apply Qb|apply Qd|apply Qc);exact BK215.out) hb);have n10_:=Aside0.mk (Kd.Zb (by repeat(first|(with_reducible exact HR219.out)|(with_reducible refine Kd.Zc ?_ _)|(with_reducible refine Kd.Za ?_ _)|(with_reducible refine Kd.Zh ?_)|exact HR219.out)) hb);have n11_:=Aside0.mk (Qr (by repeat(first|(with_reducible first|exact HB.out|apply Qe|apply Qa|apply Qf|refine Qg ?_ GE185.out|refine Qg ?_ GE197.out|refine Qg ?_ GE206.out|refine Qg ?_ GE215.out)|exact HB.out)) hb);clear HO_2;clear HO195;clear HO200;clear HO203;clear HO212;clear BK185;clear BK197;clear BK206;clear BK215;clear HR219;clear HB;have HO_2:=n0_;have HO195:=n1_;have HO200:=n2_;have HO203:=n3_;have HO212:=n4_;have HO222:=n5_;have BK185:=n6_;have BK197:=n7_;have BK206:=n8_;have BK215:=n9_;have HR219:=n10_;have HB:=n11_;clear n0_ n1_ n2_ n3_ n4_ n5_ n6_ n7_ n8_ n9_ n10_ n11_;clear hb ho49;obtain⟨Ao50,co50,eo50⟩:=Kd.Zf HO222.out;subst eo50)|((with_reducible refine Qv (f:=17) rfl ?_);refine Ze (some 46) rfl rfl Tryd.func17 kr rfl #[.slice Ao25 y216.length co25,.slice Ao50 y220.length co50] rfl (by(try simp only[List.map_toArray,List.map_cons,List.map_nil]);first|done|rfl|(simp only[List.length_drop,List.length_take];rfl)) ?_;(with_reducible refine(newelref08_Same.calls kj1 _ _ y216 _ _ y220 true _ ?side1 ?side2 ?side3 ?side4 A13.out).mono ?_);(case side1=>repeat(first|exact(by repeat(first|(with_reducible exact HR219.out)|(with_reducible refine Kd.Zc ?_ _)|(with_reducible refine Kd.Za ?_ _)|(with_reducible refine Kd.Zh ?_)|exact HR219.out))|(with_reducible refine Kd.Zc ?_ _)|(with_reducible refine Kd.Za ?_ _)|(with_reducible refine Kd.Zh ?_)));(case side2=>exact HC219.out);(case side3=>repeat(first|exact(Kd.Q4 HO222.out).2.2|(with_reducible refine Kd.Zc ?_ _)|(with_reducible refine Kd.Za ?_ _)|(with_reducible refine Kd.Zh ?_)));(case side4=>exact(Kd.Q4 HO222.out).2.1);rintro e w' ⟨rfl,⟨nd,rfl⟩⟩;refine⟨_,rfl, ?_⟩;obtain⟨hcz51_0,hcz51_1,hcz51_2,hcz51_3,hfz51_0,hfz51_1,hfz51_2,hfz51_3⟩:=qD4 BK197.out;obtain⟨hcz52_0,hcz52_1,hcz52_2,hcz52_3,hfz52_0,hfz52_1,hfz52_2,hfz52_3⟩:=qD4 BK185.out)|(go_at_call 20;(with_reducible refine(flash_Same.Ji t190 t191 t192 _ _ t193 1 0 3 true _ ?side1 ?side2 A15.out).mono ?_);(case side1=>repeat(first|exact(Kd.Q4 HO195.out).2.2|(with_reducible refine Kd.Zc ?_ _)|(with_reducible refine Kd.Za ?_ _)|(with_reducible refine Kd.Zh ?_)));(case side2=>exact(Kd.Q4 HO195.out).2.1);rintro e w53 ⟨rfl,hb⟩;have n0_:=Aside0.mk (Kd.Q1 (by(with_reducible repeat first|apply Kd.Qi|apply Kd.Qh|apply Kd.Ql);exact HO_2.out) hb);have n1_:=Aside0.mk (Kd.Q1 (by(with_reducible repeat first|apply Kd.Qi|apply Kd.Qh|apply Kd.Ql);exact HO195.out) hb);have n2_:=Aside0.mk (Kd.Q1 (by(with_reducible repeat first|apply Kd.Qi|apply Kd.Qh|apply Kd.Ql);exact HO200.out) hb);have n3_:=Aside0.mk (Kd.Q1 (by(with_reducible repeat first|apply Kd.Qi|apply Kd.Qh|apply Kd.Ql);exact HO203.out) hb);have n4_:=Aside0.mk (Kd.Q1 (by(with_reducible repeat first|apply Kd.Qi|apply Kd.Qh|apply Kd.Ql);exact HO212.out) hb);have n5_:=Aside0.mk (Kd.Q1 (by(with_reducible repeat first|apply Kd.Qi|apply Kd.Qh|apply Kd.Ql);exact HO222.out) hb);have n6_:=Aside0.mk (Qp (g:=gb185) (o:=.cells #[.int .i64 1,.int .i64 0,.int .i64 3,.slice none 0 0] 26 (0,0)) (by(with_reducible repeat first|apply Qb|apply Qd|apply Qc);exact BK185.out) hb);have n7_:=Aside0.mk (Qp (g:=gb197) (o:=.cells #[.int .i64 t190,.int .i64 t191,.int .i64 t192,.slice Ao30 t193.length co30] 26 (0,0)) (by(with_reducible repeat first|apply Qb|apply Qd|apply Qc);exact BK197.out) hb);have n8_:=Aside0.mk (Qp (g:=gb206) (o:=.cells #[.slice Ao34 t198.length co34,.slice Ao38 t201.length co38] 24 (0,0)) (by(with_reducible repeat first|apply Qb|apply Qd|apply Qc);exact BK206.out) hb);have n9_:=Aside0.mk (Qp (g:=gb215) (o:=.cells #[.int .i64 t207,.int .i64 t208,.int .i64 t209,.slice Ao45 t210.length co45] 26 (0,0)) (by(with_reducible repeat first|apply Qb|apply Qd|apply Qc);exact BK215.out) hb);have n10_:=Aside0.mk (Kd.Zb (by repeat(first|(with_reducible exact HR219.out)|(with_reducible refine Kd.Zc ?_ _)|(with_reducible refine Kd.Za ?_ _)|(with_reducible refine Kd.Zh ?_)|exact HR219.out)) hb);have n11_:=Aside0.mk (Qr (by repeat(first|(with_reducible first|exact HB.out|apply Qe|apply Qa|apply Qf|refine Qg ?_ GE185.out|refine Qg ?_ GE197.out|refine Qg ?_ GE206.out|refine Qg ?_ GE215.out)|exact HB.out)) hb);clear HO_2;clear HO195;clear HO200;clear HO203;clear HO212;clear HO222;clear BK185;clear BK197;clear BK206;clear BK215;clear HR219;clear HB;have HO_2:=n0_;have HO195:=n1_;have HO200:=n2_;have HO203:=n3_;have HO212:=n4_;have HO222:=n5_;have BK185:=n6_;have BK197:=n7_;have BK206:=n8_;have BK215:=n9_;have HR219:=n10_;have HB:=n11_;clear n0_ n1_ n2_ n3_ n4_ n5_ n6_ n7_ n8_ n9_ n10_ n11_;(try clear hb);(try clear hb2);(try clear hk);(try clear hi);obtain⟨hcz54_0,hcz54_1,hcz54_2,hcz54_3,hfz54_0,hfz54_1,hfz54_2,hfz54_3⟩:=qD4 BK215.out;obtain⟨hcz55_0,hcz55_1,hcz55_2,hcz55_3,hfz55_0,hfz55_1,hfz55_2,hfz55_3⟩:=qD4 BK185.out)|(go_at_call 20;(with_reducible refine(flash_Same.Ji t207 t208 t209 _ _ t210 1 0 3 true _ ?side1 ?side2 A20.out).mono ?_);(case side1=>repeat(first|exact(Kd.Q4 HO212.out).2.2|(with_reducible refine Kd.Zc ?_ _)|(with_reducible refine Kd.Za ?_ _)|(with_reducible refine Kd.Zh ?_)));(case side2=>exact(Kd.Q4 HO212.out).2.1);rintro e w56 ⟨rfl,hb⟩;have n0_:=Aside0.mk (Kd.Q1 (by(with_reducible repeat first|apply Kd.Qi|apply Kd.Qh|apply Kd.Ql);exact HO_2.out) hb);have n1_:=Aside0.mk (Kd.Q1 (by(with_reducible repeat first|apply Kd.Qi|apply Kd.Qh|apply Kd.Ql);exact HO195.out) hb);have n2_:=Aside0.mk (Kd.Q1 (by(with_reducible repeat first|apply Kd.Qi|apply Kd.Qh|apply Kd.Ql);exact HO200.out) hb);have n3_:=Aside0.mk (Kd.Q1 (by(with_reducible repeat first|apply Kd.Qi|apply Kd.Qh|apply Kd.Ql);exact HO203.out) hb);have n4_:=Aside0.mk (Kd.Q1 (by(with_reducible repeat first|apply Kd.Qi|apply Kd.Qh|apply Kd.Ql);exact HO212.out) hb);have n5_:=Aside0.mk (Kd.Q1 (by(with_reducible repeat first|apply Kd.Qi|apply Kd.Qh|apply Kd.Ql);exact HO222.out) hb);have n6_:=Aside0.mk (Qp (g:=gb185) (o:=.cells #[.int .i64 1,.int .i64 0,.int .i64 3,.slice none 0 0] 26 (0,0)) (by(with_reducible repeat first|apply Qb|apply Qd|apply Qc);exact BK185.out) hb);have n7_:=Aside0.mk (Qp (g:=gb197) (o:=.cells #[.int .i64 t190,.int .i64 t191,.int .i64 t192,.slice Ao30 t193.length co30] 26 (0,0)) (by(with_reducible repeat first|apply Qb|apply Qd|apply Qc);exact BK197.out) hb);have n8_:=Aside0.mk (Qp (g:=gb206) (o:=.cells #[.slice Ao34 t198.length co34,.slice Ao38 t201.length co38] 24 (0,0)) (by(with_reducible repeat first|apply Qb|apply Qd|apply Qc);exact BK206.out) hb);have n9_:=Aside0.mk (Qp (g:=gb215) (o:=.cells #[.int .i64 t207,.int .i64 t208,.int .i64 t209,.slice Ao45 t210.length co45] 26 (0,0)) (by(with_reducible repeat first|apply Qb|apply Qd|apply Qc);exact BK215.out) hb);have n10_:=Aside0.mk (Kd.Zb (by repeat(first|(with_reducible exact HR219.out)|(with_reducible refine Kd.Zc ?_ _)|(with_reducible refine Kd.Za ?_ _)|(with_reducible refine Kd.Zh ?_)|exact HR219.out)) hb);have n11_:=Aside0.mk (Qr (by repeat(first|(with_reducible first|exact HB.out|apply Qe|apply Qa|apply Qf|refine Qg ?_ GE185.out|refine Qg ?_ GE197.out|refine Qg ?_ GE206.out|refine Qg ?_ GE215.out)|exact HB.out)) hb);clear HO_2;clear HO195;clear HO200;clear HO203;clear HO212;clear HO222;clear BK185;clear BK197;clear BK206;clear BK215;clear HR219;clear HB;have HO_2:=n0_;have HO195:=n1_;have HO200:=n2_;have HO203:=n3_;have HO212:=n4_;have HO222:=n5_;have BK185:=n6_;have BK197:=n7_;have BK206:=n8_;have BK215:=n9_;have HR219:=n10_;have HB:=n11_;clear n0_ n1_ n2_ n3_ n4_ n5_ n6_ n7_ n8_ n9_ n10_ n11_;(try clear hb);(try clear hb2);(try clear hk);(try clear hi);obtain⟨hcz57_0,hcz57_1,hcz57_2,hcz57_3,hfz57_0,hfz57_1,hfz57_2,hfz57_3⟩:=qD4 BK197.out)|(go_at_call 20;(with_reducible refine(flash_Same.Ji t190 t191 t192 _ _ t193 0 0 0 t226 _ ?side1 ?side2 A24.out).mono ?_);(case side1=>repeat(first|exact(Kd.Q4 HO195.out).2.2|(with_reducible refine Kd.Zc ?_ _)|(with_reducible refine Kd.Za ?_ _)|(with_reducible refine Kd.Zh ?_)));(case side2=>exact(Kd.Q4 HO195.out).2.1);rintro e w58 ⟨rfl,hb⟩;have n0_:=Aside0.mk (Kd.Q1 (by(with_reducible repeat first|apply Kd.Qi|apply Kd.Qh|apply Kd.Ql);exact HO_2.out) hb);have n1_:=Aside0.mk (Kd.Q1 (by(with_reducible repeat first|apply Kd.Qi|apply Kd.Qh|apply Kd.Ql);exact HO195.out) hb);have n2_:=Aside0.mk (Kd.Q1 (by(with_reducible repeat first|apply Kd.Qi|apply Kd.Qh|apply Kd.Ql);exact HO200.out) hb);have n3_:=Aside0.mk (Kd.Q1 (by(with_reducible repeat first|apply Kd.Qi|apply Kd.Qh|apply Kd.Ql);exact HO203.out) hb);have n4_:=Aside0.mk (Kd.Q1 (by(with_reducible repeat first|apply Kd.Qi|apply Kd.Qh|apply Kd.Ql);exact HO212.out) hb);have n5_:=Aside0.mk (Kd.Q1 (by(with_reducible repeat first|apply Kd.Qi|apply Kd.Qh|apply Kd.Ql);exact HO222.out) hb);have n6_:=Aside0.mk (Qp (g:=gb185) (o:=.cells #[.int .i64 1,.int .i64 0,.int .i64 3,.slice none 0 0] 26 (0,0)) (by(with_reducible repeat first|apply Qb|apply Qd|apply Qc);exact BK185.out) hb);have n7_:=Aside0.mk (Qp (g:=gb197) (o:=.cells #[.int .i64 t190,.int .i64 t191,.int .i64 t192,.slice Ao30 t193.length co30] 26 (0,0)) (by(with_reducible repeat first|apply Qb|apply Qd|apply Qc);exact BK197.out) hb);have n8_:=Aside0.mk (Qp (g:=gb206) (o:=.cells #[.slice Ao34 t198.length co34,.slice Ao38 t201.length co38] 24 (0,0)) (by(with_reducible repeat first|apply Qb|apply Qd|apply Qc);exact BK206.out) hb);have n9_:=Aside0.mk (Qp (g:=gb215) (o:=.cells #[.int .i64 t207,.int .i64 t208,.int .i64 t209,.slice Ao45 t210.length co45] 26 (0,0)) (by(with_reducible repeat first|apply Qb|apply Qd|apply Qc);exact BK215.out) hb);have n10_:=Aside0.mk (Kd.Zb (by repeat(first|(with_reducible exact HR219.out)|(with_reducible refine Kd.Zc ?_ _)|(with_reducible refine Kd.Za ?_ _)|(with_reducible refine Kd.Zh ?_)|exact HR219.out)) hb);have n11_:=Aside0.mk (Qr (by repeat(first|(with_reducible first|exact HB.out|apply Qe|apply Qa|apply Qf|refine Qg ?_ GE185.out|refine Qg ?_ GE197.out|refine Qg ?_ GE206.out|refine Qg ?_ GE215.out)|exact HB.out)) hb);clear HO_2;clear HO195;clear HO200;clear HO203;clear HO212;clear HO222;clear BK185;clear BK197;clear BK206;clear BK215;clear HR219;clear HB;have HO_2:=n0_;have HO195:=n1_;have HO200:=n2_;have HO203:=n3_;have HO212:=n4_;have HO222:=n5_;have BK185:=n6_;have BK197:=n7_;have BK206:=n8_;have BK215:=n9_;have HR219:=n10_;have HB:=n11_;clear n0_ n1_ n2_ n3_ n4_ n5_ n6_ n7_ n8_ n9_ n10_ n11_;(try clear hb);(try clear hb2);(try clear hk);(try clear hi)))
             go_ret
             exact⟨by first|rfl|(simp[Qo,Qn] <;> rfl)|(simp[*,Qo,Qn] <;> rfl),by repeat(first|(with_reducible first|exact HB.out|apply Qe|apply Qa|apply Qf|refine Qg ?_ GE185.out|refine Qg ?_ GE197.out|refine Qg ?_ GE206.out|refine Qg ?_ GE215.out)|exact HB.out)⟩
            ·rw[if_neg c23] at H
             exact absurd H (by simp)
          ·replace c21:=Bool.eq_false_iff.mpr c21
           subst c21
           have H1:(none)=some r:=by rw[if_neg (show ¬ (false=true) by decide)] at H;exact H
           clear H
           have H:=H1
           clear H1
           exact absurd H (by simp)
         ·rw[if_neg c19] at H
          exact absurd H (by simp)
        ·replace c18:=Bool.eq_false_iff.mpr c18
         subst c18
         have H1:(none)=some r:=by rw[if_neg (show ¬ (false=true) by decide)] at H;exact H
         clear H
         have H:=H1
         clear H1
         exact absurd H (by simp)
       ·rw[if_neg c17] at H
        exact absurd H (by simp)
      ·replace c16:=Bool.eq_false_iff.mpr c16
       subst c16
       have H1:(none)=some r:=by rw[if_neg (show ¬ (false=true) by decide)] at H;exact H
       clear H
       have H:=H1
       clear H1
       exact absurd H (by simp)
     ·replace c14:=Bool.eq_false_iff.mpr c14
      subst c14
      have H1:(none)=some r:=by rw[if_neg (show ¬ (false=true) by decide)] at H;exact H
      clear H
      have H:=H1
      clear H1
      exact absurd H (by simp)
    ·rw[if_neg c12] at H
     exact absurd H (by simp)
end Go.Proofs.YtickbejailcehaaDoor.C
namespace Go.Proofs.YtickbejailcehaaDoor.Flash
open Go.RowKit Go.Proofs.YtickbejailcehaaDoorW.PrintWords Go.Proofs.YtickbejailcehaaDoorW.PrintLast Go.Proofs.YtickbejailcehaaDoorW.PrintMore Go.Proofs.YtickbejailcehaaDoor.C
open Go.Proofs.YtickbejailcehaaDoor.Wire (In pt Yk Z9 Zt)
open Go.Proofs.YtickbejailcehaaDoor.Crc (Yg Yh By)
set_option linter.unusedVariables false
def err (p:Int×Int×Int×List Int×Int):Int:=p.2.2.2.2
def Zy (a b:List Int):Int×Int×Int×List Int×Bool×Int:=
  if err (Z6 a)≠0∧err (Z6 b)≠0 then (0,0,0,[],false,123) else
  if err (Z6 a)≠0∨(err (Z6 b)=0∧(Z6 b).1>(Z6 a).1) then ((Z6 b).1,(Z6 b).2.1,(Z6 b).2.2.1,(Z6 b).2.2.2.1,true,0)
  else ((Z6 a).1,(Z6 a).2.1,(Z6 a).2.2.1,(Z6 a).2.2.2.1,false,0)
theorem Jw (a b:List Int) (ha:∀ x ∈ a,By x) (hb:∀ x ∈ b,By x) (la:a.length≤1000000) (lb:b.length≤1000000) (k:Nat) (hk:a.length+b.length+100<k):flash_Recover.f k a b=some (Zy a b):=by
  obtain⟨k,rfl⟩:∃ m,k=m+1:=⟨k-1,by omega⟩
  unfold flash_Recover.f Zy err
  rw[J2 a ha la _ (by omega),J2 b hb lb _ (by omega)]
  simp only[Option.bind_some]
  generalize Z6 a=x
  generalize Z6 b=y
  by_cases h1:x.2.2.2.2=0
  · rw[if_pos h1,if_neg (fun h=>h.1 h1)]
    simp only[flash_Recover.j0]
    rw[if_neg (by decide),if_pos h1]
    by_cases h2:y.2.2.2.2=0
    · rw[if_pos h2]
      by_cases h3:y.1>x.1
      · rw[if_pos h3,if_pos (.inr ⟨h2,h3⟩)]
      · rw[if_neg h3,if_neg (fun h=>h.elim (fun g=>g h1) (fun g=>h3 g.2))]
    · rw[if_neg h2,if_neg (fun h=>h.elim (fun g=>g h1) (fun g=>h2 g.1))]
  · rw[if_neg h1]
    simp only[flash_Recover.j0]
    by_cases h2:y.2.2.2.2=0
    · rw[if_neg (by simp[h2]),if_neg h1,if_neg (fun h=>h.2 h2),if_pos (.inl h1)]
    · rw[if_pos (by simp[h2]),if_pos ⟨h1,h2⟩]
def Yx (cut:Int) (n:Nat):Nat:=if cut≤0 then 0 else if (n:Int)≤cut then n else cut.toNat
theorem N9 (cut:Int) (n:Nat):Yx cut n≤n:=by unfold Yx;split <;> (try split) <;> omega
theorem My (cut:Int) (n:Nat) (h:cut≥(n:Int)):Yx cut n=n:=by unfold Yx;split <;> (try split) <;> omega
theorem Da (cut:Int) (n:Nat):mn (mx cut 0) (n:Int)=(Yx cut n:Int):=by
  unfold mn mx Yx
  split <;> split <;> (try split) <;> (try split) <;> omega
theorem Uh (l:List Int) (h:l.length≤1000000):bytes_Clone.f l=some l:=by
  unfold bytes_Clone.f
  rw[if_pos (by omega)]
def Ko (a b:List Int):Bool:=if (Zy a b).2.2.2.2.2=0 then (Zy a b).2.2.2.2.1 else true
def Yf (a b:List Int) (g c m:Int) (l:List Int) (cut:Int):List Int×List Int×Bool×Int:=
  if Jp g m l.length=true then
    if (Zy a b).2.2.2.2.2=0∧g≤(Zy a b).1 then ([],[],false,124) else
    (Xi (Ko a b) ((Xt g c m l).take (Yx cut (Xt g c m l).length)) a,Xi (Ko a b) b ((Xt g c m l).take (Yx cut (Xt g c m l).length)),decide (cut≥((Xt g c m l).length:Int)),0)
  else ([],[],false,120)
theorem Vu (a b:List Int) (ha:∀ x ∈ a,By x) (hb:∀ x ∈ b,By x) (la:a.length≤1000000) (lb:b.length≤1000000) {g c m:Int} {l:List Int} (hg:In g) (hc:In c) (hm:In m) (hl:∀ x ∈ l,By x) (ll:l.length≤1000000) (cut:Int) (k:Nat) (hk:a.length+b.length+l.length+200<k):
    flash_Write.f k a b g c m l cut=some (Yf a b g c m l cut):=by
  obtain⟨k,rfl⟩:∃ m,k=m+3:=⟨k-3,by omega⟩
  unfold flash_Write.f Yf
  rw[K8 hg hc hm hl ll _ (by omega)]
  simp only[Option.bind_some]
  unfold Wn
  by_cases h1:Jp g m l.length=true
  case neg=>
    rw[if_neg h1,if_neg h1]
    rfl
  rw[if_pos h1,if_pos h1,Jw a b ha hb la lb _ (by omega)]
  simp only[Option.bind_some]
  unfold Ko
  generalize Zy a b=R
  generalize Xt g c m l=q
  have j2:∀ x:Bool,flash_Write.j2 (k+1) cut q x a b=some (Xi x (q.take (Yx cut q.length)) a,Xi x b (q.take (Yx cut q.length)),decide (cut≥(q.length:Int)),0):=by
    intro x
    simp only[flash_Write.j2]
    have:=N9 cut q.length
    rw[Uh a la,Uh b lb,Da]
    simp only[Option.bind_some]
    rw[if_pos (by omega),if_pos (by omega),Int.toNat_natCast]
  have j1:∀ x:Bool,flash_Write.j1 (k+2) cut q false x a b=some (Xi x (q.take (Yx cut q.length)) a,Xi x b (q.take (Yx cut q.length)),decide (cut≥(q.length:Int)),0):=by
    intro x
    simp only[flash_Write.j1]
    cases x
    · rw[if_neg (by decide),j2]
    · rw[if_pos rfl,j2]
  have j0:∀ x:Bool,flash_Write.j0 (k+3) cut q R.2.2.2.2.1 R.2.2.2.2.2 x a b=some (if x=true then ([],[],false,124) else (Xi (if R.2.2.2.2.2=0 then R.2.2.2.2.1 else true) (q.take (Yx cut q.length)) a,Xi (if R.2.2.2.2.2=0 then R.2.2.2.2.1 else true) b (q.take (Yx cut q.length)),decide (cut≥(q.length:Int)),0)):=by
    intro x
    simp only[flash_Write.j0]
    cases x
    · have e:¬ ((false:Bool)=true):=by decide
      rw[if_neg e,if_neg e]
      by_cases h:R.2.2.2.2.2=0
      · rw[if_pos h,if_pos h,j1]
      · rw[if_neg h,if_neg h,j1]
    · rw[if_pos rfl,if_pos rfl]
  rw[if_pos trivial]
  by_cases h2:R.2.2.2.2.2=0
  · rw[if_pos h2,j0]
    by_cases h3:g≤R.1
    · rw[decide_eq_true h3,if_pos rfl,if_pos ⟨h2,h3⟩]
    · have e:¬ ((false:Bool)=true):=by decide
      have e2:¬ (R.2.2.2.2.2=0∧g≤R.1):=fun h=>h3 h.2
      rw[decide_eq_false h3,if_neg e,if_neg e2]
  · have e:¬ ((false:Bool)=true):=by decide
    have e2:¬ (R.2.2.2.2.2=0∧g≤R.1):=fun h=>h2 h.1
    rw[if_neg h2,j0,if_neg e,if_neg e2]
theorem Ur (g c m:Int) (l:List Int):flash_Same.f g c m l g c m l=some true:=by
  unfold flash_Same.f bytes_Equal.f
  rw[if_pos rfl,if_pos rfl,if_pos rfl]
  simp
theorem Ly (g c m:Int) (l:List Int) (g2 c2 m2:Int) (l2:List Int) (h:l.length≤1000000) (k:Nat) (hk:l.length<k):newelref12_Same.f k g c m l g2 c2 m2 l2=some (decide (g=g2∧c=c2∧m=m2∧l=l2)):=by
  unfold newelref12_Same.f
  by_cases h1:g=g2
  · rw[if_pos h1]
    by_cases h2:c=c2
    · rw[if_pos h2]
      by_cases h3:m=m2
      · rw[if_pos h3,Wire.Jf l l2 k hk (by omega)]
        simp[h1,h2,h3]
      · rw[if_neg h3,decide_eq_false (fun h=>h3 h.2.2.1)]
    · rw[if_neg h2,decide_eq_false (fun h=>h2 h.2.1)]
  · rw[if_neg h1,decide_eq_false (fun h=>h1 h.1)]
theorem N3:In 1:=by unfold In;decide
theorem N4:In 0:=by unfold In;decide
theorem N2:In 3:=by unfold In;decide
theorem Ml:Jp 1 3 ([]:List Int).length=true:=by decide
theorem E6:X8 1 0 3 ([]:List Int).length = [6,2,0,6,0]:=by decide +kernel
theorem M1:(Xt 1 0 3 []).take 5 = [6,2,0,6,0]∧(Xt 1 0 3 []).length=7:=by
  have h:=E6
  constructor
  · unfold Xt
    rw[h,List.append_nil]
    unfold Yg
    rw[List.take_left']
    rfl
  · rw[Gq,h]
    rfl
theorem V7:Z6 []=(0,0,0,[],81):=by decide +kernel
theorem Uk (k:Nat) (hk:1000≤k):newellaw12_awake.f k=some true:=by
  obtain⟨k,rfl⟩:∃ m,k=m+1:=⟨k-1,by omega⟩
  have hn:∀ x ∈ ([]:List Int),By x:=fun x hx=>absurd hx (by simp)
  have hc:=Ea N3 N4 N2 hn (show([]:List Int).length≤1000000 by decide)
  have h7:=M1.2
  have h5:=M1.1
  have hr:=W7 N3 N4 N2 hn Ml
  have hl:(Xt 1 0 3 []).length=7:=h7
  have hR:Zy [] []=(0,0,0,[],false,123):=by
    unfold Zy
    rw[V7]
    exact if_pos ⟨by decide,by decide⟩
  have hW:Yf [] [] 1 0 3 [] 99=(Xt 1 0 3 [],[],true,0):=by
    unfold Yf Ko
    rw[if_pos Ml,hR,h7]
    dsimp only
    rw[if_neg (by decide),if_neg (by decide),show Yx 99 7=7 from by decide,List.take_of_length_le (by omega)]
    rfl
  have hR2:Zy (Xt 1 0 3 []) []=(1,0,3,[],false,0):=by
    unfold Zy err
    rw[hr,V7]
    dsimp only
    rw[if_neg (by decide),if_neg (by decide)]
  unfold newellaw12_awake.f
  rw[K8 N3 N4 N2 hn (by decide) _ (by simp;omega)]
  simp only[Option.bind_some]
  unfold Wn
  rw[if_pos Ml]
  dsimp only
  rw[if_pos (by omega)]
  simp only[newellaw12_awake.j0]
  rw[if_neg (by decide),J2 _ hc (by omega) k (by omega),hr,Vu [] [] hn hn (by decide) (by decide) N3 N4 N2 hn (by decide) 99 k (by simp;omega),hW]
  simp only[Option.bind_some]
  rw[Jw _ _ hc hn (by omega) (by decide) k (by simp;omega),hR2]
  simp only[Option.bind_some]
  rw[if_pos (by omega),h5,Wire.Jf _ _ k (by simp;omega) (by decide)]
  simp only[Option.bind_some,decide_true,if_true]
  rw[Ur]
  simp only[Option.bind_some,if_true]
  rw[show flash_Same.f 1 0 3 [] 0 0 0 []=some false from rfl]
  simp
theorem E0 (a b:List Int) (ha:a.length≤1000000) (hb:b.length≤1000000):newellaw12_Own.f a b=some (a,b):=by
  unfold newellaw12_Own.f
  simp only[Option.bind_some,List.nil_append,List.length_nil]
  rw[if_pos (by omega),if_pos (by omega)]
theorem E7 (a b:List Int):newelref12_Few.f a b=some (decide (a.length≤5000∧b.length≤5000)):=by
  unfold newelref12_Few.f
  by_cases h1:(a.length:Int)≤5000
  · rw[if_pos h1]
    congr 1
    rw[decide_eq_decide]
    omega
  · rw[if_neg h1,decide_eq_false (by omega)]
def L4 (x y:Int×Int×Int×List Int×Int):Int×Int×Int×List Int×Bool×Int:=
  if err x≠0∧err y≠0 then (0,0,0,[],false,123) else
  if err x≠0∨(err y=0∧y.1>x.1) then (y.1,y.2.1,y.2.2.1,y.2.2.2.1,true,0)
  else (x.1,x.2.1,x.2.2.1,x.2.2.2.1,false,0)
theorem Jg (a b:List Int):Zy a b=L4 (Z6 a) (Z6 b):=rfl
theorem Kj (x y:Int×Int×Int×List Int×Int):(err x≠0∧err y≠0∧L4 x y=(0,0,0,[],false,123))∨(err y=0∧(err x=0→y.1>x.1)∧L4 x y=(y.1,y.2.1,y.2.2.1,y.2.2.2.1,true,0))∨(err x=0∧(err y=0→y.1≤x.1)∧L4 x y=(x.1,x.2.1,x.2.2.1,x.2.2.2.1,false,0)):=by
  unfold L4
  by_cases h1:err x=0
  · by_cases h2:err y=0
    · by_cases h3:y.1>x.1
      · refine .inr (.inl ⟨h2,fun _=>h3, ?_⟩)
        rw[if_neg (fun h=>h.1 h1),if_pos (.inr ⟨h2,h3⟩)]
      · refine .inr (.inr ⟨h1,fun _=>by omega, ?_⟩)
        rw[if_neg (fun h=>h.1 h1),if_neg (fun h=>h.elim (fun q=>q h1) (fun q=>h3 q.2))]
    · refine .inr (.inr ⟨h1,fun q=>absurd q h2, ?_⟩)
      rw[if_neg (fun h=>h.1 h1),if_neg (fun h=>h.elim (fun q=>q h1) (fun q=>h2 q.1))]
  · by_cases h2:err y=0
    · refine .inr (.inl ⟨h2,fun q=>absurd q h1, ?_⟩)
      rw[if_neg (fun h=>h.2 h2),if_pos (.inl h1)]
    · refine .inl ⟨h1,h2, ?_⟩
      rw[if_pos ⟨h1,h2⟩]
theorem Wr (a b:List Int) {g c m:Int} {l:List Int} (cut:Int) (n:Nat) (ha:a.length≤n) (hb:b.length≤n) (hl:l.length+100≤n):(Yf a b g c m l cut).1.length≤n∧(Yf a b g c m l cut).2.1.length≤n:=by
  have hd:=Gm g c m l.length
  have hk:=Gq g c m l
  unfold Yf
  split
  · split
    · exact⟨Nat.zero_le _,Nat.zero_le _⟩
    · cases Ko a b <;> simp only[Xi,List.length_take,if_true,Bool.false_eq_true,if_false] <;> constructor <;> omega
  · exact⟨Nat.zero_le _,Nat.zero_le _⟩
theorem M2 {g c m:Int} {l:List Int} (hg:In g) (hc:In c) (hm:In m) (hb:∀ x ∈ l,By x) (hl:l.length≤1000000) (k:Nat) (hk:10 * l.length+1000<k):newelref12_Code.f k g c m l=some (Xt g c m l):=by
  unfold newelref12_Code.f
  rw[Wire.W5 _ (in3 hg hc hm) (by simp) k (by simp;omega),Wire.Kh _ (Vg (by omega)) k (by omega)]
  simp only[Option.bind_some]
  have h1:=Wire.Gk [g,c,m]
  have h2:=Wire.Y8 (l.length:Int)
  simp only[List.length_cons,List.length_nil] at h1
  rw[if_pos (by omega),if_pos (by simp only[List.length_append];omega)]
  have hd:=Gm g c m l.length
  rw[show Yk [g,c,m]++pt (l.length:Int)=X8 g c m l.length from rfl,Crc.Lx _ (Ga hg hc hm hb hl) (by simp only[List.length_append];omega) k (by simp only[List.length_append];omega)]
  rfl
theorem V9 (l:List Int) (hb:∀ x ∈ l,By x) (hl:l.length≤1000000) (k:Nat) (hk:10 * l.length+1000<k):newelref12_Read.f k l=some (Z6 l):=by
  obtain⟨k,rfl⟩:∃ m,k=m+1:=⟨k-1,by omega⟩
  unfold newelref12_Read.f Z6
  rw[Wire.G9 l hb (by omega) 0 3 (by decide) (k+1) (by omega)]
  simp only[Option.bind_some]
  generalize Zt l 0 3=p
  obtain⟨q,at_,e⟩:=p
  dsimp only
  by_cases h0:e=0
  case neg=>rw[if_neg h0,if_neg h0]
  rw[if_pos h0,if_pos h0]
  by_cases h1:q.length=3
  case neg=>rw[if_neg (by omega),if_neg (fun x=>h1 x.1)]
  rw[if_pos (by omega),if_pos (by omega),if_pos (by omega),if_pos (by omega),Wj]
  simp only[Option.bind_some,List.length_nil]
  cases h2:Jp (rd q 0) (rd q 2) 0
  case false=>rw[if_neg (by decide),if_neg (fun x=>Bool.noConfusion x.2)]
  rw[if_pos rfl,if_pos ⟨h1,rfl⟩,Wire.Ki l hb (by omega) at_ (k+1) (by omega)]
  simp only[Option.bind_some]
  have hg:=Wire.G5 l hb at_
  generalize Z9 l at_=p at *
  obtain⟨n,at2,e2⟩:=p
  dsimp only at hg ⊢
  by_cases h3:e2=0
  case neg=>rw[if_neg h3,if_neg h3]
  obtain⟨g1,g2,g3,g4,_⟩:=hg h3
  have w1:wrap64 ((l.length:Int)-at2)=(l.length:Int)-at2:=by unfold wrap64;omega
  have w2:∀ (b:Bool) (z0 z1 z2 z3:Int),b=decide (n<0∨4096<n)→newelref12_Read.j0 (k+1) l b (rd q 0) (rd q 1) (rd q 2) n at2 z0=some (if n<0∨4096<n then (0,0,0,[],120) else
          if (l.length:Int)-at2-2<n then (0,0,0,[],121) else
          if (l.length:Int)-at2-2>n then (0,0,0,[],122) else
          if (Yh l).2=0 then (rd q 0,rd q 1,rd q 2,(l.drop at2.toNat).take n.toNat,0) else (0,0,0,[],(Yh l).2)):=by
    intro b z0 _ _ _ hbb
    simp only[newelref12_Read.j0]
    by_cases c:n<0∨4096<n
    · rw[hbb,decide_eq_true c,if_pos rfl,if_pos c]
    have wn:wrap64 (n+2)=n+2:=by unfold wrap64;omega
    rw[hbb,decide_eq_false c,if_neg (by decide),if_neg c,w1,wn]
    by_cases c1:(l.length:Int)-at2-2<n
    · rw[if_pos (by omega),if_pos c1]
    rw[if_neg (by omega),if_neg c1]
    by_cases c2:(l.length:Int)-at2-2>n
    · rw[if_pos (by omega),if_pos c2]
    rw[if_neg (by omega),if_neg c2,Crc.Me l hb (by omega) k (by omega)]
    simp only[Option.bind_some]
    have wa:wrap64 (at2+n)=at2+n:=by unfold wrap64;omega
    by_cases c3:(Yh l).2=0
    · rw[if_pos c3,if_pos c3,wa,if_pos (by omega),if_pos (by omega),if_pos (by omega),List.drop_take,show(at2+n).toNat-at2.toNat=n.toNat from by omega]
    · rw[if_neg c3,if_neg c3]
  rw[if_pos h3,if_pos h3]
  by_cases c:n<0
  · rw[if_pos c]
    exact w2 true _ 0 0 0 (decide_eq_true (.inl c)).symm
  · rw[if_neg c]
    refine w2 _ _ 0 0 0 ?_
    rw[decide_eq_decide]
    omega
theorem Kv (a b:List Int) (ha:∀ x ∈ a,By x) (hb:∀ x ∈ b,By x) (la:a.length≤1000000) (lb:b.length≤1000000) (k:Nat) (hk:10 * (a.length+b.length)+1000<k):
    newelref12_Recover.f k a b=some ((Zy a b).1,(Zy a b).2.1,(Zy a b).2.2.1,(Zy a b).2.2.2.1,(Zy a b).2.2.2.2.1,decide ((Zy a b).2.2.2.2.2=0)):=by
  obtain⟨k,rfl⟩:∃ m,k=m+1:=⟨k-1,by omega⟩
  unfold newelref12_Recover.f
  rw[V9 a ha la _ (by omega),V9 b hb lb _ (by omega),Jg]
  simp only[Option.bind_some]
  generalize Z6 a=x
  generalize Z6 b=y
  have hj:∀ t:Bool,newelref12_Recover.j0 (k+1) t x.1 x.2.1 x.2.2.1 x.2.2.2.1 x.2.2.2.2 y.1 y.2.1 y.2.2.1 y.2.2.2.1 y.2.2.2.2=if t=true then (some (x.1,x.2.1,x.2.2.1,x.2.2.2.1,false,true)) else (if y.2.2.2.2=0 then (some (y.1,y.2.1,y.2.2.1,y.2.2.2.1,true,true)) else (some (0,0,0,([]:List Int),false,false))):=fun t=>rfl
  simp only[hj]
  rcases Kj x y with⟨h1,h2,e⟩|⟨h1,h2,e⟩|⟨h1,h2,e⟩
  · unfold err at h1 h2
    rw[e,if_neg h1,if_neg (by decide),if_neg h2]
    rfl
  · unfold err at h1 h2
    rw[e]
    by_cases hx:x.2.2.2.2=0
    · have:=h2 hx
      rw[if_pos hx,if_pos h1,decide_eq_false (by omega),if_neg (by decide),if_pos h1]
      rfl
    · rw[if_neg hx,if_neg (by decide),if_pos h1]
      rfl
  · unfold err at h1 h2
    rw[e,if_pos h1]
    by_cases hy:y.2.2.2.2=0
    · rw[if_pos hy,decide_eq_true (h2 hy),if_pos rfl]
      rfl
    · rw[if_neg hy,if_pos trivial]
      rfl
theorem Ws (a b:List Int) (ha:∀ x ∈ a,By x) (hb:∀ x ∈ b,By x) (la:a.length≤1000000) (lb:b.length≤1000000) {g c m:Int} {l:List Int} (hg:In g) (hc:In c) (hm:In m) (hl:∀ x ∈ l,By x) (ll:l.length≤1000000) (cut:Int) (k:Nat) (hk:10 * (a.length+b.length+l.length)+2000<k):
    newelref12_Write.f k a b g c m l cut=some (Yf a b g c m l cut):=by
  obtain⟨k,rfl⟩:∃ m,k=m+2:=⟨k-2,by omega⟩
  unfold newelref12_Write.f Yf
  rw[Wj]
  simp only[Option.bind_some]
  by_cases h1:Jp g m l.length=true
  case neg=>rw[if_neg h1,if_neg h1]
  rw[if_pos h1,if_pos h1,Kv a b ha hb la lb _ (by omega)]
  simp only[Option.bind_some]
  unfold Ko
  generalize Zy a b=R
  have hcode:=M2 hg hc hm hl ll (k+1) (by omega)
  generalize Xt g c m l=q at *
  have j1:∀ n:Int,n=(if cut<0 then 0 else cut)→newelref12_Write.j1 (k+1) cut q n a b R.1 R.2.1 R.2.2.1 R.2.2.2.1 R.2.2.2.2.1 (decide (R.2.2.2.2.2=0))=some (Xi (if R.2.2.2.2.2=0 then R.2.2.2.2.1 else true) (q.take (Yx cut q.length)) a,Xi (if R.2.2.2.2.2=0 then R.2.2.2.2.1 else true) b (q.take (Yx cut q.length)),decide (cut≥(q.length:Int)),0):=by
    intro n hn
    simp only[newelref12_Write.j1]
    have h0:0≤n:=by split at hn <;> omega
    have fin:∀ m:Nat,(if R.2.2.2.2.2=0 then (if R.2.2.2.2.1=true then some (q.take m,b,decide (cut≥(q.length:Int)),0) else some (a,q.take m,decide (cut≥(q.length:Int)),0)) else some (q.take m,b,decide (cut≥(q.length:Int)),(0:Int)))=some (Xi (if R.2.2.2.2.2=0 then R.2.2.2.2.1 else true) (q.take m) a,Xi (if R.2.2.2.2.2=0 then R.2.2.2.2.1 else true) b (q.take m),decide (cut≥(q.length:Int)),0):=by
      intro m
      by_cases c2:R.2.2.2.2.2=0
      · rw[if_pos c2,if_pos c2]
        cases R.2.2.2.2.1 <;> rfl
      · rw[if_neg c2,if_neg c2]
        rfl
    rw[← fin]
    by_cases c1:n>(q.length:Int)
    · have e:Yx cut q.length=q.length:=My _ _ (by split at hn <;> omega)
      have z1:(0:Int)≤(q.length:Int):=by omega
      have z2:(q.length:Int)≤(q.length:Int):=Int.le_refl _
      rw[if_pos c1,e]
      simp only[if_pos z1,if_pos z2,Int.toNat_natCast,decide_eq_true_eq]
    · have e:Yx cut q.length=n.toNat:=by
        unfold Yx
        split at hn <;> split <;> (try split) <;> omega
      have z2:n≤(q.length:Int):=by omega
      rw[if_neg c1,e]
      simp only[if_pos h0,if_pos z2,decide_eq_true_eq]
  have j0:∀ x:Bool,newelref12_Write.j0 (k+2) cut x a b g c m l R.1 R.2.1 R.2.2.1 R.2.2.2.1 R.2.2.2.2.1 (decide (R.2.2.2.2.2=0))=some (if x=true then ([],[],false,124) else (Xi (if R.2.2.2.2.2=0 then R.2.2.2.2.1 else true) (q.take (Yx cut q.length)) a,Xi (if R.2.2.2.2.2=0 then R.2.2.2.2.1 else true) b (q.take (Yx cut q.length)),decide (cut≥(q.length:Int)),0)):=by
    intro x
    simp only[newelref12_Write.j0]
    cases x
    · have e:¬ ((false:Bool)=true):=by decide
      rw[if_neg e,if_neg e,hcode]
      simp only[Option.bind_some]
      by_cases h:cut<0
      · rw[if_pos h,j1 _ (by rw[if_pos h])]
      · rw[if_neg h,j1 _ (by rw[if_neg h])]
    · rw[if_pos rfl,if_pos rfl]
  by_cases h2:R.2.2.2.2.2=0
  · rw[if_pos (decide_eq_true h2),j0]
    by_cases h3:g≤R.1
    · rw[decide_eq_true h3,if_pos rfl,if_pos ⟨h2,h3⟩]
    · have e:¬ ((false:Bool)=true):=by decide
      have e2:¬ (R.2.2.2.2.2=0∧g≤R.1):=fun h=>h3 h.2
      rw[decide_eq_false h3,if_neg e,if_neg e2]
  · have e:¬ ((false:Bool)=true):=by decide
    have e2:¬ (R.2.2.2.2.2=0∧g≤R.1):=fun h=>h2 h.1
    rw[if_neg (by rw[decide_eq_false h2];decide),j0,if_neg e,if_neg e2]
end Go.Proofs.YtickbejailcehaaDoor.Flash
