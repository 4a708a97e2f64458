/- Texts of this claim, one behind the other: what the law's functions come to, walked (printed by a program, with the words that the print uses), and what that is, in plain Lean. No conditions of their own. -/
import Derived.Test.YtickbejailcehaaDoorQFlashWrites2
namespace Go.Proofs.YtickbejailcehaaDoor.C
open Go.RowKit Go.Proofs.YtickbejailcehaaDoorW.PrintWords Go.Proofs.YtickbejailcehaaDoorW.PrintLast Go.Proofs.YtickbejailcehaaDoorW.PrintMore
attribute [local go_sem] Xm Xk X0 Xz Xc Xb Xl Xj
set_option linter.unusedVariables false
set_option linter.unusedSimpArgs false
mutual
def newelref08_GetRow.j0:Nat→List Int→Bool→Int→Int→Int→Option (List Int×Int×Int)
 |0,_,_,_,_,_=>none
 |k+1,x0,x28,x254000,x254001,x254002=>if x28=true then (some (([]:List Int),0,83)) else (newelref08_GetRow.l0 k x0 x254001 ([]:List Int) 0 x254000 x254001 x254002)
def newelref08_GetRow.l0:Nat→List Int→Int→List Int→Int→Int→Int→Int→Option (List Int×Int×Int)
 |0,_,_,_,_,_,_,_=>none
 |k+1,x0,x1,x8,x9,x254000,x254001,x254002=>if x9<x254000 then ((newelref08_Get.f k x0 x1).bind fun bt254=>(if bt254.2.2=0 then (if x8.length<17592186044416 then (newelref08_GetRow.l0 k x0 bt254.2.1 (x8 ++ [bt254.1]) (wrap64 (x9+1)) x254000 x254001 x254002) else (none)) else (some (([]:List Int),0,bt254.2.2)))) else (some (x8,x1,0))
end
def newelref08_GetRow.f (k:Nat) (l0:List Int) (a1:Int) (a2:Int):Option (List Int×Int×Int):=(newelref08_Get.f k l0 a1).bind fun bt250=>(if bt250.2.2=0 then (if bt250.1<0 then (newelref08_GetRow.j0 k l0 true bt250.1 bt250.2.1 bt250.2.2) else (newelref08_GetRow.j0 k l0 (decide (bt250.1>a2)) bt250.1 bt250.2.1 bt250.2.2)) else (some (([]:List Int),0,bt250.2.2)))
theorem newelref08_GetRow.Zl:∀ k,(∀ y0 y1 y2 y3 y4,LeO (newelref08_GetRow.j0 k y0 y1 y2 y3 y4) (newelref08_GetRow.j0 (k+1) y0 y1 y2 y3 y4))∧(∀ y0 y1 y2 y3 y4 y5 y6,LeO (newelref08_GetRow.l0 k y0 y1 y2 y3 y4 y5 y6) (newelref08_GetRow.l0 (k+1) y0 y1 y2 y3 y4 y5 y6))
 |0=>⟨fun _ _ _ _ _ r h=>by simp[newelref08_GetRow.j0] at h,fun _ _ _ _ _ _ _ r h=>by simp[newelref08_GetRow.l0] at h⟩
 |k+1=>by
  obtain⟨ih0,ih1⟩:=newelref08_GetRow.Zl k
  refine⟨?_, ?_⟩
  ·intro y0 y1 y2 y3 y4
   unfold newelref08_GetRow.j0
   repeat' first
   |(with_reducible exact ih0 _ _ _ _ _)
   |(with_reducible exact ih1 _ _ _ _ _ _ _)
   |(with_reducible exact newelref08_Get.mono _ _ _)
   |(with_reducible exact LeO.refl _)
   |(with_reducible exact LeO.none _)
   |(with_reducible refine LeO.ite ?_ ?_)
   |(with_reducible refine LeO.bind ?_ (fun _=>?_))
   |exact ih0 _ _ _ _ _
   |exact ih1 _ _ _ _ _ _ _
   |exact newelref08_Get.mono _ _ _
   |exact LeO.none _
   |refine LeO.ite ?_ ?_
   |refine LeO.bind ?_ (fun _=>?_)
  ·intro y0 y1 y2 y3 y4 y5 y6
   unfold newelref08_GetRow.l0
   repeat' first
   |(with_reducible exact ih0 _ _ _ _ _)
   |(with_reducible exact ih1 _ _ _ _ _ _ _)
   |(with_reducible exact newelref08_Get.mono _ _ _)
   |(with_reducible exact LeO.refl _)
   |(with_reducible exact LeO.none _)
   |(with_reducible refine LeO.ite ?_ ?_)
   |(with_reducible refine LeO.bind ?_ (fun _=>?_))
   |exact ih0 _ _ _ _ _
   |exact ih1 _ _ _ _ _ _ _
   |exact newelref08_Get.mono _ _ _
   |exact LeO.none _
   |refine LeO.ite ?_ ?_
   |refine LeO.bind ?_ (fun _=>?_)
theorem newelref08_GetRow.mono:∀ a0 a1 a2 k,LeO (newelref08_GetRow.f k a0 a1 a2) (newelref08_GetRow.f (k+1) a0 a1 a2):=by
 intro a0 a1 a2 k
 obtain⟨ih0,ih1⟩:=newelref08_GetRow.Zl k
 unfold newelref08_GetRow.f
 repeat' first
   |(with_reducible exact ih0 _ _ _ _ _)
   |(with_reducible exact ih1 _ _ _ _ _ _ _)
   |(with_reducible exact newelref08_Get.mono _ _ _)
   |(with_reducible exact LeO.refl _)
   |(with_reducible exact LeO.none _)
   |(with_reducible refine LeO.ite ?_ ?_)
   |(with_reducible refine LeO.bind ?_ (fun _=>?_))
   |exact ih0 _ _ _ _ _
   |exact ih1 _ _ _ _ _ _ _
   |exact newelref08_Get.mono _ _ _
   |exact LeO.none _
   |refine LeO.ite ?_ ?_
   |refine LeO.bind ?_ (fun _=>?_)
set_option maxHeartbeats 8000000 in
set_option maxRecDepth 100000 in
theorem newelref08_GetRow.calls (k:Nat) (A0:Option Addr) (c0:Nat) (l0:List Int) (a1:Int) (a2:Int) (r1:List Int) (r2:Int) (r3:Int) (w:World) (hr0:Kd.C (Kd.int .u8) w A0 l0.length l0) (hc0:l0.length≤c0) (h:newelref08_GetRow.f k l0 a1 a2=some (r1,r2,r3)):
  Calls Tryd.prog 38 #[.slice A0 l0.length c0,.int .i64 a1,.int .i64 a2] w fun e w'=>∃ v0_:Value,e = .returned (.agg #[v0_,.int .i64 r2,.int .i64 r3])∧Kd.R (Kd.int .i64) 3 w' w.heap.size (fun _=>True) v0_ r1∧Below w.heap.size w w':=by
 have hu72:=Tryd.underlying72
 have hu75:=Tryd.underlying75
 have HR0:=Aside0.mk hr0
 have HC0:=Aside0.mk hc0
 clear hr0 hc0
 have HB:=Aside0.mk (Below.refl w.heap.size w)
 have H:((newelref08_Get.f k l0 a1).bind fun bt250=>(if bt250.2.2=0 then (if bt250.1<0 then (newelref08_GetRow.j0 k l0 true bt250.1 bt250.2.1 bt250.2.2) else (newelref08_GetRow.j0 k l0 (decide (bt250.1>a2)) bt250.1 bt250.2.1 bt250.2.2)) else (some (([]:List Int),0,bt250.2.2))))=some (r1,r2,r3):=h
 clear h
 replace H:=Option.bind_eq_some_iff.mp H
 obtain⟨⟨t250,t251,t252⟩,A40,H⟩:=H
 replace H:(if t252=0 then (if t250<0 then (newelref08_GetRow.j0 k l0 true t250 t251 t252) else (newelref08_GetRow.j0 k l0 (decide (t250>a2)) t250 t251 t252)) else (some (([]:List Int),0,t252)))=some (r1,r2,r3):=H
 have A4:=Aside0.mk A40
 clear A40
 by_cases c5:t252=0
 ·rw[if_pos c5] at H
  have c5b0:(t252==0)=true:=beq_iff_eq.mpr c5
  have c5b1:(t252 != 0)=false:=bne_eq_false_iff_eq.mpr c5
  clear c5
  have HC6:=Aside0.mk H
  clear H
  go_enter Tryd.func38,Tryd.ntmps38
  go_upto_region 4 with(first|((with_reducible refine Qz (N:=6) rfl ?_);refine Q7 ?hg (N:=6) ?hd (cs:=#[.slice none 0 0,.int .i64 0,.int .i64 0]) (t:=72) ?hr ?_;(case hd=>rfl);(case hg=>rfl);(case hr=>first|(go_simp;done)|(go_simp;rfl));intro gb249 hg w7 hbox hb;have n0_:=Aside0.mk (Qr (by repeat(first|(with_reducible first|exact HB.out|apply Qe|apply Qa|apply Qf)|exact HB.out)) hb);have n1_:=Aside0.mk (hbox);have n2_:=Aside0.mk ((by rw[hg];exact(Qj (by repeat(first|(with_reducible first|exact HB.out|apply Qe|apply Qa|apply Qf)|exact HB.out))):w.heap.size≤gb249));have n3_:=Aside0.mk ((by rw[hg];exact(Qj (by repeat(first|(with_reducible first|exact HB.out|apply Qe|apply Qa|apply Qf)|exact HB.out))):w.heap.size≤gb249));clear HB;have HB:=n0_;have BK249:=n1_;have GW249:=n2_;have GE249:=n3_;clear n0_ n1_ n2_ n3_;clear hb hbox hg)|((with_reducible refine Qv (f:=39) rfl ?_);refine Ze (some 13) rfl rfl Tryd.func39 kr rfl #[.slice A0 l0.length c0,.int .i64 a1] rfl (by(try simp only[List.map_toArray,List.map_cons,List.map_nil]);first|done|rfl|(simp only[List.length_drop,List.length_take];rfl)) ?_;(with_reducible refine(newelref08_Get.calls k _ _ l0 a1 t250 t251 t252 _ ?side1 ?side2 A4.out).mono ?_);(case side1=>repeat(first|exact(Kd.Zb HR0.out HB.out)|(with_reducible refine Kd.Zc ?_ _)|(with_reducible refine Kd.Za ?_ _)|(with_reducible refine Kd.Zh ?_)));(case side2=>exact HC0.out);rintro e w8 ⟨rfl,hb⟩;refine⟨_,rfl, ?_⟩;have n0_:=Aside0.mk (Qp (g:=gb249) (o:=.cells #[.slice none 0 0,.int .i64 0,.int .i64 0] 72 (0,0)) (by(with_reducible repeat first|apply Qb|apply Qd|apply Qc);exact BK249.out) hb);have n1_:=Aside0.mk (Qr (by repeat(first|(with_reducible first|exact HB.out|apply Qe|apply Qa|apply Qf|refine Qg ?_ GE249.out)|exact HB.out)) hb);clear BK249;clear HB;have BK249:=n0_;have HB:=n1_;clear n0_ n1_;(try clear hb);(try clear hb2);(try clear hk);(try clear hi))|((with_reducible refine Qz (N:=7) rfl ?_);refine Q7 ?hg (N:=7) ?hd (cs:=#[.int .i64 0,.int .i64 0,.int .i64 0]) (t:=75) ?hr ?_;(case hd=>rfl);(case hg=>rfl);(case hr=>first|(go_simp;done)|(go_simp;rfl));intro gb253 hg w9 hbox hb;have n0_:=Aside0.mk (Qp (g:=gb249) (o:=.cells #[.slice none 0 0,.int .i64 0,.int .i64 0] 72 (0,0)) (by(with_reducible repeat first|apply Qb|apply Qd|apply Qc);exact BK249.out) hb);have n1_:=Aside0.mk (Qr (by repeat(first|(with_reducible first|exact HB.out|apply Qe|apply Qa|apply Qf|refine Qg ?_ GE249.out)|exact HB.out)) hb);have n2_:=Aside0.mk (hbox);have n3_:=Aside0.mk ((by rw[hg];exact(Qj (by repeat(first|(with_reducible first|exact HB.out|apply Qe|apply Qa|apply Qf|refine Qg ?_ GE249.out)|exact HB.out))):w.heap.size≤gb253));have n4_:=Aside0.mk ((by rw[hg];exact(Qj (by repeat(first|(with_reducible first|exact HB.out|apply Qe|apply Qa|apply Qf|refine Qg ?_ GE249.out)|exact HB.out))):w.heap.size≤gb253));have n5_:=Aside0.mk ((by rw[hg];exact Nat.ne_of_lt (Q8 (g:=gb249) (o:=.cells #[.slice none 0 0,.int .i64 0,.int .i64 0] 72 (0,0)) (by(with_reducible repeat first|apply Qb|apply Qd|apply Qc);exact BK249.out)):gb249≠gb253));have n6_:=Aside0.mk ((by rw[hg];exact Nat.ne_of_gt (Q8 (g:=gb249) (o:=.cells #[.slice none 0 0,.int .i64 0,.int .i64 0] 72 (0,0)) (by(with_reducible repeat first|apply Qb|apply Qd|apply Qc);exact BK249.out)):gb253≠gb249));clear BK249;clear HB;have BK249:=n0_;have HB:=n1_;have BK253:=n2_;have GW253:=n3_;have GE253:=n4_;have NB249_253:=n5_;have NB253_249:=n6_;clear n0_ n1_ n2_ n3_ n4_ n5_ n6_;clear hb hbox hg;have hnb10:=NB253_249.out;have hnc10:=NB249_253.out;obtain⟨hcz11_0,hcz11_1,hcz11_2,hfz11_0,hfz11_1,hfz11_2⟩:=qD3 BK253.out))
  (try simp only[Act.put,qS])
  go_cut [28] (fun v28 wc=>∃ (kq:Nat) (x28_5:Bool),v28 = .bool x28_5∧Aside0 (newelref08_GetRow.j0 kq l0 x28_5 t250 t251 t252=some (r1,r2,r3))∧Aside0 (kq≤k)∧Aside0 (wc.heap[gb249]?=some (.cells #[(.slice none 0 0),.int .i64 0,.int .i64 0] 72 (0,0)))∧Aside0 (wc.heap[gb253]?=some (.cells #[.int .i64 t250,.int .i64 t251,.int .i64 t252] 75 (0,0)))∧Aside0 (Below w.heap.size w wc))
  case first=>
   have H:=HC6.out
   clear HC6
   by_cases c12:t250<0
   ·rw[if_pos c12] at H
    have c12b0:decide (t250<0)=true:=decide_eq_true c12
    clear c12
    (first|rw[c12b0]|(simp only[Zu,Z4];rw[c12b0])|skip)
    have H':=Aside0.mk H
    clear H
    have hnb13:=NB253_249.out
    have hnc13:=NB249_253.out
    obtain⟨hcz14_0,hcz14_1,hcz14_2,hfz14_0,hfz14_1,hfz14_2⟩:=qD3 BK253.out
    go_wp2
    go_meet
    case rel=>exact⟨_,(true),qR,H',⟨by first|omega|exact Nat.le_refl _⟩,⟨by(with_reducible repeat first|apply Qb|apply Qd|apply Qc);refine Qs ?_ NB249_253.out _;(with_reducible repeat first|apply Qb|apply Qd|apply Qc);refine Qs ?_ NB249_253.out _;(with_reducible repeat first|apply Qb|apply Qd|apply Qc);refine Qs ?_ NB249_253.out _;(with_reducible repeat first|apply Qb|apply Qd|apply Qc);exact BK249.out⟩,⟨by(with_reducible repeat first|apply Qb|apply Qd|apply Qc);refine Qk (cs:=#[.int .i64 t250,.int .i64 t251,.int .i64 0]) ?_ 2 _ rfl;(with_reducible repeat first|apply Qb|apply Qd|apply Qc);refine Qk (cs:=#[.int .i64 t250,.int .i64 0,.int .i64 0]) ?_ 1 _ rfl;(with_reducible repeat first|apply Qb|apply Qd|apply Qc);refine Qk (cs:=#[.int .i64 0,.int .i64 0,.int .i64 0]) ?_ 0 _ rfl;(with_reducible repeat first|apply Qb|apply Qd|apply Qc);exact BK253.out⟩,⟨by repeat(first|(with_reducible first|exact HB.out|apply Qe|apply Qa|apply Qf|refine Qg ?_ GE249.out|refine Qg ?_ GE253.out)|exact HB.out)⟩⟩
   ·rw[if_neg c12] at H
    have c12b0:decide (t250<0)=false:=decide_eq_false c12
    clear c12
    (first|rw[c12b0]|(simp only[Zu,Z4];rw[c12b0])|skip)
    have H':=Aside0.mk H
    clear H
    have hnb15:=NB253_249.out
    have hnc15:=NB249_253.out
    obtain⟨hcz16_0,hcz16_1,hcz16_2,hfz16_0,hfz16_1,hfz16_2⟩:=qD3 BK253.out
    go_wp2
    go_meet
    case rel=>exact⟨_,(decide (t250>a2)),qR,H',⟨by first|omega|exact Nat.le_refl _⟩,⟨by(with_reducible repeat first|apply Qb|apply Qd|apply Qc);refine Qs ?_ NB249_253.out _;(with_reducible repeat first|apply Qb|apply Qd|apply Qc);refine Qs ?_ NB249_253.out _;(with_reducible repeat first|apply Qb|apply Qd|apply Qc);refine Qs ?_ NB249_253.out _;(with_reducible repeat first|apply Qb|apply Qd|apply Qc);exact BK249.out⟩,⟨by(with_reducible repeat first|apply Qb|apply Qd|apply Qc);refine Qk (cs:=#[.int .i64 t250,.int .i64 t251,.int .i64 0]) ?_ 2 _ rfl;(with_reducible repeat first|apply Qb|apply Qd|apply Qc);refine Qk (cs:=#[.int .i64 t250,.int .i64 0,.int .i64 0]) ?_ 1 _ rfl;(with_reducible repeat first|apply Qb|apply Qd|apply Qc);refine Qk (cs:=#[.int .i64 0,.int .i64 0,.int .i64 0]) ?_ 0 _ rfl;(with_reducible repeat first|apply Qb|apply Qd|apply Qc);exact BK253.out⟩,⟨by repeat(first|(with_reducible first|exact HB.out|apply Qe|apply Qa|apply Qf|refine Qg ?_ GE249.out|refine Qg ?_ GE253.out)|exact HB.out)⟩⟩
  case rest=>
   clear HC6
   try clear c1
   try clear p2
   try clear c3
   try clear c5
   try clear c5b0
   try clear c5b1
   try clear c10
   try clear c12
   try clear c12b0
   try clear c13
   try clear c15
   try clear hcz11_0
   try clear hcz11_1
   try clear hcz11_2
   try clear hcz14_0
   try clear hcz14_1
   try clear hcz14_2
   try clear hcz16_0
   try clear hcz16_1
   try clear hcz16_2
   try clear hfz11_0
   try clear hfz11_1
   try clear hfz11_2
   try clear hfz14_0
   try clear hfz14_1
   try clear hfz14_2
   try clear hfz16_0
   try clear hfz16_1
   try clear hfz16_2
   obtain⟨kq,x28_5,rfl,HA,HJ5,BK249,BK253,HB⟩:=hcut
   cases kq with
   |zero=>exact absurd HA.out (by simp[newelref08_GetRow.j0])
   |succ kj5=>
    have H:=HA.out
    clear HA
    simp only[newelref08_GetRow.j0] at H
    by_cases c17:x28_5=true
    ·subst c17
     have H1:(some (([]:List Int),0,83))=some (r1,r2,r3):=by rw[if_pos rfl] at H;exact H
     clear H
     have H:=H1
     clear H1
     simp only[Option.some.injEq,Prod.mk.injEq] at H
     obtain⟨rfl,rfl,rfl⟩:=H
     have hnb18:=NB249_253.out
     have hnc18:=NB253_249.out
     obtain⟨hcz19_0,hcz19_1,hcz19_2,hfz19_0,hfz19_1,hfz19_2⟩:=qD3 BK249.out
     go_wp2
     refine bodyPost_ret (results_cell_row rfl _ _ gb249 72 #[.slice none 0 0,.int .i64 0,.int .i64 83] (0,0) _ rfl (by(with_reducible repeat first|apply Qb|apply Qd|apply Qc);refine Qk (cs:=#[.slice none 0 0,.int .i64 0,.int .i64 0]) ?_ 2 _ rfl;(with_reducible repeat first|apply Qb|apply Qd|apply Qc);refine Qk (cs:=#[.slice none 0 0,.int .i64 0,.int .i64 0]) ?_ 1 _ rfl;(with_reducible repeat first|apply Qb|apply Qd|apply Qc);refine Qk (cs:=#[.slice none 0 0,.int .i64 0,.int .i64 0]) ?_ 0 _ rfl;(with_reducible repeat first|apply Qb|apply Qd|apply Qc);exact BK249.out) Tryd.underlying72 rfl kr) rfl ?_
     exact⟨_,by first|rfl|(simp[Qo,Qn] <;> rfl)|(simp[*,Qo,Qn] <;> rfl),by first|exact Kd.Z1 _ _ _ _ _|exact Kd.X4 _ _ _ _ _|exact Kd.X1 _ _ _ _ _|exact Kd.X3 _ _ _ _ _|exact Kd.X2 _ _ _ _ _,by repeat(first|(with_reducible first|exact HB.out|apply Qe|apply Qa|apply Qf|refine Qg ?_ GE249.out|refine Qg ?_ GE253.out)|exact HB.out)⟩
    ·replace c17:=Bool.eq_false_iff.mpr c17
     subst c17
     have H1:(newelref08_GetRow.l0 kj5 l0 t251 ([]:List Int) 0 t250 t251 t252)=some (r1,r2,r3):=by rw[if_neg (show ¬ (false=true) by decide)] at H;exact H
     clear H
     have H:=H1
     clear H1
     have H':=Aside0.mk H
     clear H
     have hnb20:=NB253_249.out
     have hnc20:=NB249_253.out
     obtain⟨hcz21_0,hcz21_1,hcz21_2,hfz21_0,hfz21_1,hfz21_2⟩:=qD3 BK253.out
     go_wp2
     go_loopg [1,8,9] kj5 (fun kq v1 v8 v9 w'=>∃ (x1_2:Int) (x8_2:List Int) (x9_2:Int) (x250001_2:Int) (x250002_2:Int),v1 = .int .i64 x1_2∧v9 = .int .i64 x9_2∧Aside0 (newelref08_GetRow.l0 kq l0 x1_2 x8_2 x9_2 t250 t251 t252=some (r1,r2,r3))∧Aside0 (kq≤kj5)∧Aside0 (Kd.R (Kd.int .i64) 3 w' w.heap.size (fun _=>True) v8 x8_2)∧Aside0 (w'.heap[gb249]?=some (.cells #[(.slice none 0 0),.int .i64 x250001_2,.int .i64 x250002_2] 72 (0,0)))∧Aside0 (w'.heap[gb253]?=some (.cells #[.int .i64 t250,.int .i64 t251,.int .i64 t252] 75 (0,0)))∧Aside0 (Below w.heap.size w w'))
     case atStart=>exact⟨(t251),(([]:List Int)),(0),(0),(0),qR,qR,H',⟨Nat.le_refl _⟩,⟨by first|exact Kd.Z1 _ _ _ _ _|exact Kd.X4 _ _ _ _ _|exact Kd.X1 _ _ _ _ _|exact Kd.X3 _ _ _ _ _|exact Kd.X2 _ _ _ _ _⟩,⟨by(with_reducible repeat first|apply Qb|apply Qd|apply Qc);exact BK249.out⟩,⟨by(with_reducible repeat first|apply Qb|apply Qd|apply Qc);exact BK253.out⟩,⟨by repeat(first|(with_reducible first|exact HB.out|apply Qe|apply Qa|apply Qf|refine Qg ?_ GE249.out|refine Qg ?_ GE253.out)|exact HB.out)⟩⟩
     case round=>
      clear H'
      try clear c1
      try clear c2
      try clear p2
      try clear c3
      try clear c5
      try clear c5b0
      try clear c5b1
      try clear c10
      try clear c12
      try clear c12b0
      try clear c13
      try clear c15
      try clear c17
      try clear c18
      try clear c20
      try clear hcz11_0
      try clear hcz11_1
      try clear hcz11_2
      try clear hcz14_0
      try clear hcz14_1
      try clear hcz14_2
      try clear hcz16_0
      try clear hcz16_1
      try clear hcz16_2
      try clear hcz19_0
      try clear hcz19_1
      try clear hcz19_2
      try clear hcz21_0
      try clear hcz21_1
      try clear hcz21_2
      try clear hfz11_0
      try clear hfz11_1
      try clear hfz11_2
      try clear hfz14_0
      try clear hfz14_1
      try clear hfz14_2
      try clear hfz16_0
      try clear hfz16_1
      try clear hfz16_2
      try clear hfz19_0
      try clear hfz19_1
      try clear hfz19_2
      try clear hfz21_0
      try clear hfz21_1
      try clear hfz21_2
      try clear p2
      obtain⟨x1_2,x8_2,x9_2,x250001_2,x250002_2,rfl,rfl,HA,HK2,HO_8,BK249,BK253,HB⟩:=hrel
      cases gk with
      |zero=>exact absurd HA.out (by simp[newelref08_GetRow.l0])
      |succ k2=>
       have H:=HA.out
       clear HA
       simp only[newelref08_GetRow.l0] at H
       by_cases c22:x9_2<t250
       ·rw[if_pos c22] at H
        have c22b0:decide (x9_2<t250)=true:=decide_eq_true c22
        clear c22
        replace H:=Option.bind_eq_some_iff.mp H
        obtain⟨⟨t254,t255,t256⟩,A230,H⟩:=H
        replace H:(if t256=0 then (if x8_2.length<17592186044416 then (newelref08_GetRow.l0 k2 l0 t255 (x8_2 ++ [t254]) (wrap64 (x9_2+1)) t250 t251 t252) else (none)) else (some (([]:List Int),0,t256)))=some (r1,r2,r3):=H
        have A23:=Aside0.mk A230
        clear A230
        by_cases c24:t256=0
        ·rw[if_pos c24] at H
         have c24b0:(t256==0)=true:=beq_iff_eq.mpr c24
         have c24b1:(t256 != 0)=false:=bne_eq_false_iff_eq.mpr c24
         clear c24
         by_cases c25:x8_2.length<17592186044416
         ·rw[if_pos c25] at H
          have LMc25:=Aside0.mk c25
          clear c25
          obtain⟨y258,hy258⟩:∃ y_:List Int,y_=(x8_2 ++ [t254]):=⟨_,rfl⟩
          replace H:(newelref08_GetRow.l0 k2 l0 t255 y258 (wrap64 (x9_2+1)) t250 t251 t252)=some (r1,r2,r3):=by first|(rw[hy258];with_reducible exact H)|(have H2_:=(Option.bind_some _ _).symm.trans H;rw[hy258];with_reducible exact H2_)|(have H2_:=(Option.bind_some _ _).symm.trans H;with_reducible exact H2_)|with_reducible exact H|(rw[hy258];exact H)|exact H
          have Ny258:=Aside0.mk hy258
          clear hy258
          have H':=Aside0.mk H
          clear H
          have hnb26:=NB253_249.out
          have hnc26:=NB249_253.out
          obtain⟨hcz27_0,hcz27_1,hcz27_2,hfz27_0,hfz27_1,hfz27_2⟩:=qD3 BK253.out
          go_wp2_with (first|((with_reducible refine Qv (f:=39) rfl ?_);refine Ze (some 40) rfl rfl Tryd.func39 kr rfl #[.slice A0 l0.length c0,.int .i64 x1_2] rfl (by(try simp only[List.map_toArray,List.map_cons,List.map_nil]);first|done|rfl|(simp only[List.length_drop,List.length_take];rfl)) ?_;(with_reducible refine(newelref08_Get.calls k2 _ _ l0 x1_2 t254 t255 t256 _ ?side1 ?side2 A23.out).mono ?_);(case side1=>repeat(first|exact(Kd.Zb HR0.out HB.out)|(with_reducible refine Kd.Zc ?_ _)|(with_reducible refine Kd.Za ?_ _)|(with_reducible refine Kd.Zh ?_)));(case side2=>exact HC0.out);rintro e w28 ⟨rfl,hb⟩;refine⟨_,rfl, ?_⟩;have n0_:=Aside0.mk (Kd.Q1 (by(with_reducible repeat first|apply Kd.Qi|apply Kd.Qh|apply Kd.Ql);exact HO_8.out) hb);have n1_:=Aside0.mk (Qp (g:=gb249) (o:=.cells #[.slice none 0 0,.int .i64 x250001_2,.int .i64 x250002_2] 72 (0,0)) (by(with_reducible repeat first|apply Qb|apply Qd|apply Qc);exact BK249.out) hb);have n2_:=Aside0.mk (Qp (g:=gb253) (o:=.cells #[.int .i64 t250,.int .i64 t251,.int .i64 t252] 75 (0,0)) (by(with_reducible repeat first|apply Qb|apply Qd|apply Qc);exact BK253.out) hb);have n3_:=Aside0.mk (Qr (by repeat(first|(with_reducible first|exact HB.out|apply Qe|apply Qa|apply Qf|refine Qg ?_ GE249.out|refine Qg ?_ GE253.out)|exact HB.out)) hb);clear HO_8;clear BK249;clear BK253;clear HB;have HO_8:=n0_;have BK249:=n1_;have BK253:=n2_;have HB:=n3_;clear n0_ n1_ n2_ n3_;(try clear hb);(try clear hb2);(try clear hk);(try clear hi))|((with_reducible refine Qz (N:=10) rfl ?_);refine Q7 ?hg (N:=10) ?hd (cs:=#[.int .i64 0,.int .i64 0,.int .i64 0]) (t:=75) ?hr ?_;(case hd=>rfl);(case hg=>rfl);(case hr=>first|(go_simp;done)|(go_simp;rfl));intro gb257 hg w29 hbox hb;have n0_:=Aside0.mk (Kd.Q1 (by(with_reducible repeat first|apply Kd.Qi|apply Kd.Qh|apply Kd.Ql);exact HO_8.out) hb);have n1_:=Aside0.mk (Qp (g:=gb249) (o:=.cells #[.slice none 0 0,.int .i64 x250001_2,.int .i64 x250002_2] 72 (0,0)) (by(with_reducible repeat first|apply Qb|apply Qd|apply Qc);exact BK249.out) hb);have n2_:=Aside0.mk (Qp (g:=gb253) (o:=.cells #[.int .i64 t250,.int .i64 t251,.int .i64 t252] 75 (0,0)) (by(with_reducible repeat first|apply Qb|apply Qd|apply Qc);exact BK253.out) hb);have n3_:=Aside0.mk (Qr (by repeat(first|(with_reducible first|exact HB.out|apply Qe|apply Qa|apply Qf|refine Qg ?_ GE249.out|refine Qg ?_ GE253.out)|exact HB.out)) hb);have n4_:=Aside0.mk (hbox);have n5_:=Aside0.mk ((by rw[hg];exact(Qj (by repeat(first|(with_reducible first|exact HB.out|apply Qe|apply Qa|apply Qf|refine Qg ?_ GE249.out|refine Qg ?_ GE253.out)|exact HB.out))):w.heap.size≤gb257));have n6_:=Aside0.mk ((by rw[hg];exact(Qj (by repeat(first|(with_reducible first|exact HB.out|apply Qe|apply Qa|apply Qf|refine Qg ?_ GE249.out|refine Qg ?_ GE253.out)|exact HB.out))):w.heap.size≤gb257));have n7_:=Aside0.mk ((by rw[hg];exact Nat.ne_of_lt (Q8 (g:=gb249) (o:=.cells #[.slice none 0 0,.int .i64 x250001_2,.int .i64 x250002_2] 72 (0,0)) (by(with_reducible repeat first|apply Qb|apply Qd|apply Qc);exact BK249.out)):gb249≠gb257));have n8_:=Aside0.mk ((by rw[hg];exact Nat.ne_of_gt (Q8 (g:=gb249) (o:=.cells #[.slice none 0 0,.int .i64 x250001_2,.int .i64 x250002_2] 72 (0,0)) (by(with_reducible repeat first|apply Qb|apply Qd|apply Qc);exact BK249.out)):gb257≠gb249));have n9_:=Aside0.mk ((by rw[hg];exact Nat.ne_of_lt (Q8 (g:=gb253) (o:=.cells #[.int .i64 t250,.int .i64 t251,.int .i64 t252] 75 (0,0)) (by(with_reducible repeat first|apply Qb|apply Qd|apply Qc);exact BK253.out)):gb253≠gb257));have n10_:=Aside0.mk ((by rw[hg];exact Nat.ne_of_gt (Q8 (g:=gb253) (o:=.cells #[.int .i64 t250,.int .i64 t251,.int .i64 t252] 75 (0,0)) (by(with_reducible repeat first|apply Qb|apply Qd|apply Qc);exact BK253.out)):gb257≠gb253));clear HO_8;clear BK249;clear BK253;clear HB;have HO_8:=n0_;have BK249:=n1_;have BK253:=n2_;have HB:=n3_;have BK257:=n4_;have GW257:=n5_;have GE257:=n6_;have NB249_257:=n7_;have NB257_249:=n8_;have NB253_257:=n9_;have NB257_253:=n10_;clear n0_ n1_ n2_ n3_ n4_ n5_ n6_ n7_ n8_ n9_ n10_;clear hb hbox hg;have hnb30:=NB257_249.out;have hnc30:=NB249_257.out;have hnb31:=NB257_253.out;have hnc31:=NB253_257.out;obtain⟨hcz32_0,hcz32_1,hcz32_2,hfz32_0,hfz32_1,hfz32_2⟩:=qD3 BK257.out)|((with_reducible refine Zs (b:=.append) (xs:=#[.tmp 47,.tmp 50]) rfl ?_);at_builtin;refine Kd.Kf (Kd.int .i64) (w0:=w) w.heap.size rfl (.tmp 47) (.tmp 50) 52 3 (.int .i64 0) 8 rfl Tryd.underlying52 El rfl (by decide) (by omega) u8 x8_2 t254 [.int .i64 t254] (fun _=>True) (fun _=>False) rfl (by first|(go_simp;done)|(go_simp;rfl)) ?aP (fun _ hk=>hk.elim) ?aF ?aO ?aB ?aS ?aL ?_;(case aP=>exact rfl);(case aB=>exact(by repeat(first|(with_reducible first|exact HB.out|apply Qe|apply Qa|apply Qf|refine Qg ?_ GE249.out|refine Qg ?_ GE253.out|refine Qg ?_ GE257.out)|exact HB.out)));(case aF=>exact(fun _ _=>trivial));(case aO=>exact(by(with_reducible repeat first|apply Kd.Qi|apply Kd.Qh|apply Kd.Ql);exact Kd.Qu (Kd.Qm (p:=⟨gb257,2,none⟩) (Kd.Qm (p:=⟨gb257,1,none⟩) (Kd.Qm (p:=⟨gb257,0,none⟩) (Kd.Qy HO_8.out BK257.out (by decide)) (fun _ hk=>hk.2) (.int .i64 t254)) (fun _ hk=>hk.2) (.int .i64 t255)) (fun _ hk=>hk.2) (.int .i64 t256)) (fun _ hk=>trivial)));(case aS=>exact(Qj (by repeat(first|(with_reducible first|exact HB.out|apply Qe|apply Qa|apply Qf|refine Qg ?_ GE249.out|refine Qg ?_ GE253.out|refine Qg ?_ GE257.out)|exact HB.out))));(case aL=>have:=LMc25.out;omega);intro v259 w33 ho hb hg hat;rw[← Ny258.out] at ho;have n0_:=Aside0.mk (Z2 (g:=gb249) (o:=.cells #[.slice none 0 0,.int .i64 x250001_2,.int .i64 x250002_2] 72 (0,0)) (by(with_reducible repeat first|apply Qb|apply Qd|apply Qc);refine Qs ?_ NB249_257.out _;(with_reducible repeat first|apply Qb|apply Qd|apply Qc);refine Qs ?_ NB249_257.out _;(with_reducible repeat first|apply Qb|apply Qd|apply Qc);refine Qs ?_ NB249_257.out _;(with_reducible repeat first|apply Qb|apply Qd|apply Qc);exact BK249.out) hg (Kd.Y5 HO_8.out BK249.out (by decide)));have n1_:=Aside0.mk (Z2 (g:=gb253) (o:=.cells #[.int .i64 t250,.int .i64 t251,.int .i64 t252] 75 (0,0)) (by(with_reducible repeat first|apply Qb|apply Qd|apply Qc);refine Qs ?_ NB253_257.out _;(with_reducible repeat first|apply Qb|apply Qd|apply Qc);refine Qs ?_ NB253_257.out _;(with_reducible repeat first|apply Qb|apply Qd|apply Qc);refine Qs ?_ NB253_257.out _;(with_reducible repeat first|apply Qb|apply Qd|apply Qc);exact BK253.out) hg (Kd.Y5 HO_8.out BK253.out (by decide)));have n2_:=Aside0.mk (Z2 (g:=gb257) (o:=.cells #[.int .i64 t254,.int .i64 t255,.int .i64 t256] 75 (0,0)) (by(with_reducible repeat first|apply Qb|apply Qd|apply Qc);refine Qk (cs:=#[.int .i64 t254,.int .i64 t255,.int .i64 0]) ?_ 2 _ rfl;(with_reducible repeat first|apply Qb|apply Qd|apply Qc);refine Qk (cs:=#[.int .i64 t254,.int .i64 0,.int .i64 0]) ?_ 1 _ rfl;(with_reducible repeat first|apply Qb|apply Qd|apply Qc);refine Qk (cs:=#[.int .i64 0,.int .i64 0,.int .i64 0]) ?_ 0 _ rfl;(with_reducible repeat first|apply Qb|apply Qd|apply Qc);exact BK257.out) hg (Kd.Y5 HO_8.out BK257.out (by decide)));have n3_:=Aside0.mk (hb);have n4_:=Aside0.mk (ho);clear BK249;clear BK253;clear BK257;clear HB;clear HO_8;have BK249:=n0_;have BK253:=n1_;have BK257:=n2_;have HB:=n3_;have HO260:=n4_;clear n0_ n1_ n2_ n3_ n4_;clear ho hb hg hat;obtain⟨hcz34_0,hcz34_1,hcz34_2,hfz34_0,hfz34_1,hfz34_2⟩:=qD3 BK257.out))
          go_roundg k2
          case measure=>have:=HJ5.out;have:=HK2.out;omega
          case rel=>exact⟨(t255),(y258),(wrap64 (x9_2+1)),(x250001_2),(x250002_2),qR,qR,H',⟨by have:=HJ5.out;have:=HK2.out;omega⟩,⟨by(with_reducible repeat first|apply Kd.Qi|apply Kd.Qh|apply Kd.Ql);exact HO260.out⟩,⟨by(with_reducible repeat first|apply Qb|apply Qd|apply Qc);exact BK249.out⟩,⟨by(with_reducible repeat first|apply Qb|apply Qd|apply Qc);exact BK253.out⟩,⟨by repeat(first|(with_reducible first|exact HB.out|apply Qe|apply Qa|apply Qf|refine Qg ?_ GE249.out|refine Qg ?_ GE253.out|refine Qg ?_ GE257.out)|exact HB.out)⟩⟩
         ·rw[if_neg c25] at H
          exact absurd H (by simp)
        ·rw[if_neg c24] at H
         have c24b0:(t256==0)=false:=beq_eq_false_iff_ne.mpr c24
         have c24b1:(t256 != 0)=true:=bne_iff_ne.mpr c24
         simp only[Option.some.injEq,Prod.mk.injEq] at H
         obtain⟨rfl,rfl,rfl⟩:=H
         have hnb35:=NB253_249.out
         have hnc35:=NB249_253.out
         obtain⟨hcz36_0,hcz36_1,hcz36_2,hfz36_0,hfz36_1,hfz36_2⟩:=qD3 BK253.out
         go_wp2_with (first|((with_reducible refine Qv (f:=39) rfl ?_);refine Ze (some 40) rfl rfl Tryd.func39 kr rfl #[.slice A0 l0.length c0,.int .i64 x1_2] rfl (by(try simp only[List.map_toArray,List.map_cons,List.map_nil]);first|done|rfl|(simp only[List.length_drop,List.length_take];rfl)) ?_;(with_reducible refine(newelref08_Get.calls k2 _ _ l0 x1_2 t254 t255 t256 _ ?side1 ?side2 A23.out).mono ?_);(case side1=>repeat(first|exact(Kd.Zb HR0.out HB.out)|(with_reducible refine Kd.Zc ?_ _)|(with_reducible refine Kd.Za ?_ _)|(with_reducible refine Kd.Zh ?_)));(case side2=>exact HC0.out);rintro e w37 ⟨rfl,hb⟩;refine⟨_,rfl, ?_⟩;have n0_:=Aside0.mk (Kd.Q1 (by(with_reducible repeat first|apply Kd.Qi|apply Kd.Qh|apply Kd.Ql);exact HO_8.out) hb);have n1_:=Aside0.mk (Qp (g:=gb249) (o:=.cells #[.slice none 0 0,.int .i64 x250001_2,.int .i64 x250002_2] 72 (0,0)) (by(with_reducible repeat first|apply Qb|apply Qd|apply Qc);exact BK249.out) hb);have n2_:=Aside0.mk (Qp (g:=gb253) (o:=.cells #[.int .i64 t250,.int .i64 t251,.int .i64 t252] 75 (0,0)) (by(with_reducible repeat first|apply Qb|apply Qd|apply Qc);exact BK253.out) hb);have n3_:=Aside0.mk (Qr (by repeat(first|(with_reducible first|exact HB.out|apply Qe|apply Qa|apply Qf|refine Qg ?_ GE249.out|refine Qg ?_ GE253.out)|exact HB.out)) hb);clear HO_8;clear BK249;clear BK253;clear HB;have HO_8:=n0_;have BK249:=n1_;have BK253:=n2_;have HB:=n3_;clear n0_ n1_ n2_ n3_;(try clear hb);(try clear hb2);(try clear hk);(try clear hi))|((with_reducible refine Qz (N:=10) rfl ?_);refine Q7 ?hg (N:=10) ?hd (cs:=#[.int .i64 0,.int .i64 0,.int .i64 0]) (t:=75) ?hr ?_;(case hd=>rfl);(case hg=>rfl);(case hr=>first|(go_simp;done)|(go_simp;rfl));intro gb257 hg w38 hbox hb;have n0_:=Aside0.mk (Kd.Q1 (by(with_reducible repeat first|apply Kd.Qi|apply Kd.Qh|apply Kd.Ql);exact HO_8.out) hb);have n1_:=Aside0.mk (Qp (g:=gb249) (o:=.cells #[.slice none 0 0,.int .i64 x250001_2,.int .i64 x250002_2] 72 (0,0)) (by(with_reducible repeat first|apply Qb|apply Qd|apply Qc);exact BK249.out) hb);have n2_:=Aside0.mk (Qp (g:=gb253) (o:=.cells #[.int .i64 t250,.int .i64 t251,.int .i64 t252] 75 (0,0)) (by(with_reducible repeat first|apply Qb|apply Qd|apply Qc);exact BK253.out) hb);have n3_:=Aside0.mk (Qr (by repeat(first|(with_reducible first|exact HB.out|apply Qe|apply Qa|apply Qf|refine Qg ?_ GE249.out|refine Qg ?_ GE253.out)|exact HB.out)) hb);have n4_:=Aside0.mk (hbox);have n5_:=Aside0.mk ((by rw[hg];exact(Qj (by repeat(first|(with_reducible first|exact HB.out|apply Qe|apply Qa|apply Qf|refine Qg ?_ GE249.out|refine Qg ?_ GE253.out)|exact HB.out))):w.heap.size≤gb257));have n6_:=Aside0.mk ((by rw[hg];exact(Qj (by repeat(first|(with_reducible first|exact HB.out|apply Qe|apply Qa|apply Qf|refine Qg ?_ GE249.out|refine Qg ?_ GE253.out)|exact HB.out))):w.heap.size≤gb257));have n7_:=Aside0.mk ((by rw[hg];exact Nat.ne_of_lt (Q8 (g:=gb249) (o:=.cells #[.slice none 0 0,.int .i64 x250001_2,.int .i64 x250002_2] 72 (0,0)) (by(with_reducible repeat first|apply Qb|apply Qd|apply Qc);exact BK249.out)):gb249≠gb257));have n8_:=Aside0.mk ((by rw[hg];exact Nat.ne_of_gt (Q8 (g:=gb249) (o:=.cells #[.slice none 0 0,.int .i64 x250001_2,.int .i64 x250002_2] 72 (0,0)) (by(with_reducible repeat first|apply Qb|apply Qd|apply Qc);exact BK249.out)):gb257≠gb249));have n9_:=Aside0.mk ((by rw[hg];exact Nat.ne_of_lt (Q8 (g:=gb253) (o:=.cells #[.int .i64 t250,.int .i64 t251,.int .i64 t252] 75 (0,0)) (by(with_reducible repeat first|apply Qb|apply Qd|apply Qc);exact BK253.out)):gb253≠gb257));have n10_:=Aside0.mk ((by rw[hg];exact Nat.ne_of_gt (Q8 (g:=gb253) (o:=.cells #[.int .i64 t250,.int .i64 t251,.int .i64 t252] 75 (0,0)) (by(with_reducible repeat first|apply Qb|apply Qd|apply Qc);exact BK253.out)):gb257≠gb253));clear HO_8;clear BK249;clear BK253;clear HB;have HO_8:=n0_;have BK249:=n1_;have BK253:=n2_;have HB:=n3_;have BK257:=n4_;have GW257:=n5_;have GE257:=n6_;have NB249_257:=n7_;have NB257_249:=n8_;have NB253_257:=n9_;have NB257_253:=n10_;clear n0_ n1_ n2_ n3_ n4_ n5_ n6_ n7_ n8_ n9_ n10_;clear hb hbox hg;have hnb39:=NB257_249.out;have hnc39:=NB249_257.out;have hnb40:=NB257_253.out;have hnc40:=NB253_257.out;obtain⟨hcz41_0,hcz41_1,hcz41_2,hfz41_0,hfz41_1,hfz41_2⟩:=qD3 BK257.out;obtain⟨hcz42_0,hcz42_1,hcz42_2,hfz42_0,hfz42_1,hfz42_2⟩:=qD3 BK249.out))
         refine bodyPost_ret (results_cell_row rfl _ _ gb249 72 #[.slice none 0 0,.int .i64 0,.int .i64 t256] (0,0) _ rfl (by(with_reducible repeat first|apply Qb|apply Qd|apply Qc);refine Qk (cs:=#[.slice none 0 0,.int .i64 0,.int .i64 x250002_2]) ?_ 2 _ rfl;(with_reducible repeat first|apply Qb|apply Qd|apply Qc);refine Qk (cs:=#[.slice none 0 0,.int .i64 x250001_2,.int .i64 x250002_2]) ?_ 1 _ rfl;(with_reducible repeat first|apply Qb|apply Qd|apply Qc);refine Qk (cs:=#[.slice none 0 0,.int .i64 x250001_2,.int .i64 x250002_2]) ?_ 0 _ rfl;(with_reducible repeat first|apply Qb|apply Qd|apply Qc);refine Qs ?_ NB249_257.out _;(with_reducible repeat first|apply Qb|apply Qd|apply Qc);refine Qs ?_ NB249_257.out _;(with_reducible repeat first|apply Qb|apply Qd|apply Qc);refine Qs ?_ NB249_257.out _;(with_reducible repeat first|apply Qb|apply Qd|apply Qc);exact BK249.out) Tryd.underlying72 rfl kr) rfl ?_
         exact⟨_,by first|rfl|(simp[Qo,Qn] <;> rfl)|(simp[*,Qo,Qn] <;> rfl),by first|exact Kd.Z1 _ _ _ _ _|exact Kd.X4 _ _ _ _ _|exact Kd.X1 _ _ _ _ _|exact Kd.X3 _ _ _ _ _|exact Kd.X2 _ _ _ _ _,by repeat(first|(with_reducible first|exact HB.out|apply Qe|apply Qa|apply Qf|refine Qg ?_ GE249.out|refine Qg ?_ GE253.out|refine Qg ?_ GE257.out)|exact HB.out)⟩
       ·rw[if_neg c22] at H
        have c22b0:decide (x9_2<t250)=false:=decide_eq_false c22
        clear c22
        simp only[Option.some.injEq,Prod.mk.injEq] at H
        obtain⟨rfl,rfl,rfl⟩:=H
        have hnb43:=NB253_249.out
        have hnc43:=NB249_253.out
        obtain⟨hcz44_0,hcz44_1,hcz44_2,hfz44_0,hfz44_1,hfz44_2⟩:=qD3 BK253.out
        obtain⟨Ao45,co45,eo45⟩:=Kd.Zf HO_8.out
        subst eo45
        obtain⟨hcz46_0,hcz46_1,hcz46_2,hfz46_0,hfz46_1,hfz46_2⟩:=qD3 BK249.out
        go_wp2
        refine bodyPost_ret (results_cell_row rfl _ _ gb249 72 #[.slice Ao45 x8_2.length co45,.int .i64 x1_2,.int .i64 0] (0,0) _ rfl (by(with_reducible repeat first|apply Qb|apply Qd|apply Qc);refine Qk (cs:=#[.slice Ao45 x8_2.length co45,.int .i64 x1_2,.int .i64 x250002_2]) ?_ 2 _ rfl;(with_reducible repeat first|apply Qb|apply Qd|apply Qc);refine Qk (cs:=#[.slice Ao45 x8_2.length co45,.int .i64 x250001_2,.int .i64 x250002_2]) ?_ 1 _ rfl;(with_reducible repeat first|apply Qb|apply Qd|apply Qc);refine Qk (cs:=#[.slice none 0 0,.int .i64 x250001_2,.int .i64 x250002_2]) ?_ 0 _ rfl;(with_reducible repeat first|apply Qb|apply Qd|apply Qc);exact BK249.out) Tryd.underlying72 rfl kr) rfl ?_
        exact⟨_,by first|rfl|(simp[Qo,Qn] <;> rfl)|(simp[*,Qo,Qn] <;> rfl),by(with_reducible repeat first|apply Kd.Qi|apply Kd.Qh|apply Kd.Ql);exact Kd.Qu (Kd.Qm (p:=⟨gb249,2,none⟩) (Kd.Qm (p:=⟨gb249,1,none⟩) (Kd.Qm (p:=⟨gb249,0,none⟩) (Kd.Qy HO_8.out BK249.out (by decide)) (fun _ hk=>hk.2) (.slice Ao45 x8_2.length co45)) (fun _ hk=>hk.2) (.int .i64 x1_2)) (fun _ hk=>hk.2) (.int .i64 0)) (fun _ hk=>trivial),by repeat(first|(with_reducible first|exact HB.out|apply Qe|apply Qa|apply Qf|refine Qg ?_ GE249.out|refine Qg ?_ GE253.out)|exact HB.out)⟩
 ·rw[if_neg c5] at H
  have c5b0:(t252==0)=false:=beq_eq_false_iff_ne.mpr c5
  have c5b1:(t252 != 0)=true:=bne_iff_ne.mpr c5
  simp only[Option.some.injEq,Prod.mk.injEq] at H
  obtain⟨rfl,rfl,rfl⟩:=H
  go_enter Tryd.func38,Tryd.ntmps38
  go_wp2_with (first|((with_reducible refine Qz (N:=6) rfl ?_);refine Q7 ?hg (N:=6) ?hd (cs:=#[.slice none 0 0,.int .i64 0,.int .i64 0]) (t:=72) ?hr ?_;(case hd=>rfl);(case hg=>rfl);(case hr=>first|(go_simp;done)|(go_simp;rfl));intro gb249 hg w47 hbox hb;have n0_:=Aside0.mk (Qr (by repeat(first|(with_reducible first|exact HB.out|apply Qe|apply Qa|apply Qf)|exact HB.out)) hb);have n1_:=Aside0.mk (hbox);have n2_:=Aside0.mk ((by rw[hg];exact(Qj (by repeat(first|(with_reducible first|exact HB.out|apply Qe|apply Qa|apply Qf)|exact HB.out))):w.heap.size≤gb249));have n3_:=Aside0.mk ((by rw[hg];exact(Qj (by repeat(first|(with_reducible first|exact HB.out|apply Qe|apply Qa|apply Qf)|exact HB.out))):w.heap.size≤gb249));clear HB;have HB:=n0_;have BK249:=n1_;have GW249:=n2_;have GE249:=n3_;clear n0_ n1_ n2_ n3_;clear hb hbox hg)|((with_reducible refine Qv (f:=39) rfl ?_);refine Ze (some 13) rfl rfl Tryd.func39 kr rfl #[.slice A0 l0.length c0,.int .i64 a1] rfl (by(try simp only[List.map_toArray,List.map_cons,List.map_nil]);first|done|rfl|(simp only[List.length_drop,List.length_take];rfl)) ?_;(with_reducible refine(newelref08_Get.calls k _ _ l0 a1 t250 t251 t252 _ ?side1 ?side2 A4.out).mono ?_);(case side1=>repeat(first|exact(Kd.Zb HR0.out HB.out)|(with_reducible refine Kd.Zc ?_ _)|(with_reducible refine Kd.Za ?_ _)|(with_reducible refine Kd.Zh ?_)));(case side2=>exact HC0.out);rintro e w48 ⟨rfl,hb⟩;refine⟨_,rfl, ?_⟩;have n0_:=Aside0.mk (Qp (g:=gb249) (o:=.cells #[.slice none 0 0,.int .i64 0,.int .i64 0] 72 (0,0)) (by(with_reducible repeat first|apply Qb|apply Qd|apply Qc);exact BK249.out) hb);have n1_:=Aside0.mk (Qr (by repeat(first|(with_reducible first|exact HB.out|apply Qe|apply Qa|apply Qf|refine Qg ?_ GE249.out)|exact HB.out)) hb);clear BK249;clear HB;have BK249:=n0_;have HB:=n1_;clear n0_ n1_;(try clear hb);(try clear hb2);(try clear hk);(try clear hi))|((with_reducible refine Qz (N:=7) rfl ?_);refine Q7 ?hg (N:=7) ?hd (cs:=#[.int .i64 0,.int .i64 0,.int .i64 0]) (t:=75) ?hr ?_;(case hd=>rfl);(case hg=>rfl);(case hr=>first|(go_simp;done)|(go_simp;rfl));intro gb253 hg w49 hbox hb;have n0_:=Aside0.mk (Qp (g:=gb249) (o:=.cells #[.slice none 0 0,.int .i64 0,.int .i64 0] 72 (0,0)) (by(with_reducible repeat first|apply Qb|apply Qd|apply Qc);exact BK249.out) hb);have n1_:=Aside0.mk (Qr (by repeat(first|(with_reducible first|exact HB.out|apply Qe|apply Qa|apply Qf|refine Qg ?_ GE249.out)|exact HB.out)) hb);have n2_:=Aside0.mk (hbox);have n3_:=Aside0.mk ((by rw[hg];exact(Qj (by repeat(first|(with_reducible first|exact HB.out|apply Qe|apply Qa|apply Qf|refine Qg ?_ GE249.out)|exact HB.out))):w.heap.size≤gb253));have n4_:=Aside0.mk ((by rw[hg];exact(Qj (by repeat(first|(with_reducible first|exact HB.out|apply Qe|apply Qa|apply Qf|refine Qg ?_ GE249.out)|exact HB.out))):w.heap.size≤gb253));have n5_:=Aside0.mk ((by rw[hg];exact Nat.ne_of_lt (Q8 (g:=gb249) (o:=.cells #[.slice none 0 0,.int .i64 0,.int .i64 0] 72 (0,0)) (by(with_reducible repeat first|apply Qb|apply Qd|apply Qc);exact BK249.out)):gb249≠gb253));have n6_:=Aside0.mk ((by rw[hg];exact Nat.ne_of_gt (Q8 (g:=gb249) (o:=.cells #[.slice none 0 0,.int .i64 0,.int .i64 0] 72 (0,0)) (by(with_reducible repeat first|apply Qb|apply Qd|apply Qc);exact BK249.out)):gb253≠gb249));clear BK249;clear HB;have BK249:=n0_;have HB:=n1_;have BK253:=n2_;have GW253:=n3_;have GE253:=n4_;have NB249_253:=n5_;have NB253_249:=n6_;clear n0_ n1_ n2_ n3_ n4_ n5_ n6_;clear hb hbox hg;have hnb50:=NB253_249.out;have hnc50:=NB249_253.out;obtain⟨hcz51_0,hcz51_1,hcz51_2,hfz51_0,hfz51_1,hfz51_2⟩:=qD3 BK253.out;obtain⟨hcz52_0,hcz52_1,hcz52_2,hfz52_0,hfz52_1,hfz52_2⟩:=qD3 BK249.out))
  refine bodyPost_ret (results_cell_row rfl _ _ gb249 72 #[.slice none 0 0,.int .i64 0,.int .i64 t252] (0,0) _ rfl (by(with_reducible repeat first|apply Qb|apply Qd|apply Qc);refine Qk (cs:=#[.slice none 0 0,.int .i64 0,.int .i64 0]) ?_ 2 _ rfl;(with_reducible repeat first|apply Qb|apply Qd|apply Qc);refine Qk (cs:=#[.slice none 0 0,.int .i64 0,.int .i64 0]) ?_ 1 _ rfl;(with_reducible repeat first|apply Qb|apply Qd|apply Qc);refine Qk (cs:=#[.slice none 0 0,.int .i64 0,.int .i64 0]) ?_ 0 _ rfl;(with_reducible repeat first|apply Qb|apply Qd|apply Qc);refine Qs ?_ NB249_253.out _;(with_reducible repeat first|apply Qb|apply Qd|apply Qc);refine Qs ?_ NB249_253.out _;(with_reducible repeat first|apply Qb|apply Qd|apply Qc);refine Qs ?_ NB249_253.out _;(with_reducible repeat first|apply Qb|apply Qd|apply Qc);exact BK249.out) Tryd.underlying72 rfl kr) rfl ?_
  exact⟨_,by first|rfl|(simp[Qo,Qn] <;> rfl)|(simp[*,Qo,Qn] <;> rfl),by first|exact Kd.Z1 _ _ _ _ _|exact Kd.X4 _ _ _ _ _|exact Kd.X1 _ _ _ _ _|exact Kd.X3 _ _ _ _ _|exact Kd.X2 _ _ _ _ _,by repeat(first|(with_reducible first|exact HB.out|apply Qe|apply Qa|apply Qf|refine Qg ?_ GE249.out|refine Qg ?_ GE253.out)|exact HB.out)⟩
def newelref08_Code.f (a0:Int):Option (Int):=if a0≥0 then (some (IntKind.u64.wrap ((IntKind.u64.wrap (a0)) * 2))) else (some (IntKind.u64.wrap ((IntKind.u64.wrap ((IntKind.u64.wrap (wrap64 ((-1)-a0))) * 2))+1)))
set_option maxHeartbeats 8000000 in
set_option maxRecDepth 100000 in
theorem newelref08_Code.calls (a0:Int) (r:Int) (w:World) (h:newelref08_Code.f a0=some r):
  Calls Tryd.prog 44 #[.int .i64 a0] w fun e w'=>e = .returned (.int .u64 r)∧Drawn0 w w':=by
 have H:(if a0≥0 then (some (IntKind.u64.wrap ((IntKind.u64.wrap (a0)) * 2))) else (some (IntKind.u64.wrap ((IntKind.u64.wrap ((IntKind.u64.wrap (wrap64 ((-1)-a0))) * 2))+1))))=some r:=h
 clear h
 by_cases c2:a0≥0
 ·rw[if_pos c2] at H
  have c2b0:decide (0≤a0)=true:=decide_eq_true c2
  clear c2
  obtain rfl:=Option.some.inj H
  go_enter Tryd.func44,Tryd.ntmps44
  go_wp2
  go_ret
  exact⟨qR,by repeat(first|exact Drawn0.refl _|apply Drawn0.step)⟩
 ·rw[if_neg c2] at H
  have c2b0:decide (0≤a0)=false:=decide_eq_false c2
  clear c2
  obtain rfl:=Option.some.inj H
  go_enter Tryd.func44,Tryd.ntmps44
  go_wp2
  go_ret
  exact⟨qR,by repeat(first|exact Drawn0.refl _|apply Drawn0.step)⟩
def newelref08_Put.l0:Nat→Int→List Int→Option (List Int)
 |0,_,_=>none
 |k+1,x3,x4=>if x3≥128 then (if x4.length<140737488355328 then (newelref08_Put.l0 k (IntKind.u64.wrap (Int.tdiv x3 128)) (x4 ++ [(IntKind.u64.wrap ((Int.tmod x3 128)+128)) % 256])) else (none)) else (if x4.length<140737488355328 then (some (x4 ++ [(x3) % 256])) else (none))
def newelref08_Put.f (k:Nat) (a0:Int):Option (List Int):=(newelref08_Code.f a0).bind fun t319=>(newelref08_Put.l0 k t319 ([]:List Int))
theorem newelref08_Put.Zl:∀ k,(∀ y0 y1,LeO (newelref08_Put.l0 k y0 y1) (newelref08_Put.l0 (k+1) y0 y1))
 |0=>fun _ _ r h=>by simp[newelref08_Put.l0] at h
 |k+1=>by
  have ih0:=newelref08_Put.Zl k
  ·intro y0 y1
   unfold newelref08_Put.l0
   repeat' first
   |(with_reducible exact ih0 _ _)
   |(with_reducible exact LeO.refl _)
   |(with_reducible exact LeO.none _)
   |(with_reducible refine LeO.ite ?_ ?_)
   |(with_reducible refine LeO.bind ?_ (fun _=>?_))
   |exact ih0 _ _
   |exact LeO.none _
   |refine LeO.ite ?_ ?_
   |refine LeO.bind ?_ (fun _=>?_)
theorem newelref08_Put.mono:∀ a0 k,LeO (newelref08_Put.f k a0) (newelref08_Put.f (k+1) a0):=by
 intro a0 k
 have ih0:=newelref08_Put.Zl k
 unfold newelref08_Put.f
 repeat' first
   |(with_reducible exact ih0 _ _)
   |(with_reducible exact LeO.refl _)
   |(with_reducible exact LeO.none _)
   |(with_reducible refine LeO.ite ?_ ?_)
   |(with_reducible refine LeO.bind ?_ (fun _=>?_))
   |exact ih0 _ _
   |exact LeO.none _
   |refine LeO.ite ?_ ?_
   |refine LeO.bind ?_ (fun _=>?_)
set_option maxHeartbeats 8000000 in
set_option maxRecDepth 100000 in
theorem newelref08_Put.calls (k:Nat) (a0:Int) (r:List Int) (w:World) (h:newelref08_Put.f k a0=some r):
  Calls Tryd.prog 36 #[.int .i64 a0] w fun e w'=>∃ v0_:Value,e = .returned (v0_)∧Kd.R (Kd.int .u8) 5 w' w.heap.size (fun _=>True) v0_ r∧Below w.heap.size w w':=by
 have HB:=Aside0.mk (Below.refl w.heap.size w)
 have H:((newelref08_Code.f a0).bind fun t319=>(newelref08_Put.l0 k t319 ([]:List Int)))=some r:=h
 clear h
 replace H:=Option.bind_eq_some_iff.mp H
 obtain⟨t319,A20,H⟩:=H
 replace H:(newelref08_Put.l0 k t319 ([]:List Int))=some r:=H
 have A2:=Aside0.mk A20
 clear A20
 have H':=Aside0.mk H
 clear H
 go_enter Tryd.func36,Tryd.ntmps36
 go_wp2_with (first|((with_reducible refine Qv (f:=44) rfl ?_);refine Ze (some 6) rfl rfl Tryd.func44 kr rfl #[.int .i64 a0] rfl (by(try simp only[List.map_toArray,List.map_cons,List.map_nil]);first|done|rfl|(simp only[List.length_drop,List.length_take];rfl)) ?_;(with_reducible refine(newelref08_Code.calls a0 t319 _ A2.out).mono ?_);rintro e w' ⟨rfl,⟨nd,rfl⟩⟩;refine⟨_,rfl, ?_⟩))
 go_loopg [3,4] k (fun kq v3 v4 w'=>∃ (x3_1:Int) (x4_1:List Int),v3 = .int .u64 x3_1∧Aside0 (newelref08_Put.l0 kq x3_1 x4_1=some r)∧Aside0 (kq≤k)∧Aside0 (Kd.R (Kd.int .u8) 5 w' w.heap.size (fun _=>True) v4 x4_1)∧Aside0 (Below w.heap.size w w'))
 case atStart=>exact⟨(t319),(([]:List Int)),qR,H',⟨Nat.le_refl _⟩,⟨by first|exact Kd.Z1 _ _ _ _ _|exact Kd.X4 _ _ _ _ _|exact Kd.X1 _ _ _ _ _|exact Kd.X3 _ _ _ _ _|exact Kd.X2 _ _ _ _ _⟩,⟨by repeat(first|(with_reducible first|exact HB.out|apply Qe|apply Qa|apply Qf)|exact HB.out)⟩⟩
 case round=>
  clear H'
  try clear p2
  obtain⟨x3_1,x4_1,rfl,HA,HK1,HO_4,HB⟩:=hrel
  cases gk with
  |zero=>exact absurd HA.out (by simp[newelref08_Put.l0])
  |succ k1=>
   have H:=HA.out
   clear HA
   simp only[newelref08_Put.l0] at H
   by_cases c3:x3_1≥128
   ·rw[if_pos c3] at H
    have c3b0:decide (128≤x3_1)=true:=decide_eq_true c3
    clear c3
    by_cases c4:x4_1.length<140737488355328
    ·rw[if_pos c4] at H
     have LMc4:=Aside0.mk c4
     clear c4
     obtain⟨y320,hy320⟩:∃ y_:List Int,y_=(x4_1 ++ [(IntKind.u64.wrap ((Int.tmod x3_1 128)+128)) % 256]):=⟨_,rfl⟩
     replace H:(newelref08_Put.l0 k1 (IntKind.u64.wrap (Int.tdiv x3_1 128)) y320)=some r:=by first|(rw[hy320];with_reducible exact H)|(have H2_:=(Option.bind_some _ _).symm.trans H;rw[hy320];with_reducible exact H2_)|(have H2_:=(Option.bind_some _ _).symm.trans H;with_reducible exact H2_)|with_reducible exact H|(rw[hy320];exact H)|exact H
     have Ny320:=Aside0.mk hy320
     clear hy320
     have H':=Aside0.mk H
     clear H
     go_wp2_with (first|((with_reducible refine Zs (b:=.append) (xs:=#[.tmp 9,.tmp 14]) rfl ?_);at_builtin;refine Kd.Kf (Kd.int .u8) (w0:=w) w.heap.size rfl (.tmp 9) (.tmp 14) 22 5 (.int .u8 0) 1 rfl Tryd.underlying22 Zx rfl (by decide) (by omega) u4 x4_1 ((IntKind.u64.wrap ((Int.tmod x3_1 128)+128)) % 256) [.int .u8 ((IntKind.u64.wrap ((Int.tmod x3_1 128)+128)) % 256)] (fun _=>True) (fun _=>False) rfl rfl ?aP (fun _ hk=>hk.elim) ?aF ?aO ?aB ?aS ?aL ?_;(case aP=>exact rfl);(case aB=>exact(by repeat(first|(with_reducible first|exact HB.out|apply Qe|apply Qa|apply Qf)|exact HB.out)));(case aF=>exact(fun _ _=>trivial));(case aO=>exact(by(with_reducible repeat first|apply Kd.Qi|apply Kd.Qh|apply Kd.Ql);exact HO_4.out));(case aS=>exact(Qj (by repeat(first|(with_reducible first|exact HB.out|apply Qe|apply Qa|apply Qf)|exact HB.out))));(case aL=>have:=LMc4.out;omega);intro v321 w5 ho hb hg hat;rw[← Ny320.out] at ho;have n0_:=Aside0.mk (hb);have n1_:=Aside0.mk (ho);clear HB;clear HO_4;have HB:=n0_;have HO322:=n1_;clear n0_ n1_;clear ho hb hg hat))
     go_roundg k1
     case measure=>have:=HK1.out;omega
     case rel=>exact⟨(IntKind.u64.wrap (Int.tdiv x3_1 128)),(y320),qR,H',⟨by have:=HK1.out;omega⟩,⟨by(with_reducible repeat first|apply Kd.Qi|apply Kd.Qh|apply Kd.Ql);exact HO322.out⟩,⟨by repeat(first|(with_reducible first|exact HB.out|apply Qe|apply Qa|apply Qf)|exact HB.out)⟩⟩
    ·rw[if_neg c4] at H
     exact absurd H (by simp)
   ·rw[if_neg c3] at H
    have c3b0:decide (128≤x3_1)=false:=decide_eq_false c3
    clear c3
    by_cases c6:x4_1.length<140737488355328
    ·rw[if_pos c6] at H
     have LMc6:=Aside0.mk c6
     clear c6
     obtain⟨y323,hy323⟩:∃ y_:List Int,y_=(x4_1 ++ [(x3_1) % 256]):=⟨_,rfl⟩
     replace H:(some y323)=some r:=by first|(rw[hy323];with_reducible exact H)|(have H2_:=(Option.bind_some _ _).symm.trans H;rw[hy323];with_reducible exact H2_)|(have H2_:=(Option.bind_some _ _).symm.trans H;with_reducible exact H2_)|with_reducible exact H|(rw[hy323];exact H)|exact H
     have Ny323:=Aside0.mk hy323
     clear hy323
     obtain rfl:=Option.some.inj H
     go_wp2_with (first|((with_reducible refine Zs (b:=.append) (xs:=#[.tmp 18,.tmp 21]) rfl ?_);at_builtin;refine Kd.Kf (Kd.int .u8) (w0:=w) w.heap.size rfl (.tmp 18) (.tmp 21) 22 5 (.int .u8 0) 1 rfl Tryd.underlying22 Zx rfl (by decide) (by omega) u4 x4_1 ((x3_1) % 256) [.int .u8 ((x3_1) % 256)] (fun _=>True) (fun _=>False) rfl rfl ?aP (fun _ hk=>hk.elim) ?aF ?aO ?aB ?aS ?aL ?_;(case aP=>exact rfl);(case aB=>exact(by repeat(first|(with_reducible first|exact HB.out|apply Qe|apply Qa|apply Qf)|exact HB.out)));(case aF=>exact(fun _ _=>trivial));(case aO=>exact(by(with_reducible repeat first|apply Kd.Qi|apply Kd.Qh|apply Kd.Ql);exact HO_4.out));(case aS=>exact(Qj (by repeat(first|(with_reducible first|exact HB.out|apply Qe|apply Qa|apply Qf)|exact HB.out))));(case aL=>have:=LMc6.out;omega);intro v324 w7 ho hb hg hat;rw[← Ny323.out] at ho;have n0_:=Aside0.mk (hb);have n1_:=Aside0.mk (ho);clear HB;clear HO_4;have HB:=n0_;have HO325:=n1_;clear n0_ n1_;clear ho hb hg hat))
     go_ret
     exact⟨_,by first|rfl|(simp[Qo,Qn] <;> rfl)|(simp[*,Qo,Qn] <;> rfl),by(with_reducible repeat first|apply Kd.Qi|apply Kd.Qh|apply Kd.Ql);exact HO325.out,by repeat(first|(with_reducible first|exact HB.out|apply Qe|apply Qa|apply Qf)|exact HB.out)⟩
    ·rw[if_neg c6] at H
     exact absurd H (by simp)
def newelref08_Row.l0:Nat→List Int→List Int→Int→Option (List Int)
 |0,_,_,_=>none
 |k+1,x0,x3,x4=>if x4<(x0.length:Int) then (if 0≤x4 then ((newelref08_Put.f k (rd x0 x4)).bind fun t330=>(if x3.length+t330.length<140737488355328 then (newelref08_Row.l0 k x0 (x3++t330) (wrap64 (x4+1))) else (none))) else (none)) else (some x3)
def newelref08_Row.f (k:Nat) (l0:List Int):Option (List Int):=(newelref08_Put.f k (l0.length:Int)).bind fun t326=>(newelref08_Row.l0 k l0 t326 0)
theorem newelref08_Row.Zl:∀ k,(∀ y0 y1 y2,LeO (newelref08_Row.l0 k y0 y1 y2) (newelref08_Row.l0 (k+1) y0 y1 y2))
 |0=>fun _ _ _ r h=>by simp[newelref08_Row.l0] at h
 |k+1=>by
  have ih0:=newelref08_Row.Zl k
  ·intro y0 y1 y2
   unfold newelref08_Row.l0
   repeat' first
   |(with_reducible exact ih0 _ _ _)
   |(with_reducible exact newelref08_Put.mono _ _)
   |(with_reducible exact LeO.refl _)
   |(with_reducible exact LeO.none _)
   |(with_reducible refine LeO.ite ?_ ?_)
   |(with_reducible refine LeO.bind ?_ (fun _=>?_))
   |exact ih0 _ _ _
   |exact newelref08_Put.mono _ _
   |exact LeO.none _
   |refine LeO.ite ?_ ?_
   |refine LeO.bind ?_ (fun _=>?_)
theorem newelref08_Row.mono:∀ a0 k,LeO (newelref08_Row.f k a0) (newelref08_Row.f (k+1) a0):=by
 intro a0 k
 have ih0:=newelref08_Row.Zl k
 unfold newelref08_Row.f
 repeat' first
   |(with_reducible exact ih0 _ _ _)
   |(with_reducible exact newelref08_Put.mono _ _)
   |(with_reducible exact LeO.refl _)
   |(with_reducible exact LeO.none _)
   |(with_reducible refine LeO.ite ?_ ?_)
   |(with_reducible refine LeO.bind ?_ (fun _=>?_))
   |exact ih0 _ _ _
   |exact newelref08_Put.mono _ _
   |exact LeO.none _
   |refine LeO.ite ?_ ?_
   |refine LeO.bind ?_ (fun _=>?_)
set_option maxHeartbeats 8000000 in
set_option maxRecDepth 100000 in
theorem newelref08_Row.calls (k:Nat) (A0:Option Addr) (c0:Nat) (l0:List Int) (r:List Int) (w:World) (hr0:Kd.C (Kd.int .i64) w A0 l0.length l0) (hc0:l0.length≤c0) (h:newelref08_Row.f k l0=some r):
  Calls Tryd.prog 35 #[.slice A0 l0.length c0] w fun e w'=>∃ v0_:Value,e = .returned (v0_)∧Kd.R (Kd.int .u8) 5 w' w.heap.size (fun _=>True) v0_ r∧Below w.heap.size w w':=by
 have HR0:=Aside0.mk hr0
 have HC0:=Aside0.mk hc0
 clear hr0 hc0
 have HB:=Aside0.mk (Below.refl w.heap.size w)
 have H:((newelref08_Put.f k (l0.length:Int)).bind fun t326=>(newelref08_Row.l0 k l0 t326 0))=some r:=h
 clear h
 replace H:=Option.bind_eq_some_iff.mp H
 obtain⟨t326,A20,H⟩:=H
 replace H:(newelref08_Row.l0 k l0 t326 0)=some r:=H
 have A2:=Aside0.mk A20
 clear A20
 have H':=Aside0.mk H
 clear H
 go_enter Tryd.func35,Tryd.ntmps35
 go_wp2_with (first|((with_reducible refine Qv (f:=36) rfl ?_);refine Ze (some 7) rfl rfl Tryd.func36 kr rfl #[.int .i64 (l0.length:Int)] rfl (by(try simp only[List.map_toArray,List.map_cons,List.map_nil]);first|done|rfl|(simp only[List.length_drop,List.length_take];rfl)) ?_;(with_reducible refine(newelref08_Put.calls k (l0.length:Int) t326 _ A2.out).mono ?_);rintro e w3 ⟨v327,rfl,ho0,hb⟩;refine⟨_,rfl, ?_⟩;have n0_:=Aside0.mk (Kd.Zd ho0 (Qj (by repeat(first|(with_reducible first|exact HB.out|apply Qe|apply Qa|apply Qf)|exact HB.out))));have n1_:=Aside0.mk (Qr (by repeat(first|(with_reducible first|exact HB.out|apply Qe|apply Qa|apply Qf)|exact HB.out)) hb);clear HB;have HO328:=n0_;have HB:=n1_;clear n0_ n1_;(try clear hb);(try clear hb2);(try clear hk);(try clear hi);(try clear ho0)))
 go_loopg [3,4] k (fun kq v3 v4 w'=>∃ (x3_1:List Int) (x4_1:Int),v4 = .int .i64 x4_1∧Aside0 (newelref08_Row.l0 kq l0 x3_1 x4_1=some r)∧Aside0 (kq≤k)∧Aside0 (Kd.R (Kd.int .u8) 5 w' w.heap.size (fun _=>True) v3 x3_1)∧Aside0 (Below w.heap.size w w'))
 case atStart=>exact⟨(t326),(0),qR,H',⟨Nat.le_refl _⟩,⟨by(with_reducible repeat first|apply Kd.Qi|apply Kd.Qh|apply Kd.Ql);exact HO328.out⟩,⟨by repeat(first|(with_reducible first|exact HB.out|apply Qe|apply Qa|apply Qf)|exact HB.out)⟩⟩
 case round=>
  clear H'
  try clear p2
  try clear c3
  obtain⟨x3_1,x4_1,rfl,HA,HK1,HO_3,HB⟩:=hrel
  cases gk with
  |zero=>exact absurd HA.out (by simp[newelref08_Row.l0])
  |succ k1=>
   have H:=HA.out
   clear HA
   simp only[newelref08_Row.l0] at H
   by_cases c4:x4_1<(l0.length:Int)
   ·rw[if_pos c4] at H
    have c4b0:decide (x4_1<(l0.length:Int))=true:=decide_eq_true c4
    clear c4
    by_cases c5:0≤x4_1
    ·rw[if_pos c5] at H
     have c5b0:decide (0≤x4_1)=true:=decide_eq_true c5
     clear c5
     replace H:=Option.bind_eq_some_iff.mp H
     obtain⟨t330,A60,H⟩:=H
     replace H:(if x3_1.length+t330.length<140737488355328 then (newelref08_Row.l0 k1 l0 (x3_1++t330) (wrap64 (x4_1+1))) else (none))=some r:=H
     have A6:=Aside0.mk A60
     clear A60
     by_cases c7:x3_1.length+t330.length<140737488355328
     ·rw[if_pos c7] at H
      have LMc7:=Aside0.mk c7
      clear c7
      obtain⟨y333,hy333⟩:∃ y_:List Int,y_=(x3_1++t330):=⟨_,rfl⟩
      replace H:(newelref08_Row.l0 k1 l0 y333 (wrap64 (x4_1+1)))=some r:=by first|(rw[hy333];with_reducible exact H)|(have H2_:=(Option.bind_some _ _).symm.trans H;rw[hy333];with_reducible exact H2_)|(have H2_:=(Option.bind_some _ _).symm.trans H;with_reducible exact H2_)|with_reducible exact H|(rw[hy333];exact H)|exact H
      have Ny333:=Aside0.mk hy333
      clear hy333
      have H':=Aside0.mk H
      clear H
      have p329:0≤(x4_1:Int):=of_decide_eq_true (by first|(with_reducible assumption)|assumption)
      have q329:x4_1<(l0.length:Int):=of_decide_eq_true (by first|(with_reducible assumption)|assumption)
      obtain⟨ad329,e329,hx329_0⟩:=Kd.Zr HR0.out x4_1 p329 q329
      cases e329
      replace hx329_0:=(HB.out.cell (World.block_lt_of_cell? w _ hx329_0)).trans hx329_0
      replace p329:=eq_true p329
      replace q329:=eq_true q329
      go_wp2_with (first|((with_reducible refine Qv (f:=36) rfl ?_);refine Ze (some 19) rfl rfl Tryd.func36 kr rfl #[.int .i64 (rd l0 x4_1)] rfl (by(try simp only[List.map_toArray,List.map_cons,List.map_nil]);first|done|rfl|(simp only[List.length_drop,List.length_take];rfl)) ?_;(with_reducible refine(newelref08_Put.calls k1 (rd l0 x4_1) t330 _ A6.out).mono ?_);rintro e w8 ⟨v331,rfl,ho0,hb⟩;refine⟨_,rfl, ?_⟩;have n0_:=Aside0.mk (Kd.Zj (by(with_reducible repeat first|apply Kd.Qi|apply Kd.Qh|apply Kd.Ql);exact HO_3.out) (Kd.Q5 ho0) hb);have n1_:=Aside0.mk (Kd.Zd (Kd.Zi ho0 (Kd.Zp (by(with_reducible repeat first|apply Kd.Qi|apply Kd.Qh|apply Kd.Ql);exact HO_3.out))) (Qj (by repeat(first|(with_reducible first|exact HB.out|apply Qe|apply Qa|apply Qf)|exact HB.out))));have n2_:=Aside0.mk (Qr (by repeat(first|(with_reducible first|exact HB.out|apply Qe|apply Qa|apply Qf)|exact HB.out)) hb);clear HO_3;clear HB;have HO_3:=n0_;have HO332:=n1_;have HB:=n2_;clear n0_ n1_ n2_;(try clear hb);(try clear hb2);(try clear hk);(try clear hi);(try clear ho0);obtain⟨Ao10,co10,eo10⟩:=Kd.Zf HO332.out;subst eo10)|((with_reducible refine Zs (b:=.append) (xs:=#[.tmp 14,.tmp 19]) rfl ?_);at_builtin;refine Kd.Zz (Kd.int .u8) (w0:=w) w.heap.size rfl (.tmp 14) (.tmp 19) 22 5 (.int .u8 0) 1 rfl Tryd.underlying22 Zx rfl (by decide) (by omega) u3 x3_1 t330 _ _ _ (fun k_=>some k_≠(.slice Ao10 t330.length co10:Value).ownBlock) (fun _=>False) rfl rfl ?aO ?aR (fun _ _ h=>h) (fun _ h=>h.elim) ?aF ?aB ?aS ?aL ?_;(case aR=>repeat(first|exact(Kd.Q4 HO332.out).2.2|(with_reducible refine Kd.Zc ?_ _)|(with_reducible refine Kd.Za ?_ _)|(with_reducible refine Kd.Zh ?_)));(case aB=>exact(by repeat(first|(with_reducible first|exact HB.out|apply Qe|apply Qa|apply Qf)|exact HB.out)));(case aF=>exact(fun k_ hk=>Kd.fresh' (Kd.Zp (by(with_reducible repeat first|apply Kd.Qi|apply Kd.Qh|apply Kd.Ql);exact HO332.out)) k_ hk));(case aO=>exact(by(with_reducible repeat first|apply Kd.Qi|apply Kd.Qh|apply Kd.Ql);exact Kd.Qu HO_3.out (fun _ hk=>hk.2)));(case aS=>exact(Qj (by repeat(first|(with_reducible first|exact HB.out|apply Qe|apply Qa|apply Qf)|exact HB.out))));(case aL=>have:=LMc7.out;omega);intro v334 w9 ho hb hg hat;rw[← Ny333.out] at ho;have n0_:=Aside0.mk (Kd.Ym (ok:=(fun _=>True)) (by(with_reducible repeat first|apply Kd.Qi|apply Kd.Qh|apply Kd.Ql);exact HO332.out) hg hat);have n1_:=Aside0.mk (hb);have n2_:=Aside0.mk (ho);clear HO332;clear HB;clear HO_3;have HO332:=n0_;have HB:=n1_;have HO335:=n2_;clear n0_ n1_ n2_;clear ho hb hg hat))
      go_roundg k1
      case measure=>have:=HK1.out;omega
      case rel=>exact⟨(y333),(wrap64 (x4_1+1)),qR,H',⟨by have:=HK1.out;omega⟩,⟨by(with_reducible repeat first|apply Kd.Qi|apply Kd.Qh|apply Kd.Ql);exact Kd.Qu HO335.out (fun _ hk=>trivial)⟩,⟨by repeat(first|(with_reducible first|exact HB.out|apply Qe|apply Qa|apply Qf)|exact HB.out)⟩⟩
     ·rw[if_neg c7] at H
      exact absurd H (by simp)
    ·rw[if_neg c5] at H
     exact absurd H (by simp)
   ·rw[if_neg c4] at H
    have c4b0:decide (x4_1<(l0.length:Int))=false:=decide_eq_false c4
    clear c4
    obtain rfl:=Option.some.inj H
    go_wp2
    go_ret
    exact⟨_,by first|rfl|(simp[Qo,Qn] <;> rfl)|(simp[*,Qo,Qn] <;> rfl),by(with_reducible repeat first|apply Kd.Qi|apply Kd.Qh|apply Kd.Ql);exact HO_3.out,by repeat(first|(with_reducible first|exact HB.out|apply Qe|apply Qa|apply Qf)|exact HB.out)⟩
def newelref09_bit.f (a0:Int) (a1:Bool):Option (Int):=if ((decide (a0≥32768)) != a1)=true then (some (Go.bits .xor .i64 (Int.tmod (wrap64 (a0 * 2)) 65536) 4129)) else (some (Int.tmod (wrap64 (a0 * 2)) 65536))
set_option maxHeartbeats 8000000 in
set_option maxRecDepth 100000 in
theorem newelref09_bit.calls (a0:Int) (a1:Bool) (r:Int) (w:World) (h:newelref09_bit.f a0 a1=some r):
  Calls Tryd.prog 48 #[.int .i64 a0,.bool a1] w fun e w'=>e = .returned (.int .i64 r)∧Drawn0 w w':=by
 have H:(if ((decide (a0≥32768)) != a1)=true then (some (Go.bits .xor .i64 (Int.tmod (wrap64 (a0 * 2)) 65536) 4129)) else (some (Int.tmod (wrap64 (a0 * 2)) 65536)))=some r:=h
 clear h
 by_cases c3:((decide (a0≥32768)) != a1)=true
 ·rw[if_pos c3] at H
  have c3b0:((decide (a0≥32768)) != a1)=true:=c3
  (try(have c3b1:decide ((decide (a0≥32768))=a1)=false:=by simpa using c3))
  (try(have c3b2:((decide (a0≥32768))==a1)=false:=by simpa using c3))
  (try(have c3b3:¬ ((decide (a0≥32768))=a1):=by simpa using c3))
  clear c3
  obtain rfl:=Option.some.inj H
  go_enter Tryd.func48,Tryd.ntmps48
  go_wp2
  go_ret
  exact⟨qR,by repeat(first|exact Drawn0.refl _|apply Drawn0.step)⟩
 ·rw[if_neg c3] at H
  have c3b0:((decide (a0≥32768)) != a1)=false:=by simpa using c3
  (try(have c3b1:decide ((decide (a0≥32768))=a1)=true:=by simpa using c3))
  (try(have c3b2:((decide (a0≥32768))==a1)=true:=by simpa using c3))
  clear c3
  obtain rfl:=Option.some.inj H
  go_enter Tryd.func48,Tryd.ntmps48
  go_wp2
  go_ret
  exact⟨qR,by repeat(first|exact Drawn0.refl _|apply Drawn0.step)⟩
mutual
def newelref09_More.l0:Nat→List Int→Int→Int→Option (Int)
 |0,_,_,_=>none
 |k+1,x1,x5,x6=>if x6<(x1.length:Int) then (newelref09_More.l1 k x1 x5 x6 7) else (some x5)
def newelref09_More.l1:Nat→List Int→Int→Int→Int→Option (Int)
 |0,_,_,_,_=>none
 |k+1,x1,x5,x6,x7=>if x7≥0 then (if 0≤x6 then (if x6<(x1.length:Int) then (if 0≤(IntKind.u64.wrap (x7)) then ((newelref09_bit.f x5 ((Int.tmod (shr .u8 (rd x1 x6) (IntKind.u64.wrap (x7))) 2)==1)).bind fun t262=>(newelref09_More.l1 k x1 t262 x6 (wrap64 (x7-1)))) else (none)) else (none)) else (none)) else (newelref09_More.l0 k x1 x5 (wrap64 (x6+1)))
end
def newelref09_More.f (k:Nat) (a0:Int) (l1:List Int):Option (Int):=newelref09_More.l0 k l1 (Go.bits .and .i64 a0 65535) 0
theorem newelref09_More.Zl:∀ k,(∀ y0 y1 y2,LeO (newelref09_More.l0 k y0 y1 y2) (newelref09_More.l0 (k+1) y0 y1 y2))∧(∀ y0 y1 y2 y3,LeO (newelref09_More.l1 k y0 y1 y2 y3) (newelref09_More.l1 (k+1) y0 y1 y2 y3))
 |0=>⟨fun _ _ _ r h=>by simp[newelref09_More.l0] at h,fun _ _ _ _ r h=>by simp[newelref09_More.l1] at h⟩
 |k+1=>by
  obtain⟨ih0,ih1⟩:=newelref09_More.Zl k
  refine⟨?_, ?_⟩
  ·intro y0 y1 y2
   unfold newelref09_More.l0
   repeat' first
   |(with_reducible exact ih0 _ _ _)
   |(with_reducible exact ih1 _ _ _ _)
   |(with_reducible exact LeO.refl _)
   |(with_reducible exact LeO.none _)
   |(with_reducible refine LeO.ite ?_ ?_)
   |(with_reducible refine LeO.bind ?_ (fun _=>?_))
   |exact ih0 _ _ _
   |exact ih1 _ _ _ _
   |exact LeO.none _
   |refine LeO.ite ?_ ?_
   |refine LeO.bind ?_ (fun _=>?_)
  ·intro y0 y1 y2 y3
   unfold newelref09_More.l1
   repeat' first
   |(with_reducible exact ih0 _ _ _)
   |(with_reducible exact ih1 _ _ _ _)
   |(with_reducible exact LeO.refl _)
   |(with_reducible exact LeO.none _)
   |(with_reducible refine LeO.ite ?_ ?_)
   |(with_reducible refine LeO.bind ?_ (fun _=>?_))
   |exact ih0 _ _ _
   |exact ih1 _ _ _ _
   |exact LeO.none _
   |refine LeO.ite ?_ ?_
   |refine LeO.bind ?_ (fun _=>?_)
theorem newelref09_More.mono:∀ a0 a1 k,LeO (newelref09_More.f k a0 a1) (newelref09_More.f (k+1) a0 a1):=by
 intro a0 a1 k
 obtain⟨ih0,ih1⟩:=newelref09_More.Zl k
 unfold newelref09_More.f
 repeat' first
   |(with_reducible exact ih0 _ _ _)
   |(with_reducible exact ih1 _ _ _ _)
   |(with_reducible exact LeO.refl _)
   |(with_reducible exact LeO.none _)
   |(with_reducible refine LeO.ite ?_ ?_)
   |(with_reducible refine LeO.bind ?_ (fun _=>?_))
   |exact ih0 _ _ _
   |exact ih1 _ _ _ _
   |exact LeO.none _
   |refine LeO.ite ?_ ?_
   |refine LeO.bind ?_ (fun _=>?_)
set_option maxHeartbeats 8000000 in
set_option maxRecDepth 100000 in
theorem newelref09_More.calls (k:Nat) (a0:Int) (A1:Option Addr) (c1:Nat) (l1:List Int) (r:Int) (w:World) (hr1:Kd.C (Kd.int .u8) w A1 l1.length l1) (hc1:l1.length≤c1) (h:newelref09_More.f k a0 l1=some r):
  Calls Tryd.prog 45 #[.int .i64 a0,.slice A1 l1.length c1] w fun e w'=>e = .returned (.int .i64 r)∧Drawn0 w w':=by
 have HR1:=Aside0.mk hr1
 have HC1:=Aside0.mk hc1
 clear hr1 hc1
 have H:(newelref09_More.l0 k l1 (Go.bits .and .i64 a0 65535) 0)=some r:=h
 clear h
 have H':=Aside0.mk H
 clear H
 go_enter Tryd.func45,Tryd.ntmps45
 go_wp2
 go_loopg [5,6] k (fun kq v5 v6 w'=>∃ (x5_1:Int) (x6_1:Int),v5 = .int .i64 x5_1∧v6 = .int .i64 x6_1∧Aside0 (newelref09_More.l0 kq l1 x5_1 x6_1=some r)∧Aside0 (kq≤k)∧Drawn0 w w')
 case atStart=>exact⟨(Go.bits .and .i64 a0 65535),(0),qR,qR,H',⟨Nat.le_refl _⟩,by repeat(first|exact Drawn0.refl _|apply Drawn0.step)⟩
 case round=>
  clear H'
  try clear c1
  try clear p2
  obtain⟨x5_1,x6_1,rfl,rfl,HA,HK1,⟨m1,rfl⟩⟩:=hrel
  cases gk with
  |zero=>exact absurd HA.out (by simp[newelref09_More.l0])
  |succ k1=>
   have H:=HA.out
   clear HA
   simp only[newelref09_More.l0] at H
   by_cases c3:x6_1<(l1.length:Int)
   ·rw[if_pos c3] at H
    have c3b0:decide (x6_1<(l1.length:Int))=true:=decide_eq_true c3
    clear c3
    have H':=Aside0.mk H
    clear H
    go_wp2
    go_loopg [5,7] k1 (fun kq v5 v7 w'=>∃ (x5_2:Int) (x7_2:Int),v5 = .int .i64 x5_2∧v7 = .int .i64 x7_2∧Aside0 (newelref09_More.l1 kq l1 x5_2 x6_1 x7_2=some r)∧Aside0 (kq≤k1)∧Drawn0 w w')
    case atStart=>exact⟨(x5_1),(7),qR,qR,H',⟨Nat.le_refl _⟩,by repeat(first|exact Drawn0.refl _|apply Drawn0.step)⟩
    case round=>
     clear H'
     try clear c1
     try clear p2
     try clear c3
     try clear c3b0
     try clear p2
     obtain⟨x5_2,x7_2,rfl,rfl,HA,HK2,⟨m2,rfl⟩⟩:=hrel
     cases gk with
     |zero=>exact absurd HA.out (by simp[newelref09_More.l1])
     |succ k2=>
      have H:=HA.out
      clear HA
      simp only[newelref09_More.l1] at H
      by_cases c4:x7_2≥0
      ·rw[if_pos c4] at H
       have c4b0:decide (0≤x7_2)=true:=decide_eq_true c4
       clear c4
       by_cases c5:0≤x6_1
       ·rw[if_pos c5] at H
        have c5b0:decide (0≤x6_1)=true:=decide_eq_true c5
        clear c5
        by_cases c6:x6_1<(l1.length:Int)
        ·rw[if_pos c6] at H
         have c6b0:decide (x6_1<(l1.length:Int))=true:=decide_eq_true c6
         clear c6
         obtain⟨ji7,hji7⟩:∃ j_:Int,(IntKind.u64.wrap (x7_2))=j_:=⟨_,rfl⟩
         replace H:(if 0≤(ji7) then ((newelref09_bit.f x5_2 ((Int.tmod (shr .u8 (rd l1 x6_1) (ji7)) 2)==1)).bind fun t262=>(newelref09_More.l1 k2 l1 t262 x6_1 (wrap64 (x7_2-1)))) else (none))=some r:=by first|(rw[hji7] at H;exact H)|(simp only[hji7] at H ⊢;exact H)
         by_cases c8:0≤(ji7)
         ·rw[if_pos c8] at H
          have c8b0:=eq_true c8
          have c8b1:decide (0≤(ji7))=true:=decide_eq_true c8
          clear c8
          obtain⟨ji9,hji9⟩:∃ j_:Int,(shr .u8 (rd l1 x6_1) (ji7))=j_:=⟨_,rfl⟩
          replace H:((newelref09_bit.f x5_2 ((Int.tmod (ji9) 2)==1)).bind fun t262=>(newelref09_More.l1 k2 l1 t262 x6_1 (wrap64 (x7_2-1))))=some r:=by first|(rw[hji9] at H;exact H)|(simp only[hji9] at H ⊢;exact H)
          have hji9_:((rd l1 x6_1) / 2 ^ min (ji7).toNat 8)=ji9:=hji9
          have hji9z:(ji7)≤8→((rd l1 x6_1) / 2 ^ (ji7).toNat)=ji9:=Wy hji9
          replace H:=Option.bind_eq_some_iff.mp H
          obtain⟨t262,A100,H⟩:=H
          replace H:(newelref09_More.l1 k2 l1 t262 x6_1 (wrap64 (x7_2-1)))=some r:=H
          have A10:=Aside0.mk A100
          clear A100
          have H':=Aside0.mk H
          clear H
          have p261:0≤(x6_1:Int):=of_decide_eq_true (by first|(with_reducible assumption)|assumption)
          have q261:x6_1<(l1.length:Int):=of_decide_eq_true (by first|(with_reducible assumption)|assumption)
          obtain⟨ad261,e261,hx261_0⟩:=Kd.Zr HR1.out x6_1 p261 q261
          cases e261
          replace p261:=eq_true p261
          replace q261:=eq_true q261
          go_wp2_with (first|((with_reducible refine Qv (f:=48) rfl ?_);refine Ze (some 30) rfl rfl Tryd.func48 kr rfl #[.int .i64 x5_2,.bool ((Int.tmod (ji9) 2)==1)] rfl (by(try simp only[List.map_toArray,List.map_cons,List.map_nil]);first|done|(simp only[hji9];rfl)|rfl|(simp only[List.length_drop,List.length_take];rfl)) ?_;(with_reducible refine(newelref09_bit.calls x5_2 ((Int.tmod (ji9) 2)==1) t262 _ A10.out).mono ?_);rintro e w' ⟨rfl,⟨nd,rfl⟩⟩;refine⟨_,rfl, ?_⟩))
          go_roundg k2
          case measure=>have:=HK1.out;have:=HK2.out;omega
          case rel=>exact⟨(t262),(wrap64 (x7_2-1)),qR,qR,H',⟨by have:=HK1.out;have:=HK2.out;omega⟩,by repeat(first|exact Drawn0.refl _|apply Drawn0.step)⟩
         ·rw[if_neg c8] at H
          exact absurd H (by simp)
        ·rw[if_neg c6] at H
         exact absurd H (by simp)
       ·rw[if_neg c5] at H
        exact absurd H (by simp)
      ·rw[if_neg c4] at H
       have c4b0:decide (0≤x7_2)=false:=decide_eq_false c4
       clear c4
       have H':=Aside0.mk H
       clear H
       go_wp2
       go_roundg k2
       case measure=>have:=HK1.out;have:=HK2.out;omega
       case rel=>exact⟨(x5_2),(wrap64 (x6_1+1)),qR,qR,H',⟨by have:=HK1.out;have:=HK2.out;omega⟩,by repeat(first|exact Drawn0.refl _|apply Drawn0.step)⟩
   ·rw[if_neg c3] at H
    have c3b0:decide (x6_1<(l1.length:Int))=false:=decide_eq_false c3
    clear c3
    obtain rfl:=Option.some.inj H
    go_wp2
    go_ret
    exact⟨qR,by repeat(first|exact Drawn0.refl _|apply Drawn0.step)⟩
def newelref09_Open.f (k:Nat) (l0:List Int):Option (List Int×Int):=if (l0.length:Int)<2 then (some (([]:List Int),90)) else (if 0≤(wrap64 ((l0.length:Int)-2)) then (if (wrap64 ((l0.length:Int)-2))≤(l0.length:Int) then ((newelref09_More.f k 65535 (l0.take ((wrap64 ((l0.length:Int)-2)):Int).toNat)).bind fun t268=>(if (wrap64 ((l0.length:Int)-2))<(l0.length:Int) then (if (wrap64 (rd l0 (wrap64 ((l0.length:Int)-2))))=(wrap64 (Int.tdiv t268 256)) then (if 0≤(wrap64 ((wrap64 ((l0.length:Int)-2))+1)) then (if (wrap64 ((wrap64 ((l0.length:Int)-2))+1))<(l0.length:Int) then (if (wrap64 (rd l0 (wrap64 ((wrap64 ((l0.length:Int)-2))+1))))=(Int.tmod t268 256) then (some ((l0.take ((wrap64 ((l0.length:Int)-2)):Int).toNat),0)) else (some (([]:List Int),91))) else (none)) else (none)) else (some (([]:List Int),91))) else (none))) else (none)) else (none))
theorem newelref09_Open.mono:∀ a0 k,LeO (newelref09_Open.f k a0) (newelref09_Open.f (k+1) a0):=by
 intro a0 k
 unfold newelref09_Open.f
 repeat' first
   |(with_reducible exact newelref09_More.mono _ _ _)
   |(with_reducible exact LeO.refl _)
   |(with_reducible exact LeO.none _)
   |(with_reducible refine LeO.ite ?_ ?_)
   |(with_reducible refine LeO.bind ?_ (fun _=>?_))
   |exact newelref09_More.mono _ _ _
   |exact LeO.none _
   |refine LeO.ite ?_ ?_
   |refine LeO.bind ?_ (fun _=>?_)
set_option maxHeartbeats 8000000 in
set_option maxRecDepth 100000 in
theorem newelref09_Open.calls (k:Nat) (P0_:Nat→Prop) (A0:Option Addr) (c0:Nat) (l0:List Int) (r1:List Int) (r2:Int) (w:World) (hs0:Kd.V (Kd.int .u8) 5 w w.heap.size (fun k_=>P0_ k_) (.slice A0 l0.length c0) l0) (h:newelref09_Open.f k l0=some (r1,r2)):
  Calls Tryd.prog 40 #[.slice A0 l0.length c0] w fun e w'=>∃ v0_:Value,e = .returned (.tuple #[v0_,.int .i64 r2])∧Kd.V (Kd.int .u8) 5 w' w.heap.size (fun k_=>(P0_ k_∨w.heap.size≤k_)) v0_ r1∧Below w.heap.size w w':=by
 have HO0:=Aside0.mk (show Kd.V (Kd.int .u8) 5 w w.heap.size (fun k_=>(P0_ k_∨w.heap.size≤k_)) (.slice A0 l0.length c0) l0 from Kd.Qt hs0 (fun k_ hk=>.inl hk))
 have HB:=Aside0.mk (Below.refl w.heap.size w)
 have H:(if (l0.length:Int)<2 then (some (([]:List Int),90)) else (if 0≤(wrap64 ((l0.length:Int)-2)) then (if (wrap64 ((l0.length:Int)-2))≤(l0.length:Int) then ((newelref09_More.f k 65535 (l0.take ((wrap64 ((l0.length:Int)-2)):Int).toNat)).bind fun t268=>(if (wrap64 ((l0.length:Int)-2))<(l0.length:Int) then (if (wrap64 (rd l0 (wrap64 ((l0.length:Int)-2))))=(wrap64 (Int.tdiv t268 256)) then (if 0≤(wrap64 ((wrap64 ((l0.length:Int)-2))+1)) then (if (wrap64 ((wrap64 ((l0.length:Int)-2))+1))<(l0.length:Int) then (if (wrap64 (rd l0 (wrap64 ((wrap64 ((l0.length:Int)-2))+1))))=(Int.tmod t268 256) then (some ((l0.take ((wrap64 ((l0.length:Int)-2)):Int).toNat),0)) else (some (([]:List Int),91))) else (none)) else (none)) else (some (([]:List Int),91))) else (none))) else (none)) else (none)))=some (r1,r2):=h
 clear h
 by_cases c2:(l0.length:Int)<2
 ·rw[if_pos c2] at H
  have c2b0:decide ((l0.length:Int)<2)=true:=decide_eq_true c2
  have c2b1:decide (l0.length<2)=true:=decide_eq_true (by omega)
  clear c2
  simp only[Option.some.injEq,Prod.mk.injEq] at H
  obtain⟨rfl,rfl⟩:=H
  go_enter Tryd.func40,Tryd.ntmps40
  go_wp2
  go_ret2
  refine⟨.slice none 0 0,by first|rfl|(simp[Qo,Qn] <;> rfl)|(simp[*,Qo,Qn] <;> rfl),Kd.Qt (Kd.R_V (Kd.Z1 _ _ _ w.heap.size _)) (fun k_ hk=>by first|exact⟨(.inr (hk.1)),hk.2⟩|exact(.inr (hk))),by repeat(first|(with_reducible first|exact HB.out|apply Qe|apply Qa|apply Qf)|exact HB.out)⟩
 ·rw[if_neg c2] at H
  have c2b0:decide ((l0.length:Int)<2)=false:=decide_eq_false c2
  have c2b1:decide (l0.length<2)=false:=decide_eq_false (by omega)
  clear c2
  obtain⟨ji3,hji3⟩:∃ j_:Int,(wrap64 ((l0.length:Int)-2))=j_:=⟨_,rfl⟩
  replace H:(if 0≤(ji3) then (if (ji3)≤(l0.length:Int) then ((newelref09_More.f k 65535 (l0.take ((ji3):Int).toNat)).bind fun t268=>(if (ji3)<(l0.length:Int) then (if (wrap64 (rd l0 (ji3)))=(wrap64 (Int.tdiv t268 256)) then (if 0≤(wrap64 ((ji3)+1)) then (if (wrap64 ((ji3)+1))<(l0.length:Int) then (if (wrap64 (rd l0 (wrap64 ((ji3)+1))))=(Int.tmod t268 256) then (some ((l0.take ((ji3):Int).toNat),0)) else (some (([]:List Int),91))) else (none)) else (none)) else (some (([]:List Int),91))) else (none))) else (none)) else (none))=some (r1,r2):=by first|(rw[hji3] at H;exact H)|(simp only[hji3] at H ⊢;exact H)
  have hji3w:(IntKind.i64.wrap ((l0.length:Int)-2))=ji3:=(Zu _).trans hji3
  by_cases c4:0≤(ji3)
  ·rw[if_pos c4] at H
   have c4b0:=eq_true c4
   have c4b1:decide (0≤(ji3))=true:=decide_eq_true c4
   clear c4
   by_cases c5:(ji3)≤(l0.length:Int)
   ·rw[if_pos c5] at H
    have c5b0:=eq_true c5
    have c5b1:decide ((ji3)≤(l0.length:Int))=true:=decide_eq_true c5
    clear c5
    obtain⟨y263,hy263⟩:∃ y_:List Int,y_=(l0.take ((ji3):Int).toNat):=⟨_,rfl⟩
    replace H:((newelref09_More.f k 65535 y263).bind fun t268=>(if (ji3)<(l0.length:Int) then (if (wrap64 (rd l0 (ji3)))=(wrap64 (Int.tdiv t268 256)) then (if 0≤(wrap64 ((ji3)+1)) then (if (wrap64 ((ji3)+1))<(l0.length:Int) then (if (wrap64 (rd l0 (wrap64 ((ji3)+1))))=(Int.tmod t268 256) then (some ((l0.take ((ji3):Int).toNat),0)) else (some (([]:List Int),91))) else (none)) else (none)) else (some (([]:List Int),91))) else (none)))=some (r1,r2):=by first|(rw[hy263];with_reducible exact H)|(have H2_:=(Option.bind_some _ _).symm.trans H;rw[hy263];with_reducible exact H2_)|(have H2_:=(Option.bind_some _ _).symm.trans H;with_reducible exact H2_)|with_reducible exact H|(rw[hy263];exact H)|exact H
    have Ny263:=Aside0.mk hy263
    clear hy263
    replace H:=Option.bind_eq_some_iff.mp H
    obtain⟨t268,A60,H⟩:=H
    replace H:(if (ji3)<(l0.length:Int) then (if (wrap64 (rd l0 (ji3)))=(wrap64 (Int.tdiv t268 256)) then (if 0≤(wrap64 ((ji3)+1)) then (if (wrap64 ((ji3)+1))<(l0.length:Int) then (if (wrap64 (rd l0 (wrap64 ((ji3)+1))))=(Int.tmod t268 256) then (some ((l0.take ((ji3):Int).toNat),0)) else (some (([]:List Int),91))) else (none)) else (none)) else (some (([]:List Int),91))) else (none))=some (r1,r2):=H
    have A6:=Aside0.mk A60
    clear A60
    by_cases c7:(ji3)<(l0.length:Int)
    ·rw[if_pos c7] at H
     have c7b0:decide ((ji3)<(l0.length:Int))=true:=decide_eq_true c7
     clear c7
     by_cases c8:(wrap64 (rd l0 (ji3)))=(wrap64 (Int.tdiv t268 256))
     ·rw[if_pos c8] at H
      have c8b0:((wrap64 (rd l0 (ji3)))==(wrap64 (Int.tdiv t268 256)))=true:=beq_iff_eq.mpr c8
      have c8b1:((wrap64 (rd l0 (ji3))) != (wrap64 (Int.tdiv t268 256)))=false:=bne_eq_false_iff_eq.mpr c8
      clear c8
      obtain⟨ji9,hji9⟩:∃ j_:Int,(wrap64 ((ji3)+1))=j_:=⟨_,rfl⟩
      replace H:(if 0≤(ji9) then (if (ji9)<(l0.length:Int) then (if (wrap64 (rd l0 (ji9)))=(Int.tmod t268 256) then (some ((l0.take ((ji3):Int).toNat),0)) else (some (([]:List Int),91))) else (none)) else (none))=some (r1,r2):=by first|(rw[hji9] at H;exact H)|(simp only[hji9] at H ⊢;exact H)
      (try rw[hji9] at A6)
      have hji9w:(IntKind.i64.wrap ((ji3)+1))=ji9:=(Zu _).trans hji9
      by_cases c10:0≤(ji9)
      ·rw[if_pos c10] at H
       have c10b0:decide (0≤(ji9))=true:=decide_eq_true c10
       clear c10
       by_cases c11:(ji9)<(l0.length:Int)
       ·rw[if_pos c11] at H
        have c11b0:decide ((ji9)<(l0.length:Int))=true:=decide_eq_true c11
        clear c11
        by_cases c12:(wrap64 (rd l0 (ji9)))=(Int.tmod t268 256)
        ·rw[if_pos c12] at H
         have c12b0:((wrap64 (rd l0 (ji9)))==(Int.tmod t268 256))=true:=beq_iff_eq.mpr c12
         have c12b1:((wrap64 (rd l0 (ji9))) != (Int.tmod t268 256))=false:=bne_eq_false_iff_eq.mpr c12
         clear c12
         have c13b0:=eq_true (of_decide_eq_true (by first|(with_reducible assumption)|assumption):0≤(ji3))
         have c14b0:=eq_true (of_decide_eq_true (by first|(with_reducible assumption)|assumption):(ji3)≤(l0.length:Int))
         obtain⟨y271,hy271⟩:∃ y_:List Int,y_=(l0.take ((ji3):Int).toNat):=⟨_,rfl⟩
         replace H:(some (y271,0))=some (r1,r2):=by first|(rw[hy271];with_reducible exact H)|(have H2_:=(Option.bind_some _ _).symm.trans H;rw[hy271];with_reducible exact H2_)|(have H2_:=(Option.bind_some _ _).symm.trans H;with_reducible exact H2_)|with_reducible exact H|(rw[hy271];exact H)|exact H
         have Ny271:=Aside0.mk hy271
         clear hy271
         simp only[Option.some.injEq,Prod.mk.injEq] at H
         obtain⟨rfl,rfl⟩:=H
         have q15:((ji3):Int)≤((l0.length:Int):Int):=of_decide_eq_true (by first|(with_reducible assumption)|assumption)
         obtain⟨i015,hi015,_,hsz15,_⟩:=info_parts Zx
         have hroom15:l0.length≤c0:=(Kd.Zm HO0.out).2.1
         have hC15:Kd.F (Kd.int .u8) _ _ A0 l0.length l0:=(Kd.Ul (base:=w.heap.size) HO0.out).2.2
         have hcut15:=Yr (P:=Tryd.prog) 22 5 .i64 Tryd.underlying22 hi015 A0 l0.length c0 (ji3) (of_decide_eq_true (by first|(with_reducible assumption)|assumption)) q15 hroom15
         have hr15:=Kd.Vp (m:=((ji3):Int).toNat) hC15 (by omega)
         have hy15:y263.length=((ji3):Int).toNat:=(by rw[Ny263.out,List.length_take];omega)
         rw[← Ny263.out] at hr15
         rw[← hy15] at hcut15
         have HO267:=Aside0.mk (show Kd.V (Kd.int .u8) 5 _ w.heap.size _ (.slice A0 y263.length c0) y263 from Kd.Vn (by omega) hr15)
         have HC267:=Aside0.mk (show y263.length≤c0 from by omega)
         clear hr15 hC15 hroom15 hi015 hsz15
         have KY15:=Aside0.mk hy15
         clear hy15
         replace q15:=eq_true q15
         go_enter Tryd.func40,Tryd.ntmps40
         go_wp2_with (first|((with_reducible refine Qv (f:=45) rfl ?_);refine Ze (some 15) rfl rfl Tryd.func45 kr rfl #[.int .i64 65535,.slice A0 y263.length c0] rfl (by(try simp only[List.map_toArray,List.map_cons,List.map_nil]);first|done|rfl|(simp only[List.length_drop,List.length_take];rfl)) ?_;(with_reducible refine(newelref09_More.calls k 65535 _ _ y263 t268 _ ?side1 ?side2 A6.out).mono ?_);(case side1=>repeat(first|exact(Kd.Zm HO267.out).2.2|(with_reducible refine Kd.Zc ?_ _)|(with_reducible refine Kd.Za ?_ _)|(with_reducible refine Kd.Zh ?_)));(case side2=>exact(Kd.Zm HO267.out).2.1);rintro e w' ⟨rfl,⟨nd,rfl⟩⟩;refine⟨_,rfl, ?_⟩;have p269:0≤((ji3):Int):=of_decide_eq_true (by first|(with_reducible assumption)|assumption);have q269:(ji3)<(l0.length:Int):=of_decide_eq_true (by first|(with_reducible assumption)|assumption);obtain⟨ad269,e269,hx269_0⟩:=Kd.Zr (Kd.Zm HO0.out).2.2 (ji3) p269 q269;cases e269;replace p269:=eq_true p269;replace q269:=eq_true q269;have p270:0≤((ji9):Int):=of_decide_eq_true (by first|(with_reducible assumption)|assumption);have q270:(ji9)<(l0.length:Int):=of_decide_eq_true (by first|(with_reducible assumption)|assumption);obtain⟨ad270,e270,hx270_0⟩:=Kd.Zr (Kd.Zm HO0.out).2.2 (ji9) p270 q270;obtain rfl:ad269=ad270:=(by injection e270);replace p270:=eq_true p270;replace q270:=eq_true q270;have q16:((ji3):Int)≤((l0.length:Int):Int):=of_decide_eq_true (by first|(with_reducible assumption)|assumption);obtain⟨i016,hi016,_,hsz16,_⟩:=info_parts Zx;have hroom16:l0.length≤c0:=(Kd.Zm HO0.out).2.1;have hC16:Kd.F (Kd.int .u8) _ _ (some ad269) l0.length l0:=(Kd.Ul (base:=w.heap.size) HO0.out).2.2;have hcut16:=Yr (P:=Tryd.prog) 22 5 .i64 Tryd.underlying22 hi016 (some ad269) l0.length c0 (ji3) (of_decide_eq_true (by first|(with_reducible assumption)|assumption)) q16 hroom16;have hr16:=Kd.Vp (m:=((ji3):Int).toNat) hC16 (by omega);have hy16:y271.length=((ji3):Int).toNat:=(by rw[Ny271.out,List.length_take];omega);rw[← Ny271.out] at hr16;rw[← hy16] at hcut16;have HO275:=Aside0.mk (show Kd.V (Kd.int .u8) 5 _ w.heap.size _ (.slice (some ad269) y271.length c0) y271 from Kd.Vn (by omega) hr16);have HC275:=Aside0.mk (show y271.length≤c0 from by omega);clear hr16 hC16 hroom16 hi016 hsz16;have KY16:=Aside0.mk hy16;clear hy16;replace q16:=eq_true q16))
         go_ret2
         (have e_:=Ny271.out.trans Ny263.out.symm;clear Ny271;subst e_);exact⟨_,by first|rfl|(simp[Qo,Qn] <;> rfl)|(simp only[← hji3,← hji9];first|rfl|(simp[Qo,Qn] <;> rfl))|(simp[*,Qo,Qn] <;> rfl),by(with_reducible repeat first|apply Kd.Qx|apply Kd.Qw|apply Kd.Q0);exact HO275.out,by repeat(first|(with_reducible first|exact HB.out|apply Qe|apply Qa|apply Qf)|exact HB.out)⟩
        ·rw[if_neg c12] at H
         have c12b0:((wrap64 (rd l0 (ji9)))==(Int.tmod t268 256))=false:=beq_eq_false_iff_ne.mpr c12
         have c12b1:((wrap64 (rd l0 (ji9))) != (Int.tmod t268 256))=true:=bne_iff_ne.mpr c12
         simp only[Option.some.injEq,Prod.mk.injEq] at H
         obtain⟨rfl,rfl⟩:=H
         have q17:((ji3):Int)≤((l0.length:Int):Int):=of_decide_eq_true (by first|(with_reducible assumption)|assumption)
         obtain⟨i017,hi017,_,hsz17,_⟩:=info_parts Zx
         have hroom17:l0.length≤c0:=(Kd.Zm HO0.out).2.1
         have hC17:Kd.F (Kd.int .u8) _ _ A0 l0.length l0:=(Kd.Ul (base:=w.heap.size) HO0.out).2.2
         have hcut17:=Yr (P:=Tryd.prog) 22 5 .i64 Tryd.underlying22 hi017 A0 l0.length c0 (ji3) (of_decide_eq_true (by first|(with_reducible assumption)|assumption)) q17 hroom17
         have hr17:=Kd.Vp (m:=((ji3):Int).toNat) hC17 (by omega)
         have hy17:y263.length=((ji3):Int).toNat:=(by rw[Ny263.out,List.length_take];omega)
         rw[← Ny263.out] at hr17
         rw[← hy17] at hcut17
         have HO267:=Aside0.mk (show Kd.V (Kd.int .u8) 5 _ w.heap.size _ (.slice A0 y263.length c0) y263 from Kd.Vn (by omega) hr17)
         have HC267:=Aside0.mk (show y263.length≤c0 from by omega)
         clear hr17 hC17 hroom17 hi017 hsz17
         have KY17:=Aside0.mk hy17
         clear hy17
         replace q17:=eq_true q17
         go_enter Tryd.func40,Tryd.ntmps40
         go_wp2_with (first|((with_reducible refine Qv (f:=45) rfl ?_);refine Ze (some 15) rfl rfl Tryd.func45 kr rfl #[.int .i64 65535,.slice A0 y263.length c0] rfl (by(try simp only[List.map_toArray,List.map_cons,List.map_nil]);first|done|rfl|(simp only[List.length_drop,List.length_take];rfl)) ?_;(with_reducible refine(newelref09_More.calls k 65535 _ _ y263 t268 _ ?side1 ?side2 A6.out).mono ?_);(case side1=>repeat(first|exact(Kd.Zm HO267.out).2.2|(with_reducible refine Kd.Zc ?_ _)|(with_reducible refine Kd.Za ?_ _)|(with_reducible refine Kd.Zh ?_)));(case side2=>exact(Kd.Zm HO267.out).2.1);rintro e w' ⟨rfl,⟨nd,rfl⟩⟩;refine⟨_,rfl, ?_⟩;have p269:0≤((ji3):Int):=of_decide_eq_true (by first|(with_reducible assumption)|assumption);have q269:(ji3)<(l0.length:Int):=of_decide_eq_true (by first|(with_reducible assumption)|assumption);obtain⟨ad269,e269,hx269_0⟩:=Kd.Zr (Kd.Zm HO0.out).2.2 (ji3) p269 q269;cases e269;replace p269:=eq_true p269;replace q269:=eq_true q269;have p270:0≤((ji9):Int):=of_decide_eq_true (by first|(with_reducible assumption)|assumption);have q270:(ji9)<(l0.length:Int):=of_decide_eq_true (by first|(with_reducible assumption)|assumption);obtain⟨ad270,e270,hx270_0⟩:=Kd.Zr (Kd.Zm HO0.out).2.2 (ji9) p270 q270;obtain rfl:ad269=ad270:=(by injection e270);replace p270:=eq_true p270;replace q270:=eq_true q270))
         go_ret2
         refine⟨.slice none 0 0,by first|rfl|(simp[Qo,Qn] <;> rfl)|(simp only[← hji3,← hji9];first|rfl|(simp[Qo,Qn] <;> rfl))|(simp[*,Qo,Qn] <;> rfl),Kd.Qt (Kd.R_V (Kd.Z1 _ _ _ w.heap.size _)) (fun k_ hk=>by first|exact⟨(.inr (hk.1)),hk.2⟩|exact(.inr (hk))),by repeat(first|(with_reducible first|exact HB.out|apply Qe|apply Qa|apply Qf)|exact HB.out)⟩
       ·rw[if_neg c11] at H
        exact absurd H (by simp)
      ·rw[if_neg c10] at H
       exact absurd H (by simp)
     ·rw[if_neg c8] at H
      have c8b0:((wrap64 (rd l0 (ji3)))==(wrap64 (Int.tdiv t268 256)))=false:=beq_eq_false_iff_ne.mpr c8
      have c8b1:((wrap64 (rd l0 (ji3))) != (wrap64 (Int.tdiv t268 256)))=true:=bne_iff_ne.mpr c8
      simp only[Option.some.injEq,Prod.mk.injEq] at H
      obtain⟨rfl,rfl⟩:=H
      have q18:((ji3):Int)≤((l0.length:Int):Int):=of_decide_eq_true (by first|(with_reducible assumption)|assumption)
      obtain⟨i018,hi018,_,hsz18,_⟩:=info_parts Zx
      have hroom18:l0.length≤c0:=(Kd.Zm HO0.out).2.1
      have hC18:Kd.F (Kd.int .u8) _ _ A0 l0.length l0:=(Kd.Ul (base:=w.heap.size) HO0.out).2.2
      have hcut18:=Yr (P:=Tryd.prog) 22 5 .i64 Tryd.underlying22 hi018 A0 l0.length c0 (ji3) (of_decide_eq_true (by first|(with_reducible assumption)|assumption)) q18 hroom18
      have hr18:=Kd.Vp (m:=((ji3):Int).toNat) hC18 (by omega)
      have hy18:y263.length=((ji3):Int).toNat:=(by rw[Ny263.out,List.length_take];omega)
      rw[← Ny263.out] at hr18
      rw[← hy18] at hcut18
      have HO267:=Aside0.mk (show Kd.V (Kd.int .u8) 5 _ w.heap.size _ (.slice A0 y263.length c0) y263 from Kd.Vn (by omega) hr18)
      have HC267:=Aside0.mk (show y263.length≤c0 from by omega)
      clear hr18 hC18 hroom18 hi018 hsz18
      have KY18:=Aside0.mk hy18
      clear hy18
      replace q18:=eq_true q18
      go_enter Tryd.func40,Tryd.ntmps40
      go_wp2_with (first|((with_reducible refine Qv (f:=45) rfl ?_);refine Ze (some 15) rfl rfl Tryd.func45 kr rfl #[.int .i64 65535,.slice A0 y263.length c0] rfl (by(try simp only[List.map_toArray,List.map_cons,List.map_nil]);first|done|rfl|(simp only[List.length_drop,List.length_take];rfl)) ?_;(with_reducible refine(newelref09_More.calls k 65535 _ _ y263 t268 _ ?side1 ?side2 A6.out).mono ?_);(case side1=>repeat(first|exact(Kd.Zm HO267.out).2.2|(with_reducible refine Kd.Zc ?_ _)|(with_reducible refine Kd.Za ?_ _)|(with_reducible refine Kd.Zh ?_)));(case side2=>exact(Kd.Zm HO267.out).2.1);rintro e w' ⟨rfl,⟨nd,rfl⟩⟩;refine⟨_,rfl, ?_⟩;have p269:0≤((ji3):Int):=of_decide_eq_true (by first|(with_reducible assumption)|assumption);have q269:(ji3)<(l0.length:Int):=of_decide_eq_true (by first|(with_reducible assumption)|assumption);obtain⟨ad269,e269,hx269_0⟩:=Kd.Zr (Kd.Zm HO0.out).2.2 (ji3) p269 q269;cases e269;replace p269:=eq_true p269;replace q269:=eq_true q269))
      go_ret2
      refine⟨.slice none 0 0,by first|rfl|(simp[Qo,Qn] <;> rfl)|(simp only[← hji3];first|rfl|(simp[Qo,Qn] <;> rfl))|(simp[*,Qo,Qn] <;> rfl),Kd.Qt (Kd.R_V (Kd.Z1 _ _ _ w.heap.size _)) (fun k_ hk=>by first|exact⟨(.inr (hk.1)),hk.2⟩|exact(.inr (hk))),by repeat(first|(with_reducible first|exact HB.out|apply Qe|apply Qa|apply Qf)|exact HB.out)⟩
    ·rw[if_neg c7] at H
     exact absurd H (by simp)
   ·rw[if_neg c5] at H
    exact absurd H (by simp)
  ·rw[if_neg c4] at H
   exact absurd H (by simp)
def newelref09_Seal.f (k:Nat) (l0:List Int):Option (List Int):=(newelref09_More.f k 65535 l0).bind fun t336=>(if ([]:List Int).length+l0.length<140737488355328 then ((some (([]:List Int)++l0:List Int)).bind fun y337=>((some (([(wrap64 (Int.tdiv t336 256)) % 256,(Int.tmod t336 256) % 256]:List Int):List Int)).bind fun y340=>(if y337.length+y340.length<140737488355328 then (some (y337++y340)) else (none)))) else (none))
theorem newelref09_Seal.mono:∀ a0 k,LeO (newelref09_Seal.f k a0) (newelref09_Seal.f (k+1) a0):=by
 intro a0 k
 unfold newelref09_Seal.f
 repeat' first
   |(with_reducible exact newelref09_More.mono _ _ _)
   |(with_reducible exact LeO.refl _)
   |(with_reducible exact LeO.none _)
   |(with_reducible refine LeO.ite ?_ ?_)
   |(with_reducible refine LeO.bind ?_ (fun _=>?_))
   |exact newelref09_More.mono _ _ _
   |exact LeO.none _
   |refine LeO.ite ?_ ?_
   |refine LeO.bind ?_ (fun _=>?_)
set_option maxHeartbeats 8000000 in
set_option maxRecDepth 100000 in
theorem newelref09_Seal.calls (k:Nat) (A0:Option Addr) (c0:Nat) (l0:List Int) (r:List Int) (w:World) (hr0:Kd.C (Kd.int .u8) w A0 l0.length l0) (hc0:l0.length≤c0) (h:newelref09_Seal.f k l0=some r):
  Calls Tryd.prog 37 #[.slice A0 l0.length c0] w fun e w'=>∃ v0_:Value,e = .returned (v0_)∧Kd.R (Kd.int .u8) 5 w' w.heap.size (fun _=>True) v0_ r∧Below w.heap.size w w':=by
 have HR0:=Aside0.mk hr0
 have HC0:=Aside0.mk hc0
 clear hr0 hc0
 have HB:=Aside0.mk (Below.refl w.heap.size w)
 have H:((newelref09_More.f k 65535 l0).bind fun t336=>(if ([]:List Int).length+l0.length<140737488355328 then ((some (([]:List Int)++l0:List Int)).bind fun y337=>((some (([(wrap64 (Int.tdiv t336 256)) % 256,(Int.tmod t336 256) % 256]:List Int):List Int)).bind fun y340=>(if y337.length+y340.length<140737488355328 then (some (y337++y340)) else (none)))) else (none)))=some r:=h
 clear h
 replace H:=Option.bind_eq_some_iff.mp H
 obtain⟨t336,A20,H⟩:=H
 replace H:(if ([]:List Int).length+l0.length<140737488355328 then ((some (([]:List Int)++l0:List Int)).bind fun y337=>((some (([(wrap64 (Int.tdiv t336 256)) % 256,(Int.tmod t336 256) % 256]:List Int):List Int)).bind fun y340=>(if y337.length+y340.length<140737488355328 then (some (y337++y340)) else (none)))) else (none))=some r:=H
 have A2:=Aside0.mk A20
 clear A20
 by_cases c3:([]:List Int).length+l0.length<140737488355328
 ·rw[if_pos c3] at H
  have LMc3:=Aside0.mk c3
  clear c3
  obtain⟨y337,hy337⟩:∃ y_:List Int,y_=(([]:List Int)++l0):=⟨_,rfl⟩
  replace H:((some (([(wrap64 (Int.tdiv t336 256)) % 256,(Int.tmod t336 256) % 256]:List Int):List Int)).bind fun y340=>(if y337.length+y340.length<140737488355328 then (some (y337++y340)) else (none)))=some r:=by first|(rw[hy337];with_reducible exact H)|(have H2_:=(Option.bind_some _ _).symm.trans H;rw[hy337];with_reducible exact H2_)|(have H2_:=(Option.bind_some _ _).symm.trans H;with_reducible exact H2_)|with_reducible exact H|(rw[hy337];exact H)|exact H
  have Ny337:=Aside0.mk hy337
  clear hy337
  obtain⟨y340,hy340⟩:∃ y_:List Int,y_=(([(wrap64 (Int.tdiv t336 256)) % 256,(Int.tmod t336 256) % 256]:List Int)):=⟨_,rfl⟩
  replace H:(if y337.length+y340.length<140737488355328 then (some (y337++y340)) else (none))=some r:=by first|(rw[hy340];with_reducible exact H)|(have H2_:=(Option.bind_some _ _).symm.trans H;rw[hy340];with_reducible exact H2_)|(have H2_:=(Option.bind_some _ _).symm.trans H;with_reducible exact H2_)|with_reducible exact H|(rw[hy340];exact H)|exact H
  have Ny340:=Aside0.mk hy340
  clear hy340
  by_cases c4:y337.length+y340.length<140737488355328
  ·rw[if_pos c4] at H
   have LMc4:=Aside0.mk c4
   clear c4
   obtain⟨y343,hy343⟩:∃ y_:List Int,y_=(y337++y340):=⟨_,rfl⟩
   replace H:(some y343)=some r:=by first|(rw[hy343];with_reducible exact H)|(have H2_:=(Option.bind_some _ _).symm.trans H;rw[hy343];with_reducible exact H2_)|(have H2_:=(Option.bind_some _ _).symm.trans H;with_reducible exact H2_)|with_reducible exact H|(rw[hy343];exact H)|exact H
   have Ny343:=Aside0.mk hy343
   clear hy343
   obtain rfl:=Option.some.inj H
   go_enter Tryd.func37,Tryd.ntmps37
   go_wp2_with (first|((with_reducible refine Qv (f:=45) rfl ?_);refine Ze (some 6) rfl rfl Tryd.func45 kr rfl #[.int .i64 65535,.slice A0 l0.length c0] rfl (by(try simp only[List.map_toArray,List.map_cons,List.map_nil]);first|done|rfl|(simp only[List.length_drop,List.length_take];rfl)) ?_;(with_reducible refine(newelref09_More.calls k 65535 _ _ l0 t336 _ ?side1 ?side2 A2.out).mono ?_);(case side1=>repeat(first|exact HR0.out|(with_reducible refine Kd.Zc ?_ _)|(with_reducible refine Kd.Za ?_ _)|(with_reducible refine Kd.Zh ?_)));(case side2=>exact HC0.out);rintro e w' ⟨rfl,⟨nd,rfl⟩⟩;refine⟨_,rfl, ?_⟩)|((with_reducible refine Zs (b:=.append) (xs:=#[.tmp 7,.tmp 8]) rfl ?_);at_builtin;refine Kd.Zz (Kd.int .u8) (w0:=w) w.heap.size rfl (.tmp 7) (.tmp 8) 22 5 (.int .u8 0) 1 rfl Tryd.underlying22 Zx rfl (by decide) (by omega) (.slice none 0 0) ([]:List Int) l0 _ _ _ (fun _=>True) (fun _=>False) rfl rfl ?aO ?aR (fun _ _ h=>h) (fun _ h=>h.elim) ?aF ?aB ?aS ?aL ?_;(case aR=>repeat(first|exact HR0.out|(with_reducible refine Kd.Zc ?_ _)|(with_reducible refine Kd.Za ?_ _)|(with_reducible refine Kd.Zh ?_)));(case aB=>exact(by repeat(first|(with_reducible first|exact HB.out|apply Qe|apply Qa|apply Qf)|exact HB.out)));(case aF=>exact(fun _ _=>trivial));(case aO=>exact((Kd.Z1 _ _ _ _ (fun _=>True))));(case aS=>exact(Qj (by repeat(first|(with_reducible first|exact HB.out|apply Qe|apply Qa|apply Qf)|exact HB.out))));(case aL=>have:=LMc3.out;omega);intro v338 w5 ho hb hg hat;rw[← Ny337.out] at ho;have n0_:=Aside0.mk (hb);have n1_:=Aside0.mk (ho);clear HB;have HB:=n0_;have HO339:=n1_;clear n0_ n1_;clear ho hb hg hat)|((with_reducible refine Qz (N:=17) rfl ?_);refine Kd.K2 (Kd.int .u8) _ 5 ?hg (N:=17) ?hd (xs:=([(wrap64 (Int.tdiv t336 256)) % 256,(Int.tmod t336 256) % 256]:List Int)) (inner:=[.int .u8 ((wrap64 (Int.tdiv t336 256)) % 256),.int .u8 ((Int.tmod t336 256) % 256)]) (ok:=fun _=>True) (okp:=fun _=>True) ?hr ?hp (fun _ hk=>hk) trivial (Below.refl _ _) (Nat.le_refl _) (by simp) ?_;(case hd=>rfl);(case hg=>rfl);(case hr=>first|(go_simp;done)|(go_simp;rfl));(case hp=>exact(Reps.one (show Kd.M (Kd.int .u8) _ _ _ ((wrap64 (Int.tdiv t336 256)) % 256) [.int .u8 ((wrap64 (Int.tdiv t336 256)) % 256)] from rfl) (Reps.one (show Kd.M (Kd.int .u8) _ _ _ ((Int.tmod t336 256) % 256) [.int .u8 ((Int.tmod t336 256) % 256)] from rfl) (Reps.none _ _))));intro v341 w6 ho7 hb hg_ hnew_;clear hg_ hnew_;(first|rw[← Ny340.out] at ho7|(simp only[Int.reduceToNat] at ho7;rw[← Ny340.out] at ho7));have n0_:=Aside0.mk (Kd.Zj (by(with_reducible repeat first|apply Kd.Qi|apply Kd.Qh|apply Kd.Ql);exact HO339.out) (Kd.Q5 ho7) hb);have n1_:=Aside0.mk (Kd.Zd (Kd.Zi ho7 (Kd.Zp (by(with_reducible repeat first|apply Kd.Qi|apply Kd.Qh|apply Kd.Ql);exact HO339.out))) (Qj (by repeat(first|(with_reducible first|exact HB.out|apply Qe|apply Qa|apply Qf)|exact HB.out))));have n2_:=Aside0.mk (Qr (by repeat(first|(with_reducible first|exact HB.out|apply Qe|apply Qa|apply Qf)|exact HB.out)) hb);clear HO339;clear HB;have HO339:=n0_;have HO342:=n1_;have HB:=n2_;clear n0_ n1_ n2_;clear hb ho7;obtain⟨Ao9,co9,eo9⟩:=Kd.Zf HO342.out;subst eo9)|((with_reducible refine Zs (b:=.append) (xs:=#[.tmp 10,.tmp 17]) rfl ?_);at_builtin;refine Kd.Zz (Kd.int .u8) (w0:=w) w.heap.size rfl (.tmp 10) (.tmp 17) 22 5 (.int .u8 0) 1 rfl Tryd.underlying22 Zx rfl (by decide) (by omega) v338 y337 y340 _ _ _ (fun k_=>some k_≠(.slice Ao9 y340.length co9:Value).ownBlock) (fun _=>False) rfl rfl ?aO ?aR (fun _ _ h=>h) (fun _ h=>h.elim) ?aF ?aB ?aS ?aL ?_;(case aR=>repeat(first|exact(Kd.Q4 HO342.out).2.2|(with_reducible refine Kd.Zc ?_ _)|(with_reducible refine Kd.Za ?_ _)|(with_reducible refine Kd.Zh ?_)));(case aB=>exact(by repeat(first|(with_reducible first|exact HB.out|apply Qe|apply Qa|apply Qf)|exact HB.out)));(case aF=>exact(fun k_ hk=>Kd.fresh' (Kd.Zp (by(with_reducible repeat first|apply Kd.Qi|apply Kd.Qh|apply Kd.Ql);exact HO342.out)) k_ hk));(case aO=>exact(by(with_reducible repeat first|apply Kd.Qi|apply Kd.Qh|apply Kd.Ql);exact Kd.Qu HO339.out (fun _ hk=>hk.2)));(case aS=>exact(Qj (by repeat(first|(with_reducible first|exact HB.out|apply Qe|apply Qa|apply Qf)|exact HB.out))));(case aL=>have:=LMc4.out;omega);intro v344 w8 ho hb hg hat;rw[← Ny343.out] at ho;have n0_:=Aside0.mk (Kd.Ym (ok:=(fun _=>True)) (by(with_reducible repeat first|apply Kd.Qi|apply Kd.Qh|apply Kd.Ql);exact HO342.out) hg hat);have n1_:=Aside0.mk (hb);have n2_:=Aside0.mk (ho);clear HO342;clear HB;clear HO339;have HO342:=n0_;have HB:=n1_;have HO345:=n2_;clear n0_ n1_ n2_;clear ho hb hg hat))
   go_ret
   exact⟨_,by first|rfl|(simp[Qo,Qn] <;> rfl)|(simp[*,Qo,Qn] <;> rfl),by(with_reducible repeat first|apply Kd.Qi|apply Kd.Qh|apply Kd.Ql);exact Kd.Qu HO345.out (fun _ hk=>trivial),by repeat(first|(with_reducible first|exact HB.out|apply Qe|apply Qa|apply Qf)|exact HB.out)⟩
  ·rw[if_neg c4] at H
   exact absurd H (by simp)
 ·rw[if_neg c3] at H
  exact absurd H (by simp)
def newelref12_Read.j0:Nat→List Int→Bool→Int→Int→Int→Int→Int→Int→Option (Int×Int×Int×List Int×Int)
 |0,_,_,_,_,_,_,_,_=>none
 |k+1,x0,x58,x287000,x287001,x287002,x292000,x292001,x292002=>if x58=true then (some (0,0,0,([]:List Int),120)) else (if (wrap64 ((x0.length:Int)-x292001))<(wrap64 (x292000+2)) then (some (0,0,0,([]:List Int),121)) else (if (wrap64 ((x0.length:Int)-x292001))>(wrap64 (x292000+2)) then (some (0,0,0,([]:List Int),122)) else ((newelref09_Open.f k x0).bind fun bt292=>(if bt292.2=0 then (if 0≤x292001 then (if x292001≤(wrap64 (x292001+x292000)) then (if (wrap64 (x292001+x292000))≤(x0.length:Int) then (some (x287000,x287001,x287002,((x0.take ((wrap64 (x292001+x292000)):Int).toNat).drop (x292001:Int).toNat),0)) else (none)) else (none)) else (none)) else (some (0,0,0,([]:List Int),bt292.2))))))
def newelref12_Read.f (k:Nat) (l0:List Int):Option (Int×Int×Int×List Int×Int):=(newelref08_GetRow.f k l0 0 3).bind fun bt277=>(if bt277.2.2=0 then (if (bt277.1.length:Int)=3 then (if 0<(bt277.1.length:Int) then (if 1<(bt277.1.length:Int) then (if 2<(bt277.1.length:Int) then ((newelref12_May.f (rd bt277.1 0) (rd bt277.1 1) (rd bt277.1 2) ([]:List Int)).bind fun t287=>(if t287=true then ((newelref08_Get.f k l0 bt277.2.1).bind fun bt288=>(if bt288.2.2=0 then (if bt288.1<0 then (newelref12_Read.j0 k l0 true (rd bt277.1 0) (rd bt277.1 1) (rd bt277.1 2) bt288.1 bt288.2.1 bt288.2.2) else (newelref12_Read.j0 k l0 (decide (bt288.1>4096)) (rd bt277.1 0) (rd bt277.1 1) (rd bt277.1 2) bt288.1 bt288.2.1 bt288.2.2)) else (some (0,0,0,([]:List Int),bt288.2.2)))) else (some (0,0,0,([]:List Int),120)))) else (none)) else (none)) else (none)) else (some (0,0,0,([]:List Int),120))) else (some (0,0,0,([]:List Int),bt277.2.2)))
theorem newelref12_Read.Zl:∀ k,(∀ y0 y1 y2 y3 y4 y5 y6 y7,LeO (newelref12_Read.j0 k y0 y1 y2 y3 y4 y5 y6 y7) (newelref12_Read.j0 (k+1) y0 y1 y2 y3 y4 y5 y6 y7))
 |0=>fun _ _ _ _ _ _ _ _ r h=>by simp[newelref12_Read.j0] at h
 |k+1=>by
  have ih0:=newelref12_Read.Zl k
  ·intro y0 y1 y2 y3 y4 y5 y6 y7
   unfold newelref12_Read.j0
   repeat' first
   |(with_reducible exact ih0 _ _ _ _ _ _ _ _)
   |(with_reducible exact newelref08_Get.mono _ _ _)
   |(with_reducible exact newelref08_GetRow.mono _ _ _ _)
   |(with_reducible exact newelref09_Open.mono _ _)
   |(with_reducible exact LeO.refl _)
   |(with_reducible exact LeO.none _)
   |(with_reducible refine LeO.ite ?_ ?_)
   |(with_reducible refine LeO.bind ?_ (fun _=>?_))
   |exact ih0 _ _ _ _ _ _ _ _
   |exact newelref08_Get.mono _ _ _
   |exact newelref08_GetRow.mono _ _ _ _
   |exact newelref09_Open.mono _ _
   |exact LeO.none _
   |refine LeO.ite ?_ ?_
   |refine LeO.bind ?_ (fun _=>?_)
theorem newelref12_Read.mono:∀ a0 k,LeO (newelref12_Read.f k a0) (newelref12_Read.f (k+1) a0):=by
 intro a0 k
 have ih0:=newelref12_Read.Zl k
 unfold newelref12_Read.f
 repeat' first
   |(with_reducible exact ih0 _ _ _ _ _ _ _ _)
   |(with_reducible exact newelref08_Get.mono _ _ _)
   |(with_reducible exact newelref08_GetRow.mono _ _ _ _)
   |(with_reducible exact newelref09_Open.mono _ _)
   |(with_reducible exact LeO.refl _)
   |(with_reducible exact LeO.none _)
   |(with_reducible refine LeO.ite ?_ ?_)
   |(with_reducible refine LeO.bind ?_ (fun _=>?_))
   |exact ih0 _ _ _ _ _ _ _ _
   |exact newelref08_Get.mono _ _ _
   |exact newelref08_GetRow.mono _ _ _ _
   |exact newelref09_Open.mono _ _
   |exact LeO.none _
   |refine LeO.ite ?_ ?_
   |refine LeO.bind ?_ (fun _=>?_)
def newelref12_Read.T6:Bool×List (List Nat×List Nat):=(true,[([],[]),([0],[0]),([1],[1]),([2],[2]),([],[]),([4],[4]),([5],[5]),([6],[6]),([],[]),([8],[8]),([9],[9]),([10],[10]),([3,7,11],[3,7,11]),([],[]),([13,12,0,1,2,3,4,5,6,7,8,9,10,11,12,13],[12,13])])
def newelref12_Read.B6:List Nat:=[0,1,3,7,0,16,48,112,0,256,768,1792,4095,0,16383]
theorem newelref12_Read.Eu:rtab .any (opsOf Tryd.f26 6)=newelref12_Read.T6:=by kernel_rfl
theorem newelref12_Read.M6:Yb newelref12_Read.T6.2 newelref12_Read.B6=true:=by kernel_rfl
set_option maxHeartbeats 8000000 in
set_option maxRecDepth 100000 in
theorem newelref12_Read.calls (k:Nat) (P0_:Nat→Prop) (A0:Option Addr) (c0:Nat) (l0:List Int) (r1:Int) (r2:Int) (r3:Int) (r4:List Int) (r5:Int) (w:World) (hs0:Kd.V (Kd.int .u8) 5 w w.heap.size (fun k_=>P0_ k_) (.slice A0 l0.length c0) l0) (h:newelref12_Read.f k l0=some (r1,r2,r3,r4,r5)):
  Calls Tryd.prog 26 #[.slice A0 l0.length c0] w fun e w'=>∃ v3_:Value,e = .returned (.agg #[.int .i64 r1,.int .i64 r2,.int .i64 r3,v3_,.int .i64 r5])∧Kd.V (Kd.int .u8) 5 w' w.heap.size (fun k_=>(P0_ k_∨w.heap.size≤k_)) v3_ r4∧Below w.heap.size w w':=by
 have hu62:=Tryd.underlying62
 have hu72:=Tryd.underlying72
 have hu26:=Tryd.underlying26
 have hu75:=Tryd.underlying75
 have HO0:=Aside0.mk (show Kd.V (Kd.int .u8) 5 w w.heap.size (fun k_=>(P0_ k_∨w.heap.size≤k_)) (.slice A0 l0.length c0) l0 from Kd.Qt hs0 (fun k_ hk=>.inl hk))
 have HB:=Aside0.mk (Below.refl w.heap.size w)
 have H:((newelref08_GetRow.f k l0 0 3).bind fun bt277=>(if bt277.2.2=0 then (if (bt277.1.length:Int)=3 then (if 0<(bt277.1.length:Int) then (if 1<(bt277.1.length:Int) then (if 2<(bt277.1.length:Int) then ((newelref12_May.f (rd bt277.1 0) (rd bt277.1 1) (rd bt277.1 2) ([]:List Int)).bind fun t287=>(if t287=true then ((newelref08_Get.f k l0 bt277.2.1).bind fun bt288=>(if bt288.2.2=0 then (if bt288.1<0 then (newelref12_Read.j0 k l0 true (rd bt277.1 0) (rd bt277.1 1) (rd bt277.1 2) bt288.1 bt288.2.1 bt288.2.2) else (newelref12_Read.j0 k l0 (decide (bt288.1>4096)) (rd bt277.1 0) (rd bt277.1 1) (rd bt277.1 2) bt288.1 bt288.2.1 bt288.2.2)) else (some (0,0,0,([]:List Int),bt288.2.2)))) else (some (0,0,0,([]:List Int),120)))) else (none)) else (none)) else (none)) else (some (0,0,0,([]:List Int),120))) else (some (0,0,0,([]:List Int),bt277.2.2))))=some (r1,r2,r3,r4,r5):=h
 clear h
 replace H:=Option.bind_eq_some_iff.mp H
 obtain⟨⟨t277,t280,t281⟩,A20,H⟩:=H
 replace H:(if t281=0 then (if (t277.length:Int)=3 then (if 0<(t277.length:Int) then (if 1<(t277.length:Int) then (if 2<(t277.length:Int) then ((newelref12_May.f (rd t277 0) (rd t277 1) (rd t277 2) ([]:List Int)).bind fun t287=>(if t287=true then ((newelref08_Get.f k l0 t280).bind fun bt288=>(if bt288.2.2=0 then (if bt288.1<0 then (newelref12_Read.j0 k l0 true (rd t277 0) (rd t277 1) (rd t277 2) bt288.1 bt288.2.1 bt288.2.2) else (newelref12_Read.j0 k l0 (decide (bt288.1>4096)) (rd t277 0) (rd t277 1) (rd t277 2) bt288.1 bt288.2.1 bt288.2.2)) else (some (0,0,0,([]:List Int),bt288.2.2)))) else (some (0,0,0,([]:List Int),120)))) else (none)) else (none)) else (none)) else (some (0,0,0,([]:List Int),120))) else (some (0,0,0,([]:List Int),t281)))=some (r1,r2,r3,r4,r5):=H
 have A2:=Aside0.mk A20
 clear A20
 by_cases c3:t281=0
 ·rw[if_pos c3] at H
  have c3b0:(t281==0)=true:=beq_iff_eq.mpr c3
  have c3b1:(t281 != 0)=false:=bne_eq_false_iff_eq.mpr c3
  clear c3
  by_cases c4:(t277.length:Int)=3
  ·rw[if_pos c4] at H
   have c4b0:((t277.length:Int)==3)=true:=beq_iff_eq.mpr c4
   have c4b1:((t277.length:Int) != 3)=false:=bne_eq_false_iff_eq.mpr c4
   clear c4
   by_cases c5:0<(t277.length:Int)
   ·rw[if_pos c5] at H
    have c5b0:decide (0<(t277.length:Int))=true:=decide_eq_true c5
    have c5b1:decide (0<t277.length)=true:=decide_eq_true (by omega)
    clear c5
    by_cases c6:1<(t277.length:Int)
    ·rw[if_pos c6] at H
     have c6b0:decide (1<(t277.length:Int))=true:=decide_eq_true c6
     have c6b1:decide (1<t277.length)=true:=decide_eq_true (by omega)
     clear c6
     by_cases c7:2<(t277.length:Int)
     ·rw[if_pos c7] at H
      have c7b0:decide (2<(t277.length:Int))=true:=decide_eq_true c7
      have c7b1:decide (2<t277.length)=true:=decide_eq_true (by omega)
      clear c7
      replace H:=Option.bind_eq_some_iff.mp H
      obtain⟨t287,A80,H⟩:=H
      replace H:(if t287=true then ((newelref08_Get.f k l0 t280).bind fun bt288=>(if bt288.2.2=0 then (if bt288.1<0 then (newelref12_Read.j0 k l0 true (rd t277 0) (rd t277 1) (rd t277 2) bt288.1 bt288.2.1 bt288.2.2) else (newelref12_Read.j0 k l0 (decide (bt288.1>4096)) (rd t277 0) (rd t277 1) (rd t277 2) bt288.1 bt288.2.1 bt288.2.2)) else (some (0,0,0,([]:List Int),bt288.2.2)))) else (some (0,0,0,([]:List Int),120)))=some (r1,r2,r3,r4,r5):=H
      have A8:=Aside0.mk A80
      clear A80
      by_cases c9:t287=true
      ·subst c9
       have H1:((newelref08_Get.f k l0 t280).bind fun bt288=>(if bt288.2.2=0 then (if bt288.1<0 then (newelref12_Read.j0 k l0 true (rd t277 0) (rd t277 1) (rd t277 2) bt288.1 bt288.2.1 bt288.2.2) else (newelref12_Read.j0 k l0 (decide (bt288.1>4096)) (rd t277 0) (rd t277 1) (rd t277 2) bt288.1 bt288.2.1 bt288.2.2)) else (some (0,0,0,([]:List Int),bt288.2.2))))=some (r1,r2,r3,r4,r5):=by rw[if_pos rfl] at H;exact H
       clear H
       have H:=H1
       clear H1
       replace H:=Option.bind_eq_some_iff.mp H
       obtain⟨⟨t288,t289,t290⟩,A100,H⟩:=H
       replace H:(if t290=0 then (if t288<0 then (newelref12_Read.j0 k l0 true (rd t277 0) (rd t277 1) (rd t277 2) t288 t289 t290) else (newelref12_Read.j0 k l0 (decide (t288>4096)) (rd t277 0) (rd t277 1) (rd t277 2) t288 t289 t290)) else (some (0,0,0,([]:List Int),t290)))=some (r1,r2,r3,r4,r5):=H
       have A10:=Aside0.mk A100
       clear A100
       by_cases c11:t290=0
       ·rw[if_pos c11] at H
        have c11b0:(t290==0)=true:=beq_iff_eq.mpr c11
        have c11b1:(t290 != 0)=false:=bne_eq_false_iff_eq.mpr c11
        clear c11
        have HC12:=Aside0.mk H
        clear H
        go_enter Tryd.func26,Tryd.ntmps26
        try go_wp2_with (first|((with_reducible refine Qz (N:=2) rfl ?_);refine qE 2 #[.int .i64 0,.int .i64 0,.int .i64 0,.slice none 0 0,.int .i64 0] 62 ?_;intro gb276 hg w13 hbox hb;have BK276:=Aside0.mk hbox;have GW276:=sGe hg;have GE276:=sGe hg;replace HO0:=Aside0.mk (Kd.Q2 (Kd.Q9 HO0.out gb276 (Nat.le_of_eq hg.symm)) hb);replace HB:=sHb hb;clear hb hbox hg)|((with_reducible refine Qv (f:=38) rfl ?_);refine Ze (some 11) rfl rfl Tryd.func38 kr rfl #[.slice A0 l0.length c0,.int .i64 0,.int .i64 3] rfl qM ?_;(with_reducible refine(newelref08_GetRow.calls k _ _ l0 0 3 t277 t280 t281 _ ?side1 ?side2 A2.out).mono ?_);(case side1=>exact(Kd.Zm HO0.out).2.2);(case side2=>exact(Kd.Zm HO0.out).2.1);rintro e w14 ⟨v278,rfl,ho0,hb⟩;refine⟨_,rfl, ?_⟩;have HO279:=Aside0.mk (Kd.Zd (Kd.Kq (M:=fun k_=>(w.heap.size≤k_)) ho0 (Qj HB.out) (fun k_ h_=>h_)) (Qj HB.out));replace HO0:=Aside0.mk (Kd.Ya HO0.out (Kd.Q5 ho0) hb);replace BK276:=sBk BK276 hb;replace HB:=sHb hb;(try clear hb);(try clear hb2);(try clear hk);(try clear hi);(try clear ho0))|((with_reducible refine Qz (N:=3) rfl ?_);refine qE 3 #[.slice none 0 0,.int .i64 0,.int .i64 0] 72 ?_;intro gb282 hg w15 hbox hb;have BK282:=Aside0.mk hbox;have GW282:=sGe hg;have GE282:=sGe hg;have NB276_282:=sNl BK276 hg;have NB282_276:=sNg BK276 hg;replace HO0:=Aside0.mk (Kd.Q2 (Kd.Q9 HO0.out gb282 (Nat.le_of_eq hg.symm)) hb);replace HO279:=sRb HO279 hb;replace BK276:=sBk BK276 hb;replace HB:=sHb hb;clear hb hbox hg;obtain⟨Ao16,co16,eo16⟩:=Kd.Zf HO279.out;subst eo16;have hnb17:=NB282_276.out;have hnc17:=NB276_282.out;obtain⟨hcz18_0,hcz18_1,hcz18_2,hfz18_0,hfz18_1,hfz18_2⟩:=qD3 BK282.out))
        have n0_:Aside0 (Kd.V (Kd.int .u8) 5 (((w15.setCell ⟨gb282,0,none⟩ (.slice Ao16 t277.length co16)).setCell ⟨gb282,1,none⟩ (.int .i64 t280)).setCell ⟨gb282,2,none⟩ (.int .i64 t281)) w.heap.size (fun k_=>(P0_ k_∨w.heap.size≤k_)∧some k_≠(.slice Ao16 t277.length co16:Value).ownBlock∧k_≠gb276∧k_≠gb282) (.slice A0 l0.length c0) l0):=⟨by(with_reducible repeat first|apply Kd.Qx|apply Kd.Qw|apply Kd.Q0);exact Kd.Qt (Kd.Qq (p:=⟨gb282,2,none⟩) (Kd.Qq (p:=⟨gb282,1,none⟩) (Kd.Qq (p:=⟨gb282,0,none⟩) (Kd.Qt HO0.out (fun k_ hk=>(⟨hk,hk.2⟩:_∧k_≠gb282))) (fun _ hk=>hk.2) _) (fun _ hk=>hk.2) (.int .i64 t280)) (fun _ hk=>hk.2) (.int .i64 t281)) (fun _ hk=>⟨hk.1.1.1.1,⟨hk.1.1.2,⟨hk.1.1.1.2,hk.1.2⟩⟩⟩)⟩
        have n1_:Aside0 (Kd.R (Kd.int .i64) 3 (((w15.setCell ⟨gb282,0,none⟩ (.slice Ao16 t277.length co16)).setCell ⟨gb282,1,none⟩ (.int .i64 t280)).setCell ⟨gb282,2,none⟩ (.int .i64 t281)) w.heap.size (fun k_=>(w.heap.size≤k_)) (.slice Ao16 t277.length co16) t277):=⟨by(with_reducible repeat first|apply Kd.Qi|apply Kd.Qh|apply Kd.Ql);exact Kd.Qu (Kd.Qm (Kd.Qm (Kd.Qm (Kd.Qy HO279.out BK282.out (by decide)) (fun _ hk=>hk.2) _) (fun _ hk=>hk.2) (.int .i64 t280)) (fun _ hk=>hk.2) (.int .i64 t281)) (fun _ hk=>hk.1.1)⟩
        have n2_:Aside0 ((((w15.setCell ⟨gb282,0,none⟩ (.slice Ao16 t277.length co16)).setCell ⟨gb282,1,none⟩ (.int .i64 t280)).setCell ⟨gb282,2,none⟩ (.int .i64 t281)).heap[gb276]?=some (.cells #[.int .i64 0,.int .i64 0,.int .i64 0,.slice none 0 0,.int .i64 0] 62 (0,0))):=⟨bka BK276⟩
        have n3_:Aside0 ((((w15.setCell ⟨gb282,0,none⟩ (.slice Ao16 t277.length co16)).setCell ⟨gb282,1,none⟩ (.int .i64 t280)).setCell ⟨gb282,2,none⟩ (.int .i64 t281)).heap[gb282]?=some (.cells #[.slice Ao16 t277.length co16,.int .i64 t280,.int .i64 t281] 72 (0,0))):=⟨by refine Qk (cs:=#[.slice Ao16 t277.length co16,.int .i64 t280,.int .i64 0]) ?_ 2 _ rfl;refine Qk (cs:=#[.slice Ao16 t277.length co16,.int .i64 0,.int .i64 0]) ?_ 1 _ rfl;refine Qk (cs:=#[.slice none 0 0,.int .i64 0,.int .i64 0]) ?_ 0 _ rfl;exact BK282.out⟩
        have n4_:Aside0 (Below w.heap.size w (((w15.setCell ⟨gb282,0,none⟩ (.slice Ao16 t277.length co16)).setCell ⟨gb282,1,none⟩ (.int .i64 t280)).setCell ⟨gb282,2,none⟩ (.int .i64 t281))):=⟨bel⟩
        (try clear HO0)
        (try clear HO279)
        (try clear BK276)
        (try clear BK282)
        (try clear HB)
        generalize(((w15.setCell ⟨gb282,0,none⟩ (.slice Ao16 t277.length co16)).setCell ⟨gb282,1,none⟩ (.int .i64 t280)).setCell ⟨gb282,2,none⟩ (.int .i64 t281))=w19 at n0_ n1_ n2_ n3_ n4_ ⊢
        have HO0:=n0_
        have HO279:=n1_
        have BK276:=n2_
        have BK282:=n3_
        have HB:=n4_
        clear n0_ n1_ n2_ n3_ n4_
        replace HO0:=Aside0.mk (Kd.Q0 HO0.out)
        replace HO279:=Aside0.mk (Kd.Ql HO279.out)
        replace BK276:=Aside0.mk (Qd BK276.out)
        replace BK282:=Aside0.mk (Qd BK282.out)
        replace HB:=Aside0.mk (Qf HB.out)
        have p283:0≤(0:Int):=(by omega)
        have q283:0<(t277.length:Int):=of_decide_eq_true (by assumption)
        obtain⟨ad283,e283,hx283_0⟩:=Kd.Zr (Kd.Q4 HO279.out).2.2 0 p283 q283
        cases e283
        have qi283:(0<t277.length)=True:=eq_true (by omega)
        (try rw[show((0:Int)).toNat=0 from rfl] at hx283_0)
        (try rw[Addr.add_zero'] at hx283_0)
        replace p283:=eq_true p283
        replace q283:=eq_true q283
        have p284:0≤(1:Int):=(by omega)
        have q284:1<(t277.length:Int):=of_decide_eq_true (by assumption)
        obtain⟨ad284,e284,hx284_0⟩:=Kd.Zr (Kd.Q4 HO279.out).2.2 1 p284 q284
        obtain rfl:ad283=ad284:=(by injection e284)
        (try simp only[show(1:Int).toNat=1 from rfl,Nat.reduceMul,Nat.reduceEqDiff,Go.Addr.add,↓reduceIte] at hx284_0)
        have qi284:(1<t277.length)=True:=eq_true (by omega)
        (try rw[show((1:Int)).toNat=1 from rfl] at hx284_0)
        replace p284:=eq_true p284
        replace q284:=eq_true q284
        have p285:0≤(2:Int):=(by omega)
        have q285:2<(t277.length:Int):=of_decide_eq_true (by assumption)
        obtain⟨ad285,e285,hx285_0⟩:=Kd.Zr (Kd.Q4 HO279.out).2.2 2 p285 q285
        obtain rfl:ad283=ad285:=(by injection e285)
        (try simp only[show(2:Int).toNat=2 from rfl,Nat.reduceMul,Nat.reduceEqDiff,Go.Addr.add,↓reduceIte] at hx285_0)
        have qi285:(2<t277.length)=True:=eq_true (by omega)
        (try rw[show((2:Int)).toNat=2 from rfl] at hx285_0)
        replace p285:=eq_true p285
        replace q285:=eq_true q285
        refine Yp (n:=15) (S:=fun w'=>w'.cell? ⟨gb282,0,none⟩=some (.slice (some ad283) t277.length co16)∧w'.cell? ⟨gb282,1,none⟩=some (.int .i64 t280)∧w'.cell? ⟨gb282,2,none⟩=some (.int .i64 t281)∧w'.cell? ad283=some (.int .i64 (rd t277 0))∧w'.cell? ⟨ad283.block,ad283.off+1,none⟩=some (.int .i64 (rd t277 1))∧w'.cell? ⟨ad283.block,ad283.off+2,none⟩=some (.int .i64 (rd t277 2))) (ds:=[]) #[false,false,false,false,false,false,false,false,false,false,false,false,false,false,false] kr rfl rfl ⟨(Q3 BK282.out 0).trans rfl,(Q3 BK282.out 1).trans rfl,(Q3 BK282.out 2).trans rfl,hx283_0,hx284_0,hx285_0⟩ (fun hHeld=>?_);refine Xh newelref12_Read.Eu newelref12_Read.M6 (fun HT_ HW_=>?_)
        generalize w19.drew=w20 at HO0 HO279 BK276 BK282 HB hx283_0 hx284_0 hx285_0 hHeld ⊢
        refine qP 0 (some 23) (bN 15 1) HT_ ?_
        refine qP 4 (some 27) (bN 15 17) HT_ ?_
        refine qP 8 (some 31) (bN 15 273) HT_ ?_
        refine qT 1 (some 24) (bN 15 275) HT_ HW_ hHeld ?_
        refine qP 2 (some 25) (bN 15 279) HT_ ?_
        refine qT 3 (some 26) (bN 15 287) HT_ HW_ hHeld ?_
        refine qT 5 (some 28) (bN 15 319) HT_ HW_ hHeld ?_
        refine qP 6 (some 29) (bN 15 383) HT_ ?_
        refine qT 7 (some 30) (bN 15 511) HT_ HW_ hHeld ?_
        refine qT 9 (some 32) (bN 15 1023) HT_ HW_ hHeld ?_
        refine qP 10 (some 33) (bN 15 2047) HT_ ?_
        refine qT 11 (some 34) (bN 15 4095) HT_ HW_ hHeld ?_
        refine qP 12 (some 35) (bN 15 8191) HT_ ?_
        refine Ye (i:=13) (N:=some 4) (bN 15 16383) rfl rfl (Z3 HT_.out kr) (by decide) (fun K hK=>?_)
        refine Xy ?hg (N:=4) ?hd (cs:=#[.int .i64 0,.int .i64 0,.int .i64 0,.slice none 0 0]) (t:=26) ?hr ?_;(case hd=>rfl);(case hg=>rfl);(case hr=>go_simp <;> rfl)
        intro gb286 hg w21 hbox hb
        have HS3_:=(hb.cell (World.block_lt_of_cell? _ _ (hHeld.2.2.2.1))).trans (hHeld.2.2.2.1)
        have HS4_:=(hb.cell (World.block_lt_of_cell? _ _ (hHeld.2.2.2.2.1))).trans (hHeld.2.2.2.2.1)
        have HS5_:=(hb.cell (World.block_lt_of_cell? _ _ (hHeld.2.2.2.2.2))).trans (hHeld.2.2.2.2.2)
        have BK286:=Aside0.mk hbox
        have GW286:=sGe hg
        have GE286:=sGe hg
        have NB276_286:=sNl BK276 hg
        have NB286_276:=sNg BK276 hg
        have NB282_286:=sNl BK282 hg
        have NB286_282:=sNg BK282 hg
        replace HO0:=Aside0.mk (Kd.Q2 (Kd.Q9 HO0.out gb286 (Nat.le_of_eq hg.symm)) hb)
        replace HO279:=sRb HO279 hb
        replace BK276:=sBk BK276 hb
        replace BK282:=sBk BK282 hb
        replace HB:=sHb hb
        clear hb hbox hg
        refine hK.out _ _ ⟨qc BK282,qc BK282,qc BK282,HS3_,HS4_,HS5_⟩ (fun hHeld=>?_)
        clear hK K
        refine qN (some 4) ?_
        refine Ye (i:=14) (N:=none) (bN 15 32767) rfl rfl (Z3 HT_.out kr) (by decide) (fun K hK=>?_)
        have hs22:w21.cell? ⟨gb286,0,none⟩=some (.int .i64 0):=(Q3 BK286.out 0).trans rfl
        have hfs22:=Q6 BK286.out 0
        have hns22_0:=NB276_286.out
        have hns22_1:=NB282_286.out
        have hms22_0:=NB286_276.out
        have hms22_1:=NB286_282.out
        have hs23:w21.cell? ⟨gb286,1,none⟩=some (.int .i64 0):=(Q3 BK286.out 1).trans rfl
        have hfs23:=Q6 BK286.out 1
        have hns23_0:=NB276_286.out
        have hns23_1:=NB282_286.out
        have hms23_0:=NB286_276.out
        have hms23_1:=NB286_282.out
        have hs24:w21.cell? ⟨gb286,2,none⟩=some (.int .i64 0):=(Q3 BK286.out 2).trans rfl
        have hfs24:=Q6 BK286.out 2
        have hns24_0:=NB276_286.out
        have hns24_1:=NB282_286.out
        have hms24_0:=NB286_276.out
        have hms24_1:=NB286_282.out
        have hs25:w21.cell? ⟨gb286,3,none⟩=some (.slice none 0 0):=(Q3 BK286.out 3).trans rfl
        have hfs25:=Q6 BK286.out 3
        have hns25_0:=NB276_286.out
        have hns25_1:=NB282_286.out
        have hms25_0:=NB286_276.out
        have hms25_1:=NB286_282.out
        refine J0 (w1:=?_) (by rfl) rfl ?_ ?_
        rotate_left
        ·go_simp
         rfl
        have hfar0_:=Kd.J6 (Kd.Y5 HO279.out BK286.out (by decide))
        refine hK.out _ _ ⟨(by rw[cell_far,cell_far,cell_far,cell_far];all_goals (first|(with_reducible exact hHeld.1)|(with_reducible exact NB282_286.out))),(by rw[cell_far,cell_far,cell_far,cell_far];all_goals (first|(with_reducible exact hHeld.2.1)|(with_reducible exact NB282_286.out))),(by rw[cell_far,cell_far,cell_far,cell_far];all_goals (first|(with_reducible exact hHeld.2.2.1)|(with_reducible exact NB282_286.out))),(by rw[cell_far,cell_far,cell_far,cell_far];all_goals (first|(with_reducible exact hHeld.2.2.2.1)|(with_reducible exact hfar0_)|exact hfar0_)),(by rw[cell_far,cell_far,cell_far,cell_far];all_goals (first|(with_reducible exact hHeld.2.2.2.2.1)|(with_reducible exact hfar0_)|exact hfar0_)),(by rw[cell_far,cell_far,cell_far,cell_far];all_goals (first|(with_reducible exact hHeld.2.2.2.2.2)|(with_reducible exact hfar0_)|exact hfar0_))⟩ (fun hHeld=>?_)
        clear hK K
        refine Jc (Yi HT_.out kr) ?_
        have hnb26:=NB286_276.out
        have hnc26:=NB276_286.out
        have hnb27:=NB286_282.out
        have hnc27:=NB282_286.out
        obtain⟨hcz28_0,hcz28_1,hcz28_2,hcz28_3,hfz28_0,hfz28_1,hfz28_2,hfz28_3⟩:=qD4 BK286.out
        go_upto_region 13 with(first|((with_reducible refine Qv (f:=21) rfl ?_);refine Ze (some 37) rfl rfl Tryd.func21 kr rfl #[.agg #[.int .i64 (rd t277 0),.int .i64 (rd t277 1),.int .i64 (rd t277 2),.slice none 0 0]] rfl qM ?_;(refine(newelref12_May.calls (rd t277 0) (rd t277 1) (rd t277 2) _ _ ([]:List Int) true _ ?side1 ?side2 A8.out).mono ?_);(case side1=>exact Kd.Jt _ _);(case side2=>exact Nat.le_refl _);rintro e w29 ⟨rfl,hb⟩;refine⟨_,rfl, ?_⟩;replace HO0:=Aside0.mk (Kd.Q2 (by(with_reducible repeat first|apply Kd.Qx|apply Kd.Qw|apply Kd.Q0);exact(Kd.Qt (Kd.Qq (p:=⟨gb286,3,none⟩) (Kd.Qq (p:=⟨gb286,2,none⟩) (Kd.Qq (p:=⟨gb286,1,none⟩) (Kd.Qq (p:=⟨gb286,0,none⟩) (Kd.Qt HO0.out (fun k_ hk=>(⟨hk,hk.2⟩:_∧k_≠gb286))) (fun _ hk=>hk.2) (.int .i64 (rd t277 0))) (fun _ hk=>hk.2) (.int .i64 (rd t277 1))) (fun _ hk=>hk.2) (.int .i64 (rd t277 2))) (fun _ hk=>hk.2) (.slice none 0 0)) (fun _ h_=>h_.1))) hb);replace HO279:=Aside0.mk (Kd.Q1 (by(with_reducible repeat first|apply Kd.Qi|apply Kd.Qh|apply Kd.Ql);exact(Kd.Qu (Kd.Qm (Kd.Qm (Kd.Qm (Kd.Qm (Kd.Qy HO279.out BK286.out (by decide)) (fun _ hk=>hk.2) (.int .i64 (rd t277 0))) (fun _ hk=>hk.2) (.int .i64 (rd t277 1))) (fun _ hk=>hk.2) (.int .i64 (rd t277 2))) (fun _ hk=>hk.2) (.slice none 0 0)) (fun _ h_=>h_.1))) hb);replace BK276:=sBk BK276 hb;replace BK282:=sBk BK282 hb;replace BK286:=Aside0.mk (Qp (g:=gb286) (o:=.cells #[.int .i64 (rd t277 0),.int .i64 (rd t277 1),.int .i64 (rd t277 2),.slice none 0 0] 26 (0,0)) (by refine Qk (cs:=#[.int .i64 (rd t277 0),.int .i64 (rd t277 1),.int .i64 (rd t277 2),.slice none 0 0]) ?_ 3 _ rfl;refine Qk (cs:=#[.int .i64 (rd t277 0),.int .i64 (rd t277 1),.int .i64 0,.slice none 0 0]) ?_ 2 _ rfl;refine Qk (cs:=#[.int .i64 (rd t277 0),.int .i64 0,.int .i64 0,.slice none 0 0]) ?_ 1 _ rfl;refine Qk (cs:=#[.int .i64 0,.int .i64 0,.int .i64 0,.slice none 0 0]) ?_ 0 _ rfl;exact BK286.out) hb);replace HB:=sHb hb;(try clear hb);(try clear hb2);(try clear hk);(try clear hi);obtain⟨hcz30_0,hcz30_1,hcz30_2,hfz30_0,hfz30_1,hfz30_2⟩:=qD3 BK282.out)|((with_reducible refine Qv (f:=39) rfl ?_);refine Ze (some 44) rfl rfl Tryd.func39 kr rfl #[.slice A0 l0.length c0,.int .i64 t280] rfl qM ?_;(with_reducible refine(newelref08_Get.calls k _ _ l0 t280 t288 t289 t290 _ ?side1 ?side2 A10.out).mono ?_);(case side1=>exact(Kd.Zm HO0.out).2.2);(case side2=>exact(Kd.Zm HO0.out).2.1);rintro e w31 ⟨rfl,hb⟩;refine⟨_,rfl, ?_⟩;replace HO0:=Aside0.mk (Kd.Q2 HO0.out hb);replace HO279:=sRb HO279 hb;replace BK276:=sBk BK276 hb;replace BK282:=sBk BK282 hb;replace BK286:=sBk BK286 hb;replace HB:=sHb hb;(try clear hb);(try clear hb2);(try clear hk);(try clear hi))|((with_reducible refine Qz (N:=6) rfl ?_);refine qE 6 #[.int .i64 0,.int .i64 0,.int .i64 0] 75 ?_;intro gb291 hg w32 hbox hb;have BK291:=Aside0.mk hbox;have GW291:=sGe hg;have GE291:=sGe hg;have NB276_291:=sNl BK276 hg;have NB291_276:=sNg BK276 hg;have NB282_291:=sNl BK282 hg;have NB291_282:=sNg BK282 hg;have NB286_291:=sNl BK286 hg;have NB291_286:=sNg BK286 hg;replace HO0:=Aside0.mk (Kd.Q2 (Kd.Q9 HO0.out gb291 (Nat.le_of_eq hg.symm)) hb);replace HO279:=sRb HO279 hb;replace BK276:=sBk BK276 hb;replace BK282:=sBk BK282 hb;replace BK286:=sBk BK286 hb;replace HB:=sHb hb;clear hb hbox hg;have hnb33:=NB291_276.out;have hnc33:=NB276_291.out;have hnb34:=NB291_282.out;have hnc34:=NB282_291.out;have hnb35:=NB291_286.out;have hnc35:=NB286_291.out;obtain⟨hcz36_0,hcz36_1,hcz36_2,hfz36_0,hfz36_1,hfz36_2⟩:=qD3 BK291.out))
        (try simp only[Act.put,qS])
        go_cut [58] (fun v58 wc=>∃ (kq:Nat) (x58_11:Bool),v58 = .bool x58_11∧Aside0 (newelref12_Read.j0 kq l0 x58_11 (rd t277 0) (rd t277 1) (rd t277 2) t288 t289 t290=some (r1,r2,r3,r4,r5))∧Aside0 (kq≤k)∧Aside0 (Kd.V (Kd.int .u8) 5 wc w.heap.size (fun k_=>(P0_ k_∨w.heap.size≤k_)∧some k_≠((.slice (some ad283) t277.length co16):Value).ownBlock∧k_≠gb276∧k_≠gb282∧k_≠gb286∧k_≠gb291) (.slice A0 l0.length c0) l0)∧Aside0 (Kd.R (Kd.int .i64) 3 wc w.heap.size (fun k_=>(w.heap.size≤k_)) (.slice (some ad283) t277.length co16) t277)∧Aside0 (wc.heap[gb276]?=some (.cells #[.int .i64 0,.int .i64 0,.int .i64 0,(.slice none 0 0),.int .i64 0] 62 (0,0)))∧Aside0 (wc.heap[gb282]?=some (.cells #[(.slice (some ad283) t277.length co16),.int .i64 t280,.int .i64 t281] 72 (0,0)))∧Aside0 (wc.heap[gb286]?=some (.cells #[.int .i64 (rd t277 0),.int .i64 (rd t277 1),.int .i64 (rd t277 2),(.slice none 0 0)] 26 (0,0)))∧Aside0 (wc.heap[gb291]?=some (.cells #[.int .i64 t288,.int .i64 t289,.int .i64 t290] 75 (0,0)))∧Aside0 (Below w.heap.size w wc))
        case first=>
         have H:=HC12.out
         clear HC12
         by_cases c37:t288<0
         ·rw[if_pos c37] at H
          have c37b0:decide (t288<0)=true:=decide_eq_true c37
          clear c37
          (first|rw[c37b0]|(simp only[Zu,Z4];rw[c37b0])|skip)
          have H':=Aside0.mk H
          clear H
          have hnb38:=NB291_276.out
          have hnc38:=NB276_291.out
          have hnb39:=NB291_282.out
          have hnc39:=NB282_291.out
          have hnb40:=NB291_286.out
          have hnc40:=NB286_291.out
          obtain⟨hcz41_0,hcz41_1,hcz41_2,hfz41_0,hfz41_1,hfz41_2⟩:=qD3 BK291.out
          go_wp2
          go_meet
          case rel=>exact⟨_,(true),qR,H',⟨by first|omega|exact Nat.le_refl _⟩,⟨by(with_reducible repeat first|apply Kd.Qx|apply Kd.Qw|apply Kd.Q0);exact Kd.Qt (Kd.Qq (p:=⟨gb291,2,none⟩) (Kd.Qq (p:=⟨gb291,1,none⟩) (Kd.Qq (p:=⟨gb291,0,none⟩) (Kd.Qt HO0.out (fun k_ hk=>(⟨hk,hk.2⟩:_∧k_≠gb291))) (fun _ hk=>hk.2) (.int .i64 t288)) (fun _ hk=>hk.2) (.int .i64 t289)) (fun _ hk=>hk.2) (.int .i64 t290)) (fun _ hk=>⟨hk.1.1.1.1,⟨hk.1.1.1.2.1,⟨hk.1.1.1.2.2.1,⟨hk.1.1.1.2.2.2,⟨hk.1.1.2,hk.1.2⟩⟩⟩⟩⟩)⟩,⟨by(with_reducible repeat first|apply Kd.Qi|apply Kd.Qh|apply Kd.Ql);exact Kd.Qu (Kd.Qm (Kd.Qm (Kd.Qm (Kd.Qy HO279.out BK291.out (by decide)) (fun _ hk=>hk.2) (.int .i64 t288)) (fun _ hk=>hk.2) (.int .i64 t289)) (fun _ hk=>hk.2) (.int .i64 t290)) (fun _ hk=>hk.1)⟩,⟨bka BK276⟩,⟨bka BK282⟩,⟨bka BK286⟩,⟨by(with_reducible repeat first|apply Qb|apply Qd|apply Qc);refine Qk (cs:=#[.int .i64 t288,.int .i64 t289,.int .i64 0]) ?_ 2 _ rfl;(with_reducible repeat first|apply Qb|apply Qd|apply Qc);refine Qk (cs:=#[.int .i64 t288,.int .i64 0,.int .i64 0]) ?_ 1 _ rfl;(with_reducible repeat first|apply Qb|apply Qd|apply Qc);refine Qk (cs:=#[.int .i64 0,.int .i64 0,.int .i64 0]) ?_ 0 _ rfl;(with_reducible repeat first|apply Qb|apply Qd|apply Qc);exact BK291.out⟩,⟨bel⟩⟩
         ·rw[if_neg c37] at H
          have c37b0:decide (t288<0)=false:=decide_eq_false c37
          clear c37
          (first|rw[c37b0]|(simp only[Zu,Z4];rw[c37b0])|skip)
          have H':=Aside0.mk H
          clear H
          have hnb42:=NB291_276.out
          have hnc42:=NB276_291.out
          have hnb43:=NB291_282.out
          have hnc43:=NB282_291.out
          have hnb44:=NB291_286.out
          have hnc44:=NB286_291.out
          obtain⟨hcz45_0,hcz45_1,hcz45_2,hfz45_0,hfz45_1,hfz45_2⟩:=qD3 BK291.out
          go_wp2
          go_meet
          case rel=>exact⟨_,(decide (t288>4096)),qR,H',⟨by first|omega|exact Nat.le_refl _⟩,⟨by(with_reducible repeat first|apply Kd.Qx|apply Kd.Qw|apply Kd.Q0);exact Kd.Qt (Kd.Qq (p:=⟨gb291,2,none⟩) (Kd.Qq (p:=⟨gb291,1,none⟩) (Kd.Qq (p:=⟨gb291,0,none⟩) (Kd.Qt HO0.out (fun k_ hk=>(⟨hk,hk.2⟩:_∧k_≠gb291))) (fun _ hk=>hk.2) (.int .i64 t288)) (fun _ hk=>hk.2) (.int .i64 t289)) (fun _ hk=>hk.2) (.int .i64 t290)) (fun _ hk=>⟨hk.1.1.1.1,⟨hk.1.1.1.2.1,⟨hk.1.1.1.2.2.1,⟨hk.1.1.1.2.2.2,⟨hk.1.1.2,hk.1.2⟩⟩⟩⟩⟩)⟩,⟨by(with_reducible repeat first|apply Kd.Qi|apply Kd.Qh|apply Kd.Ql);exact Kd.Qu (Kd.Qm (Kd.Qm (Kd.Qm (Kd.Qy HO279.out BK291.out (by decide)) (fun _ hk=>hk.2) (.int .i64 t288)) (fun _ hk=>hk.2) (.int .i64 t289)) (fun _ hk=>hk.2) (.int .i64 t290)) (fun _ hk=>hk.1)⟩,⟨bka BK276⟩,⟨bka BK282⟩,⟨bka BK286⟩,⟨by(with_reducible repeat first|apply Qb|apply Qd|apply Qc);refine Qk (cs:=#[.int .i64 t288,.int .i64 t289,.int .i64 0]) ?_ 2 _ rfl;(with_reducible repeat first|apply Qb|apply Qd|apply Qc);refine Qk (cs:=#[.int .i64 t288,.int .i64 0,.int .i64 0]) ?_ 1 _ rfl;(with_reducible repeat first|apply Qb|apply Qd|apply Qc);refine Qk (cs:=#[.int .i64 0,.int .i64 0,.int .i64 0]) ?_ 0 _ rfl;(with_reducible repeat first|apply Qb|apply Qd|apply Qc);exact BK291.out⟩,⟨bel⟩⟩
        case rest=>
         clear HC12
         try clear c1
         try clear c2
         try clear p2
         try clear q2
         try clear hx2
         try clear qi2
         try clear c3
         try clear c3b0
         try clear c3b1
         try clear c4
         try clear c4b0
         try clear c4b1
         try clear c5
         try clear c5b0
         try clear c5b1
         try clear c6
         try clear c6b0
         try clear c6b1
         try clear c7
         try clear c7b0
         try clear c7b1
         try clear c9
         try clear c11
         try clear c11b0
         try clear c11b1
         try clear c17
         try clear c21
         try clear c26
         try clear c27
         try clear p28
         try clear q28
         try clear hx28
         try clear qi28
         try clear c33
         try clear c34
         try clear c35
         try clear c37
         try clear c37b0
         try clear c38
         try clear c39
         try clear c40
         try clear c42
         try clear c43
         try clear c44
         try clear hcz18_0
         try clear hcz18_1
         try clear hcz18_2
         try clear hcz28_0
         try clear hcz28_1
         try clear hcz28_2
         try clear hcz28_3
         try clear hcz30_0
         try clear hcz30_1
         try clear hcz30_2
         try clear hcz36_0
         try clear hcz36_1
         try clear hcz36_2
         try clear hcz41_0
         try clear hcz41_1
         try clear hcz41_2
         try clear hcz45_0
         try clear hcz45_1
         try clear hcz45_2
         try clear hfz18_0
         try clear hfz18_1
         try clear hfz18_2
         try clear hfz28_0
         try clear hfz28_1
         try clear hfz28_2
         try clear hfz28_3
         try clear hfz30_0
         try clear hfz30_1
         try clear hfz30_2
         try clear hfz36_0
         try clear hfz36_1
         try clear hfz36_2
         try clear hfz41_0
         try clear hfz41_1
         try clear hfz41_2
         try clear hfz45_0
         try clear hfz45_1
         try clear hfz45_2
         try clear hx283_0
         try clear hx284_0
         try clear hx285_0
         try clear p283
         try clear p284
         try clear p285
         try clear q283
         try clear q284
         try clear q285
         obtain⟨kq,x58_11,rfl,HA,HJ11,HO_0,HO_283000,BK276,BK282,BK286,BK291,HB⟩:=hcut
         cases kq with
         |zero=>exact absurd HA.out (by simp[newelref12_Read.j0])
         |succ kj11=>
          have H:=HA.out
          clear HA
          simp only[newelref12_Read.j0] at H
          by_cases c46:x58_11=true
          ·subst c46
           have H1:(some (0,0,0,([]:List Int),120))=some (r1,r2,r3,r4,r5):=by rw[if_pos rfl] at H;exact H
           clear H
           have H:=H1
           clear H1
           simp only[Option.some.injEq,Prod.mk.injEq] at H
           obtain⟨rfl,rfl,rfl,rfl,rfl⟩:=H
           have hnb47:=NB276_282.out
           have hnc47:=NB282_276.out
           have hnb48:=NB276_286.out
           have hnc48:=NB286_276.out
           have hnb49:=NB276_291.out
           have hnc49:=NB291_276.out
           obtain⟨hcz50_0,hcz50_1,hcz50_2,hcz50_3,hcz50_4,hfz50_0,hfz50_1,hfz50_2,hfz50_3,hfz50_4⟩:=qD5 BK276.out
           go_wp2
           refine bodyPost_ret (results_cell_row rfl _ _ gb276 62 #[.int .i64 0,.int .i64 0,.int .i64 0,.slice none 0 0,.int .i64 120] (0,0) _ rfl (by refine Qk (cs:=#[.int .i64 0,.int .i64 0,.int .i64 0,.slice none 0 0,.int .i64 0]) ?_ 4 _ rfl;refine Qk (cs:=#[.int .i64 0,.int .i64 0,.int .i64 0,.slice none 0 0,.int .i64 0]) ?_ 3 _ rfl;refine Qk (cs:=#[.int .i64 0,.int .i64 0,.int .i64 0,.slice none 0 0,.int .i64 0]) ?_ 2 _ rfl;refine Qk (cs:=#[.int .i64 0,.int .i64 0,.int .i64 0,.slice none 0 0,.int .i64 0]) ?_ 1 _ rfl;refine Qk (cs:=#[.int .i64 0,.int .i64 0,.int .i64 0,.slice none 0 0,.int .i64 0]) ?_ 0 _ rfl;exact BK276.out) Tryd.underlying62 rfl kr) rfl ?_
           refine⟨.slice none 0 0,by first|rfl|(simp[Qo,Qn] <;> rfl)|(simp[*,Qo,Qn] <;> rfl),Kd.Qt (Kd.R_V (Kd.Z1 _ _ _ w.heap.size _)) (fun k_ hk=>by first|exact⟨(.inr (hk.1)),hk.2⟩|exact(.inr (hk))),bel⟩
          ·replace c46:=Bool.eq_false_iff.mpr c46
           subst c46
           have H1:(if (wrap64 ((l0.length:Int)-t289))<(wrap64 (t288+2)) then (some (0,0,0,([]:List Int),121)) else (if (wrap64 ((l0.length:Int)-t289))>(wrap64 (t288+2)) then (some (0,0,0,([]:List Int),122)) else ((newelref09_Open.f kj11 l0).bind fun bt292=>(if bt292.2=0 then (if 0≤t289 then (if t289≤(wrap64 (t289+t288)) then (if (wrap64 (t289+t288))≤(l0.length:Int) then (some ((rd t277 0),(rd t277 1),(rd t277 2),((l0.take ((wrap64 (t289+t288)):Int).toNat).drop (t289:Int).toNat),0)) else (none)) else (none)) else (none)) else (some (0,0,0,([]:List Int),bt292.2))))))=some (r1,r2,r3,r4,r5):=by rw[if_neg (show ¬ (false=true) by decide)] at H;exact H
           clear H
           have H:=H1
           clear H1
           by_cases c51:(wrap64 ((l0.length:Int)-t289))<(wrap64 (t288+2))
           ·rw[if_pos c51] at H
            have c51b0:decide ((wrap64 ((l0.length:Int)-t289))<(wrap64 (t288+2)))=true:=decide_eq_true c51
            clear c51
            simp only[Option.some.injEq,Prod.mk.injEq] at H
            obtain⟨rfl,rfl,rfl,rfl,rfl⟩:=H
            have hnb52:=NB291_276.out
            have hnc52:=NB276_291.out
            have hnb53:=NB291_282.out
            have hnc53:=NB282_291.out
            have hnb54:=NB291_286.out
            have hnc54:=NB286_291.out
            obtain⟨hcz55_0,hcz55_1,hcz55_2,hfz55_0,hfz55_1,hfz55_2⟩:=qD3 BK291.out
            have hnb56:=NB276_282.out
            have hnc56:=NB282_276.out
            have hnb57:=NB276_286.out
            have hnc57:=NB286_276.out
            obtain⟨hcz58_0,hcz58_1,hcz58_2,hcz58_3,hcz58_4,hfz58_0,hfz58_1,hfz58_2,hfz58_3,hfz58_4⟩:=qD5 BK276.out
            go_wp2
            refine bodyPost_ret (results_cell_row rfl _ _ gb276 62 #[.int .i64 0,.int .i64 0,.int .i64 0,.slice none 0 0,.int .i64 121] (0,0) _ rfl (by refine Qk (cs:=#[.int .i64 0,.int .i64 0,.int .i64 0,.slice none 0 0,.int .i64 0]) ?_ 4 _ rfl;refine Qk (cs:=#[.int .i64 0,.int .i64 0,.int .i64 0,.slice none 0 0,.int .i64 0]) ?_ 3 _ rfl;refine Qk (cs:=#[.int .i64 0,.int .i64 0,.int .i64 0,.slice none 0 0,.int .i64 0]) ?_ 2 _ rfl;refine Qk (cs:=#[.int .i64 0,.int .i64 0,.int .i64 0,.slice none 0 0,.int .i64 0]) ?_ 1 _ rfl;refine Qk (cs:=#[.int .i64 0,.int .i64 0,.int .i64 0,.slice none 0 0,.int .i64 0]) ?_ 0 _ rfl;exact BK276.out) Tryd.underlying62 rfl kr) rfl ?_
            refine⟨.slice none 0 0,by first|rfl|(simp[Qo,Qn] <;> rfl)|(simp[*,Qo,Qn] <;> rfl),Kd.Qt (Kd.R_V (Kd.Z1 _ _ _ w.heap.size _)) (fun k_ hk=>by first|exact⟨(.inr (hk.1)),hk.2⟩|exact(.inr (hk))),bel⟩
           ·rw[if_neg c51] at H
            have c51b0:decide ((wrap64 ((l0.length:Int)-t289))<(wrap64 (t288+2)))=false:=decide_eq_false c51
            clear c51
            by_cases c59:(wrap64 ((l0.length:Int)-t289))>(wrap64 (t288+2))
            ·rw[if_pos c59] at H
             have c59b0:decide ((wrap64 (t288+2))<(wrap64 ((l0.length:Int)-t289)))=true:=decide_eq_true c59
             clear c59
             simp only[Option.some.injEq,Prod.mk.injEq] at H
             obtain⟨rfl,rfl,rfl,rfl,rfl⟩:=H
             have hnb60:=NB291_276.out
             have hnc60:=NB276_291.out
             have hnb61:=NB291_282.out
             have hnc61:=NB282_291.out
             have hnb62:=NB291_286.out
             have hnc62:=NB286_291.out
             obtain⟨hcz63_0,hcz63_1,hcz63_2,hfz63_0,hfz63_1,hfz63_2⟩:=qD3 BK291.out
             have hnb64:=NB276_282.out
             have hnc64:=NB282_276.out
             have hnb65:=NB276_286.out
             have hnc65:=NB286_276.out
             obtain⟨hcz66_0,hcz66_1,hcz66_2,hcz66_3,hcz66_4,hfz66_0,hfz66_1,hfz66_2,hfz66_3,hfz66_4⟩:=qD5 BK276.out
             go_wp2
             refine bodyPost_ret (results_cell_row rfl _ _ gb276 62 #[.int .i64 0,.int .i64 0,.int .i64 0,.slice none 0 0,.int .i64 122] (0,0) _ rfl (by refine Qk (cs:=#[.int .i64 0,.int .i64 0,.int .i64 0,.slice none 0 0,.int .i64 0]) ?_ 4 _ rfl;refine Qk (cs:=#[.int .i64 0,.int .i64 0,.int .i64 0,.slice none 0 0,.int .i64 0]) ?_ 3 _ rfl;refine Qk (cs:=#[.int .i64 0,.int .i64 0,.int .i64 0,.slice none 0 0,.int .i64 0]) ?_ 2 _ rfl;refine Qk (cs:=#[.int .i64 0,.int .i64 0,.int .i64 0,.slice none 0 0,.int .i64 0]) ?_ 1 _ rfl;refine Qk (cs:=#[.int .i64 0,.int .i64 0,.int .i64 0,.slice none 0 0,.int .i64 0]) ?_ 0 _ rfl;exact BK276.out) Tryd.underlying62 rfl kr) rfl ?_
             refine⟨.slice none 0 0,by first|rfl|(simp[Qo,Qn] <;> rfl)|(simp[*,Qo,Qn] <;> rfl),Kd.Qt (Kd.R_V (Kd.Z1 _ _ _ w.heap.size _)) (fun k_ hk=>by first|exact⟨(.inr (hk.1)),hk.2⟩|exact(.inr (hk))),bel⟩
            ·rw[if_neg c59] at H
             have c59b0:decide ((wrap64 (t288+2))<(wrap64 ((l0.length:Int)-t289)))=false:=decide_eq_false c59
             clear c59
             replace H:=Option.bind_eq_some_iff.mp H
             obtain⟨⟨t292,t295⟩,A670,H⟩:=H
             replace H:(if t295=0 then (if 0≤t289 then (if t289≤(wrap64 (t289+t288)) then (if (wrap64 (t289+t288))≤(l0.length:Int) then (some ((rd t277 0),(rd t277 1),(rd t277 2),((l0.take ((wrap64 (t289+t288)):Int).toNat).drop (t289:Int).toNat),0)) else (none)) else (none)) else (none)) else (some (0,0,0,([]:List Int),t295)))=some (r1,r2,r3,r4,r5):=H
             have A67:=Aside0.mk A670
             clear A670
             by_cases c68:t295=0
             ·rw[if_pos c68] at H
              have c68b0:(t295==0)=true:=beq_iff_eq.mpr c68
              have c68b1:(t295 != 0)=false:=bne_eq_false_iff_eq.mpr c68
              clear c68
              by_cases c69:0≤t289
              ·rw[if_pos c69] at H
               have c69b0:=eq_true c69
               have c69b1:decide (0≤t289)=true:=decide_eq_true c69
               clear c69
               by_cases c70:t289≤(wrap64 (t289+t288))
               ·rw[if_pos c70] at H
                have c70b0:=eq_true c70
                have c70b1:decide (t289≤(wrap64 (t289+t288)))=true:=decide_eq_true c70
                by_cases c71:(wrap64 (t289+t288))≤(l0.length:Int)
                ·rw[if_pos c71] at H
                 have c71b0:=eq_true c71
                 have c71b1:decide ((wrap64 (t289+t288))≤(l0.length:Int))=true:=decide_eq_true c71
                 obtain⟨y296,hy296⟩:∃ y_:List Int,y_=((l0.take ((wrap64 (t289+t288)):Int).toNat).drop (t289:Int).toNat):=⟨_,rfl⟩
                 replace H:(some ((rd t277 0),(rd t277 1),(rd t277 2),y296,0))=some (r1,r2,r3,r4,r5):=by first|(rw[hy296];with_reducible exact H)|(have H2_:=(Option.bind_some _ _).symm.trans H;rw[hy296];with_reducible exact H2_)|(have H2_:=(Option.bind_some _ _).symm.trans H;with_reducible exact H2_)|with_reducible exact H|(rw[hy296];exact H)|exact H
                 have Ny296:=Aside0.mk hy296
                 clear hy296
                 simp only[Option.some.injEq,Prod.mk.injEq] at H
                 obtain⟨rfl,rfl,rfl,rfl,rfl⟩:=H
                 have hnb72:=NB291_276.out
                 have hnc72:=NB276_291.out
                 have hnb73:=NB291_282.out
                 have hnc73:=NB282_291.out
                 have hnb74:=NB291_286.out
                 have hnc74:=NB286_291.out
                 obtain⟨hcz75_0,hcz75_1,hcz75_2,hfz75_0,hfz75_1,hfz75_2⟩:=qD3 BK291.out
                 go_wp2_with (first|((with_reducible refine Qv (f:=40) rfl ?_);refine Ze (some 79) rfl rfl Tryd.func40 kr rfl #[.slice A0 l0.length c0] rfl qM ?_;(with_reducible refine(newelref09_Open.calls kj11 (fun k_=>((P0_ k_∨w.heap.size≤k_)∧(some k_≠(.slice (some ad283) t277.length co16:Value).ownBlock∧(k_≠gb276∧(k_≠gb282∧(k_≠gb286∧k_≠gb291)))))) _ _ l0 t292 t295 _ ?side1 A67.out).mono ?_);(case side1=>exact HO_0.out);rintro e w76 ⟨v293,rfl,ho0,hb⟩;refine⟨_,rfl, ?_⟩;have HO294:=Aside0.mk (Kd.Y1 (Kd.Qt (ok':=fun k_=>(P0_ k_∨w.heap.size≤k_)∧some k_≠(.slice (some ad283) t277.length co16:Value).ownBlock∧k_≠gb276∧k_≠gb282∧k_≠gb286∧k_≠gb291) ho0 (fun k_ hk_=>⟨Or.elim hk_ (fun hs_=>hs_.1) (fun hn_=>(.inr (Nat.le_trans (Qj HB.out) hn_))),Or.elim hk_ (fun hs_=>hs_.2.1) (fun hn_=>(Kd.fresh' (Kd.Zp HO_283000.out) k_ hn_)),Or.elim hk_ (fun hs_=>hs_.2.2.1) (fun hn_=>(Kd.Z5 (g:=gb276) (o:=.cells #[.int .i64 0,.int .i64 0,.int .i64 0,.slice none 0 0,.int .i64 0] 62 (0,0)) BK276.out k_ hn_)),Or.elim hk_ (fun hs_=>hs_.2.2.2.1) (fun hn_=>(Kd.Z5 (g:=gb282) (o:=.cells #[.slice (some ad283) t277.length co16,.int .i64 t280,.int .i64 t281] 72 (0,0)) BK282.out k_ hn_)),Or.elim hk_ (fun hs_=>hs_.2.2.2.2.1) (fun hn_=>(Kd.Z5 (g:=gb286) (o:=.cells #[.int .i64 (rd t277 0),.int .i64 (rd t277 1),.int .i64 (rd t277 2),.slice none 0 0] 26 (0,0)) BK286.out k_ hn_)),Or.elim hk_ (fun hs_=>hs_.2.2.2.2.2) (fun hn_=>(Kd.Z5 (g:=gb291) (o:=.cells #[.int .i64 t288,.int .i64 t289,.int .i64 t290] 75 (0,0)) BK291.out k_ hn_))⟩)) (Qj HB.out));replace HO_0:=Aside0.mk (Kd.Q2 HO_0.out hb);replace HO_283000:=sRb HO_283000 hb;replace BK276:=sBk BK276 hb;replace BK282:=sBk BK282 hb;replace BK286:=sBk BK286 hb;replace BK291:=sBk BK291 hb;replace HB:=sHb hb;(try clear hb);(try clear hb2);(try clear hk);(try clear hi);(try clear ho0);obtain⟨hcz77_0,hcz77_1,hcz77_2,hfz77_0,hfz77_1,hfz77_2⟩:=qD3 BK291.out;have q78:((wrap64 (t289+t288)):Int)≤((l0.length:Int):Int):=of_decide_eq_true (by assumption);obtain⟨i078,hi078,_,hsz78,_⟩:=info_parts Zx;have hroom78:l0.length≤c0:=(Kd.Zm HO_0.out).2.1;have hC78:Kd.F (Kd.int .u8) _ _ A0 l0.length l0:=(Kd.Ul (base:=w.heap.size) HO_0.out).2.2;have ql78:(t289:Int)≤((wrap64 (t289+t288)):Int):=of_decide_eq_true (by assumption);have q078:(0:Int)≤(t289:Int):=of_decide_eq_true (by assumption);have hcut78:=N8 (P:=Tryd.prog) 22 5 .i64 .i64 Tryd.underlying22 hi078 1 hsz78 A0 l0.length c0 t289 (wrap64 (t289+t288)) q078 ql78 q78 hroom78;have hr78:=Kd.F_mid (lo:=(t289:Int).toNat) (hi:=((wrap64 (t289+t288)):Int).toNat) (c:=c0) hC78 (by omega) (by omega) hroom78;obtain⟨A78,hA78⟩:∃ A1,A1=(if c0=(t289:Int).toNat then A0 else (A0:Option Addr).map (·.add ((t289:Int).toNat * 1))):=⟨_,rfl⟩;obtain⟨c78,hc78⟩:∃ c1,c1=c0 - (t289:Int).toNat:=⟨_,rfl⟩;have hy78:y296.length=((wrap64 (t289+t288)):Int).toNat - (t289:Int).toNat:=(by rw[Ny296.out,List.length_drop,List.length_take] <;> omega);rw[show((l0).take ((wrap64 (t289+t288)):Int).toNat).drop (t289:Int).toNat=y296 from Ny296.out.symm] at hr78;replace hr78:Kd.F (Kd.int .u8) _ _ A78 y296.length y296:=(by rw[hA78];exact hr78);rw[← hy78,← hA78,← hc78] at hcut78;have HO300:=Aside0.mk (show Kd.V (Kd.int .u8) 5 _ w.heap.size _ (.slice A78 y296.length c78) y296 from Kd.Vn (by rw[hy78,hc78];exact Nat.sub_le_sub_right (Nat.le_trans (by omega) hroom78) _) hr78);have HC300:=Aside0.mk (show y296.length≤c78 from by rw[hy78,hc78];exact Nat.sub_le_sub_right (Nat.le_trans (by omega) hroom78) _);clear hr78 hC78 hroom78 hi078 hsz78 hc78;have KY78:=Aside0.mk hy78;have KA78:=Aside0.mk hA78;clear hy78 hA78;replace q78:=eq_true q78;have hnb79:=NB286_276.out;have hnc79:=NB276_286.out;have hnb80:=NB286_282.out;have hnc80:=NB282_286.out;obtain⟨hcz81_0,hcz81_1,hcz81_2,hcz81_3,hfz81_0,hfz81_1,hfz81_2,hfz81_3⟩:=qD4 BK286.out;have hnb82:=NB276_282.out;have hnc82:=NB282_276.out;obtain⟨hcz83_0,hcz83_1,hcz83_2,hcz83_3,hcz83_4,hfz83_0,hfz83_1,hfz83_2,hfz83_3,hfz83_4⟩:=qD5 BK276.out))
                 refine bodyPost_ret (results_cell_row rfl _ _ gb276 62 #[.int .i64 (rd t277 0),.int .i64 (rd t277 1),.int .i64 (rd t277 2),.slice A78 y296.length c78,.int .i64 0] (0,0) _ rfl (by refine Qk (cs:=#[.int .i64 (rd t277 0),.int .i64 (rd t277 1),.int .i64 (rd t277 2),.slice A78 y296.length c78,.int .i64 0]) ?_ 4 _ rfl;refine Qk (cs:=#[.int .i64 (rd t277 0),.int .i64 (rd t277 1),.int .i64 (rd t277 2),.slice none 0 0,.int .i64 0]) ?_ 3 _ rfl;refine Qk (cs:=#[.int .i64 (rd t277 0),.int .i64 (rd t277 1),.int .i64 0,.slice none 0 0,.int .i64 0]) ?_ 2 _ rfl;refine Qk (cs:=#[.int .i64 (rd t277 0),.int .i64 0,.int .i64 0,.slice none 0 0,.int .i64 0]) ?_ 1 _ rfl;refine Qk (cs:=#[.int .i64 0,.int .i64 0,.int .i64 0,.slice none 0 0,.int .i64 0]) ?_ 0 _ rfl;refine Qs ?_ NB276_286.out _;exact BK276.out) Tryd.underlying62 rfl kr) rfl ?_
                 exact⟨_,by first|rfl|(simp[Qo,Qn] <;> rfl)|(simp[*,Qo,Qn] <;> rfl),by(with_reducible repeat first|apply Kd.Qx|apply Kd.Qw|apply Kd.Q0);exact Kd.Qt (Kd.Qq (p:=⟨gb276,4,none⟩) (Kd.Qq (p:=⟨gb276,3,none⟩) (Kd.Qq (p:=⟨gb276,2,none⟩) (Kd.Qq (p:=⟨gb276,1,none⟩) (Kd.Qq (p:=⟨gb276,0,none⟩) (Kd.Qq (p:=⟨gb286,3,none⟩) (Kd.Qt (Kd.Qt HO300.out (fun k_ hk=>(⟨hk,hk.2.2.2.2.1⟩:_∧k_≠gb286))) (fun k_ hk=>(⟨hk,hk.1.2.2.1⟩:_∧k_≠gb276))) (fun _ hk=>hk.1.2) (.slice A78 y296.length c78)) (fun _ hk=>hk.2) (.int .i64 (rd t277 0))) (fun _ hk=>hk.2) (.int .i64 (rd t277 1))) (fun _ hk=>hk.2) (.int .i64 (rd t277 2))) (fun _ hk=>hk.2) (.slice A78 y296.length c78)) (fun _ hk=>hk.2) (.int .i64 0)) (fun _ hk=>hk.1.1.1),bel⟩
                ·rw[if_neg c71] at H
                 exact absurd H (by simp)
               ·rw[if_neg c70] at H
                exact absurd H (by simp)
              ·rw[if_neg c69] at H
               exact absurd H (by simp)
             ·rw[if_neg c68] at H
              have c68b0:(t295==0)=false:=beq_eq_false_iff_ne.mpr c68
              have c68b1:(t295 != 0)=true:=bne_iff_ne.mpr c68
              simp only[Option.some.injEq,Prod.mk.injEq] at H
              obtain⟨rfl,rfl,rfl,rfl,rfl⟩:=H
              have hnb84:=NB291_276.out
              have hnc84:=NB276_291.out
              have hnb85:=NB291_282.out
              have hnc85:=NB282_291.out
              have hnb86:=NB291_286.out
              have hnc86:=NB286_291.out
              obtain⟨hcz87_0,hcz87_1,hcz87_2,hfz87_0,hfz87_1,hfz87_2⟩:=qD3 BK291.out
              go_wp2_with (first|((with_reducible refine Qv (f:=40) rfl ?_);refine Ze (some 79) rfl rfl Tryd.func40 kr rfl #[.slice A0 l0.length c0] rfl qM ?_;(with_reducible refine(newelref09_Open.calls kj11 (fun k_=>((P0_ k_∨w.heap.size≤k_)∧(some k_≠(.slice (some ad283) t277.length co16:Value).ownBlock∧(k_≠gb276∧(k_≠gb282∧(k_≠gb286∧k_≠gb291)))))) _ _ l0 t292 t295 _ ?side1 A67.out).mono ?_);(case side1=>exact HO_0.out);rintro e w88 ⟨v293,rfl,ho0,hb⟩;refine⟨_,rfl, ?_⟩;have HO294:=Aside0.mk (Kd.Y1 (Kd.Qt (ok':=fun k_=>(P0_ k_∨w.heap.size≤k_)∧some k_≠(.slice (some ad283) t277.length co16:Value).ownBlock∧k_≠gb276∧k_≠gb282∧k_≠gb286∧k_≠gb291) ho0 (fun k_ hk_=>⟨Or.elim hk_ (fun hs_=>hs_.1) (fun hn_=>(.inr (Nat.le_trans (Qj HB.out) hn_))),Or.elim hk_ (fun hs_=>hs_.2.1) (fun hn_=>(Kd.fresh' (Kd.Zp HO_283000.out) k_ hn_)),Or.elim hk_ (fun hs_=>hs_.2.2.1) (fun hn_=>(Kd.Z5 (g:=gb276) (o:=.cells #[.int .i64 0,.int .i64 0,.int .i64 0,.slice none 0 0,.int .i64 0] 62 (0,0)) BK276.out k_ hn_)),Or.elim hk_ (fun hs_=>hs_.2.2.2.1) (fun hn_=>(Kd.Z5 (g:=gb282) (o:=.cells #[.slice (some ad283) t277.length co16,.int .i64 t280,.int .i64 t281] 72 (0,0)) BK282.out k_ hn_)),Or.elim hk_ (fun hs_=>hs_.2.2.2.2.1) (fun hn_=>(Kd.Z5 (g:=gb286) (o:=.cells #[.int .i64 (rd t277 0),.int .i64 (rd t277 1),.int .i64 (rd t277 2),.slice none 0 0] 26 (0,0)) BK286.out k_ hn_)),Or.elim hk_ (fun hs_=>hs_.2.2.2.2.2) (fun hn_=>(Kd.Z5 (g:=gb291) (o:=.cells #[.int .i64 t288,.int .i64 t289,.int .i64 t290] 75 (0,0)) BK291.out k_ hn_))⟩)) (Qj HB.out));replace HO_0:=Aside0.mk (Kd.Q2 HO_0.out hb);replace HO_283000:=sRb HO_283000 hb;replace BK276:=sBk BK276 hb;replace BK282:=sBk BK282 hb;replace BK286:=sBk BK286 hb;replace BK291:=sBk BK291 hb;replace HB:=sHb hb;(try clear hb);(try clear hb2);(try clear hk);(try clear hi);(try clear ho0);have hnb89:=NB276_282.out;have hnc89:=NB282_276.out;have hnb90:=NB276_286.out;have hnc90:=NB286_276.out;obtain⟨hcz91_0,hcz91_1,hcz91_2,hcz91_3,hcz91_4,hfz91_0,hfz91_1,hfz91_2,hfz91_3,hfz91_4⟩:=qD5 BK276.out))
              refine bodyPost_ret (results_cell_row rfl _ _ gb276 62 #[.int .i64 0,.int .i64 0,.int .i64 0,.slice none 0 0,.int .i64 t295] (0,0) _ rfl (by refine Qk (cs:=#[.int .i64 0,.int .i64 0,.int .i64 0,.slice none 0 0,.int .i64 0]) ?_ 4 _ rfl;refine Qk (cs:=#[.int .i64 0,.int .i64 0,.int .i64 0,.slice none 0 0,.int .i64 0]) ?_ 3 _ rfl;refine Qk (cs:=#[.int .i64 0,.int .i64 0,.int .i64 0,.slice none 0 0,.int .i64 0]) ?_ 2 _ rfl;refine Qk (cs:=#[.int .i64 0,.int .i64 0,.int .i64 0,.slice none 0 0,.int .i64 0]) ?_ 1 _ rfl;refine Qk (cs:=#[.int .i64 0,.int .i64 0,.int .i64 0,.slice none 0 0,.int .i64 0]) ?_ 0 _ rfl;exact BK276.out) Tryd.underlying62 rfl kr) rfl ?_
              refine⟨.slice none 0 0,by first|rfl|(simp[Qo,Qn] <;> rfl)|(simp[*,Qo,Qn] <;> rfl),Kd.Qt (Kd.R_V (Kd.Z1 _ _ _ w.heap.size _)) (fun k_ hk=>by first|exact⟨(.inr (hk.1)),hk.2⟩|exact(.inr (hk))),bel⟩
       ·rw[if_neg c11] at H
        have c11b0:(t290==0)=false:=beq_eq_false_iff_ne.mpr c11
        have c11b1:(t290 != 0)=true:=bne_iff_ne.mpr c11
        simp only[Option.some.injEq,Prod.mk.injEq] at H
        obtain⟨rfl,rfl,rfl,rfl,rfl⟩:=H
        go_enter Tryd.func26,Tryd.ntmps26
        try go_wp2_with (first|((with_reducible refine Qz (N:=2) rfl ?_);refine qE 2 #[.int .i64 0,.int .i64 0,.int .i64 0,.slice none 0 0,.int .i64 0] 62 ?_;intro gb276 hg w92 hbox hb;have BK276:=Aside0.mk hbox;have GW276:=sGe hg;have GE276:=sGe hg;replace HO0:=Aside0.mk (Kd.Q2 (Kd.Q9 HO0.out gb276 (Nat.le_of_eq hg.symm)) hb);replace HB:=sHb hb;clear hb hbox hg)|((with_reducible refine Qv (f:=38) rfl ?_);refine Ze (some 11) rfl rfl Tryd.func38 kr rfl #[.slice A0 l0.length c0,.int .i64 0,.int .i64 3] rfl qM ?_;(with_reducible refine(newelref08_GetRow.calls k _ _ l0 0 3 t277 t280 t281 _ ?side1 ?side2 A2.out).mono ?_);(case side1=>exact(Kd.Zm HO0.out).2.2);(case side2=>exact(Kd.Zm HO0.out).2.1);rintro e w93 ⟨v278,rfl,ho0,hb⟩;refine⟨_,rfl, ?_⟩;have HO279:=Aside0.mk (Kd.Zd (Kd.Kq (M:=fun k_=>(w.heap.size≤k_)) ho0 (Qj HB.out) (fun k_ h_=>h_)) (Qj HB.out));replace HO0:=Aside0.mk (Kd.Ya HO0.out (Kd.Q5 ho0) hb);replace BK276:=sBk BK276 hb;replace HB:=sHb hb;(try clear hb);(try clear hb2);(try clear hk);(try clear hi);(try clear ho0))|((with_reducible refine Qz (N:=3) rfl ?_);refine qE 3 #[.slice none 0 0,.int .i64 0,.int .i64 0] 72 ?_;intro gb282 hg w94 hbox hb;have BK282:=Aside0.mk hbox;have GW282:=sGe hg;have GE282:=sGe hg;have NB276_282:=sNl BK276 hg;have NB282_276:=sNg BK276 hg;replace HO0:=Aside0.mk (Kd.Q2 (Kd.Q9 HO0.out gb282 (Nat.le_of_eq hg.symm)) hb);replace HO279:=sRb HO279 hb;replace BK276:=sBk BK276 hb;replace HB:=sHb hb;clear hb hbox hg;obtain⟨Ao95,co95,eo95⟩:=Kd.Zf HO279.out;subst eo95;have hnb96:=NB282_276.out;have hnc96:=NB276_282.out;obtain⟨hcz97_0,hcz97_1,hcz97_2,hfz97_0,hfz97_1,hfz97_2⟩:=qD3 BK282.out))
        have n0_:Aside0 (Kd.V (Kd.int .u8) 5 (((w94.setCell ⟨gb282,0,none⟩ (.slice Ao95 t277.length co95)).setCell ⟨gb282,1,none⟩ (.int .i64 t280)).setCell ⟨gb282,2,none⟩ (.int .i64 t281)) w.heap.size (fun k_=>(P0_ k_∨w.heap.size≤k_)∧some k_≠(.slice Ao95 t277.length co95:Value).ownBlock∧k_≠gb276∧k_≠gb282) (.slice A0 l0.length c0) l0):=⟨by(with_reducible repeat first|apply Kd.Qx|apply Kd.Qw|apply Kd.Q0);exact Kd.Qt (Kd.Qq (p:=⟨gb282,2,none⟩) (Kd.Qq (p:=⟨gb282,1,none⟩) (Kd.Qq (p:=⟨gb282,0,none⟩) (Kd.Qt HO0.out (fun k_ hk=>(⟨hk,hk.2⟩:_∧k_≠gb282))) (fun _ hk=>hk.2) _) (fun _ hk=>hk.2) (.int .i64 t280)) (fun _ hk=>hk.2) (.int .i64 t281)) (fun _ hk=>⟨hk.1.1.1.1,⟨hk.1.1.2,⟨hk.1.1.1.2,hk.1.2⟩⟩⟩)⟩
        have n1_:Aside0 (Kd.R (Kd.int .i64) 3 (((w94.setCell ⟨gb282,0,none⟩ (.slice Ao95 t277.length co95)).setCell ⟨gb282,1,none⟩ (.int .i64 t280)).setCell ⟨gb282,2,none⟩ (.int .i64 t281)) w.heap.size (fun k_=>(w.heap.size≤k_)) (.slice Ao95 t277.length co95) t277):=⟨by(with_reducible repeat first|apply Kd.Qi|apply Kd.Qh|apply Kd.Ql);exact Kd.Qu (Kd.Qm (Kd.Qm (Kd.Qm (Kd.Qy HO279.out BK282.out (by decide)) (fun _ hk=>hk.2) _) (fun _ hk=>hk.2) (.int .i64 t280)) (fun _ hk=>hk.2) (.int .i64 t281)) (fun _ hk=>hk.1.1)⟩
        have n2_:Aside0 ((((w94.setCell ⟨gb282,0,none⟩ (.slice Ao95 t277.length co95)).setCell ⟨gb282,1,none⟩ (.int .i64 t280)).setCell ⟨gb282,2,none⟩ (.int .i64 t281)).heap[gb276]?=some (.cells #[.int .i64 0,.int .i64 0,.int .i64 0,.slice none 0 0,.int .i64 0] 62 (0,0))):=⟨bka BK276⟩
        have n3_:Aside0 ((((w94.setCell ⟨gb282,0,none⟩ (.slice Ao95 t277.length co95)).setCell ⟨gb282,1,none⟩ (.int .i64 t280)).setCell ⟨gb282,2,none⟩ (.int .i64 t281)).heap[gb282]?=some (.cells #[.slice Ao95 t277.length co95,.int .i64 t280,.int .i64 t281] 72 (0,0))):=⟨by refine Qk (cs:=#[.slice Ao95 t277.length co95,.int .i64 t280,.int .i64 0]) ?_ 2 _ rfl;refine Qk (cs:=#[.slice Ao95 t277.length co95,.int .i64 0,.int .i64 0]) ?_ 1 _ rfl;refine Qk (cs:=#[.slice none 0 0,.int .i64 0,.int .i64 0]) ?_ 0 _ rfl;exact BK282.out⟩
        have n4_:Aside0 (Below w.heap.size w (((w94.setCell ⟨gb282,0,none⟩ (.slice Ao95 t277.length co95)).setCell ⟨gb282,1,none⟩ (.int .i64 t280)).setCell ⟨gb282,2,none⟩ (.int .i64 t281))):=⟨bel⟩
        (try clear HO0)
        (try clear HO279)
        (try clear BK276)
        (try clear BK282)
        (try clear HB)
        generalize(((w94.setCell ⟨gb282,0,none⟩ (.slice Ao95 t277.length co95)).setCell ⟨gb282,1,none⟩ (.int .i64 t280)).setCell ⟨gb282,2,none⟩ (.int .i64 t281))=w98 at n0_ n1_ n2_ n3_ n4_ ⊢
        have HO0:=n0_
        have HO279:=n1_
        have BK276:=n2_
        have BK282:=n3_
        have HB:=n4_
        clear n0_ n1_ n2_ n3_ n4_
        replace HO0:=Aside0.mk (Kd.Q0 HO0.out)
        replace HO279:=Aside0.mk (Kd.Ql HO279.out)
        replace BK276:=Aside0.mk (Qd BK276.out)
        replace BK282:=Aside0.mk (Qd BK282.out)
        replace HB:=Aside0.mk (Qf HB.out)
        have p283:0≤(0:Int):=(by omega)
        have q283:0<(t277.length:Int):=of_decide_eq_true (by assumption)
        obtain⟨ad283,e283,hx283_0⟩:=Kd.Zr (Kd.Q4 HO279.out).2.2 0 p283 q283
        cases e283
        have qi283:(0<t277.length)=True:=eq_true (by omega)
        (try rw[show((0:Int)).toNat=0 from rfl] at hx283_0)
        (try rw[Addr.add_zero'] at hx283_0)
        replace p283:=eq_true p283
        replace q283:=eq_true q283
        have p284:0≤(1:Int):=(by omega)
        have q284:1<(t277.length:Int):=of_decide_eq_true (by assumption)
        obtain⟨ad284,e284,hx284_0⟩:=Kd.Zr (Kd.Q4 HO279.out).2.2 1 p284 q284
        obtain rfl:ad283=ad284:=(by injection e284)
        (try simp only[show(1:Int).toNat=1 from rfl,Nat.reduceMul,Nat.reduceEqDiff,Go.Addr.add,↓reduceIte] at hx284_0)
        have qi284:(1<t277.length)=True:=eq_true (by omega)
        (try rw[show((1:Int)).toNat=1 from rfl] at hx284_0)
        replace p284:=eq_true p284
        replace q284:=eq_true q284
        have p285:0≤(2:Int):=(by omega)
        have q285:2<(t277.length:Int):=of_decide_eq_true (by assumption)
        obtain⟨ad285,e285,hx285_0⟩:=Kd.Zr (Kd.Q4 HO279.out).2.2 2 p285 q285
        obtain rfl:ad283=ad285:=(by injection e285)
        (try simp only[show(2:Int).toNat=2 from rfl,Nat.reduceMul,Nat.reduceEqDiff,Go.Addr.add,↓reduceIte] at hx285_0)
        have qi285:(2<t277.length)=True:=eq_true (by omega)
        (try rw[show((2:Int)).toNat=2 from rfl] at hx285_0)
        replace p285:=eq_true p285
        replace q285:=eq_true q285
        refine Yp (n:=15) (S:=fun w'=>w'.cell? ⟨gb282,0,none⟩=some (.slice (some ad283) t277.length co95)∧w'.cell? ⟨gb282,1,none⟩=some (.int .i64 t280)∧w'.cell? ⟨gb282,2,none⟩=some (.int .i64 t281)∧w'.cell? ad283=some (.int .i64 (rd t277 0))∧w'.cell? ⟨ad283.block,ad283.off+1,none⟩=some (.int .i64 (rd t277 1))∧w'.cell? ⟨ad283.block,ad283.off+2,none⟩=some (.int .i64 (rd t277 2))) (ds:=[]) #[false,false,false,false,false,false,false,false,false,false,false,false,false,false,false] kr rfl rfl ⟨(Q3 BK282.out 0).trans rfl,(Q3 BK282.out 1).trans rfl,(Q3 BK282.out 2).trans rfl,hx283_0,hx284_0,hx285_0⟩ (fun hHeld=>?_);refine Xh newelref12_Read.Eu newelref12_Read.M6 (fun HT_ HW_=>?_)
        generalize w98.drew=w99 at HO0 HO279 BK276 BK282 HB hx283_0 hx284_0 hx285_0 hHeld ⊢
        refine qP 0 (some 23) (bN 15 1) HT_ ?_
        refine qP 4 (some 27) (bN 15 17) HT_ ?_
        refine qP 8 (some 31) (bN 15 273) HT_ ?_
        refine qT 1 (some 24) (bN 15 275) HT_ HW_ hHeld ?_
        refine qP 2 (some 25) (bN 15 279) HT_ ?_
        refine qT 3 (some 26) (bN 15 287) HT_ HW_ hHeld ?_
        refine qT 5 (some 28) (bN 15 319) HT_ HW_ hHeld ?_
        refine qP 6 (some 29) (bN 15 383) HT_ ?_
        refine qT 7 (some 30) (bN 15 511) HT_ HW_ hHeld ?_
        refine qT 9 (some 32) (bN 15 1023) HT_ HW_ hHeld ?_
        refine qP 10 (some 33) (bN 15 2047) HT_ ?_
        refine qT 11 (some 34) (bN 15 4095) HT_ HW_ hHeld ?_
        refine qP 12 (some 35) (bN 15 8191) HT_ ?_
        refine Ye (i:=13) (N:=some 4) (bN 15 16383) rfl rfl (Z3 HT_.out kr) (by decide) (fun K hK=>?_)
        refine Xy ?hg (N:=4) ?hd (cs:=#[.int .i64 0,.int .i64 0,.int .i64 0,.slice none 0 0]) (t:=26) ?hr ?_;(case hd=>rfl);(case hg=>rfl);(case hr=>go_simp <;> rfl)
        intro gb286 hg w100 hbox hb
        have HS3_:=(hb.cell (World.block_lt_of_cell? _ _ (hHeld.2.2.2.1))).trans (hHeld.2.2.2.1)
        have HS4_:=(hb.cell (World.block_lt_of_cell? _ _ (hHeld.2.2.2.2.1))).trans (hHeld.2.2.2.2.1)
        have HS5_:=(hb.cell (World.block_lt_of_cell? _ _ (hHeld.2.2.2.2.2))).trans (hHeld.2.2.2.2.2)
        have BK286:=Aside0.mk hbox
        have GW286:=sGe hg
        have GE286:=sGe hg
        have NB276_286:=sNl BK276 hg
        have NB286_276:=sNg BK276 hg
        have NB282_286:=sNl BK282 hg
        have NB286_282:=sNg BK282 hg
        replace HO0:=Aside0.mk (Kd.Q2 (Kd.Q9 HO0.out gb286 (Nat.le_of_eq hg.symm)) hb)
        replace HO279:=sRb HO279 hb
        replace BK276:=sBk BK276 hb
        replace BK282:=sBk BK282 hb
        replace HB:=sHb hb
        clear hb hbox hg
        refine hK.out _ _ ⟨qc BK282,qc BK282,qc BK282,HS3_,HS4_,HS5_⟩ (fun hHeld=>?_)
        clear hK K
        refine qN (some 4) ?_
        refine Ye (i:=14) (N:=none) (bN 15 32767) rfl rfl (Z3 HT_.out kr) (by decide) (fun K hK=>?_)
        have hs101:w100.cell? ⟨gb286,0,none⟩=some (.int .i64 0):=(Q3 BK286.out 0).trans rfl
        have hfs101:=Q6 BK286.out 0
        have hns101_0:=NB276_286.out
        have hns101_1:=NB282_286.out
        have hms101_0:=NB286_276.out
        have hms101_1:=NB286_282.out
        have hs102:w100.cell? ⟨gb286,1,none⟩=some (.int .i64 0):=(Q3 BK286.out 1).trans rfl
        have hfs102:=Q6 BK286.out 1
        have hns102_0:=NB276_286.out
        have hns102_1:=NB282_286.out
        have hms102_0:=NB286_276.out
        have hms102_1:=NB286_282.out
        have hs103:w100.cell? ⟨gb286,2,none⟩=some (.int .i64 0):=(Q3 BK286.out 2).trans rfl
        have hfs103:=Q6 BK286.out 2
        have hns103_0:=NB276_286.out
        have hns103_1:=NB282_286.out
        have hms103_0:=NB286_276.out
        have hms103_1:=NB286_282.out
        have hs104:w100.cell? ⟨gb286,3,none⟩=some (.slice none 0 0):=(Q3 BK286.out 3).trans rfl
        have hfs104:=Q6 BK286.out 3
        have hns104_0:=NB276_286.out
        have hns104_1:=NB282_286.out
        have hms104_0:=NB286_276.out
        have hms104_1:=NB286_282.out
        refine J0 (w1:=?_) (by rfl) rfl ?_ ?_
        rotate_left
        ·go_simp
         rfl
        have hfar0_:=Kd.J6 (Kd.Y5 HO279.out BK286.out (by decide))
        refine hK.out _ _ ⟨(by rw[cell_far,cell_far,cell_far,cell_far];all_goals (first|(with_reducible exact hHeld.1)|(with_reducible exact NB282_286.out))),(by rw[cell_far,cell_far,cell_far,cell_far];all_goals (first|(with_reducible exact hHeld.2.1)|(with_reducible exact NB282_286.out))),(by rw[cell_far,cell_far,cell_far,cell_far];all_goals (first|(with_reducible exact hHeld.2.2.1)|(with_reducible exact NB282_286.out))),(by rw[cell_far,cell_far,cell_far,cell_far];all_goals (first|(with_reducible exact hHeld.2.2.2.1)|(with_reducible exact hfar0_)|exact hfar0_)),(by rw[cell_far,cell_far,cell_far,cell_far];all_goals (first|(with_reducible exact hHeld.2.2.2.2.1)|(with_reducible exact hfar0_)|exact hfar0_)),(by rw[cell_far,cell_far,cell_far,cell_far];all_goals (first|(with_reducible exact hHeld.2.2.2.2.2)|(with_reducible exact hfar0_)|exact hfar0_))⟩ (fun hHeld=>?_)
        clear hK K
        refine Jc (Yi HT_.out kr) ?_
        have hnb105:=NB286_276.out
        have hnc105:=NB276_286.out
        have hnb106:=NB286_282.out
        have hnc106:=NB282_286.out
        obtain⟨hcz107_0,hcz107_1,hcz107_2,hcz107_3,hfz107_0,hfz107_1,hfz107_2,hfz107_3⟩:=qD4 BK286.out
        try go_wp2_with (first|((with_reducible refine Qv (f:=21) rfl ?_);refine Ze (some 37) rfl rfl Tryd.func21 kr rfl #[.agg #[.int .i64 (rd t277 0),.int .i64 (rd t277 1),.int .i64 (rd t277 2),.slice none 0 0]] rfl qM ?_;(refine(newelref12_May.calls (rd t277 0) (rd t277 1) (rd t277 2) _ _ ([]:List Int) true _ ?side1 ?side2 A8.out).mono ?_);(case side1=>exact Kd.Jt _ _);(case side2=>exact Nat.le_refl _);rintro e w108 ⟨rfl,hb⟩;refine⟨_,rfl, ?_⟩;replace HO0:=Aside0.mk (Kd.Q2 (by(with_reducible repeat first|apply Kd.Qx|apply Kd.Qw|apply Kd.Q0);exact(Kd.Qt (Kd.Qq (p:=⟨gb286,3,none⟩) (Kd.Qq (p:=⟨gb286,2,none⟩) (Kd.Qq (p:=⟨gb286,1,none⟩) (Kd.Qq (p:=⟨gb286,0,none⟩) (Kd.Qt HO0.out (fun k_ hk=>(⟨hk,hk.2⟩:_∧k_≠gb286))) (fun _ hk=>hk.2) (.int .i64 (rd t277 0))) (fun _ hk=>hk.2) (.int .i64 (rd t277 1))) (fun _ hk=>hk.2) (.int .i64 (rd t277 2))) (fun _ hk=>hk.2) (.slice none 0 0)) (fun _ h_=>h_.1))) hb);replace HO279:=Aside0.mk (Kd.Q1 (by(with_reducible repeat first|apply Kd.Qi|apply Kd.Qh|apply Kd.Ql);exact(Kd.Qu (Kd.Qm (Kd.Qm (Kd.Qm (Kd.Qm (Kd.Qy HO279.out BK286.out (by decide)) (fun _ hk=>hk.2) (.int .i64 (rd t277 0))) (fun _ hk=>hk.2) (.int .i64 (rd t277 1))) (fun _ hk=>hk.2) (.int .i64 (rd t277 2))) (fun _ hk=>hk.2) (.slice none 0 0)) (fun _ h_=>h_.1))) hb);replace BK276:=sBk BK276 hb;replace BK282:=sBk BK282 hb;replace BK286:=Aside0.mk (Qp (g:=gb286) (o:=.cells #[.int .i64 (rd t277 0),.int .i64 (rd t277 1),.int .i64 (rd t277 2),.slice none 0 0] 26 (0,0)) (by refine Qk (cs:=#[.int .i64 (rd t277 0),.int .i64 (rd t277 1),.int .i64 (rd t277 2),.slice none 0 0]) ?_ 3 _ rfl;refine Qk (cs:=#[.int .i64 (rd t277 0),.int .i64 (rd t277 1),.int .i64 0,.slice none 0 0]) ?_ 2 _ rfl;refine Qk (cs:=#[.int .i64 (rd t277 0),.int .i64 0,.int .i64 0,.slice none 0 0]) ?_ 1 _ rfl;refine Qk (cs:=#[.int .i64 0,.int .i64 0,.int .i64 0,.slice none 0 0]) ?_ 0 _ rfl;exact BK286.out) hb);replace HB:=sHb hb;(try clear hb);(try clear hb2);(try clear hk);(try clear hi);obtain⟨hcz109_0,hcz109_1,hcz109_2,hfz109_0,hfz109_1,hfz109_2⟩:=qD3 BK282.out)|((with_reducible refine Qv (f:=39) rfl ?_);refine Ze (some 44) rfl rfl Tryd.func39 kr rfl #[.slice A0 l0.length c0,.int .i64 t280] rfl qM ?_;(with_reducible refine(newelref08_Get.calls k _ _ l0 t280 t288 t289 t290 _ ?side1 ?side2 A10.out).mono ?_);(case side1=>exact(Kd.Zm HO0.out).2.2);(case side2=>exact(Kd.Zm HO0.out).2.1);rintro e w110 ⟨rfl,hb⟩;refine⟨_,rfl, ?_⟩;replace HO0:=Aside0.mk (Kd.Q2 HO0.out hb);replace HO279:=sRb HO279 hb;replace BK276:=sBk BK276 hb;replace BK282:=sBk BK282 hb;replace BK286:=sBk BK286 hb;replace HB:=sHb hb;(try clear hb);(try clear hb2);(try clear hk);(try clear hi))|((with_reducible refine Qz (N:=6) rfl ?_);refine qE 6 #[.int .i64 0,.int .i64 0,.int .i64 0] 75 ?_;intro gb291 hg w111 hbox hb;have BK291:=Aside0.mk hbox;have GW291:=sGe hg;have GE291:=sGe hg;have NB276_291:=sNl BK276 hg;have NB291_276:=sNg BK276 hg;have NB282_291:=sNl BK282 hg;have NB291_282:=sNg BK282 hg;have NB286_291:=sNl BK286 hg;have NB291_286:=sNg BK286 hg;replace HO0:=Aside0.mk (Kd.Q2 (Kd.Q9 HO0.out gb291 (Nat.le_of_eq hg.symm)) hb);replace HO279:=sRb HO279 hb;replace BK276:=sBk BK276 hb;replace BK282:=sBk BK282 hb;replace BK286:=sBk BK286 hb;replace HB:=sHb hb;clear hb hbox hg;have hnb112:=NB291_276.out;have hnc112:=NB276_291.out;have hnb113:=NB291_282.out;have hnc113:=NB282_291.out;have hnb114:=NB291_286.out;have hnc114:=NB286_291.out;obtain⟨hcz115_0,hcz115_1,hcz115_2,hfz115_0,hfz115_1,hfz115_2⟩:=qD3 BK291.out;obtain⟨hcz116_0,hcz116_1,hcz116_2,hcz116_3,hcz116_4,hfz116_0,hfz116_1,hfz116_2,hfz116_3,hfz116_4⟩:=qD5 BK276.out))
        refine bodyPost_ret (results_cell_row rfl _ _ gb276 62 #[.int .i64 0,.int .i64 0,.int .i64 0,.slice none 0 0,.int .i64 t290] (0,0) _ rfl (by refine Qk (cs:=#[.int .i64 0,.int .i64 0,.int .i64 0,.slice none 0 0,.int .i64 0]) ?_ 4 _ rfl;refine Qk (cs:=#[.int .i64 0,.int .i64 0,.int .i64 0,.slice none 0 0,.int .i64 0]) ?_ 3 _ rfl;refine Qk (cs:=#[.int .i64 0,.int .i64 0,.int .i64 0,.slice none 0 0,.int .i64 0]) ?_ 2 _ rfl;refine Qk (cs:=#[.int .i64 0,.int .i64 0,.int .i64 0,.slice none 0 0,.int .i64 0]) ?_ 1 _ rfl;refine Qk (cs:=#[.int .i64 0,.int .i64 0,.int .i64 0,.slice none 0 0,.int .i64 0]) ?_ 0 _ rfl;refine Qs ?_ NB276_291.out _;refine Qs ?_ NB276_291.out _;refine Qs ?_ NB276_291.out _;exact BK276.out) Tryd.underlying62 rfl kr) rfl ?_
        refine⟨.slice none 0 0,by first|rfl|(simp[Qo,Qn] <;> rfl)|(simp[*,Qo,Qn] <;> rfl),Kd.Qt (Kd.R_V (Kd.Z1 _ _ _ w.heap.size _)) (fun k_ hk=>by first|exact⟨(.inr (hk.1)),hk.2⟩|exact(.inr (hk))),bel⟩
      ·replace c9:=Bool.eq_false_iff.mpr c9
       subst c9
       have H1:(some (0,0,0,([]:List Int),120))=some (r1,r2,r3,r4,r5):=by rw[if_neg (show ¬ (false=true) by decide)] at H;exact H
       clear H
       have H:=H1
       clear H1
       simp only[Option.some.injEq,Prod.mk.injEq] at H
       obtain⟨rfl,rfl,rfl,rfl,rfl⟩:=H
       go_enter Tryd.func26,Tryd.ntmps26
       try go_wp2_with (first|((with_reducible refine Qz (N:=2) rfl ?_);refine qE 2 #[.int .i64 0,.int .i64 0,.int .i64 0,.slice none 0 0,.int .i64 0] 62 ?_;intro gb276 hg w117 hbox hb;have BK276:=Aside0.mk hbox;have GW276:=sGe hg;have GE276:=sGe hg;replace HO0:=Aside0.mk (Kd.Q2 (Kd.Q9 HO0.out gb276 (Nat.le_of_eq hg.symm)) hb);replace HB:=sHb hb;clear hb hbox hg)|((with_reducible refine Qv (f:=38) rfl ?_);refine Ze (some 11) rfl rfl Tryd.func38 kr rfl #[.slice A0 l0.length c0,.int .i64 0,.int .i64 3] rfl qM ?_;(with_reducible refine(newelref08_GetRow.calls k _ _ l0 0 3 t277 t280 t281 _ ?side1 ?side2 A2.out).mono ?_);(case side1=>exact(Kd.Zm HO0.out).2.2);(case side2=>exact(Kd.Zm HO0.out).2.1);rintro e w118 ⟨v278,rfl,ho0,hb⟩;refine⟨_,rfl, ?_⟩;have HO279:=Aside0.mk (Kd.Zd (Kd.Kq (M:=fun k_=>(w.heap.size≤k_)) ho0 (Qj HB.out) (fun k_ h_=>h_)) (Qj HB.out));replace HO0:=Aside0.mk (Kd.Ya HO0.out (Kd.Q5 ho0) hb);replace BK276:=sBk BK276 hb;replace HB:=sHb hb;(try clear hb);(try clear hb2);(try clear hk);(try clear hi);(try clear ho0))|((with_reducible refine Qz (N:=3) rfl ?_);refine qE 3 #[.slice none 0 0,.int .i64 0,.int .i64 0] 72 ?_;intro gb282 hg w119 hbox hb;have BK282:=Aside0.mk hbox;have GW282:=sGe hg;have GE282:=sGe hg;have NB276_282:=sNl BK276 hg;have NB282_276:=sNg BK276 hg;replace HO0:=Aside0.mk (Kd.Q2 (Kd.Q9 HO0.out gb282 (Nat.le_of_eq hg.symm)) hb);replace HO279:=sRb HO279 hb;replace BK276:=sBk BK276 hb;replace HB:=sHb hb;clear hb hbox hg;obtain⟨Ao120,co120,eo120⟩:=Kd.Zf HO279.out;subst eo120;have hnb121:=NB282_276.out;have hnc121:=NB276_282.out;obtain⟨hcz122_0,hcz122_1,hcz122_2,hfz122_0,hfz122_1,hfz122_2⟩:=qD3 BK282.out))
       have n0_:Aside0 (Kd.V (Kd.int .u8) 5 (((w119.setCell ⟨gb282,0,none⟩ (.slice Ao120 t277.length co120)).setCell ⟨gb282,1,none⟩ (.int .i64 t280)).setCell ⟨gb282,2,none⟩ (.int .i64 t281)) w.heap.size (fun k_=>(P0_ k_∨w.heap.size≤k_)∧some k_≠(.slice Ao120 t277.length co120:Value).ownBlock∧k_≠gb276∧k_≠gb282) (.slice A0 l0.length c0) l0):=⟨by(with_reducible repeat first|apply Kd.Qx|apply Kd.Qw|apply Kd.Q0);exact Kd.Qt (Kd.Qq (p:=⟨gb282,2,none⟩) (Kd.Qq (p:=⟨gb282,1,none⟩) (Kd.Qq (p:=⟨gb282,0,none⟩) (Kd.Qt HO0.out (fun k_ hk=>(⟨hk,hk.2⟩:_∧k_≠gb282))) (fun _ hk=>hk.2) _) (fun _ hk=>hk.2) (.int .i64 t280)) (fun _ hk=>hk.2) (.int .i64 t281)) (fun _ hk=>⟨hk.1.1.1.1,⟨hk.1.1.2,⟨hk.1.1.1.2,hk.1.2⟩⟩⟩)⟩
       have n1_:Aside0 (Kd.R (Kd.int .i64) 3 (((w119.setCell ⟨gb282,0,none⟩ (.slice Ao120 t277.length co120)).setCell ⟨gb282,1,none⟩ (.int .i64 t280)).setCell ⟨gb282,2,none⟩ (.int .i64 t281)) w.heap.size (fun k_=>(w.heap.size≤k_)) (.slice Ao120 t277.length co120) t277):=⟨by(with_reducible repeat first|apply Kd.Qi|apply Kd.Qh|apply Kd.Ql);exact Kd.Qu (Kd.Qm (Kd.Qm (Kd.Qm (Kd.Qy HO279.out BK282.out (by decide)) (fun _ hk=>hk.2) _) (fun _ hk=>hk.2) (.int .i64 t280)) (fun _ hk=>hk.2) (.int .i64 t281)) (fun _ hk=>hk.1.1)⟩
       have n2_:Aside0 ((((w119.setCell ⟨gb282,0,none⟩ (.slice Ao120 t277.length co120)).setCell ⟨gb282,1,none⟩ (.int .i64 t280)).setCell ⟨gb282,2,none⟩ (.int .i64 t281)).heap[gb276]?=some (.cells #[.int .i64 0,.int .i64 0,.int .i64 0,.slice none 0 0,.int .i64 0] 62 (0,0))):=⟨bka BK276⟩
       have n3_:Aside0 ((((w119.setCell ⟨gb282,0,none⟩ (.slice Ao120 t277.length co120)).setCell ⟨gb282,1,none⟩ (.int .i64 t280)).setCell ⟨gb282,2,none⟩ (.int .i64 t281)).heap[gb282]?=some (.cells #[.slice Ao120 t277.length co120,.int .i64 t280,.int .i64 t281] 72 (0,0))):=⟨by refine Qk (cs:=#[.slice Ao120 t277.length co120,.int .i64 t280,.int .i64 0]) ?_ 2 _ rfl;refine Qk (cs:=#[.slice Ao120 t277.length co120,.int .i64 0,.int .i64 0]) ?_ 1 _ rfl;refine Qk (cs:=#[.slice none 0 0,.int .i64 0,.int .i64 0]) ?_ 0 _ rfl;exact BK282.out⟩
       have n4_:Aside0 (Below w.heap.size w (((w119.setCell ⟨gb282,0,none⟩ (.slice Ao120 t277.length co120)).setCell ⟨gb282,1,none⟩ (.int .i64 t280)).setCell ⟨gb282,2,none⟩ (.int .i64 t281))):=⟨bel⟩
       (try clear HO0)
       (try clear HO279)
       (try clear BK276)
       (try clear BK282)
       (try clear HB)
       generalize(((w119.setCell ⟨gb282,0,none⟩ (.slice Ao120 t277.length co120)).setCell ⟨gb282,1,none⟩ (.int .i64 t280)).setCell ⟨gb282,2,none⟩ (.int .i64 t281))=w123 at n0_ n1_ n2_ n3_ n4_ ⊢
       have HO0:=n0_
       have HO279:=n1_
       have BK276:=n2_
       have BK282:=n3_
       have HB:=n4_
       clear n0_ n1_ n2_ n3_ n4_
       replace HO0:=Aside0.mk (Kd.Q0 HO0.out)
       replace HO279:=Aside0.mk (Kd.Ql HO279.out)
       replace BK276:=Aside0.mk (Qd BK276.out)
       replace BK282:=Aside0.mk (Qd BK282.out)
       replace HB:=Aside0.mk (Qf HB.out)
       have p283:0≤(0:Int):=(by omega)
       have q283:0<(t277.length:Int):=of_decide_eq_true (by assumption)
       obtain⟨ad283,e283,hx283_0⟩:=Kd.Zr (Kd.Q4 HO279.out).2.2 0 p283 q283
       cases e283
       have qi283:(0<t277.length)=True:=eq_true (by omega)
       (try rw[show((0:Int)).toNat=0 from rfl] at hx283_0)
       (try rw[Addr.add_zero'] at hx283_0)
       replace p283:=eq_true p283
       replace q283:=eq_true q283
       have p284:0≤(1:Int):=(by omega)
       have q284:1<(t277.length:Int):=of_decide_eq_true (by assumption)
       obtain⟨ad284,e284,hx284_0⟩:=Kd.Zr (Kd.Q4 HO279.out).2.2 1 p284 q284
       obtain rfl:ad283=ad284:=(by injection e284)
       (try simp only[show(1:Int).toNat=1 from rfl,Nat.reduceMul,Nat.reduceEqDiff,Go.Addr.add,↓reduceIte] at hx284_0)
       have qi284:(1<t277.length)=True:=eq_true (by omega)
       (try rw[show((1:Int)).toNat=1 from rfl] at hx284_0)
       replace p284:=eq_true p284
       replace q284:=eq_true q284
       have p285:0≤(2:Int):=(by omega)
       have q285:2<(t277.length:Int):=of_decide_eq_true (by assumption)
       obtain⟨ad285,e285,hx285_0⟩:=Kd.Zr (Kd.Q4 HO279.out).2.2 2 p285 q285
       obtain rfl:ad283=ad285:=(by injection e285)
       (try simp only[show(2:Int).toNat=2 from rfl,Nat.reduceMul,Nat.reduceEqDiff,Go.Addr.add,↓reduceIte] at hx285_0)
       have qi285:(2<t277.length)=True:=eq_true (by omega)
       (try rw[show((2:Int)).toNat=2 from rfl] at hx285_0)
       replace p285:=eq_true p285
       replace q285:=eq_true q285
       refine Yp (n:=15) (S:=fun w'=>w'.cell? ⟨gb282,0,none⟩=some (.slice (some ad283) t277.length co120)∧w'.cell? ⟨gb282,1,none⟩=some (.int .i64 t280)∧w'.cell? ⟨gb282,2,none⟩=some (.int .i64 t281)∧w'.cell? ad283=some (.int .i64 (rd t277 0))∧w'.cell? ⟨ad283.block,ad283.off+1,none⟩=some (.int .i64 (rd t277 1))∧w'.cell? ⟨ad283.block,ad283.off+2,none⟩=some (.int .i64 (rd t277 2))) (ds:=[]) #[false,false,false,false,false,false,false,false,false,false,false,false,false,false,false] kr rfl rfl ⟨(Q3 BK282.out 0).trans rfl,(Q3 BK282.out 1).trans rfl,(Q3 BK282.out 2).trans rfl,hx283_0,hx284_0,hx285_0⟩ (fun hHeld=>?_);refine Xh newelref12_Read.Eu newelref12_Read.M6 (fun HT_ HW_=>?_)
       generalize w123.drew=w124 at HO0 HO279 BK276 BK282 HB hx283_0 hx284_0 hx285_0 hHeld ⊢
       refine qP 0 (some 23) (bN 15 1) HT_ ?_
       refine qP 4 (some 27) (bN 15 17) HT_ ?_
       refine qP 8 (some 31) (bN 15 273) HT_ ?_
       refine qT 1 (some 24) (bN 15 275) HT_ HW_ hHeld ?_
       refine qP 2 (some 25) (bN 15 279) HT_ ?_
       refine qT 3 (some 26) (bN 15 287) HT_ HW_ hHeld ?_
       refine qT 5 (some 28) (bN 15 319) HT_ HW_ hHeld ?_
       refine qP 6 (some 29) (bN 15 383) HT_ ?_
       refine qT 7 (some 30) (bN 15 511) HT_ HW_ hHeld ?_
       refine qT 9 (some 32) (bN 15 1023) HT_ HW_ hHeld ?_
       refine qP 10 (some 33) (bN 15 2047) HT_ ?_
       refine qT 11 (some 34) (bN 15 4095) HT_ HW_ hHeld ?_
       refine qP 12 (some 35) (bN 15 8191) HT_ ?_
       refine Ye (i:=13) (N:=some 4) (bN 15 16383) rfl rfl (Z3 HT_.out kr) (by decide) (fun K hK=>?_)
       refine Xy ?hg (N:=4) ?hd (cs:=#[.int .i64 0,.int .i64 0,.int .i64 0,.slice none 0 0]) (t:=26) ?hr ?_;(case hd=>rfl);(case hg=>rfl);(case hr=>go_simp <;> rfl)
       intro gb286 hg w125 hbox hb
       have HS3_:=(hb.cell (World.block_lt_of_cell? _ _ (hHeld.2.2.2.1))).trans (hHeld.2.2.2.1)
       have HS4_:=(hb.cell (World.block_lt_of_cell? _ _ (hHeld.2.2.2.2.1))).trans (hHeld.2.2.2.2.1)
       have HS5_:=(hb.cell (World.block_lt_of_cell? _ _ (hHeld.2.2.2.2.2))).trans (hHeld.2.2.2.2.2)
       have BK286:=Aside0.mk hbox
       have GW286:=sGe hg
       have GE286:=sGe hg
       have NB276_286:=sNl BK276 hg
       have NB286_276:=sNg BK276 hg
       have NB282_286:=sNl BK282 hg
       have NB286_282:=sNg BK282 hg
       replace HO0:=Aside0.mk (Kd.Q2 (Kd.Q9 HO0.out gb286 (Nat.le_of_eq hg.symm)) hb)
       replace HO279:=sRb HO279 hb
       replace BK276:=sBk BK276 hb
       replace BK282:=sBk BK282 hb
       replace HB:=sHb hb
       clear hb hbox hg
       refine hK.out _ _ ⟨qc BK282,qc BK282,qc BK282,HS3_,HS4_,HS5_⟩ (fun hHeld=>?_)
       clear hK K
       refine qN (some 4) ?_
       refine Ye (i:=14) (N:=none) (bN 15 32767) rfl rfl (Z3 HT_.out kr) (by decide) (fun K hK=>?_)
       have hs126:w125.cell? ⟨gb286,0,none⟩=some (.int .i64 0):=(Q3 BK286.out 0).trans rfl
       have hfs126:=Q6 BK286.out 0
       have hns126_0:=NB276_286.out
       have hns126_1:=NB282_286.out
       have hms126_0:=NB286_276.out
       have hms126_1:=NB286_282.out
       have hs127:w125.cell? ⟨gb286,1,none⟩=some (.int .i64 0):=(Q3 BK286.out 1).trans rfl
       have hfs127:=Q6 BK286.out 1
       have hns127_0:=NB276_286.out
       have hns127_1:=NB282_286.out
       have hms127_0:=NB286_276.out
       have hms127_1:=NB286_282.out
       have hs128:w125.cell? ⟨gb286,2,none⟩=some (.int .i64 0):=(Q3 BK286.out 2).trans rfl
       have hfs128:=Q6 BK286.out 2
       have hns128_0:=NB276_286.out
       have hns128_1:=NB282_286.out
       have hms128_0:=NB286_276.out
       have hms128_1:=NB286_282.out
       have hs129:w125.cell? ⟨gb286,3,none⟩=some (.slice none 0 0):=(Q3 BK286.out 3).trans rfl
       have hfs129:=Q6 BK286.out 3
       have hns129_0:=NB276_286.out
       have hns129_1:=NB282_286.out
       have hms129_0:=NB286_276.out
       have hms129_1:=NB286_282.out
       refine J0 (w1:=?_) (by rfl) rfl ?_ ?_
       rotate_left
       ·go_simp
        rfl
       have hfar0_:=Kd.J6 (Kd.Y5 HO279.out BK286.out (by decide))
       refine hK.out _ _ ⟨(by rw[cell_far,cell_far,cell_far,cell_far];all_goals (first|(with_reducible exact hHeld.1)|(with_reducible exact NB282_286.out))),(by rw[cell_far,cell_far,cell_far,cell_far];all_goals (first|(with_reducible exact hHeld.2.1)|(with_reducible exact NB282_286.out))),(by rw[cell_far,cell_far,cell_far,cell_far];all_goals (first|(with_reducible exact hHeld.2.2.1)|(with_reducible exact NB282_286.out))),(by rw[cell_far,cell_far,cell_far,cell_far];all_goals (first|(with_reducible exact hHeld.2.2.2.1)|(with_reducible exact hfar0_)|exact hfar0_)),(by rw[cell_far,cell_far,cell_far,cell_far];all_goals (first|(with_reducible exact hHeld.2.2.2.2.1)|(with_reducible exact hfar0_)|exact hfar0_)),(by rw[cell_far,cell_far,cell_far,cell_far];all_goals (first|(with_reducible exact hHeld.2.2.2.2.2)|(with_reducible exact hfar0_)|exact hfar0_))⟩ (fun hHeld=>?_)
       clear hK K
       refine Jc (Yi HT_.out kr) ?_
       have hnb130:=NB286_276.out
       have hnc130:=NB276_286.out
       have hnb131:=NB286_282.out
       have hnc131:=NB282_286.out
       obtain⟨hcz132_0,hcz132_1,hcz132_2,hcz132_3,hfz132_0,hfz132_1,hfz132_2,hfz132_3⟩:=qD4 BK286.out
       try go_wp2_with (first|((with_reducible refine Qv (f:=21) rfl ?_);refine Ze (some 37) rfl rfl Tryd.func21 kr rfl #[.agg #[.int .i64 (rd t277 0),.int .i64 (rd t277 1),.int .i64 (rd t277 2),.slice none 0 0]] rfl qM ?_;(refine(newelref12_May.calls (rd t277 0) (rd t277 1) (rd t277 2) _ _ ([]:List Int) false _ ?side1 ?side2 A8.out).mono ?_);(case side1=>exact Kd.Jt _ _);(case side2=>exact Nat.le_refl _);rintro e w133 ⟨rfl,hb⟩;refine⟨_,rfl, ?_⟩;replace HO0:=Aside0.mk (Kd.Q2 (by(with_reducible repeat first|apply Kd.Qx|apply Kd.Qw|apply Kd.Q0);exact(Kd.Qt (Kd.Qq (p:=⟨gb286,3,none⟩) (Kd.Qq (p:=⟨gb286,2,none⟩) (Kd.Qq (p:=⟨gb286,1,none⟩) (Kd.Qq (p:=⟨gb286,0,none⟩) (Kd.Qt HO0.out (fun k_ hk=>(⟨hk,hk.2⟩:_∧k_≠gb286))) (fun _ hk=>hk.2) (.int .i64 (rd t277 0))) (fun _ hk=>hk.2) (.int .i64 (rd t277 1))) (fun _ hk=>hk.2) (.int .i64 (rd t277 2))) (fun _ hk=>hk.2) (.slice none 0 0)) (fun _ h_=>h_.1))) hb);replace HO279:=Aside0.mk (Kd.Q1 (by(with_reducible repeat first|apply Kd.Qi|apply Kd.Qh|apply Kd.Ql);exact(Kd.Qu (Kd.Qm (Kd.Qm (Kd.Qm (Kd.Qm (Kd.Qy HO279.out BK286.out (by decide)) (fun _ hk=>hk.2) (.int .i64 (rd t277 0))) (fun _ hk=>hk.2) (.int .i64 (rd t277 1))) (fun _ hk=>hk.2) (.int .i64 (rd t277 2))) (fun _ hk=>hk.2) (.slice none 0 0)) (fun _ h_=>h_.1))) hb);replace BK276:=sBk BK276 hb;replace BK282:=sBk BK282 hb;replace BK286:=Aside0.mk (Qp (g:=gb286) (o:=.cells #[.int .i64 (rd t277 0),.int .i64 (rd t277 1),.int .i64 (rd t277 2),.slice none 0 0] 26 (0,0)) (by refine Qk (cs:=#[.int .i64 (rd t277 0),.int .i64 (rd t277 1),.int .i64 (rd t277 2),.slice none 0 0]) ?_ 3 _ rfl;refine Qk (cs:=#[.int .i64 (rd t277 0),.int .i64 (rd t277 1),.int .i64 0,.slice none 0 0]) ?_ 2 _ rfl;refine Qk (cs:=#[.int .i64 (rd t277 0),.int .i64 0,.int .i64 0,.slice none 0 0]) ?_ 1 _ rfl;refine Qk (cs:=#[.int .i64 0,.int .i64 0,.int .i64 0,.slice none 0 0]) ?_ 0 _ rfl;exact BK286.out) hb);replace HB:=sHb hb;(try clear hb);(try clear hb2);(try clear hk);(try clear hi);obtain⟨hcz134_0,hcz134_1,hcz134_2,hcz134_3,hcz134_4,hfz134_0,hfz134_1,hfz134_2,hfz134_3,hfz134_4⟩:=qD5 BK276.out))
       refine bodyPost_ret (results_cell_row rfl _ _ gb276 62 #[.int .i64 0,.int .i64 0,.int .i64 0,.slice none 0 0,.int .i64 120] (0,0) _ rfl (by refine Qk (cs:=#[.int .i64 0,.int .i64 0,.int .i64 0,.slice none 0 0,.int .i64 0]) ?_ 4 _ rfl;refine Qk (cs:=#[.int .i64 0,.int .i64 0,.int .i64 0,.slice none 0 0,.int .i64 0]) ?_ 3 _ rfl;refine Qk (cs:=#[.int .i64 0,.int .i64 0,.int .i64 0,.slice none 0 0,.int .i64 0]) ?_ 2 _ rfl;refine Qk (cs:=#[.int .i64 0,.int .i64 0,.int .i64 0,.slice none 0 0,.int .i64 0]) ?_ 1 _ rfl;refine Qk (cs:=#[.int .i64 0,.int .i64 0,.int .i64 0,.slice none 0 0,.int .i64 0]) ?_ 0 _ rfl;exact BK276.out) Tryd.underlying62 rfl kr) rfl ?_
       refine⟨.slice none 0 0,by first|rfl|(simp[Qo,Qn] <;> rfl)|(simp[*,Qo,Qn] <;> rfl),Kd.Qt (Kd.R_V (Kd.Z1 _ _ _ w.heap.size _)) (fun k_ hk=>by first|exact⟨(.inr (hk.1)),hk.2⟩|exact(.inr (hk))),bel⟩
     ·rw[if_neg c7] at H
      exact absurd H (by simp)
    ·rw[if_neg c6] at H
     exact absurd H (by simp)
   ·rw[if_neg c5] at H
    exact absurd H (by simp)
  ·rw[if_neg c4] at H
   have c4b0:((t277.length:Int)==3)=false:=beq_eq_false_iff_ne.mpr c4
   have c4b1:((t277.length:Int) != 3)=true:=bne_iff_ne.mpr c4
   simp only[Option.some.injEq,Prod.mk.injEq] at H
   obtain⟨rfl,rfl,rfl,rfl,rfl⟩:=H
   go_enter Tryd.func26,Tryd.ntmps26
   go_wp2_with (first|((with_reducible refine Qz (N:=2) rfl ?_);refine qE 2 #[.int .i64 0,.int .i64 0,.int .i64 0,.slice none 0 0,.int .i64 0] 62 ?_;intro gb276 hg w135 hbox hb;have BK276:=Aside0.mk hbox;have GW276:=sGe hg;have GE276:=sGe hg;replace HO0:=Aside0.mk (Kd.Q2 (Kd.Q9 HO0.out gb276 (Nat.le_of_eq hg.symm)) hb);replace HB:=sHb hb;clear hb hbox hg)|((with_reducible refine Qv (f:=38) rfl ?_);refine Ze (some 11) rfl rfl Tryd.func38 kr rfl #[.slice A0 l0.length c0,.int .i64 0,.int .i64 3] rfl qM ?_;(with_reducible refine(newelref08_GetRow.calls k _ _ l0 0 3 t277 t280 t281 _ ?side1 ?side2 A2.out).mono ?_);(case side1=>exact(Kd.Zm HO0.out).2.2);(case side2=>exact(Kd.Zm HO0.out).2.1);rintro e w136 ⟨v278,rfl,ho0,hb⟩;refine⟨_,rfl, ?_⟩;have HO279:=Aside0.mk (Kd.Zd (Kd.Kq (M:=fun k_=>(w.heap.size≤k_)) ho0 (Qj HB.out) (fun k_ h_=>h_)) (Qj HB.out));replace HO0:=Aside0.mk (Kd.Ya HO0.out (Kd.Q5 ho0) hb);replace BK276:=sBk BK276 hb;replace HB:=sHb hb;(try clear hb);(try clear hb2);(try clear hk);(try clear hi);(try clear ho0))|((with_reducible refine Qz (N:=3) rfl ?_);refine qE 3 #[.slice none 0 0,.int .i64 0,.int .i64 0] 72 ?_;intro gb282 hg w137 hbox hb;have BK282:=Aside0.mk hbox;have GW282:=sGe hg;have GE282:=sGe hg;have NB276_282:=sNl BK276 hg;have NB282_276:=sNg BK276 hg;replace HO0:=Aside0.mk (Kd.Q2 (Kd.Q9 HO0.out gb282 (Nat.le_of_eq hg.symm)) hb);replace HO279:=sRb HO279 hb;replace BK276:=sBk BK276 hb;replace HB:=sHb hb;clear hb hbox hg;obtain⟨Ao138,co138,eo138⟩:=Kd.Zf HO279.out;subst eo138;have hnb139:=NB282_276.out;have hnc139:=NB276_282.out;obtain⟨hcz140_0,hcz140_1,hcz140_2,hfz140_0,hfz140_1,hfz140_2⟩:=qD3 BK282.out;obtain⟨hcz141_0,hcz141_1,hcz141_2,hcz141_3,hcz141_4,hfz141_0,hfz141_1,hfz141_2,hfz141_3,hfz141_4⟩:=qD5 BK276.out))
   refine bodyPost_ret (results_cell_row rfl _ _ gb276 62 #[.int .i64 0,.int .i64 0,.int .i64 0,.slice none 0 0,.int .i64 120] (0,0) _ rfl (by refine Qk (cs:=#[.int .i64 0,.int .i64 0,.int .i64 0,.slice none 0 0,.int .i64 0]) ?_ 4 _ rfl;refine Qk (cs:=#[.int .i64 0,.int .i64 0,.int .i64 0,.slice none 0 0,.int .i64 0]) ?_ 3 _ rfl;refine Qk (cs:=#[.int .i64 0,.int .i64 0,.int .i64 0,.slice none 0 0,.int .i64 0]) ?_ 2 _ rfl;refine Qk (cs:=#[.int .i64 0,.int .i64 0,.int .i64 0,.slice none 0 0,.int .i64 0]) ?_ 1 _ rfl;refine Qk (cs:=#[.int .i64 0,.int .i64 0,.int .i64 0,.slice none 0 0,.int .i64 0]) ?_ 0 _ rfl;refine Qs ?_ NB276_282.out _;refine Qs ?_ NB276_282.out _;refine Qs ?_ NB276_282.out _;exact BK276.out) Tryd.underlying62 rfl kr) rfl ?_
   refine⟨.slice none 0 0,by first|rfl|(simp[Qo,Qn] <;> rfl)|(simp[*,Qo,Qn] <;> rfl),Kd.Qt (Kd.R_V (Kd.Z1 _ _ _ w.heap.size _)) (fun k_ hk=>by first|exact⟨(.inr (hk.1)),hk.2⟩|exact(.inr (hk))),bel⟩
 ·rw[if_neg c3] at H
  have c3b0:(t281==0)=false:=beq_eq_false_iff_ne.mpr c3
  have c3b1:(t281 != 0)=true:=bne_iff_ne.mpr c3
  simp only[Option.some.injEq,Prod.mk.injEq] at H
  obtain⟨rfl,rfl,rfl,rfl,rfl⟩:=H
  go_enter Tryd.func26,Tryd.ntmps26
  go_wp2_with (first|((with_reducible refine Qz (N:=2) rfl ?_);refine qE 2 #[.int .i64 0,.int .i64 0,.int .i64 0,.slice none 0 0,.int .i64 0] 62 ?_;intro gb276 hg w142 hbox hb;have BK276:=Aside0.mk hbox;have GW276:=sGe hg;have GE276:=sGe hg;replace HO0:=Aside0.mk (Kd.Q2 (Kd.Q9 HO0.out gb276 (Nat.le_of_eq hg.symm)) hb);replace HB:=sHb hb;clear hb hbox hg)|((with_reducible refine Qv (f:=38) rfl ?_);refine Ze (some 11) rfl rfl Tryd.func38 kr rfl #[.slice A0 l0.length c0,.int .i64 0,.int .i64 3] rfl qM ?_;(with_reducible refine(newelref08_GetRow.calls k _ _ l0 0 3 t277 t280 t281 _ ?side1 ?side2 A2.out).mono ?_);(case side1=>exact(Kd.Zm HO0.out).2.2);(case side2=>exact(Kd.Zm HO0.out).2.1);rintro e w143 ⟨v278,rfl,ho0,hb⟩;refine⟨_,rfl, ?_⟩;have HO279:=Aside0.mk (Kd.Zd (Kd.Kq (M:=fun k_=>(w.heap.size≤k_)) ho0 (Qj HB.out) (fun k_ h_=>h_)) (Qj HB.out));replace HO0:=Aside0.mk (Kd.Ya HO0.out (Kd.Q5 ho0) hb);replace BK276:=sBk BK276 hb;replace HB:=sHb hb;(try clear hb);(try clear hb2);(try clear hk);(try clear hi);(try clear ho0))|((with_reducible refine Qz (N:=3) rfl ?_);refine qE 3 #[.slice none 0 0,.int .i64 0,.int .i64 0] 72 ?_;intro gb282 hg w144 hbox hb;have BK282:=Aside0.mk hbox;have GW282:=sGe hg;have GE282:=sGe hg;have NB276_282:=sNl BK276 hg;have NB282_276:=sNg BK276 hg;replace HO0:=Aside0.mk (Kd.Q2 (Kd.Q9 HO0.out gb282 (Nat.le_of_eq hg.symm)) hb);replace HO279:=sRb HO279 hb;replace BK276:=sBk BK276 hb;replace HB:=sHb hb;clear hb hbox hg;obtain⟨Ao145,co145,eo145⟩:=Kd.Zf HO279.out;subst eo145;have hnb146:=NB282_276.out;have hnc146:=NB276_282.out;obtain⟨hcz147_0,hcz147_1,hcz147_2,hfz147_0,hfz147_1,hfz147_2⟩:=qD3 BK282.out;obtain⟨hcz148_0,hcz148_1,hcz148_2,hcz148_3,hcz148_4,hfz148_0,hfz148_1,hfz148_2,hfz148_3,hfz148_4⟩:=qD5 BK276.out))
  refine bodyPost_ret (results_cell_row rfl _ _ gb276 62 #[.int .i64 0,.int .i64 0,.int .i64 0,.slice none 0 0,.int .i64 t281] (0,0) _ rfl (by refine Qk (cs:=#[.int .i64 0,.int .i64 0,.int .i64 0,.slice none 0 0,.int .i64 0]) ?_ 4 _ rfl;refine Qk (cs:=#[.int .i64 0,.int .i64 0,.int .i64 0,.slice none 0 0,.int .i64 0]) ?_ 3 _ rfl;refine Qk (cs:=#[.int .i64 0,.int .i64 0,.int .i64 0,.slice none 0 0,.int .i64 0]) ?_ 2 _ rfl;refine Qk (cs:=#[.int .i64 0,.int .i64 0,.int .i64 0,.slice none 0 0,.int .i64 0]) ?_ 1 _ rfl;refine Qk (cs:=#[.int .i64 0,.int .i64 0,.int .i64 0,.slice none 0 0,.int .i64 0]) ?_ 0 _ rfl;refine Qs ?_ NB276_282.out _;refine Qs ?_ NB276_282.out _;refine Qs ?_ NB276_282.out _;exact BK276.out) Tryd.underlying62 rfl kr) rfl ?_
  refine⟨.slice none 0 0,by first|rfl|(simp[Qo,Qn] <;> rfl)|(simp[*,Qo,Qn] <;> rfl),Kd.Qt (Kd.R_V (Kd.Z1 _ _ _ w.heap.size _)) (fun k_ hk=>by first|exact⟨(.inr (hk.1)),hk.2⟩|exact(.inr (hk))),bel⟩
end Go.Proofs.YtickbejailcehaaDoor.C
