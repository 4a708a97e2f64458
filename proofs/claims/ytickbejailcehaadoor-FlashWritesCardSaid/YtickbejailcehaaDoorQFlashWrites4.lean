/- Texts of this claim, one behind the other: what the law's functions come to, walked (printed by a program, with the words that the print uses), and what that is, in plain Lean. No conditions of their own. -/
import Derived.Test.YtickbejailcehaaDoorQFlashWrites3
namespace Go.Proofs.YtickbejailcehaaDoor.C
open Go.RowKit Go.Proofs.YtickbejailcehaaDoorW.PrintWords Go.Proofs.YtickbejailcehaaDoorW.PrintLast Go.Proofs.YtickbejailcehaaDoorW.PrintMore
attribute [local go_sem] Xm Xk X0 Xz Xc Xb Xl Xj
set_option linter.unusedVariables false
set_option linter.unusedSimpArgs false
def newelref12_Recover.j0:Nat→Bool→Int→Int→Int→List Int→Int→Int→Int→Int→List Int→Int→Option (Int×Int×Int×List Int×Bool×Bool)
 |0,_,_,_,_,_,_,_,_,_,_,_=>none
 |k+1,x27,x311000,x311001,x311002,x311003,x311004,x319000,x319001,x319002,x319003,x319004=>if x27=true then (some (x311000,x311001,x311002,x311003,false,true)) else (if x319004=0 then (some (x319000,x319001,x319002,x319003,true,true)) else (some (0,0,0,([]:List Int),false,false)))
def newelref12_Recover.f (k:Nat) (l0_0:List Int) (l0_1:List Int):Option (Int×Int×Int×List Int×Bool×Bool):=(newelref12_Read.f k l0_0).bind fun bt303=>((newelref12_Read.f k l0_1).bind fun bt311=>(if bt303.2.2.2.2=0 then (if bt311.2.2.2.2=0 then (newelref12_Recover.j0 k (decide (bt303.1≥bt311.1)) bt303.1 bt303.2.1 bt303.2.2.1 bt303.2.2.2.1 bt303.2.2.2.2 bt311.1 bt311.2.1 bt311.2.2.1 bt311.2.2.2.1 bt311.2.2.2.2) else (newelref12_Recover.j0 k true bt303.1 bt303.2.1 bt303.2.2.1 bt303.2.2.2.1 bt303.2.2.2.2 bt311.1 bt311.2.1 bt311.2.2.1 bt311.2.2.2.1 bt311.2.2.2.2)) else (newelref12_Recover.j0 k false bt303.1 bt303.2.1 bt303.2.2.1 bt303.2.2.2.1 bt303.2.2.2.2 bt311.1 bt311.2.1 bt311.2.2.1 bt311.2.2.2.1 bt311.2.2.2.2)))
theorem newelref12_Recover.Zl:∀ k,(∀ y0 y1 y2 y3 y4 y5 y6 y7 y8 y9 y10,LeO (newelref12_Recover.j0 k y0 y1 y2 y3 y4 y5 y6 y7 y8 y9 y10) (newelref12_Recover.j0 (k+1) y0 y1 y2 y3 y4 y5 y6 y7 y8 y9 y10))
 |0=>fun _ _ _ _ _ _ _ _ _ _ _ r h=>by simp[newelref12_Recover.j0] at h
 |k+1=>by
  have ih0:=newelref12_Recover.Zl k
  ·intro y0 y1 y2 y3 y4 y5 y6 y7 y8 y9 y10
   unfold newelref12_Recover.j0
   repeat' first
   |(with_reducible exact ih0 _ _ _ _ _ _ _ _ _ _ _)
   |(with_reducible exact newelref12_Read.mono _ _)
   |(with_reducible exact LeO.refl _)
   |(with_reducible exact LeO.none _)
   |(with_reducible refine LeO.ite ?_ ?_)
   |(with_reducible refine LeO.bind ?_ (fun _=>?_))
   |exact ih0 _ _ _ _ _ _ _ _ _ _ _
   |exact newelref12_Read.mono _ _
   |exact LeO.none _
   |refine LeO.ite ?_ ?_
   |refine LeO.bind ?_ (fun _=>?_)
theorem newelref12_Recover.mono:∀ a0 a1 k,LeO (newelref12_Recover.f k a0 a1) (newelref12_Recover.f (k+1) a0 a1):=by
 intro a0 a1 k
 have ih0:=newelref12_Recover.Zl k
 unfold newelref12_Recover.f
 repeat' first
   |(with_reducible exact ih0 _ _ _ _ _ _ _ _ _ _ _)
   |(with_reducible exact newelref12_Read.mono _ _)
   |(with_reducible exact LeO.refl _)
   |(with_reducible exact LeO.none _)
   |(with_reducible refine LeO.ite ?_ ?_)
   |(with_reducible refine LeO.bind ?_ (fun _=>?_))
   |exact ih0 _ _ _ _ _ _ _ _ _ _ _
   |exact newelref12_Read.mono _ _
   |exact LeO.none _
   |refine LeO.ite ?_ ?_
   |refine LeO.bind ?_ (fun _=>?_)
set_option maxHeartbeats 8000000 in
set_option maxRecDepth 100000 in
theorem newelref12_Recover.calls (k:Nat) (P0_0_:Nat→Prop) (A0_0:Option Addr) (c0_0:Nat) (l0_0:List Int) (P0_1_:Nat→Prop) (A0_1:Option Addr) (c0_1:Nat) (l0_1:List Int) (r1:Int) (r2:Int) (r3:Int) (r4:List Int) (r5:Bool) (r6:Bool) (w:World) (hs0_0:Kd.V (Kd.int .u8) 5 w w.heap.size (fun k_=>P0_0_ k_) (.slice A0_0 l0_0.length c0_0) l0_0) (hs0_1:Kd.V (Kd.int .u8) 5 w w.heap.size (fun k_=>P0_1_ k_) (.slice A0_1 l0_1.length c0_1) l0_1) (h:newelref12_Recover.f k l0_0 l0_1=some (r1,r2,r3,r4,r5,r6)):
  Calls Tryd.prog 15 #[.agg #[.slice A0_0 l0_0.length c0_0,.slice A0_1 l0_1.length c0_1]] w fun e w'=>∃ v3_:Value,e = .returned (.agg #[.int .i64 r1,.int .i64 r2,.int .i64 r3,v3_,.bool r5,.bool r6])∧Kd.V (Kd.int .u8) 5 w' w.heap.size (fun k_=>((P0_0_ k_∨P0_1_ k_)∨w.heap.size≤k_)) v3_ r4∧Below w.heap.size w w':=by
 have hu24:=Tryd.underlying24
 have hu39:=Tryd.underlying39
 have hu62:=Tryd.underlying62
 have hu26:=Tryd.underlying26
 have HO0_0:=Aside0.mk (show Kd.V (Kd.int .u8) 5 w w.heap.size (fun k_=>((P0_0_ k_∨P0_1_ k_)∨w.heap.size≤k_)) (.slice A0_0 l0_0.length c0_0) l0_0 from Kd.Qt hs0_0 (fun k_ hk=>.inl (.inl hk)))
 have HO0_1:=Aside0.mk (show Kd.V (Kd.int .u8) 5 w w.heap.size (fun k_=>((P0_0_ k_∨P0_1_ k_)∨w.heap.size≤k_)) (.slice A0_1 l0_1.length c0_1) l0_1 from Kd.Qt hs0_1 (fun k_ hk=>.inl (.inr hk)))
 have HB:=Aside0.mk (Below.refl w.heap.size w)
 have H:((newelref12_Read.f k l0_0).bind fun bt303=>((newelref12_Read.f k l0_1).bind fun bt311=>(if bt303.2.2.2.2=0 then (if bt311.2.2.2.2=0 then (newelref12_Recover.j0 k (decide (bt303.1≥bt311.1)) bt303.1 bt303.2.1 bt303.2.2.1 bt303.2.2.2.1 bt303.2.2.2.2 bt311.1 bt311.2.1 bt311.2.2.1 bt311.2.2.2.1 bt311.2.2.2.2) else (newelref12_Recover.j0 k true bt303.1 bt303.2.1 bt303.2.2.1 bt303.2.2.2.1 bt303.2.2.2.2 bt311.1 bt311.2.1 bt311.2.2.1 bt311.2.2.2.1 bt311.2.2.2.2)) else (newelref12_Recover.j0 k false bt303.1 bt303.2.1 bt303.2.2.1 bt303.2.2.2.1 bt303.2.2.2.2 bt311.1 bt311.2.1 bt311.2.2.1 bt311.2.2.2.1 bt311.2.2.2.2))))=some (r1,r2,r3,r4,r5,r6):=h
 clear h
 replace H:=Option.bind_eq_some_iff.mp H
 obtain⟨⟨t303,t304,t305,t306,t309⟩,A20,H⟩:=H
 replace H:((newelref12_Read.f k l0_1).bind fun bt311=>(if t309=0 then (if bt311.2.2.2.2=0 then (newelref12_Recover.j0 k (decide (t303≥bt311.1)) t303 t304 t305 t306 t309 bt311.1 bt311.2.1 bt311.2.2.1 bt311.2.2.2.1 bt311.2.2.2.2) else (newelref12_Recover.j0 k true t303 t304 t305 t306 t309 bt311.1 bt311.2.1 bt311.2.2.1 bt311.2.2.2.1 bt311.2.2.2.2)) else (newelref12_Recover.j0 k false t303 t304 t305 t306 t309 bt311.1 bt311.2.1 bt311.2.2.1 bt311.2.2.2.1 bt311.2.2.2.2)))=some (r1,r2,r3,r4,r5,r6):=H
 have A2:=Aside0.mk A20
 clear A20
 replace H:=Option.bind_eq_some_iff.mp H
 obtain⟨⟨t311,t312,t313,t314,t317⟩,A30,H⟩:=H
 replace H:(if t309=0 then (if t317=0 then (newelref12_Recover.j0 k (decide (t303≥t311)) t303 t304 t305 t306 t309 t311 t312 t313 t314 t317) else (newelref12_Recover.j0 k true t303 t304 t305 t306 t309 t311 t312 t313 t314 t317)) else (newelref12_Recover.j0 k false t303 t304 t305 t306 t309 t311 t312 t313 t314 t317))=some (r1,r2,r3,r4,r5,r6):=H
 have A3:=Aside0.mk A30
 clear A30
 have HC4:=Aside0.mk H
 clear H
 go_enter Tryd.func15,Tryd.ntmps15
 go_upto_region 3 with(first|((with_reducible refine Qz (N:=1) rfl ?_);refine Q7 ?hg (N:=1) ?hd (cs:=#[.slice A0_0 l0_0.length c0_0,.slice A0_1 l0_1.length c0_1]) (t:=24) ?hr ?_;(case hd=>rfl);(case hg=>rfl);(case hr=>first|(go_simp;done)|(go_simp;rfl));intro gb301 hg w5 hbox hb;have n0_:=Aside0.mk (Kd.Q2 (Kd.Q9 (by(with_reducible repeat first|apply Kd.Qx|apply Kd.Qw|apply Kd.Q0);exact HO0_0.out) gb301 (Nat.le_of_eq hg.symm)) hb);have n1_:=Aside0.mk (Kd.Q2 (Kd.Q9 (by(with_reducible repeat first|apply Kd.Qx|apply Kd.Qw|apply Kd.Q0);exact HO0_1.out) gb301 (Nat.le_of_eq hg.symm)) hb);have n2_:=Aside0.mk (Qr (by repeat(first|(with_reducible first|exact HB.out|apply Qe|apply Qa|apply Qf)|exact HB.out)) hb);have n3_:=Aside0.mk (hbox);have n4_:=Aside0.mk ((by rw[hg];exact(Qj (by repeat(first|(with_reducible first|exact HB.out|apply Qe|apply Qa|apply Qf)|exact HB.out))):w.heap.size≤gb301));have n5_:=Aside0.mk ((by rw[hg];exact(Qj (by repeat(first|(with_reducible first|exact HB.out|apply Qe|apply Qa|apply Qf)|exact HB.out))):w.heap.size≤gb301));clear HO0_0;clear HO0_1;clear HB;have HO0_0:=n0_;have HO0_1:=n1_;have HB:=n2_;have BK301:=n3_;have GW301:=n4_;have GE301:=n5_;clear n0_ n1_ n2_ n3_ n4_ n5_;clear hb hbox hg)|((with_reducible refine Qz (N:=2) rfl ?_);refine Q7 ?hg (N:=2) ?hd (cs:=#[.int .i64 0,.int .i64 0,.int .i64 0,.slice none 0 0,.bool false,.bool false]) (t:=39) ?hr ?_;(case hd=>rfl);(case hg=>rfl);(case hr=>first|(go_simp;done)|(go_simp;rfl));intro gb302 hg w6 hbox hb;have n0_:=Aside0.mk (Kd.Q2 (Kd.Q9 (by(with_reducible repeat first|apply Kd.Qx|apply Kd.Qw|apply Kd.Q0);exact HO0_0.out) gb302 (Nat.le_of_eq hg.symm)) hb);have n1_:=Aside0.mk (Kd.Q2 (Kd.Q9 (by(with_reducible repeat first|apply Kd.Qx|apply Kd.Qw|apply Kd.Q0);exact HO0_1.out) gb302 (Nat.le_of_eq hg.symm)) hb);have n2_:=Aside0.mk (Qp (g:=gb301) (o:=.cells #[.slice A0_0 l0_0.length c0_0,.slice A0_1 l0_1.length c0_1] 24 (0,0)) (by(with_reducible repeat first|apply Qb|apply Qd|apply Qc);exact BK301.out) hb);have n3_:=Aside0.mk (Qr (by repeat(first|(with_reducible first|exact HB.out|apply Qe|apply Qa|apply Qf|refine Qg ?_ GE301.out)|exact HB.out)) hb);have n4_:=Aside0.mk (hbox);have n5_:=Aside0.mk ((by rw[hg];exact(Qj (by repeat(first|(with_reducible first|exact HB.out|apply Qe|apply Qa|apply Qf|refine Qg ?_ GE301.out)|exact HB.out))):w.heap.size≤gb302));have n6_:=Aside0.mk ((by rw[hg];exact(Qj (by repeat(first|(with_reducible first|exact HB.out|apply Qe|apply Qa|apply Qf|refine Qg ?_ GE301.out)|exact HB.out))):w.heap.size≤gb302));have n7_:=Aside0.mk ((by rw[hg];exact Nat.ne_of_lt (Q8 (g:=gb301) (o:=.cells #[.slice A0_0 l0_0.length c0_0,.slice A0_1 l0_1.length c0_1] 24 (0,0)) (by(with_reducible repeat first|apply Qb|apply Qd|apply Qc);exact BK301.out)):gb301≠gb302));have n8_:=Aside0.mk ((by rw[hg];exact Nat.ne_of_gt (Q8 (g:=gb301) (o:=.cells #[.slice A0_0 l0_0.length c0_0,.slice A0_1 l0_1.length c0_1] 24 (0,0)) (by(with_reducible repeat first|apply Qb|apply Qd|apply Qc);exact BK301.out)):gb302≠gb301));clear HO0_0;clear HO0_1;clear BK301;clear HB;have HO0_0:=n0_;have HO0_1:=n1_;have BK301:=n2_;have HB:=n3_;have BK302:=n4_;have GW302:=n5_;have GE302:=n6_;have NB301_302:=n7_;have NB302_301:=n8_;clear n0_ n1_ n2_ n3_ n4_ n5_ n6_ n7_ n8_;clear hb hbox hg;have hnb7:=NB301_302.out;have hnc7:=NB302_301.out;obtain⟨hcz8_0,hcz8_1,hfz8_0,hfz8_1⟩:=qD2 BK301.out)|((with_reducible refine Qv (f:=26) rfl ?_);refine Ze (some 7) rfl rfl Tryd.func26 kr rfl #[.slice A0_0 l0_0.length c0_0] rfl (by(try simp only[List.map_toArray,List.map_cons,List.map_nil]);first|done|rfl|(simp only[List.length_drop,List.length_take];rfl)) ?_;(with_reducible refine(newelref12_Read.calls k (fun k_=>((((P0_0_ k_∨P0_1_ k_)∨w.heap.size≤k_)∧k_≠gb301)∧k_≠gb302)) _ _ l0_0 t303 t304 t305 t306 t309 _ ?side1 A2.out).mono ?_);(case side1=>exact HO0_0.out);rintro e w9 ⟨v307,rfl,ho0,hb⟩;refine⟨_,rfl, ?_⟩;have n0_:=Aside0.mk (Kd.Q2 (by(with_reducible repeat first|apply Kd.Qx|apply Kd.Qw|apply Kd.Q0);exact HO0_0.out) hb);have n1_:=Aside0.mk (Kd.Q2 (by(with_reducible repeat first|apply Kd.Qx|apply Kd.Qw|apply Kd.Q0);exact HO0_1.out) hb);have n2_:=Aside0.mk (Kd.Y1 (Kd.Qt (ok':=fun k_=>((P0_0_ k_∨P0_1_ k_)∨w.heap.size≤k_)∧k_≠gb301∧k_≠gb302) ho0 (fun k_ hk_=>⟨Or.elim hk_ (fun hs_=>hs_.1.1) (fun hn_=>(.inr (Nat.le_trans (Qj (by repeat(first|(with_reducible first|exact HB.out|apply Qe|apply Qa|apply Qf|refine Qg ?_ GE301.out|refine Qg ?_ GE302.out)|exact HB.out))) hn_))),Or.elim hk_ (fun hs_=>hs_.1.2) (fun hn_=>(Kd.Z5 (g:=gb301) (o:=.cells #[.slice A0_0 l0_0.length c0_0,.slice A0_1 l0_1.length c0_1] 24 (0,0)) (by(with_reducible repeat first|apply Qb|apply Qd|apply Qc);exact BK301.out) k_ hn_)),Or.elim hk_ (fun hs_=>hs_.2) (fun hn_=>(Kd.Z5 (g:=gb302) (o:=.cells #[.int .i64 0,.int .i64 0,.int .i64 0,.slice none 0 0,.bool false,.bool false] 39 (0,0)) (by(with_reducible repeat first|apply Qb|apply Qd|apply Qc);exact BK302.out) k_ hn_))⟩)) (Qj (by repeat(first|(with_reducible first|exact HB.out|apply Qe|apply Qa|apply Qf|refine Qg ?_ GE301.out|refine Qg ?_ GE302.out)|exact HB.out))));have n3_:=Aside0.mk (Qp (g:=gb301) (o:=.cells #[.slice A0_0 l0_0.length c0_0,.slice A0_1 l0_1.length c0_1] 24 (0,0)) (by(with_reducible repeat first|apply Qb|apply Qd|apply Qc);exact BK301.out) hb);have n4_:=Aside0.mk (Qp (g:=gb302) (o:=.cells #[.int .i64 0,.int .i64 0,.int .i64 0,.slice none 0 0,.bool false,.bool false] 39 (0,0)) (by(with_reducible repeat first|apply Qb|apply Qd|apply Qc);exact BK302.out) hb);have n5_:=Aside0.mk (Qr (by repeat(first|(with_reducible first|exact HB.out|apply Qe|apply Qa|apply Qf|refine Qg ?_ GE301.out|refine Qg ?_ GE302.out)|exact HB.out)) hb);clear HO0_0;clear HO0_1;clear BK301;clear BK302;clear HB;have HO0_0:=n0_;have HO0_1:=n1_;have HO308:=n2_;have BK301:=n3_;have BK302:=n4_;have HB:=n5_;clear n0_ n1_ n2_ n3_ n4_ n5_;(try clear hb);(try clear hb2);(try clear hk);(try clear hi);(try clear ho0))|((with_reducible refine Qz (N:=3) rfl ?_);refine Q7 ?hg (N:=3) ?hd (cs:=#[.int .i64 0,.int .i64 0,.int .i64 0,.slice none 0 0,.int .i64 0]) (t:=62) ?hr ?_;(case hd=>rfl);(case hg=>rfl);(case hr=>first|(go_simp;done)|(go_simp;rfl));intro gb310 hg w10 hbox hb;have n0_:=Aside0.mk (Kd.Q2 (Kd.Q9 (by(with_reducible repeat first|apply Kd.Qx|apply Kd.Qw|apply Kd.Q0);exact HO0_0.out) gb310 (Nat.le_of_eq hg.symm)) hb);have n1_:=Aside0.mk (Kd.Q2 (Kd.Q9 (by(with_reducible repeat first|apply Kd.Qx|apply Kd.Qw|apply Kd.Q0);exact HO0_1.out) gb310 (Nat.le_of_eq hg.symm)) hb);have n2_:=Aside0.mk (Kd.Q2 (Kd.Q9 (by(with_reducible repeat first|apply Kd.Qx|apply Kd.Qw|apply Kd.Q0);exact HO308.out) gb310 (Nat.le_of_eq hg.symm)) hb);have n3_:=Aside0.mk (Qp (g:=gb301) (o:=.cells #[.slice A0_0 l0_0.length c0_0,.slice A0_1 l0_1.length c0_1] 24 (0,0)) (by(with_reducible repeat first|apply Qb|apply Qd|apply Qc);exact BK301.out) hb);have n4_:=Aside0.mk (Qp (g:=gb302) (o:=.cells #[.int .i64 0,.int .i64 0,.int .i64 0,.slice none 0 0,.bool false,.bool false] 39 (0,0)) (by(with_reducible repeat first|apply Qb|apply Qd|apply Qc);exact BK302.out) hb);have n5_:=Aside0.mk (Qr (by repeat(first|(with_reducible first|exact HB.out|apply Qe|apply Qa|apply Qf|refine Qg ?_ GE301.out|refine Qg ?_ GE302.out)|exact HB.out)) hb);have n6_:=Aside0.mk (hbox);have n7_:=Aside0.mk ((by rw[hg];exact(Qj (by repeat(first|(with_reducible first|exact HB.out|apply Qe|apply Qa|apply Qf|refine Qg ?_ GE301.out|refine Qg ?_ GE302.out)|exact HB.out))):w.heap.size≤gb310));have n8_:=Aside0.mk ((by rw[hg];exact(Qj (by repeat(first|(with_reducible first|exact HB.out|apply Qe|apply Qa|apply Qf|refine Qg ?_ GE301.out|refine Qg ?_ GE302.out)|exact HB.out))):w.heap.size≤gb310));have n9_:=Aside0.mk ((by rw[hg];exact Nat.ne_of_lt (Q8 (g:=gb301) (o:=.cells #[.slice A0_0 l0_0.length c0_0,.slice A0_1 l0_1.length c0_1] 24 (0,0)) (by(with_reducible repeat first|apply Qb|apply Qd|apply Qc);exact BK301.out)):gb301≠gb310));have n10_:=Aside0.mk ((by rw[hg];exact Nat.ne_of_gt (Q8 (g:=gb301) (o:=.cells #[.slice A0_0 l0_0.length c0_0,.slice A0_1 l0_1.length c0_1] 24 (0,0)) (by(with_reducible repeat first|apply Qb|apply Qd|apply Qc);exact BK301.out)):gb310≠gb301));have n11_:=Aside0.mk ((by rw[hg];exact Nat.ne_of_lt (Q8 (g:=gb302) (o:=.cells #[.int .i64 0,.int .i64 0,.int .i64 0,.slice none 0 0,.bool false,.bool false] 39 (0,0)) (by(with_reducible repeat first|apply Qb|apply Qd|apply Qc);exact BK302.out)):gb302≠gb310));have n12_:=Aside0.mk ((by rw[hg];exact Nat.ne_of_gt (Q8 (g:=gb302) (o:=.cells #[.int .i64 0,.int .i64 0,.int .i64 0,.slice none 0 0,.bool false,.bool false] 39 (0,0)) (by(with_reducible repeat first|apply Qb|apply Qd|apply Qc);exact BK302.out)):gb310≠gb302));clear HO0_0;clear HO0_1;clear HO308;clear BK301;clear BK302;clear HB;have HO0_0:=n0_;have HO0_1:=n1_;have HO308:=n2_;have BK301:=n3_;have BK302:=n4_;have HB:=n5_;have BK310:=n6_;have GW310:=n7_;have GE310:=n8_;have NB301_310:=n9_;have NB310_301:=n10_;have NB302_310:=n11_;have NB310_302:=n12_;clear n0_ n1_ n2_ n3_ n4_ n5_ n6_ n7_ n8_ n9_ n10_ n11_ n12_;clear hb hbox hg;have hnb11:=NB310_301.out;have hnc11:=NB301_310.out;have hnb12:=NB310_302.out;have hnc12:=NB302_310.out;obtain⟨hcz13_0,hcz13_1,hcz13_2,hcz13_3,hcz13_4,hfz13_0,hfz13_1,hfz13_2,hfz13_3,hfz13_4⟩:=qD5 BK310.out;obtain⟨Ao14,co14,eo14⟩:=Kd.Jo HO308.out;subst eo14)|((with_reducible refine Xq (t:=62) (p:=3) rfl ?_);refine Xd (t:=62) (p:=3) (v:=?vo_w15) (w1:=(((((w10.setCell ⟨gb310,0,none⟩ (.int .i64 t303)).setCell ⟨gb310,1,none⟩ (.int .i64 t304)).setCell ⟨gb310,2,none⟩ (.int .i64 t305)).setCell ⟨gb310,3,none⟩ (.slice Ao14 t306.length co14)).setCell ⟨gb310,4,none⟩ (.int .i64 t309))) ?hg ?ho ?hn ?hr ?_;(case ho=>rfl);(case hg=>rfl);(case hn=>rfl);(case hr=>first|(go_simp;done)|(go_simp;rfl));intro w15 hw;have n0_:Aside0 (Kd.V (Kd.int .u8) 5 w15 w.heap.size (fun k_=>((P0_0_ k_∨P0_1_ k_)∨w.heap.size≤k_)∧k_≠gb301∧k_≠gb302∧k_≠gb310) (.slice A0_0 l0_0.length c0_0) l0_0):=⟨(by rw[hw];exact(by(with_reducible repeat first|apply Kd.Qx|apply Kd.Qw|apply Kd.Q0);exact Kd.Qt (Kd.Qq (p:=⟨gb310,4,none⟩) (Kd.Qq (p:=⟨gb310,3,none⟩) (Kd.Qq (p:=⟨gb310,2,none⟩) (Kd.Qq (p:=⟨gb310,1,none⟩) (Kd.Qq (p:=⟨gb310,0,none⟩) (Kd.Qt HO0_0.out (fun k_ hk=>(⟨hk,hk.2⟩:_∧k_≠gb310))) (fun _ hk=>hk.2) (.int .i64 t303)) (fun _ hk=>hk.2) (.int .i64 t304)) (fun _ hk=>hk.2) (.int .i64 t305)) (fun _ hk=>hk.2) (.slice Ao14 t306.length co14)) (fun _ hk=>hk.2) (.int .i64 t309)) (fun _ hk=>⟨hk.1.1.1.1,⟨hk.1.1.1.2,⟨hk.1.1.2,hk.1.2⟩⟩⟩)))⟩;have n1_:Aside0 (Kd.V (Kd.int .u8) 5 w15 w.heap.size (fun k_=>((P0_0_ k_∨P0_1_ k_)∨w.heap.size≤k_)∧k_≠gb301∧k_≠gb302∧k_≠gb310) (.slice A0_1 l0_1.length c0_1) l0_1):=⟨(by rw[hw];exact(by(with_reducible repeat first|apply Kd.Qx|apply Kd.Qw|apply Kd.Q0);exact Kd.Qt (Kd.Qq (p:=⟨gb310,4,none⟩) (Kd.Qq (p:=⟨gb310,3,none⟩) (Kd.Qq (p:=⟨gb310,2,none⟩) (Kd.Qq (p:=⟨gb310,1,none⟩) (Kd.Qq (p:=⟨gb310,0,none⟩) (Kd.Qt HO0_1.out (fun k_ hk=>(⟨hk,hk.2⟩:_∧k_≠gb310))) (fun _ hk=>hk.2) (.int .i64 t303)) (fun _ hk=>hk.2) (.int .i64 t304)) (fun _ hk=>hk.2) (.int .i64 t305)) (fun _ hk=>hk.2) (.slice Ao14 t306.length co14)) (fun _ hk=>hk.2) (.int .i64 t309)) (fun _ hk=>⟨hk.1.1.1.1,⟨hk.1.1.1.2,⟨hk.1.1.2,hk.1.2⟩⟩⟩)))⟩;have n2_:Aside0 (Kd.V (Kd.int .u8) 5 w15 w.heap.size (fun k_=>((P0_0_ k_∨P0_1_ k_)∨w.heap.size≤k_)∧k_≠gb301∧k_≠gb302∧k_≠gb310) (.slice Ao14 t306.length co14) t306):=⟨(by rw[hw];exact(by(with_reducible repeat first|apply Kd.Qx|apply Kd.Qw|apply Kd.Q0);exact Kd.Qt (Kd.Qq (p:=⟨gb310,4,none⟩) (Kd.Qq (p:=⟨gb310,3,none⟩) (Kd.Qq (p:=⟨gb310,2,none⟩) (Kd.Qq (p:=⟨gb310,1,none⟩) (Kd.Qq (p:=⟨gb310,0,none⟩) (Kd.Qt HO308.out (fun k_ hk=>(⟨hk,hk.2⟩:_∧k_≠gb310))) (fun _ hk=>hk.2) (.int .i64 t303)) (fun _ hk=>hk.2) (.int .i64 t304)) (fun _ hk=>hk.2) (.int .i64 t305)) (fun _ hk=>hk.2) (.slice Ao14 t306.length co14)) (fun _ hk=>hk.2) (.int .i64 t309)) (fun _ hk=>⟨hk.1.1.1,⟨hk.1.1.2.1,⟨hk.1.1.2.2,hk.1.2⟩⟩⟩)))⟩;have n3_:Aside0 (w15.heap[gb301]?=some (.cells #[.slice A0_0 l0_0.length c0_0,.slice A0_1 l0_1.length c0_1] 24 (0,0))):=⟨(by rw[hw];exact(by(with_reducible repeat first|apply Qb|apply Qd|apply Qc);refine Qs ?_ NB301_310.out _;(with_reducible repeat first|apply Qb|apply Qd|apply Qc);refine Qs ?_ NB301_310.out _;(with_reducible repeat first|apply Qb|apply Qd|apply Qc);refine Qs ?_ NB301_310.out _;(with_reducible repeat first|apply Qb|apply Qd|apply Qc);refine Qs ?_ NB301_310.out _;(with_reducible repeat first|apply Qb|apply Qd|apply Qc);refine Qs ?_ NB301_310.out _;(with_reducible repeat first|apply Qb|apply Qd|apply Qc);exact BK301.out))⟩;have n4_:Aside0 (w15.heap[gb302]?=some (.cells #[.int .i64 0,.int .i64 0,.int .i64 0,.slice none 0 0,.bool false,.bool false] 39 (0,0))):=⟨(by rw[hw];exact(by(with_reducible repeat first|apply Qb|apply Qd|apply Qc);refine Qs ?_ NB302_310.out _;(with_reducible repeat first|apply Qb|apply Qd|apply Qc);refine Qs ?_ NB302_310.out _;(with_reducible repeat first|apply Qb|apply Qd|apply Qc);refine Qs ?_ NB302_310.out _;(with_reducible repeat first|apply Qb|apply Qd|apply Qc);refine Qs ?_ NB302_310.out _;(with_reducible repeat first|apply Qb|apply Qd|apply Qc);refine Qs ?_ NB302_310.out _;(with_reducible repeat first|apply Qb|apply Qd|apply Qc);exact BK302.out))⟩;have n5_:Aside0 (w15.heap[gb310]?=some (.cells #[.int .i64 t303,.int .i64 t304,.int .i64 t305,.slice Ao14 t306.length co14,.int .i64 t309] 62 (0,0))):=⟨(by rw[hw];exact(by(with_reducible repeat first|apply Qb|apply Qd|apply Qc);refine Qk (cs:=#[.int .i64 t303,.int .i64 t304,.int .i64 t305,.slice Ao14 t306.length co14,.int .i64 0]) ?_ 4 _ rfl;(with_reducible repeat first|apply Qb|apply Qd|apply Qc);refine Qk (cs:=#[.int .i64 t303,.int .i64 t304,.int .i64 t305,.slice none 0 0,.int .i64 0]) ?_ 3 _ rfl;(with_reducible repeat first|apply Qb|apply Qd|apply Qc);refine Qk (cs:=#[.int .i64 t303,.int .i64 t304,.int .i64 0,.slice none 0 0,.int .i64 0]) ?_ 2 _ rfl;(with_reducible repeat first|apply Qb|apply Qd|apply Qc);refine Qk (cs:=#[.int .i64 t303,.int .i64 0,.int .i64 0,.slice none 0 0,.int .i64 0]) ?_ 1 _ rfl;(with_reducible repeat first|apply Qb|apply Qd|apply Qc);refine Qk (cs:=#[.int .i64 0,.int .i64 0,.int .i64 0,.slice none 0 0,.int .i64 0]) ?_ 0 _ rfl;(with_reducible repeat first|apply Qb|apply Qd|apply Qc);exact BK310.out))⟩;have n6_:Aside0 (Below w.heap.size w w15):=⟨(by rw[hw];exact(by repeat(first|(with_reducible first|exact HB.out|apply Qe|apply Qa|apply Qf|refine Qg ?_ GE301.out|refine Qg ?_ GE302.out|refine Qg ?_ GE310.out)|exact HB.out)))⟩;clear hw;clear HO0_0;clear HO0_1;clear HO308;clear BK301;clear BK302;clear BK310;clear HB;have HO0_0:=n0_;have HO0_1:=n1_;have HO308:=n2_;have BK301:=n3_;have BK302:=n4_;have BK310:=n5_;have HB:=n6_;clear n0_ n1_ n2_ n3_ n4_ n5_ n6_;obtain⟨hcz16_0,hcz16_1,hfz16_0,hfz16_1⟩:=qD2 BK301.out)|((with_reducible refine Qv (f:=26) rfl ?_);refine Ze (some 10) rfl rfl Tryd.func26 kr rfl #[.slice A0_1 l0_1.length c0_1] rfl (by(try simp only[List.map_toArray,List.map_cons,List.map_nil]);first|done|rfl|(simp only[List.length_drop,List.length_take];rfl)) ?_;(with_reducible refine(newelref12_Read.calls k (fun k_=>(((P0_0_ k_∨P0_1_ k_)∨w.heap.size≤k_)∧(k_≠gb301∧(k_≠gb302∧k_≠gb310)))) _ _ l0_1 t311 t312 t313 t314 t317 _ ?side1 A3.out).mono ?_);(case side1=>exact HO0_1.out);rintro e w17 ⟨v315,rfl,ho0,hb⟩;refine⟨_,rfl, ?_⟩;have n0_:=Aside0.mk (Kd.Q2 (by(with_reducible repeat first|apply Kd.Qx|apply Kd.Qw|apply Kd.Q0);exact HO0_0.out) hb);have n1_:=Aside0.mk (Kd.Q2 (by(with_reducible repeat first|apply Kd.Qx|apply Kd.Qw|apply Kd.Q0);exact HO0_1.out) hb);have n2_:=Aside0.mk (Kd.Q2 (by(with_reducible repeat first|apply Kd.Qx|apply Kd.Qw|apply Kd.Q0);exact HO308.out) hb);have n3_:=Aside0.mk (Kd.Y1 (Kd.Qt (ok':=fun k_=>((P0_0_ k_∨P0_1_ k_)∨w.heap.size≤k_)∧k_≠gb301∧k_≠gb302∧k_≠gb310) ho0 (fun k_ hk_=>⟨Or.elim hk_ (fun hs_=>hs_.1) (fun hn_=>(.inr (Nat.le_trans (Qj (by repeat(first|(with_reducible first|exact HB.out|apply Qe|apply Qa|apply Qf|refine Qg ?_ GE301.out|refine Qg ?_ GE302.out|refine Qg ?_ GE310.out)|exact HB.out))) hn_))),Or.elim hk_ (fun hs_=>hs_.2.1) (fun hn_=>(Kd.Z5 (g:=gb301) (o:=.cells #[.slice A0_0 l0_0.length c0_0,.slice A0_1 l0_1.length c0_1] 24 (0,0)) (by(with_reducible repeat first|apply Qb|apply Qd|apply Qc);exact BK301.out) k_ hn_)),Or.elim hk_ (fun hs_=>hs_.2.2.1) (fun hn_=>(Kd.Z5 (g:=gb302) (o:=.cells #[.int .i64 0,.int .i64 0,.int .i64 0,.slice none 0 0,.bool false,.bool false] 39 (0,0)) (by(with_reducible repeat first|apply Qb|apply Qd|apply Qc);exact BK302.out) k_ hn_)),Or.elim hk_ (fun hs_=>hs_.2.2.2) (fun hn_=>(Kd.Z5 (g:=gb310) (o:=.cells #[.int .i64 t303,.int .i64 t304,.int .i64 t305,.slice Ao14 t306.length co14,.int .i64 t309] 62 (0,0)) (by(with_reducible repeat first|apply Qb|apply Qd|apply Qc);exact BK310.out) k_ hn_))⟩)) (Qj (by repeat(first|(with_reducible first|exact HB.out|apply Qe|apply Qa|apply Qf|refine Qg ?_ GE301.out|refine Qg ?_ GE302.out|refine Qg ?_ GE310.out)|exact HB.out))));have n4_:=Aside0.mk (Qp (g:=gb301) (o:=.cells #[.slice A0_0 l0_0.length c0_0,.slice A0_1 l0_1.length c0_1] 24 (0,0)) (by(with_reducible repeat first|apply Qb|apply Qd|apply Qc);exact BK301.out) hb);have n5_:=Aside0.mk (Qp (g:=gb302) (o:=.cells #[.int .i64 0,.int .i64 0,.int .i64 0,.slice none 0 0,.bool false,.bool false] 39 (0,0)) (by(with_reducible repeat first|apply Qb|apply Qd|apply Qc);exact BK302.out) hb);have n6_:=Aside0.mk (Qp (g:=gb310) (o:=.cells #[.int .i64 t303,.int .i64 t304,.int .i64 t305,.slice Ao14 t306.length co14,.int .i64 t309] 62 (0,0)) (by(with_reducible repeat first|apply Qb|apply Qd|apply Qc);exact BK310.out) hb);have n7_:=Aside0.mk (Qr (by repeat(first|(with_reducible first|exact HB.out|apply Qe|apply Qa|apply Qf|refine Qg ?_ GE301.out|refine Qg ?_ GE302.out|refine Qg ?_ GE310.out)|exact HB.out)) hb);clear HO0_0;clear HO0_1;clear HO308;clear BK301;clear BK302;clear BK310;clear HB;have HO0_0:=n0_;have HO0_1:=n1_;have HO308:=n2_;have HO316:=n3_;have BK301:=n4_;have BK302:=n5_;have BK310:=n6_;have HB:=n7_;clear n0_ n1_ n2_ n3_ n4_ n5_ n6_ n7_;(try clear hb);(try clear hb2);(try clear hk);(try clear hi);(try clear ho0))|((with_reducible refine Qz (N:=4) rfl ?_);refine Q7 ?hg (N:=4) ?hd (cs:=#[.int .i64 0,.int .i64 0,.int .i64 0,.slice none 0 0,.int .i64 0]) (t:=62) ?hr ?_;(case hd=>rfl);(case hg=>rfl);(case hr=>first|(go_simp;done)|(go_simp;rfl));intro gb318 hg w18 hbox hb;have n0_:=Aside0.mk (Kd.Q2 (Kd.Q9 (by(with_reducible repeat first|apply Kd.Qx|apply Kd.Qw|apply Kd.Q0);exact HO0_0.out) gb318 (Nat.le_of_eq hg.symm)) hb);have n1_:=Aside0.mk (Kd.Q2 (Kd.Q9 (by(with_reducible repeat first|apply Kd.Qx|apply Kd.Qw|apply Kd.Q0);exact HO0_1.out) gb318 (Nat.le_of_eq hg.symm)) hb);have n2_:=Aside0.mk (Kd.Q2 (Kd.Q9 (by(with_reducible repeat first|apply Kd.Qx|apply Kd.Qw|apply Kd.Q0);exact HO308.out) gb318 (Nat.le_of_eq hg.symm)) hb);have n3_:=Aside0.mk (Kd.Q2 (Kd.Q9 (by(with_reducible repeat first|apply Kd.Qx|apply Kd.Qw|apply Kd.Q0);exact HO316.out) gb318 (Nat.le_of_eq hg.symm)) hb);have n4_:=Aside0.mk (Qp (g:=gb301) (o:=.cells #[.slice A0_0 l0_0.length c0_0,.slice A0_1 l0_1.length c0_1] 24 (0,0)) (by(with_reducible repeat first|apply Qb|apply Qd|apply Qc);exact BK301.out) hb);have n5_:=Aside0.mk (Qp (g:=gb302) (o:=.cells #[.int .i64 0,.int .i64 0,.int .i64 0,.slice none 0 0,.bool false,.bool false] 39 (0,0)) (by(with_reducible repeat first|apply Qb|apply Qd|apply Qc);exact BK302.out) hb);have n6_:=Aside0.mk (Qp (g:=gb310) (o:=.cells #[.int .i64 t303,.int .i64 t304,.int .i64 t305,.slice Ao14 t306.length co14,.int .i64 t309] 62 (0,0)) (by(with_reducible repeat first|apply Qb|apply Qd|apply Qc);exact BK310.out) hb);have n7_:=Aside0.mk (Qr (by repeat(first|(with_reducible first|exact HB.out|apply Qe|apply Qa|apply Qf|refine Qg ?_ GE301.out|refine Qg ?_ GE302.out|refine Qg ?_ GE310.out)|exact HB.out)) hb);have n8_:=Aside0.mk (hbox);have n9_:=Aside0.mk ((by rw[hg];exact(Qj (by repeat(first|(with_reducible first|exact HB.out|apply Qe|apply Qa|apply Qf|refine Qg ?_ GE301.out|refine Qg ?_ GE302.out|refine Qg ?_ GE310.out)|exact HB.out))):w.heap.size≤gb318));have n10_:=Aside0.mk ((by rw[hg];exact(Qj (by repeat(first|(with_reducible first|exact HB.out|apply Qe|apply Qa|apply Qf|refine Qg ?_ GE301.out|refine Qg ?_ GE302.out|refine Qg ?_ GE310.out)|exact HB.out))):w.heap.size≤gb318));have n11_:=Aside0.mk ((by rw[hg];exact Nat.ne_of_lt (Q8 (g:=gb301) (o:=.cells #[.slice A0_0 l0_0.length c0_0,.slice A0_1 l0_1.length c0_1] 24 (0,0)) (by(with_reducible repeat first|apply Qb|apply Qd|apply Qc);exact BK301.out)):gb301≠gb318));have n12_:=Aside0.mk ((by rw[hg];exact Nat.ne_of_gt (Q8 (g:=gb301) (o:=.cells #[.slice A0_0 l0_0.length c0_0,.slice A0_1 l0_1.length c0_1] 24 (0,0)) (by(with_reducible repeat first|apply Qb|apply Qd|apply Qc);exact BK301.out)):gb318≠gb301));have n13_:=Aside0.mk ((by rw[hg];exact Nat.ne_of_lt (Q8 (g:=gb302) (o:=.cells #[.int .i64 0,.int .i64 0,.int .i64 0,.slice none 0 0,.bool false,.bool false] 39 (0,0)) (by(with_reducible repeat first|apply Qb|apply Qd|apply Qc);exact BK302.out)):gb302≠gb318));have n14_:=Aside0.mk ((by rw[hg];exact Nat.ne_of_gt (Q8 (g:=gb302) (o:=.cells #[.int .i64 0,.int .i64 0,.int .i64 0,.slice none 0 0,.bool false,.bool false] 39 (0,0)) (by(with_reducible repeat first|apply Qb|apply Qd|apply Qc);exact BK302.out)):gb318≠gb302));have n15_:=Aside0.mk ((by rw[hg];exact Nat.ne_of_lt (Q8 (g:=gb310) (o:=.cells #[.int .i64 t303,.int .i64 t304,.int .i64 t305,.slice Ao14 t306.length co14,.int .i64 t309] 62 (0,0)) (by(with_reducible repeat first|apply Qb|apply Qd|apply Qc);exact BK310.out)):gb310≠gb318));have n16_:=Aside0.mk ((by rw[hg];exact Nat.ne_of_gt (Q8 (g:=gb310) (o:=.cells #[.int .i64 t303,.int .i64 t304,.int .i64 t305,.slice Ao14 t306.length co14,.int .i64 t309] 62 (0,0)) (by(with_reducible repeat first|apply Qb|apply Qd|apply Qc);exact BK310.out)):gb318≠gb310));clear HO0_0;clear HO0_1;clear HO308;clear HO316;clear BK301;clear BK302;clear BK310;clear HB;have HO0_0:=n0_;have HO0_1:=n1_;have HO308:=n2_;have HO316:=n3_;have BK301:=n4_;have BK302:=n5_;have BK310:=n6_;have HB:=n7_;have BK318:=n8_;have GW318:=n9_;have GE318:=n10_;have NB301_318:=n11_;have NB318_301:=n12_;have NB302_318:=n13_;have NB318_302:=n14_;have NB310_318:=n15_;have NB318_310:=n16_;clear n0_ n1_ n2_ n3_ n4_ n5_ n6_ n7_ n8_ n9_ n10_ n11_ n12_ n13_ n14_ n15_ n16_;clear hb hbox hg;have hnb19:=NB318_301.out;have hnc19:=NB301_318.out;have hnb20:=NB318_302.out;have hnc20:=NB302_318.out;have hnb21:=NB318_310.out;have hnc21:=NB310_318.out;obtain⟨hcz22_0,hcz22_1,hcz22_2,hcz22_3,hcz22_4,hfz22_0,hfz22_1,hfz22_2,hfz22_3,hfz22_4⟩:=qD5 BK318.out;obtain⟨Ao23,co23,eo23⟩:=Kd.Jo HO316.out;subst eo23))
 (try simp only[Act.put,qS])
 go_cut [27] (fun v27 wc=>∃ (kq:Nat) (x27_3:Bool),v27 = .bool x27_3∧Aside0 (newelref12_Recover.j0 kq x27_3 t303 t304 t305 t306 t309 t311 t312 t313 t314 t317=some (r1,r2,r3,r4,r5,r6))∧Aside0 (kq≤k)∧Aside0 (Kd.V (Kd.int .u8) 5 wc w.heap.size (fun k_=>((P0_0_ k_∨P0_1_ k_)∨w.heap.size≤k_)∧k_≠gb301∧k_≠gb302∧k_≠gb310∧k_≠gb318) (.slice A0_0 l0_0.length c0_0) l0_0)∧Aside0 (Kd.V (Kd.int .u8) 5 wc w.heap.size (fun k_=>((P0_0_ k_∨P0_1_ k_)∨w.heap.size≤k_)∧k_≠gb301∧k_≠gb302∧k_≠gb310∧k_≠gb318) (.slice A0_1 l0_1.length c0_1) l0_1)∧Aside0 (Kd.V (Kd.int .u8) 5 wc w.heap.size (fun k_=>((P0_0_ k_∨P0_1_ k_)∨w.heap.size≤k_)∧k_≠gb301∧k_≠gb302∧k_≠gb310∧k_≠gb318) (.slice Ao14 t306.length co14) t306)∧Aside0 (Kd.V (Kd.int .u8) 5 wc w.heap.size (fun k_=>((P0_0_ k_∨P0_1_ k_)∨w.heap.size≤k_)∧k_≠gb301∧k_≠gb302∧k_≠gb310∧k_≠gb318) (.slice Ao23 t314.length co23) t314)∧Aside0 (wc.heap[gb301]?=some (.cells #[(.slice A0_0 l0_0.length c0_0),(.slice A0_1 l0_1.length c0_1)] 24 (0,0)))∧Aside0 (wc.heap[gb302]?=some (.cells #[.int .i64 0,.int .i64 0,.int .i64 0,(.slice none 0 0),.bool false,.bool false] 39 (0,0)))∧Aside0 (wc.heap[gb310]?=some (.cells #[.int .i64 t303,.int .i64 t304,.int .i64 t305,(.slice Ao14 t306.length co14),.int .i64 t309] 62 (0,0)))∧Aside0 (wc.heap[gb318]?=some (.cells #[.int .i64 t311,.int .i64 t312,.int .i64 t313,(.slice Ao23 t314.length co23),.int .i64 t317] 62 (0,0)))∧Aside0 (Below w.heap.size w wc))
 case first=>
  have H:=HC4.out
  clear HC4
  by_cases c24:t309=0
  ·rw[if_pos c24] at H
   have c24b0:(t309==0)=true:=beq_iff_eq.mpr c24
   have c24b1:(t309 != 0)=false:=bne_eq_false_iff_eq.mpr c24
   clear c24
   (first|rw[c24b0]|(simp only[Zu,Z4];rw[c24b0])|skip)
   by_cases c25:t317=0
   ·rw[if_pos c25] at H
    have c25b0:(t317==0)=true:=beq_iff_eq.mpr c25
    have c25b1:(t317 != 0)=false:=bne_eq_false_iff_eq.mpr c25
    clear c25
    have H':=Aside0.mk H
    clear H
    have hnb26:=NB310_301.out
    have hnc26:=NB301_310.out
    have hnb27:=NB310_302.out
    have hnc27:=NB302_310.out
    have hnb28:=NB310_318.out
    have hnc28:=NB318_310.out
    obtain⟨hcz29_0,hcz29_1,hcz29_2,hcz29_3,hcz29_4,hfz29_0,hfz29_1,hfz29_2,hfz29_3,hfz29_4⟩:=qD5 BK310.out
    have hnb30:=NB318_301.out
    have hnc30:=NB301_318.out
    have hnb31:=NB318_302.out
    have hnc31:=NB302_318.out
    obtain⟨hcz32_0,hcz32_1,hcz32_2,hcz32_3,hcz32_4,hfz32_0,hfz32_1,hfz32_2,hfz32_3,hfz32_4⟩:=qD5 BK318.out
    go_wp2
    go_meet
    case rel=>exact⟨_,(decide (t303≥t311)),qR,H',⟨by first|omega|exact Nat.le_refl _⟩,⟨by(with_reducible repeat first|apply Kd.Qx|apply Kd.Qw|apply Kd.Q0);exact Kd.Qt (Kd.Qq (p:=⟨gb318,4,none⟩) (Kd.Qq (p:=⟨gb318,3,none⟩) (Kd.Qq (p:=⟨gb318,2,none⟩) (Kd.Qq (p:=⟨gb318,1,none⟩) (Kd.Qq (p:=⟨gb318,0,none⟩) (Kd.Qt HO0_0.out (fun k_ hk=>(⟨hk,hk.2⟩:_∧k_≠gb318))) (fun _ hk=>hk.2) (.int .i64 t311)) (fun _ hk=>hk.2) (.int .i64 t312)) (fun _ hk=>hk.2) (.int .i64 t313)) (fun _ hk=>hk.2) (.slice Ao23 t314.length co23)) (fun _ hk=>hk.2) (.int .i64 t317)) (fun _ hk=>⟨hk.1.1.1,⟨hk.1.1.2.1,⟨hk.1.1.2.2.1,⟨hk.1.1.2.2.2,hk.1.2⟩⟩⟩⟩)⟩,⟨by(with_reducible repeat first|apply Kd.Qx|apply Kd.Qw|apply Kd.Q0);exact Kd.Qt (Kd.Qq (p:=⟨gb318,4,none⟩) (Kd.Qq (p:=⟨gb318,3,none⟩) (Kd.Qq (p:=⟨gb318,2,none⟩) (Kd.Qq (p:=⟨gb318,1,none⟩) (Kd.Qq (p:=⟨gb318,0,none⟩) (Kd.Qt HO0_1.out (fun k_ hk=>(⟨hk,hk.2⟩:_∧k_≠gb318))) (fun _ hk=>hk.2) (.int .i64 t311)) (fun _ hk=>hk.2) (.int .i64 t312)) (fun _ hk=>hk.2) (.int .i64 t313)) (fun _ hk=>hk.2) (.slice Ao23 t314.length co23)) (fun _ hk=>hk.2) (.int .i64 t317)) (fun _ hk=>⟨hk.1.1.1,⟨hk.1.1.2.1,⟨hk.1.1.2.2.1,⟨hk.1.1.2.2.2,hk.1.2⟩⟩⟩⟩)⟩,⟨by(with_reducible repeat first|apply Kd.Qx|apply Kd.Qw|apply Kd.Q0);exact Kd.Qt (Kd.Qq (p:=⟨gb318,4,none⟩) (Kd.Qq (p:=⟨gb318,3,none⟩) (Kd.Qq (p:=⟨gb318,2,none⟩) (Kd.Qq (p:=⟨gb318,1,none⟩) (Kd.Qq (p:=⟨gb318,0,none⟩) (Kd.Qt HO308.out (fun k_ hk=>(⟨hk,hk.2⟩:_∧k_≠gb318))) (fun _ hk=>hk.2) (.int .i64 t311)) (fun _ hk=>hk.2) (.int .i64 t312)) (fun _ hk=>hk.2) (.int .i64 t313)) (fun _ hk=>hk.2) (.slice Ao23 t314.length co23)) (fun _ hk=>hk.2) (.int .i64 t317)) (fun _ hk=>⟨hk.1.1.1,⟨hk.1.1.2.1,⟨hk.1.1.2.2.1,⟨hk.1.1.2.2.2,hk.1.2⟩⟩⟩⟩)⟩,⟨by(with_reducible repeat first|apply Kd.Qx|apply Kd.Qw|apply Kd.Q0);exact Kd.Qt (Kd.Qq (p:=⟨gb318,4,none⟩) (Kd.Qq (p:=⟨gb318,3,none⟩) (Kd.Qq (p:=⟨gb318,2,none⟩) (Kd.Qq (p:=⟨gb318,1,none⟩) (Kd.Qq (p:=⟨gb318,0,none⟩) (Kd.Qt HO316.out (fun k_ hk=>(⟨hk,hk.2⟩:_∧k_≠gb318))) (fun _ hk=>hk.2) (.int .i64 t311)) (fun _ hk=>hk.2) (.int .i64 t312)) (fun _ hk=>hk.2) (.int .i64 t313)) (fun _ hk=>hk.2) (.slice Ao23 t314.length co23)) (fun _ hk=>hk.2) (.int .i64 t317)) (fun _ hk=>⟨hk.1.1.1,⟨hk.1.1.2.1,⟨hk.1.1.2.2.1,⟨hk.1.1.2.2.2,hk.1.2⟩⟩⟩⟩)⟩,⟨by(with_reducible repeat first|apply Qb|apply Qd|apply Qc);refine Qs ?_ NB301_318.out _;(with_reducible repeat first|apply Qb|apply Qd|apply Qc);refine Qs ?_ NB301_318.out _;(with_reducible repeat first|apply Qb|apply Qd|apply Qc);refine Qs ?_ NB301_318.out _;(with_reducible repeat first|apply Qb|apply Qd|apply Qc);refine Qs ?_ NB301_318.out _;(with_reducible repeat first|apply Qb|apply Qd|apply Qc);refine Qs ?_ NB301_318.out _;(with_reducible repeat first|apply Qb|apply Qd|apply Qc);exact BK301.out⟩,⟨by(with_reducible repeat first|apply Qb|apply Qd|apply Qc);refine Qs ?_ NB302_318.out _;(with_reducible repeat first|apply Qb|apply Qd|apply Qc);refine Qs ?_ NB302_318.out _;(with_reducible repeat first|apply Qb|apply Qd|apply Qc);refine Qs ?_ NB302_318.out _;(with_reducible repeat first|apply Qb|apply Qd|apply Qc);refine Qs ?_ NB302_318.out _;(with_reducible repeat first|apply Qb|apply Qd|apply Qc);refine Qs ?_ NB302_318.out _;(with_reducible repeat first|apply Qb|apply Qd|apply Qc);exact BK302.out⟩,⟨by(with_reducible repeat first|apply Qb|apply Qd|apply Qc);refine Qs ?_ NB310_318.out _;(with_reducible repeat first|apply Qb|apply Qd|apply Qc);refine Qs ?_ NB310_318.out _;(with_reducible repeat first|apply Qb|apply Qd|apply Qc);refine Qs ?_ NB310_318.out _;(with_reducible repeat first|apply Qb|apply Qd|apply Qc);refine Qs ?_ NB310_318.out _;(with_reducible repeat first|apply Qb|apply Qd|apply Qc);refine Qs ?_ NB310_318.out _;(with_reducible repeat first|apply Qb|apply Qd|apply Qc);exact BK310.out⟩,⟨by(with_reducible repeat first|apply Qb|apply Qd|apply Qc);refine Qk (cs:=#[.int .i64 t311,.int .i64 t312,.int .i64 t313,.slice Ao23 t314.length co23,.int .i64 0]) ?_ 4 _ rfl;(with_reducible repeat first|apply Qb|apply Qd|apply Qc);refine Qk (cs:=#[.int .i64 t311,.int .i64 t312,.int .i64 t313,.slice none 0 0,.int .i64 0]) ?_ 3 _ rfl;(with_reducible repeat first|apply Qb|apply Qd|apply Qc);refine Qk (cs:=#[.int .i64 t311,.int .i64 t312,.int .i64 0,.slice none 0 0,.int .i64 0]) ?_ 2 _ rfl;(with_reducible repeat first|apply Qb|apply Qd|apply Qc);refine Qk (cs:=#[.int .i64 t311,.int .i64 0,.int .i64 0,.slice none 0 0,.int .i64 0]) ?_ 1 _ rfl;(with_reducible repeat first|apply Qb|apply Qd|apply Qc);refine Qk (cs:=#[.int .i64 0,.int .i64 0,.int .i64 0,.slice none 0 0,.int .i64 0]) ?_ 0 _ rfl;(with_reducible repeat first|apply Qb|apply Qd|apply Qc);exact BK318.out⟩,⟨by repeat(first|(with_reducible first|exact HB.out|apply Qe|apply Qa|apply Qf|refine Qg ?_ GE301.out|refine Qg ?_ GE302.out|refine Qg ?_ GE310.out|refine Qg ?_ GE318.out)|exact HB.out)⟩⟩
   ·rw[if_neg c25] at H
    have c25b0:(t317==0)=false:=beq_eq_false_iff_ne.mpr c25
    have c25b1:(t317 != 0)=true:=bne_iff_ne.mpr c25
    have H':=Aside0.mk H
    clear H
    have hnb33:=NB310_301.out
    have hnc33:=NB301_310.out
    have hnb34:=NB310_302.out
    have hnc34:=NB302_310.out
    have hnb35:=NB310_318.out
    have hnc35:=NB318_310.out
    obtain⟨hcz36_0,hcz36_1,hcz36_2,hcz36_3,hcz36_4,hfz36_0,hfz36_1,hfz36_2,hfz36_3,hfz36_4⟩:=qD5 BK310.out
    have hnb37:=NB318_301.out
    have hnc37:=NB301_318.out
    have hnb38:=NB318_302.out
    have hnc38:=NB302_318.out
    obtain⟨hcz39_0,hcz39_1,hcz39_2,hcz39_3,hcz39_4,hfz39_0,hfz39_1,hfz39_2,hfz39_3,hfz39_4⟩:=qD5 BK318.out
    go_wp2
    go_meet
    case rel=>exact⟨_,(true),qR,H',⟨by first|omega|exact Nat.le_refl _⟩,⟨by(with_reducible repeat first|apply Kd.Qx|apply Kd.Qw|apply Kd.Q0);exact Kd.Qt (Kd.Qq (p:=⟨gb318,4,none⟩) (Kd.Qq (p:=⟨gb318,3,none⟩) (Kd.Qq (p:=⟨gb318,2,none⟩) (Kd.Qq (p:=⟨gb318,1,none⟩) (Kd.Qq (p:=⟨gb318,0,none⟩) (Kd.Qt HO0_0.out (fun k_ hk=>(⟨hk,hk.2⟩:_∧k_≠gb318))) (fun _ hk=>hk.2) (.int .i64 t311)) (fun _ hk=>hk.2) (.int .i64 t312)) (fun _ hk=>hk.2) (.int .i64 t313)) (fun _ hk=>hk.2) (.slice Ao23 t314.length co23)) (fun _ hk=>hk.2) (.int .i64 t317)) (fun _ hk=>⟨hk.1.1.1,⟨hk.1.1.2.1,⟨hk.1.1.2.2.1,⟨hk.1.1.2.2.2,hk.1.2⟩⟩⟩⟩)⟩,⟨by(with_reducible repeat first|apply Kd.Qx|apply Kd.Qw|apply Kd.Q0);exact Kd.Qt (Kd.Qq (p:=⟨gb318,4,none⟩) (Kd.Qq (p:=⟨gb318,3,none⟩) (Kd.Qq (p:=⟨gb318,2,none⟩) (Kd.Qq (p:=⟨gb318,1,none⟩) (Kd.Qq (p:=⟨gb318,0,none⟩) (Kd.Qt HO0_1.out (fun k_ hk=>(⟨hk,hk.2⟩:_∧k_≠gb318))) (fun _ hk=>hk.2) (.int .i64 t311)) (fun _ hk=>hk.2) (.int .i64 t312)) (fun _ hk=>hk.2) (.int .i64 t313)) (fun _ hk=>hk.2) (.slice Ao23 t314.length co23)) (fun _ hk=>hk.2) (.int .i64 t317)) (fun _ hk=>⟨hk.1.1.1,⟨hk.1.1.2.1,⟨hk.1.1.2.2.1,⟨hk.1.1.2.2.2,hk.1.2⟩⟩⟩⟩)⟩,⟨by(with_reducible repeat first|apply Kd.Qx|apply Kd.Qw|apply Kd.Q0);exact Kd.Qt (Kd.Qq (p:=⟨gb318,4,none⟩) (Kd.Qq (p:=⟨gb318,3,none⟩) (Kd.Qq (p:=⟨gb318,2,none⟩) (Kd.Qq (p:=⟨gb318,1,none⟩) (Kd.Qq (p:=⟨gb318,0,none⟩) (Kd.Qt HO308.out (fun k_ hk=>(⟨hk,hk.2⟩:_∧k_≠gb318))) (fun _ hk=>hk.2) (.int .i64 t311)) (fun _ hk=>hk.2) (.int .i64 t312)) (fun _ hk=>hk.2) (.int .i64 t313)) (fun _ hk=>hk.2) (.slice Ao23 t314.length co23)) (fun _ hk=>hk.2) (.int .i64 t317)) (fun _ hk=>⟨hk.1.1.1,⟨hk.1.1.2.1,⟨hk.1.1.2.2.1,⟨hk.1.1.2.2.2,hk.1.2⟩⟩⟩⟩)⟩,⟨by(with_reducible repeat first|apply Kd.Qx|apply Kd.Qw|apply Kd.Q0);exact Kd.Qt (Kd.Qq (p:=⟨gb318,4,none⟩) (Kd.Qq (p:=⟨gb318,3,none⟩) (Kd.Qq (p:=⟨gb318,2,none⟩) (Kd.Qq (p:=⟨gb318,1,none⟩) (Kd.Qq (p:=⟨gb318,0,none⟩) (Kd.Qt HO316.out (fun k_ hk=>(⟨hk,hk.2⟩:_∧k_≠gb318))) (fun _ hk=>hk.2) (.int .i64 t311)) (fun _ hk=>hk.2) (.int .i64 t312)) (fun _ hk=>hk.2) (.int .i64 t313)) (fun _ hk=>hk.2) (.slice Ao23 t314.length co23)) (fun _ hk=>hk.2) (.int .i64 t317)) (fun _ hk=>⟨hk.1.1.1,⟨hk.1.1.2.1,⟨hk.1.1.2.2.1,⟨hk.1.1.2.2.2,hk.1.2⟩⟩⟩⟩)⟩,⟨by(with_reducible repeat first|apply Qb|apply Qd|apply Qc);refine Qs ?_ NB301_318.out _;(with_reducible repeat first|apply Qb|apply Qd|apply Qc);refine Qs ?_ NB301_318.out _;(with_reducible repeat first|apply Qb|apply Qd|apply Qc);refine Qs ?_ NB301_318.out _;(with_reducible repeat first|apply Qb|apply Qd|apply Qc);refine Qs ?_ NB301_318.out _;(with_reducible repeat first|apply Qb|apply Qd|apply Qc);refine Qs ?_ NB301_318.out _;(with_reducible repeat first|apply Qb|apply Qd|apply Qc);exact BK301.out⟩,⟨by(with_reducible repeat first|apply Qb|apply Qd|apply Qc);refine Qs ?_ NB302_318.out _;(with_reducible repeat first|apply Qb|apply Qd|apply Qc);refine Qs ?_ NB302_318.out _;(with_reducible repeat first|apply Qb|apply Qd|apply Qc);refine Qs ?_ NB302_318.out _;(with_reducible repeat first|apply Qb|apply Qd|apply Qc);refine Qs ?_ NB302_318.out _;(with_reducible repeat first|apply Qb|apply Qd|apply Qc);refine Qs ?_ NB302_318.out _;(with_reducible repeat first|apply Qb|apply Qd|apply Qc);exact BK302.out⟩,⟨by(with_reducible repeat first|apply Qb|apply Qd|apply Qc);refine Qs ?_ NB310_318.out _;(with_reducible repeat first|apply Qb|apply Qd|apply Qc);refine Qs ?_ NB310_318.out _;(with_reducible repeat first|apply Qb|apply Qd|apply Qc);refine Qs ?_ NB310_318.out _;(with_reducible repeat first|apply Qb|apply Qd|apply Qc);refine Qs ?_ NB310_318.out _;(with_reducible repeat first|apply Qb|apply Qd|apply Qc);refine Qs ?_ NB310_318.out _;(with_reducible repeat first|apply Qb|apply Qd|apply Qc);exact BK310.out⟩,⟨by(with_reducible repeat first|apply Qb|apply Qd|apply Qc);refine Qk (cs:=#[.int .i64 t311,.int .i64 t312,.int .i64 t313,.slice Ao23 t314.length co23,.int .i64 0]) ?_ 4 _ rfl;(with_reducible repeat first|apply Qb|apply Qd|apply Qc);refine Qk (cs:=#[.int .i64 t311,.int .i64 t312,.int .i64 t313,.slice none 0 0,.int .i64 0]) ?_ 3 _ rfl;(with_reducible repeat first|apply Qb|apply Qd|apply Qc);refine Qk (cs:=#[.int .i64 t311,.int .i64 t312,.int .i64 0,.slice none 0 0,.int .i64 0]) ?_ 2 _ rfl;(with_reducible repeat first|apply Qb|apply Qd|apply Qc);refine Qk (cs:=#[.int .i64 t311,.int .i64 0,.int .i64 0,.slice none 0 0,.int .i64 0]) ?_ 1 _ rfl;(with_reducible repeat first|apply Qb|apply Qd|apply Qc);refine Qk (cs:=#[.int .i64 0,.int .i64 0,.int .i64 0,.slice none 0 0,.int .i64 0]) ?_ 0 _ rfl;(with_reducible repeat first|apply Qb|apply Qd|apply Qc);exact BK318.out⟩,⟨by repeat(first|(with_reducible first|exact HB.out|apply Qe|apply Qa|apply Qf|refine Qg ?_ GE301.out|refine Qg ?_ GE302.out|refine Qg ?_ GE310.out|refine Qg ?_ GE318.out)|exact HB.out)⟩⟩
  ·rw[if_neg c24] at H
   have c24b0:(t309==0)=false:=beq_eq_false_iff_ne.mpr c24
   have c24b1:(t309 != 0)=true:=bne_iff_ne.mpr c24
   (first|rw[c24b0]|(simp only[Zu,Z4];rw[c24b0])|skip)
   have H':=Aside0.mk H
   clear H
   have hnb40:=NB310_301.out
   have hnc40:=NB301_310.out
   have hnb41:=NB310_302.out
   have hnc41:=NB302_310.out
   have hnb42:=NB310_318.out
   have hnc42:=NB318_310.out
   obtain⟨hcz43_0,hcz43_1,hcz43_2,hcz43_3,hcz43_4,hfz43_0,hfz43_1,hfz43_2,hfz43_3,hfz43_4⟩:=qD5 BK310.out
   go_wp2
   go_meet
   case rel=>exact⟨_,(false),qR,H',⟨by first|omega|exact Nat.le_refl _⟩,⟨by(with_reducible repeat first|apply Kd.Qx|apply Kd.Qw|apply Kd.Q0);exact Kd.Qt (Kd.Qq (p:=⟨gb318,4,none⟩) (Kd.Qq (p:=⟨gb318,3,none⟩) (Kd.Qq (p:=⟨gb318,2,none⟩) (Kd.Qq (p:=⟨gb318,1,none⟩) (Kd.Qq (p:=⟨gb318,0,none⟩) (Kd.Qt HO0_0.out (fun k_ hk=>(⟨hk,hk.2⟩:_∧k_≠gb318))) (fun _ hk=>hk.2) (.int .i64 t311)) (fun _ hk=>hk.2) (.int .i64 t312)) (fun _ hk=>hk.2) (.int .i64 t313)) (fun _ hk=>hk.2) (.slice Ao23 t314.length co23)) (fun _ hk=>hk.2) (.int .i64 t317)) (fun _ hk=>⟨hk.1.1.1,⟨hk.1.1.2.1,⟨hk.1.1.2.2.1,⟨hk.1.1.2.2.2,hk.1.2⟩⟩⟩⟩)⟩,⟨by(with_reducible repeat first|apply Kd.Qx|apply Kd.Qw|apply Kd.Q0);exact Kd.Qt (Kd.Qq (p:=⟨gb318,4,none⟩) (Kd.Qq (p:=⟨gb318,3,none⟩) (Kd.Qq (p:=⟨gb318,2,none⟩) (Kd.Qq (p:=⟨gb318,1,none⟩) (Kd.Qq (p:=⟨gb318,0,none⟩) (Kd.Qt HO0_1.out (fun k_ hk=>(⟨hk,hk.2⟩:_∧k_≠gb318))) (fun _ hk=>hk.2) (.int .i64 t311)) (fun _ hk=>hk.2) (.int .i64 t312)) (fun _ hk=>hk.2) (.int .i64 t313)) (fun _ hk=>hk.2) (.slice Ao23 t314.length co23)) (fun _ hk=>hk.2) (.int .i64 t317)) (fun _ hk=>⟨hk.1.1.1,⟨hk.1.1.2.1,⟨hk.1.1.2.2.1,⟨hk.1.1.2.2.2,hk.1.2⟩⟩⟩⟩)⟩,⟨by(with_reducible repeat first|apply Kd.Qx|apply Kd.Qw|apply Kd.Q0);exact Kd.Qt (Kd.Qq (p:=⟨gb318,4,none⟩) (Kd.Qq (p:=⟨gb318,3,none⟩) (Kd.Qq (p:=⟨gb318,2,none⟩) (Kd.Qq (p:=⟨gb318,1,none⟩) (Kd.Qq (p:=⟨gb318,0,none⟩) (Kd.Qt HO308.out (fun k_ hk=>(⟨hk,hk.2⟩:_∧k_≠gb318))) (fun _ hk=>hk.2) (.int .i64 t311)) (fun _ hk=>hk.2) (.int .i64 t312)) (fun _ hk=>hk.2) (.int .i64 t313)) (fun _ hk=>hk.2) (.slice Ao23 t314.length co23)) (fun _ hk=>hk.2) (.int .i64 t317)) (fun _ hk=>⟨hk.1.1.1,⟨hk.1.1.2.1,⟨hk.1.1.2.2.1,⟨hk.1.1.2.2.2,hk.1.2⟩⟩⟩⟩)⟩,⟨by(with_reducible repeat first|apply Kd.Qx|apply Kd.Qw|apply Kd.Q0);exact Kd.Qt (Kd.Qq (p:=⟨gb318,4,none⟩) (Kd.Qq (p:=⟨gb318,3,none⟩) (Kd.Qq (p:=⟨gb318,2,none⟩) (Kd.Qq (p:=⟨gb318,1,none⟩) (Kd.Qq (p:=⟨gb318,0,none⟩) (Kd.Qt HO316.out (fun k_ hk=>(⟨hk,hk.2⟩:_∧k_≠gb318))) (fun _ hk=>hk.2) (.int .i64 t311)) (fun _ hk=>hk.2) (.int .i64 t312)) (fun _ hk=>hk.2) (.int .i64 t313)) (fun _ hk=>hk.2) (.slice Ao23 t314.length co23)) (fun _ hk=>hk.2) (.int .i64 t317)) (fun _ hk=>⟨hk.1.1.1,⟨hk.1.1.2.1,⟨hk.1.1.2.2.1,⟨hk.1.1.2.2.2,hk.1.2⟩⟩⟩⟩)⟩,⟨by(with_reducible repeat first|apply Qb|apply Qd|apply Qc);refine Qs ?_ NB301_318.out _;(with_reducible repeat first|apply Qb|apply Qd|apply Qc);refine Qs ?_ NB301_318.out _;(with_reducible repeat first|apply Qb|apply Qd|apply Qc);refine Qs ?_ NB301_318.out _;(with_reducible repeat first|apply Qb|apply Qd|apply Qc);refine Qs ?_ NB301_318.out _;(with_reducible repeat first|apply Qb|apply Qd|apply Qc);refine Qs ?_ NB301_318.out _;(with_reducible repeat first|apply Qb|apply Qd|apply Qc);exact BK301.out⟩,⟨by(with_reducible repeat first|apply Qb|apply Qd|apply Qc);refine Qs ?_ NB302_318.out _;(with_reducible repeat first|apply Qb|apply Qd|apply Qc);refine Qs ?_ NB302_318.out _;(with_reducible repeat first|apply Qb|apply Qd|apply Qc);refine Qs ?_ NB302_318.out _;(with_reducible repeat first|apply Qb|apply Qd|apply Qc);refine Qs ?_ NB302_318.out _;(with_reducible repeat first|apply Qb|apply Qd|apply Qc);refine Qs ?_ NB302_318.out _;(with_reducible repeat first|apply Qb|apply Qd|apply Qc);exact BK302.out⟩,⟨by(with_reducible repeat first|apply Qb|apply Qd|apply Qc);refine Qs ?_ NB310_318.out _;(with_reducible repeat first|apply Qb|apply Qd|apply Qc);refine Qs ?_ NB310_318.out _;(with_reducible repeat first|apply Qb|apply Qd|apply Qc);refine Qs ?_ NB310_318.out _;(with_reducible repeat first|apply Qb|apply Qd|apply Qc);refine Qs ?_ NB310_318.out _;(with_reducible repeat first|apply Qb|apply Qd|apply Qc);refine Qs ?_ NB310_318.out _;(with_reducible repeat first|apply Qb|apply Qd|apply Qc);exact BK310.out⟩,⟨by(with_reducible repeat first|apply Qb|apply Qd|apply Qc);refine Qk (cs:=#[.int .i64 t311,.int .i64 t312,.int .i64 t313,.slice Ao23 t314.length co23,.int .i64 0]) ?_ 4 _ rfl;(with_reducible repeat first|apply Qb|apply Qd|apply Qc);refine Qk (cs:=#[.int .i64 t311,.int .i64 t312,.int .i64 t313,.slice none 0 0,.int .i64 0]) ?_ 3 _ rfl;(with_reducible repeat first|apply Qb|apply Qd|apply Qc);refine Qk (cs:=#[.int .i64 t311,.int .i64 t312,.int .i64 0,.slice none 0 0,.int .i64 0]) ?_ 2 _ rfl;(with_reducible repeat first|apply Qb|apply Qd|apply Qc);refine Qk (cs:=#[.int .i64 t311,.int .i64 0,.int .i64 0,.slice none 0 0,.int .i64 0]) ?_ 1 _ rfl;(with_reducible repeat first|apply Qb|apply Qd|apply Qc);refine Qk (cs:=#[.int .i64 0,.int .i64 0,.int .i64 0,.slice none 0 0,.int .i64 0]) ?_ 0 _ rfl;(with_reducible repeat first|apply Qb|apply Qd|apply Qc);exact BK318.out⟩,⟨by repeat(first|(with_reducible first|exact HB.out|apply Qe|apply Qa|apply Qf|refine Qg ?_ GE301.out|refine Qg ?_ GE302.out|refine Qg ?_ GE310.out|refine Qg ?_ GE318.out)|exact HB.out)⟩⟩
 case rest=>
  clear HC4
  try clear c1
  try clear c2
  try clear p2
  try clear c3
  try clear c4
  try clear c7
  try clear c11
  try clear c12
  try clear c15
  try clear c19
  try clear c20
  try clear c21
  try clear c24
  try clear c24b0
  try clear c24b1
  try clear c25
  try clear c25b0
  try clear c25b1
  try clear c26
  try clear c27
  try clear c28
  try clear c30
  try clear c31
  try clear c33
  try clear c34
  try clear c35
  try clear c37
  try clear c38
  try clear c40
  try clear c41
  try clear c42
  try clear hcz13_0
  try clear hcz13_1
  try clear hcz13_2
  try clear hcz13_3
  try clear hcz13_4
  try clear hcz16_0
  try clear hcz16_1
  try clear hcz22_0
  try clear hcz22_1
  try clear hcz22_2
  try clear hcz22_3
  try clear hcz22_4
  try clear hcz29_0
  try clear hcz29_1
  try clear hcz29_2
  try clear hcz29_3
  try clear hcz29_4
  try clear hcz32_0
  try clear hcz32_1
  try clear hcz32_2
  try clear hcz32_3
  try clear hcz32_4
  try clear hcz36_0
  try clear hcz36_1
  try clear hcz36_2
  try clear hcz36_3
  try clear hcz36_4
  try clear hcz39_0
  try clear hcz39_1
  try clear hcz39_2
  try clear hcz39_3
  try clear hcz39_4
  try clear hcz43_0
  try clear hcz43_1
  try clear hcz43_2
  try clear hcz43_3
  try clear hcz43_4
  try clear hcz8_0
  try clear hcz8_1
  try clear hfz13_0
  try clear hfz13_1
  try clear hfz13_2
  try clear hfz13_3
  try clear hfz13_4
  try clear hfz16_0
  try clear hfz16_1
  try clear hfz22_0
  try clear hfz22_1
  try clear hfz22_2
  try clear hfz22_3
  try clear hfz22_4
  try clear hfz29_0
  try clear hfz29_1
  try clear hfz29_2
  try clear hfz29_3
  try clear hfz29_4
  try clear hfz32_0
  try clear hfz32_1
  try clear hfz32_2
  try clear hfz32_3
  try clear hfz32_4
  try clear hfz36_0
  try clear hfz36_1
  try clear hfz36_2
  try clear hfz36_3
  try clear hfz36_4
  try clear hfz39_0
  try clear hfz39_1
  try clear hfz39_2
  try clear hfz39_3
  try clear hfz39_4
  try clear hfz43_0
  try clear hfz43_1
  try clear hfz43_2
  try clear hfz43_3
  try clear hfz43_4
  try clear hfz8_0
  try clear hfz8_1
  obtain⟨kq,x27_3,rfl,HA,HJ3,HO_302000,HO_302001,HO_311003,HO_319003,BK301,BK302,BK310,BK318,HB⟩:=hcut
  cases kq with
  |zero=>exact absurd HA.out (by simp[newelref12_Recover.j0])
  |succ kj3=>
   have H:=HA.out
   clear HA
   simp only[newelref12_Recover.j0] at H
   by_cases c44:x27_3=true
   ·subst c44
    have H1:(some (t303,t304,t305,t306,false,true))=some (r1,r2,r3,r4,r5,r6):=by rw[if_pos rfl] at H;exact H
    clear H
    have H:=H1
    clear H1
    simp only[Option.some.injEq,Prod.mk.injEq] at H
    obtain⟨rfl,rfl,rfl,rfl,rfl,rfl⟩:=H
    have hnb45:=NB310_301.out
    have hnc45:=NB301_310.out
    have hnb46:=NB310_302.out
    have hnc46:=NB302_310.out
    have hnb47:=NB310_318.out
    have hnc47:=NB318_310.out
    obtain⟨hcz48_0,hcz48_1,hcz48_2,hcz48_3,hcz48_4,hfz48_0,hfz48_1,hfz48_2,hfz48_3,hfz48_4⟩:=qD5 BK310.out
    have hnb49:=NB302_301.out
    have hnc49:=NB301_302.out
    have hnb50:=NB302_318.out
    have hnc50:=NB318_302.out
    obtain⟨hcz51_0,hcz51_1,hcz51_2,hcz51_3,hcz51_4,hcz51_5,hfz51_0,hfz51_1,hfz51_2,hfz51_3,hfz51_4,hfz51_5⟩:=qD6 BK302.out
    go_wp2
    refine bodyPost_ret (results_cell_row rfl _ _ gb302 39 #[.int .i64 t303,.int .i64 t304,.int .i64 t305,.slice Ao14 t306.length co14,.bool false,.bool true] (0,0) _ rfl (by(with_reducible repeat first|apply Qb|apply Qd|apply Qc);refine Qk (cs:=#[.int .i64 t303,.int .i64 t304,.int .i64 t305,.slice Ao14 t306.length co14,.bool false,.bool false]) ?_ 5 _ rfl;(with_reducible repeat first|apply Qb|apply Qd|apply Qc);refine Qk (cs:=#[.int .i64 t303,.int .i64 t304,.int .i64 t305,.slice Ao14 t306.length co14,.bool false,.bool false]) ?_ 4 _ rfl;(with_reducible repeat first|apply Qb|apply Qd|apply Qc);refine Qk (cs:=#[.int .i64 t303,.int .i64 t304,.int .i64 t305,.slice none 0 0,.bool false,.bool false]) ?_ 3 _ rfl;(with_reducible repeat first|apply Qb|apply Qd|apply Qc);refine Qk (cs:=#[.int .i64 t303,.int .i64 t304,.int .i64 0,.slice none 0 0,.bool false,.bool false]) ?_ 2 _ rfl;(with_reducible repeat first|apply Qb|apply Qd|apply Qc);refine Qk (cs:=#[.int .i64 t303,.int .i64 0,.int .i64 0,.slice none 0 0,.bool false,.bool false]) ?_ 1 _ rfl;(with_reducible repeat first|apply Qb|apply Qd|apply Qc);refine Qk (cs:=#[.int .i64 0,.int .i64 0,.int .i64 0,.slice none 0 0,.bool false,.bool false]) ?_ 0 _ rfl;(with_reducible repeat first|apply Qb|apply Qd|apply Qc);exact BK302.out) Tryd.underlying39 rfl kr) rfl ?_
    exact⟨_,by first|rfl|(simp[Qo,Qn] <;> rfl)|(simp[*,Qo,Qn] <;> rfl),by(with_reducible repeat first|apply Kd.Qx|apply Kd.Qw|apply Kd.Q0);exact Kd.Qt (Kd.Qq (p:=⟨gb302,5,none⟩) (Kd.Qq (p:=⟨gb302,4,none⟩) (Kd.Qq (p:=⟨gb302,3,none⟩) (Kd.Qq (p:=⟨gb302,2,none⟩) (Kd.Qq (p:=⟨gb302,1,none⟩) (Kd.Qq (p:=⟨gb302,0,none⟩) (Kd.Qt HO_311003.out (fun k_ hk=>(⟨hk,hk.2.2.1⟩:_∧k_≠gb302))) (fun _ hk=>hk.2) (.int .i64 t303)) (fun _ hk=>hk.2) (.int .i64 t304)) (fun _ hk=>hk.2) (.int .i64 t305)) (fun _ hk=>hk.2) (.slice Ao14 t306.length co14)) (fun _ hk=>hk.2) (.bool false)) (fun _ hk=>hk.2) (.bool true)) (fun _ hk=>hk.1.1),by repeat(first|(with_reducible first|exact HB.out|apply Qe|apply Qa|apply Qf|refine Qg ?_ GE301.out|refine Qg ?_ GE302.out|refine Qg ?_ GE310.out|refine Qg ?_ GE318.out)|exact HB.out)⟩
   ·replace c44:=Bool.eq_false_iff.mpr c44
    subst c44
    have H1:(if t317=0 then (some (t311,t312,t313,t314,true,true)) else (some (0,0,0,([]:List Int),false,false)))=some (r1,r2,r3,r4,r5,r6):=by rw[if_neg (show ¬ (false=true) by decide)] at H;exact H
    clear H
    have H:=H1
    clear H1
    by_cases c52:t317=0
    ·rw[if_pos c52] at H
     have c52b0:(t317==0)=true:=beq_iff_eq.mpr c52
     have c52b1:(t317 != 0)=false:=bne_eq_false_iff_eq.mpr c52
     clear c52
     simp only[Option.some.injEq,Prod.mk.injEq] at H
     obtain⟨rfl,rfl,rfl,rfl,rfl,rfl⟩:=H
     have hnb53:=NB318_301.out
     have hnc53:=NB301_318.out
     have hnb54:=NB318_302.out
     have hnc54:=NB302_318.out
     have hnb55:=NB318_310.out
     have hnc55:=NB310_318.out
     obtain⟨hcz56_0,hcz56_1,hcz56_2,hcz56_3,hcz56_4,hfz56_0,hfz56_1,hfz56_2,hfz56_3,hfz56_4⟩:=qD5 BK318.out
     have hnb57:=NB302_301.out
     have hnc57:=NB301_302.out
     have hnb58:=NB302_310.out
     have hnc58:=NB310_302.out
     obtain⟨hcz59_0,hcz59_1,hcz59_2,hcz59_3,hcz59_4,hcz59_5,hfz59_0,hfz59_1,hfz59_2,hfz59_3,hfz59_4,hfz59_5⟩:=qD6 BK302.out
     go_wp2
     refine bodyPost_ret (results_cell_row rfl _ _ gb302 39 #[.int .i64 t311,.int .i64 t312,.int .i64 t313,.slice Ao23 t314.length co23,.bool true,.bool true] (0,0) _ rfl (by(with_reducible repeat first|apply Qb|apply Qd|apply Qc);refine Qk (cs:=#[.int .i64 t311,.int .i64 t312,.int .i64 t313,.slice Ao23 t314.length co23,.bool true,.bool false]) ?_ 5 _ rfl;(with_reducible repeat first|apply Qb|apply Qd|apply Qc);refine Qk (cs:=#[.int .i64 t311,.int .i64 t312,.int .i64 t313,.slice Ao23 t314.length co23,.bool false,.bool false]) ?_ 4 _ rfl;(with_reducible repeat first|apply Qb|apply Qd|apply Qc);refine Qk (cs:=#[.int .i64 t311,.int .i64 t312,.int .i64 t313,.slice none 0 0,.bool false,.bool false]) ?_ 3 _ rfl;(with_reducible repeat first|apply Qb|apply Qd|apply Qc);refine Qk (cs:=#[.int .i64 t311,.int .i64 t312,.int .i64 0,.slice none 0 0,.bool false,.bool false]) ?_ 2 _ rfl;(with_reducible repeat first|apply Qb|apply Qd|apply Qc);refine Qk (cs:=#[.int .i64 t311,.int .i64 0,.int .i64 0,.slice none 0 0,.bool false,.bool false]) ?_ 1 _ rfl;(with_reducible repeat first|apply Qb|apply Qd|apply Qc);refine Qk (cs:=#[.int .i64 0,.int .i64 0,.int .i64 0,.slice none 0 0,.bool false,.bool false]) ?_ 0 _ rfl;(with_reducible repeat first|apply Qb|apply Qd|apply Qc);exact BK302.out) Tryd.underlying39 rfl kr) rfl ?_
     exact⟨_,by first|rfl|(simp[Qo,Qn] <;> rfl)|(simp[*,Qo,Qn] <;> rfl),by(with_reducible repeat first|apply Kd.Qx|apply Kd.Qw|apply Kd.Q0);exact Kd.Qt (Kd.Qq (p:=⟨gb302,5,none⟩) (Kd.Qq (p:=⟨gb302,4,none⟩) (Kd.Qq (p:=⟨gb302,3,none⟩) (Kd.Qq (p:=⟨gb302,2,none⟩) (Kd.Qq (p:=⟨gb302,1,none⟩) (Kd.Qq (p:=⟨gb302,0,none⟩) (Kd.Qt HO_319003.out (fun k_ hk=>(⟨hk,hk.2.2.1⟩:_∧k_≠gb302))) (fun _ hk=>hk.2) (.int .i64 t311)) (fun _ hk=>hk.2) (.int .i64 t312)) (fun _ hk=>hk.2) (.int .i64 t313)) (fun _ hk=>hk.2) (.slice Ao23 t314.length co23)) (fun _ hk=>hk.2) (.bool true)) (fun _ hk=>hk.2) (.bool true)) (fun _ hk=>hk.1.1),by repeat(first|(with_reducible first|exact HB.out|apply Qe|apply Qa|apply Qf|refine Qg ?_ GE301.out|refine Qg ?_ GE302.out|refine Qg ?_ GE310.out|refine Qg ?_ GE318.out)|exact HB.out)⟩
    ·rw[if_neg c52] at H
     have c52b0:(t317==0)=false:=beq_eq_false_iff_ne.mpr c52
     have c52b1:(t317 != 0)=true:=bne_iff_ne.mpr c52
     simp only[Option.some.injEq,Prod.mk.injEq] at H
     obtain⟨rfl,rfl,rfl,rfl,rfl,rfl⟩:=H
     have hnb60:=NB318_301.out
     have hnc60:=NB301_318.out
     have hnb61:=NB318_302.out
     have hnc61:=NB302_318.out
     have hnb62:=NB318_310.out
     have hnc62:=NB310_318.out
     obtain⟨hcz63_0,hcz63_1,hcz63_2,hcz63_3,hcz63_4,hfz63_0,hfz63_1,hfz63_2,hfz63_3,hfz63_4⟩:=qD5 BK318.out
     have hnb64:=NB302_301.out
     have hnc64:=NB301_302.out
     have hnb65:=NB302_310.out
     have hnc65:=NB310_302.out
     obtain⟨hcz66_0,hcz66_1,hcz66_2,hcz66_3,hcz66_4,hcz66_5,hfz66_0,hfz66_1,hfz66_2,hfz66_3,hfz66_4,hfz66_5⟩:=qD6 BK302.out
     go_wp2
     refine bodyPost_ret (results_cell_row rfl _ _ gb302 39 #[.int .i64 0,.int .i64 0,.int .i64 0,.slice none 0 0,.bool false,.bool false] (0,0) _ rfl (by(with_reducible repeat first|apply Qb|apply Qd|apply Qc);refine Qk (cs:=#[.int .i64 0,.int .i64 0,.int .i64 0,.slice none 0 0,.bool false,.bool false]) ?_ 5 _ rfl;(with_reducible repeat first|apply Qb|apply Qd|apply Qc);refine Qk (cs:=#[.int .i64 0,.int .i64 0,.int .i64 0,.slice none 0 0,.bool false,.bool false]) ?_ 4 _ rfl;(with_reducible repeat first|apply Qb|apply Qd|apply Qc);refine Qk (cs:=#[.int .i64 0,.int .i64 0,.int .i64 0,.slice none 0 0,.bool false,.bool false]) ?_ 3 _ rfl;(with_reducible repeat first|apply Qb|apply Qd|apply Qc);refine Qk (cs:=#[.int .i64 0,.int .i64 0,.int .i64 0,.slice none 0 0,.bool false,.bool false]) ?_ 2 _ rfl;(with_reducible repeat first|apply Qb|apply Qd|apply Qc);refine Qk (cs:=#[.int .i64 0,.int .i64 0,.int .i64 0,.slice none 0 0,.bool false,.bool false]) ?_ 1 _ rfl;(with_reducible repeat first|apply Qb|apply Qd|apply Qc);refine Qk (cs:=#[.int .i64 0,.int .i64 0,.int .i64 0,.slice none 0 0,.bool false,.bool false]) ?_ 0 _ rfl;(with_reducible repeat first|apply Qb|apply Qd|apply Qc);exact BK302.out) Tryd.underlying39 rfl kr) rfl ?_
     refine⟨.slice none 0 0,by first|rfl|(simp[Qo,Qn] <;> rfl)|(simp[*,Qo,Qn] <;> rfl),Kd.Qt (Kd.R_V (Kd.Z1 _ _ _ w.heap.size _)) (fun k_ hk=>by first|exact⟨(.inr (hk.1)),hk.2⟩|exact(.inr (hk))),by repeat(first|(with_reducible first|exact HB.out|apply Qe|apply Qa|apply Qf|refine Qg ?_ GE301.out|refine Qg ?_ GE302.out|refine Qg ?_ GE310.out|refine Qg ?_ GE318.out)|exact HB.out)⟩
def newelref12_Code.f (k:Nat) (a0_0:Int) (a0_1:Int) (a0_2:Int) (l0_3:List Int):Option (List Int):=(newelref08_Row.f k (([a0_0,a0_1,a0_2]:List Int))).bind fun t350=>((newelref08_Put.f k (l0_3.length:Int)).bind fun t353=>(if t350.length+t353.length<140737488355328 then ((some (t350++t353:List Int)).bind fun y356=>(if y356.length+l0_3.length<140737488355328 then ((newelref09_Seal.f k (y356++l0_3)).bind fun t362=>(some t362)) else (none))) else (none)))
theorem newelref12_Code.mono:∀ a0 a1 a2 a3 k,LeO (newelref12_Code.f k a0 a1 a2 a3) (newelref12_Code.f (k+1) a0 a1 a2 a3):=by
 intro a0 a1 a2 a3 k
 unfold newelref12_Code.f
 repeat' first
   |(with_reducible exact newelref08_Put.mono _ _)
   |(with_reducible exact newelref08_Row.mono _ _)
   |(with_reducible exact newelref09_Seal.mono _ _)
   |(with_reducible exact LeO.refl _)
   |(with_reducible exact LeO.none _)
   |(with_reducible refine LeO.ite ?_ ?_)
   |(with_reducible refine LeO.bind ?_ (fun _=>?_))
   |exact newelref08_Put.mono _ _
   |exact newelref08_Row.mono _ _
   |exact newelref09_Seal.mono _ _
   |exact LeO.none _
   |refine LeO.ite ?_ ?_
   |refine LeO.bind ?_ (fun _=>?_)
set_option maxHeartbeats 8000000 in
set_option maxRecDepth 100000 in
theorem newelref12_Code.calls (k:Nat) (a0_0:Int) (a0_1:Int) (a0_2:Int) (A0_3:Option Addr) (c0_3:Nat) (l0_3:List Int) (r:List Int) (w:World) (hr0_3:Kd.C (Kd.int .u8) w A0_3 l0_3.length l0_3) (hc0_3:l0_3.length≤c0_3) (h:newelref12_Code.f k a0_0 a0_1 a0_2 l0_3=some r):
  Calls Tryd.prog 25 #[.agg #[.int .i64 a0_0,.int .i64 a0_1,.int .i64 a0_2,.slice A0_3 l0_3.length c0_3]] w fun e w'=>∃ v0_:Value,e = .returned (v0_)∧Kd.R (Kd.int .u8) 5 w' w.heap.size (fun _=>True) v0_ r∧Below w.heap.size w w':=by
 have hu26:=Tryd.underlying26
 have HR0_3:=Aside0.mk hr0_3
 have HC0_3:=Aside0.mk hc0_3
 clear hr0_3 hc0_3
 have HB:=Aside0.mk (Below.refl w.heap.size w)
 have H:((newelref08_Row.f k (([a0_0,a0_1,a0_2]:List Int))).bind fun t350=>((newelref08_Put.f k (l0_3.length:Int)).bind fun t353=>(if t350.length+t353.length<140737488355328 then ((some (t350++t353:List Int)).bind fun y356=>(if y356.length+l0_3.length<140737488355328 then ((newelref09_Seal.f k (y356++l0_3)).bind fun t362=>(some t362)) else (none))) else (none))))=some r:=h
 clear h
 obtain⟨y347,hy347⟩:∃ y_:List Int,y_=(([a0_0,a0_1,a0_2]:List Int)):=⟨_,rfl⟩
 replace H:((newelref08_Row.f k y347).bind fun t350=>((newelref08_Put.f k (l0_3.length:Int)).bind fun t353=>(if t350.length+t353.length<140737488355328 then ((some (t350++t353:List Int)).bind fun y356=>(if y356.length+l0_3.length<140737488355328 then ((newelref09_Seal.f k (y356++l0_3)).bind fun t362=>(some t362)) else (none))) else (none))))=some r:=by first|(rw[hy347];with_reducible exact H)|(have H2_:=(Option.bind_some _ _).symm.trans H;rw[hy347];with_reducible exact H2_)|(have H2_:=(Option.bind_some _ _).symm.trans H;with_reducible exact H2_)|with_reducible exact H|(rw[hy347];exact H)|exact H
 have Ny347:=Aside0.mk hy347
 clear hy347
 replace H:=Option.bind_eq_some_iff.mp H
 obtain⟨t350,A20,H⟩:=H
 replace H:((newelref08_Put.f k (l0_3.length:Int)).bind fun t353=>(if t350.length+t353.length<140737488355328 then ((some (t350++t353:List Int)).bind fun y356=>(if y356.length+l0_3.length<140737488355328 then ((newelref09_Seal.f k (y356++l0_3)).bind fun t362=>(some t362)) else (none))) else (none)))=some r:=H
 have A2:=Aside0.mk A20
 clear A20
 replace H:=Option.bind_eq_some_iff.mp H
 obtain⟨t353,A30,H⟩:=H
 replace H:(if t350.length+t353.length<140737488355328 then ((some (t350++t353:List Int)).bind fun y356=>(if y356.length+l0_3.length<140737488355328 then ((newelref09_Seal.f k (y356++l0_3)).bind fun t362=>(some t362)) else (none))) else (none))=some r:=H
 have A3:=Aside0.mk A30
 clear A30
 by_cases c4:t350.length+t353.length<140737488355328
 ·rw[if_pos c4] at H
  have LMc4:=Aside0.mk c4
  clear c4
  obtain⟨y356,hy356⟩:∃ y_:List Int,y_=(t350++t353):=⟨_,rfl⟩
  replace H:(if y356.length+l0_3.length<140737488355328 then ((newelref09_Seal.f k (y356++l0_3)).bind fun t362=>(some t362)) else (none))=some r:=by first|(rw[hy356];with_reducible exact H)|(have H2_:=(Option.bind_some _ _).symm.trans H;rw[hy356];with_reducible exact H2_)|(have H2_:=(Option.bind_some _ _).symm.trans H;with_reducible exact H2_)|with_reducible exact H|(rw[hy356];exact H)|exact H
  have Ny356:=Aside0.mk hy356
  clear hy356
  by_cases c5:y356.length+l0_3.length<140737488355328
  ·rw[if_pos c5] at H
   have LMc5:=Aside0.mk c5
   clear c5
   obtain⟨y359,hy359⟩:∃ y_:List Int,y_=(y356++l0_3):=⟨_,rfl⟩
   replace H:((newelref09_Seal.f k y359).bind fun t362=>(some t362))=some r:=by first|(rw[hy359];with_reducible exact H)|(have H2_:=(Option.bind_some _ _).symm.trans H;rw[hy359];with_reducible exact H2_)|(have H2_:=(Option.bind_some _ _).symm.trans H;with_reducible exact H2_)|with_reducible exact H|(rw[hy359];exact H)|exact H
   have Ny359:=Aside0.mk hy359
   clear hy359
   replace H:=Option.bind_eq_some_iff.mp H
   obtain⟨t362,A60,H⟩:=H
   replace H:(some t362)=some r:=H
   have A6:=Aside0.mk A60
   clear A60
   obtain rfl:=Option.some.inj H
   go_enter Tryd.func25,Tryd.ntmps25
   go_wp2_with (first|((with_reducible refine Qz (N:=1) rfl ?_);refine Q7 ?hg (N:=1) ?hd (cs:=#[.int .i64 a0_0,.int .i64 a0_1,.int .i64 a0_2,.slice A0_3 l0_3.length c0_3]) (t:=26) ?hr ?_;(case hd=>rfl);(case hg=>rfl);(case hr=>first|(go_simp;done)|(go_simp;rfl));intro gb346 hg w7 hbox hb;have n0_:=Aside0.mk (Qr (by repeat(first|(with_reducible first|exact HB.out|apply Qe|apply Qa|apply Qf)|exact HB.out)) hb);have n1_:=Aside0.mk (hbox);have n2_:=Aside0.mk ((by rw[hg];exact(Qj (by repeat(first|(with_reducible first|exact HB.out|apply Qe|apply Qa|apply Qf)|exact HB.out))):w.heap.size≤gb346));have n3_:=Aside0.mk ((by rw[hg];exact(Qj (by repeat(first|(with_reducible first|exact HB.out|apply Qe|apply Qa|apply Qf)|exact HB.out))):w.heap.size≤gb346));clear HB;have HB:=n0_;have BK346:=n1_;have GW346:=n2_;have GE346:=n3_;clear n0_ n1_ n2_ n3_;clear hb hbox hg;obtain⟨hcz8_0,hcz8_1,hcz8_2,hcz8_3,hfz8_0,hfz8_1,hfz8_2,hfz8_3⟩:=qD4 BK346.out)|((with_reducible refine Qz (N:=10) rfl ?_);refine Kd.K2 (Kd.int .i64) _ 3 ?hg (N:=10) ?hd (xs:=([a0_0,a0_1,a0_2]:List Int)) (inner:=[.int .i64 a0_0,.int .i64 a0_1,.int .i64 a0_2]) (ok:=fun _=>True) (okp:=fun _=>True) ?hr ?hp (fun _ hk=>hk) trivial (Below.refl _ _) (Nat.le_refl _) (by simp) ?_;(case hd=>rfl);(case hg=>rfl);(case hr=>first|(go_simp;done)|(go_simp;rfl));(case hp=>exact(Reps.one (show Kd.M (Kd.int .i64) _ _ _ a0_0 [.int .i64 a0_0] from rfl) (Reps.one (show Kd.M (Kd.int .i64) _ _ _ a0_1 [.int .i64 a0_1] from rfl) (Reps.one (show Kd.M (Kd.int .i64) _ _ _ a0_2 [.int .i64 a0_2] from rfl) (Reps.none _ _)))));intro v348 w9 ho10 hb hg_ hnew_;clear hg_ hnew_;(first|rw[← Ny347.out] at ho10|(simp only[Int.reduceToNat] at ho10;rw[← Ny347.out] at ho10));have n0_:=Aside0.mk (Kd.Zd ho10 (Qj (by repeat(first|(with_reducible first|exact HB.out|apply Qe|apply Qa|apply Qf|refine Qg ?_ GE346.out)|exact HB.out))));have n1_:=Aside0.mk (Qp (g:=gb346) (o:=.cells #[.int .i64 a0_0,.int .i64 a0_1,.int .i64 a0_2,.slice A0_3 l0_3.length c0_3] 26 (0,0)) (by(with_reducible repeat first|apply Qb|apply Qd|apply Qc);exact BK346.out) hb);have n2_:=Aside0.mk (Qr (by repeat(first|(with_reducible first|exact HB.out|apply Qe|apply Qa|apply Qf|refine Qg ?_ GE346.out)|exact HB.out)) hb);clear BK346;clear HB;have HO349:=n0_;have BK346:=n1_;have HB:=n2_;clear n0_ n1_ n2_;clear hb ho10;obtain⟨Ao11,co11,eo11⟩:=Kd.Zf HO349.out;subst eo11)|((with_reducible refine Qv (f:=35) rfl ?_);refine Ze (some 11) rfl rfl Tryd.func35 kr rfl #[.slice Ao11 y347.length co11] rfl (by(try simp only[List.map_toArray,List.map_cons,List.map_nil]);first|done|rfl|(simp only[List.length_drop,List.length_take];rfl)) ?_;(with_reducible refine(newelref08_Row.calls k _ _ y347 t350 _ ?side1 ?side2 A2.out).mono ?_);(case side1=>repeat(first|exact(Kd.Q4 HO349.out).2.2|(with_reducible refine Kd.Zc ?_ _)|(with_reducible refine Kd.Za ?_ _)|(with_reducible refine Kd.Zh ?_)));(case side2=>exact(Kd.Q4 HO349.out).2.1);rintro e w12 ⟨v351,rfl,ho0,hb⟩;refine⟨_,rfl, ?_⟩;have n0_:=Aside0.mk (Kd.Q1 (by(with_reducible repeat first|apply Kd.Qi|apply Kd.Qh|apply Kd.Ql);exact HO349.out) hb);have n1_:=Aside0.mk (Kd.Zd ho0 (Qj (by repeat(first|(with_reducible first|exact HB.out|apply Qe|apply Qa|apply Qf|refine Qg ?_ GE346.out)|exact HB.out))));have n2_:=Aside0.mk (Qp (g:=gb346) (o:=.cells #[.int .i64 a0_0,.int .i64 a0_1,.int .i64 a0_2,.slice A0_3 l0_3.length c0_3] 26 (0,0)) (by(with_reducible repeat first|apply Qb|apply Qd|apply Qc);exact BK346.out) hb);have n3_:=Aside0.mk (Qr (by repeat(first|(with_reducible first|exact HB.out|apply Qe|apply Qa|apply Qf|refine Qg ?_ GE346.out)|exact HB.out)) hb);clear HO349;clear BK346;clear HB;have HO349:=n0_;have HO352:=n1_;have BK346:=n2_;have HB:=n3_;clear n0_ n1_ n2_ n3_;(try clear hb);(try clear hb2);(try clear hk);(try clear hi);(try clear ho0);obtain⟨hcz13_0,hcz13_1,hcz13_2,hcz13_3,hfz13_0,hfz13_1,hfz13_2,hfz13_3⟩:=qD4 BK346.out)|((with_reducible refine Qv (f:=36) rfl ?_);refine Ze (some 16) rfl rfl Tryd.func36 kr rfl #[.int .i64 (l0_3.length:Int)] rfl (by(try simp only[List.map_toArray,List.map_cons,List.map_nil]);first|done|rfl|(simp only[List.length_drop,List.length_take];rfl)) ?_;(with_reducible refine(newelref08_Put.calls k (l0_3.length:Int) t353 _ A3.out).mono ?_);rintro e w14 ⟨v354,rfl,ho0,hb⟩;refine⟨_,rfl, ?_⟩;have n0_:=Aside0.mk (Kd.Q1 (by(with_reducible repeat first|apply Kd.Qi|apply Kd.Qh|apply Kd.Ql);exact HO349.out) hb);have n1_:=Aside0.mk (Kd.Zj (by(with_reducible repeat first|apply Kd.Qi|apply Kd.Qh|apply Kd.Ql);exact HO352.out) (Kd.Q5 ho0) hb);have n2_:=Aside0.mk (Kd.Zd (Kd.Zi ho0 (Kd.Zp (by(with_reducible repeat first|apply Kd.Qi|apply Kd.Qh|apply Kd.Ql);exact HO352.out))) (Qj (by repeat(first|(with_reducible first|exact HB.out|apply Qe|apply Qa|apply Qf|refine Qg ?_ GE346.out)|exact HB.out))));have n3_:=Aside0.mk (Qp (g:=gb346) (o:=.cells #[.int .i64 a0_0,.int .i64 a0_1,.int .i64 a0_2,.slice A0_3 l0_3.length c0_3] 26 (0,0)) (by(with_reducible repeat first|apply Qb|apply Qd|apply Qc);exact BK346.out) hb);have n4_:=Aside0.mk (Qr (by repeat(first|(with_reducible first|exact HB.out|apply Qe|apply Qa|apply Qf|refine Qg ?_ GE346.out)|exact HB.out)) hb);clear HO349;clear HO352;clear BK346;clear HB;have HO349:=n0_;have HO352:=n1_;have HO355:=n2_;have BK346:=n3_;have HB:=n4_;clear n0_ n1_ n2_ n3_ n4_;(try clear hb);(try clear hb2);(try clear hk);(try clear hi);(try clear ho0);obtain⟨Ao16,co16,eo16⟩:=Kd.Zf HO355.out;subst eo16)|((with_reducible refine Zs (b:=.append) (xs:=#[.tmp 12,.tmp 16]) rfl ?_);at_builtin;refine Kd.Zz (Kd.int .u8) (w0:=w) w.heap.size rfl (.tmp 12) (.tmp 16) 22 5 (.int .u8 0) 1 rfl Tryd.underlying22 Zx rfl (by decide) (by omega) v351 t350 t353 _ _ _ (fun k_=>some k_≠(.slice Ao16 t353.length co16:Value).ownBlock) (fun _=>False) rfl rfl ?aO ?aR (fun _ _ h=>h) (fun _ h=>h.elim) ?aF ?aB ?aS ?aL ?_;(case aR=>repeat(first|exact(Kd.Q4 HO355.out).2.2|(with_reducible refine Kd.Zc ?_ _)|(with_reducible refine Kd.Za ?_ _)|(with_reducible refine Kd.Zh ?_)));(case aB=>exact(by repeat(first|(with_reducible first|exact HB.out|apply Qe|apply Qa|apply Qf|refine Qg ?_ GE346.out)|exact HB.out)));(case aF=>exact(fun k_ hk=>Kd.fresh' (Kd.Zp (by(with_reducible repeat first|apply Kd.Qi|apply Kd.Qh|apply Kd.Ql);exact HO355.out)) k_ hk));(case aO=>exact(by(with_reducible repeat first|apply Kd.Qi|apply Kd.Qh|apply Kd.Ql);exact Kd.Qu HO352.out (fun _ hk=>hk.2)));(case aS=>exact(Qj (by repeat(first|(with_reducible first|exact HB.out|apply Qe|apply Qa|apply Qf|refine Qg ?_ GE346.out)|exact HB.out))));(case aL=>have:=LMc4.out;omega);intro v357 w15 ho hb hg hat;rw[← Ny356.out] at ho;have n0_:=Aside0.mk (Z2 (g:=gb346) (o:=.cells #[.int .i64 a0_0,.int .i64 a0_1,.int .i64 a0_2,.slice A0_3 l0_3.length c0_3] 26 (0,0)) (by(with_reducible repeat first|apply Qb|apply Qd|apply Qc);exact BK346.out) hg (Kd.Y5 HO352.out BK346.out (by decide)));have n1_:=Aside0.mk (Kd.Ge (by(with_reducible repeat first|apply Kd.Qi|apply Kd.Qh|apply Kd.Ql);exact HO349.out) (Kd.Gd (by(with_reducible repeat first|apply Kd.Qi|apply Kd.Qh|apply Kd.Ql);exact HO352.out)) (by decide) hg);have n2_:=Aside0.mk (Kd.Ym (ok:=(fun _=>True)) (by(with_reducible repeat first|apply Kd.Qi|apply Kd.Qh|apply Kd.Ql);exact HO355.out) hg hat);have n3_:=Aside0.mk (hb);have n4_:=Aside0.mk (ho);clear BK346;clear HO349;clear HO355;clear HB;clear HO352;have BK346:=n0_;have HO349:=n1_;have HO355:=n2_;have HB:=n3_;have HO358:=n4_;clear n0_ n1_ n2_ n3_ n4_;clear ho hb hg hat;obtain⟨hcz17_0,hcz17_1,hcz17_2,hcz17_3,hfz17_0,hfz17_1,hfz17_2,hfz17_3⟩:=qD4 BK346.out)|((with_reducible refine Zs (b:=.append) (xs:=#[.tmp 18,.tmp 20]) rfl ?_);at_builtin;refine Kd.Zz (Kd.int .u8) (w0:=w) w.heap.size rfl (.tmp 18) (.tmp 20) 22 5 (.int .u8 0) 1 rfl Tryd.underlying22 Zx rfl (by decide) (by omega) v357 y356 l0_3 _ _ _ (fun k_=>some k_≠(.slice Ao16 t353.length co16:Value).ownBlock) (fun _=>False) rfl rfl ?aO ?aR (fun _ _ h=>h) (fun _ h=>h.elim) ?aF ?aB ?aS ?aL ?_;(case aR=>repeat(first|exact(Kd.Zb HR0_3.out HB.out)|(with_reducible refine Kd.Zc ?_ _)|(with_reducible refine Kd.Za ?_ _)|(with_reducible refine Kd.Zh ?_)));(case aB=>exact(by repeat(first|(with_reducible first|exact HB.out|apply Qe|apply Qa|apply Qf|refine Qg ?_ GE346.out)|exact HB.out)));(case aF=>exact(fun k_ hk=>Kd.fresh' (Kd.Zp (by(with_reducible repeat first|apply Kd.Qi|apply Kd.Qh|apply Kd.Ql);exact HO355.out)) k_ hk));(case aO=>exact(by(with_reducible repeat first|apply Kd.Qi|apply Kd.Qh|apply Kd.Ql);exact HO358.out));(case aS=>exact(Qj (by repeat(first|(with_reducible first|exact HB.out|apply Qe|apply Qa|apply Qf|refine Qg ?_ GE346.out)|exact HB.out))));(case aL=>have:=LMc5.out;omega);intro v360 w18 ho hb hg hat;rw[← Ny359.out] at ho;have n0_:=Aside0.mk (Z2 (g:=gb346) (o:=.cells #[.int .i64 a0_0,.int .i64 a0_1,.int .i64 a0_2,.slice A0_3 l0_3.length c0_3] 26 (0,0)) (by(with_reducible repeat first|apply Qb|apply Qd|apply Qc);exact BK346.out) hg (Kd.Y5 HO358.out BK346.out (by decide)));have n1_:=Aside0.mk (Kd.Ge (by(with_reducible repeat first|apply Kd.Qi|apply Kd.Qh|apply Kd.Ql);exact HO349.out) (Kd.Gd (by(with_reducible repeat first|apply Kd.Qi|apply Kd.Qh|apply Kd.Ql);exact HO358.out)) (by decide) hg);have n2_:=Aside0.mk (Kd.Ym (ok:=(fun _=>True)) (by(with_reducible repeat first|apply Kd.Qi|apply Kd.Qh|apply Kd.Ql);exact HO355.out) hg hat);have n3_:=Aside0.mk (hb);have n4_:=Aside0.mk (ho);clear BK346;clear HO349;clear HO355;clear HB;clear HO358;have BK346:=n0_;have HO349:=n1_;have HO355:=n2_;have HB:=n3_;have HO361:=n4_;clear n0_ n1_ n2_ n3_ n4_;clear ho hb hg hat;obtain⟨Ao19,co19,eo19⟩:=Kd.Zf HO361.out;subst eo19)|((with_reducible refine Qv (f:=37) rfl ?_);refine Ze (some 23) rfl rfl Tryd.func37 kr rfl #[.slice Ao19 y359.length co19] rfl (by(try simp only[List.map_toArray,List.map_cons,List.map_nil]);first|done|rfl|(simp only[List.length_drop,List.length_take];rfl)) ?_;(with_reducible refine(newelref09_Seal.calls k _ _ y359 t362 _ ?side1 ?side2 A6.out).mono ?_);(case side1=>repeat(first|exact(Kd.Q4 HO361.out).2.2|(with_reducible refine Kd.Zc ?_ _)|(with_reducible refine Kd.Za ?_ _)|(with_reducible refine Kd.Zh ?_)));(case side2=>exact(Kd.Q4 HO361.out).2.1);rintro e w20 ⟨v363,rfl,ho0,hb⟩;refine⟨_,rfl, ?_⟩;have n0_:=Aside0.mk (Kd.Q1 (by(with_reducible repeat first|apply Kd.Qi|apply Kd.Qh|apply Kd.Ql);exact HO349.out) hb);have n1_:=Aside0.mk (Kd.Zj (by(with_reducible repeat first|apply Kd.Qi|apply Kd.Qh|apply Kd.Ql);exact HO355.out) (Kd.Q5 ho0) hb);have n2_:=Aside0.mk (Kd.Zj (by(with_reducible repeat first|apply Kd.Qi|apply Kd.Qh|apply Kd.Ql);exact HO361.out) (Kd.Q5 ho0) hb);have n3_:=Aside0.mk (Kd.Zd (Kd.Zi (Kd.Zi ho0 (Kd.Zp (by(with_reducible repeat first|apply Kd.Qi|apply Kd.Qh|apply Kd.Ql);exact HO355.out))) (Kd.Zp (by(with_reducible repeat first|apply Kd.Qi|apply Kd.Qh|apply Kd.Ql);exact HO361.out))) (Qj (by repeat(first|(with_reducible first|exact HB.out|apply Qe|apply Qa|apply Qf|refine Qg ?_ GE346.out)|exact HB.out))));have n4_:=Aside0.mk (Qp (g:=gb346) (o:=.cells #[.int .i64 a0_0,.int .i64 a0_1,.int .i64 a0_2,.slice A0_3 l0_3.length c0_3] 26 (0,0)) (by(with_reducible repeat first|apply Qb|apply Qd|apply Qc);exact BK346.out) hb);have n5_:=Aside0.mk (Qr (by repeat(first|(with_reducible first|exact HB.out|apply Qe|apply Qa|apply Qf|refine Qg ?_ GE346.out)|exact HB.out)) hb);clear HO349;clear HO355;clear HO361;clear BK346;clear HB;have HO349:=n0_;have HO355:=n1_;have HO361:=n2_;have HO364:=n3_;have BK346:=n4_;have HB:=n5_;clear n0_ n1_ n2_ n3_ n4_ n5_;(try clear hb);(try clear hb2);(try clear hk);(try clear hi);(try clear ho0)))
   go_ret
   exact⟨_,by first|rfl|(simp[Qo,Qn] <;> rfl)|(simp[*,Qo,Qn] <;> rfl),by(with_reducible repeat first|apply Kd.Qi|apply Kd.Qh|apply Kd.Ql);exact Kd.Qu HO364.out (fun _ hk=>trivial),by repeat(first|(with_reducible first|exact HB.out|apply Qe|apply Qa|apply Qf|refine Qg ?_ GE346.out)|exact HB.out)⟩
  ·rw[if_neg c5] at H
   exact absurd H (by simp)
 ·rw[if_neg c4] at H
  exact absurd H (by simp)
mutual
def newelref12_Write.j0:Nat→Int→Bool→List Int→List Int→Int→Int→Int→List Int→Int→Int→Int→List Int→Bool→Bool→Option (List Int×List Int×Bool×Int)
 |0,_,_,_,_,_,_,_,_,_,_,_,_,_,_=>none
 |k+1,x2,x28,x366000,x366001,x367000,x367001,x367002,x367003,x378000,x378001,x378002,x378003,x378004,x378005=>if x28=true then (some (([]:List Int),([]:List Int),false,124)) else ((newelref12_Code.f k x367000 x367001 x367002 x367003).bind fun t378=>(if x2<0 then (newelref12_Write.j1 k x2 t378 0 x366000 x366001 x378000 x378001 x378002 x378003 x378004 x378005) else (newelref12_Write.j1 k x2 t378 x2 x366000 x366001 x378000 x378001 x378002 x378003 x378004 x378005)))
def newelref12_Write.j1:Nat→Int→List Int→Int→List Int→List Int→Int→Int→Int→List Int→Bool→Bool→Option (List Int×List Int×Bool×Int)
 |0,_,_,_,_,_,_,_,_,_,_,_=>none
 |k+1,x2,x9,x10,x366000,x366001,x378000,x378001,x378002,x378003,x378004,x378005=>if x10>(x9.length:Int) then (if x378005=true then (if x378004=true then (if 0≤(x9.length:Int) then (if (x9.length:Int)≤(x9.length:Int) then (some ((x9.take ((x9.length:Int):Int).toNat),x366001,decide (x2≥(x9.length:Int)),0)) else (none)) else (none)) else (if 0≤(x9.length:Int) then (if (x9.length:Int)≤(x9.length:Int) then (some (x366000,(x9.take ((x9.length:Int):Int).toNat),decide (x2≥(x9.length:Int)),0)) else (none)) else (none))) else (if 0≤(x9.length:Int) then (if (x9.length:Int)≤(x9.length:Int) then (some ((x9.take ((x9.length:Int):Int).toNat),x366001,decide (x2≥(x9.length:Int)),0)) else (none)) else (none))) else (if x378005=true then (if x378004=true then (if 0≤x10 then (if x10≤(x9.length:Int) then (some ((x9.take (x10:Int).toNat),x366001,decide (x2≥(x9.length:Int)),0)) else (none)) else (none)) else (if 0≤x10 then (if x10≤(x9.length:Int) then (some (x366000,(x9.take (x10:Int).toNat),decide (x2≥(x9.length:Int)),0)) else (none)) else (none))) else (if 0≤x10 then (if x10≤(x9.length:Int) then (some ((x9.take (x10:Int).toNat),x366001,decide (x2≥(x9.length:Int)),0)) else (none)) else (none)))
end
def newelref12_Write.f (k:Nat) (l0_0:List Int) (l0_1:List Int) (a1_0:Int) (a1_1:Int) (a1_2:Int) (l1_3:List Int) (a2:Int):Option (List Int×List Int×Bool×Int):=(newelref12_May.f a1_0 a1_1 a1_2 l1_3).bind fun t368=>(if t368=true then ((newelref12_Recover.f k l0_0 l0_1).bind fun bt369=>(if bt369.2.2.2.2.2=true then (newelref12_Write.j0 k a2 (decide (a1_0≤bt369.1)) l0_0 l0_1 a1_0 a1_1 a1_2 l1_3 bt369.1 bt369.2.1 bt369.2.2.1 bt369.2.2.2.1 bt369.2.2.2.2.1 bt369.2.2.2.2.2) else (newelref12_Write.j0 k a2 false l0_0 l0_1 a1_0 a1_1 a1_2 l1_3 bt369.1 bt369.2.1 bt369.2.2.1 bt369.2.2.2.1 bt369.2.2.2.2.1 bt369.2.2.2.2.2))) else (some (([]:List Int),([]:List Int),false,120)))
theorem newelref12_Write.Zl:∀ k,(∀ y0 y1 y2 y3 y4 y5 y6 y7 y8 y9 y10 y11 y12 y13,LeO (newelref12_Write.j0 k y0 y1 y2 y3 y4 y5 y6 y7 y8 y9 y10 y11 y12 y13) (newelref12_Write.j0 (k+1) y0 y1 y2 y3 y4 y5 y6 y7 y8 y9 y10 y11 y12 y13))∧(∀ y0 y1 y2 y3 y4 y5 y6 y7 y8 y9 y10,LeO (newelref12_Write.j1 k y0 y1 y2 y3 y4 y5 y6 y7 y8 y9 y10) (newelref12_Write.j1 (k+1) y0 y1 y2 y3 y4 y5 y6 y7 y8 y9 y10))
 |0=>⟨fun _ _ _ _ _ _ _ _ _ _ _ _ _ _ r h=>by simp[newelref12_Write.j0] at h,fun _ _ _ _ _ _ _ _ _ _ _ r h=>by simp[newelref12_Write.j1] at h⟩
 |k+1=>by
  obtain⟨ih0,ih1⟩:=newelref12_Write.Zl k
  refine⟨?_, ?_⟩
  ·intro y0 y1 y2 y3 y4 y5 y6 y7 y8 y9 y10 y11 y12 y13
   unfold newelref12_Write.j0
   repeat' first
   |(with_reducible exact ih0 _ _ _ _ _ _ _ _ _ _ _ _ _ _)
   |(with_reducible exact ih1 _ _ _ _ _ _ _ _ _ _ _)
   |(with_reducible exact newelref12_Code.mono _ _ _ _ _)
   |(with_reducible exact newelref12_Recover.mono _ _ _)
   |(with_reducible exact LeO.refl _)
   |(with_reducible exact LeO.none _)
   |(with_reducible refine LeO.ite ?_ ?_)
   |(with_reducible refine LeO.bind ?_ (fun _=>?_))
   |exact ih0 _ _ _ _ _ _ _ _ _ _ _ _ _ _
   |exact ih1 _ _ _ _ _ _ _ _ _ _ _
   |exact newelref12_Code.mono _ _ _ _ _
   |exact newelref12_Recover.mono _ _ _
   |exact LeO.none _
   |refine LeO.ite ?_ ?_
   |refine LeO.bind ?_ (fun _=>?_)
  ·intro y0 y1 y2 y3 y4 y5 y6 y7 y8 y9 y10
   unfold newelref12_Write.j1
   repeat' first
   |(with_reducible exact ih0 _ _ _ _ _ _ _ _ _ _ _ _ _ _)
   |(with_reducible exact ih1 _ _ _ _ _ _ _ _ _ _ _)
   |(with_reducible exact newelref12_Code.mono _ _ _ _ _)
   |(with_reducible exact newelref12_Recover.mono _ _ _)
   |(with_reducible exact LeO.refl _)
   |(with_reducible exact LeO.none _)
   |(with_reducible refine LeO.ite ?_ ?_)
   |(with_reducible refine LeO.bind ?_ (fun _=>?_))
   |exact ih0 _ _ _ _ _ _ _ _ _ _ _ _ _ _
   |exact ih1 _ _ _ _ _ _ _ _ _ _ _
   |exact newelref12_Code.mono _ _ _ _ _
   |exact newelref12_Recover.mono _ _ _
   |exact LeO.none _
   |refine LeO.ite ?_ ?_
   |refine LeO.bind ?_ (fun _=>?_)
theorem newelref12_Write.mono:∀ a0 a1 a2 a3 a4 a5 a6 k,LeO (newelref12_Write.f k a0 a1 a2 a3 a4 a5 a6) (newelref12_Write.f (k+1) a0 a1 a2 a3 a4 a5 a6):=by
 intro a0 a1 a2 a3 a4 a5 a6 k
 obtain⟨ih0,ih1⟩:=newelref12_Write.Zl k
 unfold newelref12_Write.f
 repeat' first
   |(with_reducible exact ih0 _ _ _ _ _ _ _ _ _ _ _ _ _ _)
   |(with_reducible exact ih1 _ _ _ _ _ _ _ _ _ _ _)
   |(with_reducible exact newelref12_Code.mono _ _ _ _ _)
   |(with_reducible exact newelref12_Recover.mono _ _ _)
   |(with_reducible exact LeO.refl _)
   |(with_reducible exact LeO.none _)
   |(with_reducible refine LeO.ite ?_ ?_)
   |(with_reducible refine LeO.bind ?_ (fun _=>?_))
   |exact ih0 _ _ _ _ _ _ _ _ _ _ _ _ _ _
   |exact ih1 _ _ _ _ _ _ _ _ _ _ _
   |exact newelref12_Code.mono _ _ _ _ _
   |exact newelref12_Recover.mono _ _ _
   |exact LeO.none _
   |refine LeO.ite ?_ ?_
   |refine LeO.bind ?_ (fun _=>?_)
set_option maxHeartbeats 8000000 in
set_option maxRecDepth 100000 in
theorem newelref12_Write.calls (k:Nat) (P0_0_:Nat→Prop) (A0_0:Option Addr) (c0_0:Nat) (l0_0:List Int) (P0_1_:Nat→Prop) (A0_1:Option Addr) (c0_1:Nat) (l0_1:List Int) (a1_0:Int) (a1_1:Int) (a1_2:Int) (A1_3:Option Addr) (c1_3:Nat) (l1_3:List Int) (a2:Int) (r1:List Int) (r2:List Int) (r3:Bool) (r4:Int) (w:World) (hs0_0:Kd.V (Kd.int .u8) 5 w w.heap.size (fun k_=>P0_0_ k_) (.slice A0_0 l0_0.length c0_0) l0_0) (hs0_1:Kd.V (Kd.int .u8) 5 w w.heap.size (fun k_=>P0_1_ k_) (.slice A0_1 l0_1.length c0_1) l0_1) (hr1_3:Kd.C (Kd.int .u8) w A1_3 l1_3.length l1_3) (hc1_3:l1_3.length≤c1_3) (h:newelref12_Write.f k l0_0 l0_1 a1_0 a1_1 a1_2 l1_3 a2=some (r1,r2,r3,r4)):
  Calls Tryd.prog 13 #[.agg #[.slice A0_0 l0_0.length c0_0,.slice A0_1 l0_1.length c0_1],.agg #[.int .i64 a1_0,.int .i64 a1_1,.int .i64 a1_2,.slice A1_3 l1_3.length c1_3],.int .i64 a2] w fun e w'=>∃ v0_ v1_:Value,e = .returned (.agg #[v0_,v1_,.bool r3,.int .i64 r4])∧Kd.V (Kd.int .u8) 5 w' w.heap.size (fun k_=>((P0_0_ k_∨P0_1_ k_)∨w.heap.size≤k_)) v0_ r1∧Kd.V (Kd.int .u8) 5 w' w.heap.size (fun k_=>((P0_0_ k_∨P0_1_ k_)∨w.heap.size≤k_)) v1_ r2∧Below w.heap.size w w':=by
 have hu24:=Tryd.underlying24
 have hu26:=Tryd.underlying26
 have hu34:=Tryd.underlying34
 have hu39:=Tryd.underlying39
 have HO0_0:=Aside0.mk (show Kd.V (Kd.int .u8) 5 w w.heap.size (fun k_=>((P0_0_ k_∨P0_1_ k_)∨w.heap.size≤k_)) (.slice A0_0 l0_0.length c0_0) l0_0 from Kd.Qt hs0_0 (fun k_ hk=>.inl (.inl hk)))
 have HO0_1:=Aside0.mk (show Kd.V (Kd.int .u8) 5 w w.heap.size (fun k_=>((P0_0_ k_∨P0_1_ k_)∨w.heap.size≤k_)) (.slice A0_1 l0_1.length c0_1) l0_1 from Kd.Qt hs0_1 (fun k_ hk=>.inl (.inr hk)))
 have HR1_3:=Aside0.mk hr1_3
 have HC1_3:=Aside0.mk hc1_3
 clear hr1_3 hc1_3
 have HB:=Aside0.mk (Below.refl w.heap.size w)
 have H:((newelref12_May.f a1_0 a1_1 a1_2 l1_3).bind fun t368=>(if t368=true then ((newelref12_Recover.f k l0_0 l0_1).bind fun bt369=>(if bt369.2.2.2.2.2=true then (newelref12_Write.j0 k a2 (decide (a1_0≤bt369.1)) l0_0 l0_1 a1_0 a1_1 a1_2 l1_3 bt369.1 bt369.2.1 bt369.2.2.1 bt369.2.2.2.1 bt369.2.2.2.2.1 bt369.2.2.2.2.2) else (newelref12_Write.j0 k a2 false l0_0 l0_1 a1_0 a1_1 a1_2 l1_3 bt369.1 bt369.2.1 bt369.2.2.1 bt369.2.2.2.1 bt369.2.2.2.2.1 bt369.2.2.2.2.2))) else (some (([]:List Int),([]:List Int),false,120))))=some (r1,r2,r3,r4):=h
 clear h
 replace H:=Option.bind_eq_some_iff.mp H
 obtain⟨t368,A40,H⟩:=H
 replace H:(if t368=true then ((newelref12_Recover.f k l0_0 l0_1).bind fun bt369=>(if bt369.2.2.2.2.2=true then (newelref12_Write.j0 k a2 (decide (a1_0≤bt369.1)) l0_0 l0_1 a1_0 a1_1 a1_2 l1_3 bt369.1 bt369.2.1 bt369.2.2.1 bt369.2.2.2.1 bt369.2.2.2.2.1 bt369.2.2.2.2.2) else (newelref12_Write.j0 k a2 false l0_0 l0_1 a1_0 a1_1 a1_2 l1_3 bt369.1 bt369.2.1 bt369.2.2.1 bt369.2.2.2.1 bt369.2.2.2.2.1 bt369.2.2.2.2.2))) else (some (([]:List Int),([]:List Int),false,120)))=some (r1,r2,r3,r4):=H
 have A4:=Aside0.mk A40
 clear A40
 by_cases c5:t368=true
 ·subst c5
  have H1:((newelref12_Recover.f k l0_0 l0_1).bind fun bt369=>(if bt369.2.2.2.2.2=true then (newelref12_Write.j0 k a2 (decide (a1_0≤bt369.1)) l0_0 l0_1 a1_0 a1_1 a1_2 l1_3 bt369.1 bt369.2.1 bt369.2.2.1 bt369.2.2.2.1 bt369.2.2.2.2.1 bt369.2.2.2.2.2) else (newelref12_Write.j0 k a2 false l0_0 l0_1 a1_0 a1_1 a1_2 l1_3 bt369.1 bt369.2.1 bt369.2.2.1 bt369.2.2.2.1 bt369.2.2.2.2.1 bt369.2.2.2.2.2)))=some (r1,r2,r3,r4):=by rw[if_pos rfl] at H;exact H
  clear H
  have H:=H1
  clear H1
  replace H:=Option.bind_eq_some_iff.mp H
  obtain⟨⟨t369,t370,t371,t372,t375,t376⟩,A60,H⟩:=H
  replace H:(if t376=true then (newelref12_Write.j0 k a2 (decide (a1_0≤t369)) l0_0 l0_1 a1_0 a1_1 a1_2 l1_3 t369 t370 t371 t372 t375 t376) else (newelref12_Write.j0 k a2 false l0_0 l0_1 a1_0 a1_1 a1_2 l1_3 t369 t370 t371 t372 t375 t376))=some (r1,r2,r3,r4):=H
  have A6:=Aside0.mk A60
  clear A60
  have HC7:=Aside0.mk H
  clear H
  go_enter Tryd.func13,Tryd.ntmps13
  go_upto_region 5 with(first|((with_reducible refine Qz (N:=3) rfl ?_);refine qE 3 #[.slice A0_0 l0_0.length c0_0,.slice A0_1 l0_1.length c0_1] 24 ?_;intro gb365 hg w8 hbox hb;have BK365:=Aside0.mk hbox;have GW365:=sGe hg;have GE365:=sGe hg;replace HO0_0:=Aside0.mk (Kd.Q2 (Kd.Q9 HO0_0.out gb365 (Nat.le_of_eq hg.symm)) hb);replace HO0_1:=Aside0.mk (Kd.Q2 (Kd.Q9 HO0_1.out gb365 (Nat.le_of_eq hg.symm)) hb);replace HB:=sHb hb;clear hb hbox hg)|((with_reducible refine Qz (N:=4) rfl ?_);refine qE 4 #[.int .i64 a1_0,.int .i64 a1_1,.int .i64 a1_2,.slice A1_3 l1_3.length c1_3] 26 ?_;intro gb366 hg w9 hbox hb;have BK366:=Aside0.mk hbox;have GW366:=sGe hg;have GE366:=sGe hg;have NB365_366:=sNl BK365 hg;have NB366_365:=sNg BK365 hg;replace HO0_0:=Aside0.mk (Kd.Q2 (Kd.Q9 HO0_0.out gb366 (Nat.le_of_eq hg.symm)) hb);replace HO0_1:=Aside0.mk (Kd.Q2 (Kd.Q9 HO0_1.out gb366 (Nat.le_of_eq hg.symm)) hb);replace BK365:=sBk BK365 hb;replace HB:=sHb hb;clear hb hbox hg)|((with_reducible refine Qz (N:=6) rfl ?_);refine qE 6 #[.slice none 0 0,.slice none 0 0,.bool false,.int .i64 0] 34 ?_;intro gb367 hg w10 hbox hb;have BK367:=Aside0.mk hbox;have GW367:=sGe hg;have GE367:=sGe hg;have NB365_367:=sNl BK365 hg;have NB367_365:=sNg BK365 hg;have NB366_367:=sNl BK366 hg;have NB367_366:=sNg BK366 hg;replace HO0_0:=Aside0.mk (Kd.Q2 (Kd.Q9 HO0_0.out gb367 (Nat.le_of_eq hg.symm)) hb);replace HO0_1:=Aside0.mk (Kd.Q2 (Kd.Q9 HO0_1.out gb367 (Nat.le_of_eq hg.symm)) hb);replace BK365:=sBk BK365 hb;replace BK366:=sBk BK366 hb;replace HB:=sHb hb;clear hb hbox hg;have hnb11:=NB366_365.out;have hnc11:=NB365_366.out;have hnb12:=NB366_367.out;have hnc12:=NB367_366.out;obtain⟨hcz13_0,hcz13_1,hcz13_2,hcz13_3,hfz13_0,hfz13_1,hfz13_2,hfz13_3⟩:=qD4 BK366.out)|((with_reducible refine Qv (f:=21) rfl ?_);refine Ze (some 13) rfl rfl Tryd.func21 kr rfl #[.agg #[.int .i64 a1_0,.int .i64 a1_1,.int .i64 a1_2,.slice A1_3 l1_3.length c1_3]] rfl qM ?_;(with_reducible refine(newelref12_May.calls a1_0 a1_1 a1_2 _ _ l1_3 true _ ?side1 ?side2 A4.out).mono ?_);(case side1=>exact(Kd.Zb HR1_3.out HB.out));(case side2=>exact HC1_3.out);rintro e w14 ⟨rfl,hb⟩;refine⟨_,rfl, ?_⟩;replace HO0_0:=Aside0.mk (Kd.Q2 HO0_0.out hb);replace HO0_1:=Aside0.mk (Kd.Q2 HO0_1.out hb);replace BK365:=sBk BK365 hb;replace BK366:=sBk BK366 hb;replace BK367:=sBk BK367 hb;replace HB:=sHb hb;(try clear hb);(try clear hb2);(try clear hk);(try clear hi);have hnb15:=NB365_367.out;have hnc15:=NB367_365.out;obtain⟨hcz16_0,hcz16_1,hfz16_0,hfz16_1⟩:=qD2 BK365.out)|((with_reducible refine Qv (f:=15) rfl ?_);refine Ze (some 18) rfl rfl Tryd.func15 kr rfl #[.agg #[.slice A0_0 l0_0.length c0_0,.slice A0_1 l0_1.length c0_1]] rfl qM ?_;(with_reducible refine(newelref12_Recover.calls k (fun k_=>(((((P0_0_ k_∨P0_1_ k_)∨w.heap.size≤k_)∧k_≠gb365)∧k_≠gb366)∧k_≠gb367)) _ _ l0_0 (fun k_=>(((((P0_0_ k_∨P0_1_ k_)∨w.heap.size≤k_)∧k_≠gb365)∧k_≠gb366)∧k_≠gb367)) _ _ l0_1 t369 t370 t371 t372 t375 t376 _ ?side1 ?side2 A6.out).mono ?_);(case side1=>exact HO0_0.out);(case side2=>exact HO0_1.out);rintro e w17 ⟨v373,rfl,ho0,hb⟩;refine⟨_,rfl, ?_⟩;have HO374:=Aside0.mk (Kd.Y1 (Kd.Qt (ok':=fun k_=>((P0_0_ k_∨P0_1_ k_)∨w.heap.size≤k_)∧k_≠gb365∧k_≠gb366∧k_≠gb367) ho0 (fun k_ hk_=>⟨Or.elim hk_ (fun hs_=>Or.elim hs_ (fun hs_=>hs_.1.1.1) (fun hs_=>hs_.1.1.1)) (fun hn_=>(.inr (Nat.le_trans (Qj HB.out) hn_))),Or.elim hk_ (fun hs_=>Or.elim hs_ (fun hs_=>hs_.1.1.2) (fun hs_=>hs_.1.1.2)) (fun hn_=>(Kd.Z5 (g:=gb365) (o:=.cells #[.slice A0_0 l0_0.length c0_0,.slice A0_1 l0_1.length c0_1] 24 (0,0)) BK365.out k_ hn_)),Or.elim hk_ (fun hs_=>Or.elim hs_ (fun hs_=>hs_.1.2) (fun hs_=>hs_.1.2)) (fun hn_=>(Kd.Z5 (g:=gb366) (o:=.cells #[.int .i64 a1_0,.int .i64 a1_1,.int .i64 a1_2,.slice A1_3 l1_3.length c1_3] 26 (0,0)) BK366.out k_ hn_)),Or.elim hk_ (fun hs_=>Or.elim hs_ (fun hs_=>hs_.2) (fun hs_=>hs_.2)) (fun hn_=>(Kd.Z5 (g:=gb367) (o:=.cells #[.slice none 0 0,.slice none 0 0,.bool false,.int .i64 0] 34 (0,0)) BK367.out k_ hn_))⟩)) (Qj HB.out));replace HO0_0:=Aside0.mk (Kd.Q2 HO0_0.out hb);replace HO0_1:=Aside0.mk (Kd.Q2 HO0_1.out hb);replace BK365:=sBk BK365 hb;replace BK366:=sBk BK366 hb;replace BK367:=sBk BK367 hb;replace HB:=sHb hb;(try clear hb);(try clear hb2);(try clear hk);(try clear hi);(try clear ho0))|((with_reducible refine Qz (N:=8) rfl ?_);refine qE 8 #[.int .i64 0,.int .i64 0,.int .i64 0,.slice none 0 0,.bool false,.bool false] 39 ?_;intro gb377 hg w18 hbox hb;have BK377:=Aside0.mk hbox;have GW377:=sGe hg;have GE377:=sGe hg;have NB365_377:=sNl BK365 hg;have NB377_365:=sNg BK365 hg;have NB366_377:=sNl BK366 hg;have NB377_366:=sNg BK366 hg;have NB367_377:=sNl BK367 hg;have NB377_367:=sNg BK367 hg;replace HO0_0:=Aside0.mk (Kd.Q2 (Kd.Q9 HO0_0.out gb377 (Nat.le_of_eq hg.symm)) hb);replace HO0_1:=Aside0.mk (Kd.Q2 (Kd.Q9 HO0_1.out gb377 (Nat.le_of_eq hg.symm)) hb);replace HO374:=Aside0.mk (Kd.Q2 (Kd.Q9 HO374.out gb377 (Nat.le_of_eq hg.symm)) hb);replace BK365:=sBk BK365 hb;replace BK366:=sBk BK366 hb;replace BK367:=sBk BK367 hb;replace HB:=sHb hb;clear hb hbox hg;have hnb19:=NB377_365.out;have hnc19:=NB365_377.out;have hnb20:=NB377_366.out;have hnc20:=NB366_377.out;have hnb21:=NB377_367.out;have hnc21:=NB367_377.out;obtain⟨hcz22_0,hcz22_1,hcz22_2,hcz22_3,hcz22_4,hcz22_5,hfz22_0,hfz22_1,hfz22_2,hfz22_3,hfz22_4,hfz22_5⟩:=qD6 BK377.out;obtain⟨Ao23,co23,eo23⟩:=Kd.Jo HO374.out;subst eo23))
  (try simp only[Act.put,qS])
  go_cut [28] (fun v28 wc=>∃ (kq:Nat) (x28_6:Bool),v28 = .bool x28_6∧Aside0 (newelref12_Write.j0 kq a2 x28_6 l0_0 l0_1 a1_0 a1_1 a1_2 l1_3 t369 t370 t371 t372 t375 t376=some (r1,r2,r3,r4))∧Aside0 (kq≤k)∧Aside0 (Kd.V (Kd.int .u8) 5 wc w.heap.size (fun k_=>((P0_0_ k_∨P0_1_ k_)∨w.heap.size≤k_)∧k_≠gb365∧k_≠gb366∧k_≠gb367∧k_≠gb377) (.slice A0_0 l0_0.length c0_0) l0_0)∧Aside0 (Kd.V (Kd.int .u8) 5 wc w.heap.size (fun k_=>((P0_0_ k_∨P0_1_ k_)∨w.heap.size≤k_)∧k_≠gb365∧k_≠gb366∧k_≠gb367∧k_≠gb377) (.slice A0_1 l0_1.length c0_1) l0_1)∧Aside0 (Kd.V (Kd.int .u8) 5 wc w.heap.size (fun k_=>((P0_0_ k_∨P0_1_ k_)∨w.heap.size≤k_)∧k_≠gb365∧k_≠gb366∧k_≠gb367∧k_≠gb377) (.slice Ao23 t372.length co23) t372)∧Aside0 (wc.heap[gb365]?=some (.cells #[(.slice A0_0 l0_0.length c0_0),(.slice A0_1 l0_1.length c0_1)] 24 (0,0)))∧Aside0 (wc.heap[gb366]?=some (.cells #[.int .i64 a1_0,.int .i64 a1_1,.int .i64 a1_2,(.slice A1_3 l1_3.length c1_3)] 26 (0,0)))∧Aside0 (wc.heap[gb367]?=some (.cells #[(.slice none 0 0),(.slice none 0 0),.bool false,.int .i64 0] 34 (0,0)))∧Aside0 (wc.heap[gb377]?=some (.cells #[.int .i64 t369,.int .i64 t370,.int .i64 t371,(.slice Ao23 t372.length co23),.bool t375,.bool t376] 39 (0,0)))∧Aside0 (Below w.heap.size w wc))
  case first=>
   have H:=HC7.out
   clear HC7
   by_cases c24:t376=true
   ·subst c24
    have H1:(newelref12_Write.j0 k a2 (decide (a1_0≤t369)) l0_0 l0_1 a1_0 a1_1 a1_2 l1_3 t369 t370 t371 t372 t375 true)=some (r1,r2,r3,r4):=by rw[if_pos rfl] at H;exact H
    clear H
    have H:=H1
    clear H1
    have H':=Aside0.mk H
    clear H
    have hnb25:=NB377_365.out
    have hnc25:=NB365_377.out
    have hnb26:=NB377_366.out
    have hnc26:=NB366_377.out
    have hnb27:=NB377_367.out
    have hnc27:=NB367_377.out
    obtain⟨hcz28_0,hcz28_1,hcz28_2,hcz28_3,hcz28_4,hcz28_5,hfz28_0,hfz28_1,hfz28_2,hfz28_3,hfz28_4,hfz28_5⟩:=qD6 BK377.out
    have hnb29:=NB366_365.out
    have hnc29:=NB365_366.out
    have hnb30:=NB366_367.out
    have hnc30:=NB367_366.out
    obtain⟨hcz31_0,hcz31_1,hcz31_2,hcz31_3,hfz31_0,hfz31_1,hfz31_2,hfz31_3⟩:=qD4 BK366.out
    go_wp2
    go_meet
    case rel=>exact⟨_,(decide (a1_0≤t369)),qR,H',⟨by first|omega|exact Nat.le_refl _⟩,⟨by(with_reducible repeat first|apply Kd.Qx|apply Kd.Qw|apply Kd.Q0);exact Kd.Qt (Kd.Qq (p:=⟨gb377,5,none⟩) (Kd.Qq (p:=⟨gb377,4,none⟩) (Kd.Qq (p:=⟨gb377,3,none⟩) (Kd.Qq (p:=⟨gb377,2,none⟩) (Kd.Qq (p:=⟨gb377,1,none⟩) (Kd.Qq (p:=⟨gb377,0,none⟩) (Kd.Qt HO0_0.out (fun k_ hk=>(⟨hk,hk.2⟩:_∧k_≠gb377))) (fun _ hk=>hk.2) (.int .i64 t369)) (fun _ hk=>hk.2) (.int .i64 t370)) (fun _ hk=>hk.2) (.int .i64 t371)) (fun _ hk=>hk.2) _) (fun _ hk=>hk.2) (.bool t375)) (fun _ hk=>hk.2) (.bool true)) (fun _ hk=>⟨hk.1.1.1.1.1,⟨hk.1.1.1.1.2,⟨hk.1.1.1.2,⟨hk.1.1.2,hk.1.2⟩⟩⟩⟩)⟩,⟨by(with_reducible repeat first|apply Kd.Qx|apply Kd.Qw|apply Kd.Q0);exact Kd.Qt (Kd.Qq (p:=⟨gb377,5,none⟩) (Kd.Qq (p:=⟨gb377,4,none⟩) (Kd.Qq (p:=⟨gb377,3,none⟩) (Kd.Qq (p:=⟨gb377,2,none⟩) (Kd.Qq (p:=⟨gb377,1,none⟩) (Kd.Qq (p:=⟨gb377,0,none⟩) (Kd.Qt HO0_1.out (fun k_ hk=>(⟨hk,hk.2⟩:_∧k_≠gb377))) (fun _ hk=>hk.2) (.int .i64 t369)) (fun _ hk=>hk.2) (.int .i64 t370)) (fun _ hk=>hk.2) (.int .i64 t371)) (fun _ hk=>hk.2) _) (fun _ hk=>hk.2) (.bool t375)) (fun _ hk=>hk.2) (.bool true)) (fun _ hk=>⟨hk.1.1.1.1.1,⟨hk.1.1.1.1.2,⟨hk.1.1.1.2,⟨hk.1.1.2,hk.1.2⟩⟩⟩⟩)⟩,⟨by(with_reducible repeat first|apply Kd.Qx|apply Kd.Qw|apply Kd.Q0);exact Kd.Qt (Kd.Qq (p:=⟨gb377,5,none⟩) (Kd.Qq (p:=⟨gb377,4,none⟩) (Kd.Qq (p:=⟨gb377,3,none⟩) (Kd.Qq (p:=⟨gb377,2,none⟩) (Kd.Qq (p:=⟨gb377,1,none⟩) (Kd.Qq (p:=⟨gb377,0,none⟩) (Kd.Qt HO374.out (fun k_ hk=>(⟨hk,hk.2⟩:_∧k_≠gb377))) (fun _ hk=>hk.2) (.int .i64 t369)) (fun _ hk=>hk.2) (.int .i64 t370)) (fun _ hk=>hk.2) (.int .i64 t371)) (fun _ hk=>hk.2) _) (fun _ hk=>hk.2) (.bool t375)) (fun _ hk=>hk.2) (.bool true)) (fun _ hk=>⟨hk.1.1.1,⟨hk.1.1.2.1,⟨hk.1.1.2.2.1,⟨hk.1.1.2.2.2,hk.1.2⟩⟩⟩⟩)⟩,⟨bka BK365⟩,⟨bka BK366⟩,⟨bka BK367⟩,⟨by(with_reducible repeat first|apply Qb|apply Qd|apply Qc);refine Qk (cs:=#[.int .i64 t369,.int .i64 t370,.int .i64 t371,.slice Ao23 t372.length co23,.bool t375,.bool false]) ?_ 5 _ rfl;(with_reducible repeat first|apply Qb|apply Qd|apply Qc);refine Qk (cs:=#[.int .i64 t369,.int .i64 t370,.int .i64 t371,.slice Ao23 t372.length co23,.bool false,.bool false]) ?_ 4 _ rfl;(with_reducible repeat first|apply Qb|apply Qd|apply Qc);refine Qk (cs:=#[.int .i64 t369,.int .i64 t370,.int .i64 t371,.slice none 0 0,.bool false,.bool false]) ?_ 3 _ rfl;(with_reducible repeat first|apply Qb|apply Qd|apply Qc);refine Qk (cs:=#[.int .i64 t369,.int .i64 t370,.int .i64 0,.slice none 0 0,.bool false,.bool false]) ?_ 2 _ rfl;(with_reducible repeat first|apply Qb|apply Qd|apply Qc);refine Qk (cs:=#[.int .i64 t369,.int .i64 0,.int .i64 0,.slice none 0 0,.bool false,.bool false]) ?_ 1 _ rfl;(with_reducible repeat first|apply Qb|apply Qd|apply Qc);refine Qk (cs:=#[.int .i64 0,.int .i64 0,.int .i64 0,.slice none 0 0,.bool false,.bool false]) ?_ 0 _ rfl;(with_reducible repeat first|apply Qb|apply Qd|apply Qc);exact BK377.out⟩,⟨bel⟩⟩
   ·replace c24:=Bool.eq_false_iff.mpr c24
    subst c24
    have H1:(newelref12_Write.j0 k a2 false l0_0 l0_1 a1_0 a1_1 a1_2 l1_3 t369 t370 t371 t372 t375 false)=some (r1,r2,r3,r4):=by rw[if_neg (show ¬ (false=true) by decide)] at H;exact H
    clear H
    have H:=H1
    clear H1
    have H':=Aside0.mk H
    clear H
    have hnb32:=NB377_365.out
    have hnc32:=NB365_377.out
    have hnb33:=NB377_366.out
    have hnc33:=NB366_377.out
    have hnb34:=NB377_367.out
    have hnc34:=NB367_377.out
    obtain⟨hcz35_0,hcz35_1,hcz35_2,hcz35_3,hcz35_4,hcz35_5,hfz35_0,hfz35_1,hfz35_2,hfz35_3,hfz35_4,hfz35_5⟩:=qD6 BK377.out
    go_wp2
    go_meet
    case rel=>exact⟨_,(false),qR,H',⟨by first|omega|exact Nat.le_refl _⟩,⟨by(with_reducible repeat first|apply Kd.Qx|apply Kd.Qw|apply Kd.Q0);exact Kd.Qt (Kd.Qq (p:=⟨gb377,5,none⟩) (Kd.Qq (p:=⟨gb377,4,none⟩) (Kd.Qq (p:=⟨gb377,3,none⟩) (Kd.Qq (p:=⟨gb377,2,none⟩) (Kd.Qq (p:=⟨gb377,1,none⟩) (Kd.Qq (p:=⟨gb377,0,none⟩) (Kd.Qt HO0_0.out (fun k_ hk=>(⟨hk,hk.2⟩:_∧k_≠gb377))) (fun _ hk=>hk.2) (.int .i64 t369)) (fun _ hk=>hk.2) (.int .i64 t370)) (fun _ hk=>hk.2) (.int .i64 t371)) (fun _ hk=>hk.2) _) (fun _ hk=>hk.2) (.bool t375)) (fun _ hk=>hk.2) (.bool false)) (fun _ hk=>⟨hk.1.1.1.1.1,⟨hk.1.1.1.1.2,⟨hk.1.1.1.2,⟨hk.1.1.2,hk.1.2⟩⟩⟩⟩)⟩,⟨by(with_reducible repeat first|apply Kd.Qx|apply Kd.Qw|apply Kd.Q0);exact Kd.Qt (Kd.Qq (p:=⟨gb377,5,none⟩) (Kd.Qq (p:=⟨gb377,4,none⟩) (Kd.Qq (p:=⟨gb377,3,none⟩) (Kd.Qq (p:=⟨gb377,2,none⟩) (Kd.Qq (p:=⟨gb377,1,none⟩) (Kd.Qq (p:=⟨gb377,0,none⟩) (Kd.Qt HO0_1.out (fun k_ hk=>(⟨hk,hk.2⟩:_∧k_≠gb377))) (fun _ hk=>hk.2) (.int .i64 t369)) (fun _ hk=>hk.2) (.int .i64 t370)) (fun _ hk=>hk.2) (.int .i64 t371)) (fun _ hk=>hk.2) _) (fun _ hk=>hk.2) (.bool t375)) (fun _ hk=>hk.2) (.bool false)) (fun _ hk=>⟨hk.1.1.1.1.1,⟨hk.1.1.1.1.2,⟨hk.1.1.1.2,⟨hk.1.1.2,hk.1.2⟩⟩⟩⟩)⟩,⟨by(with_reducible repeat first|apply Kd.Qx|apply Kd.Qw|apply Kd.Q0);exact Kd.Qt (Kd.Qq (p:=⟨gb377,5,none⟩) (Kd.Qq (p:=⟨gb377,4,none⟩) (Kd.Qq (p:=⟨gb377,3,none⟩) (Kd.Qq (p:=⟨gb377,2,none⟩) (Kd.Qq (p:=⟨gb377,1,none⟩) (Kd.Qq (p:=⟨gb377,0,none⟩) (Kd.Qt HO374.out (fun k_ hk=>(⟨hk,hk.2⟩:_∧k_≠gb377))) (fun _ hk=>hk.2) (.int .i64 t369)) (fun _ hk=>hk.2) (.int .i64 t370)) (fun _ hk=>hk.2) (.int .i64 t371)) (fun _ hk=>hk.2) _) (fun _ hk=>hk.2) (.bool t375)) (fun _ hk=>hk.2) (.bool false)) (fun _ hk=>⟨hk.1.1.1,⟨hk.1.1.2.1,⟨hk.1.1.2.2.1,⟨hk.1.1.2.2.2,hk.1.2⟩⟩⟩⟩)⟩,⟨bka BK365⟩,⟨bka BK366⟩,⟨bka BK367⟩,⟨by(with_reducible repeat first|apply Qb|apply Qd|apply Qc);refine Qk (cs:=#[.int .i64 t369,.int .i64 t370,.int .i64 t371,.slice Ao23 t372.length co23,.bool t375,.bool false]) ?_ 5 _ rfl;(with_reducible repeat first|apply Qb|apply Qd|apply Qc);refine Qk (cs:=#[.int .i64 t369,.int .i64 t370,.int .i64 t371,.slice Ao23 t372.length co23,.bool false,.bool false]) ?_ 4 _ rfl;(with_reducible repeat first|apply Qb|apply Qd|apply Qc);refine Qk (cs:=#[.int .i64 t369,.int .i64 t370,.int .i64 t371,.slice none 0 0,.bool false,.bool false]) ?_ 3 _ rfl;(with_reducible repeat first|apply Qb|apply Qd|apply Qc);refine Qk (cs:=#[.int .i64 t369,.int .i64 t370,.int .i64 0,.slice none 0 0,.bool false,.bool false]) ?_ 2 _ rfl;(with_reducible repeat first|apply Qb|apply Qd|apply Qc);refine Qk (cs:=#[.int .i64 t369,.int .i64 0,.int .i64 0,.slice none 0 0,.bool false,.bool false]) ?_ 1 _ rfl;(with_reducible repeat first|apply Qb|apply Qd|apply Qc);refine Qk (cs:=#[.int .i64 0,.int .i64 0,.int .i64 0,.slice none 0 0,.bool false,.bool false]) ?_ 0 _ rfl;(with_reducible repeat first|apply Qb|apply Qd|apply Qc);exact BK377.out⟩,⟨bel⟩⟩
  case rest=>
   clear HC7
   try clear c1
   try clear c2
   try clear p2
   try clear c3
   try clear c5
   try clear c11
   try clear c12
   try clear c13
   try clear c15
   try clear c19
   try clear c20
   try clear c21
   try clear c24
   try clear c25
   try clear c26
   try clear c27
   try clear c29
   try clear c30
   try clear c32
   try clear c33
   try clear c34
   try clear hcz13_0
   try clear hcz13_1
   try clear hcz13_2
   try clear hcz13_3
   try clear hcz16_0
   try clear hcz16_1
   try clear hcz22_0
   try clear hcz22_1
   try clear hcz22_2
   try clear hcz22_3
   try clear hcz22_4
   try clear hcz22_5
   try clear hcz28_0
   try clear hcz28_1
   try clear hcz28_2
   try clear hcz28_3
   try clear hcz28_4
   try clear hcz28_5
   try clear hcz31_0
   try clear hcz31_1
   try clear hcz31_2
   try clear hcz31_3
   try clear hcz35_0
   try clear hcz35_1
   try clear hcz35_2
   try clear hcz35_3
   try clear hcz35_4
   try clear hcz35_5
   try clear hfz13_0
   try clear hfz13_1
   try clear hfz13_2
   try clear hfz13_3
   try clear hfz16_0
   try clear hfz16_1
   try clear hfz22_0
   try clear hfz22_1
   try clear hfz22_2
   try clear hfz22_3
   try clear hfz22_4
   try clear hfz22_5
   try clear hfz28_0
   try clear hfz28_1
   try clear hfz28_2
   try clear hfz28_3
   try clear hfz28_4
   try clear hfz28_5
   try clear hfz31_0
   try clear hfz31_1
   try clear hfz31_2
   try clear hfz31_3
   try clear hfz35_0
   try clear hfz35_1
   try clear hfz35_2
   try clear hfz35_3
   try clear hfz35_4
   try clear hfz35_5
   obtain⟨kq,x28_6,rfl,HA,HJ6,HO_366000,HO_366001,HO_378003,BK365,BK366,BK367,BK377,HB⟩:=hcut
   cases kq with
   |zero=>exact absurd HA.out (by simp[newelref12_Write.j0])
   |succ kj6=>
    have H:=HA.out
    clear HA
    simp only[newelref12_Write.j0] at H
    by_cases c36:x28_6=true
    ·subst c36
     have H1:(some (([]:List Int),([]:List Int),false,124))=some (r1,r2,r3,r4):=by rw[if_pos rfl] at H;exact H
     clear H
     have H:=H1
     clear H1
     simp only[Option.some.injEq,Prod.mk.injEq] at H
     obtain⟨rfl,rfl,rfl,rfl⟩:=H
     have hnb37:=NB367_365.out
     have hnc37:=NB365_367.out
     have hnb38:=NB367_366.out
     have hnc38:=NB366_367.out
     have hnb39:=NB367_377.out
     have hnc39:=NB377_367.out
     obtain⟨hcz40_0,hcz40_1,hcz40_2,hcz40_3,hfz40_0,hfz40_1,hfz40_2,hfz40_3⟩:=qD4 BK367.out
     go_wp2
     refine bodyPost_ret (results_cell_row rfl _ _ gb367 34 #[.slice none 0 0,.slice none 0 0,.bool false,.int .i64 124] (0,0) _ rfl (by refine Qk (cs:=#[.slice none 0 0,.slice none 0 0,.bool false,.int .i64 0]) ?_ 3 _ rfl;refine Qk (cs:=#[.slice none 0 0,.slice none 0 0,.bool false,.int .i64 0]) ?_ 2 _ rfl;refine Qk (cs:=#[.slice none 0 0,.slice none 0 0,.bool false,.int .i64 0]) ?_ 1 _ rfl;refine Qk (cs:=#[.slice none 0 0,.slice none 0 0,.bool false,.int .i64 0]) ?_ 0 _ rfl;exact BK367.out) Tryd.underlying34 rfl kr) rfl ?_
     refine⟨.slice none 0 0,.slice none 0 0,by first|rfl|(simp[Qo,Qn] <;> rfl)|(simp[*,Qo,Qn] <;> rfl),Kd.Qt (Kd.R_V (Kd.Z1 _ _ _ w.heap.size _)) (fun k_ hk=>by first|exact⟨(.inr (hk.1)),hk.2⟩|exact(.inr (hk))),Kd.Qt (Kd.R_V (Kd.Z1 _ _ _ w.heap.size _)) (fun k_ hk=>by first|exact⟨(.inr (hk.1)),hk.2⟩|exact(.inr (hk))),bel⟩
    ·replace c36:=Bool.eq_false_iff.mpr c36
     subst c36
     have H1:((newelref12_Code.f kj6 a1_0 a1_1 a1_2 l1_3).bind fun t378=>(if a2<0 then (newelref12_Write.j1 kj6 a2 t378 0 l0_0 l0_1 t369 t370 t371 t372 t375 t376) else (newelref12_Write.j1 kj6 a2 t378 a2 l0_0 l0_1 t369 t370 t371 t372 t375 t376)))=some (r1,r2,r3,r4):=by rw[if_neg (show ¬ (false=true) by decide)] at H;exact H
     clear H
     have H:=H1
     clear H1
     replace H:=Option.bind_eq_some_iff.mp H
     obtain⟨t378,A410,H⟩:=H
     replace H:(if a2<0 then (newelref12_Write.j1 kj6 a2 t378 0 l0_0 l0_1 t369 t370 t371 t372 t375 t376) else (newelref12_Write.j1 kj6 a2 t378 a2 l0_0 l0_1 t369 t370 t371 t372 t375 t376))=some (r1,r2,r3,r4):=H
     have A41:=Aside0.mk A410
     clear A410
     have HC42:=Aside0.mk H
     clear H
     have hnb43:=NB366_365.out
     have hnc43:=NB365_366.out
     have hnb44:=NB366_367.out
     have hnc44:=NB367_366.out
     have hnb45:=NB366_377.out
     have hnc45:=NB377_366.out
     obtain⟨hcz46_0,hcz46_1,hcz46_2,hcz46_3,hfz46_0,hfz46_1,hfz46_2,hfz46_3⟩:=qD4 BK366.out
     go_upto_if 34 with(first|((with_reducible refine Qv (f:=25) rfl ?_);refine Ze (some 31) rfl rfl Tryd.func25 kr rfl #[.agg #[.int .i64 a1_0,.int .i64 a1_1,.int .i64 a1_2,.slice A1_3 l1_3.length c1_3]] rfl qM ?_;(with_reducible refine(newelref12_Code.calls kj6 a1_0 a1_1 a1_2 _ _ l1_3 t378 _ ?side1 ?side2 A41.out).mono ?_);(case side1=>exact(Kd.Zb HR1_3.out HB.out));(case side2=>exact HC1_3.out);rintro e w47 ⟨v379,rfl,ho0,hb⟩;refine⟨_,rfl, ?_⟩;have HO380:=Aside0.mk (Kd.Zd (Kd.Kq (M:=fun k_=>(w.heap.size≤k_)) ho0 (Qj HB.out) (fun k_ h_=>h_)) (Qj HB.out));replace HO_366000:=Aside0.mk (Kd.Ya HO_366000.out (Kd.Q5 ho0) hb);replace HO_366001:=Aside0.mk (Kd.Ya HO_366001.out (Kd.Q5 ho0) hb);replace HO_378003:=Aside0.mk (Kd.Ya HO_378003.out (Kd.Q5 ho0) hb);replace BK365:=sBk BK365 hb;replace BK366:=sBk BK366 hb;replace BK367:=sBk BK367 hb;replace BK377:=sBk BK377 hb;replace HB:=sHb hb;(try clear hb);(try clear hb2);(try clear hk);(try clear hi);(try clear ho0)))
     (try simp only[Act.put,qS])
     go_cut [10] (fun v10 wc=>∃ (kq:Nat) (x10_41:Int),v10 = .int .i64 x10_41∧Aside0 (newelref12_Write.j1 kq a2 t378 x10_41 l0_0 l0_1 t369 t370 t371 t372 t375 t376=some (r1,r2,r3,r4))∧Aside0 (kq≤kj6)∧Aside0 (Kd.R (Kd.int .u8) 5 wc w.heap.size (fun k_=>(w.heap.size≤k_)) v379 t378)∧Aside0 (Kd.V (Kd.int .u8) 5 wc w.heap.size (fun k_=>((P0_0_ k_∨P0_1_ k_)∨w.heap.size≤k_)∧some k_≠(v379:Value).ownBlock∧k_≠gb365∧k_≠gb366∧k_≠gb367∧k_≠gb377) (.slice A0_0 l0_0.length c0_0) l0_0)∧Aside0 (Kd.V (Kd.int .u8) 5 wc w.heap.size (fun k_=>((P0_0_ k_∨P0_1_ k_)∨w.heap.size≤k_)∧some k_≠(v379:Value).ownBlock∧k_≠gb365∧k_≠gb366∧k_≠gb367∧k_≠gb377) (.slice A0_1 l0_1.length c0_1) l0_1)∧Aside0 (Kd.V (Kd.int .u8) 5 wc w.heap.size (fun k_=>((P0_0_ k_∨P0_1_ k_)∨w.heap.size≤k_)∧some k_≠(v379:Value).ownBlock∧k_≠gb365∧k_≠gb366∧k_≠gb367∧k_≠gb377) (.slice Ao23 t372.length co23) t372)∧Aside0 (wc.heap[gb365]?=some (.cells #[(.slice A0_0 l0_0.length c0_0),(.slice A0_1 l0_1.length c0_1)] 24 (0,0)))∧Aside0 (wc.heap[gb366]?=some (.cells #[.int .i64 a1_0,.int .i64 a1_1,.int .i64 a1_2,(.slice A1_3 l1_3.length c1_3)] 26 (0,0)))∧Aside0 (wc.heap[gb367]?=some (.cells #[(.slice none 0 0),(.slice none 0 0),.bool false,.int .i64 0] 34 (0,0)))∧Aside0 (wc.heap[gb377]?=some (.cells #[.int .i64 t369,.int .i64 t370,.int .i64 t371,(.slice Ao23 t372.length co23),.bool t375,.bool t376] 39 (0,0)))∧Aside0 (Below w.heap.size w wc))
     case first=>
      have H:=HC42.out
      clear HC42
      by_cases c48:a2<0
      ·rw[if_pos c48] at H
       have c48b0:decide (a2<0)=true:=decide_eq_true c48
       clear c48
       (first|rw[c48b0]|(simp only[Zu,Z4];rw[c48b0])|skip)
       have H':=Aside0.mk H
       clear H
       go_wp2
       go_meet
       case rel=>exact⟨_,(0),rfl,H',⟨by have:=HJ6.out;omega⟩,⟨by(with_reducible repeat first|apply Kd.Qi|apply Kd.Qh|apply Kd.Ql);exact Kd.Qu HO380.out (fun _ hk=>hk.1)⟩,⟨by(with_reducible repeat first|apply Kd.Qx|apply Kd.Qw|apply Kd.Q0);exact Kd.Qt HO_366000.out (fun _ hk=>⟨hk.1.1,⟨hk.2,⟨hk.1.2.1,⟨hk.1.2.2.1,⟨hk.1.2.2.2.1,hk.1.2.2.2.2⟩⟩⟩⟩⟩)⟩,⟨by(with_reducible repeat first|apply Kd.Qx|apply Kd.Qw|apply Kd.Q0);exact Kd.Qt HO_366001.out (fun _ hk=>⟨hk.1.1,⟨hk.2,⟨hk.1.2.1,⟨hk.1.2.2.1,⟨hk.1.2.2.2.1,hk.1.2.2.2.2⟩⟩⟩⟩⟩)⟩,⟨by(with_reducible repeat first|apply Kd.Qx|apply Kd.Qw|apply Kd.Q0);exact Kd.Qt HO_378003.out (fun _ hk=>⟨hk.1.1,⟨hk.2,⟨hk.1.2.1,⟨hk.1.2.2.1,⟨hk.1.2.2.2.1,hk.1.2.2.2.2⟩⟩⟩⟩⟩)⟩,BK365,BK366,BK367,BK377,HB⟩
      ·rw[if_neg c48] at H
       have c48b0:decide (a2<0)=false:=decide_eq_false c48
       clear c48
       (first|rw[c48b0]|(simp only[Zu,Z4];rw[c48b0])|skip)
       have H':=Aside0.mk H
       clear H
       go_wp2
       go_meet
       case rel=>exact⟨_,(a2),qR,H',⟨by have:=HJ6.out;omega⟩,⟨by(with_reducible repeat first|apply Kd.Qi|apply Kd.Qh|apply Kd.Ql);exact Kd.Qu HO380.out (fun _ hk=>hk.1)⟩,⟨by(with_reducible repeat first|apply Kd.Qx|apply Kd.Qw|apply Kd.Q0);exact Kd.Qt HO_366000.out (fun _ hk=>⟨hk.1.1,⟨hk.2,⟨hk.1.2.1,⟨hk.1.2.2.1,⟨hk.1.2.2.2.1,hk.1.2.2.2.2⟩⟩⟩⟩⟩)⟩,⟨by(with_reducible repeat first|apply Kd.Qx|apply Kd.Qw|apply Kd.Q0);exact Kd.Qt HO_366001.out (fun _ hk=>⟨hk.1.1,⟨hk.2,⟨hk.1.2.1,⟨hk.1.2.2.1,⟨hk.1.2.2.2.1,hk.1.2.2.2.2⟩⟩⟩⟩⟩)⟩,⟨by(with_reducible repeat first|apply Kd.Qx|apply Kd.Qw|apply Kd.Q0);exact Kd.Qt HO_378003.out (fun _ hk=>⟨hk.1.1,⟨hk.2,⟨hk.1.2.1,⟨hk.1.2.2.1,⟨hk.1.2.2.2.1,hk.1.2.2.2.2⟩⟩⟩⟩⟩)⟩,⟨bka BK365⟩,⟨bka BK366⟩,⟨bka BK367⟩,⟨bka BK377⟩,⟨bel⟩⟩
     case rest=>
      clear HC42
      try clear c1
      try clear c2
      try clear p2
      try clear c3
      try clear c4
      try clear c5
      try clear c11
      try clear c12
      try clear c13
      try clear c15
      try clear c19
      try clear c20
      try clear c21
      try clear c24
      try clear c25
      try clear c26
      try clear c27
      try clear c29
      try clear c30
      try clear c32
      try clear c33
      try clear c34
      try clear c36
      try clear c37
      try clear c38
      try clear c39
      try clear c43
      try clear c44
      try clear c45
      try clear c48
      try clear c48b0
      try clear hcz13_0
      try clear hcz13_1
      try clear hcz13_2
      try clear hcz13_3
      try clear hcz16_0
      try clear hcz16_1
      try clear hcz22_0
      try clear hcz22_1
      try clear hcz22_2
      try clear hcz22_3
      try clear hcz22_4
      try clear hcz22_5
      try clear hcz28_0
      try clear hcz28_1
      try clear hcz28_2
      try clear hcz28_3
      try clear hcz28_4
      try clear hcz28_5
      try clear hcz31_0
      try clear hcz31_1
      try clear hcz31_2
      try clear hcz31_3
      try clear hcz35_0
      try clear hcz35_1
      try clear hcz35_2
      try clear hcz35_3
      try clear hcz35_4
      try clear hcz35_5
      try clear hcz40_0
      try clear hcz40_1
      try clear hcz40_2
      try clear hcz40_3
      try clear hcz46_0
      try clear hcz46_1
      try clear hcz46_2
      try clear hcz46_3
      try clear hfz13_0
      try clear hfz13_1
      try clear hfz13_2
      try clear hfz13_3
      try clear hfz16_0
      try clear hfz16_1
      try clear hfz22_0
      try clear hfz22_1
      try clear hfz22_2
      try clear hfz22_3
      try clear hfz22_4
      try clear hfz22_5
      try clear hfz28_0
      try clear hfz28_1
      try clear hfz28_2
      try clear hfz28_3
      try clear hfz28_4
      try clear hfz28_5
      try clear hfz31_0
      try clear hfz31_1
      try clear hfz31_2
      try clear hfz31_3
      try clear hfz35_0
      try clear hfz35_1
      try clear hfz35_2
      try clear hfz35_3
      try clear hfz35_4
      try clear hfz35_5
      try clear hfz40_0
      try clear hfz40_1
      try clear hfz40_2
      try clear hfz40_3
      try clear hfz46_0
      try clear hfz46_1
      try clear hfz46_2
      try clear hfz46_3
      try clear p2
      obtain⟨kq,x10_41,rfl,HA,HJ41,HO_9,HO_366000,HO_366001,HO_378003,BK365,BK366,BK367,BK377,HB⟩:=hcut
      cases kq with
      |zero=>exact absurd HA.out (by simp[newelref12_Write.j1])
      |succ kj41=>
       have H:=HA.out
       clear HA
       simp only[newelref12_Write.j1] at H
       by_cases c49:x10_41>(t378.length:Int)
       ·rw[if_pos c49] at H
        have c49b0:decide ((t378.length:Int)<x10_41)=true:=decide_eq_true c49
        clear c49
        by_cases c50:t376=true
        ·subst c50
         have H1:(if t375=true then (if 0≤(t378.length:Int) then (if (t378.length:Int)≤(t378.length:Int) then (some ((t378.take ((t378.length:Int):Int).toNat),l0_1,decide (a2≥(t378.length:Int)),0)) else (none)) else (none)) else (if 0≤(t378.length:Int) then (if (t378.length:Int)≤(t378.length:Int) then (some (l0_0,(t378.take ((t378.length:Int):Int).toNat),decide (a2≥(t378.length:Int)),0)) else (none)) else (none)))=some (r1,r2,r3,r4):=by rw[if_pos rfl] at H;exact H
         clear H
         have H:=H1
         clear H1
         by_cases c51:t375=true
         ·subst c51
          have H1:(if 0≤(t378.length:Int) then (if (t378.length:Int)≤(t378.length:Int) then (some ((t378.take ((t378.length:Int):Int).toNat),l0_1,decide (a2≥(t378.length:Int)),0)) else (none)) else (none))=some (r1,r2,r3,r4):=by rw[if_pos rfl] at H;exact H
          clear H
          have H:=H1
          clear H1
          by_cases c52:0≤(t378.length:Int)
          ·rw[if_pos c52] at H
           have c52b0:=eq_true c52
           have c52b1:decide (0≤(t378.length:Int))=true:=decide_eq_true c52
           clear c52
           by_cases c53:(t378.length:Int)≤(t378.length:Int)
           ·rw[if_pos c53] at H
            have c53b0:=eq_true c53
            have c53b1:decide ((t378.length:Int)≤(t378.length:Int))=true:=decide_eq_true c53
            clear c53
            obtain⟨y382,hy382⟩:∃ y_:List Int,y_=(t378.take ((t378.length:Int):Int).toNat):=⟨_,rfl⟩
            replace H:(some (y382,l0_1,decide (a2≥(t378.length:Int)),0))=some (r1,r2,r3,r4):=by first|(rw[hy382];with_reducible exact H)|(have H2_:=(Option.bind_some _ _).symm.trans H;rw[hy382];with_reducible exact H2_)|(have H2_:=(Option.bind_some _ _).symm.trans H;with_reducible exact H2_)|with_reducible exact H|(rw[hy382];exact H)|exact H
            have Ny382:=Aside0.mk hy382
            clear hy382
            simp only[Option.some.injEq,Prod.mk.injEq] at H
            obtain⟨rfl,rfl,rfl,rfl⟩:=H
            obtain⟨Ao54,co54,eo54⟩:=Kd.Zf HO_9.out
            subst eo54
            have hnb55:=NB365_366.out
            have hnc55:=NB366_365.out
            have hnb56:=NB365_367.out
            have hnc56:=NB367_365.out
            have hnb57:=NB365_377.out
            have hnc57:=NB377_365.out
            obtain⟨hcz58_0,hcz58_1,hfz58_0,hfz58_1⟩:=qD2 BK365.out
            go_wp2_with (first|((with_reducible refine Qz (N:=11) rfl ?_);refine qE 11 #[.slice none 0 0,.slice none 0 0,.bool false,.int .i64 0] 34 ?_;intro gb381 hg w59 hbox hb;have BK381:=Aside0.mk hbox;have GW381:=sGe hg;have GE381:=sGe hg;have NB365_381:=sNl BK365 hg;have NB381_365:=sNg BK365 hg;have NB366_381:=sNl BK366 hg;have NB381_366:=sNg BK366 hg;have NB367_381:=sNl BK367 hg;have NB381_367:=sNg BK367 hg;have NB377_381:=sNl BK377 hg;have NB381_377:=sNg BK377 hg;replace HO_9:=sRb HO_9 hb;replace HO_366000:=Aside0.mk (Kd.Q2 (Kd.Q9 (by(with_reducible repeat first|apply Kd.Qx|apply Kd.Qw|apply Kd.Q0);exact HO_366000.out) gb381 (Nat.le_of_eq hg.symm)) hb);replace HO_366001:=Aside0.mk (Kd.Q2 (Kd.Q9 (by(with_reducible repeat first|apply Kd.Qx|apply Kd.Qw|apply Kd.Q0);exact HO_366001.out) gb381 (Nat.le_of_eq hg.symm)) hb);replace HO_378003:=Aside0.mk (Kd.Q2 (Kd.Q9 (by(with_reducible repeat first|apply Kd.Qx|apply Kd.Qw|apply Kd.Q0);exact HO_378003.out) gb381 (Nat.le_of_eq hg.symm)) hb);replace BK365:=sBk BK365 hb;replace BK366:=sBk BK366 hb;replace BK367:=sBk BK367 hb;replace BK377:=sBk BK377 hb;replace HB:=sHb hb;clear hb hbox hg;have hnb60:=NB381_365.out;have hnc60:=NB365_381.out;have hnb61:=NB381_366.out;have hnc61:=NB366_381.out;have hnb62:=NB381_367.out;have hnc62:=NB367_381.out;have hnb63:=NB381_377.out;have hnc63:=NB377_381.out;obtain⟨hcz64_0,hcz64_1,hcz64_2,hcz64_3,hfz64_0,hfz64_1,hfz64_2,hfz64_3⟩:=qD4 BK381.out)|((with_reducible refine Xq (t:=34) (p:=11) rfl ?_);refine Xd (t:=34) (p:=11) (v:=?vo_w65) (w1:=((((w59.setCell ⟨gb381,0,none⟩ (.slice A0_0 l0_0.length c0_0)).setCell ⟨gb381,1,none⟩ (.slice A0_1 l0_1.length c0_1)).setCell ⟨gb381,2,none⟩ (.bool (decide (a2≥(t378.length:Int))))).setCell ⟨gb381,3,none⟩ (.int .i64 0))) ?hg ?ho ?hn ?hr ?_;(case ho=>rfl);(case hg=>rfl);(case hn=>rfl);(case hr=>go_simp <;> rfl);intro w65 hw;have n0_:Aside0 (Kd.R (Kd.int .u8) 5 w65 w.heap.size (fun k_=>(w.heap.size≤k_)) (.slice Ao54 t378.length co54) t378):=⟨(by rw[hw];exact(by(with_reducible repeat first|apply Kd.Qi|apply Kd.Qh|apply Kd.Ql);exact Kd.Qu (Kd.Qm (Kd.Qm (Kd.Qm (Kd.Qm (Kd.Qy HO_9.out BK381.out (by decide)) (fun _ hk=>hk.2) (.slice A0_0 l0_0.length c0_0)) (fun _ hk=>hk.2) (.slice A0_1 l0_1.length c0_1)) (fun _ hk=>hk.2) (.bool (decide (a2≥(t378.length:Int))))) (fun _ hk=>hk.2) (.int .i64 0)) (fun _ hk=>hk.1)))⟩;have n1_:Aside0 (Kd.V (Kd.int .u8) 5 w65 w.heap.size (fun k_=>((P0_0_ k_∨P0_1_ k_)∨w.heap.size≤k_)∧some k_≠(.slice Ao54 t378.length co54:Value).ownBlock∧k_≠gb365∧k_≠gb366∧k_≠gb367∧k_≠gb377∧k_≠gb381) (.slice A0_0 l0_0.length c0_0) l0_0):=⟨(by rw[hw];exact(by(with_reducible repeat first|apply Kd.Qx|apply Kd.Qw|apply Kd.Q0);exact Kd.Qt (Kd.Qq (p:=⟨gb381,3,none⟩) (Kd.Qq (p:=⟨gb381,2,none⟩) (Kd.Qq (p:=⟨gb381,1,none⟩) (Kd.Qq (p:=⟨gb381,0,none⟩) (Kd.Qt HO_366000.out (fun k_ hk=>(⟨hk,hk.2⟩:_∧k_≠gb381))) (fun _ hk=>hk.2) (.slice A0_0 l0_0.length c0_0)) (fun _ hk=>hk.2) (.slice A0_1 l0_1.length c0_1)) (fun _ hk=>hk.2) (.bool (decide (a2≥(t378.length:Int))))) (fun _ hk=>hk.2) (.int .i64 0)) (fun _ hk=>⟨hk.1.1.1,⟨hk.1.1.2.1,⟨hk.1.1.2.2.1,⟨hk.1.1.2.2.2.1,⟨hk.1.1.2.2.2.2.1,⟨hk.1.1.2.2.2.2.2,hk.1.2⟩⟩⟩⟩⟩⟩)))⟩;have n2_:Aside0 (Kd.V (Kd.int .u8) 5 w65 w.heap.size (fun k_=>((P0_0_ k_∨P0_1_ k_)∨w.heap.size≤k_)∧some k_≠(.slice Ao54 t378.length co54:Value).ownBlock∧k_≠gb365∧k_≠gb366∧k_≠gb367∧k_≠gb377∧k_≠gb381) (.slice A0_1 l0_1.length c0_1) l0_1):=⟨(by rw[hw];exact(by(with_reducible repeat first|apply Kd.Qx|apply Kd.Qw|apply Kd.Q0);exact Kd.Qt (Kd.Qq (p:=⟨gb381,3,none⟩) (Kd.Qq (p:=⟨gb381,2,none⟩) (Kd.Qq (p:=⟨gb381,1,none⟩) (Kd.Qq (p:=⟨gb381,0,none⟩) (Kd.Qt HO_366001.out (fun k_ hk=>(⟨hk,hk.2⟩:_∧k_≠gb381))) (fun _ hk=>hk.2) (.slice A0_0 l0_0.length c0_0)) (fun _ hk=>hk.2) (.slice A0_1 l0_1.length c0_1)) (fun _ hk=>hk.2) (.bool (decide (a2≥(t378.length:Int))))) (fun _ hk=>hk.2) (.int .i64 0)) (fun _ hk=>⟨hk.1.1.1,⟨hk.1.1.2.1,⟨hk.1.1.2.2.1,⟨hk.1.1.2.2.2.1,⟨hk.1.1.2.2.2.2.1,⟨hk.1.1.2.2.2.2.2,hk.1.2⟩⟩⟩⟩⟩⟩)))⟩;have n3_:Aside0 (Kd.V (Kd.int .u8) 5 w65 w.heap.size (fun k_=>((P0_0_ k_∨P0_1_ k_)∨w.heap.size≤k_)∧some k_≠(.slice Ao54 t378.length co54:Value).ownBlock∧k_≠gb365∧k_≠gb366∧k_≠gb367∧k_≠gb377∧k_≠gb381) (.slice Ao23 t372.length co23) t372):=⟨(by rw[hw];exact(by(with_reducible repeat first|apply Kd.Qx|apply Kd.Qw|apply Kd.Q0);exact Kd.Qt (Kd.Qq (p:=⟨gb381,3,none⟩) (Kd.Qq (p:=⟨gb381,2,none⟩) (Kd.Qq (p:=⟨gb381,1,none⟩) (Kd.Qq (p:=⟨gb381,0,none⟩) (Kd.Qt HO_378003.out (fun k_ hk=>(⟨hk,hk.2⟩:_∧k_≠gb381))) (fun _ hk=>hk.2) (.slice A0_0 l0_0.length c0_0)) (fun _ hk=>hk.2) (.slice A0_1 l0_1.length c0_1)) (fun _ hk=>hk.2) (.bool (decide (a2≥(t378.length:Int))))) (fun _ hk=>hk.2) (.int .i64 0)) (fun _ hk=>⟨hk.1.1.1,⟨hk.1.1.2.1,⟨hk.1.1.2.2.1,⟨hk.1.1.2.2.2.1,⟨hk.1.1.2.2.2.2.1,⟨hk.1.1.2.2.2.2.2,hk.1.2⟩⟩⟩⟩⟩⟩)))⟩;have n4_:Aside0 (w65.heap[gb365]?=some (.cells #[.slice A0_0 l0_0.length c0_0,.slice A0_1 l0_1.length c0_1] 24 (0,0))):=⟨(by rw[hw];exact(bka BK365))⟩;have n5_:Aside0 (w65.heap[gb366]?=some (.cells #[.int .i64 a1_0,.int .i64 a1_1,.int .i64 a1_2,.slice A1_3 l1_3.length c1_3] 26 (0,0))):=⟨(by rw[hw];exact(bka BK366))⟩;have n6_:Aside0 (w65.heap[gb367]?=some (.cells #[.slice none 0 0,.slice none 0 0,.bool false,.int .i64 0] 34 (0,0))):=⟨(by rw[hw];exact(bka BK367))⟩;have n7_:Aside0 (w65.heap[gb377]?=some (.cells #[.int .i64 t369,.int .i64 t370,.int .i64 t371,.slice Ao23 t372.length co23,.bool true,.bool true] 39 (0,0))):=⟨(by rw[hw];exact(bka BK377))⟩;have n8_:Aside0 (w65.heap[gb381]?=some (.cells #[.slice A0_0 l0_0.length c0_0,.slice A0_1 l0_1.length c0_1,.bool (decide (a2≥(t378.length:Int))),.int .i64 0] 34 (0,0))):=⟨(by rw[hw];exact(by(with_reducible repeat first|apply Qb|apply Qd|apply Qc);refine Qk (cs:=#[.slice A0_0 l0_0.length c0_0,.slice A0_1 l0_1.length c0_1,.bool (decide (a2≥(t378.length:Int))),.int .i64 0]) ?_ 3 _ rfl;(with_reducible repeat first|apply Qb|apply Qd|apply Qc);refine Qk (cs:=#[.slice A0_0 l0_0.length c0_0,.slice A0_1 l0_1.length c0_1,.bool false,.int .i64 0]) ?_ 2 _ rfl;(with_reducible repeat first|apply Qb|apply Qd|apply Qc);refine Qk (cs:=#[.slice A0_0 l0_0.length c0_0,.slice none 0 0,.bool false,.int .i64 0]) ?_ 1 _ rfl;(with_reducible repeat first|apply Qb|apply Qd|apply Qc);refine Qk (cs:=#[.slice none 0 0,.slice none 0 0,.bool false,.int .i64 0]) ?_ 0 _ rfl;(with_reducible repeat first|apply Qb|apply Qd|apply Qc);exact BK381.out))⟩;have n9_:Aside0 (Below w.heap.size w w65):=⟨(by rw[hw];exact bel)⟩;clear hw;clear HO_9;clear HO_366000;clear HO_366001;clear HO_378003;clear BK365;clear BK366;clear BK367;clear BK377;clear BK381;clear HB;have HO_9:=n0_;have HO_366000:=n1_;have HO_366001:=n2_;have HO_378003:=n3_;have BK365:=n4_;have BK366:=n5_;have BK367:=n6_;have BK377:=n7_;have BK381:=n8_;have HB:=n9_;clear n0_ n1_ n2_ n3_ n4_ n5_ n6_ n7_ n8_ n9_;have hnb66:=NB377_366.out;have hnc66:=NB366_377.out;have hnb67:=NB377_367.out;have hnc67:=NB367_377.out;obtain⟨hcz68_0,hcz68_1,hcz68_2,hcz68_3,hcz68_4,hcz68_5,hfz68_0,hfz68_1,hfz68_2,hfz68_3,hfz68_4,hfz68_5⟩:=qD6 BK377.out;have q69:((t378.length:Int):Int)≤((t378.length:Int):Int):=of_decide_eq_true (by assumption);obtain⟨i069,hi069,_,hsz69,_⟩:=info_parts Zx;have hcut69:=Yr (P:=Tryd.prog) 22 5 .i64 Tryd.underlying22 hi069 Ao54 t378.length co54 (t378.length:Int) (of_decide_eq_true (by assumption)) q69 (Kd.Q4 HO_9.out).2.1;have hr69:=Kd.Jj (m:=((t378.length:Int):Int).toNat) HO_9.out (by omega);have hy69:y382.length=((t378.length:Int):Int).toNat:=(by rw[Ny382.out,List.length_take];omega);rw[← Ny382.out] at hr69;rw[← hy69] at hr69 hcut69;clear hy69 hi069 hsz69 HO_9;have HO384:=Aside0.mk hr69;clear hr69;replace q69:=eq_true q69;obtain⟨hcz70_0,hcz70_1,hcz70_2,hcz70_3,hfz70_0,hfz70_1,hfz70_2,hfz70_3⟩:=qD4 BK381.out;have hnb71:=NB367_366.out;have hnc71:=NB366_367.out;obtain⟨hcz72_0,hcz72_1,hcz72_2,hcz72_3,hfz72_0,hfz72_1,hfz72_2,hfz72_3⟩:=qD4 BK367.out))
            refine bodyPost_ret (results_cell_row rfl _ _ gb367 34 #[.slice Ao54 y382.length co54,.slice A0_1 l0_1.length c0_1,.bool (decide (a2≥(t378.length:Int))),.int .i64 0] (0,0) _ rfl (by(with_reducible repeat first|apply Qb|apply Qd|apply Qc);refine Qk (cs:=#[.slice Ao54 y382.length co54,.slice A0_1 l0_1.length c0_1,.bool (decide (a2≥(t378.length:Int))),.int .i64 0]) ?_ 3 _ rfl;(with_reducible repeat first|apply Qb|apply Qd|apply Qc);refine Qk (cs:=#[.slice Ao54 y382.length co54,.slice A0_1 l0_1.length c0_1,.bool false,.int .i64 0]) ?_ 2 _ rfl;(with_reducible repeat first|apply Qb|apply Qd|apply Qc);refine Qk (cs:=#[.slice Ao54 y382.length co54,.slice none 0 0,.bool false,.int .i64 0]) ?_ 1 _ rfl;(with_reducible repeat first|apply Qb|apply Qd|apply Qc);refine Qk (cs:=#[.slice none 0 0,.slice none 0 0,.bool false,.int .i64 0]) ?_ 0 _ rfl;(with_reducible repeat first|apply Qb|apply Qd|apply Qc);refine Qs ?_ NB367_381.out _;(with_reducible repeat first|apply Qb|apply Qd|apply Qc);exact BK367.out) Tryd.underlying34 rfl kr) rfl ?_
            exact⟨_,_,by first|rfl|(simp[Qo,Qn] <;> rfl)|(simp[*,Qo,Qn] <;> rfl),Kd.Qt (Kd.R_V (by(with_reducible repeat first|apply Kd.Qi|apply Kd.Qh|apply Kd.Ql);exact Kd.Qu (Kd.Qm (Kd.Qm (Kd.Qm (Kd.Qm (Kd.Qm (Kd.Qy (Kd.Qy HO384.out BK381.out (by decide)) BK367.out (by decide)) (fun _ hk=>hk.1.2) _) (fun _ hk=>hk.2) _) (fun _ hk=>hk.2) (.slice A0_1 l0_1.length c0_1)) (fun _ hk=>hk.2) (.bool (decide (a2≥(t378.length:Int))))) (fun _ hk=>hk.2) (.int .i64 0)) (fun _ hk=>hk.1.1))) (fun k_ hk=>by first|exact⟨(.inr (hk.1)),hk.2⟩|exact(.inr (hk))),by(with_reducible repeat first|apply Kd.Qx|apply Kd.Qw|apply Kd.Q0);exact Kd.Qt (Kd.Qq (p:=⟨gb367,3,none⟩) (Kd.Qq (p:=⟨gb367,2,none⟩) (Kd.Qq (p:=⟨gb367,1,none⟩) (Kd.Qq (p:=⟨gb367,0,none⟩) (Kd.Qq (p:=⟨gb381,0,none⟩) (Kd.Qt (Kd.Qt HO_366001.out (fun k_ hk=>(⟨hk,hk.2.2.2.2.2.2⟩:_∧k_≠gb381))) (fun k_ hk=>(⟨hk,hk.1.2.2.2.2.1⟩:_∧k_≠gb367))) (fun _ hk=>hk.1.2) _) (fun _ hk=>hk.2) _) (fun _ hk=>hk.2) (.slice A0_1 l0_1.length c0_1)) (fun _ hk=>hk.2) (.bool (decide (a2≥(t378.length:Int))))) (fun _ hk=>hk.2) (.int .i64 0)) (fun _ hk=>hk.1.1.1),bel⟩
           ·rw[if_neg c53] at H
            exact absurd H (by simp)
          ·rw[if_neg c52] at H
           exact absurd H (by simp)
         ·replace c51:=Bool.eq_false_iff.mpr c51
          subst c51
          have H1:(if 0≤(t378.length:Int) then (if (t378.length:Int)≤(t378.length:Int) then (some (l0_0,(t378.take ((t378.length:Int):Int).toNat),decide (a2≥(t378.length:Int)),0)) else (none)) else (none))=some (r1,r2,r3,r4):=by rw[if_neg (show ¬ (false=true) by decide)] at H;exact H
          clear H
          have H:=H1
          clear H1
          by_cases c73:0≤(t378.length:Int)
          ·rw[if_pos c73] at H
           have c73b0:=eq_true c73
           have c73b1:decide (0≤(t378.length:Int))=true:=decide_eq_true c73
           clear c73
           by_cases c74:(t378.length:Int)≤(t378.length:Int)
           ·rw[if_pos c74] at H
            have c74b0:=eq_true c74
            have c74b1:decide ((t378.length:Int)≤(t378.length:Int))=true:=decide_eq_true c74
            clear c74
            obtain⟨y385,hy385⟩:∃ y_:List Int,y_=(t378.take ((t378.length:Int):Int).toNat):=⟨_,rfl⟩
            replace H:(some (l0_0,y385,decide (a2≥(t378.length:Int)),0))=some (r1,r2,r3,r4):=by first|(rw[hy385];with_reducible exact H)|(have H2_:=(Option.bind_some _ _).symm.trans H;rw[hy385];with_reducible exact H2_)|(have H2_:=(Option.bind_some _ _).symm.trans H;with_reducible exact H2_)|with_reducible exact H|(rw[hy385];exact H)|exact H
            have Ny385:=Aside0.mk hy385
            clear hy385
            simp only[Option.some.injEq,Prod.mk.injEq] at H
            obtain⟨rfl,rfl,rfl,rfl⟩:=H
            obtain⟨Ao75,co75,eo75⟩:=Kd.Zf HO_9.out
            subst eo75
            have hnb76:=NB365_366.out
            have hnc76:=NB366_365.out
            have hnb77:=NB365_367.out
            have hnc77:=NB367_365.out
            have hnb78:=NB365_377.out
            have hnc78:=NB377_365.out
            obtain⟨hcz79_0,hcz79_1,hfz79_0,hfz79_1⟩:=qD2 BK365.out
            go_wp2_with (first|((with_reducible refine Qz (N:=11) rfl ?_);refine qE 11 #[.slice none 0 0,.slice none 0 0,.bool false,.int .i64 0] 34 ?_;intro gb381 hg w80 hbox hb;have BK381:=Aside0.mk hbox;have GW381:=sGe hg;have GE381:=sGe hg;have NB365_381:=sNl BK365 hg;have NB381_365:=sNg BK365 hg;have NB366_381:=sNl BK366 hg;have NB381_366:=sNg BK366 hg;have NB367_381:=sNl BK367 hg;have NB381_367:=sNg BK367 hg;have NB377_381:=sNl BK377 hg;have NB381_377:=sNg BK377 hg;replace HO_9:=sRb HO_9 hb;replace HO_366000:=Aside0.mk (Kd.Q2 (Kd.Q9 (by(with_reducible repeat first|apply Kd.Qx|apply Kd.Qw|apply Kd.Q0);exact HO_366000.out) gb381 (Nat.le_of_eq hg.symm)) hb);replace HO_366001:=Aside0.mk (Kd.Q2 (Kd.Q9 (by(with_reducible repeat first|apply Kd.Qx|apply Kd.Qw|apply Kd.Q0);exact HO_366001.out) gb381 (Nat.le_of_eq hg.symm)) hb);replace HO_378003:=Aside0.mk (Kd.Q2 (Kd.Q9 (by(with_reducible repeat first|apply Kd.Qx|apply Kd.Qw|apply Kd.Q0);exact HO_378003.out) gb381 (Nat.le_of_eq hg.symm)) hb);replace BK365:=sBk BK365 hb;replace BK366:=sBk BK366 hb;replace BK367:=sBk BK367 hb;replace BK377:=sBk BK377 hb;replace HB:=sHb hb;clear hb hbox hg;have hnb81:=NB381_365.out;have hnc81:=NB365_381.out;have hnb82:=NB381_366.out;have hnc82:=NB366_381.out;have hnb83:=NB381_367.out;have hnc83:=NB367_381.out;have hnb84:=NB381_377.out;have hnc84:=NB377_381.out;obtain⟨hcz85_0,hcz85_1,hcz85_2,hcz85_3,hfz85_0,hfz85_1,hfz85_2,hfz85_3⟩:=qD4 BK381.out)|((with_reducible refine Xq (t:=34) (p:=11) rfl ?_);refine Xd (t:=34) (p:=11) (v:=?vo_w86) (w1:=((((w80.setCell ⟨gb381,0,none⟩ (.slice A0_0 l0_0.length c0_0)).setCell ⟨gb381,1,none⟩ (.slice A0_1 l0_1.length c0_1)).setCell ⟨gb381,2,none⟩ (.bool (decide (a2≥(t378.length:Int))))).setCell ⟨gb381,3,none⟩ (.int .i64 0))) ?hg ?ho ?hn ?hr ?_;(case ho=>rfl);(case hg=>rfl);(case hn=>rfl);(case hr=>go_simp <;> rfl);intro w86 hw;have n0_:Aside0 (Kd.R (Kd.int .u8) 5 w86 w.heap.size (fun k_=>(w.heap.size≤k_)) (.slice Ao75 t378.length co75) t378):=⟨(by rw[hw];exact(by(with_reducible repeat first|apply Kd.Qi|apply Kd.Qh|apply Kd.Ql);exact Kd.Qu (Kd.Qm (Kd.Qm (Kd.Qm (Kd.Qm (Kd.Qy HO_9.out BK381.out (by decide)) (fun _ hk=>hk.2) (.slice A0_0 l0_0.length c0_0)) (fun _ hk=>hk.2) (.slice A0_1 l0_1.length c0_1)) (fun _ hk=>hk.2) (.bool (decide (a2≥(t378.length:Int))))) (fun _ hk=>hk.2) (.int .i64 0)) (fun _ hk=>hk.1)))⟩;have n1_:Aside0 (Kd.V (Kd.int .u8) 5 w86 w.heap.size (fun k_=>((P0_0_ k_∨P0_1_ k_)∨w.heap.size≤k_)∧some k_≠(.slice Ao75 t378.length co75:Value).ownBlock∧k_≠gb365∧k_≠gb366∧k_≠gb367∧k_≠gb377∧k_≠gb381) (.slice A0_0 l0_0.length c0_0) l0_0):=⟨(by rw[hw];exact(by(with_reducible repeat first|apply Kd.Qx|apply Kd.Qw|apply Kd.Q0);exact Kd.Qt (Kd.Qq (p:=⟨gb381,3,none⟩) (Kd.Qq (p:=⟨gb381,2,none⟩) (Kd.Qq (p:=⟨gb381,1,none⟩) (Kd.Qq (p:=⟨gb381,0,none⟩) (Kd.Qt HO_366000.out (fun k_ hk=>(⟨hk,hk.2⟩:_∧k_≠gb381))) (fun _ hk=>hk.2) (.slice A0_0 l0_0.length c0_0)) (fun _ hk=>hk.2) (.slice A0_1 l0_1.length c0_1)) (fun _ hk=>hk.2) (.bool (decide (a2≥(t378.length:Int))))) (fun _ hk=>hk.2) (.int .i64 0)) (fun _ hk=>⟨hk.1.1.1,⟨hk.1.1.2.1,⟨hk.1.1.2.2.1,⟨hk.1.1.2.2.2.1,⟨hk.1.1.2.2.2.2.1,⟨hk.1.1.2.2.2.2.2,hk.1.2⟩⟩⟩⟩⟩⟩)))⟩;have n2_:Aside0 (Kd.V (Kd.int .u8) 5 w86 w.heap.size (fun k_=>((P0_0_ k_∨P0_1_ k_)∨w.heap.size≤k_)∧some k_≠(.slice Ao75 t378.length co75:Value).ownBlock∧k_≠gb365∧k_≠gb366∧k_≠gb367∧k_≠gb377∧k_≠gb381) (.slice A0_1 l0_1.length c0_1) l0_1):=⟨(by rw[hw];exact(by(with_reducible repeat first|apply Kd.Qx|apply Kd.Qw|apply Kd.Q0);exact Kd.Qt (Kd.Qq (p:=⟨gb381,3,none⟩) (Kd.Qq (p:=⟨gb381,2,none⟩) (Kd.Qq (p:=⟨gb381,1,none⟩) (Kd.Qq (p:=⟨gb381,0,none⟩) (Kd.Qt HO_366001.out (fun k_ hk=>(⟨hk,hk.2⟩:_∧k_≠gb381))) (fun _ hk=>hk.2) (.slice A0_0 l0_0.length c0_0)) (fun _ hk=>hk.2) (.slice A0_1 l0_1.length c0_1)) (fun _ hk=>hk.2) (.bool (decide (a2≥(t378.length:Int))))) (fun _ hk=>hk.2) (.int .i64 0)) (fun _ hk=>⟨hk.1.1.1,⟨hk.1.1.2.1,⟨hk.1.1.2.2.1,⟨hk.1.1.2.2.2.1,⟨hk.1.1.2.2.2.2.1,⟨hk.1.1.2.2.2.2.2,hk.1.2⟩⟩⟩⟩⟩⟩)))⟩;have n3_:Aside0 (Kd.V (Kd.int .u8) 5 w86 w.heap.size (fun k_=>((P0_0_ k_∨P0_1_ k_)∨w.heap.size≤k_)∧some k_≠(.slice Ao75 t378.length co75:Value).ownBlock∧k_≠gb365∧k_≠gb366∧k_≠gb367∧k_≠gb377∧k_≠gb381) (.slice Ao23 t372.length co23) t372):=⟨(by rw[hw];exact(by(with_reducible repeat first|apply Kd.Qx|apply Kd.Qw|apply Kd.Q0);exact Kd.Qt (Kd.Qq (p:=⟨gb381,3,none⟩) (Kd.Qq (p:=⟨gb381,2,none⟩) (Kd.Qq (p:=⟨gb381,1,none⟩) (Kd.Qq (p:=⟨gb381,0,none⟩) (Kd.Qt HO_378003.out (fun k_ hk=>(⟨hk,hk.2⟩:_∧k_≠gb381))) (fun _ hk=>hk.2) (.slice A0_0 l0_0.length c0_0)) (fun _ hk=>hk.2) (.slice A0_1 l0_1.length c0_1)) (fun _ hk=>hk.2) (.bool (decide (a2≥(t378.length:Int))))) (fun _ hk=>hk.2) (.int .i64 0)) (fun _ hk=>⟨hk.1.1.1,⟨hk.1.1.2.1,⟨hk.1.1.2.2.1,⟨hk.1.1.2.2.2.1,⟨hk.1.1.2.2.2.2.1,⟨hk.1.1.2.2.2.2.2,hk.1.2⟩⟩⟩⟩⟩⟩)))⟩;have n4_:Aside0 (w86.heap[gb365]?=some (.cells #[.slice A0_0 l0_0.length c0_0,.slice A0_1 l0_1.length c0_1] 24 (0,0))):=⟨(by rw[hw];exact(bka BK365))⟩;have n5_:Aside0 (w86.heap[gb366]?=some (.cells #[.int .i64 a1_0,.int .i64 a1_1,.int .i64 a1_2,.slice A1_3 l1_3.length c1_3] 26 (0,0))):=⟨(by rw[hw];exact(bka BK366))⟩;have n6_:Aside0 (w86.heap[gb367]?=some (.cells #[.slice none 0 0,.slice none 0 0,.bool false,.int .i64 0] 34 (0,0))):=⟨(by rw[hw];exact(bka BK367))⟩;have n7_:Aside0 (w86.heap[gb377]?=some (.cells #[.int .i64 t369,.int .i64 t370,.int .i64 t371,.slice Ao23 t372.length co23,.bool false,.bool true] 39 (0,0))):=⟨(by rw[hw];exact(bka BK377))⟩;have n8_:Aside0 (w86.heap[gb381]?=some (.cells #[.slice A0_0 l0_0.length c0_0,.slice A0_1 l0_1.length c0_1,.bool (decide (a2≥(t378.length:Int))),.int .i64 0] 34 (0,0))):=⟨(by rw[hw];exact(by(with_reducible repeat first|apply Qb|apply Qd|apply Qc);refine Qk (cs:=#[.slice A0_0 l0_0.length c0_0,.slice A0_1 l0_1.length c0_1,.bool (decide (a2≥(t378.length:Int))),.int .i64 0]) ?_ 3 _ rfl;(with_reducible repeat first|apply Qb|apply Qd|apply Qc);refine Qk (cs:=#[.slice A0_0 l0_0.length c0_0,.slice A0_1 l0_1.length c0_1,.bool false,.int .i64 0]) ?_ 2 _ rfl;(with_reducible repeat first|apply Qb|apply Qd|apply Qc);refine Qk (cs:=#[.slice A0_0 l0_0.length c0_0,.slice none 0 0,.bool false,.int .i64 0]) ?_ 1 _ rfl;(with_reducible repeat first|apply Qb|apply Qd|apply Qc);refine Qk (cs:=#[.slice none 0 0,.slice none 0 0,.bool false,.int .i64 0]) ?_ 0 _ rfl;(with_reducible repeat first|apply Qb|apply Qd|apply Qc);exact BK381.out))⟩;have n9_:Aside0 (Below w.heap.size w w86):=⟨(by rw[hw];exact bel)⟩;clear hw;clear HO_9;clear HO_366000;clear HO_366001;clear HO_378003;clear BK365;clear BK366;clear BK367;clear BK377;clear BK381;clear HB;have HO_9:=n0_;have HO_366000:=n1_;have HO_366001:=n2_;have HO_378003:=n3_;have BK365:=n4_;have BK366:=n5_;have BK367:=n6_;have BK377:=n7_;have BK381:=n8_;have HB:=n9_;clear n0_ n1_ n2_ n3_ n4_ n5_ n6_ n7_ n8_ n9_;have hnb87:=NB377_366.out;have hnc87:=NB366_377.out;have hnb88:=NB377_367.out;have hnc88:=NB367_377.out;obtain⟨hcz89_0,hcz89_1,hcz89_2,hcz89_3,hcz89_4,hcz89_5,hfz89_0,hfz89_1,hfz89_2,hfz89_3,hfz89_4,hfz89_5⟩:=qD6 BK377.out;have q90:((t378.length:Int):Int)≤((t378.length:Int):Int):=of_decide_eq_true (by assumption);obtain⟨i090,hi090,_,hsz90,_⟩:=info_parts Zx;have hcut90:=Yr (P:=Tryd.prog) 22 5 .i64 Tryd.underlying22 hi090 Ao75 t378.length co75 (t378.length:Int) (of_decide_eq_true (by assumption)) q90 (Kd.Q4 HO_9.out).2.1;have hr90:=Kd.Jj (m:=((t378.length:Int):Int).toNat) HO_9.out (by omega);have hy90:y385.length=((t378.length:Int):Int).toNat:=(by rw[Ny385.out,List.length_take];omega);rw[← Ny385.out] at hr90;rw[← hy90] at hr90 hcut90;clear hy90 hi090 hsz90 HO_9;have HO387:=Aside0.mk hr90;clear hr90;replace q90:=eq_true q90;obtain⟨hcz91_0,hcz91_1,hcz91_2,hcz91_3,hfz91_0,hfz91_1,hfz91_2,hfz91_3⟩:=qD4 BK381.out;have hnb92:=NB367_366.out;have hnc92:=NB366_367.out;obtain⟨hcz93_0,hcz93_1,hcz93_2,hcz93_3,hfz93_0,hfz93_1,hfz93_2,hfz93_3⟩:=qD4 BK367.out))
            refine bodyPost_ret (results_cell_row rfl _ _ gb367 34 #[.slice A0_0 l0_0.length c0_0,.slice Ao75 y385.length co75,.bool (decide (a2≥(t378.length:Int))),.int .i64 0] (0,0) _ rfl (by(with_reducible repeat first|apply Qb|apply Qd|apply Qc);refine Qk (cs:=#[.slice A0_0 l0_0.length c0_0,.slice Ao75 y385.length co75,.bool (decide (a2≥(t378.length:Int))),.int .i64 0]) ?_ 3 _ rfl;(with_reducible repeat first|apply Qb|apply Qd|apply Qc);refine Qk (cs:=#[.slice A0_0 l0_0.length c0_0,.slice Ao75 y385.length co75,.bool false,.int .i64 0]) ?_ 2 _ rfl;(with_reducible repeat first|apply Qb|apply Qd|apply Qc);refine Qk (cs:=#[.slice A0_0 l0_0.length c0_0,.slice none 0 0,.bool false,.int .i64 0]) ?_ 1 _ rfl;(with_reducible repeat first|apply Qb|apply Qd|apply Qc);refine Qk (cs:=#[.slice none 0 0,.slice none 0 0,.bool false,.int .i64 0]) ?_ 0 _ rfl;(with_reducible repeat first|apply Qb|apply Qd|apply Qc);refine Qs ?_ NB367_381.out _;(with_reducible repeat first|apply Qb|apply Qd|apply Qc);exact BK367.out) Tryd.underlying34 rfl kr) rfl ?_
            exact⟨_,_,by first|rfl|(simp[Qo,Qn] <;> rfl)|(simp[*,Qo,Qn] <;> rfl),by(with_reducible repeat first|apply Kd.Qx|apply Kd.Qw|apply Kd.Q0);exact Kd.Qt (Kd.Qq (p:=⟨gb367,3,none⟩) (Kd.Qq (p:=⟨gb367,2,none⟩) (Kd.Qq (p:=⟨gb367,1,none⟩) (Kd.Qq (p:=⟨gb367,0,none⟩) (Kd.Qq (p:=⟨gb381,1,none⟩) (Kd.Qt (Kd.Qt HO_366000.out (fun k_ hk=>(⟨hk,hk.2.2.2.2.2.2⟩:_∧k_≠gb381))) (fun k_ hk=>(⟨hk,hk.1.2.2.2.2.1⟩:_∧k_≠gb367))) (fun _ hk=>hk.1.2) _) (fun _ hk=>hk.2) (.slice A0_0 l0_0.length c0_0)) (fun _ hk=>hk.2) _) (fun _ hk=>hk.2) (.bool (decide (a2≥(t378.length:Int))))) (fun _ hk=>hk.2) (.int .i64 0)) (fun _ hk=>hk.1.1.1),Kd.Qt (Kd.R_V (by(with_reducible repeat first|apply Kd.Qi|apply Kd.Qh|apply Kd.Ql);exact Kd.Qu (Kd.Qm (Kd.Qm (Kd.Qm (Kd.Qm (Kd.Qm (Kd.Qy (Kd.Qy HO387.out BK381.out (by decide)) BK367.out (by decide)) (fun _ hk=>hk.1.2) _) (fun _ hk=>hk.2) (.slice A0_0 l0_0.length c0_0)) (fun _ hk=>hk.2) _) (fun _ hk=>hk.2) (.bool (decide (a2≥(t378.length:Int))))) (fun _ hk=>hk.2) (.int .i64 0)) (fun _ hk=>hk.1.1))) (fun k_ hk=>by first|exact⟨(.inr (hk.1)),hk.2⟩|exact(.inr (hk))),bel⟩
           ·rw[if_neg c74] at H
            exact absurd H (by simp)
          ·rw[if_neg c73] at H
           exact absurd H (by simp)
        ·replace c50:=Bool.eq_false_iff.mpr c50
         subst c50
         have H1:(if 0≤(t378.length:Int) then (if (t378.length:Int)≤(t378.length:Int) then (some ((t378.take ((t378.length:Int):Int).toNat),l0_1,decide (a2≥(t378.length:Int)),0)) else (none)) else (none))=some (r1,r2,r3,r4):=by rw[if_neg (show ¬ (false=true) by decide)] at H;exact H
         clear H
         have H:=H1
         clear H1
         by_cases c94:0≤(t378.length:Int)
         ·rw[if_pos c94] at H
          have c94b0:=eq_true c94
          have c94b1:decide (0≤(t378.length:Int))=true:=decide_eq_true c94
          clear c94
          by_cases c95:(t378.length:Int)≤(t378.length:Int)
          ·rw[if_pos c95] at H
           have c95b0:=eq_true c95
           have c95b1:decide ((t378.length:Int)≤(t378.length:Int))=true:=decide_eq_true c95
           clear c95
           obtain⟨y388,hy388⟩:∃ y_:List Int,y_=(t378.take ((t378.length:Int):Int).toNat):=⟨_,rfl⟩
           replace H:(some (y388,l0_1,decide (a2≥(t378.length:Int)),0))=some (r1,r2,r3,r4):=by first|(rw[hy388];with_reducible exact H)|(have H2_:=(Option.bind_some _ _).symm.trans H;rw[hy388];with_reducible exact H2_)|(have H2_:=(Option.bind_some _ _).symm.trans H;with_reducible exact H2_)|with_reducible exact H|(rw[hy388];exact H)|exact H
           have Ny388:=Aside0.mk hy388
           clear hy388
           simp only[Option.some.injEq,Prod.mk.injEq] at H
           obtain⟨rfl,rfl,rfl,rfl⟩:=H
           obtain⟨Ao96,co96,eo96⟩:=Kd.Zf HO_9.out
           subst eo96
           have hnb97:=NB365_366.out
           have hnc97:=NB366_365.out
           have hnb98:=NB365_367.out
           have hnc98:=NB367_365.out
           have hnb99:=NB365_377.out
           have hnc99:=NB377_365.out
           obtain⟨hcz100_0,hcz100_1,hfz100_0,hfz100_1⟩:=qD2 BK365.out
           go_wp2_with (first|((with_reducible refine Qz (N:=11) rfl ?_);refine qE 11 #[.slice none 0 0,.slice none 0 0,.bool false,.int .i64 0] 34 ?_;intro gb381 hg w101 hbox hb;have BK381:=Aside0.mk hbox;have GW381:=sGe hg;have GE381:=sGe hg;have NB365_381:=sNl BK365 hg;have NB381_365:=sNg BK365 hg;have NB366_381:=sNl BK366 hg;have NB381_366:=sNg BK366 hg;have NB367_381:=sNl BK367 hg;have NB381_367:=sNg BK367 hg;have NB377_381:=sNl BK377 hg;have NB381_377:=sNg BK377 hg;replace HO_9:=sRb HO_9 hb;replace HO_366000:=Aside0.mk (Kd.Q2 (Kd.Q9 (by(with_reducible repeat first|apply Kd.Qx|apply Kd.Qw|apply Kd.Q0);exact HO_366000.out) gb381 (Nat.le_of_eq hg.symm)) hb);replace HO_366001:=Aside0.mk (Kd.Q2 (Kd.Q9 (by(with_reducible repeat first|apply Kd.Qx|apply Kd.Qw|apply Kd.Q0);exact HO_366001.out) gb381 (Nat.le_of_eq hg.symm)) hb);replace HO_378003:=Aside0.mk (Kd.Q2 (Kd.Q9 (by(with_reducible repeat first|apply Kd.Qx|apply Kd.Qw|apply Kd.Q0);exact HO_378003.out) gb381 (Nat.le_of_eq hg.symm)) hb);replace BK365:=sBk BK365 hb;replace BK366:=sBk BK366 hb;replace BK367:=sBk BK367 hb;replace BK377:=sBk BK377 hb;replace HB:=sHb hb;clear hb hbox hg;have hnb102:=NB381_365.out;have hnc102:=NB365_381.out;have hnb103:=NB381_366.out;have hnc103:=NB366_381.out;have hnb104:=NB381_367.out;have hnc104:=NB367_381.out;have hnb105:=NB381_377.out;have hnc105:=NB377_381.out;obtain⟨hcz106_0,hcz106_1,hcz106_2,hcz106_3,hfz106_0,hfz106_1,hfz106_2,hfz106_3⟩:=qD4 BK381.out)|((with_reducible refine Xq (t:=34) (p:=11) rfl ?_);refine Xd (t:=34) (p:=11) (v:=?vo_w107) (w1:=((((w101.setCell ⟨gb381,0,none⟩ (.slice A0_0 l0_0.length c0_0)).setCell ⟨gb381,1,none⟩ (.slice A0_1 l0_1.length c0_1)).setCell ⟨gb381,2,none⟩ (.bool (decide (a2≥(t378.length:Int))))).setCell ⟨gb381,3,none⟩ (.int .i64 0))) ?hg ?ho ?hn ?hr ?_;(case ho=>rfl);(case hg=>rfl);(case hn=>rfl);(case hr=>go_simp <;> rfl);intro w107 hw;have n0_:Aside0 (Kd.R (Kd.int .u8) 5 w107 w.heap.size (fun k_=>(w.heap.size≤k_)) (.slice Ao96 t378.length co96) t378):=⟨(by rw[hw];exact(by(with_reducible repeat first|apply Kd.Qi|apply Kd.Qh|apply Kd.Ql);exact Kd.Qu (Kd.Qm (Kd.Qm (Kd.Qm (Kd.Qm (Kd.Qy HO_9.out BK381.out (by decide)) (fun _ hk=>hk.2) (.slice A0_0 l0_0.length c0_0)) (fun _ hk=>hk.2) (.slice A0_1 l0_1.length c0_1)) (fun _ hk=>hk.2) (.bool (decide (a2≥(t378.length:Int))))) (fun _ hk=>hk.2) (.int .i64 0)) (fun _ hk=>hk.1)))⟩;have n1_:Aside0 (Kd.V (Kd.int .u8) 5 w107 w.heap.size (fun k_=>((P0_0_ k_∨P0_1_ k_)∨w.heap.size≤k_)∧some k_≠(.slice Ao96 t378.length co96:Value).ownBlock∧k_≠gb365∧k_≠gb366∧k_≠gb367∧k_≠gb377∧k_≠gb381) (.slice A0_0 l0_0.length c0_0) l0_0):=⟨(by rw[hw];exact(by(with_reducible repeat first|apply Kd.Qx|apply Kd.Qw|apply Kd.Q0);exact Kd.Qt (Kd.Qq (p:=⟨gb381,3,none⟩) (Kd.Qq (p:=⟨gb381,2,none⟩) (Kd.Qq (p:=⟨gb381,1,none⟩) (Kd.Qq (p:=⟨gb381,0,none⟩) (Kd.Qt HO_366000.out (fun k_ hk=>(⟨hk,hk.2⟩:_∧k_≠gb381))) (fun _ hk=>hk.2) (.slice A0_0 l0_0.length c0_0)) (fun _ hk=>hk.2) (.slice A0_1 l0_1.length c0_1)) (fun _ hk=>hk.2) (.bool (decide (a2≥(t378.length:Int))))) (fun _ hk=>hk.2) (.int .i64 0)) (fun _ hk=>⟨hk.1.1.1,⟨hk.1.1.2.1,⟨hk.1.1.2.2.1,⟨hk.1.1.2.2.2.1,⟨hk.1.1.2.2.2.2.1,⟨hk.1.1.2.2.2.2.2,hk.1.2⟩⟩⟩⟩⟩⟩)))⟩;have n2_:Aside0 (Kd.V (Kd.int .u8) 5 w107 w.heap.size (fun k_=>((P0_0_ k_∨P0_1_ k_)∨w.heap.size≤k_)∧some k_≠(.slice Ao96 t378.length co96:Value).ownBlock∧k_≠gb365∧k_≠gb366∧k_≠gb367∧k_≠gb377∧k_≠gb381) (.slice A0_1 l0_1.length c0_1) l0_1):=⟨(by rw[hw];exact(by(with_reducible repeat first|apply Kd.Qx|apply Kd.Qw|apply Kd.Q0);exact Kd.Qt (Kd.Qq (p:=⟨gb381,3,none⟩) (Kd.Qq (p:=⟨gb381,2,none⟩) (Kd.Qq (p:=⟨gb381,1,none⟩) (Kd.Qq (p:=⟨gb381,0,none⟩) (Kd.Qt HO_366001.out (fun k_ hk=>(⟨hk,hk.2⟩:_∧k_≠gb381))) (fun _ hk=>hk.2) (.slice A0_0 l0_0.length c0_0)) (fun _ hk=>hk.2) (.slice A0_1 l0_1.length c0_1)) (fun _ hk=>hk.2) (.bool (decide (a2≥(t378.length:Int))))) (fun _ hk=>hk.2) (.int .i64 0)) (fun _ hk=>⟨hk.1.1.1,⟨hk.1.1.2.1,⟨hk.1.1.2.2.1,⟨hk.1.1.2.2.2.1,⟨hk.1.1.2.2.2.2.1,⟨hk.1.1.2.2.2.2.2,hk.1.2⟩⟩⟩⟩⟩⟩)))⟩;have n3_:Aside0 (Kd.V (Kd.int .u8) 5 w107 w.heap.size (fun k_=>((P0_0_ k_∨P0_1_ k_)∨w.heap.size≤k_)∧some k_≠(.slice Ao96 t378.length co96:Value).ownBlock∧k_≠gb365∧k_≠gb366∧k_≠gb367∧k_≠gb377∧k_≠gb381) (.slice Ao23 t372.length co23) t372):=⟨(by rw[hw];exact(by(with_reducible repeat first|apply Kd.Qx|apply Kd.Qw|apply Kd.Q0);exact Kd.Qt (Kd.Qq (p:=⟨gb381,3,none⟩) (Kd.Qq (p:=⟨gb381,2,none⟩) (Kd.Qq (p:=⟨gb381,1,none⟩) (Kd.Qq (p:=⟨gb381,0,none⟩) (Kd.Qt HO_378003.out (fun k_ hk=>(⟨hk,hk.2⟩:_∧k_≠gb381))) (fun _ hk=>hk.2) (.slice A0_0 l0_0.length c0_0)) (fun _ hk=>hk.2) (.slice A0_1 l0_1.length c0_1)) (fun _ hk=>hk.2) (.bool (decide (a2≥(t378.length:Int))))) (fun _ hk=>hk.2) (.int .i64 0)) (fun _ hk=>⟨hk.1.1.1,⟨hk.1.1.2.1,⟨hk.1.1.2.2.1,⟨hk.1.1.2.2.2.1,⟨hk.1.1.2.2.2.2.1,⟨hk.1.1.2.2.2.2.2,hk.1.2⟩⟩⟩⟩⟩⟩)))⟩;have n4_:Aside0 (w107.heap[gb365]?=some (.cells #[.slice A0_0 l0_0.length c0_0,.slice A0_1 l0_1.length c0_1] 24 (0,0))):=⟨(by rw[hw];exact(bka BK365))⟩;have n5_:Aside0 (w107.heap[gb366]?=some (.cells #[.int .i64 a1_0,.int .i64 a1_1,.int .i64 a1_2,.slice A1_3 l1_3.length c1_3] 26 (0,0))):=⟨(by rw[hw];exact(bka BK366))⟩;have n6_:Aside0 (w107.heap[gb367]?=some (.cells #[.slice none 0 0,.slice none 0 0,.bool false,.int .i64 0] 34 (0,0))):=⟨(by rw[hw];exact(bka BK367))⟩;have n7_:Aside0 (w107.heap[gb377]?=some (.cells #[.int .i64 t369,.int .i64 t370,.int .i64 t371,.slice Ao23 t372.length co23,.bool t375,.bool false] 39 (0,0))):=⟨(by rw[hw];exact(bka BK377))⟩;have n8_:Aside0 (w107.heap[gb381]?=some (.cells #[.slice A0_0 l0_0.length c0_0,.slice A0_1 l0_1.length c0_1,.bool (decide (a2≥(t378.length:Int))),.int .i64 0] 34 (0,0))):=⟨(by rw[hw];exact(by(with_reducible repeat first|apply Qb|apply Qd|apply Qc);refine Qk (cs:=#[.slice A0_0 l0_0.length c0_0,.slice A0_1 l0_1.length c0_1,.bool (decide (a2≥(t378.length:Int))),.int .i64 0]) ?_ 3 _ rfl;(with_reducible repeat first|apply Qb|apply Qd|apply Qc);refine Qk (cs:=#[.slice A0_0 l0_0.length c0_0,.slice A0_1 l0_1.length c0_1,.bool false,.int .i64 0]) ?_ 2 _ rfl;(with_reducible repeat first|apply Qb|apply Qd|apply Qc);refine Qk (cs:=#[.slice A0_0 l0_0.length c0_0,.slice none 0 0,.bool false,.int .i64 0]) ?_ 1 _ rfl;(with_reducible repeat first|apply Qb|apply Qd|apply Qc);refine Qk (cs:=#[.slice none 0 0,.slice none 0 0,.bool false,.int .i64 0]) ?_ 0 _ rfl;(with_reducible repeat first|apply Qb|apply Qd|apply Qc);exact BK381.out))⟩;have n9_:Aside0 (Below w.heap.size w w107):=⟨(by rw[hw];exact bel)⟩;clear hw;clear HO_9;clear HO_366000;clear HO_366001;clear HO_378003;clear BK365;clear BK366;clear BK367;clear BK377;clear BK381;clear HB;have HO_9:=n0_;have HO_366000:=n1_;have HO_366001:=n2_;have HO_378003:=n3_;have BK365:=n4_;have BK366:=n5_;have BK367:=n6_;have BK377:=n7_;have BK381:=n8_;have HB:=n9_;clear n0_ n1_ n2_ n3_ n4_ n5_ n6_ n7_ n8_ n9_;have hnb108:=NB377_366.out;have hnc108:=NB366_377.out;have hnb109:=NB377_367.out;have hnc109:=NB367_377.out;obtain⟨hcz110_0,hcz110_1,hcz110_2,hcz110_3,hcz110_4,hcz110_5,hfz110_0,hfz110_1,hfz110_2,hfz110_3,hfz110_4,hfz110_5⟩:=qD6 BK377.out;have q111:((t378.length:Int):Int)≤((t378.length:Int):Int):=of_decide_eq_true (by assumption);obtain⟨i0111,hi0111,_,hsz111,_⟩:=info_parts Zx;have hcut111:=Yr (P:=Tryd.prog) 22 5 .i64 Tryd.underlying22 hi0111 Ao96 t378.length co96 (t378.length:Int) (of_decide_eq_true (by assumption)) q111 (Kd.Q4 HO_9.out).2.1;have hr111:=Kd.Jj (m:=((t378.length:Int):Int).toNat) HO_9.out (by omega);have hy111:y388.length=((t378.length:Int):Int).toNat:=(by rw[Ny388.out,List.length_take];omega);rw[← Ny388.out] at hr111;rw[← hy111] at hr111 hcut111;clear hy111 hi0111 hsz111 HO_9;have HO390:=Aside0.mk hr111;clear hr111;replace q111:=eq_true q111;obtain⟨hcz112_0,hcz112_1,hcz112_2,hcz112_3,hfz112_0,hfz112_1,hfz112_2,hfz112_3⟩:=qD4 BK381.out;have hnb113:=NB367_366.out;have hnc113:=NB366_367.out;obtain⟨hcz114_0,hcz114_1,hcz114_2,hcz114_3,hfz114_0,hfz114_1,hfz114_2,hfz114_3⟩:=qD4 BK367.out))
           refine bodyPost_ret (results_cell_row rfl _ _ gb367 34 #[.slice Ao96 y388.length co96,.slice A0_1 l0_1.length c0_1,.bool (decide (a2≥(t378.length:Int))),.int .i64 0] (0,0) _ rfl (by(with_reducible repeat first|apply Qb|apply Qd|apply Qc);refine Qk (cs:=#[.slice Ao96 y388.length co96,.slice A0_1 l0_1.length c0_1,.bool (decide (a2≥(t378.length:Int))),.int .i64 0]) ?_ 3 _ rfl;(with_reducible repeat first|apply Qb|apply Qd|apply Qc);refine Qk (cs:=#[.slice Ao96 y388.length co96,.slice A0_1 l0_1.length c0_1,.bool false,.int .i64 0]) ?_ 2 _ rfl;(with_reducible repeat first|apply Qb|apply Qd|apply Qc);refine Qk (cs:=#[.slice Ao96 y388.length co96,.slice none 0 0,.bool false,.int .i64 0]) ?_ 1 _ rfl;(with_reducible repeat first|apply Qb|apply Qd|apply Qc);refine Qk (cs:=#[.slice none 0 0,.slice none 0 0,.bool false,.int .i64 0]) ?_ 0 _ rfl;(with_reducible repeat first|apply Qb|apply Qd|apply Qc);refine Qs ?_ NB367_381.out _;(with_reducible repeat first|apply Qb|apply Qd|apply Qc);exact BK367.out) Tryd.underlying34 rfl kr) rfl ?_
           exact⟨_,_,by first|rfl|(simp[Qo,Qn] <;> rfl)|(simp[*,Qo,Qn] <;> rfl),Kd.Qt (Kd.R_V (by(with_reducible repeat first|apply Kd.Qi|apply Kd.Qh|apply Kd.Ql);exact Kd.Qu (Kd.Qm (Kd.Qm (Kd.Qm (Kd.Qm (Kd.Qm (Kd.Qy (Kd.Qy HO390.out BK381.out (by decide)) BK367.out (by decide)) (fun _ hk=>hk.1.2) _) (fun _ hk=>hk.2) _) (fun _ hk=>hk.2) (.slice A0_1 l0_1.length c0_1)) (fun _ hk=>hk.2) (.bool (decide (a2≥(t378.length:Int))))) (fun _ hk=>hk.2) (.int .i64 0)) (fun _ hk=>hk.1.1))) (fun k_ hk=>by first|exact⟨(.inr (hk.1)),hk.2⟩|exact(.inr (hk))),by(with_reducible repeat first|apply Kd.Qx|apply Kd.Qw|apply Kd.Q0);exact Kd.Qt (Kd.Qq (p:=⟨gb367,3,none⟩) (Kd.Qq (p:=⟨gb367,2,none⟩) (Kd.Qq (p:=⟨gb367,1,none⟩) (Kd.Qq (p:=⟨gb367,0,none⟩) (Kd.Qq (p:=⟨gb381,0,none⟩) (Kd.Qt (Kd.Qt HO_366001.out (fun k_ hk=>(⟨hk,hk.2.2.2.2.2.2⟩:_∧k_≠gb381))) (fun k_ hk=>(⟨hk,hk.1.2.2.2.2.1⟩:_∧k_≠gb367))) (fun _ hk=>hk.1.2) _) (fun _ hk=>hk.2) _) (fun _ hk=>hk.2) (.slice A0_1 l0_1.length c0_1)) (fun _ hk=>hk.2) (.bool (decide (a2≥(t378.length:Int))))) (fun _ hk=>hk.2) (.int .i64 0)) (fun _ hk=>hk.1.1.1),bel⟩
          ·rw[if_neg c95] at H
           exact absurd H (by simp)
         ·rw[if_neg c94] at H
          exact absurd H (by simp)
       ·rw[if_neg c49] at H
        have c49b0:decide ((t378.length:Int)<x10_41)=false:=decide_eq_false c49
        clear c49
        by_cases c115:t376=true
        ·subst c115
         have H1:(if t375=true then (if 0≤x10_41 then (if x10_41≤(t378.length:Int) then (some ((t378.take (x10_41:Int).toNat),l0_1,decide (a2≥(t378.length:Int)),0)) else (none)) else (none)) else (if 0≤x10_41 then (if x10_41≤(t378.length:Int) then (some (l0_0,(t378.take (x10_41:Int).toNat),decide (a2≥(t378.length:Int)),0)) else (none)) else (none)))=some (r1,r2,r3,r4):=by rw[if_pos rfl] at H;exact H
         clear H
         have H:=H1
         clear H1
         by_cases c116:t375=true
         ·subst c116
          have H1:(if 0≤x10_41 then (if x10_41≤(t378.length:Int) then (some ((t378.take (x10_41:Int).toNat),l0_1,decide (a2≥(t378.length:Int)),0)) else (none)) else (none))=some (r1,r2,r3,r4):=by rw[if_pos rfl] at H;exact H
          clear H
          have H:=H1
          clear H1
          by_cases c117:0≤x10_41
          ·rw[if_pos c117] at H
           have c117b0:=eq_true c117
           have c117b1:decide (0≤x10_41)=true:=decide_eq_true c117
           clear c117
           by_cases c118:x10_41≤(t378.length:Int)
           ·rw[if_pos c118] at H
            have c118b0:=eq_true c118
            have c118b1:decide (x10_41≤(t378.length:Int))=true:=decide_eq_true c118
            clear c118
            obtain⟨y392,hy392⟩:∃ y_:List Int,y_=(t378.take (x10_41:Int).toNat):=⟨_,rfl⟩
            replace H:(some (y392,l0_1,decide (a2≥(t378.length:Int)),0))=some (r1,r2,r3,r4):=by first|(rw[hy392];with_reducible exact H)|(have H2_:=(Option.bind_some _ _).symm.trans H;rw[hy392];with_reducible exact H2_)|(have H2_:=(Option.bind_some _ _).symm.trans H;with_reducible exact H2_)|with_reducible exact H|(rw[hy392];exact H)|exact H
            have Ny392:=Aside0.mk hy392
            clear hy392
            simp only[Option.some.injEq,Prod.mk.injEq] at H
            obtain⟨rfl,rfl,rfl,rfl⟩:=H
            obtain⟨Ao119,co119,eo119⟩:=Kd.Zf HO_9.out
            subst eo119
            have hnb120:=NB365_366.out
            have hnc120:=NB366_365.out
            have hnb121:=NB365_367.out
            have hnc121:=NB367_365.out
            have hnb122:=NB365_377.out
            have hnc122:=NB377_365.out
            obtain⟨hcz123_0,hcz123_1,hfz123_0,hfz123_1⟩:=qD2 BK365.out
            go_wp2_with (first|((with_reducible refine Qz (N:=11) rfl ?_);refine qE 11 #[.slice none 0 0,.slice none 0 0,.bool false,.int .i64 0] 34 ?_;intro gb391 hg w124 hbox hb;have BK391:=Aside0.mk hbox;have GW391:=sGe hg;have GE391:=sGe hg;have NB365_391:=sNl BK365 hg;have NB391_365:=sNg BK365 hg;have NB366_391:=sNl BK366 hg;have NB391_366:=sNg BK366 hg;have NB367_391:=sNl BK367 hg;have NB391_367:=sNg BK367 hg;have NB377_391:=sNl BK377 hg;have NB391_377:=sNg BK377 hg;replace HO_9:=sRb HO_9 hb;replace HO_366000:=Aside0.mk (Kd.Q2 (Kd.Q9 (by(with_reducible repeat first|apply Kd.Qx|apply Kd.Qw|apply Kd.Q0);exact HO_366000.out) gb391 (Nat.le_of_eq hg.symm)) hb);replace HO_366001:=Aside0.mk (Kd.Q2 (Kd.Q9 (by(with_reducible repeat first|apply Kd.Qx|apply Kd.Qw|apply Kd.Q0);exact HO_366001.out) gb391 (Nat.le_of_eq hg.symm)) hb);replace HO_378003:=Aside0.mk (Kd.Q2 (Kd.Q9 (by(with_reducible repeat first|apply Kd.Qx|apply Kd.Qw|apply Kd.Q0);exact HO_378003.out) gb391 (Nat.le_of_eq hg.symm)) hb);replace BK365:=sBk BK365 hb;replace BK366:=sBk BK366 hb;replace BK367:=sBk BK367 hb;replace BK377:=sBk BK377 hb;replace HB:=sHb hb;clear hb hbox hg;have hnb125:=NB391_365.out;have hnc125:=NB365_391.out;have hnb126:=NB391_366.out;have hnc126:=NB366_391.out;have hnb127:=NB391_367.out;have hnc127:=NB367_391.out;have hnb128:=NB391_377.out;have hnc128:=NB377_391.out;obtain⟨hcz129_0,hcz129_1,hcz129_2,hcz129_3,hfz129_0,hfz129_1,hfz129_2,hfz129_3⟩:=qD4 BK391.out)|((with_reducible refine Xq (t:=34) (p:=11) rfl ?_);refine Xd (t:=34) (p:=11) (v:=?vo_w130) (w1:=((((w124.setCell ⟨gb391,0,none⟩ (.slice A0_0 l0_0.length c0_0)).setCell ⟨gb391,1,none⟩ (.slice A0_1 l0_1.length c0_1)).setCell ⟨gb391,2,none⟩ (.bool (decide (a2≥(t378.length:Int))))).setCell ⟨gb391,3,none⟩ (.int .i64 0))) ?hg ?ho ?hn ?hr ?_;(case ho=>rfl);(case hg=>rfl);(case hn=>rfl);(case hr=>go_simp <;> rfl);intro w130 hw;have n0_:Aside0 (Kd.R (Kd.int .u8) 5 w130 w.heap.size (fun k_=>(w.heap.size≤k_)) (.slice Ao119 t378.length co119) t378):=⟨(by rw[hw];exact(by(with_reducible repeat first|apply Kd.Qi|apply Kd.Qh|apply Kd.Ql);exact Kd.Qu (Kd.Qm (Kd.Qm (Kd.Qm (Kd.Qm (Kd.Qy HO_9.out BK391.out (by decide)) (fun _ hk=>hk.2) (.slice A0_0 l0_0.length c0_0)) (fun _ hk=>hk.2) (.slice A0_1 l0_1.length c0_1)) (fun _ hk=>hk.2) (.bool (decide (a2≥(t378.length:Int))))) (fun _ hk=>hk.2) (.int .i64 0)) (fun _ hk=>hk.1)))⟩;have n1_:Aside0 (Kd.V (Kd.int .u8) 5 w130 w.heap.size (fun k_=>((P0_0_ k_∨P0_1_ k_)∨w.heap.size≤k_)∧some k_≠(.slice Ao119 t378.length co119:Value).ownBlock∧k_≠gb365∧k_≠gb366∧k_≠gb367∧k_≠gb377∧k_≠gb391) (.slice A0_0 l0_0.length c0_0) l0_0):=⟨(by rw[hw];exact(by(with_reducible repeat first|apply Kd.Qx|apply Kd.Qw|apply Kd.Q0);exact Kd.Qt (Kd.Qq (p:=⟨gb391,3,none⟩) (Kd.Qq (p:=⟨gb391,2,none⟩) (Kd.Qq (p:=⟨gb391,1,none⟩) (Kd.Qq (p:=⟨gb391,0,none⟩) (Kd.Qt HO_366000.out (fun k_ hk=>(⟨hk,hk.2⟩:_∧k_≠gb391))) (fun _ hk=>hk.2) (.slice A0_0 l0_0.length c0_0)) (fun _ hk=>hk.2) (.slice A0_1 l0_1.length c0_1)) (fun _ hk=>hk.2) (.bool (decide (a2≥(t378.length:Int))))) (fun _ hk=>hk.2) (.int .i64 0)) (fun _ hk=>⟨hk.1.1.1,⟨hk.1.1.2.1,⟨hk.1.1.2.2.1,⟨hk.1.1.2.2.2.1,⟨hk.1.1.2.2.2.2.1,⟨hk.1.1.2.2.2.2.2,hk.1.2⟩⟩⟩⟩⟩⟩)))⟩;have n2_:Aside0 (Kd.V (Kd.int .u8) 5 w130 w.heap.size (fun k_=>((P0_0_ k_∨P0_1_ k_)∨w.heap.size≤k_)∧some k_≠(.slice Ao119 t378.length co119:Value).ownBlock∧k_≠gb365∧k_≠gb366∧k_≠gb367∧k_≠gb377∧k_≠gb391) (.slice A0_1 l0_1.length c0_1) l0_1):=⟨(by rw[hw];exact(by(with_reducible repeat first|apply Kd.Qx|apply Kd.Qw|apply Kd.Q0);exact Kd.Qt (Kd.Qq (p:=⟨gb391,3,none⟩) (Kd.Qq (p:=⟨gb391,2,none⟩) (Kd.Qq (p:=⟨gb391,1,none⟩) (Kd.Qq (p:=⟨gb391,0,none⟩) (Kd.Qt HO_366001.out (fun k_ hk=>(⟨hk,hk.2⟩:_∧k_≠gb391))) (fun _ hk=>hk.2) (.slice A0_0 l0_0.length c0_0)) (fun _ hk=>hk.2) (.slice A0_1 l0_1.length c0_1)) (fun _ hk=>hk.2) (.bool (decide (a2≥(t378.length:Int))))) (fun _ hk=>hk.2) (.int .i64 0)) (fun _ hk=>⟨hk.1.1.1,⟨hk.1.1.2.1,⟨hk.1.1.2.2.1,⟨hk.1.1.2.2.2.1,⟨hk.1.1.2.2.2.2.1,⟨hk.1.1.2.2.2.2.2,hk.1.2⟩⟩⟩⟩⟩⟩)))⟩;have n3_:Aside0 (Kd.V (Kd.int .u8) 5 w130 w.heap.size (fun k_=>((P0_0_ k_∨P0_1_ k_)∨w.heap.size≤k_)∧some k_≠(.slice Ao119 t378.length co119:Value).ownBlock∧k_≠gb365∧k_≠gb366∧k_≠gb367∧k_≠gb377∧k_≠gb391) (.slice Ao23 t372.length co23) t372):=⟨(by rw[hw];exact(by(with_reducible repeat first|apply Kd.Qx|apply Kd.Qw|apply Kd.Q0);exact Kd.Qt (Kd.Qq (p:=⟨gb391,3,none⟩) (Kd.Qq (p:=⟨gb391,2,none⟩) (Kd.Qq (p:=⟨gb391,1,none⟩) (Kd.Qq (p:=⟨gb391,0,none⟩) (Kd.Qt HO_378003.out (fun k_ hk=>(⟨hk,hk.2⟩:_∧k_≠gb391))) (fun _ hk=>hk.2) (.slice A0_0 l0_0.length c0_0)) (fun _ hk=>hk.2) (.slice A0_1 l0_1.length c0_1)) (fun _ hk=>hk.2) (.bool (decide (a2≥(t378.length:Int))))) (fun _ hk=>hk.2) (.int .i64 0)) (fun _ hk=>⟨hk.1.1.1,⟨hk.1.1.2.1,⟨hk.1.1.2.2.1,⟨hk.1.1.2.2.2.1,⟨hk.1.1.2.2.2.2.1,⟨hk.1.1.2.2.2.2.2,hk.1.2⟩⟩⟩⟩⟩⟩)))⟩;have n4_:Aside0 (w130.heap[gb365]?=some (.cells #[.slice A0_0 l0_0.length c0_0,.slice A0_1 l0_1.length c0_1] 24 (0,0))):=⟨(by rw[hw];exact(bka BK365))⟩;have n5_:Aside0 (w130.heap[gb366]?=some (.cells #[.int .i64 a1_0,.int .i64 a1_1,.int .i64 a1_2,.slice A1_3 l1_3.length c1_3] 26 (0,0))):=⟨(by rw[hw];exact(bka BK366))⟩;have n6_:Aside0 (w130.heap[gb367]?=some (.cells #[.slice none 0 0,.slice none 0 0,.bool false,.int .i64 0] 34 (0,0))):=⟨(by rw[hw];exact(bka BK367))⟩;have n7_:Aside0 (w130.heap[gb377]?=some (.cells #[.int .i64 t369,.int .i64 t370,.int .i64 t371,.slice Ao23 t372.length co23,.bool true,.bool true] 39 (0,0))):=⟨(by rw[hw];exact(bka BK377))⟩;have n8_:Aside0 (w130.heap[gb391]?=some (.cells #[.slice A0_0 l0_0.length c0_0,.slice A0_1 l0_1.length c0_1,.bool (decide (a2≥(t378.length:Int))),.int .i64 0] 34 (0,0))):=⟨(by rw[hw];exact(by(with_reducible repeat first|apply Qb|apply Qd|apply Qc);refine Qk (cs:=#[.slice A0_0 l0_0.length c0_0,.slice A0_1 l0_1.length c0_1,.bool (decide (a2≥(t378.length:Int))),.int .i64 0]) ?_ 3 _ rfl;(with_reducible repeat first|apply Qb|apply Qd|apply Qc);refine Qk (cs:=#[.slice A0_0 l0_0.length c0_0,.slice A0_1 l0_1.length c0_1,.bool false,.int .i64 0]) ?_ 2 _ rfl;(with_reducible repeat first|apply Qb|apply Qd|apply Qc);refine Qk (cs:=#[.slice A0_0 l0_0.length c0_0,.slice none 0 0,.bool false,.int .i64 0]) ?_ 1 _ rfl;(with_reducible repeat first|apply Qb|apply Qd|apply Qc);refine Qk (cs:=#[.slice none 0 0,.slice none 0 0,.bool false,.int .i64 0]) ?_ 0 _ rfl;(with_reducible repeat first|apply Qb|apply Qd|apply Qc);exact BK391.out))⟩;have n9_:Aside0 (Below w.heap.size w w130):=⟨(by rw[hw];exact bel)⟩;clear hw;clear HO_9;clear HO_366000;clear HO_366001;clear HO_378003;clear BK365;clear BK366;clear BK367;clear BK377;clear BK391;clear HB;have HO_9:=n0_;have HO_366000:=n1_;have HO_366001:=n2_;have HO_378003:=n3_;have BK365:=n4_;have BK366:=n5_;have BK367:=n6_;have BK377:=n7_;have BK391:=n8_;have HB:=n9_;clear n0_ n1_ n2_ n3_ n4_ n5_ n6_ n7_ n8_ n9_;have hnb131:=NB377_366.out;have hnc131:=NB366_377.out;have hnb132:=NB377_367.out;have hnc132:=NB367_377.out;obtain⟨hcz133_0,hcz133_1,hcz133_2,hcz133_3,hcz133_4,hcz133_5,hfz133_0,hfz133_1,hfz133_2,hfz133_3,hfz133_4,hfz133_5⟩:=qD6 BK377.out;have q134:(x10_41:Int)≤((t378.length:Int):Int):=of_decide_eq_true (by assumption);obtain⟨i0134,hi0134,_,hsz134,_⟩:=info_parts Zx;have hcut134:=Yr (P:=Tryd.prog) 22 5 .i64 Tryd.underlying22 hi0134 Ao119 t378.length co119 x10_41 (of_decide_eq_true (by assumption)) q134 (Kd.Q4 HO_9.out).2.1;have hr134:=Kd.Jj (m:=(x10_41:Int).toNat) HO_9.out (by omega);have hy134:y392.length=(x10_41:Int).toNat:=(by rw[Ny392.out,List.length_take];omega);rw[← Ny392.out] at hr134;rw[← hy134] at hr134 hcut134;clear hy134 hi0134 hsz134 HO_9;have HO394:=Aside0.mk hr134;clear hr134;replace q134:=eq_true q134;obtain⟨hcz135_0,hcz135_1,hcz135_2,hcz135_3,hfz135_0,hfz135_1,hfz135_2,hfz135_3⟩:=qD4 BK391.out;have hnb136:=NB367_366.out;have hnc136:=NB366_367.out;obtain⟨hcz137_0,hcz137_1,hcz137_2,hcz137_3,hfz137_0,hfz137_1,hfz137_2,hfz137_3⟩:=qD4 BK367.out))
            refine bodyPost_ret (results_cell_row rfl _ _ gb367 34 #[.slice Ao119 y392.length co119,.slice A0_1 l0_1.length c0_1,.bool (decide (a2≥(t378.length:Int))),.int .i64 0] (0,0) _ rfl (by(with_reducible repeat first|apply Qb|apply Qd|apply Qc);refine Qk (cs:=#[.slice Ao119 y392.length co119,.slice A0_1 l0_1.length c0_1,.bool (decide (a2≥(t378.length:Int))),.int .i64 0]) ?_ 3 _ rfl;(with_reducible repeat first|apply Qb|apply Qd|apply Qc);refine Qk (cs:=#[.slice Ao119 y392.length co119,.slice A0_1 l0_1.length c0_1,.bool false,.int .i64 0]) ?_ 2 _ rfl;(with_reducible repeat first|apply Qb|apply Qd|apply Qc);refine Qk (cs:=#[.slice Ao119 y392.length co119,.slice none 0 0,.bool false,.int .i64 0]) ?_ 1 _ rfl;(with_reducible repeat first|apply Qb|apply Qd|apply Qc);refine Qk (cs:=#[.slice none 0 0,.slice none 0 0,.bool false,.int .i64 0]) ?_ 0 _ rfl;(with_reducible repeat first|apply Qb|apply Qd|apply Qc);refine Qs ?_ NB367_391.out _;(with_reducible repeat first|apply Qb|apply Qd|apply Qc);exact BK367.out) Tryd.underlying34 rfl kr) rfl ?_
            exact⟨_,_,by first|rfl|(simp[Qo,Qn] <;> rfl)|(simp[*,Qo,Qn] <;> rfl),Kd.Qt (Kd.R_V (by(with_reducible repeat first|apply Kd.Qi|apply Kd.Qh|apply Kd.Ql);exact Kd.Qu (Kd.Qm (Kd.Qm (Kd.Qm (Kd.Qm (Kd.Qm (Kd.Qy (Kd.Qy HO394.out BK391.out (by decide)) BK367.out (by decide)) (fun _ hk=>hk.1.2) _) (fun _ hk=>hk.2) _) (fun _ hk=>hk.2) (.slice A0_1 l0_1.length c0_1)) (fun _ hk=>hk.2) (.bool (decide (a2≥(t378.length:Int))))) (fun _ hk=>hk.2) (.int .i64 0)) (fun _ hk=>hk.1.1))) (fun k_ hk=>by first|exact⟨(.inr (hk.1)),hk.2⟩|exact(.inr (hk))),by(with_reducible repeat first|apply Kd.Qx|apply Kd.Qw|apply Kd.Q0);exact Kd.Qt (Kd.Qq (p:=⟨gb367,3,none⟩) (Kd.Qq (p:=⟨gb367,2,none⟩) (Kd.Qq (p:=⟨gb367,1,none⟩) (Kd.Qq (p:=⟨gb367,0,none⟩) (Kd.Qq (p:=⟨gb391,0,none⟩) (Kd.Qt (Kd.Qt HO_366001.out (fun k_ hk=>(⟨hk,hk.2.2.2.2.2.2⟩:_∧k_≠gb391))) (fun k_ hk=>(⟨hk,hk.1.2.2.2.2.1⟩:_∧k_≠gb367))) (fun _ hk=>hk.1.2) _) (fun _ hk=>hk.2) _) (fun _ hk=>hk.2) (.slice A0_1 l0_1.length c0_1)) (fun _ hk=>hk.2) (.bool (decide (a2≥(t378.length:Int))))) (fun _ hk=>hk.2) (.int .i64 0)) (fun _ hk=>hk.1.1.1),bel⟩
           ·rw[if_neg c118] at H
            exact absurd H (by simp)
          ·rw[if_neg c117] at H
           exact absurd H (by simp)
         ·replace c116:=Bool.eq_false_iff.mpr c116
          subst c116
          have H1:(if 0≤x10_41 then (if x10_41≤(t378.length:Int) then (some (l0_0,(t378.take (x10_41:Int).toNat),decide (a2≥(t378.length:Int)),0)) else (none)) else (none))=some (r1,r2,r3,r4):=by rw[if_neg (show ¬ (false=true) by decide)] at H;exact H
          clear H
          have H:=H1
          clear H1
          by_cases c138:0≤x10_41
          ·rw[if_pos c138] at H
           have c138b0:=eq_true c138
           have c138b1:decide (0≤x10_41)=true:=decide_eq_true c138
           clear c138
           by_cases c139:x10_41≤(t378.length:Int)
           ·rw[if_pos c139] at H
            have c139b0:=eq_true c139
            have c139b1:decide (x10_41≤(t378.length:Int))=true:=decide_eq_true c139
            clear c139
            obtain⟨y395,hy395⟩:∃ y_:List Int,y_=(t378.take (x10_41:Int).toNat):=⟨_,rfl⟩
            replace H:(some (l0_0,y395,decide (a2≥(t378.length:Int)),0))=some (r1,r2,r3,r4):=by first|(rw[hy395];with_reducible exact H)|(have H2_:=(Option.bind_some _ _).symm.trans H;rw[hy395];with_reducible exact H2_)|(have H2_:=(Option.bind_some _ _).symm.trans H;with_reducible exact H2_)|with_reducible exact H|(rw[hy395];exact H)|exact H
            have Ny395:=Aside0.mk hy395
            clear hy395
            simp only[Option.some.injEq,Prod.mk.injEq] at H
            obtain⟨rfl,rfl,rfl,rfl⟩:=H
            obtain⟨Ao140,co140,eo140⟩:=Kd.Zf HO_9.out
            subst eo140
            have hnb141:=NB365_366.out
            have hnc141:=NB366_365.out
            have hnb142:=NB365_367.out
            have hnc142:=NB367_365.out
            have hnb143:=NB365_377.out
            have hnc143:=NB377_365.out
            obtain⟨hcz144_0,hcz144_1,hfz144_0,hfz144_1⟩:=qD2 BK365.out
            go_wp2_with (first|((with_reducible refine Qz (N:=11) rfl ?_);refine qE 11 #[.slice none 0 0,.slice none 0 0,.bool false,.int .i64 0] 34 ?_;intro gb391 hg w145 hbox hb;have BK391:=Aside0.mk hbox;have GW391:=sGe hg;have GE391:=sGe hg;have NB365_391:=sNl BK365 hg;have NB391_365:=sNg BK365 hg;have NB366_391:=sNl BK366 hg;have NB391_366:=sNg BK366 hg;have NB367_391:=sNl BK367 hg;have NB391_367:=sNg BK367 hg;have NB377_391:=sNl BK377 hg;have NB391_377:=sNg BK377 hg;replace HO_9:=sRb HO_9 hb;replace HO_366000:=Aside0.mk (Kd.Q2 (Kd.Q9 (by(with_reducible repeat first|apply Kd.Qx|apply Kd.Qw|apply Kd.Q0);exact HO_366000.out) gb391 (Nat.le_of_eq hg.symm)) hb);replace HO_366001:=Aside0.mk (Kd.Q2 (Kd.Q9 (by(with_reducible repeat first|apply Kd.Qx|apply Kd.Qw|apply Kd.Q0);exact HO_366001.out) gb391 (Nat.le_of_eq hg.symm)) hb);replace HO_378003:=Aside0.mk (Kd.Q2 (Kd.Q9 (by(with_reducible repeat first|apply Kd.Qx|apply Kd.Qw|apply Kd.Q0);exact HO_378003.out) gb391 (Nat.le_of_eq hg.symm)) hb);replace BK365:=sBk BK365 hb;replace BK366:=sBk BK366 hb;replace BK367:=sBk BK367 hb;replace BK377:=sBk BK377 hb;replace HB:=sHb hb;clear hb hbox hg;have hnb146:=NB391_365.out;have hnc146:=NB365_391.out;have hnb147:=NB391_366.out;have hnc147:=NB366_391.out;have hnb148:=NB391_367.out;have hnc148:=NB367_391.out;have hnb149:=NB391_377.out;have hnc149:=NB377_391.out;obtain⟨hcz150_0,hcz150_1,hcz150_2,hcz150_3,hfz150_0,hfz150_1,hfz150_2,hfz150_3⟩:=qD4 BK391.out)|((with_reducible refine Xq (t:=34) (p:=11) rfl ?_);refine Xd (t:=34) (p:=11) (v:=?vo_w151) (w1:=((((w145.setCell ⟨gb391,0,none⟩ (.slice A0_0 l0_0.length c0_0)).setCell ⟨gb391,1,none⟩ (.slice A0_1 l0_1.length c0_1)).setCell ⟨gb391,2,none⟩ (.bool (decide (a2≥(t378.length:Int))))).setCell ⟨gb391,3,none⟩ (.int .i64 0))) ?hg ?ho ?hn ?hr ?_;(case ho=>rfl);(case hg=>rfl);(case hn=>rfl);(case hr=>go_simp <;> rfl);intro w151 hw;have n0_:Aside0 (Kd.R (Kd.int .u8) 5 w151 w.heap.size (fun k_=>(w.heap.size≤k_)) (.slice Ao140 t378.length co140) t378):=⟨(by rw[hw];exact(by(with_reducible repeat first|apply Kd.Qi|apply Kd.Qh|apply Kd.Ql);exact Kd.Qu (Kd.Qm (Kd.Qm (Kd.Qm (Kd.Qm (Kd.Qy HO_9.out BK391.out (by decide)) (fun _ hk=>hk.2) (.slice A0_0 l0_0.length c0_0)) (fun _ hk=>hk.2) (.slice A0_1 l0_1.length c0_1)) (fun _ hk=>hk.2) (.bool (decide (a2≥(t378.length:Int))))) (fun _ hk=>hk.2) (.int .i64 0)) (fun _ hk=>hk.1)))⟩;have n1_:Aside0 (Kd.V (Kd.int .u8) 5 w151 w.heap.size (fun k_=>((P0_0_ k_∨P0_1_ k_)∨w.heap.size≤k_)∧some k_≠(.slice Ao140 t378.length co140:Value).ownBlock∧k_≠gb365∧k_≠gb366∧k_≠gb367∧k_≠gb377∧k_≠gb391) (.slice A0_0 l0_0.length c0_0) l0_0):=⟨(by rw[hw];exact(by(with_reducible repeat first|apply Kd.Qx|apply Kd.Qw|apply Kd.Q0);exact Kd.Qt (Kd.Qq (p:=⟨gb391,3,none⟩) (Kd.Qq (p:=⟨gb391,2,none⟩) (Kd.Qq (p:=⟨gb391,1,none⟩) (Kd.Qq (p:=⟨gb391,0,none⟩) (Kd.Qt HO_366000.out (fun k_ hk=>(⟨hk,hk.2⟩:_∧k_≠gb391))) (fun _ hk=>hk.2) (.slice A0_0 l0_0.length c0_0)) (fun _ hk=>hk.2) (.slice A0_1 l0_1.length c0_1)) (fun _ hk=>hk.2) (.bool (decide (a2≥(t378.length:Int))))) (fun _ hk=>hk.2) (.int .i64 0)) (fun _ hk=>⟨hk.1.1.1,⟨hk.1.1.2.1,⟨hk.1.1.2.2.1,⟨hk.1.1.2.2.2.1,⟨hk.1.1.2.2.2.2.1,⟨hk.1.1.2.2.2.2.2,hk.1.2⟩⟩⟩⟩⟩⟩)))⟩;have n2_:Aside0 (Kd.V (Kd.int .u8) 5 w151 w.heap.size (fun k_=>((P0_0_ k_∨P0_1_ k_)∨w.heap.size≤k_)∧some k_≠(.slice Ao140 t378.length co140:Value).ownBlock∧k_≠gb365∧k_≠gb366∧k_≠gb367∧k_≠gb377∧k_≠gb391) (.slice A0_1 l0_1.length c0_1) l0_1):=⟨(by rw[hw];exact(by(with_reducible repeat first|apply Kd.Qx|apply Kd.Qw|apply Kd.Q0);exact Kd.Qt (Kd.Qq (p:=⟨gb391,3,none⟩) (Kd.Qq (p:=⟨gb391,2,none⟩) (Kd.Qq (p:=⟨gb391,1,none⟩) (Kd.Qq (p:=⟨gb391,0,none⟩) (Kd.Qt HO_366001.out (fun k_ hk=>(⟨hk,hk.2⟩:_∧k_≠gb391))) (fun _ hk=>hk.2) (.slice A0_0 l0_0.length c0_0)) (fun _ hk=>hk.2) (.slice A0_1 l0_1.length c0_1)) (fun _ hk=>hk.2) (.bool (decide (a2≥(t378.length:Int))))) (fun _ hk=>hk.2) (.int .i64 0)) (fun _ hk=>⟨hk.1.1.1,⟨hk.1.1.2.1,⟨hk.1.1.2.2.1,⟨hk.1.1.2.2.2.1,⟨hk.1.1.2.2.2.2.1,⟨hk.1.1.2.2.2.2.2,hk.1.2⟩⟩⟩⟩⟩⟩)))⟩;have n3_:Aside0 (Kd.V (Kd.int .u8) 5 w151 w.heap.size (fun k_=>((P0_0_ k_∨P0_1_ k_)∨w.heap.size≤k_)∧some k_≠(.slice Ao140 t378.length co140:Value).ownBlock∧k_≠gb365∧k_≠gb366∧k_≠gb367∧k_≠gb377∧k_≠gb391) (.slice Ao23 t372.length co23) t372):=⟨(by rw[hw];exact(by(with_reducible repeat first|apply Kd.Qx|apply Kd.Qw|apply Kd.Q0);exact Kd.Qt (Kd.Qq (p:=⟨gb391,3,none⟩) (Kd.Qq (p:=⟨gb391,2,none⟩) (Kd.Qq (p:=⟨gb391,1,none⟩) (Kd.Qq (p:=⟨gb391,0,none⟩) (Kd.Qt HO_378003.out (fun k_ hk=>(⟨hk,hk.2⟩:_∧k_≠gb391))) (fun _ hk=>hk.2) (.slice A0_0 l0_0.length c0_0)) (fun _ hk=>hk.2) (.slice A0_1 l0_1.length c0_1)) (fun _ hk=>hk.2) (.bool (decide (a2≥(t378.length:Int))))) (fun _ hk=>hk.2) (.int .i64 0)) (fun _ hk=>⟨hk.1.1.1,⟨hk.1.1.2.1,⟨hk.1.1.2.2.1,⟨hk.1.1.2.2.2.1,⟨hk.1.1.2.2.2.2.1,⟨hk.1.1.2.2.2.2.2,hk.1.2⟩⟩⟩⟩⟩⟩)))⟩;have n4_:Aside0 (w151.heap[gb365]?=some (.cells #[.slice A0_0 l0_0.length c0_0,.slice A0_1 l0_1.length c0_1] 24 (0,0))):=⟨(by rw[hw];exact(bka BK365))⟩;have n5_:Aside0 (w151.heap[gb366]?=some (.cells #[.int .i64 a1_0,.int .i64 a1_1,.int .i64 a1_2,.slice A1_3 l1_3.length c1_3] 26 (0,0))):=⟨(by rw[hw];exact(bka BK366))⟩;have n6_:Aside0 (w151.heap[gb367]?=some (.cells #[.slice none 0 0,.slice none 0 0,.bool false,.int .i64 0] 34 (0,0))):=⟨(by rw[hw];exact(bka BK367))⟩;have n7_:Aside0 (w151.heap[gb377]?=some (.cells #[.int .i64 t369,.int .i64 t370,.int .i64 t371,.slice Ao23 t372.length co23,.bool false,.bool true] 39 (0,0))):=⟨(by rw[hw];exact(bka BK377))⟩;have n8_:Aside0 (w151.heap[gb391]?=some (.cells #[.slice A0_0 l0_0.length c0_0,.slice A0_1 l0_1.length c0_1,.bool (decide (a2≥(t378.length:Int))),.int .i64 0] 34 (0,0))):=⟨(by rw[hw];exact(by(with_reducible repeat first|apply Qb|apply Qd|apply Qc);refine Qk (cs:=#[.slice A0_0 l0_0.length c0_0,.slice A0_1 l0_1.length c0_1,.bool (decide (a2≥(t378.length:Int))),.int .i64 0]) ?_ 3 _ rfl;(with_reducible repeat first|apply Qb|apply Qd|apply Qc);refine Qk (cs:=#[.slice A0_0 l0_0.length c0_0,.slice A0_1 l0_1.length c0_1,.bool false,.int .i64 0]) ?_ 2 _ rfl;(with_reducible repeat first|apply Qb|apply Qd|apply Qc);refine Qk (cs:=#[.slice A0_0 l0_0.length c0_0,.slice none 0 0,.bool false,.int .i64 0]) ?_ 1 _ rfl;(with_reducible repeat first|apply Qb|apply Qd|apply Qc);refine Qk (cs:=#[.slice none 0 0,.slice none 0 0,.bool false,.int .i64 0]) ?_ 0 _ rfl;(with_reducible repeat first|apply Qb|apply Qd|apply Qc);exact BK391.out))⟩;have n9_:Aside0 (Below w.heap.size w w151):=⟨(by rw[hw];exact bel)⟩;clear hw;clear HO_9;clear HO_366000;clear HO_366001;clear HO_378003;clear BK365;clear BK366;clear BK367;clear BK377;clear BK391;clear HB;have HO_9:=n0_;have HO_366000:=n1_;have HO_366001:=n2_;have HO_378003:=n3_;have BK365:=n4_;have BK366:=n5_;have BK367:=n6_;have BK377:=n7_;have BK391:=n8_;have HB:=n9_;clear n0_ n1_ n2_ n3_ n4_ n5_ n6_ n7_ n8_ n9_;have hnb152:=NB377_366.out;have hnc152:=NB366_377.out;have hnb153:=NB377_367.out;have hnc153:=NB367_377.out;obtain⟨hcz154_0,hcz154_1,hcz154_2,hcz154_3,hcz154_4,hcz154_5,hfz154_0,hfz154_1,hfz154_2,hfz154_3,hfz154_4,hfz154_5⟩:=qD6 BK377.out;have q155:(x10_41:Int)≤((t378.length:Int):Int):=of_decide_eq_true (by assumption);obtain⟨i0155,hi0155,_,hsz155,_⟩:=info_parts Zx;have hcut155:=Yr (P:=Tryd.prog) 22 5 .i64 Tryd.underlying22 hi0155 Ao140 t378.length co140 x10_41 (of_decide_eq_true (by assumption)) q155 (Kd.Q4 HO_9.out).2.1;have hr155:=Kd.Jj (m:=(x10_41:Int).toNat) HO_9.out (by omega);have hy155:y395.length=(x10_41:Int).toNat:=(by rw[Ny395.out,List.length_take];omega);rw[← Ny395.out] at hr155;rw[← hy155] at hr155 hcut155;clear hy155 hi0155 hsz155 HO_9;have HO397:=Aside0.mk hr155;clear hr155;replace q155:=eq_true q155;obtain⟨hcz156_0,hcz156_1,hcz156_2,hcz156_3,hfz156_0,hfz156_1,hfz156_2,hfz156_3⟩:=qD4 BK391.out;have hnb157:=NB367_366.out;have hnc157:=NB366_367.out;obtain⟨hcz158_0,hcz158_1,hcz158_2,hcz158_3,hfz158_0,hfz158_1,hfz158_2,hfz158_3⟩:=qD4 BK367.out))
            refine bodyPost_ret (results_cell_row rfl _ _ gb367 34 #[.slice A0_0 l0_0.length c0_0,.slice Ao140 y395.length co140,.bool (decide (a2≥(t378.length:Int))),.int .i64 0] (0,0) _ rfl (by(with_reducible repeat first|apply Qb|apply Qd|apply Qc);refine Qk (cs:=#[.slice A0_0 l0_0.length c0_0,.slice Ao140 y395.length co140,.bool (decide (a2≥(t378.length:Int))),.int .i64 0]) ?_ 3 _ rfl;(with_reducible repeat first|apply Qb|apply Qd|apply Qc);refine Qk (cs:=#[.slice A0_0 l0_0.length c0_0,.slice Ao140 y395.length co140,.bool false,.int .i64 0]) ?_ 2 _ rfl;(with_reducible repeat first|apply Qb|apply Qd|apply Qc);refine Qk (cs:=#[.slice A0_0 l0_0.length c0_0,.slice none 0 0,.bool false,.int .i64 0]) ?_ 1 _ rfl;(with_reducible repeat first|apply Qb|apply Qd|apply Qc);refine Qk (cs:=#[.slice none 0 0,.slice none 0 0,.bool false,.int .i64 0]) ?_ 0 _ rfl;(with_reducible repeat first|apply Qb|apply Qd|apply Qc);refine Qs ?_ NB367_391.out _;(with_reducible repeat first|apply Qb|apply Qd|apply Qc);exact BK367.out) Tryd.underlying34 rfl kr) rfl ?_
            exact⟨_,_,by first|rfl|(simp[Qo,Qn] <;> rfl)|(simp[*,Qo,Qn] <;> rfl),by(with_reducible repeat first|apply Kd.Qx|apply Kd.Qw|apply Kd.Q0);exact Kd.Qt (Kd.Qq (p:=⟨gb367,3,none⟩) (Kd.Qq (p:=⟨gb367,2,none⟩) (Kd.Qq (p:=⟨gb367,1,none⟩) (Kd.Qq (p:=⟨gb367,0,none⟩) (Kd.Qq (p:=⟨gb391,1,none⟩) (Kd.Qt (Kd.Qt HO_366000.out (fun k_ hk=>(⟨hk,hk.2.2.2.2.2.2⟩:_∧k_≠gb391))) (fun k_ hk=>(⟨hk,hk.1.2.2.2.2.1⟩:_∧k_≠gb367))) (fun _ hk=>hk.1.2) _) (fun _ hk=>hk.2) (.slice A0_0 l0_0.length c0_0)) (fun _ hk=>hk.2) _) (fun _ hk=>hk.2) (.bool (decide (a2≥(t378.length:Int))))) (fun _ hk=>hk.2) (.int .i64 0)) (fun _ hk=>hk.1.1.1),Kd.Qt (Kd.R_V (by(with_reducible repeat first|apply Kd.Qi|apply Kd.Qh|apply Kd.Ql);exact Kd.Qu (Kd.Qm (Kd.Qm (Kd.Qm (Kd.Qm (Kd.Qm (Kd.Qy (Kd.Qy HO397.out BK391.out (by decide)) BK367.out (by decide)) (fun _ hk=>hk.1.2) _) (fun _ hk=>hk.2) (.slice A0_0 l0_0.length c0_0)) (fun _ hk=>hk.2) _) (fun _ hk=>hk.2) (.bool (decide (a2≥(t378.length:Int))))) (fun _ hk=>hk.2) (.int .i64 0)) (fun _ hk=>hk.1.1))) (fun k_ hk=>by first|exact⟨(.inr (hk.1)),hk.2⟩|exact(.inr (hk))),bel⟩
           ·rw[if_neg c139] at H
            exact absurd H (by simp)
          ·rw[if_neg c138] at H
           exact absurd H (by simp)
        ·replace c115:=Bool.eq_false_iff.mpr c115
         subst c115
         have H1:(if 0≤x10_41 then (if x10_41≤(t378.length:Int) then (some ((t378.take (x10_41:Int).toNat),l0_1,decide (a2≥(t378.length:Int)),0)) else (none)) else (none))=some (r1,r2,r3,r4):=by rw[if_neg (show ¬ (false=true) by decide)] at H;exact H
         clear H
         have H:=H1
         clear H1
         by_cases c159:0≤x10_41
         ·rw[if_pos c159] at H
          have c159b0:=eq_true c159
          have c159b1:decide (0≤x10_41)=true:=decide_eq_true c159
          clear c159
          by_cases c160:x10_41≤(t378.length:Int)
          ·rw[if_pos c160] at H
           have c160b0:=eq_true c160
           have c160b1:decide (x10_41≤(t378.length:Int))=true:=decide_eq_true c160
           clear c160
           obtain⟨y398,hy398⟩:∃ y_:List Int,y_=(t378.take (x10_41:Int).toNat):=⟨_,rfl⟩
           replace H:(some (y398,l0_1,decide (a2≥(t378.length:Int)),0))=some (r1,r2,r3,r4):=by first|(rw[hy398];with_reducible exact H)|(have H2_:=(Option.bind_some _ _).symm.trans H;rw[hy398];with_reducible exact H2_)|(have H2_:=(Option.bind_some _ _).symm.trans H;with_reducible exact H2_)|with_reducible exact H|(rw[hy398];exact H)|exact H
           have Ny398:=Aside0.mk hy398
           clear hy398
           simp only[Option.some.injEq,Prod.mk.injEq] at H
           obtain⟨rfl,rfl,rfl,rfl⟩:=H
           obtain⟨Ao161,co161,eo161⟩:=Kd.Zf HO_9.out
           subst eo161
           have hnb162:=NB365_366.out
           have hnc162:=NB366_365.out
           have hnb163:=NB365_367.out
           have hnc163:=NB367_365.out
           have hnb164:=NB365_377.out
           have hnc164:=NB377_365.out
           obtain⟨hcz165_0,hcz165_1,hfz165_0,hfz165_1⟩:=qD2 BK365.out
           go_wp2_with (first|((with_reducible refine Qz (N:=11) rfl ?_);refine qE 11 #[.slice none 0 0,.slice none 0 0,.bool false,.int .i64 0] 34 ?_;intro gb391 hg w166 hbox hb;have BK391:=Aside0.mk hbox;have GW391:=sGe hg;have GE391:=sGe hg;have NB365_391:=sNl BK365 hg;have NB391_365:=sNg BK365 hg;have NB366_391:=sNl BK366 hg;have NB391_366:=sNg BK366 hg;have NB367_391:=sNl BK367 hg;have NB391_367:=sNg BK367 hg;have NB377_391:=sNl BK377 hg;have NB391_377:=sNg BK377 hg;replace HO_9:=sRb HO_9 hb;replace HO_366000:=Aside0.mk (Kd.Q2 (Kd.Q9 (by(with_reducible repeat first|apply Kd.Qx|apply Kd.Qw|apply Kd.Q0);exact HO_366000.out) gb391 (Nat.le_of_eq hg.symm)) hb);replace HO_366001:=Aside0.mk (Kd.Q2 (Kd.Q9 (by(with_reducible repeat first|apply Kd.Qx|apply Kd.Qw|apply Kd.Q0);exact HO_366001.out) gb391 (Nat.le_of_eq hg.symm)) hb);replace HO_378003:=Aside0.mk (Kd.Q2 (Kd.Q9 (by(with_reducible repeat first|apply Kd.Qx|apply Kd.Qw|apply Kd.Q0);exact HO_378003.out) gb391 (Nat.le_of_eq hg.symm)) hb);replace BK365:=sBk BK365 hb;replace BK366:=sBk BK366 hb;replace BK367:=sBk BK367 hb;replace BK377:=sBk BK377 hb;replace HB:=sHb hb;clear hb hbox hg;have hnb167:=NB391_365.out;have hnc167:=NB365_391.out;have hnb168:=NB391_366.out;have hnc168:=NB366_391.out;have hnb169:=NB391_367.out;have hnc169:=NB367_391.out;have hnb170:=NB391_377.out;have hnc170:=NB377_391.out;obtain⟨hcz171_0,hcz171_1,hcz171_2,hcz171_3,hfz171_0,hfz171_1,hfz171_2,hfz171_3⟩:=qD4 BK391.out)|((with_reducible refine Xq (t:=34) (p:=11) rfl ?_);refine Xd (t:=34) (p:=11) (v:=?vo_w172) (w1:=((((w166.setCell ⟨gb391,0,none⟩ (.slice A0_0 l0_0.length c0_0)).setCell ⟨gb391,1,none⟩ (.slice A0_1 l0_1.length c0_1)).setCell ⟨gb391,2,none⟩ (.bool (decide (a2≥(t378.length:Int))))).setCell ⟨gb391,3,none⟩ (.int .i64 0))) ?hg ?ho ?hn ?hr ?_;(case ho=>rfl);(case hg=>rfl);(case hn=>rfl);(case hr=>go_simp <;> rfl);intro w172 hw;have n0_:Aside0 (Kd.R (Kd.int .u8) 5 w172 w.heap.size (fun k_=>(w.heap.size≤k_)) (.slice Ao161 t378.length co161) t378):=⟨(by rw[hw];exact(by(with_reducible repeat first|apply Kd.Qi|apply Kd.Qh|apply Kd.Ql);exact Kd.Qu (Kd.Qm (Kd.Qm (Kd.Qm (Kd.Qm (Kd.Qy HO_9.out BK391.out (by decide)) (fun _ hk=>hk.2) (.slice A0_0 l0_0.length c0_0)) (fun _ hk=>hk.2) (.slice A0_1 l0_1.length c0_1)) (fun _ hk=>hk.2) (.bool (decide (a2≥(t378.length:Int))))) (fun _ hk=>hk.2) (.int .i64 0)) (fun _ hk=>hk.1)))⟩;have n1_:Aside0 (Kd.V (Kd.int .u8) 5 w172 w.heap.size (fun k_=>((P0_0_ k_∨P0_1_ k_)∨w.heap.size≤k_)∧some k_≠(.slice Ao161 t378.length co161:Value).ownBlock∧k_≠gb365∧k_≠gb366∧k_≠gb367∧k_≠gb377∧k_≠gb391) (.slice A0_0 l0_0.length c0_0) l0_0):=⟨(by rw[hw];exact(by(with_reducible repeat first|apply Kd.Qx|apply Kd.Qw|apply Kd.Q0);exact Kd.Qt (Kd.Qq (p:=⟨gb391,3,none⟩) (Kd.Qq (p:=⟨gb391,2,none⟩) (Kd.Qq (p:=⟨gb391,1,none⟩) (Kd.Qq (p:=⟨gb391,0,none⟩) (Kd.Qt HO_366000.out (fun k_ hk=>(⟨hk,hk.2⟩:_∧k_≠gb391))) (fun _ hk=>hk.2) (.slice A0_0 l0_0.length c0_0)) (fun _ hk=>hk.2) (.slice A0_1 l0_1.length c0_1)) (fun _ hk=>hk.2) (.bool (decide (a2≥(t378.length:Int))))) (fun _ hk=>hk.2) (.int .i64 0)) (fun _ hk=>⟨hk.1.1.1,⟨hk.1.1.2.1,⟨hk.1.1.2.2.1,⟨hk.1.1.2.2.2.1,⟨hk.1.1.2.2.2.2.1,⟨hk.1.1.2.2.2.2.2,hk.1.2⟩⟩⟩⟩⟩⟩)))⟩;have n2_:Aside0 (Kd.V (Kd.int .u8) 5 w172 w.heap.size (fun k_=>((P0_0_ k_∨P0_1_ k_)∨w.heap.size≤k_)∧some k_≠(.slice Ao161 t378.length co161:Value).ownBlock∧k_≠gb365∧k_≠gb366∧k_≠gb367∧k_≠gb377∧k_≠gb391) (.slice A0_1 l0_1.length c0_1) l0_1):=⟨(by rw[hw];exact(by(with_reducible repeat first|apply Kd.Qx|apply Kd.Qw|apply Kd.Q0);exact Kd.Qt (Kd.Qq (p:=⟨gb391,3,none⟩) (Kd.Qq (p:=⟨gb391,2,none⟩) (Kd.Qq (p:=⟨gb391,1,none⟩) (Kd.Qq (p:=⟨gb391,0,none⟩) (Kd.Qt HO_366001.out (fun k_ hk=>(⟨hk,hk.2⟩:_∧k_≠gb391))) (fun _ hk=>hk.2) (.slice A0_0 l0_0.length c0_0)) (fun _ hk=>hk.2) (.slice A0_1 l0_1.length c0_1)) (fun _ hk=>hk.2) (.bool (decide (a2≥(t378.length:Int))))) (fun _ hk=>hk.2) (.int .i64 0)) (fun _ hk=>⟨hk.1.1.1,⟨hk.1.1.2.1,⟨hk.1.1.2.2.1,⟨hk.1.1.2.2.2.1,⟨hk.1.1.2.2.2.2.1,⟨hk.1.1.2.2.2.2.2,hk.1.2⟩⟩⟩⟩⟩⟩)))⟩;have n3_:Aside0 (Kd.V (Kd.int .u8) 5 w172 w.heap.size (fun k_=>((P0_0_ k_∨P0_1_ k_)∨w.heap.size≤k_)∧some k_≠(.slice Ao161 t378.length co161:Value).ownBlock∧k_≠gb365∧k_≠gb366∧k_≠gb367∧k_≠gb377∧k_≠gb391) (.slice Ao23 t372.length co23) t372):=⟨(by rw[hw];exact(by(with_reducible repeat first|apply Kd.Qx|apply Kd.Qw|apply Kd.Q0);exact Kd.Qt (Kd.Qq (p:=⟨gb391,3,none⟩) (Kd.Qq (p:=⟨gb391,2,none⟩) (Kd.Qq (p:=⟨gb391,1,none⟩) (Kd.Qq (p:=⟨gb391,0,none⟩) (Kd.Qt HO_378003.out (fun k_ hk=>(⟨hk,hk.2⟩:_∧k_≠gb391))) (fun _ hk=>hk.2) (.slice A0_0 l0_0.length c0_0)) (fun _ hk=>hk.2) (.slice A0_1 l0_1.length c0_1)) (fun _ hk=>hk.2) (.bool (decide (a2≥(t378.length:Int))))) (fun _ hk=>hk.2) (.int .i64 0)) (fun _ hk=>⟨hk.1.1.1,⟨hk.1.1.2.1,⟨hk.1.1.2.2.1,⟨hk.1.1.2.2.2.1,⟨hk.1.1.2.2.2.2.1,⟨hk.1.1.2.2.2.2.2,hk.1.2⟩⟩⟩⟩⟩⟩)))⟩;have n4_:Aside0 (w172.heap[gb365]?=some (.cells #[.slice A0_0 l0_0.length c0_0,.slice A0_1 l0_1.length c0_1] 24 (0,0))):=⟨(by rw[hw];exact(bka BK365))⟩;have n5_:Aside0 (w172.heap[gb366]?=some (.cells #[.int .i64 a1_0,.int .i64 a1_1,.int .i64 a1_2,.slice A1_3 l1_3.length c1_3] 26 (0,0))):=⟨(by rw[hw];exact(bka BK366))⟩;have n6_:Aside0 (w172.heap[gb367]?=some (.cells #[.slice none 0 0,.slice none 0 0,.bool false,.int .i64 0] 34 (0,0))):=⟨(by rw[hw];exact(bka BK367))⟩;have n7_:Aside0 (w172.heap[gb377]?=some (.cells #[.int .i64 t369,.int .i64 t370,.int .i64 t371,.slice Ao23 t372.length co23,.bool t375,.bool false] 39 (0,0))):=⟨(by rw[hw];exact(bka BK377))⟩;have n8_:Aside0 (w172.heap[gb391]?=some (.cells #[.slice A0_0 l0_0.length c0_0,.slice A0_1 l0_1.length c0_1,.bool (decide (a2≥(t378.length:Int))),.int .i64 0] 34 (0,0))):=⟨(by rw[hw];exact(by(with_reducible repeat first|apply Qb|apply Qd|apply Qc);refine Qk (cs:=#[.slice A0_0 l0_0.length c0_0,.slice A0_1 l0_1.length c0_1,.bool (decide (a2≥(t378.length:Int))),.int .i64 0]) ?_ 3 _ rfl;(with_reducible repeat first|apply Qb|apply Qd|apply Qc);refine Qk (cs:=#[.slice A0_0 l0_0.length c0_0,.slice A0_1 l0_1.length c0_1,.bool false,.int .i64 0]) ?_ 2 _ rfl;(with_reducible repeat first|apply Qb|apply Qd|apply Qc);refine Qk (cs:=#[.slice A0_0 l0_0.length c0_0,.slice none 0 0,.bool false,.int .i64 0]) ?_ 1 _ rfl;(with_reducible repeat first|apply Qb|apply Qd|apply Qc);refine Qk (cs:=#[.slice none 0 0,.slice none 0 0,.bool false,.int .i64 0]) ?_ 0 _ rfl;(with_reducible repeat first|apply Qb|apply Qd|apply Qc);exact BK391.out))⟩;have n9_:Aside0 (Below w.heap.size w w172):=⟨(by rw[hw];exact bel)⟩;clear hw;clear HO_9;clear HO_366000;clear HO_366001;clear HO_378003;clear BK365;clear BK366;clear BK367;clear BK377;clear BK391;clear HB;have HO_9:=n0_;have HO_366000:=n1_;have HO_366001:=n2_;have HO_378003:=n3_;have BK365:=n4_;have BK366:=n5_;have BK367:=n6_;have BK377:=n7_;have BK391:=n8_;have HB:=n9_;clear n0_ n1_ n2_ n3_ n4_ n5_ n6_ n7_ n8_ n9_;have hnb173:=NB377_366.out;have hnc173:=NB366_377.out;have hnb174:=NB377_367.out;have hnc174:=NB367_377.out;obtain⟨hcz175_0,hcz175_1,hcz175_2,hcz175_3,hcz175_4,hcz175_5,hfz175_0,hfz175_1,hfz175_2,hfz175_3,hfz175_4,hfz175_5⟩:=qD6 BK377.out;have q176:(x10_41:Int)≤((t378.length:Int):Int):=of_decide_eq_true (by assumption);obtain⟨i0176,hi0176,_,hsz176,_⟩:=info_parts Zx;have hcut176:=Yr (P:=Tryd.prog) 22 5 .i64 Tryd.underlying22 hi0176 Ao161 t378.length co161 x10_41 (of_decide_eq_true (by assumption)) q176 (Kd.Q4 HO_9.out).2.1;have hr176:=Kd.Jj (m:=(x10_41:Int).toNat) HO_9.out (by omega);have hy176:y398.length=(x10_41:Int).toNat:=(by rw[Ny398.out,List.length_take];omega);rw[← Ny398.out] at hr176;rw[← hy176] at hr176 hcut176;clear hy176 hi0176 hsz176 HO_9;have HO400:=Aside0.mk hr176;clear hr176;replace q176:=eq_true q176;obtain⟨hcz177_0,hcz177_1,hcz177_2,hcz177_3,hfz177_0,hfz177_1,hfz177_2,hfz177_3⟩:=qD4 BK391.out;have hnb178:=NB367_366.out;have hnc178:=NB366_367.out;obtain⟨hcz179_0,hcz179_1,hcz179_2,hcz179_3,hfz179_0,hfz179_1,hfz179_2,hfz179_3⟩:=qD4 BK367.out))
           refine bodyPost_ret (results_cell_row rfl _ _ gb367 34 #[.slice Ao161 y398.length co161,.slice A0_1 l0_1.length c0_1,.bool (decide (a2≥(t378.length:Int))),.int .i64 0] (0,0) _ rfl (by(with_reducible repeat first|apply Qb|apply Qd|apply Qc);refine Qk (cs:=#[.slice Ao161 y398.length co161,.slice A0_1 l0_1.length c0_1,.bool (decide (a2≥(t378.length:Int))),.int .i64 0]) ?_ 3 _ rfl;(with_reducible repeat first|apply Qb|apply Qd|apply Qc);refine Qk (cs:=#[.slice Ao161 y398.length co161,.slice A0_1 l0_1.length c0_1,.bool false,.int .i64 0]) ?_ 2 _ rfl;(with_reducible repeat first|apply Qb|apply Qd|apply Qc);refine Qk (cs:=#[.slice Ao161 y398.length co161,.slice none 0 0,.bool false,.int .i64 0]) ?_ 1 _ rfl;(with_reducible repeat first|apply Qb|apply Qd|apply Qc);refine Qk (cs:=#[.slice none 0 0,.slice none 0 0,.bool false,.int .i64 0]) ?_ 0 _ rfl;(with_reducible repeat first|apply Qb|apply Qd|apply Qc);refine Qs ?_ NB367_391.out _;(with_reducible repeat first|apply Qb|apply Qd|apply Qc);exact BK367.out) Tryd.underlying34 rfl kr) rfl ?_
           exact⟨_,_,by first|rfl|(simp[Qo,Qn] <;> rfl)|(simp[*,Qo,Qn] <;> rfl),Kd.Qt (Kd.R_V (by(with_reducible repeat first|apply Kd.Qi|apply Kd.Qh|apply Kd.Ql);exact Kd.Qu (Kd.Qm (Kd.Qm (Kd.Qm (Kd.Qm (Kd.Qm (Kd.Qy (Kd.Qy HO400.out BK391.out (by decide)) BK367.out (by decide)) (fun _ hk=>hk.1.2) _) (fun _ hk=>hk.2) _) (fun _ hk=>hk.2) (.slice A0_1 l0_1.length c0_1)) (fun _ hk=>hk.2) (.bool (decide (a2≥(t378.length:Int))))) (fun _ hk=>hk.2) (.int .i64 0)) (fun _ hk=>hk.1.1))) (fun k_ hk=>by first|exact⟨(.inr (hk.1)),hk.2⟩|exact(.inr (hk))),by(with_reducible repeat first|apply Kd.Qx|apply Kd.Qw|apply Kd.Q0);exact Kd.Qt (Kd.Qq (p:=⟨gb367,3,none⟩) (Kd.Qq (p:=⟨gb367,2,none⟩) (Kd.Qq (p:=⟨gb367,1,none⟩) (Kd.Qq (p:=⟨gb367,0,none⟩) (Kd.Qq (p:=⟨gb391,0,none⟩) (Kd.Qt (Kd.Qt HO_366001.out (fun k_ hk=>(⟨hk,hk.2.2.2.2.2.2⟩:_∧k_≠gb391))) (fun k_ hk=>(⟨hk,hk.1.2.2.2.2.1⟩:_∧k_≠gb367))) (fun _ hk=>hk.1.2) _) (fun _ hk=>hk.2) _) (fun _ hk=>hk.2) (.slice A0_1 l0_1.length c0_1)) (fun _ hk=>hk.2) (.bool (decide (a2≥(t378.length:Int))))) (fun _ hk=>hk.2) (.int .i64 0)) (fun _ hk=>hk.1.1.1),bel⟩
          ·rw[if_neg c160] at H
           exact absurd H (by simp)
         ·rw[if_neg c159] at H
          exact absurd H (by simp)
 ·replace c5:=Bool.eq_false_iff.mpr c5
  subst c5
  have H1:(some (([]:List Int),([]:List Int),false,120))=some (r1,r2,r3,r4):=by rw[if_neg (show ¬ (false=true) by decide)] at H;exact H
  clear H
  have H:=H1
  clear H1
  simp only[Option.some.injEq,Prod.mk.injEq] at H
  obtain⟨rfl,rfl,rfl,rfl⟩:=H
  go_enter Tryd.func13,Tryd.ntmps13
  go_wp2_with (first|((with_reducible refine Qz (N:=3) rfl ?_);refine qE 3 #[.slice A0_0 l0_0.length c0_0,.slice A0_1 l0_1.length c0_1] 24 ?_;intro gb365 hg w180 hbox hb;have BK365:=Aside0.mk hbox;have GW365:=sGe hg;have GE365:=sGe hg;replace HO0_0:=Aside0.mk (Kd.Q2 (Kd.Q9 HO0_0.out gb365 (Nat.le_of_eq hg.symm)) hb);replace HO0_1:=Aside0.mk (Kd.Q2 (Kd.Q9 HO0_1.out gb365 (Nat.le_of_eq hg.symm)) hb);replace HB:=sHb hb;clear hb hbox hg)|((with_reducible refine Qz (N:=4) rfl ?_);refine qE 4 #[.int .i64 a1_0,.int .i64 a1_1,.int .i64 a1_2,.slice A1_3 l1_3.length c1_3] 26 ?_;intro gb366 hg w181 hbox hb;have BK366:=Aside0.mk hbox;have GW366:=sGe hg;have GE366:=sGe hg;have NB365_366:=sNl BK365 hg;have NB366_365:=sNg BK365 hg;replace HO0_0:=Aside0.mk (Kd.Q2 (Kd.Q9 HO0_0.out gb366 (Nat.le_of_eq hg.symm)) hb);replace HO0_1:=Aside0.mk (Kd.Q2 (Kd.Q9 HO0_1.out gb366 (Nat.le_of_eq hg.symm)) hb);replace BK365:=sBk BK365 hb;replace HB:=sHb hb;clear hb hbox hg)|((with_reducible refine Qz (N:=6) rfl ?_);refine qE 6 #[.slice none 0 0,.slice none 0 0,.bool false,.int .i64 0] 34 ?_;intro gb367 hg w182 hbox hb;have BK367:=Aside0.mk hbox;have GW367:=sGe hg;have GE367:=sGe hg;have NB365_367:=sNl BK365 hg;have NB367_365:=sNg BK365 hg;have NB366_367:=sNl BK366 hg;have NB367_366:=sNg BK366 hg;replace HO0_0:=Aside0.mk (Kd.Q2 (Kd.Q9 HO0_0.out gb367 (Nat.le_of_eq hg.symm)) hb);replace HO0_1:=Aside0.mk (Kd.Q2 (Kd.Q9 HO0_1.out gb367 (Nat.le_of_eq hg.symm)) hb);replace BK365:=sBk BK365 hb;replace BK366:=sBk BK366 hb;replace HB:=sHb hb;clear hb hbox hg;have hnb183:=NB366_365.out;have hnc183:=NB365_366.out;have hnb184:=NB366_367.out;have hnc184:=NB367_366.out;obtain⟨hcz185_0,hcz185_1,hcz185_2,hcz185_3,hfz185_0,hfz185_1,hfz185_2,hfz185_3⟩:=qD4 BK366.out)|((with_reducible refine Qv (f:=21) rfl ?_);refine Ze (some 13) rfl rfl Tryd.func21 kr rfl #[.agg #[.int .i64 a1_0,.int .i64 a1_1,.int .i64 a1_2,.slice A1_3 l1_3.length c1_3]] rfl qM ?_;(with_reducible refine(newelref12_May.calls a1_0 a1_1 a1_2 _ _ l1_3 false _ ?side1 ?side2 A4.out).mono ?_);(case side1=>exact(Kd.Zb HR1_3.out HB.out));(case side2=>exact HC1_3.out);rintro e w186 ⟨rfl,hb⟩;refine⟨_,rfl, ?_⟩;replace HO0_0:=Aside0.mk (Kd.Q2 HO0_0.out hb);replace HO0_1:=Aside0.mk (Kd.Q2 HO0_1.out hb);replace BK365:=sBk BK365 hb;replace BK366:=sBk BK366 hb;replace BK367:=sBk BK367 hb;replace HB:=sHb hb;(try clear hb);(try clear hb2);(try clear hk);(try clear hi);have hnb187:=NB367_365.out;have hnc187:=NB365_367.out;obtain⟨hcz188_0,hcz188_1,hcz188_2,hcz188_3,hfz188_0,hfz188_1,hfz188_2,hfz188_3⟩:=qD4 BK367.out))
  refine bodyPost_ret (results_cell_row rfl _ _ gb367 34 #[.slice none 0 0,.slice none 0 0,.bool false,.int .i64 120] (0,0) _ rfl (by refine Qk (cs:=#[.slice none 0 0,.slice none 0 0,.bool false,.int .i64 0]) ?_ 3 _ rfl;refine Qk (cs:=#[.slice none 0 0,.slice none 0 0,.bool false,.int .i64 0]) ?_ 2 _ rfl;refine Qk (cs:=#[.slice none 0 0,.slice none 0 0,.bool false,.int .i64 0]) ?_ 1 _ rfl;refine Qk (cs:=#[.slice none 0 0,.slice none 0 0,.bool false,.int .i64 0]) ?_ 0 _ rfl;exact BK367.out) Tryd.underlying34 rfl kr) rfl ?_
  refine⟨.slice none 0 0,.slice none 0 0,by first|rfl|(simp[Qo,Qn] <;> rfl)|(simp[*,Qo,Qn] <;> rfl),Kd.Qt (Kd.R_V (Kd.Z1 _ _ _ w.heap.size _)) (fun k_ hk=>by first|exact⟨(.inr (hk.1)),hk.2⟩|exact(.inr (hk))),Kd.Qt (Kd.R_V (Kd.Z1 _ _ _ w.heap.size _)) (fun k_ hk=>by first|exact⟨(.inr (hk.1)),hk.2⟩|exact(.inr (hk))),bel⟩
end Go.Proofs.YtickbejailcehaaDoor.C
