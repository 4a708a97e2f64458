/- Texts of this claim, one behind the other: what the law's functions come to, walked (printed by a program, with the words that the print uses), and what that is, in plain Lean. No conditions of their own. -/
import Derived.Test.YtickbejailcehaaDoorQFlashWrites12
namespace Go.Proofs.YtickbejailcehaaDoor.C
open Go.RowKit Go.Proofs.YtickbejailcehaaDoorW.PrintWords Go.Proofs.YtickbejailcehaaDoorW.PrintLast Go.Proofs.YtickbejailcehaaDoorW.PrintMore
attribute [local go_sem] Xm Xk X0 Xz Xc Xb Xl Xj
set_option linter.unusedVariables false
set_option linter.unusedSimpArgs false
mutual
def newellaw12_FlashWrites.j0:Nat→Int→Bool→List Int→List Int→Int→Int→Int→List Int→Option (Bool)
 |0,_,_,_,_,_,_,_,_=>none
 |k+1,x2,X,B,D,I,J,O,U=>if X=true then ((newellaw12_awake.f k).bind fun kc=>(some kc)) else ((newellaw12_Own.f B D).bind fun k5=>((flash_Write.f k k5.1 k5.2 I J O U x2).bind fun bw=>((newelref12_Write.f k B D I J O U x2).bind fun aw=>((newellaw12_Own.f B D).bind fun di=>((flash_Recover.f k di.1 di.2).bind fun au=>((newelref12_Recover.f k B D).bind fun al=>(if bw.2.2.2=aw.2.2.2 then (if (bw.2.2.1 != aw.2.2.1)=true then (none) else (if ((au.2.2.2.2.2==0) != al.2.2.2.2.2)=true then (none) else (if (au.2.2.2.2.1 != al.2.2.2.2.1)=true then (none) else ((newelref12_Same.f k au.1 au.2.1 au.2.2.1 au.2.2.2.1 al.1 al.2.1 al.2.2.1 al.2.2.2.1).bind fun da=>(if da=true then (if al.2.2.2.2.2=true then (newellaw12_FlashWrites.j1 k bw.2.2.2 false bw.1 bw.2.1 aw.1 aw.2.1 aw.2.2.1 aw.2.2.2) else (newellaw12_FlashWrites.j1 k bw.2.2.2 (au.2.2.2.2.2 != 123) bw.1 bw.2.1 aw.1 aw.2.1 aw.2.2.1 aw.2.2.2)) else (none)))))) else (none))))))))
def newellaw12_FlashWrites.j1:Nat→Int→Bool→List Int→List Int→List Int→List Int→Bool→Int→Option (Bool)
 |0,_,_,_,_,_,_,_,_=>none
 |k+1,B,Y,D,I,J,O,U,X=>if Y=true then (none) else (if B=0 then ((newellaw12_awake.f k).bind fun kd=>(if kd=true then ((newelref08_Same.f k D J).bind fun f5=>(if f5=true then ((newelref08_Same.f k I O).bind fun dr=>(newellaw12_FlashWrites.j3 k dr)) else (none))) else (none))) else ((newellaw12_awake.f k).bind fun ke=>(if ke=true then (if (D.length:Int)=0 then (newellaw12_FlashWrites.j2 k ((I.length:Int)==0)) else (none)) else (none))))
def newellaw12_FlashWrites.j3:Nat→Bool→Option (Bool)
 |0,_=>none
 |k+1,J=>some J
def newellaw12_FlashWrites.j2:Nat→Bool→Option (Bool)
 |0,_=>none
 |k+1,J=>some J
end
def newellaw12_FlashWrites.f (k:Nat) (J:List Int) (B:List Int) (ζ :Int) (κ :Int) (μ :Int) (η :List Int) (a2:Int):Option (Bool):=(newelref12_Few.f J B).bind fun kf=>(if kf=true then (newellaw12_FlashWrites.j0 k a2 (decide ((η.length:Int)>5000)) J B ζ κ μ η) else (newellaw12_FlashWrites.j0 k a2 true J B ζ κ μ η))
theorem newellaw12_FlashWrites.Zl:∀ k,(∀ B I J U Y Z y6 y7,LeO (newellaw12_FlashWrites.j0 k B I J U Y Z y6 y7) (newellaw12_FlashWrites.j0 (k+1) B I J U Y Z y6 y7))∧(∀ B I J U Y Z y6 y7,LeO (newellaw12_FlashWrites.j1 k B I J U Y Z y6 y7) (newellaw12_FlashWrites.j1 (k+1) B I J U Y Z y6 y7))∧(∀ B,LeO (newellaw12_FlashWrites.j3 k B) (newellaw12_FlashWrites.j3 (k+1) B))∧(∀ B,LeO (newellaw12_FlashWrites.j2 k B) (newellaw12_FlashWrites.j2 (k+1) B))
 |0=>⟨fun _ _ _ _ _ _ _ _ r h=>by simp[newellaw12_FlashWrites.j0] at h,fun _ _ _ _ _ _ _ _ r h=>by simp[newellaw12_FlashWrites.j1] at h,fun _ r h=>by simp[newellaw12_FlashWrites.j3] at h,fun _ r h=>by simp[newellaw12_FlashWrites.j2] at h⟩
 |k+1=>by
  obtain⟨D,O,X,γ⟩:=newellaw12_FlashWrites.Zl k
  refine⟨?_, ?_, ?_, ?_⟩
  ·intro B I J U Y Z y6 y7
   unfold newellaw12_FlashWrites.j0
   repeat' first
   |(with_reducible exact D _ _ _ _ _ _ _ _)
   |(with_reducible exact O _ _ _ _ _ _ _ _)
   |(with_reducible exact X _)
   |(with_reducible exact γ _)
   |(with_reducible exact flash_Recover.mono _ _ _)
   |(with_reducible exact flash_Write.mono _ _ _ _ _ _ _ _)
   |(with_reducible exact newellaw12_awake.mono _)
   |(with_reducible exact newelref08_Same.mono _ _ _)
   |(with_reducible exact newelref12_Recover.mono _ _ _)
   |(with_reducible exact newelref12_Same.mono _ _ _ _ _ _ _ _ _)
   |(with_reducible exact newelref12_Write.mono _ _ _ _ _ _ _ _)
   |(with_reducible exact LeO.refl _)
   |(with_reducible exact LeO.none _)
   |(with_reducible refine LeO.ite ?_ ?_)
   |(with_reducible refine LeO.bind ?_ (fun _=>?_))
   |exact D _ _ _ _ _ _ _ _
   |exact O _ _ _ _ _ _ _ _
   |exact X _
   |exact γ _
   |exact flash_Recover.mono _ _ _
   |exact flash_Write.mono _ _ _ _ _ _ _ _
   |exact newellaw12_awake.mono _
   |exact newelref08_Same.mono _ _ _
   |exact newelref12_Recover.mono _ _ _
   |exact newelref12_Same.mono _ _ _ _ _ _ _ _ _
   |exact newelref12_Write.mono _ _ _ _ _ _ _ _
   |exact LeO.none _
   |refine LeO.ite ?_ ?_
   |refine LeO.bind ?_ (fun _=>?_)
  ·intro B I J U Y Z y6 y7
   unfold newellaw12_FlashWrites.j1
   repeat' first
   |(with_reducible exact D _ _ _ _ _ _ _ _)
   |(with_reducible exact O _ _ _ _ _ _ _ _)
   |(with_reducible exact X _)
   |(with_reducible exact γ _)
   |(with_reducible exact flash_Recover.mono _ _ _)
   |(with_reducible exact flash_Write.mono _ _ _ _ _ _ _ _)
   |(with_reducible exact newellaw12_awake.mono _)
   |(with_reducible exact newelref08_Same.mono _ _ _)
   |(with_reducible exact newelref12_Recover.mono _ _ _)
   |(with_reducible exact newelref12_Same.mono _ _ _ _ _ _ _ _ _)
   |(with_reducible exact newelref12_Write.mono _ _ _ _ _ _ _ _)
   |(with_reducible exact LeO.refl _)
   |(with_reducible exact LeO.none _)
   |(with_reducible refine LeO.ite ?_ ?_)
   |(with_reducible refine LeO.bind ?_ (fun _=>?_))
   |exact D _ _ _ _ _ _ _ _
   |exact O _ _ _ _ _ _ _ _
   |exact X _
   |exact γ _
   |exact flash_Recover.mono _ _ _
   |exact flash_Write.mono _ _ _ _ _ _ _ _
   |exact newellaw12_awake.mono _
   |exact newelref08_Same.mono _ _ _
   |exact newelref12_Recover.mono _ _ _
   |exact newelref12_Same.mono _ _ _ _ _ _ _ _ _
   |exact newelref12_Write.mono _ _ _ _ _ _ _ _
   |exact LeO.none _
   |refine LeO.ite ?_ ?_
   |refine LeO.bind ?_ (fun _=>?_)
  ·intro B
   unfold newellaw12_FlashWrites.j3
   repeat' first
   |(with_reducible exact D _ _ _ _ _ _ _ _)
   |(with_reducible exact O _ _ _ _ _ _ _ _)
   |(with_reducible exact X _)
   |(with_reducible exact γ _)
   |(with_reducible exact flash_Recover.mono _ _ _)
   |(with_reducible exact flash_Write.mono _ _ _ _ _ _ _ _)
   |(with_reducible exact newellaw12_awake.mono _)
   |(with_reducible exact newelref08_Same.mono _ _ _)
   |(with_reducible exact newelref12_Recover.mono _ _ _)
   |(with_reducible exact newelref12_Same.mono _ _ _ _ _ _ _ _ _)
   |(with_reducible exact newelref12_Write.mono _ _ _ _ _ _ _ _)
   |(with_reducible exact LeO.refl _)
   |(with_reducible exact LeO.none _)
   |(with_reducible refine LeO.ite ?_ ?_)
   |(with_reducible refine LeO.bind ?_ (fun _=>?_))
   |exact D _ _ _ _ _ _ _ _
   |exact O _ _ _ _ _ _ _ _
   |exact X _
   |exact γ _
   |exact flash_Recover.mono _ _ _
   |exact flash_Write.mono _ _ _ _ _ _ _ _
   |exact newellaw12_awake.mono _
   |exact newelref08_Same.mono _ _ _
   |exact newelref12_Recover.mono _ _ _
   |exact newelref12_Same.mono _ _ _ _ _ _ _ _ _
   |exact newelref12_Write.mono _ _ _ _ _ _ _ _
   |exact LeO.none _
   |refine LeO.ite ?_ ?_
   |refine LeO.bind ?_ (fun _=>?_)
  ·intro B
   unfold newellaw12_FlashWrites.j2
   repeat' first
   |(with_reducible exact D _ _ _ _ _ _ _ _)
   |(with_reducible exact O _ _ _ _ _ _ _ _)
   |(with_reducible exact X _)
   |(with_reducible exact γ _)
   |(with_reducible exact flash_Recover.mono _ _ _)
   |(with_reducible exact flash_Write.mono _ _ _ _ _ _ _ _)
   |(with_reducible exact newellaw12_awake.mono _)
   |(with_reducible exact newelref08_Same.mono _ _ _)
   |(with_reducible exact newelref12_Recover.mono _ _ _)
   |(with_reducible exact newelref12_Same.mono _ _ _ _ _ _ _ _ _)
   |(with_reducible exact newelref12_Write.mono _ _ _ _ _ _ _ _)
   |(with_reducible exact LeO.refl _)
   |(with_reducible exact LeO.none _)
   |(with_reducible refine LeO.ite ?_ ?_)
   |(with_reducible refine LeO.bind ?_ (fun _=>?_))
   |exact D _ _ _ _ _ _ _ _
   |exact O _ _ _ _ _ _ _ _
   |exact X _
   |exact γ _
   |exact flash_Recover.mono _ _ _
   |exact flash_Write.mono _ _ _ _ _ _ _ _
   |exact newellaw12_awake.mono _
   |exact newelref08_Same.mono _ _ _
   |exact newelref12_Recover.mono _ _ _
   |exact newelref12_Same.mono _ _ _ _ _ _ _ _ _
   |exact newelref12_Write.mono _ _ _ _ _ _ _ _
   |exact LeO.none _
   |refine LeO.ite ?_ ?_
   |refine LeO.bind ?_ (fun _=>?_)
theorem newellaw12_FlashWrites.mono:∀ J B a2 I U Y Z k,LeO (newellaw12_FlashWrites.f k J B a2 I U Y Z) (newellaw12_FlashWrites.f (k+1) J B a2 I U Y Z):=by
 intro J B a2 I U Y Z k
 obtain⟨D,O,X,γ⟩:=newellaw12_FlashWrites.Zl k
 unfold newellaw12_FlashWrites.f
 repeat' first
   |(with_reducible exact D _ _ _ _ _ _ _ _)
   |(with_reducible exact O _ _ _ _ _ _ _ _)
   |(with_reducible exact X _)
   |(with_reducible exact γ _)
   |(with_reducible exact flash_Recover.mono _ _ _)
   |(with_reducible exact flash_Write.mono _ _ _ _ _ _ _ _)
   |(with_reducible exact newellaw12_awake.mono _)
   |(with_reducible exact newelref08_Same.mono _ _ _)
   |(with_reducible exact newelref12_Recover.mono _ _ _)
   |(with_reducible exact newelref12_Same.mono _ _ _ _ _ _ _ _ _)
   |(with_reducible exact newelref12_Write.mono _ _ _ _ _ _ _ _)
   |(with_reducible exact LeO.refl _)
   |(with_reducible exact LeO.none _)
   |(with_reducible refine LeO.ite ?_ ?_)
   |(with_reducible refine LeO.bind ?_ (fun _=>?_))
   |exact D _ _ _ _ _ _ _ _
   |exact O _ _ _ _ _ _ _ _
   |exact X _
   |exact γ _
   |exact flash_Recover.mono _ _ _
   |exact flash_Write.mono _ _ _ _ _ _ _ _
   |exact newellaw12_awake.mono _
   |exact newelref08_Same.mono _ _ _
   |exact newelref12_Recover.mono _ _ _
   |exact newelref12_Same.mono _ _ _ _ _ _ _ _ _
   |exact newelref12_Write.mono _ _ _ _ _ _ _ _
   |exact LeO.none _
   |refine LeO.ite ?_ ?_
   |refine LeO.bind ?_ (fun _=>?_)
def newellaw12_FlashWrites.T3:Bool×List (List Nat×List Nat):=(true,[([],[]),([0],[0]),([],[]),([],[]),([1,2,3,1],[1,2,3]),([4],[4]),([5],[5]),([5],[5]),([5],[5]),([],[]),([9,6,4,0,1,2,3,4,5,6,9],[6,9]),([7,10,0,1,2,3,4,5,6,7,9,10],[7]),([8,11,0,1,2,3,4,5,6,7,8,9,10,11],[8])])
def newellaw12_FlashWrites.B3:List Nat:=[0,1,0,0,15,31,63,63,63,0,639,1791,4095]
theorem newellaw12_FlashWrites.tab3:rtab .any (opsOf Tryd.f3 3)=newellaw12_FlashWrites.T3:=by kernel_rfl
theorem newellaw12_FlashWrites.bits3:Yb newellaw12_FlashWrites.T3.2 newellaw12_FlashWrites.B3=true:=by kernel_rfl
set_option maxHeartbeats 8000000 in
set_option maxRecDepth 100000 in
theorem newellaw12_FlashWrites.calls (k:Nat) (γ:Option Addr) (δ :Nat) (J:List Int) (Y:Option Addr) (Z:Nat) (B:List Int) (ζ :Int) (κ :Int) (μ :Int) (a6:Option Addr) (a7:Nat) (η :List Int) (a2:Int) (r:Bool) (w:World) (dd:Kd.C (Kd.int .u8) w γ J.length J) (de:J.length ≤ δ) (df:Kd.C (Kd.int .u8) w Y B.length B) (dh:B.length≤Z) (db:Kd.C (Kd.int .u8) w a6 η.length η) (dc: η.length≤a7) (h:newellaw12_FlashWrites.f k J B ζ κ μ η a2=some r) (ht_:Laid.TabAt w):
  Calls Tryd.prog 3 #[.agg #[.slice γ J.length δ,.slice Y B.length Z],.agg #[.int .i64 ζ,.int .i64 κ,.int .i64 μ,.slice a6 η.length a7],.int .i64 a2] w fun e w'=>e = .returned (.bool r)∧Below w.heap.size w w':=by
 have HTAB:=Aside0.mk ht_
 clear ht_
 have iv:=Tryd.underlying24
 have dz:=Tryd.underlying26
 have rt:=Tryd.underlying34
 have om:=Tryd.underlying39
 have ct:=Aside0.mk dd
 have d7:=Aside0.mk de
 clear dd de
 have cv:=Aside0.mk df
 have cz:=Aside0.mk dh
 clear df dh
 have d5:=Aside0.mk db
 have d6:=Aside0.mk dc
 clear db dc
 have HB:=Aside0.mk (Below.refl w.heap.size w)
 have H:((newelref12_Few.f J B).bind fun kf=>(if kf=true then (newellaw12_FlashWrites.j0 k a2 (decide ((η.length:Int)>5000)) J B ζ κ μ η) else (newellaw12_FlashWrites.j0 k a2 true J B ζ κ μ η)))=some r:=h
 clear h
 have en:=Aside0.mk H
 clear H
 go_enter Tryd.func3,Tryd.ntmps3
 go_upto_region 1 with(first|((with_reducible refine Qz (N:=3) rfl ?_);(try(refine Zw (by rfl) ?_;dsimp only));refine qE 3 #[.slice γ J.length δ,.slice Y B.length Z] 24 ?_;intro ac hg w5 hbox hb;have ι :=Aside0.mk hbox;have ip:=sGe hg;have bm:=sGe hg;replace HB:=sHb hb;clear hb hbox hg)|((with_reducible refine Qz (N:=4) rfl ?_);(try(refine Zw (by rfl) ?_;dsimp only));refine qE 4 #[.int .i64 ζ,.int .i64 κ,.int .i64 μ,.slice a6 η.length a7] 26 ?_;intro a8 hg w6 hbox hb;have X:=Aside0.mk hbox;have iq:=sGe hg;have bn:=sGe hg;have ga:=sNl ι hg;have gb:=sNg ι hg;replace ι :=sBk ι hb;replace HB:=sHb hb;clear hb hbox hg))
 (try simp only[Act.put,qS])
 go_cut [23] (fun sl wc=>∃ (kq:Nat) (lz:Bool),sl = .bool lz∧Aside0 (newellaw12_FlashWrites.j0 kq a2 lz J B ζ κ μ η = some r)∧Aside0 (kq≤k)∧Aside0 (wc.heap[ac]?=some (.cells #[(.slice γ J.length δ),(.slice Y B.length Z)] 24 (0,0)))∧Aside0 (wc.heap[a8]?=some (.cells #[.int .i64 ζ,.int .i64 κ,.int .i64 μ,(.slice a6 η.length a7)] 26 (0,0)))∧Aside0 (Below w.heap.size w wc))
 case first=>
  have H:=en.out
  clear en
  replace H:=Option.bind_eq_some_iff.mp H
  obtain⟨kf,lp,H⟩:=H
  replace H:(if kf=true then (newellaw12_FlashWrites.j0 k a2 (decide ((η.length:Int)>5000)) J B ζ κ μ η) else (newellaw12_FlashWrites.j0 k a2 true J B ζ κ μ η))=some r:=H
  have A7:=Aside0.mk lp
  clear lp
  by_cases c8:kf=true
  ·subst c8
   have H1:(newellaw12_FlashWrites.j0 k a2 (decide ((η.length:Int)>5000)) J B ζ κ μ η)=some r:=by rw[if_pos rfl] at H;exact H
   clear H
   have H:=H1
   clear H1
   have H':=Aside0.mk H
   clear H
   have oa:=ga.out
   have ob:=gb.out
   obtain⟨gq,gr,gs,gt⟩:=qD2 ι.out
   go_wp2_with (first|((with_reducible refine Qv (f:=9) rfl ?_);refine Ze (some 16) rfl rfl Tryd.func9 kr rfl #[.agg #[.slice γ J.length δ,.slice Y B.length Z]] rfl qM ?_;(with_reducible refine(newelref12_Few.calls _ _ J _ _ B true _ ?side1 ?side2 ?side3 ?side4 A7.out).mono ?_);(case side1=>exact(Kd.Zb ct.out HB.out));(case side2=>exact d7.out);(case side3=>exact(Kd.Zb cv.out HB.out));(case side4=>exact cz.out);rintro e nq ⟨rfl,hb⟩;refine⟨_,rfl, ?_⟩;replace ι :=sBk ι hb;replace X:=sBk X hb;replace HB:=sHb hb;(try clear hb);(try clear az);(try clear hk);(try clear hi);obtain⟨mq,mr,ms,mt,mu,mw,my,mz⟩:=qD4 X.out))
   go_meet
   case rel=>exact⟨_,(decide ((η.length:Int)>5000)),rfl,H',⟨by first|omega|exact Nat.le_refl _⟩,ι,X,HB⟩
  ·replace c8:=Bool.eq_false_iff.mpr c8
   subst c8
   have H1:(newellaw12_FlashWrites.j0 k a2 true J B ζ κ μ η)=some r:=by rw[if_neg (show ¬ (false=true) by decide)] at H;exact H
   clear H
   have H:=H1
   clear H1
   have H':=Aside0.mk H
   clear H
   have qd:=ga.out
   have qe:=gb.out
   obtain⟨f8,f9,fa,fb⟩:=qD2 ι.out
   go_wp2_with (first|((with_reducible refine Qv (f:=9) rfl ?_);refine Ze (some 16) rfl rfl Tryd.func9 kr rfl #[.agg #[.slice γ J.length δ,.slice Y B.length Z]] rfl qM ?_;(with_reducible refine(newelref12_Few.calls _ _ J _ _ B false _ ?side1 ?side2 ?side3 ?side4 A7.out).mono ?_);(case side1=>exact(Kd.Zb ct.out HB.out));(case side2=>exact d7.out);(case side3=>exact(Kd.Zb cv.out HB.out));(case side4=>exact cz.out);rintro e ec ⟨rfl,hb⟩;refine⟨_,rfl, ?_⟩;replace ι :=sBk ι hb;replace X:=sBk X hb;replace HB:=sHb hb;(try clear hb);(try clear az);(try clear hk);(try clear hi)))
   go_meet
   case rel=>exact⟨_,(true),rfl,H',⟨by first|omega|exact Nat.le_refl _⟩,ι,X,HB⟩
 case rest=>
  clear en
  try clear c1
  try clear p2
  try clear c3
  try clear c8
  try clear c9
  try clear cq
  try clear gq
  try clear gr
  try clear mq
  try clear mr
  try clear ms
  try clear mt
  try clear f8
  try clear f9
  try clear gs
  try clear gt
  try clear mu
  try clear mw
  try clear my
  try clear mz
  try clear fa
  try clear fb
  obtain⟨kq,lz,rfl,HA,k4,ι,X,HB⟩:=hcut
  cases kq with
  |zero=>exact absurd HA.out (by simp[newellaw12_FlashWrites.j0])
  |succ b6=>
   have H:=HA.out
   clear HA
   simp only[newellaw12_FlashWrites.j0] at H
   by_cases dl:lz=true
   ·subst dl
    have H1:((newellaw12_awake.f b6).bind fun kc=>(some kc))=some r:=by rw[if_pos rfl] at H;exact H
    clear H
    have H:=H1
    clear H1
    replace H:=Option.bind_eq_some_iff.mp H
    obtain⟨kc,pm,H⟩:=H
    replace H:(some kc)=some r:=H
    have sn:=Aside0.mk pm
    clear pm
    obtain rfl:=Option.some.inj H
    go_wp2_with (first|((with_reducible refine Qv (f:=10) rfl ?_);refine Ze (some 24) rfl rfl Tryd.func10 kr rfl #[] rfl qM ?_;(with_reducible refine(newellaw12_awake.calls b6  kc _ sn.out (by first|exact HTAB.out|((repeat(first|exact HTAB.out|(with_reducible refine Laid.Zo ?_ _)|(with_reducible refine Laid.Zn ?_ _)|(with_reducible refine Laid.Zq ?_)));done)|(refine Laid.Zk HTAB.out ?_;(repeat(first|(with_reducible first|exact HB.out|apply Qe|apply Qa|apply Qf)|exact HB.out|(refine Qg ?_ (Aside0.out (by assumption)))))))).mono ?_);rintro e m0 ⟨rfl,hb⟩;refine⟨_,rfl, ?_⟩;replace ι :=sBk ι hb;replace X:=sBk X hb;replace HB:=sHb hb;(try clear hb);(try clear az);(try clear hk);(try clear hi)))
    go_ret
    exact⟨by first|rfl|(simp[Qo,Qn] <;> rfl)|(simp[*,Qo,Qn] <;> rfl),by repeat(first|(with_reducible first|exact HB.out|apply Qe|apply Qa|apply Qf|refine Qg ?_ bm.out|refine Qg ?_ bn.out)|exact HB.out)⟩
   ·replace dl:=Bool.eq_false_iff.mpr dl
    subst dl
    have H1:((newellaw12_Own.f J B).bind fun k5=>((flash_Write.f b6 k5.1 k5.2 ζ κ μ η a2).bind fun bw=>((newelref12_Write.f b6 J B ζ κ μ η a2).bind fun aw=>((newellaw12_Own.f J B).bind fun di=>((flash_Recover.f b6 di.1 di.2).bind fun au=>((newelref12_Recover.f b6 J B).bind fun al=>(if bw.2.2.2=aw.2.2.2 then (if (bw.2.2.1 != aw.2.2.1)=true then (none) else (if ((au.2.2.2.2.2==0) != al.2.2.2.2.2)=true then (none) else (if (au.2.2.2.2.1 != al.2.2.2.2.1)=true then (none) else ((newelref12_Same.f b6 au.1 au.2.1 au.2.2.1 au.2.2.2.1 al.1 al.2.1 al.2.2.1 al.2.2.2.1).bind fun da=>(if da=true then (if al.2.2.2.2.2=true then (newellaw12_FlashWrites.j1 b6 bw.2.2.2 false bw.1 bw.2.1 aw.1 aw.2.1 aw.2.2.1 aw.2.2.2) else (newellaw12_FlashWrites.j1 b6 bw.2.2.2 (au.2.2.2.2.2 != 123) bw.1 bw.2.1 aw.1 aw.2.1 aw.2.2.1 aw.2.2.2)) else (none)))))) else (none))))))))=some r:=by rw[if_neg (show ¬ (false=true) by decide)] at H;exact H
    clear H
    have H:=H1
    clear H1
    replace H:=Option.bind_eq_some_iff.mp H
    obtain⟨⟨dm,dn⟩,pn,H⟩:=H
    replace H:((flash_Write.f b6 dm dn ζ κ μ η a2).bind fun bw=>((newelref12_Write.f b6 J B ζ κ μ η a2).bind fun aw=>((newellaw12_Own.f J B).bind fun di=>((flash_Recover.f b6 di.1 di.2).bind fun au=>((newelref12_Recover.f b6 J B).bind fun al=>(if bw.2.2.2=aw.2.2.2 then (if (bw.2.2.1 != aw.2.2.1)=true then (none) else (if ((au.2.2.2.2.2==0) != al.2.2.2.2.2)=true then (none) else (if (au.2.2.2.2.1 != al.2.2.2.2.1)=true then (none) else ((newelref12_Same.f b6 au.1 au.2.1 au.2.2.1 au.2.2.2.1 al.1 al.2.1 al.2.2.1 al.2.2.2.1).bind fun da=>(if da=true then (if al.2.2.2.2.2=true then (newellaw12_FlashWrites.j1 b6 bw.2.2.2 false bw.1 bw.2.1 aw.1 aw.2.1 aw.2.2.1 aw.2.2.2) else (newellaw12_FlashWrites.j1 b6 bw.2.2.2 (au.2.2.2.2.2 != 123) bw.1 bw.2.1 aw.1 aw.2.1 aw.2.2.1 aw.2.2.2)) else (none)))))) else (none)))))))=some r:=H
    have r1:=Aside0.mk pn
    clear pn
    replace H:=Option.bind_eq_some_iff.mp H
    obtain⟨⟨φ,χ,dt,bj⟩,m9,H⟩:=H
    replace H:((newelref12_Write.f b6 J B ζ κ μ η a2).bind fun aw=>((newellaw12_Own.f J B).bind fun di=>((flash_Recover.f b6 di.1 di.2).bind fun au=>((newelref12_Recover.f b6 J B).bind fun al=>(if bj=aw.2.2.2 then (if (dt != aw.2.2.1)=true then (none) else (if ((au.2.2.2.2.2==0) != al.2.2.2.2.2)=true then (none) else (if (au.2.2.2.2.1 != al.2.2.2.2.1)=true then (none) else ((newelref12_Same.f b6 au.1 au.2.1 au.2.2.1 au.2.2.2.1 al.1 al.2.1 al.2.2.1 al.2.2.2.1).bind fun da=>(if da=true then (if al.2.2.2.2.2=true then (newellaw12_FlashWrites.j1 b6 bj false φ χ aw.1 aw.2.1 aw.2.2.1 aw.2.2.2) else (newellaw12_FlashWrites.j1 b6 bj (au.2.2.2.2.2 != 123) φ χ aw.1 aw.2.1 aw.2.2.1 aw.2.2.2)) else (none)))))) else (none))))))=some r:=H
    have cg:=Aside0.mk m9
    clear m9
    replace H:=Option.bind_eq_some_iff.mp H
    obtain⟨⟨ap,an,av,b0⟩,po,H⟩:=H
    replace H:((newellaw12_Own.f J B).bind fun di=>((flash_Recover.f b6 di.1 di.2).bind fun au=>((newelref12_Recover.f b6 J B).bind fun al=>(if bj=b0 then (if (dt != av)=true then (none) else (if ((au.2.2.2.2.2==0) != al.2.2.2.2.2)=true then (none) else (if (au.2.2.2.2.1 != al.2.2.2.2.1)=true then (none) else ((newelref12_Same.f b6 au.1 au.2.1 au.2.2.1 au.2.2.2.1 al.1 al.2.1 al.2.2.1 al.2.2.2.1).bind fun da=>(if da=true then (if al.2.2.2.2.2=true then (newellaw12_FlashWrites.j1 b6 bj false φ χ ap an av b0) else (newellaw12_FlashWrites.j1 b6 bj (au.2.2.2.2.2 != 123) φ χ ap an av b0)) else (none)))))) else (none)))))=some r:=H
    have so:=Aside0.mk po
    clear po
    replace H:=Option.bind_eq_some_iff.mp H
    obtain⟨⟨d8,d9⟩,m1,H⟩:=H
    replace H:((flash_Recover.f b6 d8 d9).bind fun au=>((newelref12_Recover.f b6 J B).bind fun al=>(if bj=b0 then (if (dt != av)=true then (none) else (if ((au.2.2.2.2.2==0) != al.2.2.2.2.2)=true then (none) else (if (au.2.2.2.2.1 != al.2.2.2.2.1)=true then (none) else ((newelref12_Same.f b6 au.1 au.2.1 au.2.2.1 au.2.2.2.1 al.1 al.2.1 al.2.2.1 al.2.2.2.1).bind fun da=>(if da=true then (if al.2.2.2.2.2=true then (newellaw12_FlashWrites.j1 b6 bj false φ χ ap an av b0) else (newellaw12_FlashWrites.j1 b6 bj (au.2.2.2.2.2 != 123) φ χ ap an av b0)) else (none)))))) else (none))))=some r:=H
    have oc:=Aside0.mk m1
    clear m1
    replace H:=Option.bind_eq_some_iff.mp H
    obtain⟨⟨cf,ch,ci,ao,jd,e0⟩,m2,H⟩:=H
    replace H:((newelref12_Recover.f b6 J B).bind fun al=>(if bj=b0 then (if (dt != av)=true then (none) else (if ((e0==0) != al.2.2.2.2.2)=true then (none) else (if (jd != al.2.2.2.2.1)=true then (none) else ((newelref12_Same.f b6 cf ch ci ao al.1 al.2.1 al.2.2.1 al.2.2.2.1).bind fun da=>(if da=true then (if al.2.2.2.2.2=true then (newellaw12_FlashWrites.j1 b6 bj false φ χ ap an av b0) else (newellaw12_FlashWrites.j1 b6 bj (e0 != 123) φ χ ap an av b0)) else (none)))))) else (none)))=some r:=H
    have mo:=Aside0.mk m2
    clear m2
    replace H:=Option.bind_eq_some_iff.mp H
    obtain⟨⟨b9,bc,bg,cy,bk,e3⟩,ma,H⟩:=H
    replace H:(if bj=b0 then (if (dt != av)=true then (none) else (if ((e0==0) != e3)=true then (none) else (if (jd != bk)=true then (none) else ((newelref12_Same.f b6 cf ch ci ao b9 bc bg cy).bind fun da=>(if da=true then (if e3=true then (newellaw12_FlashWrites.j1 b6 bj false φ χ ap an av b0) else (newellaw12_FlashWrites.j1 b6 bj (e0 != 123) φ χ ap an av b0)) else (none)))))) else (none))=some r:=H
    have pk:=Aside0.mk ma
    clear ma
    have nl:=Aside0.mk H
    clear H
    try go_wp2
    replace ι :=Aside0.mk (Qd ι.out)
    replace X:=Aside0.mk (Qd X.out)
    replace HB:=Aside0.mk (Qf HB.out)
    refine Yp (n:=13) (S:=fun w'=>w'.cell? ⟨ac,0,none⟩=some (.slice γ J.length δ)∧w'.cell? ⟨ac,1,none⟩=some (.slice Y B.length Z)∧w'.cell? ⟨a8,0,none⟩=some (.int .i64 ζ)∧w'.cell? ⟨a8,1,none⟩=some (.int .i64 κ)∧w'.cell? ⟨a8,2,none⟩=some (.int .i64 μ)∧w'.cell? ⟨a8,3,none⟩=some (.slice a6 η.length a7)) (ds:=[]) #[false,false,false,false,false,false,false,false,false,false,false,false,false] kr rfl rfl ⟨(Q3 ι.out 0).trans rfl,(Q3 ι.out 1).trans rfl,(Q3 X.out 0).trans rfl,(Q3 X.out 1).trans rfl,(Q3 X.out 2).trans rfl,(Q3 X.out 3).trans rfl⟩ (fun hHeld=>?_);refine Xh newellaw12_FlashWrites.tab3 newellaw12_FlashWrites.bits3 (fun HT_ HW_=>?_)
    generalize wc.drew=sk at ι X HB hHeld ⊢
    refine qP 3 (some 29) (bN 13 8) HT_ ?_
    refine qT 0 (some 26) (bN 13 9) HT_ HW_ hHeld ?_
    refine qT 2 (some 28) (bN 13 13) HT_ HW_ hHeld ?_
    refine Wm (σ:=Value×Value×Value×Value×Nat) 3 (bN 13 1023) (fun s_=>[(27,.agg #[s_.1,s_.2.1]),(30,.tuple #[.agg #[s_.2.2.1,s_.2.2.2.1],.bool dt,.int .i64 bj]),(7,.pointer (some ⟨s_.2.2.2.2,0,none⟩)),(25,.tuple #[.agg #[s_.2.2.1,s_.2.2.2.1],.bool dt,.int .i64 bj]),(31,.agg #[s_.2.2.1,s_.2.2.2.1]),(32,.bool dt),(33,.int .i64 bj)]) (fun s_ w'=>(w'.cell? ⟨ac,0,none⟩=some (.slice γ J.length δ)∧w'.cell? ⟨ac,1,none⟩=some (.slice Y B.length Z)∧w'.cell? ⟨a8,0,none⟩=some (.int .i64 ζ)∧w'.cell? ⟨a8,1,none⟩=some (.int .i64 κ)∧w'.cell? ⟨a8,2,none⟩=some (.int .i64 μ)∧w'.cell? ⟨a8,3,none⟩=some (.slice a6 η.length a7))∧(Kd.R (Kd.int .u8) 5 w' w.heap.size (fun k_=>some k_≠(s_.2.1:Value).ownBlock∧some k_≠(s_.2.2.1:Value).ownBlock∧some k_≠(s_.2.2.2.1:Value).ownBlock) s_.1 dm)∧(Kd.R (Kd.int .u8) 5 w' w.heap.size (fun k_=>some k_≠(s_.1:Value).ownBlock∧some k_≠(s_.2.2.1:Value).ownBlock∧some k_≠(s_.2.2.2.1:Value).ownBlock) s_.2.1 dn)∧(Kd.R (Kd.int .u8) 5 w' w.heap.size (fun k_=>some k_≠(s_.1:Value).ownBlock∧some k_≠(s_.2.1:Value).ownBlock∧some k_≠(s_.2.2.2.1:Value).ownBlock) s_.2.2.1 φ)∧(Kd.R (Kd.int .u8) 5 w' w.heap.size (fun k_=>some k_≠(s_.1:Value).ownBlock∧some k_≠(s_.2.1:Value).ownBlock∧some k_≠(s_.2.2.1:Value).ownBlock) s_.2.2.2.1 χ)∧(w'.heap[ac]?=some (.cells #[.slice γ J.length δ,.slice Y B.length Z] 24 (0,0)))∧(w'.heap[a8]?=some (.cells #[.int .i64 ζ,.int .i64 κ,.int .i64 μ,.slice a6 η.length a7] 26 (0,0)))∧(w'.heap[s_.2.2.2.2]?=some (.cells #[.slice none 0 0,.slice none 0 0] 24 (0,0)))∧(w.heap.size≤s_.2.2.2.2)∧(w.heap.size≤s_.2.2.2.2)∧(ac≠s_.2.2.2.2)∧(s_.2.2.2.2≠ac)∧(a8≠s_.2.2.2.2)∧(s_.2.2.2.2≠a8)∧(Below w.heap.size w w')) ?_ ?_
    rotate_left
    ·intro hCont
     refine Uq (i:=1) (j:=9) (Ni:=some 27) (Nj:=some 7) (bN 13 15) (bN 13 525) rfl rfl rfl rfl (Ju HT_.out kr) (by decide) (by decide) (fun K hK=>?_) (fun K hK=>?_)
     ·skip
      refine Jh Tryd.func12 kr rfl #[.agg #[.slice γ J.length δ,.slice Y B.length Z]] (by rfl) rfl rfl qM ?_
      with_reducible refine(newellaw12_Own.calls _ _ J _ _ B dm dn _ ?side1 ?side2 ?side3 ?side4 r1.out).mono ?_
      (case side1=>exact(Kd.Zb ct.out HB.out))
      (case side2=>exact d7.out)
      (case side3=>exact(Kd.Zb cv.out HB.out))
      (case side4=>exact cz.out)
      rintro e pj ⟨ck,cm,rfl,θ,ce,hb⟩
      refine⟨_,rfl, ?_⟩
      have a0:=Aside0.mk (Kd.Zd θ (Qj HB.out))
      have a1:=Aside0.mk (Kd.Zd ce (Qj HB.out))
      replace ι :=sBk ι hb
      replace X:=sBk X hb
      replace HB:=sHb hb
      (try clear hb)
      (try clear az)
      (try clear hk)
      (try clear hi)
      (try clear θ)
      (try clear ce)
      obtain⟨pp,pq,pr⟩:=Kd.Zf a0.out
      (first|subst pr|(injection pr with ax br ay;have bs:=ax.symm;have bu:=ay.symm;clear ax br ay;subst bs;subst bu))
      obtain⟨ge,gf,gg⟩:=Kd.Zf a1.out
      (first|subst gg|(injection gg with ax br ay;have bs:=ax.symm;have bu:=ay.symm;clear ax br ay;subst bs;subst bu))
      refine hK.out _ _ ⟨qc ι,qc ι,qc X,qc X,qc X,qc X⟩ (fun hHeld=>?_)
      clear hK K
      refine qN (some 27) ?_
      refine Uq (i:=4) (j:=9) (Ni:=some 30) (Nj:=some 7) (bN 13 31) (bN 13 527) rfl rfl rfl rfl (Ju HT_.out kr) (by decide) (by decide) (fun K hK=>?_) (fun K hK=>?_)
      ·skip
       refine Jh Tryd.func11 kr rfl #[.agg #[.slice pp dm.length pq,.slice ge dn.length gf],.agg #[.int .i64 ζ,.int .i64 κ,.int .i64 μ,.slice a6 η.length a7],.int .i64 a2] (by rfl) rfl rfl qM ?_
       with_reducible refine(flash_Write.calls b6 _ _ dm _ _ dn ζ κ μ _ _ η a2 φ χ dt bj _ ?side1 ?side2 ?side3 ?side4 ?side5 ?side6 cg.out (by first|exact HTAB.out|((repeat(first|exact HTAB.out|(with_reducible refine Laid.Zo ?_ _)|(with_reducible refine Laid.Zn ?_ _)|(with_reducible refine Laid.Zq ?_)));done)|(refine Laid.Zk HTAB.out ?_;(repeat(first|(with_reducible first|exact HB.out|apply Qe|apply Qa|apply Qf)|exact HB.out|(refine Qg ?_ (Aside0.out (by assumption)))))))).mono ?_
       (case side1=>exact(Kd.Q4 a0.out).2.2)
       (case side2=>exact(Kd.Q4 a0.out).2.1)
       (case side3=>exact(Kd.Q4 a1.out).2.2)
       (case side4=>exact(Kd.Q4 a1.out).2.1)
       (case side5=>exact(Kd.Zb d5.out HB.out))
       (case side6=>exact d6.out)
       rintro e u9 ⟨f6,f7,rfl,θ,ce,hb⟩
       refine⟨_,rfl, ?_⟩
       have ag:=Aside0.mk (Kd.Zd (Kd.Zi (Kd.Zi θ (Kd.Zp a0.out)) (Kd.Zp a1.out)) (Qj HB.out))
       have ah:=Aside0.mk (Kd.Zd (Kd.Zi (Kd.Zi ce (Kd.Zp a0.out)) (Kd.Zp a1.out)) (Qj HB.out))
       replace a0:=Aside0.mk (Kd.Qu (Kd.Xa (Kd.Xa (Kd.Jd a0.out hb) (Kd.Q5 θ)) (Kd.Q5 ce)) (fun _ h_=>h_.1))
       replace a1:=Aside0.mk (Kd.Qu (Kd.Xa (Kd.Xa (Kd.Jd a1.out hb) (Kd.Q5 θ)) (Kd.Q5 ce)) (fun _ h_=>h_.1))
       replace ι :=sBk ι hb
       replace X:=sBk X hb
       replace HB:=sHb hb
       (try clear hb)
       (try clear az)
       (try clear hk)
       (try clear hi)
       (try clear θ)
       (try clear ce)
       refine hK.out _ _ ⟨qc ι,qc ι,qc X,qc X,qc X,qc X⟩ (fun hHeld=>?_)
       clear hK K
       refine qN (some 30) ?_
       refine qP 5 (some 25) (bN 13 63) HT_ ?_
       refine qP 6 (some 31) (bN 13 127) HT_ ?_
       refine qP 7 (some 32) (bN 13 255) HT_ ?_
       refine qP 8 (some 33) (bN 13 511) HT_ ?_
       refine Ye (i:=9) (N:=some 7) (bN 13 1023) rfl rfl (Z3 HT_.out kr) (by decide) (fun K hK=>?_)
       refine Xy ?hg (N:=7) ?hd (cs:=#[.slice none 0 0,.slice none 0 0]) (t:=24) ?hr ?_;(case hd=>rfl);(case hg=>rfl);(case hr=>go_simp <;> rfl)
       intro ω hg oe hbox hb
       have a3:=Aside0.mk hbox
       have dq:=sGe hg
       have ba:=sGe hg
       have cd:=sNl ι hg
       have cn:=sNg ι hg
       have bv:=sNl X hg
       have co:=sNg X hg
       replace a0:=sRb a0 hb
       replace a1:=sRb a1 hb
       replace ag:=sRb ag hb
       replace ah:=sRb ah hb
       replace ι :=sBk ι hb
       replace X:=sBk X hb
       replace HB:=sHb hb
       clear hb hbox hg
       refine hK.out _ _ ⟨qc ι,qc ι,qc X,qc X,qc X,qc X⟩ (fun hHeld=>?_)
       clear hK K
       refine qN (some 7) ?_
       exact Yt (by simp only[Xv,Act.put,qS]) (hCont (.slice pp dm.length pq,.slice ge dn.length gf,f6,f7,ω) _ ⟨hHeld,(by(with_reducible repeat first|apply Kd.Qi|apply Kd.Qh|apply Kd.Ql);exact Kd.Qu a0.out (fun _ hk=>⟨hk.1.1,⟨hk.1.2,hk.2⟩⟩)),(by(with_reducible repeat first|apply Kd.Qi|apply Kd.Qh|apply Kd.Ql);exact Kd.Qu a1.out (fun _ hk=>⟨hk.1.1,⟨hk.1.2,hk.2⟩⟩)),(by(with_reducible repeat first|apply Kd.Qi|apply Kd.Qh|apply Kd.Ql);exact Kd.Qu ag.out (fun _ hk=>⟨hk.1.2,⟨hk.2,hk.1.1⟩⟩)),(by(with_reducible repeat first|apply Kd.Qi|apply Kd.Qh|apply Kd.Ql);exact Kd.Qu ah.out (fun _ hk=>⟨hk.1.2,⟨hk.2,hk.1.1⟩⟩)),ι.out,X.out,a3.out,dq.out,ba.out,cd.out,cn.out,bv.out,co.out,HB.out⟩)
      ·skip
       refine Xy ?hg (N:=7) ?hd (cs:=#[.slice none 0 0,.slice none 0 0]) (t:=24) ?hr ?_;(case hd=>rfl);(case hg=>rfl);(case hr=>go_simp <;> rfl)
       intro ω hg r4 hbox hb
       have a3:=Aside0.mk hbox
       have dq:=sGe hg
       have ba:=sGe hg
       have cd:=sNl ι hg
       have cn:=sNg ι hg
       have bv:=sNl X hg
       have co:=sNg X hg
       replace a0:=sRb a0 hb
       replace a1:=sRb a1 hb
       replace ι :=sBk ι hb
       replace X:=sBk X hb
       replace HB:=sHb hb
       clear hb hbox hg
       obtain⟨ge,gf,gg⟩:=Kd.Zf a0.out
       (first|subst gg|(injection gg with ax br ay;have bs:=ax.symm;have bu:=ay.symm;clear ax br ay;subst bs;subst bu))
       obtain⟨ca,cb,jc⟩:=Kd.Zf a1.out
       (first|subst jc|(injection jc with ax br ay;have bs:=ax.symm;have bu:=ay.symm;clear ax br ay;subst bs;subst bu))
       refine hK.out _ _ ⟨qc ι,qc ι,qc X,qc X,qc X,qc X⟩ (fun hHeld=>?_)
       clear hK K
       refine qN (some 7) ?_
       refine Ye (i:=4) (N:=some 30) (bN 13 543) rfl rfl (Z3 HT_.out kr) (by decide) (fun K hK=>?_)
       refine Jh Tryd.func11 kr rfl #[.agg #[.slice ge dm.length gf,.slice ca dn.length cb],.agg #[.int .i64 ζ,.int .i64 κ,.int .i64 μ,.slice a6 η.length a7],.int .i64 a2] (by rfl) rfl rfl qM ?_
       with_reducible refine(flash_Write.calls b6 _ _ dm _ _ dn ζ κ μ _ _ η a2 φ χ dt bj _ ?side1 ?side2 ?side3 ?side4 ?side5 ?side6 cg.out (by first|exact HTAB.out|((repeat(first|exact HTAB.out|(with_reducible refine Laid.Zo ?_ _)|(with_reducible refine Laid.Zn ?_ _)|(with_reducible refine Laid.Zq ?_)));done)|(refine Laid.Zk HTAB.out ?_;(repeat(first|(with_reducible first|exact HB.out|apply Qe|apply Qa|apply Qf)|exact HB.out|(refine Qg ?_ (Aside0.out (by assumption)))))))).mono ?_
       (case side1=>exact(Kd.Q4 a0.out).2.2)
       (case side2=>exact(Kd.Q4 a0.out).2.1)
       (case side3=>exact(Kd.Q4 a1.out).2.2)
       (case side4=>exact(Kd.Q4 a1.out).2.1)
       (case side5=>exact(Kd.Zb d5.out HB.out))
       (case side6=>exact d6.out)
       rintro e oe ⟨f6,f7,rfl,θ,ce,hb⟩
       refine⟨_,rfl, ?_⟩
       have ag:=Aside0.mk (Kd.Zd (Kd.Zi (Kd.Zi θ (Kd.Zp a0.out)) (Kd.Zp a1.out)) (Qj HB.out))
       have ah:=Aside0.mk (Kd.Zd (Kd.Zi (Kd.Zi ce (Kd.Zp a0.out)) (Kd.Zp a1.out)) (Qj HB.out))
       replace a0:=Aside0.mk (Kd.Qu (Kd.Xa (Kd.Xa (Kd.Jd a0.out hb) (Kd.Q5 θ)) (Kd.Q5 ce)) (fun _ h_=>h_.1))
       replace a1:=Aside0.mk (Kd.Qu (Kd.Xa (Kd.Xa (Kd.Jd a1.out hb) (Kd.Q5 θ)) (Kd.Q5 ce)) (fun _ h_=>h_.1))
       replace ι :=sBk ι hb
       replace X:=sBk X hb
       replace a3:=sBk a3 hb
       replace HB:=sHb hb
       (try clear hb)
       (try clear az)
       (try clear hk)
       (try clear hi)
       (try clear θ)
       (try clear ce)
       refine hK.out _ _ ⟨qc ι,qc ι,qc X,qc X,qc X,qc X⟩ (fun hHeld=>?_)
       clear hK K
       refine qN (some 30) ?_
       refine qP 5 (some 25) (bN 13 575) HT_ ?_
       refine qP 6 (some 31) (bN 13 639) HT_ ?_
       refine qP 7 (some 32) (bN 13 767) HT_ ?_
       refine qP 8 (some 33) (bN 13 1023) HT_ ?_
       exact Yt (by simp only[Xv,Act.put,qS]) (hCont (.slice ge dm.length gf,.slice ca dn.length cb,f6,f7,ω) _ ⟨hHeld,(by(with_reducible repeat first|apply Kd.Qi|apply Kd.Qh|apply Kd.Ql);exact Kd.Qu a0.out (fun _ hk=>⟨hk.1.1,⟨hk.1.2,hk.2⟩⟩)),(by(with_reducible repeat first|apply Kd.Qi|apply Kd.Qh|apply Kd.Ql);exact Kd.Qu a1.out (fun _ hk=>⟨hk.1.1,⟨hk.1.2,hk.2⟩⟩)),(by(with_reducible repeat first|apply Kd.Qi|apply Kd.Qh|apply Kd.Ql);exact Kd.Qu ag.out (fun _ hk=>⟨hk.1.2,⟨hk.2,hk.1.1⟩⟩)),(by(with_reducible repeat first|apply Kd.Qi|apply Kd.Qh|apply Kd.Ql);exact Kd.Qu ah.out (fun _ hk=>⟨hk.1.2,⟨hk.2,hk.1.1⟩⟩)),ι.out,X.out,a3.out,dq.out,ba.out,cd.out,cn.out,bv.out,co.out,HB.out⟩)
     ·skip
      refine Xy ?hg (N:=7) ?hd (cs:=#[.slice none 0 0,.slice none 0 0]) (t:=24) ?hr ?_;(case hd=>rfl);(case hg=>rfl);(case hr=>go_simp <;> rfl)
      intro ω hg pj hbox hb
      have a3:=Aside0.mk hbox
      have dq:=sGe hg
      have ba:=sGe hg
      have cd:=sNl ι hg
      have cn:=sNg ι hg
      have bv:=sNl X hg
      have co:=sNg X hg
      replace ι :=sBk ι hb
      replace X:=sBk X hb
      replace HB:=sHb hb
      clear hb hbox hg
      refine hK.out _ _ ⟨qc ι,qc ι,qc X,qc X,qc X,qc X⟩ (fun hHeld=>?_)
      clear hK K
      refine qN (some 7) ?_
      refine Ye (i:=1) (N:=some 27) (bN 13 527) rfl rfl (Z3 HT_.out kr) (by decide) (fun K hK=>?_)
      refine Jh Tryd.func12 kr rfl #[.agg #[.slice γ J.length δ,.slice Y B.length Z]] (by rfl) rfl rfl qM ?_
      with_reducible refine(newellaw12_Own.calls _ _ J _ _ B dm dn _ ?side1 ?side2 ?side3 ?side4 r1.out).mono ?_
      (case side1=>exact(Kd.Zb ct.out HB.out))
      (case side2=>exact d7.out)
      (case side3=>exact(Kd.Zb cv.out HB.out))
      (case side4=>exact cz.out)
      rintro e r4 ⟨ck,cm,rfl,θ,ce,hb⟩
      refine⟨_,rfl, ?_⟩
      have a0:=Aside0.mk (Kd.Zd θ (Qj HB.out))
      have a1:=Aside0.mk (Kd.Zd ce (Qj HB.out))
      replace ι :=sBk ι hb
      replace X:=sBk X hb
      replace a3:=sBk a3 hb
      replace HB:=sHb hb
      (try clear hb)
      (try clear az)
      (try clear hk)
      (try clear hi)
      (try clear θ)
      (try clear ce)
      obtain⟨ge,gf,gg⟩:=Kd.Zf a0.out
      (first|subst gg|(injection gg with ax br ay;have bs:=ax.symm;have bu:=ay.symm;clear ax br ay;subst bs;subst bu))
      obtain⟨ca,cb,jc⟩:=Kd.Zf a1.out
      (first|subst jc|(injection jc with ax br ay;have bs:=ax.symm;have bu:=ay.symm;clear ax br ay;subst bs;subst bu))
      refine hK.out _ _ ⟨qc ι,qc ι,qc X,qc X,qc X,qc X⟩ (fun hHeld=>?_)
      clear hK K
      refine qN (some 27) ?_
      refine Ye (i:=4) (N:=some 30) (bN 13 543) rfl rfl (Z3 HT_.out kr) (by decide) (fun K hK=>?_)
      refine Jh Tryd.func11 kr rfl #[.agg #[.slice ge dm.length gf,.slice ca dn.length cb],.agg #[.int .i64 ζ,.int .i64 κ,.int .i64 μ,.slice a6 η.length a7],.int .i64 a2] (by rfl) rfl rfl qM ?_
      with_reducible refine(flash_Write.calls b6 _ _ dm _ _ dn ζ κ μ _ _ η a2 φ χ dt bj _ ?side1 ?side2 ?side3 ?side4 ?side5 ?side6 cg.out (by first|exact HTAB.out|((repeat(first|exact HTAB.out|(with_reducible refine Laid.Zo ?_ _)|(with_reducible refine Laid.Zn ?_ _)|(with_reducible refine Laid.Zq ?_)));done)|(refine Laid.Zk HTAB.out ?_;(repeat(first|(with_reducible first|exact HB.out|apply Qe|apply Qa|apply Qf)|exact HB.out|(refine Qg ?_ (Aside0.out (by assumption)))))))).mono ?_
      (case side1=>exact(Kd.Q4 a0.out).2.2)
      (case side2=>exact(Kd.Q4 a0.out).2.1)
      (case side3=>exact(Kd.Q4 a1.out).2.2)
      (case side4=>exact(Kd.Q4 a1.out).2.1)
      (case side5=>exact(Kd.Zb d5.out HB.out))
      (case side6=>exact d6.out)
      rintro e oe ⟨f6,f7,rfl,θ,ce,hb⟩
      refine⟨_,rfl, ?_⟩
      have ag:=Aside0.mk (Kd.Zd (Kd.Zi (Kd.Zi θ (Kd.Zp a0.out)) (Kd.Zp a1.out)) (Qj HB.out))
      have ah:=Aside0.mk (Kd.Zd (Kd.Zi (Kd.Zi ce (Kd.Zp a0.out)) (Kd.Zp a1.out)) (Qj HB.out))
      replace a0:=Aside0.mk (Kd.Qu (Kd.Xa (Kd.Xa (Kd.Jd a0.out hb) (Kd.Q5 θ)) (Kd.Q5 ce)) (fun _ h_=>h_.1))
      replace a1:=Aside0.mk (Kd.Qu (Kd.Xa (Kd.Xa (Kd.Jd a1.out hb) (Kd.Q5 θ)) (Kd.Q5 ce)) (fun _ h_=>h_.1))
      replace ι :=sBk ι hb
      replace X:=sBk X hb
      replace a3:=sBk a3 hb
      replace HB:=sHb hb
      (try clear hb)
      (try clear az)
      (try clear hk)
      (try clear hi)
      (try clear θ)
      (try clear ce)
      refine hK.out _ _ ⟨qc ι,qc ι,qc X,qc X,qc X,qc X⟩ (fun hHeld=>?_)
      clear hK K
      refine qN (some 30) ?_
      refine qP 5 (some 25) (bN 13 575) HT_ ?_
      refine qP 6 (some 31) (bN 13 639) HT_ ?_
      refine qP 7 (some 32) (bN 13 767) HT_ ?_
      refine qP 8 (some 33) (bN 13 1023) HT_ ?_
      exact Yt (by simp only[Xv,Act.put,qS]) (hCont (.slice ge dm.length gf,.slice ca dn.length cb,f6,f7,ω) _ ⟨hHeld,(by(with_reducible repeat first|apply Kd.Qi|apply Kd.Qh|apply Kd.Ql);exact Kd.Qu a0.out (fun _ hk=>⟨hk.1.1,⟨hk.1.2,hk.2⟩⟩)),(by(with_reducible repeat first|apply Kd.Qi|apply Kd.Qh|apply Kd.Ql);exact Kd.Qu a1.out (fun _ hk=>⟨hk.1.1,⟨hk.1.2,hk.2⟩⟩)),(by(with_reducible repeat first|apply Kd.Qi|apply Kd.Qh|apply Kd.Ql);exact Kd.Qu ag.out (fun _ hk=>⟨hk.1.2,⟨hk.2,hk.1.1⟩⟩)),(by(with_reducible repeat first|apply Kd.Qi|apply Kd.Qh|apply Kd.Ql);exact Kd.Qu ah.out (fun _ hk=>⟨hk.1.2,⟨hk.2,hk.1.1⟩⟩)),ι.out,X.out,a3.out,dq.out,ba.out,cd.out,cn.out,bv.out,co.out,HB.out⟩)
    rintro⟨ck,cm,f6,f7,ω⟩ d1 ⟨hS_,g2,g3,g4,g5,g6,lq,lr,ls,lu,e5,m5,m6,m7,m8⟩
    have D:Aside0 (Kd.R (Kd.int .u8) 5 d1 w.heap.size (fun k_=>some k_≠(cm:Value).ownBlock∧some k_≠(f6:Value).ownBlock∧some k_≠(f7:Value).ownBlock) ck dm):=⟨g2⟩
    have I:Aside0 (Kd.R (Kd.int .u8) 5 d1 w.heap.size (fun k_=>some k_≠(ck:Value).ownBlock∧some k_≠(f6:Value).ownBlock∧some k_≠(f7:Value).ownBlock) cm dn):=⟨g3⟩
    have O:Aside0 (Kd.R (Kd.int .u8) 5 d1 w.heap.size (fun k_=>some k_≠(ck:Value).ownBlock∧some k_≠(cm:Value).ownBlock∧some k_≠(f7:Value).ownBlock) f6 φ):=⟨g4⟩
    have U:Aside0 (Kd.R (Kd.int .u8) 5 d1 w.heap.size (fun k_=>some k_≠(ck:Value).ownBlock∧some k_≠(cm:Value).ownBlock∧some k_≠(f6:Value).ownBlock) f7 χ):=⟨g5⟩
    have ε :Aside0 (d1.heap[ac]?=some (.cells #[.slice γ J.length δ,.slice Y B.length Z] 24 (0,0))):=⟨g6⟩
    have ν :Aside0 (d1.heap[a8]?=some (.cells #[.int .i64 ζ,.int .i64 κ,.int .i64 μ,.slice a6 η.length a7] 26 (0,0))):=⟨lq⟩
    have ρ:Aside0 (d1.heap[ω]?=some (.cells #[.slice none 0 0,.slice none 0 0] 24 (0,0))):=⟨lr⟩
    have a4:Aside0 (w.heap.size ≤ ω):=⟨ls⟩
    have a5:Aside0 (w.heap.size ≤ ω):=⟨lu⟩
    have ab:Aside0 (ac ≠ ω):=⟨e5⟩
    have am:Aside0 (ω ≠ ac):=⟨m5⟩
    have ar:Aside0 (a8 ≠ ω):=⟨m6⟩
    have b8:Aside0 (ω ≠ a8):=⟨m7⟩
    have bb:Aside0 (Below w.heap.size w d1):=⟨m8⟩
    clear ι
    clear X
    clear HB
    clear g2 g3 g4 g5 g6 lq lr ls lu e5 m5 m6 m7 m8
    have a0:=D
    have a1:=I
    have ag:=O
    have ah:=U
    have ι := ε
    have X:= ν
    have a3:=ρ
    have dq:=a4
    have ba:=a5
    have cd:=ab
    have cn:=am
    have bv:=ar
    have co:=b8
    have HB:=bb
    clear D I O U ε ν ρ a4 a5 ab am ar b8 bb
    have hHeld:d1.cell? ⟨ac,0,none⟩=some (.slice γ J.length δ)∧d1.cell? ⟨ac,1,none⟩=some (.slice Y B.length Z)∧d1.cell? ⟨a8,0,none⟩=some (.int .i64 ζ)∧d1.cell? ⟨a8,1,none⟩=some (.int .i64 κ)∧d1.cell? ⟨a8,2,none⟩=some (.int .i64 μ)∧d1.cell? ⟨a8,3,none⟩=some (.slice a6 η.length a7):=hS_
    obtain⟨ae,af,pu⟩:=Kd.Zf ag.out
    (first|subst pu|(injection pu with ax br ay;have bs:=ax.symm;have bu:=ay.symm;clear ax br ay;subst bs;subst bu))
    obtain⟨aj,ak,pv⟩:=Kd.Zf ah.out
    (first|subst pv|(injection pv with ax br ay;have bs:=ax.symm;have bu:=ay.symm;clear ax br ay;subst bs;subst bu))
    refine Yt (a':=?_) ?_ ?_
    rotate_left
    ·simp only[Xv,Act.put,qS]
     rfl
    refine Ye (i:=10) (N:=none) (bN 13 2047) rfl rfl (Z3 HT_.out kr) (by decide) (fun K hK=>?_)
    have tt:d1.cell? ⟨ω,0,none⟩=some (.slice none 0 0):=(Q3 a3.out 0).trans rfl
    have t9:=Q6 a3.out 0
    have sa:=cd.out
    have sb:=bv.out
    have sc:=cn.out
    have sd:=co.out
    have tu:d1.cell? ⟨ω,1,none⟩=some (.slice none 0 0):=(Q3 a3.out 1).trans rfl
    have ta:=Q6 a3.out 1
    have se:=cd.out
    have sf:=bv.out
    have sg:=cn.out
    have sh:=co.out
    refine J0 (w1:=?_) (by rfl) rfl ?_ ?_
    rotate_left
    ·go_simp
     rfl
    refine hK.out _ _ ⟨(by rw[cell_far,cell_far];all_goals (first|(with_reducible exact hHeld.1)|(with_reducible exact cd.out))),(by rw[cell_far,cell_far];all_goals (first|(with_reducible exact hHeld.2.1)|(with_reducible exact cd.out))),(by rw[cell_far,cell_far];all_goals (first|(with_reducible exact hHeld.2.2.1)|(with_reducible exact bv.out))),(by rw[cell_far,cell_far];all_goals (first|(with_reducible exact hHeld.2.2.2.1)|(with_reducible exact bv.out))),(by rw[cell_far,cell_far];all_goals (first|(with_reducible exact hHeld.2.2.2.2.1)|(with_reducible exact bv.out))),(by rw[cell_far,cell_far];all_goals (first|(with_reducible exact hHeld.2.2.2.2.2)|(with_reducible exact bv.out)))⟩ (fun hHeld=>?_)
    clear hK K
    refine qP 11 (some 8) (bN 13 4095) HT_ ?_
    refine qP 12 (some 9) (bN 13 8191) HT_ ?_
    refine Jc (Yi HT_.out kr) ?_
    have D:Aside0 (Kd.R (Kd.int .u8) 5 ((d1.setCell ⟨ω,0,none⟩ (.slice ae φ.length af)).setCell ⟨ω,1,none⟩ (.slice aj χ.length ak)) w.heap.size (fun k_=>some k_≠(cm:Value).ownBlock∧some k_≠(.slice ae φ.length af:Value).ownBlock∧some k_≠(.slice aj χ.length ak:Value).ownBlock) ck dm):=⟨by(with_reducible repeat first|apply Kd.Qi|apply Kd.Qh|apply Kd.Ql);exact Kd.Qu (Kd.Qm (Kd.Qm (Kd.Qy a0.out a3.out (by decide)) (fun _ hk=>hk.2) _) (fun _ hk=>hk.2) _) (fun _ hk=>⟨hk.1.1,⟨hk.1.2.1,hk.1.2.2⟩⟩)⟩
    have I:Aside0 (Kd.R (Kd.int .u8) 5 ((d1.setCell ⟨ω,0,none⟩ (.slice ae φ.length af)).setCell ⟨ω,1,none⟩ (.slice aj χ.length ak)) w.heap.size (fun k_=>some k_≠(ck:Value).ownBlock∧some k_≠(.slice ae φ.length af:Value).ownBlock∧some k_≠(.slice aj χ.length ak:Value).ownBlock) cm dn):=⟨by(with_reducible repeat first|apply Kd.Qi|apply Kd.Qh|apply Kd.Ql);exact Kd.Qu (Kd.Qm (Kd.Qm (Kd.Qy a1.out a3.out (by decide)) (fun _ hk=>hk.2) _) (fun _ hk=>hk.2) _) (fun _ hk=>⟨hk.1.1,⟨hk.1.2.1,hk.1.2.2⟩⟩)⟩
    have O:Aside0 (Kd.R (Kd.int .u8) 5 ((d1.setCell ⟨ω,0,none⟩ (.slice ae φ.length af)).setCell ⟨ω,1,none⟩ (.slice aj χ.length ak)) w.heap.size (fun k_=>some k_≠(ck:Value).ownBlock∧some k_≠(cm:Value).ownBlock∧some k_≠(.slice aj χ.length ak:Value).ownBlock) (.slice ae φ.length af) φ):=⟨by(with_reducible repeat first|apply Kd.Qi|apply Kd.Qh|apply Kd.Ql);exact Kd.Qu (Kd.Qm (Kd.Qm (Kd.Qy ag.out a3.out (by decide)) (fun _ hk=>hk.2) _) (fun _ hk=>hk.2) _) (fun _ hk=>⟨hk.1.1,⟨hk.1.2.1,hk.1.2.2⟩⟩)⟩
    have U:Aside0 (Kd.R (Kd.int .u8) 5 ((d1.setCell ⟨ω,0,none⟩ (.slice ae φ.length af)).setCell ⟨ω,1,none⟩ (.slice aj χ.length ak)) w.heap.size (fun k_=>some k_≠(ck:Value).ownBlock∧some k_≠(cm:Value).ownBlock∧some k_≠(.slice ae φ.length af:Value).ownBlock) (.slice aj χ.length ak) χ):=⟨by(with_reducible repeat first|apply Kd.Qi|apply Kd.Qh|apply Kd.Ql);exact Kd.Qu (Kd.Qm (Kd.Qm (Kd.Qy ah.out a3.out (by decide)) (fun _ hk=>hk.2) _) (fun _ hk=>hk.2) _) (fun _ hk=>⟨hk.1.1,⟨hk.1.2.1,hk.1.2.2⟩⟩)⟩
    have ε :Aside0 (((d1.setCell ⟨ω,0,none⟩ (.slice ae φ.length af)).setCell ⟨ω,1,none⟩ (.slice aj χ.length ak)).heap[ac]?=some (.cells #[.slice γ J.length δ,.slice Y B.length Z] 24 (0,0))):=⟨bka ι⟩
    have ν :Aside0 (((d1.setCell ⟨ω,0,none⟩ (.slice ae φ.length af)).setCell ⟨ω,1,none⟩ (.slice aj χ.length ak)).heap[a8]?=some (.cells #[.int .i64 ζ,.int .i64 κ,.int .i64 μ,.slice a6 η.length a7] 26 (0,0))):=⟨bka X⟩
    have ρ:Aside0 (((d1.setCell ⟨ω,0,none⟩ (.slice ae φ.length af)).setCell ⟨ω,1,none⟩ (.slice aj χ.length ak)).heap[ω]?=some (.cells #[.slice ae φ.length af,.slice aj χ.length ak] 24 (0,0))):=⟨by refine Qk (cs:=#[.slice ae φ.length af,.slice none 0 0]) ?_ 1 _ rfl;refine Qk (cs:=#[.slice none 0 0,.slice none 0 0]) ?_ 0 _ rfl;exact a3.out⟩
    have a4:Aside0 (Below w.heap.size w ((d1.setCell ⟨ω,0,none⟩ (.slice ae φ.length af)).setCell ⟨ω,1,none⟩ (.slice aj χ.length ak))):=⟨by repeat(first|(with_reducible first|exact HB.out|apply Qe|apply Qa|apply Qf|refine Qg ?_ bm.out|refine Qg ?_ bn.out|refine Qg ?_ ba.out)|exact HB.out)⟩
    (try clear a0)
    (try clear a1)
    (try clear ag)
    (try clear ah)
    (try clear ι)
    (try clear X)
    (try clear a3)
    (try clear HB)
    generalize((d1.setCell ⟨ω,0,none⟩ (.slice ae φ.length af)).setCell ⟨ω,1,none⟩ (.slice aj χ.length ak))=od at D I O U ε ν ρ a4 ⊢
    have a0:=D
    have a1:=I
    have ag:=O
    have ah:=U
    have ι := ε
    have X:= ν
    have a3:=ρ
    have HB:=a4
    clear D I O U ε ν ρ a4
    have n1:=ga.out
    have n2:=gb.out
    have lv:=cd.out
    have lw:=cn.out
    obtain⟨ei,ej,ek,el⟩:=qD2 ι.out
    have nb:=bv.out
    have nc:=co.out
    obtain⟨gu,gv,gw,kg,gx,gy,gz,kh⟩:=qD4 X.out
    go_upto_region 7 with(first|((with_reducible refine Qv (f:=13) rfl ?_);refine Ze (some 37) rfl rfl Tryd.func13 kr rfl #[.agg #[.slice γ J.length δ,.slice Y B.length Z],.agg #[.int .i64 ζ,.int .i64 κ,.int .i64 μ,.slice a6 η.length a7],.int .i64 a2] rfl (by(try simp only[List.map_toArray,List.map_cons,List.map_nil]);first|done|rfl|(simp only[List.length_drop,List.length_take];rfl)) ?_;(with_reducible refine(newelref12_Write.calls b6 (fun k_=>k_<w.heap.size) _ _ J (fun k_=>k_<w.heap.size) _ _ B ζ κ μ _ _ η a2 ap an av b0 _ ?side1 ?side2 ?side3 ?side4 so.out).mono ?_);(case side1=>exact Kd.Vn d7.out (Kd.Y2 (Kd.C_F (Kd.J8 .u8) ct.out) (by repeat(first|(with_reducible first|exact HB.out|apply Qe|apply Qa|apply Qf|refine Qg ?_ bm.out|refine Qg ?_ bn.out|refine Qg ?_ ba.out)|exact HB.out))));(case side2=>exact Kd.Vn cz.out (Kd.Y2 (Kd.C_F (Kd.J8 .u8) cv.out) (by repeat(first|(with_reducible first|exact HB.out|apply Qe|apply Qa|apply Qf|refine Qg ?_ bm.out|refine Qg ?_ bn.out|refine Qg ?_ ba.out)|exact HB.out))));(case side3=>repeat(first|exact(Kd.Zb d5.out HB.out)|(with_reducible refine Kd.Zc ?_ _)|(with_reducible refine Kd.Za ?_ _)|(with_reducible refine Kd.Zh ?_)));(case side4=>exact d6.out);rintro e si ⟨tv,tw,rfl,θ,ce,hb⟩;refine⟨_,rfl, ?_⟩;have D:=Aside0.mk (Kd.Q1 (by(with_reducible repeat first|apply Kd.Qi|apply Kd.Qh|apply Kd.Ql);exact a0.out) hb);have I:=Aside0.mk (Kd.Q1 (by(with_reducible repeat first|apply Kd.Qi|apply Kd.Qh|apply Kd.Ql);exact a1.out) hb);have O:=Aside0.mk (Kd.Q1 (by(with_reducible repeat first|apply Kd.Qi|apply Kd.Qh|apply Kd.Ql);exact ag.out) hb);have U:=Aside0.mk (Kd.Q1 (by(with_reducible repeat first|apply Kd.Qi|apply Kd.Qh|apply Kd.Ql);exact ah.out) hb);have ε :=Aside0.mk (Kd.Y1 (Kd.Qt (ok':=fun k_=>some k_≠(ck:Value).ownBlock∧some k_≠(cm:Value).ownBlock∧some k_≠(.slice ae φ.length af:Value).ownBlock∧some k_≠(.slice aj χ.length ak:Value).ownBlock∧k_≠ac∧k_≠a8∧k_ ≠ ω) θ (fun k_ hk_=>⟨Or.elim hk_ (fun hs_=>Or.elim hs_ (fun hs_=>fun e_=>Nat.not_le.2 hs_ (Kd.Q5 a0.out k_ e_.symm)) (fun hs_=>fun e_=>Nat.not_le.2 hs_ (Kd.Q5 a0.out k_ e_.symm))) (fun hn_=>(Kd.fresh' (Kd.Zp (by(with_reducible repeat first|apply Kd.Qi|apply Kd.Qh|apply Kd.Ql);exact a0.out)) k_ hn_)),Or.elim hk_ (fun hs_=>Or.elim hs_ (fun hs_=>fun e_=>Nat.not_le.2 hs_ (Kd.Q5 a1.out k_ e_.symm)) (fun hs_=>fun e_=>Nat.not_le.2 hs_ (Kd.Q5 a1.out k_ e_.symm))) (fun hn_=>(Kd.fresh' (Kd.Zp (by(with_reducible repeat first|apply Kd.Qi|apply Kd.Qh|apply Kd.Ql);exact a1.out)) k_ hn_)),Or.elim hk_ (fun hs_=>Or.elim hs_ (fun hs_=>fun e_=>Nat.not_le.2 hs_ (Kd.Q5 ag.out k_ e_.symm)) (fun hs_=>fun e_=>Nat.not_le.2 hs_ (Kd.Q5 ag.out k_ e_.symm))) (fun hn_=>(Kd.fresh' (Kd.Zp (by(with_reducible repeat first|apply Kd.Qi|apply Kd.Qh|apply Kd.Ql);exact ag.out)) k_ hn_)),Or.elim hk_ (fun hs_=>Or.elim hs_ (fun hs_=>fun e_=>Nat.not_le.2 hs_ (Kd.Q5 ah.out k_ e_.symm)) (fun hs_=>fun e_=>Nat.not_le.2 hs_ (Kd.Q5 ah.out k_ e_.symm))) (fun hn_=>(Kd.fresh' (Kd.Zp (by(with_reducible repeat first|apply Kd.Qi|apply Kd.Qh|apply Kd.Ql);exact ah.out)) k_ hn_)),Or.elim hk_ (fun hs_=>Or.elim hs_ (fun hs_=>fun e_=>Nat.not_le.2 hs_ (by rw[e_];exact ip.out)) (fun hs_=>fun e_=>Nat.not_le.2 hs_ (by rw[e_];exact ip.out))) (fun hn_=>(Kd.Z5 (g:=ac) (o:=.cells #[.slice γ J.length δ,.slice Y B.length Z] 24 (0,0)) (by(with_reducible repeat first|apply Qb|apply Qd|apply Qc);exact ι.out) k_ hn_)),Or.elim hk_ (fun hs_=>Or.elim hs_ (fun hs_=>fun e_=>Nat.not_le.2 hs_ (by rw[e_];exact iq.out)) (fun hs_=>fun e_=>Nat.not_le.2 hs_ (by rw[e_];exact iq.out))) (fun hn_=>(Kd.Z5 (g:=a8) (o:=.cells #[.int .i64 ζ,.int .i64 κ,.int .i64 μ,.slice a6 η.length a7] 26 (0,0)) (by(with_reducible repeat first|apply Qb|apply Qd|apply Qc);exact X.out) k_ hn_)),Or.elim hk_ (fun hs_=>Or.elim hs_ (fun hs_=>fun e_=>Nat.not_le.2 hs_ (by rw[e_];exact dq.out)) (fun hs_=>fun e_=>Nat.not_le.2 hs_ (by rw[e_];exact dq.out))) (fun hn_=>(Kd.Z5 (g:= ω) (o:=.cells #[.slice ae φ.length af,.slice aj χ.length ak] 24 (0,0)) (by(with_reducible repeat first|apply Qb|apply Qd|apply Qc);exact a3.out) k_ hn_))⟩)) (Qj (by repeat(first|(with_reducible first|exact HB.out|apply Qe|apply Qa|apply Qf|refine Qg ?_ bm.out|refine Qg ?_ bn.out|refine Qg ?_ ba.out)|exact HB.out))));have ν :=Aside0.mk (Kd.Y1 (Kd.Qt (ok':=fun k_=>some k_≠(ck:Value).ownBlock∧some k_≠(cm:Value).ownBlock∧some k_≠(.slice ae φ.length af:Value).ownBlock∧some k_≠(.slice aj χ.length ak:Value).ownBlock∧k_≠ac∧k_≠a8∧k_ ≠ ω) ce (fun k_ hk_=>⟨Or.elim hk_ (fun hs_=>Or.elim hs_ (fun hs_=>fun e_=>Nat.not_le.2 hs_ (Kd.Q5 a0.out k_ e_.symm)) (fun hs_=>fun e_=>Nat.not_le.2 hs_ (Kd.Q5 a0.out k_ e_.symm))) (fun hn_=>(Kd.fresh' (Kd.Zp (by(with_reducible repeat first|apply Kd.Qi|apply Kd.Qh|apply Kd.Ql);exact a0.out)) k_ hn_)),Or.elim hk_ (fun hs_=>Or.elim hs_ (fun hs_=>fun e_=>Nat.not_le.2 hs_ (Kd.Q5 a1.out k_ e_.symm)) (fun hs_=>fun e_=>Nat.not_le.2 hs_ (Kd.Q5 a1.out k_ e_.symm))) (fun hn_=>(Kd.fresh' (Kd.Zp (by(with_reducible repeat first|apply Kd.Qi|apply Kd.Qh|apply Kd.Ql);exact a1.out)) k_ hn_)),Or.elim hk_ (fun hs_=>Or.elim hs_ (fun hs_=>fun e_=>Nat.not_le.2 hs_ (Kd.Q5 ag.out k_ e_.symm)) (fun hs_=>fun e_=>Nat.not_le.2 hs_ (Kd.Q5 ag.out k_ e_.symm))) (fun hn_=>(Kd.fresh' (Kd.Zp (by(with_reducible repeat first|apply Kd.Qi|apply Kd.Qh|apply Kd.Ql);exact ag.out)) k_ hn_)),Or.elim hk_ (fun hs_=>Or.elim hs_ (fun hs_=>fun e_=>Nat.not_le.2 hs_ (Kd.Q5 ah.out k_ e_.symm)) (fun hs_=>fun e_=>Nat.not_le.2 hs_ (Kd.Q5 ah.out k_ e_.symm))) (fun hn_=>(Kd.fresh' (Kd.Zp (by(with_reducible repeat first|apply Kd.Qi|apply Kd.Qh|apply Kd.Ql);exact ah.out)) k_ hn_)),Or.elim hk_ (fun hs_=>Or.elim hs_ (fun hs_=>fun e_=>Nat.not_le.2 hs_ (by rw[e_];exact ip.out)) (fun hs_=>fun e_=>Nat.not_le.2 hs_ (by rw[e_];exact ip.out))) (fun hn_=>(Kd.Z5 (g:=ac) (o:=.cells #[.slice γ J.length δ,.slice Y B.length Z] 24 (0,0)) (by(with_reducible repeat first|apply Qb|apply Qd|apply Qc);exact ι.out) k_ hn_)),Or.elim hk_ (fun hs_=>Or.elim hs_ (fun hs_=>fun e_=>Nat.not_le.2 hs_ (by rw[e_];exact iq.out)) (fun hs_=>fun e_=>Nat.not_le.2 hs_ (by rw[e_];exact iq.out))) (fun hn_=>(Kd.Z5 (g:=a8) (o:=.cells #[.int .i64 ζ,.int .i64 κ,.int .i64 μ,.slice a6 η.length a7] 26 (0,0)) (by(with_reducible repeat first|apply Qb|apply Qd|apply Qc);exact X.out) k_ hn_)),Or.elim hk_ (fun hs_=>Or.elim hs_ (fun hs_=>fun e_=>Nat.not_le.2 hs_ (by rw[e_];exact dq.out)) (fun hs_=>fun e_=>Nat.not_le.2 hs_ (by rw[e_];exact dq.out))) (fun hn_=>(Kd.Z5 (g:= ω) (o:=.cells #[.slice ae φ.length af,.slice aj χ.length ak] 24 (0,0)) (by(with_reducible repeat first|apply Qb|apply Qd|apply Qc);exact a3.out) k_ hn_))⟩)) (Qj (by repeat(first|(with_reducible first|exact HB.out|apply Qe|apply Qa|apply Qf|refine Qg ?_ bm.out|refine Qg ?_ bn.out|refine Qg ?_ ba.out)|exact HB.out))));have ρ:=Aside0.mk (Qp (g:=ac) (o:=.cells #[.slice γ J.length δ,.slice Y B.length Z] 24 (0,0)) (by(with_reducible repeat first|apply Qb|apply Qd|apply Qc);exact ι.out) hb);have a4:=Aside0.mk (Qp (g:=a8) (o:=.cells #[.int .i64 ζ,.int .i64 κ,.int .i64 μ,.slice a6 η.length a7] 26 (0,0)) (by(with_reducible repeat first|apply Qb|apply Qd|apply Qc);exact X.out) hb);have a5:=Aside0.mk (Qp (g:= ω) (o:=.cells #[.slice ae φ.length af,.slice aj χ.length ak] 24 (0,0)) (by(with_reducible repeat first|apply Qb|apply Qd|apply Qc);exact a3.out) hb);have ab:=Aside0.mk (Qr (by repeat(first|(with_reducible first|exact HB.out|apply Qe|apply Qa|apply Qf|refine Qg ?_ bm.out|refine Qg ?_ bn.out|refine Qg ?_ ba.out)|exact HB.out)) hb);clear a0;clear a1;clear ag;clear ah;clear ι;clear X;clear a3;clear HB;have a0:=D;have a1:=I;have ag:=O;have ah:=U;have bh:= ε;have bi:= ν;have ι :=ρ;have X:=a4;have a3:=a5;have HB:=ab;clear D I O U ε ν ρ a4 a5 ab;(try clear hb);(try clear az);(try clear hk);(try clear hi);(try clear θ);(try clear ce))|((with_reducible refine Qz (N:=10) rfl ?_);(try(refine Zw (by rfl) ?_;dsimp only));refine Q7 ?hg (N:=10) ?hd (cs:=#[.slice none 0 0,.slice none 0 0,.bool false,.int .i64 0]) (t:=34) ?hr ?_;(case hd=>rfl);(case hg=>rfl);(case hr=>first|(go_simp;done)|(go_simp;rfl));intro ξ hg dp hbox hb;have D:=Aside0.mk (Kd.Q1 (by(with_reducible repeat first|apply Kd.Qi|apply Kd.Qh|apply Kd.Ql);exact a0.out) hb);have I:=Aside0.mk (Kd.Q1 (by(with_reducible repeat first|apply Kd.Qi|apply Kd.Qh|apply Kd.Ql);exact a1.out) hb);have O:=Aside0.mk (Kd.Q1 (by(with_reducible repeat first|apply Kd.Qi|apply Kd.Qh|apply Kd.Ql);exact ag.out) hb);have U:=Aside0.mk (Kd.Q1 (by(with_reducible repeat first|apply Kd.Qi|apply Kd.Qh|apply Kd.Ql);exact ah.out) hb);have ε :=Aside0.mk (Kd.Q2 (Kd.Q9 (by(with_reducible repeat first|apply Kd.Qx|apply Kd.Qw|apply Kd.Q0);exact bh.out) ξ (Nat.le_of_eq hg.symm)) hb);have ν :=Aside0.mk (Kd.Q2 (Kd.Q9 (by(with_reducible repeat first|apply Kd.Qx|apply Kd.Qw|apply Kd.Q0);exact bi.out) ξ (Nat.le_of_eq hg.symm)) hb);have ρ:=Aside0.mk (Qp (g:=ac) (o:=.cells #[.slice γ J.length δ,.slice Y B.length Z] 24 (0,0)) (by(with_reducible repeat first|apply Qb|apply Qd|apply Qc);exact ι.out) hb);have a4:=Aside0.mk (Qp (g:=a8) (o:=.cells #[.int .i64 ζ,.int .i64 κ,.int .i64 μ,.slice a6 η.length a7] 26 (0,0)) (by(with_reducible repeat first|apply Qb|apply Qd|apply Qc);exact X.out) hb);have a5:=Aside0.mk (Qp (g:= ω) (o:=.cells #[.slice ae φ.length af,.slice aj χ.length ak] 24 (0,0)) (by(with_reducible repeat first|apply Qb|apply Qd|apply Qc);exact a3.out) hb);have ab:=Aside0.mk (Qr (by repeat(first|(with_reducible first|exact HB.out|apply Qe|apply Qa|apply Qf|refine Qg ?_ bm.out|refine Qg ?_ bn.out|refine Qg ?_ ba.out)|exact HB.out)) hb);have am:=Aside0.mk (hbox);have ar:=Aside0.mk ((by rw[hg];exact(Qj (by repeat(first|(with_reducible first|exact HB.out|apply Qe|apply Qa|apply Qf|refine Qg ?_ bm.out|refine Qg ?_ bn.out|refine Qg ?_ ba.out)|exact HB.out))):w.heap.size ≤ ξ));have b8:=Aside0.mk ((by rw[hg];exact(Qj (by repeat(first|(with_reducible first|exact HB.out|apply Qe|apply Qa|apply Qf|refine Qg ?_ bm.out|refine Qg ?_ bn.out|refine Qg ?_ ba.out)|exact HB.out))):w.heap.size ≤ ξ));have bb:=Aside0.mk ((by rw[hg];exact Nat.ne_of_lt (Q8 (g:=ac) (o:=.cells #[.slice γ J.length δ,.slice Y B.length Z] 24 (0,0)) (by(with_reducible repeat first|apply Qb|apply Qd|apply Qc);exact ι.out)):ac ≠ ξ));have bz:=Aside0.mk ((by rw[hg];exact Nat.ne_of_gt (Q8 (g:=ac) (o:=.cells #[.slice γ J.length δ,.slice Y B.length Z] 24 (0,0)) (by(with_reducible repeat first|apply Qb|apply Qd|apply Qc);exact ι.out)): ξ ≠ ac));have cj:=Aside0.mk ((by rw[hg];exact Nat.ne_of_lt (Q8 (g:=a8) (o:=.cells #[.int .i64 ζ,.int .i64 κ,.int .i64 μ,.slice a6 η.length a7] 26 (0,0)) (by(with_reducible repeat first|apply Qb|apply Qd|apply Qc);exact X.out)):a8 ≠ ξ));have cr:=Aside0.mk ((by rw[hg];exact Nat.ne_of_gt (Q8 (g:=a8) (o:=.cells #[.int .i64 ζ,.int .i64 κ,.int .i64 μ,.slice a6 η.length a7] 26 (0,0)) (by(with_reducible repeat first|apply Qb|apply Qd|apply Qc);exact X.out)): ξ ≠ a8));have dx:=Aside0.mk ((by rw[hg];exact Nat.ne_of_lt (Q8 (g:= ω) (o:=.cells #[.slice ae φ.length af,.slice aj χ.length ak] 24 (0,0)) (by(with_reducible repeat first|apply Qb|apply Qd|apply Qc);exact a3.out)): ω ≠ ξ));have ep:=Aside0.mk ((by rw[hg];exact Nat.ne_of_gt (Q8 (g:= ω) (o:=.cells #[.slice ae φ.length af,.slice aj χ.length ak] 24 (0,0)) (by(with_reducible repeat first|apply Qb|apply Qd|apply Qc);exact a3.out)): ξ ≠ ω));clear a0;clear a1;clear ag;clear ah;clear bh;clear bi;clear ι;clear X;clear a3;clear HB;have a0:=D;have a1:=I;have ag:=O;have ah:=U;have bh:= ε;have bi:= ν;have ι :=ρ;have X:=a4;have a3:=a5;have HB:=ab;have ai:=am;have o4:=ar;have cu:=b8;have d2:=bb;have eu:=bz;have d3:=cj;have ev:=cr;have cw:=dx;have e6:=ep;clear D I O U ε ν ρ a4 a5 ab am ar b8 bb bz cj cr dx ep;clear hb hbox hg;obtain⟨a9,aa,g7⟩:=Kd.Jo bh.out;subst g7;have o0:=eu.out;have o1:=d2.out;have ns:=ev.out;have nt:=d3.out;have nu:=e6.out;have nv:=cw.out;obtain⟨ig,ih,ii,ij,ik,il,im,io⟩:=qD4 ai.out;obtain⟨bd,be,kb⟩:=Kd.Jo bi.out;subst kb;obtain⟨ee,ef,eg,eh⟩:=qD2 ι.out)|((with_reducible refine Qv (f:=12) rfl ?_);refine Ze (some 40) rfl rfl Tryd.func12 kr rfl #[.agg #[.slice γ J.length δ,.slice Y B.length Z]] rfl (by(try simp only[List.map_toArray,List.map_cons,List.map_nil]);first|done|rfl|(simp only[List.length_drop,List.length_take];rfl)) ?_;(with_reducible refine(newellaw12_Own.calls _ _ J _ _ B d8 d9 _ ?side1 ?side2 ?side3 ?side4 oc.out).mono ?_);(case side1=>exact Kd.Zb ct.out (by repeat(first|(with_reducible first|exact HB.out|apply Qe|apply Qa|apply Qf|refine Qg ?_ bm.out|refine Qg ?_ bn.out|refine Qg ?_ ba.out|refine Qg ?_ cu.out)|exact HB.out)));(case side2=>exact d7.out);(case side3=>exact Kd.Zb cv.out (by repeat(first|(with_reducible first|exact HB.out|apply Qe|apply Qa|apply Qf|refine Qg ?_ bm.out|refine Qg ?_ bn.out|refine Qg ?_ ba.out|refine Qg ?_ cu.out)|exact HB.out)));(case side4=>exact cz.out);rintro e sj ⟨tx,ty,rfl,θ,ce,hb⟩;refine⟨_,rfl, ?_⟩;have D:=Aside0.mk (Kd.Qu (Kd.Xa (Kd.Xa (Kd.Jd (by(with_reducible repeat first|apply Kd.Qi|apply Kd.Qh|apply Kd.Ql);exact(Kd.Qu (Kd.Qm (p:=⟨ξ,3,none⟩) (Kd.Qm (p:=⟨ξ,2,none⟩) (Kd.Qm (p:=⟨ξ,1,none⟩) (Kd.Qm (p:=⟨ξ,0,none⟩) (Kd.Qy a0.out ai.out (by decide)) (fun _ hk=>hk.2) (.slice a9 ap.length aa)) (fun _ hk=>hk.2) (.slice bd an.length be)) (fun _ hk=>hk.2) (.bool av)) (fun _ hk=>hk.2) (.int .i64 b0)) (fun _ h_=>h_.1))) hb) (Kd.Q5 θ)) (Kd.Q5 ce)) (fun _ h_=>h_.1));have I:=Aside0.mk (Kd.Qu (Kd.Xa (Kd.Xa (Kd.Jd (by(with_reducible repeat first|apply Kd.Qi|apply Kd.Qh|apply Kd.Ql);exact(Kd.Qu (Kd.Qm (p:=⟨ξ,3,none⟩) (Kd.Qm (p:=⟨ξ,2,none⟩) (Kd.Qm (p:=⟨ξ,1,none⟩) (Kd.Qm (p:=⟨ξ,0,none⟩) (Kd.Qy a1.out ai.out (by decide)) (fun _ hk=>hk.2) (.slice a9 ap.length aa)) (fun _ hk=>hk.2) (.slice bd an.length be)) (fun _ hk=>hk.2) (.bool av)) (fun _ hk=>hk.2) (.int .i64 b0)) (fun _ h_=>h_.1))) hb) (Kd.Q5 θ)) (Kd.Q5 ce)) (fun _ h_=>h_.1));have O:=Aside0.mk (Kd.Qu (Kd.Xa (Kd.Xa (Kd.Jd (by(with_reducible repeat first|apply Kd.Qi|apply Kd.Qh|apply Kd.Ql);exact(Kd.Qu (Kd.Qm (p:=⟨ξ,3,none⟩) (Kd.Qm (p:=⟨ξ,2,none⟩) (Kd.Qm (p:=⟨ξ,1,none⟩) (Kd.Qm (p:=⟨ξ,0,none⟩) (Kd.Qy ag.out ai.out (by decide)) (fun _ hk=>hk.2) (.slice a9 ap.length aa)) (fun _ hk=>hk.2) (.slice bd an.length be)) (fun _ hk=>hk.2) (.bool av)) (fun _ hk=>hk.2) (.int .i64 b0)) (fun _ h_=>h_.1))) hb) (Kd.Q5 θ)) (Kd.Q5 ce)) (fun _ h_=>h_.1));have U:=Aside0.mk (Kd.Qu (Kd.Xa (Kd.Xa (Kd.Jd (by(with_reducible repeat first|apply Kd.Qi|apply Kd.Qh|apply Kd.Ql);exact(Kd.Qu (Kd.Qm (p:=⟨ξ,3,none⟩) (Kd.Qm (p:=⟨ξ,2,none⟩) (Kd.Qm (p:=⟨ξ,1,none⟩) (Kd.Qm (p:=⟨ξ,0,none⟩) (Kd.Qy ah.out ai.out (by decide)) (fun _ hk=>hk.2) (.slice a9 ap.length aa)) (fun _ hk=>hk.2) (.slice bd an.length be)) (fun _ hk=>hk.2) (.bool av)) (fun _ hk=>hk.2) (.int .i64 b0)) (fun _ h_=>h_.1))) hb) (Kd.Q5 θ)) (Kd.Q5 ce)) (fun _ h_=>h_.1));have ε :=Aside0.mk (Kd.Qt (Kd.Vm (Kd.Vm (Kd.Eo (by(with_reducible repeat first|apply Kd.Qx|apply Kd.Qw|apply Kd.Q0);exact(Kd.Qt (Kd.Qq (p:=⟨ξ,3,none⟩) (Kd.Qq (p:=⟨ξ,2,none⟩) (Kd.Qq (p:=⟨ξ,1,none⟩) (Kd.Qq (p:=⟨ξ,0,none⟩) (Kd.Qt bh.out (fun k_ hk=>(⟨hk,hk.2⟩:_∧k_ ≠ ξ))) (fun _ hk=>hk.2) (.slice a9 ap.length aa)) (fun _ hk=>hk.2) (.slice bd an.length be)) (fun _ hk=>hk.2) (.bool av)) (fun _ hk=>hk.2) (.int .i64 b0)) (fun _ h_=>h_.1))) hb) (Kd.Q5 θ)) (Kd.Q5 ce)) (fun _ h_=>h_.1));have ν :=Aside0.mk (Kd.Qt (Kd.Vm (Kd.Vm (Kd.Eo (by(with_reducible repeat first|apply Kd.Qx|apply Kd.Qw|apply Kd.Q0);exact(Kd.Qt (Kd.Qq (p:=⟨ξ,3,none⟩) (Kd.Qq (p:=⟨ξ,2,none⟩) (Kd.Qq (p:=⟨ξ,1,none⟩) (Kd.Qq (p:=⟨ξ,0,none⟩) (Kd.Qt bi.out (fun k_ hk=>(⟨hk,hk.2⟩:_∧k_ ≠ ξ))) (fun _ hk=>hk.2) (.slice a9 ap.length aa)) (fun _ hk=>hk.2) (.slice bd an.length be)) (fun _ hk=>hk.2) (.bool av)) (fun _ hk=>hk.2) (.int .i64 b0)) (fun _ h_=>h_.1))) hb) (Kd.Q5 θ)) (Kd.Q5 ce)) (fun _ h_=>h_.1));have ρ:=Aside0.mk (Kd.Zd (Kd.Zi (Kd.Zi (Kd.Zi (Kd.Zi θ (Kd.Zp (by(with_reducible repeat first|apply Kd.Qi|apply Kd.Qh|apply Kd.Ql);exact(Kd.Qu (Kd.Qm (p:=⟨ξ,3,none⟩) (Kd.Qm (p:=⟨ξ,2,none⟩) (Kd.Qm (p:=⟨ξ,1,none⟩) (Kd.Qm (p:=⟨ξ,0,none⟩) (Kd.Qy a0.out ai.out (by decide)) (fun _ hk=>hk.2) (.slice a9 ap.length aa)) (fun _ hk=>hk.2) (.slice bd an.length be)) (fun _ hk=>hk.2) (.bool av)) (fun _ hk=>hk.2) (.int .i64 b0)) (fun _ h_=>h_.1))))) (Kd.Zp (by(with_reducible repeat first|apply Kd.Qi|apply Kd.Qh|apply Kd.Ql);exact(Kd.Qu (Kd.Qm (p:=⟨ξ,3,none⟩) (Kd.Qm (p:=⟨ξ,2,none⟩) (Kd.Qm (p:=⟨ξ,1,none⟩) (Kd.Qm (p:=⟨ξ,0,none⟩) (Kd.Qy a1.out ai.out (by decide)) (fun _ hk=>hk.2) (.slice a9 ap.length aa)) (fun _ hk=>hk.2) (.slice bd an.length be)) (fun _ hk=>hk.2) (.bool av)) (fun _ hk=>hk.2) (.int .i64 b0)) (fun _ h_=>h_.1))))) (Kd.Zp (by(with_reducible repeat first|apply Kd.Qi|apply Kd.Qh|apply Kd.Ql);exact(Kd.Qu (Kd.Qm (p:=⟨ξ,3,none⟩) (Kd.Qm (p:=⟨ξ,2,none⟩) (Kd.Qm (p:=⟨ξ,1,none⟩) (Kd.Qm (p:=⟨ξ,0,none⟩) (Kd.Qy ag.out ai.out (by decide)) (fun _ hk=>hk.2) (.slice a9 ap.length aa)) (fun _ hk=>hk.2) (.slice bd an.length be)) (fun _ hk=>hk.2) (.bool av)) (fun _ hk=>hk.2) (.int .i64 b0)) (fun _ h_=>h_.1))))) (Kd.Zp (by(with_reducible repeat first|apply Kd.Qi|apply Kd.Qh|apply Kd.Ql);exact(Kd.Qu (Kd.Qm (p:=⟨ξ,3,none⟩) (Kd.Qm (p:=⟨ξ,2,none⟩) (Kd.Qm (p:=⟨ξ,1,none⟩) (Kd.Qm (p:=⟨ξ,0,none⟩) (Kd.Qy ah.out ai.out (by decide)) (fun _ hk=>hk.2) (.slice a9 ap.length aa)) (fun _ hk=>hk.2) (.slice bd an.length be)) (fun _ hk=>hk.2) (.bool av)) (fun _ hk=>hk.2) (.int .i64 b0)) (fun _ h_=>h_.1))))) (Qj (by repeat(first|(with_reducible first|exact HB.out|apply Qe|apply Qa|apply Qf|refine Qg ?_ bm.out|refine Qg ?_ bn.out|refine Qg ?_ ba.out|refine Qg ?_ cu.out)|exact HB.out))));have a4:=Aside0.mk (Kd.Zd (Kd.Zi (Kd.Zi (Kd.Zi (Kd.Zi ce (Kd.Zp (by(with_reducible repeat first|apply Kd.Qi|apply Kd.Qh|apply Kd.Ql);exact(Kd.Qu (Kd.Qm (p:=⟨ξ,3,none⟩) (Kd.Qm (p:=⟨ξ,2,none⟩) (Kd.Qm (p:=⟨ξ,1,none⟩) (Kd.Qm (p:=⟨ξ,0,none⟩) (Kd.Qy a0.out ai.out (by decide)) (fun _ hk=>hk.2) (.slice a9 ap.length aa)) (fun _ hk=>hk.2) (.slice bd an.length be)) (fun _ hk=>hk.2) (.bool av)) (fun _ hk=>hk.2) (.int .i64 b0)) (fun _ h_=>h_.1))))) (Kd.Zp (by(with_reducible repeat first|apply Kd.Qi|apply Kd.Qh|apply Kd.Ql);exact(Kd.Qu (Kd.Qm (p:=⟨ξ,3,none⟩) (Kd.Qm (p:=⟨ξ,2,none⟩) (Kd.Qm (p:=⟨ξ,1,none⟩) (Kd.Qm (p:=⟨ξ,0,none⟩) (Kd.Qy a1.out ai.out (by decide)) (fun _ hk=>hk.2) (.slice a9 ap.length aa)) (fun _ hk=>hk.2) (.slice bd an.length be)) (fun _ hk=>hk.2) (.bool av)) (fun _ hk=>hk.2) (.int .i64 b0)) (fun _ h_=>h_.1))))) (Kd.Zp (by(with_reducible repeat first|apply Kd.Qi|apply Kd.Qh|apply Kd.Ql);exact(Kd.Qu (Kd.Qm (p:=⟨ξ,3,none⟩) (Kd.Qm (p:=⟨ξ,2,none⟩) (Kd.Qm (p:=⟨ξ,1,none⟩) (Kd.Qm (p:=⟨ξ,0,none⟩) (Kd.Qy ag.out ai.out (by decide)) (fun _ hk=>hk.2) (.slice a9 ap.length aa)) (fun _ hk=>hk.2) (.slice bd an.length be)) (fun _ hk=>hk.2) (.bool av)) (fun _ hk=>hk.2) (.int .i64 b0)) (fun _ h_=>h_.1))))) (Kd.Zp (by(with_reducible repeat first|apply Kd.Qi|apply Kd.Qh|apply Kd.Ql);exact(Kd.Qu (Kd.Qm (p:=⟨ξ,3,none⟩) (Kd.Qm (p:=⟨ξ,2,none⟩) (Kd.Qm (p:=⟨ξ,1,none⟩) (Kd.Qm (p:=⟨ξ,0,none⟩) (Kd.Qy ah.out ai.out (by decide)) (fun _ hk=>hk.2) (.slice a9 ap.length aa)) (fun _ hk=>hk.2) (.slice bd an.length be)) (fun _ hk=>hk.2) (.bool av)) (fun _ hk=>hk.2) (.int .i64 b0)) (fun _ h_=>h_.1))))) (Qj (by repeat(first|(with_reducible first|exact HB.out|apply Qe|apply Qa|apply Qf|refine Qg ?_ bm.out|refine Qg ?_ bn.out|refine Qg ?_ ba.out|refine Qg ?_ cu.out)|exact HB.out))));have a5:=Aside0.mk (Qp (g:=ac) (o:=.cells #[.slice γ J.length δ,.slice Y B.length Z] 24 (0,0)) (by(with_reducible repeat first|apply Qb|apply Qd|apply Qc);refine Qs ?_ d2.out _;(with_reducible repeat first|apply Qb|apply Qd|apply Qc);refine Qs ?_ d2.out _;(with_reducible repeat first|apply Qb|apply Qd|apply Qc);refine Qs ?_ d2.out _;(with_reducible repeat first|apply Qb|apply Qd|apply Qc);refine Qs ?_ d2.out _;(with_reducible repeat first|apply Qb|apply Qd|apply Qc);exact ι.out) hb);have ab:=Aside0.mk (Qp (g:=a8) (o:=.cells #[.int .i64 ζ,.int .i64 κ,.int .i64 μ,.slice a6 η.length a7] 26 (0,0)) (by(with_reducible repeat first|apply Qb|apply Qd|apply Qc);refine Qs ?_ d3.out _;(with_reducible repeat first|apply Qb|apply Qd|apply Qc);refine Qs ?_ d3.out _;(with_reducible repeat first|apply Qb|apply Qd|apply Qc);refine Qs ?_ d3.out _;(with_reducible repeat first|apply Qb|apply Qd|apply Qc);refine Qs ?_ d3.out _;(with_reducible repeat first|apply Qb|apply Qd|apply Qc);exact X.out) hb);have am:=Aside0.mk (Qp (g:= ω) (o:=.cells #[.slice ae φ.length af,.slice aj χ.length ak] 24 (0,0)) (by(with_reducible repeat first|apply Qb|apply Qd|apply Qc);refine Qs ?_ cw.out _;(with_reducible repeat first|apply Qb|apply Qd|apply Qc);refine Qs ?_ cw.out _;(with_reducible repeat first|apply Qb|apply Qd|apply Qc);refine Qs ?_ cw.out _;(with_reducible repeat first|apply Qb|apply Qd|apply Qc);refine Qs ?_ cw.out _;(with_reducible repeat first|apply Qb|apply Qd|apply Qc);exact a3.out) hb);have ar:=Aside0.mk (Qp (g:= ξ) (o:=.cells #[.slice a9 ap.length aa,.slice bd an.length be,.bool av,.int .i64 b0] 34 (0,0)) (by(with_reducible repeat first|apply Qb|apply Qd|apply Qc);refine Qk (cs:=#[.slice a9 ap.length aa,.slice bd an.length be,.bool av,.int .i64 0]) ?_ 3 _ rfl;(with_reducible repeat first|apply Qb|apply Qd|apply Qc);refine Qk (cs:=#[.slice a9 ap.length aa,.slice bd an.length be,.bool false,.int .i64 0]) ?_ 2 _ rfl;(with_reducible repeat first|apply Qb|apply Qd|apply Qc);refine Qk (cs:=#[.slice a9 ap.length aa,.slice none 0 0,.bool false,.int .i64 0]) ?_ 1 _ rfl;(with_reducible repeat first|apply Qb|apply Qd|apply Qc);refine Qk (cs:=#[.slice none 0 0,.slice none 0 0,.bool false,.int .i64 0]) ?_ 0 _ rfl;(with_reducible repeat first|apply Qb|apply Qd|apply Qc);exact ai.out) hb);have b8:=Aside0.mk (Qr (by repeat(first|(with_reducible first|exact HB.out|apply Qe|apply Qa|apply Qf|refine Qg ?_ bm.out|refine Qg ?_ bn.out|refine Qg ?_ ba.out|refine Qg ?_ cu.out)|exact HB.out)) hb);clear a0;clear a1;clear ag;clear ah;clear bh;clear bi;clear ι;clear X;clear a3;clear ai;clear HB;have a0:=D;have a1:=I;have ag:=O;have ah:=U;have bh:= ε;have bi:= ν;have bo:=ρ;have bp:=a4;have ι :=a5;have X:=ab;have a3:=am;have ai:=ar;have HB:=b8;clear D I O U ε ν ρ a4 a5 ab am ar b8;(try clear hb);(try clear az);(try clear hk);(try clear hi);(try clear θ);(try clear ce);obtain⟨du,dv,ru⟩:=Kd.Zf bo.out;subst ru;obtain⟨b3,b4,ka⟩:=Kd.Zf bp.out;subst ka)|((with_reducible refine Qv (f:=14) rfl ?_);refine Ze (some 41) rfl rfl Tryd.func14 kr rfl #[.agg #[.slice du d8.length dv,.slice b3 d9.length b4]] rfl (by(try simp only[List.map_toArray,List.map_cons,List.map_nil]);first|done|rfl|(simp only[List.length_drop,List.length_take];rfl)) ?_;(with_reducible refine(flash_Recover.calls b6 _ _ d8 _ _ d9 cf ch ci ao jd e0 _ ?side1 ?side2 ?side3 ?side4 mo.out (by first|exact HTAB.out|((repeat(first|exact HTAB.out|(with_reducible refine Laid.Zo ?_ _)|(with_reducible refine Laid.Zn ?_ _)|(with_reducible refine Laid.Zq ?_)));done)|(refine Laid.Zk HTAB.out ?_;(repeat(first|(with_reducible first|exact HB.out|apply Qe|apply Qa|apply Qf)|exact HB.out|(refine Qg ?_ (Aside0.out (by assumption)))))))).mono ?_);(case side1=>repeat(first|exact(Kd.Q4 bo.out).2.2|(with_reducible refine Kd.Zc ?_ _)|(with_reducible refine Kd.Za ?_ _)|(with_reducible refine Kd.Zh ?_)));(case side2=>exact(Kd.Q4 bo.out).2.1);(case side3=>repeat(first|exact(Kd.Q4 bp.out).2.2|(with_reducible refine Kd.Zc ?_ _)|(with_reducible refine Kd.Za ?_ _)|(with_reducible refine Kd.Zh ?_)));(case side4=>exact(Kd.Q4 bp.out).2.1);rintro e ua ⟨tz,rfl,θ,hb⟩;refine⟨_,rfl, ?_⟩;have D:=Aside0.mk (Kd.Zj (by(with_reducible repeat first|apply Kd.Qi|apply Kd.Qh|apply Kd.Ql);exact a0.out) (Kd.Q5 θ) hb);have I:=Aside0.mk (Kd.Zj (by(with_reducible repeat first|apply Kd.Qi|apply Kd.Qh|apply Kd.Ql);exact a1.out) (Kd.Q5 θ) hb);have O:=Aside0.mk (Kd.Zj (by(with_reducible repeat first|apply Kd.Qi|apply Kd.Qh|apply Kd.Ql);exact ag.out) (Kd.Q5 θ) hb);have U:=Aside0.mk (Kd.Zj (by(with_reducible repeat first|apply Kd.Qi|apply Kd.Qh|apply Kd.Ql);exact ah.out) (Kd.Q5 θ) hb);have ε :=Aside0.mk (Kd.Ya (by(with_reducible repeat first|apply Kd.Qx|apply Kd.Qw|apply Kd.Q0);exact bh.out) (Kd.Q5 θ) hb);have ν :=Aside0.mk (Kd.Ya (by(with_reducible repeat first|apply Kd.Qx|apply Kd.Qw|apply Kd.Q0);exact bi.out) (Kd.Q5 θ) hb);have ρ:=Aside0.mk (Kd.Zj (by(with_reducible repeat first|apply Kd.Qi|apply Kd.Qh|apply Kd.Ql);exact bo.out) (Kd.Q5 θ) hb);have a4:=Aside0.mk (Kd.Zj (by(with_reducible repeat first|apply Kd.Qi|apply Kd.Qh|apply Kd.Ql);exact bp.out) (Kd.Q5 θ) hb);have a5:=Aside0.mk (Kd.Zd (Kd.Zi (Kd.Zi (Kd.Zi (Kd.Zi (Kd.Zi (Kd.Zi θ (Kd.Zp (by(with_reducible repeat first|apply Kd.Qi|apply Kd.Qh|apply Kd.Ql);exact a0.out))) (Kd.Zp (by(with_reducible repeat first|apply Kd.Qi|apply Kd.Qh|apply Kd.Ql);exact a1.out))) (Kd.Zp (by(with_reducible repeat first|apply Kd.Qi|apply Kd.Qh|apply Kd.Ql);exact ag.out))) (Kd.Zp (by(with_reducible repeat first|apply Kd.Qi|apply Kd.Qh|apply Kd.Ql);exact ah.out))) (Kd.Zp (by(with_reducible repeat first|apply Kd.Qi|apply Kd.Qh|apply Kd.Ql);exact bo.out))) (Kd.Zp (by(with_reducible repeat first|apply Kd.Qi|apply Kd.Qh|apply Kd.Ql);exact bp.out))) (Qj (by repeat(first|(with_reducible first|exact HB.out|apply Qe|apply Qa|apply Qf|refine Qg ?_ bm.out|refine Qg ?_ bn.out|refine Qg ?_ ba.out|refine Qg ?_ cu.out)|exact HB.out))));have ab:=Aside0.mk (Qp (g:=ac) (o:=.cells #[.slice γ J.length δ,.slice Y B.length Z] 24 (0,0)) (by(with_reducible repeat first|apply Qb|apply Qd|apply Qc);exact ι.out) hb);have am:=Aside0.mk (Qp (g:=a8) (o:=.cells #[.int .i64 ζ,.int .i64 κ,.int .i64 μ,.slice a6 η.length a7] 26 (0,0)) (by(with_reducible repeat first|apply Qb|apply Qd|apply Qc);exact X.out) hb);have ar:=Aside0.mk (Qp (g:= ω) (o:=.cells #[.slice ae φ.length af,.slice aj χ.length ak] 24 (0,0)) (by(with_reducible repeat first|apply Qb|apply Qd|apply Qc);exact a3.out) hb);have b8:=Aside0.mk (Qp (g:= ξ) (o:=.cells #[.slice a9 ap.length aa,.slice bd an.length be,.bool av,.int .i64 b0] 34 (0,0)) (by(with_reducible repeat first|apply Qb|apply Qd|apply Qc);exact ai.out) hb);have bb:=Aside0.mk (Qr (by repeat(first|(with_reducible first|exact HB.out|apply Qe|apply Qa|apply Qf|refine Qg ?_ bm.out|refine Qg ?_ bn.out|refine Qg ?_ ba.out|refine Qg ?_ cu.out)|exact HB.out)) hb);clear a0;clear a1;clear ag;clear ah;clear bh;clear bi;clear bo;clear bp;clear ι;clear X;clear a3;clear ai;clear HB;have a0:=D;have a1:=I;have ag:=O;have ah:=U;have bh:= ε;have bi:= ν;have bo:=ρ;have bp:=a4;have bq:=a5;have ι :=ab;have X:=am;have a3:=ar;have ai:=b8;have HB:=bb;clear D I O U ε ν ρ a4 a5 ab am ar b8 bb;(try clear hb);(try clear az);(try clear hk);(try clear hi);(try clear θ))|((with_reducible refine Qz (N:=11) rfl ?_);(try(refine Zw (by rfl) ?_;dsimp only));refine Q7 ?hg (N:=11) ?hd (cs:=#[.int .i64 0,.int .i64 0,.int .i64 0,.slice none 0 0]) (t:=26) ?hr ?_;(case hd=>rfl);(case hg=>rfl);(case hr=>first|(go_simp;done)|(go_simp;rfl));intro ψ hg pi hbox hb;have D:=Aside0.mk (Kd.Q1 (by(with_reducible repeat first|apply Kd.Qi|apply Kd.Qh|apply Kd.Ql);exact a0.out) hb);have I:=Aside0.mk (Kd.Q1 (by(with_reducible repeat first|apply Kd.Qi|apply Kd.Qh|apply Kd.Ql);exact a1.out) hb);have O:=Aside0.mk (Kd.Q1 (by(with_reducible repeat first|apply Kd.Qi|apply Kd.Qh|apply Kd.Ql);exact ag.out) hb);have U:=Aside0.mk (Kd.Q1 (by(with_reducible repeat first|apply Kd.Qi|apply Kd.Qh|apply Kd.Ql);exact ah.out) hb);have ε :=Aside0.mk (Kd.Q2 (Kd.Q9 (by(with_reducible repeat first|apply Kd.Qx|apply Kd.Qw|apply Kd.Q0);exact bh.out) ψ (Nat.le_of_eq hg.symm)) hb);have ν :=Aside0.mk (Kd.Q2 (Kd.Q9 (by(with_reducible repeat first|apply Kd.Qx|apply Kd.Qw|apply Kd.Q0);exact bi.out) ψ (Nat.le_of_eq hg.symm)) hb);have ρ:=Aside0.mk (Kd.Q1 (by(with_reducible repeat first|apply Kd.Qi|apply Kd.Qh|apply Kd.Ql);exact bo.out) hb);have a4:=Aside0.mk (Kd.Q1 (by(with_reducible repeat first|apply Kd.Qi|apply Kd.Qh|apply Kd.Ql);exact bp.out) hb);have a5:=Aside0.mk (Kd.Q1 (by(with_reducible repeat first|apply Kd.Qi|apply Kd.Qh|apply Kd.Ql);exact bq.out) hb);have ab:=Aside0.mk (Qp (g:=ac) (o:=.cells #[.slice γ J.length δ,.slice Y B.length Z] 24 (0,0)) (by(with_reducible repeat first|apply Qb|apply Qd|apply Qc);exact ι.out) hb);have am:=Aside0.mk (Qp (g:=a8) (o:=.cells #[.int .i64 ζ,.int .i64 κ,.int .i64 μ,.slice a6 η.length a7] 26 (0,0)) (by(with_reducible repeat first|apply Qb|apply Qd|apply Qc);exact X.out) hb);have ar:=Aside0.mk (Qp (g:= ω) (o:=.cells #[.slice ae φ.length af,.slice aj χ.length ak] 24 (0,0)) (by(with_reducible repeat first|apply Qb|apply Qd|apply Qc);exact a3.out) hb);have b8:=Aside0.mk (Qp (g:= ξ) (o:=.cells #[.slice a9 ap.length aa,.slice bd an.length be,.bool av,.int .i64 b0] 34 (0,0)) (by(with_reducible repeat first|apply Qb|apply Qd|apply Qc);exact ai.out) hb);have bb:=Aside0.mk (Qr (by repeat(first|(with_reducible first|exact HB.out|apply Qe|apply Qa|apply Qf|refine Qg ?_ bm.out|refine Qg ?_ bn.out|refine Qg ?_ ba.out|refine Qg ?_ cu.out)|exact HB.out)) hb);have bz:=Aside0.mk (hbox);have cj:=Aside0.mk ((by rw[hg];exact(Qj (by repeat(first|(with_reducible first|exact HB.out|apply Qe|apply Qa|apply Qf|refine Qg ?_ bm.out|refine Qg ?_ bn.out|refine Qg ?_ ba.out|refine Qg ?_ cu.out)|exact HB.out))):w.heap.size ≤ ψ));have cr:=Aside0.mk ((by rw[hg];exact(Qj (by repeat(first|(with_reducible first|exact HB.out|apply Qe|apply Qa|apply Qf|refine Qg ?_ bm.out|refine Qg ?_ bn.out|refine Qg ?_ ba.out|refine Qg ?_ cu.out)|exact HB.out))):w.heap.size ≤ ψ));have dx:=Aside0.mk ((by rw[hg];exact Nat.ne_of_lt (Q8 (g:=ac) (o:=.cells #[.slice γ J.length δ,.slice Y B.length Z] 24 (0,0)) (by(with_reducible repeat first|apply Qb|apply Qd|apply Qc);exact ι.out)):ac ≠ ψ));have ep:=Aside0.mk ((by rw[hg];exact Nat.ne_of_gt (Q8 (g:=ac) (o:=.cells #[.slice γ J.length δ,.slice Y B.length Z] 24 (0,0)) (by(with_reducible repeat first|apply Qb|apply Qd|apply Qc);exact ι.out)): ψ ≠ ac));have g9:=Aside0.mk ((by rw[hg];exact Nat.ne_of_lt (Q8 (g:=a8) (o:=.cells #[.int .i64 ζ,.int .i64 κ,.int .i64 μ,.slice a6 η.length a7] 26 (0,0)) (by(with_reducible repeat first|apply Qb|apply Qd|apply Qc);exact X.out)):a8 ≠ ψ));have mb:=Aside0.mk ((by rw[hg];exact Nat.ne_of_gt (Q8 (g:=a8) (o:=.cells #[.int .i64 ζ,.int .i64 κ,.int .i64 μ,.slice a6 η.length a7] 26 (0,0)) (by(with_reducible repeat first|apply Qb|apply Qd|apply Qc);exact X.out)): ψ ≠ a8));have mc:=Aside0.mk ((by rw[hg];exact Nat.ne_of_lt (Q8 (g:= ω) (o:=.cells #[.slice ae φ.length af,.slice aj χ.length ak] 24 (0,0)) (by(with_reducible repeat first|apply Qb|apply Qd|apply Qc);exact a3.out)): ω ≠ ψ));have me:=Aside0.mk ((by rw[hg];exact Nat.ne_of_gt (Q8 (g:= ω) (o:=.cells #[.slice ae φ.length af,.slice aj χ.length ak] 24 (0,0)) (by(with_reducible repeat first|apply Qb|apply Qd|apply Qc);exact a3.out)): ψ ≠ ω));have mf:=Aside0.mk ((by rw[hg];exact Nat.ne_of_lt (Q8 (g:= ξ) (o:=.cells #[.slice a9 ap.length aa,.slice bd an.length be,.bool av,.int .i64 b0] 34 (0,0)) (by(with_reducible repeat first|apply Qb|apply Qd|apply Qc);exact ai.out)): ξ ≠ ψ));have mg:=Aside0.mk ((by rw[hg];exact Nat.ne_of_gt (Q8 (g:= ξ) (o:=.cells #[.slice a9 ap.length aa,.slice bd an.length be,.bool av,.int .i64 b0] 34 (0,0)) (by(with_reducible repeat first|apply Qb|apply Qd|apply Qc);exact ai.out)): ψ ≠ ξ));clear a0;clear a1;clear ag;clear ah;clear bh;clear bi;clear bo;clear bp;clear bq;clear ι;clear X;clear a3;clear ai;clear HB;have a0:=D;have a1:=I;have ag:=O;have ah:=U;have bh:= ε;have bi:= ν;have bo:=ρ;have bp:=a4;have bq:=a5;have ι :=ab;have X:=am;have a3:=ar;have ai:=b8;have HB:=bb;have b5:=bz;have o5:=cj;have ew:=cr;have dj:=dx;have gh:=ep;have dk:=g9;have gi:=mb;have cx:=mc;have e7:=me;have d4:=mf;have ey:=mg;clear D I O U ε ν ρ a4 a5 ab am ar b8 bb bz cj cr dx ep g9 mb mc me mf mg;clear hb hbox hg;have lx:=gh.out;have ly:=dj.out;have o2:=gi.out;have o3:=dk.out;have r8:=e7.out;have r9:=cx.out;have n3:=ey.out;have na:=d4.out;obtain⟨i5,i6,i7,i9,ia,ib,ic,ie⟩:=qD4 b5.out;obtain⟨b2,b1,rv⟩:=Kd.Zf bq.out;subst rv)|((with_reducible refine Xq (t:=26) (p:=11) rfl ?_);refine Xd (t:=26) (p:=11) (v:=?vo_w63) (w1:=((((pi.setCell ⟨ψ,0,none⟩ (.int .i64 cf)).setCell ⟨ψ,1,none⟩ (.int .i64 ch)).setCell ⟨ψ,2,none⟩ (.int .i64 ci)).setCell ⟨ψ,3,none⟩ (.slice b2 ao.length b1))) ?hg ?ho ?hn ?hr ?_;(case ho=>rfl);(case hg=>rfl);(case hn=>rfl);(case hr=>first|(go_simp;done)|(go_simp;rfl));intro er hw;have D:Aside0 (Kd.R (Kd.int .u8) 5 er w.heap.size (fun k_=>some k_≠(cm:Value).ownBlock∧some k_≠(.slice ae φ.length af:Value).ownBlock∧some k_≠(.slice aj χ.length ak:Value).ownBlock∧some k_≠(.slice du d8.length dv:Value).ownBlock∧some k_≠(.slice b3 d9.length b4:Value).ownBlock∧some k_≠(.slice b2 ao.length b1:Value).ownBlock) ck dm):=⟨(by rw[hw];exact(by(with_reducible repeat first|apply Kd.Qi|apply Kd.Qh|apply Kd.Ql);exact Kd.Qu (Kd.Qm (p:=⟨ψ,3,none⟩) (Kd.Qm (p:=⟨ψ,2,none⟩) (Kd.Qm (p:=⟨ψ,1,none⟩) (Kd.Qm (p:=⟨ψ,0,none⟩) (Kd.Qy a0.out b5.out (by decide)) (fun _ hk=>hk.2) (.int .i64 cf)) (fun _ hk=>hk.2) (.int .i64 ch)) (fun _ hk=>hk.2) (.int .i64 ci)) (fun _ hk=>hk.2) (.slice b2 ao.length b1)) (fun _ hk=>⟨hk.1.1.1.1.1,⟨hk.1.1.1.1.2.1,⟨hk.1.1.1.1.2.2,⟨hk.1.1.1.2,⟨hk.1.1.2,hk.1.2⟩⟩⟩⟩⟩)))⟩;have I:Aside0 (Kd.R (Kd.int .u8) 5 er w.heap.size (fun k_=>some k_≠(ck:Value).ownBlock∧some k_≠(.slice ae φ.length af:Value).ownBlock∧some k_≠(.slice aj χ.length ak:Value).ownBlock∧some k_≠(.slice du d8.length dv:Value).ownBlock∧some k_≠(.slice b3 d9.length b4:Value).ownBlock∧some k_≠(.slice b2 ao.length b1:Value).ownBlock) cm dn):=⟨(by rw[hw];exact(by(with_reducible repeat first|apply Kd.Qi|apply Kd.Qh|apply Kd.Ql);exact Kd.Qu (Kd.Qm (p:=⟨ψ,3,none⟩) (Kd.Qm (p:=⟨ψ,2,none⟩) (Kd.Qm (p:=⟨ψ,1,none⟩) (Kd.Qm (p:=⟨ψ,0,none⟩) (Kd.Qy a1.out b5.out (by decide)) (fun _ hk=>hk.2) (.int .i64 cf)) (fun _ hk=>hk.2) (.int .i64 ch)) (fun _ hk=>hk.2) (.int .i64 ci)) (fun _ hk=>hk.2) (.slice b2 ao.length b1)) (fun _ hk=>⟨hk.1.1.1.1.1,⟨hk.1.1.1.1.2.1,⟨hk.1.1.1.1.2.2,⟨hk.1.1.1.2,⟨hk.1.1.2,hk.1.2⟩⟩⟩⟩⟩)))⟩;have O:Aside0 (Kd.R (Kd.int .u8) 5 er w.heap.size (fun k_=>some k_≠(ck:Value).ownBlock∧some k_≠(cm:Value).ownBlock∧some k_≠(.slice aj χ.length ak:Value).ownBlock∧some k_≠(.slice du d8.length dv:Value).ownBlock∧some k_≠(.slice b3 d9.length b4:Value).ownBlock∧some k_≠(.slice b2 ao.length b1:Value).ownBlock) (.slice ae φ.length af) φ):=⟨(by rw[hw];exact(by(with_reducible repeat first|apply Kd.Qi|apply Kd.Qh|apply Kd.Ql);exact Kd.Qu (Kd.Qm (p:=⟨ψ,3,none⟩) (Kd.Qm (p:=⟨ψ,2,none⟩) (Kd.Qm (p:=⟨ψ,1,none⟩) (Kd.Qm (p:=⟨ψ,0,none⟩) (Kd.Qy ag.out b5.out (by decide)) (fun _ hk=>hk.2) (.int .i64 cf)) (fun _ hk=>hk.2) (.int .i64 ch)) (fun _ hk=>hk.2) (.int .i64 ci)) (fun _ hk=>hk.2) (.slice b2 ao.length b1)) (fun _ hk=>⟨hk.1.1.1.1.1,⟨hk.1.1.1.1.2.1,⟨hk.1.1.1.1.2.2,⟨hk.1.1.1.2,⟨hk.1.1.2,hk.1.2⟩⟩⟩⟩⟩)))⟩;have U:Aside0 (Kd.R (Kd.int .u8) 5 er w.heap.size (fun k_=>some k_≠(ck:Value).ownBlock∧some k_≠(cm:Value).ownBlock∧some k_≠(.slice ae φ.length af:Value).ownBlock∧some k_≠(.slice du d8.length dv:Value).ownBlock∧some k_≠(.slice b3 d9.length b4:Value).ownBlock∧some k_≠(.slice b2 ao.length b1:Value).ownBlock) (.slice aj χ.length ak) χ):=⟨(by rw[hw];exact(by(with_reducible repeat first|apply Kd.Qi|apply Kd.Qh|apply Kd.Ql);exact Kd.Qu (Kd.Qm (p:=⟨ψ,3,none⟩) (Kd.Qm (p:=⟨ψ,2,none⟩) (Kd.Qm (p:=⟨ψ,1,none⟩) (Kd.Qm (p:=⟨ψ,0,none⟩) (Kd.Qy ah.out b5.out (by decide)) (fun _ hk=>hk.2) (.int .i64 cf)) (fun _ hk=>hk.2) (.int .i64 ch)) (fun _ hk=>hk.2) (.int .i64 ci)) (fun _ hk=>hk.2) (.slice b2 ao.length b1)) (fun _ hk=>⟨hk.1.1.1.1.1,⟨hk.1.1.1.1.2.1,⟨hk.1.1.1.1.2.2,⟨hk.1.1.1.2,⟨hk.1.1.2,hk.1.2⟩⟩⟩⟩⟩)))⟩;have ε :Aside0 (Kd.V (Kd.int .u8) 5 er w.heap.size (fun k_=>some k_≠(ck:Value).ownBlock∧some k_≠(cm:Value).ownBlock∧some k_≠(.slice ae φ.length af:Value).ownBlock∧some k_≠(.slice aj χ.length ak:Value).ownBlock∧some k_≠(.slice du d8.length dv:Value).ownBlock∧some k_≠(.slice b3 d9.length b4:Value).ownBlock∧some k_≠(.slice b2 ao.length b1:Value).ownBlock∧k_≠ac∧k_≠a8∧k_ ≠ ω ∧ k_ ≠ ξ ∧ k_ ≠ ψ) (.slice a9 ap.length aa) ap):=⟨(by rw[hw];exact(by(with_reducible repeat first|apply Kd.Qx|apply Kd.Qw|apply Kd.Q0);exact Kd.Qt (Kd.Qq (p:=⟨ψ,3,none⟩) (Kd.Qq (p:=⟨ψ,2,none⟩) (Kd.Qq (p:=⟨ψ,1,none⟩) (Kd.Qq (p:=⟨ψ,0,none⟩) (Kd.Qt bh.out (fun k_ hk=>(⟨hk,hk.2⟩:_∧k_ ≠ ψ))) (fun _ hk=>hk.2) (.int .i64 cf)) (fun _ hk=>hk.2) (.int .i64 ch)) (fun _ hk=>hk.2) (.int .i64 ci)) (fun _ hk=>hk.2) (.slice b2 ao.length b1)) (fun _ hk=>⟨hk.1.1.1.1.1.1.1,⟨hk.1.1.1.1.1.1.2.1,⟨hk.1.1.1.1.1.1.2.2.1,⟨hk.1.1.1.1.1.1.2.2.2.1,⟨hk.1.1.1.1.2,⟨hk.1.1.1.2,⟨hk.1.1.2,⟨hk.1.1.1.1.1.1.2.2.2.2.1,⟨hk.1.1.1.1.1.1.2.2.2.2.2.1,⟨hk.1.1.1.1.1.1.2.2.2.2.2.2,⟨hk.1.1.1.1.1.2,hk.1.2⟩⟩⟩⟩⟩⟩⟩⟩⟩⟩⟩)))⟩;have ν :Aside0 (Kd.V (Kd.int .u8) 5 er w.heap.size (fun k_=>some k_≠(ck:Value).ownBlock∧some k_≠(cm:Value).ownBlock∧some k_≠(.slice ae φ.length af:Value).ownBlock∧some k_≠(.slice aj χ.length ak:Value).ownBlock∧some k_≠(.slice du d8.length dv:Value).ownBlock∧some k_≠(.slice b3 d9.length b4:Value).ownBlock∧some k_≠(.slice b2 ao.length b1:Value).ownBlock∧k_≠ac∧k_≠a8∧k_ ≠ ω ∧ k_ ≠ ξ ∧ k_ ≠ ψ) (.slice bd an.length be) an):=⟨(by rw[hw];exact(by(with_reducible repeat first|apply Kd.Qx|apply Kd.Qw|apply Kd.Q0);exact Kd.Qt (Kd.Qq (p:=⟨ψ,3,none⟩) (Kd.Qq (p:=⟨ψ,2,none⟩) (Kd.Qq (p:=⟨ψ,1,none⟩) (Kd.Qq (p:=⟨ψ,0,none⟩) (Kd.Qt bi.out (fun k_ hk=>(⟨hk,hk.2⟩:_∧k_ ≠ ψ))) (fun _ hk=>hk.2) (.int .i64 cf)) (fun _ hk=>hk.2) (.int .i64 ch)) (fun _ hk=>hk.2) (.int .i64 ci)) (fun _ hk=>hk.2) (.slice b2 ao.length b1)) (fun _ hk=>⟨hk.1.1.1.1.1.1.1,⟨hk.1.1.1.1.1.1.2.1,⟨hk.1.1.1.1.1.1.2.2.1,⟨hk.1.1.1.1.1.1.2.2.2.1,⟨hk.1.1.1.1.2,⟨hk.1.1.1.2,⟨hk.1.1.2,⟨hk.1.1.1.1.1.1.2.2.2.2.1,⟨hk.1.1.1.1.1.1.2.2.2.2.2.1,⟨hk.1.1.1.1.1.1.2.2.2.2.2.2,⟨hk.1.1.1.1.1.2,hk.1.2⟩⟩⟩⟩⟩⟩⟩⟩⟩⟩⟩)))⟩;have ρ:Aside0 (Kd.R (Kd.int .u8) 5 er w.heap.size (fun k_=>some k_≠(ck:Value).ownBlock∧some k_≠(cm:Value).ownBlock∧some k_≠(.slice ae φ.length af:Value).ownBlock∧some k_≠(.slice aj χ.length ak:Value).ownBlock∧some k_≠(.slice b3 d9.length b4:Value).ownBlock∧some k_≠(.slice b2 ao.length b1:Value).ownBlock) (.slice du d8.length dv) d8):=⟨(by rw[hw];exact(by(with_reducible repeat first|apply Kd.Qi|apply Kd.Qh|apply Kd.Ql);exact Kd.Qu (Kd.Qm (p:=⟨ψ,3,none⟩) (Kd.Qm (p:=⟨ψ,2,none⟩) (Kd.Qm (p:=⟨ψ,1,none⟩) (Kd.Qm (p:=⟨ψ,0,none⟩) (Kd.Qy bo.out b5.out (by decide)) (fun _ hk=>hk.2) (.int .i64 cf)) (fun _ hk=>hk.2) (.int .i64 ch)) (fun _ hk=>hk.2) (.int .i64 ci)) (fun _ hk=>hk.2) (.slice b2 ao.length b1)) (fun _ hk=>⟨hk.1.1.1.1.1.2,⟨hk.1.1.1.1.2,⟨hk.1.1.1.2,⟨hk.1.1.2,⟨hk.1.1.1.1.1.1,hk.1.2⟩⟩⟩⟩⟩)))⟩;have a4:Aside0 (Kd.R (Kd.int .u8) 5 er w.heap.size (fun k_=>some k_≠(ck:Value).ownBlock∧some k_≠(cm:Value).ownBlock∧some k_≠(.slice ae φ.length af:Value).ownBlock∧some k_≠(.slice aj χ.length ak:Value).ownBlock∧some k_≠(.slice du d8.length dv:Value).ownBlock∧some k_≠(.slice b2 ao.length b1:Value).ownBlock) (.slice b3 d9.length b4) d9):=⟨(by rw[hw];exact(by(with_reducible repeat first|apply Kd.Qi|apply Kd.Qh|apply Kd.Ql);exact Kd.Qu (Kd.Qm (p:=⟨ψ,3,none⟩) (Kd.Qm (p:=⟨ψ,2,none⟩) (Kd.Qm (p:=⟨ψ,1,none⟩) (Kd.Qm (p:=⟨ψ,0,none⟩) (Kd.Qy bp.out b5.out (by decide)) (fun _ hk=>hk.2) (.int .i64 cf)) (fun _ hk=>hk.2) (.int .i64 ch)) (fun _ hk=>hk.2) (.int .i64 ci)) (fun _ hk=>hk.2) (.slice b2 ao.length b1)) (fun _ hk=>⟨hk.1.1.1.1.1.2,⟨hk.1.1.1.1.2,⟨hk.1.1.1.2,⟨hk.1.1.2,⟨hk.1.1.1.1.1.1,hk.1.2⟩⟩⟩⟩⟩)))⟩;have a5:Aside0 (Kd.R (Kd.int .u8) 5 er w.heap.size (fun k_=>some k_≠(ck:Value).ownBlock∧some k_≠(cm:Value).ownBlock∧some k_≠(.slice ae φ.length af:Value).ownBlock∧some k_≠(.slice aj χ.length ak:Value).ownBlock∧some k_≠(.slice du d8.length dv:Value).ownBlock∧some k_≠(.slice b3 d9.length b4:Value).ownBlock) (.slice b2 ao.length b1) ao):=⟨(by rw[hw];exact(by(with_reducible repeat first|apply Kd.Qi|apply Kd.Qh|apply Kd.Ql);exact Kd.Qu (Kd.Qm (p:=⟨ψ,3,none⟩) (Kd.Qm (p:=⟨ψ,2,none⟩) (Kd.Qm (p:=⟨ψ,1,none⟩) (Kd.Qm (p:=⟨ψ,0,none⟩) (Kd.Qy bq.out b5.out (by decide)) (fun _ hk=>hk.2) (.int .i64 cf)) (fun _ hk=>hk.2) (.int .i64 ch)) (fun _ hk=>hk.2) (.int .i64 ci)) (fun _ hk=>hk.2) (.slice b2 ao.length b1)) (fun _ hk=>⟨hk.1.1.1.1.1.1.2,⟨hk.1.1.1.1.1.2,⟨hk.1.1.1.1.2,⟨hk.1.1.1.2,⟨hk.1.1.2,hk.1.2⟩⟩⟩⟩⟩)))⟩;have ab:Aside0 (er.heap[ac]?=some (.cells #[.slice γ J.length δ,.slice Y B.length Z] 24 (0,0))):=⟨(by rw[hw];exact(by(with_reducible repeat first|apply Qb|apply Qd|apply Qc);refine Qs ?_ dj.out _;(with_reducible repeat first|apply Qb|apply Qd|apply Qc);refine Qs ?_ dj.out _;(with_reducible repeat first|apply Qb|apply Qd|apply Qc);refine Qs ?_ dj.out _;(with_reducible repeat first|apply Qb|apply Qd|apply Qc);refine Qs ?_ dj.out _;(with_reducible repeat first|apply Qb|apply Qd|apply Qc);exact ι.out))⟩;have am:Aside0 (er.heap[a8]?=some (.cells #[.int .i64 ζ,.int .i64 κ,.int .i64 μ,.slice a6 η.length a7] 26 (0,0))):=⟨(by rw[hw];exact(by(with_reducible repeat first|apply Qb|apply Qd|apply Qc);refine Qs ?_ dk.out _;(with_reducible repeat first|apply Qb|apply Qd|apply Qc);refine Qs ?_ dk.out _;(with_reducible repeat first|apply Qb|apply Qd|apply Qc);refine Qs ?_ dk.out _;(with_reducible repeat first|apply Qb|apply Qd|apply Qc);refine Qs ?_ dk.out _;(with_reducible repeat first|apply Qb|apply Qd|apply Qc);exact X.out))⟩;have ar:Aside0 (er.heap[ω]?=some (.cells #[.slice ae φ.length af,.slice aj χ.length ak] 24 (0,0))):=⟨(by rw[hw];exact(by(with_reducible repeat first|apply Qb|apply Qd|apply Qc);refine Qs ?_ cx.out _;(with_reducible repeat first|apply Qb|apply Qd|apply Qc);refine Qs ?_ cx.out _;(with_reducible repeat first|apply Qb|apply Qd|apply Qc);refine Qs ?_ cx.out _;(with_reducible repeat first|apply Qb|apply Qd|apply Qc);refine Qs ?_ cx.out _;(with_reducible repeat first|apply Qb|apply Qd|apply Qc);exact a3.out))⟩;have b8:Aside0 (er.heap[ξ]?=some (.cells #[.slice a9 ap.length aa,.slice bd an.length be,.bool av,.int .i64 b0] 34 (0,0))):=⟨(by rw[hw];exact(by(with_reducible repeat first|apply Qb|apply Qd|apply Qc);refine Qs ?_ d4.out _;(with_reducible repeat first|apply Qb|apply Qd|apply Qc);refine Qs ?_ d4.out _;(with_reducible repeat first|apply Qb|apply Qd|apply Qc);refine Qs ?_ d4.out _;(with_reducible repeat first|apply Qb|apply Qd|apply Qc);refine Qs ?_ d4.out _;(with_reducible repeat first|apply Qb|apply Qd|apply Qc);exact ai.out))⟩;have bb:Aside0 (er.heap[ψ]?=some (.cells #[.int .i64 cf,.int .i64 ch,.int .i64 ci,.slice b2 ao.length b1] 26 (0,0))):=⟨(by rw[hw];exact(by(with_reducible repeat first|apply Qb|apply Qd|apply Qc);refine Qk (cs:=#[.int .i64 cf,.int .i64 ch,.int .i64 ci,.slice none 0 0]) ?_ 3 _ rfl;(with_reducible repeat first|apply Qb|apply Qd|apply Qc);refine Qk (cs:=#[.int .i64 cf,.int .i64 ch,.int .i64 0,.slice none 0 0]) ?_ 2 _ rfl;(with_reducible repeat first|apply Qb|apply Qd|apply Qc);refine Qk (cs:=#[.int .i64 cf,.int .i64 0,.int .i64 0,.slice none 0 0]) ?_ 1 _ rfl;(with_reducible repeat first|apply Qb|apply Qd|apply Qc);refine Qk (cs:=#[.int .i64 0,.int .i64 0,.int .i64 0,.slice none 0 0]) ?_ 0 _ rfl;(with_reducible repeat first|apply Qb|apply Qd|apply Qc);exact b5.out))⟩;have bz:Aside0 (Below w.heap.size w er):=⟨(by rw[hw];exact(by repeat(first|(with_reducible first|exact HB.out|apply Qe|apply Qa|apply Qf|refine Qg ?_ bm.out|refine Qg ?_ bn.out|refine Qg ?_ ba.out|refine Qg ?_ cu.out|refine Qg ?_ ew.out)|exact HB.out)))⟩;clear hw;clear a0;clear a1;clear ag;clear ah;clear bh;clear bi;clear bo;clear bp;clear bq;clear ι;clear X;clear a3;clear ai;clear b5;clear HB;have a0:=D;have a1:=I;have ag:=O;have ah:=U;have bh:= ε;have bi:= ν;have bo:=ρ;have bp:=a4;have bq:=a5;have ι :=ab;have X:=am;have a3:=ar;have ai:=b8;have b5:=bb;have HB:=bz;clear D I O U ε ν ρ a4 a5 ab am ar b8 bb bz;obtain⟨he,hh,hj,hl⟩:=qD2 ι.out)|((with_reducible refine Qv (f:=15) rfl ?_);refine Ze (some 46) rfl rfl Tryd.func15 kr rfl #[.agg #[.slice γ J.length δ,.slice Y B.length Z]] rfl (by(try simp only[List.map_toArray,List.map_cons,List.map_nil]);first|done|rfl|(simp only[List.length_drop,List.length_take];rfl)) ?_;(with_reducible refine(newelref12_Recover.calls b6 (fun k_=>k_<w.heap.size) _ _ J (fun k_=>k_<w.heap.size) _ _ B b9 bc bg cy bk e3 _ ?side1 ?side2 pk.out).mono ?_);(case side1=>exact Kd.Vn d7.out (Kd.Y2 (Kd.C_F (Kd.J8 .u8) ct.out) (by repeat(first|(with_reducible first|exact HB.out|apply Qe|apply Qa|apply Qf|refine Qg ?_ bm.out|refine Qg ?_ bn.out|refine Qg ?_ ba.out|refine Qg ?_ cu.out|refine Qg ?_ ew.out)|exact HB.out))));(case side2=>exact Kd.Vn cz.out (Kd.Y2 (Kd.C_F (Kd.J8 .u8) cv.out) (by repeat(first|(with_reducible first|exact HB.out|apply Qe|apply Qa|apply Qf|refine Qg ?_ bm.out|refine Qg ?_ bn.out|refine Qg ?_ ba.out|refine Qg ?_ cu.out|refine Qg ?_ ew.out)|exact HB.out))));rintro e g8 ⟨u0,rfl,θ,hb⟩;refine⟨_,rfl, ?_⟩;have D:=Aside0.mk (Kd.Q1 (by(with_reducible repeat first|apply Kd.Qi|apply Kd.Qh|apply Kd.Ql);exact a0.out) hb);have I:=Aside0.mk (Kd.Q1 (by(with_reducible repeat first|apply Kd.Qi|apply Kd.Qh|apply Kd.Ql);exact a1.out) hb);have O:=Aside0.mk (Kd.Q1 (by(with_reducible repeat first|apply Kd.Qi|apply Kd.Qh|apply Kd.Ql);exact ag.out) hb);have U:=Aside0.mk (Kd.Q1 (by(with_reducible repeat first|apply Kd.Qi|apply Kd.Qh|apply Kd.Ql);exact ah.out) hb);have ε :=Aside0.mk (Kd.Q2 (by(with_reducible repeat first|apply Kd.Qx|apply Kd.Qw|apply Kd.Q0);exact bh.out) hb);have ν :=Aside0.mk (Kd.Q2 (by(with_reducible repeat first|apply Kd.Qx|apply Kd.Qw|apply Kd.Q0);exact bi.out) hb);have ρ:=Aside0.mk (Kd.Q1 (by(with_reducible repeat first|apply Kd.Qi|apply Kd.Qh|apply Kd.Ql);exact bo.out) hb);have a4:=Aside0.mk (Kd.Q1 (by(with_reducible repeat first|apply Kd.Qi|apply Kd.Qh|apply Kd.Ql);exact bp.out) hb);have a5:=Aside0.mk (Kd.Q1 (by(with_reducible repeat first|apply Kd.Qi|apply Kd.Qh|apply Kd.Ql);exact bq.out) hb);have ab:=Aside0.mk (Kd.Y1 (Kd.Qt (ok':=fun k_=>some k_≠(ck:Value).ownBlock∧some k_≠(cm:Value).ownBlock∧some k_≠(.slice ae φ.length af:Value).ownBlock∧some k_≠(.slice aj χ.length ak:Value).ownBlock∧some k_≠(.slice du d8.length dv:Value).ownBlock∧some k_≠(.slice b3 d9.length b4:Value).ownBlock∧some k_≠(.slice b2 ao.length b1:Value).ownBlock∧k_≠ac∧k_≠a8∧k_ ≠ ω ∧ k_ ≠ ξ ∧ k_ ≠ ψ) θ (fun k_ hk_=>⟨Or.elim hk_ (fun hs_=>Or.elim hs_ (fun hs_=>fun e_=>Nat.not_le.2 hs_ (Kd.Q5 a0.out k_ e_.symm)) (fun hs_=>fun e_=>Nat.not_le.2 hs_ (Kd.Q5 a0.out k_ e_.symm))) (fun hn_=>(Kd.fresh' (Kd.Zp (by(with_reducible repeat first|apply Kd.Qi|apply Kd.Qh|apply Kd.Ql);exact a0.out)) k_ hn_)),Or.elim hk_ (fun hs_=>Or.elim hs_ (fun hs_=>fun e_=>Nat.not_le.2 hs_ (Kd.Q5 a1.out k_ e_.symm)) (fun hs_=>fun e_=>Nat.not_le.2 hs_ (Kd.Q5 a1.out k_ e_.symm))) (fun hn_=>(Kd.fresh' (Kd.Zp (by(with_reducible repeat first|apply Kd.Qi|apply Kd.Qh|apply Kd.Ql);exact a1.out)) k_ hn_)),Or.elim hk_ (fun hs_=>Or.elim hs_ (fun hs_=>fun e_=>Nat.not_le.2 hs_ (Kd.Q5 ag.out k_ e_.symm)) (fun hs_=>fun e_=>Nat.not_le.2 hs_ (Kd.Q5 ag.out k_ e_.symm))) (fun hn_=>(Kd.fresh' (Kd.Zp (by(with_reducible repeat first|apply Kd.Qi|apply Kd.Qh|apply Kd.Ql);exact ag.out)) k_ hn_)),Or.elim hk_ (fun hs_=>Or.elim hs_ (fun hs_=>fun e_=>Nat.not_le.2 hs_ (Kd.Q5 ah.out k_ e_.symm)) (fun hs_=>fun e_=>Nat.not_le.2 hs_ (Kd.Q5 ah.out k_ e_.symm))) (fun hn_=>(Kd.fresh' (Kd.Zp (by(with_reducible repeat first|apply Kd.Qi|apply Kd.Qh|apply Kd.Ql);exact ah.out)) k_ hn_)),Or.elim hk_ (fun hs_=>Or.elim hs_ (fun hs_=>fun e_=>Nat.not_le.2 hs_ (Kd.Q5 bo.out k_ e_.symm)) (fun hs_=>fun e_=>Nat.not_le.2 hs_ (Kd.Q5 bo.out k_ e_.symm))) (fun hn_=>(Kd.fresh' (Kd.Zp (by(with_reducible repeat first|apply Kd.Qi|apply Kd.Qh|apply Kd.Ql);exact bo.out)) k_ hn_)),Or.elim hk_ (fun hs_=>Or.elim hs_ (fun hs_=>fun e_=>Nat.not_le.2 hs_ (Kd.Q5 bp.out k_ e_.symm)) (fun hs_=>fun e_=>Nat.not_le.2 hs_ (Kd.Q5 bp.out k_ e_.symm))) (fun hn_=>(Kd.fresh' (Kd.Zp (by(with_reducible repeat first|apply Kd.Qi|apply Kd.Qh|apply Kd.Ql);exact bp.out)) k_ hn_)),Or.elim hk_ (fun hs_=>Or.elim hs_ (fun hs_=>fun e_=>Nat.not_le.2 hs_ (Kd.Q5 bq.out k_ e_.symm)) (fun hs_=>fun e_=>Nat.not_le.2 hs_ (Kd.Q5 bq.out k_ e_.symm))) (fun hn_=>(Kd.fresh' (Kd.Zp (by(with_reducible repeat first|apply Kd.Qi|apply Kd.Qh|apply Kd.Ql);exact bq.out)) k_ hn_)),Or.elim hk_ (fun hs_=>Or.elim hs_ (fun hs_=>fun e_=>Nat.not_le.2 hs_ (by rw[e_];exact ip.out)) (fun hs_=>fun e_=>Nat.not_le.2 hs_ (by rw[e_];exact ip.out))) (fun hn_=>(Kd.Z5 (g:=ac) (o:=.cells #[.slice γ J.length δ,.slice Y B.length Z] 24 (0,0)) (by(with_reducible repeat first|apply Qb|apply Qd|apply Qc);exact ι.out) k_ hn_)),Or.elim hk_ (fun hs_=>Or.elim hs_ (fun hs_=>fun e_=>Nat.not_le.2 hs_ (by rw[e_];exact iq.out)) (fun hs_=>fun e_=>Nat.not_le.2 hs_ (by rw[e_];exact iq.out))) (fun hn_=>(Kd.Z5 (g:=a8) (o:=.cells #[.int .i64 ζ,.int .i64 κ,.int .i64 μ,.slice a6 η.length a7] 26 (0,0)) (by(with_reducible repeat first|apply Qb|apply Qd|apply Qc);exact X.out) k_ hn_)),Or.elim hk_ (fun hs_=>Or.elim hs_ (fun hs_=>fun e_=>Nat.not_le.2 hs_ (by rw[e_];exact dq.out)) (fun hs_=>fun e_=>Nat.not_le.2 hs_ (by rw[e_];exact dq.out))) (fun hn_=>(Kd.Z5 (g:= ω) (o:=.cells #[.slice ae φ.length af,.slice aj χ.length ak] 24 (0,0)) (by(with_reducible repeat first|apply Qb|apply Qd|apply Qc);exact a3.out) k_ hn_)),Or.elim hk_ (fun hs_=>Or.elim hs_ (fun hs_=>fun e_=>Nat.not_le.2 hs_ (by rw[e_];exact o4.out)) (fun hs_=>fun e_=>Nat.not_le.2 hs_ (by rw[e_];exact o4.out))) (fun hn_=>(Kd.Z5 (g:= ξ) (o:=.cells #[.slice a9 ap.length aa,.slice bd an.length be,.bool av,.int .i64 b0] 34 (0,0)) (by(with_reducible repeat first|apply Qb|apply Qd|apply Qc);exact ai.out) k_ hn_)),Or.elim hk_ (fun hs_=>Or.elim hs_ (fun hs_=>fun e_=>Nat.not_le.2 hs_ (by rw[e_];exact o5.out)) (fun hs_=>fun e_=>Nat.not_le.2 hs_ (by rw[e_];exact o5.out))) (fun hn_=>(Kd.Z5 (g:= ψ) (o:=.cells #[.int .i64 cf,.int .i64 ch,.int .i64 ci,.slice b2 ao.length b1] 26 (0,0)) (by(with_reducible repeat first|apply Qb|apply Qd|apply Qc);exact b5.out) k_ hn_))⟩)) (Qj (by repeat(first|(with_reducible first|exact HB.out|apply Qe|apply Qa|apply Qf|refine Qg ?_ bm.out|refine Qg ?_ bn.out|refine Qg ?_ ba.out|refine Qg ?_ cu.out|refine Qg ?_ ew.out)|exact HB.out))));have am:=Aside0.mk (Qp (g:=ac) (o:=.cells #[.slice γ J.length δ,.slice Y B.length Z] 24 (0,0)) (by(with_reducible repeat first|apply Qb|apply Qd|apply Qc);exact ι.out) hb);have ar:=Aside0.mk (Qp (g:=a8) (o:=.cells #[.int .i64 ζ,.int .i64 κ,.int .i64 μ,.slice a6 η.length a7] 26 (0,0)) (by(with_reducible repeat first|apply Qb|apply Qd|apply Qc);exact X.out) hb);have b8:=Aside0.mk (Qp (g:= ω) (o:=.cells #[.slice ae φ.length af,.slice aj χ.length ak] 24 (0,0)) (by(with_reducible repeat first|apply Qb|apply Qd|apply Qc);exact a3.out) hb);have bb:=Aside0.mk (Qp (g:= ξ) (o:=.cells #[.slice a9 ap.length aa,.slice bd an.length be,.bool av,.int .i64 b0] 34 (0,0)) (by(with_reducible repeat first|apply Qb|apply Qd|apply Qc);exact ai.out) hb);have bz:=Aside0.mk (Qp (g:= ψ) (o:=.cells #[.int .i64 cf,.int .i64 ch,.int .i64 ci,.slice b2 ao.length b1] 26 (0,0)) (by(with_reducible repeat first|apply Qb|apply Qd|apply Qc);exact b5.out) hb);have cj:=Aside0.mk (Qr (by repeat(first|(with_reducible first|exact HB.out|apply Qe|apply Qa|apply Qf|refine Qg ?_ bm.out|refine Qg ?_ bn.out|refine Qg ?_ ba.out|refine Qg ?_ cu.out|refine Qg ?_ ew.out)|exact HB.out)) hb);clear a0;clear a1;clear ag;clear ah;clear bh;clear bi;clear bo;clear bp;clear bq;clear ι;clear X;clear a3;clear ai;clear b5;clear HB;have a0:=D;have a1:=I;have ag:=O;have ah:=U;have bh:= ε;have bi:= ν;have bo:=ρ;have bp:=a4;have bq:=a5;have d0:=ab;have ι :=am;have X:=ar;have a3:=b8;have ai:=bb;have b5:=bz;have HB:=cj;clear D I O U ε ν ρ a4 a5 ab am ar b8 bb bz cj;(try clear hb);(try clear az);(try clear hk);(try clear hi);(try clear θ))|((with_reducible refine Qz (N:=14) rfl ?_);(try(refine Zw (by rfl) ?_;dsimp only));refine Q7 ?hg (N:=14) ?hd (cs:=#[.int .i64 0,.int .i64 0,.int .i64 0,.slice none 0 0,.bool false,.bool false]) (t:=39) ?hr ?_;(case hd=>rfl);(case hg=>rfl);(case hr=>first|(go_simp;done)|(go_simp;rfl));intro τ hg ub hbox hb;have D:=Aside0.mk (Kd.Q1 (by(with_reducible repeat first|apply Kd.Qi|apply Kd.Qh|apply Kd.Ql);exact a0.out) hb);have I:=Aside0.mk (Kd.Q1 (by(with_reducible repeat first|apply Kd.Qi|apply Kd.Qh|apply Kd.Ql);exact a1.out) hb);have O:=Aside0.mk (Kd.Q1 (by(with_reducible repeat first|apply Kd.Qi|apply Kd.Qh|apply Kd.Ql);exact ag.out) hb);have U:=Aside0.mk (Kd.Q1 (by(with_reducible repeat first|apply Kd.Qi|apply Kd.Qh|apply Kd.Ql);exact ah.out) hb);have ε :=Aside0.mk (Kd.Q2 (Kd.Q9 (by(with_reducible repeat first|apply Kd.Qx|apply Kd.Qw|apply Kd.Q0);exact bh.out) τ (Nat.le_of_eq hg.symm)) hb);have ν :=Aside0.mk (Kd.Q2 (Kd.Q9 (by(with_reducible repeat first|apply Kd.Qx|apply Kd.Qw|apply Kd.Q0);exact bi.out) τ (Nat.le_of_eq hg.symm)) hb);have ρ:=Aside0.mk (Kd.Q1 (by(with_reducible repeat first|apply Kd.Qi|apply Kd.Qh|apply Kd.Ql);exact bo.out) hb);have a4:=Aside0.mk (Kd.Q1 (by(with_reducible repeat first|apply Kd.Qi|apply Kd.Qh|apply Kd.Ql);exact bp.out) hb);have a5:=Aside0.mk (Kd.Q1 (by(with_reducible repeat first|apply Kd.Qi|apply Kd.Qh|apply Kd.Ql);exact bq.out) hb);have ab:=Aside0.mk (Kd.Q2 (Kd.Q9 (by(with_reducible repeat first|apply Kd.Qx|apply Kd.Qw|apply Kd.Q0);exact d0.out) τ (Nat.le_of_eq hg.symm)) hb);have am:=Aside0.mk (Qp (g:=ac) (o:=.cells #[.slice γ J.length δ,.slice Y B.length Z] 24 (0,0)) (by(with_reducible repeat first|apply Qb|apply Qd|apply Qc);exact ι.out) hb);have ar:=Aside0.mk (Qp (g:=a8) (o:=.cells #[.int .i64 ζ,.int .i64 κ,.int .i64 μ,.slice a6 η.length a7] 26 (0,0)) (by(with_reducible repeat first|apply Qb|apply Qd|apply Qc);exact X.out) hb);have b8:=Aside0.mk (Qp (g:= ω) (o:=.cells #[.slice ae φ.length af,.slice aj χ.length ak] 24 (0,0)) (by(with_reducible repeat first|apply Qb|apply Qd|apply Qc);exact a3.out) hb);have bb:=Aside0.mk (Qp (g:= ξ) (o:=.cells #[.slice a9 ap.length aa,.slice bd an.length be,.bool av,.int .i64 b0] 34 (0,0)) (by(with_reducible repeat first|apply Qb|apply Qd|apply Qc);exact ai.out) hb);have bz:=Aside0.mk (Qp (g:= ψ) (o:=.cells #[.int .i64 cf,.int .i64 ch,.int .i64 ci,.slice b2 ao.length b1] 26 (0,0)) (by(with_reducible repeat first|apply Qb|apply Qd|apply Qc);exact b5.out) hb);have cj:=Aside0.mk (Qr (by repeat(first|(with_reducible first|exact HB.out|apply Qe|apply Qa|apply Qf|refine Qg ?_ bm.out|refine Qg ?_ bn.out|refine Qg ?_ ba.out|refine Qg ?_ cu.out|refine Qg ?_ ew.out)|exact HB.out)) hb);have cr:=Aside0.mk (hbox);have dx:=Aside0.mk ((by rw[hg];exact(Qj (by repeat(first|(with_reducible first|exact HB.out|apply Qe|apply Qa|apply Qf|refine Qg ?_ bm.out|refine Qg ?_ bn.out|refine Qg ?_ ba.out|refine Qg ?_ cu.out|refine Qg ?_ ew.out)|exact HB.out))):w.heap.size ≤ τ));have ep:=Aside0.mk ((by rw[hg];exact(Qj (by repeat(first|(with_reducible first|exact HB.out|apply Qe|apply Qa|apply Qf|refine Qg ?_ bm.out|refine Qg ?_ bn.out|refine Qg ?_ ba.out|refine Qg ?_ cu.out|refine Qg ?_ ew.out)|exact HB.out))):w.heap.size ≤ τ));have g9:=Aside0.mk ((by rw[hg];exact Nat.ne_of_lt (Q8 (g:=ac) (o:=.cells #[.slice γ J.length δ,.slice Y B.length Z] 24 (0,0)) (by(with_reducible repeat first|apply Qb|apply Qd|apply Qc);exact ι.out)):ac ≠ τ));have mb:=Aside0.mk ((by rw[hg];exact Nat.ne_of_gt (Q8 (g:=ac) (o:=.cells #[.slice γ J.length δ,.slice Y B.length Z] 24 (0,0)) (by(with_reducible repeat first|apply Qb|apply Qd|apply Qc);exact ι.out)): τ ≠ ac));have mc:=Aside0.mk ((by rw[hg];exact Nat.ne_of_lt (Q8 (g:=a8) (o:=.cells #[.int .i64 ζ,.int .i64 κ,.int .i64 μ,.slice a6 η.length a7] 26 (0,0)) (by(with_reducible repeat first|apply Qb|apply Qd|apply Qc);exact X.out)):a8 ≠ τ));have me:=Aside0.mk ((by rw[hg];exact Nat.ne_of_gt (Q8 (g:=a8) (o:=.cells #[.int .i64 ζ,.int .i64 κ,.int .i64 μ,.slice a6 η.length a7] 26 (0,0)) (by(with_reducible repeat first|apply Qb|apply Qd|apply Qc);exact X.out)): τ ≠ a8));have mf:=Aside0.mk ((by rw[hg];exact Nat.ne_of_lt (Q8 (g:= ω) (o:=.cells #[.slice ae φ.length af,.slice aj χ.length ak] 24 (0,0)) (by(with_reducible repeat first|apply Qb|apply Qd|apply Qc);exact a3.out)): ω ≠ τ));have mg:=Aside0.mk ((by rw[hg];exact Nat.ne_of_gt (Q8 (g:= ω) (o:=.cells #[.slice ae φ.length af,.slice aj χ.length ak] 24 (0,0)) (by(with_reducible repeat first|apply Qb|apply Qd|apply Qc);exact a3.out)): τ ≠ ω));have pw:=Aside0.mk ((by rw[hg];exact Nat.ne_of_lt (Q8 (g:= ξ) (o:=.cells #[.slice a9 ap.length aa,.slice bd an.length be,.bool av,.int .i64 b0] 34 (0,0)) (by(with_reducible repeat first|apply Qb|apply Qd|apply Qc);exact ai.out)): ξ ≠ τ));have px:=Aside0.mk ((by rw[hg];exact Nat.ne_of_gt (Q8 (g:= ξ) (o:=.cells #[.slice a9 ap.length aa,.slice bd an.length be,.bool av,.int .i64 b0] 34 (0,0)) (by(with_reducible repeat first|apply Qb|apply Qd|apply Qc);exact ai.out)): τ ≠ ξ));have py:=Aside0.mk ((by rw[hg];exact Nat.ne_of_lt (Q8 (g:= ψ) (o:=.cells #[.int .i64 cf,.int .i64 ch,.int .i64 ci,.slice b2 ao.length b1] 26 (0,0)) (by(with_reducible repeat first|apply Qb|apply Qd|apply Qc);exact b5.out)): ψ ≠ τ));have pz:=Aside0.mk ((by rw[hg];exact Nat.ne_of_gt (Q8 (g:= ψ) (o:=.cells #[.int .i64 cf,.int .i64 ch,.int .i64 ci,.slice b2 ao.length b1] 26 (0,0)) (by(with_reducible repeat first|apply Qb|apply Qd|apply Qc);exact b5.out)): τ ≠ ψ));clear a0;clear a1;clear ag;clear ah;clear bh;clear bi;clear bo;clear bp;clear bq;clear d0;clear ι;clear X;clear a3;clear ai;clear b5;clear HB;have a0:=D;have a1:=I;have ag:=O;have ah:=U;have bh:= ε;have bi:= ν;have bo:=ρ;have bp:=a4;have bq:=a5;have d0:=ab;have ι :=am;have X:=ar;have a3:=b8;have ai:=bb;have b5:=bz;have HB:=cj;have b7:=cr;have tb:=dx;have tc:=ep;have gj:=g9;have gk:=mb;have gl:=mc;have gm:=me;have e8:=mf;have e9:=mg;have ez:=pw;have f4:=px;have gn:=py;have gp:=pz;clear D I O U ε ν ρ a4 a5 ab am ar b8 bb bz cj cr dx ep g9 mb mc me mf mg pw px py pz;clear hb hbox hg;have ql:=gk.out;have qm:=gj.out;have td:=gm.out;have te:=gl.out;have tf:=e9.out;have tg:=e8.out;have ti:=f4.out;have tj:=ez.out;have qn:=gp.out;have qo:=gn.out;obtain⟨hu,hx,hy,i0,ki,kj,i1,i2,i3,i4,kk,kl⟩:=qD6 b7.out;obtain⟨eb,dy,rx⟩:=Kd.Jo d0.out;subst rx))
    (try simp only[Act.put,qS])
    go_cut [85] (fun sp wc=>∃ (kq:Nat) (k6:Bool),sp = .bool k6∧Aside0 (newellaw12_FlashWrites.j1 kq bj k6 φ χ ap an av b0=some r)∧Aside0 (kq≤b6)∧Aside0 (Kd.R (Kd.int .u8) 5 wc w.heap.size (fun k_=>some k_≠((.slice aj χ.length ak):Value).ownBlock∧some k_≠((.slice b2 ao.length b1):Value).ownBlock) (.slice ae φ.length af) φ)∧Aside0 (Kd.R (Kd.int .u8) 5 wc w.heap.size (fun k_=>some k_≠((.slice ae φ.length af):Value).ownBlock∧some k_≠((.slice b2 ao.length b1):Value).ownBlock) (.slice aj χ.length ak) χ)∧Aside0 (Kd.V (Kd.int .u8) 5 wc w.heap.size (fun k_=>some k_≠((.slice ae φ.length af):Value).ownBlock∧some k_≠((.slice aj χ.length ak):Value).ownBlock∧some k_≠((.slice b2 ao.length b1):Value).ownBlock∧k_≠ac∧k_≠a8∧k_ ≠ ω ∧ k_ ≠ ξ ∧ k_ ≠ ψ ∧ k_ ≠ τ) (.slice a9 ap.length aa) ap)∧Aside0 (Kd.V (Kd.int .u8) 5 wc w.heap.size (fun k_=>some k_≠((.slice ae φ.length af):Value).ownBlock∧some k_≠((.slice aj χ.length ak):Value).ownBlock∧some k_≠((.slice b2 ao.length b1):Value).ownBlock∧k_≠ac∧k_≠a8∧k_ ≠ ω ∧ k_ ≠ ξ ∧ k_ ≠ ψ ∧ k_ ≠ τ) (.slice bd an.length be) an)∧Aside0 (Kd.R (Kd.int .u8) 5 wc w.heap.size (fun k_=>some k_≠((.slice ae φ.length af):Value).ownBlock∧some k_≠((.slice aj χ.length ak):Value).ownBlock) (.slice b2 ao.length b1) ao)∧Aside0 (Kd.V (Kd.int .u8) 5 wc w.heap.size (fun k_=>some k_≠((.slice ae φ.length af):Value).ownBlock∧some k_≠((.slice aj χ.length ak):Value).ownBlock∧some k_≠((.slice b2 ao.length b1):Value).ownBlock∧k_≠ac∧k_≠a8∧k_ ≠ ω ∧ k_ ≠ ξ ∧ k_ ≠ ψ ∧ k_ ≠ τ) (.slice eb cy.length dy) cy)∧Aside0 (wc.heap[ac]?=some (.cells #[(.slice γ J.length δ),(.slice Y B.length Z)] 24 (0,0)))∧Aside0 (wc.heap[a8]?=some (.cells #[.int .i64 ζ,.int .i64 κ,.int .i64 μ,(.slice a6 η.length a7)] 26 (0,0)))∧Aside0 (wc.heap[ω]?=some (.cells #[(.slice ae φ.length af),(.slice aj χ.length ak)] 24 (0,0)))∧Aside0 (wc.heap[ξ]?=some (.cells #[(.slice a9 ap.length aa),(.slice bd an.length be),.bool av,.int .i64 b0] 34 (0,0)))∧Aside0 (wc.heap[ψ]?=some (.cells #[.int .i64 cf,.int .i64 ch,.int .i64 ci,(.slice b2 ao.length b1)] 26 (0,0)))∧Aside0 (wc.heap[τ]?=some (.cells #[.int .i64 b9,.int .i64 bc,.int .i64 bg,(.slice eb cy.length dy),.bool bk,.bool e3] 39 (0,0)))∧Aside0 (Below w.heap.size w wc))
    case first=>
     have H:=nl.out
     clear nl
     by_cases et:bj=b0
     ·rw[if_pos et] at H
      have c74b0:(bj==b0)=true:=beq_iff_eq.mpr et
      have c74b1:(bj != b0)=false:=bne_eq_false_iff_eq.mpr et
      clear et
      (first|rw[c74b0]|(simp only[Zu,Z4];rw[c74b0])|skip)
      by_cases k7:(dt != av)=true
      ·rw[if_pos k7] at H
       exact absurd H (by simp)
      ·rw[if_neg k7] at H
       have c75b0:(dt != av)=false:=by simpa using k7
       (try(have c75b1:decide (dt=av)=true:=by simpa using k7))
       (try(have c75b2:(dt==av)=true:=by simpa using k7))
       clear k7
       by_cases k8:((e0==0) != e3)=true
       ·rw[if_pos k8] at H
        exact absurd H (by simp)
       ·rw[if_neg k8] at H
        have c76b0:((e0==0) != e3)=false:=by simpa using k8
        (try(have c76s0:=c76b0;simp only[beq_self_eq_true,bne_self_eq_false,Bool.not_true,Bool.not_false,Bool.true_and,Bool.and_true,Bool.false_or,Bool.or_false] at c76s0))
        (try(have c76b1:decide ((e0==0)=e3)=true:=by simpa using k8))
        (try(have c76b2:((e0==0)==e3)=true:=by simpa using k8))
        clear k8
        by_cases k9:(jd != bk)=true
        ·rw[if_pos k9] at H
         exact absurd H (by simp)
        ·rw[if_neg k9] at H
         have c77b0:(jd != bk)=false:=by simpa using k9
         (try(have c77b1:decide (jd=bk)=true:=by simpa using k9))
         (try(have c77b2:(jd==bk)=true:=by simpa using k9))
         clear k9
         replace H:=Option.bind_eq_some_iff.mp H
         obtain⟨da,q0,H⟩:=H
         replace H:(if da=true then (if e3=true then (newellaw12_FlashWrites.j1 b6 bj false φ χ ap an av b0) else (newellaw12_FlashWrites.j1 b6 bj (e0 != 123) φ χ ap an av b0)) else (none))=some r:=H
         have k3:=Aside0.mk q0
         clear q0
         by_cases mh:da=true
         ·subst mh
          have H1:(if e3=true then (newellaw12_FlashWrites.j1 b6 bj false φ χ ap an av b0) else (newellaw12_FlashWrites.j1 b6 bj (e0 != 123) φ χ ap an av b0))=some r:=by rw[if_pos rfl] at H;exact H
          clear H
          have H:=H1
          clear H1
          by_cases mi:e3=true
          ·subst mi
           have H1:(newellaw12_FlashWrites.j1 b6 bj false φ χ ap an av b0)=some r:=by rw[if_pos rfl] at H;exact H
           clear H
           have H:=H1
           clear H1
           have H':=Aside0.mk H
           clear H
           have qp:=eu.out
           have qq:=d2.out
           have nw:=ev.out
           have nx:=d3.out
           have qs:=e6.out
           have qt:=cw.out
           have ny:=d4.out
           have nz:=ey.out
           have qf:=ez.out
           have qg:=f4.out
           obtain⟨km,kn,ko,kp,ks,kt,ku,kv⟩:=qD4 ai.out
           have qu:=gk.out
           have qv:=gj.out
           have qw:=gm.out
           have qx:=gl.out
           have qh:=e9.out
           have qi:=e8.out
           have qj:=gp.out
           have qk:=gn.out
           obtain⟨fe,ff,fg,fh,h0,kw,fi,fj,fk,fl,h4,kx⟩:=qD6 b7.out
           have qy:=gh.out
           have qz:=dj.out
           have tk:=gi.out
           have tl:=dk.out
           have tm:=e7.out
           have tn:=cx.out
           obtain⟨ky,kz,l2,l3,l4,l5,l6,l7⟩:=qD4 b5.out
           go_wp2_with (first|(go_at_call 16;(with_reducible refine(newelref12_Same.calls b6 cf ch ci _ _ ao b9 bc bg _ _ cy true _ ?side1 ?side2 ?side3 ?side4 k3.out).mono ?_);(case side1=>refine(Kd.Q4 (e:=5) (base:=w.heap.size) (ok:=fun k_=>(some k_≠(ck:Value).ownBlock∧(some k_≠(cm:Value).ownBlock∧(some k_≠(.slice ae φ.length af:Value).ownBlock∧(some k_≠(.slice aj χ.length ak:Value).ownBlock∧(some k_≠(.slice du d8.length dv:Value).ownBlock∧some k_≠(.slice b3 d9.length b4:Value).ownBlock)))))) (n:=ao.length) (c:=b1) ?_).2.2;exact(by(with_reducible repeat first|apply Kd.Qi|apply Kd.Qh|apply Kd.Ql);exact(Kd.Qu (Kd.Qm (Kd.Qm (Kd.Qm (Kd.Qm (Kd.Qm (Kd.Qm (Kd.Qy bq.out b7.out (by decide)) (fun _ hk=>hk.2) (.int .i64 b9)) (fun _ hk=>hk.2) (.int .i64 bc)) (fun _ hk=>hk.2) (.int .i64 bg)) (fun _ hk=>hk.2) _) (fun _ hk=>hk.2) (.bool bk)) (fun _ hk=>hk.2) (.bool true)) (fun _ h_=>h_.1))));(case side2=>exact(Kd.Q4 bq.out).2.1);(case side3=>refine(Kd.Zm (e:=5) (base:=w.heap.size) (ok:=fun k_=>((some k_≠(ck:Value).ownBlock∧(some k_≠(cm:Value).ownBlock∧(some k_≠(.slice ae φ.length af:Value).ownBlock∧(some k_≠(.slice aj χ.length ak:Value).ownBlock∧(some k_≠(.slice du d8.length dv:Value).ownBlock∧(some k_≠(.slice b3 d9.length b4:Value).ownBlock∧(some k_≠(.slice b2 ao.length b1:Value).ownBlock∧(k_≠ac∧(k_≠a8∧(k_ ≠ ω ∧ (k_ ≠ ξ ∧ k_ ≠ ψ)))))))))))∧k_ ≠ τ)) (n:=cy.length) (c:=dy) ?_).2.2;exact(by(with_reducible repeat first|apply Kd.Qx|apply Kd.Qw|apply Kd.Q0);exact(Kd.Qt (Kd.Qq (p:=⟨τ,5,none⟩) (Kd.Qq (p:=⟨τ,4,none⟩) (Kd.Qq (p:=⟨τ,3,none⟩) (Kd.Qq (p:=⟨τ,2,none⟩) (Kd.Qq (p:=⟨τ,1,none⟩) (Kd.Qq (p:=⟨τ,0,none⟩) (Kd.Qt d0.out (fun k_ hk=>(⟨hk,hk.2⟩:_∧k_ ≠ τ))) (fun _ hk=>hk.2) (.int .i64 b9)) (fun _ hk=>hk.2) (.int .i64 bc)) (fun _ hk=>hk.2) (.int .i64 bg)) (fun _ hk=>hk.2) _) (fun _ hk=>hk.2) (.bool bk)) (fun _ hk=>hk.2) (.bool true)) (fun _ h_=>h_.1))));(case side4=>exact(Kd.Zm d0.out).2.1);rintro e uc ⟨rfl,hb⟩;have D:=Aside0.mk (Kd.Q1 (by(with_reducible repeat first|apply Kd.Qi|apply Kd.Qh|apply Kd.Ql);exact(Kd.Qu (Kd.Qm (Kd.Qm (Kd.Qm (Kd.Qm (Kd.Qm (Kd.Qm (Kd.Qy a0.out b7.out (by decide)) (fun _ hk=>hk.2) (.int .i64 b9)) (fun _ hk=>hk.2) (.int .i64 bc)) (fun _ hk=>hk.2) (.int .i64 bg)) (fun _ hk=>hk.2) _) (fun _ hk=>hk.2) (.bool bk)) (fun _ hk=>hk.2) (.bool true)) (fun _ h_=>h_.1))) hb);have I:=Aside0.mk (Kd.Q1 (by(with_reducible repeat first|apply Kd.Qi|apply Kd.Qh|apply Kd.Ql);exact(Kd.Qu (Kd.Qm (Kd.Qm (Kd.Qm (Kd.Qm (Kd.Qm (Kd.Qm (Kd.Qy a1.out b7.out (by decide)) (fun _ hk=>hk.2) (.int .i64 b9)) (fun _ hk=>hk.2) (.int .i64 bc)) (fun _ hk=>hk.2) (.int .i64 bg)) (fun _ hk=>hk.2) _) (fun _ hk=>hk.2) (.bool bk)) (fun _ hk=>hk.2) (.bool true)) (fun _ h_=>h_.1))) hb);have O:=Aside0.mk (Kd.Q1 (by(with_reducible repeat first|apply Kd.Qi|apply Kd.Qh|apply Kd.Ql);exact(Kd.Qu (Kd.Qm (Kd.Qm (Kd.Qm (Kd.Qm (Kd.Qm (Kd.Qm (Kd.Qy ag.out b7.out (by decide)) (fun _ hk=>hk.2) (.int .i64 b9)) (fun _ hk=>hk.2) (.int .i64 bc)) (fun _ hk=>hk.2) (.int .i64 bg)) (fun _ hk=>hk.2) _) (fun _ hk=>hk.2) (.bool bk)) (fun _ hk=>hk.2) (.bool true)) (fun _ h_=>h_.1))) hb);have U:=Aside0.mk (Kd.Q1 (by(with_reducible repeat first|apply Kd.Qi|apply Kd.Qh|apply Kd.Ql);exact(Kd.Qu (Kd.Qm (Kd.Qm (Kd.Qm (Kd.Qm (Kd.Qm (Kd.Qm (Kd.Qy ah.out b7.out (by decide)) (fun _ hk=>hk.2) (.int .i64 b9)) (fun _ hk=>hk.2) (.int .i64 bc)) (fun _ hk=>hk.2) (.int .i64 bg)) (fun _ hk=>hk.2) _) (fun _ hk=>hk.2) (.bool bk)) (fun _ hk=>hk.2) (.bool true)) (fun _ h_=>h_.1))) hb);have ε :=Aside0.mk (Kd.Q2 (by(with_reducible repeat first|apply Kd.Qx|apply Kd.Qw|apply Kd.Q0);exact(Kd.Qt (Kd.Qq (p:=⟨τ,5,none⟩) (Kd.Qq (p:=⟨τ,4,none⟩) (Kd.Qq (p:=⟨τ,3,none⟩) (Kd.Qq (p:=⟨τ,2,none⟩) (Kd.Qq (p:=⟨τ,1,none⟩) (Kd.Qq (p:=⟨τ,0,none⟩) (Kd.Qt bh.out (fun k_ hk=>(⟨hk,hk.2⟩:_∧k_ ≠ τ))) (fun _ hk=>hk.2) (.int .i64 b9)) (fun _ hk=>hk.2) (.int .i64 bc)) (fun _ hk=>hk.2) (.int .i64 bg)) (fun _ hk=>hk.2) _) (fun _ hk=>hk.2) (.bool bk)) (fun _ hk=>hk.2) (.bool true)) (fun _ h_=>h_.1))) hb);have ν :=Aside0.mk (Kd.Q2 (by(with_reducible repeat first|apply Kd.Qx|apply Kd.Qw|apply Kd.Q0);exact(Kd.Qt (Kd.Qq (p:=⟨τ,5,none⟩) (Kd.Qq (p:=⟨τ,4,none⟩) (Kd.Qq (p:=⟨τ,3,none⟩) (Kd.Qq (p:=⟨τ,2,none⟩) (Kd.Qq (p:=⟨τ,1,none⟩) (Kd.Qq (p:=⟨τ,0,none⟩) (Kd.Qt bi.out (fun k_ hk=>(⟨hk,hk.2⟩:_∧k_ ≠ τ))) (fun _ hk=>hk.2) (.int .i64 b9)) (fun _ hk=>hk.2) (.int .i64 bc)) (fun _ hk=>hk.2) (.int .i64 bg)) (fun _ hk=>hk.2) _) (fun _ hk=>hk.2) (.bool bk)) (fun _ hk=>hk.2) (.bool true)) (fun _ h_=>h_.1))) hb);have ρ:=Aside0.mk (Kd.Q1 (by(with_reducible repeat first|apply Kd.Qi|apply Kd.Qh|apply Kd.Ql);exact(Kd.Qu (Kd.Qm (Kd.Qm (Kd.Qm (Kd.Qm (Kd.Qm (Kd.Qm (Kd.Qy bo.out b7.out (by decide)) (fun _ hk=>hk.2) (.int .i64 b9)) (fun _ hk=>hk.2) (.int .i64 bc)) (fun _ hk=>hk.2) (.int .i64 bg)) (fun _ hk=>hk.2) _) (fun _ hk=>hk.2) (.bool bk)) (fun _ hk=>hk.2) (.bool true)) (fun _ h_=>h_.1))) hb);have a4:=Aside0.mk (Kd.Q1 (by(with_reducible repeat first|apply Kd.Qi|apply Kd.Qh|apply Kd.Ql);exact(Kd.Qu (Kd.Qm (Kd.Qm (Kd.Qm (Kd.Qm (Kd.Qm (Kd.Qm (Kd.Qy bp.out b7.out (by decide)) (fun _ hk=>hk.2) (.int .i64 b9)) (fun _ hk=>hk.2) (.int .i64 bc)) (fun _ hk=>hk.2) (.int .i64 bg)) (fun _ hk=>hk.2) _) (fun _ hk=>hk.2) (.bool bk)) (fun _ hk=>hk.2) (.bool true)) (fun _ h_=>h_.1))) hb);have a5:=Aside0.mk (Kd.Q1 (by(with_reducible repeat first|apply Kd.Qi|apply Kd.Qh|apply Kd.Ql);exact(Kd.Qu (Kd.Qm (Kd.Qm (Kd.Qm (Kd.Qm (Kd.Qm (Kd.Qm (Kd.Qy bq.out b7.out (by decide)) (fun _ hk=>hk.2) (.int .i64 b9)) (fun _ hk=>hk.2) (.int .i64 bc)) (fun _ hk=>hk.2) (.int .i64 bg)) (fun _ hk=>hk.2) _) (fun _ hk=>hk.2) (.bool bk)) (fun _ hk=>hk.2) (.bool true)) (fun _ h_=>h_.1))) hb);have ab:=Aside0.mk (Kd.Q2 (by(with_reducible repeat first|apply Kd.Qx|apply Kd.Qw|apply Kd.Q0);exact(Kd.Qt (Kd.Qq (p:=⟨τ,5,none⟩) (Kd.Qq (p:=⟨τ,4,none⟩) (Kd.Qq (p:=⟨τ,3,none⟩) (Kd.Qq (p:=⟨τ,2,none⟩) (Kd.Qq (p:=⟨τ,1,none⟩) (Kd.Qq (p:=⟨τ,0,none⟩) (Kd.Qt d0.out (fun k_ hk=>(⟨hk,hk.2⟩:_∧k_ ≠ τ))) (fun _ hk=>hk.2) (.int .i64 b9)) (fun _ hk=>hk.2) (.int .i64 bc)) (fun _ hk=>hk.2) (.int .i64 bg)) (fun _ hk=>hk.2) _) (fun _ hk=>hk.2) (.bool bk)) (fun _ hk=>hk.2) (.bool true)) (fun _ h_=>h_.1))) hb);have am:=Aside0.mk (Qp (g:=ac) (o:=.cells #[.slice γ J.length δ,.slice Y B.length Z] 24 (0,0)) (bka ι) hb);have ar:=Aside0.mk (Qp (g:=a8) (o:=.cells #[.int .i64 ζ,.int .i64 κ,.int .i64 μ,.slice a6 η.length a7] 26 (0,0)) (bka X) hb);have b8:=Aside0.mk (Qp (g:= ω) (o:=.cells #[.slice ae φ.length af,.slice aj χ.length ak] 24 (0,0)) (bka a3) hb);have bb:=Aside0.mk (Qp (g:= ξ) (o:=.cells #[.slice a9 ap.length aa,.slice bd an.length be,.bool av,.int .i64 b0] 34 (0,0)) (bka ai) hb);have bz:=Aside0.mk (Qp (g:= ψ) (o:=.cells #[.int .i64 cf,.int .i64 ch,.int .i64 ci,.slice b2 ao.length b1] 26 (0,0)) (bka b5) hb);have cj:=Aside0.mk (Qp (g:= τ) (o:=.cells #[.int .i64 b9,.int .i64 bc,.int .i64 bg,.slice eb cy.length dy,.bool bk,.bool true] 39 (0,0)) (by(with_reducible repeat first|apply Qb|apply Qd|apply Qc);refine Qk (cs:=#[.int .i64 b9,.int .i64 bc,.int .i64 bg,.slice eb cy.length dy,.bool bk,.bool false]) ?_ 5 _ rfl;(with_reducible repeat first|apply Qb|apply Qd|apply Qc);refine Qk (cs:=#[.int .i64 b9,.int .i64 bc,.int .i64 bg,.slice eb cy.length dy,.bool false,.bool false]) ?_ 4 _ rfl;(with_reducible repeat first|apply Qb|apply Qd|apply Qc);refine Qk (cs:=#[.int .i64 b9,.int .i64 bc,.int .i64 bg,.slice none 0 0,.bool false,.bool false]) ?_ 3 _ rfl;(with_reducible repeat first|apply Qb|apply Qd|apply Qc);refine Qk (cs:=#[.int .i64 b9,.int .i64 bc,.int .i64 0,.slice none 0 0,.bool false,.bool false]) ?_ 2 _ rfl;(with_reducible repeat first|apply Qb|apply Qd|apply Qc);refine Qk (cs:=#[.int .i64 b9,.int .i64 0,.int .i64 0,.slice none 0 0,.bool false,.bool false]) ?_ 1 _ rfl;(with_reducible repeat first|apply Qb|apply Qd|apply Qc);refine Qk (cs:=#[.int .i64 0,.int .i64 0,.int .i64 0,.slice none 0 0,.bool false,.bool false]) ?_ 0 _ rfl;(with_reducible repeat first|apply Qb|apply Qd|apply Qc);exact b7.out) hb);have cr:=Aside0.mk (Qr bel hb);clear a0;clear a1;clear ag;clear ah;clear bh;clear bi;clear bo;clear bp;clear bq;clear d0;clear ι;clear X;clear a3;clear ai;clear b5;clear b7;clear HB;have a0:=D;have a1:=I;have ag:=O;have ah:=U;have bh:= ε;have bi:= ν;have bo:=ρ;have bp:=a4;have bq:=a5;have d0:=ab;have ι :=am;have X:=ar;have a3:=b8;have ai:=bb;have b5:=bz;have b7:=cj;have HB:=cr;clear D I O U ε ν ρ a4 a5 ab am ar b8 bb bz cj cr;(try clear hb);(try clear az);(try clear hk);(try clear hi);obtain⟨h5,h6,h7,l8,l9,lb,h8,h9,ha,lc,lf,lg⟩:=qD6 b7.out))
           go_meet
           case rel=>exact⟨_,(false),rfl,H',⟨by have:=k4.out;omega⟩,⟨by(with_reducible repeat first|apply Kd.Qi|apply Kd.Qh|apply Kd.Ql);exact Kd.Qu ag.out (fun _ hk=>⟨hk.2.2.1,hk.2.2.2.2.2⟩)⟩,⟨by(with_reducible repeat first|apply Kd.Qi|apply Kd.Qh|apply Kd.Ql);exact Kd.Qu ah.out (fun _ hk=>⟨hk.2.2.1,hk.2.2.2.2.2⟩)⟩,⟨by(with_reducible repeat first|apply Kd.Qx|apply Kd.Qw|apply Kd.Q0);exact Kd.Qt bh.out (fun _ hk=>⟨hk.1.2.2.1,⟨hk.1.2.2.2.1,⟨hk.1.2.2.2.2.2.2.1,⟨hk.1.2.2.2.2.2.2.2.1,⟨hk.1.2.2.2.2.2.2.2.2.1,⟨hk.1.2.2.2.2.2.2.2.2.2.1,⟨hk.1.2.2.2.2.2.2.2.2.2.2.1,⟨hk.1.2.2.2.2.2.2.2.2.2.2.2,hk.2⟩⟩⟩⟩⟩⟩⟩⟩)⟩,⟨by(with_reducible repeat first|apply Kd.Qx|apply Kd.Qw|apply Kd.Q0);exact Kd.Qt bi.out (fun _ hk=>⟨hk.1.2.2.1,⟨hk.1.2.2.2.1,⟨hk.1.2.2.2.2.2.2.1,⟨hk.1.2.2.2.2.2.2.2.1,⟨hk.1.2.2.2.2.2.2.2.2.1,⟨hk.1.2.2.2.2.2.2.2.2.2.1,⟨hk.1.2.2.2.2.2.2.2.2.2.2.1,⟨hk.1.2.2.2.2.2.2.2.2.2.2.2,hk.2⟩⟩⟩⟩⟩⟩⟩⟩)⟩,⟨by(with_reducible repeat first|apply Kd.Qi|apply Kd.Qh|apply Kd.Ql);exact Kd.Qu bq.out (fun _ hk=>⟨hk.2.2.1,hk.2.2.2.1⟩)⟩,⟨by(with_reducible repeat first|apply Kd.Qx|apply Kd.Qw|apply Kd.Q0);exact Kd.Qt d0.out (fun _ hk=>⟨hk.1.2.2.1,⟨hk.1.2.2.2.1,⟨hk.1.2.2.2.2.2.2.1,⟨hk.1.2.2.2.2.2.2.2.1,⟨hk.1.2.2.2.2.2.2.2.2.1,⟨hk.1.2.2.2.2.2.2.2.2.2.1,⟨hk.1.2.2.2.2.2.2.2.2.2.2.1,⟨hk.1.2.2.2.2.2.2.2.2.2.2.2,hk.2⟩⟩⟩⟩⟩⟩⟩⟩)⟩,ι,X,a3,ai,b5,b7,HB⟩
          ·replace mi:=Bool.eq_false_iff.mpr mi
           subst mi
           have H1:(newellaw12_FlashWrites.j1 b6 bj (e0 != 123) φ χ ap an av b0)=some r:=by rw[if_neg (show ¬ (false=true) by decide)] at H;exact H
           clear H
           have H:=H1
           clear H1
           have H':=Aside0.mk H
           clear H
           have r0:=eu.out
           have r5:=d2.out
           have r6:=ev.out
           have r7:=d3.out
           have sq:=e6.out
           have sr:=cw.out
           have ss:=d4.out
           have st:=ey.out
           have oq:=ez.out
           have ot:=f4.out
           obtain⟨je,jf,jg,jh,ji,jj,jk,jl⟩:=qD4 ai.out
           have ou:=gk.out
           have ov:=gj.out
           have nh:=gm.out
           have ni:=gl.out
           have og:=e9.out
           have oh:=e8.out
           have su:=gp.out
           have sv:=gn.out
           obtain⟨jm,jn,jo,jp,jq,jr,js,jt,ju,jv,jw,jx⟩:=qD6 b7.out
           have ow:=gh.out
           have ox:=dj.out
           have sw:=gi.out
           have sx:=dk.out
           have sy:=e7.out
           have t0:=cx.out
           obtain⟨fm,fn,fo,fp,fq,fr,fs,ft⟩:=qD4 b5.out
           go_wp2_with (first|(go_at_call 16;(with_reducible refine(newelref12_Same.calls b6 cf ch ci _ _ ao b9 bc bg _ _ cy true _ ?side1 ?side2 ?side3 ?side4 k3.out).mono ?_);(case side1=>refine(Kd.Q4 (e:=5) (base:=w.heap.size) (ok:=fun k_=>(some k_≠(ck:Value).ownBlock∧(some k_≠(cm:Value).ownBlock∧(some k_≠(.slice ae φ.length af:Value).ownBlock∧(some k_≠(.slice aj χ.length ak:Value).ownBlock∧(some k_≠(.slice du d8.length dv:Value).ownBlock∧some k_≠(.slice b3 d9.length b4:Value).ownBlock)))))) (n:=ao.length) (c:=b1) ?_).2.2;exact(by(with_reducible repeat first|apply Kd.Qi|apply Kd.Qh|apply Kd.Ql);exact(Kd.Qu (Kd.Qm (Kd.Qm (Kd.Qm (Kd.Qm (Kd.Qm (Kd.Qm (Kd.Qy bq.out b7.out (by decide)) (fun _ hk=>hk.2) (.int .i64 b9)) (fun _ hk=>hk.2) (.int .i64 bc)) (fun _ hk=>hk.2) (.int .i64 bg)) (fun _ hk=>hk.2) _) (fun _ hk=>hk.2) (.bool bk)) (fun _ hk=>hk.2) (.bool false)) (fun _ h_=>h_.1))));(case side2=>exact(Kd.Q4 bq.out).2.1);(case side3=>refine(Kd.Zm (e:=5) (base:=w.heap.size) (ok:=fun k_=>((some k_≠(ck:Value).ownBlock∧(some k_≠(cm:Value).ownBlock∧(some k_≠(.slice ae φ.length af:Value).ownBlock∧(some k_≠(.slice aj χ.length ak:Value).ownBlock∧(some k_≠(.slice du d8.length dv:Value).ownBlock∧(some k_≠(.slice b3 d9.length b4:Value).ownBlock∧(some k_≠(.slice b2 ao.length b1:Value).ownBlock∧(k_≠ac∧(k_≠a8∧(k_ ≠ ω ∧ (k_ ≠ ξ ∧ k_ ≠ ψ)))))))))))∧k_ ≠ τ)) (n:=cy.length) (c:=dy) ?_).2.2;exact(by(with_reducible repeat first|apply Kd.Qx|apply Kd.Qw|apply Kd.Q0);exact(Kd.Qt (Kd.Qq (p:=⟨τ,5,none⟩) (Kd.Qq (p:=⟨τ,4,none⟩) (Kd.Qq (p:=⟨τ,3,none⟩) (Kd.Qq (p:=⟨τ,2,none⟩) (Kd.Qq (p:=⟨τ,1,none⟩) (Kd.Qq (p:=⟨τ,0,none⟩) (Kd.Qt d0.out (fun k_ hk=>(⟨hk,hk.2⟩:_∧k_ ≠ τ))) (fun _ hk=>hk.2) (.int .i64 b9)) (fun _ hk=>hk.2) (.int .i64 bc)) (fun _ hk=>hk.2) (.int .i64 bg)) (fun _ hk=>hk.2) _) (fun _ hk=>hk.2) (.bool bk)) (fun _ hk=>hk.2) (.bool false)) (fun _ h_=>h_.1))));(case side4=>exact(Kd.Zm d0.out).2.1);rintro e u1 ⟨rfl,hb⟩;have D:=Aside0.mk (Kd.Q1 (by(with_reducible repeat first|apply Kd.Qi|apply Kd.Qh|apply Kd.Ql);exact(Kd.Qu (Kd.Qm (Kd.Qm (Kd.Qm (Kd.Qm (Kd.Qm (Kd.Qm (Kd.Qy a0.out b7.out (by decide)) (fun _ hk=>hk.2) (.int .i64 b9)) (fun _ hk=>hk.2) (.int .i64 bc)) (fun _ hk=>hk.2) (.int .i64 bg)) (fun _ hk=>hk.2) _) (fun _ hk=>hk.2) (.bool bk)) (fun _ hk=>hk.2) (.bool false)) (fun _ h_=>h_.1))) hb);have I:=Aside0.mk (Kd.Q1 (by(with_reducible repeat first|apply Kd.Qi|apply Kd.Qh|apply Kd.Ql);exact(Kd.Qu (Kd.Qm (Kd.Qm (Kd.Qm (Kd.Qm (Kd.Qm (Kd.Qm (Kd.Qy a1.out b7.out (by decide)) (fun _ hk=>hk.2) (.int .i64 b9)) (fun _ hk=>hk.2) (.int .i64 bc)) (fun _ hk=>hk.2) (.int .i64 bg)) (fun _ hk=>hk.2) _) (fun _ hk=>hk.2) (.bool bk)) (fun _ hk=>hk.2) (.bool false)) (fun _ h_=>h_.1))) hb);have O:=Aside0.mk (Kd.Q1 (by(with_reducible repeat first|apply Kd.Qi|apply Kd.Qh|apply Kd.Ql);exact(Kd.Qu (Kd.Qm (Kd.Qm (Kd.Qm (Kd.Qm (Kd.Qm (Kd.Qm (Kd.Qy ag.out b7.out (by decide)) (fun _ hk=>hk.2) (.int .i64 b9)) (fun _ hk=>hk.2) (.int .i64 bc)) (fun _ hk=>hk.2) (.int .i64 bg)) (fun _ hk=>hk.2) _) (fun _ hk=>hk.2) (.bool bk)) (fun _ hk=>hk.2) (.bool false)) (fun _ h_=>h_.1))) hb);have U:=Aside0.mk (Kd.Q1 (by(with_reducible repeat first|apply Kd.Qi|apply Kd.Qh|apply Kd.Ql);exact(Kd.Qu (Kd.Qm (Kd.Qm (Kd.Qm (Kd.Qm (Kd.Qm (Kd.Qm (Kd.Qy ah.out b7.out (by decide)) (fun _ hk=>hk.2) (.int .i64 b9)) (fun _ hk=>hk.2) (.int .i64 bc)) (fun _ hk=>hk.2) (.int .i64 bg)) (fun _ hk=>hk.2) _) (fun _ hk=>hk.2) (.bool bk)) (fun _ hk=>hk.2) (.bool false)) (fun _ h_=>h_.1))) hb);have ε :=Aside0.mk (Kd.Q2 (by(with_reducible repeat first|apply Kd.Qx|apply Kd.Qw|apply Kd.Q0);exact(Kd.Qt (Kd.Qq (p:=⟨τ,5,none⟩) (Kd.Qq (p:=⟨τ,4,none⟩) (Kd.Qq (p:=⟨τ,3,none⟩) (Kd.Qq (p:=⟨τ,2,none⟩) (Kd.Qq (p:=⟨τ,1,none⟩) (Kd.Qq (p:=⟨τ,0,none⟩) (Kd.Qt bh.out (fun k_ hk=>(⟨hk,hk.2⟩:_∧k_ ≠ τ))) (fun _ hk=>hk.2) (.int .i64 b9)) (fun _ hk=>hk.2) (.int .i64 bc)) (fun _ hk=>hk.2) (.int .i64 bg)) (fun _ hk=>hk.2) _) (fun _ hk=>hk.2) (.bool bk)) (fun _ hk=>hk.2) (.bool false)) (fun _ h_=>h_.1))) hb);have ν :=Aside0.mk (Kd.Q2 (by(with_reducible repeat first|apply Kd.Qx|apply Kd.Qw|apply Kd.Q0);exact(Kd.Qt (Kd.Qq (p:=⟨τ,5,none⟩) (Kd.Qq (p:=⟨τ,4,none⟩) (Kd.Qq (p:=⟨τ,3,none⟩) (Kd.Qq (p:=⟨τ,2,none⟩) (Kd.Qq (p:=⟨τ,1,none⟩) (Kd.Qq (p:=⟨τ,0,none⟩) (Kd.Qt bi.out (fun k_ hk=>(⟨hk,hk.2⟩:_∧k_ ≠ τ))) (fun _ hk=>hk.2) (.int .i64 b9)) (fun _ hk=>hk.2) (.int .i64 bc)) (fun _ hk=>hk.2) (.int .i64 bg)) (fun _ hk=>hk.2) _) (fun _ hk=>hk.2) (.bool bk)) (fun _ hk=>hk.2) (.bool false)) (fun _ h_=>h_.1))) hb);have ρ:=Aside0.mk (Kd.Q1 (by(with_reducible repeat first|apply Kd.Qi|apply Kd.Qh|apply Kd.Ql);exact(Kd.Qu (Kd.Qm (Kd.Qm (Kd.Qm (Kd.Qm (Kd.Qm (Kd.Qm (Kd.Qy bo.out b7.out (by decide)) (fun _ hk=>hk.2) (.int .i64 b9)) (fun _ hk=>hk.2) (.int .i64 bc)) (fun _ hk=>hk.2) (.int .i64 bg)) (fun _ hk=>hk.2) _) (fun _ hk=>hk.2) (.bool bk)) (fun _ hk=>hk.2) (.bool false)) (fun _ h_=>h_.1))) hb);have a4:=Aside0.mk (Kd.Q1 (by(with_reducible repeat first|apply Kd.Qi|apply Kd.Qh|apply Kd.Ql);exact(Kd.Qu (Kd.Qm (Kd.Qm (Kd.Qm (Kd.Qm (Kd.Qm (Kd.Qm (Kd.Qy bp.out b7.out (by decide)) (fun _ hk=>hk.2) (.int .i64 b9)) (fun _ hk=>hk.2) (.int .i64 bc)) (fun _ hk=>hk.2) (.int .i64 bg)) (fun _ hk=>hk.2) _) (fun _ hk=>hk.2) (.bool bk)) (fun _ hk=>hk.2) (.bool false)) (fun _ h_=>h_.1))) hb);have a5:=Aside0.mk (Kd.Q1 (by(with_reducible repeat first|apply Kd.Qi|apply Kd.Qh|apply Kd.Ql);exact(Kd.Qu (Kd.Qm (Kd.Qm (Kd.Qm (Kd.Qm (Kd.Qm (Kd.Qm (Kd.Qy bq.out b7.out (by decide)) (fun _ hk=>hk.2) (.int .i64 b9)) (fun _ hk=>hk.2) (.int .i64 bc)) (fun _ hk=>hk.2) (.int .i64 bg)) (fun _ hk=>hk.2) _) (fun _ hk=>hk.2) (.bool bk)) (fun _ hk=>hk.2) (.bool false)) (fun _ h_=>h_.1))) hb);have ab:=Aside0.mk (Kd.Q2 (by(with_reducible repeat first|apply Kd.Qx|apply Kd.Qw|apply Kd.Q0);exact(Kd.Qt (Kd.Qq (p:=⟨τ,5,none⟩) (Kd.Qq (p:=⟨τ,4,none⟩) (Kd.Qq (p:=⟨τ,3,none⟩) (Kd.Qq (p:=⟨τ,2,none⟩) (Kd.Qq (p:=⟨τ,1,none⟩) (Kd.Qq (p:=⟨τ,0,none⟩) (Kd.Qt d0.out (fun k_ hk=>(⟨hk,hk.2⟩:_∧k_ ≠ τ))) (fun _ hk=>hk.2) (.int .i64 b9)) (fun _ hk=>hk.2) (.int .i64 bc)) (fun _ hk=>hk.2) (.int .i64 bg)) (fun _ hk=>hk.2) _) (fun _ hk=>hk.2) (.bool bk)) (fun _ hk=>hk.2) (.bool false)) (fun _ h_=>h_.1))) hb);have am:=Aside0.mk (Qp (g:=ac) (o:=.cells #[.slice γ J.length δ,.slice Y B.length Z] 24 (0,0)) (bka ι) hb);have ar:=Aside0.mk (Qp (g:=a8) (o:=.cells #[.int .i64 ζ,.int .i64 κ,.int .i64 μ,.slice a6 η.length a7] 26 (0,0)) (bka X) hb);have b8:=Aside0.mk (Qp (g:= ω) (o:=.cells #[.slice ae φ.length af,.slice aj χ.length ak] 24 (0,0)) (bka a3) hb);have bb:=Aside0.mk (Qp (g:= ξ) (o:=.cells #[.slice a9 ap.length aa,.slice bd an.length be,.bool av,.int .i64 b0] 34 (0,0)) (bka ai) hb);have bz:=Aside0.mk (Qp (g:= ψ) (o:=.cells #[.int .i64 cf,.int .i64 ch,.int .i64 ci,.slice b2 ao.length b1] 26 (0,0)) (bka b5) hb);have cj:=Aside0.mk (Qp (g:= τ) (o:=.cells #[.int .i64 b9,.int .i64 bc,.int .i64 bg,.slice eb cy.length dy,.bool bk,.bool false] 39 (0,0)) (by(with_reducible repeat first|apply Qb|apply Qd|apply Qc);refine Qk (cs:=#[.int .i64 b9,.int .i64 bc,.int .i64 bg,.slice eb cy.length dy,.bool bk,.bool false]) ?_ 5 _ rfl;(with_reducible repeat first|apply Qb|apply Qd|apply Qc);refine Qk (cs:=#[.int .i64 b9,.int .i64 bc,.int .i64 bg,.slice eb cy.length dy,.bool false,.bool false]) ?_ 4 _ rfl;(with_reducible repeat first|apply Qb|apply Qd|apply Qc);refine Qk (cs:=#[.int .i64 b9,.int .i64 bc,.int .i64 bg,.slice none 0 0,.bool false,.bool false]) ?_ 3 _ rfl;(with_reducible repeat first|apply Qb|apply Qd|apply Qc);refine Qk (cs:=#[.int .i64 b9,.int .i64 bc,.int .i64 0,.slice none 0 0,.bool false,.bool false]) ?_ 2 _ rfl;(with_reducible repeat first|apply Qb|apply Qd|apply Qc);refine Qk (cs:=#[.int .i64 b9,.int .i64 0,.int .i64 0,.slice none 0 0,.bool false,.bool false]) ?_ 1 _ rfl;(with_reducible repeat first|apply Qb|apply Qd|apply Qc);refine Qk (cs:=#[.int .i64 0,.int .i64 0,.int .i64 0,.slice none 0 0,.bool false,.bool false]) ?_ 0 _ rfl;(with_reducible repeat first|apply Qb|apply Qd|apply Qc);exact b7.out) hb);have cr:=Aside0.mk (Qr bel hb);clear a0;clear a1;clear ag;clear ah;clear bh;clear bi;clear bo;clear bp;clear bq;clear d0;clear ι;clear X;clear a3;clear ai;clear b5;clear b7;clear HB;have a0:=D;have a1:=I;have ag:=O;have ah:=U;have bh:= ε;have bi:= ν;have bo:=ρ;have bp:=a4;have bq:=a5;have d0:=ab;have ι :=am;have X:=ar;have a3:=b8;have ai:=bb;have b5:=bz;have b7:=cj;have HB:=cr;clear D I O U ε ν ρ a4 a5 ab am ar b8 bb bz cj cr;(try clear hb);(try clear az);(try clear hk);(try clear hi);obtain⟨fu,fv,fw,fx,jy,jz,fy,fz,g0,g1,k0,k1⟩:=qD6 b7.out))
           go_meet
           case rel=>exact⟨_,((e0 != 123)),rfl,H',⟨by have:=k4.out;omega⟩,⟨by(with_reducible repeat first|apply Kd.Qi|apply Kd.Qh|apply Kd.Ql);exact Kd.Qu ag.out (fun _ hk=>⟨hk.2.2.1,hk.2.2.2.2.2⟩)⟩,⟨by(with_reducible repeat first|apply Kd.Qi|apply Kd.Qh|apply Kd.Ql);exact Kd.Qu ah.out (fun _ hk=>⟨hk.2.2.1,hk.2.2.2.2.2⟩)⟩,⟨by(with_reducible repeat first|apply Kd.Qx|apply Kd.Qw|apply Kd.Q0);exact Kd.Qt bh.out (fun _ hk=>⟨hk.1.2.2.1,⟨hk.1.2.2.2.1,⟨hk.1.2.2.2.2.2.2.1,⟨hk.1.2.2.2.2.2.2.2.1,⟨hk.1.2.2.2.2.2.2.2.2.1,⟨hk.1.2.2.2.2.2.2.2.2.2.1,⟨hk.1.2.2.2.2.2.2.2.2.2.2.1,⟨hk.1.2.2.2.2.2.2.2.2.2.2.2,hk.2⟩⟩⟩⟩⟩⟩⟩⟩)⟩,⟨by(with_reducible repeat first|apply Kd.Qx|apply Kd.Qw|apply Kd.Q0);exact Kd.Qt bi.out (fun _ hk=>⟨hk.1.2.2.1,⟨hk.1.2.2.2.1,⟨hk.1.2.2.2.2.2.2.1,⟨hk.1.2.2.2.2.2.2.2.1,⟨hk.1.2.2.2.2.2.2.2.2.1,⟨hk.1.2.2.2.2.2.2.2.2.2.1,⟨hk.1.2.2.2.2.2.2.2.2.2.2.1,⟨hk.1.2.2.2.2.2.2.2.2.2.2.2,hk.2⟩⟩⟩⟩⟩⟩⟩⟩)⟩,⟨by(with_reducible repeat first|apply Kd.Qi|apply Kd.Qh|apply Kd.Ql);exact Kd.Qu bq.out (fun _ hk=>⟨hk.2.2.1,hk.2.2.2.1⟩)⟩,⟨by(with_reducible repeat first|apply Kd.Qx|apply Kd.Qw|apply Kd.Q0);exact Kd.Qt d0.out (fun _ hk=>⟨hk.1.2.2.1,⟨hk.1.2.2.2.1,⟨hk.1.2.2.2.2.2.2.1,⟨hk.1.2.2.2.2.2.2.2.1,⟨hk.1.2.2.2.2.2.2.2.2.1,⟨hk.1.2.2.2.2.2.2.2.2.2.1,⟨hk.1.2.2.2.2.2.2.2.2.2.2.1,⟨hk.1.2.2.2.2.2.2.2.2.2.2.2,hk.2⟩⟩⟩⟩⟩⟩⟩⟩)⟩,ι,X,a3,ai,b5,b7,HB⟩
         ·replace mh:=Bool.eq_false_iff.mpr mh
          subst mh
          have H1:(none)=some r:=by rw[if_neg (show ¬ (false=true) by decide)] at H;exact H
          clear H
          have H:=H1
          clear H1
          exact absurd H (by simp)
     ·rw[if_neg et] at H
      exact absurd H (by simp)
    case rest=>
     clear nl
     try clear c1
     try clear p2
     try clear c3
     try clear c4
     try clear c5
     try clear c6
     try clear c7
     try clear c8
     try clear c9
     try clear c10
     try clear bf
     try clear bl
     try clear cq
     try clear ed
     try clear e4
     try clear em
     try clear nr
     try clear oo
     try clear fc
     try clear r2
     try clear iu
     try clear r3
     try clear ra
     try clear k2
     try clear rb
     try clear rc
     try clear ir
     try clear lm
     try clear m3
     try clear m4
     try clear et
     try clear c74b0
     try clear c74b1
     try clear k7
     try clear c75b0
     try clear c75b1
     try clear c75b2
     try clear k8
     try clear c76b0
     try clear c76b1
     try clear c76b2
     try clear k9
     try clear c77b0
     try clear c77b1
     try clear c77b2
     try clear mh
     try clear mi
     try clear re
     try clear rf
     try clear rh
     try clear ri
     try clear rj
     try clear rk
     try clear rl
     try clear rm
     try clear rn
     try clear rp
     try clear rq
     try clear ln
     try clear rr
     try clear rs
     try clear q1
     try clear q2
     try clear q3
     try clear q4
     try clear q5
     try clear q6
     try clear q7
     try clear q8
     try clear q9
     try clear qa
     try clear je
     try clear jf
     try clear jg
     try clear jh
     try clear jm
     try clear jn
     try clear jo
     try clear jp
     try clear jq
     try clear jr
     try clear fm
     try clear fn
     try clear fo
     try clear fp
     try clear fu
     try clear fv
     try clear fw
     try clear fx
     try clear jy
     try clear jz
     try clear ei
     try clear ej
     try clear gu
     try clear gv
     try clear gw
     try clear kg
     try clear ig
     try clear ih
     try clear ii
     try clear ij
     try clear ee
     try clear ef
     try clear i5
     try clear i6
     try clear i7
     try clear i9
     try clear he
     try clear hh
     try clear hu
     try clear hx
     try clear hy
     try clear i0
     try clear ki
     try clear kj
     try clear km
     try clear kn
     try clear ko
     try clear kp
     try clear fe
     try clear ff
     try clear fg
     try clear fh
     try clear h0
     try clear kw
     try clear ky
     try clear kz
     try clear l2
     try clear l3
     try clear h5
     try clear h6
     try clear h7
     try clear l8
     try clear l9
     try clear lb
     try clear ji
     try clear jj
     try clear jk
     try clear jl
     try clear js
     try clear jt
     try clear ju
     try clear jv
     try clear jw
     try clear jx
     try clear fq
     try clear fr
     try clear fs
     try clear ft
     try clear fy
     try clear fz
     try clear g0
     try clear g1
     try clear k0
     try clear k1
     try clear ek
     try clear el
     try clear gx
     try clear gy
     try clear gz
     try clear kh
     try clear ik
     try clear il
     try clear im
     try clear io
     try clear eg
     try clear eh
     try clear ia
     try clear ib
     try clear ic
     try clear ie
     try clear hj
     try clear hl
     try clear i1
     try clear i2
     try clear i3
     try clear i4
     try clear kk
     try clear kl
     try clear ks
     try clear kt
     try clear ku
     try clear kv
     try clear fi
     try clear fj
     try clear fk
     try clear fl
     try clear h4
     try clear kx
     try clear l4
     try clear l5
     try clear l6
     try clear l7
     try clear h8
     try clear h9
     try clear ha
     try clear lc
     try clear lf
     try clear lg
     obtain⟨kq,k6,rfl,HA,qb,HO_423000,HO_423001,HO_432000,HO_432001,HO_447003,HO_456003,ι,X,a3,ai,b5,b7,HB⟩:=hcut
     cases kq with
     |zero=>exact absurd HA.out (by simp[newellaw12_FlashWrites.j1])
     |succ cp=>
      have H:=HA.out
      clear HA
      simp only[newellaw12_FlashWrites.j1] at H
      by_cases eo:k6=true
      ·subst eo
       have H1:(none)=some r:=by rw[if_pos rfl] at H;exact H
       clear H
       have H:=H1
       clear H1
       exact absurd H (by simp)
      ·replace eo:=Bool.eq_false_iff.mpr eo
       subst eo
       have H1:(if bj=0 then ((newellaw12_awake.f cp).bind fun kd=>(if kd=true then ((newelref08_Same.f cp φ ap).bind fun f5=>(if f5=true then ((newelref08_Same.f cp χ an).bind fun dr=>(newellaw12_FlashWrites.j3 cp dr)) else (none))) else (none))) else ((newellaw12_awake.f cp).bind fun ke=>(if ke=true then (if (φ.length:Int)=0 then (newellaw12_FlashWrites.j2 cp ((χ.length:Int)==0)) else (none)) else (none))))=some r:=by rw[if_neg (show ¬ (false=true) by decide)] at H;exact H
       clear H
       have H:=H1
       clear H1
       by_cases dw:bj=0
       ·rw[if_pos dw] at H
        have c116b0:(bj==0)=true:=beq_iff_eq.mpr dw
        have c116b1:(bj != 0)=false:=bne_eq_false_iff_eq.mpr dw
        clear dw
        have nf:=Aside0.mk H
        clear H
        go_upto_region 11 with(fail)
        go_cut [6] (fun v6 wc=>∃ (kq:Nat) (mj:Bool),v6 = .bool mj∧Aside0 (newellaw12_FlashWrites.j3 kq mj=some r)∧Aside0 (kq≤cp)∧Aside0 (Kd.R (Kd.int .u8) 5 wc w.heap.size (fun k_=>some k_≠((.slice aj χ.length ak):Value).ownBlock∧some k_≠((.slice b2 ao.length b1):Value).ownBlock) (.slice ae φ.length af) φ)∧Aside0 (Kd.R (Kd.int .u8) 5 wc w.heap.size (fun k_=>some k_≠((.slice ae φ.length af):Value).ownBlock∧some k_≠((.slice b2 ao.length b1):Value).ownBlock) (.slice aj χ.length ak) χ)∧Aside0 (Kd.V (Kd.int .u8) 5 wc w.heap.size (fun k_=>some k_≠((.slice ae φ.length af):Value).ownBlock∧some k_≠((.slice aj χ.length ak):Value).ownBlock∧some k_≠((.slice b2 ao.length b1):Value).ownBlock∧k_≠ac∧k_≠a8∧k_ ≠ ω ∧ k_ ≠ ξ ∧ k_ ≠ ψ ∧ k_ ≠ τ) (.slice a9 ap.length aa) ap)∧Aside0 (Kd.V (Kd.int .u8) 5 wc w.heap.size (fun k_=>some k_≠((.slice ae φ.length af):Value).ownBlock∧some k_≠((.slice aj χ.length ak):Value).ownBlock∧some k_≠((.slice b2 ao.length b1):Value).ownBlock∧k_≠ac∧k_≠a8∧k_ ≠ ω ∧ k_ ≠ ξ ∧ k_ ≠ ψ ∧ k_ ≠ τ) (.slice bd an.length be) an)∧Aside0 (Kd.R (Kd.int .u8) 5 wc w.heap.size (fun k_=>some k_≠((.slice ae φ.length af):Value).ownBlock∧some k_≠((.slice aj χ.length ak):Value).ownBlock) (.slice b2 ao.length b1) ao)∧Aside0 (Kd.V (Kd.int .u8) 5 wc w.heap.size (fun k_=>some k_≠((.slice ae φ.length af):Value).ownBlock∧some k_≠((.slice aj χ.length ak):Value).ownBlock∧some k_≠((.slice b2 ao.length b1):Value).ownBlock∧k_≠ac∧k_≠a8∧k_ ≠ ω ∧ k_ ≠ ξ ∧ k_ ≠ ψ ∧ k_ ≠ τ) (.slice eb cy.length dy) cy)∧Aside0 (wc.heap[ac]?=some (.cells #[(.slice γ J.length δ),(.slice Y B.length Z)] 24 (0,0)))∧Aside0 (wc.heap[a8]?=some (.cells #[.int .i64 ζ,.int .i64 κ,.int .i64 μ,(.slice a6 η.length a7)] 26 (0,0)))∧Aside0 (wc.heap[ω]?=some (.cells #[(.slice ae φ.length af),(.slice aj χ.length ak)] 24 (0,0)))∧Aside0 (wc.heap[ξ]?=some (.cells #[(.slice a9 ap.length aa),(.slice bd an.length be),.bool av,.int .i64 b0] 34 (0,0)))∧Aside0 (wc.heap[ψ]?=some (.cells #[.int .i64 cf,.int .i64 ch,.int .i64 ci,(.slice b2 ao.length b1)] 26 (0,0)))∧Aside0 (wc.heap[τ]?=some (.cells #[.int .i64 b9,.int .i64 bc,.int .i64 bg,(.slice eb cy.length dy),.bool bk,.bool e3] 39 (0,0)))∧Aside0 (Below w.heap.size w wc))
        case first=>
         have H:=nf.out
         clear nf
         replace H:=Option.bind_eq_some_iff.mp H
         obtain⟨kd,o6,H⟩:=H
         replace H:(if kd=true then ((newelref08_Same.f cp φ ap).bind fun f5=>(if f5=true then ((newelref08_Same.f cp χ an).bind fun dr=>(newellaw12_FlashWrites.j3 cp dr)) else (none))) else (none))=some r:=H
         have ry:=Aside0.mk o6
         clear o6
         by_cases lh:kd=true
         ·subst lh
          have H1:((newelref08_Same.f cp φ ap).bind fun f5=>(if f5=true then ((newelref08_Same.f cp χ an).bind fun dr=>(newellaw12_FlashWrites.j3 cp dr)) else (none)))=some r:=by rw[if_pos rfl] at H;exact H
          clear H
          have H:=H1
          clear H1
          replace H:=Option.bind_eq_some_iff.mp H
          obtain⟨f5,o7,H⟩:=H
          replace H:(if f5=true then ((newelref08_Same.f cp χ an).bind fun dr=>(newellaw12_FlashWrites.j3 cp dr)) else (none))=some r:=H
          have n0:=Aside0.mk o7
          clear o7
          by_cases ll:f5=true
          ·subst ll
           have H1:((newelref08_Same.f cp χ an).bind fun dr=>(newellaw12_FlashWrites.j3 cp dr))=some r:=by rw[if_pos rfl] at H;exact H
           clear H
           have H:=H1
           clear H1
           replace H:=Option.bind_eq_some_iff.mp H
           obtain⟨dr,o8,H⟩:=H
           replace H:(newellaw12_FlashWrites.j3 cp dr)=some r:=H
           have rz:=Aside0.mk o8
           clear o8
           have H':=Aside0.mk H
           clear H
           go_wp2_with (first|((with_reducible refine Qv (f:=10) rfl ?_);refine Ze (some 101) rfl rfl Tryd.func10 kr rfl #[] rfl qM ?_;(with_reducible refine(newellaw12_awake.calls cp  true _ ry.out (by first|exact HTAB.out|((repeat(first|exact HTAB.out|(with_reducible refine Laid.Zo ?_ _)|(with_reducible refine Laid.Zn ?_ _)|(with_reducible refine Laid.Zq ?_)));done)|(refine Laid.Zk HTAB.out ?_;(repeat(first|(with_reducible first|exact HB.out|apply Qe|apply Qa|apply Qf)|exact HB.out|(refine Qg ?_ (Aside0.out (by assumption)))))))).mono ?_);rintro e oi ⟨rfl,hb⟩;refine⟨_,rfl, ?_⟩;replace HO_423000:=sRb HO_423000 hb;replace HO_423001:=sRb HO_423001 hb;replace HO_432000:=Aside0.mk (Kd.Q2 HO_432000.out hb);replace HO_432001:=Aside0.mk (Kd.Q2 HO_432001.out hb);replace HO_447003:=sRb HO_447003 hb;replace HO_456003:=Aside0.mk (Kd.Q2 HO_456003.out hb);replace ι :=sBk ι hb;replace X:=sBk X hb;replace a3:=sBk a3 hb;replace ai:=sBk ai hb;replace b5:=sBk b5 hb;replace b7:=sBk b7 hb;replace HB:=sHb hb;(try clear hb);(try clear az);(try clear hk);(try clear hi);have t1:=cn.out;have t2:=cd.out;have oy:=co.out;have oz:=bv.out;have p0:=cw.out;have p1:=e6.out;have p5:=cx.out;have p6:=e7.out;have p7:=e8.out;have p8:=e9.out;obtain⟨j8,j9,ja,jb⟩:=qD2 a3.out;have oj:=eu.out;have ol:=d2.out;have nj:=ev.out;have nk:=d3.out;have p9:=d4.out;have pa:=ey.out;have t3:=ez.out;have t4:=f4.out;obtain⟨iw,ix,iy,iz,j4,j5,j6,j7⟩:=qD4 ai.out)|(go_at_call 17;(with_reducible refine(newelref08_Same.calls cp _ _ φ _ _ ap true _ ?side1 ?side2 ?side3 ?side4 n0.out).mono ?_);(case side1=>exact(Kd.Q4 HO_423000.out).2.2);(case side2=>exact(Kd.Q4 HO_423000.out).2.1);(case side3=>exact(Kd.Zm HO_432000.out).2.2);(case side4=>exact(Kd.Zm HO_432000.out).2.1);rintro e w' ⟨rfl,⟨nd,rfl⟩⟩)|(go_at_call 17;(with_reducible refine(newelref08_Same.calls cp _ _ χ _ _ an dr _ ?side1 ?side2 ?side3 ?side4 rz.out).mono ?_);(case side1=>exact(Kd.Q4 HO_423001.out).2.2);(case side2=>exact(Kd.Q4 HO_423001.out).2.1);(case side3=>exact(Kd.Zm HO_432001.out).2.2);(case side4=>exact(Kd.Zm HO_432001.out).2.1);rintro e w' ⟨rfl,⟨nd,rfl⟩⟩))
           go_meet
           case rel=>exact⟨_,(dr),qR,H',⟨by have:=k4.out;have:=qb.out;first|omega|exact Nat.le_refl _⟩,⟨by(with_reducible repeat first|apply Kd.Qi|apply Kd.Qh|apply Kd.Ql);exact HO_423000.out⟩,⟨by(with_reducible repeat first|apply Kd.Qi|apply Kd.Qh|apply Kd.Ql);exact HO_423001.out⟩,⟨by(with_reducible repeat first|apply Kd.Qx|apply Kd.Qw|apply Kd.Q0);exact HO_432000.out⟩,⟨by(with_reducible repeat first|apply Kd.Qx|apply Kd.Qw|apply Kd.Q0);exact HO_432001.out⟩,⟨by(with_reducible repeat first|apply Kd.Qi|apply Kd.Qh|apply Kd.Ql);exact HO_447003.out⟩,⟨by(with_reducible repeat first|apply Kd.Qx|apply Kd.Qw|apply Kd.Q0);exact HO_456003.out⟩,⟨bka ι⟩,⟨bka X⟩,⟨bka a3⟩,⟨bka ai⟩,⟨bka b5⟩,⟨bka b7⟩,⟨bel⟩⟩
          ·replace ll:=Bool.eq_false_iff.mpr ll
           subst ll
           have H1:(none)=some r:=by rw[if_neg (show ¬ (false=true) by decide)] at H;exact H
           clear H
           have H:=H1
           clear H1
           exact absurd H (by simp)
         ·replace lh:=Bool.eq_false_iff.mpr lh
          subst lh
          have H1:(none)=some r:=by rw[if_neg (show ¬ (false=true) by decide)] at H;exact H
          clear H
          have H:=H1
          clear H1
          exact absurd H (by simp)
        case rest=>
         clear nf
         try clear c1
         try clear p2
         try clear c3
         try clear c4
         try clear c5
         try clear c6
         try clear c7
         try clear c8
         try clear c9
         try clear c10
         try clear bf
         try clear bl
         try clear cq
         try clear ed
         try clear e4
         try clear em
         try clear nr
         try clear oo
         try clear fc
         try clear r2
         try clear iu
         try clear r3
         try clear ra
         try clear k2
         try clear rb
         try clear rc
         try clear ir
         try clear lm
         try clear m3
         try clear m4
         try clear et
         try clear c74b0
         try clear c74b1
         try clear k7
         try clear c75b0
         try clear c75b1
         try clear c75b2
         try clear k8
         try clear c76b0
         try clear c76b1
         try clear c76b2
         try clear k9
         try clear c77b0
         try clear c77b1
         try clear c77b2
         try clear mh
         try clear mi
         try clear re
         try clear rf
         try clear rh
         try clear ri
         try clear rj
         try clear rk
         try clear rl
         try clear rm
         try clear rn
         try clear rp
         try clear rq
         try clear ln
         try clear rr
         try clear rs
         try clear q1
         try clear q2
         try clear q3
         try clear q4
         try clear q5
         try clear q6
         try clear q7
         try clear q8
         try clear q9
         try clear qa
         try clear eo
         try clear dw
         try clear c116b0
         try clear c116b1
         try clear lh
         try clear ll
         try clear s0
         try clear s1
         try clear s2
         try clear s3
         try clear s4
         try clear s5
         try clear s6
         try clear s7
         try clear s8
         try clear je
         try clear jf
         try clear jg
         try clear jh
         try clear jm
         try clear jn
         try clear jo
         try clear jp
         try clear jq
         try clear jr
         try clear fm
         try clear fn
         try clear fo
         try clear fp
         try clear fu
         try clear fv
         try clear fw
         try clear fx
         try clear jy
         try clear jz
         try clear j8
         try clear j9
         try clear iw
         try clear ix
         try clear iy
         try clear iz
         try clear ei
         try clear ej
         try clear gu
         try clear gv
         try clear gw
         try clear kg
         try clear ig
         try clear ih
         try clear ii
         try clear ij
         try clear ee
         try clear ef
         try clear i5
         try clear i6
         try clear i7
         try clear i9
         try clear he
         try clear hh
         try clear hu
         try clear hx
         try clear hy
         try clear i0
         try clear ki
         try clear kj
         try clear km
         try clear kn
         try clear ko
         try clear kp
         try clear fe
         try clear ff
         try clear fg
         try clear fh
         try clear h0
         try clear kw
         try clear ky
         try clear kz
         try clear l2
         try clear l3
         try clear h5
         try clear h6
         try clear h7
         try clear l8
         try clear l9
         try clear lb
         try clear ji
         try clear jj
         try clear jk
         try clear jl
         try clear js
         try clear jt
         try clear ju
         try clear jv
         try clear jw
         try clear jx
         try clear fq
         try clear fr
         try clear fs
         try clear ft
         try clear fy
         try clear fz
         try clear g0
         try clear g1
         try clear k0
         try clear k1
         try clear ja
         try clear jb
         try clear j4
         try clear j5
         try clear j6
         try clear j7
         try clear ek
         try clear el
         try clear gx
         try clear gy
         try clear gz
         try clear kh
         try clear ik
         try clear il
         try clear im
         try clear io
         try clear eg
         try clear eh
         try clear ia
         try clear ib
         try clear ic
         try clear ie
         try clear hj
         try clear hl
         try clear i1
         try clear i2
         try clear i3
         try clear i4
         try clear kk
         try clear kl
         try clear ks
         try clear kt
         try clear ku
         try clear kv
         try clear fi
         try clear fj
         try clear fk
         try clear fl
         try clear h4
         try clear kx
         try clear l4
         try clear l5
         try clear l6
         try clear l7
         try clear h8
         try clear h9
         try clear ha
         try clear lc
         try clear lf
         try clear lg
         try clear p2
         obtain⟨kq,mj,rfl,HA,tp,HO_423000,HO_423001,HO_432000,HO_432001,HO_447003,HO_456003,ι,X,a3,ai,b5,b7,HB⟩:=hcut
         cases kq with
         |zero=>exact absurd HA.out (by simp[newellaw12_FlashWrites.j3])
         |succ tq=>
          have H:=HA.out
          clear HA
          simp only[newellaw12_FlashWrites.j3] at H
          obtain rfl:=Option.some.inj H
          go_wp2
          go_ret
          exact⟨rfl,HB.out⟩
       ·rw[if_neg dw] at H
        have c116b0:(bj==0)=false:=beq_eq_false_iff_ne.mpr dw
        have c116b1:(bj != 0)=true:=bne_iff_ne.mpr dw
        have ng:=Aside0.mk H
        clear H
        go_upto_region 10 with(fail)
        go_cut [6] (fun v6 wc=>∃ (kq:Nat) (ml:Bool),v6 = .bool ml∧Aside0 (newellaw12_FlashWrites.j2 kq ml=some r)∧Aside0 (kq≤cp)∧Aside0 (Kd.R (Kd.int .u8) 5 wc w.heap.size (fun k_=>some k_≠((.slice aj χ.length ak):Value).ownBlock∧some k_≠((.slice b2 ao.length b1):Value).ownBlock) (.slice ae φ.length af) φ)∧Aside0 (Kd.R (Kd.int .u8) 5 wc w.heap.size (fun k_=>some k_≠((.slice ae φ.length af):Value).ownBlock∧some k_≠((.slice b2 ao.length b1):Value).ownBlock) (.slice aj χ.length ak) χ)∧Aside0 (Kd.V (Kd.int .u8) 5 wc w.heap.size (fun k_=>some k_≠((.slice ae φ.length af):Value).ownBlock∧some k_≠((.slice aj χ.length ak):Value).ownBlock∧some k_≠((.slice b2 ao.length b1):Value).ownBlock∧k_≠ac∧k_≠a8∧k_ ≠ ω ∧ k_ ≠ ξ ∧ k_ ≠ ψ ∧ k_ ≠ τ) (.slice a9 ap.length aa) ap)∧Aside0 (Kd.V (Kd.int .u8) 5 wc w.heap.size (fun k_=>some k_≠((.slice ae φ.length af):Value).ownBlock∧some k_≠((.slice aj χ.length ak):Value).ownBlock∧some k_≠((.slice b2 ao.length b1):Value).ownBlock∧k_≠ac∧k_≠a8∧k_ ≠ ω ∧ k_ ≠ ξ ∧ k_ ≠ ψ ∧ k_ ≠ τ) (.slice bd an.length be) an)∧Aside0 (Kd.R (Kd.int .u8) 5 wc w.heap.size (fun k_=>some k_≠((.slice ae φ.length af):Value).ownBlock∧some k_≠((.slice aj χ.length ak):Value).ownBlock) (.slice b2 ao.length b1) ao)∧Aside0 (Kd.V (Kd.int .u8) 5 wc w.heap.size (fun k_=>some k_≠((.slice ae φ.length af):Value).ownBlock∧some k_≠((.slice aj χ.length ak):Value).ownBlock∧some k_≠((.slice b2 ao.length b1):Value).ownBlock∧k_≠ac∧k_≠a8∧k_ ≠ ω ∧ k_ ≠ ξ ∧ k_ ≠ ψ ∧ k_ ≠ τ) (.slice eb cy.length dy) cy)∧Aside0 (wc.heap[ac]?=some (.cells #[(.slice γ J.length δ),(.slice Y B.length Z)] 24 (0,0)))∧Aside0 (wc.heap[a8]?=some (.cells #[.int .i64 ζ,.int .i64 κ,.int .i64 μ,(.slice a6 η.length a7)] 26 (0,0)))∧Aside0 (wc.heap[ω]?=some (.cells #[(.slice ae φ.length af),(.slice aj χ.length ak)] 24 (0,0)))∧Aside0 (wc.heap[ξ]?=some (.cells #[(.slice a9 ap.length aa),(.slice bd an.length be),.bool av,.int .i64 b0] 34 (0,0)))∧Aside0 (wc.heap[ψ]?=some (.cells #[.int .i64 cf,.int .i64 ch,.int .i64 ci,(.slice b2 ao.length b1)] 26 (0,0)))∧Aside0 (wc.heap[τ]?=some (.cells #[.int .i64 b9,.int .i64 bc,.int .i64 bg,(.slice eb cy.length dy),.bool bk,.bool e3] 39 (0,0)))∧Aside0 (Below w.heap.size w wc))
        case first=>
         have H:=ng.out
         clear ng
         replace H:=Option.bind_eq_some_iff.mp H
         obtain⟨ke,o9,H⟩:=H
         replace H:(if ke=true then (if (φ.length:Int)=0 then (newellaw12_FlashWrites.j2 cp ((χ.length:Int)==0)) else (none)) else (none))=some r:=H
         have s9:=Aside0.mk o9
         clear o9
         by_cases mm:ke=true
         ·subst mm
          have H1:(if (φ.length:Int)=0 then (newellaw12_FlashWrites.j2 cp ((χ.length:Int)==0)) else (none))=some r:=by rw[if_pos rfl] at H;exact H
          clear H
          have H:=H1
          clear H1
          by_cases ea:(φ.length:Int)=0
          ·rw[if_pos ea] at H
           have c138b0:((φ.length:Int)==0)=true:=beq_iff_eq.mpr ea
           have c138b1:((φ.length:Int) != 0)=false:=bne_eq_false_iff_eq.mpr ea
           clear ea
           (first|rw[c138b0]|(simp only[Zu,Z4];rw[c138b0])|skip)
           have H':=Aside0.mk H
           clear H
           go_wp2_with (first|((with_reducible refine Qv (f:=10) rfl ?_);refine Ze (some 88) rfl rfl Tryd.func10 kr rfl #[] rfl qM ?_;(with_reducible refine(newellaw12_awake.calls cp  true _ s9.out (by first|exact HTAB.out|((repeat(first|exact HTAB.out|(with_reducible refine Laid.Zo ?_ _)|(with_reducible refine Laid.Zn ?_ _)|(with_reducible refine Laid.Zq ?_)));done)|(refine Laid.Zk HTAB.out ?_;(repeat(first|(with_reducible first|exact HB.out|apply Qe|apply Qa|apply Qf)|exact HB.out|(refine Qg ?_ (Aside0.out (by assumption)))))))).mono ?_);rintro e u2 ⟨rfl,hb⟩;refine⟨_,rfl, ?_⟩;replace HO_423000:=sRb HO_423000 hb;replace HO_423001:=sRb HO_423001 hb;replace HO_432000:=Aside0.mk (Kd.Q2 HO_432000.out hb);replace HO_432001:=Aside0.mk (Kd.Q2 HO_432001.out hb);replace HO_447003:=sRb HO_447003 hb;replace HO_456003:=Aside0.mk (Kd.Q2 HO_456003.out hb);replace ι :=sBk ι hb;replace X:=sBk X hb;replace a3:=sBk a3 hb;replace ai:=sBk ai hb;replace b5:=sBk b5 hb;replace b7:=sBk b7 hb;replace HB:=sHb hb;(try clear hb);(try clear az);(try clear hk);(try clear hi);have t5:=cn.out;have t6:=cd.out;have pb:=co.out;have pc:=bv.out;have pd:=cw.out;have pe:=e6.out;have pf:=cx.out;have pg:=e7.out;have t7:=e8.out;have t8:=e9.out;obtain⟨nm,nn,no,np⟩:=qD2 a3.out))
           go_meet
           case rel=>exact⟨_,(((χ.length:Int)==0)),rfl,H',⟨by have:=k4.out;have:=qb.out;first|omega|exact Nat.le_refl _⟩,⟨by(with_reducible repeat first|apply Kd.Qi|apply Kd.Qh|apply Kd.Ql);exact HO_423000.out⟩,⟨by(with_reducible repeat first|apply Kd.Qi|apply Kd.Qh|apply Kd.Ql);exact HO_423001.out⟩,⟨by(with_reducible repeat first|apply Kd.Qx|apply Kd.Qw|apply Kd.Q0);exact HO_432000.out⟩,⟨by(with_reducible repeat first|apply Kd.Qx|apply Kd.Qw|apply Kd.Q0);exact HO_432001.out⟩,⟨by(with_reducible repeat first|apply Kd.Qi|apply Kd.Qh|apply Kd.Ql);exact HO_447003.out⟩,⟨by(with_reducible repeat first|apply Kd.Qx|apply Kd.Qw|apply Kd.Q0);exact HO_456003.out⟩,ι,X,a3,ai,b5,b7,HB⟩
          ·rw[if_neg ea] at H
           exact absurd H (by simp)
         ·replace mm:=Bool.eq_false_iff.mpr mm
          subst mm
          have H1:(none)=some r:=by rw[if_neg (show ¬ (false=true) by decide)] at H;exact H
          clear H
          have H:=H1
          clear H1
          exact absurd H (by simp)
        case rest=>
         clear ng
         try clear c1
         try clear p2
         try clear c3
         try clear c4
         try clear c5
         try clear c6
         try clear c7
         try clear c8
         try clear c9
         try clear c10
         try clear bf
         try clear bl
         try clear cq
         try clear ed
         try clear e4
         try clear em
         try clear nr
         try clear oo
         try clear fc
         try clear r2
         try clear iu
         try clear r3
         try clear ra
         try clear k2
         try clear rb
         try clear rc
         try clear ir
         try clear lm
         try clear m3
         try clear m4
         try clear et
         try clear c74b0
         try clear c74b1
         try clear k7
         try clear c75b0
         try clear c75b1
         try clear c75b2
         try clear k8
         try clear c76b0
         try clear c76b1
         try clear c76b2
         try clear k9
         try clear c77b0
         try clear c77b1
         try clear c77b2
         try clear mh
         try clear mi
         try clear re
         try clear rf
         try clear rh
         try clear ri
         try clear rj
         try clear rk
         try clear rl
         try clear rm
         try clear rn
         try clear rp
         try clear rq
         try clear ln
         try clear rr
         try clear rs
         try clear q1
         try clear q2
         try clear q3
         try clear q4
         try clear q5
         try clear q6
         try clear q7
         try clear q8
         try clear q9
         try clear qa
         try clear eo
         try clear dw
         try clear c116b0
         try clear c116b1
         try clear lh
         try clear ll
         try clear s0
         try clear s1
         try clear s2
         try clear s3
         try clear s4
         try clear s5
         try clear s6
         try clear s7
         try clear s8
         try clear mm
         try clear ea
         try clear c138b0
         try clear c138b1
         try clear u3
         try clear u4
         try clear u5
         try clear u6
         try clear u7
         try clear je
         try clear jf
         try clear jg
         try clear jh
         try clear jm
         try clear jn
         try clear jo
         try clear jp
         try clear jq
         try clear jr
         try clear fm
         try clear fn
         try clear fo
         try clear fp
         try clear fu
         try clear fv
         try clear fw
         try clear fx
         try clear jy
         try clear jz
         try clear j8
         try clear j9
         try clear iw
         try clear ix
         try clear iy
         try clear iz
         try clear nm
         try clear nn
         try clear ei
         try clear ej
         try clear gu
         try clear gv
         try clear gw
         try clear kg
         try clear ig
         try clear ih
         try clear ii
         try clear ij
         try clear ee
         try clear ef
         try clear i5
         try clear i6
         try clear i7
         try clear i9
         try clear he
         try clear hh
         try clear hu
         try clear hx
         try clear hy
         try clear i0
         try clear ki
         try clear kj
         try clear km
         try clear kn
         try clear ko
         try clear kp
         try clear fe
         try clear ff
         try clear fg
         try clear fh
         try clear h0
         try clear kw
         try clear ky
         try clear kz
         try clear l2
         try clear l3
         try clear h5
         try clear h6
         try clear h7
         try clear l8
         try clear l9
         try clear lb
         try clear ji
         try clear jj
         try clear jk
         try clear jl
         try clear js
         try clear jt
         try clear ju
         try clear jv
         try clear jw
         try clear jx
         try clear fq
         try clear fr
         try clear fs
         try clear ft
         try clear fy
         try clear fz
         try clear g0
         try clear g1
         try clear k0
         try clear k1
         try clear ja
         try clear jb
         try clear j4
         try clear j5
         try clear j6
         try clear j7
         try clear no
         try clear np
         try clear ek
         try clear el
         try clear gx
         try clear gy
         try clear gz
         try clear kh
         try clear ik
         try clear il
         try clear im
         try clear io
         try clear eg
         try clear eh
         try clear ia
         try clear ib
         try clear ic
         try clear ie
         try clear hj
         try clear hl
         try clear i1
         try clear i2
         try clear i3
         try clear i4
         try clear kk
         try clear kl
         try clear ks
         try clear kt
         try clear ku
         try clear kv
         try clear fi
         try clear fj
         try clear fk
         try clear fl
         try clear h4
         try clear kx
         try clear l4
         try clear l5
         try clear l6
         try clear l7
         try clear h8
         try clear h9
         try clear ha
         try clear lc
         try clear lf
         try clear lg
         try clear p2
         obtain⟨kq,ml,rfl,HA,tr,HO_423000,HO_423001,HO_432000,HO_432001,HO_447003,HO_456003,ι,X,a3,ai,b5,b7,HB⟩:=hcut
         cases kq with
         |zero=>exact absurd HA.out (by simp[newellaw12_FlashWrites.j2])
         |succ ts=>
          have H:=HA.out
          clear HA
          simp only[newellaw12_FlashWrites.j2] at H
          obtain rfl:=Option.some.inj H
          go_wp2
          go_ret
          exact⟨rfl,HB.out⟩
end Go.Proofs.YtickbejailcehaaDoor.C
namespace Go.Proofs.YtickbejailcehaaDoor.Flash
open Go.RowKit Go.Proofs.YtickbejailcehaaDoorW.PrintWords Go.Proofs.YtickbejailcehaaDoorW.PrintLast Go.Proofs.YtickbejailcehaaDoorW.PrintMore Go.Proofs.YtickbejailcehaaDoor.C
open Go.Proofs.YtickbejailcehaaDoor.Wire (In pt Yk Z9 Zt)
open Go.Proofs.YtickbejailcehaaDoor.Crc (Yg Yh By)
set_option linter.unusedVariables false
theorem Nq (a b:List Int):(Zy a b).2.2.2.2.2=0∨(Zy a b).2.2.2.2.2=123:=by
  rw[Jg]
  rcases Kj (Z6 a) (Z6 b) with⟨_,_,e⟩|⟨_,_,e⟩|⟨_,_,e⟩ <;> rw[e]
  · exact .inr rfl
  · exact .inl rfl
  · exact .inl rfl
theorem V8 (l:List Int):(Z6 l).2.2.2.1.length≤l.length:=by
  unfold Z6
  split
  · split
    · split
      · split
        · exact Nat.zero_le _
        · split
          · exact Nat.zero_le _
          · split
            · exact Nat.zero_le _
            · split
              · show((l.drop _).take _).length≤_
                rw[List.length_take,List.length_drop]
                omega
              · exact Nat.zero_le _
      · exact Nat.zero_le _
    · exact Nat.zero_le _
  · exact Nat.zero_le _
theorem Np (a b:List Int):(Zy a b).2.2.2.1.length≤a.length+b.length:=by
  have h1:=V8 a
  have D:=V8 b
  rw[Jg]
  rcases Kj (Z6 a) (Z6 b) with⟨_,_,e⟩|⟨_,_,e⟩|⟨_,_,e⟩ <;> rw[e]
  · exact Nat.zero_le _
  · show(Z6 b).2.2.2.1.length≤_
    omega
  · show(Z6 a).2.2.2.1.length≤_
    omega
theorem Wq (a b:List Int) (ha:∀ x ∈ a,By x) (hb:∀ x ∈ b,By x) {g c m:Int} {l:List Int} (hg:In g) (hc:In c) (hm:In m) (hl:∀ x ∈ l,By x) (cut:Int) (k:Nat) (hk:400000≤k):newellaw12_FlashWrites.f k a b g c m l cut=some true:=by
  obtain⟨k,rfl⟩:∃ n,k=n+3:=⟨k-3,by omega⟩
  unfold newellaw12_FlashWrites.f
  rw[E7]
  simp only[Option.bind_some]
  have jt:∀ x:Bool,x=true→newellaw12_FlashWrites.j0 (k+3) cut x a b g c m l=some true:=by
    intro x hx
    simp only[newellaw12_FlashWrites.j0]
    rw[if_pos hx,Uk _ (by omega)]
    rfl
  by_cases hs:a.length≤5000∧b.length≤5000
  case neg=>
    rw[decide_eq_false hs,if_neg (by decide),jt _ rfl]
  rw[decide_eq_true hs,if_pos rfl]
  by_cases hL:(l.length:Int)>5000
  · rw[decide_eq_true hL,jt _ rfl]
  rw[decide_eq_false hL]
  obtain⟨sa,sb⟩:=hs
  have ll:l.length≤1000000:=by omega
  have sr:=Np a b
  have wl:=Wr a b (g:=g) (c:=c) (m:=m) (l:=l) cut 6000 (by omega) (by omega) (by omega)
  simp only[newellaw12_FlashWrites.j0]
  rw[if_neg (by decide),E0 a b (by omega) (by omega)]
  simp only[Option.bind_some]
  rw[Vu a b ha hb (by omega) (by omega) hg hc hm hl ll cut _ (by omega)]
  simp only[Option.bind_some]
  rw[Ws a b ha hb (by omega) (by omega) hg hc hm hl ll cut _ (by omega)]
  simp only[Option.bind_some]
  rw[Jw a b ha hb (by omega) (by omega) _ (by omega)]
  simp only[Option.bind_some]
  rw[Kv a b ha hb (by omega) (by omega) _ (by omega)]
  simp only[Option.bind_some]
  have e1:∀ x:Bool,newellaw12_FlashWrites.j3 (k+1) x=some x:=fun x=>rfl
  have U:∀ x:Bool,newellaw12_FlashWrites.j2 (k+1) x=some x:=fun x=>rfl
  have hr:=Nq a b
  have hwe:(Yf a b g c m l cut).2.2.2=0∨((Yf a b g c m l cut).1 = []∧(Yf a b g c m l cut).2.1 = []):=by
    unfold Yf
    split
    · split
      · exact .inr ⟨rfl,rfl⟩
      · exact .inl rfl
    · exact .inr ⟨rfl,rfl⟩
  generalize Zy a b=R at *
  generalize Yf a b g c m l cut=Wt at *
  have j1:newellaw12_FlashWrites.j1 (k+2) Wt.2.2.2 false Wt.1 Wt.2.1 Wt.1 Wt.2.1 Wt.2.2.1 Wt.2.2.2=some true:=by
    simp only[newellaw12_FlashWrites.j1]
    rw[if_neg (by decide),Uk _ (by omega)]
    simp only[Option.bind_some]
    by_cases I:Wt.2.2.2=0
    · rw[if_pos I,if_pos trivial,Wire.Jf _ _ _ (by omega) (by omega),Wire.Jf _ _ _ (by omega) (by omega)]
      simp only[Option.bind_some,decide_true,if_true]
      exact e1 true
    · rcases hwe with h|⟨h1,D⟩
      · exact absurd h I
      · rw[if_neg I,if_pos trivial,h1,D,if_pos (show(([]:List Int).length:Int)=0 from rfl)]
        exact(U _).trans rfl
  rw[if_pos trivial,if_neg (by simp),Ly _ _ _ _ _ _ _ _ (by omega) _ (by omega)]
  have J:((R.2.2.2.2.2==0) != decide (R.2.2.2.2.2=0))=false:=by
    rcases hr with h|h <;> rw[h] <;> rfl
  rw[J,if_neg (by decide),if_neg (by simp)]
  simp only[Option.bind_some,and_self,decide_true,if_true]
  by_cases h:R.2.2.2.2.2=0
  · rw[if_pos (decide_eq_true h)]
    exact j1
  · rw[if_neg (by rw[decide_eq_false h];decide)]
    rcases hr with e|e
    · exact absurd e h
    · rw[e]
      exact j1
end Go.Proofs.YtickbejailcehaaDoor.Flash
