/- Texts of this claim, one behind the other: what the law's functions come to, walked (printed by a program, with the words that the print uses), and what that is, in plain Lean. No conditions of their own. -/
import Derived.Test.YtmfffemidlhcpaaQGroupBounds10
namespace Go.Proofs.Ytmfffemidlhcpaa.C
open Go.RowKit Go.Proofs.YtmfffemidlhcpaaW.PrintWords Go.Proofs.YtmfffemidlhcpaaW.PrintLast Go.Proofs.YtmfffemidlhcpaaW.PrintMore
attribute [local go_sem] Z1 Zz Z9 Z8 Zq Zp Z0 Zy
set_option linter.unusedVariables false
set_option linter.unusedSimpArgs false
mutual
def group_Spread.l0:Nat→List (S31)→Int→Int→Int→Int→Int→Int→Int→Int→Int→Int→Int→Int→Int→List (S36)→List (S86)→Option ((List (S36))×(List (S86))×Int)
 |0,_,_,_,_,_,_,_,_,_,_,_,_,_,_,_,_=>none
 |k+1,J,X,μ,κ,O,Y,Z,γ,δ,ε,ζ,η,θ,ι,B,L=>if κ < μ then (if 0 ≤ κ then (if κ < (B.length:Int) then (if ((Ql B κ).f2)≥0 then (if 0≤((Ql B κ).f2) then (if (Go.bits .and .i64 (shr .i64 X ((Ql B κ).f2)) 1)=1 then (group_Spread.l0 k J X μ (wrap64 (κ + 1)) O Y Z γ δ ε ζ η θ ι (B.set (κ :Int).toNat (⟨(Ql B κ).f0,(Ql B κ).f1,(-1)⟩:S36)) L) else (group_Spread.l0 k J X μ (wrap64 (κ + 1)) O Y Z γ δ ε ζ η θ ι B L)) else (none)) else (group_Spread.l0 k J X μ (wrap64 (κ + 1)) O Y Z γ δ ε ζ η θ ι B L)) else (none)) else (none)) else (group_Spread.l1 k J X (B.length:Int) 0 O Y Z γ δ ε ζ η θ ι B L)
def group_Spread.l1:Nat→List (S31)→Int→Int→Int→Int→Int→Int→Int→Int→Int→Int→Int→Int→Int→List (S36)→List (S86)→Option ((List (S36))×(List (S86))×Int)
 |0,_,_,_,_,_,_,_,_,_,_,_,_,_,_,_,_=>none
 |k+1,J,X,μ,κ,O,Y,Z,γ,δ,ε,ζ,η,θ,ι,B,L=>if κ < μ then (if 0 ≤ κ then (if κ < (B.length:Int) then (if ((Ql B κ).f2)<0 then ((group_pick.f k O Y Z γ δ ε ζ η θ ι J X B L ((Ql B κ).f0) ((Ql B κ).f1) ((Ql B κ).f2)).bind fun cp=>(group_Spread.l1 k J X μ (wrap64 (κ + 1)) O Y Z γ δ ε ζ η θ ι (B.set (κ :Int).toNat (⟨(Ql B κ).f0,(Ql B κ).f1,cp⟩:S36)) L)) else (group_Spread.l1 k J X μ (wrap64 (κ + 1)) O Y Z γ δ ε ζ η θ ι B L)) else (none)) else (none)) else (some (B,L,0))
end
def group_Spread.f (k:Nat) (J:Int) (B:Int) (Y:Int) (Z:Int) (γ:Int) (ζ :Int) (ε :Int) (κ :Int) (ι :Int) (θ :Int) (l1:List (S31)) (a2:Int) (a4:List (S36)) (a3:List (S86)):Option ((List (S36))×(List (S86))×Int):=(group_Check.f k J B Y Z γ ζ ε κ ι θ l1 a4 a3).bind fun ar=>(if ar=0 then ((some (([]:List (S36)):List (S36))).bind fun bs=>(if bs.length+a4.length<5864062014805 then ((some (bs++a4:List (S36))).bind fun b3=>((some (([]:List (S86)):List (S86))).bind fun bd=>(if bd.length+a3.length<8796093022208 then (group_Spread.l0 k l1 a2 (b3.length:Int) 0 J B Y Z γ ζ ε κ ι θ b3 (bd++a3)) else (none)))) else (none))) else (some (([]:List (S36)),([]:List (S86)),ar)))
theorem group_Spread.Zs:∀ k,(∀ O Y L J X Z y6 y7 y8 y9 γ ε ζ η θ ι,LeO (group_Spread.l0 k O Y L J X Z y6 y7 y8 y9 γ ε ζ η θ ι) (group_Spread.l0 (k+1) O Y L J X Z y6 y7 y8 y9 γ ε ζ η θ ι))∧(∀ O Y L J X Z y6 y7 y8 y9 γ ε ζ η θ ι,LeO (group_Spread.l1 k O Y L J X Z y6 y7 y8 y9 γ ε ζ η θ ι) (group_Spread.l1 (k+1) O Y L J X Z y6 y7 y8 y9 γ ε ζ η θ ι))
 |0=>⟨fun _ _ _ _ _ _ _ _ _ _ _ _ _ _ _ _ r h=>by simp[group_Spread.l0] at h,fun _ _ _ _ _ _ _ _ _ _ _ _ _ _ _ _ r h=>by simp[group_Spread.l1] at h⟩
 |k+1=>by
  obtain⟨B,δ⟩:=group_Spread.Zs k
  refine⟨?_, ?_⟩
  ·intro O Y L J X Z y6 y7 y8 y9 γ ε ζ η θ ι
   unfold group_Spread.l0
   repeat' first
   |(with_reducible exact B _ _ _ _ _ _ _ _ _ _ _ _ _ _ _ _)
   |(with_reducible exact δ _ _ _ _ _ _ _ _ _ _ _ _ _ _ _ _)
   |(with_reducible exact group_Check.mono _ _ _ _ _ _ _ _ _ _ _ _ _ _)
   |(with_reducible exact group_pick.mono _ _ _ _ _ _ _ _ _ _ _ _ _ _ _ _ _ _)
   |(with_reducible exact LeO.refl _)
   |(with_reducible exact LeO.none _)
   |(with_reducible refine LeO.ite ?_ ?_)
   |(with_reducible refine LeO.bind ?_ (fun _=>?_))
   |exact B _ _ _ _ _ _ _ _ _ _ _ _ _ _ _ _
   |exact δ _ _ _ _ _ _ _ _ _ _ _ _ _ _ _ _
   |exact group_Check.mono _ _ _ _ _ _ _ _ _ _ _ _ _ _
   |exact group_pick.mono _ _ _ _ _ _ _ _ _ _ _ _ _ _ _ _ _ _
   |exact LeO.none _
   |refine LeO.ite ?_ ?_
   |refine LeO.bind ?_ (fun _=>?_)
  ·intro O Y L J X Z y6 y7 y8 y9 γ ε ζ η θ ι
   unfold group_Spread.l1
   repeat' first
   |(with_reducible exact B _ _ _ _ _ _ _ _ _ _ _ _ _ _ _ _)
   |(with_reducible exact δ _ _ _ _ _ _ _ _ _ _ _ _ _ _ _ _)
   |(with_reducible exact group_Check.mono _ _ _ _ _ _ _ _ _ _ _ _ _ _)
   |(with_reducible exact group_pick.mono _ _ _ _ _ _ _ _ _ _ _ _ _ _ _ _ _ _)
   |(with_reducible exact LeO.refl _)
   |(with_reducible exact LeO.none _)
   |(with_reducible refine LeO.ite ?_ ?_)
   |(with_reducible refine LeO.bind ?_ (fun _=>?_))
   |exact B _ _ _ _ _ _ _ _ _ _ _ _ _ _ _ _
   |exact δ _ _ _ _ _ _ _ _ _ _ _ _ _ _ _ _
   |exact group_Check.mono _ _ _ _ _ _ _ _ _ _ _ _ _ _
   |exact group_pick.mono _ _ _ _ _ _ _ _ _ _ _ _ _ _ _ _ _ _
   |exact LeO.none _
   |refine LeO.ite ?_ ?_
   |refine LeO.bind ?_ (fun _=>?_)
theorem group_Spread.mono:∀ J Z a2 a3 L a5 O a7 a8 a9 X Y γ ε k,LeO (group_Spread.f k J Z a2 a3 L a5 O a7 a8 a9 X Y γ ε) (group_Spread.f (k+1) J Z a2 a3 L a5 O a7 a8 a9 X Y γ ε):=by
 intro J Z a2 a3 L a5 O a7 a8 a9 X Y γ ε k
 obtain⟨B,δ⟩:=group_Spread.Zs k
 unfold group_Spread.f
 repeat' first
   |(with_reducible exact B _ _ _ _ _ _ _ _ _ _ _ _ _ _ _ _)
   |(with_reducible exact δ _ _ _ _ _ _ _ _ _ _ _ _ _ _ _ _)
   |(with_reducible exact group_Check.mono _ _ _ _ _ _ _ _ _ _ _ _ _ _)
   |(with_reducible exact group_pick.mono _ _ _ _ _ _ _ _ _ _ _ _ _ _ _ _ _ _)
   |(with_reducible exact LeO.refl _)
   |(with_reducible exact LeO.none _)
   |(with_reducible refine LeO.ite ?_ ?_)
   |(with_reducible refine LeO.bind ?_ (fun _=>?_))
   |exact B _ _ _ _ _ _ _ _ _ _ _ _ _ _ _ _
   |exact δ _ _ _ _ _ _ _ _ _ _ _ _ _ _ _ _
   |exact group_Check.mono _ _ _ _ _ _ _ _ _ _ _ _ _ _
   |exact group_pick.mono _ _ _ _ _ _ _ _ _ _ _ _ _ _ _ _ _ _
   |exact LeO.none _
   |refine LeO.ite ?_ ?_
   |refine LeO.bind ?_ (fun _=>?_)
def group_Spread.T4:Bool×List (List Nat×List Nat):=(true,[([],[]),([],[]),([1],[1]),([0,2],[0,2]),([],[]),([],[]),([5],[5]),([4,6,3],[4,6]),([3,7],[3,7]),([],[]),([9,8,7,0,1,2,3,4,5,6,7,8,9],[8,9])])
def group_Spread.B4:List Nat:=[0,0,2,7,0,0,32,127,255,0,1023]
theorem group_Spread.G9:rtab .any (opsOf Try.f21 4)=group_Spread.T4:=by kernel_rfl
theorem group_Spread.Kf:Z3 group_Spread.T4.2 group_Spread.B4=true:=by kernel_rfl
def group_Spread.T15:Bool×List (List Nat×List Nat):=(true,[([],[]),([0],[0]),([],[]),([],[]),([],[]),([],[]),([],[]),([],[]),([3,4,5,6,7],[3,4,5,6,7]),([1,2,0,1,2,3,4,5,6,7,8],[1,2]),([9,0,1,2,3,4,5,6,7,8],[9]),([10,8,8,0,1,2,3,4,5,6,7,8],[8,10])])
def group_Spread.B15:List Nat:=[0,1,0,0,0,0,0,0,248,511,1023,2047]
theorem group_Spread.tab15:rtab .any (opsOf Try.f21 15)=group_Spread.T15:=by kernel_rfl
theorem group_Spread.N8:Z3 group_Spread.T15.2 group_Spread.B15=true:=by kernel_rfl
set_option maxHeartbeats 8000000 in
set_option maxRecDepth 100000 in
theorem group_Spread.calls (k:Nat) (J:Int) (B:Int) (Y:Int) (Z:Int) (γ:Int) (ζ :Int) (ε :Int) (κ :Int) (ι :Int) (θ :Int) (A1:Option Addr) (c1:Nat) (l1:List (S31)) (a2:Int) (a8:Option Addr) (a9:Nat) (a4:List (S36)) (aa:Option Addr) (ab:Nat) (a3:List (S86)) (r1:List (S36)) (r2:List (S86)) (r3:Int) (w:World) (du:Kd.C k31 w A1 l1.length l1) (dm:l1.length≤c1) (dp:Kd.C k36 w a8 a4.length a4) (dq:a4.length≤a9) (dr:Kd.C k86 w aa a3.length a3) (dt:a3.length≤ab) (h:group_Spread.f k J B Y Z γ ζ ε κ ι θ l1 a2 a4 a3=some (r1,r2,r3)):
  Calls Try.prog 21 #[.agg #[.int .i64 J,.int .i64 B,.int .i64 Y,.int .i64 Z,.int .i64 γ,.int .i64 ζ,.int .i64 ε,.int .i64 κ,.int .i64 ι,.int .i64 θ],.slice A1 l1.length c1,.int .i64 a2,.agg #[.slice a8 a4.length a9,.slice aa a3.length ab]] w fun e w'=>∃ bk fj:Value,e = .returned (.tuple #[.agg #[bk,fj],.int .i64 r3])∧Kd.R k36 36 w' w.heap.size (fun _=>True) bk r1∧Kd.R k86 86 w' w.heap.size (fun _=>True) fj r2∧Below w.heap.size w w':=by
 have dc:=Try.underlying25
 have fe:=Try.underlying50
 have da:=Try.underlying36
 have df:=Aside0.mk du
 have dx:=Aside0.mk dm
 clear du dm
 have br:=Aside0.mk dp
 have cg:=Aside0.mk dq
 clear dp dq
 have ce:=Aside0.mk dr
 have ch:=Aside0.mk dt
 clear dr dt
 have HB:=Aside0.mk (Below.refl w.heap.size w)
 have H:((group_Check.f k J B Y Z γ ζ ε κ ι θ l1 a4 a3).bind fun ar=>(if ar=0 then ((some (([]:List (S36)):List (S36))).bind fun bs=>(if bs.length+a4.length<5864062014805 then ((some (bs++a4:List (S36))).bind fun b3=>((some (([]:List (S86)):List (S86))).bind fun bd=>(if bd.length+a3.length<8796093022208 then (group_Spread.l0 k l1 a2 (b3.length:Int) 0 J B Y Z γ ζ ε κ ι θ b3 (bd++a3)) else (none)))) else (none))) else (some (([]:List (S36)),([]:List (S86)),ar))))=some (r1,r2,r3):=h
 clear h
 replace H:=Option.bind_eq_some_iff.mp H
 obtain⟨ar,bu,H⟩:=H
 replace H:(if ar=0 then ((some (([]:List (S36)):List (S36))).bind fun bs=>(if bs.length+a4.length<5864062014805 then ((some (bs++a4:List (S36))).bind fun b3=>((some (([]:List (S86)):List (S86))).bind fun bd=>(if bd.length+a3.length<8796093022208 then (group_Spread.l0 k l1 a2 (b3.length:Int) 0 J B Y Z γ ζ ε κ ι θ b3 (bd++a3)) else (none)))) else (none))) else (some (([]:List (S36)),([]:List (S86)),ar)))=some (r1,r2,r3):=H
 have A5:=Aside0.mk bu
 clear bu
 by_cases c6:ar=0
 ·rw[if_pos c6] at H
  have c6b0:(ar==0)=true:=beq_iff_eq.mpr c6
  have c6b1:(ar != 0)=false:=bne_eq_false_iff_eq.mpr c6
  clear c6
  obtain⟨bs,gh⟩:∃ y_:List (S36),y_=(([]:List (S36))):=⟨_,rfl⟩
  replace H:(if bs.length+a4.length<5864062014805 then ((some (bs++a4:List (S36))).bind fun b3=>((some (([]:List (S86)):List (S86))).bind fun bd=>(if bd.length+a3.length<8796093022208 then (group_Spread.l0 k l1 a2 (b3.length:Int) 0 J B Y Z γ ζ ε κ ι θ b3 (bd++a3)) else (none)))) else (none))=some (r1,r2,r3):=by first|(rw[gh];with_reducible exact H)|(have ax:=(Option.bind_some _ _).symm.trans H;rw[gh];with_reducible exact ax)|(have ax:=(Option.bind_some _ _).symm.trans H;with_reducible exact ax)|with_reducible exact H|(rw[gh];exact H)|exact H
  have ez:=Aside0.mk gh
  clear gh
  by_cases c7:bs.length+a4.length<5864062014805
  ·rw[if_pos c7] at H
   have j9:=Aside0.mk c7
   clear c7
   obtain⟨b3,gi⟩:∃ y_:List (S36),y_=(bs++a4):=⟨_,rfl⟩
   replace H:((some (([]:List (S86)):List (S86))).bind fun bd=>(if bd.length+a3.length<8796093022208 then (group_Spread.l0 k l1 a2 (b3.length:Int) 0 J B Y Z γ ζ ε κ ι θ b3 (bd++a3)) else (none)))=some (r1,r2,r3):=by first|(rw[gi];with_reducible exact H)|(have ax:=(Option.bind_some _ _).symm.trans H;rw[gi];with_reducible exact ax)|(have ax:=(Option.bind_some _ _).symm.trans H;with_reducible exact ax)|with_reducible exact H|(rw[gi];exact H)|exact H
   have hl:=Aside0.mk gi
   clear gi
   obtain⟨bd,gj⟩:∃ y_:List (S86),y_=(([]:List (S86))):=⟨_,rfl⟩
   replace H:(if bd.length+a3.length<8796093022208 then (group_Spread.l0 k l1 a2 (b3.length:Int) 0 J B Y Z γ ζ ε κ ι θ b3 (bd++a3)) else (none))=some (r1,r2,r3):=by first|(rw[gj];with_reducible exact H)|(have ax:=(Option.bind_some _ _).symm.trans H;rw[gj];with_reducible exact ax)|(have ax:=(Option.bind_some _ _).symm.trans H;with_reducible exact ax)|with_reducible exact H|(rw[gj];exact H)|exact H
   have db:=Aside0.mk gj
   clear gj
   by_cases c8:bd.length+a3.length<8796093022208
   ·rw[if_pos c8] at H
    have m2:=Aside0.mk c8
    clear c8
    obtain⟨be,gl⟩:∃ y_:List (S86),y_=(bd++a3):=⟨_,rfl⟩
    replace H:(group_Spread.l0 k l1 a2 (b3.length:Int) 0 J B Y Z γ ζ ε κ ι θ b3 be)=some (r1,r2,r3):=by first|(rw[gl];with_reducible exact H)|(have ax:=(Option.bind_some _ _).symm.trans H;rw[gl];with_reducible exact ax)|(have ax:=(Option.bind_some _ _).symm.trans H;with_reducible exact ax)|with_reducible exact H|(rw[gl];exact H)|exact H
    have kx:=Aside0.mk gl
    clear gl
    have H':=Aside0.mk H
    clear H
    go_enter Try.func21,Try.ntmps21
    try go_wp2_with (first|((with_reducible refine Qr (N:=4) rfl ?_);refine qE 4 #[.int .i64 J,.int .i64 B,.int .i64 Y,.int .i64 Z,.int .i64 γ,.int .i64 ζ,.int .i64 ε,.int .i64 κ,.int .i64 ι,.int .i64 θ] 25 ?_;intro ac hg w9 hbox hb;have μ :=Aside0.mk hbox;have ki:=sGe hg;have iz:=sGe hg;replace HB:=sHb hb;clear hb hbox hg)|((with_reducible refine Qr (N:=7) rfl ?_);refine qE 7 #[.slice a8 a4.length a9,.slice aa a3.length ab] 50 ?_;intro χ hg ig hbox hb;have η :=Aside0.mk hbox;have nd:=sGe hg;have nh:=sGe hg;have fk:=sNl μ hg;have fl:=sNg μ hg;replace μ :=sBk μ hb;replace HB:=sHb hb;clear hb hbox hg)|((with_reducible refine Qr (N:=8) rfl ?_);refine qE 8 #[.slice none 0 0,.slice none 0 0] 50 ?_;intro ap hg em hbox hb;have ν :=Aside0.mk hbox;have ni:=sGe hg;have nj:=sGe hg;have f8:=sNl μ hg;have fa:=sNg μ hg;have fb:=sNl η hg;have fc:=sNg η hg;replace μ :=sBk μ hb;replace η :=sBk η hb;replace HB:=sHb hb;clear hb hbox hg;have gb:=fk.out;have ge:=fl.out;have j2:=f8.out;have j3:=fa.out;obtain⟨cj,ck,cy,cz,d0,d1,d2,dd,ff,fg,cm,cn,d3,d4,d5,d6,d7,de,fh,fi⟩:=Zh μ.out;have gf:=fb.out;have gg:=fc.out;obtain⟨dy,dz,e0,e3⟩:=qD2 η.out)|((with_reducible refine Qt (f:=17) rfl ?_);refine Q7 (some 19) rfl rfl Try.func17 kr rfl #[.agg #[.int .i64 J,.int .i64 B,.int .i64 Y,.int .i64 Z,.int .i64 γ,.int .i64 ζ,.int .i64 ε,.int .i64 κ,.int .i64 ι,.int .i64 θ],.slice A1 l1.length c1,.agg #[.slice a8 a4.length a9,.slice aa a3.length ab]] rfl qM ?_;(with_reducible refine(group_Check.calls k J B Y Z γ ζ ε κ ι θ _ _ l1 _ _ a4 _ _ a3 ar _ ?side1 ?side2 ?side3 ?side4 ?side5 ?side6 A5.out).mono ?_);(case side1=>exact(Kd.Q0 df.out HB.out));(case side2=>exact dx.out);(case side3=>exact(Kd.Q0 br.out HB.out));(case side4=>exact cg.out);(case side5=>exact(Kd.Q0 ce.out HB.out));(case side6=>exact ch.out);rintro e dv ⟨rfl,hb⟩;refine⟨_,rfl, ?_⟩;replace μ :=sBk μ hb;replace η :=sBk η hb;replace ν :=sBk ν hb;replace HB:=sHb hb;(try clear hb);(try clear ak);(try clear hk);(try clear hi)))
    replace μ :=Aside0.mk (Qe μ.out)
    replace η :=Aside0.mk (Qe η.out)
    replace ν :=Aside0.mk (Qe ν.out)
    replace HB:=Aside0.mk (Qf HB.out)
    refine Zv (n:=11) (S:=fun w'=>w'.cell? ⟨χ,0,none⟩=some (.slice a8 a4.length a9)∧w'.cell? ⟨χ,1,none⟩=some (.slice aa a3.length ab)) (ds:=[]) #[false,false,false,false,false,false,false,false,false,false,false] kr rfl rfl ⟨(Qk η.out 0).trans rfl,(Qk η.out 1).trans rfl⟩ (fun hHeld=>?_);refine Zf group_Spread.G9 group_Spread.Kf (fun HT_ HW_=>?_)
    generalize dv.drew=gt at μ η ν HB hHeld ⊢
    refine qP 1 (some 25) (bN 11 2) HT_ ?_
    refine qP 5 (some 29) (bN 11 34) HT_ ?_
    refine qT 2 (some 26) (bN 11 38) HT_ HW_ hHeld ?_
    refine qT 6 (some 30) (bN 11 102) HT_ HW_ hHeld ?_
    refine Yv (σ:=Value×Value×Value×Value×Nat) 1 (bN 11 1023) (fun s_=>[(24,s_.1),(27,s_.2.1),(28,s_.2.2.1),(31,s_.2.2.2.1),(11,.pointer (some ⟨s_.2.2.2.2,0,none⟩)),(32,.agg #[s_.2.1,s_.2.2.2.1])]) (fun s_ w'=>(w'.cell? ⟨χ,0,none⟩=some (.slice a8 a4.length a9)∧w'.cell? ⟨χ,1,none⟩=some (.slice aa a3.length ab))∧(Kd.R k36 36 w' w.heap.size (fun _=>True) s_.2.1 b3)∧(Kd.R k86 86 w' w.heap.size (fun _=>True) s_.2.2.2.1 be)∧(w'.heap[ac]?=some (.cells #[.int .i64 J,.int .i64 B,.int .i64 Y,.int .i64 Z,.int .i64 γ,.int .i64 ζ,.int .i64 ε,.int .i64 κ,.int .i64 ι,.int .i64 θ] 25 (0,0)))∧(w'.heap[χ]?=some (.cells #[.slice a8 a4.length a9,.slice aa a3.length ab] 50 (0,0)))∧(w'.heap[ap]?=some (.cells #[.slice none 0 0,.slice none 0 0] 50 (0,0)))∧(w'.heap[s_.2.2.2.2]?=some (.cells #[.slice none 0 0,.slice none 0 0] 50 (0,0)))∧(w.heap.size≤s_.2.2.2.2)∧(w.heap.size≤s_.2.2.2.2)∧(ac≠s_.2.2.2.2)∧(s_.2.2.2.2≠ac)∧(χ ≠ s_.2.2.2.2)∧(s_.2.2.2.2 ≠ χ)∧(ap≠s_.2.2.2.2)∧(s_.2.2.2.2≠ap)∧(Below w.heap.size w w')) ?_ ?_
    rotate_left
    ·intro g8
     refine Yv (σ:=Value×Value×Value×Value) 2 (bN 11 511) (fun s_=>[(24,s_.1),(27,s_.2.1),(28,s_.2.2.1),(31,s_.2.2.2),(32,.agg #[s_.2.1,s_.2.2.2])]) (fun s_ w'=>(w'.cell? ⟨χ,0,none⟩=some (.slice a8 a4.length a9)∧w'.cell? ⟨χ,1,none⟩=some (.slice aa a3.length ab))∧(Kd.R k36 36 w' w.heap.size (fun _=>True) s_.2.1 b3)∧(Kd.R k86 86 w' w.heap.size (fun _=>True) s_.2.2.2 be)∧(w'.heap[ac]?=some (.cells #[.int .i64 J,.int .i64 B,.int .i64 Y,.int .i64 Z,.int .i64 γ,.int .i64 ζ,.int .i64 ε,.int .i64 κ,.int .i64 ι,.int .i64 θ] 25 (0,0)))∧(w'.heap[χ]?=some (.cells #[.slice a8 a4.length a9,.slice aa a3.length ab] 50 (0,0)))∧(w'.heap[ap]?=some (.cells #[.slice none 0 0,.slice none 0 0] 50 (0,0)))∧(Below w.heap.size w w')) ?_ ?_
     rotate_left
     ·intro je
      refine Yv (σ:=Value×Value×Value×Nat) 3 (bN 11 639) (fun s_=>[(24,s_.1),(27,s_.2.1),(28,s_.2.2.1),(11,.pointer (some ⟨s_.2.2.2,0,none⟩))]) (fun s_ w'=>(w'.cell? ⟨χ,0,none⟩=some (.slice a8 a4.length a9)∧w'.cell? ⟨χ,1,none⟩=some (.slice aa a3.length ab))∧(Kd.R k36 36 w' w.heap.size (fun _=>True) s_.2.1 b3)∧(Kd.R k86 86 w' w.heap.size (fun _=>True) s_.2.2.1 bd)∧(w'.heap[ac]?=some (.cells #[.int .i64 J,.int .i64 B,.int .i64 Y,.int .i64 Z,.int .i64 γ,.int .i64 ζ,.int .i64 ε,.int .i64 κ,.int .i64 ι,.int .i64 θ] 25 (0,0)))∧(w'.heap[χ]?=some (.cells #[.slice a8 a4.length a9,.slice aa a3.length ab] 50 (0,0)))∧(w'.heap[ap]?=some (.cells #[.slice none 0 0,.slice none 0 0] 50 (0,0)))∧(w'.heap[s_.2.2.2]?=some (.cells #[.slice none 0 0,.slice none 0 0] 50 (0,0)))∧(w.heap.size≤s_.2.2.2)∧(w.heap.size≤s_.2.2.2)∧(ac≠s_.2.2.2)∧(s_.2.2.2≠ac)∧(χ ≠ s_.2.2.2)∧(s_.2.2.2 ≠ χ)∧(ap≠s_.2.2.2)∧(s_.2.2.2≠ap)∧(Below w.heap.size w w')) ?_ ?_
      rotate_left
      ·intro fm
       refine Yv (σ:=Value×Value×Value) 4 (bN 11 127) (fun s_=>[(24,s_.1),(27,s_.2.1),(28,s_.2.2)]) (fun s_ w'=>(w'.cell? ⟨χ,0,none⟩=some (.slice a8 a4.length a9)∧w'.cell? ⟨χ,1,none⟩=some (.slice aa a3.length ab))∧(Kd.R k36 36 w' w.heap.size (fun _=>True) s_.2.1 b3)∧(Kd.R k86 86 w' w.heap.size (fun _=>True) s_.2.2 bd)∧(w'.heap[ac]?=some (.cells #[.int .i64 J,.int .i64 B,.int .i64 Y,.int .i64 Z,.int .i64 γ,.int .i64 ζ,.int .i64 ε,.int .i64 κ,.int .i64 ι,.int .i64 θ] 25 (0,0)))∧(w'.heap[χ]?=some (.cells #[.slice a8 a4.length a9,.slice aa a3.length ab] 50 (0,0)))∧(w'.heap[ap]?=some (.cells #[.slice none 0 0,.slice none 0 0] 50 (0,0)))∧(Below w.heap.size w w')) ?_ ?_
       rotate_left
       ·intro iv
        refine Yv (σ:=Value×Value×Nat) 4 (bN 11 623) (fun s_=>[(24,s_.1),(27,s_.2.1),(11,.pointer (some ⟨s_.2.2,0,none⟩))]) (fun s_ w'=>(w'.cell? ⟨χ,0,none⟩=some (.slice a8 a4.length a9)∧w'.cell? ⟨χ,1,none⟩=some (.slice aa a3.length ab))∧(Kd.R k36 36 w' w.heap.size (fun _=>True) s_.2.1 b3)∧(w'.heap[ac]?=some (.cells #[.int .i64 J,.int .i64 B,.int .i64 Y,.int .i64 Z,.int .i64 γ,.int .i64 ζ,.int .i64 ε,.int .i64 κ,.int .i64 ι,.int .i64 θ] 25 (0,0)))∧(w'.heap[χ]?=some (.cells #[.slice a8 a4.length a9,.slice aa a3.length ab] 50 (0,0)))∧(w'.heap[ap]?=some (.cells #[.slice none 0 0,.slice none 0 0] 50 (0,0)))∧(w'.heap[s_.2.2]?=some (.cells #[.slice none 0 0,.slice none 0 0] 50 (0,0)))∧(w.heap.size≤s_.2.2)∧(w.heap.size≤s_.2.2)∧(ac≠s_.2.2)∧(s_.2.2≠ac)∧(χ ≠ s_.2.2)∧(s_.2.2 ≠ χ)∧(ap≠s_.2.2)∧(s_.2.2≠ap)∧(Below w.heap.size w w')) ?_ ?_
        rotate_left
        ·intro iw
         refine Yv (σ:=Value×Value×Nat) 4 (bN 11 631) (fun s_=>[(24,s_.1),(28,s_.2.1),(11,.pointer (some ⟨s_.2.2,0,none⟩))]) (fun s_ w'=>(w'.cell? ⟨χ,0,none⟩=some (.slice a8 a4.length a9)∧w'.cell? ⟨χ,1,none⟩=some (.slice aa a3.length ab))∧(Kd.R k36 36 w' w.heap.size (fun _=>True) s_.1 bs)∧(Kd.R k86 86 w' w.heap.size (fun _=>True) s_.2.1 bd)∧(w'.heap[ac]?=some (.cells #[.int .i64 J,.int .i64 B,.int .i64 Y,.int .i64 Z,.int .i64 γ,.int .i64 ζ,.int .i64 ε,.int .i64 κ,.int .i64 ι,.int .i64 θ] 25 (0,0)))∧(w'.heap[χ]?=some (.cells #[.slice a8 a4.length a9,.slice aa a3.length ab] 50 (0,0)))∧(w'.heap[ap]?=some (.cells #[.slice none 0 0,.slice none 0 0] 50 (0,0)))∧(w'.heap[s_.2.2]?=some (.cells #[.slice none 0 0,.slice none 0 0] 50 (0,0)))∧(w.heap.size≤s_.2.2)∧(w.heap.size≤s_.2.2)∧(ac≠s_.2.2)∧(s_.2.2≠ac)∧(χ ≠ s_.2.2)∧(s_.2.2 ≠ χ)∧(ap≠s_.2.2)∧(s_.2.2≠ap)∧(Below w.heap.size w w')) ?_ ?_
         rotate_left
         ·intro gs
          refine Yv (σ:=Value×Value) 5 (bN 11 111) (fun s_=>[(24,s_.1),(27,s_.2)]) (fun s_ w'=>(w'.cell? ⟨χ,0,none⟩=some (.slice a8 a4.length a9)∧w'.cell? ⟨χ,1,none⟩=some (.slice aa a3.length ab))∧(Kd.R k36 36 w' w.heap.size (fun _=>True) s_.2 b3)∧(w'.heap[ac]?=some (.cells #[.int .i64 J,.int .i64 B,.int .i64 Y,.int .i64 Z,.int .i64 γ,.int .i64 ζ,.int .i64 ε,.int .i64 κ,.int .i64 ι,.int .i64 θ] 25 (0,0)))∧(w'.heap[χ]?=some (.cells #[.slice a8 a4.length a9,.slice aa a3.length ab] 50 (0,0)))∧(w'.heap[ap]?=some (.cells #[.slice none 0 0,.slice none 0 0] 50 (0,0)))∧(Below w.heap.size w w')) ?_ ?_
          rotate_left
          ·intro nk
           refine Yv (σ:=Value×Value) 5 (bN 11 119) (fun s_=>[(24,s_.1),(28,s_.2)]) (fun s_ w'=>(w'.cell? ⟨χ,0,none⟩=some (.slice a8 a4.length a9)∧w'.cell? ⟨χ,1,none⟩=some (.slice aa a3.length ab))∧(Kd.R k36 36 w' w.heap.size (fun _=>True) s_.1 bs)∧(Kd.R k86 86 w' w.heap.size (fun _=>True) s_.2 bd)∧(w'.heap[ac]?=some (.cells #[.int .i64 J,.int .i64 B,.int .i64 Y,.int .i64 Z,.int .i64 γ,.int .i64 ζ,.int .i64 ε,.int .i64 κ,.int .i64 ι,.int .i64 θ] 25 (0,0)))∧(w'.heap[χ]?=some (.cells #[.slice a8 a4.length a9,.slice aa a3.length ab] 50 (0,0)))∧(w'.heap[ap]?=some (.cells #[.slice none 0 0,.slice none 0 0] 50 (0,0)))∧(Below w.heap.size w w')) ?_ ?_
           rotate_left
           ·intro ky
            refine Yv (σ:=Value×Nat) 5 (bN 11 615) (fun s_=>[(24,s_.1),(11,.pointer (some ⟨s_.2,0,none⟩))]) (fun s_ w'=>(w'.cell? ⟨χ,0,none⟩=some (.slice a8 a4.length a9)∧w'.cell? ⟨χ,1,none⟩=some (.slice aa a3.length ab))∧(Kd.R k36 36 w' w.heap.size (fun _=>True) s_.1 bs)∧(w'.heap[ac]?=some (.cells #[.int .i64 J,.int .i64 B,.int .i64 Y,.int .i64 Z,.int .i64 γ,.int .i64 ζ,.int .i64 ε,.int .i64 κ,.int .i64 ι,.int .i64 θ] 25 (0,0)))∧(w'.heap[χ]?=some (.cells #[.slice a8 a4.length a9,.slice aa a3.length ab] 50 (0,0)))∧(w'.heap[ap]?=some (.cells #[.slice none 0 0,.slice none 0 0] 50 (0,0)))∧(w'.heap[s_.2]?=some (.cells #[.slice none 0 0,.slice none 0 0] 50 (0,0)))∧(w.heap.size≤s_.2)∧(w.heap.size≤s_.2)∧(ac≠s_.2)∧(s_.2≠ac)∧(χ ≠ s_.2)∧(s_.2 ≠ χ)∧(ap≠s_.2)∧(s_.2≠ap)∧(Below w.heap.size w w')) ?_ ?_
            rotate_left
            ·intro kz
             refine Yv (σ:=Value×Nat) 5 (bN 11 630) (fun s_=>[(28,s_.1),(11,.pointer (some ⟨s_.2,0,none⟩))]) (fun s_ w'=>(w'.cell? ⟨χ,0,none⟩=some (.slice a8 a4.length a9)∧w'.cell? ⟨χ,1,none⟩=some (.slice aa a3.length ab))∧(Kd.R k86 86 w' w.heap.size (fun _=>True) s_.1 bd)∧(w'.heap[ac]?=some (.cells #[.int .i64 J,.int .i64 B,.int .i64 Y,.int .i64 Z,.int .i64 γ,.int .i64 ζ,.int .i64 ε,.int .i64 κ,.int .i64 ι,.int .i64 θ] 25 (0,0)))∧(w'.heap[χ]?=some (.cells #[.slice a8 a4.length a9,.slice aa a3.length ab] 50 (0,0)))∧(w'.heap[ap]?=some (.cells #[.slice none 0 0,.slice none 0 0] 50 (0,0)))∧(w'.heap[s_.2]?=some (.cells #[.slice none 0 0,.slice none 0 0] 50 (0,0)))∧(w.heap.size≤s_.2)∧(w.heap.size≤s_.2)∧(ac≠s_.2)∧(s_.2≠ac)∧(χ ≠ s_.2)∧(s_.2 ≠ χ)∧(ap≠s_.2)∧(s_.2≠ap)∧(Below w.heap.size w w')) ?_ ?_
             rotate_left
             ·intro l2
              refine Yv (σ:=Value) 6 (bN 11 103) (fun s_=>[(24,s_)]) (fun s_ w'=>(w'.cell? ⟨χ,0,none⟩=some (.slice a8 a4.length a9)∧w'.cell? ⟨χ,1,none⟩=some (.slice aa a3.length ab))∧(Kd.R k36 36 w' w.heap.size (fun _=>True) s_ bs)∧(w'.heap[ac]?=some (.cells #[.int .i64 J,.int .i64 B,.int .i64 Y,.int .i64 Z,.int .i64 γ,.int .i64 ζ,.int .i64 ε,.int .i64 κ,.int .i64 ι,.int .i64 θ] 25 (0,0)))∧(w'.heap[χ]?=some (.cells #[.slice a8 a4.length a9,.slice aa a3.length ab] 50 (0,0)))∧(w'.heap[ap]?=some (.cells #[.slice none 0 0,.slice none 0 0] 50 (0,0)))∧(Below w.heap.size w w')) ?_ ?_
              rotate_left
              ·intro qj
               refine Yv (σ:=Value) 6 (bN 11 118) (fun s_=>[(28,s_)]) (fun s_ w'=>(w'.cell? ⟨χ,0,none⟩=some (.slice a8 a4.length a9)∧w'.cell? ⟨χ,1,none⟩=some (.slice aa a3.length ab))∧(Kd.R k86 86 w' w.heap.size (fun _=>True) s_ bd)∧(w'.heap[ac]?=some (.cells #[.int .i64 J,.int .i64 B,.int .i64 Y,.int .i64 Z,.int .i64 γ,.int .i64 ζ,.int .i64 ε,.int .i64 κ,.int .i64 ι,.int .i64 θ] 25 (0,0)))∧(w'.heap[χ]?=some (.cells #[.slice a8 a4.length a9,.slice aa a3.length ab] 50 (0,0)))∧(w'.heap[ap]?=some (.cells #[.slice none 0 0,.slice none 0 0] 50 (0,0)))∧(Below w.heap.size w w')) ?_ ?_
               rotate_left
               ·intro qk
                refine Yv (σ:=Nat) 6 (bN 11 614) (fun s_=>[(11,.pointer (some ⟨s_,0,none⟩))]) (fun s_ w'=>(w'.cell? ⟨χ,0,none⟩=some (.slice a8 a4.length a9)∧w'.cell? ⟨χ,1,none⟩=some (.slice aa a3.length ab))∧(w'.heap[ac]?=some (.cells #[.int .i64 J,.int .i64 B,.int .i64 Y,.int .i64 Z,.int .i64 γ,.int .i64 ζ,.int .i64 ε,.int .i64 κ,.int .i64 ι,.int .i64 θ] 25 (0,0)))∧(w'.heap[χ]?=some (.cells #[.slice a8 a4.length a9,.slice aa a3.length ab] 50 (0,0)))∧(w'.heap[ap]?=some (.cells #[.slice none 0 0,.slice none 0 0] 50 (0,0)))∧(w'.heap[s_]?=some (.cells #[.slice none 0 0,.slice none 0 0] 50 (0,0)))∧(w.heap.size≤s_)∧(w.heap.size≤s_)∧(ac≠s_)∧(s_≠ac)∧(χ ≠ s_)∧(s_ ≠ χ)∧(ap≠s_)∧(s_≠ap)∧(Below w.heap.size w w')) ?_ ?_
                rotate_left
                ·intro ql
                 refine Lp (i:=0) (j:=4) (k:=9) (Ni:=some 24) (Nj:=some 28) (Nk:=some 11) #[true,true,true,false,false,true,true,false,false,false,false] #[false,true,true,false,true,true,true,false,false,false,false] #[false,true,true,false,false,true,true,false,false,true,false] rfl rfl rfl rfl rfl rfl (V1 HT_.out kr) (by decide) (by decide) (by decide) (fun K hK=>?_) (fun K hK=>?_) (fun K hK=>?_)
                 ·skip
                  refine Kd.Xc k36 _ 36 ?hg (N:=24) ?hd (xs:=([]:List (S36))) (inner:=[]) (ok:=fun _=>True) (okp:=fun _=>True) ?hr ?hp (fun _ hk=>hk) trivial (Below.refl _ _) (Nat.le_refl _) (by simp) ?_;(case hd=>rfl);(case hg=>rfl);(case hr=>go_simp <;> rfl);(case hp=>exact(Reps.none _ _))
                  intro b4 ba eu hb hg_ hnew_
                  clear hg_ hnew_
                  (first|rw[← ez.out] at eu|(simp only[Int.reduceToNat] at eu;rw[← ez.out] at eu))
                  have aw:=Aside0.mk (Kd.Zg eu (Qi HB.out))
                  replace μ :=sBk μ hb
                  replace η :=sBk η hb
                  replace ν :=sBk ν hb
                  replace HB:=sHb hb
                  clear hb eu
                  refine hK.out _ _ ⟨qc η,qc η⟩ (fun hHeld=>?_)
                  clear hK K
                  refine qN (some 24) ?_
                  exact Zx (by first|(simp only[Zb,Act.put,qS];done)|(simp only[Zb,Act.put,qS];rfl)) (qj (b4) _ ⟨hHeld,aw.out,μ.out,η.out,ν.out,HB.out⟩)
                 ·skip
                  refine Kd.Xc k86 _ 86 ?hg (N:=28) ?hd (xs:=([]:List (S86))) (inner:=[]) (ok:=fun _=>True) (okp:=fun _=>True) ?hr ?hp (fun _ hk=>hk) trivial (Below.refl _ _) (Nat.le_refl _) (by simp) ?_;(case hd=>rfl);(case hg=>rfl);(case hr=>go_simp <;> rfl);(case hp=>exact(Reps.none _ _))
                  intro b8 ba eu hb hg_ hnew_
                  clear hg_ hnew_
                  (first|rw[← db.out] at eu|(simp only[Int.reduceToNat] at eu;rw[← db.out] at eu))
                  have au:=Aside0.mk (Kd.Zg eu (Qi HB.out))
                  replace μ :=sBk μ hb
                  replace η :=sBk η hb
                  replace ν :=sBk ν hb
                  replace HB:=sHb hb
                  clear hb eu
                  refine hK.out _ _ ⟨qc η,qc η⟩ (fun hHeld=>?_)
                  clear hK K
                  refine qN (some 28) ?_
                  exact Zx (by first|(simp only[Zb,Act.put,qS];done)|(simp only[Zb,Act.put,qS];rfl)) (qk (b8) _ ⟨hHeld,au.out,μ.out,η.out,ν.out,HB.out⟩)
                 ·skip
                  refine Xv ?hg (N:=11) ?hd (cs:=#[.slice none 0 0,.slice none 0 0]) (t:=50) ?hr ?_;(case hd=>rfl);(case hg=>rfl);(case hr=>go_simp <;> rfl)
                  intro a0 hg ba hbox hb
                  have ψ :=Aside0.mk hbox
                  have bb:=sGe hg
                  have bc:=sGe hg
                  have af:=sNl μ hg
                  have al:=sNg μ hg
                  have ae:=sNl η hg
                  have am:=sNg η hg
                  have an:=sNl ν hg
                  have ao:=sNg ν hg
                  replace μ :=sBk μ hb
                  replace η :=sBk η hb
                  replace ν :=sBk ν hb
                  replace HB:=sHb hb
                  clear hb hbox hg
                  refine hK.out _ _ ⟨qc η,qc η⟩ (fun hHeld=>?_)
                  clear hK K
                  refine qN (some 11) ?_
                  exact Zx (by first|(simp only[Zb,Act.put,qS];done)|(simp only[Zb,Act.put,qS];rfl)) (ql (a0) _ ⟨hHeld,μ.out,η.out,ν.out,ψ.out,bb.out,bc.out,af.out,al.out,ae.out,am.out,an.out,ao.out,HB.out⟩)
                ·skip
                 rintro a0 dw ⟨hS_,bf,bg,bh,bi,bj,bw,cr,ct,cu,cv,bz,ca,cb⟩
                 have L:Aside0 (dw.heap[ac]?=some (.cells #[.int .i64 J,.int .i64 B,.int .i64 Y,.int .i64 Z,.int .i64 γ,.int .i64 ζ,.int .i64 ε,.int .i64 κ,.int .i64 ι,.int .i64 θ] 25 (0,0))):=⟨bf⟩
                 have O:Aside0 (dw.heap[χ]?=some (.cells #[.slice a8 a4.length a9,.slice aa a3.length ab] 50 (0,0))):=⟨bg⟩
                 have X:Aside0 (dw.heap[ap]?=some (.cells #[.slice none 0 0,.slice none 0 0] 50 (0,0))):=⟨bh⟩
                 have δ :Aside0 (dw.heap[a0]?=some (.cells #[.slice none 0 0,.slice none 0 0] 50 (0,0))):=⟨bi⟩
                 have ξ :Aside0 (w.heap.size≤a0):=⟨bj⟩
                 have φ :Aside0 (w.heap.size≤a0):=⟨bw⟩
                 have ω :Aside0 (ac≠a0):=⟨cr⟩
                 have a6:Aside0 (a0≠ac):=⟨ct⟩
                 have a7:Aside0 (χ ≠ a0):=⟨cu⟩
                 have ag:Aside0 (a0 ≠ χ):=⟨cv⟩
                 have ah:Aside0 (ap≠a0):=⟨bz⟩
                 have ai:Aside0 (a0≠ap):=⟨ca⟩
                 have aj:Aside0 (Below w.heap.size w dw):=⟨cb⟩
                 clear μ
                 clear η
                 clear ν
                 clear HB
                 clear bf bg bh bi bj bw cr ct cu cv bz ca cb
                 have μ :=L
                 have η :=O
                 have ν :=X
                 have ψ := δ
                 have bb:= ξ
                 have bc:= φ
                 have af:= ω
                 have al:=a6
                 have ae:=a7
                 have am:=ag
                 have an:=ah
                 have ao:=ai
                 have HB:=aj
                 clear L O X δ ξ φ ω a6 a7 ag ah ai aj
                 have hHeld:dw.cell? ⟨χ,0,none⟩=some (.slice a8 a4.length a9)∧dw.cell? ⟨χ,1,none⟩=some (.slice aa a3.length ab):=hS_
                 refine Zx (a':=?_) ?_ ?_
                 rotate_left
                 ·simp only[Zb,Act.put,qS]
                  rfl
                 refine Vz (i:=0) (j:=4) (Ni:=some 24) (Nj:=some 28) (bN 11 615) (bN 11 630) rfl rfl rfl rfl (Ja HT_.out kr) (by decide) (by decide) (fun K hK=>?_) (fun K hK=>?_)
                 ·skip
                  refine Kd.Xc k36 _ 36 ?hg (N:=24) ?hd (xs:=([]:List (S36))) (inner:=[]) (ok:=fun _=>True) (okp:=fun _=>True) ?hr ?hp (fun _ hk=>hk) trivial (Below.refl _ _) (Nat.le_refl _) (by simp) ?_;(case hd=>rfl);(case hg=>rfl);(case hr=>go_simp <;> rfl);(case hp=>exact(Reps.none _ _))
                  intro b4 bn ev hb hg_ hnew_
                  clear hg_ hnew_
                  (first|rw[← ez.out] at ev|(simp only[Int.reduceToNat] at ev;rw[← ez.out] at ev))
                  have aw:=Aside0.mk (Kd.Zg ev (Qi HB.out))
                  replace μ :=sBk μ hb
                  replace η :=sBk η hb
                  replace ν :=sBk ν hb
                  replace ψ :=sBk ψ hb
                  replace HB:=sHb hb
                  clear hb ev
                  refine hK.out _ _ ⟨qc η,qc η⟩ (fun hHeld=>?_)
                  clear hK K
                  refine qN (some 24) ?_
                  exact Zx (by first|(simp only[Zb,Act.put,qS];done)|(simp only[Zb,Act.put,qS];rfl)) (kz (b4,a0) _ ⟨hHeld,aw.out,μ.out,η.out,ν.out,ψ.out,bb.out,bc.out,af.out,al.out,ae.out,am.out,an.out,ao.out,HB.out⟩)
                 ·skip
                  refine Kd.Xc k86 _ 86 ?hg (N:=28) ?hd (xs:=([]:List (S86))) (inner:=[]) (ok:=fun _=>True) (okp:=fun _=>True) ?hr ?hp (fun _ hk=>hk) trivial (Below.refl _ _) (Nat.le_refl _) (by simp) ?_;(case hd=>rfl);(case hg=>rfl);(case hr=>go_simp <;> rfl);(case hp=>exact(Reps.none _ _))
                  intro b8 bn ev hb hg_ hnew_
                  clear hg_ hnew_
                  (first|rw[← db.out] at ev|(simp only[Int.reduceToNat] at ev;rw[← db.out] at ev))
                  have au:=Aside0.mk (Kd.Zg ev (Qi HB.out))
                  replace μ :=sBk μ hb
                  replace η :=sBk η hb
                  replace ν :=sBk ν hb
                  replace ψ :=sBk ψ hb
                  replace HB:=sHb hb
                  clear hb ev
                  refine hK.out _ _ ⟨qc η,qc η⟩ (fun hHeld=>?_)
                  clear hK K
                  refine qN (some 28) ?_
                  exact Zx (by first|(simp only[Zb,Act.put,qS];done)|(simp only[Zb,Act.put,qS];rfl)) (l2 (b8,a0) _ ⟨hHeld,au.out,μ.out,η.out,ν.out,ψ.out,bb.out,bc.out,af.out,al.out,ae.out,am.out,an.out,ao.out,HB.out⟩)
               ·skip
                rintro b8 bn ⟨hS_,bf,bg,bh,bi,bj⟩
                have L:Aside0 (Kd.R k86 86 bn w.heap.size (fun _=>True) b8 bd):=⟨bf⟩
                have O:Aside0 (bn.heap[ac]?=some (.cells #[.int .i64 J,.int .i64 B,.int .i64 Y,.int .i64 Z,.int .i64 γ,.int .i64 ζ,.int .i64 ε,.int .i64 κ,.int .i64 ι,.int .i64 θ] 25 (0,0))):=⟨bg⟩
                have X:Aside0 (bn.heap[χ]?=some (.cells #[.slice a8 a4.length a9,.slice aa a3.length ab] 50 (0,0))):=⟨bh⟩
                have δ :Aside0 (bn.heap[ap]?=some (.cells #[.slice none 0 0,.slice none 0 0] 50 (0,0))):=⟨bi⟩
                have ξ :Aside0 (Below w.heap.size w bn):=⟨bj⟩
                clear μ
                clear η
                clear ν
                clear HB
                clear bf bg bh bi bj
                have au:=L
                have μ :=O
                have η :=X
                have ν := δ
                have HB:= ξ
                clear L O X δ ξ
                have hHeld:bn.cell? ⟨χ,0,none⟩=some (.slice a8 a4.length a9)∧bn.cell? ⟨χ,1,none⟩=some (.slice aa a3.length ab):=hS_
                refine Zx (a':=?_) ?_ ?_
                rotate_left
                ·simp only[Zb,Act.put,qS]
                 rfl
                refine Vz (i:=0) (j:=9) (Ni:=some 24) (Nj:=some 11) (bN 11 119) (bN 11 630) rfl rfl rfl rfl (Ja HT_.out kr) (by decide) (by decide) (fun K hK=>?_) (fun K hK=>?_)
                ·skip
                 refine Kd.Xc k36 _ 36 ?hg (N:=24) ?hd (xs:=([]:List (S36))) (inner:=[]) (ok:=fun _=>True) (okp:=fun _=>True) ?hr ?hp (fun _ hk=>hk) trivial (Below.refl _ _) (Nat.le_refl _) (by simp) ?_;(case hd=>rfl);(case hg=>rfl);(case hr=>go_simp <;> rfl);(case hp=>exact(Reps.none _ _))
                 intro b4 bm cw hb hg_ hnew_
                 clear hg_ hnew_
                 (first|rw[← ez.out] at cw|(simp only[Int.reduceToNat] at cw;rw[← ez.out] at cw))
                 have aw:=Aside0.mk (Kd.Zg cw (Qi HB.out))
                 replace au:=sRb au hb
                 replace μ :=sBk μ hb
                 replace η :=sBk η hb
                 replace ν :=sBk ν hb
                 replace HB:=sHb hb
                 clear hb cw
                 refine hK.out _ _ ⟨qc η,qc η⟩ (fun hHeld=>?_)
                 clear hK K
                 refine qN (some 24) ?_
                 exact Zx (by first|(simp only[Zb,Act.put,qS];done)|(simp only[Zb,Act.put,qS];rfl)) (ky (b4,b8) _ ⟨hHeld,aw.out,au.out,μ.out,η.out,ν.out,HB.out⟩)
                ·skip
                 refine Xv ?hg (N:=11) ?hd (cs:=#[.slice none 0 0,.slice none 0 0]) (t:=50) ?hr ?_;(case hd=>rfl);(case hg=>rfl);(case hr=>go_simp <;> rfl)
                 intro a0 hg bm hbox hb
                 have ψ :=Aside0.mk hbox
                 have bb:=sGe hg
                 have bc:=sGe hg
                 have af:=sNl μ hg
                 have al:=sNg μ hg
                 have ae:=sNl η hg
                 have am:=sNg η hg
                 have an:=sNl ν hg
                 have ao:=sNg ν hg
                 replace au:=sRb au hb
                 replace μ :=sBk μ hb
                 replace η :=sBk η hb
                 replace ν :=sBk ν hb
                 replace HB:=sHb hb
                 clear hb hbox hg
                 refine hK.out _ _ ⟨qc η,qc η⟩ (fun hHeld=>?_)
                 clear hK K
                 refine qN (some 11) ?_
                 exact Zx (by first|(simp only[Zb,Act.put,qS];done)|(simp only[Zb,Act.put,qS];rfl)) (l2 (b8,a0) _ ⟨hHeld,au.out,μ.out,η.out,ν.out,ψ.out,bb.out,bc.out,af.out,al.out,ae.out,am.out,an.out,ao.out,HB.out⟩)
              ·skip
               rintro b4 bn ⟨hS_,bf,bg,bh,bi,bj⟩
               have L:Aside0 (Kd.R k36 36 bn w.heap.size (fun _=>True) b4 bs):=⟨bf⟩
               have O:Aside0 (bn.heap[ac]?=some (.cells #[.int .i64 J,.int .i64 B,.int .i64 Y,.int .i64 Z,.int .i64 γ,.int .i64 ζ,.int .i64 ε,.int .i64 κ,.int .i64 ι,.int .i64 θ] 25 (0,0))):=⟨bg⟩
               have X:Aside0 (bn.heap[χ]?=some (.cells #[.slice a8 a4.length a9,.slice aa a3.length ab] 50 (0,0))):=⟨bh⟩
               have δ :Aside0 (bn.heap[ap]?=some (.cells #[.slice none 0 0,.slice none 0 0] 50 (0,0))):=⟨bi⟩
               have ξ :Aside0 (Below w.heap.size w bn):=⟨bj⟩
               clear μ
               clear η
               clear ν
               clear HB
               clear bf bg bh bi bj
               have aw:=L
               have μ :=O
               have η :=X
               have ν := δ
               have HB:= ξ
               clear L O X δ ξ
               have hHeld:bn.cell? ⟨χ,0,none⟩=some (.slice a8 a4.length a9)∧bn.cell? ⟨χ,1,none⟩=some (.slice aa a3.length ab):=hS_
               refine Zx (a':=?_) ?_ ?_
               rotate_left
               ·simp only[Zb,Act.put,qS]
                rfl
               refine Lp (i:=3) (j:=4) (k:=9) (Ni:=some 27) (Nj:=some 28) (Nk:=some 11) #[true,true,true,true,false,true,true,false,false,false,false] #[true,true,true,false,true,true,true,false,false,false,false] #[true,true,true,false,false,true,true,false,false,true,false] rfl rfl rfl rfl rfl rfl (V1 HT_.out kr) (by decide) (by decide) (by decide) (fun K hK=>?_) (fun K hK=>?_) (fun K hK=>?_)
               ·skip
                refine Kd.Z7 k36 (w0:=w) w.heap.size (by rfl) (.tmp 24) (.tmp 26) 47 36 (.agg #[(.int .i64 0),(.int .i64 0),(.int .i64 0)]) 24 rfl Try.underlying47 Ga rfl (by decide) (by omega) b4 bs a4 _ _ _ (fun _=>True) (fun _=>False) rfl rfl ?aO ?aR (fun _ _ h=>h) (fun _ h=>h.elim) ?aF ?aB ?aS ?aL ?_
                (case aR=>exact(Kd.Q0 br.out HB.out))
                (case aB=>exact HB.out)
                (case aF=>exact(fun _ _=>trivial))
                (case aO=>exact aw.out)
                (case aS=>exact(Qi HB.out))
                (case aL=>have:=j9.out;omega)
                intro cd bm ho hb hg hat
                rw[← hl.out] at ho
                have b0:=Aside0.mk ho
                replace μ :=Aside0.mk (Q8 (g:=ac) (o:=.cells #[.int .i64 J,.int .i64 B,.int .i64 Y,.int .i64 Z,.int .i64 γ,.int .i64 ζ,.int .i64 ε,.int .i64 κ,.int .i64 ι,.int .i64 θ] 25 (0,0)) μ.out hg (Kd.Xg aw.out μ.out (by decide)))
                replace η :=Aside0.mk (Q8 (g:= χ) (o:=.cells #[.slice a8 a4.length a9,.slice aa a3.length ab] 50 (0,0)) η.out hg (Kd.Xg aw.out η.out (by decide)))
                replace ν :=Aside0.mk (Q8 (g:=ap) (o:=.cells #[.slice none 0 0,.slice none 0 0] 50 (0,0)) ν.out hg (Kd.Xg aw.out ν.out (by decide)))
                replace HB:=Aside0.mk hb
                clear aw
                clear ho hb hg hat
                refine hK.out _ _ ⟨qc η,qc η⟩ (fun hHeld=>?_)
                clear hK K
                refine qN (some 27) ?_
                exact Zx (by first|(simp only[Zb,Act.put,qS];done)|(simp only[Zb,Act.put,qS];rfl)) (nk (b4,cd) _ ⟨hHeld,b0.out,μ.out,η.out,ν.out,HB.out⟩)
               ·skip
                refine Kd.Xc k86 _ 86 ?hg (N:=28) ?hd (xs:=([]:List (S86))) (inner:=[]) (ok:=fun _=>True) (okp:=fun _=>True) ?hr ?hp (fun _ hk=>hk) trivial (Below.refl _ _) (Nat.le_refl _) (by simp) ?_;(case hd=>rfl);(case hg=>rfl);(case hr=>go_simp <;> rfl);(case hp=>exact(Reps.none _ _))
                intro b8 bm cw hb hg_ hnew_
                clear hg_ hnew_
                (first|rw[← db.out] at cw|(simp only[Int.reduceToNat] at cw;rw[← db.out] at cw))
                have au:=Aside0.mk (Kd.Zg cw (Qi HB.out))
                replace aw:=sRb aw hb
                replace μ :=sBk μ hb
                replace η :=sBk η hb
                replace ν :=sBk ν hb
                replace HB:=sHb hb
                clear hb cw
                refine hK.out _ _ ⟨qc η,qc η⟩ (fun hHeld=>?_)
                clear hK K
                refine qN (some 28) ?_
                exact Zx (by first|(simp only[Zb,Act.put,qS];done)|(simp only[Zb,Act.put,qS];rfl)) (ky (b4,b8) _ ⟨hHeld,aw.out,au.out,μ.out,η.out,ν.out,HB.out⟩)
               ·skip
                refine Xv ?hg (N:=11) ?hd (cs:=#[.slice none 0 0,.slice none 0 0]) (t:=50) ?hr ?_;(case hd=>rfl);(case hg=>rfl);(case hr=>go_simp <;> rfl)
                intro a0 hg bm hbox hb
                have ψ :=Aside0.mk hbox
                have bb:=sGe hg
                have bc:=sGe hg
                have af:=sNl μ hg
                have al:=sNg μ hg
                have ae:=sNl η hg
                have am:=sNg η hg
                have an:=sNl ν hg
                have ao:=sNg ν hg
                replace aw:=sRb aw hb
                replace μ :=sBk μ hb
                replace η :=sBk η hb
                replace ν :=sBk ν hb
                replace HB:=sHb hb
                clear hb hbox hg
                refine hK.out _ _ ⟨qc η,qc η⟩ (fun hHeld=>?_)
                clear hK K
                refine qN (some 11) ?_
                exact Zx (by first|(simp only[Zb,Act.put,qS];done)|(simp only[Zb,Act.put,qS];rfl)) (kz (b4,a0) _ ⟨hHeld,aw.out,μ.out,η.out,ν.out,ψ.out,bb.out,bc.out,af.out,al.out,ae.out,am.out,an.out,ao.out,HB.out⟩)
             ·skip
              rintro⟨b8,a0⟩ bm ⟨hS_,bf,bg,bh,bi,bj,bw,cr,ct,cu,cv,bz,ca,cb,co⟩
              have L:Aside0 (Kd.R k86 86 bm w.heap.size (fun _=>True) b8 bd):=⟨bf⟩
              have O:Aside0 (bm.heap[ac]?=some (.cells #[.int .i64 J,.int .i64 B,.int .i64 Y,.int .i64 Z,.int .i64 γ,.int .i64 ζ,.int .i64 ε,.int .i64 κ,.int .i64 ι,.int .i64 θ] 25 (0,0))):=⟨bg⟩
              have X:Aside0 (bm.heap[χ]?=some (.cells #[.slice a8 a4.length a9,.slice aa a3.length ab] 50 (0,0))):=⟨bh⟩
              have δ :Aside0 (bm.heap[ap]?=some (.cells #[.slice none 0 0,.slice none 0 0] 50 (0,0))):=⟨bi⟩
              have ξ :Aside0 (bm.heap[a0]?=some (.cells #[.slice none 0 0,.slice none 0 0] 50 (0,0))):=⟨bj⟩
              have φ :Aside0 (w.heap.size≤a0):=⟨bw⟩
              have ω :Aside0 (w.heap.size≤a0):=⟨cr⟩
              have a6:Aside0 (ac≠a0):=⟨ct⟩
              have a7:Aside0 (a0≠ac):=⟨cu⟩
              have ag:Aside0 (χ ≠ a0):=⟨cv⟩
              have ah:Aside0 (a0 ≠ χ):=⟨bz⟩
              have ai:Aside0 (ap≠a0):=⟨ca⟩
              have aj:Aside0 (a0≠ap):=⟨cb⟩
              have ay:Aside0 (Below w.heap.size w bm):=⟨co⟩
              clear μ
              clear η
              clear ν
              clear HB
              clear bf bg bh bi bj bw cr ct cu cv bz ca cb co
              have au:=L
              have μ :=O
              have η :=X
              have ν := δ
              have ψ := ξ
              have bb:= φ
              have bc:= ω
              have af:=a6
              have al:=a7
              have ae:=ag
              have am:=ah
              have an:=ai
              have ao:=aj
              have HB:=ay
              clear L O X δ ξ φ ω a6 a7 ag ah ai aj ay
              have hHeld:bm.cell? ⟨χ,0,none⟩=some (.slice a8 a4.length a9)∧bm.cell? ⟨χ,1,none⟩=some (.slice aa a3.length ab):=hS_
              refine Zx (a':=?_) ?_ ?_
              rotate_left
              ·simp only[Zb,Act.put,qS]
               rfl
              refine Zn (i:=0) (N:=some 24) (bN 11 631) rfl rfl (Zc HT_.out kr) (by decide) (fun K hK=>?_)
              refine Kd.Xc k36 _ 36 ?hg (N:=24) ?hd (xs:=([]:List (S36))) (inner:=[]) (ok:=fun _=>True) (okp:=fun _=>True) ?hr ?hp (fun _ hk=>hk) trivial (Below.refl _ _) (Nat.le_refl _) (by simp) ?_;(case hd=>rfl);(case hg=>rfl);(case hr=>go_simp <;> rfl);(case hp=>exact(Reps.none _ _))
              intro b4 bl cx hb hg_ hnew_
              clear hg_ hnew_
              (first|rw[← ez.out] at cx|(simp only[Int.reduceToNat] at cx;rw[← ez.out] at cx))
              have aw:=Aside0.mk (Kd.Zg cx (Qi HB.out))
              replace au:=sRb au hb
              replace μ :=sBk μ hb
              replace η :=sBk η hb
              replace ν :=sBk ν hb
              replace ψ :=sBk ψ hb
              replace HB:=sHb hb
              clear hb cx
              refine hK.out _ _ ⟨qc η,qc η⟩ (fun hHeld=>?_)
              clear hK K
              refine qN (some 24) ?_
              exact Zx (by first|(simp only[Zb,Act.put,qS];done)|(simp only[Zb,Act.put,qS];rfl)) (gs (b4,b8,a0) _ ⟨hHeld,aw.out,au.out,μ.out,η.out,ν.out,ψ.out,bb.out,bc.out,af.out,al.out,ae.out,am.out,an.out,ao.out,HB.out⟩)
            ·skip
             rintro⟨b4,a0⟩ bm ⟨hS_,bf,bg,bh,bi,bj,bw,cr,ct,cu,cv,bz,ca,cb,co⟩
             have L:Aside0 (Kd.R k36 36 bm w.heap.size (fun _=>True) b4 bs):=⟨bf⟩
             have O:Aside0 (bm.heap[ac]?=some (.cells #[.int .i64 J,.int .i64 B,.int .i64 Y,.int .i64 Z,.int .i64 γ,.int .i64 ζ,.int .i64 ε,.int .i64 κ,.int .i64 ι,.int .i64 θ] 25 (0,0))):=⟨bg⟩
             have X:Aside0 (bm.heap[χ]?=some (.cells #[.slice a8 a4.length a9,.slice aa a3.length ab] 50 (0,0))):=⟨bh⟩
             have δ :Aside0 (bm.heap[ap]?=some (.cells #[.slice none 0 0,.slice none 0 0] 50 (0,0))):=⟨bi⟩
             have ξ :Aside0 (bm.heap[a0]?=some (.cells #[.slice none 0 0,.slice none 0 0] 50 (0,0))):=⟨bj⟩
             have φ :Aside0 (w.heap.size≤a0):=⟨bw⟩
             have ω :Aside0 (w.heap.size≤a0):=⟨cr⟩
             have a6:Aside0 (ac≠a0):=⟨ct⟩
             have a7:Aside0 (a0≠ac):=⟨cu⟩
             have ag:Aside0 (χ ≠ a0):=⟨cv⟩
             have ah:Aside0 (a0 ≠ χ):=⟨bz⟩
             have ai:Aside0 (ap≠a0):=⟨ca⟩
             have aj:Aside0 (a0≠ap):=⟨cb⟩
             have ay:Aside0 (Below w.heap.size w bm):=⟨co⟩
             clear μ
             clear η
             clear ν
             clear HB
             clear bf bg bh bi bj bw cr ct cu cv bz ca cb co
             have aw:=L
             have μ :=O
             have η :=X
             have ν := δ
             have ψ := ξ
             have bb:= φ
             have bc:= ω
             have af:=a6
             have al:=a7
             have ae:=ag
             have am:=ah
             have an:=ai
             have ao:=aj
             have HB:=ay
             clear L O X δ ξ φ ω a6 a7 ag ah ai aj ay
             have hHeld:bm.cell? ⟨χ,0,none⟩=some (.slice a8 a4.length a9)∧bm.cell? ⟨χ,1,none⟩=some (.slice aa a3.length ab):=hS_
             refine Zx (a':=?_) ?_ ?_
             rotate_left
             ·simp only[Zb,Act.put,qS]
              rfl
             refine Vz (i:=3) (j:=4) (Ni:=some 27) (Nj:=some 28) (bN 11 623) (bN 11 631) rfl rfl rfl rfl (Ja HT_.out kr) (by decide) (by decide) (fun K hK=>?_) (fun K hK=>?_)
             ·skip
              refine Kd.Z7 k36 (w0:=w) w.heap.size (by rfl) (.tmp 24) (.tmp 26) 47 36 (.agg #[(.int .i64 0),(.int .i64 0),(.int .i64 0)]) 24 rfl Try.underlying47 Ga rfl (by decide) (by omega) b4 bs a4 _ _ _ (fun _=>True) (fun _=>False) rfl rfl ?aO ?aR (fun _ _ h=>h) (fun _ h=>h.elim) ?aF ?aB ?aS ?aL ?_
              (case aR=>exact(Kd.Q0 br.out HB.out))
              (case aB=>exact HB.out)
              (case aF=>exact(fun _ _=>trivial))
              (case aO=>exact aw.out)
              (case aS=>exact(Qi HB.out))
              (case aL=>have:=j9.out;omega)
              intro cd bl ho hb hg hat
              rw[← hl.out] at ho
              have b0:=Aside0.mk ho
              replace μ :=Aside0.mk (Q8 (g:=ac) (o:=.cells #[.int .i64 J,.int .i64 B,.int .i64 Y,.int .i64 Z,.int .i64 γ,.int .i64 ζ,.int .i64 ε,.int .i64 κ,.int .i64 ι,.int .i64 θ] 25 (0,0)) μ.out hg (Kd.Xg aw.out μ.out (by decide)))
              replace η :=Aside0.mk (Q8 (g:= χ) (o:=.cells #[.slice a8 a4.length a9,.slice aa a3.length ab] 50 (0,0)) η.out hg (Kd.Xg aw.out η.out (by decide)))
              replace ν :=Aside0.mk (Q8 (g:=ap) (o:=.cells #[.slice none 0 0,.slice none 0 0] 50 (0,0)) ν.out hg (Kd.Xg aw.out ν.out (by decide)))
              replace ψ :=Aside0.mk (Q8 (g:=a0) (o:=.cells #[.slice none 0 0,.slice none 0 0] 50 (0,0)) ψ.out hg (Kd.Xg aw.out ψ.out (by decide)))
              replace HB:=Aside0.mk hb
              clear aw
              clear ho hb hg hat
              refine hK.out _ _ ⟨qc η,qc η⟩ (fun hHeld=>?_)
              clear hK K
              refine qN (some 27) ?_
              exact Zx (by first|(simp only[Zb,Act.put,qS];done)|(simp only[Zb,Act.put,qS];rfl)) (iw (b4,cd,a0) _ ⟨hHeld,b0.out,μ.out,η.out,ν.out,ψ.out,bb.out,bc.out,af.out,al.out,ae.out,am.out,an.out,ao.out,HB.out⟩)
             ·skip
              refine Kd.Xc k86 _ 86 ?hg (N:=28) ?hd (xs:=([]:List (S86))) (inner:=[]) (ok:=fun _=>True) (okp:=fun _=>True) ?hr ?hp (fun _ hk=>hk) trivial (Below.refl _ _) (Nat.le_refl _) (by simp) ?_;(case hd=>rfl);(case hg=>rfl);(case hr=>go_simp <;> rfl);(case hp=>exact(Reps.none _ _))
              intro b8 bl cx hb hg_ hnew_
              clear hg_ hnew_
              (first|rw[← db.out] at cx|(simp only[Int.reduceToNat] at cx;rw[← db.out] at cx))
              have au:=Aside0.mk (Kd.Zg cx (Qi HB.out))
              replace aw:=sRb aw hb
              replace μ :=sBk μ hb
              replace η :=sBk η hb
              replace ν :=sBk ν hb
              replace ψ :=sBk ψ hb
              replace HB:=sHb hb
              clear hb cx
              refine hK.out _ _ ⟨qc η,qc η⟩ (fun hHeld=>?_)
              clear hK K
              refine qN (some 28) ?_
              exact Zx (by first|(simp only[Zb,Act.put,qS];done)|(simp only[Zb,Act.put,qS];rfl)) (gs (b4,b8,a0) _ ⟨hHeld,aw.out,au.out,μ.out,η.out,ν.out,ψ.out,bb.out,bc.out,af.out,al.out,ae.out,am.out,an.out,ao.out,HB.out⟩)
           ·skip
            rintro⟨b4,b8⟩ bl ⟨hS_,bf,bg,bh,bi,bj,bw⟩
            have L:Aside0 (Kd.R k36 36 bl w.heap.size (fun _=>True) b4 bs):=⟨bf⟩
            have O:Aside0 (Kd.R k86 86 bl w.heap.size (fun _=>True) b8 bd):=⟨bg⟩
            have X:Aside0 (bl.heap[ac]?=some (.cells #[.int .i64 J,.int .i64 B,.int .i64 Y,.int .i64 Z,.int .i64 γ,.int .i64 ζ,.int .i64 ε,.int .i64 κ,.int .i64 ι,.int .i64 θ] 25 (0,0))):=⟨bh⟩
            have δ :Aside0 (bl.heap[χ]?=some (.cells #[.slice a8 a4.length a9,.slice aa a3.length ab] 50 (0,0))):=⟨bi⟩
            have ξ :Aside0 (bl.heap[ap]?=some (.cells #[.slice none 0 0,.slice none 0 0] 50 (0,0))):=⟨bj⟩
            have φ :Aside0 (Below w.heap.size w bl):=⟨bw⟩
            clear μ
            clear η
            clear ν
            clear HB
            clear bf bg bh bi bj bw
            have aw:=L
            have au:=O
            have μ :=X
            have η := δ
            have ν := ξ
            have HB:= φ
            clear L O X δ ξ φ
            have hHeld:bl.cell? ⟨χ,0,none⟩=some (.slice a8 a4.length a9)∧bl.cell? ⟨χ,1,none⟩=some (.slice aa a3.length ab):=hS_
            refine Zx (a':=?_) ?_ ?_
            rotate_left
            ·simp only[Zb,Act.put,qS]
             rfl
            refine Vz (i:=3) (j:=9) (Ni:=some 27) (Nj:=some 11) (bN 11 127) (bN 11 631) rfl rfl rfl rfl (Ja HT_.out kr) (by decide) (by decide) (fun K hK=>?_) (fun K hK=>?_)
            ·skip
             refine Kd.Z7 k36 (w0:=w) w.heap.size (by rfl) (.tmp 24) (.tmp 26) 47 36 (.agg #[(.int .i64 0),(.int .i64 0),(.int .i64 0)]) 24 rfl Try.underlying47 Ga rfl (by decide) (by omega) b4 bs a4 _ _ _ (fun _=>True) (fun _=>False) rfl rfl ?aO ?aR (fun _ _ h=>h) (fun _ h=>h.elim) ?aF ?aB ?aS ?aL ?_
             (case aR=>exact(Kd.Q0 br.out HB.out))
             (case aB=>exact HB.out)
             (case aF=>exact(fun _ _=>trivial))
             (case aO=>exact aw.out)
             (case aS=>exact(Qi HB.out))
             (case aL=>have:=j9.out;omega)
             intro cd cf ho hb hg hat
             rw[← hl.out] at ho
             have b0:=Aside0.mk ho
             replace μ :=Aside0.mk (Q8 (g:=ac) (o:=.cells #[.int .i64 J,.int .i64 B,.int .i64 Y,.int .i64 Z,.int .i64 γ,.int .i64 ζ,.int .i64 ε,.int .i64 κ,.int .i64 ι,.int .i64 θ] 25 (0,0)) μ.out hg (Kd.Xg aw.out μ.out (by decide)))
             replace η :=Aside0.mk (Q8 (g:= χ) (o:=.cells #[.slice a8 a4.length a9,.slice aa a3.length ab] 50 (0,0)) η.out hg (Kd.Xg aw.out η.out (by decide)))
             replace ν :=Aside0.mk (Q8 (g:=ap) (o:=.cells #[.slice none 0 0,.slice none 0 0] 50 (0,0)) ν.out hg (Kd.Xg aw.out ν.out (by decide)))
             replace au:=Aside0.mk (Kd.Kh au.out (Kd.Kg aw.out) (by decide) hg)
             replace HB:=Aside0.mk hb
             clear aw
             clear ho hb hg hat
             refine hK.out _ _ ⟨qc η,qc η⟩ (fun hHeld=>?_)
             clear hK K
             refine qN (some 27) ?_
             exact Zx (by first|(simp only[Zb,Act.put,qS];done)|(simp only[Zb,Act.put,qS];rfl)) (iv (b4,cd,b8) _ ⟨hHeld,b0.out,au.out,μ.out,η.out,ν.out,HB.out⟩)
            ·skip
             refine Xv ?hg (N:=11) ?hd (cs:=#[.slice none 0 0,.slice none 0 0]) (t:=50) ?hr ?_;(case hd=>rfl);(case hg=>rfl);(case hr=>go_simp <;> rfl)
             intro a0 hg cf hbox hb
             have ψ :=Aside0.mk hbox
             have bb:=sGe hg
             have bc:=sGe hg
             have af:=sNl μ hg
             have al:=sNg μ hg
             have ae:=sNl η hg
             have am:=sNg η hg
             have an:=sNl ν hg
             have ao:=sNg ν hg
             replace aw:=sRb aw hb
             replace au:=sRb au hb
             replace μ :=sBk μ hb
             replace η :=sBk η hb
             replace ν :=sBk ν hb
             replace HB:=sHb hb
             clear hb hbox hg
             refine hK.out _ _ ⟨qc η,qc η⟩ (fun hHeld=>?_)
             clear hK K
             refine qN (some 11) ?_
             exact Zx (by first|(simp only[Zb,Act.put,qS];done)|(simp only[Zb,Act.put,qS];rfl)) (gs (b4,b8,a0) _ ⟨hHeld,aw.out,au.out,μ.out,η.out,ν.out,ψ.out,bb.out,bc.out,af.out,al.out,ae.out,am.out,an.out,ao.out,HB.out⟩)
          ·skip
           rintro⟨b4,cd⟩ bm ⟨hS_,bf,bg,bh,bi,bj⟩
           have L:Aside0 (Kd.R k36 36 bm w.heap.size (fun _=>True) cd b3):=⟨bf⟩
           have O:Aside0 (bm.heap[ac]?=some (.cells #[.int .i64 J,.int .i64 B,.int .i64 Y,.int .i64 Z,.int .i64 γ,.int .i64 ζ,.int .i64 ε,.int .i64 κ,.int .i64 ι,.int .i64 θ] 25 (0,0))):=⟨bg⟩
           have X:Aside0 (bm.heap[χ]?=some (.cells #[.slice a8 a4.length a9,.slice aa a3.length ab] 50 (0,0))):=⟨bh⟩
           have δ :Aside0 (bm.heap[ap]?=some (.cells #[.slice none 0 0,.slice none 0 0] 50 (0,0))):=⟨bi⟩
           have ξ :Aside0 (Below w.heap.size w bm):=⟨bj⟩
           clear μ
           clear η
           clear ν
           clear HB
           clear bf bg bh bi bj
           have b0:=L
           have μ :=O
           have η :=X
           have ν := δ
           have HB:= ξ
           clear L O X δ ξ
           have hHeld:bm.cell? ⟨χ,0,none⟩=some (.slice a8 a4.length a9)∧bm.cell? ⟨χ,1,none⟩=some (.slice aa a3.length ab):=hS_
           refine Zx (a':=?_) ?_ ?_
           rotate_left
           ·simp only[Zb,Act.put,qS]
            rfl
           refine Vz (i:=4) (j:=9) (Ni:=some 28) (Nj:=some 11) (bN 11 127) (bN 11 623) rfl rfl rfl rfl (Ja HT_.out kr) (by decide) (by decide) (fun K hK=>?_) (fun K hK=>?_)
           ·skip
            refine Kd.Xc k86 _ 86 ?hg (N:=28) ?hd (xs:=([]:List (S86))) (inner:=[]) (ok:=fun _=>True) (okp:=fun _=>True) ?hr ?hp (fun _ hk=>hk) trivial (Below.refl _ _) (Nat.le_refl _) (by simp) ?_;(case hd=>rfl);(case hg=>rfl);(case hr=>go_simp <;> rfl);(case hp=>exact(Reps.none _ _))
            intro b8 bl cx hb hg_ hnew_
            clear hg_ hnew_
            (first|rw[← db.out] at cx|(simp only[Int.reduceToNat] at cx;rw[← db.out] at cx))
            have au:=Aside0.mk (Kd.Zg cx (Qi HB.out))
            replace b0:=sRb b0 hb
            replace μ :=sBk μ hb
            replace η :=sBk η hb
            replace ν :=sBk ν hb
            replace HB:=sHb hb
            clear hb cx
            refine hK.out _ _ ⟨qc η,qc η⟩ (fun hHeld=>?_)
            clear hK K
            refine qN (some 28) ?_
            exact Zx (by first|(simp only[Zb,Act.put,qS];done)|(simp only[Zb,Act.put,qS];rfl)) (iv (b4,cd,b8) _ ⟨hHeld,b0.out,au.out,μ.out,η.out,ν.out,HB.out⟩)
           ·skip
            refine Xv ?hg (N:=11) ?hd (cs:=#[.slice none 0 0,.slice none 0 0]) (t:=50) ?hr ?_;(case hd=>rfl);(case hg=>rfl);(case hr=>go_simp <;> rfl)
            intro a0 hg bl hbox hb
            have ψ :=Aside0.mk hbox
            have bb:=sGe hg
            have bc:=sGe hg
            have af:=sNl μ hg
            have al:=sNg μ hg
            have ae:=sNl η hg
            have am:=sNg η hg
            have an:=sNl ν hg
            have ao:=sNg ν hg
            replace b0:=sRb b0 hb
            replace μ :=sBk μ hb
            replace η :=sBk η hb
            replace ν :=sBk ν hb
            replace HB:=sHb hb
            clear hb hbox hg
            refine hK.out _ _ ⟨qc η,qc η⟩ (fun hHeld=>?_)
            clear hK K
            refine qN (some 11) ?_
            exact Zx (by first|(simp only[Zb,Act.put,qS];done)|(simp only[Zb,Act.put,qS];rfl)) (iw (b4,cd,a0) _ ⟨hHeld,b0.out,μ.out,η.out,ν.out,ψ.out,bb.out,bc.out,af.out,al.out,ae.out,am.out,an.out,ao.out,HB.out⟩)
         ·skip
          rintro⟨b4,b8,a0⟩ cf ⟨hS_,bf,bg,bh,bi,bj,bw,cr,ct,cu,cv,bz,ca,cb,co,et⟩
          have L:Aside0 (Kd.R k36 36 cf w.heap.size (fun _=>True) b4 bs):=⟨bf⟩
          have O:Aside0 (Kd.R k86 86 cf w.heap.size (fun _=>True) b8 bd):=⟨bg⟩
          have X:Aside0 (cf.heap[ac]?=some (.cells #[.int .i64 J,.int .i64 B,.int .i64 Y,.int .i64 Z,.int .i64 γ,.int .i64 ζ,.int .i64 ε,.int .i64 κ,.int .i64 ι,.int .i64 θ] 25 (0,0))):=⟨bh⟩
          have δ :Aside0 (cf.heap[χ]?=some (.cells #[.slice a8 a4.length a9,.slice aa a3.length ab] 50 (0,0))):=⟨bi⟩
          have ξ :Aside0 (cf.heap[ap]?=some (.cells #[.slice none 0 0,.slice none 0 0] 50 (0,0))):=⟨bj⟩
          have φ :Aside0 (cf.heap[a0]?=some (.cells #[.slice none 0 0,.slice none 0 0] 50 (0,0))):=⟨bw⟩
          have ω :Aside0 (w.heap.size≤a0):=⟨cr⟩
          have a6:Aside0 (w.heap.size≤a0):=⟨ct⟩
          have a7:Aside0 (ac≠a0):=⟨cu⟩
          have ag:Aside0 (a0≠ac):=⟨cv⟩
          have ah:Aside0 (χ ≠ a0):=⟨bz⟩
          have ai:Aside0 (a0 ≠ χ):=⟨ca⟩
          have aj:Aside0 (ap≠a0):=⟨cb⟩
          have ay:Aside0 (a0≠ap):=⟨co⟩
          have b1:Aside0 (Below w.heap.size w cf):=⟨et⟩
          clear μ
          clear η
          clear ν
          clear HB
          clear bf bg bh bi bj bw cr ct cu cv bz ca cb co et
          have aw:=L
          have au:=O
          have μ :=X
          have η := δ
          have ν := ξ
          have ψ := φ
          have bb:= ω
          have bc:=a6
          have af:=a7
          have al:=ag
          have ae:=ah
          have am:=ai
          have an:=aj
          have ao:=ay
          have HB:=b1
          clear L O X δ ξ φ ω a6 a7 ag ah ai aj ay b1
          have hHeld:cf.cell? ⟨χ,0,none⟩=some (.slice a8 a4.length a9)∧cf.cell? ⟨χ,1,none⟩=some (.slice aa a3.length ab):=hS_
          refine Zx (a':=?_) ?_ ?_
          rotate_left
          ·simp only[Zb,Act.put,qS]
           rfl
          refine Zn (i:=3) (N:=some 27) (bN 11 639) rfl rfl (Zc HT_.out kr) (by decide) (fun K hK=>?_)
          refine Kd.Z7 k36 (w0:=w) w.heap.size (by rfl) (.tmp 24) (.tmp 26) 47 36 (.agg #[(.int .i64 0),(.int .i64 0),(.int .i64 0)]) 24 rfl Try.underlying47 Ga rfl (by decide) (by omega) b4 bs a4 _ _ _ (fun _=>True) (fun _=>False) rfl rfl ?aO ?aR (fun _ _ h=>h) (fun _ h=>h.elim) ?aF ?aB ?aS ?aL ?_
          (case aR=>exact(Kd.Q0 br.out HB.out))
          (case aB=>exact HB.out)
          (case aF=>exact(fun _ _=>trivial))
          (case aO=>exact aw.out)
          (case aS=>exact(Qi HB.out))
          (case aL=>have:=j9.out;omega)
          intro cd en ho hb hg hat
          rw[← hl.out] at ho
          have b0:=Aside0.mk ho
          replace μ :=Aside0.mk (Q8 (g:=ac) (o:=.cells #[.int .i64 J,.int .i64 B,.int .i64 Y,.int .i64 Z,.int .i64 γ,.int .i64 ζ,.int .i64 ε,.int .i64 κ,.int .i64 ι,.int .i64 θ] 25 (0,0)) μ.out hg (Kd.Xg aw.out μ.out (by decide)))
          replace η :=Aside0.mk (Q8 (g:= χ) (o:=.cells #[.slice a8 a4.length a9,.slice aa a3.length ab] 50 (0,0)) η.out hg (Kd.Xg aw.out η.out (by decide)))
          replace ν :=Aside0.mk (Q8 (g:=ap) (o:=.cells #[.slice none 0 0,.slice none 0 0] 50 (0,0)) ν.out hg (Kd.Xg aw.out ν.out (by decide)))
          replace au:=Aside0.mk (Kd.Kh au.out (Kd.Kg aw.out) (by decide) hg)
          replace ψ :=Aside0.mk (Q8 (g:=a0) (o:=.cells #[.slice none 0 0,.slice none 0 0] 50 (0,0)) ψ.out hg (Kd.Xg aw.out ψ.out (by decide)))
          replace HB:=Aside0.mk hb
          clear aw
          clear ho hb hg hat
          refine hK.out _ _ ⟨qc η,qc η⟩ (fun hHeld=>?_)
          clear hK K
          refine qN (some 27) ?_
          exact Zx (by first|(simp only[Zb,Act.put,qS];done)|(simp only[Zb,Act.put,qS];rfl)) (fm (b4,cd,b8,a0) _ ⟨hHeld,b0.out,au.out,μ.out,η.out,ν.out,ψ.out,bb.out,bc.out,af.out,al.out,ae.out,am.out,an.out,ao.out,HB.out⟩)
        ·skip
         rintro⟨b4,cd,a0⟩ bl ⟨hS_,bf,bg,bh,bi,bj,bw,cr,ct,cu,cv,bz,ca,cb,co⟩
         have L:Aside0 (Kd.R k36 36 bl w.heap.size (fun _=>True) cd b3):=⟨bf⟩
         have O:Aside0 (bl.heap[ac]?=some (.cells #[.int .i64 J,.int .i64 B,.int .i64 Y,.int .i64 Z,.int .i64 γ,.int .i64 ζ,.int .i64 ε,.int .i64 κ,.int .i64 ι,.int .i64 θ] 25 (0,0))):=⟨bg⟩
         have X:Aside0 (bl.heap[χ]?=some (.cells #[.slice a8 a4.length a9,.slice aa a3.length ab] 50 (0,0))):=⟨bh⟩
         have δ :Aside0 (bl.heap[ap]?=some (.cells #[.slice none 0 0,.slice none 0 0] 50 (0,0))):=⟨bi⟩
         have ξ :Aside0 (bl.heap[a0]?=some (.cells #[.slice none 0 0,.slice none 0 0] 50 (0,0))):=⟨bj⟩
         have φ :Aside0 (w.heap.size≤a0):=⟨bw⟩
         have ω :Aside0 (w.heap.size≤a0):=⟨cr⟩
         have a6:Aside0 (ac≠a0):=⟨ct⟩
         have a7:Aside0 (a0≠ac):=⟨cu⟩
         have ag:Aside0 (χ ≠ a0):=⟨cv⟩
         have ah:Aside0 (a0 ≠ χ):=⟨bz⟩
         have ai:Aside0 (ap≠a0):=⟨ca⟩
         have aj:Aside0 (a0≠ap):=⟨cb⟩
         have ay:Aside0 (Below w.heap.size w bl):=⟨co⟩
         clear μ
         clear η
         clear ν
         clear HB
         clear bf bg bh bi bj bw cr ct cu cv bz ca cb co
         have b0:=L
         have μ :=O
         have η :=X
         have ν := δ
         have ψ := ξ
         have bb:= φ
         have bc:= ω
         have af:=a6
         have al:=a7
         have ae:=ag
         have am:=ah
         have an:=ai
         have ao:=aj
         have HB:=ay
         clear L O X δ ξ φ ω a6 a7 ag ah ai aj ay
         have hHeld:bl.cell? ⟨χ,0,none⟩=some (.slice a8 a4.length a9)∧bl.cell? ⟨χ,1,none⟩=some (.slice aa a3.length ab):=hS_
         refine Zx (a':=?_) ?_ ?_
         rotate_left
         ·simp only[Zb,Act.put,qS]
          rfl
         refine Zn (i:=4) (N:=some 28) (bN 11 639) rfl rfl (Zc HT_.out kr) (by decide) (fun K hK=>?_)
         refine Kd.Xc k86 _ 86 ?hg (N:=28) ?hd (xs:=([]:List (S86))) (inner:=[]) (ok:=fun _=>True) (okp:=fun _=>True) ?hr ?hp (fun _ hk=>hk) trivial (Below.refl _ _) (Nat.le_refl _) (by simp) ?_;(case hd=>rfl);(case hg=>rfl);(case hr=>go_simp <;> rfl);(case hp=>exact(Reps.none _ _))
         intro b8 cf i4 hb hg_ hnew_
         clear hg_ hnew_
         (first|rw[← db.out] at i4|(simp only[Int.reduceToNat] at i4;rw[← db.out] at i4))
         have au:=Aside0.mk (Kd.Zg i4 (Qi HB.out))
         replace b0:=sRb b0 hb
         replace μ :=sBk μ hb
         replace η :=sBk η hb
         replace ν :=sBk ν hb
         replace ψ :=sBk ψ hb
         replace HB:=sHb hb
         clear hb i4
         refine hK.out _ _ ⟨qc η,qc η⟩ (fun hHeld=>?_)
         clear hK K
         refine qN (some 28) ?_
         exact Zx (by first|(simp only[Zb,Act.put,qS];done)|(simp only[Zb,Act.put,qS];rfl)) (fm (b4,cd,b8,a0) _ ⟨hHeld,b0.out,au.out,μ.out,η.out,ν.out,ψ.out,bb.out,bc.out,af.out,al.out,ae.out,am.out,an.out,ao.out,HB.out⟩)
       ·skip
        rintro⟨b4,cd,b8⟩ cf ⟨hS_,bf,bg,bh,bi,bj,bw⟩
        have L:Aside0 (Kd.R k36 36 cf w.heap.size (fun _=>True) cd b3):=⟨bf⟩
        have O:Aside0 (Kd.R k86 86 cf w.heap.size (fun _=>True) b8 bd):=⟨bg⟩
        have X:Aside0 (cf.heap[ac]?=some (.cells #[.int .i64 J,.int .i64 B,.int .i64 Y,.int .i64 Z,.int .i64 γ,.int .i64 ζ,.int .i64 ε,.int .i64 κ,.int .i64 ι,.int .i64 θ] 25 (0,0))):=⟨bh⟩
        have δ :Aside0 (cf.heap[χ]?=some (.cells #[.slice a8 a4.length a9,.slice aa a3.length ab] 50 (0,0))):=⟨bi⟩
        have ξ :Aside0 (cf.heap[ap]?=some (.cells #[.slice none 0 0,.slice none 0 0] 50 (0,0))):=⟨bj⟩
        have φ :Aside0 (Below w.heap.size w cf):=⟨bw⟩
        clear μ
        clear η
        clear ν
        clear HB
        clear bf bg bh bi bj bw
        have b0:=L
        have au:=O
        have μ :=X
        have η := δ
        have ν := ξ
        have HB:= φ
        clear L O X δ ξ φ
        have hHeld:cf.cell? ⟨χ,0,none⟩=some (.slice a8 a4.length a9)∧cf.cell? ⟨χ,1,none⟩=some (.slice aa a3.length ab):=hS_
        refine Zx (a':=?_) ?_ ?_
        rotate_left
        ·simp only[Zb,Act.put,qS]
         rfl
        refine Vz (i:=7) (j:=9) (Ni:=some 31) (Nj:=some 11) (bN 11 255) (bN 11 639) rfl rfl rfl rfl (Ja HT_.out kr) (by decide) (by decide) (fun K hK=>?_) (fun K hK=>?_)
        ·skip
         refine Kd.Z7 k86 (w0:=w) w.heap.size (by rfl) (.tmp 28) (.tmp 30) 48 86 (.agg #[(.int .i64 0),(.int .i64 0)]) 16 rfl Try.underlying48 K9 rfl (by decide) (by omega) b8 bd a3 _ _ _ (fun _=>True) (fun _=>False) rfl rfl ?aO ?aR (fun _ _ h=>h) (fun _ h=>h.elim) ?aF ?aB ?aS ?aL ?_
         (case aR=>exact(Kd.Q0 ce.out HB.out))
         (case aB=>exact HB.out)
         (case aF=>exact(fun _ _=>trivial))
         (case aO=>exact au.out)
         (case aS=>exact(Qi HB.out))
         (case aL=>have:=m2.out;omega)
         intro i5 en ho hb hg hat
         rw[← kx.out] at ho
         have d8:=Aside0.mk ho
         replace μ :=Aside0.mk (Q8 (g:=ac) (o:=.cells #[.int .i64 J,.int .i64 B,.int .i64 Y,.int .i64 Z,.int .i64 γ,.int .i64 ζ,.int .i64 ε,.int .i64 κ,.int .i64 ι,.int .i64 θ] 25 (0,0)) μ.out hg (Kd.Xg au.out μ.out (by decide)))
         replace η :=Aside0.mk (Q8 (g:= χ) (o:=.cells #[.slice a8 a4.length a9,.slice aa a3.length ab] 50 (0,0)) η.out hg (Kd.Xg au.out η.out (by decide)))
         replace ν :=Aside0.mk (Q8 (g:=ap) (o:=.cells #[.slice none 0 0,.slice none 0 0] 50 (0,0)) ν.out hg (Kd.Xg au.out ν.out (by decide)))
         replace b0:=Aside0.mk (Kd.Kh b0.out (Kd.Kg au.out) (by decide) hg)
         replace HB:=Aside0.mk hb
         clear au
         clear ho hb hg hat
         obtain⟨nx,ny,m3⟩:=Kd.Ze d8.out
         (first|subst m3|(injection m3 with b5 bo b6;have bp:=b5.symm;have bq:=b6.symm;clear b5 bo b6;subst bp;subst bq))
         obtain⟨ka,kb,i6⟩:=Kd.Ze b0.out
         (first|subst i6|(injection i6 with b5 bo b6;have bp:=b5.symm;have bq:=b6.symm;clear b5 bo b6;subst bp;subst bq))
         refine hK.out _ _ ⟨qc η,qc η⟩ (fun hHeld=>?_)
         clear hK K
         refine qN (some 31) ?_
         refine qP 8 (some 32) (bN 11 511) HT_ ?_
         exact Zx (by first|(simp only[Zb,Act.put,qS];done)|(simp only[Zb,Act.put,qS];rfl)) (je (b4,.slice ka b3.length kb,b8,.slice nx be.length ny) _ ⟨hHeld,b0.out,d8.out,μ.out,η.out,ν.out,HB.out⟩)
        ·skip
         refine Xv ?hg (N:=11) ?hd (cs:=#[.slice none 0 0,.slice none 0 0]) (t:=50) ?hr ?_;(case hd=>rfl);(case hg=>rfl);(case hr=>go_simp <;> rfl)
         intro a0 hg en hbox hb
         have ψ :=Aside0.mk hbox
         have bb:=sGe hg
         have bc:=sGe hg
         have af:=sNl μ hg
         have al:=sNg μ hg
         have ae:=sNl η hg
         have am:=sNg η hg
         have an:=sNl ν hg
         have ao:=sNg ν hg
         replace b0:=sRb b0 hb
         replace au:=sRb au hb
         replace μ :=sBk μ hb
         replace η :=sBk η hb
         replace ν :=sBk ν hb
         replace HB:=sHb hb
         clear hb hbox hg
         refine hK.out _ _ ⟨qc η,qc η⟩ (fun hHeld=>?_)
         clear hK K
         refine qN (some 11) ?_
         exact Zx (by first|(simp only[Zb,Act.put,qS];done)|(simp only[Zb,Act.put,qS];rfl)) (fm (b4,cd,b8,a0) _ ⟨hHeld,b0.out,au.out,μ.out,η.out,ν.out,ψ.out,bb.out,bc.out,af.out,al.out,ae.out,am.out,an.out,ao.out,HB.out⟩)
      ·skip
       rintro⟨b4,cd,b8,a0⟩ en ⟨hS_,bf,bg,bh,bi,bj,bw,cr,ct,cu,cv,bz,ca,cb,co,et⟩
       have L:Aside0 (Kd.R k36 36 en w.heap.size (fun _=>True) cd b3):=⟨bf⟩
       have O:Aside0 (Kd.R k86 86 en w.heap.size (fun _=>True) b8 bd):=⟨bg⟩
       have X:Aside0 (en.heap[ac]?=some (.cells #[.int .i64 J,.int .i64 B,.int .i64 Y,.int .i64 Z,.int .i64 γ,.int .i64 ζ,.int .i64 ε,.int .i64 κ,.int .i64 ι,.int .i64 θ] 25 (0,0))):=⟨bh⟩
       have δ :Aside0 (en.heap[χ]?=some (.cells #[.slice a8 a4.length a9,.slice aa a3.length ab] 50 (0,0))):=⟨bi⟩
       have ξ :Aside0 (en.heap[ap]?=some (.cells #[.slice none 0 0,.slice none 0 0] 50 (0,0))):=⟨bj⟩
       have φ :Aside0 (en.heap[a0]?=some (.cells #[.slice none 0 0,.slice none 0 0] 50 (0,0))):=⟨bw⟩
       have ω :Aside0 (w.heap.size≤a0):=⟨cr⟩
       have a6:Aside0 (w.heap.size≤a0):=⟨ct⟩
       have a7:Aside0 (ac≠a0):=⟨cu⟩
       have ag:Aside0 (a0≠ac):=⟨cv⟩
       have ah:Aside0 (χ ≠ a0):=⟨bz⟩
       have ai:Aside0 (a0 ≠ χ):=⟨ca⟩
       have aj:Aside0 (ap≠a0):=⟨cb⟩
       have ay:Aside0 (a0≠ap):=⟨co⟩
       have b1:Aside0 (Below w.heap.size w en):=⟨et⟩
       clear μ
       clear η
       clear ν
       clear HB
       clear bf bg bh bi bj bw cr ct cu cv bz ca cb co et
       have b0:=L
       have au:=O
       have μ :=X
       have η := δ
       have ν := ξ
       have ψ := φ
       have bb:= ω
       have bc:=a6
       have af:=a7
       have al:=ag
       have ae:=ah
       have am:=ai
       have an:=aj
       have ao:=ay
       have HB:=b1
       clear L O X δ ξ φ ω a6 a7 ag ah ai aj ay b1
       have hHeld:en.cell? ⟨χ,0,none⟩=some (.slice a8 a4.length a9)∧en.cell? ⟨χ,1,none⟩=some (.slice aa a3.length ab):=hS_
       refine Zx (a':=?_) ?_ ?_
       rotate_left
       ·simp only[Zb,Act.put,qS]
        rfl
       refine Zn (i:=7) (N:=some 31) (bN 11 767) rfl rfl (Zc HT_.out kr) (by decide) (fun K hK=>?_)
       refine Kd.Z7 k86 (w0:=w) w.heap.size (by rfl) (.tmp 28) (.tmp 30) 48 86 (.agg #[(.int .i64 0),(.int .i64 0)]) 16 rfl Try.underlying48 K9 rfl (by decide) (by omega) b8 bd a3 _ _ _ (fun _=>True) (fun _=>False) rfl rfl ?aO ?aR (fun _ _ h=>h) (fun _ h=>h.elim) ?aF ?aB ?aS ?aL ?_
       (case aR=>exact(Kd.Q0 ce.out HB.out))
       (case aB=>exact HB.out)
       (case aF=>exact(fun _ _=>trivial))
       (case aO=>exact au.out)
       (case aS=>exact(Qi HB.out))
       (case aL=>have:=m2.out;omega)
       intro i5 i2 ho hb hg hat
       rw[← kx.out] at ho
       have d8:=Aside0.mk ho
       replace μ :=Aside0.mk (Q8 (g:=ac) (o:=.cells #[.int .i64 J,.int .i64 B,.int .i64 Y,.int .i64 Z,.int .i64 γ,.int .i64 ζ,.int .i64 ε,.int .i64 κ,.int .i64 ι,.int .i64 θ] 25 (0,0)) μ.out hg (Kd.Xg au.out μ.out (by decide)))
       replace η :=Aside0.mk (Q8 (g:= χ) (o:=.cells #[.slice a8 a4.length a9,.slice aa a3.length ab] 50 (0,0)) η.out hg (Kd.Xg au.out η.out (by decide)))
       replace ν :=Aside0.mk (Q8 (g:=ap) (o:=.cells #[.slice none 0 0,.slice none 0 0] 50 (0,0)) ν.out hg (Kd.Xg au.out ν.out (by decide)))
       replace b0:=Aside0.mk (Kd.Kh b0.out (Kd.Kg au.out) (by decide) hg)
       replace ψ :=Aside0.mk (Q8 (g:=a0) (o:=.cells #[.slice none 0 0,.slice none 0 0] 50 (0,0)) ψ.out hg (Kd.Xg au.out ψ.out (by decide)))
       replace HB:=Aside0.mk hb
       clear au
       clear ho hb hg hat
       obtain⟨ka,kb,i6⟩:=Kd.Ze d8.out
       (first|subst i6|(injection i6 with b5 bo b6;have bp:=b5.symm;have bq:=b6.symm;clear b5 bo b6;subst bp;subst bq))
       obtain⟨kc,kd,i7⟩:=Kd.Ze b0.out
       (first|subst i7|(injection i7 with b5 bo b6;have bp:=b5.symm;have bq:=b6.symm;clear b5 bo b6;subst bp;subst bq))
       refine hK.out _ _ ⟨qc η,qc η⟩ (fun hHeld=>?_)
       clear hK K
       refine qN (some 31) ?_
       refine qP 8 (some 32) (bN 11 1023) HT_ ?_
       exact Zx (by first|(simp only[Zb,Act.put,qS];done)|(simp only[Zb,Act.put,qS];rfl)) (g8 (b4,.slice kc b3.length kd,b8,.slice ka be.length kb,a0) _ ⟨hHeld,b0.out,d8.out,μ.out,η.out,ν.out,ψ.out,bb.out,bc.out,af.out,al.out,ae.out,am.out,an.out,ao.out,HB.out⟩)
     ·skip
      rintro⟨b4,cd,b8,i5⟩ dn ⟨hS_,bf,bg,bh,bi,bj,bw⟩
      have L:Aside0 (Kd.R k36 36 dn w.heap.size (fun _=>True) cd b3):=⟨bf⟩
      have O:Aside0 (Kd.R k86 86 dn w.heap.size (fun _=>True) i5 be):=⟨bg⟩
      have X:Aside0 (dn.heap[ac]?=some (.cells #[.int .i64 J,.int .i64 B,.int .i64 Y,.int .i64 Z,.int .i64 γ,.int .i64 ζ,.int .i64 ε,.int .i64 κ,.int .i64 ι,.int .i64 θ] 25 (0,0))):=⟨bh⟩
      have δ :Aside0 (dn.heap[χ]?=some (.cells #[.slice a8 a4.length a9,.slice aa a3.length ab] 50 (0,0))):=⟨bi⟩
      have ξ :Aside0 (dn.heap[ap]?=some (.cells #[.slice none 0 0,.slice none 0 0] 50 (0,0))):=⟨bj⟩
      have φ :Aside0 (Below w.heap.size w dn):=⟨bw⟩
      clear μ
      clear η
      clear ν
      clear HB
      clear bf bg bh bi bj bw
      have b0:=L
      have d8:=O
      have μ :=X
      have η := δ
      have ν := ξ
      have HB:= φ
      clear L O X δ ξ φ
      have hHeld:dn.cell? ⟨χ,0,none⟩=some (.slice a8 a4.length a9)∧dn.cell? ⟨χ,1,none⟩=some (.slice aa a3.length ab):=hS_
      obtain⟨kc,kd,i7⟩:=Kd.Ze d8.out
      (first|subst i7|(injection i7 with b5 bo b6;have bp:=b5.symm;have bq:=b6.symm;clear b5 bo b6;subst bp;subst bq))
      obtain⟨b9,b7,g9⟩:=Kd.Ze b0.out
      (first|subst g9|(injection g9 with b5 bo b6;have bp:=b5.symm;have bq:=b6.symm;clear b5 bo b6;subst bp;subst bq))
      refine Zx (a':=?_) ?_ ?_
      rotate_left
      ·simp only[Zb,Act.put,qS]
       rfl
      refine Zn (i:=9) (N:=some 11) (bN 11 1023) rfl rfl (Zc HT_.out kr) (by decide) (fun K hK=>?_)
      refine Xv ?hg (N:=11) ?hd (cs:=#[.slice none 0 0,.slice none 0 0]) (t:=50) ?hr ?_;(case hd=>rfl);(case hg=>rfl);(case hr=>go_simp <;> rfl)
      intro a0 hg ep hbox hb
      have ψ :=Aside0.mk hbox
      have bb:=sGe hg
      have bc:=sGe hg
      have af:=sNl μ hg
      have al:=sNg μ hg
      have ae:=sNl η hg
      have am:=sNg η hg
      have an:=sNl ν hg
      have ao:=sNg ν hg
      replace b0:=sRb b0 hb
      replace d8:=sRb d8 hb
      replace μ :=sBk μ hb
      replace η :=sBk η hb
      replace ν :=sBk ν hb
      replace HB:=sHb hb
      clear hb hbox hg
      refine hK.out _ _ ⟨qc η,qc η⟩ (fun hHeld=>?_)
      clear hK K
      refine qN (some 11) ?_
      exact Zx (by first|(simp only[Zb,Act.put,qS];done)|(simp only[Zb,Act.put,qS];rfl)) (g8 (b4,.slice b9 b3.length b7,b8,.slice kc be.length kd,a0) _ ⟨hHeld,b0.out,d8.out,μ.out,η.out,ν.out,ψ.out,bb.out,bc.out,af.out,al.out,ae.out,am.out,an.out,ao.out,HB.out⟩)
    rintro⟨b4,cd,b8,i5,a0⟩ eh ⟨hS_,bf,bg,bh,bi,bj,bw,cr,ct,cu,cv,bz,ca,cb,co,et⟩
    have L:Aside0 (Kd.R k36 36 eh w.heap.size (fun _=>True) cd b3):=⟨bf⟩
    have O:Aside0 (Kd.R k86 86 eh w.heap.size (fun _=>True) i5 be):=⟨bg⟩
    have X:Aside0 (eh.heap[ac]?=some (.cells #[.int .i64 J,.int .i64 B,.int .i64 Y,.int .i64 Z,.int .i64 γ,.int .i64 ζ,.int .i64 ε,.int .i64 κ,.int .i64 ι,.int .i64 θ] 25 (0,0))):=⟨bh⟩
    have δ :Aside0 (eh.heap[χ]?=some (.cells #[.slice a8 a4.length a9,.slice aa a3.length ab] 50 (0,0))):=⟨bi⟩
    have ξ :Aside0 (eh.heap[ap]?=some (.cells #[.slice none 0 0,.slice none 0 0] 50 (0,0))):=⟨bj⟩
    have φ :Aside0 (eh.heap[a0]?=some (.cells #[.slice none 0 0,.slice none 0 0] 50 (0,0))):=⟨bw⟩
    have ω :Aside0 (w.heap.size≤a0):=⟨cr⟩
    have a6:Aside0 (w.heap.size≤a0):=⟨ct⟩
    have a7:Aside0 (ac≠a0):=⟨cu⟩
    have ag:Aside0 (a0≠ac):=⟨cv⟩
    have ah:Aside0 (χ ≠ a0):=⟨bz⟩
    have ai:Aside0 (a0 ≠ χ):=⟨ca⟩
    have aj:Aside0 (ap≠a0):=⟨cb⟩
    have ay:Aside0 (a0≠ap):=⟨co⟩
    have b1:Aside0 (Below w.heap.size w eh):=⟨et⟩
    clear μ
    clear η
    clear ν
    clear HB
    clear bf bg bh bi bj bw cr ct cu cv bz ca cb co et
    have b0:=L
    have d8:=O
    have μ :=X
    have η := δ
    have ν := ξ
    have ψ := φ
    have bb:= ω
    have bc:=a6
    have af:=a7
    have al:=ag
    have ae:=ah
    have am:=ai
    have an:=aj
    have ao:=ay
    have HB:=b1
    clear L O X δ ξ φ ω a6 a7 ag ah ai aj ay b1
    have hHeld:eh.cell? ⟨χ,0,none⟩=some (.slice a8 a4.length a9)∧eh.cell? ⟨χ,1,none⟩=some (.slice aa a3.length ab):=hS_
    obtain⟨b9,b7,g9⟩:=Kd.Ze d8.out
    (first|subst g9|(injection g9 with b5 bo b6;have bp:=b5.symm;have bq:=b6.symm;clear b5 bo b6;subst bp;subst bq))
    obtain⟨ke,kf,m4⟩:=Kd.Ze b0.out
    (first|subst m4|(injection m4 with b5 bo b6;have bp:=b5.symm;have bq:=b6.symm;clear b5 bo b6;subst bp;subst bq))
    refine Zx (a':=?_) ?_ ?_
    rotate_left
    ·simp only[Zb,Act.put,qS]
     rfl
    refine Zn (i:=10) (N:=none) (bN 11 2047) rfl rfl (Zc HT_.out kr) (by decide) (fun K hK=>?_)
    have sx:eh.cell? ⟨a0,0,none⟩=some (.slice none 0 0):=(Qk ψ.out 0).trans rfl
    have s4:=Qz ψ.out 0
    have pt:=af.out
    have pu:=ae.out
    have pv:=an.out
    have pw:=al.out
    have px:=am.out
    have py:=ao.out
    have sy:eh.cell? ⟨a0,1,none⟩=some (.slice none 0 0):=(Qk ψ.out 1).trans rfl
    have s5:=Qz ψ.out 1
    have pz:=af.out
    have q0:=ae.out
    have q1:=an.out
    have q3:=al.out
    have q5:=am.out
    have q6:=ao.out
    refine V2 (w1:=?_) (by rfl) rfl ?_ ?_
    rotate_left
    ·go_simp
     rfl
    refine hK.out _ _ ⟨((cell_far (p:=⟨a0,_,none⟩) ae.out _).trans (((cell_far (p:=⟨a0,_,none⟩) ae.out _).trans (hHeld.1)))),((cell_far (p:=⟨a0,_,none⟩) ae.out _).trans (((cell_far (p:=⟨a0,_,none⟩) ae.out _).trans (hHeld.2))))⟩ (fun hHeld=>?_)
    clear hK K
    refine Xd (Zu HT_.out kr) ?_
    have kj:=al.out
    have kk:=af.out
    have kv:=am.out
    have kw:=ae.out
    have kl:=ao.out
    have km:=an.out
    obtain⟨fy,fz,g0,g1⟩:=qD2 ψ.out
    try go_wp2
    go_loopg [36] k (fun kq qm w'=>∃ (a5:Int) (τ :List (S36)) (d9:Value),qm = .int .i64 a5∧Aside0 (group_Spread.l0 kq l1 a2 (b3.length:Int) a5 J B Y Z γ ζ ε κ ι θ τ be=some (r1,r2,r3))∧Aside0 (kq≤k)∧Aside0 (Kd.R k36 36 w' w.heap.size (fun _=>True) d9 τ)∧Aside0 (Kd.R k86 86 w' w.heap.size (fun _=>True) (.slice b9 be.length b7) be)∧Aside0 (w'.heap[ac]?=some (.cells #[.int .i64 J,.int .i64 B,.int .i64 Y,.int .i64 Z,.int .i64 γ,.int .i64 ζ,.int .i64 ε,.int .i64 κ,.int .i64 ι,.int .i64 θ] 25 (0,0)))∧Aside0 (w'.heap[χ]?=some (.cells #[(.slice a8 a4.length a9),(.slice aa a3.length ab)] 50 (0,0)))∧Aside0 (w'.heap[ap]?=some (.cells #[(.slice none 0 0),(.slice none 0 0)] 50 (0,0)))∧Aside0 (w'.heap[a0]?=some (.cells #[d9,(.slice b9 be.length b7)] 50 (0,0)))∧Aside0 (Below w.heap.size w w')∧Aside0 (d9=(.slice ke b3.length kf)))
    case atStart=>exact⟨(0),(b3),(.slice ke b3.length kf),qR,H',⟨Nat.le_refl _⟩,⟨by(with_reducible repeat first|apply Kd.Qx|apply Kd.Qw|apply Kd.Qy);exact Kd.Q5 (Kd.Q1 (Kd.Q1 (Kd.Zd b0.out ψ.out (by decide)) (fun _ hk=>hk.2) _) (fun _ hk=>hk.2) _) (fun _ hk=>trivial)⟩,⟨by(with_reducible repeat first|apply Kd.Qx|apply Kd.Qw|apply Kd.Qy);exact Kd.Q5 (Kd.Q1 (Kd.Q1 (Kd.Zd d8.out ψ.out (by decide)) (fun _ hk=>hk.2) _) (fun _ hk=>hk.2) _) (fun _ hk=>trivial)⟩,⟨bka μ⟩,⟨bka η⟩,⟨bka ν⟩,⟨by(with_reducible repeat first|apply Qb|apply Qe|apply Qc);refine Qu (cs:=#[.slice ke b3.length kf,.slice none 0 0]) ?_ 1 _ rfl;(with_reducible repeat first|apply Qb|apply Qe|apply Qc);refine Qu (cs:=#[.slice none 0 0,.slice none 0 0]) ?_ 0 _ rfl;(with_reducible repeat first|apply Qb|apply Qe|apply Qc);exact ψ.out⟩,⟨bel⟩,⟨rfl⟩⟩
    case round=>
     clear H'
     try clear p2
     try clear c3
     try clear c7
     try clear c8
     try clear gu
     try clear gv
     try clear eo
     try clear fy
     try clear fz
     try clear g0
     try clear g1
     obtain⟨a5,τ,d9,rfl,HA,az,HO_242000,HO_242001,μ,η,ν,ψ,HB,gm⟩:=hrel
     cases gk with
     |zero=>exact absurd HA.out (by simp[group_Spread.l0])
     |succ k1=>
      have H:=HA.out
      clear HA
      simp only[group_Spread.l0] at H
      by_cases dh:a5<(b3.length:Int)
      ·rw[if_pos dh] at H
       have c37b0:decide (a5<(b3.length:Int))=true:=decide_eq_true dh
       clear dh
       by_cases er:0≤a5
       ·rw[if_pos er] at H
        have c38b0:decide (0≤a5)=true:=decide_eq_true er
        clear er
        by_cases g6:a5<(τ.length:Int)
        ·rw[if_pos g6] at H
         have c39b0:decide (a5<(τ.length:Int))=true:=decide_eq_true g6
         clear g6
         by_cases ei:((Ql τ a5).f2)≥0
         ·rw[if_pos ei] at H
          have c40b0:decide (0≤((Ql τ a5).f2))=true:=decide_eq_true ei
          clear ei
          by_cases i9:0≤((Ql τ a5).f2)
          ·rw[if_pos i9] at H
           have c41b0:=eq_true i9
           have c41b1:decide (0≤((Ql τ a5).f2))=true:=decide_eq_true i9
           clear i9
           obtain⟨fn,hu⟩:∃ j_:Int,(shr .i64 a2 ((Ql τ a5).f2))=j_:=⟨_,rfl⟩
           replace H:(if (Go.bits .and .i64 (fn) 1)=1 then (group_Spread.l0 k1 l1 a2 (b3.length:Int) (wrap64 (a5+1)) J B Y Z γ ζ ε κ ι θ (τ.set (a5:Int).toNat (⟨(Ql τ a5).f0,(Ql τ a5).f1,(-1)⟩:S36)) be) else (group_Spread.l0 k1 l1 a2 (b3.length:Int) (wrap64 (a5+1)) J B Y Z γ ζ ε κ ι θ τ be))=some (r1,r2,r3):=by first|(rw[hu] at H;exact H)|(simp only[hu] at H ⊢;exact H)
           have qn:(a2 / 2 ^ min ((Ql τ a5).f2).toNat 64)=fn:=hu
           have hji42z:((Ql τ a5).f2)≤64→(a2 / 2 ^ ((Ql τ a5).f2).toNat)=fn:=Gy hu
           by_cases gn:(Go.bits .and .i64 (fn) 1)=1
           ·rw[if_pos gn] at H
            have c43b0:((Go.bits .and .i64 (fn) 1)==1)=true:=beq_iff_eq.mpr gn
            have c43b1:((Go.bits .and .i64 (fn) 1) != 1)=false:=bne_eq_false_iff_eq.mpr gn
            clear gn
            obtain⟨kg,gp⟩:∃ y_:List (S36),y_=(τ.set (a5:Int).toNat (⟨(Ql τ a5).f0,(Ql τ a5).f1,(-1)⟩:S36)):=⟨_,rfl⟩
            replace H:(group_Spread.l0 k1 l1 a2 (b3.length:Int) (wrap64 (a5+1)) J B Y Z γ ζ ε κ ι θ kg be)=some (r1,r2,r3):=by first|(rw[gp];with_reducible exact H)|(have ax:=(Option.bind_some _ _).symm.trans H;rw[gp];with_reducible exact ax)|(have ax:=(Option.bind_some _ _).symm.trans H;with_reducible exact ax)|with_reducible exact H|(rw[gp];exact H)|exact H
            have nl:=Aside0.mk gp
            clear gp
            have H':=Aside0.mk H
            clear H
            have he:=al.out
            have hh:=af.out
            have gw:=am.out
            have hj:=ae.out
            have j4:=ao.out
            have j5:=an.out
            obtain⟨ec,ed,ee,ef⟩:=qD2 ψ.out
            obtain⟨t0,ga,nz⟩:=Kd.Ze HO_242000.out
            subst nz
            have ek:0≤(a5:Int):=of_decide_eq_true (by assumption)
            have el:a5<(τ.length:Int):=of_decide_eq_true (by assumption)
            obtain⟨g2,ia,g3,g4,g5⟩:=Xz (Kd.Q4 HO_242000.out).2.2 a5 ek el
            cases ia
            replace ek:=eq_true ek
            replace el:=eq_true el
            (try rewrite[← gm.out])
            go_wp2_with (first|((with_reducible refine Qr (N:=13) rfl ?_);refine qE 13 #[.int .i64 0,.int .i64 0,.int .i64 0] 36 ?_;intro ci hg qo hbox hb;have cq:=Aside0.mk hbox;have l3:=sGe hg;have l4:=sGe hg;have e5:=sNl μ hg;have e6:=sNg μ hg;have e7:=sNl η hg;have e8:=sNg η hg;have e9:=sNl ν hg;have ea:=sNg ν hg;have eb:=sNl ψ hg;have ej:=sNg ψ hg;replace HO_242000:=Aside0.mk (Kd.Za (Kd.Yn (kra HO_242000) ci (Nat.le_of_eq hg.symm)) hb);replace HO_242001:=sRb HO_242001 hb;replace μ :=sBk μ hb;replace η :=sBk η hb;replace ν :=sBk ν hb;replace ψ :=sBk ψ hb;replace HB:=sHb hb;clear hb hbox hg;have j6:=e6.out;have j7:=e5.out;have s6:=e8.out;have s7:=e7.out;have s8:=ea.out;have s9:=e9.out;have sa:=ej.out;have sb:=eb.out;obtain⟨gx,gy,jk,gz,h0,jl⟩:=qD3 cq.out)|((with_reducible refine Y3 (t:=36) (p:=13) rfl ?_);refine Yr (t:=36) (p:=13) (v:=?vo_w56) (w1:=(((qo.setCell ⟨ci,0,none⟩ (.int .i64 ((Ql τ a5).f0))).setCell ⟨ci,1,none⟩ (.int .i64 ((Ql τ a5).f1))).setCell ⟨ci,2,none⟩ (.int .i64 ((Ql τ a5).f2)))) ?hg ?ho ?hn ?hr ?_;(case ho=>rfl);(case hg=>rfl);(case hn=>rfl);(case hr=>go_simp <;> rfl);intro di hw;have L:Aside0 (Kd.R k36 36 di w.heap.size (fun k_=>k_≠ci) (.slice (some g2) τ.length ga) τ):=⟨(by rw[hw];exact(by(with_reducible repeat first|apply Kd.Qx|apply Kd.Qw|apply Kd.Qy);exact Kd.Q5 (Kd.Q1 (Kd.Q1 (Kd.Q1 (Kd.Q5 HO_242000.out (fun k_ hk=>(⟨hk,hk.2⟩:_∧k_≠ci))) (fun _ hk=>hk.2) (.int .i64 ((Ql τ a5).f0))) (fun _ hk=>hk.2) (.int .i64 ((Ql τ a5).f1))) (fun _ hk=>hk.2) (.int .i64 ((Ql τ a5).f2))) (fun _ hk=>hk.1.2)))⟩;have O:Aside0 (Kd.R k86 86 di w.heap.size (fun _=>True) (.slice b9 be.length b7) be):=⟨(by rw[hw];exact(by(with_reducible repeat first|apply Kd.Qx|apply Kd.Qw|apply Kd.Qy);exact Kd.Q5 (Kd.Q1 (Kd.Q1 (Kd.Q1 (Kd.Zd HO_242001.out cq.out (by decide)) (fun _ hk=>hk.2) (.int .i64 ((Ql τ a5).f0))) (fun _ hk=>hk.2) (.int .i64 ((Ql τ a5).f1))) (fun _ hk=>hk.2) (.int .i64 ((Ql τ a5).f2))) (fun _ hk=>trivial)))⟩;have X:Aside0 (di.heap[ac]?=some (.cells #[.int .i64 J,.int .i64 B,.int .i64 Y,.int .i64 Z,.int .i64 γ,.int .i64 ζ,.int .i64 ε,.int .i64 κ,.int .i64 ι,.int .i64 θ] 25 (0,0))):=⟨(by rw[hw];exact(bka μ))⟩;have δ :Aside0 (di.heap[χ]?=some (.cells #[.slice a8 a4.length a9,.slice aa a3.length ab] 50 (0,0))):=⟨(by rw[hw];exact(bka η))⟩;have ξ :Aside0 (di.heap[ap]?=some (.cells #[.slice none 0 0,.slice none 0 0] 50 (0,0))):=⟨(by rw[hw];exact(bka ν))⟩;have φ :Aside0 (di.heap[a0]?=some (.cells #[.slice (some g2) τ.length ga,.slice b9 be.length b7] 50 (0,0))):=⟨(by rw[hw];exact(bka ψ))⟩;have ω :Aside0 (di.heap[ci]?=some (.cells #[.int .i64 ((Ql τ a5).f0),.int .i64 ((Ql τ a5).f1),.int .i64 ((Ql τ a5).f2)] 36 (0,0))):=⟨(by rw[hw];exact(by(with_reducible repeat first|apply Qb|apply Qe|apply Qc);refine Qu (cs:=#[.int .i64 ((Ql τ a5).f0),.int .i64 ((Ql τ a5).f1),.int .i64 0]) ?_ 2 _ rfl;(with_reducible repeat first|apply Qb|apply Qe|apply Qc);refine Qu (cs:=#[.int .i64 ((Ql τ a5).f0),.int .i64 0,.int .i64 0]) ?_ 1 _ rfl;(with_reducible repeat first|apply Qb|apply Qe|apply Qc);refine Qu (cs:=#[.int .i64 0,.int .i64 0,.int .i64 0]) ?_ 0 _ rfl;(with_reducible repeat first|apply Qb|apply Qe|apply Qc);exact cq.out))⟩;have a6:Aside0 (Below w.heap.size w di):=⟨(by rw[hw];exact bel)⟩;clear hw;clear HO_242000;clear HO_242001;clear μ;clear η;clear ν;clear ψ;clear cq;clear HB;have HO_242000:=L;have HO_242001:=O;have μ :=X;have η := δ;have ν := ξ;have ψ := φ;have cq:= ω;have HB:=a6;clear L O X δ ξ φ ω a6;obtain⟨jm,jn,jo,jp,jq,jr⟩:=qD3 cq.out;obtain⟨lf,lg,lh,ll⟩:=qD2 ψ.out;have p44:0≤(a5:Int):=of_decide_eq_true (by assumption);have jf:(a5:Int)<((τ.length:Int):Int):=of_decide_eq_true (by assumption);obtain⟨e4,t1,m5,m6,o0,t2,m7⟩:=Kd.Vt HO_242000.out (by omega);(first|cases m5|(injection m5 with ea_ en_ ec_;(first|subst ea_|(injection ea_ with ea_;subst ea_));subst ec_;clear en_));have o1:=Aside0.mk m6;have t3:=Aside0.mk m7;clear m6 o0 m7;(first|simp only[add_plain] at g3|skip);(first|simp only[add_plain] at g4|skip);(first|simp only[add_plain] at g5|skip);obtain⟨t4,nm,m8,hx,hy⟩:=Kd.Y7 HO_242000.out z36 (a5:Int) p44 jf;obtain rfl:=X7 m8;have m9:di.cell? ⟨e4,(a5:Int).toNat * 3,none⟩=some (.int .i64 ((Ql τ a5).f0)):=hx 0 _ rfl;have ma:di.cell? ⟨e4,(a5:Int).toNat * 3+1,none⟩=some (.int .i64 ((Ql τ a5).f1)):=hx 1 _ rfl;have mb:di.cell? ⟨e4,(a5:Int).toNat * 3+2,none⟩=some (.int .i64 ((Ql τ a5).f2)):=hx 2 _ rfl;have qp:di.frozen? ⟨e4,(a5:Int).toNat * 3,none⟩=false:=hy 0;have qq:di.frozen? ⟨e4,(a5:Int).toNat * 3+1,none⟩=false:=hy 1;have qs:di.frozen? ⟨e4,(a5:Int).toNat * 3+2,none⟩=false:=hy 2;clear nm hx hy m8;replace p44:=eq_true p44;replace jf:=eq_true jf;have mc:=Aside0.mk (show Kd.R k36 36 di w.heap.size (fun k_=>k_≠ci) (.slice (some ⟨e4,0,none⟩) τ.length ga) τ from(kra HO_242000));obtain⟨t5,l5,me,ja,l6⟩:=Kd.Y7 mc.out z36 (a5:Int) (of_decide_eq_true (by assumption)) (by have h_:(a5:Int)<((τ.length:Int):Int):=of_decide_eq_true (by assumption);first|exact h_|(have e_:=(Kd.Q4 HO_242000.out).1;omega)|simpa using h_);obtain rfl:=X7 me;have kh:=Kd.Wl mc.out (a5:Int) (of_decide_eq_true (by assumption)) (by have h_:(a5:Int)<((τ.length:Int):Int):=of_decide_eq_true (by assumption);first|exact h_|(have e_:=(Kd.Q4 HO_242000.out).1;omega)|simpa using h_) (seg:=[.int .i64 (-1)]) (j:=2) l5 ja (show 3≤3 from by decide) (x':=(⟨(Ql τ a5).f0,(Ql τ a5).f1,(-1)⟩:S36)) (Ka _ _ _ (⟨(Ql τ a5).f0,(Ql τ a5).f1,(-1)⟩:S36)) (fun _ hk=>hk);have jg:=ja 2 _ rfl;(try simp only[show(k36).sz=3 from rfl,Nat.mul_one,Nat.add_zero] at jg);have mf:=l6 2;(try simp only[show(k36).sz=3 from rfl,Nat.mul_one,Nat.add_zero] at mf);clear l5 ja l6 me)|((with_reducible refine Y3 (t:=3) (p:=56) rfl ?_);refine Yr (t:=3) (p:=56) (v:=?vo_w60) (w1:=(di.setCell ⟨e4,(a5:Int).toNat * 3+2,none⟩ (.int .i64 (-1)))) ?hg ?ho ?hn ?hr ?_;(case ho=>rfl);(case hg=>rfl);(case hn=>rfl);(case hr=>go_simp <;> rfl);intro mg hw;have hg:di.grownBy mg (some e4):=(by rw[hw];exact kh.2);have hp_:Kd.R k36 36 mg w.heap.size (fun k_=>k_≠ci) (.slice (some ⟨e4,0,none⟩) τ.length ga) kg:=(by rw[hw,nl.out];exact kh.1);clear kh;replace HO_242001:=Aside0.mk (Kd.Kh (v:=(.slice (some ⟨e4,0,none⟩) τ.length ga)) (kra HO_242001) (Kd.Kg HO_242000.out) (by decide) hg);replace μ :=Aside0.mk (Q8 (g:=ac) (o:=.cells #[.int .i64 J,.int .i64 B,.int .i64 Y,.int .i64 Z,.int .i64 γ,.int .i64 ζ,.int .i64 ε,.int .i64 κ,.int .i64 ι,.int .i64 θ] 25 (0,0)) (bka μ) hg (Kd.Xg HO_242000.out μ.out (by decide)));replace η :=Aside0.mk (Q8 (g:= χ) (o:=.cells #[.slice a8 a4.length a9,.slice aa a3.length ab] 50 (0,0)) (bka η) hg (Kd.Xg HO_242000.out η.out (by decide)));replace ν :=Aside0.mk (Q8 (g:=ap) (o:=.cells #[.slice none 0 0,.slice none 0 0] 50 (0,0)) (bka ν) hg (Kd.Xg HO_242000.out ν.out (by decide)));replace ψ :=Aside0.mk (Q8 (g:=a0) (o:=.cells #[.slice (some ⟨e4,0,none⟩) τ.length ga,.slice b9 be.length b7] 50 (0,0)) (bka ψ) hg (Kd.Xg HO_242000.out ψ.out (by decide)));replace cq:=Aside0.mk (Q8 (g:=ci) (o:=.cells #[.int .i64 ((Ql τ a5).f0),.int .i64 ((Ql τ a5).f1),.int .i64 ((Ql τ a5).f2)] 36 (0,0)) (bka cq) hg (Kd.U2 HO_242000.out (fun _ hk=>hk)));replace HO_242000:=Aside0.mk hp_;replace HB:=Aside0.mk ((by rw[hw];exact Qa (HB.out) o1.out:Below w.heap.size w mg));clear hg hw hp_))
            rewrite[gm.out]
            go_roundg k1
            case measure=>have:=az.out;omega
            case rel=>exact⟨(wrap64 (a5+1)),(kg),(.slice (some ⟨e4,0,none⟩) τ.length ga),rfl,H',⟨by have:=az.out;omega⟩,⟨by(with_reducible repeat first|apply Kd.Qx|apply Kd.Qw|apply Kd.Qy);exact Kd.Q5 HO_242000.out (fun _ hk=>trivial)⟩,⟨by(with_reducible repeat first|apply Kd.Qx|apply Kd.Qw|apply Kd.Qy);exact HO_242001.out⟩,μ,η,ν,ψ,HB,gm⟩
           ·rw[if_neg gn] at H
            have c43b0:((Go.bits .and .i64 (fn) 1)==1)=false:=beq_eq_false_iff_ne.mpr gn
            have c43b1:((Go.bits .and .i64 (fn) 1) != 1)=true:=bne_iff_ne.mpr gn
            have H':=Aside0.mk H
            clear H
            have j8:=al.out
            have js:=af.out
            have mz:=am.out
            have n0:=ae.out
            have jt:=ao.out
            have ju:=an.out
            obtain⟨h4,h5,h6,h7⟩:=qD2 ψ.out
            obtain⟨t6,o2,o3⟩:=Kd.Ze HO_242000.out
            subst o3
            have ek:0≤(a5:Int):=of_decide_eq_true (by assumption)
            have el:a5<(τ.length:Int):=of_decide_eq_true (by assumption)
            obtain⟨g2,ia,g3,g4,g5⟩:=Xz (Kd.Q4 HO_242000.out).2.2 a5 ek el
            cases ia
            replace ek:=eq_true ek
            replace el:=eq_true el
            (try rewrite[← gm.out])
            go_wp2_with (first|((with_reducible refine Qr (N:=13) rfl ?_);refine qE 13 #[.int .i64 0,.int .i64 0,.int .i64 0] 36 ?_;intro ci hg qf hbox hb;have cq:=Aside0.mk hbox;have l3:=sGe hg;have l4:=sGe hg;have e5:=sNl μ hg;have e6:=sNg μ hg;have e7:=sNl η hg;have e8:=sNg η hg;have e9:=sNl ν hg;have ea:=sNg ν hg;have eb:=sNl ψ hg;have ej:=sNg ψ hg;replace HO_242000:=Aside0.mk (Kd.Za (Kd.Yn HO_242000.out ci (Nat.le_of_eq hg.symm)) hb);replace HO_242001:=sRb HO_242001 hb;replace μ :=sBk μ hb;replace η :=sBk η hb;replace ν :=sBk ν hb;replace ψ :=sBk ψ hb;replace HB:=sHb hb;clear hb hbox hg;have n1:=e6.out;have n2:=e5.out;have kn:=e8.out;have ko:=e7.out;have mw:=ea.out;have my:=e9.out;have sc:=ej.out;have sd:=eb.out;obtain⟨ih,ii,ij,ik,il,im⟩:=qD3 cq.out))
            rewrite[gm.out]
            go_roundg k1
            case measure=>have:=az.out;omega
            case rel=>exact⟨(wrap64 (a5+1)),(τ),(.slice (some g2) τ.length o2),qR,H',⟨by have:=az.out;omega⟩,⟨by(with_reducible repeat first|apply Kd.Qx|apply Kd.Qw|apply Kd.Qy);exact Kd.Q5 (Kd.Q1 (Kd.Q1 (Kd.Q1 (Kd.Q5 HO_242000.out (fun k_ hk=>(⟨hk,hk.2⟩:_∧k_≠ci))) (fun _ hk=>hk.2) (.int .i64 ((Ql τ a5).f0))) (fun _ hk=>hk.2) (.int .i64 ((Ql τ a5).f1))) (fun _ hk=>hk.2) (.int .i64 ((Ql τ a5).f2))) (fun _ hk=>trivial)⟩,⟨by(with_reducible repeat first|apply Kd.Qx|apply Kd.Qw|apply Kd.Qy);exact Kd.Q5 (Kd.Q1 (Kd.Q1 (Kd.Q1 (Kd.Zd HO_242001.out cq.out (by decide)) (fun _ hk=>hk.2) (.int .i64 ((Ql τ a5).f0))) (fun _ hk=>hk.2) (.int .i64 ((Ql τ a5).f1))) (fun _ hk=>hk.2) (.int .i64 ((Ql τ a5).f2))) (fun _ hk=>trivial)⟩,⟨bka μ⟩,⟨bka η⟩,⟨bka ν⟩,⟨bka ψ⟩,⟨bel⟩,gm⟩
          ·rw[if_neg i9] at H
           exact absurd H (by simp)
         ·rw[if_neg ei] at H
          have c40b0:decide (0≤((Ql τ a5).f2))=false:=decide_eq_false ei
          clear ei
          have H':=Aside0.mk H
          clear H
          have se:=al.out
          have sf:=af.out
          have sg:=am.out
          have sh:=ae.out
          have n3:=ao.out
          have na:=an.out
          obtain⟨lm,ln,lp,lq⟩:=qD2 ψ.out
          obtain⟨t7,o4,o5⟩:=Kd.Ze HO_242000.out
          subst o5
          have ek:0≤(a5:Int):=of_decide_eq_true (by assumption)
          have el:a5<(τ.length:Int):=of_decide_eq_true (by assumption)
          obtain⟨g2,ia,g3,g4,g5⟩:=Xz (Kd.Q4 HO_242000.out).2.2 a5 ek el
          cases ia
          replace ek:=eq_true ek
          replace el:=eq_true el
          (try rewrite[← gm.out])
          go_wp2_with (first|((with_reducible refine Qr (N:=13) rfl ?_);refine qE 13 #[.int .i64 0,.int .i64 0,.int .i64 0] 36 ?_;intro ci hg tq hbox hb;have cq:=Aside0.mk hbox;have l3:=sGe hg;have l4:=sGe hg;have e5:=sNl μ hg;have e6:=sNg μ hg;have e7:=sNl η hg;have e8:=sNg η hg;have e9:=sNl ν hg;have ea:=sNg ν hg;have eb:=sNl ψ hg;have ej:=sNg ψ hg;replace HO_242000:=Aside0.mk (Kd.Za (Kd.Yn HO_242000.out ci (Nat.le_of_eq hg.symm)) hb);replace HO_242001:=sRb HO_242001 hb;replace μ :=sBk μ hb;replace η :=sBk η hb;replace ν :=sBk ν hb;replace ψ :=sBk ψ hb;replace HB:=sHb hb;clear hb hbox hg;have si:=e6.out;have sj:=e5.out;have kp:=e8.out;have ks:=e7.out;have kt:=ea.out;have ku:=e9.out;have nb:=ej.out;have nc:=eb.out;obtain⟨io,ip,iq,ir,it,iu⟩:=qD3 cq.out))
          rewrite[gm.out]
          go_roundg k1
          case measure=>have:=az.out;omega
          case rel=>exact⟨(wrap64 (a5+1)),(τ),(.slice (some g2) τ.length o4),qR,H',⟨by have:=az.out;omega⟩,⟨by(with_reducible repeat first|apply Kd.Qx|apply Kd.Qw|apply Kd.Qy);exact Kd.Q5 (Kd.Q1 (Kd.Q1 (Kd.Q1 (Kd.Q5 HO_242000.out (fun k_ hk=>(⟨hk,hk.2⟩:_∧k_≠ci))) (fun _ hk=>hk.2) (.int .i64 ((Ql τ a5).f0))) (fun _ hk=>hk.2) (.int .i64 ((Ql τ a5).f1))) (fun _ hk=>hk.2) (.int .i64 ((Ql τ a5).f2))) (fun _ hk=>trivial)⟩,⟨by(with_reducible repeat first|apply Kd.Qx|apply Kd.Qw|apply Kd.Qy);exact Kd.Q5 (Kd.Q1 (Kd.Q1 (Kd.Q1 (Kd.Zd HO_242001.out cq.out (by decide)) (fun _ hk=>hk.2) (.int .i64 ((Ql τ a5).f0))) (fun _ hk=>hk.2) (.int .i64 ((Ql τ a5).f1))) (fun _ hk=>hk.2) (.int .i64 ((Ql τ a5).f2))) (fun _ hk=>trivial)⟩,⟨bka μ⟩,⟨bka η⟩,⟨bka ν⟩,⟨bka ψ⟩,⟨bel⟩,gm⟩
        ·rw[if_neg g6] at H
         exact absurd H (by simp)
       ·rw[if_neg er] at H
        exact absurd H (by simp)
      ·rw[if_neg dh] at H
       have c37b0:decide (a5<(b3.length:Int))=false:=decide_eq_false dh
       clear dh
       have H':=Aside0.mk H
       clear H
       have sk:=al.out
       have sl:=af.out
       have sn:=am.out
       have so:=ae.out
       have sp:=ao.out
       have sq:=an.out
       obtain⟨lr,ls,lu,lv⟩:=qD2 ψ.out
       obtain⟨mh,mi,o6⟩:=Kd.Ze HO_242000.out
       subst o6
       go_wp2
       go_loopg [61] k1 (fun kq qt w'=>∃ (a1:Int) (ρ:List (S36)) (d9:Value),qt = .int .i64 a1∧Aside0 (group_Spread.l1 kq l1 a2 (τ.length:Int) a1 J B Y Z γ ζ ε κ ι θ ρ be=some (r1,r2,r3))∧Aside0 (kq≤k1)∧Aside0 (Kd.R k36 36 w' w.heap.size (fun _=>True) d9 ρ)∧Aside0 (Kd.R k86 86 w' w.heap.size (fun _=>True) (.slice b9 be.length b7) be)∧Aside0 (w'.heap[ac]?=some (.cells #[.int .i64 J,.int .i64 B,.int .i64 Y,.int .i64 Z,.int .i64 γ,.int .i64 ζ,.int .i64 ε,.int .i64 κ,.int .i64 ι,.int .i64 θ] 25 (0,0)))∧Aside0 (w'.heap[χ]?=some (.cells #[(.slice a8 a4.length a9),(.slice aa a3.length ab)] 50 (0,0)))∧Aside0 (w'.heap[ap]?=some (.cells #[(.slice none 0 0),(.slice none 0 0)] 50 (0,0)))∧Aside0 (w'.heap[a0]?=some (.cells #[d9,(.slice b9 be.length b7)] 50 (0,0)))∧Aside0 (Below w.heap.size w w')∧Aside0 (d9=(.slice mh τ.length mi)))
       case atStart=>exact⟨(0),(τ),(.slice mh τ.length mi),rfl,H',⟨Nat.le_refl _⟩,⟨by(with_reducible repeat first|apply Kd.Qx|apply Kd.Qw|apply Kd.Qy);exact HO_242000.out⟩,⟨by(with_reducible repeat first|apply Kd.Qx|apply Kd.Qw|apply Kd.Qy);exact HO_242001.out⟩,μ,η,ν,ψ,HB,⟨rfl⟩⟩
       case round=>
        clear H'
        try clear p2
        try clear q2
        try clear qe
        try clear c3
        try clear c4
        try clear p4
        try clear q4
        try clear tr
        try clear qb
        try clear c5
        try clear qg
        try clear qd
        try clear c6
        try clear p6
        try clear c7
        try clear c8
        try clear ts
        try clear tt
        try clear t8
        try clear gu
        try clear gv
        try clear eo
        try clear dh
        try clear c37b0
        try clear er
        try clear c38b0
        try clear g6
        try clear c39b0
        try clear ei
        try clear c40b0
        try clear i9
        try clear c41b0
        try clear c41b1
        try clear gn
        try clear c43b0
        try clear c43b1
        try clear qh
        try clear p44
        try clear jf
        try clear t9
        try clear ta
        try clear qi
        try clear nv
        try clear g7
        try clear jj
        try clear h8
        try clear i3
        try clear jc
        try clear jv
        try clear tb
        try clear tc
        try clear h9
        try clear ha
        try clear tu
        try clear p64
        try clear tv
        try clear tw
        try clear tx
        try clear ty
        try clear jd
        try clear tz
        try clear u0
        try clear u1
        try clear u2
        try clear u3
        try clear u4
        try clear u5
        try clear u6
        try clear u7
        try clear fy
        try clear fz
        try clear ec
        try clear ed
        try clear gx
        try clear gy
        try clear jk
        try clear jm
        try clear jn
        try clear jo
        try clear lf
        try clear lg
        try clear h4
        try clear h5
        try clear ih
        try clear ii
        try clear ij
        try clear lm
        try clear ln
        try clear io
        try clear ip
        try clear iq
        try clear lr
        try clear ls
        try clear g0
        try clear g1
        try clear ee
        try clear ef
        try clear gz
        try clear h0
        try clear jl
        try clear jp
        try clear jq
        try clear jr
        try clear lh
        try clear ll
        try clear h6
        try clear h7
        try clear ik
        try clear il
        try clear im
        try clear lp
        try clear lq
        try clear ir
        try clear it
        try clear iu
        try clear lu
        try clear lv
        try clear g3
        try clear g4
        try clear g5
        try clear m9
        try clear ma
        try clear mb
        try clear jg
        try clear p2
        try clear ek
        try clear p44
        try clear el
        try clear jf
        obtain⟨a1,ρ,d9,rfl,HA,eg,HO_242000,HO_242001,μ,η,ν,ψ,HB,ib⟩:=hrel
        cases gk with
        |zero=>exact absurd HA.out (by simp[group_Spread.l1])
        |succ k2=>
         have H:=HA.out
         clear HA
         simp only[group_Spread.l1] at H
         by_cases ix:a1<(τ.length:Int)
         ·rw[if_pos ix] at H
          have c88b0:decide (a1<(τ.length:Int))=true:=decide_eq_true ix
          clear ix
          by_cases l7:0≤a1
          ·rw[if_pos l7] at H
           have c89b0:decide (0≤a1)=true:=decide_eq_true l7
           clear l7
           by_cases l8:a1<(ρ.length:Int)
           ·rw[if_pos l8] at H
            have c90b0:decide (a1<(ρ.length:Int))=true:=decide_eq_true l8
            clear l8
            by_cases iy:((Ql ρ a1).f2)<0
            ·rw[if_pos iy] at H
             have c91b0:decide (((Ql ρ a1).f2)<0)=true:=decide_eq_true iy
             clear iy
             replace H:=Option.bind_eq_some_iff.mp H
             obtain⟨cp,mj,H⟩:=H
             replace H:(group_Spread.l1 k2 l1 a2 (τ.length:Int) (wrap64 (a1+1)) J B Y Z γ ζ ε κ ι θ (ρ.set (a1:Int).toNat (⟨(Ql ρ a1).f0,(Ql ρ a1).f1,cp⟩:S36)) be)=some (r1,r2,r3):=H
             have qu:=Aside0.mk mj
             clear mj
             obtain⟨ml,gq⟩:∃ y_:List (S36),y_=(ρ.set (a1:Int).toNat (⟨(Ql ρ a1).f0,(Ql ρ a1).f1,cp⟩:S36)):=⟨_,rfl⟩
             replace H:(group_Spread.l1 k2 l1 a2 (τ.length:Int) (wrap64 (a1+1)) J B Y Z γ ζ ε κ ι θ ml be)=some (r1,r2,r3):=by first|(rw[gq];with_reducible exact H)|(have ax:=(Option.bind_some _ _).symm.trans H;rw[gq];with_reducible exact ax)|(have ax:=(Option.bind_some _ _).symm.trans H;with_reducible exact ax)|with_reducible exact H|(rw[gq];exact H)|exact H
             have nn:=Aside0.mk gq
             clear gq
             have H':=Aside0.mk H
             clear H
             have nf:=al.out
             have ng:=af.out
             have sr:=am.out
             have ss:=ae.out
             have st:=ao.out
             have su:=an.out
             obtain⟨q7,q8,q9,qa⟩:=qD2 ψ.out
             obtain⟨td,ic,o7⟩:=Kd.Ze HO_242000.out
             subst o7
             have ew:0≤(a1:Int):=of_decide_eq_true (by assumption)
             have ey:a1<(ρ.length:Int):=of_decide_eq_true (by assumption)
             obtain⟨av,ie,dj,dk,dl⟩:=Xz (Kd.Q4 HO_242000.out).2.2 a1 ew ey
             cases ie
             replace ew:=eq_true ew
             replace ey:=eq_true ey
             (try rewrite[← ib.out])
             try go_wp2_with (first|((with_reducible refine Qr (N:=15) rfl ?_);refine qE 15 #[.int .i64 0,.int .i64 0,.int .i64 0] 36 ?_;intro b2 hg gr hbox hb;have bv:=Aside0.mk hbox;have no:=sGe hg;have np:=sGe hg;have fo:=sNl μ hg;have fp:=sNg μ hg;have fq:=sNl η hg;have fr:=sNg η hg;have ft:=sNl ν hg;have fu:=sNg ν hg;have fv:=sNl ψ hg;have fw:=sNg ψ hg;replace HO_242000:=Aside0.mk (Kd.Za (Kd.Yn HO_242000.out b2 (Nat.le_of_eq hg.symm)) hb);replace HO_242001:=sRb HO_242001 hb;replace μ :=sBk μ hb;replace η :=sBk η hb;replace ν :=sBk ν hb;replace ψ :=sBk ψ hb;replace HB:=sHb hb;clear hb hbox hg;have qv:=fp.out;have qw:=fo.out;have qx:=fr.out;have qy:=fq.out;have qz:=fu.out;have r0:=ft.out;have r4:=fw.out;have r5:=fv.out;obtain⟨o8,o9,oa,ob,oc,od⟩:=qD3 bv.out))
             have L:Aside0 (Kd.R k36 36 (((gr.setCell ⟨b2,0,none⟩ (.int .i64 ((Ql ρ a1).f0))).setCell ⟨b2,1,none⟩ (.int .i64 ((Ql ρ a1).f1))).setCell ⟨b2,2,none⟩ (.int .i64 ((Ql ρ a1).f2))) w.heap.size (fun k_=>k_≠b2) (.slice (some av) ρ.length ic) ρ):=⟨by(with_reducible repeat first|apply Kd.Qx|apply Kd.Qw|apply Kd.Qy);exact Kd.Q5 (Kd.Q1 (Kd.Q1 (Kd.Q1 (Kd.Q5 HO_242000.out (fun k_ hk=>(⟨hk,hk.2⟩:_∧k_≠b2))) (fun _ hk=>hk.2) (.int .i64 ((Ql ρ a1).f0))) (fun _ hk=>hk.2) (.int .i64 ((Ql ρ a1).f1))) (fun _ hk=>hk.2) (.int .i64 ((Ql ρ a1).f2))) (fun _ hk=>hk.1.2)⟩
             have O:Aside0 (Kd.R k86 86 (((gr.setCell ⟨b2,0,none⟩ (.int .i64 ((Ql ρ a1).f0))).setCell ⟨b2,1,none⟩ (.int .i64 ((Ql ρ a1).f1))).setCell ⟨b2,2,none⟩ (.int .i64 ((Ql ρ a1).f2))) w.heap.size (fun _=>True) (.slice b9 be.length b7) be):=⟨by(with_reducible repeat first|apply Kd.Qx|apply Kd.Qw|apply Kd.Qy);exact Kd.Q5 (Kd.Q1 (Kd.Q1 (Kd.Q1 (Kd.Zd HO_242001.out bv.out (by decide)) (fun _ hk=>hk.2) (.int .i64 ((Ql ρ a1).f0))) (fun _ hk=>hk.2) (.int .i64 ((Ql ρ a1).f1))) (fun _ hk=>hk.2) (.int .i64 ((Ql ρ a1).f2))) (fun _ hk=>trivial)⟩
             have X:Aside0 ((((gr.setCell ⟨b2,0,none⟩ (.int .i64 ((Ql ρ a1).f0))).setCell ⟨b2,1,none⟩ (.int .i64 ((Ql ρ a1).f1))).setCell ⟨b2,2,none⟩ (.int .i64 ((Ql ρ a1).f2))).heap[ac]?=some (.cells #[.int .i64 J,.int .i64 B,.int .i64 Y,.int .i64 Z,.int .i64 γ,.int .i64 ζ,.int .i64 ε,.int .i64 κ,.int .i64 ι,.int .i64 θ] 25 (0,0))):=⟨bka μ⟩
             have δ :Aside0 ((((gr.setCell ⟨b2,0,none⟩ (.int .i64 ((Ql ρ a1).f0))).setCell ⟨b2,1,none⟩ (.int .i64 ((Ql ρ a1).f1))).setCell ⟨b2,2,none⟩ (.int .i64 ((Ql ρ a1).f2))).heap[χ]?=some (.cells #[.slice a8 a4.length a9,.slice aa a3.length ab] 50 (0,0))):=⟨bka η⟩
             have ξ :Aside0 ((((gr.setCell ⟨b2,0,none⟩ (.int .i64 ((Ql ρ a1).f0))).setCell ⟨b2,1,none⟩ (.int .i64 ((Ql ρ a1).f1))).setCell ⟨b2,2,none⟩ (.int .i64 ((Ql ρ a1).f2))).heap[ap]?=some (.cells #[.slice none 0 0,.slice none 0 0] 50 (0,0))):=⟨bka ν⟩
             have φ :Aside0 ((((gr.setCell ⟨b2,0,none⟩ (.int .i64 ((Ql ρ a1).f0))).setCell ⟨b2,1,none⟩ (.int .i64 ((Ql ρ a1).f1))).setCell ⟨b2,2,none⟩ (.int .i64 ((Ql ρ a1).f2))).heap[a0]?=some (.cells #[.slice (some av) ρ.length ic,.slice b9 be.length b7] 50 (0,0))):=⟨bka ψ⟩
             have ω :Aside0 ((((gr.setCell ⟨b2,0,none⟩ (.int .i64 ((Ql ρ a1).f0))).setCell ⟨b2,1,none⟩ (.int .i64 ((Ql ρ a1).f1))).setCell ⟨b2,2,none⟩ (.int .i64 ((Ql ρ a1).f2))).heap[b2]?=some (.cells #[.int .i64 ((Ql ρ a1).f0),.int .i64 ((Ql ρ a1).f1),.int .i64 ((Ql ρ a1).f2)] 36 (0,0))):=⟨by refine Qu (cs:=#[.int .i64 ((Ql ρ a1).f0),.int .i64 ((Ql ρ a1).f1),.int .i64 0]) ?_ 2 _ rfl;refine Qu (cs:=#[.int .i64 ((Ql ρ a1).f0),.int .i64 0,.int .i64 0]) ?_ 1 _ rfl;refine Qu (cs:=#[.int .i64 0,.int .i64 0,.int .i64 0]) ?_ 0 _ rfl;exact bv.out⟩
             have a6:Aside0 (Below w.heap.size w (((gr.setCell ⟨b2,0,none⟩ (.int .i64 ((Ql ρ a1).f0))).setCell ⟨b2,1,none⟩ (.int .i64 ((Ql ρ a1).f1))).setCell ⟨b2,2,none⟩ (.int .i64 ((Ql ρ a1).f2)))):=⟨bel⟩
             (try clear HO_242000)
             (try clear HO_242001)
             (try clear μ)
             (try clear η)
             (try clear ν)
             (try clear ψ)
             (try clear bv)
             (try clear HB)
             generalize(((gr.setCell ⟨b2,0,none⟩ (.int .i64 ((Ql ρ a1).f0))).setCell ⟨b2,1,none⟩ (.int .i64 ((Ql ρ a1).f1))).setCell ⟨b2,2,none⟩ (.int .i64 ((Ql ρ a1).f2)))=oe at L O X δ ξ φ ω a6 ⊢
             have HO_242000:=L
             have HO_242001:=O
             have μ :=X
             have η := δ
             have ν := ξ
             have ψ := φ
             have bv:= ω
             have HB:=a6
             clear L O X δ ξ φ ω a6
             replace HO_242000:=Aside0.mk (Kd.Qy HO_242000.out)
             replace HO_242001:=Aside0.mk (Kd.Qy HO_242001.out)
             replace μ :=Aside0.mk (Qe μ.out)
             replace η :=Aside0.mk (Qe η.out)
             replace ν :=Aside0.mk (Qe ν.out)
             replace ψ :=Aside0.mk (Qe ψ.out)
             replace bv:=Aside0.mk (Qe bv.out)
             replace HB:=Aside0.mk (Qf HB.out)
             refine Zv (n:=12) (S:=fun w'=>w'.cell? ⟨a0,0,none⟩=some (.slice (some av) ρ.length ic)∧w'.cell? ⟨a0,1,none⟩=some (.slice b9 be.length b7)∧w'.cell? ⟨ac,0,none⟩=some (.int .i64 J)∧w'.cell? ⟨ac,1,none⟩=some (.int .i64 B)∧w'.cell? ⟨ac,2,none⟩=some (.int .i64 Y)∧w'.cell? ⟨ac,3,none⟩=some (.int .i64 Z)∧w'.cell? ⟨ac,4,none⟩=some (.int .i64 γ)∧w'.cell? ⟨ac,5,none⟩=some (.int .i64 ζ)∧w'.cell? ⟨ac,6,none⟩=some (.int .i64 ε)∧w'.cell? ⟨ac,7,none⟩=some (.int .i64 κ)∧w'.cell? ⟨ac,8,none⟩=some (.int .i64 ι)∧w'.cell? ⟨ac,9,none⟩=some (.int .i64 θ)∧w'.cell? ⟨b2,0,none⟩=some (.int .i64 ((Ql ρ a1).f0))∧w'.cell? ⟨b2,1,none⟩=some (.int .i64 ((Ql ρ a1).f1))∧w'.cell? ⟨b2,2,none⟩=some (.int .i64 ((Ql ρ a1).f2))) (ds:=[11]) #[false,false,false,false,false,false,false,false,false,false,false,false] kr rfl rfl ⟨(Qk ψ.out 0).trans rfl,(Qk ψ.out 1).trans rfl,(Qk μ.out 0).trans rfl,(Qk μ.out 1).trans rfl,(Qk μ.out 2).trans rfl,(Qk μ.out 3).trans rfl,(Qk μ.out 4).trans rfl,(Qk μ.out 5).trans rfl,(Qk μ.out 6).trans rfl,(Qk μ.out 7).trans rfl,(Qk μ.out 8).trans rfl,(Qk μ.out 9).trans rfl,(Qk bv.out 0).trans rfl,(Qk bv.out 1).trans rfl,(Qk bv.out 2).trans rfl⟩ (fun hHeld=>?_);refine Zf group_Spread.tab15 group_Spread.N8 (fun HT_ HW_=>?_)
             generalize oe.drew=te at HO_242000 HO_242001 μ η ν ψ bv HB hHeld ⊢
             refine qP 0 (some 69) (bN 12 1) HT_ ?_
             refine qP 2 (some 71) (bN 12 5) HT_ ?_
             refine qP 4 (some 73) (bN 12 21) HT_ ?_
             refine qP 5 (some 74) (bN 12 53) HT_ ?_
             refine qT 1 (some 70) (bN 12 55) HT_ HW_ hHeld ?_
             refine qT 3 (some 72) (bN 12 63) HT_ HW_ hHeld ?_
             refine qT 6 (some 75) (bN 12 127) HT_ HW_ hHeld ?_
             refine qT 7 (some 76) (bN 12 255) HT_ HW_ hHeld ?_
             refine Zn (i:=8) (N:=some 77) (bN 12 511) rfl rfl (Zc HT_.out kr) (by decide) (fun K hK=>?_)
             refine Zm Try.func38 kr rfl #[.agg #[.int .i64 J,.int .i64 B,.int .i64 Y,.int .i64 Z,.int .i64 γ,.int .i64 ζ,.int .i64 ε,.int .i64 κ,.int .i64 ι,.int .i64 θ],.slice A1 l1.length c1,.int .i64 a2,.agg #[.slice (some av) ρ.length ic,.slice b9 be.length b7],.agg #[.int .i64 ((Ql ρ a1).f0),.int .i64 ((Ql ρ a1).f1),.int .i64 ((Ql ρ a1).f2)]] (by rfl) rfl rfl qM ?_
             with_reducible refine(group_pick.calls k2 J B Y Z γ ζ ε κ ι θ _ _ l1 a2 _ _ ρ _ _ be ((Ql ρ a1).f0) ((Ql ρ a1).f1) ((Ql ρ a1).f2) cp _ ?side1 ?side2 ?side3 ?side4 ?side5 ?side6 qu.out).mono ?_
             (case side1=>exact(Kd.Q0 df.out HB.out))
             (case side2=>exact dx.out)
             (case side3=>exact(Kd.Q4 HO_242000.out).2.2)
             (case side4=>exact(Kd.Q4 HO_242000.out).2.1)
             (case side5=>exact(Kd.Q4 HO_242001.out).2.2)
             (case side6=>exact(Kd.Q4 HO_242001.out).2.1)
             rintro e tf ⟨rfl,hb⟩
             refine⟨_,rfl, ?_⟩
             replace HO_242000:=sRb HO_242000 hb
             replace HO_242001:=sRb HO_242001 hb
             replace μ :=sBk μ hb
             replace η :=sBk η hb
             replace ν :=sBk ν hb
             replace ψ :=sBk ψ hb
             replace bv:=sBk bv hb
             replace HB:=sHb hb
             (try clear hb)
             (try clear ak)
             (try clear hk)
             (try clear hi)
             have mm:0≤(a1:Int):=of_decide_eq_true (by assumption)
             have mo:(a1:Int)<((ρ.length:Int):Int):=of_decide_eq_true (by assumption)
             obtain⟨fx,tg,mq,mr,oh,ti,ms⟩:=Kd.Vt HO_242000.out (by omega)
             (first|cases mq|(injection mq with ea_ en_ ec_;(first|subst ea_|(injection ea_ with ea_;subst ea_));subst ec_;clear en_))
             have tj:=Aside0.mk mr
             have oi:=Aside0.mk ms
             clear mr oh ms
             (first|simp only[add_plain] at dj|skip)
             (first|simp only[add_plain] at dk|skip)
             (first|simp only[add_plain] at dl|skip)
             obtain⟨tk,nq,mt,i0,i1⟩:=Kd.Y7 HO_242000.out z36 (a1:Int) mm mo
             obtain rfl:=X7 mt
             have r6:World.cell? _ ⟨fx,(a1:Int).toNat * 3,none⟩=some (.int .i64 ((Ql ρ a1).f0)):=i0 0 _ rfl
             have r7:World.cell? _ ⟨fx,(a1:Int).toNat * 3+1,none⟩=some (.int .i64 ((Ql ρ a1).f1)):=i0 1 _ rfl
             have r8:World.cell? _ ⟨fx,(a1:Int).toNat * 3+2,none⟩=some (.int .i64 ((Ql ρ a1).f2)):=i0 2 _ rfl
             have r9:World.frozen? _ ⟨fx,(a1:Int).toNat * 3,none⟩=false:=i1 0
             have ra:World.frozen? _ ⟨fx,(a1:Int).toNat * 3+1,none⟩=false:=i1 1
             have rb:World.frozen? _ ⟨fx,(a1:Int).toNat * 3+2,none⟩=false:=i1 2
             clear nq i0 i1 mt
             replace mm:=eq_true mm
             replace mo:=eq_true mo
             (try rewrite[← ib.out])
             obtain⟨sv,jh,l9,ji,mu⟩:=Kd.Y7 HO_242000.out z36 (a1:Int) (of_decide_eq_true (by assumption)) (by have h_:(a1:Int)<((ρ.length:Int):Int):=of_decide_eq_true (by assumption);first|exact h_|(have e_:=(Kd.Q4 HO_242000.out).1;omega)|simpa using h_)
             obtain rfl:=X7 l9
             have jb:=(Kd.Wl HO_242000.out (a1:Int) (of_decide_eq_true (by assumption)) (by have h_:(a1:Int)<((ρ.length:Int):Int):=of_decide_eq_true (by assumption);first|exact h_|(have e_:=(Kd.Q4 HO_242000.out).1;omega)|simpa using h_) (seg:=[.int .i64 cp]) (j:=2) jh ji (show 3≤3 from by decide) (x':=(⟨(Ql ρ a1).f0,(Ql ρ a1).f1,cp⟩:S36)) (Ka _ _ _ (⟨(Ql ρ a1).f0,(Ql ρ a1).f1,cp⟩:S36)) (fun _ hk=>hk)).1
             rw[← nn.out] at jb
             have nr:=Aside0.mk jb
             clear jh ji mu l9 jb
             refine hK.out _ _ ⟨qc ψ,qc ψ,qc μ,qc μ,qc μ,qc μ,qc μ,qc μ,qc μ,qc μ,qc μ,qc μ,qc bv,qc bv,qc bv⟩ (fun hHeld=>?_)
             clear hK K
             refine qN (some 77) ?_
             refine qP 9 (some 78) (bN 12 1023) HT_ ?_
             refine qP 10 (some 79) (bN 12 2047) HT_ ?_
             refine last_ (i:=11) (N:=none) #[true,true,true,true,true,true,true,true,true,true,true,true] rfl rfl (Zc HT_.out kr) (by decide) (fun K hK=>?_)
             refine V2 (w1:=?_) (by rfl) rfl ?_ ?_
             rotate_left
             ·go_simp
              rfl
             refine hK.out _ _ ?_
             clear hK K
             refine Xd (Zu HT_.out kr) ?_
             try go_wp2
             rewrite[ib.out]
             go_roundg k2
             case measure=>have:=az.out;have:=eg.out;omega
             case rel=>exact⟨(wrap64 (a1+1)),(ml),(.slice (some ⟨fx,0,none⟩) ρ.length ic),qR,H',⟨by have:=az.out;have:=eg.out;omega⟩,⟨by(with_reducible repeat first|apply Kd.Qx|apply Kd.Qw|apply Kd.Qy);exact Kd.Q5 nr.out (fun _ hk=>trivial)⟩,⟨by(with_reducible repeat first|apply Kd.Qx|apply Kd.Qw|apply Kd.Qy);exact Kd.Q5 (Kd.Q1 (p:=⟨fx,(a1:Int).toNat * 3+2,none⟩) (Kd.Zd HO_242001.out oi.out (by decide)) (fun _ hk=>hk.2) (.int .i64 cp)) (fun _ hk=>trivial)⟩,⟨by(with_reducible repeat first|apply Qb|apply Qe|apply Qc);refine Qs ?_ (by have h_:=Kd.Xg HO_242000.out μ.out (by decide);intro e_;exact h_ (by rw[e_];rfl)) _;(with_reducible repeat first|apply Qb|apply Qe|apply Qc);exact μ.out⟩,⟨by(with_reducible repeat first|apply Qb|apply Qe|apply Qc);refine Qs ?_ (by have h_:=Kd.Xg HO_242000.out η.out (by decide);intro e_;exact h_ (by rw[e_];rfl)) _;(with_reducible repeat first|apply Qb|apply Qe|apply Qc);exact η.out⟩,⟨by(with_reducible repeat first|apply Qb|apply Qe|apply Qc);refine Qs ?_ (by have h_:=Kd.Xg HO_242000.out ν.out (by decide);intro e_;exact h_ (by rw[e_];rfl)) _;(with_reducible repeat first|apply Qb|apply Qe|apply Qc);exact ν.out⟩,⟨by(with_reducible repeat first|apply Qb|apply Qe|apply Qc);refine Qs ?_ (by have h_:=Kd.Xg HO_242000.out ψ.out (by decide);intro e_;exact h_ (by rw[e_];rfl)) _;(with_reducible repeat first|apply Qb|apply Qe|apply Qc);exact ψ.out⟩,⟨bel⟩,ib⟩
            ·rw[if_neg iy] at H
             have c91b0:decide (((Ql ρ a1).f2)<0)=false:=decide_eq_false iy
             clear iy
             have H':=Aside0.mk H
             clear H
             have rc:=al.out
             have re:=af.out
             have rf:=am.out
             have rh:=ae.out
             have ri:=ao.out
             have rj:=an.out
             obtain⟨jw,jx,jy,jz⟩:=qD2 ψ.out
             obtain⟨sw,ns,nt⟩:=Kd.Ze HO_242000.out
             subst nt
             have ew:0≤(a1:Int):=of_decide_eq_true (by assumption)
             have ey:a1<(ρ.length:Int):=of_decide_eq_true (by assumption)
             obtain⟨av,ie,dj,dk,dl⟩:=Xz (Kd.Q4 HO_242000.out).2.2 a1 ew ey
             cases ie
             replace ew:=eq_true ew
             replace ey:=eq_true ey
             (try rewrite[← ib.out])
             go_wp2_with (first|((with_reducible refine Qr (N:=15) rfl ?_);refine qE 15 #[.int .i64 0,.int .i64 0,.int .i64 0] 36 ?_;intro b2 hg nw hbox hb;have bv:=Aside0.mk hbox;have no:=sGe hg;have np:=sGe hg;have fo:=sNl μ hg;have fp:=sNg μ hg;have fq:=sNl η hg;have fr:=sNg η hg;have ft:=sNl ν hg;have fu:=sNg ν hg;have fv:=sNl ψ hg;have fw:=sNg ψ hg;replace HO_242000:=Aside0.mk (Kd.Za (Kd.Yn HO_242000.out b2 (Nat.le_of_eq hg.symm)) hb);replace HO_242001:=sRb HO_242001 hb;replace μ :=sBk μ hb;replace η :=sBk η hb;replace ν :=sBk ν hb;replace ψ :=sBk ψ hb;replace HB:=sHb hb;clear hb hbox hg;have rk:=fp.out;have rl:=fo.out;have rm:=fr.out;have rn:=fq.out;have lw:=fu.out;have lx:=ft.out;have ly:=fw.out;have lz:=fv.out;obtain⟨k0,k3,oj,k4,k5,ol⟩:=qD3 bv.out))
             rewrite[ib.out]
             go_roundg k2
             case measure=>have:=az.out;have:=eg.out;omega
             case rel=>exact⟨(wrap64 (a1+1)),(ρ),(.slice (some av) ρ.length ns),qR,H',⟨by have:=az.out;have:=eg.out;omega⟩,⟨by(with_reducible repeat first|apply Kd.Qx|apply Kd.Qw|apply Kd.Qy);exact Kd.Q5 (Kd.Q1 (Kd.Q1 (Kd.Q1 (Kd.Q5 HO_242000.out (fun k_ hk=>(⟨hk,hk.2⟩:_∧k_≠b2))) (fun _ hk=>hk.2) (.int .i64 ((Ql ρ a1).f0))) (fun _ hk=>hk.2) (.int .i64 ((Ql ρ a1).f1))) (fun _ hk=>hk.2) (.int .i64 ((Ql ρ a1).f2))) (fun _ hk=>trivial)⟩,⟨by(with_reducible repeat first|apply Kd.Qx|apply Kd.Qw|apply Kd.Qy);exact Kd.Q5 (Kd.Q1 (Kd.Q1 (Kd.Q1 (Kd.Zd HO_242001.out bv.out (by decide)) (fun _ hk=>hk.2) (.int .i64 ((Ql ρ a1).f0))) (fun _ hk=>hk.2) (.int .i64 ((Ql ρ a1).f1))) (fun _ hk=>hk.2) (.int .i64 ((Ql ρ a1).f2))) (fun _ hk=>trivial)⟩,⟨bka μ⟩,⟨bka η⟩,⟨bka ν⟩,⟨bka ψ⟩,⟨bel⟩,ib⟩
           ·rw[if_neg l8] at H
            exact absurd H (by simp)
          ·rw[if_neg l7] at H
           exact absurd H (by simp)
         ·rw[if_neg ix] at H
          have c88b0:decide (a1<(τ.length:Int))=false:=decide_eq_false ix
          clear ix
          simp only[Option.some.injEq,Prod.mk.injEq] at H
          obtain⟨rfl,rfl,rfl⟩:=H
          have m0:=al.out
          have m1:=af.out
          have rp:=am.out
          have rq:=ae.out
          have rr:=ao.out
          have rs:=an.out
          obtain⟨k6,k7,k8,k9⟩:=qD2 ψ.out
          obtain⟨lb,lc,nu⟩:=Kd.Ze HO_242000.out
          subst nu
          have rt:=fa.out
          have ru:=f8.out
          have rv:=fc.out
          have rx:=fb.out
          obtain⟨om,oo,oq,ot⟩:=qD2 ν.out
          go_wp2
          refine bodyPost_ret (Xb rfl _ _ ap 50 #[.slice lb ρ.length lc,.slice b9 be.length b7] (0,0) _ rfl (by refine Qu (cs:=#[.slice lb ρ.length lc,.slice none 0 0]) ?_ 1 _ rfl;refine Qu (cs:=#[.slice none 0 0,.slice none 0 0]) ?_ 0 _ rfl;exact ν.out) Try.underlying50 rfl kr) rfl ?_
          exact⟨_,_,by first|rfl|(simp[Qo,Qn] <;> rfl)|(simp[*,Qo,Qn] <;> rfl),by(with_reducible repeat first|apply Kd.Qx|apply Kd.Qw|apply Kd.Qy);exact Kd.Q5 (Kd.Q1 (Kd.Q1 (Kd.Zd HO_242000.out ν.out (by decide)) (fun _ hk=>hk.2) _) (fun _ hk=>hk.2) _) (fun _ hk=>trivial),by(with_reducible repeat first|apply Kd.Qx|apply Kd.Qw|apply Kd.Qy);exact Kd.Q5 (Kd.Q1 (Kd.Q1 (Kd.Zd HO_242001.out ν.out (by decide)) (fun _ hk=>hk.2) _) (fun _ hk=>hk.2) _) (fun _ hk=>trivial),bel⟩
   ·rw[if_neg c8] at H
    exact absurd H (by simp)
  ·rw[if_neg c7] at H
   exact absurd H (by simp)
 ·rw[if_neg c6] at H
  have c6b0:(ar==0)=false:=beq_eq_false_iff_ne.mpr c6
  have c6b1:(ar != 0)=true:=bne_iff_ne.mpr c6
  simp only[Option.some.injEq,Prod.mk.injEq] at H
  obtain⟨rfl,rfl,rfl⟩:=H
  go_enter Try.func21,Try.ntmps21
  go_wp2_with (first|((with_reducible refine Qr (N:=4) rfl ?_);refine qE 4 #[.int .i64 J,.int .i64 B,.int .i64 Y,.int .i64 Z,.int .i64 γ,.int .i64 ζ,.int .i64 ε,.int .i64 κ,.int .i64 ι,.int .i64 θ] 25 ?_;intro ac hg tl hbox hb;have μ :=Aside0.mk hbox;have ki:=sGe hg;have iz:=sGe hg;replace HB:=sHb hb;clear hb hbox hg)|((with_reducible refine Qr (N:=7) rfl ?_);refine qE 7 #[.slice a8 a4.length a9,.slice aa a3.length ab] 50 ?_;intro χ hg tm hbox hb;have η :=Aside0.mk hbox;have nd:=sGe hg;have nh:=sGe hg;have fk:=sNl μ hg;have fl:=sNg μ hg;replace μ :=sBk μ hb;replace HB:=sHb hb;clear hb hbox hg)|((with_reducible refine Qr (N:=8) rfl ?_);refine qE 8 #[.slice none 0 0,.slice none 0 0] 50 ?_;intro ap hg tn hbox hb;have ν :=Aside0.mk hbox;have ni:=sGe hg;have nj:=sGe hg;have f8:=sNl μ hg;have fa:=sNg μ hg;have fb:=sNl η hg;have fc:=sNg η hg;replace μ :=sBk μ hb;replace η :=sBk η hb;replace HB:=sHb hb;clear hb hbox hg;have ry:=fk.out;have rz:=fl.out;have s0:=f8.out;have s1:=fa.out;obtain⟨ou,ov,ow,ox,oy,oz,p0,p1,p5,p7,p8,p9,pa,pb,pc,pd,pe,pf,pg,pi⟩:=Zh μ.out;have s2:=fb.out;have s3:=fc.out;obtain⟨pj,pk,pm,pn⟩:=qD2 η.out)|((with_reducible refine Qt (f:=17) rfl ?_);refine Q7 (some 19) rfl rfl Try.func17 kr rfl #[.agg #[.int .i64 J,.int .i64 B,.int .i64 Y,.int .i64 Z,.int .i64 γ,.int .i64 ζ,.int .i64 ε,.int .i64 κ,.int .i64 ι,.int .i64 θ],.slice A1 l1.length c1,.agg #[.slice a8 a4.length a9,.slice aa a3.length ab]] rfl qM ?_;(with_reducible refine(group_Check.calls k J B Y Z γ ζ ε κ ι θ _ _ l1 _ _ a4 _ _ a3 ar _ ?side1 ?side2 ?side3 ?side4 ?side5 ?side6 A5.out).mono ?_);(case side1=>exact(Kd.Q0 df.out HB.out));(case side2=>exact dx.out);(case side3=>exact(Kd.Q0 br.out HB.out));(case side4=>exact cg.out);(case side5=>exact(Kd.Q0 ce.out HB.out));(case side6=>exact ch.out);rintro e tp ⟨rfl,hb⟩;refine⟨_,rfl, ?_⟩;replace μ :=sBk μ hb;replace η :=sBk η hb;replace ν :=sBk ν hb;replace HB:=sHb hb;(try clear hb);(try clear ak);(try clear hk);(try clear hi);obtain⟨po,pp,pq,pr⟩:=qD2 ν.out))
  refine bodyPost_ret (Xb rfl _ _ ap 50 #[.slice none 0 0,.slice none 0 0] (0,0) _ rfl (by refine Qu (cs:=#[.slice none 0 0,.slice none 0 0]) ?_ 1 _ rfl;refine Qu (cs:=#[.slice none 0 0,.slice none 0 0]) ?_ 0 _ rfl;exact ν.out) Try.underlying50 rfl kr) rfl ?_
  exact⟨_,_,by first|rfl|(simp[Qo,Qn] <;> rfl)|(simp[*,Qo,Qn] <;> rfl),by first|exact Kd.Xw _ _ _ _ _|exact Kd.Yp _ _ _ _ _|exact Kd.Yl _ _ _ _ _|exact Kd.Yo _ _ _ _ _|exact Kd.Ym _ _ _ _ _,by first|exact Kd.Xw _ _ _ _ _|exact Kd.Yp _ _ _ _ _|exact Kd.Yl _ _ _ _ _|exact Kd.Yo _ _ _ _ _|exact Kd.Ym _ _ _ _ _,bel⟩
end Go.Proofs.Ytmfffemidlhcpaa.C
