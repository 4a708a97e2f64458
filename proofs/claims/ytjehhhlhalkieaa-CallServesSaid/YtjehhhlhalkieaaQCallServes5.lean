/- Texts of this claim, one behind the other: what the law's functions come to, walked (printed by a program, with the words that the print uses), and what that is, in plain Lean. No conditions of their own. -/
import Derived.Test.YtjehhhlhalkieaaQCallServes4
namespace Go.Proofs.Ytjehhhlhalkieaa.C
open Go.RowKit Go.Proofs.YtjehhhlhalkieaaW.PrintWords Go.Proofs.YtjehhhlhalkieaaW.PrintLast Go.Proofs.YtjehhhlhalkieaaW.PrintMore
attribute [local go_sem] Z3 Z1 Xb Xa Zt Zs Z2 Z0
set_option linter.unusedVariables false
set_option linter.unusedSimpArgs false
def newelref19_Stop.f (D:Int) (I:Int) (J:Int) (O:Int) (X:Int):Option (Bool):=(newelref19_Inside.f D I J O).bind fun Z=>(if Z=true then (if X≥(-1) then (some (decide (X≤1))) else (some false)) else (some false))
set_option maxHeartbeats 8000000 in
set_option maxRecDepth 100000 in
theorem newelref19_Stop.calls (D:Int) (I:Int) (J:Int) (O:Int) (X:Int) (r:Bool) (w:World) (h:newelref19_Stop.f D I J O X=some r):
  Calls Try.prog 22 #[.agg #[.int .i64 D,.int .i64 I],.agg #[.int .i64 J,.int .i64 O,.int .i64 X]] w fun e w'=>e = .returned (.bool r)∧Below w.heap.size w w':=by
 have et:=Try.underlying23
 have k4:=Try.underlying43
 have b9:=Try.underlying62
 have HB:=Aside0.mk (Below.refl w.heap.size w)
 have H:((newelref19_Inside.f D I J O).bind fun Z=>(if Z=true then (if X≥(-1) then (some (decide (X≤1))) else (some false)) else (some false)))=some r:=h
 clear h
 replace H:=Option.bind_eq_some_iff.mp H
 obtain⟨Z,ae,H⟩:=H
 replace H:(if Z=true then (if X≥(-1) then (some (decide (X≤1))) else (some false)) else (some false))=some r:=H
 have A3:=Aside0.mk ae
 clear ae
 by_cases c4:Z=true
 ·subst c4
  have H1:(if X≥(-1) then (some (decide (X≤1))) else (some false))=some r:=by rw[if_pos rfl] at H;exact H
  clear H
  have H:=H1
  clear H1
  by_cases c5:X≥(-1)
  ·rw[if_pos c5] at H
   have c5b0:decide ((-1)≤X)=true:=decide_eq_true c5
   clear c5
   obtain rfl:=Option.some.inj H
   go_enter Try.func22,Try.ntmps22
   go_wp2_with (first|((with_reducible refine Qs (N:=2) rfl ?_);refine qE 2 #[.int .i64 D,.int .i64 I] 23 ?_;intro γ hg w6 hbox hb;have B:=Aside0.mk hbox;have δ :=sGe hg;have ε :=sGe hg;replace HB:=sHb hb;clear hb hbox hg)|((with_reducible refine Qs (N:=3) rfl ?_);refine qE 3 #[.int .i64 J,.int .i64 O,.int .i64 X] 43 ?_;intro ζ hg w7 hbox hb;have L:=Aside0.mk hbox;have η :=sGe hg;have θ :=sGe hg;have U:=sNl B hg;have Y:=sNg B hg;replace B:=sBk B hb;replace HB:=sHb hb;clear hb hbox hg;have di:=U.out;have dj:=Y.out;obtain⟨bd,be,bf,bg⟩:=qD2 B.out;obtain⟨ax,ba,ay,bb,bc,az⟩:=qD3 L.out)|((with_reducible refine Q0 (f:=39) rfl ?_);refine Zl (some 12) rfl rfl Try.func39 kr rfl #[.agg #[.int .i64 D,.int .i64 I],.agg #[.int .i64 J,.int .i64 O]] rfl qM ?_;(with_reducible refine(newelref19_Inside.calls D I J O true _ A3.out).mono ?_);rintro e d6 ⟨rfl,hb⟩;refine⟨_,rfl, ?_⟩;replace B:=sBk B hb;replace L:=sBk L hb;replace HB:=sHb hb;(try clear hb);(try clear a4);(try clear hk);(try clear hi);obtain⟨am,an,cz,ao,ap,d8⟩:=qD3 L.out))
   go_ret
   exact⟨rfl,HB.out⟩
  ·rw[if_neg c5] at H
   have c5b0:decide ((-1)≤X)=false:=decide_eq_false c5
   clear c5
   obtain rfl:=Option.some.inj H
   go_enter Try.func22,Try.ntmps22
   go_wp2_with (first|((with_reducible refine Qs (N:=2) rfl ?_);refine qE 2 #[.int .i64 D,.int .i64 I] 23 ?_;intro γ hg fa hbox hb;have B:=Aside0.mk hbox;have δ :=sGe hg;have ε :=sGe hg;replace HB:=sHb hb;clear hb hbox hg)|((with_reducible refine Qs (N:=3) rfl ?_);refine qE 3 #[.int .i64 J,.int .i64 O,.int .i64 X] 43 ?_;intro ζ hg f9 hbox hb;have L:=Aside0.mk hbox;have η :=sGe hg;have θ :=sGe hg;have U:=sNl B hg;have Y:=sNg B hg;replace B:=sBk B hb;replace HB:=sHb hb;clear hb hbox hg;have fo:=U.out;have fp:=Y.out;obtain⟨fy,g0,g2,gb⟩:=qD2 B.out;obtain⟨co,cp,ar,cq,cr,au⟩:=qD3 L.out)|((with_reducible refine Q0 (f:=39) rfl ?_);refine Zl (some 12) rfl rfl Try.func39 kr rfl #[.agg #[.int .i64 D,.int .i64 I],.agg #[.int .i64 J,.int .i64 O]] rfl qM ?_;(with_reducible refine(newelref19_Inside.calls D I J O true _ A3.out).mono ?_);rintro e kd ⟨rfl,hb⟩;refine⟨_,rfl, ?_⟩;replace B:=sBk B hb;replace L:=sBk L hb;replace HB:=sHb hb;(try clear hb);(try clear a4);(try clear hk);(try clear hi);obtain⟨b5,b6,cv,b7,b8,cx⟩:=qD3 L.out))
   go_ret
   exact⟨rfl,HB.out⟩
 ·replace c4:=Bool.eq_false_iff.mpr c4
  subst c4
  have H1:(some false)=some r:=by rw[if_neg (show ¬ (false=true) by decide)] at H;exact H
  clear H
  have H:=H1
  clear H1
  obtain rfl:=Option.some.inj H
  go_enter Try.func22,Try.ntmps22
  go_wp2_with (first|((with_reducible refine Qs (N:=2) rfl ?_);refine qE 2 #[.int .i64 D,.int .i64 I] 23 ?_;intro γ hg eu hbox hb;have B:=Aside0.mk hbox;have δ :=sGe hg;have ε :=sGe hg;replace HB:=sHb hb;clear hb hbox hg)|((with_reducible refine Qs (N:=3) rfl ?_);refine qE 3 #[.int .i64 J,.int .i64 O,.int .i64 X] 43 ?_;intro ζ hg d1 hbox hb;have L:=Aside0.mk hbox;have η :=sGe hg;have θ :=sGe hg;have U:=sNl B hg;have Y:=sNg B hg;replace B:=sBk B hb;replace HB:=sHb hb;clear hb hbox hg;have dx:=U.out;have dy:=Y.out;obtain⟨ce,cf,cg,ch⟩:=qD2 B.out;obtain⟨ci,ck,ι,cm,cn,κ⟩:=qD3 L.out)|((with_reducible refine Q0 (f:=39) rfl ?_);refine Zl (some 12) rfl rfl Try.func39 kr rfl #[.agg #[.int .i64 D,.int .i64 I],.agg #[.int .i64 J,.int .i64 O]] rfl qM ?_;(with_reducible refine(newelref19_Inside.calls D I J O false _ A3.out).mono ?_);rintro e fu ⟨rfl,hb⟩;refine⟨_,rfl, ?_⟩;replace B:=sBk B hb;replace L:=sBk L hb;replace HB:=sHb hb;(try clear hb);(try clear a4);(try clear hk);(try clear hi)))
  go_ret
  exact⟨rfl,HB.out⟩
mutual
def newelref19_Serve.l0:Nat→Int→List (S56)→List (S62)→Int→Int→Int→List (S56)→Option ((List (S56))×(List (S62)))
 |0,_,_,_,_,_,_,_=>none
 |k+1,J,B,D,O,L,X,I=>if J<(B.length:Int) then (if 0≤J then (if ((Qg B J).f0)=L then (if ((Qg B J).f1)=X then (newelref19_Serve.l0 k (wrap64 (J+1)) B D O L X I) else (if I.length<5864062014805 then (newelref19_Serve.l0 k (wrap64 (J+1)) B D O L X (I ++ [(⟨(Qg B J).f0,(Qg B J).f1,(Qg B J).f2⟩:S56)])) else (none))) else (if I.length<5864062014805 then (newelref19_Serve.l0 k (wrap64 (J+1)) B D O L X (I ++ [(⟨(Qg B J).f0,(Qg B J).f1,(Qg B J).f2⟩:S56)])) else (none))) else (none)) else (newelref19_Serve.l1 k 0 B D O L X I ([]:List (S62)))
def newelref19_Serve.l1:Nat→Int→List (S56)→List (S62)→Int→Int→Int→List (S56)→List (S62)→Option ((List (S56))×(List (S62)))
 |0,_,_,_,_,_,_,_,_=>none
 |k+1,U,B,D,O,L,X,I,J=>if U<(D.length:Int) then (if 0≤U then (if ((Qo D U).f1)=L then (if ((Qo D U).f0)=O then (newelref19_Serve.l1 k (wrap64 (U+1)) B D O L X I J) else (if J.length<8796093022208 then (newelref19_Serve.l1 k (wrap64 (U+1)) B D O L X I (J ++ [(⟨(Qo D U).f0,(Qo D U).f1⟩:S62)])) else (none))) else (if J.length<8796093022208 then (newelref19_Serve.l1 k (wrap64 (U+1)) B D O L X I (J ++ [(⟨(Qo D U).f0,(Qo D U).f1⟩:S62)])) else (none))) else (none)) else (some (I,J))
end
def newelref19_Serve.f (k:Nat) (D:List (S56)) (I:List (S62)) (J:Int) (O:Int) (X:Int):Option ((List (S56))×(List (S62))):=newelref19_Serve.l0 k 0 D I J O X ([]:List (S56))
theorem newelref19_Serve.Zk:∀ k,(∀ J L O D U X Y,LeO (newelref19_Serve.l0 k J L O D U X Y) (newelref19_Serve.l0 (k+1) J L O D U X Y))∧(∀ J L O D U X Y y7,LeO (newelref19_Serve.l1 k J L O D U X Y y7) (newelref19_Serve.l1 (k+1) J L O D U X Y y7))
 |0=>⟨fun _ _ _ _ _ _ _ r h=>by simp[newelref19_Serve.l0] at h,fun _ _ _ _ _ _ _ _ r h=>by simp[newelref19_Serve.l1] at h⟩
 |k+1=>by
  obtain⟨B,I⟩:=newelref19_Serve.Zk k
  refine⟨?_, ?_⟩
  ·intro J L O D U X Y
   unfold newelref19_Serve.l0
   repeat' first
   |(with_reducible exact B _ _ _ _ _ _ _)
   |(with_reducible exact I _ _ _ _ _ _ _ _)
   |(with_reducible exact LeO.refl _)
   |(with_reducible exact LeO.none _)
   |(with_reducible refine LeO.ite ?_ ?_)
   |(with_reducible refine LeO.bind ?_ (fun _=>?_))
   |exact B _ _ _ _ _ _ _
   |exact I _ _ _ _ _ _ _ _
   |exact LeO.none _
   |refine LeO.ite ?_ ?_
   |refine LeO.bind ?_ (fun _=>?_)
  ·intro J L O D U X Y y7
   unfold newelref19_Serve.l1
   repeat' first
   |(with_reducible exact B _ _ _ _ _ _ _)
   |(with_reducible exact I _ _ _ _ _ _ _ _)
   |(with_reducible exact LeO.refl _)
   |(with_reducible exact LeO.none _)
   |(with_reducible refine LeO.ite ?_ ?_)
   |(with_reducible refine LeO.bind ?_ (fun _=>?_))
   |exact B _ _ _ _ _ _ _
   |exact I _ _ _ _ _ _ _ _
   |exact LeO.none _
   |refine LeO.ite ?_ ?_
   |refine LeO.bind ?_ (fun _=>?_)
theorem newelref19_Serve.mono:∀ D J a2 X L k,LeO (newelref19_Serve.f k D J a2 X L) (newelref19_Serve.f (k+1) D J a2 X L):=by
 intro D J a2 X L k
 obtain⟨B,I⟩:=newelref19_Serve.Zk k
 unfold newelref19_Serve.f
 repeat' first
   |(with_reducible exact B _ _ _ _ _ _ _)
   |(with_reducible exact I _ _ _ _ _ _ _ _)
   |(with_reducible exact LeO.refl _)
   |(with_reducible exact LeO.none _)
   |(with_reducible refine LeO.ite ?_ ?_)
   |(with_reducible refine LeO.bind ?_ (fun _=>?_))
   |exact B _ _ _ _ _ _ _
   |exact I _ _ _ _ _ _ _ _
   |exact LeO.none _
   |refine LeO.ite ?_ ?_
   |refine LeO.bind ?_ (fun _=>?_)
def newelref19_Serve.T5:Bool×List (List Nat×List Nat):=(true,[([],[]),([0],[0]),([],[]),([1,2],[1,2]),([3],[3]),([4],[4]),([],[]),([6],[6]),([5,7],[5,7]),([8],[8]),([9],[9]),([10,9],[9,10]),([9],[9]),([11,12,9],[9,11,12]),([13,9],[9,13]),([14,9],[9,14]),([9],[9]),([16,9],[9,16]),([15,17,9],[9,15,17]),([9,18],[9,18])])
def newelref19_Serve.B5:List Nat:=[0,1,0,7,15,31,0,64,255,511,1023,2047,1023,8191,16383,32767,1023,66559,262143,524287]
theorem newelref19_Serve.Vq:rtab .any (opsOf Try.f23 5)=newelref19_Serve.T5:=by kernel_rfl
theorem newelref19_Serve.Kx:Zp newelref19_Serve.T5.2 newelref19_Serve.B5=true:=by kernel_rfl
def newelref19_Serve.T6:Bool×List (List Nat×List Nat):=(true,[([],[]),([0],[0]),([],[]),([2],[2]),([],[]),([3,4],[3,4]),([5],[5]),([6],[6]),([1,7],[1,7]),([0,1,2,3,4,5,6,7,8],[]),([9,8,8,0,1,2,3,4,5,6,7,8],[8,9])])
def newelref19_Serve.B6:List Nat:=[0,1,0,4,0,28,60,124,255,511,1023]
theorem newelref19_Serve.Wv:rtab .any (opsOf Try.f23 6)=newelref19_Serve.T6:=by kernel_rfl
theorem newelref19_Serve.Vm:Zp newelref19_Serve.T6.2 newelref19_Serve.B6=true:=by kernel_rfl
def newelref19_Serve.T10:Bool×List (List Nat×List Nat):=(true,[([],[]),([0],[0]),([],[]),([1,2],[1,2]),([3],[3]),([4],[4]),([],[]),([6],[6]),([5,7],[5,7]),([8],[8]),([9],[9]),([10,9],[9,10]),([9],[9]),([11,12,9],[9,11,12]),([13,9],[9,13]),([14,9],[9,14]),([9],[9]),([16,9],[9,16]),([15,17,9],[9,15,17]),([9,18],[9,18])])
def newelref19_Serve.B10:List Nat:=[0,1,0,7,15,31,0,64,255,511,1023,2047,1023,8191,16383,32767,1023,66559,262143,524287]
theorem newelref19_Serve.V6:rtab .any (opsOf Try.f23 10)=newelref19_Serve.T10:=by kernel_rfl
theorem newelref19_Serve.G3:Zp newelref19_Serve.T10.2 newelref19_Serve.B10=true:=by kernel_rfl
def newelref19_Serve.T11:Bool×List (List Nat×List Nat):=(true,[([],[]),([0],[0]),([],[]),([2],[2]),([],[]),([3,4],[3,4]),([5],[5]),([6],[6]),([1,7],[1,7]),([0,1,2,3,4,5,6,7,8],[]),([9,8,8,0,1,2,3,4,5,6,7,8],[8,9])])
def newelref19_Serve.B11:List Nat:=[0,1,0,4,0,28,60,124,255,511,1023]
theorem newelref19_Serve.V5:rtab .any (opsOf Try.f23 11)=newelref19_Serve.T11:=by kernel_rfl
theorem newelref19_Serve.G2:Zp newelref19_Serve.T11.2 newelref19_Serve.B11=true:=by kernel_rfl
set_option maxHeartbeats 8000000 in
set_option maxRecDepth 100000 in
theorem newelref19_Serve.calls (k:Nat) (μ :Option Addr) (Y:Nat) (D:List (S56)) (ρ:Option Addr) (θ :Nat) (I:List (S62)) (J:Int) (O:Int) (X:Int) (r1:List (S56)) (r2:List (S62)) (w:World) (ω :Kd.C k56 w μ D.length D) (a2:D.length≤Y) (aj:Kd.C k62 w ρ I.length I) (al:I.length ≤ θ) (h:newelref19_Serve.f k D I J O X=some (r1,r2)):
  Calls Try.prog 23 #[.agg #[.slice μ D.length Y,.slice ρ I.length θ],.agg #[.int .i64 J,.int .i64 O,.int .i64 X]] w fun e w'=>∃ a6 b0:Value,e = .returned (.agg #[a6,b0])∧Kd.R k56 56 w' w.heap.size (fun _=>True) a6 r1∧Kd.R k62 62 w' w.heap.size (fun _=>True) b0 r2∧Below w.heap.size w w':=by
 have eh:=Try.underlying27
 have k4:=Try.underlying43
 have b2:=Try.underlying56
 have b9:=Try.underlying62
 have φ :=Aside0.mk ω
 have ab:=Aside0.mk a2
 clear ω a2
 have af:=Aside0.mk aj
 have cb:=Aside0.mk al
 clear aj al
 have HB:=Aside0.mk (Below.refl w.heap.size w)
 have H:(newelref19_Serve.l0 k 0 D I J O X ([]:List (S56)))=some (r1,r2):=h
 clear h
 have H':=Aside0.mk H
 clear H
 go_enter Try.func23,Try.ntmps23
 go_wp2_with (first|((with_reducible refine Qs (N:=2) rfl ?_);refine qE 2 #[.slice μ D.length Y,.slice ρ I.length θ] 27 ?_;intro κ hg w3 hbox hb;have U:=Aside0.mk hbox;have jl:=sGe hg;have jm:=sGe hg;replace HB:=sHb hb;clear hb hbox hg)|((with_reducible refine Qs (N:=3) rfl ?_);refine qE 3 #[.int .i64 J,.int .i64 O,.int .i64 X] 43 ?_;intro ac hg w4 hbox hb;have γ:=Aside0.mk hbox;have jn:=sGe hg;have jo:=sGe hg;have ar:=sNl U hg;have au:=sNg U hg;replace U:=sBk U hb;replace HB:=sHb hb;clear hb hbox hg)|((with_reducible refine Qs (N:=4) rfl ?_);refine qE 4 #[.slice none 0 0,.slice none 0 0] 27 ?_;intro d5 hg w5 hbox hb;have δ :=Aside0.mk hbox;have jp:=sGe hg;have jq:=sGe hg;have av:=sNl U hg;have aw:=sNg U hg;have ed:=sNl γ hg;have ee:=sNg γ hg;replace U:=sBk U hb;replace γ:=sBk γ hb;replace HB:=sHb hb;clear hb hbox hg)|((with_reducible refine Qs (N:=5) rfl ?_);refine qE 5 #[.slice none 0 0,.slice none 0 0] 27 ?_;intro ai hg w6 hbox hb;have Z:=Aside0.mk hbox;have jr:=sGe hg;have jt:=sGe hg;have a1:=sNl U hg;have a4:=sNg U hg;have ay:=sNl γ hg;have az:=sNg γ hg;have b1:=sNl δ hg;have b3:=sNg δ hg;replace U:=sBk U hb;replace γ:=sBk γ hb;replace δ :=sBk δ hb;replace HB:=sHb hb;clear hb hbox hg;have e5:=a4.out;have e6:=a1.out;have di:=az.out;have dj:=ay.out;have g9:=b3.out;have ge:=b1.out;obtain⟨ax,ba,bb,bc⟩:=qD2 Z.out))
 go_loopg [6] k (fun kq v6 w'=>∃ (L:Int) (ι :List (S56)) (η :Value),v6 = .int .i64 L∧Aside0 (newelref19_Serve.l0 kq L D I J O X ι = some (r1,r2))∧Aside0 (kq≤k)∧Aside0 (Kd.R k56 56 w' w.heap.size (fun _=>True) η ι)∧Aside0 (w'.heap[κ]?=some (.cells #[(.slice μ D.length Y),(.slice ρ I.length θ)] 27 (0,0)))∧Aside0 (w'.heap[ac]?=some (.cells #[.int .i64 J,.int .i64 O,.int .i64 X] 43 (0,0)))∧Aside0 (w'.heap[d5]?=some (.cells #[(.slice none 0 0),(.slice none 0 0)] 27 (0,0)))∧Aside0 (w'.heap[ai]?=some (.cells #[η,(.slice none 0 0)] 27 (0,0)))∧Aside0 (Below w.heap.size w w'))
 case atStart=>exact⟨(0),(([]:List (S56))),(.slice none 0 0),qR,H',⟨Nat.le_refl _⟩,⟨by first|exact Kd.Xz _ _ _ _ _|exact Kd.Yp _ _ _ _ _|exact Kd.Ym _ _ _ _ _|exact Kd.Yo _ _ _ _ _|exact Kd.Yn _ _ _ _ _⟩,⟨bka U⟩,⟨bka γ⟩,⟨bka δ⟩,⟨by(with_reducible repeat first|apply Qe|apply Qa|apply Qb);refine Qw (cs:=#[.slice none 0 0,.slice none 0 0]) ?_ 1 _ rfl;(with_reducible repeat first|apply Qe|apply Qa|apply Qb);refine Qw (cs:=#[.slice none 0 0,.slice none 0 0]) ?_ 0 _ rfl;(with_reducible repeat first|apply Qe|apply Qa|apply Qb);exact Z.out⟩,⟨bel⟩⟩
 case round=>
  clear H'
  try clear c2
  try clear p2
  try clear c7
  try clear c8
  try clear c9
  try clear ax
  try clear ba
  try clear bb
  try clear bc
  obtain⟨L,ι,η,rfl,HA,σ,HO_385000,U,γ,δ,Z,HB⟩:=hrel
  cases gk with
  |zero=>exact absurd HA.out (by simp[newelref19_Serve.l0])
  |succ k1=>
   have H:=HA.out
   clear HA
   simp only[newelref19_Serve.l0] at H
   by_cases ca:L<(D.length:Int)
   ·rw[if_pos ca] at H
    have c11b0:decide (L<(D.length:Int))=true:=decide_eq_true ca
    clear ca
    by_cases cj:0≤L
    ·rw[if_pos cj] at H
     have c12b0:decide (0≤L)=true:=decide_eq_true cj
     clear cj
     by_cases br:((Qg D L).f0)=O
     ·rw[if_pos br] at H
      have c13b0:(((Qg D L).f0)==O)=true:=beq_iff_eq.mpr br
      have c13b1:(((Qg D L).f0) != O)=false:=bne_eq_false_iff_eq.mpr br
      clear br
      by_cases a3:((Qg D L).f1)=X
      ·rw[if_pos a3] at H
       have c14b0:(((Qg D L).f1)==X)=true:=beq_iff_eq.mpr a3
       have c14b1:(((Qg D L).f1) != X)=false:=bne_eq_false_iff_eq.mpr a3
       clear a3
       have H':=Aside0.mk H
       clear H
       have fo:=ar.out
       have fp:=au.out
       have lg:=av.out
       have lh:=aw.out
       have gq:=a1.out
       have gr:=a4.out
       obtain⟨ej,ek,el,em⟩:=qD2 U.out
       try go_wp2
       replace HO_385000:=Aside0.mk (Kd.Qm HO_385000.out)
       replace U:=Aside0.mk (Qa U.out)
       replace γ:=Aside0.mk (Qa γ.out)
       replace δ :=Aside0.mk (Qa δ.out)
       replace Z:=Aside0.mk (Qa Z.out)
       replace HB:=Aside0.mk (Qf HB.out)
       have bn:0≤(L:Int):=of_decide_eq_true (by assumption)
       have bs:L<(D.length:Int):=of_decide_eq_true (by assumption)
       obtain⟨ε,dt,χ,ψ,a0⟩:=Zw φ.out L bn bs
       have b4:=a0
       have b5:= ψ
       have b6:= χ
       cases dt
       replace χ :=(HB.out.cell (World.block_lt_of_cell? w _ χ)).trans χ
       replace ψ :=(HB.out.cell (World.block_lt_of_cell? w _ ψ)).trans ψ
       replace a0:=(HB.out.cell (World.block_lt_of_cell? w _ a0)).trans a0
       replace bn:=eq_true bn
       replace bs:=eq_true bs
       have d6:0≤(L:Int):=of_decide_eq_true (by assumption)
       have d8:L<(D.length:Int):=of_decide_eq_true (by assumption)
       obtain⟨dv,ei,ak,am,an⟩:=Zw φ.out L d6 d8
       have cq:=an
       have cr:=am
       have ct:=ak
       obtain rfl: ε = dv:=(by injection ei)
       replace ak:=(HB.out.cell (World.block_lt_of_cell? w _ ak)).trans ak
       replace am:=(HB.out.cell (World.block_lt_of_cell? w _ am)).trans am
       replace an:=(HB.out.cell (World.block_lt_of_cell? w _ an)).trans an
       replace d6:=eq_true d6
       replace d8:=eq_true d8
       refine Zm (n:=20) (S:=fun w'=>w'.cell? ⟨κ,0,none⟩=some (.slice (some ε) D.length Y)∧w'.cell? ⟨κ,1,none⟩=some (.slice ρ I.length θ)∧w'.cell? ⟨ac,0,none⟩=some (.int .i64 J)∧w'.cell? ⟨ac,1,none⟩=some (.int .i64 O)∧w'.cell? ⟨ac,2,none⟩=some (.int .i64 X)∧w'.cell? (ε.add ((L).toNat * 3))=some (.int .i64 ((Qg D L).f0))∧w'.cell? ⟨(ε.add ((L).toNat * 3)).block,(ε.add ((L).toNat * 3)).off+1,none⟩=some (.int .i64 ((Qg D L).f1))∧w'.cell? ⟨(ε.add ((L).toNat * 3)).block,(ε.add ((L).toNat * 3)).off+2,none⟩=some (.int .i64 ((Qg D L).f2))∧w'.cell? (ε.add ((L).toNat * 3))=some (.int .i64 ((Qg D L).f0))∧w'.cell? ⟨(ε.add ((L).toNat * 3)).block,(ε.add ((L).toNat * 3)).off+1,none⟩=some (.int .i64 ((Qg D L).f1))∧w'.cell? ⟨(ε.add ((L).toNat * 3)).block,(ε.add ((L).toNat * 3)).off+2,none⟩=some (.int .i64 ((Qg D L).f2))) (ds:=[]) #[false,false,false,false,false,false,false,false,false,false,false,false,false,false,false,false,false,false,false,false] kr rfl rfl ⟨(Qi U.out 0).trans rfl,(Qi U.out 1).trans rfl,(Qi γ.out 0).trans rfl,(Qi γ.out 1).trans rfl,(Qi γ.out 2).trans rfl,((HB.out.cell (World.block_lt_of_cell? w _ b6)).trans b6),((HB.out.cell (World.block_lt_of_cell? w _ b5)).trans b5),((HB.out.cell (World.block_lt_of_cell? w _ b4)).trans b4),((HB.out.cell (World.block_lt_of_cell? w _ ct)).trans ct),((HB.out.cell (World.block_lt_of_cell? w _ cr)).trans cr),((HB.out.cell (World.block_lt_of_cell? w _ cq)).trans cq)⟩ (fun hHeld=>?_);refine Q7 newelref19_Serve.Vq newelref19_Serve.Kx (fun HT_ HW_=>?_)
       generalize wr.drew=fb at HO_385000 U γ δ Z HB χ ψ a0 ak am an hHeld ⊢
       refine qP 0 (some 16) (bN 20 1) HT_ ?_
       refine qP 2 (some 18) (bN 20 5) HT_ ?_
       refine qP 6 (some 22) (bN 20 69) HT_ ?_
       refine qT 1 (some 17) (bN 20 71) HT_ HW_ hHeld ?_
       refine qP 3 (some 19) (bN 20 79) HT_ ?_
       refine qP 4 (some 20) (bN 20 95) HT_ ?_
       refine qT 5 (some 21) (bN 20 127) HT_ HW_ hHeld ?_
       refine qT 7 (some 23) (bN 20 255) HT_ HW_ hHeld ?_
       refine qP 8 (some 24) (bN 20 511) HT_ ?_
       refine qP 9 (some 25) (bN 20 1023) HT_ ?_
       refine qP 10 (some 26) (bN 20 2047) HT_ ?_
       refine qP 12 (some 28) (bN 20 6143) HT_ ?_
       refine qP 16 (some 32) (bN 20 71679) HT_ ?_
       refine qT 11 (some 27) (bN 20 73727) HT_ HW_ hHeld ?_
       refine qP 13 (some 29) (bN 20 81919) HT_ ?_
       refine qP 14 (some 30) (bN 20 98303) HT_ ?_
       refine qT 15 (some 31) (bN 20 131071) HT_ HW_ hHeld ?_
       refine qT 17 (some 33) (bN 20 262143) HT_ HW_ hHeld ?_
       refine qP 18 (some 34) (bN 20 524287) HT_ ?_
       refine qP 19 (some 35) (bN 20 1048575) HT_ ?_
       refine Zr (Ze HT_.out kr) ?_
       try go_wp2
       go_roundg k1
       case measure=>have:=σ.out;omega
       case rel=>exact⟨(wrap64 (L+1)),(ι),(η),rfl,H',⟨by have:=σ.out;omega⟩,⟨by(with_reducible repeat first|apply Kd.Qk|apply Kd.Qj|apply Kd.Qm);exact HO_385000.out⟩,U,γ,δ,Z,HB⟩
      ·rw[if_neg a3] at H
       have c14b0:(((Qg D L).f1)==X)=false:=beq_eq_false_iff_ne.mpr a3
       have c14b1:(((Qg D L).f1) != X)=true:=bne_iff_ne.mpr a3
       by_cases dr: ι.length<5864062014805
       ·rw[if_pos dr] at H
        have fx:=Aside0.mk dr
        clear dr
        obtain⟨en,dd⟩:∃ y_:List (S56),y_=(ι ++ [(⟨(Qg D L).f0,(Qg D L).f1,(Qg D L).f2⟩:S56)]):=⟨_,rfl⟩
        replace H:(newelref19_Serve.l0 k1 (wrap64 (L+1)) D I J O X en)=some (r1,r2):=by first|(rw[dd];with_reducible exact H)|(have τ :=(Option.bind_some _ _).symm.trans H;rw[dd];with_reducible exact τ)|(have τ :=(Option.bind_some _ _).symm.trans H;with_reducible exact τ)|with_reducible exact H|(rw[dd];exact H)|exact H
        have g4:=Aside0.mk dd
        clear dd
        have H':=Aside0.mk H
        clear H
        have db:=ar.out
        have dc:=au.out
        have dx:=av.out
        have dy:=aw.out
        have dk:=a1.out
        have dm:=a4.out
        obtain⟨ci,ck,cm,cn⟩:=qD2 U.out
        try go_wp2
        replace HO_385000:=Aside0.mk (Kd.Qm HO_385000.out)
        replace U:=Aside0.mk (Qa U.out)
        replace γ:=Aside0.mk (Qa γ.out)
        replace δ :=Aside0.mk (Qa δ.out)
        replace Z:=Aside0.mk (Qa Z.out)
        replace HB:=Aside0.mk (Qf HB.out)
        have bn:0≤(L:Int):=of_decide_eq_true (by assumption)
        have bs:L<(D.length:Int):=of_decide_eq_true (by assumption)
        obtain⟨ε,dt,χ,ψ,a0⟩:=Zw φ.out L bn bs
        have b4:=a0
        have b5:= ψ
        have b6:= χ
        cases dt
        replace χ :=(HB.out.cell (World.block_lt_of_cell? w _ χ)).trans χ
        replace ψ :=(HB.out.cell (World.block_lt_of_cell? w _ ψ)).trans ψ
        replace a0:=(HB.out.cell (World.block_lt_of_cell? w _ a0)).trans a0
        replace bn:=eq_true bn
        replace bs:=eq_true bs
        have d6:0≤(L:Int):=of_decide_eq_true (by assumption)
        have d8:L<(D.length:Int):=of_decide_eq_true (by assumption)
        obtain⟨dv,ei,ak,am,an⟩:=Zw φ.out L d6 d8
        have cq:=an
        have cr:=am
        have ct:=ak
        obtain rfl: ε = dv:=(by injection ei)
        replace ak:=(HB.out.cell (World.block_lt_of_cell? w _ ak)).trans ak
        replace am:=(HB.out.cell (World.block_lt_of_cell? w _ am)).trans am
        replace an:=(HB.out.cell (World.block_lt_of_cell? w _ an)).trans an
        replace d6:=eq_true d6
        replace d8:=eq_true d8
        refine Zm (n:=20) (S:=fun w'=>w'.cell? ⟨κ,0,none⟩=some (.slice (some ε) D.length Y)∧w'.cell? ⟨κ,1,none⟩=some (.slice ρ I.length θ)∧w'.cell? ⟨ac,0,none⟩=some (.int .i64 J)∧w'.cell? ⟨ac,1,none⟩=some (.int .i64 O)∧w'.cell? ⟨ac,2,none⟩=some (.int .i64 X)∧w'.cell? (ε.add ((L).toNat * 3))=some (.int .i64 ((Qg D L).f0))∧w'.cell? ⟨(ε.add ((L).toNat * 3)).block,(ε.add ((L).toNat * 3)).off+1,none⟩=some (.int .i64 ((Qg D L).f1))∧w'.cell? ⟨(ε.add ((L).toNat * 3)).block,(ε.add ((L).toNat * 3)).off+2,none⟩=some (.int .i64 ((Qg D L).f2))∧w'.cell? (ε.add ((L).toNat * 3))=some (.int .i64 ((Qg D L).f0))∧w'.cell? ⟨(ε.add ((L).toNat * 3)).block,(ε.add ((L).toNat * 3)).off+1,none⟩=some (.int .i64 ((Qg D L).f1))∧w'.cell? ⟨(ε.add ((L).toNat * 3)).block,(ε.add ((L).toNat * 3)).off+2,none⟩=some (.int .i64 ((Qg D L).f2))) (ds:=[]) #[false,false,false,false,false,false,false,false,false,false,false,false,false,false,false,false,false,false,false,false] kr rfl rfl ⟨(Qi U.out 0).trans rfl,(Qi U.out 1).trans rfl,(Qi γ.out 0).trans rfl,(Qi γ.out 1).trans rfl,(Qi γ.out 2).trans rfl,((HB.out.cell (World.block_lt_of_cell? w _ b6)).trans b6),((HB.out.cell (World.block_lt_of_cell? w _ b5)).trans b5),((HB.out.cell (World.block_lt_of_cell? w _ b4)).trans b4),((HB.out.cell (World.block_lt_of_cell? w _ ct)).trans ct),((HB.out.cell (World.block_lt_of_cell? w _ cr)).trans cr),((HB.out.cell (World.block_lt_of_cell? w _ cq)).trans cq)⟩ (fun hHeld=>?_);refine Q7 newelref19_Serve.Vq newelref19_Serve.Kx (fun HT_ HW_=>?_)
        generalize wr.drew=fu at HO_385000 U γ δ Z HB χ ψ a0 ak am an hHeld ⊢
        refine qP 0 (some 16) (bN 20 1) HT_ ?_
        refine qP 2 (some 18) (bN 20 5) HT_ ?_
        refine qP 6 (some 22) (bN 20 69) HT_ ?_
        refine qT 1 (some 17) (bN 20 71) HT_ HW_ hHeld ?_
        refine qP 3 (some 19) (bN 20 79) HT_ ?_
        refine qP 4 (some 20) (bN 20 95) HT_ ?_
        refine qT 5 (some 21) (bN 20 127) HT_ HW_ hHeld ?_
        refine qT 7 (some 23) (bN 20 255) HT_ HW_ hHeld ?_
        refine qP 8 (some 24) (bN 20 511) HT_ ?_
        refine qP 9 (some 25) (bN 20 1023) HT_ ?_
        refine qP 10 (some 26) (bN 20 2047) HT_ ?_
        refine qP 12 (some 28) (bN 20 6143) HT_ ?_
        refine qP 16 (some 32) (bN 20 71679) HT_ ?_
        refine qT 11 (some 27) (bN 20 73727) HT_ HW_ hHeld ?_
        refine qP 13 (some 29) (bN 20 81919) HT_ ?_
        refine qP 14 (some 30) (bN 20 98303) HT_ ?_
        refine qT 15 (some 31) (bN 20 131071) HT_ HW_ hHeld ?_
        refine qT 17 (some 33) (bN 20 262143) HT_ HW_ hHeld ?_
        refine qP 18 (some 34) (bN 20 524287) HT_ ?_
        refine qP 19 (some 35) (bN 20 1048575) HT_ ?_
        refine Zr (Ze HT_.out kr) ?_
        try go_wp2
        replace HO_385000:=Aside0.mk (Kd.Qm HO_385000.out)
        replace U:=Aside0.mk (Qa U.out)
        replace γ:=Aside0.mk (Qa γ.out)
        replace δ :=Aside0.mk (Qa δ.out)
        replace Z:=Aside0.mk (Qa Z.out)
        replace HB:=Aside0.mk (Qf HB.out)
        have dw:0≤(L:Int):=of_decide_eq_true (by assumption)
        have e7:L<(D.length:Int):=of_decide_eq_true (by assumption)
        obtain⟨g5,gz,bu,bv,bw⟩:=Zw φ.out L dw e7
        have b7:=bw
        have b8:=bv
        have bd:=bu
        obtain rfl: ε = g5:=(by injection gz)
        replace bu:=(HB.out.cell (World.block_lt_of_cell? w _ bu)).trans bu
        replace bv:=(HB.out.cell (World.block_lt_of_cell? w _ bv)).trans bv
        replace bw:=(HB.out.cell (World.block_lt_of_cell? w _ bw)).trans bw
        replace dw:=eq_true dw
        replace e7:=eq_true e7
        refine Zm (n:=11) (S:=fun w'=>w'.cell? ⟨ai,0,none⟩=some (η)∧w'.cell? ⟨ai,1,none⟩=some (.slice none 0 0)∧w'.cell? ⟨κ,0,none⟩=some (.slice (some ε) D.length Y)∧w'.cell? ⟨κ,1,none⟩=some (.slice ρ I.length θ)∧w'.cell? (ε.add ((L).toNat * 3))=some (.int .i64 ((Qg D L).f0))∧w'.cell? ⟨(ε.add ((L).toNat * 3)).block,(ε.add ((L).toNat * 3)).off+1,none⟩=some (.int .i64 ((Qg D L).f1))∧w'.cell? ⟨(ε.add ((L).toNat * 3)).block,(ε.add ((L).toNat * 3)).off+2,none⟩=some (.int .i64 ((Qg D L).f2))) (ds:=[10]) #[false,false,false,false,false,false,false,false,false,false,false] kr rfl rfl ⟨(Qi Z.out 0).trans rfl,(Qi Z.out 1).trans rfl,(Qi U.out 0).trans rfl,(Qi U.out 1).trans rfl,((HB.out.cell (World.block_lt_of_cell? w _ bd)).trans bd),((HB.out.cell (World.block_lt_of_cell? w _ b8)).trans b8),((HB.out.cell (World.block_lt_of_cell? w _ b7)).trans b7)⟩ (fun hHeld=>?_);refine Q7 newelref19_Serve.Wv newelref19_Serve.Vm (fun HT_ HW_=>?_)
        generalize fu.drew=bq at HO_385000 U γ δ Z HB bu bv bw hHeld ⊢
        refine qP 0 (some 36) (bN 11 1) HT_ ?_
        refine qP 2 (some 38) (bN 11 5) HT_ ?_
        refine qP 4 (some 40) (bN 11 21) HT_ ?_
        refine qT 1 (some 37) (bN 11 23) HT_ HW_ hHeld ?_
        refine qT 3 (some 39) (bN 11 31) HT_ HW_ hHeld ?_
        refine qP 5 (some 41) (bN 11 63) HT_ ?_
        refine qT 6 (some 42) (bN 11 127) HT_ HW_ hHeld ?_
        refine Zi (i:=7) (N:=some 43) (bN 11 255) rfl rfl (Q2 HT_.out kr) (by decide) (fun K hK=>?_)
        refine Gs (w1:=?_) (v:=?_) (by rfl) rfl ?_ ?_
        rotate_left 2
        ·go_simp
         constructor
         ·rfl
         ·rfl
        refine hK.out _ _ ⟨(Qi (Qb Z.out _) 0).trans rfl,(Qi (Qb Z.out _) 1).trans rfl,(Qi (Qb U.out _) 0).trans rfl,(Qi (Qb U.out _) 1).trans rfl,(World.cell?_alloc_lt _ _ _ (World.block_lt_of_cell? _ _ (((HB.out.cell (World.block_lt_of_cell? w _ bd)).trans bd)))).trans (((HB.out.cell (World.block_lt_of_cell? w _ bd)).trans bd)),(World.cell?_alloc_lt _ _ _ (World.block_lt_of_cell? _ _ (((HB.out.cell (World.block_lt_of_cell? w _ b8)).trans b8)))).trans (((HB.out.cell (World.block_lt_of_cell? w _ b8)).trans b8)),(World.cell?_alloc_lt _ _ _ (World.block_lt_of_cell? _ _ (((HB.out.cell (World.block_lt_of_cell? w _ b7)).trans b7)))).trans (((HB.out.cell (World.block_lt_of_cell? w _ b7)).trans b7))⟩ (fun hHeld=>?_)
        clear hK K
        refine qN (some 43) ?_
        refine Zi (i:=8) (N:=some 44) (bN 11 511) rfl rfl (Q2 HT_.out kr) (by decide) (fun K hK=>?_)
        refine Kd.Yc k56 (w0:=w) w.heap.size (by rfl) (.tmp 37) (.tmp 43) 24 56 (.agg #[(.int .i64 0),(.int .i64 0),(.int .i64 0)]) 24 rfl Try.underlying24 Y0 rfl (by decide) (by omega) η ι (⟨(Qg D L).f0,(Qg D L).f1,(Qg D L).f2⟩:S56) [.int .i64 ((Qg D L).f0),.int .i64 ((Qg D L).f1),.int .i64 ((Qg D L).f2)] (fun _=>True) (fun _=>False) rfl rfl ?aP (fun _ hk=>hk.elim) ?aF ?aO ?aB ?aS ?aL ?_
        (case aP=>exact Yu _ _ _ (⟨(Qg D L).f0,(Qg D L).f1,(Qg D L).f2⟩:S56))
        (case aB=>exact HB.out)
        (case aF=>exact(fun _ _=>trivial))
        (case aO=>exact HO_385000.out)
        (case aS=>exact(Ql HB.out))
        (case aL=>have:=fx.out;omega)
        intro k8 dn ho hb hg hat
        rw[← g4.out] at ho
        have ez:=Aside0.mk ho
        replace U:=Aside0.mk (Q4 (g:= κ) (o:=.cells #[.slice (some ε) D.length Y,.slice ρ I.length θ] 27 (0,0)) U.out hg (Kd.Z4 HO_385000.out U.out (by decide)))
        replace γ:=Aside0.mk (Q4 (g:=ac) (o:=.cells #[.int .i64 J,.int .i64 O,.int .i64 X] 43 (0,0)) γ.out hg (Kd.Z4 HO_385000.out γ.out (by decide)))
        replace δ :=Aside0.mk (Q4 (g:=d5) (o:=.cells #[.slice none 0 0,.slice none 0 0] 27 (0,0)) δ.out hg (Kd.Z4 HO_385000.out δ.out (by decide)))
        replace Z:=Aside0.mk (Q4 (g:=ai) (o:=.cells #[η,.slice none 0 0] 27 (0,0)) Z.out hg (Kd.Z4 HO_385000.out Z.out (by decide)))
        replace HB:=Aside0.mk hb
        clear HO_385000
        clear ho hb hg hat
        obtain⟨cf,cg,ch⟩:=Kd.Q3 ez.out
        (first|subst ch|(injection ch with ν a7 ξ;have a8:= ν.symm;have a9:= ξ.symm;clear ν a7 ξ;subst a8;subst a9))
        refine hK.out _ _ ⟨qc Z,qc Z,qc U,qc U,((HB.out.cell (World.block_lt_of_cell? w _ bd)).trans bd),((HB.out.cell (World.block_lt_of_cell? w _ b8)).trans b8),((HB.out.cell (World.block_lt_of_cell? w _ b7)).trans b7)⟩ (fun hHeld=>?_)
        clear hK K
        refine qN (some 44) ?_
        refine qP 9 (some 45) (bN 11 1023) HT_ ?_
        refine Un (i:=10) (N:=none) #[true,true,true,true,true,true,true,true,true,true,true] rfl rfl (Q2 HT_.out kr) (by decide) (fun K hK=>?_)
        have h6:dn.cell? ⟨ai,0,none⟩=some (η):=(Qi Z.out 0).trans rfl
        have gl:=Q6 Z.out 0
        have f8:=a1.out
        have fa:=ay.out
        have fn:=b1.out
        have fq:=a4.out
        have ft:=az.out
        have fv:=b3.out
        refine Yl (w1:=?_) (by rfl) rfl ?_ ?_
        rotate_left
        ·go_simp
         rfl
        refine hK.out _ _ ?_
        clear hK K
        refine Zr (Ze HT_.out kr) ?_
        try go_wp2
        go_roundg k1
        case measure=>have:=σ.out;omega
        case rel=>exact⟨(wrap64 (L+1)),(en),(.slice cf en.length cg),qR,H',⟨by have:=σ.out;omega⟩,⟨by(with_reducible repeat first|apply Kd.Qk|apply Kd.Qj|apply Kd.Qm);exact Kd.Qq (Kd.Qr (Kd.Qu ez.out Z.out (by decide)) (fun _ hk=>hk.2) _) (fun _ hk=>trivial)⟩,⟨bka U⟩,⟨bka γ⟩,⟨bka δ⟩,⟨by(with_reducible repeat first|apply Qe|apply Qa|apply Qb);refine Qw (cs:=#[η,.slice none 0 0]) ?_ 0 _ rfl;(with_reducible repeat first|apply Qe|apply Qa|apply Qb);exact Z.out⟩,⟨bel⟩⟩
       ·rw[if_neg dr] at H
        exact absurd H (by simp)
     ·rw[if_neg br] at H
      have c13b0:(((Qg D L).f0)==O)=false:=beq_eq_false_iff_ne.mpr br
      have c13b1:(((Qg D L).f0) != O)=true:=bne_iff_ne.mpr br
      by_cases gy: ι.length<5864062014805
      ·rw[if_pos gy] at H
       have gb:=Aside0.mk gy
       clear gy
       obtain⟨eo,de⟩:∃ y_:List (S56),y_=(ι ++ [(⟨(Qg D L).f0,(Qg D L).f1,(Qg D L).f2⟩:S56)]):=⟨_,rfl⟩
       replace H:(newelref19_Serve.l0 k1 (wrap64 (L+1)) D I J O X eo)=some (r1,r2):=by first|(rw[de];with_reducible exact H)|(have τ :=(Option.bind_some _ _).symm.trans H;rw[de];with_reducible exact τ)|(have τ :=(Option.bind_some _ _).symm.trans H;with_reducible exact τ)|with_reducible exact H|(rw[de];exact H)|exact H
       have gf:=Aside0.mk de
       clear de
       have H':=Aside0.mk H
       clear H
       have g6:=ar.out
       have g7:=au.out
       have fr:=av.out
       have g1:=aw.out
       have ef:=a1.out
       have eg:=a4.out
       obtain⟨cw,d0,d1,d2⟩:=qD2 U.out
       try go_wp2
       replace HO_385000:=Aside0.mk (Kd.Qm HO_385000.out)
       replace U:=Aside0.mk (Qa U.out)
       replace γ:=Aside0.mk (Qa γ.out)
       replace δ :=Aside0.mk (Qa δ.out)
       replace Z:=Aside0.mk (Qa Z.out)
       replace HB:=Aside0.mk (Qf HB.out)
       have bn:0≤(L:Int):=of_decide_eq_true (by assumption)
       have bs:L<(D.length:Int):=of_decide_eq_true (by assumption)
       obtain⟨ε,dt,χ,ψ,a0⟩:=Zw φ.out L bn bs
       have b4:=a0
       have b5:= ψ
       have b6:= χ
       cases dt
       replace χ :=(HB.out.cell (World.block_lt_of_cell? w _ χ)).trans χ
       replace ψ :=(HB.out.cell (World.block_lt_of_cell? w _ ψ)).trans ψ
       replace a0:=(HB.out.cell (World.block_lt_of_cell? w _ a0)).trans a0
       replace bn:=eq_true bn
       replace bs:=eq_true bs
       refine Zm (n:=20) (S:=fun w'=>w'.cell? ⟨κ,0,none⟩=some (.slice (some ε) D.length Y)∧w'.cell? ⟨κ,1,none⟩=some (.slice ρ I.length θ)∧w'.cell? ⟨ac,0,none⟩=some (.int .i64 J)∧w'.cell? ⟨ac,1,none⟩=some (.int .i64 O)∧w'.cell? ⟨ac,2,none⟩=some (.int .i64 X)∧w'.cell? (ε.add ((L).toNat * 3))=some (.int .i64 ((Qg D L).f0))∧w'.cell? ⟨(ε.add ((L).toNat * 3)).block,(ε.add ((L).toNat * 3)).off+1,none⟩=some (.int .i64 ((Qg D L).f1))∧w'.cell? ⟨(ε.add ((L).toNat * 3)).block,(ε.add ((L).toNat * 3)).off+2,none⟩=some (.int .i64 ((Qg D L).f2))) (ds:=[]) #[false,false,false,false,false,false,false,false,false,false,false,false,false,false,false,false,false,false,false,false] kr rfl rfl ⟨(Qi U.out 0).trans rfl,(Qi U.out 1).trans rfl,(Qi γ.out 0).trans rfl,(Qi γ.out 1).trans rfl,(Qi γ.out 2).trans rfl,((HB.out.cell (World.block_lt_of_cell? w _ b6)).trans b6),((HB.out.cell (World.block_lt_of_cell? w _ b5)).trans b5),((HB.out.cell (World.block_lt_of_cell? w _ b4)).trans b4)⟩ (fun hHeld=>?_);refine Q7 newelref19_Serve.Vq newelref19_Serve.Kx (fun HT_ HW_=>?_)
       generalize wr.drew=g8 at HO_385000 U γ δ Z HB χ ψ a0 hHeld ⊢
       refine qP 0 (some 16) (bN 20 1) HT_ ?_
       refine qP 2 (some 18) (bN 20 5) HT_ ?_
       refine qP 6 (some 22) (bN 20 69) HT_ ?_
       refine qT 1 (some 17) (bN 20 71) HT_ HW_ hHeld ?_
       refine qP 3 (some 19) (bN 20 79) HT_ ?_
       refine qP 4 (some 20) (bN 20 95) HT_ ?_
       refine qT 5 (some 21) (bN 20 127) HT_ HW_ hHeld ?_
       refine qT 7 (some 23) (bN 20 255) HT_ HW_ hHeld ?_
       refine qP 8 (some 24) (bN 20 511) HT_ ?_
       refine qP 9 (some 25) (bN 20 1023) HT_ ?_
       refine qU 10 (some 26) (bN 20 2047) HT_ ?_
       refine qU 11 (some 27) (bN 20 4095) HT_ ?_
       refine qU 12 (some 28) (bN 20 8191) HT_ ?_
       refine qU 13 (some 29) (bN 20 16383) HT_ ?_
       refine qU 14 (some 30) (bN 20 32767) HT_ ?_
       refine qU 15 (some 31) (bN 20 65535) HT_ ?_
       refine qU 16 (some 32) (bN 20 131071) HT_ ?_
       refine qU 17 (some 33) (bN 20 262143) HT_ ?_
       refine qU 18 (some 34) (bN 20 524287) HT_ ?_
       refine qP 19 (some 35) (bN 20 1048575) HT_ ?_
       refine Zr (Ze HT_.out kr) ?_
       try go_wp2
       replace HO_385000:=Aside0.mk (Kd.Qm HO_385000.out)
       replace U:=Aside0.mk (Qa U.out)
       replace γ:=Aside0.mk (Qa γ.out)
       replace δ :=Aside0.mk (Qa δ.out)
       replace Z:=Aside0.mk (Qa Z.out)
       replace HB:=Aside0.mk (Qf HB.out)
       have e8:0≤(L:Int):=of_decide_eq_true (by assumption)
       have e9:L<(D.length:Int):=of_decide_eq_true (by assumption)
       obtain⟨gi,h0,bz,cd,ce⟩:=Zw φ.out L e8 e9
       have be:=ce
       have bf:=cd
       have bg:=bz
       obtain rfl: ε = gi:=(by injection h0)
       replace bz:=(HB.out.cell (World.block_lt_of_cell? w _ bz)).trans bz
       replace cd:=(HB.out.cell (World.block_lt_of_cell? w _ cd)).trans cd
       replace ce:=(HB.out.cell (World.block_lt_of_cell? w _ ce)).trans ce
       replace e8:=eq_true e8
       replace e9:=eq_true e9
       refine Zm (n:=11) (S:=fun w'=>w'.cell? ⟨ai,0,none⟩=some (η)∧w'.cell? ⟨ai,1,none⟩=some (.slice none 0 0)∧w'.cell? ⟨κ,0,none⟩=some (.slice (some ε) D.length Y)∧w'.cell? ⟨κ,1,none⟩=some (.slice ρ I.length θ)∧w'.cell? (ε.add ((L).toNat * 3))=some (.int .i64 ((Qg D L).f0))∧w'.cell? ⟨(ε.add ((L).toNat * 3)).block,(ε.add ((L).toNat * 3)).off+1,none⟩=some (.int .i64 ((Qg D L).f1))∧w'.cell? ⟨(ε.add ((L).toNat * 3)).block,(ε.add ((L).toNat * 3)).off+2,none⟩=some (.int .i64 ((Qg D L).f2))) (ds:=[10]) #[false,false,false,false,false,false,false,false,false,false,false] kr rfl rfl ⟨(Qi Z.out 0).trans rfl,(Qi Z.out 1).trans rfl,(Qi U.out 0).trans rfl,(Qi U.out 1).trans rfl,((HB.out.cell (World.block_lt_of_cell? w _ bg)).trans bg),((HB.out.cell (World.block_lt_of_cell? w _ bf)).trans bf),((HB.out.cell (World.block_lt_of_cell? w _ be)).trans be)⟩ (fun hHeld=>?_);refine Q7 newelref19_Serve.Wv newelref19_Serve.Vm (fun HT_ HW_=>?_)
       generalize g8.drew=nf at HO_385000 U γ δ Z HB bz cd ce hHeld ⊢
       refine qP 0 (some 36) (bN 11 1) HT_ ?_
       refine qP 2 (some 38) (bN 11 5) HT_ ?_
       refine qP 4 (some 40) (bN 11 21) HT_ ?_
       refine qT 1 (some 37) (bN 11 23) HT_ HW_ hHeld ?_
       refine qT 3 (some 39) (bN 11 31) HT_ HW_ hHeld ?_
       refine qP 5 (some 41) (bN 11 63) HT_ ?_
       refine qT 6 (some 42) (bN 11 127) HT_ HW_ hHeld ?_
       refine Zi (i:=7) (N:=some 43) (bN 11 255) rfl rfl (Q2 HT_.out kr) (by decide) (fun K hK=>?_)
       refine Gs (w1:=?_) (v:=?_) (by rfl) rfl ?_ ?_
       rotate_left 2
       ·go_simp
        constructor
        ·rfl
        ·rfl
       refine hK.out _ _ ⟨(Qi (Qb Z.out _) 0).trans rfl,(Qi (Qb Z.out _) 1).trans rfl,(Qi (Qb U.out _) 0).trans rfl,(Qi (Qb U.out _) 1).trans rfl,(World.cell?_alloc_lt _ _ _ (World.block_lt_of_cell? _ _ (((HB.out.cell (World.block_lt_of_cell? w _ bg)).trans bg)))).trans (((HB.out.cell (World.block_lt_of_cell? w _ bg)).trans bg)),(World.cell?_alloc_lt _ _ _ (World.block_lt_of_cell? _ _ (((HB.out.cell (World.block_lt_of_cell? w _ bf)).trans bf)))).trans (((HB.out.cell (World.block_lt_of_cell? w _ bf)).trans bf)),(World.cell?_alloc_lt _ _ _ (World.block_lt_of_cell? _ _ (((HB.out.cell (World.block_lt_of_cell? w _ be)).trans be)))).trans (((HB.out.cell (World.block_lt_of_cell? w _ be)).trans be))⟩ (fun hHeld=>?_)
       clear hK K
       refine qN (some 43) ?_
       refine Zi (i:=8) (N:=some 44) (bN 11 511) rfl rfl (Q2 HT_.out kr) (by decide) (fun K hK=>?_)
       refine Kd.Yc k56 (w0:=w) w.heap.size (by rfl) (.tmp 37) (.tmp 43) 24 56 (.agg #[(.int .i64 0),(.int .i64 0),(.int .i64 0)]) 24 rfl Try.underlying24 Y0 rfl (by decide) (by omega) η ι (⟨(Qg D L).f0,(Qg D L).f1,(Qg D L).f2⟩:S56) [.int .i64 ((Qg D L).f0),.int .i64 ((Qg D L).f1),.int .i64 ((Qg D L).f2)] (fun _=>True) (fun _=>False) rfl rfl ?aP (fun _ hk=>hk.elim) ?aF ?aO ?aB ?aS ?aL ?_
       (case aP=>exact Yu _ _ _ (⟨(Qg D L).f0,(Qg D L).f1,(Qg D L).f2⟩:S56))
       (case aB=>exact HB.out)
       (case aF=>exact(fun _ _=>trivial))
       (case aO=>exact HO_385000.out)
       (case aS=>exact(Ql HB.out))
       (case aL=>have:=gb.out;omega)
       intro k9 il ho hb hg hat
       rw[← gf.out] at ho
       have f3:=Aside0.mk ho
       replace U:=Aside0.mk (Q4 (g:= κ) (o:=.cells #[.slice (some ε) D.length Y,.slice ρ I.length θ] 27 (0,0)) U.out hg (Kd.Z4 HO_385000.out U.out (by decide)))
       replace γ:=Aside0.mk (Q4 (g:=ac) (o:=.cells #[.int .i64 J,.int .i64 O,.int .i64 X] 43 (0,0)) γ.out hg (Kd.Z4 HO_385000.out γ.out (by decide)))
       replace δ :=Aside0.mk (Q4 (g:=d5) (o:=.cells #[.slice none 0 0,.slice none 0 0] 27 (0,0)) δ.out hg (Kd.Z4 HO_385000.out δ.out (by decide)))
       replace Z:=Aside0.mk (Q4 (g:=ai) (o:=.cells #[η,.slice none 0 0] 27 (0,0)) Z.out hg (Kd.Z4 HO_385000.out Z.out (by decide)))
       replace HB:=Aside0.mk hb
       clear HO_385000
       clear ho hb hg hat
       obtain⟨bo,bp,i3⟩:=Kd.Q3 f3.out
       (first|subst i3|(injection i3 with ν a7 ξ;have a8:= ν.symm;have a9:= ξ.symm;clear ν a7 ξ;subst a8;subst a9))
       refine hK.out _ _ ⟨qc Z,qc Z,qc U,qc U,((HB.out.cell (World.block_lt_of_cell? w _ bg)).trans bg),((HB.out.cell (World.block_lt_of_cell? w _ bf)).trans bf),((HB.out.cell (World.block_lt_of_cell? w _ be)).trans be)⟩ (fun hHeld=>?_)
       clear hK K
       refine qN (some 44) ?_
       refine qP 9 (some 45) (bN 11 1023) HT_ ?_
       refine Un (i:=10) (N:=none) #[true,true,true,true,true,true,true,true,true,true,true] rfl rfl (Q2 HT_.out kr) (by decide) (fun K hK=>?_)
       have ka:il.cell? ⟨ai,0,none⟩=some (η):=(Qi Z.out 0).trans rfl
       have ju:=Q6 Z.out 0
       have ih:=a1.out
       have ii:=ay.out
       have ij:=b1.out
       have ik:=a4.out
       have ir:=az.out
       have it:=b3.out
       refine Yl (w1:=?_) (by rfl) rfl ?_ ?_
       rotate_left
       ·go_simp
        rfl
       refine hK.out _ _ ?_
       clear hK K
       refine Zr (Ze HT_.out kr) ?_
       try go_wp2
       go_roundg k1
       case measure=>have:=σ.out;omega
       case rel=>exact⟨(wrap64 (L+1)),(eo),(.slice bo eo.length bp),qR,H',⟨by have:=σ.out;omega⟩,⟨by(with_reducible repeat first|apply Kd.Qk|apply Kd.Qj|apply Kd.Qm);exact Kd.Qq (Kd.Qr (Kd.Qu f3.out Z.out (by decide)) (fun _ hk=>hk.2) _) (fun _ hk=>trivial)⟩,⟨bka U⟩,⟨bka γ⟩,⟨bka δ⟩,⟨by(with_reducible repeat first|apply Qe|apply Qa|apply Qb);refine Qw (cs:=#[η,.slice none 0 0]) ?_ 0 _ rfl;(with_reducible repeat first|apply Qe|apply Qa|apply Qb);exact Z.out⟩,⟨bel⟩⟩
      ·rw[if_neg gy] at H
       exact absurd H (by simp)
    ·rw[if_neg cj] at H
     exact absurd H (by simp)
   ·rw[if_neg ca] at H
    have c11b0:decide (L<(D.length:Int))=false:=decide_eq_false ca
    clear ca
    have H':=Aside0.mk H
    clear H
    have dp:=ar.out
    have dq:=au.out
    have h4:=av.out
    have h5:=aw.out
    have g3:=a1.out
    have ga:=a4.out
    obtain⟨fj,fk,fl,fm⟩:=qD2 U.out
    go_wp2
    go_loopg [7] k1 (fun kq v7 w'=>∃ (B:Int) (ae:List (S62)) (ah:Value),v7 = .int .i64 B∧Aside0 (newelref19_Serve.l1 kq B D I J O X ι ae=some (r1,r2))∧Aside0 (kq≤k1)∧Aside0 (Kd.R k56 56 w' w.heap.size (fun _=>True) η ι)∧Aside0 (Kd.R k62 62 w' w.heap.size (fun _=>True) ah ae)∧Aside0 (w'.heap[κ]?=some (.cells #[(.slice μ D.length Y),(.slice ρ I.length θ)] 27 (0,0)))∧Aside0 (w'.heap[ac]?=some (.cells #[.int .i64 J,.int .i64 O,.int .i64 X] 43 (0,0)))∧Aside0 (w'.heap[d5]?=some (.cells #[(.slice none 0 0),(.slice none 0 0)] 27 (0,0)))∧Aside0 (w'.heap[ai]?=some (.cells #[η,ah] 27 (0,0)))∧Aside0 (Below w.heap.size w w'))
    case atStart=>exact⟨(0),(([]:List (S62))),(.slice none 0 0),rfl,H',⟨Nat.le_refl _⟩,⟨by(with_reducible repeat first|apply Kd.Qk|apply Kd.Qj|apply Kd.Qm);exact HO_385000.out⟩,⟨by first|exact Kd.Xz _ _ _ _ _|exact Kd.Yp _ _ _ _ _|exact Kd.Ym _ _ _ _ _|exact Kd.Yo _ _ _ _ _|exact Kd.Yn _ _ _ _ _⟩,U,γ,δ,Z,HB⟩
    case round=>
     clear H'
     try clear c1
     try clear c2
     try clear p2
     try clear c3
     try clear p3
     try clear q3
     try clear js
     try clear c4
     try clear p6
     try clear ca
     try clear c11b0
     try clear cj
     try clear br
     try clear c13b0
     try clear c13b1
     try clear dr
     try clear gy
     try clear ls
     try clear iy
     try clear j9
     try clear p38
     try clear ki
     try clear kb
     try clear p39
     try clear kj
     try clear kd
     try clear ip
     try clear lz
     try clear cu
     try clear cw
     try clear d0
     try clear fj
     try clear fk
     try clear d1
     try clear d2
     try clear fl
     try clear fm
     try clear χ
     try clear ψ
     try clear a0
     try clear bu
     try clear bv
     try clear bw
     try clear bz
     try clear cd
     try clear ce
     try clear bn
     try clear dw
     try clear e8
     try clear bs
     try clear e7
     try clear e9
     obtain⟨B,ae,ah,rfl,HA,ag,HO_385000,HO_385001,U,γ,δ,Z,HB⟩:=hrel
     cases gk with
     |zero=>exact absurd HA.out (by simp[newelref19_Serve.l1])
     |succ k2=>
      have H:=HA.out
      clear HA
      simp only[newelref19_Serve.l1] at H
      by_cases dl:B<(I.length:Int)
      ·rw[if_pos dl] at H
       have c44b0:decide (B<(I.length:Int))=true:=decide_eq_true dl
       clear dl
       by_cases g0:0≤B
       ·rw[if_pos g0] at H
        have c45b0:decide (0≤B)=true:=decide_eq_true g0
        clear g0
        by_cases ec:((Qo I B).f1)=O
        ·rw[if_pos ec] at H
         have c46b0:(((Qo I B).f1)==O)=true:=beq_iff_eq.mpr ec
         have c46b1:(((Qo I B).f1) != O)=false:=bne_eq_false_iff_eq.mpr ec
         clear ec
         by_cases fe:((Qo I B).f0)=J
         ·rw[if_pos fe] at H
          have c47b0:(((Qo I B).f0)==J)=true:=beq_iff_eq.mpr fe
          have c47b1:(((Qo I B).f0) != J)=false:=bne_eq_false_iff_eq.mpr fe
          clear fe
          have H':=Aside0.mk H
          clear H
          have jv:=ar.out
          have jw:=au.out
          have k5:=av.out
          have k6:=aw.out
          have ie:=a1.out
          have ig:=a4.out
          obtain⟨hj,hl,hu,hx⟩:=qD2 U.out
          try go_wp2
          replace HO_385000:=Aside0.mk (Kd.Qm HO_385000.out)
          replace HO_385001:=Aside0.mk (Kd.Qm HO_385001.out)
          replace U:=Aside0.mk (Qa U.out)
          replace γ:=Aside0.mk (Qa γ.out)
          replace δ :=Aside0.mk (Qa δ.out)
          replace Z:=Aside0.mk (Qa Z.out)
          replace HB:=Aside0.mk (Qf HB.out)
          have co:0≤(B:Int):=of_decide_eq_true (by assumption)
          have cp:B<(I.length:Int):=of_decide_eq_true (by assumption)
          obtain⟨ζ,du,a5,aa⟩:=Zu af.out B co cp
          have bh:=aa
          have bi:=a5
          cases du
          replace a5:=(HB.out.cell (World.block_lt_of_cell? w _ a5)).trans a5
          replace aa:=(HB.out.cell (World.block_lt_of_cell? w _ aa)).trans aa
          replace co:=eq_true co
          replace cp:=eq_true cp
          have d9:0≤(B:Int):=of_decide_eq_true (by assumption)
          have da:B<(I.length:Int):=of_decide_eq_true (by assumption)
          obtain⟨ea,ep,ao,ap⟩:=Zu af.out B d9 da
          have cv:=ap
          have cx:=ao
          obtain rfl: ζ = ea:=(by injection ep)
          replace ao:=(HB.out.cell (World.block_lt_of_cell? w _ ao)).trans ao
          replace ap:=(HB.out.cell (World.block_lt_of_cell? w _ ap)).trans ap
          replace d9:=eq_true d9
          replace da:=eq_true da
          refine Zm (n:=20) (S:=fun w'=>w'.cell? ⟨κ,0,none⟩=some (.slice μ D.length Y)∧w'.cell? ⟨κ,1,none⟩=some (.slice (some ζ) I.length θ)∧w'.cell? ⟨ac,0,none⟩=some (.int .i64 J)∧w'.cell? ⟨ac,1,none⟩=some (.int .i64 O)∧w'.cell? ⟨ac,2,none⟩=some (.int .i64 X)∧w'.cell? (ζ.add ((B).toNat * 2))=some (.int .i64 ((Qo I B).f0))∧w'.cell? ⟨(ζ.add ((B).toNat * 2)).block,(ζ.add ((B).toNat * 2)).off+1,none⟩=some (.int .i64 ((Qo I B).f1))∧w'.cell? (ζ.add ((B).toNat * 2))=some (.int .i64 ((Qo I B).f0))∧w'.cell? ⟨(ζ.add ((B).toNat * 2)).block,(ζ.add ((B).toNat * 2)).off+1,none⟩=some (.int .i64 ((Qo I B).f1))) (ds:=[]) #[false,false,false,false,false,false,false,false,false,false,false,false,false,false,false,false,false,false,false,false] kr rfl rfl ⟨(Qi U.out 0).trans rfl,(Qi U.out 1).trans rfl,(Qi γ.out 0).trans rfl,(Qi γ.out 1).trans rfl,(Qi γ.out 2).trans rfl,((HB.out.cell (World.block_lt_of_cell? w _ bi)).trans bi),((HB.out.cell (World.block_lt_of_cell? w _ bh)).trans bh),((HB.out.cell (World.block_lt_of_cell? w _ cx)).trans cx),((HB.out.cell (World.block_lt_of_cell? w _ cv)).trans cv)⟩ (fun hHeld=>?_);refine Q7 newelref19_Serve.V6 newelref19_Serve.G3 (fun HT_ HW_=>?_)
          generalize wr.drew=sk at HO_385000 HO_385001 U γ δ Z HB a5 aa ao ap hHeld ⊢
          refine qP 0 (some 53) (bN 20 1) HT_ ?_
          refine qP 2 (some 55) (bN 20 5) HT_ ?_
          refine qP 6 (some 59) (bN 20 69) HT_ ?_
          refine qT 1 (some 54) (bN 20 71) HT_ HW_ hHeld ?_
          refine qP 3 (some 56) (bN 20 79) HT_ ?_
          refine qP 4 (some 57) (bN 20 95) HT_ ?_
          refine qT 5 (some 58) (bN 20 127) HT_ HW_ hHeld ?_
          refine qT 7 (some 60) (bN 20 255) HT_ HW_ hHeld ?_
          refine qP 8 (some 61) (bN 20 511) HT_ ?_
          refine qP 9 (some 62) (bN 20 1023) HT_ ?_
          refine qP 10 (some 63) (bN 20 2047) HT_ ?_
          refine qP 12 (some 65) (bN 20 6143) HT_ ?_
          refine qP 16 (some 69) (bN 20 71679) HT_ ?_
          refine qT 11 (some 64) (bN 20 73727) HT_ HW_ hHeld ?_
          refine qP 13 (some 66) (bN 20 81919) HT_ ?_
          refine qP 14 (some 67) (bN 20 98303) HT_ ?_
          refine qT 15 (some 68) (bN 20 131071) HT_ HW_ hHeld ?_
          refine qT 17 (some 70) (bN 20 262143) HT_ HW_ hHeld ?_
          refine qP 18 (some 71) (bN 20 524287) HT_ ?_
          refine qP 19 (some 72) (bN 20 1048575) HT_ ?_
          refine Zr (Ze HT_.out kr) ?_
          try go_wp2
          go_roundg k2
          case measure=>have:=σ.out;have:=ag.out;omega
          case rel=>exact⟨(wrap64 (B+1)),(ae),(ah),rfl,H',⟨by have:=σ.out;have:=ag.out;omega⟩,⟨by(with_reducible repeat first|apply Kd.Qk|apply Kd.Qj|apply Kd.Qm);exact HO_385000.out⟩,⟨by(with_reducible repeat first|apply Kd.Qk|apply Kd.Qj|apply Kd.Qm);exact HO_385001.out⟩,U,γ,δ,Z,HB⟩
         ·rw[if_neg fe] at H
          have c47b0:(((Qo I B).f0)==J)=false:=beq_eq_false_iff_ne.mpr fe
          have c47b1:(((Qo I B).f0) != J)=true:=bne_iff_ne.mpr fe
          by_cases d7:ae.length<8796093022208
          ·rw[if_pos d7] at H
           have gj:=Aside0.mk d7
           clear d7
           obtain⟨er,df⟩:∃ y_:List (S62),y_=(ae ++ [(⟨(Qo I B).f0,(Qo I B).f1⟩:S62)]):=⟨_,rfl⟩
           replace H:(newelref19_Serve.l1 k2 (wrap64 (B+1)) D I J O X ι er)=some (r1,r2):=by first|(rw[df];with_reducible exact H)|(have τ :=(Option.bind_some _ _).symm.trans H;rw[df];with_reducible exact τ)|(have τ :=(Option.bind_some _ _).symm.trans H;with_reducible exact τ)|with_reducible exact H|(rw[df];exact H)|exact H
           have gm:=Aside0.mk df
           clear df
           have H':=Aside0.mk H
           clear H
           have nw:=ar.out
           have nx:=au.out
           have l9:=av.out
           have lb:=aw.out
           have jy:=a1.out
           have jz:=a4.out
           obtain⟨dz,e0,e3,e4⟩:=qD2 U.out
           try go_wp2
           replace HO_385000:=Aside0.mk (Kd.Qm HO_385000.out)
           replace HO_385001:=Aside0.mk (Kd.Qm HO_385001.out)
           replace U:=Aside0.mk (Qa U.out)
           replace γ:=Aside0.mk (Qa γ.out)
           replace δ :=Aside0.mk (Qa δ.out)
           replace Z:=Aside0.mk (Qa Z.out)
           replace HB:=Aside0.mk (Qf HB.out)
           have co:0≤(B:Int):=of_decide_eq_true (by assumption)
           have cp:B<(I.length:Int):=of_decide_eq_true (by assumption)
           obtain⟨ζ,du,a5,aa⟩:=Zu af.out B co cp
           have bh:=aa
           have bi:=a5
           cases du
           replace a5:=(HB.out.cell (World.block_lt_of_cell? w _ a5)).trans a5
           replace aa:=(HB.out.cell (World.block_lt_of_cell? w _ aa)).trans aa
           replace co:=eq_true co
           replace cp:=eq_true cp
           have d9:0≤(B:Int):=of_decide_eq_true (by assumption)
           have da:B<(I.length:Int):=of_decide_eq_true (by assumption)
           obtain⟨ea,ep,ao,ap⟩:=Zu af.out B d9 da
           have cv:=ap
           have cx:=ao
           obtain rfl: ζ = ea:=(by injection ep)
           replace ao:=(HB.out.cell (World.block_lt_of_cell? w _ ao)).trans ao
           replace ap:=(HB.out.cell (World.block_lt_of_cell? w _ ap)).trans ap
           replace d9:=eq_true d9
           replace da:=eq_true da
           refine Zm (n:=20) (S:=fun w'=>w'.cell? ⟨κ,0,none⟩=some (.slice μ D.length Y)∧w'.cell? ⟨κ,1,none⟩=some (.slice (some ζ) I.length θ)∧w'.cell? ⟨ac,0,none⟩=some (.int .i64 J)∧w'.cell? ⟨ac,1,none⟩=some (.int .i64 O)∧w'.cell? ⟨ac,2,none⟩=some (.int .i64 X)∧w'.cell? (ζ.add ((B).toNat * 2))=some (.int .i64 ((Qo I B).f0))∧w'.cell? ⟨(ζ.add ((B).toNat * 2)).block,(ζ.add ((B).toNat * 2)).off+1,none⟩=some (.int .i64 ((Qo I B).f1))∧w'.cell? (ζ.add ((B).toNat * 2))=some (.int .i64 ((Qo I B).f0))∧w'.cell? ⟨(ζ.add ((B).toNat * 2)).block,(ζ.add ((B).toNat * 2)).off+1,none⟩=some (.int .i64 ((Qo I B).f1))) (ds:=[]) #[false,false,false,false,false,false,false,false,false,false,false,false,false,false,false,false,false,false,false,false] kr rfl rfl ⟨(Qi U.out 0).trans rfl,(Qi U.out 1).trans rfl,(Qi γ.out 0).trans rfl,(Qi γ.out 1).trans rfl,(Qi γ.out 2).trans rfl,((HB.out.cell (World.block_lt_of_cell? w _ bi)).trans bi),((HB.out.cell (World.block_lt_of_cell? w _ bh)).trans bh),((HB.out.cell (World.block_lt_of_cell? w _ cx)).trans cx),((HB.out.cell (World.block_lt_of_cell? w _ cv)).trans cv)⟩ (fun hHeld=>?_);refine Q7 newelref19_Serve.V6 newelref19_Serve.G3 (fun HT_ HW_=>?_)
           generalize wr.drew=iu at HO_385000 HO_385001 U γ δ Z HB a5 aa ao ap hHeld ⊢
           refine qP 0 (some 53) (bN 20 1) HT_ ?_
           refine qP 2 (some 55) (bN 20 5) HT_ ?_
           refine qP 6 (some 59) (bN 20 69) HT_ ?_
           refine qT 1 (some 54) (bN 20 71) HT_ HW_ hHeld ?_
           refine qP 3 (some 56) (bN 20 79) HT_ ?_
           refine qP 4 (some 57) (bN 20 95) HT_ ?_
           refine qT 5 (some 58) (bN 20 127) HT_ HW_ hHeld ?_
           refine qT 7 (some 60) (bN 20 255) HT_ HW_ hHeld ?_
           refine qP 8 (some 61) (bN 20 511) HT_ ?_
           refine qP 9 (some 62) (bN 20 1023) HT_ ?_
           refine qP 10 (some 63) (bN 20 2047) HT_ ?_
           refine qP 12 (some 65) (bN 20 6143) HT_ ?_
           refine qP 16 (some 69) (bN 20 71679) HT_ ?_
           refine qT 11 (some 64) (bN 20 73727) HT_ HW_ hHeld ?_
           refine qP 13 (some 66) (bN 20 81919) HT_ ?_
           refine qP 14 (some 67) (bN 20 98303) HT_ ?_
           refine qT 15 (some 68) (bN 20 131071) HT_ HW_ hHeld ?_
           refine qT 17 (some 70) (bN 20 262143) HT_ HW_ hHeld ?_
           refine qP 18 (some 71) (bN 20 524287) HT_ ?_
           refine qP 19 (some 72) (bN 20 1048575) HT_ ?_
           refine Zr (Ze HT_.out kr) ?_
           try go_wp2
           replace HO_385000:=Aside0.mk (Kd.Qm HO_385000.out)
           replace HO_385001:=Aside0.mk (Kd.Qm HO_385001.out)
           replace U:=Aside0.mk (Qa U.out)
           replace γ:=Aside0.mk (Qa γ.out)
           replace δ :=Aside0.mk (Qa δ.out)
           replace Z:=Aside0.mk (Qa Z.out)
           replace HB:=Aside0.mk (Qf HB.out)
           have et:0≤(B:Int):=of_decide_eq_true (by assumption)
           have eu:B<(I.length:Int):=of_decide_eq_true (by assumption)
           obtain⟨gn,h7,cy,cz⟩:=Zu af.out B et eu
           have bj:=cz
           have bk:=cy
           obtain rfl: ζ = gn:=(by injection h7)
           replace cy:=(HB.out.cell (World.block_lt_of_cell? w _ cy)).trans cy
           replace cz:=(HB.out.cell (World.block_lt_of_cell? w _ cz)).trans cz
           replace et:=eq_true et
           replace eu:=eq_true eu
           refine Zm (n:=11) (S:=fun w'=>w'.cell? ⟨ai,0,none⟩=some (η)∧w'.cell? ⟨ai,1,none⟩=some (ah)∧w'.cell? ⟨κ,0,none⟩=some (.slice μ D.length Y)∧w'.cell? ⟨κ,1,none⟩=some (.slice (some ζ) I.length θ)∧w'.cell? (ζ.add ((B).toNat * 2))=some (.int .i64 ((Qo I B).f0))∧w'.cell? ⟨(ζ.add ((B).toNat * 2)).block,(ζ.add ((B).toNat * 2)).off+1,none⟩=some (.int .i64 ((Qo I B).f1))) (ds:=[10]) #[false,false,false,false,false,false,false,false,false,false,false] kr rfl rfl ⟨(Qi Z.out 0).trans rfl,(Qi Z.out 1).trans rfl,(Qi U.out 0).trans rfl,(Qi U.out 1).trans rfl,((HB.out.cell (World.block_lt_of_cell? w _ bk)).trans bk),((HB.out.cell (World.block_lt_of_cell? w _ bj)).trans bj)⟩ (fun hHeld=>?_);refine Q7 newelref19_Serve.V5 newelref19_Serve.G2 (fun HT_ HW_=>?_)
           generalize iu.drew=lu at HO_385000 HO_385001 U γ δ Z HB cy cz hHeld ⊢
           refine qP 0 (some 73) (bN 11 1) HT_ ?_
           refine qP 2 (some 75) (bN 11 5) HT_ ?_
           refine qP 4 (some 77) (bN 11 21) HT_ ?_
           refine qT 1 (some 74) (bN 11 23) HT_ HW_ hHeld ?_
           refine qT 3 (some 76) (bN 11 31) HT_ HW_ hHeld ?_
           refine qP 5 (some 78) (bN 11 63) HT_ ?_
           refine qT 6 (some 79) (bN 11 127) HT_ HW_ hHeld ?_
           refine Zi (i:=7) (N:=some 80) (bN 11 255) rfl rfl (Q2 HT_.out kr) (by decide) (fun K hK=>?_)
           refine Gs (w1:=?_) (v:=?_) (by rfl) rfl ?_ ?_
           rotate_left 2
           ·go_simp
            constructor
            ·rfl
            ·rfl
           refine hK.out _ _ ⟨(Qi (Qb Z.out _) 0).trans rfl,(Qi (Qb Z.out _) 1).trans rfl,(Qi (Qb U.out _) 0).trans rfl,(Qi (Qb U.out _) 1).trans rfl,(World.cell?_alloc_lt _ _ _ (World.block_lt_of_cell? _ _ (((HB.out.cell (World.block_lt_of_cell? w _ bk)).trans bk)))).trans (((HB.out.cell (World.block_lt_of_cell? w _ bk)).trans bk)),(World.cell?_alloc_lt _ _ _ (World.block_lt_of_cell? _ _ (((HB.out.cell (World.block_lt_of_cell? w _ bj)).trans bj)))).trans (((HB.out.cell (World.block_lt_of_cell? w _ bj)).trans bj))⟩ (fun hHeld=>?_)
           clear hK K
           refine qN (some 80) ?_
           refine Zi (i:=8) (N:=some 81) (bN 11 511) rfl rfl (Q2 HT_.out kr) (by decide) (fun K hK=>?_)
           refine Kd.Yc k62 (w0:=w) w.heap.size (by rfl) (.tmp 74) (.tmp 80) 25 62 (.agg #[(.int .i64 0),(.int .i64 0)]) 16 rfl Try.underlying25 Ji rfl (by decide) (by omega) ah ae (⟨(Qo I B).f0,(Qo I B).f1⟩:S62) [.int .i64 ((Qo I B).f0),.int .i64 ((Qo I B).f1)] (fun _=>True) (fun _=>False) rfl rfl ?aP (fun _ hk=>hk.elim) ?aF ?aO ?aB ?aS ?aL ?_
           (case aP=>exact Jp _ _ _ (⟨(Qo I B).f0,(Qo I B).f1⟩:S62))
           (case aB=>exact HB.out)
           (case aF=>exact(fun _ _=>trivial))
           (case aO=>exact HO_385001.out)
           (case aS=>exact(Ql HB.out))
           (case aL=>have:=gj.out;omega)
           intro ke gx ho hb hg hat
           rw[← gm.out] at ho
           have f5:=Aside0.mk ho
           replace HO_385000:=Aside0.mk (Kd.Kz HO_385000.out (Kd.Ky HO_385001.out) (by decide) hg)
           replace U:=Aside0.mk (Q4 (g:= κ) (o:=.cells #[.slice μ D.length Y,.slice (some ζ) I.length θ] 27 (0,0)) U.out hg (Kd.Z4 HO_385001.out U.out (by decide)))
           replace γ:=Aside0.mk (Q4 (g:=ac) (o:=.cells #[.int .i64 J,.int .i64 O,.int .i64 X] 43 (0,0)) γ.out hg (Kd.Z4 HO_385001.out γ.out (by decide)))
           replace δ :=Aside0.mk (Q4 (g:=d5) (o:=.cells #[.slice none 0 0,.slice none 0 0] 27 (0,0)) δ.out hg (Kd.Z4 HO_385001.out δ.out (by decide)))
           replace Z:=Aside0.mk (Q4 (g:=ai) (o:=.cells #[η,ah] 27 (0,0)) Z.out hg (Kd.Z4 HO_385001.out Z.out (by decide)))
           replace HB:=Aside0.mk hb
           clear HO_385001
           clear ho hb hg hat
           obtain⟨h8,h9,fc⟩:=Kd.Q3 f5.out
           (first|subst fc|(injection fc with ν a7 ξ;have a8:= ν.symm;have a9:= ξ.symm;clear ν a7 ξ;subst a8;subst a9))
           refine hK.out _ _ ⟨qc Z,qc Z,qc U,qc U,((HB.out.cell (World.block_lt_of_cell? w _ bk)).trans bk),((HB.out.cell (World.block_lt_of_cell? w _ bj)).trans bj)⟩ (fun hHeld=>?_)
           clear hK K
           refine qN (some 81) ?_
           refine qP 9 (some 82) (bN 11 1023) HT_ ?_
           refine Un (i:=10) (N:=none) #[true,true,true,true,true,true,true,true,true,true,true] rfl rfl (Q2 HT_.out kr) (by decide) (fun K hK=>?_)
           have kf:gx.cell? ⟨ai,1,none⟩=some (ah):=(Qi Z.out 1).trans rfl
           have jx:=Q6 Z.out 1
           have iv:=a1.out
           have iw:=ay.out
           have ix:=b1.out
           have iz:=a4.out
           have j3:=az.out
           have j4:=b3.out
           refine Yl (w1:=?_) (by rfl) rfl ?_ ?_
           rotate_left
           ·go_simp
            rfl
           refine hK.out _ _ ?_
           clear hK K
           refine Zr (Ze HT_.out kr) ?_
           try go_wp2
           go_roundg k2
           case measure=>have:=σ.out;have:=ag.out;omega
           case rel=>exact⟨(wrap64 (B+1)),(er),(.slice h8 er.length h9),qR,H',⟨by have:=σ.out;have:=ag.out;omega⟩,⟨by(with_reducible repeat first|apply Kd.Qk|apply Kd.Qj|apply Kd.Qm);exact Kd.Qq (Kd.Qr (Kd.Qu HO_385000.out Z.out (by decide)) (fun _ hk=>hk.2) _) (fun _ hk=>trivial)⟩,⟨by(with_reducible repeat first|apply Kd.Qk|apply Kd.Qj|apply Kd.Qm);exact Kd.Qq (Kd.Qr (Kd.Qu f5.out Z.out (by decide)) (fun _ hk=>hk.2) _) (fun _ hk=>trivial)⟩,⟨bka U⟩,⟨bka γ⟩,⟨bka δ⟩,⟨by(with_reducible repeat first|apply Qe|apply Qa|apply Qb);refine Qw (cs:=#[η,ah]) ?_ 1 _ rfl;(with_reducible repeat first|apply Qe|apply Qa|apply Qb);exact Z.out⟩,⟨bel⟩⟩
          ·rw[if_neg d7] at H
           exact absurd H (by simp)
        ·rw[if_neg ec] at H
         have c46b0:(((Qo I B).f1)==O)=false:=beq_eq_false_iff_ne.mpr ec
         have c46b1:(((Qo I B).f1) != O)=true:=bne_iff_ne.mpr ec
         by_cases io:ae.length<8796093022208
         ·rw[if_pos io] at H
          have gp:=Aside0.mk io
          clear io
          obtain⟨ev,dh⟩:∃ y_:List (S62),y_=(ae ++ [(⟨(Qo I B).f0,(Qo I B).f1⟩:S62)]):=⟨_,rfl⟩
          replace H:(newelref19_Serve.l1 k2 (wrap64 (B+1)) D I J O X ι ev)=some (r1,r2):=by first|(rw[dh];with_reducible exact H)|(have τ :=(Option.bind_some _ _).symm.trans H;rw[dh];with_reducible exact τ)|(have τ :=(Option.bind_some _ _).symm.trans H;with_reducible exact τ)|with_reducible exact H|(rw[dh];exact H)|exact H
          have gu:=Aside0.mk dh
          clear dh
          have H':=Aside0.mk H
          clear H
          have i6:=ar.out
          have i7:=au.out
          have gs:=av.out
          have gt:=aw.out
          have i9:=a1.out
          have ia:=a4.out
          obtain⟨hy,i0,i1,i2⟩:=qD2 U.out
          try go_wp2
          replace HO_385000:=Aside0.mk (Kd.Qm HO_385000.out)
          replace HO_385001:=Aside0.mk (Kd.Qm HO_385001.out)
          replace U:=Aside0.mk (Qa U.out)
          replace γ:=Aside0.mk (Qa γ.out)
          replace δ :=Aside0.mk (Qa δ.out)
          replace Z:=Aside0.mk (Qa Z.out)
          replace HB:=Aside0.mk (Qf HB.out)
          have co:0≤(B:Int):=of_decide_eq_true (by assumption)
          have cp:B<(I.length:Int):=of_decide_eq_true (by assumption)
          obtain⟨ζ,du,a5,aa⟩:=Zu af.out B co cp
          have bh:=aa
          have bi:=a5
          cases du
          replace a5:=(HB.out.cell (World.block_lt_of_cell? w _ a5)).trans a5
          replace aa:=(HB.out.cell (World.block_lt_of_cell? w _ aa)).trans aa
          replace co:=eq_true co
          replace cp:=eq_true cp
          refine Zm (n:=20) (S:=fun w'=>w'.cell? ⟨κ,0,none⟩=some (.slice μ D.length Y)∧w'.cell? ⟨κ,1,none⟩=some (.slice (some ζ) I.length θ)∧w'.cell? ⟨ac,0,none⟩=some (.int .i64 J)∧w'.cell? ⟨ac,1,none⟩=some (.int .i64 O)∧w'.cell? ⟨ac,2,none⟩=some (.int .i64 X)∧w'.cell? (ζ.add ((B).toNat * 2))=some (.int .i64 ((Qo I B).f0))∧w'.cell? ⟨(ζ.add ((B).toNat * 2)).block,(ζ.add ((B).toNat * 2)).off+1,none⟩=some (.int .i64 ((Qo I B).f1))) (ds:=[]) #[false,false,false,false,false,false,false,false,false,false,false,false,false,false,false,false,false,false,false,false] kr rfl rfl ⟨(Qi U.out 0).trans rfl,(Qi U.out 1).trans rfl,(Qi γ.out 0).trans rfl,(Qi γ.out 1).trans rfl,(Qi γ.out 2).trans rfl,((HB.out.cell (World.block_lt_of_cell? w _ bi)).trans bi),((HB.out.cell (World.block_lt_of_cell? w _ bh)).trans bh)⟩ (fun hHeld=>?_);refine Q7 newelref19_Serve.V6 newelref19_Serve.G3 (fun HT_ HW_=>?_)
          generalize wr.drew=jk at HO_385000 HO_385001 U γ δ Z HB a5 aa hHeld ⊢
          refine qP 0 (some 53) (bN 20 1) HT_ ?_
          refine qP 2 (some 55) (bN 20 5) HT_ ?_
          refine qP 6 (some 59) (bN 20 69) HT_ ?_
          refine qT 1 (some 54) (bN 20 71) HT_ HW_ hHeld ?_
          refine qP 3 (some 56) (bN 20 79) HT_ ?_
          refine qP 4 (some 57) (bN 20 95) HT_ ?_
          refine qT 5 (some 58) (bN 20 127) HT_ HW_ hHeld ?_
          refine qT 7 (some 60) (bN 20 255) HT_ HW_ hHeld ?_
          refine qP 8 (some 61) (bN 20 511) HT_ ?_
          refine qP 9 (some 62) (bN 20 1023) HT_ ?_
          refine qU 10 (some 63) (bN 20 2047) HT_ ?_
          refine qU 11 (some 64) (bN 20 4095) HT_ ?_
          refine qU 12 (some 65) (bN 20 8191) HT_ ?_
          refine qU 13 (some 66) (bN 20 16383) HT_ ?_
          refine qU 14 (some 67) (bN 20 32767) HT_ ?_
          refine qU 15 (some 68) (bN 20 65535) HT_ ?_
          refine qU 16 (some 69) (bN 20 131071) HT_ ?_
          refine qU 17 (some 70) (bN 20 262143) HT_ ?_
          refine qU 18 (some 71) (bN 20 524287) HT_ ?_
          refine qP 19 (some 72) (bN 20 1048575) HT_ ?_
          refine Zr (Ze HT_.out kr) ?_
          try go_wp2
          replace HO_385000:=Aside0.mk (Kd.Qm HO_385000.out)
          replace HO_385001:=Aside0.mk (Kd.Qm HO_385001.out)
          replace U:=Aside0.mk (Qa U.out)
          replace γ:=Aside0.mk (Qa γ.out)
          replace δ :=Aside0.mk (Qa δ.out)
          replace Z:=Aside0.mk (Qa Z.out)
          replace HB:=Aside0.mk (Qf HB.out)
          have ew:0≤(B:Int):=of_decide_eq_true (by assumption)
          have ey:B<(I.length:Int):=of_decide_eq_true (by assumption)
          obtain⟨gw,ha,d3,d4⟩:=Zu af.out B ew ey
          have bl:=d4
          have bm:=d3
          obtain rfl: ζ = gw:=(by injection ha)
          replace d3:=(HB.out.cell (World.block_lt_of_cell? w _ d3)).trans d3
          replace d4:=(HB.out.cell (World.block_lt_of_cell? w _ d4)).trans d4
          replace ew:=eq_true ew
          replace ey:=eq_true ey
          refine Zm (n:=11) (S:=fun w'=>w'.cell? ⟨ai,0,none⟩=some (η)∧w'.cell? ⟨ai,1,none⟩=some (ah)∧w'.cell? ⟨κ,0,none⟩=some (.slice μ D.length Y)∧w'.cell? ⟨κ,1,none⟩=some (.slice (some ζ) I.length θ)∧w'.cell? (ζ.add ((B).toNat * 2))=some (.int .i64 ((Qo I B).f0))∧w'.cell? ⟨(ζ.add ((B).toNat * 2)).block,(ζ.add ((B).toNat * 2)).off+1,none⟩=some (.int .i64 ((Qo I B).f1))) (ds:=[10]) #[false,false,false,false,false,false,false,false,false,false,false] kr rfl rfl ⟨(Qi Z.out 0).trans rfl,(Qi Z.out 1).trans rfl,(Qi U.out 0).trans rfl,(Qi U.out 1).trans rfl,((HB.out.cell (World.block_lt_of_cell? w _ bm)).trans bm),((HB.out.cell (World.block_lt_of_cell? w _ bl)).trans bl)⟩ (fun hHeld=>?_);refine Q7 newelref19_Serve.V5 newelref19_Serve.G2 (fun HT_ HW_=>?_)
          generalize jk.drew=m0 at HO_385000 HO_385001 U γ δ Z HB d3 d4 hHeld ⊢
          refine qP 0 (some 73) (bN 11 1) HT_ ?_
          refine qP 2 (some 75) (bN 11 5) HT_ ?_
          refine qP 4 (some 77) (bN 11 21) HT_ ?_
          refine qT 1 (some 74) (bN 11 23) HT_ HW_ hHeld ?_
          refine qT 3 (some 76) (bN 11 31) HT_ HW_ hHeld ?_
          refine qP 5 (some 78) (bN 11 63) HT_ ?_
          refine qT 6 (some 79) (bN 11 127) HT_ HW_ hHeld ?_
          refine Zi (i:=7) (N:=some 80) (bN 11 255) rfl rfl (Q2 HT_.out kr) (by decide) (fun K hK=>?_)
          refine Gs (w1:=?_) (v:=?_) (by rfl) rfl ?_ ?_
          rotate_left 2
          ·go_simp
           constructor
           ·rfl
           ·rfl
          refine hK.out _ _ ⟨(Qi (Qb Z.out _) 0).trans rfl,(Qi (Qb Z.out _) 1).trans rfl,(Qi (Qb U.out _) 0).trans rfl,(Qi (Qb U.out _) 1).trans rfl,(World.cell?_alloc_lt _ _ _ (World.block_lt_of_cell? _ _ (((HB.out.cell (World.block_lt_of_cell? w _ bm)).trans bm)))).trans (((HB.out.cell (World.block_lt_of_cell? w _ bm)).trans bm)),(World.cell?_alloc_lt _ _ _ (World.block_lt_of_cell? _ _ (((HB.out.cell (World.block_lt_of_cell? w _ bl)).trans bl)))).trans (((HB.out.cell (World.block_lt_of_cell? w _ bl)).trans bl))⟩ (fun hHeld=>?_)
          clear hK K
          refine qN (some 80) ?_
          refine Zi (i:=8) (N:=some 81) (bN 11 511) rfl rfl (Q2 HT_.out kr) (by decide) (fun K hK=>?_)
          refine Kd.Yc k62 (w0:=w) w.heap.size (by rfl) (.tmp 74) (.tmp 80) 25 62 (.agg #[(.int .i64 0),(.int .i64 0)]) 16 rfl Try.underlying25 Ji rfl (by decide) (by omega) ah ae (⟨(Qo I B).f0,(Qo I B).f1⟩:S62) [.int .i64 ((Qo I B).f0),.int .i64 ((Qo I B).f1)] (fun _=>True) (fun _=>False) rfl rfl ?aP (fun _ hk=>hk.elim) ?aF ?aO ?aB ?aS ?aL ?_
          (case aP=>exact Jp _ _ _ (⟨(Qo I B).f0,(Qo I B).f1⟩:S62))
          (case aB=>exact HB.out)
          (case aF=>exact(fun _ _=>trivial))
          (case aO=>exact HO_385001.out)
          (case aS=>exact(Ql HB.out))
          (case aL=>have:=gp.out;omega)
          intro kg kc ho hb hg hat
          rw[← gu.out] at ho
          have f7:=Aside0.mk ho
          replace HO_385000:=Aside0.mk (Kd.Kz HO_385000.out (Kd.Ky HO_385001.out) (by decide) hg)
          replace U:=Aside0.mk (Q4 (g:= κ) (o:=.cells #[.slice μ D.length Y,.slice (some ζ) I.length θ] 27 (0,0)) U.out hg (Kd.Z4 HO_385001.out U.out (by decide)))
          replace γ:=Aside0.mk (Q4 (g:=ac) (o:=.cells #[.int .i64 J,.int .i64 O,.int .i64 X] 43 (0,0)) γ.out hg (Kd.Z4 HO_385001.out γ.out (by decide)))
          replace δ :=Aside0.mk (Q4 (g:=d5) (o:=.cells #[.slice none 0 0,.slice none 0 0] 27 (0,0)) δ.out hg (Kd.Z4 HO_385001.out δ.out (by decide)))
          replace Z:=Aside0.mk (Q4 (g:=ai) (o:=.cells #[η,ah] 27 (0,0)) Z.out hg (Kd.Z4 HO_385001.out Z.out (by decide)))
          replace HB:=Aside0.mk hb
          clear HO_385001
          clear ho hb hg hat
          obtain⟨gg,gh,eb⟩:=Kd.Q3 f7.out
          (first|subst eb|(injection eb with ν a7 ξ;have a8:= ν.symm;have a9:= ξ.symm;clear ν a7 ξ;subst a8;subst a9))
          refine hK.out _ _ ⟨qc Z,qc Z,qc U,qc U,((HB.out.cell (World.block_lt_of_cell? w _ bm)).trans bm),((HB.out.cell (World.block_lt_of_cell? w _ bl)).trans bl)⟩ (fun hHeld=>?_)
          clear hK K
          refine qN (some 81) ?_
          refine qP 9 (some 82) (bN 11 1023) HT_ ?_
          refine Un (i:=10) (N:=none) #[true,true,true,true,true,true,true,true,true,true,true] rfl rfl (Q2 HT_.out kr) (by decide) (fun K hK=>?_)
          have kh:kc.cell? ⟨ai,1,none⟩=some (ah):=(Qi Z.out 1).trans rfl
          have k0:=Q6 Z.out 1
          have j5:=a1.out
          have j6:=ay.out
          have j7:=b1.out
          have j8:=a4.out
          have ja:=az.out
          have jb:=b3.out
          refine Yl (w1:=?_) (by rfl) rfl ?_ ?_
          rotate_left
          ·go_simp
           rfl
          refine hK.out _ _ ?_
          clear hK K
          refine Zr (Ze HT_.out kr) ?_
          try go_wp2
          go_roundg k2
          case measure=>have:=σ.out;have:=ag.out;omega
          case rel=>exact⟨(wrap64 (B+1)),(ev),(.slice gg ev.length gh),qR,H',⟨by have:=σ.out;have:=ag.out;omega⟩,⟨by(with_reducible repeat first|apply Kd.Qk|apply Kd.Qj|apply Kd.Qm);exact Kd.Qq (Kd.Qr (Kd.Qu HO_385000.out Z.out (by decide)) (fun _ hk=>hk.2) _) (fun _ hk=>trivial)⟩,⟨by(with_reducible repeat first|apply Kd.Qk|apply Kd.Qj|apply Kd.Qm);exact Kd.Qq (Kd.Qr (Kd.Qu f7.out Z.out (by decide)) (fun _ hk=>hk.2) _) (fun _ hk=>trivial)⟩,⟨bka U⟩,⟨bka γ⟩,⟨bka δ⟩,⟨by(with_reducible repeat first|apply Qe|apply Qa|apply Qb);refine Qw (cs:=#[η,ah]) ?_ 1 _ rfl;(with_reducible repeat first|apply Qe|apply Qa|apply Qb);exact Z.out⟩,⟨bel⟩⟩
         ·rw[if_neg io] at H
          exact absurd H (by simp)
       ·rw[if_neg g0] at H
        exact absurd H (by simp)
      ·rw[if_neg dl] at H
       have c44b0:decide (B<(I.length:Int))=false:=decide_eq_false dl
       clear dl
       simp only[Option.some.injEq,Prod.mk.injEq] at H
       obtain⟨rfl,rfl⟩:=H
       have k3:=ar.out
       have k7:=au.out
       have jd:=av.out
       have je:=aw.out
       have jh:=a1.out
       have ji:=a4.out
       obtain⟨jc,jf,jg,jj⟩:=qD2 U.out
       have ib:=az.out
       have ic:=ay.out
       have lc:=b3.out
       have lf:=b1.out
       obtain⟨fy,fz,g2,gv⟩:=qD2 Z.out
       obtain⟨ff,fw,he⟩:=Kd.Q3 HO_385000.out
       subst he
       have im:=ee.out
       have iq:=ed.out
       obtain⟨f9,fg,fh,fi⟩:=qD2 δ.out
       obtain⟨hh,i4,i5⟩:=Kd.Q3 HO_385001.out
       subst i5
       go_wp2
       refine bodyPost_ret (results_cell_row rfl _ _ d5 27 #[.slice ff ι.length fw,.slice hh ae.length i4] (0,0) _ rfl (by refine Qw (cs:=#[.slice ff ι.length fw,.slice none 0 0]) ?_ 1 _ rfl;refine Qw (cs:=#[.slice none 0 0,.slice none 0 0]) ?_ 0 _ rfl;exact δ.out) Try.underlying27 rfl kr) rfl ?_
       exact⟨_,_,by first|rfl|(simp[Qz,Qy] <;> rfl)|(simp[*,Qz,Qy] <;> rfl),by(with_reducible repeat first|apply Kd.Qk|apply Kd.Qj|apply Kd.Qm);exact Kd.Qq (Kd.Qr (Kd.Qr (Kd.Qu HO_385000.out δ.out (by decide)) (fun _ hk=>hk.2) _) (fun _ hk=>hk.2) _) (fun _ hk=>trivial),by(with_reducible repeat first|apply Kd.Qk|apply Kd.Qj|apply Kd.Qm);exact Kd.Qq (Kd.Qr (Kd.Qr (Kd.Qu HO_385001.out δ.out (by decide)) (fun _ hk=>hk.2) _) (fun _ hk=>hk.2) _) (fun _ hk=>trivial),bel⟩
end Go.Proofs.Ytjehhhlhalkieaa.C
