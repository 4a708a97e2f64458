/- Texts of this claim, one behind the other: what the law's functions come to, walked (printed by a program, with the words that the print uses), and what that is, in plain Lean. No conditions of their own. -/
import Derived.Test.YtmfffemidlhcpaaQGroupAll9
namespace Go.Proofs.Ytmfffemidlhcpaa.C
open Go.RowKit Go.Proofs.YtmfffemidlhcpaaW.PrintWords Go.Proofs.YtmfffemidlhcpaaW.PrintLast Go.Proofs.YtmfffemidlhcpaaW.PrintMore
attribute [local go_sem] Zv Zt Z6 Z5 Zk Zj Zu Zs
set_option linter.unusedVariables false
set_option linter.unusedSimpArgs false
mutual
def newellaw21_GroupAll.l0:Nat→Bool→Int→Int→Int→Int→Int→Int→Int→Int→Int→Int→Int→List (S31)→Int→List (S36)→List (S86)→List (S36)→List (S86)→Option (Bool)
 |0,_,_,_,_,_,_,_,_,_,_,_,_,_,_,_,_,_,_=>none
 |k+1,x5,x6,Z,γ,δ,ε,ζ,η,θ,ι,κ,μ,Y,J,O,ν,B,X=>if x6<(Y.length:Int) then (if x5=true then (newellaw21_GroupAll.j1 k true x6 Z γ δ ε ζ η θ ι κ μ Y J O ν B X) else (if 0≤(IntKind.u64.wrap (x6)) then (newellaw21_GroupAll.j1 k ((Go.bits .and .i64 (shr .i64 J (IntKind.u64.wrap (x6))) 1)==0) x6 Z γ δ ε ζ η θ ι κ μ Y J O ν B X) else (none))) else (if (B.length:Int)=(O.length:Int) then ((call_Same.f k ([]:List (S36)) X ([]:List (S36)) ν).bind fun nx=>(newellaw21_GroupAll.j2 k x5 (!nx) Z γ δ ε ζ η θ ι κ μ Y J O ν B X)) else (none))
def newellaw21_GroupAll.j1:Nat→Bool→Int→Int→Int→Int→Int→Int→Int→Int→Int→Int→Int→List (S31)→Int→List (S36)→List (S86)→List (S36)→List (S86)→Option (Bool)
 |0,_,_,_,_,_,_,_,_,_,_,_,_,_,_,_,_,_,_=>none
 |k+1,x5,x6,Z,γ,δ,ε,ζ,η,θ,ι,κ,μ,Y,J,O,ν,B,X=>newellaw21_GroupAll.l0 k x5 (wrap64 (x6+1)) Z γ δ ε ζ η θ ι κ μ Y J O ν B X
def newellaw21_GroupAll.j2:Nat→Bool→Bool→Int→Int→Int→Int→Int→Int→Int→Int→Int→Int→List (S31)→Int→List (S36)→List (S86)→List (S36)→List (S86)→Option (Bool)
 |0,_,_,_,_,_,_,_,_,_,_,_,_,_,_,_,_,_,_=>none
 |k+1,x5,ξ,Z,γ,δ,ε,ζ,η,θ,ι,κ,μ,Y,J,O,ν,B,X=>if ξ = true then (none) else (newellaw21_GroupAll.l1 k x5 0 Z γ δ ε ζ η θ ι κ μ Y J O ν B X)
def newellaw21_GroupAll.l1:Nat→Bool→Int→Int→Int→Int→Int→Int→Int→Int→Int→Int→Int→List (S31)→Int→List (S36)→List (S86)→List (S36)→List (S86)→Option (Bool)
 |0,_,_,_,_,_,_,_,_,_,_,_,_,_,_,_,_,_,_=>none
 |k+1,x5,x7,Z,γ,δ,ε,ζ,η,θ,ι,κ,μ,Y,J,O,ν,B,X=>if x7<(B.length:Int) then (if 0≤x7 then (if x7<(O.length:Int) then (if ((Qc B x7).f0)=((Qc O x7).f0) then (if ((Qc B x7).f1)=((Qc O x7).f1) then (newellaw21_GroupAll.j4 k x5 x7 ((Qc O x7).f2) ((Qc B x7).f2) ((decide (((Qc B x7).f2)≥0)) != x5) Z γ δ ε ζ η θ ι κ μ Y J O ν B X) else (none)) else (none)) else (none)) else (none)) else ((newellaw19_Own.f B X).bind fun ξ =>((group_Spread.f k Z γ δ ε ζ η θ ι κ μ Y J ξ.1 ξ.2).bind fun jx=>((newellaw21_awake.f k).bind fun l2=>(if l2=true then (if jx.2.2=0 then ((call_Same.f k jx.1 jx.2.1 B X).bind fun gx=>(newellaw21_GroupAll.j6 k gx)) else (none)) else (none)))))
def newellaw21_GroupAll.j4:Nat→Bool→Int→Int→Int→Bool→Int→Int→Int→Int→Int→Int→Int→Int→Int→Int→List (S31)→Int→List (S36)→List (S86)→List (S36)→List (S86)→Option (Bool)
 |0,_,_,_,_,_,_,_,_,_,_,_,_,_,_,_,_,_,_,_,_,_=>none
 |k+1,x5,x7,x8,x9,ξ,Z,γ,δ,ε,ζ,η,θ,ι,κ,μ,Y,J,O,ν,B,X=>if ξ = true then (none) else (if x9≥0 then (if 0≤(IntKind.u64.wrap (x9)) then (if (Go.bits .and .i64 (shr .i64 J (IntKind.u64.wrap (x9))) 1)=1 then (none) else (if x8≥0 then (if 0≤(IntKind.u64.wrap (x8)) then (if (Go.bits .and .i64 (shr .i64 J (IntKind.u64.wrap (x8))) 1)=0 then (newellaw21_GroupAll.j5 k x5 x7 (x9 != x8) Z γ δ ε ζ η θ ι κ μ Y J O ν B X) else (newellaw21_GroupAll.j5 k x5 x7 false Z γ δ ε ζ η θ ι κ μ Y J O ν B X)) else (none)) else (newellaw21_GroupAll.j5 k x5 x7 false Z γ δ ε ζ η θ ι κ μ Y J O ν B X))) else (none)) else (if x8≥0 then (if 0≤(IntKind.u64.wrap (x8)) then (if (Go.bits .and .i64 (shr .i64 J (IntKind.u64.wrap (x8))) 1)=0 then (newellaw21_GroupAll.j5 k x5 x7 (x9 != x8) Z γ δ ε ζ η θ ι κ μ Y J O ν B X) else (newellaw21_GroupAll.j5 k x5 x7 false Z γ δ ε ζ η θ ι κ μ Y J O ν B X)) else (none)) else (newellaw21_GroupAll.j5 k x5 x7 false Z γ δ ε ζ η θ ι κ μ Y J O ν B X)))
def newellaw21_GroupAll.j5:Nat→Bool→Int→Bool→Int→Int→Int→Int→Int→Int→Int→Int→Int→Int→List (S31)→Int→List (S36)→List (S86)→List (S36)→List (S86)→Option (Bool)
 |0,_,_,_,_,_,_,_,_,_,_,_,_,_,_,_,_,_,_,_=>none
 |k+1,x5,x7,ξ,Z,γ,δ,ε,ζ,η,θ,ι,κ,μ,Y,J,O,ν,B,X=>if ξ = true then (none) else (newellaw21_GroupAll.l1 k x5 (wrap64 (x7+1)) Z γ δ ε ζ η θ ι κ μ Y J O ν B X)
def newellaw21_GroupAll.j6:Nat→Bool→Option (Bool)
 |0,_=>none
 |k+1,Z=>some Z
end
def newellaw21_GroupAll.f (k:Nat) (J:Int) (O:Int) (X:Int) (Y:Int) (Z:Int) (δ :Int) (γ:Int) (θ :Int) (η :Int) (ζ :Int) (ρ:List (S31)) (ν :Int) (ι :List (S36)) (φ :List (S86)):Option (Bool):=(newellaw21_few.f J O X Y Z δ γ θ η ζ ρ ν ι φ).bind fun nd=>(if nd=true then ((newellaw19_Own.f ι φ).bind fun fy=>((group_Spread.f k J O X Y Z δ γ θ η ζ ρ ν fy.1 fy.2).bind fun cg=>(if cg.2.2=0 then (newellaw21_GroupAll.l0 k false 0 J O X Y Z δ γ θ η ζ ρ ν ι φ cg.1 cg.2.1) else ((newellaw21_awake.f k).bind fun fz=>(some fz))))) else ((newellaw21_awake.f k).bind fun j3=>(some j3)))
def newellaw21_GroupAll.T3:Bool×List (List Nat×List Nat):=(true,[([],[]),([0],[0]),([],[]),([2],[2]),([],[]),([4],[4]),([],[]),([6],[6]),([7],[7]),([1,3,5,8,8],[1,3,5,8]),([9],[9]),([10],[10]),([10],[10]),([],[]),([13,11,9,0,1,2,3,4,5,6,7,8,9,10,11,13],[11,13]),([12,14,0,1,2,3,4,5,6,7,8,9,10,11,12,13,14],[12])])
def newellaw21_GroupAll.B3:List Nat:=[0,1,0,4,0,16,0,64,192,511,1023,2047,2047,0,12287,32767]
theorem newellaw21_GroupAll.Ec:rtab .any (opsOf Try.f8 3)=newellaw21_GroupAll.T3:=by kernel_rfl
theorem newellaw21_GroupAll.Ll:Zq newellaw21_GroupAll.T3.2 newellaw21_GroupAll.B3=true:=by kernel_rfl
def newellaw21_GroupAll.T18:Bool×List (List Nat×List Nat):=(true,[([],[]),([0],[0]),([],[]),([1,2],[1,2]),([3],[3]),([4],[4]),([],[]),([6],[6]),([7],[7]),([],[]),([8,9],[8,9]),([10],[10]),([11],[11]),([5,12],[5,12]),([13],[13]),([14],[14]),([15,14],[14,15]),([14],[14]),([16,17,14],[14,16,17]),([18,14],[14,18]),([19,14],[14,19]),([14],[14]),([21,14],[14,21]),([22,14],[14,22]),([14],[14]),([23,24,14],[14,23,24]),([25,14],[14,25]),([26,14],[14,26]),([20,27,14],[14,20,27]),([14,28],[14,28]),([29,14],[29]),([30],[30]),([31,30],[30,31]),([30],[30]),([32,33,30],[30,32,33]),([30,34],[30,34])])
def newellaw21_GroupAll.B18:List Nat:=[0,1,0,7,15,31,0,64,192,0,960,1984,4032,8191,16383,32767,65535,32767,262143,524287,1048575,32767,2129919,6324223,32767,31490047,65044479,132153343,268435455,536870911,1073741823,2147483647,4294967295,2147483647,17179869183,34359738367]
theorem newellaw21_GroupAll.tab18:rtab .any (opsOf Try.f8 18)=newellaw21_GroupAll.T18:=by kernel_rfl
theorem newellaw21_GroupAll.Dv:Zq newellaw21_GroupAll.T18.2 newellaw21_GroupAll.B18=true:=by kernel_rfl
def newellaw21_GroupAll.T22:Bool×List (List Nat×List Nat):=(true,[([],[]),([0],[0]),([],[]),([2],[2]),([],[]),([4],[4]),([],[]),([6],[6]),([1,3,5,7,7],[1,3,5,7]),([8],[8]),([9],[9]),([9],[9]),([],[]),([12,10,8,0,1,2,3,4,5,6,7,8,9,10,12],[10,12]),([11,13,0,1,2,3,4,5,6,7,8,9,10,11,12,13],[11])])
def newellaw21_GroupAll.B22:List Nat:=[0,1,0,4,0,16,0,64,255,511,1023,1023,0,6143,16383]
theorem newellaw21_GroupAll.tab22:rtab .any (opsOf Try.f8 22)=newellaw21_GroupAll.T22:=by kernel_rfl
theorem newellaw21_GroupAll.Du:Zq newellaw21_GroupAll.T22.2 newellaw21_GroupAll.B22=true:=by kernel_rfl
set_option maxHeartbeats 8000000 in
set_option maxRecDepth 100000 in
theorem newellaw21_GroupAll.calls (k:Nat) (J:Int) (O:Int) (X:Int) (Y:Int) (Z:Int) (δ :Int) (γ:Int) (θ :Int) (η :Int) (ζ :Int) (a8:Option Addr) (a9:Nat) (ρ:List (S31)) (ν :Int) (ah:Option Addr) (ae:Nat) (ι :List (S36)) (af:Option Addr) (ag:Nat) (φ :List (S86)) (r:Bool) (w:World) (kt:Kd.C k31 w a8 ρ.length ρ) (ku:ρ.length≤a9) (kv:Kd.C k36 w ah ι.length ι) (kw: ι.length≤ae) (kx:Kd.C k86 w af φ.length φ) (ky: φ.length≤ag) (h:newellaw21_GroupAll.f k J O X Y Z δ γ θ η ζ ρ ν ι φ = some r):
  Calls Try.prog 8 #[.agg #[.int .i64 J,.int .i64 O,.int .i64 X,.int .i64 Y,.int .i64 Z,.int .i64 δ,.int .i64 γ,.int .i64 θ,.int .i64 η,.int .i64 ζ,.slice a8 ρ.length a9,.int .i64 ν,.slice ah ι.length ae,.slice af φ.length ag]] w fun e w'=>e = .returned (.bool r)∧Below w.heap.size w w':=by
 have wl:=Try.underlying52
 have ew:=Try.underlying25
 have ey:=Try.underlying50
 have cy:=Aside0.mk kt
 have cz:=Aside0.mk ku
 clear kt ku
 have d6:=Aside0.mk kv
 have fu:=Aside0.mk kw
 clear kv kw
 have et:=Aside0.mk kx
 have eu:=Aside0.mk ky
 clear kx ky
 have HB:=Aside0.mk (Below.refl w.heap.size w)
 have H:((newellaw21_few.f J O X Y Z δ γ θ η ζ ρ ν ι φ).bind fun nd=>(if nd=true then ((newellaw19_Own.f ι φ).bind fun fy=>((group_Spread.f k J O X Y Z δ γ θ η ζ ρ ν fy.1 fy.2).bind fun cg=>(if cg.2.2=0 then (newellaw21_GroupAll.l0 k false 0 J O X Y Z δ γ θ η ζ ρ ν ι φ cg.1 cg.2.1) else ((newellaw21_awake.f k).bind fun fz=>(some fz))))) else ((newellaw21_awake.f k).bind fun j3=>(some j3))))=some r:=h
 clear h
 replace H:=Option.bind_eq_some_iff.mp H
 obtain⟨nd,ko,H⟩:=H
 replace H:(if nd=true then ((newellaw19_Own.f ι φ).bind fun fy=>((group_Spread.f k J O X Y Z δ γ θ η ζ ρ ν fy.1 fy.2).bind fun cg=>(if cg.2.2=0 then (newellaw21_GroupAll.l0 k false 0 J O X Y Z δ γ θ η ζ ρ ν ι φ cg.1 cg.2.1) else ((newellaw21_awake.f k).bind fun fz=>(some fz))))) else ((newellaw21_awake.f k).bind fun j3=>(some j3)))=some r:=H
 have A2:=Aside0.mk ko
 clear ko
 by_cases c3:nd=true
 ·subst c3
  have H1:((newellaw19_Own.f ι φ).bind fun fy=>((group_Spread.f k J O X Y Z δ γ θ η ζ ρ ν fy.1 fy.2).bind fun cg=>(if cg.2.2=0 then (newellaw21_GroupAll.l0 k false 0 J O X Y Z δ γ θ η ζ ρ ν ι φ cg.1 cg.2.1) else ((newellaw21_awake.f k).bind fun fz=>(some fz)))))=some r:=by rw[if_pos rfl] at H;exact H
  clear H
  have H:=H1
  clear H1
  replace H:=Option.bind_eq_some_iff.mp H
  obtain⟨⟨br,bs⟩,d4,H⟩:=H
  replace H:((group_Spread.f k J O X Y Z δ γ θ η ζ ρ ν br bs).bind fun cg=>(if cg.2.2=0 then (newellaw21_GroupAll.l0 k false 0 J O X Y Z δ γ θ η ζ ρ ν ι φ cg.1 cg.2.1) else ((newellaw21_awake.f k).bind fun fz=>(some fz))))=some r:=H
  have A4:=Aside0.mk d4
  clear d4
  replace H:=Option.bind_eq_some_iff.mp H
  obtain⟨⟨a0,a5,dd⟩,bv,H⟩:=H
  replace H:(if dd=0 then (newellaw21_GroupAll.l0 k false 0 J O X Y Z δ γ θ η ζ ρ ν ι φ a0 a5) else ((newellaw21_awake.f k).bind fun fz=>(some fz)))=some r:=H
  have A5:=Aside0.mk bv
  clear bv
  by_cases c6:dd=0
  ·rw[if_pos c6] at H
   have c6b0:(dd==0)=true:=beq_iff_eq.mpr c6
   have c6b1:(dd != 0)=false:=bne_eq_false_iff_eq.mpr c6
   clear c6
   have H':=Aside0.mk H
   clear H
   go_enter Try.func8,Try.ntmps8
   try go_wp2_with (first|((with_reducible refine Qf (N:=1) rfl ?_);refine qE 1 #[.int .i64 J,.int .i64 O,.int .i64 X,.int .i64 Y,.int .i64 Z,.int .i64 δ,.int .i64 γ,.int .i64 θ,.int .i64 η,.int .i64 ζ,.slice a8 ρ.length a9,.int .i64 ν,.slice ah ι.length ae,.slice af φ.length ag] 52 ?_;intro ε hg w7 hbox hb;have B:=Aside0.mk hbox;have sp:=sGe hg;have sq:=sGe hg;replace HB:=sHb hb;clear hb hbox hg;have df:w7.cell? ⟨ε,0,none⟩=some (.int .i64 J):=(Qa B.out 0).trans rfl;have dh:w7.cell? ⟨ε,1,none⟩=some (.int .i64 O):=(Qa B.out 1).trans rfl;have di:w7.cell? ⟨ε,2,none⟩=some (.int .i64 X):=(Qa B.out 2).trans rfl;have ed:w7.cell? ⟨ε,3,none⟩=some (.int .i64 Y):=(Qa B.out 3).trans rfl;have ee:w7.cell? ⟨ε,4,none⟩=some (.int .i64 Z):=(Qa B.out 4).trans rfl;have ef:w7.cell? ⟨ε,5,none⟩=some (.int .i64 δ):=(Qa B.out 5).trans rfl;have eg:w7.cell? ⟨ε,6,none⟩=some (.int .i64 γ):=(Qa B.out 6).trans rfl;have eh:w7.cell? ⟨ε,7,none⟩=some (.int .i64 θ):=(Qa B.out 7).trans rfl;have ei:w7.cell? ⟨ε,8,none⟩=some (.int .i64 η):=(Qa B.out 8).trans rfl;have ej:w7.cell? ⟨ε,9,none⟩=some (.int .i64 ζ):=(Qa B.out 9).trans rfl;have gg:w7.cell? ⟨ε,10,none⟩=some (.slice a8 ρ.length a9):=(Qa B.out 10).trans rfl;have gh:w7.cell? ⟨ε,11,none⟩=some (.int .i64 ν):=(Qa B.out 11).trans rfl;have gi:w7.cell? ⟨ε,12,none⟩=some (.slice ah ι.length ae):=(Qa B.out 12).trans rfl;have gj:w7.cell? ⟨ε,13,none⟩=some (.slice af φ.length ag):=(Qa B.out 13).trans rfl;have dj:=Qb B.out 0;have dk:=Qb B.out 1;have dl:=Qb B.out 2;have ek:=Qb B.out 3;have el:=Qb B.out 4;have em:=Qb B.out 5;have en:=Qb B.out 6;have eo:=Qb B.out 7;have ep:=Qb B.out 8;have er:=Qb B.out 9;have gl:=Qb B.out 10;have gm:=Qb B.out 11;have gn:=Qb B.out 12;have gp:=Qb B.out 13)|((with_reducible refine Qp (f:=13) rfl ?_);refine Q4 (some 13) rfl rfl Try.func13 kr rfl #[.agg #[.int .i64 J,.int .i64 O,.int .i64 X,.int .i64 Y,.int .i64 Z,.int .i64 δ,.int .i64 γ,.int .i64 θ,.int .i64 η,.int .i64 ζ,.slice a8 ρ.length a9,.int .i64 ν,.slice ah ι.length ae,.slice af φ.length ag]] rfl qM ?_;(with_reducible refine(newellaw21_few.calls J O X Y Z δ γ θ η ζ _ _ ρ ν _ _ ι _ _ φ true _ ?side1 ?side2 ?side3 ?side4 ?side5 ?side6 A2.out).mono ?_);(case side1=>exact(Kd.Qv cy.out HB.out));(case side2=>exact cz.out);(case side3=>exact(Kd.Qv d6.out HB.out));(case side4=>exact fu.out);(case side5=>exact(Kd.Qv et.out HB.out));(case side6=>exact eu.out);rintro e w9 ⟨rfl,hb⟩;refine⟨_,rfl, ?_⟩;replace B:=sBk B hb;replace HB:=sHb hb;(try clear hb);(try clear a6);(try clear hk);(try clear hi)))
   replace B:=Aside0.mk (Qe B.out)
   replace HB:=Aside0.mk (Qg HB.out)
   refine Zh (n:=16) (S:=fun w'=>w'.cell? ⟨ε,0,none⟩=some (.int .i64 J)∧w'.cell? ⟨ε,1,none⟩=some (.int .i64 O)∧w'.cell? ⟨ε,2,none⟩=some (.int .i64 X)∧w'.cell? ⟨ε,3,none⟩=some (.int .i64 Y)∧w'.cell? ⟨ε,4,none⟩=some (.int .i64 Z)∧w'.cell? ⟨ε,5,none⟩=some (.int .i64 δ)∧w'.cell? ⟨ε,6,none⟩=some (.int .i64 γ)∧w'.cell? ⟨ε,7,none⟩=some (.int .i64 θ)∧w'.cell? ⟨ε,8,none⟩=some (.int .i64 η)∧w'.cell? ⟨ε,9,none⟩=some (.int .i64 ζ)∧w'.cell? ⟨ε,10,none⟩=some (.slice a8 ρ.length a9)∧w'.cell? ⟨ε,11,none⟩=some (.int .i64 ν)∧w'.cell? ⟨ε,12,none⟩=some (.slice ah ι.length ae)∧w'.cell? ⟨ε,13,none⟩=some (.slice af φ.length ag)) (ds:=[]) #[false,false,false,false,false,false,false,false,false,false,false,false,false,false,false,false] kr rfl rfl ⟨(Qa B.out 0).trans rfl,(Qa B.out 1).trans rfl,(Qa B.out 2).trans rfl,(Qa B.out 3).trans rfl,(Qa B.out 4).trans rfl,(Qa B.out 5).trans rfl,(Qa B.out 6).trans rfl,(Qa B.out 7).trans rfl,(Qa B.out 8).trans rfl,(Qa B.out 9).trans rfl,(Qa B.out 10).trans rfl,(Qa B.out 11).trans rfl,(Qa B.out 12).trans rfl,(Qa B.out 13).trans rfl⟩ (fun hHeld=>?_);refine Q8 newellaw21_GroupAll.Ec newellaw21_GroupAll.Ll (fun HT_ HW_=>?_)
   generalize w9.drew=ni at B HB hHeld ⊢
   refine qP 0 (some 17) (bN 16 1) HT_ ?_
   refine qP 2 (some 19) (bN 16 5) HT_ ?_
   refine qP 4 (some 21) (bN 16 21) HT_ ?_
   refine qP 6 (some 23) (bN 16 85) HT_ ?_
   refine qT 1 (some 18) (bN 16 87) HT_ HW_ hHeld ?_
   refine qT 3 (some 20) (bN 16 95) HT_ HW_ hHeld ?_
   refine qT 5 (some 22) (bN 16 127) HT_ HW_ hHeld ?_
   refine qT 7 (some 24) (bN 16 255) HT_ HW_ hHeld ?_
   refine X7 (σ:=Value×Value×Value×Value×Nat) 2 (bN 16 16383) (fun s_=>[(25,.agg #[s_.1,s_.2.1]),(26,.tuple #[.agg #[s_.2.2.1,s_.2.2.2.1],.int .i64 dd]),(3,.pointer (some ⟨s_.2.2.2.2,0,none⟩)),(16,.tuple #[.agg #[s_.2.2.1,s_.2.2.2.1],.int .i64 dd]),(27,.agg #[s_.2.2.1,s_.2.2.2.1]),(28,.int .i64 dd)]) (fun s_ w'=>(w'.cell? ⟨ε,0,none⟩=some (.int .i64 J)∧w'.cell? ⟨ε,1,none⟩=some (.int .i64 O)∧w'.cell? ⟨ε,2,none⟩=some (.int .i64 X)∧w'.cell? ⟨ε,3,none⟩=some (.int .i64 Y)∧w'.cell? ⟨ε,4,none⟩=some (.int .i64 Z)∧w'.cell? ⟨ε,5,none⟩=some (.int .i64 δ)∧w'.cell? ⟨ε,6,none⟩=some (.int .i64 γ)∧w'.cell? ⟨ε,7,none⟩=some (.int .i64 θ)∧w'.cell? ⟨ε,8,none⟩=some (.int .i64 η)∧w'.cell? ⟨ε,9,none⟩=some (.int .i64 ζ)∧w'.cell? ⟨ε,10,none⟩=some (.slice a8 ρ.length a9)∧w'.cell? ⟨ε,11,none⟩=some (.int .i64 ν)∧w'.cell? ⟨ε,12,none⟩=some (.slice ah ι.length ae)∧w'.cell? ⟨ε,13,none⟩=some (.slice af φ.length ag))∧(Kd.R k36 36 w' w.heap.size (fun k_=>some k_≠(s_.2.2.1:Value).ownBlock) s_.1 br)∧(Kd.R k86 86 w' w.heap.size (fun k_=>some k_≠(s_.2.2.2.1:Value).ownBlock) s_.2.1 bs)∧(Kd.R k36 36 w' w.heap.size (fun k_=>some k_≠(s_.1:Value).ownBlock) s_.2.2.1 a0)∧(Kd.R k86 86 w' w.heap.size (fun k_=>some k_≠(s_.2.1:Value).ownBlock) s_.2.2.2.1 a5)∧(w'.heap[ε]?=some (.cells #[.int .i64 J,.int .i64 O,.int .i64 X,.int .i64 Y,.int .i64 Z,.int .i64 δ,.int .i64 γ,.int .i64 θ,.int .i64 η,.int .i64 ζ,.slice a8 ρ.length a9,.int .i64 ν,.slice ah ι.length ae,.slice af φ.length ag] 52 (0,0)))∧(w'.heap[s_.2.2.2.2]?=some (.cells #[.slice none 0 0,.slice none 0 0] 50 (0,0)))∧(w.heap.size≤s_.2.2.2.2)∧(w.heap.size≤s_.2.2.2.2)∧(ε ≠ s_.2.2.2.2)∧(s_.2.2.2.2 ≠ ε)∧(Below w.heap.size w w')) ?_ ?_
   rotate_left
   ·intro hCont
    refine J8 (i:=8) (j:=13) (Ni:=some 25) (Nj:=some 3) (bN 16 511) (bN 16 8447) rfl rfl rfl rfl (Xt HT_.out kr) (by decide) (by decide) (fun K hK=>?_) (fun K hK=>?_)
    ·skip
     refine Q9 Try.func15 kr rfl #[.agg #[.slice ah ι.length ae,.slice af φ.length ag]] (by rfl) rfl rfl qM ?_
     with_reducible refine(newellaw19_Own.calls _ _ ι _ _ φ br bs _ ?side1 ?side2 ?side3 ?side4 A4.out).mono ?_
     (case side1=>exact(Kd.Qv d6.out HB.out))
     (case side2=>exact fu.out)
     (case side3=>exact(Kd.Qv et.out HB.out))
     (case side4=>exact eu.out)
     rintro e ec ⟨jy,jz,rfl,ak,ax,hb⟩
     refine⟨_,rfl, ?_⟩
     have ai:=Aside0.mk (Kd.Q3 ak (Qh HB.out))
     have aj:=Aside0.mk (Kd.Q3 ax (Qh HB.out))
     replace B:=sBk B hb
     replace HB:=sHb hb
     (try clear hb)
     (try clear a6)
     (try clear hk)
     (try clear hi)
     (try clear ak)
     (try clear ax)
     obtain⟨v3,v4,v8⟩:=Kd.Q5 ai.out
     (first|subst v8|(injection v8 with ab ap ac;have ar:=ab.symm;have au:=ac.symm;clear ab ap ac;subst ar;subst au))
     obtain⟨fv,ea,gw⟩:=Kd.Q5 aj.out
     (first|subst gw|(injection gw with ab ap ac;have ar:=ab.symm;have au:=ac.symm;clear ab ap ac;subst ar;subst au))
     refine hK.out _ _ ⟨qc B,qc B,qc B,qc B,qc B,qc B,qc B,qc B,qc B,qc B,qc B,qc B,qc B,qc B⟩ (fun hHeld=>?_)
     clear hK K
     refine qN (some 25) ?_
     refine J8 (i:=9) (j:=13) (Ni:=some 26) (Nj:=some 3) (bN 16 1023) (bN 16 8703) rfl rfl rfl rfl (Xt HT_.out kr) (by decide) (by decide) (fun K hK=>?_) (fun K hK=>?_)
     ·skip
      refine Q9 Try.func21 kr rfl #[.agg #[.int .i64 J,.int .i64 O,.int .i64 X,.int .i64 Y,.int .i64 Z,.int .i64 δ,.int .i64 γ,.int .i64 θ,.int .i64 η,.int .i64 ζ],.slice a8 ρ.length a9,.int .i64 ν,.agg #[.slice v3 br.length v4,.slice fv bs.length ea]] (by rfl) rfl rfl qM ?_
      with_reducible refine(group_Spread.calls k J O X Y Z δ γ θ η ζ _ _ ρ ν _ _ br _ _ bs a0 a5 dd _ ?side1 ?side2 ?side3 ?side4 ?side5 ?side6 A5.out).mono ?_
      (case side1=>exact(Kd.Qv cy.out HB.out))
      (case side2=>exact cz.out)
      (case side3=>exact(Kd.Qr ai.out).2.2)
      (case side4=>exact(Kd.Qr ai.out).2.1)
      (case side5=>exact(Kd.Qr aj.out).2.2)
      (case side6=>exact(Kd.Qr aj.out).2.1)
      rintro e ft ⟨dm,dn,rfl,ak,ax,hb⟩
      refine⟨_,rfl, ?_⟩
      have bg:=Aside0.mk (Kd.Q3 (Kd.Z1 ak (Kd.Xu ai.out)) (Qh HB.out))
      have bm:=Aside0.mk (Kd.Q3 (Kd.Z1 ax (Kd.Xu aj.out)) (Qh HB.out))
      replace ai:=Aside0.mk (Kd.Zb ai.out (Kd.Zy ak) hb)
      replace aj:=Aside0.mk (Kd.Zb aj.out (Kd.Zy ax) hb)
      replace B:=sBk B hb
      replace HB:=sHb hb
      (try clear hb)
      (try clear a6)
      (try clear hk)
      (try clear hi)
      (try clear ak)
      (try clear ax)
      refine hK.out _ _ ⟨qc B,qc B,qc B,qc B,qc B,qc B,qc B,qc B,qc B,qc B,qc B,qc B,qc B,qc B⟩ (fun hHeld=>?_)
      clear hK K
      refine qN (some 26) ?_
      refine qP 10 (some 16) (bN 16 2047) HT_ ?_
      refine qP 11 (some 27) (bN 16 4095) HT_ ?_
      refine qP 12 (some 28) (bN 16 8191) HT_ ?_
      refine qK 13 (some 3) (bN 16 16383) HT_ fun K hK=>?_
      refine Z0 ?hg (N:=3) ?hd (cs:=#[.slice none 0 0,.slice none 0 0]) (t:=50) ?hr ?_;(case hd=>rfl);(case hg=>rfl);(case hr=>go_simp <;> rfl)
      intro a1 hg kp hbox hb
      have τ :=Aside0.mk hbox
      have e8:=sGe hg
      have e9:=sGe hg
      have κ :=sNl B hg
      have an:=sNg B hg
      replace ai:=sRb ai hb
      replace aj:=sRb aj hb
      replace bg:=sRb bg hb
      replace bm:=sRb bm hb
      replace B:=sBk B hb
      replace HB:=sHb hb
      clear hb hbox hg
      refine hK.out _ _ ⟨qc B,qc B,qc B,qc B,qc B,qc B,qc B,qc B,qc B,qc B,qc B,qc B,qc B,qc B⟩ (fun hHeld=>?_)
      clear hK K
      refine qN (some 3) ?_
      exact Ze (by simp only[Q6,Act.put,qS]) (hCont (.slice v3 br.length v4,.slice fv bs.length ea,dm,dn,a1) _ ⟨hHeld,(by(with_reducible repeat first|apply Kd.Qm|apply Kd.Ql|apply Kd.Qs);exact Kd.Qw ai.out (fun _ hk=>hk.2)),(by(with_reducible repeat first|apply Kd.Qm|apply Kd.Ql|apply Kd.Qs);exact Kd.Qw aj.out (fun _ hk=>hk.2)),(by(with_reducible repeat first|apply Kd.Qm|apply Kd.Ql|apply Kd.Qs);exact Kd.Qw bg.out (fun _ hk=>hk.2)),(by(with_reducible repeat first|apply Kd.Qm|apply Kd.Ql|apply Kd.Qs);exact Kd.Qw bm.out (fun _ hk=>hk.2)),B.out,τ.out,e8.out,e9.out,κ.out,an.out,HB.out⟩)
     ·skip
      refine Z0 ?hg (N:=3) ?hd (cs:=#[.slice none 0 0,.slice none 0 0]) (t:=50) ?hr ?_;(case hd=>rfl);(case hg=>rfl);(case hr=>go_simp <;> rfl)
      intro a1 hg he hbox hb
      have τ :=Aside0.mk hbox
      have e8:=sGe hg
      have e9:=sGe hg
      have κ :=sNl B hg
      have an:=sNg B hg
      replace ai:=sRb ai hb
      replace aj:=sRb aj hb
      replace B:=sBk B hb
      replace HB:=sHb hb
      clear hb hbox hg
      obtain⟨fv,ea,gw⟩:=Kd.Q5 ai.out
      (first|subst gw|(injection gw with ab ap ac;have ar:=ab.symm;have au:=ac.symm;clear ab ap ac;subst ar;subst au))
      obtain⟨m6,m7,ks⟩:=Kd.Q5 aj.out
      (first|subst ks|(injection ks with ab ap ac;have ar:=ab.symm;have au:=ac.symm;clear ab ap ac;subst ar;subst au))
      refine hK.out _ _ ⟨qc B,qc B,qc B,qc B,qc B,qc B,qc B,qc B,qc B,qc B,qc B,qc B,qc B,qc B⟩ (fun hHeld=>?_)
      clear hK K
      refine qN (some 3) ?_
      refine qK 9 (some 26) (bN 16 9215) HT_ fun K hK=>?_
      refine Q9 Try.func21 kr rfl #[.agg #[.int .i64 J,.int .i64 O,.int .i64 X,.int .i64 Y,.int .i64 Z,.int .i64 δ,.int .i64 γ,.int .i64 θ,.int .i64 η,.int .i64 ζ],.slice a8 ρ.length a9,.int .i64 ν,.agg #[.slice fv br.length ea,.slice m6 bs.length m7]] (by rfl) rfl rfl qM ?_
      with_reducible refine(group_Spread.calls k J O X Y Z δ γ θ η ζ _ _ ρ ν _ _ br _ _ bs a0 a5 dd _ ?side1 ?side2 ?side3 ?side4 ?side5 ?side6 A5.out).mono ?_
      (case side1=>exact(Kd.Qv cy.out HB.out))
      (case side2=>exact cz.out)
      (case side3=>exact(Kd.Qr ai.out).2.2)
      (case side4=>exact(Kd.Qr ai.out).2.1)
      (case side5=>exact(Kd.Qr aj.out).2.2)
      (case side6=>exact(Kd.Qr aj.out).2.1)
      rintro e kp ⟨dm,dn,rfl,ak,ax,hb⟩
      refine⟨_,rfl, ?_⟩
      have bg:=Aside0.mk (Kd.Q3 (Kd.Z1 ak (Kd.Xu ai.out)) (Qh HB.out))
      have bm:=Aside0.mk (Kd.Q3 (Kd.Z1 ax (Kd.Xu aj.out)) (Qh HB.out))
      replace ai:=Aside0.mk (Kd.Zb ai.out (Kd.Zy ak) hb)
      replace aj:=Aside0.mk (Kd.Zb aj.out (Kd.Zy ax) hb)
      replace B:=sBk B hb
      replace τ :=sBk τ hb
      replace HB:=sHb hb
      (try clear hb)
      (try clear a6)
      (try clear hk)
      (try clear hi)
      (try clear ak)
      (try clear ax)
      refine hK.out _ _ ⟨qc B,qc B,qc B,qc B,qc B,qc B,qc B,qc B,qc B,qc B,qc B,qc B,qc B,qc B⟩ (fun hHeld=>?_)
      clear hK K
      refine qN (some 26) ?_
      refine qP 10 (some 16) (bN 16 10239) HT_ ?_
      refine qP 11 (some 27) (bN 16 12287) HT_ ?_
      refine qP 12 (some 28) (bN 16 16383) HT_ ?_
      exact Ze (by simp only[Q6,Act.put,qS]) (hCont (.slice fv br.length ea,.slice m6 bs.length m7,dm,dn,a1) _ ⟨hHeld,(by(with_reducible repeat first|apply Kd.Qm|apply Kd.Ql|apply Kd.Qs);exact Kd.Qw ai.out (fun _ hk=>hk.2)),(by(with_reducible repeat first|apply Kd.Qm|apply Kd.Ql|apply Kd.Qs);exact Kd.Qw aj.out (fun _ hk=>hk.2)),(by(with_reducible repeat first|apply Kd.Qm|apply Kd.Ql|apply Kd.Qs);exact Kd.Qw bg.out (fun _ hk=>hk.2)),(by(with_reducible repeat first|apply Kd.Qm|apply Kd.Ql|apply Kd.Qs);exact Kd.Qw bm.out (fun _ hk=>hk.2)),B.out,τ.out,e8.out,e9.out,κ.out,an.out,HB.out⟩)
    ·skip
     refine Z0 ?hg (N:=3) ?hd (cs:=#[.slice none 0 0,.slice none 0 0]) (t:=50) ?hr ?_;(case hd=>rfl);(case hg=>rfl);(case hr=>go_simp <;> rfl)
     intro a1 hg ec hbox hb
     have τ :=Aside0.mk hbox
     have e8:=sGe hg
     have e9:=sGe hg
     have κ :=sNl B hg
     have an:=sNg B hg
     replace B:=sBk B hb
     replace HB:=sHb hb
     clear hb hbox hg
     refine hK.out _ _ ⟨qc B,qc B,qc B,qc B,qc B,qc B,qc B,qc B,qc B,qc B,qc B,qc B,qc B,qc B⟩ (fun hHeld=>?_)
     clear hK K
     refine qN (some 3) ?_
     refine qK 8 (some 25) (bN 16 8703) HT_ fun K hK=>?_
     refine Q9 Try.func15 kr rfl #[.agg #[.slice ah ι.length ae,.slice af φ.length ag]] (by rfl) rfl rfl qM ?_
     with_reducible refine(newellaw19_Own.calls _ _ ι _ _ φ br bs _ ?side1 ?side2 ?side3 ?side4 A4.out).mono ?_
     (case side1=>exact(Kd.Qv d6.out HB.out))
     (case side2=>exact fu.out)
     (case side3=>exact(Kd.Qv et.out HB.out))
     (case side4=>exact eu.out)
     rintro e he ⟨jy,jz,rfl,ak,ax,hb⟩
     refine⟨_,rfl, ?_⟩
     have ai:=Aside0.mk (Kd.Q3 ak (Qh HB.out))
     have aj:=Aside0.mk (Kd.Q3 ax (Qh HB.out))
     replace B:=sBk B hb
     replace τ :=sBk τ hb
     replace HB:=sHb hb
     (try clear hb)
     (try clear a6)
     (try clear hk)
     (try clear hi)
     (try clear ak)
     (try clear ax)
     obtain⟨fv,ea,gw⟩:=Kd.Q5 ai.out
     (first|subst gw|(injection gw with ab ap ac;have ar:=ab.symm;have au:=ac.symm;clear ab ap ac;subst ar;subst au))
     obtain⟨m6,m7,ks⟩:=Kd.Q5 aj.out
     (first|subst ks|(injection ks with ab ap ac;have ar:=ab.symm;have au:=ac.symm;clear ab ap ac;subst ar;subst au))
     refine hK.out _ _ ⟨qc B,qc B,qc B,qc B,qc B,qc B,qc B,qc B,qc B,qc B,qc B,qc B,qc B,qc B⟩ (fun hHeld=>?_)
     clear hK K
     refine qN (some 25) ?_
     refine qK 9 (some 26) (bN 16 9215) HT_ fun K hK=>?_
     refine Q9 Try.func21 kr rfl #[.agg #[.int .i64 J,.int .i64 O,.int .i64 X,.int .i64 Y,.int .i64 Z,.int .i64 δ,.int .i64 γ,.int .i64 θ,.int .i64 η,.int .i64 ζ],.slice a8 ρ.length a9,.int .i64 ν,.agg #[.slice fv br.length ea,.slice m6 bs.length m7]] (by rfl) rfl rfl qM ?_
     with_reducible refine(group_Spread.calls k J O X Y Z δ γ θ η ζ _ _ ρ ν _ _ br _ _ bs a0 a5 dd _ ?side1 ?side2 ?side3 ?side4 ?side5 ?side6 A5.out).mono ?_
     (case side1=>exact(Kd.Qv cy.out HB.out))
     (case side2=>exact cz.out)
     (case side3=>exact(Kd.Qr ai.out).2.2)
     (case side4=>exact(Kd.Qr ai.out).2.1)
     (case side5=>exact(Kd.Qr aj.out).2.2)
     (case side6=>exact(Kd.Qr aj.out).2.1)
     rintro e kp ⟨dm,dn,rfl,ak,ax,hb⟩
     refine⟨_,rfl, ?_⟩
     have bg:=Aside0.mk (Kd.Q3 (Kd.Z1 ak (Kd.Xu ai.out)) (Qh HB.out))
     have bm:=Aside0.mk (Kd.Q3 (Kd.Z1 ax (Kd.Xu aj.out)) (Qh HB.out))
     replace ai:=Aside0.mk (Kd.Zb ai.out (Kd.Zy ak) hb)
     replace aj:=Aside0.mk (Kd.Zb aj.out (Kd.Zy ax) hb)
     replace B:=sBk B hb
     replace τ :=sBk τ hb
     replace HB:=sHb hb
     (try clear hb)
     (try clear a6)
     (try clear hk)
     (try clear hi)
     (try clear ak)
     (try clear ax)
     refine hK.out _ _ ⟨qc B,qc B,qc B,qc B,qc B,qc B,qc B,qc B,qc B,qc B,qc B,qc B,qc B,qc B⟩ (fun hHeld=>?_)
     clear hK K
     refine qN (some 26) ?_
     refine qP 10 (some 16) (bN 16 10239) HT_ ?_
     refine qP 11 (some 27) (bN 16 12287) HT_ ?_
     refine qP 12 (some 28) (bN 16 16383) HT_ ?_
     exact Ze (by simp only[Q6,Act.put,qS]) (hCont (.slice fv br.length ea,.slice m6 bs.length m7,dm,dn,a1) _ ⟨hHeld,(by(with_reducible repeat first|apply Kd.Qm|apply Kd.Ql|apply Kd.Qs);exact Kd.Qw ai.out (fun _ hk=>hk.2)),(by(with_reducible repeat first|apply Kd.Qm|apply Kd.Ql|apply Kd.Qs);exact Kd.Qw aj.out (fun _ hk=>hk.2)),(by(with_reducible repeat first|apply Kd.Qm|apply Kd.Ql|apply Kd.Qs);exact Kd.Qw bg.out (fun _ hk=>hk.2)),(by(with_reducible repeat first|apply Kd.Qm|apply Kd.Ql|apply Kd.Qs);exact Kd.Qw bm.out (fun _ hk=>hk.2)),B.out,τ.out,e8.out,e9.out,κ.out,an.out,HB.out⟩)
   rintro⟨jy,jz,dm,dn,a1⟩ bj ⟨hS_,b5,b6,b7,b8,b9,bl,ch,ci,cj,ck,bh⟩
   have μ :Aside0 (Kd.R k36 36 bj w.heap.size (fun k_=>some k_≠(dm:Value).ownBlock) jy br):=⟨b5⟩
   have ξ :Aside0 (Kd.R k86 86 bj w.heap.size (fun k_=>some k_≠(dn:Value).ownBlock) jz bs):=⟨b6⟩
   have a3:Aside0 (Kd.R k36 36 bj w.heap.size (fun k_=>some k_≠(jy:Value).ownBlock) dm a0):=⟨b7⟩
   have a4:Aside0 (Kd.R k86 86 bj w.heap.size (fun k_=>some k_≠(jz:Value).ownBlock) dn a5):=⟨b8⟩
   have al:Aside0 (bj.heap[ε]?=some (.cells #[.int .i64 J,.int .i64 O,.int .i64 X,.int .i64 Y,.int .i64 Z,.int .i64 δ,.int .i64 γ,.int .i64 θ,.int .i64 η,.int .i64 ζ,.slice a8 ρ.length a9,.int .i64 ν,.slice ah ι.length ae,.slice af φ.length ag] 52 (0,0))):=⟨b9⟩
   have az:Aside0 (bj.heap[a1]?=some (.cells #[.slice none 0 0,.slice none 0 0] 50 (0,0))):=⟨bl⟩
   have b3:Aside0 (w.heap.size≤a1):=⟨ch⟩
   have bb:Aside0 (w.heap.size≤a1):=⟨ci⟩
   have bk:Aside0 (ε ≠ a1):=⟨cj⟩
   have ca:Aside0 (a1 ≠ ε):=⟨ck⟩
   have bi:Aside0 (Below w.heap.size w bj):=⟨bh⟩
   clear B
   clear HB
   clear b5 b6 b7 b8 b9 bl ch ci cj ck bh
   have ai:= μ
   have aj:= ξ
   have bg:=a3
   have bm:=a4
   have B:=al
   have τ :=az
   have e8:=b3
   have e9:=bb
   have κ :=bk
   have an:=ca
   have HB:=bi
   clear μ ξ a3 a4 al az b3 bb bk ca bi
   have hHeld:bj.cell? ⟨ε,0,none⟩=some (.int .i64 J)∧bj.cell? ⟨ε,1,none⟩=some (.int .i64 O)∧bj.cell? ⟨ε,2,none⟩=some (.int .i64 X)∧bj.cell? ⟨ε,3,none⟩=some (.int .i64 Y)∧bj.cell? ⟨ε,4,none⟩=some (.int .i64 Z)∧bj.cell? ⟨ε,5,none⟩=some (.int .i64 δ)∧bj.cell? ⟨ε,6,none⟩=some (.int .i64 γ)∧bj.cell? ⟨ε,7,none⟩=some (.int .i64 θ)∧bj.cell? ⟨ε,8,none⟩=some (.int .i64 η)∧bj.cell? ⟨ε,9,none⟩=some (.int .i64 ζ)∧bj.cell? ⟨ε,10,none⟩=some (.slice a8 ρ.length a9)∧bj.cell? ⟨ε,11,none⟩=some (.int .i64 ν)∧bj.cell? ⟨ε,12,none⟩=some (.slice ah ι.length ae)∧bj.cell? ⟨ε,13,none⟩=some (.slice af φ.length ag):=hS_
   obtain⟨bu,bc,v9⟩:=Kd.Q5 bg.out
   (first|subst v9|(injection v9 with ab ap ac;have ar:=ab.symm;have au:=ac.symm;clear ab ap ac;subst ar;subst au))
   obtain⟨b1,b2,qk⟩:=Kd.Q5 bm.out
   (first|subst qk|(injection qk with ab ap ac;have ar:=ab.symm;have au:=ac.symm;clear ab ap ac;subst ar;subst au))
   refine Ze (a':=?_) ?_ ?_
   rotate_left
   ·simp only[Q6,Act.put,qS]
    rfl
   refine qK 14 (none) (bN 16 32767) HT_ fun K hK=>?_
   have zf:bj.cell? ⟨a1,0,none⟩=some (.slice none 0 0):=(Qa τ.out 0).trans rfl
   have z7:=Qb τ.out 0
   have yb:= κ.out
   have yc:=an.out
   have zg:bj.cell? ⟨a1,1,none⟩=some (.slice none 0 0):=(Qa τ.out 1).trans rfl
   have z8:=Qb τ.out 1
   have yd:= κ.out
   have ye:=an.out
   refine Kq (w1:=?_) (by rfl) rfl ?_ ?_
   rotate_left
   ·go_simp
    rfl
   refine hK.out _ _ ⟨((cell_far (p:=⟨a1,_,none⟩) κ.out _).trans (((cell_far (p:=⟨a1,_,none⟩) κ.out _).trans (hHeld.1)))),((cell_far (p:=⟨a1,_,none⟩) κ.out _).trans (((cell_far (p:=⟨a1,_,none⟩) κ.out _).trans (hHeld.2.1)))),((cell_far (p:=⟨a1,_,none⟩) κ.out _).trans (((cell_far (p:=⟨a1,_,none⟩) κ.out _).trans (hHeld.2.2.1)))),((cell_far (p:=⟨a1,_,none⟩) κ.out _).trans (((cell_far (p:=⟨a1,_,none⟩) κ.out _).trans (hHeld.2.2.2.1)))),((cell_far (p:=⟨a1,_,none⟩) κ.out _).trans (((cell_far (p:=⟨a1,_,none⟩) κ.out _).trans (hHeld.2.2.2.2.1)))),((cell_far (p:=⟨a1,_,none⟩) κ.out _).trans (((cell_far (p:=⟨a1,_,none⟩) κ.out _).trans (hHeld.2.2.2.2.2.1)))),((cell_far (p:=⟨a1,_,none⟩) κ.out _).trans (((cell_far (p:=⟨a1,_,none⟩) κ.out _).trans (hHeld.2.2.2.2.2.2.1)))),((cell_far (p:=⟨a1,_,none⟩) κ.out _).trans (((cell_far (p:=⟨a1,_,none⟩) κ.out _).trans (hHeld.2.2.2.2.2.2.2.1)))),((cell_far (p:=⟨a1,_,none⟩) κ.out _).trans (((cell_far (p:=⟨a1,_,none⟩) κ.out _).trans (hHeld.2.2.2.2.2.2.2.2.1)))),((cell_far (p:=⟨a1,_,none⟩) κ.out _).trans (((cell_far (p:=⟨a1,_,none⟩) κ.out _).trans (hHeld.2.2.2.2.2.2.2.2.2.1)))),((cell_far (p:=⟨a1,_,none⟩) κ.out _).trans (((cell_far (p:=⟨a1,_,none⟩) κ.out _).trans (hHeld.2.2.2.2.2.2.2.2.2.2.1)))),((cell_far (p:=⟨a1,_,none⟩) κ.out _).trans (((cell_far (p:=⟨a1,_,none⟩) κ.out _).trans (hHeld.2.2.2.2.2.2.2.2.2.2.2.1)))),((cell_far (p:=⟨a1,_,none⟩) κ.out _).trans (((cell_far (p:=⟨a1,_,none⟩) κ.out _).trans (hHeld.2.2.2.2.2.2.2.2.2.2.2.2.1)))),((cell_far (p:=⟨a1,_,none⟩) κ.out _).trans (((cell_far (p:=⟨a1,_,none⟩) κ.out _).trans (hHeld.2.2.2.2.2.2.2.2.2.2.2.2.2))))⟩ (fun hHeld=>?_)
   clear hK K
   refine qP 15 (some 4) (bN 16 65535) HT_ ?_
   refine Z2 (Zf HT_.out kr) ?_
   try go_wp2
   go_loopg [5,6] k (fun kq v5 v6 w'=>∃ (a7:Bool) (am:Int),v5 = .bool a7∧v6 = .int .i64 am∧Aside0 (newellaw21_GroupAll.l0 kq a7 am J O X Y Z δ γ θ η ζ ρ ν ι φ a0 a5=some r)∧Aside0 (kq≤k)∧Aside0 (Kd.R k36 36 w' w.heap.size (fun _=>True) (.slice bu a0.length bc) a0)∧Aside0 (Kd.R k86 86 w' w.heap.size (fun _=>True) (.slice b1 a5.length b2) a5)∧Aside0 (w'.heap[ε]?=some (.cells #[.int .i64 J,.int .i64 O,.int .i64 X,.int .i64 Y,.int .i64 Z,.int .i64 δ,.int .i64 γ,.int .i64 θ,.int .i64 η,.int .i64 ζ,(.slice a8 ρ.length a9),.int .i64 ν,(.slice ah ι.length ae),(.slice af φ.length ag)] 52 (0,0)))∧Aside0 (w'.heap[a1]?=some (.cells #[(.slice bu a0.length bc),(.slice b1 a5.length b2)] 50 (0,0)))∧Aside0 (Below w.heap.size w w'))
   case atStart=>exact⟨(false),(0),qR,qR,H',⟨Nat.le_refl _⟩,⟨by(with_reducible repeat first|apply Kd.Qm|apply Kd.Ql|apply Kd.Qs);exact Kd.Qw (Kd.Qz (Kd.Qz (Kd.Q7 bg.out τ.out (by decide)) (fun _ hk=>hk.2) _) (fun _ hk=>hk.2) _) (fun _ hk=>trivial)⟩,⟨by(with_reducible repeat first|apply Kd.Qm|apply Kd.Ql|apply Kd.Qs);exact Kd.Qw (Kd.Qz (Kd.Qz (Kd.Q7 bm.out τ.out (by decide)) (fun _ hk=>hk.2) _) (fun _ hk=>hk.2) _) (fun _ hk=>trivial)⟩,⟨bka B⟩,⟨by(with_reducible repeat first|refine Qn ?_ _|refine Qe ?_|refine Qo ?_ _);refine Qq (cs:=#[.slice bu a0.length bc,.slice none 0 0]) ?_ 1 _ rfl;(with_reducible repeat first|refine Qn ?_ _|refine Qe ?_|refine Qo ?_ _);refine Qq (cs:=#[.slice none 0 0,.slice none 0 0]) ?_ 0 _ rfl;(with_reducible repeat first|refine Qn ?_ _|refine Qe ?_|refine Qo ?_ _);exact τ.out⟩,⟨bel⟩⟩
   case round=>
    clear H'
    try clear c1
    try clear c2
    try clear p2
    try clear c3
    try clear c6
    try clear c6b0
    try clear c6b1
    try clear c8
    try clear be
    try clear b4
    try clear df
    try clear dh
    try clear gg
    try clear gh
    try clear gi
    try clear gj
    try clear di
    try clear ed
    try clear ee
    try clear ef
    try clear eg
    try clear eh
    try clear ei
    try clear ej
    try clear dj
    try clear dk
    try clear gl
    try clear gm
    try clear gn
    try clear gp
    try clear dl
    try clear ek
    try clear el
    try clear em
    try clear en
    try clear eo
    try clear ep
    try clear er
    obtain⟨a7,am,rfl,rfl,HA,ao,χ,ψ,B,τ,HB⟩:=hrel
    cases gk with
    |zero=>exact absurd HA.out (by simp[newellaw21_GroupAll.l0])
    |succ k1=>
     have H:=HA.out
     clear HA
     simp only[newellaw21_GroupAll.l0] at H
     by_cases ba:am<(ρ.length:Int)
     ·rw[if_pos ba] at H
      have c21b0:decide (am<(ρ.length:Int))=true:=decide_eq_true ba
      clear ba
      have qt:=Aside0.mk H
      clear H
      have lb:= κ.out
      have lc:=an.out
      have bn:wr.cell? ⟨ε,0,none⟩=some (.int .i64 J):=(Qa B.out 0).trans rfl
      have bo:wr.cell? ⟨ε,1,none⟩=some (.int .i64 O):=(Qa B.out 1).trans rfl
      have cm:wr.cell? ⟨ε,2,none⟩=some (.int .i64 X):=(Qa B.out 2).trans rfl
      have dr:wr.cell? ⟨ε,3,none⟩=some (.int .i64 Y):=(Qa B.out 3).trans rfl
      have dt:wr.cell? ⟨ε,4,none⟩=some (.int .i64 Z):=(Qa B.out 4).trans rfl
      have du:wr.cell? ⟨ε,5,none⟩=some (.int .i64 δ):=(Qa B.out 5).trans rfl
      have dv:wr.cell? ⟨ε,6,none⟩=some (.int .i64 γ):=(Qa B.out 6).trans rfl
      have dw:wr.cell? ⟨ε,7,none⟩=some (.int .i64 θ):=(Qa B.out 7).trans rfl
      have dx:wr.cell? ⟨ε,8,none⟩=some (.int .i64 η):=(Qa B.out 8).trans rfl
      have dy:wr.cell? ⟨ε,9,none⟩=some (.int .i64 ζ):=(Qa B.out 9).trans rfl
      have ib:wr.cell? ⟨ε,10,none⟩=some (.slice a8 ρ.length a9):=(Qa B.out 10).trans rfl
      have ic:wr.cell? ⟨ε,11,none⟩=some (.int .i64 ν):=(Qa B.out 11).trans rfl
      have ie:wr.cell? ⟨ε,12,none⟩=some (.slice ah ι.length ae):=(Qa B.out 12).trans rfl
      have ig:wr.cell? ⟨ε,13,none⟩=some (.slice af φ.length ag):=(Qa B.out 13).trans rfl
      have bp:=Qb B.out 0
      have bq:=Qb B.out 1
      have cn:=Qb B.out 2
      have dz:=Qb B.out 3
      have e0:=Qb B.out 4
      have e3:=Qb B.out 5
      have e4:=Qb B.out 6
      have e5:=Qb B.out 7
      have e6:=Qb B.out 8
      have e7:=Qb B.out 9
      have ih:=Qb B.out 10
      have ii:=Qb B.out 11
      have ij:=Qb B.out 12
      have ik:=Qb B.out 13
      go_upto_block 1 with(fail)
      go_cut [5] (fun v5 wc=>∃ (kq:Nat) (nm:Bool),v5 = .bool nm∧Aside0 (newellaw21_GroupAll.j1 kq nm am J O X Y Z δ γ θ η ζ ρ ν ι φ a0 a5=some r)∧Aside0 (kq≤k1)∧Aside0 (Kd.R k36 36 wc w.heap.size (fun _=>True) (.slice bu a0.length bc) a0)∧Aside0 (Kd.R k86 86 wc w.heap.size (fun _=>True) (.slice b1 a5.length b2) a5)∧Aside0 (wc.heap[ε]?=some (.cells #[.int .i64 J,.int .i64 O,.int .i64 X,.int .i64 Y,.int .i64 Z,.int .i64 δ,.int .i64 γ,.int .i64 θ,.int .i64 η,.int .i64 ζ,(.slice a8 ρ.length a9),.int .i64 ν,(.slice ah ι.length ae),(.slice af φ.length ag)] 52 (0,0)))∧Aside0 (wc.heap[a1]?=some (.cells #[(.slice bu a0.length bc),(.slice b1 a5.length b2)] 50 (0,0)))∧Aside0 (Below w.heap.size w wc))
      case first=>
       have H:=qt.out
       clear qt
       by_cases bf:a7=true
       ·subst bf
        have H1:(newellaw21_GroupAll.j1 k1 true am J O X Y Z δ γ θ η ζ ρ ν ι φ a0 a5)=some r:=by rw[if_pos rfl] at H;exact H
        clear H
        have H:=H1
        clear H1
        have H':=Aside0.mk H
        clear H
        go_wp2
        go_meet
        case rel=>exact⟨_,(true),rfl,H',⟨by have:=ao.out;omega⟩,⟨by(with_reducible repeat first|apply Kd.Qm|apply Kd.Ql|apply Kd.Qs);exact χ.out⟩,⟨by(with_reducible repeat first|apply Kd.Qm|apply Kd.Ql|apply Kd.Qs);exact ψ.out⟩,B,τ,HB⟩
       ·replace bf:=Bool.eq_false_iff.mpr bf
        subst bf
        have H1:(if 0≤(IntKind.u64.wrap (am)) then (newellaw21_GroupAll.j1 k1 ((Go.bits .and .i64 (shr .i64 ν (IntKind.u64.wrap (am))) 1)==0) am J O X Y Z δ γ θ η ζ ρ ν ι φ a0 a5) else (none))=some r:=by rw[if_neg (show ¬ (false=true) by decide)] at H;exact H
        clear H
        have H:=H1
        clear H1
        obtain⟨l3,sr⟩:∃ j_:Int,(IntKind.u64.wrap (am))=j_:=⟨_,rfl⟩
        replace H:(if 0≤(l3) then (newellaw21_GroupAll.j1 k1 ((Go.bits .and .i64 (shr .i64 ν (l3)) 1)==0) am J O X Y Z δ γ θ η ζ ρ ν ι φ a0 a5) else (none))=some r:=by first|(rw[sr] at H;exact H)|(simp only[sr] at H ⊢;exact H)
        by_cases ev:0≤(l3)
        ·rw[if_pos ev] at H
         have c27b0:=eq_true ev
         have c27b1:decide (0≤(l3))=true:=decide_eq_true ev
         clear ev
         obtain⟨qn,me⟩:∃ j_:Int,(shr .i64 ν (l3))=j_:=⟨_,rfl⟩
         replace H:(newellaw21_GroupAll.j1 k1 ((Go.bits .and .i64 (qn) 1)==0) am J O X Y Z δ γ θ η ζ ρ ν ι φ a0 a5)=some r:=by first|(rw[me] at H;exact H)|(simp only[me] at H ⊢;exact H)
         have yv:(ν / 2 ^ min (l3).toNat 64)=qn:=me
         have hji28z:(l3)≤64→(ν / 2 ^ (l3).toNat)=qn:=Yp me
         have H':=Aside0.mk H
         clear H
         have ql:= κ.out
         have qm:=an.out
         have d7:wr.cell? ⟨ε,0,none⟩=some (.int .i64 J):=(Qa B.out 0).trans rfl
         have d8:wr.cell? ⟨ε,1,none⟩=some (.int .i64 O):=(Qa B.out 1).trans rfl
         have dp:wr.cell? ⟨ε,2,none⟩=some (.int .i64 X):=(Qa B.out 2).trans rfl
         have fa:wr.cell? ⟨ε,3,none⟩=some (.int .i64 Y):=(Qa B.out 3).trans rfl
         have fb:wr.cell? ⟨ε,4,none⟩=some (.int .i64 Z):=(Qa B.out 4).trans rfl
         have fc:wr.cell? ⟨ε,5,none⟩=some (.int .i64 δ):=(Qa B.out 5).trans rfl
         have fe:wr.cell? ⟨ε,6,none⟩=some (.int .i64 γ):=(Qa B.out 6).trans rfl
         have gq:wr.cell? ⟨ε,7,none⟩=some (.int .i64 θ):=(Qa B.out 7).trans rfl
         have gr:wr.cell? ⟨ε,8,none⟩=some (.int .i64 η):=(Qa B.out 8).trans rfl
         have gs:wr.cell? ⟨ε,9,none⟩=some (.int .i64 ζ):=(Qa B.out 9).trans rfl
         have il:wr.cell? ⟨ε,10,none⟩=some (.slice a8 ρ.length a9):=(Qa B.out 10).trans rfl
         have im:wr.cell? ⟨ε,11,none⟩=some (.int .i64 ν):=(Qa B.out 11).trans rfl
         have io:wr.cell? ⟨ε,12,none⟩=some (.slice ah ι.length ae):=(Qa B.out 12).trans rfl
         have ip:wr.cell? ⟨ε,13,none⟩=some (.slice af φ.length ag):=(Qa B.out 13).trans rfl
         have d9:=Qb B.out 0
         have da:=Qb B.out 1
         have dq:=Qb B.out 2
         have ff:=Qb B.out 3
         have fg:=Qb B.out 4
         have fh:=Qb B.out 5
         have fi:=Qb B.out 6
         have gt:=Qb B.out 7
         have gu:=Qb B.out 8
         have gv:=Qb B.out 9
         have iq:=Qb B.out 10
         have ir:=Qb B.out 11
         have iu:=Qb B.out 12
         have iv:=Qb B.out 13
         go_wp2
         go_meet
         case rel=>exact⟨_,(((Go.bits .and .i64 (qn) 1)==0)),(by first|rfl|(simp;done)|(simp only[← me] <;> (first|rfl|simp))|(simp[*];done)),H',⟨by have:=ao.out;omega⟩,⟨by(with_reducible repeat first|apply Kd.Qm|apply Kd.Ql|apply Kd.Qs);exact χ.out⟩,⟨by(with_reducible repeat first|apply Kd.Qm|apply Kd.Ql|apply Kd.Qs);exact ψ.out⟩,B,τ,HB⟩
        ·rw[if_neg ev] at H
         exact absurd H (by simp)
      case rest=>
       clear qt
       try clear c1
       try clear c2
       try clear p2
       try clear c3
       try clear c6
       try clear c6b0
       try clear c6b1
       try clear c8
       try clear be
       try clear b4
       try clear ba
       try clear c21b0
       try clear kk
       try clear bf
       try clear ev
       try clear c27b0
       try clear c27b1
       try clear d5
       try clear bn
       try clear bo
       try clear ib
       try clear ic
       try clear ie
       try clear ig
       try clear cm
       try clear dr
       try clear dt
       try clear du
       try clear dv
       try clear dw
       try clear dx
       try clear dy
       try clear d7
       try clear d8
       try clear il
       try clear im
       try clear io
       try clear ip
       try clear dp
       try clear fa
       try clear fb
       try clear fc
       try clear fe
       try clear gq
       try clear gr
       try clear gs
       try clear df
       try clear dh
       try clear gg
       try clear gh
       try clear gi
       try clear gj
       try clear di
       try clear ed
       try clear ee
       try clear ef
       try clear eg
       try clear eh
       try clear ei
       try clear ej
       try clear bp
       try clear bq
       try clear ih
       try clear ii
       try clear ij
       try clear ik
       try clear cn
       try clear dz
       try clear e0
       try clear e3
       try clear e4
       try clear e5
       try clear e6
       try clear e7
       try clear d9
       try clear da
       try clear iq
       try clear ir
       try clear iu
       try clear iv
       try clear dq
       try clear ff
       try clear fg
       try clear fh
       try clear fi
       try clear gt
       try clear gu
       try clear gv
       try clear dj
       try clear dk
       try clear gl
       try clear gm
       try clear gn
       try clear gp
       try clear dl
       try clear ek
       try clear el
       try clear em
       try clear en
       try clear eo
       try clear ep
       try clear er
       try clear p2
       obtain⟨kq,nm,rfl,HA,va,χ,ψ,B,τ,HB⟩:=hcut
       cases kq with
       |zero=>exact absurd HA.out (by simp[newellaw21_GroupAll.j1])
       |succ wm=>
        have H:=HA.out
        clear HA
        simp only[newellaw21_GroupAll.j1] at H
        have H':=Aside0.mk H
        clear H
        go_wp2
        go_roundg wm
        case measure=>have:=ao.out;have:=va.out;omega
        case rel=>exact⟨(nm),(wrap64 (am+1)),rfl,rfl,H',⟨by have:=ao.out;have:=va.out;omega⟩,⟨by(with_reducible repeat first|apply Kd.Qm|apply Kd.Ql|apply Kd.Qs);exact χ.out⟩,⟨by(with_reducible repeat first|apply Kd.Qm|apply Kd.Ql|apply Kd.Qs);exact ψ.out⟩,B,τ,HB⟩
     ·rw[if_neg ba] at H
      have c21b0:decide (am<(ρ.length:Int))=false:=decide_eq_false ba
      clear ba
      have qu:=Aside0.mk H
      clear H
      have m8:= κ.out
      have m9:=an.out
      have d0:wr.cell? ⟨ε,0,none⟩=some (.int .i64 J):=(Qa B.out 0).trans rfl
      have d1:wr.cell? ⟨ε,1,none⟩=some (.int .i64 O):=(Qa B.out 1).trans rfl
      have db:wr.cell? ⟨ε,2,none⟩=some (.int .i64 X):=(Qa B.out 2).trans rfl
      have fj:wr.cell? ⟨ε,3,none⟩=some (.int .i64 Y):=(Qa B.out 3).trans rfl
      have fk:wr.cell? ⟨ε,4,none⟩=some (.int .i64 Z):=(Qa B.out 4).trans rfl
      have fl:wr.cell? ⟨ε,5,none⟩=some (.int .i64 δ):=(Qa B.out 5).trans rfl
      have fm:wr.cell? ⟨ε,6,none⟩=some (.int .i64 γ):=(Qa B.out 6).trans rfl
      have hy:wr.cell? ⟨ε,7,none⟩=some (.int .i64 θ):=(Qa B.out 7).trans rfl
      have i0:wr.cell? ⟨ε,8,none⟩=some (.int .i64 η):=(Qa B.out 8).trans rfl
      have i1:wr.cell? ⟨ε,9,none⟩=some (.int .i64 ζ):=(Qa B.out 9).trans rfl
      have k0:wr.cell? ⟨ε,10,none⟩=some (.slice a8 ρ.length a9):=(Qa B.out 10).trans rfl
      have k2:wr.cell? ⟨ε,11,none⟩=some (.int .i64 ν):=(Qa B.out 11).trans rfl
      have k4:wr.cell? ⟨ε,12,none⟩=some (.slice ah ι.length ae):=(Qa B.out 12).trans rfl
      have k5:wr.cell? ⟨ε,13,none⟩=some (.slice af φ.length ag):=(Qa B.out 13).trans rfl
      have d2:=Qb B.out 0
      have d3:=Qb B.out 1
      have dc:=Qb B.out 2
      have fn:=Qb B.out 3
      have fo:=Qb B.out 4
      have fp:=Qb B.out 5
      have fq:=Qb B.out 6
      have i2:=Qb B.out 7
      have i3:=Qb B.out 8
      have i4:=Qb B.out 9
      have k6:=Qb B.out 10
      have k7:=Qb B.out 11
      have k8:=Qb B.out 12
      have k9:=Qb B.out 13
      go_upto_region 11 with(fail)
      go_cut [67] (fun yw wc=>∃ (kq:Nat) (mf:Bool),yw = .bool mf∧Aside0 (newellaw21_GroupAll.j2 kq a7 mf J O X Y Z δ γ θ η ζ ρ ν ι φ a0 a5=some r)∧Aside0 (kq≤k1)∧Aside0 (Kd.R k36 36 wc w.heap.size (fun _=>True) (.slice bu a0.length bc) a0)∧Aside0 (Kd.R k86 86 wc w.heap.size (fun _=>True) (.slice b1 a5.length b2) a5)∧Aside0 (wc.heap[ε]?=some (.cells #[.int .i64 J,.int .i64 O,.int .i64 X,.int .i64 Y,.int .i64 Z,.int .i64 δ,.int .i64 γ,.int .i64 θ,.int .i64 η,.int .i64 ζ,(.slice a8 ρ.length a9),.int .i64 ν,(.slice ah ι.length ae),(.slice af φ.length ag)] 52 (0,0)))∧Aside0 (wc.heap[a1]?=some (.cells #[(.slice bu a0.length bc),(.slice b1 a5.length b2)] 50 (0,0)))∧Aside0 (Below w.heap.size w wc))
      case first=>
       have H:=qu.out
       clear qu
       by_cases ix:(a0.length:Int)=(ι.length:Int)
       ·rw[if_pos ix] at H
        have c34b0:((a0.length:Int)==(ι.length:Int))=true:=beq_iff_eq.mpr ix
        have c34b1:((a0.length:Int) != (ι.length:Int))=false:=bne_eq_false_iff_eq.mpr ix
        have c34b2:(a0.length == ι.length)=true:=by first|simpa using ix|(simp at ix ⊢;omega)
        clear ix
        (first|rw[c34b0]|(simp only[Xe,Xh];rw[c34b0])|skip)
        replace H:=Option.bind_eq_some_iff.mp H
        obtain⟨nx,vb,H⟩:=H
        replace H:(newellaw21_GroupAll.j2 k1 a7 (!nx) J O X Y Z δ γ θ η ζ ρ ν ι φ a0 a5)=some r:=H
        have yx:=Aside0.mk vb
        clear vb
        have H':=Aside0.mk H
        clear H
        have sb:=an.out
        have sc:= κ.out
        obtain⟨jc,jd,je,jf⟩:=qD2 τ.out
        have jg:wr.cell? ⟨ε,0,none⟩=some (.int .i64 J):=(Qa B.out 0).trans rfl
        have jh:wr.cell? ⟨ε,1,none⟩=some (.int .i64 O):=(Qa B.out 1).trans rfl
        have ji:wr.cell? ⟨ε,2,none⟩=some (.int .i64 X):=(Qa B.out 2).trans rfl
        have jj:wr.cell? ⟨ε,3,none⟩=some (.int .i64 Y):=(Qa B.out 3).trans rfl
        have jk:wr.cell? ⟨ε,4,none⟩=some (.int .i64 Z):=(Qa B.out 4).trans rfl
        have jl:wr.cell? ⟨ε,5,none⟩=some (.int .i64 δ):=(Qa B.out 5).trans rfl
        have jm:wr.cell? ⟨ε,6,none⟩=some (.int .i64 γ):=(Qa B.out 6).trans rfl
        have lm:wr.cell? ⟨ε,7,none⟩=some (.int .i64 θ):=(Qa B.out 7).trans rfl
        have ln:wr.cell? ⟨ε,8,none⟩=some (.int .i64 η):=(Qa B.out 8).trans rfl
        have lp:wr.cell? ⟨ε,9,none⟩=some (.int .i64 ζ):=(Qa B.out 9).trans rfl
        have ka:wr.cell? ⟨ε,10,none⟩=some (.slice a8 ρ.length a9):=(Qa B.out 10).trans rfl
        have kb:wr.cell? ⟨ε,11,none⟩=some (.int .i64 ν):=(Qa B.out 11).trans rfl
        have kc:wr.cell? ⟨ε,12,none⟩=some (.slice ah ι.length ae):=(Qa B.out 12).trans rfl
        have kd:wr.cell? ⟨ε,13,none⟩=some (.slice af φ.length ag):=(Qa B.out 13).trans rfl
        have jn:=Qb B.out 0
        have jo:=Qb B.out 1
        have jp:=Qb B.out 2
        have jq:=Qb B.out 3
        have jr:=Qb B.out 4
        have js:=Qb B.out 5
        have jt:=Qb B.out 6
        have lq:=Qb B.out 7
        have lr:=Qb B.out 8
        have ls:=Qb B.out 9
        have ke:=Qb B.out 10
        have kf:=Qb B.out 11
        have kg:=Qb B.out 12
        have kh:=Qb B.out 13
        go_wp2_with (first|(go_at_call 26;(refine(call_Same.calls k1 _ _ ([]:List (S36)) _ _ a5 _ _ ([]:List (S36)) _ _ φ nx _ ?side1 ?side2 ?side3 ?side4 ?side5 ?side6 ?side7 ?side8 yx.out).mono ?_);(case side1=>exact Kd.Ja _ _);(case side2=>exact Nat.le_refl _);(case side3=>exact(Kd.Qr ψ.out).2.2);(case side4=>exact(Kd.Qr ψ.out).2.1);(case side5=>exact Kd.Ja _ _);(case side6=>exact Nat.le_refl _);(case side7=>exact(Kd.Qv et.out HB.out));(case side8=>exact eu.out);rintro e sd ⟨rfl,hb⟩;have μ :=Aside0.mk (Kd.Za χ.out hb);have ξ :=Aside0.mk (Kd.Za ψ.out hb);have a3:=Aside0.mk (Qy (g:= ε) (o:=.cells #[.int .i64 J,.int .i64 O,.int .i64 X,.int .i64 Y,.int .i64 Z,.int .i64 δ,.int .i64 γ,.int .i64 θ,.int .i64 η,.int .i64 ζ,.slice a8 ρ.length a9,.int .i64 ν,.slice ah ι.length ae,.slice af φ.length ag] 52 (0,0)) B.out hb);have a4:=Aside0.mk (Qy (g:=a1) (o:=.cells #[.slice bu a0.length bc,.slice b1 a5.length b2] 50 (0,0)) τ.out hb);have al:=Aside0.mk (Q0 HB.out hb);clear χ;clear ψ;clear B;clear τ;clear HB;have χ := μ;have ψ := ξ;have B:=a3;have τ :=a4;have HB:=al;clear μ ξ a3 a4 al;(try clear hb);(try clear a6);(try clear hk);(try clear hi)))
        go_meet
        case rel=>exact⟨_,(!nx),rfl,H',⟨by have:=ao.out;omega⟩,⟨by(with_reducible repeat first|apply Kd.Qm|apply Kd.Ql|apply Kd.Qs);exact χ.out⟩,⟨by(with_reducible repeat first|apply Kd.Qm|apply Kd.Ql|apply Kd.Qs);exact ψ.out⟩,B,τ,HB⟩
       ·rw[if_neg ix] at H
        exact absurd H (by simp)
      case rest=>
       clear qu
       try clear c1
       try clear c2
       try clear p2
       try clear c3
       try clear c6
       try clear c6b0
       try clear c6b1
       try clear p6
       try clear c8
       try clear be
       try clear b4
       try clear ba
       try clear c21b0
       try clear kk
       try clear bf
       try clear ev
       try clear c27b0
       try clear c27b1
       try clear d5
       try clear si
       try clear ix
       try clear c34b0
       try clear c34b1
       try clear c34b2
       try clear sj
       try clear bn
       try clear bo
       try clear ib
       try clear ic
       try clear ie
       try clear ig
       try clear cm
       try clear dr
       try clear dt
       try clear du
       try clear dv
       try clear dw
       try clear dx
       try clear dy
       try clear d7
       try clear d8
       try clear il
       try clear im
       try clear io
       try clear ip
       try clear dp
       try clear fa
       try clear fb
       try clear fc
       try clear fe
       try clear gq
       try clear gr
       try clear gs
       try clear d0
       try clear d1
       try clear k0
       try clear k2
       try clear k4
       try clear k5
       try clear db
       try clear fj
       try clear fk
       try clear fl
       try clear fm
       try clear hy
       try clear i0
       try clear i1
       try clear jc
       try clear jd
       try clear jg
       try clear jh
       try clear ka
       try clear kb
       try clear kc
       try clear kd
       try clear ji
       try clear jj
       try clear jk
       try clear jl
       try clear jm
       try clear lm
       try clear ln
       try clear lp
       try clear df
       try clear dh
       try clear gg
       try clear gh
       try clear gi
       try clear gj
       try clear di
       try clear ed
       try clear ee
       try clear ef
       try clear eg
       try clear eh
       try clear ei
       try clear ej
       try clear bp
       try clear bq
       try clear ih
       try clear ii
       try clear ij
       try clear ik
       try clear cn
       try clear dz
       try clear e0
       try clear e3
       try clear e4
       try clear e5
       try clear e6
       try clear e7
       try clear d9
       try clear da
       try clear iq
       try clear ir
       try clear iu
       try clear iv
       try clear dq
       try clear ff
       try clear fg
       try clear fh
       try clear fi
       try clear gt
       try clear gu
       try clear gv
       try clear d2
       try clear d3
       try clear k6
       try clear k7
       try clear k8
       try clear k9
       try clear dc
       try clear fn
       try clear fo
       try clear fp
       try clear fq
       try clear i2
       try clear i3
       try clear i4
       try clear je
       try clear jf
       try clear jn
       try clear jo
       try clear ke
       try clear kf
       try clear kg
       try clear kh
       try clear jp
       try clear jq
       try clear jr
       try clear js
       try clear jt
       try clear lq
       try clear lr
       try clear ls
       try clear dj
       try clear dk
       try clear gl
       try clear gm
       try clear gn
       try clear gp
       try clear dl
       try clear ek
       try clear el
       try clear em
       try clear en
       try clear eo
       try clear ep
       try clear er
       try clear p2
       obtain⟨kq,mf,rfl,HA,j7,χ,ψ,B,τ,HB⟩:=hcut
       cases kq with
       |zero=>exact absurd HA.out (by simp[newellaw21_GroupAll.j2])
       |succ qv=>
        have H:=HA.out
        clear HA
        simp only[newellaw21_GroupAll.j2] at H
        by_cases de:mf=true
        ·subst de
         have H1:(none)=some r:=by rw[if_pos rfl] at H;exact H
         clear H
         have H:=H1
         clear H1
         exact absurd H (by simp)
        ·replace de:=Bool.eq_false_iff.mpr de
         subst de
         have H1:(newellaw21_GroupAll.l1 qv a7 0 J O X Y Z δ γ θ η ζ ρ ν ι φ a0 a5)=some r:=by rw[if_neg (show ¬ (false=true) by decide)] at H;exact H
         clear H
         have H:=H1
         clear H1
         have H':=Aside0.mk H
         clear H
         go_wp2
         go_loopg [7] qv (fun kq v7 w'=>∃ (ω :Int),v7 = .int .i64 ω ∧ Aside0 (newellaw21_GroupAll.l1 kq a7 ω J O X Y Z δ γ θ η ζ ρ ν ι φ a0 a5=some r)∧Aside0 (kq≤qv)∧Aside0 (Kd.R k36 36 w' w.heap.size (fun _=>True) (.slice bu a0.length bc) a0)∧Aside0 (Kd.R k86 86 w' w.heap.size (fun _=>True) (.slice b1 a5.length b2) a5)∧Aside0 (w'.heap[ε]?=some (.cells #[.int .i64 J,.int .i64 O,.int .i64 X,.int .i64 Y,.int .i64 Z,.int .i64 δ,.int .i64 γ,.int .i64 θ,.int .i64 η,.int .i64 ζ,(.slice a8 ρ.length a9),.int .i64 ν,(.slice ah ι.length ae),(.slice af φ.length ag)] 52 (0,0)))∧Aside0 (w'.heap[a1]?=some (.cells #[(.slice bu a0.length bc),(.slice b1 a5.length b2)] 50 (0,0)))∧Aside0 (Below w.heap.size w w'))
         case atStart=>exact⟨(0),rfl,H',⟨Nat.le_refl _⟩,⟨by(with_reducible repeat first|apply Kd.Qm|apply Kd.Ql|apply Kd.Qs);exact χ.out⟩,⟨by(with_reducible repeat first|apply Kd.Qm|apply Kd.Ql|apply Kd.Qs);exact ψ.out⟩,B,τ,HB⟩
         case round=>
          clear H'
          try clear c1
          try clear c2
          try clear p2
          try clear c3
          try clear c4
          try clear c6
          try clear c6b0
          try clear c6b1
          try clear p6
          try clear c8
          try clear be
          try clear b4
          try clear ba
          try clear c21b0
          try clear kk
          try clear bf
          try clear ev
          try clear c27b0
          try clear c27b1
          try clear d5
          try clear si
          try clear ix
          try clear c34b0
          try clear c34b1
          try clear c34b2
          try clear sj
          try clear de
          try clear bn
          try clear bo
          try clear ib
          try clear ic
          try clear ie
          try clear ig
          try clear cm
          try clear dr
          try clear dt
          try clear du
          try clear dv
          try clear dw
          try clear dx
          try clear dy
          try clear d7
          try clear d8
          try clear il
          try clear im
          try clear io
          try clear ip
          try clear dp
          try clear fa
          try clear fb
          try clear fc
          try clear fe
          try clear gq
          try clear gr
          try clear gs
          try clear d0
          try clear d1
          try clear k0
          try clear k2
          try clear k4
          try clear k5
          try clear db
          try clear fj
          try clear fk
          try clear fl
          try clear fm
          try clear hy
          try clear i0
          try clear i1
          try clear jc
          try clear jd
          try clear jg
          try clear jh
          try clear ka
          try clear kb
          try clear kc
          try clear kd
          try clear ji
          try clear jj
          try clear jk
          try clear jl
          try clear jm
          try clear lm
          try clear ln
          try clear lp
          try clear df
          try clear dh
          try clear gg
          try clear gh
          try clear gi
          try clear gj
          try clear di
          try clear ed
          try clear ee
          try clear ef
          try clear eg
          try clear eh
          try clear ei
          try clear ej
          try clear bp
          try clear bq
          try clear ih
          try clear ii
          try clear ij
          try clear ik
          try clear cn
          try clear dz
          try clear e0
          try clear e3
          try clear e4
          try clear e5
          try clear e6
          try clear e7
          try clear d9
          try clear da
          try clear iq
          try clear ir
          try clear iu
          try clear iv
          try clear dq
          try clear ff
          try clear fg
          try clear fh
          try clear fi
          try clear gt
          try clear gu
          try clear gv
          try clear d2
          try clear d3
          try clear k6
          try clear k7
          try clear k8
          try clear k9
          try clear dc
          try clear fn
          try clear fo
          try clear fp
          try clear fq
          try clear i2
          try clear i3
          try clear i4
          try clear je
          try clear jf
          try clear jn
          try clear jo
          try clear ke
          try clear kf
          try clear kg
          try clear kh
          try clear jp
          try clear jq
          try clear jr
          try clear js
          try clear jt
          try clear lq
          try clear lr
          try clear ls
          try clear dj
          try clear dk
          try clear gl
          try clear gm
          try clear gn
          try clear gp
          try clear dl
          try clear ek
          try clear el
          try clear em
          try clear en
          try clear eo
          try clear ep
          try clear er
          try clear p2
          try clear p6
          obtain⟨ω,rfl,HA,m5,χ,ψ,B,τ,HB⟩:=hrel
          cases gk with
          |zero=>exact absurd HA.out (by simp[newellaw21_GroupAll.l1])
          |succ k3=>
           have H:=HA.out
           clear HA
           simp only[newellaw21_GroupAll.l1] at H
           by_cases i6: ω < (a0.length:Int)
           ·rw[if_pos i6] at H
            have c41b0:decide (ω < (a0.length:Int))=true:=decide_eq_true i6
            clear i6
            by_cases pr:0 ≤ ω
            ·rw[if_pos pr] at H
             have c42b0:decide (0 ≤ ω)=true:=decide_eq_true pr
             clear pr
             by_cases i7: ω < (ι.length:Int)
             ·rw[if_pos i7] at H
              have c43b0:decide (ω < (ι.length:Int))=true:=decide_eq_true i7
              clear i7
              have qw:=Aside0.mk H
              clear H
              have ma:=an.out
              have mb:= κ.out
              obtain⟨hl,ho,hu,hx⟩:=qD2 τ.out
              have lf:wr.cell? ⟨ε,0,none⟩=some (.int .i64 J):=(Qa B.out 0).trans rfl
              have lg:wr.cell? ⟨ε,1,none⟩=some (.int .i64 O):=(Qa B.out 1).trans rfl
              have n0:wr.cell? ⟨ε,2,none⟩=some (.int .i64 X):=(Qa B.out 2).trans rfl
              have pt:wr.cell? ⟨ε,3,none⟩=some (.int .i64 Y):=(Qa B.out 3).trans rfl
              have pu:wr.cell? ⟨ε,4,none⟩=some (.int .i64 Z):=(Qa B.out 4).trans rfl
              have pv:wr.cell? ⟨ε,5,none⟩=some (.int .i64 δ):=(Qa B.out 5).trans rfl
              have pw:wr.cell? ⟨ε,6,none⟩=some (.int .i64 γ):=(Qa B.out 6).trans rfl
              have px:wr.cell? ⟨ε,7,none⟩=some (.int .i64 θ):=(Qa B.out 7).trans rfl
              have py:wr.cell? ⟨ε,8,none⟩=some (.int .i64 η):=(Qa B.out 8).trans rfl
              have pz:wr.cell? ⟨ε,9,none⟩=some (.int .i64 ζ):=(Qa B.out 9).trans rfl
              have ny:wr.cell? ⟨ε,10,none⟩=some (.slice a8 ρ.length a9):=(Qa B.out 10).trans rfl
              have nz:wr.cell? ⟨ε,11,none⟩=some (.int .i64 ν):=(Qa B.out 11).trans rfl
              have o0:wr.cell? ⟨ε,12,none⟩=some (.slice ah ι.length ae):=(Qa B.out 12).trans rfl
              have o1:wr.cell? ⟨ε,13,none⟩=some (.slice af φ.length ag):=(Qa B.out 13).trans rfl
              have lh:=Qb B.out 0
              have ll:=Qb B.out 1
              have n1:=Qb B.out 2
              have q0:=Qb B.out 3
              have q1:=Qb B.out 4
              have q2:=Qb B.out 5
              have q3:=Qb B.out 6
              have q4:=Qb B.out 7
              have q5:=Qb B.out 8
              have q7:=Qb B.out 9
              have o2:=Qb B.out 10
              have o3:=Qb B.out 11
              have o4:=Qb B.out 12
              have o5:=Qb B.out 13
              have o6:0≤(ω :Int):=of_decide_eq_true (by assumption)
              have o7: ω < (ι.length:Int):=of_decide_eq_true (by assumption)
              obtain⟨ce,wn,ju,jv,jw⟩:=Z9 d6.out ω o6 o7
              cases wn
              replace ju:=(HB.out.cell (World.block_lt_of_cell? w _ ju)).trans ju
              replace jv:=(HB.out.cell (World.block_lt_of_cell? w _ jv)).trans jv
              replace jw:=(HB.out.cell (World.block_lt_of_cell? w _ jw)).trans jw
              replace o6:=eq_true o6
              replace o7:=eq_true o7
              have o8:0≤(ω :Int):=of_decide_eq_true (by assumption)
              have o9: ω < (a0.length:Int):=of_decide_eq_true (by assumption)
              obtain⟨cq,wo,q8,q9,qa⟩:=Z9 (Kd.Qr χ.out).2.2 ω o8 o9
              cases wo
              replace o8:=eq_true o8
              replace o9:=eq_true o9
              go_upto_region 18 with(fail)
              go_cut [123] (fun wq wc=>∃ (kq:Nat) (lu:Bool),wq = .bool lu∧Aside0 (newellaw21_GroupAll.j4 kq a7 ω ((Qc ι ω).f2) ((Qc a0 ω).f2) lu J O X Y Z δ γ θ η ζ ρ ν ι φ a0 a5=some r)∧Aside0 (kq≤k3)∧Aside0 (Kd.R k36 36 wc w.heap.size (fun _=>True) (.slice (some cq) a0.length bc) a0)∧Aside0 (Kd.R k86 86 wc w.heap.size (fun _=>True) (.slice b1 a5.length b2) a5)∧Aside0 (wc.heap[ε]?=some (.cells #[.int .i64 J,.int .i64 O,.int .i64 X,.int .i64 Y,.int .i64 Z,.int .i64 δ,.int .i64 γ,.int .i64 θ,.int .i64 η,.int .i64 ζ,(.slice a8 ρ.length a9),.int .i64 ν,(.slice (some ce) ι.length ae),(.slice af φ.length ag)] 52 (0,0)))∧Aside0 (wc.heap[a1]?=some (.cells #[(.slice (some cq) a0.length bc),(.slice b1 a5.length b2)] 50 (0,0)))∧Aside0 (Below w.heap.size w wc))
              case first=>
               have H:=qw.out
               clear qw
               by_cases kl:((Qc a0 ω).f0)=((Qc ι ω).f0)
               ·rw[if_pos kl] at H
                have c48b0:(((Qc a0 ω).f0)==((Qc ι ω).f0))=true:=beq_iff_eq.mpr kl
                have c48b1:(((Qc a0 ω).f0) != ((Qc ι ω).f0))=false:=bne_eq_false_iff_eq.mpr kl
                clear kl
                (first|rw[c48b0]|(simp only[Xe,Xh];rw[c48b0])|skip)
                by_cases hh:((Qc a0 ω).f1)=((Qc ι ω).f1)
                ·rw[if_pos hh] at H
                 have c49b0:(((Qc a0 ω).f1)==((Qc ι ω).f1))=true:=beq_iff_eq.mpr hh
                 have c49b1:(((Qc a0 ω).f1) != ((Qc ι ω).f1))=false:=bne_eq_false_iff_eq.mpr hh
                 clear hh
                 have H':=Aside0.mk H
                 clear H
                 try go_wp2
                 replace χ :=Aside0.mk (Kd.Qs χ.out)
                 replace ψ :=Aside0.mk (Kd.Qs ψ.out)
                 replace B:=Aside0.mk (Qe B.out)
                 replace τ :=Aside0.mk (Qe τ.out)
                 replace HB:=Aside0.mk (Qg HB.out)
                 have oa:0≤(ω :Int):=of_decide_eq_true (by assumption)
                 have ob: ω < (a0.length:Int):=of_decide_eq_true (by assumption)
                 obtain⟨vm,ws,lv,lw,lx⟩:=Z9 (Kd.Qr χ.out).2.2 ω oa ob
                 obtain rfl:cq=vm:=(by injection ws)
                 replace oa:=eq_true oa
                 replace ob:=eq_true ob
                 have oc:0≤(ω :Int):=of_decide_eq_true (by assumption)
                 have od: ω < (ι.length:Int):=of_decide_eq_true (by assumption)
                 obtain⟨vn,wt,gy,gz,h0⟩:=Z9 d6.out ω oc od
                 have qb:=h0
                 have qd:=gz
                 have qe:=gy
                 obtain rfl:ce=vn:=(by injection wt)
                 replace gy:=(HB.out.cell (World.block_lt_of_cell? w _ gy)).trans gy
                 replace gz:=(HB.out.cell (World.block_lt_of_cell? w _ gz)).trans gz
                 replace h0:=(HB.out.cell (World.block_lt_of_cell? w _ h0)).trans h0
                 replace oc:=eq_true oc
                 replace od:=eq_true od
                 have oe:0≤(ω :Int):=of_decide_eq_true (by assumption)
                 have oh: ω < (a0.length:Int):=of_decide_eq_true (by assumption)
                 obtain⟨vo,wu,ly,lz,m0⟩:=Z9 (Kd.Qr χ.out).2.2 ω oe oh
                 obtain rfl:cq=vo:=(by injection wu)
                 replace oe:=eq_true oe
                 replace oh:=eq_true oh
                 have oi:0≤(ω :Int):=of_decide_eq_true (by assumption)
                 have oj: ω < (ι.length:Int):=of_decide_eq_true (by assumption)
                 obtain⟨vp,wv,h4,h5,h6⟩:=Z9 d6.out ω oi oj
                 have qf:=h6
                 have qg:=h5
                 have qh:=h4
                 obtain rfl:ce=vp:=(by injection wv)
                 replace h4:=(HB.out.cell (World.block_lt_of_cell? w _ h4)).trans h4
                 replace h5:=(HB.out.cell (World.block_lt_of_cell? w _ h5)).trans h5
                 replace h6:=(HB.out.cell (World.block_lt_of_cell? w _ h6)).trans h6
                 replace oi:=eq_true oi
                 replace oj:=eq_true oj
                 refine Zh (n:=36) (S:=fun w'=>w'.cell? ⟨a1,0,none⟩=some (.slice (some cq) a0.length bc)∧w'.cell? ⟨a1,1,none⟩=some (.slice b1 a5.length b2)∧w'.cell? ⟨ε,0,none⟩=some (.int .i64 J)∧w'.cell? ⟨ε,1,none⟩=some (.int .i64 O)∧w'.cell? ⟨ε,2,none⟩=some (.int .i64 X)∧w'.cell? ⟨ε,3,none⟩=some (.int .i64 Y)∧w'.cell? ⟨ε,4,none⟩=some (.int .i64 Z)∧w'.cell? ⟨ε,5,none⟩=some (.int .i64 δ)∧w'.cell? ⟨ε,6,none⟩=some (.int .i64 γ)∧w'.cell? ⟨ε,7,none⟩=some (.int .i64 θ)∧w'.cell? ⟨ε,8,none⟩=some (.int .i64 η)∧w'.cell? ⟨ε,9,none⟩=some (.int .i64 ζ)∧w'.cell? ⟨ε,10,none⟩=some (.slice a8 ρ.length a9)∧w'.cell? ⟨ε,11,none⟩=some (.int .i64 ν)∧w'.cell? ⟨ε,12,none⟩=some (.slice (some ce) ι.length ae)∧w'.cell? ⟨ε,13,none⟩=some (.slice af φ.length ag)∧w'.cell? (cq.add ((ω).toNat * 3))=some (.int .i64 ((Qc a0 ω).f0))∧w'.cell? ⟨(cq.add ((ω).toNat * 3)).block,(cq.add ((ω).toNat * 3)).off+1,none⟩=some (.int .i64 ((Qc a0 ω).f1))∧w'.cell? ⟨(cq.add ((ω).toNat * 3)).block,(cq.add ((ω).toNat * 3)).off+2,none⟩=some (.int .i64 ((Qc a0 ω).f2))∧w'.cell? (ce.add ((ω).toNat * 3))=some (.int .i64 ((Qc ι ω).f0))∧w'.cell? ⟨(ce.add ((ω).toNat * 3)).block,(ce.add ((ω).toNat * 3)).off+1,none⟩=some (.int .i64 ((Qc ι ω).f1))∧w'.cell? ⟨(ce.add ((ω).toNat * 3)).block,(ce.add ((ω).toNat * 3)).off+2,none⟩=some (.int .i64 ((Qc ι ω).f2))∧w'.cell? (cq.add ((ω).toNat * 3))=some (.int .i64 ((Qc a0 ω).f0))∧w'.cell? ⟨(cq.add ((ω).toNat * 3)).block,(cq.add ((ω).toNat * 3)).off+1,none⟩=some (.int .i64 ((Qc a0 ω).f1))∧w'.cell? ⟨(cq.add ((ω).toNat * 3)).block,(cq.add ((ω).toNat * 3)).off+2,none⟩=some (.int .i64 ((Qc a0 ω).f2))∧w'.cell? (ce.add ((ω).toNat * 3))=some (.int .i64 ((Qc ι ω).f0))∧w'.cell? ⟨(ce.add ((ω).toNat * 3)).block,(ce.add ((ω).toNat * 3)).off+1,none⟩=some (.int .i64 ((Qc ι ω).f1))∧w'.cell? ⟨(ce.add ((ω).toNat * 3)).block,(ce.add ((ω).toNat * 3)).off+2,none⟩=some (.int .i64 ((Qc ι ω).f2))) (ds:=[]) #[false,false,false,false,false,false,false,false,false,false,false,false,false,false,false,false,false,false,false,false,false,false,false,false,false,false,false,false,false,false,false,false,false,false,false,false] kr rfl rfl ⟨(Qa τ.out 0).trans rfl,(Qa τ.out 1).trans rfl,(Qa B.out 0).trans rfl,(Qa B.out 1).trans rfl,(Qa B.out 2).trans rfl,(Qa B.out 3).trans rfl,(Qa B.out 4).trans rfl,(Qa B.out 5).trans rfl,(Qa B.out 6).trans rfl,(Qa B.out 7).trans rfl,(Qa B.out 8).trans rfl,(Qa B.out 9).trans rfl,(Qa B.out 10).trans rfl,(Qa B.out 11).trans rfl,(Qa B.out 12).trans rfl,(Qa B.out 13).trans rfl,lv,lw,lx,((HB.out.cell (World.block_lt_of_cell? w _ qe)).trans qe),((HB.out.cell (World.block_lt_of_cell? w _ qd)).trans qd),((HB.out.cell (World.block_lt_of_cell? w _ qb)).trans qb),ly,lz,m0,((HB.out.cell (World.block_lt_of_cell? w _ qh)).trans qh),((HB.out.cell (World.block_lt_of_cell? w _ qg)).trans qg),((HB.out.cell (World.block_lt_of_cell? w _ qf)).trans qf)⟩ (fun hHeld=>?_);refine Q8 newellaw21_GroupAll.tab18 newellaw21_GroupAll.Dv (fun HT_ HW_=>?_)
                 generalize wr.drew=vt at χ ψ B τ HB lv lw lx gy gz h0 ly lz m0 h4 h5 h6 hHeld ⊢
                 refine qP 0 (some 88) (bN 36 1) HT_ ?_
                 refine qP 2 (some 90) (bN 36 5) HT_ ?_
                 refine qP 6 (some 94) (bN 36 69) HT_ ?_
                 refine qP 7 (some 95) (bN 36 197) HT_ ?_
                 refine qP 9 (some 97) (bN 36 709) HT_ ?_
                 refine qT 1 (some 89) (bN 36 711) HT_ HW_ hHeld ?_
                 refine qP 3 (some 91) (bN 36 719) HT_ ?_
                 refine qP 4 (some 92) (bN 36 735) HT_ ?_
                 refine qT 5 (some 93) (bN 36 767) HT_ HW_ hHeld ?_
                 refine qT 8 (some 96) (bN 36 1023) HT_ HW_ hHeld ?_
                 refine qP 10 (some 98) (bN 36 2047) HT_ ?_
                 refine qP 11 (some 99) (bN 36 4095) HT_ ?_
                 refine qT 12 (some 100) (bN 36 8191) HT_ HW_ hHeld ?_
                 refine qP 13 (some 101) (bN 36 16383) HT_ ?_
                 refine qP 14 (some 102) (bN 36 32767) HT_ ?_
                 refine qP 15 (some 103) (bN 36 65535) HT_ ?_
                 refine qP 17 (some 105) (bN 36 196607) HT_ ?_
                 refine qP 21 (some 109) (bN 36 2293759) HT_ ?_
                 refine qP 22 (some 110) (bN 36 6488063) HT_ ?_
                 refine qP 24 (some 112) (bN 36 23265279) HT_ ?_
                 refine qT 16 (some 104) (bN 36 23330815) HT_ HW_ hHeld ?_
                 refine qP 18 (some 106) (bN 36 23592959) HT_ ?_
                 refine qP 19 (some 107) (bN 36 24117247) HT_ ?_
                 refine qT 20 (some 108) (bN 36 25165823) HT_ HW_ hHeld ?_
                 refine qT 23 (some 111) (bN 36 33554431) HT_ HW_ hHeld ?_
                 refine qP 25 (some 113) (bN 36 67108863) HT_ ?_
                 refine qP 26 (some 114) (bN 36 134217727) HT_ ?_
                 refine qT 27 (some 115) (bN 36 268435455) HT_ HW_ hHeld ?_
                 refine qP 28 (some 116) (bN 36 536870911) HT_ ?_
                 refine qP 29 (some 117) (bN 36 1073741823) HT_ ?_
                 refine qP 30 (some 118) (bN 36 2147483647) HT_ ?_
                 refine qP 31 (some 119) (bN 36 4294967295) HT_ ?_
                 refine qP 32 (some 120) (bN 36 8589934591) HT_ ?_
                 refine qP 33 (some 121) (bN 36 17179869183) HT_ ?_
                 refine qP 34 (some 122) (bN 36 34359738367) HT_ ?_
                 refine qP 35 (some 123) (bN 36 68719476735) HT_ ?_
                 refine Z2 (Zf HT_.out kr) ?_
                 try go_wp2
                 go_meet
                 case rel=>exact⟨_,(((decide (((Qc a0 ω).f2)≥0)) != a7)),rfl,H',⟨by have:=ao.out;have:=j7.out;have:=m5.out;first|omega|exact Nat.le_refl _⟩,⟨by(with_reducible repeat first|apply Kd.Qm|apply Kd.Ql|apply Kd.Qs);exact χ.out⟩,⟨by(with_reducible repeat first|apply Kd.Qm|apply Kd.Ql|apply Kd.Qs);exact ψ.out⟩,B,τ,HB⟩
                ·rw[if_neg hh] at H
                 exact absurd H (by simp)
               ·rw[if_neg kl] at H
                exact absurd H (by simp)
              case rest=>
               clear qw
               try clear c2
               try clear p2
               try clear c3
               try clear c4
               try clear p6
               try clear q6
               try clear yy
               try clear kk
               try clear bf
               try clear ev
               try clear c27b0
               try clear c27b1
               try clear d5
               try clear si
               try clear ix
               try clear c34b0
               try clear c34b1
               try clear c34b2
               try clear sj
               try clear de
               try clear i6
               try clear c41b0
               try clear pr
               try clear c42b0
               try clear i7
               try clear c43b0
               try clear us
               try clear kl
               try clear c48b0
               try clear c48b1
               try clear hh
               try clear c49b0
               try clear c49b1
               try clear bn
               try clear bo
               try clear ib
               try clear ic
               try clear ie
               try clear ig
               try clear cm
               try clear dr
               try clear dt
               try clear du
               try clear dv
               try clear dw
               try clear dx
               try clear dy
               try clear d7
               try clear d8
               try clear il
               try clear im
               try clear io
               try clear ip
               try clear dp
               try clear fa
               try clear fb
               try clear fc
               try clear fe
               try clear gq
               try clear gr
               try clear gs
               try clear d0
               try clear d1
               try clear k0
               try clear k2
               try clear k4
               try clear k5
               try clear db
               try clear fj
               try clear fk
               try clear fl
               try clear fm
               try clear hy
               try clear i0
               try clear i1
               try clear jc
               try clear jd
               try clear jg
               try clear jh
               try clear ka
               try clear kb
               try clear kc
               try clear kd
               try clear ji
               try clear jj
               try clear jk
               try clear jl
               try clear jm
               try clear lm
               try clear ln
               try clear lp
               try clear hl
               try clear ho
               try clear lf
               try clear lg
               try clear ny
               try clear nz
               try clear o0
               try clear o1
               try clear n0
               try clear pt
               try clear pu
               try clear pv
               try clear pw
               try clear px
               try clear py
               try clear pz
               try clear df
               try clear dh
               try clear gg
               try clear gh
               try clear gi
               try clear gj
               try clear di
               try clear ed
               try clear ee
               try clear ef
               try clear eg
               try clear eh
               try clear ei
               try clear ej
               try clear bp
               try clear bq
               try clear ih
               try clear ii
               try clear ij
               try clear ik
               try clear cn
               try clear dz
               try clear e0
               try clear e3
               try clear e4
               try clear e5
               try clear e6
               try clear e7
               try clear d9
               try clear da
               try clear iq
               try clear ir
               try clear iu
               try clear iv
               try clear dq
               try clear ff
               try clear fg
               try clear fh
               try clear fi
               try clear gt
               try clear gu
               try clear gv
               try clear d2
               try clear d3
               try clear k6
               try clear k7
               try clear k8
               try clear k9
               try clear dc
               try clear fn
               try clear fo
               try clear fp
               try clear fq
               try clear i2
               try clear i3
               try clear i4
               try clear je
               try clear jf
               try clear jn
               try clear jo
               try clear ke
               try clear kf
               try clear kg
               try clear kh
               try clear jp
               try clear jq
               try clear jr
               try clear js
               try clear jt
               try clear lq
               try clear lr
               try clear ls
               try clear hu
               try clear hx
               try clear lh
               try clear ll
               try clear o2
               try clear o3
               try clear o4
               try clear o5
               try clear n1
               try clear q0
               try clear q1
               try clear q2
               try clear q3
               try clear q4
               try clear q5
               try clear q7
               try clear dj
               try clear dk
               try clear gl
               try clear gm
               try clear gn
               try clear gp
               try clear dl
               try clear ek
               try clear el
               try clear em
               try clear en
               try clear eo
               try clear ep
               try clear er
               try clear ju
               try clear jv
               try clear jw
               try clear q8
               try clear q9
               try clear qa
               try clear lv
               try clear lw
               try clear lx
               try clear gy
               try clear gz
               try clear h0
               try clear ly
               try clear lz
               try clear m0
               try clear h4
               try clear h5
               try clear h6
               try clear p2
               try clear p6
               try clear o6
               try clear o8
               try clear oa
               try clear oc
               try clear oe
               try clear oi
               try clear o7
               try clear o9
               try clear ob
               try clear od
               try clear oh
               try clear oj
               obtain⟨kq,lu,rfl,HA,l4,χ,ψ,B,τ,HB⟩:=hcut
               cases kq with
               |zero=>exact absurd HA.out (by simp[newellaw21_GroupAll.j4])
               |succ cw=>
                have H:=HA.out
                clear HA
                simp only[newellaw21_GroupAll.j4] at H
                by_cases km:lu=true
                ·subst km
                 have H1:(none)=some r:=by rw[if_pos rfl] at H;exact H
                 clear H
                 have H:=H1
                 clear H1
                 exact absurd H (by simp)
                ·replace km:=Bool.eq_false_iff.mpr km
                 subst km
                 have H1:(if ((Qc a0 ω).f2)≥0 then (if 0≤(IntKind.u64.wrap (((Qc a0 ω).f2))) then (if (Go.bits .and .i64 (shr .i64 ν (IntKind.u64.wrap (((Qc a0 ω).f2)))) 1)=1 then (none) else (if ((Qc ι ω).f2)≥0 then (if 0≤(IntKind.u64.wrap (((Qc ι ω).f2))) then (if (Go.bits .and .i64 (shr .i64 ν (IntKind.u64.wrap (((Qc ι ω).f2)))) 1)=0 then (newellaw21_GroupAll.j5 cw a7 ω (((Qc a0 ω).f2) != ((Qc ι ω).f2)) J O X Y Z δ γ θ η ζ ρ ν ι φ a0 a5) else (newellaw21_GroupAll.j5 cw a7 ω false J O X Y Z δ γ θ η ζ ρ ν ι φ a0 a5)) else (none)) else (newellaw21_GroupAll.j5 cw a7 ω false J O X Y Z δ γ θ η ζ ρ ν ι φ a0 a5))) else (none)) else (if ((Qc ι ω).f2)≥0 then (if 0≤(IntKind.u64.wrap (((Qc ι ω).f2))) then (if (Go.bits .and .i64 (shr .i64 ν (IntKind.u64.wrap (((Qc ι ω).f2)))) 1)=0 then (newellaw21_GroupAll.j5 cw a7 ω (((Qc a0 ω).f2) != ((Qc ι ω).f2)) J O X Y Z δ γ θ η ζ ρ ν ι φ a0 a5) else (newellaw21_GroupAll.j5 cw a7 ω false J O X Y Z δ γ θ η ζ ρ ν ι φ a0 a5)) else (none)) else (newellaw21_GroupAll.j5 cw a7 ω false J O X Y Z δ γ θ η ζ ρ ν ι φ a0 a5)))=some r:=by rw[if_neg (show ¬ (false=true) by decide)] at H;exact H
                 clear H
                 have H:=H1
                 clear H1
                 have qx:=Aside0.mk H
                 clear H
                 go_upto_region 20 with(fail)
                 go_cut [152] (fun ww wc=>∃ (kq:Nat) (m1:Bool),ww = .bool m1∧Aside0 (newellaw21_GroupAll.j5 kq a7 ω m1 J O X Y Z δ γ θ η ζ ρ ν ι φ a0 a5=some r)∧Aside0 (kq≤cw)∧Aside0 (Kd.R k36 36 wc w.heap.size (fun _=>True) (.slice (some cq) a0.length bc) a0)∧Aside0 (Kd.R k86 86 wc w.heap.size (fun _=>True) (.slice b1 a5.length b2) a5)∧Aside0 (wc.heap[ε]?=some (.cells #[.int .i64 J,.int .i64 O,.int .i64 X,.int .i64 Y,.int .i64 Z,.int .i64 δ,.int .i64 γ,.int .i64 θ,.int .i64 η,.int .i64 ζ,(.slice a8 ρ.length a9),.int .i64 ν,(.slice (some ce) ι.length ae),(.slice af φ.length ag)] 52 (0,0)))∧Aside0 (wc.heap[a1]?=some (.cells #[(.slice (some cq) a0.length bc),(.slice b1 a5.length b2)] 50 (0,0)))∧Aside0 (Below w.heap.size w wc))
                 case first=>
                  have H:=qx.out
                  clear qx
                  by_cases i5:((Qc a0 ω).f2)≥0
                  ·rw[if_pos i5] at H
                   have c53b0:decide (0≤((Qc a0 ω).f2))=true:=decide_eq_true i5
                   clear i5
                   (first|rw[c53b0]|(simp only[Xe,Xh];rw[c53b0])|skip)
                   obtain⟨l5,ss⟩:∃ j_:Int,(IntKind.u64.wrap (((Qc a0 ω).f2)))=j_:=⟨_,rfl⟩
                   replace H:(if 0≤(l5) then (if (Go.bits .and .i64 (shr .i64 ν (l5)) 1)=1 then (none) else (if ((Qc ι ω).f2)≥0 then (if 0≤(IntKind.u64.wrap (((Qc ι ω).f2))) then (if (Go.bits .and .i64 (shr .i64 ν (IntKind.u64.wrap (((Qc ι ω).f2)))) 1)=0 then (newellaw21_GroupAll.j5 cw a7 ω (((Qc a0 ω).f2) != ((Qc ι ω).f2)) J O X Y Z δ γ θ η ζ ρ ν ι φ a0 a5) else (newellaw21_GroupAll.j5 cw a7 ω false J O X Y Z δ γ θ η ζ ρ ν ι φ a0 a5)) else (none)) else (newellaw21_GroupAll.j5 cw a7 ω false J O X Y Z δ γ θ η ζ ρ ν ι φ a0 a5))) else (none))=some r:=by first|(rw[ss] at H;exact H)|(simp only[ss] at H ⊢;exact H)
                   by_cases kz:0≤(l5)
                   ·rw[if_pos kz] at H
                    have c55b0:=eq_true kz
                    have c55b1:decide (0≤(l5))=true:=decide_eq_true kz
                    clear kz
                    obtain⟨nf,nn⟩:∃ j_:Int,(shr .i64 ν (l5))=j_:=⟨_,rfl⟩
                    replace H:(if (Go.bits .and .i64 (nf) 1)=1 then (none) else (if ((Qc ι ω).f2)≥0 then (if 0≤(IntKind.u64.wrap (((Qc ι ω).f2))) then (if (Go.bits .and .i64 (shr .i64 ν (IntKind.u64.wrap (((Qc ι ω).f2)))) 1)=0 then (newellaw21_GroupAll.j5 cw a7 ω (((Qc a0 ω).f2) != ((Qc ι ω).f2)) J O X Y Z δ γ θ η ζ ρ ν ι φ a0 a5) else (newellaw21_GroupAll.j5 cw a7 ω false J O X Y Z δ γ θ η ζ ρ ν ι φ a0 a5)) else (none)) else (newellaw21_GroupAll.j5 cw a7 ω false J O X Y Z δ γ θ η ζ ρ ν ι φ a0 a5)))=some r:=by first|(rw[nn] at H;exact H)|(simp only[nn] at H ⊢;exact H)
                    have yz:(ν / 2 ^ min (l5).toNat 64)=nf:=nn
                    have hji56z:(l5)≤64→(ν / 2 ^ (l5).toNat)=nf:=Yp nn
                    by_cases kn:(Go.bits .and .i64 (nf) 1)=1
                    ·rw[if_pos kn] at H
                     exact absurd H (by simp)
                    ·rw[if_neg kn] at H
                     have c57b0:((Go.bits .and .i64 (nf) 1)==1)=false:=beq_eq_false_iff_ne.mpr kn
                     have c57b1:((Go.bits .and .i64 (nf) 1) != 1)=true:=bne_iff_ne.mpr kn
                     by_cases fr:((Qc ι ω).f2)≥0
                     ·rw[if_pos fr] at H
                      have c58b0:decide (0≤((Qc ι ω).f2))=true:=decide_eq_true fr
                      clear fr
                      obtain⟨l6,st⟩:∃ j_:Int,(IntKind.u64.wrap (((Qc ι ω).f2)))=j_:=⟨_,rfl⟩
                      replace H:(if 0≤(l6) then (if (Go.bits .and .i64 (shr .i64 ν (l6)) 1)=0 then (newellaw21_GroupAll.j5 cw a7 ω (((Qc a0 ω).f2) != ((Qc ι ω).f2)) J O X Y Z δ γ θ η ζ ρ ν ι φ a0 a5) else (newellaw21_GroupAll.j5 cw a7 ω false J O X Y Z δ γ θ η ζ ρ ν ι φ a0 a5)) else (none))=some r:=by first|(rw[st] at H;exact H)|(simp only[st] at H ⊢;exact H)
                      by_cases iw:0≤(l6)
                      ·rw[if_pos iw] at H
                       have c60b0:=eq_true iw
                       have c60b1:decide (0≤(l6))=true:=decide_eq_true iw
                       clear iw
                       obtain⟨l7,no⟩:∃ j_:Int,(shr .i64 ν (l6))=j_:=⟨_,rfl⟩
                       replace H:(if (Go.bits .and .i64 (l7) 1)=0 then (newellaw21_GroupAll.j5 cw a7 ω (((Qc a0 ω).f2) != ((Qc ι ω).f2)) J O X Y Z δ γ θ η ζ ρ ν ι φ a0 a5) else (newellaw21_GroupAll.j5 cw a7 ω false J O X Y Z δ γ θ η ζ ρ ν ι φ a0 a5))=some r:=by first|(rw[no] at H;exact H)|(simp only[no] at H ⊢;exact H)
                       have z0:(ν / 2 ^ min (l6).toNat 64)=l7:=no
                       have hji61z:(l6)≤64→(ν / 2 ^ (l6).toNat)=l7:=Yp no
                       by_cases h9:(Go.bits .and .i64 (l7) 1)=0
                       ·rw[if_pos h9] at H
                        have c62b0:((Go.bits .and .i64 (l7) 1)==0)=true:=beq_iff_eq.mpr h9
                        have c62b1:((Go.bits .and .i64 (l7) 1) != 0)=false:=bne_eq_false_iff_eq.mpr h9
                        clear h9
                        have H':=Aside0.mk H
                        clear H
                        have nk:= κ.out
                        have nl:=an.out
                        have j8:wc.cell? ⟨ε,0,none⟩=some (.int .i64 J):=(Qa B.out 0).trans rfl
                        have j9:wc.cell? ⟨ε,1,none⟩=some (.int .i64 O):=(Qa B.out 1).trans rfl
                        have mj:wc.cell? ⟨ε,2,none⟩=some (.int .i64 X):=(Qa B.out 2).trans rfl
                        have ov:wc.cell? ⟨ε,3,none⟩=some (.int .i64 Y):=(Qa B.out 3).trans rfl
                        have ow:wc.cell? ⟨ε,4,none⟩=some (.int .i64 Z):=(Qa B.out 4).trans rfl
                        have ox:wc.cell? ⟨ε,5,none⟩=some (.int .i64 δ):=(Qa B.out 5).trans rfl
                        have oy:wc.cell? ⟨ε,6,none⟩=some (.int .i64 γ):=(Qa B.out 6).trans rfl
                        have t5:wc.cell? ⟨ε,7,none⟩=some (.int .i64 θ):=(Qa B.out 7).trans rfl
                        have t6:wc.cell? ⟨ε,8,none⟩=some (.int .i64 η):=(Qa B.out 8).trans rfl
                        have t7:wc.cell? ⟨ε,9,none⟩=some (.int .i64 ζ):=(Qa B.out 9).trans rfl
                        have qy:wc.cell? ⟨ε,10,none⟩=some (.slice a8 ρ.length a9):=(Qa B.out 10).trans rfl
                        have qz:wc.cell? ⟨ε,11,none⟩=some (.int .i64 ν):=(Qa B.out 11).trans rfl
                        have r0:wc.cell? ⟨ε,12,none⟩=some (.slice (some ce) ι.length ae):=(Qa B.out 12).trans rfl
                        have r1:wc.cell? ⟨ε,13,none⟩=some (.slice af φ.length ag):=(Qa B.out 13).trans rfl
                        have ja:=Qb B.out 0
                        have jb:=Qb B.out 1
                        have ml:=Qb B.out 2
                        have oz:=Qb B.out 3
                        have p0:=Qb B.out 4
                        have p1:=Qb B.out 5
                        have p5:=Qb B.out 6
                        have t8:=Qb B.out 7
                        have t9:=Qb B.out 8
                        have ta:=Qb B.out 9
                        have r2:=Qb B.out 10
                        have r3:=Qb B.out 11
                        have r4:=Qb B.out 12
                        have r5:=Qb B.out 13
                        go_wp2
                        go_meet
                        case rel=>exact⟨_,((((Qc a0 ω).f2) != ((Qc ι ω).f2))),rfl,H',⟨by have:=ao.out;have:=j7.out;have:=m5.out;have:=l4.out;first|omega|exact Nat.le_refl _⟩,⟨by(with_reducible repeat first|apply Kd.Qm|apply Kd.Ql|apply Kd.Qs);exact χ.out⟩,⟨by(with_reducible repeat first|apply Kd.Qm|apply Kd.Ql|apply Kd.Qs);exact ψ.out⟩,B,τ,HB⟩
                       ·rw[if_neg h9] at H
                        have c62b0:((Go.bits .and .i64 (l7) 1)==0)=false:=beq_eq_false_iff_ne.mpr h9
                        have c62b1:((Go.bits .and .i64 (l7) 1) != 0)=true:=bne_iff_ne.mpr h9
                        have H':=Aside0.mk H
                        clear H
                        have se:= κ.out
                        have sf:=an.out
                        have mm:wc.cell? ⟨ε,0,none⟩=some (.int .i64 J):=(Qa B.out 0).trans rfl
                        have mo:wc.cell? ⟨ε,1,none⟩=some (.int .i64 O):=(Qa B.out 1).trans rfl
                        have p7:wc.cell? ⟨ε,2,none⟩=some (.int .i64 X):=(Qa B.out 2).trans rfl
                        have p8:wc.cell? ⟨ε,3,none⟩=some (.int .i64 Y):=(Qa B.out 3).trans rfl
                        have p9:wc.cell? ⟨ε,4,none⟩=some (.int .i64 Z):=(Qa B.out 4).trans rfl
                        have pa:wc.cell? ⟨ε,5,none⟩=some (.int .i64 δ):=(Qa B.out 5).trans rfl
                        have pb:wc.cell? ⟨ε,6,none⟩=some (.int .i64 γ):=(Qa B.out 6).trans rfl
                        have tb:wc.cell? ⟨ε,7,none⟩=some (.int .i64 θ):=(Qa B.out 7).trans rfl
                        have tc:wc.cell? ⟨ε,8,none⟩=some (.int .i64 η):=(Qa B.out 8).trans rfl
                        have td:wc.cell? ⟨ε,9,none⟩=some (.int .i64 ζ):=(Qa B.out 9).trans rfl
                        have r6:wc.cell? ⟨ε,10,none⟩=some (.slice a8 ρ.length a9):=(Qa B.out 10).trans rfl
                        have r7:wc.cell? ⟨ε,11,none⟩=some (.int .i64 ν):=(Qa B.out 11).trans rfl
                        have r8:wc.cell? ⟨ε,12,none⟩=some (.slice (some ce) ι.length ae):=(Qa B.out 12).trans rfl
                        have r9:wc.cell? ⟨ε,13,none⟩=some (.slice af φ.length ag):=(Qa B.out 13).trans rfl
                        have mq:=Qb B.out 0
                        have mr:=Qb B.out 1
                        have pc:=Qb B.out 2
                        have pd:=Qb B.out 3
                        have pe:=Qb B.out 4
                        have pf:=Qb B.out 5
                        have pg:=Qb B.out 6
                        have te:=Qb B.out 7
                        have tf:=Qb B.out 8
                        have tg:=Qb B.out 9
                        have ra:=Qb B.out 10
                        have rb:=Qb B.out 11
                        have rc:=Qb B.out 12
                        have re:=Qb B.out 13
                        go_wp2
                        go_meet
                        case rel=>exact⟨_,(false),rfl,H',⟨by have:=ao.out;have:=j7.out;have:=m5.out;have:=l4.out;first|omega|exact Nat.le_refl _⟩,⟨by(with_reducible repeat first|apply Kd.Qm|apply Kd.Ql|apply Kd.Qs);exact χ.out⟩,⟨by(with_reducible repeat first|apply Kd.Qm|apply Kd.Ql|apply Kd.Qs);exact ψ.out⟩,B,τ,HB⟩
                      ·rw[if_neg iw] at H
                       exact absurd H (by simp)
                     ·rw[if_neg fr] at H
                      have c58b0:decide (0≤((Qc ι ω).f2))=false:=decide_eq_false fr
                      clear fr
                      have H':=Aside0.mk H
                      clear H
                      have sk:= κ.out
                      have sl:=an.out
                      have ms:wc.cell? ⟨ε,0,none⟩=some (.int .i64 J):=(Qa B.out 0).trans rfl
                      have mt:wc.cell? ⟨ε,1,none⟩=some (.int .i64 O):=(Qa B.out 1).trans rfl
                      have mu:wc.cell? ⟨ε,2,none⟩=some (.int .i64 X):=(Qa B.out 2).trans rfl
                      have pi:wc.cell? ⟨ε,3,none⟩=some (.int .i64 Y):=(Qa B.out 3).trans rfl
                      have pj:wc.cell? ⟨ε,4,none⟩=some (.int .i64 Z):=(Qa B.out 4).trans rfl
                      have pk:wc.cell? ⟨ε,5,none⟩=some (.int .i64 δ):=(Qa B.out 5).trans rfl
                      have pm:wc.cell? ⟨ε,6,none⟩=some (.int .i64 γ):=(Qa B.out 6).trans rfl
                      have ti:wc.cell? ⟨ε,7,none⟩=some (.int .i64 θ):=(Qa B.out 7).trans rfl
                      have tj:wc.cell? ⟨ε,8,none⟩=some (.int .i64 η):=(Qa B.out 8).trans rfl
                      have tk:wc.cell? ⟨ε,9,none⟩=some (.int .i64 ζ):=(Qa B.out 9).trans rfl
                      have rf:wc.cell? ⟨ε,10,none⟩=some (.slice a8 ρ.length a9):=(Qa B.out 10).trans rfl
                      have rh:wc.cell? ⟨ε,11,none⟩=some (.int .i64 ν):=(Qa B.out 11).trans rfl
                      have ri:wc.cell? ⟨ε,12,none⟩=some (.slice (some ce) ι.length ae):=(Qa B.out 12).trans rfl
                      have rj:wc.cell? ⟨ε,13,none⟩=some (.slice af φ.length ag):=(Qa B.out 13).trans rfl
                      have mw:=Qb B.out 0
                      have my:=Qb B.out 1
                      have mz:=Qb B.out 2
                      have pn:=Qb B.out 3
                      have po:=Qb B.out 4
                      have pp:=Qb B.out 5
                      have pq:=Qb B.out 6
                      have tl:=Qb B.out 7
                      have tm:=Qb B.out 8
                      have tn:=Qb B.out 9
                      have rk:=Qb B.out 10
                      have rl:=Qb B.out 11
                      have rm:=Qb B.out 12
                      have rn:=Qb B.out 13
                      go_wp2
                      go_meet
                      case rel=>exact⟨_,(false),rfl,H',⟨by have:=ao.out;have:=j7.out;have:=m5.out;have:=l4.out;first|omega|exact Nat.le_refl _⟩,⟨by(with_reducible repeat first|apply Kd.Qm|apply Kd.Ql|apply Kd.Qs);exact χ.out⟩,⟨by(with_reducible repeat first|apply Kd.Qm|apply Kd.Ql|apply Kd.Qs);exact ψ.out⟩,B,τ,HB⟩
                   ·rw[if_neg kz] at H
                    exact absurd H (by simp)
                  ·rw[if_neg i5] at H
                   have c53b0:decide (0≤((Qc a0 ω).f2))=false:=decide_eq_false i5
                   clear i5
                   (first|rw[c53b0]|(simp only[Xe,Xh];rw[c53b0])|skip)
                   by_cases nj:((Qc ι ω).f2)≥0
                   ·rw[if_pos nj] at H
                    have c69b0:decide (0≤((Qc ι ω).f2))=true:=decide_eq_true nj
                    clear nj
                    obtain⟨l8,su⟩:∃ j_:Int,(IntKind.u64.wrap (((Qc ι ω).f2)))=j_:=⟨_,rfl⟩
                    replace H:(if 0≤(l8) then (if (Go.bits .and .i64 (shr .i64 ν (l8)) 1)=0 then (newellaw21_GroupAll.j5 cw a7 ω (((Qc a0 ω).f2) != ((Qc ι ω).f2)) J O X Y Z δ γ θ η ζ ρ ν ι φ a0 a5) else (newellaw21_GroupAll.j5 cw a7 ω false J O X Y Z δ γ θ η ζ ρ ν ι φ a0 a5)) else (none))=some r:=by first|(rw[su] at H;exact H)|(simp only[su] at H ⊢;exact H)
                    by_cases qi:0≤(l8)
                    ·rw[if_pos qi] at H
                     have c71b0:=eq_true qi
                     have c71b1:decide (0≤(l8))=true:=decide_eq_true qi
                     clear qi
                     obtain⟨l9,np⟩:∃ j_:Int,(shr .i64 ν (l8))=j_:=⟨_,rfl⟩
                     replace H:(if (Go.bits .and .i64 (l9) 1)=0 then (newellaw21_GroupAll.j5 cw a7 ω (((Qc a0 ω).f2) != ((Qc ι ω).f2)) J O X Y Z δ γ θ η ζ ρ ν ι φ a0 a5) else (newellaw21_GroupAll.j5 cw a7 ω false J O X Y Z δ γ θ η ζ ρ ν ι φ a0 a5))=some r:=by first|(rw[np] at H;exact H)|(simp only[np] at H ⊢;exact H)
                     have z1:(ν / 2 ^ min (l8).toNat 64)=l9:=np
                     have hji72z:(l8)≤64→(ν / 2 ^ (l8).toNat)=l9:=Yp np
                     by_cases mc:(Go.bits .and .i64 (l9) 1)=0
                     ·rw[if_pos mc] at H
                      have c73b0:((Go.bits .and .i64 (l9) 1)==0)=true:=beq_iff_eq.mpr mc
                      have c73b1:((Go.bits .and .i64 (l9) 1) != 0)=false:=bne_eq_false_iff_eq.mpr mc
                      clear mc
                      have H':=Aside0.mk H
                      clear H
                      have sn:= κ.out
                      have so:=an.out
                      have n2:wc.cell? ⟨ε,0,none⟩=some (.int .i64 J):=(Qa B.out 0).trans rfl
                      have n3:wc.cell? ⟨ε,1,none⟩=some (.int .i64 O):=(Qa B.out 1).trans rfl
                      have tp:wc.cell? ⟨ε,2,none⟩=some (.int .i64 X):=(Qa B.out 2).trans rfl
                      have tq:wc.cell? ⟨ε,3,none⟩=some (.int .i64 Y):=(Qa B.out 3).trans rfl
                      have tr:wc.cell? ⟨ε,4,none⟩=some (.int .i64 Z):=(Qa B.out 4).trans rfl
                      have ts:wc.cell? ⟨ε,5,none⟩=some (.int .i64 δ):=(Qa B.out 5).trans rfl
                      have tt:wc.cell? ⟨ε,6,none⟩=some (.int .i64 γ):=(Qa B.out 6).trans rfl
                      have tu:wc.cell? ⟨ε,7,none⟩=some (.int .i64 θ):=(Qa B.out 7).trans rfl
                      have tv:wc.cell? ⟨ε,8,none⟩=some (.int .i64 η):=(Qa B.out 8).trans rfl
                      have tw:wc.cell? ⟨ε,9,none⟩=some (.int .i64 ζ):=(Qa B.out 9).trans rfl
                      have rp:wc.cell? ⟨ε,10,none⟩=some (.slice a8 ρ.length a9):=(Qa B.out 10).trans rfl
                      have rq:wc.cell? ⟨ε,11,none⟩=some (.int .i64 ν):=(Qa B.out 11).trans rfl
                      have rr:wc.cell? ⟨ε,12,none⟩=some (.slice (some ce) ι.length ae):=(Qa B.out 12).trans rfl
                      have rs:wc.cell? ⟨ε,13,none⟩=some (.slice af φ.length ag):=(Qa B.out 13).trans rfl
                      have na:=Qb B.out 0
                      have nb:=Qb B.out 1
                      have tx:=Qb B.out 2
                      have ty:=Qb B.out 3
                      have tz:=Qb B.out 4
                      have u0:=Qb B.out 5
                      have u1:=Qb B.out 6
                      have u2:=Qb B.out 7
                      have u3:=Qb B.out 8
                      have u4:=Qb B.out 9
                      have rt:=Qb B.out 10
                      have ru:=Qb B.out 11
                      have rv:=Qb B.out 12
                      have rx:=Qb B.out 13
                      go_wp2
                      go_meet
                      case rel=>exact⟨_,((((Qc a0 ω).f2) != ((Qc ι ω).f2))),rfl,H',⟨by have:=ao.out;have:=j7.out;have:=m5.out;have:=l4.out;first|omega|exact Nat.le_refl _⟩,⟨by(with_reducible repeat first|apply Kd.Qm|apply Kd.Ql|apply Kd.Qs);exact χ.out⟩,⟨by(with_reducible repeat first|apply Kd.Qm|apply Kd.Ql|apply Kd.Qs);exact ψ.out⟩,B,τ,HB⟩
                     ·rw[if_neg mc] at H
                      have c73b0:((Go.bits .and .i64 (l9) 1)==0)=false:=beq_eq_false_iff_ne.mpr mc
                      have c73b1:((Go.bits .and .i64 (l9) 1) != 0)=true:=bne_iff_ne.mpr mc
                      have H':=Aside0.mk H
                      clear H
                      have sg:= κ.out
                      have sh:=an.out
                      have u5:wc.cell? ⟨ε,0,none⟩=some (.int .i64 J):=(Qa B.out 0).trans rfl
                      have u6:wc.cell? ⟨ε,1,none⟩=some (.int .i64 O):=(Qa B.out 1).trans rfl
                      have u7:wc.cell? ⟨ε,2,none⟩=some (.int .i64 X):=(Qa B.out 2).trans rfl
                      have u9:wc.cell? ⟨ε,3,none⟩=some (.int .i64 Y):=(Qa B.out 3).trans rfl
                      have ua:wc.cell? ⟨ε,4,none⟩=some (.int .i64 Z):=(Qa B.out 4).trans rfl
                      have ub:wc.cell? ⟨ε,5,none⟩=some (.int .i64 δ):=(Qa B.out 5).trans rfl
                      have uc:wc.cell? ⟨ε,6,none⟩=some (.int .i64 γ):=(Qa B.out 6).trans rfl
                      have ud:wc.cell? ⟨ε,7,none⟩=some (.int .i64 θ):=(Qa B.out 7).trans rfl
                      have ue:wc.cell? ⟨ε,8,none⟩=some (.int .i64 η):=(Qa B.out 8).trans rfl
                      have uf:wc.cell? ⟨ε,9,none⟩=some (.int .i64 ζ):=(Qa B.out 9).trans rfl
                      have ry:wc.cell? ⟨ε,10,none⟩=some (.slice a8 ρ.length a9):=(Qa B.out 10).trans rfl
                      have rz:wc.cell? ⟨ε,11,none⟩=some (.int .i64 ν):=(Qa B.out 11).trans rfl
                      have s0:wc.cell? ⟨ε,12,none⟩=some (.slice (some ce) ι.length ae):=(Qa B.out 12).trans rfl
                      have s1:wc.cell? ⟨ε,13,none⟩=some (.slice af φ.length ag):=(Qa B.out 13).trans rfl
                      have ug:=Qb B.out 0
                      have uh:=Qb B.out 1
                      have ui:=Qb B.out 2
                      have uj:=Qb B.out 3
                      have uk:=Qb B.out 4
                      have ul:=Qb B.out 5
                      have um:=Qb B.out 6
                      have un:=Qb B.out 7
                      have uo:=Qb B.out 8
                      have uq:=Qb B.out 9
                      have s2:=Qb B.out 10
                      have s3:=Qb B.out 11
                      have s4:=Qb B.out 12
                      have s5:=Qb B.out 13
                      go_wp2
                      go_meet
                      case rel=>exact⟨_,(false),rfl,H',⟨by have:=ao.out;have:=j7.out;have:=m5.out;have:=l4.out;first|omega|exact Nat.le_refl _⟩,⟨by(with_reducible repeat first|apply Kd.Qm|apply Kd.Ql|apply Kd.Qs);exact χ.out⟩,⟨by(with_reducible repeat first|apply Kd.Qm|apply Kd.Ql|apply Kd.Qs);exact ψ.out⟩,B,τ,HB⟩
                    ·rw[if_neg qi] at H
                     exact absurd H (by simp)
                   ·rw[if_neg nj] at H
                    have c69b0:decide (0≤((Qc ι ω).f2))=false:=decide_eq_false nj
                    clear nj
                    have H':=Aside0.mk H
                    clear H
                    go_wp2
                    go_meet
                    case rel=>exact⟨_,(false),rfl,H',⟨by have:=ao.out;have:=j7.out;have:=m5.out;have:=l4.out;first|omega|exact Nat.le_refl _⟩,⟨by(with_reducible repeat first|apply Kd.Qm|apply Kd.Ql|apply Kd.Qs);exact χ.out⟩,⟨by(with_reducible repeat first|apply Kd.Qm|apply Kd.Ql|apply Kd.Qs);exact ψ.out⟩,B,τ,HB⟩
                 case rest=>
                  clear qx
                  try clear c2
                  try clear p2
                  try clear c3
                  try clear c4
                  try clear c5
                  try clear c6
                  try clear p6
                  try clear q6
                  try clear yy
                  try clear c7
                  try clear kk
                  try clear bf
                  try clear ev
                  try clear c27b0
                  try clear c27b1
                  try clear d5
                  try clear si
                  try clear ix
                  try clear c34b0
                  try clear c34b1
                  try clear c34b2
                  try clear sj
                  try clear de
                  try clear i6
                  try clear c41b0
                  try clear pr
                  try clear c42b0
                  try clear i7
                  try clear c43b0
                  try clear us
                  try clear kl
                  try clear c48b0
                  try clear c48b1
                  try clear hh
                  try clear c49b0
                  try clear c49b1
                  try clear km
                  try clear i5
                  try clear c53b0
                  try clear kz
                  try clear c55b0
                  try clear c55b1
                  try clear kn
                  try clear c57b0
                  try clear c57b1
                  try clear fr
                  try clear c58b0
                  try clear iw
                  try clear c60b0
                  try clear c60b1
                  try clear p61
                  try clear zs
                  try clear zh
                  try clear h9
                  try clear c62b0
                  try clear c62b1
                  try clear yr
                  try clear zt
                  try clear yt
                  try clear nj
                  try clear c69b0
                  try clear qi
                  try clear c71b0
                  try clear c71b1
                  try clear mc
                  try clear c73b0
                  try clear c73b1
                  try clear yu
                  try clear zu
                  try clear bn
                  try clear bo
                  try clear ib
                  try clear ic
                  try clear ie
                  try clear ig
                  try clear cm
                  try clear dr
                  try clear dt
                  try clear du
                  try clear dv
                  try clear dw
                  try clear dx
                  try clear dy
                  try clear d7
                  try clear d8
                  try clear il
                  try clear im
                  try clear io
                  try clear ip
                  try clear dp
                  try clear fa
                  try clear fb
                  try clear fc
                  try clear fe
                  try clear gq
                  try clear gr
                  try clear gs
                  try clear d0
                  try clear d1
                  try clear k0
                  try clear k2
                  try clear k4
                  try clear k5
                  try clear db
                  try clear fj
                  try clear fk
                  try clear fl
                  try clear fm
                  try clear hy
                  try clear i0
                  try clear i1
                  try clear jc
                  try clear jd
                  try clear jg
                  try clear jh
                  try clear ka
                  try clear kb
                  try clear kc
                  try clear kd
                  try clear ji
                  try clear jj
                  try clear jk
                  try clear jl
                  try clear jm
                  try clear lm
                  try clear ln
                  try clear lp
                  try clear hl
                  try clear ho
                  try clear lf
                  try clear lg
                  try clear ny
                  try clear nz
                  try clear o0
                  try clear o1
                  try clear n0
                  try clear pt
                  try clear pu
                  try clear pv
                  try clear pw
                  try clear px
                  try clear py
                  try clear pz
                  try clear j8
                  try clear j9
                  try clear qy
                  try clear qz
                  try clear r0
                  try clear r1
                  try clear mj
                  try clear ov
                  try clear ow
                  try clear ox
                  try clear oy
                  try clear t5
                  try clear t6
                  try clear t7
                  try clear mm
                  try clear mo
                  try clear r6
                  try clear r7
                  try clear r8
                  try clear r9
                  try clear p7
                  try clear p8
                  try clear p9
                  try clear pa
                  try clear pb
                  try clear tb
                  try clear tc
                  try clear td
                  try clear ms
                  try clear mt
                  try clear rf
                  try clear rh
                  try clear ri
                  try clear rj
                  try clear mu
                  try clear pi
                  try clear pj
                  try clear pk
                  try clear pm
                  try clear ti
                  try clear tj
                  try clear tk
                  try clear n2
                  try clear n3
                  try clear rp
                  try clear rq
                  try clear rr
                  try clear rs
                  try clear tp
                  try clear tq
                  try clear tr
                  try clear ts
                  try clear tt
                  try clear tu
                  try clear tv
                  try clear tw
                  try clear u5
                  try clear u6
                  try clear ry
                  try clear rz
                  try clear s0
                  try clear s1
                  try clear u7
                  try clear u9
                  try clear ua
                  try clear ub
                  try clear uc
                  try clear ud
                  try clear ue
                  try clear uf
                  try clear df
                  try clear dh
                  try clear gg
                  try clear gh
                  try clear gi
                  try clear gj
                  try clear di
                  try clear ed
                  try clear ee
                  try clear ef
                  try clear eg
                  try clear eh
                  try clear ei
                  try clear ej
                  try clear bp
                  try clear bq
                  try clear ih
                  try clear ii
                  try clear ij
                  try clear ik
                  try clear cn
                  try clear dz
                  try clear e0
                  try clear e3
                  try clear e4
                  try clear e5
                  try clear e6
                  try clear e7
                  try clear d9
                  try clear da
                  try clear iq
                  try clear ir
                  try clear iu
                  try clear iv
                  try clear dq
                  try clear ff
                  try clear fg
                  try clear fh
                  try clear fi
                  try clear gt
                  try clear gu
                  try clear gv
                  try clear d2
                  try clear d3
                  try clear k6
                  try clear k7
                  try clear k8
                  try clear k9
                  try clear dc
                  try clear fn
                  try clear fo
                  try clear fp
                  try clear fq
                  try clear i2
                  try clear i3
                  try clear i4
                  try clear je
                  try clear jf
                  try clear jn
                  try clear jo
                  try clear ke
                  try clear kf
                  try clear kg
                  try clear kh
                  try clear jp
                  try clear jq
                  try clear jr
                  try clear js
                  try clear jt
                  try clear lq
                  try clear lr
                  try clear ls
                  try clear hu
                  try clear hx
                  try clear lh
                  try clear ll
                  try clear o2
                  try clear o3
                  try clear o4
                  try clear o5
                  try clear n1
                  try clear q0
                  try clear q1
                  try clear q2
                  try clear q3
                  try clear q4
                  try clear q5
                  try clear q7
                  try clear ja
                  try clear jb
                  try clear r2
                  try clear r3
                  try clear r4
                  try clear r5
                  try clear ml
                  try clear oz
                  try clear p0
                  try clear p1
                  try clear p5
                  try clear t8
                  try clear t9
                  try clear ta
                  try clear mq
                  try clear mr
                  try clear ra
                  try clear rb
                  try clear rc
                  try clear re
                  try clear pc
                  try clear pd
                  try clear pe
                  try clear pf
                  try clear pg
                  try clear te
                  try clear tf
                  try clear tg
                  try clear mw
                  try clear my
                  try clear rk
                  try clear rl
                  try clear rm
                  try clear rn
                  try clear mz
                  try clear pn
                  try clear po
                  try clear pp
                  try clear pq
                  try clear tl
                  try clear tm
                  try clear tn
                  try clear na
                  try clear nb
                  try clear rt
                  try clear ru
                  try clear rv
                  try clear rx
                  try clear tx
                  try clear ty
                  try clear tz
                  try clear u0
                  try clear u1
                  try clear u2
                  try clear u3
                  try clear u4
                  try clear ug
                  try clear uh
                  try clear s2
                  try clear s3
                  try clear s4
                  try clear s5
                  try clear ui
                  try clear uj
                  try clear uk
                  try clear ul
                  try clear um
                  try clear un
                  try clear uo
                  try clear uq
                  try clear dj
                  try clear dk
                  try clear gl
                  try clear gm
                  try clear gn
                  try clear gp
                  try clear dl
                  try clear ek
                  try clear el
                  try clear em
                  try clear en
                  try clear eo
                  try clear ep
                  try clear er
                  try clear ju
                  try clear jv
                  try clear jw
                  try clear q8
                  try clear q9
                  try clear qa
                  try clear lv
                  try clear lw
                  try clear lx
                  try clear gy
                  try clear gz
                  try clear h0
                  try clear ly
                  try clear lz
                  try clear m0
                  try clear h4
                  try clear h5
                  try clear h6
                  try clear p2
                  try clear p6
                  try clear o6
                  try clear o8
                  try clear oa
                  try clear oc
                  try clear oe
                  try clear oi
                  try clear q6
                  try clear o7
                  try clear o9
                  try clear ob
                  try clear od
                  try clear oh
                  try clear oj
                  obtain⟨kq,m1,rfl,HA,vc,χ,ψ,B,τ,HB⟩:=hcut
                  cases kq with
                  |zero=>exact absurd HA.out (by simp[newellaw21_GroupAll.j5])
                  |succ vd=>
                   have H:=HA.out
                   clear HA
                   simp only[newellaw21_GroupAll.j5] at H
                   by_cases qp:m1=true
                   ·subst qp
                    have H1:(none)=some r:=by rw[if_pos rfl] at H;exact H
                    clear H
                    have H:=H1
                    clear H1
                    exact absurd H (by simp)
                   ·replace qp:=Bool.eq_false_iff.mpr qp
                    subst qp
                    have H1:(newellaw21_GroupAll.l1 vd a7 (wrap64 (ω + 1)) J O X Y Z δ γ θ η ζ ρ ν ι φ a0 a5)=some r:=by rw[if_neg (show ¬ (false=true) by decide)] at H;exact H
                    clear H
                    have H:=H1
                    clear H1
                    have H':=Aside0.mk H
                    clear H
                    go_wp2
                    go_roundg vd
                    case measure=>have:=ao.out;have:=j7.out;have:=m5.out;have:=l4.out;have:=vc.out;omega
                    case rel=>exact⟨(wrap64 (ω + 1)),rfl,H',⟨by have:=ao.out;have:=j7.out;have:=m5.out;have:=l4.out;have:=vc.out;omega⟩,⟨by(with_reducible repeat first|apply Kd.Qm|apply Kd.Ql|apply Kd.Qs);exact χ.out⟩,⟨by(with_reducible repeat first|apply Kd.Qm|apply Kd.Ql|apply Kd.Qs);exact ψ.out⟩,B,τ,HB⟩
             ·rw[if_neg i7] at H
              exact absurd H (by simp)
            ·rw[if_neg pr] at H
             exact absurd H (by simp)
           ·rw[if_neg i6] at H
            have c41b0:decide (ω < (a0.length:Int))=false:=decide_eq_false i6
            clear i6
            replace H:=Option.bind_eq_some_iff.mp H
            obtain⟨⟨ga,gb⟩,ve,H⟩:=H
            replace H:((group_Spread.f k3 J O X Y Z δ γ θ η ζ ρ ν ga gb).bind fun jx=>((newellaw21_awake.f k3).bind fun l2=>(if l2=true then (if jx.2.2=0 then ((call_Same.f k3 jx.1 jx.2.1 a0 a5).bind fun gx=>(newellaw21_GroupAll.j6 k3 gx)) else (none)) else (none))))=some r:=H
            have vu:=Aside0.mk ve
            clear ve
            replace H:=Option.bind_eq_some_iff.mp H
            obtain⟨⟨eb,f7,ha⟩,vf,H⟩:=H
            replace H:((newellaw21_awake.f k3).bind fun l2=>(if l2=true then (if ha=0 then ((call_Same.f k3 eb f7 a0 a5).bind fun gx=>(newellaw21_GroupAll.j6 k3 gx)) else (none)) else (none)))=some r:=H
            have gf:=Aside0.mk vf
            clear vf
            have s6:=Aside0.mk H
            clear H
            have z9:=an.out
            have za:= κ.out
            obtain⟨yf,yg,yh,yi⟩:=qD2 τ.out
            try go_wp2
            replace χ :=Aside0.mk (Kd.Qs χ.out)
            replace ψ :=Aside0.mk (Kd.Qs ψ.out)
            replace B:=Aside0.mk (Qe B.out)
            replace τ :=Aside0.mk (Qe τ.out)
            replace HB:=Aside0.mk (Qg HB.out)
            refine Zh (n:=15) (S:=fun w'=>w'.cell? ⟨ε,0,none⟩=some (.int .i64 J)∧w'.cell? ⟨ε,1,none⟩=some (.int .i64 O)∧w'.cell? ⟨ε,2,none⟩=some (.int .i64 X)∧w'.cell? ⟨ε,3,none⟩=some (.int .i64 Y)∧w'.cell? ⟨ε,4,none⟩=some (.int .i64 Z)∧w'.cell? ⟨ε,5,none⟩=some (.int .i64 δ)∧w'.cell? ⟨ε,6,none⟩=some (.int .i64 γ)∧w'.cell? ⟨ε,7,none⟩=some (.int .i64 θ)∧w'.cell? ⟨ε,8,none⟩=some (.int .i64 η)∧w'.cell? ⟨ε,9,none⟩=some (.int .i64 ζ)∧w'.cell? ⟨ε,10,none⟩=some (.slice a8 ρ.length a9)∧w'.cell? ⟨ε,11,none⟩=some (.int .i64 ν)∧w'.cell? ⟨ε,12,none⟩=some (.slice ah ι.length ae)∧w'.cell? ⟨ε,13,none⟩=some (.slice af φ.length ag)∧w'.cell? ⟨a1,0,none⟩=some (.slice bu a0.length bc)∧w'.cell? ⟨a1,1,none⟩=some (.slice b1 a5.length b2)) (ds:=[]) #[false,false,false,false,false,false,false,false,false,false,false,false,false,false,false] kr rfl rfl ⟨(Qa B.out 0).trans rfl,(Qa B.out 1).trans rfl,(Qa B.out 2).trans rfl,(Qa B.out 3).trans rfl,(Qa B.out 4).trans rfl,(Qa B.out 5).trans rfl,(Qa B.out 6).trans rfl,(Qa B.out 7).trans rfl,(Qa B.out 8).trans rfl,(Qa B.out 9).trans rfl,(Qa B.out 10).trans rfl,(Qa B.out 11).trans rfl,(Qa B.out 12).trans rfl,(Qa B.out 13).trans rfl,(Qa τ.out 0).trans rfl,(Qa τ.out 1).trans rfl⟩ (fun hHeld=>?_);refine Q8 newellaw21_GroupAll.tab22 newellaw21_GroupAll.Du (fun HT_ HW_=>?_)
            generalize wr.drew=zv at χ ψ B τ HB hHeld ⊢
            refine qP 0 (some 154) (bN 15 1) HT_ ?_
            refine qP 2 (some 156) (bN 15 5) HT_ ?_
            refine qP 4 (some 158) (bN 15 21) HT_ ?_
            refine qT 1 (some 155) (bN 15 23) HT_ HW_ hHeld ?_
            refine qT 3 (some 157) (bN 15 31) HT_ HW_ hHeld ?_
            refine qT 5 (some 159) (bN 15 63) HT_ HW_ hHeld ?_
            refine qT 6 (some 160) (bN 15 127) HT_ HW_ hHeld ?_
            refine X7 (σ:=Value×Value×Value×Value×Nat) 2 (bN 15 8191) (fun s_=>[(161,.agg #[s_.1,s_.2.1]),(162,.tuple #[.agg #[s_.2.2.1,s_.2.2.2.1],.int .i64 ha]),(10,.pointer (some ⟨s_.2.2.2.2,0,none⟩)),(153,.tuple #[.agg #[s_.2.2.1,s_.2.2.2.1],.int .i64 ha]),(163,.agg #[s_.2.2.1,s_.2.2.2.1]),(164,.int .i64 ha)]) (fun s_ w'=>(w'.cell? ⟨ε,0,none⟩=some (.int .i64 J)∧w'.cell? ⟨ε,1,none⟩=some (.int .i64 O)∧w'.cell? ⟨ε,2,none⟩=some (.int .i64 X)∧w'.cell? ⟨ε,3,none⟩=some (.int .i64 Y)∧w'.cell? ⟨ε,4,none⟩=some (.int .i64 Z)∧w'.cell? ⟨ε,5,none⟩=some (.int .i64 δ)∧w'.cell? ⟨ε,6,none⟩=some (.int .i64 γ)∧w'.cell? ⟨ε,7,none⟩=some (.int .i64 θ)∧w'.cell? ⟨ε,8,none⟩=some (.int .i64 η)∧w'.cell? ⟨ε,9,none⟩=some (.int .i64 ζ)∧w'.cell? ⟨ε,10,none⟩=some (.slice a8 ρ.length a9)∧w'.cell? ⟨ε,11,none⟩=some (.int .i64 ν)∧w'.cell? ⟨ε,12,none⟩=some (.slice ah ι.length ae)∧w'.cell? ⟨ε,13,none⟩=some (.slice af φ.length ag)∧w'.cell? ⟨a1,0,none⟩=some (.slice bu a0.length bc)∧w'.cell? ⟨a1,1,none⟩=some (.slice b1 a5.length b2))∧(Kd.R k36 36 w' w.heap.size (fun k_=>some k_≠(s_.2.2.1:Value).ownBlock∧some k_≠(.slice bu a0.length bc:Value).ownBlock) s_.1 ga)∧(Kd.R k86 86 w' w.heap.size (fun k_=>some k_≠(s_.2.2.2.1:Value).ownBlock∧some k_≠(.slice b1 a5.length b2:Value).ownBlock) s_.2.1 gb)∧(Kd.R k36 36 w' w.heap.size (fun k_=>some k_≠(s_.1:Value).ownBlock∧some k_≠(.slice bu a0.length bc:Value).ownBlock) s_.2.2.1 eb)∧(Kd.R k86 86 w' w.heap.size (fun k_=>some k_≠(s_.2.1:Value).ownBlock∧some k_≠(.slice b1 a5.length b2:Value).ownBlock) s_.2.2.2.1 f7)∧(Kd.R k36 36 w' w.heap.size (fun k_=>some k_≠(s_.1:Value).ownBlock∧some k_≠(s_.2.2.1:Value).ownBlock) (.slice bu a0.length bc) a0)∧(Kd.R k86 86 w' w.heap.size (fun k_=>some k_≠(s_.2.1:Value).ownBlock∧some k_≠(s_.2.2.2.1:Value).ownBlock) (.slice b1 a5.length b2) a5)∧(w'.heap[ε]?=some (.cells #[.int .i64 J,.int .i64 O,.int .i64 X,.int .i64 Y,.int .i64 Z,.int .i64 δ,.int .i64 γ,.int .i64 θ,.int .i64 η,.int .i64 ζ,.slice a8 ρ.length a9,.int .i64 ν,.slice ah ι.length ae,.slice af φ.length ag] 52 (0,0)))∧(w'.heap[a1]?=some (.cells #[.slice bu a0.length bc,.slice b1 a5.length b2] 50 (0,0)))∧(w'.heap[s_.2.2.2.2]?=some (.cells #[.slice none 0 0,.slice none 0 0] 50 (0,0)))∧(w.heap.size≤s_.2.2.2.2)∧(w.heap.size≤s_.2.2.2.2)∧(ε ≠ s_.2.2.2.2)∧(s_.2.2.2.2 ≠ ε)∧(a1≠s_.2.2.2.2)∧(s_.2.2.2.2≠a1)∧(Below w.heap.size w w')) ?_ ?_
            rotate_left
            ·intro hCont
             refine J8 (i:=7) (j:=12) (Ni:=some 161) (Nj:=some 10) (bN 15 255) (bN 15 4223) rfl rfl rfl rfl (Xt HT_.out kr) (by decide) (by decide) (fun K hK=>?_) (fun K hK=>?_)
             ·skip
              refine Q9 Try.func15 kr rfl #[.agg #[.slice bu a0.length bc,.slice b1 a5.length b2]] (by rfl) rfl rfl qM ?_
              with_reducible refine(newellaw19_Own.calls _ _ a0 _ _ a5 ga gb _ ?side1 ?side2 ?side3 ?side4 vu.out).mono ?_
              (case side1=>exact(Kd.Qr χ.out).2.2)
              (case side2=>exact(Kd.Qr χ.out).2.1)
              (case side3=>exact(Kd.Qr ψ.out).2.2)
              (case side4=>exact(Kd.Qr ψ.out).2.1)
              rintro e z2 ⟨ol,om,rfl,ak,ax,hb⟩
              refine⟨_,rfl, ?_⟩
              have aw:=Aside0.mk (Kd.Q3 (Kd.Z1 ak (Kd.Xu χ.out)) (Qh HB.out))
              have ay:=Aside0.mk (Kd.Q3 (Kd.Z1 ax (Kd.Xu ψ.out)) (Qh HB.out))
              replace χ :=Aside0.mk (Kd.Zb χ.out (Kd.Zy ak) hb)
              replace ψ :=Aside0.mk (Kd.Zb ψ.out (Kd.Zy ax) hb)
              replace B:=sBk B hb
              replace τ :=sBk τ hb
              replace HB:=sHb hb
              (try clear hb)
              (try clear a6)
              (try clear hk)
              (try clear hi)
              (try clear ak)
              (try clear ax)
              obtain⟨vg,vh,vi⟩:=Kd.Q5 aw.out
              (first|subst vi|(injection vi with ab ap ac;have ar:=ab.symm;have au:=ac.symm;clear ab ap ac;subst ar;subst au))
              obtain⟨i9,ia,iz⟩:=Kd.Q5 ay.out
              (first|subst iz|(injection iz with ab ap ac;have ar:=ab.symm;have au:=ac.symm;clear ab ap ac;subst ar;subst au))
              refine hK.out _ _ ⟨qc B,qc B,qc B,qc B,qc B,qc B,qc B,qc B,qc B,qc B,qc B,qc B,qc B,qc B,qc τ,qc τ⟩ (fun hHeld=>?_)
              clear hK K
              refine qN (some 161) ?_
              refine J8 (i:=8) (j:=12) (Ni:=some 162) (Nj:=some 10) (bN 15 511) (bN 15 4351) rfl rfl rfl rfl (Xt HT_.out kr) (by decide) (by decide) (fun K hK=>?_) (fun K hK=>?_)
              ·skip
               refine Q9 Try.func21 kr rfl #[.agg #[.int .i64 J,.int .i64 O,.int .i64 X,.int .i64 Y,.int .i64 Z,.int .i64 δ,.int .i64 γ,.int .i64 θ,.int .i64 η,.int .i64 ζ],.slice a8 ρ.length a9,.int .i64 ν,.agg #[.slice vg ga.length vh,.slice i9 gb.length ia]] (by rfl) rfl rfl qM ?_
               with_reducible refine(group_Spread.calls k3 J O X Y Z δ γ θ η ζ _ _ ρ ν _ _ ga _ _ gb eb f7 ha _ ?side1 ?side2 ?side3 ?side4 ?side5 ?side6 gf.out).mono ?_
               (case side1=>exact(Kd.Qv cy.out HB.out))
               (case side2=>exact cz.out)
               (case side3=>exact(Kd.Qr aw.out).2.2)
               (case side4=>exact(Kd.Qr aw.out).2.1)
               (case side5=>exact(Kd.Qr ay.out).2.2)
               (case side6=>exact(Kd.Qr ay.out).2.1)
               rintro e zw ⟨ki,kj,rfl,ak,ax,hb⟩
               refine⟨_,rfl, ?_⟩
               have cr:=Aside0.mk (Kd.Q3 (Kd.Z1 (Kd.Z1 ak (Kd.Xu χ.out)) (Kd.Xu aw.out)) (Qh HB.out))
               have ct:=Aside0.mk (Kd.Q3 (Kd.Z1 (Kd.Z1 ax (Kd.Xu ψ.out)) (Kd.Xu ay.out)) (Qh HB.out))
               replace χ :=Aside0.mk (Kd.Zb χ.out (Kd.Zy ak) hb)
               replace ψ :=Aside0.mk (Kd.Zb ψ.out (Kd.Zy ax) hb)
               replace aw:=Aside0.mk (Kd.Zb aw.out (Kd.Zy ak) hb)
               replace ay:=Aside0.mk (Kd.Zb ay.out (Kd.Zy ax) hb)
               replace B:=sBk B hb
               replace τ :=sBk τ hb
               replace HB:=sHb hb
               (try clear hb)
               (try clear a6)
               (try clear hk)
               (try clear hi)
               (try clear ak)
               (try clear ax)
               refine hK.out _ _ ⟨qc B,qc B,qc B,qc B,qc B,qc B,qc B,qc B,qc B,qc B,qc B,qc B,qc B,qc B,qc τ,qc τ⟩ (fun hHeld=>?_)
               clear hK K
               refine qN (some 162) ?_
               refine qP 9 (some 153) (bN 15 1023) HT_ ?_
               refine qP 10 (some 163) (bN 15 2047) HT_ ?_
               refine qP 11 (some 164) (bN 15 4095) HT_ ?_
               refine qK 12 (some 10) (bN 15 8191) HT_ fun K hK=>?_
               refine Z0 ?hg (N:=10) ?hd (cs:=#[.slice none 0 0,.slice none 0 0]) (t:=50) ?hr ?_;(case hd=>rfl);(case hg=>rfl);(case hr=>go_simp <;> rfl)
               intro av hg vv hbox hb
               have b0:=Aside0.mk hbox
               have m2:=sGe hg
               have m3:=sGe hg
               have aa:=sNl B hg
               have cu:=sNg B hg
               have bd:=sNl τ hg
               have cv:=sNg τ hg
               replace χ :=sRb χ hb
               replace ψ :=sRb ψ hb
               replace aw:=sRb aw hb
               replace ay:=sRb ay hb
               replace cr:=sRb cr hb
               replace ct:=sRb ct hb
               replace B:=sBk B hb
               replace τ :=sBk τ hb
               replace HB:=sHb hb
               clear hb hbox hg
               refine hK.out _ _ ⟨qc B,qc B,qc B,qc B,qc B,qc B,qc B,qc B,qc B,qc B,qc B,qc B,qc B,qc B,qc τ,qc τ⟩ (fun hHeld=>?_)
               clear hK K
               refine qN (some 10) ?_
               exact Ze (by simp only[Q6,Act.put,qS]) (hCont (.slice vg ga.length vh,.slice i9 gb.length ia,ki,kj,av) _ ⟨hHeld,(by(with_reducible repeat first|apply Kd.Qm|apply Kd.Ql|apply Kd.Qs);exact Kd.Qw aw.out (fun _ hk=>⟨hk.2,hk.1.2⟩)),(by(with_reducible repeat first|apply Kd.Qm|apply Kd.Ql|apply Kd.Qs);exact Kd.Qw ay.out (fun _ hk=>⟨hk.2,hk.1.2⟩)),(by(with_reducible repeat first|apply Kd.Qm|apply Kd.Ql|apply Kd.Qs);exact Kd.Qw cr.out (fun _ hk=>⟨hk.2,hk.1.2⟩)),(by(with_reducible repeat first|apply Kd.Qm|apply Kd.Ql|apply Kd.Qs);exact Kd.Qw ct.out (fun _ hk=>⟨hk.2,hk.1.2⟩)),(by(with_reducible repeat first|apply Kd.Qm|apply Kd.Ql|apply Kd.Qs);exact Kd.Qw χ.out (fun _ hk=>⟨hk.1.2,hk.2⟩)),(by(with_reducible repeat first|apply Kd.Qm|apply Kd.Ql|apply Kd.Qs);exact Kd.Qw ψ.out (fun _ hk=>⟨hk.1.2,hk.2⟩)),B.out,τ.out,b0.out,m2.out,m3.out,aa.out,cu.out,bd.out,cv.out,HB.out⟩)
              ·skip
               refine Z0 ?hg (N:=10) ?hd (cs:=#[.slice none 0 0,.slice none 0 0]) (t:=50) ?hr ?_;(case hd=>rfl);(case hg=>rfl);(case hr=>go_simp <;> rfl)
               intro av hg vs hbox hb
               have b0:=Aside0.mk hbox
               have m2:=sGe hg
               have m3:=sGe hg
               have aa:=sNl B hg
               have cu:=sNg B hg
               have bd:=sNl τ hg
               have cv:=sNg τ hg
               replace χ :=sRb χ hb
               replace ψ :=sRb ψ hb
               replace aw:=sRb aw hb
               replace ay:=sRb ay hb
               replace B:=sBk B hb
               replace τ :=sBk τ hb
               replace HB:=sHb hb
               clear hb hbox hg
               obtain⟨i9,ia,iz⟩:=Kd.Q5 aw.out
               (first|subst iz|(injection iz with ab ap ac;have ar:=ab.symm;have au:=ac.symm;clear ab ap ac;subst ar;subst au))
               obtain⟨oo,oq,ot⟩:=Kd.Q5 ay.out
               (first|subst ot|(injection ot with ab ap ac;have ar:=ab.symm;have au:=ac.symm;clear ab ap ac;subst ar;subst au))
               refine hK.out _ _ ⟨qc B,qc B,qc B,qc B,qc B,qc B,qc B,qc B,qc B,qc B,qc B,qc B,qc B,qc B,qc τ,qc τ⟩ (fun hHeld=>?_)
               clear hK K
               refine qN (some 10) ?_
               refine qK 8 (some 162) (bN 15 4607) HT_ fun K hK=>?_
               refine Q9 Try.func21 kr rfl #[.agg #[.int .i64 J,.int .i64 O,.int .i64 X,.int .i64 Y,.int .i64 Z,.int .i64 δ,.int .i64 γ,.int .i64 θ,.int .i64 η,.int .i64 ζ],.slice a8 ρ.length a9,.int .i64 ν,.agg #[.slice i9 ga.length ia,.slice oo gb.length oq]] (by rfl) rfl rfl qM ?_
               with_reducible refine(group_Spread.calls k3 J O X Y Z δ γ θ η ζ _ _ ρ ν _ _ ga _ _ gb eb f7 ha _ ?side1 ?side2 ?side3 ?side4 ?side5 ?side6 gf.out).mono ?_
               (case side1=>exact(Kd.Qv cy.out HB.out))
               (case side2=>exact cz.out)
               (case side3=>exact(Kd.Qr aw.out).2.2)
               (case side4=>exact(Kd.Qr aw.out).2.1)
               (case side5=>exact(Kd.Qr ay.out).2.2)
               (case side6=>exact(Kd.Qr ay.out).2.1)
               rintro e vv ⟨ki,kj,rfl,ak,ax,hb⟩
               refine⟨_,rfl, ?_⟩
               have cr:=Aside0.mk (Kd.Q3 (Kd.Z1 (Kd.Z1 ak (Kd.Xu χ.out)) (Kd.Xu aw.out)) (Qh HB.out))
               have ct:=Aside0.mk (Kd.Q3 (Kd.Z1 (Kd.Z1 ax (Kd.Xu ψ.out)) (Kd.Xu ay.out)) (Qh HB.out))
               replace χ :=Aside0.mk (Kd.Zb χ.out (Kd.Zy ak) hb)
               replace ψ :=Aside0.mk (Kd.Zb ψ.out (Kd.Zy ax) hb)
               replace aw:=Aside0.mk (Kd.Zb aw.out (Kd.Zy ak) hb)
               replace ay:=Aside0.mk (Kd.Zb ay.out (Kd.Zy ax) hb)
               replace B:=sBk B hb
               replace τ :=sBk τ hb
               replace b0:=sBk b0 hb
               replace HB:=sHb hb
               (try clear hb)
               (try clear a6)
               (try clear hk)
               (try clear hi)
               (try clear ak)
               (try clear ax)
               refine hK.out _ _ ⟨qc B,qc B,qc B,qc B,qc B,qc B,qc B,qc B,qc B,qc B,qc B,qc B,qc B,qc B,qc τ,qc τ⟩ (fun hHeld=>?_)
               clear hK K
               refine qN (some 162) ?_
               refine qP 9 (some 153) (bN 15 5119) HT_ ?_
               refine qP 10 (some 163) (bN 15 6143) HT_ ?_
               refine qP 11 (some 164) (bN 15 8191) HT_ ?_
               exact Ze (by simp only[Q6,Act.put,qS]) (hCont (.slice i9 ga.length ia,.slice oo gb.length oq,ki,kj,av) _ ⟨hHeld,(by(with_reducible repeat first|apply Kd.Qm|apply Kd.Ql|apply Kd.Qs);exact Kd.Qw aw.out (fun _ hk=>⟨hk.2,hk.1.2⟩)),(by(with_reducible repeat first|apply Kd.Qm|apply Kd.Ql|apply Kd.Qs);exact Kd.Qw ay.out (fun _ hk=>⟨hk.2,hk.1.2⟩)),(by(with_reducible repeat first|apply Kd.Qm|apply Kd.Ql|apply Kd.Qs);exact Kd.Qw cr.out (fun _ hk=>⟨hk.2,hk.1.2⟩)),(by(with_reducible repeat first|apply Kd.Qm|apply Kd.Ql|apply Kd.Qs);exact Kd.Qw ct.out (fun _ hk=>⟨hk.2,hk.1.2⟩)),(by(with_reducible repeat first|apply Kd.Qm|apply Kd.Ql|apply Kd.Qs);exact Kd.Qw χ.out (fun _ hk=>⟨hk.1.2,hk.2⟩)),(by(with_reducible repeat first|apply Kd.Qm|apply Kd.Ql|apply Kd.Qs);exact Kd.Qw ψ.out (fun _ hk=>⟨hk.1.2,hk.2⟩)),B.out,τ.out,b0.out,m2.out,m3.out,aa.out,cu.out,bd.out,cv.out,HB.out⟩)
             ·skip
              refine Z0 ?hg (N:=10) ?hd (cs:=#[.slice none 0 0,.slice none 0 0]) (t:=50) ?hr ?_;(case hd=>rfl);(case hg=>rfl);(case hr=>go_simp <;> rfl)
              intro av hg z2 hbox hb
              have b0:=Aside0.mk hbox
              have m2:=sGe hg
              have m3:=sGe hg
              have aa:=sNl B hg
              have cu:=sNg B hg
              have bd:=sNl τ hg
              have cv:=sNg τ hg
              replace χ :=sRb χ hb
              replace ψ :=sRb ψ hb
              replace B:=sBk B hb
              replace τ :=sBk τ hb
              replace HB:=sHb hb
              clear hb hbox hg
              refine hK.out _ _ ⟨qc B,qc B,qc B,qc B,qc B,qc B,qc B,qc B,qc B,qc B,qc B,qc B,qc B,qc B,qc τ,qc τ⟩ (fun hHeld=>?_)
              clear hK K
              refine qN (some 10) ?_
              refine qK 7 (some 161) (bN 15 4351) HT_ fun K hK=>?_
              refine Q9 Try.func15 kr rfl #[.agg #[.slice bu a0.length bc,.slice b1 a5.length b2]] (by rfl) rfl rfl qM ?_
              with_reducible refine(newellaw19_Own.calls _ _ a0 _ _ a5 ga gb _ ?side1 ?side2 ?side3 ?side4 vu.out).mono ?_
              (case side1=>exact(Kd.Qr χ.out).2.2)
              (case side2=>exact(Kd.Qr χ.out).2.1)
              (case side3=>exact(Kd.Qr ψ.out).2.2)
              (case side4=>exact(Kd.Qr ψ.out).2.1)
              rintro e vs ⟨ol,om,rfl,ak,ax,hb⟩
              refine⟨_,rfl, ?_⟩
              have aw:=Aside0.mk (Kd.Q3 (Kd.Z1 ak (Kd.Xu χ.out)) (Qh HB.out))
              have ay:=Aside0.mk (Kd.Q3 (Kd.Z1 ax (Kd.Xu ψ.out)) (Qh HB.out))
              replace χ :=Aside0.mk (Kd.Zb χ.out (Kd.Zy ak) hb)
              replace ψ :=Aside0.mk (Kd.Zb ψ.out (Kd.Zy ax) hb)
              replace B:=sBk B hb
              replace τ :=sBk τ hb
              replace b0:=sBk b0 hb
              replace HB:=sHb hb
              (try clear hb)
              (try clear a6)
              (try clear hk)
              (try clear hi)
              (try clear ak)
              (try clear ax)
              obtain⟨i9,ia,iz⟩:=Kd.Q5 aw.out
              (first|subst iz|(injection iz with ab ap ac;have ar:=ab.symm;have au:=ac.symm;clear ab ap ac;subst ar;subst au))
              obtain⟨oo,oq,ot⟩:=Kd.Q5 ay.out
              (first|subst ot|(injection ot with ab ap ac;have ar:=ab.symm;have au:=ac.symm;clear ab ap ac;subst ar;subst au))
              refine hK.out _ _ ⟨qc B,qc B,qc B,qc B,qc B,qc B,qc B,qc B,qc B,qc B,qc B,qc B,qc B,qc B,qc τ,qc τ⟩ (fun hHeld=>?_)
              clear hK K
              refine qN (some 161) ?_
              refine qK 8 (some 162) (bN 15 4607) HT_ fun K hK=>?_
              refine Q9 Try.func21 kr rfl #[.agg #[.int .i64 J,.int .i64 O,.int .i64 X,.int .i64 Y,.int .i64 Z,.int .i64 δ,.int .i64 γ,.int .i64 θ,.int .i64 η,.int .i64 ζ],.slice a8 ρ.length a9,.int .i64 ν,.agg #[.slice i9 ga.length ia,.slice oo gb.length oq]] (by rfl) rfl rfl qM ?_
              with_reducible refine(group_Spread.calls k3 J O X Y Z δ γ θ η ζ _ _ ρ ν _ _ ga _ _ gb eb f7 ha _ ?side1 ?side2 ?side3 ?side4 ?side5 ?side6 gf.out).mono ?_
              (case side1=>exact(Kd.Qv cy.out HB.out))
              (case side2=>exact cz.out)
              (case side3=>exact(Kd.Qr aw.out).2.2)
              (case side4=>exact(Kd.Qr aw.out).2.1)
              (case side5=>exact(Kd.Qr ay.out).2.2)
              (case side6=>exact(Kd.Qr ay.out).2.1)
              rintro e vv ⟨ki,kj,rfl,ak,ax,hb⟩
              refine⟨_,rfl, ?_⟩
              have cr:=Aside0.mk (Kd.Q3 (Kd.Z1 (Kd.Z1 ak (Kd.Xu χ.out)) (Kd.Xu aw.out)) (Qh HB.out))
              have ct:=Aside0.mk (Kd.Q3 (Kd.Z1 (Kd.Z1 ax (Kd.Xu ψ.out)) (Kd.Xu ay.out)) (Qh HB.out))
              replace χ :=Aside0.mk (Kd.Zb χ.out (Kd.Zy ak) hb)
              replace ψ :=Aside0.mk (Kd.Zb ψ.out (Kd.Zy ax) hb)
              replace aw:=Aside0.mk (Kd.Zb aw.out (Kd.Zy ak) hb)
              replace ay:=Aside0.mk (Kd.Zb ay.out (Kd.Zy ax) hb)
              replace B:=sBk B hb
              replace τ :=sBk τ hb
              replace b0:=sBk b0 hb
              replace HB:=sHb hb
              (try clear hb)
              (try clear a6)
              (try clear hk)
              (try clear hi)
              (try clear ak)
              (try clear ax)
              refine hK.out _ _ ⟨qc B,qc B,qc B,qc B,qc B,qc B,qc B,qc B,qc B,qc B,qc B,qc B,qc B,qc B,qc τ,qc τ⟩ (fun hHeld=>?_)
              clear hK K
              refine qN (some 162) ?_
              refine qP 9 (some 153) (bN 15 5119) HT_ ?_
              refine qP 10 (some 163) (bN 15 6143) HT_ ?_
              refine qP 11 (some 164) (bN 15 8191) HT_ ?_
              exact Ze (by simp only[Q6,Act.put,qS]) (hCont (.slice i9 ga.length ia,.slice oo gb.length oq,ki,kj,av) _ ⟨hHeld,(by(with_reducible repeat first|apply Kd.Qm|apply Kd.Ql|apply Kd.Qs);exact Kd.Qw aw.out (fun _ hk=>⟨hk.2,hk.1.2⟩)),(by(with_reducible repeat first|apply Kd.Qm|apply Kd.Ql|apply Kd.Qs);exact Kd.Qw ay.out (fun _ hk=>⟨hk.2,hk.1.2⟩)),(by(with_reducible repeat first|apply Kd.Qm|apply Kd.Ql|apply Kd.Qs);exact Kd.Qw cr.out (fun _ hk=>⟨hk.2,hk.1.2⟩)),(by(with_reducible repeat first|apply Kd.Qm|apply Kd.Ql|apply Kd.Qs);exact Kd.Qw ct.out (fun _ hk=>⟨hk.2,hk.1.2⟩)),(by(with_reducible repeat first|apply Kd.Qm|apply Kd.Ql|apply Kd.Qs);exact Kd.Qw χ.out (fun _ hk=>⟨hk.1.2,hk.2⟩)),(by(with_reducible repeat first|apply Kd.Qm|apply Kd.Ql|apply Kd.Qs);exact Kd.Qw ψ.out (fun _ hk=>⟨hk.1.2,hk.2⟩)),B.out,τ.out,b0.out,m2.out,m3.out,aa.out,cu.out,bd.out,cv.out,HB.out⟩)
            rintro⟨ol,om,ki,kj,av⟩ cx ⟨hS_,b5,b6,b7,b8,b9,bl,ch,ci,cj,ck,bh,bw,bz,co,fw,nq⟩
            have μ :Aside0 (Kd.R k36 36 cx w.heap.size (fun k_=>some k_≠(ki:Value).ownBlock∧some k_≠(.slice bu a0.length bc:Value).ownBlock) ol ga):=⟨b5⟩
            have ξ :Aside0 (Kd.R k86 86 cx w.heap.size (fun k_=>some k_≠(kj:Value).ownBlock∧some k_≠(.slice b1 a5.length b2:Value).ownBlock) om gb):=⟨b6⟩
            have a3:Aside0 (Kd.R k36 36 cx w.heap.size (fun k_=>some k_≠(ol:Value).ownBlock∧some k_≠(.slice bu a0.length bc:Value).ownBlock) ki eb):=⟨b7⟩
            have a4:Aside0 (Kd.R k86 86 cx w.heap.size (fun k_=>some k_≠(om:Value).ownBlock∧some k_≠(.slice b1 a5.length b2:Value).ownBlock) kj f7):=⟨b8⟩
            have al:Aside0 (Kd.R k36 36 cx w.heap.size (fun k_=>some k_≠(ol:Value).ownBlock∧some k_≠(ki:Value).ownBlock) (.slice bu a0.length bc) a0):=⟨b9⟩
            have az:Aside0 (Kd.R k86 86 cx w.heap.size (fun k_=>some k_≠(om:Value).ownBlock∧some k_≠(kj:Value).ownBlock) (.slice b1 a5.length b2) a5):=⟨bl⟩
            have b3:Aside0 (cx.heap[ε]?=some (.cells #[.int .i64 J,.int .i64 O,.int .i64 X,.int .i64 Y,.int .i64 Z,.int .i64 δ,.int .i64 γ,.int .i64 θ,.int .i64 η,.int .i64 ζ,.slice a8 ρ.length a9,.int .i64 ν,.slice ah ι.length ae,.slice af φ.length ag] 52 (0,0))):=⟨ch⟩
            have bb:Aside0 (cx.heap[a1]?=some (.cells #[.slice bu a0.length bc,.slice b1 a5.length b2] 50 (0,0))):=⟨ci⟩
            have bk:Aside0 (cx.heap[av]?=some (.cells #[.slice none 0 0,.slice none 0 0] 50 (0,0))):=⟨cj⟩
            have ca:Aside0 (w.heap.size≤av):=⟨ck⟩
            have bi:Aside0 (w.heap.size≤av):=⟨bh⟩
            have cb:Aside0 (ε ≠ av):=⟨bw⟩
            have cd:Aside0 (av ≠ ε):=⟨bz⟩
            have cp:Aside0 (a1≠av):=⟨co⟩
            have fx:Aside0 (av≠a1):=⟨fw⟩
            have nr:Aside0 (Below w.heap.size w cx):=⟨nq⟩
            clear χ
            clear ψ
            clear B
            clear τ
            clear HB
            clear b5 b6 b7 b8 b9 bl ch ci cj ck bh bw bz co fw nq
            have aw:= μ
            have ay:= ξ
            have cr:=a3
            have ct:=a4
            have χ :=al
            have ψ :=az
            have B:=b3
            have τ :=bb
            have b0:=bk
            have m2:=ca
            have m3:=bi
            have aa:=cb
            have cu:=cd
            have bd:=cp
            have cv:=fx
            have HB:=nr
            clear μ ξ a3 a4 al az b3 bb bk ca bi cb cd cp fx nr
            have hHeld:cx.cell? ⟨ε,0,none⟩=some (.int .i64 J)∧cx.cell? ⟨ε,1,none⟩=some (.int .i64 O)∧cx.cell? ⟨ε,2,none⟩=some (.int .i64 X)∧cx.cell? ⟨ε,3,none⟩=some (.int .i64 Y)∧cx.cell? ⟨ε,4,none⟩=some (.int .i64 Z)∧cx.cell? ⟨ε,5,none⟩=some (.int .i64 δ)∧cx.cell? ⟨ε,6,none⟩=some (.int .i64 γ)∧cx.cell? ⟨ε,7,none⟩=some (.int .i64 θ)∧cx.cell? ⟨ε,8,none⟩=some (.int .i64 η)∧cx.cell? ⟨ε,9,none⟩=some (.int .i64 ζ)∧cx.cell? ⟨ε,10,none⟩=some (.slice a8 ρ.length a9)∧cx.cell? ⟨ε,11,none⟩=some (.int .i64 ν)∧cx.cell? ⟨ε,12,none⟩=some (.slice ah ι.length ae)∧cx.cell? ⟨ε,13,none⟩=some (.slice af φ.length ag)∧cx.cell? ⟨a1,0,none⟩=some (.slice bu a0.length bc)∧cx.cell? ⟨a1,1,none⟩=some (.slice b1 a5.length b2):=hS_
            obtain⟨ng,nh,vj⟩:=Kd.Q5 cr.out
            (first|subst vj|(injection vj with ab ap ac;have ar:=ab.symm;have au:=ac.symm;clear ab ap ac;subst ar;subst au))
            obtain⟨ou,nc,nw⟩:=Kd.Q5 ct.out
            (first|subst nw|(injection nw with ab ap ac;have ar:=ab.symm;have au:=ac.symm;clear ab ap ac;subst ar;subst au))
            refine Ze (a':=?_) ?_ ?_
            rotate_left
            ·simp only[Q6,Act.put,qS]
             rfl
            refine qK 13 (none) (bN 15 16383) HT_ fun K hK=>?_
            have zi:cx.cell? ⟨av,0,none⟩=some (.slice none 0 0):=(Qa b0.out 0).trans rfl
            have zb:=Qb b0.out 0
            have yj:=aa.out
            have yk:=bd.out
            have yl:=cu.out
            have ym:=cv.out
            have zj:cx.cell? ⟨av,1,none⟩=some (.slice none 0 0):=(Qa b0.out 1).trans rfl
            have zc:=Qb b0.out 1
            have yn:=aa.out
            have yo:=bd.out
            have yp:=cu.out
            have yq:=cv.out
            refine Kq (w1:=?_) (by rfl) rfl ?_ ?_
            rotate_left
            ·go_simp
             rfl
            refine hK.out _ _ ⟨((cell_far (p:=⟨av,_,none⟩) aa.out _).trans (((cell_far (p:=⟨av,_,none⟩) aa.out _).trans (hHeld.1)))),((cell_far (p:=⟨av,_,none⟩) aa.out _).trans (((cell_far (p:=⟨av,_,none⟩) aa.out _).trans (hHeld.2.1)))),((cell_far (p:=⟨av,_,none⟩) aa.out _).trans (((cell_far (p:=⟨av,_,none⟩) aa.out _).trans (hHeld.2.2.1)))),((cell_far (p:=⟨av,_,none⟩) aa.out _).trans (((cell_far (p:=⟨av,_,none⟩) aa.out _).trans (hHeld.2.2.2.1)))),((cell_far (p:=⟨av,_,none⟩) aa.out _).trans (((cell_far (p:=⟨av,_,none⟩) aa.out _).trans (hHeld.2.2.2.2.1)))),((cell_far (p:=⟨av,_,none⟩) aa.out _).trans (((cell_far (p:=⟨av,_,none⟩) aa.out _).trans (hHeld.2.2.2.2.2.1)))),((cell_far (p:=⟨av,_,none⟩) aa.out _).trans (((cell_far (p:=⟨av,_,none⟩) aa.out _).trans (hHeld.2.2.2.2.2.2.1)))),((cell_far (p:=⟨av,_,none⟩) aa.out _).trans (((cell_far (p:=⟨av,_,none⟩) aa.out _).trans (hHeld.2.2.2.2.2.2.2.1)))),((cell_far (p:=⟨av,_,none⟩) aa.out _).trans (((cell_far (p:=⟨av,_,none⟩) aa.out _).trans (hHeld.2.2.2.2.2.2.2.2.1)))),((cell_far (p:=⟨av,_,none⟩) aa.out _).trans (((cell_far (p:=⟨av,_,none⟩) aa.out _).trans (hHeld.2.2.2.2.2.2.2.2.2.1)))),((cell_far (p:=⟨av,_,none⟩) aa.out _).trans (((cell_far (p:=⟨av,_,none⟩) aa.out _).trans (hHeld.2.2.2.2.2.2.2.2.2.2.1)))),((cell_far (p:=⟨av,_,none⟩) aa.out _).trans (((cell_far (p:=⟨av,_,none⟩) aa.out _).trans (hHeld.2.2.2.2.2.2.2.2.2.2.2.1)))),((cell_far (p:=⟨av,_,none⟩) aa.out _).trans (((cell_far (p:=⟨av,_,none⟩) aa.out _).trans (hHeld.2.2.2.2.2.2.2.2.2.2.2.2.1)))),((cell_far (p:=⟨av,_,none⟩) aa.out _).trans (((cell_far (p:=⟨av,_,none⟩) aa.out _).trans (hHeld.2.2.2.2.2.2.2.2.2.2.2.2.2.1)))),((cell_far (p:=⟨av,_,none⟩) bd.out _).trans (((cell_far (p:=⟨av,_,none⟩) bd.out _).trans (hHeld.2.2.2.2.2.2.2.2.2.2.2.2.2.2.1)))),((cell_far (p:=⟨av,_,none⟩) bd.out _).trans (((cell_far (p:=⟨av,_,none⟩) bd.out _).trans (hHeld.2.2.2.2.2.2.2.2.2.2.2.2.2.2.2))))⟩ (fun hHeld=>?_)
            clear hK K
            refine qP 14 (some 11) (bN 15 32767) HT_ ?_
            refine Z2 (Zf HT_.out kr) ?_
            go_upto_region 23 with(fail)
            go_cut [2] (fun v2 wc=>∃ (kq:Nat) (qo:Bool),v2 = .bool qo∧Aside0 (newellaw21_GroupAll.j6 kq qo=some r)∧Aside0 (kq≤k3)∧Aside0 (Kd.R k36 36 wc w.heap.size (fun k_=>some k_≠((.slice ng eb.length nh):Value).ownBlock) (.slice bu a0.length bc) a0)∧Aside0 (Kd.R k86 86 wc w.heap.size (fun k_=>some k_≠((.slice ou f7.length nc):Value).ownBlock) (.slice b1 a5.length b2) a5)∧Aside0 (Kd.R k36 36 wc w.heap.size (fun k_=>some k_≠((.slice bu a0.length bc):Value).ownBlock) (.slice ng eb.length nh) eb)∧Aside0 (Kd.R k86 86 wc w.heap.size (fun k_=>some k_≠((.slice b1 a5.length b2):Value).ownBlock) (.slice ou f7.length nc) f7)∧Aside0 (wc.heap[ε]?=some (.cells #[.int .i64 J,.int .i64 O,.int .i64 X,.int .i64 Y,.int .i64 Z,.int .i64 δ,.int .i64 γ,.int .i64 θ,.int .i64 η,.int .i64 ζ,(.slice a8 ρ.length a9),.int .i64 ν,(.slice ah ι.length ae),(.slice af φ.length ag)] 52 (0,0)))∧Aside0 (wc.heap[a1]?=some (.cells #[(.slice bu a0.length bc),(.slice b1 a5.length b2)] 50 (0,0)))∧Aside0 (wc.heap[av]?=some (.cells #[(.slice ng eb.length nh),(.slice ou f7.length nc)] 50 (0,0)))∧Aside0 (Below w.heap.size w wc))
            case first=>
             have H:=s6.out
             clear s6
             replace H:=Option.bind_eq_some_iff.mp H
             obtain⟨l2,vk,H⟩:=H
             replace H:(if l2=true then (if ha=0 then ((call_Same.f k3 eb f7 a0 a5).bind fun gx=>(newellaw21_GroupAll.j6 k3 gx)) else (none)) else (none))=some r:=H
             have z3:=Aside0.mk vk
             clear vk
             by_cases qq:l2=true
             ·subst qq
              have H1:(if ha=0 then ((call_Same.f k3 eb f7 a0 a5).bind fun gx=>(newellaw21_GroupAll.j6 k3 gx)) else (none))=some r:=by rw[if_pos rfl] at H;exact H
              clear H
              have H:=H1
              clear H1
              by_cases qj:ha=0
              ·rw[if_pos qj] at H
               have c97b0:(ha==0)=true:=beq_iff_eq.mpr qj
               have c97b1:(ha != 0)=false:=bne_eq_false_iff_eq.mpr qj
               clear qj
               (first|rw[c97b0]|(simp only[Xe,Xh];rw[c97b0])|skip)
               replace H:=Option.bind_eq_some_iff.mp H
               obtain⟨gx,vl,H⟩:=H
               replace H:(newellaw21_GroupAll.j6 k3 gx)=some r:=H
               have z4:=Aside0.mk vl
               clear vl
               have H':=Aside0.mk H
               clear H
               go_wp2_with (first|((with_reducible refine Qp (f:=9) rfl ?_);refine Q4 (some 165) rfl rfl Try.func9 kr rfl #[] rfl qM ?_;(with_reducible refine(newellaw21_awake.calls k3  true _ z3.out).mono ?_);rintro e m4 ⟨rfl,hb⟩;refine⟨_,rfl, ?_⟩;replace χ :=Aside0.mk (Kd.Za (by(with_reducible repeat first|apply Kd.Qm|apply Kd.Ql|apply Kd.Qs);exact(Kd.Qw (Kd.Qz (Kd.Qz (Kd.Q7 χ.out b0.out (by decide)) (fun _ hk=>hk.2) _) (fun _ hk=>hk.2) _) (fun _ h_=>h_.1))) hb);replace ψ :=Aside0.mk (Kd.Za (by(with_reducible repeat first|apply Kd.Qm|apply Kd.Ql|apply Kd.Qs);exact(Kd.Qw (Kd.Qz (Kd.Qz (Kd.Q7 ψ.out b0.out (by decide)) (fun _ hk=>hk.2) _) (fun _ hk=>hk.2) _) (fun _ h_=>h_.1))) hb);replace aw:=Aside0.mk (Kd.Za (by(with_reducible repeat first|apply Kd.Qm|apply Kd.Ql|apply Kd.Qs);exact(Kd.Qw (Kd.Qz (Kd.Qz (Kd.Q7 aw.out b0.out (by decide)) (fun _ hk=>hk.2) _) (fun _ hk=>hk.2) _) (fun _ h_=>h_.1))) hb);replace ay:=Aside0.mk (Kd.Za (by(with_reducible repeat first|apply Kd.Qm|apply Kd.Ql|apply Kd.Qs);exact(Kd.Qw (Kd.Qz (Kd.Qz (Kd.Q7 ay.out b0.out (by decide)) (fun _ hk=>hk.2) _) (fun _ hk=>hk.2) _) (fun _ h_=>h_.1))) hb);replace cr:=Aside0.mk (Kd.Za (by(with_reducible repeat first|apply Kd.Qm|apply Kd.Ql|apply Kd.Qs);exact(Kd.Qw (Kd.Qz (Kd.Qz (Kd.Q7 cr.out b0.out (by decide)) (fun _ hk=>hk.2) _) (fun _ hk=>hk.2) _) (fun _ h_=>h_.1))) hb);replace ct:=Aside0.mk (Kd.Za (by(with_reducible repeat first|apply Kd.Qm|apply Kd.Ql|apply Kd.Qs);exact(Kd.Qw (Kd.Qz (Kd.Qz (Kd.Q7 ct.out b0.out (by decide)) (fun _ hk=>hk.2) _) (fun _ hk=>hk.2) _) (fun _ h_=>h_.1))) hb);replace B:=sBk B hb;replace τ :=sBk τ hb;replace b0:=Aside0.mk (Qy (g:=av) (o:=.cells #[.slice ng eb.length nh,.slice ou f7.length nc] 50 (0,0)) (by refine Qq (cs:=#[.slice ng eb.length nh,.slice none 0 0]) ?_ 1 _ rfl;refine Qq (cs:=#[.slice none 0 0,.slice none 0 0]) ?_ 0 _ rfl;exact b0.out) hb);replace HB:=sHb hb;(try clear hb);(try clear a6);(try clear hk);(try clear hi);have uu:=cu.out;have uv:=aa.out;have uw:=cv.out;have ux:=bd.out;obtain⟨s7,s8,s9,sa⟩:=qD2 b0.out;have uy:=an.out;have uz:= κ.out;obtain⟨ns,nt,nu,nv⟩:=qD2 τ.out)|(go_at_call 26;(with_reducible refine(call_Same.calls k3 _ _ eb _ _ f7 _ _ a0 _ _ a5 gx _ ?side1 ?side2 ?side3 ?side4 ?side5 ?side6 ?side7 ?side8 z4.out).mono ?_);(case side1=>exact(Kd.Qr cr.out).2.2);(case side2=>exact(Kd.Qr cr.out).2.1);(case side3=>exact(Kd.Qr ct.out).2.2);(case side4=>exact(Kd.Qr ct.out).2.1);(case side5=>exact(Kd.Qr χ.out).2.2);(case side6=>exact(Kd.Qr χ.out).2.1);(case side7=>exact(Kd.Qr ψ.out).2.2);(case side8=>exact(Kd.Qr ψ.out).2.1);rintro e v0 ⟨rfl,hb⟩;have μ :=Aside0.mk (Kd.Za χ.out hb);have ξ :=Aside0.mk (Kd.Za ψ.out hb);have a3:=Aside0.mk (Kd.Za aw.out hb);have a4:=Aside0.mk (Kd.Za ay.out hb);have al:=Aside0.mk (Kd.Za cr.out hb);have az:=Aside0.mk (Kd.Za ct.out hb);have b3:=Aside0.mk (Qy (g:= ε) (o:=.cells #[.int .i64 J,.int .i64 O,.int .i64 X,.int .i64 Y,.int .i64 Z,.int .i64 δ,.int .i64 γ,.int .i64 θ,.int .i64 η,.int .i64 ζ,.slice a8 ρ.length a9,.int .i64 ν,.slice ah ι.length ae,.slice af φ.length ag] 52 (0,0)) B.out hb);have bb:=Aside0.mk (Qy (g:=a1) (o:=.cells #[.slice bu a0.length bc,.slice b1 a5.length b2] 50 (0,0)) τ.out hb);have bk:=Aside0.mk (Qy (g:=av) (o:=.cells #[.slice ng eb.length nh,.slice ou f7.length nc] 50 (0,0)) b0.out hb);have ca:=Aside0.mk (Q0 HB.out hb);clear χ;clear ψ;clear aw;clear ay;clear cr;clear ct;clear B;clear τ;clear b0;clear HB;have χ := μ;have ψ := ξ;have aw:=a3;have ay:=a4;have cr:=al;have ct:=az;have B:=b3;have τ :=bb;have b0:=bk;have HB:=ca;clear μ ξ a3 a4 al az b3 bb bk ca;(try clear hb);(try clear a6);(try clear hk);(try clear hi)))
               go_meet
               case rel=>exact⟨_,(gx),rfl,H',⟨by have:=ao.out;have:=j7.out;have:=m5.out;first|omega|exact Nat.le_refl _⟩,⟨by(with_reducible repeat first|apply Kd.Qm|apply Kd.Ql|apply Kd.Qs);exact Kd.Qw χ.out (fun _ hk=>hk.2)⟩,⟨by(with_reducible repeat first|apply Kd.Qm|apply Kd.Ql|apply Kd.Qs);exact Kd.Qw ψ.out (fun _ hk=>hk.2)⟩,⟨by(with_reducible repeat first|apply Kd.Qm|apply Kd.Ql|apply Kd.Qs);exact Kd.Qw cr.out (fun _ hk=>hk.2)⟩,⟨by(with_reducible repeat first|apply Kd.Qm|apply Kd.Ql|apply Kd.Qs);exact Kd.Qw ct.out (fun _ hk=>hk.2)⟩,B,τ,b0,HB⟩
              ·rw[if_neg qj] at H
               exact absurd H (by simp)
             ·replace qq:=Bool.eq_false_iff.mpr qq
              subst qq
              have H1:(none)=some r:=by rw[if_neg (show ¬ (false=true) by decide)] at H;exact H
              clear H
              have H:=H1
              clear H1
              exact absurd H (by simp)
            case rest=>
             clear s6
             try clear c1
             try clear c2
             try clear p2
             try clear c9
             try clear c10
             try clear b4
             try clear ba
             try clear qq
             try clear qj
             try clear c97b0
             try clear c97b1
             try clear zk
             try clear zl
             try clear zm
             try clear s7
             try clear s8
             try clear ns
             try clear nt
             try clear s9
             try clear sa
             try clear nu
             try clear nv
             obtain⟨kq,qo,rfl,HA,zn,χ,ψ,vw,vx,B,τ,b0,HB⟩:=hcut
             cases kq with
             |zero=>exact absurd HA.out (by simp[newellaw21_GroupAll.j6])
             |succ zo=>
              have H:=HA.out
              clear HA
              simp only[newellaw21_GroupAll.j6] at H
              obtain rfl:=Option.some.inj H
              go_wp2
              go_ret
              exact⟨rfl,HB.out⟩
  ·rw[if_neg c6] at H
   have c6b0:(dd==0)=false:=beq_eq_false_iff_ne.mpr c6
   have c6b1:(dd != 0)=true:=bne_iff_ne.mpr c6
   replace H:=Option.bind_eq_some_iff.mp H
   obtain⟨fz,sv,H⟩:=H
   replace H:(some fz)=some r:=H
   have wx:=Aside0.mk sv
   clear sv
   obtain rfl:=Option.some.inj H
   go_enter Try.func8,Try.ntmps8
   try go_wp2_with (first|((with_reducible refine Qf (N:=1) rfl ?_);refine qE 1 #[.int .i64 J,.int .i64 O,.int .i64 X,.int .i64 Y,.int .i64 Z,.int .i64 δ,.int .i64 γ,.int .i64 θ,.int .i64 η,.int .i64 ζ,.slice a8 ρ.length a9,.int .i64 ν,.slice ah ι.length ae,.slice af φ.length ag] 52 ?_;intro ε hg ez hbox hb;have B:=Aside0.mk hbox;have sp:=sGe hg;have sq:=sGe hg;replace HB:=sHb hb;clear hb hbox hg;have wy:ez.cell? ⟨ε,0,none⟩=some (.int .i64 J):=(Qa B.out 0).trans rfl;have wz:ez.cell? ⟨ε,1,none⟩=some (.int .i64 O):=(Qa B.out 1).trans rfl;have x0:ez.cell? ⟨ε,2,none⟩=some (.int .i64 X):=(Qa B.out 2).trans rfl;have x1:ez.cell? ⟨ε,3,none⟩=some (.int .i64 Y):=(Qa B.out 3).trans rfl;have x2:ez.cell? ⟨ε,4,none⟩=some (.int .i64 Z):=(Qa B.out 4).trans rfl;have x3:ez.cell? ⟨ε,5,none⟩=some (.int .i64 δ):=(Qa B.out 5).trans rfl;have x4:ez.cell? ⟨ε,6,none⟩=some (.int .i64 γ):=(Qa B.out 6).trans rfl;have x5:ez.cell? ⟨ε,7,none⟩=some (.int .i64 θ):=(Qa B.out 7).trans rfl;have x6:ez.cell? ⟨ε,8,none⟩=some (.int .i64 η):=(Qa B.out 8).trans rfl;have x7:ez.cell? ⟨ε,9,none⟩=some (.int .i64 ζ):=(Qa B.out 9).trans rfl;have vy:ez.cell? ⟨ε,10,none⟩=some (.slice a8 ρ.length a9):=(Qa B.out 10).trans rfl;have vz:ez.cell? ⟨ε,11,none⟩=some (.int .i64 ν):=(Qa B.out 11).trans rfl;have w3:ez.cell? ⟨ε,12,none⟩=some (.slice ah ι.length ae):=(Qa B.out 12).trans rfl;have w4:ez.cell? ⟨ε,13,none⟩=some (.slice af φ.length ag):=(Qa B.out 13).trans rfl;have x8:=Qb B.out 0;have x9:=Qb B.out 1;have xa:=Qb B.out 2;have xb:=Qb B.out 3;have xc:=Qb B.out 4;have xd:=Qb B.out 5;have xe:=Qb B.out 6;have xf:=Qb B.out 7;have xg:=Qb B.out 8;have xh:=Qb B.out 9;have w5:=Qb B.out 10;have w6:=Qb B.out 11;have w8:=Qb B.out 12;have wa:=Qb B.out 13)|((with_reducible refine Qp (f:=13) rfl ?_);refine Q4 (some 13) rfl rfl Try.func13 kr rfl #[.agg #[.int .i64 J,.int .i64 O,.int .i64 X,.int .i64 Y,.int .i64 Z,.int .i64 δ,.int .i64 γ,.int .i64 θ,.int .i64 η,.int .i64 ζ,.slice a8 ρ.length a9,.int .i64 ν,.slice ah ι.length ae,.slice af φ.length ag]] rfl qM ?_;(with_reducible refine(newellaw21_few.calls J O X Y Z δ γ θ η ζ _ _ ρ ν _ _ ι _ _ φ true _ ?side1 ?side2 ?side3 ?side4 ?side5 ?side6 A2.out).mono ?_);(case side1=>exact(Kd.Qv cy.out HB.out));(case side2=>exact cz.out);(case side3=>exact(Kd.Qv d6.out HB.out));(case side4=>exact fu.out);(case side5=>exact(Kd.Qv et.out HB.out));(case side6=>exact eu.out);rintro e xi ⟨rfl,hb⟩;refine⟨_,rfl, ?_⟩;replace B:=sBk B hb;replace HB:=sHb hb;(try clear hb);(try clear a6);(try clear hk);(try clear hi)))
   replace B:=Aside0.mk (Qe B.out)
   replace HB:=Aside0.mk (Qg HB.out)
   refine Zh (n:=16) (S:=fun w'=>w'.cell? ⟨ε,0,none⟩=some (.int .i64 J)∧w'.cell? ⟨ε,1,none⟩=some (.int .i64 O)∧w'.cell? ⟨ε,2,none⟩=some (.int .i64 X)∧w'.cell? ⟨ε,3,none⟩=some (.int .i64 Y)∧w'.cell? ⟨ε,4,none⟩=some (.int .i64 Z)∧w'.cell? ⟨ε,5,none⟩=some (.int .i64 δ)∧w'.cell? ⟨ε,6,none⟩=some (.int .i64 γ)∧w'.cell? ⟨ε,7,none⟩=some (.int .i64 θ)∧w'.cell? ⟨ε,8,none⟩=some (.int .i64 η)∧w'.cell? ⟨ε,9,none⟩=some (.int .i64 ζ)∧w'.cell? ⟨ε,10,none⟩=some (.slice a8 ρ.length a9)∧w'.cell? ⟨ε,11,none⟩=some (.int .i64 ν)∧w'.cell? ⟨ε,12,none⟩=some (.slice ah ι.length ae)∧w'.cell? ⟨ε,13,none⟩=some (.slice af φ.length ag)) (ds:=[]) #[false,false,false,false,false,false,false,false,false,false,false,false,false,false,false,false] kr rfl rfl ⟨(Qa B.out 0).trans rfl,(Qa B.out 1).trans rfl,(Qa B.out 2).trans rfl,(Qa B.out 3).trans rfl,(Qa B.out 4).trans rfl,(Qa B.out 5).trans rfl,(Qa B.out 6).trans rfl,(Qa B.out 7).trans rfl,(Qa B.out 8).trans rfl,(Qa B.out 9).trans rfl,(Qa B.out 10).trans rfl,(Qa B.out 11).trans rfl,(Qa B.out 12).trans rfl,(Qa B.out 13).trans rfl⟩ (fun hHeld=>?_);refine Q8 newellaw21_GroupAll.Ec newellaw21_GroupAll.Ll (fun HT_ HW_=>?_)
   generalize xi.drew=iy at B HB hHeld ⊢
   refine qP 0 (some 17) (bN 16 1) HT_ ?_
   refine qP 2 (some 19) (bN 16 5) HT_ ?_
   refine qP 4 (some 21) (bN 16 21) HT_ ?_
   refine qP 6 (some 23) (bN 16 85) HT_ ?_
   refine qT 1 (some 18) (bN 16 87) HT_ HW_ hHeld ?_
   refine qT 3 (some 20) (bN 16 95) HT_ HW_ hHeld ?_
   refine qT 5 (some 22) (bN 16 127) HT_ HW_ hHeld ?_
   refine qT 7 (some 24) (bN 16 255) HT_ HW_ hHeld ?_
   refine X7 (σ:=Value×Value×Value×Value×Nat) 2 (bN 16 16383) (fun s_=>[(25,.agg #[s_.1,s_.2.1]),(26,.tuple #[.agg #[s_.2.2.1,s_.2.2.2.1],.int .i64 dd]),(3,.pointer (some ⟨s_.2.2.2.2,0,none⟩)),(16,.tuple #[.agg #[s_.2.2.1,s_.2.2.2.1],.int .i64 dd]),(27,.agg #[s_.2.2.1,s_.2.2.2.1]),(28,.int .i64 dd)]) (fun s_ w'=>(w'.cell? ⟨ε,0,none⟩=some (.int .i64 J)∧w'.cell? ⟨ε,1,none⟩=some (.int .i64 O)∧w'.cell? ⟨ε,2,none⟩=some (.int .i64 X)∧w'.cell? ⟨ε,3,none⟩=some (.int .i64 Y)∧w'.cell? ⟨ε,4,none⟩=some (.int .i64 Z)∧w'.cell? ⟨ε,5,none⟩=some (.int .i64 δ)∧w'.cell? ⟨ε,6,none⟩=some (.int .i64 γ)∧w'.cell? ⟨ε,7,none⟩=some (.int .i64 θ)∧w'.cell? ⟨ε,8,none⟩=some (.int .i64 η)∧w'.cell? ⟨ε,9,none⟩=some (.int .i64 ζ)∧w'.cell? ⟨ε,10,none⟩=some (.slice a8 ρ.length a9)∧w'.cell? ⟨ε,11,none⟩=some (.int .i64 ν)∧w'.cell? ⟨ε,12,none⟩=some (.slice ah ι.length ae)∧w'.cell? ⟨ε,13,none⟩=some (.slice af φ.length ag))∧(Kd.R k36 36 w' w.heap.size (fun k_=>some k_≠(s_.2.2.1:Value).ownBlock) s_.1 br)∧(Kd.R k86 86 w' w.heap.size (fun k_=>some k_≠(s_.2.2.2.1:Value).ownBlock) s_.2.1 bs)∧(Kd.R k36 36 w' w.heap.size (fun k_=>some k_≠(s_.1:Value).ownBlock) s_.2.2.1 a0)∧(Kd.R k86 86 w' w.heap.size (fun k_=>some k_≠(s_.2.1:Value).ownBlock) s_.2.2.2.1 a5)∧(w'.heap[ε]?=some (.cells #[.int .i64 J,.int .i64 O,.int .i64 X,.int .i64 Y,.int .i64 Z,.int .i64 δ,.int .i64 γ,.int .i64 θ,.int .i64 η,.int .i64 ζ,.slice a8 ρ.length a9,.int .i64 ν,.slice ah ι.length ae,.slice af φ.length ag] 52 (0,0)))∧(w'.heap[s_.2.2.2.2]?=some (.cells #[.slice none 0 0,.slice none 0 0] 50 (0,0)))∧(w.heap.size≤s_.2.2.2.2)∧(w.heap.size≤s_.2.2.2.2)∧(ε ≠ s_.2.2.2.2)∧(s_.2.2.2.2 ≠ ε)∧(Below w.heap.size w w')) ?_ ?_
   rotate_left
   ·intro hCont
    refine J8 (i:=8) (j:=13) (Ni:=some 25) (Nj:=some 3) (bN 16 511) (bN 16 8447) rfl rfl rfl rfl (Xt HT_.out kr) (by decide) (by decide) (fun K hK=>?_) (fun K hK=>?_)
    ·skip
     refine Q9 Try.func15 kr rfl #[.agg #[.slice ah ι.length ae,.slice af φ.length ag]] (by rfl) rfl rfl qM ?_
     with_reducible refine(newellaw19_Own.calls _ _ ι _ _ φ br bs _ ?side1 ?side2 ?side3 ?side4 A4.out).mono ?_
     (case side1=>exact(Kd.Qv d6.out HB.out))
     (case side2=>exact fu.out)
     (case side3=>exact(Kd.Qv et.out HB.out))
     (case side4=>exact eu.out)
     rintro e xj ⟨jy,jz,rfl,ak,ax,hb⟩
     refine⟨_,rfl, ?_⟩
     have ai:=Aside0.mk (Kd.Q3 ak (Qh HB.out))
     have aj:=Aside0.mk (Kd.Q3 ax (Qh HB.out))
     replace B:=sBk B hb
     replace HB:=sHb hb
     (try clear hb)
     (try clear a6)
     (try clear hk)
     (try clear hi)
     (try clear ak)
     (try clear ax)
     obtain⟨sw,sx,sy⟩:=Kd.Q5 ai.out
     (first|subst sy|(injection sy with ab ap ac;have ar:=ab.symm;have au:=ac.symm;clear ab ap ac;subst ar;subst au))
     obtain⟨hj,h7,h8⟩:=Kd.Q5 aj.out
     (first|subst h8|(injection h8 with ab ap ac;have ar:=ab.symm;have au:=ac.symm;clear ab ap ac;subst ar;subst au))
     refine hK.out _ _ ⟨qc B,qc B,qc B,qc B,qc B,qc B,qc B,qc B,qc B,qc B,qc B,qc B,qc B,qc B⟩ (fun hHeld=>?_)
     clear hK K
     refine qN (some 25) ?_
     refine J8 (i:=9) (j:=13) (Ni:=some 26) (Nj:=some 3) (bN 16 1023) (bN 16 8703) rfl rfl rfl rfl (Xt HT_.out kr) (by decide) (by decide) (fun K hK=>?_) (fun K hK=>?_)
     ·skip
      refine Q9 Try.func21 kr rfl #[.agg #[.int .i64 J,.int .i64 O,.int .i64 X,.int .i64 Y,.int .i64 Z,.int .i64 δ,.int .i64 γ,.int .i64 θ,.int .i64 η,.int .i64 ζ],.slice a8 ρ.length a9,.int .i64 ν,.agg #[.slice sw br.length sx,.slice hj bs.length h7]] (by rfl) rfl rfl qM ?_
      with_reducible refine(group_Spread.calls k J O X Y Z δ γ θ η ζ _ _ ρ ν _ _ br _ _ bs a0 a5 dd _ ?side1 ?side2 ?side3 ?side4 ?side5 ?side6 A5.out).mono ?_
      (case side1=>exact(Kd.Qv cy.out HB.out))
      (case side2=>exact cz.out)
      (case side3=>exact(Kd.Qr ai.out).2.2)
      (case side4=>exact(Kd.Qr ai.out).2.1)
      (case side5=>exact(Kd.Qr aj.out).2.2)
      (case side6=>exact(Kd.Qr aj.out).2.1)
      rintro e ut ⟨dm,dn,rfl,ak,ax,hb⟩
      refine⟨_,rfl, ?_⟩
      have bg:=Aside0.mk (Kd.Q3 (Kd.Z1 ak (Kd.Xu ai.out)) (Qh HB.out))
      have bm:=Aside0.mk (Kd.Q3 (Kd.Z1 ax (Kd.Xu aj.out)) (Qh HB.out))
      replace ai:=Aside0.mk (Kd.Zb ai.out (Kd.Zy ak) hb)
      replace aj:=Aside0.mk (Kd.Zb aj.out (Kd.Zy ax) hb)
      replace B:=sBk B hb
      replace HB:=sHb hb
      (try clear hb)
      (try clear a6)
      (try clear hk)
      (try clear hi)
      (try clear ak)
      (try clear ax)
      refine hK.out _ _ ⟨qc B,qc B,qc B,qc B,qc B,qc B,qc B,qc B,qc B,qc B,qc B,qc B,qc B,qc B⟩ (fun hHeld=>?_)
      clear hK K
      refine qN (some 26) ?_
      refine qP 10 (some 16) (bN 16 2047) HT_ ?_
      refine qP 11 (some 27) (bN 16 4095) HT_ ?_
      refine qP 12 (some 28) (bN 16 8191) HT_ ?_
      refine qK 13 (some 3) (bN 16 16383) HT_ fun K hK=>?_
      refine Z0 ?hg (N:=3) ?hd (cs:=#[.slice none 0 0,.slice none 0 0]) (t:=50) ?hr ?_;(case hd=>rfl);(case hg=>rfl);(case hr=>go_simp <;> rfl)
      intro a1 hg qs hbox hb
      have τ :=Aside0.mk hbox
      have e8:=sGe hg
      have e9:=sGe hg
      have κ :=sNl B hg
      have an:=sNg B hg
      replace ai:=sRb ai hb
      replace aj:=sRb aj hb
      replace bg:=sRb bg hb
      replace bm:=sRb bm hb
      replace B:=sBk B hb
      replace HB:=sHb hb
      clear hb hbox hg
      refine hK.out _ _ ⟨qc B,qc B,qc B,qc B,qc B,qc B,qc B,qc B,qc B,qc B,qc B,qc B,qc B,qc B⟩ (fun hHeld=>?_)
      clear hK K
      refine qN (some 3) ?_
      exact Ze (by simp only[Q6,Act.put,qS]) (hCont (.slice sw br.length sx,.slice hj bs.length h7,dm,dn,a1) _ ⟨hHeld,(by(with_reducible repeat first|apply Kd.Qm|apply Kd.Ql|apply Kd.Qs);exact Kd.Qw ai.out (fun _ hk=>hk.2)),(by(with_reducible repeat first|apply Kd.Qm|apply Kd.Ql|apply Kd.Qs);exact Kd.Qw aj.out (fun _ hk=>hk.2)),(by(with_reducible repeat first|apply Kd.Qm|apply Kd.Ql|apply Kd.Qs);exact Kd.Qw bg.out (fun _ hk=>hk.2)),(by(with_reducible repeat first|apply Kd.Qm|apply Kd.Ql|apply Kd.Qs);exact Kd.Qw bm.out (fun _ hk=>hk.2)),B.out,τ.out,e8.out,e9.out,κ.out,an.out,HB.out⟩)
     ·skip
      refine Z0 ?hg (N:=3) ?hd (cs:=#[.slice none 0 0,.slice none 0 0]) (t:=50) ?hr ?_;(case hd=>rfl);(case hg=>rfl);(case hr=>go_simp <;> rfl)
      intro a1 hg xk hbox hb
      have τ :=Aside0.mk hbox
      have e8:=sGe hg
      have e9:=sGe hg
      have κ :=sNl B hg
      have an:=sNg B hg
      replace ai:=sRb ai hb
      replace aj:=sRb aj hb
      replace B:=sBk B hb
      replace HB:=sHb hb
      clear hb hbox hg
      obtain⟨hj,h7,h8⟩:=Kd.Q5 ai.out
      (first|subst h8|(injection h8 with ab ap ac;have ar:=ab.symm;have au:=ac.symm;clear ab ap ac;subst ar;subst au))
      obtain⟨mg,mh,mi⟩:=Kd.Q5 aj.out
      (first|subst mi|(injection mi with ab ap ac;have ar:=ab.symm;have au:=ac.symm;clear ab ap ac;subst ar;subst au))
      refine hK.out _ _ ⟨qc B,qc B,qc B,qc B,qc B,qc B,qc B,qc B,qc B,qc B,qc B,qc B,qc B,qc B⟩ (fun hHeld=>?_)
      clear hK K
      refine qN (some 3) ?_
      refine qK 9 (some 26) (bN 16 9215) HT_ fun K hK=>?_
      refine Q9 Try.func21 kr rfl #[.agg #[.int .i64 J,.int .i64 O,.int .i64 X,.int .i64 Y,.int .i64 Z,.int .i64 δ,.int .i64 γ,.int .i64 θ,.int .i64 η,.int .i64 ζ],.slice a8 ρ.length a9,.int .i64 ν,.agg #[.slice hj br.length h7,.slice mg bs.length mh]] (by rfl) rfl rfl qM ?_
      with_reducible refine(group_Spread.calls k J O X Y Z δ γ θ η ζ _ _ ρ ν _ _ br _ _ bs a0 a5 dd _ ?side1 ?side2 ?side3 ?side4 ?side5 ?side6 A5.out).mono ?_
      (case side1=>exact(Kd.Qv cy.out HB.out))
      (case side2=>exact cz.out)
      (case side3=>exact(Kd.Qr ai.out).2.2)
      (case side4=>exact(Kd.Qr ai.out).2.1)
      (case side5=>exact(Kd.Qr aj.out).2.2)
      (case side6=>exact(Kd.Qr aj.out).2.1)
      rintro e qs ⟨dm,dn,rfl,ak,ax,hb⟩
      refine⟨_,rfl, ?_⟩
      have bg:=Aside0.mk (Kd.Q3 (Kd.Z1 ak (Kd.Xu ai.out)) (Qh HB.out))
      have bm:=Aside0.mk (Kd.Q3 (Kd.Z1 ax (Kd.Xu aj.out)) (Qh HB.out))
      replace ai:=Aside0.mk (Kd.Zb ai.out (Kd.Zy ak) hb)
      replace aj:=Aside0.mk (Kd.Zb aj.out (Kd.Zy ax) hb)
      replace B:=sBk B hb
      replace τ :=sBk τ hb
      replace HB:=sHb hb
      (try clear hb)
      (try clear a6)
      (try clear hk)
      (try clear hi)
      (try clear ak)
      (try clear ax)
      refine hK.out _ _ ⟨qc B,qc B,qc B,qc B,qc B,qc B,qc B,qc B,qc B,qc B,qc B,qc B,qc B,qc B⟩ (fun hHeld=>?_)
      clear hK K
      refine qN (some 26) ?_
      refine qP 10 (some 16) (bN 16 10239) HT_ ?_
      refine qP 11 (some 27) (bN 16 12287) HT_ ?_
      refine qP 12 (some 28) (bN 16 16383) HT_ ?_
      exact Ze (by simp only[Q6,Act.put,qS]) (hCont (.slice hj br.length h7,.slice mg bs.length mh,dm,dn,a1) _ ⟨hHeld,(by(with_reducible repeat first|apply Kd.Qm|apply Kd.Ql|apply Kd.Qs);exact Kd.Qw ai.out (fun _ hk=>hk.2)),(by(with_reducible repeat first|apply Kd.Qm|apply Kd.Ql|apply Kd.Qs);exact Kd.Qw aj.out (fun _ hk=>hk.2)),(by(with_reducible repeat first|apply Kd.Qm|apply Kd.Ql|apply Kd.Qs);exact Kd.Qw bg.out (fun _ hk=>hk.2)),(by(with_reducible repeat first|apply Kd.Qm|apply Kd.Ql|apply Kd.Qs);exact Kd.Qw bm.out (fun _ hk=>hk.2)),B.out,τ.out,e8.out,e9.out,κ.out,an.out,HB.out⟩)
    ·skip
     refine Z0 ?hg (N:=3) ?hd (cs:=#[.slice none 0 0,.slice none 0 0]) (t:=50) ?hr ?_;(case hd=>rfl);(case hg=>rfl);(case hr=>go_simp <;> rfl)
     intro a1 hg xj hbox hb
     have τ :=Aside0.mk hbox
     have e8:=sGe hg
     have e9:=sGe hg
     have κ :=sNl B hg
     have an:=sNg B hg
     replace B:=sBk B hb
     replace HB:=sHb hb
     clear hb hbox hg
     refine hK.out _ _ ⟨qc B,qc B,qc B,qc B,qc B,qc B,qc B,qc B,qc B,qc B,qc B,qc B,qc B,qc B⟩ (fun hHeld=>?_)
     clear hK K
     refine qN (some 3) ?_
     refine qK 8 (some 25) (bN 16 8703) HT_ fun K hK=>?_
     refine Q9 Try.func15 kr rfl #[.agg #[.slice ah ι.length ae,.slice af φ.length ag]] (by rfl) rfl rfl qM ?_
     with_reducible refine(newellaw19_Own.calls _ _ ι _ _ φ br bs _ ?side1 ?side2 ?side3 ?side4 A4.out).mono ?_
     (case side1=>exact(Kd.Qv d6.out HB.out))
     (case side2=>exact fu.out)
     (case side3=>exact(Kd.Qv et.out HB.out))
     (case side4=>exact eu.out)
     rintro e xk ⟨jy,jz,rfl,ak,ax,hb⟩
     refine⟨_,rfl, ?_⟩
     have ai:=Aside0.mk (Kd.Q3 ak (Qh HB.out))
     have aj:=Aside0.mk (Kd.Q3 ax (Qh HB.out))
     replace B:=sBk B hb
     replace τ :=sBk τ hb
     replace HB:=sHb hb
     (try clear hb)
     (try clear a6)
     (try clear hk)
     (try clear hi)
     (try clear ak)
     (try clear ax)
     obtain⟨hj,h7,h8⟩:=Kd.Q5 ai.out
     (first|subst h8|(injection h8 with ab ap ac;have ar:=ab.symm;have au:=ac.symm;clear ab ap ac;subst ar;subst au))
     obtain⟨mg,mh,mi⟩:=Kd.Q5 aj.out
     (first|subst mi|(injection mi with ab ap ac;have ar:=ab.symm;have au:=ac.symm;clear ab ap ac;subst ar;subst au))
     refine hK.out _ _ ⟨qc B,qc B,qc B,qc B,qc B,qc B,qc B,qc B,qc B,qc B,qc B,qc B,qc B,qc B⟩ (fun hHeld=>?_)
     clear hK K
     refine qN (some 25) ?_
     refine qK 9 (some 26) (bN 16 9215) HT_ fun K hK=>?_
     refine Q9 Try.func21 kr rfl #[.agg #[.int .i64 J,.int .i64 O,.int .i64 X,.int .i64 Y,.int .i64 Z,.int .i64 δ,.int .i64 γ,.int .i64 θ,.int .i64 η,.int .i64 ζ],.slice a8 ρ.length a9,.int .i64 ν,.agg #[.slice hj br.length h7,.slice mg bs.length mh]] (by rfl) rfl rfl qM ?_
     with_reducible refine(group_Spread.calls k J O X Y Z δ γ θ η ζ _ _ ρ ν _ _ br _ _ bs a0 a5 dd _ ?side1 ?side2 ?side3 ?side4 ?side5 ?side6 A5.out).mono ?_
     (case side1=>exact(Kd.Qv cy.out HB.out))
     (case side2=>exact cz.out)
     (case side3=>exact(Kd.Qr ai.out).2.2)
     (case side4=>exact(Kd.Qr ai.out).2.1)
     (case side5=>exact(Kd.Qr aj.out).2.2)
     (case side6=>exact(Kd.Qr aj.out).2.1)
     rintro e qs ⟨dm,dn,rfl,ak,ax,hb⟩
     refine⟨_,rfl, ?_⟩
     have bg:=Aside0.mk (Kd.Q3 (Kd.Z1 ak (Kd.Xu ai.out)) (Qh HB.out))
     have bm:=Aside0.mk (Kd.Q3 (Kd.Z1 ax (Kd.Xu aj.out)) (Qh HB.out))
     replace ai:=Aside0.mk (Kd.Zb ai.out (Kd.Zy ak) hb)
     replace aj:=Aside0.mk (Kd.Zb aj.out (Kd.Zy ax) hb)
     replace B:=sBk B hb
     replace τ :=sBk τ hb
     replace HB:=sHb hb
     (try clear hb)
     (try clear a6)
     (try clear hk)
     (try clear hi)
     (try clear ak)
     (try clear ax)
     refine hK.out _ _ ⟨qc B,qc B,qc B,qc B,qc B,qc B,qc B,qc B,qc B,qc B,qc B,qc B,qc B,qc B⟩ (fun hHeld=>?_)
     clear hK K
     refine qN (some 26) ?_
     refine qP 10 (some 16) (bN 16 10239) HT_ ?_
     refine qP 11 (some 27) (bN 16 12287) HT_ ?_
     refine qP 12 (some 28) (bN 16 16383) HT_ ?_
     exact Ze (by simp only[Q6,Act.put,qS]) (hCont (.slice hj br.length h7,.slice mg bs.length mh,dm,dn,a1) _ ⟨hHeld,(by(with_reducible repeat first|apply Kd.Qm|apply Kd.Ql|apply Kd.Qs);exact Kd.Qw ai.out (fun _ hk=>hk.2)),(by(with_reducible repeat first|apply Kd.Qm|apply Kd.Ql|apply Kd.Qs);exact Kd.Qw aj.out (fun _ hk=>hk.2)),(by(with_reducible repeat first|apply Kd.Qm|apply Kd.Ql|apply Kd.Qs);exact Kd.Qw bg.out (fun _ hk=>hk.2)),(by(with_reducible repeat first|apply Kd.Qm|apply Kd.Ql|apply Kd.Qs);exact Kd.Qw bm.out (fun _ hk=>hk.2)),B.out,τ.out,e8.out,e9.out,κ.out,an.out,HB.out⟩)
   rintro⟨jy,jz,dm,dn,a1⟩ cf ⟨hS_,b5,b6,b7,b8,b9,bl,ch,ci,cj,ck,bh⟩
   have μ :Aside0 (Kd.R k36 36 cf w.heap.size (fun k_=>some k_≠(dm:Value).ownBlock) jy br):=⟨b5⟩
   have ξ :Aside0 (Kd.R k86 86 cf w.heap.size (fun k_=>some k_≠(dn:Value).ownBlock) jz bs):=⟨b6⟩
   have a3:Aside0 (Kd.R k36 36 cf w.heap.size (fun k_=>some k_≠(jy:Value).ownBlock) dm a0):=⟨b7⟩
   have a4:Aside0 (Kd.R k86 86 cf w.heap.size (fun k_=>some k_≠(jz:Value).ownBlock) dn a5):=⟨b8⟩
   have al:Aside0 (cf.heap[ε]?=some (.cells #[.int .i64 J,.int .i64 O,.int .i64 X,.int .i64 Y,.int .i64 Z,.int .i64 δ,.int .i64 γ,.int .i64 θ,.int .i64 η,.int .i64 ζ,.slice a8 ρ.length a9,.int .i64 ν,.slice ah ι.length ae,.slice af φ.length ag] 52 (0,0))):=⟨b9⟩
   have az:Aside0 (cf.heap[a1]?=some (.cells #[.slice none 0 0,.slice none 0 0] 50 (0,0))):=⟨bl⟩
   have b3:Aside0 (w.heap.size≤a1):=⟨ch⟩
   have bb:Aside0 (w.heap.size≤a1):=⟨ci⟩
   have bk:Aside0 (ε ≠ a1):=⟨cj⟩
   have ca:Aside0 (a1 ≠ ε):=⟨ck⟩
   have bi:Aside0 (Below w.heap.size w cf):=⟨bh⟩
   clear B
   clear HB
   clear b5 b6 b7 b8 b9 bl ch ci cj ck bh
   have ai:= μ
   have aj:= ξ
   have bg:=a3
   have bm:=a4
   have B:=al
   have τ :=az
   have e8:=b3
   have e9:=bb
   have κ :=bk
   have an:=ca
   have HB:=bi
   clear μ ξ a3 a4 al az b3 bb bk ca bi
   have hHeld:cf.cell? ⟨ε,0,none⟩=some (.int .i64 J)∧cf.cell? ⟨ε,1,none⟩=some (.int .i64 O)∧cf.cell? ⟨ε,2,none⟩=some (.int .i64 X)∧cf.cell? ⟨ε,3,none⟩=some (.int .i64 Y)∧cf.cell? ⟨ε,4,none⟩=some (.int .i64 Z)∧cf.cell? ⟨ε,5,none⟩=some (.int .i64 δ)∧cf.cell? ⟨ε,6,none⟩=some (.int .i64 γ)∧cf.cell? ⟨ε,7,none⟩=some (.int .i64 θ)∧cf.cell? ⟨ε,8,none⟩=some (.int .i64 η)∧cf.cell? ⟨ε,9,none⟩=some (.int .i64 ζ)∧cf.cell? ⟨ε,10,none⟩=some (.slice a8 ρ.length a9)∧cf.cell? ⟨ε,11,none⟩=some (.int .i64 ν)∧cf.cell? ⟨ε,12,none⟩=some (.slice ah ι.length ae)∧cf.cell? ⟨ε,13,none⟩=some (.slice af φ.length ag):=hS_
   obtain⟨t0,t1,t2⟩:=Kd.Q5 bg.out
   (first|subst t2|(injection t2 with ab ap ac;have ar:=ab.symm;have au:=ac.symm;clear ab ap ac;subst ar;subst au))
   obtain⟨vq,vr,t3⟩:=Kd.Q5 bm.out
   (first|subst t3|(injection t3 with ab ap ac;have ar:=ab.symm;have au:=ac.symm;clear ab ap ac;subst ar;subst au))
   refine Ze (a':=?_) ?_ ?_
   rotate_left
   ·simp only[Q6,Act.put,qS]
    rfl
   refine qK 14 (none) (bN 16 32767) HT_ fun K hK=>?_
   have zd:cf.cell? ⟨a1,0,none⟩=some (.slice none 0 0):=(Qa τ.out 0).trans rfl
   have z5:=Qb τ.out 0
   have xl:= κ.out
   have xm:=an.out
   have ze:cf.cell? ⟨a1,1,none⟩=some (.slice none 0 0):=(Qa τ.out 1).trans rfl
   have z6:=Qb τ.out 1
   have xn:= κ.out
   have xo:=an.out
   refine Kq (w1:=?_) (by rfl) rfl ?_ ?_
   rotate_left
   ·go_simp
    rfl
   refine hK.out _ _ ⟨((cell_far (p:=⟨a1,_,none⟩) κ.out _).trans (((cell_far (p:=⟨a1,_,none⟩) κ.out _).trans (hHeld.1)))),((cell_far (p:=⟨a1,_,none⟩) κ.out _).trans (((cell_far (p:=⟨a1,_,none⟩) κ.out _).trans (hHeld.2.1)))),((cell_far (p:=⟨a1,_,none⟩) κ.out _).trans (((cell_far (p:=⟨a1,_,none⟩) κ.out _).trans (hHeld.2.2.1)))),((cell_far (p:=⟨a1,_,none⟩) κ.out _).trans (((cell_far (p:=⟨a1,_,none⟩) κ.out _).trans (hHeld.2.2.2.1)))),((cell_far (p:=⟨a1,_,none⟩) κ.out _).trans (((cell_far (p:=⟨a1,_,none⟩) κ.out _).trans (hHeld.2.2.2.2.1)))),((cell_far (p:=⟨a1,_,none⟩) κ.out _).trans (((cell_far (p:=⟨a1,_,none⟩) κ.out _).trans (hHeld.2.2.2.2.2.1)))),((cell_far (p:=⟨a1,_,none⟩) κ.out _).trans (((cell_far (p:=⟨a1,_,none⟩) κ.out _).trans (hHeld.2.2.2.2.2.2.1)))),((cell_far (p:=⟨a1,_,none⟩) κ.out _).trans (((cell_far (p:=⟨a1,_,none⟩) κ.out _).trans (hHeld.2.2.2.2.2.2.2.1)))),((cell_far (p:=⟨a1,_,none⟩) κ.out _).trans (((cell_far (p:=⟨a1,_,none⟩) κ.out _).trans (hHeld.2.2.2.2.2.2.2.2.1)))),((cell_far (p:=⟨a1,_,none⟩) κ.out _).trans (((cell_far (p:=⟨a1,_,none⟩) κ.out _).trans (hHeld.2.2.2.2.2.2.2.2.2.1)))),((cell_far (p:=⟨a1,_,none⟩) κ.out _).trans (((cell_far (p:=⟨a1,_,none⟩) κ.out _).trans (hHeld.2.2.2.2.2.2.2.2.2.2.1)))),((cell_far (p:=⟨a1,_,none⟩) κ.out _).trans (((cell_far (p:=⟨a1,_,none⟩) κ.out _).trans (hHeld.2.2.2.2.2.2.2.2.2.2.2.1)))),((cell_far (p:=⟨a1,_,none⟩) κ.out _).trans (((cell_far (p:=⟨a1,_,none⟩) κ.out _).trans (hHeld.2.2.2.2.2.2.2.2.2.2.2.2.1)))),((cell_far (p:=⟨a1,_,none⟩) κ.out _).trans (((cell_far (p:=⟨a1,_,none⟩) κ.out _).trans (hHeld.2.2.2.2.2.2.2.2.2.2.2.2.2))))⟩ (fun hHeld=>?_)
   clear hK K
   refine qP 15 (some 4) (bN 16 65535) HT_ ?_
   refine Z2 (Zf HT_.out kr) ?_
   try go_wp2_with (first|((with_reducible refine Qp (f:=9) rfl ?_);refine Q4 (some 31) rfl rfl Try.func9 kr rfl #[] rfl qM ?_;(with_reducible refine(newellaw21_awake.calls k  fz _ wx.out).mono ?_);rintro e zp ⟨rfl,hb⟩;refine⟨_,rfl, ?_⟩;replace ai:=Aside0.mk (Kd.Za (by(with_reducible repeat first|apply Kd.Qm|apply Kd.Ql|apply Kd.Qs);exact(Kd.Qw (Kd.Qz (Kd.Qz (Kd.Q7 ai.out τ.out (by decide)) (fun _ hk=>hk.2) _) (fun _ hk=>hk.2) _) (fun _ h_=>h_.1))) hb);replace aj:=Aside0.mk (Kd.Za (by(with_reducible repeat first|apply Kd.Qm|apply Kd.Ql|apply Kd.Qs);exact(Kd.Qw (Kd.Qz (Kd.Qz (Kd.Q7 aj.out τ.out (by decide)) (fun _ hk=>hk.2) _) (fun _ hk=>hk.2) _) (fun _ h_=>h_.1))) hb);replace bg:=Aside0.mk (Kd.Za (by(with_reducible repeat first|apply Kd.Qm|apply Kd.Ql|apply Kd.Qs);exact(Kd.Qw (Kd.Qz (Kd.Qz (Kd.Q7 bg.out τ.out (by decide)) (fun _ hk=>hk.2) _) (fun _ hk=>hk.2) _) (fun _ h_=>h_.1))) hb);replace bm:=Aside0.mk (Kd.Za (by(with_reducible repeat first|apply Kd.Qm|apply Kd.Ql|apply Kd.Qs);exact(Kd.Qw (Kd.Qz (Kd.Qz (Kd.Q7 bm.out τ.out (by decide)) (fun _ hk=>hk.2) _) (fun _ hk=>hk.2) _) (fun _ h_=>h_.1))) hb);replace B:=sBk B hb;replace τ :=Aside0.mk (Qy (g:=a1) (o:=.cells #[.slice t0 a0.length t1,.slice vq a5.length vr] 50 (0,0)) (by refine Qq (cs:=#[.slice t0 a0.length t1,.slice none 0 0]) ?_ 1 _ rfl;refine Qq (cs:=#[.slice none 0 0,.slice none 0 0]) ?_ 0 _ rfl;exact τ.out) hb);replace HB:=sHb hb;(try clear hb);(try clear a6);(try clear hk);(try clear hi)))
   go_ret
   exact⟨rfl,HB.out⟩
 ·replace c3:=Bool.eq_false_iff.mpr c3
  subst c3
  have H1:((newellaw21_awake.f k).bind fun j3=>(some j3))=some r:=by rw[if_neg (show ¬ (false=true) by decide)] at H;exact H
  clear H
  have H:=H1
  clear H1
  replace H:=Option.bind_eq_some_iff.mp H
  obtain⟨j3,t4,H⟩:=H
  replace H:(some j3)=some r:=H
  have xp:=Aside0.mk t4
  clear t4
  obtain rfl:=Option.some.inj H
  go_enter Try.func8,Try.ntmps8
  go_wp2_with (first|((with_reducible refine Qf (N:=1) rfl ?_);refine qE 1 #[.int .i64 J,.int .i64 O,.int .i64 X,.int .i64 Y,.int .i64 Z,.int .i64 δ,.int .i64 γ,.int .i64 θ,.int .i64 η,.int .i64 ζ,.slice a8 ρ.length a9,.int .i64 ν,.slice ah ι.length ae,.slice af φ.length ag] 52 ?_;intro ε hg ge hbox hb;have B:=Aside0.mk hbox;have sp:=sGe hg;have sq:=sGe hg;replace HB:=sHb hb;clear hb hbox hg;have xq:ge.cell? ⟨ε,0,none⟩=some (.int .i64 J):=(Qa B.out 0).trans rfl;have xr:ge.cell? ⟨ε,1,none⟩=some (.int .i64 O):=(Qa B.out 1).trans rfl;have xt:ge.cell? ⟨ε,2,none⟩=some (.int .i64 X):=(Qa B.out 2).trans rfl;have xu:ge.cell? ⟨ε,3,none⟩=some (.int .i64 Y):=(Qa B.out 3).trans rfl;have xv:ge.cell? ⟨ε,4,none⟩=some (.int .i64 Z):=(Qa B.out 4).trans rfl;have xw:ge.cell? ⟨ε,5,none⟩=some (.int .i64 δ):=(Qa B.out 5).trans rfl;have xx:ge.cell? ⟨ε,6,none⟩=some (.int .i64 γ):=(Qa B.out 6).trans rfl;have xy:ge.cell? ⟨ε,7,none⟩=some (.int .i64 θ):=(Qa B.out 7).trans rfl;have xz:ge.cell? ⟨ε,8,none⟩=some (.int .i64 η):=(Qa B.out 8).trans rfl;have y0:ge.cell? ⟨ε,9,none⟩=some (.int .i64 ζ):=(Qa B.out 9).trans rfl;have wb:ge.cell? ⟨ε,10,none⟩=some (.slice a8 ρ.length a9):=(Qa B.out 10).trans rfl;have wd:ge.cell? ⟨ε,11,none⟩=some (.int .i64 ν):=(Qa B.out 11).trans rfl;have we:ge.cell? ⟨ε,12,none⟩=some (.slice ah ι.length ae):=(Qa B.out 12).trans rfl;have wg:ge.cell? ⟨ε,13,none⟩=some (.slice af φ.length ag):=(Qa B.out 13).trans rfl;have y1:=Qb B.out 0;have y2:=Qb B.out 1;have y3:=Qb B.out 2;have y4:=Qb B.out 3;have y5:=Qb B.out 4;have y6:=Qb B.out 5;have y7:=Qb B.out 6;have y8:=Qb B.out 7;have y9:=Qb B.out 8;have ya:=Qb B.out 9;have wh:=Qb B.out 10;have wi:=Qb B.out 11;have wj:=Qb B.out 12;have wk:=Qb B.out 13)|((with_reducible refine Qp (f:=13) rfl ?_);refine Q4 (some 13) rfl rfl Try.func13 kr rfl #[.agg #[.int .i64 J,.int .i64 O,.int .i64 X,.int .i64 Y,.int .i64 Z,.int .i64 δ,.int .i64 γ,.int .i64 θ,.int .i64 η,.int .i64 ζ,.slice a8 ρ.length a9,.int .i64 ν,.slice ah ι.length ae,.slice af φ.length ag]] rfl qM ?_;(with_reducible refine(newellaw21_few.calls J O X Y Z δ γ θ η ζ _ _ ρ ν _ _ ι _ _ φ false _ ?side1 ?side2 ?side3 ?side4 ?side5 ?side6 A2.out).mono ?_);(case side1=>exact(Kd.Qv cy.out HB.out));(case side2=>exact cz.out);(case side3=>exact(Kd.Qv d6.out HB.out));(case side4=>exact fu.out);(case side5=>exact(Kd.Qv et.out HB.out));(case side6=>exact eu.out);rintro e zq ⟨rfl,hb⟩;refine⟨_,rfl, ?_⟩;replace B:=sBk B hb;replace HB:=sHb hb;(try clear hb);(try clear a6);(try clear hk);(try clear hi))|((with_reducible refine Qp (f:=9) rfl ?_);refine Q4 (some 15) rfl rfl Try.func9 kr rfl #[] rfl qM ?_;(with_reducible refine(newellaw21_awake.calls k  j3 _ xp.out).mono ?_);rintro e zr ⟨rfl,hb⟩;refine⟨_,rfl, ?_⟩;replace B:=sBk B hb;replace HB:=sHb hb;(try clear hb);(try clear a6);(try clear hk);(try clear hi)))
  go_ret
  exact⟨rfl,HB.out⟩
end Go.Proofs.Ytmfffemidlhcpaa.C
