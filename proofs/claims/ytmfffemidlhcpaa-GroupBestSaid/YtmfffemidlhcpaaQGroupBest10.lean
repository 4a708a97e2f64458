/- Texts of this claim, one behind the other: what the law's functions come to, walked (printed by a program, with the words that the print uses), and what that is, in plain Lean. No conditions of their own. -/
import Derived.Test.YtmfffemidlhcpaaQGroupBest9
namespace Go.Proofs.Ytmfffemidlhcpaa.C
open Go.RowKit Go.Proofs.YtmfffemidlhcpaaW.PrintWords Go.Proofs.YtmfffemidlhcpaaW.PrintLast Go.Proofs.YtmfffemidlhcpaaW.PrintMore
attribute [local go_sem] Z3 Z1 Xg Xf Zt Zs Z2 Z0
set_option linter.unusedVariables false
set_option linter.unusedSimpArgs false
mutual
def newellaw21_GroupBest.j0:Nat→Int→Bool→Int→Int→Int→Int→Int→Int→Int→Int→Int→Int→List (S31)→Int→List (S36)→List (S86)→Int→Int→Int→Option (Bool)
 |0,_,_,_,_,_,_,_,_,_,_,_,_,_,_,_,_,_,_,_=>none
 |k+1,X,O,J,Y,γ,δ,ε,ζ,η,θ,ι,κ,B,μ,ν,ξ,ρ,σ,τ =>if O=true then ((newellaw21_awake.f k).bind fun k8=>(some k8)) else (if X≥(B.length:Int) then (none) else ((newellaw19_Own.f ν ξ).bind fun jq=>((call_View.f k J (B.length:Int) jq.1 jq.2 X).bind fun dv=>(if 0≤X then (if X<(B.length:Int) then ((group_Cost.f k J Y γ δ ε ζ η θ ι κ ((Qb B X).f0.f0) ((Qb B X).f0.f1) ((Qb B X).f0.f2) ((Qb B X).f0.f3) ((Qb B X).f0.f4.f0) ((Qb B X).f0.f4.f1) ((Qb B X).f0.f4.f2) ((Qb B X).f1) ((Qb B X).f2) ((Qb B X).f3) dv.1 dv.2.1 dv.2.2.1 ρ σ τ).bind fun ei=>(if dv.2.2.2=0 then (if ei.2=0 then (if 0≤(IntKind.u64.wrap (X)) then (newellaw21_GroupBest.j1 k X ei.1 ((Go.bits .and .i64 (shr .i64 μ (IntKind.u64.wrap (X))) 1)==1) J Y γ δ ε ζ η θ ι κ B μ ν ξ ρ σ τ J (B.length:Int)) else (none)) else (none)) else (none))) else (none)) else (none)))))
def newellaw21_GroupBest.j1:Nat→Int→Int→Bool→Int→Int→Int→Int→Int→Int→Int→Int→Int→Int→List (S31)→Int→List (S36)→List (S86)→Int→Int→Int→Int→Int→Option (Bool)
 |0,_,_,_,_,_,_,_,_,_,_,_,_,_,_,_,_,_,_,_,_,_,_=>none
 |k+1,X,O,Z,J,Y,γ,δ,ε,ζ,η,θ,ι,κ,B,μ,ν,ξ,ρ,σ,τ,φ,χ =>if Z=true then (none) else (newellaw21_GroupBest.l0 k X O 0 J Y γ δ ε ζ η θ ι κ B μ ν ξ ρ σ τ φ χ)
def newellaw21_GroupBest.l0:Nat→Int→Int→Int→Int→Int→Int→Int→Int→Int→Int→Int→Int→Int→List (S31)→Int→List (S36)→List (S86)→Int→Int→Int→Int→Int→Option (Bool)
 |0,_,_,_,_,_,_,_,_,_,_,_,_,_,_,_,_,_,_,_,_,_,_=>none
 |k+1,X,O,Z,J,Y,γ,δ,ε,ζ,η,θ,ι,κ,B,μ,ν,ξ,ρ,σ,τ,φ,χ =>if Z<(B.length:Int) then ((newellaw19_Own.f ν ξ).bind fun ψ =>((call_View.f k φ χ ψ.1 ψ.2 Z).bind fun gy=>(if 0≤Z then ((group_Cost.f k J Y γ δ ε ζ η θ ι κ ((Qb B Z).f0.f0) ((Qb B Z).f0.f1) ((Qb B Z).f0.f2) ((Qb B Z).f0.f3) ((Qb B Z).f0.f4.f0) ((Qb B Z).f0.f4.f1) ((Qb B Z).f0.f4.f2) ((Qb B Z).f1) ((Qb B Z).f2) ((Qb B Z).f3) gy.1 gy.2.1 gy.2.2.1 ρ σ τ).bind fun gg=>(if 0≤(IntKind.u64.wrap (Z)) then (if (Go.bits .and .i64 (shr .i64 μ (IntKind.u64.wrap (Z))) 1)=0 then (if gg.1<O then (none) else (if gg.1=O then (newellaw21_GroupBest.j3 k X O Z (decide (Z<X)) J Y γ δ ε ζ η θ ι κ B μ ν ξ ρ σ τ φ χ) else (newellaw21_GroupBest.j3 k X O Z false J Y γ δ ε ζ η θ ι κ B μ ν ξ ρ σ τ φ χ))) else (newellaw21_GroupBest.j3 k X O Z false J Y γ δ ε ζ η θ ι κ B μ ν ξ ρ σ τ φ χ)) else (none))) else (none)))) else ((newellaw21_awake.f k).bind fun n2=>(some n2))
def newellaw21_GroupBest.j3:Nat→Int→Int→Int→Bool→Int→Int→Int→Int→Int→Int→Int→Int→Int→Int→List (S31)→Int→List (S36)→List (S86)→Int→Int→Int→Int→Int→Option (Bool)
 |0,_,_,_,_,_,_,_,_,_,_,_,_,_,_,_,_,_,_,_,_,_,_,_=>none
 |k+1,X,O,Z,ψ,J,Y,γ,δ,ε,ζ,η,θ,ι,κ,B,μ,ν,ξ,ρ,σ,τ,φ,χ =>if ψ = true then (none) else (newellaw21_GroupBest.l0 k X O (wrap64 (Z+1)) J Y γ δ ε ζ η θ ι κ B μ ν ξ ρ σ τ φ χ)
end
def newellaw21_GroupBest.f (k:Nat) (J:Int) (O:Int) (X:Int) (Y:Int) (Z:Int) (δ :Int) (γ:Int) (ι :Int) (θ :Int) (η :Int) (μ :List (S31)) (a4:Int) (ω :List (S36)) (a0:List (S86)) (ζ :Int) (ε :Int) (κ :Int):Option (Bool):=(newellaw21_few.f J O X Y Z δ γ ι θ η μ a4 ω a0).bind fun k9=>(if k9=true then ((newellaw19_Own.f ω a0).bind fun ej=>((group_Pick.f k J O X Y Z δ γ ι θ η μ a4 ej.1 ej.2 ζ ε κ).bind fun ck=>(if ck.2=0 then (newellaw21_GroupBest.j0 k ck.1 (decide (ck.1<0)) J O X Y Z δ γ ι θ η μ a4 ω a0 ζ ε κ) else (newellaw21_GroupBest.j0 k ck.1 true J O X Y Z δ γ ι θ η μ a4 ω a0 ζ ε κ)))) else ((newellaw21_awake.f k).bind fun gm=>(some gm)))
def newellaw21_GroupBest.T3:Bool×List (List Nat×List Nat):=(true,[([],[]),([0],[0]),([],[]),([2],[2]),([],[]),([4],[4]),([],[]),([6],[6]),([7],[7]),([],[]),([1,3,5,8,9,8],[1,3,5,8,9]),([10],[10]),([11],[11]),([11],[11]),([12,10,0,1,2,3,4,5,6,7,8,9,10,11,12],[12]),([13,14,0,1,2,3,4,5,6,7,8,9,10,11,12,13,14],[13])])
def newellaw21_GroupBest.B3:List Nat:=[0,1,0,4,0,16,0,64,192,0,1023,2047,4095,4095,8191,32767]
theorem newellaw21_GroupBest.Dd:rtab .any (opsOf Try.f6 3)=newellaw21_GroupBest.T3:=by kernel_rfl
theorem newellaw21_GroupBest.Ns:Zk newellaw21_GroupBest.T3.2 newellaw21_GroupBest.B3=true:=by kernel_rfl
def newellaw21_GroupBest.T9:Bool×List (List Nat×List Nat):=(true,[([],[]),([],[]),([1],[1]),([2],[2]),([],[]),([0,3,4,3],[0,3,4]),([5],[5]),([6],[6]),([6],[6]),([],[]),([9,7,5,0,1,2,3,4,5,6,7,9],[7,9]),([8,10,0,1,2,3,4,5,6,7,8,9,10],[8])])
def newellaw21_GroupBest.B9:List Nat:=[0,0,2,6,0,31,63,127,127,0,767,2047]
theorem newellaw21_GroupBest.tab9:rtab .any (opsOf Try.f6 9)=newellaw21_GroupBest.T9:=by kernel_rfl
theorem newellaw21_GroupBest.bits9:Zk newellaw21_GroupBest.T9.2 newellaw21_GroupBest.B9=true:=by kernel_rfl
def newellaw21_GroupBest.T10:Bool×List (List Nat×List Nat):=(true,[([],[]),([0],[0]),([],[]),([2],[2]),([],[]),([3,4],[3,4]),([5],[5]),([],[]),([],[]),([1,6,7,8],[1,6,7,8]),([9],[9]),([10],[10]),([10],[10]),([11,9,0,1,2,3,4,5,6,7,8,9,10,11],[11]),([12,13,0,1,2,3,4,5,6,7,8,9,10,11,12,13],[12])])
def newellaw21_GroupBest.B10:List Nat:=[0,1,0,4,0,28,60,0,0,511,1023,2047,2047,4095,16383]
theorem newellaw21_GroupBest.tab10:rtab .any (opsOf Try.f6 10)=newellaw21_GroupBest.T10:=by kernel_rfl
theorem newellaw21_GroupBest.Dn:Zk newellaw21_GroupBest.T10.2 newellaw21_GroupBest.B10=true:=by kernel_rfl
def newellaw21_GroupBest.T16:Bool×List (List Nat×List Nat):=(true,[([],[]),([],[]),([1],[1]),([2],[2]),([],[]),([0,3,4,3],[0,3,4]),([5],[5]),([6],[6]),([6],[6]),([],[]),([9,7,5,0,1,2,3,4,5,6,7,9],[7,9]),([8,10,0,1,2,3,4,5,6,7,8,9,10],[8])])
def newellaw21_GroupBest.B16:List Nat:=[0,0,2,6,0,31,63,127,127,0,767,2047]
theorem newellaw21_GroupBest.tab16:rtab .any (opsOf Try.f6 16)=newellaw21_GroupBest.T16:=by kernel_rfl
theorem newellaw21_GroupBest.Dl:Zk newellaw21_GroupBest.T16.2 newellaw21_GroupBest.B16=true:=by kernel_rfl
def newellaw21_GroupBest.T17:Bool×List (List Nat×List Nat):=(true,[([],[]),([0],[0]),([],[]),([2],[2]),([],[]),([3,4],[3,4]),([5],[5]),([],[]),([],[]),([1,6,7,8],[1,6,7,8]),([9],[9]),([10],[10]),([10],[10]),([11,9,0,1,2,3,4,5,6,7,8,9,10,11],[11]),([12,13,0,1,2,3,4,5,6,7,8,9,10,11,12,13],[12])])
def newellaw21_GroupBest.B17:List Nat:=[0,1,0,4,0,28,60,0,0,511,1023,2047,2047,4095,16383]
theorem newellaw21_GroupBest.tab17:rtab .any (opsOf Try.f6 17)=newellaw21_GroupBest.T17:=by kernel_rfl
theorem newellaw21_GroupBest.Dk:Zk newellaw21_GroupBest.T17.2 newellaw21_GroupBest.B17=true:=by kernel_rfl
set_option maxHeartbeats 8000000 in
set_option maxRecDepth 100000 in
theorem newellaw21_GroupBest.calls (k:Nat) (J:Int) (O:Int) (X:Int) (Y:Int) (Z:Int) (δ :Int) (γ:Int) (ι :Int) (θ :Int) (η :Int) (b9:Option Addr) (ar:Nat) (μ :List (S31)) (a4:Int) (ag:Option Addr) (ah:Nat) (ω :List (S36)) (ai:Option Addr) (aj:Nat) (a0:List (S86)) (ζ :Int) (ε :Int) (κ :Int) (r:Bool) (w:World) (h6:Kd.C k31 w b9 μ.length μ) (h7: μ.length≤ar) (h8:Kd.C k36 w ag ω.length ω) (h9: ω.length≤ah) (ha:Kd.C k86 w ai a0.length a0) (he:a0.length≤aj) (h:newellaw21_GroupBest.f k J O X Y Z δ γ ι θ η μ a4 ω a0 ζ ε κ = some r):
  Calls Try.prog 6 #[.agg #[.int .i64 J,.int .i64 O,.int .i64 X,.int .i64 Y,.int .i64 Z,.int .i64 δ,.int .i64 γ,.int .i64 ι,.int .i64 θ,.int .i64 η,.slice b9 μ.length ar,.int .i64 a4,.slice ag ω.length ah,.slice ai a0.length aj],.agg #[.int .i64 ζ,.int .i64 ε,.int .i64 κ]] w fun e w'=>e = .returned (.bool r)∧Below w.heap.size w w':=by
 have tl:=Try.underlying52
 have e4:=Try.underlying36
 have e5:=Try.underlying25
 have ed:=Try.underlying50
 have jf:=Try.underlying59
 have ki:=Try.underlying34
 have jc:=Try.underlying31
 have gp:=Aside0.mk h6
 have jm:=Aside0.mk h7
 clear h6 h7
 have ee:=Aside0.mk h8
 have ef:=Aside0.mk h9
 clear h8 h9
 have eg:=Aside0.mk ha
 have eh:=Aside0.mk he
 clear ha he
 have HB:=Aside0.mk (Below.refl w.heap.size w)
 have H:((newellaw21_few.f J O X Y Z δ γ ι θ η μ a4 ω a0).bind fun k9=>(if k9=true then ((newellaw19_Own.f ω a0).bind fun ej=>((group_Pick.f k J O X Y Z δ γ ι θ η μ a4 ej.1 ej.2 ζ ε κ).bind fun ck=>(if ck.2=0 then (newellaw21_GroupBest.j0 k ck.1 (decide (ck.1<0)) J O X Y Z δ γ ι θ η μ a4 ω a0 ζ ε κ) else (newellaw21_GroupBest.j0 k ck.1 true J O X Y Z δ γ ι θ η μ a4 ω a0 ζ ε κ)))) else ((newellaw21_awake.f k).bind fun gm=>(some gm))))=some r:=h
 clear h
 replace H:=Option.bind_eq_some_iff.mp H
 obtain⟨k9,d1,H⟩:=H
 replace H:(if k9=true then ((newellaw19_Own.f ω a0).bind fun ej=>((group_Pick.f k J O X Y Z δ γ ι θ η μ a4 ej.1 ej.2 ζ ε κ).bind fun ck=>(if ck.2=0 then (newellaw21_GroupBest.j0 k ck.1 (decide (ck.1<0)) J O X Y Z δ γ ι θ η μ a4 ω a0 ζ ε κ) else (newellaw21_GroupBest.j0 k ck.1 true J O X Y Z δ γ ι θ η μ a4 ω a0 ζ ε κ)))) else ((newellaw21_awake.f k).bind fun gm=>(some gm)))=some r:=H
 have A3:=Aside0.mk d1
 clear d1
 by_cases c4:k9=true
 ·subst c4
  have H1:((newellaw19_Own.f ω a0).bind fun ej=>((group_Pick.f k J O X Y Z δ γ ι θ η μ a4 ej.1 ej.2 ζ ε κ).bind fun ck=>(if ck.2=0 then (newellaw21_GroupBest.j0 k ck.1 (decide (ck.1<0)) J O X Y Z δ γ ι θ η μ a4 ω a0 ζ ε κ) else (newellaw21_GroupBest.j0 k ck.1 true J O X Y Z δ γ ι θ η μ a4 ω a0 ζ ε κ))))=some r:=by rw[if_pos rfl] at H;exact H
  clear H
  have H:=H1
  clear H1
  replace H:=Option.bind_eq_some_iff.mp H
  obtain⟨⟨n3,na⟩,d7,H⟩:=H
  replace H:((group_Pick.f k J O X Y Z δ γ ι θ η μ a4 n3 na ζ ε κ).bind fun ck=>(if ck.2=0 then (newellaw21_GroupBest.j0 k ck.1 (decide (ck.1<0)) J O X Y Z δ γ ι θ η μ a4 ω a0 ζ ε κ) else (newellaw21_GroupBest.j0 k ck.1 true J O X Y Z δ γ ι θ η μ a4 ω a0 ζ ε κ)))=some r:=H
  have A5:=Aside0.mk d7
  clear d7
  replace H:=Option.bind_eq_some_iff.mp H
  obtain⟨⟨ψ,jj⟩,d0,H⟩:=H
  replace H:(if jj=0 then (newellaw21_GroupBest.j0 k ψ (decide (ψ < 0)) J O X Y Z δ γ ι θ η μ a4 ω a0 ζ ε κ) else (newellaw21_GroupBest.j0 k ψ true J O X Y Z δ γ ι θ η μ a4 ω a0 ζ ε κ))=some r:=H
  have A6:=Aside0.mk d0
  clear d0
  have r2:=Aside0.mk H
  clear H
  go_enter Try.func6,Try.ntmps6
  try go_wp2_with (first|((with_reducible refine Qf (N:=2) rfl ?_);refine qE 2 #[.int .i64 J,.int .i64 O,.int .i64 X,.int .i64 Y,.int .i64 Z,.int .i64 δ,.int .i64 γ,.int .i64 ι,.int .i64 θ,.int .i64 η,.slice b9 μ.length ar,.int .i64 a4,.slice ag ω.length ah,.slice ai a0.length aj] 52 ?_;intro ν hg w8 hbox hb;have B:=Aside0.mk hbox;have sp:=sGe hg;have sq:=sGe hg;replace HB:=sHb hb;clear hb hbox hg)|((with_reducible refine Qf (N:=3) rfl ?_);refine qE 3 #[.int .i64 ζ,.int .i64 ε,.int .i64 κ] 36 ?_;intro b5 hg w9 hbox hb;have τ :=Aside0.mk hbox;have sr:=sGe hg;have ss:=sGe hg;have d9:=sNl B hg;have da:=sNg B hg;replace B:=sBk B hb;replace HB:=sHb hb;clear hb hbox hg;have jk:=d9.out;have jl:=da.out;have dq:w9.cell? ⟨ν,0,none⟩=some (.int .i64 J):=(Qa B.out 0).trans rfl;have dr:w9.cell? ⟨ν,1,none⟩=some (.int .i64 O):=(Qa B.out 1).trans rfl;have e0:w9.cell? ⟨ν,2,none⟩=some (.int .i64 X):=(Qa B.out 2).trans rfl;have fb:w9.cell? ⟨ν,3,none⟩=some (.int .i64 Y):=(Qa B.out 3).trans rfl;have fc:w9.cell? ⟨ν,4,none⟩=some (.int .i64 Z):=(Qa B.out 4).trans rfl;have fe:w9.cell? ⟨ν,5,none⟩=some (.int .i64 δ):=(Qa B.out 5).trans rfl;have ff:w9.cell? ⟨ν,6,none⟩=some (.int .i64 γ):=(Qa B.out 6).trans rfl;have fg:w9.cell? ⟨ν,7,none⟩=some (.int .i64 ι):=(Qa B.out 7).trans rfl;have k4:w9.cell? ⟨ν,8,none⟩=some (.int .i64 θ):=(Qa B.out 8).trans rfl;have k5:w9.cell? ⟨ν,9,none⟩=some (.int .i64 η):=(Qa B.out 9).trans rfl;have oi:w9.cell? ⟨ν,10,none⟩=some (.slice b9 μ.length ar):=(Qa B.out 10).trans rfl;have oj:w9.cell? ⟨ν,11,none⟩=some (.int .i64 a4):=(Qa B.out 11).trans rfl;have ol:w9.cell? ⟨ν,12,none⟩=some (.slice ag ω.length ah):=(Qa B.out 12).trans rfl;have om:w9.cell? ⟨ν,13,none⟩=some (.slice ai a0.length aj):=(Qa B.out 13).trans rfl;have dt:=Qc B.out 0;have du:=Qc B.out 1;have e3:=Qc B.out 2;have fh:=Qc B.out 3;have fi:=Qc B.out 4;have fj:=Qc B.out 5;have fk:=Qc B.out 6;have fl:=Qc B.out 7;have k6:=Qc B.out 8;have k7:=Qc B.out 9;have oo:=Qc B.out 10;have oq:=Qc B.out 11;have ot:=Qc B.out 12;have ou:=Qc B.out 13)|((with_reducible refine Qo (f:=13) rfl ?_);refine Q6 (some 18) rfl rfl Try.func13 kr rfl #[.agg #[.int .i64 J,.int .i64 O,.int .i64 X,.int .i64 Y,.int .i64 Z,.int .i64 δ,.int .i64 γ,.int .i64 ι,.int .i64 θ,.int .i64 η,.slice b9 μ.length ar,.int .i64 a4,.slice ag ω.length ah,.slice ai a0.length aj]] rfl qM ?_;(with_reducible refine(newellaw21_few.calls J O X Y Z δ γ ι θ η _ _ μ a4 _ _ ω _ _ a0 true _ ?side1 ?side2 ?side3 ?side4 ?side5 ?side6 A3.out).mono ?_);(case side1=>exact(Kd.Qy gp.out HB.out));(case side2=>exact jm.out);(case side3=>exact(Kd.Qy ee.out HB.out));(case side4=>exact ef.out);(case side5=>exact(Kd.Qy eg.out HB.out));(case side6=>exact eh.out);rintro e fy ⟨rfl,hb⟩;refine⟨_,rfl, ?_⟩;replace B:=sBk B hb;replace τ :=sBk τ hb;replace HB:=sHb hb;(try clear hb);(try clear ac);(try clear hk);(try clear hi)))
  replace B:=Aside0.mk (Qe B.out)
  replace τ :=Aside0.mk (Qe τ.out)
  replace HB:=Aside0.mk (Qg HB.out)
  refine Zi (n:=16) (S:=fun w'=>w'.cell? ⟨ν,0,none⟩=some (.int .i64 J)∧w'.cell? ⟨ν,1,none⟩=some (.int .i64 O)∧w'.cell? ⟨ν,2,none⟩=some (.int .i64 X)∧w'.cell? ⟨ν,3,none⟩=some (.int .i64 Y)∧w'.cell? ⟨ν,4,none⟩=some (.int .i64 Z)∧w'.cell? ⟨ν,5,none⟩=some (.int .i64 δ)∧w'.cell? ⟨ν,6,none⟩=some (.int .i64 γ)∧w'.cell? ⟨ν,7,none⟩=some (.int .i64 ι)∧w'.cell? ⟨ν,8,none⟩=some (.int .i64 θ)∧w'.cell? ⟨ν,9,none⟩=some (.int .i64 η)∧w'.cell? ⟨ν,10,none⟩=some (.slice b9 μ.length ar)∧w'.cell? ⟨ν,11,none⟩=some (.int .i64 a4)∧w'.cell? ⟨ν,12,none⟩=some (.slice ag ω.length ah)∧w'.cell? ⟨ν,13,none⟩=some (.slice ai a0.length aj)∧w'.cell? ⟨b5,0,none⟩=some (.int .i64 ζ)∧w'.cell? ⟨b5,1,none⟩=some (.int .i64 ε)∧w'.cell? ⟨b5,2,none⟩=some (.int .i64 κ)) (ds:=[]) #[false,false,false,false,false,false,false,false,false,false,false,false,false,false,false,false] kr rfl rfl ⟨(Qa B.out 0).trans rfl,(Qa B.out 1).trans rfl,(Qa B.out 2).trans rfl,(Qa B.out 3).trans rfl,(Qa B.out 4).trans rfl,(Qa B.out 5).trans rfl,(Qa B.out 6).trans rfl,(Qa B.out 7).trans rfl,(Qa B.out 8).trans rfl,(Qa B.out 9).trans rfl,(Qa B.out 10).trans rfl,(Qa B.out 11).trans rfl,(Qa B.out 12).trans rfl,(Qa B.out 13).trans rfl,(Qa τ.out 0).trans rfl,(Qa τ.out 1).trans rfl,(Qa τ.out 2).trans rfl⟩ (fun hHeld=>?_);refine Q9 newellaw21_GroupBest.Dd newellaw21_GroupBest.Ns (fun HT_ HW_=>?_)
  generalize fy.drew=fx at B τ HB hHeld ⊢
  refine qP 0 (some 22) (bN 16 1) HT_ ?_
  refine qP 2 (some 24) (bN 16 5) HT_ ?_
  refine qP 4 (some 26) (bN 16 21) HT_ ?_
  refine qP 6 (some 28) (bN 16 85) HT_ ?_
  refine qT 1 (some 23) (bN 16 87) HT_ HW_ hHeld ?_
  refine qT 3 (some 25) (bN 16 95) HT_ HW_ hHeld ?_
  refine qT 5 (some 27) (bN 16 127) HT_ HW_ hHeld ?_
  refine qT 7 (some 29) (bN 16 255) HT_ HW_ hHeld ?_
  refine qT 9 (some 31) (bN 16 767) HT_ HW_ hHeld ?_
  refine Zb (i:=8) (N:=some 30) (bN 16 1023) rfl rfl (Q4 HT_.out kr) (by decide) (fun K hK=>?_)
  refine Za Try.func15 kr rfl #[.agg #[.slice ag ω.length ah,.slice ai a0.length aj]] (by rfl) rfl rfl qM ?_
  with_reducible refine(newellaw19_Own.calls _ _ ω _ _ a0 n3 na _ ?side1 ?side2 ?side3 ?side4 A5.out).mono ?_
  (case side1=>exact(Kd.Qy ee.out HB.out))
  (case side2=>exact ef.out)
  (case side3=>exact(Kd.Qy eg.out HB.out))
  (case side4=>exact eh.out)
  rintro e ec ⟨yy,yz,rfl,ay,b7,hb⟩
  refine⟨_,rfl, ?_⟩
  have jr:=Aside0.mk (Kd.Q3 (Kd.Yn ay (g:=b5) (o:=.cells #[.int .i64 ζ,.int .i64 ε,.int .i64 κ] 36 (0,0)) τ.out) (Qi HB.out))
  have js:=Aside0.mk (Kd.Q3 b7 (Qi HB.out))
  replace B:=sBk B hb
  replace τ :=sBk τ hb
  replace HB:=sHb hb
  (try clear hb)
  (try clear ac)
  (try clear hk)
  (try clear hi)
  (try clear ay)
  (try clear b7)
  obtain⟨jd,je,gi⟩:=Kd.Q7 jr.out
  (first|subst gi|(injection gi with ae av af;have aw:=ae.symm;have ax:=af.symm;clear ae av af;subst aw;subst ax))
  obtain⟨tp,tq,r3⟩:=Kd.Q7 js.out
  (first|subst r3|(injection r3 with ae av af;have aw:=ae.symm;have ax:=af.symm;clear ae av af;subst aw;subst ax))
  refine hK.out _ _ ⟨qc B,qc B,qc B,qc B,qc B,qc B,qc B,qc B,qc B,qc B,qc B,qc B,qc B,qc B,qc τ,qc τ,qc τ⟩ (fun hHeld=>?_)
  clear hK K
  refine qN (some 30) ?_
  refine Zb (i:=10) (N:=some 32) (bN 16 2047) rfl rfl (Q4 HT_.out kr) (by decide) (fun K hK=>?_)
  refine Za Try.func14 kr rfl #[.agg #[.int .i64 J,.int .i64 O,.int .i64 X,.int .i64 Y,.int .i64 Z,.int .i64 δ,.int .i64 γ,.int .i64 ι,.int .i64 θ,.int .i64 η],.slice b9 μ.length ar,.int .i64 a4,.agg #[.slice jd n3.length je,.slice tp na.length tq],.agg #[.int .i64 ζ,.int .i64 ε,.int .i64 κ]] (by rfl) rfl rfl qM ?_
  with_reducible refine(group_Pick.calls k J O X Y Z δ γ ι θ η _ _ μ a4 _ _ n3 _ _ na ζ ε κ ψ jj _ ?side1 ?side2 ?side3 ?side4 ?side5 ?side6 A6.out).mono ?_
  (case side1=>exact(Kd.Qy gp.out HB.out))
  (case side2=>exact jm.out)
  (case side3=>exact(Kd.Qu jr.out).2.2)
  (case side4=>exact(Kd.Qu jr.out).2.1)
  (case side5=>exact(Kd.Qu js.out).2.2)
  (case side6=>exact(Kd.Qu js.out).2.1)
  rintro e eb ⟨rfl,hb⟩
  refine⟨_,rfl, ?_⟩
  replace jr:=sRb jr hb
  replace js:=sRb js hb
  replace B:=sBk B hb
  replace τ :=sBk τ hb
  replace HB:=sHb hb
  (try clear hb)
  (try clear ac)
  (try clear hk)
  (try clear hi)
  refine hK.out _ _ ⟨qc B,qc B,qc B,qc B,qc B,qc B,qc B,qc B,qc B,qc B,qc B,qc B,qc B,qc B,qc τ,qc τ,qc τ⟩ (fun hHeld=>?_)
  clear hK K
  refine qN (some 32) ?_
  refine qP 11 (some 21) (bN 16 4095) HT_ ?_
  refine qP 12 (some 33) (bN 16 8191) HT_ ?_
  refine qP 13 (some 34) (bN 16 16383) HT_ ?_
  refine qP 14 (some 5) (bN 16 32767) HT_ ?_
  refine qP 15 (some 6) (bN 16 65535) HT_ ?_
  refine Zx (Ze HT_.out kr) ?_
  go_upto_region 4 with(fail)
  go_cut [40] (fun y9 wc=>∃ (kq:Nat) (kd:Bool),y9 = .bool kd∧Aside0 (newellaw21_GroupBest.j0 kq ψ kd J O X Y Z δ γ ι θ η μ a4 ω a0 ζ ε κ = some r)∧Aside0 (kq≤k)∧Aside0 (wc.heap[ν]?=some (.cells #[.int .i64 J,.int .i64 O,.int .i64 X,.int .i64 Y,.int .i64 Z,.int .i64 δ,.int .i64 γ,.int .i64 ι,.int .i64 θ,.int .i64 η,(.slice b9 μ.length ar),.int .i64 a4,(.slice ag ω.length ah),(.slice ai a0.length aj)] 52 (0,0)))∧Aside0 (wc.heap[b5]?=some (.cells #[.int .i64 ζ,.int .i64 ε,.int .i64 κ] 36 (0,0)))∧Aside0 (Below w.heap.size w wc))
  case first=>
   have H:=r2.out
   clear r2
   by_cases dp:jj=0
   ·rw[if_pos dp] at H
    have c18b0:(jj==0)=true:=beq_iff_eq.mpr dp
    have c18b1:(jj != 0)=false:=bne_eq_false_iff_eq.mpr dp
    clear dp
    (first|rw[c18b0]|(simp only[Zg,Zl];rw[c18b0])|skip)
    have H':=Aside0.mk H
    clear H
    go_wp2
    go_meet
    case rel=>exact⟨_,(decide (ψ < 0)),rfl,H',⟨by first|omega|exact Nat.le_refl _⟩,B,τ,HB⟩
   ·rw[if_neg dp] at H
    have c18b0:(jj==0)=false:=beq_eq_false_iff_ne.mpr dp
    have c18b1:(jj != 0)=true:=bne_iff_ne.mpr dp
    (first|rw[c18b0]|(simp only[Zg,Zl];rw[c18b0])|skip)
    have H':=Aside0.mk H
    clear H
    go_wp2
    go_meet
    case rel=>exact⟨_,(true),rfl,H',⟨by first|omega|exact Nat.le_refl _⟩,B,τ,HB⟩
  case rest=>
   clear r2
   try clear c1
   try clear p2
   try clear c4
   try clear c6
   try clear c10
   try clear cy
   try clear bp
   try clear ci
   try clear dp
   try clear c18b0
   try clear c18b1
   try clear dq
   try clear dr
   try clear oi
   try clear oj
   try clear ol
   try clear om
   try clear e0
   try clear fb
   try clear fc
   try clear fe
   try clear ff
   try clear fg
   try clear k4
   try clear k5
   try clear dt
   try clear du
   try clear oo
   try clear oq
   try clear ot
   try clear ou
   try clear e3
   try clear fh
   try clear fi
   try clear fj
   try clear fk
   try clear fl
   try clear k6
   try clear k7
   obtain⟨kq,kd,rfl,HA,m3,B,τ,HB⟩:=hcut
   cases kq with
   |zero=>exact absurd HA.out (by simp[newellaw21_GroupBest.j0])
   |succ em=>
    have H:=HA.out
    clear HA
    simp only[newellaw21_GroupBest.j0] at H
    by_cases nm:kd=true
    ·subst nm
     have H1:((newellaw21_awake.f em).bind fun k8=>(some k8))=some r:=by rw[if_pos rfl] at H;exact H
     clear H
     have H:=H1
     clear H1
     replace H:=Option.bind_eq_some_iff.mp H
     obtain⟨k8,kp,H⟩:=H
     replace H:(some k8)=some r:=H
     have jb:=Aside0.mk kp
     clear kp
     obtain rfl:=Option.some.inj H
     go_wp2_with (first|((with_reducible refine Qo (f:=9) rfl ?_);refine Q6 (some 41) rfl rfl Try.func9 kr rfl #[] rfl qM ?_;(with_reducible refine(newellaw21_awake.calls em  k8 _ jb.out).mono ?_);rintro e cz ⟨rfl,hb⟩;refine⟨_,rfl, ?_⟩;replace B:=sBk B hb;replace τ :=sBk τ hb;replace HB:=sHb hb;(try clear hb);(try clear ac);(try clear hk);(try clear hi)))
     go_ret
     exact⟨rfl,HB.out⟩
    ·replace nm:=Bool.eq_false_iff.mpr nm
     subst nm
     have H1:(if ψ ≥ (μ.length:Int) then (none) else ((newellaw19_Own.f ω a0).bind fun jq=>((call_View.f em J (μ.length:Int) jq.1 jq.2 ψ).bind fun dv=>(if 0 ≤ ψ then (if ψ < (μ.length:Int) then ((group_Cost.f em J O X Y Z δ γ ι θ η ((Qb μ ψ).f0.f0) ((Qb μ ψ).f0.f1) ((Qb μ ψ).f0.f2) ((Qb μ ψ).f0.f3) ((Qb μ ψ).f0.f4.f0) ((Qb μ ψ).f0.f4.f1) ((Qb μ ψ).f0.f4.f2) ((Qb μ ψ).f1) ((Qb μ ψ).f2) ((Qb μ ψ).f3) dv.1 dv.2.1 dv.2.2.1 ζ ε κ).bind fun ei=>(if dv.2.2.2=0 then (if ei.2=0 then (if 0≤(IntKind.u64.wrap (ψ)) then (newellaw21_GroupBest.j1 em ψ ei.1 ((Go.bits .and .i64 (shr .i64 a4 (IntKind.u64.wrap (ψ))) 1)==1) J O X Y Z δ γ ι θ η μ a4 ω a0 ζ ε κ J (μ.length:Int)) else (none)) else (none)) else (none))) else (none)) else (none)))))=some r:=by rw[if_neg (show ¬ (false=true) by decide)] at H;exact H
     clear H
     have H:=H1
     clear H1
     by_cases h5: ψ ≥ (μ.length:Int)
     ·rw[if_pos h5] at H
      exact absurd H (by simp)
     ·rw[if_neg h5] at H
      have c22b0:decide ((μ.length:Int) ≤ ψ)=false:=decide_eq_false h5
      clear h5
      replace H:=Option.bind_eq_some_iff.mp H
      obtain⟨⟨e6,e7⟩,kg,H⟩:=H
      replace H:((call_View.f em J (μ.length:Int) e6 e7 ψ).bind fun dv=>(if 0 ≤ ψ then (if ψ < (μ.length:Int) then ((group_Cost.f em J O X Y Z δ γ ι θ η ((Qb μ ψ).f0.f0) ((Qb μ ψ).f0.f1) ((Qb μ ψ).f0.f2) ((Qb μ ψ).f0.f3) ((Qb μ ψ).f0.f4.f0) ((Qb μ ψ).f0.f4.f1) ((Qb μ ψ).f0.f4.f2) ((Qb μ ψ).f1) ((Qb μ ψ).f2) ((Qb μ ψ).f3) dv.1 dv.2.1 dv.2.2.1 ζ ε κ).bind fun ei=>(if dv.2.2.2=0 then (if ei.2=0 then (if 0≤(IntKind.u64.wrap (ψ)) then (newellaw21_GroupBest.j1 em ψ ei.1 ((Go.bits .and .i64 (shr .i64 a4 (IntKind.u64.wrap (ψ))) 1)==1) J O X Y Z δ γ ι θ η μ a4 ω a0 ζ ε κ J (μ.length:Int)) else (none)) else (none)) else (none))) else (none)) else (none)))=some r:=H
      have nl:=Aside0.mk kg
      clear kg
      replace H:=Option.bind_eq_some_iff.mp H
      obtain⟨⟨am,an,ao,gb⟩,rj,H⟩:=H
      replace H:(if 0 ≤ ψ then (if ψ < (μ.length:Int) then ((group_Cost.f em J O X Y Z δ γ ι θ η ((Qb μ ψ).f0.f0) ((Qb μ ψ).f0.f1) ((Qb μ ψ).f0.f2) ((Qb μ ψ).f0.f3) ((Qb μ ψ).f0.f4.f0) ((Qb μ ψ).f0.f4.f1) ((Qb μ ψ).f0.f4.f2) ((Qb μ ψ).f1) ((Qb μ ψ).f2) ((Qb μ ψ).f3) am an ao ζ ε κ).bind fun ei=>(if gb=0 then (if ei.2=0 then (if 0≤(IntKind.u64.wrap (ψ)) then (newellaw21_GroupBest.j1 em ψ ei.1 ((Go.bits .and .i64 (shr .i64 a4 (IntKind.u64.wrap (ψ))) 1)==1) J O X Y Z δ γ ι θ η μ a4 ω a0 ζ ε κ J (μ.length:Int)) else (none)) else (none)) else (none))) else (none)) else (none))=some r:=H
      have rk:=Aside0.mk rj
      clear rj
      by_cases d3:0 ≤ ψ
      ·rw[if_pos d3] at H
       have c25b0:decide (0 ≤ ψ)=true:=decide_eq_true d3
       clear d3
       by_cases d8: ψ < (μ.length:Int)
       ·rw[if_pos d8] at H
        have c26b0:decide (ψ < (μ.length:Int))=true:=decide_eq_true d8
        clear d8
        replace H:=Option.bind_eq_some_iff.mp H
        obtain⟨⟨bb,l2⟩,kf,H⟩:=H
        replace H:(if gb=0 then (if l2=0 then (if 0≤(IntKind.u64.wrap (ψ)) then (newellaw21_GroupBest.j1 em ψ bb ((Go.bits .and .i64 (shr .i64 a4 (IntKind.u64.wrap (ψ))) 1)==1) J O X Y Z δ γ ι θ η μ a4 ω a0 ζ ε κ J (μ.length:Int)) else (none)) else (none)) else (none))=some r:=H
        have qy:=Aside0.mk kf
        clear kf
        have ov:=Aside0.mk H
        clear H
        have ms:=d9.out
        have mt:=da.out
        have gq:wc.cell? ⟨ν,0,none⟩=some (.int .i64 J):=(Qa B.out 0).trans rfl
        have gr:wc.cell? ⟨ν,1,none⟩=some (.int .i64 O):=(Qa B.out 1).trans rfl
        have i6:wc.cell? ⟨ν,2,none⟩=some (.int .i64 X):=(Qa B.out 2).trans rfl
        have jv:wc.cell? ⟨ν,3,none⟩=some (.int .i64 Y):=(Qa B.out 3).trans rfl
        have jw:wc.cell? ⟨ν,4,none⟩=some (.int .i64 Z):=(Qa B.out 4).trans rfl
        have jx:wc.cell? ⟨ν,5,none⟩=some (.int .i64 δ):=(Qa B.out 5).trans rfl
        have jy:wc.cell? ⟨ν,6,none⟩=some (.int .i64 γ):=(Qa B.out 6).trans rfl
        have lp:wc.cell? ⟨ν,7,none⟩=some (.int .i64 ι):=(Qa B.out 7).trans rfl
        have lq:wc.cell? ⟨ν,8,none⟩=some (.int .i64 θ):=(Qa B.out 8).trans rfl
        have lr:wc.cell? ⟨ν,9,none⟩=some (.int .i64 η):=(Qa B.out 9).trans rfl
        have tr:wc.cell? ⟨ν,10,none⟩=some (.slice b9 μ.length ar):=(Qa B.out 10).trans rfl
        have ts:wc.cell? ⟨ν,11,none⟩=some (.int .i64 a4):=(Qa B.out 11).trans rfl
        have tt:wc.cell? ⟨ν,12,none⟩=some (.slice ag ω.length ah):=(Qa B.out 12).trans rfl
        have tu:wc.cell? ⟨ν,13,none⟩=some (.slice ai a0.length aj):=(Qa B.out 13).trans rfl
        have gs:=Qc B.out 0
        have gt:=Qc B.out 1
        have i7:=Qc B.out 2
        have jz:=Qc B.out 3
        have k0:=Qc B.out 4
        have k1:=Qc B.out 5
        have k2:=Qc B.out 6
        have ls:=Qc B.out 7
        have lu:=Qc B.out 8
        have lv:=Qc B.out 9
        have tv:=Qc B.out 10
        have tw:=Qc B.out 11
        have tx:=Qc B.out 12
        have ty:=Qc B.out 13
        try go_wp2_with (first|((with_reducible refine Qf (N:=7) rfl ?_);refine qE 7 #[.int .i64 0,.int .i64 0] 59 ?_;intro b6 hg ea hbox hb;have φ :=Aside0.mk hbox;have yn:=sGe hg;have yo:=sGe hg;have dy:=sNl B hg;have dz:=sNg B hg;have ns:=sNl τ hg;have nt:=sNg τ hg;replace B:=sBk B hb;replace τ :=sBk τ hb;replace HB:=sHb hb;clear hb hbox hg;have jn:=dz.out;have jo:=dy.out;have mu:=nt.out;have mw:=ns.out;obtain⟨gu,i9,gv,ia⟩:=qD2 φ.out;have ib:ea.cell? ⟨ν,0,none⟩=some (.int .i64 J):=(Qa B.out 0).trans rfl;have ic:ea.cell? ⟨ν,1,none⟩=some (.int .i64 O):=(Qa B.out 1).trans rfl;have vq:ea.cell? ⟨ν,2,none⟩=some (.int .i64 X):=(Qa B.out 2).trans rfl;have vr:ea.cell? ⟨ν,3,none⟩=some (.int .i64 Y):=(Qa B.out 3).trans rfl;have vs:ea.cell? ⟨ν,4,none⟩=some (.int .i64 Z):=(Qa B.out 4).trans rfl;have vt:ea.cell? ⟨ν,5,none⟩=some (.int .i64 δ):=(Qa B.out 5).trans rfl;have vu:ea.cell? ⟨ν,6,none⟩=some (.int .i64 γ):=(Qa B.out 6).trans rfl;have vv:ea.cell? ⟨ν,7,none⟩=some (.int .i64 ι):=(Qa B.out 7).trans rfl;have vw:ea.cell? ⟨ν,8,none⟩=some (.int .i64 θ):=(Qa B.out 8).trans rfl;have vx:ea.cell? ⟨ν,9,none⟩=some (.int .i64 η):=(Qa B.out 9).trans rfl;have tz:ea.cell? ⟨ν,10,none⟩=some (.slice b9 μ.length ar):=(Qa B.out 10).trans rfl;have u0:ea.cell? ⟨ν,11,none⟩=some (.int .i64 a4):=(Qa B.out 11).trans rfl;have u1:ea.cell? ⟨ν,12,none⟩=some (.slice ag ω.length ah):=(Qa B.out 12).trans rfl;have u2:ea.cell? ⟨ν,13,none⟩=some (.slice ai a0.length aj):=(Qa B.out 13).trans rfl;have ie:=Qc B.out 0;have ig:=Qc B.out 1;have vy:=Qc B.out 2;have vz:=Qc B.out 3;have w3:=Qc B.out 4;have w4:=Qc B.out 5;have w5:=Qc B.out 6;have w6:=Qc B.out 7;have w7:=Qc B.out 8;have wa:=Qc B.out 9;have u3:=Qc B.out 10;have u4:=Qc B.out 11;have u5:=Qc B.out 12;have u6:=Qc B.out 13))
        have ξ :Aside0 (((ea.setCell ⟨b6,0,none⟩ (.int .i64 J)).setCell ⟨b6,1,none⟩ (.int .i64 (μ.length:Int))).heap[ν]?=some (.cells #[.int .i64 J,.int .i64 O,.int .i64 X,.int .i64 Y,.int .i64 Z,.int .i64 δ,.int .i64 γ,.int .i64 ι,.int .i64 θ,.int .i64 η,.slice b9 μ.length ar,.int .i64 a4,.slice ag ω.length ah,.slice ai a0.length aj] 52 (0,0))):=⟨bka B⟩
        have ρ:Aside0 (((ea.setCell ⟨b6,0,none⟩ (.int .i64 J)).setCell ⟨b6,1,none⟩ (.int .i64 (μ.length:Int))).heap[b5]?=some (.cells #[.int .i64 ζ,.int .i64 ε,.int .i64 κ] 36 (0,0))):=⟨bka τ⟩
        have a3:Aside0 (((ea.setCell ⟨b6,0,none⟩ (.int .i64 J)).setCell ⟨b6,1,none⟩ (.int .i64 (μ.length:Int))).heap[b6]?=some (.cells #[.int .i64 J,.int .i64 (μ.length:Int)] 59 (0,0))):=⟨by refine Ql (cs:=#[.int .i64 J,.int .i64 0]) ?_ 1 _ rfl;refine Ql (cs:=#[.int .i64 0,.int .i64 0]) ?_ 0 _ rfl;exact φ.out⟩
        have a7:Aside0 (Below w.heap.size w ((ea.setCell ⟨b6,0,none⟩ (.int .i64 J)).setCell ⟨b6,1,none⟩ (.int .i64 (μ.length:Int)))):=⟨bel⟩
        (try clear B)
        (try clear τ)
        (try clear φ)
        (try clear HB)
        generalize((ea.setCell ⟨b6,0,none⟩ (.int .i64 J)).setCell ⟨b6,1,none⟩ (.int .i64 (μ.length:Int)))=ln at ξ ρ a3 a7 ⊢
        have B:= ξ
        have τ :=ρ
        have φ :=a3
        have HB:=a7
        clear ξ ρ a3 a7
        replace B:=Aside0.mk (Qe B.out)
        replace τ :=Aside0.mk (Qe τ.out)
        replace φ :=Aside0.mk (Qe φ.out)
        replace HB:=Aside0.mk (Qg HB.out)
        refine Zi (n:=12) (S:=fun w'=>w'.cell? ⟨b6,0,none⟩=some (.int .i64 J)∧w'.cell? ⟨b6,1,none⟩=some (.int .i64 (μ.length:Int))∧w'.cell? ⟨ν,0,none⟩=some (.int .i64 J)∧w'.cell? ⟨ν,1,none⟩=some (.int .i64 O)∧w'.cell? ⟨ν,2,none⟩=some (.int .i64 X)∧w'.cell? ⟨ν,3,none⟩=some (.int .i64 Y)∧w'.cell? ⟨ν,4,none⟩=some (.int .i64 Z)∧w'.cell? ⟨ν,5,none⟩=some (.int .i64 δ)∧w'.cell? ⟨ν,6,none⟩=some (.int .i64 γ)∧w'.cell? ⟨ν,7,none⟩=some (.int .i64 ι)∧w'.cell? ⟨ν,8,none⟩=some (.int .i64 θ)∧w'.cell? ⟨ν,9,none⟩=some (.int .i64 η)∧w'.cell? ⟨ν,10,none⟩=some (.slice b9 μ.length ar)∧w'.cell? ⟨ν,11,none⟩=some (.int .i64 a4)∧w'.cell? ⟨ν,12,none⟩=some (.slice ag ω.length ah)∧w'.cell? ⟨ν,13,none⟩=some (.slice ai a0.length aj)) (ds:=[]) #[false,false,false,false,false,false,false,false,false,false,false,false] kr rfl rfl ⟨(Qa φ.out 0).trans rfl,(Qa φ.out 1).trans rfl,(Qa B.out 0).trans rfl,(Qa B.out 1).trans rfl,(Qa B.out 2).trans rfl,(Qa B.out 3).trans rfl,(Qa B.out 4).trans rfl,(Qa B.out 5).trans rfl,(Qa B.out 6).trans rfl,(Qa B.out 7).trans rfl,(Qa B.out 8).trans rfl,(Qa B.out 9).trans rfl,(Qa B.out 10).trans rfl,(Qa B.out 11).trans rfl,(Qa B.out 12).trans rfl,(Qa B.out 13).trans rfl⟩ (fun hHeld=>?_);refine Q9 newellaw21_GroupBest.tab9 newellaw21_GroupBest.bits9 (fun HT_ HW_=>?_)
        generalize ln.drew=lw at B τ φ HB hHeld ⊢
        refine qP 1 (some 56) (bN 12 2) HT_ ?_
        refine qP 4 (some 59) (bN 12 18) HT_ ?_
        refine qT 0 (some 55) (bN 12 19) HT_ HW_ hHeld ?_
        refine qT 2 (some 57) (bN 12 23) HT_ HW_ hHeld ?_
        refine Yi (σ:=Value×Value×Value×Value×Value×Nat) 2 (bN 12 1023) (fun s_=>[(58,.agg #[s_.1,s_.2.1]),(60,.tuple #[.agg #[s_.2.2.1,s_.2.2.2.1,s_.2.2.2.2.1],.int .i64 gb]),(8,.pointer (some ⟨s_.2.2.2.2.2,0,none⟩)),(54,.tuple #[.agg #[s_.2.2.1,s_.2.2.2.1,s_.2.2.2.2.1],.int .i64 gb]),(61,.agg #[s_.2.2.1,s_.2.2.2.1,s_.2.2.2.2.1]),(62,.int .i64 gb)]) (fun s_ w'=>(w'.cell? ⟨b6,0,none⟩=some (.int .i64 J)∧w'.cell? ⟨b6,1,none⟩=some (.int .i64 (μ.length:Int))∧w'.cell? ⟨ν,0,none⟩=some (.int .i64 J)∧w'.cell? ⟨ν,1,none⟩=some (.int .i64 O)∧w'.cell? ⟨ν,2,none⟩=some (.int .i64 X)∧w'.cell? ⟨ν,3,none⟩=some (.int .i64 Y)∧w'.cell? ⟨ν,4,none⟩=some (.int .i64 Z)∧w'.cell? ⟨ν,5,none⟩=some (.int .i64 δ)∧w'.cell? ⟨ν,6,none⟩=some (.int .i64 γ)∧w'.cell? ⟨ν,7,none⟩=some (.int .i64 ι)∧w'.cell? ⟨ν,8,none⟩=some (.int .i64 θ)∧w'.cell? ⟨ν,9,none⟩=some (.int .i64 η)∧w'.cell? ⟨ν,10,none⟩=some (.slice b9 μ.length ar)∧w'.cell? ⟨ν,11,none⟩=some (.int .i64 a4)∧w'.cell? ⟨ν,12,none⟩=some (.slice ag ω.length ah)∧w'.cell? ⟨ν,13,none⟩=some (.slice ai a0.length aj))∧(Kd.R k36 36 w' w.heap.size (fun k_=>k_≠b5) s_.1 e6)∧(Kd.R k86 86 w' w.heap.size (fun _=>True) s_.2.1 e7)∧(Kd.R (Kd.int .i64) 3 w' w.heap.size (fun k_=>some k_≠(s_.2.2.2.1:Value).ownBlock∧some k_≠(s_.2.2.2.2.1:Value).ownBlock) s_.2.2.1 am)∧(Kd.R (Kd.int .i64) 3 w' w.heap.size (fun k_=>some k_≠(s_.2.2.1:Value).ownBlock∧some k_≠(s_.2.2.2.2.1:Value).ownBlock) s_.2.2.2.1 an)∧(Kd.R (Kd.int .i64) 3 w' w.heap.size (fun k_=>some k_≠(s_.2.2.1:Value).ownBlock∧some k_≠(s_.2.2.2.1:Value).ownBlock) s_.2.2.2.2.1 ao)∧(w'.heap[ν]?=some (.cells #[.int .i64 J,.int .i64 O,.int .i64 X,.int .i64 Y,.int .i64 Z,.int .i64 δ,.int .i64 γ,.int .i64 ι,.int .i64 θ,.int .i64 η,.slice b9 μ.length ar,.int .i64 a4,.slice ag ω.length ah,.slice ai a0.length aj] 52 (0,0)))∧(w'.heap[b5]?=some (.cells #[.int .i64 ζ,.int .i64 ε,.int .i64 κ] 36 (0,0)))∧(w'.heap[b6]?=some (.cells #[.int .i64 J,.int .i64 (μ.length:Int)] 59 (0,0)))∧(w'.heap[s_.2.2.2.2.2]?=some (.cells #[.slice none 0 0,.slice none 0 0,.slice none 0 0] 34 (0,0)))∧(w.heap.size≤s_.2.2.2.2.2)∧(w.heap.size≤s_.2.2.2.2.2)∧(ν ≠ s_.2.2.2.2.2)∧(s_.2.2.2.2.2 ≠ ν)∧(b5≠s_.2.2.2.2.2)∧(s_.2.2.2.2.2≠b5)∧(b6≠s_.2.2.2.2.2)∧(s_.2.2.2.2.2≠b6)∧(Below w.heap.size w w')) ?_ ?_
        rotate_left
        ·intro hCont
         refine Kj (i:=3) (j:=9) (Ni:=some 58) (Nj:=some 8) (bN 12 31) (bN 12 535) rfl rfl rfl rfl (X5 HT_.out kr) (by decide) (by decide) (fun K hK=>?_) (fun K hK=>?_)
         ·skip
          refine Za Try.func15 kr rfl #[.agg #[.slice ag ω.length ah,.slice ai a0.length aj]] (by rfl) rfl rfl qM ?_
          with_reducible refine(newellaw19_Own.calls _ _ ω _ _ a0 e6 e7 _ ?side1 ?side2 ?side3 ?side4 nl.out).mono ?_
          (case side1=>exact(Kd.Qy ee.out HB.out))
          (case side2=>exact ef.out)
          (case side3=>exact(Kd.Qy eg.out HB.out))
          (case side4=>exact eh.out)
          rintro e nn ⟨nb,nc,rfl,ay,b7,hb⟩
          refine⟨_,rfl, ?_⟩
          have bd:=Aside0.mk (Kd.Q3 (Kd.Yn ay (g:=b5) (o:=.cells #[.int .i64 ζ,.int .i64 ε,.int .i64 κ] 36 (0,0)) τ.out) (Qi HB.out))
          have be:=Aside0.mk (Kd.Q3 b7 (Qi HB.out))
          replace B:=sBk B hb
          replace τ :=sBk τ hb
          replace φ :=sBk φ hb
          replace HB:=sHb hb
          (try clear hb)
          (try clear ac)
          (try clear hk)
          (try clear hi)
          (try clear ay)
          (try clear b7)
          obtain⟨rl,rm,rn⟩:=Kd.Q7 bd.out
          (first|subst rn|(injection rn with ae av af;have aw:=ae.symm;have ax:=af.symm;clear ae av af;subst aw;subst ax))
          obtain⟨i0,i1,i2⟩:=Kd.Q7 be.out
          (first|subst i2|(injection i2 with ae av af;have aw:=ae.symm;have ax:=af.symm;clear ae av af;subst aw;subst ax))
          refine hK.out _ _ ⟨qc φ,qc φ,qc B,qc B,qc B,qc B,qc B,qc B,qc B,qc B,qc B,qc B,qc B,qc B,qc B,qc B⟩ (fun hHeld=>?_)
          clear hK K
          refine qN (some 58) ?_
          refine Kj (i:=5) (j:=9) (Ni:=some 60) (Nj:=some 8) (bN 12 63) (bN 12 543) rfl rfl rfl rfl (X5 HT_.out kr) (by decide) (by decide) (fun K hK=>?_) (fun K hK=>?_)
          ·skip
           refine Za Try.func24 kr rfl #[.agg #[.int .i64 J,.int .i64 (μ.length:Int)],.agg #[.slice rl e6.length rm,.slice i0 e7.length i1],.int .i64 ψ] (by rfl) rfl rfl qM ?_
           with_reducible refine(call_View.calls em J (μ.length:Int) _ _ e6 _ _ e7 ψ am an ao gb _ ?side1 ?side2 ?side3 ?side4 rk.out).mono ?_
           (case side1=>exact(Kd.Qu bd.out).2.2)
           (case side2=>exact(Kd.Qu bd.out).2.1)
           (case side3=>exact(Kd.Qu be.out).2.2)
           (case side4=>exact(Kd.Qu be.out).2.1)
           rintro e y7 ⟨gz,h0,h4,rfl,ay,b7,cn,hb⟩
           refine⟨_,rfl, ?_⟩
           have d4:=Aside0.mk (Kd.Q3 ay (Qi HB.out))
           have d5:=Aside0.mk (Kd.Q3 b7 (Qi HB.out))
           have d6:=Aside0.mk (Kd.Q3 cn (Qi HB.out))
           replace bd:=sRb bd hb
           replace be:=sRb be hb
           replace B:=sBk B hb
           replace τ :=sBk τ hb
           replace φ :=sBk φ hb
           replace HB:=sHb hb
           (try clear hb)
           (try clear ac)
           (try clear hk)
           (try clear hi)
           (try clear ay)
           (try clear b7)
           (try clear cn)
           refine hK.out _ _ ⟨qc φ,qc φ,qc B,qc B,qc B,qc B,qc B,qc B,qc B,qc B,qc B,qc B,qc B,qc B,qc B,qc B⟩ (fun hHeld=>?_)
           clear hK K
           refine qN (some 60) ?_
           refine qP 6 (some 54) (bN 12 127) HT_ ?_
           refine qP 7 (some 61) (bN 12 255) HT_ ?_
           refine qP 8 (some 62) (bN 12 511) HT_ ?_
           refine Zb (i:=9) (N:=some 8) (bN 12 1023) rfl rfl (Q4 HT_.out kr) (by decide) (fun K hK=>?_)
           refine Xa ?hg (N:=8) ?hd (cs:=#[.slice none 0 0,.slice none 0 0,.slice none 0 0]) (t:=34) ?hr ?_;(case hd=>rfl);(case hg=>rfl);(case hr=>go_simp <;> rfl)
           intro a2 hg nk hbox hb
           have ab:=Aside0.mk hbox
           have ih:=sGe hg
           have ii:=sGe hg
           have a5:=sNl B hg
           have bq:=sNg B hg
           have df:=sNl τ hg
           have dh:=sNg τ hg
           have br:=sNl φ hg
           have di:=sNg φ hg
           replace bd:=sRb bd hb
           replace be:=sRb be hb
           replace d4:=sRb d4 hb
           replace d5:=sRb d5 hb
           replace d6:=sRb d6 hb
           replace B:=sBk B hb
           replace τ :=sBk τ hb
           replace φ :=sBk φ hb
           replace HB:=sHb hb
           clear hb hbox hg
           refine hK.out _ _ ⟨qc φ,qc φ,qc B,qc B,qc B,qc B,qc B,qc B,qc B,qc B,qc B,qc B,qc B,qc B,qc B,qc B⟩ (fun hHeld=>?_)
           clear hK K
           refine qN (some 8) ?_
           exact Zf (by simp only[Q8,Act.put,qS]) (hCont (.slice rl e6.length rm,.slice i0 e7.length i1,gz,h0,h4,a2) _ ⟨hHeld,(by(with_reducible repeat first|apply Kd.Qq|apply Kd.Qp|apply Kd.Qr);exact Kd.Qw bd.out (fun _ hk=>hk.2)),be.out,d4.out,d5.out,d6.out,B.out,τ.out,φ.out,ab.out,ih.out,ii.out,a5.out,bq.out,df.out,dh.out,br.out,di.out,HB.out⟩)
          ·skip
           refine Xa ?hg (N:=8) ?hd (cs:=#[.slice none 0 0,.slice none 0 0,.slice none 0 0]) (t:=34) ?hr ?_;(case hd=>rfl);(case hg=>rfl);(case hr=>go_simp <;> rfl)
           intro a2 hg np hbox hb
           have ab:=Aside0.mk hbox
           have ih:=sGe hg
           have ii:=sGe hg
           have a5:=sNl B hg
           have bq:=sNg B hg
           have df:=sNl τ hg
           have dh:=sNg τ hg
           have br:=sNl φ hg
           have di:=sNg φ hg
           replace bd:=sRb bd hb
           replace be:=sRb be hb
           replace B:=sBk B hb
           replace τ :=sBk τ hb
           replace φ :=sBk φ hb
           replace HB:=sHb hb
           clear hb hbox hg
           obtain⟨i0,i1,i2⟩:=Kd.Q7 bd.out
           (first|subst i2|(injection i2 with ae av af;have aw:=ae.symm;have ax:=af.symm;clear ae av af;subst aw;subst ax))
           obtain⟨jg,jh,ji⟩:=Kd.Q7 be.out
           (first|subst ji|(injection ji with ae av af;have aw:=ae.symm;have ax:=af.symm;clear ae av af;subst aw;subst ax))
           refine hK.out _ _ ⟨qc φ,qc φ,qc B,qc B,qc B,qc B,qc B,qc B,qc B,qc B,qc B,qc B,qc B,qc B,qc B,qc B⟩ (fun hHeld=>?_)
           clear hK K
           refine qN (some 8) ?_
           refine Zb (i:=5) (N:=some 60) (bN 12 575) rfl rfl (Q4 HT_.out kr) (by decide) (fun K hK=>?_)
           refine Za Try.func24 kr rfl #[.agg #[.int .i64 J,.int .i64 (μ.length:Int)],.agg #[.slice i0 e6.length i1,.slice jg e7.length jh],.int .i64 ψ] (by rfl) rfl rfl qM ?_
           with_reducible refine(call_View.calls em J (μ.length:Int) _ _ e6 _ _ e7 ψ am an ao gb _ ?side1 ?side2 ?side3 ?side4 rk.out).mono ?_
           (case side1=>exact(Kd.Qu bd.out).2.2)
           (case side2=>exact(Kd.Qu bd.out).2.1)
           (case side3=>exact(Kd.Qu be.out).2.2)
           (case side4=>exact(Kd.Qu be.out).2.1)
           rintro e nk ⟨gz,h0,h4,rfl,ay,b7,cn,hb⟩
           refine⟨_,rfl, ?_⟩
           have d4:=Aside0.mk (Kd.Q3 ay (Qi HB.out))
           have d5:=Aside0.mk (Kd.Q3 b7 (Qi HB.out))
           have d6:=Aside0.mk (Kd.Q3 cn (Qi HB.out))
           replace bd:=sRb bd hb
           replace be:=sRb be hb
           replace B:=sBk B hb
           replace τ :=sBk τ hb
           replace φ :=sBk φ hb
           replace ab:=sBk ab hb
           replace HB:=sHb hb
           (try clear hb)
           (try clear ac)
           (try clear hk)
           (try clear hi)
           (try clear ay)
           (try clear b7)
           (try clear cn)
           refine hK.out _ _ ⟨qc φ,qc φ,qc B,qc B,qc B,qc B,qc B,qc B,qc B,qc B,qc B,qc B,qc B,qc B,qc B,qc B⟩ (fun hHeld=>?_)
           clear hK K
           refine qN (some 60) ?_
           refine qP 6 (some 54) (bN 12 639) HT_ ?_
           refine qP 7 (some 61) (bN 12 767) HT_ ?_
           refine qP 8 (some 62) (bN 12 1023) HT_ ?_
           exact Zf (by simp only[Q8,Act.put,qS]) (hCont (.slice i0 e6.length i1,.slice jg e7.length jh,gz,h0,h4,a2) _ ⟨hHeld,(by(with_reducible repeat first|apply Kd.Qq|apply Kd.Qp|apply Kd.Qr);exact Kd.Qw bd.out (fun _ hk=>hk.2)),be.out,d4.out,d5.out,d6.out,B.out,τ.out,φ.out,ab.out,ih.out,ii.out,a5.out,bq.out,df.out,dh.out,br.out,di.out,HB.out⟩)
         ·skip
          refine Xa ?hg (N:=8) ?hd (cs:=#[.slice none 0 0,.slice none 0 0,.slice none 0 0]) (t:=34) ?hr ?_;(case hd=>rfl);(case hg=>rfl);(case hr=>go_simp <;> rfl)
          intro a2 hg nn hbox hb
          have ab:=Aside0.mk hbox
          have ih:=sGe hg
          have ii:=sGe hg
          have a5:=sNl B hg
          have bq:=sNg B hg
          have df:=sNl τ hg
          have dh:=sNg τ hg
          have br:=sNl φ hg
          have di:=sNg φ hg
          replace B:=sBk B hb
          replace τ :=sBk τ hb
          replace φ :=sBk φ hb
          replace HB:=sHb hb
          clear hb hbox hg
          refine hK.out _ _ ⟨qc φ,qc φ,qc B,qc B,qc B,qc B,qc B,qc B,qc B,qc B,qc B,qc B,qc B,qc B,qc B,qc B⟩ (fun hHeld=>?_)
          clear hK K
          refine qN (some 8) ?_
          refine Zb (i:=3) (N:=some 58) (bN 12 543) rfl rfl (Q4 HT_.out kr) (by decide) (fun K hK=>?_)
          refine Za Try.func15 kr rfl #[.agg #[.slice ag ω.length ah,.slice ai a0.length aj]] (by rfl) rfl rfl qM ?_
          with_reducible refine(newellaw19_Own.calls _ _ ω _ _ a0 e6 e7 _ ?side1 ?side2 ?side3 ?side4 nl.out).mono ?_
          (case side1=>exact(Kd.Qy ee.out HB.out))
          (case side2=>exact ef.out)
          (case side3=>exact(Kd.Qy eg.out HB.out))
          (case side4=>exact eh.out)
          rintro e np ⟨nb,nc,rfl,ay,b7,hb⟩
          refine⟨_,rfl, ?_⟩
          have bd:=Aside0.mk (Kd.Q3 (Kd.Yn ay (g:=b5) (o:=.cells #[.int .i64 ζ,.int .i64 ε,.int .i64 κ] 36 (0,0)) τ.out) (Qi HB.out))
          have be:=Aside0.mk (Kd.Q3 b7 (Qi HB.out))
          replace B:=sBk B hb
          replace τ :=sBk τ hb
          replace φ :=sBk φ hb
          replace ab:=sBk ab hb
          replace HB:=sHb hb
          (try clear hb)
          (try clear ac)
          (try clear hk)
          (try clear hi)
          (try clear ay)
          (try clear b7)
          obtain⟨i0,i1,i2⟩:=Kd.Q7 bd.out
          (first|subst i2|(injection i2 with ae av af;have aw:=ae.symm;have ax:=af.symm;clear ae av af;subst aw;subst ax))
          obtain⟨jg,jh,ji⟩:=Kd.Q7 be.out
          (first|subst ji|(injection ji with ae av af;have aw:=ae.symm;have ax:=af.symm;clear ae av af;subst aw;subst ax))
          refine hK.out _ _ ⟨qc φ,qc φ,qc B,qc B,qc B,qc B,qc B,qc B,qc B,qc B,qc B,qc B,qc B,qc B,qc B,qc B⟩ (fun hHeld=>?_)
          clear hK K
          refine qN (some 58) ?_
          refine Zb (i:=5) (N:=some 60) (bN 12 575) rfl rfl (Q4 HT_.out kr) (by decide) (fun K hK=>?_)
          refine Za Try.func24 kr rfl #[.agg #[.int .i64 J,.int .i64 (μ.length:Int)],.agg #[.slice i0 e6.length i1,.slice jg e7.length jh],.int .i64 ψ] (by rfl) rfl rfl qM ?_
          with_reducible refine(call_View.calls em J (μ.length:Int) _ _ e6 _ _ e7 ψ am an ao gb _ ?side1 ?side2 ?side3 ?side4 rk.out).mono ?_
          (case side1=>exact(Kd.Qu bd.out).2.2)
          (case side2=>exact(Kd.Qu bd.out).2.1)
          (case side3=>exact(Kd.Qu be.out).2.2)
          (case side4=>exact(Kd.Qu be.out).2.1)
          rintro e nk ⟨gz,h0,h4,rfl,ay,b7,cn,hb⟩
          refine⟨_,rfl, ?_⟩
          have d4:=Aside0.mk (Kd.Q3 ay (Qi HB.out))
          have d5:=Aside0.mk (Kd.Q3 b7 (Qi HB.out))
          have d6:=Aside0.mk (Kd.Q3 cn (Qi HB.out))
          replace bd:=sRb bd hb
          replace be:=sRb be hb
          replace B:=sBk B hb
          replace τ :=sBk τ hb
          replace φ :=sBk φ hb
          replace ab:=sBk ab hb
          replace HB:=sHb hb
          (try clear hb)
          (try clear ac)
          (try clear hk)
          (try clear hi)
          (try clear ay)
          (try clear b7)
          (try clear cn)
          refine hK.out _ _ ⟨qc φ,qc φ,qc B,qc B,qc B,qc B,qc B,qc B,qc B,qc B,qc B,qc B,qc B,qc B,qc B,qc B⟩ (fun hHeld=>?_)
          clear hK K
          refine qN (some 60) ?_
          refine qP 6 (some 54) (bN 12 639) HT_ ?_
          refine qP 7 (some 61) (bN 12 767) HT_ ?_
          refine qP 8 (some 62) (bN 12 1023) HT_ ?_
          exact Zf (by simp only[Q8,Act.put,qS]) (hCont (.slice i0 e6.length i1,.slice jg e7.length jh,gz,h0,h4,a2) _ ⟨hHeld,(by(with_reducible repeat first|apply Kd.Qq|apply Kd.Qp|apply Kd.Qr);exact Kd.Qw bd.out (fun _ hk=>hk.2)),be.out,d4.out,d5.out,d6.out,B.out,τ.out,φ.out,ab.out,ih.out,ii.out,a5.out,bq.out,df.out,dh.out,br.out,di.out,HB.out⟩)
        rintro⟨nb,nc,gz,h0,h4,a2⟩ ce ⟨hS_,bj,bk,bl,bm,bn,cr,db,dc,dd,de,co,cp,cq,d2,dw,hh,hj,hl⟩
        have ξ :Aside0 (Kd.R k36 36 ce w.heap.size (fun k_=>k_≠b5) nb e6):=⟨bj⟩
        have ρ:Aside0 (Kd.R k86 86 ce w.heap.size (fun _=>True) nc e7):=⟨bk⟩
        have a3:Aside0 (Kd.R (Kd.int .i64) 3 ce w.heap.size (fun k_=>some k_≠(h0:Value).ownBlock∧some k_≠(h4:Value).ownBlock) gz am):=⟨bl⟩
        have a7:Aside0 (Kd.R (Kd.int .i64) 3 ce w.heap.size (fun k_=>some k_≠(gz:Value).ownBlock∧some k_≠(h4:Value).ownBlock) h0 an):=⟨bm⟩
        have al:Aside0 (Kd.R (Kd.int .i64) 3 ce w.heap.size (fun k_=>some k_≠(gz:Value).ownBlock∧some k_≠(h0:Value).ownBlock) h4 ao):=⟨bn⟩
        have b1:Aside0 (ce.heap[ν]?=some (.cells #[.int .i64 J,.int .i64 O,.int .i64 X,.int .i64 Y,.int .i64 Z,.int .i64 δ,.int .i64 γ,.int .i64 ι,.int .i64 θ,.int .i64 η,.slice b9 μ.length ar,.int .i64 a4,.slice ag ω.length ah,.slice ai a0.length aj] 52 (0,0))):=⟨cr⟩
        have b8:Aside0 (ce.heap[b5]?=some (.cells #[.int .i64 ζ,.int .i64 ε,.int .i64 κ] 36 (0,0))):=⟨db⟩
        have bi:Aside0 (ce.heap[b6]?=some (.cells #[.int .i64 J,.int .i64 (μ.length:Int)] 59 (0,0))):=⟨dc⟩
        have cf:Aside0 (ce.heap[a2]?=some (.cells #[.slice none 0 0,.slice none 0 0,.slice none 0 0] 34 (0,0))):=⟨dd⟩
        have cx:Aside0 (w.heap.size≤a2):=⟨de⟩
        have bw:Aside0 (w.heap.size≤a2):=⟨co⟩
        have bz:Aside0 (ν ≠ a2):=⟨cp⟩
        have ca:Aside0 (a2 ≠ ν):=⟨cq⟩
        have cm:Aside0 (b5≠a2):=⟨d2⟩
        have dx:Aside0 (a2≠b5):=⟨dw⟩
        have ho:Aside0 (b6≠a2):=⟨hh⟩
        have hu:Aside0 (a2≠b6):=⟨hj⟩
        have hx:Aside0 (Below w.heap.size w ce):=⟨hl⟩
        clear B
        clear τ
        clear φ
        clear HB
        clear bj bk bl bm bn cr db dc dd de co cp cq d2 dw hh hj hl
        have bd:= ξ
        have be:=ρ
        have d4:=a3
        have d5:=a7
        have d6:=al
        have B:=b1
        have τ :=b8
        have φ :=bi
        have ab:=cf
        have ih:=cx
        have ii:=bw
        have a5:=bz
        have bq:=ca
        have df:=cm
        have dh:=dx
        have br:=ho
        have di:=hu
        have HB:=hx
        clear ξ ρ a3 a7 al b1 b8 bi cf cx bw bz ca cm dx ho hu hx
        have hHeld:ce.cell? ⟨b6,0,none⟩=some (.int .i64 J)∧ce.cell? ⟨b6,1,none⟩=some (.int .i64 (μ.length:Int))∧ce.cell? ⟨ν,0,none⟩=some (.int .i64 J)∧ce.cell? ⟨ν,1,none⟩=some (.int .i64 O)∧ce.cell? ⟨ν,2,none⟩=some (.int .i64 X)∧ce.cell? ⟨ν,3,none⟩=some (.int .i64 Y)∧ce.cell? ⟨ν,4,none⟩=some (.int .i64 Z)∧ce.cell? ⟨ν,5,none⟩=some (.int .i64 δ)∧ce.cell? ⟨ν,6,none⟩=some (.int .i64 γ)∧ce.cell? ⟨ν,7,none⟩=some (.int .i64 ι)∧ce.cell? ⟨ν,8,none⟩=some (.int .i64 θ)∧ce.cell? ⟨ν,9,none⟩=some (.int .i64 η)∧ce.cell? ⟨ν,10,none⟩=some (.slice b9 μ.length ar)∧ce.cell? ⟨ν,11,none⟩=some (.int .i64 a4)∧ce.cell? ⟨ν,12,none⟩=some (.slice ag ω.length ah)∧ce.cell? ⟨ν,13,none⟩=some (.slice ai a0.length aj):=hS_
        obtain⟨b0,az,ks⟩:=Kd.Q7 d4.out
        (first|subst ks|(injection ks with ae av af;have aw:=ae.symm;have ax:=af.symm;clear ae av af;subst aw;subst ax))
        obtain⟨b3,b4,rp⟩:=Kd.Q7 d5.out
        (first|subst rp|(injection rp with ae av af;have aw:=ae.symm;have ax:=af.symm;clear ae av af;subst aw;subst ax))
        obtain⟨b2,ap,n1⟩:=Kd.Q7 d6.out
        (first|subst n1|(injection n1 with ae av af;have aw:=ae.symm;have ax:=af.symm;clear ae av af;subst aw;subst ax))
        refine Zf (a':=?_) ?_ ?_
        rotate_left
        ·simp only[Q8,Act.put,qS]
         rfl
        refine Zb (i:=10) (N:=none) (bN 12 2047) rfl rfl (Q4 HT_.out kr) (by decide) (fun K hK=>?_)
        have z0:ce.cell? ⟨a2,0,none⟩=some (.slice none 0 0):=(Qa ab.out 0).trans rfl
        have yp:=Qc ab.out 0
        have wb:=a5.out
        have wd:=df.out
        have we:=br.out
        have wg:=bq.out
        have wh:=dh.out
        have wi:=di.out
        have z1:ce.cell? ⟨a2,1,none⟩=some (.slice none 0 0):=(Qa ab.out 1).trans rfl
        have yq:=Qc ab.out 1
        have wj:=a5.out
        have wk:=df.out
        have wl:=br.out
        have wm:=bq.out
        have wn:=dh.out
        have wo:=di.out
        have z2:ce.cell? ⟨a2,2,none⟩=some (.slice none 0 0):=(Qa ab.out 2).trans rfl
        have yr:=Qc ab.out 2
        have wq:=a5.out
        have ws:=df.out
        have wt:=br.out
        have wu:=bq.out
        have wv:=dh.out
        have ww:=di.out
        refine K8 (w1:=?_) (by rfl) rfl ?_ ?_
        rotate_left
        ·go_simp
         rfl
        refine hK.out _ _ ⟨((cell_far (p:=⟨a2,_,none⟩) br.out _).trans (((cell_far (p:=⟨a2,_,none⟩) br.out _).trans (((cell_far (p:=⟨a2,_,none⟩) br.out _).trans (hHeld.1)))))),((cell_far (p:=⟨a2,_,none⟩) br.out _).trans (((cell_far (p:=⟨a2,_,none⟩) br.out _).trans (((cell_far (p:=⟨a2,_,none⟩) br.out _).trans (hHeld.2.1)))))),((cell_far (p:=⟨a2,_,none⟩) a5.out _).trans (((cell_far (p:=⟨a2,_,none⟩) a5.out _).trans (((cell_far (p:=⟨a2,_,none⟩) a5.out _).trans (hHeld.2.2.1)))))),((cell_far (p:=⟨a2,_,none⟩) a5.out _).trans (((cell_far (p:=⟨a2,_,none⟩) a5.out _).trans (((cell_far (p:=⟨a2,_,none⟩) a5.out _).trans (hHeld.2.2.2.1)))))),((cell_far (p:=⟨a2,_,none⟩) a5.out _).trans (((cell_far (p:=⟨a2,_,none⟩) a5.out _).trans (((cell_far (p:=⟨a2,_,none⟩) a5.out _).trans (hHeld.2.2.2.2.1)))))),((cell_far (p:=⟨a2,_,none⟩) a5.out _).trans (((cell_far (p:=⟨a2,_,none⟩) a5.out _).trans (((cell_far (p:=⟨a2,_,none⟩) a5.out _).trans (hHeld.2.2.2.2.2.1)))))),((cell_far (p:=⟨a2,_,none⟩) a5.out _).trans (((cell_far (p:=⟨a2,_,none⟩) a5.out _).trans (((cell_far (p:=⟨a2,_,none⟩) a5.out _).trans (hHeld.2.2.2.2.2.2.1)))))),((cell_far (p:=⟨a2,_,none⟩) a5.out _).trans (((cell_far (p:=⟨a2,_,none⟩) a5.out _).trans (((cell_far (p:=⟨a2,_,none⟩) a5.out _).trans (hHeld.2.2.2.2.2.2.2.1)))))),((cell_far (p:=⟨a2,_,none⟩) a5.out _).trans (((cell_far (p:=⟨a2,_,none⟩) a5.out _).trans (((cell_far (p:=⟨a2,_,none⟩) a5.out _).trans (hHeld.2.2.2.2.2.2.2.2.1)))))),((cell_far (p:=⟨a2,_,none⟩) a5.out _).trans (((cell_far (p:=⟨a2,_,none⟩) a5.out _).trans (((cell_far (p:=⟨a2,_,none⟩) a5.out _).trans (hHeld.2.2.2.2.2.2.2.2.2.1)))))),((cell_far (p:=⟨a2,_,none⟩) a5.out _).trans (((cell_far (p:=⟨a2,_,none⟩) a5.out _).trans (((cell_far (p:=⟨a2,_,none⟩) a5.out _).trans (hHeld.2.2.2.2.2.2.2.2.2.2.1)))))),((cell_far (p:=⟨a2,_,none⟩) a5.out _).trans (((cell_far (p:=⟨a2,_,none⟩) a5.out _).trans (((cell_far (p:=⟨a2,_,none⟩) a5.out _).trans (hHeld.2.2.2.2.2.2.2.2.2.2.2.1)))))),((cell_far (p:=⟨a2,_,none⟩) a5.out _).trans (((cell_far (p:=⟨a2,_,none⟩) a5.out _).trans (((cell_far (p:=⟨a2,_,none⟩) a5.out _).trans (hHeld.2.2.2.2.2.2.2.2.2.2.2.2.1)))))),((cell_far (p:=⟨a2,_,none⟩) a5.out _).trans (((cell_far (p:=⟨a2,_,none⟩) a5.out _).trans (((cell_far (p:=⟨a2,_,none⟩) a5.out _).trans (hHeld.2.2.2.2.2.2.2.2.2.2.2.2.2.1)))))),((cell_far (p:=⟨a2,_,none⟩) a5.out _).trans (((cell_far (p:=⟨a2,_,none⟩) a5.out _).trans (((cell_far (p:=⟨a2,_,none⟩) a5.out _).trans (hHeld.2.2.2.2.2.2.2.2.2.2.2.2.2.2.1)))))),((cell_far (p:=⟨a2,_,none⟩) a5.out _).trans (((cell_far (p:=⟨a2,_,none⟩) a5.out _).trans (((cell_far (p:=⟨a2,_,none⟩) a5.out _).trans (hHeld.2.2.2.2.2.2.2.2.2.2.2.2.2.2.2))))))⟩ (fun hHeld=>?_)
        clear hK K
        refine qP 11 (some 9) (bN 12 4095) HT_ ?_
        refine Zx (Ze HT_.out kr) ?_
        try go_wp2
        have ξ :Aside0 (Kd.R k36 36 (((ce.setCell ⟨a2,0,none⟩ (.slice b0 am.length az)).setCell ⟨a2,1,none⟩ (.slice b3 an.length b4)).setCell ⟨a2,2,none⟩ (.slice b2 ao.length ap)) w.heap.size (fun k_=>k_≠b5) nb e6):=⟨by(with_reducible repeat first|apply Kd.Qq|apply Kd.Qp|apply Kd.Qr);exact Kd.Qw (Kd.Qx (Kd.Qx (Kd.Qx (Kd.Q5 bd.out ab.out (by decide)) (fun _ hk=>hk.2) _) (fun _ hk=>hk.2) _) (fun _ hk=>hk.2) _) (fun _ hk=>hk.1)⟩
        have ρ:Aside0 (Kd.R k86 86 (((ce.setCell ⟨a2,0,none⟩ (.slice b0 am.length az)).setCell ⟨a2,1,none⟩ (.slice b3 an.length b4)).setCell ⟨a2,2,none⟩ (.slice b2 ao.length ap)) w.heap.size (fun _=>True) nc e7):=⟨by(with_reducible repeat first|apply Kd.Qq|apply Kd.Qp|apply Kd.Qr);exact Kd.Qw (Kd.Qx (Kd.Qx (Kd.Qx (Kd.Q5 be.out ab.out (by decide)) (fun _ hk=>hk.2) _) (fun _ hk=>hk.2) _) (fun _ hk=>hk.2) _) (fun _ hk=>trivial)⟩
        have a3:Aside0 (Kd.R (Kd.int .i64) 3 (((ce.setCell ⟨a2,0,none⟩ (.slice b0 am.length az)).setCell ⟨a2,1,none⟩ (.slice b3 an.length b4)).setCell ⟨a2,2,none⟩ (.slice b2 ao.length ap)) w.heap.size (fun k_=>some k_≠(.slice b3 an.length b4:Value).ownBlock∧some k_≠(.slice b2 ao.length ap:Value).ownBlock) (.slice b0 am.length az) am):=⟨by(with_reducible repeat first|apply Kd.Qq|apply Kd.Qp|apply Kd.Qr);exact Kd.Qw (Kd.Qx (Kd.Qx (Kd.Qx (Kd.Q5 d4.out ab.out (by decide)) (fun _ hk=>hk.2) _) (fun _ hk=>hk.2) _) (fun _ hk=>hk.2) _) (fun _ hk=>⟨hk.1.1,hk.1.2⟩)⟩
        have a7:Aside0 (Kd.R (Kd.int .i64) 3 (((ce.setCell ⟨a2,0,none⟩ (.slice b0 am.length az)).setCell ⟨a2,1,none⟩ (.slice b3 an.length b4)).setCell ⟨a2,2,none⟩ (.slice b2 ao.length ap)) w.heap.size (fun k_=>some k_≠(.slice b0 am.length az:Value).ownBlock∧some k_≠(.slice b2 ao.length ap:Value).ownBlock) (.slice b3 an.length b4) an):=⟨by(with_reducible repeat first|apply Kd.Qq|apply Kd.Qp|apply Kd.Qr);exact Kd.Qw (Kd.Qx (Kd.Qx (Kd.Qx (Kd.Q5 d5.out ab.out (by decide)) (fun _ hk=>hk.2) _) (fun _ hk=>hk.2) _) (fun _ hk=>hk.2) _) (fun _ hk=>⟨hk.1.1,hk.1.2⟩)⟩
        have al:Aside0 (Kd.R (Kd.int .i64) 3 (((ce.setCell ⟨a2,0,none⟩ (.slice b0 am.length az)).setCell ⟨a2,1,none⟩ (.slice b3 an.length b4)).setCell ⟨a2,2,none⟩ (.slice b2 ao.length ap)) w.heap.size (fun k_=>some k_≠(.slice b0 am.length az:Value).ownBlock∧some k_≠(.slice b3 an.length b4:Value).ownBlock) (.slice b2 ao.length ap) ao):=⟨by(with_reducible repeat first|apply Kd.Qq|apply Kd.Qp|apply Kd.Qr);exact Kd.Qw (Kd.Qx (Kd.Qx (Kd.Qx (Kd.Q5 d6.out ab.out (by decide)) (fun _ hk=>hk.2) _) (fun _ hk=>hk.2) _) (fun _ hk=>hk.2) _) (fun _ hk=>⟨hk.1.1,hk.1.2⟩)⟩
        have b1:Aside0 ((((ce.setCell ⟨a2,0,none⟩ (.slice b0 am.length az)).setCell ⟨a2,1,none⟩ (.slice b3 an.length b4)).setCell ⟨a2,2,none⟩ (.slice b2 ao.length ap)).heap[ν]?=some (.cells #[.int .i64 J,.int .i64 O,.int .i64 X,.int .i64 Y,.int .i64 Z,.int .i64 δ,.int .i64 γ,.int .i64 ι,.int .i64 θ,.int .i64 η,.slice b9 μ.length ar,.int .i64 a4,.slice ag ω.length ah,.slice ai a0.length aj] 52 (0,0))):=⟨bka B⟩
        have b8:Aside0 ((((ce.setCell ⟨a2,0,none⟩ (.slice b0 am.length az)).setCell ⟨a2,1,none⟩ (.slice b3 an.length b4)).setCell ⟨a2,2,none⟩ (.slice b2 ao.length ap)).heap[b5]?=some (.cells #[.int .i64 ζ,.int .i64 ε,.int .i64 κ] 36 (0,0))):=⟨bka τ⟩
        have bi:Aside0 ((((ce.setCell ⟨a2,0,none⟩ (.slice b0 am.length az)).setCell ⟨a2,1,none⟩ (.slice b3 an.length b4)).setCell ⟨a2,2,none⟩ (.slice b2 ao.length ap)).heap[b6]?=some (.cells #[.int .i64 J,.int .i64 (μ.length:Int)] 59 (0,0))):=⟨bka φ⟩
        have cf:Aside0 ((((ce.setCell ⟨a2,0,none⟩ (.slice b0 am.length az)).setCell ⟨a2,1,none⟩ (.slice b3 an.length b4)).setCell ⟨a2,2,none⟩ (.slice b2 ao.length ap)).heap[a2]?=some (.cells #[.slice b0 am.length az,.slice b3 an.length b4,.slice b2 ao.length ap] 34 (0,0))):=⟨by refine Ql (cs:=#[.slice b0 am.length az,.slice b3 an.length b4,.slice none 0 0]) ?_ 2 _ rfl;refine Ql (cs:=#[.slice b0 am.length az,.slice none 0 0,.slice none 0 0]) ?_ 1 _ rfl;refine Ql (cs:=#[.slice none 0 0,.slice none 0 0,.slice none 0 0]) ?_ 0 _ rfl;exact ab.out⟩
        have cx:Aside0 (Below w.heap.size w (((ce.setCell ⟨a2,0,none⟩ (.slice b0 am.length az)).setCell ⟨a2,1,none⟩ (.slice b3 an.length b4)).setCell ⟨a2,2,none⟩ (.slice b2 ao.length ap))):=⟨bel⟩
        (try clear bd)
        (try clear be)
        (try clear d4)
        (try clear d5)
        (try clear d6)
        (try clear B)
        (try clear τ)
        (try clear φ)
        (try clear ab)
        (try clear HB)
        generalize(((ce.setCell ⟨a2,0,none⟩ (.slice b0 am.length az)).setCell ⟨a2,1,none⟩ (.slice b3 an.length b4)).setCell ⟨a2,2,none⟩ (.slice b2 ao.length ap))=r4 at ξ ρ a3 a7 al b1 b8 bi cf cx ⊢
        have bd:= ξ
        have be:=ρ
        have d4:=a3
        have d5:=a7
        have d6:=al
        have B:=b1
        have τ :=b8
        have φ :=bi
        have ab:=cf
        have HB:=cx
        clear ξ ρ a3 a7 al b1 b8 bi cf cx
        replace bd:=Aside0.mk (Kd.Qr bd.out)
        replace be:=Aside0.mk (Kd.Qr be.out)
        replace d4:=Aside0.mk (Kd.Qr d4.out)
        replace d5:=Aside0.mk (Kd.Qr d5.out)
        replace d6:=Aside0.mk (Kd.Qr d6.out)
        replace B:=Aside0.mk (Qe B.out)
        replace τ :=Aside0.mk (Qe τ.out)
        replace φ :=Aside0.mk (Qe φ.out)
        replace ab:=Aside0.mk (Qe ab.out)
        replace HB:=Aside0.mk (Qg HB.out)
        have l3:0≤(ψ :Int):=of_decide_eq_true (by assumption)
        have l4: ψ < (μ.length:Int):=of_decide_eq_true (by assumption)
        obtain⟨ak,u7,en,eo,ep,er,et,eu,ev,ew,ey,ez⟩:=Kh gp.out ψ l3 l4
        have ij:=ez
        have ik:=ey
        have il:=ew
        have im:=ev
        have io:=eu
        have ip:=et
        have iq:=er
        have ir:=ep
        have it:=eo
        have iu:=en
        cases u7
        replace en:=(HB.out.cell (World.block_lt_of_cell? w _ en)).trans en
        replace eo:=(HB.out.cell (World.block_lt_of_cell? w _ eo)).trans eo
        replace ep:=(HB.out.cell (World.block_lt_of_cell? w _ ep)).trans ep
        replace er:=(HB.out.cell (World.block_lt_of_cell? w _ er)).trans er
        replace et:=(HB.out.cell (World.block_lt_of_cell? w _ et)).trans et
        replace eu:=(HB.out.cell (World.block_lt_of_cell? w _ eu)).trans eu
        replace ev:=(HB.out.cell (World.block_lt_of_cell? w _ ev)).trans ev
        replace ew:=(HB.out.cell (World.block_lt_of_cell? w _ ew)).trans ew
        replace ey:=(HB.out.cell (World.block_lt_of_cell? w _ ey)).trans ey
        replace ez:=(HB.out.cell (World.block_lt_of_cell? w _ ez)).trans ez
        replace l3:=eq_true l3
        replace l4:=eq_true l4
        refine Zi (n:=15) (S:=fun w'=>w'.cell? ⟨ν,0,none⟩=some (.int .i64 J)∧w'.cell? ⟨ν,1,none⟩=some (.int .i64 O)∧w'.cell? ⟨ν,2,none⟩=some (.int .i64 X)∧w'.cell? ⟨ν,3,none⟩=some (.int .i64 Y)∧w'.cell? ⟨ν,4,none⟩=some (.int .i64 Z)∧w'.cell? ⟨ν,5,none⟩=some (.int .i64 δ)∧w'.cell? ⟨ν,6,none⟩=some (.int .i64 γ)∧w'.cell? ⟨ν,7,none⟩=some (.int .i64 ι)∧w'.cell? ⟨ν,8,none⟩=some (.int .i64 θ)∧w'.cell? ⟨ν,9,none⟩=some (.int .i64 η)∧w'.cell? ⟨ν,10,none⟩=some (.slice (some ak) μ.length ar)∧w'.cell? ⟨ν,11,none⟩=some (.int .i64 a4)∧w'.cell? ⟨ν,12,none⟩=some (.slice ag ω.length ah)∧w'.cell? ⟨ν,13,none⟩=some (.slice ai a0.length aj)∧w'.cell? ⟨a2,0,none⟩=some (.slice b0 am.length az)∧w'.cell? ⟨a2,1,none⟩=some (.slice b3 an.length b4)∧w'.cell? ⟨a2,2,none⟩=some (.slice b2 ao.length ap)∧w'.cell? ⟨b5,0,none⟩=some (.int .i64 ζ)∧w'.cell? ⟨b5,1,none⟩=some (.int .i64 ε)∧w'.cell? ⟨b5,2,none⟩=some (.int .i64 κ)∧w'.cell? (ak.add ((ψ).toNat * 10))=some (.int .i64 ((Qb μ ψ).f0.f0))∧w'.cell? ⟨(ak.add ((ψ).toNat * 10)).block,(ak.add ((ψ).toNat * 10)).off+1,none⟩=some (.int .i64 ((Qb μ ψ).f0.f1))∧w'.cell? ⟨(ak.add ((ψ).toNat * 10)).block,(ak.add ((ψ).toNat * 10)).off+2,none⟩=some (.int .i64 ((Qb μ ψ).f0.f2))∧w'.cell? ⟨(ak.add ((ψ).toNat * 10)).block,(ak.add ((ψ).toNat * 10)).off+3,none⟩=some (.int .i64 ((Qb μ ψ).f0.f3))∧w'.cell? ⟨(ak.add ((ψ).toNat * 10)).block,(ak.add ((ψ).toNat * 10)).off+4,none⟩=some (.int .i64 ((Qb μ ψ).f0.f4.f0))∧w'.cell? ⟨(ak.add ((ψ).toNat * 10)).block,(ak.add ((ψ).toNat * 10)).off+5,none⟩=some (.int .i64 ((Qb μ ψ).f0.f4.f1))∧w'.cell? ⟨(ak.add ((ψ).toNat * 10)).block,(ak.add ((ψ).toNat * 10)).off+6,none⟩=some (.int .i64 ((Qb μ ψ).f0.f4.f2))∧w'.cell? ⟨(ak.add ((ψ).toNat * 10)).block,(ak.add ((ψ).toNat * 10)).off+7,none⟩=some (.int .i64 ((Qb μ ψ).f1))∧w'.cell? ⟨(ak.add ((ψ).toNat * 10)).block,(ak.add ((ψ).toNat * 10)).off+8,none⟩=some (.bool ((Qb μ ψ).f2))∧w'.cell? ⟨(ak.add ((ψ).toNat * 10)).block,(ak.add ((ψ).toNat * 10)).off+9,none⟩=some (.bool ((Qb μ ψ).f3))) (ds:=[]) #[false,false,false,false,false,false,false,false,false,false,false,false,false,false,false] kr rfl rfl ⟨(Qa B.out 0).trans rfl,(Qa B.out 1).trans rfl,(Qa B.out 2).trans rfl,(Qa B.out 3).trans rfl,(Qa B.out 4).trans rfl,(Qa B.out 5).trans rfl,(Qa B.out 6).trans rfl,(Qa B.out 7).trans rfl,(Qa B.out 8).trans rfl,(Qa B.out 9).trans rfl,(Qa B.out 10).trans rfl,(Qa B.out 11).trans rfl,(Qa B.out 12).trans rfl,(Qa B.out 13).trans rfl,(Qa ab.out 0).trans rfl,(Qa ab.out 1).trans rfl,(Qa ab.out 2).trans rfl,(Qa τ.out 0).trans rfl,(Qa τ.out 1).trans rfl,(Qa τ.out 2).trans rfl,((HB.out.cell (World.block_lt_of_cell? w _ iu)).trans iu),((HB.out.cell (World.block_lt_of_cell? w _ it)).trans it),((HB.out.cell (World.block_lt_of_cell? w _ ir)).trans ir),((HB.out.cell (World.block_lt_of_cell? w _ iq)).trans iq),((HB.out.cell (World.block_lt_of_cell? w _ ip)).trans ip),((HB.out.cell (World.block_lt_of_cell? w _ io)).trans io),((HB.out.cell (World.block_lt_of_cell? w _ im)).trans im),((HB.out.cell (World.block_lt_of_cell? w _ il)).trans il),((HB.out.cell (World.block_lt_of_cell? w _ ik)).trans ik),((HB.out.cell (World.block_lt_of_cell? w _ ij)).trans ij)⟩ (fun hHeld=>?_);refine Q9 newellaw21_GroupBest.tab10 newellaw21_GroupBest.Dn (fun HT_ HW_=>?_)
        generalize r4.drew=y6 at bd be d4 d5 d6 B τ φ ab HB en eo ep er et eu ev ew ey ez hHeld ⊢
        refine qP 0 (some 64) (bN 15 1) HT_ ?_
        refine qP 2 (some 66) (bN 15 5) HT_ ?_
        refine qP 4 (some 68) (bN 15 21) HT_ ?_
        refine qT 1 (some 65) (bN 15 23) HT_ HW_ hHeld ?_
        refine qT 3 (some 67) (bN 15 31) HT_ HW_ hHeld ?_
        refine qP 5 (some 69) (bN 15 63) HT_ ?_
        refine qT 6 (some 70) (bN 15 127) HT_ HW_ hHeld ?_
        refine qT 7 (some 71) (bN 15 255) HT_ HW_ hHeld ?_
        refine qT 8 (some 72) (bN 15 511) HT_ HW_ hHeld ?_
        refine Zb (i:=9) (N:=some 73) (bN 15 1023) rfl rfl (Q4 HT_.out kr) (by decide) (fun K hK=>?_)
        refine Za Try.func10 kr rfl #[.agg #[.int .i64 J,.int .i64 O,.int .i64 X,.int .i64 Y,.int .i64 Z,.int .i64 δ,.int .i64 γ,.int .i64 ι,.int .i64 θ,.int .i64 η],.agg #[.int .i64 ((Qb μ ψ).f0.f0),.int .i64 ((Qb μ ψ).f0.f1),.int .i64 ((Qb μ ψ).f0.f2),.int .i64 ((Qb μ ψ).f0.f3),.int .i64 ((Qb μ ψ).f0.f4.f0),.int .i64 ((Qb μ ψ).f0.f4.f1),.int .i64 ((Qb μ ψ).f0.f4.f2),.int .i64 ((Qb μ ψ).f1),.bool ((Qb μ ψ).f2),.bool ((Qb μ ψ).f3)],.agg #[.slice b0 am.length az,.slice b3 an.length b4,.slice b2 ao.length ap],.agg #[.int .i64 ζ,.int .i64 ε,.int .i64 κ]] (by rfl) rfl rfl qM ?_
        with_reducible refine(group_Cost.calls em J O X Y Z δ γ ι θ η ((Qb μ ψ).f0.f0) ((Qb μ ψ).f0.f1) ((Qb μ ψ).f0.f2) ((Qb μ ψ).f0.f3) ((Qb μ ψ).f0.f4.f0) ((Qb μ ψ).f0.f4.f1) ((Qb μ ψ).f0.f4.f2) ((Qb μ ψ).f1) ((Qb μ ψ).f2) ((Qb μ ψ).f3) _ _ am _ _ an _ _ ao ζ ε κ bb l2 _ ?side1 ?side2 ?side3 ?side4 ?side5 ?side6 qy.out).mono ?_
        (case side1=>exact(Kd.Qu d4.out).2.2)
        (case side2=>exact(Kd.Qu d4.out).2.1)
        (case side3=>exact(Kd.Qu d5.out).2.2)
        (case side4=>exact(Kd.Qu d5.out).2.1)
        (case side5=>exact(Kd.Qu d6.out).2.2)
        (case side6=>exact(Kd.Qu d6.out).2.1)
        rintro e gh ⟨rfl,hb⟩
        refine⟨_,rfl, ?_⟩
        replace bd:=sRb bd hb
        replace be:=sRb be hb
        replace d4:=sRb d4 hb
        replace d5:=sRb d5 hb
        replace d6:=sRb d6 hb
        replace B:=sBk B hb
        replace τ :=sBk τ hb
        replace φ :=sBk φ hb
        replace ab:=sBk ab hb
        replace HB:=sHb hb
        (try clear hb)
        (try clear ac)
        (try clear hk)
        (try clear hi)
        refine hK.out _ _ ⟨qc B,qc B,qc B,qc B,qc B,qc B,qc B,qc B,qc B,qc B,qc B,qc B,qc B,qc B,qc ab,qc ab,qc ab,qc τ,qc τ,qc τ,((HB.out.cell (World.block_lt_of_cell? w _ iu)).trans iu),((HB.out.cell (World.block_lt_of_cell? w _ it)).trans it),((HB.out.cell (World.block_lt_of_cell? w _ ir)).trans ir),((HB.out.cell (World.block_lt_of_cell? w _ iq)).trans iq),((HB.out.cell (World.block_lt_of_cell? w _ ip)).trans ip),((HB.out.cell (World.block_lt_of_cell? w _ io)).trans io),((HB.out.cell (World.block_lt_of_cell? w _ im)).trans im),((HB.out.cell (World.block_lt_of_cell? w _ il)).trans il),((HB.out.cell (World.block_lt_of_cell? w _ ik)).trans ik),((HB.out.cell (World.block_lt_of_cell? w _ ij)).trans ij)⟩ (fun hHeld=>?_)
        clear hK K
        refine qN (some 73) ?_
        refine qP 10 (some 63) (bN 15 2047) HT_ ?_
        refine qP 11 (some 74) (bN 15 4095) HT_ ?_
        refine qP 12 (some 75) (bN 15 8191) HT_ ?_
        refine qP 13 (some 10) (bN 15 16383) HT_ ?_
        refine qP 14 (some 11) (bN 15 32767) HT_ ?_
        refine Zx (Ze HT_.out kr) ?_
        go_upto_region 11 with(fail)
        go_cut [90] (fun ya wc=>∃ (kq:Nat) (jt:Bool),ya = .bool jt∧Aside0 (newellaw21_GroupBest.j1 kq ψ bb jt J O X Y Z δ γ ι θ η μ a4 ω a0 ζ ε κ J (μ.length:Int)=some r)∧Aside0 (kq≤em)∧Aside0 (Kd.R (Kd.int .i64) 3 wc w.heap.size (fun k_=>some k_≠((.slice b3 an.length b4):Value).ownBlock∧some k_≠((.slice b2 ao.length ap):Value).ownBlock) (.slice b0 am.length az) am)∧Aside0 (Kd.R (Kd.int .i64) 3 wc w.heap.size (fun k_=>some k_≠((.slice b0 am.length az):Value).ownBlock∧some k_≠((.slice b2 ao.length ap):Value).ownBlock) (.slice b3 an.length b4) an)∧Aside0 (Kd.R (Kd.int .i64) 3 wc w.heap.size (fun k_=>some k_≠((.slice b0 am.length az):Value).ownBlock∧some k_≠((.slice b3 an.length b4):Value).ownBlock) (.slice b2 ao.length ap) ao)∧Aside0 (wc.heap[ν]?=some (.cells #[.int .i64 J,.int .i64 O,.int .i64 X,.int .i64 Y,.int .i64 Z,.int .i64 δ,.int .i64 γ,.int .i64 ι,.int .i64 θ,.int .i64 η,(.slice (some ak) μ.length ar),.int .i64 a4,(.slice ag ω.length ah),(.slice ai a0.length aj)] 52 (0,0)))∧Aside0 (wc.heap[b5]?=some (.cells #[.int .i64 ζ,.int .i64 ε,.int .i64 κ] 36 (0,0)))∧Aside0 (wc.heap[b6]?=some (.cells #[.int .i64 J,.int .i64 (μ.length:Int)] 59 (0,0)))∧Aside0 (wc.heap[a2]?=some (.cells #[(.slice b0 am.length az),(.slice b3 an.length b4),(.slice b2 ao.length ap)] 34 (0,0)))∧Aside0 (Below w.heap.size w wc))
        case first=>
         have H:=ov.out
         clear ov
         by_cases fz:gb=0
         ·rw[if_pos fz] at H
          have c53b0:(gb==0)=true:=beq_iff_eq.mpr fz
          have c53b1:(gb != 0)=false:=bne_eq_false_iff_eq.mpr fz
          clear fz
          (first|rw[c53b0]|(simp only[Zg,Zl];rw[c53b0])|skip)
          by_cases gw:l2=0
          ·rw[if_pos gw] at H
           have c54b0:(l2==0)=true:=beq_iff_eq.mpr gw
           have c54b1:(l2 != 0)=false:=bne_eq_false_iff_eq.mpr gw
           clear gw
           obtain⟨i3,qe⟩:∃ j_:Int,(IntKind.u64.wrap (ψ))=j_:=⟨_,rfl⟩
           replace H:(if 0≤(i3) then (newellaw21_GroupBest.j1 em ψ bb ((Go.bits .and .i64 (shr .i64 a4 (i3)) 1)==1) J O X Y Z δ γ ι θ η μ a4 ω a0 ζ ε κ J (μ.length:Int)) else (none))=some r:=by first|(rw[qe] at H;exact H)|(simp only[qe] at H ⊢;exact H)
           by_cases ga:0≤(i3)
           ·rw[if_pos ga] at H
            have c56b0:=eq_true ga
            have c56b1:decide (0≤(i3))=true:=decide_eq_true ga
            clear ga
            obtain⟨nd,ju⟩:∃ j_:Int,(shr .i64 a4 (i3))=j_:=⟨_,rfl⟩
            replace H:(newellaw21_GroupBest.j1 em ψ bb ((Go.bits .and .i64 (nd) 1)==1) J O X Y Z δ γ ι θ η μ a4 ω a0 ζ ε κ J (μ.length:Int))=some r:=by first|(rw[ju] at H;exact H)|(simp only[ju] at H ⊢;exact H)
            have yb:(a4 / 2 ^ min (i3).toNat 64)=nd:=ju
            have hji57z:(i3)≤64→(a4 / 2 ^ (i3).toNat)=nd:=Jw ju
            have H':=Aside0.mk H
            clear H
            have sc:=d9.out
            have sd:=da.out
            have q8:=dy.out
            have q9:=dz.out
            have my:=a5.out
            have mz:=bq.out
            have m4:gh.cell? ⟨ν,0,none⟩=some (.int .i64 J):=(Qa B.out 0).trans rfl
            have m5:gh.cell? ⟨ν,1,none⟩=some (.int .i64 O):=(Qa B.out 1).trans rfl
            have m6:gh.cell? ⟨ν,2,none⟩=some (.int .i64 X):=(Qa B.out 2).trans rfl
            have m7:gh.cell? ⟨ν,3,none⟩=some (.int .i64 Y):=(Qa B.out 3).trans rfl
            have m8:gh.cell? ⟨ν,4,none⟩=some (.int .i64 Z):=(Qa B.out 4).trans rfl
            have m9:gh.cell? ⟨ν,5,none⟩=some (.int .i64 δ):=(Qa B.out 5).trans rfl
            have ma:gh.cell? ⟨ν,6,none⟩=some (.int .i64 γ):=(Qa B.out 6).trans rfl
            have mb:gh.cell? ⟨ν,7,none⟩=some (.int .i64 ι):=(Qa B.out 7).trans rfl
            have mc:gh.cell? ⟨ν,8,none⟩=some (.int .i64 θ):=(Qa B.out 8).trans rfl
            have me:gh.cell? ⟨ν,9,none⟩=some (.int .i64 η):=(Qa B.out 9).trans rfl
            have l5:gh.cell? ⟨ν,10,none⟩=some (.slice (some ak) μ.length ar):=(Qa B.out 10).trans rfl
            have l6:gh.cell? ⟨ν,11,none⟩=some (.int .i64 a4):=(Qa B.out 11).trans rfl
            have l7:gh.cell? ⟨ν,12,none⟩=some (.slice ag ω.length ah):=(Qa B.out 12).trans rfl
            have l8:gh.cell? ⟨ν,13,none⟩=some (.slice ai a0.length aj):=(Qa B.out 13).trans rfl
            have mf:=Qc B.out 0
            have mg:=Qc B.out 1
            have mh:=Qc B.out 2
            have mi:=Qc B.out 3
            have mj:=Qc B.out 4
            have ml:=Qc B.out 5
            have mm:=Qc B.out 6
            have mo:=Qc B.out 7
            have mq:=Qc B.out 8
            have mr:=Qc B.out 9
            have l9:=Qc B.out 10
            have lb:=Qc B.out 11
            have lc:=Qc B.out 12
            have lf:=Qc B.out 13
            go_wp2
            go_meet
            case rel=>exact⟨_,(((Go.bits .and .i64 (nd) 1)==1)),(by first|rfl|(simp;done)|(simp only[← ju] <;> (first|rfl|simp))|(simp[*];done)),H',⟨by have:=m3.out;omega⟩,⟨by(with_reducible repeat first|apply Kd.Qq|apply Kd.Qp|apply Kd.Qr);exact d4.out⟩,⟨by(with_reducible repeat first|apply Kd.Qq|apply Kd.Qp|apply Kd.Qr);exact d5.out⟩,⟨by(with_reducible repeat first|apply Kd.Qq|apply Kd.Qp|apply Kd.Qr);exact d6.out⟩,B,τ,φ,ab,HB⟩
           ·rw[if_neg ga] at H
            exact absurd H (by simp)
          ·rw[if_neg gw] at H
           exact absurd H (by simp)
         ·rw[if_neg fz] at H
          exact absurd H (by simp)
        case rest=>
         clear ov
         try clear c1
         try clear c2
         try clear p2
         try clear c5
         try clear p5
         try clear q5
         try clear qd
         try clear c6
         try clear c10
         try clear ci
         try clear gn
         try clear fz
         try clear c53b0
         try clear c53b1
         try clear gw
         try clear c54b0
         try clear c54b1
         try clear p55
         try clear sx
         try clear u9
         try clear ga
         try clear c56b0
         try clear c56b1
         try clear ge
         try clear kh
         try clear jp
         try clear m4
         try clear m5
         try clear l5
         try clear l6
         try clear l7
         try clear l8
         try clear m6
         try clear m7
         try clear m8
         try clear m9
         try clear ma
         try clear mb
         try clear mc
         try clear me
         try clear mf
         try clear mg
         try clear l9
         try clear lb
         try clear lc
         try clear lf
         try clear mh
         try clear mi
         try clear mj
         try clear ml
         try clear mm
         try clear mo
         try clear mq
         try clear mr
         try clear en
         try clear eo
         try clear ep
         try clear er
         try clear et
         try clear eu
         try clear ev
         try clear ew
         try clear ey
         try clear ez
         try clear l3
         try clear l4
         obtain⟨kq,jt,rfl,HA,lg,a8,a9,aa,B,τ,φ,ab,HB⟩:=hcut
         cases kq with
         |zero=>exact absurd HA.out (by simp[newellaw21_GroupBest.j1])
         |succ ow=>
          have H:=HA.out
          clear HA
          simp only[newellaw21_GroupBest.j1] at H
          by_cases gf:jt=true
          ·subst gf
           have H1:(none)=some r:=by rw[if_pos rfl] at H;exact H
           clear H
           have H:=H1
           clear H1
           exact absurd H (by simp)
          ·replace gf:=Bool.eq_false_iff.mpr gf
           subst gf
           have H1:(newellaw21_GroupBest.l0 ow ψ bb 0 J O X Y Z δ γ ι θ η μ a4 ω a0 ζ ε κ J (μ.length:Int))=some r:=by rw[if_neg (show ¬ (false=true) by decide)] at H;exact H
           clear H
           have H:=H1
           clear H1
           have H':=Aside0.mk H
           clear H
           go_wp2
           go_loopg [12] ow (fun kq r1 w'=>∃ (χ :Int),r1 = .int .i64 χ ∧ Aside0 (newellaw21_GroupBest.l0 kq ψ bb χ J O X Y Z δ γ ι θ η μ a4 ω a0 ζ ε κ J (μ.length:Int)=some r)∧Aside0 (kq≤ow)∧Aside0 (Kd.R (Kd.int .i64) 3 w' w.heap.size (fun k_=>some k_≠((.slice b3 an.length b4):Value).ownBlock∧some k_≠((.slice b2 ao.length ap):Value).ownBlock) (.slice b0 am.length az) am)∧Aside0 (Kd.R (Kd.int .i64) 3 w' w.heap.size (fun k_=>some k_≠((.slice b0 am.length az):Value).ownBlock∧some k_≠((.slice b2 ao.length ap):Value).ownBlock) (.slice b3 an.length b4) an)∧Aside0 (Kd.R (Kd.int .i64) 3 w' w.heap.size (fun k_=>some k_≠((.slice b0 am.length az):Value).ownBlock∧some k_≠((.slice b3 an.length b4):Value).ownBlock) (.slice b2 ao.length ap) ao)∧Aside0 (w'.heap[ν]?=some (.cells #[.int .i64 J,.int .i64 O,.int .i64 X,.int .i64 Y,.int .i64 Z,.int .i64 δ,.int .i64 γ,.int .i64 ι,.int .i64 θ,.int .i64 η,(.slice (some ak) μ.length ar),.int .i64 a4,(.slice ag ω.length ah),(.slice ai a0.length aj)] 52 (0,0)))∧Aside0 (w'.heap[b5]?=some (.cells #[.int .i64 ζ,.int .i64 ε,.int .i64 κ] 36 (0,0)))∧Aside0 (w'.heap[b6]?=some (.cells #[.int .i64 J,.int .i64 (μ.length:Int)] 59 (0,0)))∧Aside0 (w'.heap[a2]?=some (.cells #[(.slice b0 am.length az),(.slice b3 an.length b4),(.slice b2 ao.length ap)] 34 (0,0)))∧Aside0 (Below w.heap.size w w'))
           case atStart=>exact⟨(0),rfl,H',⟨Nat.le_refl _⟩,⟨by(with_reducible repeat first|apply Kd.Qq|apply Kd.Qp|apply Kd.Qr);exact a8.out⟩,⟨by(with_reducible repeat first|apply Kd.Qq|apply Kd.Qp|apply Kd.Qr);exact a9.out⟩,⟨by(with_reducible repeat first|apply Kd.Qq|apply Kd.Qp|apply Kd.Qr);exact aa.out⟩,B,τ,φ,ab,HB⟩
           case round=>
            clear H'
            try clear c1
            try clear c2
            try clear p2
            try clear c5
            try clear p5
            try clear q5
            try clear qd
            try clear c6
            try clear c10
            try clear ci
            try clear gn
            try clear fz
            try clear c53b0
            try clear c53b1
            try clear gw
            try clear c54b0
            try clear c54b1
            try clear p55
            try clear sx
            try clear u9
            try clear ga
            try clear c56b0
            try clear c56b1
            try clear ge
            try clear kh
            try clear jp
            try clear gf
            try clear m4
            try clear m5
            try clear l5
            try clear l6
            try clear l7
            try clear l8
            try clear m6
            try clear m7
            try clear m8
            try clear m9
            try clear ma
            try clear mb
            try clear mc
            try clear me
            try clear mf
            try clear mg
            try clear l9
            try clear lb
            try clear lc
            try clear lf
            try clear mh
            try clear mi
            try clear mj
            try clear ml
            try clear mm
            try clear mo
            try clear mq
            try clear mr
            try clear en
            try clear eo
            try clear ep
            try clear er
            try clear et
            try clear eu
            try clear ev
            try clear ew
            try clear ey
            try clear ez
            try clear p2
            try clear p5
            try clear p55
            try clear l3
            try clear q5
            try clear sx
            try clear l4
            obtain⟨χ,rfl,HA,nu,a8,a9,aa,B,τ,φ,ab,HB⟩:=hrel
            cases gk with
            |zero=>exact absurd HA.out (by simp[newellaw21_GroupBest.l0])
            |succ k3=>
             have H:=HA.out
             clear HA
             simp only[newellaw21_GroupBest.l0] at H
             by_cases kt: χ < (μ.length:Int)
             ·rw[if_pos kt] at H
              have c63b0:decide (χ < (μ.length:Int))=true:=decide_eq_true kt
              clear kt
              replace H:=Option.bind_eq_some_iff.mp H
              obtain⟨⟨e8,e9⟩,rq,H⟩:=H
              replace H:((call_View.f k3 J (μ.length:Int) e8 e9 χ).bind fun gy=>(if 0 ≤ χ then ((group_Cost.f k3 J O X Y Z δ γ ι θ η ((Qb μ χ).f0.f0) ((Qb μ χ).f0.f1) ((Qb μ χ).f0.f2) ((Qb μ χ).f0.f3) ((Qb μ χ).f0.f4.f0) ((Qb μ χ).f0.f4.f1) ((Qb μ χ).f0.f4.f2) ((Qb μ χ).f1) ((Qb μ χ).f2) ((Qb μ χ).f3) gy.1 gy.2.1 gy.2.2.1 ζ ε κ).bind fun gg=>(if 0≤(IntKind.u64.wrap (χ)) then (if (Go.bits .and .i64 (shr .i64 a4 (IntKind.u64.wrap (χ))) 1)=0 then (if gg.1<bb then (none) else (if gg.1=bb then (newellaw21_GroupBest.j3 k3 ψ bb χ (decide (χ < ψ)) J O X Y Z δ γ ι θ η μ a4 ω a0 ζ ε κ J (μ.length:Int)) else (newellaw21_GroupBest.j3 k3 ψ bb χ false J O X Y Z δ γ ι θ η μ a4 ω a0 ζ ε κ J (μ.length:Int)))) else (newellaw21_GroupBest.j3 k3 ψ bb χ false J O X Y Z δ γ ι θ η μ a4 ω a0 ζ ε κ J (μ.length:Int))) else (none))) else (none)))=some r:=H
              have sy:=Aside0.mk rq
              clear rq
              replace H:=Option.bind_eq_some_iff.mp H
              obtain⟨⟨ba,bc,bh,ka⟩,rr,H⟩:=H
              replace H:(if 0 ≤ χ then ((group_Cost.f k3 J O X Y Z δ γ ι θ η ((Qb μ χ).f0.f0) ((Qb μ χ).f0.f1) ((Qb μ χ).f0.f2) ((Qb μ χ).f0.f3) ((Qb μ χ).f0.f4.f0) ((Qb μ χ).f0.f4.f1) ((Qb μ χ).f0.f4.f2) ((Qb μ χ).f1) ((Qb μ χ).f2) ((Qb μ χ).f3) ba bc bh ζ ε κ).bind fun gg=>(if 0≤(IntKind.u64.wrap (χ)) then (if (Go.bits .and .i64 (shr .i64 a4 (IntKind.u64.wrap (χ))) 1)=0 then (if gg.1<bb then (none) else (if gg.1=bb then (newellaw21_GroupBest.j3 k3 ψ bb χ (decide (χ < ψ)) J O X Y Z δ γ ι θ η μ a4 ω a0 ζ ε κ J (μ.length:Int)) else (newellaw21_GroupBest.j3 k3 ψ bb χ false J O X Y Z δ γ ι θ η μ a4 ω a0 ζ ε κ J (μ.length:Int)))) else (newellaw21_GroupBest.j3 k3 ψ bb χ false J O X Y Z δ γ ι θ η μ a4 ω a0 ζ ε κ J (μ.length:Int))) else (none))) else (none))=some r:=H
              have rs:=Aside0.mk rr
              clear rr
              by_cases qf:0 ≤ χ
              ·rw[if_pos qf] at H
               have c66b0:decide (0 ≤ χ)=true:=decide_eq_true qf
               clear qf
               replace H:=Option.bind_eq_some_iff.mp H
               obtain⟨⟨ek,ua⟩,rt,H⟩:=H
               replace H:(if 0≤(IntKind.u64.wrap (χ)) then (if (Go.bits .and .i64 (shr .i64 a4 (IntKind.u64.wrap (χ))) 1)=0 then (if ek<bb then (none) else (if ek=bb then (newellaw21_GroupBest.j3 k3 ψ bb χ (decide (χ < ψ)) J O X Y Z δ γ ι θ η μ a4 ω a0 ζ ε κ J (μ.length:Int)) else (newellaw21_GroupBest.j3 k3 ψ bb χ false J O X Y Z δ γ ι θ η μ a4 ω a0 ζ ε κ J (μ.length:Int)))) else (newellaw21_GroupBest.j3 k3 ψ bb χ false J O X Y Z δ γ ι θ η μ a4 ω a0 ζ ε κ J (μ.length:Int))) else (none))=some r:=H
               have yc:=Aside0.mk rt
               clear rt
               have ox:=Aside0.mk H
               clear H
               have qa:=d9.out
               have qb:=da.out
               have si:=dy.out
               have sj:=dz.out
               have yt:=a5.out
               have yu:=bq.out
               have wx:wr.cell? ⟨ν,0,none⟩=some (.int .i64 J):=(Qa B.out 0).trans rfl
               have wy:wr.cell? ⟨ν,1,none⟩=some (.int .i64 O):=(Qa B.out 1).trans rfl
               have wz:wr.cell? ⟨ν,2,none⟩=some (.int .i64 X):=(Qa B.out 2).trans rfl
               have x0:wr.cell? ⟨ν,3,none⟩=some (.int .i64 Y):=(Qa B.out 3).trans rfl
               have x1:wr.cell? ⟨ν,4,none⟩=some (.int .i64 Z):=(Qa B.out 4).trans rfl
               have x2:wr.cell? ⟨ν,5,none⟩=some (.int .i64 δ):=(Qa B.out 5).trans rfl
               have x3:wr.cell? ⟨ν,6,none⟩=some (.int .i64 γ):=(Qa B.out 6).trans rfl
               have x4:wr.cell? ⟨ν,7,none⟩=some (.int .i64 ι):=(Qa B.out 7).trans rfl
               have x5:wr.cell? ⟨ν,8,none⟩=some (.int .i64 θ):=(Qa B.out 8).trans rfl
               have x6:wr.cell? ⟨ν,9,none⟩=some (.int .i64 η):=(Qa B.out 9).trans rfl
               have ub:wr.cell? ⟨ν,10,none⟩=some (.slice (some ak) μ.length ar):=(Qa B.out 10).trans rfl
               have uc:wr.cell? ⟨ν,11,none⟩=some (.int .i64 a4):=(Qa B.out 11).trans rfl
               have ud:wr.cell? ⟨ν,12,none⟩=some (.slice ag ω.length ah):=(Qa B.out 12).trans rfl
               have ue:wr.cell? ⟨ν,13,none⟩=some (.slice ai a0.length aj):=(Qa B.out 13).trans rfl
               have x7:=Qc B.out 0
               have x8:=Qc B.out 1
               have x9:=Qc B.out 2
               have xa:=Qc B.out 3
               have xb:=Qc B.out 4
               have xc:=Qc B.out 5
               have xd:=Qc B.out 6
               have xe:=Qc B.out 7
               have xf:=Qc B.out 8
               have xg:=Qc B.out 9
               have uf:=Qc B.out 10
               have ug:=Qc B.out 11
               have uh:=Qc B.out 12
               have ui:=Qc B.out 13
               try go_wp2
               replace a8:=Aside0.mk (Kd.Qr a8.out)
               replace a9:=Aside0.mk (Kd.Qr a9.out)
               replace aa:=Aside0.mk (Kd.Qr aa.out)
               replace B:=Aside0.mk (Qe B.out)
               replace τ :=Aside0.mk (Qe τ.out)
               replace φ :=Aside0.mk (Qe φ.out)
               replace ab:=Aside0.mk (Qe ab.out)
               replace HB:=Aside0.mk (Qg HB.out)
               refine Zi (n:=12) (S:=fun w'=>w'.cell? ⟨b6,0,none⟩=some (.int .i64 J)∧w'.cell? ⟨b6,1,none⟩=some (.int .i64 (μ.length:Int))∧w'.cell? ⟨ν,0,none⟩=some (.int .i64 J)∧w'.cell? ⟨ν,1,none⟩=some (.int .i64 O)∧w'.cell? ⟨ν,2,none⟩=some (.int .i64 X)∧w'.cell? ⟨ν,3,none⟩=some (.int .i64 Y)∧w'.cell? ⟨ν,4,none⟩=some (.int .i64 Z)∧w'.cell? ⟨ν,5,none⟩=some (.int .i64 δ)∧w'.cell? ⟨ν,6,none⟩=some (.int .i64 γ)∧w'.cell? ⟨ν,7,none⟩=some (.int .i64 ι)∧w'.cell? ⟨ν,8,none⟩=some (.int .i64 θ)∧w'.cell? ⟨ν,9,none⟩=some (.int .i64 η)∧w'.cell? ⟨ν,10,none⟩=some (.slice (some ak) μ.length ar)∧w'.cell? ⟨ν,11,none⟩=some (.int .i64 a4)∧w'.cell? ⟨ν,12,none⟩=some (.slice ag ω.length ah)∧w'.cell? ⟨ν,13,none⟩=some (.slice ai a0.length aj)) (ds:=[]) #[false,false,false,false,false,false,false,false,false,false,false,false] kr rfl rfl ⟨(Qa φ.out 0).trans rfl,(Qa φ.out 1).trans rfl,(Qa B.out 0).trans rfl,(Qa B.out 1).trans rfl,(Qa B.out 2).trans rfl,(Qa B.out 3).trans rfl,(Qa B.out 4).trans rfl,(Qa B.out 5).trans rfl,(Qa B.out 6).trans rfl,(Qa B.out 7).trans rfl,(Qa B.out 8).trans rfl,(Qa B.out 9).trans rfl,(Qa B.out 10).trans rfl,(Qa B.out 11).trans rfl,(Qa B.out 12).trans rfl,(Qa B.out 13).trans rfl⟩ (fun hHeld=>?_);refine Q9 newellaw21_GroupBest.tab16 newellaw21_GroupBest.Dl (fun HT_ HW_=>?_)
               generalize wr.drew=su at a8 a9 aa B τ φ ab HB hHeld ⊢
               refine qP 1 (some 100) (bN 12 2) HT_ ?_
               refine qP 4 (some 103) (bN 12 18) HT_ ?_
               refine qT 0 (some 99) (bN 12 19) HT_ HW_ hHeld ?_
               refine qT 2 (some 101) (bN 12 23) HT_ HW_ hHeld ?_
               refine Yi (σ:=Value×Value×Value×Value×Value×Nat) 2 (bN 12 1023) (fun s_=>[(102,.agg #[s_.1,s_.2.1]),(104,.tuple #[.agg #[s_.2.2.1,s_.2.2.2.1,s_.2.2.2.2.1],.int .i64 ka]),(13,.pointer (some ⟨s_.2.2.2.2.2,0,none⟩)),(98,.tuple #[.agg #[s_.2.2.1,s_.2.2.2.1,s_.2.2.2.2.1],.int .i64 ka]),(105,.agg #[s_.2.2.1,s_.2.2.2.1,s_.2.2.2.2.1]),(106,.int .i64 ka)]) (fun s_ w'=>(w'.cell? ⟨b6,0,none⟩=some (.int .i64 J)∧w'.cell? ⟨b6,1,none⟩=some (.int .i64 (μ.length:Int))∧w'.cell? ⟨ν,0,none⟩=some (.int .i64 J)∧w'.cell? ⟨ν,1,none⟩=some (.int .i64 O)∧w'.cell? ⟨ν,2,none⟩=some (.int .i64 X)∧w'.cell? ⟨ν,3,none⟩=some (.int .i64 Y)∧w'.cell? ⟨ν,4,none⟩=some (.int .i64 Z)∧w'.cell? ⟨ν,5,none⟩=some (.int .i64 δ)∧w'.cell? ⟨ν,6,none⟩=some (.int .i64 γ)∧w'.cell? ⟨ν,7,none⟩=some (.int .i64 ι)∧w'.cell? ⟨ν,8,none⟩=some (.int .i64 θ)∧w'.cell? ⟨ν,9,none⟩=some (.int .i64 η)∧w'.cell? ⟨ν,10,none⟩=some (.slice (some ak) μ.length ar)∧w'.cell? ⟨ν,11,none⟩=some (.int .i64 a4)∧w'.cell? ⟨ν,12,none⟩=some (.slice ag ω.length ah)∧w'.cell? ⟨ν,13,none⟩=some (.slice ai a0.length aj))∧(Kd.R k36 36 w' w.heap.size (fun k_=>k_≠b5) s_.1 e8)∧(Kd.R k86 86 w' w.heap.size (fun _=>True) s_.2.1 e9)∧(Kd.R (Kd.int .i64) 3 w' w.heap.size (fun k_=>some k_≠(s_.2.2.2.1:Value).ownBlock∧some k_≠(s_.2.2.2.2.1:Value).ownBlock∧some k_≠(.slice b0 am.length az:Value).ownBlock∧some k_≠(.slice b3 an.length b4:Value).ownBlock∧some k_≠(.slice b2 ao.length ap:Value).ownBlock) s_.2.2.1 ba)∧(Kd.R (Kd.int .i64) 3 w' w.heap.size (fun k_=>some k_≠(s_.2.2.1:Value).ownBlock∧some k_≠(s_.2.2.2.2.1:Value).ownBlock∧some k_≠(.slice b0 am.length az:Value).ownBlock∧some k_≠(.slice b3 an.length b4:Value).ownBlock∧some k_≠(.slice b2 ao.length ap:Value).ownBlock) s_.2.2.2.1 bc)∧(Kd.R (Kd.int .i64) 3 w' w.heap.size (fun k_=>some k_≠(s_.2.2.1:Value).ownBlock∧some k_≠(s_.2.2.2.1:Value).ownBlock∧some k_≠(.slice b0 am.length az:Value).ownBlock∧some k_≠(.slice b3 an.length b4:Value).ownBlock∧some k_≠(.slice b2 ao.length ap:Value).ownBlock) s_.2.2.2.2.1 bh)∧(Kd.R (Kd.int .i64) 3 w' w.heap.size (fun k_=>some k_≠(s_.2.2.1:Value).ownBlock∧some k_≠(s_.2.2.2.1:Value).ownBlock∧some k_≠(s_.2.2.2.2.1:Value).ownBlock∧some k_≠(.slice b3 an.length b4:Value).ownBlock∧some k_≠(.slice b2 ao.length ap:Value).ownBlock) (.slice b0 am.length az) am)∧(Kd.R (Kd.int .i64) 3 w' w.heap.size (fun k_=>some k_≠(s_.2.2.1:Value).ownBlock∧some k_≠(s_.2.2.2.1:Value).ownBlock∧some k_≠(s_.2.2.2.2.1:Value).ownBlock∧some k_≠(.slice b0 am.length az:Value).ownBlock∧some k_≠(.slice b2 ao.length ap:Value).ownBlock) (.slice b3 an.length b4) an)∧(Kd.R (Kd.int .i64) 3 w' w.heap.size (fun k_=>some k_≠(s_.2.2.1:Value).ownBlock∧some k_≠(s_.2.2.2.1:Value).ownBlock∧some k_≠(s_.2.2.2.2.1:Value).ownBlock∧some k_≠(.slice b0 am.length az:Value).ownBlock∧some k_≠(.slice b3 an.length b4:Value).ownBlock) (.slice b2 ao.length ap) ao)∧(w'.heap[ν]?=some (.cells #[.int .i64 J,.int .i64 O,.int .i64 X,.int .i64 Y,.int .i64 Z,.int .i64 δ,.int .i64 γ,.int .i64 ι,.int .i64 θ,.int .i64 η,.slice (some ak) μ.length ar,.int .i64 a4,.slice ag ω.length ah,.slice ai a0.length aj] 52 (0,0)))∧(w'.heap[b5]?=some (.cells #[.int .i64 ζ,.int .i64 ε,.int .i64 κ] 36 (0,0)))∧(w'.heap[b6]?=some (.cells #[.int .i64 J,.int .i64 (μ.length:Int)] 59 (0,0)))∧(w'.heap[a2]?=some (.cells #[.slice b0 am.length az,.slice b3 an.length b4,.slice b2 ao.length ap] 34 (0,0)))∧(w'.heap[s_.2.2.2.2.2]?=some (.cells #[.slice none 0 0,.slice none 0 0,.slice none 0 0] 34 (0,0)))∧(w.heap.size≤s_.2.2.2.2.2)∧(w.heap.size≤s_.2.2.2.2.2)∧(ν ≠ s_.2.2.2.2.2)∧(s_.2.2.2.2.2 ≠ ν)∧(b5≠s_.2.2.2.2.2)∧(s_.2.2.2.2.2≠b5)∧(b6≠s_.2.2.2.2.2)∧(s_.2.2.2.2.2≠b6)∧(a2≠s_.2.2.2.2.2)∧(s_.2.2.2.2.2≠a2)∧(Below w.heap.size w w')) ?_ ?_
               rotate_left
               ·intro hCont
                refine Kj (i:=3) (j:=9) (Ni:=some 102) (Nj:=some 13) (bN 12 31) (bN 12 535) rfl rfl rfl rfl (X5 HT_.out kr) (by decide) (by decide) (fun K hK=>?_) (fun K hK=>?_)
                ·skip
                 refine Za Try.func15 kr rfl #[.agg #[.slice ag ω.length ah,.slice ai a0.length aj]] (by rfl) rfl rfl qM ?_
                 with_reducible refine(newellaw19_Own.calls _ _ ω _ _ a0 e8 e9 _ ?side1 ?side2 ?side3 ?side4 sy.out).mono ?_
                 (case side1=>exact(Kd.Qy ee.out HB.out))
                 (case side2=>exact ef.out)
                 (case side3=>exact(Kd.Qy eg.out HB.out))
                 (case side4=>exact eh.out)
                 rintro e sv ⟨nf,ng,rfl,ay,b7,hb⟩
                 refine⟨_,rfl, ?_⟩
                 have bf:=Aside0.mk (Kd.Q3 (Kd.Yn ay (g:=b5) (o:=.cells #[.int .i64 ζ,.int .i64 ε,.int .i64 κ] 36 (0,0)) τ.out) (Qi HB.out))
                 have bg:=Aside0.mk (Kd.Q3 b7 (Qi HB.out))
                 replace a8:=sRb a8 hb
                 replace a9:=sRb a9 hb
                 replace aa:=sRb aa hb
                 replace B:=sBk B hb
                 replace τ :=sBk τ hb
                 replace φ :=sBk φ hb
                 replace ab:=sBk ab hb
                 replace HB:=sHb hb
                 (try clear hb)
                 (try clear ac)
                 (try clear hk)
                 (try clear hi)
                 (try clear ay)
                 (try clear b7)
                 obtain⟨ru,rv,rx⟩:=Kd.Q7 bf.out
                 (first|subst rx|(injection rx with ae av af;have aw:=ae.symm;have ax:=af.symm;clear ae av af;subst aw;subst ax))
                 obtain⟨gx,gj,gl⟩:=Kd.Q7 bg.out
                 (first|subst gl|(injection gl with ae av af;have aw:=ae.symm;have ax:=af.symm;clear ae av af;subst aw;subst ax))
                 refine hK.out _ _ ⟨qc φ,qc φ,qc B,qc B,qc B,qc B,qc B,qc B,qc B,qc B,qc B,qc B,qc B,qc B,qc B,qc B⟩ (fun hHeld=>?_)
                 clear hK K
                 refine qN (some 102) ?_
                 refine Kj (i:=5) (j:=9) (Ni:=some 104) (Nj:=some 13) (bN 12 63) (bN 12 543) rfl rfl rfl rfl (X5 HT_.out kr) (by decide) (by decide) (fun K hK=>?_) (fun K hK=>?_)
                 ·skip
                  refine Za Try.func24 kr rfl #[.agg #[.int .i64 J,.int .i64 (μ.length:Int)],.agg #[.slice ru e8.length rv,.slice gx e9.length gj],.int .i64 χ] (by rfl) rfl rfl qM ?_
                  with_reducible refine(call_View.calls k3 J (μ.length:Int) _ _ e8 _ _ e9 χ ba bc bh ka _ ?side1 ?side2 ?side3 ?side4 rs.out).mono ?_
                  (case side1=>exact(Kd.Qu bf.out).2.2)
                  (case side2=>exact(Kd.Qu bf.out).2.1)
                  (case side3=>exact(Kd.Qu bg.out).2.2)
                  (case side4=>exact(Kd.Qu bg.out).2.1)
                  rintro e y8 ⟨f7,f8,fa,rfl,ay,b7,cn,hb⟩
                  refine⟨_,rfl, ?_⟩
                  have cu:=Aside0.mk (Kd.Q3 (Kd.Zz (Kd.Zz (Kd.Zz ay (Kd.X1 a8.out)) (Kd.X1 a9.out)) (Kd.X1 aa.out)) (Qi HB.out))
                  have cv:=Aside0.mk (Kd.Q3 (Kd.Zz (Kd.Zz (Kd.Zz b7 (Kd.X1 a8.out)) (Kd.X1 a9.out)) (Kd.X1 aa.out)) (Qi HB.out))
                  have cw:=Aside0.mk (Kd.Q3 (Kd.Zz (Kd.Zz (Kd.Zz cn (Kd.X1 a8.out)) (Kd.X1 a9.out)) (Kd.X1 aa.out)) (Qi HB.out))
                  replace a8:=Aside0.mk (Kd.Qw (Kd.Z5 (Kd.Z5 (Kd.Z5 (Kd.Ky a8.out hb) (Kd.Zy ay)) (Kd.Zy b7)) (Kd.Zy cn)) (fun _ h_=>h_.1))
                  replace a9:=Aside0.mk (Kd.Qw (Kd.Z5 (Kd.Z5 (Kd.Z5 (Kd.Ky a9.out hb) (Kd.Zy ay)) (Kd.Zy b7)) (Kd.Zy cn)) (fun _ h_=>h_.1))
                  replace aa:=Aside0.mk (Kd.Qw (Kd.Z5 (Kd.Z5 (Kd.Z5 (Kd.Ky aa.out hb) (Kd.Zy ay)) (Kd.Zy b7)) (Kd.Zy cn)) (fun _ h_=>h_.1))
                  replace bf:=sRb bf hb
                  replace bg:=sRb bg hb
                  replace B:=sBk B hb
                  replace τ :=sBk τ hb
                  replace φ :=sBk φ hb
                  replace ab:=sBk ab hb
                  replace HB:=sHb hb
                  (try clear hb)
                  (try clear ac)
                  (try clear hk)
                  (try clear hi)
                  (try clear ay)
                  (try clear b7)
                  (try clear cn)
                  refine hK.out _ _ ⟨qc φ,qc φ,qc B,qc B,qc B,qc B,qc B,qc B,qc B,qc B,qc B,qc B,qc B,qc B,qc B,qc B⟩ (fun hHeld=>?_)
                  clear hK K
                  refine qN (some 104) ?_
                  refine qP 6 (some 98) (bN 12 127) HT_ ?_
                  refine qP 7 (some 105) (bN 12 255) HT_ ?_
                  refine qP 8 (some 106) (bN 12 511) HT_ ?_
                  refine Zb (i:=9) (N:=some 13) (bN 12 1023) rfl rfl (Q4 HT_.out kr) (by decide) (fun K hK=>?_)
                  refine Xa ?hg (N:=13) ?hd (cs:=#[.slice none 0 0,.slice none 0 0,.slice none 0 0]) (t:=34) ?hr ?_;(case hd=>rfl);(case hg=>rfl);(case hr=>go_simp <;> rfl)
                  intro a1 hg t0 hbox hb
                  have au:=Aside0.mk hbox
                  have iv:=sGe hg
                  have iw:=sGe hg
                  have a6:=sNl B hg
                  have ct:=sNg B hg
                  have dj:=sNl τ hg
                  have dk:=sNg τ hg
                  have bs:=sNl φ hg
                  have dl:=sNg φ hg
                  have dm:=sNl ab hg
                  have dn:=sNg ab hg
                  replace a8:=sRb a8 hb
                  replace a9:=sRb a9 hb
                  replace aa:=sRb aa hb
                  replace bf:=sRb bf hb
                  replace bg:=sRb bg hb
                  replace cu:=sRb cu hb
                  replace cv:=sRb cv hb
                  replace cw:=sRb cw hb
                  replace B:=sBk B hb
                  replace τ :=sBk τ hb
                  replace φ :=sBk φ hb
                  replace ab:=sBk ab hb
                  replace HB:=sHb hb
                  clear hb hbox hg
                  refine hK.out _ _ ⟨qc φ,qc φ,qc B,qc B,qc B,qc B,qc B,qc B,qc B,qc B,qc B,qc B,qc B,qc B,qc B,qc B⟩ (fun hHeld=>?_)
                  clear hK K
                  refine qN (some 13) ?_
                  exact Zf (by simp only[Q8,Act.put,qS]) (hCont (.slice ru e8.length rv,.slice gx e9.length gj,f7,f8,fa,a1) _ ⟨hHeld,(by(with_reducible repeat first|apply Kd.Qq|apply Kd.Qp|apply Kd.Qr);exact Kd.Qw bf.out (fun _ hk=>hk.2)),bg.out,(by(with_reducible repeat first|apply Kd.Qq|apply Kd.Qp|apply Kd.Qr);exact Kd.Qw cu.out (fun _ hk=>⟨hk.1.1.1.1,⟨hk.1.1.1.2,⟨hk.1.1.2,⟨hk.1.2,hk.2⟩⟩⟩⟩)),(by(with_reducible repeat first|apply Kd.Qq|apply Kd.Qp|apply Kd.Qr);exact Kd.Qw cv.out (fun _ hk=>⟨hk.1.1.1.1,⟨hk.1.1.1.2,⟨hk.1.1.2,⟨hk.1.2,hk.2⟩⟩⟩⟩)),(by(with_reducible repeat first|apply Kd.Qq|apply Kd.Qp|apply Kd.Qr);exact Kd.Qw cw.out (fun _ hk=>⟨hk.1.1.1.1,⟨hk.1.1.1.2,⟨hk.1.1.2,⟨hk.1.2,hk.2⟩⟩⟩⟩)),(by(with_reducible repeat first|apply Kd.Qq|apply Kd.Qp|apply Kd.Qr);exact Kd.Qw a8.out (fun _ hk=>⟨hk.1.1.2,⟨hk.1.2,⟨hk.2,⟨hk.1.1.1.1,hk.1.1.1.2⟩⟩⟩⟩)),(by(with_reducible repeat first|apply Kd.Qq|apply Kd.Qp|apply Kd.Qr);exact Kd.Qw a9.out (fun _ hk=>⟨hk.1.1.2,⟨hk.1.2,⟨hk.2,⟨hk.1.1.1.1,hk.1.1.1.2⟩⟩⟩⟩)),(by(with_reducible repeat first|apply Kd.Qq|apply Kd.Qp|apply Kd.Qr);exact Kd.Qw aa.out (fun _ hk=>⟨hk.1.1.2,⟨hk.1.2,⟨hk.2,⟨hk.1.1.1.1,hk.1.1.1.2⟩⟩⟩⟩)),B.out,τ.out,φ.out,ab.out,au.out,iv.out,iw.out,a6.out,ct.out,dj.out,dk.out,bs.out,dl.out,dm.out,dn.out,HB.out⟩)
                 ·skip
                  refine Xa ?hg (N:=13) ?hd (cs:=#[.slice none 0 0,.slice none 0 0,.slice none 0 0]) (t:=34) ?hr ?_;(case hd=>rfl);(case hg=>rfl);(case hr=>go_simp <;> rfl)
                  intro a1 hg yd hbox hb
                  have au:=Aside0.mk hbox
                  have iv:=sGe hg
                  have iw:=sGe hg
                  have a6:=sNl B hg
                  have ct:=sNg B hg
                  have dj:=sNl τ hg
                  have dk:=sNg τ hg
                  have bs:=sNl φ hg
                  have dl:=sNg φ hg
                  have dm:=sNl ab hg
                  have dn:=sNg ab hg
                  replace a8:=sRb a8 hb
                  replace a9:=sRb a9 hb
                  replace aa:=sRb aa hb
                  replace bf:=sRb bf hb
                  replace bg:=sRb bg hb
                  replace B:=sBk B hb
                  replace τ :=sBk τ hb
                  replace φ :=sBk φ hb
                  replace ab:=sBk ab hb
                  replace HB:=sHb hb
                  clear hb hbox hg
                  obtain⟨gx,gj,gl⟩:=Kd.Q7 bf.out
                  (first|subst gl|(injection gl with ae av af;have aw:=ae.symm;have ax:=af.symm;clear ae av af;subst aw;subst ax))
                  obtain⟨lh,ll,lm⟩:=Kd.Q7 bg.out
                  (first|subst lm|(injection lm with ae av af;have aw:=ae.symm;have ax:=af.symm;clear ae av af;subst aw;subst ax))
                  refine hK.out _ _ ⟨qc φ,qc φ,qc B,qc B,qc B,qc B,qc B,qc B,qc B,qc B,qc B,qc B,qc B,qc B,qc B,qc B⟩ (fun hHeld=>?_)
                  clear hK K
                  refine qN (some 13) ?_
                  refine Zb (i:=5) (N:=some 104) (bN 12 575) rfl rfl (Q4 HT_.out kr) (by decide) (fun K hK=>?_)
                  refine Za Try.func24 kr rfl #[.agg #[.int .i64 J,.int .i64 (μ.length:Int)],.agg #[.slice gx e8.length gj,.slice lh e9.length ll],.int .i64 χ] (by rfl) rfl rfl qM ?_
                  with_reducible refine(call_View.calls k3 J (μ.length:Int) _ _ e8 _ _ e9 χ ba bc bh ka _ ?side1 ?side2 ?side3 ?side4 rs.out).mono ?_
                  (case side1=>exact(Kd.Qu bf.out).2.2)
                  (case side2=>exact(Kd.Qu bf.out).2.1)
                  (case side3=>exact(Kd.Qu bg.out).2.2)
                  (case side4=>exact(Kd.Qu bg.out).2.1)
                  rintro e t0 ⟨f7,f8,fa,rfl,ay,b7,cn,hb⟩
                  refine⟨_,rfl, ?_⟩
                  have cu:=Aside0.mk (Kd.Q3 (Kd.Zz (Kd.Zz (Kd.Zz ay (Kd.X1 a8.out)) (Kd.X1 a9.out)) (Kd.X1 aa.out)) (Qi HB.out))
                  have cv:=Aside0.mk (Kd.Q3 (Kd.Zz (Kd.Zz (Kd.Zz b7 (Kd.X1 a8.out)) (Kd.X1 a9.out)) (Kd.X1 aa.out)) (Qi HB.out))
                  have cw:=Aside0.mk (Kd.Q3 (Kd.Zz (Kd.Zz (Kd.Zz cn (Kd.X1 a8.out)) (Kd.X1 a9.out)) (Kd.X1 aa.out)) (Qi HB.out))
                  replace a8:=Aside0.mk (Kd.Qw (Kd.Z5 (Kd.Z5 (Kd.Z5 (Kd.Ky a8.out hb) (Kd.Zy ay)) (Kd.Zy b7)) (Kd.Zy cn)) (fun _ h_=>h_.1))
                  replace a9:=Aside0.mk (Kd.Qw (Kd.Z5 (Kd.Z5 (Kd.Z5 (Kd.Ky a9.out hb) (Kd.Zy ay)) (Kd.Zy b7)) (Kd.Zy cn)) (fun _ h_=>h_.1))
                  replace aa:=Aside0.mk (Kd.Qw (Kd.Z5 (Kd.Z5 (Kd.Z5 (Kd.Ky aa.out hb) (Kd.Zy ay)) (Kd.Zy b7)) (Kd.Zy cn)) (fun _ h_=>h_.1))
                  replace bf:=sRb bf hb
                  replace bg:=sRb bg hb
                  replace B:=sBk B hb
                  replace τ :=sBk τ hb
                  replace φ :=sBk φ hb
                  replace ab:=sBk ab hb
                  replace au:=sBk au hb
                  replace HB:=sHb hb
                  (try clear hb)
                  (try clear ac)
                  (try clear hk)
                  (try clear hi)
                  (try clear ay)
                  (try clear b7)
                  (try clear cn)
                  refine hK.out _ _ ⟨qc φ,qc φ,qc B,qc B,qc B,qc B,qc B,qc B,qc B,qc B,qc B,qc B,qc B,qc B,qc B,qc B⟩ (fun hHeld=>?_)
                  clear hK K
                  refine qN (some 104) ?_
                  refine qP 6 (some 98) (bN 12 639) HT_ ?_
                  refine qP 7 (some 105) (bN 12 767) HT_ ?_
                  refine qP 8 (some 106) (bN 12 1023) HT_ ?_
                  exact Zf (by simp only[Q8,Act.put,qS]) (hCont (.slice gx e8.length gj,.slice lh e9.length ll,f7,f8,fa,a1) _ ⟨hHeld,(by(with_reducible repeat first|apply Kd.Qq|apply Kd.Qp|apply Kd.Qr);exact Kd.Qw bf.out (fun _ hk=>hk.2)),bg.out,(by(with_reducible repeat first|apply Kd.Qq|apply Kd.Qp|apply Kd.Qr);exact Kd.Qw cu.out (fun _ hk=>⟨hk.1.1.1.1,⟨hk.1.1.1.2,⟨hk.1.1.2,⟨hk.1.2,hk.2⟩⟩⟩⟩)),(by(with_reducible repeat first|apply Kd.Qq|apply Kd.Qp|apply Kd.Qr);exact Kd.Qw cv.out (fun _ hk=>⟨hk.1.1.1.1,⟨hk.1.1.1.2,⟨hk.1.1.2,⟨hk.1.2,hk.2⟩⟩⟩⟩)),(by(with_reducible repeat first|apply Kd.Qq|apply Kd.Qp|apply Kd.Qr);exact Kd.Qw cw.out (fun _ hk=>⟨hk.1.1.1.1,⟨hk.1.1.1.2,⟨hk.1.1.2,⟨hk.1.2,hk.2⟩⟩⟩⟩)),(by(with_reducible repeat first|apply Kd.Qq|apply Kd.Qp|apply Kd.Qr);exact Kd.Qw a8.out (fun _ hk=>⟨hk.1.1.2,⟨hk.1.2,⟨hk.2,⟨hk.1.1.1.1,hk.1.1.1.2⟩⟩⟩⟩)),(by(with_reducible repeat first|apply Kd.Qq|apply Kd.Qp|apply Kd.Qr);exact Kd.Qw a9.out (fun _ hk=>⟨hk.1.1.2,⟨hk.1.2,⟨hk.2,⟨hk.1.1.1.1,hk.1.1.1.2⟩⟩⟩⟩)),(by(with_reducible repeat first|apply Kd.Qq|apply Kd.Qp|apply Kd.Qr);exact Kd.Qw aa.out (fun _ hk=>⟨hk.1.1.2,⟨hk.1.2,⟨hk.2,⟨hk.1.1.1.1,hk.1.1.1.2⟩⟩⟩⟩)),B.out,τ.out,φ.out,ab.out,au.out,iv.out,iw.out,a6.out,ct.out,dj.out,dk.out,bs.out,dl.out,dm.out,dn.out,HB.out⟩)
                ·skip
                 refine Xa ?hg (N:=13) ?hd (cs:=#[.slice none 0 0,.slice none 0 0,.slice none 0 0]) (t:=34) ?hr ?_;(case hd=>rfl);(case hg=>rfl);(case hr=>go_simp <;> rfl)
                 intro a1 hg sv hbox hb
                 have au:=Aside0.mk hbox
                 have iv:=sGe hg
                 have iw:=sGe hg
                 have a6:=sNl B hg
                 have ct:=sNg B hg
                 have dj:=sNl τ hg
                 have dk:=sNg τ hg
                 have bs:=sNl φ hg
                 have dl:=sNg φ hg
                 have dm:=sNl ab hg
                 have dn:=sNg ab hg
                 replace a8:=sRb a8 hb
                 replace a9:=sRb a9 hb
                 replace aa:=sRb aa hb
                 replace B:=sBk B hb
                 replace τ :=sBk τ hb
                 replace φ :=sBk φ hb
                 replace ab:=sBk ab hb
                 replace HB:=sHb hb
                 clear hb hbox hg
                 refine hK.out _ _ ⟨qc φ,qc φ,qc B,qc B,qc B,qc B,qc B,qc B,qc B,qc B,qc B,qc B,qc B,qc B,qc B,qc B⟩ (fun hHeld=>?_)
                 clear hK K
                 refine qN (some 13) ?_
                 refine Zb (i:=3) (N:=some 102) (bN 12 543) rfl rfl (Q4 HT_.out kr) (by decide) (fun K hK=>?_)
                 refine Za Try.func15 kr rfl #[.agg #[.slice ag ω.length ah,.slice ai a0.length aj]] (by rfl) rfl rfl qM ?_
                 with_reducible refine(newellaw19_Own.calls _ _ ω _ _ a0 e8 e9 _ ?side1 ?side2 ?side3 ?side4 sy.out).mono ?_
                 (case side1=>exact(Kd.Qy ee.out HB.out))
                 (case side2=>exact ef.out)
                 (case side3=>exact(Kd.Qy eg.out HB.out))
                 (case side4=>exact eh.out)
                 rintro e yd ⟨nf,ng,rfl,ay,b7,hb⟩
                 refine⟨_,rfl, ?_⟩
                 have bf:=Aside0.mk (Kd.Q3 (Kd.Yn ay (g:=b5) (o:=.cells #[.int .i64 ζ,.int .i64 ε,.int .i64 κ] 36 (0,0)) τ.out) (Qi HB.out))
                 have bg:=Aside0.mk (Kd.Q3 b7 (Qi HB.out))
                 replace a8:=sRb a8 hb
                 replace a9:=sRb a9 hb
                 replace aa:=sRb aa hb
                 replace B:=sBk B hb
                 replace τ :=sBk τ hb
                 replace φ :=sBk φ hb
                 replace ab:=sBk ab hb
                 replace au:=sBk au hb
                 replace HB:=sHb hb
                 (try clear hb)
                 (try clear ac)
                 (try clear hk)
                 (try clear hi)
                 (try clear ay)
                 (try clear b7)
                 obtain⟨gx,gj,gl⟩:=Kd.Q7 bf.out
                 (first|subst gl|(injection gl with ae av af;have aw:=ae.symm;have ax:=af.symm;clear ae av af;subst aw;subst ax))
                 obtain⟨lh,ll,lm⟩:=Kd.Q7 bg.out
                 (first|subst lm|(injection lm with ae av af;have aw:=ae.symm;have ax:=af.symm;clear ae av af;subst aw;subst ax))
                 refine hK.out _ _ ⟨qc φ,qc φ,qc B,qc B,qc B,qc B,qc B,qc B,qc B,qc B,qc B,qc B,qc B,qc B,qc B,qc B⟩ (fun hHeld=>?_)
                 clear hK K
                 refine qN (some 102) ?_
                 refine Zb (i:=5) (N:=some 104) (bN 12 575) rfl rfl (Q4 HT_.out kr) (by decide) (fun K hK=>?_)
                 refine Za Try.func24 kr rfl #[.agg #[.int .i64 J,.int .i64 (μ.length:Int)],.agg #[.slice gx e8.length gj,.slice lh e9.length ll],.int .i64 χ] (by rfl) rfl rfl qM ?_
                 with_reducible refine(call_View.calls k3 J (μ.length:Int) _ _ e8 _ _ e9 χ ba bc bh ka _ ?side1 ?side2 ?side3 ?side4 rs.out).mono ?_
                 (case side1=>exact(Kd.Qu bf.out).2.2)
                 (case side2=>exact(Kd.Qu bf.out).2.1)
                 (case side3=>exact(Kd.Qu bg.out).2.2)
                 (case side4=>exact(Kd.Qu bg.out).2.1)
                 rintro e t0 ⟨f7,f8,fa,rfl,ay,b7,cn,hb⟩
                 refine⟨_,rfl, ?_⟩
                 have cu:=Aside0.mk (Kd.Q3 (Kd.Zz (Kd.Zz (Kd.Zz ay (Kd.X1 a8.out)) (Kd.X1 a9.out)) (Kd.X1 aa.out)) (Qi HB.out))
                 have cv:=Aside0.mk (Kd.Q3 (Kd.Zz (Kd.Zz (Kd.Zz b7 (Kd.X1 a8.out)) (Kd.X1 a9.out)) (Kd.X1 aa.out)) (Qi HB.out))
                 have cw:=Aside0.mk (Kd.Q3 (Kd.Zz (Kd.Zz (Kd.Zz cn (Kd.X1 a8.out)) (Kd.X1 a9.out)) (Kd.X1 aa.out)) (Qi HB.out))
                 replace a8:=Aside0.mk (Kd.Qw (Kd.Z5 (Kd.Z5 (Kd.Z5 (Kd.Ky a8.out hb) (Kd.Zy ay)) (Kd.Zy b7)) (Kd.Zy cn)) (fun _ h_=>h_.1))
                 replace a9:=Aside0.mk (Kd.Qw (Kd.Z5 (Kd.Z5 (Kd.Z5 (Kd.Ky a9.out hb) (Kd.Zy ay)) (Kd.Zy b7)) (Kd.Zy cn)) (fun _ h_=>h_.1))
                 replace aa:=Aside0.mk (Kd.Qw (Kd.Z5 (Kd.Z5 (Kd.Z5 (Kd.Ky aa.out hb) (Kd.Zy ay)) (Kd.Zy b7)) (Kd.Zy cn)) (fun _ h_=>h_.1))
                 replace bf:=sRb bf hb
                 replace bg:=sRb bg hb
                 replace B:=sBk B hb
                 replace τ :=sBk τ hb
                 replace φ :=sBk φ hb
                 replace ab:=sBk ab hb
                 replace au:=sBk au hb
                 replace HB:=sHb hb
                 (try clear hb)
                 (try clear ac)
                 (try clear hk)
                 (try clear hi)
                 (try clear ay)
                 (try clear b7)
                 (try clear cn)
                 refine hK.out _ _ ⟨qc φ,qc φ,qc B,qc B,qc B,qc B,qc B,qc B,qc B,qc B,qc B,qc B,qc B,qc B,qc B,qc B⟩ (fun hHeld=>?_)
                 clear hK K
                 refine qN (some 104) ?_
                 refine qP 6 (some 98) (bN 12 639) HT_ ?_
                 refine qP 7 (some 105) (bN 12 767) HT_ ?_
                 refine qP 8 (some 106) (bN 12 1023) HT_ ?_
                 exact Zf (by simp only[Q8,Act.put,qS]) (hCont (.slice gx e8.length gj,.slice lh e9.length ll,f7,f8,fa,a1) _ ⟨hHeld,(by(with_reducible repeat first|apply Kd.Qq|apply Kd.Qp|apply Kd.Qr);exact Kd.Qw bf.out (fun _ hk=>hk.2)),bg.out,(by(with_reducible repeat first|apply Kd.Qq|apply Kd.Qp|apply Kd.Qr);exact Kd.Qw cu.out (fun _ hk=>⟨hk.1.1.1.1,⟨hk.1.1.1.2,⟨hk.1.1.2,⟨hk.1.2,hk.2⟩⟩⟩⟩)),(by(with_reducible repeat first|apply Kd.Qq|apply Kd.Qp|apply Kd.Qr);exact Kd.Qw cv.out (fun _ hk=>⟨hk.1.1.1.1,⟨hk.1.1.1.2,⟨hk.1.1.2,⟨hk.1.2,hk.2⟩⟩⟩⟩)),(by(with_reducible repeat first|apply Kd.Qq|apply Kd.Qp|apply Kd.Qr);exact Kd.Qw cw.out (fun _ hk=>⟨hk.1.1.1.1,⟨hk.1.1.1.2,⟨hk.1.1.2,⟨hk.1.2,hk.2⟩⟩⟩⟩)),(by(with_reducible repeat first|apply Kd.Qq|apply Kd.Qp|apply Kd.Qr);exact Kd.Qw a8.out (fun _ hk=>⟨hk.1.1.2,⟨hk.1.2,⟨hk.2,⟨hk.1.1.1.1,hk.1.1.1.2⟩⟩⟩⟩)),(by(with_reducible repeat first|apply Kd.Qq|apply Kd.Qp|apply Kd.Qr);exact Kd.Qw a9.out (fun _ hk=>⟨hk.1.1.2,⟨hk.1.2,⟨hk.2,⟨hk.1.1.1.1,hk.1.1.1.2⟩⟩⟩⟩)),(by(with_reducible repeat first|apply Kd.Qq|apply Kd.Qp|apply Kd.Qr);exact Kd.Qw aa.out (fun _ hk=>⟨hk.1.1.2,⟨hk.1.2,⟨hk.2,⟨hk.1.1.1.1,hk.1.1.1.2⟩⟩⟩⟩)),B.out,τ.out,φ.out,ab.out,au.out,iv.out,iw.out,a6.out,ct.out,dj.out,dk.out,bs.out,dl.out,dm.out,dn.out,HB.out⟩)
               rintro⟨nf,ng,f7,f8,fa,a1⟩ bo ⟨hS_,bj,bk,bl,bm,bn,cr,db,dc,dd,de,co,cp,cq,d2,dw,hh,hj,hl,kn,ry,rz,s0,s1,s2⟩
               have ξ :Aside0 (Kd.R k36 36 bo w.heap.size (fun k_=>k_≠b5) nf e8):=⟨bj⟩
               have ρ:Aside0 (Kd.R k86 86 bo w.heap.size (fun _=>True) ng e9):=⟨bk⟩
               have a3:Aside0 (Kd.R (Kd.int .i64) 3 bo w.heap.size (fun k_=>some k_≠(f8:Value).ownBlock∧some k_≠(fa:Value).ownBlock∧some k_≠(.slice b0 am.length az:Value).ownBlock∧some k_≠(.slice b3 an.length b4:Value).ownBlock∧some k_≠(.slice b2 ao.length ap:Value).ownBlock) f7 ba):=⟨bl⟩
               have a7:Aside0 (Kd.R (Kd.int .i64) 3 bo w.heap.size (fun k_=>some k_≠(f7:Value).ownBlock∧some k_≠(fa:Value).ownBlock∧some k_≠(.slice b0 am.length az:Value).ownBlock∧some k_≠(.slice b3 an.length b4:Value).ownBlock∧some k_≠(.slice b2 ao.length ap:Value).ownBlock) f8 bc):=⟨bm⟩
               have al:Aside0 (Kd.R (Kd.int .i64) 3 bo w.heap.size (fun k_=>some k_≠(f7:Value).ownBlock∧some k_≠(f8:Value).ownBlock∧some k_≠(.slice b0 am.length az:Value).ownBlock∧some k_≠(.slice b3 an.length b4:Value).ownBlock∧some k_≠(.slice b2 ao.length ap:Value).ownBlock) fa bh):=⟨bn⟩
               have b1:Aside0 (Kd.R (Kd.int .i64) 3 bo w.heap.size (fun k_=>some k_≠(f7:Value).ownBlock∧some k_≠(f8:Value).ownBlock∧some k_≠(fa:Value).ownBlock∧some k_≠(.slice b3 an.length b4:Value).ownBlock∧some k_≠(.slice b2 ao.length ap:Value).ownBlock) (.slice b0 am.length az) am):=⟨cr⟩
               have b8:Aside0 (Kd.R (Kd.int .i64) 3 bo w.heap.size (fun k_=>some k_≠(f7:Value).ownBlock∧some k_≠(f8:Value).ownBlock∧some k_≠(fa:Value).ownBlock∧some k_≠(.slice b0 am.length az:Value).ownBlock∧some k_≠(.slice b2 ao.length ap:Value).ownBlock) (.slice b3 an.length b4) an):=⟨db⟩
               have bi:Aside0 (Kd.R (Kd.int .i64) 3 bo w.heap.size (fun k_=>some k_≠(f7:Value).ownBlock∧some k_≠(f8:Value).ownBlock∧some k_≠(fa:Value).ownBlock∧some k_≠(.slice b0 am.length az:Value).ownBlock∧some k_≠(.slice b3 an.length b4:Value).ownBlock) (.slice b2 ao.length ap) ao):=⟨dc⟩
               have cf:Aside0 (bo.heap[ν]?=some (.cells #[.int .i64 J,.int .i64 O,.int .i64 X,.int .i64 Y,.int .i64 Z,.int .i64 δ,.int .i64 γ,.int .i64 ι,.int .i64 θ,.int .i64 η,.slice (some ak) μ.length ar,.int .i64 a4,.slice ag ω.length ah,.slice ai a0.length aj] 52 (0,0))):=⟨dd⟩
               have cx:Aside0 (bo.heap[b5]?=some (.cells #[.int .i64 ζ,.int .i64 ε,.int .i64 κ] 36 (0,0))):=⟨de⟩
               have bw:Aside0 (bo.heap[b6]?=some (.cells #[.int .i64 J,.int .i64 (μ.length:Int)] 59 (0,0))):=⟨co⟩
               have bz:Aside0 (bo.heap[a2]?=some (.cells #[.slice b0 am.length az,.slice b3 an.length b4,.slice b2 ao.length ap] 34 (0,0))):=⟨cp⟩
               have ca:Aside0 (bo.heap[a1]?=some (.cells #[.slice none 0 0,.slice none 0 0,.slice none 0 0] 34 (0,0))):=⟨cq⟩
               have cm:Aside0 (w.heap.size≤a1):=⟨d2⟩
               have dx:Aside0 (w.heap.size≤a1):=⟨dw⟩
               have ho:Aside0 (ν ≠ a1):=⟨hh⟩
               have hu:Aside0 (a1 ≠ ν):=⟨hj⟩
               have hx:Aside0 (b5≠a1):=⟨hl⟩
               have ko:Aside0 (a1≠b5):=⟨kn⟩
               have s3:Aside0 (b6≠a1):=⟨ry⟩
               have s4:Aside0 (a1≠b6):=⟨rz⟩
               have s5:Aside0 (a2≠a1):=⟨s0⟩
               have s6:Aside0 (a1≠a2):=⟨s1⟩
               have s7:Aside0 (Below w.heap.size w bo):=⟨s2⟩
               clear a8
               clear a9
               clear aa
               clear B
               clear τ
               clear φ
               clear ab
               clear HB
               clear bj bk bl bm bn cr db dc dd de co cp cq d2 dw hh hj hl kn ry rz s0 s1 s2
               have bf:= ξ
               have bg:=ρ
               have cu:=a3
               have cv:=a7
               have cw:=al
               have a8:=b1
               have a9:=b8
               have aa:=bi
               have B:=cf
               have τ :=cx
               have φ :=bw
               have ab:=bz
               have au:=ca
               have iv:=cm
               have iw:=dx
               have a6:=ho
               have ct:=hu
               have dj:=hx
               have dk:=ko
               have bs:=s3
               have dl:=s4
               have dm:=s5
               have dn:=s6
               have HB:=s7
               clear ξ ρ a3 a7 al b1 b8 bi cf cx bw bz ca cm dx ho hu hx ko s3 s4 s5 s6 s7
               have hHeld:bo.cell? ⟨b6,0,none⟩=some (.int .i64 J)∧bo.cell? ⟨b6,1,none⟩=some (.int .i64 (μ.length:Int))∧bo.cell? ⟨ν,0,none⟩=some (.int .i64 J)∧bo.cell? ⟨ν,1,none⟩=some (.int .i64 O)∧bo.cell? ⟨ν,2,none⟩=some (.int .i64 X)∧bo.cell? ⟨ν,3,none⟩=some (.int .i64 Y)∧bo.cell? ⟨ν,4,none⟩=some (.int .i64 Z)∧bo.cell? ⟨ν,5,none⟩=some (.int .i64 δ)∧bo.cell? ⟨ν,6,none⟩=some (.int .i64 γ)∧bo.cell? ⟨ν,7,none⟩=some (.int .i64 ι)∧bo.cell? ⟨ν,8,none⟩=some (.int .i64 θ)∧bo.cell? ⟨ν,9,none⟩=some (.int .i64 η)∧bo.cell? ⟨ν,10,none⟩=some (.slice (some ak) μ.length ar)∧bo.cell? ⟨ν,11,none⟩=some (.int .i64 a4)∧bo.cell? ⟨ν,12,none⟩=some (.slice ag ω.length ah)∧bo.cell? ⟨ν,13,none⟩=some (.slice ai a0.length aj):=hS_
               obtain⟨cb,cd,s8⟩:=Kd.Q7 cu.out
               (first|subst s8|(injection s8 with ae av af;have aw:=ae.symm;have ax:=af.symm;clear ae av af;subst aw;subst ax))
               obtain⟨cg,ch,s9⟩:=Kd.Q7 cv.out
               (first|subst s9|(injection s9 with ae av af;have aw:=ae.symm;have ax:=af.symm;clear ae av af;subst aw;subst ax))
               obtain⟨bu,bv,n0⟩:=Kd.Q7 cw.out
               (first|subst n0|(injection n0 with ae av af;have aw:=ae.symm;have ax:=af.symm;clear ae av af;subst aw;subst ax))
               refine Zf (a':=?_) ?_ ?_
               rotate_left
               ·simp only[Q8,Act.put,qS]
                rfl
               refine Zb (i:=10) (N:=none) (bN 12 2047) rfl rfl (Q4 HT_.out kr) (by decide) (fun K hK=>?_)
               have z3:bo.cell? ⟨a1,0,none⟩=some (.slice none 0 0):=(Qa au.out 0).trans rfl
               have yv:=Qc au.out 0
               have xh:=a6.out
               have xi:=dj.out
               have xj:=bs.out
               have xk:=dm.out
               have xl:=ct.out
               have xm:=dk.out
               have xn:=dl.out
               have xo:=dn.out
               have z4:bo.cell? ⟨a1,1,none⟩=some (.slice none 0 0):=(Qa au.out 1).trans rfl
               have yw:=Qc au.out 1
               have xp:=a6.out
               have xq:=dj.out
               have xr:=bs.out
               have xt:=dm.out
               have xu:=ct.out
               have xv:=dk.out
               have xw:=dl.out
               have xx:=dn.out
               have z5:bo.cell? ⟨a1,2,none⟩=some (.slice none 0 0):=(Qa au.out 2).trans rfl
               have yx:=Qc au.out 2
               have xy:=a6.out
               have xz:=dj.out
               have y0:=bs.out
               have y1:=dm.out
               have y2:=ct.out
               have y3:=dk.out
               have y4:=dl.out
               have y5:=dn.out
               refine K8 (w1:=?_) (by rfl) rfl ?_ ?_
               rotate_left
               ·go_simp
                rfl
               refine hK.out _ _ ⟨((cell_far (p:=⟨a1,_,none⟩) bs.out _).trans (((cell_far (p:=⟨a1,_,none⟩) bs.out _).trans (((cell_far (p:=⟨a1,_,none⟩) bs.out _).trans (hHeld.1)))))),((cell_far (p:=⟨a1,_,none⟩) bs.out _).trans (((cell_far (p:=⟨a1,_,none⟩) bs.out _).trans (((cell_far (p:=⟨a1,_,none⟩) bs.out _).trans (hHeld.2.1)))))),((cell_far (p:=⟨a1,_,none⟩) a6.out _).trans (((cell_far (p:=⟨a1,_,none⟩) a6.out _).trans (((cell_far (p:=⟨a1,_,none⟩) a6.out _).trans (hHeld.2.2.1)))))),((cell_far (p:=⟨a1,_,none⟩) a6.out _).trans (((cell_far (p:=⟨a1,_,none⟩) a6.out _).trans (((cell_far (p:=⟨a1,_,none⟩) a6.out _).trans (hHeld.2.2.2.1)))))),((cell_far (p:=⟨a1,_,none⟩) a6.out _).trans (((cell_far (p:=⟨a1,_,none⟩) a6.out _).trans (((cell_far (p:=⟨a1,_,none⟩) a6.out _).trans (hHeld.2.2.2.2.1)))))),((cell_far (p:=⟨a1,_,none⟩) a6.out _).trans (((cell_far (p:=⟨a1,_,none⟩) a6.out _).trans (((cell_far (p:=⟨a1,_,none⟩) a6.out _).trans (hHeld.2.2.2.2.2.1)))))),((cell_far (p:=⟨a1,_,none⟩) a6.out _).trans (((cell_far (p:=⟨a1,_,none⟩) a6.out _).trans (((cell_far (p:=⟨a1,_,none⟩) a6.out _).trans (hHeld.2.2.2.2.2.2.1)))))),((cell_far (p:=⟨a1,_,none⟩) a6.out _).trans (((cell_far (p:=⟨a1,_,none⟩) a6.out _).trans (((cell_far (p:=⟨a1,_,none⟩) a6.out _).trans (hHeld.2.2.2.2.2.2.2.1)))))),((cell_far (p:=⟨a1,_,none⟩) a6.out _).trans (((cell_far (p:=⟨a1,_,none⟩) a6.out _).trans (((cell_far (p:=⟨a1,_,none⟩) a6.out _).trans (hHeld.2.2.2.2.2.2.2.2.1)))))),((cell_far (p:=⟨a1,_,none⟩) a6.out _).trans (((cell_far (p:=⟨a1,_,none⟩) a6.out _).trans (((cell_far (p:=⟨a1,_,none⟩) a6.out _).trans (hHeld.2.2.2.2.2.2.2.2.2.1)))))),((cell_far (p:=⟨a1,_,none⟩) a6.out _).trans (((cell_far (p:=⟨a1,_,none⟩) a6.out _).trans (((cell_far (p:=⟨a1,_,none⟩) a6.out _).trans (hHeld.2.2.2.2.2.2.2.2.2.2.1)))))),((cell_far (p:=⟨a1,_,none⟩) a6.out _).trans (((cell_far (p:=⟨a1,_,none⟩) a6.out _).trans (((cell_far (p:=⟨a1,_,none⟩) a6.out _).trans (hHeld.2.2.2.2.2.2.2.2.2.2.2.1)))))),((cell_far (p:=⟨a1,_,none⟩) a6.out _).trans (((cell_far (p:=⟨a1,_,none⟩) a6.out _).trans (((cell_far (p:=⟨a1,_,none⟩) a6.out _).trans (hHeld.2.2.2.2.2.2.2.2.2.2.2.2.1)))))),((cell_far (p:=⟨a1,_,none⟩) a6.out _).trans (((cell_far (p:=⟨a1,_,none⟩) a6.out _).trans (((cell_far (p:=⟨a1,_,none⟩) a6.out _).trans (hHeld.2.2.2.2.2.2.2.2.2.2.2.2.2.1)))))),((cell_far (p:=⟨a1,_,none⟩) a6.out _).trans (((cell_far (p:=⟨a1,_,none⟩) a6.out _).trans (((cell_far (p:=⟨a1,_,none⟩) a6.out _).trans (hHeld.2.2.2.2.2.2.2.2.2.2.2.2.2.2.1)))))),((cell_far (p:=⟨a1,_,none⟩) a6.out _).trans (((cell_far (p:=⟨a1,_,none⟩) a6.out _).trans (((cell_far (p:=⟨a1,_,none⟩) a6.out _).trans (hHeld.2.2.2.2.2.2.2.2.2.2.2.2.2.2.2))))))⟩ (fun hHeld=>?_)
               clear hK K
               refine qP 11 (some 14) (bN 12 4095) HT_ ?_
               refine Zx (Ze HT_.out kr) ?_
               try go_wp2
               have ξ :Aside0 (Kd.R (Kd.int .i64) 3 (((bo.setCell ⟨a1,0,none⟩ (.slice cb ba.length cd)).setCell ⟨a1,1,none⟩ (.slice cg bc.length ch)).setCell ⟨a1,2,none⟩ (.slice bu bh.length bv)) w.heap.size (fun k_=>some k_≠(.slice b3 an.length b4:Value).ownBlock∧some k_≠(.slice b2 ao.length ap:Value).ownBlock∧some k_≠(.slice cb ba.length cd:Value).ownBlock∧some k_≠(.slice cg bc.length ch:Value).ownBlock∧some k_≠(.slice bu bh.length bv:Value).ownBlock) (.slice b0 am.length az) am):=⟨by(with_reducible repeat first|apply Kd.Qq|apply Kd.Qp|apply Kd.Qr);exact Kd.Qw (Kd.Qx (Kd.Qx (Kd.Qx (Kd.Q5 a8.out au.out (by decide)) (fun _ hk=>hk.2) _) (fun _ hk=>hk.2) _) (fun _ hk=>hk.2) _) (fun _ hk=>⟨hk.1.2.2.2.1,⟨hk.1.2.2.2.2,⟨hk.1.1,⟨hk.1.2.1,hk.1.2.2.1⟩⟩⟩⟩)⟩
               have ρ:Aside0 (Kd.R (Kd.int .i64) 3 (((bo.setCell ⟨a1,0,none⟩ (.slice cb ba.length cd)).setCell ⟨a1,1,none⟩ (.slice cg bc.length ch)).setCell ⟨a1,2,none⟩ (.slice bu bh.length bv)) w.heap.size (fun k_=>some k_≠(.slice b0 am.length az:Value).ownBlock∧some k_≠(.slice b2 ao.length ap:Value).ownBlock∧some k_≠(.slice cb ba.length cd:Value).ownBlock∧some k_≠(.slice cg bc.length ch:Value).ownBlock∧some k_≠(.slice bu bh.length bv:Value).ownBlock) (.slice b3 an.length b4) an):=⟨by(with_reducible repeat first|apply Kd.Qq|apply Kd.Qp|apply Kd.Qr);exact Kd.Qw (Kd.Qx (Kd.Qx (Kd.Qx (Kd.Q5 a9.out au.out (by decide)) (fun _ hk=>hk.2) _) (fun _ hk=>hk.2) _) (fun _ hk=>hk.2) _) (fun _ hk=>⟨hk.1.2.2.2.1,⟨hk.1.2.2.2.2,⟨hk.1.1,⟨hk.1.2.1,hk.1.2.2.1⟩⟩⟩⟩)⟩
               have a3:Aside0 (Kd.R (Kd.int .i64) 3 (((bo.setCell ⟨a1,0,none⟩ (.slice cb ba.length cd)).setCell ⟨a1,1,none⟩ (.slice cg bc.length ch)).setCell ⟨a1,2,none⟩ (.slice bu bh.length bv)) w.heap.size (fun k_=>some k_≠(.slice b0 am.length az:Value).ownBlock∧some k_≠(.slice b3 an.length b4:Value).ownBlock∧some k_≠(.slice cb ba.length cd:Value).ownBlock∧some k_≠(.slice cg bc.length ch:Value).ownBlock∧some k_≠(.slice bu bh.length bv:Value).ownBlock) (.slice b2 ao.length ap) ao):=⟨by(with_reducible repeat first|apply Kd.Qq|apply Kd.Qp|apply Kd.Qr);exact Kd.Qw (Kd.Qx (Kd.Qx (Kd.Qx (Kd.Q5 aa.out au.out (by decide)) (fun _ hk=>hk.2) _) (fun _ hk=>hk.2) _) (fun _ hk=>hk.2) _) (fun _ hk=>⟨hk.1.2.2.2.1,⟨hk.1.2.2.2.2,⟨hk.1.1,⟨hk.1.2.1,hk.1.2.2.1⟩⟩⟩⟩)⟩
               have a7:Aside0 (Kd.R k36 36 (((bo.setCell ⟨a1,0,none⟩ (.slice cb ba.length cd)).setCell ⟨a1,1,none⟩ (.slice cg bc.length ch)).setCell ⟨a1,2,none⟩ (.slice bu bh.length bv)) w.heap.size (fun k_=>k_≠b5) nf e8):=⟨by(with_reducible repeat first|apply Kd.Qq|apply Kd.Qp|apply Kd.Qr);exact Kd.Qw (Kd.Qx (Kd.Qx (Kd.Qx (Kd.Q5 bf.out au.out (by decide)) (fun _ hk=>hk.2) _) (fun _ hk=>hk.2) _) (fun _ hk=>hk.2) _) (fun _ hk=>hk.1)⟩
               have al:Aside0 (Kd.R k86 86 (((bo.setCell ⟨a1,0,none⟩ (.slice cb ba.length cd)).setCell ⟨a1,1,none⟩ (.slice cg bc.length ch)).setCell ⟨a1,2,none⟩ (.slice bu bh.length bv)) w.heap.size (fun _=>True) ng e9):=⟨by(with_reducible repeat first|apply Kd.Qq|apply Kd.Qp|apply Kd.Qr);exact Kd.Qw (Kd.Qx (Kd.Qx (Kd.Qx (Kd.Q5 bg.out au.out (by decide)) (fun _ hk=>hk.2) _) (fun _ hk=>hk.2) _) (fun _ hk=>hk.2) _) (fun _ hk=>trivial)⟩
               have b1:Aside0 (Kd.R (Kd.int .i64) 3 (((bo.setCell ⟨a1,0,none⟩ (.slice cb ba.length cd)).setCell ⟨a1,1,none⟩ (.slice cg bc.length ch)).setCell ⟨a1,2,none⟩ (.slice bu bh.length bv)) w.heap.size (fun k_=>some k_≠(.slice b0 am.length az:Value).ownBlock∧some k_≠(.slice b3 an.length b4:Value).ownBlock∧some k_≠(.slice b2 ao.length ap:Value).ownBlock∧some k_≠(.slice cg bc.length ch:Value).ownBlock∧some k_≠(.slice bu bh.length bv:Value).ownBlock) (.slice cb ba.length cd) ba):=⟨by(with_reducible repeat first|apply Kd.Qq|apply Kd.Qp|apply Kd.Qr);exact Kd.Qw (Kd.Qx (Kd.Qx (Kd.Qx (Kd.Q5 cu.out au.out (by decide)) (fun _ hk=>hk.2) _) (fun _ hk=>hk.2) _) (fun _ hk=>hk.2) _) (fun _ hk=>⟨hk.1.2.2.1,⟨hk.1.2.2.2.1,⟨hk.1.2.2.2.2,⟨hk.1.1,hk.1.2.1⟩⟩⟩⟩)⟩
               have b8:Aside0 (Kd.R (Kd.int .i64) 3 (((bo.setCell ⟨a1,0,none⟩ (.slice cb ba.length cd)).setCell ⟨a1,1,none⟩ (.slice cg bc.length ch)).setCell ⟨a1,2,none⟩ (.slice bu bh.length bv)) w.heap.size (fun k_=>some k_≠(.slice b0 am.length az:Value).ownBlock∧some k_≠(.slice b3 an.length b4:Value).ownBlock∧some k_≠(.slice b2 ao.length ap:Value).ownBlock∧some k_≠(.slice cb ba.length cd:Value).ownBlock∧some k_≠(.slice bu bh.length bv:Value).ownBlock) (.slice cg bc.length ch) bc):=⟨by(with_reducible repeat first|apply Kd.Qq|apply Kd.Qp|apply Kd.Qr);exact Kd.Qw (Kd.Qx (Kd.Qx (Kd.Qx (Kd.Q5 cv.out au.out (by decide)) (fun _ hk=>hk.2) _) (fun _ hk=>hk.2) _) (fun _ hk=>hk.2) _) (fun _ hk=>⟨hk.1.2.2.1,⟨hk.1.2.2.2.1,⟨hk.1.2.2.2.2,⟨hk.1.1,hk.1.2.1⟩⟩⟩⟩)⟩
               have bi:Aside0 (Kd.R (Kd.int .i64) 3 (((bo.setCell ⟨a1,0,none⟩ (.slice cb ba.length cd)).setCell ⟨a1,1,none⟩ (.slice cg bc.length ch)).setCell ⟨a1,2,none⟩ (.slice bu bh.length bv)) w.heap.size (fun k_=>some k_≠(.slice b0 am.length az:Value).ownBlock∧some k_≠(.slice b3 an.length b4:Value).ownBlock∧some k_≠(.slice b2 ao.length ap:Value).ownBlock∧some k_≠(.slice cb ba.length cd:Value).ownBlock∧some k_≠(.slice cg bc.length ch:Value).ownBlock) (.slice bu bh.length bv) bh):=⟨by(with_reducible repeat first|apply Kd.Qq|apply Kd.Qp|apply Kd.Qr);exact Kd.Qw (Kd.Qx (Kd.Qx (Kd.Qx (Kd.Q5 cw.out au.out (by decide)) (fun _ hk=>hk.2) _) (fun _ hk=>hk.2) _) (fun _ hk=>hk.2) _) (fun _ hk=>⟨hk.1.2.2.1,⟨hk.1.2.2.2.1,⟨hk.1.2.2.2.2,⟨hk.1.1,hk.1.2.1⟩⟩⟩⟩)⟩
               have cf:Aside0 ((((bo.setCell ⟨a1,0,none⟩ (.slice cb ba.length cd)).setCell ⟨a1,1,none⟩ (.slice cg bc.length ch)).setCell ⟨a1,2,none⟩ (.slice bu bh.length bv)).heap[ν]?=some (.cells #[.int .i64 J,.int .i64 O,.int .i64 X,.int .i64 Y,.int .i64 Z,.int .i64 δ,.int .i64 γ,.int .i64 ι,.int .i64 θ,.int .i64 η,.slice (some ak) μ.length ar,.int .i64 a4,.slice ag ω.length ah,.slice ai a0.length aj] 52 (0,0))):=⟨bka B⟩
               have cx:Aside0 ((((bo.setCell ⟨a1,0,none⟩ (.slice cb ba.length cd)).setCell ⟨a1,1,none⟩ (.slice cg bc.length ch)).setCell ⟨a1,2,none⟩ (.slice bu bh.length bv)).heap[b5]?=some (.cells #[.int .i64 ζ,.int .i64 ε,.int .i64 κ] 36 (0,0))):=⟨bka τ⟩
               have bw:Aside0 ((((bo.setCell ⟨a1,0,none⟩ (.slice cb ba.length cd)).setCell ⟨a1,1,none⟩ (.slice cg bc.length ch)).setCell ⟨a1,2,none⟩ (.slice bu bh.length bv)).heap[b6]?=some (.cells #[.int .i64 J,.int .i64 (μ.length:Int)] 59 (0,0))):=⟨bka φ⟩
               have bz:Aside0 ((((bo.setCell ⟨a1,0,none⟩ (.slice cb ba.length cd)).setCell ⟨a1,1,none⟩ (.slice cg bc.length ch)).setCell ⟨a1,2,none⟩ (.slice bu bh.length bv)).heap[a2]?=some (.cells #[.slice b0 am.length az,.slice b3 an.length b4,.slice b2 ao.length ap] 34 (0,0))):=⟨bka ab⟩
               have ca:Aside0 ((((bo.setCell ⟨a1,0,none⟩ (.slice cb ba.length cd)).setCell ⟨a1,1,none⟩ (.slice cg bc.length ch)).setCell ⟨a1,2,none⟩ (.slice bu bh.length bv)).heap[a1]?=some (.cells #[.slice cb ba.length cd,.slice cg bc.length ch,.slice bu bh.length bv] 34 (0,0))):=⟨by refine Ql (cs:=#[.slice cb ba.length cd,.slice cg bc.length ch,.slice none 0 0]) ?_ 2 _ rfl;refine Ql (cs:=#[.slice cb ba.length cd,.slice none 0 0,.slice none 0 0]) ?_ 1 _ rfl;refine Ql (cs:=#[.slice none 0 0,.slice none 0 0,.slice none 0 0]) ?_ 0 _ rfl;exact au.out⟩
               have cm:Aside0 (Below w.heap.size w (((bo.setCell ⟨a1,0,none⟩ (.slice cb ba.length cd)).setCell ⟨a1,1,none⟩ (.slice cg bc.length ch)).setCell ⟨a1,2,none⟩ (.slice bu bh.length bv))):=⟨bel⟩
               (try clear a8)
               (try clear a9)
               (try clear aa)
               (try clear bf)
               (try clear bg)
               (try clear cu)
               (try clear cv)
               (try clear cw)
               (try clear B)
               (try clear τ)
               (try clear φ)
               (try clear ab)
               (try clear au)
               (try clear HB)
               generalize(((bo.setCell ⟨a1,0,none⟩ (.slice cb ba.length cd)).setCell ⟨a1,1,none⟩ (.slice cg bc.length ch)).setCell ⟨a1,2,none⟩ (.slice bu bh.length bv))=sw at ξ ρ a3 a7 al b1 b8 bi cf cx bw bz ca cm ⊢
               have a8:= ξ
               have a9:=ρ
               have aa:=a3
               have bf:=a7
               have bg:=al
               have cu:=b1
               have cv:=b8
               have cw:=bi
               have B:=cf
               have τ :=cx
               have φ :=bw
               have ab:=bz
               have au:=ca
               have HB:=cm
               clear ξ ρ a3 a7 al b1 b8 bi cf cx bw bz ca cm
               replace a8:=Aside0.mk (Kd.Qr a8.out)
               replace a9:=Aside0.mk (Kd.Qr a9.out)
               replace aa:=Aside0.mk (Kd.Qr aa.out)
               replace bf:=Aside0.mk (Kd.Qr bf.out)
               replace bg:=Aside0.mk (Kd.Qr bg.out)
               replace cu:=Aside0.mk (Kd.Qr cu.out)
               replace cv:=Aside0.mk (Kd.Qr cv.out)
               replace cw:=Aside0.mk (Kd.Qr cw.out)
               replace B:=Aside0.mk (Qe B.out)
               replace τ :=Aside0.mk (Qe τ.out)
               replace φ :=Aside0.mk (Qe φ.out)
               replace ab:=Aside0.mk (Qe ab.out)
               replace au:=Aside0.mk (Qe au.out)
               replace HB:=Aside0.mk (Qg HB.out)
               have nh:0≤(χ :Int):=of_decide_eq_true (by assumption)
               have ni: χ < (μ.length:Int):=of_decide_eq_true (by assumption)
               obtain⟨st,uj,fm,fn,fo,fp,fq,fr,ft,fu,fv,fw⟩:=Kh gp.out χ nh ni
               have ix:=fw
               have iy:=fv
               have iz:=fu
               have j2:=ft
               have j4:=fr
               have j5:=fq
               have j6:=fp
               have j7:=fo
               have j8:=fn
               have j9:=fm
               obtain rfl:ak=st:=(by injection uj)
               replace fm:=(HB.out.cell (World.block_lt_of_cell? w _ fm)).trans fm
               replace fn:=(HB.out.cell (World.block_lt_of_cell? w _ fn)).trans fn
               replace fo:=(HB.out.cell (World.block_lt_of_cell? w _ fo)).trans fo
               replace fp:=(HB.out.cell (World.block_lt_of_cell? w _ fp)).trans fp
               replace fq:=(HB.out.cell (World.block_lt_of_cell? w _ fq)).trans fq
               replace fr:=(HB.out.cell (World.block_lt_of_cell? w _ fr)).trans fr
               replace ft:=(HB.out.cell (World.block_lt_of_cell? w _ ft)).trans ft
               replace fu:=(HB.out.cell (World.block_lt_of_cell? w _ fu)).trans fu
               replace fv:=(HB.out.cell (World.block_lt_of_cell? w _ fv)).trans fv
               replace fw:=(HB.out.cell (World.block_lt_of_cell? w _ fw)).trans fw
               replace nh:=eq_true nh
               replace ni:=eq_true ni
               refine Zi (n:=15) (S:=fun w'=>w'.cell? ⟨ν,0,none⟩=some (.int .i64 J)∧w'.cell? ⟨ν,1,none⟩=some (.int .i64 O)∧w'.cell? ⟨ν,2,none⟩=some (.int .i64 X)∧w'.cell? ⟨ν,3,none⟩=some (.int .i64 Y)∧w'.cell? ⟨ν,4,none⟩=some (.int .i64 Z)∧w'.cell? ⟨ν,5,none⟩=some (.int .i64 δ)∧w'.cell? ⟨ν,6,none⟩=some (.int .i64 γ)∧w'.cell? ⟨ν,7,none⟩=some (.int .i64 ι)∧w'.cell? ⟨ν,8,none⟩=some (.int .i64 θ)∧w'.cell? ⟨ν,9,none⟩=some (.int .i64 η)∧w'.cell? ⟨ν,10,none⟩=some (.slice (some ak) μ.length ar)∧w'.cell? ⟨ν,11,none⟩=some (.int .i64 a4)∧w'.cell? ⟨ν,12,none⟩=some (.slice ag ω.length ah)∧w'.cell? ⟨ν,13,none⟩=some (.slice ai a0.length aj)∧w'.cell? ⟨a1,0,none⟩=some (.slice cb ba.length cd)∧w'.cell? ⟨a1,1,none⟩=some (.slice cg bc.length ch)∧w'.cell? ⟨a1,2,none⟩=some (.slice bu bh.length bv)∧w'.cell? ⟨b5,0,none⟩=some (.int .i64 ζ)∧w'.cell? ⟨b5,1,none⟩=some (.int .i64 ε)∧w'.cell? ⟨b5,2,none⟩=some (.int .i64 κ)∧w'.cell? (ak.add ((χ).toNat * 10))=some (.int .i64 ((Qb μ χ).f0.f0))∧w'.cell? ⟨(ak.add ((χ).toNat * 10)).block,(ak.add ((χ).toNat * 10)).off+1,none⟩=some (.int .i64 ((Qb μ χ).f0.f1))∧w'.cell? ⟨(ak.add ((χ).toNat * 10)).block,(ak.add ((χ).toNat * 10)).off+2,none⟩=some (.int .i64 ((Qb μ χ).f0.f2))∧w'.cell? ⟨(ak.add ((χ).toNat * 10)).block,(ak.add ((χ).toNat * 10)).off+3,none⟩=some (.int .i64 ((Qb μ χ).f0.f3))∧w'.cell? ⟨(ak.add ((χ).toNat * 10)).block,(ak.add ((χ).toNat * 10)).off+4,none⟩=some (.int .i64 ((Qb μ χ).f0.f4.f0))∧w'.cell? ⟨(ak.add ((χ).toNat * 10)).block,(ak.add ((χ).toNat * 10)).off+5,none⟩=some (.int .i64 ((Qb μ χ).f0.f4.f1))∧w'.cell? ⟨(ak.add ((χ).toNat * 10)).block,(ak.add ((χ).toNat * 10)).off+6,none⟩=some (.int .i64 ((Qb μ χ).f0.f4.f2))∧w'.cell? ⟨(ak.add ((χ).toNat * 10)).block,(ak.add ((χ).toNat * 10)).off+7,none⟩=some (.int .i64 ((Qb μ χ).f1))∧w'.cell? ⟨(ak.add ((χ).toNat * 10)).block,(ak.add ((χ).toNat * 10)).off+8,none⟩=some (.bool ((Qb μ χ).f2))∧w'.cell? ⟨(ak.add ((χ).toNat * 10)).block,(ak.add ((χ).toNat * 10)).off+9,none⟩=some (.bool ((Qb μ χ).f3))) (ds:=[]) #[false,false,false,false,false,false,false,false,false,false,false,false,false,false,false] kr rfl rfl ⟨(Qa B.out 0).trans rfl,(Qa B.out 1).trans rfl,(Qa B.out 2).trans rfl,(Qa B.out 3).trans rfl,(Qa B.out 4).trans rfl,(Qa B.out 5).trans rfl,(Qa B.out 6).trans rfl,(Qa B.out 7).trans rfl,(Qa B.out 8).trans rfl,(Qa B.out 9).trans rfl,(Qa B.out 10).trans rfl,(Qa B.out 11).trans rfl,(Qa B.out 12).trans rfl,(Qa B.out 13).trans rfl,(Qa au.out 0).trans rfl,(Qa au.out 1).trans rfl,(Qa au.out 2).trans rfl,(Qa τ.out 0).trans rfl,(Qa τ.out 1).trans rfl,(Qa τ.out 2).trans rfl,((HB.out.cell (World.block_lt_of_cell? w _ j9)).trans j9),((HB.out.cell (World.block_lt_of_cell? w _ j8)).trans j8),((HB.out.cell (World.block_lt_of_cell? w _ j7)).trans j7),((HB.out.cell (World.block_lt_of_cell? w _ j6)).trans j6),((HB.out.cell (World.block_lt_of_cell? w _ j5)).trans j5),((HB.out.cell (World.block_lt_of_cell? w _ j4)).trans j4),((HB.out.cell (World.block_lt_of_cell? w _ j2)).trans j2),((HB.out.cell (World.block_lt_of_cell? w _ iz)).trans iz),((HB.out.cell (World.block_lt_of_cell? w _ iy)).trans iy),((HB.out.cell (World.block_lt_of_cell? w _ ix)).trans ix)⟩ (fun hHeld=>?_);refine Q9 newellaw21_GroupBest.tab17 newellaw21_GroupBest.Dk (fun HT_ HW_=>?_)
               generalize sw.drew=zh at a8 a9 aa bf bg cu cv cw B τ φ ab au HB fm fn fo fp fq fr ft fu fv fw hHeld ⊢
               refine qP 0 (some 108) (bN 15 1) HT_ ?_
               refine qP 2 (some 110) (bN 15 5) HT_ ?_
               refine qP 4 (some 112) (bN 15 21) HT_ ?_
               refine qT 1 (some 109) (bN 15 23) HT_ HW_ hHeld ?_
               refine qT 3 (some 111) (bN 15 31) HT_ HW_ hHeld ?_
               refine qP 5 (some 113) (bN 15 63) HT_ ?_
               refine qT 6 (some 114) (bN 15 127) HT_ HW_ hHeld ?_
               refine qT 7 (some 115) (bN 15 255) HT_ HW_ hHeld ?_
               refine qT 8 (some 116) (bN 15 511) HT_ HW_ hHeld ?_
               refine Zb (i:=9) (N:=some 117) (bN 15 1023) rfl rfl (Q4 HT_.out kr) (by decide) (fun K hK=>?_)
               refine Za Try.func10 kr rfl #[.agg #[.int .i64 J,.int .i64 O,.int .i64 X,.int .i64 Y,.int .i64 Z,.int .i64 δ,.int .i64 γ,.int .i64 ι,.int .i64 θ,.int .i64 η],.agg #[.int .i64 ((Qb μ χ).f0.f0),.int .i64 ((Qb μ χ).f0.f1),.int .i64 ((Qb μ χ).f0.f2),.int .i64 ((Qb μ χ).f0.f3),.int .i64 ((Qb μ χ).f0.f4.f0),.int .i64 ((Qb μ χ).f0.f4.f1),.int .i64 ((Qb μ χ).f0.f4.f2),.int .i64 ((Qb μ χ).f1),.bool ((Qb μ χ).f2),.bool ((Qb μ χ).f3)],.agg #[.slice cb ba.length cd,.slice cg bc.length ch,.slice bu bh.length bv],.agg #[.int .i64 ζ,.int .i64 ε,.int .i64 κ]] (by rfl) rfl rfl qM ?_
               with_reducible refine(group_Cost.calls k3 J O X Y Z δ γ ι θ η ((Qb μ χ).f0.f0) ((Qb μ χ).f0.f1) ((Qb μ χ).f0.f2) ((Qb μ χ).f0.f3) ((Qb μ χ).f0.f4.f0) ((Qb μ χ).f0.f4.f1) ((Qb μ χ).f0.f4.f2) ((Qb μ χ).f1) ((Qb μ χ).f2) ((Qb μ χ).f3) _ _ ba _ _ bc _ _ bh ζ ε κ ek ua _ ?side1 ?side2 ?side3 ?side4 ?side5 ?side6 yc.out).mono ?_
               (case side1=>exact(Kd.Qu cu.out).2.2)
               (case side2=>exact(Kd.Qu cu.out).2.1)
               (case side3=>exact(Kd.Qu cv.out).2.2)
               (case side4=>exact(Kd.Qu cv.out).2.1)
               (case side5=>exact(Kd.Qu cw.out).2.2)
               (case side6=>exact(Kd.Qu cw.out).2.1)
               rintro e cj ⟨rfl,hb⟩
               refine⟨_,rfl, ?_⟩
               replace a8:=sRb a8 hb
               replace a9:=sRb a9 hb
               replace aa:=sRb aa hb
               replace bf:=sRb bf hb
               replace bg:=sRb bg hb
               replace cu:=sRb cu hb
               replace cv:=sRb cv hb
               replace cw:=sRb cw hb
               replace B:=sBk B hb
               replace τ :=sBk τ hb
               replace φ :=sBk φ hb
               replace ab:=sBk ab hb
               replace au:=sBk au hb
               replace HB:=sHb hb
               (try clear hb)
               (try clear ac)
               (try clear hk)
               (try clear hi)
               refine hK.out _ _ ⟨qc B,qc B,qc B,qc B,qc B,qc B,qc B,qc B,qc B,qc B,qc B,qc B,qc B,qc B,qc au,qc au,qc au,qc τ,qc τ,qc τ,((HB.out.cell (World.block_lt_of_cell? w _ j9)).trans j9),((HB.out.cell (World.block_lt_of_cell? w _ j8)).trans j8),((HB.out.cell (World.block_lt_of_cell? w _ j7)).trans j7),((HB.out.cell (World.block_lt_of_cell? w _ j6)).trans j6),((HB.out.cell (World.block_lt_of_cell? w _ j5)).trans j5),((HB.out.cell (World.block_lt_of_cell? w _ j4)).trans j4),((HB.out.cell (World.block_lt_of_cell? w _ j2)).trans j2),((HB.out.cell (World.block_lt_of_cell? w _ iz)).trans iz),((HB.out.cell (World.block_lt_of_cell? w _ iy)).trans iy),((HB.out.cell (World.block_lt_of_cell? w _ ix)).trans ix)⟩ (fun hHeld=>?_)
               clear hK K
               refine qN (some 117) ?_
               refine qP 10 (some 107) (bN 15 2047) HT_ ?_
               refine qP 11 (some 118) (bN 15 4095) HT_ ?_
               refine qP 12 (some 119) (bN 15 8191) HT_ ?_
               refine qP 13 (some 15) (bN 15 16383) HT_ ?_
               refine qP 14 (some 16) (bN 15 32767) HT_ ?_
               refine Zx (Ze HT_.out kr) ?_
               go_upto_region 18 with(fail)
               go_cut [141] (fun uk wc=>∃ (kq:Nat) (ja:Bool),uk = .bool ja∧Aside0 (newellaw21_GroupBest.j3 kq ψ bb χ ja J O X Y Z δ γ ι θ η μ a4 ω a0 ζ ε κ J (μ.length:Int)=some r)∧Aside0 (kq≤k3)∧Aside0 (Kd.R (Kd.int .i64) 3 wc w.heap.size (fun k_=>some k_≠((.slice b3 an.length b4):Value).ownBlock∧some k_≠((.slice b2 ao.length ap):Value).ownBlock∧some k_≠((.slice cb ba.length cd):Value).ownBlock∧some k_≠((.slice cg bc.length ch):Value).ownBlock∧some k_≠((.slice bu bh.length bv):Value).ownBlock) (.slice b0 am.length az) am)∧Aside0 (Kd.R (Kd.int .i64) 3 wc w.heap.size (fun k_=>some k_≠((.slice b0 am.length az):Value).ownBlock∧some k_≠((.slice b2 ao.length ap):Value).ownBlock∧some k_≠((.slice cb ba.length cd):Value).ownBlock∧some k_≠((.slice cg bc.length ch):Value).ownBlock∧some k_≠((.slice bu bh.length bv):Value).ownBlock) (.slice b3 an.length b4) an)∧Aside0 (Kd.R (Kd.int .i64) 3 wc w.heap.size (fun k_=>some k_≠((.slice b0 am.length az):Value).ownBlock∧some k_≠((.slice b3 an.length b4):Value).ownBlock∧some k_≠((.slice cb ba.length cd):Value).ownBlock∧some k_≠((.slice cg bc.length ch):Value).ownBlock∧some k_≠((.slice bu bh.length bv):Value).ownBlock) (.slice b2 ao.length ap) ao)∧Aside0 (Kd.R (Kd.int .i64) 3 wc w.heap.size (fun k_=>some k_≠((.slice b0 am.length az):Value).ownBlock∧some k_≠((.slice b3 an.length b4):Value).ownBlock∧some k_≠((.slice b2 ao.length ap):Value).ownBlock∧some k_≠((.slice cg bc.length ch):Value).ownBlock∧some k_≠((.slice bu bh.length bv):Value).ownBlock) (.slice cb ba.length cd) ba)∧Aside0 (Kd.R (Kd.int .i64) 3 wc w.heap.size (fun k_=>some k_≠((.slice b0 am.length az):Value).ownBlock∧some k_≠((.slice b3 an.length b4):Value).ownBlock∧some k_≠((.slice b2 ao.length ap):Value).ownBlock∧some k_≠((.slice cb ba.length cd):Value).ownBlock∧some k_≠((.slice bu bh.length bv):Value).ownBlock) (.slice cg bc.length ch) bc)∧Aside0 (Kd.R (Kd.int .i64) 3 wc w.heap.size (fun k_=>some k_≠((.slice b0 am.length az):Value).ownBlock∧some k_≠((.slice b3 an.length b4):Value).ownBlock∧some k_≠((.slice b2 ao.length ap):Value).ownBlock∧some k_≠((.slice cb ba.length cd):Value).ownBlock∧some k_≠((.slice cg bc.length ch):Value).ownBlock) (.slice bu bh.length bv) bh)∧Aside0 (wc.heap[ν]?=some (.cells #[.int .i64 J,.int .i64 O,.int .i64 X,.int .i64 Y,.int .i64 Z,.int .i64 δ,.int .i64 γ,.int .i64 ι,.int .i64 θ,.int .i64 η,(.slice (some ak) μ.length ar),.int .i64 a4,(.slice ag ω.length ah),(.slice ai a0.length aj)] 52 (0,0)))∧Aside0 (wc.heap[b5]?=some (.cells #[.int .i64 ζ,.int .i64 ε,.int .i64 κ] 36 (0,0)))∧Aside0 (wc.heap[b6]?=some (.cells #[.int .i64 J,.int .i64 (μ.length:Int)] 59 (0,0)))∧Aside0 (wc.heap[a2]?=some (.cells #[(.slice b0 am.length az),(.slice b3 an.length b4),(.slice b2 ao.length ap)] 34 (0,0)))∧Aside0 (wc.heap[a1]?=some (.cells #[(.slice cb ba.length cd),(.slice cg bc.length ch),(.slice bu bh.length bv)] 34 (0,0)))∧Aside0 (Below w.heap.size w wc))
               case first=>
                have H:=ox.out
                clear ox
                obtain⟨i4,qg⟩:∃ j_:Int,(IntKind.u64.wrap (χ))=j_:=⟨_,rfl⟩
                replace H:(if 0≤(i4) then (if (Go.bits .and .i64 (shr .i64 a4 (i4)) 1)=0 then (if ek<bb then (none) else (if ek=bb then (newellaw21_GroupBest.j3 k3 ψ bb χ (decide (χ < ψ)) J O X Y Z δ γ ι θ η μ a4 ω a0 ζ ε κ J (μ.length:Int)) else (newellaw21_GroupBest.j3 k3 ψ bb χ false J O X Y Z δ γ ι θ η μ a4 ω a0 ζ ε κ J (μ.length:Int)))) else (newellaw21_GroupBest.j3 k3 ψ bb χ false J O X Y Z δ γ ι θ η μ a4 ω a0 ζ ε κ J (μ.length:Int))) else (none))=some r:=by first|(rw[qg] at H;exact H)|(simp only[qg] at H ⊢;exact H)
                by_cases hy:0≤(i4)
                ·rw[if_pos hy] at H
                 have c90b0:=eq_true hy
                 have c90b1:decide (0≤(i4))=true:=decide_eq_true hy
                 clear hy
                 obtain⟨i5,ke⟩:∃ j_:Int,(shr .i64 a4 (i4))=j_:=⟨_,rfl⟩
                 replace H:(if (Go.bits .and .i64 (i5) 1)=0 then (if ek<bb then (none) else (if ek=bb then (newellaw21_GroupBest.j3 k3 ψ bb χ (decide (χ < ψ)) J O X Y Z δ γ ι θ η μ a4 ω a0 ζ ε κ J (μ.length:Int)) else (newellaw21_GroupBest.j3 k3 ψ bb χ false J O X Y Z δ γ ι θ η μ a4 ω a0 ζ ε κ J (μ.length:Int)))) else (newellaw21_GroupBest.j3 k3 ψ bb χ false J O X Y Z δ γ ι θ η μ a4 ω a0 ζ ε κ J (μ.length:Int)))=some r:=by first|(rw[ke] at H;exact H)|(simp only[ke] at H ⊢;exact H)
                 have ye:(a4 / 2 ^ min (i4).toNat 64)=i5:=ke
                 have hji91z:(i4)≤64→(a4 / 2 ^ (i4).toNat)=i5:=Jw ke
                 by_cases kb:(Go.bits .and .i64 (i5) 1)=0
                 ·rw[if_pos kb] at H
                  have c92b0:((Go.bits .and .i64 (i5) 1)==0)=true:=beq_iff_eq.mpr kb
                  have c92b1:((Go.bits .and .i64 (i5) 1) != 0)=false:=bne_eq_false_iff_eq.mpr kb
                  clear kb
                  (first|rw[c92b0]|(simp only[Zg,Zl];rw[c92b0])|skip)
                  by_cases nv:ek<bb
                  ·rw[if_pos nv] at H
                   exact absurd H (by simp)
                  ·rw[if_neg nv] at H
                   have c93b0:decide (ek<bb)=false:=decide_eq_false nv
                   clear nv
                   by_cases kc:ek=bb
                   ·rw[if_pos kc] at H
                    have c94b0:(ek==bb)=true:=beq_iff_eq.mpr kc
                    have c94b1:(ek != bb)=false:=bne_eq_false_iff_eq.mpr kc
                    clear kc
                    have H':=Aside0.mk H
                    clear H
                    have sk:=d9.out
                    have sl:=da.out
                    have sn:=dy.out
                    have so:=dz.out
                    have se:=a5.out
                    have sf:=bq.out
                    have sg:=a6.out
                    have sh:=ct.out
                    have lx:cj.cell? ⟨ν,0,none⟩=some (.int .i64 J):=(Qa B.out 0).trans rfl
                    have ly:cj.cell? ⟨ν,1,none⟩=some (.int .i64 O):=(Qa B.out 1).trans rfl
                    have lz:cj.cell? ⟨ν,2,none⟩=some (.int .i64 X):=(Qa B.out 2).trans rfl
                    have qj:cj.cell? ⟨ν,3,none⟩=some (.int .i64 Y):=(Qa B.out 3).trans rfl
                    have qk:cj.cell? ⟨ν,4,none⟩=some (.int .i64 Z):=(Qa B.out 4).trans rfl
                    have ql:cj.cell? ⟨ν,5,none⟩=some (.int .i64 δ):=(Qa B.out 5).trans rfl
                    have qm:cj.cell? ⟨ν,6,none⟩=some (.int .i64 γ):=(Qa B.out 6).trans rfl
                    have qn:cj.cell? ⟨ν,7,none⟩=some (.int .i64 ι):=(Qa B.out 7).trans rfl
                    have qo:cj.cell? ⟨ν,8,none⟩=some (.int .i64 θ):=(Qa B.out 8).trans rfl
                    have qp:cj.cell? ⟨ν,9,none⟩=some (.int .i64 η):=(Qa B.out 9).trans rfl
                    have oy:cj.cell? ⟨ν,10,none⟩=some (.slice (some ak) μ.length ar):=(Qa B.out 10).trans rfl
                    have oz:cj.cell? ⟨ν,11,none⟩=some (.int .i64 a4):=(Qa B.out 11).trans rfl
                    have p0:cj.cell? ⟨ν,12,none⟩=some (.slice ag ω.length ah):=(Qa B.out 12).trans rfl
                    have p1:cj.cell? ⟨ν,13,none⟩=some (.slice ai a0.length aj):=(Qa B.out 13).trans rfl
                    have m0:=Qc B.out 0
                    have m1:=Qc B.out 1
                    have m2:=Qc B.out 2
                    have qq:=Qc B.out 3
                    have qs:=Qc B.out 4
                    have qt:=Qc B.out 5
                    have qu:=Qc B.out 6
                    have qv:=Qc B.out 7
                    have qw:=Qc B.out 8
                    have qx:=Qc B.out 9
                    have p6:=Qc B.out 10
                    have p7:=Qc B.out 11
                    have p8:=Qc B.out 12
                    have p9:=Qc B.out 13
                    go_wp2
                    go_meet
                    case rel=>exact⟨_,(decide (χ < ψ)),rfl,H',⟨by have:=m3.out;have:=lg.out;have:=nu.out;first|omega|exact Nat.le_refl _⟩,⟨by(with_reducible repeat first|apply Kd.Qq|apply Kd.Qp|apply Kd.Qr);exact a8.out⟩,⟨by(with_reducible repeat first|apply Kd.Qq|apply Kd.Qp|apply Kd.Qr);exact a9.out⟩,⟨by(with_reducible repeat first|apply Kd.Qq|apply Kd.Qp|apply Kd.Qr);exact aa.out⟩,⟨by(with_reducible repeat first|apply Kd.Qq|apply Kd.Qp|apply Kd.Qr);exact cu.out⟩,⟨by(with_reducible repeat first|apply Kd.Qq|apply Kd.Qp|apply Kd.Qr);exact cv.out⟩,⟨by(with_reducible repeat first|apply Kd.Qq|apply Kd.Qp|apply Kd.Qr);exact cw.out⟩,B,τ,φ,ab,au,HB⟩
                   ·rw[if_neg kc] at H
                    have c94b0:(ek==bb)=false:=beq_eq_false_iff_ne.mpr kc
                    have c94b1:(ek != bb)=true:=bne_iff_ne.mpr kc
                    have H':=Aside0.mk H
                    clear H
                    have r9:=d9.out
                    have ra:=da.out
                    have rb:=dy.out
                    have rc:=dz.out
                    have re:=a5.out
                    have rf:=bq.out
                    have rh:=a6.out
                    have ri:=ct.out
                    have ku:cj.cell? ⟨ν,0,none⟩=some (.int .i64 J):=(Qa B.out 0).trans rfl
                    have kv:cj.cell? ⟨ν,1,none⟩=some (.int .i64 O):=(Qa B.out 1).trans rfl
                    have kw:cj.cell? ⟨ν,2,none⟩=some (.int .i64 X):=(Qa B.out 2).trans rfl
                    have pa:cj.cell? ⟨ν,3,none⟩=some (.int .i64 Y):=(Qa B.out 3).trans rfl
                    have pb:cj.cell? ⟨ν,4,none⟩=some (.int .i64 Z):=(Qa B.out 4).trans rfl
                    have pc:cj.cell? ⟨ν,5,none⟩=some (.int .i64 δ):=(Qa B.out 5).trans rfl
                    have pd:cj.cell? ⟨ν,6,none⟩=some (.int .i64 γ):=(Qa B.out 6).trans rfl
                    have pe:cj.cell? ⟨ν,7,none⟩=some (.int .i64 ι):=(Qa B.out 7).trans rfl
                    have pf:cj.cell? ⟨ν,8,none⟩=some (.int .i64 θ):=(Qa B.out 8).trans rfl
                    have pg:cj.cell? ⟨ν,9,none⟩=some (.int .i64 η):=(Qa B.out 9).trans rfl
                    have nw:cj.cell? ⟨ν,10,none⟩=some (.slice (some ak) μ.length ar):=(Qa B.out 10).trans rfl
                    have nx:cj.cell? ⟨ν,11,none⟩=some (.int .i64 a4):=(Qa B.out 11).trans rfl
                    have ny:cj.cell? ⟨ν,12,none⟩=some (.slice ag ω.length ah):=(Qa B.out 12).trans rfl
                    have nz:cj.cell? ⟨ν,13,none⟩=some (.slice ai a0.length aj):=(Qa B.out 13).trans rfl
                    have kx:=Qc B.out 0
                    have ky:=Qc B.out 1
                    have kz:=Qc B.out 2
                    have pi:=Qc B.out 3
                    have pj:=Qc B.out 4
                    have pk:=Qc B.out 5
                    have pm:=Qc B.out 6
                    have pn:=Qc B.out 7
                    have po:=Qc B.out 8
                    have pp:=Qc B.out 9
                    have o0:=Qc B.out 10
                    have o1:=Qc B.out 11
                    have o2:=Qc B.out 12
                    have o3:=Qc B.out 13
                    go_wp2
                    go_meet
                    case rel=>exact⟨_,(false),rfl,H',⟨by have:=m3.out;have:=lg.out;have:=nu.out;first|omega|exact Nat.le_refl _⟩,⟨by(with_reducible repeat first|apply Kd.Qq|apply Kd.Qp|apply Kd.Qr);exact a8.out⟩,⟨by(with_reducible repeat first|apply Kd.Qq|apply Kd.Qp|apply Kd.Qr);exact a9.out⟩,⟨by(with_reducible repeat first|apply Kd.Qq|apply Kd.Qp|apply Kd.Qr);exact aa.out⟩,⟨by(with_reducible repeat first|apply Kd.Qq|apply Kd.Qp|apply Kd.Qr);exact cu.out⟩,⟨by(with_reducible repeat first|apply Kd.Qq|apply Kd.Qp|apply Kd.Qr);exact cv.out⟩,⟨by(with_reducible repeat first|apply Kd.Qq|apply Kd.Qp|apply Kd.Qr);exact cw.out⟩,B,τ,φ,ab,au,HB⟩
                 ·rw[if_neg kb] at H
                  have c92b0:((Go.bits .and .i64 (i5) 1)==0)=false:=beq_eq_false_iff_ne.mpr kb
                  have c92b1:((Go.bits .and .i64 (i5) 1) != 0)=true:=bne_iff_ne.mpr kb
                  (first|rw[c92b0]|(simp only[Zg,Zl];rw[c92b0])|skip)
                  have H':=Aside0.mk H
                  clear H
                  have qz:=d9.out
                  have r0:=da.out
                  have r5:=dy.out
                  have r6:=dz.out
                  have yf:=a5.out
                  have yg:=bq.out
                  have r7:=a6.out
                  have r8:=ct.out
                  have kj:cj.cell? ⟨ν,0,none⟩=some (.int .i64 J):=(Qa B.out 0).trans rfl
                  have kk:cj.cell? ⟨ν,1,none⟩=some (.int .i64 O):=(Qa B.out 1).trans rfl
                  have pq:cj.cell? ⟨ν,2,none⟩=some (.int .i64 X):=(Qa B.out 2).trans rfl
                  have pr:cj.cell? ⟨ν,3,none⟩=some (.int .i64 Y):=(Qa B.out 3).trans rfl
                  have pt:cj.cell? ⟨ν,4,none⟩=some (.int .i64 Z):=(Qa B.out 4).trans rfl
                  have pu:cj.cell? ⟨ν,5,none⟩=some (.int .i64 δ):=(Qa B.out 5).trans rfl
                  have pv:cj.cell? ⟨ν,6,none⟩=some (.int .i64 γ):=(Qa B.out 6).trans rfl
                  have pw:cj.cell? ⟨ν,7,none⟩=some (.int .i64 ι):=(Qa B.out 7).trans rfl
                  have px:cj.cell? ⟨ν,8,none⟩=some (.int .i64 θ):=(Qa B.out 8).trans rfl
                  have py:cj.cell? ⟨ν,9,none⟩=some (.int .i64 η):=(Qa B.out 9).trans rfl
                  have o4:cj.cell? ⟨ν,10,none⟩=some (.slice (some ak) μ.length ar):=(Qa B.out 10).trans rfl
                  have o5:cj.cell? ⟨ν,11,none⟩=some (.int .i64 a4):=(Qa B.out 11).trans rfl
                  have o6:cj.cell? ⟨ν,12,none⟩=some (.slice ag ω.length ah):=(Qa B.out 12).trans rfl
                  have o7:cj.cell? ⟨ν,13,none⟩=some (.slice ai a0.length aj):=(Qa B.out 13).trans rfl
                  have kl:=Qc B.out 0
                  have km:=Qc B.out 1
                  have pz:=Qc B.out 2
                  have q0:=Qc B.out 3
                  have q1:=Qc B.out 4
                  have q2:=Qc B.out 5
                  have q3:=Qc B.out 6
                  have q4:=Qc B.out 7
                  have q6:=Qc B.out 8
                  have q7:=Qc B.out 9
                  have o8:=Qc B.out 10
                  have o9:=Qc B.out 11
                  have oa:=Qc B.out 12
                  have ob:=Qc B.out 13
                  go_wp2
                  go_meet
                  case rel=>exact⟨_,(false),rfl,H',⟨by have:=m3.out;have:=lg.out;have:=nu.out;first|omega|exact Nat.le_refl _⟩,⟨by(with_reducible repeat first|apply Kd.Qq|apply Kd.Qp|apply Kd.Qr);exact a8.out⟩,⟨by(with_reducible repeat first|apply Kd.Qq|apply Kd.Qp|apply Kd.Qr);exact a9.out⟩,⟨by(with_reducible repeat first|apply Kd.Qq|apply Kd.Qp|apply Kd.Qr);exact aa.out⟩,⟨by(with_reducible repeat first|apply Kd.Qq|apply Kd.Qp|apply Kd.Qr);exact cu.out⟩,⟨by(with_reducible repeat first|apply Kd.Qq|apply Kd.Qp|apply Kd.Qr);exact cv.out⟩,⟨by(with_reducible repeat first|apply Kd.Qq|apply Kd.Qp|apply Kd.Qr);exact cw.out⟩,B,τ,φ,ab,au,HB⟩
                ·rw[if_neg hy] at H
                 exact absurd H (by simp)
               case rest=>
                clear ox
                try clear c1
                try clear p2
                try clear p5
                try clear q5
                try clear qd
                try clear c9
                try clear c10
                try clear p57
                try clear zi
                try clear z6
                try clear hy
                try clear c90b0
                try clear c90b1
                try clear kb
                try clear c92b0
                try clear c92b1
                try clear nv
                try clear c93b0
                try clear kc
                try clear c94b0
                try clear c94b1
                try clear zj
                try clear zk
                try clear zl
                try clear zm
                try clear z7
                try clear z8
                try clear z9
                try clear za
                try clear zb
                try clear zc
                try clear zd
                try clear ze
                try clear ku
                try clear kv
                try clear nw
                try clear nx
                try clear ny
                try clear nz
                try clear kw
                try clear pa
                try clear pb
                try clear pc
                try clear pd
                try clear pe
                try clear pf
                try clear pg
                try clear kj
                try clear kk
                try clear o4
                try clear o5
                try clear o6
                try clear o7
                try clear pq
                try clear pr
                try clear pt
                try clear pu
                try clear pv
                try clear pw
                try clear px
                try clear py
                try clear lx
                try clear ly
                try clear oy
                try clear oz
                try clear p0
                try clear p1
                try clear lz
                try clear qj
                try clear qk
                try clear ql
                try clear qm
                try clear qn
                try clear qo
                try clear qp
                try clear kx
                try clear ky
                try clear o0
                try clear o1
                try clear o2
                try clear o3
                try clear kz
                try clear pi
                try clear pj
                try clear pk
                try clear pm
                try clear pn
                try clear po
                try clear pp
                try clear kl
                try clear km
                try clear o8
                try clear o9
                try clear oa
                try clear ob
                try clear pz
                try clear q0
                try clear q1
                try clear q2
                try clear q3
                try clear q4
                try clear q6
                try clear q7
                try clear m0
                try clear m1
                try clear p6
                try clear p7
                try clear p8
                try clear p9
                try clear m2
                try clear qq
                try clear qs
                try clear qt
                try clear qu
                try clear qv
                try clear qw
                try clear qx
                try clear fm
                try clear fn
                try clear fo
                try clear fp
                try clear fq
                try clear fr
                try clear ft
                try clear fu
                try clear fv
                try clear fw
                try clear nh
                try clear ni
                obtain⟨kq,ja,rfl,HA,sa,a8,a9,aa,t1,t2,t3,B,τ,φ,ab,au,HB⟩:=hcut
                cases kq with
                |zero=>exact absurd HA.out (by simp[newellaw21_GroupBest.j3])
                |succ sb=>
                 have H:=HA.out
                 clear HA
                 simp only[newellaw21_GroupBest.j3] at H
                 by_cases nj:ja=true
                 ·subst nj
                  have H1:(none)=some r:=by rw[if_pos rfl] at H;exact H
                  clear H
                  have H:=H1
                  clear H1
                  exact absurd H (by simp)
                 ·replace nj:=Bool.eq_false_iff.mpr nj
                  subst nj
                  have H1:(newellaw21_GroupBest.l0 sb ψ bb (wrap64 (χ + 1)) J O X Y Z δ γ ι θ η μ a4 ω a0 ζ ε κ J (μ.length:Int))=some r:=by rw[if_neg (show ¬ (false=true) by decide)] at H;exact H
                  clear H
                  have H:=H1
                  clear H1
                  have H':=Aside0.mk H
                  clear H
                  go_wp2
                  go_roundg sb
                  case measure=>have:=m3.out;have:=lg.out;have:=nu.out;have:=sa.out;omega
                  case rel=>exact⟨(wrap64 (χ + 1)),rfl,H',⟨by have:=m3.out;have:=lg.out;have:=nu.out;have:=sa.out;omega⟩,⟨by(with_reducible repeat first|apply Kd.Qq|apply Kd.Qp|apply Kd.Qr);exact Kd.Qw a8.out (fun _ hk=>⟨hk.1,hk.2.1⟩)⟩,⟨by(with_reducible repeat first|apply Kd.Qq|apply Kd.Qp|apply Kd.Qr);exact Kd.Qw a9.out (fun _ hk=>⟨hk.1,hk.2.1⟩)⟩,⟨by(with_reducible repeat first|apply Kd.Qq|apply Kd.Qp|apply Kd.Qr);exact Kd.Qw aa.out (fun _ hk=>⟨hk.1,hk.2.1⟩)⟩,B,τ,φ,ab,HB⟩
              ·rw[if_neg qf] at H
               exact absurd H (by simp)
             ·rw[if_neg kt] at H
              have c63b0:decide (χ < (μ.length:Int))=false:=decide_eq_false kt
              clear kt
              replace H:=Option.bind_eq_some_iff.mp H
              obtain⟨n2,qh,H⟩:=H
              replace H:(some n2)=some r:=H
              have ul:=Aside0.mk qh
              clear qh
              obtain rfl:=Option.some.inj H
              have yh:=d9.out
              have yi:=da.out
              have yj:=dy.out
              have yk:=dz.out
              have yl:=a5.out
              have ym:=bq.out
              have um:wr.cell? ⟨ν,0,none⟩=some (.int .i64 J):=(Qa B.out 0).trans rfl
              have un:wr.cell? ⟨ν,1,none⟩=some (.int .i64 O):=(Qa B.out 1).trans rfl
              have uo:wr.cell? ⟨ν,2,none⟩=some (.int .i64 X):=(Qa B.out 2).trans rfl
              have uq:wr.cell? ⟨ν,3,none⟩=some (.int .i64 Y):=(Qa B.out 3).trans rfl
              have us:wr.cell? ⟨ν,4,none⟩=some (.int .i64 Z):=(Qa B.out 4).trans rfl
              have ut:wr.cell? ⟨ν,5,none⟩=some (.int .i64 δ):=(Qa B.out 5).trans rfl
              have uu:wr.cell? ⟨ν,6,none⟩=some (.int .i64 γ):=(Qa B.out 6).trans rfl
              have uv:wr.cell? ⟨ν,7,none⟩=some (.int .i64 ι):=(Qa B.out 7).trans rfl
              have uw:wr.cell? ⟨ν,8,none⟩=some (.int .i64 θ):=(Qa B.out 8).trans rfl
              have ux:wr.cell? ⟨ν,9,none⟩=some (.int .i64 η):=(Qa B.out 9).trans rfl
              have t4:wr.cell? ⟨ν,10,none⟩=some (.slice (some ak) μ.length ar):=(Qa B.out 10).trans rfl
              have t5:wr.cell? ⟨ν,11,none⟩=some (.int .i64 a4):=(Qa B.out 11).trans rfl
              have t6:wr.cell? ⟨ν,12,none⟩=some (.slice ag ω.length ah):=(Qa B.out 12).trans rfl
              have t7:wr.cell? ⟨ν,13,none⟩=some (.slice ai a0.length aj):=(Qa B.out 13).trans rfl
              have uy:=Qc B.out 0
              have uz:=Qc B.out 1
              have v0:=Qc B.out 2
              have v2:=Qc B.out 3
              have v3:=Qc B.out 4
              have v4:=Qc B.out 5
              have v5:=Qc B.out 6
              have v6:=Qc B.out 7
              have v7:=Qc B.out 8
              have v8:=Qc B.out 9
              have t8:=Qc B.out 10
              have t9:=Qc B.out 11
              have ta:=Qc B.out 12
              have tb:=Qc B.out 13
              go_wp2_with (first|((with_reducible refine Qo (f:=9) rfl ?_);refine Q6 (some 142) rfl rfl Try.func9 kr rfl #[] rfl qM ?_;(with_reducible refine(newellaw21_awake.calls k3  n2 _ ul.out).mono ?_);rintro e tm ⟨rfl,hb⟩;refine⟨_,rfl, ?_⟩;replace a8:=sRb a8 hb;replace a9:=sRb a9 hb;replace aa:=sRb aa hb;replace B:=sBk B hb;replace τ :=sBk τ hb;replace φ :=sBk φ hb;replace ab:=sBk ab hb;replace HB:=sHb hb;(try clear hb);(try clear ac);(try clear hk);(try clear hi)))
              go_ret
              exact⟨rfl,HB.out⟩
       ·rw[if_neg d8] at H
        exact absurd H (by simp)
      ·rw[if_neg d3] at H
       exact absurd H (by simp)
 ·replace c4:=Bool.eq_false_iff.mpr c4
  subst c4
  have H1:((newellaw21_awake.f k).bind fun gm=>(some gm))=some r:=by rw[if_neg (show ¬ (false=true) by decide)] at H;exact H
  clear H
  have H:=H1
  clear H1
  replace H:=Option.bind_eq_some_iff.mp H
  obtain⟨gm,qi,H⟩:=H
  replace H:(some gm)=some r:=H
  have v9:=Aside0.mk qi
  clear qi
  obtain rfl:=Option.some.inj H
  go_enter Try.func6,Try.ntmps6
  go_wp2_with (first|((with_reducible refine Qf (N:=2) rfl ?_);refine qE 2 #[.int .i64 J,.int .i64 O,.int .i64 X,.int .i64 Y,.int .i64 Z,.int .i64 δ,.int .i64 γ,.int .i64 ι,.int .i64 θ,.int .i64 η,.slice b9 μ.length ar,.int .i64 a4,.slice ag ω.length ah,.slice ai a0.length aj] 52 ?_;intro ν hg zf hbox hb;have B:=Aside0.mk hbox;have sp:=sGe hg;have sq:=sGe hg;replace HB:=sHb hb;clear hb hbox hg)|((with_reducible refine Qf (N:=3) rfl ?_);refine qE 3 #[.int .i64 ζ,.int .i64 ε,.int .i64 κ] 36 ?_;intro b5 hg el hbox hb;have τ :=Aside0.mk hbox;have sr:=sGe hg;have ss:=sGe hg;have d9:=sNl B hg;have da:=sNg B hg;replace B:=sBk B hb;replace HB:=sHb hb;clear hb hbox hg;have nq:=d9.out;have nr:=da.out;have oc:el.cell? ⟨ν,0,none⟩=some (.int .i64 J):=(Qa B.out 0).trans rfl;have od:el.cell? ⟨ν,1,none⟩=some (.int .i64 O):=(Qa B.out 1).trans rfl;have va:el.cell? ⟨ν,2,none⟩=some (.int .i64 X):=(Qa B.out 2).trans rfl;have vb:el.cell? ⟨ν,3,none⟩=some (.int .i64 Y):=(Qa B.out 3).trans rfl;have vc:el.cell? ⟨ν,4,none⟩=some (.int .i64 Z):=(Qa B.out 4).trans rfl;have vd:el.cell? ⟨ν,5,none⟩=some (.int .i64 δ):=(Qa B.out 5).trans rfl;have ve:el.cell? ⟨ν,6,none⟩=some (.int .i64 γ):=(Qa B.out 6).trans rfl;have vf:el.cell? ⟨ν,7,none⟩=some (.int .i64 ι):=(Qa B.out 7).trans rfl;have vg:el.cell? ⟨ν,8,none⟩=some (.int .i64 θ):=(Qa B.out 8).trans rfl;have vh:el.cell? ⟨ν,9,none⟩=some (.int .i64 η):=(Qa B.out 9).trans rfl;have tc:el.cell? ⟨ν,10,none⟩=some (.slice b9 μ.length ar):=(Qa B.out 10).trans rfl;have td:el.cell? ⟨ν,11,none⟩=some (.int .i64 a4):=(Qa B.out 11).trans rfl;have te:el.cell? ⟨ν,12,none⟩=some (.slice ag ω.length ah):=(Qa B.out 12).trans rfl;have tf:el.cell? ⟨ν,13,none⟩=some (.slice ai a0.length aj):=(Qa B.out 13).trans rfl;have oe:=Qc B.out 0;have oh:=Qc B.out 1;have vi:=Qc B.out 2;have vj:=Qc B.out 3;have vk:=Qc B.out 4;have vl:=Qc B.out 5;have vm:=Qc B.out 6;have vn:=Qc B.out 7;have vo:=Qc B.out 8;have vp:=Qc B.out 9;have tg:=Qc B.out 10;have ti:=Qc B.out 11;have tj:=Qc B.out 12;have tk:=Qc B.out 13)|((with_reducible refine Qo (f:=13) rfl ?_);refine Q6 (some 18) rfl rfl Try.func13 kr rfl #[.agg #[.int .i64 J,.int .i64 O,.int .i64 X,.int .i64 Y,.int .i64 Z,.int .i64 δ,.int .i64 γ,.int .i64 ι,.int .i64 θ,.int .i64 η,.slice b9 μ.length ar,.int .i64 a4,.slice ag ω.length ah,.slice ai a0.length aj]] rfl qM ?_;(with_reducible refine(newellaw21_few.calls J O X Y Z δ γ ι θ η _ _ μ a4 _ _ ω _ _ a0 false _ ?side1 ?side2 ?side3 ?side4 ?side5 ?side6 A3.out).mono ?_);(case side1=>exact(Kd.Qy gp.out HB.out));(case side2=>exact jm.out);(case side3=>exact(Kd.Qy ee.out HB.out));(case side4=>exact ef.out);(case side5=>exact(Kd.Qy eg.out HB.out));(case side6=>exact eh.out);rintro e tn ⟨rfl,hb⟩;refine⟨_,rfl, ?_⟩;replace B:=sBk B hb;replace τ :=sBk τ hb;replace HB:=sHb hb;(try clear hb);(try clear ac);(try clear hk);(try clear hi))|((with_reducible refine Qo (f:=9) rfl ?_);refine Q6 (some 20) rfl rfl Try.func9 kr rfl #[] rfl qM ?_;(with_reducible refine(newellaw21_awake.calls k  gm _ v9.out).mono ?_);rintro e zg ⟨rfl,hb⟩;refine⟨_,rfl, ?_⟩;replace B:=sBk B hb;replace τ :=sBk τ hb;replace HB:=sHb hb;(try clear hb);(try clear ac);(try clear hk);(try clear hi)))
  go_ret
  exact⟨rfl,HB.out⟩
end Go.Proofs.Ytmfffemidlhcpaa.C
namespace Go.Proofs.Ytmfffemidlhcpaa.GrpPure
open Go.RowKit Go.Proofs.YtmfffemidlhcpaaW.PrintWords Go.Proofs.YtmfffemidlhcpaaW.PrintLast Go.Proofs.YtmfffemidlhcpaaW.PrintMore Go.Proofs.Ytmfffemidlhcpaa.C Go.Proofs.Ytmfffemidlhcpaa.DoorPure
set_option linter.unusedVariables false
set_option linter.unusedSimpArgs false
open Go.Proofs.Ytmfffemidlhcpaa.Call (i64 okB Xx Xu Xv Hall Ins ltH ltI)
theorem Wy (i:Nat) (h:i≤1000):IntKind.u64.wrap (i:Int)=(i:Int):=by
  simp[IntKind.wrap,IntKind.bits,IntKind.signed]
  omega
theorem My (F:Int) (l:List Int) (hs:l.Pairwise (· < ·)) (hr:∀ x ∈ l,0≤x∧x<F):∀ p:Int,(∀ x ∈ l,p<x)→ColPure.Xw F p l=true:=by
  induction l with
  |nil=>intro p _;rfl
  |cons a l ih=>
    intro p hp
    have h1:=hr a List.mem_cons_self
    have O:=hp a List.mem_cons_self
    have Z:=ih (List.Pairwise.of_cons hs) (fun x hx=>hr x (List.mem_cons_of_mem _ hx)) a (fun x hx=>List.rel_of_pairwise_cons hs hx)
    unfold ColPure.Xw
    simp[Z]
    omega
theorem Lq {F C:Int} {H:List Hall} {I:List Ins} (h:okB F C H I=true) (c:Int):ColPure.Xw F (-1) (Xx c I)=true:=by
  obtain⟨hF,hC,-,h1,O⟩:=Call.Yh.1 h
  have hr:∀ x ∈ Xx c I,0≤x∧x<F:=by
    intro x hx
    unfold Call.Xx at hx
    obtain⟨y,hy,rfl⟩:=List.mem_map.1 hx
    have:=(Call.La hF hC).1 (h1 y (List.mem_filter.1 hy).1)
    omega
  refine My F _ ?_ hr (-1) (fun x hx=>by have:=hr x hx;omega)
  unfold Call.Xx
  rw[List.pairwise_map]
  refine(List.Pairwise.imp_of_mem ?_ (O.sublist List.filter_sublist))
  intro a b ha hb hab
  have e1:=of_decide_eq_true (List.mem_filter.1 ha).2
  have e2:=of_decide_eq_true (List.mem_filter.1 hb).2
  rw[Call.W4] at hab
  omega
theorem Vj {F C:Int} {H:List Hall} {I:List Ins} (h:okB F C H I=true) (q:Hall→Bool) (d:Int) (hq:∀ x ∈ H,q x=true→x.f1=d):ColPure.Xw F (-1) ((H.filter q).map (·.f0))=true:=by
  obtain⟨hF,hC,⟨h1,O⟩,-⟩:=Call.Yh.1 h
  have hr:∀ x ∈ (H.filter q).map (·.f0),0≤x∧x<F:=by
    intro x hx
    obtain⟨y,hy,rfl⟩:=List.mem_map.1 hx
    have:=(Call.Jb hF hC).1 (h1 y (List.mem_filter.1 hy).1)
    omega
  refine My F _ ?_ hr (-1) (fun x hx=>by have:=hr x hx;omega)
  rw[List.pairwise_map]
  refine(List.Pairwise.imp_of_mem ?_ (O.sublist List.filter_sublist))
  intro a b ha hb hab
  have e1:=hq a (List.mem_filter.1 ha).1 (List.mem_filter.1 ha).2
  have e2:=hq b (List.mem_filter.1 hb).1 (List.mem_filter.1 hb).2
  rw[Call.Kq] at hab
  omega
theorem N2 {F C:Int} {H:List Hall} {I:List Ins} (h:okB F C H I=true) (c:Int):Vk F (Xx c I) (Xu c H) (Xv c H)=true:=by
  obtain⟨hF,hC,⟨h1,-⟩,-⟩:=Call.Yh.1 h
  unfold Vk
  rw[Lq h c]
  unfold Call.Xu Call.Xv
  rw[Vj h _ 1 (fun x hx hq=>by
      have:=(Call.Jb hF hC).1 (h1 x hx)
      have:=of_decide_eq_true hq
      omega),Vj h _ (-1) (fun x hx hq=>by
      have:=(Call.Jb hF hC).1 (h1 x hx)
      have:=of_decide_eq_true hq
      omega)]
  rfl
def Ww (bad:Int→Bool) (cost:Int→Int) (i:Nat) (b:Int):Prop:=
  (b = -1 ∧ ∀ m:Nat,m<i→bad m=true)∨(∃ n:Nat,b=n∧n<i∧bad n=false ∧ ∀ m:Nat,m<i→bad m=false→cost n≤cost m∧(cost m=cost n→n≤m))
theorem Wg (bad:Int→Bool) (cost:Int→Int) (j:Nat):∀ (i:Nat) (b:Int),Ww bad cost i b→Ww bad cost (i+j) (Vn bad cost j i b):=by
  induction j with
  |zero=>intro i b h;exact h
  |succ j ih=>
    intro i b h
    rw[Vn,show(i:Int)+1=((i+1:Nat):Int) by omega,show i+(j+1)=(i+1)+j by omega]
    apply ih
    rcases h with⟨rfl,h⟩|⟨n,rfl,hn,hb,h⟩
    · cases hc:bad (i:Int)
      · simp only[Bool.false_eq_true,if_false]
        rw[if_pos (by decide)]
        refine Or.inr ⟨i,rfl,by omega,hc,fun m hm hg=>?_⟩
        rcases Nat.lt_or_ge m i with q|q
        · rw[h m q] at hg;exact absurd hg (by decide)
        · have:m=i:=by omega
          subst this
          exact⟨Int.le_refl _,fun _=>Nat.le_refl _⟩
      · simp only[if_true]
        refine Or.inl ⟨rfl,fun m hm=>?_⟩
        rcases Nat.lt_or_ge m i with q|q
        · exact h m q
        · have:m=i:=by omega
          subst this
          exact hc
    · cases hc:bad (i:Int)
      · simp only[Bool.false_eq_true,if_false]
        rw[if_neg (by omega)]
        by_cases hl:cost (i:Int)<cost (n:Int)
        · rw[if_pos hl]
          refine Or.inr ⟨i,rfl,by omega,hc,fun m hm hg=>?_⟩
          rcases Nat.lt_or_ge m i with q|q
          · have:=h m q hg
            exact⟨by omega,fun e=>by omega⟩
          · have:m=i:=by omega
            subst this
            exact⟨Int.le_refl _,fun _=>Nat.le_refl _⟩
        · rw[if_neg hl]
          refine Or.inr ⟨n,rfl,by omega,hb,fun m hm hg=>?_⟩
          rcases Nat.lt_or_ge m i with q|q
          · exact h m q hg
          · have:m=i:=by omega
            subst this
            exact⟨by omega,fun _=>by omega⟩
      · simp only[if_true]
        refine Or.inr ⟨n,rfl,by omega,hb,fun m hm hg=>?_⟩
        rcases Nat.lt_or_ge m i with q|q
        · exact h m q hg
        · have:m=i:=by omega
          subst this
          rw[hc] at hg;exact absurd hg (by decide)
theorem Ly (g0 g1 g2 g3 g4 g5 g6 g7 g8 g9:Int) (L:List S31) (a2:Int) (H:List Hall) (I:List Ins) (B J:Int):Ww (V9 a2) (Xr g0 g1 g2 g3 g4 g5 g6 g7 g8 g9 L H I B J) L.length (M0 g0 g1 g2 g3 g4 g5 g6 g7 g8 g9 L a2 H I B J):=by
  have:=Wg (V9 a2) (Xr g0 g1 g2 g3 g4 g5 g6 g7 g8 g9 L H I B J) L.length 0 (-1) (Or.inl ⟨rfl,fun m hm=>absurd hm (Nat.not_lt_zero m)⟩)
  rwa[Nat.zero_add] at this
theorem costed {g0 g1 g2 g3 g4 g5 g6 g7 g8 g9:Int} {L:List S31} {H:List Hall} {I:List Ins} (h:Ok g0 g1 g2 g3 g4 g5 g6 g7 g8 g9 L H I) (hH:H.length≤130) (hI:I.length≤520) {B J Y:Int} (hd:i64 J) (hx:Xi g0 L.length B J Y=true) (i:Nat) (hi:i<L.length) (f:Nat) (hf:1500≤f):
    group_Cost.f f g0 g1 g2 g3 g4 g5 g6 g7 g8 g9 (Qb L i).f0.f0 (Qb L i).f0.f1 (Qb L i).f0.f2 (Qb L i).f0.f3 (Qb L i).f0.f4.f0 (Qb L i).f0.f4.f1 (Qb L i).f0.f4.f2 (Qb L i).f1 (Qb L i).f2 (Qb L i).f3 (Xx i I) (Xu i H) (Xv i H) B J Y=some (Xr g0 g1 g2 g3 g4 g5 g6 g7 g8 g9 L H I B J i,0):=by
  have hn:=h.n
  have v:=Call.Mr i H I
  rw[E3 B J Y hd _ _ _ _ _ ⟨by omega,by omega,by omega⟩ f hf]
  have hl:Gb g0 g1 g2 g3 g4 g5 g6 g7 g8 g9 (Qb L i):=by rw[rdL L i hi];exact h.l _ (List.getElem_mem hi)
  unfold Gb at hl
  have h8:Xi g0 8 B J Y=true:=by
    have:=(Call.Jb h.f (by omega)).1 hx
    exact(Call.Jb h.f (by omega)).2 (by omega)
  have hm:M4 g0 (Gc g0 g1 g2 g3 g4 g5 g6 g7 g8 g9 (Qb L i).f0.f0 (Qb L i).f0.f1 (Qb L i).f0.f2 (Qb L i).f0.f3 (Qb L i).f0.f4.f0 (Qb L i).f0.f4.f1 (Qb L i).f0.f4.f2 (Qb L i).f1) (Xx i I) (Xu i H) (Xv i H) B J Y=true:=by
    unfold M4
    rw[N2 h.c i,h8,decide_eq_true hl]
    rfl
  rw[if_pos hm]
  rfl
theorem Mn {g0 g1 g2 g3 g4 g5 g6 g7 g8 g9:Int} {L:List S31} {H:List Hall} {I:List Ins} (h:Ok g0 g1 g2 g3 g4 g5 g6 g7 g8 g9 L H I) (a2:Int) (hH:H.length≤130) (hI:I.length≤520) {B J Y:Int} (hd:i64 J) (hx:Xi g0 L.length B J Y=true) (n:Nat)
    (hb:∀ m:Nat,m<L.length→V9 a2 m=false→Xr g0 g1 g2 g3 g4 g5 g6 g7 g8 g9 L H I B J n≤Xr g0 g1 g2 g3 g4 g5 g6 g7 g8 g9 L H I B J m∧(Xr g0 g1 g2 g3 g4 g5 g6 g7 g8 g9 L H I B J m=Xr g0 g1 g2 g3 g4 g5 g6 g7 g8 g9 L H I B J n→n≤m)) (j:Nat):∀ (f i:Nat),i+j=L.length→2 * j+3000<f →
    newellaw21_GroupBest.l0 f (n:Int) (Xr g0 g1 g2 g3 g4 g5 g6 g7 g8 g9 L H I B J n) (i:Int) g0 g1 g2 g3 g4 g5 g6 g7 g8 g9 L a2 H I B J Y g0 (L.length:Int)=some true:=by
  have hn:=h.n
  induction j with
  |zero=>
    intro f i hi hf
    obtain⟨f,rfl⟩:∃ m,f=m+1:=⟨f-1,by omega⟩
    simp only[newellaw21_GroupBest.l0]
    rw[if_neg (by omega),G2 _ (by omega)]
    rfl
  |succ j ih=>
    intro f i hi hf
    obtain⟨f,rfl⟩:∃ m,f=m+2:=⟨f-2,by omega⟩
    have hlt:i<L.length:=by omega
    simp only[newellaw21_GroupBest.l0]
    rw[if_pos (by omega),Call.Wj H I (by omega) (by omega)]
    simp only[Option.bind_some]
    rw[Call.Gf (f+1) g0 L.length H I i (by omega) (by omega) (W6 (by omega)) (by omega),if_pos h.c,if_pos (show(0:Int)≤(i:Int)∧(i:Int)≤(L.length:Int)-1 by omega)]
    simp only[Option.bind_some]
    rw[if_pos (by omega),costed h hH hI hd hx i hlt (f+1) (by omega)]
    simp only[Option.bind_some]
    rw[Wy i (by omega),if_pos (by omega)]
    have next:newellaw21_GroupBest.j3 (f+1) (n:Int) (Xr g0 g1 g2 g3 g4 g5 g6 g7 g8 g9 L H I B J n) (i:Int) false g0 g1 g2 g3 g4 g5 g6 g7 g8 g9 L a2 H I B J Y g0 (L.length:Int)=some true:=by
      simp only[newellaw21_GroupBest.j3]
      rw[if_neg (by decide),up1 (by omega)]
      exact ih f (i+1) (by omega) (by omega)
    by_cases hz:(Go.bits .and .i64 (shr .i64 a2 (i:Int)) 1)=0
    · rw[if_pos hz]
      have hg:V9 a2 (i:Int)=false:=decide_eq_false (by rw[hz];decide)
      obtain⟨q1,q2⟩:=hb i hlt hg
      rw[if_neg (by omega)]
      by_cases he:Xr g0 g1 g2 g3 g4 g5 g6 g7 g8 g9 L H I B J i=Xr g0 g1 g2 g3 g4 g5 g6 g7 g8 g9 L H I B J n
      · rw[if_pos he,decide_eq_false (by have:=q2 he;omega)]
        exact next
      · rw[if_neg he]
        exact next
    · rw[if_neg hz]
      exact next
theorem Nt (g0 g1 g2 g3 g4 g5 g6 g7 g8 g9:Int) (L:List S31) (a2:Int) (H:List Hall) (I:List Ins) (B J Y:Int) (hd:i64 J) (f:Nat) (hf:9000≤f):newellaw21_GroupBest.f f g0 g1 g2 g3 g4 g5 g6 g7 g8 g9 L a2 H I B J Y=some true:=by
  unfold newellaw21_GroupBest.f
  obtain⟨f,rfl⟩:∃ m,f=m+2:=⟨f-2,by omega⟩
  have fin:∀ b:Int,newellaw21_GroupBest.j0 (f+2) b true g0 g1 g2 g3 g4 g5 g6 g7 g8 g9 L a2 H I B J Y=some true:=by
    intro b
    simp only[newellaw21_GroupBest.j0,if_true]
    rw[G2 _ (by omega)]
    rfl
  rcases Wl g0 g1 g2 g3 g4 g5 g6 g7 g8 g9 L a2 H I with e|⟨e,hL,hH,hI⟩
  · rw[e]
    simp only[Option.bind_some]
    rw[if_neg (by decide),G2 _ (by omega)]
    rfl
  · rw[e]
    simp only[Option.bind_some,if_true]
    rw[Call.Wj H I (by omega) (by omega)]
    simp only[Option.bind_some]
    rw[Nh _ _ _ _ _ _ _ _ _ _ L a2 H I B J Y hd (by omega) (by omega) _ (by omega)]
    simp only[Option.bind_some]
    by_cases h:Jt g0 g1 g2 g3 g4 g5 g6 g7 g8 g9 L H I=0
    · have ok:=E5 h
      have hn:=ok.n
      rw[if_pos h]
      cases hb:Xi g0 L.length B J Y
      · simp only[Bool.false_eq_true,if_false]
        rw[if_neg (by decide)]
        exact fin _
      · simp only[if_true]
        rcases Ly g0 g1 g2 g3 g4 g5 g6 g7 g8 g9 L a2 H I B J with⟨e1,-⟩|⟨n,e1,hlt,hg,hall⟩
        · rw[e1,decide_eq_true (by decide)]
          exact fin _
        · rw[e1,decide_eq_false (by omega)]
          simp only[newellaw21_GroupBest.j0,Bool.false_eq_true,if_false]
          rw[if_neg (by omega),Call.Wj H I (by omega) (by omega)]
          simp only[Option.bind_some]
          rw[Call.Gf _ g0 L.length H I n (by omega) (by omega) (W6 (by omega)) (by omega),if_pos ok.c,if_pos (show(0:Int)≤(n:Int)∧(n:Int)≤(L.length:Int)-1 by omega)]
          simp only[Option.bind_some]
          rw[if_pos (by omega),if_pos (by omega),costed ok hH hI hd hb n hlt _ (by omega)]
          simp only[Option.bind_some,if_true]
          rw[Wy n (by omega),if_pos (by omega)]
          have hne:¬ (Go.bits .and .i64 (shr .i64 a2 (n:Int)) 1)=1:=fun q=>by
            have:V9 a2 (n:Int)=true:=decide_eq_true q
            rw[hg] at this;exact absurd this (by decide)
          rw[beq_false_of_ne hne]
          simp only[newellaw21_GroupBest.j1]
          rw[if_neg (by decide)]
          exact Mn ok a2 hH hI hd hb n hall L.length _ 0 (by omega) (by omega)
    · rw[if_neg h]
      simp only
      rw[if_neg h]
      exact fin _
end Go.Proofs.Ytmfffemidlhcpaa.GrpPure
