/- Texts of this claim, one behind the other: what the law's functions come to, walked (printed by a program, with the words that the print uses), and what that is, in plain Lean. No conditions of their own. -/
import Derived.Test.YtmfffemidlhcpaaQGroupBounds2
namespace Go.Proofs.Ytmfffemidlhcpaa.C
open Go.RowKit Go.Proofs.YtmfffemidlhcpaaW.PrintWords Go.Proofs.YtmfffemidlhcpaaW.PrintLast Go.Proofs.YtmfffemidlhcpaaW.PrintMore
attribute [local go_sem] Zx Zv Z8 Z7 Zl Zk Zw Zu
set_option linter.unusedVariables false
set_option linter.unusedSimpArgs false
def api_Hall_89.l0:Nat→List (S36)→Int→Int→Int→Int→Int→Int→Option (Int×Bool)
 |0,_,_,_,_,_,_,_=>none
 |k+1,B,X,O,L,J,Y,Z=>if O<L then (if 0≤(wrap64 ((IntKind.u64.wrap (wrap64 (O+L))) / 2)) then (if (wrap64 ((IntKind.u64.wrap (wrap64 (O+L))) / 2))<(B.length:Int) then ((call_halls_1.f ((Qc B (wrap64 ((IntKind.u64.wrap (wrap64 (O+L))) / 2))).f0) ((Qc B (wrap64 ((IntKind.u64.wrap (wrap64 (O+L))) / 2))).f1) ((Qc B (wrap64 ((IntKind.u64.wrap (wrap64 (O+L))) / 2))).f2) J Y Z).bind fun a0=>(if a0<0 then (api_Hall_89.l0 k B X (wrap64 ((wrap64 ((IntKind.u64.wrap (wrap64 (O+L))) / 2))+1)) L J Y Z) else (api_Hall_89.l0 k B X O (wrap64 ((IntKind.u64.wrap (wrap64 (O+L))) / 2)) J Y Z))) else (none)) else (none)) else (if O<X then (if 0≤O then (if O<(B.length:Int) then ((call_halls_1.f ((Qc B O).f0) ((Qc B O).f1) ((Qc B O).f2) J Y Z).bind fun θ =>(some (O,(θ == 0)))) else (none)) else (none)) else (some (O,false)))
def api_Hall_89.f (k:Nat) (l0:List (S36)) (Z:Int) (Y:Int) (ε :Int) (a2:Int):Option (Int×Bool):=api_Hall_89.l0 k l0 (l0.length:Int) 0 (l0.length:Int) Z Y ε
def api_Hall_89.T5:Bool×List (List Nat×List Nat):=(true,[([],[]),([],[]),([],[]),([1,2],[1,2]),([3],[3]),([],[]),([0,4,5],[0,4,5]),([6],[6])])
def api_Hall_89.B5:List Nat:=[0,0,0,6,14,0,63,127]
theorem api_Hall_89.Mr:rtab .any (opsOf Try.f89 5)=api_Hall_89.T5:=by kernel_rfl
theorem api_Hall_89.Wj:Zs api_Hall_89.T5.2 api_Hall_89.B5=true:=by kernel_rfl
def api_Hall_89.T8:Bool×List (List Nat×List Nat):=(true,[([],[]),([],[]),([],[]),([1,2],[1,2]),([3],[3]),([4],[4]),([4],[4]),([4],[4]),([6,7,4],[4,6,7]),([8,4],[4,8]),([4],[4]),([5,9,10,4,4],[4,5,9,10]),([11,4],[4,11]),([4,12],[4,12]),([0,11,0],[0]),([13,14,0,1,2,3,4,5,6,7,8,9,10,11,12,13,14],[13])])
def api_Hall_89.B8:List Nat:=[0,0,0,6,14,30,30,30,222,478,30,2046,4094,8190,4095,32767]
theorem api_Hall_89.Mq:rtab .any (opsOf Try.f89 8)=api_Hall_89.T8:=by kernel_rfl
theorem api_Hall_89.Wi:Zs api_Hall_89.T8.2 api_Hall_89.B8=true:=by kernel_rfl
set_option maxHeartbeats 8000000 in
set_option maxRecDepth 100000 in
theorem api_Hall_89.calls (k:Nat) (A0:Option Addr) (c0:Nat) (l0:List (S36)) (Z:Int) (Y:Int) (ε :Int) (a2:Int) (r1:Int) (r2:Bool) (w:World) (μ :Kd.C k36 w A0 l0.length l0) (γ:l0.length≤c0) (h:api_Hall_89.f k l0 Z Y ε a2=some (r1,r2)):
  Calls Try.prog 89 #[.slice A0 l0.length c0,.agg #[.int .i64 Z,.int .i64 Y,.int .i64 ε],.func (.func 79) #[] #[]] w fun e w'=>e = .returned (.tuple #[.int .i64 r1,.bool r2])∧Below w.heap.size w w':=by
 have d9:=Try.underlying36
 have τ :=Aside0.mk μ
 have ag:=Aside0.mk γ
 clear μ γ
 have HB:=Aside0.mk (Below.refl w.heap.size w)
 have H:(api_Hall_89.l0 k l0 (l0.length:Int) 0 (l0.length:Int) Z Y ε)=some (r1,r2):=h
 clear h
 have H':=Aside0.mk H
 clear H
 go_enter Try.func89,Try.ntmps89
 go_wp2_with (first|((with_reducible refine Qe (N:=4) rfl ?_);refine qE 4 #[.int .i64 Z,.int .i64 Y,.int .i64 ε] 36 ?_;intro ρ hg w4 hbox hb;have J:=Aside0.mk hbox;have ae:=sGe hg;have ah:=sGe hg;replace HB:=sHb hb;clear hb hbox hg))
 go_loopg [9,10] k (fun kq v9 b2 w'=>∃ (B:Int) (L:Int),v9 = .int .i64 B∧b2 = .int .i64 L∧Aside0 (api_Hall_89.l0 kq l0 (l0.length:Int) B L Z Y ε = some (r1,r2))∧Aside0 (kq≤k)∧Aside0 (w'.heap[ρ]?=some (.cells #[.int .i64 Z,.int .i64 Y,.int .i64 ε] 36 (0,0)))∧Aside0 (Below w.heap.size w w'))
 case atStart=>exact⟨(0),((l0.length:Int)),rfl,rfl,H',⟨Nat.le_refl _⟩,J,HB⟩
 case round=>
  clear H'
  try clear p2
  obtain⟨B,L,rfl,rfl,HA,an,J,HB⟩:=hrel
  cases gk with
  |zero=>exact absurd HA.out (by simp[api_Hall_89.l0])
  |succ k1=>
   have H:=HA.out
   clear HA
   simp only[api_Hall_89.l0] at H
   by_cases c5:B<L
   ·rw[if_pos c5] at H
    have c5b0:decide (B<L)=true:=decide_eq_true c5
    clear c5
    obtain⟨O,a7⟩:∃ j_:Int,(wrap64 ((IntKind.u64.wrap (wrap64 (B+L))) / 2))=j_:=⟨_,rfl⟩
    replace H:(if 0≤(O) then (if (O)<(l0.length:Int) then ((call_halls_1.f ((Qc l0 (O)).f0) ((Qc l0 (O)).f1) ((Qc l0 (O)).f2) Z Y ε).bind fun a0=>(if a0<0 then (api_Hall_89.l0 k1 l0 (l0.length:Int) (wrap64 ((O)+1)) L Z Y ε) else (api_Hall_89.l0 k1 l0 (l0.length:Int) B O Z Y ε))) else (none)) else (none))=some (r1,r2):=by first|(rw[a7] at H;exact H)|(simp only[a7] at H ⊢;exact H)
    have hji6w:(IntKind.i64.wrap ((IntKind.u64.wrap (wrap64 (B+L))) / 2))=O:=(Zb _).trans a7
    by_cases c7:0≤(O)
    ·rw[if_pos c7] at H
     have c7b0:decide (0≤(O))=true:=decide_eq_true c7
     clear c7
     by_cases c8:(O)<(l0.length:Int)
     ·rw[if_pos c8] at H
      have c8b0:decide ((O)<(l0.length:Int))=true:=decide_eq_true c8
      clear c8
      replace H:=Option.bind_eq_some_iff.mp H
      obtain⟨a0,cg,H⟩:=H
      replace H:(if a0<0 then (api_Hall_89.l0 k1 l0 (l0.length:Int) (wrap64 ((O)+1)) L Z Y ε) else (api_Hall_89.l0 k1 l0 (l0.length:Int) B O Z Y ε))=some (r1,r2):=H
      have A9:=Aside0.mk cg
      clear cg
      by_cases c10:a0<0
      ·rw[if_pos c10] at H
       have c10b0:decide (a0<0)=true:=decide_eq_true c10
       clear c10
       have H':=Aside0.mk H
       clear H
       try go_wp2
       replace J:=Aside0.mk (Qd J.out)
       replace HB:=Aside0.mk (Qf HB.out)
       have a8:0≤((O):Int):=of_decide_eq_true (by assumption)
       have aa:(O)<(l0.length:Int):=of_decide_eq_true (by assumption)
       obtain⟨ν,ac,X,δ,ζ⟩:=Xv τ.out (O) a8 aa
       have η := ζ
       have ι := δ
       have κ :=X
       cases ac
       replace X:=(HB.out.cell (World.block_lt_of_cell? w _ X)).trans X
       replace δ :=(HB.out.cell (World.block_lt_of_cell? w _ δ)).trans δ
       replace ζ :=(HB.out.cell (World.block_lt_of_cell? w _ ζ)).trans ζ
       replace a8:=eq_true a8
       replace aa:=eq_true aa
       refine Zn (n:=8) (S:=fun w'=>w'.cell? ⟨ρ,0,none⟩=some (.int .i64 Z)∧w'.cell? ⟨ρ,1,none⟩=some (.int .i64 Y)∧w'.cell? ⟨ρ,2,none⟩=some (.int .i64 ε)∧w'.cell? (ν.add (((O)).toNat * 3))=some (.int .i64 ((Qc l0 (O)).f0))∧w'.cell? ⟨(ν.add (((O)).toNat * 3)).block,(ν.add (((O)).toNat * 3)).off+1,none⟩=some (.int .i64 ((Qc l0 (O)).f1))∧w'.cell? ⟨(ν.add (((O)).toNat * 3)).block,(ν.add (((O)).toNat * 3)).off+2,none⟩=some (.int .i64 ((Qc l0 (O)).f2))) (ds:=[]) #[false,false,false,false,false,false,false,false] kr rfl rfl ⟨(Qa J.out 0).trans rfl,(Qa J.out 1).trans rfl,(Qa J.out 2).trans rfl,((HB.out.cell (World.block_lt_of_cell? w _ κ)).trans κ),((HB.out.cell (World.block_lt_of_cell? w _ ι)).trans ι),((HB.out.cell (World.block_lt_of_cell? w _ η)).trans η)⟩ (fun hHeld=>?_);refine Q8 api_Hall_89.Mr api_Hall_89.Wj (fun HT_ HW_=>?_)
       generalize wr.drew=el at J HB X δ ζ hHeld ⊢
       refine qP 0 (some 24) (bN 8 1) HT_ ?_
       refine qP 1 (some 25) (bN 8 3) HT_ ?_
       refine qP 2 (some 26) (bN 8 7) HT_ ?_
       refine qP 3 (some 27) (bN 8 15) HT_ ?_
       refine qT 4 (some 28) (bN 8 31) HT_ HW_ hHeld ?_
       refine qT 5 (some 29) (bN 8 63) HT_ HW_ hHeld ?_
       refine Ze (i:=6) (N:=some 30) (bN 8 127) rfl rfl (Q5 HT_.out kr) (by decide) (fun K hK=>?_)
       refine Xy Try.func79 kr rfl #[] #[] #[.agg #[.int .i64 ((Qc l0 (O)).f0),.int .i64 ((Qc l0 (O)).f1),.int .i64 ((Qc l0 (O)).f2)],.agg #[.int .i64 Z,.int .i64 Y,.int .i64 ε]] #[.agg #[.int .i64 ((Qc l0 (O)).f0),.int .i64 ((Qc l0 (O)).f1),.int .i64 ((Qc l0 (O)).f2)],.agg #[.int .i64 Z,.int .i64 Y,.int .i64 ε]] rfl (by rfl) rfl rfl rfl (by(try simp only[List.map_toArray,List.map_cons,List.map_nil]);first|done|(simp only[a7];rfl)|rfl|(simp only[List.length_drop,List.length_take];rfl)) ?_
       with_reducible refine(call_halls_1.calls ((Qc l0 (O)).f0) ((Qc l0 (O)).f1) ((Qc l0 (O)).f2) Z Y ε a0 _ A9.out).mono ?_
       rintro e ep ⟨rfl,hb⟩
       refine⟨_,rfl, ?_⟩
       replace J:=sBk J hb
       replace HB:=sHb hb
       (try clear hb)
       (try clear a9)
       (try clear hk)
       (try clear hi)
       refine hK.out _ _ ⟨qc J,qc J,qc J,((HB.out.cell (World.block_lt_of_cell? w _ κ)).trans κ),((HB.out.cell (World.block_lt_of_cell? w _ ι)).trans ι),((HB.out.cell (World.block_lt_of_cell? w _ η)).trans η)⟩ (fun hHeld=>?_)
       clear hK K
       refine qN (some 30) ?_
       refine qP 7 (some 31) (bN 8 255) HT_ ?_
       refine Z5 (Zm HT_.out kr) ?_
       try go_wp2
       go_roundg k1
       case measure=>have:=an.out;omega
       case rel=>exact⟨(wrap64 ((O)+1)),(L),(by first|rfl|(simp;done)|(simp only[← a7] <;> (first|rfl|simp))|(simp[*];done)),rfl,H',⟨by have:=an.out;omega⟩,J,HB⟩
      ·rw[if_neg c10] at H
       have c10b0:decide (a0<0)=false:=decide_eq_false c10
       clear c10
       have H':=Aside0.mk H
       clear H
       try go_wp2
       replace J:=Aside0.mk (Qd J.out)
       replace HB:=Aside0.mk (Qf HB.out)
       have a8:0≤((O):Int):=of_decide_eq_true (by assumption)
       have aa:(O)<(l0.length:Int):=of_decide_eq_true (by assumption)
       obtain⟨ν,ac,X,δ,ζ⟩:=Xv τ.out (O) a8 aa
       have η := ζ
       have ι := δ
       have κ :=X
       cases ac
       replace X:=(HB.out.cell (World.block_lt_of_cell? w _ X)).trans X
       replace δ :=(HB.out.cell (World.block_lt_of_cell? w _ δ)).trans δ
       replace ζ :=(HB.out.cell (World.block_lt_of_cell? w _ ζ)).trans ζ
       replace a8:=eq_true a8
       replace aa:=eq_true aa
       refine Zn (n:=8) (S:=fun w'=>w'.cell? ⟨ρ,0,none⟩=some (.int .i64 Z)∧w'.cell? ⟨ρ,1,none⟩=some (.int .i64 Y)∧w'.cell? ⟨ρ,2,none⟩=some (.int .i64 ε)∧w'.cell? (ν.add (((O)).toNat * 3))=some (.int .i64 ((Qc l0 (O)).f0))∧w'.cell? ⟨(ν.add (((O)).toNat * 3)).block,(ν.add (((O)).toNat * 3)).off+1,none⟩=some (.int .i64 ((Qc l0 (O)).f1))∧w'.cell? ⟨(ν.add (((O)).toNat * 3)).block,(ν.add (((O)).toNat * 3)).off+2,none⟩=some (.int .i64 ((Qc l0 (O)).f2))) (ds:=[]) #[false,false,false,false,false,false,false,false] kr rfl rfl ⟨(Qa J.out 0).trans rfl,(Qa J.out 1).trans rfl,(Qa J.out 2).trans rfl,((HB.out.cell (World.block_lt_of_cell? w _ κ)).trans κ),((HB.out.cell (World.block_lt_of_cell? w _ ι)).trans ι),((HB.out.cell (World.block_lt_of_cell? w _ η)).trans η)⟩ (fun hHeld=>?_);refine Q8 api_Hall_89.Mr api_Hall_89.Wj (fun HT_ HW_=>?_)
       generalize wr.drew=ek at J HB X δ ζ hHeld ⊢
       refine qP 0 (some 24) (bN 8 1) HT_ ?_
       refine qP 1 (some 25) (bN 8 3) HT_ ?_
       refine qP 2 (some 26) (bN 8 7) HT_ ?_
       refine qP 3 (some 27) (bN 8 15) HT_ ?_
       refine qT 4 (some 28) (bN 8 31) HT_ HW_ hHeld ?_
       refine qT 5 (some 29) (bN 8 63) HT_ HW_ hHeld ?_
       refine Ze (i:=6) (N:=some 30) (bN 8 127) rfl rfl (Q5 HT_.out kr) (by decide) (fun K hK=>?_)
       refine Xy Try.func79 kr rfl #[] #[] #[.agg #[.int .i64 ((Qc l0 (O)).f0),.int .i64 ((Qc l0 (O)).f1),.int .i64 ((Qc l0 (O)).f2)],.agg #[.int .i64 Z,.int .i64 Y,.int .i64 ε]] #[.agg #[.int .i64 ((Qc l0 (O)).f0),.int .i64 ((Qc l0 (O)).f1),.int .i64 ((Qc l0 (O)).f2)],.agg #[.int .i64 Z,.int .i64 Y,.int .i64 ε]] rfl (by rfl) rfl rfl rfl (by(try simp only[List.map_toArray,List.map_cons,List.map_nil]);first|done|(simp only[a7];rfl)|rfl|(simp only[List.length_drop,List.length_take];rfl)) ?_
       with_reducible refine(call_halls_1.calls ((Qc l0 (O)).f0) ((Qc l0 (O)).f1) ((Qc l0 (O)).f2) Z Y ε a0 _ A9.out).mono ?_
       rintro e bq ⟨rfl,hb⟩
       refine⟨_,rfl, ?_⟩
       replace J:=sBk J hb
       replace HB:=sHb hb
       (try clear hb)
       (try clear a9)
       (try clear hk)
       (try clear hi)
       refine hK.out _ _ ⟨qc J,qc J,qc J,((HB.out.cell (World.block_lt_of_cell? w _ κ)).trans κ),((HB.out.cell (World.block_lt_of_cell? w _ ι)).trans ι),((HB.out.cell (World.block_lt_of_cell? w _ η)).trans η)⟩ (fun hHeld=>?_)
       clear hK K
       refine qN (some 30) ?_
       refine qP 7 (some 31) (bN 8 255) HT_ ?_
       refine Z5 (Zm HT_.out kr) ?_
       try go_wp2
       go_roundg k1
       case measure=>have:=an.out;omega
       case rel=>exact⟨(B),(O),rfl,(by first|rfl|(simp;done)|(simp only[← a7] <;> (first|rfl|simp))|(simp[*];done)),H',⟨by have:=an.out;omega⟩,J,HB⟩
     ·rw[if_neg c8] at H
      exact absurd H (by simp)
    ·rw[if_neg c7] at H
     exact absurd H (by simp)
   ·rw[if_neg c5] at H
    have c5b0:decide (B<L)=false:=decide_eq_false c5
    clear c5
    by_cases af:B<(l0.length:Int)
    ·rw[if_pos af] at H
     have c15b0:decide (B<(l0.length:Int))=true:=decide_eq_true af
     clear af
     by_cases χ :0≤B
     ·rw[if_pos χ] at H
      have c16b0:decide (0≤B)=true:=decide_eq_true χ
      clear χ
      by_cases σ:B<(l0.length:Int)
      ·rw[if_pos σ] at H
       have c17b0:decide (B<(l0.length:Int))=true:=decide_eq_true σ
       clear σ
       replace H:=Option.bind_eq_some_iff.mp H
       obtain⟨θ,b4,H⟩:=H
       replace H:(some (B,(θ == 0)))=some (r1,r2):=H
       have cj:=Aside0.mk b4
       clear b4
       simp only[Option.some.injEq,Prod.mk.injEq] at H
       obtain⟨rfl,rfl⟩:=H
       try go_wp2
       replace J:=Aside0.mk (Qd J.out)
       replace HB:=Aside0.mk (Qf HB.out)
       have φ :0≤(B:Int):=of_decide_eq_true (by assumption)
       have ψ :B<(l0.length:Int):=of_decide_eq_true (by assumption)
       obtain⟨a3,ab,ξ,ω,a1⟩:=Xv τ.out B φ ψ
       have a4:=a1
       have a5:= ω
       have a6:= ξ
       cases ab
       replace ξ :=(HB.out.cell (World.block_lt_of_cell? w _ ξ)).trans ξ
       replace ω :=(HB.out.cell (World.block_lt_of_cell? w _ ω)).trans ω
       replace a1:=(HB.out.cell (World.block_lt_of_cell? w _ a1)).trans a1
       replace φ :=eq_true φ
       replace ψ :=eq_true ψ
       refine Zn (n:=16) (S:=fun w'=>w'.cell? ⟨ρ,0,none⟩=some (.int .i64 Z)∧w'.cell? ⟨ρ,1,none⟩=some (.int .i64 Y)∧w'.cell? ⟨ρ,2,none⟩=some (.int .i64 ε)∧w'.cell? (a3.add ((B).toNat * 3))=some (.int .i64 ((Qc l0 B).f0))∧w'.cell? ⟨(a3.add ((B).toNat * 3)).block,(a3.add ((B).toNat * 3)).off+1,none⟩=some (.int .i64 ((Qc l0 B).f1))∧w'.cell? ⟨(a3.add ((B).toNat * 3)).block,(a3.add ((B).toNat * 3)).off+2,none⟩=some (.int .i64 ((Qc l0 B).f2))) (ds:=[]) #[false,false,false,false,false,false,false,false,false,false,false,false,false,false,false,false] kr rfl rfl ⟨(Qa J.out 0).trans rfl,(Qa J.out 1).trans rfl,(Qa J.out 2).trans rfl,((HB.out.cell (World.block_lt_of_cell? w _ a6)).trans a6),((HB.out.cell (World.block_lt_of_cell? w _ a5)).trans a5),((HB.out.cell (World.block_lt_of_cell? w _ a4)).trans a4)⟩ (fun hHeld=>?_);refine Q8 api_Hall_89.Mq api_Hall_89.Wi (fun HT_ HW_=>?_)
       generalize wr.drew=az at J HB ξ ω a1 hHeld ⊢
       refine qP 0 (some 35) (bN 16 1) HT_ ?_
       refine qP 1 (some 36) (bN 16 3) HT_ ?_
       refine qP 2 (some 37) (bN 16 7) HT_ ?_
       refine qP 3 (some 38) (bN 16 15) HT_ ?_
       refine qP 4 (some 39) (bN 16 31) HT_ ?_
       refine qP 5 (some 40) (bN 16 63) HT_ ?_
       refine qP 6 (some 41) (bN 16 127) HT_ ?_
       refine qP 7 (some 42) (bN 16 255) HT_ ?_
       refine qP 8 (some 43) (bN 16 511) HT_ ?_
       refine qT 9 (some 44) (bN 16 1023) HT_ HW_ hHeld ?_
       refine qT 10 (some 45) (bN 16 2047) HT_ HW_ hHeld ?_
       refine Ze (i:=11) (N:=some 46) (bN 16 4095) rfl rfl (Q5 HT_.out kr) (by decide) (fun K hK=>?_)
       refine Xy Try.func79 kr rfl #[] #[] #[.agg #[.int .i64 ((Qc l0 B).f0),.int .i64 ((Qc l0 B).f1),.int .i64 ((Qc l0 B).f2)],.agg #[.int .i64 Z,.int .i64 Y,.int .i64 ε]] #[.agg #[.int .i64 ((Qc l0 B).f0),.int .i64 ((Qc l0 B).f1),.int .i64 ((Qc l0 B).f2)],.agg #[.int .i64 Z,.int .i64 Y,.int .i64 ε]] rfl (by rfl) rfl rfl rfl qM ?_
       with_reducible refine(call_halls_1.calls ((Qc l0 B).f0) ((Qc l0 B).f1) ((Qc l0 B).f2) Z Y ε θ _ cj.out).mono ?_
       rintro e dv ⟨rfl,hb⟩
       refine⟨_,rfl, ?_⟩
       replace J:=sBk J hb
       replace HB:=sHb hb
       (try clear hb)
       (try clear a9)
       (try clear hk)
       (try clear hi)
       refine hK.out _ _ ⟨qc J,qc J,qc J,((HB.out.cell (World.block_lt_of_cell? w _ a6)).trans a6),((HB.out.cell (World.block_lt_of_cell? w _ a5)).trans a5),((HB.out.cell (World.block_lt_of_cell? w _ a4)).trans a4)⟩ (fun hHeld=>?_)
       clear hK K
       refine qN (some 46) ?_
       refine qP 12 (some 47) (bN 16 8191) HT_ ?_
       refine qP 13 (some 48) (bN 16 16383) HT_ ?_
       refine qP 14 (some 6) (bN 16 32767) HT_ ?_
       refine qP 15 (some 7) (bN 16 65535) HT_ ?_
       refine Z5 (Zm HT_.out kr) ?_
       try go_wp2
       go_ret2
       exact⟨rfl,HB.out⟩
      ·rw[if_neg σ] at H
       exact absurd H (by simp)
     ·rw[if_neg χ] at H
      exact absurd H (by simp)
    ·rw[if_neg af] at H
     have c15b0:decide (B<(l0.length:Int))=false:=decide_eq_false af
     clear af
     simp only[Option.some.injEq,Prod.mk.injEq] at H
     obtain⟨rfl,rfl⟩:=H
     try go_wp2
     replace J:=Aside0.mk (Qd J.out)
     replace HB:=Aside0.mk (Qf HB.out)
     refine Zn (n:=16) (S:=fun w'=>True) (ds:=[]) #[false,false,false,false,false,false,false,false,false,false,false,false,false,false,false,false] kr rfl rfl trivial (fun hHeld=>?_);refine Q8 api_Hall_89.Mq api_Hall_89.Wi (fun HT_ HW_=>?_)
     generalize wr.drew=bg at J HB hHeld ⊢
     refine qP 0 (some 35) (bN 16 1) HT_ ?_
     refine qP 1 (some 36) (bN 16 3) HT_ ?_
     refine qP 2 (some 37) (bN 16 7) HT_ ?_
     refine qP 3 (some 38) (bN 16 15) HT_ ?_
     refine qP 4 (some 39) (bN 16 31) HT_ ?_
     refine qU 5 (some 40) (bN 16 63) HT_ ?_
     refine qU 6 (some 41) (bN 16 127) HT_ ?_
     refine qU 7 (some 42) (bN 16 255) HT_ ?_
     refine qU 8 (some 43) (bN 16 511) HT_ ?_
     refine qU 9 (some 44) (bN 16 1023) HT_ ?_
     refine qU 10 (some 45) (bN 16 2047) HT_ ?_
     refine qU 11 (some 46) (bN 16 4095) HT_ ?_
     refine qU 12 (some 47) (bN 16 8191) HT_ ?_
     refine qP 13 (some 48) (bN 16 16383) HT_ ?_
     refine qP 14 (some 6) (bN 16 32767) HT_ ?_
     refine qP 15 (some 7) (bN 16 65535) HT_ ?_
     refine Z5 (Zm HT_.out kr) ?_
     try go_wp2
     go_ret2
     exact⟨rfl,HB.out⟩
mutual
def api_Hall_right.l0:Nat→Int→List (S36)→Int→Int→List (S36)→Int→Option (Bool)
 |0,_,_,_,_,_,_=>none
 |k+1,J,X,O,L,B,Y=>if L<O then (if 0≤L then (if L<(X.length:Int) then ((call_hall_1.f ((Qc X L).f0) ((Qc X L).f1) ((Qc X L).f2) J).bind fun κ =>(if κ = true then (if L>0 then (if 0≤(wrap64 (L-1)) then (if (wrap64 (L-1))<(B.length:Int) then ((call_halls_1.f ((Qc B (wrap64 (L-1))).f0) ((Qc B (wrap64 (L-1))).f1) ((Qc B (wrap64 (L-1))).f2) ((Qc X L).f0) ((Qc X L).f1) ((Qc X L).f2)).bind fun a2=>(api_Hall_right.j1 k J X O L (decide (a2≥0)) B Y)) else (none)) else (none)) else (api_Hall_right.j1 k J X O L false B Y)) else (api_Hall_right.j1 k J X O L true B Y))) else (none)) else (none)) else (some true)
def api_Hall_right.j1:Nat→Int→List (S36)→Int→Int→Bool→List (S36)→Int→Option (Bool)
 |0,_,_,_,_,_,_,_=>none
 |k+1,J,X,O,L,μ,B,Y=>if μ = true then (some false) else (api_Hall_right.l0 k J X O (wrap64 (L+1)) B Y)
end
def api_Hall_right.f (k:Nat) (J:List (S36)) (B:Int) (O:Int):Option (Bool):=api_Hall_right.l0 k O J (J.length:Int) 0 J B
def api_Hall_right.T4:Bool×List (List Nat×List Nat):=(true,[([],[]),([],[]),([0,1],[0,1]),([2],[2]),([3,2],[3]),([4],[4]),([5,4],[4,5]),([6,4,4],[4,6]),([7],[7]),([8,7],[7,8]),([7],[7]),([10,7],[7,10]),([7],[7]),([12,7],[7,12]),([11,13,7],[7,11,13]),([14,7],[7,14]),([7],[7]),([9,15,16,7,7],[7,9,15,16]),([17,7],[7,17]),([7,18,4],[4,7,18]),([4,19],[4,19])])
def api_Hall_right.B4:List Nat:=[0,0,3,7,15,31,63,127,255,511,255,1279,255,4351,15615,31999,255,131071,262143,524287,1048575]
theorem api_Hall_right.G9:rtab .any (opsOf Try.f64 4)=api_Hall_right.T4:=by kernel_rfl
theorem api_Hall_right.Ke:Zs api_Hall_right.T4.2 api_Hall_right.B4=true:=by kernel_rfl
set_option maxHeartbeats 8000000 in
set_option maxRecDepth 100000 in
theorem api_Hall_right.calls (k:Nat) (μ :Option Addr) (η :Nat) (J:List (S36)) (B:Int) (O:Int) (r:Bool) (w:World) (ak:Kd.C k36 w μ J.length J) (ao:J.length ≤ η) (h:api_Hall_right.f k J B O=some r) (gh_:Nat) (hgh_:w.heap[gh_]?=some (.cells #[.int .i64 (X7 O),.int .i64 (X6 O)] 59 (0,0))):
  Calls Try.prog 64 #[.agg #[.slice μ J.length η,.func (.func 79) #[] #[]],.func (.func 82) #[] #[.pointer (some ⟨gh_,0,none⟩)]] w fun e w'=>e = .returned (.bool r)∧Below w.heap.size w w':=by
 have HCH:=Aside0.mk hgh_
 clear hgh_
 have cr:=Try.underlying109
 have d9:=Try.underlying36
 have ar:=Aside0.mk ak
 have bf:=Aside0.mk ao
 clear ak ao
 have HB:=Aside0.mk (Below.refl w.heap.size w)
 have H:(api_Hall_right.l0 k O J (J.length:Int) 0 J B)=some r:=h
 clear h
 have H':=Aside0.mk H
 clear H
 go_enter Try.func64,Try.ntmps64
 go_wp2_with (first|((with_reducible refine Qe (N:=2) rfl ?_);refine qE 2 #[.slice μ J.length η,.func (.func 79) #[] #[]] 109 ?_;intro ν hg w3 hbox hb;have γ:=Aside0.mk hbox;have b9:=sGe hg;have aj:=sGe hg;replace HB:=sHb hb;clear hb hbox hg;obtain⟨am,ap,au,av⟩:=qD2 γ.out))
 go_loopg [10] k (fun kq b2 w'=>∃ (L:Int),b2 = .int .i64 L∧Aside0 (api_Hall_right.l0 kq O J (J.length:Int) L J B=some r)∧Aside0 (kq≤k)∧Aside0 (w'.heap[ν]?=some (.cells #[(.slice μ J.length η),.func (.func 79) #[] #[]] 109 (0,0)))∧Aside0 (Below w.heap.size w w'))
 case atStart=>exact⟨(0),rfl,H',⟨Nat.le_refl _⟩,γ,HB⟩
 case round=>
  clear H'
  try clear p2
  try clear am
  try clear ap
  try clear au
  try clear av
  obtain⟨L,rfl,HA,an,γ,HB⟩:=hrel
  cases gk with
  |zero=>exact absurd HA.out (by simp[api_Hall_right.l0])
  |succ k1=>
   have H:=HA.out
   clear HA
   simp only[api_Hall_right.l0] at H
   by_cases c5:L<(J.length:Int)
   ·rw[if_pos c5] at H
    have c5b0:decide (L<(J.length:Int))=true:=decide_eq_true c5
    clear c5
    by_cases c6:0≤L
    ·rw[if_pos c6] at H
     have c6b0:decide (0≤L)=true:=decide_eq_true c6
     clear c6
     by_cases c7:L<(J.length:Int)
     ·rw[if_pos c7] at H
      have c7b0:decide (L<(J.length:Int))=true:=decide_eq_true c7
      clear c7
      have aw:=Aside0.mk H
      clear H
      have ag:0≤(L:Int):=of_decide_eq_true (by assumption)
      have ah:L<(J.length:Int):=of_decide_eq_true (by assumption)
      obtain⟨Y,ay,ζ,ρ,ai⟩:=Xv ar.out L ag ah
      cases ay
      replace ζ :=(HB.out.cell (World.block_lt_of_cell? w _ ζ)).trans ζ
      replace ρ:=(HB.out.cell (World.block_lt_of_cell? w _ ρ)).trans ρ
      replace ai:=(HB.out.cell (World.block_lt_of_cell? w _ ai)).trans ai
      replace ag:=eq_true ag
      replace ah:=eq_true ah
      go_upto_region 4 with(first|((with_reducible refine Qe (N:=6) rfl ?_);refine qE 6 #[.int .i64 0,.int .i64 0,.int .i64 0] 36 ?_;intro Z hg w9 hbox hb;have X:=Aside0.mk hbox;have τ :=sGe hg;have b7:=sGe hg;have b3:=sNl γ hg;have b6:=sNg γ hg;replace γ:=sBk γ hb;replace HB:=sHb hb;clear hb hbox hg;have el:=b6.out;have fj:=b3.out;obtain⟨ψ,a0,ae,a7,ab,b5⟩:=qD3 X.out))
      (try simp only[Act.put,qS])
      go_cut [35] (fun bc wc=>∃ (kq:Nat) (θ :Bool),bc = .bool θ ∧ Aside0 (api_Hall_right.j1 kq O J (J.length:Int) L θ J B=some r)∧Aside0 (kq≤k1)∧Aside0 (wc.heap[ν]?=some (.cells #[(.slice (some Y) J.length η),.func (.func 79) #[] #[]] 109 (0,0)))∧Aside0 (wc.heap[Z]?=some (.cells #[.int .i64 ((Qc J L).f0),.int .i64 ((Qc J L).f1),.int .i64 ((Qc J L).f2)] 36 (0,0)))∧Aside0 (Below w.heap.size w wc))
      case first=>
       have H:=aw.out
       clear aw
       replace H:=Option.bind_eq_some_iff.mp H
       obtain⟨κ,a4,H⟩:=H
       replace H:(if κ = true then (if L>0 then (if 0≤(wrap64 (L-1)) then (if (wrap64 (L-1))<(J.length:Int) then ((call_halls_1.f ((Qc J (wrap64 (L-1))).f0) ((Qc J (wrap64 (L-1))).f1) ((Qc J (wrap64 (L-1))).f2) ((Qc J L).f0) ((Qc J L).f1) ((Qc J L).f2)).bind fun a2=>(api_Hall_right.j1 k1 O J (J.length:Int) L (decide (a2≥0)) J B)) else (none)) else (none)) else (api_Hall_right.j1 k1 O J (J.length:Int) L false J B)) else (api_Hall_right.j1 k1 O J (J.length:Int) L true J B))=some r:=H
       have al:=Aside0.mk a4
       clear a4
       by_cases a6: κ = true
       ·subst a6
        have H1:(if L>0 then (if 0≤(wrap64 (L-1)) then (if (wrap64 (L-1))<(J.length:Int) then ((call_halls_1.f ((Qc J (wrap64 (L-1))).f0) ((Qc J (wrap64 (L-1))).f1) ((Qc J (wrap64 (L-1))).f2) ((Qc J L).f0) ((Qc J L).f1) ((Qc J L).f2)).bind fun a2=>(api_Hall_right.j1 k1 O J (J.length:Int) L (decide (a2≥0)) J B)) else (none)) else (none)) else (api_Hall_right.j1 k1 O J (J.length:Int) L false J B))=some r:=by rw[if_pos rfl] at H;exact H
        clear H
        have H:=H1
        clear H1
        by_cases ac:L>0
        ·rw[if_pos ac] at H
         have c14b0:decide (0<L)=true:=decide_eq_true ac
         clear ac
         (first|rw[c14b0]|(simp only[Zb,Zj];rw[c14b0])|skip)
         obtain⟨δ,ε⟩:∃ j_:Int,(wrap64 (L-1))=j_:=⟨_,rfl⟩
         replace H:(if 0≤(δ) then (if (δ)<(J.length:Int) then ((call_halls_1.f ((Qc J (δ)).f0) ((Qc J (δ)).f1) ((Qc J (δ)).f2) ((Qc J L).f0) ((Qc J L).f1) ((Qc J L).f2)).bind fun a2=>(api_Hall_right.j1 k1 O J (J.length:Int) L (decide (a2≥0)) J B)) else (none)) else (none))=some r:=by first|(rw[ε] at H;exact H)|(simp only[ε] at H ⊢;exact H)
         (try rw[ε] at al)
         have hji15w:(IntKind.i64.wrap (L-1)) = δ :=(Zb _).trans ε
         by_cases χ :0≤(δ)
         ·rw[if_pos χ] at H
          have c16b0:decide (0≤(δ))=true:=decide_eq_true χ
          clear χ
          by_cases σ:(δ)<(J.length:Int)
          ·rw[if_pos σ] at H
           have c17b0:decide ((δ)<(J.length:Int))=true:=decide_eq_true σ
           clear σ
           replace H:=Option.bind_eq_some_iff.mp H
           obtain⟨a2,b4,H⟩:=H
           replace H:(api_Hall_right.j1 k1 O J (J.length:Int) L (decide (a2≥0)) J B)=some r:=H
           have cj:=Aside0.mk b4
           clear b4
           have H':=Aside0.mk H
           clear H
           try go_wp2
           have ξ :Aside0 ((((w9.setCell ⟨Z,0,none⟩ (.int .i64 ((Qc J L).f0))).setCell ⟨Z,1,none⟩ (.int .i64 ((Qc J L).f1))).setCell ⟨Z,2,none⟩ (.int .i64 ((Qc J L).f2))).heap[ν]?=some (.cells #[.slice (some Y) J.length η,.func (.func 79) #[] #[]] 109 (0,0))):=⟨bka γ⟩
           have φ :Aside0 ((((w9.setCell ⟨Z,0,none⟩ (.int .i64 ((Qc J L).f0))).setCell ⟨Z,1,none⟩ (.int .i64 ((Qc J L).f1))).setCell ⟨Z,2,none⟩ (.int .i64 ((Qc J L).f2))).heap[Z]?=some (.cells #[.int .i64 ((Qc J L).f0),.int .i64 ((Qc J L).f1),.int .i64 ((Qc J L).f2)] 36 (0,0))):=⟨by refine Qm (cs:=#[.int .i64 ((Qc J L).f0),.int .i64 ((Qc J L).f1),.int .i64 0]) ?_ 2 _ rfl;refine Qm (cs:=#[.int .i64 ((Qc J L).f0),.int .i64 0,.int .i64 0]) ?_ 1 _ rfl;refine Qm (cs:=#[.int .i64 0,.int .i64 0,.int .i64 0]) ?_ 0 _ rfl;exact X.out⟩
           have ω :Aside0 (Below w.heap.size w (((w9.setCell ⟨Z,0,none⟩ (.int .i64 ((Qc J L).f0))).setCell ⟨Z,1,none⟩ (.int .i64 ((Qc J L).f1))).setCell ⟨Z,2,none⟩ (.int .i64 ((Qc J L).f2)))):=⟨bel⟩
           (try clear γ)
           (try clear X)
           (try clear HB)
           generalize(((w9.setCell ⟨Z,0,none⟩ (.int .i64 ((Qc J L).f0))).setCell ⟨Z,1,none⟩ (.int .i64 ((Qc J L).f1))).setCell ⟨Z,2,none⟩ (.int .i64 ((Qc J L).f2)))=az at ξ φ ω ⊢
           have γ:= ξ
           have X:= φ
           have HB:= ω
           clear ξ φ ω
           replace γ:=Aside0.mk (Qd γ.out)
           replace X:=Aside0.mk (Qd X.out)
           replace HB:=Aside0.mk (Qf HB.out)
           have b0:0≤((δ):Int):=of_decide_eq_true (by assumption)
           have b1:(δ)<(J.length:Int):=of_decide_eq_true (by assumption)
           obtain⟨be,bh,ι,a3,a5⟩:=Xv ar.out (δ) b0 b1
           have a8:=a5
           have aa:=a3
           have af:= ι
           obtain rfl:Y=be:=(by injection bh)
           replace ι :=(HB.out.cell (World.block_lt_of_cell? w _ ι)).trans ι
           replace a3:=(HB.out.cell (World.block_lt_of_cell? w _ a3)).trans a3
           replace a5:=(HB.out.cell (World.block_lt_of_cell? w _ a5)).trans a5
           replace b0:=eq_true b0
           replace b1:=eq_true b1
           refine Zn (n:=21) (S:=fun w'=>w'.cell? ⟨Z,0,none⟩=some (.int .i64 ((Qc J L).f0))∧w'.cell? ⟨Z,1,none⟩=some (.int .i64 ((Qc J L).f1))∧w'.cell? ⟨Z,2,none⟩=some (.int .i64 ((Qc J L).f2))∧w'.cell? ⟨ν,0,none⟩=some (.slice (some Y) J.length η)∧w'.cell? ⟨ν,1,none⟩=some (.func (.func 79) #[] #[])∧w'.cell? (Y.add (((δ)).toNat * 3))=some (.int .i64 ((Qc J (δ)).f0))∧w'.cell? ⟨(Y.add (((δ)).toNat * 3)).block,(Y.add (((δ)).toNat * 3)).off+1,none⟩=some (.int .i64 ((Qc J (δ)).f1))∧w'.cell? ⟨(Y.add (((δ)).toNat * 3)).block,(Y.add (((δ)).toNat * 3)).off+2,none⟩=some (.int .i64 ((Qc J (δ)).f2))) (ds:=[]) #[false,false,false,false,false,false,false,false,false,false,false,false,false,false,false,false,false,false,false,false,false] kr rfl rfl ⟨(Qa X.out 0).trans rfl,(Qa X.out 1).trans rfl,(Qa X.out 2).trans rfl,(Qa γ.out 0).trans rfl,(Qa γ.out 1).trans rfl,((HB.out.cell (World.block_lt_of_cell? w _ af)).trans af),((HB.out.cell (World.block_lt_of_cell? w _ aa)).trans aa),((HB.out.cell (World.block_lt_of_cell? w _ a8)).trans a8)⟩ (fun hHeld=>?_);refine Q8 api_Hall_right.G9 api_Hall_right.Ke (fun HT_ HW_=>?_)
           generalize az.drew=dv at γ X HB ι a3 a5 hHeld ⊢
           refine qP 0 (some 15) (bN 21 1) HT_ ?_
           refine qT 1 (some 16) (bN 21 3) HT_ HW_ hHeld ?_
           refine Ze (i:=2) (N:=some 17) (bN 21 7) rfl rfl (Q5 HT_.out kr) (by decide) (fun K hK=>?_)
           refine Xy Try.func82 kr rfl #[] #[.pointer (some ⟨gh_,0,none⟩)] #[.agg #[.int .i64 ((Qc J L).f0),.int .i64 ((Qc J L).f1),.int .i64 ((Qc J L).f2)]] #[.agg #[.int .i64 ((Qc J L).f0),.int .i64 ((Qc J L).f1),.int .i64 ((Qc J L).f2)],.pointer (some ⟨gh_,0,none⟩)] rfl (by rfl) rfl rfl rfl qM ?_
           with_reducible refine(call_hall_1.calls ((Qc J L).f0) ((Qc J L).f1) ((Qc J L).f2) O true _ al.out gh_ (Z1 HCH.out (by repeat(first|(with_reducible first|exact HB.out|apply Qo|apply Qi|apply Qf)|exact HB.out|(refine Qp ?_ (Aside0.out (by assumption))))))).mono ?_
           rintro e bg ⟨rfl,hb⟩
           refine⟨_,rfl, ?_⟩
           replace γ:=sBk γ hb
           replace X:=sBk X hb
           replace HB:=sHb hb
           (try clear hb)
           (try clear a9)
           (try clear hk)
           (try clear hi)
           refine hK.out _ _ ⟨qc X,qc X,qc X,qc γ,qc γ,((HB.out.cell (World.block_lt_of_cell? w _ af)).trans af),((HB.out.cell (World.block_lt_of_cell? w _ aa)).trans aa),((HB.out.cell (World.block_lt_of_cell? w _ a8)).trans a8)⟩ (fun hHeld=>?_)
           clear hK K
           refine qN (some 17) ?_
           refine qP 3 (some 18) (bN 21 15) HT_ ?_
           refine qP 4 (some 19) (bN 21 31) HT_ ?_
           refine qP 5 (some 20) (bN 21 63) HT_ ?_
           refine qP 6 (some 21) (bN 21 127) HT_ ?_
           refine qP 7 (some 22) (bN 21 255) HT_ ?_
           refine qP 8 (some 23) (bN 21 511) HT_ ?_
           refine qP 10 (some 25) (bN 21 1535) HT_ ?_
           refine qP 12 (some 27) (bN 21 5631) HT_ ?_
           refine qP 13 (some 28) (bN 21 13823) HT_ ?_
           refine qT 9 (some 24) (bN 21 14335) HT_ HW_ hHeld ?_
           refine qT 11 (some 26) (bN 21 16383) HT_ HW_ hHeld ?_
           refine qP 14 (some 29) (bN 21 32767) HT_ ?_
           refine qT 15 (some 30) (bN 21 65535) HT_ HW_ hHeld ?_
           refine qT 16 (some 31) (bN 21 131071) HT_ HW_ hHeld ?_
           refine Ze (i:=17) (N:=some 32) (bN 21 262143) rfl rfl (Q5 HT_.out kr) (by decide) (fun K hK=>?_)
           refine Xy Try.func79 kr rfl #[] #[] #[.agg #[.int .i64 ((Qc J (δ)).f0),.int .i64 ((Qc J (δ)).f1),.int .i64 ((Qc J (δ)).f2)],.agg #[.int .i64 ((Qc J L).f0),.int .i64 ((Qc J L).f1),.int .i64 ((Qc J L).f2)]] #[.agg #[.int .i64 ((Qc J (δ)).f0),.int .i64 ((Qc J (δ)).f1),.int .i64 ((Qc J (δ)).f2)],.agg #[.int .i64 ((Qc J L).f0),.int .i64 ((Qc J L).f1),.int .i64 ((Qc J L).f2)]] rfl (by rfl) rfl rfl rfl (by(try simp only[List.map_toArray,List.map_cons,List.map_nil]);first|done|(simp only[ε];rfl)|rfl|(simp only[List.length_drop,List.length_take];rfl)) ?_
           with_reducible refine(call_halls_1.calls ((Qc J (δ)).f0) ((Qc J (δ)).f1) ((Qc J (δ)).f2) ((Qc J L).f0) ((Qc J L).f1) ((Qc J L).f2) a2 _ cj.out).mono ?_
           rintro e bd ⟨rfl,hb⟩
           refine⟨_,rfl, ?_⟩
           replace γ:=sBk γ hb
           replace X:=sBk X hb
           replace HB:=sHb hb
           (try clear hb)
           (try clear a9)
           (try clear hk)
           (try clear hi)
           refine hK.out _ _ ⟨qc X,qc X,qc X,qc γ,qc γ,((HB.out.cell (World.block_lt_of_cell? w _ af)).trans af),((HB.out.cell (World.block_lt_of_cell? w _ aa)).trans aa),((HB.out.cell (World.block_lt_of_cell? w _ a8)).trans a8)⟩ (fun hHeld=>?_)
           clear hK K
           refine qN (some 32) ?_
           refine qP 18 (some 33) (bN 21 524287) HT_ ?_
           refine qP 19 (some 34) (bN 21 1048575) HT_ ?_
           refine qP 20 (some 35) (bN 21 2097151) HT_ ?_
           refine Z5 (Zm HT_.out kr) ?_
           try go_wp2
           go_meet
           case rel=>exact⟨_,(decide (a2≥0)),rfl,H',⟨by have:=an.out;omega⟩,γ,X,HB⟩
          ·rw[if_neg σ] at H
           exact absurd H (by simp)
         ·rw[if_neg χ] at H
          exact absurd H (by simp)
        ·rw[if_neg ac] at H
         have c14b0:decide (0<L)=false:=decide_eq_false ac
         clear ac
         (first|rw[c14b0]|(simp only[Zb,Zj];rw[c14b0])|skip)
         have H':=Aside0.mk H
         clear H
         try go_wp2
         have ξ :Aside0 ((((w9.setCell ⟨Z,0,none⟩ (.int .i64 ((Qc J L).f0))).setCell ⟨Z,1,none⟩ (.int .i64 ((Qc J L).f1))).setCell ⟨Z,2,none⟩ (.int .i64 ((Qc J L).f2))).heap[ν]?=some (.cells #[.slice (some Y) J.length η,.func (.func 79) #[] #[]] 109 (0,0))):=⟨bka γ⟩
         have φ :Aside0 ((((w9.setCell ⟨Z,0,none⟩ (.int .i64 ((Qc J L).f0))).setCell ⟨Z,1,none⟩ (.int .i64 ((Qc J L).f1))).setCell ⟨Z,2,none⟩ (.int .i64 ((Qc J L).f2))).heap[Z]?=some (.cells #[.int .i64 ((Qc J L).f0),.int .i64 ((Qc J L).f1),.int .i64 ((Qc J L).f2)] 36 (0,0))):=⟨by refine Qm (cs:=#[.int .i64 ((Qc J L).f0),.int .i64 ((Qc J L).f1),.int .i64 0]) ?_ 2 _ rfl;refine Qm (cs:=#[.int .i64 ((Qc J L).f0),.int .i64 0,.int .i64 0]) ?_ 1 _ rfl;refine Qm (cs:=#[.int .i64 0,.int .i64 0,.int .i64 0]) ?_ 0 _ rfl;exact X.out⟩
         have ω :Aside0 (Below w.heap.size w (((w9.setCell ⟨Z,0,none⟩ (.int .i64 ((Qc J L).f0))).setCell ⟨Z,1,none⟩ (.int .i64 ((Qc J L).f1))).setCell ⟨Z,2,none⟩ (.int .i64 ((Qc J L).f2)))):=⟨bel⟩
         (try clear γ)
         (try clear X)
         (try clear HB)
         generalize(((w9.setCell ⟨Z,0,none⟩ (.int .i64 ((Qc J L).f0))).setCell ⟨Z,1,none⟩ (.int .i64 ((Qc J L).f1))).setCell ⟨Z,2,none⟩ (.int .i64 ((Qc J L).f2)))=bb at ξ φ ω ⊢
         have γ:= ξ
         have X:= φ
         have HB:= ω
         clear ξ φ ω
         replace γ:=Aside0.mk (Qd γ.out)
         replace X:=Aside0.mk (Qd X.out)
         replace HB:=Aside0.mk (Qf HB.out)
         refine Zn (n:=21) (S:=fun w'=>w'.cell? ⟨Z,0,none⟩=some (.int .i64 ((Qc J L).f0))∧w'.cell? ⟨Z,1,none⟩=some (.int .i64 ((Qc J L).f1))∧w'.cell? ⟨Z,2,none⟩=some (.int .i64 ((Qc J L).f2))) (ds:=[]) #[false,false,false,false,false,false,false,false,false,false,false,false,false,false,false,false,false,false,false,false,false] kr rfl rfl ⟨(Qa X.out 0).trans rfl,(Qa X.out 1).trans rfl,(Qa X.out 2).trans rfl⟩ (fun hHeld=>?_);refine Q8 api_Hall_right.G9 api_Hall_right.Ke (fun HT_ HW_=>?_)
         generalize bb.drew=ca at γ X HB hHeld ⊢
         refine qP 0 (some 15) (bN 21 1) HT_ ?_
         refine qT 1 (some 16) (bN 21 3) HT_ HW_ hHeld ?_
         refine Ze (i:=2) (N:=some 17) (bN 21 7) rfl rfl (Q5 HT_.out kr) (by decide) (fun K hK=>?_)
         refine Xy Try.func82 kr rfl #[] #[.pointer (some ⟨gh_,0,none⟩)] #[.agg #[.int .i64 ((Qc J L).f0),.int .i64 ((Qc J L).f1),.int .i64 ((Qc J L).f2)]] #[.agg #[.int .i64 ((Qc J L).f0),.int .i64 ((Qc J L).f1),.int .i64 ((Qc J L).f2)],.pointer (some ⟨gh_,0,none⟩)] rfl (by rfl) rfl rfl rfl qM ?_
         with_reducible refine(call_hall_1.calls ((Qc J L).f0) ((Qc J L).f1) ((Qc J L).f2) O true _ al.out gh_ (Z1 HCH.out (by repeat(first|(with_reducible first|exact HB.out|apply Qo|apply Qi|apply Qf)|exact HB.out|(refine Qp ?_ (Aside0.out (by assumption))))))).mono ?_
         rintro e em ⟨rfl,hb⟩
         refine⟨_,rfl, ?_⟩
         replace γ:=sBk γ hb
         replace X:=sBk X hb
         replace HB:=sHb hb
         (try clear hb)
         (try clear a9)
         (try clear hk)
         (try clear hi)
         refine hK.out _ _ ⟨qc X,qc X,qc X⟩ (fun hHeld=>?_)
         clear hK K
         refine qN (some 17) ?_
         refine qP 3 (some 18) (bN 21 15) HT_ ?_
         refine qP 4 (some 19) (bN 21 31) HT_ ?_
         refine qP 5 (some 20) (bN 21 63) HT_ ?_
         refine qP 6 (some 21) (bN 21 127) HT_ ?_
         refine qP 7 (some 22) (bN 21 255) HT_ ?_
         refine qU 8 (some 23) (bN 21 511) HT_ ?_
         refine qU 9 (some 24) (bN 21 1023) HT_ ?_
         refine qU 10 (some 25) (bN 21 2047) HT_ ?_
         refine qU 11 (some 26) (bN 21 4095) HT_ ?_
         refine qU 12 (some 27) (bN 21 8191) HT_ ?_
         refine qU 13 (some 28) (bN 21 16383) HT_ ?_
         refine qU 14 (some 29) (bN 21 32767) HT_ ?_
         refine qU 15 (some 30) (bN 21 65535) HT_ ?_
         refine qU 16 (some 31) (bN 21 131071) HT_ ?_
         refine qU 17 (some 32) (bN 21 262143) HT_ ?_
         refine qU 18 (some 33) (bN 21 524287) HT_ ?_
         refine qP 19 (some 34) (bN 21 1048575) HT_ ?_
         refine qP 20 (some 35) (bN 21 2097151) HT_ ?_
         refine Z5 (Zm HT_.out kr) ?_
         try go_wp2
         go_meet
         case rel=>exact⟨_,(false),rfl,H',⟨by have:=an.out;omega⟩,γ,X,HB⟩
       ·replace a6:=Bool.eq_false_iff.mpr a6
        subst a6
        have H1:(api_Hall_right.j1 k1 O J (J.length:Int) L true J B)=some r:=by rw[if_neg (show ¬ (false=true) by decide)] at H;exact H
        clear H
        have H:=H1
        clear H1
        have H':=Aside0.mk H
        clear H
        try go_wp2
        have ξ :Aside0 ((((w9.setCell ⟨Z,0,none⟩ (.int .i64 ((Qc J L).f0))).setCell ⟨Z,1,none⟩ (.int .i64 ((Qc J L).f1))).setCell ⟨Z,2,none⟩ (.int .i64 ((Qc J L).f2))).heap[ν]?=some (.cells #[.slice (some Y) J.length η,.func (.func 79) #[] #[]] 109 (0,0))):=⟨bka γ⟩
        have φ :Aside0 ((((w9.setCell ⟨Z,0,none⟩ (.int .i64 ((Qc J L).f0))).setCell ⟨Z,1,none⟩ (.int .i64 ((Qc J L).f1))).setCell ⟨Z,2,none⟩ (.int .i64 ((Qc J L).f2))).heap[Z]?=some (.cells #[.int .i64 ((Qc J L).f0),.int .i64 ((Qc J L).f1),.int .i64 ((Qc J L).f2)] 36 (0,0))):=⟨by refine Qm (cs:=#[.int .i64 ((Qc J L).f0),.int .i64 ((Qc J L).f1),.int .i64 0]) ?_ 2 _ rfl;refine Qm (cs:=#[.int .i64 ((Qc J L).f0),.int .i64 0,.int .i64 0]) ?_ 1 _ rfl;refine Qm (cs:=#[.int .i64 0,.int .i64 0,.int .i64 0]) ?_ 0 _ rfl;exact X.out⟩
        have ω :Aside0 (Below w.heap.size w (((w9.setCell ⟨Z,0,none⟩ (.int .i64 ((Qc J L).f0))).setCell ⟨Z,1,none⟩ (.int .i64 ((Qc J L).f1))).setCell ⟨Z,2,none⟩ (.int .i64 ((Qc J L).f2)))):=⟨bel⟩
        (try clear γ)
        (try clear X)
        (try clear HB)
        generalize(((w9.setCell ⟨Z,0,none⟩ (.int .i64 ((Qc J L).f0))).setCell ⟨Z,1,none⟩ (.int .i64 ((Qc J L).f1))).setCell ⟨Z,2,none⟩ (.int .i64 ((Qc J L).f2)))=i2 at ξ φ ω ⊢
        have γ:= ξ
        have X:= φ
        have HB:= ω
        clear ξ φ ω
        replace γ:=Aside0.mk (Qd γ.out)
        replace X:=Aside0.mk (Qd X.out)
        replace HB:=Aside0.mk (Qf HB.out)
        refine Zn (n:=21) (S:=fun w'=>w'.cell? ⟨Z,0,none⟩=some (.int .i64 ((Qc J L).f0))∧w'.cell? ⟨Z,1,none⟩=some (.int .i64 ((Qc J L).f1))∧w'.cell? ⟨Z,2,none⟩=some (.int .i64 ((Qc J L).f2))) (ds:=[]) #[false,false,false,false,false,false,false,false,false,false,false,false,false,false,false,false,false,false,false,false,false] kr rfl rfl ⟨(Qa X.out 0).trans rfl,(Qa X.out 1).trans rfl,(Qa X.out 2).trans rfl⟩ (fun hHeld=>?_);refine Q8 api_Hall_right.G9 api_Hall_right.Ke (fun HT_ HW_=>?_)
        generalize i2.drew=dm at γ X HB hHeld ⊢
        refine qP 0 (some 15) (bN 21 1) HT_ ?_
        refine qT 1 (some 16) (bN 21 3) HT_ HW_ hHeld ?_
        refine Ze (i:=2) (N:=some 17) (bN 21 7) rfl rfl (Q5 HT_.out kr) (by decide) (fun K hK=>?_)
        refine Xy Try.func82 kr rfl #[] #[.pointer (some ⟨gh_,0,none⟩)] #[.agg #[.int .i64 ((Qc J L).f0),.int .i64 ((Qc J L).f1),.int .i64 ((Qc J L).f2)]] #[.agg #[.int .i64 ((Qc J L).f0),.int .i64 ((Qc J L).f1),.int .i64 ((Qc J L).f2)],.pointer (some ⟨gh_,0,none⟩)] rfl (by rfl) rfl rfl rfl qM ?_
        with_reducible refine(call_hall_1.calls ((Qc J L).f0) ((Qc J L).f1) ((Qc J L).f2) O false _ al.out gh_ (Z1 HCH.out (by repeat(first|(with_reducible first|exact HB.out|apply Qo|apply Qi|apply Qf)|exact HB.out|(refine Qp ?_ (Aside0.out (by assumption))))))).mono ?_
        rintro e e9 ⟨rfl,hb⟩
        refine⟨_,rfl, ?_⟩
        replace γ:=sBk γ hb
        replace X:=sBk X hb
        replace HB:=sHb hb
        (try clear hb)
        (try clear a9)
        (try clear hk)
        (try clear hi)
        refine hK.out _ _ ⟨qc X,qc X,qc X⟩ (fun hHeld=>?_)
        clear hK K
        refine qN (some 17) ?_
        refine qP 3 (some 18) (bN 21 15) HT_ ?_
        refine qP 4 (some 19) (bN 21 31) HT_ ?_
        refine qU 5 (some 20) (bN 21 63) HT_ ?_
        refine qU 6 (some 21) (bN 21 127) HT_ ?_
        refine qU 7 (some 22) (bN 21 255) HT_ ?_
        refine qU 8 (some 23) (bN 21 511) HT_ ?_
        refine qU 9 (some 24) (bN 21 1023) HT_ ?_
        refine qU 10 (some 25) (bN 21 2047) HT_ ?_
        refine qU 11 (some 26) (bN 21 4095) HT_ ?_
        refine qU 12 (some 27) (bN 21 8191) HT_ ?_
        refine qU 13 (some 28) (bN 21 16383) HT_ ?_
        refine qU 14 (some 29) (bN 21 32767) HT_ ?_
        refine qU 15 (some 30) (bN 21 65535) HT_ ?_
        refine qU 16 (some 31) (bN 21 131071) HT_ ?_
        refine qU 17 (some 32) (bN 21 262143) HT_ ?_
        refine qU 18 (some 33) (bN 21 524287) HT_ ?_
        refine qU 19 (some 34) (bN 21 1048575) HT_ ?_
        refine qP 20 (some 35) (bN 21 2097151) HT_ ?_
        refine Z5 (Zm HT_.out kr) ?_
        try go_wp2
        go_meet
        case rel=>exact⟨_,(true),rfl,H',⟨by have:=an.out;omega⟩,γ,X,HB⟩
      case rest=>
       clear aw
       try clear c1
       try clear p1
       try clear q1
       try clear ax
       try clear p2
       try clear c7
       try clear c8
       try clear bj
       try clear bk
       try clear bi
       try clear a6
       try clear ac
       try clear c14b0
       try clear χ
       try clear σ
       try clear c17b0
       try clear ι
       try clear a3
       try clear a5
       try clear b0
       try clear b1
       obtain⟨kq,θ,rfl,HA,b8,γ,X,HB⟩:=hcut
       cases kq with
       |zero=>exact absurd HA.out (by simp[api_Hall_right.j1])
       |succ ba=>
        have H:=HA.out
        clear HA
        simp only[api_Hall_right.j1] at H
        by_cases bz: θ = true
        ·subst bz
         have H1:(some false)=some r:=by rw[if_pos rfl] at H;exact H
         clear H
         have H:=H1
         clear H1
         obtain rfl:=Option.some.inj H
         go_wp2
         go_ret
         exact⟨rfl,HB.out⟩
        ·replace bz:=Bool.eq_false_iff.mpr bz
         subst bz
         have H1:(api_Hall_right.l0 ba O J (J.length:Int) (wrap64 (L+1)) J B)=some r:=by rw[if_neg (show ¬ (false=true) by decide)] at H;exact H
         clear H
         have H:=H1
         clear H1
         have H':=Aside0.mk H
         clear H
         go_wp2
         go_roundg ba
         case measure=>have:=an.out;have:=b8.out;omega
         case rel=>exact⟨(wrap64 (L+1)),rfl,H',⟨by have:=an.out;have:=b8.out;omega⟩,γ,HB⟩
     ·rw[if_neg c7] at H
      exact absurd H (by simp)
    ·rw[if_neg c6] at H
     exact absurd H (by simp)
   ·rw[if_neg c5] at H
    have c5b0:decide (L<(J.length:Int))=false:=decide_eq_false c5
    clear c5
    obtain rfl:=Option.some.inj H
    go_wp2
    go_ret
    exact⟨rfl,HB.out⟩
mutual
def api_Inside_right.l0:Nat→Int→List (S86)→Int→Int→List (S86)→Int→Option (Bool)
 |0,_,_,_,_,_,_=>none
 |k+1,J,X,O,L,B,Y=>if L<O then (if 0≤L then (if L<(X.length:Int) then ((call_inside_1.f ((Qn X L).f0) ((Qn X L).f1) J).bind fun a3=>(if a3=true then (if L>0 then (if 0≤(wrap64 (L-1)) then (if (wrap64 (L-1))<(B.length:Int) then ((call_ins_1.f ((Qn B (wrap64 (L-1))).f0) ((Qn B (wrap64 (L-1))).f1) ((Qn X L).f0) ((Qn X L).f1)).bind fun ζ =>(api_Inside_right.j1 k J X O L (decide (ζ ≥ 0)) B Y)) else (none)) else (none)) else (api_Inside_right.j1 k J X O L false B Y)) else (api_Inside_right.j1 k J X O L true B Y))) else (none)) else (none)) else (some true)
def api_Inside_right.j1:Nat→Int→List (S86)→Int→Int→Bool→List (S86)→Int→Option (Bool)
 |0,_,_,_,_,_,_,_=>none
 |k+1,J,X,O,L,μ,B,Y=>if μ = true then (some false) else (api_Inside_right.l0 k J X O (wrap64 (L+1)) B Y)
end
def api_Inside_right.f (k:Nat) (J:List (S86)) (B:Int) (O:Int):Option (Bool):=api_Inside_right.l0 k O J (J.length:Int) 0 J B
def api_Inside_right.T4:Bool×List (List Nat×List Nat):=(true,[([],[]),([],[]),([0,1],[0,1]),([2],[2]),([3,2],[3]),([4],[4]),([5,4],[4,5]),([6,4,4],[4,6]),([7],[7]),([8,7],[7,8]),([7],[7]),([10,7],[7,10]),([7],[7]),([12,7],[7,12]),([11,13,7],[7,11,13]),([14,7],[7,14]),([7],[7]),([9,15,16,7,7],[7,9,15,16]),([17,7],[7,17]),([7,18,4],[4,7,18]),([4,19],[4,19])])
def api_Inside_right.B4:List Nat:=[0,0,3,7,15,31,63,127,255,511,255,1279,255,4351,15615,31999,255,131071,262143,524287,1048575]
theorem api_Inside_right.G9:rtab .any (opsOf Try.f67 4)=api_Inside_right.T4:=by kernel_rfl
theorem api_Inside_right.Ke:Zs api_Inside_right.T4.2 api_Inside_right.B4=true:=by kernel_rfl
set_option maxHeartbeats 8000000 in
set_option maxRecDepth 100000 in
theorem api_Inside_right.calls (k:Nat) (μ :Option Addr) (η :Nat) (J:List (S86)) (B:Int) (O:Int) (r:Bool) (w:World) (ak:Kd.C k86 w μ J.length J) (ao:J.length ≤ η) (h:api_Inside_right.f k J B O=some r) (gh_:Nat) (hgh_:w.heap[gh_]?=some (.cells #[.int .i64 (X7 O),.int .i64 (X6 O)] 59 (0,0))):
  Calls Try.prog 67 #[.agg #[.slice μ J.length η,.func (.func 83) #[] #[]],.func (.func 84) #[] #[.pointer (some ⟨gh_,0,none⟩)]] w fun e w'=>e = .returned (.bool r)∧Below w.heap.size w w':=by
 have HCH:=Aside0.mk hgh_
 clear hgh_
 have b3:=Try.underlying116
 have db:=Try.underlying86
 have ar:=Aside0.mk ak
 have bf:=Aside0.mk ao
 clear ak ao
 have HB:=Aside0.mk (Below.refl w.heap.size w)
 have H:(api_Inside_right.l0 k O J (J.length:Int) 0 J B)=some r:=h
 clear h
 have H':=Aside0.mk H
 clear H
 go_enter Try.func67,Try.ntmps67
 go_wp2_with (first|((with_reducible refine Qe (N:=2) rfl ?_);refine qE 2 #[.slice μ J.length η,.func (.func 83) #[] #[]] 116 ?_;intro a2 hg w3 hbox hb;have Y:=Aside0.mk hbox;have b5:=sGe hg;have b6:=sGe hg;replace HB:=sHb hb;clear hb hbox hg;obtain⟨am,ap,au,av⟩:=qD2 Y.out))
 go_loopg [10] k (fun kq b2 w'=>∃ (L:Int),b2 = .int .i64 L∧Aside0 (api_Inside_right.l0 kq O J (J.length:Int) L J B=some r)∧Aside0 (kq≤k)∧Aside0 (w'.heap[a2]?=some (.cells #[(.slice μ J.length η),.func (.func 83) #[] #[]] 116 (0,0)))∧Aside0 (Below w.heap.size w w'))
 case atStart=>exact⟨(0),rfl,H',⟨Nat.le_refl _⟩,Y,HB⟩
 case round=>
  clear H'
  try clear p2
  try clear am
  try clear ap
  try clear au
  try clear av
  obtain⟨L,rfl,HA,an,Y,HB⟩:=hrel
  cases gk with
  |zero=>exact absurd HA.out (by simp[api_Inside_right.l0])
  |succ k1=>
   have H:=HA.out
   clear HA
   simp only[api_Inside_right.l0] at H
   by_cases c5:L<(J.length:Int)
   ·rw[if_pos c5] at H
    have c5b0:decide (L<(J.length:Int))=true:=decide_eq_true c5
    clear c5
    by_cases c6:0≤L
    ·rw[if_pos c6] at H
     have c6b0:decide (0≤L)=true:=decide_eq_true c6
     clear c6
     by_cases c7:L<(J.length:Int)
     ·rw[if_pos c7] at H
      have c7b0:decide (L<(J.length:Int))=true:=decide_eq_true c7
      clear c7
      have aw:=Aside0.mk H
      clear H
      have ah:0≤(L:Int):=of_decide_eq_true (by assumption)
      have ai:L<(J.length:Int):=of_decide_eq_true (by assumption)
      obtain⟨Z,b0,a5,a8⟩:=Y3 ar.out L ah ai
      cases b0
      replace a5:=(HB.out.cell (World.block_lt_of_cell? w _ a5)).trans a5
      replace a8:=(HB.out.cell (World.block_lt_of_cell? w _ a8)).trans a8
      replace ah:=eq_true ah
      replace ai:=eq_true ai
      go_upto_region 4 with(first|((with_reducible refine Qe (N:=6) rfl ?_);refine qE 6 #[.int .i64 0,.int .i64 0] 86 ?_;intro γ hg w9 hbox hb;have X:=Aside0.mk hbox;have aj:=sGe hg;have τ :=sGe hg;have af:=sNl Y hg;have ag:=sNg Y hg;replace Y:=sBk Y hb;replace HB:=sHb hb;clear hb hbox hg;have el:=ag.out;have fj:=af.out;obtain⟨ψ,a0,a7,ab⟩:=qD2 X.out))
      (try simp only[Act.put,qS])
      go_cut [35] (fun bc wc=>∃ (kq:Nat) (θ :Bool),bc = .bool θ ∧ Aside0 (api_Inside_right.j1 kq O J (J.length:Int) L θ J B=some r)∧Aside0 (kq≤k1)∧Aside0 (wc.heap[a2]?=some (.cells #[(.slice (some Z) J.length η),.func (.func 83) #[] #[]] 116 (0,0)))∧Aside0 (wc.heap[γ]?=some (.cells #[.int .i64 ((Qn J L).f0),.int .i64 ((Qn J L).f1)] 86 (0,0)))∧Aside0 (Below w.heap.size w wc))
      case first=>
       have H:=aw.out
       clear aw
       replace H:=Option.bind_eq_some_iff.mp H
       obtain⟨a3,a4,H⟩:=H
       replace H:(if a3=true then (if L>0 then (if 0≤(wrap64 (L-1)) then (if (wrap64 (L-1))<(J.length:Int) then ((call_ins_1.f ((Qn J (wrap64 (L-1))).f0) ((Qn J (wrap64 (L-1))).f1) ((Qn J L).f0) ((Qn J L).f1)).bind fun ζ =>(api_Inside_right.j1 k1 O J (J.length:Int) L (decide (ζ ≥ 0)) J B)) else (none)) else (none)) else (api_Inside_right.j1 k1 O J (J.length:Int) L false J B)) else (api_Inside_right.j1 k1 O J (J.length:Int) L true J B))=some r:=H
       have al:=Aside0.mk a4
       clear a4
       by_cases a6:a3=true
       ·subst a6
        have H1:(if L>0 then (if 0≤(wrap64 (L-1)) then (if (wrap64 (L-1))<(J.length:Int) then ((call_ins_1.f ((Qn J (wrap64 (L-1))).f0) ((Qn J (wrap64 (L-1))).f1) ((Qn J L).f0) ((Qn J L).f1)).bind fun ζ =>(api_Inside_right.j1 k1 O J (J.length:Int) L (decide (ζ ≥ 0)) J B)) else (none)) else (none)) else (api_Inside_right.j1 k1 O J (J.length:Int) L false J B))=some r:=by rw[if_pos rfl] at H;exact H
        clear H
        have H:=H1
        clear H1
        by_cases ac:L>0
        ·rw[if_pos ac] at H
         have c14b0:decide (0<L)=true:=decide_eq_true ac
         clear ac
         (first|rw[c14b0]|(simp only[Zb,Zj];rw[c14b0])|skip)
         obtain⟨δ,ε⟩:∃ j_:Int,(wrap64 (L-1))=j_:=⟨_,rfl⟩
         replace H:(if 0≤(δ) then (if (δ)<(J.length:Int) then ((call_ins_1.f ((Qn J (δ)).f0) ((Qn J (δ)).f1) ((Qn J L).f0) ((Qn J L).f1)).bind fun ζ =>(api_Inside_right.j1 k1 O J (J.length:Int) L (decide (ζ ≥ 0)) J B)) else (none)) else (none))=some r:=by first|(rw[ε] at H;exact H)|(simp only[ε] at H ⊢;exact H)
         (try rw[ε] at al)
         have hji15w:(IntKind.i64.wrap (L-1)) = δ :=(Zb _).trans ε
         by_cases χ :0≤(δ)
         ·rw[if_pos χ] at H
          have c16b0:decide (0≤(δ))=true:=decide_eq_true χ
          clear χ
          by_cases σ:(δ)<(J.length:Int)
          ·rw[if_pos σ] at H
           have c17b0:decide ((δ)<(J.length:Int))=true:=decide_eq_true σ
           clear σ
           replace H:=Option.bind_eq_some_iff.mp H
           obtain⟨ζ,b4,H⟩:=H
           replace H:(api_Inside_right.j1 k1 O J (J.length:Int) L (decide (ζ ≥ 0)) J B)=some r:=H
           have cj:=Aside0.mk b4
           clear b4
           have H':=Aside0.mk H
           clear H
           try go_wp2
           have ξ :Aside0 (((w9.setCell ⟨γ,0,none⟩ (.int .i64 ((Qn J L).f0))).setCell ⟨γ,1,none⟩ (.int .i64 ((Qn J L).f1))).heap[a2]?=some (.cells #[.slice (some Z) J.length η,.func (.func 83) #[] #[]] 116 (0,0))):=⟨bka Y⟩
           have φ :Aside0 (((w9.setCell ⟨γ,0,none⟩ (.int .i64 ((Qn J L).f0))).setCell ⟨γ,1,none⟩ (.int .i64 ((Qn J L).f1))).heap[γ]?=some (.cells #[.int .i64 ((Qn J L).f0),.int .i64 ((Qn J L).f1)] 86 (0,0))):=⟨by refine Qm (cs:=#[.int .i64 ((Qn J L).f0),.int .i64 0]) ?_ 1 _ rfl;refine Qm (cs:=#[.int .i64 0,.int .i64 0]) ?_ 0 _ rfl;exact X.out⟩
           have ω :Aside0 (Below w.heap.size w ((w9.setCell ⟨γ,0,none⟩ (.int .i64 ((Qn J L).f0))).setCell ⟨γ,1,none⟩ (.int .i64 ((Qn J L).f1)))):=⟨bel⟩
           (try clear Y)
           (try clear X)
           (try clear HB)
           generalize((w9.setCell ⟨γ,0,none⟩ (.int .i64 ((Qn J L).f0))).setCell ⟨γ,1,none⟩ (.int .i64 ((Qn J L).f1)))=az at ξ φ ω ⊢
           have Y:= ξ
           have X:= φ
           have HB:= ω
           clear ξ φ ω
           replace Y:=Aside0.mk (Qd Y.out)
           replace X:=Aside0.mk (Qd X.out)
           replace HB:=Aside0.mk (Qf HB.out)
           have aa:0≤((δ):Int):=of_decide_eq_true (by assumption)
           have ae:(δ)<(J.length:Int):=of_decide_eq_true (by assumption)
           obtain⟨ay,b1,ι,κ⟩:=Y3 ar.out (δ) aa ae
           have ν := κ
           have ρ:= ι
           obtain rfl:Z=ay:=(by injection b1)
           replace ι :=(HB.out.cell (World.block_lt_of_cell? w _ ι)).trans ι
           replace κ :=(HB.out.cell (World.block_lt_of_cell? w _ κ)).trans κ
           replace aa:=eq_true aa
           replace ae:=eq_true ae
           refine Zn (n:=21) (S:=fun w'=>w'.cell? ⟨γ,0,none⟩=some (.int .i64 ((Qn J L).f0))∧w'.cell? ⟨γ,1,none⟩=some (.int .i64 ((Qn J L).f1))∧w'.cell? ⟨a2,0,none⟩=some (.slice (some Z) J.length η)∧w'.cell? ⟨a2,1,none⟩=some (.func (.func 83) #[] #[])∧w'.cell? (Z.add (((δ)).toNat * 2))=some (.int .i64 ((Qn J (δ)).f0))∧w'.cell? ⟨(Z.add (((δ)).toNat * 2)).block,(Z.add (((δ)).toNat * 2)).off+1,none⟩=some (.int .i64 ((Qn J (δ)).f1))) (ds:=[]) #[false,false,false,false,false,false,false,false,false,false,false,false,false,false,false,false,false,false,false,false,false] kr rfl rfl ⟨(Qa X.out 0).trans rfl,(Qa X.out 1).trans rfl,(Qa Y.out 0).trans rfl,(Qa Y.out 1).trans rfl,((HB.out.cell (World.block_lt_of_cell? w _ ρ)).trans ρ),((HB.out.cell (World.block_lt_of_cell? w _ ν)).trans ν)⟩ (fun hHeld=>?_);refine Q8 api_Inside_right.G9 api_Inside_right.Ke (fun HT_ HW_=>?_)
           generalize az.drew=dv at Y X HB ι κ hHeld ⊢
           refine qP 0 (some 15) (bN 21 1) HT_ ?_
           refine qT 1 (some 16) (bN 21 3) HT_ HW_ hHeld ?_
           refine Ze (i:=2) (N:=some 17) (bN 21 7) rfl rfl (Q5 HT_.out kr) (by decide) (fun K hK=>?_)
           refine Xy Try.func84 kr rfl #[] #[.pointer (some ⟨gh_,0,none⟩)] #[.agg #[.int .i64 ((Qn J L).f0),.int .i64 ((Qn J L).f1)]] #[.agg #[.int .i64 ((Qn J L).f0),.int .i64 ((Qn J L).f1)],.pointer (some ⟨gh_,0,none⟩)] rfl (by rfl) rfl rfl rfl qM ?_
           with_reducible refine(call_inside_1.calls ((Qn J L).f0) ((Qn J L).f1) O true _ al.out gh_ (Z1 HCH.out (by repeat(first|(with_reducible first|exact HB.out|apply Qo|apply Qi|apply Qf)|exact HB.out|(refine Qp ?_ (Aside0.out (by assumption))))))).mono ?_
           rintro e bg ⟨rfl,hb⟩
           refine⟨_,rfl, ?_⟩
           replace Y:=sBk Y hb
           replace X:=sBk X hb
           replace HB:=sHb hb
           (try clear hb)
           (try clear a9)
           (try clear hk)
           (try clear hi)
           refine hK.out _ _ ⟨qc X,qc X,qc Y,qc Y,((HB.out.cell (World.block_lt_of_cell? w _ ρ)).trans ρ),((HB.out.cell (World.block_lt_of_cell? w _ ν)).trans ν)⟩ (fun hHeld=>?_)
           clear hK K
           refine qN (some 17) ?_
           refine qP 3 (some 18) (bN 21 15) HT_ ?_
           refine qP 4 (some 19) (bN 21 31) HT_ ?_
           refine qP 5 (some 20) (bN 21 63) HT_ ?_
           refine qP 6 (some 21) (bN 21 127) HT_ ?_
           refine qP 7 (some 22) (bN 21 255) HT_ ?_
           refine qP 8 (some 23) (bN 21 511) HT_ ?_
           refine qP 10 (some 25) (bN 21 1535) HT_ ?_
           refine qP 12 (some 27) (bN 21 5631) HT_ ?_
           refine qP 13 (some 28) (bN 21 13823) HT_ ?_
           refine qT 9 (some 24) (bN 21 14335) HT_ HW_ hHeld ?_
           refine qT 11 (some 26) (bN 21 16383) HT_ HW_ hHeld ?_
           refine qP 14 (some 29) (bN 21 32767) HT_ ?_
           refine qT 15 (some 30) (bN 21 65535) HT_ HW_ hHeld ?_
           refine qT 16 (some 31) (bN 21 131071) HT_ HW_ hHeld ?_
           refine Ze (i:=17) (N:=some 32) (bN 21 262143) rfl rfl (Q5 HT_.out kr) (by decide) (fun K hK=>?_)
           refine Xy Try.func83 kr rfl #[] #[] #[.agg #[.int .i64 ((Qn J (δ)).f0),.int .i64 ((Qn J (δ)).f1)],.agg #[.int .i64 ((Qn J L).f0),.int .i64 ((Qn J L).f1)]] #[.agg #[.int .i64 ((Qn J (δ)).f0),.int .i64 ((Qn J (δ)).f1)],.agg #[.int .i64 ((Qn J L).f0),.int .i64 ((Qn J L).f1)]] rfl (by rfl) rfl rfl rfl (by(try simp only[List.map_toArray,List.map_cons,List.map_nil]);first|done|(simp only[ε];rfl)|rfl|(simp only[List.length_drop,List.length_take];rfl)) ?_
           with_reducible refine(call_ins_1.calls ((Qn J (δ)).f0) ((Qn J (δ)).f1) ((Qn J L).f0) ((Qn J L).f1) ζ _ cj.out).mono ?_
           rintro e bd ⟨rfl,hb⟩
           refine⟨_,rfl, ?_⟩
           replace Y:=sBk Y hb
           replace X:=sBk X hb
           replace HB:=sHb hb
           (try clear hb)
           (try clear a9)
           (try clear hk)
           (try clear hi)
           refine hK.out _ _ ⟨qc X,qc X,qc Y,qc Y,((HB.out.cell (World.block_lt_of_cell? w _ ρ)).trans ρ),((HB.out.cell (World.block_lt_of_cell? w _ ν)).trans ν)⟩ (fun hHeld=>?_)
           clear hK K
           refine qN (some 32) ?_
           refine qP 18 (some 33) (bN 21 524287) HT_ ?_
           refine qP 19 (some 34) (bN 21 1048575) HT_ ?_
           refine qP 20 (some 35) (bN 21 2097151) HT_ ?_
           refine Z5 (Zm HT_.out kr) ?_
           try go_wp2
           go_meet
           case rel=>exact⟨_,(decide (ζ ≥ 0)),rfl,H',⟨by have:=an.out;omega⟩,Y,X,HB⟩
          ·rw[if_neg σ] at H
           exact absurd H (by simp)
         ·rw[if_neg χ] at H
          exact absurd H (by simp)
        ·rw[if_neg ac] at H
         have c14b0:decide (0<L)=false:=decide_eq_false ac
         clear ac
         (first|rw[c14b0]|(simp only[Zb,Zj];rw[c14b0])|skip)
         have H':=Aside0.mk H
         clear H
         try go_wp2
         have ξ :Aside0 (((w9.setCell ⟨γ,0,none⟩ (.int .i64 ((Qn J L).f0))).setCell ⟨γ,1,none⟩ (.int .i64 ((Qn J L).f1))).heap[a2]?=some (.cells #[.slice (some Z) J.length η,.func (.func 83) #[] #[]] 116 (0,0))):=⟨bka Y⟩
         have φ :Aside0 (((w9.setCell ⟨γ,0,none⟩ (.int .i64 ((Qn J L).f0))).setCell ⟨γ,1,none⟩ (.int .i64 ((Qn J L).f1))).heap[γ]?=some (.cells #[.int .i64 ((Qn J L).f0),.int .i64 ((Qn J L).f1)] 86 (0,0))):=⟨by refine Qm (cs:=#[.int .i64 ((Qn J L).f0),.int .i64 0]) ?_ 1 _ rfl;refine Qm (cs:=#[.int .i64 0,.int .i64 0]) ?_ 0 _ rfl;exact X.out⟩
         have ω :Aside0 (Below w.heap.size w ((w9.setCell ⟨γ,0,none⟩ (.int .i64 ((Qn J L).f0))).setCell ⟨γ,1,none⟩ (.int .i64 ((Qn J L).f1)))):=⟨bel⟩
         (try clear Y)
         (try clear X)
         (try clear HB)
         generalize((w9.setCell ⟨γ,0,none⟩ (.int .i64 ((Qn J L).f0))).setCell ⟨γ,1,none⟩ (.int .i64 ((Qn J L).f1)))=bb at ξ φ ω ⊢
         have Y:= ξ
         have X:= φ
         have HB:= ω
         clear ξ φ ω
         replace Y:=Aside0.mk (Qd Y.out)
         replace X:=Aside0.mk (Qd X.out)
         replace HB:=Aside0.mk (Qf HB.out)
         refine Zn (n:=21) (S:=fun w'=>w'.cell? ⟨γ,0,none⟩=some (.int .i64 ((Qn J L).f0))∧w'.cell? ⟨γ,1,none⟩=some (.int .i64 ((Qn J L).f1))) (ds:=[]) #[false,false,false,false,false,false,false,false,false,false,false,false,false,false,false,false,false,false,false,false,false] kr rfl rfl ⟨(Qa X.out 0).trans rfl,(Qa X.out 1).trans rfl⟩ (fun hHeld=>?_);refine Q8 api_Inside_right.G9 api_Inside_right.Ke (fun HT_ HW_=>?_)
         generalize bb.drew=ca at Y X HB hHeld ⊢
         refine qP 0 (some 15) (bN 21 1) HT_ ?_
         refine qT 1 (some 16) (bN 21 3) HT_ HW_ hHeld ?_
         refine Ze (i:=2) (N:=some 17) (bN 21 7) rfl rfl (Q5 HT_.out kr) (by decide) (fun K hK=>?_)
         refine Xy Try.func84 kr rfl #[] #[.pointer (some ⟨gh_,0,none⟩)] #[.agg #[.int .i64 ((Qn J L).f0),.int .i64 ((Qn J L).f1)]] #[.agg #[.int .i64 ((Qn J L).f0),.int .i64 ((Qn J L).f1)],.pointer (some ⟨gh_,0,none⟩)] rfl (by rfl) rfl rfl rfl qM ?_
         with_reducible refine(call_inside_1.calls ((Qn J L).f0) ((Qn J L).f1) O true _ al.out gh_ (Z1 HCH.out (by repeat(first|(with_reducible first|exact HB.out|apply Qo|apply Qi|apply Qf)|exact HB.out|(refine Qp ?_ (Aside0.out (by assumption))))))).mono ?_
         rintro e em ⟨rfl,hb⟩
         refine⟨_,rfl, ?_⟩
         replace Y:=sBk Y hb
         replace X:=sBk X hb
         replace HB:=sHb hb
         (try clear hb)
         (try clear a9)
         (try clear hk)
         (try clear hi)
         refine hK.out _ _ ⟨qc X,qc X⟩ (fun hHeld=>?_)
         clear hK K
         refine qN (some 17) ?_
         refine qP 3 (some 18) (bN 21 15) HT_ ?_
         refine qP 4 (some 19) (bN 21 31) HT_ ?_
         refine qP 5 (some 20) (bN 21 63) HT_ ?_
         refine qP 6 (some 21) (bN 21 127) HT_ ?_
         refine qP 7 (some 22) (bN 21 255) HT_ ?_
         refine qU 8 (some 23) (bN 21 511) HT_ ?_
         refine qU 9 (some 24) (bN 21 1023) HT_ ?_
         refine qU 10 (some 25) (bN 21 2047) HT_ ?_
         refine qU 11 (some 26) (bN 21 4095) HT_ ?_
         refine qU 12 (some 27) (bN 21 8191) HT_ ?_
         refine qU 13 (some 28) (bN 21 16383) HT_ ?_
         refine qU 14 (some 29) (bN 21 32767) HT_ ?_
         refine qU 15 (some 30) (bN 21 65535) HT_ ?_
         refine qU 16 (some 31) (bN 21 131071) HT_ ?_
         refine qU 17 (some 32) (bN 21 262143) HT_ ?_
         refine qU 18 (some 33) (bN 21 524287) HT_ ?_
         refine qP 19 (some 34) (bN 21 1048575) HT_ ?_
         refine qP 20 (some 35) (bN 21 2097151) HT_ ?_
         refine Z5 (Zm HT_.out kr) ?_
         try go_wp2
         go_meet
         case rel=>exact⟨_,(false),rfl,H',⟨by have:=an.out;omega⟩,Y,X,HB⟩
       ·replace a6:=Bool.eq_false_iff.mpr a6
        subst a6
        have H1:(api_Inside_right.j1 k1 O J (J.length:Int) L true J B)=some r:=by rw[if_neg (show ¬ (false=true) by decide)] at H;exact H
        clear H
        have H:=H1
        clear H1
        have H':=Aside0.mk H
        clear H
        try go_wp2
        have ξ :Aside0 (((w9.setCell ⟨γ,0,none⟩ (.int .i64 ((Qn J L).f0))).setCell ⟨γ,1,none⟩ (.int .i64 ((Qn J L).f1))).heap[a2]?=some (.cells #[.slice (some Z) J.length η,.func (.func 83) #[] #[]] 116 (0,0))):=⟨bka Y⟩
        have φ :Aside0 (((w9.setCell ⟨γ,0,none⟩ (.int .i64 ((Qn J L).f0))).setCell ⟨γ,1,none⟩ (.int .i64 ((Qn J L).f1))).heap[γ]?=some (.cells #[.int .i64 ((Qn J L).f0),.int .i64 ((Qn J L).f1)] 86 (0,0))):=⟨by refine Qm (cs:=#[.int .i64 ((Qn J L).f0),.int .i64 0]) ?_ 1 _ rfl;refine Qm (cs:=#[.int .i64 0,.int .i64 0]) ?_ 0 _ rfl;exact X.out⟩
        have ω :Aside0 (Below w.heap.size w ((w9.setCell ⟨γ,0,none⟩ (.int .i64 ((Qn J L).f0))).setCell ⟨γ,1,none⟩ (.int .i64 ((Qn J L).f1)))):=⟨bel⟩
        (try clear Y)
        (try clear X)
        (try clear HB)
        generalize((w9.setCell ⟨γ,0,none⟩ (.int .i64 ((Qn J L).f0))).setCell ⟨γ,1,none⟩ (.int .i64 ((Qn J L).f1)))=i2 at ξ φ ω ⊢
        have Y:= ξ
        have X:= φ
        have HB:= ω
        clear ξ φ ω
        replace Y:=Aside0.mk (Qd Y.out)
        replace X:=Aside0.mk (Qd X.out)
        replace HB:=Aside0.mk (Qf HB.out)
        refine Zn (n:=21) (S:=fun w'=>w'.cell? ⟨γ,0,none⟩=some (.int .i64 ((Qn J L).f0))∧w'.cell? ⟨γ,1,none⟩=some (.int .i64 ((Qn J L).f1))) (ds:=[]) #[false,false,false,false,false,false,false,false,false,false,false,false,false,false,false,false,false,false,false,false,false] kr rfl rfl ⟨(Qa X.out 0).trans rfl,(Qa X.out 1).trans rfl⟩ (fun hHeld=>?_);refine Q8 api_Inside_right.G9 api_Inside_right.Ke (fun HT_ HW_=>?_)
        generalize i2.drew=dm at Y X HB hHeld ⊢
        refine qP 0 (some 15) (bN 21 1) HT_ ?_
        refine qT 1 (some 16) (bN 21 3) HT_ HW_ hHeld ?_
        refine Ze (i:=2) (N:=some 17) (bN 21 7) rfl rfl (Q5 HT_.out kr) (by decide) (fun K hK=>?_)
        refine Xy Try.func84 kr rfl #[] #[.pointer (some ⟨gh_,0,none⟩)] #[.agg #[.int .i64 ((Qn J L).f0),.int .i64 ((Qn J L).f1)]] #[.agg #[.int .i64 ((Qn J L).f0),.int .i64 ((Qn J L).f1)],.pointer (some ⟨gh_,0,none⟩)] rfl (by rfl) rfl rfl rfl qM ?_
        with_reducible refine(call_inside_1.calls ((Qn J L).f0) ((Qn J L).f1) O false _ al.out gh_ (Z1 HCH.out (by repeat(first|(with_reducible first|exact HB.out|apply Qo|apply Qi|apply Qf)|exact HB.out|(refine Qp ?_ (Aside0.out (by assumption))))))).mono ?_
        rintro e e9 ⟨rfl,hb⟩
        refine⟨_,rfl, ?_⟩
        replace Y:=sBk Y hb
        replace X:=sBk X hb
        replace HB:=sHb hb
        (try clear hb)
        (try clear a9)
        (try clear hk)
        (try clear hi)
        refine hK.out _ _ ⟨qc X,qc X⟩ (fun hHeld=>?_)
        clear hK K
        refine qN (some 17) ?_
        refine qP 3 (some 18) (bN 21 15) HT_ ?_
        refine qP 4 (some 19) (bN 21 31) HT_ ?_
        refine qU 5 (some 20) (bN 21 63) HT_ ?_
        refine qU 6 (some 21) (bN 21 127) HT_ ?_
        refine qU 7 (some 22) (bN 21 255) HT_ ?_
        refine qU 8 (some 23) (bN 21 511) HT_ ?_
        refine qU 9 (some 24) (bN 21 1023) HT_ ?_
        refine qU 10 (some 25) (bN 21 2047) HT_ ?_
        refine qU 11 (some 26) (bN 21 4095) HT_ ?_
        refine qU 12 (some 27) (bN 21 8191) HT_ ?_
        refine qU 13 (some 28) (bN 21 16383) HT_ ?_
        refine qU 14 (some 29) (bN 21 32767) HT_ ?_
        refine qU 15 (some 30) (bN 21 65535) HT_ ?_
        refine qU 16 (some 31) (bN 21 131071) HT_ ?_
        refine qU 17 (some 32) (bN 21 262143) HT_ ?_
        refine qU 18 (some 33) (bN 21 524287) HT_ ?_
        refine qU 19 (some 34) (bN 21 1048575) HT_ ?_
        refine qP 20 (some 35) (bN 21 2097151) HT_ ?_
        refine Z5 (Zm HT_.out kr) ?_
        try go_wp2
        go_meet
        case rel=>exact⟨_,(true),rfl,H',⟨by have:=an.out;omega⟩,Y,X,HB⟩
      case rest=>
       clear aw
       try clear c1
       try clear p1
       try clear q1
       try clear ax
       try clear p2
       try clear c8
       try clear b9
       try clear be
       try clear b7
       try clear a6
       try clear ac
       try clear c14b0
       try clear χ
       try clear c16b0
       try clear σ
       try clear c17b0
       try clear ι
       try clear κ
       try clear aa
       try clear ae
       obtain⟨kq,θ,rfl,HA,b8,Y,X,HB⟩:=hcut
       cases kq with
       |zero=>exact absurd HA.out (by simp[api_Inside_right.j1])
       |succ ba=>
        have H:=HA.out
        clear HA
        simp only[api_Inside_right.j1] at H
        by_cases bz: θ = true
        ·subst bz
         have H1:(some false)=some r:=by rw[if_pos rfl] at H;exact H
         clear H
         have H:=H1
         clear H1
         obtain rfl:=Option.some.inj H
         go_wp2
         go_ret
         exact⟨rfl,HB.out⟩
        ·replace bz:=Bool.eq_false_iff.mpr bz
         subst bz
         have H1:(api_Inside_right.l0 ba O J (J.length:Int) (wrap64 (L+1)) J B)=some r:=by rw[if_neg (show ¬ (false=true) by decide)] at H;exact H
         clear H
         have H:=H1
         clear H1
         have H':=Aside0.mk H
         clear H
         go_wp2
         go_roundg ba
         case measure=>have:=an.out;have:=b8.out;omega
         case rel=>exact⟨(wrap64 (L+1)),rfl,H',⟨by have:=an.out;have:=b8.out;omega⟩,Y,HB⟩
     ·rw[if_neg c7] at H
      exact absurd H (by simp)
    ·rw[if_neg c6] at H
     exact absurd H (by simp)
   ·rw[if_neg c5] at H
    have c5b0:decide (L<(J.length:Int))=false:=decide_eq_false c5
    clear c5
    obtain rfl:=Option.some.inj H
    go_wp2
    go_ret
    exact⟨rfl,HB.out⟩
end Go.Proofs.Ytmfffemidlhcpaa.C
namespace Go.Proofs.Ytmfffemidlhcpaa.Call
open Go.RowKit Go.Proofs.YtmfffemidlhcpaaW.PrintWords Go.Proofs.YtmfffemidlhcpaaW.PrintLast Go.Proofs.YtmfffemidlhcpaaW.PrintMore Go.Proofs.Ytmfffemidlhcpaa.C
set_option linter.unusedVariables false
set_option linter.unusedSimpArgs false
theorem Vm (a b:Int):Vo a b<0↔a<b:=by unfold Vo;split <;> (try split) <;> omega
theorem Vn (a b:Int):Vo a b=0↔a=b:=by unfold Vo;split <;> (try split) <;> omega
theorem Ka (a b c d:Int):X2 a b c d<0↔(a<c∨(a=c∧b<d)):=by
  unfold X2
  have h1:=Vm a c
  have L:=Vn a c
  have O:=Vm b d
  split <;> omega
theorem Kt (a b c d:Int):X2 a b c d=0↔(a=c∧b=d):=by
  unfold X2
  have h1:=Vm a c
  have L:=Vn a c
  have O:=Vn b d
  split <;> omega
def Uv {α:Type} (q:α→Bool):Nat→List α→Int
  |_,[]=> -1
  |i,x :: l=>if q x=true then (i:Int) else Uv q (i+1) l
theorem La {α:Type} (q:α→Bool) (l:List α):∀ i:Nat,(Uv q i l = -1 ∧ ∀ x ∈ l,q x=false) ∨ ∃ k:Nat,∃ h:k<l.length,Uv q i l=((i+k:Nat):Int)∧q l[k]=true ∧ ∀ x ∈ l.take k,q x=false:=by
  induction l with
  |nil=>intro i;exact .inl ⟨rfl,by simp⟩
  |cons x l ih=>
    intro i
    simp only[Uv]
    by_cases h:q x=true
    · rw[if_pos h]
      exact .inr ⟨0,by simp,by simp,by simpa using h,by simp⟩
    · rw[if_neg h]
      have hf:q x=false:=by simpa using h
      rcases ih (i+1) with⟨e,ha⟩|⟨k,hk,e,ht,ha⟩
      · refine .inl ⟨e,fun y hy=>?_⟩
        rcases List.mem_cons.1 hy with rfl|hy
        · exact hf
        · exact ha y hy
      · refine .inr ⟨k+1,by simpa using hk,by rw[e];congr 1;omega,by simpa using ht,fun y hy=>?_⟩
        rw[List.take_succ_cons] at hy
        rcases List.mem_cons.1 hy with rfl|hy
        · exact hf
        · exact ha y hy
def Zf {α:Type} (may:α→Bool) (lt:α→α→Bool):Option α→List α→Bool
  |_,[]=>true
  |none,x :: l=>may x&&Zf may lt (some x) l
  |some p,x :: l=>(may x&&lt p x)&&Zf may lt (some x) l
def ltH (x y:S36):Bool:=decide (X2 x.f0 x.f1 y.f0 y.f1<0)
theorem Ks (x y:S36):ltH x y=true↔(x.f0<y.f0∨(x.f0=y.f0∧x.f1<y.f1)):=by
  unfold ltH
  rw[decide_eq_true_iff,Ka]
theorem W9 {x y z:S36} (h1:ltH x y=true) (L:ltH y z=true):ltH x z=true:=by
  rw[Ks] at *
  omega
theorem Vf (l:List S36) (i:Nat) (h:i<l.length):Qc l (i:Int)=l[i]:=by
  unfold Qc
  rw[Int.toNat_natCast,List.getD_eq_getElem?_getD,List.getElem?_eq_getElem h]
  rfl
def Gp (l:List S36) (B J:Int) (p:Nat):Prop:=p≤l.length∧(∀ y ∈ l.take p,X2 y.f0 y.f1 B J<0)∧(∀ y ∈ l.drop p,¬ X2 y.f0 y.f1 B J<0)
def Gv (l:List S36) (B J:Int) (p:Nat):Bool:=match l[p]? with|some y=>X2 y.f0 y.f1 B J==0|none=>false
theorem Vd (l:List S36) (B J Y:Int) (hm:l.length≤1000000000) (hs:l.Pairwise (fun x y=>ltH x y=true)) (d:Nat):∀ (f i j:Nat),j-i≤d→i≤j→j≤l.length→d<f→(∀ y ∈ l.take i,X2 y.f0 y.f1 B J<0)→(∀ y ∈ l.drop j,¬ X2 y.f0 y.f1 B J<0) →
    ∃ p,Gp l B J p∧api_Hall_89.l0 f l (l.length:Int) (i:Int) (j:Int) B J Y=some ((p:Int),Gv l B J p):=by
  have stop:∀ (f i:Nat),0<f→i≤l.length→(∀ y ∈ l.take i,X2 y.f0 y.f1 B J<0)→(∀ y ∈ l.drop i,¬ X2 y.f0 y.f1 B J<0) → ∃ p,Gp l B J p∧api_Hall_89.l0 f l (l.length:Int) (i:Int) (i:Int) B J Y=some ((p:Int),Gv l B J p):=by
    intro f i hf hi h1 L
    obtain⟨f,rfl⟩:∃ m,f=m+1:=⟨f-1,by omega⟩
    refine⟨i,⟨hi,h1,L⟩, ?_⟩
    simp only[api_Hall_89.l0]
    unfold Gv
    rw[if_neg (by omega)]
    by_cases h:i<l.length
    · rw[if_pos (by omega),if_pos (by omega),if_pos (by omega),Vf l i h,List.getElem?_eq_getElem h]
      rfl
    · rw[if_neg (by omega),List.getElem?_eq_none (by omega)]
  induction d with
  |zero=>
    intro f i j hd hij hj hf h1 L
    obtain rfl:i=j:=by omega
    exact stop f i hf hj h1 L
  |succ d ih=>
    intro f i j hd hij hj hf h1 L
    by_cases he:i=j
    · subst he
      exact stop f i (by omega) hj h1 L
    · obtain⟨f,rfl⟩:∃ m,f=m+1:=⟨f-1,by omega⟩
      have hmid:wrap64 ((IntKind.u64.wrap (wrap64 ((i:Int)+(j:Int)))) / 2)=(((i+j) / 2:Nat):Int):=by
        rw[show wrap64 ((i:Int)+(j:Int))=(i:Int)+(j:Int) from by unfold wrap64;omega,IntKind.wrap_u64]
        unfold wrap64;omega
      have e1:wrap64 ((((i+j) / 2:Nat):Int)+1)=(((i+j) / 2+1:Nat):Int):=by unfold wrap64;omega
      simp only[api_Hall_89.l0]
      rw[if_pos (by omega),hmid]
      have hh:(i+j) / 2<l.length:=by omega
      generalize hg:(i+j) / 2=h at *
      rw[if_pos (by omega),if_pos (by omega),Vf l h hh,e1]
      unfold call_halls_1.f
      simp only[Option.bind_some]
      have hlt:∀ m:Nat,(hm:m<h)→X2 (l[m]'(by omega)).f0 (l[m]'(by omega)).f1 l[h].f0 l[h].f1<0:=by
        intro m hm
        have:=List.pairwise_iff_getElem.1 hs m h (by omega) hh hm
        exact of_decide_eq_true this
      have hgt:∀ m:Nat,h<m→(hm:m<l.length)→X2 l[h].f0 l[h].f1 l[m].f0 l[m].f1<0:=by
        intro m hm hml
        have:=List.pairwise_iff_getElem.1 hs h m hh hml hm
        exact of_decide_eq_true this
      by_cases hc:X2 l[h].f0 l[h].f1 B J<0
      · rw[if_pos hc]
        refine ih f (h+1) j (by omega) (by omega) hj (by omega) ?_ L
        intro y hy
        obtain⟨m,hm,rfl⟩:=List.mem_iff_getElem.1 hy
        rw[List.length_take] at hm
        rw[List.getElem_take]
        by_cases hmh:m=h
        · subst hmh;exact hc
        · have O:=hlt m (by omega)
          rw[Ka] at *
          omega
      · rw[if_neg hc]
        refine ih f i h (by omega) (by omega) (by omega) (by omega) h1 ?_
        intro y hy
        obtain⟨m,hm,rfl⟩:=List.mem_iff_getElem.1 hy
        rw[List.length_drop] at hm
        rw[List.getElem_drop]
        by_cases hmh:m=0
        · subst hmh;simpa using hc
        · have O:=hgt (h+m) (by omega) (by omega)
          rw[Ka] at *
          omega
theorem Up (l:List S36) (B J Y:Int) (a2:Int) (hm:l.length≤1000000000) (hs:l.Pairwise (fun x y=>ltH x y=true)) (k:Nat) (hk:l.length<k):
    ∃ p,Gp l B J p∧api_Hall_89.f k l B J Y a2=some ((p:Int),Gv l B J p):=by
  unfold api_Hall_89.f
  have:=Vd l B J Y hm hs l.length k 0 l.length (by omega) (by omega) (by omega) hk (by simp) (by simp)
  simpa using this
theorem Ub (l:List S36) (O tok_:Int) (hm:l.length≤1000000000) (j:Nat):∀ (f i:Nat),i+j=l.length→2 * j<f→api_Hall_right.l0 f O l (l.length:Int) (i:Int) l tok_=some (Zf (fun x=>Xk (X7 O) (X6 O) x.f0 x.f1 x.f2) ltH (if i=0 then none else l[i-1]?) (l.drop i)):=by
  induction j with
  |zero=>
    intro f i hi hf
    obtain⟨f,rfl⟩:∃ m,f=m+1:=⟨f-1,by omega⟩
    simp only[api_Hall_right.l0]
    rw[if_neg (by omega),List.drop_of_length_le (by omega)]
    cases(if i=0 then none else l[i-1]?) <;> rfl
  |succ j ih=>
    intro f i hi hf
    obtain⟨f,rfl⟩:∃ m,f=m+2:=⟨f-2,by omega⟩
    have ha:i<l.length:=by omega
    have ei:wrap64 ((i:Int)+1)=((i+1:Nat):Int):=by unfold wrap64;omega
    have jt:api_Hall_right.j1 (f+1) O l (l.length:Int) (i:Int) true l tok_=some false:=by simp[api_Hall_right.j1]
    have jf:api_Hall_right.j1 (f+1) O l (l.length:Int) (i:Int) false l tok_=some (Zf (fun x=>Xk (X7 O) (X6 O) x.f0 x.f1 x.f2) ltH (some l[i]) (l.drop (i+1))):=by
      simp only[api_Hall_right.j1]
      rw[if_neg (by decide),ei,ih f (i+1) (by omega) (by omega),if_neg (by omega),Nat.add_sub_cancel,List.getElem?_eq_getElem ha]
    simp only[api_Hall_right.l0]
    rw[if_pos (by omega),if_pos (by omega),if_pos (by omega),Vf l i ha]
    unfold call_hall_1.f
    simp only[Option.bind_some]
    rw[List.drop_eq_getElem_cons ha]
    by_cases h1:Xk (X7 O) (X6 O) l[i].f0 l[i].f1 l[i].f2=true
    · rw[if_pos h1]
      by_cases X:i=0
      · subst X
        rw[if_neg (by omega),if_pos rfl,jf]
        simp only[Zf,h1,Bool.true_and]
      · have ep:wrap64 ((i:Int)-1)=((i-1:Nat):Int):=by unfold wrap64;omega
        rw[if_pos (by omega),ep,if_pos (by omega),if_pos (by omega),Vf l (i-1) (by omega),if_neg X,List.getElem?_eq_getElem (by omega)]
        unfold call_halls_1.f
        simp only[Option.bind_some]
        simp only[Zf,h1,Bool.true_and]
        unfold ltH
        by_cases hc:X2 (l[i-1]'(by omega)).f0 (l[i-1]'(by omega)).f1 l[i].f0 l[i].f1<0
        · rw[decide_eq_false (by omega),decide_eq_true hc,jf,Bool.true_and]
          rfl
        · rw[decide_eq_true (by omega),decide_eq_false hc,jt,Bool.false_and]
    · have h1':Xk (X7 O) (X6 O) l[i].f0 l[i].f1 l[i].f2=false:=by simpa using h1
      rw[if_neg h1,jt]
      by_cases X:i=0
      · rw[if_pos X]
        simp only[Zf,h1',Bool.false_and]
      · rw[if_neg X,List.getElem?_eq_getElem (by omega)]
        simp only[Zf,h1',Bool.false_and]
theorem Wu (l:List S36) (O tok_:Int) (hm:l.length≤1000000000) (k:Nat) (hk:2 * l.length<k):api_Hall_right.f k l tok_ O=some (Zf (fun x=>Xk (X7 O) (X6 O) x.f0 x.f1 x.f2) ltH none l):=by
  unfold api_Hall_right.f
  have:=Ub l O tok_ hm l.length k 0 (by omega) hk
  simpa using this
theorem Ua (may:S36→Bool) (l:List S36):∀ p,Zf may ltH (some p) l=true↔((∀ x ∈ l,may x=true)∧(p :: l).Pairwise (fun x y=>ltH x y=true)):=by
  induction l with
  |nil=>intro p;simp[Zf]
  |cons x l ih=>
    intro p
    simp only[Zf,Bool.and_eq_true]
    rw[ih x]
    simp only[List.pairwise_cons,List.mem_cons,forall_eq_or_imp]
    constructor
    · rintro⟨⟨h1,L⟩,O,Z,J⟩
      exact⟨⟨h1,O⟩,⟨L,fun y hy=>W9 L (Z y hy)⟩,Z,J⟩
    · rintro⟨⟨h1,O⟩,⟨L,_⟩,Z,J⟩
      exact⟨⟨h1,L⟩,O,Z,J⟩
theorem Ja (may:S36→Bool) (l:List S36):Zf may ltH none l=true↔((∀ x ∈ l,may x=true)∧l.Pairwise (fun x y=>ltH x y=true)):=by
  cases l with
  |nil=>simp[Zf]
  |cons x l=>
    simp only[Zf,Bool.and_eq_true]
    rw[Ua]
    simp only[List.mem_cons,forall_eq_or_imp]
    constructor
    · rintro⟨h1,L,O⟩
      exact⟨⟨h1,L⟩,O⟩
    · rintro⟨⟨h1,L⟩,O⟩
      exact⟨h1,L,O⟩
abbrev qI (O:Int) (x:S86):Bool:=X2 (X7 O) (X6 O) x.f0 x.f1==0
def ltI (x y:S86):Bool:=decide (X2 x.f0 x.f1 y.f0 y.f1<0)
theorem M0 (x y:S86):ltI x y=true↔(x.f0<y.f0∨(x.f0=y.f0∧x.f1<y.f1)):=by
  unfold ltI
  rw[decide_eq_true_iff,Ka]
theorem W8 {x y z:S86} (h1:ltI x y=true) (L:ltI y z=true):ltI x z=true:=by
  rw[M0] at *
  omega
theorem Ve (l:List S86) (i:Nat) (h:i<l.length):Qn l (i:Int)=l[i]:=by
  unfold Qn
  rw[Int.toNat_natCast,List.getD_eq_getElem?_getD,List.getElem?_eq_getElem h]
  rfl
theorem Lb (l:List S86) (O:Int) (hm:l.length≤1000000000) (j:Nat):∀ (f i:Nat),i+j=l.length→j<f→api_Inside_100.l0 f l O (l.length:Int) (i:Int)=some (Uv (qI O) i (l.drop i)):=by
  induction j with
  |zero=>
    intro f i hi hf
    obtain⟨f,rfl⟩:∃ m,f=m+1:=⟨f-1,by omega⟩
    simp only[api_Inside_100.l0]
    rw[if_neg (by omega),List.drop_of_length_le (by omega)]
    rfl
  |succ j ih=>
    intro f i hi hf
    obtain⟨f,rfl⟩:∃ m,f=m+1:=⟨f-1,by omega⟩
    have ha:i<l.length:=by omega
    have ei:wrap64 ((i:Int)+1)=((i+1:Nat):Int):=by unfold wrap64;omega
    simp only[api_Inside_100.l0]
    rw[if_pos (by omega),if_pos (by omega),if_pos (by omega),Ve l i ha,ei,ih f (i+1) (by omega) (by omega)]
    unfold api_Inside_without_1.f
    simp only[Option.bind_some]
    rw[List.drop_eq_getElem_cons ha]
    simp only[Uv]
    by_cases h:qI O l[i]=true
    · rw[if_pos h,if_pos h]
    · rw[if_neg h,if_neg h]
theorem M7 (l:List S86) (O:Int) (hm:l.length≤1000000000) (k:Nat) (hk:l.length<k):api_Inside_100.f k l O=some (Uv (qI O) 0 l):=by
  unfold api_Inside_100.f
  have:=Lb l O hm l.length k 0 (by omega) hk
  simpa using this
theorem Lc (l:List S86) (O:Int) (hm:l.length≤1000000000) (j:Nat):∀ (f:Nat) (x:List S86) (i m:Nat),x.length=l.length→m+j=l.length→i≤m→j<f→x.drop m=l.drop m→x.take i=(l.take m).filter (fun y=> !qI O y) →
    api_Inside_90.l0 f x O (i:Int) (m:Int)=some (l.filter (fun y=> !qI O y)):=by
  induction j with
  |zero=>
    intro f x i m hx hj him hf hd ht
    obtain⟨f,rfl⟩:∃ m,f=m+1:=⟨f-1,by omega⟩
    simp only[api_Inside_90.l0]
    rw[if_neg (by omega),if_pos (by omega),if_pos (by omega),Int.toNat_natCast,ht,List.take_of_length_le (by omega)]
  |succ j ih=>
    intro f x i m hx hj him hf hd ht
    obtain⟨f,rfl⟩:∃ m,f=m+1:=⟨f-1,by omega⟩
    have ha:m<l.length:=by omega
    have hax:m<x.length:=by omega
    have em:wrap64 ((m:Int)+1)=((m+1:Nat):Int):=by unfold wrap64;omega
    have ei:wrap64 ((i:Int)+1)=((i+1:Nat):Int):=by unfold wrap64;omega
    have hxm:x[m]=l[m]:=by
      have h1:=List.drop_eq_getElem_cons hax
      have L:=List.drop_eq_getElem_cons ha
      rw[hd,L] at h1
      exact(List.cons.inj h1).1.symm
    have X:x.drop (m+1)=l.drop (m+1):=by
      have h1:=List.drop_eq_getElem_cons hax
      have L:=List.drop_eq_getElem_cons ha
      rw[hd,L] at h1
      exact(List.cons.inj h1).2.symm
    have B:(l.take (m+1)).filter (fun y=> !qI O y)=(l.take m).filter (fun y=> !qI O y) ++ [l[m]].filter (fun y=> !qI O y):=by
      rw[List.take_succ_eq_append_getElem ha,List.filter_append]
    simp only[api_Inside_90.l0]
    rw[if_pos (by omega),if_pos (by omega),Ve x m hax,hxm,em,ei]
    unfold api_Inside_without_1.f
    simp only[Option.bind_some]
    by_cases h:qI O l[m]=true
    · rw[if_pos h]
      refine ih f x i (m+1) hx (by omega) (by omega) (by omega) X ?_
      rw[B,ht]
      simp only[List.filter_cons,List.filter_nil]
      rw[if_neg (by rw[h];decide),List.append_nil]
    · have hf':qI O l[m]=false:=by simpa using h
      rw[if_neg h,if_pos (by omega),if_pos (by omega),Int.toNat_natCast]
      refine ih f (x.set i _) (i+1) (m+1) (by rw[List.length_set];exact hx) (by omega) (by omega) (by omega) ?_ ?_
      · rw[List.drop_set_of_lt (by omega)]
        exact X
      · rw[B]
        simp only[List.filter_cons,List.filter_nil]
        rw[if_pos (by rw[hf'];rfl),List.take_succ_eq_append_getElem (by rw[List.length_set];omega),List.getElem_set_self,List.take_set_of_le (by omega),ht]
theorem Nc (l:List S86) (O:Int) (hm:l.length≤1000000000) (k:Nat) (hk:l.length+5<k):api_Inside_90.f k l O=some (l.filter (fun y=> !qI O y)):=by
  unfold api_Inside_90.f
  rw[M7 l O hm k (by omega)]
  simp only[Option.bind_some]
  rcases La (qI O) l 0 with⟨e,ha⟩|⟨i,hi,e,ht,ha⟩
  · rw[e,if_pos rfl]
    congr 1
    exact(List.filter_eq_self.2 (fun y hy=>by rw[ha y hy];rfl)).symm
  · rw[e,Nat.zero_add,if_neg (by omega)]
    have ei:wrap64 ((i:Int)+1)=((i+1:Nat):Int):=by unfold wrap64;omega
    rw[ei]
    refine Lc l O hm (l.length - (i+1)) k l i (i+1) rfl (by omega) (by omega) (by omega) rfl ?_
    rw[List.take_succ_eq_append_getElem hi,List.filter_append]
    simp only[List.filter_cons,List.filter_nil]
    rw[if_neg (by rw[ht];decide),List.append_nil]
    exact(List.filter_eq_self.2 (fun y hy=>by rw[ha y hy];rfl)).symm
theorem V9 (l:List S86) (O tok_:Int) (hm:l.length≤1000000000) (j:Nat):∀ (f i:Nat),i+j=l.length→2 * j<f→api_Inside_right.l0 f O l (l.length:Int) (i:Int) l tok_=some (Zf (fun x=>Jv (X7 O) (X6 O) x.f0 x.f1) ltI (if i=0 then none else l[i-1]?) (l.drop i)):=by
  induction j with
  |zero=>
    intro f i hi hf
    obtain⟨f,rfl⟩:∃ m,f=m+1:=⟨f-1,by omega⟩
    simp only[api_Inside_right.l0]
    rw[if_neg (by omega),List.drop_of_length_le (by omega)]
    cases(if i=0 then none else l[i-1]?) <;> rfl
  |succ j ih=>
    intro f i hi hf
    obtain⟨f,rfl⟩:∃ m,f=m+2:=⟨f-2,by omega⟩
    have ha:i<l.length:=by omega
    have ei:wrap64 ((i:Int)+1)=((i+1:Nat):Int):=by unfold wrap64;omega
    have jt:api_Inside_right.j1 (f+1) O l (l.length:Int) (i:Int) true l tok_=some false:=by simp[api_Inside_right.j1]
    have jf:api_Inside_right.j1 (f+1) O l (l.length:Int) (i:Int) false l tok_=some (Zf (fun x=>Jv (X7 O) (X6 O) x.f0 x.f1) ltI (some l[i]) (l.drop (i+1))):=by
      simp only[api_Inside_right.j1]
      rw[if_neg (by decide),ei,ih f (i+1) (by omega) (by omega),if_neg (by omega),Nat.add_sub_cancel,List.getElem?_eq_getElem ha]
    simp only[api_Inside_right.l0]
    rw[if_pos (by omega),if_pos (by omega),if_pos (by omega),Ve l i ha]
    unfold call_inside_1.f
    simp only[Option.bind_some]
    rw[List.drop_eq_getElem_cons ha]
    by_cases h1:Jv (X7 O) (X6 O) l[i].f0 l[i].f1=true
    · rw[if_pos h1]
      by_cases X:i=0
      · subst X
        rw[if_neg (by omega),if_pos rfl,jf]
        simp only[Zf,h1,Bool.true_and]
      · have ep:wrap64 ((i:Int)-1)=((i-1:Nat):Int):=by unfold wrap64;omega
        rw[if_pos (by omega),ep,if_pos (by omega),if_pos (by omega),Ve l (i-1) (by omega),if_neg X,List.getElem?_eq_getElem (by omega)]
        unfold call_ins_1.f
        simp only[Option.bind_some]
        simp only[Zf,h1,Bool.true_and]
        unfold ltI
        by_cases hc:X2 (l[i-1]'(by omega)).f0 (l[i-1]'(by omega)).f1 l[i].f0 l[i].f1<0
        · rw[decide_eq_false (by omega),decide_eq_true hc,jf,Bool.true_and]
          rfl
        · rw[decide_eq_true (by omega),decide_eq_false hc,jt,Bool.false_and]
    · have h1':Jv (X7 O) (X6 O) l[i].f0 l[i].f1=false:=by simpa using h1
      rw[if_neg h1,jt]
      by_cases X:i=0
      · rw[if_pos X]
        simp only[Zf,h1',Bool.false_and]
      · rw[if_neg X,List.getElem?_eq_getElem (by omega)]
        simp only[Zf,h1',Bool.false_and]
theorem Wt (l:List S86) (O tok_:Int) (hm:l.length≤1000000000) (k:Nat) (hk:2 * l.length<k):api_Inside_right.f k l tok_ O=some (Zf (fun x=>Jv (X7 O) (X6 O) x.f0 x.f1) ltI none l):=by
  unfold api_Inside_right.f
  have:=V9 l O tok_ hm l.length k 0 (by omega) hk
  simpa using this
theorem V7 (may:S86→Bool) (l:List S86):∀ p,Zf may ltI (some p) l=true↔((∀ x ∈ l,may x=true)∧(p :: l).Pairwise (fun x y=>ltI x y=true)):=by
  induction l with
  |nil=>intro p;simp[Zf]
  |cons x l ih=>
    intro p
    simp only[Zf,Bool.and_eq_true]
    rw[ih x]
    simp only[List.pairwise_cons,List.mem_cons,forall_eq_or_imp]
    constructor
    · rintro⟨⟨h1,L⟩,O,Z,J⟩
      exact⟨⟨h1,O⟩,⟨L,fun y hy=>W8 L (Z y hy)⟩,Z,J⟩
    · rintro⟨⟨h1,O⟩,⟨L,_⟩,Z,J⟩
      exact⟨⟨h1,L⟩,O,Z,J⟩
theorem V8 (may:S86→Bool) (l:List S86):Zf may ltI none l=true↔((∀ x ∈ l,may x=true)∧l.Pairwise (fun x y=>ltI x y=true)):=by
  cases l with
  |nil=>simp[Zf]
  |cons x l=>
    simp only[Zf,Bool.and_eq_true]
    rw[V7]
    simp only[List.mem_cons,forall_eq_or_imp]
    constructor
    · rintro⟨h1,L,O⟩
      exact⟨⟨h1,L⟩,O⟩
    · rintro⟨⟨h1,L⟩,O⟩
      exact⟨h1,L,O⟩
end Go.Proofs.Ytmfffemidlhcpaa.Call
namespace Go.Proofs.Ytmfffemidlhcpaa.C
open Go.RowKit Go.Proofs.YtmfffemidlhcpaaW.PrintWords Go.Proofs.YtmfffemidlhcpaaW.PrintLast Go.Proofs.YtmfffemidlhcpaaW.PrintMore
attribute [local go_sem] Zx Zv Z8 Z7 Zl Zk Zw Zu
set_option linter.unusedVariables false
set_option linter.unusedSimpArgs false
theorem eqA36 (d:Nat) (w:World) (B L:Int) (J O:Int) (Y X:Int):
  (Op.equalIn (d+2) 36 (.agg #[.int .i64 B,.int .i64 J,.int .i64 Y]) (.agg #[.int .i64 L,.int .i64 O,.int .i64 X])).run Try.prog w = .ok (B==L&&(J==O&&(Y==X))) w:=by
 refine Ma Try.underlying36 kr ?_
 refine Ge (by rfl) (by go_simp;rfl) (by go_simp;rfl) (by go_simp) ?_
 refine Ge (by rfl) (by go_simp;rfl) (by go_simp;rfl) (by go_simp) ?_
 exact Uk (by rfl) (by go_simp;rfl) (by go_simp;rfl) (by go_simp)
theorem eqA86 (d:Nat) (w:World) (B L:Int) (J O:Int):
  (Op.equalIn (d+2) 86 (.agg #[.int .i64 B,.int .i64 J]) (.agg #[.int .i64 L,.int .i64 O])).run Try.prog w = .ok (B==L&&(J==O)) w:=by
 refine Ma Try.underlying86 kr ?_
 refine Ge (by rfl) (by go_simp;rfl) (by go_simp;rfl) (by go_simp) ?_
 exact Uk (by rfl) (by go_simp;rfl) (by go_simp;rfl) (by go_simp)
def group_house.f (J:Int) (B:Int) (L:Int) (O:Int) (X:Int) (δ :Int) (γ:Int) (θ :Int) (η :Int) (ζ :Int) (l1:List (S31)):Option (Int×Int):=some (J,(l1.length:Int))
set_option maxHeartbeats 8000000 in
set_option maxRecDepth 100000 in
theorem group_house.calls (J:Int) (B:Int) (L:Int) (O:Int) (X:Int) (δ :Int) (γ:Int) (θ :Int) (η :Int) (ζ :Int) (A1:Option Addr) (c1:Nat) (l1:List (S31)) (r1:Int) (r2:Int) (w:World) (dt:Kd.C k31 w A1 l1.length l1) (dl:l1.length≤c1) (h:group_house.f J B L O X δ γ θ η ζ l1=some (r1,r2)):
  Calls Try.prog 37 #[.agg #[.int .i64 J,.int .i64 B,.int .i64 L,.int .i64 O,.int .i64 X,.int .i64 δ,.int .i64 γ,.int .i64 θ,.int .i64 η,.int .i64 ζ],.slice A1 l1.length c1] w fun e w'=>e = .returned (.agg #[.int .i64 r1,.int .i64 r2])∧Below w.heap.size w w':=by
 have db:=Try.underlying25
 have dr:=Try.underlying59
 have de:=Aside0.mk dt
 have dw:=Aside0.mk dl
 clear dt dl
 have HB:=Aside0.mk (Below.refl w.heap.size w)
 have H:(some (J,(l1.length:Int)))=some (r1,r2):=h
 clear h
 simp only[Option.some.injEq,Prod.mk.injEq] at H
 obtain⟨rfl,rfl⟩:=H
 go_enter Try.func37,Try.ntmps37
 go_wp2_with (first|((with_reducible refine Qe (N:=2) rfl ?_);refine Zg ?hg (N:=2) ?hd (cs:=#[.int .i64 J,.int .i64 B,.int .i64 L,.int .i64 O,.int .i64 X,.int .i64 δ,.int .i64 γ,.int .i64 θ,.int .i64 η,.int .i64 ζ]) (t:=25) ?hr ?_;(case hd=>rfl);(case hg=>rfl);(case hr=>first|(go_simp;done)|(go_simp;rfl));intro Y hg w3 hbox hb;have ξ :=Aside0.mk (Qx (by repeat(first|(with_reducible first|exact HB.out|apply Qo|apply Qi|apply Qf)|exact HB.out)) hb);have φ :=Aside0.mk (hbox);have ω :=Aside0.mk ((by rw[hg];exact(Qr (by repeat(first|(with_reducible first|exact HB.out|apply Qo|apply Qi|apply Qf)|exact HB.out))):w.heap.size≤Y));have a7:=Aside0.mk ((by rw[hg];exact(Qr (by repeat(first|(with_reducible first|exact HB.out|apply Qo|apply Qi|apply Qf)|exact HB.out))):w.heap.size≤Y));clear HB;have HB:= ξ;have Z:= φ;have aj:= ω;have ι :=a7;clear ξ φ ω a7;clear hb hbox hg)|((with_reducible refine Qe (N:=4) rfl ?_);refine Zg ?hg (N:=4) ?hd (cs:=#[.int .i64 0,.int .i64 0]) (t:=59) ?hr ?_;(case hd=>rfl);(case hg=>rfl);(case hr=>first|(go_simp;done)|(go_simp;rfl));intro ε hg w4 hbox hb;have ξ :=Aside0.mk (Qs (g:=Y) (o:=.cells #[.int .i64 J,.int .i64 B,.int .i64 L,.int .i64 O,.int .i64 X,.int .i64 δ,.int .i64 γ,.int .i64 θ,.int .i64 η,.int .i64 ζ] 25 (0,0)) (by(with_reducible repeat first|refine Qj ?_ _|refine Qd ?_|refine Qk ?_ _);exact Z.out) hb);have φ :=Aside0.mk (Qx (by repeat(first|(with_reducible first|exact HB.out|apply Qo|apply Qi|apply Qf|refine Qp ?_ ι.out)|exact HB.out)) hb);have ω :=Aside0.mk (hbox);have a7:=Aside0.mk ((by rw[hg];exact(Qr (by repeat(first|(with_reducible first|exact HB.out|apply Qo|apply Qi|apply Qf|refine Qp ?_ ι.out)|exact HB.out))):w.heap.size ≤ ε));have ah:=Aside0.mk ((by rw[hg];exact(Qr (by repeat(first|(with_reducible first|exact HB.out|apply Qo|apply Qi|apply Qf|refine Qp ?_ ι.out)|exact HB.out))):w.heap.size ≤ ε));have ar:=Aside0.mk ((by rw[hg];exact Nat.ne_of_lt (Xd (g:=Y) (o:=.cells #[.int .i64 J,.int .i64 B,.int .i64 L,.int .i64 O,.int .i64 X,.int .i64 δ,.int .i64 γ,.int .i64 θ,.int .i64 η,.int .i64 ζ] 25 (0,0)) (by(with_reducible repeat first|refine Qj ?_ _|refine Qd ?_|refine Qk ?_ _);exact Z.out)):Y ≠ ε));have b2:=Aside0.mk ((by rw[hg];exact Nat.ne_of_gt (Xd (g:=Y) (o:=.cells #[.int .i64 J,.int .i64 B,.int .i64 L,.int .i64 O,.int .i64 X,.int .i64 δ,.int .i64 γ,.int .i64 θ,.int .i64 η,.int .i64 ζ] 25 (0,0)) (by(with_reducible repeat first|refine Qj ?_ _|refine Qd ?_|refine Qk ?_ _);exact Z.out)): ε ≠ Y));clear Z;clear HB;have Z:= ξ;have HB:= φ;have ν := ω;have ak:=a7;have ρ:=ah;have κ :=ar;have μ :=b2;clear ξ φ ω a7 ah ar b2;clear hb hbox hg;have al:= κ.out;have am:= μ.out;obtain⟨σ,τ,χ,ψ,a0,a1,a2,a3,a4,a5,a6,a8,a9,aa,ab,ac,ae,af,ag,ai⟩:=Za Z.out;obtain⟨au,av,az,b9⟩:=qD2 ν.out))
 refine bodyPost_ret (results_cell_row rfl _ _ ε 59 #[.int .i64 J,.int .i64 (l1.length:Int)] (0,0) _ rfl (by(with_reducible repeat first|refine Qj ?_ _|refine Qd ?_|refine Qk ?_ _);refine Qm (cs:=#[.int .i64 J,.int .i64 0]) ?_ 1 _ rfl;(with_reducible repeat first|refine Qj ?_ _|refine Qd ?_|refine Qk ?_ _);refine Qm (cs:=#[.int .i64 0,.int .i64 0]) ?_ 0 _ rfl;(with_reducible repeat first|refine Qj ?_ _|refine Qd ?_|refine Qk ?_ _);exact ν.out) Try.underlying59 rfl kr) rfl ?_
 exact⟨by first|rfl|(simp[Qh,Qg] <;> rfl)|(simp[*,Qh,Qg] <;> rfl),by repeat(first|(with_reducible first|exact HB.out|apply Qo|apply Qi|apply Qf|refine Qp ?_ ι.out|refine Qp ?_ ρ.out)|exact HB.out)⟩
def newellaw17_Plain.f:Option (Int×Int×Int×Int×Int×Int×Int×Int×Int×Int):=some (4,2,1,2,4,1,2,3,4,0)
set_option maxHeartbeats 8000000 in
set_option maxRecDepth 100000 in
theorem newellaw17_Plain.calls  (r1:Int) (r2:Int) (r3:Int) (r4:Int) (J:Int) (L:Int) (O:Int) (X:Int) (Y:Int) (B:Int) (w:World) (h:newellaw17_Plain.f=some (r1,r2,r3,r4,J,L,O,X,Y,B)):
  Calls Try.prog 27 #[] w fun e w'=>e = .returned (.agg #[.int .i64 r1,.int .i64 r2,.int .i64 r3,.int .i64 r4,.int .i64 J,.int .i64 L,.int .i64 O,.int .i64 X,.int .i64 Y,.int .i64 B])∧Below w.heap.size w w':=by
 have db:=Try.underlying25
 have g7:=Try.underlying23
 have HB:=Aside0.mk (Below.refl w.heap.size w)
 have H:(some (4,2,1,2,4,1,2,3,4,0))=some (r1,r2,r3,r4,J,L,O,X,Y,B):=h
 clear h
 simp only[Option.some.injEq,Prod.mk.injEq] at H
 obtain⟨rfl,rfl,rfl,rfl,rfl,rfl,rfl,rfl,rfl,rfl⟩:=H
 go_enter Try.func27,Try.ntmps27
 go_wp2_with (first|((with_reducible refine Qe (N:=0) rfl ?_);refine Zg ?hg (N:=0) ?hd (cs:=#[.int .i64 0,.int .i64 0,.int .i64 0,.int .i64 0,.int .i64 0,.int .i64 0,.int .i64 0,.int .i64 0,.int .i64 0,.int .i64 0]) (t:=25) ?hr ?_;(case hd=>rfl);(case hg=>rfl);(case hr=>first|(go_simp;done)|(go_simp;rfl));intro a1 hg w1 hbox hb;have ξ :=Aside0.mk (Qx (by repeat(first|(with_reducible first|exact HB.out|apply Qo|apply Qi|apply Qf)|exact HB.out)) hb);have φ :=Aside0.mk (hbox);have ω :=Aside0.mk ((by rw[hg];exact(Qr (by repeat(first|(with_reducible first|exact HB.out|apply Qo|apply Qi|apply Qf)|exact HB.out))):w.heap.size≤a1));have a7:=Aside0.mk ((by rw[hg];exact(Qr (by repeat(first|(with_reducible first|exact HB.out|apply Qo|apply Qi|apply Qf)|exact HB.out))):w.heap.size≤a1));clear HB;have HB:= ξ;have Z:= φ;have ki:= ω;have iz:=a7;clear ξ φ ω a7;clear hb hbox hg;obtain⟨γ,δ,ε,ζ,η,θ,ι,κ,μ,ν,ρ,σ,τ,χ,ψ,a0,a2,a3,a4,a5⟩:=Za Z.out))
 refine bodyPost_ret (results_cell_row rfl _ _ a1 25 #[.int .i64 4,.int .i64 2,.int .i64 1,.int .i64 2,.int .i64 4,.int .i64 1,.int .i64 2,.int .i64 3,.int .i64 4,.int .i64 0] (0,0) _ rfl (by(with_reducible repeat first|refine Qj ?_ _|refine Qd ?_|refine Qk ?_ _);refine Qm (cs:=#[.int .i64 4,.int .i64 2,.int .i64 1,.int .i64 2,.int .i64 4,.int .i64 1,.int .i64 2,.int .i64 3,.int .i64 4,.int .i64 0]) ?_ 9 _ rfl;(with_reducible repeat first|refine Qj ?_ _|refine Qd ?_|refine Qk ?_ _);refine Qm (cs:=#[.int .i64 4,.int .i64 2,.int .i64 1,.int .i64 2,.int .i64 4,.int .i64 1,.int .i64 2,.int .i64 3,.int .i64 0,.int .i64 0]) ?_ 8 _ rfl;(with_reducible repeat first|refine Qj ?_ _|refine Qd ?_|refine Qk ?_ _);refine Qm (cs:=#[.int .i64 4,.int .i64 2,.int .i64 1,.int .i64 2,.int .i64 4,.int .i64 1,.int .i64 2,.int .i64 0,.int .i64 0,.int .i64 0]) ?_ 7 _ rfl;(with_reducible repeat first|refine Qj ?_ _|refine Qd ?_|refine Qk ?_ _);refine Qm (cs:=#[.int .i64 4,.int .i64 2,.int .i64 1,.int .i64 2,.int .i64 4,.int .i64 1,.int .i64 0,.int .i64 0,.int .i64 0,.int .i64 0]) ?_ 6 _ rfl;(with_reducible repeat first|refine Qj ?_ _|refine Qd ?_|refine Qk ?_ _);refine Qm (cs:=#[.int .i64 4,.int .i64 2,.int .i64 1,.int .i64 2,.int .i64 4,.int .i64 0,.int .i64 0,.int .i64 0,.int .i64 0,.int .i64 0]) ?_ 5 _ rfl;(with_reducible repeat first|refine Qj ?_ _|refine Qd ?_|refine Qk ?_ _);refine Qm (cs:=#[.int .i64 4,.int .i64 2,.int .i64 1,.int .i64 2,.int .i64 0,.int .i64 0,.int .i64 0,.int .i64 0,.int .i64 0,.int .i64 0]) ?_ 4 _ rfl;(with_reducible repeat first|refine Qj ?_ _|refine Qd ?_|refine Qk ?_ _);refine Qm (cs:=#[.int .i64 4,.int .i64 2,.int .i64 1,.int .i64 0,.int .i64 0,.int .i64 0,.int .i64 0,.int .i64 0,.int .i64 0,.int .i64 0]) ?_ 3 _ rfl;(with_reducible repeat first|refine Qj ?_ _|refine Qd ?_|refine Qk ?_ _);refine Qm (cs:=#[.int .i64 4,.int .i64 2,.int .i64 0,.int .i64 0,.int .i64 0,.int .i64 0,.int .i64 0,.int .i64 0,.int .i64 0,.int .i64 0]) ?_ 2 _ rfl;(with_reducible repeat first|refine Qj ?_ _|refine Qd ?_|refine Qk ?_ _);refine Qm (cs:=#[.int .i64 4,.int .i64 0,.int .i64 0,.int .i64 0,.int .i64 0,.int .i64 0,.int .i64 0,.int .i64 0,.int .i64 0,.int .i64 0]) ?_ 1 _ rfl;(with_reducible repeat first|refine Qj ?_ _|refine Qd ?_|refine Qk ?_ _);refine Qm (cs:=#[.int .i64 0,.int .i64 0,.int .i64 0,.int .i64 0,.int .i64 0,.int .i64 0,.int .i64 0,.int .i64 0,.int .i64 0,.int .i64 0]) ?_ 0 _ rfl;(with_reducible repeat first|refine Qj ?_ _|refine Qd ?_|refine Qk ?_ _);exact Z.out) Try.underlying25 rfl kr) rfl ?_
 exact⟨by first|rfl|(simp[Qh,Qg] <;> rfl)|(simp[*,Qh,Qg] <;> rfl),by repeat(first|(with_reducible first|exact HB.out|apply Qo|apply Qi|apply Qf|refine Qp ?_ iz.out)|exact HB.out)⟩
end Go.Proofs.Ytmfffemidlhcpaa.C
