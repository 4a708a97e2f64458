/- Texts of this claim, one behind the other: what the law's functions come to, walked (printed by a program, with the words that the print uses), and what that is, in plain Lean. No conditions of their own. -/
import Derived.Test.YtjehhhlhalkieaaQCallPresses4
namespace Go.Proofs.Ytjehhhlhalkieaa.C
open Go.RowKit Go.Proofs.YtjehhhlhalkieaaW.PrintWords Go.Proofs.YtjehhhlhalkieaaW.PrintLast Go.Proofs.YtjehhhlhalkieaaW.PrintMore
attribute [local go_sem] Z4 Z2 Xe Xd Zx Zw Z3 Z1
set_option linter.unusedVariables false
set_option linter.unusedSimpArgs false
def newelref19_withHall.l0:Nat→List (S56)→List (S56)→Bool→Int→Int→Int→Int→Option ((List (S56)))
 |0,_,_,_,_,_,_,_=>none
 |k+1,D,I,L,B,O,J,U=>if B<(D.length:Int) then (if 0≤B then (if ((Qa D B).f0)=O then ((newelref19_ahead.f O J U ((Qa D B).f0) ((Qa D B).f1) ((Qa D B).f2)).bind fun ap=>(if L=true then (if I.length<5864062014805 then (newelref19_withHall.l0 k D (I ++ [(⟨(Qa D B).f0,(Qa D B).f1,(Qa D B).f2⟩:S56)]) true (wrap64 (B+1)) O J U) else (none)) else (if ap=true then (if I.length<5864062014805 then ((some (I ++ [(⟨O,J,U⟩:S56)]:List (S56))).bind fun a8=>(if ((Qa D B).f1)=J then (if a8.length<5864062014805 then (newelref19_withHall.l0 k D (a8 ++ [(⟨(Qa D B).f0,(Qa D B).f1,(Qa D B).f2⟩:S56)]) true (wrap64 (B+1)) O J U) else (none)) else (if a8.length<5864062014805 then (newelref19_withHall.l0 k D (a8 ++ [(⟨(Qa D B).f0,(Qa D B).f1,(Qa D B).f2⟩:S56)]) ap (wrap64 (B+1)) O J U) else (none)))) else (none)) else (if ((Qa D B).f1)=J then (if I.length<5864062014805 then (newelref19_withHall.l0 k D (I ++ [(⟨(Qa D B).f0,(Qa D B).f1,(Qa D B).f2⟩:S56)]) true (wrap64 (B+1)) O J U) else (none)) else (if I.length<5864062014805 then (newelref19_withHall.l0 k D (I ++ [(⟨(Qa D B).f0,(Qa D B).f1,(Qa D B).f2⟩:S56)]) ap (wrap64 (B+1)) O J U) else (none)))))) else ((newelref19_ahead.f O J U ((Qa D B).f0) ((Qa D B).f1) ((Qa D B).f2)).bind fun au=>(if L=true then (if I.length<5864062014805 then (newelref19_withHall.l0 k D (I ++ [(⟨(Qa D B).f0,(Qa D B).f1,(Qa D B).f2⟩:S56)]) true (wrap64 (B+1)) O J U) else (none)) else (if au=true then (if I.length<5864062014805 then ((some (I ++ [(⟨O,J,U⟩:S56)]:List (S56))).bind fun am=>(if am.length<5864062014805 then (newelref19_withHall.l0 k D (am ++ [(⟨(Qa D B).f0,(Qa D B).f1,(Qa D B).f2⟩:S56)]) au (wrap64 (B+1)) O J U) else (none))) else (none)) else (if I.length<5864062014805 then (newelref19_withHall.l0 k D (I ++ [(⟨(Qa D B).f0,(Qa D B).f1,(Qa D B).f2⟩:S56)]) au (wrap64 (B+1)) O J U) else (none)))))) else (none)) else (if L=true then (some I) else (if I.length<5864062014805 then (some (I ++ [(⟨O,J,U⟩:S56)])) else (none)))
def newelref19_withHall.f (k:Nat) (l0:List (S56)) (I:Int) (L:Int) (X:Int):Option ((List (S56))):=newelref19_withHall.l0 k l0 ([]:List (S56)) false 0 I L X
theorem newelref19_withHall.Zn:∀ k,(∀ I L U D J X Y,LeO (newelref19_withHall.l0 k I L U D J X Y) (newelref19_withHall.l0 (k+1) I L U D J X Y))
 |0=>fun _ _ _ _ _ _ _ r h=>by simp[newelref19_withHall.l0] at h
 |k+1=>by
  have B:=newelref19_withHall.Zn k
  ·intro I L U D J X Y
   unfold newelref19_withHall.l0
   repeat' first
   |(with_reducible exact B _ _ _ _ _ _ _)
   |(with_reducible exact LeO.refl _)
   |(with_reducible exact LeO.none _)
   |(with_reducible refine LeO.ite ?_ ?_)
   |(with_reducible refine LeO.bind ?_ (fun _=>?_))
   |exact B _ _ _ _ _ _ _
   |exact LeO.none _
   |refine LeO.ite ?_ ?_
   |refine LeO.bind ?_ (fun _=>?_)
theorem newelref19_withHall.mono:∀ D L a2 X k,LeO (newelref19_withHall.f k D L a2 X) (newelref19_withHall.f (k+1) D L a2 X):=by
 intro D L a2 X k
 have B:=newelref19_withHall.Zn k
 unfold newelref19_withHall.f
 repeat' first
   |(with_reducible exact B _ _ _ _ _ _ _)
   |(with_reducible exact LeO.refl _)
   |(with_reducible exact LeO.none _)
   |(with_reducible refine LeO.ite ?_ ?_)
   |(with_reducible refine LeO.bind ?_ (fun _=>?_))
   |exact B _ _ _ _ _ _ _
   |exact LeO.none _
   |refine LeO.ite ?_ ?_
   |refine LeO.bind ?_ (fun _=>?_)
def newelref19_withHall.T6:Bool×List (List Nat×List Nat):=(true,[([],[]),([],[]),([0,1],[0,1]),([2],[2]),([3],[3]),([],[]),([5],[5]),([4,6],[4,6]),([7],[7]),([8],[8]),([8],[8]),([9,10,8],[8,9,10]),([11,8],[8,11]),([12,8],[8,12]),([8],[8]),([14,8],[8,14]),([13,15,8],[8,13,15]),([8,16],[8,16]),([17,8,0,1,2,3,4,5,6,7,8,9,10,11,12,13,14,15,16,17],[17])])
def newelref19_withHall.B6:List Nat:=[0,0,3,7,15,0,32,127,255,511,511,2047,4095,8191,511,16895,65535,131071,262143]
theorem newelref19_withHall.K8:rtab .any (opsOf Try.f45 6)=newelref19_withHall.T6:=by kernel_rfl
theorem newelref19_withHall.Jt:Zv newelref19_withHall.T6.2 newelref19_withHall.B6=true:=by kernel_rfl
set_option maxHeartbeats 8000000 in
set_option maxRecDepth 100000 in
theorem newelref19_withHall.calls (k:Nat) (A0:Option Addr) (c0:Nat) (l0:List (S56)) (I:Int) (L:Int) (X:Int) (r:List (S56)) (w:World) (aa:Kd.C k56 w A0 l0.length l0) (a9:l0.length≤c0) (h:newelref19_withHall.f k l0 I L X=some r):
  Calls Try.prog 45 #[.slice A0 l0.length c0,.agg #[.int .i64 I,.int .i64 L,.int .i64 X]] w fun e w'=>∃ ω :Value,e = .returned (ω)∧Kd.R k56 56 w' w.heap.size (fun _=>True) ω r∧Below w.heap.size w w':=by
 have ay:=Try.underlying56
 have ν :=Aside0.mk aa
 have cn:=Aside0.mk a9
 clear aa a9
 have HB:=Aside0.mk (Below.refl w.heap.size w)
 have H:(newelref19_withHall.l0 k l0 ([]:List (S56)) false 0 I L X)=some r:=h
 clear h
 have H':=Aside0.mk H
 clear H
 go_enter Try.func45,Try.ntmps45
 go_wp2_with (first|((with_reducible refine Qp (N:=3) rfl ?_);refine qE 3 #[.int .i64 I,.int .i64 L,.int .i64 X] 56 ?_;intro Y hg w3 hbox hb;have J:=Aside0.mk hbox;have gy:=sGe hg;have h0:=sGe hg;replace HB:=sHb hb;clear hb hbox hg))
 go_loopg [5,6,7] k (fun kq v5 v6 v7 w'=>∃ (D:List (S56)) (U:Bool) (B:Int),v6 = .bool U∧v7 = .int .i64 B∧Aside0 (newelref19_withHall.l0 kq l0 D U B I L X=some r)∧Aside0 (kq≤k)∧Aside0 (Kd.R k56 56 w' w.heap.size (fun k_=>k_≠Y) v5 D)∧Aside0 (w'.heap[Y]?=some (.cells #[.int .i64 I,.int .i64 L,.int .i64 X] 56 (0,0)))∧Aside0 (Below w.heap.size w w'))
 case atStart=>exact⟨(([]:List (S56))),(false),(0),rfl,rfl,H',⟨Nat.le_refl _⟩,⟨by first|exact Kd.Yj _ _ _ _ _|exact Kd.Jf _ _ _ _ _|exact Kd.Jc _ _ _ _ _|exact Kd.Je _ _ _ _ _|exact Kd.Jd _ _ _ _ _⟩,J,HB⟩
 case round=>
  clear H'
  try clear p2
  obtain⟨D,U,B,rfl,rfl,HA,ξ,HO_5,J,HB⟩:=hrel
  cases gk with
  |zero=>exact absurd HA.out (by simp[newelref19_withHall.l0])
  |succ k1=>
   have H:=HA.out
   clear HA
   simp only[newelref19_withHall.l0] at H
   by_cases c4:B<(l0.length:Int)
   ·rw[if_pos c4] at H
    have c4b0:decide (B<(l0.length:Int))=true:=decide_eq_true c4
    clear c4
    by_cases c5:0≤B
    ·rw[if_pos c5] at H
     have c5b0:decide (0≤B)=true:=decide_eq_true c5
     clear c5
     by_cases c6:((Qa l0 B).f0)=I
     ·rw[if_pos c6] at H
      have c6b0:(((Qa l0 B).f0)==I)=true:=beq_iff_eq.mpr c6
      have c6b1:(((Qa l0 B).f0) != I)=false:=bne_eq_false_iff_eq.mpr c6
      clear c6
      replace H:=Option.bind_eq_some_iff.mp H
      obtain⟨ap,en,H⟩:=H
      replace H:(if U=true then (if D.length<5864062014805 then (newelref19_withHall.l0 k1 l0 (D ++ [(⟨(Qa l0 B).f0,(Qa l0 B).f1,(Qa l0 B).f2⟩:S56)]) true (wrap64 (B+1)) I L X) else (none)) else (if ap=true then (if D.length<5864062014805 then ((some (D ++ [(⟨I,L,X⟩:S56)]:List (S56))).bind fun a8=>(if ((Qa l0 B).f1)=L then (if a8.length<5864062014805 then (newelref19_withHall.l0 k1 l0 (a8 ++ [(⟨(Qa l0 B).f0,(Qa l0 B).f1,(Qa l0 B).f2⟩:S56)]) true (wrap64 (B+1)) I L X) else (none)) else (if a8.length<5864062014805 then (newelref19_withHall.l0 k1 l0 (a8 ++ [(⟨(Qa l0 B).f0,(Qa l0 B).f1,(Qa l0 B).f2⟩:S56)]) ap (wrap64 (B+1)) I L X) else (none)))) else (none)) else (if ((Qa l0 B).f1)=L then (if D.length<5864062014805 then (newelref19_withHall.l0 k1 l0 (D ++ [(⟨(Qa l0 B).f0,(Qa l0 B).f1,(Qa l0 B).f2⟩:S56)]) true (wrap64 (B+1)) I L X) else (none)) else (if D.length<5864062014805 then (newelref19_withHall.l0 k1 l0 (D ++ [(⟨(Qa l0 B).f0,(Qa l0 B).f1,(Qa l0 B).f2⟩:S56)]) ap (wrap64 (B+1)) I L X) else (none)))))=some r:=H
      have A7:=Aside0.mk en
      clear en
      by_cases c8:U=true
      ·subst c8
       have H1:(if D.length<5864062014805 then (newelref19_withHall.l0 k1 l0 (D ++ [(⟨(Qa l0 B).f0,(Qa l0 B).f1,(Qa l0 B).f2⟩:S56)]) true (wrap64 (B+1)) I L X) else (none))=some r:=by rw[if_pos rfl] at H;exact H
       clear H
       have H:=H1
       clear H1
       by_cases c9:D.length<5864062014805
       ·rw[if_pos c9] at H
        have g5:=Aside0.mk c9
        clear c9
        obtain⟨e8,b4⟩:∃ y_:List (S56),y_=(D ++ [(⟨(Qa l0 B).f0,(Qa l0 B).f1,(Qa l0 B).f2⟩:S56)]):=⟨_,rfl⟩
        replace H:(newelref19_withHall.l0 k1 l0 e8 true (wrap64 (B+1)) I L X)=some r:=by first|(rw[b4];with_reducible exact H)|(have δ :=(Option.bind_some _ _).symm.trans H;rw[b4];with_reducible exact δ)|(have δ :=(Option.bind_some _ _).symm.trans H;with_reducible exact δ)|with_reducible exact H|(rw[b4];exact H)|exact H
        have ek:=Aside0.mk b4
        clear b4
        have H':=Aside0.mk H
        clear H
        try go_wp2
        replace HO_5:=Aside0.mk (Kd.Qn HO_5.out)
        replace J:=Aside0.mk (Qb J.out)
        replace HB:=Aside0.mk (Qe HB.out)
        have a1:0≤(B:Int):=of_decide_eq_true (by assumption)
        have a2:B<(l0.length:Int):=of_decide_eq_true (by assumption)
        obtain⟨O,ao,Z,γ,ε⟩:=Zo ν.out B a1 a2
        have φ := ε
        have χ :=γ
        have ψ :=Z
        cases ao
        replace Z:=(HB.out.cell (World.block_lt_of_cell? w _ Z)).trans Z
        replace γ:=(HB.out.cell (World.block_lt_of_cell? w _ γ)).trans γ
        replace ε :=(HB.out.cell (World.block_lt_of_cell? w _ ε)).trans ε
        replace a1:=eq_true a1
        replace a2:=eq_true a2
        have ai:0≤(B:Int):=of_decide_eq_true (by assumption)
        have aj:B<(l0.length:Int):=of_decide_eq_true (by assumption)
        obtain⟨av,b1,ζ,η,θ⟩:=Zo ν.out B ai aj
        have ab:= θ
        have ac:= η
        have ae:= ζ
        obtain rfl:O=av:=(by injection b1)
        replace ζ :=(HB.out.cell (World.block_lt_of_cell? w _ ζ)).trans ζ
        replace η :=(HB.out.cell (World.block_lt_of_cell? w _ η)).trans η
        replace θ :=(HB.out.cell (World.block_lt_of_cell? w _ θ)).trans θ
        replace ai:=eq_true ai
        replace aj:=eq_true aj
        refine Ze (n:=19) (S:=fun w'=>w'.cell? ⟨Y,0,none⟩=some (.int .i64 I)∧w'.cell? ⟨Y,1,none⟩=some (.int .i64 L)∧w'.cell? ⟨Y,2,none⟩=some (.int .i64 X)∧w'.cell? (O.add ((B).toNat * 3))=some (.int .i64 ((Qa l0 B).f0))∧w'.cell? ⟨(O.add ((B).toNat * 3)).block,(O.add ((B).toNat * 3)).off+1,none⟩=some (.int .i64 ((Qa l0 B).f1))∧w'.cell? ⟨(O.add ((B).toNat * 3)).block,(O.add ((B).toNat * 3)).off+2,none⟩=some (.int .i64 ((Qa l0 B).f2))∧w'.cell? (O.add ((B).toNat * 3))=some (.int .i64 ((Qa l0 B).f0))∧w'.cell? ⟨(O.add ((B).toNat * 3)).block,(O.add ((B).toNat * 3)).off+1,none⟩=some (.int .i64 ((Qa l0 B).f1))∧w'.cell? ⟨(O.add ((B).toNat * 3)).block,(O.add ((B).toNat * 3)).off+2,none⟩=some (.int .i64 ((Qa l0 B).f2))) (ds:=[]) #[false,false,false,false,false,false,false,false,false,false,false,false,false,false,false,false,false,false,false] kr rfl rfl ⟨(Qi J.out 0).trans rfl,(Qi J.out 1).trans rfl,(Qi J.out 2).trans rfl,((HB.out.cell (World.block_lt_of_cell? w _ ψ)).trans ψ),((HB.out.cell (World.block_lt_of_cell? w _ χ)).trans χ),((HB.out.cell (World.block_lt_of_cell? w _ φ)).trans φ),((HB.out.cell (World.block_lt_of_cell? w _ ae)).trans ae),((HB.out.cell (World.block_lt_of_cell? w _ ac)).trans ac),((HB.out.cell (World.block_lt_of_cell? w _ ab)).trans ab)⟩ (fun hHeld=>?_);refine Q4 newelref19_withHall.K8 newelref19_withHall.Jt (fun HT_ HW_=>?_)
        generalize wr.drew=cu at HO_5 J HB Z γ ε ζ η θ hHeld ⊢
        refine qP 0 (some 16) (bN 19 1) HT_ ?_
        refine qP 1 (some 17) (bN 19 3) HT_ ?_
        refine qP 2 (some 18) (bN 19 7) HT_ ?_
        refine qP 3 (some 19) (bN 19 15) HT_ ?_
        refine qP 5 (some 21) (bN 19 47) HT_ ?_
        refine qT 4 (some 20) (bN 19 63) HT_ HW_ hHeld ?_
        refine qT 6 (some 22) (bN 19 127) HT_ HW_ hHeld ?_
        refine qP 7 (some 23) (bN 19 255) HT_ ?_
        refine qP 8 (some 24) (bN 19 511) HT_ ?_
        refine qP 9 (some 25) (bN 19 1023) HT_ ?_
        refine qP 10 (some 26) (bN 19 2047) HT_ ?_
        refine qP 11 (some 27) (bN 19 4095) HT_ ?_
        refine qP 12 (some 28) (bN 19 8191) HT_ ?_
        refine qP 14 (some 30) (bN 19 24575) HT_ ?_
        refine qT 13 (some 29) (bN 19 32767) HT_ HW_ hHeld ?_
        refine qT 15 (some 31) (bN 19 65535) HT_ HW_ hHeld ?_
        refine qP 16 (some 32) (bN 19 131071) HT_ ?_
        refine qP 17 (some 33) (bN 19 262143) HT_ ?_
        refine qP 18 (some 8) (bN 19 524287) HT_ ?_
        refine Zq (Zd HT_.out kr) ?_
        try go_wp2
        replace HO_5:=Aside0.mk (Kd.Qn HO_5.out)
        replace J:=Aside0.mk (Qb J.out)
        replace HB:=Aside0.mk (Qe HB.out)
        have ak:0≤(B:Int):=of_decide_eq_true (by assumption)
        have al:B<(l0.length:Int):=of_decide_eq_true (by assumption)
        obtain⟨aw,b2,ι,κ,μ⟩:=Zo ν.out B ak al
        have ρ:= μ
        have σ:= κ
        have τ := ι
        obtain rfl:O=aw:=(by injection b2)
        replace ι :=(HB.out.cell (World.block_lt_of_cell? w _ ι)).trans ι
        replace κ :=(HB.out.cell (World.block_lt_of_cell? w _ κ)).trans κ
        replace μ :=(HB.out.cell (World.block_lt_of_cell? w _ μ)).trans μ
        replace ak:=eq_true ak
        replace al:=eq_true al
        refine Ze (n:=7) (S:=fun w'=>w'.cell? ⟨Y,0,none⟩=some (.int .i64 I)∧w'.cell? ⟨Y,1,none⟩=some (.int .i64 L)∧w'.cell? ⟨Y,2,none⟩=some (.int .i64 X)∧w'.cell? (O.add ((B).toNat * 3))=some (.int .i64 ((Qa l0 B).f0))∧w'.cell? ⟨(O.add ((B).toNat * 3)).block,(O.add ((B).toNat * 3)).off+1,none⟩=some (.int .i64 ((Qa l0 B).f1))∧w'.cell? ⟨(O.add ((B).toNat * 3)).block,(O.add ((B).toNat * 3)).off+2,none⟩=some (.int .i64 ((Qa l0 B).f2))) (ds:=[]) #[false,false,false,false,false,false,false] kr rfl rfl ⟨(Qi J.out 0).trans rfl,(Qi J.out 1).trans rfl,(Qi J.out 2).trans rfl,((HB.out.cell (World.block_lt_of_cell? w _ τ)).trans τ),((HB.out.cell (World.block_lt_of_cell? w _ σ)).trans σ),((HB.out.cell (World.block_lt_of_cell? w _ ρ)).trans ρ)⟩ (fun hHeld=>?_)
        generalize cu.drew=dm at HO_5 J HB ι κ μ hHeld ⊢
        refine Zy (i:=1) (N:=some 35) (v:=?_) (a':=?_) (bN 7 2) rfl rfl kr (fun _ _ _ h=>h) (Or.inl ⟨by rfl, ?_⟩) ?_ ?_
        rotate_left
        ·intro w'
         go_simp
         with_reducible rfl
        rotate_left
        ·simp only[Act.put,qS,Zg,Zj]
         rfl
        refine Zy (i:=2) (N:=some 36) (v:=?_) (a':=?_) (bN 7 6) rfl rfl kr (fun _ _ _ h=>h) (Or.inl ⟨by rfl, ?_⟩) ?_ ?_
        rotate_left
        ·intro w'
         go_simp
         with_reducible rfl
        rotate_left
        ·simp only[Act.put,qS,Zg,Zj]
         rfl
        refine Zy (i:=3) (N:=some 37) (v:=?_) (a':=?_) (bN 7 14) rfl rfl kr (fun _ _ _ h=>h) (Or.inl ⟨by rfl, ?_⟩) ?_ ?_
        rotate_left
        ·intro w'
         go_simp
         with_reducible rfl
        rotate_left
        ·simp only[Act.put,qS,Zg,Zj]
         rfl
        refine Xs (i:=0) (N:=some 34) (v:=?_) (a':=?_) (bN 7 15) rfl rfl kr (fun _ _ _ h=>h) (Or.inl ⟨by rfl, ?_⟩) hHeld ?_ ?_
        rotate_left
        ·rintro w' ⟨s0,s1,s2,s3,s4,s5⟩
         go_simp
         with_reducible rfl
        rotate_left
        ·simp only[Act.put,qS,Zg,Zj]
         rfl
        refine Xs (i:=4) (N:=some 38) (v:=?_) (a':=?_) (bN 7 31) rfl rfl kr (fun _ _ _ h=>h) (Or.inl ⟨by rfl, ?_⟩) hHeld ?_ ?_
        rotate_left
        ·rintro w' ⟨s0,s1,s2,s3,s4,s5⟩
         go_simp
         with_reducible rfl
        rotate_left
        ·simp only[Act.put,qS,Zg,Zj]
         rfl
        refine Zi (i:=5) (N:=some 39) (bN 7 63) rfl rfl kr (by decide) (fun K hK=>?_)
        refine Zc Try.func38 kr rfl #[.agg #[.int .i64 I,.int .i64 L,.int .i64 X],.agg #[.int .i64 ((Qa l0 B).f0),.int .i64 ((Qa l0 B).f1),.int .i64 ((Qa l0 B).f2)]] (by rfl) rfl rfl qM ?_
        with_reducible refine(newelref19_ahead.calls I L X ((Qa l0 B).f0) ((Qa l0 B).f1) ((Qa l0 B).f2) ap _ A7.out).mono ?_
        rintro e d2 ⟨rfl,hb⟩
        refine⟨_,rfl, ?_⟩
        replace HO_5:=sRb HO_5 hb
        replace J:=sBk J hb
        replace HB:=sHb hb
        (try clear hb)
        (try clear a0)
        (try clear hk)
        (try clear hi)
        refine hK.out _ _ ⟨qc J,qc J,qc J,((HB.out.cell (World.block_lt_of_cell? w _ τ)).trans τ),((HB.out.cell (World.block_lt_of_cell? w _ σ)).trans σ),((HB.out.cell (World.block_lt_of_cell? w _ ρ)).trans ρ)⟩ (fun hHeld=>?_)
        clear hK K
        refine qN (some 39) ?_
        refine Zy (i:=6) (N:=some 9) (v:=?_) (a':=?_) (bN 7 127) rfl rfl kr (fun _ _ _ h=>h) (Or.inl ⟨by rfl, ?_⟩) ?_ ?_
        rotate_left
        ·intro w'
         go_simp
         with_reducible rfl
        rotate_left
        ·simp only[Act.put,qS,Zg,Zj]
         rfl
        refine Zq kr ?_
        have cw:0≤(B:Int):=of_decide_eq_true (by assumption)
        have d5:B<(l0.length:Int):=of_decide_eq_true (by assumption)
        obtain⟨el,g6,bg,bh,bi⟩:=Zo ν.out B cw d5
        obtain rfl:O=el:=(by injection g6)
        replace bg:=(HB.out.cell (World.block_lt_of_cell? w _ bg)).trans bg
        replace bh:=(HB.out.cell (World.block_lt_of_cell? w _ bh)).trans bh
        replace bi:=(HB.out.cell (World.block_lt_of_cell? w _ bi)).trans bi
        replace cw:=eq_true cw
        replace d5:=eq_true d5
        try go_wp2_with (first|((with_reducible refine Zl (b:=.append) (xs:=#[.tmp 56,.tmp 61]) rfl ?_);at_builtin;refine Kd.Z5 k56 (w0:=w) w.heap.size rfl (.tmp 56) (.tmp 61) 24 56 (.agg #[(.int .i64 0),(.int .i64 0),(.int .i64 0)]) 24 rfl Try.underlying24 Xr rfl (by decide) (by omega) u5 D (⟨(Qa l0 B).f0,(Qa l0 B).f1,(Qa l0 B).f2⟩:S56) [.int .i64 ((Qa l0 B).f0),.int .i64 ((Qa l0 B).f1),.int .i64 ((Qa l0 B).f2)] (fun k_=>k_≠Y) (fun _=>False) rfl rfl ?aP (fun _ hk=>hk.elim) ?aF ?aO ?aB ?aS ?aL ?_;(case aP=>exact Xi _ _ _ (⟨(Qa l0 B).f0,(Qa l0 B).f1,(Qa l0 B).f2⟩:S56));(case aB=>exact HB.out);(case aF=>exact(fun k_ hk=>Kd.Xc (g:=Y) (o:=.cells #[.int .i64 I,.int .i64 L,.int .i64 X] 56 (0,0)) J.out k_ hk));(case aO=>exact HO_5.out);(case aS=>exact(Qj HB.out));(case aL=>have:=g5.out;omega);intro h4 eb ho hb hg hat;rw[← ek.out] at ho;have em:=Aside0.mk ho;replace J:=Aside0.mk (Q8 (g:=Y) (o:=.cells #[.int .i64 I,.int .i64 L,.int .i64 X] 56 (0,0)) J.out hg (Kd.Xk HO_5.out (fun _ hk=>hk)));replace HB:=Aside0.mk hb;clear HO_5;clear ho hb hg hat))
        go_roundg k1
        case measure=>have:= ξ.out;omega
        case rel=>exact⟨(e8),(true),(wrap64 (B+1)),rfl,rfl,H',⟨by have:= ξ.out;omega⟩,⟨by(with_reducible repeat first|apply Kd.Qm|apply Kd.Ql|apply Kd.Qn);exact em.out⟩,J,HB⟩
       ·rw[if_neg c9] at H
        exact absurd H (by simp)
      ·replace c8:=Bool.eq_false_iff.mpr c8
       subst c8
       have H1:(if ap=true then (if D.length<5864062014805 then ((some (D ++ [(⟨I,L,X⟩:S56)]:List (S56))).bind fun a8=>(if ((Qa l0 B).f1)=L then (if a8.length<5864062014805 then (newelref19_withHall.l0 k1 l0 (a8 ++ [(⟨(Qa l0 B).f0,(Qa l0 B).f1,(Qa l0 B).f2⟩:S56)]) true (wrap64 (B+1)) I L X) else (none)) else (if a8.length<5864062014805 then (newelref19_withHall.l0 k1 l0 (a8 ++ [(⟨(Qa l0 B).f0,(Qa l0 B).f1,(Qa l0 B).f2⟩:S56)]) ap (wrap64 (B+1)) I L X) else (none)))) else (none)) else (if ((Qa l0 B).f1)=L then (if D.length<5864062014805 then (newelref19_withHall.l0 k1 l0 (D ++ [(⟨(Qa l0 B).f0,(Qa l0 B).f1,(Qa l0 B).f2⟩:S56)]) true (wrap64 (B+1)) I L X) else (none)) else (if D.length<5864062014805 then (newelref19_withHall.l0 k1 l0 (D ++ [(⟨(Qa l0 B).f0,(Qa l0 B).f1,(Qa l0 B).f2⟩:S56)]) ap (wrap64 (B+1)) I L X) else (none))))=some r:=by rw[if_neg (show ¬ (false=true) by decide)] at H;exact H
       clear H
       have H:=H1
       clear H1
       by_cases az:ap=true
       ·subst az
        have H1:(if D.length<5864062014805 then ((some (D ++ [(⟨I,L,X⟩:S56)]:List (S56))).bind fun a8=>(if ((Qa l0 B).f1)=L then (if a8.length<5864062014805 then (newelref19_withHall.l0 k1 l0 (a8 ++ [(⟨(Qa l0 B).f0,(Qa l0 B).f1,(Qa l0 B).f2⟩:S56)]) true (wrap64 (B+1)) I L X) else (none)) else (if a8.length<5864062014805 then (newelref19_withHall.l0 k1 l0 (a8 ++ [(⟨(Qa l0 B).f0,(Qa l0 B).f1,(Qa l0 B).f2⟩:S56)]) true (wrap64 (B+1)) I L X) else (none)))) else (none))=some r:=by rw[if_pos rfl] at H;exact H
        clear H
        have H:=H1
        clear H1
        by_cases a4:D.length<5864062014805
        ·rw[if_pos a4] at H
         have ar:=Aside0.mk a4
         clear a4
         obtain⟨a8,b5⟩:∃ y_:List (S56),y_=(D ++ [(⟨I,L,X⟩:S56)]):=⟨_,rfl⟩
         replace H:(if ((Qa l0 B).f1)=L then (if a8.length<5864062014805 then (newelref19_withHall.l0 k1 l0 (a8 ++ [(⟨(Qa l0 B).f0,(Qa l0 B).f1,(Qa l0 B).f2⟩:S56)]) true (wrap64 (B+1)) I L X) else (none)) else (if a8.length<5864062014805 then (newelref19_withHall.l0 k1 l0 (a8 ++ [(⟨(Qa l0 B).f0,(Qa l0 B).f1,(Qa l0 B).f2⟩:S56)]) true (wrap64 (B+1)) I L X) else (none)))=some r:=by first|(rw[b5];with_reducible exact H)|(have δ :=(Option.bind_some _ _).symm.trans H;rw[b5];with_reducible exact δ)|(have δ :=(Option.bind_some _ _).symm.trans H;with_reducible exact δ)|with_reducible exact H|(rw[b5];exact H)|exact H
         have e0:=Aside0.mk b5
         clear b5
         by_cases an:((Qa l0 B).f1)=L
         ·rw[if_pos an] at H
          have c16b0:(((Qa l0 B).f1)==L)=true:=beq_iff_eq.mpr an
          have c16b1:(((Qa l0 B).f1) != L)=false:=bne_eq_false_iff_eq.mpr an
          clear an
          by_cases a5:a8.length<5864062014805
          ·rw[if_pos a5] at H
           have er:=Aside0.mk a5
           clear a5
           obtain⟨e9,b6⟩:∃ y_:List (S56),y_=(a8 ++ [(⟨(Qa l0 B).f0,(Qa l0 B).f1,(Qa l0 B).f2⟩:S56)]):=⟨_,rfl⟩
           replace H:(newelref19_withHall.l0 k1 l0 e9 true (wrap64 (B+1)) I L X)=some r:=by first|(rw[b6];with_reducible exact H)|(have δ :=(Option.bind_some _ _).symm.trans H;rw[b6];with_reducible exact δ)|(have δ :=(Option.bind_some _ _).symm.trans H;with_reducible exact δ)|with_reducible exact H|(rw[b6];exact H)|exact H
           have et:=Aside0.mk b6
           clear b6
           have H':=Aside0.mk H
           clear H
           try go_wp2
           replace HO_5:=Aside0.mk (Kd.Qn HO_5.out)
           replace J:=Aside0.mk (Qb J.out)
           replace HB:=Aside0.mk (Qe HB.out)
           have a1:0≤(B:Int):=of_decide_eq_true (by assumption)
           have a2:B<(l0.length:Int):=of_decide_eq_true (by assumption)
           obtain⟨O,ao,Z,γ,ε⟩:=Zo ν.out B a1 a2
           have φ := ε
           have χ :=γ
           have ψ :=Z
           cases ao
           replace Z:=(HB.out.cell (World.block_lt_of_cell? w _ Z)).trans Z
           replace γ:=(HB.out.cell (World.block_lt_of_cell? w _ γ)).trans γ
           replace ε :=(HB.out.cell (World.block_lt_of_cell? w _ ε)).trans ε
           replace a1:=eq_true a1
           replace a2:=eq_true a2
           have ai:0≤(B:Int):=of_decide_eq_true (by assumption)
           have aj:B<(l0.length:Int):=of_decide_eq_true (by assumption)
           obtain⟨av,b1,ζ,η,θ⟩:=Zo ν.out B ai aj
           have ab:= θ
           have ac:= η
           have ae:= ζ
           obtain rfl:O=av:=(by injection b1)
           replace ζ :=(HB.out.cell (World.block_lt_of_cell? w _ ζ)).trans ζ
           replace η :=(HB.out.cell (World.block_lt_of_cell? w _ η)).trans η
           replace θ :=(HB.out.cell (World.block_lt_of_cell? w _ θ)).trans θ
           replace ai:=eq_true ai
           replace aj:=eq_true aj
           refine Ze (n:=19) (S:=fun w'=>w'.cell? ⟨Y,0,none⟩=some (.int .i64 I)∧w'.cell? ⟨Y,1,none⟩=some (.int .i64 L)∧w'.cell? ⟨Y,2,none⟩=some (.int .i64 X)∧w'.cell? (O.add ((B).toNat * 3))=some (.int .i64 ((Qa l0 B).f0))∧w'.cell? ⟨(O.add ((B).toNat * 3)).block,(O.add ((B).toNat * 3)).off+1,none⟩=some (.int .i64 ((Qa l0 B).f1))∧w'.cell? ⟨(O.add ((B).toNat * 3)).block,(O.add ((B).toNat * 3)).off+2,none⟩=some (.int .i64 ((Qa l0 B).f2))∧w'.cell? (O.add ((B).toNat * 3))=some (.int .i64 ((Qa l0 B).f0))∧w'.cell? ⟨(O.add ((B).toNat * 3)).block,(O.add ((B).toNat * 3)).off+1,none⟩=some (.int .i64 ((Qa l0 B).f1))∧w'.cell? ⟨(O.add ((B).toNat * 3)).block,(O.add ((B).toNat * 3)).off+2,none⟩=some (.int .i64 ((Qa l0 B).f2))) (ds:=[]) #[false,false,false,false,false,false,false,false,false,false,false,false,false,false,false,false,false,false,false] kr rfl rfl ⟨(Qi J.out 0).trans rfl,(Qi J.out 1).trans rfl,(Qi J.out 2).trans rfl,((HB.out.cell (World.block_lt_of_cell? w _ ψ)).trans ψ),((HB.out.cell (World.block_lt_of_cell? w _ χ)).trans χ),((HB.out.cell (World.block_lt_of_cell? w _ φ)).trans φ),((HB.out.cell (World.block_lt_of_cell? w _ ae)).trans ae),((HB.out.cell (World.block_lt_of_cell? w _ ac)).trans ac),((HB.out.cell (World.block_lt_of_cell? w _ ab)).trans ab)⟩ (fun hHeld=>?_);refine Q4 newelref19_withHall.K8 newelref19_withHall.Jt (fun HT_ HW_=>?_)
           generalize wr.drew=i5 at HO_5 J HB Z γ ε ζ η θ hHeld ⊢
           refine qP 0 (some 16) (bN 19 1) HT_ ?_
           refine qP 1 (some 17) (bN 19 3) HT_ ?_
           refine qP 2 (some 18) (bN 19 7) HT_ ?_
           refine qP 3 (some 19) (bN 19 15) HT_ ?_
           refine qP 5 (some 21) (bN 19 47) HT_ ?_
           refine qT 4 (some 20) (bN 19 63) HT_ HW_ hHeld ?_
           refine qT 6 (some 22) (bN 19 127) HT_ HW_ hHeld ?_
           refine qP 7 (some 23) (bN 19 255) HT_ ?_
           refine qP 8 (some 24) (bN 19 511) HT_ ?_
           refine qP 9 (some 25) (bN 19 1023) HT_ ?_
           refine qP 10 (some 26) (bN 19 2047) HT_ ?_
           refine qP 11 (some 27) (bN 19 4095) HT_ ?_
           refine qP 12 (some 28) (bN 19 8191) HT_ ?_
           refine qP 14 (some 30) (bN 19 24575) HT_ ?_
           refine qT 13 (some 29) (bN 19 32767) HT_ HW_ hHeld ?_
           refine qT 15 (some 31) (bN 19 65535) HT_ HW_ hHeld ?_
           refine qP 16 (some 32) (bN 19 131071) HT_ ?_
           refine qP 17 (some 33) (bN 19 262143) HT_ ?_
           refine qP 18 (some 8) (bN 19 524287) HT_ ?_
           refine Zq (Zd HT_.out kr) ?_
           try go_wp2
           replace HO_5:=Aside0.mk (Kd.Qn HO_5.out)
           replace J:=Aside0.mk (Qb J.out)
           replace HB:=Aside0.mk (Qe HB.out)
           have ak:0≤(B:Int):=of_decide_eq_true (by assumption)
           have al:B<(l0.length:Int):=of_decide_eq_true (by assumption)
           obtain⟨aw,b2,ι,κ,μ⟩:=Zo ν.out B ak al
           have ρ:= μ
           have σ:= κ
           have τ := ι
           obtain rfl:O=aw:=(by injection b2)
           replace ι :=(HB.out.cell (World.block_lt_of_cell? w _ ι)).trans ι
           replace κ :=(HB.out.cell (World.block_lt_of_cell? w _ κ)).trans κ
           replace μ :=(HB.out.cell (World.block_lt_of_cell? w _ μ)).trans μ
           replace ak:=eq_true ak
           replace al:=eq_true al
           refine Ze (n:=7) (S:=fun w'=>w'.cell? ⟨Y,0,none⟩=some (.int .i64 I)∧w'.cell? ⟨Y,1,none⟩=some (.int .i64 L)∧w'.cell? ⟨Y,2,none⟩=some (.int .i64 X)∧w'.cell? (O.add ((B).toNat * 3))=some (.int .i64 ((Qa l0 B).f0))∧w'.cell? ⟨(O.add ((B).toNat * 3)).block,(O.add ((B).toNat * 3)).off+1,none⟩=some (.int .i64 ((Qa l0 B).f1))∧w'.cell? ⟨(O.add ((B).toNat * 3)).block,(O.add ((B).toNat * 3)).off+2,none⟩=some (.int .i64 ((Qa l0 B).f2))) (ds:=[]) #[false,false,false,false,false,false,false] kr rfl rfl ⟨(Qi J.out 0).trans rfl,(Qi J.out 1).trans rfl,(Qi J.out 2).trans rfl,((HB.out.cell (World.block_lt_of_cell? w _ τ)).trans τ),((HB.out.cell (World.block_lt_of_cell? w _ σ)).trans σ),((HB.out.cell (World.block_lt_of_cell? w _ ρ)).trans ρ)⟩ (fun hHeld=>?_)
           generalize i5.drew=dw at HO_5 J HB ι κ μ hHeld ⊢
           refine Zy (i:=1) (N:=some 35) (v:=?_) (a':=?_) (bN 7 2) rfl rfl kr (fun _ _ _ h=>h) (Or.inl ⟨by rfl, ?_⟩) ?_ ?_
           rotate_left
           ·intro w'
            go_simp
            with_reducible rfl
           rotate_left
           ·simp only[Act.put,qS,Zg,Zj]
            rfl
           refine Zy (i:=2) (N:=some 36) (v:=?_) (a':=?_) (bN 7 6) rfl rfl kr (fun _ _ _ h=>h) (Or.inl ⟨by rfl, ?_⟩) ?_ ?_
           rotate_left
           ·intro w'
            go_simp
            with_reducible rfl
           rotate_left
           ·simp only[Act.put,qS,Zg,Zj]
            rfl
           refine Zy (i:=3) (N:=some 37) (v:=?_) (a':=?_) (bN 7 14) rfl rfl kr (fun _ _ _ h=>h) (Or.inl ⟨by rfl, ?_⟩) ?_ ?_
           rotate_left
           ·intro w'
            go_simp
            with_reducible rfl
           rotate_left
           ·simp only[Act.put,qS,Zg,Zj]
            rfl
           refine Xs (i:=0) (N:=some 34) (v:=?_) (a':=?_) (bN 7 15) rfl rfl kr (fun _ _ _ h=>h) (Or.inl ⟨by rfl, ?_⟩) hHeld ?_ ?_
           rotate_left
           ·rintro w' ⟨s0,s1,s2,s3,s4,s5⟩
            go_simp
            with_reducible rfl
           rotate_left
           ·simp only[Act.put,qS,Zg,Zj]
            rfl
           refine Xs (i:=4) (N:=some 38) (v:=?_) (a':=?_) (bN 7 31) rfl rfl kr (fun _ _ _ h=>h) (Or.inl ⟨by rfl, ?_⟩) hHeld ?_ ?_
           rotate_left
           ·rintro w' ⟨s0,s1,s2,s3,s4,s5⟩
            go_simp
            with_reducible rfl
           rotate_left
           ·simp only[Act.put,qS,Zg,Zj]
            rfl
           refine Zi (i:=5) (N:=some 39) (bN 7 63) rfl rfl kr (by decide) (fun K hK=>?_)
           refine Zc Try.func38 kr rfl #[.agg #[.int .i64 I,.int .i64 L,.int .i64 X],.agg #[.int .i64 ((Qa l0 B).f0),.int .i64 ((Qa l0 B).f1),.int .i64 ((Qa l0 B).f2)]] (by rfl) rfl rfl qM ?_
           with_reducible refine(newelref19_ahead.calls I L X ((Qa l0 B).f0) ((Qa l0 B).f1) ((Qa l0 B).f2) true _ A7.out).mono ?_
           rintro e d0 ⟨rfl,hb⟩
           refine⟨_,rfl, ?_⟩
           replace HO_5:=sRb HO_5 hb
           replace J:=sBk J hb
           replace HB:=sHb hb
           (try clear hb)
           (try clear a0)
           (try clear hk)
           (try clear hi)
           refine hK.out _ _ ⟨qc J,qc J,qc J,((HB.out.cell (World.block_lt_of_cell? w _ τ)).trans τ),((HB.out.cell (World.block_lt_of_cell? w _ σ)).trans σ),((HB.out.cell (World.block_lt_of_cell? w _ ρ)).trans ρ)⟩ (fun hHeld=>?_)
           clear hK K
           refine qN (some 39) ?_
           refine Zy (i:=6) (N:=some 9) (v:=?_) (a':=?_) (bN 7 127) rfl rfl kr (fun _ _ _ h=>h) (Or.inl ⟨by rfl, ?_⟩) ?_ ?_
           rotate_left
           ·intro w'
            go_simp
            with_reducible rfl
           rotate_left
           ·simp only[Act.put,qS,Zg,Zj]
            rfl
           refine Zq kr ?_
           obtain⟨co,cp,gl,cq,cr,gm⟩:=qD3 J.out
           try go_wp2_with (first|((with_reducible refine Zl (b:=.append) (xs:=#[.tmp 45,.tmp 47]) rfl ?_);at_builtin;refine Kd.Z5 k56 (w0:=w) w.heap.size rfl (.tmp 45) (.tmp 47) 24 56 (.agg #[(.int .i64 0),(.int .i64 0),(.int .i64 0)]) 24 rfl Try.underlying24 Xr rfl (by decide) (by omega) u5 D (⟨I,L,X⟩:S56) [.int .i64 I,.int .i64 L,.int .i64 X] (fun k_=>k_≠Y) (fun _=>False) rfl rfl ?aP (fun _ hk=>hk.elim) ?aF ?aO ?aB ?aS ?aL ?_;(case aP=>exact Xi _ _ _ (⟨I,L,X⟩:S56));(case aB=>exact HB.out);(case aF=>exact(fun k_ hk=>Kd.Xc (g:=Y) (o:=.cells #[.int .i64 I,.int .i64 L,.int .i64 X] 56 (0,0)) J.out k_ hk));(case aO=>exact HO_5.out);(case aS=>exact(Qj HB.out));(case aL=>have:=ar.out;omega);intro d6 dr ho hb hg hat;rw[← e0.out] at ho;have b3:=Aside0.mk ho;replace J:=Aside0.mk (Q8 (g:=Y) (o:=.cells #[.int .i64 I,.int .i64 L,.int .i64 X] 56 (0,0)) J.out hg (Kd.Xk HO_5.out (fun _ hk=>hk)));replace HB:=Aside0.mk hb;clear HO_5;clear ho hb hg hat;have d7:0≤(B:Int):=of_decide_eq_true (by assumption);have d8:B<(l0.length:Int):=of_decide_eq_true (by assumption);obtain⟨eu,g8,bj,bk,bl⟩:=Zo ν.out B d7 d8;obtain rfl:O=eu:=(by injection g8);replace bj:=(HB.out.cell (World.block_lt_of_cell? w _ bj)).trans bj;replace bk:=(HB.out.cell (World.block_lt_of_cell? w _ bk)).trans bk;replace bl:=(HB.out.cell (World.block_lt_of_cell? w _ bl)).trans bl;replace d7:=eq_true d7;replace d8:=eq_true d8)|((with_reducible refine Zl (b:=.append) (xs:=#[.tmp 56,.tmp 61]) rfl ?_);at_builtin;refine Kd.Z5 k56 (w0:=w) w.heap.size rfl (.tmp 56) (.tmp 61) 24 56 (.agg #[(.int .i64 0),(.int .i64 0),(.int .i64 0)]) 24 rfl Try.underlying24 Xr rfl (by decide) (by omega) d6 a8 (⟨(Qa l0 B).f0,(Qa l0 B).f1,(Qa l0 B).f2⟩:S56) [.int .i64 ((Qa l0 B).f0),.int .i64 ((Qa l0 B).f1),.int .i64 ((Qa l0 B).f2)] (fun k_=>k_≠Y) (fun _=>False) rfl rfl ?aP (fun _ hk=>hk.elim) ?aF ?aO ?aB ?aS ?aL ?_;(case aP=>exact Xi _ _ _ (⟨(Qa l0 B).f0,(Qa l0 B).f1,(Qa l0 B).f2⟩:S56));(case aB=>exact HB.out);(case aF=>exact(fun k_ hk=>Kd.Xc (g:=Y) (o:=.cells #[.int .i64 I,.int .i64 L,.int .i64 X] 56 (0,0)) J.out k_ hk));(case aO=>exact b3.out);(case aS=>exact(Qj HB.out));(case aL=>have:=er.out;omega);intro h5 dv ho hb hg hat;rw[← et.out] at ho;have ev:=Aside0.mk ho;replace J:=Aside0.mk (Q8 (g:=Y) (o:=.cells #[.int .i64 I,.int .i64 L,.int .i64 X] 56 (0,0)) J.out hg (Kd.Xk b3.out (fun _ hk=>hk)));replace HB:=Aside0.mk hb;clear b3;clear ho hb hg hat))
           go_roundg k1
           case measure=>have:= ξ.out;omega
           case rel=>exact⟨(e9),(true),(wrap64 (B+1)),rfl,rfl,H',⟨by have:= ξ.out;omega⟩,⟨by(with_reducible repeat first|apply Kd.Qm|apply Kd.Ql|apply Kd.Qn);exact ev.out⟩,J,HB⟩
          ·rw[if_neg a5] at H
           exact absurd H (by simp)
         ·rw[if_neg an] at H
          have c16b0:(((Qa l0 B).f1)==L)=false:=beq_eq_false_iff_ne.mpr an
          have c16b1:(((Qa l0 B).f1) != L)=true:=bne_iff_ne.mpr an
          by_cases d4:a8.length<5864062014805
          ·rw[if_pos d4] at H
           have ey:=Aside0.mk d4
           clear d4
           obtain⟨ec,b7⟩:∃ y_:List (S56),y_=(a8 ++ [(⟨(Qa l0 B).f0,(Qa l0 B).f1,(Qa l0 B).f2⟩:S56)]):=⟨_,rfl⟩
           replace H:(newelref19_withHall.l0 k1 l0 ec true (wrap64 (B+1)) I L X)=some r:=by first|(rw[b7];with_reducible exact H)|(have δ :=(Option.bind_some _ _).symm.trans H;rw[b7];with_reducible exact δ)|(have δ :=(Option.bind_some _ _).symm.trans H;with_reducible exact δ)|with_reducible exact H|(rw[b7];exact H)|exact H
           have ez:=Aside0.mk b7
           clear b7
           have H':=Aside0.mk H
           clear H
           try go_wp2
           replace HO_5:=Aside0.mk (Kd.Qn HO_5.out)
           replace J:=Aside0.mk (Qb J.out)
           replace HB:=Aside0.mk (Qe HB.out)
           have a1:0≤(B:Int):=of_decide_eq_true (by assumption)
           have a2:B<(l0.length:Int):=of_decide_eq_true (by assumption)
           obtain⟨O,ao,Z,γ,ε⟩:=Zo ν.out B a1 a2
           have φ := ε
           have χ :=γ
           have ψ :=Z
           cases ao
           replace Z:=(HB.out.cell (World.block_lt_of_cell? w _ Z)).trans Z
           replace γ:=(HB.out.cell (World.block_lt_of_cell? w _ γ)).trans γ
           replace ε :=(HB.out.cell (World.block_lt_of_cell? w _ ε)).trans ε
           replace a1:=eq_true a1
           replace a2:=eq_true a2
           have ai:0≤(B:Int):=of_decide_eq_true (by assumption)
           have aj:B<(l0.length:Int):=of_decide_eq_true (by assumption)
           obtain⟨av,b1,ζ,η,θ⟩:=Zo ν.out B ai aj
           have ab:= θ
           have ac:= η
           have ae:= ζ
           obtain rfl:O=av:=(by injection b1)
           replace ζ :=(HB.out.cell (World.block_lt_of_cell? w _ ζ)).trans ζ
           replace η :=(HB.out.cell (World.block_lt_of_cell? w _ η)).trans η
           replace θ :=(HB.out.cell (World.block_lt_of_cell? w _ θ)).trans θ
           replace ai:=eq_true ai
           replace aj:=eq_true aj
           refine Ze (n:=19) (S:=fun w'=>w'.cell? ⟨Y,0,none⟩=some (.int .i64 I)∧w'.cell? ⟨Y,1,none⟩=some (.int .i64 L)∧w'.cell? ⟨Y,2,none⟩=some (.int .i64 X)∧w'.cell? (O.add ((B).toNat * 3))=some (.int .i64 ((Qa l0 B).f0))∧w'.cell? ⟨(O.add ((B).toNat * 3)).block,(O.add ((B).toNat * 3)).off+1,none⟩=some (.int .i64 ((Qa l0 B).f1))∧w'.cell? ⟨(O.add ((B).toNat * 3)).block,(O.add ((B).toNat * 3)).off+2,none⟩=some (.int .i64 ((Qa l0 B).f2))∧w'.cell? (O.add ((B).toNat * 3))=some (.int .i64 ((Qa l0 B).f0))∧w'.cell? ⟨(O.add ((B).toNat * 3)).block,(O.add ((B).toNat * 3)).off+1,none⟩=some (.int .i64 ((Qa l0 B).f1))∧w'.cell? ⟨(O.add ((B).toNat * 3)).block,(O.add ((B).toNat * 3)).off+2,none⟩=some (.int .i64 ((Qa l0 B).f2))) (ds:=[]) #[false,false,false,false,false,false,false,false,false,false,false,false,false,false,false,false,false,false,false] kr rfl rfl ⟨(Qi J.out 0).trans rfl,(Qi J.out 1).trans rfl,(Qi J.out 2).trans rfl,((HB.out.cell (World.block_lt_of_cell? w _ ψ)).trans ψ),((HB.out.cell (World.block_lt_of_cell? w _ χ)).trans χ),((HB.out.cell (World.block_lt_of_cell? w _ φ)).trans φ),((HB.out.cell (World.block_lt_of_cell? w _ ae)).trans ae),((HB.out.cell (World.block_lt_of_cell? w _ ac)).trans ac),((HB.out.cell (World.block_lt_of_cell? w _ ab)).trans ab)⟩ (fun hHeld=>?_);refine Q4 newelref19_withHall.K8 newelref19_withHall.Jt (fun HT_ HW_=>?_)
           generalize wr.drew=da at HO_5 J HB Z γ ε ζ η θ hHeld ⊢
           refine qP 0 (some 16) (bN 19 1) HT_ ?_
           refine qP 1 (some 17) (bN 19 3) HT_ ?_
           refine qP 2 (some 18) (bN 19 7) HT_ ?_
           refine qP 3 (some 19) (bN 19 15) HT_ ?_
           refine qP 5 (some 21) (bN 19 47) HT_ ?_
           refine qT 4 (some 20) (bN 19 63) HT_ HW_ hHeld ?_
           refine qT 6 (some 22) (bN 19 127) HT_ HW_ hHeld ?_
           refine qP 7 (some 23) (bN 19 255) HT_ ?_
           refine qP 8 (some 24) (bN 19 511) HT_ ?_
           refine qP 9 (some 25) (bN 19 1023) HT_ ?_
           refine qP 10 (some 26) (bN 19 2047) HT_ ?_
           refine qP 11 (some 27) (bN 19 4095) HT_ ?_
           refine qP 12 (some 28) (bN 19 8191) HT_ ?_
           refine qP 14 (some 30) (bN 19 24575) HT_ ?_
           refine qT 13 (some 29) (bN 19 32767) HT_ HW_ hHeld ?_
           refine qT 15 (some 31) (bN 19 65535) HT_ HW_ hHeld ?_
           refine qP 16 (some 32) (bN 19 131071) HT_ ?_
           refine qP 17 (some 33) (bN 19 262143) HT_ ?_
           refine qP 18 (some 8) (bN 19 524287) HT_ ?_
           refine Zq (Zd HT_.out kr) ?_
           try go_wp2
           replace HO_5:=Aside0.mk (Kd.Qn HO_5.out)
           replace J:=Aside0.mk (Qb J.out)
           replace HB:=Aside0.mk (Qe HB.out)
           have ak:0≤(B:Int):=of_decide_eq_true (by assumption)
           have al:B<(l0.length:Int):=of_decide_eq_true (by assumption)
           obtain⟨aw,b2,ι,κ,μ⟩:=Zo ν.out B ak al
           have ρ:= μ
           have σ:= κ
           have τ := ι
           obtain rfl:O=aw:=(by injection b2)
           replace ι :=(HB.out.cell (World.block_lt_of_cell? w _ ι)).trans ι
           replace κ :=(HB.out.cell (World.block_lt_of_cell? w _ κ)).trans κ
           replace μ :=(HB.out.cell (World.block_lt_of_cell? w _ μ)).trans μ
           replace ak:=eq_true ak
           replace al:=eq_true al
           refine Ze (n:=7) (S:=fun w'=>w'.cell? ⟨Y,0,none⟩=some (.int .i64 I)∧w'.cell? ⟨Y,1,none⟩=some (.int .i64 L)∧w'.cell? ⟨Y,2,none⟩=some (.int .i64 X)∧w'.cell? (O.add ((B).toNat * 3))=some (.int .i64 ((Qa l0 B).f0))∧w'.cell? ⟨(O.add ((B).toNat * 3)).block,(O.add ((B).toNat * 3)).off+1,none⟩=some (.int .i64 ((Qa l0 B).f1))∧w'.cell? ⟨(O.add ((B).toNat * 3)).block,(O.add ((B).toNat * 3)).off+2,none⟩=some (.int .i64 ((Qa l0 B).f2))) (ds:=[]) #[false,false,false,false,false,false,false] kr rfl rfl ⟨(Qi J.out 0).trans rfl,(Qi J.out 1).trans rfl,(Qi J.out 2).trans rfl,((HB.out.cell (World.block_lt_of_cell? w _ τ)).trans τ),((HB.out.cell (World.block_lt_of_cell? w _ σ)).trans σ),((HB.out.cell (World.block_lt_of_cell? w _ ρ)).trans ρ)⟩ (fun hHeld=>?_)
           generalize da.drew=bq at HO_5 J HB ι κ μ hHeld ⊢
           refine Zy (i:=1) (N:=some 35) (v:=?_) (a':=?_) (bN 7 2) rfl rfl kr (fun _ _ _ h=>h) (Or.inl ⟨by rfl, ?_⟩) ?_ ?_
           rotate_left
           ·intro w'
            go_simp
            with_reducible rfl
           rotate_left
           ·simp only[Act.put,qS,Zg,Zj]
            rfl
           refine Zy (i:=2) (N:=some 36) (v:=?_) (a':=?_) (bN 7 6) rfl rfl kr (fun _ _ _ h=>h) (Or.inl ⟨by rfl, ?_⟩) ?_ ?_
           rotate_left
           ·intro w'
            go_simp
            with_reducible rfl
           rotate_left
           ·simp only[Act.put,qS,Zg,Zj]
            rfl
           refine Zy (i:=3) (N:=some 37) (v:=?_) (a':=?_) (bN 7 14) rfl rfl kr (fun _ _ _ h=>h) (Or.inl ⟨by rfl, ?_⟩) ?_ ?_
           rotate_left
           ·intro w'
            go_simp
            with_reducible rfl
           rotate_left
           ·simp only[Act.put,qS,Zg,Zj]
            rfl
           refine Xs (i:=0) (N:=some 34) (v:=?_) (a':=?_) (bN 7 15) rfl rfl kr (fun _ _ _ h=>h) (Or.inl ⟨by rfl, ?_⟩) hHeld ?_ ?_
           rotate_left
           ·rintro w' ⟨s0,s1,s2,s3,s4,s5⟩
            go_simp
            with_reducible rfl
           rotate_left
           ·simp only[Act.put,qS,Zg,Zj]
            rfl
           refine Xs (i:=4) (N:=some 38) (v:=?_) (a':=?_) (bN 7 31) rfl rfl kr (fun _ _ _ h=>h) (Or.inl ⟨by rfl, ?_⟩) hHeld ?_ ?_
           rotate_left
           ·rintro w' ⟨s0,s1,s2,s3,s4,s5⟩
            go_simp
            with_reducible rfl
           rotate_left
           ·simp only[Act.put,qS,Zg,Zj]
            rfl
           refine Zi (i:=5) (N:=some 39) (bN 7 63) rfl rfl kr (by decide) (fun K hK=>?_)
           refine Zc Try.func38 kr rfl #[.agg #[.int .i64 I,.int .i64 L,.int .i64 X],.agg #[.int .i64 ((Qa l0 B).f0),.int .i64 ((Qa l0 B).f1),.int .i64 ((Qa l0 B).f2)]] (by rfl) rfl rfl qM ?_
           with_reducible refine(newelref19_ahead.calls I L X ((Qa l0 B).f0) ((Qa l0 B).f1) ((Qa l0 B).f2) true _ A7.out).mono ?_
           rintro e e6 ⟨rfl,hb⟩
           refine⟨_,rfl, ?_⟩
           replace HO_5:=sRb HO_5 hb
           replace J:=sBk J hb
           replace HB:=sHb hb
           (try clear hb)
           (try clear a0)
           (try clear hk)
           (try clear hi)
           refine hK.out _ _ ⟨qc J,qc J,qc J,((HB.out.cell (World.block_lt_of_cell? w _ τ)).trans τ),((HB.out.cell (World.block_lt_of_cell? w _ σ)).trans σ),((HB.out.cell (World.block_lt_of_cell? w _ ρ)).trans ρ)⟩ (fun hHeld=>?_)
           clear hK K
           refine qN (some 39) ?_
           refine Zy (i:=6) (N:=some 9) (v:=?_) (a':=?_) (bN 7 127) rfl rfl kr (fun _ _ _ h=>h) (Or.inl ⟨by rfl, ?_⟩) ?_ ?_
           rotate_left
           ·intro w'
            go_simp
            with_reducible rfl
           rotate_left
           ·simp only[Act.put,qS,Zg,Zj]
            rfl
           refine Zq kr ?_
           obtain⟨cx,cy,e4,cz,d1,e5⟩:=qD3 J.out
           try go_wp2_with (first|((with_reducible refine Zl (b:=.append) (xs:=#[.tmp 45,.tmp 47]) rfl ?_);at_builtin;refine Kd.Z5 k56 (w0:=w) w.heap.size rfl (.tmp 45) (.tmp 47) 24 56 (.agg #[(.int .i64 0),(.int .i64 0),(.int .i64 0)]) 24 rfl Try.underlying24 Xr rfl (by decide) (by omega) u5 D (⟨I,L,X⟩:S56) [.int .i64 I,.int .i64 L,.int .i64 X] (fun k_=>k_≠Y) (fun _=>False) rfl rfl ?aP (fun _ hk=>hk.elim) ?aF ?aO ?aB ?aS ?aL ?_;(case aP=>exact Xi _ _ _ (⟨I,L,X⟩:S56));(case aB=>exact HB.out);(case aF=>exact(fun k_ hk=>Kd.Xc (g:=Y) (o:=.cells #[.int .i64 I,.int .i64 L,.int .i64 X] 56 (0,0)) J.out k_ hk));(case aO=>exact HO_5.out);(case aS=>exact(Qj HB.out));(case aL=>have:=ar.out;omega);intro d6 db ho hb hg hat;rw[← e0.out] at ho;have b3:=Aside0.mk ho;replace J:=Aside0.mk (Q8 (g:=Y) (o:=.cells #[.int .i64 I,.int .i64 L,.int .i64 X] 56 (0,0)) J.out hg (Kd.Xk HO_5.out (fun _ hk=>hk)));replace HB:=Aside0.mk hb;clear HO_5;clear ho hb hg hat;have dc:0≤(B:Int):=of_decide_eq_true (by assumption);have dd:B<(l0.length:Int):=of_decide_eq_true (by assumption);obtain⟨f4,g9,bm,bn,bo⟩:=Zo ν.out B dc dd;obtain rfl:O=f4:=(by injection g9);replace bm:=(HB.out.cell (World.block_lt_of_cell? w _ bm)).trans bm;replace bn:=(HB.out.cell (World.block_lt_of_cell? w _ bn)).trans bn;replace bo:=(HB.out.cell (World.block_lt_of_cell? w _ bo)).trans bo;replace dc:=eq_true dc;replace dd:=eq_true dd)|((with_reducible refine Zl (b:=.append) (xs:=#[.tmp 56,.tmp 61]) rfl ?_);at_builtin;refine Kd.Z5 k56 (w0:=w) w.heap.size rfl (.tmp 56) (.tmp 61) 24 56 (.agg #[(.int .i64 0),(.int .i64 0),(.int .i64 0)]) 24 rfl Try.underlying24 Xr rfl (by decide) (by omega) d6 a8 (⟨(Qa l0 B).f0,(Qa l0 B).f1,(Qa l0 B).f2⟩:S56) [.int .i64 ((Qa l0 B).f0),.int .i64 ((Qa l0 B).f1),.int .i64 ((Qa l0 B).f2)] (fun k_=>k_≠Y) (fun _=>False) rfl rfl ?aP (fun _ hk=>hk.elim) ?aF ?aO ?aB ?aS ?aL ?_;(case aP=>exact Xi _ _ _ (⟨(Qa l0 B).f0,(Qa l0 B).f1,(Qa l0 B).f2⟩:S56));(case aB=>exact HB.out);(case aF=>exact(fun k_ hk=>Kd.Xc (g:=Y) (o:=.cells #[.int .i64 I,.int .i64 L,.int .i64 X] 56 (0,0)) J.out k_ hk));(case aO=>exact b3.out);(case aS=>exact(Qj HB.out));(case aL=>have:=ey.out;omega);intro h6 ew ho hb hg hat;rw[← ez.out] at ho;have f5:=Aside0.mk ho;replace J:=Aside0.mk (Q8 (g:=Y) (o:=.cells #[.int .i64 I,.int .i64 L,.int .i64 X] 56 (0,0)) J.out hg (Kd.Xk b3.out (fun _ hk=>hk)));replace HB:=Aside0.mk hb;clear b3;clear ho hb hg hat))
           go_roundg k1
           case measure=>have:= ξ.out;omega
           case rel=>exact⟨(ec),(true),(wrap64 (B+1)),rfl,rfl,H',⟨by have:= ξ.out;omega⟩,⟨by(with_reducible repeat first|apply Kd.Qm|apply Kd.Ql|apply Kd.Qn);exact f5.out⟩,J,HB⟩
          ·rw[if_neg d4] at H
           exact absurd H (by simp)
        ·rw[if_neg a4] at H
         exact absurd H (by simp)
       ·replace az:=Bool.eq_false_iff.mpr az
        subst az
        have H1:(if ((Qa l0 B).f1)=L then (if D.length<5864062014805 then (newelref19_withHall.l0 k1 l0 (D ++ [(⟨(Qa l0 B).f0,(Qa l0 B).f1,(Qa l0 B).f2⟩:S56)]) true (wrap64 (B+1)) I L X) else (none)) else (if D.length<5864062014805 then (newelref19_withHall.l0 k1 l0 (D ++ [(⟨(Qa l0 B).f0,(Qa l0 B).f1,(Qa l0 B).f2⟩:S56)]) false (wrap64 (B+1)) I L X) else (none)))=some r:=by rw[if_neg (show ¬ (false=true) by decide)] at H;exact H
        clear H
        have H:=H1
        clear H1
        by_cases cd:((Qa l0 B).f1)=L
        ·rw[if_pos cd] at H
         have c31b0:(((Qa l0 B).f1)==L)=true:=beq_iff_eq.mpr cd
         have c31b1:(((Qa l0 B).f1) != L)=false:=bne_eq_false_iff_eq.mpr cd
         clear cd
         by_cases g7:D.length<5864062014805
         ·rw[if_pos g7] at H
          have f7:=Aside0.mk g7
          clear g7
          obtain⟨ed,b8⟩:∃ y_:List (S56),y_=(D ++ [(⟨(Qa l0 B).f0,(Qa l0 B).f1,(Qa l0 B).f2⟩:S56)]):=⟨_,rfl⟩
          replace H:(newelref19_withHall.l0 k1 l0 ed true (wrap64 (B+1)) I L X)=some r:=by first|(rw[b8];with_reducible exact H)|(have δ :=(Option.bind_some _ _).symm.trans H;rw[b8];with_reducible exact δ)|(have δ :=(Option.bind_some _ _).symm.trans H;with_reducible exact δ)|with_reducible exact H|(rw[b8];exact H)|exact H
          have f8:=Aside0.mk b8
          clear b8
          have H':=Aside0.mk H
          clear H
          try go_wp2
          replace HO_5:=Aside0.mk (Kd.Qn HO_5.out)
          replace J:=Aside0.mk (Qb J.out)
          replace HB:=Aside0.mk (Qe HB.out)
          have a1:0≤(B:Int):=of_decide_eq_true (by assumption)
          have a2:B<(l0.length:Int):=of_decide_eq_true (by assumption)
          obtain⟨O,ao,Z,γ,ε⟩:=Zo ν.out B a1 a2
          have φ := ε
          have χ :=γ
          have ψ :=Z
          cases ao
          replace Z:=(HB.out.cell (World.block_lt_of_cell? w _ Z)).trans Z
          replace γ:=(HB.out.cell (World.block_lt_of_cell? w _ γ)).trans γ
          replace ε :=(HB.out.cell (World.block_lt_of_cell? w _ ε)).trans ε
          replace a1:=eq_true a1
          replace a2:=eq_true a2
          have ai:0≤(B:Int):=of_decide_eq_true (by assumption)
          have aj:B<(l0.length:Int):=of_decide_eq_true (by assumption)
          obtain⟨av,b1,ζ,η,θ⟩:=Zo ν.out B ai aj
          have ab:= θ
          have ac:= η
          have ae:= ζ
          obtain rfl:O=av:=(by injection b1)
          replace ζ :=(HB.out.cell (World.block_lt_of_cell? w _ ζ)).trans ζ
          replace η :=(HB.out.cell (World.block_lt_of_cell? w _ η)).trans η
          replace θ :=(HB.out.cell (World.block_lt_of_cell? w _ θ)).trans θ
          replace ai:=eq_true ai
          replace aj:=eq_true aj
          refine Ze (n:=19) (S:=fun w'=>w'.cell? ⟨Y,0,none⟩=some (.int .i64 I)∧w'.cell? ⟨Y,1,none⟩=some (.int .i64 L)∧w'.cell? ⟨Y,2,none⟩=some (.int .i64 X)∧w'.cell? (O.add ((B).toNat * 3))=some (.int .i64 ((Qa l0 B).f0))∧w'.cell? ⟨(O.add ((B).toNat * 3)).block,(O.add ((B).toNat * 3)).off+1,none⟩=some (.int .i64 ((Qa l0 B).f1))∧w'.cell? ⟨(O.add ((B).toNat * 3)).block,(O.add ((B).toNat * 3)).off+2,none⟩=some (.int .i64 ((Qa l0 B).f2))∧w'.cell? (O.add ((B).toNat * 3))=some (.int .i64 ((Qa l0 B).f0))∧w'.cell? ⟨(O.add ((B).toNat * 3)).block,(O.add ((B).toNat * 3)).off+1,none⟩=some (.int .i64 ((Qa l0 B).f1))∧w'.cell? ⟨(O.add ((B).toNat * 3)).block,(O.add ((B).toNat * 3)).off+2,none⟩=some (.int .i64 ((Qa l0 B).f2))) (ds:=[]) #[false,false,false,false,false,false,false,false,false,false,false,false,false,false,false,false,false,false,false] kr rfl rfl ⟨(Qi J.out 0).trans rfl,(Qi J.out 1).trans rfl,(Qi J.out 2).trans rfl,((HB.out.cell (World.block_lt_of_cell? w _ ψ)).trans ψ),((HB.out.cell (World.block_lt_of_cell? w _ χ)).trans χ),((HB.out.cell (World.block_lt_of_cell? w _ φ)).trans φ),((HB.out.cell (World.block_lt_of_cell? w _ ae)).trans ae),((HB.out.cell (World.block_lt_of_cell? w _ ac)).trans ac),((HB.out.cell (World.block_lt_of_cell? w _ ab)).trans ab)⟩ (fun hHeld=>?_);refine Q4 newelref19_withHall.K8 newelref19_withHall.Jt (fun HT_ HW_=>?_)
          generalize wr.drew=d3 at HO_5 J HB Z γ ε ζ η θ hHeld ⊢
          refine qP 0 (some 16) (bN 19 1) HT_ ?_
          refine qP 1 (some 17) (bN 19 3) HT_ ?_
          refine qP 2 (some 18) (bN 19 7) HT_ ?_
          refine qP 3 (some 19) (bN 19 15) HT_ ?_
          refine qP 5 (some 21) (bN 19 47) HT_ ?_
          refine qT 4 (some 20) (bN 19 63) HT_ HW_ hHeld ?_
          refine qT 6 (some 22) (bN 19 127) HT_ HW_ hHeld ?_
          refine qP 7 (some 23) (bN 19 255) HT_ ?_
          refine qP 8 (some 24) (bN 19 511) HT_ ?_
          refine qP 9 (some 25) (bN 19 1023) HT_ ?_
          refine qP 10 (some 26) (bN 19 2047) HT_ ?_
          refine qP 11 (some 27) (bN 19 4095) HT_ ?_
          refine qP 12 (some 28) (bN 19 8191) HT_ ?_
          refine qP 14 (some 30) (bN 19 24575) HT_ ?_
          refine qT 13 (some 29) (bN 19 32767) HT_ HW_ hHeld ?_
          refine qT 15 (some 31) (bN 19 65535) HT_ HW_ hHeld ?_
          refine qP 16 (some 32) (bN 19 131071) HT_ ?_
          refine qP 17 (some 33) (bN 19 262143) HT_ ?_
          refine qP 18 (some 8) (bN 19 524287) HT_ ?_
          refine Zq (Zd HT_.out kr) ?_
          try go_wp2
          replace HO_5:=Aside0.mk (Kd.Qn HO_5.out)
          replace J:=Aside0.mk (Qb J.out)
          replace HB:=Aside0.mk (Qe HB.out)
          have ak:0≤(B:Int):=of_decide_eq_true (by assumption)
          have al:B<(l0.length:Int):=of_decide_eq_true (by assumption)
          obtain⟨aw,b2,ι,κ,μ⟩:=Zo ν.out B ak al
          have ρ:= μ
          have σ:= κ
          have τ := ι
          obtain rfl:O=aw:=(by injection b2)
          replace ι :=(HB.out.cell (World.block_lt_of_cell? w _ ι)).trans ι
          replace κ :=(HB.out.cell (World.block_lt_of_cell? w _ κ)).trans κ
          replace μ :=(HB.out.cell (World.block_lt_of_cell? w _ μ)).trans μ
          replace ak:=eq_true ak
          replace al:=eq_true al
          refine Ze (n:=7) (S:=fun w'=>w'.cell? ⟨Y,0,none⟩=some (.int .i64 I)∧w'.cell? ⟨Y,1,none⟩=some (.int .i64 L)∧w'.cell? ⟨Y,2,none⟩=some (.int .i64 X)∧w'.cell? (O.add ((B).toNat * 3))=some (.int .i64 ((Qa l0 B).f0))∧w'.cell? ⟨(O.add ((B).toNat * 3)).block,(O.add ((B).toNat * 3)).off+1,none⟩=some (.int .i64 ((Qa l0 B).f1))∧w'.cell? ⟨(O.add ((B).toNat * 3)).block,(O.add ((B).toNat * 3)).off+2,none⟩=some (.int .i64 ((Qa l0 B).f2))) (ds:=[]) #[false,false,false,false,false,false,false] kr rfl rfl ⟨(Qi J.out 0).trans rfl,(Qi J.out 1).trans rfl,(Qi J.out 2).trans rfl,((HB.out.cell (World.block_lt_of_cell? w _ τ)).trans τ),((HB.out.cell (World.block_lt_of_cell? w _ σ)).trans σ),((HB.out.cell (World.block_lt_of_cell? w _ ρ)).trans ρ)⟩ (fun hHeld=>?_)
          generalize d3.drew=ea at HO_5 J HB ι κ μ hHeld ⊢
          refine Zy (i:=1) (N:=some 35) (v:=?_) (a':=?_) (bN 7 2) rfl rfl kr (fun _ _ _ h=>h) (Or.inl ⟨by rfl, ?_⟩) ?_ ?_
          rotate_left
          ·intro w'
           go_simp
           with_reducible rfl
          rotate_left
          ·simp only[Act.put,qS,Zg,Zj]
           rfl
          refine Zy (i:=2) (N:=some 36) (v:=?_) (a':=?_) (bN 7 6) rfl rfl kr (fun _ _ _ h=>h) (Or.inl ⟨by rfl, ?_⟩) ?_ ?_
          rotate_left
          ·intro w'
           go_simp
           with_reducible rfl
          rotate_left
          ·simp only[Act.put,qS,Zg,Zj]
           rfl
          refine Zy (i:=3) (N:=some 37) (v:=?_) (a':=?_) (bN 7 14) rfl rfl kr (fun _ _ _ h=>h) (Or.inl ⟨by rfl, ?_⟩) ?_ ?_
          rotate_left
          ·intro w'
           go_simp
           with_reducible rfl
          rotate_left
          ·simp only[Act.put,qS,Zg,Zj]
           rfl
          refine Xs (i:=0) (N:=some 34) (v:=?_) (a':=?_) (bN 7 15) rfl rfl kr (fun _ _ _ h=>h) (Or.inl ⟨by rfl, ?_⟩) hHeld ?_ ?_
          rotate_left
          ·rintro w' ⟨s0,s1,s2,s3,s4,s5⟩
           go_simp
           with_reducible rfl
          rotate_left
          ·simp only[Act.put,qS,Zg,Zj]
           rfl
          refine Xs (i:=4) (N:=some 38) (v:=?_) (a':=?_) (bN 7 31) rfl rfl kr (fun _ _ _ h=>h) (Or.inl ⟨by rfl, ?_⟩) hHeld ?_ ?_
          rotate_left
          ·rintro w' ⟨s0,s1,s2,s3,s4,s5⟩
           go_simp
           with_reducible rfl
          rotate_left
          ·simp only[Act.put,qS,Zg,Zj]
           rfl
          refine Zi (i:=5) (N:=some 39) (bN 7 63) rfl rfl kr (by decide) (fun K hK=>?_)
          refine Zc Try.func38 kr rfl #[.agg #[.int .i64 I,.int .i64 L,.int .i64 X],.agg #[.int .i64 ((Qa l0 B).f0),.int .i64 ((Qa l0 B).f1),.int .i64 ((Qa l0 B).f2)]] (by rfl) rfl rfl qM ?_
          with_reducible refine(newelref19_ahead.calls I L X ((Qa l0 B).f0) ((Qa l0 B).f1) ((Qa l0 B).f2) false _ A7.out).mono ?_
          rintro e e7 ⟨rfl,hb⟩
          refine⟨_,rfl, ?_⟩
          replace HO_5:=sRb HO_5 hb
          replace J:=sBk J hb
          replace HB:=sHb hb
          (try clear hb)
          (try clear a0)
          (try clear hk)
          (try clear hi)
          refine hK.out _ _ ⟨qc J,qc J,qc J,((HB.out.cell (World.block_lt_of_cell? w _ τ)).trans τ),((HB.out.cell (World.block_lt_of_cell? w _ σ)).trans σ),((HB.out.cell (World.block_lt_of_cell? w _ ρ)).trans ρ)⟩ (fun hHeld=>?_)
          clear hK K
          refine qN (some 39) ?_
          refine Zy (i:=6) (N:=some 9) (v:=?_) (a':=?_) (bN 7 127) rfl rfl kr (fun _ _ _ h=>h) (Or.inl ⟨by rfl, ?_⟩) ?_ ?_
          rotate_left
          ·intro w'
           go_simp
           with_reducible rfl
          rotate_left
          ·simp only[Act.put,qS,Zg,Zj]
           rfl
          refine Zq kr ?_
          have de:0≤(B:Int):=of_decide_eq_true (by assumption)
          have df:B<(l0.length:Int):=of_decide_eq_true (by assumption)
          obtain⟨f9,ga,bp,bs,bu⟩:=Zo ν.out B de df
          obtain rfl:O=f9:=(by injection ga)
          replace bp:=(HB.out.cell (World.block_lt_of_cell? w _ bp)).trans bp
          replace bs:=(HB.out.cell (World.block_lt_of_cell? w _ bs)).trans bs
          replace bu:=(HB.out.cell (World.block_lt_of_cell? w _ bu)).trans bu
          replace de:=eq_true de
          replace df:=eq_true df
          try go_wp2_with (first|((with_reducible refine Zl (b:=.append) (xs:=#[.tmp 56,.tmp 61]) rfl ?_);at_builtin;refine Kd.Z5 k56 (w0:=w) w.heap.size rfl (.tmp 56) (.tmp 61) 24 56 (.agg #[(.int .i64 0),(.int .i64 0),(.int .i64 0)]) 24 rfl Try.underlying24 Xr rfl (by decide) (by omega) u5 D (⟨(Qa l0 B).f0,(Qa l0 B).f1,(Qa l0 B).f2⟩:S56) [.int .i64 ((Qa l0 B).f0),.int .i64 ((Qa l0 B).f1),.int .i64 ((Qa l0 B).f2)] (fun k_=>k_≠Y) (fun _=>False) rfl rfl ?aP (fun _ hk=>hk.elim) ?aF ?aO ?aB ?aS ?aL ?_;(case aP=>exact Xi _ _ _ (⟨(Qa l0 B).f0,(Qa l0 B).f1,(Qa l0 B).f2⟩:S56));(case aB=>exact HB.out);(case aF=>exact(fun k_ hk=>Kd.Xc (g:=Y) (o:=.cells #[.int .i64 I,.int .i64 L,.int .i64 X] 56 (0,0)) J.out k_ hk));(case aO=>exact HO_5.out);(case aS=>exact(Qj HB.out));(case aL=>have:=f7.out;omega);intro h7 k2 ho hb hg hat;rw[← f8.out] at ho;have fa:=Aside0.mk ho;replace J:=Aside0.mk (Q8 (g:=Y) (o:=.cells #[.int .i64 I,.int .i64 L,.int .i64 X] 56 (0,0)) J.out hg (Kd.Xk HO_5.out (fun _ hk=>hk)));replace HB:=Aside0.mk hb;clear HO_5;clear ho hb hg hat))
          go_roundg k1
          case measure=>have:= ξ.out;omega
          case rel=>exact⟨(ed),(true),(wrap64 (B+1)),rfl,rfl,H',⟨by have:= ξ.out;omega⟩,⟨by(with_reducible repeat first|apply Kd.Qm|apply Kd.Ql|apply Kd.Qn);exact fa.out⟩,J,HB⟩
         ·rw[if_neg g7] at H
          exact absurd H (by simp)
        ·rw[if_neg cd] at H
         have c31b0:(((Qa l0 B).f1)==L)=false:=beq_eq_false_iff_ne.mpr cd
         have c31b1:(((Qa l0 B).f1) != L)=true:=bne_iff_ne.mpr cd
         by_cases eo:D.length<5864062014805
         ·rw[if_pos eo] at H
          have fb:=Aside0.mk eo
          clear eo
          obtain⟨ee,b9⟩:∃ y_:List (S56),y_=(D ++ [(⟨(Qa l0 B).f0,(Qa l0 B).f1,(Qa l0 B).f2⟩:S56)]):=⟨_,rfl⟩
          replace H:(newelref19_withHall.l0 k1 l0 ee false (wrap64 (B+1)) I L X)=some r:=by first|(rw[b9];with_reducible exact H)|(have δ :=(Option.bind_some _ _).symm.trans H;rw[b9];with_reducible exact δ)|(have δ :=(Option.bind_some _ _).symm.trans H;with_reducible exact δ)|with_reducible exact H|(rw[b9];exact H)|exact H
          have fe:=Aside0.mk b9
          clear b9
          have H':=Aside0.mk H
          clear H
          try go_wp2
          replace HO_5:=Aside0.mk (Kd.Qn HO_5.out)
          replace J:=Aside0.mk (Qb J.out)
          replace HB:=Aside0.mk (Qe HB.out)
          have a1:0≤(B:Int):=of_decide_eq_true (by assumption)
          have a2:B<(l0.length:Int):=of_decide_eq_true (by assumption)
          obtain⟨O,ao,Z,γ,ε⟩:=Zo ν.out B a1 a2
          have φ := ε
          have χ :=γ
          have ψ :=Z
          cases ao
          replace Z:=(HB.out.cell (World.block_lt_of_cell? w _ Z)).trans Z
          replace γ:=(HB.out.cell (World.block_lt_of_cell? w _ γ)).trans γ
          replace ε :=(HB.out.cell (World.block_lt_of_cell? w _ ε)).trans ε
          replace a1:=eq_true a1
          replace a2:=eq_true a2
          have ai:0≤(B:Int):=of_decide_eq_true (by assumption)
          have aj:B<(l0.length:Int):=of_decide_eq_true (by assumption)
          obtain⟨av,b1,ζ,η,θ⟩:=Zo ν.out B ai aj
          have ab:= θ
          have ac:= η
          have ae:= ζ
          obtain rfl:O=av:=(by injection b1)
          replace ζ :=(HB.out.cell (World.block_lt_of_cell? w _ ζ)).trans ζ
          replace η :=(HB.out.cell (World.block_lt_of_cell? w _ η)).trans η
          replace θ :=(HB.out.cell (World.block_lt_of_cell? w _ θ)).trans θ
          replace ai:=eq_true ai
          replace aj:=eq_true aj
          refine Ze (n:=19) (S:=fun w'=>w'.cell? ⟨Y,0,none⟩=some (.int .i64 I)∧w'.cell? ⟨Y,1,none⟩=some (.int .i64 L)∧w'.cell? ⟨Y,2,none⟩=some (.int .i64 X)∧w'.cell? (O.add ((B).toNat * 3))=some (.int .i64 ((Qa l0 B).f0))∧w'.cell? ⟨(O.add ((B).toNat * 3)).block,(O.add ((B).toNat * 3)).off+1,none⟩=some (.int .i64 ((Qa l0 B).f1))∧w'.cell? ⟨(O.add ((B).toNat * 3)).block,(O.add ((B).toNat * 3)).off+2,none⟩=some (.int .i64 ((Qa l0 B).f2))∧w'.cell? (O.add ((B).toNat * 3))=some (.int .i64 ((Qa l0 B).f0))∧w'.cell? ⟨(O.add ((B).toNat * 3)).block,(O.add ((B).toNat * 3)).off+1,none⟩=some (.int .i64 ((Qa l0 B).f1))∧w'.cell? ⟨(O.add ((B).toNat * 3)).block,(O.add ((B).toNat * 3)).off+2,none⟩=some (.int .i64 ((Qa l0 B).f2))) (ds:=[]) #[false,false,false,false,false,false,false,false,false,false,false,false,false,false,false,false,false,false,false] kr rfl rfl ⟨(Qi J.out 0).trans rfl,(Qi J.out 1).trans rfl,(Qi J.out 2).trans rfl,((HB.out.cell (World.block_lt_of_cell? w _ ψ)).trans ψ),((HB.out.cell (World.block_lt_of_cell? w _ χ)).trans χ),((HB.out.cell (World.block_lt_of_cell? w _ φ)).trans φ),((HB.out.cell (World.block_lt_of_cell? w _ ae)).trans ae),((HB.out.cell (World.block_lt_of_cell? w _ ac)).trans ac),((HB.out.cell (World.block_lt_of_cell? w _ ab)).trans ab)⟩ (fun hHeld=>?_);refine Q4 newelref19_withHall.K8 newelref19_withHall.Jt (fun HT_ HW_=>?_)
          generalize wr.drew=d9 at HO_5 J HB Z γ ε ζ η θ hHeld ⊢
          refine qP 0 (some 16) (bN 19 1) HT_ ?_
          refine qP 1 (some 17) (bN 19 3) HT_ ?_
          refine qP 2 (some 18) (bN 19 7) HT_ ?_
          refine qP 3 (some 19) (bN 19 15) HT_ ?_
          refine qP 5 (some 21) (bN 19 47) HT_ ?_
          refine qT 4 (some 20) (bN 19 63) HT_ HW_ hHeld ?_
          refine qT 6 (some 22) (bN 19 127) HT_ HW_ hHeld ?_
          refine qP 7 (some 23) (bN 19 255) HT_ ?_
          refine qP 8 (some 24) (bN 19 511) HT_ ?_
          refine qP 9 (some 25) (bN 19 1023) HT_ ?_
          refine qP 10 (some 26) (bN 19 2047) HT_ ?_
          refine qP 11 (some 27) (bN 19 4095) HT_ ?_
          refine qP 12 (some 28) (bN 19 8191) HT_ ?_
          refine qP 14 (some 30) (bN 19 24575) HT_ ?_
          refine qT 13 (some 29) (bN 19 32767) HT_ HW_ hHeld ?_
          refine qT 15 (some 31) (bN 19 65535) HT_ HW_ hHeld ?_
          refine qP 16 (some 32) (bN 19 131071) HT_ ?_
          refine qP 17 (some 33) (bN 19 262143) HT_ ?_
          refine qP 18 (some 8) (bN 19 524287) HT_ ?_
          refine Zq (Zd HT_.out kr) ?_
          try go_wp2
          replace HO_5:=Aside0.mk (Kd.Qn HO_5.out)
          replace J:=Aside0.mk (Qb J.out)
          replace HB:=Aside0.mk (Qe HB.out)
          have ak:0≤(B:Int):=of_decide_eq_true (by assumption)
          have al:B<(l0.length:Int):=of_decide_eq_true (by assumption)
          obtain⟨aw,b2,ι,κ,μ⟩:=Zo ν.out B ak al
          have ρ:= μ
          have σ:= κ
          have τ := ι
          obtain rfl:O=aw:=(by injection b2)
          replace ι :=(HB.out.cell (World.block_lt_of_cell? w _ ι)).trans ι
          replace κ :=(HB.out.cell (World.block_lt_of_cell? w _ κ)).trans κ
          replace μ :=(HB.out.cell (World.block_lt_of_cell? w _ μ)).trans μ
          replace ak:=eq_true ak
          replace al:=eq_true al
          refine Ze (n:=7) (S:=fun w'=>w'.cell? ⟨Y,0,none⟩=some (.int .i64 I)∧w'.cell? ⟨Y,1,none⟩=some (.int .i64 L)∧w'.cell? ⟨Y,2,none⟩=some (.int .i64 X)∧w'.cell? (O.add ((B).toNat * 3))=some (.int .i64 ((Qa l0 B).f0))∧w'.cell? ⟨(O.add ((B).toNat * 3)).block,(O.add ((B).toNat * 3)).off+1,none⟩=some (.int .i64 ((Qa l0 B).f1))∧w'.cell? ⟨(O.add ((B).toNat * 3)).block,(O.add ((B).toNat * 3)).off+2,none⟩=some (.int .i64 ((Qa l0 B).f2))) (ds:=[]) #[false,false,false,false,false,false,false] kr rfl rfl ⟨(Qi J.out 0).trans rfl,(Qi J.out 1).trans rfl,(Qi J.out 2).trans rfl,((HB.out.cell (World.block_lt_of_cell? w _ τ)).trans τ),((HB.out.cell (World.block_lt_of_cell? w _ σ)).trans σ),((HB.out.cell (World.block_lt_of_cell? w _ ρ)).trans ρ)⟩ (fun hHeld=>?_)
          generalize d9.drew=br at HO_5 J HB ι κ μ hHeld ⊢
          refine Zy (i:=1) (N:=some 35) (v:=?_) (a':=?_) (bN 7 2) rfl rfl kr (fun _ _ _ h=>h) (Or.inl ⟨by rfl, ?_⟩) ?_ ?_
          rotate_left
          ·intro w'
           go_simp
           with_reducible rfl
          rotate_left
          ·simp only[Act.put,qS,Zg,Zj]
           rfl
          refine Zy (i:=2) (N:=some 36) (v:=?_) (a':=?_) (bN 7 6) rfl rfl kr (fun _ _ _ h=>h) (Or.inl ⟨by rfl, ?_⟩) ?_ ?_
          rotate_left
          ·intro w'
           go_simp
           with_reducible rfl
          rotate_left
          ·simp only[Act.put,qS,Zg,Zj]
           rfl
          refine Zy (i:=3) (N:=some 37) (v:=?_) (a':=?_) (bN 7 14) rfl rfl kr (fun _ _ _ h=>h) (Or.inl ⟨by rfl, ?_⟩) ?_ ?_
          rotate_left
          ·intro w'
           go_simp
           with_reducible rfl
          rotate_left
          ·simp only[Act.put,qS,Zg,Zj]
           rfl
          refine Xs (i:=0) (N:=some 34) (v:=?_) (a':=?_) (bN 7 15) rfl rfl kr (fun _ _ _ h=>h) (Or.inl ⟨by rfl, ?_⟩) hHeld ?_ ?_
          rotate_left
          ·rintro w' ⟨s0,s1,s2,s3,s4,s5⟩
           go_simp
           with_reducible rfl
          rotate_left
          ·simp only[Act.put,qS,Zg,Zj]
           rfl
          refine Xs (i:=4) (N:=some 38) (v:=?_) (a':=?_) (bN 7 31) rfl rfl kr (fun _ _ _ h=>h) (Or.inl ⟨by rfl, ?_⟩) hHeld ?_ ?_
          rotate_left
          ·rintro w' ⟨s0,s1,s2,s3,s4,s5⟩
           go_simp
           with_reducible rfl
          rotate_left
          ·simp only[Act.put,qS,Zg,Zj]
           rfl
          refine Zi (i:=5) (N:=some 39) (bN 7 63) rfl rfl kr (by decide) (fun K hK=>?_)
          refine Zc Try.func38 kr rfl #[.agg #[.int .i64 I,.int .i64 L,.int .i64 X],.agg #[.int .i64 ((Qa l0 B).f0),.int .i64 ((Qa l0 B).f1),.int .i64 ((Qa l0 B).f2)]] (by rfl) rfl rfl qM ?_
          with_reducible refine(newelref19_ahead.calls I L X ((Qa l0 B).f0) ((Qa l0 B).f1) ((Qa l0 B).f2) false _ A7.out).mono ?_
          rintro e jq ⟨rfl,hb⟩
          refine⟨_,rfl, ?_⟩
          replace HO_5:=sRb HO_5 hb
          replace J:=sBk J hb
          replace HB:=sHb hb
          (try clear hb)
          (try clear a0)
          (try clear hk)
          (try clear hi)
          refine hK.out _ _ ⟨qc J,qc J,qc J,((HB.out.cell (World.block_lt_of_cell? w _ τ)).trans τ),((HB.out.cell (World.block_lt_of_cell? w _ σ)).trans σ),((HB.out.cell (World.block_lt_of_cell? w _ ρ)).trans ρ)⟩ (fun hHeld=>?_)
          clear hK K
          refine qN (some 39) ?_
          refine Zy (i:=6) (N:=some 9) (v:=?_) (a':=?_) (bN 7 127) rfl rfl kr (fun _ _ _ h=>h) (Or.inl ⟨by rfl, ?_⟩) ?_ ?_
          rotate_left
          ·intro w'
           go_simp
           with_reducible rfl
          rotate_left
          ·simp only[Act.put,qS,Zg,Zj]
           rfl
          refine Zq kr ?_
          have dh:0≤(B:Int):=of_decide_eq_true (by assumption)
          have di:B<(l0.length:Int):=of_decide_eq_true (by assumption)
          obtain⟨ff,gb,bv,bw,bz⟩:=Zo ν.out B dh di
          obtain rfl:O=ff:=(by injection gb)
          replace bv:=(HB.out.cell (World.block_lt_of_cell? w _ bv)).trans bv
          replace bw:=(HB.out.cell (World.block_lt_of_cell? w _ bw)).trans bw
          replace bz:=(HB.out.cell (World.block_lt_of_cell? w _ bz)).trans bz
          replace dh:=eq_true dh
          replace di:=eq_true di
          try go_wp2_with (first|((with_reducible refine Zl (b:=.append) (xs:=#[.tmp 56,.tmp 61]) rfl ?_);at_builtin;refine Kd.Z5 k56 (w0:=w) w.heap.size rfl (.tmp 56) (.tmp 61) 24 56 (.agg #[(.int .i64 0),(.int .i64 0),(.int .i64 0)]) 24 rfl Try.underlying24 Xr rfl (by decide) (by omega) u5 D (⟨(Qa l0 B).f0,(Qa l0 B).f1,(Qa l0 B).f2⟩:S56) [.int .i64 ((Qa l0 B).f0),.int .i64 ((Qa l0 B).f1),.int .i64 ((Qa l0 B).f2)] (fun k_=>k_≠Y) (fun _=>False) rfl rfl ?aP (fun _ hk=>hk.elim) ?aF ?aO ?aB ?aS ?aL ?_;(case aP=>exact Xi _ _ _ (⟨(Qa l0 B).f0,(Qa l0 B).f1,(Qa l0 B).f2⟩:S56));(case aB=>exact HB.out);(case aF=>exact(fun k_ hk=>Kd.Xc (g:=Y) (o:=.cells #[.int .i64 I,.int .i64 L,.int .i64 X] 56 (0,0)) J.out k_ hk));(case aO=>exact HO_5.out);(case aS=>exact(Qj HB.out));(case aL=>have:=fb.out;omega);intro h8 hj ho hb hg hat;rw[← fe.out] at ho;have fg:=Aside0.mk ho;replace J:=Aside0.mk (Q8 (g:=Y) (o:=.cells #[.int .i64 I,.int .i64 L,.int .i64 X] 56 (0,0)) J.out hg (Kd.Xk HO_5.out (fun _ hk=>hk)));replace HB:=Aside0.mk hb;clear HO_5;clear ho hb hg hat))
          go_roundg k1
          case measure=>have:= ξ.out;omega
          case rel=>exact⟨(ee),(false),(wrap64 (B+1)),rfl,rfl,H',⟨by have:= ξ.out;omega⟩,⟨by(with_reducible repeat first|apply Kd.Qm|apply Kd.Ql|apply Kd.Qn);exact fg.out⟩,J,HB⟩
         ·rw[if_neg eo] at H
          exact absurd H (by simp)
     ·rw[if_neg c6] at H
      have c6b0:(((Qa l0 B).f0)==I)=false:=beq_eq_false_iff_ne.mpr c6
      have c6b1:(((Qa l0 B).f0) != I)=true:=bne_iff_ne.mpr c6
      replace H:=Option.bind_eq_some_iff.mp H
      obtain⟨au,ef,H⟩:=H
      replace H:(if U=true then (if D.length<5864062014805 then (newelref19_withHall.l0 k1 l0 (D ++ [(⟨(Qa l0 B).f0,(Qa l0 B).f1,(Qa l0 B).f2⟩:S56)]) true (wrap64 (B+1)) I L X) else (none)) else (if au=true then (if D.length<5864062014805 then ((some (D ++ [(⟨I,L,X⟩:S56)]:List (S56))).bind fun am=>(if am.length<5864062014805 then (newelref19_withHall.l0 k1 l0 (am ++ [(⟨(Qa l0 B).f0,(Qa l0 B).f1,(Qa l0 B).f2⟩:S56)]) au (wrap64 (B+1)) I L X) else (none))) else (none)) else (if D.length<5864062014805 then (newelref19_withHall.l0 k1 l0 (D ++ [(⟨(Qa l0 B).f0,(Qa l0 B).f1,(Qa l0 B).f2⟩:S56)]) au (wrap64 (B+1)) I L X) else (none))))=some r:=H
      have eg:=Aside0.mk ef
      clear ef
      by_cases cg:U=true
      ·subst cg
       have H1:(if D.length<5864062014805 then (newelref19_withHall.l0 k1 l0 (D ++ [(⟨(Qa l0 B).f0,(Qa l0 B).f1,(Qa l0 B).f2⟩:S56)]) true (wrap64 (B+1)) I L X) else (none))=some r:=by rw[if_pos rfl] at H;exact H
       clear H
       have H:=H1
       clear H1
       by_cases fk:D.length<5864062014805
       ·rw[if_pos fk] at H
        have fh:=Aside0.mk fk
        clear fk
        obtain⟨eh,ba⟩:∃ y_:List (S56),y_=(D ++ [(⟨(Qa l0 B).f0,(Qa l0 B).f1,(Qa l0 B).f2⟩:S56)]):=⟨_,rfl⟩
        replace H:(newelref19_withHall.l0 k1 l0 eh true (wrap64 (B+1)) I L X)=some r:=by first|(rw[ba];with_reducible exact H)|(have δ :=(Option.bind_some _ _).symm.trans H;rw[ba];with_reducible exact δ)|(have δ :=(Option.bind_some _ _).symm.trans H;with_reducible exact δ)|with_reducible exact H|(rw[ba];exact H)|exact H
        have fj:=Aside0.mk ba
        clear ba
        have H':=Aside0.mk H
        clear H
        try go_wp2
        replace HO_5:=Aside0.mk (Kd.Qn HO_5.out)
        replace J:=Aside0.mk (Qb J.out)
        replace HB:=Aside0.mk (Qe HB.out)
        have a1:0≤(B:Int):=of_decide_eq_true (by assumption)
        have a2:B<(l0.length:Int):=of_decide_eq_true (by assumption)
        obtain⟨O,ao,Z,γ,ε⟩:=Zo ν.out B a1 a2
        have φ := ε
        have χ :=γ
        have ψ :=Z
        cases ao
        replace Z:=(HB.out.cell (World.block_lt_of_cell? w _ Z)).trans Z
        replace γ:=(HB.out.cell (World.block_lt_of_cell? w _ γ)).trans γ
        replace ε :=(HB.out.cell (World.block_lt_of_cell? w _ ε)).trans ε
        replace a1:=eq_true a1
        replace a2:=eq_true a2
        refine Ze (n:=19) (S:=fun w'=>w'.cell? ⟨Y,0,none⟩=some (.int .i64 I)∧w'.cell? ⟨Y,1,none⟩=some (.int .i64 L)∧w'.cell? ⟨Y,2,none⟩=some (.int .i64 X)∧w'.cell? (O.add ((B).toNat * 3))=some (.int .i64 ((Qa l0 B).f0))∧w'.cell? ⟨(O.add ((B).toNat * 3)).block,(O.add ((B).toNat * 3)).off+1,none⟩=some (.int .i64 ((Qa l0 B).f1))∧w'.cell? ⟨(O.add ((B).toNat * 3)).block,(O.add ((B).toNat * 3)).off+2,none⟩=some (.int .i64 ((Qa l0 B).f2))) (ds:=[]) #[false,false,false,false,false,false,false,false,false,false,false,false,false,false,false,false,false,false,false] kr rfl rfl ⟨(Qi J.out 0).trans rfl,(Qi J.out 1).trans rfl,(Qi J.out 2).trans rfl,((HB.out.cell (World.block_lt_of_cell? w _ ψ)).trans ψ),((HB.out.cell (World.block_lt_of_cell? w _ χ)).trans χ),((HB.out.cell (World.block_lt_of_cell? w _ φ)).trans φ)⟩ (fun hHeld=>?_);refine Q4 newelref19_withHall.K8 newelref19_withHall.Jt (fun HT_ HW_=>?_)
        generalize wr.drew=dq at HO_5 J HB Z γ ε hHeld ⊢
        refine qP 0 (some 16) (bN 19 1) HT_ ?_
        refine qP 1 (some 17) (bN 19 3) HT_ ?_
        refine qP 2 (some 18) (bN 19 7) HT_ ?_
        refine qP 3 (some 19) (bN 19 15) HT_ ?_
        refine qP 5 (some 21) (bN 19 47) HT_ ?_
        refine qT 4 (some 20) (bN 19 63) HT_ HW_ hHeld ?_
        refine qT 6 (some 22) (bN 19 127) HT_ HW_ hHeld ?_
        refine qP 7 (some 23) (bN 19 255) HT_ ?_
        refine qP 8 (some 24) (bN 19 511) HT_ ?_
        refine qU 9 (some 25) (bN 19 1023) HT_ ?_
        refine qU 10 (some 26) (bN 19 2047) HT_ ?_
        refine qU 11 (some 27) (bN 19 4095) HT_ ?_
        refine qU 12 (some 28) (bN 19 8191) HT_ ?_
        refine qU 13 (some 29) (bN 19 16383) HT_ ?_
        refine qU 14 (some 30) (bN 19 32767) HT_ ?_
        refine qU 15 (some 31) (bN 19 65535) HT_ ?_
        refine qU 16 (some 32) (bN 19 131071) HT_ ?_
        refine qP 17 (some 33) (bN 19 262143) HT_ ?_
        refine qP 18 (some 8) (bN 19 524287) HT_ ?_
        refine Zq (Zd HT_.out kr) ?_
        try go_wp2
        replace HO_5:=Aside0.mk (Kd.Qn HO_5.out)
        replace J:=Aside0.mk (Qb J.out)
        replace HB:=Aside0.mk (Qe HB.out)
        have ax:0≤(B:Int):=of_decide_eq_true (by assumption)
        have b0:B<(l0.length:Int):=of_decide_eq_true (by assumption)
        obtain⟨bb,ct,a3,a6,a7⟩:=Zo ν.out B ax b0
        have af:=a7
        have ag:=a6
        have ah:=a3
        obtain rfl:O=bb:=(by injection ct)
        replace a3:=(HB.out.cell (World.block_lt_of_cell? w _ a3)).trans a3
        replace a6:=(HB.out.cell (World.block_lt_of_cell? w _ a6)).trans a6
        replace a7:=(HB.out.cell (World.block_lt_of_cell? w _ a7)).trans a7
        replace ax:=eq_true ax
        replace b0:=eq_true b0
        refine Ze (n:=7) (S:=fun w'=>w'.cell? ⟨Y,0,none⟩=some (.int .i64 I)∧w'.cell? ⟨Y,1,none⟩=some (.int .i64 L)∧w'.cell? ⟨Y,2,none⟩=some (.int .i64 X)∧w'.cell? (O.add ((B).toNat * 3))=some (.int .i64 ((Qa l0 B).f0))∧w'.cell? ⟨(O.add ((B).toNat * 3)).block,(O.add ((B).toNat * 3)).off+1,none⟩=some (.int .i64 ((Qa l0 B).f1))∧w'.cell? ⟨(O.add ((B).toNat * 3)).block,(O.add ((B).toNat * 3)).off+2,none⟩=some (.int .i64 ((Qa l0 B).f2))) (ds:=[]) #[false,false,false,false,false,false,false] kr rfl rfl ⟨(Qi J.out 0).trans rfl,(Qi J.out 1).trans rfl,(Qi J.out 2).trans rfl,((HB.out.cell (World.block_lt_of_cell? w _ ah)).trans ah),((HB.out.cell (World.block_lt_of_cell? w _ ag)).trans ag),((HB.out.cell (World.block_lt_of_cell? w _ af)).trans af)⟩ (fun hHeld=>?_)
        generalize dq.drew=gs at HO_5 J HB a3 a6 a7 hHeld ⊢
        refine Zy (i:=1) (N:=some 35) (v:=?_) (a':=?_) (bN 7 2) rfl rfl kr (fun _ _ _ h=>h) (Or.inl ⟨by rfl, ?_⟩) ?_ ?_
        rotate_left
        ·intro w'
         go_simp
         with_reducible rfl
        rotate_left
        ·simp only[Act.put,qS,Zg,Zj]
         rfl
        refine Zy (i:=2) (N:=some 36) (v:=?_) (a':=?_) (bN 7 6) rfl rfl kr (fun _ _ _ h=>h) (Or.inl ⟨by rfl, ?_⟩) ?_ ?_
        rotate_left
        ·intro w'
         go_simp
         with_reducible rfl
        rotate_left
        ·simp only[Act.put,qS,Zg,Zj]
         rfl
        refine Zy (i:=3) (N:=some 37) (v:=?_) (a':=?_) (bN 7 14) rfl rfl kr (fun _ _ _ h=>h) (Or.inl ⟨by rfl, ?_⟩) ?_ ?_
        rotate_left
        ·intro w'
         go_simp
         with_reducible rfl
        rotate_left
        ·simp only[Act.put,qS,Zg,Zj]
         rfl
        refine Xs (i:=0) (N:=some 34) (v:=?_) (a':=?_) (bN 7 15) rfl rfl kr (fun _ _ _ h=>h) (Or.inl ⟨by rfl, ?_⟩) hHeld ?_ ?_
        rotate_left
        ·rintro w' ⟨s0,s1,s2,s3,s4,s5⟩
         go_simp
         with_reducible rfl
        rotate_left
        ·simp only[Act.put,qS,Zg,Zj]
         rfl
        refine Xs (i:=4) (N:=some 38) (v:=?_) (a':=?_) (bN 7 31) rfl rfl kr (fun _ _ _ h=>h) (Or.inl ⟨by rfl, ?_⟩) hHeld ?_ ?_
        rotate_left
        ·rintro w' ⟨s0,s1,s2,s3,s4,s5⟩
         go_simp
         with_reducible rfl
        rotate_left
        ·simp only[Act.put,qS,Zg,Zj]
         rfl
        refine Zi (i:=5) (N:=some 39) (bN 7 63) rfl rfl kr (by decide) (fun K hK=>?_)
        refine Zc Try.func38 kr rfl #[.agg #[.int .i64 I,.int .i64 L,.int .i64 X],.agg #[.int .i64 ((Qa l0 B).f0),.int .i64 ((Qa l0 B).f1),.int .i64 ((Qa l0 B).f2)]] (by rfl) rfl rfl qM ?_
        with_reducible refine(newelref19_ahead.calls I L X ((Qa l0 B).f0) ((Qa l0 B).f1) ((Qa l0 B).f2) au _ eg.out).mono ?_
        rintro e gz ⟨rfl,hb⟩
        refine⟨_,rfl, ?_⟩
        replace HO_5:=sRb HO_5 hb
        replace J:=sBk J hb
        replace HB:=sHb hb
        (try clear hb)
        (try clear a0)
        (try clear hk)
        (try clear hi)
        refine hK.out _ _ ⟨qc J,qc J,qc J,((HB.out.cell (World.block_lt_of_cell? w _ ah)).trans ah),((HB.out.cell (World.block_lt_of_cell? w _ ag)).trans ag),((HB.out.cell (World.block_lt_of_cell? w _ af)).trans af)⟩ (fun hHeld=>?_)
        clear hK K
        refine qN (some 39) ?_
        refine Zy (i:=6) (N:=some 9) (v:=?_) (a':=?_) (bN 7 127) rfl rfl kr (fun _ _ _ h=>h) (Or.inl ⟨by rfl, ?_⟩) ?_ ?_
        rotate_left
        ·intro w'
         go_simp
         with_reducible rfl
        rotate_left
        ·simp only[Act.put,qS,Zg,Zj]
         rfl
        refine Zq kr ?_
        have dj:0≤(B:Int):=of_decide_eq_true (by assumption)
        have dk:B<(l0.length:Int):=of_decide_eq_true (by assumption)
        obtain⟨fl,ge,ca,cb,ce⟩:=Zo ν.out B dj dk
        obtain rfl:O=fl:=(by injection ge)
        replace ca:=(HB.out.cell (World.block_lt_of_cell? w _ ca)).trans ca
        replace cb:=(HB.out.cell (World.block_lt_of_cell? w _ cb)).trans cb
        replace ce:=(HB.out.cell (World.block_lt_of_cell? w _ ce)).trans ce
        replace dj:=eq_true dj
        replace dk:=eq_true dk
        try go_wp2_with (first|((with_reducible refine Zl (b:=.append) (xs:=#[.tmp 56,.tmp 61]) rfl ?_);at_builtin;refine Kd.Z5 k56 (w0:=w) w.heap.size rfl (.tmp 56) (.tmp 61) 24 56 (.agg #[(.int .i64 0),(.int .i64 0),(.int .i64 0)]) 24 rfl Try.underlying24 Xr rfl (by decide) (by omega) u5 D (⟨(Qa l0 B).f0,(Qa l0 B).f1,(Qa l0 B).f2⟩:S56) [.int .i64 ((Qa l0 B).f0),.int .i64 ((Qa l0 B).f1),.int .i64 ((Qa l0 B).f2)] (fun k_=>k_≠Y) (fun _=>False) rfl rfl ?aP (fun _ hk=>hk.elim) ?aF ?aO ?aB ?aS ?aL ?_;(case aP=>exact Xi _ _ _ (⟨(Qa l0 B).f0,(Qa l0 B).f1,(Qa l0 B).f2⟩:S56));(case aB=>exact HB.out);(case aF=>exact(fun k_ hk=>Kd.Xc (g:=Y) (o:=.cells #[.int .i64 I,.int .i64 L,.int .i64 X] 56 (0,0)) J.out k_ hk));(case aO=>exact HO_5.out);(case aS=>exact(Qj HB.out));(case aL=>have:=fh.out;omega);intro h9 fi ho hb hg hat;rw[← fj.out] at ho;have fm:=Aside0.mk ho;replace J:=Aside0.mk (Q8 (g:=Y) (o:=.cells #[.int .i64 I,.int .i64 L,.int .i64 X] 56 (0,0)) J.out hg (Kd.Xk HO_5.out (fun _ hk=>hk)));replace HB:=Aside0.mk hb;clear HO_5;clear ho hb hg hat))
        go_roundg k1
        case measure=>have:= ξ.out;omega
        case rel=>exact⟨(eh),(true),(wrap64 (B+1)),rfl,rfl,H',⟨by have:= ξ.out;omega⟩,⟨by(with_reducible repeat first|apply Kd.Qm|apply Kd.Ql|apply Kd.Qn);exact fm.out⟩,J,HB⟩
       ·rw[if_neg fk] at H
        exact absurd H (by simp)
      ·replace cg:=Bool.eq_false_iff.mpr cg
       subst cg
       have H1:(if au=true then (if D.length<5864062014805 then ((some (D ++ [(⟨I,L,X⟩:S56)]:List (S56))).bind fun am=>(if am.length<5864062014805 then (newelref19_withHall.l0 k1 l0 (am ++ [(⟨(Qa l0 B).f0,(Qa l0 B).f1,(Qa l0 B).f2⟩:S56)]) au (wrap64 (B+1)) I L X) else (none))) else (none)) else (if D.length<5864062014805 then (newelref19_withHall.l0 k1 l0 (D ++ [(⟨(Qa l0 B).f0,(Qa l0 B).f1,(Qa l0 B).f2⟩:S56)]) au (wrap64 (B+1)) I L X) else (none)))=some r:=by rw[if_neg (show ¬ (false=true) by decide)] at H;exact H
       clear H
       have H:=H1
       clear H1
       by_cases dn:au=true
       ·subst dn
        have H1:(if D.length<5864062014805 then ((some (D ++ [(⟨I,L,X⟩:S56)]:List (S56))).bind fun am=>(if am.length<5864062014805 then (newelref19_withHall.l0 k1 l0 (am ++ [(⟨(Qa l0 B).f0,(Qa l0 B).f1,(Qa l0 B).f2⟩:S56)]) true (wrap64 (B+1)) I L X) else (none))) else (none))=some r:=by rw[if_pos rfl] at H;exact H
        clear H
        have H:=H1
        clear H1
        by_cases ep:D.length<5864062014805
        ·rw[if_pos ep] at H
         have fn:=Aside0.mk ep
         clear ep
         obtain⟨am,bc⟩:∃ y_:List (S56),y_=(D ++ [(⟨I,L,X⟩:S56)]):=⟨_,rfl⟩
         replace H:(if am.length<5864062014805 then (newelref19_withHall.l0 k1 l0 (am ++ [(⟨(Qa l0 B).f0,(Qa l0 B).f1,(Qa l0 B).f2⟩:S56)]) true (wrap64 (B+1)) I L X) else (none))=some r:=by first|(rw[bc];with_reducible exact H)|(have δ :=(Option.bind_some _ _).symm.trans H;rw[bc];with_reducible exact δ)|(have δ :=(Option.bind_some _ _).symm.trans H;with_reducible exact δ)|with_reducible exact H|(rw[bc];exact H)|exact H
         have fo:=Aside0.mk bc
         clear bc
         by_cases dt:am.length<5864062014805
         ·rw[if_pos dt] at H
          have fp:=Aside0.mk dt
          clear dt
          obtain⟨ei,bd⟩:∃ y_:List (S56),y_=(am ++ [(⟨(Qa l0 B).f0,(Qa l0 B).f1,(Qa l0 B).f2⟩:S56)]):=⟨_,rfl⟩
          replace H:(newelref19_withHall.l0 k1 l0 ei true (wrap64 (B+1)) I L X)=some r:=by first|(rw[bd];with_reducible exact H)|(have δ :=(Option.bind_some _ _).symm.trans H;rw[bd];with_reducible exact δ)|(have δ :=(Option.bind_some _ _).symm.trans H;with_reducible exact δ)|with_reducible exact H|(rw[bd];exact H)|exact H
          have fv:=Aside0.mk bd
          clear bd
          have H':=Aside0.mk H
          clear H
          try go_wp2
          replace HO_5:=Aside0.mk (Kd.Qn HO_5.out)
          replace J:=Aside0.mk (Qb J.out)
          replace HB:=Aside0.mk (Qe HB.out)
          have a1:0≤(B:Int):=of_decide_eq_true (by assumption)
          have a2:B<(l0.length:Int):=of_decide_eq_true (by assumption)
          obtain⟨O,ao,Z,γ,ε⟩:=Zo ν.out B a1 a2
          have φ := ε
          have χ :=γ
          have ψ :=Z
          cases ao
          replace Z:=(HB.out.cell (World.block_lt_of_cell? w _ Z)).trans Z
          replace γ:=(HB.out.cell (World.block_lt_of_cell? w _ γ)).trans γ
          replace ε :=(HB.out.cell (World.block_lt_of_cell? w _ ε)).trans ε
          replace a1:=eq_true a1
          replace a2:=eq_true a2
          refine Ze (n:=19) (S:=fun w'=>w'.cell? ⟨Y,0,none⟩=some (.int .i64 I)∧w'.cell? ⟨Y,1,none⟩=some (.int .i64 L)∧w'.cell? ⟨Y,2,none⟩=some (.int .i64 X)∧w'.cell? (O.add ((B).toNat * 3))=some (.int .i64 ((Qa l0 B).f0))∧w'.cell? ⟨(O.add ((B).toNat * 3)).block,(O.add ((B).toNat * 3)).off+1,none⟩=some (.int .i64 ((Qa l0 B).f1))∧w'.cell? ⟨(O.add ((B).toNat * 3)).block,(O.add ((B).toNat * 3)).off+2,none⟩=some (.int .i64 ((Qa l0 B).f2))) (ds:=[]) #[false,false,false,false,false,false,false,false,false,false,false,false,false,false,false,false,false,false,false] kr rfl rfl ⟨(Qi J.out 0).trans rfl,(Qi J.out 1).trans rfl,(Qi J.out 2).trans rfl,((HB.out.cell (World.block_lt_of_cell? w _ ψ)).trans ψ),((HB.out.cell (World.block_lt_of_cell? w _ χ)).trans χ),((HB.out.cell (World.block_lt_of_cell? w _ φ)).trans φ)⟩ (fun hHeld=>?_);refine Q4 newelref19_withHall.K8 newelref19_withHall.Jt (fun HT_ HW_=>?_)
          generalize wr.drew=gx at HO_5 J HB Z γ ε hHeld ⊢
          refine qP 0 (some 16) (bN 19 1) HT_ ?_
          refine qP 1 (some 17) (bN 19 3) HT_ ?_
          refine qP 2 (some 18) (bN 19 7) HT_ ?_
          refine qP 3 (some 19) (bN 19 15) HT_ ?_
          refine qP 5 (some 21) (bN 19 47) HT_ ?_
          refine qT 4 (some 20) (bN 19 63) HT_ HW_ hHeld ?_
          refine qT 6 (some 22) (bN 19 127) HT_ HW_ hHeld ?_
          refine qP 7 (some 23) (bN 19 255) HT_ ?_
          refine qP 8 (some 24) (bN 19 511) HT_ ?_
          refine qU 9 (some 25) (bN 19 1023) HT_ ?_
          refine qU 10 (some 26) (bN 19 2047) HT_ ?_
          refine qU 11 (some 27) (bN 19 4095) HT_ ?_
          refine qU 12 (some 28) (bN 19 8191) HT_ ?_
          refine qU 13 (some 29) (bN 19 16383) HT_ ?_
          refine qU 14 (some 30) (bN 19 32767) HT_ ?_
          refine qU 15 (some 31) (bN 19 65535) HT_ ?_
          refine qU 16 (some 32) (bN 19 131071) HT_ ?_
          refine qP 17 (some 33) (bN 19 262143) HT_ ?_
          refine qP 18 (some 8) (bN 19 524287) HT_ ?_
          refine Zq (Zd HT_.out kr) ?_
          try go_wp2
          replace HO_5:=Aside0.mk (Kd.Qn HO_5.out)
          replace J:=Aside0.mk (Qb J.out)
          replace HB:=Aside0.mk (Qe HB.out)
          have ax:0≤(B:Int):=of_decide_eq_true (by assumption)
          have b0:B<(l0.length:Int):=of_decide_eq_true (by assumption)
          obtain⟨bb,ct,a3,a6,a7⟩:=Zo ν.out B ax b0
          have af:=a7
          have ag:=a6
          have ah:=a3
          obtain rfl:O=bb:=(by injection ct)
          replace a3:=(HB.out.cell (World.block_lt_of_cell? w _ a3)).trans a3
          replace a6:=(HB.out.cell (World.block_lt_of_cell? w _ a6)).trans a6
          replace a7:=(HB.out.cell (World.block_lt_of_cell? w _ a7)).trans a7
          replace ax:=eq_true ax
          replace b0:=eq_true b0
          refine Ze (n:=7) (S:=fun w'=>w'.cell? ⟨Y,0,none⟩=some (.int .i64 I)∧w'.cell? ⟨Y,1,none⟩=some (.int .i64 L)∧w'.cell? ⟨Y,2,none⟩=some (.int .i64 X)∧w'.cell? (O.add ((B).toNat * 3))=some (.int .i64 ((Qa l0 B).f0))∧w'.cell? ⟨(O.add ((B).toNat * 3)).block,(O.add ((B).toNat * 3)).off+1,none⟩=some (.int .i64 ((Qa l0 B).f1))∧w'.cell? ⟨(O.add ((B).toNat * 3)).block,(O.add ((B).toNat * 3)).off+2,none⟩=some (.int .i64 ((Qa l0 B).f2))) (ds:=[]) #[false,false,false,false,false,false,false] kr rfl rfl ⟨(Qi J.out 0).trans rfl,(Qi J.out 1).trans rfl,(Qi J.out 2).trans rfl,((HB.out.cell (World.block_lt_of_cell? w _ ah)).trans ah),((HB.out.cell (World.block_lt_of_cell? w _ ag)).trans ag),((HB.out.cell (World.block_lt_of_cell? w _ af)).trans af)⟩ (fun hHeld=>?_)
          generalize gx.drew=jf at HO_5 J HB a3 a6 a7 hHeld ⊢
          refine Zy (i:=1) (N:=some 35) (v:=?_) (a':=?_) (bN 7 2) rfl rfl kr (fun _ _ _ h=>h) (Or.inl ⟨by rfl, ?_⟩) ?_ ?_
          rotate_left
          ·intro w'
           go_simp
           with_reducible rfl
          rotate_left
          ·simp only[Act.put,qS,Zg,Zj]
           rfl
          refine Zy (i:=2) (N:=some 36) (v:=?_) (a':=?_) (bN 7 6) rfl rfl kr (fun _ _ _ h=>h) (Or.inl ⟨by rfl, ?_⟩) ?_ ?_
          rotate_left
          ·intro w'
           go_simp
           with_reducible rfl
          rotate_left
          ·simp only[Act.put,qS,Zg,Zj]
           rfl
          refine Zy (i:=3) (N:=some 37) (v:=?_) (a':=?_) (bN 7 14) rfl rfl kr (fun _ _ _ h=>h) (Or.inl ⟨by rfl, ?_⟩) ?_ ?_
          rotate_left
          ·intro w'
           go_simp
           with_reducible rfl
          rotate_left
          ·simp only[Act.put,qS,Zg,Zj]
           rfl
          refine Xs (i:=0) (N:=some 34) (v:=?_) (a':=?_) (bN 7 15) rfl rfl kr (fun _ _ _ h=>h) (Or.inl ⟨by rfl, ?_⟩) hHeld ?_ ?_
          rotate_left
          ·rintro w' ⟨s0,s1,s2,s3,s4,s5⟩
           go_simp
           with_reducible rfl
          rotate_left
          ·simp only[Act.put,qS,Zg,Zj]
           rfl
          refine Xs (i:=4) (N:=some 38) (v:=?_) (a':=?_) (bN 7 31) rfl rfl kr (fun _ _ _ h=>h) (Or.inl ⟨by rfl, ?_⟩) hHeld ?_ ?_
          rotate_left
          ·rintro w' ⟨s0,s1,s2,s3,s4,s5⟩
           go_simp
           with_reducible rfl
          rotate_left
          ·simp only[Act.put,qS,Zg,Zj]
           rfl
          refine Zi (i:=5) (N:=some 39) (bN 7 63) rfl rfl kr (by decide) (fun K hK=>?_)
          refine Zc Try.func38 kr rfl #[.agg #[.int .i64 I,.int .i64 L,.int .i64 X],.agg #[.int .i64 ((Qa l0 B).f0),.int .i64 ((Qa l0 B).f1),.int .i64 ((Qa l0 B).f2)]] (by rfl) rfl rfl qM ?_
          with_reducible refine(newelref19_ahead.calls I L X ((Qa l0 B).f0) ((Qa l0 B).f1) ((Qa l0 B).f2) true _ eg.out).mono ?_
          rintro e g4 ⟨rfl,hb⟩
          refine⟨_,rfl, ?_⟩
          replace HO_5:=sRb HO_5 hb
          replace J:=sBk J hb
          replace HB:=sHb hb
          (try clear hb)
          (try clear a0)
          (try clear hk)
          (try clear hi)
          refine hK.out _ _ ⟨qc J,qc J,qc J,((HB.out.cell (World.block_lt_of_cell? w _ ah)).trans ah),((HB.out.cell (World.block_lt_of_cell? w _ ag)).trans ag),((HB.out.cell (World.block_lt_of_cell? w _ af)).trans af)⟩ (fun hHeld=>?_)
          clear hK K
          refine qN (some 39) ?_
          refine Zy (i:=6) (N:=some 9) (v:=?_) (a':=?_) (bN 7 127) rfl rfl kr (fun _ _ _ h=>h) (Or.inl ⟨by rfl, ?_⟩) ?_ ?_
          rotate_left
          ·intro w'
           go_simp
           with_reducible rfl
          rotate_left
          ·simp only[Act.put,qS,Zg,Zj]
           rfl
          refine Zq kr ?_
          obtain⟨gn,gp,gq,gr,gt,gu⟩:=qD3 J.out
          try go_wp2_with (first|((with_reducible refine Zl (b:=.append) (xs:=#[.tmp 45,.tmp 47]) rfl ?_);at_builtin;refine Kd.Z5 k56 (w0:=w) w.heap.size rfl (.tmp 45) (.tmp 47) 24 56 (.agg #[(.int .i64 0),(.int .i64 0),(.int .i64 0)]) 24 rfl Try.underlying24 Xr rfl (by decide) (by omega) u5 D (⟨I,L,X⟩:S56) [.int .i64 I,.int .i64 L,.int .i64 X] (fun k_=>k_≠Y) (fun _=>False) rfl rfl ?aP (fun _ hk=>hk.elim) ?aF ?aO ?aB ?aS ?aL ?_;(case aP=>exact Xi _ _ _ (⟨I,L,X⟩:S56));(case aB=>exact HB.out);(case aF=>exact(fun k_ hk=>Kd.Xc (g:=Y) (o:=.cells #[.int .i64 I,.int .i64 L,.int .i64 X] 56 (0,0)) J.out k_ hk));(case aO=>exact HO_5.out);(case aS=>exact(Qj HB.out));(case aL=>have:=fn.out;omega);intro gf gh ho hb hg hat;rw[← fo.out] at ho;have cv:=Aside0.mk ho;replace J:=Aside0.mk (Q8 (g:=Y) (o:=.cells #[.int .i64 I,.int .i64 L,.int .i64 X] 56 (0,0)) J.out hg (Kd.Xk HO_5.out (fun _ hk=>hk)));replace HB:=Aside0.mk hb;clear HO_5;clear ho hb hg hat;have dl:0≤(B:Int):=of_decide_eq_true (by assumption);have dx:B<(l0.length:Int):=of_decide_eq_true (by assumption);obtain⟨fw,gg,cf,ch,ci⟩:=Zo ν.out B dl dx;obtain rfl:O=fw:=(by injection gg);replace cf:=(HB.out.cell (World.block_lt_of_cell? w _ cf)).trans cf;replace ch:=(HB.out.cell (World.block_lt_of_cell? w _ ch)).trans ch;replace ci:=(HB.out.cell (World.block_lt_of_cell? w _ ci)).trans ci;replace dl:=eq_true dl;replace dx:=eq_true dx)|((with_reducible refine Zl (b:=.append) (xs:=#[.tmp 56,.tmp 61]) rfl ?_);at_builtin;refine Kd.Z5 k56 (w0:=w) w.heap.size rfl (.tmp 56) (.tmp 61) 24 56 (.agg #[(.int .i64 0),(.int .i64 0),(.int .i64 0)]) 24 rfl Try.underlying24 Xr rfl (by decide) (by omega) gf am (⟨(Qa l0 B).f0,(Qa l0 B).f1,(Qa l0 B).f2⟩:S56) [.int .i64 ((Qa l0 B).f0),.int .i64 ((Qa l0 B).f1),.int .i64 ((Qa l0 B).f2)] (fun k_=>k_≠Y) (fun _=>False) rfl rfl ?aP (fun _ hk=>hk.elim) ?aF ?aO ?aB ?aS ?aL ?_;(case aP=>exact Xi _ _ _ (⟨(Qa l0 B).f0,(Qa l0 B).f1,(Qa l0 B).f2⟩:S56));(case aB=>exact HB.out);(case aF=>exact(fun k_ hk=>Kd.Xc (g:=Y) (o:=.cells #[.int .i64 I,.int .i64 L,.int .i64 X] 56 (0,0)) J.out k_ hk));(case aO=>exact cv.out);(case aS=>exact(Qj HB.out));(case aL=>have:=fp.out;omega);intro ha dp ho hb hg hat;rw[← fv.out] at ho;have fx:=Aside0.mk ho;replace J:=Aside0.mk (Q8 (g:=Y) (o:=.cells #[.int .i64 I,.int .i64 L,.int .i64 X] 56 (0,0)) J.out hg (Kd.Xk cv.out (fun _ hk=>hk)));replace HB:=Aside0.mk hb;clear cv;clear ho hb hg hat))
          go_roundg k1
          case measure=>have:= ξ.out;omega
          case rel=>exact⟨(ei),(true),(wrap64 (B+1)),rfl,rfl,H',⟨by have:= ξ.out;omega⟩,⟨by(with_reducible repeat first|apply Kd.Qm|apply Kd.Ql|apply Kd.Qn);exact fx.out⟩,J,HB⟩
         ·rw[if_neg dt] at H
          exact absurd H (by simp)
        ·rw[if_neg ep] at H
         exact absurd H (by simp)
       ·replace dn:=Bool.eq_false_iff.mpr dn
        subst dn
        have H1:(if D.length<5864062014805 then (newelref19_withHall.l0 k1 l0 (D ++ [(⟨(Qa l0 B).f0,(Qa l0 B).f1,(Qa l0 B).f2⟩:S56)]) false (wrap64 (B+1)) I L X) else (none))=some r:=by rw[if_neg (show ¬ (false=true) by decide)] at H;exact H
        clear H
        have H:=H1
        clear H1
        by_cases du:D.length<5864062014805
        ·rw[if_pos du] at H
         have fc:=Aside0.mk du
         clear du
         obtain⟨ej,be⟩:∃ y_:List (S56),y_=(D ++ [(⟨(Qa l0 B).f0,(Qa l0 B).f1,(Qa l0 B).f2⟩:S56)]):=⟨_,rfl⟩
         replace H:(newelref19_withHall.l0 k1 l0 ej false (wrap64 (B+1)) I L X)=some r:=by first|(rw[be];with_reducible exact H)|(have δ :=(Option.bind_some _ _).symm.trans H;rw[be];with_reducible exact δ)|(have δ :=(Option.bind_some _ _).symm.trans H;with_reducible exact δ)|with_reducible exact H|(rw[be];exact H)|exact H
         have fy:=Aside0.mk be
         clear be
         have H':=Aside0.mk H
         clear H
         try go_wp2
         replace HO_5:=Aside0.mk (Kd.Qn HO_5.out)
         replace J:=Aside0.mk (Qb J.out)
         replace HB:=Aside0.mk (Qe HB.out)
         have a1:0≤(B:Int):=of_decide_eq_true (by assumption)
         have a2:B<(l0.length:Int):=of_decide_eq_true (by assumption)
         obtain⟨O,ao,Z,γ,ε⟩:=Zo ν.out B a1 a2
         have φ := ε
         have χ :=γ
         have ψ :=Z
         cases ao
         replace Z:=(HB.out.cell (World.block_lt_of_cell? w _ Z)).trans Z
         replace γ:=(HB.out.cell (World.block_lt_of_cell? w _ γ)).trans γ
         replace ε :=(HB.out.cell (World.block_lt_of_cell? w _ ε)).trans ε
         replace a1:=eq_true a1
         replace a2:=eq_true a2
         refine Ze (n:=19) (S:=fun w'=>w'.cell? ⟨Y,0,none⟩=some (.int .i64 I)∧w'.cell? ⟨Y,1,none⟩=some (.int .i64 L)∧w'.cell? ⟨Y,2,none⟩=some (.int .i64 X)∧w'.cell? (O.add ((B).toNat * 3))=some (.int .i64 ((Qa l0 B).f0))∧w'.cell? ⟨(O.add ((B).toNat * 3)).block,(O.add ((B).toNat * 3)).off+1,none⟩=some (.int .i64 ((Qa l0 B).f1))∧w'.cell? ⟨(O.add ((B).toNat * 3)).block,(O.add ((B).toNat * 3)).off+2,none⟩=some (.int .i64 ((Qa l0 B).f2))) (ds:=[]) #[false,false,false,false,false,false,false,false,false,false,false,false,false,false,false,false,false,false,false] kr rfl rfl ⟨(Qi J.out 0).trans rfl,(Qi J.out 1).trans rfl,(Qi J.out 2).trans rfl,((HB.out.cell (World.block_lt_of_cell? w _ ψ)).trans ψ),((HB.out.cell (World.block_lt_of_cell? w _ χ)).trans χ),((HB.out.cell (World.block_lt_of_cell? w _ φ)).trans φ)⟩ (fun hHeld=>?_);refine Q4 newelref19_withHall.K8 newelref19_withHall.Jt (fun HT_ HW_=>?_)
         generalize wr.drew=i4 at HO_5 J HB Z γ ε hHeld ⊢
         refine qP 0 (some 16) (bN 19 1) HT_ ?_
         refine qP 1 (some 17) (bN 19 3) HT_ ?_
         refine qP 2 (some 18) (bN 19 7) HT_ ?_
         refine qP 3 (some 19) (bN 19 15) HT_ ?_
         refine qP 5 (some 21) (bN 19 47) HT_ ?_
         refine qT 4 (some 20) (bN 19 63) HT_ HW_ hHeld ?_
         refine qT 6 (some 22) (bN 19 127) HT_ HW_ hHeld ?_
         refine qP 7 (some 23) (bN 19 255) HT_ ?_
         refine qP 8 (some 24) (bN 19 511) HT_ ?_
         refine qU 9 (some 25) (bN 19 1023) HT_ ?_
         refine qU 10 (some 26) (bN 19 2047) HT_ ?_
         refine qU 11 (some 27) (bN 19 4095) HT_ ?_
         refine qU 12 (some 28) (bN 19 8191) HT_ ?_
         refine qU 13 (some 29) (bN 19 16383) HT_ ?_
         refine qU 14 (some 30) (bN 19 32767) HT_ ?_
         refine qU 15 (some 31) (bN 19 65535) HT_ ?_
         refine qU 16 (some 32) (bN 19 131071) HT_ ?_
         refine qP 17 (some 33) (bN 19 262143) HT_ ?_
         refine qP 18 (some 8) (bN 19 524287) HT_ ?_
         refine Zq (Zd HT_.out kr) ?_
         try go_wp2
         replace HO_5:=Aside0.mk (Kd.Qn HO_5.out)
         replace J:=Aside0.mk (Qb J.out)
         replace HB:=Aside0.mk (Qe HB.out)
         have ax:0≤(B:Int):=of_decide_eq_true (by assumption)
         have b0:B<(l0.length:Int):=of_decide_eq_true (by assumption)
         obtain⟨bb,ct,a3,a6,a7⟩:=Zo ν.out B ax b0
         have af:=a7
         have ag:=a6
         have ah:=a3
         obtain rfl:O=bb:=(by injection ct)
         replace a3:=(HB.out.cell (World.block_lt_of_cell? w _ a3)).trans a3
         replace a6:=(HB.out.cell (World.block_lt_of_cell? w _ a6)).trans a6
         replace a7:=(HB.out.cell (World.block_lt_of_cell? w _ a7)).trans a7
         replace ax:=eq_true ax
         replace b0:=eq_true b0
         refine Ze (n:=7) (S:=fun w'=>w'.cell? ⟨Y,0,none⟩=some (.int .i64 I)∧w'.cell? ⟨Y,1,none⟩=some (.int .i64 L)∧w'.cell? ⟨Y,2,none⟩=some (.int .i64 X)∧w'.cell? (O.add ((B).toNat * 3))=some (.int .i64 ((Qa l0 B).f0))∧w'.cell? ⟨(O.add ((B).toNat * 3)).block,(O.add ((B).toNat * 3)).off+1,none⟩=some (.int .i64 ((Qa l0 B).f1))∧w'.cell? ⟨(O.add ((B).toNat * 3)).block,(O.add ((B).toNat * 3)).off+2,none⟩=some (.int .i64 ((Qa l0 B).f2))) (ds:=[]) #[false,false,false,false,false,false,false] kr rfl rfl ⟨(Qi J.out 0).trans rfl,(Qi J.out 1).trans rfl,(Qi J.out 2).trans rfl,((HB.out.cell (World.block_lt_of_cell? w _ ah)).trans ah),((HB.out.cell (World.block_lt_of_cell? w _ ag)).trans ag),((HB.out.cell (World.block_lt_of_cell? w _ af)).trans af)⟩ (fun hHeld=>?_)
         generalize i4.drew=jc at HO_5 J HB a3 a6 a7 hHeld ⊢
         refine Zy (i:=1) (N:=some 35) (v:=?_) (a':=?_) (bN 7 2) rfl rfl kr (fun _ _ _ h=>h) (Or.inl ⟨by rfl, ?_⟩) ?_ ?_
         rotate_left
         ·intro w'
          go_simp
          with_reducible rfl
         rotate_left
         ·simp only[Act.put,qS,Zg,Zj]
          rfl
         refine Zy (i:=2) (N:=some 36) (v:=?_) (a':=?_) (bN 7 6) rfl rfl kr (fun _ _ _ h=>h) (Or.inl ⟨by rfl, ?_⟩) ?_ ?_
         rotate_left
         ·intro w'
          go_simp
          with_reducible rfl
         rotate_left
         ·simp only[Act.put,qS,Zg,Zj]
          rfl
         refine Zy (i:=3) (N:=some 37) (v:=?_) (a':=?_) (bN 7 14) rfl rfl kr (fun _ _ _ h=>h) (Or.inl ⟨by rfl, ?_⟩) ?_ ?_
         rotate_left
         ·intro w'
          go_simp
          with_reducible rfl
         rotate_left
         ·simp only[Act.put,qS,Zg,Zj]
          rfl
         refine Xs (i:=0) (N:=some 34) (v:=?_) (a':=?_) (bN 7 15) rfl rfl kr (fun _ _ _ h=>h) (Or.inl ⟨by rfl, ?_⟩) hHeld ?_ ?_
         rotate_left
         ·rintro w' ⟨s0,s1,s2,s3,s4,s5⟩
          go_simp
          with_reducible rfl
         rotate_left
         ·simp only[Act.put,qS,Zg,Zj]
          rfl
         refine Xs (i:=4) (N:=some 38) (v:=?_) (a':=?_) (bN 7 31) rfl rfl kr (fun _ _ _ h=>h) (Or.inl ⟨by rfl, ?_⟩) hHeld ?_ ?_
         rotate_left
         ·rintro w' ⟨s0,s1,s2,s3,s4,s5⟩
          go_simp
          with_reducible rfl
         rotate_left
         ·simp only[Act.put,qS,Zg,Zj]
          rfl
         refine Zi (i:=5) (N:=some 39) (bN 7 63) rfl rfl kr (by decide) (fun K hK=>?_)
         refine Zc Try.func38 kr rfl #[.agg #[.int .i64 I,.int .i64 L,.int .i64 X],.agg #[.int .i64 ((Qa l0 B).f0),.int .i64 ((Qa l0 B).f1),.int .i64 ((Qa l0 B).f2)]] (by rfl) rfl rfl qM ?_
         with_reducible refine(newelref19_ahead.calls I L X ((Qa l0 B).f0) ((Qa l0 B).f1) ((Qa l0 B).f2) false _ eg.out).mono ?_
         rintro e ih ⟨rfl,hb⟩
         refine⟨_,rfl, ?_⟩
         replace HO_5:=sRb HO_5 hb
         replace J:=sBk J hb
         replace HB:=sHb hb
         (try clear hb)
         (try clear a0)
         (try clear hk)
         (try clear hi)
         refine hK.out _ _ ⟨qc J,qc J,qc J,((HB.out.cell (World.block_lt_of_cell? w _ ah)).trans ah),((HB.out.cell (World.block_lt_of_cell? w _ ag)).trans ag),((HB.out.cell (World.block_lt_of_cell? w _ af)).trans af)⟩ (fun hHeld=>?_)
         clear hK K
         refine qN (some 39) ?_
         refine Zy (i:=6) (N:=some 9) (v:=?_) (a':=?_) (bN 7 127) rfl rfl kr (fun _ _ _ h=>h) (Or.inl ⟨by rfl, ?_⟩) ?_ ?_
         rotate_left
         ·intro w'
          go_simp
          with_reducible rfl
         rotate_left
         ·simp only[Act.put,qS,Zg,Zj]
          rfl
         refine Zq kr ?_
         have dy:0≤(B:Int):=of_decide_eq_true (by assumption)
         have dz:B<(l0.length:Int):=of_decide_eq_true (by assumption)
         obtain⟨fz,gi,cj,ck,cm⟩:=Zo ν.out B dy dz
         obtain rfl:O=fz:=(by injection gi)
         replace cj:=(HB.out.cell (World.block_lt_of_cell? w _ cj)).trans cj
         replace ck:=(HB.out.cell (World.block_lt_of_cell? w _ ck)).trans ck
         replace cm:=(HB.out.cell (World.block_lt_of_cell? w _ cm)).trans cm
         replace dy:=eq_true dy
         replace dz:=eq_true dz
         try go_wp2_with (first|((with_reducible refine Zl (b:=.append) (xs:=#[.tmp 56,.tmp 61]) rfl ?_);at_builtin;refine Kd.Z5 k56 (w0:=w) w.heap.size rfl (.tmp 56) (.tmp 61) 24 56 (.agg #[(.int .i64 0),(.int .i64 0),(.int .i64 0)]) 24 rfl Try.underlying24 Xr rfl (by decide) (by omega) u5 D (⟨(Qa l0 B).f0,(Qa l0 B).f1,(Qa l0 B).f2⟩:S56) [.int .i64 ((Qa l0 B).f0),.int .i64 ((Qa l0 B).f1),.int .i64 ((Qa l0 B).f2)] (fun k_=>k_≠Y) (fun _=>False) rfl rfl ?aP (fun _ hk=>hk.elim) ?aF ?aO ?aB ?aS ?aL ?_;(case aP=>exact Xi _ _ _ (⟨(Qa l0 B).f0,(Qa l0 B).f1,(Qa l0 B).f2⟩:S56));(case aB=>exact HB.out);(case aF=>exact(fun k_ hk=>Kd.Xc (g:=Y) (o:=.cells #[.int .i64 I,.int .i64 L,.int .i64 X] 56 (0,0)) J.out k_ hk));(case aO=>exact HO_5.out);(case aS=>exact(Qj HB.out));(case aL=>have:=fc.out;omega);intro he jd ho hb hg hat;rw[← fy.out] at ho;have g0:=Aside0.mk ho;replace J:=Aside0.mk (Q8 (g:=Y) (o:=.cells #[.int .i64 I,.int .i64 L,.int .i64 X] 56 (0,0)) J.out hg (Kd.Xk HO_5.out (fun _ hk=>hk)));replace HB:=Aside0.mk hb;clear HO_5;clear ho hb hg hat))
         go_roundg k1
         case measure=>have:= ξ.out;omega
         case rel=>exact⟨(ej),(false),(wrap64 (B+1)),rfl,rfl,H',⟨by have:= ξ.out;omega⟩,⟨by(with_reducible repeat first|apply Kd.Qm|apply Kd.Ql|apply Kd.Qn);exact g0.out⟩,J,HB⟩
        ·rw[if_neg du] at H
         exact absurd H (by simp)
    ·rw[if_neg c5] at H
     exact absurd H (by simp)
   ·rw[if_neg c4] at H
    have c4b0:decide (B<(l0.length:Int))=false:=decide_eq_false c4
    clear c4
    by_cases i6:U=true
    ·subst i6
     have H1:(some D)=some r:=by rw[if_pos rfl] at H;exact H
     clear H
     have H:=H1
     clear H1
     obtain rfl:=Option.some.inj H
     go_wp2
     go_ret
     exact⟨_,rfl,by(with_reducible repeat first|apply Kd.Qm|apply Kd.Ql|apply Kd.Qn);exact Kd.Qr HO_5.out (fun _ hk=>trivial),HB.out⟩
    ·replace i6:=Bool.eq_false_iff.mpr i6
     subst i6
     have H1:(if D.length<5864062014805 then (some (D ++ [(⟨I,L,X⟩:S56)])) else (none))=some r:=by rw[if_neg (show ¬ (false=true) by decide)] at H;exact H
     clear H
     have H:=H1
     clear H1
     by_cases e3:D.length<5864062014805
     ·rw[if_pos e3] at H
      have g1:=Aside0.mk e3
      clear e3
      obtain⟨gj,bf⟩:∃ y_:List (S56),y_=(D ++ [(⟨I,L,X⟩:S56)]):=⟨_,rfl⟩
      replace H:(some gj)=some r:=by first|(rw[bf];with_reducible exact H)|(have δ :=(Option.bind_some _ _).symm.trans H;rw[bf];with_reducible exact δ)|(have δ :=(Option.bind_some _ _).symm.trans H;with_reducible exact δ)|with_reducible exact H|(rw[bf];exact H)|exact H
      have g2:=Aside0.mk bf
      clear bf
      obtain rfl:=Option.some.inj H
      obtain⟨fq,fr,gv,ft,fu,gw⟩:=qD3 J.out
      go_wp2_with (first|((with_reducible refine Zl (b:=.append) (xs:=#[.tmp 65,.tmp 67]) rfl ?_);at_builtin;refine Kd.Z5 k56 (w0:=w) w.heap.size rfl (.tmp 65) (.tmp 67) 24 56 (.agg #[(.int .i64 0),(.int .i64 0),(.int .i64 0)]) 24 rfl Try.underlying24 Xr rfl (by decide) (by omega) u5 D (⟨I,L,X⟩:S56) [.int .i64 I,.int .i64 L,.int .i64 X] (fun k_=>k_≠Y) (fun _=>False) rfl rfl ?aP (fun _ hk=>hk.elim) ?aF ?aO ?aB ?aS ?aL ?_;(case aP=>exact Xi _ _ _ (⟨I,L,X⟩:S56));(case aB=>exact HB.out);(case aF=>exact(fun k_ hk=>Kd.Xc (g:=Y) (o:=.cells #[.int .i64 I,.int .i64 L,.int .i64 X] 56 (0,0)) J.out k_ hk));(case aO=>exact HO_5.out);(case aS=>exact(Qj HB.out));(case aL=>have:=g1.out;omega);intro hh ij ho hb hg hat;rw[← g2.out] at ho;have g3:=Aside0.mk ho;replace J:=Aside0.mk (Q8 (g:=Y) (o:=.cells #[.int .i64 I,.int .i64 L,.int .i64 X] 56 (0,0)) J.out hg (Kd.Xk HO_5.out (fun _ hk=>hk)));replace HB:=Aside0.mk hb;clear HO_5;clear ho hb hg hat))
      go_ret
      exact⟨_,rfl,by(with_reducible repeat first|apply Kd.Qm|apply Kd.Ql|apply Kd.Qn);exact Kd.Qr g3.out (fun _ hk=>trivial),HB.out⟩
     ·rw[if_neg e3] at H
      exact absurd H (by simp)
def newelref19_Press.f (k:Nat) (J:List (S56)) (D:List (S62)) (I:Int) (L:Int) (X:Int):Option ((List (S56))×(List (S62))):=if I=2 then ((newelref19_withIn.f k D X L).bind fun a2=>(some (J,a2))) else (if I=1 then ((newelref19_withHall.f k J L (-1) (-1)).bind fun ψ =>(some (ψ,D))) else ((newelref19_withHall.f k J L 1 (-1)).bind fun a1=>(some (a1,D))))
theorem newelref19_Press.mono:∀ D L a2 X I k,LeO (newelref19_Press.f k D L a2 X I) (newelref19_Press.f (k+1) D L a2 X I):=by
 intro D L a2 X I k
 unfold newelref19_Press.f
 repeat' first
   |(with_reducible exact newelref19_withHall.mono _ _ _ _ _)
   |(with_reducible exact newelref19_withIn.mono _ _ _ _)
   |(with_reducible exact LeO.refl _)
   |(with_reducible exact LeO.none _)
   |(with_reducible refine LeO.ite ?_ ?_)
   |(with_reducible refine LeO.bind ?_ (fun _=>?_))
   |exact newelref19_withHall.mono _ _ _ _ _
   |exact newelref19_withIn.mono _ _ _ _
   |exact LeO.none _
   |refine LeO.ite ?_ ?_
   |refine LeO.bind ?_ (fun _=>?_)
def newelref19_Press.T2:Bool×List (List Nat×List Nat):=(true,[([],[]),([0],[0]),([],[]),([2],[2]),([],[]),([4],[4]),([],[]),([6],[6]),([5,7],[5,7]),([3,8],[3,8]),([1,9],[1,9]),([10,9,0,1,2,3,4,5,6,7,8,9,10],[10])])
def newelref19_Press.B2:List Nat:=[0,1,0,4,0,16,0,64,240,508,1023,2047]
theorem newelref19_Press.Nq:rtab .any (opsOf Try.f17 2)=newelref19_Press.T2:=by kernel_rfl
theorem newelref19_Press.W9:Zv newelref19_Press.T2.2 newelref19_Press.B2=true:=by kernel_rfl
def newelref19_Press.T6:Bool×List (List Nat×List Nat):=(true,[([],[]),([0],[0]),([],[]),([2],[2]),([],[]),([3,4],[3,4]),([1,5],[1,5]),([],[]),([7],[7]),([6,8],[6,8]),([9,6,0,1,2,3,4,5,6,7,8,9],[9])])
def newelref19_Press.B6:List Nat:=[0,1,0,4,0,28,63,0,128,511,1023]
theorem newelref19_Press.K8:rtab .any (opsOf Try.f17 6)=newelref19_Press.T6:=by kernel_rfl
theorem newelref19_Press.Jt:Zv newelref19_Press.T6.2 newelref19_Press.B6=true:=by kernel_rfl
set_option maxHeartbeats 8000000 in
set_option maxRecDepth 100000 in
theorem newelref19_Press.calls (k:Nat) (a4:Nat→Prop) (μ :Option Addr) (θ :Nat) (J:List (S56)) (a5:Nat→Prop) (ν :Option Addr) (τ :Nat) (D:List (S62)) (I:Int) (L:Int) (X:Int) (r1:List (S56)) (r2:List (S62)) (w:World) (ao:Kd.V k56 56 w w.heap.size (fun k_=>a4 k_) (.slice μ J.length θ) J) (ar:Kd.V k62 62 w w.heap.size (fun k_=>a5 k_) (.slice ν D.length τ) D) (h:newelref19_Press.f k J D I L X=some (r1,r2)):
  Calls Try.prog 17 #[.agg #[.slice μ J.length θ,.slice ν D.length τ],.agg #[.int .i64 I,.int .i64 L,.int .i64 X]] w fun e w'=>∃ ω ba:Value,e = .returned (.agg #[ω,ba])∧Kd.V k56 56 w' w.heap.size (fun k_=>((a4 k_∨a5 k_)∨w.heap.size≤k_)) ω r1∧Kd.V k62 62 w' w.heap.size (fun k_=>((a4 k_∨a5 k_)∨w.heap.size≤k_)) ba r2∧Below w.heap.size w w':=by
 have d6:=Try.underlying27
 have gf:=Try.underlying29
 have b8:=Try.underlying62
 have ay:=Try.underlying56
 have Z:=Aside0.mk (show Kd.V k56 56 w w.heap.size (fun k_=>((a4 k_∨a5 k_)∨w.heap.size≤k_)) (.slice μ J.length θ) J from Kd.Yu ao (fun k_ hk=>.inl (.inl hk)))
 have γ:=Aside0.mk (show Kd.V k62 62 w w.heap.size (fun k_=>((a4 k_∨a5 k_)∨w.heap.size≤k_)) (.slice ν D.length τ) D from Kd.Yu ar (fun k_ hk=>.inl (.inr hk)))
 have HB:=Aside0.mk (Below.refl w.heap.size w)
 have H:(if I=2 then ((newelref19_withIn.f k D X L).bind fun a2=>(some (J,a2))) else (if I=1 then ((newelref19_withHall.f k J L (-1) (-1)).bind fun ψ =>(some (ψ,D))) else ((newelref19_withHall.f k J L 1 (-1)).bind fun a1=>(some (a1,D)))))=some (r1,r2):=h
 clear h
 by_cases c3:I=2
 ·rw[if_pos c3] at H
  have c3b0:(I==2)=true:=beq_iff_eq.mpr c3
  have c3b1:(I != 2)=false:=bne_eq_false_iff_eq.mpr c3
  clear c3
  replace H:=Option.bind_eq_some_iff.mp H
  obtain⟨a2,bv,H⟩:=H
  replace H:(some (J,a2))=some (r1,r2):=H
  have A4:=Aside0.mk bv
  clear bv
  simp only[Option.some.injEq,Prod.mk.injEq] at H
  obtain⟨rfl,rfl⟩:=H
  go_enter Try.func17,Try.ntmps17
  try go_wp2_with (first|((with_reducible refine Qp (N:=2) rfl ?_);refine qE 2 #[.slice μ J.length θ,.slice ν D.length τ] 27 ?_;intro κ hg w5 hbox hb;have O:=Aside0.mk hbox;have a6:=sGe hg;have a7:=sGe hg;replace Z:=Aside0.mk (Kd.Xj (Kd.Xf Z.out κ (Nat.le_of_eq hg.symm)) hb);replace γ:=Aside0.mk (Kd.Xj (Kd.Xf γ.out κ (Nat.le_of_eq hg.symm)) hb);replace HB:=sHb hb;clear hb hbox hg)|((with_reducible refine Qp (N:=3) rfl ?_);refine qE 3 #[.int .i64 I,.int .i64 L,.int .i64 X] 29 ?_;intro η hg w6 hbox hb;have Y:=Aside0.mk hbox;have a8:=sGe hg;have ac:=sGe hg;have ξ :=sNl O hg;have σ:=sNg O hg;replace Z:=Aside0.mk (Kd.Xj (Kd.Xf Z.out η (Nat.le_of_eq hg.symm)) hb);replace γ:=Aside0.mk (Kd.Xj (Kd.Xf γ.out η (Nat.le_of_eq hg.symm)) hb);replace O:=sBk O hb;replace HB:=sHb hb;clear hb hbox hg)|((with_reducible refine Qp (N:=4) rfl ?_);refine qE 4 #[.slice none 0 0,.slice none 0 0] 27 ?_;intro B hg w7 hbox hb;have ε :=Aside0.mk hbox;have ae:=sGe hg;have af:=sGe hg;have δ :=sNl O hg;have ι :=sNg O hg;have U:=sNl Y hg;have ζ :=sNg Y hg;replace Z:=Aside0.mk (Kd.Xj (Kd.Xf Z.out B (Nat.le_of_eq hg.symm)) hb);replace γ:=Aside0.mk (Kd.Xj (Kd.Xf γ.out B (Nat.le_of_eq hg.symm)) hb);replace O:=sBk O hb;replace Y:=sBk Y hb;replace HB:=sHb hb;clear hb hbox hg;have bc:=σ.out;have cd:= ξ.out;have g5:=U.out;have g6:= ζ.out;obtain⟨al,ax,b4,bk,bl,b5⟩:=qD3 Y.out))
  replace Z:=Aside0.mk (Kd.J0 Z.out)
  replace γ:=Aside0.mk (Kd.J0 γ.out)
  replace O:=Aside0.mk (Qb O.out)
  replace Y:=Aside0.mk (Qb Y.out)
  replace ε :=Aside0.mk (Qb ε.out)
  replace HB:=Aside0.mk (Qe HB.out)
  refine Ze (n:=12) (S:=fun w'=>w'.cell? ⟨κ,0,none⟩=some (.slice μ J.length θ)∧w'.cell? ⟨κ,1,none⟩=some (.slice ν D.length τ)∧w'.cell? ⟨η,0,none⟩=some (.int .i64 I)∧w'.cell? ⟨η,1,none⟩=some (.int .i64 L)∧w'.cell? ⟨η,2,none⟩=some (.int .i64 X)) (ds:=[]) #[false,false,false,false,false,false,false,false,false,false,false,false] kr rfl rfl ⟨(Qi O.out 0).trans rfl,(Qi O.out 1).trans rfl,(Qi Y.out 0).trans rfl,(Qi Y.out 1).trans rfl,(Qi Y.out 2).trans rfl⟩ (fun hHeld=>?_);refine Q4 newelref19_Press.Nq newelref19_Press.W9 (fun HT_ HW_=>?_)
  generalize w7.drew=dm at Z γ O Y ε HB hHeld ⊢
  refine qP 0 (some 9) (bN 12 1) HT_ ?_
  refine qP 2 (some 11) (bN 12 5) HT_ ?_
  refine qP 4 (some 13) (bN 12 21) HT_ ?_
  refine qP 6 (some 15) (bN 12 85) HT_ ?_
  refine qT 1 (some 10) (bN 12 87) HT_ HW_ hHeld ?_
  refine qT 3 (some 12) (bN 12 95) HT_ HW_ hHeld ?_
  refine qT 5 (some 14) (bN 12 127) HT_ HW_ hHeld ?_
  refine qT 7 (some 16) (bN 12 255) HT_ HW_ hHeld ?_
  refine qP 8 (some 17) (bN 12 511) HT_ ?_
  refine Zi (i:=9) (N:=some 18) (bN 12 1023) rfl rfl (Q0 HT_.out kr) (by decide) (fun K hK=>?_)
  refine Zc Try.func44 kr rfl #[.slice ν D.length τ,.agg #[.int .i64 X,.int .i64 L]] (by rfl) rfl rfl qM ?_
  with_reducible refine(newelref19_withIn.calls k _ _ D X L a2 _ ?side1 ?side2 A4.out).mono ?_
  (case side1=>exact(Kd.Yi γ.out).2.2)
  (case side2=>exact(Kd.Yi γ.out).2.1)
  rintro e d2 ⟨cf,rfl,ρ,hb⟩
  refine⟨_,rfl, ?_⟩
  have ag:=Aside0.mk (Kd.Q2 (Kd.Ws (M:=fun k_=>(w.heap.size≤k_)) ρ (Qj HB.out) (fun k_ h_=>h_)) (Qj HB.out))
  replace Z:=Aside0.mk (Kd.Ju Z.out (Kd.Zf ρ) hb)
  replace γ:=Aside0.mk (Kd.Ju γ.out (Kd.Zf ρ) hb)
  replace O:=sBk O hb
  replace Y:=sBk Y hb
  replace ε :=sBk ε hb
  replace HB:=sHb hb
  (try clear hb)
  (try clear a0)
  (try clear hk)
  (try clear hi)
  (try clear ρ)
  obtain⟨ap,a3,av⟩:=Kd.Q5 ag.out
  (first|subst av|(injection av with φ a9 χ;have aa:= φ.symm;have ab:= χ.symm;clear φ a9 χ;subst aa;subst ab))
  refine hK.out _ _ ⟨qc O,qc O,qc Y,qc Y,qc Y⟩ (fun hHeld=>?_)
  clear hK K
  refine qN (some 18) ?_
  refine qP 10 (some 19) (bN 12 2047) HT_ ?_
  refine Zi (i:=11) (N:=none) (bN 12 4095) rfl rfl (Q0 HT_.out kr) (by decide) (fun K hK=>?_)
  have bo:d2.cell? ⟨B,0,none⟩=some (.slice none 0 0):=(Qi ε.out 0).trans rfl
  have b3:=Q6 ε.out 0
  have aj:= δ.out
  have ak:=U.out
  have b0:= ι.out
  have b1:= ζ.out
  have cg:d2.cell? ⟨B,1,none⟩=some (.slice none 0 0):=(Qi ε.out 1).trans rfl
  have ca:=Q6 ε.out 1
  have au:= δ.out
  have aw:=U.out
  have az:= ι.out
  have b2:= ζ.out
  refine Y4 (w1:=?_) (by rfl) rfl ?_ ?_
  rotate_left
  ·go_simp
   rfl
  refine hK.out _ _ ⟨((cell_far (p:=⟨B,_,none⟩) δ.out _).trans (((cell_far (p:=⟨B,_,none⟩) δ.out _).trans (hHeld.1)))),((cell_far (p:=⟨B,_,none⟩) δ.out _).trans (((cell_far (p:=⟨B,_,none⟩) δ.out _).trans (hHeld.2.1)))),((cell_far (p:=⟨B,_,none⟩) U.out _).trans (((cell_far (p:=⟨B,_,none⟩) U.out _).trans (hHeld.2.2.1)))),((cell_far (p:=⟨B,_,none⟩) U.out _).trans (((cell_far (p:=⟨B,_,none⟩) U.out _).trans (hHeld.2.2.2.1)))),((cell_far (p:=⟨B,_,none⟩) U.out _).trans (((cell_far (p:=⟨B,_,none⟩) U.out _).trans (hHeld.2.2.2.2))))⟩ (fun hHeld=>?_)
  clear hK K
  refine Zq (Zd HT_.out kr) ?_
  try go_wp2
  refine bodyPost_ret (results_cell_row rfl _ _ B 27 #[.slice μ J.length θ,.slice ap a2.length a3] (0,0) _ rfl (by refine Qw (cs:=#[.slice μ J.length θ,.slice none 0 0]) ?_ 1 _ rfl;refine Qw (cs:=#[.slice none 0 0,.slice none 0 0]) ?_ 0 _ rfl;exact ε.out) Try.underlying27 rfl kr) rfl ?_
  exact⟨_,_,by first|rfl|(simp[Qy,Qx] <;> rfl)|(simp[*,Qy,Qx] <;> rfl),by(with_reducible repeat first|apply Kd.Ue|apply Kd.Ud|apply Kd.J0);exact Kd.Yu (Kd.Vw (p:=⟨B,1,none⟩) (Kd.Vw (p:=⟨B,0,none⟩) (Kd.Yu Z.out (fun k_ hk=>(⟨hk,hk.1.2⟩:_∧k_≠B))) (fun _ hk=>hk.2) (.slice μ J.length θ)) (fun _ hk=>hk.2) _) (fun _ hk=>hk.1.1.1.1.1),Kd.Yu (Kd.R_V (by(with_reducible repeat first|apply Kd.Qm|apply Kd.Ql|apply Kd.Qn);exact Kd.Qr (Kd.Qs (Kd.Qs (Kd.Qv ag.out ε.out (by decide)) (fun _ hk=>hk.2) (.slice μ J.length θ)) (fun _ hk=>hk.2) _) (fun _ hk=>hk.1.1))) (fun k_ hk=>by first|exact⟨(.inr (hk.1)),hk.2⟩|exact(.inr (hk))),bel⟩
 ·rw[if_neg c3] at H
  have c3b0:(I==2)=false:=beq_eq_false_iff_ne.mpr c3
  have c3b1:(I != 2)=true:=bne_iff_ne.mpr c3
  by_cases an:I=1
  ·rw[if_pos an] at H
   have c16b0:(I==1)=true:=beq_iff_eq.mpr an
   have c16b1:(I != 1)=false:=bne_eq_false_iff_eq.mpr an
   clear an
   replace H:=Option.bind_eq_some_iff.mp H
   obtain⟨ψ,e7,H⟩:=H
   replace H:(some (ψ,D))=some (r1,r2):=H
   have gu:=Aside0.mk e7
   clear e7
   simp only[Option.some.injEq,Prod.mk.injEq] at H
   obtain⟨rfl,rfl⟩:=H
   go_enter Try.func17,Try.ntmps17
   try go_wp2_with (first|((with_reducible refine Qp (N:=2) rfl ?_);refine qE 2 #[.slice μ J.length θ,.slice ν D.length τ] 27 ?_;intro κ hg i5 hbox hb;have O:=Aside0.mk hbox;have a6:=sGe hg;have a7:=sGe hg;replace Z:=Aside0.mk (Kd.Xj (Kd.Xf Z.out κ (Nat.le_of_eq hg.symm)) hb);replace γ:=Aside0.mk (Kd.Xj (Kd.Xf γ.out κ (Nat.le_of_eq hg.symm)) hb);replace HB:=sHb hb;clear hb hbox hg)|((with_reducible refine Qp (N:=3) rfl ?_);refine qE 3 #[.int .i64 I,.int .i64 L,.int .i64 X] 29 ?_;intro η hg dw hbox hb;have Y:=Aside0.mk hbox;have a8:=sGe hg;have ac:=sGe hg;have ξ :=sNl O hg;have σ:=sNg O hg;replace Z:=Aside0.mk (Kd.Xj (Kd.Xf Z.out η (Nat.le_of_eq hg.symm)) hb);replace γ:=Aside0.mk (Kd.Xj (Kd.Xf γ.out η (Nat.le_of_eq hg.symm)) hb);replace O:=sBk O hb;replace HB:=sHb hb;clear hb hbox hg)|((with_reducible refine Qp (N:=4) rfl ?_);refine qE 4 #[.slice none 0 0,.slice none 0 0] 27 ?_;intro B hg d0 hbox hb;have ε :=Aside0.mk hbox;have ae:=sGe hg;have af:=sGe hg;have δ :=sNl O hg;have ι :=sNg O hg;have U:=sNl Y hg;have ζ :=sNg Y hg;replace Z:=Aside0.mk (Kd.Xj (Kd.Xf Z.out B (Nat.le_of_eq hg.symm)) hb);replace γ:=Aside0.mk (Kd.Xj (Kd.Xf γ.out B (Nat.le_of_eq hg.symm)) hb);replace O:=sBk O hb;replace Y:=sBk Y hb;replace HB:=sHb hb;clear hb hbox hg;have e5:=σ.out;have ea:= ξ.out;have fa:=U.out;have fb:= ζ.out;obtain⟨bp,bq,dc,br,bs,dd⟩:=qD3 Y.out))
   replace Z:=Aside0.mk (Kd.J0 Z.out)
   replace γ:=Aside0.mk (Kd.J0 γ.out)
   replace O:=Aside0.mk (Qb O.out)
   replace Y:=Aside0.mk (Qb Y.out)
   replace ε :=Aside0.mk (Qb ε.out)
   replace HB:=Aside0.mk (Qe HB.out)
   refine Ze (n:=11) (S:=fun w'=>w'.cell? ⟨κ,0,none⟩=some (.slice μ J.length θ)∧w'.cell? ⟨κ,1,none⟩=some (.slice ν D.length τ)∧w'.cell? ⟨η,0,none⟩=some (.int .i64 I)∧w'.cell? ⟨η,1,none⟩=some (.int .i64 L)∧w'.cell? ⟨η,2,none⟩=some (.int .i64 X)) (ds:=[]) #[false,false,false,false,false,false,false,false,false,false,false] kr rfl rfl ⟨(Qi O.out 0).trans rfl,(Qi O.out 1).trans rfl,(Qi Y.out 0).trans rfl,(Qi Y.out 1).trans rfl,(Qi Y.out 2).trans rfl⟩ (fun hHeld=>?_);refine Q4 newelref19_Press.K8 newelref19_Press.Jt (fun HT_ HW_=>?_)
   generalize d0.drew=bu at Z γ O Y ε HB hHeld ⊢
   refine qP 0 (some 23) (bN 11 1) HT_ ?_
   refine qP 2 (some 25) (bN 11 5) HT_ ?_
   refine qP 4 (some 27) (bN 11 21) HT_ ?_
   refine qP 7 (some 30) (bN 11 149) HT_ ?_
   refine qT 1 (some 24) (bN 11 151) HT_ HW_ hHeld ?_
   refine qT 3 (some 26) (bN 11 159) HT_ HW_ hHeld ?_
   refine qP 5 (some 28) (bN 11 191) HT_ ?_
   refine qT 8 (some 31) (bN 11 447) HT_ HW_ hHeld ?_
   refine Zi (i:=6) (N:=some 29) (bN 11 511) rfl rfl (Q0 HT_.out kr) (by decide) (fun K hK=>?_)
   refine Zc Try.func45 kr rfl #[.slice μ J.length θ,.agg #[.int .i64 L,.int .i64 (-1),.int .i64 (-1)]] (by rfl) rfl rfl qM ?_
   with_reducible refine(newelref19_withHall.calls k _ _ J L (-1) (-1) ψ _ ?side1 ?side2 gu.out).mono ?_
   (case side1=>exact(Kd.Yi Z.out).2.2)
   (case side2=>exact(Kd.Yi Z.out).2.1)
   rintro e da ⟨ch,rfl,ρ,hb⟩
   refine⟨_,rfl, ?_⟩
   have ah:=Aside0.mk (Kd.Q2 (Kd.Ws (M:=fun k_=>(w.heap.size≤k_)) ρ (Qj HB.out) (fun k_ h_=>h_)) (Qj HB.out))
   replace Z:=Aside0.mk (Kd.Ju Z.out (Kd.Zf ρ) hb)
   replace γ:=Aside0.mk (Kd.Ju γ.out (Kd.Zf ρ) hb)
   replace O:=sBk O hb
   replace Y:=sBk Y hb
   replace ε :=sBk ε hb
   replace HB:=sHb hb
   (try clear hb)
   (try clear a0)
   (try clear hk)
   (try clear hi)
   (try clear ρ)
   obtain⟨bf,bg,bh⟩:=Kd.Q5 ah.out
   (first|subst bh|(injection bh with φ a9 χ;have aa:= φ.symm;have ab:= χ.symm;clear φ a9 χ;subst aa;subst ab))
   refine hK.out _ _ ⟨qc O,qc O,qc Y,qc Y,qc Y⟩ (fun hHeld=>?_)
   clear hK K
   refine qN (some 29) ?_
   refine qP 9 (some 32) (bN 11 1023) HT_ ?_
   refine Zi (i:=10) (N:=none) (bN 11 2047) rfl rfl (Q0 HT_.out kr) (by decide) (fun K hK=>?_)
   have dz:da.cell? ⟨B,0,none⟩=some (.slice none 0 0):=(Qi ε.out 0).trans rfl
   have df:=Q6 ε.out 0
   have ct:= δ.out
   have cv:=U.out
   have cw:= ι.out
   have cy:= ζ.out
   have lm:da.cell? ⟨B,1,none⟩=some (.slice none 0 0):=(Qi ε.out 1).trans rfl
   have ki:=Q6 ε.out 1
   have ji:= δ.out
   have jj:=U.out
   have jk:= ι.out
   have jl:= ζ.out
   refine Y4 (w1:=?_) (by rfl) rfl ?_ ?_
   rotate_left
   ·go_simp
    rfl
   refine hK.out _ _ ⟨((cell_far (p:=⟨B,_,none⟩) δ.out _).trans (((cell_far (p:=⟨B,_,none⟩) δ.out _).trans (hHeld.1)))),((cell_far (p:=⟨B,_,none⟩) δ.out _).trans (((cell_far (p:=⟨B,_,none⟩) δ.out _).trans (hHeld.2.1)))),((cell_far (p:=⟨B,_,none⟩) U.out _).trans (((cell_far (p:=⟨B,_,none⟩) U.out _).trans (hHeld.2.2.1)))),((cell_far (p:=⟨B,_,none⟩) U.out _).trans (((cell_far (p:=⟨B,_,none⟩) U.out _).trans (hHeld.2.2.2.1)))),((cell_far (p:=⟨B,_,none⟩) U.out _).trans (((cell_far (p:=⟨B,_,none⟩) U.out _).trans (hHeld.2.2.2.2))))⟩ (fun hHeld=>?_)
   clear hK K
   refine Zq (Zd HT_.out kr) ?_
   try go_wp2
   refine bodyPost_ret (results_cell_row rfl _ _ B 27 #[.slice bf ψ.length bg,.slice ν D.length τ] (0,0) _ rfl (by refine Qw (cs:=#[.slice bf ψ.length bg,.slice none 0 0]) ?_ 1 _ rfl;refine Qw (cs:=#[.slice none 0 0,.slice none 0 0]) ?_ 0 _ rfl;exact ε.out) Try.underlying27 rfl kr) rfl ?_
   exact⟨_,_,by first|rfl|(simp[Qy,Qx] <;> rfl)|(simp[*,Qy,Qx] <;> rfl),Kd.Yu (Kd.R_V (by(with_reducible repeat first|apply Kd.Qm|apply Kd.Ql|apply Kd.Qn);exact Kd.Qr (Kd.Qs (Kd.Qs (Kd.Qv ah.out ε.out (by decide)) (fun _ hk=>hk.2) _) (fun _ hk=>hk.2) (.slice ν D.length τ)) (fun _ hk=>hk.1.1))) (fun k_ hk=>by first|exact⟨(.inr (hk.1)),hk.2⟩|exact(.inr (hk))),by(with_reducible repeat first|apply Kd.Ue|apply Kd.Ud|apply Kd.J0);exact Kd.Yu (Kd.Vw (p:=⟨B,1,none⟩) (Kd.Vw (p:=⟨B,0,none⟩) (Kd.Yu γ.out (fun k_ hk=>(⟨hk,hk.1.2⟩:_∧k_≠B))) (fun _ hk=>hk.2) _) (fun _ hk=>hk.2) (.slice ν D.length τ)) (fun _ hk=>hk.1.1.1.1.1),bel⟩
  ·rw[if_neg an] at H
   have c16b0:(I==1)=false:=beq_eq_false_iff_ne.mpr an
   have c16b1:(I != 1)=true:=bne_iff_ne.mpr an
   replace H:=Option.bind_eq_some_iff.mp H
   obtain⟨a1,am,H⟩:=H
   replace H:(some (a1,D))=some (r1,r2):=H
   have bw:=Aside0.mk am
   clear am
   simp only[Option.some.injEq,Prod.mk.injEq] at H
   obtain⟨rfl,rfl⟩:=H
   go_enter Try.func17,Try.ntmps17
   try go_wp2_with (first|((with_reducible refine Qp (N:=2) rfl ?_);refine qE 2 #[.slice μ J.length θ,.slice ν D.length τ] 27 ?_;intro κ hg ew hbox hb;have O:=Aside0.mk hbox;have a6:=sGe hg;have a7:=sGe hg;replace Z:=Aside0.mk (Kd.Xj (Kd.Xf Z.out κ (Nat.le_of_eq hg.symm)) hb);replace γ:=Aside0.mk (Kd.Xj (Kd.Xf γ.out κ (Nat.le_of_eq hg.symm)) hb);replace HB:=sHb hb;clear hb hbox hg)|((with_reducible refine Qp (N:=3) rfl ?_);refine qE 3 #[.int .i64 I,.int .i64 L,.int .i64 X] 29 ?_;intro η hg gt hbox hb;have Y:=Aside0.mk hbox;have a8:=sGe hg;have ac:=sGe hg;have ξ :=sNl O hg;have σ:=sNg O hg;replace Z:=Aside0.mk (Kd.Xj (Kd.Xf Z.out η (Nat.le_of_eq hg.symm)) hb);replace γ:=Aside0.mk (Kd.Xj (Kd.Xf γ.out η (Nat.le_of_eq hg.symm)) hb);replace O:=sBk O hb;replace HB:=sHb hb;clear hb hbox hg)|((with_reducible refine Qp (N:=4) rfl ?_);refine qE 4 #[.slice none 0 0,.slice none 0 0] 27 ?_;intro B hg bz hbox hb;have ε :=Aside0.mk hbox;have ae:=sGe hg;have af:=sGe hg;have δ :=sNl O hg;have ι :=sNg O hg;have U:=sNl Y hg;have ζ :=sNg Y hg;replace Z:=Aside0.mk (Kd.Xj (Kd.Xf Z.out B (Nat.le_of_eq hg.symm)) hb);replace γ:=Aside0.mk (Kd.Xj (Kd.Xf γ.out B (Nat.le_of_eq hg.symm)) hb);replace O:=sBk O hb;replace Y:=sBk Y hb;replace HB:=sHb hb;clear hb hbox hg;have fe:=σ.out;have ff:= ξ.out;have i6:=U.out;have ih:= ζ.out;obtain⟨eg,eh,gk,ei,ej,gs⟩:=qD3 Y.out))
   replace Z:=Aside0.mk (Kd.J0 Z.out)
   replace γ:=Aside0.mk (Kd.J0 γ.out)
   replace O:=Aside0.mk (Qb O.out)
   replace Y:=Aside0.mk (Qb Y.out)
   replace ε :=Aside0.mk (Qb ε.out)
   replace HB:=Aside0.mk (Qe HB.out)
   refine Ze (n:=11) (S:=fun w'=>w'.cell? ⟨κ,0,none⟩=some (.slice μ J.length θ)∧w'.cell? ⟨κ,1,none⟩=some (.slice ν D.length τ)∧w'.cell? ⟨η,0,none⟩=some (.int .i64 I)∧w'.cell? ⟨η,1,none⟩=some (.int .i64 L)∧w'.cell? ⟨η,2,none⟩=some (.int .i64 X)) (ds:=[]) #[false,false,false,false,false,false,false,false,false,false,false] kr rfl rfl ⟨(Qi O.out 0).trans rfl,(Qi O.out 1).trans rfl,(Qi Y.out 0).trans rfl,(Qi Y.out 1).trans rfl,(Qi Y.out 2).trans rfl⟩ (fun hHeld=>?_);refine Q4 newelref19_Press.K8 newelref19_Press.Jt (fun HT_ HW_=>?_)
   generalize bz.drew=k2 at Z γ O Y ε HB hHeld ⊢
   refine qP 0 (some 23) (bN 11 1) HT_ ?_
   refine qP 2 (some 25) (bN 11 5) HT_ ?_
   refine qP 4 (some 27) (bN 11 21) HT_ ?_
   refine qP 7 (some 30) (bN 11 149) HT_ ?_
   refine qT 1 (some 24) (bN 11 151) HT_ HW_ hHeld ?_
   refine qT 3 (some 26) (bN 11 159) HT_ HW_ hHeld ?_
   refine qP 5 (some 28) (bN 11 191) HT_ ?_
   refine qT 8 (some 31) (bN 11 447) HT_ HW_ hHeld ?_
   refine Zi (i:=6) (N:=some 29) (bN 11 511) rfl rfl (Q0 HT_.out kr) (by decide) (fun K hK=>?_)
   refine Zc Try.func45 kr rfl #[.slice μ J.length θ,.agg #[.int .i64 L,.int .i64 1,.int .i64 (-1)]] (by rfl) rfl rfl qM ?_
   with_reducible refine(newelref19_withHall.calls k _ _ J L 1 (-1) a1 _ ?side1 ?side2 bw.out).mono ?_
   (case side1=>exact(Kd.Yi Z.out).2.2)
   (case side2=>exact(Kd.Yi Z.out).2.1)
   rintro e gq ⟨ci,rfl,ρ,hb⟩
   refine⟨_,rfl, ?_⟩
   have ai:=Aside0.mk (Kd.Q2 (Kd.Ws (M:=fun k_=>(w.heap.size≤k_)) ρ (Qj HB.out) (fun k_ h_=>h_)) (Qj HB.out))
   replace Z:=Aside0.mk (Kd.Ju Z.out (Kd.Zf ρ) hb)
   replace γ:=Aside0.mk (Kd.Ju γ.out (Kd.Zf ρ) hb)
   replace O:=sBk O hb
   replace Y:=sBk Y hb
   replace ε :=sBk ε hb
   replace HB:=sHb hb
   (try clear hb)
   (try clear a0)
   (try clear hk)
   (try clear hi)
   (try clear ρ)
   obtain⟨bm,bn,hj⟩:=Kd.Q5 ai.out
   (first|subst hj|(injection hj with φ a9 χ;have aa:= φ.symm;have ab:= χ.symm;clear φ a9 χ;subst aa;subst ab))
   refine hK.out _ _ ⟨qc O,qc O,qc Y,qc Y,qc Y⟩ (fun hHeld=>?_)
   clear hK K
   refine qN (some 29) ?_
   refine qP 9 (some 32) (bN 11 1023) HT_ ?_
   refine Zi (i:=10) (N:=none) (bN 11 2047) rfl rfl (Q0 HT_.out kr) (by decide) (fun K hK=>?_)
   have cj:gq.cell? ⟨B,0,none⟩=some (.slice none 0 0):=(Qi ε.out 0).trans rfl
   have cb:=Q6 ε.out 0
   have b6:= δ.out
   have b7:=U.out
   have b9:= ι.out
   have bb:= ζ.out
   have ck:gq.cell? ⟨B,1,none⟩=some (.slice none 0 0):=(Qi ε.out 1).trans rfl
   have ce:=Q6 ε.out 1
   have bd:= δ.out
   have be:=U.out
   have bi:= ι.out
   have bj:= ζ.out
   refine Y4 (w1:=?_) (by rfl) rfl ?_ ?_
   rotate_left
   ·go_simp
    rfl
   refine hK.out _ _ ⟨((cell_far (p:=⟨B,_,none⟩) δ.out _).trans (((cell_far (p:=⟨B,_,none⟩) δ.out _).trans (hHeld.1)))),((cell_far (p:=⟨B,_,none⟩) δ.out _).trans (((cell_far (p:=⟨B,_,none⟩) δ.out _).trans (hHeld.2.1)))),((cell_far (p:=⟨B,_,none⟩) U.out _).trans (((cell_far (p:=⟨B,_,none⟩) U.out _).trans (hHeld.2.2.1)))),((cell_far (p:=⟨B,_,none⟩) U.out _).trans (((cell_far (p:=⟨B,_,none⟩) U.out _).trans (hHeld.2.2.2.1)))),((cell_far (p:=⟨B,_,none⟩) U.out _).trans (((cell_far (p:=⟨B,_,none⟩) U.out _).trans (hHeld.2.2.2.2))))⟩ (fun hHeld=>?_)
   clear hK K
   refine Zq (Zd HT_.out kr) ?_
   try go_wp2
   refine bodyPost_ret (results_cell_row rfl _ _ B 27 #[.slice bm a1.length bn,.slice ν D.length τ] (0,0) _ rfl (by refine Qw (cs:=#[.slice bm a1.length bn,.slice none 0 0]) ?_ 1 _ rfl;refine Qw (cs:=#[.slice none 0 0,.slice none 0 0]) ?_ 0 _ rfl;exact ε.out) Try.underlying27 rfl kr) rfl ?_
   exact⟨_,_,by first|rfl|(simp[Qy,Qx] <;> rfl)|(simp[*,Qy,Qx] <;> rfl),Kd.Yu (Kd.R_V (by(with_reducible repeat first|apply Kd.Qm|apply Kd.Ql|apply Kd.Qn);exact Kd.Qr (Kd.Qs (Kd.Qs (Kd.Qv ai.out ε.out (by decide)) (fun _ hk=>hk.2) _) (fun _ hk=>hk.2) (.slice ν D.length τ)) (fun _ hk=>hk.1.1))) (fun k_ hk=>by first|exact⟨(.inr (hk.1)),hk.2⟩|exact(.inr (hk))),by(with_reducible repeat first|apply Kd.Ue|apply Kd.Ud|apply Kd.J0);exact Kd.Yu (Kd.Vw (p:=⟨B,1,none⟩) (Kd.Vw (p:=⟨B,0,none⟩) (Kd.Yu γ.out (fun k_ hk=>(⟨hk,hk.1.2⟩:_∧k_≠B))) (fun _ hk=>hk.2) _) (fun _ hk=>hk.2) (.slice ν D.length τ)) (fun _ hk=>hk.1.1.1.1.1),bel⟩
def newelref19_Button.f (J:Int) (D:Int) (I:Int) (L:Int) (X:Int):Option (Bool):=if I=0 then (if L≥0 then (some (decide (L≤(wrap64 (J-2))))) else (some false)) else (if I=1 then (if L≥1 then (some (decide (L≤(wrap64 (J-1))))) else (some false)) else (if I=2 then ((newelref19_Inside.f J D X L).bind fun μ =>(some μ)) else (some false)))
set_option maxHeartbeats 8000000 in
set_option maxRecDepth 100000 in
theorem newelref19_Button.calls (J:Int) (D:Int) (I:Int) (L:Int) (X:Int) (r:Bool) (w:World) (h:newelref19_Button.f J D I L X=some r):
  Calls Try.prog 16 #[.agg #[.int .i64 J,.int .i64 D],.agg #[.int .i64 I,.int .i64 L,.int .i64 X]] w fun e w'=>e = .returned (.bool r)∧Below w.heap.size w w':=by
 have dk:=Try.underlying23
 have gf:=Try.underlying29
 have b8:=Try.underlying62
 have HB:=Aside0.mk (Below.refl w.heap.size w)
 have H:(if I=0 then (if L≥0 then (some (decide (L≤(wrap64 (J-2))))) else (some false)) else (if I=1 then (if L≥1 then (some (decide (L≤(wrap64 (J-1))))) else (some false)) else (if I=2 then ((newelref19_Inside.f J D X L).bind fun μ =>(some μ)) else (some false))))=some r:=h
 clear h
 by_cases c3:I=0
 ·rw[if_pos c3] at H
  have c3b0:(I==0)=true:=beq_iff_eq.mpr c3
  have c3b1:(I != 0)=false:=bne_eq_false_iff_eq.mpr c3
  clear c3
  by_cases c4:L≥0
  ·rw[if_pos c4] at H
   have c4b0:decide (0≤L)=true:=decide_eq_true c4
   clear c4
   obtain rfl:=Option.some.inj H
   go_enter Try.func16,Try.ntmps16
   go_wp2_with (first|((with_reducible refine Qp (N:=2) rfl ?_);refine qE 2 #[.int .i64 J,.int .i64 D] 23 ?_;intro δ hg w5 hbox hb;have B:=Aside0.mk hbox;have ζ :=sGe hg;have η :=sGe hg;replace HB:=sHb hb;clear hb hbox hg)|((with_reducible refine Qp (N:=3) rfl ?_);refine qE 3 #[.int .i64 I,.int .i64 L,.int .i64 X] 29 ?_;intro ε hg w6 hbox hb;have γ:=Aside0.mk hbox;have θ :=sGe hg;have κ :=sGe hg;have U:=sNl B hg;have Y:=sNg B hg;replace B:=sBk B hb;replace HB:=sHb hb;clear hb hbox hg;have dh:=Y.out;have di:=U.out;obtain⟨aw,b9,ν,bb,bc,ρ⟩:=qD3 γ.out;obtain⟨ae,bh,bi,bj⟩:=qD2 B.out))
   go_ret
   exact⟨rfl,HB.out⟩
  ·rw[if_neg c4] at H
   have c4b0:decide (0≤L)=false:=decide_eq_false c4
   clear c4
   obtain rfl:=Option.some.inj H
   go_enter Try.func16,Try.ntmps16
   go_wp2_with (first|((with_reducible refine Qp (N:=2) rfl ?_);refine qE 2 #[.int .i64 J,.int .i64 D] 23 ?_;intro δ hg cu hbox hb;have B:=Aside0.mk hbox;have ζ :=sGe hg;have η :=sGe hg;replace HB:=sHb hb;clear hb hbox hg)|((with_reducible refine Qp (N:=3) rfl ?_);refine qE 3 #[.int .i64 I,.int .i64 L,.int .i64 X] 29 ?_;intro ε hg dm hbox hb;have γ:=Aside0.mk hbox;have θ :=sGe hg;have κ :=sGe hg;have U:=sNl B hg;have Y:=sNg B hg;replace B:=sBk B hb;replace HB:=sHb hb;clear hb hbox hg;have eb:=Y.out;have ec:=U.out;obtain⟨co,cp,τ,cq,cr,φ⟩:=qD3 γ.out))
   go_ret
   exact⟨rfl,HB.out⟩
 ·rw[if_neg c3] at H
  have c3b0:(I==0)=false:=beq_eq_false_iff_ne.mpr c3
  have c3b1:(I != 0)=true:=bne_iff_ne.mpr c3
  by_cases az:I=1
  ·rw[if_pos az] at H
   have c14b0:(I==1)=true:=beq_iff_eq.mpr az
   have c14b1:(I != 1)=false:=bne_eq_false_iff_eq.mpr az
   clear az
   by_cases a4:L≥1
   ·rw[if_pos a4] at H
    have c15b0:decide (1≤L)=true:=decide_eq_true a4
    clear a4
    obtain rfl:=Option.some.inj H
    go_enter Try.func16,Try.ntmps16
    go_wp2_with (first|((with_reducible refine Qp (N:=2) rfl ?_);refine qE 2 #[.int .i64 J,.int .i64 D] 23 ?_;intro δ hg af hbox hb;have B:=Aside0.mk hbox;have ζ :=sGe hg;have η :=sGe hg;replace HB:=sHb hb;clear hb hbox hg)|((with_reducible refine Qp (N:=3) rfl ?_);refine qE 3 #[.int .i64 I,.int .i64 L,.int .i64 X] 29 ?_;intro ε hg g6 hbox hb;have γ:=Aside0.mk hbox;have θ :=sGe hg;have κ :=sGe hg;have U:=sNl B hg;have Y:=sNg B hg;replace B:=sBk B hb;replace HB:=sHb hb;clear hb hbox hg;have ca:=Y.out;have cb:=U.out;obtain⟨am,ao,ct,ap,av,cw⟩:=qD3 γ.out;obtain⟨ah,ak,bd,be⟩:=qD2 B.out))
    go_ret
    exact⟨rfl,HB.out⟩
   ·rw[if_neg a4] at H
    have c15b0:decide (1≤L)=false:=decide_eq_false a4
    clear a4
    obtain rfl:=Option.some.inj H
    go_enter Try.func16,Try.ntmps16
    go_wp2_with (first|((with_reducible refine Qp (N:=2) rfl ?_);refine qE 2 #[.int .i64 J,.int .i64 D] 23 ?_;intro δ hg bp hbox hb;have B:=Aside0.mk hbox;have ζ :=sGe hg;have η :=sGe hg;replace HB:=sHb hb;clear hb hbox hg)|((with_reducible refine Qp (N:=3) rfl ?_);refine qE 3 #[.int .i64 I,.int .i64 L,.int .i64 X] 29 ?_;intro ε hg dr hbox hb;have γ:=Aside0.mk hbox;have θ :=sGe hg;have κ :=sGe hg;have U:=sNl B hg;have Y:=sNg B hg;replace B:=sBk B hb;replace HB:=sHb hb;clear hb hbox hg;have fc:=Y.out;have fg:=U.out;obtain⟨d5,d7,σ,d8,d9,χ⟩:=qD3 γ.out))
    go_ret
    exact⟨rfl,HB.out⟩
  ·rw[if_neg az] at H
   have c14b0:(I==1)=false:=beq_eq_false_iff_ne.mpr az
   have c14b1:(I != 1)=true:=bne_iff_ne.mpr az
   by_cases aj:I=2
   ·rw[if_pos aj] at H
    have c25b0:(I==2)=true:=beq_iff_eq.mpr aj
    have c25b1:(I != 2)=false:=bne_eq_false_iff_eq.mpr aj
    clear aj
    replace H:=Option.bind_eq_some_iff.mp H
    obtain⟨μ,ξ,H⟩:=H
    replace H:(some μ)=some r:=H
    have a8:=Aside0.mk ξ
    clear ξ
    obtain rfl:=Option.some.inj H
    go_enter Try.func16,Try.ntmps16
    go_wp2_with (first|((with_reducible refine Qp (N:=2) rfl ?_);refine qE 2 #[.int .i64 J,.int .i64 D] 23 ?_;intro δ hg e6 hbox hb;have B:=Aside0.mk hbox;have ζ :=sGe hg;have η :=sGe hg;replace HB:=sHb hb;clear hb hbox hg)|((with_reducible refine Qp (N:=3) rfl ?_);refine qE 3 #[.int .i64 I,.int .i64 L,.int .i64 X] 29 ?_;intro ε hg fh hbox hb;have γ:=Aside0.mk hbox;have θ :=sGe hg;have κ :=sGe hg;have U:=sNl B hg;have Y:=sNg B hg;replace B:=sBk B hb;replace HB:=sHb hb;clear hb hbox hg;have iw:=Y.out;have ix:=U.out;obtain⟨ψ,ω,a1,a2,a3,a5⟩:=qD3 γ.out;obtain⟨fj,fk,fl,fm⟩:=qD2 B.out)|(go_at_call 39;(with_reducible refine(newelref19_Inside.calls J D X L μ _ a8.out).mono ?_);rintro e bz ⟨rfl,hb⟩;have O:=Aside0.mk (Qo (g:= δ) (o:=.cells #[.int .i64 J,.int .i64 D] 23 (0,0)) B.out hb);have Z:=Aside0.mk (Qo (g:= ε) (o:=.cells #[.int .i64 I,.int .i64 L,.int .i64 X] 29 (0,0)) γ.out hb);have ι :=Aside0.mk (Qt HB.out hb);clear B;clear γ;clear HB;have B:=O;have γ:=Z;have HB:= ι;clear O Z ι;(try clear hb);(try clear a0);(try clear hk);(try clear hi)))
    go_ret
    exact⟨rfl,HB.out⟩
   ·rw[if_neg aj] at H
    have c25b0:(I==2)=false:=beq_eq_false_iff_ne.mpr aj
    have c25b1:(I != 2)=true:=bne_iff_ne.mpr aj
    obtain rfl:=Option.some.inj H
    go_enter Try.func16,Try.ntmps16
    go_wp2_with (first|((with_reducible refine Qp (N:=2) rfl ?_);refine qE 2 #[.int .i64 J,.int .i64 D] 23 ?_;intro δ hg d3 hbox hb;have B:=Aside0.mk hbox;have ζ :=sGe hg;have η :=sGe hg;replace HB:=sHb hb;clear hb hbox hg)|((with_reducible refine Qp (N:=3) rfl ?_);refine qE 3 #[.int .i64 I,.int .i64 L,.int .i64 X] 29 ?_;intro ε hg ea hbox hb;have γ:=Aside0.mk hbox;have θ :=sGe hg;have κ :=sGe hg;have U:=sNl B hg;have Y:=sNg B hg;replace B:=sBk B hb;replace HB:=sHb hb;clear hb hbox hg;have dj:=Y.out;have dn:=U.out;obtain⟨en,fb,a6,fi,fw,a7⟩:=qD3 γ.out))
    go_ret
    exact⟨rfl,HB.out⟩
end Go.Proofs.Ytjehhhlhalkieaa.C
