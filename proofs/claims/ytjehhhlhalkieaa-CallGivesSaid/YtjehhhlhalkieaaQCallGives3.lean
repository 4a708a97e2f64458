/- Texts of this claim, one behind the other: what the law's functions come to, walked (printed by a program, with the words that the print uses), and what that is, in plain Lean. No conditions of their own. -/
import Derived.Test.YtjehhhlhalkieaaQCallGives2
namespace Go.Proofs.Ytjehhhlhalkieaa.C
open Go.RowKit Go.Proofs.YtjehhhlhalkieaaW.PrintWords Go.Proofs.YtjehhhlhalkieaaW.PrintLast Go.Proofs.YtjehhhlhalkieaaW.PrintMore
attribute [local go_sem] Zk Zi Zt Zs Zd Zc Zj Zh
set_option linter.unusedVariables false
set_option linter.unusedSimpArgs false
mutual
def api_Hall_right.l0:Nat→Int→List (S56)→Int→Int→List (S56)→Int→Option (Bool)
 |0,_,_,_,_,_,_=>none
 |k+1,L,D,I,B,J,O=>if B<I then (if 0≤B then (if B<(D.length:Int) then ((call_hall_1.f ((Qi D B).f0) ((Qi D B).f1) ((Qi D B).f2) L).bind fun φ =>(if φ = true then (if B>0 then (if 0≤(wrap64 (B-1)) then (if (wrap64 (B-1))<(J.length:Int) then ((call_halls_1.f ((Qi J (wrap64 (B-1))).f0) ((Qi J (wrap64 (B-1))).f1) ((Qi J (wrap64 (B-1))).f2) ((Qi D B).f0) ((Qi D B).f1) ((Qi D B).f2)).bind fun ρ=>(api_Hall_right.j1 k L D I B (decide (ρ≥0)) J O)) else (none)) else (none)) else (api_Hall_right.j1 k L D I B false J O)) else (api_Hall_right.j1 k L D I B true J O))) else (none)) else (none)) else (some true)
def api_Hall_right.j1:Nat→Int→List (S56)→Int→Int→Bool→List (S56)→Int→Option (Bool)
 |0,_,_,_,_,_,_,_=>none
 |k+1,L,D,I,B,U,J,O=>if U=true then (some false) else (api_Hall_right.l0 k L D I (wrap64 (B+1)) J O)
end
def api_Hall_right.f (k:Nat) (I:List (S56)) (J:Int) (D:Int):Option (Bool):=api_Hall_right.l0 k D I (I.length:Int) 0 I J
theorem api_Hall_right.Zo:∀ k,(∀ D I O J L X,LeO (api_Hall_right.l0 k D I O J L X) (api_Hall_right.l0 (k+1) D I O J L X))∧(∀ D I O J L X Y,LeO (api_Hall_right.j1 k D I O J L X Y) (api_Hall_right.j1 (k+1) D I O J L X Y))
 |0=>⟨fun _ _ _ _ _ _ r h=>by simp[api_Hall_right.l0] at h,fun _ _ _ _ _ _ _ r h=>by simp[api_Hall_right.j1] at h⟩
 |k+1=>by
  obtain⟨B,U⟩:=api_Hall_right.Zo k
  refine⟨?_, ?_⟩
  ·intro D I O J L X
   unfold api_Hall_right.l0
   repeat' first
   |(with_reducible exact B _ _ _ _ _ _)
   |(with_reducible exact U _ _ _ _ _ _ _)
   |(with_reducible exact LeO.refl _)
   |(with_reducible exact LeO.none _)
   |(with_reducible refine LeO.ite ?_ ?_)
   |(with_reducible refine LeO.bind ?_ (fun _=>?_))
   |exact B _ _ _ _ _ _
   |exact U _ _ _ _ _ _ _
   |exact LeO.none _
   |refine LeO.ite ?_ ?_
   |refine LeO.bind ?_ (fun _=>?_)
  ·intro D I O J L X Y
   unfold api_Hall_right.j1
   repeat' first
   |(with_reducible exact B _ _ _ _ _ _)
   |(with_reducible exact U _ _ _ _ _ _ _)
   |(with_reducible exact LeO.refl _)
   |(with_reducible exact LeO.none _)
   |(with_reducible refine LeO.ite ?_ ?_)
   |(with_reducible refine LeO.bind ?_ (fun _=>?_))
   |exact B _ _ _ _ _ _
   |exact U _ _ _ _ _ _ _
   |exact LeO.none _
   |refine LeO.ite ?_ ?_
   |refine LeO.bind ?_ (fun _=>?_)
theorem api_Hall_right.mono:∀ I D a2 k,LeO (api_Hall_right.f k I D a2) (api_Hall_right.f (k+1) I D a2):=by
 intro I D a2 k
 obtain⟨B,U⟩:=api_Hall_right.Zo k
 unfold api_Hall_right.f
 repeat' first
   |(with_reducible exact B _ _ _ _ _ _)
   |(with_reducible exact U _ _ _ _ _ _ _)
   |(with_reducible exact LeO.refl _)
   |(with_reducible exact LeO.none _)
   |(with_reducible refine LeO.ite ?_ ?_)
   |(with_reducible refine LeO.bind ?_ (fun _=>?_))
   |exact B _ _ _ _ _ _
   |exact U _ _ _ _ _ _ _
   |exact LeO.none _
   |refine LeO.ite ?_ ?_
   |refine LeO.bind ?_ (fun _=>?_)
def api_Hall_right.T4:Bool×List (List Nat×List Nat):=(true,[([],[]),([],[]),([0,1],[0,1]),([2],[2]),([3,2],[3]),([4],[4]),([5,4],[4,5]),([6,4,4],[4,6]),([7],[7]),([8,7],[7,8]),([7],[7]),([10,7],[7,10]),([7],[7]),([12,7],[7,12]),([11,13,7],[7,11,13]),([14,7],[7,14]),([7],[7]),([9,15,16,7,7],[7,9,15,16]),([17,7],[7,17]),([7,18,4],[4,7,18]),([4,19],[4,19])])
def api_Hall_right.B4:List Nat:=[0,0,3,7,15,31,63,127,255,511,255,1279,255,4351,15615,31999,255,131071,262143,524287,1048575]
theorem api_Hall_right.Gn:rtab .any (opsOf Try.f42 4)=api_Hall_right.T4:=by kernel_rfl
theorem api_Hall_right.J1:Zx api_Hall_right.T4.2 api_Hall_right.B4=true:=by kernel_rfl
set_option maxHeartbeats 8000000 in
set_option maxRecDepth 100000 in
theorem api_Hall_right.calls (k:Nat) (η :Option Addr) (ζ :Nat) (I:List (S56)) (J:Int) (D:Int) (r:Bool) (w:World) (a2:Kd.C k56 w η I.length I) (a5:I.length ≤ ζ) (h:api_Hall_right.f k I J D=some r) (gh_:Nat) (hgh_:w.heap[gh_]?=some (.cells #[.int .i64 (X7 D),.int .i64 (X6 D)] 23 (0,0))):
  Calls Try.prog 42 #[.agg #[.slice η I.length ζ,.func (.func 51) #[] #[]],.func (.func 61) #[] #[.pointer (some ⟨gh_,0,none⟩)]] w fun e w'=>e = .returned (.bool r)∧Below w.heap.size w w':=by
 have HCH:=Aside0.mk hgh_
 clear hgh_
 have cg:=Try.underlying69
 have bu:=Try.underlying56
 have ψ :=Aside0.mk a2
 have af:=Aside0.mk a5
 clear a2 a5
 have HB:=Aside0.mk (Below.refl w.heap.size w)
 have H:(api_Hall_right.l0 k D I (I.length:Int) 0 I J)=some r:=h
 clear h
 have H':=Aside0.mk H
 clear H
 go_enter Try.func42,Try.ntmps42
 go_wp2_with (first|((with_reducible refine Qt (N:=2) rfl ?_);refine Qp ?hg (N:=2) ?hd (cs:=#[.slice η I.length ζ,.func (.func 51) #[] #[]]) (t:=69) ?hr ?_;(case hd=>rfl);(case hg=>rfl);(case hr=>go_simp <;> rfl);intro a7 hg w3 hbox hb;have δ :=Aside0.mk hbox;have bf:=sGe hg;have ak:=sGe hg;replace HB:=sHb hb;clear hb hbox hg;have ag:w3.cell? ⟨a7,0,none⟩=some (.slice η I.length ζ):=(Qa δ.out 0).trans rfl;have ah:w3.cell? ⟨a7,1,none⟩=some (.func (.func 51) #[] #[]):=(Qa δ.out 1).trans rfl;have ai:=Qb δ.out 0;have al:=Qb δ.out 1))
 go_loopg [10] k (fun kq ao w'=>∃ (B:Int),ao = .int .i64 B∧Aside0 (api_Hall_right.l0 kq D I (I.length:Int) B I J=some r)∧Aside0 (kq≤k)∧Aside0 (w'.heap[a7]?=some (.cells #[(.slice η I.length ζ),.func (.func 51) #[] #[]] 69 (0,0)))∧Aside0 (Below w.heap.size w w'))
 case atStart=>exact⟨(0),rfl,H',⟨Nat.le_refl _⟩,δ,HB⟩
 case round=>
  clear H'
  try clear p2
  try clear c4
  try clear ag
  try clear ah
  try clear ai
  try clear al
  obtain⟨B,rfl,HA,σ,δ,HB⟩:=hrel
  cases gk with
  |zero=>exact absurd HA.out (by simp[api_Hall_right.l0])
  |succ k1=>
   have H:=HA.out
   clear HA
   simp only[api_Hall_right.l0] at H
   by_cases c5:B<(I.length:Int)
   ·rw[if_pos c5] at H
    have c5b0:decide (B<(I.length:Int))=true:=decide_eq_true c5
    clear c5
    by_cases c6:0≤B
    ·rw[if_pos c6] at H
     have c6b0:decide (0≤B)=true:=decide_eq_true c6
     clear c6
     by_cases c7:B<(I.length:Int)
     ·rw[if_pos c7] at H
      have c7b0:decide (B<(I.length:Int))=true:=decide_eq_true c7
      clear c7
      have am:=Aside0.mk H
      clear H
      have a0:0≤(B:Int):=of_decide_eq_true (by assumption)
      have a9:B<(I.length:Int):=of_decide_eq_true (by assumption)
      obtain⟨aa,bq,ξ,τ,ω⟩:=Z5 ψ.out B a0 a9
      cases bq
      replace ξ :=(HB.out.cell (World.block_lt_of_cell? w _ ξ)).trans ξ
      replace τ :=(HB.out.cell (World.block_lt_of_cell? w _ τ)).trans τ
      replace ω :=(HB.out.cell (World.block_lt_of_cell? w _ ω)).trans ω
      replace a0:=eq_true a0
      replace a9:=eq_true a9
      go_upto_region 4 with(first|((with_reducible refine Qt (N:=6) rfl ?_);refine Qp ?hg (N:=6) ?hd (cs:=#[.int .i64 0,.int .i64 0,.int .i64 0]) (t:=56) ?hr ?_;(case hd=>rfl);(case hg=>rfl);(case hr=>go_simp <;> rfl);intro ν hg w9 hbox hb;have Y:=Aside0.mk hbox;have a8:=sGe hg;have bh:=sGe hg;have av:=sNl δ hg;have aw:=sNg δ hg;replace δ :=sBk δ hb;replace HB:=sHb hb;clear hb hbox hg;have d5:=aw.out;have d6:=av.out;have ab:w9.cell? ⟨ν,0,none⟩=some (.int .i64 0):=(Qa Y.out 0).trans rfl;have ac:w9.cell? ⟨ν,1,none⟩=some (.int .i64 0):=(Qa Y.out 1).trans rfl;have ap:w9.cell? ⟨ν,2,none⟩=some (.int .i64 0):=(Qa Y.out 2).trans rfl;have ae:=Qb Y.out 0;have aj:=Qb Y.out 1;have ar:=Qb Y.out 2))
      (try simp only[Act.put,qS])
      go_cut [35] (fun b0 wc=>∃ (kq:Nat) (O:Bool),b0 = .bool O∧Aside0 (api_Hall_right.j1 kq D I (I.length:Int) B O I J=some r)∧Aside0 (kq≤k1)∧Aside0 (wc.heap[a7]?=some (.cells #[(.slice (some aa) I.length ζ),.func (.func 51) #[] #[]] 69 (0,0)))∧Aside0 (wc.heap[ν]?=some (.cells #[.int .i64 ((Qi I B).f0),.int .i64 ((Qi I B).f1),.int .i64 ((Qi I B).f2)] 56 (0,0)))∧Aside0 (Below w.heap.size w wc))
      case first=>
       have H:=am.out
       clear am
       replace H:=Option.bind_eq_some_iff.mp H
       obtain⟨φ,ci,H⟩:=H
       replace H:(if φ = true then (if B>0 then (if 0≤(wrap64 (B-1)) then (if (wrap64 (B-1))<(I.length:Int) then ((call_halls_1.f ((Qi I (wrap64 (B-1))).f0) ((Qi I (wrap64 (B-1))).f1) ((Qi I (wrap64 (B-1))).f2) ((Qi I B).f0) ((Qi I B).f1) ((Qi I B).f2)).bind fun ρ=>(api_Hall_right.j1 k1 D I (I.length:Int) B (decide (ρ≥0)) I J)) else (none)) else (none)) else (api_Hall_right.j1 k1 D I (I.length:Int) B false I J)) else (api_Hall_right.j1 k1 D I (I.length:Int) B true I J))=some r:=H
       have cx:=Aside0.mk ci
       clear ci
       by_cases bc: φ = true
       ·subst bc
        have H1:(if B>0 then (if 0≤(wrap64 (B-1)) then (if (wrap64 (B-1))<(I.length:Int) then ((call_halls_1.f ((Qi I (wrap64 (B-1))).f0) ((Qi I (wrap64 (B-1))).f1) ((Qi I (wrap64 (B-1))).f2) ((Qi I B).f0) ((Qi I B).f1) ((Qi I B).f2)).bind fun ρ=>(api_Hall_right.j1 k1 D I (I.length:Int) B (decide (ρ≥0)) I J)) else (none)) else (none)) else (api_Hall_right.j1 k1 D I (I.length:Int) B false I J))=some r:=by rw[if_pos rfl] at H;exact H
        clear H
        have H:=H1
        clear H1
        by_cases ay:B>0
        ·rw[if_pos ay] at H
         have c14b0:decide (0<B)=true:=decide_eq_true ay
         clear ay
         (first|rw[c14b0]|(simp only[X5,Ys];rw[c14b0])|skip)
         obtain⟨κ,a6⟩:∃ j_:Int,(wrap64 (B-1))=j_:=⟨_,rfl⟩
         replace H:(if 0≤(κ) then (if (κ)<(I.length:Int) then ((call_halls_1.f ((Qi I (κ)).f0) ((Qi I (κ)).f1) ((Qi I (κ)).f2) ((Qi I B).f0) ((Qi I B).f1) ((Qi I B).f2)).bind fun ρ=>(api_Hall_right.j1 k1 D I (I.length:Int) B (decide (ρ≥0)) I J)) else (none)) else (none))=some r:=by first|(rw[a6] at H;exact H)|(simp only[a6] at H ⊢;exact H)
         (try rw[a6] at cx)
         have hji15w:(IntKind.i64.wrap (B-1)) = κ :=(X5 _).trans a6
         by_cases a3:0≤(κ)
         ·rw[if_pos a3] at H
          have c16b0:decide (0≤(κ))=true:=decide_eq_true a3
          clear a3
          by_cases au:(κ)<(I.length:Int)
          ·rw[if_pos au] at H
           have c17b0:decide ((κ)<(I.length:Int))=true:=decide_eq_true au
           clear au
           replace H:=Option.bind_eq_some_iff.mp H
           obtain⟨ρ,ce,H⟩:=H
           replace H:(api_Hall_right.j1 k1 D I (I.length:Int) B (decide (ρ≥0)) I J)=some r:=H
           have dc:=Aside0.mk ce
           clear ce
           have H':=Aside0.mk H
           clear H
           try go_wp2
           have ε :Aside0 ((((w9.setCell ⟨ν,0,none⟩ (.int .i64 ((Qi I B).f0))).setCell ⟨ν,1,none⟩ (.int .i64 ((Qi I B).f1))).setCell ⟨ν,2,none⟩ (.int .i64 ((Qi I B).f2))).heap[a7]?=some (.cells #[.slice (some aa) I.length ζ,.func (.func 51) #[] #[]] 69 (0,0))):=⟨bka δ⟩
           have θ :Aside0 ((((w9.setCell ⟨ν,0,none⟩ (.int .i64 ((Qi I B).f0))).setCell ⟨ν,1,none⟩ (.int .i64 ((Qi I B).f1))).setCell ⟨ν,2,none⟩ (.int .i64 ((Qi I B).f2))).heap[ν]?=some (.cells #[.int .i64 ((Qi I B).f0),.int .i64 ((Qi I B).f1),.int .i64 ((Qi I B).f2)] 56 (0,0))):=⟨by refine Qx (cs:=#[.int .i64 ((Qi I B).f0),.int .i64 ((Qi I B).f1),.int .i64 0]) ?_ 2 _ rfl;refine Qx (cs:=#[.int .i64 ((Qi I B).f0),.int .i64 0,.int .i64 0]) ?_ 1 _ rfl;refine Qx (cs:=#[.int .i64 0,.int .i64 0,.int .i64 0]) ?_ 0 _ rfl;exact Y.out⟩
           have ι :Aside0 (Below w.heap.size w (((w9.setCell ⟨ν,0,none⟩ (.int .i64 ((Qi I B).f0))).setCell ⟨ν,1,none⟩ (.int .i64 ((Qi I B).f1))).setCell ⟨ν,2,none⟩ (.int .i64 ((Qi I B).f2)))):=⟨bel⟩
           (try clear δ)
           (try clear Y)
           (try clear HB)
           generalize(((w9.setCell ⟨ν,0,none⟩ (.int .i64 ((Qi I B).f0))).setCell ⟨ν,1,none⟩ (.int .i64 ((Qi I B).f1))).setCell ⟨ν,2,none⟩ (.int .i64 ((Qi I B).f2)))=d7 at ε θ ι ⊢
           have δ := ε
           have Y:= θ
           have HB:= ι
           clear ε θ ι
           replace δ :=Aside0.mk (Qc δ.out)
           replace Y:=Aside0.mk (Qc Y.out)
           replace HB:=Aside0.mk (Qh HB.out)
           have χ :0≤((κ):Int):=of_decide_eq_true (by assumption)
           have an:(κ)<(I.length:Int):=of_decide_eq_true (by assumption)
           obtain⟨b1,b2,L,U,X⟩:=Z5 ψ.out (κ) χ an
           have Z:=X
           have γ:=U
           have μ :=L
           obtain rfl:aa=b1:=(by injection b2)
           replace L:=(HB.out.cell (World.block_lt_of_cell? w _ L)).trans L
           replace U:=(HB.out.cell (World.block_lt_of_cell? w _ U)).trans U
           replace X:=(HB.out.cell (World.block_lt_of_cell? w _ X)).trans X
           replace χ :=eq_true χ
           replace an:=eq_true an
           refine Zv (n:=21) (S:=fun w'=>w'.cell? ⟨ν,0,none⟩=some (.int .i64 ((Qi I B).f0))∧w'.cell? ⟨ν,1,none⟩=some (.int .i64 ((Qi I B).f1))∧w'.cell? ⟨ν,2,none⟩=some (.int .i64 ((Qi I B).f2))∧w'.cell? ⟨a7,0,none⟩=some (.slice (some aa) I.length ζ)∧w'.cell? ⟨a7,1,none⟩=some (.func (.func 51) #[] #[])∧w'.cell? (aa.add (((κ)).toNat * 3))=some (.int .i64 ((Qi I (κ)).f0))∧w'.cell? ⟨(aa.add (((κ)).toNat * 3)).block,(aa.add (((κ)).toNat * 3)).off+1,none⟩=some (.int .i64 ((Qi I (κ)).f1))∧w'.cell? ⟨(aa.add (((κ)).toNat * 3)).block,(aa.add (((κ)).toNat * 3)).off+2,none⟩=some (.int .i64 ((Qi I (κ)).f2))) (ds:=[]) #[false,false,false,false,false,false,false,false,false,false,false,false,false,false,false,false,false,false,false,false,false] kr rfl rfl ⟨(Qa Y.out 0).trans rfl,(Qa Y.out 1).trans rfl,(Qa Y.out 2).trans rfl,(Qa δ.out 0).trans rfl,(Qa δ.out 1).trans rfl,((HB.out.cell (World.block_lt_of_cell? w _ μ)).trans μ),((HB.out.cell (World.block_lt_of_cell? w _ γ)).trans γ),((HB.out.cell (World.block_lt_of_cell? w _ Z)).trans Z)⟩ (fun hHeld=>?_);refine Q8 api_Hall_right.Gn api_Hall_right.J1 (fun HT_ HW_=>?_)
           generalize d7.drew=ca at δ Y HB L U X hHeld ⊢
           refine qP 0 (some 15) (bN 21 1) HT_ ?_
           refine qT 1 (some 16) (bN 21 3) HT_ HW_ hHeld ?_
           refine Zm (i:=2) (N:=some 17) (bN 21 7) rfl rfl (Q3 HT_.out kr) (by decide) (fun K hK=>?_)
           refine Xm Try.func61 kr rfl #[] #[.pointer (some ⟨gh_,0,none⟩)] #[.agg #[.int .i64 ((Qi I B).f0),.int .i64 ((Qi I B).f1),.int .i64 ((Qi I B).f2)]] #[.agg #[.int .i64 ((Qi I B).f0),.int .i64 ((Qi I B).f1),.int .i64 ((Qi I B).f2)],.pointer (some ⟨gh_,0,none⟩)] rfl (by rfl) rfl rfl rfl (by simp only[List.map_toArray,List.map_cons,List.map_nil] <;> rfl) ?_
           with_reducible refine(call_hall_1.calls ((Qi I B).f0) ((Qi I B).f1) ((Qi I B).f2) D true _ cx.out gh_ (Zz HCH.out (by repeat(first|(with_reducible first|exact HB.out|apply Qj|apply Qd|apply Qh)|exact HB.out|(refine Qe ?_ (Aside0.out (by assumption))))))).mono ?_
           rintro e bl ⟨rfl,hb⟩
           refine⟨_,rfl, ?_⟩
           replace δ :=sBk δ hb
           replace Y:=sBk Y hb
           replace HB:=sHb hb
           (try clear hb)
           (try clear a4)
           (try clear hk)
           (try clear hi)
           refine hK.out _ _ ⟨(Qa Y.out 0).trans rfl,(Qa Y.out 1).trans rfl,(Qa Y.out 2).trans rfl,(Qa δ.out 0).trans rfl,(Qa δ.out 1).trans rfl,((HB.out.cell (World.block_lt_of_cell? w _ μ)).trans μ),((HB.out.cell (World.block_lt_of_cell? w _ γ)).trans γ),((HB.out.cell (World.block_lt_of_cell? w _ Z)).trans Z)⟩ (fun hHeld=>?_)
           clear hK K
           refine qN (some 17) ?_
           refine qP 3 (some 18) (bN 21 15) HT_ ?_
           refine qP 4 (some 19) (bN 21 31) HT_ ?_
           refine qP 5 (some 20) (bN 21 63) HT_ ?_
           refine qP 6 (some 21) (bN 21 127) HT_ ?_
           refine qP 7 (some 22) (bN 21 255) HT_ ?_
           refine qP 8 (some 23) (bN 21 511) HT_ ?_
           refine qP 10 (some 25) (bN 21 1535) HT_ ?_
           refine qP 12 (some 27) (bN 21 5631) HT_ ?_
           refine qP 13 (some 28) (bN 21 13823) HT_ ?_
           refine qT 9 (some 24) (bN 21 14335) HT_ HW_ hHeld ?_
           refine qT 11 (some 26) (bN 21 16383) HT_ HW_ hHeld ?_
           refine qP 14 (some 29) (bN 21 32767) HT_ ?_
           refine qT 15 (some 30) (bN 21 65535) HT_ HW_ hHeld ?_
           refine qT 16 (some 31) (bN 21 131071) HT_ HW_ hHeld ?_
           refine Zm (i:=17) (N:=some 32) (bN 21 262143) rfl rfl (Q3 HT_.out kr) (by decide) (fun K hK=>?_)
           refine Xm Try.func51 kr rfl #[] #[] #[.agg #[.int .i64 ((Qi I (κ)).f0),.int .i64 ((Qi I (κ)).f1),.int .i64 ((Qi I (κ)).f2)],.agg #[.int .i64 ((Qi I B).f0),.int .i64 ((Qi I B).f1),.int .i64 ((Qi I B).f2)]] #[.agg #[.int .i64 ((Qi I (κ)).f0),.int .i64 ((Qi I (κ)).f1),.int .i64 ((Qi I (κ)).f2)],.agg #[.int .i64 ((Qi I B).f0),.int .i64 ((Qi I B).f1),.int .i64 ((Qi I B).f2)]] rfl (by rfl) rfl rfl rfl (by(try simp only[List.map_toArray,List.map_cons,List.map_nil]);first|done|(simp only[a6];rfl)|rfl|(simp only[List.length_drop,List.length_take];rfl)) ?_
           with_reducible refine(call_halls_1.calls ((Qi I (κ)).f0) ((Qi I (κ)).f1) ((Qi I (κ)).f2) ((Qi I B).f0) ((Qi I B).f1) ((Qi I B).f2) ρ _ dc.out).mono ?_
           rintro e dt ⟨rfl,hb⟩
           refine⟨_,rfl, ?_⟩
           replace δ :=sBk δ hb
           replace Y:=sBk Y hb
           replace HB:=sHb hb
           (try clear hb)
           (try clear a4)
           (try clear hk)
           (try clear hi)
           refine hK.out _ _ ⟨(Qa Y.out 0).trans rfl,(Qa Y.out 1).trans rfl,(Qa Y.out 2).trans rfl,(Qa δ.out 0).trans rfl,(Qa δ.out 1).trans rfl,((HB.out.cell (World.block_lt_of_cell? w _ μ)).trans μ),((HB.out.cell (World.block_lt_of_cell? w _ γ)).trans γ),((HB.out.cell (World.block_lt_of_cell? w _ Z)).trans Z)⟩ (fun hHeld=>?_)
           clear hK K
           refine qN (some 32) ?_
           refine qP 18 (some 33) (bN 21 524287) HT_ ?_
           refine qP 19 (some 34) (bN 21 1048575) HT_ ?_
           refine qP 20 (some 35) (bN 21 2097151) HT_ ?_
           refine Z0 (Zp HT_.out kr) ?_
           try go_wp2
           go_meet
           case rel=>exact⟨_,(decide (ρ≥0)),rfl,H',⟨by have:=σ.out;omega⟩,δ,Y,HB⟩
          ·rw[if_neg au] at H
           exact absurd H (by simp)
         ·rw[if_neg a3] at H
          exact absurd H (by simp)
        ·rw[if_neg ay] at H
         have c14b0:decide (0<B)=false:=decide_eq_false ay
         clear ay
         (first|rw[c14b0]|(simp only[X5,Ys];rw[c14b0])|skip)
         have H':=Aside0.mk H
         clear H
         try go_wp2
         have ε :Aside0 ((((w9.setCell ⟨ν,0,none⟩ (.int .i64 ((Qi I B).f0))).setCell ⟨ν,1,none⟩ (.int .i64 ((Qi I B).f1))).setCell ⟨ν,2,none⟩ (.int .i64 ((Qi I B).f2))).heap[a7]?=some (.cells #[.slice (some aa) I.length ζ,.func (.func 51) #[] #[]] 69 (0,0))):=⟨bka δ⟩
         have θ :Aside0 ((((w9.setCell ⟨ν,0,none⟩ (.int .i64 ((Qi I B).f0))).setCell ⟨ν,1,none⟩ (.int .i64 ((Qi I B).f1))).setCell ⟨ν,2,none⟩ (.int .i64 ((Qi I B).f2))).heap[ν]?=some (.cells #[.int .i64 ((Qi I B).f0),.int .i64 ((Qi I B).f1),.int .i64 ((Qi I B).f2)] 56 (0,0))):=⟨by refine Qx (cs:=#[.int .i64 ((Qi I B).f0),.int .i64 ((Qi I B).f1),.int .i64 0]) ?_ 2 _ rfl;refine Qx (cs:=#[.int .i64 ((Qi I B).f0),.int .i64 0,.int .i64 0]) ?_ 1 _ rfl;refine Qx (cs:=#[.int .i64 0,.int .i64 0,.int .i64 0]) ?_ 0 _ rfl;exact Y.out⟩
         have ι :Aside0 (Below w.heap.size w (((w9.setCell ⟨ν,0,none⟩ (.int .i64 ((Qi I B).f0))).setCell ⟨ν,1,none⟩ (.int .i64 ((Qi I B).f1))).setCell ⟨ν,2,none⟩ (.int .i64 ((Qi I B).f2)))):=⟨bel⟩
         (try clear δ)
         (try clear Y)
         (try clear HB)
         generalize(((w9.setCell ⟨ν,0,none⟩ (.int .i64 ((Qi I B).f0))).setCell ⟨ν,1,none⟩ (.int .i64 ((Qi I B).f1))).setCell ⟨ν,2,none⟩ (.int .i64 ((Qi I B).f2)))=cd at ε θ ι ⊢
         have δ := ε
         have Y:= θ
         have HB:= ι
         clear ε θ ι
         replace δ :=Aside0.mk (Qc δ.out)
         replace Y:=Aside0.mk (Qc Y.out)
         replace HB:=Aside0.mk (Qh HB.out)
         refine Zv (n:=21) (S:=fun w'=>w'.cell? ⟨ν,0,none⟩=some (.int .i64 ((Qi I B).f0))∧w'.cell? ⟨ν,1,none⟩=some (.int .i64 ((Qi I B).f1))∧w'.cell? ⟨ν,2,none⟩=some (.int .i64 ((Qi I B).f2))) (ds:=[]) #[false,false,false,false,false,false,false,false,false,false,false,false,false,false,false,false,false,false,false,false,false] kr rfl rfl ⟨(Qa Y.out 0).trans rfl,(Qa Y.out 1).trans rfl,(Qa Y.out 2).trans rfl⟩ (fun hHeld=>?_);refine Q8 api_Hall_right.Gn api_Hall_right.J1 (fun HT_ HW_=>?_)
         generalize cd.drew=bm at δ Y HB hHeld ⊢
         refine qP 0 (some 15) (bN 21 1) HT_ ?_
         refine qT 1 (some 16) (bN 21 3) HT_ HW_ hHeld ?_
         refine Zm (i:=2) (N:=some 17) (bN 21 7) rfl rfl (Q3 HT_.out kr) (by decide) (fun K hK=>?_)
         refine Xm Try.func61 kr rfl #[] #[.pointer (some ⟨gh_,0,none⟩)] #[.agg #[.int .i64 ((Qi I B).f0),.int .i64 ((Qi I B).f1),.int .i64 ((Qi I B).f2)]] #[.agg #[.int .i64 ((Qi I B).f0),.int .i64 ((Qi I B).f1),.int .i64 ((Qi I B).f2)],.pointer (some ⟨gh_,0,none⟩)] rfl (by rfl) rfl rfl rfl (by simp only[List.map_toArray,List.map_cons,List.map_nil] <;> rfl) ?_
         with_reducible refine(call_hall_1.calls ((Qi I B).f0) ((Qi I B).f1) ((Qi I B).f2) D true _ cx.out gh_ (Zz HCH.out (by repeat(first|(with_reducible first|exact HB.out|apply Qj|apply Qd|apply Qh)|exact HB.out|(refine Qe ?_ (Aside0.out (by assumption))))))).mono ?_
         rintro e cj ⟨rfl,hb⟩
         refine⟨_,rfl, ?_⟩
         replace δ :=sBk δ hb
         replace Y:=sBk Y hb
         replace HB:=sHb hb
         (try clear hb)
         (try clear a4)
         (try clear hk)
         (try clear hi)
         refine hK.out _ _ ⟨(Qa Y.out 0).trans rfl,(Qa Y.out 1).trans rfl,(Qa Y.out 2).trans rfl⟩ (fun hHeld=>?_)
         clear hK K
         refine qN (some 17) ?_
         refine qP 3 (some 18) (bN 21 15) HT_ ?_
         refine qP 4 (some 19) (bN 21 31) HT_ ?_
         refine qP 5 (some 20) (bN 21 63) HT_ ?_
         refine qP 6 (some 21) (bN 21 127) HT_ ?_
         refine qP 7 (some 22) (bN 21 255) HT_ ?_
         refine qU 8 (some 23) (bN 21 511) HT_ ?_
         refine qU 9 (some 24) (bN 21 1023) HT_ ?_
         refine qU 10 (some 25) (bN 21 2047) HT_ ?_
         refine qU 11 (some 26) (bN 21 4095) HT_ ?_
         refine qU 12 (some 27) (bN 21 8191) HT_ ?_
         refine qU 13 (some 28) (bN 21 16383) HT_ ?_
         refine qU 14 (some 29) (bN 21 32767) HT_ ?_
         refine qU 15 (some 30) (bN 21 65535) HT_ ?_
         refine qU 16 (some 31) (bN 21 131071) HT_ ?_
         refine qU 17 (some 32) (bN 21 262143) HT_ ?_
         refine qU 18 (some 33) (bN 21 524287) HT_ ?_
         refine qP 19 (some 34) (bN 21 1048575) HT_ ?_
         refine qP 20 (some 35) (bN 21 2097151) HT_ ?_
         refine Z0 (Zp HT_.out kr) ?_
         try go_wp2
         go_meet
         case rel=>exact⟨_,(false),rfl,H',⟨by have:=σ.out;omega⟩,δ,Y,HB⟩
       ·replace bc:=Bool.eq_false_iff.mpr bc
        subst bc
        have H1:(api_Hall_right.j1 k1 D I (I.length:Int) B true I J)=some r:=by rw[if_neg (show ¬ (false=true) by decide)] at H;exact H
        clear H
        have H:=H1
        clear H1
        have H':=Aside0.mk H
        clear H
        try go_wp2
        have ε :Aside0 ((((w9.setCell ⟨ν,0,none⟩ (.int .i64 ((Qi I B).f0))).setCell ⟨ν,1,none⟩ (.int .i64 ((Qi I B).f1))).setCell ⟨ν,2,none⟩ (.int .i64 ((Qi I B).f2))).heap[a7]?=some (.cells #[.slice (some aa) I.length ζ,.func (.func 51) #[] #[]] 69 (0,0))):=⟨bka δ⟩
        have θ :Aside0 ((((w9.setCell ⟨ν,0,none⟩ (.int .i64 ((Qi I B).f0))).setCell ⟨ν,1,none⟩ (.int .i64 ((Qi I B).f1))).setCell ⟨ν,2,none⟩ (.int .i64 ((Qi I B).f2))).heap[ν]?=some (.cells #[.int .i64 ((Qi I B).f0),.int .i64 ((Qi I B).f1),.int .i64 ((Qi I B).f2)] 56 (0,0))):=⟨by refine Qx (cs:=#[.int .i64 ((Qi I B).f0),.int .i64 ((Qi I B).f1),.int .i64 0]) ?_ 2 _ rfl;refine Qx (cs:=#[.int .i64 ((Qi I B).f0),.int .i64 0,.int .i64 0]) ?_ 1 _ rfl;refine Qx (cs:=#[.int .i64 0,.int .i64 0,.int .i64 0]) ?_ 0 _ rfl;exact Y.out⟩
        have ι :Aside0 (Below w.heap.size w (((w9.setCell ⟨ν,0,none⟩ (.int .i64 ((Qi I B).f0))).setCell ⟨ν,1,none⟩ (.int .i64 ((Qi I B).f1))).setCell ⟨ν,2,none⟩ (.int .i64 ((Qi I B).f2)))):=⟨bel⟩
        (try clear δ)
        (try clear Y)
        (try clear HB)
        generalize(((w9.setCell ⟨ν,0,none⟩ (.int .i64 ((Qi I B).f0))).setCell ⟨ν,1,none⟩ (.int .i64 ((Qi I B).f1))).setCell ⟨ν,2,none⟩ (.int .i64 ((Qi I B).f2)))=bs at ε θ ι ⊢
        have δ := ε
        have Y:= θ
        have HB:= ι
        clear ε θ ι
        replace δ :=Aside0.mk (Qc δ.out)
        replace Y:=Aside0.mk (Qc Y.out)
        replace HB:=Aside0.mk (Qh HB.out)
        refine Zv (n:=21) (S:=fun w'=>w'.cell? ⟨ν,0,none⟩=some (.int .i64 ((Qi I B).f0))∧w'.cell? ⟨ν,1,none⟩=some (.int .i64 ((Qi I B).f1))∧w'.cell? ⟨ν,2,none⟩=some (.int .i64 ((Qi I B).f2))) (ds:=[]) #[false,false,false,false,false,false,false,false,false,false,false,false,false,false,false,false,false,false,false,false,false] kr rfl rfl ⟨(Qa Y.out 0).trans rfl,(Qa Y.out 1).trans rfl,(Qa Y.out 2).trans rfl⟩ (fun hHeld=>?_);refine Q8 api_Hall_right.Gn api_Hall_right.J1 (fun HT_ HW_=>?_)
        generalize bs.drew=f8 at δ Y HB hHeld ⊢
        refine qP 0 (some 15) (bN 21 1) HT_ ?_
        refine qT 1 (some 16) (bN 21 3) HT_ HW_ hHeld ?_
        refine Zm (i:=2) (N:=some 17) (bN 21 7) rfl rfl (Q3 HT_.out kr) (by decide) (fun K hK=>?_)
        refine Xm Try.func61 kr rfl #[] #[.pointer (some ⟨gh_,0,none⟩)] #[.agg #[.int .i64 ((Qi I B).f0),.int .i64 ((Qi I B).f1),.int .i64 ((Qi I B).f2)]] #[.agg #[.int .i64 ((Qi I B).f0),.int .i64 ((Qi I B).f1),.int .i64 ((Qi I B).f2)],.pointer (some ⟨gh_,0,none⟩)] rfl (by rfl) rfl rfl rfl (by simp only[List.map_toArray,List.map_cons,List.map_nil] <;> rfl) ?_
        with_reducible refine(call_hall_1.calls ((Qi I B).f0) ((Qi I B).f1) ((Qi I B).f2) D false _ cx.out gh_ (Zz HCH.out (by repeat(first|(with_reducible first|exact HB.out|apply Qj|apply Qd|apply Qh)|exact HB.out|(refine Qe ?_ (Aside0.out (by assumption))))))).mono ?_
        rintro e gl ⟨rfl,hb⟩
        refine⟨_,rfl, ?_⟩
        replace δ :=sBk δ hb
        replace Y:=sBk Y hb
        replace HB:=sHb hb
        (try clear hb)
        (try clear a4)
        (try clear hk)
        (try clear hi)
        refine hK.out _ _ ⟨(Qa Y.out 0).trans rfl,(Qa Y.out 1).trans rfl,(Qa Y.out 2).trans rfl⟩ (fun hHeld=>?_)
        clear hK K
        refine qN (some 17) ?_
        refine qP 3 (some 18) (bN 21 15) HT_ ?_
        refine qP 4 (some 19) (bN 21 31) HT_ ?_
        refine qU 5 (some 20) (bN 21 63) HT_ ?_
        refine qU 6 (some 21) (bN 21 127) HT_ ?_
        refine qU 7 (some 22) (bN 21 255) HT_ ?_
        refine qU 8 (some 23) (bN 21 511) HT_ ?_
        refine qU 9 (some 24) (bN 21 1023) HT_ ?_
        refine qU 10 (some 25) (bN 21 2047) HT_ ?_
        refine qU 11 (some 26) (bN 21 4095) HT_ ?_
        refine qU 12 (some 27) (bN 21 8191) HT_ ?_
        refine qU 13 (some 28) (bN 21 16383) HT_ ?_
        refine qU 14 (some 29) (bN 21 32767) HT_ ?_
        refine qU 15 (some 30) (bN 21 65535) HT_ ?_
        refine qU 16 (some 31) (bN 21 131071) HT_ ?_
        refine qU 17 (some 32) (bN 21 262143) HT_ ?_
        refine qU 18 (some 33) (bN 21 524287) HT_ ?_
        refine qU 19 (some 34) (bN 21 1048575) HT_ ?_
        refine qP 20 (some 35) (bN 21 2097151) HT_ ?_
        refine Z0 (Zp HT_.out kr) ?_
        try go_wp2
        go_meet
        case rel=>exact⟨_,(true),rfl,H',⟨by have:=σ.out;omega⟩,δ,Y,HB⟩
      case rest=>
       clear am
       try clear c1
       try clear p1
       try clear q1
       try clear bo
       try clear p2
       try clear c5
       try clear c6
       try clear df
       try clear dh
       try clear d8
       try clear bc
       try clear ay
       try clear c14b0
       try clear a3
       try clear au
       try clear c17b0
       try clear L
       try clear U
       try clear X
       try clear χ
       try clear an
       obtain⟨kq,O,rfl,HA,ax,δ,Y,HB⟩:=hcut
       cases kq with
       |zero=>exact absurd HA.out (by simp[api_Hall_right.j1])
       |succ az=>
        have H:=HA.out
        clear HA
        simp only[api_Hall_right.j1] at H
        by_cases ck:O=true
        ·subst ck
         have H1:(some false)=some r:=by rw[if_pos rfl] at H;exact H
         clear H
         have H:=H1
         clear H1
         obtain rfl:=Option.some.inj H
         go_wp2
         go_ret
         exact⟨rfl,HB.out⟩
        ·replace ck:=Bool.eq_false_iff.mpr ck
         subst ck
         have H1:(api_Hall_right.l0 az D I (I.length:Int) (wrap64 (B+1)) I J)=some r:=by rw[if_neg (show ¬ (false=true) by decide)] at H;exact H
         clear H
         have H:=H1
         clear H1
         have H':=Aside0.mk H
         clear H
         go_wp2
         go_roundg az
         case measure=>have:=σ.out;have:=ax.out;omega
         case rel=>exact⟨(wrap64 (B+1)),rfl,H',⟨by have:=σ.out;have:=ax.out;omega⟩,δ,HB⟩
     ·rw[if_neg c7] at H
      exact absurd H (by simp)
    ·rw[if_neg c6] at H
     exact absurd H (by simp)
   ·rw[if_neg c5] at H
    have c5b0:decide (B<(I.length:Int))=false:=decide_eq_false c5
    clear c5
    obtain rfl:=Option.some.inj H
    go_wp2
    go_ret
    exact⟨rfl,HB.out⟩
end Go.Proofs.Ytjehhhlhalkieaa.C
namespace Go.Proofs.Ytjehhhlhalkieaa.C
open Go.RowKit Go.Proofs.YtjehhhlhalkieaaW.PrintWords Go.Proofs.YtjehhhlhalkieaaW.PrintLast Go.Proofs.YtjehhhlhalkieaaW.PrintMore
attribute [local go_sem] Zk Zi Zt Zs Zd Zc Zj Zh
set_option linter.unusedVariables false
set_option linter.unusedSimpArgs false
mutual
def api_Inside_right.l0:Nat→Int→List (S62)→Int→Int→List (S62)→Int→Option (Bool)
 |0,_,_,_,_,_,_=>none
 |k+1,L,D,I,B,J,O=>if B<I then (if 0≤B then (if B<(D.length:Int) then ((call_inside_1.f ((Qq D B).f0) ((Qq D B).f1) L).bind fun ξ =>(if ξ = true then (if B>0 then (if 0≤(wrap64 (B-1)) then (if (wrap64 (B-1))<(J.length:Int) then ((call_ins_1.f ((Qq J (wrap64 (B-1))).f0) ((Qq J (wrap64 (B-1))).f1) ((Qq D B).f0) ((Qq D B).f1)).bind fun Z=>(api_Inside_right.j1 k L D I B (decide (Z≥0)) J O)) else (none)) else (none)) else (api_Inside_right.j1 k L D I B false J O)) else (api_Inside_right.j1 k L D I B true J O))) else (none)) else (none)) else (some true)
def api_Inside_right.j1:Nat→Int→List (S62)→Int→Int→Bool→List (S62)→Int→Option (Bool)
 |0,_,_,_,_,_,_,_=>none
 |k+1,L,D,I,B,U,J,O=>if U=true then (some false) else (api_Inside_right.l0 k L D I (wrap64 (B+1)) J O)
end
def api_Inside_right.f (k:Nat) (I:List (S62)) (J:Int) (D:Int):Option (Bool):=api_Inside_right.l0 k D I (I.length:Int) 0 I J
theorem api_Inside_right.Zo:∀ k,(∀ D I O J L X,LeO (api_Inside_right.l0 k D I O J L X) (api_Inside_right.l0 (k+1) D I O J L X))∧(∀ D I O J L X Y,LeO (api_Inside_right.j1 k D I O J L X Y) (api_Inside_right.j1 (k+1) D I O J L X Y))
 |0=>⟨fun _ _ _ _ _ _ r h=>by simp[api_Inside_right.l0] at h,fun _ _ _ _ _ _ _ r h=>by simp[api_Inside_right.j1] at h⟩
 |k+1=>by
  obtain⟨B,U⟩:=api_Inside_right.Zo k
  refine⟨?_, ?_⟩
  ·intro D I O J L X
   unfold api_Inside_right.l0
   repeat' first
   |(with_reducible exact B _ _ _ _ _ _)
   |(with_reducible exact U _ _ _ _ _ _ _)
   |(with_reducible exact LeO.refl _)
   |(with_reducible exact LeO.none _)
   |(with_reducible refine LeO.ite ?_ ?_)
   |(with_reducible refine LeO.bind ?_ (fun _=>?_))
   |exact B _ _ _ _ _ _
   |exact U _ _ _ _ _ _ _
   |exact LeO.none _
   |refine LeO.ite ?_ ?_
   |refine LeO.bind ?_ (fun _=>?_)
  ·intro D I O J L X Y
   unfold api_Inside_right.j1
   repeat' first
   |(with_reducible exact B _ _ _ _ _ _)
   |(with_reducible exact U _ _ _ _ _ _ _)
   |(with_reducible exact LeO.refl _)
   |(with_reducible exact LeO.none _)
   |(with_reducible refine LeO.ite ?_ ?_)
   |(with_reducible refine LeO.bind ?_ (fun _=>?_))
   |exact B _ _ _ _ _ _
   |exact U _ _ _ _ _ _ _
   |exact LeO.none _
   |refine LeO.ite ?_ ?_
   |refine LeO.bind ?_ (fun _=>?_)
theorem api_Inside_right.mono:∀ I D a2 k,LeO (api_Inside_right.f k I D a2) (api_Inside_right.f (k+1) I D a2):=by
 intro I D a2 k
 obtain⟨B,U⟩:=api_Inside_right.Zo k
 unfold api_Inside_right.f
 repeat' first
   |(with_reducible exact B _ _ _ _ _ _)
   |(with_reducible exact U _ _ _ _ _ _ _)
   |(with_reducible exact LeO.refl _)
   |(with_reducible exact LeO.none _)
   |(with_reducible refine LeO.ite ?_ ?_)
   |(with_reducible refine LeO.bind ?_ (fun _=>?_))
   |exact B _ _ _ _ _ _
   |exact U _ _ _ _ _ _ _
   |exact LeO.none _
   |refine LeO.ite ?_ ?_
   |refine LeO.bind ?_ (fun _=>?_)
def api_Inside_right.T4:Bool×List (List Nat×List Nat):=(true,[([],[]),([],[]),([0,1],[0,1]),([2],[2]),([3,2],[3]),([4],[4]),([5,4],[4,5]),([6,4,4],[4,6]),([7],[7]),([8,7],[7,8]),([7],[7]),([10,7],[7,10]),([7],[7]),([12,7],[7,12]),([11,13,7],[7,11,13]),([14,7],[7,14]),([7],[7]),([9,15,16,7,7],[7,9,15,16]),([17,7],[7,17]),([7,18,4],[4,7,18]),([4,19],[4,19])])
def api_Inside_right.B4:List Nat:=[0,0,3,7,15,31,63,127,255,511,255,1279,255,4351,15615,31999,255,131071,262143,524287,1048575]
theorem api_Inside_right.Gn:rtab .any (opsOf Try.f43 4)=api_Inside_right.T4:=by kernel_rfl
theorem api_Inside_right.J1:Zx api_Inside_right.T4.2 api_Inside_right.B4=true:=by kernel_rfl
set_option maxHeartbeats 8000000 in
set_option maxRecDepth 100000 in
theorem api_Inside_right.calls (k:Nat) (η :Option Addr) (ζ :Nat) (I:List (S62)) (J:Int) (D:Int) (r:Bool) (w:World) (a2:Kd.C k62 w η I.length I) (a5:I.length ≤ ζ) (h:api_Inside_right.f k I J D=some r) (gh_:Nat) (hgh_:w.heap[gh_]?=some (.cells #[.int .i64 (X7 D),.int .i64 (X6 D)] 23 (0,0))):
  Calls Try.prog 43 #[.agg #[.slice η I.length ζ,.func (.func 57) #[] #[]],.func (.func 50) #[] #[.pointer (some ⟨gh_,0,none⟩)]] w fun e w'=>e = .returned (.bool r)∧Below w.heap.size w w':=by
 have HCH:=Aside0.mk hgh_
 clear hgh_
 have bu:=Try.underlying74
 have be:=Try.underlying62
 have ψ :=Aside0.mk a2
 have af:=Aside0.mk a5
 clear a2 a5
 have HB:=Aside0.mk (Below.refl w.heap.size w)
 have H:(api_Inside_right.l0 k D I (I.length:Int) 0 I J)=some r:=h
 clear h
 have H':=Aside0.mk H
 clear H
 go_enter Try.func43,Try.ntmps43
 go_wp2_with (first|((with_reducible refine Qt (N:=2) rfl ?_);refine Qp ?hg (N:=2) ?hd (cs:=#[.slice η I.length ζ,.func (.func 57) #[] #[]]) (t:=74) ?hr ?_;(case hd=>rfl);(case hg=>rfl);(case hr=>go_simp <;> rfl);intro χ hg w3 hbox hb;have L:=Aside0.mk hbox;have f3:=sGe hg;have fi:=sGe hg;replace HB:=sHb hb;clear hb hbox hg;have ag:w3.cell? ⟨χ,0,none⟩=some (.slice η I.length ζ):=(Qa L.out 0).trans rfl;have ah:w3.cell? ⟨χ,1,none⟩=some (.func (.func 57) #[] #[]):=(Qa L.out 1).trans rfl;have ai:=Qb L.out 0;have al:=Qb L.out 1))
 go_loopg [10] k (fun kq ao w'=>∃ (B:Int),ao = .int .i64 B∧Aside0 (api_Inside_right.l0 kq D I (I.length:Int) B I J=some r)∧Aside0 (kq≤k)∧Aside0 (w'.heap[χ]?=some (.cells #[(.slice η I.length ζ),.func (.func 57) #[] #[]] 74 (0,0)))∧Aside0 (Below w.heap.size w w'))
 case atStart=>exact⟨(0),rfl,H',⟨Nat.le_refl _⟩,L,HB⟩
 case round=>
  clear H'
  try clear p2
  try clear c4
  try clear ag
  try clear ah
  try clear ai
  try clear al
  obtain⟨B,rfl,HA,σ,L,HB⟩:=hrel
  cases gk with
  |zero=>exact absurd HA.out (by simp[api_Inside_right.l0])
  |succ k1=>
   have H:=HA.out
   clear HA
   simp only[api_Inside_right.l0] at H
   by_cases c5:B<(I.length:Int)
   ·rw[if_pos c5] at H
    have c5b0:decide (B<(I.length:Int))=true:=decide_eq_true c5
    clear c5
    by_cases c6:0≤B
    ·rw[if_pos c6] at H
     have c6b0:decide (0≤B)=true:=decide_eq_true c6
     clear c6
     by_cases c7:B<(I.length:Int)
     ·rw[if_pos c7] at H
      have c7b0:decide (B<(I.length:Int))=true:=decide_eq_true c7
      clear c7
      have am:=Aside0.mk H
      clear H
      have ω :0≤(B:Int):=of_decide_eq_true (by assumption)
      have a0:B<(I.length:Int):=of_decide_eq_true (by assumption)
      obtain⟨Y,aa,ν,ρ⟩:=Xa ψ.out B ω a0
      cases aa
      replace ν :=(HB.out.cell (World.block_lt_of_cell? w _ ν)).trans ν
      replace ρ:=(HB.out.cell (World.block_lt_of_cell? w _ ρ)).trans ρ
      replace ω :=eq_true ω
      replace a0:=eq_true a0
      go_upto_region 4 with(first|((with_reducible refine Qt (N:=6) rfl ?_);refine Qp ?hg (N:=6) ?hd (cs:=#[.int .i64 0,.int .i64 0]) (t:=62) ?hr ?_;(case hd=>rfl);(case hg=>rfl);(case hr=>go_simp <;> rfl);intro X hg w9 hbox hb;have U:=Aside0.mk hbox;have a7:=sGe hg;have μ :=sGe hg;have τ :=sNl L hg;have φ :=sNg L hg;replace L:=sBk L hb;replace HB:=sHb hb;clear hb hbox hg;have d5:= φ.out;have d6:= τ.out;have ab:w9.cell? ⟨X,0,none⟩=some (.int .i64 0):=(Qa U.out 0).trans rfl;have ac:w9.cell? ⟨X,1,none⟩=some (.int .i64 0):=(Qa U.out 1).trans rfl;have ae:=Qb U.out 0;have aj:=Qb U.out 1))
      (try simp only[Act.put,qS])
      go_cut [35] (fun b0 wc=>∃ (kq:Nat) (O:Bool),b0 = .bool O∧Aside0 (api_Inside_right.j1 kq D I (I.length:Int) B O I J=some r)∧Aside0 (kq≤k1)∧Aside0 (wc.heap[χ]?=some (.cells #[(.slice (some Y) I.length ζ),.func (.func 57) #[] #[]] 74 (0,0)))∧Aside0 (wc.heap[X]?=some (.cells #[.int .i64 ((Qq I B).f0),.int .i64 ((Qq I B).f1)] 62 (0,0)))∧Aside0 (Below w.heap.size w wc))
      case first=>
       have H:=am.out
       clear am
       replace H:=Option.bind_eq_some_iff.mp H
       obtain⟨ξ,ci,H⟩:=H
       replace H:(if ξ = true then (if B>0 then (if 0≤(wrap64 (B-1)) then (if (wrap64 (B-1))<(I.length:Int) then ((call_ins_1.f ((Qq I (wrap64 (B-1))).f0) ((Qq I (wrap64 (B-1))).f1) ((Qq I B).f0) ((Qq I B).f1)).bind fun Z=>(api_Inside_right.j1 k1 D I (I.length:Int) B (decide (Z≥0)) I J)) else (none)) else (none)) else (api_Inside_right.j1 k1 D I (I.length:Int) B false I J)) else (api_Inside_right.j1 k1 D I (I.length:Int) B true I J))=some r:=H
       have cx:=Aside0.mk ci
       clear ci
       by_cases bc: ξ = true
       ·subst bc
        have H1:(if B>0 then (if 0≤(wrap64 (B-1)) then (if (wrap64 (B-1))<(I.length:Int) then ((call_ins_1.f ((Qq I (wrap64 (B-1))).f0) ((Qq I (wrap64 (B-1))).f1) ((Qq I B).f0) ((Qq I B).f1)).bind fun Z=>(api_Inside_right.j1 k1 D I (I.length:Int) B (decide (Z≥0)) I J)) else (none)) else (none)) else (api_Inside_right.j1 k1 D I (I.length:Int) B false I J))=some r:=by rw[if_pos rfl] at H;exact H
        clear H
        have H:=H1
        clear H1
        by_cases ay:B>0
        ·rw[if_pos ay] at H
         have c14b0:decide (0<B)=true:=decide_eq_true ay
         clear ay
         (first|rw[c14b0]|(simp only[X5,Ys];rw[c14b0])|skip)
         obtain⟨κ,a6⟩:∃ j_:Int,(wrap64 (B-1))=j_:=⟨_,rfl⟩
         replace H:(if 0≤(κ) then (if (κ)<(I.length:Int) then ((call_ins_1.f ((Qq I (κ)).f0) ((Qq I (κ)).f1) ((Qq I B).f0) ((Qq I B).f1)).bind fun Z=>(api_Inside_right.j1 k1 D I (I.length:Int) B (decide (Z≥0)) I J)) else (none)) else (none))=some r:=by first|(rw[a6] at H;exact H)|(simp only[a6] at H ⊢;exact H)
         (try rw[a6] at cx)
         have hji15w:(IntKind.i64.wrap (B-1)) = κ :=(X5 _).trans a6
         by_cases a3:0≤(κ)
         ·rw[if_pos a3] at H
          have c16b0:decide (0≤(κ))=true:=decide_eq_true a3
          clear a3
          by_cases au:(κ)<(I.length:Int)
          ·rw[if_pos au] at H
           have c17b0:decide ((κ)<(I.length:Int))=true:=decide_eq_true au
           clear au
           replace H:=Option.bind_eq_some_iff.mp H
           obtain⟨Z,ce,H⟩:=H
           replace H:(api_Inside_right.j1 k1 D I (I.length:Int) B (decide (Z≥0)) I J)=some r:=H
           have dc:=Aside0.mk ce
           clear ce
           have H':=Aside0.mk H
           clear H
           try go_wp2
           have ε :Aside0 (((w9.setCell ⟨X,0,none⟩ (.int .i64 ((Qq I B).f0))).setCell ⟨X,1,none⟩ (.int .i64 ((Qq I B).f1))).heap[χ]?=some (.cells #[.slice (some Y) I.length ζ,.func (.func 57) #[] #[]] 74 (0,0))):=⟨bka L⟩
           have θ :Aside0 (((w9.setCell ⟨X,0,none⟩ (.int .i64 ((Qq I B).f0))).setCell ⟨X,1,none⟩ (.int .i64 ((Qq I B).f1))).heap[X]?=some (.cells #[.int .i64 ((Qq I B).f0),.int .i64 ((Qq I B).f1)] 62 (0,0))):=⟨by refine Qx (cs:=#[.int .i64 ((Qq I B).f0),.int .i64 0]) ?_ 1 _ rfl;refine Qx (cs:=#[.int .i64 0,.int .i64 0]) ?_ 0 _ rfl;exact U.out⟩
           have ι :Aside0 (Below w.heap.size w ((w9.setCell ⟨X,0,none⟩ (.int .i64 ((Qq I B).f0))).setCell ⟨X,1,none⟩ (.int .i64 ((Qq I B).f1)))):=⟨bel⟩
           (try clear L)
           (try clear U)
           (try clear HB)
           generalize((w9.setCell ⟨X,0,none⟩ (.int .i64 ((Qq I B).f0))).setCell ⟨X,1,none⟩ (.int .i64 ((Qq I B).f1)))=d7 at ε θ ι ⊢
           have L:= ε
           have U:= θ
           have HB:= ι
           clear ε θ ι
           replace L:=Aside0.mk (Qc L.out)
           replace U:=Aside0.mk (Qc U.out)
           replace HB:=Aside0.mk (Qh HB.out)
           have b2:0≤((κ):Int):=of_decide_eq_true (by assumption)
           have b3:(κ)<(I.length:Int):=of_decide_eq_true (by assumption)
           obtain⟨e8,ez,a8,a9⟩:=Xa ψ.out (κ) b2 b3
           have γ:=a9
           have δ :=a8
           obtain rfl:Y=e8:=(by injection ez)
           replace a8:=(HB.out.cell (World.block_lt_of_cell? w _ a8)).trans a8
           replace a9:=(HB.out.cell (World.block_lt_of_cell? w _ a9)).trans a9
           replace b2:=eq_true b2
           replace b3:=eq_true b3
           refine Zv (n:=21) (S:=fun w'=>w'.cell? ⟨X,0,none⟩=some (.int .i64 ((Qq I B).f0))∧w'.cell? ⟨X,1,none⟩=some (.int .i64 ((Qq I B).f1))∧w'.cell? ⟨χ,0,none⟩=some (.slice (some Y) I.length ζ)∧w'.cell? ⟨χ,1,none⟩=some (.func (.func 57) #[] #[])∧w'.cell? (Y.add (((κ)).toNat * 2))=some (.int .i64 ((Qq I (κ)).f0))∧w'.cell? ⟨(Y.add (((κ)).toNat * 2)).block,(Y.add (((κ)).toNat * 2)).off+1,none⟩=some (.int .i64 ((Qq I (κ)).f1))) (ds:=[]) #[false,false,false,false,false,false,false,false,false,false,false,false,false,false,false,false,false,false,false,false,false] kr rfl rfl ⟨(Qa U.out 0).trans rfl,(Qa U.out 1).trans rfl,(Qa L.out 0).trans rfl,(Qa L.out 1).trans rfl,((HB.out.cell (World.block_lt_of_cell? w _ δ)).trans δ),((HB.out.cell (World.block_lt_of_cell? w _ γ)).trans γ)⟩ (fun hHeld=>?_);refine Q8 api_Inside_right.Gn api_Inside_right.J1 (fun HT_ HW_=>?_)
           generalize d7.drew=ca at L U HB a8 a9 hHeld ⊢
           refine qP 0 (some 15) (bN 21 1) HT_ ?_
           refine qT 1 (some 16) (bN 21 3) HT_ HW_ hHeld ?_
           refine Zm (i:=2) (N:=some 17) (bN 21 7) rfl rfl (Q3 HT_.out kr) (by decide) (fun K hK=>?_)
           refine Xm Try.func50 kr rfl #[] #[.pointer (some ⟨gh_,0,none⟩)] #[.agg #[.int .i64 ((Qq I B).f0),.int .i64 ((Qq I B).f1)]] #[.agg #[.int .i64 ((Qq I B).f0),.int .i64 ((Qq I B).f1)],.pointer (some ⟨gh_,0,none⟩)] rfl (by rfl) rfl rfl rfl (by simp only[List.map_toArray,List.map_cons,List.map_nil] <;> rfl) ?_
           with_reducible refine(call_inside_1.calls ((Qq I B).f0) ((Qq I B).f1) D true _ cx.out gh_ (Zz HCH.out (by repeat(first|(with_reducible first|exact HB.out|apply Qj|apply Qd|apply Qh)|exact HB.out|(refine Qe ?_ (Aside0.out (by assumption))))))).mono ?_
           rintro e bl ⟨rfl,hb⟩
           refine⟨_,rfl, ?_⟩
           replace L:=sBk L hb
           replace U:=sBk U hb
           replace HB:=sHb hb
           (try clear hb)
           (try clear a4)
           (try clear hk)
           (try clear hi)
           refine hK.out _ _ ⟨(Qa U.out 0).trans rfl,(Qa U.out 1).trans rfl,(Qa L.out 0).trans rfl,(Qa L.out 1).trans rfl,((HB.out.cell (World.block_lt_of_cell? w _ δ)).trans δ),((HB.out.cell (World.block_lt_of_cell? w _ γ)).trans γ)⟩ (fun hHeld=>?_)
           clear hK K
           refine qN (some 17) ?_
           refine qP 3 (some 18) (bN 21 15) HT_ ?_
           refine qP 4 (some 19) (bN 21 31) HT_ ?_
           refine qP 5 (some 20) (bN 21 63) HT_ ?_
           refine qP 6 (some 21) (bN 21 127) HT_ ?_
           refine qP 7 (some 22) (bN 21 255) HT_ ?_
           refine qP 8 (some 23) (bN 21 511) HT_ ?_
           refine qP 10 (some 25) (bN 21 1535) HT_ ?_
           refine qP 12 (some 27) (bN 21 5631) HT_ ?_
           refine qP 13 (some 28) (bN 21 13823) HT_ ?_
           refine qT 9 (some 24) (bN 21 14335) HT_ HW_ hHeld ?_
           refine qT 11 (some 26) (bN 21 16383) HT_ HW_ hHeld ?_
           refine qP 14 (some 29) (bN 21 32767) HT_ ?_
           refine qT 15 (some 30) (bN 21 65535) HT_ HW_ hHeld ?_
           refine qT 16 (some 31) (bN 21 131071) HT_ HW_ hHeld ?_
           refine Zm (i:=17) (N:=some 32) (bN 21 262143) rfl rfl (Q3 HT_.out kr) (by decide) (fun K hK=>?_)
           refine Xm Try.func57 kr rfl #[] #[] #[.agg #[.int .i64 ((Qq I (κ)).f0),.int .i64 ((Qq I (κ)).f1)],.agg #[.int .i64 ((Qq I B).f0),.int .i64 ((Qq I B).f1)]] #[.agg #[.int .i64 ((Qq I (κ)).f0),.int .i64 ((Qq I (κ)).f1)],.agg #[.int .i64 ((Qq I B).f0),.int .i64 ((Qq I B).f1)]] rfl (by rfl) rfl rfl rfl (by(try simp only[List.map_toArray,List.map_cons,List.map_nil]);first|done|(simp only[a6];rfl)|rfl|(simp only[List.length_drop,List.length_take];rfl)) ?_
           with_reducible refine(call_ins_1.calls ((Qq I (κ)).f0) ((Qq I (κ)).f1) ((Qq I B).f0) ((Qq I B).f1) Z _ dc.out).mono ?_
           rintro e dt ⟨rfl,hb⟩
           refine⟨_,rfl, ?_⟩
           replace L:=sBk L hb
           replace U:=sBk U hb
           replace HB:=sHb hb
           (try clear hb)
           (try clear a4)
           (try clear hk)
           (try clear hi)
           refine hK.out _ _ ⟨(Qa U.out 0).trans rfl,(Qa U.out 1).trans rfl,(Qa L.out 0).trans rfl,(Qa L.out 1).trans rfl,((HB.out.cell (World.block_lt_of_cell? w _ δ)).trans δ),((HB.out.cell (World.block_lt_of_cell? w _ γ)).trans γ)⟩ (fun hHeld=>?_)
           clear hK K
           refine qN (some 32) ?_
           refine qP 18 (some 33) (bN 21 524287) HT_ ?_
           refine qP 19 (some 34) (bN 21 1048575) HT_ ?_
           refine qP 20 (some 35) (bN 21 2097151) HT_ ?_
           refine Z0 (Zp HT_.out kr) ?_
           try go_wp2
           go_meet
           case rel=>exact⟨_,(decide (Z≥0)),rfl,H',⟨by have:=σ.out;omega⟩,L,U,HB⟩
          ·rw[if_neg au] at H
           exact absurd H (by simp)
         ·rw[if_neg a3] at H
          exact absurd H (by simp)
        ·rw[if_neg ay] at H
         have c14b0:decide (0<B)=false:=decide_eq_false ay
         clear ay
         (first|rw[c14b0]|(simp only[X5,Ys];rw[c14b0])|skip)
         have H':=Aside0.mk H
         clear H
         try go_wp2
         have ε :Aside0 (((w9.setCell ⟨X,0,none⟩ (.int .i64 ((Qq I B).f0))).setCell ⟨X,1,none⟩ (.int .i64 ((Qq I B).f1))).heap[χ]?=some (.cells #[.slice (some Y) I.length ζ,.func (.func 57) #[] #[]] 74 (0,0))):=⟨bka L⟩
         have θ :Aside0 (((w9.setCell ⟨X,0,none⟩ (.int .i64 ((Qq I B).f0))).setCell ⟨X,1,none⟩ (.int .i64 ((Qq I B).f1))).heap[X]?=some (.cells #[.int .i64 ((Qq I B).f0),.int .i64 ((Qq I B).f1)] 62 (0,0))):=⟨by refine Qx (cs:=#[.int .i64 ((Qq I B).f0),.int .i64 0]) ?_ 1 _ rfl;refine Qx (cs:=#[.int .i64 0,.int .i64 0]) ?_ 0 _ rfl;exact U.out⟩
         have ι :Aside0 (Below w.heap.size w ((w9.setCell ⟨X,0,none⟩ (.int .i64 ((Qq I B).f0))).setCell ⟨X,1,none⟩ (.int .i64 ((Qq I B).f1)))):=⟨bel⟩
         (try clear L)
         (try clear U)
         (try clear HB)
         generalize((w9.setCell ⟨X,0,none⟩ (.int .i64 ((Qq I B).f0))).setCell ⟨X,1,none⟩ (.int .i64 ((Qq I B).f1)))=cd at ε θ ι ⊢
         have L:= ε
         have U:= θ
         have HB:= ι
         clear ε θ ι
         replace L:=Aside0.mk (Qc L.out)
         replace U:=Aside0.mk (Qc U.out)
         replace HB:=Aside0.mk (Qh HB.out)
         refine Zv (n:=21) (S:=fun w'=>w'.cell? ⟨X,0,none⟩=some (.int .i64 ((Qq I B).f0))∧w'.cell? ⟨X,1,none⟩=some (.int .i64 ((Qq I B).f1))) (ds:=[]) #[false,false,false,false,false,false,false,false,false,false,false,false,false,false,false,false,false,false,false,false,false] kr rfl rfl ⟨(Qa U.out 0).trans rfl,(Qa U.out 1).trans rfl⟩ (fun hHeld=>?_);refine Q8 api_Inside_right.Gn api_Inside_right.J1 (fun HT_ HW_=>?_)
         generalize cd.drew=bm at L U HB hHeld ⊢
         refine qP 0 (some 15) (bN 21 1) HT_ ?_
         refine qT 1 (some 16) (bN 21 3) HT_ HW_ hHeld ?_
         refine Zm (i:=2) (N:=some 17) (bN 21 7) rfl rfl (Q3 HT_.out kr) (by decide) (fun K hK=>?_)
         refine Xm Try.func50 kr rfl #[] #[.pointer (some ⟨gh_,0,none⟩)] #[.agg #[.int .i64 ((Qq I B).f0),.int .i64 ((Qq I B).f1)]] #[.agg #[.int .i64 ((Qq I B).f0),.int .i64 ((Qq I B).f1)],.pointer (some ⟨gh_,0,none⟩)] rfl (by rfl) rfl rfl rfl (by simp only[List.map_toArray,List.map_cons,List.map_nil] <;> rfl) ?_
         with_reducible refine(call_inside_1.calls ((Qq I B).f0) ((Qq I B).f1) D true _ cx.out gh_ (Zz HCH.out (by repeat(first|(with_reducible first|exact HB.out|apply Qj|apply Qd|apply Qh)|exact HB.out|(refine Qe ?_ (Aside0.out (by assumption))))))).mono ?_
         rintro e cj ⟨rfl,hb⟩
         refine⟨_,rfl, ?_⟩
         replace L:=sBk L hb
         replace U:=sBk U hb
         replace HB:=sHb hb
         (try clear hb)
         (try clear a4)
         (try clear hk)
         (try clear hi)
         refine hK.out _ _ ⟨(Qa U.out 0).trans rfl,(Qa U.out 1).trans rfl⟩ (fun hHeld=>?_)
         clear hK K
         refine qN (some 17) ?_
         refine qP 3 (some 18) (bN 21 15) HT_ ?_
         refine qP 4 (some 19) (bN 21 31) HT_ ?_
         refine qP 5 (some 20) (bN 21 63) HT_ ?_
         refine qP 6 (some 21) (bN 21 127) HT_ ?_
         refine qP 7 (some 22) (bN 21 255) HT_ ?_
         refine qU 8 (some 23) (bN 21 511) HT_ ?_
         refine qU 9 (some 24) (bN 21 1023) HT_ ?_
         refine qU 10 (some 25) (bN 21 2047) HT_ ?_
         refine qU 11 (some 26) (bN 21 4095) HT_ ?_
         refine qU 12 (some 27) (bN 21 8191) HT_ ?_
         refine qU 13 (some 28) (bN 21 16383) HT_ ?_
         refine qU 14 (some 29) (bN 21 32767) HT_ ?_
         refine qU 15 (some 30) (bN 21 65535) HT_ ?_
         refine qU 16 (some 31) (bN 21 131071) HT_ ?_
         refine qU 17 (some 32) (bN 21 262143) HT_ ?_
         refine qU 18 (some 33) (bN 21 524287) HT_ ?_
         refine qP 19 (some 34) (bN 21 1048575) HT_ ?_
         refine qP 20 (some 35) (bN 21 2097151) HT_ ?_
         refine Z0 (Zp HT_.out kr) ?_
         try go_wp2
         go_meet
         case rel=>exact⟨_,(false),rfl,H',⟨by have:=σ.out;omega⟩,L,U,HB⟩
       ·replace bc:=Bool.eq_false_iff.mpr bc
        subst bc
        have H1:(api_Inside_right.j1 k1 D I (I.length:Int) B true I J)=some r:=by rw[if_neg (show ¬ (false=true) by decide)] at H;exact H
        clear H
        have H:=H1
        clear H1
        have H':=Aside0.mk H
        clear H
        try go_wp2
        have ε :Aside0 (((w9.setCell ⟨X,0,none⟩ (.int .i64 ((Qq I B).f0))).setCell ⟨X,1,none⟩ (.int .i64 ((Qq I B).f1))).heap[χ]?=some (.cells #[.slice (some Y) I.length ζ,.func (.func 57) #[] #[]] 74 (0,0))):=⟨bka L⟩
        have θ :Aside0 (((w9.setCell ⟨X,0,none⟩ (.int .i64 ((Qq I B).f0))).setCell ⟨X,1,none⟩ (.int .i64 ((Qq I B).f1))).heap[X]?=some (.cells #[.int .i64 ((Qq I B).f0),.int .i64 ((Qq I B).f1)] 62 (0,0))):=⟨by refine Qx (cs:=#[.int .i64 ((Qq I B).f0),.int .i64 0]) ?_ 1 _ rfl;refine Qx (cs:=#[.int .i64 0,.int .i64 0]) ?_ 0 _ rfl;exact U.out⟩
        have ι :Aside0 (Below w.heap.size w ((w9.setCell ⟨X,0,none⟩ (.int .i64 ((Qq I B).f0))).setCell ⟨X,1,none⟩ (.int .i64 ((Qq I B).f1)))):=⟨bel⟩
        (try clear L)
        (try clear U)
        (try clear HB)
        generalize((w9.setCell ⟨X,0,none⟩ (.int .i64 ((Qq I B).f0))).setCell ⟨X,1,none⟩ (.int .i64 ((Qq I B).f1)))=bs at ε θ ι ⊢
        have L:= ε
        have U:= θ
        have HB:= ι
        clear ε θ ι
        replace L:=Aside0.mk (Qc L.out)
        replace U:=Aside0.mk (Qc U.out)
        replace HB:=Aside0.mk (Qh HB.out)
        refine Zv (n:=21) (S:=fun w'=>w'.cell? ⟨X,0,none⟩=some (.int .i64 ((Qq I B).f0))∧w'.cell? ⟨X,1,none⟩=some (.int .i64 ((Qq I B).f1))) (ds:=[]) #[false,false,false,false,false,false,false,false,false,false,false,false,false,false,false,false,false,false,false,false,false] kr rfl rfl ⟨(Qa U.out 0).trans rfl,(Qa U.out 1).trans rfl⟩ (fun hHeld=>?_);refine Q8 api_Inside_right.Gn api_Inside_right.J1 (fun HT_ HW_=>?_)
        generalize bs.drew=f8 at L U HB hHeld ⊢
        refine qP 0 (some 15) (bN 21 1) HT_ ?_
        refine qT 1 (some 16) (bN 21 3) HT_ HW_ hHeld ?_
        refine Zm (i:=2) (N:=some 17) (bN 21 7) rfl rfl (Q3 HT_.out kr) (by decide) (fun K hK=>?_)
        refine Xm Try.func50 kr rfl #[] #[.pointer (some ⟨gh_,0,none⟩)] #[.agg #[.int .i64 ((Qq I B).f0),.int .i64 ((Qq I B).f1)]] #[.agg #[.int .i64 ((Qq I B).f0),.int .i64 ((Qq I B).f1)],.pointer (some ⟨gh_,0,none⟩)] rfl (by rfl) rfl rfl rfl (by simp only[List.map_toArray,List.map_cons,List.map_nil] <;> rfl) ?_
        with_reducible refine(call_inside_1.calls ((Qq I B).f0) ((Qq I B).f1) D false _ cx.out gh_ (Zz HCH.out (by repeat(first|(with_reducible first|exact HB.out|apply Qj|apply Qd|apply Qh)|exact HB.out|(refine Qe ?_ (Aside0.out (by assumption))))))).mono ?_
        rintro e gl ⟨rfl,hb⟩
        refine⟨_,rfl, ?_⟩
        replace L:=sBk L hb
        replace U:=sBk U hb
        replace HB:=sHb hb
        (try clear hb)
        (try clear a4)
        (try clear hk)
        (try clear hi)
        refine hK.out _ _ ⟨(Qa U.out 0).trans rfl,(Qa U.out 1).trans rfl⟩ (fun hHeld=>?_)
        clear hK K
        refine qN (some 17) ?_
        refine qP 3 (some 18) (bN 21 15) HT_ ?_
        refine qP 4 (some 19) (bN 21 31) HT_ ?_
        refine qU 5 (some 20) (bN 21 63) HT_ ?_
        refine qU 6 (some 21) (bN 21 127) HT_ ?_
        refine qU 7 (some 22) (bN 21 255) HT_ ?_
        refine qU 8 (some 23) (bN 21 511) HT_ ?_
        refine qU 9 (some 24) (bN 21 1023) HT_ ?_
        refine qU 10 (some 25) (bN 21 2047) HT_ ?_
        refine qU 11 (some 26) (bN 21 4095) HT_ ?_
        refine qU 12 (some 27) (bN 21 8191) HT_ ?_
        refine qU 13 (some 28) (bN 21 16383) HT_ ?_
        refine qU 14 (some 29) (bN 21 32767) HT_ ?_
        refine qU 15 (some 30) (bN 21 65535) HT_ ?_
        refine qU 16 (some 31) (bN 21 131071) HT_ ?_
        refine qU 17 (some 32) (bN 21 262143) HT_ ?_
        refine qU 18 (some 33) (bN 21 524287) HT_ ?_
        refine qU 19 (some 34) (bN 21 1048575) HT_ ?_
        refine qP 20 (some 35) (bN 21 2097151) HT_ ?_
        refine Z0 (Zp HT_.out kr) ?_
        try go_wp2
        go_meet
        case rel=>exact⟨_,(true),rfl,H',⟨by have:=σ.out;omega⟩,L,U,HB⟩
      case rest=>
       clear am
       try clear c1
       try clear p1
       try clear q1
       try clear bo
       try clear p2
       try clear c5
       try clear n1
       try clear n2
       try clear ki
       try clear bc
       try clear ay
       try clear c14b0
       try clear a3
       try clear c16b0
       try clear au
       try clear c17b0
       try clear a8
       try clear a9
       try clear b2
       try clear b3
       obtain⟨kq,O,rfl,HA,ax,L,U,HB⟩:=hcut
       cases kq with
       |zero=>exact absurd HA.out (by simp[api_Inside_right.j1])
       |succ az=>
        have H:=HA.out
        clear HA
        simp only[api_Inside_right.j1] at H
        by_cases ck:O=true
        ·subst ck
         have H1:(some false)=some r:=by rw[if_pos rfl] at H;exact H
         clear H
         have H:=H1
         clear H1
         obtain rfl:=Option.some.inj H
         go_wp2
         go_ret
         exact⟨rfl,HB.out⟩
        ·replace ck:=Bool.eq_false_iff.mpr ck
         subst ck
         have H1:(api_Inside_right.l0 az D I (I.length:Int) (wrap64 (B+1)) I J)=some r:=by rw[if_neg (show ¬ (false=true) by decide)] at H;exact H
         clear H
         have H:=H1
         clear H1
         have H':=Aside0.mk H
         clear H
         go_wp2
         go_roundg az
         case measure=>have:=σ.out;have:=ax.out;omega
         case rel=>exact⟨(wrap64 (B+1)),rfl,H',⟨by have:=σ.out;have:=ax.out;omega⟩,L,HB⟩
     ·rw[if_neg c7] at H
      exact absurd H (by simp)
    ·rw[if_neg c6] at H
     exact absurd H (by simp)
   ·rw[if_neg c5] at H
    have c5b0:decide (B<(I.length:Int))=false:=decide_eq_false c5
    clear c5
    obtain rfl:=Option.some.inj H
    go_wp2
    go_ret
    exact⟨rfl,HB.out⟩
end Go.Proofs.Ytjehhhlhalkieaa.C
namespace Go.Proofs.Ytjehhhlhalkieaa.Call
open Go.RowKit Go.Proofs.YtjehhhlhalkieaaW.PrintWords Go.Proofs.YtjehhhlhalkieaaW.PrintLast Go.Proofs.YtjehhhlhalkieaaW.PrintMore Go.Proofs.Ytjehhhlhalkieaa.C
set_option linter.unusedVariables false
set_option linter.unusedSimpArgs false
theorem Vu (a b:Int):Vw a b<0↔a<b:=by unfold Vw;split <;> (try split) <;> omega
theorem Vv (a b:Int):Vw a b=0↔a=b:=by unfold Vw;split <;> (try split) <;> omega
theorem X3 (a b c d:Int):Z9 a b c d<0↔(a<c∨(a=c∧b<d)):=by
  unfold Z9
  have h1:=Vu a c
  have O:=Vv a c
  have D:=Vu b d
  split <;> omega
theorem Ym (a b c d:Int):Z9 a b c d=0↔(a=c∧b=d):=by
  unfold Z9
  have h1:=Vu a c
  have O:=Vv a c
  have D:=Vv b d
  split <;> omega
def Va {α:Type} (q:α→Bool):Nat→List α→Int
  |_,[]=> -1
  |i,x :: l=>if q x=true then (i:Int) else Va q (i+1) l
theorem Vg {α:Type} (q:α→Bool) (l:List α):∀ i:Nat,(Va q i l = -1 ∧ ∀ x ∈ l,q x=false) ∨ ∃ k:Nat,∃ h:k<l.length,Va q i l=((i+k:Nat):Int)∧q l[k]=true ∧ ∀ x ∈ l.take k,q x=false:=by
  induction l with
  |nil=>intro i;exact .inl ⟨rfl,by simp⟩
  |cons x l ih=>
    intro i
    simp only[Va]
    by_cases h:q x=true
    · rw[if_pos h]
      exact .inr ⟨0,by simp,by simp,by simpa using h,by simp⟩
    · rw[if_neg h]
      have hf:q x=false:=by simpa using h
      rcases ih (i+1) with⟨e,ha⟩|⟨k,hk,e,ht,ha⟩
      · refine .inl ⟨e,fun y hy=>?_⟩
        rcases List.mem_cons.1 hy with rfl|hy
        · exact hf
        · exact ha y hy
      · refine .inr ⟨k+1,by simpa using hk,by rw[e];congr 1;omega,by simpa using ht,fun y hy=>?_⟩
        rw[List.take_succ_cons] at hy
        rcases List.mem_cons.1 hy with rfl|hy
        · exact hf
        · exact ha y hy
def Zw {α:Type} (may:α→Bool) (lt:α→α→Bool):Option α→List α→Bool
  |_,[]=>true
  |none,x :: l=>may x&&Zw may lt (some x) l
  |some p,x :: l=>(may x&&lt p x)&&Zw may lt (some x) l
abbrev qH (D:Int) (x:S56):Bool:=Z9 (X7 D) (X6 D) x.f0 x.f1==0
def ltH (x y:S56):Bool:=decide (Z9 x.f0 x.f1 y.f0 y.f1<0)
theorem Yu (x y:S56):ltH x y=true↔(x.f0<y.f0∨(x.f0=y.f0∧x.f1<y.f1)):=by
  unfold ltH
  rw[decide_eq_true_iff,X3]
theorem Wy {x y z:S56} (h1:ltH x y=true) (O:ltH y z=true):ltH x z=true:=by
  rw[Yu] at *
  omega
theorem Yj (l:List S56) (i:Nat) (h:i<l.length):Qi l (i:Int)=l[i]:=by
  unfold Qi
  rw[Int.toNat_natCast,List.getD_eq_getElem?_getD,List.getElem?_eq_getElem h]
  rfl
theorem W4 (l:List S56) (D:Int) (hm:l.length≤1000000000) (j:Nat):∀ (f i:Nat),i+j=l.length→j<f→api_Hall_67.l0 f l D (l.length:Int) (i:Int)=some (Va (qH D) i (l.drop i)):=by
  induction j with
  |zero=>
    intro f i hi hf
    obtain⟨f,rfl⟩:∃ m,f=m+1:=⟨f-1,by omega⟩
    simp only[api_Hall_67.l0]
    rw[if_neg (by omega),List.drop_of_length_le (by omega)]
    rfl
  |succ j ih=>
    intro f i hi hf
    obtain⟨f,rfl⟩:∃ m,f=m+1:=⟨f-1,by omega⟩
    have ha:i<l.length:=by omega
    have ei:wrap64 ((i:Int)+1)=((i+1:Nat):Int):=by unfold wrap64;omega
    simp only[api_Hall_67.l0]
    rw[if_pos (by omega),if_pos (by omega),if_pos (by omega),Yj l i ha,ei,ih f (i+1) (by omega) (by omega)]
    unfold api_Hall_without_1.f
    simp only[Option.bind_some]
    rw[List.drop_eq_getElem_cons ha]
    simp only[Va]
    by_cases h:qH D l[i]=true
    · rw[if_pos h,if_pos h]
    · rw[if_neg h,if_neg h]
theorem Mz (l:List S56) (D:Int) (hm:l.length≤1000000000) (k:Nat) (hk:l.length<k):api_Hall_67.f k l D=some (Va (qH D) 0 l):=by
  unfold api_Hall_67.f
  have:=W4 l D hm l.length k 0 (by omega) hk
  simpa using this
theorem W7 (l:List S56) (D:Int) (hm:l.length≤1000000000) (j:Nat):∀ (f:Nat) (x:List S56) (i m:Nat),x.length=l.length→m+j=l.length→i≤m→j<f→x.drop m=l.drop m→x.take i=(l.take m).filter (fun y=> !qH D y) →
    api_Hall_54.l0 f x D (i:Int) (m:Int)=some (l.filter (fun y=> !qH D y)):=by
  induction j with
  |zero=>
    intro f x i m hx hj him hf hd ht
    obtain⟨f,rfl⟩:∃ m,f=m+1:=⟨f-1,by omega⟩
    simp only[api_Hall_54.l0]
    rw[if_neg (by omega),if_pos (by omega),if_pos (by omega),Int.toNat_natCast,ht,List.take_of_length_le (by omega)]
  |succ j ih=>
    intro f x i m hx hj him hf hd ht
    obtain⟨f,rfl⟩:∃ m,f=m+1:=⟨f-1,by omega⟩
    have ha:m<l.length:=by omega
    have hax:m<x.length:=by omega
    have em:wrap64 ((m:Int)+1)=((m+1:Nat):Int):=by unfold wrap64;omega
    have ei:wrap64 ((i:Int)+1)=((i+1:Nat):Int):=by unfold wrap64;omega
    have hxm:x[m]=l[m]:=by
      have h1:=List.drop_eq_getElem_cons hax
      have O:=List.drop_eq_getElem_cons ha
      rw[hd,O] at h1
      exact(List.cons.inj h1).1.symm
    have B:x.drop (m+1)=l.drop (m+1):=by
      have h1:=List.drop_eq_getElem_cons hax
      have O:=List.drop_eq_getElem_cons ha
      rw[hd,O] at h1
      exact(List.cons.inj h1).2.symm
    have I:(l.take (m+1)).filter (fun y=> !qH D y)=(l.take m).filter (fun y=> !qH D y) ++ [l[m]].filter (fun y=> !qH D y):=by
      rw[List.take_succ_eq_append_getElem ha,List.filter_append]
    simp only[api_Hall_54.l0]
    rw[if_pos (by omega),if_pos (by omega),Yj x m hax,hxm,em,ei]
    unfold api_Hall_without_1.f
    simp only[Option.bind_some]
    by_cases h:qH D l[m]=true
    · rw[if_pos h]
      refine ih f x i (m+1) hx (by omega) (by omega) (by omega) B ?_
      rw[I,ht]
      simp only[List.filter_cons,List.filter_nil]
      rw[if_neg (by rw[h];decide),List.append_nil]
    · have hf':qH D l[m]=false:=by simpa using h
      rw[if_neg h,if_pos (by omega),if_pos (by omega),Int.toNat_natCast]
      refine ih f (x.set i _) (i+1) (m+1) (by rw[List.length_set];exact hx) (by omega) (by omega) (by omega) ?_ ?_
      · rw[List.drop_set_of_lt (by omega)]
        exact B
      · rw[I]
        simp only[List.filter_cons,List.filter_nil]
        rw[if_pos (by rw[hf'];rfl),List.take_succ_eq_append_getElem (by rw[List.length_set];omega),List.getElem_set_self,List.take_set_of_le (by omega),ht]
theorem M3 (l:List S56) (D:Int) (hm:l.length≤1000000000) (k:Nat) (hk:l.length+5<k):api_Hall_54.f k l D=some (l.filter (fun y=> !qH D y)):=by
  unfold api_Hall_54.f
  rw[Mz l D hm k (by omega)]
  simp only[Option.bind_some]
  rcases Vg (qH D) l 0 with⟨e,ha⟩|⟨i,hi,e,ht,ha⟩
  · rw[e,if_pos rfl]
    congr 1
    exact(List.filter_eq_self.2 (fun y hy=>by rw[ha y hy];rfl)).symm
  · rw[e,Nat.zero_add,if_neg (by omega)]
    have ei:wrap64 ((i:Int)+1)=((i+1:Nat):Int):=by unfold wrap64;omega
    rw[ei]
    refine W7 l D hm (l.length - (i+1)) k l i (i+1) rfl (by omega) (by omega) (by omega) rfl ?_
    rw[List.take_succ_eq_append_getElem hi,List.filter_append]
    simp only[List.filter_cons,List.filter_nil]
    rw[if_neg (by rw[ht];decide),List.append_nil]
    exact(List.filter_eq_self.2 (fun y hy=>by rw[ha y hy];rfl)).symm
def G1 (l:List S56) (J L:Int) (p:Nat):Prop:=p≤l.length∧(∀ y ∈ l.take p,Z9 y.f0 y.f1 J L<0)∧(∀ y ∈ l.drop p,¬ Z9 y.f0 y.f1 J L<0)
def Kx (l:List S56) (J L:Int) (p:Nat):Bool:=match l[p]? with|some y=>Z9 y.f0 y.f1 J L==0|none=>false
theorem Vn (l:List S56) (J L x2:Int) (hm:l.length≤1000000000) (hs:l.Pairwise (fun x y=>ltH x y=true)) (d:Nat):∀ (f i j:Nat),j-i≤d→i≤j→j≤l.length→d<f→(∀ y ∈ l.take i,Z9 y.f0 y.f1 J L<0)→(∀ y ∈ l.drop j,¬ Z9 y.f0 y.f1 J L<0) →
    ∃ p,G1 l J L p∧api_Hall_62.l0 f l (l.length:Int) (i:Int) (j:Int) J L x2=some ((p:Int),Kx l J L p):=by
  have stop:∀ (f i:Nat),0<f→i≤l.length→(∀ y ∈ l.take i,Z9 y.f0 y.f1 J L<0)→(∀ y ∈ l.drop i,¬ Z9 y.f0 y.f1 J L<0) → ∃ p,G1 l J L p∧api_Hall_62.l0 f l (l.length:Int) (i:Int) (i:Int) J L x2=some ((p:Int),Kx l J L p):=by
    intro f i hf hi h1 O
    obtain⟨f,rfl⟩:∃ m,f=m+1:=⟨f-1,by omega⟩
    refine⟨i,⟨hi,h1,O⟩, ?_⟩
    simp only[api_Hall_62.l0]
    unfold Kx
    rw[if_neg (by omega)]
    by_cases h:i<l.length
    · rw[if_pos (by omega),if_pos (by omega),if_pos (by omega),Yj l i h,List.getElem?_eq_getElem h]
      rfl
    · rw[if_neg (by omega),List.getElem?_eq_none (by omega)]
  induction d with
  |zero=>
    intro f i j hd hij hj hf h1 O
    obtain rfl:i=j:=by omega
    exact stop f i hf hj h1 O
  |succ d ih=>
    intro f i j hd hij hj hf h1 O
    by_cases he:i=j
    · subst he
      exact stop f i (by omega) hj h1 O
    · obtain⟨f,rfl⟩:∃ m,f=m+1:=⟨f-1,by omega⟩
      have hmid:wrap64 ((IntKind.u64.wrap (wrap64 ((i:Int)+(j:Int)))) / 2)=(((i+j) / 2:Nat):Int):=by
        rw[show wrap64 ((i:Int)+(j:Int))=(i:Int)+(j:Int) from by unfold wrap64;omega,IntKind.wrap_u64]
        unfold wrap64;omega
      have e1:wrap64 ((((i+j) / 2:Nat):Int)+1)=(((i+j) / 2+1:Nat):Int):=by unfold wrap64;omega
      simp only[api_Hall_62.l0]
      rw[if_pos (by omega),hmid]
      have hh:(i+j) / 2<l.length:=by omega
      generalize hg:(i+j) / 2=h at *
      rw[if_pos (by omega),if_pos (by omega),Yj l h hh,e1]
      unfold call_halls_1.f
      simp only[Option.bind_some]
      have hlt:∀ m:Nat,(hm:m<h)→Z9 (l[m]'(by omega)).f0 (l[m]'(by omega)).f1 l[h].f0 l[h].f1<0:=by
        intro m hm
        have:=List.pairwise_iff_getElem.1 hs m h (by omega) hh hm
        exact of_decide_eq_true this
      have hgt:∀ m:Nat,h<m→(hm:m<l.length)→Z9 l[h].f0 l[h].f1 l[m].f0 l[m].f1<0:=by
        intro m hm hml
        have:=List.pairwise_iff_getElem.1 hs h m hh hml hm
        exact of_decide_eq_true this
      by_cases hc:Z9 l[h].f0 l[h].f1 J L<0
      · rw[if_pos hc]
        refine ih f (h+1) j (by omega) (by omega) hj (by omega) ?_ O
        intro y hy
        obtain⟨m,hm,rfl⟩:=List.mem_iff_getElem.1 hy
        rw[List.length_take] at hm
        rw[List.getElem_take]
        by_cases hmh:m=h
        · subst hmh;exact hc
        · have D:=hlt m (by omega)
          rw[X3] at *
          omega
      · rw[if_neg hc]
        refine ih f i h (by omega) (by omega) (by omega) (by omega) h1 ?_
        intro y hy
        obtain⟨m,hm,rfl⟩:=List.mem_iff_getElem.1 hy
        rw[List.length_drop] at hm
        rw[List.getElem_drop]
        by_cases hmh:m=0
        · subst hmh;simpa using hc
        · have D:=hgt (h+m) (by omega) (by omega)
          rw[X3] at *
          omega
theorem Gq (l:List S56) (J L x2:Int) (a2:Int) (hm:l.length≤1000000000) (hs:l.Pairwise (fun x y=>ltH x y=true)) (k:Nat) (hk:l.length<k):
    ∃ p,G1 l J L p∧api_Hall_62.f k l J L x2 a2=some ((p:Int),Kx l J L p):=by
  unfold api_Hall_62.f
  have:=Vn l J L x2 hm hs l.length k 0 l.length (by omega) (by omega) (by omega) hk (by simp) (by simp)
  simpa using this
theorem V9 (l:List S56) (D tok_:Int) (hm:l.length≤1000000000) (j:Nat):∀ (f i:Nat),i+j=l.length→2 * j<f→api_Hall_right.l0 f D l (l.length:Int) (i:Int) l tok_=some (Zw (fun x=>Xp (X7 D) (X6 D) x.f0 x.f1 x.f2) ltH (if i=0 then none else l[i-1]?) (l.drop i)):=by
  induction j with
  |zero=>
    intro f i hi hf
    obtain⟨f,rfl⟩:∃ m,f=m+1:=⟨f-1,by omega⟩
    simp only[api_Hall_right.l0]
    rw[if_neg (by omega),List.drop_of_length_le (by omega)]
    cases(if i=0 then none else l[i-1]?) <;> rfl
  |succ j ih=>
    intro f i hi hf
    obtain⟨f,rfl⟩:∃ m,f=m+2:=⟨f-2,by omega⟩
    have ha:i<l.length:=by omega
    have ei:wrap64 ((i:Int)+1)=((i+1:Nat):Int):=by unfold wrap64;omega
    have jt:api_Hall_right.j1 (f+1) D l (l.length:Int) (i:Int) true l tok_=some false:=by simp[api_Hall_right.j1]
    have jf:api_Hall_right.j1 (f+1) D l (l.length:Int) (i:Int) false l tok_=some (Zw (fun x=>Xp (X7 D) (X6 D) x.f0 x.f1 x.f2) ltH (some l[i]) (l.drop (i+1))):=by
      simp only[api_Hall_right.j1]
      rw[if_neg (by decide),ei,ih f (i+1) (by omega) (by omega),if_neg (by omega),Nat.add_sub_cancel,List.getElem?_eq_getElem ha]
    simp only[api_Hall_right.l0]
    rw[if_pos (by omega),if_pos (by omega),if_pos (by omega),Yj l i ha]
    unfold call_hall_1.f
    simp only[Option.bind_some]
    rw[List.drop_eq_getElem_cons ha]
    by_cases h1:Xp (X7 D) (X6 D) l[i].f0 l[i].f1 l[i].f2=true
    · rw[if_pos h1]
      by_cases Y:i=0
      · subst Y
        rw[if_neg (by omega),if_pos rfl,jf]
        simp only[Zw,h1,Bool.true_and]
      · have ep:wrap64 ((i:Int)-1)=((i-1:Nat):Int):=by unfold wrap64;omega
        rw[if_pos (by omega),ep,if_pos (by omega),if_pos (by omega),Yj l (i-1) (by omega),if_neg Y,List.getElem?_eq_getElem (by omega)]
        unfold call_halls_1.f
        simp only[Option.bind_some]
        simp only[Zw,h1,Bool.true_and]
        unfold ltH
        by_cases hc:Z9 (l[i-1]'(by omega)).f0 (l[i-1]'(by omega)).f1 l[i].f0 l[i].f1<0
        · rw[decide_eq_false (by omega),decide_eq_true hc,jf,Bool.true_and]
          rfl
        · rw[decide_eq_true (by omega),decide_eq_false hc,jt,Bool.false_and]
    · have h1':Xp (X7 D) (X6 D) l[i].f0 l[i].f1 l[i].f2=false:=by simpa using h1
      rw[if_neg h1,jt]
      by_cases Y:i=0
      · rw[if_pos Y]
        simp only[Zw,h1',Bool.false_and]
      · rw[if_neg Y,List.getElem?_eq_getElem (by omega)]
        simp only[Zw,h1',Bool.false_and]
theorem Wq (l:List S56) (D tok_:Int) (hm:l.length≤1000000000) (k:Nat) (hk:2 * l.length<k):api_Hall_right.f k l tok_ D=some (Zw (fun x=>Xp (X7 D) (X6 D) x.f0 x.f1 x.f2) ltH none l):=by
  unfold api_Hall_right.f
  have:=V9 l D tok_ hm l.length k 0 (by omega) hk
  simpa using this
theorem V8 (may:S56→Bool) (l:List S56):∀ p,Zw may ltH (some p) l=true↔((∀ x ∈ l,may x=true)∧(p :: l).Pairwise (fun x y=>ltH x y=true)):=by
  induction l with
  |nil=>intro p;simp[Zw]
  |cons x l ih=>
    intro p
    simp only[Zw,Bool.and_eq_true]
    rw[ih x]
    simp only[List.pairwise_cons,List.mem_cons,forall_eq_or_imp]
    constructor
    · rintro⟨⟨h1,O⟩,D,I,U⟩
      exact⟨⟨h1,D⟩,⟨O,fun y hy=>Wy O (I y hy)⟩,I,U⟩
    · rintro⟨⟨h1,D⟩,⟨O,_⟩,I,U⟩
      exact⟨⟨h1,O⟩,D,I,U⟩
theorem Y7 (may:S56→Bool) (l:List S56):Zw may ltH none l=true↔((∀ x ∈ l,may x=true)∧l.Pairwise (fun x y=>ltH x y=true)):=by
  cases l with
  |nil=>simp[Zw]
  |cons x l=>
    simp only[Zw,Bool.and_eq_true]
    rw[V8]
    simp only[List.mem_cons,forall_eq_or_imp]
    constructor
    · rintro⟨h1,O,D⟩
      exact⟨⟨h1,O⟩,D⟩
    · rintro⟨⟨h1,O⟩,D⟩
      exact⟨h1,O,D⟩
abbrev qI (D:Int) (x:S62):Bool:=Z9 (X7 D) (X6 D) x.f0 x.f1==0
def ltI (x y:S62):Bool:=decide (Z9 x.f0 x.f1 y.f0 y.f1<0)
theorem J5 (x y:S62):ltI x y=true↔(x.f0<y.f0∨(x.f0=y.f0∧x.f1<y.f1)):=by
  unfold ltI
  rw[decide_eq_true_iff,X3]
theorem Wx {x y z:S62} (h1:ltI x y=true) (O:ltI y z=true):ltI x z=true:=by
  rw[J5] at *
  omega
theorem Yq (l:List S62) (i:Nat) (h:i<l.length):Qq l (i:Int)=l[i]:=by
  unfold Qq
  rw[Int.toNat_natCast,List.getD_eq_getElem?_getD,List.getElem?_eq_getElem h]
  rfl
theorem W3 (l:List S62) (D:Int) (hm:l.length≤1000000000) (j:Nat):∀ (f i:Nat),i+j=l.length→j<f→api_Inside_72.l0 f l D (l.length:Int) (i:Int)=some (Va (qI D) i (l.drop i)):=by
  induction j with
  |zero=>
    intro f i hi hf
    obtain⟨f,rfl⟩:∃ m,f=m+1:=⟨f-1,by omega⟩
    simp only[api_Inside_72.l0]
    rw[if_neg (by omega),List.drop_of_length_le (by omega)]
    rfl
  |succ j ih=>
    intro f i hi hf
    obtain⟨f,rfl⟩:∃ m,f=m+1:=⟨f-1,by omega⟩
    have ha:i<l.length:=by omega
    have ei:wrap64 ((i:Int)+1)=((i+1:Nat):Int):=by unfold wrap64;omega
    simp only[api_Inside_72.l0]
    rw[if_pos (by omega),if_pos (by omega),if_pos (by omega),Yq l i ha,ei,ih f (i+1) (by omega) (by omega)]
    unfold api_Inside_without_1.f
    simp only[Option.bind_some]
    rw[List.drop_eq_getElem_cons ha]
    simp only[Va]
    by_cases h:qI D l[i]=true
    · rw[if_pos h,if_pos h]
    · rw[if_neg h,if_neg h]
theorem My (l:List S62) (D:Int) (hm:l.length≤1000000000) (k:Nat) (hk:l.length<k):api_Inside_72.f k l D=some (Va (qI D) 0 l):=by
  unfold api_Inside_72.f
  have:=W3 l D hm l.length k 0 (by omega) hk
  simpa using this
theorem W6 (l:List S62) (D:Int) (hm:l.length≤1000000000) (j:Nat):∀ (f:Nat) (x:List S62) (i m:Nat),x.length=l.length→m+j=l.length→i≤m→j<f→x.drop m=l.drop m→x.take i=(l.take m).filter (fun y=> !qI D y) →
    api_Inside_64.l0 f x D (i:Int) (m:Int)=some (l.filter (fun y=> !qI D y)):=by
  induction j with
  |zero=>
    intro f x i m hx hj him hf hd ht
    obtain⟨f,rfl⟩:∃ m,f=m+1:=⟨f-1,by omega⟩
    simp only[api_Inside_64.l0]
    rw[if_neg (by omega),if_pos (by omega),if_pos (by omega),Int.toNat_natCast,ht,List.take_of_length_le (by omega)]
  |succ j ih=>
    intro f x i m hx hj him hf hd ht
    obtain⟨f,rfl⟩:∃ m,f=m+1:=⟨f-1,by omega⟩
    have ha:m<l.length:=by omega
    have hax:m<x.length:=by omega
    have em:wrap64 ((m:Int)+1)=((m+1:Nat):Int):=by unfold wrap64;omega
    have ei:wrap64 ((i:Int)+1)=((i+1:Nat):Int):=by unfold wrap64;omega
    have hxm:x[m]=l[m]:=by
      have h1:=List.drop_eq_getElem_cons hax
      have O:=List.drop_eq_getElem_cons ha
      rw[hd,O] at h1
      exact(List.cons.inj h1).1.symm
    have B:x.drop (m+1)=l.drop (m+1):=by
      have h1:=List.drop_eq_getElem_cons hax
      have O:=List.drop_eq_getElem_cons ha
      rw[hd,O] at h1
      exact(List.cons.inj h1).2.symm
    have I:(l.take (m+1)).filter (fun y=> !qI D y)=(l.take m).filter (fun y=> !qI D y) ++ [l[m]].filter (fun y=> !qI D y):=by
      rw[List.take_succ_eq_append_getElem ha,List.filter_append]
    simp only[api_Inside_64.l0]
    rw[if_pos (by omega),if_pos (by omega),Yq x m hax,hxm,em,ei]
    unfold api_Inside_without_1.f
    simp only[Option.bind_some]
    by_cases h:qI D l[m]=true
    · rw[if_pos h]
      refine ih f x i (m+1) hx (by omega) (by omega) (by omega) B ?_
      rw[I,ht]
      simp only[List.filter_cons,List.filter_nil]
      rw[if_neg (by rw[h];decide),List.append_nil]
    · have hf':qI D l[m]=false:=by simpa using h
      rw[if_neg h,if_pos (by omega),if_pos (by omega),Int.toNat_natCast]
      refine ih f (x.set i _) (i+1) (m+1) (by rw[List.length_set];exact hx) (by omega) (by omega) (by omega) ?_ ?_
      · rw[List.drop_set_of_lt (by omega)]
        exact B
      · rw[I]
        simp only[List.filter_cons,List.filter_nil]
        rw[if_pos (by rw[hf'];rfl),List.take_succ_eq_append_getElem (by rw[List.length_set];omega),List.getElem_set_self,List.take_set_of_le (by omega),ht]
theorem M2 (l:List S62) (D:Int) (hm:l.length≤1000000000) (k:Nat) (hk:l.length+5<k):api_Inside_64.f k l D=some (l.filter (fun y=> !qI D y)):=by
  unfold api_Inside_64.f
  rw[My l D hm k (by omega)]
  simp only[Option.bind_some]
  rcases Vg (qI D) l 0 with⟨e,ha⟩|⟨i,hi,e,ht,ha⟩
  · rw[e,if_pos rfl]
    congr 1
    exact(List.filter_eq_self.2 (fun y hy=>by rw[ha y hy];rfl)).symm
  · rw[e,Nat.zero_add,if_neg (by omega)]
    have ei:wrap64 ((i:Int)+1)=((i+1:Nat):Int):=by unfold wrap64;omega
    rw[ei]
    refine W6 l D hm (l.length - (i+1)) k l i (i+1) rfl (by omega) (by omega) (by omega) rfl ?_
    rw[List.take_succ_eq_append_getElem hi,List.filter_append]
    simp only[List.filter_cons,List.filter_nil]
    rw[if_neg (by rw[ht];decide),List.append_nil]
    exact(List.filter_eq_self.2 (fun y hy=>by rw[ha y hy];rfl)).symm
def U6 (l:List S62) (J L:Int) (p:Nat):Prop:=p≤l.length∧(∀ y ∈ l.take p,Z9 y.f0 y.f1 J L<0)∧(∀ y ∈ l.drop p,¬ Z9 y.f0 y.f1 J L<0)
def U2 (l:List S62) (J L:Int) (p:Nat):Bool:=match l[p]? with|some y=>Z9 y.f0 y.f1 J L==0|none=>false
theorem Vm (l:List S62) (J L:Int) (hm:l.length≤1000000000) (hs:l.Pairwise (fun x y=>ltI x y=true)) (d:Nat):∀ (f i j:Nat),j-i≤d→i≤j→j≤l.length→d<f→(∀ y ∈ l.take i,Z9 y.f0 y.f1 J L<0)→(∀ y ∈ l.drop j,¬ Z9 y.f0 y.f1 J L<0) →
    ∃ p,U6 l J L p∧api_Inside_58.l0 f l (l.length:Int) (i:Int) (j:Int) J L=some ((p:Int),U2 l J L p):=by
  have stop:∀ (f i:Nat),0<f→i≤l.length→(∀ y ∈ l.take i,Z9 y.f0 y.f1 J L<0)→(∀ y ∈ l.drop i,¬ Z9 y.f0 y.f1 J L<0) → ∃ p,U6 l J L p∧api_Inside_58.l0 f l (l.length:Int) (i:Int) (i:Int) J L=some ((p:Int),U2 l J L p):=by
    intro f i hf hi h1 O
    obtain⟨f,rfl⟩:∃ m,f=m+1:=⟨f-1,by omega⟩
    refine⟨i,⟨hi,h1,O⟩, ?_⟩
    simp only[api_Inside_58.l0]
    unfold U2
    rw[if_neg (by omega)]
    by_cases h:i<l.length
    · rw[if_pos (by omega),if_pos (by omega),if_pos (by omega),Yq l i h,List.getElem?_eq_getElem h]
      rfl
    · rw[if_neg (by omega),List.getElem?_eq_none (by omega)]
  induction d with
  |zero=>
    intro f i j hd hij hj hf h1 O
    obtain rfl:i=j:=by omega
    exact stop f i hf hj h1 O
  |succ d ih=>
    intro f i j hd hij hj hf h1 O
    by_cases he:i=j
    · subst he
      exact stop f i (by omega) hj h1 O
    · obtain⟨f,rfl⟩:∃ m,f=m+1:=⟨f-1,by omega⟩
      have hmid:wrap64 ((IntKind.u64.wrap (wrap64 ((i:Int)+(j:Int)))) / 2)=(((i+j) / 2:Nat):Int):=by
        rw[show wrap64 ((i:Int)+(j:Int))=(i:Int)+(j:Int) from by unfold wrap64;omega,IntKind.wrap_u64]
        unfold wrap64;omega
      have e1:wrap64 ((((i+j) / 2:Nat):Int)+1)=(((i+j) / 2+1:Nat):Int):=by unfold wrap64;omega
      simp only[api_Inside_58.l0]
      rw[if_pos (by omega),hmid]
      have hh:(i+j) / 2<l.length:=by omega
      generalize hg:(i+j) / 2=h at *
      rw[if_pos (by omega),if_pos (by omega),Yq l h hh,e1]
      unfold call_ins_1.f
      simp only[Option.bind_some]
      have hlt:∀ m:Nat,(hm:m<h)→Z9 (l[m]'(by omega)).f0 (l[m]'(by omega)).f1 l[h].f0 l[h].f1<0:=by
        intro m hm
        have:=List.pairwise_iff_getElem.1 hs m h (by omega) hh hm
        exact of_decide_eq_true this
      have hgt:∀ m:Nat,h<m→(hm:m<l.length)→Z9 l[h].f0 l[h].f1 l[m].f0 l[m].f1<0:=by
        intro m hm hml
        have:=List.pairwise_iff_getElem.1 hs h m hh hml hm
        exact of_decide_eq_true this
      by_cases hc:Z9 l[h].f0 l[h].f1 J L<0
      · rw[if_pos hc]
        refine ih f (h+1) j (by omega) (by omega) hj (by omega) ?_ O
        intro y hy
        obtain⟨m,hm,rfl⟩:=List.mem_iff_getElem.1 hy
        rw[List.length_take] at hm
        rw[List.getElem_take]
        by_cases hmh:m=h
        · subst hmh;exact hc
        · have D:=hlt m (by omega)
          rw[X3] at *
          omega
      · rw[if_neg hc]
        refine ih f i h (by omega) (by omega) (by omega) (by omega) h1 ?_
        intro y hy
        obtain⟨m,hm,rfl⟩:=List.mem_iff_getElem.1 hy
        rw[List.length_drop] at hm
        rw[List.getElem_drop]
        by_cases hmh:m=0
        · subst hmh;simpa using hc
        · have D:=hgt (h+m) (by omega) (by omega)
          rw[X3] at *
          omega
theorem Un (l:List S62) (J L:Int) (a2:Int) (hm:l.length≤1000000000) (hs:l.Pairwise (fun x y=>ltI x y=true)) (k:Nat) (hk:l.length<k):
    ∃ p,U6 l J L p∧api_Inside_58.f k l J L a2=some ((p:Int),U2 l J L p):=by
  unfold api_Inside_58.f
  have:=Vm l J L hm hs l.length k 0 l.length (by omega) (by omega) (by omega) hk (by simp) (by simp)
  simpa using this
theorem V7 (l:List S62) (D tok_:Int) (hm:l.length≤1000000000) (j:Nat):∀ (f i:Nat),i+j=l.length→2 * j<f→api_Inside_right.l0 f D l (l.length:Int) (i:Int) l tok_=some (Zw (fun x=>Y0 (X7 D) (X6 D) x.f0 x.f1) ltI (if i=0 then none else l[i-1]?) (l.drop i)):=by
  induction j with
  |zero=>
    intro f i hi hf
    obtain⟨f,rfl⟩:∃ m,f=m+1:=⟨f-1,by omega⟩
    simp only[api_Inside_right.l0]
    rw[if_neg (by omega),List.drop_of_length_le (by omega)]
    cases(if i=0 then none else l[i-1]?) <;> rfl
  |succ j ih=>
    intro f i hi hf
    obtain⟨f,rfl⟩:∃ m,f=m+2:=⟨f-2,by omega⟩
    have ha:i<l.length:=by omega
    have ei:wrap64 ((i:Int)+1)=((i+1:Nat):Int):=by unfold wrap64;omega
    have jt:api_Inside_right.j1 (f+1) D l (l.length:Int) (i:Int) true l tok_=some false:=by simp[api_Inside_right.j1]
    have jf:api_Inside_right.j1 (f+1) D l (l.length:Int) (i:Int) false l tok_=some (Zw (fun x=>Y0 (X7 D) (X6 D) x.f0 x.f1) ltI (some l[i]) (l.drop (i+1))):=by
      simp only[api_Inside_right.j1]
      rw[if_neg (by decide),ei,ih f (i+1) (by omega) (by omega),if_neg (by omega),Nat.add_sub_cancel,List.getElem?_eq_getElem ha]
    simp only[api_Inside_right.l0]
    rw[if_pos (by omega),if_pos (by omega),if_pos (by omega),Yq l i ha]
    unfold call_inside_1.f
    simp only[Option.bind_some]
    rw[List.drop_eq_getElem_cons ha]
    by_cases h1:Y0 (X7 D) (X6 D) l[i].f0 l[i].f1=true
    · rw[if_pos h1]
      by_cases Y:i=0
      · subst Y
        rw[if_neg (by omega),if_pos rfl,jf]
        simp only[Zw,h1,Bool.true_and]
      · have ep:wrap64 ((i:Int)-1)=((i-1:Nat):Int):=by unfold wrap64;omega
        rw[if_pos (by omega),ep,if_pos (by omega),if_pos (by omega),Yq l (i-1) (by omega),if_neg Y,List.getElem?_eq_getElem (by omega)]
        unfold call_ins_1.f
        simp only[Option.bind_some]
        simp only[Zw,h1,Bool.true_and]
        unfold ltI
        by_cases hc:Z9 (l[i-1]'(by omega)).f0 (l[i-1]'(by omega)).f1 l[i].f0 l[i].f1<0
        · rw[decide_eq_false (by omega),decide_eq_true hc,jf,Bool.true_and]
          rfl
        · rw[decide_eq_true (by omega),decide_eq_false hc,jt,Bool.false_and]
    · have h1':Y0 (X7 D) (X6 D) l[i].f0 l[i].f1=false:=by simpa using h1
      rw[if_neg h1,jt]
      by_cases Y:i=0
      · rw[if_pos Y]
        simp only[Zw,h1',Bool.false_and]
      · rw[if_neg Y,List.getElem?_eq_getElem (by omega)]
        simp only[Zw,h1',Bool.false_and]
theorem Wp (l:List S62) (D tok_:Int) (hm:l.length≤1000000000) (k:Nat) (hk:2 * l.length<k):api_Inside_right.f k l tok_ D=some (Zw (fun x=>Y0 (X7 D) (X6 D) x.f0 x.f1) ltI none l):=by
  unfold api_Inside_right.f
  have:=V7 l D tok_ hm l.length k 0 (by omega) hk
  simpa using this
theorem V6 (may:S62→Bool) (l:List S62):∀ p,Zw may ltI (some p) l=true↔((∀ x ∈ l,may x=true)∧(p :: l).Pairwise (fun x y=>ltI x y=true)):=by
  induction l with
  |nil=>intro p;simp[Zw]
  |cons x l ih=>
    intro p
    simp only[Zw,Bool.and_eq_true]
    rw[ih x]
    simp only[List.pairwise_cons,List.mem_cons,forall_eq_or_imp]
    constructor
    · rintro⟨⟨h1,O⟩,D,I,U⟩
      exact⟨⟨h1,D⟩,⟨O,fun y hy=>Wx O (I y hy)⟩,I,U⟩
    · rintro⟨⟨h1,D⟩,⟨O,_⟩,I,U⟩
      exact⟨⟨h1,O⟩,D,I,U⟩
theorem K5 (may:S62→Bool) (l:List S62):Zw may ltI none l=true↔((∀ x ∈ l,may x=true)∧l.Pairwise (fun x y=>ltI x y=true)):=by
  cases l with
  |nil=>simp[Zw]
  |cons x l=>
    simp only[Zw,Bool.and_eq_true]
    rw[V6]
    simp only[List.mem_cons,forall_eq_or_imp]
    constructor
    · rintro⟨h1,O,D⟩
      exact⟨⟨h1,O⟩,D⟩
    · rintro⟨⟨h1,O⟩,D⟩
      exact⟨h1,O,D⟩
end Go.Proofs.Ytjehhhlhalkieaa.Call
namespace Go.Proofs.Ytjehhhlhalkieaa.C
open Go.RowKit Go.Proofs.YtjehhhlhalkieaaW.PrintWords Go.Proofs.YtjehhhlhalkieaaW.PrintLast Go.Proofs.YtjehhhlhalkieaaW.PrintMore
attribute [local go_sem] Zk Zi Zt Zs Zd Zc Zj Zh
set_option linter.unusedVariables false
set_option linter.unusedSimpArgs false
def newellaw19_Own.f (I:List (S56)) (J:List (S62)):Option ((List (S56))×(List (S62))):=(some (([]:List (S56)):List (S56))).bind fun ξ =>(if ξ.length+I.length<5864062014805 then ((some (([]:List (S62)):List (S62))).bind fun U=>(if U.length+J.length<8796093022208 then (some ((ξ ++ I),(U++J))) else (none))) else (none))
def newellaw19_Own.T1:Bool×List (List Nat×List Nat):=(true,[([],[]),([],[]),([1],[1]),([0,2],[0,2]),([],[]),([],[]),([5],[5]),([4,6,3],[4,6]),([3,7],[3,7]),([8,7,0,1,2,3,4,5,6,7,8],[8])])
def newellaw19_Own.B1:List Nat:=[0,0,2,7,0,0,32,127,255,511]
theorem newellaw19_Own.Gh:rtab .any (opsOf Try.f12 1)=newellaw19_Own.T1:=by kernel_rfl
theorem newellaw19_Own.Jt:Zx newellaw19_Own.T1.2 newellaw19_Own.B1=true:=by kernel_rfl
set_option maxHeartbeats 8000000 in
set_option maxRecDepth 100000 in
theorem newellaw19_Own.calls (η :Option Addr) (ζ :Nat) (I:List (S56)) (δ :Option Addr) (μ :Nat) (J:List (S62)) (r1:List (S56)) (r2:List (S62)) (w:World) (a2:Kd.C k56 w η I.length I) (a5:I.length ≤ ζ) (χ :Kd.C k62 w δ J.length J) (a1:J.length ≤ μ) (h:newellaw19_Own.f I J=some (r1,r2)):
  Calls Try.prog 12 #[.agg #[.slice η I.length ζ,.slice δ J.length μ]] w fun e w'=>∃ a6 b9:Value,e = .returned (.agg #[a6,b9])∧Kd.R k56 56 w' w.heap.size (fun _=>True) a6 r1∧Kd.R k62 62 w' w.heap.size (fun _=>True) b9 r2∧Below w.heap.size w w':=by
 have db:=Try.underlying27
 have ψ :=Aside0.mk a2
 have af:=Aside0.mk a5
 clear a2 a5
 have bl:=Aside0.mk χ
 have cm:=Aside0.mk a1
 clear χ a1
 have HB:=Aside0.mk (Below.refl w.heap.size w)
 have H:((some (([]:List (S56)):List (S56))).bind fun ξ =>(if ξ.length+I.length<5864062014805 then ((some (([]:List (S62)):List (S62))).bind fun U=>(if U.length+J.length<8796093022208 then (some ((ξ ++ I),(U++J))) else (none))) else (none)))=some (r1,r2):=h
 clear h
 obtain⟨ξ,aa⟩:∃ y_:List (S56),y_=(([]:List (S56))):=⟨_,rfl⟩
 replace H:(if ξ.length+I.length<5864062014805 then ((some (([]:List (S62)):List (S62))).bind fun U=>(if U.length+J.length<8796093022208 then (some ((ξ ++ I),(U++J))) else (none))) else (none))=some (r1,r2):=by first|(rw[aa];with_reducible exact H)|(have ρ:=(Option.bind_some _ _).symm.trans H;rw[aa];with_reducible exact ρ)|(have ρ:=(Option.bind_some _ _).symm.trans H;with_reducible exact ρ)|with_reducible exact H|(rw[aa];exact H)|exact H
 have ak:=Aside0.mk aa
 clear aa
 by_cases c2: ξ.length+I.length<5864062014805
 ·rw[if_pos c2] at H
  have ar:=Aside0.mk c2
  clear c2
  obtain⟨a8,ag⟩:∃ y_:List (S56),y_=(ξ ++ I):=⟨_,rfl⟩
  replace H:((some (([]:List (S62)):List (S62))).bind fun U=>(if U.length+J.length<8796093022208 then (some (a8,(U++J))) else (none)))=some (r1,r2):=by first|(rw[ag];with_reducible exact H)|(have ρ:=(Option.bind_some _ _).symm.trans H;rw[ag];with_reducible exact ρ)|(have ρ:=(Option.bind_some _ _).symm.trans H;with_reducible exact ρ)|with_reducible exact H|(rw[ag];exact H)|exact H
  have an:=Aside0.mk ag
  clear ag
  obtain⟨U,ah⟩:∃ y_:List (S62),y_=(([]:List (S62))):=⟨_,rfl⟩
  replace H:(if U.length+J.length<8796093022208 then (some (a8,(U++J))) else (none))=some (r1,r2):=by first|(rw[ah];with_reducible exact H)|(have ρ:=(Option.bind_some _ _).symm.trans H;rw[ah];with_reducible exact ρ)|(have ρ:=(Option.bind_some _ _).symm.trans H;with_reducible exact ρ)|with_reducible exact H|(rw[ah];exact H)|exact H
  have a7:=Aside0.mk ah
  clear ah
  by_cases c3:U.length+J.length<8796093022208
  ·rw[if_pos c3] at H
   have b1:=Aside0.mk c3
   clear c3
   obtain⟨aw,ai⟩:∃ y_:List (S62),y_=(U++J):=⟨_,rfl⟩
   replace H:(some (a8,aw))=some (r1,r2):=by first|(rw[ai];with_reducible exact H)|(have ρ:=(Option.bind_some _ _).symm.trans H;rw[ai];with_reducible exact ρ)|(have ρ:=(Option.bind_some _ _).symm.trans H;with_reducible exact ρ)|with_reducible exact H|(rw[ai];exact H)|exact H
   have az:=Aside0.mk ai
   clear ai
   simp only[Option.some.injEq,Prod.mk.injEq] at H
   obtain⟨rfl,rfl⟩:=H
   go_enter Try.func12,Try.ntmps12
   try go_wp2_with (first|((with_reducible refine Qt (N:=1) rfl ?_);refine Qp ?hg (N:=1) ?hd (cs:=#[.slice η I.length ζ,.slice δ J.length μ]) (t:=27) ?hr ?_;(case hd=>rfl);(case hg=>rfl);(case hr=>go_simp <;> rfl);intro Y hg w4 hbox hb;have B:=Aside0.mk hbox;have b7:=sGe hg;have b8:=sGe hg;replace HB:=sHb hb;clear hb hbox hg)|((with_reducible refine Qt (N:=2) rfl ?_);refine Qp ?hg (N:=2) ?hd (cs:=#[.slice none 0 0,.slice none 0 0]) (t:=27) ?hr ?_;(case hd=>rfl);(case hg=>rfl);(case hr=>go_simp <;> rfl);intro X hg w5 hbox hb;have D:=Aside0.mk hbox;have ba:=sGe hg;have bb:=sGe hg;have ν :=sNl B hg;have aj:=sNg B hg;replace B:=sBk B hb;replace HB:=sHb hb;clear hb hbox hg))
   replace B:=Aside0.mk (Qc B.out)
   replace D:=Aside0.mk (Qc D.out)
   replace HB:=Aside0.mk (Qh HB.out)
   refine Zv (n:=10) (S:=fun w'=>w'.cell? ⟨Y,0,none⟩=some (.slice η I.length ζ)∧w'.cell? ⟨Y,1,none⟩=some (.slice δ J.length μ)) (ds:=[]) #[false,false,false,false,false,false,false,false,false,false] kr rfl rfl ⟨(Qa B.out 0).trans rfl,(Qa B.out 1).trans rfl⟩ (fun hHeld=>?_);refine Q8 newellaw19_Own.Gh newellaw19_Own.Jt (fun HT_ HW_=>?_)
   generalize w5.drew=w6 at B D HB hHeld ⊢
   refine qP 1 (some 4) (bN 10 2) HT_ ?_
   refine qP 5 (some 8) (bN 10 34) HT_ ?_
   refine qT 2 (some 5) (bN 10 38) HT_ HW_ hHeld ?_
   refine qT 6 (some 9) (bN 10 102) HT_ HW_ hHeld ?_
   refine K9 (σ:=Value×Value×Value) 3 (bN 10 127) (fun s_=>[(3,s_.1),(6,s_.2.1),(7,s_.2.2)]) (fun s_ w'=>(w'.cell? ⟨Y,0,none⟩=some (.slice η I.length ζ)∧w'.cell? ⟨Y,1,none⟩=some (.slice δ J.length μ))∧(Kd.R k56 56 w' w.heap.size (fun _=>True) s_.2.1 a8)∧(Kd.R k62 62 w' w.heap.size (fun _=>True) s_.2.2 U)∧(w'.heap[Y]?=some (.cells #[.slice η I.length ζ,.slice δ J.length μ] 27 (0,0)))∧(w'.heap[X]?=some (.cells #[.slice none 0 0,.slice none 0 0] 27 (0,0)))∧(Below w.heap.size w w')) ?_ ?_
   rotate_left
   ·intro hCont
    refine Kj (i:=0) (j:=4) (Ni:=some 3) (Nj:=some 7) (bN 10 103) (bN 10 118) rfl rfl rfl rfl (Ye HT_.out kr) (by decide) (by decide) (fun K hK=>?_) (fun K hK=>?_)
    ·skip
     refine Kd.Xl k56 _ 56 ?hg (N:=3) ?hd (xs:=([]:List (S56))) (inner:=[]) (ok:=fun _=>True) (okp:=fun _=>True) ?hr ?hp (fun _ hk=>hk) trivial (Below.refl _ _) (Nat.le_refl _) (by simp) ?_;(case hd=>rfl);(case hg=>rfl);(case hr=>go_simp <;> rfl);(case hp=>exact(Reps.none _ _))
     intro φ w7 a3 hb hg_ hnew_
     clear hg_ hnew_
     (first|rw[← ak.out] at a3|(simp only[Int.reduceToNat] at a3;rw[← ak.out] at a3))
     have L:=Aside0.mk (Kd.Q4 a3 (Qk HB.out))
     replace B:=sBk B hb
     replace D:=sBk D hb
     replace HB:=sHb hb
     clear hb a3
     refine hK.out _ _ ⟨(Qa B.out 0).trans rfl,(Qa B.out 1).trans rfl⟩ (fun hHeld=>?_)
     clear hK K
     refine qN (some 3) ?_
     refine Kj (i:=3) (j:=4) (Ni:=some 6) (Nj:=some 7) (bN 10 111) (bN 10 119) rfl rfl rfl rfl (Ye HT_.out kr) (by decide) (by decide) (fun K hK=>?_) (fun K hK=>?_)
     ·skip
      refine Kd.Xu k56 (w0:=w) w.heap.size (by rfl) (.tmp 3) (.tmp 5) 24 56 (.agg #[(.int .i64 0),(.int .i64 0),(.int .i64 0)]) 24 rfl Try.underlying24 Yl rfl (by decide) (by omega) φ ξ I _ _ _ (fun _=>True) (fun _=>False) rfl rfl ?aO ?aR (fun _ _ h=>h) (fun _ h=>h.elim) ?aF ?aB ?aS ?aL ?_
      (case aR=>exact(Kd.Qz ψ.out HB.out))
      (case aB=>exact HB.out)
      (case aF=>exact(fun _ _=>trivial))
      (case aO=>exact L.out)
      (case aS=>exact(Qk HB.out))
      (case aL=>have:=ar.out;omega)
      intro a9 w9 ho hb hg hat
      rw[← an.out] at ho
      have Z:=Aside0.mk ho
      replace B:=Aside0.mk (Zb (g:=Y) (o:=.cells #[.slice η I.length ζ,.slice δ J.length μ] 27 (0,0)) B.out hg (Kd.X1 L.out B.out (by decide)))
      replace D:=Aside0.mk (Zb (g:=X) (o:=.cells #[.slice none 0 0,.slice none 0 0] 27 (0,0)) D.out hg (Kd.X1 L.out D.out (by decide)))
      replace HB:=Aside0.mk hb
      clear L
      clear ho hb hg hat
      refine hK.out _ _ ⟨(Qa B.out 0).trans rfl,(Qa B.out 1).trans rfl⟩ (fun hHeld=>?_)
      clear hK K
      refine qN (some 6) ?_
      refine Zm (i:=4) (N:=some 7) (bN 10 127) rfl rfl (Q3 HT_.out kr) (by decide) (fun K hK=>?_)
      refine Kd.Xl k62 _ 62 ?hg (N:=7) ?hd (xs:=([]:List (S62))) (inner:=[]) (ok:=fun _=>True) (okp:=fun _=>True) ?hr ?hp (fun _ hk=>hk) trivial (Below.refl _ _) (Nat.le_refl _) (by simp) ?_;(case hd=>rfl);(case hg=>rfl);(case hr=>go_simp <;> rfl);(case hp=>exact(Reps.none _ _))
      intro a4 ci al hb hg_ hnew_
      clear hg_ hnew_
      (first|rw[← a7.out] at al|(simp only[Int.reduceToNat] at al;rw[← a7.out] at al))
      have O:=Aside0.mk (Kd.Q4 al (Qk HB.out))
      replace Z:=sRb Z hb
      replace B:=sBk B hb
      replace D:=sBk D hb
      replace HB:=sHb hb
      clear hb al
      refine hK.out _ _ ⟨(Qa B.out 0).trans rfl,(Qa B.out 1).trans rfl⟩ (fun hHeld=>?_)
      clear hK K
      refine qN (some 7) ?_
      exact Xj (by simp only[Z3,Act.put,qS]) (hCont (φ,a9,a4) _ ⟨hHeld,Z.out,O.out,B.out,D.out,HB.out⟩)
     ·skip
      refine Kd.Xl k62 _ 62 ?hg (N:=7) ?hd (xs:=([]:List (S62))) (inner:=[]) (ok:=fun _=>True) (okp:=fun _=>True) ?hr ?hp (fun _ hk=>hk) trivial (Below.refl _ _) (Nat.le_refl _) (by simp) ?_;(case hd=>rfl);(case hg=>rfl);(case hr=>go_simp <;> rfl);(case hp=>exact(Reps.none _ _))
      intro a4 w9 γ hb hg_ hnew_
      clear hg_ hnew_
      (first|rw[← a7.out] at γ|(simp only[Int.reduceToNat] at γ;rw[← a7.out] at γ))
      have O:=Aside0.mk (Kd.Q4 γ (Qk HB.out))
      replace L:=sRb L hb
      replace B:=sBk B hb
      replace D:=sBk D hb
      replace HB:=sHb hb
      clear hb γ
      refine hK.out _ _ ⟨(Qa B.out 0).trans rfl,(Qa B.out 1).trans rfl⟩ (fun hHeld=>?_)
      clear hK K
      refine qN (some 7) ?_
      refine Zm (i:=3) (N:=some 6) (bN 10 127) rfl rfl (Q3 HT_.out kr) (by decide) (fun K hK=>?_)
      refine Kd.Xu k56 (w0:=w) w.heap.size (by rfl) (.tmp 3) (.tmp 5) 24 56 (.agg #[(.int .i64 0),(.int .i64 0),(.int .i64 0)]) 24 rfl Try.underlying24 Yl rfl (by decide) (by omega) φ ξ I _ _ _ (fun _=>True) (fun _=>False) rfl rfl ?aO ?aR (fun _ _ h=>h) (fun _ h=>h.elim) ?aF ?aB ?aS ?aL ?_
      (case aR=>exact(Kd.Qz ψ.out HB.out))
      (case aB=>exact HB.out)
      (case aF=>exact(fun _ _=>trivial))
      (case aO=>exact L.out)
      (case aS=>exact(Qk HB.out))
      (case aL=>have:=ar.out;omega)
      intro a9 bw ho hb hg hat
      rw[← an.out] at ho
      have Z:=Aside0.mk ho
      replace B:=Aside0.mk (Zb (g:=Y) (o:=.cells #[.slice η I.length ζ,.slice δ J.length μ] 27 (0,0)) B.out hg (Kd.X1 L.out B.out (by decide)))
      replace D:=Aside0.mk (Zb (g:=X) (o:=.cells #[.slice none 0 0,.slice none 0 0] 27 (0,0)) D.out hg (Kd.X1 L.out D.out (by decide)))
      replace O:=Aside0.mk (Kd.V2 O.out (Kd.V0 L.out) (by decide) hg)
      replace HB:=Aside0.mk hb
      clear L
      clear ho hb hg hat
      refine hK.out _ _ ⟨(Qa B.out 0).trans rfl,(Qa B.out 1).trans rfl⟩ (fun hHeld=>?_)
      clear hK K
      refine qN (some 6) ?_
      exact Xj (by simp only[Z3,Act.put,qS]) (hCont (φ,a9,a4) _ ⟨hHeld,Z.out,O.out,B.out,D.out,HB.out⟩)
    ·skip
     refine Kd.Xl k62 _ 62 ?hg (N:=7) ?hd (xs:=([]:List (S62))) (inner:=[]) (ok:=fun _=>True) (okp:=fun _=>True) ?hr ?hp (fun _ hk=>hk) trivial (Below.refl _ _) (Nat.le_refl _) (by simp) ?_;(case hd=>rfl);(case hg=>rfl);(case hr=>go_simp <;> rfl);(case hp=>exact(Reps.none _ _))
     intro a4 w7 a3 hb hg_ hnew_
     clear hg_ hnew_
     (first|rw[← a7.out] at a3|(simp only[Int.reduceToNat] at a3;rw[← a7.out] at a3))
     have O:=Aside0.mk (Kd.Q4 a3 (Qk HB.out))
     replace B:=sBk B hb
     replace D:=sBk D hb
     replace HB:=sHb hb
     clear hb a3
     refine hK.out _ _ ⟨(Qa B.out 0).trans rfl,(Qa B.out 1).trans rfl⟩ (fun hHeld=>?_)
     clear hK K
     refine qN (some 7) ?_
     refine Zm (i:=0) (N:=some 3) (bN 10 119) rfl rfl (Q3 HT_.out kr) (by decide) (fun K hK=>?_)
     refine Kd.Xl k56 _ 56 ?hg (N:=3) ?hd (xs:=([]:List (S56))) (inner:=[]) (ok:=fun _=>True) (okp:=fun _=>True) ?hr ?hp (fun _ hk=>hk) trivial (Below.refl _ _) (Nat.le_refl _) (by simp) ?_;(case hd=>rfl);(case hg=>rfl);(case hr=>go_simp <;> rfl);(case hp=>exact(Reps.none _ _))
     intro φ w9 γ hb hg_ hnew_
     clear hg_ hnew_
     (first|rw[← ak.out] at γ|(simp only[Int.reduceToNat] at γ;rw[← ak.out] at γ))
     have L:=Aside0.mk (Kd.Q4 γ (Qk HB.out))
     replace O:=sRb O hb
     replace B:=sBk B hb
     replace D:=sBk D hb
     replace HB:=sHb hb
     clear hb γ
     refine hK.out _ _ ⟨(Qa B.out 0).trans rfl,(Qa B.out 1).trans rfl⟩ (fun hHeld=>?_)
     clear hK K
     refine qN (some 3) ?_
     refine Zm (i:=3) (N:=some 6) (bN 10 127) rfl rfl (Q3 HT_.out kr) (by decide) (fun K hK=>?_)
     refine Kd.Xu k56 (w0:=w) w.heap.size (by rfl) (.tmp 3) (.tmp 5) 24 56 (.agg #[(.int .i64 0),(.int .i64 0),(.int .i64 0)]) 24 rfl Try.underlying24 Yl rfl (by decide) (by omega) φ ξ I _ _ _ (fun _=>True) (fun _=>False) rfl rfl ?aO ?aR (fun _ _ h=>h) (fun _ h=>h.elim) ?aF ?aB ?aS ?aL ?_
     (case aR=>exact(Kd.Qz ψ.out HB.out))
     (case aB=>exact HB.out)
     (case aF=>exact(fun _ _=>trivial))
     (case aO=>exact L.out)
     (case aS=>exact(Qk HB.out))
     (case aL=>have:=ar.out;omega)
     intro a9 bw ho hb hg hat
     rw[← an.out] at ho
     have Z:=Aside0.mk ho
     replace B:=Aside0.mk (Zb (g:=Y) (o:=.cells #[.slice η I.length ζ,.slice δ J.length μ] 27 (0,0)) B.out hg (Kd.X1 L.out B.out (by decide)))
     replace D:=Aside0.mk (Zb (g:=X) (o:=.cells #[.slice none 0 0,.slice none 0 0] 27 (0,0)) D.out hg (Kd.X1 L.out D.out (by decide)))
     replace O:=Aside0.mk (Kd.V2 O.out (Kd.V0 L.out) (by decide) hg)
     replace HB:=Aside0.mk hb
     clear L
     clear ho hb hg hat
     refine hK.out _ _ ⟨(Qa B.out 0).trans rfl,(Qa B.out 1).trans rfl⟩ (fun hHeld=>?_)
     clear hK K
     refine qN (some 6) ?_
     exact Xj (by simp only[Z3,Act.put,qS]) (hCont (φ,a9,a4) _ ⟨hHeld,Z.out,O.out,B.out,D.out,HB.out⟩)
   rintro⟨φ,a9,a4⟩ cp ⟨hS_,cq,cr,ct,cu,cv⟩
   have ε :Aside0 (Kd.R k56 56 cp w.heap.size (fun _=>True) a9 a8):=⟨cq⟩
   have θ :Aside0 (Kd.R k62 62 cp w.heap.size (fun _=>True) a4 U):=⟨cr⟩
   have ι :Aside0 (cp.heap[Y]?=some (.cells #[.slice η I.length ζ,.slice δ J.length μ] 27 (0,0))):=⟨ct⟩
   have κ :Aside0 (cp.heap[X]?=some (.cells #[.slice none 0 0,.slice none 0 0] 27 (0,0))):=⟨cu⟩
   have τ :Aside0 (Below w.heap.size w cp):=⟨cv⟩
   clear B
   clear D
   clear HB
   clear cq cr ct cu cv
   have Z:= ε
   have O:= θ
   have B:= ι
   have D:= κ
   have HB:= τ
   clear ε θ ι κ τ
   have hHeld:cp.cell? ⟨Y,0,none⟩=some (.slice η I.length ζ)∧cp.cell? ⟨Y,1,none⟩=some (.slice δ J.length μ):=hS_
   refine Xj (a':=?_) ?_ ?_
   rotate_left
   ·simp only[Z3,Act.put,qS]
    rfl
   refine Zm (i:=7) (N:=some 10) (bN 10 255) rfl rfl (Q3 HT_.out kr) (by decide) (fun K hK=>?_)
   refine Kd.Xu k62 (w0:=w) w.heap.size (by rfl) (.tmp 7) (.tmp 9) 25 62 (.agg #[(.int .i64 0),(.int .i64 0)]) 16 rfl Try.underlying25 J0 rfl (by decide) (by omega) a4 U J _ _ _ (fun _=>True) (fun _=>False) rfl rfl ?aO ?aR (fun _ _ h=>h) (fun _ h=>h.elim) ?aF ?aB ?aS ?aL ?_
   (case aR=>exact(Kd.Qz bl.out HB.out))
   (case aB=>exact HB.out)
   (case aF=>exact(fun _ _=>trivial))
   (case aO=>exact O.out)
   (case aS=>exact(Qk HB.out))
   (case aL=>have:=b1.out;omega)
   intro bd ch ho hb hg hat
   rw[← az.out] at ho
   have au:=Aside0.mk ho
   replace B:=Aside0.mk (Zb (g:=Y) (o:=.cells #[.slice η I.length ζ,.slice δ J.length μ] 27 (0,0)) B.out hg (Kd.X1 O.out B.out (by decide)))
   replace D:=Aside0.mk (Zb (g:=X) (o:=.cells #[.slice none 0 0,.slice none 0 0] 27 (0,0)) D.out hg (Kd.X1 O.out D.out (by decide)))
   replace Z:=Aside0.mk (Kd.V2 Z.out (Kd.V0 O.out) (by decide) hg)
   replace HB:=Aside0.mk hb
   clear O
   clear ho hb hg hat
   obtain⟨b2,b3,ay⟩:=Kd.Q6 au.out
   (first|subst ay|(injection ay with ω ab a0;have ac:= ω.symm;have ae:=a0.symm;clear ω ab a0;subst ac;subst ae))
   obtain⟨ao,ap,am⟩:=Kd.Q6 Z.out
   (first|subst am|(injection am with ω ab a0;have ac:= ω.symm;have ae:=a0.symm;clear ω ab a0;subst ac;subst ae))
   refine hK.out _ _ ⟨(Qa B.out 0).trans rfl,(Qa B.out 1).trans rfl⟩ (fun hHeld=>?_)
   clear hK K
   refine qN (some 10) ?_
   refine qP 8 (some 11) (bN 10 511) HT_ ?_
   refine Zm (i:=9) (N:=none) (bN 10 1023) rfl rfl (Q3 HT_.out kr) (by decide) (fun K hK=>?_)
   have b4:ch.cell? ⟨X,0,none⟩=some (.slice none 0 0):=(Qa D.out 0).trans rfl
   have b0:=Qb D.out 0
   have av:= ν.out
   have ax:=aj.out
   have be:ch.cell? ⟨X,1,none⟩=some (.slice none 0 0):=(Qa D.out 1).trans rfl
   have bc:=Qb D.out 1
   have b5:= ν.out
   have b6:=aj.out
   refine Js (w1:=?_) (by rfl) rfl ?_ ?_
   rotate_left
   ·go_simp
    rfl
   refine hK.out _ _ ⟨((cell_far (p:=⟨X,_,none⟩) ν.out _).trans (((cell_far (p:=⟨X,_,none⟩) ν.out _).trans (hHeld.1)))),((cell_far (p:=⟨X,_,none⟩) ν.out _).trans (((cell_far (p:=⟨X,_,none⟩) ν.out _).trans (hHeld.2))))⟩ (fun hHeld=>?_)
   clear hK K
   refine Z0 (Zp HT_.out kr) ?_
   try go_wp2
   refine bodyPost_ret (results_cell_row rfl _ _ X 27 #[.slice ao a8.length ap,.slice b2 aw.length b3] (0,0) _ rfl (by refine Qx (cs:=#[.slice ao a8.length ap,.slice none 0 0]) ?_ 1 _ rfl;refine Qx (cs:=#[.slice none 0 0,.slice none 0 0]) ?_ 0 _ rfl;exact D.out) Try.underlying27 rfl kr) rfl ?_
   exact⟨_,_,by first|rfl|(simp[Q1,Q0] <;> rfl)|(simp[*,Q1,Q0] <;> rfl),by(with_reducible repeat(first|apply Kd.Qm|apply Kd.Ql|apply Kd.Qo));exact Kd.Qs (Kd.Qu (Kd.Qu (Kd.Qy Z.out D.out (by decide)) (fun _ hk=>hk.2) _) (fun _ hk=>hk.2) _) (fun _ hk=>trivial),by(with_reducible repeat(first|apply Kd.Qm|apply Kd.Ql|apply Kd.Qo));exact Kd.Qs (Kd.Qu (Kd.Qu (Kd.Qy au.out D.out (by decide)) (fun _ hk=>hk.2) _) (fun _ hk=>hk.2) _) (fun _ hk=>trivial),bel⟩
  ·rw[if_neg c3] at H
   exact absurd H (by simp)
 ·rw[if_neg c2] at H
  exact absurd H (by simp)
end Go.Proofs.Ytjehhhlhalkieaa.C
namespace Go.Proofs.Ytjehhhlhalkieaa.C
open Go.RowKit Go.Proofs.YtjehhhlhalkieaaW.PrintWords Go.Proofs.YtjehhhlhalkieaaW.PrintLast Go.Proofs.YtjehhhlhalkieaaW.PrintMore
attribute [local go_sem] Zk Zi Zt Zs Zd Zc Zj Zh
set_option linter.unusedVariables false
set_option linter.unusedSimpArgs false
def newelref19_Few.f (I:List (S56)) (J:List (S62)):Option (Bool):=if (I.length:Int)≤130 then (some (decide ((J.length:Int)≤520))) else (some false)
set_option maxHeartbeats 8000000 in
set_option maxRecDepth 100000 in
theorem newelref19_Few.calls (η :Option Addr) (ζ :Nat) (I:List (S56)) (δ :Option Addr) (μ :Nat) (J:List (S62)) (r:Bool) (w:World) (a2:Kd.C k56 w η I.length I) (a5:I.length ≤ ζ) (χ :Kd.C k62 w δ J.length J) (a1:J.length ≤ μ) (h:newelref19_Few.f I J=some r):
  Calls Try.prog 9 #[.agg #[.slice η I.length ζ,.slice δ J.length μ]] w fun e w'=>e = .returned (.bool r)∧Below w.heap.size w w':=by
 have db:=Try.underlying27
 have ψ :=Aside0.mk a2
 have af:=Aside0.mk a5
 clear a2 a5
 have bl:=Aside0.mk χ
 have cm:=Aside0.mk a1
 clear χ a1
 have HB:=Aside0.mk (Below.refl w.heap.size w)
 have H:(if (I.length:Int)≤130 then (some (decide ((J.length:Int)≤520))) else (some false))=some r:=h
 clear h
 by_cases c2:(I.length:Int)≤130
 ·rw[if_pos c2] at H
  have c2b0:decide ((I.length:Int)≤130)=true:=decide_eq_true c2
  have c2b1:decide (I.length≤130)=true:=decide_eq_true (by omega)
  clear c2
  obtain rfl:=Option.some.inj H
  go_enter Try.func9,Try.ntmps9
  go_wp2_with (first|((with_reducible refine Qt (N:=1) rfl ?_);(try(refine Z7 (by rfl) ?_;dsimp only));refine Qp ?hg (N:=1) ?hd (cs:=#[.slice η I.length ζ,.slice δ J.length μ]) (t:=27) ?hr ?_;(case hd=>rfl);(case hg=>rfl);(case hr=>first|(go_simp;done)|(go_simp;rfl));intro ξ hg w3 hbox hb;have ε :=Aside0.mk (Qv (by repeat(first|(with_reducible first|exact HB.out|apply Qj|apply Qd|apply Qh)|exact HB.out)) hb);have θ :=Aside0.mk (hbox);have ι :=Aside0.mk ((by rw[hg];exact(Qk (by repeat(first|(with_reducible first|exact HB.out|apply Qj|apply Qd|apply Qh)|exact HB.out))):w.heap.size ≤ ξ));have κ :=Aside0.mk ((by rw[hg];exact(Qk (by repeat(first|(with_reducible first|exact HB.out|apply Qj|apply Qd|apply Qh)|exact HB.out))):w.heap.size ≤ ξ));clear HB;have HB:= ε;have Y:= θ;have bc:= ι;have b2:= κ;clear ε θ ι κ;clear hb hbox hg;have ag:w3.cell? ⟨ξ,0,none⟩=some (.slice η I.length ζ):=(Qa Y.out 0).trans rfl;have ah:w3.cell? ⟨ξ,1,none⟩=some (.slice δ J.length μ):=(Qa Y.out 1).trans rfl;have ai:=Qb Y.out 0;have al:=Qb Y.out 1))
  go_ret
  exact⟨by first|rfl|(simp[Q1,Q0] <;> rfl)|(simp[*,Q1,Q0] <;> rfl),by repeat(first|(with_reducible first|exact HB.out|apply Qj|apply Qd|apply Qh|refine Qe ?_ b2.out)|exact HB.out)⟩
 ·rw[if_neg c2] at H
  have c2b0:decide ((I.length:Int)≤130)=false:=decide_eq_false c2
  have c2b1:decide (I.length≤130)=false:=decide_eq_false (by omega)
  clear c2
  obtain rfl:=Option.some.inj H
  go_enter Try.func9,Try.ntmps9
  go_wp2_with (first|((with_reducible refine Qt (N:=1) rfl ?_);(try(refine Z7 (by rfl) ?_;dsimp only));refine Qp ?hg (N:=1) ?hd (cs:=#[.slice η I.length ζ,.slice δ J.length μ]) (t:=27) ?hr ?_;(case hd=>rfl);(case hg=>rfl);(case hr=>first|(go_simp;done)|(go_simp;rfl));intro ξ hg w5 hbox hb;have ε :=Aside0.mk (Qv (by repeat(first|(with_reducible first|exact HB.out|apply Qj|apply Qd|apply Qh)|exact HB.out)) hb);have θ :=Aside0.mk (hbox);have ι :=Aside0.mk ((by rw[hg];exact(Qk (by repeat(first|(with_reducible first|exact HB.out|apply Qj|apply Qd|apply Qh)|exact HB.out))):w.heap.size ≤ ξ));have κ :=Aside0.mk ((by rw[hg];exact(Qk (by repeat(first|(with_reducible first|exact HB.out|apply Qj|apply Qd|apply Qh)|exact HB.out))):w.heap.size ≤ ξ));clear HB;have HB:= ε;have Y:= θ;have bc:= ι;have b2:= κ;clear ε θ ι κ;clear hb hbox hg;have U:w5.cell? ⟨ξ,0,none⟩=some (.slice η I.length ζ):=(Qa Y.out 0).trans rfl;have X:w5.cell? ⟨ξ,1,none⟩=some (.slice δ J.length μ):=(Qa Y.out 1).trans rfl;have Z:=Qb Y.out 0;have γ:=Qb Y.out 1))
  go_ret
  exact⟨by first|rfl|(simp[Q1,Q0] <;> rfl)|(simp[*,Q1,Q0] <;> rfl),by repeat(first|(with_reducible first|exact HB.out|apply Qj|apply Qd|apply Qh|refine Qe ?_ b2.out)|exact HB.out)⟩
end Go.Proofs.Ytjehhhlhalkieaa.C
namespace Go.Proofs.Ytjehhhlhalkieaa.C
open Go.RowKit Go.Proofs.YtjehhhlhalkieaaW.PrintWords Go.Proofs.YtjehhhlhalkieaaW.PrintLast Go.Proofs.YtjehhhlhalkieaaW.PrintMore
attribute [local go_sem] Zk Zi Zt Zs Zd Zc Zj Zh
set_option linter.unusedVariables false
set_option linter.unusedSimpArgs false
theorem Nq (d:Nat) (w:World) (J D:Int) (L I:Int) (x2 O:Int):
  (Op.equalIn (d+2) 56 (.agg #[.int .i64 J,.int .i64 L,.int .i64 x2]) (.agg #[.int .i64 D,.int .i64 I,.int .i64 O])).run Try.prog w = .ok (J==D&&(L==I&&(x2==O))) w:=by
 refine L6 Try.underlying56 kr ?_
 refine Gv (by rfl) (by go_simp;rfl) (by go_simp;rfl) (by go_simp) ?_
 refine Gv (by rfl) (by go_simp;rfl) (by go_simp;rfl) (by go_simp) ?_
 exact Uh (by rfl) (by go_simp;rfl) (by go_simp;rfl) (by go_simp)
end Go.Proofs.Ytjehhhlhalkieaa.C
namespace Go.Proofs.Ytjehhhlhalkieaa.C
open Go.RowKit Go.Proofs.YtjehhhlhalkieaaW.PrintWords Go.Proofs.YtjehhhlhalkieaaW.PrintLast Go.Proofs.YtjehhhlhalkieaaW.PrintMore
attribute [local go_sem] Zk Zi Zt Zs Zd Zc Zj Zh
set_option linter.unusedVariables false
set_option linter.unusedSimpArgs false
theorem Np (d:Nat) (w:World) (J D:Int) (L I:Int):
  (Op.equalIn (d+2) 62 (.agg #[.int .i64 J,.int .i64 L]) (.agg #[.int .i64 D,.int .i64 I])).run Try.prog w = .ok (J==D&&(L==I)) w:=by
 refine L6 Try.underlying62 kr ?_
 refine Gv (by rfl) (by go_simp;rfl) (by go_simp;rfl) (by go_simp) ?_
 exact Uh (by rfl) (by go_simp;rfl) (by go_simp;rfl) (by go_simp)
end Go.Proofs.Ytjehhhlhalkieaa.C
namespace Go.Proofs.Ytjehhhlhalkieaa.C
open Go.RowKit Go.Proofs.YtjehhhlhalkieaaW.PrintWords Go.Proofs.YtjehhhlhalkieaaW.PrintLast Go.Proofs.YtjehhhlhalkieaaW.PrintMore
attribute [local go_sem] Zk Zi Zt Zs Zd Zc Zj Zh
set_option linter.unusedVariables false
set_option linter.unusedSimpArgs false
attribute [local go_sem high] Nq Np
mutual
def newelref19_Same.j0:Nat→Bool→List (S56)→List (S62)→List (S56)→List (S62)→Option (Bool)
 |0,_,_,_,_,_=>none
 |k+1,B,D,J,I,L=>if B=true then (some false) else (newelref19_Same.l0 k 0 D J I L)
def newelref19_Same.l0:Nat→Int→List (S56)→List (S62)→List (S56)→List (S62)→Option (Bool)
 |0,_,_,_,_,_=>none
 |k+1,O,D,J,I,L=>if O<(D.length:Int) then (if 0≤O then (if O<(I.length:Int) then (if (!(((Qi D O).f0)==((Qi I O).f0))||(!(((Qi D O).f1)==((Qi I O).f1))||(!(((Qi D O).f2)==((Qi I O).f2)))))=true then (some false) else (newelref19_Same.l0 k (wrap64 (O+1)) D J I L)) else (none)) else (none)) else (newelref19_Same.l1 k 0 D J I L)
def newelref19_Same.l1:Nat→Int→List (S56)→List (S62)→List (S56)→List (S62)→Option (Bool)
 |0,_,_,_,_,_=>none
 |k+1,B,D,J,I,L=>if B<(J.length:Int) then (if 0≤B then (if B<(L.length:Int) then (if (!(((Qq J B).f0)==((Qq L B).f0))||(!(((Qq J B).f1)==((Qq L B).f1))))=true then (some false) else (newelref19_Same.l1 k (wrap64 (B+1)) D J I L)) else (none)) else (none)) else (some true)
end
def newelref19_Same.f (k:Nat) (I:List (S56)) (J:List (S62)) (B:List (S56)) (D:List (S62)):Option (Bool):=if (I.length:Int)=(B.length:Int) then (newelref19_Same.j0 k ((J.length:Int) != (D.length:Int)) I J B D) else (newelref19_Same.j0 k true I J B D)
theorem newelref19_Same.Zo:∀ k,(∀ D I O J L,LeO (newelref19_Same.j0 k D I O J L) (newelref19_Same.j0 (k+1) D I O J L))∧(∀ D I O J L,LeO (newelref19_Same.l0 k D I O J L) (newelref19_Same.l0 (k+1) D I O J L))∧(∀ D I O J L,LeO (newelref19_Same.l1 k D I O J L) (newelref19_Same.l1 (k+1) D I O J L))
 |0=>⟨fun _ _ _ _ _ r h=>by simp[newelref19_Same.j0] at h,fun _ _ _ _ _ r h=>by simp[newelref19_Same.l0] at h,fun _ _ _ _ _ r h=>by simp[newelref19_Same.l1] at h⟩
 |k+1=>by
  obtain⟨B,U,X⟩:=newelref19_Same.Zo k
  refine⟨?_, ?_, ?_⟩
  ·intro D I O J L
   unfold newelref19_Same.j0
   repeat' first
   |(with_reducible exact B _ _ _ _ _)
   |(with_reducible exact U _ _ _ _ _)
   |(with_reducible exact X _ _ _ _ _)
   |(with_reducible exact LeO.refl _)
   |(with_reducible exact LeO.none _)
   |(with_reducible refine LeO.ite ?_ ?_)
   |(with_reducible refine LeO.bind ?_ (fun _=>?_))
   |exact B _ _ _ _ _
   |exact U _ _ _ _ _
   |exact X _ _ _ _ _
   |exact LeO.none _
   |refine LeO.ite ?_ ?_
   |refine LeO.bind ?_ (fun _=>?_)
  ·intro D I O J L
   unfold newelref19_Same.l0
   repeat' first
   |(with_reducible exact B _ _ _ _ _)
   |(with_reducible exact U _ _ _ _ _)
   |(with_reducible exact X _ _ _ _ _)
   |(with_reducible exact LeO.refl _)
   |(with_reducible exact LeO.none _)
   |(with_reducible refine LeO.ite ?_ ?_)
   |(with_reducible refine LeO.bind ?_ (fun _=>?_))
   |exact B _ _ _ _ _
   |exact U _ _ _ _ _
   |exact X _ _ _ _ _
   |exact LeO.none _
   |refine LeO.ite ?_ ?_
   |refine LeO.bind ?_ (fun _=>?_)
  ·intro D I O J L
   unfold newelref19_Same.l1
   repeat' first
   |(with_reducible exact B _ _ _ _ _)
   |(with_reducible exact U _ _ _ _ _)
   |(with_reducible exact X _ _ _ _ _)
   |(with_reducible exact LeO.refl _)
   |(with_reducible exact LeO.none _)
   |(with_reducible refine LeO.ite ?_ ?_)
   |(with_reducible refine LeO.bind ?_ (fun _=>?_))
   |exact B _ _ _ _ _
   |exact U _ _ _ _ _
   |exact X _ _ _ _ _
   |exact LeO.none _
   |refine LeO.ite ?_ ?_
   |refine LeO.bind ?_ (fun _=>?_)
theorem newelref19_Same.mono:∀ I D a2 a3 k,LeO (newelref19_Same.f k I D a2 a3) (newelref19_Same.f (k+1) I D a2 a3):=by
 intro I D a2 a3 k
 obtain⟨B,U,X⟩:=newelref19_Same.Zo k
 unfold newelref19_Same.f
 repeat' first
   |(with_reducible exact B _ _ _ _ _)
   |(with_reducible exact U _ _ _ _ _)
   |(with_reducible exact X _ _ _ _ _)
   |(with_reducible exact LeO.refl _)
   |(with_reducible exact LeO.none _)
   |(with_reducible refine LeO.ite ?_ ?_)
   |(with_reducible refine LeO.bind ?_ (fun _=>?_))
   |exact B _ _ _ _ _
   |exact U _ _ _ _ _
   |exact X _ _ _ _ _
   |exact LeO.none _
   |refine LeO.ite ?_ ?_
   |refine LeO.bind ?_ (fun _=>?_)
set_option maxHeartbeats 8000000 in
set_option maxRecDepth 100000 in
theorem newelref19_Same.calls (k:Nat) (η :Option Addr) (ζ :Nat) (I:List (S56)) (δ :Option Addr) (μ :Nat) (J:List (S62)) (Z:Option Addr) (U:Nat) (B:List (S56)) (γ:Option Addr) (X:Nat) (D:List (S62)) (r:Bool) (w:World) (a2:Kd.C k56 w η I.length I) (a5:I.length ≤ ζ) (χ :Kd.C k62 w δ J.length J) (a1:J.length ≤ μ) (b5:Kd.C k56 w Z B.length B) (b6:B.length≤U) (b7:Kd.C k62 w γ D.length D) (b8:D.length≤X) (h:newelref19_Same.f k I J B D=some r):
  Calls Try.prog 15 #[.agg #[.slice η I.length ζ,.slice δ J.length μ],.agg #[.slice Z B.length U,.slice γ D.length X]] w fun e w'=>e = .returned (.bool r)∧Below w.heap.size w w':=by
 have db:=Try.underlying27
 have bu:=Try.underlying56
 have be:=Try.underlying62
 have ψ :=Aside0.mk a2
 have af:=Aside0.mk a5
 clear a2 a5
 have bl:=Aside0.mk χ
 have cm:=Aside0.mk a1
 clear χ a1
 have ag:=Aside0.mk b5
 have ar:=Aside0.mk b6
 clear b5 b6
 have ah:=Aside0.mk b7
 have aw:=Aside0.mk b8
 clear b7 b8
 have HB:=Aside0.mk (Below.refl w.heap.size w)
 have H:(if (I.length:Int)=(B.length:Int) then (newelref19_Same.j0 k ((J.length:Int) != (D.length:Int)) I J B D) else (newelref19_Same.j0 k true I J B D))=some r:=h
 clear h
 have br:=Aside0.mk H
 clear H
 go_enter Try.func15,Try.ntmps15
 go_upto_region 1 with(first|((with_reducible refine Qt (N:=2) rfl ?_);(try(refine Z7 (by rfl) ?_;dsimp only));refine Qp ?hg (N:=2) ?hd (cs:=#[.slice η I.length ζ,.slice δ J.length μ]) (t:=27) ?hr ?_;(case hd=>rfl);(case hg=>rfl);(case hr=>go_simp <;> rfl);intro ε hg w4 hbox hb;have L:=Aside0.mk hbox;have bm:=sGe hg;have bs:=sGe hg;replace HB:=sHb hb;clear hb hbox hg)|((with_reducible refine Qt (N:=3) rfl ?_);(try(refine Z7 (by rfl) ?_;dsimp only));refine Qp ?hg (N:=3) ?hd (cs:=#[.slice Z B.length U,.slice γ D.length X]) (t:=27) ?hr ?_;(case hd=>rfl);(case hg=>rfl);(case hr=>go_simp <;> rfl);intro ρ hg w5 hbox hb;have O:=Aside0.mk hbox;have cj:=sGe hg;have cy:=sGe hg;have θ :=sNl L hg;have ι :=sNg L hg;replace L:=sBk L hb;replace HB:=sHb hb;clear hb hbox hg))
 repeat(go_quiet (first|((with_reducible refine Qt (N:=2) rfl ?_);(try(refine Z7 (by rfl) ?_;dsimp only));refine Qp ?hg (N:=2) ?hd (cs:=#[.slice η I.length ζ,.slice δ J.length μ]) (t:=27) ?hr ?_;(case hd=>rfl);(case hg=>rfl);(case hr=>go_simp <;> rfl);intro ε hg w4 hbox hb;have L:=Aside0.mk hbox;have bm:=sGe hg;have bs:=sGe hg;replace HB:=sHb hb;clear hb hbox hg)|((with_reducible refine Qt (N:=3) rfl ?_);(try(refine Z7 (by rfl) ?_;dsimp only));refine Qp ?hg (N:=3) ?hd (cs:=#[.slice Z B.length U,.slice γ D.length X]) (t:=27) ?hr ?_;(case hd=>rfl);(case hg=>rfl);(case hr=>go_simp <;> rfl);intro ρ hg w5 hbox hb;have O:=Aside0.mk hbox;have cj:=sGe hg;have cy:=sGe hg;have θ :=sNl L hg;have ι :=sNg L hg;replace L:=sBk L hb;replace HB:=sHb hb;clear hb hbox hg));go_upto_region 1 with(first|((with_reducible refine Qt (N:=2) rfl ?_);(try(refine Z7 (by rfl) ?_;dsimp only));refine Qp ?hg (N:=2) ?hd (cs:=#[.slice η I.length ζ,.slice δ J.length μ]) (t:=27) ?hr ?_;(case hd=>rfl);(case hg=>rfl);(case hr=>go_simp <;> rfl);intro ε hg w4 hbox hb;have L:=Aside0.mk hbox;have bm:=sGe hg;have bs:=sGe hg;replace HB:=sHb hb;clear hb hbox hg)|((with_reducible refine Qt (N:=3) rfl ?_);(try(refine Z7 (by rfl) ?_;dsimp only));refine Qp ?hg (N:=3) ?hd (cs:=#[.slice Z B.length U,.slice γ D.length X]) (t:=27) ?hr ?_;(case hd=>rfl);(case hg=>rfl);(case hr=>go_simp <;> rfl);intro ρ hg w5 hbox hb;have O:=Aside0.mk hbox;have cj:=sGe hg;have cy:=sGe hg;have θ :=sNl L hg;have ι :=sNg L hg;replace L:=sBk L hb;replace HB:=sHb hb;clear hb hbox hg)))
 (try simp only[Act.put,qS])
 go_cut [22] (fun di wc=>∃ (kq:Nat) (cq:Bool),di = .bool cq∧Aside0 (newelref19_Same.j0 kq cq I J B D=some r)∧Aside0 (kq≤k)∧Aside0 (wc.heap[ε]?=some (.cells #[(.slice η I.length ζ),(.slice δ J.length μ)] 27 (0,0)))∧Aside0 (wc.heap[ρ]?=some (.cells #[(.slice Z B.length U),(.slice γ D.length X)] 27 (0,0)))∧Aside0 (Below w.heap.size w wc))
 case first=>
  have H:=br.out
  clear br
  by_cases c6:(I.length:Int)=(B.length:Int)
  ·rw[if_pos c6] at H
   have c6b0:((I.length:Int)==(B.length:Int))=true:=beq_iff_eq.mpr c6
   have c6b1:((I.length:Int) != (B.length:Int))=false:=bne_eq_false_iff_eq.mpr c6
   have c6b2:(I.length==B.length)=true:=by first|simpa using c6|(simp at c6 ⊢;omega)
   clear c6
   (first|rw[c6b0]|(simp only[X5,Ys];rw[c6b0])|skip)
   have H':=Aside0.mk H
   clear H
   have dm:= θ.out
   have dn:= ι.out
   have am:w5.cell? ⟨ε,0,none⟩=some (.slice η I.length ζ):=(Qa L.out 0).trans rfl
   have an:w5.cell? ⟨ε,1,none⟩=some (.slice δ J.length μ):=(Qa L.out 1).trans rfl
   have ao:=Qb L.out 0
   have ap:=Qb L.out 1
   have bd:w5.cell? ⟨ρ,0,none⟩=some (.slice Z B.length U):=(Qa O.out 0).trans rfl
   have bg:w5.cell? ⟨ρ,1,none⟩=some (.slice γ D.length X):=(Qa O.out 1).trans rfl
   have bh:=Qb O.out 0
   have bi:=Qb O.out 1
   go_wp2
   repeat(go_quiet (fail);try go_wp2)
   go_meet
   case rel=>exact⟨_,(((J.length:Int) != (D.length:Int))),rfl,H',⟨by first|omega|exact Nat.le_refl _⟩,L,O,HB⟩
  ·rw[if_neg c6] at H
   have c6b0:((I.length:Int)==(B.length:Int))=false:=beq_eq_false_iff_ne.mpr c6
   have c6b1:((I.length:Int) != (B.length:Int))=true:=bne_iff_ne.mpr c6
   have c6b2:(I.length==B.length)=false:=by first|simpa using c6|(simp at c6 ⊢;omega)
   (first|rw[c6b0]|(simp only[X5,Ys];rw[c6b0])|skip)
   have H':=Aside0.mk H
   clear H
   have d5:= θ.out
   have d6:= ι.out
   have ab:w5.cell? ⟨ε,0,none⟩=some (.slice η I.length ζ):=(Qa L.out 0).trans rfl
   have ac:w5.cell? ⟨ε,1,none⟩=some (.slice δ J.length μ):=(Qa L.out 1).trans rfl
   have ae:=Qb L.out 0
   have aj:=Qb L.out 1
   have av:w5.cell? ⟨ρ,0,none⟩=some (.slice Z B.length U):=(Qa O.out 0).trans rfl
   have ax:w5.cell? ⟨ρ,1,none⟩=some (.slice γ D.length X):=(Qa O.out 1).trans rfl
   have az:=Qb O.out 0
   have b0:=Qb O.out 1
   go_wp2
   repeat(go_quiet (fail);try go_wp2)
   go_meet
   case rel=>exact⟨_,(true),rfl,H',⟨by first|omega|exact Nat.le_refl _⟩,L,O,HB⟩
 case rest=>
  clear br
  try clear c1
  try clear p2
  try clear c6
  try clear c6b0
  try clear c6b1
  try clear c6b2
  try clear c7
  try clear c10
  try clear ab
  try clear ac
  try clear av
  try clear ax
  try clear am
  try clear an
  try clear bd
  try clear bg
  try clear ae
  try clear aj
  try clear az
  try clear b0
  try clear ao
  try clear ap
  try clear bh
  try clear bi
  obtain⟨kq,cq,rfl,HA,cz,L,O,HB⟩:=hcut
  cases kq with
  |zero=>exact absurd HA.out (by simp[newelref19_Same.j0])
  |succ d9=>
   have H:=HA.out
   clear HA
   simp only[newelref19_Same.j0] at H
   by_cases bc:cq=true
   ·subst bc
    have H1:(some false)=some r:=by rw[if_pos rfl] at H;exact H
    clear H
    have H:=H1
    clear H1
    obtain rfl:=Option.some.inj H
    go_wp2
    repeat(go_quiet (fail);try go_wp2)
    go_ret
    exact⟨rfl,HB.out⟩
   ·replace bc:=Bool.eq_false_iff.mpr bc
    subst bc
    have H1:(newelref19_Same.l0 d9 0 I J B D)=some r:=by rw[if_neg (show ¬ (false=true) by decide)] at H;exact H
    clear H
    have H:=H1
    clear H1
    have H':=Aside0.mk H
    clear H
    go_wp2
    repeat(go_quiet (fail);try go_wp2)
    go_loopg [5] d9 (fun kq v5 w'=>∃ (Y:Int),v5 = .int .i64 Y∧Aside0 (newelref19_Same.l0 kq Y I J B D=some r)∧Aside0 (kq≤d9)∧Aside0 (w'.heap[ε]?=some (.cells #[(.slice η I.length ζ),(.slice δ J.length μ)] 27 (0,0)))∧Aside0 (w'.heap[ρ]?=some (.cells #[(.slice Z B.length U),(.slice γ D.length X)] 27 (0,0)))∧Aside0 (Below w.heap.size w w'))
    case atStart=>exact⟨(0),rfl,H',⟨Nat.le_refl _⟩,L,O,HB⟩
    case round=>
     clear H'
     try clear c1
     try clear p2
     try clear c6
     try clear c6b0
     try clear c6b1
     try clear c6b2
     try clear c7
     try clear c10
     try clear bc
     try clear ab
     try clear ac
     try clear av
     try clear ax
     try clear am
     try clear an
     try clear bd
     try clear bg
     try clear ae
     try clear aj
     try clear az
     try clear b0
     try clear ao
     try clear ap
     try clear bh
     try clear bi
     try clear p2
     obtain⟨Y,rfl,HA,bp,L,O,HB⟩:=hrel
     cases gk with
     |zero=>exact absurd HA.out (by simp[newelref19_Same.l0])
     |succ k2=>
      have H:=HA.out
      clear HA
      simp only[newelref19_Same.l0] at H
      by_cases ay:Y<(I.length:Int)
      ·rw[if_pos ay] at H
       have c14b0:decide (Y<(I.length:Int))=true:=decide_eq_true ay
       clear ay
       by_cases a8:0≤Y
       ·rw[if_pos a8] at H
        have c15b0:decide (0≤Y)=true:=decide_eq_true a8
        clear a8
        by_cases a3:Y<(B.length:Int)
        ·rw[if_pos a3] at H
         have c16b0:decide (Y<(B.length:Int))=true:=decide_eq_true a3
         clear a3
         by_cases au:(!(((Qi I Y).f0)==((Qi B Y).f0))||(!(((Qi I Y).f1)==((Qi B Y).f1))||(!(((Qi I Y).f2)==((Qi B Y).f2)))))=true
         ·rw[if_pos au] at H
          have c17b0:(!(((Qi I Y).f0)==((Qi B Y).f0))||(!(((Qi I Y).f1)==((Qi B Y).f1))||(!(((Qi I Y).f2)==((Qi B Y).f2)))))=true:=au
          (try(have c17s0:=c17b0;simp only[beq_self_eq_true,bne_self_eq_false,Bool.not_true,Bool.not_false,Bool.true_and,Bool.and_true,Bool.false_or,Bool.or_false] at c17s0))
          clear au
          obtain rfl:=Option.some.inj H
          have ca:= θ.out
          have ce:= ι.out
          have b1:wr.cell? ⟨ε,0,none⟩=some (.slice η I.length ζ):=(Qa L.out 0).trans rfl
          have b2:wr.cell? ⟨ε,1,none⟩=some (.slice δ J.length μ):=(Qa L.out 1).trans rfl
          have b3:=Qb L.out 0
          have b4:=Qb L.out 1
          have bw:0≤(Y:Int):=of_decide_eq_true (by assumption)
          have bz:Y<(I.length:Int):=of_decide_eq_true (by assumption)
          obtain⟨d1,cw,ν,σ,φ⟩:=Z5 ψ.out Y bw bz
          cases cw
          replace ν :=(HB.out.cell (World.block_lt_of_cell? w _ ν)).trans ν
          replace σ:=(HB.out.cell (World.block_lt_of_cell? w _ σ)).trans σ
          replace φ :=(HB.out.cell (World.block_lt_of_cell? w _ φ)).trans φ
          replace bw:=eq_true bw
          replace bz:=eq_true bz
          have b9:wr.cell? ⟨ρ,0,none⟩=some (.slice Z B.length U):=(Qa O.out 0).trans rfl
          have ba:wr.cell? ⟨ρ,1,none⟩=some (.slice γ D.length X):=(Qa O.out 1).trans rfl
          have bb:=Qb O.out 0
          have bf:=Qb O.out 1
          have a0:0≤(Y:Int):=of_decide_eq_true (by assumption)
          have a9:Y<(B.length:Int):=of_decide_eq_true (by assumption)
          obtain⟨aa,bq,ξ,τ,ω⟩:=Z5 ag.out Y a0 a9
          cases bq
          replace ξ :=(HB.out.cell (World.block_lt_of_cell? w _ ξ)).trans ξ
          replace τ :=(HB.out.cell (World.block_lt_of_cell? w _ τ)).trans τ
          replace ω :=(HB.out.cell (World.block_lt_of_cell? w _ ω)).trans ω
          replace a0:=eq_true a0
          replace a9:=eq_true a9
          go_wp2
          repeat(go_quiet (fail);try go_wp2)
          go_ret
          exact⟨by first|rfl|(simp[Q1,Q0] <;> rfl)|(simp[*,Q1,Q0] <;> rfl),bel⟩
         ·rw[if_neg au] at H
          have c17b0:(!(((Qi I Y).f0)==((Qi B Y).f0))||(!(((Qi I Y).f1)==((Qi B Y).f1))||(!(((Qi I Y).f2)==((Qi B Y).f2)))))=false:=by simpa using au
          (try(have c17s0:=c17b0;simp only[beq_self_eq_true,bne_self_eq_false,Bool.not_true,Bool.not_false,Bool.true_and,Bool.and_true,Bool.false_or,Bool.or_false] at c17s0))
          clear au
          have H':=Aside0.mk H
          clear H
          have e9:= θ.out
          have em:= ι.out
          have bj:wr.cell? ⟨ε,0,none⟩=some (.slice η I.length ζ):=(Qa L.out 0).trans rfl
          have bk:wr.cell? ⟨ε,1,none⟩=some (.slice δ J.length μ):=(Qa L.out 1).trans rfl
          have bn:=Qb L.out 0
          have bv:=Qb L.out 1
          have bw:0≤(Y:Int):=of_decide_eq_true (by assumption)
          have bz:Y<(I.length:Int):=of_decide_eq_true (by assumption)
          obtain⟨d1,cw,ν,σ,φ⟩:=Z5 ψ.out Y bw bz
          cases cw
          replace ν :=(HB.out.cell (World.block_lt_of_cell? w _ ν)).trans ν
          replace σ:=(HB.out.cell (World.block_lt_of_cell? w _ σ)).trans σ
          replace φ :=(HB.out.cell (World.block_lt_of_cell? w _ φ)).trans φ
          replace bw:=eq_true bw
          replace bz:=eq_true bz
          have ch:wr.cell? ⟨ρ,0,none⟩=some (.slice Z B.length U):=(Qa O.out 0).trans rfl
          have cn:wr.cell? ⟨ρ,1,none⟩=some (.slice γ D.length X):=(Qa O.out 1).trans rfl
          have co:=Qb O.out 0
          have cp:=Qb O.out 1
          have a0:0≤(Y:Int):=of_decide_eq_true (by assumption)
          have a9:Y<(B.length:Int):=of_decide_eq_true (by assumption)
          obtain⟨aa,bq,ξ,τ,ω⟩:=Z5 ag.out Y a0 a9
          cases bq
          replace ξ :=(HB.out.cell (World.block_lt_of_cell? w _ ξ)).trans ξ
          replace τ :=(HB.out.cell (World.block_lt_of_cell? w _ τ)).trans τ
          replace ω :=(HB.out.cell (World.block_lt_of_cell? w _ ω)).trans ω
          replace a0:=eq_true a0
          replace a9:=eq_true a9
          go_wp2
          repeat(go_quiet (fail);try go_wp2)
          go_roundg k2
          case measure=>have:=cz.out;have:=bp.out;omega
          case rel=>exact⟨(wrap64 (Y+1)),qR,H',⟨by have:=cz.out;have:=bp.out;omega⟩,⟨bka L⟩,⟨bka O⟩,⟨bel⟩⟩
        ·rw[if_neg a3] at H
         exact absurd H (by simp)
       ·rw[if_neg a8] at H
        exact absurd H (by simp)
      ·rw[if_neg ay] at H
       have c14b0:decide (Y<(I.length:Int))=false:=decide_eq_false ay
       clear ay
       have H':=Aside0.mk H
       clear H
       have eo:= θ.out
       have ep:= ι.out
       have f9:wr.cell? ⟨ε,0,none⟩=some (.slice η I.length ζ):=(Qa L.out 0).trans rfl
       have fc:wr.cell? ⟨ε,1,none⟩=some (.slice δ J.length μ):=(Qa L.out 1).trans rfl
       have fe:=Qb L.out 0
       have ff:=Qb L.out 1
       go_wp2
       repeat(go_quiet (fail);try go_wp2)
       go_loopg [6] k2 (fun kq v6 w'=>∃ (κ :Int),v6 = .int .i64 κ ∧ Aside0 (newelref19_Same.l1 kq κ I J B D=some r)∧Aside0 (kq≤k2)∧Aside0 (w'.heap[ε]?=some (.cells #[(.slice η I.length ζ),(.slice δ J.length μ)] 27 (0,0)))∧Aside0 (w'.heap[ρ]?=some (.cells #[(.slice Z B.length U),(.slice γ D.length X)] 27 (0,0)))∧Aside0 (Below w.heap.size w w'))
       case atStart=>exact⟨(0),rfl,H',⟨Nat.le_refl _⟩,L,O,HB⟩
       case round=>
        clear H'
        try clear c1
        try clear p1
        try clear q1
        try clear bo
        try clear c2
        try clear p2
        try clear c6
        try clear c6b0
        try clear c6b1
        try clear c6b2
        try clear p6
        try clear c7
        try clear c10
        try clear df
        try clear dh
        try clear d8
        try clear bc
        try clear ay
        try clear c14b0
        try clear a8
        try clear c15b0
        try clear a3
        try clear c16b0
        try clear au
        try clear c17b0
        try clear cb
        try clear cv
        try clear ic
        try clear ab
        try clear ac
        try clear av
        try clear ax
        try clear b1
        try clear b2
        try clear b9
        try clear ba
        try clear bj
        try clear bk
        try clear ch
        try clear cn
        try clear f9
        try clear fc
        try clear am
        try clear an
        try clear bd
        try clear bg
        try clear ae
        try clear aj
        try clear az
        try clear b0
        try clear b3
        try clear b4
        try clear bb
        try clear bf
        try clear bn
        try clear bv
        try clear co
        try clear cp
        try clear fe
        try clear ff
        try clear ao
        try clear ap
        try clear bh
        try clear bi
        try clear ν
        try clear σ
        try clear φ
        try clear ξ
        try clear τ
        try clear ω
        try clear bw
        try clear a0
        try clear p2
        try clear bz
        try clear a9
        obtain⟨κ,rfl,HA,d7,L,O,HB⟩:=hrel
        cases gk with
        |zero=>exact absurd HA.out (by simp[newelref19_Same.l1])
        |succ k3=>
         have H:=HA.out
         clear HA
         simp only[newelref19_Same.l1] at H
         by_cases ak: κ < (J.length:Int)
         ·rw[if_pos ak] at H
          have c26b0:decide (κ < (J.length:Int))=true:=decide_eq_true ak
          clear ak
          by_cases dj:0 ≤ κ
          ·rw[if_pos dj] at H
           have c27b0:decide (0 ≤ κ)=true:=decide_eq_true dj
           clear dj
           by_cases al: κ < (D.length:Int)
           ·rw[if_pos al] at H
            have c28b0:decide (κ < (D.length:Int))=true:=decide_eq_true al
            clear al
            by_cases ck:(!(((Qq J κ).f0)==((Qq D κ).f0))||(!(((Qq J κ).f1)==((Qq D κ).f1))))=true
            ·rw[if_pos ck] at H
             have c29b0:(!(((Qq J κ).f0)==((Qq D κ).f0))||(!(((Qq J κ).f1)==((Qq D κ).f1))))=true:=ck
             (try(have c29s0:=c29b0;simp only[beq_self_eq_true,bne_self_eq_false,Bool.not_true,Bool.not_false,Bool.true_and,Bool.and_true,Bool.false_or,Bool.or_false] at c29s0))
             clear ck
             obtain rfl:=Option.some.inj H
             have i1:= θ.out
             have i2:= ι.out
             have fn:wr.cell? ⟨ε,0,none⟩=some (.slice η I.length ζ):=(Qa L.out 0).trans rfl
             have fo:wr.cell? ⟨ε,1,none⟩=some (.slice δ J.length μ):=(Qa L.out 1).trans rfl
             have fp:=Qb L.out 0
             have fq:=Qb L.out 1
             have cd:0≤(κ :Int):=of_decide_eq_true (by assumption)
             have cf: κ < (J.length:Int):=of_decide_eq_true (by assumption)
             obtain⟨d2,cx,a4,a6⟩:=Xa bl.out κ cd cf
             cases cx
             replace a4:=(HB.out.cell (World.block_lt_of_cell? w _ a4)).trans a4
             replace a6:=(HB.out.cell (World.block_lt_of_cell? w _ a6)).trans a6
             replace cd:=eq_true cd
             replace cf:=eq_true cf
             have da:wr.cell? ⟨ρ,0,none⟩=some (.slice Z B.length U):=(Qa O.out 0).trans rfl
             have dc:wr.cell? ⟨ρ,1,none⟩=some (.slice γ D.length X):=(Qa O.out 1).trans rfl
             have dd:=Qb O.out 0
             have de:=Qb O.out 1
             have cg:0≤(κ :Int):=of_decide_eq_true (by assumption)
             have ci: κ < (D.length:Int):=of_decide_eq_true (by assumption)
             obtain⟨d3,d0,a7,ai⟩:=Xa ah.out κ cg ci
             cases d0
             replace a7:=(HB.out.cell (World.block_lt_of_cell? w _ a7)).trans a7
             replace ai:=(HB.out.cell (World.block_lt_of_cell? w _ ai)).trans ai
             replace cg:=eq_true cg
             replace ci:=eq_true ci
             go_wp2
             repeat(go_quiet (fail);try go_wp2)
             go_ret
             exact⟨by first|rfl|(simp[Q1,Q0] <;> rfl)|(simp[*,Q1,Q0] <;> rfl),bel⟩
            ·rw[if_neg ck] at H
             have c29b0:(!(((Qq J κ).f0)==((Qq D κ).f0))||(!(((Qq J κ).f1)==((Qq D κ).f1))))=false:=by simpa using ck
             (try(have c29s0:=c29b0;simp only[beq_self_eq_true,bne_self_eq_false,Bool.not_true,Bool.not_false,Bool.true_and,Bool.and_true,Bool.false_or,Bool.or_false] at c29s0))
             clear ck
             have H':=Aside0.mk H
             clear H
             have g8:= θ.out
             have g9:= ι.out
             have ea:wr.cell? ⟨ε,0,none⟩=some (.slice η I.length ζ):=(Qa L.out 0).trans rfl
             have eb:wr.cell? ⟨ε,1,none⟩=some (.slice δ J.length μ):=(Qa L.out 1).trans rfl
             have ec:=Qb L.out 0
             have ed:=Qb L.out 1
             have cd:0≤(κ :Int):=of_decide_eq_true (by assumption)
             have cf: κ < (J.length:Int):=of_decide_eq_true (by assumption)
             obtain⟨d2,cx,a4,a6⟩:=Xa bl.out κ cd cf
             cases cx
             replace a4:=(HB.out.cell (World.block_lt_of_cell? w _ a4)).trans a4
             replace a6:=(HB.out.cell (World.block_lt_of_cell? w _ a6)).trans a6
             replace cd:=eq_true cd
             replace cf:=eq_true cf
             have eu:wr.cell? ⟨ρ,0,none⟩=some (.slice Z B.length U):=(Qa O.out 0).trans rfl
             have ev:wr.cell? ⟨ρ,1,none⟩=some (.slice γ D.length X):=(Qa O.out 1).trans rfl
             have ew:=Qb O.out 0
             have ey:=Qb O.out 1
             have cg:0≤(κ :Int):=of_decide_eq_true (by assumption)
             have ci: κ < (D.length:Int):=of_decide_eq_true (by assumption)
             obtain⟨d3,d0,a7,ai⟩:=Xa ah.out κ cg ci
             cases d0
             replace a7:=(HB.out.cell (World.block_lt_of_cell? w _ a7)).trans a7
             replace ai:=(HB.out.cell (World.block_lt_of_cell? w _ ai)).trans ai
             replace cg:=eq_true cg
             replace ci:=eq_true ci
             go_wp2
             repeat(go_quiet (fail);try go_wp2)
             go_roundg k3
             case measure=>have:=cz.out;have:=bp.out;have:=d7.out;omega
             case rel=>exact⟨(wrap64 (κ + 1)),qR,H',⟨by have:=cz.out;have:=bp.out;have:=d7.out;omega⟩,⟨bka L⟩,⟨bka O⟩,⟨bel⟩⟩
           ·rw[if_neg al] at H
            exact absurd H (by simp)
          ·rw[if_neg dj] at H
           exact absurd H (by simp)
         ·rw[if_neg ak] at H
          have c26b0:decide (κ < (J.length:Int))=false:=decide_eq_false ak
          clear ak
          obtain rfl:=Option.some.inj H
          have er:= θ.out
          have et:= ι.out
          have cr:wr.cell? ⟨ε,0,none⟩=some (.slice η I.length ζ):=(Qa L.out 0).trans rfl
          have ct:wr.cell? ⟨ε,1,none⟩=some (.slice δ J.length μ):=(Qa L.out 1).trans rfl
          have cu:=Qb L.out 0
          have d4:=Qb L.out 1
          go_wp2
          repeat(go_quiet (fail);try go_wp2)
          go_ret
          exact⟨by first|rfl|(simp[Q1,Q0] <;> rfl)|(simp[*,Q1,Q0] <;> rfl),bel⟩
end Go.Proofs.Ytjehhhlhalkieaa.C
namespace Go.Proofs.Ytjehhhlhalkieaa.C
open Go.RowKit Go.Proofs.YtjehhhlhalkieaaW.PrintWords Go.Proofs.YtjehhhlhalkieaaW.PrintLast Go.Proofs.YtjehhhlhalkieaaW.PrintMore
attribute [local go_sem] Zk Zi Zt Zs Zd Zc Zj Zh
set_option linter.unusedVariables false
set_option linter.unusedSimpArgs false
attribute [local go_sem high] Nq
def api_Hall.l0:Nat→List (S56)→List (S56)→Int→Int→Option (Bool)
 |0,_,_,_,_=>none
 |k+1,J,L,D,B=>if B<D then (if 0≤B then (if B<(J.length:Int) then (if B<(L.length:Int) then (if (!(((Qi J B).f0)==((Qi L B).f0))||(!(((Qi J B).f1)==((Qi L B).f1))||(!(((Qi J B).f2)==((Qi L B).f2)))))=true then (some false) else (api_Hall.l0 k J L D (wrap64 (B+1)))) else (none)) else (none)) else (none)) else (some true)
def api_Hall.f (k:Nat) (l0:List (S56)) (l1:List (S56)):Option (Bool):=if (l0.length:Int)=(l1.length:Int) then (api_Hall.l0 k l0 l1 (l0.length:Int) 0) else (some false)
theorem api_Hall.Zo:∀ k,(∀ D I O J,LeO (api_Hall.l0 k D I O J) (api_Hall.l0 (k+1) D I O J))
 |0=>fun _ _ _ _ r h=>by simp[api_Hall.l0] at h
 |k+1=>by
  have B:=api_Hall.Zo k
  ·intro D I O J
   unfold api_Hall.l0
   repeat' first
   |(with_reducible exact B _ _ _ _)
   |(with_reducible exact LeO.refl _)
   |(with_reducible exact LeO.none _)
   |(with_reducible refine LeO.ite ?_ ?_)
   |(with_reducible refine LeO.bind ?_ (fun _=>?_))
   |exact B _ _ _ _
   |exact LeO.none _
   |refine LeO.ite ?_ ?_
   |refine LeO.bind ?_ (fun _=>?_)
theorem api_Hall.mono:∀ I D k,LeO (api_Hall.f k I D) (api_Hall.f (k+1) I D):=by
 intro I D k
 have B:=api_Hall.Zo k
 unfold api_Hall.f
 repeat' first
   |(with_reducible exact B _ _ _ _)
   |(with_reducible exact LeO.refl _)
   |(with_reducible exact LeO.none _)
   |(with_reducible refine LeO.ite ?_ ?_)
   |(with_reducible refine LeO.bind ?_ (fun _=>?_))
   |exact B _ _ _ _
   |exact LeO.none _
   |refine LeO.ite ?_ ?_
   |refine LeO.bind ?_ (fun _=>?_)
set_option maxHeartbeats 8000000 in
set_option maxRecDepth 100000 in
theorem api_Hall.calls (k:Nat) (X:Option Addr) (c0:Nat) (l0:List (S56)) (A1:Option Addr) (c1:Nat) (l1:List (S56)) (r:Bool) (w:World) (Y:Kd.C k56 w X l0.length l0) (ζ :l0.length≤c0) (δ :Kd.C k56 w A1 l1.length l1) (Z:l1.length≤c1) (h:api_Hall.f k l0 l1=some r):
  Calls Try.prog 48 #[.slice X l0.length c0,.slice A1 l1.length c1] w fun e w'=>e = .returned (.bool r)∧Drawn0 w w':=by
 have bu:=Try.underlying56
 have μ :=Aside0.mk Y
 have a0:=Aside0.mk ζ
 clear Y ζ
 have ε :=Aside0.mk δ
 have φ :=Aside0.mk Z
 clear δ Z
 have H:(if (l0.length:Int)=(l1.length:Int) then (api_Hall.l0 k l0 l1 (l0.length:Int) 0) else (some false))=some r:=h
 clear h
 by_cases c3:(l0.length:Int)=(l1.length:Int)
 ·rw[if_pos c3] at H
  have c3b0:((l0.length:Int)==(l1.length:Int))=true:=beq_iff_eq.mpr c3
  have c3b1:((l0.length:Int) != (l1.length:Int))=false:=bne_eq_false_iff_eq.mpr c3
  have c3b2:(l0.length==l1.length)=true:=by first|simpa using c3|(simp at c3 ⊢;omega)
  clear c3
  have H':=Aside0.mk H
  clear H
  go_enter Try.func48,Try.ntmps48
  go_wp2
  repeat(go_quiet (fail);try go_wp2)
  go_loopg [13] k (fun kq ρ w'=>∃ (B:Int),ρ = .int .i64 B∧Aside0 (api_Hall.l0 kq l0 l1 (l0.length:Int) B=some r)∧Aside0 (kq≤k)∧Drawn0 w w')
  case atStart=>exact⟨(0),qR,H',⟨Nat.le_refl _⟩,by repeat(first|exact Drawn0.refl _|apply Drawn0.step)⟩
  case round=>
   clear H'
   try clear c1
   try clear p2
   try clear c3
   try clear c3b0
   try clear c3b1
   try clear c3b2
   obtain⟨B,rfl,HA,σ,⟨m1,rfl⟩⟩:=hrel
   cases gk with
   |zero=>exact absurd HA.out (by simp[api_Hall.l0])
   |succ k1=>
    have H:=HA.out
    clear HA
    simp only[api_Hall.l0] at H
    by_cases c4:B<(l0.length:Int)
    ·rw[if_pos c4] at H
     have c4b0:decide (B<(l0.length:Int))=true:=decide_eq_true c4
     clear c4
     by_cases c5:0≤B
     ·rw[if_pos c5] at H
      have c5b0:decide (0≤B)=true:=decide_eq_true c5
      clear c5
      by_cases c6:B<(l0.length:Int)
      ·rw[if_pos c6] at H
       have c6b0:decide (B<(l0.length:Int))=true:=decide_eq_true c6
       clear c6
       by_cases c7:B<(l1.length:Int)
       ·rw[if_pos c7] at H
        have c7b0:decide (B<(l1.length:Int))=true:=decide_eq_true c7
        clear c7
        by_cases c8:(!(((Qi l0 B).f0)==((Qi l1 B).f0))||(!(((Qi l0 B).f1)==((Qi l1 B).f1))||(!(((Qi l0 B).f2)==((Qi l1 B).f2)))))=true
        ·rw[if_pos c8] at H
         have c8b0:(!(((Qi l0 B).f0)==((Qi l1 B).f0))||(!(((Qi l0 B).f1)==((Qi l1 B).f1))||(!(((Qi l0 B).f2)==((Qi l1 B).f2)))))=true:=c8
         (try(have c8s0:=c8b0;simp only[beq_self_eq_true,bne_self_eq_false,Bool.not_true,Bool.not_false,Bool.true_and,Bool.and_true,Bool.false_or,Bool.or_false] at c8s0))
         clear c8
         obtain rfl:=Option.some.inj H
         have D:0≤(B:Int):=of_decide_eq_true (by first|(with_reducible assumption)|assumption)
         have γ:B<(l0.length:Int):=of_decide_eq_true (by first|(with_reducible assumption)|assumption)
         obtain⟨τ,θ,ι,κ,ν⟩:=Z5 μ.out B D γ
         cases θ
         replace D:=eq_true D
         replace γ:=eq_true γ
         have L:0≤(B:Int):=of_decide_eq_true (by first|(with_reducible assumption)|assumption)
         have O:B<(l1.length:Int):=of_decide_eq_true (by first|(with_reducible assumption)|assumption)
         obtain⟨η,U,I,J,ξ⟩:=Z5 ε.out B L O
         cases U
         replace L:=eq_true L
         replace O:=eq_true O
         go_wp2
         repeat(go_quiet (fail);try go_wp2)
         go_ret
         exact⟨qR,by repeat(first|exact Drawn0.refl _|apply Drawn0.step)⟩
        ·rw[if_neg c8] at H
         have c8b0:(!(((Qi l0 B).f0)==((Qi l1 B).f0))||(!(((Qi l0 B).f1)==((Qi l1 B).f1))||(!(((Qi l0 B).f2)==((Qi l1 B).f2)))))=false:=by simpa using c8
         (try(have c8s0:=c8b0;simp only[beq_self_eq_true,bne_self_eq_false,Bool.not_true,Bool.not_false,Bool.true_and,Bool.and_true,Bool.false_or,Bool.or_false] at c8s0))
         clear c8
         have H':=Aside0.mk H
         clear H
         have D:0≤(B:Int):=of_decide_eq_true (by first|(with_reducible assumption)|assumption)
         have γ:B<(l0.length:Int):=of_decide_eq_true (by first|(with_reducible assumption)|assumption)
         obtain⟨τ,θ,ι,κ,ν⟩:=Z5 μ.out B D γ
         cases θ
         replace D:=eq_true D
         replace γ:=eq_true γ
         have L:0≤(B:Int):=of_decide_eq_true (by first|(with_reducible assumption)|assumption)
         have O:B<(l1.length:Int):=of_decide_eq_true (by first|(with_reducible assumption)|assumption)
         obtain⟨η,U,I,J,ξ⟩:=Z5 ε.out B L O
         cases U
         replace L:=eq_true L
         replace O:=eq_true O
         go_wp2
         repeat(go_quiet (fail);try go_wp2)
         go_roundg k1
         case measure=>have:=σ.out;omega
         case rel=>exact⟨(wrap64 (B+1)),qR,H',⟨by have:=σ.out;omega⟩,by repeat(first|exact Drawn0.refl _|apply Drawn0.step)⟩
       ·rw[if_neg c7] at H
        exact absurd H (by simp)
      ·rw[if_neg c6] at H
       exact absurd H (by simp)
     ·rw[if_neg c5] at H
      exact absurd H (by simp)
    ·rw[if_neg c4] at H
     have c4b0:decide (B<(l0.length:Int))=false:=decide_eq_false c4
     clear c4
     obtain rfl:=Option.some.inj H
     go_wp2
     repeat(go_quiet (fail);try go_wp2)
     go_ret
     exact⟨qR,by repeat(first|exact Drawn0.refl _|apply Drawn0.step)⟩
 ·rw[if_neg c3] at H
  have c3b0:((l0.length:Int)==(l1.length:Int))=false:=beq_eq_false_iff_ne.mpr c3
  have c3b1:((l0.length:Int) != (l1.length:Int))=true:=bne_iff_ne.mpr c3
  have c3b2:(l0.length==l1.length)=false:=by first|simpa using c3|(simp at c3 ⊢;omega)
  obtain rfl:=Option.some.inj H
  go_enter Try.func48,Try.ntmps48
  go_wp2
  repeat(go_quiet (fail);try go_wp2)
  go_ret
  exact⟨qR,by repeat(first|exact Drawn0.refl _|apply Drawn0.step)⟩
end Go.Proofs.Ytjehhhlhalkieaa.C
namespace Go.Proofs.Ytjehhhlhalkieaa.C
open Go.RowKit Go.Proofs.YtjehhhlhalkieaaW.PrintWords Go.Proofs.YtjehhhlhalkieaaW.PrintLast Go.Proofs.YtjehhhlhalkieaaW.PrintMore
attribute [local go_sem] Zk Zi Zt Zs Zd Zc Zj Zh
set_option linter.unusedVariables false
set_option linter.unusedSimpArgs false
attribute [local go_sem high] Np
def api_Inside.l0:Nat→List (S62)→List (S62)→Int→Int→Option (Bool)
 |0,_,_,_,_=>none
 |k+1,J,L,D,B=>if B<D then (if 0≤B then (if B<(J.length:Int) then (if B<(L.length:Int) then (if (!(((Qq J B).f0)==((Qq L B).f0))||(!(((Qq J B).f1)==((Qq L B).f1))))=true then (some false) else (api_Inside.l0 k J L D (wrap64 (B+1)))) else (none)) else (none)) else (none)) else (some true)
def api_Inside.f (k:Nat) (l0:List (S62)) (l1:List (S62)):Option (Bool):=if (l0.length:Int)=(l1.length:Int) then (api_Inside.l0 k l0 l1 (l0.length:Int) 0) else (some false)
theorem api_Inside.Zo:∀ k,(∀ D I O J,LeO (api_Inside.l0 k D I O J) (api_Inside.l0 (k+1) D I O J))
 |0=>fun _ _ _ _ r h=>by simp[api_Inside.l0] at h
 |k+1=>by
  have B:=api_Inside.Zo k
  ·intro D I O J
   unfold api_Inside.l0
   repeat' first
   |(with_reducible exact B _ _ _ _)
   |(with_reducible exact LeO.refl _)
   |(with_reducible exact LeO.none _)
   |(with_reducible refine LeO.ite ?_ ?_)
   |(with_reducible refine LeO.bind ?_ (fun _=>?_))
   |exact B _ _ _ _
   |exact LeO.none _
   |refine LeO.ite ?_ ?_
   |refine LeO.bind ?_ (fun _=>?_)
theorem api_Inside.mono:∀ I D k,LeO (api_Inside.f k I D) (api_Inside.f (k+1) I D):=by
 intro I D k
 have B:=api_Inside.Zo k
 unfold api_Inside.f
 repeat' first
   |(with_reducible exact B _ _ _ _)
   |(with_reducible exact LeO.refl _)
   |(with_reducible exact LeO.none _)
   |(with_reducible refine LeO.ite ?_ ?_)
   |(with_reducible refine LeO.bind ?_ (fun _=>?_))
   |exact B _ _ _ _
   |exact LeO.none _
   |refine LeO.ite ?_ ?_
   |refine LeO.bind ?_ (fun _=>?_)
set_option maxHeartbeats 8000000 in
set_option maxRecDepth 100000 in
theorem api_Inside.calls (k:Nat) (X:Option Addr) (c0:Nat) (l0:List (S62)) (A1:Option Addr) (c1:Nat) (l1:List (S62)) (r:Bool) (w:World) (Y:Kd.C k62 w X l0.length l0) (ζ :l0.length≤c0) (δ :Kd.C k62 w A1 l1.length l1) (Z:l1.length≤c1) (h:api_Inside.f k l0 l1=some r):
  Calls Try.prog 49 #[.slice X l0.length c0,.slice A1 l1.length c1] w fun e w'=>e = .returned (.bool r)∧Drawn0 w w':=by
 have be:=Try.underlying62
 have μ :=Aside0.mk Y
 have a0:=Aside0.mk ζ
 clear Y ζ
 have ε :=Aside0.mk δ
 have φ :=Aside0.mk Z
 clear δ Z
 have H:(if (l0.length:Int)=(l1.length:Int) then (api_Inside.l0 k l0 l1 (l0.length:Int) 0) else (some false))=some r:=h
 clear h
 by_cases c3:(l0.length:Int)=(l1.length:Int)
 ·rw[if_pos c3] at H
  have c3b0:((l0.length:Int)==(l1.length:Int))=true:=beq_iff_eq.mpr c3
  have c3b1:((l0.length:Int) != (l1.length:Int))=false:=bne_eq_false_iff_eq.mpr c3
  have c3b2:(l0.length==l1.length)=true:=by first|simpa using c3|(simp at c3 ⊢;omega)
  clear c3
  have H':=Aside0.mk H
  clear H
  go_enter Try.func49,Try.ntmps49
  go_wp2
  repeat(go_quiet (fail);try go_wp2)
  go_loopg [13] k (fun kq ρ w'=>∃ (B:Int),ρ = .int .i64 B∧Aside0 (api_Inside.l0 kq l0 l1 (l0.length:Int) B=some r)∧Aside0 (kq≤k)∧Drawn0 w w')
  case atStart=>exact⟨(0),qR,H',⟨Nat.le_refl _⟩,by repeat(first|exact Drawn0.refl _|apply Drawn0.step)⟩
  case round=>
   clear H'
   try clear c1
   try clear p2
   try clear c3
   try clear c3b0
   try clear c3b1
   try clear c3b2
   obtain⟨B,rfl,HA,σ,⟨m1,rfl⟩⟩:=hrel
   cases gk with
   |zero=>exact absurd HA.out (by simp[api_Inside.l0])
   |succ k1=>
    have H:=HA.out
    clear HA
    simp only[api_Inside.l0] at H
    by_cases c4:B<(l0.length:Int)
    ·rw[if_pos c4] at H
     have c4b0:decide (B<(l0.length:Int))=true:=decide_eq_true c4
     clear c4
     by_cases c5:0≤B
     ·rw[if_pos c5] at H
      have c5b0:decide (0≤B)=true:=decide_eq_true c5
      clear c5
      by_cases c6:B<(l0.length:Int)
      ·rw[if_pos c6] at H
       have c6b0:decide (B<(l0.length:Int))=true:=decide_eq_true c6
       clear c6
       by_cases c7:B<(l1.length:Int)
       ·rw[if_pos c7] at H
        have c7b0:decide (B<(l1.length:Int))=true:=decide_eq_true c7
        clear c7
        by_cases c8:(!(((Qq l0 B).f0)==((Qq l1 B).f0))||(!(((Qq l0 B).f1)==((Qq l1 B).f1))))=true
        ·rw[if_pos c8] at H
         have c8b0:(!(((Qq l0 B).f0)==((Qq l1 B).f0))||(!(((Qq l0 B).f1)==((Qq l1 B).f1))))=true:=c8
         (try(have c8s0:=c8b0;simp only[beq_self_eq_true,bne_self_eq_false,Bool.not_true,Bool.not_false,Bool.true_and,Bool.and_true,Bool.false_or,Bool.or_false] at c8s0))
         clear c8
         obtain rfl:=Option.some.inj H
         have D:0≤(B:Int):=of_decide_eq_true (by first|(with_reducible assumption)|assumption)
         have I:B<(l0.length:Int):=of_decide_eq_true (by first|(with_reducible assumption)|assumption)
         obtain⟨κ,O,γ,η⟩:=Xa μ.out B D I
         cases O
         replace D:=eq_true D
         replace I:=eq_true I
         have J:0≤(B:Int):=of_decide_eq_true (by first|(with_reducible assumption)|assumption)
         have L:B<(l1.length:Int):=of_decide_eq_true (by first|(with_reducible assumption)|assumption)
         obtain⟨ν,U,θ,ι⟩:=Xa ε.out B J L
         cases U
         replace J:=eq_true J
         replace L:=eq_true L
         go_wp2
         repeat(go_quiet (fail);try go_wp2)
         go_ret
         exact⟨qR,by repeat(first|exact Drawn0.refl _|apply Drawn0.step)⟩
        ·rw[if_neg c8] at H
         have c8b0:(!(((Qq l0 B).f0)==((Qq l1 B).f0))||(!(((Qq l0 B).f1)==((Qq l1 B).f1))))=false:=by simpa using c8
         (try(have c8s0:=c8b0;simp only[beq_self_eq_true,bne_self_eq_false,Bool.not_true,Bool.not_false,Bool.true_and,Bool.and_true,Bool.false_or,Bool.or_false] at c8s0))
         clear c8
         have H':=Aside0.mk H
         clear H
         have D:0≤(B:Int):=of_decide_eq_true (by first|(with_reducible assumption)|assumption)
         have I:B<(l0.length:Int):=of_decide_eq_true (by first|(with_reducible assumption)|assumption)
         obtain⟨κ,O,γ,η⟩:=Xa μ.out B D I
         cases O
         replace D:=eq_true D
         replace I:=eq_true I
         have J:0≤(B:Int):=of_decide_eq_true (by first|(with_reducible assumption)|assumption)
         have L:B<(l1.length:Int):=of_decide_eq_true (by first|(with_reducible assumption)|assumption)
         obtain⟨ν,U,θ,ι⟩:=Xa ε.out B J L
         cases U
         replace J:=eq_true J
         replace L:=eq_true L
         go_wp2
         repeat(go_quiet (fail);try go_wp2)
         go_roundg k1
         case measure=>have:=σ.out;omega
         case rel=>exact⟨(wrap64 (B+1)),qR,H',⟨by have:=σ.out;omega⟩,by repeat(first|exact Drawn0.refl _|apply Drawn0.step)⟩
       ·rw[if_neg c7] at H
        exact absurd H (by simp)
      ·rw[if_neg c6] at H
       exact absurd H (by simp)
     ·rw[if_neg c5] at H
      exact absurd H (by simp)
    ·rw[if_neg c4] at H
     have c4b0:decide (B<(l0.length:Int))=false:=decide_eq_false c4
     clear c4
     obtain rfl:=Option.some.inj H
     go_wp2
     repeat(go_quiet (fail);try go_wp2)
     go_ret
     exact⟨qR,by repeat(first|exact Drawn0.refl _|apply Drawn0.step)⟩
 ·rw[if_neg c3] at H
  have c3b0:((l0.length:Int)==(l1.length:Int))=false:=beq_eq_false_iff_ne.mpr c3
  have c3b1:((l0.length:Int) != (l1.length:Int))=true:=bne_iff_ne.mpr c3
  have c3b2:(l0.length==l1.length)=false:=by first|simpa using c3|(simp at c3 ⊢;omega)
  obtain rfl:=Option.some.inj H
  go_enter Try.func49,Try.ntmps49
  go_wp2
  repeat(go_quiet (fail);try go_wp2)
  go_ret
  exact⟨qR,by repeat(first|exact Drawn0.refl _|apply Drawn0.step)⟩
end Go.Proofs.Ytjehhhlhalkieaa.C
namespace Go.Proofs.Ytjehhhlhalkieaa.C
open Go.RowKit Go.Proofs.YtjehhhlhalkieaaW.PrintWords Go.Proofs.YtjehhhlhalkieaaW.PrintLast Go.Proofs.YtjehhhlhalkieaaW.PrintMore
attribute [local go_sem] Zk Zi Zt Zs Zd Zc Zj Zh
set_option linter.unusedVariables false
set_option linter.unusedSimpArgs false
def call_Same.f (k:Nat) (I:List (S56)) (J:List (S62)) (B:List (S56)) (D:List (S62)):Option (Bool):=(api_Hall.f k I B).bind fun κ =>(if κ = true then ((api_Inside.f k J D).bind fun al=>(some al)) else (some false))
theorem call_Same.mono:∀ I D a2 a3 k,LeO (call_Same.f k I D a2 a3) (call_Same.f (k+1) I D a2 a3):=by
 intro I D a2 a3 k
 unfold call_Same.f
 repeat' first
   |(with_reducible exact api_Hall.mono _ _ _)
   |(with_reducible exact api_Inside.mono _ _ _)
   |(with_reducible exact LeO.refl _)
   |(with_reducible exact LeO.none _)
   |(with_reducible refine LeO.ite ?_ ?_)
   |(with_reducible refine LeO.bind ?_ (fun _=>?_))
   |exact api_Hall.mono _ _ _
   |exact api_Inside.mono _ _ _
   |exact LeO.none _
   |refine LeO.ite ?_ ?_
   |refine LeO.bind ?_ (fun _=>?_)
set_option maxHeartbeats 8000000 in
set_option maxRecDepth 100000 in
theorem call_Same.calls (k:Nat) (η :Option Addr) (ζ :Nat) (I:List (S56)) (δ :Option Addr) (μ :Nat) (J:List (S62)) (Z:Option Addr) (U:Nat) (B:List (S56)) (γ:Option Addr) (X:Nat) (D:List (S62)) (r:Bool) (w:World) (a2:Kd.C k56 w η I.length I) (a5:I.length ≤ ζ) (χ :Kd.C k62 w δ J.length J) (a1:J.length ≤ μ) (b5:Kd.C k56 w Z B.length B) (b6:B.length≤U) (b7:Kd.C k62 w γ D.length D) (b8:D.length≤X) (h:call_Same.f k I J B D=some r):
  Calls Try.prog 27 #[.agg #[.slice η I.length ζ,.slice δ J.length μ],.agg #[.slice Z B.length U,.slice γ D.length X]] w fun e w'=>e = .returned (.bool r)∧Below w.heap.size w w':=by
 have db:=Try.underlying27
 have ψ :=Aside0.mk a2
 have af:=Aside0.mk a5
 clear a2 a5
 have bl:=Aside0.mk χ
 have cm:=Aside0.mk a1
 clear χ a1
 have ag:=Aside0.mk b5
 have ar:=Aside0.mk b6
 clear b5 b6
 have ah:=Aside0.mk b7
 have aw:=Aside0.mk b8
 clear b7 b8
 have HB:=Aside0.mk (Below.refl w.heap.size w)
 have H:((api_Hall.f k I B).bind fun κ =>(if κ = true then ((api_Inside.f k J D).bind fun al=>(some al)) else (some false)))=some r:=h
 clear h
 replace H:=Option.bind_eq_some_iff.mp H
 obtain⟨κ,ai,H⟩:=H
 replace H:(if κ = true then ((api_Inside.f k J D).bind fun al=>(some al)) else (some false))=some r:=H
 have A3:=Aside0.mk ai
 clear ai
 by_cases c4: κ = true
 ·subst c4
  have H1:((api_Inside.f k J D).bind fun al=>(some al))=some r:=by rw[if_pos rfl] at H;exact H
  clear H
  have H:=H1
  clear H1
  replace H:=Option.bind_eq_some_iff.mp H
  obtain⟨al,cf,H⟩:=H
  replace H:(some al)=some r:=H
  have A5:=Aside0.mk cf
  clear cf
  obtain rfl:=Option.some.inj H
  go_enter Try.func27,Try.ntmps27
  go_wp2_with (first|((with_reducible refine Qt (N:=2) rfl ?_);refine Qp ?hg (N:=2) ?hd (cs:=#[.slice η I.length ζ,.slice δ J.length μ]) (t:=27) ?hr ?_;(case hd=>rfl);(case hg=>rfl);(case hr=>go_simp <;> rfl);intro θ hg w6 hbox hb;have L:=Aside0.mk hbox;have ν :=sGe hg;have ξ :=sGe hg;replace HB:=sHb hb;clear hb hbox hg)|((with_reducible refine Qt (N:=3) rfl ?_);refine Qp ?hg (N:=3) ?hd (cs:=#[.slice Z B.length U,.slice γ D.length X]) (t:=27) ?hr ?_;(case hd=>rfl);(case hg=>rfl);(case hr=>go_simp <;> rfl);intro ι hg w7 hbox hb;have O:=Aside0.mk hbox;have ρ:=sGe hg;have σ:=sGe hg;have Y:=sNl L hg;have ε :=sNg L hg;replace L:=sBk L hb;replace HB:=sHb hb;clear hb hbox hg;have bn:=Y.out;have bq:= ε.out;have bd:w7.cell? ⟨θ,0,none⟩=some (.slice η I.length ζ):=(Qa L.out 0).trans rfl;have bg:w7.cell? ⟨θ,1,none⟩=some (.slice δ J.length μ):=(Qa L.out 1).trans rfl;have bh:=Qb L.out 0;have bi:=Qb L.out 1;have a7:w7.cell? ⟨ι,0,none⟩=some (.slice Z B.length U):=(Qa O.out 0).trans rfl;have ak:w7.cell? ⟨ι,1,none⟩=some (.slice γ D.length X):=(Qa O.out 1).trans rfl;have au:=Qb O.out 0;have bj:=Qb O.out 1)|((with_reducible refine Q2 (f:=48) rfl ?_);refine Zq (some 9) rfl rfl Try.func48 kr rfl #[.slice η I.length ζ,.slice Z B.length U] rfl (by simp only[List.map_toArray,List.map_cons,List.map_nil] <;> rfl) ?_;(with_reducible refine(api_Hall.calls k _ _ I _ _ B true _ ?side1 ?side2 ?side3 ?side4 A3.out).mono ?_);(case side1=>repeat(first|exact(Kd.Qz ψ.out HB.out)|(with_reducible refine Kd.Za ?_ _)|(with_reducible refine Kd.Q9 ?_ _)|(with_reducible refine Kd.Zl ?_)));(case side2=>exact af.out);(case side3=>repeat(first|exact(Kd.Qz ag.out HB.out)|(with_reducible refine Kd.Za ?_ _)|(with_reducible refine Kd.Q9 ?_ _)|(with_reducible refine Kd.Zl ?_)));(case side4=>exact ar.out);rintro e w' ⟨rfl,⟨nd,rfl⟩⟩;refine⟨_,rfl, ?_⟩)|(go_at_call 49;(with_reducible refine(api_Inside.calls k _ _ J _ _ D al _ ?side1 ?side2 ?side3 ?side4 A5.out).mono ?_);(case side1=>repeat(first|exact(Kd.Qz bl.out bel)|(with_reducible refine Kd.Za ?_ _)|(with_reducible refine Kd.Q9 ?_ _)|(with_reducible refine Kd.Zl ?_)));(case side2=>exact cm.out);(case side3=>repeat(first|exact(Kd.Qz ah.out bel)|(with_reducible refine Kd.Za ?_ _)|(with_reducible refine Kd.Q9 ?_ _)|(with_reducible refine Kd.Zl ?_)));(case side4=>exact aw.out);rintro e w' ⟨rfl,⟨nd,rfl⟩⟩))
  go_ret
  exact⟨by first|rfl|(simp[Q1,Q0] <;> rfl)|(simp[*,Q1,Q0] <;> rfl),bel⟩
 ·replace c4:=Bool.eq_false_iff.mpr c4
  subst c4
  have H1:(some false)=some r:=by rw[if_neg (show ¬ (false=true) by decide)] at H;exact H
  clear H
  have H:=H1
  clear H1
  obtain rfl:=Option.some.inj H
  go_enter Try.func27,Try.ntmps27
  go_wp2_with (first|((with_reducible refine Qt (N:=2) rfl ?_);refine Qp ?hg (N:=2) ?hd (cs:=#[.slice η I.length ζ,.slice δ J.length μ]) (t:=27) ?hr ?_;(case hd=>rfl);(case hg=>rfl);(case hr=>go_simp <;> rfl);intro θ hg bw hbox hb;have L:=Aside0.mk hbox;have ν :=sGe hg;have ξ :=sGe hg;replace HB:=sHb hb;clear hb hbox hg)|((with_reducible refine Qt (N:=3) rfl ?_);refine Qp ?hg (N:=3) ?hd (cs:=#[.slice Z B.length U,.slice γ D.length X]) (t:=27) ?hr ?_;(case hd=>rfl);(case hg=>rfl);(case hr=>go_simp <;> rfl);intro ι hg cp hbox hb;have O:=Aside0.mk hbox;have ρ:=sGe hg;have σ:=sGe hg;have Y:=sNl L hg;have ε :=sNg L hg;replace L:=sBk L hb;replace HB:=sHb hb;clear hb hbox hg;have cb:=Y.out;have cg:= ε.out;have ae:cp.cell? ⟨θ,0,none⟩=some (.slice η I.length ζ):=(Qa L.out 0).trans rfl;have aj:cp.cell? ⟨θ,1,none⟩=some (.slice δ J.length μ):=(Qa L.out 1).trans rfl;have av:=Qb L.out 0;have ax:=Qb L.out 1;have cq:cp.cell? ⟨ι,0,none⟩=some (.slice Z B.length U):=(Qa O.out 0).trans rfl;have cr:cp.cell? ⟨ι,1,none⟩=some (.slice γ D.length X):=(Qa O.out 1).trans rfl;have ct:=Qb O.out 0;have cu:=Qb O.out 1)|((with_reducible refine Q2 (f:=48) rfl ?_);refine Zq (some 9) rfl rfl Try.func48 kr rfl #[.slice η I.length ζ,.slice Z B.length U] rfl (by simp only[List.map_toArray,List.map_cons,List.map_nil] <;> rfl) ?_;(with_reducible refine(api_Hall.calls k _ _ I _ _ B false _ ?side1 ?side2 ?side3 ?side4 A3.out).mono ?_);(case side1=>exact(Kd.Qz ψ.out HB.out));(case side2=>exact af.out);(case side3=>exact(Kd.Qz ag.out HB.out));(case side4=>exact ar.out);rintro e w' ⟨rfl,⟨nd,rfl⟩⟩;refine⟨_,rfl, ?_⟩))
  go_ret
  exact⟨by first|rfl|(simp[Q1,Q0] <;> rfl)|(simp[*,Q1,Q0] <;> rfl),bel⟩
end Go.Proofs.Ytjehhhlhalkieaa.C
namespace Go.Proofs.Ytjehhhlhalkieaa.C
open Go.RowKit Go.Proofs.YtjehhhlhalkieaaW.PrintWords Go.Proofs.YtjehhhlhalkieaaW.PrintLast Go.Proofs.YtjehhhlhalkieaaW.PrintMore
attribute [local go_sem] Zk Zi Zt Zs Zd Zc Zj Zh
set_option linter.unusedVariables false
set_option linter.unusedSimpArgs false
def newelref19_Hall.j0:Nat→Bool→Int→Int→Int→Int→Int→Option (Bool)
 |0,_,_,_,_,_,_=>none
 |k+1,O,D,J,B,I,L=>if O=true then (some false) else (if I=1 then (if B≥0 then (some (decide (B≤(wrap64 (D-2))))) else (some false)) else (if I=(-1) then (if B≥1 then (some (decide (B≤(wrap64 (D-1))))) else (some false)) else (some false)))
def newelref19_Hall.f (k:Nat) (I:Int) (J:Int) (D:Int) (O:Int) (U:Int):Option (Bool):=if U<(-1) then (newelref19_Hall.j0 k true I J D O U) else (newelref19_Hall.j0 k (decide (U≥J)) I J D O U)
theorem newelref19_Hall.Zo:∀ k,(∀ D I O J L X,LeO (newelref19_Hall.j0 k D I O J L X) (newelref19_Hall.j0 (k+1) D I O J L X))
 |0=>fun _ _ _ _ _ _ r h=>by simp[newelref19_Hall.j0] at h
 |k+1=>by
  have B:=newelref19_Hall.Zo k
  ·intro D I O J L X
   unfold newelref19_Hall.j0
   repeat' first
   |(with_reducible exact B _ _ _ _ _ _)
   |(with_reducible exact LeO.refl _)
   |(with_reducible exact LeO.none _)
   |(with_reducible refine LeO.ite ?_ ?_)
   |(with_reducible refine LeO.bind ?_ (fun _=>?_))
   |exact B _ _ _ _ _ _
   |exact LeO.none _
   |refine LeO.ite ?_ ?_
   |refine LeO.bind ?_ (fun _=>?_)
theorem newelref19_Hall.mono:∀ I D a2 a3 J k,LeO (newelref19_Hall.f k I D a2 a3 J) (newelref19_Hall.f (k+1) I D a2 a3 J):=by
 intro I D a2 a3 J k
 have B:=newelref19_Hall.Zo k
 unfold newelref19_Hall.f
 repeat' first
   |(with_reducible exact B _ _ _ _ _ _)
   |(with_reducible exact LeO.refl _)
   |(with_reducible exact LeO.none _)
   |(with_reducible refine LeO.ite ?_ ?_)
   |(with_reducible refine LeO.bind ?_ (fun _=>?_))
   |exact B _ _ _ _ _ _
   |exact LeO.none _
   |refine LeO.ite ?_ ?_
   |refine LeO.bind ?_ (fun _=>?_)
set_option maxHeartbeats 8000000 in
set_option maxRecDepth 100000 in
theorem newelref19_Hall.calls (k:Nat) (I:Int) (J:Int) (D:Int) (O:Int) (U:Int) (r:Bool) (w:World) (h:newelref19_Hall.f k I J D O U=some r):
  Calls Try.prog 25 #[.agg #[.int .i64 I,.int .i64 J],.agg #[.int .i64 D,.int .i64 O,.int .i64 U]] w fun e w'=>e = .returned (.bool r)∧Below w.heap.size w w':=by
 have dx:=Try.underlying23
 have bu:=Try.underlying56
 have HB:=Aside0.mk (Below.refl w.heap.size w)
 have H:(if U<(-1) then (newelref19_Hall.j0 k true I J D O U) else (newelref19_Hall.j0 k (decide (U≥J)) I J D O U))=some r:=h
 clear h
 have br:=Aside0.mk H
 clear H
 go_enter Try.func25,Try.ntmps25
 go_upto_region 1 with(first|((with_reducible refine Qt (N:=2) rfl ?_);refine Qp ?hg (N:=2) ?hd (cs:=#[.int .i64 I,.int .i64 J]) (t:=23) ?hr ?_;(case hd=>rfl);(case hg=>rfl);(case hr=>go_simp <;> rfl);intro γ hg w4 hbox hb;have X:=Aside0.mk hbox;have κ :=sGe hg;have ξ :=sGe hg;replace HB:=sHb hb;clear hb hbox hg)|((with_reducible refine Qt (N:=3) rfl ?_);refine Qp ?hg (N:=3) ?hd (cs:=#[.int .i64 D,.int .i64 O,.int .i64 U]) (t:=56) ?hr ?_;(case hd=>rfl);(case hg=>rfl);(case hr=>go_simp <;> rfl);intro L hg w5 hbox hb;have B:=Aside0.mk hbox;have ρ:=sGe hg;have σ:=sGe hg;have Y:=sNl X hg;have Z:=sNg X hg;replace X:=sBk X hb;replace HB:=sHb hb;clear hb hbox hg))
 (try simp only[Act.put,qS])
 go_cut [14] (fun ι wc=>∃ (kq:Nat) (δ :Bool),ι = .bool δ ∧ Aside0 (newelref19_Hall.j0 kq δ I J D O U=some r)∧Aside0 (kq≤k)∧Aside0 (wc.heap[γ]?=some (.cells #[.int .i64 I,.int .i64 J] 23 (0,0)))∧Aside0 (wc.heap[L]?=some (.cells #[.int .i64 D,.int .i64 O,.int .i64 U] 56 (0,0)))∧Aside0 (Below w.heap.size w wc))
 case first=>
  have H:=br.out
  clear br
  by_cases c6:U<(-1)
  ·rw[if_pos c6] at H
   have c6b0:decide (U<(-1))=true:=decide_eq_true c6
   clear c6
   (first|rw[c6b0]|(simp only[X5,Ys];rw[c6b0])|skip)
   have H':=Aside0.mk H
   clear H
   have dm:=Z.out
   have dn:=Y.out
   have am:w5.cell? ⟨L,0,none⟩=some (.int .i64 D):=(Qa B.out 0).trans rfl
   have an:w5.cell? ⟨L,1,none⟩=some (.int .i64 O):=(Qa B.out 1).trans rfl
   have μ :w5.cell? ⟨L,2,none⟩=some (.int .i64 U):=(Qa B.out 2).trans rfl
   have ao:=Qb B.out 0
   have ap:=Qb B.out 1
   have ν :=Qb B.out 2
   go_wp2
   go_meet
   case rel=>exact⟨_,(true),rfl,H',⟨by first|omega|exact Nat.le_refl _⟩,X,B,HB⟩
  ·rw[if_neg c6] at H
   have c6b0:decide (U<(-1))=false:=decide_eq_false c6
   clear c6
   (first|rw[c6b0]|(simp only[X5,Ys];rw[c6b0])|skip)
   have H':=Aside0.mk H
   clear H
   have gk:=Z.out
   have gq:=Y.out
   have a7:w5.cell? ⟨L,0,none⟩=some (.int .i64 D):=(Qa B.out 0).trans rfl
   have ak:w5.cell? ⟨L,1,none⟩=some (.int .i64 O):=(Qa B.out 1).trans rfl
   have b5:w5.cell? ⟨L,2,none⟩=some (.int .i64 U):=(Qa B.out 2).trans rfl
   have au:=Qb B.out 0
   have bj:=Qb B.out 1
   have b6:=Qb B.out 2
   have ab:w5.cell? ⟨γ,0,none⟩=some (.int .i64 I):=(Qa X.out 0).trans rfl
   have ac:w5.cell? ⟨γ,1,none⟩=some (.int .i64 J):=(Qa X.out 1).trans rfl
   have ae:=Qb X.out 0
   have aj:=Qb X.out 1
   go_wp2
   go_meet
   case rel=>exact⟨_,(decide (U≥J)),rfl,H',⟨by first|omega|exact Nat.le_refl _⟩,X,B,HB⟩
 case rest=>
  clear br
  try clear c2
  try clear p2
  try clear c6
  try clear c6b0
  try clear c7
  try clear c9
  try clear a7
  try clear ak
  try clear b5
  try clear ab
  try clear ac
  try clear am
  try clear an
  try clear μ
  try clear au
  try clear bj
  try clear b6
  try clear ae
  try clear aj
  try clear ao
  try clear ap
  try clear ν
  obtain⟨kq,δ,rfl,HA,cz,X,B,HB⟩:=hcut
  cases kq with
  |zero=>exact absurd HA.out (by simp[newelref19_Hall.j0])
  |succ d9=>
   have H:=HA.out
   clear HA
   simp only[newelref19_Hall.j0] at H
   by_cases cj: δ = true
   ·subst cj
    have H1:(some false)=some r:=by rw[if_pos rfl] at H;exact H
    clear H
    have H:=H1
    clear H1
    obtain rfl:=Option.some.inj H
    go_wp2
    go_ret
    exact⟨rfl,HB.out⟩
   ·replace cj:=Bool.eq_false_iff.mpr cj
    subst cj
    have H1:(if O=1 then (if D≥0 then (some (decide (D≤(wrap64 (I-2))))) else (some false)) else (if O=(-1) then (if D≥1 then (some (decide (D≤(wrap64 (I-1))))) else (some false)) else (some false)))=some r:=by rw[if_neg (show ¬ (false=true) by decide)] at H;exact H
    clear H
    have H:=H1
    clear H1
    by_cases bc:O=1
    ·rw[if_pos bc] at H
     have c13b0:(O==1)=true:=beq_iff_eq.mpr bc
     have c13b1:(O != 1)=false:=bne_eq_false_iff_eq.mpr bc
     clear bc
     by_cases ay:D≥0
     ·rw[if_pos ay] at H
      have c14b0:decide (0≤D)=true:=decide_eq_true ay
      clear ay
      obtain rfl:=Option.some.inj H
      have iz:=Z.out
      have j2:=Y.out
      have jt:wc.cell? ⟨L,0,none⟩=some (.int .i64 D):=(Qa B.out 0).trans rfl
      have ju:wc.cell? ⟨L,1,none⟩=some (.int .i64 O):=(Qa B.out 1).trans rfl
      have ε :wc.cell? ⟨L,2,none⟩=some (.int .i64 U):=(Qa B.out 2).trans rfl
      have jv:=Qb B.out 0
      have jw:=Qb B.out 1
      have ζ :=Qb B.out 2
      have dq:wc.cell? ⟨γ,0,none⟩=some (.int .i64 I):=(Qa X.out 0).trans rfl
      have dr:wc.cell? ⟨γ,1,none⟩=some (.int .i64 J):=(Qa X.out 1).trans rfl
      have dt:=Qb X.out 0
      have du:=Qb X.out 1
      go_wp2
      go_ret
      exact⟨rfl,HB.out⟩
     ·rw[if_neg ay] at H
      have c14b0:decide (0≤D)=false:=decide_eq_false ay
      clear ay
      obtain rfl:=Option.some.inj H
      have ca:=Z.out
      have ce:=Y.out
      have b1:wc.cell? ⟨L,0,none⟩=some (.int .i64 D):=(Qa B.out 0).trans rfl
      have b2:wc.cell? ⟨L,1,none⟩=some (.int .i64 O):=(Qa B.out 1).trans rfl
      have cx:wc.cell? ⟨L,2,none⟩=some (.int .i64 U):=(Qa B.out 2).trans rfl
      have b3:=Qb B.out 0
      have b4:=Qb B.out 1
      have cy:=Qb B.out 2
      go_wp2
      go_ret
      exact⟨rfl,HB.out⟩
    ·rw[if_neg bc] at H
     have c13b0:(O==1)=false:=beq_eq_false_iff_ne.mpr bc
     have c13b1:(O != 1)=true:=bne_iff_ne.mpr bc
     by_cases bw:O=(-1)
     ·rw[if_pos bw] at H
      have c20b0:(O==(-1))=true:=beq_iff_eq.mpr bw
      have c20b1:(O != (-1))=false:=bne_eq_false_iff_eq.mpr bw
      clear bw
      by_cases cv:D≥1
      ·rw[if_pos cv] at H
       have c21b0:decide (1≤D)=true:=decide_eq_true cv
       clear cv
       obtain rfl:=Option.some.inj H
       have gm:=Z.out
       have h0:=Y.out
       have ch:wc.cell? ⟨L,0,none⟩=some (.int .i64 D):=(Qa B.out 0).trans rfl
       have cn:wc.cell? ⟨L,1,none⟩=some (.int .i64 O):=(Qa B.out 1).trans rfl
       have dv:wc.cell? ⟨L,2,none⟩=some (.int .i64 U):=(Qa B.out 2).trans rfl
       have co:=Qb B.out 0
       have cp:=Qb B.out 1
       have dw:=Qb B.out 2
       have dc:wc.cell? ⟨γ,0,none⟩=some (.int .i64 I):=(Qa X.out 0).trans rfl
       have dd:wc.cell? ⟨γ,1,none⟩=some (.int .i64 J):=(Qa X.out 1).trans rfl
       have de:=Qb X.out 0
       have df:=Qb X.out 1
       go_wp2
       go_ret
       exact⟨rfl,HB.out⟩
      ·rw[if_neg cv] at H
       have c21b0:decide (1≤D)=false:=decide_eq_false cv
       clear cv
       obtain rfl:=Option.some.inj H
       have d7:=Z.out
       have d8:=Y.out
       have cq:wc.cell? ⟨L,0,none⟩=some (.int .i64 D):=(Qa B.out 0).trans rfl
       have cr:wc.cell? ⟨L,1,none⟩=some (.int .i64 O):=(Qa B.out 1).trans rfl
       have η :wc.cell? ⟨L,2,none⟩=some (.int .i64 U):=(Qa B.out 2).trans rfl
       have ct:=Qb B.out 0
       have cu:=Qb B.out 1
       have θ :=Qb B.out 2
       go_wp2
       go_ret
       exact⟨rfl,HB.out⟩
     ·rw[if_neg bw] at H
      have c20b0:(O==(-1))=false:=beq_eq_false_iff_ne.mpr bw
      have c20b1:(O != (-1))=true:=bne_iff_ne.mpr bw
      obtain rfl:=Option.some.inj H
      have di:=Z.out
      have dj:=Y.out
      have d0:wc.cell? ⟨L,0,none⟩=some (.int .i64 D):=(Qa B.out 0).trans rfl
      have d1:wc.cell? ⟨L,1,none⟩=some (.int .i64 O):=(Qa B.out 1).trans rfl
      have bz:wc.cell? ⟨L,2,none⟩=some (.int .i64 U):=(Qa B.out 2).trans rfl
      have d2:=Qb B.out 0
      have d3:=Qb B.out 1
      have cf:=Qb B.out 2
      go_wp2
      go_ret
      exact⟨rfl,HB.out⟩
end Go.Proofs.Ytjehhhlhalkieaa.C
namespace Go.Proofs.Ytjehhhlhalkieaa.C
open Go.RowKit Go.Proofs.YtjehhhlhalkieaaW.PrintWords Go.Proofs.YtjehhhlhalkieaaW.PrintLast Go.Proofs.YtjehhhlhalkieaaW.PrintMore
attribute [local go_sem] Zk Zi Zt Zs Zd Zc Zj Zh
set_option linter.unusedVariables false
set_option linter.unusedSimpArgs false
def newelref19_House.f (I:Int) (J:Int):Option (Bool):=if I≥2 then (if I≤64 then (if J≥1 then (some (decide (J≤8))) else (some false)) else (some false)) else (some false)
set_option maxHeartbeats 8000000 in
set_option maxRecDepth 100000 in
theorem newelref19_House.calls (I:Int) (J:Int) (r:Bool) (w:World) (h:newelref19_House.f I J=some r):
  Calls Try.prog 37 #[.agg #[.int .i64 I,.int .i64 J]] w fun e w'=>e = .returned (.bool r)∧Below w.heap.size w w':=by
 have dx:=Try.underlying23
 have HB:=Aside0.mk (Below.refl w.heap.size w)
 have H:(if I≥2 then (if I≤64 then (if J≥1 then (some (decide (J≤8))) else (some false)) else (some false)) else (some false))=some r:=h
 clear h
 by_cases c2:I≥2
 ·rw[if_pos c2] at H
  have c2b0:decide (2≤I)=true:=decide_eq_true c2
  clear c2
  by_cases c3:I≤64
  ·rw[if_pos c3] at H
   have c3b0:decide (I≤64)=true:=decide_eq_true c3
   clear c3
   by_cases c4:J≥1
   ·rw[if_pos c4] at H
    have c4b0:decide (1≤J)=true:=decide_eq_true c4
    clear c4
    obtain rfl:=Option.some.inj H
    go_enter Try.func37,Try.ntmps37
    go_wp2_with (first|((with_reducible refine Qt (N:=1) rfl ?_);refine Qp ?hg (N:=1) ?hd (cs:=#[.int .i64 I,.int .i64 J]) (t:=23) ?hr ?_;(case hd=>rfl);(case hg=>rfl);(case hr=>first|(go_simp;done)|(go_simp;rfl));intro B hg w5 hbox hb;have ε :=Aside0.mk (Qv (by repeat(first|(with_reducible first|exact HB.out|apply Qj|apply Qd|apply Qh)|exact HB.out)) hb);have θ :=Aside0.mk (hbox);have ι :=Aside0.mk ((by rw[hg];exact(Qk (by repeat(first|(with_reducible first|exact HB.out|apply Qj|apply Qd|apply Qh)|exact HB.out))):w.heap.size≤B));have κ :=Aside0.mk ((by rw[hg];exact(Qk (by repeat(first|(with_reducible first|exact HB.out|apply Qj|apply Qd|apply Qh)|exact HB.out))):w.heap.size≤B));clear HB;have HB:= ε;have D:= θ;have O:= ι;have L:= κ;clear ε θ ι κ;clear hb hbox hg;have U:w5.cell? ⟨B,0,none⟩=some (.int .i64 I):=(Qa D.out 0).trans rfl;have X:w5.cell? ⟨B,1,none⟩=some (.int .i64 J):=(Qa D.out 1).trans rfl;have Z:=Qb D.out 0;have γ:=Qb D.out 1))
    go_ret
    exact⟨by first|rfl|(simp[Q1,Q0] <;> rfl)|(simp[*,Q1,Q0] <;> rfl),by repeat(first|(with_reducible first|exact HB.out|apply Qj|apply Qd|apply Qh|refine Qe ?_ L.out)|exact HB.out)⟩
   ·rw[if_neg c4] at H
    have c4b0:decide (1≤J)=false:=decide_eq_false c4
    clear c4
    obtain rfl:=Option.some.inj H
    go_enter Try.func37,Try.ntmps37
    go_wp2_with (first|((with_reducible refine Qt (N:=1) rfl ?_);refine Qp ?hg (N:=1) ?hd (cs:=#[.int .i64 I,.int .i64 J]) (t:=23) ?hr ?_;(case hd=>rfl);(case hg=>rfl);(case hr=>first|(go_simp;done)|(go_simp;rfl));intro B hg w7 hbox hb;have ε :=Aside0.mk (Qv (by repeat(first|(with_reducible first|exact HB.out|apply Qj|apply Qd|apply Qh)|exact HB.out)) hb);have θ :=Aside0.mk (hbox);have ι :=Aside0.mk ((by rw[hg];exact(Qk (by repeat(first|(with_reducible first|exact HB.out|apply Qj|apply Qd|apply Qh)|exact HB.out))):w.heap.size≤B));have κ :=Aside0.mk ((by rw[hg];exact(Qk (by repeat(first|(with_reducible first|exact HB.out|apply Qj|apply Qd|apply Qh)|exact HB.out))):w.heap.size≤B));clear HB;have HB:= ε;have D:= θ;have O:= ι;have L:= κ;clear ε θ ι κ;clear hb hbox hg;have am:w7.cell? ⟨B,0,none⟩=some (.int .i64 I):=(Qa D.out 0).trans rfl;have an:w7.cell? ⟨B,1,none⟩=some (.int .i64 J):=(Qa D.out 1).trans rfl;have ao:=Qb D.out 0;have ap:=Qb D.out 1))
    go_ret
    exact⟨by first|rfl|(simp[Q1,Q0] <;> rfl)|(simp[*,Q1,Q0] <;> rfl),by repeat(first|(with_reducible first|exact HB.out|apply Qj|apply Qd|apply Qh|refine Qe ?_ L.out)|exact HB.out)⟩
  ·rw[if_neg c3] at H
   have c3b0:decide (I≤64)=false:=decide_eq_false c3
   clear c3
   obtain rfl:=Option.some.inj H
   go_enter Try.func37,Try.ntmps37
   go_wp2_with (first|((with_reducible refine Qt (N:=1) rfl ?_);refine Qp ?hg (N:=1) ?hd (cs:=#[.int .i64 I,.int .i64 J]) (t:=23) ?hr ?_;(case hd=>rfl);(case hg=>rfl);(case hr=>first|(go_simp;done)|(go_simp;rfl));intro B hg w9 hbox hb;have ε :=Aside0.mk (Qv (by repeat(first|(with_reducible first|exact HB.out|apply Qj|apply Qd|apply Qh)|exact HB.out)) hb);have θ :=Aside0.mk (hbox);have ι :=Aside0.mk ((by rw[hg];exact(Qk (by repeat(first|(with_reducible first|exact HB.out|apply Qj|apply Qd|apply Qh)|exact HB.out))):w.heap.size≤B));have κ :=Aside0.mk ((by rw[hg];exact(Qk (by repeat(first|(with_reducible first|exact HB.out|apply Qj|apply Qd|apply Qh)|exact HB.out))):w.heap.size≤B));clear HB;have HB:= ε;have D:= θ;have O:= ι;have L:= κ;clear ε θ ι κ;clear hb hbox hg;have a7:w9.cell? ⟨B,0,none⟩=some (.int .i64 I):=(Qa D.out 0).trans rfl;have ak:w9.cell? ⟨B,1,none⟩=some (.int .i64 J):=(Qa D.out 1).trans rfl;have au:=Qb D.out 0;have bj:=Qb D.out 1))
   go_ret
   exact⟨by first|rfl|(simp[Q1,Q0] <;> rfl)|(simp[*,Q1,Q0] <;> rfl),by repeat(first|(with_reducible first|exact HB.out|apply Qj|apply Qd|apply Qh|refine Qe ?_ L.out)|exact HB.out)⟩
 ·rw[if_neg c2] at H
  have c2b0:decide (2≤I)=false:=decide_eq_false c2
  clear c2
  obtain rfl:=Option.some.inj H
  go_enter Try.func37,Try.ntmps37
  go_wp2_with (first|((with_reducible refine Qt (N:=1) rfl ?_);refine Qp ?hg (N:=1) ?hd (cs:=#[.int .i64 I,.int .i64 J]) (t:=23) ?hr ?_;(case hd=>rfl);(case hg=>rfl);(case hr=>first|(go_simp;done)|(go_simp;rfl));intro B hg bw hbox hb;have ε :=Aside0.mk (Qv (by repeat(first|(with_reducible first|exact HB.out|apply Qj|apply Qd|apply Qh)|exact HB.out)) hb);have θ :=Aside0.mk (hbox);have ι :=Aside0.mk ((by rw[hg];exact(Qk (by repeat(first|(with_reducible first|exact HB.out|apply Qj|apply Qd|apply Qh)|exact HB.out))):w.heap.size≤B));have κ :=Aside0.mk ((by rw[hg];exact(Qk (by repeat(first|(with_reducible first|exact HB.out|apply Qj|apply Qd|apply Qh)|exact HB.out))):w.heap.size≤B));clear HB;have HB:= ε;have D:= θ;have O:= ι;have L:= κ;clear ε θ ι κ;clear hb hbox hg;have av:bw.cell? ⟨B,0,none⟩=some (.int .i64 I):=(Qa D.out 0).trans rfl;have ax:bw.cell? ⟨B,1,none⟩=some (.int .i64 J):=(Qa D.out 1).trans rfl;have az:=Qb D.out 0;have b0:=Qb D.out 1))
  go_ret
  exact⟨by first|rfl|(simp[Q1,Q0] <;> rfl)|(simp[*,Q1,Q0] <;> rfl),by repeat(first|(with_reducible first|exact HB.out|apply Qj|apply Qd|apply Qh|refine Qe ?_ L.out)|exact HB.out)⟩
end Go.Proofs.Ytjehhhlhalkieaa.C
namespace Go.Proofs.Ytjehhhlhalkieaa.C
open Go.RowKit Go.Proofs.YtjehhhlhalkieaaW.PrintWords Go.Proofs.YtjehhhlhalkieaaW.PrintLast Go.Proofs.YtjehhhlhalkieaaW.PrintMore
attribute [local go_sem] Zk Zi Zt Zs Zd Zc Zj Zh
set_option linter.unusedVariables false
set_option linter.unusedSimpArgs false
def newelref19_ahead.f (I:Int) (J:Int) (L:Int) (D:Int) (O:Int) (U:Int):Option (Bool):=if I<D then (some true) else (if I=D then (some (decide (J<O))) else (some false))
set_option maxHeartbeats 8000000 in
set_option maxRecDepth 100000 in
theorem newelref19_ahead.calls (I:Int) (J:Int) (L:Int) (D:Int) (O:Int) (U:Int) (r:Bool) (w:World) (h:newelref19_ahead.f I J L D O U=some r):
  Calls Try.prog 38 #[.agg #[.int .i64 I,.int .i64 J,.int .i64 L],.agg #[.int .i64 D,.int .i64 O,.int .i64 U]] w fun e w'=>e = .returned (.bool r)∧Below w.heap.size w w':=by
 have bu:=Try.underlying56
 have HB:=Aside0.mk (Below.refl w.heap.size w)
 have H:(if I<D then (some true) else (if I=D then (some (decide (J<O))) else (some false)))=some r:=h
 clear h
 by_cases c3:I<D
 ·rw[if_pos c3] at H
  have c3b0:decide (I<D)=true:=decide_eq_true c3
  clear c3
  obtain rfl:=Option.some.inj H
  go_enter Try.func38,Try.ntmps38
  go_wp2_with (first|((with_reducible refine Qt (N:=2) rfl ?_);refine Qp ?hg (N:=2) ?hd (cs:=#[.int .i64 I,.int .i64 J,.int .i64 L]) (t:=56) ?hr ?_;(case hd=>rfl);(case hg=>rfl);(case hr=>first|(go_simp;done)|(go_simp;rfl));intro X hg w4 hbox hb;have ε :=Aside0.mk (Qv (by repeat(first|(with_reducible first|exact HB.out|apply Qj|apply Qd|apply Qh)|exact HB.out)) hb);have θ :=Aside0.mk (hbox);have ι :=Aside0.mk ((by rw[hg];exact(Qk (by repeat(first|(with_reducible first|exact HB.out|apply Qj|apply Qd|apply Qh)|exact HB.out))):w.heap.size≤X));have κ :=Aside0.mk ((by rw[hg];exact(Qk (by repeat(first|(with_reducible first|exact HB.out|apply Qj|apply Qd|apply Qh)|exact HB.out))):w.heap.size≤X));clear HB;have HB:= ε;have B:= θ;have ξ := ι;have γ:= κ;clear ε θ ι κ;clear hb hbox hg)|((with_reducible refine Qt (N:=3) rfl ?_);refine Qp ?hg (N:=3) ?hd (cs:=#[.int .i64 D,.int .i64 O,.int .i64 U]) (t:=56) ?hr ?_;(case hd=>rfl);(case hg=>rfl);(case hr=>first|(go_simp;done)|(go_simp;rfl));intro Y hg w5 hbox hb;have ε :=Aside0.mk (Qn (g:=X) (o:=.cells #[.int .i64 I,.int .i64 J,.int .i64 L] 56 (0,0)) (by(with_reducible repeat(first|refine Qf ?_ _|refine Qc ?_|refine Qg ?_ _));exact B.out) hb);have θ :=Aside0.mk (Qv (by repeat(first|(with_reducible first|exact HB.out|apply Qj|apply Qd|apply Qh|refine Qe ?_ γ.out)|exact HB.out)) hb);have ι :=Aside0.mk (hbox);have κ :=Aside0.mk ((by rw[hg];exact(Qk (by repeat(first|(with_reducible first|exact HB.out|apply Qj|apply Qd|apply Qh|refine Qe ?_ γ.out)|exact HB.out))):w.heap.size≤Y));have τ :=Aside0.mk ((by rw[hg];exact(Qk (by repeat(first|(with_reducible first|exact HB.out|apply Qj|apply Qd|apply Qh|refine Qe ?_ γ.out)|exact HB.out))):w.heap.size≤Y));have ψ :=Aside0.mk ((by rw[hg];exact Nat.ne_of_lt (Q5 (g:=X) (o:=.cells #[.int .i64 I,.int .i64 J,.int .i64 L] 56 (0,0)) (by(with_reducible repeat(first|refine Qf ?_ _|refine Qc ?_|refine Qg ?_ _));exact B.out)):X≠Y));have a1:=Aside0.mk ((by rw[hg];exact Nat.ne_of_gt (Q5 (g:=X) (o:=.cells #[.int .i64 I,.int .i64 J,.int .i64 L] 56 (0,0)) (by(with_reducible repeat(first|refine Qf ?_ _|refine Qc ?_|refine Qg ?_ _));exact B.out)):Y≠X));clear B;clear HB;have B:= ε;have HB:= θ;have Z:= ι;have ρ:= κ;have η := τ;have δ := ψ;have ζ :=a1;clear ε θ ι κ τ ψ a1;clear hb hbox hg;have cm:= δ.out;have cr:= ζ.out;have σ:w5.cell? ⟨X,0,none⟩=some (.int .i64 I):=(Qa B.out 0).trans rfl;have φ :w5.cell? ⟨X,1,none⟩=some (.int .i64 J):=(Qa B.out 1).trans rfl;have a3:w5.cell? ⟨X,2,none⟩=some (.int .i64 L):=(Qa B.out 2).trans rfl;have χ :=Qb B.out 0;have ω :=Qb B.out 1;have a4:=Qb B.out 2;have am:w5.cell? ⟨Y,0,none⟩=some (.int .i64 D):=(Qa Z.out 0).trans rfl;have an:w5.cell? ⟨Y,1,none⟩=some (.int .i64 O):=(Qa Z.out 1).trans rfl;have μ :w5.cell? ⟨Y,2,none⟩=some (.int .i64 U):=(Qa Z.out 2).trans rfl;have ao:=Qb Z.out 0;have ap:=Qb Z.out 1;have ν :=Qb Z.out 2))
  go_ret
  exact⟨by first|rfl|(simp[Q1,Q0] <;> rfl)|(simp[*,Q1,Q0] <;> rfl),by repeat(first|(with_reducible first|exact HB.out|apply Qj|apply Qd|apply Qh|refine Qe ?_ γ.out|refine Qe ?_ η.out)|exact HB.out)⟩
 ·rw[if_neg c3] at H
  have c3b0:decide (I<D)=false:=decide_eq_false c3
  clear c3
  by_cases c9:I=D
  ·rw[if_pos c9] at H
   have c9b0:(I==D)=true:=beq_iff_eq.mpr c9
   have c9b1:(I != D)=false:=bne_eq_false_iff_eq.mpr c9
   clear c9
   obtain rfl:=Option.some.inj H
   go_enter Try.func38,Try.ntmps38
   go_wp2_with (first|((with_reducible refine Qt (N:=2) rfl ?_);refine Qp ?hg (N:=2) ?hd (cs:=#[.int .i64 I,.int .i64 J,.int .i64 L]) (t:=56) ?hr ?_;(case hd=>rfl);(case hg=>rfl);(case hr=>first|(go_simp;done)|(go_simp;rfl));intro X hg ci hbox hb;have ε :=Aside0.mk (Qv (by repeat(first|(with_reducible first|exact HB.out|apply Qj|apply Qd|apply Qh)|exact HB.out)) hb);have θ :=Aside0.mk (hbox);have ι :=Aside0.mk ((by rw[hg];exact(Qk (by repeat(first|(with_reducible first|exact HB.out|apply Qj|apply Qd|apply Qh)|exact HB.out))):w.heap.size≤X));have κ :=Aside0.mk ((by rw[hg];exact(Qk (by repeat(first|(with_reducible first|exact HB.out|apply Qj|apply Qd|apply Qh)|exact HB.out))):w.heap.size≤X));clear HB;have HB:= ε;have B:= θ;have ξ := ι;have γ:= κ;clear ε θ ι κ;clear hb hbox hg)|((with_reducible refine Qt (N:=3) rfl ?_);refine Qp ?hg (N:=3) ?hd (cs:=#[.int .i64 D,.int .i64 O,.int .i64 U]) (t:=56) ?hr ?_;(case hd=>rfl);(case hg=>rfl);(case hr=>first|(go_simp;done)|(go_simp;rfl));intro Y hg bw hbox hb;have ε :=Aside0.mk (Qn (g:=X) (o:=.cells #[.int .i64 I,.int .i64 J,.int .i64 L] 56 (0,0)) (by(with_reducible repeat(first|refine Qf ?_ _|refine Qc ?_|refine Qg ?_ _));exact B.out) hb);have θ :=Aside0.mk (Qv (by repeat(first|(with_reducible first|exact HB.out|apply Qj|apply Qd|apply Qh|refine Qe ?_ γ.out)|exact HB.out)) hb);have ι :=Aside0.mk (hbox);have κ :=Aside0.mk ((by rw[hg];exact(Qk (by repeat(first|(with_reducible first|exact HB.out|apply Qj|apply Qd|apply Qh|refine Qe ?_ γ.out)|exact HB.out))):w.heap.size≤Y));have τ :=Aside0.mk ((by rw[hg];exact(Qk (by repeat(first|(with_reducible first|exact HB.out|apply Qj|apply Qd|apply Qh|refine Qe ?_ γ.out)|exact HB.out))):w.heap.size≤Y));have ψ :=Aside0.mk ((by rw[hg];exact Nat.ne_of_lt (Q5 (g:=X) (o:=.cells #[.int .i64 I,.int .i64 J,.int .i64 L] 56 (0,0)) (by(with_reducible repeat(first|refine Qf ?_ _|refine Qc ?_|refine Qg ?_ _));exact B.out)):X≠Y));have a1:=Aside0.mk ((by rw[hg];exact Nat.ne_of_gt (Q5 (g:=X) (o:=.cells #[.int .i64 I,.int .i64 J,.int .i64 L] 56 (0,0)) (by(with_reducible repeat(first|refine Qf ?_ _|refine Qc ?_|refine Qg ?_ _));exact B.out)):Y≠X));clear B;clear HB;have B:= ε;have HB:= θ;have Z:= ι;have ρ:= κ;have η := τ;have δ := ψ;have ζ :=a1;clear ε θ ι κ τ ψ a1;clear hb hbox hg;have ea:= δ.out;have eb:= ζ.out;have bq:bw.cell? ⟨X,0,none⟩=some (.int .i64 I):=(Qa B.out 0).trans rfl;have br:bw.cell? ⟨X,1,none⟩=some (.int .i64 J):=(Qa B.out 1).trans rfl;have a0:bw.cell? ⟨X,2,none⟩=some (.int .i64 L):=(Qa B.out 2).trans rfl;have bs:=Qb B.out 0;have ca:=Qb B.out 1;have a2:=Qb B.out 2;have ae:bw.cell? ⟨Y,0,none⟩=some (.int .i64 D):=(Qa Z.out 0).trans rfl;have aj:bw.cell? ⟨Y,1,none⟩=some (.int .i64 O):=(Qa Z.out 1).trans rfl;have d6:bw.cell? ⟨Y,2,none⟩=some (.int .i64 U):=(Qa Z.out 2).trans rfl;have av:=Qb Z.out 0;have ax:=Qb Z.out 1;have d8:=Qb Z.out 2))
   go_ret
   exact⟨by first|rfl|(simp[Q1,Q0] <;> rfl)|(simp[*,Q1,Q0] <;> rfl),by repeat(first|(with_reducible first|exact HB.out|apply Qj|apply Qd|apply Qh|refine Qe ?_ γ.out|refine Qe ?_ η.out)|exact HB.out)⟩
  ·rw[if_neg c9] at H
   have c9b0:(I==D)=false:=beq_eq_false_iff_ne.mpr c9
   have c9b1:(I != D)=true:=bne_iff_ne.mpr c9
   obtain rfl:=Option.some.inj H
   go_enter Try.func38,Try.ntmps38
   go_wp2_with (first|((with_reducible refine Qt (N:=2) rfl ?_);refine Qp ?hg (N:=2) ?hd (cs:=#[.int .i64 I,.int .i64 J,.int .i64 L]) (t:=56) ?hr ?_;(case hd=>rfl);(case hg=>rfl);(case hr=>first|(go_simp;done)|(go_simp;rfl));intro X hg cv hbox hb;have ε :=Aside0.mk (Qv (by repeat(first|(with_reducible first|exact HB.out|apply Qj|apply Qd|apply Qh)|exact HB.out)) hb);have θ :=Aside0.mk (hbox);have ι :=Aside0.mk ((by rw[hg];exact(Qk (by repeat(first|(with_reducible first|exact HB.out|apply Qj|apply Qd|apply Qh)|exact HB.out))):w.heap.size≤X));have κ :=Aside0.mk ((by rw[hg];exact(Qk (by repeat(first|(with_reducible first|exact HB.out|apply Qj|apply Qd|apply Qh)|exact HB.out))):w.heap.size≤X));clear HB;have HB:= ε;have B:= θ;have ξ := ι;have γ:= κ;clear ε θ ι κ;clear hb hbox hg)|((with_reducible refine Qt (N:=3) rfl ?_);refine Qp ?hg (N:=3) ?hd (cs:=#[.int .i64 D,.int .i64 O,.int .i64 U]) (t:=56) ?hr ?_;(case hd=>rfl);(case hg=>rfl);(case hr=>first|(go_simp;done)|(go_simp;rfl));intro Y hg aa hbox hb;have ε :=Aside0.mk (Qn (g:=X) (o:=.cells #[.int .i64 I,.int .i64 J,.int .i64 L] 56 (0,0)) (by(with_reducible repeat(first|refine Qf ?_ _|refine Qc ?_|refine Qg ?_ _));exact B.out) hb);have θ :=Aside0.mk (Qv (by repeat(first|(with_reducible first|exact HB.out|apply Qj|apply Qd|apply Qh|refine Qe ?_ γ.out)|exact HB.out)) hb);have ι :=Aside0.mk (hbox);have κ :=Aside0.mk ((by rw[hg];exact(Qk (by repeat(first|(with_reducible first|exact HB.out|apply Qj|apply Qd|apply Qh|refine Qe ?_ γ.out)|exact HB.out))):w.heap.size≤Y));have τ :=Aside0.mk ((by rw[hg];exact(Qk (by repeat(first|(with_reducible first|exact HB.out|apply Qj|apply Qd|apply Qh|refine Qe ?_ γ.out)|exact HB.out))):w.heap.size≤Y));have ψ :=Aside0.mk ((by rw[hg];exact Nat.ne_of_lt (Q5 (g:=X) (o:=.cells #[.int .i64 I,.int .i64 J,.int .i64 L] 56 (0,0)) (by(with_reducible repeat(first|refine Qf ?_ _|refine Qc ?_|refine Qg ?_ _));exact B.out)):X≠Y));have a1:=Aside0.mk ((by rw[hg];exact Nat.ne_of_gt (Q5 (g:=X) (o:=.cells #[.int .i64 I,.int .i64 J,.int .i64 L] 56 (0,0)) (by(with_reducible repeat(first|refine Qf ?_ _|refine Qc ?_|refine Qg ?_ _));exact B.out)):Y≠X));clear B;clear HB;have B:= ε;have HB:= θ;have Z:= ι;have ρ:= κ;have η := τ;have δ := ψ;have ζ :=a1;clear ε θ ι κ τ ψ a1;clear hb hbox hg;have dk:= δ.out;have dl:= ζ.out;have cb:aa.cell? ⟨X,0,none⟩=some (.int .i64 I):=(Qa B.out 0).trans rfl;have cd:aa.cell? ⟨X,1,none⟩=some (.int .i64 J):=(Qa B.out 1).trans rfl;have df:aa.cell? ⟨X,2,none⟩=some (.int .i64 L):=(Qa B.out 2).trans rfl;have ce:=Qb B.out 0;have cf:=Qb B.out 1;have dh:=Qb B.out 2;have b1:aa.cell? ⟨Y,0,none⟩=some (.int .i64 D):=(Qa Z.out 0).trans rfl;have b2:aa.cell? ⟨Y,1,none⟩=some (.int .i64 O):=(Qa Z.out 1).trans rfl;have cx:aa.cell? ⟨Y,2,none⟩=some (.int .i64 U):=(Qa Z.out 2).trans rfl;have b3:=Qb Z.out 0;have b4:=Qb Z.out 1;have cy:=Qb Z.out 2))
   go_ret
   exact⟨by first|rfl|(simp[Q1,Q0] <;> rfl)|(simp[*,Q1,Q0] <;> rfl),by repeat(first|(with_reducible first|exact HB.out|apply Qj|apply Qd|apply Qh|refine Qe ?_ γ.out|refine Qe ?_ η.out)|exact HB.out)⟩
end Go.Proofs.Ytjehhhlhalkieaa.C

