/- Texts of this claim, one behind the other: what the law's functions come to, walked (printed by a program, with the words that the print uses), and what that is, in plain Lean. No conditions of their own. -/
import Derived.Test.YtjehhhlhalkieaaQCallPresses2
namespace Go.Proofs.Ytjehhhlhalkieaa.C
open Go.RowKit Go.Proofs.YtjehhhlhalkieaaW.PrintWords Go.Proofs.YtjehhhlhalkieaaW.PrintLast Go.Proofs.YtjehhhlhalkieaaW.PrintMore
attribute [local go_sem] Z4 Z2 Xe Xd Zx Zw Z3 Z1
set_option linter.unusedVariables false
set_option linter.unusedSimpArgs false
mutual
def api_Hall_right.l0:Nat→Int→List (S56)→Int→Int→List (S56)→Int→Option (Bool)
 |0,_,_,_,_,_,_=>none
 |k+1,J,O,I,B,D,L=>if B<I then (if 0≤B then (if B<(O.length:Int) then ((call_hall_1.f ((Qa O B).f0) ((Qa O B).f1) ((Qa O B).f2) J).bind fun σ=>(if σ=true then (if B>0 then (if 0≤(wrap64 (B-1)) then (if (wrap64 (B-1))<(D.length:Int) then ((call_halls_1.f ((Qa D (wrap64 (B-1))).f0) ((Qa D (wrap64 (B-1))).f1) ((Qa D (wrap64 (B-1))).f2) ((Qa O B).f0) ((Qa O B).f1) ((Qa O B).f2)).bind fun κ =>(api_Hall_right.j1 k J O I B (decide (κ ≥ 0)) D L)) else (none)) else (none)) else (api_Hall_right.j1 k J O I B false D L)) else (api_Hall_right.j1 k J O I B true D L))) else (none)) else (none)) else (some true)
def api_Hall_right.j1:Nat→Int→List (S56)→Int→Int→Bool→List (S56)→Int→Option (Bool)
 |0,_,_,_,_,_,_,_=>none
 |k+1,J,O,I,B,U,D,L=>if U=true then (some false) else (api_Hall_right.l0 k J O I (wrap64 (B+1)) D L)
end
def api_Hall_right.f (k:Nat) (J:List (S56)) (D:Int) (L:Int):Option (Bool):=api_Hall_right.l0 k L J (J.length:Int) 0 J D
theorem api_Hall_right.Zn:∀ k,(∀ I L U D J X,LeO (api_Hall_right.l0 k I L U D J X) (api_Hall_right.l0 (k+1) I L U D J X))∧(∀ I L U D J X Y,LeO (api_Hall_right.j1 k I L U D J X Y) (api_Hall_right.j1 (k+1) I L U D J X Y))
 |0=>⟨fun _ _ _ _ _ _ r h=>by simp[api_Hall_right.l0] at h,fun _ _ _ _ _ _ _ r h=>by simp[api_Hall_right.j1] at h⟩
 |k+1=>by
  obtain⟨B,O⟩:=api_Hall_right.Zn k
  refine⟨?_, ?_⟩
  ·intro I L U D J X
   unfold api_Hall_right.l0
   repeat' first
   |(with_reducible exact B _ _ _ _ _ _)
   |(with_reducible exact O _ _ _ _ _ _ _)
   |(with_reducible exact LeO.refl _)
   |(with_reducible exact LeO.none _)
   |(with_reducible refine LeO.ite ?_ ?_)
   |(with_reducible refine LeO.bind ?_ (fun _=>?_))
   |exact B _ _ _ _ _ _
   |exact O _ _ _ _ _ _ _
   |exact LeO.none _
   |refine LeO.ite ?_ ?_
   |refine LeO.bind ?_ (fun _=>?_)
  ·intro I L U D J X Y
   unfold api_Hall_right.j1
   repeat' first
   |(with_reducible exact B _ _ _ _ _ _)
   |(with_reducible exact O _ _ _ _ _ _ _)
   |(with_reducible exact LeO.refl _)
   |(with_reducible exact LeO.none _)
   |(with_reducible refine LeO.ite ?_ ?_)
   |(with_reducible refine LeO.bind ?_ (fun _=>?_))
   |exact B _ _ _ _ _ _
   |exact O _ _ _ _ _ _ _
   |exact LeO.none _
   |refine LeO.ite ?_ ?_
   |refine LeO.bind ?_ (fun _=>?_)
theorem api_Hall_right.mono:∀ D L a2 k,LeO (api_Hall_right.f k D L a2) (api_Hall_right.f (k+1) D L a2):=by
 intro D L a2 k
 obtain⟨B,O⟩:=api_Hall_right.Zn k
 unfold api_Hall_right.f
 repeat' first
   |(with_reducible exact B _ _ _ _ _ _)
   |(with_reducible exact O _ _ _ _ _ _ _)
   |(with_reducible exact LeO.refl _)
   |(with_reducible exact LeO.none _)
   |(with_reducible refine LeO.ite ?_ ?_)
   |(with_reducible refine LeO.bind ?_ (fun _=>?_))
   |exact B _ _ _ _ _ _
   |exact O _ _ _ _ _ _ _
   |exact LeO.none _
   |refine LeO.ite ?_ ?_
   |refine LeO.bind ?_ (fun _=>?_)
def api_Hall_right.T4:Bool×List (List Nat×List Nat):=(true,[([],[]),([],[]),([0,1],[0,1]),([2],[2]),([3,2],[3]),([4],[4]),([5,4],[4,5]),([6,4,4],[4,6]),([7],[7]),([8,7],[7,8]),([7],[7]),([10,7],[7,10]),([7],[7]),([12,7],[7,12]),([11,13,7],[7,11,13]),([14,7],[7,14]),([7],[7]),([9,15,16,7,7],[7,9,15,16]),([17,7],[7,17]),([7,18,4],[4,7,18]),([4,19],[4,19])])
def api_Hall_right.B4:List Nat:=[0,0,3,7,15,31,63,127,255,511,255,1279,255,4351,15615,31999,255,131071,262143,524287,1048575]
theorem api_Hall_right.G0:rtab .any (opsOf Try.f42 4)=api_Hall_right.T4:=by kernel_rfl
theorem api_Hall_right.J9:Zv api_Hall_right.T4.2 api_Hall_right.B4=true:=by kernel_rfl
set_option maxHeartbeats 8000000 in
set_option maxRecDepth 100000 in
theorem api_Hall_right.calls (k:Nat) (μ :Option Addr) (θ :Nat) (J:List (S56)) (D:Int) (L:Int) (r:Bool) (w:World) (a2:Kd.C k56 w μ J.length J) (a6:J.length ≤ θ) (h:api_Hall_right.f k J D L=some r) (gh_:Nat) (hgh_:w.heap[gh_]?=some (.cells #[.int .i64 (Yf L),.int .i64 (Ye L)] 23 (0,0))):
  Calls Try.prog 42 #[.agg #[.slice μ J.length θ,.func (.func 51) #[] #[]],.func (.func 61) #[] #[.pointer (some ⟨gh_,0,none⟩)]] w fun e w'=>e = .returned (.bool r)∧Below w.heap.size w w':=by
 have HCH:=Aside0.mk hgh_
 clear hgh_
 have bs:=Try.underlying69
 have ay:=Try.underlying56
 have ψ :=Aside0.mk a2
 have a8:=Aside0.mk a6
 clear a2 a6
 have HB:=Aside0.mk (Below.refl w.heap.size w)
 have H:(api_Hall_right.l0 k L J (J.length:Int) 0 J D)=some r:=h
 clear h
 have H':=Aside0.mk H
 clear H
 go_enter Try.func42,Try.ntmps42
 go_wp2_with (first|((with_reducible refine Qp (N:=2) rfl ?_);refine qE 2 #[.slice μ J.length θ,.func (.func 51) #[] #[]] 69 ?_;intro τ hg w3 hbox hb;have Y:=Aside0.mk hbox;have bh:=sGe hg;have ak:=sGe hg;replace HB:=sHb hb;clear hb hbox hg;obtain⟨ω,ac,ag,ah⟩:=qD2 Y.out))
 go_loopg [10] k (fun kq ai w'=>∃ (B:Int),ai = .int .i64 B∧Aside0 (api_Hall_right.l0 kq L J (J.length:Int) B J D=some r)∧Aside0 (kq≤k)∧Aside0 (w'.heap[τ]?=some (.cells #[(.slice μ J.length θ),.func (.func 51) #[] #[]] 69 (0,0)))∧Aside0 (Below w.heap.size w w'))
 case atStart=>exact⟨(0),rfl,H',⟨Nat.le_refl _⟩,Y,HB⟩
 case round=>
  clear H'
  try clear p2
  try clear c4
  try clear ω
  try clear ac
  try clear ag
  try clear ah
  obtain⟨B,rfl,HA,ξ,Y,HB⟩:=hrel
  cases gk with
  |zero=>exact absurd HA.out (by simp[api_Hall_right.l0])
  |succ k1=>
   have H:=HA.out
   clear HA
   simp only[api_Hall_right.l0] at H
   by_cases c5:B<(J.length:Int)
   ·rw[if_pos c5] at H
    have c5b0:decide (B<(J.length:Int))=true:=decide_eq_true c5
    clear c5
    by_cases c6:0≤B
    ·rw[if_pos c6] at H
     have c6b0:decide (0≤B)=true:=decide_eq_true c6
     clear c6
     by_cases c7:B<(J.length:Int)
     ·rw[if_pos c7] at H
      have c7b0:decide (B<(J.length:Int))=true:=decide_eq_true c7
      clear c7
      have al:=Aside0.mk H
      clear H
      have a7:0≤(B:Int):=of_decide_eq_true (by assumption)
      have a9:B<(J.length:Int):=of_decide_eq_true (by assumption)
      obtain⟨ab,bl,φ,χ,a3⟩:=Zo ψ.out B a7 a9
      cases bl
      replace φ :=(HB.out.cell (World.block_lt_of_cell? w _ φ)).trans φ
      replace χ :=(HB.out.cell (World.block_lt_of_cell? w _ χ)).trans χ
      replace a3:=(HB.out.cell (World.block_lt_of_cell? w _ a3)).trans a3
      replace a7:=eq_true a7
      replace a9:=eq_true a9
      go_upto_region 4 with(first|((with_reducible refine Qp (N:=6) rfl ?_);refine qE 6 #[.int .i64 0,.int .i64 0,.int .i64 0] 56 ?_;intro ν hg w9 hbox hb;have X:=Aside0.mk hbox;have ae:=sGe hg;have bj:=sGe hg;have ao:=sNl Y hg;have ap:=sNg Y hg;replace Y:=sBk Y hb;replace HB:=sHb hb;clear hb hbox hg;have db:=ap.out;have dc:=ao.out;obtain⟨af,aj,ar,bf,bg,au⟩:=qD3 X.out))
      (try simp only[Act.put,qS])
      go_cut [35] (fun ax wc=>∃ (kq:Nat) (I:Bool),ax = .bool I∧Aside0 (api_Hall_right.j1 kq L J (J.length:Int) B I J D=some r)∧Aside0 (kq≤k1)∧Aside0 (wc.heap[τ]?=some (.cells #[(.slice (some ab) J.length θ),.func (.func 51) #[] #[]] 69 (0,0)))∧Aside0 (wc.heap[ν]?=some (.cells #[.int .i64 ((Qa J B).f0),.int .i64 ((Qa J B).f1),.int .i64 ((Qa J B).f2)] 56 (0,0)))∧Aside0 (Below w.heap.size w wc))
      case first=>
       have H:=al.out
       clear al
       replace H:=Option.bind_eq_some_iff.mp H
       obtain⟨σ,cd,H⟩:=H
       replace H:(if σ=true then (if B>0 then (if 0≤(wrap64 (B-1)) then (if (wrap64 (B-1))<(J.length:Int) then ((call_halls_1.f ((Qa J (wrap64 (B-1))).f0) ((Qa J (wrap64 (B-1))).f1) ((Qa J (wrap64 (B-1))).f2) ((Qa J B).f0) ((Qa J B).f1) ((Qa J B).f2)).bind fun κ =>(api_Hall_right.j1 k1 L J (J.length:Int) B (decide (κ ≥ 0)) J D)) else (none)) else (none)) else (api_Hall_right.j1 k1 L J (J.length:Int) B false J D)) else (api_Hall_right.j1 k1 L J (J.length:Int) B true J D))=some r:=H
       have cw:=Aside0.mk cd
       clear cd
       by_cases ba:σ=true
       ·subst ba
        have H1:(if B>0 then (if 0≤(wrap64 (B-1)) then (if (wrap64 (B-1))<(J.length:Int) then ((call_halls_1.f ((Qa J (wrap64 (B-1))).f0) ((Qa J (wrap64 (B-1))).f1) ((Qa J (wrap64 (B-1))).f2) ((Qa J B).f0) ((Qa J B).f1) ((Qa J B).f2)).bind fun κ =>(api_Hall_right.j1 k1 L J (J.length:Int) B (decide (κ ≥ 0)) J D)) else (none)) else (none)) else (api_Hall_right.j1 k1 L J (J.length:Int) B false J D))=some r:=by rw[if_pos rfl] at H;exact H
        clear H
        have H:=H1
        clear H1
        by_cases az:B>0
        ·rw[if_pos az] at H
         have c14b0:decide (0<B)=true:=decide_eq_true az
         clear az
         (first|rw[c14b0]|(simp only[Zg,Zj];rw[c14b0])|skip)
         obtain⟨δ,aa⟩:∃ j_:Int,(wrap64 (B-1))=j_:=⟨_,rfl⟩
         replace H:(if 0≤(δ) then (if (δ)<(J.length:Int) then ((call_halls_1.f ((Qa J (δ)).f0) ((Qa J (δ)).f1) ((Qa J (δ)).f2) ((Qa J B).f0) ((Qa J B).f1) ((Qa J B).f2)).bind fun κ =>(api_Hall_right.j1 k1 L J (J.length:Int) B (decide (κ ≥ 0)) J D)) else (none)) else (none))=some r:=by first|(rw[aa] at H;exact H)|(simp only[aa] at H ⊢;exact H)
         (try rw[aa] at cw)
         have hji15w:(IntKind.i64.wrap (B-1)) = δ :=(Zg _).trans aa
         by_cases an:0≤(δ)
         ·rw[if_pos an] at H
          have c16b0:decide (0≤(δ))=true:=decide_eq_true an
          clear an
          by_cases a5:(δ)<(J.length:Int)
          ·rw[if_pos a5] at H
           have c17b0:decide ((δ)<(J.length:Int))=true:=decide_eq_true a5
           clear a5
           replace H:=Option.bind_eq_some_iff.mp H
           obtain⟨κ,bw,H⟩:=H
           replace H:(api_Hall_right.j1 k1 L J (J.length:Int) B (decide (κ ≥ 0)) J D)=some r:=H
           have e5:=Aside0.mk bw
           clear bw
           have H':=Aside0.mk H
           clear H
           try go_wp2
           have O:Aside0 ((((w9.setCell ⟨ν,0,none⟩ (.int .i64 ((Qa J B).f0))).setCell ⟨ν,1,none⟩ (.int .i64 ((Qa J B).f1))).setCell ⟨ν,2,none⟩ (.int .i64 ((Qa J B).f2))).heap[τ]?=some (.cells #[.slice (some ab) J.length θ,.func (.func 51) #[] #[]] 69 (0,0))):=⟨bka Y⟩
           have Z:Aside0 ((((w9.setCell ⟨ν,0,none⟩ (.int .i64 ((Qa J B).f0))).setCell ⟨ν,1,none⟩ (.int .i64 ((Qa J B).f1))).setCell ⟨ν,2,none⟩ (.int .i64 ((Qa J B).f2))).heap[ν]?=some (.cells #[.int .i64 ((Qa J B).f0),.int .i64 ((Qa J B).f1),.int .i64 ((Qa J B).f2)] 56 (0,0))):=⟨by refine Qw (cs:=#[.int .i64 ((Qa J B).f0),.int .i64 ((Qa J B).f1),.int .i64 0]) ?_ 2 _ rfl;refine Qw (cs:=#[.int .i64 ((Qa J B).f0),.int .i64 0,.int .i64 0]) ?_ 1 _ rfl;refine Qw (cs:=#[.int .i64 0,.int .i64 0,.int .i64 0]) ?_ 0 _ rfl;exact X.out⟩
           have ι :Aside0 (Below w.heap.size w (((w9.setCell ⟨ν,0,none⟩ (.int .i64 ((Qa J B).f0))).setCell ⟨ν,1,none⟩ (.int .i64 ((Qa J B).f1))).setCell ⟨ν,2,none⟩ (.int .i64 ((Qa J B).f2)))):=⟨bel⟩
           (try clear Y)
           (try clear X)
           (try clear HB)
           generalize(((w9.setCell ⟨ν,0,none⟩ (.int .i64 ((Qa J B).f0))).setCell ⟨ν,1,none⟩ (.int .i64 ((Qa J B).f1))).setCell ⟨ν,2,none⟩ (.int .i64 ((Qa J B).f2)))=dw at O Z ι ⊢
           have Y:=O
           have X:=Z
           have HB:= ι
           clear O Z ι
           replace Y:=Aside0.mk (Qb Y.out)
           replace X:=Aside0.mk (Qb X.out)
           replace HB:=Aside0.mk (Qe HB.out)
           have a4:0≤((δ):Int):=of_decide_eq_true (by assumption)
           have am:(δ)<(J.length:Int):=of_decide_eq_true (by assumption)
           obtain⟨b0,b1,U,γ,ε⟩:=Zo ψ.out (δ) a4 am
           have ζ := ε
           have η :=γ
           have ρ:=U
           obtain rfl:ab=b0:=(by injection b1)
           replace U:=(HB.out.cell (World.block_lt_of_cell? w _ U)).trans U
           replace γ:=(HB.out.cell (World.block_lt_of_cell? w _ γ)).trans γ
           replace ε :=(HB.out.cell (World.block_lt_of_cell? w _ ε)).trans ε
           replace a4:=eq_true a4
           replace am:=eq_true am
           refine Ze (n:=21) (S:=fun w'=>w'.cell? ⟨ν,0,none⟩=some (.int .i64 ((Qa J B).f0))∧w'.cell? ⟨ν,1,none⟩=some (.int .i64 ((Qa J B).f1))∧w'.cell? ⟨ν,2,none⟩=some (.int .i64 ((Qa J B).f2))∧w'.cell? ⟨τ,0,none⟩=some (.slice (some ab) J.length θ)∧w'.cell? ⟨τ,1,none⟩=some (.func (.func 51) #[] #[])∧w'.cell? (ab.add (((δ)).toNat * 3))=some (.int .i64 ((Qa J (δ)).f0))∧w'.cell? ⟨(ab.add (((δ)).toNat * 3)).block,(ab.add (((δ)).toNat * 3)).off+1,none⟩=some (.int .i64 ((Qa J (δ)).f1))∧w'.cell? ⟨(ab.add (((δ)).toNat * 3)).block,(ab.add (((δ)).toNat * 3)).off+2,none⟩=some (.int .i64 ((Qa J (δ)).f2))) (ds:=[]) #[false,false,false,false,false,false,false,false,false,false,false,false,false,false,false,false,false,false,false,false,false] kr rfl rfl ⟨(Qi X.out 0).trans rfl,(Qi X.out 1).trans rfl,(Qi X.out 2).trans rfl,(Qi Y.out 0).trans rfl,(Qi Y.out 1).trans rfl,((HB.out.cell (World.block_lt_of_cell? w _ ρ)).trans ρ),((HB.out.cell (World.block_lt_of_cell? w _ η)).trans η),((HB.out.cell (World.block_lt_of_cell? w _ ζ)).trans ζ)⟩ (fun hHeld=>?_);refine Q4 api_Hall_right.G0 api_Hall_right.J9 (fun HT_ HW_=>?_)
           generalize dw.drew=d0 at Y X HB U γ ε hHeld ⊢
           refine qP 0 (some 15) (bN 21 1) HT_ ?_
           refine qT 1 (some 16) (bN 21 3) HT_ HW_ hHeld ?_
           refine Zi (i:=2) (N:=some 17) (bN 21 7) rfl rfl (Q0 HT_.out kr) (by decide) (fun K hK=>?_)
           refine Xu Try.func61 kr rfl #[] #[.pointer (some ⟨gh_,0,none⟩)] #[.agg #[.int .i64 ((Qa J B).f0),.int .i64 ((Qa J B).f1),.int .i64 ((Qa J B).f2)]] #[.agg #[.int .i64 ((Qa J B).f0),.int .i64 ((Qa J B).f1),.int .i64 ((Qa J B).f2)],.pointer (some ⟨gh_,0,none⟩)] rfl (by rfl) rfl rfl rfl qM ?_
           with_reducible refine(call_hall_1.calls ((Qa J B).f0) ((Qa J B).f1) ((Qa J B).f2) L true _ cw.out gh_ (Z0 HCH.out (by repeat(first|(with_reducible first|exact HB.out|apply Qh|apply Qc|apply Qe)|exact HB.out|(refine Qd ?_ (Aside0.out (by assumption))))))).mono ?_
           rintro e bp ⟨rfl,hb⟩
           refine⟨_,rfl, ?_⟩
           replace Y:=sBk Y hb
           replace X:=sBk X hb
           replace HB:=sHb hb
           (try clear hb)
           (try clear a0)
           (try clear hk)
           (try clear hi)
           refine hK.out _ _ ⟨qc X,qc X,qc X,qc Y,qc Y,((HB.out.cell (World.block_lt_of_cell? w _ ρ)).trans ρ),((HB.out.cell (World.block_lt_of_cell? w _ η)).trans η),((HB.out.cell (World.block_lt_of_cell? w _ ζ)).trans ζ)⟩ (fun hHeld=>?_)
           clear hK K
           refine qN (some 17) ?_
           refine qP 3 (some 18) (bN 21 15) HT_ ?_
           refine qP 4 (some 19) (bN 21 31) HT_ ?_
           refine qP 5 (some 20) (bN 21 63) HT_ ?_
           refine qP 6 (some 21) (bN 21 127) HT_ ?_
           refine qP 7 (some 22) (bN 21 255) HT_ ?_
           refine qP 8 (some 23) (bN 21 511) HT_ ?_
           refine qP 10 (some 25) (bN 21 1535) HT_ ?_
           refine qP 12 (some 27) (bN 21 5631) HT_ ?_
           refine qP 13 (some 28) (bN 21 13823) HT_ ?_
           refine qT 9 (some 24) (bN 21 14335) HT_ HW_ hHeld ?_
           refine qT 11 (some 26) (bN 21 16383) HT_ HW_ hHeld ?_
           refine qP 14 (some 29) (bN 21 32767) HT_ ?_
           refine qT 15 (some 30) (bN 21 65535) HT_ HW_ hHeld ?_
           refine qT 16 (some 31) (bN 21 131071) HT_ HW_ hHeld ?_
           refine Zi (i:=17) (N:=some 32) (bN 21 262143) rfl rfl (Q0 HT_.out kr) (by decide) (fun K hK=>?_)
           refine Xu Try.func51 kr rfl #[] #[] #[.agg #[.int .i64 ((Qa J (δ)).f0),.int .i64 ((Qa J (δ)).f1),.int .i64 ((Qa J (δ)).f2)],.agg #[.int .i64 ((Qa J B).f0),.int .i64 ((Qa J B).f1),.int .i64 ((Qa J B).f2)]] #[.agg #[.int .i64 ((Qa J (δ)).f0),.int .i64 ((Qa J (δ)).f1),.int .i64 ((Qa J (δ)).f2)],.agg #[.int .i64 ((Qa J B).f0),.int .i64 ((Qa J B).f1),.int .i64 ((Qa J B).f2)]] rfl (by rfl) rfl rfl rfl (by(try simp only[List.map_toArray,List.map_cons,List.map_nil]);first|done|(simp only[aa];rfl)|rfl|(simp only[List.length_drop,List.length_take];rfl)) ?_
           with_reducible refine(call_halls_1.calls ((Qa J (δ)).f0) ((Qa J (δ)).f1) ((Qa J (δ)).f2) ((Qa J B).f0) ((Qa J B).f1) ((Qa J B).f2) κ _ e5.out).mono ?_
           rintro e dr ⟨rfl,hb⟩
           refine⟨_,rfl, ?_⟩
           replace Y:=sBk Y hb
           replace X:=sBk X hb
           replace HB:=sHb hb
           (try clear hb)
           (try clear a0)
           (try clear hk)
           (try clear hi)
           refine hK.out _ _ ⟨qc X,qc X,qc X,qc Y,qc Y,((HB.out.cell (World.block_lt_of_cell? w _ ρ)).trans ρ),((HB.out.cell (World.block_lt_of_cell? w _ η)).trans η),((HB.out.cell (World.block_lt_of_cell? w _ ζ)).trans ζ)⟩ (fun hHeld=>?_)
           clear hK K
           refine qN (some 32) ?_
           refine qP 18 (some 33) (bN 21 524287) HT_ ?_
           refine qP 19 (some 34) (bN 21 1048575) HT_ ?_
           refine qP 20 (some 35) (bN 21 2097151) HT_ ?_
           refine Zq (Zd HT_.out kr) ?_
           try go_wp2
           go_meet
           case rel=>exact⟨_,(decide (κ ≥ 0)),rfl,H',⟨by have:= ξ.out;omega⟩,Y,X,HB⟩
          ·rw[if_neg a5] at H
           exact absurd H (by simp)
         ·rw[if_neg an] at H
          exact absurd H (by simp)
        ·rw[if_neg az] at H
         have c14b0:decide (0<B)=false:=decide_eq_false az
         clear az
         (first|rw[c14b0]|(simp only[Zg,Zj];rw[c14b0])|skip)
         have H':=Aside0.mk H
         clear H
         try go_wp2
         have O:Aside0 ((((w9.setCell ⟨ν,0,none⟩ (.int .i64 ((Qa J B).f0))).setCell ⟨ν,1,none⟩ (.int .i64 ((Qa J B).f1))).setCell ⟨ν,2,none⟩ (.int .i64 ((Qa J B).f2))).heap[τ]?=some (.cells #[.slice (some ab) J.length θ,.func (.func 51) #[] #[]] 69 (0,0))):=⟨bka Y⟩
         have Z:Aside0 ((((w9.setCell ⟨ν,0,none⟩ (.int .i64 ((Qa J B).f0))).setCell ⟨ν,1,none⟩ (.int .i64 ((Qa J B).f1))).setCell ⟨ν,2,none⟩ (.int .i64 ((Qa J B).f2))).heap[ν]?=some (.cells #[.int .i64 ((Qa J B).f0),.int .i64 ((Qa J B).f1),.int .i64 ((Qa J B).f2)] 56 (0,0))):=⟨by refine Qw (cs:=#[.int .i64 ((Qa J B).f0),.int .i64 ((Qa J B).f1),.int .i64 0]) ?_ 2 _ rfl;refine Qw (cs:=#[.int .i64 ((Qa J B).f0),.int .i64 0,.int .i64 0]) ?_ 1 _ rfl;refine Qw (cs:=#[.int .i64 0,.int .i64 0,.int .i64 0]) ?_ 0 _ rfl;exact X.out⟩
         have ι :Aside0 (Below w.heap.size w (((w9.setCell ⟨ν,0,none⟩ (.int .i64 ((Qa J B).f0))).setCell ⟨ν,1,none⟩ (.int .i64 ((Qa J B).f1))).setCell ⟨ν,2,none⟩ (.int .i64 ((Qa J B).f2)))):=⟨bel⟩
         (try clear Y)
         (try clear X)
         (try clear HB)
         generalize(((w9.setCell ⟨ν,0,none⟩ (.int .i64 ((Qa J B).f0))).setCell ⟨ν,1,none⟩ (.int .i64 ((Qa J B).f1))).setCell ⟨ν,2,none⟩ (.int .i64 ((Qa J B).f2)))=dv at O Z ι ⊢
         have Y:=O
         have X:=Z
         have HB:= ι
         clear O Z ι
         replace Y:=Aside0.mk (Qb Y.out)
         replace X:=Aside0.mk (Qb X.out)
         replace HB:=Aside0.mk (Qe HB.out)
         refine Ze (n:=21) (S:=fun w'=>w'.cell? ⟨ν,0,none⟩=some (.int .i64 ((Qa J B).f0))∧w'.cell? ⟨ν,1,none⟩=some (.int .i64 ((Qa J B).f1))∧w'.cell? ⟨ν,2,none⟩=some (.int .i64 ((Qa J B).f2))) (ds:=[]) #[false,false,false,false,false,false,false,false,false,false,false,false,false,false,false,false,false,false,false,false,false] kr rfl rfl ⟨(Qi X.out 0).trans rfl,(Qi X.out 1).trans rfl,(Qi X.out 2).trans rfl⟩ (fun hHeld=>?_);refine Q4 api_Hall_right.G0 api_Hall_right.J9 (fun HT_ HW_=>?_)
         generalize dv.drew=bu at Y X HB hHeld ⊢
         refine qP 0 (some 15) (bN 21 1) HT_ ?_
         refine qT 1 (some 16) (bN 21 3) HT_ HW_ hHeld ?_
         refine Zi (i:=2) (N:=some 17) (bN 21 7) rfl rfl (Q0 HT_.out kr) (by decide) (fun K hK=>?_)
         refine Xu Try.func61 kr rfl #[] #[.pointer (some ⟨gh_,0,none⟩)] #[.agg #[.int .i64 ((Qa J B).f0),.int .i64 ((Qa J B).f1),.int .i64 ((Qa J B).f2)]] #[.agg #[.int .i64 ((Qa J B).f0),.int .i64 ((Qa J B).f1),.int .i64 ((Qa J B).f2)],.pointer (some ⟨gh_,0,none⟩)] rfl (by rfl) rfl rfl rfl qM ?_
         with_reducible refine(call_hall_1.calls ((Qa J B).f0) ((Qa J B).f1) ((Qa J B).f2) L true _ cw.out gh_ (Z0 HCH.out (by repeat(first|(with_reducible first|exact HB.out|apply Qh|apply Qc|apply Qe)|exact HB.out|(refine Qd ?_ (Aside0.out (by assumption))))))).mono ?_
         rintro e da ⟨rfl,hb⟩
         refine⟨_,rfl, ?_⟩
         replace Y:=sBk Y hb
         replace X:=sBk X hb
         replace HB:=sHb hb
         (try clear hb)
         (try clear a0)
         (try clear hk)
         (try clear hi)
         refine hK.out _ _ ⟨qc X,qc X,qc X⟩ (fun hHeld=>?_)
         clear hK K
         refine qN (some 17) ?_
         refine qP 3 (some 18) (bN 21 15) HT_ ?_
         refine qP 4 (some 19) (bN 21 31) HT_ ?_
         refine qP 5 (some 20) (bN 21 63) HT_ ?_
         refine qP 6 (some 21) (bN 21 127) HT_ ?_
         refine qP 7 (some 22) (bN 21 255) HT_ ?_
         refine qU 8 (some 23) (bN 21 511) HT_ ?_
         refine qU 9 (some 24) (bN 21 1023) HT_ ?_
         refine qU 10 (some 25) (bN 21 2047) HT_ ?_
         refine qU 11 (some 26) (bN 21 4095) HT_ ?_
         refine qU 12 (some 27) (bN 21 8191) HT_ ?_
         refine qU 13 (some 28) (bN 21 16383) HT_ ?_
         refine qU 14 (some 29) (bN 21 32767) HT_ ?_
         refine qU 15 (some 30) (bN 21 65535) HT_ ?_
         refine qU 16 (some 31) (bN 21 131071) HT_ ?_
         refine qU 17 (some 32) (bN 21 262143) HT_ ?_
         refine qU 18 (some 33) (bN 21 524287) HT_ ?_
         refine qP 19 (some 34) (bN 21 1048575) HT_ ?_
         refine qP 20 (some 35) (bN 21 2097151) HT_ ?_
         refine Zq (Zd HT_.out kr) ?_
         try go_wp2
         go_meet
         case rel=>exact⟨_,(false),rfl,H',⟨by have:= ξ.out;omega⟩,Y,X,HB⟩
       ·replace ba:=Bool.eq_false_iff.mpr ba
        subst ba
        have H1:(api_Hall_right.j1 k1 L J (J.length:Int) B true J D)=some r:=by rw[if_neg (show ¬ (false=true) by decide)] at H;exact H
        clear H
        have H:=H1
        clear H1
        have H':=Aside0.mk H
        clear H
        try go_wp2
        have O:Aside0 ((((w9.setCell ⟨ν,0,none⟩ (.int .i64 ((Qa J B).f0))).setCell ⟨ν,1,none⟩ (.int .i64 ((Qa J B).f1))).setCell ⟨ν,2,none⟩ (.int .i64 ((Qa J B).f2))).heap[τ]?=some (.cells #[.slice (some ab) J.length θ,.func (.func 51) #[] #[]] 69 (0,0))):=⟨bka Y⟩
        have Z:Aside0 ((((w9.setCell ⟨ν,0,none⟩ (.int .i64 ((Qa J B).f0))).setCell ⟨ν,1,none⟩ (.int .i64 ((Qa J B).f1))).setCell ⟨ν,2,none⟩ (.int .i64 ((Qa J B).f2))).heap[ν]?=some (.cells #[.int .i64 ((Qa J B).f0),.int .i64 ((Qa J B).f1),.int .i64 ((Qa J B).f2)] 56 (0,0))):=⟨by refine Qw (cs:=#[.int .i64 ((Qa J B).f0),.int .i64 ((Qa J B).f1),.int .i64 0]) ?_ 2 _ rfl;refine Qw (cs:=#[.int .i64 ((Qa J B).f0),.int .i64 0,.int .i64 0]) ?_ 1 _ rfl;refine Qw (cs:=#[.int .i64 0,.int .i64 0,.int .i64 0]) ?_ 0 _ rfl;exact X.out⟩
        have ι :Aside0 (Below w.heap.size w (((w9.setCell ⟨ν,0,none⟩ (.int .i64 ((Qa J B).f0))).setCell ⟨ν,1,none⟩ (.int .i64 ((Qa J B).f1))).setCell ⟨ν,2,none⟩ (.int .i64 ((Qa J B).f2)))):=⟨bel⟩
        (try clear Y)
        (try clear X)
        (try clear HB)
        generalize(((w9.setCell ⟨ν,0,none⟩ (.int .i64 ((Qa J B).f0))).setCell ⟨ν,1,none⟩ (.int .i64 ((Qa J B).f1))).setCell ⟨ν,2,none⟩ (.int .i64 ((Qa J B).f2)))=bq at O Z ι ⊢
        have Y:=O
        have X:=Z
        have HB:= ι
        clear O Z ι
        replace Y:=Aside0.mk (Qb Y.out)
        replace X:=Aside0.mk (Qb X.out)
        replace HB:=Aside0.mk (Qe HB.out)
        refine Ze (n:=21) (S:=fun w'=>w'.cell? ⟨ν,0,none⟩=some (.int .i64 ((Qa J B).f0))∧w'.cell? ⟨ν,1,none⟩=some (.int .i64 ((Qa J B).f1))∧w'.cell? ⟨ν,2,none⟩=some (.int .i64 ((Qa J B).f2))) (ds:=[]) #[false,false,false,false,false,false,false,false,false,false,false,false,false,false,false,false,false,false,false,false,false] kr rfl rfl ⟨(Qi X.out 0).trans rfl,(Qi X.out 1).trans rfl,(Qi X.out 2).trans rfl⟩ (fun hHeld=>?_);refine Q4 api_Hall_right.G0 api_Hall_right.J9 (fun HT_ HW_=>?_)
        generalize bq.drew=e6 at Y X HB hHeld ⊢
        refine qP 0 (some 15) (bN 21 1) HT_ ?_
        refine qT 1 (some 16) (bN 21 3) HT_ HW_ hHeld ?_
        refine Zi (i:=2) (N:=some 17) (bN 21 7) rfl rfl (Q0 HT_.out kr) (by decide) (fun K hK=>?_)
        refine Xu Try.func61 kr rfl #[] #[.pointer (some ⟨gh_,0,none⟩)] #[.agg #[.int .i64 ((Qa J B).f0),.int .i64 ((Qa J B).f1),.int .i64 ((Qa J B).f2)]] #[.agg #[.int .i64 ((Qa J B).f0),.int .i64 ((Qa J B).f1),.int .i64 ((Qa J B).f2)],.pointer (some ⟨gh_,0,none⟩)] rfl (by rfl) rfl rfl rfl qM ?_
        with_reducible refine(call_hall_1.calls ((Qa J B).f0) ((Qa J B).f1) ((Qa J B).f2) L false _ cw.out gh_ (Z0 HCH.out (by repeat(first|(with_reducible first|exact HB.out|apply Qh|apply Qc|apply Qe)|exact HB.out|(refine Qd ?_ (Aside0.out (by assumption))))))).mono ?_
        rintro e fh ⟨rfl,hb⟩
        refine⟨_,rfl, ?_⟩
        replace Y:=sBk Y hb
        replace X:=sBk X hb
        replace HB:=sHb hb
        (try clear hb)
        (try clear a0)
        (try clear hk)
        (try clear hi)
        refine hK.out _ _ ⟨qc X,qc X,qc X⟩ (fun hHeld=>?_)
        clear hK K
        refine qN (some 17) ?_
        refine qP 3 (some 18) (bN 21 15) HT_ ?_
        refine qP 4 (some 19) (bN 21 31) HT_ ?_
        refine qU 5 (some 20) (bN 21 63) HT_ ?_
        refine qU 6 (some 21) (bN 21 127) HT_ ?_
        refine qU 7 (some 22) (bN 21 255) HT_ ?_
        refine qU 8 (some 23) (bN 21 511) HT_ ?_
        refine qU 9 (some 24) (bN 21 1023) HT_ ?_
        refine qU 10 (some 25) (bN 21 2047) HT_ ?_
        refine qU 11 (some 26) (bN 21 4095) HT_ ?_
        refine qU 12 (some 27) (bN 21 8191) HT_ ?_
        refine qU 13 (some 28) (bN 21 16383) HT_ ?_
        refine qU 14 (some 29) (bN 21 32767) HT_ ?_
        refine qU 15 (some 30) (bN 21 65535) HT_ ?_
        refine qU 16 (some 31) (bN 21 131071) HT_ ?_
        refine qU 17 (some 32) (bN 21 262143) HT_ ?_
        refine qU 18 (some 33) (bN 21 524287) HT_ ?_
        refine qU 19 (some 34) (bN 21 1048575) HT_ ?_
        refine qP 20 (some 35) (bN 21 2097151) HT_ ?_
        refine Zq (Zd HT_.out kr) ?_
        try go_wp2
        go_meet
        case rel=>exact⟨_,(true),rfl,H',⟨by have:= ξ.out;omega⟩,Y,X,HB⟩
      case rest=>
       clear al
       try clear c1
       try clear p1
       try clear q1
       try clear bm
       try clear p2
       try clear c5
       try clear c6
       try clear dp
       try clear dq
       try clear dj
       try clear ba
       try clear az
       try clear c14b0
       try clear an
       try clear a5
       try clear c17b0
       try clear U
       try clear γ
       try clear ε
       try clear a4
       try clear am
       obtain⟨kq,I,rfl,HA,av,Y,X,HB⟩:=hcut
       cases kq with
       |zero=>exact absurd HA.out (by simp[api_Hall_right.j1])
       |succ aw=>
        have H:=HA.out
        clear HA
        simp only[api_Hall_right.j1] at H
        by_cases ce:I=true
        ·subst ce
         have H1:(some false)=some r:=by rw[if_pos rfl] at H;exact H
         clear H
         have H:=H1
         clear H1
         obtain rfl:=Option.some.inj H
         go_wp2
         go_ret
         exact⟨rfl,HB.out⟩
        ·replace ce:=Bool.eq_false_iff.mpr ce
         subst ce
         have H1:(api_Hall_right.l0 aw L J (J.length:Int) (wrap64 (B+1)) J D)=some r:=by rw[if_neg (show ¬ (false=true) by decide)] at H;exact H
         clear H
         have H:=H1
         clear H1
         have H':=Aside0.mk H
         clear H
         go_wp2
         go_roundg aw
         case measure=>have:= ξ.out;have:=av.out;omega
         case rel=>exact⟨(wrap64 (B+1)),rfl,H',⟨by have:= ξ.out;have:=av.out;omega⟩,Y,HB⟩
     ·rw[if_neg c7] at H
      exact absurd H (by simp)
    ·rw[if_neg c6] at H
     exact absurd H (by simp)
   ·rw[if_neg c5] at H
    have c5b0:decide (B<(J.length:Int))=false:=decide_eq_false c5
    clear c5
    obtain rfl:=Option.some.inj H
    go_wp2
    go_ret
    exact⟨rfl,HB.out⟩
mutual
def api_Inside_right.l0:Nat→Int→List (S62)→Int→Int→List (S62)→Int→Option (Bool)
 |0,_,_,_,_,_,_=>none
 |k+1,J,O,I,B,D,L=>if B<I then (if 0≤B then (if B<(O.length:Int) then ((call_inside_1.f ((Qk O B).f0) ((Qk O B).f1) J).bind fun σ=>(if σ=true then (if B>0 then (if 0≤(wrap64 (B-1)) then (if (wrap64 (B-1))<(D.length:Int) then ((call_ins_1.f ((Qk D (wrap64 (B-1))).f0) ((Qk D (wrap64 (B-1))).f1) ((Qk O B).f0) ((Qk O B).f1)).bind fun γ=>(api_Inside_right.j1 k J O I B (decide (γ≥0)) D L)) else (none)) else (none)) else (api_Inside_right.j1 k J O I B false D L)) else (api_Inside_right.j1 k J O I B true D L))) else (none)) else (none)) else (some true)
def api_Inside_right.j1:Nat→Int→List (S62)→Int→Int→Bool→List (S62)→Int→Option (Bool)
 |0,_,_,_,_,_,_,_=>none
 |k+1,J,O,I,B,U,D,L=>if U=true then (some false) else (api_Inside_right.l0 k J O I (wrap64 (B+1)) D L)
end
def api_Inside_right.f (k:Nat) (J:List (S62)) (D:Int) (L:Int):Option (Bool):=api_Inside_right.l0 k L J (J.length:Int) 0 J D
theorem api_Inside_right.Zn:∀ k,(∀ I L U D J X,LeO (api_Inside_right.l0 k I L U D J X) (api_Inside_right.l0 (k+1) I L U D J X))∧(∀ I L U D J X Y,LeO (api_Inside_right.j1 k I L U D J X Y) (api_Inside_right.j1 (k+1) I L U D J X Y))
 |0=>⟨fun _ _ _ _ _ _ r h=>by simp[api_Inside_right.l0] at h,fun _ _ _ _ _ _ _ r h=>by simp[api_Inside_right.j1] at h⟩
 |k+1=>by
  obtain⟨B,O⟩:=api_Inside_right.Zn k
  refine⟨?_, ?_⟩
  ·intro I L U D J X
   unfold api_Inside_right.l0
   repeat' first
   |(with_reducible exact B _ _ _ _ _ _)
   |(with_reducible exact O _ _ _ _ _ _ _)
   |(with_reducible exact LeO.refl _)
   |(with_reducible exact LeO.none _)
   |(with_reducible refine LeO.ite ?_ ?_)
   |(with_reducible refine LeO.bind ?_ (fun _=>?_))
   |exact B _ _ _ _ _ _
   |exact O _ _ _ _ _ _ _
   |exact LeO.none _
   |refine LeO.ite ?_ ?_
   |refine LeO.bind ?_ (fun _=>?_)
  ·intro I L U D J X Y
   unfold api_Inside_right.j1
   repeat' first
   |(with_reducible exact B _ _ _ _ _ _)
   |(with_reducible exact O _ _ _ _ _ _ _)
   |(with_reducible exact LeO.refl _)
   |(with_reducible exact LeO.none _)
   |(with_reducible refine LeO.ite ?_ ?_)
   |(with_reducible refine LeO.bind ?_ (fun _=>?_))
   |exact B _ _ _ _ _ _
   |exact O _ _ _ _ _ _ _
   |exact LeO.none _
   |refine LeO.ite ?_ ?_
   |refine LeO.bind ?_ (fun _=>?_)
theorem api_Inside_right.mono:∀ D L a2 k,LeO (api_Inside_right.f k D L a2) (api_Inside_right.f (k+1) D L a2):=by
 intro D L a2 k
 obtain⟨B,O⟩:=api_Inside_right.Zn k
 unfold api_Inside_right.f
 repeat' first
   |(with_reducible exact B _ _ _ _ _ _)
   |(with_reducible exact O _ _ _ _ _ _ _)
   |(with_reducible exact LeO.refl _)
   |(with_reducible exact LeO.none _)
   |(with_reducible refine LeO.ite ?_ ?_)
   |(with_reducible refine LeO.bind ?_ (fun _=>?_))
   |exact B _ _ _ _ _ _
   |exact O _ _ _ _ _ _ _
   |exact LeO.none _
   |refine LeO.ite ?_ ?_
   |refine LeO.bind ?_ (fun _=>?_)
def api_Inside_right.T4:Bool×List (List Nat×List Nat):=(true,[([],[]),([],[]),([0,1],[0,1]),([2],[2]),([3,2],[3]),([4],[4]),([5,4],[4,5]),([6,4,4],[4,6]),([7],[7]),([8,7],[7,8]),([7],[7]),([10,7],[7,10]),([7],[7]),([12,7],[7,12]),([11,13,7],[7,11,13]),([14,7],[7,14]),([7],[7]),([9,15,16,7,7],[7,9,15,16]),([17,7],[7,17]),([7,18,4],[4,7,18]),([4,19],[4,19])])
def api_Inside_right.B4:List Nat:=[0,0,3,7,15,31,63,127,255,511,255,1279,255,4351,15615,31999,255,131071,262143,524287,1048575]
theorem api_Inside_right.G0:rtab .any (opsOf Try.f43 4)=api_Inside_right.T4:=by kernel_rfl
theorem api_Inside_right.J9:Zv api_Inside_right.T4.2 api_Inside_right.B4=true:=by kernel_rfl
set_option maxHeartbeats 8000000 in
set_option maxRecDepth 100000 in
theorem api_Inside_right.calls (k:Nat) (μ :Option Addr) (θ :Nat) (J:List (S62)) (D:Int) (L:Int) (r:Bool) (w:World) (a2:Kd.C k62 w μ J.length J) (a6:J.length ≤ θ) (h:api_Inside_right.f k J D L=some r) (gh_:Nat) (hgh_:w.heap[gh_]?=some (.cells #[.int .i64 (Yf L),.int .i64 (Ye L)] 23 (0,0))):
  Calls Try.prog 43 #[.agg #[.slice μ J.length θ,.func (.func 57) #[] #[]],.func (.func 50) #[] #[.pointer (some ⟨gh_,0,none⟩)]] w fun e w'=>e = .returned (.bool r)∧Below w.heap.size w w':=by
 have HCH:=Aside0.mk hgh_
 clear hgh_
 have bn:=Try.underlying74
 have b8:=Try.underlying62
 have ψ :=Aside0.mk a2
 have a8:=Aside0.mk a6
 clear a2 a6
 have HB:=Aside0.mk (Below.refl w.heap.size w)
 have H:(api_Inside_right.l0 k L J (J.length:Int) 0 J D)=some r:=h
 clear h
 have H':=Aside0.mk H
 clear H
 go_enter Try.func43,Try.ntmps43
 go_wp2_with (first|((with_reducible refine Qp (N:=2) rfl ?_);refine qE 2 #[.slice μ J.length θ,.func (.func 57) #[] #[]] 74 ?_;intro a9 hg w3 hbox hb;have X:=Aside0.mk hbox;have ey:=sGe hg;have ez:=sGe hg;replace HB:=sHb hb;clear hb hbox hg;obtain⟨ω,ac,ag,ah⟩:=qD2 X.out))
 go_loopg [10] k (fun kq ai w'=>∃ (B:Int),ai = .int .i64 B∧Aside0 (api_Inside_right.l0 kq L J (J.length:Int) B J D=some r)∧Aside0 (kq≤k)∧Aside0 (w'.heap[a9]?=some (.cells #[(.slice μ J.length θ),.func (.func 57) #[] #[]] 74 (0,0)))∧Aside0 (Below w.heap.size w w'))
 case atStart=>exact⟨(0),rfl,H',⟨Nat.le_refl _⟩,X,HB⟩
 case round=>
  clear H'
  try clear p2
  try clear c4
  try clear ω
  try clear ac
  try clear ag
  try clear ah
  obtain⟨B,rfl,HA,ξ,X,HB⟩:=hrel
  cases gk with
  |zero=>exact absurd HA.out (by simp[api_Inside_right.l0])
  |succ k1=>
   have H:=HA.out
   clear HA
   simp only[api_Inside_right.l0] at H
   by_cases c5:B<(J.length:Int)
   ·rw[if_pos c5] at H
    have c5b0:decide (B<(J.length:Int))=true:=decide_eq_true c5
    clear c5
    by_cases c6:0≤B
    ·rw[if_pos c6] at H
     have c6b0:decide (0≤B)=true:=decide_eq_true c6
     clear c6
     by_cases c7:B<(J.length:Int)
     ·rw[if_pos c7] at H
      have c7b0:decide (B<(J.length:Int))=true:=decide_eq_true c7
      clear c7
      have al:=Aside0.mk H
      clear H
      have χ :0≤(B:Int):=of_decide_eq_true (by assumption)
      have a3:B<(J.length:Int):=of_decide_eq_true (by assumption)
      obtain⟨ε,ab,κ,ρ⟩:=Zu ψ.out B χ a3
      cases ab
      replace κ :=(HB.out.cell (World.block_lt_of_cell? w _ κ)).trans κ
      replace ρ:=(HB.out.cell (World.block_lt_of_cell? w _ ρ)).trans ρ
      replace χ :=eq_true χ
      replace a3:=eq_true a3
      go_upto_region 4 with(first|((with_reducible refine Qp (N:=6) rfl ?_);refine qE 6 #[.int .i64 0,.int .i64 0] 62 ?_;intro Y hg w9 hbox hb;have U:=Aside0.mk hbox;have ak:=sGe hg;have ν :=sGe hg;have τ :=sNl X hg;have φ :=sNg X hg;replace X:=sBk X hb;replace HB:=sHb hb;clear hb hbox hg;have db:= φ.out;have dc:= τ.out;obtain⟨af,aj,bf,bg⟩:=qD2 U.out))
      (try simp only[Act.put,qS])
      go_cut [35] (fun ax wc=>∃ (kq:Nat) (I:Bool),ax = .bool I∧Aside0 (api_Inside_right.j1 kq L J (J.length:Int) B I J D=some r)∧Aside0 (kq≤k1)∧Aside0 (wc.heap[a9]?=some (.cells #[(.slice (some ε) J.length θ),.func (.func 57) #[] #[]] 74 (0,0)))∧Aside0 (wc.heap[Y]?=some (.cells #[.int .i64 ((Qk J B).f0),.int .i64 ((Qk J B).f1)] 62 (0,0)))∧Aside0 (Below w.heap.size w wc))
      case first=>
       have H:=al.out
       clear al
       replace H:=Option.bind_eq_some_iff.mp H
       obtain⟨σ,cd,H⟩:=H
       replace H:(if σ=true then (if B>0 then (if 0≤(wrap64 (B-1)) then (if (wrap64 (B-1))<(J.length:Int) then ((call_ins_1.f ((Qk J (wrap64 (B-1))).f0) ((Qk J (wrap64 (B-1))).f1) ((Qk J B).f0) ((Qk J B).f1)).bind fun γ=>(api_Inside_right.j1 k1 L J (J.length:Int) B (decide (γ≥0)) J D)) else (none)) else (none)) else (api_Inside_right.j1 k1 L J (J.length:Int) B false J D)) else (api_Inside_right.j1 k1 L J (J.length:Int) B true J D))=some r:=H
       have cw:=Aside0.mk cd
       clear cd
       by_cases ba:σ=true
       ·subst ba
        have H1:(if B>0 then (if 0≤(wrap64 (B-1)) then (if (wrap64 (B-1))<(J.length:Int) then ((call_ins_1.f ((Qk J (wrap64 (B-1))).f0) ((Qk J (wrap64 (B-1))).f1) ((Qk J B).f0) ((Qk J B).f1)).bind fun γ=>(api_Inside_right.j1 k1 L J (J.length:Int) B (decide (γ≥0)) J D)) else (none)) else (none)) else (api_Inside_right.j1 k1 L J (J.length:Int) B false J D))=some r:=by rw[if_pos rfl] at H;exact H
        clear H
        have H:=H1
        clear H1
        by_cases az:B>0
        ·rw[if_pos az] at H
         have c14b0:decide (0<B)=true:=decide_eq_true az
         clear az
         (first|rw[c14b0]|(simp only[Zg,Zj];rw[c14b0])|skip)
         obtain⟨δ,aa⟩:∃ j_:Int,(wrap64 (B-1))=j_:=⟨_,rfl⟩
         replace H:(if 0≤(δ) then (if (δ)<(J.length:Int) then ((call_ins_1.f ((Qk J (δ)).f0) ((Qk J (δ)).f1) ((Qk J B).f0) ((Qk J B).f1)).bind fun γ=>(api_Inside_right.j1 k1 L J (J.length:Int) B (decide (γ≥0)) J D)) else (none)) else (none))=some r:=by first|(rw[aa] at H;exact H)|(simp only[aa] at H ⊢;exact H)
         (try rw[aa] at cw)
         have hji15w:(IntKind.i64.wrap (B-1)) = δ :=(Zg _).trans aa
         by_cases an:0≤(δ)
         ·rw[if_pos an] at H
          have c16b0:decide (0≤(δ))=true:=decide_eq_true an
          clear an
          by_cases a5:(δ)<(J.length:Int)
          ·rw[if_pos a5] at H
           have c17b0:decide ((δ)<(J.length:Int))=true:=decide_eq_true a5
           clear a5
           replace H:=Option.bind_eq_some_iff.mp H
           obtain⟨γ,bw,H⟩:=H
           replace H:(api_Inside_right.j1 k1 L J (J.length:Int) B (decide (γ≥0)) J D)=some r:=H
           have e5:=Aside0.mk bw
           clear bw
           have H':=Aside0.mk H
           clear H
           try go_wp2
           have O:Aside0 (((w9.setCell ⟨Y,0,none⟩ (.int .i64 ((Qk J B).f0))).setCell ⟨Y,1,none⟩ (.int .i64 ((Qk J B).f1))).heap[a9]?=some (.cells #[.slice (some ε) J.length θ,.func (.func 57) #[] #[]] 74 (0,0))):=⟨bka X⟩
           have Z:Aside0 (((w9.setCell ⟨Y,0,none⟩ (.int .i64 ((Qk J B).f0))).setCell ⟨Y,1,none⟩ (.int .i64 ((Qk J B).f1))).heap[Y]?=some (.cells #[.int .i64 ((Qk J B).f0),.int .i64 ((Qk J B).f1)] 62 (0,0))):=⟨by refine Qw (cs:=#[.int .i64 ((Qk J B).f0),.int .i64 0]) ?_ 1 _ rfl;refine Qw (cs:=#[.int .i64 0,.int .i64 0]) ?_ 0 _ rfl;exact U.out⟩
           have ι :Aside0 (Below w.heap.size w ((w9.setCell ⟨Y,0,none⟩ (.int .i64 ((Qk J B).f0))).setCell ⟨Y,1,none⟩ (.int .i64 ((Qk J B).f1)))):=⟨bel⟩
           (try clear X)
           (try clear U)
           (try clear HB)
           generalize((w9.setCell ⟨Y,0,none⟩ (.int .i64 ((Qk J B).f0))).setCell ⟨Y,1,none⟩ (.int .i64 ((Qk J B).f1)))=dw at O Z ι ⊢
           have X:=O
           have U:=Z
           have HB:= ι
           clear O Z ι
           replace X:=Aside0.mk (Qb X.out)
           replace U:=Aside0.mk (Qb U.out)
           replace HB:=Aside0.mk (Qe HB.out)
           have b1:0≤((δ):Int):=of_decide_eq_true (by assumption)
           have b2:(δ)<(J.length:Int):=of_decide_eq_true (by assumption)
           obtain⟨e7,e9,a4,a7⟩:=Zu ψ.out (δ) b1 b2
           have ζ :=a7
           have η :=a4
           obtain rfl: ε = e7:=(by injection e9)
           replace a4:=(HB.out.cell (World.block_lt_of_cell? w _ a4)).trans a4
           replace a7:=(HB.out.cell (World.block_lt_of_cell? w _ a7)).trans a7
           replace b1:=eq_true b1
           replace b2:=eq_true b2
           refine Ze (n:=21) (S:=fun w'=>w'.cell? ⟨Y,0,none⟩=some (.int .i64 ((Qk J B).f0))∧w'.cell? ⟨Y,1,none⟩=some (.int .i64 ((Qk J B).f1))∧w'.cell? ⟨a9,0,none⟩=some (.slice (some ε) J.length θ)∧w'.cell? ⟨a9,1,none⟩=some (.func (.func 57) #[] #[])∧w'.cell? (ε.add (((δ)).toNat * 2))=some (.int .i64 ((Qk J (δ)).f0))∧w'.cell? ⟨(ε.add (((δ)).toNat * 2)).block,(ε.add (((δ)).toNat * 2)).off+1,none⟩=some (.int .i64 ((Qk J (δ)).f1))) (ds:=[]) #[false,false,false,false,false,false,false,false,false,false,false,false,false,false,false,false,false,false,false,false,false] kr rfl rfl ⟨(Qi U.out 0).trans rfl,(Qi U.out 1).trans rfl,(Qi X.out 0).trans rfl,(Qi X.out 1).trans rfl,((HB.out.cell (World.block_lt_of_cell? w _ η)).trans η),((HB.out.cell (World.block_lt_of_cell? w _ ζ)).trans ζ)⟩ (fun hHeld=>?_);refine Q4 api_Inside_right.G0 api_Inside_right.J9 (fun HT_ HW_=>?_)
           generalize dw.drew=d0 at X U HB a4 a7 hHeld ⊢
           refine qP 0 (some 15) (bN 21 1) HT_ ?_
           refine qT 1 (some 16) (bN 21 3) HT_ HW_ hHeld ?_
           refine Zi (i:=2) (N:=some 17) (bN 21 7) rfl rfl (Q0 HT_.out kr) (by decide) (fun K hK=>?_)
           refine Xu Try.func50 kr rfl #[] #[.pointer (some ⟨gh_,0,none⟩)] #[.agg #[.int .i64 ((Qk J B).f0),.int .i64 ((Qk J B).f1)]] #[.agg #[.int .i64 ((Qk J B).f0),.int .i64 ((Qk J B).f1)],.pointer (some ⟨gh_,0,none⟩)] rfl (by rfl) rfl rfl rfl qM ?_
           with_reducible refine(call_inside_1.calls ((Qk J B).f0) ((Qk J B).f1) L true _ cw.out gh_ (Z0 HCH.out (by repeat(first|(with_reducible first|exact HB.out|apply Qh|apply Qc|apply Qe)|exact HB.out|(refine Qd ?_ (Aside0.out (by assumption))))))).mono ?_
           rintro e bp ⟨rfl,hb⟩
           refine⟨_,rfl, ?_⟩
           replace X:=sBk X hb
           replace U:=sBk U hb
           replace HB:=sHb hb
           (try clear hb)
           (try clear a0)
           (try clear hk)
           (try clear hi)
           refine hK.out _ _ ⟨qc U,qc U,qc X,qc X,((HB.out.cell (World.block_lt_of_cell? w _ η)).trans η),((HB.out.cell (World.block_lt_of_cell? w _ ζ)).trans ζ)⟩ (fun hHeld=>?_)
           clear hK K
           refine qN (some 17) ?_
           refine qP 3 (some 18) (bN 21 15) HT_ ?_
           refine qP 4 (some 19) (bN 21 31) HT_ ?_
           refine qP 5 (some 20) (bN 21 63) HT_ ?_
           refine qP 6 (some 21) (bN 21 127) HT_ ?_
           refine qP 7 (some 22) (bN 21 255) HT_ ?_
           refine qP 8 (some 23) (bN 21 511) HT_ ?_
           refine qP 10 (some 25) (bN 21 1535) HT_ ?_
           refine qP 12 (some 27) (bN 21 5631) HT_ ?_
           refine qP 13 (some 28) (bN 21 13823) HT_ ?_
           refine qT 9 (some 24) (bN 21 14335) HT_ HW_ hHeld ?_
           refine qT 11 (some 26) (bN 21 16383) HT_ HW_ hHeld ?_
           refine qP 14 (some 29) (bN 21 32767) HT_ ?_
           refine qT 15 (some 30) (bN 21 65535) HT_ HW_ hHeld ?_
           refine qT 16 (some 31) (bN 21 131071) HT_ HW_ hHeld ?_
           refine Zi (i:=17) (N:=some 32) (bN 21 262143) rfl rfl (Q0 HT_.out kr) (by decide) (fun K hK=>?_)
           refine Xu Try.func57 kr rfl #[] #[] #[.agg #[.int .i64 ((Qk J (δ)).f0),.int .i64 ((Qk J (δ)).f1)],.agg #[.int .i64 ((Qk J B).f0),.int .i64 ((Qk J B).f1)]] #[.agg #[.int .i64 ((Qk J (δ)).f0),.int .i64 ((Qk J (δ)).f1)],.agg #[.int .i64 ((Qk J B).f0),.int .i64 ((Qk J B).f1)]] rfl (by rfl) rfl rfl rfl (by(try simp only[List.map_toArray,List.map_cons,List.map_nil]);first|done|(simp only[aa];rfl)|rfl|(simp only[List.length_drop,List.length_take];rfl)) ?_
           with_reducible refine(call_ins_1.calls ((Qk J (δ)).f0) ((Qk J (δ)).f1) ((Qk J B).f0) ((Qk J B).f1) γ _ e5.out).mono ?_
           rintro e dr ⟨rfl,hb⟩
           refine⟨_,rfl, ?_⟩
           replace X:=sBk X hb
           replace U:=sBk U hb
           replace HB:=sHb hb
           (try clear hb)
           (try clear a0)
           (try clear hk)
           (try clear hi)
           refine hK.out _ _ ⟨qc U,qc U,qc X,qc X,((HB.out.cell (World.block_lt_of_cell? w _ η)).trans η),((HB.out.cell (World.block_lt_of_cell? w _ ζ)).trans ζ)⟩ (fun hHeld=>?_)
           clear hK K
           refine qN (some 32) ?_
           refine qP 18 (some 33) (bN 21 524287) HT_ ?_
           refine qP 19 (some 34) (bN 21 1048575) HT_ ?_
           refine qP 20 (some 35) (bN 21 2097151) HT_ ?_
           refine Zq (Zd HT_.out kr) ?_
           try go_wp2
           go_meet
           case rel=>exact⟨_,(decide (γ≥0)),rfl,H',⟨by have:= ξ.out;omega⟩,X,U,HB⟩
          ·rw[if_neg a5] at H
           exact absurd H (by simp)
         ·rw[if_neg an] at H
          exact absurd H (by simp)
        ·rw[if_neg az] at H
         have c14b0:decide (0<B)=false:=decide_eq_false az
         clear az
         (first|rw[c14b0]|(simp only[Zg,Zj];rw[c14b0])|skip)
         have H':=Aside0.mk H
         clear H
         try go_wp2
         have O:Aside0 (((w9.setCell ⟨Y,0,none⟩ (.int .i64 ((Qk J B).f0))).setCell ⟨Y,1,none⟩ (.int .i64 ((Qk J B).f1))).heap[a9]?=some (.cells #[.slice (some ε) J.length θ,.func (.func 57) #[] #[]] 74 (0,0))):=⟨bka X⟩
         have Z:Aside0 (((w9.setCell ⟨Y,0,none⟩ (.int .i64 ((Qk J B).f0))).setCell ⟨Y,1,none⟩ (.int .i64 ((Qk J B).f1))).heap[Y]?=some (.cells #[.int .i64 ((Qk J B).f0),.int .i64 ((Qk J B).f1)] 62 (0,0))):=⟨by refine Qw (cs:=#[.int .i64 ((Qk J B).f0),.int .i64 0]) ?_ 1 _ rfl;refine Qw (cs:=#[.int .i64 0,.int .i64 0]) ?_ 0 _ rfl;exact U.out⟩
         have ι :Aside0 (Below w.heap.size w ((w9.setCell ⟨Y,0,none⟩ (.int .i64 ((Qk J B).f0))).setCell ⟨Y,1,none⟩ (.int .i64 ((Qk J B).f1)))):=⟨bel⟩
         (try clear X)
         (try clear U)
         (try clear HB)
         generalize((w9.setCell ⟨Y,0,none⟩ (.int .i64 ((Qk J B).f0))).setCell ⟨Y,1,none⟩ (.int .i64 ((Qk J B).f1)))=dv at O Z ι ⊢
         have X:=O
         have U:=Z
         have HB:= ι
         clear O Z ι
         replace X:=Aside0.mk (Qb X.out)
         replace U:=Aside0.mk (Qb U.out)
         replace HB:=Aside0.mk (Qe HB.out)
         refine Ze (n:=21) (S:=fun w'=>w'.cell? ⟨Y,0,none⟩=some (.int .i64 ((Qk J B).f0))∧w'.cell? ⟨Y,1,none⟩=some (.int .i64 ((Qk J B).f1))) (ds:=[]) #[false,false,false,false,false,false,false,false,false,false,false,false,false,false,false,false,false,false,false,false,false] kr rfl rfl ⟨(Qi U.out 0).trans rfl,(Qi U.out 1).trans rfl⟩ (fun hHeld=>?_);refine Q4 api_Inside_right.G0 api_Inside_right.J9 (fun HT_ HW_=>?_)
         generalize dv.drew=bu at X U HB hHeld ⊢
         refine qP 0 (some 15) (bN 21 1) HT_ ?_
         refine qT 1 (some 16) (bN 21 3) HT_ HW_ hHeld ?_
         refine Zi (i:=2) (N:=some 17) (bN 21 7) rfl rfl (Q0 HT_.out kr) (by decide) (fun K hK=>?_)
         refine Xu Try.func50 kr rfl #[] #[.pointer (some ⟨gh_,0,none⟩)] #[.agg #[.int .i64 ((Qk J B).f0),.int .i64 ((Qk J B).f1)]] #[.agg #[.int .i64 ((Qk J B).f0),.int .i64 ((Qk J B).f1)],.pointer (some ⟨gh_,0,none⟩)] rfl (by rfl) rfl rfl rfl qM ?_
         with_reducible refine(call_inside_1.calls ((Qk J B).f0) ((Qk J B).f1) L true _ cw.out gh_ (Z0 HCH.out (by repeat(first|(with_reducible first|exact HB.out|apply Qh|apply Qc|apply Qe)|exact HB.out|(refine Qd ?_ (Aside0.out (by assumption))))))).mono ?_
         rintro e da ⟨rfl,hb⟩
         refine⟨_,rfl, ?_⟩
         replace X:=sBk X hb
         replace U:=sBk U hb
         replace HB:=sHb hb
         (try clear hb)
         (try clear a0)
         (try clear hk)
         (try clear hi)
         refine hK.out _ _ ⟨qc U,qc U⟩ (fun hHeld=>?_)
         clear hK K
         refine qN (some 17) ?_
         refine qP 3 (some 18) (bN 21 15) HT_ ?_
         refine qP 4 (some 19) (bN 21 31) HT_ ?_
         refine qP 5 (some 20) (bN 21 63) HT_ ?_
         refine qP 6 (some 21) (bN 21 127) HT_ ?_
         refine qP 7 (some 22) (bN 21 255) HT_ ?_
         refine qU 8 (some 23) (bN 21 511) HT_ ?_
         refine qU 9 (some 24) (bN 21 1023) HT_ ?_
         refine qU 10 (some 25) (bN 21 2047) HT_ ?_
         refine qU 11 (some 26) (bN 21 4095) HT_ ?_
         refine qU 12 (some 27) (bN 21 8191) HT_ ?_
         refine qU 13 (some 28) (bN 21 16383) HT_ ?_
         refine qU 14 (some 29) (bN 21 32767) HT_ ?_
         refine qU 15 (some 30) (bN 21 65535) HT_ ?_
         refine qU 16 (some 31) (bN 21 131071) HT_ ?_
         refine qU 17 (some 32) (bN 21 262143) HT_ ?_
         refine qU 18 (some 33) (bN 21 524287) HT_ ?_
         refine qP 19 (some 34) (bN 21 1048575) HT_ ?_
         refine qP 20 (some 35) (bN 21 2097151) HT_ ?_
         refine Zq (Zd HT_.out kr) ?_
         try go_wp2
         go_meet
         case rel=>exact⟨_,(false),rfl,H',⟨by have:= ξ.out;omega⟩,X,U,HB⟩
       ·replace ba:=Bool.eq_false_iff.mpr ba
        subst ba
        have H1:(api_Inside_right.j1 k1 L J (J.length:Int) B true J D)=some r:=by rw[if_neg (show ¬ (false=true) by decide)] at H;exact H
        clear H
        have H:=H1
        clear H1
        have H':=Aside0.mk H
        clear H
        try go_wp2
        have O:Aside0 (((w9.setCell ⟨Y,0,none⟩ (.int .i64 ((Qk J B).f0))).setCell ⟨Y,1,none⟩ (.int .i64 ((Qk J B).f1))).heap[a9]?=some (.cells #[.slice (some ε) J.length θ,.func (.func 57) #[] #[]] 74 (0,0))):=⟨bka X⟩
        have Z:Aside0 (((w9.setCell ⟨Y,0,none⟩ (.int .i64 ((Qk J B).f0))).setCell ⟨Y,1,none⟩ (.int .i64 ((Qk J B).f1))).heap[Y]?=some (.cells #[.int .i64 ((Qk J B).f0),.int .i64 ((Qk J B).f1)] 62 (0,0))):=⟨by refine Qw (cs:=#[.int .i64 ((Qk J B).f0),.int .i64 0]) ?_ 1 _ rfl;refine Qw (cs:=#[.int .i64 0,.int .i64 0]) ?_ 0 _ rfl;exact U.out⟩
        have ι :Aside0 (Below w.heap.size w ((w9.setCell ⟨Y,0,none⟩ (.int .i64 ((Qk J B).f0))).setCell ⟨Y,1,none⟩ (.int .i64 ((Qk J B).f1)))):=⟨bel⟩
        (try clear X)
        (try clear U)
        (try clear HB)
        generalize((w9.setCell ⟨Y,0,none⟩ (.int .i64 ((Qk J B).f0))).setCell ⟨Y,1,none⟩ (.int .i64 ((Qk J B).f1)))=bq at O Z ι ⊢
        have X:=O
        have U:=Z
        have HB:= ι
        clear O Z ι
        replace X:=Aside0.mk (Qb X.out)
        replace U:=Aside0.mk (Qb U.out)
        replace HB:=Aside0.mk (Qe HB.out)
        refine Ze (n:=21) (S:=fun w'=>w'.cell? ⟨Y,0,none⟩=some (.int .i64 ((Qk J B).f0))∧w'.cell? ⟨Y,1,none⟩=some (.int .i64 ((Qk J B).f1))) (ds:=[]) #[false,false,false,false,false,false,false,false,false,false,false,false,false,false,false,false,false,false,false,false,false] kr rfl rfl ⟨(Qi U.out 0).trans rfl,(Qi U.out 1).trans rfl⟩ (fun hHeld=>?_);refine Q4 api_Inside_right.G0 api_Inside_right.J9 (fun HT_ HW_=>?_)
        generalize bq.drew=e6 at X U HB hHeld ⊢
        refine qP 0 (some 15) (bN 21 1) HT_ ?_
        refine qT 1 (some 16) (bN 21 3) HT_ HW_ hHeld ?_
        refine Zi (i:=2) (N:=some 17) (bN 21 7) rfl rfl (Q0 HT_.out kr) (by decide) (fun K hK=>?_)
        refine Xu Try.func50 kr rfl #[] #[.pointer (some ⟨gh_,0,none⟩)] #[.agg #[.int .i64 ((Qk J B).f0),.int .i64 ((Qk J B).f1)]] #[.agg #[.int .i64 ((Qk J B).f0),.int .i64 ((Qk J B).f1)],.pointer (some ⟨gh_,0,none⟩)] rfl (by rfl) rfl rfl rfl qM ?_
        with_reducible refine(call_inside_1.calls ((Qk J B).f0) ((Qk J B).f1) L false _ cw.out gh_ (Z0 HCH.out (by repeat(first|(with_reducible first|exact HB.out|apply Qh|apply Qc|apply Qe)|exact HB.out|(refine Qd ?_ (Aside0.out (by assumption))))))).mono ?_
        rintro e fh ⟨rfl,hb⟩
        refine⟨_,rfl, ?_⟩
        replace X:=sBk X hb
        replace U:=sBk U hb
        replace HB:=sHb hb
        (try clear hb)
        (try clear a0)
        (try clear hk)
        (try clear hi)
        refine hK.out _ _ ⟨qc U,qc U⟩ (fun hHeld=>?_)
        clear hK K
        refine qN (some 17) ?_
        refine qP 3 (some 18) (bN 21 15) HT_ ?_
        refine qP 4 (some 19) (bN 21 31) HT_ ?_
        refine qU 5 (some 20) (bN 21 63) HT_ ?_
        refine qU 6 (some 21) (bN 21 127) HT_ ?_
        refine qU 7 (some 22) (bN 21 255) HT_ ?_
        refine qU 8 (some 23) (bN 21 511) HT_ ?_
        refine qU 9 (some 24) (bN 21 1023) HT_ ?_
        refine qU 10 (some 25) (bN 21 2047) HT_ ?_
        refine qU 11 (some 26) (bN 21 4095) HT_ ?_
        refine qU 12 (some 27) (bN 21 8191) HT_ ?_
        refine qU 13 (some 28) (bN 21 16383) HT_ ?_
        refine qU 14 (some 29) (bN 21 32767) HT_ ?_
        refine qU 15 (some 30) (bN 21 65535) HT_ ?_
        refine qU 16 (some 31) (bN 21 131071) HT_ ?_
        refine qU 17 (some 32) (bN 21 262143) HT_ ?_
        refine qU 18 (some 33) (bN 21 524287) HT_ ?_
        refine qU 19 (some 34) (bN 21 1048575) HT_ ?_
        refine qP 20 (some 35) (bN 21 2097151) HT_ ?_
        refine Zq (Zd HT_.out kr) ?_
        try go_wp2
        go_meet
        case rel=>exact⟨_,(true),rfl,H',⟨by have:= ξ.out;omega⟩,X,U,HB⟩
      case rest=>
       clear al
       try clear c1
       try clear p1
       try clear q1
       try clear bm
       try clear p2
       try clear c5
       try clear n1
       try clear n2
       try clear jt
       try clear ba
       try clear az
       try clear c14b0
       try clear an
       try clear c16b0
       try clear a5
       try clear c17b0
       try clear a4
       try clear a7
       try clear b1
       try clear b2
       obtain⟨kq,I,rfl,HA,av,X,U,HB⟩:=hcut
       cases kq with
       |zero=>exact absurd HA.out (by simp[api_Inside_right.j1])
       |succ aw=>
        have H:=HA.out
        clear HA
        simp only[api_Inside_right.j1] at H
        by_cases ce:I=true
        ·subst ce
         have H1:(some false)=some r:=by rw[if_pos rfl] at H;exact H
         clear H
         have H:=H1
         clear H1
         obtain rfl:=Option.some.inj H
         go_wp2
         go_ret
         exact⟨rfl,HB.out⟩
        ·replace ce:=Bool.eq_false_iff.mpr ce
         subst ce
         have H1:(api_Inside_right.l0 aw L J (J.length:Int) (wrap64 (B+1)) J D)=some r:=by rw[if_neg (show ¬ (false=true) by decide)] at H;exact H
         clear H
         have H:=H1
         clear H1
         have H':=Aside0.mk H
         clear H
         go_wp2
         go_roundg aw
         case measure=>have:= ξ.out;have:=av.out;omega
         case rel=>exact⟨(wrap64 (B+1)),rfl,H',⟨by have:= ξ.out;have:=av.out;omega⟩,X,HB⟩
     ·rw[if_neg c7] at H
      exact absurd H (by simp)
    ·rw[if_neg c6] at H
     exact absurd H (by simp)
   ·rw[if_neg c5] at H
    have c5b0:decide (B<(J.length:Int))=false:=decide_eq_false c5
    clear c5
    obtain rfl:=Option.some.inj H
    go_wp2
    go_ret
    exact⟨rfl,HB.out⟩
end Go.Proofs.Ytjehhhlhalkieaa.C
namespace Go.Proofs.Ytjehhhlhalkieaa.Call
open Go.RowKit Go.Proofs.YtjehhhlhalkieaaW.PrintWords Go.Proofs.YtjehhhlhalkieaaW.PrintLast Go.Proofs.YtjehhhlhalkieaaW.PrintMore Go.Proofs.Ytjehhhlhalkieaa.C
set_option linter.unusedVariables false
set_option linter.unusedSimpArgs false
theorem V7 (a b:Int):V9 a b<0↔a<b:=by unfold V9;split <;> (try split) <;> omega
theorem V8 (a b:Int):V9 a b=0↔a=b:=by unfold V9;split <;> (try split) <;> omega
theorem X0 (a b c d:Int):Zz a b c d<0↔(a<c∨(a=c∧b<d)):=by
  unfold Zz
  have h1:=V7 a c
  have O:=V8 a c
  have L:=V7 b d
  split <;> omega
theorem Xt (a b c d:Int):Zz a b c d=0↔(a=c∧b=d):=by
  unfold Zz
  have h1:=V7 a c
  have O:=V8 a c
  have L:=V8 b d
  split <;> omega
def Vm {α:Type} (q:α→Bool):Nat→List α→Int
  |_,[]=> -1
  |i,x :: l=>if q x=true then (i:Int) else Vm q (i+1) l
theorem Vt {α:Type} (q:α→Bool) (l:List α):∀ i:Nat,(Vm q i l = -1 ∧ ∀ x ∈ l,q x=false) ∨ ∃ k:Nat,∃ h:k<l.length,Vm q i l=((i+k:Nat):Int)∧q l[k]=true ∧ ∀ x ∈ l.take k,q x=false:=by
  induction l with
  |nil=>intro i;exact .inl ⟨rfl,by simp⟩
  |cons x l ih=>
    intro i
    simp only[Vm]
    by_cases h:q x=true
    · rw[if_pos h]
      exact .inr ⟨0,by simp,by simp,by simpa using h,by simp⟩
    · rw[if_neg h]
      have hf:q x=false:=by simpa using h
      rcases ih (i+1) with⟨e,ha⟩|⟨k,hk,e,ht,ha⟩
      · refine .inl ⟨e,fun y hy=>?_⟩
        rcases List.mem_cons.1 hy with rfl|hy
        · exact hf
        · exact ha y hy
      · refine .inr ⟨k+1,by simpa using hk,by rw[e];congr 1;omega,by simpa using ht,fun y hy=>?_⟩
        rw[List.take_succ_cons] at hy
        rcases List.mem_cons.1 hy with rfl|hy
        · exact hf
        · exact ha y hy
def Zs {α:Type} (may:α→Bool) (lt:α→α→Bool):Option α→List α→Bool
  |_,[]=>true
  |none,x :: l=>may x&&Zs may lt (some x) l
  |some p,x :: l=>(may x&&lt p x)&&Zs may lt (some x) l
abbrev qH (L:Int) (x:S56):Bool:=Zz (Yf L) (Ye L) x.f0 x.f1==0
def ltH (x y:S56):Bool:=decide (Zz x.f0 x.f1 y.f0 y.f1<0)
theorem Ya (x y:S56):ltH x y=true↔(x.f0<y.f0∨(x.f0=y.f0∧x.f1<y.f1)):=by
  unfold ltH
  rw[decide_eq_true_iff,X0]
theorem Vs {x y z:S56} (h1:ltH x y=true) (O:ltH y z=true):ltH x z=true:=by
  rw[Ya] at *
  omega
theorem Y7 (l:List S56) (i:Nat) (h:i<l.length):Qa l (i:Int)=l[i]:=by
  unfold Qa
  rw[Int.toNat_natCast,List.getD_eq_getElem?_getD,List.getElem?_eq_getElem h]
  rfl
theorem Lz (l:List S56) (L:Int) (hm:l.length≤1000000000) (j:Nat):∀ (f i:Nat),i+j=l.length→j<f→api_Hall_67.l0 f l L (l.length:Int) (i:Int)=some (Vm (qH L) i (l.drop i)):=by
  induction j with
  |zero=>
    intro f i hi hf
    obtain⟨f,rfl⟩:∃ m,f=m+1:=⟨f-1,by omega⟩
    simp only[api_Hall_67.l0]
    rw[if_neg (by omega),List.drop_of_length_le (by omega)]
    rfl
  |succ j ih=>
    intro f i hi hf
    obtain⟨f,rfl⟩:∃ m,f=m+1:=⟨f-1,by omega⟩
    have ha:i<l.length:=by omega
    have ei:wrap64 ((i:Int)+1)=((i+1:Nat):Int):=by unfold wrap64;omega
    simp only[api_Hall_67.l0]
    rw[if_pos (by omega),if_pos (by omega),if_pos (by omega),Y7 l i ha,ei,ih f (i+1) (by omega) (by omega)]
    unfold api_Hall_without_1.f
    simp only[Option.bind_some]
    rw[List.drop_eq_getElem_cons ha]
    simp only[Vm]
    by_cases h:qH L l[i]=true
    · rw[if_pos h,if_pos h]
    · rw[if_neg h,if_neg h]
theorem N0 (l:List S56) (L:Int) (hm:l.length≤1000000000) (k:Nat) (hk:l.length<k):api_Hall_67.f k l L=some (Vm (qH L) 0 l):=by
  unfold api_Hall_67.f
  have:=Lz l L hm l.length k 0 (by omega) hk
  simpa using this
theorem L1 (l:List S56) (L:Int) (hm:l.length≤1000000000) (j:Nat):∀ (f:Nat) (x:List S56) (i m:Nat),x.length=l.length→m+j=l.length→i≤m→j<f→x.drop m=l.drop m→x.take i=(l.take m).filter (fun y=> !qH L y) →
    api_Hall_54.l0 f x L (i:Int) (m:Int)=some (l.filter (fun y=> !qH L y)):=by
  induction j with
  |zero=>
    intro f x i m hx hj him hf hd ht
    obtain⟨f,rfl⟩:∃ m,f=m+1:=⟨f-1,by omega⟩
    simp only[api_Hall_54.l0]
    rw[if_neg (by omega),if_pos (by omega),if_pos (by omega),Int.toNat_natCast,ht,List.take_of_length_le (by omega)]
  |succ j ih=>
    intro f x i m hx hj him hf hd ht
    obtain⟨f,rfl⟩:∃ m,f=m+1:=⟨f-1,by omega⟩
    have ha:m<l.length:=by omega
    have hax:m<x.length:=by omega
    have em:wrap64 ((m:Int)+1)=((m+1:Nat):Int):=by unfold wrap64;omega
    have ei:wrap64 ((i:Int)+1)=((i+1:Nat):Int):=by unfold wrap64;omega
    have hxm:x[m]=l[m]:=by
      have h1:=List.drop_eq_getElem_cons hax
      have O:=List.drop_eq_getElem_cons ha
      rw[hd,O] at h1
      exact(List.cons.inj h1).1.symm
    have B:x.drop (m+1)=l.drop (m+1):=by
      have h1:=List.drop_eq_getElem_cons hax
      have O:=List.drop_eq_getElem_cons ha
      rw[hd,O] at h1
      exact(List.cons.inj h1).2.symm
    have D:(l.take (m+1)).filter (fun y=> !qH L y)=(l.take m).filter (fun y=> !qH L y) ++ [l[m]].filter (fun y=> !qH L y):=by
      rw[List.take_succ_eq_append_getElem ha,List.filter_append]
    simp only[api_Hall_54.l0]
    rw[if_pos (by omega),if_pos (by omega),Y7 x m hax,hxm,em,ei]
    unfold api_Hall_without_1.f
    simp only[Option.bind_some]
    by_cases h:qH L l[m]=true
    · rw[if_pos h]
      refine ih f x i (m+1) hx (by omega) (by omega) (by omega) B ?_
      rw[D,ht]
      simp only[List.filter_cons,List.filter_nil]
      rw[if_neg (by rw[h];decide),List.append_nil]
    · have hf':qH L l[m]=false:=by simpa using h
      rw[if_neg h,if_pos (by omega),if_pos (by omega),Int.toNat_natCast]
      refine ih f (x.set i _) (i+1) (m+1) (by rw[List.length_set];exact hx) (by omega) (by omega) (by omega) ?_ ?_
      · rw[List.drop_set_of_lt (by omega)]
        exact B
      · rw[D]
        simp only[List.filter_cons,List.filter_nil]
        rw[if_pos (by rw[hf'];rfl),List.take_succ_eq_append_getElem (by rw[List.length_set];omega),List.getElem_set_self,List.take_set_of_le (by omega),ht]
theorem N3 (l:List S56) (L:Int) (hm:l.length≤1000000000) (k:Nat) (hk:l.length+5<k):api_Hall_54.f k l L=some (l.filter (fun y=> !qH L y)):=by
  unfold api_Hall_54.f
  rw[N0 l L hm k (by omega)]
  simp only[Option.bind_some]
  rcases Vt (qH L) l 0 with⟨e,ha⟩|⟨i,hi,e,ht,ha⟩
  · rw[e,if_pos rfl]
    congr 1
    exact(List.filter_eq_self.2 (fun y hy=>by rw[ha y hy];rfl)).symm
  · rw[e,Nat.zero_add,if_neg (by omega)]
    have ei:wrap64 ((i:Int)+1)=((i+1:Nat):Int):=by unfold wrap64;omega
    rw[ei]
    refine L1 l L hm (l.length - (i+1)) k l i (i+1) rfl (by omega) (by omega) (by omega) rfl ?_
    rw[List.take_succ_eq_append_getElem hi,List.filter_append]
    simp only[List.filter_cons,List.filter_nil]
    rw[if_neg (by rw[ht];decide),List.append_nil]
    exact(List.filter_eq_self.2 (fun y hy=>by rw[ha y hy];rfl)).symm
def Ve (l:List S56) (D J:Int) (p:Nat):Prop:=p≤l.length∧(∀ y ∈ l.take p,Zz y.f0 y.f1 D J<0)∧(∀ y ∈ l.drop p,¬ Zz y.f0 y.f1 D J<0)
def Gc (l:List S56) (D J:Int) (p:Nat):Bool:=match l[p]? with|some y=>Zz y.f0 y.f1 D J==0|none=>false
theorem V2 (l:List S56) (D J X:Int) (hm:l.length≤1000000000) (hs:l.Pairwise (fun x y=>ltH x y=true)) (d:Nat):∀ (f i j:Nat),j-i≤d→i≤j→j≤l.length→d<f→(∀ y ∈ l.take i,Zz y.f0 y.f1 D J<0)→(∀ y ∈ l.drop j,¬ Zz y.f0 y.f1 D J<0) →
    ∃ p,Ve l D J p∧api_Hall_62.l0 f l (l.length:Int) (i:Int) (j:Int) D J X=some ((p:Int),Gc l D J p):=by
  have stop:∀ (f i:Nat),0<f→i≤l.length→(∀ y ∈ l.take i,Zz y.f0 y.f1 D J<0)→(∀ y ∈ l.drop i,¬ Zz y.f0 y.f1 D J<0) → ∃ p,Ve l D J p∧api_Hall_62.l0 f l (l.length:Int) (i:Int) (i:Int) D J X=some ((p:Int),Gc l D J p):=by
    intro f i hf hi h1 O
    obtain⟨f,rfl⟩:∃ m,f=m+1:=⟨f-1,by omega⟩
    refine⟨i,⟨hi,h1,O⟩, ?_⟩
    simp only[api_Hall_62.l0]
    unfold Gc
    rw[if_neg (by omega)]
    by_cases h:i<l.length
    · rw[if_pos (by omega),if_pos (by omega),if_pos (by omega),Y7 l i h,List.getElem?_eq_getElem h]
      rfl
    · rw[if_neg (by omega),List.getElem?_eq_none (by omega)]
  induction d with
  |zero=>
    intro f i j hd hij hj hf h1 O
    obtain rfl:i=j:=by omega
    exact stop f i hf hj h1 O
  |succ d ih=>
    intro f i j hd hij hj hf h1 O
    by_cases he:i=j
    · subst he
      exact stop f i (by omega) hj h1 O
    · obtain⟨f,rfl⟩:∃ m,f=m+1:=⟨f-1,by omega⟩
      have hmid:wrap64 ((IntKind.u64.wrap (wrap64 ((i:Int)+(j:Int)))) / 2)=(((i+j) / 2:Nat):Int):=by
        rw[show wrap64 ((i:Int)+(j:Int))=(i:Int)+(j:Int) from by unfold wrap64;omega,IntKind.wrap_u64]
        unfold wrap64;omega
      have Z:wrap64 ((((i+j) / 2:Nat):Int)+1)=(((i+j) / 2+1:Nat):Int):=by unfold wrap64;omega
      simp only[api_Hall_62.l0]
      rw[if_pos (by omega),hmid]
      have hh:(i+j) / 2<l.length:=by omega
      generalize hg:(i+j) / 2=h at *
      rw[if_pos (by omega),if_pos (by omega),Y7 l h hh,Z]
      unfold call_halls_1.f
      simp only[Option.bind_some]
      have hlt:∀ m:Nat,(hm:m<h)→Zz (l[m]'(by omega)).f0 (l[m]'(by omega)).f1 l[h].f0 l[h].f1<0:=by
        intro m hm
        have:=List.pairwise_iff_getElem.1 hs m h (by omega) hh hm
        exact of_decide_eq_true this
      have hgt:∀ m:Nat,h<m→(hm:m<l.length)→Zz l[h].f0 l[h].f1 l[m].f0 l[m].f1<0:=by
        intro m hm hml
        have:=List.pairwise_iff_getElem.1 hs h m hh hml hm
        exact of_decide_eq_true this
      by_cases hc:Zz l[h].f0 l[h].f1 D J<0
      · rw[if_pos hc]
        refine ih f (h+1) j (by omega) (by omega) hj (by omega) ?_ O
        intro y hy
        obtain⟨m,hm,rfl⟩:=List.mem_iff_getElem.1 hy
        rw[List.length_take] at hm
        rw[List.getElem_take]
        by_cases hmh:m=h
        · subst hmh;exact hc
        · have L:=hlt m (by omega)
          rw[X0] at *
          omega
      · rw[if_neg hc]
        refine ih f i h (by omega) (by omega) (by omega) (by omega) h1 ?_
        intro y hy
        obtain⟨m,hm,rfl⟩:=List.mem_iff_getElem.1 hy
        rw[List.length_drop] at hm
        rw[List.getElem_drop]
        by_cases hmh:m=0
        · subst hmh;simpa using hc
        · have L:=hgt (h+m) (by omega) (by omega)
          rw[X0] at *
          omega
theorem G2 (l:List S56) (D J X:Int) (a2:Int) (hm:l.length≤1000000000) (hs:l.Pairwise (fun x y=>ltH x y=true)) (k:Nat) (hk:l.length<k):
    ∃ p,Ve l D J p∧api_Hall_62.f k l D J X a2=some ((p:Int),Gc l D J p):=by
  unfold api_Hall_62.f
  have:=V2 l D J X hm hs l.length k 0 l.length (by omega) (by omega) (by omega) hk (by simp) (by simp)
  simpa using this
theorem Us (l:List S56) (L tok_:Int) (hm:l.length≤1000000000) (j:Nat):∀ (f i:Nat),i+j=l.length→2 * j<f→api_Hall_right.l0 f L l (l.length:Int) (i:Int) l tok_=some (Zs (fun x=>Xq (Yf L) (Ye L) x.f0 x.f1 x.f2) ltH (if i=0 then none else l[i-1]?) (l.drop i)):=by
  induction j with
  |zero=>
    intro f i hi hf
    obtain⟨f,rfl⟩:∃ m,f=m+1:=⟨f-1,by omega⟩
    simp only[api_Hall_right.l0]
    rw[if_neg (by omega),List.drop_of_length_le (by omega)]
    cases(if i=0 then none else l[i-1]?) <;> rfl
  |succ j ih=>
    intro f i hi hf
    obtain⟨f,rfl⟩:∃ m,f=m+2:=⟨f-2,by omega⟩
    have ha:i<l.length:=by omega
    have ei:wrap64 ((i:Int)+1)=((i+1:Nat):Int):=by unfold wrap64;omega
    have jt:api_Hall_right.j1 (f+1) L l (l.length:Int) (i:Int) true l tok_=some false:=by simp[api_Hall_right.j1]
    have jf:api_Hall_right.j1 (f+1) L l (l.length:Int) (i:Int) false l tok_=some (Zs (fun x=>Xq (Yf L) (Ye L) x.f0 x.f1 x.f2) ltH (some l[i]) (l.drop (i+1))):=by
      simp only[api_Hall_right.j1]
      rw[if_neg (by decide),ei,ih f (i+1) (by omega) (by omega),if_neg (by omega),Nat.add_sub_cancel,List.getElem?_eq_getElem ha]
    simp only[api_Hall_right.l0]
    rw[if_pos (by omega),if_pos (by omega),if_pos (by omega),Y7 l i ha]
    unfold call_hall_1.f
    simp only[Option.bind_some]
    rw[List.drop_eq_getElem_cons ha]
    by_cases h1:Xq (Yf L) (Ye L) l[i].f0 l[i].f1 l[i].f2=true
    · rw[if_pos h1]
      by_cases U:i=0
      · subst U
        rw[if_neg (by omega),if_pos rfl,jf]
        simp only[Zs,h1,Bool.true_and]
      · have ep:wrap64 ((i:Int)-1)=((i-1:Nat):Int):=by unfold wrap64;omega
        rw[if_pos (by omega),ep,if_pos (by omega),if_pos (by omega),Y7 l (i-1) (by omega),if_neg U,List.getElem?_eq_getElem (by omega)]
        unfold call_halls_1.f
        simp only[Option.bind_some]
        simp only[Zs,h1,Bool.true_and]
        unfold ltH
        by_cases hc:Zz (l[i-1]'(by omega)).f0 (l[i-1]'(by omega)).f1 l[i].f0 l[i].f1<0
        · rw[decide_eq_false (by omega),decide_eq_true hc,jf,Bool.true_and]
          rfl
        · rw[decide_eq_true (by omega),decide_eq_false hc,jt,Bool.false_and]
    · have h1':Xq (Yf L) (Ye L) l[i].f0 l[i].f1 l[i].f2=false:=by simpa using h1
      rw[if_neg h1,jt]
      by_cases U:i=0
      · rw[if_pos U]
        simp only[Zs,h1',Bool.false_and]
      · rw[if_neg U,List.getElem?_eq_getElem (by omega)]
        simp only[Zs,h1',Bool.false_and]
theorem Lj (l:List S56) (L tok_:Int) (hm:l.length≤1000000000) (k:Nat) (hk:2 * l.length<k):api_Hall_right.f k l tok_ L=some (Zs (fun x=>Xq (Yf L) (Ye L) x.f0 x.f1 x.f2) ltH none l):=by
  unfold api_Hall_right.f
  have:=Us l L tok_ hm l.length k 0 (by omega) hk
  simpa using this
theorem Ur (may:S56→Bool) (l:List S56):∀ p,Zs may ltH (some p) l=true↔((∀ x ∈ l,may x=true)∧(p :: l).Pairwise (fun x y=>ltH x y=true)):=by
  induction l with
  |nil=>intro p;simp[Zs]
  |cons x l ih=>
    intro p
    simp only[Zs,Bool.and_eq_true]
    rw[ih x]
    simp only[List.pairwise_cons,List.mem_cons,forall_eq_or_imp]
    constructor
    · rintro⟨⟨h1,O⟩,L,Y,I⟩
      exact⟨⟨h1,L⟩,⟨O,fun y hy=>Vs O (Y y hy)⟩,Y,I⟩
    · rintro⟨⟨h1,L⟩,⟨O,_⟩,Y,I⟩
      exact⟨⟨h1,O⟩,L,Y,I⟩
theorem Ji (may:S56→Bool) (l:List S56):Zs may ltH none l=true↔((∀ x ∈ l,may x=true)∧l.Pairwise (fun x y=>ltH x y=true)):=by
  cases l with
  |nil=>simp[Zs]
  |cons x l=>
    simp only[Zs,Bool.and_eq_true]
    rw[Ur]
    simp only[List.mem_cons,forall_eq_or_imp]
    constructor
    · rintro⟨h1,O,L⟩
      exact⟨⟨h1,O⟩,L⟩
    · rintro⟨⟨h1,O⟩,L⟩
      exact⟨h1,O,L⟩
abbrev qI (L:Int) (x:S62):Bool:=Zz (Yf L) (Ye L) x.f0 x.f1==0
def ltI (x y:S62):Bool:=decide (Zz x.f0 x.f1 y.f0 y.f1<0)
theorem Y0 (x y:S62):ltI x y=true↔(x.f0<y.f0∨(x.f0=y.f0∧x.f1<y.f1)):=by
  unfold ltI
  rw[decide_eq_true_iff,X0]
theorem Vr {x y z:S62} (h1:ltI x y=true) (O:ltI y z=true):ltI x z=true:=by
  rw[Y0] at *
  omega
theorem Y6 (l:List S62) (i:Nat) (h:i<l.length):Qk l (i:Int)=l[i]:=by
  unfold Qk
  rw[Int.toNat_natCast,List.getD_eq_getElem?_getD,List.getElem?_eq_getElem h]
  rfl
theorem Ly (l:List S62) (L:Int) (hm:l.length≤1000000000) (j:Nat):∀ (f i:Nat),i+j=l.length→j<f→api_Inside_72.l0 f l L (l.length:Int) (i:Int)=some (Vm (qI L) i (l.drop i)):=by
  induction j with
  |zero=>
    intro f i hi hf
    obtain⟨f,rfl⟩:∃ m,f=m+1:=⟨f-1,by omega⟩
    simp only[api_Inside_72.l0]
    rw[if_neg (by omega),List.drop_of_length_le (by omega)]
    rfl
  |succ j ih=>
    intro f i hi hf
    obtain⟨f,rfl⟩:∃ m,f=m+1:=⟨f-1,by omega⟩
    have ha:i<l.length:=by omega
    have ei:wrap64 ((i:Int)+1)=((i+1:Nat):Int):=by unfold wrap64;omega
    simp only[api_Inside_72.l0]
    rw[if_pos (by omega),if_pos (by omega),if_pos (by omega),Y6 l i ha,ei,ih f (i+1) (by omega) (by omega)]
    unfold api_Inside_without_1.f
    simp only[Option.bind_some]
    rw[List.drop_eq_getElem_cons ha]
    simp only[Vm]
    by_cases h:qI L l[i]=true
    · rw[if_pos h,if_pos h]
    · rw[if_neg h,if_neg h]
theorem Nz (l:List S62) (L:Int) (hm:l.length≤1000000000) (k:Nat) (hk:l.length<k):api_Inside_72.f k l L=some (Vm (qI L) 0 l):=by
  unfold api_Inside_72.f
  have:=Ly l L hm l.length k 0 (by omega) hk
  simpa using this
theorem L0 (l:List S62) (L:Int) (hm:l.length≤1000000000) (j:Nat):∀ (f:Nat) (x:List S62) (i m:Nat),x.length=l.length→m+j=l.length→i≤m→j<f→x.drop m=l.drop m→x.take i=(l.take m).filter (fun y=> !qI L y) →
    api_Inside_64.l0 f x L (i:Int) (m:Int)=some (l.filter (fun y=> !qI L y)):=by
  induction j with
  |zero=>
    intro f x i m hx hj him hf hd ht
    obtain⟨f,rfl⟩:∃ m,f=m+1:=⟨f-1,by omega⟩
    simp only[api_Inside_64.l0]
    rw[if_neg (by omega),if_pos (by omega),if_pos (by omega),Int.toNat_natCast,ht,List.take_of_length_le (by omega)]
  |succ j ih=>
    intro f x i m hx hj him hf hd ht
    obtain⟨f,rfl⟩:∃ m,f=m+1:=⟨f-1,by omega⟩
    have ha:m<l.length:=by omega
    have hax:m<x.length:=by omega
    have em:wrap64 ((m:Int)+1)=((m+1:Nat):Int):=by unfold wrap64;omega
    have ei:wrap64 ((i:Int)+1)=((i+1:Nat):Int):=by unfold wrap64;omega
    have hxm:x[m]=l[m]:=by
      have h1:=List.drop_eq_getElem_cons hax
      have O:=List.drop_eq_getElem_cons ha
      rw[hd,O] at h1
      exact(List.cons.inj h1).1.symm
    have B:x.drop (m+1)=l.drop (m+1):=by
      have h1:=List.drop_eq_getElem_cons hax
      have O:=List.drop_eq_getElem_cons ha
      rw[hd,O] at h1
      exact(List.cons.inj h1).2.symm
    have D:(l.take (m+1)).filter (fun y=> !qI L y)=(l.take m).filter (fun y=> !qI L y) ++ [l[m]].filter (fun y=> !qI L y):=by
      rw[List.take_succ_eq_append_getElem ha,List.filter_append]
    simp only[api_Inside_64.l0]
    rw[if_pos (by omega),if_pos (by omega),Y6 x m hax,hxm,em,ei]
    unfold api_Inside_without_1.f
    simp only[Option.bind_some]
    by_cases h:qI L l[m]=true
    · rw[if_pos h]
      refine ih f x i (m+1) hx (by omega) (by omega) (by omega) B ?_
      rw[D,ht]
      simp only[List.filter_cons,List.filter_nil]
      rw[if_neg (by rw[h];decide),List.append_nil]
    · have hf':qI L l[m]=false:=by simpa using h
      rw[if_neg h,if_pos (by omega),if_pos (by omega),Int.toNat_natCast]
      refine ih f (x.set i _) (i+1) (m+1) (by rw[List.length_set];exact hx) (by omega) (by omega) (by omega) ?_ ?_
      · rw[List.drop_set_of_lt (by omega)]
        exact B
      · rw[D]
        simp only[List.filter_cons,List.filter_nil]
        rw[if_pos (by rw[hf'];rfl),List.take_succ_eq_append_getElem (by rw[List.length_set];omega),List.getElem_set_self,List.take_set_of_le (by omega),ht]
theorem N2 (l:List S62) (L:Int) (hm:l.length≤1000000000) (k:Nat) (hk:l.length+5<k):api_Inside_64.f k l L=some (l.filter (fun y=> !qI L y)):=by
  unfold api_Inside_64.f
  rw[Nz l L hm k (by omega)]
  simp only[Option.bind_some]
  rcases Vt (qI L) l 0 with⟨e,ha⟩|⟨i,hi,e,ht,ha⟩
  · rw[e,if_pos rfl]
    congr 1
    exact(List.filter_eq_self.2 (fun y hy=>by rw[ha y hy];rfl)).symm
  · rw[e,Nat.zero_add,if_neg (by omega)]
    have ei:wrap64 ((i:Int)+1)=((i+1:Nat):Int):=by unfold wrap64;omega
    rw[ei]
    refine L0 l L hm (l.length - (i+1)) k l i (i+1) rfl (by omega) (by omega) (by omega) rfl ?_
    rw[List.take_succ_eq_append_getElem hi,List.filter_append]
    simp only[List.filter_cons,List.filter_nil]
    rw[if_neg (by rw[ht];decide),List.append_nil]
    exact(List.filter_eq_self.2 (fun y hy=>by rw[ha y hy];rfl)).symm
def Wv (l:List S62) (D J:Int) (p:Nat):Prop:=p≤l.length∧(∀ y ∈ l.take p,Zz y.f0 y.f1 D J<0)∧(∀ y ∈ l.drop p,¬ Zz y.f0 y.f1 D J<0)
def Wp (l:List S62) (D J:Int) (p:Nat):Bool:=match l[p]? with|some y=>Zz y.f0 y.f1 D J==0|none=>false
theorem V1 (l:List S62) (D J:Int) (hm:l.length≤1000000000) (hs:l.Pairwise (fun x y=>ltI x y=true)) (d:Nat):∀ (f i j:Nat),j-i≤d→i≤j→j≤l.length→d<f→(∀ y ∈ l.take i,Zz y.f0 y.f1 D J<0)→(∀ y ∈ l.drop j,¬ Zz y.f0 y.f1 D J<0) →
    ∃ p,Wv l D J p∧api_Inside_58.l0 f l (l.length:Int) (i:Int) (j:Int) D J=some ((p:Int),Wp l D J p):=by
  have stop:∀ (f i:Nat),0<f→i≤l.length→(∀ y ∈ l.take i,Zz y.f0 y.f1 D J<0)→(∀ y ∈ l.drop i,¬ Zz y.f0 y.f1 D J<0) → ∃ p,Wv l D J p∧api_Inside_58.l0 f l (l.length:Int) (i:Int) (i:Int) D J=some ((p:Int),Wp l D J p):=by
    intro f i hf hi h1 O
    obtain⟨f,rfl⟩:∃ m,f=m+1:=⟨f-1,by omega⟩
    refine⟨i,⟨hi,h1,O⟩, ?_⟩
    simp only[api_Inside_58.l0]
    unfold Wp
    rw[if_neg (by omega)]
    by_cases h:i<l.length
    · rw[if_pos (by omega),if_pos (by omega),if_pos (by omega),Y6 l i h,List.getElem?_eq_getElem h]
      rfl
    · rw[if_neg (by omega),List.getElem?_eq_none (by omega)]
  induction d with
  |zero=>
    intro f i j hd hij hj hf h1 O
    obtain rfl:i=j:=by omega
    exact stop f i hf hj h1 O
  |succ d ih=>
    intro f i j hd hij hj hf h1 O
    by_cases he:i=j
    · subst he
      exact stop f i (by omega) hj h1 O
    · obtain⟨f,rfl⟩:∃ m,f=m+1:=⟨f-1,by omega⟩
      have hmid:wrap64 ((IntKind.u64.wrap (wrap64 ((i:Int)+(j:Int)))) / 2)=(((i+j) / 2:Nat):Int):=by
        rw[show wrap64 ((i:Int)+(j:Int))=(i:Int)+(j:Int) from by unfold wrap64;omega,IntKind.wrap_u64]
        unfold wrap64;omega
      have Z:wrap64 ((((i+j) / 2:Nat):Int)+1)=(((i+j) / 2+1:Nat):Int):=by unfold wrap64;omega
      simp only[api_Inside_58.l0]
      rw[if_pos (by omega),hmid]
      have hh:(i+j) / 2<l.length:=by omega
      generalize hg:(i+j) / 2=h at *
      rw[if_pos (by omega),if_pos (by omega),Y6 l h hh,Z]
      unfold call_ins_1.f
      simp only[Option.bind_some]
      have hlt:∀ m:Nat,(hm:m<h)→Zz (l[m]'(by omega)).f0 (l[m]'(by omega)).f1 l[h].f0 l[h].f1<0:=by
        intro m hm
        have:=List.pairwise_iff_getElem.1 hs m h (by omega) hh hm
        exact of_decide_eq_true this
      have hgt:∀ m:Nat,h<m→(hm:m<l.length)→Zz l[h].f0 l[h].f1 l[m].f0 l[m].f1<0:=by
        intro m hm hml
        have:=List.pairwise_iff_getElem.1 hs h m hh hml hm
        exact of_decide_eq_true this
      by_cases hc:Zz l[h].f0 l[h].f1 D J<0
      · rw[if_pos hc]
        refine ih f (h+1) j (by omega) (by omega) hj (by omega) ?_ O
        intro y hy
        obtain⟨m,hm,rfl⟩:=List.mem_iff_getElem.1 hy
        rw[List.length_take] at hm
        rw[List.getElem_take]
        by_cases hmh:m=h
        · subst hmh;exact hc
        · have L:=hlt m (by omega)
          rw[X0] at *
          omega
      · rw[if_neg hc]
        refine ih f i h (by omega) (by omega) (by omega) (by omega) h1 ?_
        intro y hy
        obtain⟨m,hm,rfl⟩:=List.mem_iff_getElem.1 hy
        rw[List.length_drop] at hm
        rw[List.getElem_drop]
        by_cases hmh:m=0
        · subst hmh;simpa using hc
        · have L:=hgt (h+m) (by omega) (by omega)
          rw[X0] at *
          omega
theorem U9 (l:List S62) (D J:Int) (a2:Int) (hm:l.length≤1000000000) (hs:l.Pairwise (fun x y=>ltI x y=true)) (k:Nat) (hk:l.length<k):
    ∃ p,Wv l D J p∧api_Inside_58.f k l D J a2=some ((p:Int),Wp l D J p):=by
  unfold api_Inside_58.f
  have:=V1 l D J hm hs l.length k 0 l.length (by omega) (by omega) (by omega) hk (by simp) (by simp)
  simpa using this
theorem Uq (l:List S62) (L tok_:Int) (hm:l.length≤1000000000) (j:Nat):∀ (f i:Nat),i+j=l.length→2 * j<f→api_Inside_right.l0 f L l (l.length:Int) (i:Int) l tok_=some (Zs (fun x=>Yw (Yf L) (Ye L) x.f0 x.f1) ltI (if i=0 then none else l[i-1]?) (l.drop i)):=by
  induction j with
  |zero=>
    intro f i hi hf
    obtain⟨f,rfl⟩:∃ m,f=m+1:=⟨f-1,by omega⟩
    simp only[api_Inside_right.l0]
    rw[if_neg (by omega),List.drop_of_length_le (by omega)]
    cases(if i=0 then none else l[i-1]?) <;> rfl
  |succ j ih=>
    intro f i hi hf
    obtain⟨f,rfl⟩:∃ m,f=m+2:=⟨f-2,by omega⟩
    have ha:i<l.length:=by omega
    have ei:wrap64 ((i:Int)+1)=((i+1:Nat):Int):=by unfold wrap64;omega
    have jt:api_Inside_right.j1 (f+1) L l (l.length:Int) (i:Int) true l tok_=some false:=by simp[api_Inside_right.j1]
    have jf:api_Inside_right.j1 (f+1) L l (l.length:Int) (i:Int) false l tok_=some (Zs (fun x=>Yw (Yf L) (Ye L) x.f0 x.f1) ltI (some l[i]) (l.drop (i+1))):=by
      simp only[api_Inside_right.j1]
      rw[if_neg (by decide),ei,ih f (i+1) (by omega) (by omega),if_neg (by omega),Nat.add_sub_cancel,List.getElem?_eq_getElem ha]
    simp only[api_Inside_right.l0]
    rw[if_pos (by omega),if_pos (by omega),if_pos (by omega),Y6 l i ha]
    unfold call_inside_1.f
    simp only[Option.bind_some]
    rw[List.drop_eq_getElem_cons ha]
    by_cases h1:Yw (Yf L) (Ye L) l[i].f0 l[i].f1=true
    · rw[if_pos h1]
      by_cases U:i=0
      · subst U
        rw[if_neg (by omega),if_pos rfl,jf]
        simp only[Zs,h1,Bool.true_and]
      · have ep:wrap64 ((i:Int)-1)=((i-1:Nat):Int):=by unfold wrap64;omega
        rw[if_pos (by omega),ep,if_pos (by omega),if_pos (by omega),Y6 l (i-1) (by omega),if_neg U,List.getElem?_eq_getElem (by omega)]
        unfold call_ins_1.f
        simp only[Option.bind_some]
        simp only[Zs,h1,Bool.true_and]
        unfold ltI
        by_cases hc:Zz (l[i-1]'(by omega)).f0 (l[i-1]'(by omega)).f1 l[i].f0 l[i].f1<0
        · rw[decide_eq_false (by omega),decide_eq_true hc,jf,Bool.true_and]
          rfl
        · rw[decide_eq_true (by omega),decide_eq_false hc,jt,Bool.false_and]
    · have h1':Yw (Yf L) (Ye L) l[i].f0 l[i].f1=false:=by simpa using h1
      rw[if_neg h1,jt]
      by_cases U:i=0
      · rw[if_pos U]
        simp only[Zs,h1',Bool.false_and]
      · rw[if_neg U,List.getElem?_eq_getElem (by omega)]
        simp only[Zs,h1',Bool.false_and]
theorem Li (l:List S62) (L tok_:Int) (hm:l.length≤1000000000) (k:Nat) (hk:2 * l.length<k):api_Inside_right.f k l tok_ L=some (Zs (fun x=>Yw (Yf L) (Ye L) x.f0 x.f1) ltI none l):=by
  unfold api_Inside_right.f
  have:=Uq l L tok_ hm l.length k 0 (by omega) hk
  simpa using this
theorem Up (may:S62→Bool) (l:List S62):∀ p,Zs may ltI (some p) l=true↔((∀ x ∈ l,may x=true)∧(p :: l).Pairwise (fun x y=>ltI x y=true)):=by
  induction l with
  |nil=>intro p;simp[Zs]
  |cons x l ih=>
    intro p
    simp only[Zs,Bool.and_eq_true]
    rw[ih x]
    simp only[List.pairwise_cons,List.mem_cons,forall_eq_or_imp]
    constructor
    · rintro⟨⟨h1,O⟩,L,Y,I⟩
      exact⟨⟨h1,L⟩,⟨O,fun y hy=>Vr O (Y y hy)⟩,Y,I⟩
    · rintro⟨⟨h1,L⟩,⟨O,_⟩,Y,I⟩
      exact⟨⟨h1,O⟩,L,Y,I⟩
theorem J5 (may:S62→Bool) (l:List S62):Zs may ltI none l=true↔((∀ x ∈ l,may x=true)∧l.Pairwise (fun x y=>ltI x y=true)):=by
  cases l with
  |nil=>simp[Zs]
  |cons x l=>
    simp only[Zs,Bool.and_eq_true]
    rw[Up]
    simp only[List.mem_cons,forall_eq_or_imp]
    constructor
    · rintro⟨h1,O,L⟩
      exact⟨⟨h1,O⟩,L⟩
    · rintro⟨⟨h1,O⟩,L⟩
      exact⟨h1,O,L⟩
end Go.Proofs.Ytjehhhlhalkieaa.Call
namespace Go.Proofs.Ytjehhhlhalkieaa.C
open Go.RowKit Go.Proofs.YtjehhhlhalkieaaW.PrintWords Go.Proofs.YtjehhhlhalkieaaW.PrintLast Go.Proofs.YtjehhhlhalkieaaW.PrintMore
attribute [local go_sem] Z4 Z2 Xe Xd Zx Zw Z3 Z1
set_option linter.unusedVariables false
set_option linter.unusedSimpArgs false
def newellaw19_Own.f (J:List (S56)) (D:List (S62)):Option ((List (S56))×(List (S62))):=(some (([]:List (S56)):List (S56))).bind fun a1=>(if a1.length+J.length<5864062014805 then ((some (([]:List (S62)):List (S62))).bind fun X=>(if X.length+D.length<8796093022208 then (some ((a1++J),(X++D))) else (none))) else (none))
def newellaw19_Own.T1:Bool×List (List Nat×List Nat):=(true,[([],[]),([],[]),([1],[1]),([0,2],[0,2]),([],[]),([],[]),([5],[5]),([4,6,3],[4,6]),([3,7],[3,7]),([8,7,0,1,2,3,4,5,6,7,8],[8])])
def newellaw19_Own.B1:List Nat:=[0,0,2,7,0,0,32,127,255,511]
theorem newellaw19_Own.Gu:rtab .any (opsOf Try.f12 1)=newellaw19_Own.T1:=by kernel_rfl
theorem newellaw19_Own.J2:Zv newellaw19_Own.T1.2 newellaw19_Own.B1=true:=by kernel_rfl
set_option maxHeartbeats 8000000 in
set_option maxRecDepth 100000 in
theorem newellaw19_Own.calls (μ :Option Addr) (θ :Nat) (J:List (S56)) (ν :Option Addr) (τ :Nat) (D:List (S62)) (r1:List (S56)) (r2:List (S62)) (w:World) (a2:Kd.C k56 w μ J.length J) (a6:J.length ≤ θ) (ρ:Kd.C k62 w ν D.length D) (a0:D.length ≤ τ) (h:newellaw19_Own.f J D=some (r1,r2)):
  Calls Try.prog 12 #[.agg #[.slice μ J.length θ,.slice ν D.length τ]] w fun e w'=>∃ ω ba:Value,e = .returned (.agg #[ω,ba])∧Kd.R k56 56 w' w.heap.size (fun _=>True) ω r1∧Kd.R k62 62 w' w.heap.size (fun _=>True) ba r2∧Below w.heap.size w w':=by
 have d6:=Try.underlying27
 have ψ :=Aside0.mk a2
 have a8:=Aside0.mk a6
 clear a2 a6
 have bo:=Aside0.mk ρ
 have cp:=Aside0.mk a0
 clear ρ a0
 have HB:=Aside0.mk (Below.refl w.heap.size w)
 have H:((some (([]:List (S56)):List (S56))).bind fun a1=>(if a1.length+J.length<5864062014805 then ((some (([]:List (S62)):List (S62))).bind fun X=>(if X.length+D.length<8796093022208 then (some ((a1++J),(X++D))) else (none))) else (none)))=some (r1,r2):=h
 clear h
 obtain⟨a1,af⟩:∃ y_:List (S56),y_=(([]:List (S56))):=⟨_,rfl⟩
 replace H:(if a1.length+J.length<5864062014805 then ((some (([]:List (S62)):List (S62))).bind fun X=>(if X.length+D.length<8796093022208 then (some ((a1++J),(X++D))) else (none))) else (none))=some (r1,r2):=by first|(rw[af];with_reducible exact H)|(have δ :=(Option.bind_some _ _).symm.trans H;rw[af];with_reducible exact δ)|(have δ :=(Option.bind_some _ _).symm.trans H;with_reducible exact δ)|with_reducible exact H|(rw[af];exact H)|exact H
 have ak:=Aside0.mk af
 clear af
 by_cases c2:a1.length+J.length<5864062014805
 ·rw[if_pos c2] at H
  have ap:=Aside0.mk c2
  clear c2
  obtain⟨ac,ag⟩:∃ y_:List (S56),y_=(a1++J):=⟨_,rfl⟩
  replace H:((some (([]:List (S62)):List (S62))).bind fun X=>(if X.length+D.length<8796093022208 then (some (ac,(X++D))) else (none)))=some (r1,r2):=by first|(rw[ag];with_reducible exact H)|(have δ :=(Option.bind_some _ _).symm.trans H;rw[ag];with_reducible exact δ)|(have δ :=(Option.bind_some _ _).symm.trans H;with_reducible exact δ)|with_reducible exact H|(rw[ag];exact H)|exact H
  have an:=Aside0.mk ag
  clear ag
  obtain⟨X,ah⟩:∃ y_:List (S62),y_=(([]:List (S62))):=⟨_,rfl⟩
  replace H:(if X.length+D.length<8796093022208 then (some (ac,(X++D))) else (none))=some (r1,r2):=by first|(rw[ah];with_reducible exact H)|(have δ :=(Option.bind_some _ _).symm.trans H;rw[ah];with_reducible exact δ)|(have δ :=(Option.bind_some _ _).symm.trans H;with_reducible exact δ)|with_reducible exact H|(rw[ah];exact H)|exact H
  have a7:=Aside0.mk ah
  clear ah
  by_cases c3:X.length+D.length<8796093022208
  ·rw[if_pos c3] at H
   have b0:=Aside0.mk c3
   clear c3
   obtain⟨au,ai⟩:∃ y_:List (S62),y_=(X++D):=⟨_,rfl⟩
   replace H:(some (ac,au))=some (r1,r2):=by first|(rw[ai];with_reducible exact H)|(have δ :=(Option.bind_some _ _).symm.trans H;rw[ai];with_reducible exact δ)|(have δ :=(Option.bind_some _ _).symm.trans H;with_reducible exact δ)|with_reducible exact H|(rw[ai];exact H)|exact H
   have ay:=Aside0.mk ai
   clear ai
   simp only[Option.some.injEq,Prod.mk.injEq] at H
   obtain⟨rfl,rfl⟩:=H
   go_enter Try.func12,Try.ntmps12
   try go_wp2_with (first|((with_reducible refine Qp (N:=1) rfl ?_);refine qE 1 #[.slice μ J.length θ,.slice ν D.length τ] 27 ?_;intro γ hg w4 hbox hb;have B:=Aside0.mk hbox;have b6:=sGe hg;have b7:=sGe hg;replace HB:=sHb hb;clear hb hbox hg)|((with_reducible refine Qp (N:=2) rfl ?_);refine qE 2 #[.slice none 0 0,.slice none 0 0] 27 ?_;intro Y hg w5 hbox hb;have I:=Aside0.mk hbox;have b8:=sGe hg;have b9:=sGe hg;have η :=sNl B hg;have aj:=sNg B hg;replace B:=sBk B hb;replace HB:=sHb hb;clear hb hbox hg))
   replace B:=Aside0.mk (Qb B.out)
   replace I:=Aside0.mk (Qb I.out)
   replace HB:=Aside0.mk (Qe HB.out)
   refine Ze (n:=10) (S:=fun w'=>w'.cell? ⟨γ,0,none⟩=some (.slice μ J.length θ)∧w'.cell? ⟨γ,1,none⟩=some (.slice ν D.length τ)) (ds:=[]) #[false,false,false,false,false,false,false,false,false,false] kr rfl rfl ⟨(Qi B.out 0).trans rfl,(Qi B.out 1).trans rfl⟩ (fun hHeld=>?_);refine Q4 newellaw19_Own.Gu newellaw19_Own.J2 (fun HT_ HW_=>?_)
   generalize w5.drew=w6 at B I HB hHeld ⊢
   refine qP 1 (some 4) (bN 10 2) HT_ ?_
   refine qP 5 (some 8) (bN 10 34) HT_ ?_
   refine qT 2 (some 5) (bN 10 38) HT_ HW_ hHeld ?_
   refine qT 6 (some 9) (bN 10 102) HT_ HW_ hHeld ?_
   refine Gl (σ:=Value×Value×Value) 3 (bN 10 127) (fun s_=>[(3,s_.1),(6,s_.2.1),(7,s_.2.2)]) (fun s_ w'=>(w'.cell? ⟨γ,0,none⟩=some (.slice μ J.length θ)∧w'.cell? ⟨γ,1,none⟩=some (.slice ν D.length τ))∧(Kd.R k56 56 w' w.heap.size (fun _=>True) s_.2.1 ac)∧(Kd.R k62 62 w' w.heap.size (fun _=>True) s_.2.2 X)∧(w'.heap[γ]?=some (.cells #[.slice μ J.length θ,.slice ν D.length τ] 27 (0,0)))∧(w'.heap[Y]?=some (.cells #[.slice none 0 0,.slice none 0 0] 27 (0,0)))∧(Below w.heap.size w w')) ?_ ?_
   rotate_left
   ·intro hCont
    refine Ks (i:=0) (j:=4) (Ni:=some 3) (Nj:=some 7) (bN 10 103) (bN 10 118) rfl rfl rfl rfl (Yn HT_.out kr) (by decide) (by decide) (fun K hK=>?_) (fun K hK=>?_)
    ·skip
     refine Kd.Xp k56 _ 56 ?hg (N:=3) ?hd (xs:=([]:List (S56))) (inner:=[]) (ok:=fun _=>True) (okp:=fun _=>True) ?hr ?hp (fun _ hk=>hk) trivial (Below.refl _ _) (Nat.le_refl _) (by simp) ?_;(case hd=>rfl);(case hg=>rfl);(case hr=>go_simp <;> rfl);(case hp=>exact(Reps.none _ _))
     intro a3 w7 a4 hb hg_ hnew_
     clear hg_ hnew_
     (first|rw[← ak.out] at a4|(simp only[Int.reduceToNat] at a4;rw[← ak.out] at a4))
     have L:=Aside0.mk (Kd.Q2 a4 (Qj HB.out))
     replace B:=sBk B hb
     replace I:=sBk I hb
     replace HB:=sHb hb
     clear hb a4
     refine hK.out _ _ ⟨qc B,qc B⟩ (fun hHeld=>?_)
     clear hK K
     refine qN (some 3) ?_
     refine Ks (i:=3) (j:=4) (Ni:=some 6) (Nj:=some 7) (bN 10 111) (bN 10 119) rfl rfl rfl rfl (Yn HT_.out kr) (by decide) (by decide) (fun K hK=>?_) (fun K hK=>?_)
     ·skip
      refine Kd.X3 k56 (w0:=w) w.heap.size (by rfl) (.tmp 3) (.tmp 5) 24 56 (.agg #[(.int .i64 0),(.int .i64 0),(.int .i64 0)]) 24 rfl Try.underlying24 Xr rfl (by decide) (by omega) a3 a1 J _ _ _ (fun _=>True) (fun _=>False) rfl rfl ?aO ?aR (fun _ _ h=>h) (fun _ h=>h.elim) ?aF ?aB ?aS ?aL ?_
      (case aR=>exact(Kd.Qz ψ.out HB.out))
      (case aB=>exact HB.out)
      (case aF=>exact(fun _ _=>trivial))
      (case aO=>exact L.out)
      (case aS=>exact(Qj HB.out))
      (case aL=>have:=ap.out;omega)
      intro ae w9 ho hb hg hat
      rw[← an.out] at ho
      have ζ :=Aside0.mk ho
      replace B:=Aside0.mk (Q8 (g:=γ) (o:=.cells #[.slice μ J.length θ,.slice ν D.length τ] 27 (0,0)) B.out hg (Kd.Yx L.out B.out (by decide)))
      replace I:=Aside0.mk (Q8 (g:=Y) (o:=.cells #[.slice none 0 0,.slice none 0 0] 27 (0,0)) I.out hg (Kd.Yx L.out I.out (by decide)))
      replace HB:=Aside0.mk hb
      clear L
      clear ho hb hg hat
      refine hK.out _ _ ⟨qc B,qc B⟩ (fun hHeld=>?_)
      clear hK K
      refine qN (some 6) ?_
      refine Zi (i:=4) (N:=some 7) (bN 10 127) rfl rfl (Q0 HT_.out kr) (by decide) (fun K hK=>?_)
      refine Kd.Xp k62 _ 62 ?hg (N:=7) ?hd (xs:=([]:List (S62))) (inner:=[]) (ok:=fun _=>True) (okp:=fun _=>True) ?hr ?hp (fun _ hk=>hk) trivial (Below.refl _ _) (Nat.le_refl _) (by simp) ?_;(case hd=>rfl);(case hg=>rfl);(case hr=>go_simp <;> rfl);(case hp=>exact(Reps.none _ _))
      intro a5 cu al hb hg_ hnew_
      clear hg_ hnew_
      (first|rw[← a7.out] at al|(simp only[Int.reduceToNat] at al;rw[← a7.out] at al))
      have U:=Aside0.mk (Kd.Q2 al (Qj HB.out))
      replace ζ :=sRb ζ hb
      replace B:=sBk B hb
      replace I:=sBk I hb
      replace HB:=sHb hb
      clear hb al
      refine hK.out _ _ ⟨qc B,qc B⟩ (fun hHeld=>?_)
      clear hK K
      refine qN (some 7) ?_
      exact Xn (by simp only[Z9,Act.put,qS]) (hCont (a3,ae,a5) _ ⟨hHeld,ζ.out,U.out,B.out,I.out,HB.out⟩)
     ·skip
      refine Kd.Xp k62 _ 62 ?hg (N:=7) ?hd (xs:=([]:List (S62))) (inner:=[]) (ok:=fun _=>True) (okp:=fun _=>True) ?hr ?hp (fun _ hk=>hk) trivial (Below.refl _ _) (Nat.le_refl _) (by simp) ?_;(case hd=>rfl);(case hg=>rfl);(case hr=>go_simp <;> rfl);(case hp=>exact(Reps.none _ _))
      intro a5 w9 ε hb hg_ hnew_
      clear hg_ hnew_
      (first|rw[← a7.out] at ε |(simp only[Int.reduceToNat] at ε;rw[← a7.out] at ε))
      have U:=Aside0.mk (Kd.Q2 ε (Qj HB.out))
      replace L:=sRb L hb
      replace B:=sBk B hb
      replace I:=sBk I hb
      replace HB:=sHb hb
      clear hb ε
      refine hK.out _ _ ⟨qc B,qc B⟩ (fun hHeld=>?_)
      clear hK K
      refine qN (some 7) ?_
      refine Zi (i:=3) (N:=some 6) (bN 10 127) rfl rfl (Q0 HT_.out kr) (by decide) (fun K hK=>?_)
      refine Kd.X3 k56 (w0:=w) w.heap.size (by rfl) (.tmp 3) (.tmp 5) 24 56 (.agg #[(.int .i64 0),(.int .i64 0),(.int .i64 0)]) 24 rfl Try.underlying24 Xr rfl (by decide) (by omega) a3 a1 J _ _ _ (fun _=>True) (fun _=>False) rfl rfl ?aO ?aR (fun _ _ h=>h) (fun _ h=>h.elim) ?aF ?aB ?aS ?aL ?_
      (case aR=>exact(Kd.Qz ψ.out HB.out))
      (case aB=>exact HB.out)
      (case aF=>exact(fun _ _=>trivial))
      (case aO=>exact L.out)
      (case aS=>exact(Qj HB.out))
      (case aL=>have:=ap.out;omega)
      intro ae dm ho hb hg hat
      rw[← an.out] at ho
      have ζ :=Aside0.mk ho
      replace B:=Aside0.mk (Q8 (g:=γ) (o:=.cells #[.slice μ J.length θ,.slice ν D.length τ] 27 (0,0)) B.out hg (Kd.Yx L.out B.out (by decide)))
      replace I:=Aside0.mk (Q8 (g:=Y) (o:=.cells #[.slice none 0 0,.slice none 0 0] 27 (0,0)) I.out hg (Kd.Yx L.out I.out (by decide)))
      replace U:=Aside0.mk (Kd.Uh U.out (Kd.Uf L.out) (by decide) hg)
      replace HB:=Aside0.mk hb
      clear L
      clear ho hb hg hat
      refine hK.out _ _ ⟨qc B,qc B⟩ (fun hHeld=>?_)
      clear hK K
      refine qN (some 6) ?_
      exact Xn (by simp only[Z9,Act.put,qS]) (hCont (a3,ae,a5) _ ⟨hHeld,ζ.out,U.out,B.out,I.out,HB.out⟩)
    ·skip
     refine Kd.Xp k62 _ 62 ?hg (N:=7) ?hd (xs:=([]:List (S62))) (inner:=[]) (ok:=fun _=>True) (okp:=fun _=>True) ?hr ?hp (fun _ hk=>hk) trivial (Below.refl _ _) (Nat.le_refl _) (by simp) ?_;(case hd=>rfl);(case hg=>rfl);(case hr=>go_simp <;> rfl);(case hp=>exact(Reps.none _ _))
     intro a5 w7 a4 hb hg_ hnew_
     clear hg_ hnew_
     (first|rw[← a7.out] at a4|(simp only[Int.reduceToNat] at a4;rw[← a7.out] at a4))
     have U:=Aside0.mk (Kd.Q2 a4 (Qj HB.out))
     replace B:=sBk B hb
     replace I:=sBk I hb
     replace HB:=sHb hb
     clear hb a4
     refine hK.out _ _ ⟨qc B,qc B⟩ (fun hHeld=>?_)
     clear hK K
     refine qN (some 7) ?_
     refine Zi (i:=0) (N:=some 3) (bN 10 119) rfl rfl (Q0 HT_.out kr) (by decide) (fun K hK=>?_)
     refine Kd.Xp k56 _ 56 ?hg (N:=3) ?hd (xs:=([]:List (S56))) (inner:=[]) (ok:=fun _=>True) (okp:=fun _=>True) ?hr ?hp (fun _ hk=>hk) trivial (Below.refl _ _) (Nat.le_refl _) (by simp) ?_;(case hd=>rfl);(case hg=>rfl);(case hr=>go_simp <;> rfl);(case hp=>exact(Reps.none _ _))
     intro a3 w9 ε hb hg_ hnew_
     clear hg_ hnew_
     (first|rw[← ak.out] at ε |(simp only[Int.reduceToNat] at ε;rw[← ak.out] at ε))
     have L:=Aside0.mk (Kd.Q2 ε (Qj HB.out))
     replace U:=sRb U hb
     replace B:=sBk B hb
     replace I:=sBk I hb
     replace HB:=sHb hb
     clear hb ε
     refine hK.out _ _ ⟨qc B,qc B⟩ (fun hHeld=>?_)
     clear hK K
     refine qN (some 3) ?_
     refine Zi (i:=3) (N:=some 6) (bN 10 127) rfl rfl (Q0 HT_.out kr) (by decide) (fun K hK=>?_)
     refine Kd.X3 k56 (w0:=w) w.heap.size (by rfl) (.tmp 3) (.tmp 5) 24 56 (.agg #[(.int .i64 0),(.int .i64 0),(.int .i64 0)]) 24 rfl Try.underlying24 Xr rfl (by decide) (by omega) a3 a1 J _ _ _ (fun _=>True) (fun _=>False) rfl rfl ?aO ?aR (fun _ _ h=>h) (fun _ h=>h.elim) ?aF ?aB ?aS ?aL ?_
     (case aR=>exact(Kd.Qz ψ.out HB.out))
     (case aB=>exact HB.out)
     (case aF=>exact(fun _ _=>trivial))
     (case aO=>exact L.out)
     (case aS=>exact(Qj HB.out))
     (case aL=>have:=ap.out;omega)
     intro ae dm ho hb hg hat
     rw[← an.out] at ho
     have ζ :=Aside0.mk ho
     replace B:=Aside0.mk (Q8 (g:=γ) (o:=.cells #[.slice μ J.length θ,.slice ν D.length τ] 27 (0,0)) B.out hg (Kd.Yx L.out B.out (by decide)))
     replace I:=Aside0.mk (Q8 (g:=Y) (o:=.cells #[.slice none 0 0,.slice none 0 0] 27 (0,0)) I.out hg (Kd.Yx L.out I.out (by decide)))
     replace U:=Aside0.mk (Kd.Uh U.out (Kd.Uf L.out) (by decide) hg)
     replace HB:=Aside0.mk hb
     clear L
     clear ho hb hg hat
     refine hK.out _ _ ⟨qc B,qc B⟩ (fun hHeld=>?_)
     clear hK K
     refine qN (some 6) ?_
     exact Xn (by simp only[Z9,Act.put,qS]) (hCont (a3,ae,a5) _ ⟨hHeld,ζ.out,U.out,B.out,I.out,HB.out⟩)
   rintro⟨a3,ae,a5⟩ d2 ⟨hS_,cj,ck,cm,cn,co⟩
   have O:Aside0 (Kd.R k56 56 d2 w.heap.size (fun _=>True) ae ac):=⟨cj⟩
   have Z:Aside0 (Kd.R k62 62 d2 w.heap.size (fun _=>True) a5 X):=⟨ck⟩
   have ι :Aside0 (d2.heap[γ]?=some (.cells #[.slice μ J.length θ,.slice ν D.length τ] 27 (0,0))):=⟨cm⟩
   have κ :Aside0 (d2.heap[Y]?=some (.cells #[.slice none 0 0,.slice none 0 0] 27 (0,0))):=⟨cn⟩
   have ξ :Aside0 (Below w.heap.size w d2):=⟨co⟩
   clear B
   clear I
   clear HB
   clear cj ck cm cn co
   have ζ :=O
   have U:=Z
   have B:= ι
   have I:= κ
   have HB:= ξ
   clear O Z ι κ ξ
   have hHeld:d2.cell? ⟨γ,0,none⟩=some (.slice μ J.length θ)∧d2.cell? ⟨γ,1,none⟩=some (.slice ν D.length τ):=hS_
   refine Xn (a':=?_) ?_ ?_
   rotate_left
   ·simp only[Z9,Act.put,qS]
    rfl
   refine Zi (i:=7) (N:=some 10) (bN 10 255) rfl rfl (Q0 HT_.out kr) (by decide) (fun K hK=>?_)
   refine Kd.X3 k62 (w0:=w) w.heap.size (by rfl) (.tmp 7) (.tmp 9) 25 62 (.agg #[(.int .i64 0),(.int .i64 0)]) 16 rfl Try.underlying25 Yd rfl (by decide) (by omega) a5 X D _ _ _ (fun _=>True) (fun _=>False) rfl rfl ?aO ?aR (fun _ _ h=>h) (fun _ h=>h.elim) ?aF ?aB ?aS ?aL ?_
   (case aR=>exact(Kd.Qz bo.out HB.out))
   (case aB=>exact HB.out)
   (case aF=>exact(fun _ _=>trivial))
   (case aO=>exact U.out)
   (case aS=>exact(Qj HB.out))
   (case aL=>have:=b0.out;omega)
   intro bc eb ho hb hg hat
   rw[← ay.out] at ho
   have ar:=Aside0.mk ho
   replace B:=Aside0.mk (Q8 (g:=γ) (o:=.cells #[.slice μ J.length θ,.slice ν D.length τ] 27 (0,0)) B.out hg (Kd.Yx U.out B.out (by decide)))
   replace I:=Aside0.mk (Q8 (g:=Y) (o:=.cells #[.slice none 0 0,.slice none 0 0] 27 (0,0)) I.out hg (Kd.Yx U.out I.out (by decide)))
   replace ζ :=Aside0.mk (Kd.Uh ζ.out (Kd.Uf U.out) (by decide) hg)
   replace HB:=Aside0.mk hb
   clear U
   clear ho hb hg hat
   obtain⟨b1,b3,av⟩:=Kd.Q5 ar.out
   (first|subst av|(injection av with φ a9 χ;have aa:= φ.symm;have ab:= χ.symm;clear φ a9 χ;subst aa;subst ab))
   obtain⟨ao,aw,am⟩:=Kd.Q5 ζ.out
   (first|subst am|(injection am with φ a9 χ;have aa:= φ.symm;have ab:= χ.symm;clear φ a9 χ;subst aa;subst ab))
   refine hK.out _ _ ⟨qc B,qc B⟩ (fun hHeld=>?_)
   clear hK K
   refine qN (some 10) ?_
   refine qP 8 (some 11) (bN 10 511) HT_ ?_
   refine Zi (i:=9) (N:=none) (bN 10 1023) rfl rfl (Q0 HT_.out kr) (by decide) (fun K hK=>?_)
   have bf:eb.cell? ⟨Y,0,none⟩=some (.slice none 0 0):=(Qi I.out 0).trans rfl
   have b2:=Q6 I.out 0
   have ax:= η.out
   have az:=aj.out
   have bd:eb.cell? ⟨Y,1,none⟩=some (.slice none 0 0):=(Qi I.out 1).trans rfl
   have bb:=Q6 I.out 1
   have b4:= η.out
   have b5:=aj.out
   refine Y4 (w1:=?_) (by rfl) rfl ?_ ?_
   rotate_left
   ·go_simp
    rfl
   refine hK.out _ _ ⟨((cell_far (p:=⟨Y,_,none⟩) η.out _).trans (((cell_far (p:=⟨Y,_,none⟩) η.out _).trans (hHeld.1)))),((cell_far (p:=⟨Y,_,none⟩) η.out _).trans (((cell_far (p:=⟨Y,_,none⟩) η.out _).trans (hHeld.2))))⟩ (fun hHeld=>?_)
   clear hK K
   refine Zq (Zd HT_.out kr) ?_
   try go_wp2
   refine bodyPost_ret (results_cell_row rfl _ _ Y 27 #[.slice ao ac.length aw,.slice b1 au.length b3] (0,0) _ rfl (by refine Qw (cs:=#[.slice ao ac.length aw,.slice none 0 0]) ?_ 1 _ rfl;refine Qw (cs:=#[.slice none 0 0,.slice none 0 0]) ?_ 0 _ rfl;exact I.out) Try.underlying27 rfl kr) rfl ?_
   exact⟨_,_,by first|rfl|(simp[Qy,Qx] <;> rfl)|(simp[*,Qy,Qx] <;> rfl),by(with_reducible repeat first|apply Kd.Qm|apply Kd.Ql|apply Kd.Qn);exact Kd.Qr (Kd.Qs (Kd.Qs (Kd.Qv ζ.out I.out (by decide)) (fun _ hk=>hk.2) _) (fun _ hk=>hk.2) _) (fun _ hk=>trivial),by(with_reducible repeat first|apply Kd.Qm|apply Kd.Ql|apply Kd.Qn);exact Kd.Qr (Kd.Qs (Kd.Qs (Kd.Qv ar.out I.out (by decide)) (fun _ hk=>hk.2) _) (fun _ hk=>hk.2) _) (fun _ hk=>trivial),bel⟩
  ·rw[if_neg c3] at H
   exact absurd H (by simp)
 ·rw[if_neg c2] at H
  exact absurd H (by simp)
def newelref19_Few.f (J:List (S56)) (D:List (S62)):Option (Bool):=if (J.length:Int)≤130 then (some (decide ((D.length:Int)≤520))) else (some false)
set_option maxHeartbeats 8000000 in
set_option maxRecDepth 100000 in
theorem newelref19_Few.calls (μ :Option Addr) (θ :Nat) (J:List (S56)) (ν :Option Addr) (τ :Nat) (D:List (S62)) (r:Bool) (w:World) (a2:Kd.C k56 w μ J.length J) (a6:J.length ≤ θ) (ρ:Kd.C k62 w ν D.length D) (a0:D.length ≤ τ) (h:newelref19_Few.f J D=some r):
  Calls Try.prog 9 #[.agg #[.slice μ J.length θ,.slice ν D.length τ]] w fun e w'=>e = .returned (.bool r)∧Below w.heap.size w w':=by
 have d6:=Try.underlying27
 have ψ :=Aside0.mk a2
 have a8:=Aside0.mk a6
 clear a2 a6
 have bo:=Aside0.mk ρ
 have cp:=Aside0.mk a0
 clear ρ a0
 have HB:=Aside0.mk (Below.refl w.heap.size w)
 have H:(if (J.length:Int)≤130 then (some (decide ((D.length:Int)≤520))) else (some false))=some r:=h
 clear h
 by_cases c2:(J.length:Int)≤130
 ·rw[if_pos c2] at H
  have c2b0:decide ((J.length:Int)≤130)=true:=decide_eq_true c2
  have c2b1:decide (J.length≤130)=true:=decide_eq_true (by omega)
  clear c2
  obtain rfl:=Option.some.inj H
  go_enter Try.func9,Try.ntmps9
  go_wp2_with (first|((with_reducible refine Qp (N:=1) rfl ?_);(try(refine Xa (by rfl) ?_;dsimp only));refine Q7 ?hg (N:=1) ?hd (cs:=#[.slice μ J.length θ,.slice ν D.length τ]) (t:=27) ?hr ?_;(case hd=>rfl);(case hg=>rfl);(case hr=>first|(go_simp;done)|(go_simp;rfl));intro ξ hg w3 hbox hb;have O:=Aside0.mk (Qt (by repeat(first|(with_reducible first|exact HB.out|apply Qh|apply Qc|apply Qe)|exact HB.out)) hb);have Z:=Aside0.mk (hbox);have ι :=Aside0.mk ((by rw[hg];exact(Qj (by repeat(first|(with_reducible first|exact HB.out|apply Qh|apply Qc|apply Qe)|exact HB.out))):w.heap.size ≤ ξ));have κ :=Aside0.mk ((by rw[hg];exact(Qj (by repeat(first|(with_reducible first|exact HB.out|apply Qh|apply Qc|apply Qe)|exact HB.out))):w.heap.size ≤ ξ));clear HB;have HB:=O;have U:=Z;have bl:= ι;have b9:= κ;clear O Z ι κ;clear hb hbox hg;obtain⟨ω,ac,ag,ah⟩:=qD2 U.out))
  go_ret
  exact⟨by first|rfl|(simp[Qy,Qx] <;> rfl)|(simp[*,Qy,Qx] <;> rfl),by repeat(first|(with_reducible first|exact HB.out|apply Qh|apply Qc|apply Qe|refine Qd ?_ b9.out)|exact HB.out)⟩
 ·rw[if_neg c2] at H
  have c2b0:decide ((J.length:Int)≤130)=false:=decide_eq_false c2
  have c2b1:decide (J.length≤130)=false:=decide_eq_false (by omega)
  clear c2
  obtain rfl:=Option.some.inj H
  go_enter Try.func9,Try.ntmps9
  go_wp2_with (first|((with_reducible refine Qp (N:=1) rfl ?_);(try(refine Xa (by rfl) ?_;dsimp only));refine Q7 ?hg (N:=1) ?hd (cs:=#[.slice μ J.length θ,.slice ν D.length τ]) (t:=27) ?hr ?_;(case hd=>rfl);(case hg=>rfl);(case hr=>first|(go_simp;done)|(go_simp;rfl));intro ξ hg w5 hbox hb;have O:=Aside0.mk (Qt (by repeat(first|(with_reducible first|exact HB.out|apply Qh|apply Qc|apply Qe)|exact HB.out)) hb);have Z:=Aside0.mk (hbox);have ι :=Aside0.mk ((by rw[hg];exact(Qj (by repeat(first|(with_reducible first|exact HB.out|apply Qh|apply Qc|apply Qe)|exact HB.out))):w.heap.size ≤ ξ));have κ :=Aside0.mk ((by rw[hg];exact(Qj (by repeat(first|(with_reducible first|exact HB.out|apply Qh|apply Qc|apply Qe)|exact HB.out))):w.heap.size ≤ ξ));clear HB;have HB:=O;have U:=Z;have bl:= ι;have b9:= κ;clear O Z ι κ;clear hb hbox hg;obtain⟨X,Y,γ,δ⟩:=qD2 U.out))
  go_ret
  exact⟨by first|rfl|(simp[Qy,Qx] <;> rfl)|(simp[*,Qy,Qx] <;> rfl),by repeat(first|(with_reducible first|exact HB.out|apply Qh|apply Qc|apply Qe|refine Qd ?_ b9.out)|exact HB.out)⟩
theorem Ee (d:Nat) (w:World) (D I:Int) (J L:Int) (X U:Int):
  (Op.equalIn (d+2) 56 (.agg #[.int .i64 D,.int .i64 J,.int .i64 X]) (.agg #[.int .i64 I,.int .i64 L,.int .i64 U])).run Try.prog w = .ok (D==I&&(J==L&&(X==U))) w:=by
 refine M1 Try.underlying56 kr ?_
 refine G6 (by rfl) (by go_simp;rfl) (by go_simp;rfl) (by go_simp) ?_
 refine G6 (by rfl) (by go_simp;rfl) (by go_simp;rfl) (by go_simp) ?_
 exact U0 (by rfl) (by go_simp;rfl) (by go_simp;rfl) (by go_simp)
theorem M2 (d:Nat) (w:World) (D I:Int) (J L:Int):
  (Op.equalIn (d+2) 62 (.agg #[.int .i64 D,.int .i64 J]) (.agg #[.int .i64 I,.int .i64 L])).run Try.prog w = .ok (D==I&&(J==L)) w:=by
 refine M1 Try.underlying62 kr ?_
 refine G6 (by rfl) (by go_simp;rfl) (by go_simp;rfl) (by go_simp) ?_
 exact U0 (by rfl) (by go_simp;rfl) (by go_simp;rfl) (by go_simp)
end Go.Proofs.Ytjehhhlhalkieaa.C
namespace Go.Proofs.Ytjehhhlhalkieaa.C
open Go.RowKit Go.Proofs.YtjehhhlhalkieaaW.PrintWords Go.Proofs.YtjehhhlhalkieaaW.PrintLast Go.Proofs.YtjehhhlhalkieaaW.PrintMore
attribute [local go_sem] Z4 Z2 Xe Xd Zx Zw Z3 Z1
set_option linter.unusedVariables false
set_option linter.unusedSimpArgs false
attribute [local go_sem high] Ee M2
mutual
def newelref19_Same.j0:Nat→Bool→List (S56)→List (S62)→List (S56)→List (S62)→Option (Bool)
 |0,_,_,_,_,_=>none
 |k+1,I,B,J,D,O=>if I=true then (some false) else (newelref19_Same.l0 k 0 B J D O)
def newelref19_Same.l0:Nat→Int→List (S56)→List (S62)→List (S56)→List (S62)→Option (Bool)
 |0,_,_,_,_,_=>none
 |k+1,I,B,J,D,O=>if I<(B.length:Int) then (if 0≤I then (if I<(D.length:Int) then (if (!(((Qa B I).f0)==((Qa D I).f0))||(!(((Qa B I).f1)==((Qa D I).f1))||(!(((Qa B I).f2)==((Qa D I).f2)))))=true then (some false) else (newelref19_Same.l0 k (wrap64 (I+1)) B J D O)) else (none)) else (none)) else (newelref19_Same.l1 k 0 B J D O)
def newelref19_Same.l1:Nat→Int→List (S56)→List (S62)→List (S56)→List (S62)→Option (Bool)
 |0,_,_,_,_,_=>none
 |k+1,L,B,J,D,O=>if L<(J.length:Int) then (if 0≤L then (if L<(O.length:Int) then (if (!(((Qk J L).f0)==((Qk O L).f0))||(!(((Qk J L).f1)==((Qk O L).f1))))=true then (some false) else (newelref19_Same.l1 k (wrap64 (L+1)) B J D O)) else (none)) else (none)) else (some true)
end
def newelref19_Same.f (k:Nat) (J:List (S56)) (D:List (S62)) (B:List (S56)) (I:List (S62)):Option (Bool):=if (J.length:Int)=(B.length:Int) then (newelref19_Same.j0 k ((D.length:Int) != (I.length:Int)) J D B I) else (newelref19_Same.j0 k true J D B I)
theorem newelref19_Same.Zn:∀ k,(∀ I L U D J,LeO (newelref19_Same.j0 k I L U D J) (newelref19_Same.j0 (k+1) I L U D J))∧(∀ I L U D J,LeO (newelref19_Same.l0 k I L U D J) (newelref19_Same.l0 (k+1) I L U D J))∧(∀ I L U D J,LeO (newelref19_Same.l1 k I L U D J) (newelref19_Same.l1 (k+1) I L U D J))
 |0=>⟨fun _ _ _ _ _ r h=>by simp[newelref19_Same.j0] at h,fun _ _ _ _ _ r h=>by simp[newelref19_Same.l0] at h,fun _ _ _ _ _ r h=>by simp[newelref19_Same.l1] at h⟩
 |k+1=>by
  obtain⟨B,O,Y⟩:=newelref19_Same.Zn k
  refine⟨?_, ?_, ?_⟩
  ·intro I L U D J
   unfold newelref19_Same.j0
   repeat' first
   |(with_reducible exact B _ _ _ _ _)
   |(with_reducible exact O _ _ _ _ _)
   |(with_reducible exact Y _ _ _ _ _)
   |(with_reducible exact LeO.refl _)
   |(with_reducible exact LeO.none _)
   |(with_reducible refine LeO.ite ?_ ?_)
   |(with_reducible refine LeO.bind ?_ (fun _=>?_))
   |exact B _ _ _ _ _
   |exact O _ _ _ _ _
   |exact Y _ _ _ _ _
   |exact LeO.none _
   |refine LeO.ite ?_ ?_
   |refine LeO.bind ?_ (fun _=>?_)
  ·intro I L U D J
   unfold newelref19_Same.l0
   repeat' first
   |(with_reducible exact B _ _ _ _ _)
   |(with_reducible exact O _ _ _ _ _)
   |(with_reducible exact Y _ _ _ _ _)
   |(with_reducible exact LeO.refl _)
   |(with_reducible exact LeO.none _)
   |(with_reducible refine LeO.ite ?_ ?_)
   |(with_reducible refine LeO.bind ?_ (fun _=>?_))
   |exact B _ _ _ _ _
   |exact O _ _ _ _ _
   |exact Y _ _ _ _ _
   |exact LeO.none _
   |refine LeO.ite ?_ ?_
   |refine LeO.bind ?_ (fun _=>?_)
  ·intro I L U D J
   unfold newelref19_Same.l1
   repeat' first
   |(with_reducible exact B _ _ _ _ _)
   |(with_reducible exact O _ _ _ _ _)
   |(with_reducible exact Y _ _ _ _ _)
   |(with_reducible exact LeO.refl _)
   |(with_reducible exact LeO.none _)
   |(with_reducible refine LeO.ite ?_ ?_)
   |(with_reducible refine LeO.bind ?_ (fun _=>?_))
   |exact B _ _ _ _ _
   |exact O _ _ _ _ _
   |exact Y _ _ _ _ _
   |exact LeO.none _
   |refine LeO.ite ?_ ?_
   |refine LeO.bind ?_ (fun _=>?_)
theorem newelref19_Same.mono:∀ D L a2 X k,LeO (newelref19_Same.f k D L a2 X) (newelref19_Same.f (k+1) D L a2 X):=by
 intro D L a2 X k
 obtain⟨B,O,Y⟩:=newelref19_Same.Zn k
 unfold newelref19_Same.f
 repeat' first
   |(with_reducible exact B _ _ _ _ _)
   |(with_reducible exact O _ _ _ _ _)
   |(with_reducible exact Y _ _ _ _ _)
   |(with_reducible exact LeO.refl _)
   |(with_reducible exact LeO.none _)
   |(with_reducible refine LeO.ite ?_ ?_)
   |(with_reducible refine LeO.bind ?_ (fun _=>?_))
   |exact B _ _ _ _ _
   |exact O _ _ _ _ _
   |exact Y _ _ _ _ _
   |exact LeO.none _
   |refine LeO.ite ?_ ?_
   |refine LeO.bind ?_ (fun _=>?_)
set_option maxHeartbeats 8000000 in
set_option maxRecDepth 100000 in
theorem newelref19_Same.calls (k:Nat) (μ :Option Addr) (θ :Nat) (J:List (S56)) (ν :Option Addr) (τ :Nat) (D:List (S62)) (ζ :Option Addr) (γ:Nat) (B:List (S56)) (η :Option Addr) (ε :Nat) (I:List (S62)) (r:Bool) (w:World) (a2:Kd.C k56 w μ J.length J) (a6:J.length ≤ θ) (ρ:Kd.C k62 w ν D.length D) (a0:D.length ≤ τ) (b4:Kd.C k56 w ζ B.length B) (b5:B.length≤γ) (b6:Kd.C k62 w η I.length I) (b7:I.length ≤ ε) (h:newelref19_Same.f k J D B I=some r):
  Calls Try.prog 15 #[.agg #[.slice μ J.length θ,.slice ν D.length τ],.agg #[.slice ζ B.length γ,.slice η I.length ε]] w fun e w'=>e = .returned (.bool r)∧Below w.heap.size w w':=by
 have d6:=Try.underlying27
 have ay:=Try.underlying56
 have b8:=Try.underlying62
 have ψ :=Aside0.mk a2
 have a8:=Aside0.mk a6
 clear a2 a6
 have bo:=Aside0.mk ρ
 have cp:=Aside0.mk a0
 clear ρ a0
 have ag:=Aside0.mk b4
 have ar:=Aside0.mk b5
 clear b4 b5
 have ai:=Aside0.mk b6
 have au:=Aside0.mk b7
 clear b6 b7
 have HB:=Aside0.mk (Below.refl w.heap.size w)
 have H:(if (J.length:Int)=(B.length:Int) then (newelref19_Same.j0 k ((D.length:Int) != (I.length:Int)) J D B I) else (newelref19_Same.j0 k true J D B I))=some r:=h
 clear h
 have ac:=Aside0.mk H
 clear H
 go_enter Try.func15,Try.ntmps15
 go_upto_region 1 with(first|((with_reducible refine Qp (N:=2) rfl ?_);(try(refine Xa (by rfl) ?_;dsimp only));refine qE 2 #[.slice μ J.length θ,.slice ν D.length τ] 27 ?_;intro ι hg w4 hbox hb;have O:=Aside0.mk hbox;have bu:=sGe hg;have bw:=sGe hg;replace HB:=sHb hb;clear hb hbox hg)|((with_reducible refine Qp (N:=3) rfl ?_);(try(refine Xa (by rfl) ?_;dsimp only));refine qE 3 #[.slice ζ B.length γ,.slice η I.length ε] 27 ?_;intro bk hg w5 hbox hb;have L:=Aside0.mk hbox;have cn:=sGe hg;have co:=sGe hg;have Z:=sNl O hg;have δ :=sNg O hg;replace O:=sBk O hb;replace HB:=sHb hb;clear hb hbox hg))
 repeat(go_quiet (first|((with_reducible refine Qp (N:=2) rfl ?_);(try(refine Xa (by rfl) ?_;dsimp only));refine qE 2 #[.slice μ J.length θ,.slice ν D.length τ] 27 ?_;intro ι hg w4 hbox hb;have O:=Aside0.mk hbox;have bu:=sGe hg;have bw:=sGe hg;replace HB:=sHb hb;clear hb hbox hg)|((with_reducible refine Qp (N:=3) rfl ?_);(try(refine Xa (by rfl) ?_;dsimp only));refine qE 3 #[.slice ζ B.length γ,.slice η I.length ε] 27 ?_;intro bk hg w5 hbox hb;have L:=Aside0.mk hbox;have cn:=sGe hg;have co:=sGe hg;have Z:=sNl O hg;have δ :=sNg O hg;replace O:=sBk O hb;replace HB:=sHb hb;clear hb hbox hg));go_upto_region 1 with(first|((with_reducible refine Qp (N:=2) rfl ?_);(try(refine Xa (by rfl) ?_;dsimp only));refine qE 2 #[.slice μ J.length θ,.slice ν D.length τ] 27 ?_;intro ι hg w4 hbox hb;have O:=Aside0.mk hbox;have bu:=sGe hg;have bw:=sGe hg;replace HB:=sHb hb;clear hb hbox hg)|((with_reducible refine Qp (N:=3) rfl ?_);(try(refine Xa (by rfl) ?_;dsimp only));refine qE 3 #[.slice ζ B.length γ,.slice η I.length ε] 27 ?_;intro bk hg w5 hbox hb;have L:=Aside0.mk hbox;have cn:=sGe hg;have co:=sGe hg;have Z:=sNl O hg;have δ :=sNg O hg;replace O:=sBk O hb;replace HB:=sHb hb;clear hb hbox hg)))
 (try simp only[Act.put,qS])
 go_cut [22] (fun dr wc=>∃ (kq:Nat) (cq:Bool),dr = .bool cq∧Aside0 (newelref19_Same.j0 kq cq J D B I=some r)∧Aside0 (kq≤k)∧Aside0 (wc.heap[ι]?=some (.cells #[(.slice μ J.length θ),(.slice ν D.length τ)] 27 (0,0)))∧Aside0 (wc.heap[bk]?=some (.cells #[(.slice ζ B.length γ),(.slice η I.length ε)] 27 (0,0)))∧Aside0 (Below w.heap.size w wc))
 case first=>
  have H:=ac.out
  clear ac
  by_cases c6:(J.length:Int)=(B.length:Int)
  ·rw[if_pos c6] at H
   have c6b0:((J.length:Int)==(B.length:Int))=true:=beq_iff_eq.mpr c6
   have c6b1:((J.length:Int) != (B.length:Int))=false:=bne_eq_false_iff_eq.mpr c6
   have c6b2:(J.length==B.length)=true:=by first|simpa using c6|(simp at c6 ⊢;omega)
   clear c6
   (first|rw[c6b0]|(simp only[Zg,Zj];rw[c6b0])|skip)
   have H':=Aside0.mk H
   clear H
   have dh:=Z.out
   have di:= δ.out
   obtain⟨aw,b9,bb,bc⟩:=qD2 O.out
   obtain⟨ae,bh,bi,bj⟩:=qD2 L.out
   go_wp2
   repeat(go_quiet (fail);try go_wp2)
   go_meet
   case rel=>exact⟨_,(((D.length:Int) != (I.length:Int))),rfl,H',⟨by first|omega|exact Nat.le_refl _⟩,O,L,HB⟩
  ·rw[if_neg c6] at H
   have c6b0:((J.length:Int)==(B.length:Int))=false:=beq_eq_false_iff_ne.mpr c6
   have c6b1:((J.length:Int) != (B.length:Int))=true:=bne_iff_ne.mpr c6
   have c6b2:(J.length==B.length)=false:=by first|simpa using c6|(simp at c6 ⊢;omega)
   (first|rw[c6b0]|(simp only[Zg,Zj];rw[c6b0])|skip)
   have H':=Aside0.mk H
   clear H
   have db:=Z.out
   have dc:= δ.out
   obtain⟨af,aj,bf,bg⟩:=qD2 O.out
   obtain⟨b0,b1,b2,b3⟩:=qD2 L.out
   go_wp2
   repeat(go_quiet (fail);try go_wp2)
   go_meet
   case rel=>exact⟨_,(true),rfl,H',⟨by first|omega|exact Nat.le_refl _⟩,O,L,HB⟩
 case rest=>
  clear ac
  try clear c1
  try clear p2
  try clear c6
  try clear c6b0
  try clear c6b1
  try clear c6b2
  try clear c7
  try clear c10
  try clear af
  try clear aj
  try clear b0
  try clear b1
  try clear aw
  try clear b9
  try clear ae
  try clear bh
  try clear bf
  try clear bg
  try clear b2
  try clear b3
  try clear bb
  try clear bc
  try clear bi
  try clear bj
  obtain⟨kq,cq,rfl,HA,cr,O,L,HB⟩:=hcut
  cases kq with
  |zero=>exact absurd HA.out (by simp[newelref19_Same.j0])
  |succ cu=>
   have H:=HA.out
   clear HA
   simp only[newelref19_Same.j0] at H
   by_cases ba:cq=true
   ·subst ba
    have H1:(some false)=some r:=by rw[if_pos rfl] at H;exact H
    clear H
    have H:=H1
    clear H1
    obtain rfl:=Option.some.inj H
    go_wp2
    repeat(go_quiet (fail);try go_wp2)
    go_ret
    exact⟨rfl,HB.out⟩
   ·replace ba:=Bool.eq_false_iff.mpr ba
    subst ba
    have H1:(newelref19_Same.l0 cu 0 J D B I)=some r:=by rw[if_neg (show ¬ (false=true) by decide)] at H;exact H
    clear H
    have H:=H1
    clear H1
    have H':=Aside0.mk H
    clear H
    go_wp2
    repeat(go_quiet (fail);try go_wp2)
    go_loopg [5] cu (fun kq v5 w'=>∃ (U:Int),v5 = .int .i64 U∧Aside0 (newelref19_Same.l0 kq U J D B I=some r)∧Aside0 (kq≤cu)∧Aside0 (w'.heap[ι]?=some (.cells #[(.slice μ J.length θ),(.slice ν D.length τ)] 27 (0,0)))∧Aside0 (w'.heap[bk]?=some (.cells #[(.slice ζ B.length γ),(.slice η I.length ε)] 27 (0,0)))∧Aside0 (Below w.heap.size w w'))
    case atStart=>exact⟨(0),rfl,H',⟨Nat.le_refl _⟩,O,L,HB⟩
    case round=>
     clear H'
     try clear c1
     try clear p2
     try clear c6
     try clear c6b0
     try clear c6b1
     try clear c6b2
     try clear c7
     try clear c10
     try clear ba
     try clear af
     try clear aj
     try clear b0
     try clear b1
     try clear aw
     try clear b9
     try clear ae
     try clear bh
     try clear bf
     try clear bg
     try clear b2
     try clear b3
     try clear bb
     try clear bc
     try clear bi
     try clear bj
     try clear p2
     obtain⟨U,rfl,HA,bn,O,L,HB⟩:=hrel
     cases gk with
     |zero=>exact absurd HA.out (by simp[newelref19_Same.l0])
     |succ k2=>
      have H:=HA.out
      clear HA
      simp only[newelref19_Same.l0] at H
      by_cases az:U<(J.length:Int)
      ·rw[if_pos az] at H
       have c14b0:decide (U<(J.length:Int))=true:=decide_eq_true az
       clear az
       by_cases a4:0≤U
       ·rw[if_pos a4] at H
        have c15b0:decide (0≤U)=true:=decide_eq_true a4
        clear a4
        by_cases an:U<(B.length:Int)
        ·rw[if_pos an] at H
         have c16b0:decide (U<(B.length:Int))=true:=decide_eq_true an
         clear an
         by_cases a5:(!(((Qa J U).f0)==((Qa B U).f0))||(!(((Qa J U).f1)==((Qa B U).f1))||(!(((Qa J U).f2)==((Qa B U).f2)))))=true
         ·rw[if_pos a5] at H
          have c17b0:(!(((Qa J U).f0)==((Qa B U).f0))||(!(((Qa J U).f1)==((Qa B U).f1))||(!(((Qa J U).f2)==((Qa B U).f2)))))=true:=a5
          (try(have c17s0:=c17b0;simp only[beq_self_eq_true,bne_self_eq_false,Bool.not_true,Bool.not_false,Bool.true_and,Bool.and_true,Bool.false_or,Bool.or_false] at c17s0))
          clear a5
          obtain rfl:=Option.some.inj H
          have ca:=Z.out
          have cb:= δ.out
          obtain⟨am,ao,ap,av⟩:=qD2 O.out
          have bv:0≤(U:Int):=of_decide_eq_true (by assumption)
          have bz:U<(J.length:Int):=of_decide_eq_true (by assumption)
          obtain⟨d9,cx,Y,κ,ξ⟩:=Zo ψ.out U bv bz
          cases cx
          replace Y:=(HB.out.cell (World.block_lt_of_cell? w _ Y)).trans Y
          replace κ :=(HB.out.cell (World.block_lt_of_cell? w _ κ)).trans κ
          replace ξ :=(HB.out.cell (World.block_lt_of_cell? w _ ξ)).trans ξ
          replace bv:=eq_true bv
          replace bz:=eq_true bz
          obtain⟨ah,ak,bd,be⟩:=qD2 L.out
          have a7:0≤(U:Int):=of_decide_eq_true (by assumption)
          have a9:U<(B.length:Int):=of_decide_eq_true (by assumption)
          obtain⟨ab,bl,φ,χ,a3⟩:=Zo ag.out U a7 a9
          cases bl
          replace φ :=(HB.out.cell (World.block_lt_of_cell? w _ φ)).trans φ
          replace χ :=(HB.out.cell (World.block_lt_of_cell? w _ χ)).trans χ
          replace a3:=(HB.out.cell (World.block_lt_of_cell? w _ a3)).trans a3
          replace a7:=eq_true a7
          replace a9:=eq_true a9
          go_wp2
          repeat(go_quiet (fail);try go_wp2)
          go_ret
          exact⟨by first|rfl|(simp[Qy,Qx] <;> rfl)|(simp[*,Qy,Qx] <;> rfl),bel⟩
         ·rw[if_neg a5] at H
          have c17b0:(!(((Qa J U).f0)==((Qa B U).f0))||(!(((Qa J U).f1)==((Qa B U).f1))||(!(((Qa J U).f2)==((Qa B U).f2)))))=false:=by simpa using a5
          (try(have c17s0:=c17b0;simp only[beq_self_eq_true,bne_self_eq_false,Bool.not_true,Bool.not_false,Bool.true_and,Bool.and_true,Bool.false_or,Bool.or_false] at c17s0))
          clear a5
          have H':=Aside0.mk H
          clear H
          have e5:=Z.out
          have ea:= δ.out
          obtain⟨cf,ch,ck,cm⟩:=qD2 O.out
          have bv:0≤(U:Int):=of_decide_eq_true (by assumption)
          have bz:U<(J.length:Int):=of_decide_eq_true (by assumption)
          obtain⟨d9,cx,Y,κ,ξ⟩:=Zo ψ.out U bv bz
          cases cx
          replace Y:=(HB.out.cell (World.block_lt_of_cell? w _ Y)).trans Y
          replace κ :=(HB.out.cell (World.block_lt_of_cell? w _ κ)).trans κ
          replace ξ :=(HB.out.cell (World.block_lt_of_cell? w _ ξ)).trans ξ
          replace bv:=eq_true bv
          replace bz:=eq_true bz
          obtain⟨bp,bq,br,bs⟩:=qD2 L.out
          have a7:0≤(U:Int):=of_decide_eq_true (by assumption)
          have a9:U<(B.length:Int):=of_decide_eq_true (by assumption)
          obtain⟨ab,bl,φ,χ,a3⟩:=Zo ag.out U a7 a9
          cases bl
          replace φ :=(HB.out.cell (World.block_lt_of_cell? w _ φ)).trans φ
          replace χ :=(HB.out.cell (World.block_lt_of_cell? w _ χ)).trans χ
          replace a3:=(HB.out.cell (World.block_lt_of_cell? w _ a3)).trans a3
          replace a7:=eq_true a7
          replace a9:=eq_true a9
          go_wp2
          repeat(go_quiet (fail);try go_wp2)
          go_roundg k2
          case measure=>have:=cr.out;have:=bn.out;omega
          case rel=>exact⟨(wrap64 (U+1)),qR,H',⟨by have:=cr.out;have:=bn.out;omega⟩,⟨bka O⟩,⟨bka L⟩,⟨bel⟩⟩
        ·rw[if_neg an] at H
         exact absurd H (by simp)
       ·rw[if_neg a4] at H
        exact absurd H (by simp)
      ·rw[if_neg az] at H
       have c14b0:decide (U<(J.length:Int))=false:=decide_eq_false az
       clear az
       have H':=Aside0.mk H
       clear H
       have fn:=Z.out
       have fo:= δ.out
       obtain⟨d1,d2,d3,d8⟩:=qD2 O.out
       go_wp2
       repeat(go_quiet (fail);try go_wp2)
       go_loopg [6] k2 (fun kq v6 w'=>∃ (X:Int),v6 = .int .i64 X∧Aside0 (newelref19_Same.l1 kq X J D B I=some r)∧Aside0 (kq≤k2)∧Aside0 (w'.heap[ι]?=some (.cells #[(.slice μ J.length θ),(.slice ν D.length τ)] 27 (0,0)))∧Aside0 (w'.heap[bk]?=some (.cells #[(.slice ζ B.length γ),(.slice η I.length ε)] 27 (0,0)))∧Aside0 (Below w.heap.size w w'))
       case atStart=>exact⟨(0),rfl,H',⟨Nat.le_refl _⟩,O,L,HB⟩
       case round=>
        clear H'
        try clear c1
        try clear p1
        try clear q1
        try clear bm
        try clear c2
        try clear p2
        try clear c6
        try clear c6b0
        try clear c6b1
        try clear c6b2
        try clear p6
        try clear c7
        try clear c10
        try clear dp
        try clear dq
        try clear dj
        try clear ba
        try clear az
        try clear c14b0
        try clear a4
        try clear c15b0
        try clear an
        try clear c16b0
        try clear a5
        try clear c17b0
        try clear cw
        try clear cv
        try clear d4
        try clear af
        try clear aj
        try clear b0
        try clear b1
        try clear am
        try clear ao
        try clear ah
        try clear ak
        try clear cf
        try clear ch
        try clear bp
        try clear bq
        try clear d1
        try clear d2
        try clear aw
        try clear b9
        try clear ae
        try clear bh
        try clear bf
        try clear bg
        try clear b2
        try clear b3
        try clear ap
        try clear av
        try clear bd
        try clear be
        try clear ck
        try clear cm
        try clear br
        try clear bs
        try clear d3
        try clear d8
        try clear bb
        try clear bc
        try clear bi
        try clear bj
        try clear Y
        try clear κ
        try clear ξ
        try clear φ
        try clear χ
        try clear a3
        try clear bv
        try clear a7
        try clear p2
        try clear bz
        try clear a9
        obtain⟨X,rfl,HA,df,O,L,HB⟩:=hrel
        cases gk with
        |zero=>exact absurd HA.out (by simp[newelref19_Same.l1])
        |succ k3=>
         have H:=HA.out
         clear HA
         simp only[newelref19_Same.l1] at H
         by_cases ax:X<(D.length:Int)
         ·rw[if_pos ax] at H
          have c26b0:decide (X<(D.length:Int))=true:=decide_eq_true ax
          clear ax
          by_cases de:0≤X
          ·rw[if_pos de] at H
           have c27b0:decide (0≤X)=true:=decide_eq_true de
           clear de
           by_cases al:X<(I.length:Int)
           ·rw[if_pos al] at H
            have c28b0:decide (X<(I.length:Int))=true:=decide_eq_true al
            clear al
            by_cases ce:(!(((Qk D X).f0)==((Qk I X).f0))||(!(((Qk D X).f1)==((Qk I X).f1))))=true
            ·rw[if_pos ce] at H
             have c29b0:(!(((Qk D X).f0)==((Qk I X).f0))||(!(((Qk D X).f1)==((Qk I X).f1))))=true:=ce
             (try(have c29s0:=c29b0;simp only[beq_self_eq_true,bne_self_eq_false,Bool.not_true,Bool.not_false,Bool.true_and,Bool.and_true,Bool.false_or,Bool.or_false] at c29s0))
             clear ce
             obtain rfl:=Option.some.inj H
             have il:=Z.out
             have im:= δ.out
             obtain⟨fj,fk,fl,fm⟩:=qD2 O.out
             have cd:0≤(X:Int):=of_decide_eq_true (by assumption)
             have cg:X<(D.length:Int):=of_decide_eq_true (by assumption)
             obtain⟨da,cy,σ,ω⟩:=Zu bo.out X cd cg
             cases cy
             replace σ:=(HB.out.cell (World.block_lt_of_cell? w _ σ)).trans σ
             replace ω :=(HB.out.cell (World.block_lt_of_cell? w _ ω)).trans ω
             replace cd:=eq_true cd
             replace cg:=eq_true cg
             obtain⟨dk,dl,dm,dn⟩:=qD2 L.out
             have ci:0≤(X:Int):=of_decide_eq_true (by assumption)
             have cj:X<(I.length:Int):=of_decide_eq_true (by assumption)
             obtain⟨dd,cz,a1,aa⟩:=Zu ai.out X ci cj
             cases cz
             replace a1:=(HB.out.cell (World.block_lt_of_cell? w _ a1)).trans a1
             replace aa:=(HB.out.cell (World.block_lt_of_cell? w _ aa)).trans aa
             replace ci:=eq_true ci
             replace cj:=eq_true cj
             go_wp2
             repeat(go_quiet (fail);try go_wp2)
             go_ret
             exact⟨by first|rfl|(simp[Qy,Qx] <;> rfl)|(simp[*,Qy,Qx] <;> rfl),bel⟩
            ·rw[if_neg ce] at H
             have c29b0:(!(((Qk D X).f0)==((Qk I X).f0))||(!(((Qk D X).f1)==((Qk I X).f1))))=false:=by simpa using ce
             (try(have c29s0:=c29b0;simp only[beq_self_eq_true,bne_self_eq_false,Bool.not_true,Bool.not_false,Bool.true_and,Bool.and_true,Bool.false_or,Bool.or_false] at c29s0))
             clear ce
             have H':=Aside0.mk H
             clear H
             have fe:=Z.out
             have ff:= δ.out
             obtain⟨ec,ed,ee,ef⟩:=qD2 O.out
             have cd:0≤(X:Int):=of_decide_eq_true (by assumption)
             have cg:X<(D.length:Int):=of_decide_eq_true (by assumption)
             obtain⟨da,cy,σ,ω⟩:=Zu bo.out X cd cg
             cases cy
             replace σ:=(HB.out.cell (World.block_lt_of_cell? w _ σ)).trans σ
             replace ω :=(HB.out.cell (World.block_lt_of_cell? w _ ω)).trans ω
             replace cd:=eq_true cd
             replace cg:=eq_true cg
             obtain⟨eg,eh,ei,ej⟩:=qD2 L.out
             have ci:0≤(X:Int):=of_decide_eq_true (by assumption)
             have cj:X<(I.length:Int):=of_decide_eq_true (by assumption)
             obtain⟨dd,cz,a1,aa⟩:=Zu ai.out X ci cj
             cases cz
             replace a1:=(HB.out.cell (World.block_lt_of_cell? w _ a1)).trans a1
             replace aa:=(HB.out.cell (World.block_lt_of_cell? w _ aa)).trans aa
             replace ci:=eq_true ci
             replace cj:=eq_true cj
             go_wp2
             repeat(go_quiet (fail);try go_wp2)
             go_roundg k3
             case measure=>have:=cr.out;have:=bn.out;have:=df.out;omega
             case rel=>exact⟨(wrap64 (X+1)),qR,H',⟨by have:=cr.out;have:=bn.out;have:=df.out;omega⟩,⟨bka O⟩,⟨bka L⟩,⟨bel⟩⟩
           ·rw[if_neg al] at H
            exact absurd H (by simp)
          ·rw[if_neg de] at H
           exact absurd H (by simp)
         ·rw[if_neg ax] at H
          have c26b0:decide (X<(D.length:Int))=false:=decide_eq_false ax
          clear ax
          obtain rfl:=Option.some.inj H
          have e6:=Z.out
          have e8:= δ.out
          obtain⟨ct,d0,d5,d7⟩:=qD2 O.out
          go_wp2
          repeat(go_quiet (fail);try go_wp2)
          go_ret
          exact⟨by first|rfl|(simp[Qy,Qx] <;> rfl)|(simp[*,Qy,Qx] <;> rfl),bel⟩
end Go.Proofs.Ytjehhhlhalkieaa.C
namespace Go.Proofs.Ytjehhhlhalkieaa.C
open Go.RowKit Go.Proofs.YtjehhhlhalkieaaW.PrintWords Go.Proofs.YtjehhhlhalkieaaW.PrintLast Go.Proofs.YtjehhhlhalkieaaW.PrintMore
attribute [local go_sem] Z4 Z2 Xe Xd Zx Zw Z3 Z1
set_option linter.unusedVariables false
set_option linter.unusedSimpArgs false
attribute [local go_sem high] Ee
def api_Hall.l0:Nat→List (S56)→List (S56)→Int→Int→Option (Bool)
 |0,_,_,_,_=>none
 |k+1,D,J,I,B=>if B<I then (if 0≤B then (if B<(D.length:Int) then (if B<(J.length:Int) then (if (!(((Qa D B).f0)==((Qa J B).f0))||(!(((Qa D B).f1)==((Qa J B).f1))||(!(((Qa D B).f2)==((Qa J B).f2)))))=true then (some false) else (api_Hall.l0 k D J I (wrap64 (B+1)))) else (none)) else (none)) else (none)) else (some true)
def api_Hall.f (k:Nat) (l0:List (S56)) (l1:List (S56)):Option (Bool):=if (l0.length:Int)=(l1.length:Int) then (api_Hall.l0 k l0 l1 (l0.length:Int) 0) else (some false)
theorem api_Hall.Zn:∀ k,(∀ I L U D,LeO (api_Hall.l0 k I L U D) (api_Hall.l0 (k+1) I L U D))
 |0=>fun _ _ _ _ r h=>by simp[api_Hall.l0] at h
 |k+1=>by
  have B:=api_Hall.Zn k
  ·intro I L U D
   unfold api_Hall.l0
   repeat' first
   |(with_reducible exact B _ _ _ _)
   |(with_reducible exact LeO.refl _)
   |(with_reducible exact LeO.none _)
   |(with_reducible refine LeO.ite ?_ ?_)
   |(with_reducible refine LeO.bind ?_ (fun _=>?_))
   |exact B _ _ _ _
   |exact LeO.none _
   |refine LeO.ite ?_ ?_
   |refine LeO.bind ?_ (fun _=>?_)
theorem api_Hall.mono:∀ D L k,LeO (api_Hall.f k D L) (api_Hall.f (k+1) D L):=by
 intro D L k
 have B:=api_Hall.Zn k
 unfold api_Hall.f
 repeat' first
   |(with_reducible exact B _ _ _ _)
   |(with_reducible exact LeO.refl _)
   |(with_reducible exact LeO.none _)
   |(with_reducible refine LeO.ite ?_ ?_)
   |(with_reducible refine LeO.bind ?_ (fun _=>?_))
   |exact B _ _ _ _
   |exact LeO.none _
   |refine LeO.ite ?_ ?_
   |refine LeO.bind ?_ (fun _=>?_)
set_option maxHeartbeats 8000000 in
set_option maxRecDepth 100000 in
theorem api_Hall.calls (k:Nat) (A0:Option Addr) (c0:Nat) (l0:List (S56)) (A1:Option Addr) (c1:Nat) (l1:List (S56)) (r:Bool) (w:World) (aa:Kd.C k56 w A0 l0.length l0) (a9:l0.length≤c0) (γ:Kd.C k56 w A1 l1.length l1) (X:l1.length≤c1) (h:api_Hall.f k l0 l1=some r):
  Calls Try.prog 48 #[.slice A0 l0.length c0,.slice A1 l1.length c1] w fun e w'=>e = .returned (.bool r)∧Drawn0 w w':=by
 have ay:=Try.underlying56
 have ν :=Aside0.mk aa
 have cn:=Aside0.mk a9
 clear aa a9
 have δ :=Aside0.mk γ
 have ρ:=Aside0.mk X
 clear γ X
 have H:(if (l0.length:Int)=(l1.length:Int) then (api_Hall.l0 k l0 l1 (l0.length:Int) 0) else (some false))=some r:=h
 clear h
 by_cases c3:(l0.length:Int)=(l1.length:Int)
 ·rw[if_pos c3] at H
  have c3b0:((l0.length:Int)==(l1.length:Int))=true:=beq_iff_eq.mpr c3
  have c3b1:((l0.length:Int) != (l1.length:Int))=false:=bne_eq_false_iff_eq.mpr c3
  have c3b2:(l0.length==l1.length)=true:=by first|simpa using c3|(simp at c3 ⊢;omega)
  clear c3
  have H':=Aside0.mk H
  clear H
  go_enter Try.func48,Try.ntmps48
  go_wp2
  repeat(go_quiet (fail);try go_wp2)
  go_loopg [13] k (fun kq κ w'=>∃ (B:Int),κ = .int .i64 B∧Aside0 (api_Hall.l0 kq l0 l1 (l0.length:Int) B=some r)∧Aside0 (kq≤k)∧Drawn0 w w')
  case atStart=>exact⟨(0),qR,H',⟨Nat.le_refl _⟩,by repeat(first|exact Drawn0.refl _|apply Drawn0.step)⟩
  case round=>
   clear H'
   try clear c1
   try clear p2
   try clear c3
   try clear c3b0
   try clear c3b1
   try clear c3b2
   obtain⟨B,rfl,HA,ξ,⟨m1,rfl⟩⟩:=hrel
   cases gk with
   |zero=>exact absurd HA.out (by simp[api_Hall.l0])
   |succ k1=>
    have H:=HA.out
    clear HA
    simp only[api_Hall.l0] at H
    by_cases c4:B<(l0.length:Int)
    ·rw[if_pos c4] at H
     have c4b0:decide (B<(l0.length:Int))=true:=decide_eq_true c4
     clear c4
     by_cases c5:0≤B
     ·rw[if_pos c5] at H
      have c5b0:decide (0≤B)=true:=decide_eq_true c5
      clear c5
      by_cases c6:B<(l0.length:Int)
      ·rw[if_pos c6] at H
       have c6b0:decide (B<(l0.length:Int))=true:=decide_eq_true c6
       clear c6
       by_cases c7:B<(l1.length:Int)
       ·rw[if_pos c7] at H
        have c7b0:decide (B<(l1.length:Int))=true:=decide_eq_true c7
        clear c7
        by_cases c8:(!(((Qa l0 B).f0)==((Qa l1 B).f0))||(!(((Qa l0 B).f1)==((Qa l1 B).f1))||(!(((Qa l0 B).f2)==((Qa l1 B).f2)))))=true
        ·rw[if_pos c8] at H
         have c8b0:(!(((Qa l0 B).f0)==((Qa l1 B).f0))||(!(((Qa l0 B).f1)==((Qa l1 B).f1))||(!(((Qa l0 B).f2)==((Qa l1 B).f2)))))=true:=c8
         (try(have c8s0:=c8b0;simp only[beq_self_eq_true,bne_self_eq_false,Bool.not_true,Bool.not_false,Bool.true_and,Bool.and_true,Bool.false_or,Bool.or_false] at c8s0))
         clear c8
         obtain rfl:=Option.some.inj H
         have L:0≤(B:Int):=of_decide_eq_true (by first|(with_reducible assumption)|assumption)
         have O:B<(l0.length:Int):=of_decide_eq_true (by first|(with_reducible assumption)|assumption)
         obtain⟨μ,ε,ζ,η,θ⟩:=Zo ν.out B L O
         cases ε
         replace L:=eq_true L
         replace O:=eq_true O
         have J:0≤(B:Int):=of_decide_eq_true (by first|(with_reducible assumption)|assumption)
         have U:B<(l1.length:Int):=of_decide_eq_true (by first|(with_reducible assumption)|assumption)
         obtain⟨Z,Y,D,I,ι⟩:=Zo δ.out B J U
         cases Y
         replace J:=eq_true J
         replace U:=eq_true U
         go_wp2
         repeat(go_quiet (fail);try go_wp2)
         go_ret
         exact⟨qR,by repeat(first|exact Drawn0.refl _|apply Drawn0.step)⟩
        ·rw[if_neg c8] at H
         have c8b0:(!(((Qa l0 B).f0)==((Qa l1 B).f0))||(!(((Qa l0 B).f1)==((Qa l1 B).f1))||(!(((Qa l0 B).f2)==((Qa l1 B).f2)))))=false:=by simpa using c8
         (try(have c8s0:=c8b0;simp only[beq_self_eq_true,bne_self_eq_false,Bool.not_true,Bool.not_false,Bool.true_and,Bool.and_true,Bool.false_or,Bool.or_false] at c8s0))
         clear c8
         have H':=Aside0.mk H
         clear H
         have L:0≤(B:Int):=of_decide_eq_true (by first|(with_reducible assumption)|assumption)
         have O:B<(l0.length:Int):=of_decide_eq_true (by first|(with_reducible assumption)|assumption)
         obtain⟨μ,ε,ζ,η,θ⟩:=Zo ν.out B L O
         cases ε
         replace L:=eq_true L
         replace O:=eq_true O
         have J:0≤(B:Int):=of_decide_eq_true (by first|(with_reducible assumption)|assumption)
         have U:B<(l1.length:Int):=of_decide_eq_true (by first|(with_reducible assumption)|assumption)
         obtain⟨Z,Y,D,I,ι⟩:=Zo δ.out B J U
         cases Y
         replace J:=eq_true J
         replace U:=eq_true U
         go_wp2
         repeat(go_quiet (fail);try go_wp2)
         go_roundg k1
         case measure=>have:= ξ.out;omega
         case rel=>exact⟨(wrap64 (B+1)),qR,H',⟨by have:= ξ.out;omega⟩,by repeat(first|exact Drawn0.refl _|apply Drawn0.step)⟩
       ·rw[if_neg c7] at H
        exact absurd H (by simp)
      ·rw[if_neg c6] at H
       exact absurd H (by simp)
     ·rw[if_neg c5] at H
      exact absurd H (by simp)
    ·rw[if_neg c4] at H
     have c4b0:decide (B<(l0.length:Int))=false:=decide_eq_false c4
     clear c4
     obtain rfl:=Option.some.inj H
     go_wp2
     repeat(go_quiet (fail);try go_wp2)
     go_ret
     exact⟨qR,by repeat(first|exact Drawn0.refl _|apply Drawn0.step)⟩
 ·rw[if_neg c3] at H
  have c3b0:((l0.length:Int)==(l1.length:Int))=false:=beq_eq_false_iff_ne.mpr c3
  have c3b1:((l0.length:Int) != (l1.length:Int))=true:=bne_iff_ne.mpr c3
  have c3b2:(l0.length==l1.length)=false:=by first|simpa using c3|(simp at c3 ⊢;omega)
  obtain rfl:=Option.some.inj H
  go_enter Try.func48,Try.ntmps48
  go_wp2
  repeat(go_quiet (fail);try go_wp2)
  go_ret
  exact⟨qR,by repeat(first|exact Drawn0.refl _|apply Drawn0.step)⟩
end Go.Proofs.Ytjehhhlhalkieaa.C
namespace Go.Proofs.Ytjehhhlhalkieaa.C
open Go.RowKit Go.Proofs.YtjehhhlhalkieaaW.PrintWords Go.Proofs.YtjehhhlhalkieaaW.PrintLast Go.Proofs.YtjehhhlhalkieaaW.PrintMore
attribute [local go_sem] Z4 Z2 Xe Xd Zx Zw Z3 Z1
set_option linter.unusedVariables false
set_option linter.unusedSimpArgs false
attribute [local go_sem high] M2
def api_Inside.l0:Nat→List (S62)→List (S62)→Int→Int→Option (Bool)
 |0,_,_,_,_=>none
 |k+1,D,J,I,B=>if B<I then (if 0≤B then (if B<(D.length:Int) then (if B<(J.length:Int) then (if (!(((Qk D B).f0)==((Qk J B).f0))||(!(((Qk D B).f1)==((Qk J B).f1))))=true then (some false) else (api_Inside.l0 k D J I (wrap64 (B+1)))) else (none)) else (none)) else (none)) else (some true)
def api_Inside.f (k:Nat) (l0:List (S62)) (l1:List (S62)):Option (Bool):=if (l0.length:Int)=(l1.length:Int) then (api_Inside.l0 k l0 l1 (l0.length:Int) 0) else (some false)
theorem api_Inside.Zn:∀ k,(∀ I L U D,LeO (api_Inside.l0 k I L U D) (api_Inside.l0 (k+1) I L U D))
 |0=>fun _ _ _ _ r h=>by simp[api_Inside.l0] at h
 |k+1=>by
  have B:=api_Inside.Zn k
  ·intro I L U D
   unfold api_Inside.l0
   repeat' first
   |(with_reducible exact B _ _ _ _)
   |(with_reducible exact LeO.refl _)
   |(with_reducible exact LeO.none _)
   |(with_reducible refine LeO.ite ?_ ?_)
   |(with_reducible refine LeO.bind ?_ (fun _=>?_))
   |exact B _ _ _ _
   |exact LeO.none _
   |refine LeO.ite ?_ ?_
   |refine LeO.bind ?_ (fun _=>?_)
theorem api_Inside.mono:∀ D L k,LeO (api_Inside.f k D L) (api_Inside.f (k+1) D L):=by
 intro D L k
 have B:=api_Inside.Zn k
 unfold api_Inside.f
 repeat' first
   |(with_reducible exact B _ _ _ _)
   |(with_reducible exact LeO.refl _)
   |(with_reducible exact LeO.none _)
   |(with_reducible refine LeO.ite ?_ ?_)
   |(with_reducible refine LeO.bind ?_ (fun _=>?_))
   |exact B _ _ _ _
   |exact LeO.none _
   |refine LeO.ite ?_ ?_
   |refine LeO.bind ?_ (fun _=>?_)
set_option maxHeartbeats 8000000 in
set_option maxRecDepth 100000 in
theorem api_Inside.calls (k:Nat) (A0:Option Addr) (c0:Nat) (l0:List (S62)) (A1:Option Addr) (c1:Nat) (l1:List (S62)) (r:Bool) (w:World) (aa:Kd.C k62 w A0 l0.length l0) (a9:l0.length≤c0) (γ:Kd.C k62 w A1 l1.length l1) (X:l1.length≤c1) (h:api_Inside.f k l0 l1=some r):
  Calls Try.prog 49 #[.slice A0 l0.length c0,.slice A1 l1.length c1] w fun e w'=>e = .returned (.bool r)∧Drawn0 w w':=by
 have b8:=Try.underlying62
 have ν :=Aside0.mk aa
 have cn:=Aside0.mk a9
 clear aa a9
 have δ :=Aside0.mk γ
 have ρ:=Aside0.mk X
 clear γ X
 have H:(if (l0.length:Int)=(l1.length:Int) then (api_Inside.l0 k l0 l1 (l0.length:Int) 0) else (some false))=some r:=h
 clear h
 by_cases c3:(l0.length:Int)=(l1.length:Int)
 ·rw[if_pos c3] at H
  have c3b0:((l0.length:Int)==(l1.length:Int))=true:=beq_iff_eq.mpr c3
  have c3b1:((l0.length:Int) != (l1.length:Int))=false:=bne_eq_false_iff_eq.mpr c3
  have c3b2:(l0.length==l1.length)=true:=by first|simpa using c3|(simp at c3 ⊢;omega)
  clear c3
  have H':=Aside0.mk H
  clear H
  go_enter Try.func49,Try.ntmps49
  go_wp2
  repeat(go_quiet (fail);try go_wp2)
  go_loopg [13] k (fun kq κ w'=>∃ (B:Int),κ = .int .i64 B∧Aside0 (api_Inside.l0 kq l0 l1 (l0.length:Int) B=some r)∧Aside0 (kq≤k)∧Drawn0 w w')
  case atStart=>exact⟨(0),qR,H',⟨Nat.le_refl _⟩,by repeat(first|exact Drawn0.refl _|apply Drawn0.step)⟩
  case round=>
   clear H'
   try clear c1
   try clear p2
   try clear c3
   try clear c3b0
   try clear c3b1
   try clear c3b2
   obtain⟨B,rfl,HA,ξ,⟨m1,rfl⟩⟩:=hrel
   cases gk with
   |zero=>exact absurd HA.out (by simp[api_Inside.l0])
   |succ k1=>
    have H:=HA.out
    clear HA
    simp only[api_Inside.l0] at H
    by_cases c4:B<(l0.length:Int)
    ·rw[if_pos c4] at H
     have c4b0:decide (B<(l0.length:Int))=true:=decide_eq_true c4
     clear c4
     by_cases c5:0≤B
     ·rw[if_pos c5] at H
      have c5b0:decide (0≤B)=true:=decide_eq_true c5
      clear c5
      by_cases c6:B<(l0.length:Int)
      ·rw[if_pos c6] at H
       have c6b0:decide (B<(l0.length:Int))=true:=decide_eq_true c6
       clear c6
       by_cases c7:B<(l1.length:Int)
       ·rw[if_pos c7] at H
        have c7b0:decide (B<(l1.length:Int))=true:=decide_eq_true c7
        clear c7
        by_cases c8:(!(((Qk l0 B).f0)==((Qk l1 B).f0))||(!(((Qk l0 B).f1)==((Qk l1 B).f1))))=true
        ·rw[if_pos c8] at H
         have c8b0:(!(((Qk l0 B).f0)==((Qk l1 B).f0))||(!(((Qk l0 B).f1)==((Qk l1 B).f1))))=true:=c8
         (try(have c8s0:=c8b0;simp only[beq_self_eq_true,bne_self_eq_false,Bool.not_true,Bool.not_false,Bool.true_and,Bool.and_true,Bool.false_or,Bool.or_false] at c8s0))
         clear c8
         obtain rfl:=Option.some.inj H
         have D:0≤(B:Int):=of_decide_eq_true (by first|(with_reducible assumption)|assumption)
         have I:B<(l0.length:Int):=of_decide_eq_true (by first|(with_reducible assumption)|assumption)
         obtain⟨η,O,Y,Z⟩:=Zu ν.out B D I
         cases O
         replace D:=eq_true D
         replace I:=eq_true I
         have J:0≤(B:Int):=of_decide_eq_true (by first|(with_reducible assumption)|assumption)
         have L:B<(l1.length:Int):=of_decide_eq_true (by first|(with_reducible assumption)|assumption)
         obtain⟨θ,U,ε,ζ⟩:=Zu δ.out B J L
         cases U
         replace J:=eq_true J
         replace L:=eq_true L
         go_wp2
         repeat(go_quiet (fail);try go_wp2)
         go_ret
         exact⟨qR,by repeat(first|exact Drawn0.refl _|apply Drawn0.step)⟩
        ·rw[if_neg c8] at H
         have c8b0:(!(((Qk l0 B).f0)==((Qk l1 B).f0))||(!(((Qk l0 B).f1)==((Qk l1 B).f1))))=false:=by simpa using c8
         (try(have c8s0:=c8b0;simp only[beq_self_eq_true,bne_self_eq_false,Bool.not_true,Bool.not_false,Bool.true_and,Bool.and_true,Bool.false_or,Bool.or_false] at c8s0))
         clear c8
         have H':=Aside0.mk H
         clear H
         have D:0≤(B:Int):=of_decide_eq_true (by first|(with_reducible assumption)|assumption)
         have I:B<(l0.length:Int):=of_decide_eq_true (by first|(with_reducible assumption)|assumption)
         obtain⟨η,O,Y,Z⟩:=Zu ν.out B D I
         cases O
         replace D:=eq_true D
         replace I:=eq_true I
         have J:0≤(B:Int):=of_decide_eq_true (by first|(with_reducible assumption)|assumption)
         have L:B<(l1.length:Int):=of_decide_eq_true (by first|(with_reducible assumption)|assumption)
         obtain⟨θ,U,ε,ζ⟩:=Zu δ.out B J L
         cases U
         replace J:=eq_true J
         replace L:=eq_true L
         go_wp2
         repeat(go_quiet (fail);try go_wp2)
         go_roundg k1
         case measure=>have:= ξ.out;omega
         case rel=>exact⟨(wrap64 (B+1)),qR,H',⟨by have:= ξ.out;omega⟩,by repeat(first|exact Drawn0.refl _|apply Drawn0.step)⟩
       ·rw[if_neg c7] at H
        exact absurd H (by simp)
      ·rw[if_neg c6] at H
       exact absurd H (by simp)
     ·rw[if_neg c5] at H
      exact absurd H (by simp)
    ·rw[if_neg c4] at H
     have c4b0:decide (B<(l0.length:Int))=false:=decide_eq_false c4
     clear c4
     obtain rfl:=Option.some.inj H
     go_wp2
     repeat(go_quiet (fail);try go_wp2)
     go_ret
     exact⟨qR,by repeat(first|exact Drawn0.refl _|apply Drawn0.step)⟩
 ·rw[if_neg c3] at H
  have c3b0:((l0.length:Int)==(l1.length:Int))=false:=beq_eq_false_iff_ne.mpr c3
  have c3b1:((l0.length:Int) != (l1.length:Int))=true:=bne_iff_ne.mpr c3
  have c3b2:(l0.length==l1.length)=false:=by first|simpa using c3|(simp at c3 ⊢;omega)
  obtain rfl:=Option.some.inj H
  go_enter Try.func49,Try.ntmps49
  go_wp2
  repeat(go_quiet (fail);try go_wp2)
  go_ret
  exact⟨qR,by repeat(first|exact Drawn0.refl _|apply Drawn0.step)⟩
end Go.Proofs.Ytjehhhlhalkieaa.C
namespace Go.Proofs.Ytjehhhlhalkieaa.C
open Go.RowKit Go.Proofs.YtjehhhlhalkieaaW.PrintWords Go.Proofs.YtjehhhlhalkieaaW.PrintLast Go.Proofs.YtjehhhlhalkieaaW.PrintMore
attribute [local go_sem] Z4 Z2 Xe Xd Zx Zw Z3 Z1
set_option linter.unusedVariables false
set_option linter.unusedSimpArgs false
def call_Same.f (k:Nat) (J:List (S56)) (D:List (S62)) (B:List (S56)) (I:List (S62)):Option (Bool):=(api_Hall.f k J B).bind fun X=>(if X=true then ((api_Inside.f k D I).bind fun ak=>(some ak)) else (some false))
theorem call_Same.mono:∀ D L a2 X k,LeO (call_Same.f k D L a2 X) (call_Same.f (k+1) D L a2 X):=by
 intro D L a2 X k
 unfold call_Same.f
 repeat' first
   |(with_reducible exact api_Hall.mono _ _ _)
   |(with_reducible exact api_Inside.mono _ _ _)
   |(with_reducible exact LeO.refl _)
   |(with_reducible exact LeO.none _)
   |(with_reducible refine LeO.ite ?_ ?_)
   |(with_reducible refine LeO.bind ?_ (fun _=>?_))
   |exact api_Hall.mono _ _ _
   |exact api_Inside.mono _ _ _
   |exact LeO.none _
   |refine LeO.ite ?_ ?_
   |refine LeO.bind ?_ (fun _=>?_)
set_option maxHeartbeats 8000000 in
set_option maxRecDepth 100000 in
theorem call_Same.calls (k:Nat) (μ :Option Addr) (θ :Nat) (J:List (S56)) (ν :Option Addr) (τ :Nat) (D:List (S62)) (ζ :Option Addr) (γ:Nat) (B:List (S56)) (η :Option Addr) (ε :Nat) (I:List (S62)) (r:Bool) (w:World) (a2:Kd.C k56 w μ J.length J) (a6:J.length ≤ θ) (ρ:Kd.C k62 w ν D.length D) (a0:D.length ≤ τ) (b4:Kd.C k56 w ζ B.length B) (b5:B.length≤γ) (b6:Kd.C k62 w η I.length I) (b7:I.length ≤ ε) (h:call_Same.f k J D B I=some r):
  Calls Try.prog 27 #[.agg #[.slice μ J.length θ,.slice ν D.length τ],.agg #[.slice ζ B.length γ,.slice η I.length ε]] w fun e w'=>e = .returned (.bool r)∧Below w.heap.size w w':=by
 have d6:=Try.underlying27
 have ψ :=Aside0.mk a2
 have a8:=Aside0.mk a6
 clear a2 a6
 have bo:=Aside0.mk ρ
 have cp:=Aside0.mk a0
 clear ρ a0
 have ag:=Aside0.mk b4
 have ar:=Aside0.mk b5
 clear b4 b5
 have ai:=Aside0.mk b6
 have au:=Aside0.mk b7
 clear b6 b7
 have HB:=Aside0.mk (Below.refl w.heap.size w)
 have H:((api_Hall.f k J B).bind fun X=>(if X=true then ((api_Inside.f k D I).bind fun ak=>(some ak)) else (some false)))=some r:=h
 clear h
 replace H:=Option.bind_eq_some_iff.mp H
 obtain⟨X,ac,H⟩:=H
 replace H:(if X=true then ((api_Inside.f k D I).bind fun ak=>(some ak)) else (some false))=some r:=H
 have A3:=Aside0.mk ac
 clear ac
 by_cases c4:X=true
 ·subst c4
  have H1:((api_Inside.f k D I).bind fun ak=>(some ak))=some r:=by rw[if_pos rfl] at H;exact H
  clear H
  have H:=H1
  clear H1
  replace H:=Option.bind_eq_some_iff.mp H
  obtain⟨ak,bz,H⟩:=H
  replace H:(some ak)=some r:=H
  have A5:=Aside0.mk bz
  clear bz
  obtain rfl:=Option.some.inj H
  go_enter Try.func27,Try.ntmps27
  go_wp2_with (first|((with_reducible refine Qp (N:=2) rfl ?_);refine qE 2 #[.slice μ J.length θ,.slice ν D.length τ] 27 ?_;intro Z hg w6 hbox hb;have L:=Aside0.mk hbox;have δ :=sGe hg;have ι :=sGe hg;replace HB:=sHb hb;clear hb hbox hg)|((with_reducible refine Qp (N:=3) rfl ?_);refine qE 3 #[.slice ζ B.length γ,.slice η I.length ε] 27 ?_;intro κ hg w7 hbox hb;have Y:=Aside0.mk hbox;have ξ :=sGe hg;have σ:=sGe hg;have O:=sNl L hg;have U:=sNg L hg;replace L:=sBk L hb;replace HB:=sHb hb;clear hb hbox hg;have bc:=O.out;have cd:=U.out;obtain⟨ae,bh,bi,bj⟩:=qD2 L.out;obtain⟨al,ax,bk,bl⟩:=qD2 Y.out)|((with_reducible refine Q1 (f:=48) rfl ?_);refine Zp (some 9) rfl rfl Try.func48 kr rfl #[.slice μ J.length θ,.slice ζ B.length γ] rfl qM ?_;(with_reducible refine(api_Hall.calls k _ _ J _ _ B true _ ?side1 ?side2 ?side3 ?side4 A3.out).mono ?_);(case side1=>repeat(first|exact(Kd.Qz ψ.out HB.out)|(with_reducible refine Kd.Za ?_ _)|(with_reducible refine Kd.Q9 ?_ _)|(with_reducible refine Kd.Zm ?_)));(case side2=>exact a8.out);(case side3=>repeat(first|exact(Kd.Qz ag.out HB.out)|(with_reducible refine Kd.Za ?_ _)|(with_reducible refine Kd.Q9 ?_ _)|(with_reducible refine Kd.Zm ?_)));(case side4=>exact ar.out);rintro e w' ⟨rfl,⟨nd,rfl⟩⟩;refine⟨_,rfl, ?_⟩)|(go_at_call 49;(with_reducible refine(api_Inside.calls k _ _ D _ _ I ak _ ?side1 ?side2 ?side3 ?side4 A5.out).mono ?_);(case side1=>repeat(first|exact(Kd.Qz bo.out bel)|(with_reducible refine Kd.Za ?_ _)|(with_reducible refine Kd.Q9 ?_ _)|(with_reducible refine Kd.Zm ?_)));(case side2=>exact cp.out);(case side3=>repeat(first|exact(Kd.Qz ai.out bel)|(with_reducible refine Kd.Za ?_ _)|(with_reducible refine Kd.Q9 ?_ _)|(with_reducible refine Kd.Zm ?_)));(case side4=>exact au.out);rintro e w' ⟨rfl,⟨nd,rfl⟩⟩))
  go_ret
  exact⟨by first|rfl|(simp[Qy,Qx] <;> rfl)|(simp[*,Qy,Qx] <;> rfl),bel⟩
 ·replace c4:=Bool.eq_false_iff.mpr c4
  subst c4
  have H1:(some false)=some r:=by rw[if_neg (show ¬ (false=true) by decide)] at H;exact H
  clear H
  have H:=H1
  clear H1
  obtain rfl:=Option.some.inj H
  go_enter Try.func27,Try.ntmps27
  go_wp2_with (first|((with_reducible refine Qp (N:=2) rfl ?_);refine qE 2 #[.slice μ J.length θ,.slice ν D.length τ] 27 ?_;intro Z hg dm hbox hb;have L:=Aside0.mk hbox;have δ :=sGe hg;have ι :=sGe hg;replace HB:=sHb hb;clear hb hbox hg)|((with_reducible refine Qp (N:=3) rfl ?_);refine qE 3 #[.slice ζ B.length γ,.slice η I.length ε] 27 ?_;intro κ hg d2 hbox hb;have Y:=Aside0.mk hbox;have ξ :=sGe hg;have σ:=sGe hg;have O:=sNl L hg;have U:=sNg L hg;replace L:=sBk L hb;replace HB:=sHb hb;clear hb hbox hg;have bw:=O.out;have ce:=U.out;obtain⟨az,b0,b1,b2⟩:=qD2 L.out;obtain⟨cj,ck,cm,cn⟩:=qD2 Y.out)|((with_reducible refine Q1 (f:=48) rfl ?_);refine Zp (some 9) rfl rfl Try.func48 kr rfl #[.slice μ J.length θ,.slice ζ B.length γ] rfl qM ?_;(with_reducible refine(api_Hall.calls k _ _ J _ _ B false _ ?side1 ?side2 ?side3 ?side4 A3.out).mono ?_);(case side1=>exact(Kd.Qz ψ.out HB.out));(case side2=>exact a8.out);(case side3=>exact(Kd.Qz ag.out HB.out));(case side4=>exact ar.out);rintro e w' ⟨rfl,⟨nd,rfl⟩⟩;refine⟨_,rfl, ?_⟩))
  go_ret
  exact⟨by first|rfl|(simp[Qy,Qx] <;> rfl)|(simp[*,Qy,Qx] <;> rfl),bel⟩
def newelref19_Hall.j0:Nat→Bool→Int→Int→Int→Int→Int→Option (Bool)
 |0,_,_,_,_,_,_=>none
 |k+1,O,D,J,B,I,L=>if O=true then (some false) else (if I=1 then (if B≥0 then (some (decide (B≤(wrap64 (D-2))))) else (some false)) else (if I=(-1) then (if B≥1 then (some (decide (B≤(wrap64 (D-1))))) else (some false)) else (some false)))
def newelref19_Hall.f (k:Nat) (J:Int) (D:Int) (I:Int) (L:Int) (X:Int):Option (Bool):=if X<(-1) then (newelref19_Hall.j0 k true J D I L X) else (newelref19_Hall.j0 k (decide (X≥D)) J D I L X)
theorem newelref19_Hall.Zn:∀ k,(∀ I L U D J X,LeO (newelref19_Hall.j0 k I L U D J X) (newelref19_Hall.j0 (k+1) I L U D J X))
 |0=>fun _ _ _ _ _ _ r h=>by simp[newelref19_Hall.j0] at h
 |k+1=>by
  have B:=newelref19_Hall.Zn k
  ·intro I L U D J X
   unfold newelref19_Hall.j0
   repeat' first
   |(with_reducible exact B _ _ _ _ _ _)
   |(with_reducible exact LeO.refl _)
   |(with_reducible exact LeO.none _)
   |(with_reducible refine LeO.ite ?_ ?_)
   |(with_reducible refine LeO.bind ?_ (fun _=>?_))
   |exact B _ _ _ _ _ _
   |exact LeO.none _
   |refine LeO.ite ?_ ?_
   |refine LeO.bind ?_ (fun _=>?_)
theorem newelref19_Hall.mono:∀ D L a2 X I k,LeO (newelref19_Hall.f k D L a2 X I) (newelref19_Hall.f (k+1) D L a2 X I):=by
 intro D L a2 X I k
 have B:=newelref19_Hall.Zn k
 unfold newelref19_Hall.f
 repeat' first
   |(with_reducible exact B _ _ _ _ _ _)
   |(with_reducible exact LeO.refl _)
   |(with_reducible exact LeO.none _)
   |(with_reducible refine LeO.ite ?_ ?_)
   |(with_reducible refine LeO.bind ?_ (fun _=>?_))
   |exact B _ _ _ _ _ _
   |exact LeO.none _
   |refine LeO.ite ?_ ?_
   |refine LeO.bind ?_ (fun _=>?_)
set_option maxHeartbeats 8000000 in
set_option maxRecDepth 100000 in
theorem newelref19_Hall.calls (k:Nat) (J:Int) (D:Int) (I:Int) (L:Int) (X:Int) (r:Bool) (w:World) (h:newelref19_Hall.f k J D I L X=some r):
  Calls Try.prog 25 #[.agg #[.int .i64 J,.int .i64 D],.agg #[.int .i64 I,.int .i64 L,.int .i64 X]] w fun e w'=>e = .returned (.bool r)∧Below w.heap.size w w':=by
 have dk:=Try.underlying23
 have ay:=Try.underlying56
 have HB:=Aside0.mk (Below.refl w.heap.size w)
 have H:(if X<(-1) then (newelref19_Hall.j0 k true J D I L X) else (newelref19_Hall.j0 k (decide (X≥D)) J D I L X))=some r:=h
 clear h
 have ac:=Aside0.mk H
 clear H
 go_enter Try.func25,Try.ntmps25
 go_upto_region 1 with(first|((with_reducible refine Qp (N:=2) rfl ?_);refine qE 2 #[.int .i64 J,.int .i64 D] 23 ?_;intro γ hg w4 hbox hb;have U:=Aside0.mk hbox;have κ :=sGe hg;have μ :=sGe hg;replace HB:=sHb hb;clear hb hbox hg)|((with_reducible refine Qp (N:=3) rfl ?_);refine qE 3 #[.int .i64 I,.int .i64 L,.int .i64 X] 56 ?_;intro δ hg w5 hbox hb;have Y:=Aside0.mk hbox;have ξ :=sGe hg;have σ:=sGe hg;have B:=sNl U hg;have O:=sNg U hg;replace U:=sBk U hb;replace HB:=sHb hb;clear hb hbox hg))
 (try simp only[Act.put,qS])
 go_cut [14] (fun ι wc=>∃ (kq:Nat) (Z:Bool),ι = .bool Z∧Aside0 (newelref19_Hall.j0 kq Z J D I L X=some r)∧Aside0 (kq≤k)∧Aside0 (wc.heap[γ]?=some (.cells #[.int .i64 J,.int .i64 D] 23 (0,0)))∧Aside0 (wc.heap[δ]?=some (.cells #[.int .i64 I,.int .i64 L,.int .i64 X] 56 (0,0)))∧Aside0 (Below w.heap.size w wc))
 case first=>
  have H:=ac.out
  clear ac
  by_cases c6:X<(-1)
  ·rw[if_pos c6] at H
   have c6b0:decide (X<(-1))=true:=decide_eq_true c6
   clear c6
   (first|rw[c6b0]|(simp only[Zg,Zj];rw[c6b0])|skip)
   have H':=Aside0.mk H
   clear H
   have dh:=O.out
   have di:=B.out
   obtain⟨aw,b9,ν,bb,bc,ρ⟩:=qD3 Y.out
   go_wp2
   go_meet
   case rel=>exact⟨_,(true),rfl,H',⟨by first|omega|exact Nat.le_refl _⟩,U,Y,HB⟩
  ·rw[if_neg c6] at H
   have c6b0:decide (X<(-1))=false:=decide_eq_false c6
   clear c6
   (first|rw[c6b0]|(simp only[Zg,Zj];rw[c6b0])|skip)
   have H':=Aside0.mk H
   clear H
   have g5:=O.out
   have g6:=B.out
   obtain⟨al,ax,b4,bk,bl,b5⟩:=qD3 Y.out
   obtain⟨af,aj,bf,bg⟩:=qD2 U.out
   go_wp2
   go_meet
   case rel=>exact⟨_,(decide (X≥D)),rfl,H',⟨by first|omega|exact Nat.le_refl _⟩,U,Y,HB⟩
 case rest=>
  clear ac
  try clear c2
  try clear p2
  try clear c6
  try clear c6b0
  try clear c7
  try clear c9
  try clear al
  try clear ax
  try clear b4
  try clear af
  try clear aj
  try clear aw
  try clear b9
  try clear ν
  try clear bk
  try clear bl
  try clear b5
  try clear bf
  try clear bg
  try clear bb
  try clear bc
  try clear ρ
  obtain⟨kq,Z,rfl,HA,cr,U,Y,HB⟩:=hcut
  cases kq with
  |zero=>exact absurd HA.out (by simp[newelref19_Hall.j0])
  |succ cu=>
   have H:=HA.out
   clear HA
   simp only[newelref19_Hall.j0] at H
   by_cases ci:Z=true
   ·subst ci
    have H1:(some false)=some r:=by rw[if_pos rfl] at H;exact H
    clear H
    have H:=H1
    clear H1
    obtain rfl:=Option.some.inj H
    go_wp2
    go_ret
    exact⟨rfl,HB.out⟩
   ·replace ci:=Bool.eq_false_iff.mpr ci
    subst ci
    have H1:(if L=1 then (if I≥0 then (some (decide (I≤(wrap64 (J-2))))) else (some false)) else (if L=(-1) then (if I≥1 then (some (decide (I≤(wrap64 (J-1))))) else (some false)) else (some false)))=some r:=by rw[if_neg (show ¬ (false=true) by decide)] at H;exact H
    clear H
    have H:=H1
    clear H1
    by_cases ba:L=1
    ·rw[if_pos ba] at H
     have c13b0:(L==1)=true:=beq_iff_eq.mpr ba
     have c13b1:(L != 1)=false:=bne_eq_false_iff_eq.mpr ba
     clear ba
     by_cases az:I≥0
     ·rw[if_pos az] at H
      have c14b0:decide (0≤I)=true:=decide_eq_true az
      clear az
      obtain rfl:=Option.some.inj H
      have io:=O.out
      have ip:=B.out
      obtain⟨je,jf,ε,jg,jh,ζ⟩:=qD3 Y.out
      obtain⟨dl,dr,dv,dz⟩:=qD2 U.out
      go_wp2
      go_ret
      exact⟨rfl,HB.out⟩
     ·rw[if_neg az] at H
      have c14b0:decide (0≤I)=false:=decide_eq_false az
      clear az
      obtain rfl:=Option.some.inj H
      have ca:=O.out
      have cb:=B.out
      obtain⟨am,ao,ct,ap,av,cw⟩:=qD3 Y.out
      go_wp2
      go_ret
      exact⟨rfl,HB.out⟩
    ·rw[if_neg ba] at H
     have c13b0:(L==1)=false:=beq_eq_false_iff_ne.mpr ba
     have c13b1:(L != 1)=true:=bne_iff_ne.mpr ba
     by_cases cf:L=(-1)
     ·rw[if_pos cf] at H
      have c20b0:(L==(-1))=true:=beq_iff_eq.mpr cf
      have c20b1:(L != (-1))=false:=bne_eq_false_iff_eq.mpr cf
      clear cf
      by_cases cv:I≥1
      ·rw[if_pos cv] at H
       have c21b0:decide (1≤I)=true:=decide_eq_true cv
       clear cv
       obtain rfl:=Option.some.inj H
       have fa:=O.out
       have fb:=B.out
       obtain⟨bp,bq,dc,br,bs,dd⟩:=qD3 Y.out
       obtain⟨d5,d7,d8,d9⟩:=qD2 U.out
       go_wp2
       go_ret
       exact⟨rfl,HB.out⟩
      ·rw[if_neg cv] at H
       have c21b0:decide (1≤I)=false:=decide_eq_false cv
       clear cv
       obtain rfl:=Option.some.inj H
       have de:=O.out
       have df:=B.out
       obtain⟨bn,bo,η,cg,cj,θ⟩:=qD3 Y.out
       go_wp2
       go_ret
       exact⟨rfl,HB.out⟩
     ·rw[if_neg cf] at H
      have c20b0:(L==(-1))=false:=beq_eq_false_iff_ne.mpr cf
      have c20b1:(L != (-1))=true:=bne_iff_ne.mpr cf
      obtain rfl:=Option.some.inj H
      have τ :=O.out
      have φ :=B.out
      obtain⟨cx,cy,e4,cz,d1,e5⟩:=qD3 Y.out
      go_wp2
      go_ret
      exact⟨rfl,HB.out⟩
def newelref19_House.f (J:Int) (D:Int):Option (Bool):=if J≥2 then (if J≤64 then (if D≥1 then (some (decide (D≤8))) else (some false)) else (some false)) else (some false)
set_option maxHeartbeats 8000000 in
set_option maxRecDepth 100000 in
theorem newelref19_House.calls (J:Int) (D:Int) (r:Bool) (w:World) (h:newelref19_House.f J D=some r):
  Calls Try.prog 37 #[.agg #[.int .i64 J,.int .i64 D]] w fun e w'=>e = .returned (.bool r)∧Below w.heap.size w w':=by
 have dk:=Try.underlying23
 have HB:=Aside0.mk (Below.refl w.heap.size w)
 have H:(if J≥2 then (if J≤64 then (if D≥1 then (some (decide (D≤8))) else (some false)) else (some false)) else (some false))=some r:=h
 clear h
 by_cases c2:J≥2
 ·rw[if_pos c2] at H
  have c2b0:decide (2≤J)=true:=decide_eq_true c2
  clear c2
  by_cases c3:J≤64
  ·rw[if_pos c3] at H
   have c3b0:decide (J≤64)=true:=decide_eq_true c3
   clear c3
   by_cases c4:D≥1
   ·rw[if_pos c4] at H
    have c4b0:decide (1≤D)=true:=decide_eq_true c4
    clear c4
    obtain rfl:=Option.some.inj H
    go_enter Try.func37,Try.ntmps37
    go_wp2_with (first|((with_reducible refine Qp (N:=1) rfl ?_);refine Q7 ?hg (N:=1) ?hd (cs:=#[.int .i64 J,.int .i64 D]) (t:=23) ?hr ?_;(case hd=>rfl);(case hg=>rfl);(case hr=>first|(go_simp;done)|(go_simp;rfl));intro B hg w5 hbox hb;have O:=Aside0.mk (Qt (by repeat(first|(with_reducible first|exact HB.out|apply Qh|apply Qc|apply Qe)|exact HB.out)) hb);have Z:=Aside0.mk (hbox);have ι :=Aside0.mk ((by rw[hg];exact(Qj (by repeat(first|(with_reducible first|exact HB.out|apply Qh|apply Qc|apply Qe)|exact HB.out))):w.heap.size≤B));have κ :=Aside0.mk ((by rw[hg];exact(Qj (by repeat(first|(with_reducible first|exact HB.out|apply Qh|apply Qc|apply Qe)|exact HB.out))):w.heap.size≤B));clear HB;have HB:=O;have I:=Z;have U:= ι;have L:= κ;clear O Z ι κ;clear hb hbox hg;obtain⟨X,Y,γ,δ⟩:=qD2 I.out))
    go_ret
    exact⟨by first|rfl|(simp[Qy,Qx] <;> rfl)|(simp[*,Qy,Qx] <;> rfl),by repeat(first|(with_reducible first|exact HB.out|apply Qh|apply Qc|apply Qe|refine Qd ?_ L.out)|exact HB.out)⟩
   ·rw[if_neg c4] at H
    have c4b0:decide (1≤D)=false:=decide_eq_false c4
    clear c4
    obtain rfl:=Option.some.inj H
    go_enter Try.func37,Try.ntmps37
    go_wp2_with (first|((with_reducible refine Qp (N:=1) rfl ?_);refine Q7 ?hg (N:=1) ?hd (cs:=#[.int .i64 J,.int .i64 D]) (t:=23) ?hr ?_;(case hd=>rfl);(case hg=>rfl);(case hr=>first|(go_simp;done)|(go_simp;rfl));intro B hg w7 hbox hb;have O:=Aside0.mk (Qt (by repeat(first|(with_reducible first|exact HB.out|apply Qh|apply Qc|apply Qe)|exact HB.out)) hb);have Z:=Aside0.mk (hbox);have ι :=Aside0.mk ((by rw[hg];exact(Qj (by repeat(first|(with_reducible first|exact HB.out|apply Qh|apply Qc|apply Qe)|exact HB.out))):w.heap.size≤B));have κ :=Aside0.mk ((by rw[hg];exact(Qj (by repeat(first|(with_reducible first|exact HB.out|apply Qh|apply Qc|apply Qe)|exact HB.out))):w.heap.size≤B));clear HB;have HB:=O;have I:=Z;have U:= ι;have L:= κ;clear O Z ι κ;clear hb hbox hg;obtain⟨aw,b9,bb,bc⟩:=qD2 I.out))
    go_ret
    exact⟨by first|rfl|(simp[Qy,Qx] <;> rfl)|(simp[*,Qy,Qx] <;> rfl),by repeat(first|(with_reducible first|exact HB.out|apply Qh|apply Qc|apply Qe|refine Qd ?_ L.out)|exact HB.out)⟩
  ·rw[if_neg c3] at H
   have c3b0:decide (J≤64)=false:=decide_eq_false c3
   clear c3
   obtain rfl:=Option.some.inj H
   go_enter Try.func37,Try.ntmps37
   go_wp2_with (first|((with_reducible refine Qp (N:=1) rfl ?_);refine Q7 ?hg (N:=1) ?hd (cs:=#[.int .i64 J,.int .i64 D]) (t:=23) ?hr ?_;(case hd=>rfl);(case hg=>rfl);(case hr=>first|(go_simp;done)|(go_simp;rfl));intro B hg w9 hbox hb;have O:=Aside0.mk (Qt (by repeat(first|(with_reducible first|exact HB.out|apply Qh|apply Qc|apply Qe)|exact HB.out)) hb);have Z:=Aside0.mk (hbox);have ι :=Aside0.mk ((by rw[hg];exact(Qj (by repeat(first|(with_reducible first|exact HB.out|apply Qh|apply Qc|apply Qe)|exact HB.out))):w.heap.size≤B));have κ :=Aside0.mk ((by rw[hg];exact(Qj (by repeat(first|(with_reducible first|exact HB.out|apply Qh|apply Qc|apply Qe)|exact HB.out))):w.heap.size≤B));clear HB;have HB:=O;have I:=Z;have U:= ι;have L:= κ;clear O Z ι κ;clear hb hbox hg;obtain⟨al,ax,bk,bl⟩:=qD2 I.out))
   go_ret
   exact⟨by first|rfl|(simp[Qy,Qx] <;> rfl)|(simp[*,Qy,Qx] <;> rfl),by repeat(first|(with_reducible first|exact HB.out|apply Qh|apply Qc|apply Qe|refine Qd ?_ L.out)|exact HB.out)⟩
 ·rw[if_neg c2] at H
  have c2b0:decide (2≤J)=false:=decide_eq_false c2
  clear c2
  obtain rfl:=Option.some.inj H
  go_enter Try.func37,Try.ntmps37
  go_wp2_with (first|((with_reducible refine Qp (N:=1) rfl ?_);refine Q7 ?hg (N:=1) ?hd (cs:=#[.int .i64 J,.int .i64 D]) (t:=23) ?hr ?_;(case hd=>rfl);(case hg=>rfl);(case hr=>first|(go_simp;done)|(go_simp;rfl));intro B hg dm hbox hb;have O:=Aside0.mk (Qt (by repeat(first|(with_reducible first|exact HB.out|apply Qh|apply Qc|apply Qe)|exact HB.out)) hb);have Z:=Aside0.mk (hbox);have ι :=Aside0.mk ((by rw[hg];exact(Qj (by repeat(first|(with_reducible first|exact HB.out|apply Qh|apply Qc|apply Qe)|exact HB.out))):w.heap.size≤B));have κ :=Aside0.mk ((by rw[hg];exact(Qj (by repeat(first|(with_reducible first|exact HB.out|apply Qh|apply Qc|apply Qe)|exact HB.out))):w.heap.size≤B));clear HB;have HB:=O;have I:=Z;have U:= ι;have L:= κ;clear O Z ι κ;clear hb hbox hg;obtain⟨b0,b1,b2,b3⟩:=qD2 I.out))
  go_ret
  exact⟨by first|rfl|(simp[Qy,Qx] <;> rfl)|(simp[*,Qy,Qx] <;> rfl),by repeat(first|(with_reducible first|exact HB.out|apply Qh|apply Qc|apply Qe|refine Qd ?_ L.out)|exact HB.out)⟩
def newelref19_ahead.f (J:Int) (D:Int) (B:Int) (I:Int) (L:Int) (X:Int):Option (Bool):=if J<I then (some true) else (if J=I then (some (decide (D<L))) else (some false))
set_option maxHeartbeats 8000000 in
set_option maxRecDepth 100000 in
theorem newelref19_ahead.calls (J:Int) (D:Int) (B:Int) (I:Int) (L:Int) (X:Int) (r:Bool) (w:World) (h:newelref19_ahead.f J D B I L X=some r):
  Calls Try.prog 38 #[.agg #[.int .i64 J,.int .i64 D,.int .i64 B],.agg #[.int .i64 I,.int .i64 L,.int .i64 X]] w fun e w'=>e = .returned (.bool r)∧Below w.heap.size w w':=by
 have ay:=Try.underlying56
 have HB:=Aside0.mk (Below.refl w.heap.size w)
 have H:(if J<I then (some true) else (if J=I then (some (decide (D<L))) else (some false)))=some r:=h
 clear h
 by_cases c3:J<I
 ·rw[if_pos c3] at H
  have c3b0:decide (J<I)=true:=decide_eq_true c3
  clear c3
  obtain rfl:=Option.some.inj H
  go_enter Try.func38,Try.ntmps38
  go_wp2_with (first|((with_reducible refine Qp (N:=2) rfl ?_);refine Q7 ?hg (N:=2) ?hd (cs:=#[.int .i64 J,.int .i64 D,.int .i64 B]) (t:=56) ?hr ?_;(case hd=>rfl);(case hg=>rfl);(case hr=>first|(go_simp;done)|(go_simp;rfl));intro U hg w4 hbox hb;have O:=Aside0.mk (Qt (by repeat(first|(with_reducible first|exact HB.out|apply Qh|apply Qc|apply Qe)|exact HB.out)) hb);have Z:=Aside0.mk (hbox);have ι :=Aside0.mk ((by rw[hg];exact(Qj (by repeat(first|(with_reducible first|exact HB.out|apply Qh|apply Qc|apply Qe)|exact HB.out))):w.heap.size≤U));have κ :=Aside0.mk ((by rw[hg];exact(Qj (by repeat(first|(with_reducible first|exact HB.out|apply Qh|apply Qc|apply Qe)|exact HB.out))):w.heap.size≤U));clear HB;have HB:=O;have Y:=Z;have μ := ι;have γ:= κ;clear O Z ι κ;clear hb hbox hg)|((with_reducible refine Qp (N:=3) rfl ?_);refine Q7 ?hg (N:=3) ?hd (cs:=#[.int .i64 I,.int .i64 L,.int .i64 X]) (t:=56) ?hr ?_;(case hd=>rfl);(case hg=>rfl);(case hr=>first|(go_simp;done)|(go_simp;rfl));intro δ hg w5 hbox hb;have O:=Aside0.mk (Qo (g:=U) (o:=.cells #[.int .i64 J,.int .i64 D,.int .i64 B] 56 (0,0)) (by(with_reducible repeat first|apply Qf|apply Qb|apply Qg);exact Y.out) hb);have Z:=Aside0.mk (Qt (by repeat(first|(with_reducible first|exact HB.out|apply Qh|apply Qc|apply Qe|refine Qd ?_ γ.out)|exact HB.out)) hb);have ι :=Aside0.mk (hbox);have κ :=Aside0.mk ((by rw[hg];exact(Qj (by repeat(first|(with_reducible first|exact HB.out|apply Qh|apply Qc|apply Qe|refine Qd ?_ γ.out)|exact HB.out))):w.heap.size ≤ δ));have ξ :=Aside0.mk ((by rw[hg];exact(Qj (by repeat(first|(with_reducible first|exact HB.out|apply Qh|apply Qc|apply Qe|refine Qd ?_ γ.out)|exact HB.out))):w.heap.size ≤ δ));have ψ :=Aside0.mk ((by rw[hg];exact Nat.ne_of_lt (Q3 (g:=U) (o:=.cells #[.int .i64 J,.int .i64 D,.int .i64 B] 56 (0,0)) (by(with_reducible repeat first|apply Qf|apply Qb|apply Qg);exact Y.out)):U ≠ δ));have a1:=Aside0.mk ((by rw[hg];exact Nat.ne_of_gt (Q3 (g:=U) (o:=.cells #[.int .i64 J,.int .i64 D,.int .i64 B] 56 (0,0)) (by(with_reducible repeat first|apply Qf|apply Qb|apply Qg);exact Y.out)): δ ≠ U));clear Y;clear HB;have Y:=O;have HB:=Z;have η := ι;have σ:= κ;have θ := ξ;have ε := ψ;have ζ :=a1;clear O Z ι κ ξ ψ a1;clear hb hbox hg;have a3:= ε.out;have a4:= ζ.out;obtain⟨χ,ω,a5,a0,a2,a6⟩:=qD3 Y.out;obtain⟨aw,b9,ν,bb,bc,ρ⟩:=qD3 η.out))
  go_ret
  exact⟨by first|rfl|(simp[Qy,Qx] <;> rfl)|(simp[*,Qy,Qx] <;> rfl),by repeat(first|(with_reducible first|exact HB.out|apply Qh|apply Qc|apply Qe|refine Qd ?_ γ.out|refine Qd ?_ θ.out)|exact HB.out)⟩
 ·rw[if_neg c3] at H
  have c3b0:decide (J<I)=false:=decide_eq_false c3
  clear c3
  by_cases c9:J=I
  ·rw[if_pos c9] at H
   have c9b0:(J==I)=true:=beq_iff_eq.mpr c9
   have c9b1:(J != I)=false:=bne_eq_false_iff_eq.mpr c9
   clear c9
   obtain rfl:=Option.some.inj H
   go_enter Try.func38,Try.ntmps38
   go_wp2_with (first|((with_reducible refine Qp (N:=2) rfl ?_);refine Q7 ?hg (N:=2) ?hd (cs:=#[.int .i64 J,.int .i64 D,.int .i64 B]) (t:=56) ?hr ?_;(case hd=>rfl);(case hg=>rfl);(case hr=>first|(go_simp;done)|(go_simp;rfl));intro U hg cu hbox hb;have O:=Aside0.mk (Qt (by repeat(first|(with_reducible first|exact HB.out|apply Qh|apply Qc|apply Qe)|exact HB.out)) hb);have Z:=Aside0.mk (hbox);have ι :=Aside0.mk ((by rw[hg];exact(Qj (by repeat(first|(with_reducible first|exact HB.out|apply Qh|apply Qc|apply Qe)|exact HB.out))):w.heap.size≤U));have κ :=Aside0.mk ((by rw[hg];exact(Qj (by repeat(first|(with_reducible first|exact HB.out|apply Qh|apply Qc|apply Qe)|exact HB.out))):w.heap.size≤U));clear HB;have HB:=O;have Y:=Z;have μ := ι;have γ:= κ;clear O Z ι κ;clear hb hbox hg)|((with_reducible refine Qp (N:=3) rfl ?_);refine Q7 ?hg (N:=3) ?hd (cs:=#[.int .i64 I,.int .i64 L,.int .i64 X]) (t:=56) ?hr ?_;(case hd=>rfl);(case hg=>rfl);(case hr=>first|(go_simp;done)|(go_simp;rfl));intro δ hg dm hbox hb;have O:=Aside0.mk (Qo (g:=U) (o:=.cells #[.int .i64 J,.int .i64 D,.int .i64 B] 56 (0,0)) (by(with_reducible repeat first|apply Qf|apply Qb|apply Qg);exact Y.out) hb);have Z:=Aside0.mk (Qt (by repeat(first|(with_reducible first|exact HB.out|apply Qh|apply Qc|apply Qe|refine Qd ?_ γ.out)|exact HB.out)) hb);have ι :=Aside0.mk (hbox);have κ :=Aside0.mk ((by rw[hg];exact(Qj (by repeat(first|(with_reducible first|exact HB.out|apply Qh|apply Qc|apply Qe|refine Qd ?_ γ.out)|exact HB.out))):w.heap.size ≤ δ));have ξ :=Aside0.mk ((by rw[hg];exact(Qj (by repeat(first|(with_reducible first|exact HB.out|apply Qh|apply Qc|apply Qe|refine Qd ?_ γ.out)|exact HB.out))):w.heap.size ≤ δ));have ψ :=Aside0.mk ((by rw[hg];exact Nat.ne_of_lt (Q3 (g:=U) (o:=.cells #[.int .i64 J,.int .i64 D,.int .i64 B] 56 (0,0)) (by(with_reducible repeat first|apply Qf|apply Qb|apply Qg);exact Y.out)):U ≠ δ));have a1:=Aside0.mk ((by rw[hg];exact Nat.ne_of_gt (Q3 (g:=U) (o:=.cells #[.int .i64 J,.int .i64 D,.int .i64 B] 56 (0,0)) (by(with_reducible repeat first|apply Qf|apply Qb|apply Qg);exact Y.out)): δ ≠ U));clear Y;clear HB;have Y:=O;have HB:=Z;have η := ι;have σ:= κ;have θ := ξ;have ε := ψ;have ζ :=a1;clear O Z ι κ ξ ψ a1;clear hb hbox hg;have eb:= ε.out;have ec:= ζ.out;obtain⟨co,cp,τ,cq,cr,φ⟩:=qD3 Y.out;obtain⟨az,b0,d5,b1,b2,d6⟩:=qD3 η.out))
   go_ret
   exact⟨by first|rfl|(simp[Qy,Qx] <;> rfl)|(simp[*,Qy,Qx] <;> rfl),by repeat(first|(with_reducible first|exact HB.out|apply Qh|apply Qc|apply Qe|refine Qd ?_ γ.out|refine Qd ?_ θ.out)|exact HB.out)⟩
  ·rw[if_neg c9] at H
   have c9b0:(J==I)=false:=beq_eq_false_iff_ne.mpr c9
   have c9b1:(J != I)=true:=bne_iff_ne.mpr c9
   obtain rfl:=Option.some.inj H
   go_enter Try.func38,Try.ntmps38
   go_wp2_with (first|((with_reducible refine Qp (N:=2) rfl ?_);refine Q7 ?hg (N:=2) ?hd (cs:=#[.int .i64 J,.int .i64 D,.int .i64 B]) (t:=56) ?hr ?_;(case hd=>rfl);(case hg=>rfl);(case hr=>first|(go_simp;done)|(go_simp;rfl));intro U hg cv hbox hb;have O:=Aside0.mk (Qt (by repeat(first|(with_reducible first|exact HB.out|apply Qh|apply Qc|apply Qe)|exact HB.out)) hb);have Z:=Aside0.mk (hbox);have ι :=Aside0.mk ((by rw[hg];exact(Qj (by repeat(first|(with_reducible first|exact HB.out|apply Qh|apply Qc|apply Qe)|exact HB.out))):w.heap.size≤U));have κ :=Aside0.mk ((by rw[hg];exact(Qj (by repeat(first|(with_reducible first|exact HB.out|apply Qh|apply Qc|apply Qe)|exact HB.out))):w.heap.size≤U));clear HB;have HB:=O;have Y:=Z;have μ := ι;have γ:= κ;clear O Z ι κ;clear hb hbox hg)|((with_reducible refine Qp (N:=3) rfl ?_);refine Q7 ?hg (N:=3) ?hd (cs:=#[.int .i64 I,.int .i64 L,.int .i64 X]) (t:=56) ?hr ?_;(case hd=>rfl);(case hg=>rfl);(case hr=>first|(go_simp;done)|(go_simp;rfl));intro δ hg af hbox hb;have O:=Aside0.mk (Qo (g:=U) (o:=.cells #[.int .i64 J,.int .i64 D,.int .i64 B] 56 (0,0)) (by(with_reducible repeat first|apply Qf|apply Qb|apply Qg);exact Y.out) hb);have Z:=Aside0.mk (Qt (by repeat(first|(with_reducible first|exact HB.out|apply Qh|apply Qc|apply Qe|refine Qd ?_ γ.out)|exact HB.out)) hb);have ι :=Aside0.mk (hbox);have κ :=Aside0.mk ((by rw[hg];exact(Qj (by repeat(first|(with_reducible first|exact HB.out|apply Qh|apply Qc|apply Qe|refine Qd ?_ γ.out)|exact HB.out))):w.heap.size ≤ δ));have ξ :=Aside0.mk ((by rw[hg];exact(Qj (by repeat(first|(with_reducible first|exact HB.out|apply Qh|apply Qc|apply Qe|refine Qd ?_ γ.out)|exact HB.out))):w.heap.size ≤ δ));have ψ :=Aside0.mk ((by rw[hg];exact Nat.ne_of_lt (Q3 (g:=U) (o:=.cells #[.int .i64 J,.int .i64 D,.int .i64 B] 56 (0,0)) (by(with_reducible repeat first|apply Qf|apply Qb|apply Qg);exact Y.out)):U ≠ δ));have a1:=Aside0.mk ((by rw[hg];exact Nat.ne_of_gt (Q3 (g:=U) (o:=.cells #[.int .i64 J,.int .i64 D,.int .i64 B] 56 (0,0)) (by(with_reducible repeat first|apply Qf|apply Qb|apply Qg);exact Y.out)): δ ≠ U));clear Y;clear HB;have Y:=O;have HB:=Z;have η := ι;have σ:= κ;have θ := ξ;have ε := ψ;have ζ :=a1;clear O Z ι κ ξ ψ a1;clear hb hbox hg;have dd:= ε.out;have dh:= ζ.out;obtain⟨bu,bw,d9,bz,ca,da⟩:=qD3 Y.out;obtain⟨am,ao,ct,ap,av,cw⟩:=qD3 η.out))
   go_ret
   exact⟨by first|rfl|(simp[Qy,Qx] <;> rfl)|(simp[*,Qy,Qx] <;> rfl),by repeat(first|(with_reducible first|exact HB.out|apply Qh|apply Qc|apply Qe|refine Qd ?_ γ.out|refine Qd ?_ θ.out)|exact HB.out)⟩
end Go.Proofs.Ytjehhhlhalkieaa.C
