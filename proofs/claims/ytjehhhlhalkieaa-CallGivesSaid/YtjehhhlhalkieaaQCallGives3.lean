/- Texts of this claim, one behind the other: what the law's functions come to, walked (printed by a program, with the words that the print uses), and what that is, in plain Lean. No conditions of their own. -/
import Derived.Test.YtjehhhlhalkieaaQCallGives2
namespace Go.Proofs.Ytjehhhlhalkieaa.C
open Go.RowKit Go.Proofs.YtjehhhlhalkieaaW.PrintWords Go.Proofs.YtjehhhlhalkieaaW.PrintLast Go.Proofs.YtjehhhlhalkieaaW.PrintMore
attribute [local go_sem] Z2 Z0 Xb Xa Zq Zp Z1 Zz
set_option linter.unusedVariables false
set_option linter.unusedSimpArgs false
mutual
def api_Hall_right.l0:Nat→Int→List (S56)→Int→Int→List (S56)→Int→Option (Bool)
 |0,_,_,_,_,_,_=>none
 |k+1,L,D,I,B,J,O=>if B<I then (if 0≤B then (if B<(D.length:Int) then ((call_hall_1.f ((Qg D B).f0) ((Qg D B).f1) ((Qg D B).f2) L).bind fun σ=>(if σ=true then (if B>0 then (if 0≤(wrap64 (B-1)) then (if (wrap64 (B-1))<(J.length:Int) then ((call_halls_1.f ((Qg J (wrap64 (B-1))).f0) ((Qg J (wrap64 (B-1))).f1) ((Qg J (wrap64 (B-1))).f2) ((Qg D B).f0) ((Qg D B).f1) ((Qg D B).f2)).bind fun ρ=>(api_Hall_right.j1 k L D I B (decide (ρ≥0)) J O)) else (none)) else (none)) else (api_Hall_right.j1 k L D I B false J O)) else (api_Hall_right.j1 k L D I B true J O))) else (none)) else (none)) else (some true)
def api_Hall_right.j1:Nat→Int→List (S56)→Int→Int→Bool→List (S56)→Int→Option (Bool)
 |0,_,_,_,_,_,_,_=>none
 |k+1,L,D,I,B,U,J,O=>if U=true then (some false) else (api_Hall_right.l0 k L D I (wrap64 (B+1)) J O)
end
def api_Hall_right.f (k:Nat) (I:List (S56)) (J:Int) (D:Int):Option (Bool):=api_Hall_right.l0 k D I (I.length:Int) 0 I J
theorem api_Hall_right.Zi:∀ k,(∀ D I O J L X,LeO (api_Hall_right.l0 k D I O J L X) (api_Hall_right.l0 (k+1) D I O J L X))∧(∀ D I O J L X Y,LeO (api_Hall_right.j1 k D I O J L X Y) (api_Hall_right.j1 (k+1) D I O J L X Y))
 |0=>⟨fun _ _ _ _ _ _ r h=>by simp[api_Hall_right.l0] at h,fun _ _ _ _ _ _ _ r h=>by simp[api_Hall_right.j1] at h⟩
 |k+1=>by
  obtain⟨B,U⟩:=api_Hall_right.Zi k
  refine⟨?_, ?_⟩
  ·intro D I O J L X
   unfold api_Hall_right.l0
   repeat' first
   |(with_reducible exact B _ _ _ _ _ _)
   |(with_reducible exact U _ _ _ _ _ _ _)
   |(with_reducible exact LeO.refl _)
   |(with_reducible exact LeO.none _)
   |(with_reducible refine LeO.ite ?_ ?_)
   |(with_reducible refine LeO.bind ?_ (fun _=>?_))
   |exact B _ _ _ _ _ _
   |exact U _ _ _ _ _ _ _
   |exact LeO.none _
   |refine LeO.ite ?_ ?_
   |refine LeO.bind ?_ (fun _=>?_)
  ·intro D I O J L X Y
   unfold api_Hall_right.j1
   repeat' first
   |(with_reducible exact B _ _ _ _ _ _)
   |(with_reducible exact U _ _ _ _ _ _ _)
   |(with_reducible exact LeO.refl _)
   |(with_reducible exact LeO.none _)
   |(with_reducible refine LeO.ite ?_ ?_)
   |(with_reducible refine LeO.bind ?_ (fun _=>?_))
   |exact B _ _ _ _ _ _
   |exact U _ _ _ _ _ _ _
   |exact LeO.none _
   |refine LeO.ite ?_ ?_
   |refine LeO.bind ?_ (fun _=>?_)
theorem api_Hall_right.mono:∀ I D a2 k,LeO (api_Hall_right.f k I D a2) (api_Hall_right.f (k+1) I D a2):=by
 intro I D a2 k
 obtain⟨B,U⟩:=api_Hall_right.Zi k
 unfold api_Hall_right.f
 repeat' first
   |(with_reducible exact B _ _ _ _ _ _)
   |(with_reducible exact U _ _ _ _ _ _ _)
   |(with_reducible exact LeO.refl _)
   |(with_reducible exact LeO.none _)
   |(with_reducible refine LeO.ite ?_ ?_)
   |(with_reducible refine LeO.bind ?_ (fun _=>?_))
   |exact B _ _ _ _ _ _
   |exact U _ _ _ _ _ _ _
   |exact LeO.none _
   |refine LeO.ite ?_ ?_
   |refine LeO.bind ?_ (fun _=>?_)
def api_Hall_right.T4:Bool×List (List Nat×List Nat):=(true,[([],[]),([],[]),([0,1],[0,1]),([2],[2]),([3,2],[3]),([4],[4]),([5,4],[4,5]),([6,4,4],[4,6]),([7],[7]),([8,7],[7,8]),([7],[7]),([10,7],[7,10]),([7],[7]),([12,7],[7,12]),([11,13,7],[7,11,13]),([14,7],[7,14]),([7],[7]),([9,15,16,7,7],[7,9,15,16]),([17,7],[7,17]),([7,18,4],[4,7,18]),([4,19],[4,19])])
def api_Hall_right.B4:List Nat:=[0,0,3,7,15,31,63,127,255,511,255,1279,255,4351,15615,31999,255,131071,262143,524287,1048575]
theorem api_Hall_right.Gn:rtab .any (opsOf Try.f42 4)=api_Hall_right.T4:=by kernel_rfl
theorem api_Hall_right.J1:Zr api_Hall_right.T4.2 api_Hall_right.B4=true:=by kernel_rfl
set_option maxHeartbeats 8000000 in
set_option maxRecDepth 100000 in
theorem api_Hall_right.calls (k:Nat) (μ :Option Addr) (ζ :Nat) (I:List (S56)) (J:Int) (D:Int) (r:Bool) (w:World) (a5:Kd.C k56 w μ I.length I) (a6:I.length ≤ ζ) (h:api_Hall_right.f k I J D=some r) (gh_:Nat) (hgh_:w.heap[gh_]?=some (.cells #[.int .i64 (X7 D),.int .i64 (X6 D)] 23 (0,0))):
  Calls Try.prog 42 #[.agg #[.slice μ I.length ζ,.func (.func 51) #[] #[]],.func (.func 61) #[] #[.pointer (some ⟨gh_,0,none⟩)]] w fun e w'=>e = .returned (.bool r)∧Below w.heap.size w w':=by
 have HCH:=Aside0.mk hgh_
 clear hgh_
 have bw:=Try.underlying69
 have bq:=Try.underlying56
 have χ :=Aside0.mk a5
 have a7:=Aside0.mk a6
 clear a5 a6
 have HB:=Aside0.mk (Below.refl w.heap.size w)
 have H:(api_Hall_right.l0 k D I (I.length:Int) 0 I J)=some r:=h
 clear h
 have H':=Aside0.mk H
 clear H
 go_enter Try.func42,Try.ntmps42
 go_wp2_with (first|((with_reducible refine Qr (N:=2) rfl ?_);refine qE 2 #[.slice μ I.length ζ,.func (.func 51) #[] #[]] 69 ?_;intro τ hg w3 hbox hb;have Y:=Aside0.mk hbox;have bf:=sGe hg;have ak:=sGe hg;replace HB:=sHb hb;clear hb hbox hg;obtain⟨ae,ag,ah,al⟩:=qD2 Y.out))
 go_loopg [10] k (fun kq am w'=>∃ (B:Int),am = .int .i64 B∧Aside0 (api_Hall_right.l0 kq D I (I.length:Int) B I J=some r)∧Aside0 (kq≤k)∧Aside0 (w'.heap[τ]?=some (.cells #[(.slice μ I.length ζ),.func (.func 51) #[] #[]] 69 (0,0)))∧Aside0 (Below w.heap.size w w'))
 case atStart=>exact⟨(0),rfl,H',⟨Nat.le_refl _⟩,Y,HB⟩
 case round=>
  clear H'
  try clear p2
  try clear c4
  try clear ae
  try clear ag
  try clear ah
  try clear al
  obtain⟨B,rfl,HA,ξ,Y,HB⟩:=hrel
  cases gk with
  |zero=>exact absurd HA.out (by simp[api_Hall_right.l0])
  |succ k1=>
   have H:=HA.out
   clear HA
   simp only[api_Hall_right.l0] at H
   by_cases c5:B<(I.length:Int)
   ·rw[if_pos c5] at H
    have c5b0:decide (B<(I.length:Int))=true:=decide_eq_true c5
    clear c5
    by_cases c6:0≤B
    ·rw[if_pos c6] at H
     have c6b0:decide (0≤B)=true:=decide_eq_true c6
     clear c6
     by_cases c7:B<(I.length:Int)
     ·rw[if_pos c7] at H
      have c7b0:decide (B<(I.length:Int))=true:=decide_eq_true c7
      clear c7
      have φ :=Aside0.mk H
      clear H
      have a9:0≤(B:Int):=of_decide_eq_true (by assumption)
      have aa:B<(I.length:Int):=of_decide_eq_true (by assumption)
      obtain⟨ab,br,ψ,ω,a2⟩:=Z3 χ.out B a9 aa
      cases br
      replace ψ :=(HB.out.cell (World.block_lt_of_cell? w _ ψ)).trans ψ
      replace ω :=(HB.out.cell (World.block_lt_of_cell? w _ ω)).trans ω
      replace a2:=(HB.out.cell (World.block_lt_of_cell? w _ a2)).trans a2
      replace a9:=eq_true a9
      replace aa:=eq_true aa
      go_upto_region 4 with(first|((with_reducible refine Qr (N:=6) rfl ?_);refine qE 6 #[.int .i64 0,.int .i64 0,.int .i64 0] 56 ?_;intro ν hg w9 hbox hb;have Z:=Aside0.mk hbox;have a8:=sGe hg;have bi:=sGe hg;have av:=sNl Y hg;have aw:=sNg Y hg;replace Y:=sBk Y hb;replace HB:=sHb hb;clear hb hbox hg;have d2:=aw.out;have d3:=av.out;obtain⟨ac,af,ap,ai,aj,ar⟩:=qD3 Z.out))
      (try simp only[Act.put,qS])
      go_cut [35] (fun b2 wc=>∃ (kq:Nat) (O:Bool),b2 = .bool O∧Aside0 (api_Hall_right.j1 kq D I (I.length:Int) B O I J=some r)∧Aside0 (kq≤k1)∧Aside0 (wc.heap[τ]?=some (.cells #[(.slice (some ab) I.length ζ),.func (.func 51) #[] #[]] 69 (0,0)))∧Aside0 (wc.heap[ν]?=some (.cells #[.int .i64 ((Qg I B).f0),.int .i64 ((Qg I B).f1),.int .i64 ((Qg I B).f2)] 56 (0,0)))∧Aside0 (Below w.heap.size w wc))
      case first=>
       have H:= φ.out
       clear φ
       replace H:=Option.bind_eq_some_iff.mp H
       obtain⟨σ,ce,H⟩:=H
       replace H:(if σ=true then (if B>0 then (if 0≤(wrap64 (B-1)) then (if (wrap64 (B-1))<(I.length:Int) then ((call_halls_1.f ((Qg I (wrap64 (B-1))).f0) ((Qg I (wrap64 (B-1))).f1) ((Qg I (wrap64 (B-1))).f2) ((Qg I B).f0) ((Qg I B).f1) ((Qg I B).f2)).bind fun ρ=>(api_Hall_right.j1 k1 D I (I.length:Int) B (decide (ρ≥0)) I J)) else (none)) else (none)) else (api_Hall_right.j1 k1 D I (I.length:Int) B false I J)) else (api_Hall_right.j1 k1 D I (I.length:Int) B true I J))=some r:=H
       have ct:=Aside0.mk ce
       clear ce
       by_cases bg:σ=true
       ·subst bg
        have H1:(if B>0 then (if 0≤(wrap64 (B-1)) then (if (wrap64 (B-1))<(I.length:Int) then ((call_halls_1.f ((Qg I (wrap64 (B-1))).f0) ((Qg I (wrap64 (B-1))).f1) ((Qg I (wrap64 (B-1))).f2) ((Qg I B).f0) ((Qg I B).f1) ((Qg I B).f2)).bind fun ρ=>(api_Hall_right.j1 k1 D I (I.length:Int) B (decide (ρ≥0)) I J)) else (none)) else (none)) else (api_Hall_right.j1 k1 D I (I.length:Int) B false I J))=some r:=by rw[if_pos rfl] at H;exact H
        clear H
        have H:=H1
        clear H1
        by_cases az:B>0
        ·rw[if_pos az] at H
         have c14b0:decide (0<B)=true:=decide_eq_true az
         clear az
         (first|rw[c14b0]|(simp only[X5,Ys];rw[c14b0])|skip)
         obtain⟨κ,a4⟩:∃ j_:Int,(wrap64 (B-1))=j_:=⟨_,rfl⟩
         replace H:(if 0≤(κ) then (if (κ)<(I.length:Int) then ((call_halls_1.f ((Qg I (κ)).f0) ((Qg I (κ)).f1) ((Qg I (κ)).f2) ((Qg I B).f0) ((Qg I B).f1) ((Qg I B).f2)).bind fun ρ=>(api_Hall_right.j1 k1 D I (I.length:Int) B (decide (ρ≥0)) I J)) else (none)) else (none))=some r:=by first|(rw[a4] at H;exact H)|(simp only[a4] at H ⊢;exact H)
         (try rw[a4] at ct)
         have hji15w:(IntKind.i64.wrap (B-1)) = κ :=(X5 _).trans a4
         by_cases a3:0≤(κ)
         ·rw[if_pos a3] at H
          have c16b0:decide (0≤(κ))=true:=decide_eq_true a3
          clear a3
          by_cases au:(κ)<(I.length:Int)
          ·rw[if_pos au] at H
           have c17b0:decide ((κ)<(I.length:Int))=true:=decide_eq_true au
           clear au
           replace H:=Option.bind_eq_some_iff.mp H
           obtain⟨ρ,cd,H⟩:=H
           replace H:(api_Hall_right.j1 k1 D I (I.length:Int) B (decide (ρ≥0)) I J)=some r:=H
           have dm:=Aside0.mk cd
           clear cd
           have H':=Aside0.mk H
           clear H
           try go_wp2
           have U:Aside0 ((((w9.setCell ⟨ν,0,none⟩ (.int .i64 ((Qg I B).f0))).setCell ⟨ν,1,none⟩ (.int .i64 ((Qg I B).f1))).setCell ⟨ν,2,none⟩ (.int .i64 ((Qg I B).f2))).heap[τ]?=some (.cells #[.slice (some ab) I.length ζ,.func (.func 51) #[] #[]] 69 (0,0))):=⟨bka Y⟩
           have γ:Aside0 ((((w9.setCell ⟨ν,0,none⟩ (.int .i64 ((Qg I B).f0))).setCell ⟨ν,1,none⟩ (.int .i64 ((Qg I B).f1))).setCell ⟨ν,2,none⟩ (.int .i64 ((Qg I B).f2))).heap[ν]?=some (.cells #[.int .i64 ((Qg I B).f0),.int .i64 ((Qg I B).f1),.int .i64 ((Qg I B).f2)] 56 (0,0))):=⟨by refine Qv (cs:=#[.int .i64 ((Qg I B).f0),.int .i64 ((Qg I B).f1),.int .i64 0]) ?_ 2 _ rfl;refine Qv (cs:=#[.int .i64 ((Qg I B).f0),.int .i64 0,.int .i64 0]) ?_ 1 _ rfl;refine Qv (cs:=#[.int .i64 0,.int .i64 0,.int .i64 0]) ?_ 0 _ rfl;exact Z.out⟩
           have ι :Aside0 (Below w.heap.size w (((w9.setCell ⟨ν,0,none⟩ (.int .i64 ((Qg I B).f0))).setCell ⟨ν,1,none⟩ (.int .i64 ((Qg I B).f1))).setCell ⟨ν,2,none⟩ (.int .i64 ((Qg I B).f2)))):=⟨bel⟩
           (try clear Y)
           (try clear Z)
           (try clear HB)
           generalize(((w9.setCell ⟨ν,0,none⟩ (.int .i64 ((Qg I B).f0))).setCell ⟨ν,1,none⟩ (.int .i64 ((Qg I B).f1))).setCell ⟨ν,2,none⟩ (.int .i64 ((Qg I B).f2)))=eg at U γ ι ⊢
           have Y:=U
           have Z:=γ
           have HB:= ι
           clear U γ ι
           replace Y:=Aside0.mk (Qa Y.out)
           replace Z:=Aside0.mk (Qa Z.out)
           replace HB:=Aside0.mk (Qf HB.out)
           have an:0≤((κ):Int):=of_decide_eq_true (by assumption)
           have ao:(κ)<(I.length:Int):=of_decide_eq_true (by assumption)
           obtain⟨ay,b0,L,X,δ⟩:=Z3 χ.out (κ) an ao
           have ε := δ
           have η :=X
           have θ :=L
           obtain rfl:ab=ay:=(by injection b0)
           replace L:=(HB.out.cell (World.block_lt_of_cell? w _ L)).trans L
           replace X:=(HB.out.cell (World.block_lt_of_cell? w _ X)).trans X
           replace δ :=(HB.out.cell (World.block_lt_of_cell? w _ δ)).trans δ
           replace an:=eq_true an
           replace ao:=eq_true ao
           refine Zn (n:=21) (S:=fun w'=>w'.cell? ⟨ν,0,none⟩=some (.int .i64 ((Qg I B).f0))∧w'.cell? ⟨ν,1,none⟩=some (.int .i64 ((Qg I B).f1))∧w'.cell? ⟨ν,2,none⟩=some (.int .i64 ((Qg I B).f2))∧w'.cell? ⟨τ,0,none⟩=some (.slice (some ab) I.length ζ)∧w'.cell? ⟨τ,1,none⟩=some (.func (.func 51) #[] #[])∧w'.cell? (ab.add (((κ)).toNat * 3))=some (.int .i64 ((Qg I (κ)).f0))∧w'.cell? ⟨(ab.add (((κ)).toNat * 3)).block,(ab.add (((κ)).toNat * 3)).off+1,none⟩=some (.int .i64 ((Qg I (κ)).f1))∧w'.cell? ⟨(ab.add (((κ)).toNat * 3)).block,(ab.add (((κ)).toNat * 3)).off+2,none⟩=some (.int .i64 ((Qg I (κ)).f2))) (ds:=[]) #[false,false,false,false,false,false,false,false,false,false,false,false,false,false,false,false,false,false,false,false,false] kr rfl rfl ⟨(Ql Z.out 0).trans rfl,(Ql Z.out 1).trans rfl,(Ql Z.out 2).trans rfl,(Ql Y.out 0).trans rfl,(Ql Y.out 1).trans rfl,((HB.out.cell (World.block_lt_of_cell? w _ θ)).trans θ),((HB.out.cell (World.block_lt_of_cell? w _ η)).trans η),((HB.out.cell (World.block_lt_of_cell? w _ ε)).trans ε)⟩ (fun hHeld=>?_);refine Q8 api_Hall_right.Gn api_Hall_right.J1 (fun HT_ HW_=>?_)
           generalize eg.drew=dp at Y Z HB L X δ hHeld ⊢
           refine qP 0 (some 15) (bN 21 1) HT_ ?_
           refine qT 1 (some 16) (bN 21 3) HT_ HW_ hHeld ?_
           refine Zg (i:=2) (N:=some 17) (bN 21 7) rfl rfl (Q1 HT_.out kr) (by decide) (fun K hK=>?_)
           refine Xm Try.func61 kr rfl #[] #[.pointer (some ⟨gh_,0,none⟩)] #[.agg #[.int .i64 ((Qg I B).f0),.int .i64 ((Qg I B).f1),.int .i64 ((Qg I B).f2)]] #[.agg #[.int .i64 ((Qg I B).f0),.int .i64 ((Qg I B).f1),.int .i64 ((Qg I B).f2)],.pointer (some ⟨gh_,0,none⟩)] rfl (by rfl) rfl rfl rfl qM ?_
           with_reducible refine(call_hall_1.calls ((Qg I B).f0) ((Qg I B).f1) ((Qg I B).f2) D true _ ct.out gh_ (Zt HCH.out (by repeat(first|(with_reducible first|exact HB.out|apply Qh|apply Qb|apply Qf)|exact HB.out|(refine Qc ?_ (Aside0.out (by assumption))))))).mono ?_
           rintro e bo ⟨rfl,hb⟩
           refine⟨_,rfl, ?_⟩
           replace Y:=sBk Y hb
           replace Z:=sBk Z hb
           replace HB:=sHb hb
           (try clear hb)
           (try clear a0)
           (try clear hk)
           (try clear hi)
           refine hK.out _ _ ⟨qc Z,qc Z,qc Z,qc Y,qc Y,((HB.out.cell (World.block_lt_of_cell? w _ θ)).trans θ),((HB.out.cell (World.block_lt_of_cell? w _ η)).trans η),((HB.out.cell (World.block_lt_of_cell? w _ ε)).trans ε)⟩ (fun hHeld=>?_)
           clear hK K
           refine qN (some 17) ?_
           refine qP 3 (some 18) (bN 21 15) HT_ ?_
           refine qP 4 (some 19) (bN 21 31) HT_ ?_
           refine qP 5 (some 20) (bN 21 63) HT_ ?_
           refine qP 6 (some 21) (bN 21 127) HT_ ?_
           refine qP 7 (some 22) (bN 21 255) HT_ ?_
           refine qP 8 (some 23) (bN 21 511) HT_ ?_
           refine qP 10 (some 25) (bN 21 1535) HT_ ?_
           refine qP 12 (some 27) (bN 21 5631) HT_ ?_
           refine qP 13 (some 28) (bN 21 13823) HT_ ?_
           refine qT 9 (some 24) (bN 21 14335) HT_ HW_ hHeld ?_
           refine qT 11 (some 26) (bN 21 16383) HT_ HW_ hHeld ?_
           refine qP 14 (some 29) (bN 21 32767) HT_ ?_
           refine qT 15 (some 30) (bN 21 65535) HT_ HW_ hHeld ?_
           refine qT 16 (some 31) (bN 21 131071) HT_ HW_ hHeld ?_
           refine Zg (i:=17) (N:=some 32) (bN 21 262143) rfl rfl (Q1 HT_.out kr) (by decide) (fun K hK=>?_)
           refine Xm Try.func51 kr rfl #[] #[] #[.agg #[.int .i64 ((Qg I (κ)).f0),.int .i64 ((Qg I (κ)).f1),.int .i64 ((Qg I (κ)).f2)],.agg #[.int .i64 ((Qg I B).f0),.int .i64 ((Qg I B).f1),.int .i64 ((Qg I B).f2)]] #[.agg #[.int .i64 ((Qg I (κ)).f0),.int .i64 ((Qg I (κ)).f1),.int .i64 ((Qg I (κ)).f2)],.agg #[.int .i64 ((Qg I B).f0),.int .i64 ((Qg I B).f1),.int .i64 ((Qg I B).f2)]] rfl (by rfl) rfl rfl rfl (by(try simp only[List.map_toArray,List.map_cons,List.map_nil]);first|done|(simp only[a4];rfl)|rfl|(simp only[List.length_drop,List.length_take];rfl)) ?_
           with_reducible refine(call_halls_1.calls ((Qg I (κ)).f0) ((Qg I (κ)).f1) ((Qg I (κ)).f2) ((Qg I B).f0) ((Qg I B).f1) ((Qg I B).f2) ρ _ dm.out).mono ?_
           rintro e du ⟨rfl,hb⟩
           refine⟨_,rfl, ?_⟩
           replace Y:=sBk Y hb
           replace Z:=sBk Z hb
           replace HB:=sHb hb
           (try clear hb)
           (try clear a0)
           (try clear hk)
           (try clear hi)
           refine hK.out _ _ ⟨qc Z,qc Z,qc Z,qc Y,qc Y,((HB.out.cell (World.block_lt_of_cell? w _ θ)).trans θ),((HB.out.cell (World.block_lt_of_cell? w _ η)).trans η),((HB.out.cell (World.block_lt_of_cell? w _ ε)).trans ε)⟩ (fun hHeld=>?_)
           clear hK K
           refine qN (some 32) ?_
           refine qP 18 (some 33) (bN 21 524287) HT_ ?_
           refine qP 19 (some 34) (bN 21 1048575) HT_ ?_
           refine qP 20 (some 35) (bN 21 2097151) HT_ ?_
           refine Zu (Zj HT_.out kr) ?_
           try go_wp2
           go_meet
           case rel=>exact⟨_,(decide (ρ≥0)),rfl,H',⟨by have:= ξ.out;omega⟩,Y,Z,HB⟩
          ·rw[if_neg au] at H
           exact absurd H (by simp)
         ·rw[if_neg a3] at H
          exact absurd H (by simp)
        ·rw[if_neg az] at H
         have c14b0:decide (0<B)=false:=decide_eq_false az
         clear az
         (first|rw[c14b0]|(simp only[X5,Ys];rw[c14b0])|skip)
         have H':=Aside0.mk H
         clear H
         try go_wp2
         have U:Aside0 ((((w9.setCell ⟨ν,0,none⟩ (.int .i64 ((Qg I B).f0))).setCell ⟨ν,1,none⟩ (.int .i64 ((Qg I B).f1))).setCell ⟨ν,2,none⟩ (.int .i64 ((Qg I B).f2))).heap[τ]?=some (.cells #[.slice (some ab) I.length ζ,.func (.func 51) #[] #[]] 69 (0,0))):=⟨bka Y⟩
         have γ:Aside0 ((((w9.setCell ⟨ν,0,none⟩ (.int .i64 ((Qg I B).f0))).setCell ⟨ν,1,none⟩ (.int .i64 ((Qg I B).f1))).setCell ⟨ν,2,none⟩ (.int .i64 ((Qg I B).f2))).heap[ν]?=some (.cells #[.int .i64 ((Qg I B).f0),.int .i64 ((Qg I B).f1),.int .i64 ((Qg I B).f2)] 56 (0,0))):=⟨by refine Qv (cs:=#[.int .i64 ((Qg I B).f0),.int .i64 ((Qg I B).f1),.int .i64 0]) ?_ 2 _ rfl;refine Qv (cs:=#[.int .i64 ((Qg I B).f0),.int .i64 0,.int .i64 0]) ?_ 1 _ rfl;refine Qv (cs:=#[.int .i64 0,.int .i64 0,.int .i64 0]) ?_ 0 _ rfl;exact Z.out⟩
         have ι :Aside0 (Below w.heap.size w (((w9.setCell ⟨ν,0,none⟩ (.int .i64 ((Qg I B).f0))).setCell ⟨ν,1,none⟩ (.int .i64 ((Qg I B).f1))).setCell ⟨ν,2,none⟩ (.int .i64 ((Qg I B).f2)))):=⟨bel⟩
         (try clear Y)
         (try clear Z)
         (try clear HB)
         generalize(((w9.setCell ⟨ν,0,none⟩ (.int .i64 ((Qg I B).f0))).setCell ⟨ν,1,none⟩ (.int .i64 ((Qg I B).f1))).setCell ⟨ν,2,none⟩ (.int .i64 ((Qg I B).f2)))=dq at U γ ι ⊢
         have Y:=U
         have Z:=γ
         have HB:= ι
         clear U γ ι
         replace Y:=Aside0.mk (Qa Y.out)
         replace Z:=Aside0.mk (Qa Z.out)
         replace HB:=Aside0.mk (Qf HB.out)
         refine Zn (n:=21) (S:=fun w'=>w'.cell? ⟨ν,0,none⟩=some (.int .i64 ((Qg I B).f0))∧w'.cell? ⟨ν,1,none⟩=some (.int .i64 ((Qg I B).f1))∧w'.cell? ⟨ν,2,none⟩=some (.int .i64 ((Qg I B).f2))) (ds:=[]) #[false,false,false,false,false,false,false,false,false,false,false,false,false,false,false,false,false,false,false,false,false] kr rfl rfl ⟨(Ql Z.out 0).trans rfl,(Ql Z.out 1).trans rfl,(Ql Z.out 2).trans rfl⟩ (fun hHeld=>?_);refine Q8 api_Hall_right.Gn api_Hall_right.J1 (fun HT_ HW_=>?_)
         generalize dq.drew=bu at Y Z HB hHeld ⊢
         refine qP 0 (some 15) (bN 21 1) HT_ ?_
         refine qT 1 (some 16) (bN 21 3) HT_ HW_ hHeld ?_
         refine Zg (i:=2) (N:=some 17) (bN 21 7) rfl rfl (Q1 HT_.out kr) (by decide) (fun K hK=>?_)
         refine Xm Try.func61 kr rfl #[] #[.pointer (some ⟨gh_,0,none⟩)] #[.agg #[.int .i64 ((Qg I B).f0),.int .i64 ((Qg I B).f1),.int .i64 ((Qg I B).f2)]] #[.agg #[.int .i64 ((Qg I B).f0),.int .i64 ((Qg I B).f1),.int .i64 ((Qg I B).f2)],.pointer (some ⟨gh_,0,none⟩)] rfl (by rfl) rfl rfl rfl qM ?_
         with_reducible refine(call_hall_1.calls ((Qg I B).f0) ((Qg I B).f1) ((Qg I B).f2) D true _ ct.out gh_ (Zt HCH.out (by repeat(first|(with_reducible first|exact HB.out|apply Qh|apply Qb|apply Qf)|exact HB.out|(refine Qc ?_ (Aside0.out (by assumption))))))).mono ?_
         rintro e ci ⟨rfl,hb⟩
         refine⟨_,rfl, ?_⟩
         replace Y:=sBk Y hb
         replace Z:=sBk Z hb
         replace HB:=sHb hb
         (try clear hb)
         (try clear a0)
         (try clear hk)
         (try clear hi)
         refine hK.out _ _ ⟨qc Z,qc Z,qc Z⟩ (fun hHeld=>?_)
         clear hK K
         refine qN (some 17) ?_
         refine qP 3 (some 18) (bN 21 15) HT_ ?_
         refine qP 4 (some 19) (bN 21 31) HT_ ?_
         refine qP 5 (some 20) (bN 21 63) HT_ ?_
         refine qP 6 (some 21) (bN 21 127) HT_ ?_
         refine qP 7 (some 22) (bN 21 255) HT_ ?_
         refine qU 8 (some 23) (bN 21 511) HT_ ?_
         refine qU 9 (some 24) (bN 21 1023) HT_ ?_
         refine qU 10 (some 25) (bN 21 2047) HT_ ?_
         refine qU 11 (some 26) (bN 21 4095) HT_ ?_
         refine qU 12 (some 27) (bN 21 8191) HT_ ?_
         refine qU 13 (some 28) (bN 21 16383) HT_ ?_
         refine qU 14 (some 29) (bN 21 32767) HT_ ?_
         refine qU 15 (some 30) (bN 21 65535) HT_ ?_
         refine qU 16 (some 31) (bN 21 131071) HT_ ?_
         refine qU 17 (some 32) (bN 21 262143) HT_ ?_
         refine qU 18 (some 33) (bN 21 524287) HT_ ?_
         refine qP 19 (some 34) (bN 21 1048575) HT_ ?_
         refine qP 20 (some 35) (bN 21 2097151) HT_ ?_
         refine Zu (Zj HT_.out kr) ?_
         try go_wp2
         go_meet
         case rel=>exact⟨_,(false),rfl,H',⟨by have:= ξ.out;omega⟩,Y,Z,HB⟩
       ·replace bg:=Bool.eq_false_iff.mpr bg
        subst bg
        have H1:(api_Hall_right.j1 k1 D I (I.length:Int) B true I J)=some r:=by rw[if_neg (show ¬ (false=true) by decide)] at H;exact H
        clear H
        have H:=H1
        clear H1
        have H':=Aside0.mk H
        clear H
        try go_wp2
        have U:Aside0 ((((w9.setCell ⟨ν,0,none⟩ (.int .i64 ((Qg I B).f0))).setCell ⟨ν,1,none⟩ (.int .i64 ((Qg I B).f1))).setCell ⟨ν,2,none⟩ (.int .i64 ((Qg I B).f2))).heap[τ]?=some (.cells #[.slice (some ab) I.length ζ,.func (.func 51) #[] #[]] 69 (0,0))):=⟨bka Y⟩
        have γ:Aside0 ((((w9.setCell ⟨ν,0,none⟩ (.int .i64 ((Qg I B).f0))).setCell ⟨ν,1,none⟩ (.int .i64 ((Qg I B).f1))).setCell ⟨ν,2,none⟩ (.int .i64 ((Qg I B).f2))).heap[ν]?=some (.cells #[.int .i64 ((Qg I B).f0),.int .i64 ((Qg I B).f1),.int .i64 ((Qg I B).f2)] 56 (0,0))):=⟨by refine Qv (cs:=#[.int .i64 ((Qg I B).f0),.int .i64 ((Qg I B).f1),.int .i64 0]) ?_ 2 _ rfl;refine Qv (cs:=#[.int .i64 ((Qg I B).f0),.int .i64 0,.int .i64 0]) ?_ 1 _ rfl;refine Qv (cs:=#[.int .i64 0,.int .i64 0,.int .i64 0]) ?_ 0 _ rfl;exact Z.out⟩
        have ι :Aside0 (Below w.heap.size w (((w9.setCell ⟨ν,0,none⟩ (.int .i64 ((Qg I B).f0))).setCell ⟨ν,1,none⟩ (.int .i64 ((Qg I B).f1))).setCell ⟨ν,2,none⟩ (.int .i64 ((Qg I B).f2)))):=⟨bel⟩
        (try clear Y)
        (try clear Z)
        (try clear HB)
        generalize(((w9.setCell ⟨ν,0,none⟩ (.int .i64 ((Qg I B).f0))).setCell ⟨ν,1,none⟩ (.int .i64 ((Qg I B).f1))).setCell ⟨ν,2,none⟩ (.int .i64 ((Qg I B).f2)))=bp at U γ ι ⊢
        have Y:=U
        have Z:=γ
        have HB:= ι
        clear U γ ι
        replace Y:=Aside0.mk (Qa Y.out)
        replace Z:=Aside0.mk (Qa Z.out)
        replace HB:=Aside0.mk (Qf HB.out)
        refine Zn (n:=21) (S:=fun w'=>w'.cell? ⟨ν,0,none⟩=some (.int .i64 ((Qg I B).f0))∧w'.cell? ⟨ν,1,none⟩=some (.int .i64 ((Qg I B).f1))∧w'.cell? ⟨ν,2,none⟩=some (.int .i64 ((Qg I B).f2))) (ds:=[]) #[false,false,false,false,false,false,false,false,false,false,false,false,false,false,false,false,false,false,false,false,false] kr rfl rfl ⟨(Ql Z.out 0).trans rfl,(Ql Z.out 1).trans rfl,(Ql Z.out 2).trans rfl⟩ (fun hHeld=>?_);refine Q8 api_Hall_right.Gn api_Hall_right.J1 (fun HT_ HW_=>?_)
        generalize bp.drew=ez at Y Z HB hHeld ⊢
        refine qP 0 (some 15) (bN 21 1) HT_ ?_
        refine qT 1 (some 16) (bN 21 3) HT_ HW_ hHeld ?_
        refine Zg (i:=2) (N:=some 17) (bN 21 7) rfl rfl (Q1 HT_.out kr) (by decide) (fun K hK=>?_)
        refine Xm Try.func61 kr rfl #[] #[.pointer (some ⟨gh_,0,none⟩)] #[.agg #[.int .i64 ((Qg I B).f0),.int .i64 ((Qg I B).f1),.int .i64 ((Qg I B).f2)]] #[.agg #[.int .i64 ((Qg I B).f0),.int .i64 ((Qg I B).f1),.int .i64 ((Qg I B).f2)],.pointer (some ⟨gh_,0,none⟩)] rfl (by rfl) rfl rfl rfl qM ?_
        with_reducible refine(call_hall_1.calls ((Qg I B).f0) ((Qg I B).f1) ((Qg I B).f2) D false _ ct.out gh_ (Zt HCH.out (by repeat(first|(with_reducible first|exact HB.out|apply Qh|apply Qb|apply Qf)|exact HB.out|(refine Qc ?_ (Aside0.out (by assumption))))))).mono ?_
        rintro e ft ⟨rfl,hb⟩
        refine⟨_,rfl, ?_⟩
        replace Y:=sBk Y hb
        replace Z:=sBk Z hb
        replace HB:=sHb hb
        (try clear hb)
        (try clear a0)
        (try clear hk)
        (try clear hi)
        refine hK.out _ _ ⟨qc Z,qc Z,qc Z⟩ (fun hHeld=>?_)
        clear hK K
        refine qN (some 17) ?_
        refine qP 3 (some 18) (bN 21 15) HT_ ?_
        refine qP 4 (some 19) (bN 21 31) HT_ ?_
        refine qU 5 (some 20) (bN 21 63) HT_ ?_
        refine qU 6 (some 21) (bN 21 127) HT_ ?_
        refine qU 7 (some 22) (bN 21 255) HT_ ?_
        refine qU 8 (some 23) (bN 21 511) HT_ ?_
        refine qU 9 (some 24) (bN 21 1023) HT_ ?_
        refine qU 10 (some 25) (bN 21 2047) HT_ ?_
        refine qU 11 (some 26) (bN 21 4095) HT_ ?_
        refine qU 12 (some 27) (bN 21 8191) HT_ ?_
        refine qU 13 (some 28) (bN 21 16383) HT_ ?_
        refine qU 14 (some 29) (bN 21 32767) HT_ ?_
        refine qU 15 (some 30) (bN 21 65535) HT_ ?_
        refine qU 16 (some 31) (bN 21 131071) HT_ ?_
        refine qU 17 (some 32) (bN 21 262143) HT_ ?_
        refine qU 18 (some 33) (bN 21 524287) HT_ ?_
        refine qU 19 (some 34) (bN 21 1048575) HT_ ?_
        refine qP 20 (some 35) (bN 21 2097151) HT_ ?_
        refine Zu (Zj HT_.out kr) ?_
        try go_wp2
        go_meet
        case rel=>exact⟨_,(true),rfl,H',⟨by have:= ξ.out;omega⟩,Y,Z,HB⟩
      case rest=>
       clear φ
       try clear c1
       try clear p1
       try clear q1
       try clear bl
       try clear p2
       try clear c5
       try clear c6
       try clear dj
       try clear dk
       try clear da
       try clear bg
       try clear az
       try clear c14b0
       try clear a3
       try clear au
       try clear c17b0
       try clear L
       try clear X
       try clear δ
       try clear an
       try clear ao
       obtain⟨kq,O,rfl,HA,ax,Y,Z,HB⟩:=hcut
       cases kq with
       |zero=>exact absurd HA.out (by simp[api_Hall_right.j1])
       |succ b1=>
        have H:=HA.out
        clear HA
        simp only[api_Hall_right.j1] at H
        by_cases cf:O=true
        ·subst cf
         have H1:(some false)=some r:=by rw[if_pos rfl] at H;exact H
         clear H
         have H:=H1
         clear H1
         obtain rfl:=Option.some.inj H
         go_wp2
         go_ret
         exact⟨rfl,HB.out⟩
        ·replace cf:=Bool.eq_false_iff.mpr cf
         subst cf
         have H1:(api_Hall_right.l0 b1 D I (I.length:Int) (wrap64 (B+1)) I J)=some r:=by rw[if_neg (show ¬ (false=true) by decide)] at H;exact H
         clear H
         have H:=H1
         clear H1
         have H':=Aside0.mk H
         clear H
         go_wp2
         go_roundg b1
         case measure=>have:= ξ.out;have:=ax.out;omega
         case rel=>exact⟨(wrap64 (B+1)),rfl,H',⟨by have:= ξ.out;have:=ax.out;omega⟩,Y,HB⟩
     ·rw[if_neg c7] at H
      exact absurd H (by simp)
    ·rw[if_neg c6] at H
     exact absurd H (by simp)
   ·rw[if_neg c5] at H
    have c5b0:decide (B<(I.length:Int))=false:=decide_eq_false c5
    clear c5
    obtain rfl:=Option.some.inj H
    go_wp2
    go_ret
    exact⟨rfl,HB.out⟩
mutual
def api_Inside_right.l0:Nat→Int→List (S62)→Int→Int→List (S62)→Int→Option (Bool)
 |0,_,_,_,_,_,_=>none
 |k+1,L,D,I,B,J,O=>if B<I then (if 0≤B then (if B<(D.length:Int) then ((call_inside_1.f ((Qp D B).f0) ((Qp D B).f1) L).bind fun σ=>(if σ=true then (if B>0 then (if 0≤(wrap64 (B-1)) then (if (wrap64 (B-1))<(J.length:Int) then ((call_ins_1.f ((Qp J (wrap64 (B-1))).f0) ((Qp J (wrap64 (B-1))).f1) ((Qp D B).f0) ((Qp D B).f1)).bind fun δ =>(api_Inside_right.j1 k L D I B (decide (δ ≥ 0)) J O)) else (none)) else (none)) else (api_Inside_right.j1 k L D I B false J O)) else (api_Inside_right.j1 k L D I B true J O))) else (none)) else (none)) else (some true)
def api_Inside_right.j1:Nat→Int→List (S62)→Int→Int→Bool→List (S62)→Int→Option (Bool)
 |0,_,_,_,_,_,_,_=>none
 |k+1,L,D,I,B,U,J,O=>if U=true then (some false) else (api_Inside_right.l0 k L D I (wrap64 (B+1)) J O)
end
def api_Inside_right.f (k:Nat) (I:List (S62)) (J:Int) (D:Int):Option (Bool):=api_Inside_right.l0 k D I (I.length:Int) 0 I J
theorem api_Inside_right.Zi:∀ k,(∀ D I O J L X,LeO (api_Inside_right.l0 k D I O J L X) (api_Inside_right.l0 (k+1) D I O J L X))∧(∀ D I O J L X Y,LeO (api_Inside_right.j1 k D I O J L X Y) (api_Inside_right.j1 (k+1) D I O J L X Y))
 |0=>⟨fun _ _ _ _ _ _ r h=>by simp[api_Inside_right.l0] at h,fun _ _ _ _ _ _ _ r h=>by simp[api_Inside_right.j1] at h⟩
 |k+1=>by
  obtain⟨B,U⟩:=api_Inside_right.Zi k
  refine⟨?_, ?_⟩
  ·intro D I O J L X
   unfold api_Inside_right.l0
   repeat' first
   |(with_reducible exact B _ _ _ _ _ _)
   |(with_reducible exact U _ _ _ _ _ _ _)
   |(with_reducible exact LeO.refl _)
   |(with_reducible exact LeO.none _)
   |(with_reducible refine LeO.ite ?_ ?_)
   |(with_reducible refine LeO.bind ?_ (fun _=>?_))
   |exact B _ _ _ _ _ _
   |exact U _ _ _ _ _ _ _
   |exact LeO.none _
   |refine LeO.ite ?_ ?_
   |refine LeO.bind ?_ (fun _=>?_)
  ·intro D I O J L X Y
   unfold api_Inside_right.j1
   repeat' first
   |(with_reducible exact B _ _ _ _ _ _)
   |(with_reducible exact U _ _ _ _ _ _ _)
   |(with_reducible exact LeO.refl _)
   |(with_reducible exact LeO.none _)
   |(with_reducible refine LeO.ite ?_ ?_)
   |(with_reducible refine LeO.bind ?_ (fun _=>?_))
   |exact B _ _ _ _ _ _
   |exact U _ _ _ _ _ _ _
   |exact LeO.none _
   |refine LeO.ite ?_ ?_
   |refine LeO.bind ?_ (fun _=>?_)
theorem api_Inside_right.mono:∀ I D a2 k,LeO (api_Inside_right.f k I D a2) (api_Inside_right.f (k+1) I D a2):=by
 intro I D a2 k
 obtain⟨B,U⟩:=api_Inside_right.Zi k
 unfold api_Inside_right.f
 repeat' first
   |(with_reducible exact B _ _ _ _ _ _)
   |(with_reducible exact U _ _ _ _ _ _ _)
   |(with_reducible exact LeO.refl _)
   |(with_reducible exact LeO.none _)
   |(with_reducible refine LeO.ite ?_ ?_)
   |(with_reducible refine LeO.bind ?_ (fun _=>?_))
   |exact B _ _ _ _ _ _
   |exact U _ _ _ _ _ _ _
   |exact LeO.none _
   |refine LeO.ite ?_ ?_
   |refine LeO.bind ?_ (fun _=>?_)
def api_Inside_right.T4:Bool×List (List Nat×List Nat):=(true,[([],[]),([],[]),([0,1],[0,1]),([2],[2]),([3,2],[3]),([4],[4]),([5,4],[4,5]),([6,4,4],[4,6]),([7],[7]),([8,7],[7,8]),([7],[7]),([10,7],[7,10]),([7],[7]),([12,7],[7,12]),([11,13,7],[7,11,13]),([14,7],[7,14]),([7],[7]),([9,15,16,7,7],[7,9,15,16]),([17,7],[7,17]),([7,18,4],[4,7,18]),([4,19],[4,19])])
def api_Inside_right.B4:List Nat:=[0,0,3,7,15,31,63,127,255,511,255,1279,255,4351,15615,31999,255,131071,262143,524287,1048575]
theorem api_Inside_right.Gn:rtab .any (opsOf Try.f43 4)=api_Inside_right.T4:=by kernel_rfl
theorem api_Inside_right.J1:Zr api_Inside_right.T4.2 api_Inside_right.B4=true:=by kernel_rfl
set_option maxHeartbeats 8000000 in
set_option maxRecDepth 100000 in
theorem api_Inside_right.calls (k:Nat) (μ :Option Addr) (ζ :Nat) (I:List (S62)) (J:Int) (D:Int) (r:Bool) (w:World) (a5:Kd.C k62 w μ I.length I) (a6:I.length ≤ ζ) (h:api_Inside_right.f k I J D=some r) (gh_:Nat) (hgh_:w.heap[gh_]?=some (.cells #[.int .i64 (X7 D),.int .i64 (X6 D)] 23 (0,0))):
  Calls Try.prog 43 #[.agg #[.slice μ I.length ζ,.func (.func 57) #[] #[]],.func (.func 50) #[] #[.pointer (some ⟨gh_,0,none⟩)]] w fun e w'=>e = .returned (.bool r)∧Below w.heap.size w w':=by
 have HCH:=Aside0.mk hgh_
 clear hgh_
 have bs:=Try.underlying74
 have bd:=Try.underlying62
 have χ :=Aside0.mk a5
 have a7:=Aside0.mk a6
 clear a5 a6
 have HB:=Aside0.mk (Below.refl w.heap.size w)
 have H:(api_Inside_right.l0 k D I (I.length:Int) 0 I J)=some r:=h
 clear h
 have H':=Aside0.mk H
 clear H
 go_enter Try.func43,Try.ntmps43
 go_wp2_with (first|((with_reducible refine Qr (N:=2) rfl ?_);refine qE 2 #[.slice μ I.length ζ,.func (.func 57) #[] #[]] 74 ?_;intro aa hg w3 hbox hb;have L:=Aside0.mk hbox;have en:=sGe hg;have ew:=sGe hg;replace HB:=sHb hb;clear hb hbox hg;obtain⟨ae,ag,ah,al⟩:=qD2 L.out))
 go_loopg [10] k (fun kq am w'=>∃ (B:Int),am = .int .i64 B∧Aside0 (api_Inside_right.l0 kq D I (I.length:Int) B I J=some r)∧Aside0 (kq≤k)∧Aside0 (w'.heap[aa]?=some (.cells #[(.slice μ I.length ζ),.func (.func 57) #[] #[]] 74 (0,0)))∧Aside0 (Below w.heap.size w w'))
 case atStart=>exact⟨(0),rfl,H',⟨Nat.le_refl _⟩,L,HB⟩
 case round=>
  clear H'
  try clear p2
  try clear c4
  try clear ae
  try clear ag
  try clear ah
  try clear al
  obtain⟨B,rfl,HA,ξ,L,HB⟩:=hrel
  cases gk with
  |zero=>exact absurd HA.out (by simp[api_Inside_right.l0])
  |succ k1=>
   have H:=HA.out
   clear HA
   simp only[api_Inside_right.l0] at H
   by_cases c5:B<(I.length:Int)
   ·rw[if_pos c5] at H
    have c5b0:decide (B<(I.length:Int))=true:=decide_eq_true c5
    clear c5
    by_cases c6:0≤B
    ·rw[if_pos c6] at H
     have c6b0:decide (0≤B)=true:=decide_eq_true c6
     clear c6
     by_cases c7:B<(I.length:Int)
     ·rw[if_pos c7] at H
      have c7b0:decide (B<(I.length:Int))=true:=decide_eq_true c7
      clear c7
      have φ :=Aside0.mk H
      clear H
      have ω :0≤(B:Int):=of_decide_eq_true (by assumption)
      have a2:B<(I.length:Int):=of_decide_eq_true (by assumption)
      obtain⟨Z,ab,ν,ρ⟩:=Z8 χ.out B ω a2
      cases ab
      replace ν :=(HB.out.cell (World.block_lt_of_cell? w _ ν)).trans ν
      replace ρ:=(HB.out.cell (World.block_lt_of_cell? w _ ρ)).trans ρ
      replace ω :=eq_true ω
      replace a2:=eq_true a2
      go_upto_region 4 with(first|((with_reducible refine Qr (N:=6) rfl ?_);refine qE 6 #[.int .i64 0,.int .i64 0] 62 ?_;intro Y hg w9 hbox hb;have X:=Aside0.mk hbox;have ak:=sGe hg;have θ :=sGe hg;have τ :=sNl L hg;have ψ :=sNg L hg;replace L:=sBk L hb;replace HB:=sHb hb;clear hb hbox hg;have d2:= ψ.out;have d3:= τ.out;obtain⟨ac,af,ai,aj⟩:=qD2 X.out))
      (try simp only[Act.put,qS])
      go_cut [35] (fun b2 wc=>∃ (kq:Nat) (O:Bool),b2 = .bool O∧Aside0 (api_Inside_right.j1 kq D I (I.length:Int) B O I J=some r)∧Aside0 (kq≤k1)∧Aside0 (wc.heap[aa]?=some (.cells #[(.slice (some Z) I.length ζ),.func (.func 57) #[] #[]] 74 (0,0)))∧Aside0 (wc.heap[Y]?=some (.cells #[.int .i64 ((Qp I B).f0),.int .i64 ((Qp I B).f1)] 62 (0,0)))∧Aside0 (Below w.heap.size w wc))
      case first=>
       have H:= φ.out
       clear φ
       replace H:=Option.bind_eq_some_iff.mp H
       obtain⟨σ,ce,H⟩:=H
       replace H:(if σ=true then (if B>0 then (if 0≤(wrap64 (B-1)) then (if (wrap64 (B-1))<(I.length:Int) then ((call_ins_1.f ((Qp I (wrap64 (B-1))).f0) ((Qp I (wrap64 (B-1))).f1) ((Qp I B).f0) ((Qp I B).f1)).bind fun δ =>(api_Inside_right.j1 k1 D I (I.length:Int) B (decide (δ ≥ 0)) I J)) else (none)) else (none)) else (api_Inside_right.j1 k1 D I (I.length:Int) B false I J)) else (api_Inside_right.j1 k1 D I (I.length:Int) B true I J))=some r:=H
       have ct:=Aside0.mk ce
       clear ce
       by_cases bg:σ=true
       ·subst bg
        have H1:(if B>0 then (if 0≤(wrap64 (B-1)) then (if (wrap64 (B-1))<(I.length:Int) then ((call_ins_1.f ((Qp I (wrap64 (B-1))).f0) ((Qp I (wrap64 (B-1))).f1) ((Qp I B).f0) ((Qp I B).f1)).bind fun δ =>(api_Inside_right.j1 k1 D I (I.length:Int) B (decide (δ ≥ 0)) I J)) else (none)) else (none)) else (api_Inside_right.j1 k1 D I (I.length:Int) B false I J))=some r:=by rw[if_pos rfl] at H;exact H
        clear H
        have H:=H1
        clear H1
        by_cases az:B>0
        ·rw[if_pos az] at H
         have c14b0:decide (0<B)=true:=decide_eq_true az
         clear az
         (first|rw[c14b0]|(simp only[X5,Ys];rw[c14b0])|skip)
         obtain⟨κ,a4⟩:∃ j_:Int,(wrap64 (B-1))=j_:=⟨_,rfl⟩
         replace H:(if 0≤(κ) then (if (κ)<(I.length:Int) then ((call_ins_1.f ((Qp I (κ)).f0) ((Qp I (κ)).f1) ((Qp I B).f0) ((Qp I B).f1)).bind fun δ =>(api_Inside_right.j1 k1 D I (I.length:Int) B (decide (δ ≥ 0)) I J)) else (none)) else (none))=some r:=by first|(rw[a4] at H;exact H)|(simp only[a4] at H ⊢;exact H)
         (try rw[a4] at ct)
         have hji15w:(IntKind.i64.wrap (B-1)) = κ :=(X5 _).trans a4
         by_cases a3:0≤(κ)
         ·rw[if_pos a3] at H
          have c16b0:decide (0≤(κ))=true:=decide_eq_true a3
          clear a3
          by_cases au:(κ)<(I.length:Int)
          ·rw[if_pos au] at H
           have c17b0:decide ((κ)<(I.length:Int))=true:=decide_eq_true au
           clear au
           replace H:=Option.bind_eq_some_iff.mp H
           obtain⟨δ,cd,H⟩:=H
           replace H:(api_Inside_right.j1 k1 D I (I.length:Int) B (decide (δ ≥ 0)) I J)=some r:=H
           have dm:=Aside0.mk cd
           clear cd
           have H':=Aside0.mk H
           clear H
           try go_wp2
           have U:Aside0 (((w9.setCell ⟨Y,0,none⟩ (.int .i64 ((Qp I B).f0))).setCell ⟨Y,1,none⟩ (.int .i64 ((Qp I B).f1))).heap[aa]?=some (.cells #[.slice (some Z) I.length ζ,.func (.func 57) #[] #[]] 74 (0,0))):=⟨bka L⟩
           have γ:Aside0 (((w9.setCell ⟨Y,0,none⟩ (.int .i64 ((Qp I B).f0))).setCell ⟨Y,1,none⟩ (.int .i64 ((Qp I B).f1))).heap[Y]?=some (.cells #[.int .i64 ((Qp I B).f0),.int .i64 ((Qp I B).f1)] 62 (0,0))):=⟨by refine Qv (cs:=#[.int .i64 ((Qp I B).f0),.int .i64 0]) ?_ 1 _ rfl;refine Qv (cs:=#[.int .i64 0,.int .i64 0]) ?_ 0 _ rfl;exact X.out⟩
           have ι :Aside0 (Below w.heap.size w ((w9.setCell ⟨Y,0,none⟩ (.int .i64 ((Qp I B).f0))).setCell ⟨Y,1,none⟩ (.int .i64 ((Qp I B).f1)))):=⟨bel⟩
           (try clear L)
           (try clear X)
           (try clear HB)
           generalize((w9.setCell ⟨Y,0,none⟩ (.int .i64 ((Qp I B).f0))).setCell ⟨Y,1,none⟩ (.int .i64 ((Qp I B).f1)))=eg at U γ ι ⊢
           have L:=U
           have X:=γ
           have HB:= ι
           clear U γ ι
           replace L:=Aside0.mk (Qa L.out)
           replace X:=Aside0.mk (Qa X.out)
           replace HB:=Aside0.mk (Qf HB.out)
           have ay:0≤((κ):Int):=of_decide_eq_true (by assumption)
           have b0:(κ)<(I.length:Int):=of_decide_eq_true (by assumption)
           obtain⟨e0,e5,a8,a9⟩:=Z8 χ.out (κ) ay b0
           have ε :=a9
           have η :=a8
           obtain rfl:Z=e0:=(by injection e5)
           replace a8:=(HB.out.cell (World.block_lt_of_cell? w _ a8)).trans a8
           replace a9:=(HB.out.cell (World.block_lt_of_cell? w _ a9)).trans a9
           replace ay:=eq_true ay
           replace b0:=eq_true b0
           refine Zn (n:=21) (S:=fun w'=>w'.cell? ⟨Y,0,none⟩=some (.int .i64 ((Qp I B).f0))∧w'.cell? ⟨Y,1,none⟩=some (.int .i64 ((Qp I B).f1))∧w'.cell? ⟨aa,0,none⟩=some (.slice (some Z) I.length ζ)∧w'.cell? ⟨aa,1,none⟩=some (.func (.func 57) #[] #[])∧w'.cell? (Z.add (((κ)).toNat * 2))=some (.int .i64 ((Qp I (κ)).f0))∧w'.cell? ⟨(Z.add (((κ)).toNat * 2)).block,(Z.add (((κ)).toNat * 2)).off+1,none⟩=some (.int .i64 ((Qp I (κ)).f1))) (ds:=[]) #[false,false,false,false,false,false,false,false,false,false,false,false,false,false,false,false,false,false,false,false,false] kr rfl rfl ⟨(Ql X.out 0).trans rfl,(Ql X.out 1).trans rfl,(Ql L.out 0).trans rfl,(Ql L.out 1).trans rfl,((HB.out.cell (World.block_lt_of_cell? w _ η)).trans η),((HB.out.cell (World.block_lt_of_cell? w _ ε)).trans ε)⟩ (fun hHeld=>?_);refine Q8 api_Inside_right.Gn api_Inside_right.J1 (fun HT_ HW_=>?_)
           generalize eg.drew=dp at L X HB a8 a9 hHeld ⊢
           refine qP 0 (some 15) (bN 21 1) HT_ ?_
           refine qT 1 (some 16) (bN 21 3) HT_ HW_ hHeld ?_
           refine Zg (i:=2) (N:=some 17) (bN 21 7) rfl rfl (Q1 HT_.out kr) (by decide) (fun K hK=>?_)
           refine Xm Try.func50 kr rfl #[] #[.pointer (some ⟨gh_,0,none⟩)] #[.agg #[.int .i64 ((Qp I B).f0),.int .i64 ((Qp I B).f1)]] #[.agg #[.int .i64 ((Qp I B).f0),.int .i64 ((Qp I B).f1)],.pointer (some ⟨gh_,0,none⟩)] rfl (by rfl) rfl rfl rfl qM ?_
           with_reducible refine(call_inside_1.calls ((Qp I B).f0) ((Qp I B).f1) D true _ ct.out gh_ (Zt HCH.out (by repeat(first|(with_reducible first|exact HB.out|apply Qh|apply Qb|apply Qf)|exact HB.out|(refine Qc ?_ (Aside0.out (by assumption))))))).mono ?_
           rintro e bo ⟨rfl,hb⟩
           refine⟨_,rfl, ?_⟩
           replace L:=sBk L hb
           replace X:=sBk X hb
           replace HB:=sHb hb
           (try clear hb)
           (try clear a0)
           (try clear hk)
           (try clear hi)
           refine hK.out _ _ ⟨qc X,qc X,qc L,qc L,((HB.out.cell (World.block_lt_of_cell? w _ η)).trans η),((HB.out.cell (World.block_lt_of_cell? w _ ε)).trans ε)⟩ (fun hHeld=>?_)
           clear hK K
           refine qN (some 17) ?_
           refine qP 3 (some 18) (bN 21 15) HT_ ?_
           refine qP 4 (some 19) (bN 21 31) HT_ ?_
           refine qP 5 (some 20) (bN 21 63) HT_ ?_
           refine qP 6 (some 21) (bN 21 127) HT_ ?_
           refine qP 7 (some 22) (bN 21 255) HT_ ?_
           refine qP 8 (some 23) (bN 21 511) HT_ ?_
           refine qP 10 (some 25) (bN 21 1535) HT_ ?_
           refine qP 12 (some 27) (bN 21 5631) HT_ ?_
           refine qP 13 (some 28) (bN 21 13823) HT_ ?_
           refine qT 9 (some 24) (bN 21 14335) HT_ HW_ hHeld ?_
           refine qT 11 (some 26) (bN 21 16383) HT_ HW_ hHeld ?_
           refine qP 14 (some 29) (bN 21 32767) HT_ ?_
           refine qT 15 (some 30) (bN 21 65535) HT_ HW_ hHeld ?_
           refine qT 16 (some 31) (bN 21 131071) HT_ HW_ hHeld ?_
           refine Zg (i:=17) (N:=some 32) (bN 21 262143) rfl rfl (Q1 HT_.out kr) (by decide) (fun K hK=>?_)
           refine Xm Try.func57 kr rfl #[] #[] #[.agg #[.int .i64 ((Qp I (κ)).f0),.int .i64 ((Qp I (κ)).f1)],.agg #[.int .i64 ((Qp I B).f0),.int .i64 ((Qp I B).f1)]] #[.agg #[.int .i64 ((Qp I (κ)).f0),.int .i64 ((Qp I (κ)).f1)],.agg #[.int .i64 ((Qp I B).f0),.int .i64 ((Qp I B).f1)]] rfl (by rfl) rfl rfl rfl (by(try simp only[List.map_toArray,List.map_cons,List.map_nil]);first|done|(simp only[a4];rfl)|rfl|(simp only[List.length_drop,List.length_take];rfl)) ?_
           with_reducible refine(call_ins_1.calls ((Qp I (κ)).f0) ((Qp I (κ)).f1) ((Qp I B).f0) ((Qp I B).f1) δ _ dm.out).mono ?_
           rintro e du ⟨rfl,hb⟩
           refine⟨_,rfl, ?_⟩
           replace L:=sBk L hb
           replace X:=sBk X hb
           replace HB:=sHb hb
           (try clear hb)
           (try clear a0)
           (try clear hk)
           (try clear hi)
           refine hK.out _ _ ⟨qc X,qc X,qc L,qc L,((HB.out.cell (World.block_lt_of_cell? w _ η)).trans η),((HB.out.cell (World.block_lt_of_cell? w _ ε)).trans ε)⟩ (fun hHeld=>?_)
           clear hK K
           refine qN (some 32) ?_
           refine qP 18 (some 33) (bN 21 524287) HT_ ?_
           refine qP 19 (some 34) (bN 21 1048575) HT_ ?_
           refine qP 20 (some 35) (bN 21 2097151) HT_ ?_
           refine Zu (Zj HT_.out kr) ?_
           try go_wp2
           go_meet
           case rel=>exact⟨_,(decide (δ ≥ 0)),rfl,H',⟨by have:= ξ.out;omega⟩,L,X,HB⟩
          ·rw[if_neg au] at H
           exact absurd H (by simp)
         ·rw[if_neg a3] at H
          exact absurd H (by simp)
        ·rw[if_neg az] at H
         have c14b0:decide (0<B)=false:=decide_eq_false az
         clear az
         (first|rw[c14b0]|(simp only[X5,Ys];rw[c14b0])|skip)
         have H':=Aside0.mk H
         clear H
         try go_wp2
         have U:Aside0 (((w9.setCell ⟨Y,0,none⟩ (.int .i64 ((Qp I B).f0))).setCell ⟨Y,1,none⟩ (.int .i64 ((Qp I B).f1))).heap[aa]?=some (.cells #[.slice (some Z) I.length ζ,.func (.func 57) #[] #[]] 74 (0,0))):=⟨bka L⟩
         have γ:Aside0 (((w9.setCell ⟨Y,0,none⟩ (.int .i64 ((Qp I B).f0))).setCell ⟨Y,1,none⟩ (.int .i64 ((Qp I B).f1))).heap[Y]?=some (.cells #[.int .i64 ((Qp I B).f0),.int .i64 ((Qp I B).f1)] 62 (0,0))):=⟨by refine Qv (cs:=#[.int .i64 ((Qp I B).f0),.int .i64 0]) ?_ 1 _ rfl;refine Qv (cs:=#[.int .i64 0,.int .i64 0]) ?_ 0 _ rfl;exact X.out⟩
         have ι :Aside0 (Below w.heap.size w ((w9.setCell ⟨Y,0,none⟩ (.int .i64 ((Qp I B).f0))).setCell ⟨Y,1,none⟩ (.int .i64 ((Qp I B).f1)))):=⟨bel⟩
         (try clear L)
         (try clear X)
         (try clear HB)
         generalize((w9.setCell ⟨Y,0,none⟩ (.int .i64 ((Qp I B).f0))).setCell ⟨Y,1,none⟩ (.int .i64 ((Qp I B).f1)))=dq at U γ ι ⊢
         have L:=U
         have X:=γ
         have HB:= ι
         clear U γ ι
         replace L:=Aside0.mk (Qa L.out)
         replace X:=Aside0.mk (Qa X.out)
         replace HB:=Aside0.mk (Qf HB.out)
         refine Zn (n:=21) (S:=fun w'=>w'.cell? ⟨Y,0,none⟩=some (.int .i64 ((Qp I B).f0))∧w'.cell? ⟨Y,1,none⟩=some (.int .i64 ((Qp I B).f1))) (ds:=[]) #[false,false,false,false,false,false,false,false,false,false,false,false,false,false,false,false,false,false,false,false,false] kr rfl rfl ⟨(Ql X.out 0).trans rfl,(Ql X.out 1).trans rfl⟩ (fun hHeld=>?_);refine Q8 api_Inside_right.Gn api_Inside_right.J1 (fun HT_ HW_=>?_)
         generalize dq.drew=bu at L X HB hHeld ⊢
         refine qP 0 (some 15) (bN 21 1) HT_ ?_
         refine qT 1 (some 16) (bN 21 3) HT_ HW_ hHeld ?_
         refine Zg (i:=2) (N:=some 17) (bN 21 7) rfl rfl (Q1 HT_.out kr) (by decide) (fun K hK=>?_)
         refine Xm Try.func50 kr rfl #[] #[.pointer (some ⟨gh_,0,none⟩)] #[.agg #[.int .i64 ((Qp I B).f0),.int .i64 ((Qp I B).f1)]] #[.agg #[.int .i64 ((Qp I B).f0),.int .i64 ((Qp I B).f1)],.pointer (some ⟨gh_,0,none⟩)] rfl (by rfl) rfl rfl rfl qM ?_
         with_reducible refine(call_inside_1.calls ((Qp I B).f0) ((Qp I B).f1) D true _ ct.out gh_ (Zt HCH.out (by repeat(first|(with_reducible first|exact HB.out|apply Qh|apply Qb|apply Qf)|exact HB.out|(refine Qc ?_ (Aside0.out (by assumption))))))).mono ?_
         rintro e ci ⟨rfl,hb⟩
         refine⟨_,rfl, ?_⟩
         replace L:=sBk L hb
         replace X:=sBk X hb
         replace HB:=sHb hb
         (try clear hb)
         (try clear a0)
         (try clear hk)
         (try clear hi)
         refine hK.out _ _ ⟨qc X,qc X⟩ (fun hHeld=>?_)
         clear hK K
         refine qN (some 17) ?_
         refine qP 3 (some 18) (bN 21 15) HT_ ?_
         refine qP 4 (some 19) (bN 21 31) HT_ ?_
         refine qP 5 (some 20) (bN 21 63) HT_ ?_
         refine qP 6 (some 21) (bN 21 127) HT_ ?_
         refine qP 7 (some 22) (bN 21 255) HT_ ?_
         refine qU 8 (some 23) (bN 21 511) HT_ ?_
         refine qU 9 (some 24) (bN 21 1023) HT_ ?_
         refine qU 10 (some 25) (bN 21 2047) HT_ ?_
         refine qU 11 (some 26) (bN 21 4095) HT_ ?_
         refine qU 12 (some 27) (bN 21 8191) HT_ ?_
         refine qU 13 (some 28) (bN 21 16383) HT_ ?_
         refine qU 14 (some 29) (bN 21 32767) HT_ ?_
         refine qU 15 (some 30) (bN 21 65535) HT_ ?_
         refine qU 16 (some 31) (bN 21 131071) HT_ ?_
         refine qU 17 (some 32) (bN 21 262143) HT_ ?_
         refine qU 18 (some 33) (bN 21 524287) HT_ ?_
         refine qP 19 (some 34) (bN 21 1048575) HT_ ?_
         refine qP 20 (some 35) (bN 21 2097151) HT_ ?_
         refine Zu (Zj HT_.out kr) ?_
         try go_wp2
         go_meet
         case rel=>exact⟨_,(false),rfl,H',⟨by have:= ξ.out;omega⟩,L,X,HB⟩
       ·replace bg:=Bool.eq_false_iff.mpr bg
        subst bg
        have H1:(api_Inside_right.j1 k1 D I (I.length:Int) B true I J)=some r:=by rw[if_neg (show ¬ (false=true) by decide)] at H;exact H
        clear H
        have H:=H1
        clear H1
        have H':=Aside0.mk H
        clear H
        try go_wp2
        have U:Aside0 (((w9.setCell ⟨Y,0,none⟩ (.int .i64 ((Qp I B).f0))).setCell ⟨Y,1,none⟩ (.int .i64 ((Qp I B).f1))).heap[aa]?=some (.cells #[.slice (some Z) I.length ζ,.func (.func 57) #[] #[]] 74 (0,0))):=⟨bka L⟩
        have γ:Aside0 (((w9.setCell ⟨Y,0,none⟩ (.int .i64 ((Qp I B).f0))).setCell ⟨Y,1,none⟩ (.int .i64 ((Qp I B).f1))).heap[Y]?=some (.cells #[.int .i64 ((Qp I B).f0),.int .i64 ((Qp I B).f1)] 62 (0,0))):=⟨by refine Qv (cs:=#[.int .i64 ((Qp I B).f0),.int .i64 0]) ?_ 1 _ rfl;refine Qv (cs:=#[.int .i64 0,.int .i64 0]) ?_ 0 _ rfl;exact X.out⟩
        have ι :Aside0 (Below w.heap.size w ((w9.setCell ⟨Y,0,none⟩ (.int .i64 ((Qp I B).f0))).setCell ⟨Y,1,none⟩ (.int .i64 ((Qp I B).f1)))):=⟨bel⟩
        (try clear L)
        (try clear X)
        (try clear HB)
        generalize((w9.setCell ⟨Y,0,none⟩ (.int .i64 ((Qp I B).f0))).setCell ⟨Y,1,none⟩ (.int .i64 ((Qp I B).f1)))=bp at U γ ι ⊢
        have L:=U
        have X:=γ
        have HB:= ι
        clear U γ ι
        replace L:=Aside0.mk (Qa L.out)
        replace X:=Aside0.mk (Qa X.out)
        replace HB:=Aside0.mk (Qf HB.out)
        refine Zn (n:=21) (S:=fun w'=>w'.cell? ⟨Y,0,none⟩=some (.int .i64 ((Qp I B).f0))∧w'.cell? ⟨Y,1,none⟩=some (.int .i64 ((Qp I B).f1))) (ds:=[]) #[false,false,false,false,false,false,false,false,false,false,false,false,false,false,false,false,false,false,false,false,false] kr rfl rfl ⟨(Ql X.out 0).trans rfl,(Ql X.out 1).trans rfl⟩ (fun hHeld=>?_);refine Q8 api_Inside_right.Gn api_Inside_right.J1 (fun HT_ HW_=>?_)
        generalize bp.drew=ez at L X HB hHeld ⊢
        refine qP 0 (some 15) (bN 21 1) HT_ ?_
        refine qT 1 (some 16) (bN 21 3) HT_ HW_ hHeld ?_
        refine Zg (i:=2) (N:=some 17) (bN 21 7) rfl rfl (Q1 HT_.out kr) (by decide) (fun K hK=>?_)
        refine Xm Try.func50 kr rfl #[] #[.pointer (some ⟨gh_,0,none⟩)] #[.agg #[.int .i64 ((Qp I B).f0),.int .i64 ((Qp I B).f1)]] #[.agg #[.int .i64 ((Qp I B).f0),.int .i64 ((Qp I B).f1)],.pointer (some ⟨gh_,0,none⟩)] rfl (by rfl) rfl rfl rfl qM ?_
        with_reducible refine(call_inside_1.calls ((Qp I B).f0) ((Qp I B).f1) D false _ ct.out gh_ (Zt HCH.out (by repeat(first|(with_reducible first|exact HB.out|apply Qh|apply Qb|apply Qf)|exact HB.out|(refine Qc ?_ (Aside0.out (by assumption))))))).mono ?_
        rintro e ft ⟨rfl,hb⟩
        refine⟨_,rfl, ?_⟩
        replace L:=sBk L hb
        replace X:=sBk X hb
        replace HB:=sHb hb
        (try clear hb)
        (try clear a0)
        (try clear hk)
        (try clear hi)
        refine hK.out _ _ ⟨qc X,qc X⟩ (fun hHeld=>?_)
        clear hK K
        refine qN (some 17) ?_
        refine qP 3 (some 18) (bN 21 15) HT_ ?_
        refine qP 4 (some 19) (bN 21 31) HT_ ?_
        refine qU 5 (some 20) (bN 21 63) HT_ ?_
        refine qU 6 (some 21) (bN 21 127) HT_ ?_
        refine qU 7 (some 22) (bN 21 255) HT_ ?_
        refine qU 8 (some 23) (bN 21 511) HT_ ?_
        refine qU 9 (some 24) (bN 21 1023) HT_ ?_
        refine qU 10 (some 25) (bN 21 2047) HT_ ?_
        refine qU 11 (some 26) (bN 21 4095) HT_ ?_
        refine qU 12 (some 27) (bN 21 8191) HT_ ?_
        refine qU 13 (some 28) (bN 21 16383) HT_ ?_
        refine qU 14 (some 29) (bN 21 32767) HT_ ?_
        refine qU 15 (some 30) (bN 21 65535) HT_ ?_
        refine qU 16 (some 31) (bN 21 131071) HT_ ?_
        refine qU 17 (some 32) (bN 21 262143) HT_ ?_
        refine qU 18 (some 33) (bN 21 524287) HT_ ?_
        refine qU 19 (some 34) (bN 21 1048575) HT_ ?_
        refine qP 20 (some 35) (bN 21 2097151) HT_ ?_
        refine Zu (Zj HT_.out kr) ?_
        try go_wp2
        go_meet
        case rel=>exact⟨_,(true),rfl,H',⟨by have:= ξ.out;omega⟩,L,X,HB⟩
      case rest=>
       clear φ
       try clear c1
       try clear p1
       try clear q1
       try clear bl
       try clear p2
       try clear c5
       try clear mx
       try clear my
       try clear kb
       try clear bg
       try clear az
       try clear c14b0
       try clear a3
       try clear c16b0
       try clear au
       try clear c17b0
       try clear a8
       try clear a9
       try clear ay
       try clear b0
       obtain⟨kq,O,rfl,HA,ax,L,X,HB⟩:=hcut
       cases kq with
       |zero=>exact absurd HA.out (by simp[api_Inside_right.j1])
       |succ b1=>
        have H:=HA.out
        clear HA
        simp only[api_Inside_right.j1] at H
        by_cases cf:O=true
        ·subst cf
         have H1:(some false)=some r:=by rw[if_pos rfl] at H;exact H
         clear H
         have H:=H1
         clear H1
         obtain rfl:=Option.some.inj H
         go_wp2
         go_ret
         exact⟨rfl,HB.out⟩
        ·replace cf:=Bool.eq_false_iff.mpr cf
         subst cf
         have H1:(api_Inside_right.l0 b1 D I (I.length:Int) (wrap64 (B+1)) I J)=some r:=by rw[if_neg (show ¬ (false=true) by decide)] at H;exact H
         clear H
         have H:=H1
         clear H1
         have H':=Aside0.mk H
         clear H
         go_wp2
         go_roundg b1
         case measure=>have:= ξ.out;have:=ax.out;omega
         case rel=>exact⟨(wrap64 (B+1)),rfl,H',⟨by have:= ξ.out;have:=ax.out;omega⟩,L,HB⟩
     ·rw[if_neg c7] at H
      exact absurd H (by simp)
    ·rw[if_neg c6] at H
     exact absurd H (by simp)
   ·rw[if_neg c5] at H
    have c5b0:decide (B<(I.length:Int))=false:=decide_eq_false c5
    clear c5
    obtain rfl:=Option.some.inj H
    go_wp2
    go_ret
    exact⟨rfl,HB.out⟩
end Go.Proofs.Ytjehhhlhalkieaa.C
namespace Go.Proofs.Ytjehhhlhalkieaa.Call
open Go.RowKit Go.Proofs.YtjehhhlhalkieaaW.PrintWords Go.Proofs.YtjehhhlhalkieaaW.PrintLast Go.Proofs.YtjehhhlhalkieaaW.PrintMore Go.Proofs.Ytjehhhlhalkieaa.C
set_option linter.unusedVariables false
set_option linter.unusedSimpArgs false
theorem Vu (a b:Int):Vw a b<0↔a<b:=by unfold Vw;split <;> (try split) <;> omega
theorem Vv (a b:Int):Vw a b=0↔a=b:=by unfold Vw;split <;> (try split) <;> omega
theorem X3 (a b c d:Int):Z7 a b c d<0↔(a<c∨(a=c∧b<d)):=by
  unfold Z7
  have h1:=Vu a c
  have O:=Vv a c
  have D:=Vu b d
  split <;> omega
theorem Ym (a b c d:Int):Z7 a b c d=0↔(a=c∧b=d):=by
  unfold Z7
  have h1:=Vu a c
  have O:=Vv a c
  have D:=Vv b d
  split <;> omega
def Va {α:Type} (q:α→Bool):Nat→List α→Int
  |_,[]=> -1
  |i,x :: l=>if q x=true then (i:Int) else Va q (i+1) l
theorem Vg {α:Type} (q:α→Bool) (l:List α):∀ i:Nat,(Va q i l = -1 ∧ ∀ x ∈ l,q x=false) ∨ ∃ k:Nat,∃ h:k<l.length,Va q i l=((i+k:Nat):Int)∧q l[k]=true ∧ ∀ x ∈ l.take k,q x=false:=by
  induction l with
  |nil=>intro i;exact .inl ⟨rfl,by simp⟩
  |cons x l ih=>
    intro i
    simp only[Va]
    by_cases h:q x=true
    · rw[if_pos h]
      exact .inr ⟨0,by simp,by simp,by simpa using h,by simp⟩
    · rw[if_neg h]
      have hf:q x=false:=by simpa using h
      rcases ih (i+1) with⟨e,ha⟩|⟨k,hk,e,ht,ha⟩
      · refine .inl ⟨e,fun y hy=>?_⟩
        rcases List.mem_cons.1 hy with rfl|hy
        · exact hf
        · exact ha y hy
      · refine .inr ⟨k+1,by simpa using hk,by rw[e];congr 1;omega,by simpa using ht,fun y hy=>?_⟩
        rw[List.take_succ_cons] at hy
        rcases List.mem_cons.1 hy with rfl|hy
        · exact hf
        · exact ha y hy
def Zo {α:Type} (may:α→Bool) (lt:α→α→Bool):Option α→List α→Bool
  |_,[]=>true
  |none,x :: l=>may x&&Zo may lt (some x) l
  |some p,x :: l=>(may x&&lt p x)&&Zo may lt (some x) l
abbrev qH (D:Int) (x:S56):Bool:=Z7 (X7 D) (X6 D) x.f0 x.f1==0
def ltH (x y:S56):Bool:=decide (Z7 x.f0 x.f1 y.f0 y.f1<0)
theorem Yu (x y:S56):ltH x y=true↔(x.f0<y.f0∨(x.f0=y.f0∧x.f1<y.f1)):=by
  unfold ltH
  rw[decide_eq_true_iff,X3]
theorem Wy {x y z:S56} (h1:ltH x y=true) (O:ltH y z=true):ltH x z=true:=by
  rw[Yu] at *
  omega
theorem Yj (l:List S56) (i:Nat) (h:i<l.length):Qg l (i:Int)=l[i]:=by
  unfold Qg
  rw[Int.toNat_natCast,List.getD_eq_getElem?_getD,List.getElem?_eq_getElem h]
  rfl
theorem W4 (l:List S56) (D:Int) (hm:l.length≤1000000000) (j:Nat):∀ (f i:Nat),i+j=l.length→j<f→api_Hall_67.l0 f l D (l.length:Int) (i:Int)=some (Va (qH D) i (l.drop i)):=by
  induction j with
  |zero=>
    intro f i hi hf
    obtain⟨f,rfl⟩:∃ m,f=m+1:=⟨f-1,by omega⟩
    simp only[api_Hall_67.l0]
    rw[if_neg (by omega),List.drop_of_length_le (by omega)]
    rfl
  |succ j ih=>
    intro f i hi hf
    obtain⟨f,rfl⟩:∃ m,f=m+1:=⟨f-1,by omega⟩
    have ha:i<l.length:=by omega
    have ei:wrap64 ((i:Int)+1)=((i+1:Nat):Int):=by unfold wrap64;omega
    simp only[api_Hall_67.l0]
    rw[if_pos (by omega),if_pos (by omega),if_pos (by omega),Yj l i ha,ei,ih f (i+1) (by omega) (by omega)]
    unfold api_Hall_without_1.f
    simp only[Option.bind_some]
    rw[List.drop_eq_getElem_cons ha]
    simp only[Va]
    by_cases h:qH D l[i]=true
    · rw[if_pos h,if_pos h]
    · rw[if_neg h,if_neg h]
theorem Mz (l:List S56) (D:Int) (hm:l.length≤1000000000) (k:Nat) (hk:l.length<k):api_Hall_67.f k l D=some (Va (qH D) 0 l):=by
  unfold api_Hall_67.f
  have:=W4 l D hm l.length k 0 (by omega) hk
  simpa using this
theorem W7 (l:List S56) (D:Int) (hm:l.length≤1000000000) (j:Nat):∀ (f:Nat) (x:List S56) (i m:Nat),x.length=l.length→m+j=l.length→i≤m→j<f→x.drop m=l.drop m→x.take i=(l.take m).filter (fun y=> !qH D y) →
    api_Hall_54.l0 f x D (i:Int) (m:Int)=some (l.filter (fun y=> !qH D y)):=by
  induction j with
  |zero=>
    intro f x i m hx hj him hf hd ht
    obtain⟨f,rfl⟩:∃ m,f=m+1:=⟨f-1,by omega⟩
    simp only[api_Hall_54.l0]
    rw[if_neg (by omega),if_pos (by omega),if_pos (by omega),Int.toNat_natCast,ht,List.take_of_length_le (by omega)]
  |succ j ih=>
    intro f x i m hx hj him hf hd ht
    obtain⟨f,rfl⟩:∃ m,f=m+1:=⟨f-1,by omega⟩
    have ha:m<l.length:=by omega
    have hax:m<x.length:=by omega
    have em:wrap64 ((m:Int)+1)=((m+1:Nat):Int):=by unfold wrap64;omega
    have ei:wrap64 ((i:Int)+1)=((i+1:Nat):Int):=by unfold wrap64;omega
    have hxm:x[m]=l[m]:=by
      have h1:=List.drop_eq_getElem_cons hax
      have O:=List.drop_eq_getElem_cons ha
      rw[hd,O] at h1
      exact(List.cons.inj h1).1.symm
    have B:x.drop (m+1)=l.drop (m+1):=by
      have h1:=List.drop_eq_getElem_cons hax
      have O:=List.drop_eq_getElem_cons ha
      rw[hd,O] at h1
      exact(List.cons.inj h1).2.symm
    have I:(l.take (m+1)).filter (fun y=> !qH D y)=(l.take m).filter (fun y=> !qH D y) ++ [l[m]].filter (fun y=> !qH D y):=by
      rw[List.take_succ_eq_append_getElem ha,List.filter_append]
    simp only[api_Hall_54.l0]
    rw[if_pos (by omega),if_pos (by omega),Yj x m hax,hxm,em,ei]
    unfold api_Hall_without_1.f
    simp only[Option.bind_some]
    by_cases h:qH D l[m]=true
    · rw[if_pos h]
      refine ih f x i (m+1) hx (by omega) (by omega) (by omega) B ?_
      rw[I,ht]
      simp only[List.filter_cons,List.filter_nil]
      rw[if_neg (by rw[h];decide),List.append_nil]
    · have hf':qH D l[m]=false:=by simpa using h
      rw[if_neg h,if_pos (by omega),if_pos (by omega),Int.toNat_natCast]
      refine ih f (x.set i _) (i+1) (m+1) (by rw[List.length_set];exact hx) (by omega) (by omega) (by omega) ?_ ?_
      · rw[List.drop_set_of_lt (by omega)]
        exact B
      · rw[I]
        simp only[List.filter_cons,List.filter_nil]
        rw[if_pos (by rw[hf'];rfl),List.take_succ_eq_append_getElem (by rw[List.length_set];omega),List.getElem_set_self,List.take_set_of_le (by omega),ht]
theorem M3 (l:List S56) (D:Int) (hm:l.length≤1000000000) (k:Nat) (hk:l.length+5<k):api_Hall_54.f k l D=some (l.filter (fun y=> !qH D y)):=by
  unfold api_Hall_54.f
  rw[Mz l D hm k (by omega)]
  simp only[Option.bind_some]
  rcases Vg (qH D) l 0 with⟨e,ha⟩|⟨i,hi,e,ht,ha⟩
  · rw[e,if_pos rfl]
    congr 1
    exact(List.filter_eq_self.2 (fun y hy=>by rw[ha y hy];rfl)).symm
  · rw[e,Nat.zero_add,if_neg (by omega)]
    have ei:wrap64 ((i:Int)+1)=((i+1:Nat):Int):=by unfold wrap64;omega
    rw[ei]
    refine W7 l D hm (l.length - (i+1)) k l i (i+1) rfl (by omega) (by omega) (by omega) rfl ?_
    rw[List.take_succ_eq_append_getElem hi,List.filter_append]
    simp only[List.filter_cons,List.filter_nil]
    rw[if_neg (by rw[ht];decide),List.append_nil]
    exact(List.filter_eq_self.2 (fun y hy=>by rw[ha y hy];rfl)).symm
def G1 (l:List S56) (J L:Int) (p:Nat):Prop:=p≤l.length∧(∀ y ∈ l.take p,Z7 y.f0 y.f1 J L<0)∧(∀ y ∈ l.drop p,¬ Z7 y.f0 y.f1 J L<0)
def Kx (l:List S56) (J L:Int) (p:Nat):Bool:=match l[p]? with|some y=>Z7 y.f0 y.f1 J L==0|none=>false
theorem Vn (l:List S56) (J L X:Int) (hm:l.length≤1000000000) (hs:l.Pairwise (fun x y=>ltH x y=true)) (d:Nat):∀ (f i j:Nat),j-i≤d→i≤j→j≤l.length→d<f→(∀ y ∈ l.take i,Z7 y.f0 y.f1 J L<0)→(∀ y ∈ l.drop j,¬ Z7 y.f0 y.f1 J L<0) →
    ∃ p,G1 l J L p∧api_Hall_62.l0 f l (l.length:Int) (i:Int) (j:Int) J L X=some ((p:Int),Kx l J L p):=by
  have stop:∀ (f i:Nat),0<f→i≤l.length→(∀ y ∈ l.take i,Z7 y.f0 y.f1 J L<0)→(∀ y ∈ l.drop i,¬ Z7 y.f0 y.f1 J L<0) → ∃ p,G1 l J L p∧api_Hall_62.l0 f l (l.length:Int) (i:Int) (i:Int) J L X=some ((p:Int),Kx l J L p):=by
    intro f i hf hi h1 O
    obtain⟨f,rfl⟩:∃ m,f=m+1:=⟨f-1,by omega⟩
    refine⟨i,⟨hi,h1,O⟩, ?_⟩
    simp only[api_Hall_62.l0]
    unfold Kx
    rw[if_neg (by omega)]
    by_cases h:i<l.length
    · rw[if_pos (by omega),if_pos (by omega),if_pos (by omega),Yj l i h,List.getElem?_eq_getElem h]
      rfl
    · rw[if_neg (by omega),List.getElem?_eq_none (by omega)]
  induction d with
  |zero=>
    intro f i j hd hij hj hf h1 O
    obtain rfl:i=j:=by omega
    exact stop f i hf hj h1 O
  |succ d ih=>
    intro f i j hd hij hj hf h1 O
    by_cases he:i=j
    · subst he
      exact stop f i (by omega) hj h1 O
    · obtain⟨f,rfl⟩:∃ m,f=m+1:=⟨f-1,by omega⟩
      have hmid:wrap64 ((IntKind.u64.wrap (wrap64 ((i:Int)+(j:Int)))) / 2)=(((i+j) / 2:Nat):Int):=by
        rw[show wrap64 ((i:Int)+(j:Int))=(i:Int)+(j:Int) from by unfold wrap64;omega,IntKind.wrap_u64]
        unfold wrap64;omega
      have Y:wrap64 ((((i+j) / 2:Nat):Int)+1)=(((i+j) / 2+1:Nat):Int):=by unfold wrap64;omega
      simp only[api_Hall_62.l0]
      rw[if_pos (by omega),hmid]
      have hh:(i+j) / 2<l.length:=by omega
      generalize hg:(i+j) / 2=h at *
      rw[if_pos (by omega),if_pos (by omega),Yj l h hh,Y]
      unfold call_halls_1.f
      simp only[Option.bind_some]
      have hlt:∀ m:Nat,(hm:m<h)→Z7 (l[m]'(by omega)).f0 (l[m]'(by omega)).f1 l[h].f0 l[h].f1<0:=by
        intro m hm
        have:=List.pairwise_iff_getElem.1 hs m h (by omega) hh hm
        exact of_decide_eq_true this
      have hgt:∀ m:Nat,h<m→(hm:m<l.length)→Z7 l[h].f0 l[h].f1 l[m].f0 l[m].f1<0:=by
        intro m hm hml
        have:=List.pairwise_iff_getElem.1 hs h m hh hml hm
        exact of_decide_eq_true this
      by_cases hc:Z7 l[h].f0 l[h].f1 J L<0
      · rw[if_pos hc]
        refine ih f (h+1) j (by omega) (by omega) hj (by omega) ?_ O
        intro y hy
        obtain⟨m,hm,rfl⟩:=List.mem_iff_getElem.1 hy
        rw[List.length_take] at hm
        rw[List.getElem_take]
        by_cases hmh:m=h
        · subst hmh;exact hc
        · have D:=hlt m (by omega)
          rw[X3] at *
          omega
      · rw[if_neg hc]
        refine ih f i h (by omega) (by omega) (by omega) (by omega) h1 ?_
        intro y hy
        obtain⟨m,hm,rfl⟩:=List.mem_iff_getElem.1 hy
        rw[List.length_drop] at hm
        rw[List.getElem_drop]
        by_cases hmh:m=0
        · subst hmh;simpa using hc
        · have D:=hgt (h+m) (by omega) (by omega)
          rw[X3] at *
          omega
theorem Gq (l:List S56) (J L X:Int) (a2:Int) (hm:l.length≤1000000000) (hs:l.Pairwise (fun x y=>ltH x y=true)) (k:Nat) (hk:l.length<k):
    ∃ p,G1 l J L p∧api_Hall_62.f k l J L X a2=some ((p:Int),Kx l J L p):=by
  unfold api_Hall_62.f
  have:=Vn l J L X hm hs l.length k 0 l.length (by omega) (by omega) (by omega) hk (by simp) (by simp)
  simpa using this
theorem V9 (l:List S56) (D tok_:Int) (hm:l.length≤1000000000) (j:Nat):∀ (f i:Nat),i+j=l.length→2 * j<f→api_Hall_right.l0 f D l (l.length:Int) (i:Int) l tok_=some (Zo (fun x=>Xp (X7 D) (X6 D) x.f0 x.f1 x.f2) ltH (if i=0 then none else l[i-1]?) (l.drop i)):=by
  induction j with
  |zero=>
    intro f i hi hf
    obtain⟨f,rfl⟩:∃ m,f=m+1:=⟨f-1,by omega⟩
    simp only[api_Hall_right.l0]
    rw[if_neg (by omega),List.drop_of_length_le (by omega)]
    cases(if i=0 then none else l[i-1]?) <;> rfl
  |succ j ih=>
    intro f i hi hf
    obtain⟨f,rfl⟩:∃ m,f=m+2:=⟨f-2,by omega⟩
    have ha:i<l.length:=by omega
    have ei:wrap64 ((i:Int)+1)=((i+1:Nat):Int):=by unfold wrap64;omega
    have jt:api_Hall_right.j1 (f+1) D l (l.length:Int) (i:Int) true l tok_=some false:=by simp[api_Hall_right.j1]
    have jf:api_Hall_right.j1 (f+1) D l (l.length:Int) (i:Int) false l tok_=some (Zo (fun x=>Xp (X7 D) (X6 D) x.f0 x.f1 x.f2) ltH (some l[i]) (l.drop (i+1))):=by
      simp only[api_Hall_right.j1]
      rw[if_neg (by decide),ei,ih f (i+1) (by omega) (by omega),if_neg (by omega),Nat.add_sub_cancel,List.getElem?_eq_getElem ha]
    simp only[api_Hall_right.l0]
    rw[if_pos (by omega),if_pos (by omega),if_pos (by omega),Yj l i ha]
    unfold call_hall_1.f
    simp only[Option.bind_some]
    rw[List.drop_eq_getElem_cons ha]
    by_cases h1:Xp (X7 D) (X6 D) l[i].f0 l[i].f1 l[i].f2=true
    · rw[if_pos h1]
      by_cases U:i=0
      · subst U
        rw[if_neg (by omega),if_pos rfl,jf]
        simp only[Zo,h1,Bool.true_and]
      · have ep:wrap64 ((i:Int)-1)=((i-1:Nat):Int):=by unfold wrap64;omega
        rw[if_pos (by omega),ep,if_pos (by omega),if_pos (by omega),Yj l (i-1) (by omega),if_neg U,List.getElem?_eq_getElem (by omega)]
        unfold call_halls_1.f
        simp only[Option.bind_some]
        simp only[Zo,h1,Bool.true_and]
        unfold ltH
        by_cases hc:Z7 (l[i-1]'(by omega)).f0 (l[i-1]'(by omega)).f1 l[i].f0 l[i].f1<0
        · rw[decide_eq_false (by omega),decide_eq_true hc,jf,Bool.true_and]
          rfl
        · rw[decide_eq_true (by omega),decide_eq_false hc,jt,Bool.false_and]
    · have h1':Xp (X7 D) (X6 D) l[i].f0 l[i].f1 l[i].f2=false:=by simpa using h1
      rw[if_neg h1,jt]
      by_cases U:i=0
      · rw[if_pos U]
        simp only[Zo,h1',Bool.false_and]
      · rw[if_neg U,List.getElem?_eq_getElem (by omega)]
        simp only[Zo,h1',Bool.false_and]
theorem Wq (l:List S56) (D tok_:Int) (hm:l.length≤1000000000) (k:Nat) (hk:2 * l.length<k):api_Hall_right.f k l tok_ D=some (Zo (fun x=>Xp (X7 D) (X6 D) x.f0 x.f1 x.f2) ltH none l):=by
  unfold api_Hall_right.f
  have:=V9 l D tok_ hm l.length k 0 (by omega) hk
  simpa using this
theorem V8 (may:S56→Bool) (l:List S56):∀ p,Zo may ltH (some p) l=true↔((∀ x ∈ l,may x=true)∧(p :: l).Pairwise (fun x y=>ltH x y=true)):=by
  induction l with
  |nil=>intro p;simp[Zo]
  |cons x l ih=>
    intro p
    simp only[Zo,Bool.and_eq_true]
    rw[ih x]
    simp only[List.pairwise_cons,List.mem_cons,forall_eq_or_imp]
    constructor
    · rintro⟨⟨h1,O⟩,D,I,Z⟩
      exact⟨⟨h1,D⟩,⟨O,fun y hy=>Wy O (I y hy)⟩,I,Z⟩
    · rintro⟨⟨h1,D⟩,⟨O,_⟩,I,Z⟩
      exact⟨⟨h1,O⟩,D,I,Z⟩
theorem Y7 (may:S56→Bool) (l:List S56):Zo may ltH none l=true↔((∀ x ∈ l,may x=true)∧l.Pairwise (fun x y=>ltH x y=true)):=by
  cases l with
  |nil=>simp[Zo]
  |cons x l=>
    simp only[Zo,Bool.and_eq_true]
    rw[V8]
    simp only[List.mem_cons,forall_eq_or_imp]
    constructor
    · rintro⟨h1,O,D⟩
      exact⟨⟨h1,O⟩,D⟩
    · rintro⟨⟨h1,O⟩,D⟩
      exact⟨h1,O,D⟩
abbrev qI (D:Int) (x:S62):Bool:=Z7 (X7 D) (X6 D) x.f0 x.f1==0
def ltI (x y:S62):Bool:=decide (Z7 x.f0 x.f1 y.f0 y.f1<0)
theorem J5 (x y:S62):ltI x y=true↔(x.f0<y.f0∨(x.f0=y.f0∧x.f1<y.f1)):=by
  unfold ltI
  rw[decide_eq_true_iff,X3]
theorem Wx {x y z:S62} (h1:ltI x y=true) (O:ltI y z=true):ltI x z=true:=by
  rw[J5] at *
  omega
theorem Yq (l:List S62) (i:Nat) (h:i<l.length):Qp l (i:Int)=l[i]:=by
  unfold Qp
  rw[Int.toNat_natCast,List.getD_eq_getElem?_getD,List.getElem?_eq_getElem h]
  rfl
theorem W3 (l:List S62) (D:Int) (hm:l.length≤1000000000) (j:Nat):∀ (f i:Nat),i+j=l.length→j<f→api_Inside_72.l0 f l D (l.length:Int) (i:Int)=some (Va (qI D) i (l.drop i)):=by
  induction j with
  |zero=>
    intro f i hi hf
    obtain⟨f,rfl⟩:∃ m,f=m+1:=⟨f-1,by omega⟩
    simp only[api_Inside_72.l0]
    rw[if_neg (by omega),List.drop_of_length_le (by omega)]
    rfl
  |succ j ih=>
    intro f i hi hf
    obtain⟨f,rfl⟩:∃ m,f=m+1:=⟨f-1,by omega⟩
    have ha:i<l.length:=by omega
    have ei:wrap64 ((i:Int)+1)=((i+1:Nat):Int):=by unfold wrap64;omega
    simp only[api_Inside_72.l0]
    rw[if_pos (by omega),if_pos (by omega),if_pos (by omega),Yq l i ha,ei,ih f (i+1) (by omega) (by omega)]
    unfold api_Inside_without_1.f
    simp only[Option.bind_some]
    rw[List.drop_eq_getElem_cons ha]
    simp only[Va]
    by_cases h:qI D l[i]=true
    · rw[if_pos h,if_pos h]
    · rw[if_neg h,if_neg h]
theorem My (l:List S62) (D:Int) (hm:l.length≤1000000000) (k:Nat) (hk:l.length<k):api_Inside_72.f k l D=some (Va (qI D) 0 l):=by
  unfold api_Inside_72.f
  have:=W3 l D hm l.length k 0 (by omega) hk
  simpa using this
theorem W6 (l:List S62) (D:Int) (hm:l.length≤1000000000) (j:Nat):∀ (f:Nat) (x:List S62) (i m:Nat),x.length=l.length→m+j=l.length→i≤m→j<f→x.drop m=l.drop m→x.take i=(l.take m).filter (fun y=> !qI D y) →
    api_Inside_64.l0 f x D (i:Int) (m:Int)=some (l.filter (fun y=> !qI D y)):=by
  induction j with
  |zero=>
    intro f x i m hx hj him hf hd ht
    obtain⟨f,rfl⟩:∃ m,f=m+1:=⟨f-1,by omega⟩
    simp only[api_Inside_64.l0]
    rw[if_neg (by omega),if_pos (by omega),if_pos (by omega),Int.toNat_natCast,ht,List.take_of_length_le (by omega)]
  |succ j ih=>
    intro f x i m hx hj him hf hd ht
    obtain⟨f,rfl⟩:∃ m,f=m+1:=⟨f-1,by omega⟩
    have ha:m<l.length:=by omega
    have hax:m<x.length:=by omega
    have em:wrap64 ((m:Int)+1)=((m+1:Nat):Int):=by unfold wrap64;omega
    have ei:wrap64 ((i:Int)+1)=((i+1:Nat):Int):=by unfold wrap64;omega
    have hxm:x[m]=l[m]:=by
      have h1:=List.drop_eq_getElem_cons hax
      have O:=List.drop_eq_getElem_cons ha
      rw[hd,O] at h1
      exact(List.cons.inj h1).1.symm
    have B:x.drop (m+1)=l.drop (m+1):=by
      have h1:=List.drop_eq_getElem_cons hax
      have O:=List.drop_eq_getElem_cons ha
      rw[hd,O] at h1
      exact(List.cons.inj h1).2.symm
    have I:(l.take (m+1)).filter (fun y=> !qI D y)=(l.take m).filter (fun y=> !qI D y) ++ [l[m]].filter (fun y=> !qI D y):=by
      rw[List.take_succ_eq_append_getElem ha,List.filter_append]
    simp only[api_Inside_64.l0]
    rw[if_pos (by omega),if_pos (by omega),Yq x m hax,hxm,em,ei]
    unfold api_Inside_without_1.f
    simp only[Option.bind_some]
    by_cases h:qI D l[m]=true
    · rw[if_pos h]
      refine ih f x i (m+1) hx (by omega) (by omega) (by omega) B ?_
      rw[I,ht]
      simp only[List.filter_cons,List.filter_nil]
      rw[if_neg (by rw[h];decide),List.append_nil]
    · have hf':qI D l[m]=false:=by simpa using h
      rw[if_neg h,if_pos (by omega),if_pos (by omega),Int.toNat_natCast]
      refine ih f (x.set i _) (i+1) (m+1) (by rw[List.length_set];exact hx) (by omega) (by omega) (by omega) ?_ ?_
      · rw[List.drop_set_of_lt (by omega)]
        exact B
      · rw[I]
        simp only[List.filter_cons,List.filter_nil]
        rw[if_pos (by rw[hf'];rfl),List.take_succ_eq_append_getElem (by rw[List.length_set];omega),List.getElem_set_self,List.take_set_of_le (by omega),ht]
theorem M2 (l:List S62) (D:Int) (hm:l.length≤1000000000) (k:Nat) (hk:l.length+5<k):api_Inside_64.f k l D=some (l.filter (fun y=> !qI D y)):=by
  unfold api_Inside_64.f
  rw[My l D hm k (by omega)]
  simp only[Option.bind_some]
  rcases Vg (qI D) l 0 with⟨e,ha⟩|⟨i,hi,e,ht,ha⟩
  · rw[e,if_pos rfl]
    congr 1
    exact(List.filter_eq_self.2 (fun y hy=>by rw[ha y hy];rfl)).symm
  · rw[e,Nat.zero_add,if_neg (by omega)]
    have ei:wrap64 ((i:Int)+1)=((i+1:Nat):Int):=by unfold wrap64;omega
    rw[ei]
    refine W6 l D hm (l.length - (i+1)) k l i (i+1) rfl (by omega) (by omega) (by omega) rfl ?_
    rw[List.take_succ_eq_append_getElem hi,List.filter_append]
    simp only[List.filter_cons,List.filter_nil]
    rw[if_neg (by rw[ht];decide),List.append_nil]
    exact(List.filter_eq_self.2 (fun y hy=>by rw[ha y hy];rfl)).symm
def U6 (l:List S62) (J L:Int) (p:Nat):Prop:=p≤l.length∧(∀ y ∈ l.take p,Z7 y.f0 y.f1 J L<0)∧(∀ y ∈ l.drop p,¬ Z7 y.f0 y.f1 J L<0)
def U2 (l:List S62) (J L:Int) (p:Nat):Bool:=match l[p]? with|some y=>Z7 y.f0 y.f1 J L==0|none=>false
theorem Vm (l:List S62) (J L:Int) (hm:l.length≤1000000000) (hs:l.Pairwise (fun x y=>ltI x y=true)) (d:Nat):∀ (f i j:Nat),j-i≤d→i≤j→j≤l.length→d<f→(∀ y ∈ l.take i,Z7 y.f0 y.f1 J L<0)→(∀ y ∈ l.drop j,¬ Z7 y.f0 y.f1 J L<0) →
    ∃ p,U6 l J L p∧api_Inside_58.l0 f l (l.length:Int) (i:Int) (j:Int) J L=some ((p:Int),U2 l J L p):=by
  have stop:∀ (f i:Nat),0<f→i≤l.length→(∀ y ∈ l.take i,Z7 y.f0 y.f1 J L<0)→(∀ y ∈ l.drop i,¬ Z7 y.f0 y.f1 J L<0) → ∃ p,U6 l J L p∧api_Inside_58.l0 f l (l.length:Int) (i:Int) (i:Int) J L=some ((p:Int),U2 l J L p):=by
    intro f i hf hi h1 O
    obtain⟨f,rfl⟩:∃ m,f=m+1:=⟨f-1,by omega⟩
    refine⟨i,⟨hi,h1,O⟩, ?_⟩
    simp only[api_Inside_58.l0]
    unfold U2
    rw[if_neg (by omega)]
    by_cases h:i<l.length
    · rw[if_pos (by omega),if_pos (by omega),if_pos (by omega),Yq l i h,List.getElem?_eq_getElem h]
      rfl
    · rw[if_neg (by omega),List.getElem?_eq_none (by omega)]
  induction d with
  |zero=>
    intro f i j hd hij hj hf h1 O
    obtain rfl:i=j:=by omega
    exact stop f i hf hj h1 O
  |succ d ih=>
    intro f i j hd hij hj hf h1 O
    by_cases he:i=j
    · subst he
      exact stop f i (by omega) hj h1 O
    · obtain⟨f,rfl⟩:∃ m,f=m+1:=⟨f-1,by omega⟩
      have hmid:wrap64 ((IntKind.u64.wrap (wrap64 ((i:Int)+(j:Int)))) / 2)=(((i+j) / 2:Nat):Int):=by
        rw[show wrap64 ((i:Int)+(j:Int))=(i:Int)+(j:Int) from by unfold wrap64;omega,IntKind.wrap_u64]
        unfold wrap64;omega
      have Y:wrap64 ((((i+j) / 2:Nat):Int)+1)=(((i+j) / 2+1:Nat):Int):=by unfold wrap64;omega
      simp only[api_Inside_58.l0]
      rw[if_pos (by omega),hmid]
      have hh:(i+j) / 2<l.length:=by omega
      generalize hg:(i+j) / 2=h at *
      rw[if_pos (by omega),if_pos (by omega),Yq l h hh,Y]
      unfold call_ins_1.f
      simp only[Option.bind_some]
      have hlt:∀ m:Nat,(hm:m<h)→Z7 (l[m]'(by omega)).f0 (l[m]'(by omega)).f1 l[h].f0 l[h].f1<0:=by
        intro m hm
        have:=List.pairwise_iff_getElem.1 hs m h (by omega) hh hm
        exact of_decide_eq_true this
      have hgt:∀ m:Nat,h<m→(hm:m<l.length)→Z7 l[h].f0 l[h].f1 l[m].f0 l[m].f1<0:=by
        intro m hm hml
        have:=List.pairwise_iff_getElem.1 hs h m hh hml hm
        exact of_decide_eq_true this
      by_cases hc:Z7 l[h].f0 l[h].f1 J L<0
      · rw[if_pos hc]
        refine ih f (h+1) j (by omega) (by omega) hj (by omega) ?_ O
        intro y hy
        obtain⟨m,hm,rfl⟩:=List.mem_iff_getElem.1 hy
        rw[List.length_take] at hm
        rw[List.getElem_take]
        by_cases hmh:m=h
        · subst hmh;exact hc
        · have D:=hlt m (by omega)
          rw[X3] at *
          omega
      · rw[if_neg hc]
        refine ih f i h (by omega) (by omega) (by omega) (by omega) h1 ?_
        intro y hy
        obtain⟨m,hm,rfl⟩:=List.mem_iff_getElem.1 hy
        rw[List.length_drop] at hm
        rw[List.getElem_drop]
        by_cases hmh:m=0
        · subst hmh;simpa using hc
        · have D:=hgt (h+m) (by omega) (by omega)
          rw[X3] at *
          omega
theorem Un (l:List S62) (J L:Int) (a2:Int) (hm:l.length≤1000000000) (hs:l.Pairwise (fun x y=>ltI x y=true)) (k:Nat) (hk:l.length<k):
    ∃ p,U6 l J L p∧api_Inside_58.f k l J L a2=some ((p:Int),U2 l J L p):=by
  unfold api_Inside_58.f
  have:=Vm l J L hm hs l.length k 0 l.length (by omega) (by omega) (by omega) hk (by simp) (by simp)
  simpa using this
theorem V7 (l:List S62) (D tok_:Int) (hm:l.length≤1000000000) (j:Nat):∀ (f i:Nat),i+j=l.length→2 * j<f→api_Inside_right.l0 f D l (l.length:Int) (i:Int) l tok_=some (Zo (fun x=>Y0 (X7 D) (X6 D) x.f0 x.f1) ltI (if i=0 then none else l[i-1]?) (l.drop i)):=by
  induction j with
  |zero=>
    intro f i hi hf
    obtain⟨f,rfl⟩:∃ m,f=m+1:=⟨f-1,by omega⟩
    simp only[api_Inside_right.l0]
    rw[if_neg (by omega),List.drop_of_length_le (by omega)]
    cases(if i=0 then none else l[i-1]?) <;> rfl
  |succ j ih=>
    intro f i hi hf
    obtain⟨f,rfl⟩:∃ m,f=m+2:=⟨f-2,by omega⟩
    have ha:i<l.length:=by omega
    have ei:wrap64 ((i:Int)+1)=((i+1:Nat):Int):=by unfold wrap64;omega
    have jt:api_Inside_right.j1 (f+1) D l (l.length:Int) (i:Int) true l tok_=some false:=by simp[api_Inside_right.j1]
    have jf:api_Inside_right.j1 (f+1) D l (l.length:Int) (i:Int) false l tok_=some (Zo (fun x=>Y0 (X7 D) (X6 D) x.f0 x.f1) ltI (some l[i]) (l.drop (i+1))):=by
      simp only[api_Inside_right.j1]
      rw[if_neg (by decide),ei,ih f (i+1) (by omega) (by omega),if_neg (by omega),Nat.add_sub_cancel,List.getElem?_eq_getElem ha]
    simp only[api_Inside_right.l0]
    rw[if_pos (by omega),if_pos (by omega),if_pos (by omega),Yq l i ha]
    unfold call_inside_1.f
    simp only[Option.bind_some]
    rw[List.drop_eq_getElem_cons ha]
    by_cases h1:Y0 (X7 D) (X6 D) l[i].f0 l[i].f1=true
    · rw[if_pos h1]
      by_cases U:i=0
      · subst U
        rw[if_neg (by omega),if_pos rfl,jf]
        simp only[Zo,h1,Bool.true_and]
      · have ep:wrap64 ((i:Int)-1)=((i-1:Nat):Int):=by unfold wrap64;omega
        rw[if_pos (by omega),ep,if_pos (by omega),if_pos (by omega),Yq l (i-1) (by omega),if_neg U,List.getElem?_eq_getElem (by omega)]
        unfold call_ins_1.f
        simp only[Option.bind_some]
        simp only[Zo,h1,Bool.true_and]
        unfold ltI
        by_cases hc:Z7 (l[i-1]'(by omega)).f0 (l[i-1]'(by omega)).f1 l[i].f0 l[i].f1<0
        · rw[decide_eq_false (by omega),decide_eq_true hc,jf,Bool.true_and]
          rfl
        · rw[decide_eq_true (by omega),decide_eq_false hc,jt,Bool.false_and]
    · have h1':Y0 (X7 D) (X6 D) l[i].f0 l[i].f1=false:=by simpa using h1
      rw[if_neg h1,jt]
      by_cases U:i=0
      · rw[if_pos U]
        simp only[Zo,h1',Bool.false_and]
      · rw[if_neg U,List.getElem?_eq_getElem (by omega)]
        simp only[Zo,h1',Bool.false_and]
theorem Wp (l:List S62) (D tok_:Int) (hm:l.length≤1000000000) (k:Nat) (hk:2 * l.length<k):api_Inside_right.f k l tok_ D=some (Zo (fun x=>Y0 (X7 D) (X6 D) x.f0 x.f1) ltI none l):=by
  unfold api_Inside_right.f
  have:=V7 l D tok_ hm l.length k 0 (by omega) hk
  simpa using this
theorem V6 (may:S62→Bool) (l:List S62):∀ p,Zo may ltI (some p) l=true↔((∀ x ∈ l,may x=true)∧(p :: l).Pairwise (fun x y=>ltI x y=true)):=by
  induction l with
  |nil=>intro p;simp[Zo]
  |cons x l ih=>
    intro p
    simp only[Zo,Bool.and_eq_true]
    rw[ih x]
    simp only[List.pairwise_cons,List.mem_cons,forall_eq_or_imp]
    constructor
    · rintro⟨⟨h1,O⟩,D,I,Z⟩
      exact⟨⟨h1,D⟩,⟨O,fun y hy=>Wx O (I y hy)⟩,I,Z⟩
    · rintro⟨⟨h1,D⟩,⟨O,_⟩,I,Z⟩
      exact⟨⟨h1,O⟩,D,I,Z⟩
theorem K5 (may:S62→Bool) (l:List S62):Zo may ltI none l=true↔((∀ x ∈ l,may x=true)∧l.Pairwise (fun x y=>ltI x y=true)):=by
  cases l with
  |nil=>simp[Zo]
  |cons x l=>
    simp only[Zo,Bool.and_eq_true]
    rw[V6]
    simp only[List.mem_cons,forall_eq_or_imp]
    constructor
    · rintro⟨h1,O,D⟩
      exact⟨⟨h1,O⟩,D⟩
    · rintro⟨⟨h1,O⟩,D⟩
      exact⟨h1,O,D⟩
end Go.Proofs.Ytjehhhlhalkieaa.Call
namespace Go.Proofs.Ytjehhhlhalkieaa.C
open Go.RowKit Go.Proofs.YtjehhhlhalkieaaW.PrintWords Go.Proofs.YtjehhhlhalkieaaW.PrintLast Go.Proofs.YtjehhhlhalkieaaW.PrintMore
attribute [local go_sem] Z2 Z0 Xb Xa Zq Zp Z1 Zz
set_option linter.unusedVariables false
set_option linter.unusedSimpArgs false
def newellaw19_Own.f (I:List (S56)) (J:List (S62)):Option ((List (S56))×(List (S62))):=(some (([]:List (S56)):List (S56))).bind fun a0=>(if a0.length+I.length<5864062014805 then ((some (([]:List (S62)):List (S62))).bind fun δ =>(if δ.length+J.length<8796093022208 then (some ((a0++I),(δ ++ J))) else (none))) else (none))
def newellaw19_Own.T1:Bool×List (List Nat×List Nat):=(true,[([],[]),([],[]),([1],[1]),([0,2],[0,2]),([],[]),([],[]),([5],[5]),([4,6,3],[4,6]),([3,7],[3,7]),([8,7,0,1,2,3,4,5,6,7,8],[8])])
def newellaw19_Own.B1:List Nat:=[0,0,2,7,0,0,32,127,255,511]
theorem newellaw19_Own.Gh:rtab .any (opsOf Try.f12 1)=newellaw19_Own.T1:=by kernel_rfl
theorem newellaw19_Own.Jt:Zr newellaw19_Own.T1.2 newellaw19_Own.B1=true:=by kernel_rfl
set_option maxHeartbeats 8000000 in
set_option maxRecDepth 100000 in
theorem newellaw19_Own.calls (μ :Option Addr) (ζ :Nat) (I:List (S56)) (Y:Option Addr) (Z:Nat) (J:List (S62)) (r1:List (S56)) (r2:List (S62)) (w:World) (a5:Kd.C k56 w μ I.length I) (a6:I.length ≤ ζ) (τ :Kd.C k62 w Y J.length J) (φ :J.length≤Z) (h:newellaw19_Own.f I J=some (r1,r2)):
  Calls Try.prog 12 #[.agg #[.slice μ I.length ζ,.slice Y J.length Z]] w fun e w'=>∃ a4 b9:Value,e = .returned (.agg #[a4,b9])∧Kd.R k56 56 w' w.heap.size (fun _=>True) a4 r1∧Kd.R k62 62 w' w.heap.size (fun _=>True) b9 r2∧Below w.heap.size w w':=by
 have d4:=Try.underlying27
 have χ :=Aside0.mk a5
 have a7:=Aside0.mk a6
 clear a5 a6
 have bo:=Aside0.mk τ
 have ct:=Aside0.mk φ
 clear τ φ
 have HB:=Aside0.mk (Below.refl w.heap.size w)
 have H:((some (([]:List (S56)):List (S56))).bind fun a0=>(if a0.length+I.length<5864062014805 then ((some (([]:List (S62)):List (S62))).bind fun δ =>(if δ.length+J.length<8796093022208 then (some ((a0++I),(δ ++ J))) else (none))) else (none)))=some (r1,r2):=h
 clear h
 obtain⟨a0,af⟩:∃ y_:List (S56),y_=(([]:List (S56))):=⟨_,rfl⟩
 replace H:(if a0.length+I.length<5864062014805 then ((some (([]:List (S62)):List (S62))).bind fun δ =>(if δ.length+J.length<8796093022208 then (some ((a0++I),(δ ++ J))) else (none))) else (none))=some (r1,r2):=by first|(rw[af];with_reducible exact H)|(have ρ:=(Option.bind_some _ _).symm.trans H;rw[af];with_reducible exact ρ)|(have ρ:=(Option.bind_some _ _).symm.trans H;with_reducible exact ρ)|with_reducible exact H|(rw[af];exact H)|exact H
 have ak:=Aside0.mk af
 clear af
 by_cases c2:a0.length+I.length<5864062014805
 ·rw[if_pos c2] at H
  have ap:=Aside0.mk c2
  clear c2
  obtain⟨a9,ag⟩:∃ y_:List (S56),y_=(a0++I):=⟨_,rfl⟩
  replace H:((some (([]:List (S62)):List (S62))).bind fun δ =>(if δ.length+J.length<8796093022208 then (some (a9,(δ ++ J))) else (none)))=some (r1,r2):=by first|(rw[ag];with_reducible exact H)|(have ρ:=(Option.bind_some _ _).symm.trans H;rw[ag];with_reducible exact ρ)|(have ρ:=(Option.bind_some _ _).symm.trans H;with_reducible exact ρ)|with_reducible exact H|(rw[ag];exact H)|exact H
  have an:=Aside0.mk ag
  clear ag
  obtain⟨δ,ah⟩:∃ y_:List (S62),y_=(([]:List (S62))):=⟨_,rfl⟩
  replace H:(if δ.length+J.length<8796093022208 then (some (a9,(δ ++ J))) else (none))=some (r1,r2):=by first|(rw[ah];with_reducible exact H)|(have ρ:=(Option.bind_some _ _).symm.trans H;rw[ah];with_reducible exact ρ)|(have ρ:=(Option.bind_some _ _).symm.trans H;with_reducible exact ρ)|with_reducible exact H|(rw[ah];exact H)|exact H
  have a8:=Aside0.mk ah
  clear ah
  by_cases c3: δ.length+J.length<8796093022208
  ·rw[if_pos c3] at H
   have b1:=Aside0.mk c3
   clear c3
   obtain⟨aw,ai⟩:∃ y_:List (S62),y_=(δ ++ J):=⟨_,rfl⟩
   replace H:(some (a9,aw))=some (r1,r2):=by first|(rw[ai];with_reducible exact H)|(have ρ:=(Option.bind_some _ _).symm.trans H;rw[ai];with_reducible exact ρ)|(have ρ:=(Option.bind_some _ _).symm.trans H;with_reducible exact ρ)|with_reducible exact H|(rw[ai];exact H)|exact H
   have az:=Aside0.mk ai
   clear ai
   simp only[Option.some.injEq,Prod.mk.injEq] at H
   obtain⟨rfl,rfl⟩:=H
   go_enter Try.func12,Try.ntmps12
   try go_wp2_with (first|((with_reducible refine Qr (N:=1) rfl ?_);refine qE 1 #[.slice μ I.length ζ,.slice Y J.length Z] 27 ?_;intro η hg w4 hbox hb;have B:=Aside0.mk hbox;have b6:=sGe hg;have b7:=sGe hg;replace HB:=sHb hb;clear hb hbox hg)|((with_reducible refine Qr (N:=2) rfl ?_);refine qE 2 #[.slice none 0 0,.slice none 0 0] 27 ?_;intro ε hg w5 hbox hb;have D:=Aside0.mk hbox;have b8:=sGe hg;have bb:=sGe hg;have ν :=sNl B hg;have aj:=sNg B hg;replace B:=sBk B hb;replace HB:=sHb hb;clear hb hbox hg))
   replace B:=Aside0.mk (Qa B.out)
   replace D:=Aside0.mk (Qa D.out)
   replace HB:=Aside0.mk (Qf HB.out)
   refine Zn (n:=10) (S:=fun w'=>w'.cell? ⟨η,0,none⟩=some (.slice μ I.length ζ)∧w'.cell? ⟨η,1,none⟩=some (.slice Y J.length Z)) (ds:=[]) #[false,false,false,false,false,false,false,false,false,false] kr rfl rfl ⟨(Ql B.out 0).trans rfl,(Ql B.out 1).trans rfl⟩ (fun hHeld=>?_);refine Q8 newellaw19_Own.Gh newellaw19_Own.Jt (fun HT_ HW_=>?_)
   generalize w5.drew=w6 at B D HB hHeld ⊢
   refine qP 1 (some 4) (bN 10 2) HT_ ?_
   refine qP 5 (some 8) (bN 10 34) HT_ ?_
   refine qT 2 (some 5) (bN 10 38) HT_ HW_ hHeld ?_
   refine qT 6 (some 9) (bN 10 102) HT_ HW_ hHeld ?_
   refine K9 (σ:=Value×Value×Value) 3 (bN 10 127) (fun s_=>[(3,s_.1),(6,s_.2.1),(7,s_.2.2)]) (fun s_ w'=>(w'.cell? ⟨η,0,none⟩=some (.slice μ I.length ζ)∧w'.cell? ⟨η,1,none⟩=some (.slice Y J.length Z))∧(Kd.R k56 56 w' w.heap.size (fun _=>True) s_.2.1 a9)∧(Kd.R k62 62 w' w.heap.size (fun _=>True) s_.2.2 δ)∧(w'.heap[η]?=some (.cells #[.slice μ I.length ζ,.slice Y J.length Z] 27 (0,0)))∧(w'.heap[ε]?=some (.cells #[.slice none 0 0,.slice none 0 0] 27 (0,0)))∧(Below w.heap.size w w')) ?_ ?_
   rotate_left
   ·intro hCont
    refine Kj (i:=0) (j:=4) (Ni:=some 3) (Nj:=some 7) (bN 10 103) (bN 10 118) rfl rfl rfl rfl (Ye HT_.out kr) (by decide) (by decide) (fun K hK=>?_) (fun K hK=>?_)
    ·skip
     refine Kd.Xl k56 _ 56 ?hg (N:=3) ?hd (xs:=([]:List (S56))) (inner:=[]) (ok:=fun _=>True) (okp:=fun _=>True) ?hr ?hp (fun _ hk=>hk) trivial (Below.refl _ _) (Nat.le_refl _) (by simp) ?_;(case hd=>rfl);(case hg=>rfl);(case hr=>go_simp <;> rfl);(case hp=>exact(Reps.none _ _))
     intro a1 w7 a2 hb hg_ hnew_
     clear hg_ hnew_
     (first|rw[← ak.out] at a2|(simp only[Int.reduceToNat] at a2;rw[← ak.out] at a2))
     have O:=Aside0.mk (Kd.Q2 a2 (Qi HB.out))
     replace B:=sBk B hb
     replace D:=sBk D hb
     replace HB:=sHb hb
     clear hb a2
     refine hK.out _ _ ⟨qc B,qc B⟩ (fun hHeld=>?_)
     clear hK K
     refine qN (some 3) ?_
     refine Kj (i:=3) (j:=4) (Ni:=some 6) (Nj:=some 7) (bN 10 111) (bN 10 119) rfl rfl rfl rfl (Ye HT_.out kr) (by decide) (by decide) (fun K hK=>?_) (fun K hK=>?_)
     ·skip
      refine Kd.Xu k56 (w0:=w) w.heap.size (by rfl) (.tmp 3) (.tmp 5) 24 56 (.agg #[(.int .i64 0),(.int .i64 0),(.int .i64 0)]) 24 rfl Try.underlying24 Yl rfl (by decide) (by omega) a1 a0 I _ _ _ (fun _=>True) (fun _=>False) rfl rfl ?aO ?aR (fun _ _ h=>h) (fun _ h=>h.elim) ?aF ?aB ?aS ?aL ?_
      (case aR=>exact(Kd.Qx χ.out HB.out))
      (case aB=>exact HB.out)
      (case aF=>exact(fun _ _=>trivial))
      (case aO=>exact O.out)
      (case aS=>exact(Qi HB.out))
      (case aL=>have:=ap.out;omega)
      intro ae w9 ho hb hg hat
      rw[← an.out] at ho
      have θ :=Aside0.mk ho
      replace B:=Aside0.mk (Zb (g:= η) (o:=.cells #[.slice μ I.length ζ,.slice Y J.length Z] 27 (0,0)) B.out hg (Kd.X1 O.out B.out (by decide)))
      replace D:=Aside0.mk (Zb (g:= ε) (o:=.cells #[.slice none 0 0,.slice none 0 0] 27 (0,0)) D.out hg (Kd.X1 O.out D.out (by decide)))
      replace HB:=Aside0.mk hb
      clear O
      clear ho hb hg hat
      refine hK.out _ _ ⟨qc B,qc B⟩ (fun hHeld=>?_)
      clear hK K
      refine qN (some 6) ?_
      refine Zg (i:=4) (N:=some 7) (bN 10 127) rfl rfl (Q1 HT_.out kr) (by decide) (fun K hK=>?_)
      refine Kd.Xl k62 _ 62 ?hg (N:=7) ?hd (xs:=([]:List (S62))) (inner:=[]) (ok:=fun _=>True) (okp:=fun _=>True) ?hr ?hp (fun _ hk=>hk) trivial (Below.refl _ _) (Nat.le_refl _) (by simp) ?_;(case hd=>rfl);(case hg=>rfl);(case hr=>go_simp <;> rfl);(case hp=>exact(Reps.none _ _))
      intro a3 em al hb hg_ hnew_
      clear hg_ hnew_
      (first|rw[← a8.out] at al|(simp only[Int.reduceToNat] at al;rw[← a8.out] at al))
      have X:=Aside0.mk (Kd.Q2 al (Qi HB.out))
      replace θ :=sRb θ hb
      replace B:=sBk B hb
      replace D:=sBk D hb
      replace HB:=sHb hb
      clear hb al
      refine hK.out _ _ ⟨qc B,qc B⟩ (fun hHeld=>?_)
      clear hK K
      refine qN (some 7) ?_
      exact Xj (by simp only[Zx,Act.put,qS]) (hCont (a1,ae,a3) _ ⟨hHeld,θ.out,X.out,B.out,D.out,HB.out⟩)
     ·skip
      refine Kd.Xl k62 _ 62 ?hg (N:=7) ?hd (xs:=([]:List (S62))) (inner:=[]) (ok:=fun _=>True) (okp:=fun _=>True) ?hr ?hp (fun _ hk=>hk) trivial (Below.refl _ _) (Nat.le_refl _) (by simp) ?_;(case hd=>rfl);(case hg=>rfl);(case hr=>go_simp <;> rfl);(case hp=>exact(Reps.none _ _))
      intro a3 w9 L hb hg_ hnew_
      clear hg_ hnew_
      (first|rw[← a8.out] at L|(simp only[Int.reduceToNat] at L;rw[← a8.out] at L))
      have X:=Aside0.mk (Kd.Q2 L (Qi HB.out))
      replace O:=sRb O hb
      replace B:=sBk B hb
      replace D:=sBk D hb
      replace HB:=sHb hb
      clear hb L
      refine hK.out _ _ ⟨qc B,qc B⟩ (fun hHeld=>?_)
      clear hK K
      refine qN (some 7) ?_
      refine Zg (i:=3) (N:=some 6) (bN 10 127) rfl rfl (Q1 HT_.out kr) (by decide) (fun K hK=>?_)
      refine Kd.Xu k56 (w0:=w) w.heap.size (by rfl) (.tmp 3) (.tmp 5) 24 56 (.agg #[(.int .i64 0),(.int .i64 0),(.int .i64 0)]) 24 rfl Try.underlying24 Yl rfl (by decide) (by omega) a1 a0 I _ _ _ (fun _=>True) (fun _=>False) rfl rfl ?aO ?aR (fun _ _ h=>h) (fun _ h=>h.elim) ?aF ?aB ?aS ?aL ?_
      (case aR=>exact(Kd.Qx χ.out HB.out))
      (case aB=>exact HB.out)
      (case aF=>exact(fun _ _=>trivial))
      (case aO=>exact O.out)
      (case aS=>exact(Qi HB.out))
      (case aL=>have:=ap.out;omega)
      intro ae e5 ho hb hg hat
      rw[← an.out] at ho
      have θ :=Aside0.mk ho
      replace B:=Aside0.mk (Zb (g:= η) (o:=.cells #[.slice μ I.length ζ,.slice Y J.length Z] 27 (0,0)) B.out hg (Kd.X1 O.out B.out (by decide)))
      replace D:=Aside0.mk (Zb (g:= ε) (o:=.cells #[.slice none 0 0,.slice none 0 0] 27 (0,0)) D.out hg (Kd.X1 O.out D.out (by decide)))
      replace X:=Aside0.mk (Kd.V2 X.out (Kd.V0 O.out) (by decide) hg)
      replace HB:=Aside0.mk hb
      clear O
      clear ho hb hg hat
      refine hK.out _ _ ⟨qc B,qc B⟩ (fun hHeld=>?_)
      clear hK K
      refine qN (some 6) ?_
      exact Xj (by simp only[Zx,Act.put,qS]) (hCont (a1,ae,a3) _ ⟨hHeld,θ.out,X.out,B.out,D.out,HB.out⟩)
    ·skip
     refine Kd.Xl k62 _ 62 ?hg (N:=7) ?hd (xs:=([]:List (S62))) (inner:=[]) (ok:=fun _=>True) (okp:=fun _=>True) ?hr ?hp (fun _ hk=>hk) trivial (Below.refl _ _) (Nat.le_refl _) (by simp) ?_;(case hd=>rfl);(case hg=>rfl);(case hr=>go_simp <;> rfl);(case hp=>exact(Reps.none _ _))
     intro a3 w7 a2 hb hg_ hnew_
     clear hg_ hnew_
     (first|rw[← a8.out] at a2|(simp only[Int.reduceToNat] at a2;rw[← a8.out] at a2))
     have X:=Aside0.mk (Kd.Q2 a2 (Qi HB.out))
     replace B:=sBk B hb
     replace D:=sBk D hb
     replace HB:=sHb hb
     clear hb a2
     refine hK.out _ _ ⟨qc B,qc B⟩ (fun hHeld=>?_)
     clear hK K
     refine qN (some 7) ?_
     refine Zg (i:=0) (N:=some 3) (bN 10 119) rfl rfl (Q1 HT_.out kr) (by decide) (fun K hK=>?_)
     refine Kd.Xl k56 _ 56 ?hg (N:=3) ?hd (xs:=([]:List (S56))) (inner:=[]) (ok:=fun _=>True) (okp:=fun _=>True) ?hr ?hp (fun _ hk=>hk) trivial (Below.refl _ _) (Nat.le_refl _) (by simp) ?_;(case hd=>rfl);(case hg=>rfl);(case hr=>go_simp <;> rfl);(case hp=>exact(Reps.none _ _))
     intro a1 w9 L hb hg_ hnew_
     clear hg_ hnew_
     (first|rw[← ak.out] at L|(simp only[Int.reduceToNat] at L;rw[← ak.out] at L))
     have O:=Aside0.mk (Kd.Q2 L (Qi HB.out))
     replace X:=sRb X hb
     replace B:=sBk B hb
     replace D:=sBk D hb
     replace HB:=sHb hb
     clear hb L
     refine hK.out _ _ ⟨qc B,qc B⟩ (fun hHeld=>?_)
     clear hK K
     refine qN (some 3) ?_
     refine Zg (i:=3) (N:=some 6) (bN 10 127) rfl rfl (Q1 HT_.out kr) (by decide) (fun K hK=>?_)
     refine Kd.Xu k56 (w0:=w) w.heap.size (by rfl) (.tmp 3) (.tmp 5) 24 56 (.agg #[(.int .i64 0),(.int .i64 0),(.int .i64 0)]) 24 rfl Try.underlying24 Yl rfl (by decide) (by omega) a1 a0 I _ _ _ (fun _=>True) (fun _=>False) rfl rfl ?aO ?aR (fun _ _ h=>h) (fun _ h=>h.elim) ?aF ?aB ?aS ?aL ?_
     (case aR=>exact(Kd.Qx χ.out HB.out))
     (case aB=>exact HB.out)
     (case aF=>exact(fun _ _=>trivial))
     (case aO=>exact O.out)
     (case aS=>exact(Qi HB.out))
     (case aL=>have:=ap.out;omega)
     intro ae e5 ho hb hg hat
     rw[← an.out] at ho
     have θ :=Aside0.mk ho
     replace B:=Aside0.mk (Zb (g:= η) (o:=.cells #[.slice μ I.length ζ,.slice Y J.length Z] 27 (0,0)) B.out hg (Kd.X1 O.out B.out (by decide)))
     replace D:=Aside0.mk (Zb (g:= ε) (o:=.cells #[.slice none 0 0,.slice none 0 0] 27 (0,0)) D.out hg (Kd.X1 O.out D.out (by decide)))
     replace X:=Aside0.mk (Kd.V2 X.out (Kd.V0 O.out) (by decide) hg)
     replace HB:=Aside0.mk hb
     clear O
     clear ho hb hg hat
     refine hK.out _ _ ⟨qc B,qc B⟩ (fun hHeld=>?_)
     clear hK K
     refine qN (some 6) ?_
     exact Xj (by simp only[Zx,Act.put,qS]) (hCont (a1,ae,a3) _ ⟨hHeld,θ.out,X.out,B.out,D.out,HB.out⟩)
   rintro⟨a1,ae,a3⟩ dt ⟨hS_,cj,ck,cm,cn,co⟩
   have U:Aside0 (Kd.R k56 56 dt w.heap.size (fun _=>True) ae a9):=⟨cj⟩
   have γ:Aside0 (Kd.R k62 62 dt w.heap.size (fun _=>True) a3 δ):=⟨ck⟩
   have ι :Aside0 (dt.heap[η]?=some (.cells #[.slice μ I.length ζ,.slice Y J.length Z] 27 (0,0))):=⟨cm⟩
   have κ :Aside0 (dt.heap[ε]?=some (.cells #[.slice none 0 0,.slice none 0 0] 27 (0,0))):=⟨cn⟩
   have ξ :Aside0 (Below w.heap.size w dt):=⟨co⟩
   clear B
   clear D
   clear HB
   clear cj ck cm cn co
   have θ :=U
   have X:=γ
   have B:= ι
   have D:= κ
   have HB:= ξ
   clear U γ ι κ ξ
   have hHeld:dt.cell? ⟨η,0,none⟩=some (.slice μ I.length ζ)∧dt.cell? ⟨η,1,none⟩=some (.slice Y J.length Z):=hS_
   refine Xj (a':=?_) ?_ ?_
   rotate_left
   ·simp only[Zx,Act.put,qS]
    rfl
   refine Zg (i:=7) (N:=some 10) (bN 10 255) rfl rfl (Q1 HT_.out kr) (by decide) (fun K hK=>?_)
   refine Kd.Xu k62 (w0:=w) w.heap.size (by rfl) (.tmp 7) (.tmp 9) 25 62 (.agg #[(.int .i64 0),(.int .i64 0)]) 16 rfl Try.underlying25 J0 rfl (by decide) (by omega) a3 δ J _ _ _ (fun _=>True) (fun _=>False) rfl rfl ?aO ?aR (fun _ _ h=>h) (fun _ h=>h.elim) ?aF ?aB ?aS ?aL ?_
   (case aR=>exact(Kd.Qx bo.out HB.out))
   (case aB=>exact HB.out)
   (case aF=>exact(fun _ _=>trivial))
   (case aO=>exact X.out)
   (case aS=>exact(Qi HB.out))
   (case aL=>have:=b1.out;omega)
   intro bd ed ho hb hg hat
   rw[← az.out] at ho
   have ar:=Aside0.mk ho
   replace B:=Aside0.mk (Zb (g:= η) (o:=.cells #[.slice μ I.length ζ,.slice Y J.length Z] 27 (0,0)) B.out hg (Kd.X1 X.out B.out (by decide)))
   replace D:=Aside0.mk (Zb (g:= ε) (o:=.cells #[.slice none 0 0,.slice none 0 0] 27 (0,0)) D.out hg (Kd.X1 X.out D.out (by decide)))
   replace θ :=Aside0.mk (Kd.V2 θ.out (Kd.V0 X.out) (by decide) hg)
   replace HB:=Aside0.mk hb
   clear X
   clear ho hb hg hat
   obtain⟨b2,b3,ay⟩:=Kd.Q4 ar.out
   (first|subst ay|(injection ay with ψ aa ω;have ab:= ψ.symm;have ac:= ω.symm;clear ψ aa ω;subst ab;subst ac))
   obtain⟨ao,au,am⟩:=Kd.Q4 θ.out
   (first|subst am|(injection am with ψ aa ω;have ab:= ψ.symm;have ac:= ω.symm;clear ψ aa ω;subst ab;subst ac))
   refine hK.out _ _ ⟨qc B,qc B⟩ (fun hHeld=>?_)
   clear hK K
   refine qN (some 10) ?_
   refine qP 8 (some 11) (bN 10 511) HT_ ?_
   refine Zg (i:=9) (N:=none) (bN 10 1023) rfl rfl (Q1 HT_.out kr) (by decide) (fun K hK=>?_)
   have ba:ed.cell? ⟨ε,0,none⟩=some (.slice none 0 0):=(Ql D.out 0).trans rfl
   have b0:=Q6 D.out 0
   have av:= ν.out
   have ax:=aj.out
   have be:ed.cell? ⟨ε,1,none⟩=some (.slice none 0 0):=(Ql D.out 1).trans rfl
   have bc:=Q6 D.out 1
   have b4:= ν.out
   have b5:=aj.out
   refine Js (w1:=?_) (by rfl) rfl ?_ ?_
   rotate_left
   ·go_simp
    rfl
   refine hK.out _ _ ⟨((cell_far (p:=⟨ε,_,none⟩) ν.out _).trans (((cell_far (p:=⟨ε,_,none⟩) ν.out _).trans (hHeld.1)))),((cell_far (p:=⟨ε,_,none⟩) ν.out _).trans (((cell_far (p:=⟨ε,_,none⟩) ν.out _).trans (hHeld.2))))⟩ (fun hHeld=>?_)
   clear hK K
   refine Zu (Zj HT_.out kr) ?_
   try go_wp2
   refine bodyPost_ret (results_cell_row rfl _ _ ε 27 #[.slice ao a9.length au,.slice b2 aw.length b3] (0,0) _ rfl (by refine Qv (cs:=#[.slice ao a9.length au,.slice none 0 0]) ?_ 1 _ rfl;refine Qv (cs:=#[.slice none 0 0,.slice none 0 0]) ?_ 0 _ rfl;exact D.out) Try.underlying27 rfl kr) rfl ?_
   exact⟨_,_,by first|rfl|(simp[Qz,Qy] <;> rfl)|(simp[*,Qz,Qy] <;> rfl),by(with_reducible repeat first|apply Kd.Qk|apply Kd.Qj|apply Kd.Qn);exact Kd.Qq (Kd.Qs (Kd.Qs (Kd.Qw θ.out D.out (by decide)) (fun _ hk=>hk.2) _) (fun _ hk=>hk.2) _) (fun _ hk=>trivial),by(with_reducible repeat first|apply Kd.Qk|apply Kd.Qj|apply Kd.Qn);exact Kd.Qq (Kd.Qs (Kd.Qs (Kd.Qw ar.out D.out (by decide)) (fun _ hk=>hk.2) _) (fun _ hk=>hk.2) _) (fun _ hk=>trivial),bel⟩
  ·rw[if_neg c3] at H
   exact absurd H (by simp)
 ·rw[if_neg c2] at H
  exact absurd H (by simp)
def newelref19_Few.f (I:List (S56)) (J:List (S62)):Option (Bool):=if (I.length:Int)≤130 then (some (decide ((J.length:Int)≤520))) else (some false)
set_option maxHeartbeats 8000000 in
set_option maxRecDepth 100000 in
theorem newelref19_Few.calls (μ :Option Addr) (ζ :Nat) (I:List (S56)) (Y:Option Addr) (Z:Nat) (J:List (S62)) (r:Bool) (w:World) (a5:Kd.C k56 w μ I.length I) (a6:I.length ≤ ζ) (τ :Kd.C k62 w Y J.length J) (φ :J.length≤Z) (h:newelref19_Few.f I J=some r):
  Calls Try.prog 9 #[.agg #[.slice μ I.length ζ,.slice Y J.length Z]] w fun e w'=>e = .returned (.bool r)∧Below w.heap.size w w':=by
 have d4:=Try.underlying27
 have χ :=Aside0.mk a5
 have a7:=Aside0.mk a6
 clear a5 a6
 have bo:=Aside0.mk τ
 have ct:=Aside0.mk φ
 clear τ φ
 have HB:=Aside0.mk (Below.refl w.heap.size w)
 have H:(if (I.length:Int)≤130 then (some (decide ((J.length:Int)≤520))) else (some false))=some r:=h
 clear h
 by_cases c2:(I.length:Int)≤130
 ·rw[if_pos c2] at H
  have c2b0:decide ((I.length:Int)≤130)=true:=decide_eq_true c2
  have c2b1:decide (I.length≤130)=true:=decide_eq_true (by omega)
  clear c2
  obtain rfl:=Option.some.inj H
  go_enter Try.func9,Try.ntmps9
  go_wp2_with (first|((with_reducible refine Qr (N:=1) rfl ?_);(try(refine Z5 (by rfl) ?_;dsimp only));refine Q5 ?hg (N:=1) ?hd (cs:=#[.slice μ I.length ζ,.slice Y J.length Z]) (t:=27) ?hr ?_;(case hd=>rfl);(case hg=>rfl);(case hr=>first|(go_simp;done)|(go_simp;rfl));intro ν hg w3 hbox hb;have U:=Aside0.mk (Qt (by repeat(first|(with_reducible first|exact HB.out|apply Qh|apply Qb|apply Qf)|exact HB.out)) hb);have γ:=Aside0.mk (hbox);have ι :=Aside0.mk ((by rw[hg];exact(Qi (by repeat(first|(with_reducible first|exact HB.out|apply Qh|apply Qb|apply Qf)|exact HB.out))):w.heap.size ≤ ν));have κ :=Aside0.mk ((by rw[hg];exact(Qi (by repeat(first|(with_reducible first|exact HB.out|apply Qh|apply Qb|apply Qf)|exact HB.out))):w.heap.size ≤ ν));clear HB;have HB:=U;have L:=γ;have bg:= ι;have b1:= κ;clear U γ ι κ;clear hb hbox hg;obtain⟨ae,ag,ah,al⟩:=qD2 L.out))
  go_ret
  exact⟨by first|rfl|(simp[Qz,Qy] <;> rfl)|(simp[*,Qz,Qy] <;> rfl),by repeat(first|(with_reducible first|exact HB.out|apply Qh|apply Qb|apply Qf|refine Qc ?_ b1.out)|exact HB.out)⟩
 ·rw[if_neg c2] at H
  have c2b0:decide ((I.length:Int)≤130)=false:=decide_eq_false c2
  have c2b1:decide (I.length≤130)=false:=decide_eq_false (by omega)
  clear c2
  obtain rfl:=Option.some.inj H
  go_enter Try.func9,Try.ntmps9
  go_wp2_with (first|((with_reducible refine Qr (N:=1) rfl ?_);(try(refine Z5 (by rfl) ?_;dsimp only));refine Q5 ?hg (N:=1) ?hd (cs:=#[.slice μ I.length ζ,.slice Y J.length Z]) (t:=27) ?hr ?_;(case hd=>rfl);(case hg=>rfl);(case hr=>first|(go_simp;done)|(go_simp;rfl));intro ν hg w5 hbox hb;have U:=Aside0.mk (Qt (by repeat(first|(with_reducible first|exact HB.out|apply Qh|apply Qb|apply Qf)|exact HB.out)) hb);have γ:=Aside0.mk (hbox);have ι :=Aside0.mk ((by rw[hg];exact(Qi (by repeat(first|(with_reducible first|exact HB.out|apply Qh|apply Qb|apply Qf)|exact HB.out))):w.heap.size ≤ ν));have κ :=Aside0.mk ((by rw[hg];exact(Qi (by repeat(first|(with_reducible first|exact HB.out|apply Qh|apply Qb|apply Qf)|exact HB.out))):w.heap.size ≤ ν));clear HB;have HB:=U;have L:=γ;have bg:= ι;have b1:= κ;clear U γ ι κ;clear hb hbox hg;obtain⟨X,δ,ε,η⟩:=qD2 L.out))
  go_ret
  exact⟨by first|rfl|(simp[Qz,Qy] <;> rfl)|(simp[*,Qz,Qy] <;> rfl),by repeat(first|(with_reducible first|exact HB.out|apply Qh|apply Qb|apply Qf|refine Qc ?_ b1.out)|exact HB.out)⟩
theorem Nq (d:Nat) (w:World) (J D:Int) (L I:Int) (X O:Int):
  (Op.equalIn (d+2) 56 (.agg #[.int .i64 J,.int .i64 L,.int .i64 X]) (.agg #[.int .i64 D,.int .i64 I,.int .i64 O])).run Try.prog w = .ok (J==D&&(L==I&&(X==O))) w:=by
 refine L6 Try.underlying56 kr ?_
 refine Gv (by rfl) (by go_simp;rfl) (by go_simp;rfl) (by go_simp) ?_
 refine Gv (by rfl) (by go_simp;rfl) (by go_simp;rfl) (by go_simp) ?_
 exact Uh (by rfl) (by go_simp;rfl) (by go_simp;rfl) (by go_simp)
theorem Np (d:Nat) (w:World) (J D:Int) (L I:Int):
  (Op.equalIn (d+2) 62 (.agg #[.int .i64 J,.int .i64 L]) (.agg #[.int .i64 D,.int .i64 I])).run Try.prog w = .ok (J==D&&(L==I)) w:=by
 refine L6 Try.underlying62 kr ?_
 refine Gv (by rfl) (by go_simp;rfl) (by go_simp;rfl) (by go_simp) ?_
 exact Uh (by rfl) (by go_simp;rfl) (by go_simp;rfl) (by go_simp)
end Go.Proofs.Ytjehhhlhalkieaa.C
namespace Go.Proofs.Ytjehhhlhalkieaa.C
open Go.RowKit Go.Proofs.YtjehhhlhalkieaaW.PrintWords Go.Proofs.YtjehhhlhalkieaaW.PrintLast Go.Proofs.YtjehhhlhalkieaaW.PrintMore
attribute [local go_sem] Z2 Z0 Xb Xa Zq Zp Z1 Zz
set_option linter.unusedVariables false
set_option linter.unusedSimpArgs false
attribute [local go_sem high] Nq Np
mutual
def newelref19_Same.j0:Nat→Bool→List (S56)→List (S62)→List (S56)→List (S62)→Option (Bool)
 |0,_,_,_,_,_=>none
 |k+1,B,D,J,I,L=>if B=true then (some false) else (newelref19_Same.l0 k 0 D J I L)
def newelref19_Same.l0:Nat→Int→List (S56)→List (S62)→List (S56)→List (S62)→Option (Bool)
 |0,_,_,_,_,_=>none
 |k+1,O,D,J,I,L=>if O<(D.length:Int) then (if 0≤O then (if O<(I.length:Int) then (if (!(((Qg D O).f0)==((Qg I O).f0))||(!(((Qg D O).f1)==((Qg I O).f1))||(!(((Qg D O).f2)==((Qg I O).f2)))))=true then (some false) else (newelref19_Same.l0 k (wrap64 (O+1)) D J I L)) else (none)) else (none)) else (newelref19_Same.l1 k 0 D J I L)
def newelref19_Same.l1:Nat→Int→List (S56)→List (S62)→List (S56)→List (S62)→Option (Bool)
 |0,_,_,_,_,_=>none
 |k+1,B,D,J,I,L=>if B<(J.length:Int) then (if 0≤B then (if B<(L.length:Int) then (if (!(((Qp J B).f0)==((Qp L B).f0))||(!(((Qp J B).f1)==((Qp L B).f1))))=true then (some false) else (newelref19_Same.l1 k (wrap64 (B+1)) D J I L)) else (none)) else (none)) else (some true)
end
def newelref19_Same.f (k:Nat) (I:List (S56)) (J:List (S62)) (B:List (S56)) (D:List (S62)):Option (Bool):=if (I.length:Int)=(B.length:Int) then (newelref19_Same.j0 k ((J.length:Int) != (D.length:Int)) I J B D) else (newelref19_Same.j0 k true I J B D)
theorem newelref19_Same.Zi:∀ k,(∀ D I O J L,LeO (newelref19_Same.j0 k D I O J L) (newelref19_Same.j0 (k+1) D I O J L))∧(∀ D I O J L,LeO (newelref19_Same.l0 k D I O J L) (newelref19_Same.l0 (k+1) D I O J L))∧(∀ D I O J L,LeO (newelref19_Same.l1 k D I O J L) (newelref19_Same.l1 (k+1) D I O J L))
 |0=>⟨fun _ _ _ _ _ r h=>by simp[newelref19_Same.j0] at h,fun _ _ _ _ _ r h=>by simp[newelref19_Same.l0] at h,fun _ _ _ _ _ r h=>by simp[newelref19_Same.l1] at h⟩
 |k+1=>by
  obtain⟨B,U,Y⟩:=newelref19_Same.Zi k
  refine⟨?_, ?_, ?_⟩
  ·intro D I O J L
   unfold newelref19_Same.j0
   repeat' first
   |(with_reducible exact B _ _ _ _ _)
   |(with_reducible exact U _ _ _ _ _)
   |(with_reducible exact Y _ _ _ _ _)
   |(with_reducible exact LeO.refl _)
   |(with_reducible exact LeO.none _)
   |(with_reducible refine LeO.ite ?_ ?_)
   |(with_reducible refine LeO.bind ?_ (fun _=>?_))
   |exact B _ _ _ _ _
   |exact U _ _ _ _ _
   |exact Y _ _ _ _ _
   |exact LeO.none _
   |refine LeO.ite ?_ ?_
   |refine LeO.bind ?_ (fun _=>?_)
  ·intro D I O J L
   unfold newelref19_Same.l0
   repeat' first
   |(with_reducible exact B _ _ _ _ _)
   |(with_reducible exact U _ _ _ _ _)
   |(with_reducible exact Y _ _ _ _ _)
   |(with_reducible exact LeO.refl _)
   |(with_reducible exact LeO.none _)
   |(with_reducible refine LeO.ite ?_ ?_)
   |(with_reducible refine LeO.bind ?_ (fun _=>?_))
   |exact B _ _ _ _ _
   |exact U _ _ _ _ _
   |exact Y _ _ _ _ _
   |exact LeO.none _
   |refine LeO.ite ?_ ?_
   |refine LeO.bind ?_ (fun _=>?_)
  ·intro D I O J L
   unfold newelref19_Same.l1
   repeat' first
   |(with_reducible exact B _ _ _ _ _)
   |(with_reducible exact U _ _ _ _ _)
   |(with_reducible exact Y _ _ _ _ _)
   |(with_reducible exact LeO.refl _)
   |(with_reducible exact LeO.none _)
   |(with_reducible refine LeO.ite ?_ ?_)
   |(with_reducible refine LeO.bind ?_ (fun _=>?_))
   |exact B _ _ _ _ _
   |exact U _ _ _ _ _
   |exact Y _ _ _ _ _
   |exact LeO.none _
   |refine LeO.ite ?_ ?_
   |refine LeO.bind ?_ (fun _=>?_)
theorem newelref19_Same.mono:∀ I D a2 X k,LeO (newelref19_Same.f k I D a2 X) (newelref19_Same.f (k+1) I D a2 X):=by
 intro I D a2 X k
 obtain⟨B,U,Y⟩:=newelref19_Same.Zi k
 unfold newelref19_Same.f
 repeat' first
   |(with_reducible exact B _ _ _ _ _)
   |(with_reducible exact U _ _ _ _ _)
   |(with_reducible exact Y _ _ _ _ _)
   |(with_reducible exact LeO.refl _)
   |(with_reducible exact LeO.none _)
   |(with_reducible refine LeO.ite ?_ ?_)
   |(with_reducible refine LeO.bind ?_ (fun _=>?_))
   |exact B _ _ _ _ _
   |exact U _ _ _ _ _
   |exact Y _ _ _ _ _
   |exact LeO.none _
   |refine LeO.ite ?_ ?_
   |refine LeO.bind ?_ (fun _=>?_)
set_option maxHeartbeats 8000000 in
set_option maxRecDepth 100000 in
theorem newelref19_Same.calls (k:Nat) (μ :Option Addr) (ζ :Nat) (I:List (S56)) (Y:Option Addr) (Z:Nat) (J:List (S62)) (η :Option Addr) (δ :Nat) (B:List (S56)) (θ :Option Addr) (ε :Nat) (D:List (S62)) (r:Bool) (w:World) (a5:Kd.C k56 w μ I.length I) (a6:I.length ≤ ζ) (τ :Kd.C k62 w Y J.length J) (φ :J.length≤Z) (b4:Kd.C k56 w η B.length B) (b5:B.length ≤ δ) (b6:Kd.C k62 w θ D.length D) (b7:D.length ≤ ε) (h:newelref19_Same.f k I J B D=some r):
  Calls Try.prog 15 #[.agg #[.slice μ I.length ζ,.slice Y J.length Z],.agg #[.slice η B.length δ,.slice θ D.length ε]] w fun e w'=>e = .returned (.bool r)∧Below w.heap.size w w':=by
 have d4:=Try.underlying27
 have bq:=Try.underlying56
 have bd:=Try.underlying62
 have χ :=Aside0.mk a5
 have a7:=Aside0.mk a6
 clear a5 a6
 have bo:=Aside0.mk τ
 have ct:=Aside0.mk φ
 clear τ φ
 have ag:=Aside0.mk b4
 have ar:=Aside0.mk b5
 clear b4 b5
 have ah:=Aside0.mk b6
 have aw:=Aside0.mk b7
 clear b6 b7
 have HB:=Aside0.mk (Below.refl w.heap.size w)
 have H:(if (I.length:Int)=(B.length:Int) then (newelref19_Same.j0 k ((J.length:Int) != (D.length:Int)) I J B D) else (newelref19_Same.j0 k true I J B D))=some r:=h
 clear h
 have ae:=Aside0.mk H
 clear H
 go_enter Try.func15,Try.ntmps15
 go_upto_region 1 with(first|((with_reducible refine Qr (N:=2) rfl ?_);(try(refine Z5 (by rfl) ?_;dsimp only));refine qE 2 #[.slice μ I.length ζ,.slice Y J.length Z] 27 ?_;intro κ hg w4 hbox hb;have U:=Aside0.mk hbox;have bp:=sGe hg;have bs:=sGe hg;replace HB:=sHb hb;clear hb hbox hg)|((with_reducible refine Qr (N:=3) rfl ?_);(try(refine Z5 (by rfl) ?_;dsimp only));refine qE 3 #[.slice η B.length δ,.slice θ D.length ε] 27 ?_;intro ba hg w5 hbox hb;have O:=Aside0.mk hbox;have cq:=sGe hg;have cu:=sGe hg;have γ:=sNl U hg;have ι :=sNg U hg;replace U:=sBk U hb;replace HB:=sHb hb;clear hb hbox hg))
 repeat(go_quiet (first|((with_reducible refine Qr (N:=2) rfl ?_);(try(refine Z5 (by rfl) ?_;dsimp only));refine qE 2 #[.slice μ I.length ζ,.slice Y J.length Z] 27 ?_;intro κ hg w4 hbox hb;have U:=Aside0.mk hbox;have bp:=sGe hg;have bs:=sGe hg;replace HB:=sHb hb;clear hb hbox hg)|((with_reducible refine Qr (N:=3) rfl ?_);(try(refine Z5 (by rfl) ?_;dsimp only));refine qE 3 #[.slice η B.length δ,.slice θ D.length ε] 27 ?_;intro ba hg w5 hbox hb;have O:=Aside0.mk hbox;have cq:=sGe hg;have cu:=sGe hg;have γ:=sNl U hg;have ι :=sNg U hg;replace U:=sBk U hb;replace HB:=sHb hb;clear hb hbox hg));go_upto_region 1 with(first|((with_reducible refine Qr (N:=2) rfl ?_);(try(refine Z5 (by rfl) ?_;dsimp only));refine qE 2 #[.slice μ I.length ζ,.slice Y J.length Z] 27 ?_;intro κ hg w4 hbox hb;have U:=Aside0.mk hbox;have bp:=sGe hg;have bs:=sGe hg;replace HB:=sHb hb;clear hb hbox hg)|((with_reducible refine Qr (N:=3) rfl ?_);(try(refine Z5 (by rfl) ?_;dsimp only));refine qE 3 #[.slice η B.length δ,.slice θ D.length ε] 27 ?_;intro ba hg w5 hbox hb;have O:=Aside0.mk hbox;have cq:=sGe hg;have cu:=sGe hg;have γ:=sNl U hg;have ι :=sNg U hg;replace U:=sBk U hb;replace HB:=sHb hb;clear hb hbox hg)))
 (try simp only[Act.put,qS])
 go_cut [22] (fun dl wc=>∃ (kq:Nat) (co:Bool),dl = .bool co∧Aside0 (newelref19_Same.j0 kq co I J B D=some r)∧Aside0 (kq≤k)∧Aside0 (wc.heap[κ]?=some (.cells #[(.slice μ I.length ζ),(.slice Y J.length Z)] 27 (0,0)))∧Aside0 (wc.heap[ba]?=some (.cells #[(.slice η B.length δ),(.slice θ D.length ε)] 27 (0,0)))∧Aside0 (Below w.heap.size w wc))
 case first=>
  have H:=ae.out
  clear ae
  by_cases c6:(I.length:Int)=(B.length:Int)
  ·rw[if_pos c6] at H
   have c6b0:((I.length:Int)==(B.length:Int))=true:=beq_iff_eq.mpr c6
   have c6b1:((I.length:Int) != (B.length:Int))=false:=bne_eq_false_iff_eq.mpr c6
   have c6b2:(I.length==B.length)=true:=by first|simpa using c6|(simp at c6 ⊢;omega)
   clear c6
   (first|rw[c6b0]|(simp only[X5,Ys];rw[c6b0])|skip)
   have H':=Aside0.mk H
   clear H
   have de:=γ.out
   have df:= ι.out
   obtain⟨al,an,ao,ap⟩:=qD2 U.out
   obtain⟨bc,bh,bi,bj⟩:=qD2 O.out
   go_wp2
   repeat(go_quiet (fail);try go_wp2)
   go_meet
   case rel=>exact⟨_,(((J.length:Int) != (D.length:Int))),rfl,H',⟨by first|omega|exact Nat.le_refl _⟩,U,O,HB⟩
  ·rw[if_neg c6] at H
   have c6b0:((I.length:Int)==(B.length:Int))=false:=beq_eq_false_iff_ne.mpr c6
   have c6b1:((I.length:Int) != (B.length:Int))=true:=bne_iff_ne.mpr c6
   have c6b2:(I.length==B.length)=false:=by first|simpa using c6|(simp at c6 ⊢;omega)
   (first|rw[c6b0]|(simp only[X5,Ys];rw[c6b0])|skip)
   have H':=Aside0.mk H
   clear H
   have d2:=γ.out
   have d3:= ι.out
   obtain⟨ac,af,ai,aj⟩:=qD2 U.out
   obtain⟨av,ax,ay,b0⟩:=qD2 O.out
   go_wp2
   repeat(go_quiet (fail);try go_wp2)
   go_meet
   case rel=>exact⟨_,(true),rfl,H',⟨by first|omega|exact Nat.le_refl _⟩,U,O,HB⟩
 case rest=>
  clear ae
  try clear c1
  try clear p2
  try clear c6
  try clear c6b0
  try clear c6b1
  try clear c6b2
  try clear c7
  try clear c10
  try clear ac
  try clear af
  try clear av
  try clear ax
  try clear al
  try clear an
  try clear bc
  try clear bh
  try clear ai
  try clear aj
  try clear ay
  try clear b0
  try clear ao
  try clear ap
  try clear bi
  try clear bj
  obtain⟨kq,co,rfl,HA,cx,U,O,HB⟩:=hcut
  cases kq with
  |zero=>exact absurd HA.out (by simp[newelref19_Same.j0])
  |succ d5=>
   have H:=HA.out
   clear HA
   simp only[newelref19_Same.j0] at H
   by_cases bg:co=true
   ·subst bg
    have H1:(some false)=some r:=by rw[if_pos rfl] at H;exact H
    clear H
    have H:=H1
    clear H1
    obtain rfl:=Option.some.inj H
    go_wp2
    repeat(go_quiet (fail);try go_wp2)
    go_ret
    exact⟨rfl,HB.out⟩
   ·replace bg:=Bool.eq_false_iff.mpr bg
    subst bg
    have H1:(newelref19_Same.l0 d5 0 I J B D)=some r:=by rw[if_neg (show ¬ (false=true) by decide)] at H;exact H
    clear H
    have H:=H1
    clear H1
    have H':=Aside0.mk H
    clear H
    go_wp2
    repeat(go_quiet (fail);try go_wp2)
    go_loopg [5] d5 (fun kq v5 w'=>∃ (L:Int),v5 = .int .i64 L∧Aside0 (newelref19_Same.l0 kq L I J B D=some r)∧Aside0 (kq≤d5)∧Aside0 (w'.heap[κ]?=some (.cells #[(.slice μ I.length ζ),(.slice Y J.length Z)] 27 (0,0)))∧Aside0 (w'.heap[ba]?=some (.cells #[(.slice η B.length δ),(.slice θ D.length ε)] 27 (0,0)))∧Aside0 (Below w.heap.size w w'))
    case atStart=>exact⟨(0),rfl,H',⟨Nat.le_refl _⟩,U,O,HB⟩
    case round=>
     clear H'
     try clear c1
     try clear p2
     try clear c6
     try clear c6b0
     try clear c6b1
     try clear c6b2
     try clear c7
     try clear c10
     try clear bg
     try clear ac
     try clear af
     try clear av
     try clear ax
     try clear al
     try clear an
     try clear bc
     try clear bh
     try clear ai
     try clear aj
     try clear ay
     try clear b0
     try clear ao
     try clear ap
     try clear bi
     try clear bj
     try clear p2
     obtain⟨L,rfl,HA,bm,U,O,HB⟩:=hrel
     cases gk with
     |zero=>exact absurd HA.out (by simp[newelref19_Same.l0])
     |succ k2=>
      have H:=HA.out
      clear HA
      simp only[newelref19_Same.l0] at H
      by_cases az:L<(I.length:Int)
      ·rw[if_pos az] at H
       have c14b0:decide (L<(I.length:Int))=true:=decide_eq_true az
       clear az
       by_cases a8:0≤L
       ·rw[if_pos a8] at H
        have c15b0:decide (0≤L)=true:=decide_eq_true a8
        clear a8
        by_cases a3:L<(B.length:Int)
        ·rw[if_pos a3] at H
         have c16b0:decide (L<(B.length:Int))=true:=decide_eq_true a3
         clear a3
         by_cases au:(!(((Qg I L).f0)==((Qg B L).f0))||(!(((Qg I L).f1)==((Qg B L).f1))||(!(((Qg I L).f2)==((Qg B L).f2)))))=true
         ·rw[if_pos au] at H
          have c17b0:(!(((Qg I L).f0)==((Qg B L).f0))||(!(((Qg I L).f1)==((Qg B L).f1))||(!(((Qg I L).f2)==((Qg B L).f2)))))=true:=au
          (try(have c17s0:=c17b0;simp only[beq_self_eq_true,bne_self_eq_false,Bool.not_true,Bool.not_false,Bool.true_and,Bool.and_true,Bool.false_or,Bool.or_false] at c17s0))
          clear au
          obtain rfl:=Option.some.inj H
          have cb:=γ.out
          have cg:= ι.out
          obtain⟨b1,b2,b3,b8⟩:=qD2 U.out
          have bu:0≤(L:Int):=of_decide_eq_true (by assumption)
          have bz:L<(I.length:Int):=of_decide_eq_true (by assumption)
          obtain⟨d6,cy,ν,ξ,ρ⟩:=Z3 χ.out L bu bz
          cases cy
          replace ν :=(HB.out.cell (World.block_lt_of_cell? w _ ν)).trans ν
          replace ξ :=(HB.out.cell (World.block_lt_of_cell? w _ ξ)).trans ξ
          replace ρ:=(HB.out.cell (World.block_lt_of_cell? w _ ρ)).trans ρ
          replace bu:=eq_true bu
          replace bz:=eq_true bz
          obtain⟨b9,bb,be,bf⟩:=qD2 O.out
          have a9:0≤(L:Int):=of_decide_eq_true (by assumption)
          have aa:L<(B.length:Int):=of_decide_eq_true (by assumption)
          obtain⟨ab,br,ψ,ω,a2⟩:=Z3 ag.out L a9 aa
          cases br
          replace ψ :=(HB.out.cell (World.block_lt_of_cell? w _ ψ)).trans ψ
          replace ω :=(HB.out.cell (World.block_lt_of_cell? w _ ω)).trans ω
          replace a2:=(HB.out.cell (World.block_lt_of_cell? w _ a2)).trans a2
          replace a9:=eq_true a9
          replace aa:=eq_true aa
          go_wp2
          repeat(go_quiet (fail);try go_wp2)
          go_ret
          exact⟨by first|rfl|(simp[Qz,Qy] <;> rfl)|(simp[*,Qz,Qy] <;> rfl),bel⟩
         ·rw[if_neg au] at H
          have c17b0:(!(((Qg I L).f0)==((Qg B L).f0))||(!(((Qg I L).f1)==((Qg B L).f1))||(!(((Qg I L).f2)==((Qg B L).f2)))))=false:=by simpa using au
          (try(have c17s0:=c17b0;simp only[beq_self_eq_true,bne_self_eq_false,Bool.not_true,Bool.not_false,Bool.true_and,Bool.and_true,Bool.false_or,Bool.or_false] at c17s0))
          clear au
          have H':=Aside0.mk H
          clear H
          have e3:=γ.out
          have e4:= ι.out
          obtain⟨bk,bn,bv,bw⟩:=qD2 U.out
          have bu:0≤(L:Int):=of_decide_eq_true (by assumption)
          have bz:L<(I.length:Int):=of_decide_eq_true (by assumption)
          obtain⟨d6,cy,ν,ξ,ρ⟩:=Z3 χ.out L bu bz
          cases cy
          replace ν :=(HB.out.cell (World.block_lt_of_cell? w _ ν)).trans ν
          replace ξ :=(HB.out.cell (World.block_lt_of_cell? w _ ξ)).trans ξ
          replace ρ:=(HB.out.cell (World.block_lt_of_cell? w _ ρ)).trans ρ
          replace bu:=eq_true bu
          replace bz:=eq_true bz
          obtain⟨ch,ci,cj,ck⟩:=qD2 O.out
          have a9:0≤(L:Int):=of_decide_eq_true (by assumption)
          have aa:L<(B.length:Int):=of_decide_eq_true (by assumption)
          obtain⟨ab,br,ψ,ω,a2⟩:=Z3 ag.out L a9 aa
          cases br
          replace ψ :=(HB.out.cell (World.block_lt_of_cell? w _ ψ)).trans ψ
          replace ω :=(HB.out.cell (World.block_lt_of_cell? w _ ω)).trans ω
          replace a2:=(HB.out.cell (World.block_lt_of_cell? w _ a2)).trans a2
          replace a9:=eq_true a9
          replace aa:=eq_true aa
          go_wp2
          repeat(go_quiet (fail);try go_wp2)
          go_roundg k2
          case measure=>have:=cx.out;have:=bm.out;omega
          case rel=>exact⟨(wrap64 (L+1)),qR,H',⟨by have:=cx.out;have:=bm.out;omega⟩,⟨bka U⟩,⟨bka O⟩,⟨bel⟩⟩
        ·rw[if_neg a3] at H
         exact absurd H (by simp)
       ·rw[if_neg a8] at H
        exact absurd H (by simp)
      ·rw[if_neg az] at H
       have c14b0:decide (L<(I.length:Int))=false:=decide_eq_false az
       clear az
       have H':=Aside0.mk H
       clear H
       have eg:=γ.out
       have ej:= ι.out
       obtain⟨ew,ey,f3,f4⟩:=qD2 U.out
       go_wp2
       repeat(go_quiet (fail);try go_wp2)
       go_loopg [6] k2 (fun kq v6 w'=>∃ (X:Int),v6 = .int .i64 X∧Aside0 (newelref19_Same.l1 kq X I J B D=some r)∧Aside0 (kq≤k2)∧Aside0 (w'.heap[κ]?=some (.cells #[(.slice μ I.length ζ),(.slice Y J.length Z)] 27 (0,0)))∧Aside0 (w'.heap[ba]?=some (.cells #[(.slice η B.length δ),(.slice θ D.length ε)] 27 (0,0)))∧Aside0 (Below w.heap.size w w'))
       case atStart=>exact⟨(0),rfl,H',⟨Nat.le_refl _⟩,U,O,HB⟩
       case round=>
        clear H'
        try clear c1
        try clear p1
        try clear q1
        try clear bl
        try clear c2
        try clear p2
        try clear c6
        try clear c6b0
        try clear c6b1
        try clear c6b2
        try clear p6
        try clear c7
        try clear c10
        try clear dj
        try clear dk
        try clear da
        try clear bg
        try clear az
        try clear c14b0
        try clear a8
        try clear c15b0
        try clear a3
        try clear c16b0
        try clear au
        try clear c17b0
        try clear cd
        try clear cr
        try clear ib
        try clear ac
        try clear af
        try clear av
        try clear ax
        try clear b1
        try clear b2
        try clear b9
        try clear bb
        try clear bk
        try clear bn
        try clear ch
        try clear ci
        try clear ew
        try clear ey
        try clear al
        try clear an
        try clear bc
        try clear bh
        try clear ai
        try clear aj
        try clear ay
        try clear b0
        try clear b3
        try clear b8
        try clear be
        try clear bf
        try clear bv
        try clear bw
        try clear cj
        try clear ck
        try clear f3
        try clear f4
        try clear ao
        try clear ap
        try clear bi
        try clear bj
        try clear ν
        try clear ξ
        try clear ρ
        try clear ψ
        try clear ω
        try clear a2
        try clear bu
        try clear a9
        try clear p2
        try clear bz
        try clear aa
        obtain⟨X,rfl,HA,d9,U,O,HB⟩:=hrel
        cases gk with
        |zero=>exact absurd HA.out (by simp[newelref19_Same.l1])
        |succ k3=>
         have H:=HA.out
         clear HA
         simp only[newelref19_Same.l1] at H
         by_cases am:X<(J.length:Int)
         ·rw[if_pos am] at H
          have c26b0:decide (X<(J.length:Int))=true:=decide_eq_true am
          clear am
          by_cases dc:0≤X
          ·rw[if_pos dc] at H
           have c27b0:decide (0≤X)=true:=decide_eq_true dc
           clear dc
           by_cases ak:X<(D.length:Int)
           ·rw[if_pos ak] at H
            have c28b0:decide (X<(D.length:Int))=true:=decide_eq_true ak
            clear ak
            by_cases cf:(!(((Qp J X).f0)==((Qp D X).f0))||(!(((Qp J X).f1)==((Qp D X).f1))))=true
            ·rw[if_pos cf] at H
             have c29b0:(!(((Qp J X).f0)==((Qp D X).f0))||(!(((Qp J X).f1)==((Qp D X).f1))))=true:=cf
             (try(have c29s0:=c29b0;simp only[beq_self_eq_true,bne_self_eq_false,Bool.not_true,Bool.not_false,Bool.true_and,Bool.and_true,Bool.false_or,Bool.or_false] at c29s0))
             clear cf
             obtain rfl:=Option.some.inj H
             have hu:=γ.out
             have hx:= ι.out
             obtain⟨fj,fk,fl,fm⟩:=qD2 U.out
             have ca:0≤(X:Int):=of_decide_eq_true (by assumption)
             have ce:X<(J.length:Int):=of_decide_eq_true (by assumption)
             obtain⟨d7,cz,σ,a0⟩:=Z8 bo.out X ca ce
             cases cz
             replace σ:=(HB.out.cell (World.block_lt_of_cell? w _ σ)).trans σ
             replace a0:=(HB.out.cell (World.block_lt_of_cell? w _ a0)).trans a0
             replace ca:=eq_true ca
             replace ce:=eq_true ce
             obtain⟨db,dd,dh,di⟩:=qD2 O.out
             have cm:0≤(X:Int):=of_decide_eq_true (by assumption)
             have cn:X<(D.length:Int):=of_decide_eq_true (by assumption)
             obtain⟨d8,d0,a1,a4⟩:=Z8 ah.out X cm cn
             cases d0
             replace a1:=(HB.out.cell (World.block_lt_of_cell? w _ a1)).trans a1
             replace a4:=(HB.out.cell (World.block_lt_of_cell? w _ a4)).trans a4
             replace cm:=eq_true cm
             replace cn:=eq_true cn
             go_wp2
             repeat(go_quiet (fail);try go_wp2)
             go_ret
             exact⟨by first|rfl|(simp[Qz,Qy] <;> rfl)|(simp[*,Qz,Qy] <;> rfl),bel⟩
            ·rw[if_neg cf] at H
             have c29b0:(!(((Qp J X).f0)==((Qp D X).f0))||(!(((Qp J X).f1)==((Qp D X).f1))))=false:=by simpa using cf
             (try(have c29s0:=c29b0;simp only[beq_self_eq_true,bne_self_eq_false,Bool.not_true,Bool.not_false,Bool.true_and,Bool.and_true,Bool.false_or,Bool.or_false] at c29s0))
             clear cf
             have H':=Aside0.mk H
             clear H
             have g3:=γ.out
             have g4:= ι.out
             obtain⟨e6,e7,e8,e9⟩:=qD2 U.out
             have ca:0≤(X:Int):=of_decide_eq_true (by assumption)
             have ce:X<(J.length:Int):=of_decide_eq_true (by assumption)
             obtain⟨d7,cz,σ,a0⟩:=Z8 bo.out X ca ce
             cases cz
             replace σ:=(HB.out.cell (World.block_lt_of_cell? w _ σ)).trans σ
             replace a0:=(HB.out.cell (World.block_lt_of_cell? w _ a0)).trans a0
             replace ca:=eq_true ca
             replace ce:=eq_true ce
             obtain⟨er,et,eu,ev⟩:=qD2 O.out
             have cm:0≤(X:Int):=of_decide_eq_true (by assumption)
             have cn:X<(D.length:Int):=of_decide_eq_true (by assumption)
             obtain⟨d8,d0,a1,a4⟩:=Z8 ah.out X cm cn
             cases d0
             replace a1:=(HB.out.cell (World.block_lt_of_cell? w _ a1)).trans a1
             replace a4:=(HB.out.cell (World.block_lt_of_cell? w _ a4)).trans a4
             replace cm:=eq_true cm
             replace cn:=eq_true cn
             go_wp2
             repeat(go_quiet (fail);try go_wp2)
             go_roundg k3
             case measure=>have:=cx.out;have:=bm.out;have:=d9.out;omega
             case rel=>exact⟨(wrap64 (X+1)),qR,H',⟨by have:=cx.out;have:=bm.out;have:=d9.out;omega⟩,⟨bka U⟩,⟨bka O⟩,⟨bel⟩⟩
           ·rw[if_neg ak] at H
            exact absurd H (by simp)
          ·rw[if_neg dc] at H
           exact absurd H (by simp)
         ·rw[if_neg am] at H
          have c26b0:decide (X<(J.length:Int))=false:=decide_eq_false am
          clear am
          obtain rfl:=Option.some.inj H
          have ek:=γ.out
          have el:= ι.out
          obtain⟨cp,cv,cw,d1⟩:=qD2 U.out
          go_wp2
          repeat(go_quiet (fail);try go_wp2)
          go_ret
          exact⟨by first|rfl|(simp[Qz,Qy] <;> rfl)|(simp[*,Qz,Qy] <;> rfl),bel⟩
end Go.Proofs.Ytjehhhlhalkieaa.C
namespace Go.Proofs.Ytjehhhlhalkieaa.C
open Go.RowKit Go.Proofs.YtjehhhlhalkieaaW.PrintWords Go.Proofs.YtjehhhlhalkieaaW.PrintLast Go.Proofs.YtjehhhlhalkieaaW.PrintMore
attribute [local go_sem] Z2 Z0 Xb Xa Zq Zp Z1 Zz
set_option linter.unusedVariables false
set_option linter.unusedSimpArgs false
attribute [local go_sem high] Nq
def api_Hall.l0:Nat→List (S56)→List (S56)→Int→Int→Option (Bool)
 |0,_,_,_,_=>none
 |k+1,J,L,D,B=>if B<D then (if 0≤B then (if B<(J.length:Int) then (if B<(L.length:Int) then (if (!(((Qg J B).f0)==((Qg L B).f0))||(!(((Qg J B).f1)==((Qg L B).f1))||(!(((Qg J B).f2)==((Qg L B).f2)))))=true then (some false) else (api_Hall.l0 k J L D (wrap64 (B+1)))) else (none)) else (none)) else (none)) else (some true)
def api_Hall.f (k:Nat) (l0:List (S56)) (l1:List (S56)):Option (Bool):=if (l0.length:Int)=(l1.length:Int) then (api_Hall.l0 k l0 l1 (l0.length:Int) 0) else (some false)
theorem api_Hall.Zi:∀ k,(∀ D I O J,LeO (api_Hall.l0 k D I O J) (api_Hall.l0 (k+1) D I O J))
 |0=>fun _ _ _ _ r h=>by simp[api_Hall.l0] at h
 |k+1=>by
  have B:=api_Hall.Zi k
  ·intro D I O J
   unfold api_Hall.l0
   repeat' first
   |(with_reducible exact B _ _ _ _)
   |(with_reducible exact LeO.refl _)
   |(with_reducible exact LeO.none _)
   |(with_reducible refine LeO.ite ?_ ?_)
   |(with_reducible refine LeO.bind ?_ (fun _=>?_))
   |exact B _ _ _ _
   |exact LeO.none _
   |refine LeO.ite ?_ ?_
   |refine LeO.bind ?_ (fun _=>?_)
theorem api_Hall.mono:∀ I D k,LeO (api_Hall.f k I D) (api_Hall.f (k+1) I D):=by
 intro I D k
 have B:=api_Hall.Zi k
 unfold api_Hall.f
 repeat' first
   |(with_reducible exact B _ _ _ _)
   |(with_reducible exact LeO.refl _)
   |(with_reducible exact LeO.none _)
   |(with_reducible refine LeO.ite ?_ ?_)
   |(with_reducible refine LeO.bind ?_ (fun _=>?_))
   |exact B _ _ _ _
   |exact LeO.none _
   |refine LeO.ite ?_ ?_
   |refine LeO.bind ?_ (fun _=>?_)
set_option maxHeartbeats 8000000 in
set_option maxRecDepth 100000 in
theorem api_Hall.calls (k:Nat) (Y:Option Addr) (c0:Nat) (l0:List (S56)) (A1:Option Addr) (c1:Nat) (l1:List (S56)) (r:Bool) (w:World) (ε :Kd.C k56 w Y l0.length l0) (γ:l0.length≤c0) (δ :Kd.C k56 w A1 l1.length l1) (U:l1.length≤c1) (h:api_Hall.f k l0 l1=some r):
  Calls Try.prog 48 #[.slice Y l0.length c0,.slice A1 l1.length c1] w fun e w'=>e = .returned (.bool r)∧Drawn0 w w':=by
 have bq:=Try.underlying56
 have μ :=Aside0.mk ε
 have a6:=Aside0.mk γ
 clear ε γ
 have η :=Aside0.mk δ
 have φ :=Aside0.mk U
 clear δ U
 have H:(if (l0.length:Int)=(l1.length:Int) then (api_Hall.l0 k l0 l1 (l0.length:Int) 0) else (some false))=some r:=h
 clear h
 by_cases c3:(l0.length:Int)=(l1.length:Int)
 ·rw[if_pos c3] at H
  have c3b0:((l0.length:Int)==(l1.length:Int))=true:=beq_iff_eq.mpr c3
  have c3b1:((l0.length:Int) != (l1.length:Int))=false:=bne_eq_false_iff_eq.mpr c3
  have c3b2:(l0.length==l1.length)=true:=by first|simpa using c3|(simp at c3 ⊢;omega)
  clear c3
  have H':=Aside0.mk H
  clear H
  go_enter Try.func48,Try.ntmps48
  go_wp2
  repeat(go_quiet (fail);try go_wp2)
  go_loopg [13] k (fun kq σ w'=>∃ (B:Int),σ = .int .i64 B∧Aside0 (api_Hall.l0 kq l0 l1 (l0.length:Int) B=some r)∧Aside0 (kq≤k)∧Drawn0 w w')
  case atStart=>exact⟨(0),qR,H',⟨Nat.le_refl _⟩,by repeat(first|exact Drawn0.refl _|apply Drawn0.step)⟩
  case round=>
   clear H'
   try clear c1
   try clear p2
   try clear c3
   try clear c3b0
   try clear c3b1
   try clear c3b2
   obtain⟨B,rfl,HA,ξ,⟨m1,rfl⟩⟩:=hrel
   cases gk with
   |zero=>exact absurd HA.out (by simp[api_Hall.l0])
   |succ k1=>
    have H:=HA.out
    clear HA
    simp only[api_Hall.l0] at H
    by_cases c4:B<(l0.length:Int)
    ·rw[if_pos c4] at H
     have c4b0:decide (B<(l0.length:Int))=true:=decide_eq_true c4
     clear c4
     by_cases c5:0≤B
     ·rw[if_pos c5] at H
      have c5b0:decide (0≤B)=true:=decide_eq_true c5
      clear c5
      by_cases c6:B<(l0.length:Int)
      ·rw[if_pos c6] at H
       have c6b0:decide (B<(l0.length:Int))=true:=decide_eq_true c6
       clear c6
       by_cases c7:B<(l1.length:Int)
       ·rw[if_pos c7] at H
        have c7b0:decide (B<(l1.length:Int))=true:=decide_eq_true c7
        clear c7
        by_cases c8:(!(((Qg l0 B).f0)==((Qg l1 B).f0))||(!(((Qg l0 B).f1)==((Qg l1 B).f1))||(!(((Qg l0 B).f2)==((Qg l1 B).f2)))))=true
        ·rw[if_pos c8] at H
         have c8b0:(!(((Qg l0 B).f0)==((Qg l1 B).f0))||(!(((Qg l0 B).f1)==((Qg l1 B).f1))||(!(((Qg l0 B).f2)==((Qg l1 B).f2)))))=true:=c8
         (try(have c8s0:=c8b0;simp only[beq_self_eq_true,bne_self_eq_false,Bool.not_true,Bool.not_false,Bool.true_and,Bool.and_true,Bool.false_or,Bool.or_false] at c8s0))
         clear c8
         obtain rfl:=Option.some.inj H
         have D:0≤(B:Int):=of_decide_eq_true (by first|(with_reducible assumption)|assumption)
         have Z:B<(l0.length:Int):=of_decide_eq_true (by first|(with_reducible assumption)|assumption)
         obtain⟨τ,θ,ι,κ,ν⟩:=Z3 μ.out B D Z
         cases θ
         replace D:=eq_true D
         replace Z:=eq_true Z
         have L:0≤(B:Int):=of_decide_eq_true (by first|(with_reducible assumption)|assumption)
         have O:B<(l1.length:Int):=of_decide_eq_true (by first|(with_reducible assumption)|assumption)
         obtain⟨ζ,X,I,J,ρ⟩:=Z3 η.out B L O
         cases X
         replace L:=eq_true L
         replace O:=eq_true O
         go_wp2
         repeat(go_quiet (fail);try go_wp2)
         go_ret
         exact⟨qR,by repeat(first|exact Drawn0.refl _|apply Drawn0.step)⟩
        ·rw[if_neg c8] at H
         have c8b0:(!(((Qg l0 B).f0)==((Qg l1 B).f0))||(!(((Qg l0 B).f1)==((Qg l1 B).f1))||(!(((Qg l0 B).f2)==((Qg l1 B).f2)))))=false:=by simpa using c8
         (try(have c8s0:=c8b0;simp only[beq_self_eq_true,bne_self_eq_false,Bool.not_true,Bool.not_false,Bool.true_and,Bool.and_true,Bool.false_or,Bool.or_false] at c8s0))
         clear c8
         have H':=Aside0.mk H
         clear H
         have D:0≤(B:Int):=of_decide_eq_true (by first|(with_reducible assumption)|assumption)
         have Z:B<(l0.length:Int):=of_decide_eq_true (by first|(with_reducible assumption)|assumption)
         obtain⟨τ,θ,ι,κ,ν⟩:=Z3 μ.out B D Z
         cases θ
         replace D:=eq_true D
         replace Z:=eq_true Z
         have L:0≤(B:Int):=of_decide_eq_true (by first|(with_reducible assumption)|assumption)
         have O:B<(l1.length:Int):=of_decide_eq_true (by first|(with_reducible assumption)|assumption)
         obtain⟨ζ,X,I,J,ρ⟩:=Z3 η.out B L O
         cases X
         replace L:=eq_true L
         replace O:=eq_true O
         go_wp2
         repeat(go_quiet (fail);try go_wp2)
         go_roundg k1
         case measure=>have:= ξ.out;omega
         case rel=>exact⟨(wrap64 (B+1)),qR,H',⟨by have:= ξ.out;omega⟩,by repeat(first|exact Drawn0.refl _|apply Drawn0.step)⟩
       ·rw[if_neg c7] at H
        exact absurd H (by simp)
      ·rw[if_neg c6] at H
       exact absurd H (by simp)
     ·rw[if_neg c5] at H
      exact absurd H (by simp)
    ·rw[if_neg c4] at H
     have c4b0:decide (B<(l0.length:Int))=false:=decide_eq_false c4
     clear c4
     obtain rfl:=Option.some.inj H
     go_wp2
     repeat(go_quiet (fail);try go_wp2)
     go_ret
     exact⟨qR,by repeat(first|exact Drawn0.refl _|apply Drawn0.step)⟩
 ·rw[if_neg c3] at H
  have c3b0:((l0.length:Int)==(l1.length:Int))=false:=beq_eq_false_iff_ne.mpr c3
  have c3b1:((l0.length:Int) != (l1.length:Int))=true:=bne_iff_ne.mpr c3
  have c3b2:(l0.length==l1.length)=false:=by first|simpa using c3|(simp at c3 ⊢;omega)
  obtain rfl:=Option.some.inj H
  go_enter Try.func48,Try.ntmps48
  go_wp2
  repeat(go_quiet (fail);try go_wp2)
  go_ret
  exact⟨qR,by repeat(first|exact Drawn0.refl _|apply Drawn0.step)⟩
end Go.Proofs.Ytjehhhlhalkieaa.C
namespace Go.Proofs.Ytjehhhlhalkieaa.C
open Go.RowKit Go.Proofs.YtjehhhlhalkieaaW.PrintWords Go.Proofs.YtjehhhlhalkieaaW.PrintLast Go.Proofs.YtjehhhlhalkieaaW.PrintMore
attribute [local go_sem] Z2 Z0 Xb Xa Zq Zp Z1 Zz
set_option linter.unusedVariables false
set_option linter.unusedSimpArgs false
attribute [local go_sem high] Np
def api_Inside.l0:Nat→List (S62)→List (S62)→Int→Int→Option (Bool)
 |0,_,_,_,_=>none
 |k+1,J,L,D,B=>if B<D then (if 0≤B then (if B<(J.length:Int) then (if B<(L.length:Int) then (if (!(((Qp J B).f0)==((Qp L B).f0))||(!(((Qp J B).f1)==((Qp L B).f1))))=true then (some false) else (api_Inside.l0 k J L D (wrap64 (B+1)))) else (none)) else (none)) else (none)) else (some true)
def api_Inside.f (k:Nat) (l0:List (S62)) (l1:List (S62)):Option (Bool):=if (l0.length:Int)=(l1.length:Int) then (api_Inside.l0 k l0 l1 (l0.length:Int) 0) else (some false)
theorem api_Inside.Zi:∀ k,(∀ D I O J,LeO (api_Inside.l0 k D I O J) (api_Inside.l0 (k+1) D I O J))
 |0=>fun _ _ _ _ r h=>by simp[api_Inside.l0] at h
 |k+1=>by
  have B:=api_Inside.Zi k
  ·intro D I O J
   unfold api_Inside.l0
   repeat' first
   |(with_reducible exact B _ _ _ _)
   |(with_reducible exact LeO.refl _)
   |(with_reducible exact LeO.none _)
   |(with_reducible refine LeO.ite ?_ ?_)
   |(with_reducible refine LeO.bind ?_ (fun _=>?_))
   |exact B _ _ _ _
   |exact LeO.none _
   |refine LeO.ite ?_ ?_
   |refine LeO.bind ?_ (fun _=>?_)
theorem api_Inside.mono:∀ I D k,LeO (api_Inside.f k I D) (api_Inside.f (k+1) I D):=by
 intro I D k
 have B:=api_Inside.Zi k
 unfold api_Inside.f
 repeat' first
   |(with_reducible exact B _ _ _ _)
   |(with_reducible exact LeO.refl _)
   |(with_reducible exact LeO.none _)
   |(with_reducible refine LeO.ite ?_ ?_)
   |(with_reducible refine LeO.bind ?_ (fun _=>?_))
   |exact B _ _ _ _
   |exact LeO.none _
   |refine LeO.ite ?_ ?_
   |refine LeO.bind ?_ (fun _=>?_)
set_option maxHeartbeats 8000000 in
set_option maxRecDepth 100000 in
theorem api_Inside.calls (k:Nat) (Y:Option Addr) (c0:Nat) (l0:List (S62)) (A1:Option Addr) (c1:Nat) (l1:List (S62)) (r:Bool) (w:World) (ε :Kd.C k62 w Y l0.length l0) (γ:l0.length≤c0) (δ :Kd.C k62 w A1 l1.length l1) (U:l1.length≤c1) (h:api_Inside.f k l0 l1=some r):
  Calls Try.prog 49 #[.slice Y l0.length c0,.slice A1 l1.length c1] w fun e w'=>e = .returned (.bool r)∧Drawn0 w w':=by
 have bd:=Try.underlying62
 have μ :=Aside0.mk ε
 have a6:=Aside0.mk γ
 clear ε γ
 have η :=Aside0.mk δ
 have φ :=Aside0.mk U
 clear δ U
 have H:(if (l0.length:Int)=(l1.length:Int) then (api_Inside.l0 k l0 l1 (l0.length:Int) 0) else (some false))=some r:=h
 clear h
 by_cases c3:(l0.length:Int)=(l1.length:Int)
 ·rw[if_pos c3] at H
  have c3b0:((l0.length:Int)==(l1.length:Int))=true:=beq_iff_eq.mpr c3
  have c3b1:((l0.length:Int) != (l1.length:Int))=false:=bne_eq_false_iff_eq.mpr c3
  have c3b2:(l0.length==l1.length)=true:=by first|simpa using c3|(simp at c3 ⊢;omega)
  clear c3
  have H':=Aside0.mk H
  clear H
  go_enter Try.func49,Try.ntmps49
  go_wp2
  repeat(go_quiet (fail);try go_wp2)
  go_loopg [13] k (fun kq σ w'=>∃ (B:Int),σ = .int .i64 B∧Aside0 (api_Inside.l0 kq l0 l1 (l0.length:Int) B=some r)∧Aside0 (kq≤k)∧Drawn0 w w')
  case atStart=>exact⟨(0),qR,H',⟨Nat.le_refl _⟩,by repeat(first|exact Drawn0.refl _|apply Drawn0.step)⟩
  case round=>
   clear H'
   try clear c1
   try clear p2
   try clear c3
   try clear c3b0
   try clear c3b1
   try clear c3b2
   obtain⟨B,rfl,HA,ξ,⟨m1,rfl⟩⟩:=hrel
   cases gk with
   |zero=>exact absurd HA.out (by simp[api_Inside.l0])
   |succ k1=>
    have H:=HA.out
    clear HA
    simp only[api_Inside.l0] at H
    by_cases c4:B<(l0.length:Int)
    ·rw[if_pos c4] at H
     have c4b0:decide (B<(l0.length:Int))=true:=decide_eq_true c4
     clear c4
     by_cases c5:0≤B
     ·rw[if_pos c5] at H
      have c5b0:decide (0≤B)=true:=decide_eq_true c5
      clear c5
      by_cases c6:B<(l0.length:Int)
      ·rw[if_pos c6] at H
       have c6b0:decide (B<(l0.length:Int))=true:=decide_eq_true c6
       clear c6
       by_cases c7:B<(l1.length:Int)
       ·rw[if_pos c7] at H
        have c7b0:decide (B<(l1.length:Int))=true:=decide_eq_true c7
        clear c7
        by_cases c8:(!(((Qp l0 B).f0)==((Qp l1 B).f0))||(!(((Qp l0 B).f1)==((Qp l1 B).f1))))=true
        ·rw[if_pos c8] at H
         have c8b0:(!(((Qp l0 B).f0)==((Qp l1 B).f0))||(!(((Qp l0 B).f1)==((Qp l1 B).f1))))=true:=c8
         (try(have c8s0:=c8b0;simp only[beq_self_eq_true,bne_self_eq_false,Bool.not_true,Bool.not_false,Bool.true_and,Bool.and_true,Bool.false_or,Bool.or_false] at c8s0))
         clear c8
         obtain rfl:=Option.some.inj H
         have D:0≤(B:Int):=of_decide_eq_true (by first|(with_reducible assumption)|assumption)
         have I:B<(l0.length:Int):=of_decide_eq_true (by first|(with_reducible assumption)|assumption)
         obtain⟨κ,O,Z,ζ⟩:=Z8 μ.out B D I
         cases O
         replace D:=eq_true D
         replace I:=eq_true I
         have J:0≤(B:Int):=of_decide_eq_true (by first|(with_reducible assumption)|assumption)
         have L:B<(l1.length:Int):=of_decide_eq_true (by first|(with_reducible assumption)|assumption)
         obtain⟨ν,X,θ,ι⟩:=Z8 η.out B J L
         cases X
         replace J:=eq_true J
         replace L:=eq_true L
         go_wp2
         repeat(go_quiet (fail);try go_wp2)
         go_ret
         exact⟨qR,by repeat(first|exact Drawn0.refl _|apply Drawn0.step)⟩
        ·rw[if_neg c8] at H
         have c8b0:(!(((Qp l0 B).f0)==((Qp l1 B).f0))||(!(((Qp l0 B).f1)==((Qp l1 B).f1))))=false:=by simpa using c8
         (try(have c8s0:=c8b0;simp only[beq_self_eq_true,bne_self_eq_false,Bool.not_true,Bool.not_false,Bool.true_and,Bool.and_true,Bool.false_or,Bool.or_false] at c8s0))
         clear c8
         have H':=Aside0.mk H
         clear H
         have D:0≤(B:Int):=of_decide_eq_true (by first|(with_reducible assumption)|assumption)
         have I:B<(l0.length:Int):=of_decide_eq_true (by first|(with_reducible assumption)|assumption)
         obtain⟨κ,O,Z,ζ⟩:=Z8 μ.out B D I
         cases O
         replace D:=eq_true D
         replace I:=eq_true I
         have J:0≤(B:Int):=of_decide_eq_true (by first|(with_reducible assumption)|assumption)
         have L:B<(l1.length:Int):=of_decide_eq_true (by first|(with_reducible assumption)|assumption)
         obtain⟨ν,X,θ,ι⟩:=Z8 η.out B J L
         cases X
         replace J:=eq_true J
         replace L:=eq_true L
         go_wp2
         repeat(go_quiet (fail);try go_wp2)
         go_roundg k1
         case measure=>have:= ξ.out;omega
         case rel=>exact⟨(wrap64 (B+1)),qR,H',⟨by have:= ξ.out;omega⟩,by repeat(first|exact Drawn0.refl _|apply Drawn0.step)⟩
       ·rw[if_neg c7] at H
        exact absurd H (by simp)
      ·rw[if_neg c6] at H
       exact absurd H (by simp)
     ·rw[if_neg c5] at H
      exact absurd H (by simp)
    ·rw[if_neg c4] at H
     have c4b0:decide (B<(l0.length:Int))=false:=decide_eq_false c4
     clear c4
     obtain rfl:=Option.some.inj H
     go_wp2
     repeat(go_quiet (fail);try go_wp2)
     go_ret
     exact⟨qR,by repeat(first|exact Drawn0.refl _|apply Drawn0.step)⟩
 ·rw[if_neg c3] at H
  have c3b0:((l0.length:Int)==(l1.length:Int))=false:=beq_eq_false_iff_ne.mpr c3
  have c3b1:((l0.length:Int) != (l1.length:Int))=true:=bne_iff_ne.mpr c3
  have c3b2:(l0.length==l1.length)=false:=by first|simpa using c3|(simp at c3 ⊢;omega)
  obtain rfl:=Option.some.inj H
  go_enter Try.func49,Try.ntmps49
  go_wp2
  repeat(go_quiet (fail);try go_wp2)
  go_ret
  exact⟨qR,by repeat(first|exact Drawn0.refl _|apply Drawn0.step)⟩
end Go.Proofs.Ytjehhhlhalkieaa.C
namespace Go.Proofs.Ytjehhhlhalkieaa.C
open Go.RowKit Go.Proofs.YtjehhhlhalkieaaW.PrintWords Go.Proofs.YtjehhhlhalkieaaW.PrintLast Go.Proofs.YtjehhhlhalkieaaW.PrintMore
attribute [local go_sem] Z2 Z0 Xb Xa Zq Zp Z1 Zz
set_option linter.unusedVariables false
set_option linter.unusedSimpArgs false
def call_Same.f (k:Nat) (I:List (S56)) (J:List (S62)) (B:List (S56)) (D:List (S62)):Option (Bool):=(api_Hall.f k I B).bind fun X=>(if X=true then ((api_Inside.f k J D).bind fun ak=>(some ak)) else (some false))
theorem call_Same.mono:∀ I D a2 X k,LeO (call_Same.f k I D a2 X) (call_Same.f (k+1) I D a2 X):=by
 intro I D a2 X k
 unfold call_Same.f
 repeat' first
   |(with_reducible exact api_Hall.mono _ _ _)
   |(with_reducible exact api_Inside.mono _ _ _)
   |(with_reducible exact LeO.refl _)
   |(with_reducible exact LeO.none _)
   |(with_reducible refine LeO.ite ?_ ?_)
   |(with_reducible refine LeO.bind ?_ (fun _=>?_))
   |exact api_Hall.mono _ _ _
   |exact api_Inside.mono _ _ _
   |exact LeO.none _
   |refine LeO.ite ?_ ?_
   |refine LeO.bind ?_ (fun _=>?_)
set_option maxHeartbeats 8000000 in
set_option maxRecDepth 100000 in
theorem call_Same.calls (k:Nat) (μ :Option Addr) (ζ :Nat) (I:List (S56)) (Y:Option Addr) (Z:Nat) (J:List (S62)) (η :Option Addr) (δ :Nat) (B:List (S56)) (θ :Option Addr) (ε :Nat) (D:List (S62)) (r:Bool) (w:World) (a5:Kd.C k56 w μ I.length I) (a6:I.length ≤ ζ) (τ :Kd.C k62 w Y J.length J) (φ :J.length≤Z) (b4:Kd.C k56 w η B.length B) (b5:B.length ≤ δ) (b6:Kd.C k62 w θ D.length D) (b7:D.length ≤ ε) (h:call_Same.f k I J B D=some r):
  Calls Try.prog 27 #[.agg #[.slice μ I.length ζ,.slice Y J.length Z],.agg #[.slice η B.length δ,.slice θ D.length ε]] w fun e w'=>e = .returned (.bool r)∧Below w.heap.size w w':=by
 have d4:=Try.underlying27
 have χ :=Aside0.mk a5
 have a7:=Aside0.mk a6
 clear a5 a6
 have bo:=Aside0.mk τ
 have ct:=Aside0.mk φ
 clear τ φ
 have ag:=Aside0.mk b4
 have ar:=Aside0.mk b5
 clear b4 b5
 have ah:=Aside0.mk b6
 have aw:=Aside0.mk b7
 clear b6 b7
 have HB:=Aside0.mk (Below.refl w.heap.size w)
 have H:((api_Hall.f k I B).bind fun X=>(if X=true then ((api_Inside.f k J D).bind fun ak=>(some ak)) else (some false)))=some r:=h
 clear h
 replace H:=Option.bind_eq_some_iff.mp H
 obtain⟨X,ae,H⟩:=H
 replace H:(if X=true then ((api_Inside.f k J D).bind fun ak=>(some ak)) else (some false))=some r:=H
 have A3:=Aside0.mk ae
 clear ae
 by_cases c4:X=true
 ·subst c4
  have H1:((api_Inside.f k J D).bind fun ak=>(some ak))=some r:=by rw[if_pos rfl] at H;exact H
  clear H
  have H:=H1
  clear H1
  replace H:=Option.bind_eq_some_iff.mp H
  obtain⟨ak,ca,H⟩:=H
  replace H:(some ak)=some r:=H
  have A5:=Aside0.mk ca
  clear ca
  obtain rfl:=Option.some.inj H
  go_enter Try.func27,Try.ntmps27
  go_wp2_with (first|((with_reducible refine Qr (N:=2) rfl ?_);refine qE 2 #[.slice μ I.length ζ,.slice Y J.length Z] 27 ?_;intro ι hg w6 hbox hb;have L:=Aside0.mk hbox;have κ :=sGe hg;have ν :=sGe hg;replace HB:=sHb hb;clear hb hbox hg)|((with_reducible refine Qr (N:=3) rfl ?_);refine qE 3 #[.slice η B.length δ,.slice θ D.length ε] 27 ?_;intro ξ hg w7 hbox hb;have γ:=Aside0.mk hbox;have ρ:=sGe hg;have σ:=sGe hg;have O:=sNl L hg;have U:=sNg L hg;replace L:=sBk L hb;replace HB:=sHb hb;clear hb hbox hg;have bn:=O.out;have br:=U.out;obtain⟨bc,bh,bi,bj⟩:=qD2 L.out;obtain⟨am,au,ba,bk⟩:=qD2 γ.out)|((with_reducible refine Q0 (f:=48) rfl ?_);refine Zk (some 9) rfl rfl Try.func48 kr rfl #[.slice μ I.length ζ,.slice η B.length δ] rfl qM ?_;(with_reducible refine(api_Hall.calls k _ _ I _ _ B true _ ?side1 ?side2 ?side3 ?side4 A3.out).mono ?_);(case side1=>repeat(first|exact(Kd.Qx χ.out HB.out)|(with_reducible refine Kd.Za ?_ _)|(with_reducible refine Kd.Q9 ?_ _)|(with_reducible refine Kd.Zf ?_)));(case side2=>exact a7.out);(case side3=>repeat(first|exact(Kd.Qx ag.out HB.out)|(with_reducible refine Kd.Za ?_ _)|(with_reducible refine Kd.Q9 ?_ _)|(with_reducible refine Kd.Zf ?_)));(case side4=>exact ar.out);rintro e w' ⟨rfl,⟨nd,rfl⟩⟩;refine⟨_,rfl, ?_⟩)|(go_at_call 49;(with_reducible refine(api_Inside.calls k _ _ J _ _ D ak _ ?side1 ?side2 ?side3 ?side4 A5.out).mono ?_);(case side1=>repeat(first|exact(Kd.Qx bo.out bel)|(with_reducible refine Kd.Za ?_ _)|(with_reducible refine Kd.Q9 ?_ _)|(with_reducible refine Kd.Zf ?_)));(case side2=>exact ct.out);(case side3=>repeat(first|exact(Kd.Qx ah.out bel)|(with_reducible refine Kd.Za ?_ _)|(with_reducible refine Kd.Q9 ?_ _)|(with_reducible refine Kd.Zf ?_)));(case side4=>exact aw.out);rintro e w' ⟨rfl,⟨nd,rfl⟩⟩))
  go_ret
  exact⟨by first|rfl|(simp[Qz,Qy] <;> rfl)|(simp[*,Qz,Qy] <;> rfl),bel⟩
 ·replace c4:=Bool.eq_false_iff.mpr c4
  subst c4
  have H1:(some false)=some r:=by rw[if_neg (show ¬ (false=true) by decide)] at H;exact H
  clear H
  have H:=H1
  clear H1
  obtain rfl:=Option.some.inj H
  go_enter Try.func27,Try.ntmps27
  go_wp2_with (first|((with_reducible refine Qr (N:=2) rfl ?_);refine qE 2 #[.slice μ I.length ζ,.slice Y J.length Z] 27 ?_;intro ι hg e5 hbox hb;have L:=Aside0.mk hbox;have κ :=sGe hg;have ν :=sGe hg;replace HB:=sHb hb;clear hb hbox hg)|((with_reducible refine Qr (N:=3) rfl ?_);refine qE 3 #[.slice η B.length δ,.slice θ D.length ε] 27 ?_;intro ξ hg dt hbox hb;have γ:=Aside0.mk hbox;have ρ:=sGe hg;have σ:=sGe hg;have O:=sNl L hg;have U:=sNg L hg;replace L:=sBk L hb;replace HB:=sHb hb;clear hb hbox hg;have bw:=O.out;have bz:=U.out;obtain⟨ai,aj,av,ax⟩:=qD2 L.out;obtain⟨cm,cn,co,cp⟩:=qD2 γ.out)|((with_reducible refine Q0 (f:=48) rfl ?_);refine Zk (some 9) rfl rfl Try.func48 kr rfl #[.slice μ I.length ζ,.slice η B.length δ] rfl qM ?_;(with_reducible refine(api_Hall.calls k _ _ I _ _ B false _ ?side1 ?side2 ?side3 ?side4 A3.out).mono ?_);(case side1=>exact(Kd.Qx χ.out HB.out));(case side2=>exact a7.out);(case side3=>exact(Kd.Qx ag.out HB.out));(case side4=>exact ar.out);rintro e w' ⟨rfl,⟨nd,rfl⟩⟩;refine⟨_,rfl, ?_⟩))
  go_ret
  exact⟨by first|rfl|(simp[Qz,Qy] <;> rfl)|(simp[*,Qz,Qy] <;> rfl),bel⟩
def newelref19_Hall.j0:Nat→Bool→Int→Int→Int→Int→Int→Option (Bool)
 |0,_,_,_,_,_,_=>none
 |k+1,O,D,J,B,I,L=>if O=true then (some false) else (if I=1 then (if B≥0 then (some (decide (B≤(wrap64 (D-2))))) else (some false)) else (if I=(-1) then (if B≥1 then (some (decide (B≤(wrap64 (D-1))))) else (some false)) else (some false)))
def newelref19_Hall.f (k:Nat) (I:Int) (J:Int) (D:Int) (O:Int) (X:Int):Option (Bool):=if X<(-1) then (newelref19_Hall.j0 k true I J D O X) else (newelref19_Hall.j0 k (decide (X≥J)) I J D O X)
theorem newelref19_Hall.Zi:∀ k,(∀ D I O J L X,LeO (newelref19_Hall.j0 k D I O J L X) (newelref19_Hall.j0 (k+1) D I O J L X))
 |0=>fun _ _ _ _ _ _ r h=>by simp[newelref19_Hall.j0] at h
 |k+1=>by
  have B:=newelref19_Hall.Zi k
  ·intro D I O J L X
   unfold newelref19_Hall.j0
   repeat' first
   |(with_reducible exact B _ _ _ _ _ _)
   |(with_reducible exact LeO.refl _)
   |(with_reducible exact LeO.none _)
   |(with_reducible refine LeO.ite ?_ ?_)
   |(with_reducible refine LeO.bind ?_ (fun _=>?_))
   |exact B _ _ _ _ _ _
   |exact LeO.none _
   |refine LeO.ite ?_ ?_
   |refine LeO.bind ?_ (fun _=>?_)
theorem newelref19_Hall.mono:∀ I D a2 X J k,LeO (newelref19_Hall.f k I D a2 X J) (newelref19_Hall.f (k+1) I D a2 X J):=by
 intro I D a2 X J k
 have B:=newelref19_Hall.Zi k
 unfold newelref19_Hall.f
 repeat' first
   |(with_reducible exact B _ _ _ _ _ _)
   |(with_reducible exact LeO.refl _)
   |(with_reducible exact LeO.none _)
   |(with_reducible refine LeO.ite ?_ ?_)
   |(with_reducible refine LeO.bind ?_ (fun _=>?_))
   |exact B _ _ _ _ _ _
   |exact LeO.none _
   |refine LeO.ite ?_ ?_
   |refine LeO.bind ?_ (fun _=>?_)
set_option maxHeartbeats 8000000 in
set_option maxRecDepth 100000 in
theorem newelref19_Hall.calls (k:Nat) (I:Int) (J:Int) (D:Int) (O:Int) (X:Int) (r:Bool) (w:World) (h:newelref19_Hall.f k I J D O X=some r):
  Calls Try.prog 25 #[.agg #[.int .i64 I,.int .i64 J],.agg #[.int .i64 D,.int .i64 O,.int .i64 X]] w fun e w'=>e = .returned (.bool r)∧Below w.heap.size w w':=by
 have dn:=Try.underlying23
 have bq:=Try.underlying56
 have HB:=Aside0.mk (Below.refl w.heap.size w)
 have H:(if X<(-1) then (newelref19_Hall.j0 k true I J D O X) else (newelref19_Hall.j0 k (decide (X≥J)) I J D O X))=some r:=h
 clear h
 have ae:=Aside0.mk H
 clear H
 go_enter Try.func25,Try.ntmps25
 go_upto_region 1 with(first|((with_reducible refine Qr (N:=2) rfl ?_);refine qE 2 #[.int .i64 I,.int .i64 J] 23 ?_;intro γ hg w4 hbox hb;have U:=Aside0.mk hbox;have κ :=sGe hg;have ξ :=sGe hg;replace HB:=sHb hb;clear hb hbox hg)|((with_reducible refine Qr (N:=3) rfl ?_);refine qE 3 #[.int .i64 D,.int .i64 O,.int .i64 X] 56 ?_;intro δ hg w5 hbox hb;have Y:=Aside0.mk hbox;have ρ:=sGe hg;have σ:=sGe hg;have B:=sNl U hg;have L:=sNg U hg;replace U:=sBk U hb;replace HB:=sHb hb;clear hb hbox hg))
 (try simp only[Act.put,qS])
 go_cut [14] (fun ι wc=>∃ (kq:Nat) (Z:Bool),ι = .bool Z∧Aside0 (newelref19_Hall.j0 kq Z I J D O X=some r)∧Aside0 (kq≤k)∧Aside0 (wc.heap[γ]?=some (.cells #[.int .i64 I,.int .i64 J] 23 (0,0)))∧Aside0 (wc.heap[δ]?=some (.cells #[.int .i64 D,.int .i64 O,.int .i64 X] 56 (0,0)))∧Aside0 (Below w.heap.size w wc))
 case first=>
  have H:=ae.out
  clear ae
  by_cases c6:X<(-1)
  ·rw[if_pos c6] at H
   have c6b0:decide (X<(-1))=true:=decide_eq_true c6
   clear c6
   (first|rw[c6b0]|(simp only[X5,Ys];rw[c6b0])|skip)
   have H':=Aside0.mk H
   clear H
   have de:=L.out
   have df:=B.out
   obtain⟨al,an,μ,ao,ap,ν⟩:=qD3 Y.out
   go_wp2
   go_meet
   case rel=>exact⟨_,(true),rfl,H',⟨by first|omega|exact Nat.le_refl _⟩,U,Y,HB⟩
  ·rw[if_neg c6] at H
   have c6b0:decide (X<(-1))=false:=decide_eq_false c6
   clear c6
   (first|rw[c6b0]|(simp only[X5,Ys];rw[c6b0])|skip)
   have H':=Aside0.mk H
   clear H
   have gn:=L.out
   have gp:=B.out
   obtain⟨am,au,ar,ba,bk,aw⟩:=qD3 Y.out
   obtain⟨ac,af,ai,aj⟩:=qD2 U.out
   go_wp2
   go_meet
   case rel=>exact⟨_,(decide (X≥J)),rfl,H',⟨by first|omega|exact Nat.le_refl _⟩,U,Y,HB⟩
 case rest=>
  clear ae
  try clear c2
  try clear p2
  try clear c6
  try clear c6b0
  try clear c7
  try clear c9
  try clear am
  try clear au
  try clear ar
  try clear ac
  try clear af
  try clear al
  try clear an
  try clear μ
  try clear ba
  try clear bk
  try clear aw
  try clear ai
  try clear aj
  try clear ao
  try clear ap
  try clear ν
  obtain⟨kq,Z,rfl,HA,cx,U,Y,HB⟩:=hcut
  cases kq with
  |zero=>exact absurd HA.out (by simp[newelref19_Hall.j0])
  |succ d5=>
   have H:=HA.out
   clear HA
   simp only[newelref19_Hall.j0] at H
   by_cases ce:Z=true
   ·subst ce
    have H1:(some false)=some r:=by rw[if_pos rfl] at H;exact H
    clear H
    have H:=H1
    clear H1
    obtain rfl:=Option.some.inj H
    go_wp2
    go_ret
    exact⟨rfl,HB.out⟩
   ·replace ce:=Bool.eq_false_iff.mpr ce
    subst ce
    have H1:(if O=1 then (if D≥0 then (some (decide (D≤(wrap64 (I-2))))) else (some false)) else (if O=(-1) then (if D≥1 then (some (decide (D≤(wrap64 (I-1))))) else (some false)) else (some false)))=some r:=by rw[if_neg (show ¬ (false=true) by decide)] at H;exact H
    clear H
    have H:=H1
    clear H1
    by_cases bg:O=1
    ·rw[if_pos bg] at H
     have c13b0:(O==1)=true:=beq_iff_eq.mpr bg
     have c13b1:(O != 1)=false:=bne_eq_false_iff_eq.mpr bg
     clear bg
     by_cases az:D≥0
     ·rw[if_pos az] at H
      have c14b0:decide (0≤D)=true:=decide_eq_true az
      clear az
      obtain rfl:=Option.some.inj H
      have iv:=L.out
      have iw:=B.out
      obtain⟨jo,jp,ε,jq,jr,ζ⟩:=qD3 Y.out
      obtain⟨dj,dl,dm,dp⟩:=qD2 U.out
      go_wp2
      go_ret
      exact⟨rfl,HB.out⟩
     ·rw[if_neg az] at H
      have c14b0:decide (0≤D)=false:=decide_eq_false az
      clear az
      obtain rfl:=Option.some.inj H
      have cb:=L.out
      have cg:=B.out
      obtain⟨b1,b2,cv,b3,b8,cw⟩:=qD3 Y.out
      go_wp2
      go_ret
      exact⟨rfl,HB.out⟩
    ·rw[if_neg bg] at H
     have c13b0:(O==1)=false:=beq_eq_false_iff_ne.mpr bg
     have c13b1:(O != 1)=true:=bne_iff_ne.mpr bg
     by_cases cd:O=(-1)
     ·rw[if_pos cd] at H
      have c20b0:(O==(-1))=true:=beq_iff_eq.mpr cd
      have c20b1:(O != (-1))=false:=bne_eq_false_iff_eq.mpr cd
      clear cd
      by_cases cr:D≥1
      ·rw[if_pos cr] at H
       have c21b0:decide (1≤D)=true:=decide_eq_true cr
       clear cr
       obtain rfl:=Option.some.inj H
       have g5:=L.out
       have g6:=B.out
       obtain⟨ch,ci,dq,cj,ck,dr⟩:=qD3 Y.out
       obtain⟨d7,d9,da,db⟩:=qD2 U.out
       go_wp2
       go_ret
       exact⟨rfl,HB.out⟩
      ·rw[if_neg cr] at H
       have c21b0:decide (1≤D)=false:=decide_eq_false cr
       clear cr
       obtain rfl:=Option.some.inj H
       have d8:=L.out
       have dc:=B.out
       obtain⟨cm,cn,η,co,cp,θ⟩:=qD3 Y.out
       go_wp2
       go_ret
       exact⟨rfl,HB.out⟩
     ·rw[if_neg cd] at H
      have c20b0:(O==(-1))=false:=beq_eq_false_iff_ne.mpr cd
      have c20b1:(O != (-1))=true:=bne_iff_ne.mpr cd
      obtain rfl:=Option.some.inj H
      have dd:=L.out
      have dh:=B.out
      obtain⟨ct,cy,bu,cz,d0,bz⟩:=qD3 Y.out
      go_wp2
      go_ret
      exact⟨rfl,HB.out⟩
def newelref19_House.f (I:Int) (J:Int):Option (Bool):=if I≥2 then (if I≤64 then (if J≥1 then (some (decide (J≤8))) else (some false)) else (some false)) else (some false)
set_option maxHeartbeats 8000000 in
set_option maxRecDepth 100000 in
theorem newelref19_House.calls (I:Int) (J:Int) (r:Bool) (w:World) (h:newelref19_House.f I J=some r):
  Calls Try.prog 37 #[.agg #[.int .i64 I,.int .i64 J]] w fun e w'=>e = .returned (.bool r)∧Below w.heap.size w w':=by
 have dn:=Try.underlying23
 have HB:=Aside0.mk (Below.refl w.heap.size w)
 have H:(if I≥2 then (if I≤64 then (if J≥1 then (some (decide (J≤8))) else (some false)) else (some false)) else (some false))=some r:=h
 clear h
 by_cases c2:I≥2
 ·rw[if_pos c2] at H
  have c2b0:decide (2≤I)=true:=decide_eq_true c2
  clear c2
  by_cases c3:I≤64
  ·rw[if_pos c3] at H
   have c3b0:decide (I≤64)=true:=decide_eq_true c3
   clear c3
   by_cases c4:J≥1
   ·rw[if_pos c4] at H
    have c4b0:decide (1≤J)=true:=decide_eq_true c4
    clear c4
    obtain rfl:=Option.some.inj H
    go_enter Try.func37,Try.ntmps37
    go_wp2_with (first|((with_reducible refine Qr (N:=1) rfl ?_);refine Q5 ?hg (N:=1) ?hd (cs:=#[.int .i64 I,.int .i64 J]) (t:=23) ?hr ?_;(case hd=>rfl);(case hg=>rfl);(case hr=>first|(go_simp;done)|(go_simp;rfl));intro B hg w5 hbox hb;have U:=Aside0.mk (Qt (by repeat(first|(with_reducible first|exact HB.out|apply Qh|apply Qb|apply Qf)|exact HB.out)) hb);have γ:=Aside0.mk (hbox);have ι :=Aside0.mk ((by rw[hg];exact(Qi (by repeat(first|(with_reducible first|exact HB.out|apply Qh|apply Qb|apply Qf)|exact HB.out))):w.heap.size≤B));have κ :=Aside0.mk ((by rw[hg];exact(Qi (by repeat(first|(with_reducible first|exact HB.out|apply Qh|apply Qb|apply Qf)|exact HB.out))):w.heap.size≤B));clear HB;have HB:=U;have D:=γ;have O:= ι;have L:= κ;clear U γ ι κ;clear hb hbox hg;obtain⟨X,δ,ε,η⟩:=qD2 D.out))
    go_ret
    exact⟨by first|rfl|(simp[Qz,Qy] <;> rfl)|(simp[*,Qz,Qy] <;> rfl),by repeat(first|(with_reducible first|exact HB.out|apply Qh|apply Qb|apply Qf|refine Qc ?_ L.out)|exact HB.out)⟩
   ·rw[if_neg c4] at H
    have c4b0:decide (1≤J)=false:=decide_eq_false c4
    clear c4
    obtain rfl:=Option.some.inj H
    go_enter Try.func37,Try.ntmps37
    go_wp2_with (first|((with_reducible refine Qr (N:=1) rfl ?_);refine Q5 ?hg (N:=1) ?hd (cs:=#[.int .i64 I,.int .i64 J]) (t:=23) ?hr ?_;(case hd=>rfl);(case hg=>rfl);(case hr=>first|(go_simp;done)|(go_simp;rfl));intro B hg w7 hbox hb;have U:=Aside0.mk (Qt (by repeat(first|(with_reducible first|exact HB.out|apply Qh|apply Qb|apply Qf)|exact HB.out)) hb);have γ:=Aside0.mk (hbox);have ι :=Aside0.mk ((by rw[hg];exact(Qi (by repeat(first|(with_reducible first|exact HB.out|apply Qh|apply Qb|apply Qf)|exact HB.out))):w.heap.size≤B));have κ :=Aside0.mk ((by rw[hg];exact(Qi (by repeat(first|(with_reducible first|exact HB.out|apply Qh|apply Qb|apply Qf)|exact HB.out))):w.heap.size≤B));clear HB;have HB:=U;have D:=γ;have O:= ι;have L:= κ;clear U γ ι κ;clear hb hbox hg;obtain⟨al,an,ao,ap⟩:=qD2 D.out))
    go_ret
    exact⟨by first|rfl|(simp[Qz,Qy] <;> rfl)|(simp[*,Qz,Qy] <;> rfl),by repeat(first|(with_reducible first|exact HB.out|apply Qh|apply Qb|apply Qf|refine Qc ?_ L.out)|exact HB.out)⟩
  ·rw[if_neg c3] at H
   have c3b0:decide (I≤64)=false:=decide_eq_false c3
   clear c3
   obtain rfl:=Option.some.inj H
   go_enter Try.func37,Try.ntmps37
   go_wp2_with (first|((with_reducible refine Qr (N:=1) rfl ?_);refine Q5 ?hg (N:=1) ?hd (cs:=#[.int .i64 I,.int .i64 J]) (t:=23) ?hr ?_;(case hd=>rfl);(case hg=>rfl);(case hr=>first|(go_simp;done)|(go_simp;rfl));intro B hg w9 hbox hb;have U:=Aside0.mk (Qt (by repeat(first|(with_reducible first|exact HB.out|apply Qh|apply Qb|apply Qf)|exact HB.out)) hb);have γ:=Aside0.mk (hbox);have ι :=Aside0.mk ((by rw[hg];exact(Qi (by repeat(first|(with_reducible first|exact HB.out|apply Qh|apply Qb|apply Qf)|exact HB.out))):w.heap.size≤B));have κ :=Aside0.mk ((by rw[hg];exact(Qi (by repeat(first|(with_reducible first|exact HB.out|apply Qh|apply Qb|apply Qf)|exact HB.out))):w.heap.size≤B));clear HB;have HB:=U;have D:=γ;have O:= ι;have L:= κ;clear U γ ι κ;clear hb hbox hg;obtain⟨am,au,ba,bk⟩:=qD2 D.out))
   go_ret
   exact⟨by first|rfl|(simp[Qz,Qy] <;> rfl)|(simp[*,Qz,Qy] <;> rfl),by repeat(first|(with_reducible first|exact HB.out|apply Qh|apply Qb|apply Qf|refine Qc ?_ L.out)|exact HB.out)⟩
 ·rw[if_neg c2] at H
  have c2b0:decide (2≤I)=false:=decide_eq_false c2
  clear c2
  obtain rfl:=Option.some.inj H
  go_enter Try.func37,Try.ntmps37
  go_wp2_with (first|((with_reducible refine Qr (N:=1) rfl ?_);refine Q5 ?hg (N:=1) ?hd (cs:=#[.int .i64 I,.int .i64 J]) (t:=23) ?hr ?_;(case hd=>rfl);(case hg=>rfl);(case hr=>first|(go_simp;done)|(go_simp;rfl));intro B hg e5 hbox hb;have U:=Aside0.mk (Qt (by repeat(first|(with_reducible first|exact HB.out|apply Qh|apply Qb|apply Qf)|exact HB.out)) hb);have γ:=Aside0.mk (hbox);have ι :=Aside0.mk ((by rw[hg];exact(Qi (by repeat(first|(with_reducible first|exact HB.out|apply Qh|apply Qb|apply Qf)|exact HB.out))):w.heap.size≤B));have κ :=Aside0.mk ((by rw[hg];exact(Qi (by repeat(first|(with_reducible first|exact HB.out|apply Qh|apply Qb|apply Qf)|exact HB.out))):w.heap.size≤B));clear HB;have HB:=U;have D:=γ;have O:= ι;have L:= κ;clear U γ ι κ;clear hb hbox hg;obtain⟨av,ax,ay,b0⟩:=qD2 D.out))
  go_ret
  exact⟨by first|rfl|(simp[Qz,Qy] <;> rfl)|(simp[*,Qz,Qy] <;> rfl),by repeat(first|(with_reducible first|exact HB.out|apply Qh|apply Qb|apply Qf|refine Qc ?_ L.out)|exact HB.out)⟩
def newelref19_ahead.f (I:Int) (J:Int) (B:Int) (D:Int) (O:Int) (X:Int):Option (Bool):=if I<D then (some true) else (if I=D then (some (decide (J<O))) else (some false))
set_option maxHeartbeats 8000000 in
set_option maxRecDepth 100000 in
theorem newelref19_ahead.calls (I:Int) (J:Int) (B:Int) (D:Int) (O:Int) (X:Int) (r:Bool) (w:World) (h:newelref19_ahead.f I J B D O X=some r):
  Calls Try.prog 38 #[.agg #[.int .i64 I,.int .i64 J,.int .i64 B],.agg #[.int .i64 D,.int .i64 O,.int .i64 X]] w fun e w'=>e = .returned (.bool r)∧Below w.heap.size w w':=by
 have bq:=Try.underlying56
 have HB:=Aside0.mk (Below.refl w.heap.size w)
 have H:(if I<D then (some true) else (if I=D then (some (decide (J<O))) else (some false)))=some r:=h
 clear h
 by_cases c3:I<D
 ·rw[if_pos c3] at H
  have c3b0:decide (I<D)=true:=decide_eq_true c3
  clear c3
  obtain rfl:=Option.some.inj H
  go_enter Try.func38,Try.ntmps38
  go_wp2_with (first|((with_reducible refine Qr (N:=2) rfl ?_);refine Q5 ?hg (N:=2) ?hd (cs:=#[.int .i64 I,.int .i64 J,.int .i64 B]) (t:=56) ?hr ?_;(case hd=>rfl);(case hg=>rfl);(case hr=>first|(go_simp;done)|(go_simp;rfl));intro L hg w4 hbox hb;have U:=Aside0.mk (Qt (by repeat(first|(with_reducible first|exact HB.out|apply Qh|apply Qb|apply Qf)|exact HB.out)) hb);have γ:=Aside0.mk (hbox);have ι :=Aside0.mk ((by rw[hg];exact(Qi (by repeat(first|(with_reducible first|exact HB.out|apply Qh|apply Qb|apply Qf)|exact HB.out))):w.heap.size≤L));have κ :=Aside0.mk ((by rw[hg];exact(Qi (by repeat(first|(with_reducible first|exact HB.out|apply Qh|apply Qb|apply Qf)|exact HB.out))):w.heap.size≤L));clear HB;have HB:=U;have Y:=γ;have ρ:= ι;have Z:= κ;clear U γ ι κ;clear hb hbox hg)|((with_reducible refine Qr (N:=3) rfl ?_);refine Q5 ?hg (N:=3) ?hd (cs:=#[.int .i64 D,.int .i64 O,.int .i64 X]) (t:=56) ?hr ?_;(case hd=>rfl);(case hg=>rfl);(case hr=>first|(go_simp;done)|(go_simp;rfl));intro δ hg w5 hbox hb;have U:=Aside0.mk (Qm (g:=L) (o:=.cells #[.int .i64 I,.int .i64 J,.int .i64 B] 56 (0,0)) (by(with_reducible repeat first|apply Qd|apply Qa|apply Qe);exact Y.out) hb);have γ:=Aside0.mk (Qt (by repeat(first|(with_reducible first|exact HB.out|apply Qh|apply Qb|apply Qf|refine Qc ?_ Z.out)|exact HB.out)) hb);have ι :=Aside0.mk (hbox);have κ :=Aside0.mk ((by rw[hg];exact(Qi (by repeat(first|(with_reducible first|exact HB.out|apply Qh|apply Qb|apply Qf|refine Qc ?_ Z.out)|exact HB.out))):w.heap.size ≤ δ));have ξ :=Aside0.mk ((by rw[hg];exact(Qi (by repeat(first|(with_reducible first|exact HB.out|apply Qh|apply Qb|apply Qf|refine Qc ?_ Z.out)|exact HB.out))):w.heap.size ≤ δ));have χ :=Aside0.mk ((by rw[hg];exact Nat.ne_of_lt (Q3 (g:=L) (o:=.cells #[.int .i64 I,.int .i64 J,.int .i64 B] 56 (0,0)) (by(with_reducible repeat first|apply Qd|apply Qa|apply Qe);exact Y.out)):L ≠ δ));have a1:=Aside0.mk ((by rw[hg];exact Nat.ne_of_gt (Q3 (g:=L) (o:=.cells #[.int .i64 I,.int .i64 J,.int .i64 B] 56 (0,0)) (by(with_reducible repeat first|apply Qd|apply Qa|apply Qe);exact Y.out)): δ ≠ L));clear Y;clear HB;have Y:=U;have HB:=γ;have η := ι;have σ:= κ;have θ := ξ;have ε := χ;have ζ :=a1;clear U γ ι κ ξ χ a1;clear hb hbox hg;have cf:= ε.out;have ch:= ζ.out;obtain⟨τ,φ,a3,ψ,ω,a4⟩:=qD3 Y.out;obtain⟨al,an,μ,ao,ap,ν⟩:=qD3 η.out))
  go_ret
  exact⟨by first|rfl|(simp[Qz,Qy] <;> rfl)|(simp[*,Qz,Qy] <;> rfl),by repeat(first|(with_reducible first|exact HB.out|apply Qh|apply Qb|apply Qf|refine Qc ?_ Z.out|refine Qc ?_ θ.out)|exact HB.out)⟩
 ·rw[if_neg c3] at H
  have c3b0:decide (I<D)=false:=decide_eq_false c3
  clear c3
  by_cases c9:I=D
  ·rw[if_pos c9] at H
   have c9b0:(I==D)=true:=beq_iff_eq.mpr c9
   have c9b1:(I != D)=false:=bne_eq_false_iff_eq.mpr c9
   clear c9
   obtain rfl:=Option.some.inj H
   go_enter Try.func38,Try.ntmps38
   go_wp2_with (first|((with_reducible refine Qr (N:=2) rfl ?_);refine Q5 ?hg (N:=2) ?hd (cs:=#[.int .i64 I,.int .i64 J,.int .i64 B]) (t:=56) ?hr ?_;(case hd=>rfl);(case hg=>rfl);(case hr=>first|(go_simp;done)|(go_simp;rfl));intro L hg em hbox hb;have U:=Aside0.mk (Qt (by repeat(first|(with_reducible first|exact HB.out|apply Qh|apply Qb|apply Qf)|exact HB.out)) hb);have γ:=Aside0.mk (hbox);have ι :=Aside0.mk ((by rw[hg];exact(Qi (by repeat(first|(with_reducible first|exact HB.out|apply Qh|apply Qb|apply Qf)|exact HB.out))):w.heap.size≤L));have κ :=Aside0.mk ((by rw[hg];exact(Qi (by repeat(first|(with_reducible first|exact HB.out|apply Qh|apply Qb|apply Qf)|exact HB.out))):w.heap.size≤L));clear HB;have HB:=U;have Y:=γ;have ρ:= ι;have Z:= κ;clear U γ ι κ;clear hb hbox hg)|((with_reducible refine Qr (N:=3) rfl ?_);refine Q5 ?hg (N:=3) ?hd (cs:=#[.int .i64 D,.int .i64 O,.int .i64 X]) (t:=56) ?hr ?_;(case hd=>rfl);(case hg=>rfl);(case hr=>first|(go_simp;done)|(go_simp;rfl));intro δ hg e5 hbox hb;have U:=Aside0.mk (Qm (g:=L) (o:=.cells #[.int .i64 I,.int .i64 J,.int .i64 B] 56 (0,0)) (by(with_reducible repeat first|apply Qd|apply Qa|apply Qe);exact Y.out) hb);have γ:=Aside0.mk (Qt (by repeat(first|(with_reducible first|exact HB.out|apply Qh|apply Qb|apply Qf|refine Qc ?_ Z.out)|exact HB.out)) hb);have ι :=Aside0.mk (hbox);have κ :=Aside0.mk ((by rw[hg];exact(Qi (by repeat(first|(with_reducible first|exact HB.out|apply Qh|apply Qb|apply Qf|refine Qc ?_ Z.out)|exact HB.out))):w.heap.size ≤ δ));have ξ :=Aside0.mk ((by rw[hg];exact(Qi (by repeat(first|(with_reducible first|exact HB.out|apply Qh|apply Qb|apply Qf|refine Qc ?_ Z.out)|exact HB.out))):w.heap.size ≤ δ));have χ :=Aside0.mk ((by rw[hg];exact Nat.ne_of_lt (Q3 (g:=L) (o:=.cells #[.int .i64 I,.int .i64 J,.int .i64 B] 56 (0,0)) (by(with_reducible repeat first|apply Qd|apply Qa|apply Qe);exact Y.out)):L ≠ δ));have a1:=Aside0.mk ((by rw[hg];exact Nat.ne_of_gt (Q3 (g:=L) (o:=.cells #[.int .i64 I,.int .i64 J,.int .i64 B] 56 (0,0)) (by(with_reducible repeat first|apply Qd|apply Qa|apply Qe);exact Y.out)): δ ≠ L));clear Y;clear HB;have Y:=U;have HB:=γ;have η := ι;have σ:= κ;have θ := ξ;have ε := χ;have ζ :=a1;clear U γ ι κ ξ χ a1;clear hb hbox hg;have e6:= ε.out;have e7:= ζ.out;obtain⟨bo,bp,a0,br,bs,a2⟩:=qD3 Y.out;obtain⟨ai,aj,d5,av,ax,d6⟩:=qD3 η.out))
   go_ret
   exact⟨by first|rfl|(simp[Qz,Qy] <;> rfl)|(simp[*,Qz,Qy] <;> rfl),by repeat(first|(with_reducible first|exact HB.out|apply Qh|apply Qb|apply Qf|refine Qc ?_ Z.out|refine Qc ?_ θ.out)|exact HB.out)⟩
  ·rw[if_neg c9] at H
   have c9b0:(I==D)=false:=beq_eq_false_iff_ne.mpr c9
   have c9b1:(I != D)=true:=bne_iff_ne.mpr c9
   obtain rfl:=Option.some.inj H
   go_enter Try.func38,Try.ntmps38
   go_wp2_with (first|((with_reducible refine Qr (N:=2) rfl ?_);refine Q5 ?hg (N:=2) ?hd (cs:=#[.int .i64 I,.int .i64 J,.int .i64 B]) (t:=56) ?hr ?_;(case hd=>rfl);(case hg=>rfl);(case hr=>first|(go_simp;done)|(go_simp;rfl));intro L hg cr hbox hb;have U:=Aside0.mk (Qt (by repeat(first|(with_reducible first|exact HB.out|apply Qh|apply Qb|apply Qf)|exact HB.out)) hb);have γ:=Aside0.mk (hbox);have ι :=Aside0.mk ((by rw[hg];exact(Qi (by repeat(first|(with_reducible first|exact HB.out|apply Qh|apply Qb|apply Qf)|exact HB.out))):w.heap.size≤L));have κ :=Aside0.mk ((by rw[hg];exact(Qi (by repeat(first|(with_reducible first|exact HB.out|apply Qh|apply Qb|apply Qf)|exact HB.out))):w.heap.size≤L));clear HB;have HB:=U;have Y:=γ;have ρ:= ι;have Z:= κ;clear U γ ι κ;clear hb hbox hg)|((with_reducible refine Qr (N:=3) rfl ?_);refine Q5 ?hg (N:=3) ?hd (cs:=#[.int .i64 D,.int .i64 O,.int .i64 X]) (t:=56) ?hr ?_;(case hd=>rfl);(case hg=>rfl);(case hr=>first|(go_simp;done)|(go_simp;rfl));intro δ hg af hbox hb;have U:=Aside0.mk (Qm (g:=L) (o:=.cells #[.int .i64 I,.int .i64 J,.int .i64 B] 56 (0,0)) (by(with_reducible repeat first|apply Qd|apply Qa|apply Qe);exact Y.out) hb);have γ:=Aside0.mk (Qt (by repeat(first|(with_reducible first|exact HB.out|apply Qh|apply Qb|apply Qf|refine Qc ?_ Z.out)|exact HB.out)) hb);have ι :=Aside0.mk (hbox);have κ :=Aside0.mk ((by rw[hg];exact(Qi (by repeat(first|(with_reducible first|exact HB.out|apply Qh|apply Qb|apply Qf|refine Qc ?_ Z.out)|exact HB.out))):w.heap.size ≤ δ));have ξ :=Aside0.mk ((by rw[hg];exact(Qi (by repeat(first|(with_reducible first|exact HB.out|apply Qh|apply Qb|apply Qf|refine Qc ?_ Z.out)|exact HB.out))):w.heap.size ≤ δ));have χ :=Aside0.mk ((by rw[hg];exact Nat.ne_of_lt (Q3 (g:=L) (o:=.cells #[.int .i64 I,.int .i64 J,.int .i64 B] 56 (0,0)) (by(with_reducible repeat first|apply Qd|apply Qa|apply Qe);exact Y.out)):L ≠ δ));have a1:=Aside0.mk ((by rw[hg];exact Nat.ne_of_gt (Q3 (g:=L) (o:=.cells #[.int .i64 I,.int .i64 J,.int .i64 B] 56 (0,0)) (by(with_reducible repeat first|apply Qd|apply Qa|apply Qe);exact Y.out)): δ ≠ L));clear Y;clear HB;have Y:=U;have HB:=γ;have η := ι;have σ:= κ;have θ := ξ;have ε := χ;have ζ :=a1;clear U γ ι κ ξ χ a1;clear hb hbox hg;have df:= ε.out;have dh:= ζ.out;obtain⟨bu,bw,db,bz,ca,dd⟩:=qD3 Y.out;obtain⟨b1,b2,cv,b3,b8,cw⟩:=qD3 η.out))
   go_ret
   exact⟨by first|rfl|(simp[Qz,Qy] <;> rfl)|(simp[*,Qz,Qy] <;> rfl),by repeat(first|(with_reducible first|exact HB.out|apply Qh|apply Qb|apply Qf|refine Qc ?_ Z.out|refine Qc ?_ θ.out)|exact HB.out)⟩
end Go.Proofs.Ytjehhhlhalkieaa.C
