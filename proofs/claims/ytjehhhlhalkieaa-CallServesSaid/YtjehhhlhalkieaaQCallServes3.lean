/- Texts of this claim, one behind the other: what the law's functions come to, walked (printed by a program, with the words that the print uses), and what that is, in plain Lean. No conditions of their own. -/
import Derived.Test.YtjehhhlhalkieaaQCallServes2
namespace Go.Proofs.Ytjehhhlhalkieaa.C
open Go.RowKit Go.Proofs.YtjehhhlhalkieaaW.PrintWords Go.Proofs.YtjehhhlhalkieaaW.PrintLast Go.Proofs.YtjehhhlhalkieaaW.PrintMore
attribute [local go_sem] Z3 Z1 Xb Xa Zt Zs Z2 Z0
set_option linter.unusedVariables false
set_option linter.unusedSimpArgs false
mutual
def api_Hall_right.l0:Nat→Int→List (S56)→Int→Int→List (S56)→Int→Option (Bool)
 |0,_,_,_,_,_,_=>none
 |k+1,D,O,L,J,B,I=>if J<L then (if 0≤J then (if J<(O.length:Int) then ((call_hall_1.f ((Qg O J).f0) ((Qg O J).f1) ((Qg O J).f2) D).bind fun a0=>(if a0=true then (if J>0 then (if 0≤(wrap64 (J-1)) then (if (wrap64 (J-1))<(B.length:Int) then ((call_halls_1.f ((Qg B (wrap64 (J-1))).f0) ((Qg B (wrap64 (J-1))).f1) ((Qg B (wrap64 (J-1))).f2) ((Qg O J).f0) ((Qg O J).f1) ((Qg O J).f2)).bind fun τ =>(api_Hall_right.j1 k D O L J (decide (τ ≥ 0)) B I)) else (none)) else (none)) else (api_Hall_right.j1 k D O L J false B I)) else (api_Hall_right.j1 k D O L J true B I))) else (none)) else (none)) else (some true)
def api_Hall_right.j1:Nat→Int→List (S56)→Int→Int→Bool→List (S56)→Int→Option (Bool)
 |0,_,_,_,_,_,_,_=>none
 |k+1,D,O,L,J,U,B,I=>if U=true then (some false) else (api_Hall_right.l0 k D O L (wrap64 (J+1)) B I)
end
def api_Hall_right.f (k:Nat) (D:List (S56)) (I:Int) (J:Int):Option (Bool):=api_Hall_right.l0 k J D (D.length:Int) 0 D I
theorem api_Hall_right.Zk:∀ k,(∀ J L O D U X,LeO (api_Hall_right.l0 k J L O D U X) (api_Hall_right.l0 (k+1) J L O D U X))∧(∀ J L O D U X Y,LeO (api_Hall_right.j1 k J L O D U X Y) (api_Hall_right.j1 (k+1) J L O D U X Y))
 |0=>⟨fun _ _ _ _ _ _ r h=>by simp[api_Hall_right.l0] at h,fun _ _ _ _ _ _ _ r h=>by simp[api_Hall_right.j1] at h⟩
 |k+1=>by
  obtain⟨B,I⟩:=api_Hall_right.Zk k
  refine⟨?_, ?_⟩
  ·intro J L O D U X
   unfold api_Hall_right.l0
   repeat' first
   |(with_reducible exact B _ _ _ _ _ _)
   |(with_reducible exact I _ _ _ _ _ _ _)
   |(with_reducible exact LeO.refl _)
   |(with_reducible exact LeO.none _)
   |(with_reducible refine LeO.ite ?_ ?_)
   |(with_reducible refine LeO.bind ?_ (fun _=>?_))
   |exact B _ _ _ _ _ _
   |exact I _ _ _ _ _ _ _
   |exact LeO.none _
   |refine LeO.ite ?_ ?_
   |refine LeO.bind ?_ (fun _=>?_)
  ·intro J L O D U X Y
   unfold api_Hall_right.j1
   repeat' first
   |(with_reducible exact B _ _ _ _ _ _)
   |(with_reducible exact I _ _ _ _ _ _ _)
   |(with_reducible exact LeO.refl _)
   |(with_reducible exact LeO.none _)
   |(with_reducible refine LeO.ite ?_ ?_)
   |(with_reducible refine LeO.bind ?_ (fun _=>?_))
   |exact B _ _ _ _ _ _
   |exact I _ _ _ _ _ _ _
   |exact LeO.none _
   |refine LeO.ite ?_ ?_
   |refine LeO.bind ?_ (fun _=>?_)
theorem api_Hall_right.mono:∀ D J a2 k,LeO (api_Hall_right.f k D J a2) (api_Hall_right.f (k+1) D J a2):=by
 intro D J a2 k
 obtain⟨B,I⟩:=api_Hall_right.Zk k
 unfold api_Hall_right.f
 repeat' first
   |(with_reducible exact B _ _ _ _ _ _)
   |(with_reducible exact I _ _ _ _ _ _ _)
   |(with_reducible exact LeO.refl _)
   |(with_reducible exact LeO.none _)
   |(with_reducible refine LeO.ite ?_ ?_)
   |(with_reducible refine LeO.bind ?_ (fun _=>?_))
   |exact B _ _ _ _ _ _
   |exact I _ _ _ _ _ _ _
   |exact LeO.none _
   |refine LeO.ite ?_ ?_
   |refine LeO.bind ?_ (fun _=>?_)
def api_Hall_right.T4:Bool×List (List Nat×List Nat):=(true,[([],[]),([],[]),([0,1],[0,1]),([2],[2]),([3,2],[3]),([4],[4]),([5,4],[4,5]),([6,4,4],[4,6]),([7],[7]),([8,7],[7,8]),([7],[7]),([10,7],[7,10]),([7],[7]),([12,7],[7,12]),([11,13,7],[7,11,13]),([14,7],[7,14]),([7],[7]),([9,15,16,7,7],[7,9,15,16]),([17,7],[7,17]),([7,18,4],[4,7,18]),([4,19],[4,19])])
def api_Hall_right.B4:List Nat:=[0,0,3,7,15,31,63,127,255,511,255,1279,255,4351,15615,31999,255,131071,262143,524287,1048575]
theorem api_Hall_right.Kj:rtab .any (opsOf Try.f42 4)=api_Hall_right.T4:=by kernel_rfl
theorem api_Hall_right.Jf:Zp api_Hall_right.T4.2 api_Hall_right.B4=true:=by kernel_rfl
set_option maxHeartbeats 8000000 in
set_option maxRecDepth 100000 in
theorem api_Hall_right.calls (k:Nat) (μ :Option Addr) (Y:Nat) (D:List (S56)) (I:Int) (J:Int) (r:Bool) (w:World) (ω :Kd.C k56 w μ D.length D) (a2:D.length≤Y) (h:api_Hall_right.f k D I J=some r) (gh_:Nat) (hgh_:w.heap[gh_]?=some (.cells #[.int .i64 (X8 J),.int .i64 (X7 J)] 23 (0,0))):
  Calls Try.prog 42 #[.agg #[.slice μ D.length Y,.func (.func 51) #[] #[]],.func (.func 61) #[] #[.pointer (some ⟨gh_,0,none⟩)]] w fun e w'=>e = .returned (.bool r)∧Below w.heap.size w w':=by
 have HCH:=Aside0.mk hgh_
 clear hgh_
 have cb:=Try.underlying69
 have b2:=Try.underlying56
 have φ :=Aside0.mk ω
 have ab:=Aside0.mk a2
 clear ω a2
 have HB:=Aside0.mk (Below.refl w.heap.size w)
 have H:(api_Hall_right.l0 k J D (D.length:Int) 0 D I)=some r:=h
 clear h
 have H':=Aside0.mk H
 clear H
 go_enter Try.func42,Try.ntmps42
 go_wp2_with (first|((with_reducible refine Qs (N:=2) rfl ?_);refine qE 2 #[.slice μ D.length Y,.func (.func 51) #[] #[]] 69 ?_;intro ac hg w3 hbox hb;have θ :=Aside0.mk hbox;have bh:=sGe hg;have ah:=sGe hg;replace HB:=sHb hb;clear hb hbox hg;obtain⟨ae,ag,ai,ak⟩:=qD2 θ.out))
 go_loopg [10] k (fun kq af w'=>∃ (B:Int),af = .int .i64 B∧Aside0 (api_Hall_right.l0 kq J D (D.length:Int) B D I=some r)∧Aside0 (kq≤k)∧Aside0 (w'.heap[ac]?=some (.cells #[(.slice μ D.length Y),.func (.func 51) #[] #[]] 69 (0,0)))∧Aside0 (Below w.heap.size w w'))
 case atStart=>exact⟨(0),rfl,H',⟨Nat.le_refl _⟩,θ,HB⟩
 case round=>
  clear H'
  try clear p2
  try clear c4
  try clear ae
  try clear ag
  try clear ai
  try clear ak
  obtain⟨B,rfl,HA,σ,θ,HB⟩:=hrel
  cases gk with
  |zero=>exact absurd HA.out (by simp[api_Hall_right.l0])
  |succ k1=>
   have H:=HA.out
   clear HA
   simp only[api_Hall_right.l0] at H
   by_cases c5:B<(D.length:Int)
   ·rw[if_pos c5] at H
    have c5b0:decide (B<(D.length:Int))=true:=decide_eq_true c5
    clear c5
    by_cases c6:0≤B
    ·rw[if_pos c6] at H
     have c6b0:decide (0≤B)=true:=decide_eq_true c6
     clear c6
     by_cases c7:B<(D.length:Int)
     ·rw[if_pos c7] at H
      have c7b0:decide (B<(D.length:Int))=true:=decide_eq_true c7
      clear c7
      have aj:=Aside0.mk H
      clear H
      have a7:0≤(B:Int):=of_decide_eq_true (by assumption)
      have a8:B<(D.length:Int):=of_decide_eq_true (by assumption)
      obtain⟨a9,bu,ν,ξ,χ⟩:=Zw φ.out B a7 a8
      cases bu
      replace ν :=(HB.out.cell (World.block_lt_of_cell? w _ ν)).trans ν
      replace ξ :=(HB.out.cell (World.block_lt_of_cell? w _ ξ)).trans ξ
      replace χ :=(HB.out.cell (World.block_lt_of_cell? w _ χ)).trans χ
      replace a7:=eq_true a7
      replace a8:=eq_true a8
      go_upto_region 4 with(first|((with_reducible refine Qs (N:=6) rfl ?_);refine qE 6 #[.int .i64 0,.int .i64 0,.int .i64 0] 56 ?_;intro U hg w9 hbox hb;have O:=Aside0.mk hbox;have ρ:=sGe hg;have ca:=sGe hg;have an:=sNl θ hg;have ao:=sNg θ hg;replace θ :=sBk θ hb;replace HB:=sHb hb;clear hb hbox hg;have dh:=ao.out;have di:=an.out;obtain⟨b0,b1,av,b3,b4,aw⟩:=qD3 O.out))
      (try simp only[Act.put,qS])
      go_cut [35] (fun au wc=>∃ (kq:Nat) (γ:Bool),au = .bool γ∧Aside0 (api_Hall_right.j1 kq J D (D.length:Int) B γ D I=some r)∧Aside0 (kq≤k1)∧Aside0 (wc.heap[ac]?=some (.cells #[(.slice (some a9) D.length Y),.func (.func 51) #[] #[]] 69 (0,0)))∧Aside0 (wc.heap[U]?=some (.cells #[.int .i64 ((Qg D B).f0),.int .i64 ((Qg D B).f1),.int .i64 ((Qg D B).f2)] 56 (0,0)))∧Aside0 (Below w.heap.size w wc))
      case first=>
       have H:=aj.out
       clear aj
       replace H:=Option.bind_eq_some_iff.mp H
       obtain⟨a0,bf,H⟩:=H
       replace H:(if a0=true then (if B>0 then (if 0≤(wrap64 (B-1)) then (if (wrap64 (B-1))<(D.length:Int) then ((call_halls_1.f ((Qg D (wrap64 (B-1))).f0) ((Qg D (wrap64 (B-1))).f1) ((Qg D (wrap64 (B-1))).f2) ((Qg D B).f0) ((Qg D B).f1) ((Qg D B).f2)).bind fun τ =>(api_Hall_right.j1 k1 J D (D.length:Int) B (decide (τ ≥ 0)) D I)) else (none)) else (none)) else (api_Hall_right.j1 k1 J D (D.length:Int) B false D I)) else (api_Hall_right.j1 k1 J D (D.length:Int) B true D I))=some r:=H
       have bg:=Aside0.mk bf
       clear bf
       by_cases br:a0=true
       ·subst br
        have H1:(if B>0 then (if 0≤(wrap64 (B-1)) then (if (wrap64 (B-1))<(D.length:Int) then ((call_halls_1.f ((Qg D (wrap64 (B-1))).f0) ((Qg D (wrap64 (B-1))).f1) ((Qg D (wrap64 (B-1))).f2) ((Qg D B).f0) ((Qg D B).f1) ((Qg D B).f2)).bind fun τ =>(api_Hall_right.j1 k1 J D (D.length:Int) B (decide (τ ≥ 0)) D I)) else (none)) else (none)) else (api_Hall_right.j1 k1 J D (D.length:Int) B false D I))=some r:=by rw[if_pos rfl] at H;exact H
        clear H
        have H:=H1
        clear H1
        by_cases a3:B>0
        ·rw[if_pos a3] at H
         have c14b0:decide (0<B)=true:=decide_eq_true a3
         clear a3
         (first|rw[c14b0]|(simp only[Xm,Ya];rw[c14b0])|skip)
         obtain⟨κ,a6⟩:∃ j_:Int,(wrap64 (B-1))=j_:=⟨_,rfl⟩
         replace H:(if 0≤(κ) then (if (κ)<(D.length:Int) then ((call_halls_1.f ((Qg D (κ)).f0) ((Qg D (κ)).f1) ((Qg D (κ)).f2) ((Qg D B).f0) ((Qg D B).f1) ((Qg D B).f2)).bind fun τ =>(api_Hall_right.j1 k1 J D (D.length:Int) B (decide (τ ≥ 0)) D I)) else (none)) else (none))=some r:=by first|(rw[a6] at H;exact H)|(simp only[a6] at H ⊢;exact H)
         (try rw[a6] at bg)
         have hji15w:(IntKind.i64.wrap (B-1)) = κ :=(Xm _).trans a6
         by_cases a5:0≤(κ)
         ·rw[if_pos a5] at H
          have c16b0:decide (0≤(κ))=true:=decide_eq_true a5
          clear a5
          by_cases aa:(κ)<(D.length:Int)
          ·rw[if_pos aa] at H
           have c17b0:decide ((κ)<(D.length:Int))=true:=decide_eq_true aa
           clear aa
           replace H:=Option.bind_eq_some_iff.mp H
           obtain⟨τ,be,H⟩:=H
           replace H:(api_Hall_right.j1 k1 J D (D.length:Int) B (decide (τ ≥ 0)) D I)=some r:=H
           have bz:=Aside0.mk be
           clear be
           have H':=Aside0.mk H
           clear H
           try go_wp2
           have Z:Aside0 ((((w9.setCell ⟨U,0,none⟩ (.int .i64 ((Qg D B).f0))).setCell ⟨U,1,none⟩ (.int .i64 ((Qg D B).f1))).setCell ⟨U,2,none⟩ (.int .i64 ((Qg D B).f2))).heap[ac]?=some (.cells #[.slice (some a9) D.length Y,.func (.func 51) #[] #[]] 69 (0,0))):=⟨bka θ⟩
           have ε :Aside0 ((((w9.setCell ⟨U,0,none⟩ (.int .i64 ((Qg D B).f0))).setCell ⟨U,1,none⟩ (.int .i64 ((Qg D B).f1))).setCell ⟨U,2,none⟩ (.int .i64 ((Qg D B).f2))).heap[U]?=some (.cells #[.int .i64 ((Qg D B).f0),.int .i64 ((Qg D B).f1),.int .i64 ((Qg D B).f2)] 56 (0,0))):=⟨by refine Qw (cs:=#[.int .i64 ((Qg D B).f0),.int .i64 ((Qg D B).f1),.int .i64 0]) ?_ 2 _ rfl;refine Qw (cs:=#[.int .i64 ((Qg D B).f0),.int .i64 0,.int .i64 0]) ?_ 1 _ rfl;refine Qw (cs:=#[.int .i64 0,.int .i64 0,.int .i64 0]) ?_ 0 _ rfl;exact O.out⟩
           have ι :Aside0 (Below w.heap.size w (((w9.setCell ⟨U,0,none⟩ (.int .i64 ((Qg D B).f0))).setCell ⟨U,1,none⟩ (.int .i64 ((Qg D B).f1))).setCell ⟨U,2,none⟩ (.int .i64 ((Qg D B).f2)))):=⟨bel⟩
           (try clear θ)
           (try clear O)
           (try clear HB)
           generalize(((w9.setCell ⟨U,0,none⟩ (.int .i64 ((Qg D B).f0))).setCell ⟨U,1,none⟩ (.int .i64 ((Qg D B).f1))).setCell ⟨U,2,none⟩ (.int .i64 ((Qg D B).f2)))=fb at Z ε ι ⊢
           have θ :=Z
           have O:= ε
           have HB:= ι
           clear Z ε ι
           replace θ :=Aside0.mk (Qa θ.out)
           replace O:=Aside0.mk (Qa O.out)
           replace HB:=Aside0.mk (Qf HB.out)
           have al:0≤((κ):Int):=of_decide_eq_true (by assumption)
           have am:(κ)<(D.length:Int):=of_decide_eq_true (by assumption)
           obtain⟨ax,ay,L,X,δ⟩:=Zw φ.out (κ) al am
           have ζ := δ
           have η :=X
           have ψ :=L
           obtain rfl:a9=ax:=(by injection ay)
           replace L:=(HB.out.cell (World.block_lt_of_cell? w _ L)).trans L
           replace X:=(HB.out.cell (World.block_lt_of_cell? w _ X)).trans X
           replace δ :=(HB.out.cell (World.block_lt_of_cell? w _ δ)).trans δ
           replace al:=eq_true al
           replace am:=eq_true am
           refine Zm (n:=21) (S:=fun w'=>w'.cell? ⟨U,0,none⟩=some (.int .i64 ((Qg D B).f0))∧w'.cell? ⟨U,1,none⟩=some (.int .i64 ((Qg D B).f1))∧w'.cell? ⟨U,2,none⟩=some (.int .i64 ((Qg D B).f2))∧w'.cell? ⟨ac,0,none⟩=some (.slice (some a9) D.length Y)∧w'.cell? ⟨ac,1,none⟩=some (.func (.func 51) #[] #[])∧w'.cell? (a9.add (((κ)).toNat * 3))=some (.int .i64 ((Qg D (κ)).f0))∧w'.cell? ⟨(a9.add (((κ)).toNat * 3)).block,(a9.add (((κ)).toNat * 3)).off+1,none⟩=some (.int .i64 ((Qg D (κ)).f1))∧w'.cell? ⟨(a9.add (((κ)).toNat * 3)).block,(a9.add (((κ)).toNat * 3)).off+2,none⟩=some (.int .i64 ((Qg D (κ)).f2))) (ds:=[]) #[false,false,false,false,false,false,false,false,false,false,false,false,false,false,false,false,false,false,false,false,false] kr rfl rfl ⟨(Qi O.out 0).trans rfl,(Qi O.out 1).trans rfl,(Qi O.out 2).trans rfl,(Qi θ.out 0).trans rfl,(Qi θ.out 1).trans rfl,((HB.out.cell (World.block_lt_of_cell? w _ ψ)).trans ψ),((HB.out.cell (World.block_lt_of_cell? w _ η)).trans η),((HB.out.cell (World.block_lt_of_cell? w _ ζ)).trans ζ)⟩ (fun hHeld=>?_);refine Q7 api_Hall_right.Kj api_Hall_right.Jf (fun HT_ HW_=>?_)
           generalize fb.drew=eu at θ O HB L X δ hHeld ⊢
           refine qP 0 (some 15) (bN 21 1) HT_ ?_
           refine qT 1 (some 16) (bN 21 3) HT_ HW_ hHeld ?_
           refine Zi (i:=2) (N:=some 17) (bN 21 7) rfl rfl (Q2 HT_.out kr) (by decide) (fun K hK=>?_)
           refine Xj Try.func61 kr rfl #[] #[.pointer (some ⟨gh_,0,none⟩)] #[.agg #[.int .i64 ((Qg D B).f0),.int .i64 ((Qg D B).f1),.int .i64 ((Qg D B).f2)]] #[.agg #[.int .i64 ((Qg D B).f0),.int .i64 ((Qg D B).f1),.int .i64 ((Qg D B).f2)],.pointer (some ⟨gh_,0,none⟩)] rfl (by rfl) rfl rfl rfl qM ?_
           with_reducible refine(call_hall_1.calls ((Qg D B).f0) ((Qg D B).f1) ((Qg D B).f2) J true _ bg.out gh_ (Zx HCH.out (by repeat(first|(with_reducible first|exact HB.out|apply Qh|apply Qc|apply Qf)|exact HB.out|(refine Qd ?_ (Aside0.out (by assumption))))))).mono ?_
           rintro e d1 ⟨rfl,hb⟩
           refine⟨_,rfl, ?_⟩
           replace θ :=sBk θ hb
           replace O:=sBk O hb
           replace HB:=sHb hb
           (try clear hb)
           (try clear a4)
           (try clear hk)
           (try clear hi)
           refine hK.out _ _ ⟨qc O,qc O,qc O,qc θ,qc θ,((HB.out.cell (World.block_lt_of_cell? w _ ψ)).trans ψ),((HB.out.cell (World.block_lt_of_cell? w _ η)).trans η),((HB.out.cell (World.block_lt_of_cell? w _ ζ)).trans ζ)⟩ (fun hHeld=>?_)
           clear hK K
           refine qN (some 17) ?_
           refine qP 3 (some 18) (bN 21 15) HT_ ?_
           refine qP 4 (some 19) (bN 21 31) HT_ ?_
           refine qP 5 (some 20) (bN 21 63) HT_ ?_
           refine qP 6 (some 21) (bN 21 127) HT_ ?_
           refine qP 7 (some 22) (bN 21 255) HT_ ?_
           refine qP 8 (some 23) (bN 21 511) HT_ ?_
           refine qP 10 (some 25) (bN 21 1535) HT_ ?_
           refine qP 12 (some 27) (bN 21 5631) HT_ ?_
           refine qP 13 (some 28) (bN 21 13823) HT_ ?_
           refine qT 9 (some 24) (bN 21 14335) HT_ HW_ hHeld ?_
           refine qT 11 (some 26) (bN 21 16383) HT_ HW_ hHeld ?_
           refine qP 14 (some 29) (bN 21 32767) HT_ ?_
           refine qT 15 (some 30) (bN 21 65535) HT_ HW_ hHeld ?_
           refine qT 16 (some 31) (bN 21 131071) HT_ HW_ hHeld ?_
           refine Zi (i:=17) (N:=some 32) (bN 21 262143) rfl rfl (Q2 HT_.out kr) (by decide) (fun K hK=>?_)
           refine Xj Try.func51 kr rfl #[] #[] #[.agg #[.int .i64 ((Qg D (κ)).f0),.int .i64 ((Qg D (κ)).f1),.int .i64 ((Qg D (κ)).f2)],.agg #[.int .i64 ((Qg D B).f0),.int .i64 ((Qg D B).f1),.int .i64 ((Qg D B).f2)]] #[.agg #[.int .i64 ((Qg D (κ)).f0),.int .i64 ((Qg D (κ)).f1),.int .i64 ((Qg D (κ)).f2)],.agg #[.int .i64 ((Qg D B).f0),.int .i64 ((Qg D B).f1),.int .i64 ((Qg D B).f2)]] rfl (by rfl) rfl rfl rfl (by(try simp only[List.map_toArray,List.map_cons,List.map_nil]);first|done|(simp only[a6];rfl)|rfl|(simp only[List.length_drop,List.length_take];rfl)) ?_
           with_reducible refine(call_halls_1.calls ((Qg D (κ)).f0) ((Qg D (κ)).f1) ((Qg D (κ)).f2) ((Qg D B).f0) ((Qg D B).f1) ((Qg D B).f2) τ _ bz.out).mono ?_
           rintro e fc ⟨rfl,hb⟩
           refine⟨_,rfl, ?_⟩
           replace θ :=sBk θ hb
           replace O:=sBk O hb
           replace HB:=sHb hb
           (try clear hb)
           (try clear a4)
           (try clear hk)
           (try clear hi)
           refine hK.out _ _ ⟨qc O,qc O,qc O,qc θ,qc θ,((HB.out.cell (World.block_lt_of_cell? w _ ψ)).trans ψ),((HB.out.cell (World.block_lt_of_cell? w _ η)).trans η),((HB.out.cell (World.block_lt_of_cell? w _ ζ)).trans ζ)⟩ (fun hHeld=>?_)
           clear hK K
           refine qN (some 32) ?_
           refine qP 18 (some 33) (bN 21 524287) HT_ ?_
           refine qP 19 (some 34) (bN 21 1048575) HT_ ?_
           refine qP 20 (some 35) (bN 21 2097151) HT_ ?_
           refine Zr (Ze HT_.out kr) ?_
           try go_wp2
           go_meet
           case rel=>exact⟨_,(decide (τ ≥ 0)),rfl,H',⟨by have:=σ.out;omega⟩,θ,O,HB⟩
          ·rw[if_neg aa] at H
           exact absurd H (by simp)
         ·rw[if_neg a5] at H
          exact absurd H (by simp)
        ·rw[if_neg a3] at H
         have c14b0:decide (0<B)=false:=decide_eq_false a3
         clear a3
         (first|rw[c14b0]|(simp only[Xm,Ya];rw[c14b0])|skip)
         have H':=Aside0.mk H
         clear H
         try go_wp2
         have Z:Aside0 ((((w9.setCell ⟨U,0,none⟩ (.int .i64 ((Qg D B).f0))).setCell ⟨U,1,none⟩ (.int .i64 ((Qg D B).f1))).setCell ⟨U,2,none⟩ (.int .i64 ((Qg D B).f2))).heap[ac]?=some (.cells #[.slice (some a9) D.length Y,.func (.func 51) #[] #[]] 69 (0,0))):=⟨bka θ⟩
         have ε :Aside0 ((((w9.setCell ⟨U,0,none⟩ (.int .i64 ((Qg D B).f0))).setCell ⟨U,1,none⟩ (.int .i64 ((Qg D B).f1))).setCell ⟨U,2,none⟩ (.int .i64 ((Qg D B).f2))).heap[U]?=some (.cells #[.int .i64 ((Qg D B).f0),.int .i64 ((Qg D B).f1),.int .i64 ((Qg D B).f2)] 56 (0,0))):=⟨by refine Qw (cs:=#[.int .i64 ((Qg D B).f0),.int .i64 ((Qg D B).f1),.int .i64 0]) ?_ 2 _ rfl;refine Qw (cs:=#[.int .i64 ((Qg D B).f0),.int .i64 0,.int .i64 0]) ?_ 1 _ rfl;refine Qw (cs:=#[.int .i64 0,.int .i64 0,.int .i64 0]) ?_ 0 _ rfl;exact O.out⟩
         have ι :Aside0 (Below w.heap.size w (((w9.setCell ⟨U,0,none⟩ (.int .i64 ((Qg D B).f0))).setCell ⟨U,1,none⟩ (.int .i64 ((Qg D B).f1))).setCell ⟨U,2,none⟩ (.int .i64 ((Qg D B).f2)))):=⟨bel⟩
         (try clear θ)
         (try clear O)
         (try clear HB)
         generalize(((w9.setCell ⟨U,0,none⟩ (.int .i64 ((Qg D B).f0))).setCell ⟨U,1,none⟩ (.int .i64 ((Qg D B).f1))).setCell ⟨U,2,none⟩ (.int .i64 ((Qg D B).f2)))=df at Z ε ι ⊢
         have θ :=Z
         have O:= ε
         have HB:= ι
         clear Z ε ι
         replace θ :=Aside0.mk (Qa θ.out)
         replace O:=Aside0.mk (Qa O.out)
         replace HB:=Aside0.mk (Qf HB.out)
         refine Zm (n:=21) (S:=fun w'=>w'.cell? ⟨U,0,none⟩=some (.int .i64 ((Qg D B).f0))∧w'.cell? ⟨U,1,none⟩=some (.int .i64 ((Qg D B).f1))∧w'.cell? ⟨U,2,none⟩=some (.int .i64 ((Qg D B).f2))) (ds:=[]) #[false,false,false,false,false,false,false,false,false,false,false,false,false,false,false,false,false,false,false,false,false] kr rfl rfl ⟨(Qi O.out 0).trans rfl,(Qi O.out 1).trans rfl,(Qi O.out 2).trans rfl⟩ (fun hHeld=>?_);refine Q7 api_Hall_right.Kj api_Hall_right.Jf (fun HT_ HW_=>?_)
         generalize df.drew=cx at θ O HB hHeld ⊢
         refine qP 0 (some 15) (bN 21 1) HT_ ?_
         refine qT 1 (some 16) (bN 21 3) HT_ HW_ hHeld ?_
         refine Zi (i:=2) (N:=some 17) (bN 21 7) rfl rfl (Q2 HT_.out kr) (by decide) (fun K hK=>?_)
         refine Xj Try.func61 kr rfl #[] #[.pointer (some ⟨gh_,0,none⟩)] #[.agg #[.int .i64 ((Qg D B).f0),.int .i64 ((Qg D B).f1),.int .i64 ((Qg D B).f2)]] #[.agg #[.int .i64 ((Qg D B).f0),.int .i64 ((Qg D B).f1),.int .i64 ((Qg D B).f2)],.pointer (some ⟨gh_,0,none⟩)] rfl (by rfl) rfl rfl rfl qM ?_
         with_reducible refine(call_hall_1.calls ((Qg D B).f0) ((Qg D B).f1) ((Qg D B).f2) J true _ bg.out gh_ (Zx HCH.out (by repeat(first|(with_reducible first|exact HB.out|apply Qh|apply Qc|apply Qf)|exact HB.out|(refine Qd ?_ (Aside0.out (by assumption))))))).mono ?_
         rintro e fu ⟨rfl,hb⟩
         refine⟨_,rfl, ?_⟩
         replace θ :=sBk θ hb
         replace O:=sBk O hb
         replace HB:=sHb hb
         (try clear hb)
         (try clear a4)
         (try clear hk)
         (try clear hi)
         refine hK.out _ _ ⟨qc O,qc O,qc O⟩ (fun hHeld=>?_)
         clear hK K
         refine qN (some 17) ?_
         refine qP 3 (some 18) (bN 21 15) HT_ ?_
         refine qP 4 (some 19) (bN 21 31) HT_ ?_
         refine qP 5 (some 20) (bN 21 63) HT_ ?_
         refine qP 6 (some 21) (bN 21 127) HT_ ?_
         refine qP 7 (some 22) (bN 21 255) HT_ ?_
         refine qU 8 (some 23) (bN 21 511) HT_ ?_
         refine qU 9 (some 24) (bN 21 1023) HT_ ?_
         refine qU 10 (some 25) (bN 21 2047) HT_ ?_
         refine qU 11 (some 26) (bN 21 4095) HT_ ?_
         refine qU 12 (some 27) (bN 21 8191) HT_ ?_
         refine qU 13 (some 28) (bN 21 16383) HT_ ?_
         refine qU 14 (some 29) (bN 21 32767) HT_ ?_
         refine qU 15 (some 30) (bN 21 65535) HT_ ?_
         refine qU 16 (some 31) (bN 21 131071) HT_ ?_
         refine qU 17 (some 32) (bN 21 262143) HT_ ?_
         refine qU 18 (some 33) (bN 21 524287) HT_ ?_
         refine qP 19 (some 34) (bN 21 1048575) HT_ ?_
         refine qP 20 (some 35) (bN 21 2097151) HT_ ?_
         refine Zr (Ze HT_.out kr) ?_
         try go_wp2
         go_meet
         case rel=>exact⟨_,(false),rfl,H',⟨by have:=σ.out;omega⟩,θ,O,HB⟩
       ·replace br:=Bool.eq_false_iff.mpr br
        subst br
        have H1:(api_Hall_right.j1 k1 J D (D.length:Int) B true D I)=some r:=by rw[if_neg (show ¬ (false=true) by decide)] at H;exact H
        clear H
        have H:=H1
        clear H1
        have H':=Aside0.mk H
        clear H
        try go_wp2
        have Z:Aside0 ((((w9.setCell ⟨U,0,none⟩ (.int .i64 ((Qg D B).f0))).setCell ⟨U,1,none⟩ (.int .i64 ((Qg D B).f1))).setCell ⟨U,2,none⟩ (.int .i64 ((Qg D B).f2))).heap[ac]?=some (.cells #[.slice (some a9) D.length Y,.func (.func 51) #[] #[]] 69 (0,0))):=⟨bka θ⟩
        have ε :Aside0 ((((w9.setCell ⟨U,0,none⟩ (.int .i64 ((Qg D B).f0))).setCell ⟨U,1,none⟩ (.int .i64 ((Qg D B).f1))).setCell ⟨U,2,none⟩ (.int .i64 ((Qg D B).f2))).heap[U]?=some (.cells #[.int .i64 ((Qg D B).f0),.int .i64 ((Qg D B).f1),.int .i64 ((Qg D B).f2)] 56 (0,0))):=⟨by refine Qw (cs:=#[.int .i64 ((Qg D B).f0),.int .i64 ((Qg D B).f1),.int .i64 0]) ?_ 2 _ rfl;refine Qw (cs:=#[.int .i64 ((Qg D B).f0),.int .i64 0,.int .i64 0]) ?_ 1 _ rfl;refine Qw (cs:=#[.int .i64 0,.int .i64 0,.int .i64 0]) ?_ 0 _ rfl;exact O.out⟩
        have ι :Aside0 (Below w.heap.size w (((w9.setCell ⟨U,0,none⟩ (.int .i64 ((Qg D B).f0))).setCell ⟨U,1,none⟩ (.int .i64 ((Qg D B).f1))).setCell ⟨U,2,none⟩ (.int .i64 ((Qg D B).f2)))):=⟨bel⟩
        (try clear θ)
        (try clear O)
        (try clear HB)
        generalize(((w9.setCell ⟨U,0,none⟩ (.int .i64 ((Qg D B).f0))).setCell ⟨U,1,none⟩ (.int .i64 ((Qg D B).f1))).setCell ⟨U,2,none⟩ (.int .i64 ((Qg D B).f2)))=bq at Z ε ι ⊢
        have θ :=Z
        have O:= ε
        have HB:= ι
        clear Z ε ι
        replace θ :=Aside0.mk (Qa θ.out)
        replace O:=Aside0.mk (Qa O.out)
        replace HB:=Aside0.mk (Qf HB.out)
        refine Zm (n:=21) (S:=fun w'=>w'.cell? ⟨U,0,none⟩=some (.int .i64 ((Qg D B).f0))∧w'.cell? ⟨U,1,none⟩=some (.int .i64 ((Qg D B).f1))∧w'.cell? ⟨U,2,none⟩=some (.int .i64 ((Qg D B).f2))) (ds:=[]) #[false,false,false,false,false,false,false,false,false,false,false,false,false,false,false,false,false,false,false,false,false] kr rfl rfl ⟨(Qi O.out 0).trans rfl,(Qi O.out 1).trans rfl,(Qi O.out 2).trans rfl⟩ (fun hHeld=>?_);refine Q7 api_Hall_right.Kj api_Hall_right.Jf (fun HT_ HW_=>?_)
        generalize bq.drew=dn at θ O HB hHeld ⊢
        refine qP 0 (some 15) (bN 21 1) HT_ ?_
        refine qT 1 (some 16) (bN 21 3) HT_ HW_ hHeld ?_
        refine Zi (i:=2) (N:=some 17) (bN 21 7) rfl rfl (Q2 HT_.out kr) (by decide) (fun K hK=>?_)
        refine Xj Try.func61 kr rfl #[] #[.pointer (some ⟨gh_,0,none⟩)] #[.agg #[.int .i64 ((Qg D B).f0),.int .i64 ((Qg D B).f1),.int .i64 ((Qg D B).f2)]] #[.agg #[.int .i64 ((Qg D B).f0),.int .i64 ((Qg D B).f1),.int .i64 ((Qg D B).f2)],.pointer (some ⟨gh_,0,none⟩)] rfl (by rfl) rfl rfl rfl qM ?_
        with_reducible refine(call_hall_1.calls ((Qg D B).f0) ((Qg D B).f1) ((Qg D B).f2) J false _ bg.out gh_ (Zx HCH.out (by repeat(first|(with_reducible first|exact HB.out|apply Qh|apply Qc|apply Qf)|exact HB.out|(refine Qd ?_ (Aside0.out (by assumption))))))).mono ?_
        rintro e dt ⟨rfl,hb⟩
        refine⟨_,rfl, ?_⟩
        replace θ :=sBk θ hb
        replace O:=sBk O hb
        replace HB:=sHb hb
        (try clear hb)
        (try clear a4)
        (try clear hk)
        (try clear hi)
        refine hK.out _ _ ⟨qc O,qc O,qc O⟩ (fun hHeld=>?_)
        clear hK K
        refine qN (some 17) ?_
        refine qP 3 (some 18) (bN 21 15) HT_ ?_
        refine qP 4 (some 19) (bN 21 31) HT_ ?_
        refine qU 5 (some 20) (bN 21 63) HT_ ?_
        refine qU 6 (some 21) (bN 21 127) HT_ ?_
        refine qU 7 (some 22) (bN 21 255) HT_ ?_
        refine qU 8 (some 23) (bN 21 511) HT_ ?_
        refine qU 9 (some 24) (bN 21 1023) HT_ ?_
        refine qU 10 (some 25) (bN 21 2047) HT_ ?_
        refine qU 11 (some 26) (bN 21 4095) HT_ ?_
        refine qU 12 (some 27) (bN 21 8191) HT_ ?_
        refine qU 13 (some 28) (bN 21 16383) HT_ ?_
        refine qU 14 (some 29) (bN 21 32767) HT_ ?_
        refine qU 15 (some 30) (bN 21 65535) HT_ ?_
        refine qU 16 (some 31) (bN 21 131071) HT_ ?_
        refine qU 17 (some 32) (bN 21 262143) HT_ ?_
        refine qU 18 (some 33) (bN 21 524287) HT_ ?_
        refine qU 19 (some 34) (bN 21 1048575) HT_ ?_
        refine qP 20 (some 35) (bN 21 2097151) HT_ ?_
        refine Zr (Ze HT_.out kr) ?_
        try go_wp2
        go_meet
        case rel=>exact⟨_,(true),rfl,H',⟨by have:=σ.out;omega⟩,θ,O,HB⟩
      case rest=>
       clear aj
       try clear c1
       try clear p1
       try clear q1
       try clear bv
       try clear p2
       try clear c5
       try clear c6
       try clear dr
       try clear dx
       try clear dl
       try clear br
       try clear a3
       try clear c14b0
       try clear a5
       try clear aa
       try clear c17b0
       try clear L
       try clear X
       try clear δ
       try clear al
       try clear am
       obtain⟨kq,γ,rfl,HA,ap,θ,O,HB⟩:=hcut
       cases kq with
       |zero=>exact absurd HA.out (by simp[api_Hall_right.j1])
       |succ ar=>
        have H:=HA.out
        clear HA
        simp only[api_Hall_right.j1] at H
        by_cases bw:γ=true
        ·subst bw
         have H1:(some false)=some r:=by rw[if_pos rfl] at H;exact H
         clear H
         have H:=H1
         clear H1
         obtain rfl:=Option.some.inj H
         go_wp2
         go_ret
         exact⟨rfl,HB.out⟩
        ·replace bw:=Bool.eq_false_iff.mpr bw
         subst bw
         have H1:(api_Hall_right.l0 ar J D (D.length:Int) (wrap64 (B+1)) D I)=some r:=by rw[if_neg (show ¬ (false=true) by decide)] at H;exact H
         clear H
         have H:=H1
         clear H1
         have H':=Aside0.mk H
         clear H
         go_wp2
         go_roundg ar
         case measure=>have:=σ.out;have:=ap.out;omega
         case rel=>exact⟨(wrap64 (B+1)),rfl,H',⟨by have:=σ.out;have:=ap.out;omega⟩,θ,HB⟩
     ·rw[if_neg c7] at H
      exact absurd H (by simp)
    ·rw[if_neg c6] at H
     exact absurd H (by simp)
   ·rw[if_neg c5] at H
    have c5b0:decide (B<(D.length:Int))=false:=decide_eq_false c5
    clear c5
    obtain rfl:=Option.some.inj H
    go_wp2
    go_ret
    exact⟨rfl,HB.out⟩
mutual
def api_Inside_right.l0:Nat→Int→List (S62)→Int→Int→List (S62)→Int→Option (Bool)
 |0,_,_,_,_,_,_=>none
 |k+1,D,O,L,J,B,I=>if J<L then (if 0≤J then (if J<(O.length:Int) then ((call_inside_1.f ((Qo O J).f0) ((Qo O J).f1) D).bind fun ac=>(if ac=true then (if J>0 then (if 0≤(wrap64 (J-1)) then (if (wrap64 (J-1))<(B.length:Int) then ((call_ins_1.f ((Qo B (wrap64 (J-1))).f0) ((Qo B (wrap64 (J-1))).f1) ((Qo O J).f0) ((Qo O J).f1)).bind fun X=>(api_Inside_right.j1 k D O L J (decide (X≥0)) B I)) else (none)) else (none)) else (api_Inside_right.j1 k D O L J false B I)) else (api_Inside_right.j1 k D O L J true B I))) else (none)) else (none)) else (some true)
def api_Inside_right.j1:Nat→Int→List (S62)→Int→Int→Bool→List (S62)→Int→Option (Bool)
 |0,_,_,_,_,_,_,_=>none
 |k+1,D,O,L,J,U,B,I=>if U=true then (some false) else (api_Inside_right.l0 k D O L (wrap64 (J+1)) B I)
end
def api_Inside_right.f (k:Nat) (D:List (S62)) (I:Int) (J:Int):Option (Bool):=api_Inside_right.l0 k J D (D.length:Int) 0 D I
theorem api_Inside_right.Zk:∀ k,(∀ J L O D U X,LeO (api_Inside_right.l0 k J L O D U X) (api_Inside_right.l0 (k+1) J L O D U X))∧(∀ J L O D U X Y,LeO (api_Inside_right.j1 k J L O D U X Y) (api_Inside_right.j1 (k+1) J L O D U X Y))
 |0=>⟨fun _ _ _ _ _ _ r h=>by simp[api_Inside_right.l0] at h,fun _ _ _ _ _ _ _ r h=>by simp[api_Inside_right.j1] at h⟩
 |k+1=>by
  obtain⟨B,I⟩:=api_Inside_right.Zk k
  refine⟨?_, ?_⟩
  ·intro J L O D U X
   unfold api_Inside_right.l0
   repeat' first
   |(with_reducible exact B _ _ _ _ _ _)
   |(with_reducible exact I _ _ _ _ _ _ _)
   |(with_reducible exact LeO.refl _)
   |(with_reducible exact LeO.none _)
   |(with_reducible refine LeO.ite ?_ ?_)
   |(with_reducible refine LeO.bind ?_ (fun _=>?_))
   |exact B _ _ _ _ _ _
   |exact I _ _ _ _ _ _ _
   |exact LeO.none _
   |refine LeO.ite ?_ ?_
   |refine LeO.bind ?_ (fun _=>?_)
  ·intro J L O D U X Y
   unfold api_Inside_right.j1
   repeat' first
   |(with_reducible exact B _ _ _ _ _ _)
   |(with_reducible exact I _ _ _ _ _ _ _)
   |(with_reducible exact LeO.refl _)
   |(with_reducible exact LeO.none _)
   |(with_reducible refine LeO.ite ?_ ?_)
   |(with_reducible refine LeO.bind ?_ (fun _=>?_))
   |exact B _ _ _ _ _ _
   |exact I _ _ _ _ _ _ _
   |exact LeO.none _
   |refine LeO.ite ?_ ?_
   |refine LeO.bind ?_ (fun _=>?_)
theorem api_Inside_right.mono:∀ D J a2 k,LeO (api_Inside_right.f k D J a2) (api_Inside_right.f (k+1) D J a2):=by
 intro D J a2 k
 obtain⟨B,I⟩:=api_Inside_right.Zk k
 unfold api_Inside_right.f
 repeat' first
   |(with_reducible exact B _ _ _ _ _ _)
   |(with_reducible exact I _ _ _ _ _ _ _)
   |(with_reducible exact LeO.refl _)
   |(with_reducible exact LeO.none _)
   |(with_reducible refine LeO.ite ?_ ?_)
   |(with_reducible refine LeO.bind ?_ (fun _=>?_))
   |exact B _ _ _ _ _ _
   |exact I _ _ _ _ _ _ _
   |exact LeO.none _
   |refine LeO.ite ?_ ?_
   |refine LeO.bind ?_ (fun _=>?_)
def api_Inside_right.T4:Bool×List (List Nat×List Nat):=(true,[([],[]),([],[]),([0,1],[0,1]),([2],[2]),([3,2],[3]),([4],[4]),([5,4],[4,5]),([6,4,4],[4,6]),([7],[7]),([8,7],[7,8]),([7],[7]),([10,7],[7,10]),([7],[7]),([12,7],[7,12]),([11,13,7],[7,11,13]),([14,7],[7,14]),([7],[7]),([9,15,16,7,7],[7,9,15,16]),([17,7],[7,17]),([7,18,4],[4,7,18]),([4,19],[4,19])])
def api_Inside_right.B4:List Nat:=[0,0,3,7,15,31,63,127,255,511,255,1279,255,4351,15615,31999,255,131071,262143,524287,1048575]
theorem api_Inside_right.Kj:rtab .any (opsOf Try.f43 4)=api_Inside_right.T4:=by kernel_rfl
theorem api_Inside_right.Jf:Zp api_Inside_right.T4.2 api_Inside_right.B4=true:=by kernel_rfl
set_option maxHeartbeats 8000000 in
set_option maxRecDepth 100000 in
theorem api_Inside_right.calls (k:Nat) (μ :Option Addr) (Y:Nat) (D:List (S62)) (I:Int) (J:Int) (r:Bool) (w:World) (ω :Kd.C k62 w μ D.length D) (a2:D.length≤Y) (h:api_Inside_right.f k D I J=some r) (gh_:Nat) (hgh_:w.heap[gh_]?=some (.cells #[.int .i64 (X8 J),.int .i64 (X7 J)] 23 (0,0))):
  Calls Try.prog 43 #[.agg #[.slice μ D.length Y,.func (.func 57) #[] #[]],.func (.func 50) #[] #[.pointer (some ⟨gh_,0,none⟩)]] w fun e w'=>e = .returned (.bool r)∧Below w.heap.size w w':=by
 have HCH:=Aside0.mk hgh_
 clear hgh_
 have bj:=Try.underlying74
 have b9:=Try.underlying62
 have φ :=Aside0.mk ω
 have ab:=Aside0.mk a2
 clear ω a2
 have HB:=Aside0.mk (Below.refl w.heap.size w)
 have H:(api_Inside_right.l0 k J D (D.length:Int) 0 D I)=some r:=h
 clear h
 have H':=Aside0.mk H
 clear H
 go_enter Try.func43,Try.ntmps43
 go_wp2_with (first|((with_reducible refine Qs (N:=2) rfl ?_);refine qE 2 #[.slice μ D.length Y,.func (.func 57) #[] #[]] 74 ?_;intro a8 hg w3 hbox hb;have O:=Aside0.mk hbox;have e9:=sGe hg;have ea:=sGe hg;replace HB:=sHb hb;clear hb hbox hg;obtain⟨ae,ag,ai,ak⟩:=qD2 O.out))
 go_loopg [10] k (fun kq af w'=>∃ (B:Int),af = .int .i64 B∧Aside0 (api_Inside_right.l0 kq J D (D.length:Int) B D I=some r)∧Aside0 (kq≤k)∧Aside0 (w'.heap[a8]?=some (.cells #[(.slice μ D.length Y),.func (.func 57) #[] #[]] 74 (0,0)))∧Aside0 (Below w.heap.size w w'))
 case atStart=>exact⟨(0),rfl,H',⟨Nat.le_refl _⟩,O,HB⟩
 case round=>
  clear H'
  try clear p2
  try clear c4
  try clear ae
  try clear ag
  try clear ai
  try clear ak
  obtain⟨B,rfl,HA,σ,O,HB⟩:=hrel
  cases gk with
  |zero=>exact absurd HA.out (by simp[api_Inside_right.l0])
  |succ k1=>
   have H:=HA.out
   clear HA
   simp only[api_Inside_right.l0] at H
   by_cases c5:B<(D.length:Int)
   ·rw[if_pos c5] at H
    have c5b0:decide (B<(D.length:Int))=true:=decide_eq_true c5
    clear c5
    by_cases c6:0≤B
    ·rw[if_pos c6] at H
     have c6b0:decide (0≤B)=true:=decide_eq_true c6
     clear c6
     by_cases c7:B<(D.length:Int)
     ·rw[if_pos c7] at H
      have c7b0:decide (B<(D.length:Int))=true:=decide_eq_true c7
      clear c7
      have aj:=Aside0.mk H
      clear H
      have χ :0≤(B:Int):=of_decide_eq_true (by assumption)
      have ψ :B<(D.length:Int):=of_decide_eq_true (by assumption)
      obtain⟨δ,a9,ν,ξ⟩:=Zu φ.out B χ ψ
      cases a9
      replace ν :=(HB.out.cell (World.block_lt_of_cell? w _ ν)).trans ν
      replace ξ :=(HB.out.cell (World.block_lt_of_cell? w _ ξ)).trans ξ
      replace χ :=eq_true χ
      replace ψ :=eq_true ψ
      go_upto_region 4 with(first|((with_reducible refine Qs (N:=6) rfl ?_);refine qE 6 #[.int .i64 0,.int .i64 0] 62 ?_;intro U hg w9 hbox hb;have L:=Aside0.mk hbox;have al:=sGe hg;have θ :=sGe hg;have ρ:=sNl O hg;have τ :=sNg O hg;replace O:=sBk O hb;replace HB:=sHb hb;clear hb hbox hg;have dh:= τ.out;have di:=ρ.out;obtain⟨b0,b1,b3,b4⟩:=qD2 L.out))
      (try simp only[Act.put,qS])
      go_cut [35] (fun au wc=>∃ (kq:Nat) (γ:Bool),au = .bool γ∧Aside0 (api_Inside_right.j1 kq J D (D.length:Int) B γ D I=some r)∧Aside0 (kq≤k1)∧Aside0 (wc.heap[a8]?=some (.cells #[(.slice (some δ) D.length Y),.func (.func 57) #[] #[]] 74 (0,0)))∧Aside0 (wc.heap[U]?=some (.cells #[.int .i64 ((Qo D B).f0),.int .i64 ((Qo D B).f1)] 62 (0,0)))∧Aside0 (Below w.heap.size w wc))
      case first=>
       have H:=aj.out
       clear aj
       replace H:=Option.bind_eq_some_iff.mp H
       obtain⟨ac,bf,H⟩:=H
       replace H:(if ac=true then (if B>0 then (if 0≤(wrap64 (B-1)) then (if (wrap64 (B-1))<(D.length:Int) then ((call_ins_1.f ((Qo D (wrap64 (B-1))).f0) ((Qo D (wrap64 (B-1))).f1) ((Qo D B).f0) ((Qo D B).f1)).bind fun X=>(api_Inside_right.j1 k1 J D (D.length:Int) B (decide (X≥0)) D I)) else (none)) else (none)) else (api_Inside_right.j1 k1 J D (D.length:Int) B false D I)) else (api_Inside_right.j1 k1 J D (D.length:Int) B true D I))=some r:=H
       have bg:=Aside0.mk bf
       clear bf
       by_cases br:ac=true
       ·subst br
        have H1:(if B>0 then (if 0≤(wrap64 (B-1)) then (if (wrap64 (B-1))<(D.length:Int) then ((call_ins_1.f ((Qo D (wrap64 (B-1))).f0) ((Qo D (wrap64 (B-1))).f1) ((Qo D B).f0) ((Qo D B).f1)).bind fun X=>(api_Inside_right.j1 k1 J D (D.length:Int) B (decide (X≥0)) D I)) else (none)) else (none)) else (api_Inside_right.j1 k1 J D (D.length:Int) B false D I))=some r:=by rw[if_pos rfl] at H;exact H
        clear H
        have H:=H1
        clear H1
        by_cases a3:B>0
        ·rw[if_pos a3] at H
         have c14b0:decide (0<B)=true:=decide_eq_true a3
         clear a3
         (first|rw[c14b0]|(simp only[Xm,Ya];rw[c14b0])|skip)
         obtain⟨κ,a6⟩:∃ j_:Int,(wrap64 (B-1))=j_:=⟨_,rfl⟩
         replace H:(if 0≤(κ) then (if (κ)<(D.length:Int) then ((call_ins_1.f ((Qo D (κ)).f0) ((Qo D (κ)).f1) ((Qo D B).f0) ((Qo D B).f1)).bind fun X=>(api_Inside_right.j1 k1 J D (D.length:Int) B (decide (X≥0)) D I)) else (none)) else (none))=some r:=by first|(rw[a6] at H;exact H)|(simp only[a6] at H ⊢;exact H)
         (try rw[a6] at bg)
         have hji15w:(IntKind.i64.wrap (B-1)) = κ :=(Xm _).trans a6
         by_cases a5:0≤(κ)
         ·rw[if_pos a5] at H
          have c16b0:decide (0≤(κ))=true:=decide_eq_true a5
          clear a5
          by_cases aa:(κ)<(D.length:Int)
          ·rw[if_pos aa] at H
           have c17b0:decide ((κ)<(D.length:Int))=true:=decide_eq_true aa
           clear aa
           replace H:=Option.bind_eq_some_iff.mp H
           obtain⟨X,be,H⟩:=H
           replace H:(api_Inside_right.j1 k1 J D (D.length:Int) B (decide (X≥0)) D I)=some r:=H
           have bz:=Aside0.mk be
           clear be
           have H':=Aside0.mk H
           clear H
           try go_wp2
           have Z:Aside0 (((w9.setCell ⟨U,0,none⟩ (.int .i64 ((Qo D B).f0))).setCell ⟨U,1,none⟩ (.int .i64 ((Qo D B).f1))).heap[a8]?=some (.cells #[.slice (some δ) D.length Y,.func (.func 57) #[] #[]] 74 (0,0))):=⟨bka O⟩
           have ε :Aside0 (((w9.setCell ⟨U,0,none⟩ (.int .i64 ((Qo D B).f0))).setCell ⟨U,1,none⟩ (.int .i64 ((Qo D B).f1))).heap[U]?=some (.cells #[.int .i64 ((Qo D B).f0),.int .i64 ((Qo D B).f1)] 62 (0,0))):=⟨by refine Qw (cs:=#[.int .i64 ((Qo D B).f0),.int .i64 0]) ?_ 1 _ rfl;refine Qw (cs:=#[.int .i64 0,.int .i64 0]) ?_ 0 _ rfl;exact L.out⟩
           have ι :Aside0 (Below w.heap.size w ((w9.setCell ⟨U,0,none⟩ (.int .i64 ((Qo D B).f0))).setCell ⟨U,1,none⟩ (.int .i64 ((Qo D B).f1)))):=⟨bel⟩
           (try clear O)
           (try clear L)
           (try clear HB)
           generalize((w9.setCell ⟨U,0,none⟩ (.int .i64 ((Qo D B).f0))).setCell ⟨U,1,none⟩ (.int .i64 ((Qo D B).f1)))=fb at Z ε ι ⊢
           have O:=Z
           have L:= ε
           have HB:= ι
           clear Z ε ι
           replace O:=Aside0.mk (Qa O.out)
           replace L:=Aside0.mk (Qa L.out)
           replace HB:=Aside0.mk (Qf HB.out)
           have aw:0≤((κ):Int):=of_decide_eq_true (by assumption)
           have b5:(κ)<(D.length:Int):=of_decide_eq_true (by assumption)
           obtain⟨dq,e3,a0,a7⟩:=Zu φ.out (κ) aw b5
           have ζ :=a7
           have η :=a0
           obtain rfl: δ = dq:=(by injection e3)
           replace a0:=(HB.out.cell (World.block_lt_of_cell? w _ a0)).trans a0
           replace a7:=(HB.out.cell (World.block_lt_of_cell? w _ a7)).trans a7
           replace aw:=eq_true aw
           replace b5:=eq_true b5
           refine Zm (n:=21) (S:=fun w'=>w'.cell? ⟨U,0,none⟩=some (.int .i64 ((Qo D B).f0))∧w'.cell? ⟨U,1,none⟩=some (.int .i64 ((Qo D B).f1))∧w'.cell? ⟨a8,0,none⟩=some (.slice (some δ) D.length Y)∧w'.cell? ⟨a8,1,none⟩=some (.func (.func 57) #[] #[])∧w'.cell? (δ.add (((κ)).toNat * 2))=some (.int .i64 ((Qo D (κ)).f0))∧w'.cell? ⟨(δ.add (((κ)).toNat * 2)).block,(δ.add (((κ)).toNat * 2)).off+1,none⟩=some (.int .i64 ((Qo D (κ)).f1))) (ds:=[]) #[false,false,false,false,false,false,false,false,false,false,false,false,false,false,false,false,false,false,false,false,false] kr rfl rfl ⟨(Qi L.out 0).trans rfl,(Qi L.out 1).trans rfl,(Qi O.out 0).trans rfl,(Qi O.out 1).trans rfl,((HB.out.cell (World.block_lt_of_cell? w _ η)).trans η),((HB.out.cell (World.block_lt_of_cell? w _ ζ)).trans ζ)⟩ (fun hHeld=>?_);refine Q7 api_Inside_right.Kj api_Inside_right.Jf (fun HT_ HW_=>?_)
           generalize fb.drew=eu at O L HB a0 a7 hHeld ⊢
           refine qP 0 (some 15) (bN 21 1) HT_ ?_
           refine qT 1 (some 16) (bN 21 3) HT_ HW_ hHeld ?_
           refine Zi (i:=2) (N:=some 17) (bN 21 7) rfl rfl (Q2 HT_.out kr) (by decide) (fun K hK=>?_)
           refine Xj Try.func50 kr rfl #[] #[.pointer (some ⟨gh_,0,none⟩)] #[.agg #[.int .i64 ((Qo D B).f0),.int .i64 ((Qo D B).f1)]] #[.agg #[.int .i64 ((Qo D B).f0),.int .i64 ((Qo D B).f1)],.pointer (some ⟨gh_,0,none⟩)] rfl (by rfl) rfl rfl rfl qM ?_
           with_reducible refine(call_inside_1.calls ((Qo D B).f0) ((Qo D B).f1) J true _ bg.out gh_ (Zx HCH.out (by repeat(first|(with_reducible first|exact HB.out|apply Qh|apply Qc|apply Qf)|exact HB.out|(refine Qd ?_ (Aside0.out (by assumption))))))).mono ?_
           rintro e d1 ⟨rfl,hb⟩
           refine⟨_,rfl, ?_⟩
           replace O:=sBk O hb
           replace L:=sBk L hb
           replace HB:=sHb hb
           (try clear hb)
           (try clear a4)
           (try clear hk)
           (try clear hi)
           refine hK.out _ _ ⟨qc L,qc L,qc O,qc O,((HB.out.cell (World.block_lt_of_cell? w _ η)).trans η),((HB.out.cell (World.block_lt_of_cell? w _ ζ)).trans ζ)⟩ (fun hHeld=>?_)
           clear hK K
           refine qN (some 17) ?_
           refine qP 3 (some 18) (bN 21 15) HT_ ?_
           refine qP 4 (some 19) (bN 21 31) HT_ ?_
           refine qP 5 (some 20) (bN 21 63) HT_ ?_
           refine qP 6 (some 21) (bN 21 127) HT_ ?_
           refine qP 7 (some 22) (bN 21 255) HT_ ?_
           refine qP 8 (some 23) (bN 21 511) HT_ ?_
           refine qP 10 (some 25) (bN 21 1535) HT_ ?_
           refine qP 12 (some 27) (bN 21 5631) HT_ ?_
           refine qP 13 (some 28) (bN 21 13823) HT_ ?_
           refine qT 9 (some 24) (bN 21 14335) HT_ HW_ hHeld ?_
           refine qT 11 (some 26) (bN 21 16383) HT_ HW_ hHeld ?_
           refine qP 14 (some 29) (bN 21 32767) HT_ ?_
           refine qT 15 (some 30) (bN 21 65535) HT_ HW_ hHeld ?_
           refine qT 16 (some 31) (bN 21 131071) HT_ HW_ hHeld ?_
           refine Zi (i:=17) (N:=some 32) (bN 21 262143) rfl rfl (Q2 HT_.out kr) (by decide) (fun K hK=>?_)
           refine Xj Try.func57 kr rfl #[] #[] #[.agg #[.int .i64 ((Qo D (κ)).f0),.int .i64 ((Qo D (κ)).f1)],.agg #[.int .i64 ((Qo D B).f0),.int .i64 ((Qo D B).f1)]] #[.agg #[.int .i64 ((Qo D (κ)).f0),.int .i64 ((Qo D (κ)).f1)],.agg #[.int .i64 ((Qo D B).f0),.int .i64 ((Qo D B).f1)]] rfl (by rfl) rfl rfl rfl (by(try simp only[List.map_toArray,List.map_cons,List.map_nil]);first|done|(simp only[a6];rfl)|rfl|(simp only[List.length_drop,List.length_take];rfl)) ?_
           with_reducible refine(call_ins_1.calls ((Qo D (κ)).f0) ((Qo D (κ)).f1) ((Qo D B).f0) ((Qo D B).f1) X _ bz.out).mono ?_
           rintro e fc ⟨rfl,hb⟩
           refine⟨_,rfl, ?_⟩
           replace O:=sBk O hb
           replace L:=sBk L hb
           replace HB:=sHb hb
           (try clear hb)
           (try clear a4)
           (try clear hk)
           (try clear hi)
           refine hK.out _ _ ⟨qc L,qc L,qc O,qc O,((HB.out.cell (World.block_lt_of_cell? w _ η)).trans η),((HB.out.cell (World.block_lt_of_cell? w _ ζ)).trans ζ)⟩ (fun hHeld=>?_)
           clear hK K
           refine qN (some 32) ?_
           refine qP 18 (some 33) (bN 21 524287) HT_ ?_
           refine qP 19 (some 34) (bN 21 1048575) HT_ ?_
           refine qP 20 (some 35) (bN 21 2097151) HT_ ?_
           refine Zr (Ze HT_.out kr) ?_
           try go_wp2
           go_meet
           case rel=>exact⟨_,(decide (X≥0)),rfl,H',⟨by have:=σ.out;omega⟩,O,L,HB⟩
          ·rw[if_neg aa] at H
           exact absurd H (by simp)
         ·rw[if_neg a5] at H
          exact absurd H (by simp)
        ·rw[if_neg a3] at H
         have c14b0:decide (0<B)=false:=decide_eq_false a3
         clear a3
         (first|rw[c14b0]|(simp only[Xm,Ya];rw[c14b0])|skip)
         have H':=Aside0.mk H
         clear H
         try go_wp2
         have Z:Aside0 (((w9.setCell ⟨U,0,none⟩ (.int .i64 ((Qo D B).f0))).setCell ⟨U,1,none⟩ (.int .i64 ((Qo D B).f1))).heap[a8]?=some (.cells #[.slice (some δ) D.length Y,.func (.func 57) #[] #[]] 74 (0,0))):=⟨bka O⟩
         have ε :Aside0 (((w9.setCell ⟨U,0,none⟩ (.int .i64 ((Qo D B).f0))).setCell ⟨U,1,none⟩ (.int .i64 ((Qo D B).f1))).heap[U]?=some (.cells #[.int .i64 ((Qo D B).f0),.int .i64 ((Qo D B).f1)] 62 (0,0))):=⟨by refine Qw (cs:=#[.int .i64 ((Qo D B).f0),.int .i64 0]) ?_ 1 _ rfl;refine Qw (cs:=#[.int .i64 0,.int .i64 0]) ?_ 0 _ rfl;exact L.out⟩
         have ι :Aside0 (Below w.heap.size w ((w9.setCell ⟨U,0,none⟩ (.int .i64 ((Qo D B).f0))).setCell ⟨U,1,none⟩ (.int .i64 ((Qo D B).f1)))):=⟨bel⟩
         (try clear O)
         (try clear L)
         (try clear HB)
         generalize((w9.setCell ⟨U,0,none⟩ (.int .i64 ((Qo D B).f0))).setCell ⟨U,1,none⟩ (.int .i64 ((Qo D B).f1)))=df at Z ε ι ⊢
         have O:=Z
         have L:= ε
         have HB:= ι
         clear Z ε ι
         replace O:=Aside0.mk (Qa O.out)
         replace L:=Aside0.mk (Qa L.out)
         replace HB:=Aside0.mk (Qf HB.out)
         refine Zm (n:=21) (S:=fun w'=>w'.cell? ⟨U,0,none⟩=some (.int .i64 ((Qo D B).f0))∧w'.cell? ⟨U,1,none⟩=some (.int .i64 ((Qo D B).f1))) (ds:=[]) #[false,false,false,false,false,false,false,false,false,false,false,false,false,false,false,false,false,false,false,false,false] kr rfl rfl ⟨(Qi L.out 0).trans rfl,(Qi L.out 1).trans rfl⟩ (fun hHeld=>?_);refine Q7 api_Inside_right.Kj api_Inside_right.Jf (fun HT_ HW_=>?_)
         generalize df.drew=cx at O L HB hHeld ⊢
         refine qP 0 (some 15) (bN 21 1) HT_ ?_
         refine qT 1 (some 16) (bN 21 3) HT_ HW_ hHeld ?_
         refine Zi (i:=2) (N:=some 17) (bN 21 7) rfl rfl (Q2 HT_.out kr) (by decide) (fun K hK=>?_)
         refine Xj Try.func50 kr rfl #[] #[.pointer (some ⟨gh_,0,none⟩)] #[.agg #[.int .i64 ((Qo D B).f0),.int .i64 ((Qo D B).f1)]] #[.agg #[.int .i64 ((Qo D B).f0),.int .i64 ((Qo D B).f1)],.pointer (some ⟨gh_,0,none⟩)] rfl (by rfl) rfl rfl rfl qM ?_
         with_reducible refine(call_inside_1.calls ((Qo D B).f0) ((Qo D B).f1) J true _ bg.out gh_ (Zx HCH.out (by repeat(first|(with_reducible first|exact HB.out|apply Qh|apply Qc|apply Qf)|exact HB.out|(refine Qd ?_ (Aside0.out (by assumption))))))).mono ?_
         rintro e fu ⟨rfl,hb⟩
         refine⟨_,rfl, ?_⟩
         replace O:=sBk O hb
         replace L:=sBk L hb
         replace HB:=sHb hb
         (try clear hb)
         (try clear a4)
         (try clear hk)
         (try clear hi)
         refine hK.out _ _ ⟨qc L,qc L⟩ (fun hHeld=>?_)
         clear hK K
         refine qN (some 17) ?_
         refine qP 3 (some 18) (bN 21 15) HT_ ?_
         refine qP 4 (some 19) (bN 21 31) HT_ ?_
         refine qP 5 (some 20) (bN 21 63) HT_ ?_
         refine qP 6 (some 21) (bN 21 127) HT_ ?_
         refine qP 7 (some 22) (bN 21 255) HT_ ?_
         refine qU 8 (some 23) (bN 21 511) HT_ ?_
         refine qU 9 (some 24) (bN 21 1023) HT_ ?_
         refine qU 10 (some 25) (bN 21 2047) HT_ ?_
         refine qU 11 (some 26) (bN 21 4095) HT_ ?_
         refine qU 12 (some 27) (bN 21 8191) HT_ ?_
         refine qU 13 (some 28) (bN 21 16383) HT_ ?_
         refine qU 14 (some 29) (bN 21 32767) HT_ ?_
         refine qU 15 (some 30) (bN 21 65535) HT_ ?_
         refine qU 16 (some 31) (bN 21 131071) HT_ ?_
         refine qU 17 (some 32) (bN 21 262143) HT_ ?_
         refine qU 18 (some 33) (bN 21 524287) HT_ ?_
         refine qP 19 (some 34) (bN 21 1048575) HT_ ?_
         refine qP 20 (some 35) (bN 21 2097151) HT_ ?_
         refine Zr (Ze HT_.out kr) ?_
         try go_wp2
         go_meet
         case rel=>exact⟨_,(false),rfl,H',⟨by have:=σ.out;omega⟩,O,L,HB⟩
       ·replace br:=Bool.eq_false_iff.mpr br
        subst br
        have H1:(api_Inside_right.j1 k1 J D (D.length:Int) B true D I)=some r:=by rw[if_neg (show ¬ (false=true) by decide)] at H;exact H
        clear H
        have H:=H1
        clear H1
        have H':=Aside0.mk H
        clear H
        try go_wp2
        have Z:Aside0 (((w9.setCell ⟨U,0,none⟩ (.int .i64 ((Qo D B).f0))).setCell ⟨U,1,none⟩ (.int .i64 ((Qo D B).f1))).heap[a8]?=some (.cells #[.slice (some δ) D.length Y,.func (.func 57) #[] #[]] 74 (0,0))):=⟨bka O⟩
        have ε :Aside0 (((w9.setCell ⟨U,0,none⟩ (.int .i64 ((Qo D B).f0))).setCell ⟨U,1,none⟩ (.int .i64 ((Qo D B).f1))).heap[U]?=some (.cells #[.int .i64 ((Qo D B).f0),.int .i64 ((Qo D B).f1)] 62 (0,0))):=⟨by refine Qw (cs:=#[.int .i64 ((Qo D B).f0),.int .i64 0]) ?_ 1 _ rfl;refine Qw (cs:=#[.int .i64 0,.int .i64 0]) ?_ 0 _ rfl;exact L.out⟩
        have ι :Aside0 (Below w.heap.size w ((w9.setCell ⟨U,0,none⟩ (.int .i64 ((Qo D B).f0))).setCell ⟨U,1,none⟩ (.int .i64 ((Qo D B).f1)))):=⟨bel⟩
        (try clear O)
        (try clear L)
        (try clear HB)
        generalize((w9.setCell ⟨U,0,none⟩ (.int .i64 ((Qo D B).f0))).setCell ⟨U,1,none⟩ (.int .i64 ((Qo D B).f1)))=bq at Z ε ι ⊢
        have O:=Z
        have L:= ε
        have HB:= ι
        clear Z ε ι
        replace O:=Aside0.mk (Qa O.out)
        replace L:=Aside0.mk (Qa L.out)
        replace HB:=Aside0.mk (Qf HB.out)
        refine Zm (n:=21) (S:=fun w'=>w'.cell? ⟨U,0,none⟩=some (.int .i64 ((Qo D B).f0))∧w'.cell? ⟨U,1,none⟩=some (.int .i64 ((Qo D B).f1))) (ds:=[]) #[false,false,false,false,false,false,false,false,false,false,false,false,false,false,false,false,false,false,false,false,false] kr rfl rfl ⟨(Qi L.out 0).trans rfl,(Qi L.out 1).trans rfl⟩ (fun hHeld=>?_);refine Q7 api_Inside_right.Kj api_Inside_right.Jf (fun HT_ HW_=>?_)
        generalize bq.drew=dn at O L HB hHeld ⊢
        refine qP 0 (some 15) (bN 21 1) HT_ ?_
        refine qT 1 (some 16) (bN 21 3) HT_ HW_ hHeld ?_
        refine Zi (i:=2) (N:=some 17) (bN 21 7) rfl rfl (Q2 HT_.out kr) (by decide) (fun K hK=>?_)
        refine Xj Try.func50 kr rfl #[] #[.pointer (some ⟨gh_,0,none⟩)] #[.agg #[.int .i64 ((Qo D B).f0),.int .i64 ((Qo D B).f1)]] #[.agg #[.int .i64 ((Qo D B).f0),.int .i64 ((Qo D B).f1)],.pointer (some ⟨gh_,0,none⟩)] rfl (by rfl) rfl rfl rfl qM ?_
        with_reducible refine(call_inside_1.calls ((Qo D B).f0) ((Qo D B).f1) J false _ bg.out gh_ (Zx HCH.out (by repeat(first|(with_reducible first|exact HB.out|apply Qh|apply Qc|apply Qf)|exact HB.out|(refine Qd ?_ (Aside0.out (by assumption))))))).mono ?_
        rintro e dt ⟨rfl,hb⟩
        refine⟨_,rfl, ?_⟩
        replace O:=sBk O hb
        replace L:=sBk L hb
        replace HB:=sHb hb
        (try clear hb)
        (try clear a4)
        (try clear hk)
        (try clear hi)
        refine hK.out _ _ ⟨qc L,qc L⟩ (fun hHeld=>?_)
        clear hK K
        refine qN (some 17) ?_
        refine qP 3 (some 18) (bN 21 15) HT_ ?_
        refine qP 4 (some 19) (bN 21 31) HT_ ?_
        refine qU 5 (some 20) (bN 21 63) HT_ ?_
        refine qU 6 (some 21) (bN 21 127) HT_ ?_
        refine qU 7 (some 22) (bN 21 255) HT_ ?_
        refine qU 8 (some 23) (bN 21 511) HT_ ?_
        refine qU 9 (some 24) (bN 21 1023) HT_ ?_
        refine qU 10 (some 25) (bN 21 2047) HT_ ?_
        refine qU 11 (some 26) (bN 21 4095) HT_ ?_
        refine qU 12 (some 27) (bN 21 8191) HT_ ?_
        refine qU 13 (some 28) (bN 21 16383) HT_ ?_
        refine qU 14 (some 29) (bN 21 32767) HT_ ?_
        refine qU 15 (some 30) (bN 21 65535) HT_ ?_
        refine qU 16 (some 31) (bN 21 131071) HT_ ?_
        refine qU 17 (some 32) (bN 21 262143) HT_ ?_
        refine qU 18 (some 33) (bN 21 524287) HT_ ?_
        refine qU 19 (some 34) (bN 21 1048575) HT_ ?_
        refine qP 20 (some 35) (bN 21 2097151) HT_ ?_
        refine Zr (Ze HT_.out kr) ?_
        try go_wp2
        go_meet
        case rel=>exact⟨_,(true),rfl,H',⟨by have:=σ.out;omega⟩,O,L,HB⟩
      case rest=>
       clear aj
       try clear c1
       try clear p1
       try clear q1
       try clear bv
       try clear p2
       try clear c5
       try clear nj
       try clear nk
       try clear m2
       try clear br
       try clear a3
       try clear c14b0
       try clear a5
       try clear c16b0
       try clear aa
       try clear c17b0
       try clear a0
       try clear a7
       try clear aw
       try clear b5
       obtain⟨kq,γ,rfl,HA,ap,O,L,HB⟩:=hcut
       cases kq with
       |zero=>exact absurd HA.out (by simp[api_Inside_right.j1])
       |succ ar=>
        have H:=HA.out
        clear HA
        simp only[api_Inside_right.j1] at H
        by_cases bw:γ=true
        ·subst bw
         have H1:(some false)=some r:=by rw[if_pos rfl] at H;exact H
         clear H
         have H:=H1
         clear H1
         obtain rfl:=Option.some.inj H
         go_wp2
         go_ret
         exact⟨rfl,HB.out⟩
        ·replace bw:=Bool.eq_false_iff.mpr bw
         subst bw
         have H1:(api_Inside_right.l0 ar J D (D.length:Int) (wrap64 (B+1)) D I)=some r:=by rw[if_neg (show ¬ (false=true) by decide)] at H;exact H
         clear H
         have H:=H1
         clear H1
         have H':=Aside0.mk H
         clear H
         go_wp2
         go_roundg ar
         case measure=>have:=σ.out;have:=ap.out;omega
         case rel=>exact⟨(wrap64 (B+1)),rfl,H',⟨by have:=σ.out;have:=ap.out;omega⟩,O,HB⟩
     ·rw[if_neg c7] at H
      exact absurd H (by simp)
    ·rw[if_neg c6] at H
     exact absurd H (by simp)
   ·rw[if_neg c5] at H
    have c5b0:decide (B<(D.length:Int))=false:=decide_eq_false c5
    clear c5
    obtain rfl:=Option.some.inj H
    go_wp2
    go_ret
    exact⟨rfl,HB.out⟩
end Go.Proofs.Ytjehhhlhalkieaa.C
namespace Go.Proofs.Ytjehhhlhalkieaa.Call
open Go.RowKit Go.Proofs.YtjehhhlhalkieaaW.PrintWords Go.Proofs.YtjehhhlhalkieaaW.PrintLast Go.Proofs.YtjehhhlhalkieaaW.PrintMore Go.Proofs.Ytjehhhlhalkieaa.C
set_option linter.unusedVariables false
set_option linter.unusedSimpArgs false
theorem Vx (a b:Int):Vz a b<0↔a<b:=by unfold Vz;split <;> (try split) <;> omega
theorem Vy (a b:Int):Vz a b=0↔a=b:=by unfold Vz;split <;> (try split) <;> omega
theorem X5 (a b c d:Int):Z7 a b c d<0↔(a<c∨(a=c∧b<d)):=by
  unfold Z7
  have h1:=Vx a c
  have L:=Vy a c
  have J:=Vx b d
  split <;> omega
theorem Yi (a b c d:Int):Z7 a b c d=0↔(a=c∧b=d):=by
  unfold Z7
  have h1:=Vx a c
  have L:=Vy a c
  have J:=Vy b d
  split <;> omega
def Vh {α:Type} (q:α→Bool):Nat→List α→Int
  |_,[]=> -1
  |i,x :: l=>if q x=true then (i:Int) else Vh q (i+1) l
theorem Vl {α:Type} (q:α→Bool) (l:List α):∀ i:Nat,(Vh q i l = -1 ∧ ∀ x ∈ l,q x=false) ∨ ∃ k:Nat,∃ h:k<l.length,Vh q i l=((i+k:Nat):Int)∧q l[k]=true ∧ ∀ x ∈ l.take k,q x=false:=by
  induction l with
  |nil=>intro i;exact .inl ⟨rfl,by simp⟩
  |cons x l ih=>
    intro i
    simp only[Vh]
    by_cases h:q x=true
    · rw[if_pos h]
      exact .inr ⟨0,by simp,by simp,by simpa using h,by simp⟩
    · rw[if_neg h]
      have hf:q x=false:=by simpa using h
      rcases ih (i+1) with⟨e,ha⟩|⟨k,hk,e,ht,ha⟩
      · refine .inl ⟨e,fun y hy=>?_⟩
        rcases List.mem_cons.1 hy with rfl|hy
        · exact hf
        · exact ha y hy
      · refine .inr ⟨k+1,by simpa using hk,by rw[e];congr 1;omega,by simpa using ht,fun y hy=>?_⟩
        rw[List.take_succ_cons] at hy
        rcases List.mem_cons.1 hy with rfl|hy
        · exact hf
        · exact ha y hy
def Zo {α:Type} (may:α→Bool) (lt:α→α→Bool):Option α→List α→Bool
  |_,[]=>true
  |none,x :: l=>may x&&Zo may lt (some x) l
  |some p,x :: l=>(may x&&lt p x)&&Zo may lt (some x) l
abbrev qH (J:Int) (x:S56):Bool:=Z7 (X8 J) (X7 J) x.f0 x.f1==0
def ltH (x y:S56):Bool:=decide (Z7 x.f0 x.f1 y.f0 y.f1<0)
theorem Y2 (x y:S56):ltH x y=true↔(x.f0<y.f0∨(x.f0=y.f0∧x.f1<y.f1)):=by
  unfold ltH
  rw[decide_eq_true_iff,X5]
theorem W9 {x y z:S56} (h1:ltH x y=true) (L:ltH y z=true):ltH x z=true:=by
  rw[Y2] at *
  omega
theorem Yt (l:List S56) (i:Nat) (h:i<l.length):Qg l (i:Int)=l[i]:=by
  unfold Qg
  rw[Int.toNat_natCast,List.getD_eq_getElem?_getD,List.getElem?_eq_getElem h]
  rfl
theorem Ld (l:List S56) (J:Int) (hm:l.length≤1000000000) (j:Nat):∀ (f i:Nat),i+j=l.length→j<f→api_Hall_67.l0 f l J (l.length:Int) (i:Int)=some (Vh (qH J) i (l.drop i)):=by
  induction j with
  |zero=>
    intro f i hi hf
    obtain⟨f,rfl⟩:∃ m,f=m+1:=⟨f-1,by omega⟩
    simp only[api_Hall_67.l0]
    rw[if_neg (by omega),List.drop_of_length_le (by omega)]
    rfl
  |succ j ih=>
    intro f i hi hf
    obtain⟨f,rfl⟩:∃ m,f=m+1:=⟨f-1,by omega⟩
    have ha:i<l.length:=by omega
    have ei:wrap64 ((i:Int)+1)=((i+1:Nat):Int):=by unfold wrap64;omega
    simp only[api_Hall_67.l0]
    rw[if_pos (by omega),if_pos (by omega),if_pos (by omega),Yt l i ha,ei,ih f (i+1) (by omega) (by omega)]
    unfold api_Hall_without_1.f
    simp only[Option.bind_some]
    rw[List.drop_eq_getElem_cons ha]
    simp only[Vh]
    by_cases h:qH J l[i]=true
    · rw[if_pos h,if_pos h]
    · rw[if_neg h,if_neg h]
theorem M7 (l:List S56) (J:Int) (hm:l.length≤1000000000) (k:Nat) (hk:l.length<k):api_Hall_67.f k l J=some (Vh (qH J) 0 l):=by
  unfold api_Hall_67.f
  have:=Ld l J hm l.length k 0 (by omega) hk
  simpa using this
theorem Lf (l:List S56) (J:Int) (hm:l.length≤1000000000) (j:Nat):∀ (f:Nat) (x:List S56) (i m:Nat),x.length=l.length→m+j=l.length→i≤m→j<f→x.drop m=l.drop m→x.take i=(l.take m).filter (fun y=> !qH J y) →
    api_Hall_54.l0 f x J (i:Int) (m:Int)=some (l.filter (fun y=> !qH J y)):=by
  induction j with
  |zero=>
    intro f x i m hx hj him hf hd ht
    obtain⟨f,rfl⟩:∃ m,f=m+1:=⟨f-1,by omega⟩
    simp only[api_Hall_54.l0]
    rw[if_neg (by omega),if_pos (by omega),if_pos (by omega),Int.toNat_natCast,ht,List.take_of_length_le (by omega)]
  |succ j ih=>
    intro f x i m hx hj him hf hd ht
    obtain⟨f,rfl⟩:∃ m,f=m+1:=⟨f-1,by omega⟩
    have ha:m<l.length:=by omega
    have hax:m<x.length:=by omega
    have em:wrap64 ((m:Int)+1)=((m+1:Nat):Int):=by unfold wrap64;omega
    have ei:wrap64 ((i:Int)+1)=((i+1:Nat):Int):=by unfold wrap64;omega
    have hxm:x[m]=l[m]:=by
      have h1:=List.drop_eq_getElem_cons hax
      have L:=List.drop_eq_getElem_cons ha
      rw[hd,L] at h1
      exact(List.cons.inj h1).1.symm
    have B:x.drop (m+1)=l.drop (m+1):=by
      have h1:=List.drop_eq_getElem_cons hax
      have L:=List.drop_eq_getElem_cons ha
      rw[hd,L] at h1
      exact(List.cons.inj h1).2.symm
    have D:(l.take (m+1)).filter (fun y=> !qH J y)=(l.take m).filter (fun y=> !qH J y) ++ [l[m]].filter (fun y=> !qH J y):=by
      rw[List.take_succ_eq_append_getElem ha,List.filter_append]
    simp only[api_Hall_54.l0]
    rw[if_pos (by omega),if_pos (by omega),Yt x m hax,hxm,em,ei]
    unfold api_Hall_without_1.f
    simp only[Option.bind_some]
    by_cases h:qH J l[m]=true
    · rw[if_pos h]
      refine ih f x i (m+1) hx (by omega) (by omega) (by omega) B ?_
      rw[D,ht]
      simp only[List.filter_cons,List.filter_nil]
      rw[if_neg (by rw[h];decide),List.append_nil]
    · have hf':qH J l[m]=false:=by simpa using h
      rw[if_neg h,if_pos (by omega),if_pos (by omega),Int.toNat_natCast]
      refine ih f (x.set i _) (i+1) (m+1) (by rw[List.length_set];exact hx) (by omega) (by omega) (by omega) ?_ ?_
      · rw[List.drop_set_of_lt (by omega)]
        exact B
      · rw[D]
        simp only[List.filter_cons,List.filter_nil]
        rw[if_pos (by rw[hf'];rfl),List.take_succ_eq_append_getElem (by rw[List.length_set];omega),List.getElem_set_self,List.take_set_of_le (by omega),ht]
theorem Na (l:List S56) (J:Int) (hm:l.length≤1000000000) (k:Nat) (hk:l.length+5<k):api_Hall_54.f k l J=some (l.filter (fun y=> !qH J y)):=by
  unfold api_Hall_54.f
  rw[M7 l J hm k (by omega)]
  simp only[Option.bind_some]
  rcases Vl (qH J) l 0 with⟨e,ha⟩|⟨i,hi,e,ht,ha⟩
  · rw[e,if_pos rfl]
    congr 1
    exact(List.filter_eq_self.2 (fun y hy=>by rw[ha y hy];rfl)).symm
  · rw[e,Nat.zero_add,if_neg (by omega)]
    have ei:wrap64 ((i:Int)+1)=((i+1:Nat):Int):=by unfold wrap64;omega
    rw[ei]
    refine Lf l J hm (l.length - (i+1)) k l i (i+1) rfl (by omega) (by omega) (by omega) rfl ?_
    rw[List.take_succ_eq_append_getElem hi,List.filter_append]
    simp only[List.filter_cons,List.filter_nil]
    rw[if_neg (by rw[ht];decide),List.append_nil]
    exact(List.filter_eq_self.2 (fun y hy=>by rw[ha y hy];rfl)).symm
def G8 (l:List S56) (I D:Int) (p:Nat):Prop:=p≤l.length∧(∀ y ∈ l.take p,Z7 y.f0 y.f1 I D<0)∧(∀ y ∈ l.drop p,¬ Z7 y.f0 y.f1 I D<0)
def K7 (l:List S56) (I D:Int) (p:Nat):Bool:=match l[p]? with|some y=>Z7 y.f0 y.f1 I D==0|none=>false
theorem Vt (l:List S56) (I D U:Int) (hm:l.length≤1000000000) (hs:l.Pairwise (fun x y=>ltH x y=true)) (d:Nat):∀ (f i j:Nat),j-i≤d→i≤j→j≤l.length→d<f→(∀ y ∈ l.take i,Z7 y.f0 y.f1 I D<0)→(∀ y ∈ l.drop j,¬ Z7 y.f0 y.f1 I D<0) →
    ∃ p,G8 l I D p∧api_Hall_62.l0 f l (l.length:Int) (i:Int) (j:Int) I D U=some ((p:Int),K7 l I D p):=by
  have stop:∀ (f i:Nat),0<f→i≤l.length→(∀ y ∈ l.take i,Z7 y.f0 y.f1 I D<0)→(∀ y ∈ l.drop i,¬ Z7 y.f0 y.f1 I D<0) → ∃ p,G8 l I D p∧api_Hall_62.l0 f l (l.length:Int) (i:Int) (i:Int) I D U=some ((p:Int),K7 l I D p):=by
    intro f i hf hi h1 L
    obtain⟨f,rfl⟩:∃ m,f=m+1:=⟨f-1,by omega⟩
    refine⟨i,⟨hi,h1,L⟩, ?_⟩
    simp only[api_Hall_62.l0]
    unfold K7
    rw[if_neg (by omega)]
    by_cases h:i<l.length
    · rw[if_pos (by omega),if_pos (by omega),if_pos (by omega),Yt l i h,List.getElem?_eq_getElem h]
      rfl
    · rw[if_neg (by omega),List.getElem?_eq_none (by omega)]
  induction d with
  |zero=>
    intro f i j hd hij hj hf h1 L
    obtain rfl:i=j:=by omega
    exact stop f i hf hj h1 L
  |succ d ih=>
    intro f i j hd hij hj hf h1 L
    by_cases he:i=j
    · subst he
      exact stop f i (by omega) hj h1 L
    · obtain⟨f,rfl⟩:∃ m,f=m+1:=⟨f-1,by omega⟩
      have hmid:wrap64 ((IntKind.u64.wrap (wrap64 ((i:Int)+(j:Int)))) / 2)=(((i+j) / 2:Nat):Int):=by
        rw[show wrap64 ((i:Int)+(j:Int))=(i:Int)+(j:Int) from by unfold wrap64;omega,IntKind.wrap_u64]
        unfold wrap64;omega
      have Y:wrap64 ((((i+j) / 2:Nat):Int)+1)=(((i+j) / 2+1:Nat):Int):=by unfold wrap64;omega
      simp only[api_Hall_62.l0]
      rw[if_pos (by omega),hmid]
      have hh:(i+j) / 2<l.length:=by omega
      generalize hg:(i+j) / 2=h at *
      rw[if_pos (by omega),if_pos (by omega),Yt l h hh,Y]
      unfold call_halls_1.f
      simp only[Option.bind_some]
      have hlt:∀ m:Nat,(hm:m<h)→Z7 (l[m]'(by omega)).f0 (l[m]'(by omega)).f1 l[h].f0 l[h].f1<0:=by
        intro m hm
        have:=List.pairwise_iff_getElem.1 hs m h (by omega) hh hm
        exact of_decide_eq_true this
      have hgt:∀ m:Nat,h<m→(hm:m<l.length)→Z7 l[h].f0 l[h].f1 l[m].f0 l[m].f1<0:=by
        intro m hm hml
        have:=List.pairwise_iff_getElem.1 hs h m hh hml hm
        exact of_decide_eq_true this
      by_cases hc:Z7 l[h].f0 l[h].f1 I D<0
      · rw[if_pos hc]
        refine ih f (h+1) j (by omega) (by omega) hj (by omega) ?_ L
        intro y hy
        obtain⟨m,hm,rfl⟩:=List.mem_iff_getElem.1 hy
        rw[List.length_take] at hm
        rw[List.getElem_take]
        by_cases hmh:m=h
        · subst hmh;exact hc
        · have J:=hlt m (by omega)
          rw[X5] at *
          omega
      · rw[if_neg hc]
        refine ih f i h (by omega) (by omega) (by omega) (by omega) h1 ?_
        intro y hy
        obtain⟨m,hm,rfl⟩:=List.mem_iff_getElem.1 hy
        rw[List.length_drop] at hm
        rw[List.getElem_drop]
        by_cases hmh:m=0
        · subst hmh;simpa using hc
        · have J:=hgt (h+m) (by omega) (by omega)
          rw[X5] at *
          omega
theorem Gu (l:List S56) (I D U:Int) (a2:Int) (hm:l.length≤1000000000) (hs:l.Pairwise (fun x y=>ltH x y=true)) (k:Nat) (hk:l.length<k):
    ∃ p,G8 l I D p∧api_Hall_62.f k l I D U a2=some ((p:Int),K7 l I D p):=by
  unfold api_Hall_62.f
  have:=Vt l I D U hm hs l.length k 0 l.length (by omega) (by omega) (by omega) hk (by simp) (by simp)
  simpa using this
theorem Ud (l:List S56) (J tok_:Int) (hm:l.length≤1000000000) (j:Nat):∀ (f i:Nat),i+j=l.length→2 * j<f→api_Hall_right.l0 f J l (l.length:Int) (i:Int) l tok_=some (Zo (fun x=>Xy (X8 J) (X7 J) x.f0 x.f1 x.f2) ltH (if i=0 then none else l[i-1]?) (l.drop i)):=by
  induction j with
  |zero=>
    intro f i hi hf
    obtain⟨f,rfl⟩:∃ m,f=m+1:=⟨f-1,by omega⟩
    simp only[api_Hall_right.l0]
    rw[if_neg (by omega),List.drop_of_length_le (by omega)]
    cases(if i=0 then none else l[i-1]?) <;> rfl
  |succ j ih=>
    intro f i hi hf
    obtain⟨f,rfl⟩:∃ m,f=m+2:=⟨f-2,by omega⟩
    have ha:i<l.length:=by omega
    have ei:wrap64 ((i:Int)+1)=((i+1:Nat):Int):=by unfold wrap64;omega
    have jt:api_Hall_right.j1 (f+1) J l (l.length:Int) (i:Int) true l tok_=some false:=by simp[api_Hall_right.j1]
    have jf:api_Hall_right.j1 (f+1) J l (l.length:Int) (i:Int) false l tok_=some (Zo (fun x=>Xy (X8 J) (X7 J) x.f0 x.f1 x.f2) ltH (some l[i]) (l.drop (i+1))):=by
      simp only[api_Hall_right.j1]
      rw[if_neg (by decide),ei,ih f (i+1) (by omega) (by omega),if_neg (by omega),Nat.add_sub_cancel,List.getElem?_eq_getElem ha]
    simp only[api_Hall_right.l0]
    rw[if_pos (by omega),if_pos (by omega),if_pos (by omega),Yt l i ha]
    unfold call_hall_1.f
    simp only[Option.bind_some]
    rw[List.drop_eq_getElem_cons ha]
    by_cases h1:Xy (X8 J) (X7 J) l[i].f0 l[i].f1 l[i].f2=true
    · rw[if_pos h1]
      by_cases O:i=0
      · subst O
        rw[if_neg (by omega),if_pos rfl,jf]
        simp only[Zo,h1,Bool.true_and]
      · have ep:wrap64 ((i:Int)-1)=((i-1:Nat):Int):=by unfold wrap64;omega
        rw[if_pos (by omega),ep,if_pos (by omega),if_pos (by omega),Yt l (i-1) (by omega),if_neg O,List.getElem?_eq_getElem (by omega)]
        unfold call_halls_1.f
        simp only[Option.bind_some]
        simp only[Zo,h1,Bool.true_and]
        unfold ltH
        by_cases hc:Z7 (l[i-1]'(by omega)).f0 (l[i-1]'(by omega)).f1 l[i].f0 l[i].f1<0
        · rw[decide_eq_false (by omega),decide_eq_true hc,jf,Bool.true_and]
          rfl
        · rw[decide_eq_true (by omega),decide_eq_false hc,jt,Bool.false_and]
    · have h1':Xy (X8 J) (X7 J) l[i].f0 l[i].f1 l[i].f2=false:=by simpa using h1
      rw[if_neg h1,jt]
      by_cases O:i=0
      · rw[if_pos O]
        simp only[Zo,h1',Bool.false_and]
      · rw[if_neg O,List.getElem?_eq_getElem (by omega)]
        simp only[Zo,h1',Bool.false_and]
theorem Wz (l:List S56) (J tok_:Int) (hm:l.length≤1000000000) (k:Nat) (hk:2 * l.length<k):api_Hall_right.f k l tok_ J=some (Zo (fun x=>Xy (X8 J) (X7 J) x.f0 x.f1 x.f2) ltH none l):=by
  unfold api_Hall_right.f
  have:=Ud l J tok_ hm l.length k 0 (by omega) hk
  simpa using this
theorem Uc (may:S56→Bool) (l:List S56):∀ p,Zo may ltH (some p) l=true↔((∀ x ∈ l,may x=true)∧(p :: l).Pairwise (fun x y=>ltH x y=true)):=by
  induction l with
  |nil=>intro p;simp[Zo]
  |cons x l ih=>
    intro p
    simp only[Zo,Bool.and_eq_true]
    rw[ih x]
    simp only[List.pairwise_cons,List.mem_cons,forall_eq_or_imp]
    constructor
    · rintro⟨⟨h1,L⟩,J,X,Z⟩
      exact⟨⟨h1,J⟩,⟨L,fun y hy=>W9 L (X y hy)⟩,X,Z⟩
    · rintro⟨⟨h1,J⟩,⟨L,_⟩,X,Z⟩
      exact⟨⟨h1,L⟩,J,X,Z⟩
theorem Jx (may:S56→Bool) (l:List S56):Zo may ltH none l=true↔((∀ x ∈ l,may x=true)∧l.Pairwise (fun x y=>ltH x y=true)):=by
  cases l with
  |nil=>simp[Zo]
  |cons x l=>
    simp only[Zo,Bool.and_eq_true]
    rw[Uc]
    simp only[List.mem_cons,forall_eq_or_imp]
    constructor
    · rintro⟨h1,L,J⟩
      exact⟨⟨h1,L⟩,J⟩
    · rintro⟨⟨h1,L⟩,J⟩
      exact⟨h1,L,J⟩
abbrev qI (J:Int) (x:S62):Bool:=Z7 (X8 J) (X7 J) x.f0 x.f1==0
def ltI (x y:S62):Bool:=decide (Z7 x.f0 x.f1 y.f0 y.f1<0)
theorem J4 (x y:S62):ltI x y=true↔(x.f0<y.f0∨(x.f0=y.f0∧x.f1<y.f1)):=by
  unfold ltI
  rw[decide_eq_true_iff,X5]
theorem W8 {x y z:S62} (h1:ltI x y=true) (L:ltI y z=true):ltI x z=true:=by
  rw[J4] at *
  omega
theorem Ys (l:List S62) (i:Nat) (h:i<l.length):Qo l (i:Int)=l[i]:=by
  unfold Qo
  rw[Int.toNat_natCast,List.getD_eq_getElem?_getD,List.getElem?_eq_getElem h]
  rfl
theorem Lc (l:List S62) (J:Int) (hm:l.length≤1000000000) (j:Nat):∀ (f i:Nat),i+j=l.length→j<f→api_Inside_72.l0 f l J (l.length:Int) (i:Int)=some (Vh (qI J) i (l.drop i)):=by
  induction j with
  |zero=>
    intro f i hi hf
    obtain⟨f,rfl⟩:∃ m,f=m+1:=⟨f-1,by omega⟩
    simp only[api_Inside_72.l0]
    rw[if_neg (by omega),List.drop_of_length_le (by omega)]
    rfl
  |succ j ih=>
    intro f i hi hf
    obtain⟨f,rfl⟩:∃ m,f=m+1:=⟨f-1,by omega⟩
    have ha:i<l.length:=by omega
    have ei:wrap64 ((i:Int)+1)=((i+1:Nat):Int):=by unfold wrap64;omega
    simp only[api_Inside_72.l0]
    rw[if_pos (by omega),if_pos (by omega),if_pos (by omega),Ys l i ha,ei,ih f (i+1) (by omega) (by omega)]
    unfold api_Inside_without_1.f
    simp only[Option.bind_some]
    rw[List.drop_eq_getElem_cons ha]
    simp only[Vh]
    by_cases h:qI J l[i]=true
    · rw[if_pos h,if_pos h]
    · rw[if_neg h,if_neg h]
theorem M6 (l:List S62) (J:Int) (hm:l.length≤1000000000) (k:Nat) (hk:l.length<k):api_Inside_72.f k l J=some (Vh (qI J) 0 l):=by
  unfold api_Inside_72.f
  have:=Lc l J hm l.length k 0 (by omega) hk
  simpa using this
theorem Le (l:List S62) (J:Int) (hm:l.length≤1000000000) (j:Nat):∀ (f:Nat) (x:List S62) (i m:Nat),x.length=l.length→m+j=l.length→i≤m→j<f→x.drop m=l.drop m→x.take i=(l.take m).filter (fun y=> !qI J y) →
    api_Inside_64.l0 f x J (i:Int) (m:Int)=some (l.filter (fun y=> !qI J y)):=by
  induction j with
  |zero=>
    intro f x i m hx hj him hf hd ht
    obtain⟨f,rfl⟩:∃ m,f=m+1:=⟨f-1,by omega⟩
    simp only[api_Inside_64.l0]
    rw[if_neg (by omega),if_pos (by omega),if_pos (by omega),Int.toNat_natCast,ht,List.take_of_length_le (by omega)]
  |succ j ih=>
    intro f x i m hx hj him hf hd ht
    obtain⟨f,rfl⟩:∃ m,f=m+1:=⟨f-1,by omega⟩
    have ha:m<l.length:=by omega
    have hax:m<x.length:=by omega
    have em:wrap64 ((m:Int)+1)=((m+1:Nat):Int):=by unfold wrap64;omega
    have ei:wrap64 ((i:Int)+1)=((i+1:Nat):Int):=by unfold wrap64;omega
    have hxm:x[m]=l[m]:=by
      have h1:=List.drop_eq_getElem_cons hax
      have L:=List.drop_eq_getElem_cons ha
      rw[hd,L] at h1
      exact(List.cons.inj h1).1.symm
    have B:x.drop (m+1)=l.drop (m+1):=by
      have h1:=List.drop_eq_getElem_cons hax
      have L:=List.drop_eq_getElem_cons ha
      rw[hd,L] at h1
      exact(List.cons.inj h1).2.symm
    have D:(l.take (m+1)).filter (fun y=> !qI J y)=(l.take m).filter (fun y=> !qI J y) ++ [l[m]].filter (fun y=> !qI J y):=by
      rw[List.take_succ_eq_append_getElem ha,List.filter_append]
    simp only[api_Inside_64.l0]
    rw[if_pos (by omega),if_pos (by omega),Ys x m hax,hxm,em,ei]
    unfold api_Inside_without_1.f
    simp only[Option.bind_some]
    by_cases h:qI J l[m]=true
    · rw[if_pos h]
      refine ih f x i (m+1) hx (by omega) (by omega) (by omega) B ?_
      rw[D,ht]
      simp only[List.filter_cons,List.filter_nil]
      rw[if_neg (by rw[h];decide),List.append_nil]
    · have hf':qI J l[m]=false:=by simpa using h
      rw[if_neg h,if_pos (by omega),if_pos (by omega),Int.toNat_natCast]
      refine ih f (x.set i _) (i+1) (m+1) (by rw[List.length_set];exact hx) (by omega) (by omega) (by omega) ?_ ?_
      · rw[List.drop_set_of_lt (by omega)]
        exact B
      · rw[D]
        simp only[List.filter_cons,List.filter_nil]
        rw[if_pos (by rw[hf'];rfl),List.take_succ_eq_append_getElem (by rw[List.length_set];omega),List.getElem_set_self,List.take_set_of_le (by omega),ht]
theorem M9 (l:List S62) (J:Int) (hm:l.length≤1000000000) (k:Nat) (hk:l.length+5<k):api_Inside_64.f k l J=some (l.filter (fun y=> !qI J y)):=by
  unfold api_Inside_64.f
  rw[M6 l J hm k (by omega)]
  simp only[Option.bind_some]
  rcases Vl (qI J) l 0 with⟨e,ha⟩|⟨i,hi,e,ht,ha⟩
  · rw[e,if_pos rfl]
    congr 1
    exact(List.filter_eq_self.2 (fun y hy=>by rw[ha y hy];rfl)).symm
  · rw[e,Nat.zero_add,if_neg (by omega)]
    have ei:wrap64 ((i:Int)+1)=((i+1:Nat):Int):=by unfold wrap64;omega
    rw[ei]
    refine Le l J hm (l.length - (i+1)) k l i (i+1) rfl (by omega) (by omega) (by omega) rfl ?_
    rw[List.take_succ_eq_append_getElem hi,List.filter_append]
    simp only[List.filter_cons,List.filter_nil]
    rw[if_neg (by rw[ht];decide),List.append_nil]
    exact(List.filter_eq_self.2 (fun y hy=>by rw[ha y hy];rfl)).symm
def Wk (l:List S62) (I D:Int) (p:Nat):Prop:=p≤l.length∧(∀ y ∈ l.take p,Z7 y.f0 y.f1 I D<0)∧(∀ y ∈ l.drop p,¬ Z7 y.f0 y.f1 I D<0)
def Wh (l:List S62) (I D:Int) (p:Nat):Bool:=match l[p]? with|some y=>Z7 y.f0 y.f1 I D==0|none=>false
theorem Vs (l:List S62) (I D:Int) (hm:l.length≤1000000000) (hs:l.Pairwise (fun x y=>ltI x y=true)) (d:Nat):∀ (f i j:Nat),j-i≤d→i≤j→j≤l.length→d<f→(∀ y ∈ l.take i,Z7 y.f0 y.f1 I D<0)→(∀ y ∈ l.drop j,¬ Z7 y.f0 y.f1 I D<0) →
    ∃ p,Wk l I D p∧api_Inside_58.l0 f l (l.length:Int) (i:Int) (j:Int) I D=some ((p:Int),Wh l I D p):=by
  have stop:∀ (f i:Nat),0<f→i≤l.length→(∀ y ∈ l.take i,Z7 y.f0 y.f1 I D<0)→(∀ y ∈ l.drop i,¬ Z7 y.f0 y.f1 I D<0) → ∃ p,Wk l I D p∧api_Inside_58.l0 f l (l.length:Int) (i:Int) (i:Int) I D=some ((p:Int),Wh l I D p):=by
    intro f i hf hi h1 L
    obtain⟨f,rfl⟩:∃ m,f=m+1:=⟨f-1,by omega⟩
    refine⟨i,⟨hi,h1,L⟩, ?_⟩
    simp only[api_Inside_58.l0]
    unfold Wh
    rw[if_neg (by omega)]
    by_cases h:i<l.length
    · rw[if_pos (by omega),if_pos (by omega),if_pos (by omega),Ys l i h,List.getElem?_eq_getElem h]
      rfl
    · rw[if_neg (by omega),List.getElem?_eq_none (by omega)]
  induction d with
  |zero=>
    intro f i j hd hij hj hf h1 L
    obtain rfl:i=j:=by omega
    exact stop f i hf hj h1 L
  |succ d ih=>
    intro f i j hd hij hj hf h1 L
    by_cases he:i=j
    · subst he
      exact stop f i (by omega) hj h1 L
    · obtain⟨f,rfl⟩:∃ m,f=m+1:=⟨f-1,by omega⟩
      have hmid:wrap64 ((IntKind.u64.wrap (wrap64 ((i:Int)+(j:Int)))) / 2)=(((i+j) / 2:Nat):Int):=by
        rw[show wrap64 ((i:Int)+(j:Int))=(i:Int)+(j:Int) from by unfold wrap64;omega,IntKind.wrap_u64]
        unfold wrap64;omega
      have Y:wrap64 ((((i+j) / 2:Nat):Int)+1)=(((i+j) / 2+1:Nat):Int):=by unfold wrap64;omega
      simp only[api_Inside_58.l0]
      rw[if_pos (by omega),hmid]
      have hh:(i+j) / 2<l.length:=by omega
      generalize hg:(i+j) / 2=h at *
      rw[if_pos (by omega),if_pos (by omega),Ys l h hh,Y]
      unfold call_ins_1.f
      simp only[Option.bind_some]
      have hlt:∀ m:Nat,(hm:m<h)→Z7 (l[m]'(by omega)).f0 (l[m]'(by omega)).f1 l[h].f0 l[h].f1<0:=by
        intro m hm
        have:=List.pairwise_iff_getElem.1 hs m h (by omega) hh hm
        exact of_decide_eq_true this
      have hgt:∀ m:Nat,h<m→(hm:m<l.length)→Z7 l[h].f0 l[h].f1 l[m].f0 l[m].f1<0:=by
        intro m hm hml
        have:=List.pairwise_iff_getElem.1 hs h m hh hml hm
        exact of_decide_eq_true this
      by_cases hc:Z7 l[h].f0 l[h].f1 I D<0
      · rw[if_pos hc]
        refine ih f (h+1) j (by omega) (by omega) hj (by omega) ?_ L
        intro y hy
        obtain⟨m,hm,rfl⟩:=List.mem_iff_getElem.1 hy
        rw[List.length_take] at hm
        rw[List.getElem_take]
        by_cases hmh:m=h
        · subst hmh;exact hc
        · have J:=hlt m (by omega)
          rw[X5] at *
          omega
      · rw[if_neg hc]
        refine ih f i h (by omega) (by omega) (by omega) (by omega) h1 ?_
        intro y hy
        obtain⟨m,hm,rfl⟩:=List.mem_iff_getElem.1 hy
        rw[List.length_drop] at hm
        rw[List.getElem_drop]
        by_cases hmh:m=0
        · subst hmh;simpa using hc
        · have J:=hgt (h+m) (by omega) (by omega)
          rw[X5] at *
          omega
theorem Uw (l:List S62) (I D:Int) (a2:Int) (hm:l.length≤1000000000) (hs:l.Pairwise (fun x y=>ltI x y=true)) (k:Nat) (hk:l.length<k):
    ∃ p,Wk l I D p∧api_Inside_58.f k l I D a2=some ((p:Int),Wh l I D p):=by
  unfold api_Inside_58.f
  have:=Vs l I D hm hs l.length k 0 l.length (by omega) (by omega) (by omega) hk (by simp) (by simp)
  simpa using this
theorem Ub (l:List S62) (J tok_:Int) (hm:l.length≤1000000000) (j:Nat):∀ (f i:Nat),i+j=l.length→2 * j<f→api_Inside_right.l0 f J l (l.length:Int) (i:Int) l tok_=some (Zo (fun x=>X1 (X8 J) (X7 J) x.f0 x.f1) ltI (if i=0 then none else l[i-1]?) (l.drop i)):=by
  induction j with
  |zero=>
    intro f i hi hf
    obtain⟨f,rfl⟩:∃ m,f=m+1:=⟨f-1,by omega⟩
    simp only[api_Inside_right.l0]
    rw[if_neg (by omega),List.drop_of_length_le (by omega)]
    cases(if i=0 then none else l[i-1]?) <;> rfl
  |succ j ih=>
    intro f i hi hf
    obtain⟨f,rfl⟩:∃ m,f=m+2:=⟨f-2,by omega⟩
    have ha:i<l.length:=by omega
    have ei:wrap64 ((i:Int)+1)=((i+1:Nat):Int):=by unfold wrap64;omega
    have jt:api_Inside_right.j1 (f+1) J l (l.length:Int) (i:Int) true l tok_=some false:=by simp[api_Inside_right.j1]
    have jf:api_Inside_right.j1 (f+1) J l (l.length:Int) (i:Int) false l tok_=some (Zo (fun x=>X1 (X8 J) (X7 J) x.f0 x.f1) ltI (some l[i]) (l.drop (i+1))):=by
      simp only[api_Inside_right.j1]
      rw[if_neg (by decide),ei,ih f (i+1) (by omega) (by omega),if_neg (by omega),Nat.add_sub_cancel,List.getElem?_eq_getElem ha]
    simp only[api_Inside_right.l0]
    rw[if_pos (by omega),if_pos (by omega),if_pos (by omega),Ys l i ha]
    unfold call_inside_1.f
    simp only[Option.bind_some]
    rw[List.drop_eq_getElem_cons ha]
    by_cases h1:X1 (X8 J) (X7 J) l[i].f0 l[i].f1=true
    · rw[if_pos h1]
      by_cases O:i=0
      · subst O
        rw[if_neg (by omega),if_pos rfl,jf]
        simp only[Zo,h1,Bool.true_and]
      · have ep:wrap64 ((i:Int)-1)=((i-1:Nat):Int):=by unfold wrap64;omega
        rw[if_pos (by omega),ep,if_pos (by omega),if_pos (by omega),Ys l (i-1) (by omega),if_neg O,List.getElem?_eq_getElem (by omega)]
        unfold call_ins_1.f
        simp only[Option.bind_some]
        simp only[Zo,h1,Bool.true_and]
        unfold ltI
        by_cases hc:Z7 (l[i-1]'(by omega)).f0 (l[i-1]'(by omega)).f1 l[i].f0 l[i].f1<0
        · rw[decide_eq_false (by omega),decide_eq_true hc,jf,Bool.true_and]
          rfl
        · rw[decide_eq_true (by omega),decide_eq_false hc,jt,Bool.false_and]
    · have h1':X1 (X8 J) (X7 J) l[i].f0 l[i].f1=false:=by simpa using h1
      rw[if_neg h1,jt]
      by_cases O:i=0
      · rw[if_pos O]
        simp only[Zo,h1',Bool.false_and]
      · rw[if_neg O,List.getElem?_eq_getElem (by omega)]
        simp only[Zo,h1',Bool.false_and]
theorem Wy (l:List S62) (J tok_:Int) (hm:l.length≤1000000000) (k:Nat) (hk:2 * l.length<k):api_Inside_right.f k l tok_ J=some (Zo (fun x=>X1 (X8 J) (X7 J) x.f0 x.f1) ltI none l):=by
  unfold api_Inside_right.f
  have:=Ub l J tok_ hm l.length k 0 (by omega) hk
  simpa using this
theorem Ua (may:S62→Bool) (l:List S62):∀ p,Zo may ltI (some p) l=true↔((∀ x ∈ l,may x=true)∧(p :: l).Pairwise (fun x y=>ltI x y=true)):=by
  induction l with
  |nil=>intro p;simp[Zo]
  |cons x l ih=>
    intro p
    simp only[Zo,Bool.and_eq_true]
    rw[ih x]
    simp only[List.pairwise_cons,List.mem_cons,forall_eq_or_imp]
    constructor
    · rintro⟨⟨h1,L⟩,J,X,Z⟩
      exact⟨⟨h1,J⟩,⟨L,fun y hy=>W8 L (X y hy)⟩,X,Z⟩
    · rintro⟨⟨h1,J⟩,⟨L,_⟩,X,Z⟩
      exact⟨⟨h1,L⟩,J,X,Z⟩
theorem Gd (may:S62→Bool) (l:List S62):Zo may ltI none l=true↔((∀ x ∈ l,may x=true)∧l.Pairwise (fun x y=>ltI x y=true)):=by
  cases l with
  |nil=>simp[Zo]
  |cons x l=>
    simp only[Zo,Bool.and_eq_true]
    rw[Ua]
    simp only[List.mem_cons,forall_eq_or_imp]
    constructor
    · rintro⟨h1,L,J⟩
      exact⟨⟨h1,L⟩,J⟩
    · rintro⟨⟨h1,L⟩,J⟩
      exact⟨h1,L,J⟩
end Go.Proofs.Ytjehhhlhalkieaa.Call
namespace Go.Proofs.Ytjehhhlhalkieaa.C
open Go.RowKit Go.Proofs.YtjehhhlhalkieaaW.PrintWords Go.Proofs.YtjehhhlhalkieaaW.PrintLast Go.Proofs.YtjehhhlhalkieaaW.PrintMore
attribute [local go_sem] Z3 Z1 Xb Xa Zt Zs Z2 Z0
set_option linter.unusedVariables false
set_option linter.unusedSimpArgs false
def newellaw19_Own.f (D:List (S56)) (I:List (S62)):Option ((List (S56))×(List (S62))):=(some (([]:List (S56)):List (S56))).bind fun ψ =>(if ψ.length+D.length<5864062014805 then ((some (([]:List (S62)):List (S62))).bind fun U=>(if U.length+I.length<8796093022208 then (some ((ψ ++ D),(U++I))) else (none))) else (none))
def newellaw19_Own.T1:Bool×List (List Nat×List Nat):=(true,[([],[]),([],[]),([1],[1]),([0,2],[0,2]),([],[]),([],[]),([5],[5]),([4,6,3],[4,6]),([3,7],[3,7]),([8,7,0,1,2,3,4,5,6,7,8],[8])])
def newellaw19_Own.B1:List Nat:=[0,0,2,7,0,0,32,127,255,511]
theorem newellaw19_Own.Gk:rtab .any (opsOf Try.f12 1)=newellaw19_Own.T1:=by kernel_rfl
theorem newellaw19_Own.Ju:Zp newellaw19_Own.T1.2 newellaw19_Own.B1=true:=by kernel_rfl
set_option maxHeartbeats 8000000 in
set_option maxRecDepth 100000 in
theorem newellaw19_Own.calls (μ :Option Addr) (Y:Nat) (D:List (S56)) (ρ:Option Addr) (θ :Nat) (I:List (S62)) (r1:List (S56)) (r2:List (S62)) (w:World) (ω :Kd.C k56 w μ D.length D) (a2:D.length≤Y) (aj:Kd.C k62 w ρ I.length I) (al:I.length ≤ θ) (h:newellaw19_Own.f D I=some (r1,r2)):
  Calls Try.prog 12 #[.agg #[.slice μ D.length Y,.slice ρ I.length θ]] w fun e w'=>∃ a6 b0:Value,e = .returned (.agg #[a6,b0])∧Kd.R k56 56 w' w.heap.size (fun _=>True) a6 r1∧Kd.R k62 62 w' w.heap.size (fun _=>True) b0 r2∧Below w.heap.size w w':=by
 have eh:=Try.underlying27
 have φ :=Aside0.mk ω
 have ab:=Aside0.mk a2
 clear ω a2
 have af:=Aside0.mk aj
 have cb:=Aside0.mk al
 clear aj al
 have HB:=Aside0.mk (Below.refl w.heap.size w)
 have H:((some (([]:List (S56)):List (S56))).bind fun ψ =>(if ψ.length+D.length<5864062014805 then ((some (([]:List (S62)):List (S62))).bind fun U=>(if U.length+I.length<8796093022208 then (some ((ψ ++ D),(U++I))) else (none))) else (none)))=some (r1,r2):=h
 clear h
 obtain⟨ψ,ac⟩:∃ y_:List (S56),y_=(([]:List (S56))):=⟨_,rfl⟩
 replace H:(if ψ.length+D.length<5864062014805 then ((some (([]:List (S62)):List (S62))).bind fun U=>(if U.length+I.length<8796093022208 then (some ((ψ ++ D),(U++I))) else (none))) else (none))=some (r1,r2):=by first|(rw[ac];with_reducible exact H)|(have τ :=(Option.bind_some _ _).symm.trans H;rw[ac];with_reducible exact τ)|(have τ :=(Option.bind_some _ _).symm.trans H;with_reducible exact τ)|with_reducible exact H|(rw[ac];exact H)|exact H
 have ak:=Aside0.mk ac
 clear ac
 by_cases c2: ψ.length+D.length<5864062014805
 ·rw[if_pos c2] at H
  have au:=Aside0.mk c2
  clear c2
  obtain⟨a5,ae⟩:∃ y_:List (S56),y_=(ψ ++ D):=⟨_,rfl⟩
  replace H:((some (([]:List (S62)):List (S62))).bind fun U=>(if U.length+I.length<8796093022208 then (some (a5,(U++I))) else (none)))=some (r1,r2):=by first|(rw[ae];with_reducible exact H)|(have τ :=(Option.bind_some _ _).symm.trans H;rw[ae];with_reducible exact τ)|(have τ :=(Option.bind_some _ _).symm.trans H;with_reducible exact τ)|with_reducible exact H|(rw[ae];exact H)|exact H
  have ao:=Aside0.mk ae
  clear ae
  obtain⟨U,ag⟩:∃ y_:List (S62),y_=(([]:List (S62))):=⟨_,rfl⟩
  replace H:(if U.length+I.length<8796093022208 then (some (a5,(U++I))) else (none))=some (r1,r2):=by first|(rw[ag];with_reducible exact H)|(have τ :=(Option.bind_some _ _).symm.trans H;rw[ag];with_reducible exact τ)|(have τ :=(Option.bind_some _ _).symm.trans H;with_reducible exact τ)|with_reducible exact H|(rw[ag];exact H)|exact H
  have a4:=Aside0.mk ag
  clear ag
  by_cases c3:U.length+I.length<8796093022208
  ·rw[if_pos c3] at H
   have b2:=Aside0.mk c3
   clear c3
   obtain⟨ax,ah⟩:∃ y_:List (S62),y_=(U++I):=⟨_,rfl⟩
   replace H:(some (a5,ax))=some (r1,r2):=by first|(rw[ah];with_reducible exact H)|(have τ :=(Option.bind_some _ _).symm.trans H;rw[ah];with_reducible exact τ)|(have τ :=(Option.bind_some _ _).symm.trans H;with_reducible exact τ)|with_reducible exact H|(rw[ah];exact H)|exact H
   have az:=Aside0.mk ah
   clear ah
   simp only[Option.some.injEq,Prod.mk.injEq] at H
   obtain⟨rfl,rfl⟩:=H
   go_enter Try.func12,Try.ntmps12
   try go_wp2_with (first|((with_reducible refine Qs (N:=1) rfl ?_);refine qE 1 #[.slice μ D.length Y,.slice ρ I.length θ] 27 ?_;intro δ hg w4 hbox hb;have B:=Aside0.mk hbox;have b8:=sGe hg;have b9:=sGe hg;replace HB:=sHb hb;clear hb hbox hg)|((with_reducible refine Qs (N:=2) rfl ?_);refine qE 2 #[.slice none 0 0,.slice none 0 0] 27 ?_;intro X hg w5 hbox hb;have J:=Aside0.mk hbox;have ba:=sGe hg;have bc:=sGe hg;have η :=sNl B hg;have ai:=sNg B hg;replace B:=sBk B hb;replace HB:=sHb hb;clear hb hbox hg))
   replace B:=Aside0.mk (Qa B.out)
   replace J:=Aside0.mk (Qa J.out)
   replace HB:=Aside0.mk (Qf HB.out)
   refine Zm (n:=10) (S:=fun w'=>w'.cell? ⟨δ,0,none⟩=some (.slice μ D.length Y)∧w'.cell? ⟨δ,1,none⟩=some (.slice ρ I.length θ)) (ds:=[]) #[false,false,false,false,false,false,false,false,false,false] kr rfl rfl ⟨(Qi B.out 0).trans rfl,(Qi B.out 1).trans rfl⟩ (fun hHeld=>?_);refine Q7 newellaw19_Own.Gk newellaw19_Own.Ju (fun HT_ HW_=>?_)
   generalize w5.drew=w6 at B J HB hHeld ⊢
   refine qP 1 (some 4) (bN 10 2) HT_ ?_
   refine qP 5 (some 8) (bN 10 34) HT_ ?_
   refine qT 2 (some 5) (bN 10 38) HT_ HW_ hHeld ?_
   refine qT 6 (some 9) (bN 10 102) HT_ HW_ hHeld ?_
   refine Ku (σ:=Value×Value×Value) 3 (bN 10 127) (fun s_=>[(3,s_.1),(6,s_.2.1),(7,s_.2.2)]) (fun s_ w'=>(w'.cell? ⟨δ,0,none⟩=some (.slice μ D.length Y)∧w'.cell? ⟨δ,1,none⟩=some (.slice ρ I.length θ))∧(Kd.R k56 56 w' w.heap.size (fun _=>True) s_.2.1 a5)∧(Kd.R k62 62 w' w.heap.size (fun _=>True) s_.2.2 U)∧(w'.heap[δ]?=some (.cells #[.slice μ D.length Y,.slice ρ I.length θ] 27 (0,0)))∧(w'.heap[X]?=some (.cells #[.slice none 0 0,.slice none 0 0] 27 (0,0)))∧(Below w.heap.size w w')) ?_ ?_
   rotate_left
   ·intro hCont
    refine J8 (i:=0) (j:=4) (Ni:=some 3) (Nj:=some 7) (bN 10 103) (bN 10 118) rfl rfl rfl rfl (X6 HT_.out kr) (by decide) (by decide) (fun K hK=>?_) (fun K hK=>?_)
    ·skip
     refine Kd.Xi k56 _ 56 ?hg (N:=3) ?hd (xs:=([]:List (S56))) (inner:=[]) (ok:=fun _=>True) (okp:=fun _=>True) ?hr ?hp (fun _ hk=>hk) trivial (Below.refl _ _) (Nat.le_refl _) (by simp) ?_;(case hd=>rfl);(case hg=>rfl);(case hr=>go_simp <;> rfl);(case hp=>exact(Reps.none _ _))
     intro a0 w7 a1 hb hg_ hnew_
     clear hg_ hnew_
     (first|rw[← ak.out] at a1|(simp only[Int.reduceToNat] at a1;rw[← ak.out] at a1))
     have L:=Aside0.mk (Kd.Q1 a1 (Ql HB.out))
     replace B:=sBk B hb
     replace J:=sBk J hb
     replace HB:=sHb hb
     clear hb a1
     refine hK.out _ _ ⟨qc B,qc B⟩ (fun hHeld=>?_)
     clear hK K
     refine qN (some 3) ?_
     refine J8 (i:=3) (j:=4) (Ni:=some 6) (Nj:=some 7) (bN 10 111) (bN 10 119) rfl rfl rfl rfl (X6 HT_.out kr) (by decide) (by decide) (fun K hK=>?_) (fun K hK=>?_)
     ·skip
      refine Kd.Xu k56 (w0:=w) w.heap.size (by rfl) (.tmp 3) (.tmp 5) 24 56 (.agg #[(.int .i64 0),(.int .i64 0),(.int .i64 0)]) 24 rfl Try.underlying24 Y0 rfl (by decide) (by omega) a0 ψ D _ _ _ (fun _=>True) (fun _=>False) rfl rfl ?aO ?aR (fun _ _ h=>h) (fun _ h=>h.elim) ?aF ?aB ?aS ?aL ?_
      (case aR=>exact(Kd.Qx φ.out HB.out))
      (case aB=>exact HB.out)
      (case aF=>exact(fun _ _=>trivial))
      (case aO=>exact L.out)
      (case aS=>exact(Ql HB.out))
      (case aL=>have:=au.out;omega)
      intro aa w9 ho hb hg hat
      rw[← ao.out] at ho
      have ζ :=Aside0.mk ho
      replace B:=Aside0.mk (Q4 (g:= δ) (o:=.cells #[.slice μ D.length Y,.slice ρ I.length θ] 27 (0,0)) B.out hg (Kd.Z4 L.out B.out (by decide)))
      replace J:=Aside0.mk (Q4 (g:=X) (o:=.cells #[.slice none 0 0,.slice none 0 0] 27 (0,0)) J.out hg (Kd.Z4 L.out J.out (by decide)))
      replace HB:=Aside0.mk hb
      clear L
      clear ho hb hg hat
      refine hK.out _ _ ⟨qc B,qc B⟩ (fun hHeld=>?_)
      clear hK K
      refine qN (some 6) ?_
      refine Zi (i:=4) (N:=some 7) (bN 10 127) rfl rfl (Q2 HT_.out kr) (by decide) (fun K hK=>?_)
      refine Kd.Xi k62 _ 62 ?hg (N:=7) ?hd (xs:=([]:List (S62))) (inner:=[]) (ok:=fun _=>True) (okp:=fun _=>True) ?hr ?hp (fun _ hk=>hk) trivial (Below.refl _ _) (Nat.le_refl _) (by simp) ?_;(case hd=>rfl);(case hg=>rfl);(case hr=>go_simp <;> rfl);(case hp=>exact(Reps.none _ _))
      intro a3 e4 am hb hg_ hnew_
      clear hg_ hnew_
      (first|rw[← a4.out] at am|(simp only[Int.reduceToNat] at am;rw[← a4.out] at am))
      have O:=Aside0.mk (Kd.Q1 am (Ql HB.out))
      replace ζ :=sRb ζ hb
      replace B:=sBk B hb
      replace J:=sBk J hb
      replace HB:=sHb hb
      clear hb am
      refine hK.out _ _ ⟨qc B,qc B⟩ (fun hHeld=>?_)
      clear hK K
      refine qN (some 7) ?_
      exact Xe (by simp only[Zv,Act.put,qS]) (hCont (a0,aa,a3) _ ⟨hHeld,ζ.out,O.out,B.out,J.out,HB.out⟩)
     ·skip
      refine Kd.Xi k62 _ 62 ?hg (N:=7) ?hd (xs:=([]:List (S62))) (inner:=[]) (ok:=fun _=>True) (okp:=fun _=>True) ?hr ?hp (fun _ hk=>hk) trivial (Below.refl _ _) (Nat.le_refl _) (by simp) ?_;(case hd=>rfl);(case hg=>rfl);(case hr=>go_simp <;> rfl);(case hp=>exact(Reps.none _ _))
      intro a3 w9 γ hb hg_ hnew_
      clear hg_ hnew_
      (first|rw[← a4.out] at γ|(simp only[Int.reduceToNat] at γ;rw[← a4.out] at γ))
      have O:=Aside0.mk (Kd.Q1 γ (Ql HB.out))
      replace L:=sRb L hb
      replace B:=sBk B hb
      replace J:=sBk J hb
      replace HB:=sHb hb
      clear hb γ
      refine hK.out _ _ ⟨qc B,qc B⟩ (fun hHeld=>?_)
      clear hK K
      refine qN (some 7) ?_
      refine Zi (i:=3) (N:=some 6) (bN 10 127) rfl rfl (Q2 HT_.out kr) (by decide) (fun K hK=>?_)
      refine Kd.Xu k56 (w0:=w) w.heap.size (by rfl) (.tmp 3) (.tmp 5) 24 56 (.agg #[(.int .i64 0),(.int .i64 0),(.int .i64 0)]) 24 rfl Try.underlying24 Y0 rfl (by decide) (by omega) a0 ψ D _ _ _ (fun _=>True) (fun _=>False) rfl rfl ?aO ?aR (fun _ _ h=>h) (fun _ h=>h.elim) ?aF ?aB ?aS ?aL ?_
      (case aR=>exact(Kd.Qx φ.out HB.out))
      (case aB=>exact HB.out)
      (case aF=>exact(fun _ _=>trivial))
      (case aO=>exact L.out)
      (case aS=>exact(Ql HB.out))
      (case aL=>have:=au.out;omega)
      intro aa d6 ho hb hg hat
      rw[← ao.out] at ho
      have ζ :=Aside0.mk ho
      replace B:=Aside0.mk (Q4 (g:= δ) (o:=.cells #[.slice μ D.length Y,.slice ρ I.length θ] 27 (0,0)) B.out hg (Kd.Z4 L.out B.out (by decide)))
      replace J:=Aside0.mk (Q4 (g:=X) (o:=.cells #[.slice none 0 0,.slice none 0 0] 27 (0,0)) J.out hg (Kd.Z4 L.out J.out (by decide)))
      replace O:=Aside0.mk (Kd.Kz O.out (Kd.Ky L.out) (by decide) hg)
      replace HB:=Aside0.mk hb
      clear L
      clear ho hb hg hat
      refine hK.out _ _ ⟨qc B,qc B⟩ (fun hHeld=>?_)
      clear hK K
      refine qN (some 6) ?_
      exact Xe (by simp only[Zv,Act.put,qS]) (hCont (a0,aa,a3) _ ⟨hHeld,ζ.out,O.out,B.out,J.out,HB.out⟩)
    ·skip
     refine Kd.Xi k62 _ 62 ?hg (N:=7) ?hd (xs:=([]:List (S62))) (inner:=[]) (ok:=fun _=>True) (okp:=fun _=>True) ?hr ?hp (fun _ hk=>hk) trivial (Below.refl _ _) (Nat.le_refl _) (by simp) ?_;(case hd=>rfl);(case hg=>rfl);(case hr=>go_simp <;> rfl);(case hp=>exact(Reps.none _ _))
     intro a3 w7 a1 hb hg_ hnew_
     clear hg_ hnew_
     (first|rw[← a4.out] at a1|(simp only[Int.reduceToNat] at a1;rw[← a4.out] at a1))
     have O:=Aside0.mk (Kd.Q1 a1 (Ql HB.out))
     replace B:=sBk B hb
     replace J:=sBk J hb
     replace HB:=sHb hb
     clear hb a1
     refine hK.out _ _ ⟨qc B,qc B⟩ (fun hHeld=>?_)
     clear hK K
     refine qN (some 7) ?_
     refine Zi (i:=0) (N:=some 3) (bN 10 119) rfl rfl (Q2 HT_.out kr) (by decide) (fun K hK=>?_)
     refine Kd.Xi k56 _ 56 ?hg (N:=3) ?hd (xs:=([]:List (S56))) (inner:=[]) (ok:=fun _=>True) (okp:=fun _=>True) ?hr ?hp (fun _ hk=>hk) trivial (Below.refl _ _) (Nat.le_refl _) (by simp) ?_;(case hd=>rfl);(case hg=>rfl);(case hr=>go_simp <;> rfl);(case hp=>exact(Reps.none _ _))
     intro a0 w9 γ hb hg_ hnew_
     clear hg_ hnew_
     (first|rw[← ak.out] at γ|(simp only[Int.reduceToNat] at γ;rw[← ak.out] at γ))
     have L:=Aside0.mk (Kd.Q1 γ (Ql HB.out))
     replace O:=sRb O hb
     replace B:=sBk B hb
     replace J:=sBk J hb
     replace HB:=sHb hb
     clear hb γ
     refine hK.out _ _ ⟨qc B,qc B⟩ (fun hHeld=>?_)
     clear hK K
     refine qN (some 3) ?_
     refine Zi (i:=3) (N:=some 6) (bN 10 127) rfl rfl (Q2 HT_.out kr) (by decide) (fun K hK=>?_)
     refine Kd.Xu k56 (w0:=w) w.heap.size (by rfl) (.tmp 3) (.tmp 5) 24 56 (.agg #[(.int .i64 0),(.int .i64 0),(.int .i64 0)]) 24 rfl Try.underlying24 Y0 rfl (by decide) (by omega) a0 ψ D _ _ _ (fun _=>True) (fun _=>False) rfl rfl ?aO ?aR (fun _ _ h=>h) (fun _ h=>h.elim) ?aF ?aB ?aS ?aL ?_
     (case aR=>exact(Kd.Qx φ.out HB.out))
     (case aB=>exact HB.out)
     (case aF=>exact(fun _ _=>trivial))
     (case aO=>exact L.out)
     (case aS=>exact(Ql HB.out))
     (case aL=>have:=au.out;omega)
     intro aa d6 ho hb hg hat
     rw[← ao.out] at ho
     have ζ :=Aside0.mk ho
     replace B:=Aside0.mk (Q4 (g:= δ) (o:=.cells #[.slice μ D.length Y,.slice ρ I.length θ] 27 (0,0)) B.out hg (Kd.Z4 L.out B.out (by decide)))
     replace J:=Aside0.mk (Q4 (g:=X) (o:=.cells #[.slice none 0 0,.slice none 0 0] 27 (0,0)) J.out hg (Kd.Z4 L.out J.out (by decide)))
     replace O:=Aside0.mk (Kd.Kz O.out (Kd.Ky L.out) (by decide) hg)
     replace HB:=Aside0.mk hb
     clear L
     clear ho hb hg hat
     refine hK.out _ _ ⟨qc B,qc B⟩ (fun hHeld=>?_)
     clear hK K
     refine qN (some 6) ?_
     exact Xe (by simp only[Zv,Act.put,qS]) (hCont (a0,aa,a3) _ ⟨hHeld,ζ.out,O.out,B.out,J.out,HB.out⟩)
   rintro⟨a0,aa,a3⟩ d5 ⟨hS_,da,db,dc,dd,de⟩
   have Z:Aside0 (Kd.R k56 56 d5 w.heap.size (fun _=>True) aa a5):=⟨da⟩
   have ε :Aside0 (Kd.R k62 62 d5 w.heap.size (fun _=>True) a3 U):=⟨db⟩
   have ι :Aside0 (d5.heap[δ]?=some (.cells #[.slice μ D.length Y,.slice ρ I.length θ] 27 (0,0))):=⟨dc⟩
   have κ :Aside0 (d5.heap[X]?=some (.cells #[.slice none 0 0,.slice none 0 0] 27 (0,0))):=⟨dd⟩
   have χ :Aside0 (Below w.heap.size w d5):=⟨de⟩
   clear B
   clear J
   clear HB
   clear da db dc dd de
   have ζ :=Z
   have O:= ε
   have B:= ι
   have J:= κ
   have HB:= χ
   clear Z ε ι κ χ
   have hHeld:d5.cell? ⟨δ,0,none⟩=some (.slice μ D.length Y)∧d5.cell? ⟨δ,1,none⟩=some (.slice ρ I.length θ):=hS_
   refine Xe (a':=?_) ?_ ?_
   rotate_left
   ·simp only[Zv,Act.put,qS]
    rfl
   refine Zi (i:=7) (N:=some 10) (bN 10 255) rfl rfl (Q2 HT_.out kr) (by decide) (fun K hK=>?_)
   refine Kd.Xu k62 (w0:=w) w.heap.size (by rfl) (.tmp 7) (.tmp 9) 25 62 (.agg #[(.int .i64 0),(.int .i64 0)]) 16 rfl Try.underlying25 Ji rfl (by decide) (by omega) a3 U I _ _ _ (fun _=>True) (fun _=>False) rfl rfl ?aO ?aR (fun _ _ h=>h) (fun _ h=>h.elim) ?aF ?aB ?aS ?aL ?_
   (case aR=>exact(Kd.Qx af.out HB.out))
   (case aB=>exact HB.out)
   (case aF=>exact(fun _ _=>trivial))
   (case aO=>exact O.out)
   (case aS=>exact(Ql HB.out))
   (case aL=>have:=b2.out;omega)
   intro be fa ho hb hg hat
   rw[← az.out] at ho
   have av:=Aside0.mk ho
   replace B:=Aside0.mk (Q4 (g:= δ) (o:=.cells #[.slice μ D.length Y,.slice ρ I.length θ] 27 (0,0)) B.out hg (Kd.Z4 O.out B.out (by decide)))
   replace J:=Aside0.mk (Q4 (g:=X) (o:=.cells #[.slice none 0 0,.slice none 0 0] 27 (0,0)) J.out hg (Kd.Z4 O.out J.out (by decide)))
   replace ζ :=Aside0.mk (Kd.Kz ζ.out (Kd.Ky O.out) (by decide) hg)
   replace HB:=Aside0.mk hb
   clear O
   clear ho hb hg hat
   obtain⟨b4,b5,ay⟩:=Kd.Q3 av.out
   (first|subst ay|(injection ay with ν a7 ξ;have a8:= ν.symm;have a9:= ξ.symm;clear ν a7 ξ;subst a8;subst a9))
   obtain⟨ap,ar,an⟩:=Kd.Q3 ζ.out
   (first|subst an|(injection an with ν a7 ξ;have a8:= ν.symm;have a9:= ξ.symm;clear ν a7 ξ;subst a8;subst a9))
   refine hK.out _ _ ⟨qc B,qc B⟩ (fun hHeld=>?_)
   clear hK K
   refine qN (some 10) ?_
   refine qP 8 (some 11) (bN 10 511) HT_ ?_
   refine Zi (i:=9) (N:=none) (bN 10 1023) rfl rfl (Q2 HT_.out kr) (by decide) (fun K hK=>?_)
   have bb:fa.cell? ⟨X,0,none⟩=some (.slice none 0 0):=(Qi J.out 0).trans rfl
   have b3:=Q6 J.out 0
   have aw:= η.out
   have b1:=ai.out
   have bf:fa.cell? ⟨X,1,none⟩=some (.slice none 0 0):=(Qi J.out 1).trans rfl
   have bd:=Q6 J.out 1
   have b6:= η.out
   have b7:=ai.out
   refine Yl (w1:=?_) (by rfl) rfl ?_ ?_
   rotate_left
   ·go_simp
    rfl
   refine hK.out _ _ ⟨((cell_far (p:=⟨X,_,none⟩) η.out _).trans (((cell_far (p:=⟨X,_,none⟩) η.out _).trans (hHeld.1)))),((cell_far (p:=⟨X,_,none⟩) η.out _).trans (((cell_far (p:=⟨X,_,none⟩) η.out _).trans (hHeld.2))))⟩ (fun hHeld=>?_)
   clear hK K
   refine Zr (Ze HT_.out kr) ?_
   try go_wp2
   refine bodyPost_ret (results_cell_row rfl _ _ X 27 #[.slice ap a5.length ar,.slice b4 ax.length b5] (0,0) _ rfl (by refine Qw (cs:=#[.slice ap a5.length ar,.slice none 0 0]) ?_ 1 _ rfl;refine Qw (cs:=#[.slice none 0 0,.slice none 0 0]) ?_ 0 _ rfl;exact J.out) Try.underlying27 rfl kr) rfl ?_
   exact⟨_,_,by first|rfl|(simp[Qz,Qy] <;> rfl)|(simp[*,Qz,Qy] <;> rfl),by(with_reducible repeat first|apply Kd.Qk|apply Kd.Qj|apply Kd.Qm);exact Kd.Qq (Kd.Qr (Kd.Qr (Kd.Qu ζ.out J.out (by decide)) (fun _ hk=>hk.2) _) (fun _ hk=>hk.2) _) (fun _ hk=>trivial),by(with_reducible repeat first|apply Kd.Qk|apply Kd.Qj|apply Kd.Qm);exact Kd.Qq (Kd.Qr (Kd.Qr (Kd.Qu av.out J.out (by decide)) (fun _ hk=>hk.2) _) (fun _ hk=>hk.2) _) (fun _ hk=>trivial),bel⟩
  ·rw[if_neg c3] at H
   exact absurd H (by simp)
 ·rw[if_neg c2] at H
  exact absurd H (by simp)
def newelref19_Few.f (D:List (S56)) (I:List (S62)):Option (Bool):=if (D.length:Int)≤130 then (some (decide ((I.length:Int)≤520))) else (some false)
set_option maxHeartbeats 8000000 in
set_option maxRecDepth 100000 in
theorem newelref19_Few.calls (μ :Option Addr) (Y:Nat) (D:List (S56)) (ρ:Option Addr) (θ :Nat) (I:List (S62)) (r:Bool) (w:World) (ω :Kd.C k56 w μ D.length D) (a2:D.length≤Y) (aj:Kd.C k62 w ρ I.length I) (al:I.length ≤ θ) (h:newelref19_Few.f D I=some r):
  Calls Try.prog 9 #[.agg #[.slice μ D.length Y,.slice ρ I.length θ]] w fun e w'=>e = .returned (.bool r)∧Below w.heap.size w w':=by
 have eh:=Try.underlying27
 have φ :=Aside0.mk ω
 have ab:=Aside0.mk a2
 clear ω a2
 have af:=Aside0.mk aj
 have cb:=Aside0.mk al
 clear aj al
 have HB:=Aside0.mk (Below.refl w.heap.size w)
 have H:(if (D.length:Int)≤130 then (some (decide ((I.length:Int)≤520))) else (some false))=some r:=h
 clear h
 by_cases c2:(D.length:Int)≤130
 ·rw[if_pos c2] at H
  have c2b0:decide ((D.length:Int)≤130)=true:=decide_eq_true c2
  have c2b1:decide (D.length≤130)=true:=decide_eq_true (by omega)
  clear c2
  obtain rfl:=Option.some.inj H
  go_enter Try.func9,Try.ntmps9
  go_wp2_with (first|((with_reducible refine Qs (N:=1) rfl ?_);(try(refine Z6 (by rfl) ?_;dsimp only));refine Zb ?hg (N:=1) ?hd (cs:=#[.slice μ D.length Y,.slice ρ I.length θ]) (t:=27) ?hr ?_;(case hd=>rfl);(case hg=>rfl);(case hr=>first|(go_simp;done)|(go_simp;rfl));intro χ hg w3 hbox hb;have Z:=Aside0.mk (Qv (by repeat(first|(with_reducible first|exact HB.out|apply Qh|apply Qc|apply Qf)|exact HB.out)) hb);have ε :=Aside0.mk (hbox);have ι :=Aside0.mk ((by rw[hg];exact(Ql (by repeat(first|(with_reducible first|exact HB.out|apply Qh|apply Qc|apply Qf)|exact HB.out))):w.heap.size ≤ χ));have κ :=Aside0.mk ((by rw[hg];exact(Ql (by repeat(first|(with_reducible first|exact HB.out|apply Qh|apply Qc|apply Qf)|exact HB.out))):w.heap.size ≤ χ));clear HB;have HB:=Z;have L:= ε;have br:= ι;have b5:= κ;clear Z ε ι κ;clear hb hbox hg;obtain⟨ae,ag,ai,ak⟩:=qD2 L.out))
  go_ret
  exact⟨by first|rfl|(simp[Qz,Qy] <;> rfl)|(simp[*,Qz,Qy] <;> rfl),by repeat(first|(with_reducible first|exact HB.out|apply Qh|apply Qc|apply Qf|refine Qd ?_ b5.out)|exact HB.out)⟩
 ·rw[if_neg c2] at H
  have c2b0:decide ((D.length:Int)≤130)=false:=decide_eq_false c2
  have c2b1:decide (D.length≤130)=false:=decide_eq_false (by omega)
  clear c2
  obtain rfl:=Option.some.inj H
  go_enter Try.func9,Try.ntmps9
  go_wp2_with (first|((with_reducible refine Qs (N:=1) rfl ?_);(try(refine Z6 (by rfl) ?_;dsimp only));refine Zb ?hg (N:=1) ?hd (cs:=#[.slice μ D.length Y,.slice ρ I.length θ]) (t:=27) ?hr ?_;(case hd=>rfl);(case hg=>rfl);(case hr=>first|(go_simp;done)|(go_simp;rfl));intro χ hg w5 hbox hb;have Z:=Aside0.mk (Qv (by repeat(first|(with_reducible first|exact HB.out|apply Qh|apply Qc|apply Qf)|exact HB.out)) hb);have ε :=Aside0.mk (hbox);have ι :=Aside0.mk ((by rw[hg];exact(Ql (by repeat(first|(with_reducible first|exact HB.out|apply Qh|apply Qc|apply Qf)|exact HB.out))):w.heap.size ≤ χ));have κ :=Aside0.mk ((by rw[hg];exact(Ql (by repeat(first|(with_reducible first|exact HB.out|apply Qh|apply Qc|apply Qf)|exact HB.out))):w.heap.size ≤ χ));clear HB;have HB:=Z;have L:= ε;have br:= ι;have b5:= κ;clear Z ε ι κ;clear hb hbox hg;obtain⟨U,X,γ,δ⟩:=qD2 L.out))
  go_ret
  exact⟨by first|rfl|(simp[Qz,Qy] <;> rfl)|(simp[*,Qz,Qy] <;> rfl),by repeat(first|(with_reducible first|exact HB.out|apply Qh|apply Qc|apply Qf|refine Qd ?_ b5.out)|exact HB.out)⟩
theorem Nq (d:Nat) (w:World) (I J:Int) (D L:Int) (U O:Int):
  (Op.equalIn (d+2) 56 (.agg #[.int .i64 I,.int .i64 D,.int .i64 U]) (.agg #[.int .i64 J,.int .i64 L,.int .i64 O])).run Try.prog w = .ok (I==J&&(D==L&&(U==O))) w:=by
 refine Mf Try.underlying56 kr ?_
 refine Gx (by rfl) (by go_simp;rfl) (by go_simp;rfl) (by go_simp) ?_
 refine Gx (by rfl) (by go_simp;rfl) (by go_simp;rfl) (by go_simp) ?_
 exact Uq (by rfl) (by go_simp;rfl) (by go_simp;rfl) (by go_simp)
theorem Np (d:Nat) (w:World) (I J:Int) (D L:Int):
  (Op.equalIn (d+2) 62 (.agg #[.int .i64 I,.int .i64 D]) (.agg #[.int .i64 J,.int .i64 L])).run Try.prog w = .ok (I==J&&(D==L)) w:=by
 refine Mf Try.underlying62 kr ?_
 refine Gx (by rfl) (by go_simp;rfl) (by go_simp;rfl) (by go_simp) ?_
 exact Uq (by rfl) (by go_simp;rfl) (by go_simp;rfl) (by go_simp)
end Go.Proofs.Ytjehhhlhalkieaa.C
namespace Go.Proofs.Ytjehhhlhalkieaa.C
open Go.RowKit Go.Proofs.YtjehhhlhalkieaaW.PrintWords Go.Proofs.YtjehhhlhalkieaaW.PrintLast Go.Proofs.YtjehhhlhalkieaaW.PrintMore
attribute [local go_sem] Z3 Z1 Xb Xa Zt Zs Z2 Z0
set_option linter.unusedVariables false
set_option linter.unusedSimpArgs false
attribute [local go_sem high] Nq Np
mutual
def newelref19_Same.j0:Nat→Bool→List (S56)→List (S62)→List (S56)→List (S62)→Option (Bool)
 |0,_,_,_,_,_=>none
 |k+1,J,B,I,D,O=>if J=true then (some false) else (newelref19_Same.l0 k 0 B I D O)
def newelref19_Same.l0:Nat→Int→List (S56)→List (S62)→List (S56)→List (S62)→Option (Bool)
 |0,_,_,_,_,_=>none
 |k+1,L,B,I,D,O=>if L<(B.length:Int) then (if 0≤L then (if L<(D.length:Int) then (if (!(((Qg B L).f0)==((Qg D L).f0))||(!(((Qg B L).f1)==((Qg D L).f1))||(!(((Qg B L).f2)==((Qg D L).f2)))))=true then (some false) else (newelref19_Same.l0 k (wrap64 (L+1)) B I D O)) else (none)) else (none)) else (newelref19_Same.l1 k 0 B I D O)
def newelref19_Same.l1:Nat→Int→List (S56)→List (S62)→List (S56)→List (S62)→Option (Bool)
 |0,_,_,_,_,_=>none
 |k+1,J,B,I,D,O=>if J<(I.length:Int) then (if 0≤J then (if J<(O.length:Int) then (if (!(((Qo I J).f0)==((Qo O J).f0))||(!(((Qo I J).f1)==((Qo O J).f1))))=true then (some false) else (newelref19_Same.l1 k (wrap64 (J+1)) B I D O)) else (none)) else (none)) else (some true)
end
def newelref19_Same.f (k:Nat) (D:List (S56)) (I:List (S62)) (B:List (S56)) (J:List (S62)):Option (Bool):=if (D.length:Int)=(B.length:Int) then (newelref19_Same.j0 k ((I.length:Int) != (J.length:Int)) D I B J) else (newelref19_Same.j0 k true D I B J)
theorem newelref19_Same.Zk:∀ k,(∀ J L O D U,LeO (newelref19_Same.j0 k J L O D U) (newelref19_Same.j0 (k+1) J L O D U))∧(∀ J L O D U,LeO (newelref19_Same.l0 k J L O D U) (newelref19_Same.l0 (k+1) J L O D U))∧(∀ J L O D U,LeO (newelref19_Same.l1 k J L O D U) (newelref19_Same.l1 (k+1) J L O D U))
 |0=>⟨fun _ _ _ _ _ r h=>by simp[newelref19_Same.j0] at h,fun _ _ _ _ _ r h=>by simp[newelref19_Same.l0] at h,fun _ _ _ _ _ r h=>by simp[newelref19_Same.l1] at h⟩
 |k+1=>by
  obtain⟨B,I,Z⟩:=newelref19_Same.Zk k
  refine⟨?_, ?_, ?_⟩
  ·intro J L O D U
   unfold newelref19_Same.j0
   repeat' first
   |(with_reducible exact B _ _ _ _ _)
   |(with_reducible exact I _ _ _ _ _)
   |(with_reducible exact Z _ _ _ _ _)
   |(with_reducible exact LeO.refl _)
   |(with_reducible exact LeO.none _)
   |(with_reducible refine LeO.ite ?_ ?_)
   |(with_reducible refine LeO.bind ?_ (fun _=>?_))
   |exact B _ _ _ _ _
   |exact I _ _ _ _ _
   |exact Z _ _ _ _ _
   |exact LeO.none _
   |refine LeO.ite ?_ ?_
   |refine LeO.bind ?_ (fun _=>?_)
  ·intro J L O D U
   unfold newelref19_Same.l0
   repeat' first
   |(with_reducible exact B _ _ _ _ _)
   |(with_reducible exact I _ _ _ _ _)
   |(with_reducible exact Z _ _ _ _ _)
   |(with_reducible exact LeO.refl _)
   |(with_reducible exact LeO.none _)
   |(with_reducible refine LeO.ite ?_ ?_)
   |(with_reducible refine LeO.bind ?_ (fun _=>?_))
   |exact B _ _ _ _ _
   |exact I _ _ _ _ _
   |exact Z _ _ _ _ _
   |exact LeO.none _
   |refine LeO.ite ?_ ?_
   |refine LeO.bind ?_ (fun _=>?_)
  ·intro J L O D U
   unfold newelref19_Same.l1
   repeat' first
   |(with_reducible exact B _ _ _ _ _)
   |(with_reducible exact I _ _ _ _ _)
   |(with_reducible exact Z _ _ _ _ _)
   |(with_reducible exact LeO.refl _)
   |(with_reducible exact LeO.none _)
   |(with_reducible refine LeO.ite ?_ ?_)
   |(with_reducible refine LeO.bind ?_ (fun _=>?_))
   |exact B _ _ _ _ _
   |exact I _ _ _ _ _
   |exact Z _ _ _ _ _
   |exact LeO.none _
   |refine LeO.ite ?_ ?_
   |refine LeO.bind ?_ (fun _=>?_)
theorem newelref19_Same.mono:∀ D J a2 X k,LeO (newelref19_Same.f k D J a2 X) (newelref19_Same.f (k+1) D J a2 X):=by
 intro D J a2 X k
 obtain⟨B,I,Z⟩:=newelref19_Same.Zk k
 unfold newelref19_Same.f
 repeat' first
   |(with_reducible exact B _ _ _ _ _)
   |(with_reducible exact I _ _ _ _ _)
   |(with_reducible exact Z _ _ _ _ _)
   |(with_reducible exact LeO.refl _)
   |(with_reducible exact LeO.none _)
   |(with_reducible refine LeO.ite ?_ ?_)
   |(with_reducible refine LeO.bind ?_ (fun _=>?_))
   |exact B _ _ _ _ _
   |exact I _ _ _ _ _
   |exact Z _ _ _ _ _
   |exact LeO.none _
   |refine LeO.ite ?_ ?_
   |refine LeO.bind ?_ (fun _=>?_)
set_option maxHeartbeats 8000000 in
set_option maxRecDepth 100000 in
theorem newelref19_Same.calls (k:Nat) (μ :Option Addr) (Y:Nat) (D:List (S56)) (ρ:Option Addr) (θ :Nat) (I:List (S62)) (ζ :Option Addr) (γ:Nat) (B:List (S56)) (η :Option Addr) (δ :Nat) (J:List (S62)) (r:Bool) (w:World) (ω :Kd.C k56 w μ D.length D) (a2:D.length≤Y) (aj:Kd.C k62 w ρ I.length I) (al:I.length ≤ θ) (bj:Kd.C k56 w ζ B.length B) (bk:B.length≤γ) (bl:Kd.C k62 w η J.length J) (bm:J.length ≤ δ) (h:newelref19_Same.f k D I B J=some r):
  Calls Try.prog 15 #[.agg #[.slice μ D.length Y,.slice ρ I.length θ],.agg #[.slice ζ B.length γ,.slice η J.length δ]] w fun e w'=>e = .returned (.bool r)∧Below w.heap.size w w':=by
 have eh:=Try.underlying27
 have b2:=Try.underlying56
 have b9:=Try.underlying62
 have φ :=Aside0.mk ω
 have ab:=Aside0.mk a2
 clear ω a2
 have af:=Aside0.mk aj
 have cb:=Aside0.mk al
 clear aj al
 have ai:=Aside0.mk bj
 have ay:=Aside0.mk bk
 clear bj bk
 have ak:=Aside0.mk bl
 have az:=Aside0.mk bm
 clear bl bm
 have HB:=Aside0.mk (Below.refl w.heap.size w)
 have H:(if (D.length:Int)=(B.length:Int) then (newelref19_Same.j0 k ((I.length:Int) != (J.length:Int)) D I B J) else (newelref19_Same.j0 k true D I B J))=some r:=h
 clear h
 have a6:=Aside0.mk H
 clear H
 go_enter Try.func15,Try.ntmps15
 go_upto_region 1 with(first|((with_reducible refine Qs (N:=2) rfl ?_);(try(refine Z6 (by rfl) ?_;dsimp only));refine qE 2 #[.slice μ D.length Y,.slice ρ I.length θ] 27 ?_;intro ι hg w4 hbox hb;have U:=Aside0.mk hbox;have bb:=sGe hg;have bz:=sGe hg;replace HB:=sHb hb;clear hb hbox hg)|((with_reducible refine Qs (N:=3) rfl ?_);(try(refine Z6 (by rfl) ?_;dsimp only));refine qE 3 #[.slice ζ B.length γ,.slice η J.length δ] 27 ?_;intro ba hg w5 hbox hb;have O:=Aside0.mk hbox;have cr:=sGe hg;have cv:=sGe hg;have Z:=sNl U hg;have ε :=sNg U hg;replace U:=sBk U hb;replace HB:=sHb hb;clear hb hbox hg))
 repeat(go_quiet (first|((with_reducible refine Qs (N:=2) rfl ?_);(try(refine Z6 (by rfl) ?_;dsimp only));refine qE 2 #[.slice μ D.length Y,.slice ρ I.length θ] 27 ?_;intro ι hg w4 hbox hb;have U:=Aside0.mk hbox;have bb:=sGe hg;have bz:=sGe hg;replace HB:=sHb hb;clear hb hbox hg)|((with_reducible refine Qs (N:=3) rfl ?_);(try(refine Z6 (by rfl) ?_;dsimp only));refine qE 3 #[.slice ζ B.length γ,.slice η J.length δ] 27 ?_;intro ba hg w5 hbox hb;have O:=Aside0.mk hbox;have cr:=sGe hg;have cv:=sGe hg;have Z:=sNl U hg;have ε :=sNg U hg;replace U:=sBk U hb;replace HB:=sHb hb;clear hb hbox hg));go_upto_region 1 with(first|((with_reducible refine Qs (N:=2) rfl ?_);(try(refine Z6 (by rfl) ?_;dsimp only));refine qE 2 #[.slice μ D.length Y,.slice ρ I.length θ] 27 ?_;intro ι hg w4 hbox hb;have U:=Aside0.mk hbox;have bb:=sGe hg;have bz:=sGe hg;replace HB:=sHb hb;clear hb hbox hg)|((with_reducible refine Qs (N:=3) rfl ?_);(try(refine Z6 (by rfl) ?_;dsimp only));refine qE 3 #[.slice ζ B.length γ,.slice η J.length δ] 27 ?_;intro ba hg w5 hbox hb;have O:=Aside0.mk hbox;have cr:=sGe hg;have cv:=sGe hg;have Z:=sNl U hg;have ε :=sNg U hg;replace U:=sBk U hb;replace HB:=sHb hb;clear hb hbox hg)))
 (try simp only[Act.put,qS])
 go_cut [22] (fun dt wc=>∃ (kq:Nat) (cx:Bool),dt = .bool cx∧Aside0 (newelref19_Same.j0 kq cx D I B J=some r)∧Aside0 (kq≤k)∧Aside0 (wc.heap[ι]?=some (.cells #[(.slice μ D.length Y),(.slice ρ I.length θ)] 27 (0,0)))∧Aside0 (wc.heap[ba]?=some (.cells #[(.slice ζ B.length γ),(.slice η J.length δ)] 27 (0,0)))∧Aside0 (Below w.heap.size w wc))
 case first=>
  have H:=a6.out
  clear a6
  by_cases c6:(D.length:Int)=(B.length:Int)
  ·rw[if_pos c6] at H
   have c6b0:((D.length:Int)==(B.length:Int))=true:=beq_iff_eq.mpr c6
   have c6b1:((D.length:Int) != (B.length:Int))=false:=bne_eq_false_iff_eq.mpr c6
   have c6b2:(D.length==B.length)=true:=by first|simpa using c6|(simp at c6 ⊢;omega)
   clear c6
   (first|rw[c6b0]|(simp only[Xm,Ya];rw[c6b0])|skip)
   have H':=Aside0.mk H
   clear H
   have e5:=Z.out
   have e6:= ε.out
   obtain⟨ar,au,av,aw⟩:=qD2 U.out
   obtain⟨bd,be,bf,bg⟩:=qD2 O.out
   go_wp2
   repeat(go_quiet (fail);try go_wp2)
   go_meet
   case rel=>exact⟨_,(((I.length:Int) != (J.length:Int))),rfl,H',⟨by first|omega|exact Nat.le_refl _⟩,U,O,HB⟩
  ·rw[if_neg c6] at H
   have c6b0:((D.length:Int)==(B.length:Int))=false:=beq_eq_false_iff_ne.mpr c6
   have c6b1:((D.length:Int) != (B.length:Int))=true:=bne_iff_ne.mpr c6
   have c6b2:(D.length==B.length)=false:=by first|simpa using c6|(simp at c6 ⊢;omega)
   (first|rw[c6b0]|(simp only[Xm,Ya];rw[c6b0])|skip)
   have H':=Aside0.mk H
   clear H
   have dh:=Z.out
   have di:= ε.out
   obtain⟨b0,b1,b3,b4⟩:=qD2 U.out
   obtain⟨am,an,ao,ap⟩:=qD2 O.out
   go_wp2
   repeat(go_quiet (fail);try go_wp2)
   go_meet
   case rel=>exact⟨_,(true),rfl,H',⟨by first|omega|exact Nat.le_refl _⟩,U,O,HB⟩
 case rest=>
  clear a6
  try clear c1
  try clear p2
  try clear c6
  try clear c6b0
  try clear c6b1
  try clear c6b2
  try clear c7
  try clear c10
  try clear b0
  try clear b1
  try clear am
  try clear an
  try clear ar
  try clear au
  try clear bd
  try clear be
  try clear b3
  try clear b4
  try clear ao
  try clear ap
  try clear av
  try clear aw
  try clear bf
  try clear bg
  obtain⟨kq,cx,rfl,HA,cy,U,O,HB⟩:=hcut
  cases kq with
  |zero=>exact absurd HA.out (by simp[newelref19_Same.j0])
  |succ d6=>
   have H:=HA.out
   clear HA
   simp only[newelref19_Same.j0] at H
   by_cases br:cx=true
   ·subst br
    have H1:(some false)=some r:=by rw[if_pos rfl] at H;exact H
    clear H
    have H:=H1
    clear H1
    obtain rfl:=Option.some.inj H
    go_wp2
    repeat(go_quiet (fail);try go_wp2)
    go_ret
    exact⟨rfl,HB.out⟩
   ·replace br:=Bool.eq_false_iff.mpr br
    subst br
    have H1:(newelref19_Same.l0 d6 0 D I B J)=some r:=by rw[if_neg (show ¬ (false=true) by decide)] at H;exact H
    clear H
    have H:=H1
    clear H1
    have H':=Aside0.mk H
    clear H
    go_wp2
    repeat(go_quiet (fail);try go_wp2)
    go_loopg [5] d6 (fun kq v5 w'=>∃ (L:Int),v5 = .int .i64 L∧Aside0 (newelref19_Same.l0 kq L D I B J=some r)∧Aside0 (kq≤d6)∧Aside0 (w'.heap[ι]?=some (.cells #[(.slice μ D.length Y),(.slice ρ I.length θ)] 27 (0,0)))∧Aside0 (w'.heap[ba]?=some (.cells #[(.slice ζ B.length γ),(.slice η J.length δ)] 27 (0,0)))∧Aside0 (Below w.heap.size w w'))
    case atStart=>exact⟨(0),rfl,H',⟨Nat.le_refl _⟩,U,O,HB⟩
    case round=>
     clear H'
     try clear c1
     try clear p2
     try clear c6
     try clear c6b0
     try clear c6b1
     try clear c6b2
     try clear c7
     try clear c10
     try clear br
     try clear b0
     try clear b1
     try clear am
     try clear an
     try clear ar
     try clear au
     try clear bd
     try clear be
     try clear b3
     try clear b4
     try clear ao
     try clear ap
     try clear av
     try clear aw
     try clear bf
     try clear bg
     try clear p2
     obtain⟨L,rfl,HA,ag,U,O,HB⟩:=hrel
     cases gk with
     |zero=>exact absurd HA.out (by simp[newelref19_Same.l0])
     |succ k2=>
      have H:=HA.out
      clear HA
      simp only[newelref19_Same.l0] at H
      by_cases a3:L<(D.length:Int)
      ·rw[if_pos a3] at H
       have c14b0:decide (L<(D.length:Int))=true:=decide_eq_true a3
       clear a3
       by_cases ah:0≤L
       ·rw[if_pos ah] at H
        have c15b0:decide (0≤L)=true:=decide_eq_true ah
        clear ah
        by_cases a5:L<(B.length:Int)
        ·rw[if_pos a5] at H
         have c16b0:decide (L<(B.length:Int))=true:=decide_eq_true a5
         clear a5
         by_cases aa:(!(((Qg D L).f0)==((Qg B L).f0))||(!(((Qg D L).f1)==((Qg B L).f1))||(!(((Qg D L).f2)==((Qg B L).f2)))))=true
         ·rw[if_pos aa] at H
          have c17b0:(!(((Qg D L).f0)==((Qg B L).f0))||(!(((Qg D L).f1)==((Qg B L).f1))||(!(((Qg D L).f2)==((Qg B L).f2)))))=true:=aa
          (try(have c17s0:=c17b0;simp only[beq_self_eq_true,bne_self_eq_false,Bool.not_true,Bool.not_false,Bool.true_and,Bool.and_true,Bool.false_or,Bool.or_false] at c17s0))
          clear aa
          obtain rfl:=Option.some.inj H
          have ct:=Z.out
          have cu:= ε.out
          obtain⟨b5,b6,b7,b8⟩:=qD2 U.out
          have ae:0≤(L:Int):=of_decide_eq_true (by assumption)
          have ca:L<(D.length:Int):=of_decide_eq_true (by assumption)
          obtain⟨dd,d7,κ,σ,τ⟩:=Zw φ.out L ae ca
          cases d7
          replace κ :=(HB.out.cell (World.block_lt_of_cell? w _ κ)).trans κ
          replace σ:=(HB.out.cell (World.block_lt_of_cell? w _ σ)).trans σ
          replace τ :=(HB.out.cell (World.block_lt_of_cell? w _ τ)).trans τ
          replace ae:=eq_true ae
          replace ca:=eq_true ca
          obtain⟨bh,bi,bn,bo⟩:=qD2 O.out
          have a7:0≤(L:Int):=of_decide_eq_true (by assumption)
          have a8:L<(B.length:Int):=of_decide_eq_true (by assumption)
          obtain⟨a9,bu,ν,ξ,χ⟩:=Zw ai.out L a7 a8
          cases bu
          replace ν :=(HB.out.cell (World.block_lt_of_cell? w _ ν)).trans ν
          replace ξ :=(HB.out.cell (World.block_lt_of_cell? w _ ξ)).trans ξ
          replace χ :=(HB.out.cell (World.block_lt_of_cell? w _ χ)).trans χ
          replace a7:=eq_true a7
          replace a8:=eq_true a8
          go_wp2
          repeat(go_quiet (fail);try go_wp2)
          go_ret
          exact⟨by first|rfl|(simp[Qz,Qy] <;> rfl)|(simp[*,Qz,Qy] <;> rfl),bel⟩
         ·rw[if_neg aa] at H
          have c17b0:(!(((Qg D L).f0)==((Qg B L).f0))||(!(((Qg D L).f1)==((Qg B L).f1))||(!(((Qg D L).f2)==((Qg B L).f2)))))=false:=by simpa using aa
          (try(have c17s0:=c17b0;simp only[beq_self_eq_true,bne_self_eq_false,Bool.not_true,Bool.not_false,Bool.true_and,Bool.and_true,Bool.false_or,Bool.or_false] at c17s0))
          clear aa
          have H':=Aside0.mk H
          clear H
          have db:=Z.out
          have dc:= ε.out
          obtain⟨bc,bp,bq,bs⟩:=qD2 U.out
          have ae:0≤(L:Int):=of_decide_eq_true (by assumption)
          have ca:L<(D.length:Int):=of_decide_eq_true (by assumption)
          obtain⟨dd,d7,κ,σ,τ⟩:=Zw φ.out L ae ca
          cases d7
          replace κ :=(HB.out.cell (World.block_lt_of_cell? w _ κ)).trans κ
          replace σ:=(HB.out.cell (World.block_lt_of_cell? w _ σ)).trans σ
          replace τ :=(HB.out.cell (World.block_lt_of_cell? w _ τ)).trans τ
          replace ae:=eq_true ae
          replace ca:=eq_true ca
          obtain⟨ce,cf,cg,ch⟩:=qD2 O.out
          have a7:0≤(L:Int):=of_decide_eq_true (by assumption)
          have a8:L<(B.length:Int):=of_decide_eq_true (by assumption)
          obtain⟨a9,bu,ν,ξ,χ⟩:=Zw ai.out L a7 a8
          cases bu
          replace ν :=(HB.out.cell (World.block_lt_of_cell? w _ ν)).trans ν
          replace ξ :=(HB.out.cell (World.block_lt_of_cell? w _ ξ)).trans ξ
          replace χ :=(HB.out.cell (World.block_lt_of_cell? w _ χ)).trans χ
          replace a7:=eq_true a7
          replace a8:=eq_true a8
          go_wp2
          repeat(go_quiet (fail);try go_wp2)
          go_roundg k2
          case measure=>have:=cy.out;have:=ag.out;omega
          case rel=>exact⟨(wrap64 (L+1)),qR,H',⟨by have:=cy.out;have:=ag.out;omega⟩,⟨bka U⟩,⟨bka O⟩,⟨bel⟩⟩
        ·rw[if_neg a5] at H
         exact absurd H (by simp)
       ·rw[if_neg ah] at H
        exact absurd H (by simp)
      ·rw[if_neg a3] at H
       have c14b0:decide (L<(D.length:Int))=false:=decide_eq_false a3
       clear a3
       have H':=Aside0.mk H
       clear H
       have df:=Z.out
       have du:= ε.out
       obtain⟨ci,ck,cm,cn⟩:=qD2 U.out
       go_wp2
       repeat(go_quiet (fail);try go_wp2)
       go_loopg [6] k2 (fun kq v6 w'=>∃ (X:Int),v6 = .int .i64 X∧Aside0 (newelref19_Same.l1 kq X D I B J=some r)∧Aside0 (kq≤k2)∧Aside0 (w'.heap[ι]?=some (.cells #[(.slice μ D.length Y),(.slice ρ I.length θ)] 27 (0,0)))∧Aside0 (w'.heap[ba]?=some (.cells #[(.slice ζ B.length γ),(.slice η J.length δ)] 27 (0,0)))∧Aside0 (Below w.heap.size w w'))
       case atStart=>exact⟨(0),rfl,H',⟨Nat.le_refl _⟩,U,O,HB⟩
       case round=>
        clear H'
        try clear c1
        try clear p1
        try clear q1
        try clear bv
        try clear c2
        try clear p2
        try clear c6
        try clear c6b0
        try clear c6b1
        try clear c6b2
        try clear p6
        try clear c7
        try clear c10
        try clear dr
        try clear dx
        try clear dl
        try clear br
        try clear a3
        try clear c14b0
        try clear ah
        try clear c15b0
        try clear a5
        try clear c16b0
        try clear aa
        try clear c17b0
        try clear da
        try clear fj
        try clear gw
        try clear b0
        try clear b1
        try clear am
        try clear an
        try clear b5
        try clear b6
        try clear bh
        try clear bi
        try clear bc
        try clear bp
        try clear ce
        try clear cf
        try clear ci
        try clear ck
        try clear ar
        try clear au
        try clear bd
        try clear be
        try clear b3
        try clear b4
        try clear ao
        try clear ap
        try clear b7
        try clear b8
        try clear bn
        try clear bo
        try clear bq
        try clear bs
        try clear cg
        try clear ch
        try clear cm
        try clear cn
        try clear av
        try clear aw
        try clear bf
        try clear bg
        try clear κ
        try clear σ
        try clear τ
        try clear ν
        try clear ξ
        try clear χ
        try clear ae
        try clear a7
        try clear p2
        try clear ca
        try clear a8
        obtain⟨X,rfl,HA,dk,U,O,HB⟩:=hrel
        cases gk with
        |zero=>exact absurd HA.out (by simp[newelref19_Same.l1])
        |succ k3=>
         have H:=HA.out
         clear HA
         simp only[newelref19_Same.l1] at H
         by_cases ac:X<(I.length:Int)
         ·rw[if_pos ac] at H
          have c26b0:decide (X<(I.length:Int))=true:=decide_eq_true ac
          clear ac
          by_cases cd:0≤X
          ·rw[if_pos cd] at H
           have c27b0:decide (0≤X)=true:=decide_eq_true cd
           clear cd
           by_cases ax:X<(J.length:Int)
           ·rw[if_pos ax] at H
            have c28b0:decide (X<(J.length:Int))=true:=decide_eq_true ax
            clear ax
            by_cases bw:(!(((Qo I X).f0)==((Qo J X).f0))||(!(((Qo I X).f1)==((Qo J X).f1))))=true
            ·rw[if_pos bw] at H
             have c29b0:(!(((Qo I X).f0)==((Qo J X).f0))||(!(((Qo I X).f1)==((Qo J X).f1))))=true:=bw
             (try(have c29s0:=c29b0;simp only[beq_self_eq_true,bne_self_eq_false,Bool.not_true,Bool.not_false,Bool.true_and,Bool.and_true,Bool.false_or,Bool.or_false] at c29s0))
             clear bw
             obtain rfl:=Option.some.inj H
             have i4:=Z.out
             have i6:= ε.out
             obtain⟨e8,e9,ea,eb⟩:=qD2 U.out
             have cj:0≤(X:Int):=of_decide_eq_true (by assumption)
             have co:X<(I.length:Int):=of_decide_eq_true (by assumption)
             obtain⟨de,d8,ψ,a0⟩:=Zu af.out X cj co
             cases d8
             replace ψ :=(HB.out.cell (World.block_lt_of_cell? w _ ψ)).trans ψ
             replace a0:=(HB.out.cell (World.block_lt_of_cell? w _ a0)).trans a0
             replace cj:=eq_true cj
             replace co:=eq_true co
             obtain⟨dm,dn,dp,dq⟩:=qD2 O.out
             have cp:0≤(X:Int):=of_decide_eq_true (by assumption)
             have cq:X<(J.length:Int):=of_decide_eq_true (by assumption)
             obtain⟨dj,d9,a1,a4⟩:=Zu ak.out X cp cq
             cases d9
             replace a1:=(HB.out.cell (World.block_lt_of_cell? w _ a1)).trans a1
             replace a4:=(HB.out.cell (World.block_lt_of_cell? w _ a4)).trans a4
             replace cp:=eq_true cp
             replace cq:=eq_true cq
             go_wp2
             repeat(go_quiet (fail);try go_wp2)
             go_ret
             exact⟨by first|rfl|(simp[Qz,Qy] <;> rfl)|(simp[*,Qz,Qy] <;> rfl),bel⟩
            ·rw[if_neg bw] at H
             have c29b0:(!(((Qo I X).f0)==((Qo J X).f0))||(!(((Qo I X).f1)==((Qo J X).f1))))=false:=by simpa using bw
             (try(have c29s0:=c29b0;simp only[beq_self_eq_true,bne_self_eq_false,Bool.not_true,Bool.not_false,Bool.true_and,Bool.and_true,Bool.false_or,Bool.or_false] at c29s0))
             clear bw
             have H':=Aside0.mk H
             clear H
             have ef:=Z.out
             have eg:= ε.out
             obtain⟨cw,d0,d1,d2⟩:=qD2 U.out
             have cj:0≤(X:Int):=of_decide_eq_true (by assumption)
             have co:X<(I.length:Int):=of_decide_eq_true (by assumption)
             obtain⟨de,d8,ψ,a0⟩:=Zu af.out X cj co
             cases d8
             replace ψ :=(HB.out.cell (World.block_lt_of_cell? w _ ψ)).trans ψ
             replace a0:=(HB.out.cell (World.block_lt_of_cell? w _ a0)).trans a0
             replace cj:=eq_true cj
             replace co:=eq_true co
             obtain⟨ee,en,eo,ep⟩:=qD2 O.out
             have cp:0≤(X:Int):=of_decide_eq_true (by assumption)
             have cq:X<(J.length:Int):=of_decide_eq_true (by assumption)
             obtain⟨dj,d9,a1,a4⟩:=Zu ak.out X cp cq
             cases d9
             replace a1:=(HB.out.cell (World.block_lt_of_cell? w _ a1)).trans a1
             replace a4:=(HB.out.cell (World.block_lt_of_cell? w _ a4)).trans a4
             replace cp:=eq_true cp
             replace cq:=eq_true cq
             go_wp2
             repeat(go_quiet (fail);try go_wp2)
             go_roundg k3
             case measure=>have:=cy.out;have:=ag.out;have:=dk.out;omega
             case rel=>exact⟨(wrap64 (X+1)),qR,H',⟨by have:=cy.out;have:=ag.out;have:=dk.out;omega⟩,⟨bka U⟩,⟨bka O⟩,⟨bel⟩⟩
           ·rw[if_neg ax] at H
            exact absurd H (by simp)
          ·rw[if_neg cd] at H
           exact absurd H (by simp)
         ·rw[if_neg ac] at H
          have c26b0:decide (X<(I.length:Int))=false:=decide_eq_false ac
          clear ac
          obtain rfl:=Option.some.inj H
          have dv:=Z.out
          have dw:= ε.out
          obtain⟨cz,d3,d4,d5⟩:=qD2 U.out
          go_wp2
          repeat(go_quiet (fail);try go_wp2)
          go_ret
          exact⟨by first|rfl|(simp[Qz,Qy] <;> rfl)|(simp[*,Qz,Qy] <;> rfl),bel⟩
end Go.Proofs.Ytjehhhlhalkieaa.C
namespace Go.Proofs.Ytjehhhlhalkieaa.C
open Go.RowKit Go.Proofs.YtjehhhlhalkieaaW.PrintWords Go.Proofs.YtjehhhlhalkieaaW.PrintLast Go.Proofs.YtjehhhlhalkieaaW.PrintMore
attribute [local go_sem] Z3 Z1 Xb Xa Zt Zs Z2 Z0
set_option linter.unusedVariables false
set_option linter.unusedSimpArgs false
attribute [local go_sem high] Nq
def api_Hall.l0:Nat→List (S56)→List (S56)→Int→Int→Option (Bool)
 |0,_,_,_,_=>none
 |k+1,I,D,J,B=>if B<J then (if 0≤B then (if B<(I.length:Int) then (if B<(D.length:Int) then (if (!(((Qg I B).f0)==((Qg D B).f0))||(!(((Qg I B).f1)==((Qg D B).f1))||(!(((Qg I B).f2)==((Qg D B).f2)))))=true then (some false) else (api_Hall.l0 k I D J (wrap64 (B+1)))) else (none)) else (none)) else (none)) else (some true)
def api_Hall.f (k:Nat) (l0:List (S56)) (l1:List (S56)):Option (Bool):=if (l0.length:Int)=(l1.length:Int) then (api_Hall.l0 k l0 l1 (l0.length:Int) 0) else (some false)
theorem api_Hall.Zk:∀ k,(∀ J L O D,LeO (api_Hall.l0 k J L O D) (api_Hall.l0 (k+1) J L O D))
 |0=>fun _ _ _ _ r h=>by simp[api_Hall.l0] at h
 |k+1=>by
  have B:=api_Hall.Zk k
  ·intro J L O D
   unfold api_Hall.l0
   repeat' first
   |(with_reducible exact B _ _ _ _)
   |(with_reducible exact LeO.refl _)
   |(with_reducible exact LeO.none _)
   |(with_reducible refine LeO.ite ?_ ?_)
   |(with_reducible refine LeO.bind ?_ (fun _=>?_))
   |exact B _ _ _ _
   |exact LeO.none _
   |refine LeO.ite ?_ ?_
   |refine LeO.bind ?_ (fun _=>?_)
theorem api_Hall.mono:∀ D J k,LeO (api_Hall.f k D J) (api_Hall.f (k+1) D J):=by
 intro D J k
 have B:=api_Hall.Zk k
 unfold api_Hall.f
 repeat' first
   |(with_reducible exact B _ _ _ _)
   |(with_reducible exact LeO.refl _)
   |(with_reducible exact LeO.none _)
   |(with_reducible refine LeO.ite ?_ ?_)
   |(with_reducible refine LeO.bind ?_ (fun _=>?_))
   |exact B _ _ _ _
   |exact LeO.none _
   |refine LeO.ite ?_ ?_
   |refine LeO.bind ?_ (fun _=>?_)
set_option maxHeartbeats 8000000 in
set_option maxRecDepth 100000 in
theorem api_Hall.calls (k:Nat) (Y:Option Addr) (c0:Nat) (l0:List (S56)) (A1:Option Addr) (c1:Nat) (l1:List (S56)) (r:Bool) (w:World) (ε :Kd.C k56 w Y l0.length l0) (L:l0.length≤c0) (Z:Kd.C k56 w A1 l1.length l1) (X:l1.length≤c1) (h:api_Hall.f k l0 l1=some r):
  Calls Try.prog 48 #[.slice Y l0.length c0,.slice A1 l1.length c1] w fun e w'=>e = .returned (.bool r)∧Drawn0 w w':=by
 have b2:=Try.underlying56
 have θ :=Aside0.mk ε
 have a6:=Aside0.mk L
 clear ε L
 have ζ :=Aside0.mk Z
 have φ :=Aside0.mk X
 clear Z X
 have H:(if (l0.length:Int)=(l1.length:Int) then (api_Hall.l0 k l0 l1 (l0.length:Int) 0) else (some false))=some r:=h
 clear h
 by_cases c3:(l0.length:Int)=(l1.length:Int)
 ·rw[if_pos c3] at H
  have c3b0:((l0.length:Int)==(l1.length:Int))=true:=beq_iff_eq.mpr c3
  have c3b1:((l0.length:Int) != (l1.length:Int))=false:=bne_eq_false_iff_eq.mpr c3
  have c3b2:(l0.length==l1.length)=true:=by first|simpa using c3|(simp at c3 ⊢;omega)
  clear c3
  have H':=Aside0.mk H
  clear H
  go_enter Try.func48,Try.ntmps48
  go_wp2
  repeat(go_quiet (fail);try go_wp2)
  go_loopg [13] k (fun kq ρ w'=>∃ (B:Int),ρ = .int .i64 B∧Aside0 (api_Hall.l0 kq l0 l1 (l0.length:Int) B=some r)∧Aside0 (kq≤k)∧Drawn0 w w')
  case atStart=>exact⟨(0),qR,H',⟨Nat.le_refl _⟩,by repeat(first|exact Drawn0.refl _|apply Drawn0.step)⟩
  case round=>
   clear H'
   try clear c1
   try clear p2
   try clear c3
   try clear c3b0
   try clear c3b1
   try clear c3b2
   obtain⟨B,rfl,HA,σ,⟨m1,rfl⟩⟩:=hrel
   cases gk with
   |zero=>exact absurd HA.out (by simp[api_Hall.l0])
   |succ k1=>
    have H:=HA.out
    clear HA
    simp only[api_Hall.l0] at H
    by_cases c4:B<(l0.length:Int)
    ·rw[if_pos c4] at H
     have c4b0:decide (B<(l0.length:Int))=true:=decide_eq_true c4
     clear c4
     by_cases c5:0≤B
     ·rw[if_pos c5] at H
      have c5b0:decide (0≤B)=true:=decide_eq_true c5
      clear c5
      by_cases c6:B<(l0.length:Int)
      ·rw[if_pos c6] at H
       have c6b0:decide (B<(l0.length:Int))=true:=decide_eq_true c6
       clear c6
       by_cases c7:B<(l1.length:Int)
       ·rw[if_pos c7] at H
        have c7b0:decide (B<(l1.length:Int))=true:=decide_eq_true c7
        clear c7
        by_cases c8:(!(((Qg l0 B).f0)==((Qg l1 B).f0))||(!(((Qg l0 B).f1)==((Qg l1 B).f1))||(!(((Qg l0 B).f2)==((Qg l1 B).f2)))))=true
        ·rw[if_pos c8] at H
         have c8b0:(!(((Qg l0 B).f0)==((Qg l1 B).f0))||(!(((Qg l0 B).f1)==((Qg l1 B).f1))||(!(((Qg l0 B).f2)==((Qg l1 B).f2)))))=true:=c8
         (try(have c8s0:=c8b0;simp only[beq_self_eq_true,bne_self_eq_false,Bool.not_true,Bool.not_false,Bool.true_and,Bool.and_true,Bool.false_or,Bool.or_false] at c8s0))
         clear c8
         obtain rfl:=Option.some.inj H
         have J:0≤(B:Int):=of_decide_eq_true (by first|(with_reducible assumption)|assumption)
         have δ :B<(l0.length:Int):=of_decide_eq_true (by first|(with_reducible assumption)|assumption)
         obtain⟨τ,ι,κ,μ,ν⟩:=Zw θ.out B J δ
         cases ι
         replace J:=eq_true J
         replace δ :=eq_true δ
         have O:0≤(B:Int):=of_decide_eq_true (by first|(with_reducible assumption)|assumption)
         have U:B<(l1.length:Int):=of_decide_eq_true (by first|(with_reducible assumption)|assumption)
         obtain⟨η,γ,D,I,ξ⟩:=Zw ζ.out B O U
         cases γ
         replace O:=eq_true O
         replace U:=eq_true U
         go_wp2
         repeat(go_quiet (fail);try go_wp2)
         go_ret
         exact⟨qR,by repeat(first|exact Drawn0.refl _|apply Drawn0.step)⟩
        ·rw[if_neg c8] at H
         have c8b0:(!(((Qg l0 B).f0)==((Qg l1 B).f0))||(!(((Qg l0 B).f1)==((Qg l1 B).f1))||(!(((Qg l0 B).f2)==((Qg l1 B).f2)))))=false:=by simpa using c8
         (try(have c8s0:=c8b0;simp only[beq_self_eq_true,bne_self_eq_false,Bool.not_true,Bool.not_false,Bool.true_and,Bool.and_true,Bool.false_or,Bool.or_false] at c8s0))
         clear c8
         have H':=Aside0.mk H
         clear H
         have J:0≤(B:Int):=of_decide_eq_true (by first|(with_reducible assumption)|assumption)
         have δ :B<(l0.length:Int):=of_decide_eq_true (by first|(with_reducible assumption)|assumption)
         obtain⟨τ,ι,κ,μ,ν⟩:=Zw θ.out B J δ
         cases ι
         replace J:=eq_true J
         replace δ :=eq_true δ
         have O:0≤(B:Int):=of_decide_eq_true (by first|(with_reducible assumption)|assumption)
         have U:B<(l1.length:Int):=of_decide_eq_true (by first|(with_reducible assumption)|assumption)
         obtain⟨η,γ,D,I,ξ⟩:=Zw ζ.out B O U
         cases γ
         replace O:=eq_true O
         replace U:=eq_true U
         go_wp2
         repeat(go_quiet (fail);try go_wp2)
         go_roundg k1
         case measure=>have:=σ.out;omega
         case rel=>exact⟨(wrap64 (B+1)),qR,H',⟨by have:=σ.out;omega⟩,by repeat(first|exact Drawn0.refl _|apply Drawn0.step)⟩
       ·rw[if_neg c7] at H
        exact absurd H (by simp)
      ·rw[if_neg c6] at H
       exact absurd H (by simp)
     ·rw[if_neg c5] at H
      exact absurd H (by simp)
    ·rw[if_neg c4] at H
     have c4b0:decide (B<(l0.length:Int))=false:=decide_eq_false c4
     clear c4
     obtain rfl:=Option.some.inj H
     go_wp2
     repeat(go_quiet (fail);try go_wp2)
     go_ret
     exact⟨qR,by repeat(first|exact Drawn0.refl _|apply Drawn0.step)⟩
 ·rw[if_neg c3] at H
  have c3b0:((l0.length:Int)==(l1.length:Int))=false:=beq_eq_false_iff_ne.mpr c3
  have c3b1:((l0.length:Int) != (l1.length:Int))=true:=bne_iff_ne.mpr c3
  have c3b2:(l0.length==l1.length)=false:=by first|simpa using c3|(simp at c3 ⊢;omega)
  obtain rfl:=Option.some.inj H
  go_enter Try.func48,Try.ntmps48
  go_wp2
  repeat(go_quiet (fail);try go_wp2)
  go_ret
  exact⟨qR,by repeat(first|exact Drawn0.refl _|apply Drawn0.step)⟩
end Go.Proofs.Ytjehhhlhalkieaa.C
namespace Go.Proofs.Ytjehhhlhalkieaa.C
open Go.RowKit Go.Proofs.YtjehhhlhalkieaaW.PrintWords Go.Proofs.YtjehhhlhalkieaaW.PrintLast Go.Proofs.YtjehhhlhalkieaaW.PrintMore
attribute [local go_sem] Z3 Z1 Xb Xa Zt Zs Z2 Z0
set_option linter.unusedVariables false
set_option linter.unusedSimpArgs false
attribute [local go_sem high] Np
def api_Inside.l0:Nat→List (S62)→List (S62)→Int→Int→Option (Bool)
 |0,_,_,_,_=>none
 |k+1,I,D,J,B=>if B<J then (if 0≤B then (if B<(I.length:Int) then (if B<(D.length:Int) then (if (!(((Qo I B).f0)==((Qo D B).f0))||(!(((Qo I B).f1)==((Qo D B).f1))))=true then (some false) else (api_Inside.l0 k I D J (wrap64 (B+1)))) else (none)) else (none)) else (none)) else (some true)
def api_Inside.f (k:Nat) (l0:List (S62)) (l1:List (S62)):Option (Bool):=if (l0.length:Int)=(l1.length:Int) then (api_Inside.l0 k l0 l1 (l0.length:Int) 0) else (some false)
theorem api_Inside.Zk:∀ k,(∀ J L O D,LeO (api_Inside.l0 k J L O D) (api_Inside.l0 (k+1) J L O D))
 |0=>fun _ _ _ _ r h=>by simp[api_Inside.l0] at h
 |k+1=>by
  have B:=api_Inside.Zk k
  ·intro J L O D
   unfold api_Inside.l0
   repeat' first
   |(with_reducible exact B _ _ _ _)
   |(with_reducible exact LeO.refl _)
   |(with_reducible exact LeO.none _)
   |(with_reducible refine LeO.ite ?_ ?_)
   |(with_reducible refine LeO.bind ?_ (fun _=>?_))
   |exact B _ _ _ _
   |exact LeO.none _
   |refine LeO.ite ?_ ?_
   |refine LeO.bind ?_ (fun _=>?_)
theorem api_Inside.mono:∀ D J k,LeO (api_Inside.f k D J) (api_Inside.f (k+1) D J):=by
 intro D J k
 have B:=api_Inside.Zk k
 unfold api_Inside.f
 repeat' first
   |(with_reducible exact B _ _ _ _)
   |(with_reducible exact LeO.refl _)
   |(with_reducible exact LeO.none _)
   |(with_reducible refine LeO.ite ?_ ?_)
   |(with_reducible refine LeO.bind ?_ (fun _=>?_))
   |exact B _ _ _ _
   |exact LeO.none _
   |refine LeO.ite ?_ ?_
   |refine LeO.bind ?_ (fun _=>?_)
set_option maxHeartbeats 8000000 in
set_option maxRecDepth 100000 in
theorem api_Inside.calls (k:Nat) (Y:Option Addr) (c0:Nat) (l0:List (S62)) (A1:Option Addr) (c1:Nat) (l1:List (S62)) (r:Bool) (w:World) (ε :Kd.C k62 w Y l0.length l0) (L:l0.length≤c0) (Z:Kd.C k62 w A1 l1.length l1) (X:l1.length≤c1) (h:api_Inside.f k l0 l1=some r):
  Calls Try.prog 49 #[.slice Y l0.length c0,.slice A1 l1.length c1] w fun e w'=>e = .returned (.bool r)∧Drawn0 w w':=by
 have b9:=Try.underlying62
 have θ :=Aside0.mk ε
 have a6:=Aside0.mk L
 clear ε L
 have ζ :=Aside0.mk Z
 have φ :=Aside0.mk X
 clear Z X
 have H:(if (l0.length:Int)=(l1.length:Int) then (api_Inside.l0 k l0 l1 (l0.length:Int) 0) else (some false))=some r:=h
 clear h
 by_cases c3:(l0.length:Int)=(l1.length:Int)
 ·rw[if_pos c3] at H
  have c3b0:((l0.length:Int)==(l1.length:Int))=true:=beq_iff_eq.mpr c3
  have c3b1:((l0.length:Int) != (l1.length:Int))=false:=bne_eq_false_iff_eq.mpr c3
  have c3b2:(l0.length==l1.length)=true:=by first|simpa using c3|(simp at c3 ⊢;omega)
  clear c3
  have H':=Aside0.mk H
  clear H
  go_enter Try.func49,Try.ntmps49
  go_wp2
  repeat(go_quiet (fail);try go_wp2)
  go_loopg [13] k (fun kq ρ w'=>∃ (B:Int),ρ = .int .i64 B∧Aside0 (api_Inside.l0 kq l0 l1 (l0.length:Int) B=some r)∧Aside0 (kq≤k)∧Drawn0 w w')
  case atStart=>exact⟨(0),qR,H',⟨Nat.le_refl _⟩,by repeat(first|exact Drawn0.refl _|apply Drawn0.step)⟩
  case round=>
   clear H'
   try clear c1
   try clear p2
   try clear c3
   try clear c3b0
   try clear c3b1
   try clear c3b2
   obtain⟨B,rfl,HA,σ,⟨m1,rfl⟩⟩:=hrel
   cases gk with
   |zero=>exact absurd HA.out (by simp[api_Inside.l0])
   |succ k1=>
    have H:=HA.out
    clear HA
    simp only[api_Inside.l0] at H
    by_cases c4:B<(l0.length:Int)
    ·rw[if_pos c4] at H
     have c4b0:decide (B<(l0.length:Int))=true:=decide_eq_true c4
     clear c4
     by_cases c5:0≤B
     ·rw[if_pos c5] at H
      have c5b0:decide (0≤B)=true:=decide_eq_true c5
      clear c5
      by_cases c6:B<(l0.length:Int)
      ·rw[if_pos c6] at H
       have c6b0:decide (B<(l0.length:Int))=true:=decide_eq_true c6
       clear c6
       by_cases c7:B<(l1.length:Int)
       ·rw[if_pos c7] at H
        have c7b0:decide (B<(l1.length:Int))=true:=decide_eq_true c7
        clear c7
        by_cases c8:(!(((Qo l0 B).f0)==((Qo l1 B).f0))||(!(((Qo l0 B).f1)==((Qo l1 B).f1))))=true
        ·rw[if_pos c8] at H
         have c8b0:(!(((Qo l0 B).f0)==((Qo l1 B).f0))||(!(((Qo l0 B).f1)==((Qo l1 B).f1))))=true:=c8
         (try(have c8s0:=c8b0;simp only[beq_self_eq_true,bne_self_eq_false,Bool.not_true,Bool.not_false,Bool.true_and,Bool.and_true,Bool.false_or,Bool.or_false] at c8s0))
         clear c8
         obtain rfl:=Option.some.inj H
         have D:0≤(B:Int):=of_decide_eq_true (by first|(with_reducible assumption)|assumption)
         have I:B<(l0.length:Int):=of_decide_eq_true (by first|(with_reducible assumption)|assumption)
         obtain⟨μ,U,δ,η⟩:=Zu θ.out B D I
         cases U
         replace D:=eq_true D
         replace I:=eq_true I
         have J:0≤(B:Int):=of_decide_eq_true (by first|(with_reducible assumption)|assumption)
         have O:B<(l1.length:Int):=of_decide_eq_true (by first|(with_reducible assumption)|assumption)
         obtain⟨ν,γ,ι,κ⟩:=Zu ζ.out B J O
         cases γ
         replace J:=eq_true J
         replace O:=eq_true O
         go_wp2
         repeat(go_quiet (fail);try go_wp2)
         go_ret
         exact⟨qR,by repeat(first|exact Drawn0.refl _|apply Drawn0.step)⟩
        ·rw[if_neg c8] at H
         have c8b0:(!(((Qo l0 B).f0)==((Qo l1 B).f0))||(!(((Qo l0 B).f1)==((Qo l1 B).f1))))=false:=by simpa using c8
         (try(have c8s0:=c8b0;simp only[beq_self_eq_true,bne_self_eq_false,Bool.not_true,Bool.not_false,Bool.true_and,Bool.and_true,Bool.false_or,Bool.or_false] at c8s0))
         clear c8
         have H':=Aside0.mk H
         clear H
         have D:0≤(B:Int):=of_decide_eq_true (by first|(with_reducible assumption)|assumption)
         have I:B<(l0.length:Int):=of_decide_eq_true (by first|(with_reducible assumption)|assumption)
         obtain⟨μ,U,δ,η⟩:=Zu θ.out B D I
         cases U
         replace D:=eq_true D
         replace I:=eq_true I
         have J:0≤(B:Int):=of_decide_eq_true (by first|(with_reducible assumption)|assumption)
         have O:B<(l1.length:Int):=of_decide_eq_true (by first|(with_reducible assumption)|assumption)
         obtain⟨ν,γ,ι,κ⟩:=Zu ζ.out B J O
         cases γ
         replace J:=eq_true J
         replace O:=eq_true O
         go_wp2
         repeat(go_quiet (fail);try go_wp2)
         go_roundg k1
         case measure=>have:=σ.out;omega
         case rel=>exact⟨(wrap64 (B+1)),qR,H',⟨by have:=σ.out;omega⟩,by repeat(first|exact Drawn0.refl _|apply Drawn0.step)⟩
       ·rw[if_neg c7] at H
        exact absurd H (by simp)
      ·rw[if_neg c6] at H
       exact absurd H (by simp)
     ·rw[if_neg c5] at H
      exact absurd H (by simp)
    ·rw[if_neg c4] at H
     have c4b0:decide (B<(l0.length:Int))=false:=decide_eq_false c4
     clear c4
     obtain rfl:=Option.some.inj H
     go_wp2
     repeat(go_quiet (fail);try go_wp2)
     go_ret
     exact⟨qR,by repeat(first|exact Drawn0.refl _|apply Drawn0.step)⟩
 ·rw[if_neg c3] at H
  have c3b0:((l0.length:Int)==(l1.length:Int))=false:=beq_eq_false_iff_ne.mpr c3
  have c3b1:((l0.length:Int) != (l1.length:Int))=true:=bne_iff_ne.mpr c3
  have c3b2:(l0.length==l1.length)=false:=by first|simpa using c3|(simp at c3 ⊢;omega)
  obtain rfl:=Option.some.inj H
  go_enter Try.func49,Try.ntmps49
  go_wp2
  repeat(go_quiet (fail);try go_wp2)
  go_ret
  exact⟨qR,by repeat(first|exact Drawn0.refl _|apply Drawn0.step)⟩
end Go.Proofs.Ytjehhhlhalkieaa.C
namespace Go.Proofs.Ytjehhhlhalkieaa.C
open Go.RowKit Go.Proofs.YtjehhhlhalkieaaW.PrintWords Go.Proofs.YtjehhhlhalkieaaW.PrintLast Go.Proofs.YtjehhhlhalkieaaW.PrintMore
attribute [local go_sem] Z3 Z1 Xb Xa Zt Zs Z2 Z0
set_option linter.unusedVariables false
set_option linter.unusedSimpArgs false
def call_Same.f (k:Nat) (D:List (S56)) (I:List (S62)) (B:List (S56)) (J:List (S62)):Option (Bool):=(api_Hall.f k D B).bind fun X=>(if X=true then ((api_Inside.f k I J).bind fun ah=>(some ah)) else (some false))
theorem call_Same.mono:∀ D J a2 X k,LeO (call_Same.f k D J a2 X) (call_Same.f (k+1) D J a2 X):=by
 intro D J a2 X k
 unfold call_Same.f
 repeat' first
   |(with_reducible exact api_Hall.mono _ _ _)
   |(with_reducible exact api_Inside.mono _ _ _)
   |(with_reducible exact LeO.refl _)
   |(with_reducible exact LeO.none _)
   |(with_reducible refine LeO.ite ?_ ?_)
   |(with_reducible refine LeO.bind ?_ (fun _=>?_))
   |exact api_Hall.mono _ _ _
   |exact api_Inside.mono _ _ _
   |exact LeO.none _
   |refine LeO.ite ?_ ?_
   |refine LeO.bind ?_ (fun _=>?_)
set_option maxHeartbeats 8000000 in
set_option maxRecDepth 100000 in
theorem call_Same.calls (k:Nat) (μ :Option Addr) (Y:Nat) (D:List (S56)) (ρ:Option Addr) (θ :Nat) (I:List (S62)) (ζ :Option Addr) (γ:Nat) (B:List (S56)) (η :Option Addr) (δ :Nat) (J:List (S62)) (r:Bool) (w:World) (ω :Kd.C k56 w μ D.length D) (a2:D.length≤Y) (aj:Kd.C k62 w ρ I.length I) (al:I.length ≤ θ) (bj:Kd.C k56 w ζ B.length B) (bk:B.length≤γ) (bl:Kd.C k62 w η J.length J) (bm:J.length ≤ δ) (h:call_Same.f k D I B J=some r):
  Calls Try.prog 27 #[.agg #[.slice μ D.length Y,.slice ρ I.length θ],.agg #[.slice ζ B.length γ,.slice η J.length δ]] w fun e w'=>e = .returned (.bool r)∧Below w.heap.size w w':=by
 have eh:=Try.underlying27
 have φ :=Aside0.mk ω
 have ab:=Aside0.mk a2
 clear ω a2
 have af:=Aside0.mk aj
 have cb:=Aside0.mk al
 clear aj al
 have ai:=Aside0.mk bj
 have ay:=Aside0.mk bk
 clear bj bk
 have ak:=Aside0.mk bl
 have az:=Aside0.mk bm
 clear bl bm
 have HB:=Aside0.mk (Below.refl w.heap.size w)
 have H:((api_Hall.f k D B).bind fun X=>(if X=true then ((api_Inside.f k I J).bind fun ah=>(some ah)) else (some false)))=some r:=h
 clear h
 replace H:=Option.bind_eq_some_iff.mp H
 obtain⟨X,ae,H⟩:=H
 replace H:(if X=true then ((api_Inside.f k I J).bind fun ah=>(some ah)) else (some false))=some r:=H
 have A3:=Aside0.mk ae
 clear ae
 by_cases c4:X=true
 ·subst c4
  have H1:((api_Inside.f k I J).bind fun ah=>(some ah))=some r:=by rw[if_pos rfl] at H;exact H
  clear H
  have H:=H1
  clear H1
  replace H:=Option.bind_eq_some_iff.mp H
  obtain⟨ah,bv,H⟩:=H
  replace H:(some ah)=some r:=H
  have A5:=Aside0.mk bv
  clear bv
  obtain rfl:=Option.some.inj H
  go_enter Try.func27,Try.ntmps27
  go_wp2_with (first|((with_reducible refine Qs (N:=2) rfl ?_);refine qE 2 #[.slice μ D.length Y,.slice ρ I.length θ] 27 ?_;intro ε hg w6 hbox hb;have L:=Aside0.mk hbox;have ι :=sGe hg;have κ :=sGe hg;replace HB:=sHb hb;clear hb hbox hg)|((with_reducible refine Qs (N:=3) rfl ?_);refine qE 3 #[.slice ζ B.length γ,.slice η J.length δ] 27 ?_;intro ν hg w7 hbox hb;have Z:=Aside0.mk hbox;have ξ :=sGe hg;have σ:=sGe hg;have O:=sNl L hg;have U:=sNg L hg;replace L:=sBk L hb;replace HB:=sHb hb;clear hb hbox hg;have di:=O.out;have dj:=U.out;obtain⟨bd,be,bf,bg⟩:=qD2 L.out;obtain⟨ax,ba,bb,bc⟩:=qD2 Z.out)|((with_reducible refine Q0 (f:=48) rfl ?_);refine Zl (some 9) rfl rfl Try.func48 kr rfl #[.slice μ D.length Y,.slice ζ B.length γ] rfl qM ?_;(with_reducible refine(api_Hall.calls k _ _ D _ _ B true _ ?side1 ?side2 ?side3 ?side4 A3.out).mono ?_);(case side1=>repeat(first|exact(Kd.Qx φ.out HB.out)|(with_reducible refine Kd.Q9 ?_ _)|(with_reducible refine Kd.Q8 ?_ _)|(with_reducible refine Kd.Zc ?_)));(case side2=>exact ab.out);(case side3=>repeat(first|exact(Kd.Qx ai.out HB.out)|(with_reducible refine Kd.Q9 ?_ _)|(with_reducible refine Kd.Q8 ?_ _)|(with_reducible refine Kd.Zc ?_)));(case side4=>exact ay.out);rintro e w' ⟨rfl,⟨nd,rfl⟩⟩;refine⟨_,rfl, ?_⟩)|(go_at_call 49;(with_reducible refine(api_Inside.calls k _ _ I _ _ J ah _ ?side1 ?side2 ?side3 ?side4 A5.out).mono ?_);(case side1=>repeat(first|exact(Kd.Qx af.out bel)|(with_reducible refine Kd.Q9 ?_ _)|(with_reducible refine Kd.Q8 ?_ _)|(with_reducible refine Kd.Zc ?_)));(case side2=>exact cb.out);(case side3=>repeat(first|exact(Kd.Qx ak.out bel)|(with_reducible refine Kd.Q9 ?_ _)|(with_reducible refine Kd.Q8 ?_ _)|(with_reducible refine Kd.Zc ?_)));(case side4=>exact az.out);rintro e w' ⟨rfl,⟨nd,rfl⟩⟩))
  go_ret
  exact⟨by first|rfl|(simp[Qz,Qy] <;> rfl)|(simp[*,Qz,Qy] <;> rfl),bel⟩
 ·replace c4:=Bool.eq_false_iff.mpr c4
  subst c4
  have H1:(some false)=some r:=by rw[if_neg (show ¬ (false=true) by decide)] at H;exact H
  clear H
  have H:=H1
  clear H1
  obtain rfl:=Option.some.inj H
  go_enter Try.func27,Try.ntmps27
  go_wp2_with (first|((with_reducible refine Qs (N:=2) rfl ?_);refine qE 2 #[.slice μ D.length Y,.slice ρ I.length θ] 27 ?_;intro ε hg d6 hbox hb;have L:=Aside0.mk hbox;have ι :=sGe hg;have κ :=sGe hg;replace HB:=sHb hb;clear hb hbox hg)|((with_reducible refine Qs (N:=3) rfl ?_);refine qE 3 #[.slice ζ B.length γ,.slice η J.length δ] 27 ?_;intro ν hg d5 hbox hb;have Z:=Aside0.mk hbox;have ξ :=sGe hg;have σ:=sGe hg;have O:=sNl L hg;have U:=sNg L hg;replace L:=sBk L hb;replace HB:=sHb hb;clear hb hbox hg;have d3:=O.out;have d4:=U.out;obtain⟨am,an,ao,ap⟩:=qD2 L.out;obtain⟨b3,b4,bu,bz⟩:=qD2 Z.out)|((with_reducible refine Q0 (f:=48) rfl ?_);refine Zl (some 9) rfl rfl Try.func48 kr rfl #[.slice μ D.length Y,.slice ζ B.length γ] rfl qM ?_;(with_reducible refine(api_Hall.calls k _ _ D _ _ B false _ ?side1 ?side2 ?side3 ?side4 A3.out).mono ?_);(case side1=>exact(Kd.Qx φ.out HB.out));(case side2=>exact ab.out);(case side3=>exact(Kd.Qx ai.out HB.out));(case side4=>exact ay.out);rintro e w' ⟨rfl,⟨nd,rfl⟩⟩;refine⟨_,rfl, ?_⟩))
  go_ret
  exact⟨by first|rfl|(simp[Qz,Qy] <;> rfl)|(simp[*,Qz,Qy] <;> rfl),bel⟩
def newelref19_Hall.j0:Nat→Bool→Int→Int→Int→Int→Int→Option (Bool)
 |0,_,_,_,_,_,_=>none
 |k+1,O,D,J,B,I,L=>if O=true then (some false) else (if I=1 then (if B≥0 then (some (decide (B≤(wrap64 (D-2))))) else (some false)) else (if I=(-1) then (if B≥1 then (some (decide (B≤(wrap64 (D-1))))) else (some false)) else (some false)))
def newelref19_Hall.f (k:Nat) (D:Int) (I:Int) (J:Int) (O:Int) (X:Int):Option (Bool):=if X<(-1) then (newelref19_Hall.j0 k true D I J O X) else (newelref19_Hall.j0 k (decide (X≥I)) D I J O X)
theorem newelref19_Hall.Zk:∀ k,(∀ J L O D U X,LeO (newelref19_Hall.j0 k J L O D U X) (newelref19_Hall.j0 (k+1) J L O D U X))
 |0=>fun _ _ _ _ _ _ r h=>by simp[newelref19_Hall.j0] at h
 |k+1=>by
  have B:=newelref19_Hall.Zk k
  ·intro J L O D U X
   unfold newelref19_Hall.j0
   repeat' first
   |(with_reducible exact B _ _ _ _ _ _)
   |(with_reducible exact LeO.refl _)
   |(with_reducible exact LeO.none _)
   |(with_reducible refine LeO.ite ?_ ?_)
   |(with_reducible refine LeO.bind ?_ (fun _=>?_))
   |exact B _ _ _ _ _ _
   |exact LeO.none _
   |refine LeO.ite ?_ ?_
   |refine LeO.bind ?_ (fun _=>?_)
theorem newelref19_Hall.mono:∀ D J a2 X L k,LeO (newelref19_Hall.f k D J a2 X L) (newelref19_Hall.f (k+1) D J a2 X L):=by
 intro D J a2 X L k
 have B:=newelref19_Hall.Zk k
 unfold newelref19_Hall.f
 repeat' first
   |(with_reducible exact B _ _ _ _ _ _)
   |(with_reducible exact LeO.refl _)
   |(with_reducible exact LeO.none _)
   |(with_reducible refine LeO.ite ?_ ?_)
   |(with_reducible refine LeO.bind ?_ (fun _=>?_))
   |exact B _ _ _ _ _ _
   |exact LeO.none _
   |refine LeO.ite ?_ ?_
   |refine LeO.bind ?_ (fun _=>?_)
set_option maxHeartbeats 8000000 in
set_option maxRecDepth 100000 in
theorem newelref19_Hall.calls (k:Nat) (D:Int) (I:Int) (J:Int) (O:Int) (X:Int) (r:Bool) (w:World) (h:newelref19_Hall.f k D I J O X=some r):
  Calls Try.prog 25 #[.agg #[.int .i64 D,.int .i64 I],.agg #[.int .i64 J,.int .i64 O,.int .i64 X]] w fun e w'=>e = .returned (.bool r)∧Below w.heap.size w w':=by
 have et:=Try.underlying23
 have b2:=Try.underlying56
 have HB:=Aside0.mk (Below.refl w.heap.size w)
 have H:(if X<(-1) then (newelref19_Hall.j0 k true D I J O X) else (newelref19_Hall.j0 k (decide (X≥I)) D I J O X))=some r:=h
 clear h
 have a6:=Aside0.mk H
 clear H
 go_enter Try.func25,Try.ntmps25
 go_upto_region 1 with(first|((with_reducible refine Qs (N:=2) rfl ?_);refine qE 2 #[.int .i64 D,.int .i64 I] 23 ?_;intro γ hg w4 hbox hb;have U:=Aside0.mk hbox;have κ :=sGe hg;have μ :=sGe hg;replace HB:=sHb hb;clear hb hbox hg)|((with_reducible refine Qs (N:=3) rfl ?_);refine qE 3 #[.int .i64 J,.int .i64 O,.int .i64 X] 56 ?_;intro δ hg w5 hbox hb;have Y:=Aside0.mk hbox;have ν :=sGe hg;have ξ :=sGe hg;have B:=sNl U hg;have L:=sNg U hg;replace U:=sBk U hb;replace HB:=sHb hb;clear hb hbox hg))
 (try simp only[Act.put,qS])
 go_cut [14] (fun ι wc=>∃ (kq:Nat) (Z:Bool),ι = .bool Z∧Aside0 (newelref19_Hall.j0 kq Z D I J O X=some r)∧Aside0 (kq≤k)∧Aside0 (wc.heap[γ]?=some (.cells #[.int .i64 D,.int .i64 I] 23 (0,0)))∧Aside0 (wc.heap[δ]?=some (.cells #[.int .i64 J,.int .i64 O,.int .i64 X] 56 (0,0)))∧Aside0 (Below w.heap.size w wc))
 case first=>
  have H:=a6.out
  clear a6
  by_cases c6:X<(-1)
  ·rw[if_pos c6] at H
   have c6b0:decide (X<(-1))=true:=decide_eq_true c6
   clear c6
   (first|rw[c6b0]|(simp only[Xm,Ya];rw[c6b0])|skip)
   have H':=Aside0.mk H
   clear H
   have e5:=L.out
   have e6:=B.out
   obtain⟨ar,au,bd,av,aw,be⟩:=qD3 Y.out
   go_wp2
   go_meet
   case rel=>exact⟨_,(true),rfl,H',⟨by first|omega|exact Nat.le_refl _⟩,U,Y,HB⟩
  ·rw[if_neg c6] at H
   have c6b0:decide (X<(-1))=false:=decide_eq_false c6
   clear c6
   (first|rw[c6b0]|(simp only[Xm,Ya];rw[c6b0])|skip)
   have H':=Aside0.mk H
   clear H
   have g9:=L.out
   have ge:=B.out
   obtain⟨ax,ba,ay,bb,bc,az⟩:=qD3 Y.out
   obtain⟨b0,b1,b3,b4⟩:=qD2 U.out
   go_wp2
   go_meet
   case rel=>exact⟨_,(decide (X≥I)),rfl,H',⟨by first|omega|exact Nat.le_refl _⟩,U,Y,HB⟩
 case rest=>
  clear a6
  try clear c2
  try clear p2
  try clear c6
  try clear c6b0
  try clear c7
  try clear c9
  try clear ax
  try clear ba
  try clear ay
  try clear b0
  try clear b1
  try clear ar
  try clear au
  try clear bd
  try clear bb
  try clear bc
  try clear az
  try clear b3
  try clear b4
  try clear av
  try clear aw
  try clear be
  obtain⟨kq,Z,rfl,HA,cy,U,Y,HB⟩:=hcut
  cases kq with
  |zero=>exact absurd HA.out (by simp[newelref19_Hall.j0])
  |succ d6=>
   have H:=HA.out
   clear HA
   simp only[newelref19_Hall.j0] at H
   by_cases cj:Z=true
   ·subst cj
    have H1:(some false)=some r:=by rw[if_pos rfl] at H;exact H
    clear H
    have H:=H1
    clear H1
    obtain rfl:=Option.some.inj H
    go_wp2
    go_ret
    exact⟨rfl,HB.out⟩
   ·replace cj:=Bool.eq_false_iff.mpr cj
    subst cj
    have H1:(if O=1 then (if J≥0 then (some (decide (J≤(wrap64 (D-2))))) else (some false)) else (if O=(-1) then (if J≥1 then (some (decide (J≤(wrap64 (D-1))))) else (some false)) else (some false)))=some r:=by rw[if_neg (show ¬ (false=true) by decide)] at H;exact H
    clear H
    have H:=H1
    clear H1
    by_cases br:O=1
    ·rw[if_pos br] at H
     have c13b0:(O==1)=true:=beq_iff_eq.mpr br
     have c13b1:(O != 1)=false:=bne_eq_false_iff_eq.mpr br
     clear br
     by_cases a3:J≥0
     ·rw[if_pos a3] at H
      have c14b0:decide (0≤J)=true:=decide_eq_true a3
      clear a3
      obtain rfl:=Option.some.inj H
      have fo:=L.out
      have fp:=B.out
      obtain⟨fy,g0,b9,g2,gb,bf⟩:=qD3 Y.out
      obtain⟨co,cp,cq,cr⟩:=qD2 U.out
      go_wp2
      go_ret
      exact⟨rfl,HB.out⟩
     ·rw[if_neg a3] at H
      have c14b0:decide (0≤J)=false:=decide_eq_false a3
      clear a3
      obtain rfl:=Option.some.inj H
      have ct:=L.out
      have cu:=B.out
      obtain⟨b5,b6,cv,b7,b8,cx⟩:=qD3 Y.out
      go_wp2
      go_ret
      exact⟨rfl,HB.out⟩
    ·rw[if_neg br] at H
     have c13b0:(O==1)=false:=beq_eq_false_iff_ne.mpr br
     have c13b1:(O != 1)=true:=bne_iff_ne.mpr br
     by_cases dr:O=(-1)
     ·rw[if_pos dr] at H
      have c20b0:(O==(-1))=true:=beq_iff_eq.mpr dr
      have c20b1:(O != (-1))=false:=bne_eq_false_iff_eq.mpr dr
      clear dr
      by_cases fj:J≥1
      ·rw[if_pos fj] at H
       have c21b0:decide (1≤J)=true:=decide_eq_true fj
       clear fj
       obtain rfl:=Option.some.inj H
       have dx:=L.out
       have dy:=B.out
       obtain⟨ce,cf,dj,cg,ch,dk⟩:=qD3 Y.out
       obtain⟨ci,ck,cm,cn⟩:=qD2 U.out
       go_wp2
       go_ret
       exact⟨rfl,HB.out⟩
      ·rw[if_neg fj] at H
       have c21b0:decide (1≤J)=false:=decide_eq_false fj
       clear fj
       obtain rfl:=Option.some.inj H
       have e9:=L.out
       have ea:=B.out
       obtain⟨d3,d4,ε,d5,d7,ζ⟩:=qD3 Y.out
       go_wp2
       go_ret
       exact⟨rfl,HB.out⟩
     ·rw[if_neg dr] at H
      have c20b0:(O==(-1))=false:=beq_eq_false_iff_ne.mpr dr
      have c20b1:(O != (-1))=true:=bne_iff_ne.mpr dr
      obtain rfl:=Option.some.inj H
      have ρ:=L.out
      have σ:=B.out
      obtain⟨fa,fb,η,fe,ff,θ⟩:=qD3 Y.out
      go_wp2
      go_ret
      exact⟨rfl,HB.out⟩
def newelref19_House.f (D:Int) (I:Int):Option (Bool):=if D≥2 then (if D≤64 then (if I≥1 then (some (decide (I≤8))) else (some false)) else (some false)) else (some false)
set_option maxHeartbeats 8000000 in
set_option maxRecDepth 100000 in
theorem newelref19_House.calls (D:Int) (I:Int) (r:Bool) (w:World) (h:newelref19_House.f D I=some r):
  Calls Try.prog 37 #[.agg #[.int .i64 D,.int .i64 I]] w fun e w'=>e = .returned (.bool r)∧Below w.heap.size w w':=by
 have et:=Try.underlying23
 have HB:=Aside0.mk (Below.refl w.heap.size w)
 have H:(if D≥2 then (if D≤64 then (if I≥1 then (some (decide (I≤8))) else (some false)) else (some false)) else (some false))=some r:=h
 clear h
 by_cases c2:D≥2
 ·rw[if_pos c2] at H
  have c2b0:decide (2≤D)=true:=decide_eq_true c2
  clear c2
  by_cases c3:D≤64
  ·rw[if_pos c3] at H
   have c3b0:decide (D≤64)=true:=decide_eq_true c3
   clear c3
   by_cases c4:I≥1
   ·rw[if_pos c4] at H
    have c4b0:decide (1≤I)=true:=decide_eq_true c4
    clear c4
    obtain rfl:=Option.some.inj H
    go_enter Try.func37,Try.ntmps37
    go_wp2_with (first|((with_reducible refine Qs (N:=1) rfl ?_);refine Zb ?hg (N:=1) ?hd (cs:=#[.int .i64 D,.int .i64 I]) (t:=23) ?hr ?_;(case hd=>rfl);(case hg=>rfl);(case hr=>first|(go_simp;done)|(go_simp;rfl));intro B hg w5 hbox hb;have Z:=Aside0.mk (Qv (by repeat(first|(with_reducible first|exact HB.out|apply Qh|apply Qc|apply Qf)|exact HB.out)) hb);have ε :=Aside0.mk (hbox);have ι :=Aside0.mk ((by rw[hg];exact(Ql (by repeat(first|(with_reducible first|exact HB.out|apply Qh|apply Qc|apply Qf)|exact HB.out))):w.heap.size≤B));have κ :=Aside0.mk ((by rw[hg];exact(Ql (by repeat(first|(with_reducible first|exact HB.out|apply Qh|apply Qc|apply Qf)|exact HB.out))):w.heap.size≤B));clear HB;have HB:=Z;have J:= ε;have O:= ι;have L:= κ;clear Z ε ι κ;clear hb hbox hg;obtain⟨U,X,γ,δ⟩:=qD2 J.out))
    go_ret
    exact⟨by first|rfl|(simp[Qz,Qy] <;> rfl)|(simp[*,Qz,Qy] <;> rfl),by repeat(first|(with_reducible first|exact HB.out|apply Qh|apply Qc|apply Qf|refine Qd ?_ L.out)|exact HB.out)⟩
   ·rw[if_neg c4] at H
    have c4b0:decide (1≤I)=false:=decide_eq_false c4
    clear c4
    obtain rfl:=Option.some.inj H
    go_enter Try.func37,Try.ntmps37
    go_wp2_with (first|((with_reducible refine Qs (N:=1) rfl ?_);refine Zb ?hg (N:=1) ?hd (cs:=#[.int .i64 D,.int .i64 I]) (t:=23) ?hr ?_;(case hd=>rfl);(case hg=>rfl);(case hr=>first|(go_simp;done)|(go_simp;rfl));intro B hg w7 hbox hb;have Z:=Aside0.mk (Qv (by repeat(first|(with_reducible first|exact HB.out|apply Qh|apply Qc|apply Qf)|exact HB.out)) hb);have ε :=Aside0.mk (hbox);have ι :=Aside0.mk ((by rw[hg];exact(Ql (by repeat(first|(with_reducible first|exact HB.out|apply Qh|apply Qc|apply Qf)|exact HB.out))):w.heap.size≤B));have κ :=Aside0.mk ((by rw[hg];exact(Ql (by repeat(first|(with_reducible first|exact HB.out|apply Qh|apply Qc|apply Qf)|exact HB.out))):w.heap.size≤B));clear HB;have HB:=Z;have J:= ε;have O:= ι;have L:= κ;clear Z ε ι κ;clear hb hbox hg;obtain⟨ar,au,av,aw⟩:=qD2 J.out))
    go_ret
    exact⟨by first|rfl|(simp[Qz,Qy] <;> rfl)|(simp[*,Qz,Qy] <;> rfl),by repeat(first|(with_reducible first|exact HB.out|apply Qh|apply Qc|apply Qf|refine Qd ?_ L.out)|exact HB.out)⟩
  ·rw[if_neg c3] at H
   have c3b0:decide (D≤64)=false:=decide_eq_false c3
   clear c3
   obtain rfl:=Option.some.inj H
   go_enter Try.func37,Try.ntmps37
   go_wp2_with (first|((with_reducible refine Qs (N:=1) rfl ?_);refine Zb ?hg (N:=1) ?hd (cs:=#[.int .i64 D,.int .i64 I]) (t:=23) ?hr ?_;(case hd=>rfl);(case hg=>rfl);(case hr=>first|(go_simp;done)|(go_simp;rfl));intro B hg w9 hbox hb;have Z:=Aside0.mk (Qv (by repeat(first|(with_reducible first|exact HB.out|apply Qh|apply Qc|apply Qf)|exact HB.out)) hb);have ε :=Aside0.mk (hbox);have ι :=Aside0.mk ((by rw[hg];exact(Ql (by repeat(first|(with_reducible first|exact HB.out|apply Qh|apply Qc|apply Qf)|exact HB.out))):w.heap.size≤B));have κ :=Aside0.mk ((by rw[hg];exact(Ql (by repeat(first|(with_reducible first|exact HB.out|apply Qh|apply Qc|apply Qf)|exact HB.out))):w.heap.size≤B));clear HB;have HB:=Z;have J:= ε;have O:= ι;have L:= κ;clear Z ε ι κ;clear hb hbox hg;obtain⟨ax,ba,bb,bc⟩:=qD2 J.out))
   go_ret
   exact⟨by first|rfl|(simp[Qz,Qy] <;> rfl)|(simp[*,Qz,Qy] <;> rfl),by repeat(first|(with_reducible first|exact HB.out|apply Qh|apply Qc|apply Qf|refine Qd ?_ L.out)|exact HB.out)⟩
 ·rw[if_neg c2] at H
  have c2b0:decide (2≤D)=false:=decide_eq_false c2
  clear c2
  obtain rfl:=Option.some.inj H
  go_enter Try.func37,Try.ntmps37
  go_wp2_with (first|((with_reducible refine Qs (N:=1) rfl ?_);refine Zb ?hg (N:=1) ?hd (cs:=#[.int .i64 D,.int .i64 I]) (t:=23) ?hr ?_;(case hd=>rfl);(case hg=>rfl);(case hr=>first|(go_simp;done)|(go_simp;rfl));intro B hg d6 hbox hb;have Z:=Aside0.mk (Qv (by repeat(first|(with_reducible first|exact HB.out|apply Qh|apply Qc|apply Qf)|exact HB.out)) hb);have ε :=Aside0.mk (hbox);have ι :=Aside0.mk ((by rw[hg];exact(Ql (by repeat(first|(with_reducible first|exact HB.out|apply Qh|apply Qc|apply Qf)|exact HB.out))):w.heap.size≤B));have κ :=Aside0.mk ((by rw[hg];exact(Ql (by repeat(first|(with_reducible first|exact HB.out|apply Qh|apply Qc|apply Qf)|exact HB.out))):w.heap.size≤B));clear HB;have HB:=Z;have J:= ε;have O:= ι;have L:= κ;clear Z ε ι κ;clear hb hbox hg;obtain⟨am,an,ao,ap⟩:=qD2 J.out))
  go_ret
  exact⟨by first|rfl|(simp[Qz,Qy] <;> rfl)|(simp[*,Qz,Qy] <;> rfl),by repeat(first|(with_reducible first|exact HB.out|apply Qh|apply Qc|apply Qf|refine Qd ?_ L.out)|exact HB.out)⟩
def newelref19_ahead.f (D:Int) (I:Int) (B:Int) (J:Int) (O:Int) (X:Int):Option (Bool):=if D<J then (some true) else (if D=J then (some (decide (I<O))) else (some false))
set_option maxHeartbeats 8000000 in
set_option maxRecDepth 100000 in
theorem newelref19_ahead.calls (D:Int) (I:Int) (B:Int) (J:Int) (O:Int) (X:Int) (r:Bool) (w:World) (h:newelref19_ahead.f D I B J O X=some r):
  Calls Try.prog 38 #[.agg #[.int .i64 D,.int .i64 I,.int .i64 B],.agg #[.int .i64 J,.int .i64 O,.int .i64 X]] w fun e w'=>e = .returned (.bool r)∧Below w.heap.size w w':=by
 have b2:=Try.underlying56
 have HB:=Aside0.mk (Below.refl w.heap.size w)
 have H:(if D<J then (some true) else (if D=J then (some (decide (I<O))) else (some false)))=some r:=h
 clear h
 by_cases c3:D<J
 ·rw[if_pos c3] at H
  have c3b0:decide (D<J)=true:=decide_eq_true c3
  clear c3
  obtain rfl:=Option.some.inj H
  go_enter Try.func38,Try.ntmps38
  go_wp2_with (first|((with_reducible refine Qs (N:=2) rfl ?_);refine Zb ?hg (N:=2) ?hd (cs:=#[.int .i64 D,.int .i64 I,.int .i64 B]) (t:=56) ?hr ?_;(case hd=>rfl);(case hg=>rfl);(case hr=>first|(go_simp;done)|(go_simp;rfl));intro L hg w4 hbox hb;have Z:=Aside0.mk (Qv (by repeat(first|(with_reducible first|exact HB.out|apply Qh|apply Qc|apply Qf)|exact HB.out)) hb);have ε :=Aside0.mk (hbox);have ι :=Aside0.mk ((by rw[hg];exact(Ql (by repeat(first|(with_reducible first|exact HB.out|apply Qh|apply Qc|apply Qf)|exact HB.out))):w.heap.size≤L));have κ :=Aside0.mk ((by rw[hg];exact(Ql (by repeat(first|(with_reducible first|exact HB.out|apply Qh|apply Qc|apply Qf)|exact HB.out))):w.heap.size≤L));clear HB;have HB:=Z;have U:= ε;have μ := ι;have Y:= κ;clear Z ε ι κ;clear hb hbox hg)|((with_reducible refine Qs (N:=3) rfl ?_);refine Zb ?hg (N:=3) ?hd (cs:=#[.int .i64 J,.int .i64 O,.int .i64 X]) (t:=56) ?hr ?_;(case hd=>rfl);(case hg=>rfl);(case hr=>first|(go_simp;done)|(go_simp;rfl));intro γ hg w5 hbox hb;have Z:=Aside0.mk (Qn (g:=L) (o:=.cells #[.int .i64 D,.int .i64 I,.int .i64 B] 56 (0,0)) (by(with_reducible repeat first|apply Qe|apply Qa|apply Qb);exact U.out) hb);have ε :=Aside0.mk (Qv (by repeat(first|(with_reducible first|exact HB.out|apply Qh|apply Qc|apply Qf|refine Qd ?_ Y.out)|exact HB.out)) hb);have ι :=Aside0.mk (hbox);have κ :=Aside0.mk ((by rw[hg];exact(Ql (by repeat(first|(with_reducible first|exact HB.out|apply Qh|apply Qc|apply Qf|refine Qd ?_ Y.out)|exact HB.out))):w.heap.size≤γ));have χ :=Aside0.mk ((by rw[hg];exact(Ql (by repeat(first|(with_reducible first|exact HB.out|apply Qh|apply Qc|apply Qf|refine Qd ?_ Y.out)|exact HB.out))):w.heap.size≤γ));have ω :=Aside0.mk ((by rw[hg];exact Nat.ne_of_lt (Q5 (g:=L) (o:=.cells #[.int .i64 D,.int .i64 I,.int .i64 B] 56 (0,0)) (by(with_reducible repeat first|apply Qe|apply Qa|apply Qb);exact U.out)):L≠γ));have a1:=Aside0.mk ((by rw[hg];exact Nat.ne_of_gt (Q5 (g:=L) (o:=.cells #[.int .i64 D,.int .i64 I,.int .i64 B] 56 (0,0)) (by(with_reducible repeat first|apply Qe|apply Qa|apply Qb);exact U.out)):γ≠L));clear U;clear HB;have U:=Z;have HB:= ε;have η := ι;have ν := κ;have θ := χ;have δ := ω;have ζ :=a1;clear Z ε ι κ χ ω a1;clear hb hbox hg;have gx:= δ.out;have hy:= ζ.out;obtain⟨ξ,ρ,a0,σ,τ,a2⟩:=qD3 U.out;obtain⟨ar,au,bd,av,aw,be⟩:=qD3 η.out))
  go_ret
  exact⟨by first|rfl|(simp[Qz,Qy] <;> rfl)|(simp[*,Qz,Qy] <;> rfl),by repeat(first|(with_reducible first|exact HB.out|apply Qh|apply Qc|apply Qf|refine Qd ?_ Y.out|refine Qd ?_ θ.out)|exact HB.out)⟩
 ·rw[if_neg c3] at H
  have c3b0:decide (D<J)=false:=decide_eq_false c3
  clear c3
  by_cases c9:D=J
  ·rw[if_pos c9] at H
   have c9b0:(D==J)=true:=beq_iff_eq.mpr c9
   have c9b1:(D != J)=false:=bne_eq_false_iff_eq.mpr c9
   clear c9
   obtain rfl:=Option.some.inj H
   go_enter Try.func38,Try.ntmps38
   go_wp2_with (first|((with_reducible refine Qs (N:=2) rfl ?_);refine Zb ?hg (N:=2) ?hd (cs:=#[.int .i64 D,.int .i64 I,.int .i64 B]) (t:=56) ?hr ?_;(case hd=>rfl);(case hg=>rfl);(case hr=>first|(go_simp;done)|(go_simp;rfl));intro L hg e4 hbox hb;have Z:=Aside0.mk (Qv (by repeat(first|(with_reducible first|exact HB.out|apply Qh|apply Qc|apply Qf)|exact HB.out)) hb);have ε :=Aside0.mk (hbox);have ι :=Aside0.mk ((by rw[hg];exact(Ql (by repeat(first|(with_reducible first|exact HB.out|apply Qh|apply Qc|apply Qf)|exact HB.out))):w.heap.size≤L));have κ :=Aside0.mk ((by rw[hg];exact(Ql (by repeat(first|(with_reducible first|exact HB.out|apply Qh|apply Qc|apply Qf)|exact HB.out))):w.heap.size≤L));clear HB;have HB:=Z;have U:= ε;have μ := ι;have Y:= κ;clear Z ε ι κ;clear hb hbox hg)|((with_reducible refine Qs (N:=3) rfl ?_);refine Zb ?hg (N:=3) ?hd (cs:=#[.int .i64 J,.int .i64 O,.int .i64 X]) (t:=56) ?hr ?_;(case hd=>rfl);(case hg=>rfl);(case hr=>first|(go_simp;done)|(go_simp;rfl));intro γ hg d6 hbox hb;have Z:=Aside0.mk (Qn (g:=L) (o:=.cells #[.int .i64 D,.int .i64 I,.int .i64 B] 56 (0,0)) (by(with_reducible repeat first|apply Qe|apply Qa|apply Qb);exact U.out) hb);have ε :=Aside0.mk (Qv (by repeat(first|(with_reducible first|exact HB.out|apply Qh|apply Qc|apply Qf|refine Qd ?_ Y.out)|exact HB.out)) hb);have ι :=Aside0.mk (hbox);have κ :=Aside0.mk ((by rw[hg];exact(Ql (by repeat(first|(with_reducible first|exact HB.out|apply Qh|apply Qc|apply Qf|refine Qd ?_ Y.out)|exact HB.out))):w.heap.size≤γ));have χ :=Aside0.mk ((by rw[hg];exact(Ql (by repeat(first|(with_reducible first|exact HB.out|apply Qh|apply Qc|apply Qf|refine Qd ?_ Y.out)|exact HB.out))):w.heap.size≤γ));have ω :=Aside0.mk ((by rw[hg];exact Nat.ne_of_lt (Q5 (g:=L) (o:=.cells #[.int .i64 D,.int .i64 I,.int .i64 B] 56 (0,0)) (by(with_reducible repeat first|apply Qe|apply Qa|apply Qb);exact U.out)):L≠γ));have a1:=Aside0.mk ((by rw[hg];exact Nat.ne_of_gt (Q5 (g:=L) (o:=.cells #[.int .i64 D,.int .i64 I,.int .i64 B] 56 (0,0)) (by(with_reducible repeat first|apply Qe|apply Qa|apply Qb);exact U.out)):γ≠L));clear U;clear HB;have U:=Z;have HB:= ε;have η := ι;have ν := κ;have θ := χ;have δ := ω;have ζ :=a1;clear Z ε ι κ χ ω a1;clear hb hbox hg;have eb:= δ.out;have eu:= ζ.out;obtain⟨d2,d3,φ,d4,d5,ψ⟩:=qD3 U.out;obtain⟨am,an,d7,ao,ap,d8⟩:=qD3 η.out))
   go_ret
   exact⟨by first|rfl|(simp[Qz,Qy] <;> rfl)|(simp[*,Qz,Qy] <;> rfl),by repeat(first|(with_reducible first|exact HB.out|apply Qh|apply Qc|apply Qf|refine Qd ?_ Y.out|refine Qd ?_ θ.out)|exact HB.out)⟩
  ·rw[if_neg c9] at H
   have c9b0:(D==J)=false:=beq_eq_false_iff_ne.mpr c9
   have c9b1:(D != J)=true:=bne_iff_ne.mpr c9
   obtain rfl:=Option.some.inj H
   go_enter Try.func38,Try.ntmps38
   go_wp2_with (first|((with_reducible refine Qs (N:=2) rfl ?_);refine Zb ?hg (N:=2) ?hd (cs:=#[.int .i64 D,.int .i64 I,.int .i64 B]) (t:=56) ?hr ?_;(case hd=>rfl);(case hg=>rfl);(case hr=>first|(go_simp;done)|(go_simp;rfl));intro L hg jc hbox hb;have Z:=Aside0.mk (Qv (by repeat(first|(with_reducible first|exact HB.out|apply Qh|apply Qc|apply Qf)|exact HB.out)) hb);have ε :=Aside0.mk (hbox);have ι :=Aside0.mk ((by rw[hg];exact(Ql (by repeat(first|(with_reducible first|exact HB.out|apply Qh|apply Qc|apply Qf)|exact HB.out))):w.heap.size≤L));have κ :=Aside0.mk ((by rw[hg];exact(Ql (by repeat(first|(with_reducible first|exact HB.out|apply Qh|apply Qc|apply Qf)|exact HB.out))):w.heap.size≤L));clear HB;have HB:=Z;have U:= ε;have μ := ι;have Y:= κ;clear Z ε ι κ;clear hb hbox hg)|((with_reducible refine Qs (N:=3) rfl ?_);refine Zb ?hg (N:=3) ?hd (cs:=#[.int .i64 J,.int .i64 O,.int .i64 X]) (t:=56) ?hr ?_;(case hd=>rfl);(case hg=>rfl);(case hr=>first|(go_simp;done)|(go_simp;rfl));intro γ hg b1 hbox hb;have Z:=Aside0.mk (Qn (g:=L) (o:=.cells #[.int .i64 D,.int .i64 I,.int .i64 B] 56 (0,0)) (by(with_reducible repeat first|apply Qe|apply Qa|apply Qb);exact U.out) hb);have ε :=Aside0.mk (Qv (by repeat(first|(with_reducible first|exact HB.out|apply Qh|apply Qc|apply Qf|refine Qd ?_ Y.out)|exact HB.out)) hb);have ι :=Aside0.mk (hbox);have κ :=Aside0.mk ((by rw[hg];exact(Ql (by repeat(first|(with_reducible first|exact HB.out|apply Qh|apply Qc|apply Qf|refine Qd ?_ Y.out)|exact HB.out))):w.heap.size≤γ));have χ :=Aside0.mk ((by rw[hg];exact(Ql (by repeat(first|(with_reducible first|exact HB.out|apply Qh|apply Qc|apply Qf|refine Qd ?_ Y.out)|exact HB.out))):w.heap.size≤γ));have ω :=Aside0.mk ((by rw[hg];exact Nat.ne_of_lt (Q5 (g:=L) (o:=.cells #[.int .i64 D,.int .i64 I,.int .i64 B] 56 (0,0)) (by(with_reducible repeat first|apply Qe|apply Qa|apply Qb);exact U.out)):L≠γ));have a1:=Aside0.mk ((by rw[hg];exact Nat.ne_of_gt (Q5 (g:=L) (o:=.cells #[.int .i64 D,.int .i64 I,.int .i64 B] 56 (0,0)) (by(with_reducible repeat first|apply Qe|apply Qa|apply Qb);exact U.out)):γ≠L));clear U;clear HB;have U:=Z;have HB:= ε;have η := ι;have ν := κ;have θ := χ;have δ := ω;have ζ :=a1;clear Z ε ι κ χ ω a1;clear hb hbox hg;have gq:= δ.out;have gr:= ζ.out;obtain⟨ej,ek,ck,el,em,cn⟩:=qD3 U.out;obtain⟨b5,b6,cv,b7,b8,cx⟩:=qD3 η.out))
   go_ret
   exact⟨by first|rfl|(simp[Qz,Qy] <;> rfl)|(simp[*,Qz,Qy] <;> rfl),by repeat(first|(with_reducible first|exact HB.out|apply Qh|apply Qc|apply Qf|refine Qd ?_ Y.out|refine Qd ?_ θ.out)|exact HB.out)⟩
end Go.Proofs.Ytjehhhlhalkieaa.C
