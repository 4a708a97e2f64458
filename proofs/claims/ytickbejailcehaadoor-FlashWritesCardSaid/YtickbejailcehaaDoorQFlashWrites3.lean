/- Texts of this claim, one behind the other: what the law's functions come to, walked (printed by a program, with the words that the print uses), and what that is, in plain Lean. No conditions of their own. -/
import Derived.Test.YtickbejailcehaaDoorQFlashWrites2
namespace Go.Proofs.YtickbejailcehaaDoor.C
open Go.RowKit Go.Proofs.YtickbejailcehaaDoorW.PrintWords Go.Proofs.YtickbejailcehaaDoorW.PrintLast Go.Proofs.YtickbejailcehaaDoorW.PrintMore
attribute [local go_sem] Xm Xk X0 Xz Xc Xb Xl Xj
set_option linter.unusedVariables false
set_option linter.unusedSimpArgs false
mutual
def newelref08_GetRow.j0:Nat→List Int→Bool→Int→Int→Int→Option (List Int×Int×Int)
 |0,_,_,_,_,_=>none
 |k+1,O,η,D,I,J=>if η = true then (some (([]:List Int),0,83)) else (newelref08_GetRow.l0 k O I ([]:List Int) 0 D I J)
def newelref08_GetRow.l0:Nat→List Int→Int→List Int→Int→Int→Int→Int→Option (List Int×Int×Int)
 |0,_,_,_,_,_,_,_=>none
 |k+1,O,U,X,B,D,I,J=>if B<D then ((newelref08_Get.f k O U).bind fun Y=>(if Y.2.2=0 then (if X.length<17592186044416 then (newelref08_GetRow.l0 k O Y.2.1 (X ++ [Y.1]) (wrap64 (B+1)) D I J) else (none)) else (some (([]:List Int),0,Y.2.2)))) else (some (X,U,0))
end
def newelref08_GetRow.f (k:Nat) (l0:List Int) (B:Int) (a2:Int):Option (List Int×Int×Int):=(newelref08_Get.f k l0 B).bind fun σ=>(if σ.2.2=0 then (if σ.1<0 then (newelref08_GetRow.j0 k l0 true σ.1 σ.2.1 σ.2.2) else (newelref08_GetRow.j0 k l0 (decide (σ.1>a2)) σ.1 σ.2.1 σ.2.2)) else (some (([]:List Int),0,σ.2.2)))
theorem newelref08_GetRow.Zl:∀ k,(∀ B I J U Y,LeO (newelref08_GetRow.j0 k B I J U Y) (newelref08_GetRow.j0 (k+1) B I J U Y))∧(∀ B I J U Y Z y6,LeO (newelref08_GetRow.l0 k B I J U Y Z y6) (newelref08_GetRow.l0 (k+1) B I J U Y Z y6))
 |0=>⟨fun _ _ _ _ _ r h=>by simp[newelref08_GetRow.j0] at h,fun _ _ _ _ _ _ _ r h=>by simp[newelref08_GetRow.l0] at h⟩
 |k+1=>by
  obtain⟨D,O⟩:=newelref08_GetRow.Zl k
  refine⟨?_, ?_⟩
  ·intro B I J U Y
   unfold newelref08_GetRow.j0
   repeat' first
   |(with_reducible exact D _ _ _ _ _)
   |(with_reducible exact O _ _ _ _ _ _ _)
   |(with_reducible exact newelref08_Get.mono _ _ _)
   |(with_reducible exact LeO.refl _)
   |(with_reducible exact LeO.none _)
   |(with_reducible refine LeO.ite ?_ ?_)
   |(with_reducible refine LeO.bind ?_ (fun _=>?_))
   |exact D _ _ _ _ _
   |exact O _ _ _ _ _ _ _
   |exact newelref08_Get.mono _ _ _
   |exact LeO.none _
   |refine LeO.ite ?_ ?_
   |refine LeO.bind ?_ (fun _=>?_)
  ·intro B I J U Y Z y6
   unfold newelref08_GetRow.l0
   repeat' first
   |(with_reducible exact D _ _ _ _ _)
   |(with_reducible exact O _ _ _ _ _ _ _)
   |(with_reducible exact newelref08_Get.mono _ _ _)
   |(with_reducible exact LeO.refl _)
   |(with_reducible exact LeO.none _)
   |(with_reducible refine LeO.ite ?_ ?_)
   |(with_reducible refine LeO.bind ?_ (fun _=>?_))
   |exact D _ _ _ _ _
   |exact O _ _ _ _ _ _ _
   |exact newelref08_Get.mono _ _ _
   |exact LeO.none _
   |refine LeO.ite ?_ ?_
   |refine LeO.bind ?_ (fun _=>?_)
theorem newelref08_GetRow.mono:∀ J B a2 k,LeO (newelref08_GetRow.f k J B a2) (newelref08_GetRow.f (k+1) J B a2):=by
 intro J B a2 k
 obtain⟨D,O⟩:=newelref08_GetRow.Zl k
 unfold newelref08_GetRow.f
 repeat' first
   |(with_reducible exact D _ _ _ _ _)
   |(with_reducible exact O _ _ _ _ _ _ _)
   |(with_reducible exact newelref08_Get.mono _ _ _)
   |(with_reducible exact LeO.refl _)
   |(with_reducible exact LeO.none _)
   |(with_reducible refine LeO.ite ?_ ?_)
   |(with_reducible refine LeO.bind ?_ (fun _=>?_))
   |exact D _ _ _ _ _
   |exact O _ _ _ _ _ _ _
   |exact newelref08_Get.mono _ _ _
   |exact LeO.none _
   |refine LeO.ite ?_ ?_
   |refine LeO.bind ?_ (fun _=>?_)
set_option maxHeartbeats 8000000 in
set_option maxRecDepth 100000 in
theorem newelref08_GetRow.calls (k:Nat) (A0:Option Addr) (c0:Nat) (l0:List Int) (B:Int) (a2:Int) (r1:List Int) (r2:Int) (r3:Int) (w:World) (ξ :Kd.C (Kd.int .u8) w A0 l0.length l0) (κ :l0.length≤c0) (h:newelref08_GetRow.f k l0 B a2=some (r1,r2,r3)):
  Calls Tryd.prog 38 #[.slice A0 l0.length c0,.int .i64 B,.int .i64 a2] w fun e w'=>∃ ak:Value,e = .returned (.agg #[ak,.int .i64 r2,.int .i64 r3])∧Kd.R (Kd.int .i64) 3 w' w.heap.size (fun _=>True) ak r1∧Below w.heap.size w w':=by
 have g9:=Tryd.underlying72
 have en:=Tryd.underlying75
 have δ :=Aside0.mk ξ
 have ω :=Aside0.mk κ
 clear ξ κ
 have HB:=Aside0.mk (Below.refl w.heap.size w)
 have H:((newelref08_Get.f k l0 B).bind fun σ=>(if σ.2.2=0 then (if σ.1<0 then (newelref08_GetRow.j0 k l0 true σ.1 σ.2.1 σ.2.2) else (newelref08_GetRow.j0 k l0 (decide (σ.1>a2)) σ.1 σ.2.1 σ.2.2)) else (some (([]:List Int),0,σ.2.2))))=some (r1,r2,r3):=h
 clear h
 replace H:=Option.bind_eq_some_iff.mp H
 obtain⟨⟨θ,τ,μ⟩,e9,H⟩:=H
 replace H:(if μ = 0 then (if θ < 0 then (newelref08_GetRow.j0 k l0 true θ τ μ) else (newelref08_GetRow.j0 k l0 (decide (θ > a2)) θ τ μ)) else (some (([]:List Int),0,μ)))=some (r1,r2,r3):=H
 have A4:=Aside0.mk e9
 clear e9
 by_cases c5: μ = 0
 ·rw[if_pos c5] at H
  have c5b0:(μ == 0)=true:=beq_iff_eq.mpr c5
  have c5b1:(μ != 0)=false:=bne_eq_false_iff_eq.mpr c5
  clear c5
  have bp:=Aside0.mk H
  clear H
  go_enter Tryd.func38,Tryd.ntmps38
  go_upto_region 4 with(first|((with_reducible refine Qz (N:=6) rfl ?_);refine Q7 ?hg (N:=6) ?hd (cs:=#[.slice none 0 0,.int .i64 0,.int .i64 0]) (t:=72) ?hr ?_;(case hd=>rfl);(case hg=>rfl);(case hr=>first|(go_simp;done)|(go_simp;rfl));intro X hg w7 hbox hb;have D:=Aside0.mk (Qr (by repeat(first|(with_reducible first|exact HB.out|apply Qe|apply Qa|apply Qf)|exact HB.out)) hb);have I:=Aside0.mk (hbox);have O:=Aside0.mk ((by rw[hg];exact(Qj (by repeat(first|(with_reducible first|exact HB.out|apply Qe|apply Qa|apply Qf)|exact HB.out))):w.heap.size≤X));have U:=Aside0.mk ((by rw[hg];exact(Qj (by repeat(first|(with_reducible first|exact HB.out|apply Qe|apply Qa|apply Qf)|exact HB.out))):w.heap.size≤X));clear HB;have HB:=D;have J:=I;have bu:=O;have η :=U;clear D I O U;clear hb hbox hg)|((with_reducible refine Qv (f:=39) rfl ?_);refine Ze (some 13) rfl rfl Tryd.func39 kr rfl #[.slice A0 l0.length c0,.int .i64 B] rfl (by(try simp only[List.map_toArray,List.map_cons,List.map_nil]);first|done|rfl|(simp only[List.length_drop,List.length_take];rfl)) ?_;(with_reducible refine(newelref08_Get.calls k _ _ l0 B θ τ μ _ ?side1 ?side2 A4.out).mono ?_);(case side1=>repeat(first|exact(Kd.Zb δ.out HB.out)|(with_reducible refine Kd.Zc ?_ _)|(with_reducible refine Kd.Za ?_ _)|(with_reducible refine Kd.Zh ?_)));(case side2=>exact ω.out);rintro e w8 ⟨rfl,hb⟩;refine⟨_,rfl, ?_⟩;have D:=Aside0.mk (Qp (g:=X) (o:=.cells #[.slice none 0 0,.int .i64 0,.int .i64 0] 72 (0,0)) (by(with_reducible repeat first|apply Qb|apply Qd|apply Qc);exact J.out) hb);have I:=Aside0.mk (Qr (by repeat(first|(with_reducible first|exact HB.out|apply Qe|apply Qa|apply Qf|refine Qg ?_ η.out)|exact HB.out)) hb);clear J;clear HB;have J:=D;have HB:=I;clear D I;(try clear hb);(try clear az);(try clear hk);(try clear hi))|((with_reducible refine Qz (N:=7) rfl ?_);refine Q7 ?hg (N:=7) ?hd (cs:=#[.int .i64 0,.int .i64 0,.int .i64 0]) (t:=75) ?hr ?_;(case hd=>rfl);(case hg=>rfl);(case hr=>first|(go_simp;done)|(go_simp;rfl));intro ι hg w9 hbox hb;have D:=Aside0.mk (Qp (g:=X) (o:=.cells #[.slice none 0 0,.int .i64 0,.int .i64 0] 72 (0,0)) (by(with_reducible repeat first|apply Qb|apply Qd|apply Qc);exact J.out) hb);have I:=Aside0.mk (Qr (by repeat(first|(with_reducible first|exact HB.out|apply Qe|apply Qa|apply Qf|refine Qg ?_ η.out)|exact HB.out)) hb);have O:=Aside0.mk (hbox);have U:=Aside0.mk ((by rw[hg];exact(Qj (by repeat(first|(with_reducible first|exact HB.out|apply Qe|apply Qa|apply Qf|refine Qg ?_ η.out)|exact HB.out))):w.heap.size ≤ ι));have ε :=Aside0.mk ((by rw[hg];exact(Qj (by repeat(first|(with_reducible first|exact HB.out|apply Qe|apply Qa|apply Qf|refine Qg ?_ η.out)|exact HB.out))):w.heap.size ≤ ι));have ν :=Aside0.mk ((by rw[hg];exact Nat.ne_of_lt (Q8 (g:=X) (o:=.cells #[.slice none 0 0,.int .i64 0,.int .i64 0] 72 (0,0)) (by(with_reducible repeat first|apply Qb|apply Qd|apply Qc);exact J.out)):X ≠ ι));have ρ:=Aside0.mk ((by rw[hg];exact Nat.ne_of_gt (Q8 (g:=X) (o:=.cells #[.slice none 0 0,.int .i64 0,.int .i64 0] 72 (0,0)) (by(with_reducible repeat first|apply Qb|apply Qd|apply Qc);exact J.out)): ι ≠ X));clear J;clear HB;have J:=D;have HB:=I;have Y:=O;have bw:=U;have χ := ε;have Z:= ν;have ψ :=ρ;clear D I O U ε ν ρ;clear hb hbox hg;have d7:= ψ.out;have dd:=Z.out;obtain⟨ae,af,ag,ah,ai,aj⟩:=qD3 Y.out))
  (try simp only[Act.put,qS])
  go_cut [28] (fun lp wc=>∃ (kq:Nat) (bc:Bool),lp = .bool bc∧Aside0 (newelref08_GetRow.j0 kq l0 bc θ τ μ = some (r1,r2,r3))∧Aside0 (kq≤k)∧Aside0 (wc.heap[X]?=some (.cells #[(.slice none 0 0),.int .i64 0,.int .i64 0] 72 (0,0)))∧Aside0 (wc.heap[ι]?=some (.cells #[.int .i64 θ,.int .i64 τ,.int .i64 μ] 75 (0,0)))∧Aside0 (Below w.heap.size w wc))
  case first=>
   have H:=bp.out
   clear bp
   by_cases bl: θ < 0
   ·rw[if_pos bl] at H
    have c12b0:decide (θ < 0)=true:=decide_eq_true bl
    clear bl
    (first|rw[c12b0]|(simp only[Zu,Z4];rw[c12b0])|skip)
    have H':=Aside0.mk H
    clear H
    have qd:= ψ.out
    have qe:=Z.out
    obtain⟨f8,f9,ba,fa,fb,bb⟩:=qD3 Y.out
    go_wp2
    go_meet
    case rel=>exact⟨_,(true),qR,H',⟨by first|omega|exact Nat.le_refl _⟩,⟨by(with_reducible repeat first|apply Qb|apply Qd|apply Qc);refine Qs ?_ Z.out _;(with_reducible repeat first|apply Qb|apply Qd|apply Qc);refine Qs ?_ Z.out _;(with_reducible repeat first|apply Qb|apply Qd|apply Qc);refine Qs ?_ Z.out _;(with_reducible repeat first|apply Qb|apply Qd|apply Qc);exact J.out⟩,⟨by(with_reducible repeat first|apply Qb|apply Qd|apply Qc);refine Qk (cs:=#[.int .i64 θ,.int .i64 τ,.int .i64 0]) ?_ 2 _ rfl;(with_reducible repeat first|apply Qb|apply Qd|apply Qc);refine Qk (cs:=#[.int .i64 θ,.int .i64 0,.int .i64 0]) ?_ 1 _ rfl;(with_reducible repeat first|apply Qb|apply Qd|apply Qc);refine Qk (cs:=#[.int .i64 0,.int .i64 0,.int .i64 0]) ?_ 0 _ rfl;(with_reducible repeat first|apply Qb|apply Qd|apply Qc);exact Y.out⟩,⟨by repeat(first|(with_reducible first|exact HB.out|apply Qe|apply Qa|apply Qf|refine Qg ?_ η.out|refine Qg ?_ χ.out)|exact HB.out)⟩⟩
   ·rw[if_neg bl] at H
    have c12b0:decide (θ < 0)=false:=decide_eq_false bl
    clear bl
    (first|rw[c12b0]|(simp only[Zu,Z4];rw[c12b0])|skip)
    have H':=Aside0.mk H
    clear H
    have k8:= ψ.out
    have k9:=Z.out
    obtain⟨bk,bm,b5,bn,bo,b6⟩:=qD3 Y.out
    go_wp2
    go_meet
    case rel=>exact⟨_,(decide (θ > a2)),qR,H',⟨by first|omega|exact Nat.le_refl _⟩,⟨by(with_reducible repeat first|apply Qb|apply Qd|apply Qc);refine Qs ?_ Z.out _;(with_reducible repeat first|apply Qb|apply Qd|apply Qc);refine Qs ?_ Z.out _;(with_reducible repeat first|apply Qb|apply Qd|apply Qc);refine Qs ?_ Z.out _;(with_reducible repeat first|apply Qb|apply Qd|apply Qc);exact J.out⟩,⟨by(with_reducible repeat first|apply Qb|apply Qd|apply Qc);refine Qk (cs:=#[.int .i64 θ,.int .i64 τ,.int .i64 0]) ?_ 2 _ rfl;(with_reducible repeat first|apply Qb|apply Qd|apply Qc);refine Qk (cs:=#[.int .i64 θ,.int .i64 0,.int .i64 0]) ?_ 1 _ rfl;(with_reducible repeat first|apply Qb|apply Qd|apply Qc);refine Qk (cs:=#[.int .i64 0,.int .i64 0,.int .i64 0]) ?_ 0 _ rfl;(with_reducible repeat first|apply Qb|apply Qd|apply Qc);exact Y.out⟩,⟨by repeat(first|(with_reducible first|exact HB.out|apply Qe|apply Qa|apply Qf|refine Qg ?_ η.out|refine Qg ?_ χ.out)|exact HB.out)⟩⟩
  case rest=>
   clear bp
   try clear c1
   try clear p2
   try clear c3
   try clear c5
   try clear c5b0
   try clear c5b1
   try clear c10
   try clear bl
   try clear c12b0
   try clear cq
   try clear e4
   try clear ae
   try clear af
   try clear ag
   try clear f8
   try clear f9
   try clear ba
   try clear bk
   try clear bm
   try clear b5
   try clear ah
   try clear ai
   try clear aj
   try clear fa
   try clear fb
   try clear bb
   try clear bn
   try clear bo
   try clear b6
   obtain⟨kq,bc,rfl,HA,co,J,Y,HB⟩:=hcut
   cases kq with
   |zero=>exact absurd HA.out (by simp[newelref08_GetRow.j0])
   |succ bq=>
    have H:=HA.out
    clear HA
    simp only[newelref08_GetRow.j0] at H
    by_cases b0:bc=true
    ·subst b0
     have H1:(some (([]:List Int),0,83))=some (r1,r2,r3):=by rw[if_pos rfl] at H;exact H
     clear H
     have H:=H1
     clear H1
     simp only[Option.some.injEq,Prod.mk.injEq] at H
     obtain⟨rfl,rfl,rfl⟩:=H
     have cj:=Z.out
     have cr:= ψ.out
     obtain⟨bd,bf,bg,bh,bi,bj⟩:=qD3 J.out
     go_wp2
     refine bodyPost_ret (results_cell_row rfl _ _ X 72 #[.slice none 0 0,.int .i64 0,.int .i64 83] (0,0) _ rfl (by(with_reducible repeat first|apply Qb|apply Qd|apply Qc);refine Qk (cs:=#[.slice none 0 0,.int .i64 0,.int .i64 0]) ?_ 2 _ rfl;(with_reducible repeat first|apply Qb|apply Qd|apply Qc);refine Qk (cs:=#[.slice none 0 0,.int .i64 0,.int .i64 0]) ?_ 1 _ rfl;(with_reducible repeat first|apply Qb|apply Qd|apply Qc);refine Qk (cs:=#[.slice none 0 0,.int .i64 0,.int .i64 0]) ?_ 0 _ rfl;(with_reducible repeat first|apply Qb|apply Qd|apply Qc);exact J.out) Tryd.underlying72 rfl kr) rfl ?_
     exact⟨_,by first|rfl|(simp[Qo,Qn] <;> rfl)|(simp[*,Qo,Qn] <;> rfl),by first|exact Kd.Z1 _ _ _ _ _|exact Kd.X4 _ _ _ _ _|exact Kd.X1 _ _ _ _ _|exact Kd.X3 _ _ _ _ _|exact Kd.X2 _ _ _ _ _,by repeat(first|(with_reducible first|exact HB.out|apply Qe|apply Qa|apply Qf|refine Qg ?_ η.out|refine Qg ?_ χ.out)|exact HB.out)⟩
    ·replace b0:=Bool.eq_false_iff.mpr b0
     subst b0
     have H1:(newelref08_GetRow.l0 bq l0 τ ([]:List Int) 0 θ τ μ)=some (r1,r2,r3):=by rw[if_neg (show ¬ (false=true) by decide)] at H;exact H
     clear H
     have H:=H1
     clear H1
     have H':=Aside0.mk H
     clear H
     have gi:= ψ.out
     have gj:=Z.out
     obtain⟨ax,ay,b1,b2,b3,b4⟩:=qD3 Y.out
     go_wp2
     go_loopg [1,8,9] bq (fun kq v1 v8 v9 w'=>∃ (an:Int) (a7:List Int) (ap:Int) (ζ :Int) (γ:Int),v1 = .int .i64 an∧v9 = .int .i64 ap∧Aside0 (newelref08_GetRow.l0 kq l0 an a7 ap θ τ μ = some (r1,r2,r3))∧Aside0 (kq≤bq)∧Aside0 (Kd.R (Kd.int .i64) 3 w' w.heap.size (fun _=>True) v8 a7)∧Aside0 (w'.heap[X]?=some (.cells #[(.slice none 0 0),.int .i64 ζ,.int .i64 γ] 72 (0,0)))∧Aside0 (w'.heap[ι]?=some (.cells #[.int .i64 θ,.int .i64 τ,.int .i64 μ] 75 (0,0)))∧Aside0 (Below w.heap.size w w'))
     case atStart=>exact⟨(τ),(([]:List Int)),(0),(0),(0),qR,qR,H',⟨Nat.le_refl _⟩,⟨by first|exact Kd.Z1 _ _ _ _ _|exact Kd.X4 _ _ _ _ _|exact Kd.X1 _ _ _ _ _|exact Kd.X3 _ _ _ _ _|exact Kd.X2 _ _ _ _ _⟩,⟨by(with_reducible repeat first|apply Qb|apply Qd|apply Qc);exact J.out⟩,⟨by(with_reducible repeat first|apply Qb|apply Qd|apply Qc);exact Y.out⟩,⟨by repeat(first|(with_reducible first|exact HB.out|apply Qe|apply Qa|apply Qf|refine Qg ?_ η.out|refine Qg ?_ χ.out)|exact HB.out)⟩⟩
     case round=>
      clear H'
      try clear c1
      try clear c2
      try clear p2
      try clear c3
      try clear c5
      try clear c5b0
      try clear c5b1
      try clear c10
      try clear bl
      try clear c12b0
      try clear cq
      try clear e4
      try clear b0
      try clear fe
      try clear er
      try clear ae
      try clear af
      try clear ag
      try clear f8
      try clear f9
      try clear ba
      try clear bk
      try clear bm
      try clear b5
      try clear bd
      try clear bf
      try clear bg
      try clear ax
      try clear ay
      try clear b1
      try clear ah
      try clear ai
      try clear aj
      try clear fa
      try clear fb
      try clear bb
      try clear bn
      try clear bo
      try clear b6
      try clear bh
      try clear bi
      try clear bj
      try clear b2
      try clear b3
      try clear b4
      try clear p2
      obtain⟨an,a7,ap,ζ,γ,rfl,rfl,HA,ar,HO_8,J,Y,HB⟩:=hrel
      cases gk with
      |zero=>exact absurd HA.out (by simp[newelref08_GetRow.l0])
      |succ k2=>
       have H:=HA.out
       clear HA
       simp only[newelref08_GetRow.l0] at H
       by_cases b9:ap < θ
       ·rw[if_pos b9] at H
        have c22b0:decide (ap < θ)=true:=decide_eq_true b9
        clear b9
        replace H:=Option.bind_eq_some_iff.mp H
        obtain⟨⟨ao,au,a8⟩,m2,H⟩:=H
        replace H:(if a8=0 then (if a7.length<17592186044416 then (newelref08_GetRow.l0 k2 l0 au (a7 ++ [ao]) (wrap64 (ap+1)) θ τ μ) else (none)) else (some (([]:List Int),0,a8)))=some (r1,r2,r3):=H
        have mo:=Aside0.mk m2
        clear m2
        by_cases al:a8=0
        ·rw[if_pos al] at H
         have c24b0:(a8==0)=true:=beq_iff_eq.mpr al
         have c24b1:(a8 != 0)=false:=bne_eq_false_iff_eq.mpr al
         clear al
         by_cases cb:a7.length<17592186044416
         ·rw[if_pos cb] at H
          have bz:=Aside0.mk cb
          clear cb
          obtain⟨bs,b7⟩:∃ y_:List Int,y_=(a7 ++ [ao]):=⟨_,rfl⟩
          replace H:(newelref08_GetRow.l0 k2 l0 au bs (wrap64 (ap+1)) θ τ μ)=some (r1,r2,r3):=by first|(rw[b7];with_reducible exact H)|(have φ :=(Option.bind_some _ _).symm.trans H;rw[b7];with_reducible exact φ)|(have φ :=(Option.bind_some _ _).symm.trans H;with_reducible exact φ)|with_reducible exact H|(rw[b7];exact H)|exact H
          have cd:=Aside0.mk b7
          clear b7
          have H':=Aside0.mk H
          clear H
          have ga:= ψ.out
          have gb:=Z.out
          obtain⟨df,dh,di,dj,dk,dv⟩:=qD3 Y.out
          go_wp2_with (first|((with_reducible refine Qv (f:=39) rfl ?_);refine Ze (some 40) rfl rfl Tryd.func39 kr rfl #[.slice A0 l0.length c0,.int .i64 an] rfl (by(try simp only[List.map_toArray,List.map_cons,List.map_nil]);first|done|rfl|(simp only[List.length_drop,List.length_take];rfl)) ?_;(with_reducible refine(newelref08_Get.calls k2 _ _ l0 an ao au a8 _ ?side1 ?side2 mo.out).mono ?_);(case side1=>repeat(first|exact(Kd.Zb δ.out HB.out)|(with_reducible refine Kd.Zc ?_ _)|(with_reducible refine Kd.Za ?_ _)|(with_reducible refine Kd.Zh ?_)));(case side2=>exact ω.out);rintro e r4 ⟨rfl,hb⟩;refine⟨_,rfl, ?_⟩;have D:=Aside0.mk (Kd.Q1 (by(with_reducible repeat first|apply Kd.Qi|apply Kd.Qh|apply Kd.Ql);exact HO_8.out) hb);have I:=Aside0.mk (Qp (g:=X) (o:=.cells #[.slice none 0 0,.int .i64 ζ,.int .i64 γ] 72 (0,0)) (by(with_reducible repeat first|apply Qb|apply Qd|apply Qc);exact J.out) hb);have O:=Aside0.mk (Qp (g:= ι) (o:=.cells #[.int .i64 θ,.int .i64 τ,.int .i64 μ] 75 (0,0)) (by(with_reducible repeat first|apply Qb|apply Qd|apply Qc);exact Y.out) hb);have U:=Aside0.mk (Qr (by repeat(first|(with_reducible first|exact HB.out|apply Qe|apply Qa|apply Qf|refine Qg ?_ η.out|refine Qg ?_ χ.out)|exact HB.out)) hb);clear HO_8;clear J;clear Y;clear HB;have HO_8:=D;have J:=I;have Y:=O;have HB:=U;clear D I O U;(try clear hb);(try clear az);(try clear hk);(try clear hi))|((with_reducible refine Qz (N:=10) rfl ?_);refine Q7 ?hg (N:=10) ?hd (cs:=#[.int .i64 0,.int .i64 0,.int .i64 0]) (t:=75) ?hr ?_;(case hd=>rfl);(case hg=>rfl);(case hr=>first|(go_simp;done)|(go_simp;rfl));intro a0 hg pm hbox hb;have D:=Aside0.mk (Kd.Q1 (by(with_reducible repeat first|apply Kd.Qi|apply Kd.Qh|apply Kd.Ql);exact HO_8.out) hb);have I:=Aside0.mk (Qp (g:=X) (o:=.cells #[.slice none 0 0,.int .i64 ζ,.int .i64 γ] 72 (0,0)) (by(with_reducible repeat first|apply Qb|apply Qd|apply Qc);exact J.out) hb);have O:=Aside0.mk (Qp (g:= ι) (o:=.cells #[.int .i64 θ,.int .i64 τ,.int .i64 μ] 75 (0,0)) (by(with_reducible repeat first|apply Qb|apply Qd|apply Qc);exact Y.out) hb);have U:=Aside0.mk (Qr (by repeat(first|(with_reducible first|exact HB.out|apply Qe|apply Qa|apply Qf|refine Qg ?_ η.out|refine Qg ?_ χ.out)|exact HB.out)) hb);have ε :=Aside0.mk (hbox);have ν :=Aside0.mk ((by rw[hg];exact(Qj (by repeat(first|(with_reducible first|exact HB.out|apply Qe|apply Qa|apply Qf|refine Qg ?_ η.out|refine Qg ?_ χ.out)|exact HB.out))):w.heap.size≤a0));have ρ:=Aside0.mk ((by rw[hg];exact(Qj (by repeat(first|(with_reducible first|exact HB.out|apply Qe|apply Qa|apply Qf|refine Qg ?_ η.out|refine Qg ?_ χ.out)|exact HB.out))):w.heap.size≤a0));have a4:=Aside0.mk ((by rw[hg];exact Nat.ne_of_lt (Q8 (g:=X) (o:=.cells #[.slice none 0 0,.int .i64 ζ,.int .i64 γ] 72 (0,0)) (by(with_reducible repeat first|apply Qb|apply Qd|apply Qc);exact J.out)):X≠a0));have a5:=Aside0.mk ((by rw[hg];exact Nat.ne_of_gt (Q8 (g:=X) (o:=.cells #[.slice none 0 0,.int .i64 ζ,.int .i64 γ] 72 (0,0)) (by(with_reducible repeat first|apply Qb|apply Qd|apply Qc);exact J.out)):a0≠X));have ab:=Aside0.mk ((by rw[hg];exact Nat.ne_of_lt (Q8 (g:= ι) (o:=.cells #[.int .i64 θ,.int .i64 τ,.int .i64 μ] 75 (0,0)) (by(with_reducible repeat first|apply Qb|apply Qd|apply Qc);exact Y.out)): ι ≠ a0));have am:=Aside0.mk ((by rw[hg];exact Nat.ne_of_gt (Q8 (g:= ι) (o:=.cells #[.int .i64 θ,.int .i64 τ,.int .i64 μ] 75 (0,0)) (by(with_reducible repeat first|apply Qb|apply Qd|apply Qc);exact Y.out)):a0 ≠ ι));clear HO_8;clear J;clear Y;clear HB;have HO_8:=D;have J:=I;have Y:=O;have HB:=U;have ac:= ε;have cf:= ν;have b8:=ρ;have a3:=a4;have av:=a5;have a6:=ab;have aw:=am;clear D I O U ε ν ρ a4 a5 ab am;clear hb hbox hg;have je:=av.out;have jf:=a3.out;have g6:=aw.out;have h0:=a6.out;obtain⟨bv,ca,ce,ch,ci,ck⟩:=qD3 ac.out)|((with_reducible refine Zs (b:=.append) (xs:=#[.tmp 47,.tmp 50]) rfl ?_);at_builtin;refine Kd.Kf (Kd.int .i64) (w0:=w) w.heap.size rfl (.tmp 47) (.tmp 50) 52 3 (.int .i64 0) 8 rfl Tryd.underlying52 El rfl (by decide) (by omega) u8 a7 ao [.int .i64 ao] (fun _=>True) (fun _=>False) rfl (by first|(go_simp;done)|(go_simp;rfl)) ?aP (fun _ hk=>hk.elim) ?aF ?aO ?aB ?aS ?aL ?_;(case aP=>exact rfl);(case aB=>exact(by repeat(first|(with_reducible first|exact HB.out|apply Qe|apply Qa|apply Qf|refine Qg ?_ η.out|refine Qg ?_ χ.out|refine Qg ?_ b8.out)|exact HB.out)));(case aF=>exact(fun _ _=>trivial));(case aO=>exact(by(with_reducible repeat first|apply Kd.Qi|apply Kd.Qh|apply Kd.Ql);exact Kd.Qu (Kd.Qm (p:=⟨a0,2,none⟩) (Kd.Qm (p:=⟨a0,1,none⟩) (Kd.Qm (p:=⟨a0,0,none⟩) (Kd.Qy HO_8.out ac.out (by decide)) (fun _ hk=>hk.2) (.int .i64 ao)) (fun _ hk=>hk.2) (.int .i64 au)) (fun _ hk=>hk.2) (.int .i64 a8)) (fun _ hk=>trivial)));(case aS=>exact(Qj (by repeat(first|(with_reducible first|exact HB.out|apply Qe|apply Qa|apply Qf|refine Qg ?_ η.out|refine Qg ?_ χ.out|refine Qg ?_ b8.out)|exact HB.out))));(case aL=>have:=bz.out;omega);intro de g8 ho hb hg hat;rw[← cd.out] at ho;have D:=Aside0.mk (Z2 (g:=X) (o:=.cells #[.slice none 0 0,.int .i64 ζ,.int .i64 γ] 72 (0,0)) (by(with_reducible repeat first|apply Qb|apply Qd|apply Qc);refine Qs ?_ a3.out _;(with_reducible repeat first|apply Qb|apply Qd|apply Qc);refine Qs ?_ a3.out _;(with_reducible repeat first|apply Qb|apply Qd|apply Qc);refine Qs ?_ a3.out _;(with_reducible repeat first|apply Qb|apply Qd|apply Qc);exact J.out) hg (Kd.Y5 HO_8.out J.out (by decide)));have I:=Aside0.mk (Z2 (g:= ι) (o:=.cells #[.int .i64 θ,.int .i64 τ,.int .i64 μ] 75 (0,0)) (by(with_reducible repeat first|apply Qb|apply Qd|apply Qc);refine Qs ?_ a6.out _;(with_reducible repeat first|apply Qb|apply Qd|apply Qc);refine Qs ?_ a6.out _;(with_reducible repeat first|apply Qb|apply Qd|apply Qc);refine Qs ?_ a6.out _;(with_reducible repeat first|apply Qb|apply Qd|apply Qc);exact Y.out) hg (Kd.Y5 HO_8.out Y.out (by decide)));have O:=Aside0.mk (Z2 (g:=a0) (o:=.cells #[.int .i64 ao,.int .i64 au,.int .i64 a8] 75 (0,0)) (by(with_reducible repeat first|apply Qb|apply Qd|apply Qc);refine Qk (cs:=#[.int .i64 ao,.int .i64 au,.int .i64 0]) ?_ 2 _ rfl;(with_reducible repeat first|apply Qb|apply Qd|apply Qc);refine Qk (cs:=#[.int .i64 ao,.int .i64 0,.int .i64 0]) ?_ 1 _ rfl;(with_reducible repeat first|apply Qb|apply Qd|apply Qc);refine Qk (cs:=#[.int .i64 0,.int .i64 0,.int .i64 0]) ?_ 0 _ rfl;(with_reducible repeat first|apply Qb|apply Qd|apply Qc);exact ac.out) hg (Kd.Y5 HO_8.out ac.out (by decide)));have U:=Aside0.mk (hb);have ε :=Aside0.mk (ho);clear J;clear Y;clear ac;clear HB;clear HO_8;have J:=D;have Y:=I;have ac:=O;have HB:=U;have cg:= ε;clear D I O U ε;clear ho hb hg hat;obtain⟨cp,ct,cu,cv,d1,d3⟩:=qD3 ac.out))
          go_roundg k2
          case measure=>have:=co.out;have:=ar.out;omega
          case rel=>exact⟨(au),(bs),(wrap64 (ap+1)),(ζ),(γ),qR,qR,H',⟨by have:=co.out;have:=ar.out;omega⟩,⟨by(with_reducible repeat first|apply Kd.Qi|apply Kd.Qh|apply Kd.Ql);exact cg.out⟩,⟨by(with_reducible repeat first|apply Qb|apply Qd|apply Qc);exact J.out⟩,⟨by(with_reducible repeat first|apply Qb|apply Qd|apply Qc);exact Y.out⟩,⟨by repeat(first|(with_reducible first|exact HB.out|apply Qe|apply Qa|apply Qf|refine Qg ?_ η.out|refine Qg ?_ χ.out|refine Qg ?_ b8.out)|exact HB.out)⟩⟩
         ·rw[if_neg cb] at H
          exact absurd H (by simp)
        ·rw[if_neg al] at H
         have c24b0:(a8==0)=false:=beq_eq_false_iff_ne.mpr al
         have c24b1:(a8 != 0)=true:=bne_iff_ne.mpr al
         simp only[Option.some.injEq,Prod.mk.injEq] at H
         obtain⟨rfl,rfl,rfl⟩:=H
         have fq:= ψ.out
         have fr:=Z.out
         obtain⟨dp,dr,be,dt,du,br⟩:=qD3 Y.out
         go_wp2_with (first|((with_reducible refine Qv (f:=39) rfl ?_);refine Ze (some 40) rfl rfl Tryd.func39 kr rfl #[.slice A0 l0.length c0,.int .i64 an] rfl (by(try simp only[List.map_toArray,List.map_cons,List.map_nil]);first|done|rfl|(simp only[List.length_drop,List.length_take];rfl)) ?_;(with_reducible refine(newelref08_Get.calls k2 _ _ l0 an ao au a8 _ ?side1 ?side2 mo.out).mono ?_);(case side1=>repeat(first|exact(Kd.Zb δ.out HB.out)|(with_reducible refine Kd.Zc ?_ _)|(with_reducible refine Kd.Za ?_ _)|(with_reducible refine Kd.Zh ?_)));(case side2=>exact ω.out);rintro e od ⟨rfl,hb⟩;refine⟨_,rfl, ?_⟩;have D:=Aside0.mk (Kd.Q1 (by(with_reducible repeat first|apply Kd.Qi|apply Kd.Qh|apply Kd.Ql);exact HO_8.out) hb);have I:=Aside0.mk (Qp (g:=X) (o:=.cells #[.slice none 0 0,.int .i64 ζ,.int .i64 γ] 72 (0,0)) (by(with_reducible repeat first|apply Qb|apply Qd|apply Qc);exact J.out) hb);have O:=Aside0.mk (Qp (g:= ι) (o:=.cells #[.int .i64 θ,.int .i64 τ,.int .i64 μ] 75 (0,0)) (by(with_reducible repeat first|apply Qb|apply Qd|apply Qc);exact Y.out) hb);have U:=Aside0.mk (Qr (by repeat(first|(with_reducible first|exact HB.out|apply Qe|apply Qa|apply Qf|refine Qg ?_ η.out|refine Qg ?_ χ.out)|exact HB.out)) hb);clear HO_8;clear J;clear Y;clear HB;have HO_8:=D;have J:=I;have Y:=O;have HB:=U;clear D I O U;(try clear hb);(try clear az);(try clear hk);(try clear hi))|((with_reducible refine Qz (N:=10) rfl ?_);refine Q7 ?hg (N:=10) ?hd (cs:=#[.int .i64 0,.int .i64 0,.int .i64 0]) (t:=75) ?hr ?_;(case hd=>rfl);(case hg=>rfl);(case hr=>first|(go_simp;done)|(go_simp;rfl));intro a0 hg ge hbox hb;have D:=Aside0.mk (Kd.Q1 (by(with_reducible repeat first|apply Kd.Qi|apply Kd.Qh|apply Kd.Ql);exact HO_8.out) hb);have I:=Aside0.mk (Qp (g:=X) (o:=.cells #[.slice none 0 0,.int .i64 ζ,.int .i64 γ] 72 (0,0)) (by(with_reducible repeat first|apply Qb|apply Qd|apply Qc);exact J.out) hb);have O:=Aside0.mk (Qp (g:= ι) (o:=.cells #[.int .i64 θ,.int .i64 τ,.int .i64 μ] 75 (0,0)) (by(with_reducible repeat first|apply Qb|apply Qd|apply Qc);exact Y.out) hb);have U:=Aside0.mk (Qr (by repeat(first|(with_reducible first|exact HB.out|apply Qe|apply Qa|apply Qf|refine Qg ?_ η.out|refine Qg ?_ χ.out)|exact HB.out)) hb);have ε :=Aside0.mk (hbox);have ν :=Aside0.mk ((by rw[hg];exact(Qj (by repeat(first|(with_reducible first|exact HB.out|apply Qe|apply Qa|apply Qf|refine Qg ?_ η.out|refine Qg ?_ χ.out)|exact HB.out))):w.heap.size≤a0));have ρ:=Aside0.mk ((by rw[hg];exact(Qj (by repeat(first|(with_reducible first|exact HB.out|apply Qe|apply Qa|apply Qf|refine Qg ?_ η.out|refine Qg ?_ χ.out)|exact HB.out))):w.heap.size≤a0));have a4:=Aside0.mk ((by rw[hg];exact Nat.ne_of_lt (Q8 (g:=X) (o:=.cells #[.slice none 0 0,.int .i64 ζ,.int .i64 γ] 72 (0,0)) (by(with_reducible repeat first|apply Qb|apply Qd|apply Qc);exact J.out)):X≠a0));have a5:=Aside0.mk ((by rw[hg];exact Nat.ne_of_gt (Q8 (g:=X) (o:=.cells #[.slice none 0 0,.int .i64 ζ,.int .i64 γ] 72 (0,0)) (by(with_reducible repeat first|apply Qb|apply Qd|apply Qc);exact J.out)):a0≠X));have ab:=Aside0.mk ((by rw[hg];exact Nat.ne_of_lt (Q8 (g:= ι) (o:=.cells #[.int .i64 θ,.int .i64 τ,.int .i64 μ] 75 (0,0)) (by(with_reducible repeat first|apply Qb|apply Qd|apply Qc);exact Y.out)): ι ≠ a0));have am:=Aside0.mk ((by rw[hg];exact Nat.ne_of_gt (Q8 (g:= ι) (o:=.cells #[.int .i64 θ,.int .i64 τ,.int .i64 μ] 75 (0,0)) (by(with_reducible repeat first|apply Qb|apply Qd|apply Qc);exact Y.out)):a0 ≠ ι));clear HO_8;clear J;clear Y;clear HB;have HO_8:=D;have J:=I;have Y:=O;have HB:=U;have ac:= ε;have cf:= ν;have b8:=ρ;have a3:=a4;have av:=a5;have a6:=ab;have aw:=am;clear D I O U ε ν ρ a4 a5 ab am;clear hb hbox hg;have lv:=av.out;have lw:=a3.out;have e7:=aw.out;have e8:=a6.out;obtain⟨cw,cx,cy,cz,d0,d2⟩:=qD3 ac.out;obtain⟨gu,gv,gw,gx,gy,gz⟩:=qD3 J.out))
         refine bodyPost_ret (results_cell_row rfl _ _ X 72 #[.slice none 0 0,.int .i64 0,.int .i64 a8] (0,0) _ rfl (by(with_reducible repeat first|apply Qb|apply Qd|apply Qc);refine Qk (cs:=#[.slice none 0 0,.int .i64 0,.int .i64 γ]) ?_ 2 _ rfl;(with_reducible repeat first|apply Qb|apply Qd|apply Qc);refine Qk (cs:=#[.slice none 0 0,.int .i64 ζ,.int .i64 γ]) ?_ 1 _ rfl;(with_reducible repeat first|apply Qb|apply Qd|apply Qc);refine Qk (cs:=#[.slice none 0 0,.int .i64 ζ,.int .i64 γ]) ?_ 0 _ rfl;(with_reducible repeat first|apply Qb|apply Qd|apply Qc);refine Qs ?_ a3.out _;(with_reducible repeat first|apply Qb|apply Qd|apply Qc);refine Qs ?_ a3.out _;(with_reducible repeat first|apply Qb|apply Qd|apply Qc);refine Qs ?_ a3.out _;(with_reducible repeat first|apply Qb|apply Qd|apply Qc);exact J.out) Tryd.underlying72 rfl kr) rfl ?_
         exact⟨_,by first|rfl|(simp[Qo,Qn] <;> rfl)|(simp[*,Qo,Qn] <;> rfl),by first|exact Kd.Z1 _ _ _ _ _|exact Kd.X4 _ _ _ _ _|exact Kd.X1 _ _ _ _ _|exact Kd.X3 _ _ _ _ _|exact Kd.X2 _ _ _ _ _,by repeat(first|(with_reducible first|exact HB.out|apply Qe|apply Qa|apply Qf|refine Qg ?_ η.out|refine Qg ?_ χ.out|refine Qg ?_ b8.out)|exact HB.out)⟩
       ·rw[if_neg b9] at H
        have c22b0:decide (ap < θ)=false:=decide_eq_false b9
        clear b9
        simp only[Option.some.injEq,Prod.mk.injEq] at H
        obtain⟨rfl,rfl,rfl⟩:=H
        have gl:= ψ.out
        have gm:=Z.out
        obtain⟨d4,d5,d6,d8,d9,da⟩:=qD3 Y.out
        obtain⟨a9,aa,g7⟩:=Kd.Zf HO_8.out
        subst g7
        obtain⟨i6,i7,i9,ia,ib,ic⟩:=qD3 J.out
        go_wp2
        refine bodyPost_ret (results_cell_row rfl _ _ X 72 #[.slice a9 a7.length aa,.int .i64 an,.int .i64 0] (0,0) _ rfl (by(with_reducible repeat first|apply Qb|apply Qd|apply Qc);refine Qk (cs:=#[.slice a9 a7.length aa,.int .i64 an,.int .i64 γ]) ?_ 2 _ rfl;(with_reducible repeat first|apply Qb|apply Qd|apply Qc);refine Qk (cs:=#[.slice a9 a7.length aa,.int .i64 ζ,.int .i64 γ]) ?_ 1 _ rfl;(with_reducible repeat first|apply Qb|apply Qd|apply Qc);refine Qk (cs:=#[.slice none 0 0,.int .i64 ζ,.int .i64 γ]) ?_ 0 _ rfl;(with_reducible repeat first|apply Qb|apply Qd|apply Qc);exact J.out) Tryd.underlying72 rfl kr) rfl ?_
        exact⟨_,by first|rfl|(simp[Qo,Qn] <;> rfl)|(simp[*,Qo,Qn] <;> rfl),by(with_reducible repeat first|apply Kd.Qi|apply Kd.Qh|apply Kd.Ql);exact Kd.Qu (Kd.Qm (p:=⟨X,2,none⟩) (Kd.Qm (p:=⟨X,1,none⟩) (Kd.Qm (p:=⟨X,0,none⟩) (Kd.Qy HO_8.out J.out (by decide)) (fun _ hk=>hk.2) (.slice a9 a7.length aa)) (fun _ hk=>hk.2) (.int .i64 an)) (fun _ hk=>hk.2) (.int .i64 0)) (fun _ hk=>trivial),by repeat(first|(with_reducible first|exact HB.out|apply Qe|apply Qa|apply Qf|refine Qg ?_ η.out|refine Qg ?_ χ.out)|exact HB.out)⟩
 ·rw[if_neg c5] at H
  have c5b0:(μ == 0)=false:=beq_eq_false_iff_ne.mpr c5
  have c5b1:(μ != 0)=true:=bne_iff_ne.mpr c5
  simp only[Option.some.injEq,Prod.mk.injEq] at H
  obtain⟨rfl,rfl,rfl⟩:=H
  go_enter Tryd.func38,Tryd.ntmps38
  go_wp2_with (first|((with_reducible refine Qz (N:=6) rfl ?_);refine Q7 ?hg (N:=6) ?hd (cs:=#[.slice none 0 0,.int .i64 0,.int .i64 0]) (t:=72) ?hr ?_;(case hd=>rfl);(case hg=>rfl);(case hr=>first|(go_simp;done)|(go_simp;rfl));intro X hg np hbox hb;have D:=Aside0.mk (Qr (by repeat(first|(with_reducible first|exact HB.out|apply Qe|apply Qa|apply Qf)|exact HB.out)) hb);have I:=Aside0.mk (hbox);have O:=Aside0.mk ((by rw[hg];exact(Qj (by repeat(first|(with_reducible first|exact HB.out|apply Qe|apply Qa|apply Qf)|exact HB.out))):w.heap.size≤X));have U:=Aside0.mk ((by rw[hg];exact(Qj (by repeat(first|(with_reducible first|exact HB.out|apply Qe|apply Qa|apply Qf)|exact HB.out))):w.heap.size≤X));clear HB;have HB:=D;have J:=I;have bu:=O;have η :=U;clear D I O U;clear hb hbox hg)|((with_reducible refine Qv (f:=39) rfl ?_);refine Ze (some 13) rfl rfl Tryd.func39 kr rfl #[.slice A0 l0.length c0,.int .i64 B] rfl (by(try simp only[List.map_toArray,List.map_cons,List.map_nil]);first|done|rfl|(simp only[List.length_drop,List.length_take];rfl)) ?_;(with_reducible refine(newelref08_Get.calls k _ _ l0 B θ τ μ _ ?side1 ?side2 A4.out).mono ?_);(case side1=>repeat(first|exact(Kd.Zb δ.out HB.out)|(with_reducible refine Kd.Zc ?_ _)|(with_reducible refine Kd.Za ?_ _)|(with_reducible refine Kd.Zh ?_)));(case side2=>exact ω.out);rintro e h5 ⟨rfl,hb⟩;refine⟨_,rfl, ?_⟩;have D:=Aside0.mk (Qp (g:=X) (o:=.cells #[.slice none 0 0,.int .i64 0,.int .i64 0] 72 (0,0)) (by(with_reducible repeat first|apply Qb|apply Qd|apply Qc);exact J.out) hb);have I:=Aside0.mk (Qr (by repeat(first|(with_reducible first|exact HB.out|apply Qe|apply Qa|apply Qf|refine Qg ?_ η.out)|exact HB.out)) hb);clear J;clear HB;have J:=D;have HB:=I;clear D I;(try clear hb);(try clear az);(try clear hk);(try clear hi))|((with_reducible refine Qz (N:=7) rfl ?_);refine Q7 ?hg (N:=7) ?hd (cs:=#[.int .i64 0,.int .i64 0,.int .i64 0]) (t:=75) ?hr ?_;(case hd=>rfl);(case hg=>rfl);(case hr=>first|(go_simp;done)|(go_simp;rfl));intro ι hg h6 hbox hb;have D:=Aside0.mk (Qp (g:=X) (o:=.cells #[.slice none 0 0,.int .i64 0,.int .i64 0] 72 (0,0)) (by(with_reducible repeat first|apply Qb|apply Qd|apply Qc);exact J.out) hb);have I:=Aside0.mk (Qr (by repeat(first|(with_reducible first|exact HB.out|apply Qe|apply Qa|apply Qf|refine Qg ?_ η.out)|exact HB.out)) hb);have O:=Aside0.mk (hbox);have U:=Aside0.mk ((by rw[hg];exact(Qj (by repeat(first|(with_reducible first|exact HB.out|apply Qe|apply Qa|apply Qf|refine Qg ?_ η.out)|exact HB.out))):w.heap.size ≤ ι));have ε :=Aside0.mk ((by rw[hg];exact(Qj (by repeat(first|(with_reducible first|exact HB.out|apply Qe|apply Qa|apply Qf|refine Qg ?_ η.out)|exact HB.out))):w.heap.size ≤ ι));have ν :=Aside0.mk ((by rw[hg];exact Nat.ne_of_lt (Q8 (g:=X) (o:=.cells #[.slice none 0 0,.int .i64 0,.int .i64 0] 72 (0,0)) (by(with_reducible repeat first|apply Qb|apply Qd|apply Qc);exact J.out)):X ≠ ι));have ρ:=Aside0.mk ((by rw[hg];exact Nat.ne_of_gt (Q8 (g:=X) (o:=.cells #[.slice none 0 0,.int .i64 0,.int .i64 0] 72 (0,0)) (by(with_reducible repeat first|apply Qb|apply Qd|apply Qc);exact J.out)): ι ≠ X));clear J;clear HB;have J:=D;have HB:=I;have Y:=O;have bw:=U;have χ := ε;have Z:= ν;have ψ :=ρ;clear D I O U ε ν ρ;clear hb hbox hg;have db:= ψ.out;have dc:=Z.out;obtain⟨ee,ef,cm,eg,eh,cn⟩:=qD3 Y.out;obtain⟨ea,eb,ec,ei,ej,ek⟩:=qD3 J.out))
  refine bodyPost_ret (results_cell_row rfl _ _ X 72 #[.slice none 0 0,.int .i64 0,.int .i64 μ] (0,0) _ rfl (by(with_reducible repeat first|apply Qb|apply Qd|apply Qc);refine Qk (cs:=#[.slice none 0 0,.int .i64 0,.int .i64 0]) ?_ 2 _ rfl;(with_reducible repeat first|apply Qb|apply Qd|apply Qc);refine Qk (cs:=#[.slice none 0 0,.int .i64 0,.int .i64 0]) ?_ 1 _ rfl;(with_reducible repeat first|apply Qb|apply Qd|apply Qc);refine Qk (cs:=#[.slice none 0 0,.int .i64 0,.int .i64 0]) ?_ 0 _ rfl;(with_reducible repeat first|apply Qb|apply Qd|apply Qc);refine Qs ?_ Z.out _;(with_reducible repeat first|apply Qb|apply Qd|apply Qc);refine Qs ?_ Z.out _;(with_reducible repeat first|apply Qb|apply Qd|apply Qc);refine Qs ?_ Z.out _;(with_reducible repeat first|apply Qb|apply Qd|apply Qc);exact J.out) Tryd.underlying72 rfl kr) rfl ?_
  exact⟨_,by first|rfl|(simp[Qo,Qn] <;> rfl)|(simp[*,Qo,Qn] <;> rfl),by first|exact Kd.Z1 _ _ _ _ _|exact Kd.X4 _ _ _ _ _|exact Kd.X1 _ _ _ _ _|exact Kd.X3 _ _ _ _ _|exact Kd.X2 _ _ _ _ _,by repeat(first|(with_reducible first|exact HB.out|apply Qe|apply Qa|apply Qf|refine Qg ?_ η.out|refine Qg ?_ χ.out)|exact HB.out)⟩
def newelref08_Code.f (J:Int):Option (Int):=if J≥0 then (some (IntKind.u64.wrap ((IntKind.u64.wrap (J)) * 2))) else (some (IntKind.u64.wrap ((IntKind.u64.wrap ((IntKind.u64.wrap (wrap64 ((-1)-J))) * 2))+1)))
set_option maxHeartbeats 8000000 in
set_option maxRecDepth 100000 in
theorem newelref08_Code.calls (J:Int) (r:Int) (w:World) (h:newelref08_Code.f J=some r):
  Calls Tryd.prog 44 #[.int .i64 J] w fun e w'=>e = .returned (.int .u64 r)∧Drawn0 w w':=by
 have H:(if J≥0 then (some (IntKind.u64.wrap ((IntKind.u64.wrap (J)) * 2))) else (some (IntKind.u64.wrap ((IntKind.u64.wrap ((IntKind.u64.wrap (wrap64 ((-1)-J))) * 2))+1))))=some r:=h
 clear h
 by_cases c2:J≥0
 ·rw[if_pos c2] at H
  have c2b0:decide (0≤J)=true:=decide_eq_true c2
  clear c2
  obtain rfl:=Option.some.inj H
  go_enter Tryd.func44,Tryd.ntmps44
  go_wp2
  go_ret
  exact⟨qR,by repeat(first|exact Drawn0.refl _|apply Drawn0.step)⟩
 ·rw[if_neg c2] at H
  have c2b0:decide (0≤J)=false:=decide_eq_false c2
  clear c2
  obtain rfl:=Option.some.inj H
  go_enter Tryd.func44,Tryd.ntmps44
  go_wp2
  go_ret
  exact⟨qR,by repeat(first|exact Drawn0.refl _|apply Drawn0.step)⟩
def newelref08_Put.l0:Nat→Int→List Int→Option (List Int)
 |0,_,_=>none
 |k+1,I,B=>if I≥128 then (if B.length<140737488355328 then (newelref08_Put.l0 k (IntKind.u64.wrap (Int.tdiv I 128)) (B ++ [(IntKind.u64.wrap ((Int.tmod I 128)+128)) % 256])) else (none)) else (if B.length<140737488355328 then (some (B ++ [(I) % 256])) else (none))
def newelref08_Put.f (k:Nat) (J:Int):Option (List Int):=(newelref08_Code.f J).bind fun O=>(newelref08_Put.l0 k O ([]:List Int))
theorem newelref08_Put.Zl:∀ k,(∀ B I,LeO (newelref08_Put.l0 k B I) (newelref08_Put.l0 (k+1) B I))
 |0=>fun _ _ r h=>by simp[newelref08_Put.l0] at h
 |k+1=>by
  have D:=newelref08_Put.Zl k
  ·intro B I
   unfold newelref08_Put.l0
   repeat' first
   |(with_reducible exact D _ _)
   |(with_reducible exact LeO.refl _)
   |(with_reducible exact LeO.none _)
   |(with_reducible refine LeO.ite ?_ ?_)
   |(with_reducible refine LeO.bind ?_ (fun _=>?_))
   |exact D _ _
   |exact LeO.none _
   |refine LeO.ite ?_ ?_
   |refine LeO.bind ?_ (fun _=>?_)
theorem newelref08_Put.mono:∀ J k,LeO (newelref08_Put.f k J) (newelref08_Put.f (k+1) J):=by
 intro J k
 have D:=newelref08_Put.Zl k
 unfold newelref08_Put.f
 repeat' first
   |(with_reducible exact D _ _)
   |(with_reducible exact LeO.refl _)
   |(with_reducible exact LeO.none _)
   |(with_reducible refine LeO.ite ?_ ?_)
   |(with_reducible refine LeO.bind ?_ (fun _=>?_))
   |exact D _ _
   |exact LeO.none _
   |refine LeO.ite ?_ ?_
   |refine LeO.bind ?_ (fun _=>?_)
set_option maxHeartbeats 8000000 in
set_option maxRecDepth 100000 in
theorem newelref08_Put.calls (k:Nat) (J:Int) (r:List Int) (w:World) (h:newelref08_Put.f k J=some r):
  Calls Tryd.prog 36 #[.int .i64 J] w fun e w'=>∃ ak:Value,e = .returned (ak)∧Kd.R (Kd.int .u8) 5 w' w.heap.size (fun _=>True) ak r∧Below w.heap.size w w':=by
 have HB:=Aside0.mk (Below.refl w.heap.size w)
 have H:((newelref08_Code.f J).bind fun O=>(newelref08_Put.l0 k O ([]:List Int)))=some r:=h
 clear h
 replace H:=Option.bind_eq_some_iff.mp H
 obtain⟨O,cg,H⟩:=H
 replace H:(newelref08_Put.l0 k O ([]:List Int))=some r:=H
 have A2:=Aside0.mk cg
 clear cg
 have H':=Aside0.mk H
 clear H
 go_enter Tryd.func36,Tryd.ntmps36
 go_wp2_with (first|((with_reducible refine Qv (f:=44) rfl ?_);refine Ze (some 6) rfl rfl Tryd.func44 kr rfl #[.int .i64 J] rfl (by(try simp only[List.map_toArray,List.map_cons,List.map_nil]);first|done|rfl|(simp only[List.length_drop,List.length_take];rfl)) ?_;(with_reducible refine(newelref08_Code.calls J O _ A2.out).mono ?_);rintro e w' ⟨rfl,⟨nd,rfl⟩⟩;refine⟨_,rfl, ?_⟩))
 go_loopg [3,4] k (fun kq v3 v4 w'=>∃ (B:Int) (U:List Int),v3 = .int .u64 B∧Aside0 (newelref08_Put.l0 kq B U=some r)∧Aside0 (kq≤k)∧Aside0 (Kd.R (Kd.int .u8) 5 w' w.heap.size (fun _=>True) v4 U)∧Aside0 (Below w.heap.size w w'))
 case atStart=>exact⟨(O),(([]:List Int)),qR,H',⟨Nat.le_refl _⟩,⟨by first|exact Kd.Z1 _ _ _ _ _|exact Kd.X4 _ _ _ _ _|exact Kd.X1 _ _ _ _ _|exact Kd.X3 _ _ _ _ _|exact Kd.X2 _ _ _ _ _⟩,⟨by repeat(first|(with_reducible first|exact HB.out|apply Qe|apply Qa|apply Qf)|exact HB.out)⟩⟩
 case round=>
  clear H'
  try clear p2
  obtain⟨B,U,rfl,HA,Y,HO_4,HB⟩:=hrel
  cases gk with
  |zero=>exact absurd HA.out (by simp[newelref08_Put.l0])
  |succ k1=>
   have H:=HA.out
   clear HA
   simp only[newelref08_Put.l0] at H
   by_cases c3:B≥128
   ·rw[if_pos c3] at H
    have c3b0:decide (128≤B)=true:=decide_eq_true c3
    clear c3
    by_cases c4:U.length<140737488355328
    ·rw[if_pos c4] at H
     have a7:=Aside0.mk c4
     clear c4
     obtain⟨γ,X⟩:∃ y_:List Int,y_=(U ++ [(IntKind.u64.wrap ((Int.tmod B 128)+128)) % 256]):=⟨_,rfl⟩
     replace H:(newelref08_Put.l0 k1 (IntKind.u64.wrap (Int.tdiv B 128)) γ)=some r:=by first|(rw[X];with_reducible exact H)|(have φ :=(Option.bind_some _ _).symm.trans H;rw[X];with_reducible exact φ)|(have φ :=(Option.bind_some _ _).symm.trans H;with_reducible exact φ)|with_reducible exact H|(rw[X];exact H)|exact H
     have δ :=Aside0.mk X
     clear X
     have H':=Aside0.mk H
     clear H
     go_wp2_with (first|((with_reducible refine Zs (b:=.append) (xs:=#[.tmp 9,.tmp 14]) rfl ?_);at_builtin;refine Kd.Kf (Kd.int .u8) (w0:=w) w.heap.size rfl (.tmp 9) (.tmp 14) 22 5 (.int .u8 0) 1 rfl Tryd.underlying22 Zx rfl (by decide) (by omega) u4 U ((IntKind.u64.wrap ((Int.tmod B 128)+128)) % 256) [.int .u8 ((IntKind.u64.wrap ((Int.tmod B 128)+128)) % 256)] (fun _=>True) (fun _=>False) rfl rfl ?aP (fun _ hk=>hk.elim) ?aF ?aO ?aB ?aS ?aL ?_;(case aP=>exact rfl);(case aB=>exact(by repeat(first|(with_reducible first|exact HB.out|apply Qe|apply Qa|apply Qf)|exact HB.out)));(case aF=>exact(fun _ _=>trivial));(case aO=>exact(by(with_reducible repeat first|apply Kd.Qi|apply Kd.Qh|apply Kd.Ql);exact HO_4.out));(case aS=>exact(Qj (by repeat(first|(with_reducible first|exact HB.out|apply Qe|apply Qa|apply Qf)|exact HB.out))));(case aL=>have:=a7.out;omega);intro ι w5 ho hb hg hat;rw[← δ.out] at ho;have D:=Aside0.mk (hb);have I:=Aside0.mk (ho);clear HB;clear HO_4;have HB:=D;have ε :=I;clear D I;clear ho hb hg hat))
     go_roundg k1
     case measure=>have:=Y.out;omega
     case rel=>exact⟨(IntKind.u64.wrap (Int.tdiv B 128)),(γ),qR,H',⟨by have:=Y.out;omega⟩,⟨by(with_reducible repeat first|apply Kd.Qi|apply Kd.Qh|apply Kd.Ql);exact ε.out⟩,⟨by repeat(first|(with_reducible first|exact HB.out|apply Qe|apply Qa|apply Qf)|exact HB.out)⟩⟩
    ·rw[if_neg c4] at H
     exact absurd H (by simp)
   ·rw[if_neg c3] at H
    have c3b0:decide (128≤B)=false:=decide_eq_false c3
    clear c3
    by_cases c6:U.length<140737488355328
    ·rw[if_pos c6] at H
     have aa:=Aside0.mk c6
     clear c6
     obtain⟨θ,Z⟩:∃ y_:List Int,y_=(U ++ [(B) % 256]):=⟨_,rfl⟩
     replace H:(some θ)=some r:=by first|(rw[Z];with_reducible exact H)|(have φ :=(Option.bind_some _ _).symm.trans H;rw[Z];with_reducible exact φ)|(have φ :=(Option.bind_some _ _).symm.trans H;with_reducible exact φ)|with_reducible exact H|(rw[Z];exact H)|exact H
     have ζ :=Aside0.mk Z
     clear Z
     obtain rfl:=Option.some.inj H
     go_wp2_with (first|((with_reducible refine Zs (b:=.append) (xs:=#[.tmp 18,.tmp 21]) rfl ?_);at_builtin;refine Kd.Kf (Kd.int .u8) (w0:=w) w.heap.size rfl (.tmp 18) (.tmp 21) 22 5 (.int .u8 0) 1 rfl Tryd.underlying22 Zx rfl (by decide) (by omega) u4 U ((B) % 256) [.int .u8 ((B) % 256)] (fun _=>True) (fun _=>False) rfl rfl ?aP (fun _ hk=>hk.elim) ?aF ?aO ?aB ?aS ?aL ?_;(case aP=>exact rfl);(case aB=>exact(by repeat(first|(with_reducible first|exact HB.out|apply Qe|apply Qa|apply Qf)|exact HB.out)));(case aF=>exact(fun _ _=>trivial));(case aO=>exact(by(with_reducible repeat first|apply Kd.Qi|apply Kd.Qh|apply Kd.Ql);exact HO_4.out));(case aS=>exact(Qj (by repeat(first|(with_reducible first|exact HB.out|apply Qe|apply Qa|apply Qf)|exact HB.out))));(case aL=>have:=aa.out;omega);intro κ w7 ho hb hg hat;rw[← ζ.out] at ho;have D:=Aside0.mk (hb);have I:=Aside0.mk (ho);clear HB;clear HO_4;have HB:=D;have η :=I;clear D I;clear ho hb hg hat))
     go_ret
     exact⟨_,by first|rfl|(simp[Qo,Qn] <;> rfl)|(simp[*,Qo,Qn] <;> rfl),by(with_reducible repeat first|apply Kd.Qi|apply Kd.Qh|apply Kd.Ql);exact η.out,by repeat(first|(with_reducible first|exact HB.out|apply Qe|apply Qa|apply Qf)|exact HB.out)⟩
    ·rw[if_neg c6] at H
     exact absurd H (by simp)
def newelref08_Row.l0:Nat→List Int→List Int→Int→Option (List Int)
 |0,_,_,_=>none
 |k+1,O,I,B=>if B<(O.length:Int) then (if 0≤B then ((newelref08_Put.f k (rd O B)).bind fun J=>(if I.length+J.length<140737488355328 then (newelref08_Row.l0 k O (I++J) (wrap64 (B+1))) else (none))) else (none)) else (some I)
def newelref08_Row.f (k:Nat) (l0:List Int):Option (List Int):=(newelref08_Put.f k (l0.length:Int)).bind fun Z=>(newelref08_Row.l0 k l0 Z 0)
theorem newelref08_Row.Zl:∀ k,(∀ B I J,LeO (newelref08_Row.l0 k B I J) (newelref08_Row.l0 (k+1) B I J))
 |0=>fun _ _ _ r h=>by simp[newelref08_Row.l0] at h
 |k+1=>by
  have D:=newelref08_Row.Zl k
  ·intro B I J
   unfold newelref08_Row.l0
   repeat' first
   |(with_reducible exact D _ _ _)
   |(with_reducible exact newelref08_Put.mono _ _)
   |(with_reducible exact LeO.refl _)
   |(with_reducible exact LeO.none _)
   |(with_reducible refine LeO.ite ?_ ?_)
   |(with_reducible refine LeO.bind ?_ (fun _=>?_))
   |exact D _ _ _
   |exact newelref08_Put.mono _ _
   |exact LeO.none _
   |refine LeO.ite ?_ ?_
   |refine LeO.bind ?_ (fun _=>?_)
theorem newelref08_Row.mono:∀ J k,LeO (newelref08_Row.f k J) (newelref08_Row.f (k+1) J):=by
 intro J k
 have D:=newelref08_Row.Zl k
 unfold newelref08_Row.f
 repeat' first
   |(with_reducible exact D _ _ _)
   |(with_reducible exact newelref08_Put.mono _ _)
   |(with_reducible exact LeO.refl _)
   |(with_reducible exact LeO.none _)
   |(with_reducible refine LeO.ite ?_ ?_)
   |(with_reducible refine LeO.bind ?_ (fun _=>?_))
   |exact D _ _ _
   |exact newelref08_Put.mono _ _
   |exact LeO.none _
   |refine LeO.ite ?_ ?_
   |refine LeO.bind ?_ (fun _=>?_)
set_option maxHeartbeats 8000000 in
set_option maxRecDepth 100000 in
theorem newelref08_Row.calls (k:Nat) (A0:Option Addr) (c0:Nat) (l0:List Int) (r:List Int) (w:World) (ξ :Kd.C (Kd.int .i64) w A0 l0.length l0) (κ :l0.length≤c0) (h:newelref08_Row.f k l0=some r):
  Calls Tryd.prog 35 #[.slice A0 l0.length c0] w fun e w'=>∃ ak:Value,e = .returned (ak)∧Kd.R (Kd.int .u8) 5 w' w.heap.size (fun _=>True) ak r∧Below w.heap.size w w':=by
 have δ :=Aside0.mk ξ
 have ω :=Aside0.mk κ
 clear ξ κ
 have HB:=Aside0.mk (Below.refl w.heap.size w)
 have H:((newelref08_Put.f k (l0.length:Int)).bind fun Z=>(newelref08_Row.l0 k l0 Z 0))=some r:=h
 clear h
 replace H:=Option.bind_eq_some_iff.mp H
 obtain⟨Z,cg,H⟩:=H
 replace H:(newelref08_Row.l0 k l0 Z 0)=some r:=H
 have A2:=Aside0.mk cg
 clear cg
 have H':=Aside0.mk H
 clear H
 go_enter Tryd.func35,Tryd.ntmps35
 go_wp2_with (first|((with_reducible refine Qv (f:=36) rfl ?_);refine Ze (some 7) rfl rfl Tryd.func36 kr rfl #[.int .i64 (l0.length:Int)] rfl (by(try simp only[List.map_toArray,List.map_cons,List.map_nil]);first|done|rfl|(simp only[List.length_drop,List.length_take];rfl)) ?_;(with_reducible refine(newelref08_Put.calls k (l0.length:Int) Z _ A2.out).mono ?_);rintro e w3 ⟨a1,rfl,θ,hb⟩;refine⟨_,rfl, ?_⟩;have D:=Aside0.mk (Kd.Zd θ (Qj (by repeat(first|(with_reducible first|exact HB.out|apply Qe|apply Qa|apply Qf)|exact HB.out))));have I:=Aside0.mk (Qr (by repeat(first|(with_reducible first|exact HB.out|apply Qe|apply Qa|apply Qf)|exact HB.out)) hb);clear HB;have μ :=D;have HB:=I;clear D I;(try clear hb);(try clear az);(try clear hk);(try clear hi);(try clear θ)))
 go_loopg [3,4] k (fun kq v3 v4 w'=>∃ (B:List Int) (U:Int),v4 = .int .i64 U∧Aside0 (newelref08_Row.l0 kq l0 B U=some r)∧Aside0 (kq≤k)∧Aside0 (Kd.R (Kd.int .u8) 5 w' w.heap.size (fun _=>True) v3 B)∧Aside0 (Below w.heap.size w w'))
 case atStart=>exact⟨(Z),(0),qR,H',⟨Nat.le_refl _⟩,⟨by(with_reducible repeat first|apply Kd.Qi|apply Kd.Qh|apply Kd.Ql);exact μ.out⟩,⟨by repeat(first|(with_reducible first|exact HB.out|apply Qe|apply Qa|apply Qf)|exact HB.out)⟩⟩
 case round=>
  clear H'
  try clear p2
  try clear c3
  obtain⟨B,U,rfl,HA,Y,HO_3,HB⟩:=hrel
  cases gk with
  |zero=>exact absurd HA.out (by simp[newelref08_Row.l0])
  |succ k1=>
   have H:=HA.out
   clear HA
   simp only[newelref08_Row.l0] at H
   by_cases c4:U<(l0.length:Int)
   ·rw[if_pos c4] at H
    have c4b0:decide (U<(l0.length:Int))=true:=decide_eq_true c4
    clear c4
    by_cases c5:0≤U
    ·rw[if_pos c5] at H
     have c5b0:decide (0≤U)=true:=decide_eq_true c5
     clear c5
     replace H:=Option.bind_eq_some_iff.mp H
     obtain⟨J,bq,H⟩:=H
     replace H:(if B.length+J.length<140737488355328 then (newelref08_Row.l0 k1 l0 (B++J) (wrap64 (U+1))) else (none))=some r:=H
     have A6:=Aside0.mk bq
     clear bq
     by_cases c7:B.length+J.length<140737488355328
     ·rw[if_pos c7] at H
      have ab:=Aside0.mk c7
      clear c7
      obtain⟨ι,γ⟩:∃ y_:List Int,y_=(B++J):=⟨_,rfl⟩
      replace H:(newelref08_Row.l0 k1 l0 ι (wrap64 (U+1)))=some r:=by first|(rw[γ];with_reducible exact H)|(have φ :=(Option.bind_some _ _).symm.trans H;rw[γ];with_reducible exact φ)|(have φ :=(Option.bind_some _ _).symm.trans H;with_reducible exact φ)|with_reducible exact H|(rw[γ];exact H)|exact H
      have ν :=Aside0.mk γ
      clear γ
      have H':=Aside0.mk H
      clear H
      have ζ :0≤(U:Int):=of_decide_eq_true (by first|(with_reducible assumption)|assumption)
      have η :U<(l0.length:Int):=of_decide_eq_true (by first|(with_reducible assumption)|assumption)
      obtain⟨a0,σ,ε⟩:=Kd.Zr δ.out U ζ η
      cases σ
      replace ε :=(HB.out.cell (World.block_lt_of_cell? w _ ε)).trans ε
      replace ζ :=eq_true ζ
      replace η :=eq_true η
      go_wp2_with (first|((with_reducible refine Qv (f:=36) rfl ?_);refine Ze (some 19) rfl rfl Tryd.func36 kr rfl #[.int .i64 (rd l0 U)] rfl (by(try simp only[List.map_toArray,List.map_cons,List.map_nil]);first|done|rfl|(simp only[List.length_drop,List.length_take];rfl)) ?_;(with_reducible refine(newelref08_Put.calls k1 (rd l0 U) J _ A6.out).mono ?_);rintro e w8 ⟨a2,rfl,θ,hb⟩;refine⟨_,rfl, ?_⟩;have D:=Aside0.mk (Kd.Zj (by(with_reducible repeat first|apply Kd.Qi|apply Kd.Qh|apply Kd.Ql);exact HO_3.out) (Kd.Q5 θ) hb);have I:=Aside0.mk (Kd.Zd (Kd.Zi θ (Kd.Zp (by(with_reducible repeat first|apply Kd.Qi|apply Kd.Qh|apply Kd.Ql);exact HO_3.out))) (Qj (by repeat(first|(with_reducible first|exact HB.out|apply Qe|apply Qa|apply Qf)|exact HB.out))));have O:=Aside0.mk (Qr (by repeat(first|(with_reducible first|exact HB.out|apply Qe|apply Qa|apply Qf)|exact HB.out)) hb);clear HO_3;clear HB;have HO_3:=D;have X:=I;have HB:=O;clear D I O;(try clear hb);(try clear az);(try clear hk);(try clear hi);(try clear θ);obtain⟨τ,χ,ψ⟩:=Kd.Zf X.out;subst ψ)|((with_reducible refine Zs (b:=.append) (xs:=#[.tmp 14,.tmp 19]) rfl ?_);at_builtin;refine Kd.Zz (Kd.int .u8) (w0:=w) w.heap.size rfl (.tmp 14) (.tmp 19) 22 5 (.int .u8 0) 1 rfl Tryd.underlying22 Zx rfl (by decide) (by omega) u3 B J _ _ _ (fun k_=>some k_≠(.slice τ J.length χ :Value).ownBlock) (fun _=>False) rfl rfl ?aO ?aR (fun _ _ h=>h) (fun _ h=>h.elim) ?aF ?aB ?aS ?aL ?_;(case aR=>repeat(first|exact(Kd.Q4 X.out).2.2|(with_reducible refine Kd.Zc ?_ _)|(with_reducible refine Kd.Za ?_ _)|(with_reducible refine Kd.Zh ?_)));(case aB=>exact(by repeat(first|(with_reducible first|exact HB.out|apply Qe|apply Qa|apply Qf)|exact HB.out)));(case aF=>exact(fun k_ hk=>Kd.fresh' (Kd.Zp (by(with_reducible repeat first|apply Kd.Qi|apply Kd.Qh|apply Kd.Ql);exact X.out)) k_ hk));(case aO=>exact(by(with_reducible repeat first|apply Kd.Qi|apply Kd.Qh|apply Kd.Ql);exact Kd.Qu HO_3.out (fun _ hk=>hk.2)));(case aS=>exact(Qj (by repeat(first|(with_reducible first|exact HB.out|apply Qe|apply Qa|apply Qf)|exact HB.out))));(case aL=>have:=ab.out;omega);intro a3 w9 ho hb hg hat;rw[← ν.out] at ho;have D:=Aside0.mk (Kd.Ym (ok:=(fun _=>True)) (by(with_reducible repeat first|apply Kd.Qi|apply Kd.Qh|apply Kd.Ql);exact X.out) hg hat);have I:=Aside0.mk (hb);have O:=Aside0.mk (ho);clear X;clear HB;clear HO_3;have X:=D;have HB:=I;have ρ:=O;clear D I O;clear ho hb hg hat))
      go_roundg k1
      case measure=>have:=Y.out;omega
      case rel=>exact⟨(ι),(wrap64 (U+1)),qR,H',⟨by have:=Y.out;omega⟩,⟨by(with_reducible repeat first|apply Kd.Qi|apply Kd.Qh|apply Kd.Ql);exact Kd.Qu ρ.out (fun _ hk=>trivial)⟩,⟨by repeat(first|(with_reducible first|exact HB.out|apply Qe|apply Qa|apply Qf)|exact HB.out)⟩⟩
     ·rw[if_neg c7] at H
      exact absurd H (by simp)
    ·rw[if_neg c5] at H
     exact absurd H (by simp)
   ·rw[if_neg c4] at H
    have c4b0:decide (U<(l0.length:Int))=false:=decide_eq_false c4
    clear c4
    obtain rfl:=Option.some.inj H
    go_wp2
    go_ret
    exact⟨_,by first|rfl|(simp[Qo,Qn] <;> rfl)|(simp[*,Qo,Qn] <;> rfl),by(with_reducible repeat first|apply Kd.Qi|apply Kd.Qh|apply Kd.Ql);exact HO_3.out,by repeat(first|(with_reducible first|exact HB.out|apply Qe|apply Qa|apply Qf)|exact HB.out)⟩
def newelref09_bit.f (J:Int) (B:Bool):Option (Int):=if ((decide (J≥32768)) != B)=true then (some (Go.bits .xor .i64 (Int.tmod (wrap64 (J * 2)) 65536) 4129)) else (some (Int.tmod (wrap64 (J * 2)) 65536))
set_option maxHeartbeats 8000000 in
set_option maxRecDepth 100000 in
theorem newelref09_bit.calls (J:Int) (B:Bool) (r:Int) (w:World) (h:newelref09_bit.f J B=some r):
  Calls Tryd.prog 48 #[.int .i64 J,.bool B] w fun e w'=>e = .returned (.int .i64 r)∧Drawn0 w w':=by
 have H:(if ((decide (J≥32768)) != B)=true then (some (Go.bits .xor .i64 (Int.tmod (wrap64 (J * 2)) 65536) 4129)) else (some (Int.tmod (wrap64 (J * 2)) 65536)))=some r:=h
 clear h
 by_cases c3:((decide (J≥32768)) != B)=true
 ·rw[if_pos c3] at H
  have c3b0:((decide (J≥32768)) != B)=true:=c3
  (try(have c3b1:decide ((decide (J≥32768))=B)=false:=by simpa using c3))
  (try(have c3b2:((decide (J≥32768))==B)=false:=by simpa using c3))
  (try(have c3b3:¬ ((decide (J≥32768))=B):=by simpa using c3))
  clear c3
  obtain rfl:=Option.some.inj H
  go_enter Tryd.func48,Tryd.ntmps48
  go_wp2
  go_ret
  exact⟨qR,by repeat(first|exact Drawn0.refl _|apply Drawn0.step)⟩
 ·rw[if_neg c3] at H
  have c3b0:((decide (J≥32768)) != B)=false:=by simpa using c3
  (try(have c3b1:decide ((decide (J≥32768))=B)=true:=by simpa using c3))
  (try(have c3b2:((decide (J≥32768))==B)=true:=by simpa using c3))
  clear c3
  obtain rfl:=Option.some.inj H
  go_enter Tryd.func48,Tryd.ntmps48
  go_wp2
  go_ret
  exact⟨qR,by repeat(first|exact Drawn0.refl _|apply Drawn0.step)⟩
mutual
def newelref09_More.l0:Nat→List Int→Int→Int→Option (Int)
 |0,_,_,_=>none
 |k+1,U,I,J=>if J<(U.length:Int) then (newelref09_More.l1 k U I J 7) else (some I)
def newelref09_More.l1:Nat→List Int→Int→Int→Int→Option (Int)
 |0,_,_,_,_=>none
 |k+1,U,I,J,Y=>if Y≥0 then (if 0≤J then (if J<(U.length:Int) then (if 0≤(IntKind.u64.wrap (Y)) then ((newelref09_bit.f I ((Int.tmod (shr .u8 (rd U J) (IntKind.u64.wrap (Y))) 2)==1)).bind fun γ=>(newelref09_More.l1 k U γ J (wrap64 (Y-1)))) else (none)) else (none)) else (none)) else (newelref09_More.l0 k U I (wrap64 (J+1)))
end
def newelref09_More.f (k:Nat) (J:Int) (l1:List Int):Option (Int):=newelref09_More.l0 k l1 (Go.bits .and .i64 J 65535) 0
theorem newelref09_More.Zl:∀ k,(∀ B I J,LeO (newelref09_More.l0 k B I J) (newelref09_More.l0 (k+1) B I J))∧(∀ B I J U,LeO (newelref09_More.l1 k B I J U) (newelref09_More.l1 (k+1) B I J U))
 |0=>⟨fun _ _ _ r h=>by simp[newelref09_More.l0] at h,fun _ _ _ _ r h=>by simp[newelref09_More.l1] at h⟩
 |k+1=>by
  obtain⟨D,O⟩:=newelref09_More.Zl k
  refine⟨?_, ?_⟩
  ·intro B I J
   unfold newelref09_More.l0
   repeat' first
   |(with_reducible exact D _ _ _)
   |(with_reducible exact O _ _ _ _)
   |(with_reducible exact LeO.refl _)
   |(with_reducible exact LeO.none _)
   |(with_reducible refine LeO.ite ?_ ?_)
   |(with_reducible refine LeO.bind ?_ (fun _=>?_))
   |exact D _ _ _
   |exact O _ _ _ _
   |exact LeO.none _
   |refine LeO.ite ?_ ?_
   |refine LeO.bind ?_ (fun _=>?_)
  ·intro B I J U
   unfold newelref09_More.l1
   repeat' first
   |(with_reducible exact D _ _ _)
   |(with_reducible exact O _ _ _ _)
   |(with_reducible exact LeO.refl _)
   |(with_reducible exact LeO.none _)
   |(with_reducible refine LeO.ite ?_ ?_)
   |(with_reducible refine LeO.bind ?_ (fun _=>?_))
   |exact D _ _ _
   |exact O _ _ _ _
   |exact LeO.none _
   |refine LeO.ite ?_ ?_
   |refine LeO.bind ?_ (fun _=>?_)
theorem newelref09_More.mono:∀ J B k,LeO (newelref09_More.f k J B) (newelref09_More.f (k+1) J B):=by
 intro J B k
 obtain⟨D,O⟩:=newelref09_More.Zl k
 unfold newelref09_More.f
 repeat' first
   |(with_reducible exact D _ _ _)
   |(with_reducible exact O _ _ _ _)
   |(with_reducible exact LeO.refl _)
   |(with_reducible exact LeO.none _)
   |(with_reducible refine LeO.ite ?_ ?_)
   |(with_reducible refine LeO.bind ?_ (fun _=>?_))
   |exact D _ _ _
   |exact O _ _ _ _
   |exact LeO.none _
   |refine LeO.ite ?_ ?_
   |refine LeO.bind ?_ (fun _=>?_)
set_option maxHeartbeats 8000000 in
set_option maxRecDepth 100000 in
theorem newelref09_More.calls (k:Nat) (J:Int) (A1:Option Addr) (c1:Nat) (l1:List Int) (r:Int) (w:World) (O:Kd.C (Kd.int .u8) w A1 l1.length l1) (I:l1.length≤c1) (h:newelref09_More.f k J l1=some r):
  Calls Tryd.prog 45 #[.int .i64 J,.slice A1 l1.length c1] w fun e w'=>e = .returned (.int .i64 r)∧Drawn0 w w':=by
 have ε :=Aside0.mk O
 have ι :=Aside0.mk I
 clear O I
 have H:(newelref09_More.l0 k l1 (Go.bits .and .i64 J 65535) 0)=some r:=h
 clear h
 have H':=Aside0.mk H
 clear H
 go_enter Tryd.func45,Tryd.ntmps45
 go_wp2
 go_loopg [5,6] k (fun kq v5 v6 w'=>∃ (D:Int) (B:Int),v5 = .int .i64 D∧v6 = .int .i64 B∧Aside0 (newelref09_More.l0 kq l1 D B=some r)∧Aside0 (kq≤k)∧Drawn0 w w')
 case atStart=>exact⟨(Go.bits .and .i64 J 65535),(0),qR,qR,H',⟨Nat.le_refl _⟩,by repeat(first|exact Drawn0.refl _|apply Drawn0.step)⟩
 case round=>
  clear H'
  try clear c1
  try clear p2
  obtain⟨D,B,rfl,rfl,HA,Y,⟨m1,rfl⟩⟩:=hrel
  cases gk with
  |zero=>exact absurd HA.out (by simp[newelref09_More.l0])
  |succ k1=>
   have H:=HA.out
   clear HA
   simp only[newelref09_More.l0] at H
   by_cases c3:B<(l1.length:Int)
   ·rw[if_pos c3] at H
    have c3b0:decide (B<(l1.length:Int))=true:=decide_eq_true c3
    clear c3
    have H':=Aside0.mk H
    clear H
    go_wp2
    go_loopg [5,7] k1 (fun kq v5 v7 w'=>∃ (X:Int) (U:Int),v5 = .int .i64 X∧v7 = .int .i64 U∧Aside0 (newelref09_More.l1 kq l1 X B U=some r)∧Aside0 (kq≤k1)∧Drawn0 w w')
    case atStart=>exact⟨(D),(7),qR,qR,H',⟨Nat.le_refl _⟩,by repeat(first|exact Drawn0.refl _|apply Drawn0.step)⟩
    case round=>
     clear H'
     try clear c1
     try clear p2
     try clear c3
     try clear c3b0
     try clear p2
     obtain⟨X,U,rfl,rfl,HA,ar,⟨m2,rfl⟩⟩:=hrel
     cases gk with
     |zero=>exact absurd HA.out (by simp[newelref09_More.l1])
     |succ k2=>
      have H:=HA.out
      clear HA
      simp only[newelref09_More.l1] at H
      by_cases c4:U≥0
      ·rw[if_pos c4] at H
       have c4b0:decide (0≤U)=true:=decide_eq_true c4
       clear c4
       by_cases c5:0≤B
       ·rw[if_pos c5] at H
        have c5b0:decide (0≤B)=true:=decide_eq_true c5
        clear c5
        by_cases c6:B<(l1.length:Int)
        ·rw[if_pos c6] at H
         have c6b0:decide (B<(l1.length:Int))=true:=decide_eq_true c6
         clear c6
         obtain⟨δ,κ⟩:∃ j_:Int,(IntKind.u64.wrap (U))=j_:=⟨_,rfl⟩
         replace H:(if 0≤(δ) then ((newelref09_bit.f X ((Int.tmod (shr .u8 (rd l1 B) (δ)) 2)==1)).bind fun γ=>(newelref09_More.l1 k2 l1 γ B (wrap64 (U-1)))) else (none))=some r:=by first|(rw[κ] at H;exact H)|(simp only[κ] at H ⊢;exact H)
         by_cases c8:0≤(δ)
         ·rw[if_pos c8] at H
          have c8b0:=eq_true c8
          have c8b1:decide (0≤(δ))=true:=decide_eq_true c8
          clear c8
          obtain⟨Z,ζ⟩:∃ j_:Int,(shr .u8 (rd l1 B) (δ))=j_:=⟨_,rfl⟩
          replace H:((newelref09_bit.f X ((Int.tmod (Z) 2)==1)).bind fun γ=>(newelref09_More.l1 k2 l1 γ B (wrap64 (U-1))))=some r:=by first|(rw[ζ] at H;exact H)|(simp only[ζ] at H ⊢;exact H)
          have ξ :((rd l1 B) / 2 ^ min (δ).toNat 8)=Z:= ζ
          have hji9z:(δ)≤8→((rd l1 B) / 2 ^ (δ).toNat)=Z:=Wy ζ
          replace H:=Option.bind_eq_some_iff.mp H
          obtain⟨γ,bc,H⟩:=H
          replace H:(newelref09_More.l1 k2 l1 γ B (wrap64 (U-1)))=some r:=H
          have bi:=Aside0.mk bc
          clear bc
          have H':=Aside0.mk H
          clear H
          have η :0≤(B:Int):=of_decide_eq_true (by first|(with_reducible assumption)|assumption)
          have θ :B<(l1.length:Int):=of_decide_eq_true (by first|(with_reducible assumption)|assumption)
          obtain⟨ρ,μ,ν⟩:=Kd.Zr ε.out B η θ
          cases μ
          replace η :=eq_true η
          replace θ :=eq_true θ
          go_wp2_with (first|((with_reducible refine Qv (f:=48) rfl ?_);refine Ze (some 30) rfl rfl Tryd.func48 kr rfl #[.int .i64 X,.bool ((Int.tmod (Z) 2)==1)] rfl (by(try simp only[List.map_toArray,List.map_cons,List.map_nil]);first|done|(simp only[ζ];rfl)|rfl|(simp only[List.length_drop,List.length_take];rfl)) ?_;(with_reducible refine(newelref09_bit.calls X ((Int.tmod (Z) 2)==1) γ _ bi.out).mono ?_);rintro e w' ⟨rfl,⟨nd,rfl⟩⟩;refine⟨_,rfl, ?_⟩))
          go_roundg k2
          case measure=>have:=Y.out;have:=ar.out;omega
          case rel=>exact⟨(γ),(wrap64 (U-1)),qR,qR,H',⟨by have:=Y.out;have:=ar.out;omega⟩,by repeat(first|exact Drawn0.refl _|apply Drawn0.step)⟩
         ·rw[if_neg c8] at H
          exact absurd H (by simp)
        ·rw[if_neg c6] at H
         exact absurd H (by simp)
       ·rw[if_neg c5] at H
        exact absurd H (by simp)
      ·rw[if_neg c4] at H
       have c4b0:decide (0≤U)=false:=decide_eq_false c4
       clear c4
       have H':=Aside0.mk H
       clear H
       go_wp2
       go_roundg k2
       case measure=>have:=Y.out;have:=ar.out;omega
       case rel=>exact⟨(X),(wrap64 (B+1)),qR,qR,H',⟨by have:=Y.out;have:=ar.out;omega⟩,by repeat(first|exact Drawn0.refl _|apply Drawn0.step)⟩
   ·rw[if_neg c3] at H
    have c3b0:decide (B<(l1.length:Int))=false:=decide_eq_false c3
    clear c3
    obtain rfl:=Option.some.inj H
    go_wp2
    go_ret
    exact⟨qR,by repeat(first|exact Drawn0.refl _|apply Drawn0.step)⟩
def newelref09_Open.f (k:Nat) (l0:List Int):Option (List Int×Int):=if (l0.length:Int)<2 then (some (([]:List Int),90)) else (if 0≤(wrap64 ((l0.length:Int)-2)) then (if (wrap64 ((l0.length:Int)-2))≤(l0.length:Int) then ((newelref09_More.f k 65535 (l0.take ((wrap64 ((l0.length:Int)-2)):Int).toNat)).bind fun D=>(if (wrap64 ((l0.length:Int)-2))<(l0.length:Int) then (if (wrap64 (rd l0 (wrap64 ((l0.length:Int)-2))))=(wrap64 (Int.tdiv D 256)) then (if 0≤(wrap64 ((wrap64 ((l0.length:Int)-2))+1)) then (if (wrap64 ((wrap64 ((l0.length:Int)-2))+1))<(l0.length:Int) then (if (wrap64 (rd l0 (wrap64 ((wrap64 ((l0.length:Int)-2))+1))))=(Int.tmod D 256) then (some ((l0.take ((wrap64 ((l0.length:Int)-2)):Int).toNat),0)) else (some (([]:List Int),91))) else (none)) else (none)) else (some (([]:List Int),91))) else (none))) else (none)) else (none))
theorem newelref09_Open.mono:∀ J k,LeO (newelref09_Open.f k J) (newelref09_Open.f (k+1) J):=by
 intro J k
 unfold newelref09_Open.f
 repeat' first
   |(with_reducible exact newelref09_More.mono _ _ _)
   |(with_reducible exact LeO.refl _)
   |(with_reducible exact LeO.none _)
   |(with_reducible refine LeO.ite ?_ ?_)
   |(with_reducible refine LeO.bind ?_ (fun _=>?_))
   |exact newelref09_More.mono _ _ _
   |exact LeO.none _
   |refine LeO.ite ?_ ?_
   |refine LeO.bind ?_ (fun _=>?_)
set_option maxHeartbeats 8000000 in
set_option maxRecDepth 100000 in
theorem newelref09_Open.calls (k:Nat) (aw:Nat→Prop) (A0:Option Addr) (c0:Nat) (l0:List Int) (r1:List Int) (r2:Int) (w:World) (ai:Kd.V (Kd.int .u8) 5 w w.heap.size (fun k_=>aw k_) (.slice A0 l0.length c0) l0) (h:newelref09_Open.f k l0=some (r1,r2)):
  Calls Tryd.prog 40 #[.slice A0 l0.length c0] w fun e w'=>∃ ak:Value,e = .returned (.tuple #[ak,.int .i64 r2])∧Kd.V (Kd.int .u8) 5 w' w.heap.size (fun k_=>(aw k_∨w.heap.size≤k_)) ak r1∧Below w.heap.size w w':=by
 have δ :=Aside0.mk (show Kd.V (Kd.int .u8) 5 w w.heap.size (fun k_=>(aw k_∨w.heap.size≤k_)) (.slice A0 l0.length c0) l0 from Kd.Qt ai (fun k_ hk=>.inl hk))
 have HB:=Aside0.mk (Below.refl w.heap.size w)
 have H:(if (l0.length:Int)<2 then (some (([]:List Int),90)) else (if 0≤(wrap64 ((l0.length:Int)-2)) then (if (wrap64 ((l0.length:Int)-2))≤(l0.length:Int) then ((newelref09_More.f k 65535 (l0.take ((wrap64 ((l0.length:Int)-2)):Int).toNat)).bind fun D=>(if (wrap64 ((l0.length:Int)-2))<(l0.length:Int) then (if (wrap64 (rd l0 (wrap64 ((l0.length:Int)-2))))=(wrap64 (Int.tdiv D 256)) then (if 0≤(wrap64 ((wrap64 ((l0.length:Int)-2))+1)) then (if (wrap64 ((wrap64 ((l0.length:Int)-2))+1))<(l0.length:Int) then (if (wrap64 (rd l0 (wrap64 ((wrap64 ((l0.length:Int)-2))+1))))=(Int.tmod D 256) then (some ((l0.take ((wrap64 ((l0.length:Int)-2)):Int).toNat),0)) else (some (([]:List Int),91))) else (none)) else (none)) else (some (([]:List Int),91))) else (none))) else (none)) else (none)))=some (r1,r2):=h
 clear h
 by_cases c2:(l0.length:Int)<2
 ·rw[if_pos c2] at H
  have c2b0:decide ((l0.length:Int)<2)=true:=decide_eq_true c2
  have c2b1:decide (l0.length<2)=true:=decide_eq_true (by omega)
  clear c2
  simp only[Option.some.injEq,Prod.mk.injEq] at H
  obtain⟨rfl,rfl⟩:=H
  go_enter Tryd.func40,Tryd.ntmps40
  go_wp2
  go_ret2
  refine⟨.slice none 0 0,by first|rfl|(simp[Qo,Qn] <;> rfl)|(simp[*,Qo,Qn] <;> rfl),Kd.Qt (Kd.R_V (Kd.Z1 _ _ _ w.heap.size _)) (fun k_ hk=>by first|exact⟨(.inr (hk.1)),hk.2⟩|exact(.inr (hk))),by repeat(first|(with_reducible first|exact HB.out|apply Qe|apply Qa|apply Qf)|exact HB.out)⟩
 ·rw[if_neg c2] at H
  have c2b0:decide ((l0.length:Int)<2)=false:=decide_eq_false c2
  have c2b1:decide (l0.length<2)=false:=decide_eq_false (by omega)
  clear c2
  obtain⟨B,ν⟩:∃ j_:Int,(wrap64 ((l0.length:Int)-2))=j_:=⟨_,rfl⟩
  replace H:(if 0≤(B) then (if (B)≤(l0.length:Int) then ((newelref09_More.f k 65535 (l0.take ((B):Int).toNat)).bind fun D=>(if (B)<(l0.length:Int) then (if (wrap64 (rd l0 (B)))=(wrap64 (Int.tdiv D 256)) then (if 0≤(wrap64 ((B)+1)) then (if (wrap64 ((B)+1))<(l0.length:Int) then (if (wrap64 (rd l0 (wrap64 ((B)+1))))=(Int.tmod D 256) then (some ((l0.take ((B):Int).toNat),0)) else (some (([]:List Int),91))) else (none)) else (none)) else (some (([]:List Int),91))) else (none))) else (none)) else (none))=some (r1,r2):=by first|(rw[ν] at H;exact H)|(simp only[ν] at H ⊢;exact H)
  have hji3w:(IntKind.i64.wrap ((l0.length:Int)-2))=B:=(Zu _).trans ν
  by_cases c4:0≤(B)
  ·rw[if_pos c4] at H
   have c4b0:=eq_true c4
   have c4b1:decide (0≤(B))=true:=decide_eq_true c4
   clear c4
   by_cases c5:(B)≤(l0.length:Int)
   ·rw[if_pos c5] at H
    have c5b0:=eq_true c5
    have c5b1:decide ((B)≤(l0.length:Int))=true:=decide_eq_true c5
    clear c5
    obtain⟨I,θ⟩:∃ y_:List Int,y_=(l0.take ((B):Int).toNat):=⟨_,rfl⟩
    replace H:((newelref09_More.f k 65535 I).bind fun D=>(if (B)<(l0.length:Int) then (if (wrap64 (rd l0 (B)))=(wrap64 (Int.tdiv D 256)) then (if 0≤(wrap64 ((B)+1)) then (if (wrap64 ((B)+1))<(l0.length:Int) then (if (wrap64 (rd l0 (wrap64 ((B)+1))))=(Int.tmod D 256) then (some ((l0.take ((B):Int).toNat),0)) else (some (([]:List Int),91))) else (none)) else (none)) else (some (([]:List Int),91))) else (none)))=some (r1,r2):=by first|(rw[θ];with_reducible exact H)|(have φ :=(Option.bind_some _ _).symm.trans H;rw[θ];with_reducible exact φ)|(have φ :=(Option.bind_some _ _).symm.trans H;with_reducible exact φ)|with_reducible exact H|(rw[θ];exact H)|exact H
    have X:=Aside0.mk θ
    clear θ
    replace H:=Option.bind_eq_some_iff.mp H
    obtain⟨D,bq,H⟩:=H
    replace H:(if (B)<(l0.length:Int) then (if (wrap64 (rd l0 (B)))=(wrap64 (Int.tdiv D 256)) then (if 0≤(wrap64 ((B)+1)) then (if (wrap64 ((B)+1))<(l0.length:Int) then (if (wrap64 (rd l0 (wrap64 ((B)+1))))=(Int.tmod D 256) then (some ((l0.take ((B):Int).toNat),0)) else (some (([]:List Int),91))) else (none)) else (none)) else (some (([]:List Int),91))) else (none))=some (r1,r2):=H
    have A6:=Aside0.mk bq
    clear bq
    by_cases c7:(B)<(l0.length:Int)
    ·rw[if_pos c7] at H
     have c7b0:decide ((B)<(l0.length:Int))=true:=decide_eq_true c7
     clear c7
     by_cases c8:(wrap64 (rd l0 (B)))=(wrap64 (Int.tdiv D 256))
     ·rw[if_pos c8] at H
      have c8b0:((wrap64 (rd l0 (B)))==(wrap64 (Int.tdiv D 256)))=true:=beq_iff_eq.mpr c8
      have c8b1:((wrap64 (rd l0 (B))) != (wrap64 (Int.tdiv D 256)))=false:=bne_eq_false_iff_eq.mpr c8
      clear c8
      obtain⟨Z,ζ⟩:∃ j_:Int,(wrap64 ((B)+1))=j_:=⟨_,rfl⟩
      replace H:(if 0≤(Z) then (if (Z)<(l0.length:Int) then (if (wrap64 (rd l0 (Z)))=(Int.tmod D 256) then (some ((l0.take ((B):Int).toNat),0)) else (some (([]:List Int),91))) else (none)) else (none))=some (r1,r2):=by first|(rw[ζ] at H;exact H)|(simp only[ζ] at H ⊢;exact H)
      (try rw[ζ] at A6)
      have hji9w:(IntKind.i64.wrap ((B)+1))=Z:=(Zu _).trans ζ
      by_cases c10:0≤(Z)
      ·rw[if_pos c10] at H
       have c10b0:decide (0≤(Z))=true:=decide_eq_true c10
       clear c10
       by_cases bf:(Z)<(l0.length:Int)
       ·rw[if_pos bf] at H
        have c11b0:decide ((Z)<(l0.length:Int))=true:=decide_eq_true bf
        clear bf
        by_cases bl:(wrap64 (rd l0 (Z)))=(Int.tmod D 256)
        ·rw[if_pos bl] at H
         have c12b0:((wrap64 (rd l0 (Z)))==(Int.tmod D 256))=true:=beq_iff_eq.mpr bl
         have c12b1:((wrap64 (rd l0 (Z))) != (Int.tmod D 256))=false:=bne_eq_false_iff_eq.mpr bl
         clear bl
         have c13b0:=eq_true (of_decide_eq_true (by first|(with_reducible assumption)|assumption):0≤(B))
         have c14b0:=eq_true (of_decide_eq_true (by first|(with_reducible assumption)|assumption):(B)≤(l0.length:Int))
         obtain⟨μ,ι⟩:∃ y_:List Int,y_=(l0.take ((B):Int).toNat):=⟨_,rfl⟩
         replace H:(some (μ,0))=some (r1,r2):=by first|(rw[ι];with_reducible exact H)|(have φ :=(Option.bind_some _ _).symm.trans H;rw[ι];with_reducible exact φ)|(have φ :=(Option.bind_some _ _).symm.trans H;with_reducible exact φ)|with_reducible exact H|(rw[ι];exact H)|exact H
         have κ :=Aside0.mk ι
         clear ι
         simp only[Option.some.injEq,Prod.mk.injEq] at H
         obtain⟨rfl,rfl⟩:=H
         have ah:((B):Int)≤((l0.length:Int):Int):=of_decide_eq_true (by first|(with_reducible assumption)|assumption)
         obtain⟨ao,ψ,_,a3,_⟩:=info_parts Zx
         have hroom15:l0.length≤c0:=(Kd.Zm δ.out).2.1
         have a6:Kd.F (Kd.int .u8) _ _ A0 l0.length l0:=(Kd.Ul (base:=w.heap.size) δ.out).2.2
         have ac:=Yr (P:=Tryd.prog) 22 5 .i64 Tryd.underlying22 ψ A0 l0.length c0 (B) (of_decide_eq_true (by first|(with_reducible assumption)|assumption)) ah hroom15
         have ω :=Kd.Vp (m:=((B):Int).toNat) a6 (by omega)
         have a0:I.length=((B):Int).toNat:=(by rw[X.out,List.length_take];omega)
         rw[← X.out] at ω
         rw[← a0] at ac
         have U:=Aside0.mk (show Kd.V (Kd.int .u8) 5 _ w.heap.size _ (.slice A0 I.length c0) I from Kd.Vn (by omega) ω)
         have ab:=Aside0.mk (show I.length≤c0 from by omega)
         clear ω a6 hroom15 ψ a3
         have b1:=Aside0.mk a0
         clear a0
         replace ah:=eq_true ah
         go_enter Tryd.func40,Tryd.ntmps40
         go_wp2_with (first|((with_reducible refine Qv (f:=45) rfl ?_);refine Ze (some 15) rfl rfl Tryd.func45 kr rfl #[.int .i64 65535,.slice A0 I.length c0] rfl (by(try simp only[List.map_toArray,List.map_cons,List.map_nil]);first|done|rfl|(simp only[List.length_drop,List.length_take];rfl)) ?_;(with_reducible refine(newelref09_More.calls k 65535 _ _ I D _ ?side1 ?side2 A6.out).mono ?_);(case side1=>repeat(first|exact(Kd.Zm U.out).2.2|(with_reducible refine Kd.Zc ?_ _)|(with_reducible refine Kd.Za ?_ _)|(with_reducible refine Kd.Zh ?_)));(case side2=>exact(Kd.Zm U.out).2.1);rintro e w' ⟨rfl,⟨nd,rfl⟩⟩;refine⟨_,rfl, ?_⟩;have J:0≤((B):Int):=of_decide_eq_true (by first|(with_reducible assumption)|assumption);have O:(B)<(l0.length:Int):=of_decide_eq_true (by first|(with_reducible assumption)|assumption);obtain⟨Y,ξ,τ⟩:=Kd.Zr (Kd.Zm δ.out).2.2 (B) J O;cases ξ;replace J:=eq_true J;replace O:=eq_true O;have γ:0≤((Z):Int):=of_decide_eq_true (by first|(with_reducible assumption)|assumption);have ε :(Z)<(l0.length:Int):=of_decide_eq_true (by first|(with_reducible assumption)|assumption);obtain⟨χ,a1,ag⟩:=Kd.Zr (Kd.Zm δ.out).2.2 (Z) γ ε;obtain rfl:Y = χ :=(by injection a1);replace γ:=eq_true γ;replace ε :=eq_true ε;have al:((B):Int)≤((l0.length:Int):Int):=of_decide_eq_true (by first|(with_reducible assumption)|assumption);obtain⟨b2,ae,_,ax,_⟩:=info_parts Zx;have hroom16:l0.length≤c0:=(Kd.Zm δ.out).2.1;have am:Kd.F (Kd.int .u8) _ _ (some Y) l0.length l0:=(Kd.Ul (base:=w.heap.size) δ.out).2.2;have an:=Yr (P:=Tryd.prog) 22 5 .i64 Tryd.underlying22 ae (some Y) l0.length c0 (B) (of_decide_eq_true (by first|(with_reducible assumption)|assumption)) al hroom16;have a2:=Kd.Vp (m:=((B):Int).toNat) am (by omega);have a4: μ.length=((B):Int).toNat:=(by rw[κ.out,List.length_take];omega);rw[← κ.out] at a2;rw[← a4] at an;have ay:=Aside0.mk (show Kd.V (Kd.int .u8) 5 _ w.heap.size _ (.slice (some Y) μ.length c0) μ from Kd.Vn (by omega) a2);have b0:=Aside0.mk (show μ.length≤c0 from by omega);clear a2 am hroom16 ae ax;have b3:=Aside0.mk a4;clear a4;replace al:=eq_true al))
         go_ret2
         (have e_:= κ.out.trans X.out.symm;clear κ;subst e_);exact⟨_,by first|rfl|(simp[Qo,Qn] <;> rfl)|(simp only[← ν,← ζ];first|rfl|(simp[Qo,Qn] <;> rfl))|(simp[*,Qo,Qn] <;> rfl),by(with_reducible repeat first|apply Kd.Qx|apply Kd.Qw|apply Kd.Q0);exact ay.out,by repeat(first|(with_reducible first|exact HB.out|apply Qe|apply Qa|apply Qf)|exact HB.out)⟩
        ·rw[if_neg bl] at H
         have c12b0:((wrap64 (rd l0 (Z)))==(Int.tmod D 256))=false:=beq_eq_false_iff_ne.mpr bl
         have c12b1:((wrap64 (rd l0 (Z))) != (Int.tmod D 256))=true:=bne_iff_ne.mpr bl
         simp only[Option.some.injEq,Prod.mk.injEq] at H
         obtain⟨rfl,rfl⟩:=H
         have ap:((B):Int)≤((l0.length:Int):Int):=of_decide_eq_true (by first|(with_reducible assumption)|assumption)
         obtain⟨b4,af,_,az,_⟩:=info_parts Zx
         have hroom17:l0.length≤c0:=(Kd.Zm δ.out).2.1
         have ar:Kd.F (Kd.int .u8) _ _ A0 l0.length l0:=(Kd.Ul (base:=w.heap.size) δ.out).2.2
         have au:=Yr (P:=Tryd.prog) 22 5 .i64 Tryd.underlying22 af A0 l0.length c0 (B) (of_decide_eq_true (by first|(with_reducible assumption)|assumption)) ap hroom17
         have a5:=Kd.Vp (m:=((B):Int).toNat) ar (by omega)
         have a7:I.length=((B):Int).toNat:=(by rw[X.out,List.length_take];omega)
         rw[← X.out] at a5
         rw[← a7] at au
         have U:=Aside0.mk (show Kd.V (Kd.int .u8) 5 _ w.heap.size _ (.slice A0 I.length c0) I from Kd.Vn (by omega) a5)
         have ab:=Aside0.mk (show I.length≤c0 from by omega)
         clear a5 ar hroom17 af az
         have b5:=Aside0.mk a7
         clear a7
         replace ap:=eq_true ap
         go_enter Tryd.func40,Tryd.ntmps40
         go_wp2_with (first|((with_reducible refine Qv (f:=45) rfl ?_);refine Ze (some 15) rfl rfl Tryd.func45 kr rfl #[.int .i64 65535,.slice A0 I.length c0] rfl (by(try simp only[List.map_toArray,List.map_cons,List.map_nil]);first|done|rfl|(simp only[List.length_drop,List.length_take];rfl)) ?_;(with_reducible refine(newelref09_More.calls k 65535 _ _ I D _ ?side1 ?side2 A6.out).mono ?_);(case side1=>repeat(first|exact(Kd.Zm U.out).2.2|(with_reducible refine Kd.Zc ?_ _)|(with_reducible refine Kd.Za ?_ _)|(with_reducible refine Kd.Zh ?_)));(case side2=>exact(Kd.Zm U.out).2.1);rintro e w' ⟨rfl,⟨nd,rfl⟩⟩;refine⟨_,rfl, ?_⟩;have J:0≤((B):Int):=of_decide_eq_true (by first|(with_reducible assumption)|assumption);have O:(B)<(l0.length:Int):=of_decide_eq_true (by first|(with_reducible assumption)|assumption);obtain⟨Y,ξ,τ⟩:=Kd.Zr (Kd.Zm δ.out).2.2 (B) J O;cases ξ;replace J:=eq_true J;replace O:=eq_true O;have γ:0≤((Z):Int):=of_decide_eq_true (by first|(with_reducible assumption)|assumption);have ε :(Z)<(l0.length:Int):=of_decide_eq_true (by first|(with_reducible assumption)|assumption);obtain⟨χ,a1,ag⟩:=Kd.Zr (Kd.Zm δ.out).2.2 (Z) γ ε;obtain rfl:Y = χ :=(by injection a1);replace γ:=eq_true γ;replace ε :=eq_true ε))
         go_ret2
         refine⟨.slice none 0 0,by first|rfl|(simp[Qo,Qn] <;> rfl)|(simp only[← ν,← ζ];first|rfl|(simp[Qo,Qn] <;> rfl))|(simp[*,Qo,Qn] <;> rfl),Kd.Qt (Kd.R_V (Kd.Z1 _ _ _ w.heap.size _)) (fun k_ hk=>by first|exact⟨(.inr (hk.1)),hk.2⟩|exact(.inr (hk))),by repeat(first|(with_reducible first|exact HB.out|apply Qe|apply Qa|apply Qf)|exact HB.out)⟩
       ·rw[if_neg bf] at H
        exact absurd H (by simp)
      ·rw[if_neg c10] at H
       exact absurd H (by simp)
     ·rw[if_neg c8] at H
      have c8b0:((wrap64 (rd l0 (B)))==(wrap64 (Int.tdiv D 256)))=false:=beq_eq_false_iff_ne.mpr c8
      have c8b1:((wrap64 (rd l0 (B))) != (wrap64 (Int.tdiv D 256)))=true:=bne_iff_ne.mpr c8
      simp only[Option.some.injEq,Prod.mk.injEq] at H
      obtain⟨rfl,rfl⟩:=H
      have av:((B):Int)≤((l0.length:Int):Int):=of_decide_eq_true (by first|(with_reducible assumption)|assumption)
      obtain⟨aj,η,_,ρ,_⟩:=info_parts Zx
      have hroom18:l0.length≤c0:=(Kd.Zm δ.out).2.1
      have σ:Kd.F (Kd.int .u8) _ _ A0 l0.length l0:=(Kd.Ul (base:=w.heap.size) δ.out).2.2
      have a9:=Yr (P:=Tryd.prog) 22 5 .i64 Tryd.underlying22 η A0 l0.length c0 (B) (of_decide_eq_true (by first|(with_reducible assumption)|assumption)) av hroom18
      have a8:=Kd.Vp (m:=((B):Int).toNat) σ (by omega)
      have aa:I.length=((B):Int).toNat:=(by rw[X.out,List.length_take];omega)
      rw[← X.out] at a8
      rw[← aa] at a9
      have U:=Aside0.mk (show Kd.V (Kd.int .u8) 5 _ w.heap.size _ (.slice A0 I.length c0) I from Kd.Vn (by omega) a8)
      have ab:=Aside0.mk (show I.length≤c0 from by omega)
      clear a8 σ hroom18 η ρ
      have b6:=Aside0.mk aa
      clear aa
      replace av:=eq_true av
      go_enter Tryd.func40,Tryd.ntmps40
      go_wp2_with (first|((with_reducible refine Qv (f:=45) rfl ?_);refine Ze (some 15) rfl rfl Tryd.func45 kr rfl #[.int .i64 65535,.slice A0 I.length c0] rfl (by(try simp only[List.map_toArray,List.map_cons,List.map_nil]);first|done|rfl|(simp only[List.length_drop,List.length_take];rfl)) ?_;(with_reducible refine(newelref09_More.calls k 65535 _ _ I D _ ?side1 ?side2 A6.out).mono ?_);(case side1=>repeat(first|exact(Kd.Zm U.out).2.2|(with_reducible refine Kd.Zc ?_ _)|(with_reducible refine Kd.Za ?_ _)|(with_reducible refine Kd.Zh ?_)));(case side2=>exact(Kd.Zm U.out).2.1);rintro e w' ⟨rfl,⟨nd,rfl⟩⟩;refine⟨_,rfl, ?_⟩;have J:0≤((B):Int):=of_decide_eq_true (by first|(with_reducible assumption)|assumption);have O:(B)<(l0.length:Int):=of_decide_eq_true (by first|(with_reducible assumption)|assumption);obtain⟨Y,ξ,τ⟩:=Kd.Zr (Kd.Zm δ.out).2.2 (B) J O;cases ξ;replace J:=eq_true J;replace O:=eq_true O))
      go_ret2
      refine⟨.slice none 0 0,by first|rfl|(simp[Qo,Qn] <;> rfl)|(simp only[← ν];first|rfl|(simp[Qo,Qn] <;> rfl))|(simp[*,Qo,Qn] <;> rfl),Kd.Qt (Kd.R_V (Kd.Z1 _ _ _ w.heap.size _)) (fun k_ hk=>by first|exact⟨(.inr (hk.1)),hk.2⟩|exact(.inr (hk))),by repeat(first|(with_reducible first|exact HB.out|apply Qe|apply Qa|apply Qf)|exact HB.out)⟩
    ·rw[if_neg c7] at H
     exact absurd H (by simp)
   ·rw[if_neg c5] at H
    exact absurd H (by simp)
  ·rw[if_neg c4] at H
   exact absurd H (by simp)
def newelref09_Seal.f (k:Nat) (l0:List Int):Option (List Int):=(newelref09_More.f k 65535 l0).bind fun B=>(if ([]:List Int).length+l0.length<140737488355328 then ((some (([]:List Int)++l0:List Int)).bind fun U=>((some (([(wrap64 (Int.tdiv B 256)) % 256,(Int.tmod B 256) % 256]:List Int):List Int)).bind fun J=>(if U.length+J.length<140737488355328 then (some (U++J)) else (none)))) else (none))
theorem newelref09_Seal.mono:∀ J k,LeO (newelref09_Seal.f k J) (newelref09_Seal.f (k+1) J):=by
 intro J k
 unfold newelref09_Seal.f
 repeat' first
   |(with_reducible exact newelref09_More.mono _ _ _)
   |(with_reducible exact LeO.refl _)
   |(with_reducible exact LeO.none _)
   |(with_reducible refine LeO.ite ?_ ?_)
   |(with_reducible refine LeO.bind ?_ (fun _=>?_))
   |exact newelref09_More.mono _ _ _
   |exact LeO.none _
   |refine LeO.ite ?_ ?_
   |refine LeO.bind ?_ (fun _=>?_)
set_option maxHeartbeats 8000000 in
set_option maxRecDepth 100000 in
theorem newelref09_Seal.calls (k:Nat) (A0:Option Addr) (c0:Nat) (l0:List Int) (r:List Int) (w:World) (ξ :Kd.C (Kd.int .u8) w A0 l0.length l0) (κ :l0.length≤c0) (h:newelref09_Seal.f k l0=some r):
  Calls Tryd.prog 37 #[.slice A0 l0.length c0] w fun e w'=>∃ ak:Value,e = .returned (ak)∧Kd.R (Kd.int .u8) 5 w' w.heap.size (fun _=>True) ak r∧Below w.heap.size w w':=by
 have δ :=Aside0.mk ξ
 have ω :=Aside0.mk κ
 clear ξ κ
 have HB:=Aside0.mk (Below.refl w.heap.size w)
 have H:((newelref09_More.f k 65535 l0).bind fun B=>(if ([]:List Int).length+l0.length<140737488355328 then ((some (([]:List Int)++l0:List Int)).bind fun U=>((some (([(wrap64 (Int.tdiv B 256)) % 256,(Int.tmod B 256) % 256]:List Int):List Int)).bind fun J=>(if U.length+J.length<140737488355328 then (some (U++J)) else (none)))) else (none)))=some r:=h
 clear h
 replace H:=Option.bind_eq_some_iff.mp H
 obtain⟨B,cg,H⟩:=H
 replace H:(if ([]:List Int).length+l0.length<140737488355328 then ((some (([]:List Int)++l0:List Int)).bind fun U=>((some (([(wrap64 (Int.tdiv B 256)) % 256,(Int.tmod B 256) % 256]:List Int):List Int)).bind fun J=>(if U.length+J.length<140737488355328 then (some (U++J)) else (none)))) else (none))=some r:=H
 have A2:=Aside0.mk cg
 clear cg
 by_cases c3:([]:List Int).length+l0.length<140737488355328
 ·rw[if_pos c3] at H
  have am:=Aside0.mk c3
  clear c3
  obtain⟨U,Z⟩:∃ y_:List Int,y_=(([]:List Int)++l0):=⟨_,rfl⟩
  replace H:((some (([(wrap64 (Int.tdiv B 256)) % 256,(Int.tmod B 256) % 256]:List Int):List Int)).bind fun J=>(if U.length+J.length<140737488355328 then (some (U++J)) else (none)))=some r:=by first|(rw[Z];with_reducible exact H)|(have φ :=(Option.bind_some _ _).symm.trans H;rw[Z];with_reducible exact φ)|(have φ :=(Option.bind_some _ _).symm.trans H;with_reducible exact φ)|with_reducible exact H|(rw[Z];exact H)|exact H
  have θ :=Aside0.mk Z
  clear Z
  obtain⟨J,γ⟩:∃ y_:List Int,y_=(([(wrap64 (Int.tdiv B 256)) % 256,(Int.tmod B 256) % 256]:List Int)):=⟨_,rfl⟩
  replace H:(if U.length+J.length<140737488355328 then (some (U++J)) else (none))=some r:=by first|(rw[γ];with_reducible exact H)|(have φ :=(Option.bind_some _ _).symm.trans H;rw[γ];with_reducible exact φ)|(have φ :=(Option.bind_some _ _).symm.trans H;with_reducible exact φ)|with_reducible exact H|(rw[γ];exact H)|exact H
  have η :=Aside0.mk γ
  clear γ
  by_cases c4:U.length+J.length<140737488355328
  ·rw[if_pos c4] at H
   have a7:=Aside0.mk c4
   clear c4
   obtain⟨ν,ε⟩:∃ y_:List Int,y_=(U++J):=⟨_,rfl⟩
   replace H:(some ν)=some r:=by first|(rw[ε];with_reducible exact H)|(have φ :=(Option.bind_some _ _).symm.trans H;rw[ε];with_reducible exact φ)|(have φ :=(Option.bind_some _ _).symm.trans H;with_reducible exact φ)|with_reducible exact H|(rw[ε];exact H)|exact H
   have ι :=Aside0.mk ε
   clear ε
   obtain rfl:=Option.some.inj H
   go_enter Tryd.func37,Tryd.ntmps37
   go_wp2_with (first|((with_reducible refine Qv (f:=45) rfl ?_);refine Ze (some 6) rfl rfl Tryd.func45 kr rfl #[.int .i64 65535,.slice A0 l0.length c0] rfl (by(try simp only[List.map_toArray,List.map_cons,List.map_nil]);first|done|rfl|(simp only[List.length_drop,List.length_take];rfl)) ?_;(with_reducible refine(newelref09_More.calls k 65535 _ _ l0 B _ ?side1 ?side2 A2.out).mono ?_);(case side1=>repeat(first|exact δ.out|(with_reducible refine Kd.Zc ?_ _)|(with_reducible refine Kd.Za ?_ _)|(with_reducible refine Kd.Zh ?_)));(case side2=>exact ω.out);rintro e w' ⟨rfl,⟨nd,rfl⟩⟩;refine⟨_,rfl, ?_⟩)|((with_reducible refine Zs (b:=.append) (xs:=#[.tmp 7,.tmp 8]) rfl ?_);at_builtin;refine Kd.Zz (Kd.int .u8) (w0:=w) w.heap.size rfl (.tmp 7) (.tmp 8) 22 5 (.int .u8 0) 1 rfl Tryd.underlying22 Zx rfl (by decide) (by omega) (.slice none 0 0) ([]:List Int) l0 _ _ _ (fun _=>True) (fun _=>False) rfl rfl ?aO ?aR (fun _ _ h=>h) (fun _ h=>h.elim) ?aF ?aB ?aS ?aL ?_;(case aR=>repeat(first|exact δ.out|(with_reducible refine Kd.Zc ?_ _)|(with_reducible refine Kd.Za ?_ _)|(with_reducible refine Kd.Zh ?_)));(case aB=>exact(by repeat(first|(with_reducible first|exact HB.out|apply Qe|apply Qa|apply Qf)|exact HB.out)));(case aF=>exact(fun _ _=>trivial));(case aO=>exact((Kd.Z1 _ _ _ _ (fun _=>True))));(case aS=>exact(Qj (by repeat(first|(with_reducible first|exact HB.out|apply Qe|apply Qa|apply Qf)|exact HB.out))));(case aL=>have:=am.out;omega);intro ρ w5 ho hb hg hat;rw[← θ.out] at ho;have D:=Aside0.mk (hb);have I:=Aside0.mk (ho);clear HB;have HB:=D;have X:=I;clear D I;clear ho hb hg hat)|((with_reducible refine Qz (N:=17) rfl ?_);refine Kd.K2 (Kd.int .u8) _ 5 ?hg (N:=17) ?hd (xs:=([(wrap64 (Int.tdiv B 256)) % 256,(Int.tmod B 256) % 256]:List Int)) (inner:=[.int .u8 ((wrap64 (Int.tdiv B 256)) % 256),.int .u8 ((Int.tmod B 256) % 256)]) (ok:=fun _=>True) (okp:=fun _=>True) ?hr ?hp (fun _ hk=>hk) trivial (Below.refl _ _) (Nat.le_refl _) (by simp) ?_;(case hd=>rfl);(case hg=>rfl);(case hr=>first|(go_simp;done)|(go_simp;rfl));(case hp=>exact(Reps.one (show Kd.M (Kd.int .u8) _ _ _ ((wrap64 (Int.tdiv B 256)) % 256) [.int .u8 ((wrap64 (Int.tdiv B 256)) % 256)] from rfl) (Reps.one (show Kd.M (Kd.int .u8) _ _ _ ((Int.tmod B 256) % 256) [.int .u8 ((Int.tmod B 256) % 256)] from rfl) (Reps.none _ _))));intro ψ w6 ζ hb hg_ hnew_;clear hg_ hnew_;(first|rw[← η.out] at ζ |(simp only[Int.reduceToNat] at ζ;rw[← η.out] at ζ));have D:=Aside0.mk (Kd.Zj (by(with_reducible repeat first|apply Kd.Qi|apply Kd.Qh|apply Kd.Ql);exact X.out) (Kd.Q5 ζ) hb);have I:=Aside0.mk (Kd.Zd (Kd.Zi ζ (Kd.Zp (by(with_reducible repeat first|apply Kd.Qi|apply Kd.Qh|apply Kd.Ql);exact X.out))) (Qj (by repeat(first|(with_reducible first|exact HB.out|apply Qe|apply Qa|apply Qf)|exact HB.out))));have O:=Aside0.mk (Qr (by repeat(first|(with_reducible first|exact HB.out|apply Qe|apply Qa|apply Qf)|exact HB.out)) hb);clear X;clear HB;have X:=D;have Y:=I;have HB:=O;clear D I O;clear hb ζ;obtain⟨σ,τ,χ⟩:=Kd.Zf Y.out;subst χ)|((with_reducible refine Zs (b:=.append) (xs:=#[.tmp 10,.tmp 17]) rfl ?_);at_builtin;refine Kd.Zz (Kd.int .u8) (w0:=w) w.heap.size rfl (.tmp 10) (.tmp 17) 22 5 (.int .u8 0) 1 rfl Tryd.underlying22 Zx rfl (by decide) (by omega) ρ U J _ _ _ (fun k_=>some k_≠(.slice σ J.length τ :Value).ownBlock) (fun _=>False) rfl rfl ?aO ?aR (fun _ _ h=>h) (fun _ h=>h.elim) ?aF ?aB ?aS ?aL ?_;(case aR=>repeat(first|exact(Kd.Q4 Y.out).2.2|(with_reducible refine Kd.Zc ?_ _)|(with_reducible refine Kd.Za ?_ _)|(with_reducible refine Kd.Zh ?_)));(case aB=>exact(by repeat(first|(with_reducible first|exact HB.out|apply Qe|apply Qa|apply Qf)|exact HB.out)));(case aF=>exact(fun k_ hk=>Kd.fresh' (Kd.Zp (by(with_reducible repeat first|apply Kd.Qi|apply Kd.Qh|apply Kd.Ql);exact Y.out)) k_ hk));(case aO=>exact(by(with_reducible repeat first|apply Kd.Qi|apply Kd.Qh|apply Kd.Ql);exact Kd.Qu X.out (fun _ hk=>hk.2)));(case aS=>exact(Qj (by repeat(first|(with_reducible first|exact HB.out|apply Qe|apply Qa|apply Qf)|exact HB.out))));(case aL=>have:=a7.out;omega);intro a0 w8 ho hb hg hat;rw[← ι.out] at ho;have D:=Aside0.mk (Kd.Ym (ok:=(fun _=>True)) (by(with_reducible repeat first|apply Kd.Qi|apply Kd.Qh|apply Kd.Ql);exact Y.out) hg hat);have I:=Aside0.mk (hb);have O:=Aside0.mk (ho);clear Y;clear HB;clear X;have Y:=D;have HB:=I;have μ :=O;clear D I O;clear ho hb hg hat))
   go_ret
   exact⟨_,by first|rfl|(simp[Qo,Qn] <;> rfl)|(simp[*,Qo,Qn] <;> rfl),by(with_reducible repeat first|apply Kd.Qi|apply Kd.Qh|apply Kd.Ql);exact Kd.Qu μ.out (fun _ hk=>trivial),by repeat(first|(with_reducible first|exact HB.out|apply Qe|apply Qa|apply Qf)|exact HB.out)⟩
  ·rw[if_neg c4] at H
   exact absurd H (by simp)
 ·rw[if_neg c3] at H
  exact absurd H (by simp)
def newelref12_Read.j0:Nat→List Int→Bool→Int→Int→Int→Int→Int→Int→Option (Int×Int×Int×List Int×Int)
 |0,_,_,_,_,_,_,_,_=>none
 |k+1,O,Y,I,J,U,D,B,X=>if Y=true then (some (0,0,0,([]:List Int),120)) else (if (wrap64 ((O.length:Int)-B))<(wrap64 (D+2)) then (some (0,0,0,([]:List Int),121)) else (if (wrap64 ((O.length:Int)-B))>(wrap64 (D+2)) then (some (0,0,0,([]:List Int),122)) else ((newelref09_Open.f k O).bind fun b2=>(if b2.2=0 then (if 0≤B then (if B≤(wrap64 (B+D)) then (if (wrap64 (B+D))≤(O.length:Int) then (some (I,J,U,((O.take ((wrap64 (B+D)):Int).toNat).drop (B:Int).toNat),0)) else (none)) else (none)) else (none)) else (some (0,0,0,([]:List Int),b2.2))))))
def newelref12_Read.f (k:Nat) (l0:List Int):Option (Int×Int×Int×List Int×Int):=(newelref08_GetRow.f k l0 0 3).bind fun a0=>(if a0.2.2=0 then (if (a0.1.length:Int)=3 then (if 0<(a0.1.length:Int) then (if 1<(a0.1.length:Int) then (if 2<(a0.1.length:Int) then ((newelref12_May.f (rd a0.1 0) (rd a0.1 1) (rd a0.1 2) ([]:List Int)).bind fun b1=>(if b1=true then ((newelref08_Get.f k l0 a0.2.1).bind fun ζ =>(if ζ.2.2=0 then (if ζ.1<0 then (newelref12_Read.j0 k l0 true (rd a0.1 0) (rd a0.1 1) (rd a0.1 2) ζ.1 ζ.2.1 ζ.2.2) else (newelref12_Read.j0 k l0 (decide (ζ.1>4096)) (rd a0.1 0) (rd a0.1 1) (rd a0.1 2) ζ.1 ζ.2.1 ζ.2.2)) else (some (0,0,0,([]:List Int),ζ.2.2)))) else (some (0,0,0,([]:List Int),120)))) else (none)) else (none)) else (none)) else (some (0,0,0,([]:List Int),120))) else (some (0,0,0,([]:List Int),a0.2.2)))
theorem newelref12_Read.Zl:∀ k,(∀ B I J U Y Z y6 y7,LeO (newelref12_Read.j0 k B I J U Y Z y6 y7) (newelref12_Read.j0 (k+1) B I J U Y Z y6 y7))
 |0=>fun _ _ _ _ _ _ _ _ r h=>by simp[newelref12_Read.j0] at h
 |k+1=>by
  have D:=newelref12_Read.Zl k
  ·intro B I J U Y Z y6 y7
   unfold newelref12_Read.j0
   repeat' first
   |(with_reducible exact D _ _ _ _ _ _ _ _)
   |(with_reducible exact newelref08_Get.mono _ _ _)
   |(with_reducible exact newelref08_GetRow.mono _ _ _ _)
   |(with_reducible exact newelref09_Open.mono _ _)
   |(with_reducible exact LeO.refl _)
   |(with_reducible exact LeO.none _)
   |(with_reducible refine LeO.ite ?_ ?_)
   |(with_reducible refine LeO.bind ?_ (fun _=>?_))
   |exact D _ _ _ _ _ _ _ _
   |exact newelref08_Get.mono _ _ _
   |exact newelref08_GetRow.mono _ _ _ _
   |exact newelref09_Open.mono _ _
   |exact LeO.none _
   |refine LeO.ite ?_ ?_
   |refine LeO.bind ?_ (fun _=>?_)
theorem newelref12_Read.mono:∀ J k,LeO (newelref12_Read.f k J) (newelref12_Read.f (k+1) J):=by
 intro J k
 have D:=newelref12_Read.Zl k
 unfold newelref12_Read.f
 repeat' first
   |(with_reducible exact D _ _ _ _ _ _ _ _)
   |(with_reducible exact newelref08_Get.mono _ _ _)
   |(with_reducible exact newelref08_GetRow.mono _ _ _ _)
   |(with_reducible exact newelref09_Open.mono _ _)
   |(with_reducible exact LeO.refl _)
   |(with_reducible exact LeO.none _)
   |(with_reducible refine LeO.ite ?_ ?_)
   |(with_reducible refine LeO.bind ?_ (fun _=>?_))
   |exact D _ _ _ _ _ _ _ _
   |exact newelref08_Get.mono _ _ _
   |exact newelref08_GetRow.mono _ _ _ _
   |exact newelref09_Open.mono _ _
   |exact LeO.none _
   |refine LeO.ite ?_ ?_
   |refine LeO.bind ?_ (fun _=>?_)
def newelref12_Read.T6:Bool×List (List Nat×List Nat):=(true,[([],[]),([0],[0]),([1],[1]),([2],[2]),([],[]),([4],[4]),([5],[5]),([6],[6]),([],[]),([8],[8]),([9],[9]),([10],[10]),([3,7,11],[3,7,11]),([],[]),([13,12,0,1,2,3,4,5,6,7,8,9,10,11,12,13],[12,13])])
def newelref12_Read.B6:List Nat:=[0,1,3,7,0,16,48,112,0,256,768,1792,4095,0,16383]
theorem newelref12_Read.Eu:rtab .any (opsOf Tryd.f26 6)=newelref12_Read.T6:=by kernel_rfl
theorem newelref12_Read.M6:Yb newelref12_Read.T6.2 newelref12_Read.B6=true:=by kernel_rfl
set_option maxHeartbeats 8000000 in
set_option maxRecDepth 100000 in
theorem newelref12_Read.calls (k:Nat) (aw:Nat→Prop) (A0:Option Addr) (c0:Nat) (l0:List Int) (r1:Int) (r2:Int) (r3:Int) (r4:List Int) (r5:Int) (w:World) (ai:Kd.V (Kd.int .u8) 5 w w.heap.size (fun k_=>aw k_) (.slice A0 l0.length c0) l0) (h:newelref12_Read.f k l0=some (r1,r2,r3,r4,r5)):
  Calls Tryd.prog 26 #[.slice A0 l0.length c0] w fun e w'=>∃ bw:Value,e = .returned (.agg #[.int .i64 r1,.int .i64 r2,.int .i64 r3,bw,.int .i64 r5])∧Kd.V (Kd.int .u8) 5 w' w.heap.size (fun k_=>(aw k_∨w.heap.size≤k_)) bw r4∧Below w.heap.size w w':=by
 have hu:=Tryd.underlying62
 have g9:=Tryd.underlying72
 have dz:=Tryd.underlying26
 have en:=Tryd.underlying75
 have δ :=Aside0.mk (show Kd.V (Kd.int .u8) 5 w w.heap.size (fun k_=>(aw k_∨w.heap.size≤k_)) (.slice A0 l0.length c0) l0 from Kd.Qt ai (fun k_ hk=>.inl hk))
 have HB:=Aside0.mk (Below.refl w.heap.size w)
 have H:((newelref08_GetRow.f k l0 0 3).bind fun a0=>(if a0.2.2=0 then (if (a0.1.length:Int)=3 then (if 0<(a0.1.length:Int) then (if 1<(a0.1.length:Int) then (if 2<(a0.1.length:Int) then ((newelref12_May.f (rd a0.1 0) (rd a0.1 1) (rd a0.1 2) ([]:List Int)).bind fun b1=>(if b1=true then ((newelref08_Get.f k l0 a0.2.1).bind fun ζ =>(if ζ.2.2=0 then (if ζ.1<0 then (newelref12_Read.j0 k l0 true (rd a0.1 0) (rd a0.1 1) (rd a0.1 2) ζ.1 ζ.2.1 ζ.2.2) else (newelref12_Read.j0 k l0 (decide (ζ.1>4096)) (rd a0.1 0) (rd a0.1 1) (rd a0.1 2) ζ.1 ζ.2.1 ζ.2.2)) else (some (0,0,0,([]:List Int),ζ.2.2)))) else (some (0,0,0,([]:List Int),120)))) else (none)) else (none)) else (none)) else (some (0,0,0,([]:List Int),120))) else (some (0,0,0,([]:List Int),a0.2.2))))=some (r1,r2,r3,r4,r5):=h
 clear h
 replace H:=Option.bind_eq_some_iff.mp H
 obtain⟨⟨B,ξ,χ⟩,cg,H⟩:=H
 replace H:(if χ = 0 then (if (B.length:Int)=3 then (if 0<(B.length:Int) then (if 1<(B.length:Int) then (if 2<(B.length:Int) then ((newelref12_May.f (rd B 0) (rd B 1) (rd B 2) ([]:List Int)).bind fun b1=>(if b1=true then ((newelref08_Get.f k l0 ξ).bind fun ζ =>(if ζ.2.2=0 then (if ζ.1<0 then (newelref12_Read.j0 k l0 true (rd B 0) (rd B 1) (rd B 2) ζ.1 ζ.2.1 ζ.2.2) else (newelref12_Read.j0 k l0 (decide (ζ.1>4096)) (rd B 0) (rd B 1) (rd B 2) ζ.1 ζ.2.1 ζ.2.2)) else (some (0,0,0,([]:List Int),ζ.2.2)))) else (some (0,0,0,([]:List Int),120)))) else (none)) else (none)) else (none)) else (some (0,0,0,([]:List Int),120))) else (some (0,0,0,([]:List Int),χ)))=some (r1,r2,r3,r4,r5):=H
 have A2:=Aside0.mk cg
 clear cg
 by_cases c3: χ = 0
 ·rw[if_pos c3] at H
  have c3b0:(χ == 0)=true:=beq_iff_eq.mpr c3
  have c3b1:(χ != 0)=false:=bne_eq_false_iff_eq.mpr c3
  clear c3
  by_cases c4:(B.length:Int)=3
  ·rw[if_pos c4] at H
   have c4b0:((B.length:Int)==3)=true:=beq_iff_eq.mpr c4
   have c4b1:((B.length:Int) != 3)=false:=bne_eq_false_iff_eq.mpr c4
   clear c4
   by_cases c5:0<(B.length:Int)
   ·rw[if_pos c5] at H
    have c5b0:decide (0<(B.length:Int))=true:=decide_eq_true c5
    have c5b1:decide (0<B.length)=true:=decide_eq_true (by omega)
    clear c5
    by_cases c6:1<(B.length:Int)
    ·rw[if_pos c6] at H
     have c6b0:decide (1<(B.length:Int))=true:=decide_eq_true c6
     have c6b1:decide (1<B.length)=true:=decide_eq_true (by omega)
     clear c6
     by_cases c7:2<(B.length:Int)
     ·rw[if_pos c7] at H
      have c7b0:decide (2<(B.length:Int))=true:=decide_eq_true c7
      have c7b1:decide (2<B.length)=true:=decide_eq_true (by omega)
      clear c7
      replace H:=Option.bind_eq_some_iff.mp H
      obtain⟨b1,b9,H⟩:=H
      replace H:(if b1=true then ((newelref08_Get.f k l0 ξ).bind fun ζ =>(if ζ.2.2=0 then (if ζ.1<0 then (newelref12_Read.j0 k l0 true (rd B 0) (rd B 1) (rd B 2) ζ.1 ζ.2.1 ζ.2.2) else (newelref12_Read.j0 k l0 (decide (ζ.1>4096)) (rd B 0) (rd B 1) (rd B 2) ζ.1 ζ.2.1 ζ.2.2)) else (some (0,0,0,([]:List Int),ζ.2.2)))) else (some (0,0,0,([]:List Int),120)))=some (r1,r2,r3,r4,r5):=H
      have A8:=Aside0.mk b9
      clear b9
      by_cases c9:b1=true
      ·subst c9
       have H1:((newelref08_Get.f k l0 ξ).bind fun ζ =>(if ζ.2.2=0 then (if ζ.1<0 then (newelref12_Read.j0 k l0 true (rd B 0) (rd B 1) (rd B 2) ζ.1 ζ.2.1 ζ.2.2) else (newelref12_Read.j0 k l0 (decide (ζ.1>4096)) (rd B 0) (rd B 1) (rd B 2) ζ.1 ζ.2.1 ζ.2.2)) else (some (0,0,0,([]:List Int),ζ.2.2))))=some (r1,r2,r3,r4,r5):=by rw[if_pos rfl] at H;exact H
       clear H
       have H:=H1
       clear H1
       replace H:=Option.bind_eq_some_iff.mp H
       obtain⟨⟨σ,ι,ag⟩,bc,H⟩:=H
       replace H:(if ag=0 then (if σ<0 then (newelref12_Read.j0 k l0 true (rd B 0) (rd B 1) (rd B 2) σ ι ag) else (newelref12_Read.j0 k l0 (decide (σ>4096)) (rd B 0) (rd B 1) (rd B 2) σ ι ag)) else (some (0,0,0,([]:List Int),ag)))=some (r1,r2,r3,r4,r5):=H
       have bi:=Aside0.mk bc
       clear bc
       by_cases bf:ag=0
       ·rw[if_pos bf] at H
        have c11b0:(ag==0)=true:=beq_iff_eq.mpr bf
        have c11b1:(ag != 0)=false:=bne_eq_false_iff_eq.mpr bf
        clear bf
        have dh:=Aside0.mk H
        clear H
        go_enter Tryd.func26,Tryd.ntmps26
        try go_wp2_with (first|((with_reducible refine Qz (N:=2) rfl ?_);refine qE 2 #[.int .i64 0,.int .i64 0,.int .i64 0,.slice none 0 0,.int .i64 0] 62 ?_;intro ρ hg bj hbox hb;have J:=Aside0.mk hbox;have b8:=sGe hg;have ba:=sGe hg;replace δ :=Aside0.mk (Kd.Q2 (Kd.Q9 δ.out ρ (Nat.le_of_eq hg.symm)) hb);replace HB:=sHb hb;clear hb hbox hg)|((with_reducible refine Qv (f:=38) rfl ?_);refine Ze (some 11) rfl rfl Tryd.func38 kr rfl #[.slice A0 l0.length c0,.int .i64 0,.int .i64 3] rfl qM ?_;(with_reducible refine(newelref08_GetRow.calls k _ _ l0 0 3 B ξ χ _ ?side1 ?side2 A2.out).mono ?_);(case side1=>exact(Kd.Zm δ.out).2.2);(case side2=>exact(Kd.Zm δ.out).2.1);rintro e gy ⟨d5,rfl,θ,hb⟩;refine⟨_,rfl, ?_⟩;have Z:=Aside0.mk (Kd.Zd (Kd.Kq (M:=fun k_=>(w.heap.size≤k_)) θ (Qj HB.out) (fun k_ h_=>h_)) (Qj HB.out));replace δ :=Aside0.mk (Kd.Ya δ.out (Kd.Q5 θ) hb);replace J:=sBk J hb;replace HB:=sHb hb;(try clear hb);(try clear az);(try clear hk);(try clear hi);(try clear θ))|((with_reducible refine Qz (N:=3) rfl ?_);refine qE 3 #[.slice none 0 0,.int .i64 0,.int .i64 0] 72 ?_;intro X hg ec hbox hb;have Y:=Aside0.mk hbox;have bb:=sGe hg;have bd:=sGe hg;have τ :=sNl J hg;have a1:=sNg J hg;replace δ :=Aside0.mk (Kd.Q2 (Kd.Q9 δ.out X (Nat.le_of_eq hg.symm)) hb);replace Z:=sRb Z hb;replace J:=sBk J hb;replace HB:=sHb hb;clear hb hbox hg;obtain⟨aj,a8,di⟩:=Kd.Zf Z.out;subst di;have q8:=a1.out;have q9:= τ.out;obtain⟨bq,bs,bu,bv,bz,ca⟩:=qD3 Y.out))
        have D:Aside0 (Kd.V (Kd.int .u8) 5 (((ec.setCell ⟨X,0,none⟩ (.slice aj B.length a8)).setCell ⟨X,1,none⟩ (.int .i64 ξ)).setCell ⟨X,2,none⟩ (.int .i64 χ)) w.heap.size (fun k_=>(aw k_∨w.heap.size≤k_)∧some k_≠(.slice aj B.length a8:Value).ownBlock∧k_≠ρ∧k_≠X) (.slice A0 l0.length c0) l0):=⟨by(with_reducible repeat first|apply Kd.Qx|apply Kd.Qw|apply Kd.Q0);exact Kd.Qt (Kd.Qq (p:=⟨X,2,none⟩) (Kd.Qq (p:=⟨X,1,none⟩) (Kd.Qq (p:=⟨X,0,none⟩) (Kd.Qt δ.out (fun k_ hk=>(⟨hk,hk.2⟩:_∧k_≠X))) (fun _ hk=>hk.2) _) (fun _ hk=>hk.2) (.int .i64 ξ)) (fun _ hk=>hk.2) (.int .i64 χ)) (fun _ hk=>⟨hk.1.1.1.1,⟨hk.1.1.2,⟨hk.1.1.1.2,hk.1.2⟩⟩⟩)⟩
        have I:Aside0 (Kd.R (Kd.int .i64) 3 (((ec.setCell ⟨X,0,none⟩ (.slice aj B.length a8)).setCell ⟨X,1,none⟩ (.int .i64 ξ)).setCell ⟨X,2,none⟩ (.int .i64 χ)) w.heap.size (fun k_=>(w.heap.size≤k_)) (.slice aj B.length a8) B):=⟨by(with_reducible repeat first|apply Kd.Qi|apply Kd.Qh|apply Kd.Ql);exact Kd.Qu (Kd.Qm (Kd.Qm (Kd.Qm (Kd.Qy Z.out Y.out (by decide)) (fun _ hk=>hk.2) _) (fun _ hk=>hk.2) (.int .i64 ξ)) (fun _ hk=>hk.2) (.int .i64 χ)) (fun _ hk=>hk.1.1)⟩
        have O:Aside0 ((((ec.setCell ⟨X,0,none⟩ (.slice aj B.length a8)).setCell ⟨X,1,none⟩ (.int .i64 ξ)).setCell ⟨X,2,none⟩ (.int .i64 χ)).heap[ρ]?=some (.cells #[.int .i64 0,.int .i64 0,.int .i64 0,.slice none 0 0,.int .i64 0] 62 (0,0))):=⟨bka J⟩
        have U:Aside0 ((((ec.setCell ⟨X,0,none⟩ (.slice aj B.length a8)).setCell ⟨X,1,none⟩ (.int .i64 ξ)).setCell ⟨X,2,none⟩ (.int .i64 χ)).heap[X]?=some (.cells #[.slice aj B.length a8,.int .i64 ξ,.int .i64 χ] 72 (0,0))):=⟨by refine Qk (cs:=#[.slice aj B.length a8,.int .i64 ξ,.int .i64 0]) ?_ 2 _ rfl;refine Qk (cs:=#[.slice aj B.length a8,.int .i64 0,.int .i64 0]) ?_ 1 _ rfl;refine Qk (cs:=#[.slice none 0 0,.int .i64 0,.int .i64 0]) ?_ 0 _ rfl;exact Y.out⟩
        have ε :Aside0 (Below w.heap.size w (((ec.setCell ⟨X,0,none⟩ (.slice aj B.length a8)).setCell ⟨X,1,none⟩ (.int .i64 ξ)).setCell ⟨X,2,none⟩ (.int .i64 χ))):=⟨bel⟩
        (try clear δ)
        (try clear Z)
        (try clear J)
        (try clear Y)
        (try clear HB)
        generalize(((ec.setCell ⟨X,0,none⟩ (.slice aj B.length a8)).setCell ⟨X,1,none⟩ (.int .i64 ξ)).setCell ⟨X,2,none⟩ (.int .i64 χ))=df at D I O U ε ⊢
        have δ :=D
        have Z:=I
        have J:=O
        have Y:=U
        have HB:= ε
        clear D I O U ε
        replace δ :=Aside0.mk (Kd.Q0 δ.out)
        replace Z:=Aside0.mk (Kd.Ql Z.out)
        replace J:=Aside0.mk (Qd J.out)
        replace Y:=Aside0.mk (Qd Y.out)
        replace HB:=Aside0.mk (Qf HB.out)
        have al:0≤(0:Int):=(by omega)
        have am:0<(B.length:Int):=of_decide_eq_true (by assumption)
        obtain⟨ψ,bg,a4⟩:=Kd.Zr (Kd.Q4 Z.out).2.2 0 al am
        cases bg
        have dk:(0<B.length)=True:=eq_true (by omega)
        (try rw[show((0:Int)).toNat=0 from rfl] at a4)
        (try rw[Addr.add_zero'] at a4)
        replace al:=eq_true al
        replace am:=eq_true am
        have an:0≤(1:Int):=(by omega)
        have ao:1<(B.length:Int):=of_decide_eq_true (by assumption)
        obtain⟨b3,bh,a5⟩:=Kd.Zr (Kd.Q4 Z.out).2.2 1 an ao
        obtain rfl: ψ = b3:=(by injection bh)
        (try simp only[show(1:Int).toNat=1 from rfl,Nat.reduceMul,Nat.reduceEqDiff,Go.Addr.add,↓reduceIte] at a5)
        have dm:(1<B.length)=True:=eq_true (by omega)
        (try rw[show((1:Int)).toNat=1 from rfl] at a5)
        replace an:=eq_true an
        replace ao:=eq_true ao
        have ap:0≤(2:Int):=(by omega)
        have ar:2<(B.length:Int):=of_decide_eq_true (by assumption)
        obtain⟨b4,bk,a6⟩:=Kd.Zr (Kd.Q4 Z.out).2.2 2 ap ar
        obtain rfl: ψ = b4:=(by injection bk)
        (try simp only[show(2:Int).toNat=2 from rfl,Nat.reduceMul,Nat.reduceEqDiff,Go.Addr.add,↓reduceIte] at a6)
        have dq:(2<B.length)=True:=eq_true (by omega)
        (try rw[show((2:Int)).toNat=2 from rfl] at a6)
        replace ap:=eq_true ap
        replace ar:=eq_true ar
        refine Yp (n:=15) (S:=fun w'=>w'.cell? ⟨X,0,none⟩=some (.slice (some ψ) B.length a8)∧w'.cell? ⟨X,1,none⟩=some (.int .i64 ξ)∧w'.cell? ⟨X,2,none⟩=some (.int .i64 χ)∧w'.cell? ψ = some (.int .i64 (rd B 0))∧w'.cell? ⟨ψ.block,ψ.off+1,none⟩=some (.int .i64 (rd B 1))∧w'.cell? ⟨ψ.block,ψ.off+2,none⟩=some (.int .i64 (rd B 2))) (ds:=[]) #[false,false,false,false,false,false,false,false,false,false,false,false,false,false,false] kr rfl rfl ⟨(Q3 Y.out 0).trans rfl,(Q3 Y.out 1).trans rfl,(Q3 Y.out 2).trans rfl,a4,a5,a6⟩ (fun hHeld=>?_);refine Xh newelref12_Read.Eu newelref12_Read.M6 (fun HT_ HW_=>?_)
        generalize df.drew=pn at δ Z J Y HB a4 a5 a6 hHeld ⊢
        refine qP 0 (some 23) (bN 15 1) HT_ ?_
        refine qP 4 (some 27) (bN 15 17) HT_ ?_
        refine qP 8 (some 31) (bN 15 273) HT_ ?_
        refine qT 1 (some 24) (bN 15 275) HT_ HW_ hHeld ?_
        refine qP 2 (some 25) (bN 15 279) HT_ ?_
        refine qT 3 (some 26) (bN 15 287) HT_ HW_ hHeld ?_
        refine qT 5 (some 28) (bN 15 319) HT_ HW_ hHeld ?_
        refine qP 6 (some 29) (bN 15 383) HT_ ?_
        refine qT 7 (some 30) (bN 15 511) HT_ HW_ hHeld ?_
        refine qT 9 (some 32) (bN 15 1023) HT_ HW_ hHeld ?_
        refine qP 10 (some 33) (bN 15 2047) HT_ ?_
        refine qT 11 (some 34) (bN 15 4095) HT_ HW_ hHeld ?_
        refine qP 12 (some 35) (bN 15 8191) HT_ ?_
        refine Ye (i:=13) (N:=some 4) (bN 15 16383) rfl rfl (Z3 HT_.out kr) (by decide) (fun K hK=>?_)
        refine Xy ?hg (N:=4) ?hd (cs:=#[.int .i64 0,.int .i64 0,.int .i64 0,.slice none 0 0]) (t:=26) ?hr ?_;(case hd=>rfl);(case hg=>rfl);(case hr=>go_simp <;> rfl)
        intro κ hg dx hbox hb
        have bl:=(hb.cell (World.block_lt_of_cell? _ _ (hHeld.2.2.2.1))).trans (hHeld.2.2.2.1)
        have bm:=(hb.cell (World.block_lt_of_cell? _ _ (hHeld.2.2.2.2.1))).trans (hHeld.2.2.2.2.1)
        have bn:=(hb.cell (World.block_lt_of_cell? _ _ (hHeld.2.2.2.2.2))).trans (hHeld.2.2.2.2.2)
        have γ:=Aside0.mk hbox
        have e4:=sGe hg
        have e9:=sGe hg
        have μ :=sNl J hg
        have ν :=sNg J hg
        have η :=sNl Y hg
        have ω :=sNg Y hg
        replace δ :=Aside0.mk (Kd.Q2 (Kd.Q9 δ.out κ (Nat.le_of_eq hg.symm)) hb)
        replace Z:=sRb Z hb
        replace J:=sBk J hb
        replace Y:=sBk Y hb
        replace HB:=sHb hb
        clear hb hbox hg
        refine hK.out _ _ ⟨qc Y,qc Y,qc Y,bl,bm,bn⟩ (fun hHeld=>?_)
        clear hK K
        refine qN (some 4) ?_
        refine Ye (i:=14) (N:=none) (bN 15 32767) rfl rfl (Z3 HT_.out kr) (by decide) (fun K hK=>?_)
        have ri:dx.cell? ⟨κ,0,none⟩=some (.int .i64 0):=(Q3 γ.out 0).trans rfl
        have qa:=Q6 γ.out 0
        have mj:= μ.out
        have ml:= η.out
        have mm:= ν.out
        have mo:= ω.out
        have rj:dx.cell? ⟨κ,1,none⟩=some (.int .i64 0):=(Q3 γ.out 1).trans rfl
        have qb:=Q6 γ.out 1
        have mq:= μ.out
        have mr:= η.out
        have ms:= ν.out
        have mt:= ω.out
        have rk:dx.cell? ⟨κ,2,none⟩=some (.int .i64 0):=(Q3 γ.out 2).trans rfl
        have qd:=Q6 γ.out 2
        have mu:= μ.out
        have mw:= η.out
        have my:= ν.out
        have mz:= ω.out
        have rl:dx.cell? ⟨κ,3,none⟩=some (.slice none 0 0):=(Q3 γ.out 3).trans rfl
        have qe:=Q6 γ.out 3
        have n0:= μ.out
        have nb:= η.out
        have nc:= ν.out
        have nd:= ω.out
        refine J0 (w1:=?_) (by rfl) rfl ?_ ?_
        rotate_left
        ·go_simp
         rfl
        have a2:=Kd.J6 (Kd.Y5 Z.out γ.out (by decide))
        refine hK.out _ _ ⟨(by rw[cell_far,cell_far,cell_far,cell_far];all_goals (first|(with_reducible exact hHeld.1)|(with_reducible exact η.out))),(by rw[cell_far,cell_far,cell_far,cell_far];all_goals (first|(with_reducible exact hHeld.2.1)|(with_reducible exact η.out))),(by rw[cell_far,cell_far,cell_far,cell_far];all_goals (first|(with_reducible exact hHeld.2.2.1)|(with_reducible exact η.out))),(by rw[cell_far,cell_far,cell_far,cell_far];all_goals (first|(with_reducible exact hHeld.2.2.2.1)|(with_reducible exact a2)|exact a2)),(by rw[cell_far,cell_far,cell_far,cell_far];all_goals (first|(with_reducible exact hHeld.2.2.2.2.1)|(with_reducible exact a2)|exact a2)),(by rw[cell_far,cell_far,cell_far,cell_far];all_goals (first|(with_reducible exact hHeld.2.2.2.2.2)|(with_reducible exact a2)|exact a2))⟩ (fun hHeld=>?_)
        clear hK K
        refine Jc (Yi HT_.out kr) ?_
        have ga:= ν.out
        have gb:= μ.out
        have gk:= ω.out
        have gn:= η.out
        obtain⟨ce,ch,ci,ck,cm,cn,co,cp⟩:=qD4 γ.out
        go_upto_region 13 with(first|((with_reducible refine Qv (f:=21) rfl ?_);refine Ze (some 37) rfl rfl Tryd.func21 kr rfl #[.agg #[.int .i64 (rd B 0),.int .i64 (rd B 1),.int .i64 (rd B 2),.slice none 0 0]] rfl qM ?_;(refine(newelref12_May.calls (rd B 0) (rd B 1) (rd B 2) _ _ ([]:List Int) true _ ?side1 ?side2 A8.out).mono ?_);(case side1=>exact Kd.Jt _ _);(case side2=>exact Nat.le_refl _);rintro e pm ⟨rfl,hb⟩;refine⟨_,rfl, ?_⟩;replace δ :=Aside0.mk (Kd.Q2 (by(with_reducible repeat first|apply Kd.Qx|apply Kd.Qw|apply Kd.Q0);exact(Kd.Qt (Kd.Qq (p:=⟨κ,3,none⟩) (Kd.Qq (p:=⟨κ,2,none⟩) (Kd.Qq (p:=⟨κ,1,none⟩) (Kd.Qq (p:=⟨κ,0,none⟩) (Kd.Qt δ.out (fun k_ hk=>(⟨hk,hk.2⟩:_∧k_ ≠ κ))) (fun _ hk=>hk.2) (.int .i64 (rd B 0))) (fun _ hk=>hk.2) (.int .i64 (rd B 1))) (fun _ hk=>hk.2) (.int .i64 (rd B 2))) (fun _ hk=>hk.2) (.slice none 0 0)) (fun _ h_=>h_.1))) hb);replace Z:=Aside0.mk (Kd.Q1 (by(with_reducible repeat first|apply Kd.Qi|apply Kd.Qh|apply Kd.Ql);exact(Kd.Qu (Kd.Qm (Kd.Qm (Kd.Qm (Kd.Qm (Kd.Qy Z.out γ.out (by decide)) (fun _ hk=>hk.2) (.int .i64 (rd B 0))) (fun _ hk=>hk.2) (.int .i64 (rd B 1))) (fun _ hk=>hk.2) (.int .i64 (rd B 2))) (fun _ hk=>hk.2) (.slice none 0 0)) (fun _ h_=>h_.1))) hb);replace J:=sBk J hb;replace Y:=sBk Y hb;replace γ:=Aside0.mk (Qp (g:= κ) (o:=.cells #[.int .i64 (rd B 0),.int .i64 (rd B 1),.int .i64 (rd B 2),.slice none 0 0] 26 (0,0)) (by refine Qk (cs:=#[.int .i64 (rd B 0),.int .i64 (rd B 1),.int .i64 (rd B 2),.slice none 0 0]) ?_ 3 _ rfl;refine Qk (cs:=#[.int .i64 (rd B 0),.int .i64 (rd B 1),.int .i64 0,.slice none 0 0]) ?_ 2 _ rfl;refine Qk (cs:=#[.int .i64 (rd B 0),.int .i64 0,.int .i64 0,.slice none 0 0]) ?_ 1 _ rfl;refine Qk (cs:=#[.int .i64 0,.int .i64 0,.int .i64 0,.slice none 0 0]) ?_ 0 _ rfl;exact γ.out) hb);replace HB:=sHb hb;(try clear hb);(try clear az);(try clear hk);(try clear hi);obtain⟨cd,cj,cr,ct,cu,cv⟩:=qD3 Y.out)|((with_reducible refine Qv (f:=39) rfl ?_);refine Ze (some 44) rfl rfl Tryd.func39 kr rfl #[.slice A0 l0.length c0,.int .i64 ξ] rfl qM ?_;(with_reducible refine(newelref08_Get.calls k _ _ l0 ξ σ ι ag _ ?side1 ?side2 bi.out).mono ?_);(case side1=>exact(Kd.Zm δ.out).2.2);(case side2=>exact(Kd.Zm δ.out).2.1);rintro e oe ⟨rfl,hb⟩;refine⟨_,rfl, ?_⟩;replace δ :=Aside0.mk (Kd.Q2 δ.out hb);replace Z:=sRb Z hb;replace J:=sBk J hb;replace Y:=sBk Y hb;replace γ:=sBk γ hb;replace HB:=sHb hb;(try clear hb);(try clear az);(try clear hk);(try clear hi))|((with_reducible refine Qz (N:=6) rfl ?_);refine qE 6 #[.int .i64 0,.int .i64 0,.int .i64 0] 75 ?_;intro a9 hg d1 hbox hb;have a7:=Aside0.mk hbox;have fy:=sGe hg;have fz:=sGe hg;have a3:=sNl J hg;have aa:=sNg J hg;have ab:=sNl Y hg;have ac:=sNg Y hg;have ae:=sNl γ hg;have af:=sNg γ hg;replace δ :=Aside0.mk (Kd.Q2 (Kd.Q9 δ.out a9 (Nat.le_of_eq hg.symm)) hb);replace Z:=sRb Z hb;replace J:=sBk J hb;replace Y:=sBk Y hb;replace γ:=sBk γ hb;replace HB:=sHb hb;clear hb hbox hg;have gp:=aa.out;have gq:=a3.out;have gr:=ac.out;have gs:=ab.out;have fq:=af.out;have fr:=ae.out;obtain⟨dp,dr,be,dt,du,br⟩:=qD3 a7.out))
        (try simp only[Act.put,qS])
        go_cut [58] (fun po wc=>∃ (kq:Nat) (b5:Bool),po = .bool b5∧Aside0 (newelref12_Read.j0 kq l0 b5 (rd B 0) (rd B 1) (rd B 2) σ ι ag=some (r1,r2,r3,r4,r5))∧Aside0 (kq≤k)∧Aside0 (Kd.V (Kd.int .u8) 5 wc w.heap.size (fun k_=>(aw k_∨w.heap.size≤k_)∧some k_≠((.slice (some ψ) B.length a8):Value).ownBlock∧k_≠ρ∧k_≠X∧k_ ≠ κ ∧ k_≠a9) (.slice A0 l0.length c0) l0)∧Aside0 (Kd.R (Kd.int .i64) 3 wc w.heap.size (fun k_=>(w.heap.size≤k_)) (.slice (some ψ) B.length a8) B)∧Aside0 (wc.heap[ρ]?=some (.cells #[.int .i64 0,.int .i64 0,.int .i64 0,(.slice none 0 0),.int .i64 0] 62 (0,0)))∧Aside0 (wc.heap[X]?=some (.cells #[(.slice (some ψ) B.length a8),.int .i64 ξ,.int .i64 χ] 72 (0,0)))∧Aside0 (wc.heap[κ]?=some (.cells #[.int .i64 (rd B 0),.int .i64 (rd B 1),.int .i64 (rd B 2),(.slice none 0 0)] 26 (0,0)))∧Aside0 (wc.heap[a9]?=some (.cells #[.int .i64 σ,.int .i64 ι,.int .i64 ag] 75 (0,0)))∧Aside0 (Below w.heap.size w wc))
        case first=>
         have H:=dh.out
         clear dh
         by_cases ep:σ<0
         ·rw[if_pos ep] at H
          have c37b0:decide (σ<0)=true:=decide_eq_true ep
          clear ep
          (first|rw[c37b0]|(simp only[Zu,Z4];rw[c37b0])|skip)
          have H':=Aside0.mk H
          clear H
          have n1:=aa.out
          have n2:=a3.out
          have lv:=ac.out
          have lw:=ab.out
          have e7:=af.out
          have e8:=ae.out
          obtain⟨cw,cx,cy,cz,d0,d2⟩:=qD3 a7.out
          go_wp2
          go_meet
          case rel=>exact⟨_,(true),qR,H',⟨by first|omega|exact Nat.le_refl _⟩,⟨by(with_reducible repeat first|apply Kd.Qx|apply Kd.Qw|apply Kd.Q0);exact Kd.Qt (Kd.Qq (p:=⟨a9,2,none⟩) (Kd.Qq (p:=⟨a9,1,none⟩) (Kd.Qq (p:=⟨a9,0,none⟩) (Kd.Qt δ.out (fun k_ hk=>(⟨hk,hk.2⟩:_∧k_≠a9))) (fun _ hk=>hk.2) (.int .i64 σ)) (fun _ hk=>hk.2) (.int .i64 ι)) (fun _ hk=>hk.2) (.int .i64 ag)) (fun _ hk=>⟨hk.1.1.1.1,⟨hk.1.1.1.2.1,⟨hk.1.1.1.2.2.1,⟨hk.1.1.1.2.2.2,⟨hk.1.1.2,hk.1.2⟩⟩⟩⟩⟩)⟩,⟨by(with_reducible repeat first|apply Kd.Qi|apply Kd.Qh|apply Kd.Ql);exact Kd.Qu (Kd.Qm (Kd.Qm (Kd.Qm (Kd.Qy Z.out a7.out (by decide)) (fun _ hk=>hk.2) (.int .i64 σ)) (fun _ hk=>hk.2) (.int .i64 ι)) (fun _ hk=>hk.2) (.int .i64 ag)) (fun _ hk=>hk.1)⟩,⟨bka J⟩,⟨bka Y⟩,⟨bka γ⟩,⟨by(with_reducible repeat first|apply Qb|apply Qd|apply Qc);refine Qk (cs:=#[.int .i64 σ,.int .i64 ι,.int .i64 0]) ?_ 2 _ rfl;(with_reducible repeat first|apply Qb|apply Qd|apply Qc);refine Qk (cs:=#[.int .i64 σ,.int .i64 0,.int .i64 0]) ?_ 1 _ rfl;(with_reducible repeat first|apply Qb|apply Qd|apply Qc);refine Qk (cs:=#[.int .i64 0,.int .i64 0,.int .i64 0]) ?_ 0 _ rfl;(with_reducible repeat first|apply Qb|apply Qd|apply Qc);exact a7.out⟩,⟨bel⟩⟩
         ·rw[if_neg ep] at H
          have c37b0:decide (σ<0)=false:=decide_eq_false ep
          clear ep
          (first|rw[c37b0]|(simp only[Zu,Z4];rw[c37b0])|skip)
          have H':=Aside0.mk H
          clear H
          have e3:=aa.out
          have e6:=a3.out
          have gl:=ac.out
          have gm:=ab.out
          have me:=af.out
          have mf:=ae.out
          obtain⟨ef,eg,eh,ej,ek,el⟩:=qD3 a7.out
          go_wp2
          go_meet
          case rel=>exact⟨_,(decide (σ>4096)),qR,H',⟨by first|omega|exact Nat.le_refl _⟩,⟨by(with_reducible repeat first|apply Kd.Qx|apply Kd.Qw|apply Kd.Q0);exact Kd.Qt (Kd.Qq (p:=⟨a9,2,none⟩) (Kd.Qq (p:=⟨a9,1,none⟩) (Kd.Qq (p:=⟨a9,0,none⟩) (Kd.Qt δ.out (fun k_ hk=>(⟨hk,hk.2⟩:_∧k_≠a9))) (fun _ hk=>hk.2) (.int .i64 σ)) (fun _ hk=>hk.2) (.int .i64 ι)) (fun _ hk=>hk.2) (.int .i64 ag)) (fun _ hk=>⟨hk.1.1.1.1,⟨hk.1.1.1.2.1,⟨hk.1.1.1.2.2.1,⟨hk.1.1.1.2.2.2,⟨hk.1.1.2,hk.1.2⟩⟩⟩⟩⟩)⟩,⟨by(with_reducible repeat first|apply Kd.Qi|apply Kd.Qh|apply Kd.Ql);exact Kd.Qu (Kd.Qm (Kd.Qm (Kd.Qm (Kd.Qy Z.out a7.out (by decide)) (fun _ hk=>hk.2) (.int .i64 σ)) (fun _ hk=>hk.2) (.int .i64 ι)) (fun _ hk=>hk.2) (.int .i64 ag)) (fun _ hk=>hk.1)⟩,⟨bka J⟩,⟨bka Y⟩,⟨bka γ⟩,⟨by(with_reducible repeat first|apply Qb|apply Qd|apply Qc);refine Qk (cs:=#[.int .i64 σ,.int .i64 ι,.int .i64 0]) ?_ 2 _ rfl;(with_reducible repeat first|apply Qb|apply Qd|apply Qc);refine Qk (cs:=#[.int .i64 σ,.int .i64 0,.int .i64 0]) ?_ 1 _ rfl;(with_reducible repeat first|apply Qb|apply Qd|apply Qc);refine Qk (cs:=#[.int .i64 0,.int .i64 0,.int .i64 0]) ?_ 0 _ rfl;(with_reducible repeat first|apply Qb|apply Qd|apply Qc);exact a7.out⟩,⟨bel⟩⟩
        case rest=>
         clear dh
         try clear c1
         try clear c2
         try clear p2
         try clear q2
         try clear pk
         try clear s6
         try clear c3
         try clear c3b0
         try clear c3b1
         try clear c4
         try clear c4b0
         try clear c4b1
         try clear c5
         try clear c5b0
         try clear c5b1
         try clear c6
         try clear c6b0
         try clear c6b1
         try clear c7
         try clear c7b0
         try clear c7b1
         try clear c9
         try clear bf
         try clear c11b0
         try clear c11b1
         try clear b0
         try clear cf
         try clear dn
         try clear eu
         try clear p28
         try clear s7
         try clear rm
         try clear rn
         try clear ev
         try clear ew
         try clear fb
         try clear ep
         try clear c37b0
         try clear em
         try clear nr
         try clear fu
         try clear pp
         try clear vt
         try clear ie
         try clear bq
         try clear bs
         try clear bu
         try clear ce
         try clear ch
         try clear ci
         try clear ck
         try clear cd
         try clear cj
         try clear cr
         try clear dp
         try clear dr
         try clear be
         try clear cw
         try clear cx
         try clear cy
         try clear ef
         try clear eg
         try clear eh
         try clear bv
         try clear bz
         try clear ca
         try clear cm
         try clear cn
         try clear co
         try clear cp
         try clear ct
         try clear cu
         try clear cv
         try clear dt
         try clear du
         try clear br
         try clear cz
         try clear d0
         try clear d2
         try clear ej
         try clear ek
         try clear el
         try clear a4
         try clear a5
         try clear a6
         try clear al
         try clear an
         try clear ap
         try clear am
         try clear ao
         try clear ar
         obtain⟨kq,b5,rfl,HA,rp,HO_0,HO_283000,J,Y,γ,a7,HB⟩:=hcut
         cases kq with
         |zero=>exact absurd HA.out (by simp[newelref12_Read.j0])
         |succ dj=>
          have H:=HA.out
          clear HA
          simp only[newelref12_Read.j0] at H
          by_cases fc:b5=true
          ·subst fc
           have H1:(some (0,0,0,([]:List Int),120))=some (r1,r2,r3,r4,r5):=by rw[if_pos rfl] at H;exact H
           clear H
           have H:=H1
           clear H1
           simp only[Option.some.injEq,Prod.mk.injEq] at H
           obtain⟨rfl,rfl,rfl,rfl,rfl⟩:=H
           have ns:= τ.out
           have nt:=a1.out
           have nu:= μ.out
           have nv:= ν.out
           have g7:=a3.out
           have gz:=aa.out
           obtain⟨nf,ng,nl,nm,nn,no,np,nq,o0,o1⟩:=qD5 J.out
           go_wp2
           refine bodyPost_ret (results_cell_row rfl _ _ ρ 62 #[.int .i64 0,.int .i64 0,.int .i64 0,.slice none 0 0,.int .i64 120] (0,0) _ rfl (by refine Qk (cs:=#[.int .i64 0,.int .i64 0,.int .i64 0,.slice none 0 0,.int .i64 0]) ?_ 4 _ rfl;refine Qk (cs:=#[.int .i64 0,.int .i64 0,.int .i64 0,.slice none 0 0,.int .i64 0]) ?_ 3 _ rfl;refine Qk (cs:=#[.int .i64 0,.int .i64 0,.int .i64 0,.slice none 0 0,.int .i64 0]) ?_ 2 _ rfl;refine Qk (cs:=#[.int .i64 0,.int .i64 0,.int .i64 0,.slice none 0 0,.int .i64 0]) ?_ 1 _ rfl;refine Qk (cs:=#[.int .i64 0,.int .i64 0,.int .i64 0,.slice none 0 0,.int .i64 0]) ?_ 0 _ rfl;exact J.out) Tryd.underlying62 rfl kr) rfl ?_
           refine⟨.slice none 0 0,by first|rfl|(simp[Qo,Qn] <;> rfl)|(simp[*,Qo,Qn] <;> rfl),Kd.Qt (Kd.R_V (Kd.Z1 _ _ _ w.heap.size _)) (fun k_ hk=>by first|exact⟨(.inr (hk.1)),hk.2⟩|exact(.inr (hk))),bel⟩
          ·replace fc:=Bool.eq_false_iff.mpr fc
           subst fc
           have H1:(if (wrap64 ((l0.length:Int) - ι))<(wrap64 (σ+2)) then (some (0,0,0,([]:List Int),121)) else (if (wrap64 ((l0.length:Int) - ι))>(wrap64 (σ+2)) then (some (0,0,0,([]:List Int),122)) else ((newelref09_Open.f dj l0).bind fun b2=>(if b2.2=0 then (if 0 ≤ ι then (if ι ≤ (wrap64 (ι + σ)) then (if (wrap64 (ι + σ))≤(l0.length:Int) then (some ((rd B 0),(rd B 1),(rd B 2),((l0.take ((wrap64 (ι + σ)):Int).toNat).drop (ι :Int).toNat),0)) else (none)) else (none)) else (none)) else (some (0,0,0,([]:List Int),b2.2))))))=some (r1,r2,r3,r4,r5):=by rw[if_neg (show ¬ (false=true) by decide)] at H;exact H
           clear H
           have H:=H1
           clear H1
           by_cases e5:(wrap64 ((l0.length:Int) - ι))<(wrap64 (σ+2))
           ·rw[if_pos e5] at H
            have c51b0:decide ((wrap64 ((l0.length:Int) - ι))<(wrap64 (σ+2)))=true:=decide_eq_true e5
            clear e5
            simp only[Option.some.injEq,Prod.mk.injEq] at H
            obtain⟨rfl,rfl,rfl,rfl,rfl⟩:=H
            have g0:=aa.out
            have g1:=a3.out
            have ea:=ac.out
            have ei:=ab.out
            have eo:=af.out
            have et:=ae.out
            obtain⟨cq,d7,db,dc,dd,de⟩:=qD3 a7.out
            have mg:= τ.out
            have mh:=a1.out
            have lx:= μ.out
            have ly:= ν.out
            obtain⟨ig,ih,er,ey,o2,ii,ij,ez,f4,o3⟩:=qD5 J.out
            go_wp2
            refine bodyPost_ret (results_cell_row rfl _ _ ρ 62 #[.int .i64 0,.int .i64 0,.int .i64 0,.slice none 0 0,.int .i64 121] (0,0) _ rfl (by refine Qk (cs:=#[.int .i64 0,.int .i64 0,.int .i64 0,.slice none 0 0,.int .i64 0]) ?_ 4 _ rfl;refine Qk (cs:=#[.int .i64 0,.int .i64 0,.int .i64 0,.slice none 0 0,.int .i64 0]) ?_ 3 _ rfl;refine Qk (cs:=#[.int .i64 0,.int .i64 0,.int .i64 0,.slice none 0 0,.int .i64 0]) ?_ 2 _ rfl;refine Qk (cs:=#[.int .i64 0,.int .i64 0,.int .i64 0,.slice none 0 0,.int .i64 0]) ?_ 1 _ rfl;refine Qk (cs:=#[.int .i64 0,.int .i64 0,.int .i64 0,.slice none 0 0,.int .i64 0]) ?_ 0 _ rfl;exact J.out) Tryd.underlying62 rfl kr) rfl ?_
            refine⟨.slice none 0 0,by first|rfl|(simp[Qo,Qn] <;> rfl)|(simp[*,Qo,Qn] <;> rfl),Kd.Qt (Kd.R_V (Kd.Z1 _ _ _ w.heap.size _)) (fun k_ hk=>by first|exact⟨(.inr (hk.1)),hk.2⟩|exact(.inr (hk))),bel⟩
           ·rw[if_neg e5] at H
            have c51b0:decide ((wrap64 ((l0.length:Int) - ι))<(wrap64 (σ+2)))=false:=decide_eq_false e5
            clear e5
            by_cases k2:(wrap64 ((l0.length:Int) - ι))>(wrap64 (σ+2))
            ·rw[if_pos k2] at H
             have c59b0:decide ((wrap64 (σ+2))<(wrap64 ((l0.length:Int) - ι)))=true:=decide_eq_true k2
             clear k2
             simp only[Option.some.injEq,Prod.mk.injEq] at H
             obtain⟨rfl,rfl,rfl,rfl,rfl⟩:=H
             have n3:=aa.out
             have na:=a3.out
             have jg:=ac.out
             have jh:=ab.out
             have ji:=af.out
             have jj:=ae.out
             obtain⟨d3,dl,dv,dw,dy,e0⟩:=qD3 a7.out
             have he:= τ.out
             have hh:=a1.out
             have hj:= μ.out
             have hl:= ν.out
             obtain⟨f5,f6,f7,fm,fn,fo,fp,fs,ft,fv⟩:=qD5 J.out
             go_wp2
             refine bodyPost_ret (results_cell_row rfl _ _ ρ 62 #[.int .i64 0,.int .i64 0,.int .i64 0,.slice none 0 0,.int .i64 122] (0,0) _ rfl (by refine Qk (cs:=#[.int .i64 0,.int .i64 0,.int .i64 0,.slice none 0 0,.int .i64 0]) ?_ 4 _ rfl;refine Qk (cs:=#[.int .i64 0,.int .i64 0,.int .i64 0,.slice none 0 0,.int .i64 0]) ?_ 3 _ rfl;refine Qk (cs:=#[.int .i64 0,.int .i64 0,.int .i64 0,.slice none 0 0,.int .i64 0]) ?_ 2 _ rfl;refine Qk (cs:=#[.int .i64 0,.int .i64 0,.int .i64 0,.slice none 0 0,.int .i64 0]) ?_ 1 _ rfl;refine Qk (cs:=#[.int .i64 0,.int .i64 0,.int .i64 0,.slice none 0 0,.int .i64 0]) ?_ 0 _ rfl;exact J.out) Tryd.underlying62 rfl kr) rfl ?_
             refine⟨.slice none 0 0,by first|rfl|(simp[Qo,Qn] <;> rfl)|(simp[*,Qo,Qn] <;> rfl),Kd.Qt (Kd.R_V (Kd.Z1 _ _ _ w.heap.size _)) (fun k_ hk=>by first|exact⟨(.inr (hk.1)),hk.2⟩|exact(.inr (hk))),bel⟩
            ·rw[if_neg k2] at H
             have c59b0:decide ((wrap64 (σ+2))<(wrap64 ((l0.length:Int) - ι)))=false:=decide_eq_false k2
             clear k2
             replace H:=Option.bind_eq_some_iff.mp H
             obtain⟨⟨f8,ay⟩,f9,H⟩:=H
             replace H:(if ay=0 then (if 0 ≤ ι then (if ι ≤ (wrap64 (ι + σ)) then (if (wrap64 (ι + σ))≤(l0.length:Int) then (some ((rd B 0),(rd B 1),(rd B 2),((l0.take ((wrap64 (ι + σ)):Int).toNat).drop (ι :Int).toNat),0)) else (none)) else (none)) else (none)) else (some (0,0,0,([]:List Int),ay)))=some (r1,r2,r3,r4,r5):=H
             have g8:=Aside0.mk f9
             clear f9
             by_cases ir:ay=0
             ·rw[if_pos ir] at H
              have c68b0:(ay==0)=true:=beq_iff_eq.mpr ir
              have c68b1:(ay != 0)=false:=bne_eq_false_iff_eq.mpr ir
              clear ir
              by_cases lm:0 ≤ ι
              ·rw[if_pos lm] at H
               have c69b0:=eq_true lm
               have c69b1:decide (0 ≤ ι)=true:=decide_eq_true lm
               clear lm
               by_cases m3: ι ≤ (wrap64 (ι + σ))
               ·rw[if_pos m3] at H
                have c70b0:=eq_true m3
                have c70b1:decide (ι ≤ (wrap64 (ι + σ)))=true:=decide_eq_true m3
                by_cases m4:(wrap64 (ι + σ))≤(l0.length:Int)
                ·rw[if_pos m4] at H
                 have c71b0:=eq_true m4
                 have c71b1:decide ((wrap64 (ι + σ))≤(l0.length:Int))=true:=decide_eq_true m4
                 obtain⟨au,b6⟩:∃ y_:List Int,y_=((l0.take ((wrap64 (ι + σ)):Int).toNat).drop (ι :Int).toNat):=⟨_,rfl⟩
                 replace H:(some ((rd B 0),(rd B 1),(rd B 2),au,0))=some (r1,r2,r3,r4,r5):=by first|(rw[b6];with_reducible exact H)|(have φ :=(Option.bind_some _ _).symm.trans H;rw[b6];with_reducible exact φ)|(have φ :=(Option.bind_some _ _).symm.trans H;with_reducible exact φ)|with_reducible exact H|(rw[b6];exact H)|exact H
                 have eb:=Aside0.mk b6
                 clear b6
                 simp only[Option.some.injEq,Prod.mk.injEq] at H
                 obtain⟨rfl,rfl,rfl,rfl,rfl⟩:=H
                 have ql:=aa.out
                 have qm:=a3.out
                 have qn:=ac.out
                 have qo:=ab.out
                 have i2:=af.out
                 have i3:=ae.out
                 obtain⟨o4,o5,o6,o7,o8,o9⟩:=qD3 a7.out
                 go_wp2_with (first|((with_reducible refine Qv (f:=40) rfl ?_);refine Ze (some 79) rfl rfl Tryd.func40 kr rfl #[.slice A0 l0.length c0] rfl qM ?_;(with_reducible refine(newelref09_Open.calls dj (fun k_=>((aw k_∨w.heap.size≤k_)∧(some k_≠(.slice (some ψ) B.length a8:Value).ownBlock∧(k_≠ρ∧(k_≠X∧(k_ ≠ κ ∧ k_≠a9)))))) _ _ l0 f8 ay _ ?side1 g8.out).mono ?_);(case side1=>exact HO_0.out);rintro e s8 ⟨ge,rfl,θ,hb⟩;refine⟨_,rfl, ?_⟩;have g2:=Aside0.mk (Kd.Y1 (Kd.Qt (ok':=fun k_=>(aw k_∨w.heap.size≤k_)∧some k_≠(.slice (some ψ) B.length a8:Value).ownBlock∧k_≠ρ∧k_≠X∧k_ ≠ κ ∧ k_≠a9) θ (fun k_ hk_=>⟨Or.elim hk_ (fun hs_=>hs_.1) (fun hn_=>(.inr (Nat.le_trans (Qj HB.out) hn_))),Or.elim hk_ (fun hs_=>hs_.2.1) (fun hn_=>(Kd.fresh' (Kd.Zp HO_283000.out) k_ hn_)),Or.elim hk_ (fun hs_=>hs_.2.2.1) (fun hn_=>(Kd.Z5 (g:=ρ) (o:=.cells #[.int .i64 0,.int .i64 0,.int .i64 0,.slice none 0 0,.int .i64 0] 62 (0,0)) J.out k_ hn_)),Or.elim hk_ (fun hs_=>hs_.2.2.2.1) (fun hn_=>(Kd.Z5 (g:=X) (o:=.cells #[.slice (some ψ) B.length a8,.int .i64 ξ,.int .i64 χ] 72 (0,0)) Y.out k_ hn_)),Or.elim hk_ (fun hs_=>hs_.2.2.2.2.1) (fun hn_=>(Kd.Z5 (g:= κ) (o:=.cells #[.int .i64 (rd B 0),.int .i64 (rd B 1),.int .i64 (rd B 2),.slice none 0 0] 26 (0,0)) γ.out k_ hn_)),Or.elim hk_ (fun hs_=>hs_.2.2.2.2.2) (fun hn_=>(Kd.Z5 (g:=a9) (o:=.cells #[.int .i64 σ,.int .i64 ι,.int .i64 ag] 75 (0,0)) a7.out k_ hn_))⟩)) (Qj HB.out));replace HO_0:=Aside0.mk (Kd.Q2 HO_0.out hb);replace HO_283000:=sRb HO_283000 hb;replace J:=sBk J hb;replace Y:=sBk Y hb;replace γ:=sBk γ hb;replace a7:=sBk a7 hb;replace HB:=sHb hb;(try clear hb);(try clear az);(try clear hk);(try clear hi);(try clear θ);obtain⟨oa,ob,oc,od,om,oo⟩:=qD3 a7.out;have fa:((wrap64 (ι + σ)):Int)≤((l0.length:Int):Int):=of_decide_eq_true (by assumption);obtain⟨rq,ed,_,ee,_⟩:=info_parts Zx;have hroom78:l0.length≤c0:=(Kd.Zm HO_0.out).2.1;have fw:Kd.F (Kd.int .u8) _ _ A0 l0.length l0:=(Kd.Ul (base:=w.heap.size) HO_0.out).2.2;have gf:(ι :Int)≤((wrap64 (ι + σ)):Int):=of_decide_eq_true (by assumption);have gg:(0:Int)≤(ι :Int):=of_decide_eq_true (by assumption);have fx:=N8 (P:=Tryd.prog) 22 5 .i64 .i64 Tryd.underlying22 ed 1 ee A0 l0.length c0 ι (wrap64 (ι + σ)) gg gf fa hroom78;have bo:=Kd.F_mid (lo:=(ι :Int).toNat) (hi:=((wrap64 (ι + σ)):Int).toNat) (c:=c0) fw (by omega) (by omega) hroom78;obtain⟨k3,d6⟩:∃ A1,A1=(if c0=(ι :Int).toNat then A0 else (A0:Option Addr).map (·.add ((ι :Int).toNat * 1))):=⟨_,rfl⟩;obtain⟨cb,d8⟩:∃ c1,c1=c0 - (ι :Int).toNat:=⟨_,rfl⟩;have bp:au.length=((wrap64 (ι + σ)):Int).toNat - (ι :Int).toNat:=(by rw[eb.out,List.length_drop,List.length_take] <;> omega);rw[show((l0).take ((wrap64 (ι + σ)):Int).toNat).drop (ι :Int).toNat=au from eb.out.symm] at bo;replace bo:Kd.F (Kd.int .u8) _ _ k3 au.length au:=(by rw[d6];exact bo);rw[← bp,← d6,← d8] at fx;have g3:=Aside0.mk (show Kd.V (Kd.int .u8) 5 _ w.heap.size _ (.slice k3 au.length cb) au from Kd.Vn (by rw[bp,d8];exact Nat.sub_le_sub_right (Nat.le_trans (by omega) hroom78) _) bo);have qp:=Aside0.mk (show au.length≤cb from by rw[bp,d8];exact Nat.sub_le_sub_right (Nat.le_trans (by omega) hroom78) _);clear bo fw hroom78 ed ee d8;have rr:=Aside0.mk bp;have rs:=Aside0.mk d6;clear bp d6;replace fa:=eq_true fa;have qq:= ν.out;have qs:= μ.out;have qt:= ω.out;have qu:= η.out;obtain⟨oq,ot,ou,ov,ow,ox,oy,oz⟩:=qD4 γ.out;have nw:= τ.out;have nx:=a1.out;obtain⟨p0,p1,p5,p6,p7,p8,p9,pa,pb,pc⟩:=qD5 J.out))
                 refine bodyPost_ret (results_cell_row rfl _ _ ρ 62 #[.int .i64 (rd B 0),.int .i64 (rd B 1),.int .i64 (rd B 2),.slice k3 au.length cb,.int .i64 0] (0,0) _ rfl (by refine Qk (cs:=#[.int .i64 (rd B 0),.int .i64 (rd B 1),.int .i64 (rd B 2),.slice k3 au.length cb,.int .i64 0]) ?_ 4 _ rfl;refine Qk (cs:=#[.int .i64 (rd B 0),.int .i64 (rd B 1),.int .i64 (rd B 2),.slice none 0 0,.int .i64 0]) ?_ 3 _ rfl;refine Qk (cs:=#[.int .i64 (rd B 0),.int .i64 (rd B 1),.int .i64 0,.slice none 0 0,.int .i64 0]) ?_ 2 _ rfl;refine Qk (cs:=#[.int .i64 (rd B 0),.int .i64 0,.int .i64 0,.slice none 0 0,.int .i64 0]) ?_ 1 _ rfl;refine Qk (cs:=#[.int .i64 0,.int .i64 0,.int .i64 0,.slice none 0 0,.int .i64 0]) ?_ 0 _ rfl;refine Qs ?_ μ.out _;exact J.out) Tryd.underlying62 rfl kr) rfl ?_
                 exact⟨_,by first|rfl|(simp[Qo,Qn] <;> rfl)|(simp[*,Qo,Qn] <;> rfl),by(with_reducible repeat first|apply Kd.Qx|apply Kd.Qw|apply Kd.Q0);exact Kd.Qt (Kd.Qq (p:=⟨ρ,4,none⟩) (Kd.Qq (p:=⟨ρ,3,none⟩) (Kd.Qq (p:=⟨ρ,2,none⟩) (Kd.Qq (p:=⟨ρ,1,none⟩) (Kd.Qq (p:=⟨ρ,0,none⟩) (Kd.Qq (p:=⟨κ,3,none⟩) (Kd.Qt (Kd.Qt g3.out (fun k_ hk=>(⟨hk,hk.2.2.2.2.1⟩:_∧k_ ≠ κ))) (fun k_ hk=>(⟨hk,hk.1.2.2.1⟩:_∧k_≠ρ))) (fun _ hk=>hk.1.2) (.slice k3 au.length cb)) (fun _ hk=>hk.2) (.int .i64 (rd B 0))) (fun _ hk=>hk.2) (.int .i64 (rd B 1))) (fun _ hk=>hk.2) (.int .i64 (rd B 2))) (fun _ hk=>hk.2) (.slice k3 au.length cb)) (fun _ hk=>hk.2) (.int .i64 0)) (fun _ hk=>hk.1.1.1),bel⟩
                ·rw[if_neg m4] at H
                 exact absurd H (by simp)
               ·rw[if_neg m3] at H
                exact absurd H (by simp)
              ·rw[if_neg lm] at H
               exact absurd H (by simp)
             ·rw[if_neg ir] at H
              have c68b0:(ay==0)=false:=beq_eq_false_iff_ne.mpr ir
              have c68b1:(ay != 0)=true:=bne_iff_ne.mpr ir
              simp only[Option.some.injEq,Prod.mk.injEq] at H
              obtain⟨rfl,rfl,rfl,rfl,rfl⟩:=H
              have ny:=aa.out
              have nz:=a3.out
              have qf:=ac.out
              have qg:=ab.out
              have qv:=af.out
              have qw:=ae.out
              obtain⟨pd,pe,pf,pg,pi,pj⟩:=qD3 a7.out
              go_wp2_with (first|((with_reducible refine Qv (f:=40) rfl ?_);refine Ze (some 79) rfl rfl Tryd.func40 kr rfl #[.slice A0 l0.length c0] rfl qM ?_;(with_reducible refine(newelref09_Open.calls dj (fun k_=>((aw k_∨w.heap.size≤k_)∧(some k_≠(.slice (some ψ) B.length a8:Value).ownBlock∧(k_≠ρ∧(k_≠X∧(k_ ≠ κ ∧ k_≠a9)))))) _ _ l0 f8 ay _ ?side1 g8.out).mono ?_);(case side1=>exact HO_0.out);rintro e s9 ⟨ge,rfl,θ,hb⟩;refine⟨_,rfl, ?_⟩;have g2:=Aside0.mk (Kd.Y1 (Kd.Qt (ok':=fun k_=>(aw k_∨w.heap.size≤k_)∧some k_≠(.slice (some ψ) B.length a8:Value).ownBlock∧k_≠ρ∧k_≠X∧k_ ≠ κ ∧ k_≠a9) θ (fun k_ hk_=>⟨Or.elim hk_ (fun hs_=>hs_.1) (fun hn_=>(.inr (Nat.le_trans (Qj HB.out) hn_))),Or.elim hk_ (fun hs_=>hs_.2.1) (fun hn_=>(Kd.fresh' (Kd.Zp HO_283000.out) k_ hn_)),Or.elim hk_ (fun hs_=>hs_.2.2.1) (fun hn_=>(Kd.Z5 (g:=ρ) (o:=.cells #[.int .i64 0,.int .i64 0,.int .i64 0,.slice none 0 0,.int .i64 0] 62 (0,0)) J.out k_ hn_)),Or.elim hk_ (fun hs_=>hs_.2.2.2.1) (fun hn_=>(Kd.Z5 (g:=X) (o:=.cells #[.slice (some ψ) B.length a8,.int .i64 ξ,.int .i64 χ] 72 (0,0)) Y.out k_ hn_)),Or.elim hk_ (fun hs_=>hs_.2.2.2.2.1) (fun hn_=>(Kd.Z5 (g:= κ) (o:=.cells #[.int .i64 (rd B 0),.int .i64 (rd B 1),.int .i64 (rd B 2),.slice none 0 0] 26 (0,0)) γ.out k_ hn_)),Or.elim hk_ (fun hs_=>hs_.2.2.2.2.2) (fun hn_=>(Kd.Z5 (g:=a9) (o:=.cells #[.int .i64 σ,.int .i64 ι,.int .i64 ag] 75 (0,0)) a7.out k_ hn_))⟩)) (Qj HB.out));replace HO_0:=Aside0.mk (Kd.Q2 HO_0.out hb);replace HO_283000:=sRb HO_283000 hb;replace J:=sBk J hb;replace Y:=sBk Y hb;replace γ:=sBk γ hb;replace a7:=sBk a7 hb;replace HB:=sHb hb;(try clear hb);(try clear az);(try clear hk);(try clear hi);(try clear θ);have qh:= τ.out;have qi:=a1.out;have qj:= μ.out;have qk:= ν.out;obtain⟨fe,ff,fg,fh,h0,fi,fj,fk,fl,h4⟩:=qD5 J.out))
              refine bodyPost_ret (results_cell_row rfl _ _ ρ 62 #[.int .i64 0,.int .i64 0,.int .i64 0,.slice none 0 0,.int .i64 ay] (0,0) _ rfl (by refine Qk (cs:=#[.int .i64 0,.int .i64 0,.int .i64 0,.slice none 0 0,.int .i64 0]) ?_ 4 _ rfl;refine Qk (cs:=#[.int .i64 0,.int .i64 0,.int .i64 0,.slice none 0 0,.int .i64 0]) ?_ 3 _ rfl;refine Qk (cs:=#[.int .i64 0,.int .i64 0,.int .i64 0,.slice none 0 0,.int .i64 0]) ?_ 2 _ rfl;refine Qk (cs:=#[.int .i64 0,.int .i64 0,.int .i64 0,.slice none 0 0,.int .i64 0]) ?_ 1 _ rfl;refine Qk (cs:=#[.int .i64 0,.int .i64 0,.int .i64 0,.slice none 0 0,.int .i64 0]) ?_ 0 _ rfl;exact J.out) Tryd.underlying62 rfl kr) rfl ?_
              refine⟨.slice none 0 0,by first|rfl|(simp[Qo,Qn] <;> rfl)|(simp[*,Qo,Qn] <;> rfl),Kd.Qt (Kd.R_V (Kd.Z1 _ _ _ w.heap.size _)) (fun k_ hk=>by first|exact⟨(.inr (hk.1)),hk.2⟩|exact(.inr (hk))),bel⟩
       ·rw[if_neg bf] at H
        have c11b0:(ag==0)=false:=beq_eq_false_iff_ne.mpr bf
        have c11b1:(ag != 0)=true:=bne_iff_ne.mpr bf
        simp only[Option.some.injEq,Prod.mk.injEq] at H
        obtain⟨rfl,rfl,rfl,rfl,rfl⟩:=H
        go_enter Tryd.func26,Tryd.ntmps26
        try go_wp2_with (first|((with_reducible refine Qz (N:=2) rfl ?_);refine qE 2 #[.int .i64 0,.int .i64 0,.int .i64 0,.slice none 0 0,.int .i64 0] 62 ?_;intro ρ hg sa hbox hb;have J:=Aside0.mk hbox;have b8:=sGe hg;have ba:=sGe hg;replace δ :=Aside0.mk (Kd.Q2 (Kd.Q9 δ.out ρ (Nat.le_of_eq hg.symm)) hb);replace HB:=sHb hb;clear hb hbox hg)|((with_reducible refine Qv (f:=38) rfl ?_);refine Ze (some 11) rfl rfl Tryd.func38 kr rfl #[.slice A0 l0.length c0,.int .i64 0,.int .i64 3] rfl qM ?_;(with_reducible refine(newelref08_GetRow.calls k _ _ l0 0 3 B ξ χ _ ?side1 ?side2 A2.out).mono ?_);(case side1=>exact(Kd.Zm δ.out).2.2);(case side2=>exact(Kd.Zm δ.out).2.1);rintro e sb ⟨d5,rfl,θ,hb⟩;refine⟨_,rfl, ?_⟩;have Z:=Aside0.mk (Kd.Zd (Kd.Kq (M:=fun k_=>(w.heap.size≤k_)) θ (Qj HB.out) (fun k_ h_=>h_)) (Qj HB.out));replace δ :=Aside0.mk (Kd.Ya δ.out (Kd.Q5 θ) hb);replace J:=sBk J hb;replace HB:=sHb hb;(try clear hb);(try clear az);(try clear hk);(try clear hi);(try clear θ))|((with_reducible refine Qz (N:=3) rfl ?_);refine qE 3 #[.slice none 0 0,.int .i64 0,.int .i64 0] 72 ?_;intro X hg d4 hbox hb;have Y:=Aside0.mk hbox;have bb:=sGe hg;have bd:=sGe hg;have τ :=sNl J hg;have a1:=sNg J hg;replace δ :=Aside0.mk (Kd.Q2 (Kd.Q9 δ.out X (Nat.le_of_eq hg.symm)) hb);replace Z:=sRb Z hb;replace J:=sBk J hb;replace HB:=sHb hb;clear hb hbox hg;obtain⟨ax,av,gh⟩:=Kd.Zf Z.out;subst gh;have qx:=a1.out;have qy:= τ.out;obtain⟨h5,h6,h7,h8,h9,ha⟩:=qD3 Y.out))
        have D:Aside0 (Kd.V (Kd.int .u8) 5 (((d4.setCell ⟨X,0,none⟩ (.slice ax B.length av)).setCell ⟨X,1,none⟩ (.int .i64 ξ)).setCell ⟨X,2,none⟩ (.int .i64 χ)) w.heap.size (fun k_=>(aw k_∨w.heap.size≤k_)∧some k_≠(.slice ax B.length av:Value).ownBlock∧k_≠ρ∧k_≠X) (.slice A0 l0.length c0) l0):=⟨by(with_reducible repeat first|apply Kd.Qx|apply Kd.Qw|apply Kd.Q0);exact Kd.Qt (Kd.Qq (p:=⟨X,2,none⟩) (Kd.Qq (p:=⟨X,1,none⟩) (Kd.Qq (p:=⟨X,0,none⟩) (Kd.Qt δ.out (fun k_ hk=>(⟨hk,hk.2⟩:_∧k_≠X))) (fun _ hk=>hk.2) _) (fun _ hk=>hk.2) (.int .i64 ξ)) (fun _ hk=>hk.2) (.int .i64 χ)) (fun _ hk=>⟨hk.1.1.1.1,⟨hk.1.1.2,⟨hk.1.1.1.2,hk.1.2⟩⟩⟩)⟩
        have I:Aside0 (Kd.R (Kd.int .i64) 3 (((d4.setCell ⟨X,0,none⟩ (.slice ax B.length av)).setCell ⟨X,1,none⟩ (.int .i64 ξ)).setCell ⟨X,2,none⟩ (.int .i64 χ)) w.heap.size (fun k_=>(w.heap.size≤k_)) (.slice ax B.length av) B):=⟨by(with_reducible repeat first|apply Kd.Qi|apply Kd.Qh|apply Kd.Ql);exact Kd.Qu (Kd.Qm (Kd.Qm (Kd.Qm (Kd.Qy Z.out Y.out (by decide)) (fun _ hk=>hk.2) _) (fun _ hk=>hk.2) (.int .i64 ξ)) (fun _ hk=>hk.2) (.int .i64 χ)) (fun _ hk=>hk.1.1)⟩
        have O:Aside0 ((((d4.setCell ⟨X,0,none⟩ (.slice ax B.length av)).setCell ⟨X,1,none⟩ (.int .i64 ξ)).setCell ⟨X,2,none⟩ (.int .i64 χ)).heap[ρ]?=some (.cells #[.int .i64 0,.int .i64 0,.int .i64 0,.slice none 0 0,.int .i64 0] 62 (0,0))):=⟨bka J⟩
        have U:Aside0 ((((d4.setCell ⟨X,0,none⟩ (.slice ax B.length av)).setCell ⟨X,1,none⟩ (.int .i64 ξ)).setCell ⟨X,2,none⟩ (.int .i64 χ)).heap[X]?=some (.cells #[.slice ax B.length av,.int .i64 ξ,.int .i64 χ] 72 (0,0))):=⟨by refine Qk (cs:=#[.slice ax B.length av,.int .i64 ξ,.int .i64 0]) ?_ 2 _ rfl;refine Qk (cs:=#[.slice ax B.length av,.int .i64 0,.int .i64 0]) ?_ 1 _ rfl;refine Qk (cs:=#[.slice none 0 0,.int .i64 0,.int .i64 0]) ?_ 0 _ rfl;exact Y.out⟩
        have ε :Aside0 (Below w.heap.size w (((d4.setCell ⟨X,0,none⟩ (.slice ax B.length av)).setCell ⟨X,1,none⟩ (.int .i64 ξ)).setCell ⟨X,2,none⟩ (.int .i64 χ))):=⟨bel⟩
        (try clear δ)
        (try clear Z)
        (try clear J)
        (try clear Y)
        (try clear HB)
        generalize(((d4.setCell ⟨X,0,none⟩ (.slice ax B.length av)).setCell ⟨X,1,none⟩ (.int .i64 ξ)).setCell ⟨X,2,none⟩ (.int .i64 χ))=pq at D I O U ε ⊢
        have δ :=D
        have Z:=I
        have J:=O
        have Y:=U
        have HB:= ε
        clear D I O U ε
        replace δ :=Aside0.mk (Kd.Q0 δ.out)
        replace Z:=Aside0.mk (Kd.Ql Z.out)
        replace J:=Aside0.mk (Qd J.out)
        replace Y:=Aside0.mk (Qd Y.out)
        replace HB:=Aside0.mk (Qf HB.out)
        have al:0≤(0:Int):=(by omega)
        have am:0<(B.length:Int):=of_decide_eq_true (by assumption)
        obtain⟨ψ,bg,a4⟩:=Kd.Zr (Kd.Q4 Z.out).2.2 0 al am
        cases bg
        have dk:(0<B.length)=True:=eq_true (by omega)
        (try rw[show((0:Int)).toNat=0 from rfl] at a4)
        (try rw[Addr.add_zero'] at a4)
        replace al:=eq_true al
        replace am:=eq_true am
        have an:0≤(1:Int):=(by omega)
        have ao:1<(B.length:Int):=of_decide_eq_true (by assumption)
        obtain⟨b3,bh,a5⟩:=Kd.Zr (Kd.Q4 Z.out).2.2 1 an ao
        obtain rfl: ψ = b3:=(by injection bh)
        (try simp only[show(1:Int).toNat=1 from rfl,Nat.reduceMul,Nat.reduceEqDiff,Go.Addr.add,↓reduceIte] at a5)
        have dm:(1<B.length)=True:=eq_true (by omega)
        (try rw[show((1:Int)).toNat=1 from rfl] at a5)
        replace an:=eq_true an
        replace ao:=eq_true ao
        have ap:0≤(2:Int):=(by omega)
        have ar:2<(B.length:Int):=of_decide_eq_true (by assumption)
        obtain⟨b4,bk,a6⟩:=Kd.Zr (Kd.Q4 Z.out).2.2 2 ap ar
        obtain rfl: ψ = b4:=(by injection bk)
        (try simp only[show(2:Int).toNat=2 from rfl,Nat.reduceMul,Nat.reduceEqDiff,Go.Addr.add,↓reduceIte] at a6)
        have dq:(2<B.length)=True:=eq_true (by omega)
        (try rw[show((2:Int)).toNat=2 from rfl] at a6)
        replace ap:=eq_true ap
        replace ar:=eq_true ar
        refine Yp (n:=15) (S:=fun w'=>w'.cell? ⟨X,0,none⟩=some (.slice (some ψ) B.length av)∧w'.cell? ⟨X,1,none⟩=some (.int .i64 ξ)∧w'.cell? ⟨X,2,none⟩=some (.int .i64 χ)∧w'.cell? ψ = some (.int .i64 (rd B 0))∧w'.cell? ⟨ψ.block,ψ.off+1,none⟩=some (.int .i64 (rd B 1))∧w'.cell? ⟨ψ.block,ψ.off+2,none⟩=some (.int .i64 (rd B 2))) (ds:=[]) #[false,false,false,false,false,false,false,false,false,false,false,false,false,false,false] kr rfl rfl ⟨(Q3 Y.out 0).trans rfl,(Q3 Y.out 1).trans rfl,(Q3 Y.out 2).trans rfl,a4,a5,a6⟩ (fun hHeld=>?_);refine Xh newelref12_Read.Eu newelref12_Read.M6 (fun HT_ HW_=>?_)
        generalize pq.drew=sc at δ Z J Y HB a4 a5 a6 hHeld ⊢
        refine qP 0 (some 23) (bN 15 1) HT_ ?_
        refine qP 4 (some 27) (bN 15 17) HT_ ?_
        refine qP 8 (some 31) (bN 15 273) HT_ ?_
        refine qT 1 (some 24) (bN 15 275) HT_ HW_ hHeld ?_
        refine qP 2 (some 25) (bN 15 279) HT_ ?_
        refine qT 3 (some 26) (bN 15 287) HT_ HW_ hHeld ?_
        refine qT 5 (some 28) (bN 15 319) HT_ HW_ hHeld ?_
        refine qP 6 (some 29) (bN 15 383) HT_ ?_
        refine qT 7 (some 30) (bN 15 511) HT_ HW_ hHeld ?_
        refine qT 9 (some 32) (bN 15 1023) HT_ HW_ hHeld ?_
        refine qP 10 (some 33) (bN 15 2047) HT_ ?_
        refine qT 11 (some 34) (bN 15 4095) HT_ HW_ hHeld ?_
        refine qP 12 (some 35) (bN 15 8191) HT_ ?_
        refine Ye (i:=13) (N:=some 4) (bN 15 16383) rfl rfl (Z3 HT_.out kr) (by decide) (fun K hK=>?_)
        refine Xy ?hg (N:=4) ?hd (cs:=#[.int .i64 0,.int .i64 0,.int .i64 0,.slice none 0 0]) (t:=26) ?hr ?_;(case hd=>rfl);(case hg=>rfl);(case hr=>go_simp <;> rfl)
        intro κ hg d9 hbox hb
        have bl:=(hb.cell (World.block_lt_of_cell? _ _ (hHeld.2.2.2.1))).trans (hHeld.2.2.2.1)
        have bm:=(hb.cell (World.block_lt_of_cell? _ _ (hHeld.2.2.2.2.1))).trans (hHeld.2.2.2.2.1)
        have bn:=(hb.cell (World.block_lt_of_cell? _ _ (hHeld.2.2.2.2.2))).trans (hHeld.2.2.2.2.2)
        have γ:=Aside0.mk hbox
        have e4:=sGe hg
        have e9:=sGe hg
        have μ :=sNl J hg
        have ν :=sNg J hg
        have η :=sNl Y hg
        have ω :=sNg Y hg
        replace δ :=Aside0.mk (Kd.Q2 (Kd.Q9 δ.out κ (Nat.le_of_eq hg.symm)) hb)
        replace Z:=sRb Z hb
        replace J:=sBk J hb
        replace Y:=sBk Y hb
        replace HB:=sHb hb
        clear hb hbox hg
        refine hK.out _ _ ⟨qc Y,qc Y,qc Y,bl,bm,bn⟩ (fun hHeld=>?_)
        clear hK K
        refine qN (some 4) ?_
        refine Ye (i:=14) (N:=none) (bN 15 32767) rfl rfl (Z3 HT_.out kr) (by decide) (fun K hK=>?_)
        have qz:d9.cell? ⟨κ,0,none⟩=some (.int .i64 0):=(Q3 γ.out 0).trans rfl
        have pr:=Q6 γ.out 0
        have gi:= μ.out
        have gj:= η.out
        have gt:= ν.out
        have gu:= ω.out
        have r0:d9.cell? ⟨κ,1,none⟩=some (.int .i64 0):=(Q3 γ.out 1).trans rfl
        have pu:=Q6 γ.out 1
        have gv:= μ.out
        have gw:= η.out
        have gx:= ν.out
        have ho:= ω.out
        have r6:d9.cell? ⟨κ,2,none⟩=some (.int .i64 0):=(Q3 γ.out 2).trans rfl
        have pv:=Q6 γ.out 2
        have hx:= μ.out
        have hy:= η.out
        have i0:= ν.out
        have i1:= ω.out
        have r7:d9.cell? ⟨κ,3,none⟩=some (.slice none 0 0):=(Q3 γ.out 3).trans rfl
        have pw:=Q6 γ.out 3
        have i4:= μ.out
        have i5:= η.out
        have i6:= ν.out
        have i7:= ω.out
        refine J0 (w1:=?_) (by rfl) rfl ?_ ?_
        rotate_left
        ·go_simp
         rfl
        have a2:=Kd.J6 (Kd.Y5 Z.out γ.out (by decide))
        refine hK.out _ _ ⟨(by rw[cell_far,cell_far,cell_far,cell_far];all_goals (first|(with_reducible exact hHeld.1)|(with_reducible exact η.out))),(by rw[cell_far,cell_far,cell_far,cell_far];all_goals (first|(with_reducible exact hHeld.2.1)|(with_reducible exact η.out))),(by rw[cell_far,cell_far,cell_far,cell_far];all_goals (first|(with_reducible exact hHeld.2.2.1)|(with_reducible exact η.out))),(by rw[cell_far,cell_far,cell_far,cell_far];all_goals (first|(with_reducible exact hHeld.2.2.2.1)|(with_reducible exact a2)|exact a2)),(by rw[cell_far,cell_far,cell_far,cell_far];all_goals (first|(with_reducible exact hHeld.2.2.2.2.1)|(with_reducible exact a2)|exact a2)),(by rw[cell_far,cell_far,cell_far,cell_far];all_goals (first|(with_reducible exact hHeld.2.2.2.2.2)|(with_reducible exact a2)|exact a2))⟩ (fun hHeld=>?_)
        clear hK K
        refine Jc (Yi HT_.out kr) ?_
        have nh:= ν.out
        have ni:= μ.out
        have og:= ω.out
        have oh:= η.out
        obtain⟨i9,ia,ib,ic,ik,il,im,io⟩:=qD4 γ.out
        try go_wp2_with (first|((with_reducible refine Qv (f:=21) rfl ?_);refine Ze (some 37) rfl rfl Tryd.func21 kr rfl #[.agg #[.int .i64 (rd B 0),.int .i64 (rd B 1),.int .i64 (rd B 2),.slice none 0 0]] rfl qM ?_;(refine(newelref12_May.calls (rd B 0) (rd B 1) (rd B 2) _ _ ([]:List Int) true _ ?side1 ?side2 A8.out).mono ?_);(case side1=>exact Kd.Jt _ _);(case side2=>exact Nat.le_refl _);rintro e rt ⟨rfl,hb⟩;refine⟨_,rfl, ?_⟩;replace δ :=Aside0.mk (Kd.Q2 (by(with_reducible repeat first|apply Kd.Qx|apply Kd.Qw|apply Kd.Q0);exact(Kd.Qt (Kd.Qq (p:=⟨κ,3,none⟩) (Kd.Qq (p:=⟨κ,2,none⟩) (Kd.Qq (p:=⟨κ,1,none⟩) (Kd.Qq (p:=⟨κ,0,none⟩) (Kd.Qt δ.out (fun k_ hk=>(⟨hk,hk.2⟩:_∧k_ ≠ κ))) (fun _ hk=>hk.2) (.int .i64 (rd B 0))) (fun _ hk=>hk.2) (.int .i64 (rd B 1))) (fun _ hk=>hk.2) (.int .i64 (rd B 2))) (fun _ hk=>hk.2) (.slice none 0 0)) (fun _ h_=>h_.1))) hb);replace Z:=Aside0.mk (Kd.Q1 (by(with_reducible repeat first|apply Kd.Qi|apply Kd.Qh|apply Kd.Ql);exact(Kd.Qu (Kd.Qm (Kd.Qm (Kd.Qm (Kd.Qm (Kd.Qy Z.out γ.out (by decide)) (fun _ hk=>hk.2) (.int .i64 (rd B 0))) (fun _ hk=>hk.2) (.int .i64 (rd B 1))) (fun _ hk=>hk.2) (.int .i64 (rd B 2))) (fun _ hk=>hk.2) (.slice none 0 0)) (fun _ h_=>h_.1))) hb);replace J:=sBk J hb;replace Y:=sBk Y hb;replace γ:=Aside0.mk (Qp (g:= κ) (o:=.cells #[.int .i64 (rd B 0),.int .i64 (rd B 1),.int .i64 (rd B 2),.slice none 0 0] 26 (0,0)) (by refine Qk (cs:=#[.int .i64 (rd B 0),.int .i64 (rd B 1),.int .i64 (rd B 2),.slice none 0 0]) ?_ 3 _ rfl;refine Qk (cs:=#[.int .i64 (rd B 0),.int .i64 (rd B 1),.int .i64 0,.slice none 0 0]) ?_ 2 _ rfl;refine Qk (cs:=#[.int .i64 (rd B 0),.int .i64 0,.int .i64 0,.slice none 0 0]) ?_ 1 _ rfl;refine Qk (cs:=#[.int .i64 0,.int .i64 0,.int .i64 0,.slice none 0 0]) ?_ 0 _ rfl;exact γ.out) hb);replace HB:=sHb hb;(try clear hb);(try clear az);(try clear hk);(try clear hi);obtain⟨ip,iq,iu,iv,j8,j9⟩:=qD3 Y.out)|((with_reducible refine Qv (f:=39) rfl ?_);refine Ze (some 44) rfl rfl Tryd.func39 kr rfl #[.slice A0 l0.length c0,.int .i64 ξ] rfl qM ?_;(with_reducible refine(newelref08_Get.calls k _ _ l0 ξ σ ι ag _ ?side1 ?side2 bi.out).mono ?_);(case side1=>exact(Kd.Zm δ.out).2.2);(case side2=>exact(Kd.Zm δ.out).2.1);rintro e ru ⟨rfl,hb⟩;refine⟨_,rfl, ?_⟩;replace δ :=Aside0.mk (Kd.Q2 δ.out hb);replace Z:=sRb Z hb;replace J:=sBk J hb;replace Y:=sBk Y hb;replace γ:=sBk γ hb;replace HB:=sHb hb;(try clear hb);(try clear az);(try clear hk);(try clear hi))|((with_reducible refine Qz (N:=6) rfl ?_);refine qE 6 #[.int .i64 0,.int .i64 0,.int .i64 0] 75 ?_;intro a9 hg rv hbox hb;have a7:=Aside0.mk hbox;have fy:=sGe hg;have fz:=sGe hg;have a3:=sNl J hg;have aa:=sNg J hg;have ab:=sNl Y hg;have ac:=sNg Y hg;have ae:=sNl γ hg;have af:=sNg γ hg;replace δ :=Aside0.mk (Kd.Q2 (Kd.Q9 δ.out a9 (Nat.le_of_eq hg.symm)) hb);replace Z:=sRb Z hb;replace J:=sBk J hb;replace Y:=sBk Y hb;replace γ:=sBk γ hb;replace HB:=sHb hb;clear hb hbox hg;have px:=aa.out;have py:=a3.out;have lq:=ac.out;have lr:=ab.out;have pz:=af.out;have q0:=ae.out;obtain⟨ja,jb,jc,jd,je,jf⟩:=qD3 a7.out;obtain⟨jk,jl,jm,jn,jo,jp,jq,jr,js,jt⟩:=qD5 J.out))
        refine bodyPost_ret (results_cell_row rfl _ _ ρ 62 #[.int .i64 0,.int .i64 0,.int .i64 0,.slice none 0 0,.int .i64 ag] (0,0) _ rfl (by refine Qk (cs:=#[.int .i64 0,.int .i64 0,.int .i64 0,.slice none 0 0,.int .i64 0]) ?_ 4 _ rfl;refine Qk (cs:=#[.int .i64 0,.int .i64 0,.int .i64 0,.slice none 0 0,.int .i64 0]) ?_ 3 _ rfl;refine Qk (cs:=#[.int .i64 0,.int .i64 0,.int .i64 0,.slice none 0 0,.int .i64 0]) ?_ 2 _ rfl;refine Qk (cs:=#[.int .i64 0,.int .i64 0,.int .i64 0,.slice none 0 0,.int .i64 0]) ?_ 1 _ rfl;refine Qk (cs:=#[.int .i64 0,.int .i64 0,.int .i64 0,.slice none 0 0,.int .i64 0]) ?_ 0 _ rfl;refine Qs ?_ a3.out _;refine Qs ?_ a3.out _;refine Qs ?_ a3.out _;exact J.out) Tryd.underlying62 rfl kr) rfl ?_
        refine⟨.slice none 0 0,by first|rfl|(simp[Qo,Qn] <;> rfl)|(simp[*,Qo,Qn] <;> rfl),Kd.Qt (Kd.R_V (Kd.Z1 _ _ _ w.heap.size _)) (fun k_ hk=>by first|exact⟨(.inr (hk.1)),hk.2⟩|exact(.inr (hk))),bel⟩
      ·replace c9:=Bool.eq_false_iff.mpr c9
       subst c9
       have H1:(some (0,0,0,([]:List Int),120))=some (r1,r2,r3,r4,r5):=by rw[if_neg (show ¬ (false=true) by decide)] at H;exact H
       clear H
       have H:=H1
       clear H1
       simp only[Option.some.injEq,Prod.mk.injEq] at H
       obtain⟨rfl,rfl,rfl,rfl,rfl⟩:=H
       go_enter Tryd.func26,Tryd.ntmps26
       try go_wp2_with (first|((with_reducible refine Qz (N:=2) rfl ?_);refine qE 2 #[.int .i64 0,.int .i64 0,.int .i64 0,.slice none 0 0,.int .i64 0] 62 ?_;intro ρ hg rx hbox hb;have J:=Aside0.mk hbox;have b8:=sGe hg;have ba:=sGe hg;replace δ :=Aside0.mk (Kd.Q2 (Kd.Q9 δ.out ρ (Nat.le_of_eq hg.symm)) hb);replace HB:=sHb hb;clear hb hbox hg)|((with_reducible refine Qv (f:=38) rfl ?_);refine Ze (some 11) rfl rfl Tryd.func38 kr rfl #[.slice A0 l0.length c0,.int .i64 0,.int .i64 3] rfl qM ?_;(with_reducible refine(newelref08_GetRow.calls k _ _ l0 0 3 B ξ χ _ ?side1 ?side2 A2.out).mono ?_);(case side1=>exact(Kd.Zm δ.out).2.2);(case side2=>exact(Kd.Zm δ.out).2.1);rintro e ry ⟨d5,rfl,θ,hb⟩;refine⟨_,rfl, ?_⟩;have Z:=Aside0.mk (Kd.Zd (Kd.Kq (M:=fun k_=>(w.heap.size≤k_)) θ (Qj HB.out) (fun k_ h_=>h_)) (Qj HB.out));replace δ :=Aside0.mk (Kd.Ya δ.out (Kd.Q5 θ) hb);replace J:=sBk J hb;replace HB:=sHb hb;(try clear hb);(try clear az);(try clear hk);(try clear hi);(try clear θ))|((with_reducible refine Qz (N:=3) rfl ?_);refine qE 3 #[.slice none 0 0,.int .i64 0,.int .i64 0] 72 ?_;intro X hg b7 hbox hb;have Y:=Aside0.mk hbox;have bb:=sGe hg;have bd:=sGe hg;have τ :=sNl J hg;have a1:=sNg J hg;replace δ :=Aside0.mk (Kd.Q2 (Kd.Q9 δ.out X (Nat.le_of_eq hg.symm)) hb);replace Z:=sRb Z hb;replace J:=sBk J hb;replace HB:=sHb hb;clear hb hbox hg;obtain⟨ak,ah,g4⟩:=Kd.Zf Z.out;subst g4;have ls:=a1.out;have lu:= τ.out;obtain⟨ju,jv,jw,jx,jy,jz⟩:=qD3 Y.out))
       have D:Aside0 (Kd.V (Kd.int .u8) 5 (((b7.setCell ⟨X,0,none⟩ (.slice ak B.length ah)).setCell ⟨X,1,none⟩ (.int .i64 ξ)).setCell ⟨X,2,none⟩ (.int .i64 χ)) w.heap.size (fun k_=>(aw k_∨w.heap.size≤k_)∧some k_≠(.slice ak B.length ah:Value).ownBlock∧k_≠ρ∧k_≠X) (.slice A0 l0.length c0) l0):=⟨by(with_reducible repeat first|apply Kd.Qx|apply Kd.Qw|apply Kd.Q0);exact Kd.Qt (Kd.Qq (p:=⟨X,2,none⟩) (Kd.Qq (p:=⟨X,1,none⟩) (Kd.Qq (p:=⟨X,0,none⟩) (Kd.Qt δ.out (fun k_ hk=>(⟨hk,hk.2⟩:_∧k_≠X))) (fun _ hk=>hk.2) _) (fun _ hk=>hk.2) (.int .i64 ξ)) (fun _ hk=>hk.2) (.int .i64 χ)) (fun _ hk=>⟨hk.1.1.1.1,⟨hk.1.1.2,⟨hk.1.1.1.2,hk.1.2⟩⟩⟩)⟩
       have I:Aside0 (Kd.R (Kd.int .i64) 3 (((b7.setCell ⟨X,0,none⟩ (.slice ak B.length ah)).setCell ⟨X,1,none⟩ (.int .i64 ξ)).setCell ⟨X,2,none⟩ (.int .i64 χ)) w.heap.size (fun k_=>(w.heap.size≤k_)) (.slice ak B.length ah) B):=⟨by(with_reducible repeat first|apply Kd.Qi|apply Kd.Qh|apply Kd.Ql);exact Kd.Qu (Kd.Qm (Kd.Qm (Kd.Qm (Kd.Qy Z.out Y.out (by decide)) (fun _ hk=>hk.2) _) (fun _ hk=>hk.2) (.int .i64 ξ)) (fun _ hk=>hk.2) (.int .i64 χ)) (fun _ hk=>hk.1.1)⟩
       have O:Aside0 ((((b7.setCell ⟨X,0,none⟩ (.slice ak B.length ah)).setCell ⟨X,1,none⟩ (.int .i64 ξ)).setCell ⟨X,2,none⟩ (.int .i64 χ)).heap[ρ]?=some (.cells #[.int .i64 0,.int .i64 0,.int .i64 0,.slice none 0 0,.int .i64 0] 62 (0,0))):=⟨bka J⟩
       have U:Aside0 ((((b7.setCell ⟨X,0,none⟩ (.slice ak B.length ah)).setCell ⟨X,1,none⟩ (.int .i64 ξ)).setCell ⟨X,2,none⟩ (.int .i64 χ)).heap[X]?=some (.cells #[.slice ak B.length ah,.int .i64 ξ,.int .i64 χ] 72 (0,0))):=⟨by refine Qk (cs:=#[.slice ak B.length ah,.int .i64 ξ,.int .i64 0]) ?_ 2 _ rfl;refine Qk (cs:=#[.slice ak B.length ah,.int .i64 0,.int .i64 0]) ?_ 1 _ rfl;refine Qk (cs:=#[.slice none 0 0,.int .i64 0,.int .i64 0]) ?_ 0 _ rfl;exact Y.out⟩
       have ε :Aside0 (Below w.heap.size w (((b7.setCell ⟨X,0,none⟩ (.slice ak B.length ah)).setCell ⟨X,1,none⟩ (.int .i64 ξ)).setCell ⟨X,2,none⟩ (.int .i64 χ))):=⟨bel⟩
       (try clear δ)
       (try clear Z)
       (try clear J)
       (try clear Y)
       (try clear HB)
       generalize(((b7.setCell ⟨X,0,none⟩ (.slice ak B.length ah)).setCell ⟨X,1,none⟩ (.int .i64 ξ)).setCell ⟨X,2,none⟩ (.int .i64 χ))=oi at D I O U ε ⊢
       have δ :=D
       have Z:=I
       have J:=O
       have Y:=U
       have HB:= ε
       clear D I O U ε
       replace δ :=Aside0.mk (Kd.Q0 δ.out)
       replace Z:=Aside0.mk (Kd.Ql Z.out)
       replace J:=Aside0.mk (Qd J.out)
       replace Y:=Aside0.mk (Qd Y.out)
       replace HB:=Aside0.mk (Qf HB.out)
       have al:0≤(0:Int):=(by omega)
       have am:0<(B.length:Int):=of_decide_eq_true (by assumption)
       obtain⟨ψ,bg,a4⟩:=Kd.Zr (Kd.Q4 Z.out).2.2 0 al am
       cases bg
       have dk:(0<B.length)=True:=eq_true (by omega)
       (try rw[show((0:Int)).toNat=0 from rfl] at a4)
       (try rw[Addr.add_zero'] at a4)
       replace al:=eq_true al
       replace am:=eq_true am
       have an:0≤(1:Int):=(by omega)
       have ao:1<(B.length:Int):=of_decide_eq_true (by assumption)
       obtain⟨b3,bh,a5⟩:=Kd.Zr (Kd.Q4 Z.out).2.2 1 an ao
       obtain rfl: ψ = b3:=(by injection bh)
       (try simp only[show(1:Int).toNat=1 from rfl,Nat.reduceMul,Nat.reduceEqDiff,Go.Addr.add,↓reduceIte] at a5)
       have dm:(1<B.length)=True:=eq_true (by omega)
       (try rw[show((1:Int)).toNat=1 from rfl] at a5)
       replace an:=eq_true an
       replace ao:=eq_true ao
       have ap:0≤(2:Int):=(by omega)
       have ar:2<(B.length:Int):=of_decide_eq_true (by assumption)
       obtain⟨b4,bk,a6⟩:=Kd.Zr (Kd.Q4 Z.out).2.2 2 ap ar
       obtain rfl: ψ = b4:=(by injection bk)
       (try simp only[show(2:Int).toNat=2 from rfl,Nat.reduceMul,Nat.reduceEqDiff,Go.Addr.add,↓reduceIte] at a6)
       have dq:(2<B.length)=True:=eq_true (by omega)
       (try rw[show((2:Int)).toNat=2 from rfl] at a6)
       replace ap:=eq_true ap
       replace ar:=eq_true ar
       refine Yp (n:=15) (S:=fun w'=>w'.cell? ⟨X,0,none⟩=some (.slice (some ψ) B.length ah)∧w'.cell? ⟨X,1,none⟩=some (.int .i64 ξ)∧w'.cell? ⟨X,2,none⟩=some (.int .i64 χ)∧w'.cell? ψ = some (.int .i64 (rd B 0))∧w'.cell? ⟨ψ.block,ψ.off+1,none⟩=some (.int .i64 (rd B 1))∧w'.cell? ⟨ψ.block,ψ.off+2,none⟩=some (.int .i64 (rd B 2))) (ds:=[]) #[false,false,false,false,false,false,false,false,false,false,false,false,false,false,false] kr rfl rfl ⟨(Q3 Y.out 0).trans rfl,(Q3 Y.out 1).trans rfl,(Q3 Y.out 2).trans rfl,a4,a5,a6⟩ (fun hHeld=>?_);refine Xh newelref12_Read.Eu newelref12_Read.M6 (fun HT_ HW_=>?_)
       generalize oi.drew=lz at δ Z J Y HB a4 a5 a6 hHeld ⊢
       refine qP 0 (some 23) (bN 15 1) HT_ ?_
       refine qP 4 (some 27) (bN 15 17) HT_ ?_
       refine qP 8 (some 31) (bN 15 273) HT_ ?_
       refine qT 1 (some 24) (bN 15 275) HT_ HW_ hHeld ?_
       refine qP 2 (some 25) (bN 15 279) HT_ ?_
       refine qT 3 (some 26) (bN 15 287) HT_ HW_ hHeld ?_
       refine qT 5 (some 28) (bN 15 319) HT_ HW_ hHeld ?_
       refine qP 6 (some 29) (bN 15 383) HT_ ?_
       refine qT 7 (some 30) (bN 15 511) HT_ HW_ hHeld ?_
       refine qT 9 (some 32) (bN 15 1023) HT_ HW_ hHeld ?_
       refine qP 10 (some 33) (bN 15 2047) HT_ ?_
       refine qT 11 (some 34) (bN 15 4095) HT_ HW_ hHeld ?_
       refine qP 12 (some 35) (bN 15 8191) HT_ ?_
       refine Ye (i:=13) (N:=some 4) (bN 15 16383) rfl rfl (Z3 HT_.out kr) (by decide) (fun K hK=>?_)
       refine Xy ?hg (N:=4) ?hd (cs:=#[.int .i64 0,.int .i64 0,.int .i64 0,.slice none 0 0]) (t:=26) ?hr ?_;(case hd=>rfl);(case hg=>rfl);(case hr=>go_simp <;> rfl)
       intro κ hg da hbox hb
       have bl:=(hb.cell (World.block_lt_of_cell? _ _ (hHeld.2.2.2.1))).trans (hHeld.2.2.2.1)
       have bm:=(hb.cell (World.block_lt_of_cell? _ _ (hHeld.2.2.2.2.1))).trans (hHeld.2.2.2.2.1)
       have bn:=(hb.cell (World.block_lt_of_cell? _ _ (hHeld.2.2.2.2.2))).trans (hHeld.2.2.2.2.2)
       have γ:=Aside0.mk hbox
       have e4:=sGe hg
       have e9:=sGe hg
       have μ :=sNl J hg
       have ν :=sNg J hg
       have η :=sNl Y hg
       have ω :=sNg Y hg
       replace δ :=Aside0.mk (Kd.Q2 (Kd.Q9 δ.out κ (Nat.le_of_eq hg.symm)) hb)
       replace Z:=sRb Z hb
       replace J:=sBk J hb
       replace Y:=sBk Y hb
       replace HB:=sHb hb
       clear hb hbox hg
       refine hK.out _ _ ⟨qc Y,qc Y,qc Y,bl,bm,bn⟩ (fun hHeld=>?_)
       clear hK K
       refine qN (some 4) ?_
       refine Ye (i:=14) (N:=none) (bN 15 32767) rfl rfl (Z3 HT_.out kr) (by decide) (fun K hK=>?_)
       have r8:da.cell? ⟨κ,0,none⟩=some (.int .i64 0):=(Q3 γ.out 0).trans rfl
       have q1:=Q6 γ.out 0
       have k0:= μ.out
       have k1:= η.out
       have k4:= ν.out
       have k5:= ω.out
       have r9:da.cell? ⟨κ,1,none⟩=some (.int .i64 0):=(Q3 γ.out 1).trans rfl
       have q3:=Q6 γ.out 1
       have k6:= μ.out
       have k7:= η.out
       have k8:= ν.out
       have k9:= ω.out
       have ra:da.cell? ⟨κ,2,none⟩=some (.int .i64 0):=(Q3 γ.out 2).trans rfl
       have q4:=Q6 γ.out 2
       have ka:= μ.out
       have kb:= η.out
       have kc:= ν.out
       have kd:= ω.out
       have rb:da.cell? ⟨κ,3,none⟩=some (.slice none 0 0):=(Q3 γ.out 3).trans rfl
       have q5:=Q6 γ.out 3
       have ke:= μ.out
       have kf:= η.out
       have kg:= ν.out
       have kh:= ω.out
       refine J0 (w1:=?_) (by rfl) rfl ?_ ?_
       rotate_left
       ·go_simp
        rfl
       have a2:=Kd.J6 (Kd.Y5 Z.out γ.out (by decide))
       refine hK.out _ _ ⟨(by rw[cell_far,cell_far,cell_far,cell_far];all_goals (first|(with_reducible exact hHeld.1)|(with_reducible exact η.out))),(by rw[cell_far,cell_far,cell_far,cell_far];all_goals (first|(with_reducible exact hHeld.2.1)|(with_reducible exact η.out))),(by rw[cell_far,cell_far,cell_far,cell_far];all_goals (first|(with_reducible exact hHeld.2.2.1)|(with_reducible exact η.out))),(by rw[cell_far,cell_far,cell_far,cell_far];all_goals (first|(with_reducible exact hHeld.2.2.2.1)|(with_reducible exact a2)|exact a2)),(by rw[cell_far,cell_far,cell_far,cell_far];all_goals (first|(with_reducible exact hHeld.2.2.2.2.1)|(with_reducible exact a2)|exact a2)),(by rw[cell_far,cell_far,cell_far,cell_far];all_goals (first|(with_reducible exact hHeld.2.2.2.2.2)|(with_reducible exact a2)|exact a2))⟩ (fun hHeld=>?_)
       clear hK K
       refine Jc (Yi HT_.out kr) ?_
       have oj:= ν.out
       have ol:= μ.out
       have nj:= ω.out
       have nk:= η.out
       obtain⟨ki,kj,kk,kl,km,kn,ko,kp⟩:=qD4 γ.out
       try go_wp2_with (first|((with_reducible refine Qv (f:=21) rfl ?_);refine Ze (some 37) rfl rfl Tryd.func21 kr rfl #[.agg #[.int .i64 (rd B 0),.int .i64 (rd B 1),.int .i64 (rd B 2),.slice none 0 0]] rfl qM ?_;(refine(newelref12_May.calls (rd B 0) (rd B 1) (rd B 2) _ _ ([]:List Int) false _ ?side1 ?side2 A8.out).mono ?_);(case side1=>exact Kd.Jt _ _);(case side2=>exact Nat.le_refl _);rintro e rz ⟨rfl,hb⟩;refine⟨_,rfl, ?_⟩;replace δ :=Aside0.mk (Kd.Q2 (by(with_reducible repeat first|apply Kd.Qx|apply Kd.Qw|apply Kd.Q0);exact(Kd.Qt (Kd.Qq (p:=⟨κ,3,none⟩) (Kd.Qq (p:=⟨κ,2,none⟩) (Kd.Qq (p:=⟨κ,1,none⟩) (Kd.Qq (p:=⟨κ,0,none⟩) (Kd.Qt δ.out (fun k_ hk=>(⟨hk,hk.2⟩:_∧k_ ≠ κ))) (fun _ hk=>hk.2) (.int .i64 (rd B 0))) (fun _ hk=>hk.2) (.int .i64 (rd B 1))) (fun _ hk=>hk.2) (.int .i64 (rd B 2))) (fun _ hk=>hk.2) (.slice none 0 0)) (fun _ h_=>h_.1))) hb);replace Z:=Aside0.mk (Kd.Q1 (by(with_reducible repeat first|apply Kd.Qi|apply Kd.Qh|apply Kd.Ql);exact(Kd.Qu (Kd.Qm (Kd.Qm (Kd.Qm (Kd.Qm (Kd.Qy Z.out γ.out (by decide)) (fun _ hk=>hk.2) (.int .i64 (rd B 0))) (fun _ hk=>hk.2) (.int .i64 (rd B 1))) (fun _ hk=>hk.2) (.int .i64 (rd B 2))) (fun _ hk=>hk.2) (.slice none 0 0)) (fun _ h_=>h_.1))) hb);replace J:=sBk J hb;replace Y:=sBk Y hb;replace γ:=Aside0.mk (Qp (g:= κ) (o:=.cells #[.int .i64 (rd B 0),.int .i64 (rd B 1),.int .i64 (rd B 2),.slice none 0 0] 26 (0,0)) (by refine Qk (cs:=#[.int .i64 (rd B 0),.int .i64 (rd B 1),.int .i64 (rd B 2),.slice none 0 0]) ?_ 3 _ rfl;refine Qk (cs:=#[.int .i64 (rd B 0),.int .i64 (rd B 1),.int .i64 0,.slice none 0 0]) ?_ 2 _ rfl;refine Qk (cs:=#[.int .i64 (rd B 0),.int .i64 0,.int .i64 0,.slice none 0 0]) ?_ 1 _ rfl;refine Qk (cs:=#[.int .i64 0,.int .i64 0,.int .i64 0,.slice none 0 0]) ?_ 0 _ rfl;exact γ.out) hb);replace HB:=sHb hb;(try clear hb);(try clear az);(try clear hk);(try clear hi);obtain⟨iw,ix,iy,iz,ks,j4,j5,j6,j7,kt⟩:=qD5 J.out))
       refine bodyPost_ret (results_cell_row rfl _ _ ρ 62 #[.int .i64 0,.int .i64 0,.int .i64 0,.slice none 0 0,.int .i64 120] (0,0) _ rfl (by refine Qk (cs:=#[.int .i64 0,.int .i64 0,.int .i64 0,.slice none 0 0,.int .i64 0]) ?_ 4 _ rfl;refine Qk (cs:=#[.int .i64 0,.int .i64 0,.int .i64 0,.slice none 0 0,.int .i64 0]) ?_ 3 _ rfl;refine Qk (cs:=#[.int .i64 0,.int .i64 0,.int .i64 0,.slice none 0 0,.int .i64 0]) ?_ 2 _ rfl;refine Qk (cs:=#[.int .i64 0,.int .i64 0,.int .i64 0,.slice none 0 0,.int .i64 0]) ?_ 1 _ rfl;refine Qk (cs:=#[.int .i64 0,.int .i64 0,.int .i64 0,.slice none 0 0,.int .i64 0]) ?_ 0 _ rfl;exact J.out) Tryd.underlying62 rfl kr) rfl ?_
       refine⟨.slice none 0 0,by first|rfl|(simp[Qo,Qn] <;> rfl)|(simp[*,Qo,Qn] <;> rfl),Kd.Qt (Kd.R_V (Kd.Z1 _ _ _ w.heap.size _)) (fun k_ hk=>by first|exact⟨(.inr (hk.1)),hk.2⟩|exact(.inr (hk))),bel⟩
     ·rw[if_neg c7] at H
      exact absurd H (by simp)
    ·rw[if_neg c6] at H
     exact absurd H (by simp)
   ·rw[if_neg c5] at H
    exact absurd H (by simp)
  ·rw[if_neg c4] at H
   have c4b0:((B.length:Int)==3)=false:=beq_eq_false_iff_ne.mpr c4
   have c4b1:((B.length:Int) != 3)=true:=bne_iff_ne.mpr c4
   simp only[Option.some.injEq,Prod.mk.injEq] at H
   obtain⟨rfl,rfl,rfl,rfl,rfl⟩:=H
   go_enter Tryd.func26,Tryd.ntmps26
   go_wp2_with (first|((with_reducible refine Qz (N:=2) rfl ?_);refine qE 2 #[.int .i64 0,.int .i64 0,.int .i64 0,.slice none 0 0,.int .i64 0] 62 ?_;intro ρ hg s0 hbox hb;have J:=Aside0.mk hbox;have b8:=sGe hg;have ba:=sGe hg;replace δ :=Aside0.mk (Kd.Q2 (Kd.Q9 δ.out ρ (Nat.le_of_eq hg.symm)) hb);replace HB:=sHb hb;clear hb hbox hg)|((with_reducible refine Qv (f:=38) rfl ?_);refine Ze (some 11) rfl rfl Tryd.func38 kr rfl #[.slice A0 l0.length c0,.int .i64 0,.int .i64 3] rfl qM ?_;(with_reducible refine(newelref08_GetRow.calls k _ _ l0 0 3 B ξ χ _ ?side1 ?side2 A2.out).mono ?_);(case side1=>exact(Kd.Zm δ.out).2.2);(case side2=>exact(Kd.Zm δ.out).2.1);rintro e s1 ⟨d5,rfl,θ,hb⟩;refine⟨_,rfl, ?_⟩;have Z:=Aside0.mk (Kd.Zd (Kd.Kq (M:=fun k_=>(w.heap.size≤k_)) θ (Qj HB.out) (fun k_ h_=>h_)) (Qj HB.out));replace δ :=Aside0.mk (Kd.Ya δ.out (Kd.Q5 θ) hb);replace J:=sBk J hb;replace HB:=sHb hb;(try clear hb);(try clear az);(try clear hk);(try clear hi);(try clear θ))|((with_reducible refine Qz (N:=3) rfl ?_);refine qE 3 #[.slice none 0 0,.int .i64 0,.int .i64 0] 72 ?_;intro X hg s2 hbox hb;have Y:=Aside0.mk hbox;have bb:=sGe hg;have bd:=sGe hg;have τ :=sNl J hg;have a1:=sNg J hg;replace δ :=Aside0.mk (Kd.Q2 (Kd.Q9 δ.out X (Nat.le_of_eq hg.symm)) hb);replace Z:=sRb Z hb;replace J:=sBk J hb;replace HB:=sHb hb;clear hb hbox hg;obtain⟨rc,re,g5⟩:=Kd.Zf Z.out;subst g5;have q6:=a1.out;have q7:= τ.out;obtain⟨ku,kv,kw,kx,ky,kz⟩:=qD3 Y.out;obtain⟨l2,l3,l4,l5,l6,l7,l8,l9,lb,lc⟩:=qD5 J.out))
   refine bodyPost_ret (results_cell_row rfl _ _ ρ 62 #[.int .i64 0,.int .i64 0,.int .i64 0,.slice none 0 0,.int .i64 120] (0,0) _ rfl (by refine Qk (cs:=#[.int .i64 0,.int .i64 0,.int .i64 0,.slice none 0 0,.int .i64 0]) ?_ 4 _ rfl;refine Qk (cs:=#[.int .i64 0,.int .i64 0,.int .i64 0,.slice none 0 0,.int .i64 0]) ?_ 3 _ rfl;refine Qk (cs:=#[.int .i64 0,.int .i64 0,.int .i64 0,.slice none 0 0,.int .i64 0]) ?_ 2 _ rfl;refine Qk (cs:=#[.int .i64 0,.int .i64 0,.int .i64 0,.slice none 0 0,.int .i64 0]) ?_ 1 _ rfl;refine Qk (cs:=#[.int .i64 0,.int .i64 0,.int .i64 0,.slice none 0 0,.int .i64 0]) ?_ 0 _ rfl;refine Qs ?_ τ.out _;refine Qs ?_ τ.out _;refine Qs ?_ τ.out _;exact J.out) Tryd.underlying62 rfl kr) rfl ?_
   refine⟨.slice none 0 0,by first|rfl|(simp[Qo,Qn] <;> rfl)|(simp[*,Qo,Qn] <;> rfl),Kd.Qt (Kd.R_V (Kd.Z1 _ _ _ w.heap.size _)) (fun k_ hk=>by first|exact⟨(.inr (hk.1)),hk.2⟩|exact(.inr (hk))),bel⟩
 ·rw[if_neg c3] at H
  have c3b0:(χ == 0)=false:=beq_eq_false_iff_ne.mpr c3
  have c3b1:(χ != 0)=true:=bne_iff_ne.mpr c3
  simp only[Option.some.injEq,Prod.mk.injEq] at H
  obtain⟨rfl,rfl,rfl,rfl,rfl⟩:=H
  go_enter Tryd.func26,Tryd.ntmps26
  go_wp2_with (first|((with_reducible refine Qz (N:=2) rfl ?_);refine qE 2 #[.int .i64 0,.int .i64 0,.int .i64 0,.slice none 0 0,.int .i64 0] 62 ?_;intro ρ hg s3 hbox hb;have J:=Aside0.mk hbox;have b8:=sGe hg;have ba:=sGe hg;replace δ :=Aside0.mk (Kd.Q2 (Kd.Q9 δ.out ρ (Nat.le_of_eq hg.symm)) hb);replace HB:=sHb hb;clear hb hbox hg)|((with_reducible refine Qv (f:=38) rfl ?_);refine Ze (some 11) rfl rfl Tryd.func38 kr rfl #[.slice A0 l0.length c0,.int .i64 0,.int .i64 3] rfl qM ?_;(with_reducible refine(newelref08_GetRow.calls k _ _ l0 0 3 B ξ χ _ ?side1 ?side2 A2.out).mono ?_);(case side1=>exact(Kd.Zm δ.out).2.2);(case side2=>exact(Kd.Zm δ.out).2.1);rintro e s4 ⟨d5,rfl,θ,hb⟩;refine⟨_,rfl, ?_⟩;have Z:=Aside0.mk (Kd.Zd (Kd.Kq (M:=fun k_=>(w.heap.size≤k_)) θ (Qj HB.out) (fun k_ h_=>h_)) (Qj HB.out));replace δ :=Aside0.mk (Kd.Ya δ.out (Kd.Q5 θ) hb);replace J:=sBk J hb;replace HB:=sHb hb;(try clear hb);(try clear az);(try clear hk);(try clear hi);(try clear θ))|((with_reducible refine Qz (N:=3) rfl ?_);refine qE 3 #[.slice none 0 0,.int .i64 0,.int .i64 0] 72 ?_;intro X hg s5 hbox hb;have Y:=Aside0.mk hbox;have bb:=sGe hg;have bd:=sGe hg;have τ :=sNl J hg;have a1:=sNg J hg;replace δ :=Aside0.mk (Kd.Q2 (Kd.Q9 δ.out X (Nat.le_of_eq hg.symm)) hb);replace Z:=sRb Z hb;replace J:=sBk J hb;replace HB:=sHb hb;clear hb hbox hg;obtain⟨rf,rh,g6⟩:=Kd.Zf Z.out;subst g6;have m1:=a1.out;have m2:= τ.out;obtain⟨lf,lg,lh,ll,ln,lp⟩:=qD3 Y.out;obtain⟨m0,m5,m6,m7,m8,m9,ma,mb,mc,mi⟩:=qD5 J.out))
  refine bodyPost_ret (results_cell_row rfl _ _ ρ 62 #[.int .i64 0,.int .i64 0,.int .i64 0,.slice none 0 0,.int .i64 χ] (0,0) _ rfl (by refine Qk (cs:=#[.int .i64 0,.int .i64 0,.int .i64 0,.slice none 0 0,.int .i64 0]) ?_ 4 _ rfl;refine Qk (cs:=#[.int .i64 0,.int .i64 0,.int .i64 0,.slice none 0 0,.int .i64 0]) ?_ 3 _ rfl;refine Qk (cs:=#[.int .i64 0,.int .i64 0,.int .i64 0,.slice none 0 0,.int .i64 0]) ?_ 2 _ rfl;refine Qk (cs:=#[.int .i64 0,.int .i64 0,.int .i64 0,.slice none 0 0,.int .i64 0]) ?_ 1 _ rfl;refine Qk (cs:=#[.int .i64 0,.int .i64 0,.int .i64 0,.slice none 0 0,.int .i64 0]) ?_ 0 _ rfl;refine Qs ?_ τ.out _;refine Qs ?_ τ.out _;refine Qs ?_ τ.out _;exact J.out) Tryd.underlying62 rfl kr) rfl ?_
  refine⟨.slice none 0 0,by first|rfl|(simp[Qo,Qn] <;> rfl)|(simp[*,Qo,Qn] <;> rfl),Kd.Qt (Kd.R_V (Kd.Z1 _ _ _ w.heap.size _)) (fun k_ hk=>by first|exact⟨(.inr (hk.1)),hk.2⟩|exact(.inr (hk))),bel⟩
end Go.Proofs.YtickbejailcehaaDoor.C
