/- Texts of this claim, one behind the other: what the law's functions come to, walked (printed by a program, with the words that the print uses), and what that is, in plain Lean. No conditions of their own. -/
import Derived.Test.YtmfffemidlhcpaaQGroupAll3
import Derived.Laws.EntriesVeiled
namespace Go.Proofs.Ytmfffemidlhcpaa.C
open Go.RowKit Go.Proofs.YtmfffemidlhcpaaW.PrintWords Go.Proofs.YtmfffemidlhcpaaW.PrintLast Go.Proofs.YtmfffemidlhcpaaW.PrintMore
def phV:Value:=.agg #[.int .i64 0,.func (.func 95) #[] #[],.int .i64 60,.func (.func 96) #[] #[],.int .i64 300,.func (.func 98) #[] #[],.int .i64 60,.func (.func 99) #[] #[]]
set_option maxHeartbeats 8000000 in
set_option maxRecDepth 100000 in
theorem door_phases.calls (w:World):Calls Try.prog 87 #[] w fun e w'=>e = .returned phV∧Below w.heap.size w w':=by
  have J:=Try.underlying131
  have B:=Try.underlying132
  have HB:=Aside0.mk (Below.refl w.heap.size w)
  go_enter Try.func87,Try.ntmps87
  go_wp2_with (first|((with_reducible refine Qf (N:=0) rfl ?_);refine Zg ?hg (N:=0) ?hd (cs:=#[.int .i64 0,.nilFunc,.int .i64 0,.nilFunc,.int .i64 0,.nilFunc,.int .i64 0,.nilFunc]) (t:=132) ?hr ?_;(case hd=>rfl);(case hg=>rfl);(case hr=>first|(go_simp;done)|(go_simp;rfl));intro gb hg w1 hbox hb;have O:=Aside0.mk (Q0 HB.out hb);have BK:=Aside0.mk hbox;have GE:=Aside0.mk (by rw[hg];exact Nat.le_refl _:w.heap.size≤gb);clear HB hg hb hbox;have Z:=(Qa BK.out 0).trans rfl;have γ:=Qb BK.out 0;have ct:=(Qa BK.out 1).trans rfl;have δ :=Qb BK.out 1;have du:=(Qa BK.out 2).trans rfl;have co:=Qb BK.out 2;have ε :=(Qa BK.out 3).trans rfl;have ζ :=Qb BK.out 3;have η :=(Qa BK.out 4).trans rfl;have qu:=Qb BK.out 4;have θ :=(Qa BK.out 5).trans rfl;have qv:=Qb BK.out 5;have ι :=(Qa BK.out 6).trans rfl;have κ :=Qb BK.out 6;have μ :=(Qa BK.out 7).trans rfl;have ν :=Qb BK.out 7))
  have b0:=Yd BK.out 0 (.int .i64 0)
  have b1:=Yd b0 1 (.func (.func 95) #[] #[])
  have b2:=Yd b1 2 (.int .i64 60)
  have b3:=Yd b2 3 (.func (.func 96) #[] #[])
  have X:=Yd b3 4 (.int .i64 300)
  have b5:=Yd X 5 (.func (.func 98) #[] #[])
  have b6:=Yd b5 6 (.int .i64 60)
  have Y:=Yd b6 7 (.func (.func 99) #[] #[])
  simp only[List.setIfInBounds_toArray,List.set_cons_zero,List.set_cons_succ] at Y
  refine bodyPost_ret (v:=phV) ?_ rfl ⟨rfl, ?_⟩
  · refine results_cell_row (p:=0) (ty:=132) ?_ _ _ gb 132 _ (0,0) _ ?_ Y B ?_ ?_
    · rfl
    · rfl
    · rfl
    · kernel_rfl
  · with_reducible repeat(first|exact O.out|refine Qx ?_ GE.out)
section
variable {P : Program} {ops : Array Oper} {Q : Exit → Act → World → Prop}
end
theorem L9 (x y:Value) (w:World):Sem.run Try.prog (Instr.field 131 (.agg #[x,y]) 0) w = .ok x w:=by
  have J:=Try.underlying131
  have B:=Try.underlying3
  simp[Instr.field,run_underlying J,part,isAgg,asAgg,run_underlying B,Result.andThen]
def Zz (d:Int):Int:=if d=0 then 0 else if d=1 then 60 else if d=2 then 300 else 60
def tickN (d:Int):Nat:=if d=0 then 95 else if d=1 then 96 else if d=2 then 98 else 99
theorem Ls {n lo hi:Int} (h:door_within.f n lo hi=some true):lo≤n∧n≤hi:=by
  unfold door_within.f at h
  split at h <;> simp at h <;> omega
theorem L8 (ev:Operand→Value) (o:Oper) (x y:Operand) (ho:o.op = .index 132 x y) (hx:ev x=phV) (hy:ev y = .int .i64 0) (w:World):
    Sem.run Try.prog (execOp ev o) w = .ok (.value (.agg #[.int .i64 0,.func (.func 95) #[] #[]])) w:=by
  have B:=Try.underlying132
  have hs:(Try.prog.info? 131).map (·.size)=some 2:=by kernel_rfl
  obtain⟨i,hi,hs⟩:=Option.map_eq_some_iff.mp hs
  unfold execOp
  rw[ho]
  simp only
  rw[hx,hy]
  unfold phV
  simp[Instr.index,asIntOf,run_underlying B,part,sizeOf,typeInfo,Result.andThen,hi,hs]
theorem L6 (ev:Operand→Value) (o:Oper) (x y:Operand) (ho:o.op = .index 132 x y) (hx:ev x=phV) (hy:ev y = .int .i64 1) (w:World):
    Sem.run Try.prog (execOp ev o) w = .ok (.value (.agg #[.int .i64 60,.func (.func 96) #[] #[]])) w:=by
  have B:=Try.underlying132
  have hs:(Try.prog.info? 131).map (·.size)=some 2:=by kernel_rfl
  obtain⟨i,hi,hs⟩:=Option.map_eq_some_iff.mp hs
  unfold execOp
  rw[ho]
  simp only
  rw[hx,hy]
  unfold phV
  simp[Instr.index,asIntOf,run_underlying B,part,sizeOf,typeInfo,Result.andThen,hi,hs]
theorem L5 (ev:Operand→Value) (o:Oper) (x y:Operand) (ho:o.op = .index 132 x y) (hx:ev x=phV) (hy:ev y = .int .i64 2) (w:World):
    Sem.run Try.prog (execOp ev o) w = .ok (.value (.agg #[.int .i64 300,.func (.func 98) #[] #[]])) w:=by
  have B:=Try.underlying132
  have hs:(Try.prog.info? 131).map (·.size)=some 2:=by kernel_rfl
  obtain⟨i,hi,hs⟩:=Option.map_eq_some_iff.mp hs
  unfold execOp
  rw[ho]
  simp only
  rw[hx,hy]
  unfold phV
  simp[Instr.index,asIntOf,run_underlying B,part,sizeOf,typeInfo,Result.andThen,hi,hs]
theorem L4 (ev:Operand→Value) (o:Oper) (x y:Operand) (ho:o.op = .index 132 x y) (hx:ev x=phV) (hy:ev y = .int .i64 3) (w:World):
    Sem.run Try.prog (execOp ev o) w = .ok (.value (.agg #[.int .i64 60,.func (.func 99) #[] #[]])) w:=by
  have B:=Try.underlying132
  have hs:(Try.prog.info? 131).map (·.size)=some 2:=by kernel_rfl
  obtain⟨i,hi,hs⟩:=Option.map_eq_some_iff.mp hs
  unfold execOp
  rw[ho]
  simp only
  rw[hx,hy]
  unfold phV
  simp[Instr.index,asIntOf,run_underlying B,part,sizeOf,typeInfo,Result.andThen,hi,hs]
theorem Gq {d:Int} {ev:Operand→Value} {o:Oper} {x y:Operand} (ho:o.op = .index 132 x y) (hx:ev x=phV) (hy:ev y = .int .i64 d) (X:0≤d) (Y:d≤3) (w:World):
    Sem.run Try.prog (execOp ev o) w = .ok (.value (.agg #[.int .i64 (Zz d),.func (.func (tickN d)) #[] #[]])) w:=by
  have e:d=0∨d=1∨d=2∨d=3:=by omega
  rcases e with rfl|rfl|rfl|rfl
  · exact L8 ev o x y ho hx hy w
  · exact L6 ev o x y ho hx hy w
  · exact L5 ev o x y ho hx hy w
  · exact L4 ev o x y ho hx hy w
end Go.Proofs.Ytmfffemidlhcpaa.C
namespace Go.Proofs.Ytmfffemidlhcpaa.C
open Go.RowKit Go.Proofs.YtmfffemidlhcpaaW.PrintWords Go.Proofs.YtmfffemidlhcpaaW.PrintLast Go.Proofs.YtmfffemidlhcpaaW.PrintMore
attribute [local go_sem] Zv Zt Z6 Z5 Zk Zj Zu Zs
set_option linter.unusedVariables false
set_option linter.unusedSimpArgs false
def door_Check.f (J:Int) (O:Int) (X:Int):Option (Int):=(door_within.f J 0 3).bind fun a1=>(if a1=true then ((door_on.f J O X 0 0).bind fun η =>((door_within.f O (mn (Zz J) 1) (Zz J)).bind fun ν =>(if ν = true then ((door_within.f X 0 (mn (Zz J) 60)).bind fun θ =>(if θ = true then (some 0) else (some 170))) else (some 170)))) else (some 170))
set_option maxHeartbeats 8000000 in
set_option maxRecDepth 100000 in
theorem door_Check.calls (J:Int) (O:Int) (X:Int) (r:Int) (w:World) (h:door_Check.f J O X=some r):
  Calls Try.prog 71 #[.agg #[.int .i64 J,.int .i64 O,.int .i64 X]] w fun e w'=>e = .returned (.int .i64 r)∧Below w.heap.size w w':=by
 have cy:=Try.underlying27
 have HB:=Aside0.mk (Below.refl w.heap.size w)
 have H:((door_within.f J 0 3).bind fun a1=>(if a1=true then ((door_on.f J O X 0 0).bind fun η =>((door_within.f O (mn (Zz J) 1) (Zz J)).bind fun ν =>(if ν = true then ((door_within.f X 0 (mn (Zz J) 60)).bind fun θ =>(if θ = true then (some 0) else (some 170))) else (some 170)))) else (some 170)))=some r:=h
 clear h
 replace H:=Option.bind_eq_some_iff.mp H
 obtain⟨a1,ko,H⟩:=H
 replace H:(if a1=true then ((door_on.f J O X 0 0).bind fun η =>((door_within.f O (mn (Zz J) 1) (Zz J)).bind fun ν =>(if ν = true then ((door_within.f X 0 (mn (Zz J) 60)).bind fun θ =>(if θ = true then (some 0) else (some 170))) else (some 170)))) else (some 170))=some r:=H
 have A2:=Aside0.mk ko
 clear ko
 by_cases c3:a1=true
 ·subst c3
  have hph_:=Ls A2.out
  have κ :=L9
  have H1:((door_on.f J O X 0 0).bind fun η =>((door_within.f O (mn (Zz J) 1) (Zz J)).bind fun ν =>(if ν = true then ((door_within.f X 0 (mn (Zz J) 60)).bind fun θ =>(if θ = true then (some 0) else (some 170))) else (some 170))))=some r:=by rw[if_pos rfl] at H;exact H
  clear H
  have H:=H1
  clear H1
  replace H:=Option.bind_eq_some_iff.mp H
  obtain⟨⟨χ,a0,γ⟩,d4,H⟩:=H
  replace H:((door_within.f O (mn (Zz J) 1) (Zz J)).bind fun ν =>(if ν = true then ((door_within.f X 0 (mn (Zz J) 60)).bind fun θ =>(if θ = true then (some 0) else (some 170))) else (some 170)))=some r:=H
  have A4:=Aside0.mk d4
  clear d4
  obtain⟨δ,Y⟩:∃ j_:Int,(mn (Zz J) 1)=j_:=⟨_,rfl⟩
  replace H:((door_within.f O (δ) (Zz J)).bind fun ν =>(if ν = true then ((door_within.f X 0 (mn (Zz J) 60)).bind fun θ =>(if θ = true then (some 0) else (some 170))) else (some 170)))=some r:=by first|(rw[Y] at H;exact H)|(simp only[Y] at H ⊢;exact H)
  (try rw[Y] at A2)
  (try rw[Y] at A4)
  (try(have hji5h: δ ≤ 1:=by(rw[← Y];unfold mn;(repeat' split) <;> omega)))
  (try(have hji5g: δ ≤ 64:=by omega))
  have σ:(if 1<(Zz J) then 1 else (Zz J)) = δ :=Y
  replace H:=Option.bind_eq_some_iff.mp H
  obtain⟨ν,b0,H⟩:=H
  replace H:(if ν = true then ((door_within.f X 0 (mn (Zz J) 60)).bind fun θ =>(if θ = true then (some 0) else (some 170))) else (some 170))=some r:=H
  have A6:=Aside0.mk b0
  clear b0
  by_cases c7: ν = true
  ·subst c7
   have H1:((door_within.f X 0 (mn (Zz J) 60)).bind fun θ =>(if θ = true then (some 0) else (some 170)))=some r:=by rw[if_pos rfl] at H;exact H
   clear H
   have H:=H1
   clear H1
   obtain⟨ζ,Z⟩:∃ j_:Int,(mn (Zz J) 60)=j_:=⟨_,rfl⟩
   replace H:((door_within.f X 0 (ζ)).bind fun θ =>(if θ = true then (some 0) else (some 170)))=some r:=by first|(rw[Z] at H;exact H)|(simp only[Z] at H ⊢;exact H)
   (try rw[Z] at A2)
   (try rw[Z] at A4)
   (try rw[Z] at A6)
   (try(have hji8h: ζ ≤ 60:=by(rw[← Z];unfold mn;(repeat' split) <;> omega)))
   (try(have hji8g: ζ ≤ 64:=by omega))
   have τ :(if 60<(Zz J) then 60 else (Zz J)) = ζ :=Z
   replace H:=Option.bind_eq_some_iff.mp H
   obtain⟨θ,bw,H⟩:=H
   replace H:(if θ = true then (some 0) else (some 170))=some r:=H
   have A9:=Aside0.mk bw
   clear bw
   by_cases c10: θ = true
   ·subst c10
    have H1:(some 0)=some r:=by rw[if_pos rfl] at H;exact H
    clear H
    have H:=H1
    clear H1
    obtain rfl:=Option.some.inj H
    go_enter Try.func71,Try.ntmps71
    try go_wp2_with (first|((with_reducible refine Qf (N:=1) rfl ?_);(try(refine Zr (by rfl) ?_;dsimp only));refine qE 1 #[.int .i64 J,.int .i64 O,.int .i64 X] 27 ?_;intro ε hg ec hbox hb;have B:=Aside0.mk hbox;have ψ :=sGe hg;have ι :=sGe hg;replace HB:=sHb hb;clear hb hbox hg;obtain⟨φ,a7,ρ,a8,a9,aa⟩:=qD3 B.out)|((with_reducible refine Qp (f:=86) rfl ?_);refine Q4 (some 6) rfl rfl Try.func86 kr rfl #[.int .i64 J,.int .i64 0,.int .i64 3] rfl qM ?_;(with_reducible refine(door_within.calls J 0 3 true _ A2.out).mono ?_);rintro e w' ⟨rfl,⟨nd,rfl⟩⟩;refine⟨_,rfl, ?_⟩))
    (try(rw[Yt ec];generalize hq_:World.drewN ec _=ec;have μ :Aside0 (ec.heap[ε]?=some (.cells #[.int .i64 J,.int .i64 O,.int .i64 X] 27 (0,0))):=⟨by rw[← hq_];exact(bka B)⟩;have ξ :Aside0 (Below w.heap.size w ec):=⟨by rw[← hq_];exact bel⟩;clear B HB hq_;have B:= μ;have HB:= ξ;clear μ ξ))
    (try(have ab:ec.cell? ⟨ε,0,none⟩=some (.int .i64 J):=(Qa B.out 0).trans rfl))
    (try(have au:ec.cell? ⟨ε,1,none⟩=some (.int .i64 O):=(Qa B.out 1).trans rfl))
    (try(have a3:ec.cell? ⟨ε,2,none⟩=some (.int .i64 X):=(Qa B.out 2).trans rfl))
    (try(have ac:=Qb B.out 0))
    (try(have ax:=Qb B.out 1))
    (try(have a4:=Qb B.out 2))
    have μ :=Aside0.mk (Qe B.out)
    have ξ :=Aside0.mk (Qg HB.out)
    clear B
    clear HB
    have B:= μ
    have HB:= ξ
    clear μ ξ
    refine Zh (n:=6) (S:=fun w'=>w'.cell? ⟨ε,0,none⟩=some (.int .i64 J)∧w'.cell? ⟨ε,1,none⟩=some (.int .i64 O)∧w'.cell? ⟨ε,2,none⟩=some (.int .i64 X)) (ds:=[]) #[false,false,false,false,false,false] kr rfl rfl ⟨(Qa B.out 0).trans rfl,(Qa B.out 1).trans rfl,(Qa B.out 2).trans rfl⟩ (fun hHeld=>?_)
    generalize ec.drew=ft at B HB hHeld ⊢
    refine qV 1 (some 9) (qB 6 2) ?_
    refine qW 2 (some 10) (qB 6 6) hHeld ?_
    refine Vg (i:=0) (N:=some 8) #[true,true,true,false,false,false] rfl rfl kr (by decide) (fun K hK=>?_)
    refine Q9 Try.func87 kr rfl #[] (by rfl) rfl rfl (by(try simp only[List.map_toArray,List.map_cons,List.map_nil]);first|done|rfl|(simp only[List.length_drop,List.length_take];rfl)) ?_
    with_reducible refine(door_phases.calls _).mono ?_
    rintro e kp ⟨rfl,hb⟩
    refine⟨_,rfl, ?_⟩
    have μ :=Aside0.mk (Qy (g:= ε) (o:=.cells #[.int .i64 J,.int .i64 O,.int .i64 X] 27 (0,0)) (by(with_reducible repeat first|refine Qn ?_ _|refine Qe ?_|refine Qo ?_ _);exact B.out) hb)
    have ξ :=Aside0.mk (Q0 (by repeat(first|(with_reducible first|exact HB.out|apply Qu|apply Qi|apply Qg|refine Qx ?_ ι.out)|exact HB.out)) hb)
    clear B
    clear HB
    have B:= μ
    have HB:= ξ
    clear μ ξ
    (try clear hb)
    (try clear a6)
    (try clear hk)
    (try clear hi)
    refine hK.out _ _ ⟨qc B,qc B,qc B⟩ (fun hHeld=>?_)
    clear hK K
    refine qN (some 8) ?_
    refine Vn (i:=3) (N:=some 11) (v:=?_) (a':=?_) #[true,true,true,true,false,false] rfl rfl kr (fun _ _ _ h=>h) (Or.inl ⟨by rfl, ?_⟩) ?_ ?_
    rotate_left
    ·intro w'
     rw[Gq (d:=J) (x:=.tmp 8) (y:=.tmp 10)]
     all_goals first|exact hph_.1|exact hph_.2|rfl
    rotate_left
    ·simp only[Act.put,qS,Xe,Xh]
     rfl
    refine qV 4 (some 12) (qB 6 31) ?_
    refine qV 5 (some 3) (qB 6 63) ?_
    refine Z2 kr ?_
    obtain⟨db,dc,bl,dn,e8,br⟩:=qD3 B.out
    try go_wp2_with (first|((with_reducible refine Qp (f:=86) rfl ?_);refine Q4 (some 18) rfl rfl Try.func86 kr rfl #[.int .i64 O,.int .i64 δ,.int .i64 (Zz J)] rfl (by(try simp only[List.map_toArray,List.map_cons,List.map_nil]);first|done|(simp only[Y];rfl)|rfl|(simp only[List.length_drop,List.length_take];rfl)) ?_;(with_reducible refine(door_within.calls O δ (Zz J) true _ A6.out).mono ?_);rintro e w' ⟨rfl,⟨nd,rfl⟩⟩;refine⟨_,rfl, ?_⟩)|(go_at_call 86;(with_reducible refine(door_within.calls X 0 ζ true _ A9.out).mono ?_);rintro e w' ⟨rfl,⟨nd,rfl⟩⟩))
    go_ret
    exact⟨by first|rfl|(simp[Qk,Qj] <;> rfl)|(simp only[← Y,← Z];first|rfl|(simp[Qk,Qj] <;> rfl))|(simp[*,Qk,Qj] <;> rfl),bel⟩
   ·replace c10:=Bool.eq_false_iff.mpr c10
    subst c10
    have H1:(some 170)=some r:=by rw[if_neg (show ¬ (false=true) by decide)] at H;exact H
    clear H
    have H:=H1
    clear H1
    obtain rfl:=Option.some.inj H
    go_enter Try.func71,Try.ntmps71
    try go_wp2_with (first|((with_reducible refine Qf (N:=1) rfl ?_);(try(refine Zr (by rfl) ?_;dsimp only));refine qE 1 #[.int .i64 J,.int .i64 O,.int .i64 X] 27 ?_;intro ε hg d3 hbox hb;have B:=Aside0.mk hbox;have ψ :=sGe hg;have ι :=sGe hg;replace HB:=sHb hb;clear hb hbox hg;obtain⟨ci,cj,ba,ck,co,dm⟩:=qD3 B.out)|((with_reducible refine Qp (f:=86) rfl ?_);refine Q4 (some 6) rfl rfl Try.func86 kr rfl #[.int .i64 J,.int .i64 0,.int .i64 3] rfl qM ?_;(with_reducible refine(door_within.calls J 0 3 true _ A2.out).mono ?_);rintro e w' ⟨rfl,⟨nd,rfl⟩⟩;refine⟨_,rfl, ?_⟩))
    (try(rw[Yt d3];generalize hq_:World.drewN d3 _=d3;have μ :Aside0 (d3.heap[ε]?=some (.cells #[.int .i64 J,.int .i64 O,.int .i64 X] 27 (0,0))):=⟨by rw[← hq_];exact(bka B)⟩;have ξ :Aside0 (Below w.heap.size w d3):=⟨by rw[← hq_];exact bel⟩;clear B HB hq_;have B:= μ;have HB:= ξ;clear μ ξ))
    (try(have aj:d3.cell? ⟨ε,0,none⟩=some (.int .i64 J):=(Qa B.out 0).trans rfl))
    (try(have ak:d3.cell? ⟨ε,1,none⟩=some (.int .i64 O):=(Qa B.out 1).trans rfl))
    (try(have ao:d3.cell? ⟨ε,2,none⟩=some (.int .i64 X):=(Qa B.out 2).trans rfl))
    (try(have am:=Qb B.out 0))
    (try(have an:=Qb B.out 1))
    (try(have ap:=Qb B.out 2))
    have μ :=Aside0.mk (Qe B.out)
    have ξ :=Aside0.mk (Qg HB.out)
    clear B
    clear HB
    have B:= μ
    have HB:= ξ
    clear μ ξ
    refine Zh (n:=6) (S:=fun w'=>w'.cell? ⟨ε,0,none⟩=some (.int .i64 J)∧w'.cell? ⟨ε,1,none⟩=some (.int .i64 O)∧w'.cell? ⟨ε,2,none⟩=some (.int .i64 X)) (ds:=[]) #[false,false,false,false,false,false] kr rfl rfl ⟨(Qa B.out 0).trans rfl,(Qa B.out 1).trans rfl,(Qa B.out 2).trans rfl⟩ (fun hHeld=>?_)
    generalize d3.drew=dl at B HB hHeld ⊢
    refine qV 1 (some 9) (qB 6 2) ?_
    refine qW 2 (some 10) (qB 6 6) hHeld ?_
    refine Vg (i:=0) (N:=some 8) #[true,true,true,false,false,false] rfl rfl kr (by decide) (fun K hK=>?_)
    refine Q9 Try.func87 kr rfl #[] (by rfl) rfl rfl (by(try simp only[List.map_toArray,List.map_cons,List.map_nil]);first|done|rfl|(simp only[List.length_drop,List.length_take];rfl)) ?_
    with_reducible refine(door_phases.calls _).mono ?_
    rintro e bs ⟨rfl,hb⟩
    refine⟨_,rfl, ?_⟩
    have μ :=Aside0.mk (Qy (g:= ε) (o:=.cells #[.int .i64 J,.int .i64 O,.int .i64 X] 27 (0,0)) (by(with_reducible repeat first|refine Qn ?_ _|refine Qe ?_|refine Qo ?_ _);exact B.out) hb)
    have ξ :=Aside0.mk (Q0 (by repeat(first|(with_reducible first|exact HB.out|apply Qu|apply Qi|apply Qg|refine Qx ?_ ι.out)|exact HB.out)) hb)
    clear B
    clear HB
    have B:= μ
    have HB:= ξ
    clear μ ξ
    (try clear hb)
    (try clear a6)
    (try clear hk)
    (try clear hi)
    refine hK.out _ _ ⟨qc B,qc B,qc B⟩ (fun hHeld=>?_)
    clear hK K
    refine qN (some 8) ?_
    refine Vn (i:=3) (N:=some 11) (v:=?_) (a':=?_) #[true,true,true,true,false,false] rfl rfl kr (fun _ _ _ h=>h) (Or.inl ⟨by rfl, ?_⟩) ?_ ?_
    rotate_left
    ·intro w'
     rw[Gq (d:=J) (x:=.tmp 8) (y:=.tmp 10)]
     all_goals first|exact hph_.1|exact hph_.2|rfl
    rotate_left
    ·simp only[Act.put,qS,Xe,Xh]
     rfl
    refine qV 4 (some 12) (qB 6 31) ?_
    refine qV 5 (some 3) (qB 6 63) ?_
    refine Z2 kr ?_
    obtain⟨bz,ca,dh,cb,cd,di⟩:=qD3 B.out
    try go_wp2_with (first|((with_reducible refine Qp (f:=86) rfl ?_);refine Q4 (some 18) rfl rfl Try.func86 kr rfl #[.int .i64 O,.int .i64 δ,.int .i64 (Zz J)] rfl (by(try simp only[List.map_toArray,List.map_cons,List.map_nil]);first|done|(simp only[Y];rfl)|rfl|(simp only[List.length_drop,List.length_take];rfl)) ?_;(with_reducible refine(door_within.calls O δ (Zz J) true _ A6.out).mono ?_);rintro e w' ⟨rfl,⟨nd,rfl⟩⟩;refine⟨_,rfl, ?_⟩)|(go_at_call 86;(with_reducible refine(door_within.calls X 0 ζ false _ A9.out).mono ?_);rintro e w' ⟨rfl,⟨nd,rfl⟩⟩))
    go_ret
    exact⟨by first|rfl|(simp[Qk,Qj] <;> rfl)|(simp only[← Y,← Z];first|rfl|(simp[Qk,Qj] <;> rfl))|(simp[*,Qk,Qj] <;> rfl),bel⟩
  ·replace c7:=Bool.eq_false_iff.mpr c7
   subst c7
   have H1:(some 170)=some r:=by rw[if_neg (show ¬ (false=true) by decide)] at H;exact H
   clear H
   have H:=H1
   clear H1
   obtain rfl:=Option.some.inj H
   go_enter Try.func71,Try.ntmps71
   try go_wp2_with (first|((with_reducible refine Qf (N:=1) rfl ?_);(try(refine Zr (by rfl) ?_;dsimp only));refine qE 1 #[.int .i64 J,.int .i64 O,.int .i64 X] 27 ?_;intro ε hg bm hbox hb;have B:=Aside0.mk hbox;have ψ :=sGe hg;have ι :=sGe hg;replace HB:=sHb hb;clear hb hbox hg;obtain⟨bn,bo,cm,bp,bq,cn⟩:=qD3 B.out)|((with_reducible refine Qp (f:=86) rfl ?_);refine Q4 (some 6) rfl rfl Try.func86 kr rfl #[.int .i64 J,.int .i64 0,.int .i64 3] rfl qM ?_;(with_reducible refine(door_within.calls J 0 3 true _ A2.out).mono ?_);rintro e w' ⟨rfl,⟨nd,rfl⟩⟩;refine⟨_,rfl, ?_⟩))
   (try(rw[Yt bm];generalize hq_:World.drewN bm _=bm;have μ :Aside0 (bm.heap[ε]?=some (.cells #[.int .i64 J,.int .i64 O,.int .i64 X] 27 (0,0))):=⟨by rw[← hq_];exact(bka B)⟩;have ξ :Aside0 (Below w.heap.size w bm):=⟨by rw[← hq_];exact bel⟩;clear B HB hq_;have B:= μ;have HB:= ξ;clear μ ξ))
   (try(have ea:bm.cell? ⟨ε,0,none⟩=some (.int .i64 J):=(Qa B.out 0).trans rfl))
   (try(have ek:bm.cell? ⟨ε,1,none⟩=some (.int .i64 O):=(Qa B.out 1).trans rfl))
   (try(have dw:bm.cell? ⟨ε,2,none⟩=some (.int .i64 X):=(Qa B.out 2).trans rfl))
   (try(have el:=Qb B.out 0))
   (try(have em:=Qb B.out 1))
   (try(have dx:=Qb B.out 2))
   have μ :=Aside0.mk (Qe B.out)
   have ξ :=Aside0.mk (Qg HB.out)
   clear B
   clear HB
   have B:= μ
   have HB:= ξ
   clear μ ξ
   refine Zh (n:=6) (S:=fun w'=>w'.cell? ⟨ε,0,none⟩=some (.int .i64 J)∧w'.cell? ⟨ε,1,none⟩=some (.int .i64 O)∧w'.cell? ⟨ε,2,none⟩=some (.int .i64 X)) (ds:=[]) #[false,false,false,false,false,false] kr rfl rfl ⟨(Qa B.out 0).trans rfl,(Qa B.out 1).trans rfl,(Qa B.out 2).trans rfl⟩ (fun hHeld=>?_)
   generalize bm.drew=i2 at B HB hHeld ⊢
   refine qV 1 (some 9) (qB 6 2) ?_
   refine qW 2 (some 10) (qB 6 6) hHeld ?_
   refine Vg (i:=0) (N:=some 8) #[true,true,true,false,false,false] rfl rfl kr (by decide) (fun K hK=>?_)
   refine Q9 Try.func87 kr rfl #[] (by rfl) rfl rfl (by(try simp only[List.map_toArray,List.map_cons,List.map_nil]);first|done|rfl|(simp only[List.length_drop,List.length_take];rfl)) ?_
   with_reducible refine(door_phases.calls _).mono ?_
   rintro e df ⟨rfl,hb⟩
   refine⟨_,rfl, ?_⟩
   have μ :=Aside0.mk (Qy (g:= ε) (o:=.cells #[.int .i64 J,.int .i64 O,.int .i64 X] 27 (0,0)) (by(with_reducible repeat first|refine Qn ?_ _|refine Qe ?_|refine Qo ?_ _);exact B.out) hb)
   have ξ :=Aside0.mk (Q0 (by repeat(first|(with_reducible first|exact HB.out|apply Qu|apply Qi|apply Qg|refine Qx ?_ ι.out)|exact HB.out)) hb)
   clear B
   clear HB
   have B:= μ
   have HB:= ξ
   clear μ ξ
   (try clear hb)
   (try clear a6)
   (try clear hk)
   (try clear hi)
   refine hK.out _ _ ⟨qc B,qc B,qc B⟩ (fun hHeld=>?_)
   clear hK K
   refine qN (some 8) ?_
   refine Vn (i:=3) (N:=some 11) (v:=?_) (a':=?_) #[true,true,true,true,false,false] rfl rfl kr (fun _ _ _ h=>h) (Or.inl ⟨by rfl, ?_⟩) ?_ ?_
   rotate_left
   ·intro w'
    rw[Gq (d:=J) (x:=.tmp 8) (y:=.tmp 10)]
    all_goals first|exact hph_.1|exact hph_.2|rfl
   rotate_left
   ·simp only[Act.put,qS,Xe,Xh]
    rfl
   refine qV 4 (some 12) (qB 6 31) ?_
   refine qV 5 (some 3) (qB 6 63) ?_
   refine Z2 kr ?_
   obtain⟨eb,eg,eh,ed,fj,fk⟩:=qD3 B.out
   try go_wp2_with (first|((with_reducible refine Qp (f:=86) rfl ?_);refine Q4 (some 18) rfl rfl Try.func86 kr rfl #[.int .i64 O,.int .i64 δ,.int .i64 (Zz J)] rfl (by(try simp only[List.map_toArray,List.map_cons,List.map_nil]);first|done|(simp only[Y];rfl)|rfl|(simp only[List.length_drop,List.length_take];rfl)) ?_;(with_reducible refine(door_within.calls O δ (Zz J) false _ A6.out).mono ?_);rintro e w' ⟨rfl,⟨nd,rfl⟩⟩;refine⟨_,rfl, ?_⟩))
   go_ret
   exact⟨by first|rfl|(simp[Qk,Qj] <;> rfl)|(simp only[← Y];first|rfl|(simp[Qk,Qj] <;> rfl))|(simp[*,Qk,Qj] <;> rfl),bel⟩
 ·replace c3:=Bool.eq_false_iff.mpr c3
  subst c3
  have H1:(some 170)=some r:=by rw[if_neg (show ¬ (false=true) by decide)] at H;exact H
  clear H
  have H:=H1
  clear H1
  obtain rfl:=Option.some.inj H
  go_enter Try.func71,Try.ntmps71
  go_wp2_with (first|((with_reducible refine Qf (N:=1) rfl ?_);(try(refine Zr (by rfl) ?_;dsimp only));refine qE 1 #[.int .i64 J,.int .i64 O,.int .i64 X] 27 ?_;intro ε hg bv hbox hb;have B:=Aside0.mk hbox;have ψ :=sGe hg;have ι :=sGe hg;replace HB:=sHb hb;clear hb hbox hg;obtain⟨d7,d8,dp,d9,da,dq⟩:=qD3 B.out)|((with_reducible refine Qp (f:=86) rfl ?_);refine Q4 (some 6) rfl rfl Try.func86 kr rfl #[.int .i64 J,.int .i64 0,.int .i64 3] rfl qM ?_;(with_reducible refine(door_within.calls J 0 3 false _ A2.out).mono ?_);rintro e w' ⟨rfl,⟨nd,rfl⟩⟩;refine⟨_,rfl, ?_⟩))
  go_ret
  exact⟨by first|rfl|(simp[Qk,Qj] <;> rfl)|(simp[*,Qk,Qj] <;> rfl),bel⟩
def door_Rest.j0:Nat→Bool→Int→Int→Int→Int→Int→Int→Int→Int→Int→Int→Int→Int→Int→Option (Int×Int)
 |0,_,_,_,_,_,_,_,_,_,_,_,_,_,_=>none
 |k+1,κ,δ,ε,ζ,O,η,θ,B,ι,J,X,Y,Z,γ=>if κ = true then (some (0,170)) else (if Y=0 then (some (0,0)) else (if Y=1 then (some (wrap64 ((wrap64 (Z+(wrap64 (J+B))))+(wrap64 ((mx (wrap64 (X-γ)) 0) * (wrap64 ((wrap64 (O+J))+B))))),0)) else (if Y=2 then (some (wrap64 ((wrap64 (Z+B))+(wrap64 ((mx (wrap64 (X-γ)) 0) * (wrap64 ((wrap64 (O+J))+B))))),0)) else (some (wrap64 (Z+(wrap64 ((mx (wrap64 (X-γ)) 0) * (wrap64 ((wrap64 (O+J))+B))))),0)))))
def door_Rest.f (k:Nat) (J:Int) (O:Int) (X:Int) (Y:Int) (Z:Int) (δ :Int) (γ:Int) (θ :Int) (η :Int) (ζ :Int) (ι :Int) (ε :Int) (κ :Int):Option (Int×Int):=(door_gear.f k J O X Y Z δ γ θ η ζ).bind fun ω =>(if ω = true then ((door_Check.f ι ε κ).bind fun ψ =>(door_Rest.j0 k (ψ != 0) J O X Y Z δ γ θ η ζ ι ε κ)) else (door_Rest.j0 k true J O X Y Z δ γ θ η ζ ι ε κ))
theorem door_Rest.Zo:∀ k,(∀ O X Y J Z y5 y6 y7 y8 y9 γ δ ζ η,LeO (door_Rest.j0 k O X Y J Z y5 y6 y7 y8 y9 γ δ ζ η) (door_Rest.j0 (k+1) O X Y J Z y5 y6 y7 y8 y9 γ δ ζ η))
 |0=>fun _ _ _ _ _ _ _ _ _ _ _ _ _ _ r h=>by simp[door_Rest.j0] at h
 |k+1=>by
  have B:=door_Rest.Zo k
  ·intro O X Y J Z y5 y6 y7 y8 y9 γ δ ζ η
   unfold door_Rest.j0
   repeat' first
   |(with_reducible exact B _ _ _ _ _ _ _ _ _ _ _ _ _ _)
   |(with_reducible exact door_gear.mono _ _ _ _ _ _ _ _ _ _ _)
   |(with_reducible exact LeO.refl _)
   |(with_reducible exact LeO.none _)
   |(with_reducible refine LeO.ite ?_ ?_)
   |(with_reducible refine LeO.bind ?_ (fun _=>?_))
   |exact B _ _ _ _ _ _ _ _ _ _ _ _ _ _
   |exact door_gear.mono _ _ _ _ _ _ _ _ _ _ _
   |exact LeO.none _
   |refine LeO.ite ?_ ?_
   |refine LeO.bind ?_ (fun _=>?_)
theorem door_Rest.mono:∀ J Y a2 a3 O a5 X a7 a8 a9 Z γ δ k,LeO (door_Rest.f k J Y a2 a3 O a5 X a7 a8 a9 Z γ δ) (door_Rest.f (k+1) J Y a2 a3 O a5 X a7 a8 a9 Z γ δ):=by
 intro J Y a2 a3 O a5 X a7 a8 a9 Z γ δ k
 have B:=door_Rest.Zo k
 unfold door_Rest.f
 repeat' first
   |(with_reducible exact B _ _ _ _ _ _ _ _ _ _ _ _ _ _)
   |(with_reducible exact door_gear.mono _ _ _ _ _ _ _ _ _ _ _)
   |(with_reducible exact LeO.refl _)
   |(with_reducible exact LeO.none _)
   |(with_reducible refine LeO.ite ?_ ?_)
   |(with_reducible refine LeO.bind ?_ (fun _=>?_))
   |exact B _ _ _ _ _ _ _ _ _ _ _ _ _ _
   |exact door_gear.mono _ _ _ _ _ _ _ _ _ _ _
   |exact LeO.none _
   |refine LeO.ite ?_ ?_
   |refine LeO.bind ?_ (fun _=>?_)
set_option maxHeartbeats 8000000 in
set_option maxRecDepth 100000 in
theorem door_Rest.calls (k:Nat) (J:Int) (O:Int) (X:Int) (Y:Int) (Z:Int) (δ :Int) (γ:Int) (θ :Int) (η :Int) (ζ :Int) (ι :Int) (ε :Int) (κ :Int) (r1:Int) (r2:Int) (w:World) (h:door_Rest.f k J O X Y Z δ γ θ η ζ ι ε κ = some (r1,r2)):
  Calls Try.prog 47 #[.agg #[.int .i64 J,.int .i64 O,.int .i64 X,.int .i64 Y,.int .i64 Z,.int .i64 δ,.int .i64 γ,.int .i64 θ,.int .i64 η,.int .i64 ζ],.agg #[.int .i64 ι,.int .i64 ε,.int .i64 κ]] w fun e w'=>e = .returned (.tuple #[.int .i64 r1,.int .i64 r2])∧Below w.heap.size w w':=by
 have ew:=Try.underlying25
 have cy:=Try.underlying27
 have HB:=Aside0.mk (Below.refl w.heap.size w)
 have H:((door_gear.f k J O X Y Z δ γ θ η ζ).bind fun ω =>(if ω = true then ((door_Check.f ι ε κ).bind fun ψ =>(door_Rest.j0 k (ψ != 0) J O X Y Z δ γ θ η ζ ι ε κ)) else (door_Rest.j0 k true J O X Y Z δ γ θ η ζ ι ε κ)))=some (r1,r2):=h
 clear h
 have a5:=Aside0.mk H
 clear H
 go_enter Try.func47,Try.ntmps47
 go_upto_region 1 with(first|((with_reducible refine Qf (N:=2) rfl ?_);refine qE 2 #[.int .i64 J,.int .i64 O,.int .i64 X,.int .i64 Y,.int .i64 Z,.int .i64 δ,.int .i64 γ,.int .i64 θ,.int .i64 η,.int .i64 ζ] 25 ?_;intro ai hg w4 hbox hb;have B:=Aside0.mk hbox;have de:=sGe hg;have dh:=sGe hg;replace HB:=sHb hb;clear hb hbox hg)|((with_reducible refine Qf (N:=3) rfl ?_);refine qE 3 #[.int .i64 ι,.int .i64 ε,.int .i64 κ] 27 ?_;intro aj hg w5 hbox hb;have ν :=Aside0.mk hbox;have di:=sGe hg;have dm:=sGe hg;have τ :=sNl B hg;have χ :=sNg B hg;replace B:=sBk B hb;replace HB:=sHb hb;clear hb hbox hg))
 (try simp only[Act.put,qS])
 go_cut [14] (fun co wc=>∃ (kq:Nat) (a0:Bool),co = .bool a0∧Aside0 (door_Rest.j0 kq a0 J O X Y Z δ γ θ η ζ ι ε κ = some (r1,r2))∧Aside0 (kq≤k)∧Aside0 (wc.heap[ai]?=some (.cells #[.int .i64 J,.int .i64 O,.int .i64 X,.int .i64 Y,.int .i64 Z,.int .i64 δ,.int .i64 γ,.int .i64 θ,.int .i64 η,.int .i64 ζ] 25 (0,0)))∧Aside0 (wc.heap[aj]?=some (.cells #[.int .i64 ι,.int .i64 ε,.int .i64 κ] 27 (0,0)))∧Aside0 (Below w.heap.size w wc))
 case first=>
  have H:=a5.out
  clear a5
  replace H:=Option.bind_eq_some_iff.mp H
  obtain⟨ω,b0,H⟩:=H
  replace H:(if ω = true then ((door_Check.f ι ε κ).bind fun ψ =>(door_Rest.j0 k (ψ != 0) J O X Y Z δ γ θ η ζ ι ε κ)) else (door_Rest.j0 k true J O X Y Z δ γ θ η ζ ι ε κ))=some (r1,r2):=H
  have A6:=Aside0.mk b0
  clear b0
  by_cases c7: ω = true
  ·subst c7
   have H1:((door_Check.f ι ε κ).bind fun ψ =>(door_Rest.j0 k (ψ != 0) J O X Y Z δ γ θ η ζ ι ε κ))=some (r1,r2):=by rw[if_pos rfl] at H;exact H
   clear H
   have H:=H1
   clear H1
   replace H:=Option.bind_eq_some_iff.mp H
   obtain⟨ψ,gf,H⟩:=H
   replace H:(door_Rest.j0 k (ψ != 0) J O X Y Z δ γ θ η ζ ι ε κ)=some (r1,r2):=H
   have A8:=Aside0.mk gf
   clear gf
   have H':=Aside0.mk H
   clear H
   have du:= τ.out
   have dv:= χ.out
   obtain⟨a4,ah,cf,cg,cp,cq,cr,bf,bv,df,b3,bu,ct,cu,cv,cw,cx,fk,fl,fm⟩:=Zl B.out
   go_wp2_with (first|((with_reducible refine Qp (f:=72) rfl ?_);refine Q4 (some 8) rfl rfl Try.func72 kr rfl #[.agg #[.int .i64 J,.int .i64 O,.int .i64 X,.int .i64 Y,.int .i64 Z,.int .i64 δ,.int .i64 γ,.int .i64 θ,.int .i64 η,.int .i64 ζ]] rfl qM ?_;(with_reducible refine(door_gear.calls k J O X Y Z δ γ θ η ζ true _ A6.out).mono ?_);rintro e ec ⟨rfl,hb⟩;refine⟨_,rfl, ?_⟩;replace B:=sBk B hb;replace ν :=sBk ν hb;replace HB:=sHb hb;(try clear hb);(try clear a6);(try clear hk);(try clear hi);obtain⟨φ,a7,ρ,a8,a9,aa⟩:=qD3 ν.out)|(go_at_call 71;(with_reducible refine(door_Check.calls ι ε κ ψ _ A8.out).mono ?_);rintro e ch ⟨rfl,hb⟩;have μ :=Aside0.mk (Qy (g:=ai) (o:=.cells #[.int .i64 J,.int .i64 O,.int .i64 X,.int .i64 Y,.int .i64 Z,.int .i64 δ,.int .i64 γ,.int .i64 θ,.int .i64 η,.int .i64 ζ] 25 (0,0)) B.out hb);have ξ :=Aside0.mk (Qy (g:=aj) (o:=.cells #[.int .i64 ι,.int .i64 ε,.int .i64 κ] 27 (0,0)) ν.out hb);have a3:=Aside0.mk (Q0 HB.out hb);clear B;clear ν;clear HB;have B:= μ;have ν := ξ;have HB:=a3;clear μ ξ a3;(try clear hb);(try clear a6);(try clear hk);(try clear hi)))
   go_meet
   case rel=>exact⟨_,((ψ != 0)),rfl,H',⟨by first|omega|exact Nat.le_refl _⟩,B,ν,HB⟩
  ·replace c7:=Bool.eq_false_iff.mpr c7
   subst c7
   have H1:(door_Rest.j0 k true J O X Y Z δ γ θ η ζ ι ε κ)=some (r1,r2):=by rw[if_neg (show ¬ (false=true) by decide)] at H;exact H
   clear H
   have H:=H1
   clear H1
   have H':=Aside0.mk H
   clear H
   have fn:= τ.out
   have fo:= χ.out
   obtain⟨bk,bl,ay,ak,am,an,ao,ap,au,aw,bm,br,az,ax,b1,b2,b4,b5,b6,b7⟩:=Zl B.out
   go_wp2_with (first|((with_reducible refine Qp (f:=72) rfl ?_);refine Q4 (some 8) rfl rfl Try.func72 kr rfl #[.agg #[.int .i64 J,.int .i64 O,.int .i64 X,.int .i64 Y,.int .i64 Z,.int .i64 δ,.int .i64 γ,.int .i64 θ,.int .i64 η,.int .i64 ζ]] rfl qM ?_;(with_reducible refine(door_gear.calls k J O X Y Z δ γ θ η ζ false _ A6.out).mono ?_);rintro e bj ⟨rfl,hb⟩;refine⟨_,rfl, ?_⟩;replace B:=sBk B hb;replace ν :=sBk ν hb;replace HB:=sHb hb;(try clear hb);(try clear a6);(try clear hk);(try clear hi)))
   go_meet
   case rel=>exact⟨_,(true),rfl,H',⟨by first|omega|exact Nat.le_refl _⟩,B,ν,HB⟩
 case rest=>
  clear a5
  try clear c1
  try clear p2
  try clear c4
  try clear c7
  try clear c9
  try clear ag
  try clear a4
  try clear ah
  try clear cf
  try clear cg
  try clear cp
  try clear cq
  try clear cr
  try clear bf
  try clear bv
  try clear df
  try clear φ
  try clear a7
  try clear ρ
  try clear bk
  try clear bl
  try clear ay
  try clear ak
  try clear am
  try clear an
  try clear ao
  try clear ap
  try clear au
  try clear aw
  try clear b3
  try clear bu
  try clear ct
  try clear cu
  try clear cv
  try clear cw
  try clear cx
  try clear fk
  try clear fl
  try clear fm
  try clear a8
  try clear a9
  try clear aa
  try clear bm
  try clear br
  try clear az
  try clear ax
  try clear b1
  try clear b2
  try clear b4
  try clear b5
  try clear b6
  try clear b7
  obtain⟨kq,a0,rfl,HA,er,B,ν,HB⟩:=hcut
  cases kq with
  |zero=>exact absurd HA.out (by simp[door_Rest.j0])
  |succ ma=>
   have H:=HA.out
   clear HA
   simp only[door_Rest.j0] at H
   by_cases σ:a0=true
   ·subst σ
    have H1:(some (0,170))=some (r1,r2):=by rw[if_pos rfl] at H;exact H
    clear H
    have H:=H1
    clear H1
    simp only[Option.some.injEq,Prod.mk.injEq] at H
    obtain⟨rfl,rfl⟩:=H
    go_wp2
    go_ret2
    exact⟨rfl,HB.out⟩
   ·replace σ:=Bool.eq_false_iff.mpr σ
    subst σ
    have H1:(if ι = 0 then (some (0,0)) else (if ι = 1 then (some (wrap64 ((wrap64 (ε + (wrap64 (η + γ))))+(wrap64 ((mx (wrap64 (ζ - κ)) 0) * (wrap64 ((wrap64 (Y + η))+γ))))),0)) else (if ι = 2 then (some (wrap64 ((wrap64 (ε + γ))+(wrap64 ((mx (wrap64 (ζ - κ)) 0) * (wrap64 ((wrap64 (Y + η))+γ))))),0)) else (some (wrap64 (ε + (wrap64 ((mx (wrap64 (ζ - κ)) 0) * (wrap64 ((wrap64 (Y + η))+γ))))),0)))))=some (r1,r2):=by rw[if_neg (show ¬ (false=true) by decide)] at H;exact H
    clear H
    have H:=H1
    clear H1
    by_cases be: ι = 0
    ·rw[if_pos be] at H
     have c18b0:(ι == 0)=true:=beq_iff_eq.mpr be
     have c18b1:(ι != 0)=false:=bne_eq_false_iff_eq.mpr be
     clear be
     simp only[Option.some.injEq,Prod.mk.injEq] at H
     obtain⟨rfl,rfl⟩:=H
     have ce:= χ.out
     have ci:= τ.out
     obtain⟨af,al,bh,ar,av,bi⟩:=qD3 ν.out
     go_wp2
     go_ret2
     exact⟨rfl,HB.out⟩
    ·rw[if_neg be] at H
     have c18b0:(ι == 0)=false:=beq_eq_false_iff_ne.mpr be
     have c18b1:(ι != 0)=true:=bne_iff_ne.mpr be
     by_cases ba: ι = 1
     ·rw[if_pos ba] at H
      have c21b0:(ι == 1)=true:=beq_iff_eq.mpr ba
      have c21b1:(ι != 1)=false:=bne_eq_false_iff_eq.mpr ba
      clear ba
      obtain⟨bd,a1⟩:∃ j_:Int,(mx (wrap64 (ζ - κ)) 0)=j_:=⟨_,rfl⟩
      replace H:(some (wrap64 ((wrap64 (ε + (wrap64 (η + γ))))+(wrap64 ((bd) * (wrap64 ((wrap64 (Y + η))+γ))))),0))=some (r1,r2):=by first|(rw[a1] at H;exact H)|(simp only[a1] at H ⊢;exact H)
      have d4:(if (wrap64 (ζ - κ))<0 then 0 else (wrap64 (ζ - κ)))=bd:=a1
      simp only[Option.some.injEq,Prod.mk.injEq] at H
      obtain⟨rfl,rfl⟩:=H
      have lb:= χ.out
      have lc:= τ.out
      obtain⟨bn,bo,cm,bp,bq,cn⟩:=qD3 ν.out
      obtain⟨ea,ek,dw,dl,e0,e3,e4,e9,b8,b9,el,em,dx,en,et,eu,ez,fr,bb,bc⟩:=Zl B.out
      go_wp2
      go_ret2
      exact⟨by first|rfl|(simp[Qk,Qj] <;> rfl)|(simp only[← a1];first|rfl|(simp[Qk,Qj] <;> rfl))|(simp[*,Qk,Qj] <;> rfl),HB.out⟩
     ·rw[if_neg ba] at H
      have c21b0:(ι == 1)=false:=beq_eq_false_iff_ne.mpr ba
      have c21b1:(ι != 1)=true:=bne_iff_ne.mpr ba
      by_cases ae: ι = 2
      ·rw[if_pos ae] at H
       have c26b0:(ι == 2)=true:=beq_iff_eq.mpr ae
       have c26b1:(ι != 2)=false:=bne_eq_false_iff_eq.mpr ae
       clear ae
       obtain⟨bg,ab⟩:∃ j_:Int,(mx (wrap64 (ζ - κ)) 0)=j_:=⟨_,rfl⟩
       replace H:(some (wrap64 ((wrap64 (ε + γ))+(wrap64 ((bg) * (wrap64 ((wrap64 (Y + η))+γ))))),0))=some (r1,r2):=by first|(rw[ab] at H;exact H)|(simp only[ab] at H ⊢;exact H)
       have d5:(if (wrap64 (ζ - κ))<0 then 0 else (wrap64 (ζ - κ)))=bg:=ab
       simp only[Option.some.injEq,Prod.mk.injEq] at H
       obtain⟨rfl,rfl⟩:=H
       have dr:= χ.out
       have dt:= τ.out
       obtain⟨ic,ie,ig,ih,ii,ij⟩:=qD3 ν.out
       obtain⟨d7,d8,dp,fa,fb,fc,fe,gq,gr,gs,d9,da,dq,ff,fg,fh,fi,gt,gu,gv⟩:=Zl B.out
       go_wp2
       go_ret2
       exact⟨by first|rfl|(simp[Qk,Qj] <;> rfl)|(simp only[← ab];first|rfl|(simp[Qk,Qj] <;> rfl))|(simp[*,Qk,Qj] <;> rfl),HB.out⟩
      ·rw[if_neg ae] at H
       have c26b0:(ι == 2)=false:=beq_eq_false_iff_ne.mpr ae
       have c26b1:(ι != 2)=true:=bne_iff_ne.mpr ae
       obtain⟨bw,ac⟩:∃ j_:Int,(mx (wrap64 (ζ - κ)) 0)=j_:=⟨_,rfl⟩
       replace H:(some (wrap64 (ε + (wrap64 ((bw) * (wrap64 ((wrap64 (Y + η))+γ))))),0))=some (r1,r2):=by first|(rw[ac] at H;exact H)|(simp only[ac] at H ⊢;exact H)
       have d6:(if (wrap64 (ζ - κ))<0 then 0 else (wrap64 (ζ - κ)))=bw:=ac
       simp only[Option.some.injEq,Prod.mk.injEq] at H
       obtain⟨rfl,rfl⟩:=H
       have m8:= χ.out
       have m9:= τ.out
       obtain⟨d0,d1,db,d2,d3,dc⟩:=qD3 ν.out
       obtain⟨dn,dj,dk,bs,cz,dd,eg,bz,ca,cb,e8,ee,ef,eh,ei,eo,ep,cd,cj,ck⟩:=Zl B.out
       go_wp2
       go_ret2
       exact⟨by first|rfl|(simp[Qk,Qj] <;> rfl)|(simp only[← ac];first|rfl|(simp[Qk,Qj] <;> rfl))|(simp[*,Qk,Qj] <;> rfl),HB.out⟩
def door_Ask.j0:Nat→Bool→Int→Int→Int→Int→Int→Int→Int→Int→Int→Int→Option (Int×Int×Int×Int)
 |0,_,_,_,_,_,_,_,_,_,_,_=>none
 |k+1,O,Z,γ,J,δ,ε,ζ,η,B,X,Y=>if O=true then (some (0,0,0,170)) else (if B=0 then (some (1,J,0,0)) else (some (B,X,Y,0)))
def door_Ask.f (k:Nat) (J:Int) (O:Int) (X:Int) (Y:Int) (Z:Int) (δ :Int) (γ:Int) (ι :Int) (ε :Int) (κ :Int):Option (Int×Int×Int×Int):=(door_times.f k J O X Y Z δ γ).bind fun af=>(if af=true then ((door_Check.f ι ε κ).bind fun χ =>(door_Ask.j0 k (χ != 0) J O X Y Z δ γ ι ε κ)) else (door_Ask.j0 k true J O X Y Z δ γ ι ε κ))
theorem door_Ask.Zo:∀ k,(∀ O X Y J Z y5 y6 y7 y8 y9 γ,LeO (door_Ask.j0 k O X Y J Z y5 y6 y7 y8 y9 γ) (door_Ask.j0 (k+1) O X Y J Z y5 y6 y7 y8 y9 γ))
 |0=>fun _ _ _ _ _ _ _ _ _ _ _ r h=>by simp[door_Ask.j0] at h
 |k+1=>by
  have B:=door_Ask.Zo k
  ·intro O X Y J Z y5 y6 y7 y8 y9 γ
   unfold door_Ask.j0
   repeat' first
   |(with_reducible exact B _ _ _ _ _ _ _ _ _ _ _)
   |(with_reducible exact door_times.mono _ _ _ _ _ _ _ _)
   |(with_reducible exact LeO.refl _)
   |(with_reducible exact LeO.none _)
   |(with_reducible refine LeO.ite ?_ ?_)
   |(with_reducible refine LeO.bind ?_ (fun _=>?_))
   |exact B _ _ _ _ _ _ _ _ _ _ _
   |exact door_times.mono _ _ _ _ _ _ _ _
   |exact LeO.none _
   |refine LeO.ite ?_ ?_
   |refine LeO.bind ?_ (fun _=>?_)
theorem door_Ask.mono:∀ J Y a2 a3 O a5 X a7 a8 a9 k,LeO (door_Ask.f k J Y a2 a3 O a5 X a7 a8 a9) (door_Ask.f (k+1) J Y a2 a3 O a5 X a7 a8 a9):=by
 intro J Y a2 a3 O a5 X a7 a8 a9 k
 have B:=door_Ask.Zo k
 unfold door_Ask.f
 repeat' first
   |(with_reducible exact B _ _ _ _ _ _ _ _ _ _ _)
   |(with_reducible exact door_times.mono _ _ _ _ _ _ _ _)
   |(with_reducible exact LeO.refl _)
   |(with_reducible exact LeO.none _)
   |(with_reducible refine LeO.ite ?_ ?_)
   |(with_reducible refine LeO.bind ?_ (fun _=>?_))
   |exact B _ _ _ _ _ _ _ _ _ _ _
   |exact door_times.mono _ _ _ _ _ _ _ _
   |exact LeO.none _
   |refine LeO.ite ?_ ?_
   |refine LeO.bind ?_ (fun _=>?_)
set_option maxHeartbeats 8000000 in
set_option maxRecDepth 100000 in
theorem door_Ask.calls (k:Nat) (J:Int) (O:Int) (X:Int) (Y:Int) (Z:Int) (δ :Int) (γ:Int) (ι :Int) (ε :Int) (κ :Int) (r1:Int) (r2:Int) (r3:Int) (r4:Int) (w:World) (h:door_Ask.f k J O X Y Z δ γ ι ε κ = some (r1,r2,r3,r4)):
  Calls Try.prog 46 #[.agg #[.int .i64 J,.int .i64 O,.int .i64 X,.int .i64 Y,.int .i64 Z,.int .i64 δ,.int .i64 γ],.agg #[.int .i64 ι,.int .i64 ε,.int .i64 κ]] w fun e w'=>e = .returned (.tuple #[.agg #[.int .i64 r1,.int .i64 r2,.int .i64 r3],.int .i64 r4])∧Below w.heap.size w w':=by
 have h5:=Try.underlying23
 have cy:=Try.underlying27
 have HB:=Aside0.mk (Below.refl w.heap.size w)
 have H:((door_times.f k J O X Y Z δ γ).bind fun af=>(if af=true then ((door_Check.f ι ε κ).bind fun χ =>(door_Ask.j0 k (χ != 0) J O X Y Z δ γ ι ε κ)) else (door_Ask.j0 k true J O X Y Z δ γ ι ε κ)))=some (r1,r2,r3,r4):=h
 clear h
 have a5:=Aside0.mk H
 clear H
 go_enter Try.func46,Try.ntmps46
 go_upto_region 1 with(first|((with_reducible refine Qf (N:=2) rfl ?_);refine qE 2 #[.int .i64 J,.int .i64 O,.int .i64 X,.int .i64 Y,.int .i64 Z,.int .i64 δ,.int .i64 γ] 23 ?_;intro av hg w4 hbox hb;have B:=Aside0.mk hbox;have b1:=sGe hg;have b2:=sGe hg;replace HB:=sHb hb;clear hb hbox hg)|((with_reducible refine Qf (N:=3) rfl ?_);refine qE 3 #[.int .i64 ι,.int .i64 ε,.int .i64 κ] 27 ?_;intro b0 hg w5 hbox hb;have ζ :=Aside0.mk hbox;have b4:=sGe hg;have bu:=sGe hg;have ψ :=sNl B hg;have ω :=sNg B hg;replace B:=sBk B hb;replace HB:=sHb hb;clear hb hbox hg)|((with_reducible refine Qf (N:=4) rfl ?_);refine qE 4 #[.int .i64 0,.int .i64 0,.int .i64 0] 27 ?_;intro a1 hg w6 hbox hb;have η :=Aside0.mk hbox;have cb:=sGe hg;have cd:=sGe hg;have ν :=sNl B hg;have τ :=sNg B hg;have a0:=sNl ζ hg;have θ :=sNg ζ hg;replace B:=sBk B hb;replace ζ :=sBk ζ hb;replace HB:=sHb hb;clear hb hbox hg))
 (try simp only[Act.put,qS])
 go_cut [13] (fun ar wc=>∃ (kq:Nat) (al:Bool),ar = .bool al∧Aside0 (door_Ask.j0 kq al J O X Y Z δ γ ι ε κ = some (r1,r2,r3,r4))∧Aside0 (kq≤k)∧Aside0 (wc.heap[av]?=some (.cells #[.int .i64 J,.int .i64 O,.int .i64 X,.int .i64 Y,.int .i64 Z,.int .i64 δ,.int .i64 γ] 23 (0,0)))∧Aside0 (wc.heap[b0]?=some (.cells #[.int .i64 ι,.int .i64 ε,.int .i64 κ] 27 (0,0)))∧Aside0 (wc.heap[a1]?=some (.cells #[.int .i64 0,.int .i64 0,.int .i64 0] 27 (0,0)))∧Aside0 (Below w.heap.size w wc))
 case first=>
  have H:=a5.out
  clear a5
  replace H:=Option.bind_eq_some_iff.mp H
  obtain⟨af,ce,H⟩:=H
  replace H:(if af=true then ((door_Check.f ι ε κ).bind fun χ =>(door_Ask.j0 k (χ != 0) J O X Y Z δ γ ι ε κ)) else (door_Ask.j0 k true J O X Y Z δ γ ι ε κ))=some (r1,r2,r3,r4):=H
  have A7:=Aside0.mk ce
  clear ce
  by_cases c8:af=true
  ·subst c8
   have H1:((door_Check.f ι ε κ).bind fun χ =>(door_Ask.j0 k (χ != 0) J O X Y Z δ γ ι ε κ))=some (r1,r2,r3,r4):=by rw[if_pos rfl] at H;exact H
   clear H
   have H:=H1
   clear H1
   replace H:=Option.bind_eq_some_iff.mp H
   obtain⟨χ,bw,H⟩:=H
   replace H:(door_Ask.j0 k (χ != 0) J O X Y Z δ γ ι ε κ)=some (r1,r2,r3,r4):=H
   have A9:=Aside0.mk bw
   clear bw
   have H':=Aside0.mk H
   clear H
   have bv:= ψ.out
   have cp:= ω.out
   have ft:= ν.out
   have gh:= τ.out
   obtain⟨φ,a7,ρ,ab,ac,ae,ai,a8,a9,aa,au,aw,ax,bg⟩:=qD7 B.out
   go_wp2_with (first|((with_reducible refine Qp (f:=70) rfl ?_);refine Q4 (some 7) rfl rfl Try.func70 kr rfl #[.agg #[.int .i64 J,.int .i64 O,.int .i64 X,.int .i64 Y,.int .i64 Z,.int .i64 δ,.int .i64 γ]] rfl qM ?_;(with_reducible refine(door_times.calls k J O X Y Z δ γ true _ A7.out).mono ?_);rintro e ch ⟨rfl,hb⟩;refine⟨_,rfl, ?_⟩;replace B:=sBk B hb;replace ζ :=sBk ζ hb;replace η :=sBk η hb;replace HB:=sHb hb;(try clear hb);(try clear a6);(try clear hk);(try clear hi);have fn:=a0.out;have fo:= θ.out;obtain⟨bk,bl,ay,bm,br,az⟩:=qD3 ζ.out)|(go_at_call 71;(with_reducible refine(door_Check.calls ι ε κ χ _ A9.out).mono ?_);rintro e bj ⟨rfl,hb⟩;have μ :=Aside0.mk (Qy (g:=av) (o:=.cells #[.int .i64 J,.int .i64 O,.int .i64 X,.int .i64 Y,.int .i64 Z,.int .i64 δ,.int .i64 γ] 23 (0,0)) B.out hb);have ξ :=Aside0.mk (Qy (g:=b0) (o:=.cells #[.int .i64 ι,.int .i64 ε,.int .i64 κ] 27 (0,0)) ζ.out hb);have a3:=Aside0.mk (Qy (g:=a1) (o:=.cells #[.int .i64 0,.int .i64 0,.int .i64 0] 27 (0,0)) η.out hb);have a4:=Aside0.mk (Q0 HB.out hb);clear B;clear ζ;clear η;clear HB;have B:= μ;have ζ := ξ;have η :=a3;have HB:=a4;clear μ ξ a3 a4;(try clear hb);(try clear a6);(try clear hk);(try clear hi)))
   go_meet
   case rel=>exact⟨_,((χ != 0)),rfl,H',⟨by first|omega|exact Nat.le_refl _⟩,B,ζ,η,HB⟩
  ·replace c8:=Bool.eq_false_iff.mpr c8
   subst c8
   have H1:(door_Ask.j0 k true J O X Y Z δ γ ι ε κ)=some (r1,r2,r3,r4):=by rw[if_neg (show ¬ (false=true) by decide)] at H;exact H
   clear H
   have H:=H1
   clear H1
   have H':=Aside0.mk H
   clear H
   have hh:= ψ.out
   have iw:= ω.out
   have d5:= ν.out
   have ev:= τ.out
   obtain⟨aj,ak,ao,b5,b6,b7,b8,am,an,ap,b9,bb,bc,bd⟩:=qD7 B.out
   go_wp2_with (first|((with_reducible refine Qp (f:=70) rfl ?_);refine Q4 (some 7) rfl rfl Try.func70 kr rfl #[.agg #[.int .i64 J,.int .i64 O,.int .i64 X,.int .i64 Y,.int .i64 Z,.int .i64 δ,.int .i64 γ]] rfl qM ?_;(with_reducible refine(door_times.calls k J O X Y Z δ γ false _ A7.out).mono ?_);rintro e dl ⟨rfl,hb⟩;refine⟨_,rfl, ?_⟩;replace B:=sBk B hb;replace ζ :=sBk ζ hb;replace η :=sBk η hb;replace HB:=sHb hb;(try clear hb);(try clear a6);(try clear hk);(try clear hi)))
   go_meet
   case rel=>exact⟨_,(true),rfl,H',⟨by first|omega|exact Nat.le_refl _⟩,B,ζ,η,HB⟩
 case rest=>
  clear a5
  try clear c1
  try clear p2
  try clear c4
  try clear c7
  try clear c8
  try clear c10
  try clear ah
  try clear ag
  try clear σ
  try clear be
  try clear φ
  try clear a7
  try clear ρ
  try clear ab
  try clear ac
  try clear ae
  try clear ai
  try clear bk
  try clear bl
  try clear ay
  try clear aj
  try clear ak
  try clear ao
  try clear b5
  try clear b6
  try clear b7
  try clear b8
  try clear a8
  try clear a9
  try clear aa
  try clear au
  try clear aw
  try clear ax
  try clear bg
  try clear bm
  try clear br
  try clear az
  try clear am
  try clear an
  try clear ap
  try clear b9
  try clear bb
  try clear bc
  try clear bd
  obtain⟨kq,al,rfl,HA,er,B,ζ,η,HB⟩:=hcut
  cases kq with
  |zero=>exact absurd HA.out (by simp[door_Ask.j0])
  |succ ma=>
   have H:=HA.out
   clear HA
   simp only[door_Ask.j0] at H
   by_cases ba:al=true
   ·subst ba
    have H1:(some (0,0,0,170))=some (r1,r2,r3,r4):=by rw[if_pos rfl] at H;exact H
    clear H
    have H:=H1
    clear H1
    simp only[Option.some.injEq,Prod.mk.injEq] at H
    obtain⟨rfl,rfl,rfl,rfl⟩:=H
    have ei:= τ.out
    have gf:= ν.out
    have lb:= θ.out
    have lc:=a0.out
    obtain⟨bn,bo,cm,bp,bq,cn⟩:=qD3 η.out
    go_wp2
    refine bodyPost_ret (Z8 rfl _ _ a1 27 #[.int .i64 0,.int .i64 0,.int .i64 0] (0,0) _ rfl (by refine Qq (cs:=#[.int .i64 0,.int .i64 0,.int .i64 0]) ?_ 2 _ rfl;refine Qq (cs:=#[.int .i64 0,.int .i64 0,.int .i64 0]) ?_ 1 _ rfl;refine Qq (cs:=#[.int .i64 0,.int .i64 0,.int .i64 0]) ?_ 0 _ rfl;exact η.out) Try.underlying27 rfl kr) rfl ?_
    exact⟨by first|rfl|(simp[Qk,Qj] <;> rfl)|(simp[*,Qk,Qj] <;> rfl),bel⟩
   ·replace ba:=Bool.eq_false_iff.mpr ba
    subst ba
    have H1:(if ι = 0 then (some (1,X,0,0)) else (some (ι,ε,κ,0)))=some (r1,r2,r3,r4):=by rw[if_neg (show ¬ (false=true) by decide)] at H;exact H
    clear H
    have H:=H1
    clear H1
    by_cases bf: ι = 0
    ·rw[if_pos bf] at H
     have c25b0:(ι == 0)=true:=beq_iff_eq.mpr bf
     have c25b1:(ι != 0)=false:=bne_eq_false_iff_eq.mpr bf
     clear bf
     simp only[Option.some.injEq,Prod.mk.injEq] at H
     obtain⟨rfl,rfl,rfl,rfl⟩:=H
     have bi:= ω.out
     have bs:= ψ.out
     have bz:=a0.out
     have ca:= θ.out
     obtain⟨eb,eg,eh,ed,fj,fk⟩:=qD3 ζ.out
     have ql:= ν.out
     have qm:= τ.out
     obtain⟨d7,d8,dp,fa,fb,fc,fe,d9,da,dq,ff,fg,fh,fi⟩:=qD7 B.out
     obtain⟨f7,fu,fv,fw,fx,fy⟩:=qD3 η.out
     go_wp2
     refine bodyPost_ret (Z8 rfl _ _ a1 27 #[.int .i64 1,.int .i64 X,.int .i64 0] (0,0) _ rfl (by refine Qq (cs:=#[.int .i64 1,.int .i64 X,.int .i64 0]) ?_ 2 _ rfl;refine Qq (cs:=#[.int .i64 1,.int .i64 0,.int .i64 0]) ?_ 1 _ rfl;refine Qq (cs:=#[.int .i64 0,.int .i64 0,.int .i64 0]) ?_ 0 _ rfl;refine X4 ?_ θ.out _;refine X4 ?_ θ.out _;refine X4 ?_ θ.out _;exact η.out) Try.underlying27 rfl kr) rfl ?_
     exact⟨by first|rfl|(simp[Qk,Qj] <;> rfl)|(simp[*,Qk,Qj] <;> rfl),bel⟩
    ·rw[if_neg bf] at H
     have c25b0:(ι == 0)=false:=beq_eq_false_iff_ne.mpr bf
     have c25b1:(ι != 0)=true:=bne_iff_ne.mpr bf
     simp only[Option.some.injEq,Prod.mk.injEq] at H
     obtain⟨rfl,rfl,rfl,rfl⟩:=H
     have m8:= ω.out
     have m9:= ψ.out
     have l3:=a0.out
     have l4:= θ.out
     obtain⟨dn,dj,dk,e8,ee,ef⟩:=qD3 ζ.out
     have l5:= τ.out
     have l6:= ν.out
     obtain⟨fz,ga,b3,gb,ge,bh⟩:=qD3 η.out
     go_wp2
     refine bodyPost_ret (Z8 rfl _ _ a1 27 #[.int .i64 ι,.int .i64 ε,.int .i64 κ] (0,0) _ rfl (by refine Qq (cs:=#[.int .i64 ι,.int .i64 ε,.int .i64 0]) ?_ 2 _ rfl;refine Qq (cs:=#[.int .i64 ι,.int .i64 0,.int .i64 0]) ?_ 1 _ rfl;refine Qq (cs:=#[.int .i64 0,.int .i64 0,.int .i64 0]) ?_ 0 _ rfl;exact η.out) Try.underlying27 rfl kr) rfl ?_
     exact⟨by first|rfl|(simp[Qk,Qj] <;> rfl)|(simp[*,Qk,Qj] <;> rfl),bel⟩
end Go.Proofs.Ytmfffemidlhcpaa.C
namespace Go.Proofs.Ytmfffemidlhcpaa.DoorPure
open Go.RowKit Go.Proofs.YtmfffemidlhcpaaW.PrintWords Go.Proofs.YtmfffemidlhcpaaW.PrintLast Go.Proofs.YtmfffemidlhcpaaW.PrintMore Go.Proofs.Ytmfffemidlhcpaa.C
abbrev tI (n:Int):Prop:=1≤n∧n≤60
abbrev Kf (Z t1 Y t3 t4 t5 B:Int):Prop:=(tI Z∧tI t1∧tI Y∧tI t3∧tI t4∧tI t5)∧0≤B∧B≤60
abbrev X9 (g0 g1 g2 g3 g4 g5 g6 g7 g8 g9:Int):Prop:=Kf g1 g2 g3 g4 g5 g6 g7∧(2≤g0∧g0≤64)∧(1≤g8∧g8≤300)∧0≤g9∧g9≤60
abbrev Xw (J d1 X:Int):Prop:=(J=0∧d1=0∧X=0)∨((J=1∨J=3)∧1≤d1∧d1≤60∧0≤X∧X≤60)∨(J=2∧1≤d1∧d1≤300∧0≤X∧X≤60)
theorem Xf (n a b:Int):door_within.f n a b=some (decide (a≤n∧n≤b)):=by
  unfold door_within.f
  by_cases h:a≤n
  · rw[if_pos h];simp[h]
  · rw[if_neg h];simp[h]
theorem rdn (l:List Int) (i:Nat) (h:i<l.length):rd l (i:Int)=l[i]:=by
  simp[rd,h]
theorem Wh (l:List Int) (hl:l.length≤1000) (Z t1 Y t3 t4 t5 B:Int) (j:Nat):∀ (f i:Nat),i+j=l.length→j<f→door_times.l0 f l (l.length:Int) (i:Int) Z t1 Y t3 t4 t5 B=some (decide ((∀ x ∈ l.drop i,tI x)∧0≤B∧B≤60)):=by
  induction j with
  |zero=>
    intro f i h hf
    obtain⟨f,rfl⟩:∃ m,f=m+1:=⟨f-1,by omega⟩
    simp only[door_times.l0]
    rw[if_neg (by omega),Xf,List.drop_of_length_le (by omega)]
    simp
  |succ j ih=>
    intro f i h hf
    obtain⟨f,rfl⟩:∃ m,f=m+1:=⟨f-1,by omega⟩
    have hlt:i<l.length:=by omega
    have ei:wrap64 ((i:Int)+1)=((i+1:Nat):Int):=by unfold wrap64;omega
    simp only[door_times.l0]
    rw[if_pos (by omega),if_pos (by omega),if_pos (by omega),rdn l i hlt,Xf,ei,ih f (i+1) (by omega) (by omega),List.drop_eq_getElem_cons hlt]
    simp only[Option.bind_some]
    by_cases hc:1≤l[i]∧l[i]≤60
    · rw[decide_eq_true hc,if_pos rfl]
      congr 1
      rw[decide_eq_decide]
      constructor
      · rintro⟨h1,O⟩
        refine⟨fun x hx=>?_,O⟩
        rcases List.mem_cons.1 hx with rfl|hx
        · exact hc
        · exact h1 x hx
      · rintro⟨h1,O⟩
        exact⟨fun x hx=>h1 x (List.mem_cons_of_mem _ hx),O⟩
    · have:¬ ((∀ x ∈ l[i] :: l.drop (i+1),tI x)∧0≤B∧B≤60):=fun h=>hc (h.1 _ List.mem_cons_self)
      rw[decide_eq_false hc,if_neg (by decide),decide_eq_false this]
theorem Uo (Z t1 Y t3 t4 t5 B:Int) (f:Nat) (hf:10<f):door_times.f f Z t1 Y t3 t4 t5 B=some (decide (Kf Z t1 Y t3 t4 t5 B)):=by
  unfold door_times.f
  simp only[Option.bind_some]
  have:=Wh [Z,t1,Y,t3,t4,t5] (by simp) Z t1 Y t3 t4 t5 B 6 f 0 rfl (by omega)
  rw[show((0:Nat):Int)=0 from rfl] at this
  rw[this]
  congr 1
  rw[decide_eq_decide]
  simp only[List.drop_zero,List.mem_cons,List.not_mem_nil,or_false,forall_eq_or_imp,forall_eq]
theorem E1 (g0 g1 g2 g3 g4 g5 g6 g7 g8 g9:Int) (f:Nat) (hf:10<f):door_gear.f f g0 g1 g2 g3 g4 g5 g6 g7 g8 g9=some (decide (X9 g0 g1 g2 g3 g4 g5 g6 g7 g8 g9)):=by
  unfold door_gear.f
  rw[Uo _ _ _ _ _ _ _ f hf,Xf,Xf,Xf]
  simp only[Option.bind_some]
  by_cases h1:Kf g1 g2 g3 g4 g5 g6 g7
  · rw[decide_eq_true h1,if_pos rfl]
    by_cases O:2≤g0∧g0≤64
    · rw[decide_eq_true O,if_pos rfl]
      by_cases Y:1≤g8∧g8≤300
      · rw[decide_eq_true Y,if_pos rfl]
        congr 1
        rw[decide_eq_decide]
        exact⟨fun h=>⟨h1,O,Y,h⟩,fun h=>h.2.2.2⟩
      · rw[decide_eq_false Y,if_neg (by decide),decide_eq_false (fun h=>Y h.2.2.1)]
    · rw[decide_eq_false O,if_neg (by decide),decide_eq_false (fun h=>O h.2.1)]
  · rw[decide_eq_false h1,if_neg (by decide),decide_eq_false (fun h=>h1 h.1)]
theorem on_eq (J d1 X a b:Int):door_on.f J d1 X a b=some (if wrap64 (d1-1)=0 then (a,b,X) else (J,wrap64 (d1-1),X)):=by
  unfold door_on.f
  split <;> rfl
theorem Yu (J d1 X:Int):door_Check.f J d1 X=some (if Xw J d1 X then 0 else 170):=by
  unfold door_Check.f
  rw[Xf,Xf,Xf,on_eq]
  simp only[Option.bind_some]
  by_cases h:0≤J∧J≤3
  · rw[decide_eq_true h,if_pos rfl]
    have hm:(mn (Zz J) 1≤d1∧d1≤Zz J)∧(0≤X∧X≤mn (Zz J) 60)↔Xw J d1 X:=by
      have e:J=0∨J=1∨J=2∨J=3:=by omega
      rcases e with rfl|rfl|rfl|rfl <;> simp[Zz,mn] <;> omega
    by_cases h1:mn (Zz J) 1≤d1∧d1≤Zz J
    · rw[decide_eq_true h1,if_pos rfl]
      by_cases O:0≤X∧X≤mn (Zz J) 60
      · rw[decide_eq_true O,if_pos rfl,if_pos (hm.1 ⟨h1,O⟩)]
      · rw[decide_eq_false O,if_neg (by decide),if_neg (fun h=>O (hm.2 h).2)]
    · rw[decide_eq_false h1,if_neg (by decide),if_neg (fun h=>h1 (hm.2 h).1)]
  · rw[decide_eq_false h,if_neg (by decide),if_neg (by omega)]
def Gn (g3 g6 g8 g9 J d1 X:Int):Int:=
  if J=0 then 0 else d1+(if J=1 then g8+g6 else if J=2 then g6 else 0)+(if X<g9 then (g9-X) * (g3+g8+g6) else 0)
theorem Ed {a b:Int} (ha:0≤a∧a≤60) (hb:0≤b∧b≤420):0≤a * b∧a * b≤25200:=by
  refine⟨Int.mul_nonneg ha.1 hb.1, ?_⟩
  have h1:a * b≤60 * b:=Int.mul_le_mul_of_nonneg_right ha.2 hb.1
  omega
theorem w64 {n:Int} (h: -1000000000000≤n∧n≤1000000000000):wrap64 n=n:=by unfold wrap64;omega
theorem U0 (g0 g1 g2 g3 g4 g5 g6 g7 g8 g9 J d1 X:Int) (hg:X9 g0 g1 g2 g3 g4 g5 g6 g7 g8 g9) (hd:Xw J d1 X):
    wrap64 ((mx (wrap64 (g9-X)) 0) * (wrap64 ((wrap64 (g3+g8))+g6)))=(if X<g9 then (g9-X) * (g3+g8+g6) else 0)∧0≤(if X<g9 then (g9-X) * (g3+g8+g6) else 0)∧(if X<g9 then (g9-X) * (g3+g8+g6) else 0)≤25200:=by
  have Y:1≤g3∧g3≤60:=hg.1.1.2.2.1
  have a2:1≤g6∧g6≤60:=hg.1.1.2.2.2.2.2
  have a3:1≤g8∧g8≤300:=hg.2.2.1
  have O:0≤g9∧g9≤60:=hg.2.2.2
  have a5:0≤X∧X≤60:=by omega
  rw[w64 (n:=g9-X) (by omega),w64 (n:=g3+g8) (by omega),w64 (n:=g3+g8+g6) (by omega)]
  by_cases h:X<g9
  · have hp:=Ed (a:=g9-X) (b:=g3+g8+g6) (by omega) (by omega)
    rw[if_pos h]
    have e:mx (g9-X) 0=g9-X:=by unfold mx;rw[if_neg (by omega)]
    rw[e]
    exact⟨w64 (by omega),hp⟩
  · rw[if_neg h]
    have e:mx (g9-X) 0=0:=by unfold mx;split <;> omega
    rw[e,Int.zero_mul]
    exact⟨w64 (by omega),by omega,by omega⟩
theorem Lc (g0 g1 g2 g3 g4 g5 g6 g7 g8 g9 J d1 X:Int) (f:Nat) (hf:10<f):
    door_Rest.f f g0 g1 g2 g3 g4 g5 g6 g7 g8 g9 J d1 X=some (if X9 g0 g1 g2 g3 g4 g5 g6 g7 g8 g9∧Xw J d1 X then (Gn g3 g6 g8 g9 J d1 X,0) else (0,170)):=by
  unfold door_Rest.f
  rw[E1 _ _ _ _ _ _ _ _ _ _ f hf,Yu]
  simp only[Option.bind_some]
  obtain⟨f,rfl⟩:∃ m,f=m+1:=⟨f-1,by omega⟩
  by_cases h1:X9 g0 g1 g2 g3 g4 g5 g6 g7 g8 g9
  · rw[decide_eq_true h1,if_pos rfl]
    by_cases O:Xw J d1 X
    · rw[if_pos O,if_pos (show X9 g0 g1 g2 g3 g4 g5 g6 g7 g8 g9∧Xw J d1 X from⟨h1,O⟩)]
      obtain⟨m1,Z,m3⟩:=U0 _ _ _ _ _ _ _ _ _ _ _ _ _ h1 O
      have a2:1≤g6∧g6≤60:=h1.1.1.2.2.2.2.2
      have a3:1≤g8∧g8≤300:=h1.2.2.1
      simp only[door_Rest.j0]
      rw[m1]
      unfold Gn
      generalize(if X<g9 then (g9-X) * (g3+g8+g6) else 0)=p at Z m3 ⊢
      rw[if_neg (by decide)]
      have hb:0≤d1∧d1≤300:=by omega
      by_cases Y:J=0
      · rw[if_pos Y,if_pos Y]
      · rw[if_neg Y,if_neg Y]
        by_cases e1:J=1
        · rw[if_pos e1,if_pos e1,w64 (n:=g8+g6) (by omega),w64 (n:=d1+(g8+g6)) (by omega),w64 (by omega)]
        · rw[if_neg e1,if_neg e1]
          by_cases B:J=2
          · rw[if_pos B,if_pos B,w64 (n:=d1+g6) (by omega),w64 (by omega)]
          · rw[if_neg B,if_neg B,w64 (by omega),Int.add_zero]
    · rw[if_neg O,if_neg (fun h=>O h.2)]
      simp only[door_Rest.j0]
      rw[if_pos (by decide)]
  · rw[decide_eq_false h1,if_neg (by decide),if_neg (fun h=>h1 h.1)]
    simp only[door_Rest.j0]
    rw[if_pos trivial]
theorem Dy (Z t1 Y t3 t4 t5 B J d1 X:Int) (f:Nat) (hf:10<f):
    door_Ask.f f Z t1 Y t3 t4 t5 B J d1 X=some (if Kf Z t1 Y t3 t4 t5 B∧Xw J d1 X then (if J=0 then (1,Y,0,0) else (J,d1,X,0)) else (0,0,0,170)):=by
  unfold door_Ask.f
  rw[Uo _ _ _ _ _ _ _ f hf,Yu]
  simp only[Option.bind_some]
  obtain⟨f,rfl⟩:∃ m,f=m+1:=⟨f-1,by omega⟩
  by_cases h1:Kf Z t1 Y t3 t4 t5 B
  · rw[decide_eq_true h1,if_pos rfl]
    by_cases O:Xw J d1 X
    · rw[if_pos O,if_pos (show Kf Z t1 Y t3 t4 t5 B∧Xw J d1 X from⟨h1,O⟩)]
      simp only[door_Ask.j0]
      rw[if_neg (by decide)]
      split <;> rfl
    · rw[if_neg O,if_neg (fun h=>O h.2)]
      simp only[door_Ask.j0]
      rw[if_pos (by decide)]
  · rw[decide_eq_false h1,if_neg (by decide),if_neg (fun h=>h1 h.1)]
    simp only[door_Ask.j0]
    rw[if_pos trivial]
end Go.Proofs.Ytmfffemidlhcpaa.DoorPure
namespace Go.Proofs.Ytmfffemidlhcpaa.C
open Go.RowKit Go.Proofs.YtmfffemidlhcpaaW.PrintWords Go.Proofs.YtmfffemidlhcpaaW.PrintLast Go.Proofs.YtmfffemidlhcpaaW.PrintMore
attribute [local go_sem] Zv Zt Z6 Z5 Zk Zj Zu Zs
set_option linter.unusedVariables false
set_option linter.unusedSimpArgs false
def car_Check.j0:Nat→Int→Bool→Int→Int→Int→Int→Int→Int→Int→Option (Int)
 |0,_,_,_,_,_,_,_,_,_=>none
 |k+1,B,x5,δ,J,γ,O,X,ε,ι =>if γ=0 then (if x5=true then (if J=0 then (if O=0 then (if X=0 then (some 0) else (some 180)) else (some 180)) else (some 180)) else (some 180)) else (if γ=1 then (if x5=true then (if J=1 then ((car_within.f (wrap64 (δ + J)) 0 (wrap64 (B-1))).bind fun ζ =>(if ζ = true then ((car_within.f O 1 60).bind fun Y=>(if Y=true then (if X=0 then (some 0) else (some 180)) else (some 180))) else (some 180))) else (if J=(-1) then ((car_within.f (wrap64 (δ + J)) 0 (wrap64 (B-1))).bind fun η =>(if η = true then ((car_within.f O 1 60).bind fun Z=>(if Z=true then (if X=0 then (some 0) else (some 180)) else (some 180))) else (some 180))) else (some 180))) else (some 180)) else (if γ=2 then (if x5=true then (if J=0 then ((car_within.f O 1 60).bind fun θ =>(if θ = true then (if X=0 then (some 0) else (some 180)) else (some 180))) else (some 180)) else (some 180)) else (if γ=3 then (if x5=true then (if J=0 then (if O=0 then (if X=0 then (some 180) else (some 0)) else (some 180)) else (some 180)) else (some 180)) else (some 180))))
def car_Check.f (k:Nat) (J:Int) (ι :Int) (ε :Int) (κ :Int) (ν :Int) (B:Int) (τ :Int) (χ :Int):Option (Int):=(car_within.f J 2 64).bind fun ω =>(if ω = true then ((car_within.f ι 0 (wrap64 (J-1))).bind fun γ=>(if γ=true then ((door_Check.f B τ χ).bind fun X=>(car_Check.j0 k J (X==0) ι ε κ ν B τ χ)) else (car_Check.j0 k J false ι ε κ ν B τ χ))) else (car_Check.j0 k J false ι ε κ ν B τ χ))
theorem car_Check.Zo:∀ k,(∀ O X Y J Z y5 y6 y7 y8,LeO (car_Check.j0 k O X Y J Z y5 y6 y7 y8) (car_Check.j0 (k+1) O X Y J Z y5 y6 y7 y8))
 |0=>fun _ _ _ _ _ _ _ _ _ r h=>by simp[car_Check.j0] at h
 |k+1=>by
  have B:=car_Check.Zo k
  ·intro O X Y J Z y5 y6 y7 y8
   unfold car_Check.j0
   repeat' first
   |(with_reducible exact B _ _ _ _ _ _ _ _ _)
   |(with_reducible exact LeO.refl _)
   |(with_reducible exact LeO.none _)
   |(with_reducible refine LeO.ite ?_ ?_)
   |(with_reducible refine LeO.bind ?_ (fun _=>?_))
   |exact B _ _ _ _ _ _ _ _ _
   |exact LeO.none _
   |refine LeO.ite ?_ ?_
   |refine LeO.bind ?_ (fun _=>?_)
theorem car_Check.mono:∀ J Y a2 a3 O a5 X a7 k,LeO (car_Check.f k J Y a2 a3 O a5 X a7) (car_Check.f (k+1) J Y a2 a3 O a5 X a7):=by
 intro J Y a2 a3 O a5 X a7 k
 have B:=car_Check.Zo k
 unfold car_Check.f
 repeat' first
   |(with_reducible exact B _ _ _ _ _ _ _ _ _)
   |(with_reducible exact LeO.refl _)
   |(with_reducible exact LeO.none _)
   |(with_reducible refine LeO.ite ?_ ?_)
   |(with_reducible refine LeO.bind ?_ (fun _=>?_))
   |exact B _ _ _ _ _ _ _ _ _
   |exact LeO.none _
   |refine LeO.ite ?_ ?_
   |refine LeO.bind ?_ (fun _=>?_)
set_option maxHeartbeats 8000000 in
set_option maxRecDepth 100000 in
theorem car_Check.calls (k:Nat) (J:Int) (ι :Int) (ε :Int) (κ :Int) (ν :Int) (B:Int) (τ :Int) (χ :Int) (r:Int) (w:World) (h:car_Check.f k J ι ε κ ν B τ χ = some r):
  Calls Try.prog 69 #[.int .i64 J,.agg #[.int .i64 ι,.int .i64 ε,.int .i64 κ,.int .i64 ν,.int .i64 B,.int .i64 τ,.int .i64 χ]] w fun e w'=>e = .returned (.int .i64 r)∧Below w.heap.size w w':=by
 have gx:=Try.underlying29
 have cy:=Try.underlying27
 have HB:=Aside0.mk (Below.refl w.heap.size w)
 have H:((car_within.f J 2 64).bind fun ω =>(if ω = true then ((car_within.f ι 0 (wrap64 (J-1))).bind fun γ=>(if γ=true then ((door_Check.f B τ χ).bind fun X=>(car_Check.j0 k J (X==0) ι ε κ ν B τ χ)) else (car_Check.j0 k J false ι ε κ ν B τ χ))) else (car_Check.j0 k J false ι ε κ ν B τ χ)))=some r:=h
 clear h
 have a5:=Aside0.mk H
 clear H
 go_enter Try.func69,Try.ntmps69
 go_upto_region 1 with(first|((with_reducible refine Qf (N:=3) rfl ?_);refine qE 3 #[.int .i64 ι,.int .i64 ε,.int .i64 κ,.int .i64 ν,.int .i64 B,.int .i64 τ,.int .i64 χ] 29 ?_;intro a3 hg w4 hbox hb;have O:=Aside0.mk hbox;have oh:=sGe hg;have oi:=sGe hg;replace HB:=sHb hb;clear hb hbox hg))
 (try simp only[Act.put,qS])
 go_cut [5] (fun v5 wc=>∃ (kq:Nat) (δ :Bool),v5 = .bool δ ∧ Aside0 (car_Check.j0 kq J δ ι ε κ ν B τ χ = some r)∧Aside0 (kq≤k)∧Aside0 (wc.heap[a3]?=some (.cells #[.int .i64 ι,.int .i64 ε,.int .i64 κ,.int .i64 ν,.int .i64 B,.int .i64 τ,.int .i64 χ] 29 (0,0)))∧Aside0 (Below w.heap.size w wc))
 case first=>
  have H:=a5.out
  clear a5
  replace H:=Option.bind_eq_some_iff.mp H
  obtain⟨ω,bv,H⟩:=H
  replace H:(if ω = true then ((car_within.f ι 0 (wrap64 (J-1))).bind fun γ=>(if γ=true then ((door_Check.f B τ χ).bind fun X=>(car_Check.j0 k J (X==0) ι ε κ ν B τ χ)) else (car_Check.j0 k J false ι ε κ ν B τ χ))) else (car_Check.j0 k J false ι ε κ ν B τ χ))=some r:=H
  have A5:=Aside0.mk bv
  clear bv
  by_cases c6: ω = true
  ·subst c6
   have H1:((car_within.f ι 0 (wrap64 (J-1))).bind fun γ=>(if γ=true then ((door_Check.f B τ χ).bind fun X=>(car_Check.j0 k J (X==0) ι ε κ ν B τ χ)) else (car_Check.j0 k J false ι ε κ ν B τ χ)))=some r:=by rw[if_pos rfl] at H;exact H
   clear H
   have H:=H1
   clear H1
   replace H:=Option.bind_eq_some_iff.mp H
   obtain⟨γ,ce,H⟩:=H
   replace H:(if γ=true then ((door_Check.f B τ χ).bind fun X=>(car_Check.j0 k J (X==0) ι ε κ ν B τ χ)) else (car_Check.j0 k J false ι ε κ ν B τ χ))=some r:=H
   have A7:=Aside0.mk ce
   clear ce
   by_cases c8:γ=true
   ·subst c8
    have H1:((door_Check.f B τ χ).bind fun X=>(car_Check.j0 k J (X==0) ι ε κ ν B τ χ))=some r:=by rw[if_pos rfl] at H;exact H
    clear H
    have H:=H1
    clear H1
    replace H:=Option.bind_eq_some_iff.mp H
    obtain⟨X,bw,H⟩:=H
    replace H:(car_Check.j0 k J (X==0) ι ε κ ν B τ χ)=some r:=H
    have A9:=Aside0.mk bw
    clear bw
    have H':=Aside0.mk H
    clear H
    go_wp2_with (first|((with_reducible refine Qp (f:=85) rfl ?_);refine Q4 (some 8) rfl rfl Try.func85 kr rfl #[.int .i64 J,.int .i64 2,.int .i64 64] rfl qM ?_;(with_reducible refine(car_within.calls J 2 64 true _ A5.out).mono ?_);rintro e w' ⟨rfl,⟨nd,rfl⟩⟩;refine⟨_,rfl, ?_⟩;obtain⟨a4,ah,cf,cg,cp,cq,cr,b3,bu,ct,cu,cv,cw,cx⟩:=qD7 O.out)|(go_at_call 85;(with_reducible refine(car_within.calls ι 0 (wrap64 (J-1)) true _ A7.out).mono ?_);rintro e w' ⟨rfl,⟨nd,rfl⟩⟩)|(go_at_call 71;(with_reducible refine(door_Check.calls B τ χ X _ A9.out).mono ?_);rintro e ec ⟨rfl,hb⟩;have μ :=Aside0.mk (Qy (g:=a3) (o:=.cells #[.int .i64 ι,.int .i64 ε,.int .i64 κ,.int .i64 ν,.int .i64 B,.int .i64 τ,.int .i64 χ] 29 (0,0)) (bka O) hb);have ξ :=Aside0.mk (Q0 bel hb);clear O;clear HB;have O:= μ;have HB:= ξ;clear μ ξ;(try clear hb);(try clear a6);(try clear hk);(try clear hi)))
    go_meet
    case rel=>exact⟨_,((X==0)),rfl,H',⟨by first|omega|exact Nat.le_refl _⟩,O,HB⟩
   ·replace c8:=Bool.eq_false_iff.mpr c8
    subst c8
    have H1:(car_Check.j0 k J false ι ε κ ν B τ χ)=some r:=by rw[if_neg (show ¬ (false=true) by decide)] at H;exact H
    clear H
    have H:=H1
    clear H1
    have H':=Aside0.mk H
    clear H
    go_wp2_with (first|((with_reducible refine Qp (f:=85) rfl ?_);refine Q4 (some 8) rfl rfl Try.func85 kr rfl #[.int .i64 J,.int .i64 2,.int .i64 64] rfl qM ?_;(with_reducible refine(car_within.calls J 2 64 true _ A5.out).mono ?_);rintro e w' ⟨rfl,⟨nd,rfl⟩⟩;refine⟨_,rfl, ?_⟩;obtain⟨φ,a7,ρ,ab,ac,ae,ai,a8,a9,aa,au,aw,ax,bg⟩:=qD7 O.out)|(go_at_call 85;(with_reducible refine(car_within.calls ι 0 (wrap64 (J-1)) false _ A7.out).mono ?_);rintro e w' ⟨rfl,⟨nd,rfl⟩⟩))
    go_meet
    case rel=>exact⟨_,(false),qR,H',⟨by first|omega|exact Nat.le_refl _⟩,⟨bka O⟩,⟨bel⟩⟩
  ·replace c6:=Bool.eq_false_iff.mpr c6
   subst c6
   have H1:(car_Check.j0 k J false ι ε κ ν B τ χ)=some r:=by rw[if_neg (show ¬ (false=true) by decide)] at H;exact H
   clear H
   have H:=H1
   clear H1
   have H':=Aside0.mk H
   clear H
   go_wp2_with (first|((with_reducible refine Qp (f:=85) rfl ?_);refine Q4 (some 8) rfl rfl Try.func85 kr rfl #[.int .i64 J,.int .i64 2,.int .i64 64] rfl qM ?_;(with_reducible refine(car_within.calls J 2 64 false _ A5.out).mono ?_);rintro e w' ⟨rfl,⟨nd,rfl⟩⟩;refine⟨_,rfl, ?_⟩))
   go_meet
   case rel=>exact⟨_,(false),qR,H',⟨by first|omega|exact Nat.le_refl _⟩,⟨bka O⟩,⟨bel⟩⟩
 case rest=>
  clear a5
  try clear p2
  try clear c6
  try clear p6
  try clear c8
  try clear a4
  try clear ah
  try clear cf
  try clear cg
  try clear cp
  try clear cq
  try clear cr
  try clear φ
  try clear a7
  try clear ρ
  try clear ab
  try clear ac
  try clear ae
  try clear ai
  try clear b3
  try clear bu
  try clear ct
  try clear cu
  try clear cv
  try clear cw
  try clear cx
  try clear a8
  try clear a9
  try clear aa
  try clear au
  try clear aw
  try clear ax
  try clear bg
  obtain⟨kq,δ,rfl,HA,er,O,HB⟩:=hcut
  cases kq with
  |zero=>exact absurd HA.out (by simp[car_Check.j0])
  |succ ma=>
   have H:=HA.out
   clear HA
   simp only[car_Check.j0] at H
   by_cases be: κ = 0
   ·rw[if_pos be] at H
    have c13b0:(κ == 0)=true:=beq_iff_eq.mpr be
    have c13b1:(κ != 0)=false:=bne_eq_false_iff_eq.mpr be
    clear be
    by_cases ag: δ = true
    ·subst ag
     have H1:(if ε = 0 then (if ν = 0 then (if B=0 then (some 0) else (some 180)) else (some 180)) else (some 180))=some r:=by rw[if_pos rfl] at H;exact H
     clear H
     have H:=H1
     clear H1
     by_cases b4: ε = 0
     ·rw[if_pos b4] at H
      have c15b0:(ε == 0)=true:=beq_iff_eq.mpr b4
      have c15b1:(ε != 0)=false:=bne_eq_false_iff_eq.mpr b4
      clear b4
      by_cases ψ : ν = 0
      ·rw[if_pos ψ] at H
       have c16b0:(ν == 0)=true:=beq_iff_eq.mpr ψ
       have c16b1:(ν != 0)=false:=bne_eq_false_iff_eq.mpr ψ
       clear ψ
       by_cases σ:B=0
       ·rw[if_pos σ] at H
        have c17b0:(B==0)=true:=beq_iff_eq.mpr σ
        have c17b1:(B != 0)=false:=bne_eq_false_iff_eq.mpr σ
        clear σ
        obtain rfl:=Option.some.inj H
        obtain⟨ci,cj,ba,az,b1,b2,bn,ck,co,dm,bo,bp,bq,cn⟩:=qD7 O.out
        go_wp2
        go_ret
        exact⟨by first|rfl|(simp[Qk,Qj] <;> rfl)|(simp[*,Qk,Qj] <;> rfl),bel⟩
       ·rw[if_neg σ] at H
        have c17b0:(B==0)=false:=beq_eq_false_iff_ne.mpr σ
        have c17b1:(B != 0)=true:=bne_iff_ne.mpr σ
        obtain rfl:=Option.some.inj H
        obtain⟨aj,ak,ao,b5,b6,b7,b8,am,an,ap,b9,bb,bc,bd⟩:=qD7 O.out
        go_wp2
        go_ret
        exact⟨by first|rfl|(simp[Qk,Qj] <;> rfl)|(simp[*,Qk,Qj] <;> rfl),bel⟩
      ·rw[if_neg ψ] at H
       have c16b0:(ν == 0)=false:=beq_eq_false_iff_ne.mpr ψ
       have c16b1:(ν != 0)=true:=bne_iff_ne.mpr ψ
       obtain rfl:=Option.some.inj H
       obtain⟨af,al,bh,ej,ft,gn,gp,ar,av,bi,gy,h6,h7,h8⟩:=qD7 O.out
       go_wp2
       go_ret
       exact⟨rfl,HB.out⟩
     ·rw[if_neg b4] at H
      have c15b0:(ε == 0)=false:=beq_eq_false_iff_ne.mpr b4
      have c15b1:(ε != 0)=true:=bne_iff_ne.mpr b4
      obtain rfl:=Option.some.inj H
      obtain⟨ix,iz,jh,ji,jj,jk,jl,jm,jn,jo,jp,jq,jr,js⟩:=qD7 O.out
      go_wp2
      go_ret
      exact⟨rfl,HB.out⟩
    ·replace ag:=Bool.eq_false_iff.mpr ag
     subst ag
     have H1:(some 180)=some r:=by rw[if_neg (show ¬ (false=true) by decide)] at H;exact H
     clear H
     have H:=H1
     clear H1
     obtain rfl:=Option.some.inj H
     obtain⟨bz,ca,dh,dl,ea,ek,el,cb,cd,di,em,en,fg,fh⟩:=qD7 O.out
     go_wp2
     go_ret
     exact⟨rfl,HB.out⟩
   ·rw[if_neg be] at H
    have c13b0:(κ == 0)=false:=beq_eq_false_iff_ne.mpr be
    have c13b1:(κ != 0)=true:=bne_iff_ne.mpr be
    by_cases kk: κ = 1
    ·rw[if_pos kk] at H
     have c23b0:(κ == 1)=true:=beq_iff_eq.mpr kk
     have c23b1:(κ != 1)=false:=bne_eq_false_iff_eq.mpr kk
     clear kk
     by_cases df: δ = true
     ·subst df
      have H1:(if ε = 1 then ((car_within.f (wrap64 (ι + ε)) 0 (wrap64 (J-1))).bind fun ζ =>(if ζ = true then ((car_within.f ν 1 60).bind fun Y=>(if Y=true then (if B=0 then (some 0) else (some 180)) else (some 180))) else (some 180))) else (if ε = (-1) then ((car_within.f (wrap64 (ι + ε)) 0 (wrap64 (J-1))).bind fun η =>(if η = true then ((car_within.f ν 1 60).bind fun Z=>(if Z=true then (if B=0 then (some 0) else (some 180)) else (some 180))) else (some 180))) else (some 180)))=some r:=by rw[if_pos rfl] at H;exact H
      clear H
      have H:=H1
      clear H1
      by_cases bf: ε = 1
      ·rw[if_pos bf] at H
       have c25b0:(ε == 1)=true:=beq_iff_eq.mpr bf
       have c25b1:(ε != 1)=false:=bne_eq_false_iff_eq.mpr bf
       clear bf
       replace H:=Option.bind_eq_some_iff.mp H
       obtain⟨ζ,br,H⟩:=H
       replace H:(if ζ = true then ((car_within.f ν 1 60).bind fun Y=>(if Y=true then (if B=0 then (some 0) else (some 180)) else (some 180))) else (some 180))=some r:=H
       have d4:=Aside0.mk br
       clear br
       by_cases ev: ζ = true
       ·subst ev
        have H1:((car_within.f ν 1 60).bind fun Y=>(if Y=true then (if B=0 then (some 0) else (some 180)) else (some 180)))=some r:=by rw[if_pos rfl] at H;exact H
        clear H
        have H:=H1
        clear H1
        replace H:=Option.bind_eq_some_iff.mp H
        obtain⟨Y,b0,H⟩:=H
        replace H:(if Y=true then (if B=0 then (some 0) else (some 180)) else (some 180))=some r:=H
        have eb:=Aside0.mk b0
        clear b0
        by_cases d5:Y=true
        ·subst d5
         have H1:(if B=0 then (some 0) else (some 180))=some r:=by rw[if_pos rfl] at H;exact H
         clear H
         have H:=H1
         clear H1
         by_cases a1:B=0
         ·rw[if_pos a1] at H
          have c30b0:(B==0)=true:=beq_iff_eq.mpr a1
          have c30b1:(B != 0)=false:=bne_eq_false_iff_eq.mpr a1
          clear a1
          obtain rfl:=Option.some.inj H
          obtain⟨f7,fu,fv,ey,ga,gb,ge,fw,fx,fy,gf,gh,gi,gj⟩:=qD7 O.out
          go_wp2_with (first|(go_at_call 85;(with_reducible refine(car_within.calls (wrap64 (ι + ε)) 0 (wrap64 (J-1)) true _ d4.out).mono ?_);rintro e w' ⟨rfl,⟨nd,rfl⟩⟩)|(go_at_call 85;(with_reducible refine(car_within.calls ν 1 60 true _ eb.out).mono ?_);rintro e w' ⟨rfl,⟨nd,rfl⟩⟩))
          go_ret
          exact⟨by first|rfl|(simp[Qk,Qj] <;> rfl)|(simp[*,Qk,Qj] <;> rfl),bel⟩
         ·rw[if_neg a1] at H
          have c30b0:(B==0)=false:=beq_eq_false_iff_ne.mpr a1
          have c30b1:(B != 0)=true:=bne_iff_ne.mpr a1
          obtain rfl:=Option.some.inj H
          obtain⟨fi,fz,gs,jt,ju,jv,jw,gt,gu,gv,jx,k0,k1,k2⟩:=qD7 O.out
          go_wp2_with (first|(go_at_call 85;(with_reducible refine(car_within.calls (wrap64 (ι + ε)) 0 (wrap64 (J-1)) true _ d4.out).mono ?_);rintro e w' ⟨rfl,⟨nd,rfl⟩⟩)|(go_at_call 85;(with_reducible refine(car_within.calls ν 1 60 true _ eb.out).mono ?_);rintro e w' ⟨rfl,⟨nd,rfl⟩⟩))
          go_ret
          exact⟨by first|rfl|(simp[Qk,Qj] <;> rfl)|(simp[*,Qk,Qj] <;> rfl),bel⟩
        ·replace d5:=Bool.eq_false_iff.mpr d5
         subst d5
         have H1:(some 180)=some r:=by rw[if_neg (show ¬ (false=true) by decide)] at H;exact H
         clear H
         have H:=H1
         clear H1
         obtain rfl:=Option.some.inj H
         obtain⟨d0,d1,db,fj,fk,fl,fm,d2,d3,dc,fn,fo,fp,fq⟩:=qD7 O.out
         go_wp2_with (first|(go_at_call 85;(with_reducible refine(car_within.calls (wrap64 (ι + ε)) 0 (wrap64 (J-1)) true _ d4.out).mono ?_);rintro e w' ⟨rfl,⟨nd,rfl⟩⟩)|(go_at_call 85;(with_reducible refine(car_within.calls ν 1 60 false _ eb.out).mono ?_);rintro e w' ⟨rfl,⟨nd,rfl⟩⟩))
         go_ret
         exact⟨by first|rfl|(simp[Qk,Qj] <;> rfl)|(simp[*,Qk,Qj] <;> rfl),bel⟩
       ·replace ev:=Bool.eq_false_iff.mpr ev
        subst ev
        have H1:(some 180)=some r:=by rw[if_neg (show ¬ (false=true) by decide)] at H;exact H
        clear H
        have H:=H1
        clear H1
        obtain rfl:=Option.some.inj H
        obtain⟨dn,dj,dk,bs,cz,dd,eg,e8,ee,ef,eh,ei,eo,ep⟩:=qD7 O.out
        go_wp2_with (first|(go_at_call 85;(with_reducible refine(car_within.calls (wrap64 (ι + ε)) 0 (wrap64 (J-1)) false _ d4.out).mono ?_);rintro e w' ⟨rfl,⟨nd,rfl⟩⟩))
        go_ret
        exact⟨by first|rfl|(simp[Qk,Qj] <;> rfl)|(simp[*,Qk,Qj] <;> rfl),bel⟩
      ·rw[if_neg bf] at H
       have c25b0:(ε == 1)=false:=beq_eq_false_iff_ne.mpr bf
       have c25b1:(ε != 1)=true:=bne_iff_ne.mpr bf
       by_cases gq: ε = (-1)
       ·rw[if_pos gq] at H
        have c35b0:(ε == (-1))=true:=beq_iff_eq.mpr gq
        have c35b1:(ε != (-1))=false:=bne_eq_false_iff_eq.mpr gq
        clear gq
        replace H:=Option.bind_eq_some_iff.mp H
        obtain⟨η,bj,H⟩:=H
        replace H:(if η = true then ((car_within.f ν 1 60).bind fun Z=>(if Z=true then (if B=0 then (some 0) else (some 180)) else (some 180))) else (some 180))=some r:=H
        have ay:=Aside0.mk bj
        clear bj
        by_cases fa: η = true
        ·subst fa
         have H1:((car_within.f ν 1 60).bind fun Z=>(if Z=true then (if B=0 then (some 0) else (some 180)) else (some 180)))=some r:=by rw[if_pos rfl] at H;exact H
         clear H
         have H:=H1
         clear H1
         replace H:=Option.bind_eq_some_iff.mp H
         obtain⟨Z,ch,H⟩:=H
         replace H:(if Z=true then (if B=0 then (some 0) else (some 180)) else (some 180))=some r:=H
         have d6:=Aside0.mk ch
         clear ch
         by_cases gg:Z=true
         ·subst gg
          have H1:(if B=0 then (some 0) else (some 180))=some r:=by rw[if_pos rfl] at H;exact H
          clear H
          have H:=H1
          clear H1
          by_cases de:B=0
          ·rw[if_pos de] at H
           have c40b0:(B==0)=true:=beq_iff_eq.mpr de
           have c40b1:(B != 0)=false:=bne_eq_false_iff_eq.mpr de
           clear de
           obtain rfl:=Option.some.inj H
           obtain⟨dr,dt,dy,hj,i5,i6,i7,du,dv,dz,i9,ia,ib,ic⟩:=qD7 O.out
           go_wp2_with (first|(go_at_call 85;(with_reducible refine(car_within.calls (wrap64 (ι + ε)) 0 (wrap64 (J-1)) true _ ay.out).mono ?_);rintro e w' ⟨rfl,⟨nd,rfl⟩⟩)|(go_at_call 85;(with_reducible refine(car_within.calls ν 1 60 true _ d6.out).mono ?_);rintro e w' ⟨rfl,⟨nd,rfl⟩⟩))
           go_ret
           exact⟨by first|rfl|(simp[Qk,Qj] <;> rfl)|(simp[*,Qk,Qj] <;> rfl),bel⟩
          ·rw[if_neg de] at H
           have c40b0:(B==0)=false:=beq_eq_false_iff_ne.mpr de
           have c40b1:(B != 0)=true:=bne_iff_ne.mpr de
           obtain rfl:=Option.some.inj H
           obtain⟨dw,dx,e0,bl,bm,d7,d8,e3,e5,e6,d9,da,dp,e4⟩:=qD7 O.out
           go_wp2_with (first|(go_at_call 85;(with_reducible refine(car_within.calls (wrap64 (ι + ε)) 0 (wrap64 (J-1)) true _ ay.out).mono ?_);rintro e w' ⟨rfl,⟨nd,rfl⟩⟩)|(go_at_call 85;(with_reducible refine(car_within.calls ν 1 60 true _ d6.out).mono ?_);rintro e w' ⟨rfl,⟨nd,rfl⟩⟩))
           go_ret
           exact⟨by first|rfl|(simp[Qk,Qj] <;> rfl)|(simp[*,Qk,Qj] <;> rfl),bel⟩
         ·replace gg:=Bool.eq_false_iff.mpr gg
          subst gg
          have H1:(some 180)=some r:=by rw[if_neg (show ¬ (false=true) by decide)] at H;exact H
          clear H
          have H:=H1
          clear H1
          obtain rfl:=Option.some.inj H
          obtain⟨k3,k4,k6,k7,k8,k9,ka,kb,kc,kd,ke,kf,kg,kh⟩:=qD7 O.out
          go_wp2_with (first|(go_at_call 85;(with_reducible refine(car_within.calls (wrap64 (ι + ε)) 0 (wrap64 (J-1)) true _ ay.out).mono ?_);rintro e w' ⟨rfl,⟨nd,rfl⟩⟩)|(go_at_call 85;(with_reducible refine(car_within.calls ν 1 60 false _ d6.out).mono ?_);rintro e w' ⟨rfl,⟨nd,rfl⟩⟩))
          go_ret
          exact⟨by first|rfl|(simp[Qk,Qj] <;> rfl)|(simp[*,Qk,Qj] <;> rfl),bel⟩
        ·replace fa:=Bool.eq_false_iff.mpr fa
         subst fa
         have H1:(some 180)=some r:=by rw[if_neg (show ¬ (false=true) by decide)] at H;exact H
         clear H
         have H:=H1
         clear H1
         obtain rfl:=Option.some.inj H
         obtain⟨cm,e7,jy,jz,ki,kj,kn,dq,ed,ko,kp,ks,kt,ku⟩:=qD7 O.out
         go_wp2_with (first|(go_at_call 85;(with_reducible refine(car_within.calls (wrap64 (ι + ε)) 0 (wrap64 (J-1)) false _ ay.out).mono ?_);rintro e w' ⟨rfl,⟨nd,rfl⟩⟩))
         go_ret
         exact⟨by first|rfl|(simp[Qk,Qj] <;> rfl)|(simp[*,Qk,Qj] <;> rfl),bel⟩
       ·rw[if_neg gq] at H
        have c35b0:(ε == (-1))=false:=beq_eq_false_iff_ne.mpr gq
        have c35b1:(ε != (-1))=true:=bne_iff_ne.mpr gq
        obtain rfl:=Option.some.inj H
        obtain⟨gk,gl,ie,ig,ih,ii,ij,gm,gw,ik,il,im,io,ip⟩:=qD7 O.out
        go_wp2
        go_ret
        exact⟨by first|rfl|(simp[Qk,Qj] <;> rfl)|(simp[*,Qk,Qj] <;> rfl),bel⟩
     ·replace df:=Bool.eq_false_iff.mpr df
      subst df
      have H1:(some 180)=some r:=by rw[if_neg (show ¬ (false=true) by decide)] at H;exact H
      clear H
      have H:=H1
      clear H1
      obtain rfl:=Option.some.inj H
      obtain⟨hl,ho,hy,i0,i1,i2,i3,hu,hx,i4,iq,ir,iu,iv⟩:=qD7 O.out
      go_wp2
      go_ret
      exact⟨rfl,HB.out⟩
    ·rw[if_neg kk] at H
     have c23b0:(κ == 1)=false:=beq_eq_false_iff_ne.mpr kk
     have c23b1:(κ != 1)=true:=bne_iff_ne.mpr kk
     by_cases gr: κ = 2
     ·rw[if_pos gr] at H
      have c47b0:(κ == 2)=true:=beq_iff_eq.mpr gr
      have c47b1:(κ != 2)=false:=bne_eq_false_iff_eq.mpr gr
      clear gr
      by_cases kl: δ = true
      ·subst kl
       have H1:(if ε = 0 then ((car_within.f ν 1 60).bind fun θ =>(if θ = true then (if B=0 then (some 0) else (some 180)) else (some 180))) else (some 180))=some r:=by rw[if_pos rfl] at H;exact H
       clear H
       have H:=H1
       clear H1
       by_cases hh: ε = 0
       ·rw[if_pos hh] at H
        have c49b0:(ε == 0)=true:=beq_iff_eq.mpr hh
        have c49b1:(ε != 0)=false:=bne_eq_false_iff_eq.mpr hh
        clear hh
        replace H:=Option.bind_eq_some_iff.mp H
        obtain⟨θ,bk,H⟩:=H
        replace H:(if θ = true then (if B=0 then (some 0) else (some 180)) else (some 180))=some r:=H
        have bv:=Aside0.mk bk
        clear bk
        by_cases km: θ = true
        ·subst km
         have H1:(if B=0 then (some 0) else (some 180))=some r:=by rw[if_pos rfl] at H;exact H
         clear H
         have H:=H1
         clear H1
         by_cases ha:B=0
         ·rw[if_pos ha] at H
          have c52b0:(B==0)=true:=beq_iff_eq.mpr ha
          have c52b1:(B != 0)=false:=bne_eq_false_iff_eq.mpr ha
          clear ha
          obtain rfl:=Option.some.inj H
          obtain⟨kv,kw,kx,e9,et,eu,ew,ky,kz,l2,ez,fb,fc,fe⟩:=qD7 O.out
          go_wp2_with (first|(go_at_call 85;(with_reducible refine(car_within.calls ν 1 60 true _ bv.out).mono ?_);rintro e w' ⟨rfl,⟨nd,rfl⟩⟩))
          go_ret
          exact⟨by first|rfl|(simp[Qk,Qj] <;> rfl)|(simp[*,Qk,Qj] <;> rfl),bel⟩
         ·rw[if_neg ha] at H
          have c52b0:(B==0)=false:=beq_eq_false_iff_ne.mpr ha
          have c52b1:(B != 0)=true:=bne_iff_ne.mpr ha
          obtain rfl:=Option.some.inj H
          obtain⟨l3,l4,l5,l6,l7,l8,l9,lb,lc,lf,lg,lh,ll,lm⟩:=qD7 O.out
          go_wp2_with (first|(go_at_call 85;(with_reducible refine(car_within.calls ν 1 60 true _ bv.out).mono ?_);rintro e w' ⟨rfl,⟨nd,rfl⟩⟩))
          go_ret
          exact⟨by first|rfl|(simp[Qk,Qj] <;> rfl)|(simp[*,Qk,Qj] <;> rfl),bel⟩
        ·replace km:=Bool.eq_false_iff.mpr km
         subst km
         have H1:(some 180)=some r:=by rw[if_neg (show ¬ (false=true) by decide)] at H;exact H
         clear H
         have H:=H1
         clear H1
         obtain rfl:=Option.some.inj H
         obtain⟨gz,h0,iy,ff,mb,n1,n2,h4,h5,j3,n3,na,nb,nc⟩:=qD7 O.out
         go_wp2_with (first|(go_at_call 85;(with_reducible refine(car_within.calls ν 1 60 false _ bv.out).mono ?_);rintro e w' ⟨rfl,⟨nd,rfl⟩⟩))
         go_ret
         exact⟨by first|rfl|(simp[Qk,Qj] <;> rfl)|(simp[*,Qk,Qj] <;> rfl),bel⟩
       ·rw[if_neg hh] at H
        have c49b0:(ε == 0)=false:=beq_eq_false_iff_ne.mpr hh
        have c49b1:(ε != 0)=true:=bne_iff_ne.mpr hh
        obtain rfl:=Option.some.inj H
        obtain⟨nf,ng,nh,ni,nj,nk,nl,nm,nn,no,np,nq,nr,ns⟩:=qD7 O.out
        go_wp2
        go_ret
        exact⟨by first|rfl|(simp[Qk,Qj] <;> rfl)|(simp[*,Qk,Qj] <;> rfl),bel⟩
      ·replace kl:=Bool.eq_false_iff.mpr kl
       subst kl
       have H1:(some 180)=some r:=by rw[if_neg (show ¬ (false=true) by decide)] at H;exact H
       clear H
       have H:=H1
       clear H1
       obtain rfl:=Option.some.inj H
       obtain⟨j7,jc,jd,nt,nu,nv,nw,je,jf,jg,nx,ny,nz,o0⟩:=qD7 O.out
       go_wp2
       go_ret
       exact⟨rfl,HB.out⟩
     ·rw[if_neg gr] at H
      have c47b0:(κ == 2)=false:=beq_eq_false_iff_ne.mpr gr
      have c47b1:(κ != 2)=true:=bne_iff_ne.mpr gr
      by_cases fr: κ = 3
      ·rw[if_pos fr] at H
       have c58b0:(κ == 3)=true:=beq_iff_eq.mpr fr
       have c58b1:(κ != 3)=false:=bne_eq_false_iff_eq.mpr fr
       clear fr
       by_cases k5: δ = true
       ·subst k5
        have H1:(if ε = 0 then (if ν = 0 then (if B=0 then (some 180) else (some 0)) else (some 180)) else (some 180))=some r:=by rw[if_pos rfl] at H;exact H
        clear H
        have H:=H1
        clear H1
        by_cases iw: ε = 0
        ·rw[if_pos iw] at H
         have c60b0:(ε == 0)=true:=beq_iff_eq.mpr iw
         have c60b1:(ε != 0)=false:=bne_eq_false_iff_eq.mpr iw
         clear iw
         by_cases he: ν = 0
         ·rw[if_pos he] at H
          have c61b0:(ν == 0)=true:=beq_iff_eq.mpr he
          have c61b1:(ν != 0)=false:=bne_eq_false_iff_eq.mpr he
          clear he
          by_cases h9:B=0
          ·rw[if_pos h9] at H
           have c62b0:(B==0)=true:=beq_iff_eq.mpr h9
           have c62b1:(B != 0)=false:=bne_eq_false_iff_eq.mpr h9
           clear h9
           obtain rfl:=Option.some.inj H
           obtain⟨o1,o2,o3,o4,o5,o6,o7,o8,o9,oa,ob,oc,od,oe⟩:=qD7 O.out
           go_wp2
           go_ret
           exact⟨by first|rfl|(simp[Qk,Qj] <;> rfl)|(simp[*,Qk,Qj] <;> rfl),bel⟩
          ·rw[if_neg h9] at H
           have c62b0:(B==0)=false:=beq_eq_false_iff_ne.mpr h9
           have c62b1:(B != 0)=true:=bne_iff_ne.mpr h9
           obtain rfl:=Option.some.inj H
           obtain⟨j8,j9,mj,ov,ow,ox,oy,ja,jb,ml,oz,p0,p1,p5⟩:=qD7 O.out
           go_wp2
           go_ret
           exact⟨by first|rfl|(simp[Qk,Qj] <;> rfl)|(simp[*,Qk,Qj] <;> rfl),bel⟩
         ·rw[if_neg he] at H
          have c61b0:(ν == 0)=false:=beq_eq_false_iff_ne.mpr he
          have c61b1:(ν != 0)=true:=bne_iff_ne.mpr he
          obtain rfl:=Option.some.inj H
          obtain⟨ln,lp,lq,lr,ls,lu,lv,lw,lx,ly,lz,m0,m1,m2⟩:=qD7 O.out
          go_wp2
          go_ret
          exact⟨by first|rfl|(simp[Qk,Qj] <;> rfl)|(simp[*,Qk,Qj] <;> rfl),bel⟩
        ·rw[if_neg iw] at H
         have c60b0:(ε == 0)=false:=beq_eq_false_iff_ne.mpr iw
         have c60b1:(ε != 0)=true:=bne_iff_ne.mpr iw
         obtain rfl:=Option.some.inj H
         obtain⟨mm,mo,p7,p8,p9,pa,pb,mq,mr,pc,pd,pe,pf,pg⟩:=qD7 O.out
         go_wp2
         go_ret
         exact⟨by first|rfl|(simp[Qk,Qj] <;> rfl)|(simp[*,Qk,Qj] <;> rfl),bel⟩
       ·replace k5:=Bool.eq_false_iff.mpr k5
        subst k5
        have H1:(some 180)=some r:=by rw[if_neg (show ¬ (false=true) by decide)] at H;exact H
        clear H
        have H:=H1
        clear H1
        obtain rfl:=Option.some.inj H
        obtain⟨m3,m4,m5,m6,m7,m8,m9,mc,me,mf,mg,mh,mi,n0⟩:=qD7 O.out
        go_wp2
        go_ret
        exact⟨by first|rfl|(simp[Qk,Qj] <;> rfl)|(simp[*,Qk,Qj] <;> rfl),bel⟩
      ·rw[if_neg fr] at H
       have c58b0:(κ == 3)=false:=beq_eq_false_iff_ne.mpr fr
       have c58b1:(κ != 3)=true:=bne_iff_ne.mpr fr
       obtain rfl:=Option.some.inj H
       obtain⟨ms,mt,mu,pi,pj,pk,pm,mw,my,mz,pn,po,pp,pq⟩:=qD7 O.out
       go_wp2
       go_ret
       exact⟨rfl,HB.out⟩
def car_check.f (k:Nat) (J:Int) (O:Int) (X:Int) (Y:Int) (Z:Int) (δ :Int) (γ:Int) (θ :Int) (η :Int) (ζ :Int) (ι :Int) (ε :Int) (κ :Int) (ν :Int) (B:Int) (τ :Int) (χ :Int):Option (Int):=(door_Rest.f k J O X Y Z δ γ θ η ζ 0 0 0).bind fun a3=>(if a3.2=0 then ((car_Check.f k J ι ε κ ν B τ χ).bind fun σ=>(some σ)) else (some 180))
theorem car_check.mono:∀ J Y a2 a3 O a5 X a7 a8 a9 Z γ δ ζ ε η θ k,LeO (car_check.f k J Y a2 a3 O a5 X a7 a8 a9 Z γ δ ζ ε η θ) (car_check.f (k+1) J Y a2 a3 O a5 X a7 a8 a9 Z γ δ ζ ε η θ):=by
 intro J Y a2 a3 O a5 X a7 a8 a9 Z γ δ ζ ε η θ k
 unfold car_check.f
 repeat' first
   |(with_reducible exact car_Check.mono _ _ _ _ _ _ _ _ _)
   |(with_reducible exact door_Rest.mono _ _ _ _ _ _ _ _ _ _ _ _ _ _)
   |(with_reducible exact LeO.refl _)
   |(with_reducible exact LeO.none _)
   |(with_reducible refine LeO.ite ?_ ?_)
   |(with_reducible refine LeO.bind ?_ (fun _=>?_))
   |exact car_Check.mono _ _ _ _ _ _ _ _ _
   |exact door_Rest.mono _ _ _ _ _ _ _ _ _ _ _ _ _ _
   |exact LeO.none _
   |refine LeO.ite ?_ ?_
   |refine LeO.bind ?_ (fun _=>?_)
set_option maxHeartbeats 8000000 in
set_option maxRecDepth 100000 in
theorem car_check.calls (k:Nat) (J:Int) (O:Int) (X:Int) (Y:Int) (Z:Int) (δ :Int) (γ:Int) (θ :Int) (η :Int) (ζ :Int) (ι :Int) (ε :Int) (κ :Int) (ν :Int) (B:Int) (τ :Int) (χ :Int) (r:Int) (w:World) (h:car_check.f k J O X Y Z δ γ θ η ζ ι ε κ ν B τ χ = some r):
  Calls Try.prog 45 #[.agg #[.int .i64 J,.int .i64 O,.int .i64 X,.int .i64 Y,.int .i64 Z,.int .i64 δ,.int .i64 γ,.int .i64 θ,.int .i64 η,.int .i64 ζ],.agg #[.int .i64 ι,.int .i64 ε,.int .i64 κ,.int .i64 ν,.int .i64 B,.int .i64 τ,.int .i64 χ]] w fun e w'=>e = .returned (.int .i64 r)∧Below w.heap.size w w':=by
 have ew:=Try.underlying25
 have gx:=Try.underlying29
 have cy:=Try.underlying27
 have HB:=Aside0.mk (Below.refl w.heap.size w)
 have H:((door_Rest.f k J O X Y Z δ γ θ η ζ 0 0 0).bind fun a3=>(if a3.2=0 then ((car_Check.f k J ι ε κ ν B τ χ).bind fun σ=>(some σ)) else (some 180)))=some r:=h
 clear h
 replace H:=Option.bind_eq_some_iff.mp H
 obtain⟨⟨a4,ψ⟩,a5,H⟩:=H
 replace H:(if ψ = 0 then ((car_Check.f k J ι ε κ ν B τ χ).bind fun σ=>(some σ)) else (some 180))=some r:=H
 have A3:=Aside0.mk a5
 clear a5
 by_cases c4: ψ = 0
 ·rw[if_pos c4] at H
  have c4b0:(ψ == 0)=true:=beq_iff_eq.mpr c4
  have c4b1:(ψ != 0)=false:=bne_eq_false_iff_eq.mpr c4
  clear c4
  replace H:=Option.bind_eq_some_iff.mp H
  obtain⟨σ,bv,H⟩:=H
  replace H:(some σ)=some r:=H
  have A5:=Aside0.mk bv
  clear bv
  obtain rfl:=Option.some.inj H
  go_enter Try.func45,Try.ntmps45
  go_wp2_with (first|((with_reducible refine Qf (N:=2) rfl ?_);refine qE 2 #[.int .i64 J,.int .i64 O,.int .i64 X,.int .i64 Y,.int .i64 Z,.int .i64 δ,.int .i64 γ,.int .i64 θ,.int .i64 η,.int .i64 ζ] 25 ?_;intro af hg w6 hbox hb;have μ :=Aside0.mk hbox;have ag:=sGe hg;have aj:=sGe hg;replace HB:=sHb hb;clear hb hbox hg)|((with_reducible refine Qf (N:=3) rfl ?_);refine qE 3 #[.int .i64 ι,.int .i64 ε,.int .i64 κ,.int .i64 ν,.int .i64 B,.int .i64 τ,.int .i64 χ] 29 ?_;intro ak hg w7 hbox hb;have ξ :=Aside0.mk hbox;have am:=sGe hg;have an:=sGe hg;have a0:=sNl μ hg;have a1:=sNg μ hg;replace μ :=sBk μ hb;replace HB:=sHb hb;clear hb hbox hg;have d3:=a0.out;have eb:=a1.out;obtain⟨b0,bw,bh,bi,d4,dh,di,dm,ed,ee,cb,cd,ej,ey,fg,fh,fi,fj,ef,eg⟩:=Zl μ.out)|((with_reducible refine Qp (f:=47) rfl ?_);refine Q4 (some 10) rfl rfl Try.func47 kr rfl #[.agg #[.int .i64 J,.int .i64 O,.int .i64 X,.int .i64 Y,.int .i64 Z,.int .i64 δ,.int .i64 γ,.int .i64 θ,.int .i64 η,.int .i64 ζ],.agg #[.int .i64 0,.int .i64 0,.int .i64 0]] rfl qM ?_;(with_reducible refine(door_Rest.calls k J O X Y Z δ γ θ η ζ 0 0 0 a4 ψ _ A3.out).mono ?_);rintro e ni ⟨rfl,hb⟩;refine⟨_,rfl, ?_⟩;replace μ :=sBk μ hb;replace ξ :=sBk ξ hb;replace HB:=sHb hb;(try clear hb);(try clear a6);(try clear hk);(try clear hi);obtain⟨ω,ah,bj,be,bn,bo,bp,bq,dn,ev,b3,bf,bk,cm,cn,cr,ct,cu,j8,j9⟩:=Zl μ.out;obtain⟨φ,a7,ρ,ab,ac,ae,ai,a8,a9,aa,au,aw,ax,bg⟩:=qD7 ξ.out)|((with_reducible refine Qp (f:=69) rfl ?_);refine Q4 (some 18) rfl rfl Try.func69 kr rfl #[.int .i64 J,.agg #[.int .i64 ι,.int .i64 ε,.int .i64 κ,.int .i64 ν,.int .i64 B,.int .i64 τ,.int .i64 χ]] rfl qM ?_;(with_reducible refine(car_Check.calls k J ι ε κ ν B τ χ σ _ A5.out).mono ?_);rintro e ch ⟨rfl,hb⟩;refine⟨_,rfl, ?_⟩;replace μ :=sBk μ hb;replace ξ :=sBk ξ hb;replace HB:=sHb hb;(try clear hb);(try clear a6);(try clear hk);(try clear hi)))
  go_ret
  exact⟨rfl,HB.out⟩
 ·rw[if_neg c4] at H
  have c4b0:(ψ == 0)=false:=beq_eq_false_iff_ne.mpr c4
  have c4b1:(ψ != 0)=true:=bne_iff_ne.mpr c4
  obtain rfl:=Option.some.inj H
  go_enter Try.func45,Try.ntmps45
  go_wp2_with (first|((with_reducible refine Qf (N:=2) rfl ?_);refine qE 2 #[.int .i64 J,.int .i64 O,.int .i64 X,.int .i64 Y,.int .i64 Z,.int .i64 δ,.int .i64 γ,.int .i64 θ,.int .i64 η,.int .i64 ζ] 25 ?_;intro af hg ft hbox hb;have μ :=Aside0.mk hbox;have ag:=sGe hg;have aj:=sGe hg;replace HB:=sHb hb;clear hb hbox hg)|((with_reducible refine Qf (N:=3) rfl ?_);refine qE 3 #[.int .i64 ι,.int .i64 ε,.int .i64 κ,.int .i64 ν,.int .i64 B,.int .i64 τ,.int .i64 χ] 29 ?_;intro ak hg kp hbox hb;have ξ :=Aside0.mk hbox;have am:=sGe hg;have an:=sGe hg;have a0:=sNl μ hg;have a1:=sNg μ hg;replace μ :=sBk μ hb;replace HB:=sHb hb;clear hb hbox hg;have de:=a0.out;have fr:=a1.out;obtain⟨ay,az,bz,al,ar,av,b4,ba,ce,ci,b1,b2,ca,cj,en,fa,fb,fc,fe,ff⟩:=Zl μ.out)|((with_reducible refine Qp (f:=47) rfl ?_);refine Q4 (some 10) rfl rfl Try.func47 kr rfl #[.agg #[.int .i64 J,.int .i64 O,.int .i64 X,.int .i64 Y,.int .i64 Z,.int .i64 δ,.int .i64 γ,.int .i64 θ,.int .i64 η,.int .i64 ζ],.agg #[.int .i64 0,.int .i64 0,.int .i64 0]] rfl qM ?_;(with_reducible refine(door_Rest.calls k J O X Y Z δ γ θ η ζ 0 0 0 a4 ψ _ A3.out).mono ?_);rintro e hh ⟨rfl,hb⟩;refine⟨_,rfl, ?_⟩;replace μ :=sBk μ hb;replace ξ :=sBk ξ hb;replace HB:=sHb hb;(try clear hb);(try clear a6);(try clear hk);(try clear hi)))
  go_ret
  exact⟨rfl,HB.out⟩
def car_Rest.f (k:Nat) (J:Int) (O:Int) (X:Int) (Y:Int) (Z:Int) (δ :Int) (γ:Int) (θ :Int) (η :Int) (ζ :Int) (ι :Int) (ε :Int) (κ :Int) (ν :Int) (B:Int) (τ :Int) (χ :Int):Option (Int×Int):=(car_check.f k J O X Y Z δ γ θ η ζ ι ε κ ν B τ χ).bind fun σ=>(if σ=0 then (if κ = 2 then ((door_Ask.f k O X Y Z δ γ θ B τ χ).bind fun ψ =>((door_Rest.f k J O X Y Z δ γ θ η ζ ψ.1 ψ.2.1 ψ.2.2.1).bind fun a4=>(some (wrap64 (ν + a4.1),0)))) else ((door_Rest.f k J O X Y Z δ γ θ η ζ B τ χ).bind fun b4=>(some (wrap64 (ν + b4.1),0)))) else (some (0,σ)))
theorem car_Rest.mono:∀ J Y a2 a3 O a5 X a7 a8 a9 Z γ δ ζ ε η θ k,LeO (car_Rest.f k J Y a2 a3 O a5 X a7 a8 a9 Z γ δ ζ ε η θ) (car_Rest.f (k+1) J Y a2 a3 O a5 X a7 a8 a9 Z γ δ ζ ε η θ):=by
 intro J Y a2 a3 O a5 X a7 a8 a9 Z γ δ ζ ε η θ k
 unfold car_Rest.f
 repeat' first
   |(with_reducible exact car_check.mono _ _ _ _ _ _ _ _ _ _ _ _ _ _ _ _ _ _)
   |(with_reducible exact door_Ask.mono _ _ _ _ _ _ _ _ _ _ _)
   |(with_reducible exact door_Rest.mono _ _ _ _ _ _ _ _ _ _ _ _ _ _)
   |(with_reducible exact LeO.refl _)
   |(with_reducible exact LeO.none _)
   |(with_reducible refine LeO.ite ?_ ?_)
   |(with_reducible refine LeO.bind ?_ (fun _=>?_))
   |exact car_check.mono _ _ _ _ _ _ _ _ _ _ _ _ _ _ _ _ _ _
   |exact door_Ask.mono _ _ _ _ _ _ _ _ _ _ _
   |exact door_Rest.mono _ _ _ _ _ _ _ _ _ _ _ _ _ _
   |exact LeO.none _
   |refine LeO.ite ?_ ?_
   |refine LeO.bind ?_ (fun _=>?_)
set_option maxHeartbeats 8000000 in
set_option maxRecDepth 100000 in
theorem car_Rest.calls (k:Nat) (J:Int) (O:Int) (X:Int) (Y:Int) (Z:Int) (δ :Int) (γ:Int) (θ :Int) (η :Int) (ζ :Int) (ι :Int) (ε :Int) (κ :Int) (ν :Int) (B:Int) (τ :Int) (χ :Int) (r1:Int) (r2:Int) (w:World) (h:car_Rest.f k J O X Y Z δ γ θ η ζ ι ε κ ν B τ χ = some (r1,r2)):
  Calls Try.prog 25 #[.agg #[.int .i64 J,.int .i64 O,.int .i64 X,.int .i64 Y,.int .i64 Z,.int .i64 δ,.int .i64 γ,.int .i64 θ,.int .i64 η,.int .i64 ζ],.agg #[.int .i64 ι,.int .i64 ε,.int .i64 κ,.int .i64 ν,.int .i64 B,.int .i64 τ,.int .i64 χ]] w fun e w'=>e = .returned (.tuple #[.int .i64 r1,.int .i64 r2])∧Below w.heap.size w w':=by
 have ew:=Try.underlying25
 have gx:=Try.underlying29
 have cy:=Try.underlying27
 have h5:=Try.underlying23
 have HB:=Aside0.mk (Below.refl w.heap.size w)
 have H:((car_check.f k J O X Y Z δ γ θ η ζ ι ε κ ν B τ χ).bind fun σ=>(if σ=0 then (if κ = 2 then ((door_Ask.f k O X Y Z δ γ θ B τ χ).bind fun ψ =>((door_Rest.f k J O X Y Z δ γ θ η ζ ψ.1 ψ.2.1 ψ.2.2.1).bind fun a4=>(some (wrap64 (ν + a4.1),0)))) else ((door_Rest.f k J O X Y Z δ γ θ η ζ B τ χ).bind fun b4=>(some (wrap64 (ν + b4.1),0)))) else (some (0,σ))))=some (r1,r2):=h
 clear h
 replace H:=Option.bind_eq_some_iff.mp H
 obtain⟨σ,a5,H⟩:=H
 replace H:(if σ=0 then (if κ = 2 then ((door_Ask.f k O X Y Z δ γ θ B τ χ).bind fun ψ =>((door_Rest.f k J O X Y Z δ γ θ η ζ ψ.1 ψ.2.1 ψ.2.2.1).bind fun a4=>(some (wrap64 (ν + a4.1),0)))) else ((door_Rest.f k J O X Y Z δ γ θ η ζ B τ χ).bind fun b4=>(some (wrap64 (ν + b4.1),0)))) else (some (0,σ)))=some (r1,r2):=H
 have A3:=Aside0.mk a5
 clear a5
 by_cases c4:σ=0
 ·rw[if_pos c4] at H
  have c4b0:(σ==0)=true:=beq_iff_eq.mpr c4
  have c4b1:(σ != 0)=false:=bne_eq_false_iff_eq.mpr c4
  clear c4
  by_cases c5: κ = 2
  ·rw[if_pos c5] at H
   have c5b0:(κ == 2)=true:=beq_iff_eq.mpr c5
   have c5b1:(κ != 2)=false:=bne_eq_false_iff_eq.mpr c5
   clear c5
   replace H:=Option.bind_eq_some_iff.mp H
   obtain⟨⟨b2,bl,bu,kj⟩,b0,H⟩:=H
   replace H:((door_Rest.f k J O X Y Z δ γ θ η ζ b2 bl bu).bind fun a4=>(some (wrap64 (ν + a4.1),0)))=some (r1,r2):=H
   have A6:=Aside0.mk b0
   clear b0
   replace H:=Option.bind_eq_some_iff.mp H
   obtain⟨⟨kd,kl⟩,ce,H⟩:=H
   replace H:(some (wrap64 (ν + kd),0))=some (r1,r2):=H
   have A7:=Aside0.mk ce
   clear ce
   simp only[Option.some.injEq,Prod.mk.injEq] at H
   obtain⟨rfl,rfl⟩:=H
   go_enter Try.func25,Try.ntmps25
   go_wp2_with (first|((with_reducible refine Qf (N:=2) rfl ?_);refine qE 2 #[.int .i64 J,.int .i64 O,.int .i64 X,.int .i64 Y,.int .i64 Z,.int .i64 δ,.int .i64 γ,.int .i64 θ,.int .i64 η,.int .i64 ζ] 25 ?_;intro bw hg w8 hbox hb;have μ :=Aside0.mk hbox;have cf:=sGe hg;have cq:=sGe hg;replace HB:=sHb hb;clear hb hbox hg)|((with_reducible refine Qf (N:=3) rfl ?_);refine qE 3 #[.int .i64 ι,.int .i64 ε,.int .i64 κ,.int .i64 ν,.int .i64 B,.int .i64 τ,.int .i64 χ] 29 ?_;intro cv hg w9 hbox hb;have ξ :=Aside0.mk hbox;have cw:=sGe hg;have cx:=sGe hg;have a1:=sNl μ hg;have a3:=sNg μ hg;replace μ :=sBk μ hb;replace HB:=sHb hb;clear hb hbox hg;have bv:=a1.out;have cp:=a3.out;obtain⟨ω,ah,bj,be,bn,bo,bp,bq,dn,ev,b3,bf,bk,cm,cn,cr,ct,cu,j8,j9⟩:=Zl μ.out;obtain⟨φ,a7,ρ,ab,ac,ae,ai,a8,a9,aa,au,aw,ax,bg⟩:=qD7 ξ.out)|((with_reducible refine Qp (f:=45) rfl ?_);refine Q4 (some 12) rfl rfl Try.func45 kr rfl #[.agg #[.int .i64 J,.int .i64 O,.int .i64 X,.int .i64 Y,.int .i64 Z,.int .i64 δ,.int .i64 γ,.int .i64 θ,.int .i64 η,.int .i64 ζ],.agg #[.int .i64 ι,.int .i64 ε,.int .i64 κ,.int .i64 ν,.int .i64 B,.int .i64 τ,.int .i64 χ]] rfl qM ?_;(with_reducible refine(car_check.calls k J O X Y Z δ γ θ η ζ ι ε κ ν B τ χ σ _ A3.out).mono ?_);rintro e ch ⟨rfl,hb⟩;refine⟨_,rfl, ?_⟩;replace μ :=sBk μ hb;replace ξ :=sBk ξ hb;replace HB:=sHb hb;(try clear hb);(try clear a6);(try clear hk);(try clear hi);obtain⟨cz,d5,e5,e6,e7,eb,ed,d6,dd,ee,ef,eg,eh,ei⟩:=qD7 ξ.out)|((with_reducible refine Qf (N:=7) rfl ?_);refine qE 7 #[.int .i64 0,.int .i64 0,.int .i64 0] 27 ?_;intro bm hg kp hbox hb;have a0:=Aside0.mk hbox;have kf:=sGe hg;have kg:=sGe hg;have ag:=sNl μ hg;have ay:=sNg μ hg;have az:=sNl ξ hg;have b1:=sNg ξ hg;replace μ :=sBk μ hb;replace ξ :=sBk ξ hb;replace HB:=sHb hb;clear hb hbox hg;have de:=ay.out;have fr:=ag.out;have hh:=b1.out;have iw:=az.out;obtain⟨ci,cj,ba,ck,co,dm⟩:=qD3 a0.out;obtain⟨aj,ak,ao,b5,b6,b7,b8,am,an,ap,b9,bb,bc,bd⟩:=qD7 ξ.out;obtain⟨af,al,bh,ej,ft,gn,gp,he,ix,iy,ar,av,bi,gy,h6,h7,h8,iz,j3,j7⟩:=Zl μ.out)|((with_reducible refine Qp (f:=46) rfl ?_);refine Q4 (some 25) rfl rfl Try.func46 kr rfl #[.agg #[.int .i64 O,.int .i64 X,.int .i64 Y,.int .i64 Z,.int .i64 δ,.int .i64 γ,.int .i64 θ],.agg #[.int .i64 B,.int .i64 τ,.int .i64 χ]] rfl qM ?_;(with_reducible refine(door_Ask.calls k O X Y Z δ γ θ B τ χ b2 bl bu kj _ A6.out).mono ?_);rintro e bs ⟨rfl,hb⟩;refine⟨_,rfl, ?_⟩;replace μ :=sBk μ hb;replace ξ :=sBk ξ hb;replace a0:=Aside0.mk (Qy (g:=bm) (o:=.cells #[.int .i64 B,.int .i64 τ,.int .i64 χ] 27 (0,0)) (by refine Qq (cs:=#[.int .i64 B,.int .i64 τ,.int .i64 0]) ?_ 2 _ rfl;refine Qq (cs:=#[.int .i64 B,.int .i64 0,.int .i64 0]) ?_ 1 _ rfl;refine Qq (cs:=#[.int .i64 0,.int .i64 0,.int .i64 0]) ?_ 0 _ rfl;exact a0.out) hb);replace HB:=sHb hb;(try clear hb);(try clear a6);(try clear hk);(try clear hi);obtain⟨bz,ca,dh,cb,cd,di⟩:=qD3 a0.out;obtain⟨dj,dk,eo,ja,jb,ju,jv,jw,jx,jy,ep,er,fz,jz,k0,k1,k2,k3,k4,k5⟩:=Zl μ.out)|((with_reducible refine Qp (f:=47) rfl ?_);refine Q4 (some 31) rfl rfl Try.func47 kr rfl #[.agg #[.int .i64 J,.int .i64 O,.int .i64 X,.int .i64 Y,.int .i64 Z,.int .i64 δ,.int .i64 γ,.int .i64 θ,.int .i64 η,.int .i64 ζ],.agg #[.int .i64 b2,.int .i64 bl,.int .i64 bu]] rfl qM ?_;(with_reducible refine(door_Rest.calls k J O X Y Z δ γ θ η ζ b2 bl bu kd kl _ A7.out).mono ?_);rintro e cg ⟨rfl,hb⟩;refine⟨_,rfl, ?_⟩;replace μ :=sBk μ hb;replace ξ :=sBk ξ hb;replace a0:=Aside0.mk (Qy (g:=bm) (o:=.cells #[.int .i64 b2,.int .i64 bl,.int .i64 bu] 27 (0,0)) (by refine Qq (cs:=#[.int .i64 b2,.int .i64 bl,.int .i64 χ]) ?_ 2 _ rfl;refine Qq (cs:=#[.int .i64 b2,.int .i64 τ,.int .i64 χ]) ?_ 1 _ rfl;refine Qq (cs:=#[.int .i64 B,.int .i64 τ,.int .i64 χ]) ?_ 0 _ rfl;exact a0.out) hb);replace HB:=sHb hb;(try clear hb);(try clear a6);(try clear hk);(try clear hi);obtain⟨ea,ek,dw,dl,e0,e3,e4,el,em,dx,en,et,eu,ez⟩:=qD7 ξ.out))
   go_ret2
   exact⟨rfl,HB.out⟩
  ·rw[if_neg c5] at H
   have c5b0:(κ == 2)=false:=beq_eq_false_iff_ne.mpr c5
   have c5b1:(κ != 2)=true:=bne_iff_ne.mpr c5
   replace H:=Option.bind_eq_some_iff.mp H
   obtain⟨⟨ke,km⟩,br,H⟩:=H
   replace H:(some (wrap64 (ν + ke),0))=some (r1,r2):=H
   have d4:=Aside0.mk br
   clear br
   simp only[Option.some.injEq,Prod.mk.injEq] at H
   obtain⟨rfl,rfl⟩:=H
   go_enter Try.func25,Try.ntmps25
   go_wp2_with (first|((with_reducible refine Qf (N:=2) rfl ?_);refine qE 2 #[.int .i64 J,.int .i64 O,.int .i64 X,.int .i64 Y,.int .i64 Z,.int .i64 δ,.int .i64 γ,.int .i64 θ,.int .i64 η,.int .i64 ζ] 25 ?_;intro bw hg df hbox hb;have μ :=Aside0.mk hbox;have cf:=sGe hg;have cq:=sGe hg;replace HB:=sHb hb;clear hb hbox hg)|((with_reducible refine Qf (N:=3) rfl ?_);refine qE 3 #[.int .i64 ι,.int .i64 ε,.int .i64 κ,.int .i64 ν,.int .i64 B,.int .i64 τ,.int .i64 χ] 29 ?_;intro cv hg e9 hbox hb;have ξ :=Aside0.mk hbox;have cw:=sGe hg;have cx:=sGe hg;have a1:=sNl μ hg;have a3:=sNg μ hg;replace μ :=sBk μ hb;replace HB:=sHb hb;clear hb hbox hg;have ql:=a1.out;have qm:=a3.out;obtain⟨d7,d8,dp,fa,fb,fc,fe,gq,gr,gs,d9,da,dq,ff,fg,fh,fi,gt,gu,gv⟩:=Zl μ.out;obtain⟨f7,fu,fv,ey,ga,gb,ge,fw,fx,fy,gf,gh,gi,gj⟩:=qD7 ξ.out)|((with_reducible refine Qp (f:=45) rfl ?_);refine Q4 (some 12) rfl rfl Try.func45 kr rfl #[.agg #[.int .i64 J,.int .i64 O,.int .i64 X,.int .i64 Y,.int .i64 Z,.int .i64 δ,.int .i64 γ,.int .i64 θ,.int .i64 η,.int .i64 ζ],.agg #[.int .i64 ι,.int .i64 ε,.int .i64 κ,.int .i64 ν,.int .i64 B,.int .i64 τ,.int .i64 χ]] rfl qM ?_;(with_reducible refine(car_check.calls k J O X Y Z δ γ θ η ζ ι ε κ ν B τ χ σ _ A3.out).mono ?_);rintro e ki ⟨rfl,hb⟩;refine⟨_,rfl, ?_⟩;replace μ :=sBk μ hb;replace ξ :=sBk ξ hb;replace HB:=sHb hb;(try clear hb);(try clear a6);(try clear hk);(try clear hi);obtain⟨d0,d1,db,fj,fk,fl,fm,d2,d3,dc,fn,fo,fp,fq⟩:=qD7 ξ.out)|((with_reducible refine Qf (N:=7) rfl ?_);refine qE 7 #[.int .i64 0,.int .i64 0,.int .i64 0] 27 ?_;intro bm hg kc hbox hb;have a0:=Aside0.mk hbox;have kf:=sGe hg;have kg:=sGe hg;have ag:=sNl μ hg;have ay:=sNg μ hg;have az:=sNl ξ hg;have b1:=sNg ξ hg;replace μ :=sBk μ hb;replace ξ :=sBk ξ hb;replace HB:=sHb hb;clear hb hbox hg;have l5:=ay.out;have l6:=ag.out;have sb:=b1.out;have sc:=az.out;obtain⟨jc,jd,kn,je,jf,ko⟩:=qD3 a0.out;obtain⟨jg,jh,ji,jj,jk,jl,jm,jn,jo,jp,jq,jr,js,jt⟩:=qD7 ξ.out;obtain⟨e8,ec,gg,kq,ks,ku,kw,kx,ky,kz,gz,h0,h4,l2,l3,l4,l7,l8,l9,lb⟩:=Zl μ.out)|((with_reducible refine Qp (f:=47) rfl ?_);refine Q4 (some 31) rfl rfl Try.func47 kr rfl #[.agg #[.int .i64 J,.int .i64 O,.int .i64 X,.int .i64 Y,.int .i64 Z,.int .i64 δ,.int .i64 γ,.int .i64 θ,.int .i64 η,.int .i64 ζ],.agg #[.int .i64 B,.int .i64 τ,.int .i64 χ]] rfl qM ?_;(with_reducible refine(door_Rest.calls k J O X Y Z δ γ θ η ζ B τ χ ke km _ d4.out).mono ?_);rintro e kt ⟨rfl,hb⟩;refine⟨_,rfl, ?_⟩;replace μ :=sBk μ hb;replace ξ :=sBk ξ hb;replace a0:=Aside0.mk (Qy (g:=bm) (o:=.cells #[.int .i64 B,.int .i64 τ,.int .i64 χ] 27 (0,0)) (by refine Qq (cs:=#[.int .i64 B,.int .i64 τ,.int .i64 0]) ?_ 2 _ rfl;refine Qq (cs:=#[.int .i64 B,.int .i64 0,.int .i64 0]) ?_ 1 _ rfl;refine Qq (cs:=#[.int .i64 0,.int .i64 0,.int .i64 0]) ?_ 0 _ rfl;exact a0.out) hb);replace HB:=sHb hb;(try clear hb);(try clear a6);(try clear hk);(try clear hi);obtain⟨dr,dt,dy,hj,i5,i6,i7,du,dv,dz,i9,ia,ib,ic⟩:=qD7 ξ.out))
   go_ret2
   exact⟨rfl,HB.out⟩
 ·rw[if_neg c4] at H
  have c4b0:(σ==0)=false:=beq_eq_false_iff_ne.mpr c4
  have c4b1:(σ != 0)=true:=bne_iff_ne.mpr c4
  simp only[Option.some.injEq,Prod.mk.injEq] at H
  obtain⟨rfl,rfl⟩:=H
  go_enter Try.func25,Try.ntmps25
  go_wp2_with (first|((with_reducible refine Qf (N:=2) rfl ?_);refine qE 2 #[.int .i64 J,.int .i64 O,.int .i64 X,.int .i64 Y,.int .i64 Z,.int .i64 δ,.int .i64 γ,.int .i64 θ,.int .i64 η,.int .i64 ζ] 25 ?_;intro bw hg kh hbox hb;have μ :=Aside0.mk hbox;have cf:=sGe hg;have cq:=sGe hg;replace HB:=sHb hb;clear hb hbox hg)|((with_reducible refine Qf (N:=3) rfl ?_);refine qE 3 #[.int .i64 ι,.int .i64 ε,.int .i64 κ,.int .i64 ν,.int .i64 B,.int .i64 τ,.int .i64 χ] 29 ?_;intro cv hg kv hbox hb;have ξ :=Aside0.mk hbox;have cw:=sGe hg;have cx:=sGe hg;have a1:=sNl μ hg;have a3:=sNg μ hg;replace μ :=sBk μ hb;replace HB:=sHb hb;clear hb hbox hg;have h9:=a1.out;have ha:=a3.out;obtain⟨gk,gl,ie,ig,ih,ii,ij,k6,k7,k8,gm,gw,ik,il,im,io,ip,k9,ka,kb⟩:=Zl μ.out;obtain⟨hl,ho,hy,i0,i1,i2,i3,hu,hx,i4,iq,ir,iu,iv⟩:=qD7 ξ.out)|((with_reducible refine Qp (f:=45) rfl ?_);refine Q4 (some 12) rfl rfl Try.func45 kr rfl #[.agg #[.int .i64 J,.int .i64 O,.int .i64 X,.int .i64 Y,.int .i64 Z,.int .i64 δ,.int .i64 γ,.int .i64 θ,.int .i64 η,.int .i64 ζ],.agg #[.int .i64 ι,.int .i64 ε,.int .i64 κ,.int .i64 ν,.int .i64 B,.int .i64 τ,.int .i64 χ]] rfl qM ?_;(with_reducible refine(car_check.calls k J O X Y Z δ γ θ η ζ ι ε κ ν B τ χ σ _ A3.out).mono ?_);rintro e kk ⟨rfl,hb⟩;refine⟨_,rfl, ?_⟩;replace μ :=sBk μ hb;replace ξ :=sBk ξ hb;replace HB:=sHb hb;(try clear hb);(try clear a6);(try clear hk);(try clear hi)))
  go_ret2
  exact⟨rfl,HB.out⟩
def group_lift.f (k:Nat) (J:Int) (O:Int) (X:Int) (Y:Int) (Z:Int) (δ :Int) (γ:Int) (θ :Int) (η :Int) (ζ :Int) (ι :Int) (ε :Int) (κ :Int) (ν :Int) (B:Int) (τ :Int) (χ :Int) (ψ :Int) (ω :Bool) (a1:Bool):Option (Bool):=(car_Rest.f k J O X Y Z δ γ θ η ζ ι ε κ ν B τ χ).bind fun af=>(if af.2=0 then (if (-1) ≤ ψ then (some (decide (ψ ≤ 1))) else (some false)) else (some false))
theorem group_lift.mono:∀ J Y a2 a3 O a5 X a7 a8 a9 Z γ δ ζ ε η θ B ι κ k,LeO (group_lift.f k J Y a2 a3 O a5 X a7 a8 a9 Z γ δ ζ ε η θ B ι κ) (group_lift.f (k+1) J Y a2 a3 O a5 X a7 a8 a9 Z γ δ ζ ε η θ B ι κ):=by
 intro J Y a2 a3 O a5 X a7 a8 a9 Z γ δ ζ ε η θ B ι κ k
 unfold group_lift.f
 repeat' first
   |(with_reducible exact car_Rest.mono _ _ _ _ _ _ _ _ _ _ _ _ _ _ _ _ _ _)
   |(with_reducible exact LeO.refl _)
   |(with_reducible exact LeO.none _)
   |(with_reducible refine LeO.ite ?_ ?_)
   |(with_reducible refine LeO.bind ?_ (fun _=>?_))
   |exact car_Rest.mono _ _ _ _ _ _ _ _ _ _ _ _ _ _ _ _ _ _
   |exact LeO.none _
   |refine LeO.ite ?_ ?_
   |refine LeO.bind ?_ (fun _=>?_)
set_option maxHeartbeats 8000000 in
set_option maxRecDepth 100000 in
theorem group_lift.calls (k:Nat) (J:Int) (O:Int) (X:Int) (Y:Int) (Z:Int) (δ :Int) (γ:Int) (θ :Int) (η :Int) (ζ :Int) (ι :Int) (ε :Int) (κ :Int) (ν :Int) (B:Int) (τ :Int) (χ :Int) (ψ :Int) (ω :Bool) (a1:Bool) (r:Bool) (w:World) (h:group_lift.f k J O X Y Z δ γ θ η ζ ι ε κ ν B τ χ ψ ω a1=some r):
  Calls Try.prog 28 #[.agg #[.int .i64 J,.int .i64 O,.int .i64 X,.int .i64 Y,.int .i64 Z,.int .i64 δ,.int .i64 γ,.int .i64 θ,.int .i64 η,.int .i64 ζ],.agg #[.int .i64 ι,.int .i64 ε,.int .i64 κ,.int .i64 ν,.int .i64 B,.int .i64 τ,.int .i64 χ,.int .i64 ψ,.bool ω,.bool a1]] w fun e w'=>e = .returned (.bool r)∧Below w.heap.size w w':=by
 have ew:=Try.underlying25
 have fo:=Try.underlying31
 have gx:=Try.underlying29
 have HB:=Aside0.mk (Below.refl w.heap.size w)
 have H:((car_Rest.f k J O X Y Z δ γ θ η ζ ι ε κ ν B τ χ).bind fun af=>(if af.2=0 then (if (-1) ≤ ψ then (some (decide (ψ ≤ 1))) else (some false)) else (some false)))=some r:=h
 clear h
 replace H:=Option.bind_eq_some_iff.mp H
 obtain⟨⟨ag,a3⟩,a5,H⟩:=H
 replace H:(if a3=0 then (if (-1) ≤ ψ then (some (decide (ψ ≤ 1))) else (some false)) else (some false))=some r:=H
 have A3:=Aside0.mk a5
 clear a5
 by_cases c4:a3=0
 ·rw[if_pos c4] at H
  have c4b0:(a3==0)=true:=beq_iff_eq.mpr c4
  have c4b1:(a3 != 0)=false:=bne_eq_false_iff_eq.mpr c4
  clear c4
  by_cases c5:(-1) ≤ ψ
  ·rw[if_pos c5] at H
   have c5b0:decide ((-1) ≤ ψ)=true:=decide_eq_true c5
   clear c5
   obtain rfl:=Option.some.inj H
   go_enter Try.func28,Try.ntmps28
   go_wp2_with (first|((with_reducible refine Qf (N:=2) rfl ?_);refine qE 2 #[.int .i64 J,.int .i64 O,.int .i64 X,.int .i64 Y,.int .i64 Z,.int .i64 δ,.int .i64 γ,.int .i64 θ,.int .i64 η,.int .i64 ζ] 25 ?_;intro be hg w6 hbox hb;have μ :=Aside0.mk hbox;have bm:=sGe hg;have cz:=sGe hg;replace HB:=sHb hb;clear hb hbox hg)|((with_reducible refine Qf (N:=3) rfl ?_);refine qE 3 #[.int .i64 ι,.int .i64 ε,.int .i64 κ,.int .i64 ν,.int .i64 B,.int .i64 τ,.int .i64 χ,.int .i64 ψ,.bool ω,.bool a1] 31 ?_;intro d5 hg w7 hbox hb;have ξ :=Aside0.mk hbox;have d6:=sGe hg;have dd:=sGe hg;have σ:=sNl μ hg;have a0:=sNg μ hg;replace μ :=sBk μ hb;replace HB:=sHb hb;clear hb hbox hg;have d3:=σ.out;have eb:=a0.out;obtain⟨b0,bw,bh,bi,d4,dh,di,dm,ed,ee,cb,cd,ej,ey,fg,fh,fi,fj,ef,eg⟩:=Zl μ.out;obtain⟨a4,ah,cf,cg,cp,cq,cr,bf,bv,df,b3,bu,ct,cu,cv,cw,cx,fk,fl,fm⟩:=Zl ξ.out)|((with_reducible refine Qp (f:=25) rfl ?_);refine Q4 (some 11) rfl rfl Try.func25 kr rfl #[.agg #[.int .i64 J,.int .i64 O,.int .i64 X,.int .i64 Y,.int .i64 Z,.int .i64 δ,.int .i64 γ,.int .i64 θ,.int .i64 η,.int .i64 ζ],.agg #[.int .i64 ι,.int .i64 ε,.int .i64 κ,.int .i64 ν,.int .i64 B,.int .i64 τ,.int .i64 χ]] rfl qM ?_;(with_reducible refine(car_Rest.calls k J O X Y Z δ γ θ η ζ ι ε κ ν B τ χ ag a3 _ A3.out).mono ?_);rintro e ec ⟨rfl,hb⟩;refine⟨_,rfl, ?_⟩;replace μ :=sBk μ hb;replace ξ :=sBk ξ hb;replace HB:=sHb hb;(try clear hb);(try clear a6);(try clear hk);(try clear hi);obtain⟨φ,a7,ρ,ab,ac,ae,ai,fp,fq,fr,a8,a9,aa,au,aw,ax,bg,fu,fv,fw⟩:=Zl ξ.out))
   go_ret
   exact⟨rfl,HB.out⟩
  ·rw[if_neg c5] at H
   have c5b0:decide ((-1) ≤ ψ)=false:=decide_eq_false c5
   clear c5
   obtain rfl:=Option.some.inj H
   go_enter Try.func28,Try.ntmps28
   go_wp2_with (first|((with_reducible refine Qf (N:=2) rfl ?_);refine qE 2 #[.int .i64 J,.int .i64 O,.int .i64 X,.int .i64 Y,.int .i64 Z,.int .i64 δ,.int .i64 γ,.int .i64 θ,.int .i64 η,.int .i64 ζ] 25 ?_;intro be hg ch hbox hb;have μ :=Aside0.mk hbox;have bm:=sGe hg;have cz:=sGe hg;replace HB:=sHb hb;clear hb hbox hg)|((with_reducible refine Qf (N:=3) rfl ?_);refine qE 3 #[.int .i64 ι,.int .i64 ε,.int .i64 κ,.int .i64 ν,.int .i64 B,.int .i64 τ,.int .i64 χ,.int .i64 ψ,.bool ω,.bool a1] 31 ?_;intro d5 hg ft hbox hb;have ξ :=Aside0.mk hbox;have d6:=sGe hg;have dd:=sGe hg;have σ:=sNl μ hg;have a0:=sNg μ hg;replace μ :=sBk μ hb;replace HB:=sHb hb;clear hb hbox hg;have gn:=σ.out;have gp:=a0.out;obtain⟨db,dc,bl,cy,d0,d1,d2,d7,bj,bk,dn,e8,br,d8,d9,da,de,dp,dq,fn⟩:=Zl μ.out;obtain⟨ay,az,bz,al,ar,av,b4,ba,ce,ci,b1,b2,ca,cj,en,fa,fb,fc,fe,ff⟩:=Zl ξ.out)|((with_reducible refine Qp (f:=25) rfl ?_);refine Q4 (some 11) rfl rfl Try.func25 kr rfl #[.agg #[.int .i64 J,.int .i64 O,.int .i64 X,.int .i64 Y,.int .i64 Z,.int .i64 δ,.int .i64 γ,.int .i64 θ,.int .i64 η,.int .i64 ζ],.agg #[.int .i64 ι,.int .i64 ε,.int .i64 κ,.int .i64 ν,.int .i64 B,.int .i64 τ,.int .i64 χ]] rfl qM ?_;(with_reducible refine(car_Rest.calls k J O X Y Z δ γ θ η ζ ι ε κ ν B τ χ ag a3 _ A3.out).mono ?_);rintro e hh ⟨rfl,hb⟩;refine⟨_,rfl, ?_⟩;replace μ :=sBk μ hb;replace ξ :=sBk ξ hb;replace HB:=sHb hb;(try clear hb);(try clear a6);(try clear hk);(try clear hi);obtain⟨aj,ak,ao,b5,b6,b7,b8,ck,co,e9,am,an,ap,b9,bb,bc,bd,et,eu,ez⟩:=Zl ξ.out))
   go_ret
   exact⟨rfl,HB.out⟩
 ·rw[if_neg c4] at H
  have c4b0:(a3==0)=false:=beq_eq_false_iff_ne.mpr c4
  have c4b1:(a3 != 0)=true:=bne_iff_ne.mpr c4
  obtain rfl:=Option.some.inj H
  go_enter Try.func28,Try.ntmps28
  go_wp2_with (first|((with_reducible refine Qf (N:=2) rfl ?_);refine qE 2 #[.int .i64 J,.int .i64 O,.int .i64 X,.int .i64 Y,.int .i64 Z,.int .i64 δ,.int .i64 γ,.int .i64 θ,.int .i64 η,.int .i64 ζ] 25 ?_;intro be hg dl hbox hb;have μ :=Aside0.mk hbox;have bm:=sGe hg;have cz:=sGe hg;replace HB:=sHb hb;clear hb hbox hg)|((with_reducible refine Qf (N:=3) rfl ?_);refine qE 3 #[.int .i64 ι,.int .i64 ε,.int .i64 κ,.int .i64 ν,.int .i64 B,.int .i64 τ,.int .i64 χ,.int .i64 ψ,.bool ω,.bool a1] 31 ?_;intro d5 hg bs hbox hb;have ξ :=Aside0.mk hbox;have d6:=sGe hg;have dd:=sGe hg;have σ:=sNl μ hg;have a0:=sNg μ hg;replace μ :=sBk μ hb;replace HB:=sHb hb;clear hb hbox hg;have ei:=σ.out;have gf:=a0.out;obtain⟨dj,dk,eo,ja,jb,ju,jv,jw,jx,jy,ep,er,fz,jz,k0,k1,k2,k3,k4,k5⟩:=Zl μ.out;obtain⟨bn,bo,cm,dr,dt,du,dv,dw,dx,dy,bp,bq,cn,dz,e0,e3,e4,e5,e6,e7⟩:=Zl ξ.out)|((with_reducible refine Qp (f:=25) rfl ?_);refine Q4 (some 11) rfl rfl Try.func25 kr rfl #[.agg #[.int .i64 J,.int .i64 O,.int .i64 X,.int .i64 Y,.int .i64 Z,.int .i64 δ,.int .i64 γ,.int .i64 θ,.int .i64 η,.int .i64 ζ],.agg #[.int .i64 ι,.int .i64 ε,.int .i64 κ,.int .i64 ν,.int .i64 B,.int .i64 τ,.int .i64 χ]] rfl qM ?_;(with_reducible refine(car_Rest.calls k J O X Y Z δ γ θ η ζ ι ε κ ν B τ χ ag a3 _ A3.out).mono ?_);rintro e ea ⟨rfl,hb⟩;refine⟨_,rfl, ?_⟩;replace μ :=sBk μ hb;replace ξ :=sBk ξ hb;replace HB:=sHb hb;(try clear hb);(try clear a6);(try clear hk);(try clear hi)))
  go_ret
  exact⟨rfl,HB.out⟩
end Go.Proofs.Ytmfffemidlhcpaa.C
namespace Go.Proofs.Ytmfffemidlhcpaa.GrpPure
open Go.RowKit Go.Proofs.YtmfffemidlhcpaaW.PrintWords Go.Proofs.YtmfffemidlhcpaaW.PrintLast Go.Proofs.YtmfffemidlhcpaaW.PrintMore Go.Proofs.Ytmfffemidlhcpaa.C Go.Proofs.Ytmfffemidlhcpaa.DoorPure
abbrev Xl (F c0 c1 c2 c3 c4:Int):Prop:=
  (c2=0∧c1=0∧c3=0∧c4=0)∨(c2=1∧(c1=1∨c1 = -1)∧(0≤c0+c1∧c0+c1<F)∧(1≤c3∧c3≤60)∧c4=0)∨(c2=2∧c1=0∧(1≤c3∧c3≤60)∧c4=0)∨(c2=3∧c1=0∧c3=0∧c4≠0)
abbrev Vi (F c0 c1 c2 c3 c4 c5 c6:Int):Prop:=((2≤F∧F≤64)∧(0≤c0∧c0<F)∧Xw c4 c5 c6)∧Xl F c0 c1 c2 c3 c4
theorem Kj (n a b:Int):car_within.f n a b=some (decide (a≤n∧n≤b)):=by
  unfold car_within.f
  by_cases h:a≤n
  · rw[if_pos h];simp[h]
  · rw[if_neg h];simp[h]
theorem G1 (F c0 c1 c2 c3 c4 c5 c6:Int) (f:Nat):car_Check.j0 (f+1) F false c0 c1 c2 c3 c4 c5 c6=some 180:=by
  simp[car_Check.j0]
theorem Ms (F c0 c1 c2 c3 c4 c5 c6:Int) (f:Nat) (h:(2≤F∧F≤64)∧(0≤c0∧c0<F)):car_Check.j0 (f+1) F true c0 c1 c2 c3 c4 c5 c6=some (if Xl F c0 c1 c2 c3 c4 then 0 else 180):=by
  obtain⟨h1,O⟩:=h
  have e1:wrap64 (c0+1)=c0+1:=w64 (by omega)
  have B:wrap64 (c0 + -1)=c0 + -1:=w64 (by omega)
  have Z:wrap64 (F-1)=F-1:=w64 (by omega)
  simp only[car_Check.j0,Kj,Option.bind_some,if_true]
  by_cases J:c2=0
  · subst J
    rw[if_pos rfl]
    by_cases b1:c1=0 <;> by_cases b2:c3=0 <;> by_cases b3:c4=0 <;> simp[Xl,b1,b2,b3]
  · rw[if_neg J]
    by_cases Y:c2=1
    · subst Y
      rw[if_pos rfl]
      by_cases b1:c1=1
      · subst b1
        rw[if_pos rfl,e1,Z]
        by_cases b2:0≤c0+1∧c0+1≤F-1
        · rw[decide_eq_true b2,if_pos rfl]
          by_cases b3:1≤c3∧c3≤60
          · rw[decide_eq_true b3,if_pos rfl]
            by_cases X:c4=0
            · rw[if_pos X,if_pos (Or.inr (Or.inl ⟨rfl,Or.inl rfl,by omega,b3,X⟩))]
            · rw[if_neg X,if_neg (by unfold Xl;omega)]
          · rw[decide_eq_false b3,if_neg (by decide),if_neg (by unfold Xl;omega)]
        · rw[decide_eq_false b2,if_neg (by decide),if_neg (by unfold Xl;omega)]
      · rw[if_neg b1]
        by_cases b0:c1 = -1
        · subst b0
          rw[if_pos rfl,B,Z]
          by_cases b2:0≤c0 + -1∧c0 + -1≤F-1
          · rw[decide_eq_true b2,if_pos rfl]
            by_cases b3:1≤c3∧c3≤60
            · rw[decide_eq_true b3,if_pos rfl]
              by_cases X:c4=0
              · rw[if_pos X,if_pos (Or.inr (Or.inl ⟨rfl,Or.inr rfl,by omega,b3,X⟩))]
              · rw[if_neg X,if_neg (by unfold Xl;omega)]
            · rw[decide_eq_false b3,if_neg (by decide),if_neg (by unfold Xl;omega)]
          · rw[decide_eq_false b2,if_neg (by decide),if_neg (by unfold Xl;omega)]
        · rw[if_neg b0,if_neg (by unfold Xl;omega)]
    · rw[if_neg Y]
      by_cases a2:c2=2
      · subst a2
        rw[if_pos rfl]
        by_cases b1:c1=0
        · rw[if_pos b1]
          by_cases b3:1≤c3∧c3≤60
          · rw[decide_eq_true b3,if_pos rfl]
            by_cases X:c4=0
            · rw[if_pos X,if_pos (Or.inr (Or.inr (Or.inl ⟨rfl,b1,b3,X⟩)))]
            · rw[if_neg X,if_neg (by unfold Xl;omega)]
          · rw[decide_eq_false b3,if_neg (by decide),if_neg (by unfold Xl;omega)]
        · rw[if_neg b1,if_neg (by unfold Xl;omega)]
      · rw[if_neg a2]
        by_cases a3:c2=3
        · subst a3
          rw[if_pos rfl]
          by_cases b1:c1=0 <;> by_cases b2:c3=0 <;> by_cases b3:c4=0 <;> simp[Xl,b1,b2,b3]
        · rw[if_neg a3,if_neg (by unfold Xl;omega)]
theorem We (F c0 c1 c2 c3 c4 c5 c6:Int) (f:Nat) (hf:2<f):car_Check.f f F c0 c1 c2 c3 c4 c5 c6=some (if Vi F c0 c1 c2 c3 c4 c5 c6 then 0 else 180):=by
  obtain⟨f,rfl⟩:∃ m,f=m+1:=⟨f-1,by omega⟩
  unfold car_Check.f
  rw[Kj,Kj,Yu]
  simp only[Option.bind_some,G1]
  by_cases h1:2≤F∧F≤64
  · rw[decide_eq_true h1,if_pos rfl,w64 (n:=F-1) (by omega)]
    by_cases O:0≤c0∧c0≤F-1
    · rw[decide_eq_true O,if_pos rfl]
      by_cases Y:Xw c4 c5 c6
      · rw[if_pos Y]
        show car_Check.j0 (f+1) F true c0 c1 c2 c3 c4 c5 c6=_
        rw[Ms _ _ _ _ _ _ _ _ _ ⟨h1,by omega⟩]
        by_cases h4:Xl F c0 c1 c2 c3 c4
        · rw[if_pos h4,if_pos ⟨⟨h1,by omega,Y⟩,h4⟩]
        · rw[if_neg h4,if_neg (fun h=>h4 h.2)]
      · rw[if_neg Y]
        show car_Check.j0 (f+1) F false c0 c1 c2 c3 c4 c5 c6=_
        rw[G1,if_neg (fun h=>Y h.1.2.2)]
    · rw[decide_eq_false O,if_neg (by decide),if_neg (fun h=>O ⟨h.1.2.1.1,by have:=h.1.2.1.2;omega⟩)]
  · rw[decide_eq_false h1,if_neg (by decide),if_neg (fun h=>h1 h.1.1)]
theorem Mr (g0 g1 g2 g3 g4 g5 g6 g7 g8 g9 c0 c1 c2 c3 c4 c5 c6:Int) (f:Nat) (hf:10<f):car_check.f f g0 g1 g2 g3 g4 g5 g6 g7 g8 g9 c0 c1 c2 c3 c4 c5 c6=some (if X9 g0 g1 g2 g3 g4 g5 g6 g7 g8 g9∧Vi g0 c0 c1 c2 c3 c4 c5 c6 then 0 else 180):=by
  unfold car_check.f
  rw[Lc _ _ _ _ _ _ _ _ _ _ _ _ _ f hf,We _ _ _ _ _ _ _ _ f (by omega)]
  simp only[Option.bind_some]
  by_cases h1:X9 g0 g1 g2 g3 g4 g5 g6 g7 g8 g9
  · have hz:X9 g0 g1 g2 g3 g4 g5 g6 g7 g8 g9∧Xw 0 0 0:=⟨h1,by unfold Xw;omega⟩
    rw[if_pos hz]
    simp only[if_true]
    by_cases O:Vi g0 c0 c1 c2 c3 c4 c5 c6
    · rw[if_pos O,if_pos ⟨h1,O⟩]
    · rw[if_neg O,if_neg (fun h=>O h.2)]
  · have hz:¬ (X9 g0 g1 g2 g3 g4 g5 g6 g7 g8 g9∧Xw 0 0 0):=fun h=>h1 h.1
    have hy:¬ (X9 g0 g1 g2 g3 g4 g5 g6 g7 g8 g9∧Vi g0 c0 c1 c2 c3 c4 c5 c6):=fun h=>h1 h.1
    rw[if_neg hz,if_neg hy]
    simp only
    rw[if_neg (by decide)]
def Ji (g3 g6 g8 g9 c2 c3 c4 c5 c6:Int):Int:=c3+(if c2=2 then Gn g3 g6 g8 g9 1 g3 0 else Gn g3 g6 g8 g9 c4 c5 c6)
theorem U1 (g0 g1 g2 g3 g4 g5 g6 g7 g8 g9 J d1 X:Int) (hg:X9 g0 g1 g2 g3 g4 g5 g6 g7 g8 g9) (hd:Xw J d1 X):0≤Gn g3 g6 g8 g9 J d1 X∧Gn g3 g6 g8 g9 J d1 X≤26000:=by
  obtain⟨-,Z,m3⟩:=U0 _ _ _ _ _ _ _ _ _ _ _ _ _ hg hd
  have Y:1≤g3∧g3≤60:=hg.1.1.2.2.1
  have a2:1≤g6∧g6≤60:=hg.1.1.2.2.2.2.2
  have a3:1≤g8∧g8≤300:=hg.2.2.1
  unfold Gn
  generalize(if X<g9 then (g9-X) * (g3+g8+g6) else 0)=p at Z m3 ⊢
  split
  · omega
  · split
    · omega
    · split <;> omega
theorem Wg (g0 g1 g2 g3 g4 g5 g6 g7 g8 g9 c0 c1 c2 c3 c4 c5 c6:Int) (hg:X9 g0 g1 g2 g3 g4 g5 g6 g7 g8 g9) (hc:Vi g0 c0 c1 c2 c3 c4 c5 c6):0≤Ji g3 g6 g8 g9 c2 c3 c4 c5 c6∧Ji g3 g6 g8 g9 c2 c3 c4 c5 c6≤26060:=by
  have Y:1≤g3∧g3≤60:=hg.1.1.2.2.1
  have b1:=U1 _ _ _ _ _ _ _ _ _ _ 1 g3 0 hg (by unfold Xw;omega)
  have b2:=U1 _ _ _ _ _ _ _ _ _ _ _ _ _ hg hc.1.2.2
  have b3:0≤c3∧c3≤60:=by have:=hc.2;unfold Xl at this;omega
  unfold Ji
  split <;> omega
theorem G0 (g0 g1 g2 g3 g4 g5 g6 g7 g8 g9 c0 c1 c2 c3 c4 c5 c6:Int) (f:Nat) (hf:10<f):car_Rest.f f g0 g1 g2 g3 g4 g5 g6 g7 g8 g9 c0 c1 c2 c3 c4 c5 c6=some (if X9 g0 g1 g2 g3 g4 g5 g6 g7 g8 g9∧Vi g0 c0 c1 c2 c3 c4 c5 c6 then (Ji g3 g6 g8 g9 c2 c3 c4 c5 c6,0) else (0,180)):=by
  unfold car_Rest.f
  rw[Mr _ _ _ _ _ _ _ _ _ _ _ _ _ _ _ _ _ f hf,Dy _ _ _ _ _ _ _ _ _ _ f hf]
  simp only[Option.bind_some,Lc _ _ _ _ _ _ _ _ _ _ _ _ _ f hf]
  by_cases h:X9 g0 g1 g2 g3 g4 g5 g6 g7 g8 g9∧Vi g0 c0 c1 c2 c3 c4 c5 c6
  · rw[if_pos h,if_pos rfl,if_pos h]
    have hb:=Wg _ _ _ _ _ _ _ _ _ _ _ _ _ _ _ _ _ h.1 h.2
    have Y:1≤g3∧g3≤60:=h.1.1.1.2.2.1
    unfold Ji at hb ⊢
    by_cases e:c2=2
    · have J:c4=0:=by have:=h.2.2;unfold Xl at this;omega
      have hd:Xw 1 g3 0:=by unfold Xw;omega
      have ht:Kf g1 g2 g3 g4 g5 g6 g7∧Xw c4 c5 c6:=⟨h.1.1,h.2.1.2.2⟩
      have hy:X9 g0 g1 g2 g3 g4 g5 g6 g7 g8 g9∧Xw 1 g3 0:=⟨h.1,hd⟩
      rw[if_pos e] at hb
      simp only[if_pos e,if_pos ht,if_pos J,if_pos hy]
      rw[w64 (by omega)]
    · have hy:X9 g0 g1 g2 g3 g4 g5 g6 g7 g8 g9∧Xw c4 c5 c6:=⟨h.1,h.2.1.2.2⟩
      rw[if_neg e] at hb
      simp only[if_neg e,if_pos hy]
      rw[w64 (by omega)]
  · rw[if_neg h,if_neg (by decide),if_neg h]
abbrev U9 (g0 g1 g2 g3 g4 g5 g6 g7 g8 g9 c0 c1 c2 c3 c4 c5 c6 O:Int):Prop:=(X9 g0 g1 g2 g3 g4 g5 g6 g7 g8 g9∧Vi g0 c0 c1 c2 c3 c4 c5 c6) ∧ -1≤O∧O≤1
theorem Er (g0 g1 g2 g3 g4 g5 g6 g7 g8 g9 c0 c1 c2 c3 c4 c5 c6 O:Int) (Y l9:Bool) (f:Nat) (hf:10<f):group_lift.f f g0 g1 g2 g3 g4 g5 g6 g7 g8 g9 c0 c1 c2 c3 c4 c5 c6 O Y l9=some (decide (U9 g0 g1 g2 g3 g4 g5 g6 g7 g8 g9 c0 c1 c2 c3 c4 c5 c6 O)):=by
  unfold group_lift.f
  rw[G0 _ _ _ _ _ _ _ _ _ _ _ _ _ _ _ _ _ f hf]
  simp only[Option.bind_some]
  by_cases h:X9 g0 g1 g2 g3 g4 g5 g6 g7 g8 g9∧Vi g0 c0 c1 c2 c3 c4 c5 c6
  · rw[if_pos h]
    simp only[if_true]
    by_cases e: -1≤O
    · rw[if_pos e];congr 1;rw[decide_eq_decide];exact⟨fun x=>⟨h,e,x⟩,fun x=>x.2.2⟩
    · rw[if_neg e,decide_eq_false (fun x=>e x.2.1)]
  · rw[if_neg h,if_neg (by decide),decide_eq_false (fun x=>h x.1)]
end Go.Proofs.Ytmfffemidlhcpaa.GrpPure
namespace Go.Proofs.Ytmfffemidlhcpaa.C
open Go.RowKit Go.Proofs.YtmfffemidlhcpaaW.PrintWords Go.Proofs.YtmfffemidlhcpaaW.PrintLast Go.Proofs.YtmfffemidlhcpaaW.PrintMore
attribute [local go_sem] Zv Zt Z6 Z5 Zk Zj Zu Zs
set_option linter.unusedVariables false
set_option linter.unusedSimpArgs false
def group_cost.f (k:Nat) (J:Int) (O:Int) (X:Int) (Y:Int) (Z:Int) (δ :Int) (γ:Int) (θ :Int) (η :Int) (ζ :Int) (ι :Int) (ε :Int) (κ :Int) (ν :Int) (B:Int) (τ :Int) (χ :Int) (ψ :Int) (ω :Bool) (a1:Bool) (φ :List Int) (a0:List Int) (a7:List Int) (a8:Int) (a9:Int) (aa:Int):Option (Int):=(car_Rest.f k J O X Y Z δ γ θ η ζ ι ε κ ν B τ χ).bind fun ab=>((group_way.f k J ι ε κ ν B τ χ ψ ω a1 a8 a9 aa).bind fun a5=>(some (wrap64 ((wrap64 (ab.1+(wrap64 (O * a5))))+(wrap64 ((wrap64 ((wrap64 ((wrap64 (X+Y)) + η))+γ)) * (wrap64 ((wrap64 ((φ.length:Int)+(a0.length:Int)))+(a7.length:Int)))))))))
theorem group_cost.mono:∀ J Y a2 a3 O a5 X a7 a8 a9 Z γ δ ζ ε η θ B ι κ μ ν ξ ρ σ τ k,LeO (group_cost.f k J Y a2 a3 O a5 X a7 a8 a9 Z γ δ ζ ε η θ B ι κ μ ν ξ ρ σ τ) (group_cost.f (k+1) J Y a2 a3 O a5 X a7 a8 a9 Z γ δ ζ ε η θ B ι κ μ ν ξ ρ σ τ):=by
 intro J Y a2 a3 O a5 X a7 a8 a9 Z γ δ ζ ε η θ B ι κ μ ν ξ ρ σ τ k
 unfold group_cost.f
 repeat' first
   |(with_reducible exact car_Rest.mono _ _ _ _ _ _ _ _ _ _ _ _ _ _ _ _ _ _)
   |(with_reducible exact group_way.mono _ _ _ _ _ _ _ _ _ _ _ _ _ _ _)
   |(with_reducible exact LeO.refl _)
   |(with_reducible exact LeO.none _)
   |(with_reducible refine LeO.ite ?_ ?_)
   |(with_reducible refine LeO.bind ?_ (fun _=>?_))
   |exact car_Rest.mono _ _ _ _ _ _ _ _ _ _ _ _ _ _ _ _ _ _
   |exact group_way.mono _ _ _ _ _ _ _ _ _ _ _ _ _ _ _
   |exact LeO.none _
   |refine LeO.ite ?_ ?_
   |refine LeO.bind ?_ (fun _=>?_)
def group_cost.T3:Bool×List (List Nat×List Nat):=(true,[([],[]),([],[]),([1],[1]),([2],[2]),([],[]),([4],[4]),([],[]),([],[]),([5,6,7],[5,6,7]),([3,8],[3,8]),([0,9],[0,9]),([],[]),([],[]),([12],[12]),([13],[13]),([],[]),([15],[15]),([16],[16]),([14,17],[14,17]),([],[]),([19],[19]),([20],[20]),([18,21],[18,21]),([11,22],[11,22]),([10,23],[10,23]),([24,8,0,1,2,3,4,5,6,7,8,9,10,11,12,13,14,15,16,17,18,19,20,21,22,23,24],[24])])
def group_cost.B3:List Nat:=[0,0,2,6,0,16,0,0,240,510,1023,0,0,4096,12288,0,32768,98304,258048,0,524288,1572864,4190208,8386560,16777215,33554431]
theorem group_cost.Ec:rtab .any (opsOf Try.f31 3)=group_cost.T3:=by kernel_rfl
theorem group_cost.Ll:Zq group_cost.T3.2 group_cost.B3=true:=by kernel_rfl
set_option maxHeartbeats 8000000 in
set_option maxRecDepth 100000 in
theorem group_cost.calls (k:Nat) (J:Int) (O:Int) (X:Int) (Y:Int) (Z:Int) (δ :Int) (γ:Int) (θ :Int) (η :Int) (ζ :Int) (ι :Int) (ε :Int) (κ :Int) (ν :Int) (B:Int) (τ :Int) (χ :Int) (ψ :Int) (ω :Bool) (a1:Bool) (ac:Option Addr) (ae:Nat) (φ :List Int) (af:Option Addr) (ag:Nat) (a0:List Int) (ah:Option Addr) (ai:Nat) (a7:List Int) (a8:Int) (a9:Int) (aa:Int) (r:Int) (w:World) (bg:Kd.C (Kd.int .i64) w ac φ.length φ) (bi: φ.length≤ae) (bj:Kd.C (Kd.int .i64) w af a0.length a0) (bk:a0.length≤ag) (ct:Kd.C (Kd.int .i64) w ah a7.length a7) (cu:a7.length≤ai) (h:group_cost.f k J O X Y Z δ γ θ η ζ ι ε κ ν B τ χ ψ ω a1 φ a0 a7 a8 a9 aa=some r):
  Calls Try.prog 31 #[.agg #[.int .i64 J,.int .i64 O,.int .i64 X,.int .i64 Y,.int .i64 Z,.int .i64 δ,.int .i64 γ,.int .i64 θ,.int .i64 η,.int .i64 ζ],.agg #[.int .i64 ι,.int .i64 ε,.int .i64 κ,.int .i64 ν,.int .i64 B,.int .i64 τ,.int .i64 χ,.int .i64 ψ,.bool ω,.bool a1],.agg #[.slice ac φ.length ae,.slice af a0.length ag,.slice ah a7.length ai],.agg #[.int .i64 a8,.int .i64 a9,.int .i64 aa]] w fun e w'=>e = .returned (.int .i64 r)∧Below w.heap.size w w':=by
 have ew:=Try.underlying25
 have fo:=Try.underlying31
 have fl:=Try.underlying34
 have dm:=Try.underlying36
 have gx:=Try.underlying29
 have cq:=Aside0.mk bg
 have cr:=Aside0.mk bi
 clear bg bi
 have cx:=Aside0.mk bj
 have d8:=Aside0.mk bk
 clear bj bk
 have cv:=Aside0.mk ct
 have d4:=Aside0.mk cu
 clear ct cu
 have HB:=Aside0.mk (Below.refl w.heap.size w)
 have H:((car_Rest.f k J O X Y Z δ γ θ η ζ ι ε κ ν B τ χ).bind fun ab=>((group_way.f k J ι ε κ ν B τ χ ψ ω a1 a8 a9 aa).bind fun a5=>(some (wrap64 ((wrap64 (ab.1+(wrap64 (O * a5))))+(wrap64 ((wrap64 ((wrap64 ((wrap64 (X+Y)) + η))+γ)) * (wrap64 ((wrap64 ((φ.length:Int)+(a0.length:Int)))+(a7.length:Int))))))))))=some r:=h
 clear h
 replace H:=Option.bind_eq_some_iff.mp H
 obtain⟨⟨bq,bw⟩,bv,H⟩:=H
 replace H:((group_way.f k J ι ε κ ν B τ χ ψ ω a1 a8 a9 aa).bind fun a5=>(some (wrap64 ((wrap64 (bq+(wrap64 (O * a5))))+(wrap64 ((wrap64 ((wrap64 ((wrap64 (X+Y)) + η))+γ)) * (wrap64 ((wrap64 ((φ.length:Int)+(a0.length:Int)))+(a7.length:Int)))))))))=some r:=H
 have A5:=Aside0.mk bv
 clear bv
 replace H:=Option.bind_eq_some_iff.mp H
 obtain⟨a5,b0,H⟩:=H
 replace H:(some (wrap64 ((wrap64 (bq+(wrap64 (O * a5))))+(wrap64 ((wrap64 ((wrap64 ((wrap64 (X+Y)) + η))+γ)) * (wrap64 ((wrap64 ((φ.length:Int)+(a0.length:Int)))+(a7.length:Int))))))))=some r:=H
 have A6:=Aside0.mk b0
 clear b0
 obtain rfl:=Option.some.inj H
 go_enter Try.func31,Try.ntmps31
 try go_wp2_with (first|((with_reducible refine Qf (N:=4) rfl ?_);refine qE 4 #[.int .i64 J,.int .i64 O,.int .i64 X,.int .i64 Y,.int .i64 Z,.int .i64 δ,.int .i64 γ,.int .i64 θ,.int .i64 η,.int .i64 ζ] 25 ?_;intro a3 hg w7 hbox hb;have μ :=Aside0.mk hbox;have cb:=sGe hg;have cd:=sGe hg;replace HB:=sHb hb;clear hb hbox hg)|((with_reducible refine Qf (N:=5) rfl ?_);refine qE 5 #[.int .i64 ι,.int .i64 ε,.int .i64 κ,.int .i64 ν,.int .i64 B,.int .i64 τ,.int .i64 χ,.int .i64 ψ,.bool ω,.bool a1] 31 ?_;intro a4 hg w8 hbox hb;have ξ :=Aside0.mk hbox;have cf:=sGe hg;have cg:=sGe hg;have ax:=sNl μ hg;have b3:=sNg μ hg;replace μ :=sBk μ hb;replace HB:=sHb hb;clear hb hbox hg)|((with_reducible refine Qf (N:=6) rfl ?_);refine qE 6 #[.slice ac φ.length ae,.slice af a0.length ag,.slice ah a7.length ai] 34 ?_;intro au hg w9 hbox hb;have ρ:=Aside0.mk hbox;have ch:=sGe hg;have cm:=sGe hg;have be:=sNl μ hg;have bf:=sNg μ hg;have bh:=sNl ξ hg;have bl:=sNg ξ hg;replace μ :=sBk μ hb;replace ξ :=sBk ξ hb;replace HB:=sHb hb;clear hb hbox hg)|((with_reducible refine Qf (N:=7) rfl ?_);refine qE 7 #[.int .i64 a8,.int .i64 a9,.int .i64 aa] 36 ?_;intro aw hg ni hbox hb;have σ:=Aside0.mk hbox;have cn:=sGe hg;have cp:=sGe hg;have bm:=sNl μ hg;have bn:=sNg μ hg;have bo:=sNl ξ hg;have bp:=sNg ξ hg;have br:=sNl ρ hg;have bu:=sNg ρ hg;replace μ :=sBk μ hb;replace ξ :=sBk ξ hb;replace ρ:=sBk ρ hb;replace HB:=sHb hb;clear hb hbox hg;have ft:=ax.out;have gh:=b3.out;have gl:=be.out;have gm:=bf.out;have js:=bm.out;have jt:=bn.out;obtain⟨cz,d5,e5,e6,e7,eb,ed,ev,ij,ik,d6,dd,ee,ef,eg,eh,ei,f7,il,im⟩:=Zl μ.out;have gn:=bh.out;have gp:=bl.out;have de:=bo.out;have fr:=bp.out;obtain⟨ay,az,bz,al,ar,av,b4,ba,ce,ci,b1,b2,ca,cj,en,fa,fb,fc,fe,ff⟩:=Zl ξ.out)|((with_reducible refine Qp (f:=25) rfl ?_);refine Q4 (some 16) rfl rfl Try.func25 kr rfl #[.agg #[.int .i64 J,.int .i64 O,.int .i64 X,.int .i64 Y,.int .i64 Z,.int .i64 δ,.int .i64 γ,.int .i64 θ,.int .i64 η,.int .i64 ζ],.agg #[.int .i64 ι,.int .i64 ε,.int .i64 κ,.int .i64 ν,.int .i64 B,.int .i64 τ,.int .i64 χ]] rfl qM ?_;(with_reducible refine(car_Rest.calls k J O X Y Z δ γ θ η ζ ι ε κ ν B τ χ bq bw _ A5.out).mono ?_);rintro e hh ⟨rfl,hb⟩;refine⟨_,rfl, ?_⟩;replace μ :=sBk μ hb;replace ξ :=sBk ξ hb;replace ρ:=sBk ρ hb;replace σ:=sBk σ hb;replace HB:=sHb hb;(try clear hb);(try clear a6);(try clear hk);(try clear hi);obtain⟨aj,ak,ao,b5,b6,b7,b8,ck,co,e9,am,an,ap,b9,bb,bc,bd,et,eu,ez⟩:=Zl μ.out))
 replace μ :=Aside0.mk (Qe μ.out)
 replace ξ :=Aside0.mk (Qe ξ.out)
 replace ρ:=Aside0.mk (Qe ρ.out)
 replace σ:=Aside0.mk (Qe σ.out)
 replace HB:=Aside0.mk (Qg HB.out)
 refine Zh (n:=26) (S:=fun w'=>w'.cell? ⟨a3,0,none⟩=some (.int .i64 J)∧w'.cell? ⟨a3,1,none⟩=some (.int .i64 O)∧w'.cell? ⟨a3,2,none⟩=some (.int .i64 X)∧w'.cell? ⟨a3,3,none⟩=some (.int .i64 Y)∧w'.cell? ⟨a3,4,none⟩=some (.int .i64 Z)∧w'.cell? ⟨a3,5,none⟩=some (.int .i64 δ)∧w'.cell? ⟨a3,6,none⟩=some (.int .i64 γ)∧w'.cell? ⟨a3,7,none⟩=some (.int .i64 θ)∧w'.cell? ⟨a3,8,none⟩=some (.int .i64 η)∧w'.cell? ⟨a3,9,none⟩=some (.int .i64 ζ)∧w'.cell? ⟨a4,0,none⟩=some (.int .i64 ι)∧w'.cell? ⟨a4,1,none⟩=some (.int .i64 ε)∧w'.cell? ⟨a4,2,none⟩=some (.int .i64 κ)∧w'.cell? ⟨a4,3,none⟩=some (.int .i64 ν)∧w'.cell? ⟨a4,4,none⟩=some (.int .i64 B)∧w'.cell? ⟨a4,5,none⟩=some (.int .i64 τ)∧w'.cell? ⟨a4,6,none⟩=some (.int .i64 χ)∧w'.cell? ⟨a4,7,none⟩=some (.int .i64 ψ)∧w'.cell? ⟨a4,8,none⟩=some (.bool ω)∧w'.cell? ⟨a4,9,none⟩=some (.bool a1)∧w'.cell? ⟨aw,0,none⟩=some (.int .i64 a8)∧w'.cell? ⟨aw,1,none⟩=some (.int .i64 a9)∧w'.cell? ⟨aw,2,none⟩=some (.int .i64 aa)∧w'.cell? ⟨au,0,none⟩=some (.slice ac φ.length ae)∧w'.cell? ⟨au,1,none⟩=some (.slice af a0.length ag)∧w'.cell? ⟨au,2,none⟩=some (.slice ah a7.length ai)) (ds:=[]) #[false,false,false,false,false,false,false,false,false,false,false,false,false,false,false,false,false,false,false,false,false,false,false,false,false,false] kr rfl rfl ⟨(Qa μ.out 0).trans rfl,(Qa μ.out 1).trans rfl,(Qa μ.out 2).trans rfl,(Qa μ.out 3).trans rfl,(Qa μ.out 4).trans rfl,(Qa μ.out 5).trans rfl,(Qa μ.out 6).trans rfl,(Qa μ.out 7).trans rfl,(Qa μ.out 8).trans rfl,(Qa μ.out 9).trans rfl,(Qa ξ.out 0).trans rfl,(Qa ξ.out 1).trans rfl,(Qa ξ.out 2).trans rfl,(Qa ξ.out 3).trans rfl,(Qa ξ.out 4).trans rfl,(Qa ξ.out 5).trans rfl,(Qa ξ.out 6).trans rfl,(Qa ξ.out 7).trans rfl,(Qa ξ.out 8).trans rfl,(Qa ξ.out 9).trans rfl,(Qa σ.out 0).trans rfl,(Qa σ.out 1).trans rfl,(Qa σ.out 2).trans rfl,(Qa ρ.out 0).trans rfl,(Qa ρ.out 1).trans rfl,(Qa ρ.out 2).trans rfl⟩ (fun hHeld=>?_);refine Q8 group_cost.Ec group_cost.Ll (fun HT_ HW_=>?_)
 generalize hh.drew=dl at μ ξ ρ σ HB hHeld ⊢
 refine qP 0 (some 33) (bN 26 1) HT_ ?_
 refine qP 1 (some 34) (bN 26 3) HT_ ?_
 refine qP 2 (some 35) (bN 26 7) HT_ ?_
 refine qP 4 (some 37) (bN 26 23) HT_ ?_
 refine qP 11 (some 44) (bN 26 2071) HT_ ?_
 refine qP 12 (some 45) (bN 26 6167) HT_ ?_
 refine qP 15 (some 48) (bN 26 38935) HT_ ?_
 refine qP 19 (some 52) (bN 26 563223) HT_ ?_
 refine qT 3 (some 36) (bN 26 563231) HT_ HW_ hHeld ?_
 refine qT 5 (some 38) (bN 26 563263) HT_ HW_ hHeld ?_
 refine qT 6 (some 39) (bN 26 563327) HT_ HW_ hHeld ?_
 refine qT 7 (some 40) (bN 26 563455) HT_ HW_ hHeld ?_
 refine qT 13 (some 46) (bN 26 571647) HT_ HW_ hHeld ?_
 refine qP 14 (some 47) (bN 26 588031) HT_ ?_
 refine qT 16 (some 49) (bN 26 653567) HT_ HW_ hHeld ?_
 refine qP 17 (some 50) (bN 26 784639) HT_ ?_
 refine qP 18 (some 51) (bN 26 1046783) HT_ ?_
 refine qT 20 (some 53) (bN 26 2095359) HT_ HW_ hHeld ?_
 refine qP 21 (some 54) (bN 26 4192511) HT_ ?_
 refine qP 22 (some 55) (bN 26 8386815) HT_ ?_
 refine qP 23 (some 56) (bN 26 16775423) HT_ ?_
 refine qK 8 (some 41) (bN 26 16775679) HT_ fun K hK=>?_
 refine Q9 Try.func52 kr rfl #[.int .i64 J,.agg #[.int .i64 ι,.int .i64 ε,.int .i64 κ,.int .i64 ν,.int .i64 B,.int .i64 τ,.int .i64 χ,.int .i64 ψ,.bool ω,.bool a1],.agg #[.int .i64 a8,.int .i64 a9,.int .i64 aa]] (by rfl) rfl rfl qM ?_
 with_reducible refine(group_way.calls k J ι ε κ ν B τ χ ψ ω a1 a8 a9 aa a5 _ A6.out).mono ?_
 rintro e bs ⟨rfl,hb⟩
 refine⟨_,rfl, ?_⟩
 replace μ :=sBk μ hb
 replace ξ :=sBk ξ hb
 replace ρ:=sBk ρ hb
 replace σ:=sBk σ hb
 replace HB:=sHb hb
 (try clear hb)
 (try clear a6)
 (try clear hk)
 (try clear hi)
 refine hK.out _ _ ⟨qc μ,qc μ,qc μ,qc μ,qc μ,qc μ,qc μ,qc μ,qc μ,qc μ,qc ξ,qc ξ,qc ξ,qc ξ,qc ξ,qc ξ,qc ξ,qc ξ,qc ξ,qc ξ,qc σ,qc σ,qc σ,qc ρ,qc ρ,qc ρ⟩ (fun hHeld=>?_)
 clear hK K
 refine qN (some 41) ?_
 refine qP 9 (some 42) (bN 26 16776191) HT_ ?_
 refine qP 10 (some 43) (bN 26 16777215) HT_ ?_
 refine qP 24 (some 57) (bN 26 33554431) HT_ ?_
 refine qP 25 (some 8) (bN 26 67108863) HT_ ?_
 refine Z2 (Zf HT_.out kr) ?_
 try go_wp2
 go_ret
 exact⟨rfl,HB.out⟩
end Go.Proofs.Ytmfffemidlhcpaa.C
namespace Go.Proofs.Ytmfffemidlhcpaa.GrpPure
open Go.RowKit Go.Proofs.YtmfffemidlhcpaaW.PrintWords Go.Proofs.YtmfffemidlhcpaaW.PrintLast Go.Proofs.YtmfffemidlhcpaaW.PrintMore Go.Proofs.Ytmfffemidlhcpaa.C Go.Proofs.Ytmfffemidlhcpaa.DoorPure
def Y1 (a b:Int):Int:=if a<b then b-a else a-b
theorem Jo {a b:Int} (ha:0≤a∧a≤64) (hb:0≤b∧b≤64):group_dist.f a b=some (Y1 a b):=by
  unfold group_dist.f Y1
  rw[w64 (n:=a-b) (by omega),w64 (n:=b-a) (by omega)]
  unfold mx
  congr 1
  split <;> split <;> omega
def Dm (F p d B J:Int):Int:=
  if d=0 then Y1 p B else if d=1 then (if d=J then (if p≤B then Y1 p B else Y1 p (F-1)+Y1 (F-1) 0+Y1 0 B) else Y1 p (F-1)+Y1 (F-1) B)
  else (if d=J then (if B≤p then Y1 p B else Y1 p 0+Y1 0 (F-1)+Y1 (F-1) B) else Y1 p 0+Y1 0 B)
theorem Jn {F a b:Int} (ha:0≤a∧a<F) (hb:0≤b∧b<F):0≤Y1 a b∧Y1 a b≤F-1:=by
  unfold Y1;split <;> omega
theorem Dl {F c0 c1 O B:Int} (J c2 c3 c4 c5 c6 Z:Int) (Y l9:Bool) (f:Nat) (hf:2<f) (hF:2≤F∧F≤64) (hc:0≤c0∧c0<F) (hp:0≤c0+c1∧c0+c1<F) (hx:0≤B∧B<F) (hl: -1≤O∧O≤1):
    group_way.f f F c0 c1 c2 c3 c4 c5 c6 O Y l9 B J Z=some (Dm F (c0+c1) O B J):=by
  obtain⟨f,rfl⟩:∃ m,f=m+2:=⟨f-2,by omega⟩
  unfold group_way.f
  rw[w64 (n:=c0+c1) (by omega),w64 (n:=F-1) (by omega)]
  simp only[group_way.j0]
  rw[w64 (n:=B - (c0+c1)) (by omega)]
  have hp':0≤c0+c1∧c0+c1≤64:=by omega
  have hx':0≤B∧B≤64:=by omega
  have hF':0≤F-1∧F-1≤64:=by omega
  have X:(0:Int)≤0∧(0:Int)≤64:=by omega
  have q1:=Jn hp hx
  have q2:=Jn hp (b:=F-1) (by omega)
  have q3:=Jn hp (b:=0) (by omega)
  have q4:=Jn (F:=F) (a:=F-1) (b:=0) (by omega) (by omega)
  have q5:=Jn (F:=F) (a:=0) (b:=F-1) (by omega) (by omega)
  have q6:=Jn (F:=F) (a:=F-1) (b:=B) (by omega) hx
  have q7:=Jn (F:=F) (a:=0) (b:=B) (by omega) hx
  generalize hP:c0+c1=p at *
  have hd:O=0∨O=1∨O = -1:=by omega
  simp only[group_way.j1,Jo hp' hx',Jo hp' hF',Jo hp' X,Jo hF' X,Jo X hF',Jo hF' hx',Jo X hx',Option.bind_some]
  unfold Dm
  rcases hd with rfl|rfl|rfl
  · simp
  · have z1:¬ (1:Int)=0:=by decide
    have z2:(1:Int)>0:=by decide
    have z3:(1:Int)=1:=rfl
    simp only[if_pos z2,if_neg z1,if_true]
    by_cases e:(1:Int)=J
    · simp only[if_pos e,Int.mul_one]
      rw[w64 (n:=B-p) (by omega)]
      by_cases h:p≤B
      · rw[if_pos h,decide_eq_true (by omega),if_pos rfl]
      · rw[if_neg h,decide_eq_false (by omega),if_neg (by decide),w64 (n:=Y1 p (F-1)+Y1 (F-1) 0) (by omega),w64 (by omega)]
    · simp only[if_neg e]
      rw[if_neg (by decide),w64 (by omega)]
  · have z1:¬ (-1:Int)=0:=by decide
    have z2:¬ (-1:Int)>0:=by decide
    have z3:¬ (-1:Int)=1:=by decide
    simp only[if_neg z2,if_neg z1,if_neg z3]
    by_cases e:(-1:Int)=J
    · simp only[if_pos e]
      rw[show(B-p) * (-1)=p-B by omega,w64 (n:=p-B) (by omega)]
      by_cases h:B≤p
      · rw[if_pos h,decide_eq_true (by omega),if_pos rfl]
      · rw[if_neg h,decide_eq_false (by omega),if_neg (by decide),w64 (n:=Y1 p 0+Y1 0 (F-1)) (by omega),w64 (by omega)]
    · simp only[if_neg e]
      rw[if_neg (by decide),w64 (by omega)]
def Dh (g0 g1 g2 g3 g6 g8 g9 c0 c1 c2 c3 c4 c5 c6 O n B J:Int):Int:=
  wrap64 (wrap64 (Ji g3 g6 g8 g9 c2 c3 c4 c5 c6+wrap64 (g1 * Dm g0 (c0+c1) O B J))+wrap64 (wrap64 (wrap64 (wrap64 (g2+g3)+g8)+g6) * n))
theorem at_in {F c0 c1 c2 c3 c4 c5 c6:Int} (h:Vi F c0 c1 c2 c3 c4 c5 c6):(0≤c0+c1∧c0+c1<F)∧(c2≠1→c1=0):=by
  have h1:=h.1.2.1
  have O:=h.2
  unfold Xl at O
  omega
abbrev M2 (a b c:List Int):Int:=wrap64 (wrap64 ((a.length:Int)+(b.length:Int))+(c.length:Int))
theorem E3 {g0 g1 g2 g3 g4 g5 g6 g7 g8 g9 c0 c1 c2 c3 c4 c5 c6 O B:Int} (J Z:Int) (Y l9:Bool) (a b c:List Int) (f:Nat) (hf:10<f) (h:U9 g0 g1 g2 g3 g4 g5 g6 g7 g8 g9 c0 c1 c2 c3 c4 c5 c6 O) (hx:0≤B∧B<g0):
    group_cost.f f g0 g1 g2 g3 g4 g5 g6 g7 g8 g9 c0 c1 c2 c3 c4 c5 c6 O Y l9 a b c B J Z=some (Dh g0 g1 g2 g3 g6 g8 g9 c0 c1 c2 c3 c4 c5 c6 O (M2 a b c) B J):=by
  unfold group_cost.f
  rw[G0 _ _ _ _ _ _ _ _ _ _ _ _ _ _ _ _ _ f hf,if_pos h.1,Dl J c2 c3 c4 c5 c6 Z Y l9 f (by omega) h.1.1.2.1 h.1.2.1.2.1 (at_in h.1.2).1 hx h.2]
  rfl
end Go.Proofs.Ytmfffemidlhcpaa.GrpPure
