/- Texts of this claim, one behind the other: what the law's functions come to, walked (printed by a program, with the words that the print uses), and what that is, in plain Lean. No conditions of their own. -/
import Derived.Test.YtmfffemidlhcpaaQGroupBest3
import Derived.Laws.EntriesVeiled
namespace Go.Proofs.Ytmfffemidlhcpaa.C
open Go.RowKit Go.Proofs.YtmfffemidlhcpaaW.PrintWords Go.Proofs.YtmfffemidlhcpaaW.PrintLast Go.Proofs.YtmfffemidlhcpaaW.PrintMore
def phV:Value:=.agg #[.int .i64 0,.func (.func 95) #[] #[],.int .i64 60,.func (.func 96) #[] #[],.int .i64 300,.func (.func 98) #[] #[],.int .i64 60,.func (.func 99) #[] #[]]
set_option maxHeartbeats 8000000 in
set_option maxRecDepth 100000 in
theorem door_phases.calls (w:World):Calls Try.prog 87 #[] w fun e w'=>e = .returned phV∧Below w.heap.size w w':=by
  have J:=Try.underlying131
  have B:=Try.underlying132
  have HB:=Aside0.mk (Below.refl w.heap.size w)
  go_enter Try.func87,Try.ntmps87
  go_wp2_with (first|((with_reducible refine Qf (N:=0) rfl ?_);refine Zh ?hg (N:=0) ?hd (cs:=#[.int .i64 0,.nilFunc,.int .i64 0,.nilFunc,.int .i64 0,.nilFunc,.int .i64 0,.nilFunc]) (t:=132) ?hr ?_;(case hd=>rfl);(case hg=>rfl);(case hr=>first|(go_simp;done)|(go_simp;rfl));intro gb hg w1 hbox hb;have O:=Aside0.mk (Q0 HB.out hb);have BK:=Aside0.mk hbox;have GE:=Aside0.mk (by rw[hg];exact Nat.le_refl _:w.heap.size≤gb);clear HB hg hb hbox;have γ:=(Qa BK.out 0).trans rfl;have δ :=Qc BK.out 0;have ck:=(Qa BK.out 1).trans rfl;have ε :=Qc BK.out 1;have dq:=(Qa BK.out 2).trans rfl;have ch:=Qc BK.out 2;have ζ :=(Qa BK.out 3).trans rfl;have η :=Qc BK.out 3;have θ :=(Qa BK.out 4).trans rfl;have qu:=Qc BK.out 4;have ι :=(Qa BK.out 5).trans rfl;have qv:=Qc BK.out 5;have κ :=(Qa BK.out 6).trans rfl;have μ :=Qc BK.out 6;have ν :=(Qa BK.out 7).trans rfl;have ξ :=Qc BK.out 7))
  have Z:=Yf BK.out 0 (.int .i64 0)
  have b1:=Yf Z 1 (.func (.func 95) #[] #[])
  have b2:=Yf b1 2 (.int .i64 60)
  have b3:=Yf b2 3 (.func (.func 96) #[] #[])
  have X:=Yf b3 4 (.int .i64 300)
  have b5:=Yf X 5 (.func (.func 98) #[] #[])
  have b6:=Yf b5 6 (.int .i64 60)
  have Y:=Yf b6 7 (.func (.func 99) #[] #[])
  simp only[List.setIfInBounds_toArray,List.set_cons_zero,List.set_cons_succ] at Y
  refine bodyPost_ret (v:=phV) ?_ rfl ⟨rfl, ?_⟩
  · refine results_cell_row (p:=0) (ty:=132) ?_ _ _ gb 132 _ (0,0) _ ?_ Y B ?_ ?_
    · rfl
    · rfl
    · rfl
    · kernel_rfl
  · with_reducible repeat(first|exact O.out|refine Qv ?_ GE.out)
section
variable {P : Program} {ops : Array Oper} {Q : Exit → Act → World → Prop}
end
theorem L3 (x y:Value) (w:World):Sem.run Try.prog (Instr.field 131 (.agg #[x,y]) 0) w = .ok x w:=by
  have J:=Try.underlying131
  have B:=Try.underlying3
  simp[Instr.field,run_underlying J,part,isAgg,asAgg,run_underlying B,Result.andThen]
def Zw (d:Int):Int:=if d=0 then 0 else if d=1 then 60 else if d=2 then 300 else 60
def tickN (d:Int):Nat:=if d=0 then 95 else if d=1 then 96 else if d=2 then 98 else 99
theorem Lp {n lo hi:Int} (h:door_within.f n lo hi=some true):lo≤n∧n≤hi:=by
  unfold door_within.f at h
  split at h <;> simp at h <;> omega
theorem L2 (ev:Operand→Value) (o:Oper) (x y:Operand) (ho:o.op = .index 132 x y) (hx:ev x=phV) (hy:ev y = .int .i64 0) (w:World):
    Sem.run Try.prog (execOp ev o) w = .ok (.value (.agg #[.int .i64 0,.func (.func 95) #[] #[]])) w:=by
  have B:=Try.underlying132
  have hs:(Try.prog.info? 131).map (·.size)=some 2:=by kernel_rfl
  obtain⟨i,hi,hs⟩:=Option.map_eq_some_iff.mp hs
  unfold execOp
  rw[ho]
  simp only
  rw[hx,hy]
  unfold phV
  simp[Instr.index,asIntOf,run_underlying B,part,sizeOf,typeInfo,Result.andThen,hi,hs]
theorem L1 (ev:Operand→Value) (o:Oper) (x y:Operand) (ho:o.op = .index 132 x y) (hx:ev x=phV) (hy:ev y = .int .i64 1) (w:World):
    Sem.run Try.prog (execOp ev o) w = .ok (.value (.agg #[.int .i64 60,.func (.func 96) #[] #[]])) w:=by
  have B:=Try.underlying132
  have hs:(Try.prog.info? 131).map (·.size)=some 2:=by kernel_rfl
  obtain⟨i,hi,hs⟩:=Option.map_eq_some_iff.mp hs
  unfold execOp
  rw[ho]
  simp only
  rw[hx,hy]
  unfold phV
  simp[Instr.index,asIntOf,run_underlying B,part,sizeOf,typeInfo,Result.andThen,hi,hs]
theorem L0 (ev:Operand→Value) (o:Oper) (x y:Operand) (ho:o.op = .index 132 x y) (hx:ev x=phV) (hy:ev y = .int .i64 2) (w:World):
    Sem.run Try.prog (execOp ev o) w = .ok (.value (.agg #[.int .i64 300,.func (.func 98) #[] #[]])) w:=by
  have B:=Try.underlying132
  have hs:(Try.prog.info? 131).map (·.size)=some 2:=by kernel_rfl
  obtain⟨i,hi,hs⟩:=Option.map_eq_some_iff.mp hs
  unfold execOp
  rw[ho]
  simp only
  rw[hx,hy]
  unfold phV
  simp[Instr.index,asIntOf,run_underlying B,part,sizeOf,typeInfo,Result.andThen,hi,hs]
theorem Lz (ev:Operand→Value) (o:Oper) (x y:Operand) (ho:o.op = .index 132 x y) (hx:ev x=phV) (hy:ev y = .int .i64 3) (w:World):
    Sem.run Try.prog (execOp ev o) w = .ok (.value (.agg #[.int .i64 60,.func (.func 99) #[] #[]])) w:=by
  have B:=Try.underlying132
  have hs:(Try.prog.info? 131).map (·.size)=some 2:=by kernel_rfl
  obtain⟨i,hi,hs⟩:=Option.map_eq_some_iff.mp hs
  unfold execOp
  rw[ho]
  simp only
  rw[hx,hy]
  unfold phV
  simp[Instr.index,asIntOf,run_underlying B,part,sizeOf,typeInfo,Result.andThen,hi,hs]
theorem Gs {d:Int} {ev:Operand→Value} {o:Oper} {x y:Operand} (ho:o.op = .index 132 x y) (hx:ev x=phV) (hy:ev y = .int .i64 d) (X:0≤d) (Z:d≤3) (w:World):
    Sem.run Try.prog (execOp ev o) w = .ok (.value (.agg #[.int .i64 (Zw d),.func (.func (tickN d)) #[] #[]])) w:=by
  have e:d=0∨d=1∨d=2∨d=3:=by omega
  rcases e with rfl|rfl|rfl|rfl
  · exact L2 ev o x y ho hx hy w
  · exact L1 ev o x y ho hx hy w
  · exact L0 ev o x y ho hx hy w
  · exact Lz ev o x y ho hx hy w
end Go.Proofs.Ytmfffemidlhcpaa.C
namespace Go.Proofs.Ytmfffemidlhcpaa.C
open Go.RowKit Go.Proofs.YtmfffemidlhcpaaW.PrintWords Go.Proofs.YtmfffemidlhcpaaW.PrintLast Go.Proofs.YtmfffemidlhcpaaW.PrintMore
attribute [local go_sem] Z3 Z1 Xg Xf Zt Zs Z2 Z0
set_option linter.unusedVariables false
set_option linter.unusedSimpArgs false
def door_Check.f (J:Int) (O:Int) (X:Int):Option (Int):=(door_within.f J 0 3).bind fun a7=>(if a7=true then ((door_on.f J O X 0 0).bind fun η =>((door_within.f O (mn (Zw J) 1) (Zw J)).bind fun ι =>(if ι = true then ((door_within.f X 0 (mn (Zw J) 60)).bind fun θ =>(if θ = true then (some 0) else (some 170))) else (some 170)))) else (some 170))
set_option maxHeartbeats 8000000 in
set_option maxRecDepth 100000 in
theorem door_Check.calls (J:Int) (O:Int) (X:Int) (r:Int) (w:World) (h:door_Check.f J O X=some r):
  Calls Try.prog 71 #[.agg #[.int .i64 J,.int .i64 O,.int .i64 X]] w fun e w'=>e = .returned (.int .i64 r)∧Below w.heap.size w w':=by
 have d9:=Try.underlying27
 have HB:=Aside0.mk (Below.refl w.heap.size w)
 have H:((door_within.f J 0 3).bind fun a7=>(if a7=true then ((door_on.f J O X 0 0).bind fun η =>((door_within.f O (mn (Zw J) 1) (Zw J)).bind fun ι =>(if ι = true then ((door_within.f X 0 (mn (Zw J) 60)).bind fun θ =>(if θ = true then (some 0) else (some 170))) else (some 170)))) else (some 170)))=some r:=h
 clear h
 replace H:=Option.bind_eq_some_iff.mp H
 obtain⟨a7,jb,H⟩:=H
 replace H:(if a7=true then ((door_on.f J O X 0 0).bind fun η =>((door_within.f O (mn (Zw J) 1) (Zw J)).bind fun ι =>(if ι = true then ((door_within.f X 0 (mn (Zw J) 60)).bind fun θ =>(if θ = true then (some 0) else (some 170))) else (some 170)))) else (some 170))=some r:=H
 have A2:=Aside0.mk jb
 clear jb
 by_cases c3:a7=true
 ·subst c3
  have hph_:=Lp A2.out
  have μ :=L3
  have H1:((door_on.f J O X 0 0).bind fun η =>((door_within.f O (mn (Zw J) 1) (Zw J)).bind fun ι =>(if ι = true then ((door_within.f X 0 (mn (Zw J) 60)).bind fun θ =>(if θ = true then (some 0) else (some 170))) else (some 170))))=some r:=by rw[if_pos rfl] at H;exact H
  clear H
  have H:=H1
  clear H1
  replace H:=Option.bind_eq_some_iff.mp H
  obtain⟨⟨τ,a1,γ⟩,aa,H⟩:=H
  replace H:((door_within.f O (mn (Zw J) 1) (Zw J)).bind fun ι =>(if ι = true then ((door_within.f X 0 (mn (Zw J) 60)).bind fun θ =>(if θ = true then (some 0) else (some 170))) else (some 170)))=some r:=H
  have A4:=Aside0.mk aa
  clear aa
  obtain⟨δ,Y⟩:∃ j_:Int,(mn (Zw J) 1)=j_:=⟨_,rfl⟩
  replace H:((door_within.f O (δ) (Zw J)).bind fun ι =>(if ι = true then ((door_within.f X 0 (mn (Zw J) 60)).bind fun θ =>(if θ = true then (some 0) else (some 170))) else (some 170)))=some r:=by first|(rw[Y] at H;exact H)|(simp only[Y] at H ⊢;exact H)
  (try rw[Y] at A2)
  (try rw[Y] at A4)
  (try(have hji5h: δ ≤ 1:=by(rw[← Y];unfold mn;(repeat' split) <;> omega)))
  (try(have hji5g: δ ≤ 64:=by omega))
  have ν :(if 1<(Zw J) then 1 else (Zw J)) = δ :=Y
  replace H:=Option.bind_eq_some_iff.mp H
  obtain⟨ι,d0,H⟩:=H
  replace H:(if ι = true then ((door_within.f X 0 (mn (Zw J) 60)).bind fun θ =>(if θ = true then (some 0) else (some 170))) else (some 170))=some r:=H
  have A6:=Aside0.mk d0
  clear d0
  by_cases c7: ι = true
  ·subst c7
   have H1:((door_within.f X 0 (mn (Zw J) 60)).bind fun θ =>(if θ = true then (some 0) else (some 170)))=some r:=by rw[if_pos rfl] at H;exact H
   clear H
   have H:=H1
   clear H1
   obtain⟨ζ,Z⟩:∃ j_:Int,(mn (Zw J) 60)=j_:=⟨_,rfl⟩
   replace H:((door_within.f X 0 (ζ)).bind fun θ =>(if θ = true then (some 0) else (some 170)))=some r:=by first|(rw[Z] at H;exact H)|(simp only[Z] at H ⊢;exact H)
   (try rw[Z] at A2)
   (try rw[Z] at A4)
   (try rw[Z] at A6)
   (try(have hji8h: ζ ≤ 60:=by(rw[← Z];unfold mn;(repeat' split) <;> omega)))
   (try(have hji8g: ζ ≤ 64:=by omega))
   have σ:(if 60<(Zw J) then 60 else (Zw J)) = ζ :=Z
   replace H:=Option.bind_eq_some_iff.mp H
   obtain⟨θ,bl,H⟩:=H
   replace H:(if θ = true then (some 0) else (some 170))=some r:=H
   have A9:=Aside0.mk bl
   clear bl
   by_cases c10: θ = true
   ·subst c10
    have H1:(some 0)=some r:=by rw[if_pos rfl] at H;exact H
    clear H
    have H:=H1
    clear H1
    obtain rfl:=Option.some.inj H
    go_enter Try.func71,Try.ntmps71
    try go_wp2_with (first|((with_reducible refine Qf (N:=1) rfl ?_);(try(refine Zr (by rfl) ?_;dsimp only));refine qE 1 #[.int .i64 J,.int .i64 O,.int .i64 X] 27 ?_;intro ε hg di hbox hb;have B:=Aside0.mk hbox;have χ :=sGe hg;have κ :=sGe hg;replace HB:=sHb hb;clear hb hbox hg;obtain⟨φ,a2,a6,a4,a5,a8⟩:=qD3 B.out)|((with_reducible refine Qo (f:=86) rfl ?_);refine Q6 (some 6) rfl rfl Try.func86 kr rfl #[.int .i64 J,.int .i64 0,.int .i64 3] rfl qM ?_;(with_reducible refine(door_within.calls J 0 3 true _ A2.out).mono ?_);rintro e w' ⟨rfl,⟨nd,rfl⟩⟩;refine⟨_,rfl, ?_⟩))
    (try(rw[Yr di];generalize hq_:World.drewN di _=di;have ξ :Aside0 (di.heap[ε]?=some (.cells #[.int .i64 J,.int .i64 O,.int .i64 X] 27 (0,0))):=⟨by rw[← hq_];exact(bka B)⟩;have ρ:Aside0 (Below w.heap.size w di):=⟨by rw[← hq_];exact bel⟩;clear B HB hq_;have B:= ξ;have HB:=ρ;clear ξ ρ))
    (try(have af:di.cell? ⟨ε,0,none⟩=some (.int .i64 J):=(Qa B.out 0).trans rfl))
    (try(have ay:di.cell? ⟨ε,1,none⟩=some (.int .i64 O):=(Qa B.out 1).trans rfl))
    (try(have a3:di.cell? ⟨ε,2,none⟩=some (.int .i64 X):=(Qa B.out 2).trans rfl))
    (try(have ai:=Qc B.out 0))
    (try(have az:=Qc B.out 1))
    (try(have a9:=Qc B.out 2))
    have ξ :=Aside0.mk (Qe B.out)
    have ρ:=Aside0.mk (Qg HB.out)
    clear B
    clear HB
    have B:= ξ
    have HB:=ρ
    clear ξ ρ
    refine Zi (n:=6) (S:=fun w'=>w'.cell? ⟨ε,0,none⟩=some (.int .i64 J)∧w'.cell? ⟨ε,1,none⟩=some (.int .i64 O)∧w'.cell? ⟨ε,2,none⟩=some (.int .i64 X)) (ds:=[]) #[false,false,false,false,false,false] kr rfl rfl ⟨(Qa B.out 0).trans rfl,(Qa B.out 1).trans rfl,(Qa B.out 2).trans rfl⟩ (fun hHeld=>?_)
    generalize di.drew=ec at B HB hHeld ⊢
    refine X4 (i:=1) (N:=some 9) (v:=?_) (a':=?_) #[false,true,false,false,false,false] rfl rfl kr (fun _ _ _ h=>h) (Or.inl ⟨by rfl, ?_⟩) ?_ ?_
    rotate_left
    ·intro w'
     go_simp
     with_reducible rfl
    rotate_left
    ·simp only[Act.put,qS,Zg,Zl]
     rfl
    refine Jm (i:=2) (N:=some 10) (v:=?_) (a':=?_) #[false,true,true,false,false,false] rfl rfl kr (fun _ _ _ h=>h) (Or.inl ⟨by rfl, ?_⟩) hHeld ?_ ?_
    rotate_left
    ·rintro w' ⟨s0,s1,s2⟩
     go_simp
     with_reducible rfl
    rotate_left
    ·simp only[Act.put,qS,Zg,Zl]
     rfl
    refine Zb (i:=0) (N:=some 8) #[true,true,true,false,false,false] rfl rfl kr (by decide) (fun K hK=>?_)
    refine Za Try.func87 kr rfl #[] (by rfl) rfl rfl (by(try simp only[List.map_toArray,List.map_cons,List.map_nil]);first|done|rfl|(simp only[List.length_drop,List.length_take];rfl)) ?_
    with_reducible refine(door_phases.calls _).mono ?_
    rintro e ge ⟨rfl,hb⟩
    refine⟨_,rfl, ?_⟩
    have ξ :=Aside0.mk (Qz (g:= ε) (o:=.cells #[.int .i64 J,.int .i64 O,.int .i64 X] 27 (0,0)) (by(with_reducible repeat first|refine Qm ?_ _|refine Qe ?_|refine Qn ?_ _);exact B.out) hb)
    have ρ:=Aside0.mk (Q0 (by repeat(first|(with_reducible first|exact HB.out|apply Qs|apply Qh|apply Qg|refine Qv ?_ κ.out)|exact HB.out)) hb)
    clear B
    clear HB
    have B:= ξ
    have HB:=ρ
    clear ξ ρ
    (try clear hb)
    (try clear ac)
    (try clear hk)
    (try clear hi)
    refine hK.out _ _ ⟨qc B,qc B,qc B⟩ (fun hHeld=>?_)
    clear hK K
    refine qN (some 8) ?_
    refine X4 (i:=3) (N:=some 11) (v:=?_) (a':=?_) #[true,true,true,true,false,false] rfl rfl kr (fun _ _ _ h=>h) (Or.inl ⟨by rfl, ?_⟩) ?_ ?_
    rotate_left
    ·intro w'
     rw[Gs (d:=J) (x:=.tmp 8) (y:=.tmp 10)]
     all_goals first|exact hph_.1|exact hph_.2|rfl
    rotate_left
    ·simp only[Act.put,qS,Zg,Zl]
     rfl
    refine X4 (i:=4) (N:=some 12) (v:=?_) (a':=?_) #[true,true,true,true,true,false] rfl rfl kr (fun _ _ _ h=>h) (Or.inl ⟨by rfl, ?_⟩) ?_ ?_
    rotate_left
    ·intro w'
     go_simp
     with_reducible rfl
    rotate_left
    ·simp only[Act.put,qS,Zg,Zl]
     rfl
    refine X4 (i:=5) (N:=some 3) (v:=?_) (a':=?_) #[true,true,true,true,true,true] rfl rfl kr (fun _ _ _ h=>h) (Or.inl ⟨by rfl, ?_⟩) ?_ ?_
    rotate_left
    ·intro w'
     go_simp
     with_reducible rfl
    rotate_left
    ·simp only[Act.put,qS,Zg,Zl]
     rfl
    refine Zx kr ?_
    obtain⟨dl,dm,bg,dn,dv,bm⟩:=qD3 B.out
    try go_wp2_with (first|((with_reducible refine Qo (f:=86) rfl ?_);refine Q6 (some 18) rfl rfl Try.func86 kr rfl #[.int .i64 O,.int .i64 δ,.int .i64 (Zw J)] rfl (by(try simp only[List.map_toArray,List.map_cons,List.map_nil]);first|done|(simp only[Y];rfl)|rfl|(simp only[List.length_drop,List.length_take];rfl)) ?_;(with_reducible refine(door_within.calls O δ (Zw J) true _ A6.out).mono ?_);rintro e w' ⟨rfl,⟨nd,rfl⟩⟩;refine⟨_,rfl, ?_⟩)|(go_at_call 86;(with_reducible refine(door_within.calls X 0 ζ true _ A9.out).mono ?_);rintro e w' ⟨rfl,⟨nd,rfl⟩⟩))
    go_ret
    exact⟨by first|rfl|(simp[Qk,Qj] <;> rfl)|(simp only[← Y,← Z];first|rfl|(simp[Qk,Qj] <;> rfl))|(simp[*,Qk,Qj] <;> rfl),bel⟩
   ·replace c10:=Bool.eq_false_iff.mpr c10
    subst c10
    have H1:(some 170)=some r:=by rw[if_neg (show ¬ (false=true) by decide)] at H;exact H
    clear H
    have H:=H1
    clear H1
    obtain rfl:=Option.some.inj H
    go_enter Try.func71,Try.ntmps71
    try go_wp2_with (first|((with_reducible refine Qf (N:=1) rfl ?_);(try(refine Zr (by rfl) ?_;dsimp only));refine qE 1 #[.int .i64 J,.int .i64 O,.int .i64 X] 27 ?_;intro ε hg eb hbox hb;have B:=Aside0.mk hbox;have χ :=sGe hg;have κ :=sGe hg;replace HB:=sHb hb;clear hb hbox hg;obtain⟨cd,cf,b3,cg,ch,b4⟩:=qD3 B.out)|((with_reducible refine Qo (f:=86) rfl ?_);refine Q6 (some 6) rfl rfl Try.func86 kr rfl #[.int .i64 J,.int .i64 0,.int .i64 3] rfl qM ?_;(with_reducible refine(door_within.calls J 0 3 true _ A2.out).mono ?_);rintro e w' ⟨rfl,⟨nd,rfl⟩⟩;refine⟨_,rfl, ?_⟩))
    (try(rw[Yr eb];generalize hq_:World.drewN eb _=eb;have ξ :Aside0 (eb.heap[ε]?=some (.cells #[.int .i64 J,.int .i64 O,.int .i64 X] 27 (0,0))):=⟨by rw[← hq_];exact(bka B)⟩;have ρ:Aside0 (Below w.heap.size w eb):=⟨by rw[← hq_];exact bel⟩;clear B HB hq_;have B:= ξ;have HB:=ρ;clear ξ ρ))
    (try(have aj:eb.cell? ⟨ε,0,none⟩=some (.int .i64 J):=(Qa B.out 0).trans rfl))
    (try(have ak:eb.cell? ⟨ε,1,none⟩=some (.int .i64 O):=(Qa B.out 1).trans rfl))
    (try(have ao:eb.cell? ⟨ε,2,none⟩=some (.int .i64 X):=(Qa B.out 2).trans rfl))
    (try(have am:=Qc B.out 0))
    (try(have an:=Qc B.out 1))
    (try(have ap:=Qc B.out 2))
    have ξ :=Aside0.mk (Qe B.out)
    have ρ:=Aside0.mk (Qg HB.out)
    clear B
    clear HB
    have B:= ξ
    have HB:=ρ
    clear ξ ρ
    refine Zi (n:=6) (S:=fun w'=>w'.cell? ⟨ε,0,none⟩=some (.int .i64 J)∧w'.cell? ⟨ε,1,none⟩=some (.int .i64 O)∧w'.cell? ⟨ε,2,none⟩=some (.int .i64 X)) (ds:=[]) #[false,false,false,false,false,false] kr rfl rfl ⟨(Qa B.out 0).trans rfl,(Qa B.out 1).trans rfl,(Qa B.out 2).trans rfl⟩ (fun hHeld=>?_)
    generalize eb.drew=dj at B HB hHeld ⊢
    refine X4 (i:=1) (N:=some 9) (v:=?_) (a':=?_) #[false,true,false,false,false,false] rfl rfl kr (fun _ _ _ h=>h) (Or.inl ⟨by rfl, ?_⟩) ?_ ?_
    rotate_left
    ·intro w'
     go_simp
     with_reducible rfl
    rotate_left
    ·simp only[Act.put,qS,Zg,Zl]
     rfl
    refine Jm (i:=2) (N:=some 10) (v:=?_) (a':=?_) #[false,true,true,false,false,false] rfl rfl kr (fun _ _ _ h=>h) (Or.inl ⟨by rfl, ?_⟩) hHeld ?_ ?_
    rotate_left
    ·rintro w' ⟨s0,s1,s2⟩
     go_simp
     with_reducible rfl
    rotate_left
    ·simp only[Act.put,qS,Zg,Zl]
     rfl
    refine Zb (i:=0) (N:=some 8) #[true,true,true,false,false,false] rfl rfl kr (by decide) (fun K hK=>?_)
    refine Za Try.func87 kr rfl #[] (by rfl) rfl rfl (by(try simp only[List.map_toArray,List.map_cons,List.map_nil]);first|done|rfl|(simp only[List.length_drop,List.length_take];rfl)) ?_
    with_reducible refine(door_phases.calls _).mono ?_
    rintro e cz ⟨rfl,hb⟩
    refine⟨_,rfl, ?_⟩
    have ξ :=Aside0.mk (Qz (g:= ε) (o:=.cells #[.int .i64 J,.int .i64 O,.int .i64 X] 27 (0,0)) (by(with_reducible repeat first|refine Qm ?_ _|refine Qe ?_|refine Qn ?_ _);exact B.out) hb)
    have ρ:=Aside0.mk (Q0 (by repeat(first|(with_reducible first|exact HB.out|apply Qs|apply Qh|apply Qg|refine Qv ?_ κ.out)|exact HB.out)) hb)
    clear B
    clear HB
    have B:= ξ
    have HB:=ρ
    clear ξ ρ
    (try clear hb)
    (try clear ac)
    (try clear hk)
    (try clear hi)
    refine hK.out _ _ ⟨qc B,qc B,qc B⟩ (fun hHeld=>?_)
    clear hK K
    refine qN (some 8) ?_
    refine X4 (i:=3) (N:=some 11) (v:=?_) (a':=?_) #[true,true,true,true,false,false] rfl rfl kr (fun _ _ _ h=>h) (Or.inl ⟨by rfl, ?_⟩) ?_ ?_
    rotate_left
    ·intro w'
     rw[Gs (d:=J) (x:=.tmp 8) (y:=.tmp 10)]
     all_goals first|exact hph_.1|exact hph_.2|rfl
    rotate_left
    ·simp only[Act.put,qS,Zg,Zl]
     rfl
    refine X4 (i:=4) (N:=some 12) (v:=?_) (a':=?_) #[true,true,true,true,true,false] rfl rfl kr (fun _ _ _ h=>h) (Or.inl ⟨by rfl, ?_⟩) ?_ ?_
    rotate_left
    ·intro w'
     go_simp
     with_reducible rfl
    rotate_left
    ·simp only[Act.put,qS,Zg,Zl]
     rfl
    refine X4 (i:=5) (N:=some 3) (v:=?_) (a':=?_) #[true,true,true,true,true,true] rfl rfl kr (fun _ _ _ h=>h) (Or.inl ⟨by rfl, ?_⟩) ?_ ?_
    rotate_left
    ·intro w'
     go_simp
     with_reducible rfl
    rotate_left
    ·simp only[Act.put,qS,Zg,Zl]
     rfl
    refine Zx kr ?_
    obtain⟨bn,bq,df,br,bu,dh⟩:=qD3 B.out
    try go_wp2_with (first|((with_reducible refine Qo (f:=86) rfl ?_);refine Q6 (some 18) rfl rfl Try.func86 kr rfl #[.int .i64 O,.int .i64 δ,.int .i64 (Zw J)] rfl (by(try simp only[List.map_toArray,List.map_cons,List.map_nil]);first|done|(simp only[Y];rfl)|rfl|(simp only[List.length_drop,List.length_take];rfl)) ?_;(with_reducible refine(door_within.calls O δ (Zw J) true _ A6.out).mono ?_);rintro e w' ⟨rfl,⟨nd,rfl⟩⟩;refine⟨_,rfl, ?_⟩)|(go_at_call 86;(with_reducible refine(door_within.calls X 0 ζ false _ A9.out).mono ?_);rintro e w' ⟨rfl,⟨nd,rfl⟩⟩))
    go_ret
    exact⟨by first|rfl|(simp[Qk,Qj] <;> rfl)|(simp only[← Y,← Z];first|rfl|(simp[Qk,Qj] <;> rfl))|(simp[*,Qk,Qj] <;> rfl),bel⟩
  ·replace c7:=Bool.eq_false_iff.mpr c7
   subst c7
   have H1:(some 170)=some r:=by rw[if_neg (show ¬ (false=true) by decide)] at H;exact H
   clear H
   have H:=H1
   clear H1
   obtain rfl:=Option.some.inj H
   go_enter Try.func71,Try.ntmps71
   try go_wp2_with (first|((with_reducible refine Qf (N:=1) rfl ?_);(try(refine Zr (by rfl) ?_;dsimp only));refine qE 1 #[.int .i64 J,.int .i64 O,.int .i64 X] 27 ?_;intro ε hg bd hbox hb;have B:=Aside0.mk hbox;have χ :=sGe hg;have κ :=sGe hg;replace HB:=sHb hb;clear hb hbox hg;obtain⟨ar,au,bj,av,aw,bk⟩:=qD3 B.out)|((with_reducible refine Qo (f:=86) rfl ?_);refine Q6 (some 6) rfl rfl Try.func86 kr rfl #[.int .i64 J,.int .i64 0,.int .i64 3] rfl qM ?_;(with_reducible refine(door_within.calls J 0 3 true _ A2.out).mono ?_);rintro e w' ⟨rfl,⟨nd,rfl⟩⟩;refine⟨_,rfl, ?_⟩))
   (try(rw[Yr bd];generalize hq_:World.drewN bd _=bd;have ξ :Aside0 (bd.heap[ε]?=some (.cells #[.int .i64 J,.int .i64 O,.int .i64 X] 27 (0,0))):=⟨by rw[← hq_];exact(bka B)⟩;have ρ:Aside0 (Below w.heap.size w bd):=⟨by rw[← hq_];exact bel⟩;clear B HB hq_;have B:= ξ;have HB:=ρ;clear ξ ρ))
   (try(have db:bd.cell? ⟨ε,0,none⟩=some (.int .i64 J):=(Qa B.out 0).trans rfl))
   (try(have dc:bd.cell? ⟨ε,1,none⟩=some (.int .i64 O):=(Qa B.out 1).trans rfl))
   (try(have b1:bd.cell? ⟨ε,2,none⟩=some (.int .i64 X):=(Qa B.out 2).trans rfl))
   (try(have dd:=Qc B.out 0))
   (try(have de:=Qc B.out 1))
   (try(have b2:=Qc B.out 2))
   have ξ :=Aside0.mk (Qe B.out)
   have ρ:=Aside0.mk (Qg HB.out)
   clear B
   clear HB
   have B:= ξ
   have HB:=ρ
   clear ξ ρ
   refine Zi (n:=6) (S:=fun w'=>w'.cell? ⟨ε,0,none⟩=some (.int .i64 J)∧w'.cell? ⟨ε,1,none⟩=some (.int .i64 O)∧w'.cell? ⟨ε,2,none⟩=some (.int .i64 X)) (ds:=[]) #[false,false,false,false,false,false] kr rfl rfl ⟨(Qa B.out 0).trans rfl,(Qa B.out 1).trans rfl,(Qa B.out 2).trans rfl⟩ (fun hHeld=>?_)
   generalize bd.drew=ie at B HB hHeld ⊢
   refine X4 (i:=1) (N:=some 9) (v:=?_) (a':=?_) #[false,true,false,false,false,false] rfl rfl kr (fun _ _ _ h=>h) (Or.inl ⟨by rfl, ?_⟩) ?_ ?_
   rotate_left
   ·intro w'
    go_simp
    with_reducible rfl
   rotate_left
   ·simp only[Act.put,qS,Zg,Zl]
    rfl
   refine Jm (i:=2) (N:=some 10) (v:=?_) (a':=?_) #[false,true,true,false,false,false] rfl rfl kr (fun _ _ _ h=>h) (Or.inl ⟨by rfl, ?_⟩) hHeld ?_ ?_
   rotate_left
   ·rintro w' ⟨s0,s1,s2⟩
    go_simp
    with_reducible rfl
   rotate_left
   ·simp only[Act.put,qS,Zg,Zl]
    rfl
   refine Zb (i:=0) (N:=some 8) #[true,true,true,false,false,false] rfl rfl kr (by decide) (fun K hK=>?_)
   refine Za Try.func87 kr rfl #[] (by rfl) rfl rfl (by(try simp only[List.map_toArray,List.map_cons,List.map_nil]);first|done|rfl|(simp only[List.length_drop,List.length_take];rfl)) ?_
   with_reducible refine(door_phases.calls _).mono ?_
   rintro e d8 ⟨rfl,hb⟩
   refine⟨_,rfl, ?_⟩
   have ξ :=Aside0.mk (Qz (g:= ε) (o:=.cells #[.int .i64 J,.int .i64 O,.int .i64 X] 27 (0,0)) (by(with_reducible repeat first|refine Qm ?_ _|refine Qe ?_|refine Qn ?_ _);exact B.out) hb)
   have ρ:=Aside0.mk (Q0 (by repeat(first|(with_reducible first|exact HB.out|apply Qs|apply Qh|apply Qg|refine Qv ?_ κ.out)|exact HB.out)) hb)
   clear B
   clear HB
   have B:= ξ
   have HB:=ρ
   clear ξ ρ
   (try clear hb)
   (try clear ac)
   (try clear hk)
   (try clear hi)
   refine hK.out _ _ ⟨qc B,qc B,qc B⟩ (fun hHeld=>?_)
   clear hK K
   refine qN (some 8) ?_
   refine X4 (i:=3) (N:=some 11) (v:=?_) (a':=?_) #[true,true,true,true,false,false] rfl rfl kr (fun _ _ _ h=>h) (Or.inl ⟨by rfl, ?_⟩) ?_ ?_
   rotate_left
   ·intro w'
    rw[Gs (d:=J) (x:=.tmp 8) (y:=.tmp 10)]
    all_goals first|exact hph_.1|exact hph_.2|rfl
   rotate_left
   ·simp only[Act.put,qS,Zg,Zl]
    rfl
   refine X4 (i:=4) (N:=some 12) (v:=?_) (a':=?_) #[true,true,true,true,true,false] rfl rfl kr (fun _ _ _ h=>h) (Or.inl ⟨by rfl, ?_⟩) ?_ ?_
   rotate_left
   ·intro w'
    go_simp
    with_reducible rfl
   rotate_left
   ·simp only[Act.put,qS,Zg,Zl]
    rfl
   refine X4 (i:=5) (N:=some 3) (v:=?_) (a':=?_) #[true,true,true,true,true,true] rfl rfl kr (fun _ _ _ h=>h) (Or.inl ⟨by rfl, ?_⟩) ?_ ?_
   rotate_left
   ·intro w'
    go_simp
    with_reducible rfl
   rotate_left
   ·simp only[Act.put,qS,Zg,Zl]
    rfl
   refine Zx kr ?_
   obtain⟨du,e0,e3,dy,ea,er⟩:=qD3 B.out
   try go_wp2_with (first|((with_reducible refine Qo (f:=86) rfl ?_);refine Q6 (some 18) rfl rfl Try.func86 kr rfl #[.int .i64 O,.int .i64 δ,.int .i64 (Zw J)] rfl (by(try simp only[List.map_toArray,List.map_cons,List.map_nil]);first|done|(simp only[Y];rfl)|rfl|(simp only[List.length_drop,List.length_take];rfl)) ?_;(with_reducible refine(door_within.calls O δ (Zw J) false _ A6.out).mono ?_);rintro e w' ⟨rfl,⟨nd,rfl⟩⟩;refine⟨_,rfl, ?_⟩))
   go_ret
   exact⟨by first|rfl|(simp[Qk,Qj] <;> rfl)|(simp only[← Y];first|rfl|(simp[Qk,Qj] <;> rfl))|(simp[*,Qk,Qj] <;> rfl),bel⟩
 ·replace c3:=Bool.eq_false_iff.mpr c3
  subst c3
  have H1:(some 170)=some r:=by rw[if_neg (show ¬ (false=true) by decide)] at H;exact H
  clear H
  have H:=H1
  clear H1
  obtain rfl:=Option.some.inj H
  go_enter Try.func71,Try.ntmps71
  go_wp2_with (first|((with_reducible refine Qf (N:=1) rfl ?_);(try(refine Zr (by rfl) ?_;dsimp only));refine qE 1 #[.int .i64 J,.int .i64 O,.int .i64 X] 27 ?_;intro ε hg e8 hbox hb;have B:=Aside0.mk hbox;have χ :=sGe hg;have κ :=sGe hg;replace HB:=sHb hb;clear hb hbox hg;obtain⟨gq,gr,i6,gs,gt,i7⟩:=qD3 B.out)|((with_reducible refine Qo (f:=86) rfl ?_);refine Q6 (some 6) rfl rfl Try.func86 kr rfl #[.int .i64 J,.int .i64 0,.int .i64 3] rfl qM ?_;(with_reducible refine(door_within.calls J 0 3 false _ A2.out).mono ?_);rintro e w' ⟨rfl,⟨nd,rfl⟩⟩;refine⟨_,rfl, ?_⟩))
  go_ret
  exact⟨by first|rfl|(simp[Qk,Qj] <;> rfl)|(simp[*,Qk,Qj] <;> rfl),bel⟩
def door_Rest.j0:Nat→Bool→Int→Int→Int→Int→Int→Int→Int→Int→Int→Int→Int→Int→Int→Option (Int×Int)
 |0,_,_,_,_,_,_,_,_,_,_,_,_,_,_=>none
 |k+1,κ,δ,ε,ζ,O,η,θ,B,ι,J,X,Y,Z,γ=>if κ = true then (some (0,170)) else (if Y=0 then (some (0,0)) else (if Y=1 then (some (wrap64 ((wrap64 (Z+(wrap64 (J+B))))+(wrap64 ((mx (wrap64 (X-γ)) 0) * (wrap64 ((wrap64 (O+J))+B))))),0)) else (if Y=2 then (some (wrap64 ((wrap64 (Z+B))+(wrap64 ((mx (wrap64 (X-γ)) 0) * (wrap64 ((wrap64 (O+J))+B))))),0)) else (some (wrap64 (Z+(wrap64 ((mx (wrap64 (X-γ)) 0) * (wrap64 ((wrap64 (O+J))+B))))),0)))))
def door_Rest.f (k:Nat) (J:Int) (O:Int) (X:Int) (Y:Int) (Z:Int) (δ :Int) (γ:Int) (ι :Int) (θ :Int) (η :Int) (ζ :Int) (ε :Int) (κ :Int):Option (Int×Int):=(door_gear.f k J O X Y Z δ γ ι θ η).bind fun ψ =>(if ψ = true then ((door_Check.f ζ ε κ).bind fun χ =>(door_Rest.j0 k (χ != 0) J O X Y Z δ γ ι θ η ζ ε κ)) else (door_Rest.j0 k true J O X Y Z δ γ ι θ η ζ ε κ))
theorem door_Rest.Zp:∀ k,(∀ O X Z J Y y5 y6 y7 y8 y9 γ δ ζ η,LeO (door_Rest.j0 k O X Z J Y y5 y6 y7 y8 y9 γ δ ζ η) (door_Rest.j0 (k+1) O X Z J Y y5 y6 y7 y8 y9 γ δ ζ η))
 |0=>fun _ _ _ _ _ _ _ _ _ _ _ _ _ _ r h=>by simp[door_Rest.j0] at h
 |k+1=>by
  have B:=door_Rest.Zp k
  ·intro O X Z J Y y5 y6 y7 y8 y9 γ δ ζ η
   unfold door_Rest.j0
   repeat' first
   |(with_reducible exact B _ _ _ _ _ _ _ _ _ _ _ _ _ _)
   |(with_reducible exact door_gear.mono _ _ _ _ _ _ _ _ _ _ _)
   |(with_reducible exact LeO.refl _)
   |(with_reducible exact LeO.none _)
   |(with_reducible refine LeO.ite ?_ ?_)
   |(with_reducible refine LeO.bind ?_ (fun _=>?_))
   |exact B _ _ _ _ _ _ _ _ _ _ _ _ _ _
   |exact door_gear.mono _ _ _ _ _ _ _ _ _ _ _
   |exact LeO.none _
   |refine LeO.ite ?_ ?_
   |refine LeO.bind ?_ (fun _=>?_)
theorem door_Rest.mono:∀ J Y a2 a3 O a5 X a7 a8 a9 Z γ δ k,LeO (door_Rest.f k J Y a2 a3 O a5 X a7 a8 a9 Z γ δ) (door_Rest.f (k+1) J Y a2 a3 O a5 X a7 a8 a9 Z γ δ):=by
 intro J Y a2 a3 O a5 X a7 a8 a9 Z γ δ k
 have B:=door_Rest.Zp k
 unfold door_Rest.f
 repeat' first
   |(with_reducible exact B _ _ _ _ _ _ _ _ _ _ _ _ _ _)
   |(with_reducible exact door_gear.mono _ _ _ _ _ _ _ _ _ _ _)
   |(with_reducible exact LeO.refl _)
   |(with_reducible exact LeO.none _)
   |(with_reducible refine LeO.ite ?_ ?_)
   |(with_reducible refine LeO.bind ?_ (fun _=>?_))
   |exact B _ _ _ _ _ _ _ _ _ _ _ _ _ _
   |exact door_gear.mono _ _ _ _ _ _ _ _ _ _ _
   |exact LeO.none _
   |refine LeO.ite ?_ ?_
   |refine LeO.bind ?_ (fun _=>?_)
set_option maxHeartbeats 8000000 in
set_option maxRecDepth 100000 in
theorem door_Rest.calls (k:Nat) (J:Int) (O:Int) (X:Int) (Y:Int) (Z:Int) (δ :Int) (γ:Int) (ι :Int) (θ :Int) (η :Int) (ζ :Int) (ε :Int) (κ :Int) (r1:Int) (r2:Int) (w:World) (h:door_Rest.f k J O X Y Z δ γ ι θ η ζ ε κ = some (r1,r2)):
  Calls Try.prog 47 #[.agg #[.int .i64 J,.int .i64 O,.int .i64 X,.int .i64 Y,.int .i64 Z,.int .i64 δ,.int .i64 γ,.int .i64 ι,.int .i64 θ,.int .i64 η],.agg #[.int .i64 ζ,.int .i64 ε,.int .i64 κ]] w fun e w'=>e = .returned (.tuple #[.int .i64 r1,.int .i64 r2])∧Below w.heap.size w w':=by
 have e5:=Try.underlying25
 have d9:=Try.underlying27
 have HB:=Aside0.mk (Below.refl w.heap.size w)
 have H:((door_gear.f k J O X Y Z δ γ ι θ η).bind fun ψ =>(if ψ = true then ((door_Check.f ζ ε κ).bind fun χ =>(door_Rest.j0 k (χ != 0) J O X Y Z δ γ ι θ η ζ ε κ)) else (door_Rest.j0 k true J O X Y Z δ γ ι θ η ζ ε κ)))=some (r1,r2):=h
 clear h
 have a1:=Aside0.mk H
 clear H
 go_enter Try.func47,Try.ntmps47
 go_upto_region 1 with(first|((with_reducible refine Qf (N:=2) rfl ?_);refine qE 2 #[.int .i64 J,.int .i64 O,.int .i64 X,.int .i64 Y,.int .i64 Z,.int .i64 δ,.int .i64 γ,.int .i64 ι,.int .i64 θ,.int .i64 η] 25 ?_;intro ah hg w4 hbox hb;have B:=Aside0.mk hbox;have d7:=sGe hg;have da:=sGe hg;replace HB:=sHb hb;clear hb hbox hg)|((with_reducible refine Qf (N:=3) rfl ?_);refine qE 3 #[.int .i64 ζ,.int .i64 ε,.int .i64 κ] 27 ?_;intro ai hg w5 hbox hb;have μ :=Aside0.mk hbox;have df:=sGe hg;have dh:=sGe hg;have ν :=sNl B hg;have τ :=sNg B hg;replace B:=sBk B hb;replace HB:=sHb hb;clear hb hbox hg))
 (try simp only[Act.put,qS])
 go_cut [14] (fun ch wc=>∃ (kq:Nat) (ω :Bool),ch = .bool ω ∧ Aside0 (door_Rest.j0 kq ω J O X Y Z δ γ ι θ η ζ ε κ = some (r1,r2))∧Aside0 (kq≤k)∧Aside0 (wc.heap[ah]?=some (.cells #[.int .i64 J,.int .i64 O,.int .i64 X,.int .i64 Y,.int .i64 Z,.int .i64 δ,.int .i64 γ,.int .i64 ι,.int .i64 θ,.int .i64 η] 25 (0,0)))∧Aside0 (wc.heap[ai]?=some (.cells #[.int .i64 ζ,.int .i64 ε,.int .i64 κ] 27 (0,0)))∧Aside0 (Below w.heap.size w wc))
 case first=>
  have H:=a1.out
  clear a1
  replace H:=Option.bind_eq_some_iff.mp H
  obtain⟨ψ,d0,H⟩:=H
  replace H:(if ψ = true then ((door_Check.f ζ ε κ).bind fun χ =>(door_Rest.j0 k (χ != 0) J O X Y Z δ γ ι θ η ζ ε κ)) else (door_Rest.j0 k true J O X Y Z δ γ ι θ η ζ ε κ))=some (r1,r2):=H
  have A6:=Aside0.mk d0
  clear d0
  by_cases c7: ψ = true
  ·subst c7
   have H1:((door_Check.f ζ ε κ).bind fun χ =>(door_Rest.j0 k (χ != 0) J O X Y Z δ γ ι θ η ζ ε κ))=some (r1,r2):=by rw[if_pos rfl] at H;exact H
   clear H
   have H:=H1
   clear H1
   replace H:=Option.bind_eq_some_iff.mp H
   obtain⟨χ,b8,H⟩:=H
   replace H:(door_Rest.j0 k (χ != 0) J O X Y Z δ γ ι θ η ζ ε κ)=some (r1,r2):=H
   have A8:=Aside0.mk b8
   clear b8
   have H':=Aside0.mk H
   clear H
   have dv:= ν.out
   have dw:= τ.out
   obtain⟨ag,bs,bv,ce,cn,co,cp,bl,dq,du,cq,cr,cx,d2,d4,d5,d6,e0,e3,ez⟩:=Zn B.out
   go_wp2_with (first|((with_reducible refine Qo (f:=72) rfl ?_);refine Q6 (some 8) rfl rfl Try.func72 kr rfl #[.agg #[.int .i64 J,.int .i64 O,.int .i64 X,.int .i64 Y,.int .i64 Z,.int .i64 δ,.int .i64 γ,.int .i64 ι,.int .i64 θ,.int .i64 η]] rfl qM ?_;(with_reducible refine(door_gear.calls k J O X Y Z δ γ ι θ η true _ A6.out).mono ?_);rintro e di ⟨rfl,hb⟩;refine⟨_,rfl, ?_⟩;replace B:=sBk B hb;replace μ :=sBk μ hb;replace HB:=sHb hb;(try clear hb);(try clear ac);(try clear hk);(try clear hi);obtain⟨φ,a2,a6,a4,a5,a8⟩:=qD3 μ.out)|(go_at_call 71;(with_reducible refine(door_Check.calls ζ ε κ χ _ A8.out).mono ?_);rintro e fx ⟨rfl,hb⟩;have ξ :=Aside0.mk (Qz (g:=ah) (o:=.cells #[.int .i64 J,.int .i64 O,.int .i64 X,.int .i64 Y,.int .i64 Z,.int .i64 δ,.int .i64 γ,.int .i64 ι,.int .i64 θ,.int .i64 η] 25 (0,0)) B.out hb);have ρ:=Aside0.mk (Qz (g:=ai) (o:=.cells #[.int .i64 ζ,.int .i64 ε,.int .i64 κ] 27 (0,0)) μ.out hb);have a3:=Aside0.mk (Q0 HB.out hb);clear B;clear μ;clear HB;have B:= ξ;have μ :=ρ;have HB:=a3;clear ξ ρ a3;(try clear hb);(try clear ac);(try clear hk);(try clear hi)))
   go_meet
   case rel=>exact⟨_,((χ != 0)),rfl,H',⟨by first|omega|exact Nat.le_refl _⟩,B,μ,HB⟩
  ·replace c7:=Bool.eq_false_iff.mpr c7
   subst c7
   have H1:(door_Rest.j0 k true J O X Y Z δ γ ι θ η ζ ε κ)=some (r1,r2):=by rw[if_neg (show ¬ (false=true) by decide)] at H;exact H
   clear H
   have H:=H1
   clear H1
   have H':=Aside0.mk H
   clear H
   have eb:= ν.out
   have eg:= τ.out
   obtain⟨ci,cj,aa,aj,ak,am,an,ao,ap,ay,ck,cm,b3,az,b0,b4,b7,b9,ba,bb⟩:=Zn B.out
   go_wp2_with (first|((with_reducible refine Qo (f:=72) rfl ?_);refine Q6 (some 8) rfl rfl Try.func72 kr rfl #[.agg #[.int .i64 J,.int .i64 O,.int .i64 X,.int .i64 Y,.int .i64 Z,.int .i64 δ,.int .i64 γ,.int .i64 ι,.int .i64 θ,.int .i64 η]] rfl qM ?_;(with_reducible refine(door_gear.calls k J O X Y Z δ γ ι θ η false _ A6.out).mono ?_);rintro e ct ⟨rfl,hb⟩;refine⟨_,rfl, ?_⟩;replace B:=sBk B hb;replace μ :=sBk μ hb;replace HB:=sHb hb;(try clear hb);(try clear ac);(try clear hk);(try clear hi)))
   go_meet
   case rel=>exact⟨_,(true),rfl,H',⟨by first|omega|exact Nat.le_refl _⟩,B,μ,HB⟩
 case rest=>
  clear a1
  try clear c1
  try clear p2
  try clear c4
  try clear c7
  try clear c9
  try clear bp
  try clear ag
  try clear bs
  try clear bv
  try clear ce
  try clear cn
  try clear co
  try clear cp
  try clear bl
  try clear dq
  try clear du
  try clear φ
  try clear a2
  try clear a6
  try clear ci
  try clear cj
  try clear aa
  try clear aj
  try clear ak
  try clear am
  try clear an
  try clear ao
  try clear ap
  try clear ay
  try clear cq
  try clear cr
  try clear cx
  try clear d2
  try clear d4
  try clear d5
  try clear d6
  try clear e0
  try clear e3
  try clear ez
  try clear a4
  try clear a5
  try clear a8
  try clear ck
  try clear cm
  try clear b3
  try clear az
  try clear b0
  try clear b4
  try clear b7
  try clear b9
  try clear ba
  try clear bb
  obtain⟨kq,ω,rfl,HA,en,B,μ,HB⟩:=hcut
  cases kq with
  |zero=>exact absurd HA.out (by simp[door_Rest.j0])
  |succ fc=>
   have H:=HA.out
   clear HA
   simp only[door_Rest.j0] at H
   by_cases σ: ω = true
   ·subst σ
    have H1:(some (0,170))=some (r1,r2):=by rw[if_pos rfl] at H;exact H
    clear H
    have H:=H1
    clear H1
    simp only[Option.some.injEq,Prod.mk.injEq] at H
    obtain⟨rfl,rfl⟩:=H
    go_wp2
    go_ret2
    exact⟨rfl,HB.out⟩
   ·replace σ:=Bool.eq_false_iff.mpr σ
    subst σ
    have H1:(if ζ = 0 then (some (0,0)) else (if ζ = 1 then (some (wrap64 ((wrap64 (ε + (wrap64 (θ + γ))))+(wrap64 ((mx (wrap64 (η - κ)) 0) * (wrap64 ((wrap64 (Y + θ))+γ))))),0)) else (if ζ = 2 then (some (wrap64 ((wrap64 (ε + γ))+(wrap64 ((mx (wrap64 (η - κ)) 0) * (wrap64 ((wrap64 (Y + θ))+γ))))),0)) else (some (wrap64 (ε + (wrap64 ((mx (wrap64 (η - κ)) 0) * (wrap64 ((wrap64 (Y + θ))+γ))))),0)))))=some (r1,r2):=by rw[if_neg (show ¬ (false=true) by decide)] at H;exact H
    clear H
    have H:=H1
    clear H1
    by_cases dp: ζ = 0
    ·rw[if_pos dp] at H
     have c18b0:(ζ == 0)=true:=beq_iff_eq.mpr dp
     have c18b1:(ζ != 0)=false:=bne_eq_false_iff_eq.mpr dp
     clear dp
     simp only[Option.some.injEq,Prod.mk.injEq] at H
     obtain⟨rfl,rfl⟩:=H
     have bm:= τ.out
     have bo:= ν.out
     obtain⟨ab,al,a7,ax,b5,bi⟩:=qD3 μ.out
     go_wp2
     go_ret2
     exact⟨rfl,HB.out⟩
    ·rw[if_neg dp] at H
     have c18b0:(ζ == 0)=false:=beq_eq_false_iff_ne.mpr dp
     have c18b1:(ζ != 0)=true:=bne_iff_ne.mpr dp
     by_cases ae: ζ = 1
     ·rw[if_pos ae] at H
      have c21b0:(ζ == 1)=true:=beq_iff_eq.mpr ae
      have c21b1:(ζ != 1)=false:=bne_eq_false_iff_eq.mpr ae
      clear ae
      obtain⟨bg,a0⟩:∃ j_:Int,(mx (wrap64 (η - κ)) 0)=j_:=⟨_,rfl⟩
      replace H:(some (wrap64 ((wrap64 (ε + (wrap64 (θ + γ))))+(wrap64 ((bg) * (wrap64 ((wrap64 (Y + θ))+γ))))),0))=some (r1,r2):=by first|(rw[a0] at H;exact H)|(simp only[a0] at H ⊢;exact H)
      have cy:(if (wrap64 (η - κ))<0 then 0 else (wrap64 (η - κ)))=bg:=a0
      simp only[Option.some.injEq,Prod.mk.injEq] at H
      obtain⟨rfl,rfl⟩:=H
      have dr:= τ.out
      have dt:= ν.out
      obtain⟨ar,au,bj,av,aw,bk⟩:=qD3 μ.out
      obtain⟨db,dc,b1,b6,ec,f7,fq,dj,bc,bd,dd,de,b2,fr,ft,fu,fz,et,be,bf⟩:=Zn B.out
      go_wp2
      go_ret2
      exact⟨by first|rfl|(simp[Qk,Qj] <;> rfl)|(simp only[← a0];first|rfl|(simp[Qk,Qj] <;> rfl))|(simp[*,Qk,Qj] <;> rfl),HB.out⟩
     ·rw[if_neg ae] at H
      have c21b0:(ζ == 1)=false:=beq_eq_false_iff_ne.mpr ae
      have c21b1:(ζ != 1)=true:=bne_iff_ne.mpr ae
      by_cases d8: ζ = 2
      ·rw[if_pos d8] at H
       have c26b0:(ζ == 2)=true:=beq_iff_eq.mpr d8
       have c26b1:(ζ != 2)=false:=bne_eq_false_iff_eq.mpr d8
       clear d8
       obtain⟨bh,a9⟩:∃ j_:Int,(mx (wrap64 (η - κ)) 0)=j_:=⟨_,rfl⟩
       replace H:(some (wrap64 ((wrap64 (ε + γ))+(wrap64 ((bh) * (wrap64 ((wrap64 (Y + θ))+γ))))),0))=some (r1,r2):=by first|(rw[a9] at H;exact H)|(simp only[a9] at H ⊢;exact H)
       have d1:(if (wrap64 (η - κ))<0 then 0 else (wrap64 (η - κ)))=bh:=a9
       simp only[Option.some.injEq,Prod.mk.injEq] at H
       obtain⟨rfl,rfl⟩:=H
       have dk:= τ.out
       have dn:= ν.out
       obtain⟨gp,gy,hx,hy,i0,i1⟩:=qD3 μ.out
       obtain⟨gq,gr,i6,jv,jw,jx,jy,lp,lq,lr,gs,gt,i7,jz,k0,k1,k2,ls,lu,lv⟩:=Zn B.out
       go_wp2
       go_ret2
       exact⟨by first|rfl|(simp[Qk,Qj] <;> rfl)|(simp only[← a9];first|rfl|(simp[Qk,Qj] <;> rfl))|(simp[*,Qk,Qj] <;> rfl),HB.out⟩
      ·rw[if_neg d8] at H
       have c26b0:(ζ == 2)=false:=beq_eq_false_iff_ne.mpr d8
       have c26b1:(ζ != 2)=true:=bne_iff_ne.mpr d8
       obtain⟨bn,af⟩:∃ j_:Int,(mx (wrap64 (η - κ)) 0)=j_:=⟨_,rfl⟩
       replace H:(some (wrap64 (ε + (wrap64 ((bn) * (wrap64 ((wrap64 (Y + θ))+γ))))),0))=some (r1,r2):=by first|(rw[af] at H;exact H)|(simp only[af] at H ⊢;exact H)
       have d3:(if (wrap64 (η - κ))<0 then 0 else (wrap64 (η - κ)))=bn:=af
       simp only[Option.some.injEq,Prod.mk.injEq] at H
       obtain⟨rfl,rfl⟩:=H
       have jn:= τ.out
       have jo:= ν.out
       obtain⟨bw,bz,dl,ca,cb,dm⟩:=qD3 μ.out
       obtain⟨gu,i9,ee,cu,cv,cw,cz,bq,br,bu,gv,ia,ef,eh,ei,ej,ek,cd,cf,cg⟩:=Zn B.out
       go_wp2
       go_ret2
       exact⟨by first|rfl|(simp[Qk,Qj] <;> rfl)|(simp only[← af];first|rfl|(simp[Qk,Qj] <;> rfl))|(simp[*,Qk,Qj] <;> rfl),HB.out⟩
def door_Ask.j0:Nat→Bool→Int→Int→Int→Int→Int→Int→Int→Int→Int→Int→Option (Int×Int×Int×Int)
 |0,_,_,_,_,_,_,_,_,_,_,_=>none
 |k+1,η,Y,Z,J,γ,δ,ε,ζ,B,O,X=>if η = true then (some (0,0,0,170)) else (if B=0 then (some (1,J,0,0)) else (some (B,O,X,0)))
def door_Ask.f (k:Nat) (J:Int) (O:Int) (X:Int) (Y:Int) (Z:Int) (δ :Int) (γ:Int) (ζ :Int) (ε :Int) (κ :Int):Option (Int×Int×Int×Int):=(door_times.f k J O X Y Z δ γ).bind fun ab=>(if ab=true then ((door_Check.f ζ ε κ).bind fun τ =>(door_Ask.j0 k (τ != 0) J O X Y Z δ γ ζ ε κ)) else (door_Ask.j0 k true J O X Y Z δ γ ζ ε κ))
theorem door_Ask.Zp:∀ k,(∀ O X Z J Y y5 y6 y7 y8 y9 γ,LeO (door_Ask.j0 k O X Z J Y y5 y6 y7 y8 y9 γ) (door_Ask.j0 (k+1) O X Z J Y y5 y6 y7 y8 y9 γ))
 |0=>fun _ _ _ _ _ _ _ _ _ _ _ r h=>by simp[door_Ask.j0] at h
 |k+1=>by
  have B:=door_Ask.Zp k
  ·intro O X Z J Y y5 y6 y7 y8 y9 γ
   unfold door_Ask.j0
   repeat' first
   |(with_reducible exact B _ _ _ _ _ _ _ _ _ _ _)
   |(with_reducible exact door_times.mono _ _ _ _ _ _ _ _)
   |(with_reducible exact LeO.refl _)
   |(with_reducible exact LeO.none _)
   |(with_reducible refine LeO.ite ?_ ?_)
   |(with_reducible refine LeO.bind ?_ (fun _=>?_))
   |exact B _ _ _ _ _ _ _ _ _ _ _
   |exact door_times.mono _ _ _ _ _ _ _ _
   |exact LeO.none _
   |refine LeO.ite ?_ ?_
   |refine LeO.bind ?_ (fun _=>?_)
theorem door_Ask.mono:∀ J Y a2 a3 O a5 X a7 a8 a9 k,LeO (door_Ask.f k J Y a2 a3 O a5 X a7 a8 a9) (door_Ask.f (k+1) J Y a2 a3 O a5 X a7 a8 a9):=by
 intro J Y a2 a3 O a5 X a7 a8 a9 k
 have B:=door_Ask.Zp k
 unfold door_Ask.f
 repeat' first
   |(with_reducible exact B _ _ _ _ _ _ _ _ _ _ _)
   |(with_reducible exact door_times.mono _ _ _ _ _ _ _ _)
   |(with_reducible exact LeO.refl _)
   |(with_reducible exact LeO.none _)
   |(with_reducible refine LeO.ite ?_ ?_)
   |(with_reducible refine LeO.bind ?_ (fun _=>?_))
   |exact B _ _ _ _ _ _ _ _ _ _ _
   |exact door_times.mono _ _ _ _ _ _ _ _
   |exact LeO.none _
   |refine LeO.ite ?_ ?_
   |refine LeO.bind ?_ (fun _=>?_)
set_option maxHeartbeats 8000000 in
set_option maxRecDepth 100000 in
theorem door_Ask.calls (k:Nat) (J:Int) (O:Int) (X:Int) (Y:Int) (Z:Int) (δ :Int) (γ:Int) (ζ :Int) (ε :Int) (κ :Int) (r1:Int) (r2:Int) (r3:Int) (r4:Int) (w:World) (h:door_Ask.f k J O X Y Z δ γ ζ ε κ = some (r1,r2,r3,r4)):
  Calls Try.prog 46 #[.agg #[.int .i64 J,.int .i64 O,.int .i64 X,.int .i64 Y,.int .i64 Z,.int .i64 δ,.int .i64 γ],.agg #[.int .i64 ζ,.int .i64 ε,.int .i64 κ]] w fun e w'=>e = .returned (.tuple #[.agg #[.int .i64 r1,.int .i64 r2,.int .i64 r3],.int .i64 r4])∧Below w.heap.size w w':=by
 have gn:=Try.underlying23
 have d9:=Try.underlying27
 have HB:=Aside0.mk (Below.refl w.heap.size w)
 have H:((door_times.f k J O X Y Z δ γ).bind fun ab=>(if ab=true then ((door_Check.f ζ ε κ).bind fun τ =>(door_Ask.j0 k (τ != 0) J O X Y Z δ γ ζ ε κ)) else (door_Ask.j0 k true J O X Y Z δ γ ζ ε κ)))=some (r1,r2,r3,r4):=h
 clear h
 have a1:=Aside0.mk H
 clear H
 go_enter Try.func46,Try.ntmps46
 go_upto_region 1 with(first|((with_reducible refine Qf (N:=2) rfl ?_);refine qE 2 #[.int .i64 J,.int .i64 O,.int .i64 X,.int .i64 Y,.int .i64 Z,.int .i64 δ,.int .i64 γ] 23 ?_;intro ax hg w4 hbox hb;have B:=Aside0.mk hbox;have b4:=sGe hg;have b6:=sGe hg;replace HB:=sHb hb;clear hb hbox hg)|((with_reducible refine Qf (N:=3) rfl ?_);refine qE 3 #[.int .i64 ζ,.int .i64 ε,.int .i64 κ] 27 ?_;intro b1 hg w5 hbox hb;have η :=Aside0.mk hbox;have bd:=sGe hg;have bm:=sGe hg;have χ :=sNl B hg;have ψ :=sNg B hg;replace B:=sBk B hb;replace HB:=sHb hb;clear hb hbox hg)|((with_reducible refine Qf (N:=4) rfl ?_);refine qE 4 #[.int .i64 0,.int .i64 0,.int .i64 0] 27 ?_;intro a0 hg w6 hbox hb;have θ :=Aside0.mk hbox;have br:=sGe hg;have bs:=sGe hg;have μ :=sNl B hg;have ν :=sNg B hg;have ω :=sNl η hg;have ι :=sNg η hg;replace B:=sBk B hb;replace η :=sBk η hb;replace HB:=sHb hb;clear hb hbox hg))
 (try simp only[Act.put,qS])
 go_cut [13] (fun b2 wc=>∃ (kq:Nat) (al:Bool),b2 = .bool al∧Aside0 (door_Ask.j0 kq al J O X Y Z δ γ ζ ε κ = some (r1,r2,r3,r4))∧Aside0 (kq≤k)∧Aside0 (wc.heap[ax]?=some (.cells #[.int .i64 J,.int .i64 O,.int .i64 X,.int .i64 Y,.int .i64 Z,.int .i64 δ,.int .i64 γ] 23 (0,0)))∧Aside0 (wc.heap[b1]?=some (.cells #[.int .i64 ζ,.int .i64 ε,.int .i64 κ] 27 (0,0)))∧Aside0 (wc.heap[a0]?=some (.cells #[.int .i64 0,.int .i64 0,.int .i64 0] 27 (0,0)))∧Aside0 (Below w.heap.size w wc))
 case first=>
  have H:=a1.out
  clear a1
  replace H:=Option.bind_eq_some_iff.mp H
  obtain⟨ab,bo,H⟩:=H
  replace H:(if ab=true then ((door_Check.f ζ ε κ).bind fun τ =>(door_Ask.j0 k (τ != 0) J O X Y Z δ γ ζ ε κ)) else (door_Ask.j0 k true J O X Y Z δ γ ζ ε κ))=some (r1,r2,r3,r4):=H
  have A7:=Aside0.mk bo
  clear bo
  by_cases c8:ab=true
  ·subst c8
   have H1:((door_Check.f ζ ε κ).bind fun τ =>(door_Ask.j0 k (τ != 0) J O X Y Z δ γ ζ ε κ))=some (r1,r2,r3,r4):=by rw[if_pos rfl] at H;exact H
   clear H
   have H:=H1
   clear H1
   replace H:=Option.bind_eq_some_iff.mp H
   obtain⟨τ,bl,H⟩:=H
   replace H:(door_Ask.j0 k (τ != 0) J O X Y Z δ γ ζ ε κ)=some (r1,r2,r3,r4):=H
   have A9:=Aside0.mk bl
   clear bl
   have H':=Aside0.mk H
   clear H
   have jk:= χ.out
   have jl:= ψ.out
   have e9:= μ.out
   have ez:= ν.out
   obtain⟨φ,a2,a6,a9,af,ah,ai,a4,a5,a8,ay,az,b0,bh⟩:=qD7 B.out
   go_wp2_with (first|((with_reducible refine Qo (f:=70) rfl ?_);refine Q6 (some 7) rfl rfl Try.func70 kr rfl #[.agg #[.int .i64 J,.int .i64 O,.int .i64 X,.int .i64 Y,.int .i64 Z,.int .i64 δ,.int .i64 γ]] rfl qM ?_;(with_reducible refine(door_times.calls k J O X Y Z δ γ true _ A7.out).mono ?_);rintro e fx ⟨rfl,hb⟩;refine⟨_,rfl, ?_⟩;replace B:=sBk B hb;replace η :=sBk η hb;replace θ :=sBk θ hb;replace HB:=sHb hb;(try clear hb);(try clear ac);(try clear hk);(try clear hi);have eb:= ω.out;have eg:= ι.out;obtain⟨ci,cj,aa,ck,cm,b3⟩:=qD3 η.out)|(go_at_call 71;(with_reducible refine(door_Check.calls ζ ε κ τ _ A9.out).mono ?_);rintro e ct ⟨rfl,hb⟩;have ξ :=Aside0.mk (Qz (g:=ax) (o:=.cells #[.int .i64 J,.int .i64 O,.int .i64 X,.int .i64 Y,.int .i64 Z,.int .i64 δ,.int .i64 γ] 23 (0,0)) B.out hb);have ρ:=Aside0.mk (Qz (g:=b1) (o:=.cells #[.int .i64 ζ,.int .i64 ε,.int .i64 κ] 27 (0,0)) η.out hb);have a3:=Aside0.mk (Qz (g:=a0) (o:=.cells #[.int .i64 0,.int .i64 0,.int .i64 0] 27 (0,0)) θ.out hb);have a7:=Aside0.mk (Q0 HB.out hb);clear B;clear η;clear θ;clear HB;have B:= ξ;have η :=ρ;have θ :=a3;have HB:=a7;clear ξ ρ a3 a7;(try clear hb);(try clear ac);(try clear hk);(try clear hi)))
   go_meet
   case rel=>exact⟨_,((τ != 0)),rfl,H',⟨by first|omega|exact Nat.le_refl _⟩,B,η,θ,HB⟩
  ·replace c8:=Bool.eq_false_iff.mpr c8
   subst c8
   have H1:(door_Ask.j0 k true J O X Y Z δ γ ζ ε κ)=some (r1,r2,r3,r4):=by rw[if_neg (show ¬ (false=true) by decide)] at H;exact H
   clear H
   have H:=H1
   clear H1
   have H':=Aside0.mk H
   clear H
   have ha:= χ.out
   have he:= ψ.out
   have d6:= μ.out
   have dq:= ν.out
   obtain⟨aj,ak,ao,b7,b8,b9,ba,am,an,ap,bb,bc,be,bf⟩:=qD7 B.out
   go_wp2_with (first|((with_reducible refine Qo (f:=70) rfl ?_);refine Q6 (some 7) rfl rfl Try.func70 kr rfl #[.agg #[.int .i64 J,.int .i64 O,.int .i64 X,.int .i64 Y,.int .i64 Z,.int .i64 δ,.int .i64 γ]] rfl qM ?_;(with_reducible refine(door_times.calls k J O X Y Z δ γ false _ A7.out).mono ?_);rintro e dj ⟨rfl,hb⟩;refine⟨_,rfl, ?_⟩;replace B:=sBk B hb;replace η :=sBk η hb;replace θ :=sBk θ hb;replace HB:=sHb hb;(try clear hb);(try clear ac);(try clear hk);(try clear hi)))
   go_meet
   case rel=>exact⟨_,(true),rfl,H',⟨by first|omega|exact Nat.le_refl _⟩,B,η,θ,HB⟩
 case rest=>
  clear a1
  try clear c1
  try clear p2
  try clear c4
  try clear c7
  try clear c8
  try clear c10
  try clear ag
  try clear bp
  try clear σ
  try clear dp
  try clear φ
  try clear a2
  try clear a6
  try clear a9
  try clear af
  try clear ah
  try clear ai
  try clear ci
  try clear cj
  try clear aa
  try clear aj
  try clear ak
  try clear ao
  try clear b7
  try clear b8
  try clear b9
  try clear ba
  try clear a4
  try clear a5
  try clear a8
  try clear ay
  try clear az
  try clear b0
  try clear bh
  try clear ck
  try clear cm
  try clear b3
  try clear am
  try clear an
  try clear ap
  try clear bb
  try clear bc
  try clear be
  try clear bf
  obtain⟨kq,al,rfl,HA,en,B,η,θ,HB⟩:=hcut
  cases kq with
  |zero=>exact absurd HA.out (by simp[door_Ask.j0])
  |succ fc=>
   have H:=HA.out
   clear HA
   simp only[door_Ask.j0] at H
   by_cases ae:al=true
   ·subst ae
    have H1:(some (0,0,0,170))=some (r1,r2,r3,r4):=by rw[if_pos rfl] at H;exact H
    clear H
    have H:=H1
    clear H1
    simp only[Option.some.injEq,Prod.mk.injEq] at H
    obtain⟨rfl,rfl,rfl,rfl⟩:=H
    have f8:= ν.out
    have fa:= μ.out
    have dr:= ι.out
    have dt:= ω.out
    obtain⟨ar,au,bj,av,aw,bk⟩:=qD3 θ.out
    go_wp2
    refine bodyPost_ret (Z9 rfl _ _ a0 27 #[.int .i64 0,.int .i64 0,.int .i64 0] (0,0) _ rfl (by refine Ql (cs:=#[.int .i64 0,.int .i64 0,.int .i64 0]) ?_ 2 _ rfl;refine Ql (cs:=#[.int .i64 0,.int .i64 0,.int .i64 0]) ?_ 1 _ rfl;refine Ql (cs:=#[.int .i64 0,.int .i64 0,.int .i64 0]) ?_ 0 _ rfl;exact θ.out) Try.underlying27 rfl kr) rfl ?_
    exact⟨by first|rfl|(simp[Qk,Qj] <;> rfl)|(simp[*,Qk,Qj] <;> rfl),bel⟩
   ·replace ae:=Bool.eq_false_iff.mpr ae
    subst ae
    have H1:(if ζ = 0 then (some (1,X,0,0)) else (some (ζ,ε,κ,0)))=some (r1,r2,r3,r4):=by rw[if_neg (show ¬ (false=true) by decide)] at H;exact H
    clear H
    have H:=H1
    clear H1
    by_cases d3: ζ = 0
    ·rw[if_pos d3] at H
     have c25b0:(ζ == 0)=true:=beq_iff_eq.mpr d3
     have c25b1:(ζ != 0)=false:=bne_eq_false_iff_eq.mpr d3
     clear d3
     simp only[Option.some.injEq,Prod.mk.injEq] at H
     obtain⟨rfl,rfl,rfl,rfl⟩:=H
     have bi:= ψ.out
     have bn:= χ.out
     have bq:= ω.out
     have cf:= ι.out
     obtain⟨du,e0,e3,dy,ea,er⟩:=qD3 η.out
     have ms:= μ.out
     have mt:= ν.out
     obtain⟨gq,gr,i6,jv,jw,jx,jy,gs,gt,i7,jz,k0,k1,k2⟩:=qD7 B.out
     obtain⟨dw,dx,dz,e6,e7,e8⟩:=qD3 θ.out
     go_wp2
     refine bodyPost_ret (Z9 rfl _ _ a0 27 #[.int .i64 1,.int .i64 X,.int .i64 0] (0,0) _ rfl (by refine Ql (cs:=#[.int .i64 1,.int .i64 X,.int .i64 0]) ?_ 2 _ rfl;refine Ql (cs:=#[.int .i64 1,.int .i64 0,.int .i64 0]) ?_ 1 _ rfl;refine Ql (cs:=#[.int .i64 0,.int .i64 0,.int .i64 0]) ?_ 0 _ rfl;refine Yb ?_ ι.out _;refine Yb ?_ ι.out _;refine Yb ?_ ι.out _;exact θ.out) Try.underlying27 rfl kr) rfl ?_
     exact⟨by first|rfl|(simp[Qk,Qj] <;> rfl)|(simp[*,Qk,Qj] <;> rfl),bel⟩
    ·rw[if_neg d3] at H
     have c25b0:(ζ == 0)=false:=beq_eq_false_iff_ne.mpr d3
     have c25b1:(ζ != 0)=true:=bne_iff_ne.mpr d3
     simp only[Option.some.injEq,Prod.mk.injEq] at H
     obtain⟨rfl,rfl,rfl,rfl⟩:=H
     have jn:= ψ.out
     have jo:= χ.out
     have mu:= ω.out
     have mw:= ι.out
     obtain⟨gu,i9,ee,gv,ia,ef⟩:=qD3 η.out
     have l7:= ν.out
     have l8:= μ.out
     obtain⟨fv,fw,b5,fy,ga,bg⟩:=qD3 θ.out
     go_wp2
     refine bodyPost_ret (Z9 rfl _ _ a0 27 #[.int .i64 ζ,.int .i64 ε,.int .i64 κ] (0,0) _ rfl (by refine Ql (cs:=#[.int .i64 ζ,.int .i64 ε,.int .i64 0]) ?_ 2 _ rfl;refine Ql (cs:=#[.int .i64 ζ,.int .i64 0,.int .i64 0]) ?_ 1 _ rfl;refine Ql (cs:=#[.int .i64 0,.int .i64 0,.int .i64 0]) ?_ 0 _ rfl;exact θ.out) Try.underlying27 rfl kr) rfl ?_
     exact⟨by first|rfl|(simp[Qk,Qj] <;> rfl)|(simp[*,Qk,Qj] <;> rfl),bel⟩
end Go.Proofs.Ytmfffemidlhcpaa.C
namespace Go.Proofs.Ytmfffemidlhcpaa.DoorPure
open Go.RowKit Go.Proofs.YtmfffemidlhcpaaW.PrintWords Go.Proofs.YtmfffemidlhcpaaW.PrintLast Go.Proofs.YtmfffemidlhcpaaW.PrintMore Go.Proofs.Ytmfffemidlhcpaa.C
abbrev tI (n:Int):Prop:=1≤n∧n≤60
abbrev J9 (Y t1 J t3 t4 t5 B:Int):Prop:=(tI Y∧tI t1∧tI J∧tI t3∧tI t4∧tI t5)∧0≤B∧B≤60
abbrev Yd (g0 g1 g2 g3 g4 g5 g6 g7 g8 g9:Int):Prop:=J9 g1 g2 g3 g4 g5 g6 g7∧(2≤g0∧g0≤64)∧(1≤g8∧g8≤300)∧0≤g9∧g9≤60
abbrev Xz (Z d1 X:Int):Prop:=(Z=0∧d1=0∧X=0)∨((Z=1∨Z=3)∧1≤d1∧d1≤60∧0≤X∧X≤60)∨(Z=2∧1≤d1∧d1≤300∧0≤X∧X≤60)
theorem Xh (n a b:Int):door_within.f n a b=some (decide (a≤n∧n≤b)):=by
  unfold door_within.f
  by_cases h:a≤n
  · rw[if_pos h];simp[h]
  · rw[if_neg h];simp[h]
theorem rdn (l:List Int) (i:Nat) (h:i<l.length):rd l (i:Int)=l[i]:=by
  simp[rd,h]
theorem U8 (l:List Int) (hl:l.length≤1000) (Y t1 J t3 t4 t5 B:Int) (j:Nat):∀ (f i:Nat),i+j=l.length→j<f→door_times.l0 f l (l.length:Int) (i:Int) Y t1 J t3 t4 t5 B=some (decide ((∀ x ∈ l.drop i,tI x)∧0≤B∧B≤60)):=by
  induction j with
  |zero=>
    intro f i h hf
    obtain⟨f,rfl⟩:∃ m,f=m+1:=⟨f-1,by omega⟩
    simp only[door_times.l0]
    rw[if_neg (by omega),Xh,List.drop_of_length_le (by omega)]
    simp
  |succ j ih=>
    intro f i h hf
    obtain⟨f,rfl⟩:∃ m,f=m+1:=⟨f-1,by omega⟩
    have hlt:i<l.length:=by omega
    have ei:wrap64 ((i:Int)+1)=((i+1:Nat):Int):=by unfold wrap64;omega
    simp only[door_times.l0]
    rw[if_pos (by omega),if_pos (by omega),if_pos (by omega),rdn l i hlt,Xh,ei,ih f (i+1) (by omega) (by omega),List.drop_eq_getElem_cons hlt]
    simp only[Option.bind_some]
    by_cases hc:1≤l[i]∧l[i]≤60
    · rw[decide_eq_true hc,if_pos rfl]
      congr 1
      rw[decide_eq_decide]
      constructor
      · rintro⟨h1,O⟩
        refine⟨fun x hx=>?_,O⟩
        rcases List.mem_cons.1 hx with rfl|hx
        · exact hc
        · exact h1 x hx
      · rintro⟨h1,O⟩
        exact⟨fun x hx=>h1 x (List.mem_cons_of_mem _ hx),O⟩
    · have:¬ ((∀ x ∈ l[i] :: l.drop (i+1),tI x)∧0≤B∧B≤60):=fun h=>hc (h.1 _ List.mem_cons_self)
      rw[decide_eq_false hc,if_neg (by decide),decide_eq_false this]
theorem Uj (Y t1 J t3 t4 t5 B:Int) (f:Nat) (hf:10<f):door_times.f f Y t1 J t3 t4 t5 B=some (decide (J9 Y t1 J t3 t4 t5 B)):=by
  unfold door_times.f
  simp only[Option.bind_some]
  have:=U8 [Y,t1,J,t3,t4,t5] (by simp) Y t1 J t3 t4 t5 B 6 f 0 rfl (by omega)
  rw[show((0:Nat):Int)=0 from rfl] at this
  rw[this]
  congr 1
  rw[decide_eq_decide]
  simp only[List.drop_zero,List.mem_cons,List.not_mem_nil,or_false,forall_eq_or_imp,forall_eq]
theorem Er (g0 g1 g2 g3 g4 g5 g6 g7 g8 g9:Int) (f:Nat) (hf:10<f):door_gear.f f g0 g1 g2 g3 g4 g5 g6 g7 g8 g9=some (decide (Yd g0 g1 g2 g3 g4 g5 g6 g7 g8 g9)):=by
  unfold door_gear.f
  rw[Uj _ _ _ _ _ _ _ f hf,Xh,Xh,Xh]
  simp only[Option.bind_some]
  by_cases h1:J9 g1 g2 g3 g4 g5 g6 g7
  · rw[decide_eq_true h1,if_pos rfl]
    by_cases O:2≤g0∧g0≤64
    · rw[decide_eq_true O,if_pos rfl]
      by_cases Z:1≤g8∧g8≤300
      · rw[decide_eq_true Z,if_pos rfl]
        congr 1
        rw[decide_eq_decide]
        exact⟨fun h=>⟨h1,O,Z,h⟩,fun h=>h.2.2.2⟩
      · rw[decide_eq_false Z,if_neg (by decide),decide_eq_false (fun h=>Z h.2.2.1)]
    · rw[decide_eq_false O,if_neg (by decide),decide_eq_false (fun h=>O h.2.1)]
  · rw[decide_eq_false h1,if_neg (by decide),decide_eq_false (fun h=>h1 h.1)]
theorem on_eq (Z d1 X a b:Int):door_on.f Z d1 X a b=some (if wrap64 (d1-1)=0 then (a,b,X) else (Z,wrap64 (d1-1),X)):=by
  unfold door_on.f
  split <;> rfl
theorem X9 (Z d1 X:Int):door_Check.f Z d1 X=some (if Xz Z d1 X then 0 else 170):=by
  unfold door_Check.f
  rw[Xh,Xh,Xh,on_eq]
  simp only[Option.bind_some]
  by_cases h:0≤Z∧Z≤3
  · rw[decide_eq_true h,if_pos rfl]
    have hm:(mn (Zw Z) 1≤d1∧d1≤Zw Z)∧(0≤X∧X≤mn (Zw Z) 60)↔Xz Z d1 X:=by
      have e:Z=0∨Z=1∨Z=2∨Z=3:=by omega
      rcases e with rfl|rfl|rfl|rfl <;> simp[Zw,mn] <;> omega
    by_cases h1:mn (Zw Z) 1≤d1∧d1≤Zw Z
    · rw[decide_eq_true h1,if_pos rfl]
      by_cases O:0≤X∧X≤mn (Zw Z) 60
      · rw[decide_eq_true O,if_pos rfl,if_pos (hm.1 ⟨h1,O⟩)]
      · rw[decide_eq_false O,if_neg (by decide),if_neg (fun h=>O (hm.2 h).2)]
    · rw[decide_eq_false h1,if_neg (by decide),if_neg (fun h=>h1 (hm.2 h).1)]
  · rw[decide_eq_false h,if_neg (by decide),if_neg (by omega)]
def Gp (g3 g6 g8 g9 Z d1 X:Int):Int:=
  if Z=0 then 0 else d1+(if Z=1 then g8+g6 else if Z=2 then g6 else 0)+(if X<g9 then (g9-X) * (g3+g8+g6) else 0)
theorem N8 {a b:Int} (ha:0≤a∧a≤60) (hb:0≤b∧b≤420):0≤a * b∧a * b≤25200:=by
  refine⟨Int.mul_nonneg ha.1 hb.1, ?_⟩
  have h1:a * b≤60 * b:=Int.mul_le_mul_of_nonneg_right ha.2 hb.1
  omega
theorem w64 {n:Int} (h: -1000000000000≤n∧n≤1000000000000):wrap64 n=n:=by unfold wrap64;omega
theorem Uu (g0 g1 g2 g3 g4 g5 g6 g7 g8 g9 Z d1 X:Int) (hg:Yd g0 g1 g2 g3 g4 g5 g6 g7 g8 g9) (hd:Xz Z d1 X):
    wrap64 ((mx (wrap64 (g9-X)) 0) * (wrap64 ((wrap64 (g3+g8))+g6)))=(if X<g9 then (g9-X) * (g3+g8+g6) else 0)∧0≤(if X<g9 then (g9-X) * (g3+g8+g6) else 0)∧(if X<g9 then (g9-X) * (g3+g8+g6) else 0)≤25200:=by
  have Y:1≤g3∧g3≤60:=hg.1.1.2.2.1
  have a2:1≤g6∧g6≤60:=hg.1.1.2.2.2.2.2
  have a3:1≤g8∧g8≤300:=hg.2.2.1
  have O:0≤g9∧g9≤60:=hg.2.2.2
  have a5:0≤X∧X≤60:=by omega
  rw[w64 (n:=g9-X) (by omega),w64 (n:=g3+g8) (by omega),w64 (n:=g3+g8+g6) (by omega)]
  by_cases h:X<g9
  · have hp:=N8 (a:=g9-X) (b:=g3+g8+g6) (by omega) (by omega)
    rw[if_pos h]
    have e:mx (g9-X) 0=g9-X:=by unfold mx;rw[if_neg (by omega)]
    rw[e]
    exact⟨w64 (by omega),hp⟩
  · rw[if_neg h]
    have e:mx (g9-X) 0=0:=by unfold mx;split <;> omega
    rw[e,Int.zero_mul]
    exact⟨w64 (by omega),by omega,by omega⟩
theorem Wz (g0 g1 g2 g3 g4 g5 g6 g7 g8 g9 Z d1 X:Int) (f:Nat) (hf:10<f):
    door_Rest.f f g0 g1 g2 g3 g4 g5 g6 g7 g8 g9 Z d1 X=some (if Yd g0 g1 g2 g3 g4 g5 g6 g7 g8 g9∧Xz Z d1 X then (Gp g3 g6 g8 g9 Z d1 X,0) else (0,170)):=by
  unfold door_Rest.f
  rw[Er _ _ _ _ _ _ _ _ _ _ f hf,X9]
  simp only[Option.bind_some]
  obtain⟨f,rfl⟩:∃ m,f=m+1:=⟨f-1,by omega⟩
  by_cases h1:Yd g0 g1 g2 g3 g4 g5 g6 g7 g8 g9
  · rw[decide_eq_true h1,if_pos rfl]
    by_cases O:Xz Z d1 X
    · rw[if_pos O,if_pos (show Yd g0 g1 g2 g3 g4 g5 g6 g7 g8 g9∧Xz Z d1 X from⟨h1,O⟩)]
      obtain⟨m1,B,J⟩:=Uu _ _ _ _ _ _ _ _ _ _ _ _ _ h1 O
      have a2:1≤g6∧g6≤60:=h1.1.1.2.2.2.2.2
      have a3:1≤g8∧g8≤300:=h1.2.2.1
      simp only[door_Rest.j0]
      rw[m1]
      unfold Gp
      generalize(if X<g9 then (g9-X) * (g3+g8+g6) else 0)=p at B J ⊢
      rw[if_neg (by decide)]
      have hb:0≤d1∧d1≤300:=by omega
      by_cases Y:Z=0
      · rw[if_pos Y,if_pos Y]
      · rw[if_neg Y,if_neg Y]
        by_cases e1:Z=1
        · rw[if_pos e1,if_pos e1,w64 (n:=g8+g6) (by omega),w64 (n:=d1+(g8+g6)) (by omega),w64 (by omega)]
        · rw[if_neg e1,if_neg e1]
          by_cases e2:Z=2
          · rw[if_pos e2,if_pos e2,w64 (n:=d1+g6) (by omega),w64 (by omega)]
          · rw[if_neg e2,if_neg e2,w64 (by omega),Int.add_zero]
    · rw[if_neg O,if_neg (fun h=>O h.2)]
      simp only[door_Rest.j0]
      rw[if_pos (by decide)]
  · rw[decide_eq_false h1,if_neg (by decide),if_neg (fun h=>h1 h.1)]
    simp only[door_Rest.j0]
    rw[if_pos trivial]
theorem Dp (Y t1 J t3 t4 t5 B Z d1 X:Int) (f:Nat) (hf:10<f):
    door_Ask.f f Y t1 J t3 t4 t5 B Z d1 X=some (if J9 Y t1 J t3 t4 t5 B∧Xz Z d1 X then (if Z=0 then (1,J,0,0) else (Z,d1,X,0)) else (0,0,0,170)):=by
  unfold door_Ask.f
  rw[Uj _ _ _ _ _ _ _ f hf,X9]
  simp only[Option.bind_some]
  obtain⟨f,rfl⟩:∃ m,f=m+1:=⟨f-1,by omega⟩
  by_cases h1:J9 Y t1 J t3 t4 t5 B
  · rw[decide_eq_true h1,if_pos rfl]
    by_cases O:Xz Z d1 X
    · rw[if_pos O,if_pos (show J9 Y t1 J t3 t4 t5 B∧Xz Z d1 X from⟨h1,O⟩)]
      simp only[door_Ask.j0]
      rw[if_neg (by decide)]
      split <;> rfl
    · rw[if_neg O,if_neg (fun h=>O h.2)]
      simp only[door_Ask.j0]
      rw[if_pos (by decide)]
  · rw[decide_eq_false h1,if_neg (by decide),if_neg (fun h=>h1 h.1)]
    simp only[door_Ask.j0]
    rw[if_pos trivial]
end Go.Proofs.Ytmfffemidlhcpaa.DoorPure
namespace Go.Proofs.Ytmfffemidlhcpaa.C
open Go.RowKit Go.Proofs.YtmfffemidlhcpaaW.PrintWords Go.Proofs.YtmfffemidlhcpaaW.PrintLast Go.Proofs.YtmfffemidlhcpaaW.PrintMore
attribute [local go_sem] Z3 Z1 Xg Xf Zt Zs Z2 Z0
set_option linter.unusedVariables false
set_option linter.unusedSimpArgs false
def car_Check.j0:Nat→Int→Bool→Int→Int→Int→Int→Int→Int→Int→Option (Int)
 |0,_,_,_,_,_,_,_,_,_=>none
 |k+1,B,X,ε,J,δ,O,γ,ζ,κ =>if δ = 0 then (if X=true then (if J=0 then (if O=0 then (if γ=0 then (some 0) else (some 180)) else (some 180)) else (some 180)) else (some 180)) else (if δ = 1 then (if X=true then (if J=1 then ((car_within.f (wrap64 (ε + J)) 0 (wrap64 (B-1))).bind fun η =>(if η = true then ((car_within.f O 1 60).bind fun Y=>(if Y=true then (if γ=0 then (some 0) else (some 180)) else (some 180))) else (some 180))) else (if J=(-1) then ((car_within.f (wrap64 (ε + J)) 0 (wrap64 (B-1))).bind fun θ =>(if θ = true then ((car_within.f O 1 60).bind fun Z=>(if Z=true then (if γ=0 then (some 0) else (some 180)) else (some 180))) else (some 180))) else (some 180))) else (some 180)) else (if δ = 2 then (if X=true then (if J=0 then ((car_within.f O 1 60).bind fun ι =>(if ι = true then (if γ=0 then (some 0) else (some 180)) else (some 180))) else (some 180)) else (some 180)) else (if δ = 3 then (if X=true then (if J=0 then (if O=0 then (if γ=0 then (some 180) else (some 0)) else (some 180)) else (some 180)) else (some 180)) else (some 180))))
def car_Check.f (k:Nat) (J:Int) (ζ :Int) (ε :Int) (κ :Int) (μ :Int) (B:Int) (τ :Int) (χ :Int):Option (Int):=(car_within.f J 2 64).bind fun ν =>(if ν = true then ((car_within.f ζ 0 (wrap64 (J-1))).bind fun γ=>(if γ=true then ((door_Check.f B τ χ).bind fun X=>(car_Check.j0 k J (X==0) ζ ε κ μ B τ χ)) else (car_Check.j0 k J false ζ ε κ μ B τ χ))) else (car_Check.j0 k J false ζ ε κ μ B τ χ))
theorem car_Check.Zp:∀ k,(∀ O X Z J Y y5 y6 y7 y8,LeO (car_Check.j0 k O X Z J Y y5 y6 y7 y8) (car_Check.j0 (k+1) O X Z J Y y5 y6 y7 y8))
 |0=>fun _ _ _ _ _ _ _ _ _ r h=>by simp[car_Check.j0] at h
 |k+1=>by
  have B:=car_Check.Zp k
  ·intro O X Z J Y y5 y6 y7 y8
   unfold car_Check.j0
   repeat' first
   |(with_reducible exact B _ _ _ _ _ _ _ _ _)
   |(with_reducible exact LeO.refl _)
   |(with_reducible exact LeO.none _)
   |(with_reducible refine LeO.ite ?_ ?_)
   |(with_reducible refine LeO.bind ?_ (fun _=>?_))
   |exact B _ _ _ _ _ _ _ _ _
   |exact LeO.none _
   |refine LeO.ite ?_ ?_
   |refine LeO.bind ?_ (fun _=>?_)
theorem car_Check.mono:∀ J Y a2 a3 O a5 X a7 k,LeO (car_Check.f k J Y a2 a3 O a5 X a7) (car_Check.f (k+1) J Y a2 a3 O a5 X a7):=by
 intro J Y a2 a3 O a5 X a7 k
 have B:=car_Check.Zp k
 unfold car_Check.f
 repeat' first
   |(with_reducible exact B _ _ _ _ _ _ _ _ _)
   |(with_reducible exact LeO.refl _)
   |(with_reducible exact LeO.none _)
   |(with_reducible refine LeO.ite ?_ ?_)
   |(with_reducible refine LeO.bind ?_ (fun _=>?_))
   |exact B _ _ _ _ _ _ _ _ _
   |exact LeO.none _
   |refine LeO.ite ?_ ?_
   |refine LeO.bind ?_ (fun _=>?_)
set_option maxHeartbeats 8000000 in
set_option maxRecDepth 100000 in
theorem car_Check.calls (k:Nat) (J:Int) (ζ :Int) (ε :Int) (κ :Int) (μ :Int) (B:Int) (τ :Int) (χ :Int) (r:Int) (w:World) (h:car_Check.f k J ζ ε κ μ B τ χ = some r):
  Calls Try.prog 69 #[.int .i64 J,.agg #[.int .i64 ζ,.int .i64 ε,.int .i64 κ,.int .i64 μ,.int .i64 B,.int .i64 τ,.int .i64 χ]] w fun e w'=>e = .returned (.int .i64 r)∧Below w.heap.size w w':=by
 have fy:=Try.underlying29
 have d9:=Try.underlying27
 have HB:=Aside0.mk (Below.refl w.heap.size w)
 have H:((car_within.f J 2 64).bind fun ν =>(if ν = true then ((car_within.f ζ 0 (wrap64 (J-1))).bind fun γ=>(if γ=true then ((door_Check.f B τ χ).bind fun X=>(car_Check.j0 k J (X==0) ζ ε κ μ B τ χ)) else (car_Check.j0 k J false ζ ε κ μ B τ χ))) else (car_Check.j0 k J false ζ ε κ μ B τ χ)))=some r:=h
 clear h
 have a1:=Aside0.mk H
 clear H
 go_enter Try.func69,Try.ntmps69
 go_upto_region 1 with(first|((with_reducible refine Qf (N:=3) rfl ?_);refine qE 3 #[.int .i64 ζ,.int .i64 ε,.int .i64 κ,.int .i64 μ,.int .i64 B,.int .i64 τ,.int .i64 χ] 29 ?_;intro aa hg w4 hbox hb;have O:=Aside0.mk hbox;have pb:=sGe hg;have pc:=sGe hg;replace HB:=sHb hb;clear hb hbox hg))
 (try simp only[Act.put,qS])
 go_cut [5] (fun v5 wc=>∃ (kq:Nat) (δ :Bool),v5 = .bool δ ∧ Aside0 (car_Check.j0 kq J δ ζ ε κ μ B τ χ = some r)∧Aside0 (kq≤k)∧Aside0 (wc.heap[aa]?=some (.cells #[.int .i64 ζ,.int .i64 ε,.int .i64 κ,.int .i64 μ,.int .i64 B,.int .i64 τ,.int .i64 χ] 29 (0,0)))∧Aside0 (Below w.heap.size w wc))
 case first=>
  have H:=a1.out
  clear a1
  replace H:=Option.bind_eq_some_iff.mp H
  obtain⟨ν,d7,H⟩:=H
  replace H:(if ν = true then ((car_within.f ζ 0 (wrap64 (J-1))).bind fun γ=>(if γ=true then ((door_Check.f B τ χ).bind fun X=>(car_Check.j0 k J (X==0) ζ ε κ μ B τ χ)) else (car_Check.j0 k J false ζ ε κ μ B τ χ))) else (car_Check.j0 k J false ζ ε κ μ B τ χ))=some r:=H
  have A5:=Aside0.mk d7
  clear d7
  by_cases c6: ν = true
  ·subst c6
   have H1:((car_within.f ζ 0 (wrap64 (J-1))).bind fun γ=>(if γ=true then ((door_Check.f B τ χ).bind fun X=>(car_Check.j0 k J (X==0) ζ ε κ μ B τ χ)) else (car_Check.j0 k J false ζ ε κ μ B τ χ)))=some r:=by rw[if_pos rfl] at H;exact H
   clear H
   have H:=H1
   clear H1
   replace H:=Option.bind_eq_some_iff.mp H
   obtain⟨γ,bo,H⟩:=H
   replace H:(if γ=true then ((door_Check.f B τ χ).bind fun X=>(car_Check.j0 k J (X==0) ζ ε κ μ B τ χ)) else (car_Check.j0 k J false ζ ε κ μ B τ χ))=some r:=H
   have A7:=Aside0.mk bo
   clear bo
   by_cases c8:γ=true
   ·subst c8
    have H1:((door_Check.f B τ χ).bind fun X=>(car_Check.j0 k J (X==0) ζ ε κ μ B τ χ))=some r:=by rw[if_pos rfl] at H;exact H
    clear H
    have H:=H1
    clear H1
    replace H:=Option.bind_eq_some_iff.mp H
    obtain⟨X,bl,H⟩:=H
    replace H:(car_Check.j0 k J (X==0) ζ ε κ μ B τ χ)=some r:=H
    have A9:=Aside0.mk bl
    clear bl
    have H':=Aside0.mk H
    clear H
    go_wp2_with (first|((with_reducible refine Qo (f:=85) rfl ?_);refine Q6 (some 8) rfl rfl Try.func85 kr rfl #[.int .i64 J,.int .i64 2,.int .i64 64] rfl qM ?_;(with_reducible refine(car_within.calls J 2 64 true _ A5.out).mono ?_);rintro e w' ⟨rfl,⟨nd,rfl⟩⟩;refine⟨_,rfl, ?_⟩;obtain⟨ag,bs,bv,ce,cn,co,cp,cq,cr,cx,d2,d4,d5,d6⟩:=qD7 O.out)|(go_at_call 85;(with_reducible refine(car_within.calls ζ 0 (wrap64 (J-1)) true _ A7.out).mono ?_);rintro e w' ⟨rfl,⟨nd,rfl⟩⟩)|(go_at_call 71;(with_reducible refine(door_Check.calls B τ χ X _ A9.out).mono ?_);rintro e di ⟨rfl,hb⟩;have ξ :=Aside0.mk (Qz (g:=aa) (o:=.cells #[.int .i64 ζ,.int .i64 ε,.int .i64 κ,.int .i64 μ,.int .i64 B,.int .i64 τ,.int .i64 χ] 29 (0,0)) (bka O) hb);have ρ:=Aside0.mk (Q0 bel hb);clear O;clear HB;have O:= ξ;have HB:=ρ;clear ξ ρ;(try clear hb);(try clear ac);(try clear hk);(try clear hi)))
    go_meet
    case rel=>exact⟨_,((X==0)),rfl,H',⟨by first|omega|exact Nat.le_refl _⟩,O,HB⟩
   ·replace c8:=Bool.eq_false_iff.mpr c8
    subst c8
    have H1:(car_Check.j0 k J false ζ ε κ μ B τ χ)=some r:=by rw[if_neg (show ¬ (false=true) by decide)] at H;exact H
    clear H
    have H:=H1
    clear H1
    have H':=Aside0.mk H
    clear H
    go_wp2_with (first|((with_reducible refine Qo (f:=85) rfl ?_);refine Q6 (some 8) rfl rfl Try.func85 kr rfl #[.int .i64 J,.int .i64 2,.int .i64 64] rfl qM ?_;(with_reducible refine(car_within.calls J 2 64 true _ A5.out).mono ?_);rintro e w' ⟨rfl,⟨nd,rfl⟩⟩;refine⟨_,rfl, ?_⟩;obtain⟨φ,a2,a6,a9,af,ah,ai,a4,a5,a8,ay,az,b0,bh⟩:=qD7 O.out)|(go_at_call 85;(with_reducible refine(car_within.calls ζ 0 (wrap64 (J-1)) false _ A7.out).mono ?_);rintro e w' ⟨rfl,⟨nd,rfl⟩⟩))
    go_meet
    case rel=>exact⟨_,(false),qR,H',⟨by first|omega|exact Nat.le_refl _⟩,⟨bka O⟩,⟨bel⟩⟩
  ·replace c6:=Bool.eq_false_iff.mpr c6
   subst c6
   have H1:(car_Check.j0 k J false ζ ε κ μ B τ χ)=some r:=by rw[if_neg (show ¬ (false=true) by decide)] at H;exact H
   clear H
   have H:=H1
   clear H1
   have H':=Aside0.mk H
   clear H
   go_wp2_with (first|((with_reducible refine Qo (f:=85) rfl ?_);refine Q6 (some 8) rfl rfl Try.func85 kr rfl #[.int .i64 J,.int .i64 2,.int .i64 64] rfl qM ?_;(with_reducible refine(car_within.calls J 2 64 false _ A5.out).mono ?_);rintro e w' ⟨rfl,⟨nd,rfl⟩⟩;refine⟨_,rfl, ?_⟩))
   go_meet
   case rel=>exact⟨_,(false),qR,H',⟨by first|omega|exact Nat.le_refl _⟩,⟨bka O⟩,⟨bel⟩⟩
 case rest=>
  clear a1
  try clear p2
  try clear c6
  try clear p6
  try clear c8
  try clear ag
  try clear bs
  try clear bv
  try clear ce
  try clear cn
  try clear co
  try clear cp
  try clear φ
  try clear a2
  try clear a6
  try clear a9
  try clear af
  try clear ah
  try clear ai
  try clear cq
  try clear cr
  try clear cx
  try clear d2
  try clear d4
  try clear d5
  try clear d6
  try clear a4
  try clear a5
  try clear a8
  try clear ay
  try clear az
  try clear b0
  try clear bh
  obtain⟨kq,δ,rfl,HA,en,O,HB⟩:=hcut
  cases kq with
  |zero=>exact absurd HA.out (by simp[car_Check.j0])
  |succ fc=>
   have H:=HA.out
   clear HA
   simp only[car_Check.j0] at H
   by_cases cy: κ = 0
   ·rw[if_pos cy] at H
    have c13b0:(κ == 0)=true:=beq_iff_eq.mpr cy
    have c13b1:(κ != 0)=false:=bne_eq_false_iff_eq.mpr cy
    clear cy
    by_cases bp: δ = true
    ·subst bp
     have H1:(if ε = 0 then (if μ = 0 then (if B=0 then (some 0) else (some 180)) else (some 180)) else (some 180))=some r:=by rw[if_pos rfl] at H;exact H
     clear H
     have H:=H1
     clear H1
     by_cases ci: ε = 0
     ·rw[if_pos ci] at H
      have c15b0:(ε == 0)=true:=beq_iff_eq.mpr ci
      have c15b1:(ε != 0)=false:=bne_eq_false_iff_eq.mpr ci
      clear ci
      by_cases ψ : μ = 0
      ·rw[if_pos ψ] at H
       have c16b0:(μ == 0)=true:=beq_iff_eq.mpr ψ
       have c16b1:(μ != 0)=false:=bne_eq_false_iff_eq.mpr ψ
       clear ψ
       by_cases σ:B=0
       ·rw[if_pos σ] at H
        have c17b0:(B==0)=true:=beq_iff_eq.mpr σ
        have c17b1:(B != 0)=false:=bne_eq_false_iff_eq.mpr σ
        clear σ
        obtain rfl:=Option.some.inj H
        obtain⟨cd,cf,b3,au,av,aw,b1,cg,ch,b4,b2,d8,db,fh⟩:=qD7 O.out
        go_wp2
        go_ret
        exact⟨by first|rfl|(simp[Qk,Qj] <;> rfl)|(simp[*,Qk,Qj] <;> rfl),bel⟩
       ·rw[if_neg σ] at H
        have c17b0:(B==0)=false:=beq_eq_false_iff_ne.mpr σ
        have c17b1:(B != 0)=true:=bne_iff_ne.mpr σ
        obtain rfl:=Option.some.inj H
        obtain⟨aj,ak,ao,b7,b8,b9,ba,am,an,ap,bb,bc,be,bf⟩:=qD7 O.out
        go_wp2
        go_ret
        exact⟨by first|rfl|(simp[Qk,Qj] <;> rfl)|(simp[*,Qk,Qj] <;> rfl),bel⟩
      ·rw[if_neg ψ] at H
       have c16b0:(μ == 0)=false:=beq_eq_false_iff_ne.mpr ψ
       have c16b1:(μ != 0)=true:=bne_iff_ne.mpr ψ
       obtain rfl:=Option.some.inj H
       obtain⟨ab,al,a7,bj,bk,da,e4,ax,b5,bi,e9,gk,gp,gy⟩:=qD7 O.out
       go_wp2
       go_ret
       exact⟨rfl,HB.out⟩
     ·rw[if_neg ci] at H
      have c15b0:(ε == 0)=false:=beq_eq_false_iff_ne.mpr ci
      have c15b1:(ε != 0)=true:=bne_iff_ne.mpr ci
      obtain rfl:=Option.some.inj H
      obtain⟨fe,gq,gr,i6,i7,jb,jd,je,jf,jg,jh,ji,jj,jk⟩:=qD7 O.out
      go_wp2
      go_ret
      exact⟨rfl,HB.out⟩
    ·replace bp:=Bool.eq_false_iff.mpr bp
     subst bp
     have H1:(some 180)=some r:=by rw[if_neg (show ¬ (false=true) by decide)] at H;exact H
     clear H
     have H:=H1
     clear H1
     obtain rfl:=Option.some.inj H
     obtain⟨bn,bq,df,et,eu,ev,ew,br,bu,dh,ey,fq,fr,ft⟩:=qD7 O.out
     go_wp2
     go_ret
     exact⟨rfl,HB.out⟩
   ·rw[if_neg cy] at H
    have c13b0:(κ == 0)=false:=beq_eq_false_iff_ne.mpr cy
    have c13b1:(κ != 0)=true:=bne_iff_ne.mpr cy
    by_cases ω : κ = 1
    ·rw[if_pos ω] at H
     have c23b0:(κ == 1)=true:=beq_iff_eq.mpr ω
     have c23b1:(κ != 1)=false:=bne_eq_false_iff_eq.mpr ω
     clear ω
     by_cases gn: δ = true
     ·subst gn
      have H1:(if ε = 1 then ((car_within.f (wrap64 (ζ + ε)) 0 (wrap64 (J-1))).bind fun η =>(if η = true then ((car_within.f μ 1 60).bind fun Y=>(if Y=true then (if B=0 then (some 0) else (some 180)) else (some 180))) else (some 180))) else (if ε = (-1) then ((car_within.f (wrap64 (ζ + ε)) 0 (wrap64 (J-1))).bind fun θ =>(if θ = true then ((car_within.f μ 1 60).bind fun Z=>(if Z=true then (if B=0 then (some 0) else (some 180)) else (some 180))) else (some 180))) else (some 180)))=some r:=by rw[if_pos rfl] at H;exact H
      clear H
      have H:=H1
      clear H1
      by_cases d3: ε = 1
      ·rw[if_pos d3] at H
       have c25b0:(ε == 1)=true:=beq_iff_eq.mpr d3
       have c25b1:(ε != 1)=false:=bne_eq_false_iff_eq.mpr d3
       clear d3
       replace H:=Option.bind_eq_some_iff.mp H
       obtain⟨η,bd,H⟩:=H
       replace H:(if η = true then ((car_within.f μ 1 60).bind fun Y=>(if Y=true then (if B=0 then (some 0) else (some 180)) else (some 180))) else (some 180))=some r:=H
       have ck:=Aside0.mk bd
       clear bd
       by_cases dd: η = true
       ·subst dd
        have H1:((car_within.f μ 1 60).bind fun Y=>(if Y=true then (if B=0 then (some 0) else (some 180)) else (some 180)))=some r:=by rw[if_pos rfl] at H;exact H
        clear H
        have H:=H1
        clear H1
        replace H:=Option.bind_eq_some_iff.mp H
        obtain⟨Y,ct,H⟩:=H
        replace H:(if Y=true then (if B=0 then (some 0) else (some 180)) else (some 180))=some r:=H
        have d0:=Aside0.mk ct
        clear ct
        by_cases bg:Y=true
        ·subst bg
         have H1:(if B=0 then (some 0) else (some 180))=some r:=by rw[if_pos rfl] at H;exact H
         clear H
         have H:=H1
         clear H1
         by_cases a3:B=0
         ·rw[if_pos a3] at H
          have c30b0:(B==0)=true:=beq_iff_eq.mpr a3
          have c30b1:(B != 0)=false:=bne_eq_false_iff_eq.mpr a3
          clear a3
          obtain rfl:=Option.some.inj H
          obtain⟨dw,dx,dz,dj,ed,ez,f8,e6,e7,e8,fa,fm,fn,fo⟩:=qD7 O.out
          go_wp2_with (first|(go_at_call 85;(with_reducible refine(car_within.calls (wrap64 (ζ + ε)) 0 (wrap64 (J-1)) true _ ck.out).mono ?_);rintro e w' ⟨rfl,⟨nd,rfl⟩⟩)|(go_at_call 85;(with_reducible refine(car_within.calls μ 1 60 true _ d0.out).mono ?_);rintro e w' ⟨rfl,⟨nd,rfl⟩⟩))
          go_ret
          exact⟨by first|rfl|(simp[Qk,Qj] <;> rfl)|(simp[*,Qk,Qj] <;> rfl),bel⟩
         ·rw[if_neg a3] at H
          have c30b0:(B==0)=false:=beq_eq_false_iff_ne.mpr a3
          have c30b1:(B != 0)=true:=bne_iff_ne.mpr a3
          obtain rfl:=Option.some.inj H
          obtain⟨fu,fz,h0,jl,jm,jn,jo,h4,h5,h6,jq,jr,js,jt⟩:=qD7 O.out
          go_wp2_with (first|(go_at_call 85;(with_reducible refine(car_within.calls (wrap64 (ζ + ε)) 0 (wrap64 (J-1)) true _ ck.out).mono ?_);rintro e w' ⟨rfl,⟨nd,rfl⟩⟩)|(go_at_call 85;(with_reducible refine(car_within.calls μ 1 60 true _ d0.out).mono ?_);rintro e w' ⟨rfl,⟨nd,rfl⟩⟩))
          go_ret
          exact⟨by first|rfl|(simp[Qk,Qj] <;> rfl)|(simp[*,Qk,Qj] <;> rfl),bel⟩
        ·replace bg:=Bool.eq_false_iff.mpr bg
         subst bg
         have H1:(some 180)=some r:=by rw[if_neg (show ¬ (false=true) by decide)] at H;exact H
         clear H
         have H:=H1
         clear H1
         obtain rfl:=Option.some.inj H
         obtain⟨bw,bz,dl,bm,cj,cm,gb,ca,cb,dm,gg,gi,gj,gl⟩:=qD7 O.out
         go_wp2_with (first|(go_at_call 85;(with_reducible refine(car_within.calls (wrap64 (ζ + ε)) 0 (wrap64 (J-1)) true _ ck.out).mono ?_);rintro e w' ⟨rfl,⟨nd,rfl⟩⟩)|(go_at_call 85;(with_reducible refine(car_within.calls μ 1 60 false _ d0.out).mono ?_);rintro e w' ⟨rfl,⟨nd,rfl⟩⟩))
         go_ret
         exact⟨by first|rfl|(simp[Qk,Qj] <;> rfl)|(simp[*,Qk,Qj] <;> rfl),bel⟩
       ·replace dd:=Bool.eq_false_iff.mpr dd
        subst dd
        have H1:(some 180)=some r:=by rw[if_neg (show ¬ (false=true) by decide)] at H;exact H
        clear H
        have H:=H1
        clear H1
        obtain rfl:=Option.some.inj H
        obtain⟨gu,i9,ee,cu,cv,cw,cz,gv,ia,ef,eh,ei,ej,ek⟩:=qD7 O.out
        go_wp2_with (first|(go_at_call 85;(with_reducible refine(car_within.calls (wrap64 (ζ + ε)) 0 (wrap64 (J-1)) false _ ck.out).mono ?_);rintro e w' ⟨rfl,⟨nd,rfl⟩⟩))
        go_ret
        exact⟨by first|rfl|(simp[Qk,Qj] <;> rfl)|(simp[*,Qk,Qj] <;> rfl),bel⟩
      ·rw[if_neg d3] at H
       have c25b0:(ε == 1)=false:=beq_eq_false_iff_ne.mpr d3
       have c25b1:(ε != 1)=true:=bne_iff_ne.mpr d3
       by_cases gs: ε = (-1)
       ·rw[if_pos gs] at H
        have c35b0:(ε == (-1))=true:=beq_iff_eq.mpr gs
        have c35b1:(ε != (-1))=false:=bne_eq_false_iff_eq.mpr gs
        clear gs
        replace H:=Option.bind_eq_some_iff.mp H
        obtain⟨θ,b6,H⟩:=H
        replace H:(if θ = true then ((car_within.f μ 1 60).bind fun Z=>(if Z=true then (if B=0 then (some 0) else (some 180)) else (some 180))) else (some 180))=some r:=H
        have ae:=Aside0.mk b6
        clear b6
        by_cases fb: θ = true
        ·subst fb
         have H1:((car_within.f μ 1 60).bind fun Z=>(if Z=true then (if B=0 then (some 0) else (some 180)) else (some 180)))=some r:=by rw[if_pos rfl] at H;exact H
         clear H
         have H:=H1
         clear H1
         replace H:=Option.bind_eq_some_iff.mp H
         obtain⟨Z,d1,H⟩:=H
         replace H:(if Z=true then (if B=0 then (some 0) else (some 180)) else (some 180))=some r:=H
         have dk:=Aside0.mk d1
         clear d1
         by_cases gh:Z=true
         ·subst gh
          have H1:(if B=0 then (some 0) else (some 180))=some r:=by rw[if_pos rfl] at H;exact H
          clear H
          have H:=H1
          clear H1
          by_cases ec:B=0
          ·rw[if_pos ec] at H
           have c40b0:(B==0)=true:=beq_iff_eq.mpr ec
           have c40b1:(B != 0)=false:=bne_eq_false_iff_eq.mpr ec
           clear ec
           obtain rfl:=Option.some.inj H
           obtain⟨ea,eb,eo,h7,ho,hx,hy,ep,er,fp,i2,i3,ih,ii⟩:=qD7 O.out
           go_wp2_with (first|(go_at_call 85;(with_reducible refine(car_within.calls (wrap64 (ζ + ε)) 0 (wrap64 (J-1)) true _ ae.out).mono ?_);rintro e w' ⟨rfl,⟨nd,rfl⟩⟩)|(go_at_call 85;(with_reducible refine(car_within.calls μ 1 60 true _ dk.out).mono ?_);rintro e w' ⟨rfl,⟨nd,rfl⟩⟩))
           go_ret
           exact⟨by first|rfl|(simp[Qk,Qj] <;> rfl)|(simp[*,Qk,Qj] <;> rfl),bel⟩
          ·rw[if_neg ec] at H
           have c40b0:(B==0)=false:=beq_eq_false_iff_ne.mpr ec
           have c40b1:(B != 0)=true:=bne_iff_ne.mpr ec
           obtain rfl:=Option.some.inj H
           obtain⟨dn,dq,dr,ff,fg,fi,fj,dt,du,dv,fk,fl,jc,ki⟩:=qD7 O.out
           go_wp2_with (first|(go_at_call 85;(with_reducible refine(car_within.calls (wrap64 (ζ + ε)) 0 (wrap64 (J-1)) true _ ae.out).mono ?_);rintro e w' ⟨rfl,⟨nd,rfl⟩⟩)|(go_at_call 85;(with_reducible refine(car_within.calls μ 1 60 true _ dk.out).mono ?_);rintro e w' ⟨rfl,⟨nd,rfl⟩⟩))
           go_ret
           exact⟨by first|rfl|(simp[Qk,Qj] <;> rfl)|(simp[*,Qk,Qj] <;> rfl),bel⟩
         ·replace gh:=Bool.eq_false_iff.mpr gh
          subst gh
          have H1:(some 180)=some r:=by rw[if_neg (show ¬ (false=true) by decide)] at H;exact H
          clear H
          have H:=H1
          clear H1
          obtain rfl:=Option.some.inj H
          obtain⟨jy,jz,k0,k1,k2,k3,k4,k5,k6,k7,k8,k9,ka,kb⟩:=qD7 O.out
          go_wp2_with (first|(go_at_call 85;(with_reducible refine(car_within.calls (wrap64 (ζ + ε)) 0 (wrap64 (J-1)) true _ ae.out).mono ?_);rintro e w' ⟨rfl,⟨nd,rfl⟩⟩)|(go_at_call 85;(with_reducible refine(car_within.calls μ 1 60 false _ dk.out).mono ?_);rintro e w' ⟨rfl,⟨nd,rfl⟩⟩))
          go_ret
          exact⟨by first|rfl|(simp[Qk,Qj] <;> rfl)|(simp[*,Qk,Qj] <;> rfl),bel⟩
        ·replace fb:=Bool.eq_false_iff.mpr fb
         subst fb
         have H1:(some 180)=some r:=by rw[if_neg (show ¬ (false=true) by decide)] at H;exact H
         clear H
         have H:=H1
         clear H1
         obtain rfl:=Option.some.inj H
         obtain⟨e0,dc,ju,jv,jw,jx,kc,e3,de,kd,ke,kf,kg,kj⟩:=qD7 O.out
         go_wp2_with (first|(go_at_call 85;(with_reducible refine(car_within.calls (wrap64 (ζ + ε)) 0 (wrap64 (J-1)) false _ ae.out).mono ?_);rintro e w' ⟨rfl,⟨nd,rfl⟩⟩))
         go_ret
         exact⟨by first|rfl|(simp[Qk,Qj] <;> rfl)|(simp[*,Qk,Qj] <;> rfl),bel⟩
       ·rw[if_neg gs] at H
        have c35b0:(ε == (-1))=false:=beq_eq_false_iff_ne.mpr gs
        have c35b1:(ε != (-1))=true:=bne_iff_ne.mpr gs
        obtain rfl:=Option.some.inj H
        obtain⟨dp,fv,i4,i5,ij,ik,il,fw,ga,im,io,ip,iq,ir⟩:=qD7 O.out
        go_wp2
        go_ret
        exact⟨by first|rfl|(simp[Qk,Qj] <;> rfl)|(simp[*,Qk,Qj] <;> rfl),bel⟩
     ·replace gn:=Bool.eq_false_iff.mpr gn
      subst gn
      have H1:(some 180)=some r:=by rw[if_neg (show ¬ (false=true) by decide)] at H;exact H
      clear H
      have H:=H1
      clear H1
      obtain rfl:=Option.some.inj H
      obtain⟨gm,gw,ib,ic,ie,ig,it,gx,gz,iu,iv,iw,ix,iy⟩:=qD7 O.out
      go_wp2
      go_ret
      exact⟨rfl,HB.out⟩
    ·rw[if_neg ω] at H
     have c23b0:(κ == 1)=false:=beq_eq_false_iff_ne.mpr ω
     have c23b1:(κ != 1)=true:=bne_iff_ne.mpr ω
     by_cases gt: κ = 2
     ·rw[if_pos gt] at H
      have c47b0:(κ == 2)=true:=beq_iff_eq.mpr gt
      have c47b1:(κ != 2)=false:=bne_eq_false_iff_eq.mpr gt
      clear gt
      by_cases ar: δ = true
      ·subst ar
       have H1:(if ε = 0 then ((car_within.f μ 1 60).bind fun ι =>(if ι = true then (if B=0 then (some 0) else (some 180)) else (some 180))) else (some 180))=some r:=by rw[if_pos rfl] at H;exact H
       clear H
       have H:=H1
       clear H1
       by_cases dy: ε = 0
       ·rw[if_pos dy] at H
        have c49b0:(ε == 0)=true:=beq_iff_eq.mpr dy
        have c49b1:(ε != 0)=false:=bne_eq_false_iff_eq.mpr dy
        clear dy
        replace H:=Option.bind_eq_some_iff.mp H
        obtain⟨ι,f7,H⟩:=H
        replace H:(if ι = true then (if B=0 then (some 0) else (some 180)) else (some 180))=some r:=H
        have d7:=Aside0.mk f7
        clear f7
        by_cases iz: ι = true
        ·subst iz
         have H1:(if B=0 then (some 0) else (some 180))=some r:=by rw[if_pos rfl] at H;exact H
         clear H
         have H:=H1
         clear H1
         by_cases i0:B=0
         ·rw[if_pos i0] at H
          have c52b0:(B==0)=true:=beq_iff_eq.mpr i0
          have c52b1:(B != 0)=false:=bne_eq_false_iff_eq.mpr i0
          clear i0
          obtain rfl:=Option.some.inj H
          obtain⟨kk,kl,km,ll,lm,lp,lq,kn,ko,kp,ml,mm,mo,mq⟩:=qD7 O.out
          go_wp2_with (first|(go_at_call 85;(with_reducible refine(car_within.calls μ 1 60 true _ d7.out).mono ?_);rintro e w' ⟨rfl,⟨nd,rfl⟩⟩))
          go_ret
          exact⟨by first|rfl|(simp[Qk,Qj] <;> rfl)|(simp[*,Qk,Qj] <;> rfl),bel⟩
         ·rw[if_neg i0] at H
          have c52b0:(B==0)=false:=beq_eq_false_iff_ne.mpr i0
          have c52b1:(B != 0)=true:=bne_iff_ne.mpr i0
          obtain rfl:=Option.some.inj H
          obtain⟨ks,kt,ku,kv,kw,kx,ky,kz,l2,l3,l4,l5,l6,l7⟩:=qD7 O.out
          go_wp2_with (first|(go_at_call 85;(with_reducible refine(car_within.calls μ 1 60 true _ d7.out).mono ?_);rintro e w' ⟨rfl,⟨nd,rfl⟩⟩))
          go_ret
          exact⟨by first|rfl|(simp[Qk,Qj] <;> rfl)|(simp[*,Qk,Qj] <;> rfl),bel⟩
        ·replace iz:=Bool.eq_false_iff.mpr iz
         subst iz
         have H1:(some 180)=some r:=by rw[if_neg (show ¬ (false=true) by decide)] at H;exact H
         clear H
         have H:=H1
         clear H1
         obtain rfl:=Option.some.inj H
         obtain⟨h8,h9,j2,mr,ms,mt,mu,ha,he,j4,mw,my,mz,n0⟩:=qD7 O.out
         go_wp2_with (first|(go_at_call 85;(with_reducible refine(car_within.calls μ 1 60 false _ d7.out).mono ?_);rintro e w' ⟨rfl,⟨nd,rfl⟩⟩))
         go_ret
         exact⟨by first|rfl|(simp[Qk,Qj] <;> rfl)|(simp[*,Qk,Qj] <;> rfl),bel⟩
       ·rw[if_neg dy] at H
        have c49b0:(ε == 0)=false:=beq_eq_false_iff_ne.mpr dy
        have c49b1:(ε != 0)=true:=bne_iff_ne.mpr dy
        obtain rfl:=Option.some.inj H
        obtain⟨n1,n2,n3,na,nb,nc,nf,ng,nh,ni,nj,nk,nl,nm⟩:=qD7 O.out
        go_wp2
        go_ret
        exact⟨by first|rfl|(simp[Qk,Qj] <;> rfl)|(simp[*,Qk,Qj] <;> rfl),bel⟩
      ·replace ar:=Bool.eq_false_iff.mpr ar
       subst ar
       have H1:(some 180)=some r:=by rw[if_neg (show ¬ (false=true) by decide)] at H;exact H
       clear H
       have H:=H1
       clear H1
       obtain rfl:=Option.some.inj H
       obtain⟨j5,j6,j7,nn,np,nq,nr,j8,j9,ja,ns,nt,nu,nv⟩:=qD7 O.out
       go_wp2
       go_ret
       exact⟨rfl,HB.out⟩
     ·rw[if_neg gt] at H
      have c47b0:(κ == 2)=false:=beq_eq_false_iff_ne.mpr gt
      have c47b1:(κ != 2)=true:=bne_iff_ne.mpr gt
      by_cases ge: κ = 3
      ·rw[if_pos ge] at H
       have c58b0:(κ == 3)=true:=beq_iff_eq.mpr ge
       have c58b1:(κ != 3)=false:=bne_eq_false_iff_eq.mpr ge
       clear ge
       by_cases kh: δ = true
       ·subst kh
        have H1:(if ε = 0 then (if μ = 0 then (if B=0 then (some 180) else (some 0)) else (some 180)) else (some 180))=some r:=by rw[if_pos rfl] at H;exact H
        clear H
        have H:=H1
        clear H1
        by_cases jp: ε = 0
        ·rw[if_pos jp] at H
         have c60b0:(ε == 0)=true:=beq_iff_eq.mpr jp
         have c60b1:(ε != 0)=false:=bne_eq_false_iff_eq.mpr jp
         clear jp
         by_cases i1: μ = 0
         ·rw[if_pos i1] at H
          have c61b0:(μ == 0)=true:=beq_iff_eq.mpr i1
          have c61b1:(μ != 0)=false:=bne_eq_false_iff_eq.mpr i1
          clear i1
          by_cases gf:B=0
          ·rw[if_pos gf] at H
           have c62b0:(B==0)=true:=beq_iff_eq.mpr gf
           have c62b1:(B != 0)=false:=bne_eq_false_iff_eq.mpr gf
           clear gf
           obtain rfl:=Option.some.inj H
           obtain⟨nw,nx,ny,nz,o0,o1,o2,o3,o4,o5,o6,o7,o8,o9⟩:=qD7 O.out
           go_wp2
           go_ret
           exact⟨by first|rfl|(simp[Qk,Qj] <;> rfl)|(simp[*,Qk,Qj] <;> rfl),bel⟩
          ·rw[if_neg gf] at H
           have c62b0:(B==0)=false:=beq_eq_false_iff_ne.mpr gf
           have c62b1:(B != 0)=true:=bne_iff_ne.mpr gf
           obtain rfl:=Option.some.inj H
           obtain⟨hh,hj,fx,oa,ob,oc,od,hl,hu,l8,oe,oh,oi,oj⟩:=qD7 O.out
           go_wp2
           go_ret
           exact⟨by first|rfl|(simp[Qk,Qj] <;> rfl)|(simp[*,Qk,Qj] <;> rfl),bel⟩
         ·rw[if_neg i1] at H
          have c61b0:(μ == 0)=false:=beq_eq_false_iff_ne.mpr i1
          have c61b1:(μ != 0)=true:=bne_iff_ne.mpr i1
          obtain rfl:=Option.some.inj H
          obtain⟨l9,lb,lc,lf,lr,ls,lu,lv,lx,ly,lz,m0,m1,m2⟩:=qD7 O.out
          go_wp2
          go_ret
          exact⟨by first|rfl|(simp[Qk,Qj] <;> rfl)|(simp[*,Qk,Qj] <;> rfl),bel⟩
        ·rw[if_neg jp] at H
         have c60b0:(ε == 0)=false:=beq_eq_false_iff_ne.mpr jp
         have c60b1:(ε != 0)=true:=bne_iff_ne.mpr jp
         obtain rfl:=Option.some.inj H
         obtain⟨e5,eg,ol,om,oo,oq,ot,el,em,ou,ov,ow,ox,oy⟩:=qD7 O.out
         go_wp2
         go_ret
         exact⟨by first|rfl|(simp[Qk,Qj] <;> rfl)|(simp[*,Qk,Qj] <;> rfl),bel⟩
       ·replace kh:=Bool.eq_false_iff.mpr kh
        subst kh
        have H1:(some 180)=some r:=by rw[if_neg (show ¬ (false=true) by decide)] at H;exact H
        clear H
        have H:=H1
        clear H1
        obtain rfl:=Option.some.inj H
        obtain⟨m3,m4,m5,m6,m7,m8,m9,ma,mb,mc,me,mf,mg,mh⟩:=qD7 O.out
        go_wp2
        go_ret
        exact⟨by first|rfl|(simp[Qk,Qj] <;> rfl)|(simp[*,Qk,Qj] <;> rfl),bel⟩
      ·rw[if_neg ge] at H
       have c58b0:(κ == 3)=false:=beq_eq_false_iff_ne.mpr ge
       have c58b1:(κ != 3)=true:=bne_iff_ne.mpr ge
       obtain rfl:=Option.some.inj H
       obtain⟨lg,lh,ln,oz,p0,p1,p5,lw,mi,mj,p7,p8,p9,pa⟩:=qD7 O.out
       go_wp2
       go_ret
       exact⟨rfl,HB.out⟩
def car_check.f (k:Nat) (J:Int) (O:Int) (X:Int) (Y:Int) (Z:Int) (δ :Int) (γ:Int) (ι :Int) (θ :Int) (η :Int) (ζ :Int) (ε :Int) (κ :Int) (μ :Int) (B:Int) (τ :Int) (χ :Int):Option (Int):=(door_Rest.f k J O X Y Z δ γ ι θ η 0 0 0).bind fun a0=>(if a0.2=0 then ((car_Check.f k J ζ ε κ μ B τ χ).bind fun ρ=>(some ρ)) else (some 180))
theorem car_check.mono:∀ J Y a2 a3 O a5 X a7 a8 a9 Z γ δ ζ ε η θ k,LeO (car_check.f k J Y a2 a3 O a5 X a7 a8 a9 Z γ δ ζ ε η θ) (car_check.f (k+1) J Y a2 a3 O a5 X a7 a8 a9 Z γ δ ζ ε η θ):=by
 intro J Y a2 a3 O a5 X a7 a8 a9 Z γ δ ζ ε η θ k
 unfold car_check.f
 repeat' first
   |(with_reducible exact car_Check.mono _ _ _ _ _ _ _ _ _)
   |(with_reducible exact door_Rest.mono _ _ _ _ _ _ _ _ _ _ _ _ _ _)
   |(with_reducible exact LeO.refl _)
   |(with_reducible exact LeO.none _)
   |(with_reducible refine LeO.ite ?_ ?_)
   |(with_reducible refine LeO.bind ?_ (fun _=>?_))
   |exact car_Check.mono _ _ _ _ _ _ _ _ _
   |exact door_Rest.mono _ _ _ _ _ _ _ _ _ _ _ _ _ _
   |exact LeO.none _
   |refine LeO.ite ?_ ?_
   |refine LeO.bind ?_ (fun _=>?_)
set_option maxHeartbeats 8000000 in
set_option maxRecDepth 100000 in
theorem car_check.calls (k:Nat) (J:Int) (O:Int) (X:Int) (Y:Int) (Z:Int) (δ :Int) (γ:Int) (ι :Int) (θ :Int) (η :Int) (ζ :Int) (ε :Int) (κ :Int) (μ :Int) (B:Int) (τ :Int) (χ :Int) (r:Int) (w:World) (h:car_check.f k J O X Y Z δ γ ι θ η ζ ε κ μ B τ χ = some r):
  Calls Try.prog 45 #[.agg #[.int .i64 J,.int .i64 O,.int .i64 X,.int .i64 Y,.int .i64 Z,.int .i64 δ,.int .i64 γ,.int .i64 ι,.int .i64 θ,.int .i64 η],.agg #[.int .i64 ζ,.int .i64 ε,.int .i64 κ,.int .i64 μ,.int .i64 B,.int .i64 τ,.int .i64 χ]] w fun e w'=>e = .returned (.int .i64 r)∧Below w.heap.size w w':=by
 have e5:=Try.underlying25
 have fy:=Try.underlying29
 have d9:=Try.underlying27
 have HB:=Aside0.mk (Below.refl w.heap.size w)
 have H:((door_Rest.f k J O X Y Z δ γ ι θ η 0 0 0).bind fun a0=>(if a0.2=0 then ((car_Check.f k J ζ ε κ μ B τ χ).bind fun ρ=>(some ρ)) else (some 180)))=some r:=h
 clear h
 replace H:=Option.bind_eq_some_iff.mp H
 obtain⟨⟨a1,σ⟩,d1,H⟩:=H
 replace H:(if σ=0 then ((car_Check.f k J ζ ε κ μ B τ χ).bind fun ρ=>(some ρ)) else (some 180))=some r:=H
 have A3:=Aside0.mk d1
 clear d1
 by_cases c4:σ=0
 ·rw[if_pos c4] at H
  have c4b0:(σ==0)=true:=beq_iff_eq.mpr c4
  have c4b1:(σ != 0)=false:=bne_eq_false_iff_eq.mpr c4
  clear c4
  replace H:=Option.bind_eq_some_iff.mp H
  obtain⟨ρ,d7,H⟩:=H
  replace H:(some ρ)=some r:=H
  have A5:=Aside0.mk d7
  clear d7
  obtain rfl:=Option.some.inj H
  go_enter Try.func45,Try.ntmps45
  go_wp2_with (first|((with_reducible refine Qf (N:=2) rfl ?_);refine qE 2 #[.int .i64 J,.int .i64 O,.int .i64 X,.int .i64 Y,.int .i64 Z,.int .i64 δ,.int .i64 γ,.int .i64 ι,.int .i64 θ,.int .i64 η] 25 ?_;intro a3 hg w6 hbox hb;have ν :=Aside0.mk hbox;have a7:=sGe hg;have aa:=sGe hg;replace HB:=sHb hb;clear hb hbox hg)|((with_reducible refine Qf (N:=3) rfl ?_);refine qE 3 #[.int .i64 ζ,.int .i64 ε,.int .i64 κ,.int .i64 μ,.int .i64 B,.int .i64 τ,.int .i64 χ] 29 ?_;intro ab hg w7 hbox hb;have ξ :=Aside0.mk hbox;have ae:=sGe hg;have ag:=sGe hg;have ψ :=sNl ν hg;have ω :=sNg ν hg;replace ν :=sBk ν hb;replace HB:=sHb hb;clear hb hbox hg;have cu:= ψ.out;have cv:= ω.out;obtain⟨bp,bq,d0,d8,df,dh,dy,e4,cw,ee,bu,cd,e8,ea,ed,eo,ep,er,ef,fn⟩:=Zn ν.out)|((with_reducible refine Qo (f:=47) rfl ?_);refine Q6 (some 10) rfl rfl Try.func47 kr rfl #[.agg #[.int .i64 J,.int .i64 O,.int .i64 X,.int .i64 Y,.int .i64 Z,.int .i64 δ,.int .i64 γ,.int .i64 ι,.int .i64 θ,.int .i64 η],.agg #[.int .i64 0,.int .i64 0,.int .i64 0]] rfl qM ?_;(with_reducible refine(door_Rest.calls k J O X Y Z δ γ ι θ η 0 0 0 a1 σ _ A3.out).mono ?_);rintro e ih ⟨rfl,hb⟩;refine⟨_,rfl, ?_⟩;replace ν :=sBk ν hb;replace ξ :=sBk ξ hb;replace HB:=sHb hb;(try clear hb);(try clear ac);(try clear hk);(try clear hi);obtain⟨dq,dr,e0,fb,fc,fe,ff,fg,k4,k5,dt,du,e3,fh,fi,fj,fk,fl,k6,k7⟩:=Zn ν.out;obtain⟨φ,a2,a6,a9,af,ah,ai,a4,a5,a8,ay,az,b0,bh⟩:=qD7 ξ.out)|((with_reducible refine Qo (f:=69) rfl ?_);refine Q6 (some 18) rfl rfl Try.func69 kr rfl #[.int .i64 J,.agg #[.int .i64 ζ,.int .i64 ε,.int .i64 κ,.int .i64 μ,.int .i64 B,.int .i64 τ,.int .i64 χ]] rfl qM ?_;(with_reducible refine(car_Check.calls k J ζ ε κ μ B τ χ ρ _ A5.out).mono ?_);rintro e fx ⟨rfl,hb⟩;refine⟨_,rfl, ?_⟩;replace ν :=sBk ν hb;replace ξ :=sBk ξ hb;replace HB:=sHb hb;(try clear hb);(try clear ac);(try clear hk);(try clear hi)))
  go_ret
  exact⟨rfl,HB.out⟩
 ·rw[if_neg c4] at H
  have c4b0:(σ==0)=false:=beq_eq_false_iff_ne.mpr c4
  have c4b1:(σ != 0)=true:=bne_iff_ne.mpr c4
  obtain rfl:=Option.some.inj H
  go_enter Try.func45,Try.ntmps45
  go_wp2_with (first|((with_reducible refine Qf (N:=2) rfl ?_);refine qE 2 #[.int .i64 J,.int .i64 O,.int .i64 X,.int .i64 Y,.int .i64 Z,.int .i64 δ,.int .i64 γ,.int .i64 ι,.int .i64 θ,.int .i64 η] 25 ?_;intro a3 hg ec hbox hb;have ν :=Aside0.mk hbox;have a7:=sGe hg;have aa:=sGe hg;replace HB:=sHb hb;clear hb hbox hg)|((with_reducible refine Qf (N:=3) rfl ?_);refine qE 3 #[.int .i64 ζ,.int .i64 ε,.int .i64 κ,.int .i64 μ,.int .i64 B,.int .i64 τ,.int .i64 χ] 29 ?_;intro ab hg ge hbox hb;have ξ :=Aside0.mk hbox;have ae:=sGe hg;have ag:=sGe hg;have ψ :=sNl ν hg;have ω :=sNg ν hg;replace ν :=sBk ν hb;replace HB:=sHb hb;clear hb hbox hg;have dn:= ψ.out;have dv:= ω.out;obtain⟨b1,b2,b6,al,ax,b5,bi,bo,cf,cg,b3,b4,bn,ch,ci,dw,dx,dz,e6,e7⟩:=Zn ν.out)|((with_reducible refine Qo (f:=47) rfl ?_);refine Q6 (some 10) rfl rfl Try.func47 kr rfl #[.agg #[.int .i64 J,.int .i64 O,.int .i64 X,.int .i64 Y,.int .i64 Z,.int .i64 δ,.int .i64 γ,.int .i64 ι,.int .i64 θ,.int .i64 η],.agg #[.int .i64 0,.int .i64 0,.int .i64 0]] rfl qM ?_;(with_reducible refine(door_Rest.calls k J O X Y Z δ γ ι θ η 0 0 0 a1 σ _ A3.out).mono ?_);rintro e i2 ⟨rfl,hb⟩;refine⟨_,rfl, ?_⟩;replace ν :=sBk ν hb;replace ξ :=sBk ξ hb;replace HB:=sHb hb;(try clear hb);(try clear ac);(try clear hk);(try clear hi)))
  go_ret
  exact⟨rfl,HB.out⟩
def car_Rest.f (k:Nat) (J:Int) (O:Int) (X:Int) (Y:Int) (Z:Int) (δ :Int) (γ:Int) (ι :Int) (θ :Int) (η :Int) (ζ :Int) (ε :Int) (κ :Int) (μ :Int) (B:Int) (τ :Int) (χ :Int):Option (Int×Int):=(car_check.f k J O X Y Z δ γ ι θ η ζ ε κ μ B τ χ).bind fun ρ=>(if ρ=0 then (if κ = 2 then ((door_Ask.f k O X Y Z δ γ ι B τ χ).bind fun σ=>((door_Rest.f k J O X Y Z δ γ ι θ η σ.1 σ.2.1 σ.2.2.1).bind fun a1=>(some (wrap64 (μ + a1.1),0)))) else ((door_Rest.f k J O X Y Z δ γ ι θ η B τ χ).bind fun au=>(some (wrap64 (μ + au.1),0)))) else (some (0,ρ)))
theorem car_Rest.mono:∀ J Y a2 a3 O a5 X a7 a8 a9 Z γ δ ζ ε η θ k,LeO (car_Rest.f k J Y a2 a3 O a5 X a7 a8 a9 Z γ δ ζ ε η θ) (car_Rest.f (k+1) J Y a2 a3 O a5 X a7 a8 a9 Z γ δ ζ ε η θ):=by
 intro J Y a2 a3 O a5 X a7 a8 a9 Z γ δ ζ ε η θ k
 unfold car_Rest.f
 repeat' first
   |(with_reducible exact car_check.mono _ _ _ _ _ _ _ _ _ _ _ _ _ _ _ _ _ _)
   |(with_reducible exact door_Ask.mono _ _ _ _ _ _ _ _ _ _ _)
   |(with_reducible exact door_Rest.mono _ _ _ _ _ _ _ _ _ _ _ _ _ _)
   |(with_reducible exact LeO.refl _)
   |(with_reducible exact LeO.none _)
   |(with_reducible refine LeO.ite ?_ ?_)
   |(with_reducible refine LeO.bind ?_ (fun _=>?_))
   |exact car_check.mono _ _ _ _ _ _ _ _ _ _ _ _ _ _ _ _ _ _
   |exact door_Ask.mono _ _ _ _ _ _ _ _ _ _ _
   |exact door_Rest.mono _ _ _ _ _ _ _ _ _ _ _ _ _ _
   |exact LeO.none _
   |refine LeO.ite ?_ ?_
   |refine LeO.bind ?_ (fun _=>?_)
set_option maxHeartbeats 8000000 in
set_option maxRecDepth 100000 in
theorem car_Rest.calls (k:Nat) (J:Int) (O:Int) (X:Int) (Y:Int) (Z:Int) (δ :Int) (γ:Int) (ι :Int) (θ :Int) (η :Int) (ζ :Int) (ε :Int) (κ :Int) (μ :Int) (B:Int) (τ :Int) (χ :Int) (r1:Int) (r2:Int) (w:World) (h:car_Rest.f k J O X Y Z δ γ ι θ η ζ ε κ μ B τ χ = some (r1,r2)):
  Calls Try.prog 25 #[.agg #[.int .i64 J,.int .i64 O,.int .i64 X,.int .i64 Y,.int .i64 Z,.int .i64 δ,.int .i64 γ,.int .i64 ι,.int .i64 θ,.int .i64 η],.agg #[.int .i64 ζ,.int .i64 ε,.int .i64 κ,.int .i64 μ,.int .i64 B,.int .i64 τ,.int .i64 χ]] w fun e w'=>e = .returned (.tuple #[.int .i64 r1,.int .i64 r2])∧Below w.heap.size w w':=by
 have e5:=Try.underlying25
 have fy:=Try.underlying29
 have d9:=Try.underlying27
 have gn:=Try.underlying23
 have HB:=Aside0.mk (Below.refl w.heap.size w)
 have H:((car_check.f k J O X Y Z δ γ ι θ η ζ ε κ μ B τ χ).bind fun ρ=>(if ρ=0 then (if κ = 2 then ((door_Ask.f k O X Y Z δ γ ι B τ χ).bind fun σ=>((door_Rest.f k J O X Y Z δ γ ι θ η σ.1 σ.2.1 σ.2.2.1).bind fun a1=>(some (wrap64 (μ + a1.1),0)))) else ((door_Rest.f k J O X Y Z δ γ ι θ η B τ χ).bind fun au=>(some (wrap64 (μ + au.1),0)))) else (some (0,ρ))))=some (r1,r2):=h
 clear h
 replace H:=Option.bind_eq_some_iff.mp H
 obtain⟨ρ,d1,H⟩:=H
 replace H:(if ρ=0 then (if κ = 2 then ((door_Ask.f k O X Y Z δ γ ι B τ χ).bind fun σ=>((door_Rest.f k J O X Y Z δ γ ι θ η σ.1 σ.2.1 σ.2.2.1).bind fun a1=>(some (wrap64 (μ + a1.1),0)))) else ((door_Rest.f k J O X Y Z δ γ ι θ η B τ χ).bind fun au=>(some (wrap64 (μ + au.1),0)))) else (some (0,ρ)))=some (r1,r2):=H
 have A3:=Aside0.mk d1
 clear d1
 by_cases c4:ρ=0
 ·rw[if_pos c4] at H
  have c4b0:(ρ==0)=true:=beq_iff_eq.mpr c4
  have c4b1:(ρ != 0)=false:=bne_eq_false_iff_eq.mpr c4
  clear c4
  by_cases c5: κ = 2
  ·rw[if_pos c5] at H
   have c5b0:(κ == 2)=true:=beq_iff_eq.mpr c5
   have c5b1:(κ != 2)=false:=bne_eq_false_iff_eq.mpr c5
   clear c5
   replace H:=Option.bind_eq_some_iff.mp H
   obtain⟨⟨ar,av,bg,d6⟩,d0,H⟩:=H
   replace H:((door_Rest.f k J O X Y Z δ γ ι θ η ar av bg).bind fun a1=>(some (wrap64 (μ + a1.1),0)))=some (r1,r2):=H
   have A6:=Aside0.mk d0
   clear d0
   replace H:=Option.bind_eq_some_iff.mp H
   obtain⟨⟨cp,di⟩,bo,H⟩:=H
   replace H:(some (wrap64 (μ + cp),0))=some (r1,r2):=H
   have A7:=Aside0.mk bo
   clear bo
   simp only[Option.some.injEq,Prod.mk.injEq] at H
   obtain⟨rfl,rfl⟩:=H
   go_enter Try.func25,Try.ntmps25
   go_wp2_with (first|((with_reducible refine Qf (N:=2) rfl ?_);refine qE 2 #[.int .i64 J,.int .i64 O,.int .i64 X,.int .i64 Y,.int .i64 Z,.int .i64 δ,.int .i64 γ,.int .i64 ι,.int .i64 θ,.int .i64 η] 25 ?_;intro bl hg w8 hbox hb;have ν :=Aside0.mk hbox;have bp:=sGe hg;have bv:=sGe hg;replace HB:=sHb hb;clear hb hbox hg)|((with_reducible refine Qf (N:=3) rfl ?_);refine qE 3 #[.int .i64 ζ,.int .i64 ε,.int .i64 κ,.int .i64 μ,.int .i64 B,.int .i64 τ,.int .i64 χ] 29 ?_;intro ci hg w9 hbox hb;have ξ :=Aside0.mk hbox;have cn:=sGe hg;have co:=sGe hg;have ω :=sNl ν hg;have a0:=sNg ν hg;replace ν :=sBk ν hb;replace HB:=sHb hb;clear hb hbox hg;have jk:= ω.out;have jl:=a0.out;obtain⟨dq,dr,e0,fb,fc,fe,ff,fg,k4,k5,dt,du,e3,fh,fi,fj,fk,fl,k6,k7⟩:=Zn ν.out;obtain⟨φ,a2,a6,a9,af,ah,ai,a4,a5,a8,ay,az,b0,bh⟩:=qD7 ξ.out)|((with_reducible refine Qo (f:=45) rfl ?_);refine Q6 (some 12) rfl rfl Try.func45 kr rfl #[.agg #[.int .i64 J,.int .i64 O,.int .i64 X,.int .i64 Y,.int .i64 Z,.int .i64 δ,.int .i64 γ,.int .i64 ι,.int .i64 θ,.int .i64 η],.agg #[.int .i64 ζ,.int .i64 ε,.int .i64 κ,.int .i64 μ,.int .i64 B,.int .i64 τ,.int .i64 χ]] rfl qM ?_;(with_reducible refine(car_check.calls k J O X Y Z δ γ ι θ η ζ ε κ μ B τ χ ρ _ A3.out).mono ?_);rintro e fx ⟨rfl,hb⟩;refine⟨_,rfl, ?_⟩;replace ν :=sBk ν hb;replace ξ :=sBk ξ hb;replace HB:=sHb hb;(try clear hb);(try clear ac);(try clear hk);(try clear hi);obtain⟨ct,cu,ee,ef,eg,eh,ei,cv,cw,ej,ek,el,em,en⟩:=qD7 ξ.out)|((with_reducible refine Qf (N:=7) rfl ?_);refine qE 7 #[.int .i64 0,.int .i64 0,.int .i64 0] 27 ?_;intro aw hg ge hbox hb;have ψ :=Aside0.mk hbox;have cx:=sGe hg;have cy:=sGe hg;have a3:=sNl ν hg;have aa:=sNg ν hg;have ae:=sNl ξ hg;have ag:=sNg ξ hg;replace ν :=sBk ν hb;replace ξ :=sBk ξ hb;replace HB:=sHb hb;clear hb hbox hg;have dn:=aa.out;have dv:=a3.out;have ha:=ag.out;have he:=ae.out;obtain⟨cd,cf,b3,cg,ch,b4⟩:=qD3 ψ.out;obtain⟨aj,ak,ao,b7,b8,b9,ba,am,an,ap,bb,bc,be,bf⟩:=qD7 ξ.out;obtain⟨ab,al,a7,bj,bk,da,e4,h5,h6,hh,ax,b5,bi,e9,gk,gp,gy,hj,hl,hu⟩:=Zn ν.out)|((with_reducible refine Qo (f:=46) rfl ?_);refine Q6 (some 25) rfl rfl Try.func46 kr rfl #[.agg #[.int .i64 O,.int .i64 X,.int .i64 Y,.int .i64 Z,.int .i64 δ,.int .i64 γ,.int .i64 ι],.agg #[.int .i64 B,.int .i64 τ,.int .i64 χ]] rfl qM ?_;(with_reducible refine(door_Ask.calls k O X Y Z δ γ ι B τ χ ar av bg d6 _ A6.out).mono ?_);rintro e cz ⟨rfl,hb⟩;refine⟨_,rfl, ?_⟩;replace ν :=sBk ν hb;replace ξ :=sBk ξ hb;replace ψ :=Aside0.mk (Qz (g:=aw) (o:=.cells #[.int .i64 B,.int .i64 τ,.int .i64 χ] 27 (0,0)) (by refine Ql (cs:=#[.int .i64 B,.int .i64 τ,.int .i64 0]) ?_ 2 _ rfl;refine Ql (cs:=#[.int .i64 B,.int .i64 0,.int .i64 0]) ?_ 1 _ rfl;refine Ql (cs:=#[.int .i64 0,.int .i64 0,.int .i64 0]) ?_ 0 _ rfl;exact ψ.out) hb);replace HB:=sHb hb;(try clear hb);(try clear ac);(try clear hk);(try clear hi);obtain⟨bn,bq,df,br,bu,dh⟩:=qD3 ψ.out;obtain⟨dk,et,eu,i0,i1,i9,ia,iz,j2,j4,ev,ew,ey,j5,j6,j7,j8,j9,ja,jb⟩:=Zn ν.out)|((with_reducible refine Qo (f:=47) rfl ?_);refine Q6 (some 31) rfl rfl Try.func47 kr rfl #[.agg #[.int .i64 J,.int .i64 O,.int .i64 X,.int .i64 Y,.int .i64 Z,.int .i64 δ,.int .i64 γ,.int .i64 ι,.int .i64 θ,.int .i64 η],.agg #[.int .i64 ar,.int .i64 av,.int .i64 bg]] rfl qM ?_;(with_reducible refine(door_Rest.calls k J O X Y Z δ γ ι θ η ar av bg cp di _ A7.out).mono ?_);rintro e bs ⟨rfl,hb⟩;refine⟨_,rfl, ?_⟩;replace ν :=sBk ν hb;replace ξ :=sBk ξ hb;replace ψ :=Aside0.mk (Qz (g:=aw) (o:=.cells #[.int .i64 ar,.int .i64 av,.int .i64 bg] 27 (0,0)) (by refine Ql (cs:=#[.int .i64 ar,.int .i64 av,.int .i64 χ]) ?_ 2 _ rfl;refine Ql (cs:=#[.int .i64 ar,.int .i64 τ,.int .i64 χ]) ?_ 1 _ rfl;refine Ql (cs:=#[.int .i64 B,.int .i64 τ,.int .i64 χ]) ?_ 0 _ rfl;exact ψ.out) hb);replace HB:=sHb hb;(try clear hb);(try clear ac);(try clear hk);(try clear hi);obtain⟨db,dc,b1,b6,ec,f7,fq,dd,de,b2,fr,ft,fu,fz⟩:=qD7 ξ.out))
   go_ret2
   exact⟨rfl,HB.out⟩
  ·rw[if_neg c5] at H
   have c5b0:(κ == 2)=false:=beq_eq_false_iff_ne.mpr c5
   have c5b1:(κ != 2)=true:=bne_iff_ne.mpr c5
   replace H:=Option.bind_eq_some_iff.mp H
   obtain⟨⟨cr,jc⟩,bd,H⟩:=H
   replace H:(some (wrap64 (μ + cr),0))=some (r1,r2):=H
   have ck:=Aside0.mk bd
   clear bd
   simp only[Option.some.injEq,Prod.mk.injEq] at H
   obtain⟨rfl,rfl⟩:=H
   go_enter Try.func25,Try.ntmps25
   go_wp2_with (first|((with_reducible refine Qf (N:=2) rfl ?_);refine qE 2 #[.int .i64 J,.int .i64 O,.int .i64 X,.int .i64 Y,.int .i64 Z,.int .i64 δ,.int .i64 γ,.int .i64 ι,.int .i64 θ,.int .i64 η] 25 ?_;intro bl hg d8 hbox hb;have ν :=Aside0.mk hbox;have bp:=sGe hg;have bv:=sGe hg;replace HB:=sHb hb;clear hb hbox hg)|((with_reducible refine Qf (N:=3) rfl ?_);refine qE 3 #[.int .i64 ζ,.int .i64 ε,.int .i64 κ,.int .i64 μ,.int .i64 B,.int .i64 τ,.int .i64 χ] 29 ?_;intro ci hg dy hbox hb;have ξ :=Aside0.mk hbox;have cn:=sGe hg;have co:=sGe hg;have ω :=sNl ν hg;have a0:=sNg ν hg;replace ν :=sBk ν hb;replace HB:=sHb hb;clear hb hbox hg;have ms:= ω.out;have mt:=a0.out;obtain⟨gq,gr,i6,jv,jw,jx,jy,lp,lq,lr,gs,gt,i7,jz,k0,k1,k2,ls,lu,lv⟩:=Zn ν.out;obtain⟨dw,dx,dz,dj,ed,ez,f8,e6,e7,e8,fa,fm,fn,fo⟩:=qD7 ξ.out)|((with_reducible refine Qo (f:=45) rfl ?_);refine Q6 (some 12) rfl rfl Try.func45 kr rfl #[.agg #[.int .i64 J,.int .i64 O,.int .i64 X,.int .i64 Y,.int .i64 Z,.int .i64 δ,.int .i64 γ,.int .i64 ι,.int .i64 θ,.int .i64 η],.agg #[.int .i64 ζ,.int .i64 ε,.int .i64 κ,.int .i64 μ,.int .i64 B,.int .i64 τ,.int .i64 χ]] rfl qM ?_;(with_reducible refine(car_check.calls k J O X Y Z δ γ ι θ η ζ ε κ μ B τ χ ρ _ A3.out).mono ?_);rintro e jd ⟨rfl,hb⟩;refine⟨_,rfl, ?_⟩;replace ν :=sBk ν hb;replace ξ :=sBk ξ hb;replace HB:=sHb hb;(try clear hb);(try clear ac);(try clear hk);(try clear hi);obtain⟨bw,bz,dl,bm,cj,cm,gb,ca,cb,dm,gg,gi,gj,gl⟩:=qD7 ξ.out)|((with_reducible refine Qf (N:=7) rfl ?_);refine qE 7 #[.int .i64 0,.int .i64 0,.int .i64 0] 27 ?_;intro aw hg jm hbox hb;have ψ :=Aside0.mk hbox;have cx:=sGe hg;have cy:=sGe hg;have a3:=sNl ν hg;have aa:=sNg ν hg;have ae:=sNl ξ hg;have ag:=sNg ξ hg;replace ν :=sBk ν hb;replace ξ :=sBk ξ hb;replace HB:=sHb hb;clear hb hbox hg;have l7:=aa.out;have l8:=a3.out;have k8:=ag.out;have kh:=ae.out;obtain⟨je,jf,jg,jh,ji,jj⟩:=qD3 ψ.out;obtain⟨jn,jo,jq,jr,js,jt,ju,k3,k9,ka,kb,kc,kd,ke⟩:=qD7 ξ.out;obtain⟨gf,gh,gu,kf,kg,ki,kj,kk,kl,km,gv,h0,h4,kn,ko,kp,kq,ks,kt,kv⟩:=Zn ν.out)|((with_reducible refine Qo (f:=47) rfl ?_);refine Q6 (some 31) rfl rfl Try.func47 kr rfl #[.agg #[.int .i64 J,.int .i64 O,.int .i64 X,.int .i64 Y,.int .i64 Z,.int .i64 δ,.int .i64 γ,.int .i64 ι,.int .i64 θ,.int .i64 η],.agg #[.int .i64 B,.int .i64 τ,.int .i64 χ]] rfl qM ?_;(with_reducible refine(door_Rest.calls k J O X Y Z δ γ ι θ η B τ χ cr jc _ ck.out).mono ?_);rintro e ku ⟨rfl,hb⟩;refine⟨_,rfl, ?_⟩;replace ν :=sBk ν hb;replace ξ :=sBk ξ hb;replace ψ :=Aside0.mk (Qz (g:=aw) (o:=.cells #[.int .i64 B,.int .i64 τ,.int .i64 χ] 27 (0,0)) (by refine Ql (cs:=#[.int .i64 B,.int .i64 τ,.int .i64 0]) ?_ 2 _ rfl;refine Ql (cs:=#[.int .i64 B,.int .i64 0,.int .i64 0]) ?_ 1 _ rfl;refine Ql (cs:=#[.int .i64 0,.int .i64 0,.int .i64 0]) ?_ 0 _ rfl;exact ψ.out) hb);replace HB:=sHb hb;(try clear hb);(try clear ac);(try clear hk);(try clear hi);obtain⟨ea,eb,eo,h7,ho,hx,hy,ep,er,fp,i2,i3,ih,ii⟩:=qD7 ξ.out))
   go_ret2
   exact⟨rfl,HB.out⟩
 ·rw[if_neg c4] at H
  have c4b0:(ρ==0)=false:=beq_eq_false_iff_ne.mpr c4
  have c4b1:(ρ != 0)=true:=bne_iff_ne.mpr c4
  simp only[Option.some.injEq,Prod.mk.injEq] at H
  obtain⟨rfl,rfl⟩:=H
  go_enter Try.func25,Try.ntmps25
  go_wp2_with (first|((with_reducible refine Qf (N:=2) rfl ?_);refine qE 2 #[.int .i64 J,.int .i64 O,.int .i64 X,.int .i64 Y,.int .i64 Z,.int .i64 δ,.int .i64 γ,.int .i64 ι,.int .i64 θ,.int .i64 η] 25 ?_;intro bl hg nk hbox hb;have ν :=Aside0.mk hbox;have bp:=sGe hg;have bv:=sGe hg;replace HB:=sHb hb;clear hb hbox hg)|((with_reducible refine Qf (N:=3) rfl ?_);refine qE 3 #[.int .i64 ζ,.int .i64 ε,.int .i64 κ,.int .i64 μ,.int .i64 B,.int .i64 τ,.int .i64 χ] 29 ?_;intro ci hg ce hbox hb;have ξ :=Aside0.mk hbox;have cn:=sGe hg;have co:=sGe hg;have ω :=sNl ν hg;have a0:=sNg ν hg;replace ν :=sBk ν hb;replace HB:=sHb hb;clear hb hbox hg;have h8:= ω.out;have h9:=a0.out;obtain⟨dp,fv,i4,i5,ij,ik,il,cq,d2,d3,fw,ga,im,io,ip,iq,ir,d4,d5,d7⟩:=Zn ν.out;obtain⟨gm,gw,ib,ic,ie,ig,it,gx,gz,iu,iv,iw,ix,iy⟩:=qD7 ξ.out)|((with_reducible refine Qo (f:=45) rfl ?_);refine Q6 (some 12) rfl rfl Try.func45 kr rfl #[.agg #[.int .i64 J,.int .i64 O,.int .i64 X,.int .i64 Y,.int .i64 Z,.int .i64 δ,.int .i64 γ,.int .i64 ι,.int .i64 θ,.int .i64 η],.agg #[.int .i64 ζ,.int .i64 ε,.int .i64 κ,.int .i64 μ,.int .i64 B,.int .i64 τ,.int .i64 χ]] rfl qM ?_;(with_reducible refine(car_check.calls k J O X Y Z δ γ ι θ η ζ ε κ μ B τ χ ρ _ A3.out).mono ?_);rintro e jp ⟨rfl,hb⟩;refine⟨_,rfl, ?_⟩;replace ν :=sBk ν hb;replace ξ :=sBk ξ hb;replace HB:=sHb hb;(try clear hb);(try clear ac);(try clear hk);(try clear hi)))
  go_ret2
  exact⟨rfl,HB.out⟩
def group_lift.f (k:Nat) (J:Int) (O:Int) (X:Int) (Y:Int) (Z:Int) (δ :Int) (γ:Int) (ι :Int) (θ :Int) (η :Int) (ζ :Int) (ε :Int) (κ :Int) (μ :Int) (B:Int) (τ :Int) (χ :Int) (ψ :Int) (ω :Bool) (a1:Bool):Option (Bool):=(car_Rest.f k J O X Y Z δ γ ι θ η ζ ε κ μ B τ χ).bind fun a3=>(if a3.2=0 then (if (-1) ≤ ψ then (some (decide (ψ ≤ 1))) else (some false)) else (some false))
theorem group_lift.mono:∀ J Y a2 a3 O a5 X a7 a8 a9 Z γ δ ζ ε η θ B ι κ k,LeO (group_lift.f k J Y a2 a3 O a5 X a7 a8 a9 Z γ δ ζ ε η θ B ι κ) (group_lift.f (k+1) J Y a2 a3 O a5 X a7 a8 a9 Z γ δ ζ ε η θ B ι κ):=by
 intro J Y a2 a3 O a5 X a7 a8 a9 Z γ δ ζ ε η θ B ι κ k
 unfold group_lift.f
 repeat' first
   |(with_reducible exact car_Rest.mono _ _ _ _ _ _ _ _ _ _ _ _ _ _ _ _ _ _)
   |(with_reducible exact LeO.refl _)
   |(with_reducible exact LeO.none _)
   |(with_reducible refine LeO.ite ?_ ?_)
   |(with_reducible refine LeO.bind ?_ (fun _=>?_))
   |exact car_Rest.mono _ _ _ _ _ _ _ _ _ _ _ _ _ _ _ _ _ _
   |exact LeO.none _
   |refine LeO.ite ?_ ?_
   |refine LeO.bind ?_ (fun _=>?_)
set_option maxHeartbeats 8000000 in
set_option maxRecDepth 100000 in
theorem group_lift.calls (k:Nat) (J:Int) (O:Int) (X:Int) (Y:Int) (Z:Int) (δ :Int) (γ:Int) (ι :Int) (θ :Int) (η :Int) (ζ :Int) (ε :Int) (κ :Int) (μ :Int) (B:Int) (τ :Int) (χ :Int) (ψ :Int) (ω :Bool) (a1:Bool) (r:Bool) (w:World) (h:group_lift.f k J O X Y Z δ γ ι θ η ζ ε κ μ B τ χ ψ ω a1=some r):
  Calls Try.prog 28 #[.agg #[.int .i64 J,.int .i64 O,.int .i64 X,.int .i64 Y,.int .i64 Z,.int .i64 δ,.int .i64 γ,.int .i64 ι,.int .i64 θ,.int .i64 η],.agg #[.int .i64 ζ,.int .i64 ε,.int .i64 κ,.int .i64 μ,.int .i64 B,.int .i64 τ,.int .i64 χ,.int .i64 ψ,.bool ω,.bool a1]] w fun e w'=>e = .returned (.bool r)∧Below w.heap.size w w':=by
 have e5:=Try.underlying25
 have jc:=Try.underlying31
 have fy:=Try.underlying29
 have HB:=Aside0.mk (Below.refl w.heap.size w)
 have H:((car_Rest.f k J O X Y Z δ γ ι θ η ζ ε κ μ B τ χ).bind fun a3=>(if a3.2=0 then (if (-1) ≤ ψ then (some (decide (ψ ≤ 1))) else (some false)) else (some false)))=some r:=h
 clear h
 replace H:=Option.bind_eq_some_iff.mp H
 obtain⟨⟨a7,a0⟩,d1,H⟩:=H
 replace H:(if a0=0 then (if (-1) ≤ ψ then (some (decide (ψ ≤ 1))) else (some false)) else (some false))=some r:=H
 have A3:=Aside0.mk d1
 clear d1
 by_cases c4:a0=0
 ·rw[if_pos c4] at H
  have c4b0:(a0==0)=true:=beq_iff_eq.mpr c4
  have c4b1:(a0 != 0)=false:=bne_eq_false_iff_eq.mpr c4
  clear c4
  by_cases c5:(-1) ≤ ψ
  ·rw[if_pos c5] at H
   have c5b0:decide ((-1) ≤ ψ)=true:=decide_eq_true c5
   clear c5
   obtain rfl:=Option.some.inj H
   go_enter Try.func28,Try.ntmps28
   go_wp2_with (first|((with_reducible refine Qf (N:=2) rfl ?_);refine qE 2 #[.int .i64 J,.int .i64 O,.int .i64 X,.int .i64 Y,.int .i64 Z,.int .i64 δ,.int .i64 γ,.int .i64 ι,.int .i64 θ,.int .i64 η] 25 ?_;intro aa hg w6 hbox hb;have ν :=Aside0.mk hbox;have ab:=sGe hg;have ae:=sGe hg;replace HB:=sHb hb;clear hb hbox hg)|((with_reducible refine Qf (N:=3) rfl ?_);refine qE 3 #[.int .i64 ζ,.int .i64 ε,.int .i64 κ,.int .i64 μ,.int .i64 B,.int .i64 τ,.int .i64 χ,.int .i64 ψ,.bool ω,.bool a1] 31 ?_;intro bd hg w7 hbox hb;have ξ :=Aside0.mk hbox;have br:=sGe hg;have ct:=sGe hg;have ρ:=sNl ν hg;have σ:=sNg ν hg;replace ν :=sBk ν hb;replace HB:=sHb hb;clear hb hbox hg;have cu:=ρ.out;have cv:=σ.out;obtain⟨bp,bq,d0,d8,df,dh,dy,e4,cw,ee,bu,cd,e8,ea,ed,eo,ep,er,ef,fn⟩:=Zn ν.out;obtain⟨ag,bs,bv,ce,cn,co,cp,bl,dq,du,cq,cr,cx,d2,d4,d5,d6,e0,e3,ez⟩:=Zn ξ.out)|((with_reducible refine Qo (f:=25) rfl ?_);refine Q6 (some 11) rfl rfl Try.func25 kr rfl #[.agg #[.int .i64 J,.int .i64 O,.int .i64 X,.int .i64 Y,.int .i64 Z,.int .i64 δ,.int .i64 γ,.int .i64 ι,.int .i64 θ,.int .i64 η],.agg #[.int .i64 ζ,.int .i64 ε,.int .i64 κ,.int .i64 μ,.int .i64 B,.int .i64 τ,.int .i64 χ]] rfl qM ?_;(with_reducible refine(car_Rest.calls k J O X Y Z δ γ ι θ η ζ ε κ μ B τ χ a7 a0 _ A3.out).mono ?_);rintro e di ⟨rfl,hb⟩;refine⟨_,rfl, ?_⟩;replace ν :=sBk ν hb;replace ξ :=sBk ξ hb;replace HB:=sHb hb;(try clear hb);(try clear ac);(try clear hk);(try clear hi);obtain⟨φ,a2,a6,a9,af,ah,ai,dp,dr,dt,a4,a5,a8,ay,az,b0,bh,ff,fg,fm⟩:=Zn ξ.out))
   go_ret
   exact⟨rfl,HB.out⟩
  ·rw[if_neg c5] at H
   have c5b0:decide ((-1) ≤ ψ)=false:=decide_eq_false c5
   clear c5
   obtain rfl:=Option.some.inj H
   go_enter Try.func28,Try.ntmps28
   go_wp2_with (first|((with_reducible refine Qf (N:=2) rfl ?_);refine qE 2 #[.int .i64 J,.int .i64 O,.int .i64 X,.int .i64 Y,.int .i64 Z,.int .i64 δ,.int .i64 γ,.int .i64 ι,.int .i64 θ,.int .i64 η] 25 ?_;intro aa hg fx hbox hb;have ν :=Aside0.mk hbox;have ab:=sGe hg;have ae:=sGe hg;replace HB:=sHb hb;clear hb hbox hg)|((with_reducible refine Qf (N:=3) rfl ?_);refine qE 3 #[.int .i64 ζ,.int .i64 ε,.int .i64 κ,.int .i64 μ,.int .i64 B,.int .i64 τ,.int .i64 χ,.int .i64 ψ,.bool ω,.bool a1] 31 ?_;intro bd hg ec hbox hb;have ξ :=Aside0.mk hbox;have br:=sGe hg;have ct:=sGe hg;have ρ:=sNl ν hg;have σ:=sNg ν hg;replace ν :=sBk ν hb;replace HB:=sHb hb;clear hb hbox hg;have gq:=ρ.out;have gr:=σ.out;obtain⟨dl,dm,bg,bw,bz,ca,cb,cj,f7,fb,dn,dv,bm,ck,cm,cy,d3,d7,fc,fe⟩:=Zn ν.out;obtain⟨b1,b2,b6,al,ax,b5,bi,bo,cf,cg,b3,b4,bn,ch,ci,dw,dx,dz,e6,e7⟩:=Zn ξ.out)|((with_reducible refine Qo (f:=25) rfl ?_);refine Q6 (some 11) rfl rfl Try.func25 kr rfl #[.agg #[.int .i64 J,.int .i64 O,.int .i64 X,.int .i64 Y,.int .i64 Z,.int .i64 δ,.int .i64 γ,.int .i64 ι,.int .i64 θ,.int .i64 η],.agg #[.int .i64 ζ,.int .i64 ε,.int .i64 κ,.int .i64 μ,.int .i64 B,.int .i64 τ,.int .i64 χ]] rfl qM ?_;(with_reducible refine(car_Rest.calls k J O X Y Z δ γ ι θ η ζ ε κ μ B τ χ a7 a0 _ A3.out).mono ?_);rintro e i2 ⟨rfl,hb⟩;refine⟨_,rfl, ?_⟩;replace ν :=sBk ν hb;replace ξ :=sBk ξ hb;replace HB:=sHb hb;(try clear hb);(try clear ac);(try clear hk);(try clear hi);obtain⟨aj,ak,ao,b7,b8,b9,ba,d9,da,db,am,an,ap,bb,bc,be,bf,dc,dd,de⟩:=Zn ξ.out))
   go_ret
   exact⟨rfl,HB.out⟩
 ·rw[if_neg c4] at H
  have c4b0:(a0==0)=false:=beq_eq_false_iff_ne.mpr c4
  have c4b1:(a0 != 0)=true:=bne_iff_ne.mpr c4
  obtain rfl:=Option.some.inj H
  go_enter Try.func28,Try.ntmps28
  go_wp2_with (first|((with_reducible refine Qf (N:=2) rfl ?_);refine qE 2 #[.int .i64 J,.int .i64 O,.int .i64 X,.int .i64 Y,.int .i64 Z,.int .i64 δ,.int .i64 γ,.int .i64 ι,.int .i64 θ,.int .i64 η] 25 ?_;intro aa hg dj hbox hb;have ν :=Aside0.mk hbox;have ab:=sGe hg;have ae:=sGe hg;replace HB:=sHb hb;clear hb hbox hg)|((with_reducible refine Qf (N:=3) rfl ?_);refine qE 3 #[.int .i64 ζ,.int .i64 ε,.int .i64 κ,.int .i64 μ,.int .i64 B,.int .i64 τ,.int .i64 χ,.int .i64 ψ,.bool ω,.bool a1] 31 ?_;intro bd hg cz hbox hb;have ξ :=Aside0.mk hbox;have br:=sGe hg;have ct:=sGe hg;have ρ:=sNl ν hg;have σ:=sNg ν hg;replace ν :=sBk ν hb;replace HB:=sHb hb;clear hb hbox hg;have f8:=ρ.out;have fa:=σ.out;obtain⟨dk,et,eu,i0,i1,i9,ia,iz,j2,j4,ev,ew,ey,j5,j6,j7,j8,j9,ja,jb⟩:=Zn ν.out;obtain⟨ar,au,bj,eb,eg,eh,ei,ej,ek,el,av,aw,bk,em,en,fh,fi,fj,fk,fl⟩:=Zn ξ.out)|((with_reducible refine Qo (f:=25) rfl ?_);refine Q6 (some 11) rfl rfl Try.func25 kr rfl #[.agg #[.int .i64 J,.int .i64 O,.int .i64 X,.int .i64 Y,.int .i64 Z,.int .i64 δ,.int .i64 γ,.int .i64 ι,.int .i64 θ,.int .i64 η],.agg #[.int .i64 ζ,.int .i64 ε,.int .i64 κ,.int .i64 μ,.int .i64 B,.int .i64 τ,.int .i64 χ]] rfl qM ?_;(with_reducible refine(car_Rest.calls k J O X Y Z δ γ ι θ η ζ ε κ μ B τ χ a7 a0 _ A3.out).mono ?_);rintro e e9 ⟨rfl,hb⟩;refine⟨_,rfl, ?_⟩;replace ν :=sBk ν hb;replace ξ :=sBk ξ hb;replace HB:=sHb hb;(try clear hb);(try clear ac);(try clear hk);(try clear hi)))
  go_ret
  exact⟨rfl,HB.out⟩
end Go.Proofs.Ytmfffemidlhcpaa.C
namespace Go.Proofs.Ytmfffemidlhcpaa.GrpPure
open Go.RowKit Go.Proofs.YtmfffemidlhcpaaW.PrintWords Go.Proofs.YtmfffemidlhcpaaW.PrintLast Go.Proofs.YtmfffemidlhcpaaW.PrintMore Go.Proofs.Ytmfffemidlhcpaa.C Go.Proofs.Ytmfffemidlhcpaa.DoorPure
abbrev Xl (F c0 c1 c2 c3 c4:Int):Prop:=
  (c2=0∧c1=0∧c3=0∧c4=0)∨(c2=1∧(c1=1∨c1 = -1)∧(0≤c0+c1∧c0+c1<F)∧(1≤c3∧c3≤60)∧c4=0)∨(c2=2∧c1=0∧(1≤c3∧c3≤60)∧c4=0)∨(c2=3∧c1=0∧c3=0∧c4≠0)
abbrev Vi (F c0 c1 c2 c3 c4 c5 c6:Int):Prop:=((2≤F∧F≤64)∧(0≤c0∧c0<F)∧Xz c4 c5 c6)∧Xl F c0 c1 c2 c3 c4
theorem Kf (n a b:Int):car_within.f n a b=some (decide (a≤n∧n≤b)):=by
  unfold car_within.f
  by_cases h:a≤n
  · rw[if_pos h];simp[h]
  · rw[if_neg h];simp[h]
theorem G1 (F c0 c1 c2 c3 c4 c5 c6:Int) (f:Nat):car_Check.j0 (f+1) F false c0 c1 c2 c3 c4 c5 c6=some 180:=by
  simp[car_Check.j0]
theorem Mm (F c0 c1 c2 c3 c4 c5 c6:Int) (f:Nat) (h:(2≤F∧F≤64)∧(0≤c0∧c0<F)):car_Check.j0 (f+1) F true c0 c1 c2 c3 c4 c5 c6=some (if Xl F c0 c1 c2 c3 c4 then 0 else 180):=by
  obtain⟨h1,O⟩:=h
  have e1:wrap64 (c0+1)=c0+1:=w64 (by omega)
  have e2:wrap64 (c0 + -1)=c0 + -1:=w64 (by omega)
  have B:wrap64 (F-1)=F-1:=w64 (by omega)
  simp only[car_Check.j0,Kf,Option.bind_some,if_true]
  by_cases J:c2=0
  · subst J
    rw[if_pos rfl]
    by_cases b1:c1=0 <;> by_cases b2:c3=0 <;> by_cases b3:c4=0 <;> simp[Xl,b1,b2,b3]
  · rw[if_neg J]
    by_cases Y:c2=1
    · subst Y
      rw[if_pos rfl]
      by_cases b1:c1=1
      · subst b1
        rw[if_pos rfl,e1,B]
        by_cases b2:0≤c0+1∧c0+1≤F-1
        · rw[decide_eq_true b2,if_pos rfl]
          by_cases b3:1≤c3∧c3≤60
          · rw[decide_eq_true b3,if_pos rfl]
            by_cases X:c4=0
            · rw[if_pos X,if_pos (Or.inr (Or.inl ⟨rfl,Or.inl rfl,by omega,b3,X⟩))]
            · rw[if_neg X,if_neg (by unfold Xl;omega)]
          · rw[decide_eq_false b3,if_neg (by decide),if_neg (by unfold Xl;omega)]
        · rw[decide_eq_false b2,if_neg (by decide),if_neg (by unfold Xl;omega)]
      · rw[if_neg b1]
        by_cases Z:c1 = -1
        · subst Z
          rw[if_pos rfl,e2,B]
          by_cases b2:0≤c0 + -1∧c0 + -1≤F-1
          · rw[decide_eq_true b2,if_pos rfl]
            by_cases b3:1≤c3∧c3≤60
            · rw[decide_eq_true b3,if_pos rfl]
              by_cases X:c4=0
              · rw[if_pos X,if_pos (Or.inr (Or.inl ⟨rfl,Or.inr rfl,by omega,b3,X⟩))]
              · rw[if_neg X,if_neg (by unfold Xl;omega)]
            · rw[decide_eq_false b3,if_neg (by decide),if_neg (by unfold Xl;omega)]
          · rw[decide_eq_false b2,if_neg (by decide),if_neg (by unfold Xl;omega)]
        · rw[if_neg Z,if_neg (by unfold Xl;omega)]
    · rw[if_neg Y]
      by_cases a2:c2=2
      · subst a2
        rw[if_pos rfl]
        by_cases b1:c1=0
        · rw[if_pos b1]
          by_cases b3:1≤c3∧c3≤60
          · rw[decide_eq_true b3,if_pos rfl]
            by_cases X:c4=0
            · rw[if_pos X,if_pos (Or.inr (Or.inr (Or.inl ⟨rfl,b1,b3,X⟩)))]
            · rw[if_neg X,if_neg (by unfold Xl;omega)]
          · rw[decide_eq_false b3,if_neg (by decide),if_neg (by unfold Xl;omega)]
        · rw[if_neg b1,if_neg (by unfold Xl;omega)]
      · rw[if_neg a2]
        by_cases a3:c2=3
        · subst a3
          rw[if_pos rfl]
          by_cases b1:c1=0 <;> by_cases b2:c3=0 <;> by_cases b3:c4=0 <;> simp[Xl,b1,b2,b3]
        · rw[if_neg a3,if_neg (by unfold Xl;omega)]
theorem U6 (F c0 c1 c2 c3 c4 c5 c6:Int) (f:Nat) (hf:2<f):car_Check.f f F c0 c1 c2 c3 c4 c5 c6=some (if Vi F c0 c1 c2 c3 c4 c5 c6 then 0 else 180):=by
  obtain⟨f,rfl⟩:∃ m,f=m+1:=⟨f-1,by omega⟩
  unfold car_Check.f
  rw[Kf,Kf,X9]
  simp only[Option.bind_some,G1]
  by_cases h1:2≤F∧F≤64
  · rw[decide_eq_true h1,if_pos rfl,w64 (n:=F-1) (by omega)]
    by_cases O:0≤c0∧c0≤F-1
    · rw[decide_eq_true O,if_pos rfl]
      by_cases Z:Xz c4 c5 c6
      · rw[if_pos Z]
        show car_Check.j0 (f+1) F true c0 c1 c2 c3 c4 c5 c6=_
        rw[Mm _ _ _ _ _ _ _ _ _ ⟨h1,by omega⟩]
        by_cases h4:Xl F c0 c1 c2 c3 c4
        · rw[if_pos h4,if_pos ⟨⟨h1,by omega,Z⟩,h4⟩]
        · rw[if_neg h4,if_neg (fun h=>h4 h.2)]
      · rw[if_neg Z]
        show car_Check.j0 (f+1) F false c0 c1 c2 c3 c4 c5 c6=_
        rw[G1,if_neg (fun h=>Z h.1.2.2)]
    · rw[decide_eq_false O,if_neg (by decide),if_neg (fun h=>O ⟨h.1.2.1.1,by have:=h.1.2.1.2;omega⟩)]
  · rw[decide_eq_false h1,if_neg (by decide),if_neg (fun h=>h1 h.1.1)]
theorem Ml (g0 g1 g2 g3 g4 g5 g6 g7 g8 g9 c0 c1 c2 c3 c4 c5 c6:Int) (f:Nat) (hf:10<f):car_check.f f g0 g1 g2 g3 g4 g5 g6 g7 g8 g9 c0 c1 c2 c3 c4 c5 c6=some (if Yd g0 g1 g2 g3 g4 g5 g6 g7 g8 g9∧Vi g0 c0 c1 c2 c3 c4 c5 c6 then 0 else 180):=by
  unfold car_check.f
  rw[Wz _ _ _ _ _ _ _ _ _ _ _ _ _ f hf,U6 _ _ _ _ _ _ _ _ f (by omega)]
  simp only[Option.bind_some]
  by_cases h1:Yd g0 g1 g2 g3 g4 g5 g6 g7 g8 g9
  · have hz:Yd g0 g1 g2 g3 g4 g5 g6 g7 g8 g9∧Xz 0 0 0:=⟨h1,by unfold Xz;omega⟩
    rw[if_pos hz]
    simp only[if_true]
    by_cases O:Vi g0 c0 c1 c2 c3 c4 c5 c6
    · rw[if_pos O,if_pos ⟨h1,O⟩]
    · rw[if_neg O,if_neg (fun h=>O h.2)]
  · have hz:¬ (Yd g0 g1 g2 g3 g4 g5 g6 g7 g8 g9∧Xz 0 0 0):=fun h=>h1 h.1
    have hy:¬ (Yd g0 g1 g2 g3 g4 g5 g6 g7 g8 g9∧Vi g0 c0 c1 c2 c3 c4 c5 c6):=fun h=>h1 h.1
    rw[if_neg hz,if_neg hy]
    simp only
    rw[if_neg (by decide)]
def Jc (g3 g6 g8 g9 c2 c3 c4 c5 c6:Int):Int:=c3+(if c2=2 then Gp g3 g6 g8 g9 1 g3 0 else Gp g3 g6 g8 g9 c4 c5 c6)
theorem Uv (g0 g1 g2 g3 g4 g5 g6 g7 g8 g9 Z d1 X:Int) (hg:Yd g0 g1 g2 g3 g4 g5 g6 g7 g8 g9) (hd:Xz Z d1 X):0≤Gp g3 g6 g8 g9 Z d1 X∧Gp g3 g6 g8 g9 Z d1 X≤26000:=by
  obtain⟨-,B,J⟩:=Uu _ _ _ _ _ _ _ _ _ _ _ _ _ hg hd
  have Y:1≤g3∧g3≤60:=hg.1.1.2.2.1
  have a2:1≤g6∧g6≤60:=hg.1.1.2.2.2.2.2
  have a3:1≤g8∧g8≤300:=hg.2.2.1
  unfold Gp
  generalize(if X<g9 then (g9-X) * (g3+g8+g6) else 0)=p at B J ⊢
  split
  · omega
  · split
    · omega
    · split <;> omega
theorem U7 (g0 g1 g2 g3 g4 g5 g6 g7 g8 g9 c0 c1 c2 c3 c4 c5 c6:Int) (hg:Yd g0 g1 g2 g3 g4 g5 g6 g7 g8 g9) (hc:Vi g0 c0 c1 c2 c3 c4 c5 c6):0≤Jc g3 g6 g8 g9 c2 c3 c4 c5 c6∧Jc g3 g6 g8 g9 c2 c3 c4 c5 c6≤26060:=by
  have Y:1≤g3∧g3≤60:=hg.1.1.2.2.1
  have b1:=Uv _ _ _ _ _ _ _ _ _ _ 1 g3 0 hg (by unfold Xz;omega)
  have b2:=Uv _ _ _ _ _ _ _ _ _ _ _ _ _ hg hc.1.2.2
  have b3:0≤c3∧c3≤60:=by have:=hc.2;unfold Xl at this;omega
  unfold Jc
  split <;> omega
theorem G0 (g0 g1 g2 g3 g4 g5 g6 g7 g8 g9 c0 c1 c2 c3 c4 c5 c6:Int) (f:Nat) (hf:10<f):car_Rest.f f g0 g1 g2 g3 g4 g5 g6 g7 g8 g9 c0 c1 c2 c3 c4 c5 c6=some (if Yd g0 g1 g2 g3 g4 g5 g6 g7 g8 g9∧Vi g0 c0 c1 c2 c3 c4 c5 c6 then (Jc g3 g6 g8 g9 c2 c3 c4 c5 c6,0) else (0,180)):=by
  unfold car_Rest.f
  rw[Ml _ _ _ _ _ _ _ _ _ _ _ _ _ _ _ _ _ f hf,Dp _ _ _ _ _ _ _ _ _ _ f hf]
  simp only[Option.bind_some,Wz _ _ _ _ _ _ _ _ _ _ _ _ _ f hf]
  by_cases h:Yd g0 g1 g2 g3 g4 g5 g6 g7 g8 g9∧Vi g0 c0 c1 c2 c3 c4 c5 c6
  · rw[if_pos h,if_pos rfl,if_pos h]
    have hb:=U7 _ _ _ _ _ _ _ _ _ _ _ _ _ _ _ _ _ h.1 h.2
    have Y:1≤g3∧g3≤60:=h.1.1.1.2.2.1
    unfold Jc at hb ⊢
    by_cases e:c2=2
    · have B:c4=0:=by have:=h.2.2;unfold Xl at this;omega
      have hd:Xz 1 g3 0:=by unfold Xz;omega
      have ht:J9 g1 g2 g3 g4 g5 g6 g7∧Xz c4 c5 c6:=⟨h.1.1,h.2.1.2.2⟩
      have hy:Yd g0 g1 g2 g3 g4 g5 g6 g7 g8 g9∧Xz 1 g3 0:=⟨h.1,hd⟩
      rw[if_pos e] at hb
      simp only[if_pos e,if_pos ht,if_pos B,if_pos hy]
      rw[w64 (by omega)]
    · have hy:Yd g0 g1 g2 g3 g4 g5 g6 g7 g8 g9∧Xz c4 c5 c6:=⟨h.1,h.2.1.2.2⟩
      rw[if_neg e] at hb
      simp only[if_neg e,if_pos hy]
      rw[w64 (by omega)]
  · rw[if_neg h,if_neg (by decide),if_neg h]
abbrev Gc (g0 g1 g2 g3 g4 g5 g6 g7 g8 g9 c0 c1 c2 c3 c4 c5 c6 l7:Int):Prop:=(Yd g0 g1 g2 g3 g4 g5 g6 g7 g8 g9∧Vi g0 c0 c1 c2 c3 c4 c5 c6) ∧ -1≤l7∧l7≤1
theorem W5 (g0 g1 g2 g3 g4 g5 g6 g7 g8 g9 c0 c1 c2 c3 c4 c5 c6 l7:Int) (l8 l9:Bool) (f:Nat) (hf:10<f):group_lift.f f g0 g1 g2 g3 g4 g5 g6 g7 g8 g9 c0 c1 c2 c3 c4 c5 c6 l7 l8 l9=some (decide (Gc g0 g1 g2 g3 g4 g5 g6 g7 g8 g9 c0 c1 c2 c3 c4 c5 c6 l7)):=by
  unfold group_lift.f
  rw[G0 _ _ _ _ _ _ _ _ _ _ _ _ _ _ _ _ _ f hf]
  simp only[Option.bind_some]
  by_cases h:Yd g0 g1 g2 g3 g4 g5 g6 g7 g8 g9∧Vi g0 c0 c1 c2 c3 c4 c5 c6
  · rw[if_pos h]
    simp only[if_true]
    by_cases e: -1≤l7
    · rw[if_pos e];congr 1;rw[decide_eq_decide];exact⟨fun x=>⟨h,e,x⟩,fun x=>x.2.2⟩
    · rw[if_neg e,decide_eq_false (fun x=>e x.2.1)]
  · rw[if_neg h,if_neg (by decide),decide_eq_false (fun x=>h x.1)]
end Go.Proofs.Ytmfffemidlhcpaa.GrpPure
namespace Go.Proofs.Ytmfffemidlhcpaa.C
open Go.RowKit Go.Proofs.YtmfffemidlhcpaaW.PrintWords Go.Proofs.YtmfffemidlhcpaaW.PrintLast Go.Proofs.YtmfffemidlhcpaaW.PrintMore
attribute [local go_sem] Z3 Z1 Xg Xf Zt Zs Z2 Z0
set_option linter.unusedVariables false
set_option linter.unusedSimpArgs false
def group_cost.f (k:Nat) (J:Int) (O:Int) (X:Int) (Y:Int) (Z:Int) (δ :Int) (γ:Int) (ι :Int) (θ :Int) (η :Int) (ζ :Int) (ε :Int) (κ :Int) (μ :Int) (B:Int) (τ :Int) (χ :Int) (ψ :Int) (ω :Bool) (a1:Bool) (φ :List Int) (a0:List Int) (a4:List Int) (a5:Int) (a6:Int) (a8:Int):Option (Int):=(car_Rest.f k J O X Y Z δ γ ι θ η ζ ε κ μ B τ χ).bind fun a9=>((group_way.f k J ζ ε κ μ B τ χ ψ ω a1 a5 a6 a8).bind fun a7=>(some (wrap64 ((wrap64 (a9.1+(wrap64 (O * a7))))+(wrap64 ((wrap64 ((wrap64 ((wrap64 (X+Y)) + θ))+γ)) * (wrap64 ((wrap64 ((φ.length:Int)+(a0.length:Int)))+(a4.length:Int)))))))))
theorem group_cost.mono:∀ J Y a2 a3 O a5 X a7 a8 a9 Z γ δ ζ ε η θ B ι κ μ ν ξ ρ σ τ k,LeO (group_cost.f k J Y a2 a3 O a5 X a7 a8 a9 Z γ δ ζ ε η θ B ι κ μ ν ξ ρ σ τ) (group_cost.f (k+1) J Y a2 a3 O a5 X a7 a8 a9 Z γ δ ζ ε η θ B ι κ μ ν ξ ρ σ τ):=by
 intro J Y a2 a3 O a5 X a7 a8 a9 Z γ δ ζ ε η θ B ι κ μ ν ξ ρ σ τ k
 unfold group_cost.f
 repeat' first
   |(with_reducible exact car_Rest.mono _ _ _ _ _ _ _ _ _ _ _ _ _ _ _ _ _ _)
   |(with_reducible exact group_way.mono _ _ _ _ _ _ _ _ _ _ _ _ _ _ _)
   |(with_reducible exact LeO.refl _)
   |(with_reducible exact LeO.none _)
   |(with_reducible refine LeO.ite ?_ ?_)
   |(with_reducible refine LeO.bind ?_ (fun _=>?_))
   |exact car_Rest.mono _ _ _ _ _ _ _ _ _ _ _ _ _ _ _ _ _ _
   |exact group_way.mono _ _ _ _ _ _ _ _ _ _ _ _ _ _ _
   |exact LeO.none _
   |refine LeO.ite ?_ ?_
   |refine LeO.bind ?_ (fun _=>?_)
def group_cost.T3:Bool×List (List Nat×List Nat):=(true,[([],[]),([],[]),([1],[1]),([2],[2]),([],[]),([4],[4]),([],[]),([],[]),([5,6,7],[5,6,7]),([3,8],[3,8]),([0,9],[0,9]),([],[]),([],[]),([12],[12]),([13],[13]),([],[]),([15],[15]),([16],[16]),([14,17],[14,17]),([],[]),([19],[19]),([20],[20]),([18,21],[18,21]),([11,22],[11,22]),([10,23],[10,23]),([24,8,0,1,2,3,4,5,6,7,8,9,10,11,12,13,14,15,16,17,18,19,20,21,22,23,24],[24])])
def group_cost.B3:List Nat:=[0,0,2,6,0,16,0,0,240,510,1023,0,0,4096,12288,0,32768,98304,258048,0,524288,1572864,4190208,8386560,16777215,33554431]
theorem group_cost.Dd:rtab .any (opsOf Try.f31 3)=group_cost.T3:=by kernel_rfl
theorem group_cost.Ns:Zk group_cost.T3.2 group_cost.B3=true:=by kernel_rfl
set_option maxHeartbeats 8000000 in
set_option maxRecDepth 100000 in
theorem group_cost.calls (k:Nat) (J:Int) (O:Int) (X:Int) (Y:Int) (Z:Int) (δ :Int) (γ:Int) (ι :Int) (θ :Int) (η :Int) (ζ :Int) (ε :Int) (κ :Int) (μ :Int) (B:Int) (τ :Int) (χ :Int) (ψ :Int) (ω :Bool) (a1:Bool) (aa:Option Addr) (ab:Nat) (φ :List Int) (ae:Option Addr) (af:Nat) (a0:List Int) (ag:Option Addr) (ah:Nat) (a4:List Int) (a5:Int) (a6:Int) (a8:Int) (r:Int) (w:World) (bs:Kd.C (Kd.int .i64) w aa φ.length φ) (bv: φ.length≤ab) (cd:Kd.C (Kd.int .i64) w ae a0.length a0) (ce:a0.length≤af) (cy:Kd.C (Kd.int .i64) w ag a4.length a4) (d1:a4.length≤ah) (h:group_cost.f k J O X Y Z δ γ ι θ η ζ ε κ μ B τ χ ψ ω a1 φ a0 a4 a5 a6 a8=some r):
  Calls Try.prog 31 #[.agg #[.int .i64 J,.int .i64 O,.int .i64 X,.int .i64 Y,.int .i64 Z,.int .i64 δ,.int .i64 γ,.int .i64 ι,.int .i64 θ,.int .i64 η],.agg #[.int .i64 ζ,.int .i64 ε,.int .i64 κ,.int .i64 μ,.int .i64 B,.int .i64 τ,.int .i64 χ,.int .i64 ψ,.bool ω,.bool a1],.agg #[.slice aa φ.length ab,.slice ae a0.length af,.slice ag a4.length ah],.agg #[.int .i64 a5,.int .i64 a6,.int .i64 a8]] w fun e w'=>e = .returned (.int .i64 r)∧Below w.heap.size w w':=by
 have e5:=Try.underlying25
 have jc:=Try.underlying31
 have ki:=Try.underlying34
 have e4:=Try.underlying36
 have fy:=Try.underlying29
 have cq:=Aside0.mk bs
 have d2:=Aside0.mk bv
 clear bs bv
 have d4:=Aside0.mk cd
 have d5:=Aside0.mk ce
 clear cd ce
 have dk:=Aside0.mk cy
 have dp:=Aside0.mk d1
 clear cy d1
 have HB:=Aside0.mk (Below.refl w.heap.size w)
 have H:((car_Rest.f k J O X Y Z δ γ ι θ η ζ ε κ μ B τ χ).bind fun a9=>((group_way.f k J ζ ε κ μ B τ χ ψ ω a1 a5 a6 a8).bind fun a7=>(some (wrap64 ((wrap64 (a9.1+(wrap64 (O * a7))))+(wrap64 ((wrap64 ((wrap64 ((wrap64 (X+Y)) + θ))+γ)) * (wrap64 ((wrap64 ((φ.length:Int)+(a0.length:Int)))+(a4.length:Int))))))))))=some r:=h
 clear h
 replace H:=Option.bind_eq_some_iff.mp H
 obtain⟨⟨bk,bp⟩,d7,H⟩:=H
 replace H:((group_way.f k J ζ ε κ μ B τ χ ψ ω a1 a5 a6 a8).bind fun a7=>(some (wrap64 ((wrap64 (bk+(wrap64 (O * a7))))+(wrap64 ((wrap64 ((wrap64 ((wrap64 (X+Y)) + θ))+γ)) * (wrap64 ((wrap64 ((φ.length:Int)+(a0.length:Int)))+(a4.length:Int)))))))))=some r:=H
 have A5:=Aside0.mk d7
 clear d7
 replace H:=Option.bind_eq_some_iff.mp H
 obtain⟨a7,d0,H⟩:=H
 replace H:(some (wrap64 ((wrap64 (bk+(wrap64 (O * a7))))+(wrap64 ((wrap64 ((wrap64 ((wrap64 (X+Y)) + θ))+γ)) * (wrap64 ((wrap64 ((φ.length:Int)+(a0.length:Int)))+(a4.length:Int))))))))=some r:=H
 have A6:=Aside0.mk d0
 clear d0
 obtain rfl:=Option.some.inj H
 go_enter Try.func31,Try.ntmps31
 try go_wp2_with (first|((with_reducible refine Qf (N:=4) rfl ?_);refine qE 4 #[.int .i64 J,.int .i64 O,.int .i64 X,.int .i64 Y,.int .i64 Z,.int .i64 δ,.int .i64 γ,.int .i64 ι,.int .i64 θ,.int .i64 η] 25 ?_;intro a2 hg w7 hbox hb;have ν :=Aside0.mk hbox;have bq:=sGe hg;have br:=sGe hg;replace HB:=sHb hb;clear hb hbox hg)|((with_reducible refine Qf (N:=5) rfl ?_);refine qE 5 #[.int .i64 ζ,.int .i64 ε,.int .i64 κ,.int .i64 μ,.int .i64 B,.int .i64 τ,.int .i64 χ,.int .i64 ψ,.bool ω,.bool a1] 31 ?_;intro a3 hg w8 hbox hb;have ξ :=Aside0.mk hbox;have bu:=sGe hg;have bw:=sGe hg;have au:=sNl ν hg;have av:=sNg ν hg;replace ν :=sBk ν hb;replace HB:=sHb hb;clear hb hbox hg)|((with_reducible refine Qf (N:=6) rfl ?_);refine qE 6 #[.slice aa φ.length ab,.slice ae a0.length af,.slice ag a4.length ah] 34 ?_;intro ai hg w9 hbox hb;have ρ:=Aside0.mk hbox;have bz:=sGe hg;have ca:=sGe hg;have aw:=sNl ν hg;have ay:=sNg ν hg;have az:=sNl ξ hg;have b0:=sNg ξ hg;replace ν :=sBk ν hb;replace ξ :=sBk ξ hb;replace HB:=sHb hb;clear hb hbox hg)|((with_reducible refine Qf (N:=7) rfl ?_);refine qE 7 #[.int .i64 a5,.int .i64 a6,.int .i64 a8] 36 ?_;intro ar hg ih hbox hb;have σ:=Aside0.mk hbox;have cb:=sGe hg;have cj:=sGe hg;have bd:=sNl ν hg;have bg:=sNg ν hg;have bh:=sNl ξ hg;have bj:=sNg ξ hg;have bl:=sNl ρ hg;have bm:=sNg ρ hg;replace ν :=sBk ν hb;replace ξ :=sBk ξ hb;replace ρ:=sBk ρ hb;replace HB:=sHb hb;clear hb hbox hg;have e9:=au.out;have ez:=av.out;have gp:=aw.out;have gy:=ay.out;have l9:=bd.out;have lb:=bg.out;obtain⟨ct,cu,ee,ef,eg,eh,ei,f8,iq,ir,cv,cw,ej,ek,el,em,en,fa,it,iu⟩:=Zn ν.out;have gq:=az.out;have gr:=b0.out;have dn:=bh.out;have dv:=bj.out;obtain⟨b1,b2,b6,al,ax,b5,bi,bo,cf,cg,b3,b4,bn,ch,ci,dw,dx,dz,e6,e7⟩:=Zn ξ.out)|((with_reducible refine Qo (f:=25) rfl ?_);refine Q6 (some 16) rfl rfl Try.func25 kr rfl #[.agg #[.int .i64 J,.int .i64 O,.int .i64 X,.int .i64 Y,.int .i64 Z,.int .i64 δ,.int .i64 γ,.int .i64 ι,.int .i64 θ,.int .i64 η],.agg #[.int .i64 ζ,.int .i64 ε,.int .i64 κ,.int .i64 μ,.int .i64 B,.int .i64 τ,.int .i64 χ]] rfl qM ?_;(with_reducible refine(car_Rest.calls k J O X Y Z δ γ ι θ η ζ ε κ μ B τ χ bk bp _ A5.out).mono ?_);rintro e i2 ⟨rfl,hb⟩;refine⟨_,rfl, ?_⟩;replace ν :=sBk ν hb;replace ξ :=sBk ξ hb;replace ρ:=sBk ρ hb;replace σ:=sBk σ hb;replace HB:=sHb hb;(try clear hb);(try clear ac);(try clear hk);(try clear hi);obtain⟨aj,ak,ao,b7,b8,b9,ba,d9,da,db,am,an,ap,bb,bc,be,bf,dc,dd,de⟩:=Zn ν.out))
 replace ν :=Aside0.mk (Qe ν.out)
 replace ξ :=Aside0.mk (Qe ξ.out)
 replace ρ:=Aside0.mk (Qe ρ.out)
 replace σ:=Aside0.mk (Qe σ.out)
 replace HB:=Aside0.mk (Qg HB.out)
 refine Zi (n:=26) (S:=fun w'=>w'.cell? ⟨a2,0,none⟩=some (.int .i64 J)∧w'.cell? ⟨a2,1,none⟩=some (.int .i64 O)∧w'.cell? ⟨a2,2,none⟩=some (.int .i64 X)∧w'.cell? ⟨a2,3,none⟩=some (.int .i64 Y)∧w'.cell? ⟨a2,4,none⟩=some (.int .i64 Z)∧w'.cell? ⟨a2,5,none⟩=some (.int .i64 δ)∧w'.cell? ⟨a2,6,none⟩=some (.int .i64 γ)∧w'.cell? ⟨a2,7,none⟩=some (.int .i64 ι)∧w'.cell? ⟨a2,8,none⟩=some (.int .i64 θ)∧w'.cell? ⟨a2,9,none⟩=some (.int .i64 η)∧w'.cell? ⟨a3,0,none⟩=some (.int .i64 ζ)∧w'.cell? ⟨a3,1,none⟩=some (.int .i64 ε)∧w'.cell? ⟨a3,2,none⟩=some (.int .i64 κ)∧w'.cell? ⟨a3,3,none⟩=some (.int .i64 μ)∧w'.cell? ⟨a3,4,none⟩=some (.int .i64 B)∧w'.cell? ⟨a3,5,none⟩=some (.int .i64 τ)∧w'.cell? ⟨a3,6,none⟩=some (.int .i64 χ)∧w'.cell? ⟨a3,7,none⟩=some (.int .i64 ψ)∧w'.cell? ⟨a3,8,none⟩=some (.bool ω)∧w'.cell? ⟨a3,9,none⟩=some (.bool a1)∧w'.cell? ⟨ar,0,none⟩=some (.int .i64 a5)∧w'.cell? ⟨ar,1,none⟩=some (.int .i64 a6)∧w'.cell? ⟨ar,2,none⟩=some (.int .i64 a8)∧w'.cell? ⟨ai,0,none⟩=some (.slice aa φ.length ab)∧w'.cell? ⟨ai,1,none⟩=some (.slice ae a0.length af)∧w'.cell? ⟨ai,2,none⟩=some (.slice ag a4.length ah)) (ds:=[]) #[false,false,false,false,false,false,false,false,false,false,false,false,false,false,false,false,false,false,false,false,false,false,false,false,false,false] kr rfl rfl ⟨(Qa ν.out 0).trans rfl,(Qa ν.out 1).trans rfl,(Qa ν.out 2).trans rfl,(Qa ν.out 3).trans rfl,(Qa ν.out 4).trans rfl,(Qa ν.out 5).trans rfl,(Qa ν.out 6).trans rfl,(Qa ν.out 7).trans rfl,(Qa ν.out 8).trans rfl,(Qa ν.out 9).trans rfl,(Qa ξ.out 0).trans rfl,(Qa ξ.out 1).trans rfl,(Qa ξ.out 2).trans rfl,(Qa ξ.out 3).trans rfl,(Qa ξ.out 4).trans rfl,(Qa ξ.out 5).trans rfl,(Qa ξ.out 6).trans rfl,(Qa ξ.out 7).trans rfl,(Qa ξ.out 8).trans rfl,(Qa ξ.out 9).trans rfl,(Qa σ.out 0).trans rfl,(Qa σ.out 1).trans rfl,(Qa σ.out 2).trans rfl,(Qa ρ.out 0).trans rfl,(Qa ρ.out 1).trans rfl,(Qa ρ.out 2).trans rfl⟩ (fun hHeld=>?_);refine Q9 group_cost.Dd group_cost.Ns (fun HT_ HW_=>?_)
 generalize i2.drew=dj at ν ξ ρ σ HB hHeld ⊢
 refine qP 0 (some 33) (bN 26 1) HT_ ?_
 refine qP 1 (some 34) (bN 26 3) HT_ ?_
 refine qP 2 (some 35) (bN 26 7) HT_ ?_
 refine qP 4 (some 37) (bN 26 23) HT_ ?_
 refine qP 11 (some 44) (bN 26 2071) HT_ ?_
 refine qP 12 (some 45) (bN 26 6167) HT_ ?_
 refine qP 15 (some 48) (bN 26 38935) HT_ ?_
 refine qP 19 (some 52) (bN 26 563223) HT_ ?_
 refine qT 3 (some 36) (bN 26 563231) HT_ HW_ hHeld ?_
 refine qT 5 (some 38) (bN 26 563263) HT_ HW_ hHeld ?_
 refine qT 6 (some 39) (bN 26 563327) HT_ HW_ hHeld ?_
 refine qT 7 (some 40) (bN 26 563455) HT_ HW_ hHeld ?_
 refine qT 13 (some 46) (bN 26 571647) HT_ HW_ hHeld ?_
 refine qP 14 (some 47) (bN 26 588031) HT_ ?_
 refine qT 16 (some 49) (bN 26 653567) HT_ HW_ hHeld ?_
 refine qP 17 (some 50) (bN 26 784639) HT_ ?_
 refine qP 18 (some 51) (bN 26 1046783) HT_ ?_
 refine qT 20 (some 53) (bN 26 2095359) HT_ HW_ hHeld ?_
 refine qP 21 (some 54) (bN 26 4192511) HT_ ?_
 refine qP 22 (some 55) (bN 26 8386815) HT_ ?_
 refine qP 23 (some 56) (bN 26 16775423) HT_ ?_
 refine Zb (i:=8) (N:=some 41) (bN 26 16775679) rfl rfl (Q4 HT_.out kr) (by decide) (fun K hK=>?_)
 refine Za Try.func52 kr rfl #[.int .i64 J,.agg #[.int .i64 ζ,.int .i64 ε,.int .i64 κ,.int .i64 μ,.int .i64 B,.int .i64 τ,.int .i64 χ,.int .i64 ψ,.bool ω,.bool a1],.agg #[.int .i64 a5,.int .i64 a6,.int .i64 a8]] (by rfl) rfl rfl qM ?_
 with_reducible refine(group_way.calls k J ζ ε κ μ B τ χ ψ ω a1 a5 a6 a8 a7 _ A6.out).mono ?_
 rintro e cz ⟨rfl,hb⟩
 refine⟨_,rfl, ?_⟩
 replace ν :=sBk ν hb
 replace ξ :=sBk ξ hb
 replace ρ:=sBk ρ hb
 replace σ:=sBk σ hb
 replace HB:=sHb hb
 (try clear hb)
 (try clear ac)
 (try clear hk)
 (try clear hi)
 refine hK.out _ _ ⟨qc ν,qc ν,qc ν,qc ν,qc ν,qc ν,qc ν,qc ν,qc ν,qc ν,qc ξ,qc ξ,qc ξ,qc ξ,qc ξ,qc ξ,qc ξ,qc ξ,qc ξ,qc ξ,qc σ,qc σ,qc σ,qc ρ,qc ρ,qc ρ⟩ (fun hHeld=>?_)
 clear hK K
 refine qN (some 41) ?_
 refine qP 9 (some 42) (bN 26 16776191) HT_ ?_
 refine qP 10 (some 43) (bN 26 16777215) HT_ ?_
 refine qP 24 (some 57) (bN 26 33554431) HT_ ?_
 refine qP 25 (some 8) (bN 26 67108863) HT_ ?_
 refine Zx (Ze HT_.out kr) ?_
 try go_wp2
 go_ret
 exact⟨rfl,HB.out⟩
end Go.Proofs.Ytmfffemidlhcpaa.C
namespace Go.Proofs.Ytmfffemidlhcpaa.GrpPure
open Go.RowKit Go.Proofs.YtmfffemidlhcpaaW.PrintWords Go.Proofs.YtmfffemidlhcpaaW.PrintLast Go.Proofs.YtmfffemidlhcpaaW.PrintMore Go.Proofs.Ytmfffemidlhcpaa.C Go.Proofs.Ytmfffemidlhcpaa.DoorPure
def Yy (a b:Int):Int:=if a<b then b-a else a-b
theorem Ji {a b:Int} (ha:0≤a∧a≤64) (hb:0≤b∧b≤64):group_dist.f a b=some (Yy a b):=by
  unfold group_dist.f Yy
  rw[w64 (n:=a-b) (by omega),w64 (n:=b-a) (by omega)]
  unfold mx
  congr 1
  split <;> split <;> omega
def Db (F p d B J:Int):Int:=
  if d=0 then Yy p B else if d=1 then (if d=J then (if p≤B then Yy p B else Yy p (F-1)+Yy (F-1) 0+Yy 0 B) else Yy p (F-1)+Yy (F-1) B)
  else (if d=J then (if B≤p then Yy p B else Yy p 0+Yy 0 (F-1)+Yy (F-1) B) else Yy p 0+Yy 0 B)
theorem Jh {F a b:Int} (ha:0≤a∧a<F) (hb:0≤b∧b<F):0≤Yy a b∧Yy a b≤F-1:=by
  unfold Yy;split <;> omega
theorem Da {F c0 c1 l7 B:Int} (J c2 c3 c4 c5 c6 Y:Int) (l8 l9:Bool) (f:Nat) (hf:2<f) (hF:2≤F∧F≤64) (hc:0≤c0∧c0<F) (hp:0≤c0+c1∧c0+c1<F) (hx:0≤B∧B<F) (hl: -1≤l7∧l7≤1):
    group_way.f f F c0 c1 c2 c3 c4 c5 c6 l7 l8 l9 B J Y=some (Db F (c0+c1) l7 B J):=by
  obtain⟨f,rfl⟩:∃ m,f=m+2:=⟨f-2,by omega⟩
  unfold group_way.f
  rw[w64 (n:=c0+c1) (by omega),w64 (n:=F-1) (by omega)]
  simp only[group_way.j0]
  rw[w64 (n:=B - (c0+c1)) (by omega)]
  have hp':0≤c0+c1∧c0+c1≤64:=by omega
  have hx':0≤B∧B≤64:=by omega
  have hF':0≤F-1∧F-1≤64:=by omega
  have X:(0:Int)≤0∧(0:Int)≤64:=by omega
  have q1:=Jh hp hx
  have q2:=Jh hp (b:=F-1) (by omega)
  have q3:=Jh hp (b:=0) (by omega)
  have q4:=Jh (F:=F) (a:=F-1) (b:=0) (by omega) (by omega)
  have q5:=Jh (F:=F) (a:=0) (b:=F-1) (by omega) (by omega)
  have q6:=Jh (F:=F) (a:=F-1) (b:=B) (by omega) hx
  have q7:=Jh (F:=F) (a:=0) (b:=B) (by omega) hx
  generalize hP:c0+c1=p at *
  have hd:l7=0∨l7=1∨l7 = -1:=by omega
  simp only[group_way.j1,Ji hp' hx',Ji hp' hF',Ji hp' X,Ji hF' X,Ji X hF',Ji hF' hx',Ji X hx',Option.bind_some]
  unfold Db
  rcases hd with rfl|rfl|rfl
  · simp
  · have z1:¬ (1:Int)=0:=by decide
    have O:(1:Int)>0:=by decide
    have Z:(1:Int)=1:=rfl
    simp only[if_pos O,if_neg z1,if_true]
    by_cases e:(1:Int)=J
    · simp only[if_pos e,Int.mul_one]
      rw[w64 (n:=B-p) (by omega)]
      by_cases h:p≤B
      · rw[if_pos h,decide_eq_true (by omega),if_pos rfl]
      · rw[if_neg h,decide_eq_false (by omega),if_neg (by decide),w64 (n:=Yy p (F-1)+Yy (F-1) 0) (by omega),w64 (by omega)]
    · simp only[if_neg e]
      rw[if_neg (by decide),w64 (by omega)]
  · have z1:¬ (-1:Int)=0:=by decide
    have O:¬ (-1:Int)>0:=by decide
    have Z:¬ (-1:Int)=1:=by decide
    simp only[if_neg O,if_neg z1,if_neg Z]
    by_cases e:(-1:Int)=J
    · simp only[if_pos e]
      rw[show(B-p) * (-1)=p-B by omega,w64 (n:=p-B) (by omega)]
      by_cases h:B≤p
      · rw[if_pos h,decide_eq_true (by omega),if_pos rfl]
      · rw[if_neg h,decide_eq_false (by omega),if_neg (by decide),w64 (n:=Yy p 0+Yy 0 (F-1)) (by omega),w64 (by omega)]
    · simp only[if_neg e]
      rw[if_neg (by decide),w64 (by omega)]
def Np (g0 g1 g2 g3 g6 g8 g9 c0 c1 c2 c3 c4 c5 c6 l7 n B J:Int):Int:=
  wrap64 (wrap64 (Jc g3 g6 g8 g9 c2 c3 c4 c5 c6+wrap64 (g1 * Db g0 (c0+c1) l7 B J))+wrap64 (wrap64 (wrap64 (wrap64 (g2+g3)+g8)+g6) * n))
theorem at_in {F c0 c1 c2 c3 c4 c5 c6:Int} (h:Vi F c0 c1 c2 c3 c4 c5 c6):(0≤c0+c1∧c0+c1<F)∧(c2≠1→c1=0):=by
  have h1:=h.1.2.1
  have O:=h.2
  unfold Xl at O
  omega
abbrev U9 (a b c:List Int):Int:=wrap64 (wrap64 ((a.length:Int)+(b.length:Int))+(c.length:Int))
theorem Lf {g0 g1 g2 g3 g4 g5 g6 g7 g8 g9 c0 c1 c2 c3 c4 c5 c6 l7 B:Int} (J Y:Int) (l8 l9:Bool) (a b c:List Int) (f:Nat) (hf:10<f) (h:Gc g0 g1 g2 g3 g4 g5 g6 g7 g8 g9 c0 c1 c2 c3 c4 c5 c6 l7) (hx:0≤B∧B<g0):
    group_cost.f f g0 g1 g2 g3 g4 g5 g6 g7 g8 g9 c0 c1 c2 c3 c4 c5 c6 l7 l8 l9 a b c B J Y=some (Np g0 g1 g2 g3 g6 g8 g9 c0 c1 c2 c3 c4 c5 c6 l7 (U9 a b c) B J):=by
  unfold group_cost.f
  rw[G0 _ _ _ _ _ _ _ _ _ _ _ _ _ _ _ _ _ f hf,if_pos h.1,Da J c2 c3 c4 c5 c6 Y l8 l9 f (by omega) h.1.1.2.1 h.1.2.1.2.1 (at_in h.1.2).1 hx h.2]
  rfl
end Go.Proofs.Ytmfffemidlhcpaa.GrpPure
