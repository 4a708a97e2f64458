/- Texts of this claim, one behind the other: what the law's functions come to, walked (printed by a program, with the words that the print uses), and what that is, in plain Lean. No conditions of their own. -/
import Derived.Test.YtmfffemidlhcpaaQGroupBounds3
import Derived.Laws.EntriesVeiled
namespace Go.Proofs.Ytmfffemidlhcpaa.C
open Go.RowKit Go.Proofs.YtmfffemidlhcpaaW.PrintWords Go.Proofs.YtmfffemidlhcpaaW.PrintLast Go.Proofs.YtmfffemidlhcpaaW.PrintMore
def phV:Value:=.agg #[.int .i64 0,.func (.func 95) #[] #[],.int .i64 60,.func (.func 96) #[] #[],.int .i64 300,.func (.func 98) #[] #[],.int .i64 60,.func (.func 99) #[] #[]]
set_option maxHeartbeats 8000000 in
set_option maxRecDepth 100000 in
theorem door_phases.calls (w:World):Calls Try.prog 87 #[] w fun e w'=>e = .returned phV∧Below w.heap.size w w':=by
  have O:=Try.underlying131
  have B:=Try.underlying132
  have HB:=Aside0.mk (Below.refl w.heap.size w)
  go_enter Try.func87,Try.ntmps87
  go_wp2_with (first|((with_reducible refine Qe (N:=0) rfl ?_);refine Zg ?hg (N:=0) ?hd (cs:=#[.int .i64 0,.nilFunc,.int .i64 0,.nilFunc,.int .i64 0,.nilFunc,.int .i64 0,.nilFunc]) (t:=132) ?hr ?_;(case hd=>rfl);(case hg=>rfl);(case hr=>first|(go_simp;done)|(go_simp;rfl));intro gb hg w1 hbox hb;have L:=Aside0.mk (Qx HB.out hb);have BK:=Aside0.mk hbox;have GE:=Aside0.mk (by rw[hg];exact Nat.le_refl _:w.heap.size≤gb);clear HB hg hb hbox;have γ:=(Qa BK.out 0).trans rfl;have δ :=Qq BK.out 0;have dl:=(Qa BK.out 1).trans rfl;have ε :=Qq BK.out 1;have e3:=(Qa BK.out 2).trans rfl;have ct:=Qq BK.out 2;have ζ :=(Qa BK.out 3).trans rfl;have η :=Qq BK.out 3;have θ :=(Qa BK.out 4).trans rfl;have qb:=Qq BK.out 4;have ι :=(Qa BK.out 5).trans rfl;have qd:=Qq BK.out 5;have κ :=(Qa BK.out 6).trans rfl;have μ :=Qq BK.out 6;have ν :=(Qa BK.out 7).trans rfl;have ξ :=Qq BK.out 7))
  have X:=X5 BK.out 0 (.int .i64 0)
  have b1:=X5 X 1 (.func (.func 95) #[] #[])
  have b2:=X5 b1 2 (.int .i64 60)
  have b3:=X5 b2 3 (.func (.func 96) #[] #[])
  have J:=X5 b3 4 (.int .i64 300)
  have Z:=X5 J 5 (.func (.func 98) #[] #[])
  have b6:=X5 Z 6 (.int .i64 60)
  have Y:=X5 b6 7 (.func (.func 99) #[] #[])
  simp only[List.setIfInBounds_toArray,List.set_cons_zero,List.set_cons_succ] at Y
  refine bodyPost_ret (v:=phV) ?_ rfl ⟨rfl, ?_⟩
  · refine results_cell_row (p:=0) (ty:=132) ?_ _ _ gb 132 _ (0,0) _ ?_ Y B ?_ ?_
    · rfl
    · rfl
    · rfl
    · kernel_rfl
  · with_reducible repeat(first|exact L.out|refine Qp ?_ GE.out)
section
variable {P : Program} {ops : Array Oper} {Q : Exit → Act → World → Prop}
end
theorem W4 (x y:Value) (w:World):Sem.run Try.prog (Instr.field 131 (.agg #[x,y]) 0) w = .ok x w:=by
  have O:=Try.underlying131
  have B:=Try.underlying3
  simp[Instr.field,run_underlying O,part,isAgg,asAgg,run_underlying B,Result.andThen]
def Zt (d:Int):Int:=if d=0 then 0 else if d=1 then 60 else if d=2 then 300 else 60
def tickN (d:Int):Nat:=if d=0 then 95 else if d=1 then 96 else if d=2 then 98 else 99
theorem Wr {n lo hi:Int} (h:door_within.f n lo hi=some true):lo≤n∧n≤hi:=by
  unfold door_within.f at h
  split at h <;> simp at h <;> omega
theorem W3 (ev:Operand→Value) (o:Oper) (x y:Operand) (ho:o.op = .index 132 x y) (hx:ev x=phV) (hy:ev y = .int .i64 0) (w:World):
    Sem.run Try.prog (execOp ev o) w = .ok (.value (.agg #[.int .i64 0,.func (.func 95) #[] #[]])) w:=by
  have B:=Try.underlying132
  have hs:(Try.prog.info? 131).map (·.size)=some 2:=by kernel_rfl
  obtain⟨i,hi,hs⟩:=Option.map_eq_some_iff.mp hs
  unfold execOp
  rw[ho]
  simp only
  rw[hx,hy]
  unfold phV
  simp[Instr.index,asIntOf,run_underlying B,part,sizeOf,typeInfo,Result.andThen,hi,hs]
theorem W0 (ev:Operand→Value) (o:Oper) (x y:Operand) (ho:o.op = .index 132 x y) (hx:ev x=phV) (hy:ev y = .int .i64 1) (w:World):
    Sem.run Try.prog (execOp ev o) w = .ok (.value (.agg #[.int .i64 60,.func (.func 96) #[] #[]])) w:=by
  have B:=Try.underlying132
  have hs:(Try.prog.info? 131).map (·.size)=some 2:=by kernel_rfl
  obtain⟨i,hi,hs⟩:=Option.map_eq_some_iff.mp hs
  unfold execOp
  rw[ho]
  simp only
  rw[hx,hy]
  unfold phV
  simp[Instr.index,asIntOf,run_underlying B,part,sizeOf,typeInfo,Result.andThen,hi,hs]
theorem Wz (ev:Operand→Value) (o:Oper) (x y:Operand) (ho:o.op = .index 132 x y) (hx:ev x=phV) (hy:ev y = .int .i64 2) (w:World):
    Sem.run Try.prog (execOp ev o) w = .ok (.value (.agg #[.int .i64 300,.func (.func 98) #[] #[]])) w:=by
  have B:=Try.underlying132
  have hs:(Try.prog.info? 131).map (·.size)=some 2:=by kernel_rfl
  obtain⟨i,hi,hs⟩:=Option.map_eq_some_iff.mp hs
  unfold execOp
  rw[ho]
  simp only
  rw[hx,hy]
  unfold phV
  simp[Instr.index,asIntOf,run_underlying B,part,sizeOf,typeInfo,Result.andThen,hi,hs]
theorem Wy (ev:Operand→Value) (o:Oper) (x y:Operand) (ho:o.op = .index 132 x y) (hx:ev x=phV) (hy:ev y = .int .i64 3) (w:World):
    Sem.run Try.prog (execOp ev o) w = .ok (.value (.agg #[.int .i64 60,.func (.func 99) #[] #[]])) w:=by
  have B:=Try.underlying132
  have hs:(Try.prog.info? 131).map (·.size)=some 2:=by kernel_rfl
  obtain⟨i,hi,hs⟩:=Option.map_eq_some_iff.mp hs
  unfold execOp
  rw[ho]
  simp only
  rw[hx,hy]
  unfold phV
  simp[Instr.index,asIntOf,run_underlying B,part,sizeOf,typeInfo,Result.andThen,hi,hs]
theorem K5 {d:Int} {ev:Operand→Value} {o:Oper} {x y:Operand} (ho:o.op = .index 132 x y) (hx:ev x=phV) (hy:ev y = .int .i64 d) (X:0≤d) (O:d≤3) (w:World):
    Sem.run Try.prog (execOp ev o) w = .ok (.value (.agg #[.int .i64 (Zt d),.func (.func (tickN d)) #[] #[]])) w:=by
  have e:d=0∨d=1∨d=2∨d=3:=by omega
  rcases e with rfl|rfl|rfl|rfl
  · exact W3 ev o x y ho hx hy w
  · exact W0 ev o x y ho hx hy w
  · exact Wz ev o x y ho hx hy w
  · exact Wy ev o x y ho hx hy w
end Go.Proofs.Ytmfffemidlhcpaa.C
namespace Go.Proofs.Ytmfffemidlhcpaa.C
open Go.RowKit Go.Proofs.YtmfffemidlhcpaaW.PrintWords Go.Proofs.YtmfffemidlhcpaaW.PrintLast Go.Proofs.YtmfffemidlhcpaaW.PrintMore
attribute [local go_sem] Zx Zv Z8 Z7 Zl Zk Zw Zu
set_option linter.unusedVariables false
set_option linter.unusedSimpArgs false
def door_Check.f (J:Int) (B:Int) (L:Int):Option (Int):=(door_within.f J 0 3).bind fun a1=>(if a1=true then ((door_on.f J B L 0 0).bind fun ζ =>((door_within.f B (mn (Zt J) 1) (Zt J)).bind fun θ =>(if θ = true then ((door_within.f L 0 (mn (Zt J) 60)).bind fun η =>(if η = true then (some 0) else (some 170))) else (some 170)))) else (some 170))
set_option maxHeartbeats 8000000 in
set_option maxRecDepth 100000 in
theorem door_Check.calls (J:Int) (B:Int) (L:Int) (r:Int) (w:World) (h:door_Check.f J B L=some r):
  Calls Try.prog 71 #[.agg #[.int .i64 J,.int .i64 B,.int .i64 L]] w fun e w'=>e = .returned (.int .i64 r)∧Below w.heap.size w w':=by
 have eh:=Try.underlying27
 have HB:=Aside0.mk (Below.refl w.heap.size w)
 have H:((door_within.f J 0 3).bind fun a1=>(if a1=true then ((door_on.f J B L 0 0).bind fun ζ =>((door_within.f B (mn (Zt J) 1) (Zt J)).bind fun θ =>(if θ = true then ((door_within.f L 0 (mn (Zt J) 60)).bind fun η =>(if η = true then (some 0) else (some 170))) else (some 170)))) else (some 170)))=some r:=h
 clear h
 replace H:=Option.bind_eq_some_iff.mp H
 obtain⟨a1,bh,H⟩:=H
 replace H:(if a1=true then ((door_on.f J B L 0 0).bind fun ζ =>((door_within.f B (mn (Zt J) 1) (Zt J)).bind fun θ =>(if θ = true then ((door_within.f L 0 (mn (Zt J) 60)).bind fun η =>(if η = true then (some 0) else (some 170))) else (some 170)))) else (some 170))=some r:=H
 have A2:=Aside0.mk bh
 clear bh
 by_cases c3:a1=true
 ·subst c3
  have hph_:=Wr A2.out
  have ι :=W4
  have H1:((door_on.f J B L 0 0).bind fun ζ =>((door_within.f B (mn (Zt J) 1) (Zt J)).bind fun θ =>(if θ = true then ((door_within.f L 0 (mn (Zt J) 60)).bind fun η =>(if η = true then (some 0) else (some 170))) else (some 170))))=some r:=by rw[if_pos rfl] at H;exact H
  clear H
  have H:=H1
  clear H1
  replace H:=Option.bind_eq_some_iff.mp H
  obtain⟨⟨σ,a0,O⟩,ay,H⟩:=H
  replace H:((door_within.f B (mn (Zt J) 1) (Zt J)).bind fun θ =>(if θ = true then ((door_within.f L 0 (mn (Zt J) 60)).bind fun η =>(if η = true then (some 0) else (some 170))) else (some 170)))=some r:=H
  have A4:=Aside0.mk ay
  clear ay
  obtain⟨δ,X⟩:∃ j_:Int,(mn (Zt J) 1)=j_:=⟨_,rfl⟩
  replace H:((door_within.f B (δ) (Zt J)).bind fun θ =>(if θ = true then ((door_within.f L 0 (mn (Zt J) 60)).bind fun η =>(if η = true then (some 0) else (some 170))) else (some 170)))=some r:=by first|(rw[X] at H;exact H)|(simp only[X] at H ⊢;exact H)
  (try rw[X] at A2)
  (try rw[X] at A4)
  (try(have hji5h: δ ≤ 1:=by(rw[← X];unfold mn;(repeat' split) <;> omega)))
  (try(have hji5g: δ ≤ 64:=by omega))
  have μ :(if 1<(Zt J) then 1 else (Zt J)) = δ :=X
  replace H:=Option.bind_eq_some_iff.mp H
  obtain⟨θ,ao,H⟩:=H
  replace H:(if θ = true then ((door_within.f L 0 (mn (Zt J) 60)).bind fun η =>(if η = true then (some 0) else (some 170))) else (some 170))=some r:=H
  have A6:=Aside0.mk ao
  clear ao
  by_cases c7: θ = true
  ·subst c7
   have H1:((door_within.f L 0 (mn (Zt J) 60)).bind fun η =>(if η = true then (some 0) else (some 170)))=some r:=by rw[if_pos rfl] at H;exact H
   clear H
   have H:=H1
   clear H1
   obtain⟨ε,γ⟩:∃ j_:Int,(mn (Zt J) 60)=j_:=⟨_,rfl⟩
   replace H:((door_within.f L 0 (ε)).bind fun η =>(if η = true then (some 0) else (some 170)))=some r:=by first|(rw[γ] at H;exact H)|(simp only[γ] at H ⊢;exact H)
   (try rw[γ] at A2)
   (try rw[γ] at A4)
   (try rw[γ] at A6)
   (try(have hji8h: ε ≤ 60:=by(rw[← γ];unfold mn;(repeat' split) <;> omega)))
   (try(have hji8g: ε ≤ 64:=by omega))
   have ν :(if 60<(Zt J) then 60 else (Zt J)) = ε :=γ
   replace H:=Option.bind_eq_some_iff.mp H
   obtain⟨η,cg,H⟩:=H
   replace H:(if η = true then (some 0) else (some 170))=some r:=H
   have A9:=Aside0.mk cg
   clear cg
   by_cases c10: η = true
   ·subst c10
    have H1:(some 0)=some r:=by rw[if_pos rfl] at H;exact H
    clear H
    have H:=H1
    clear H1
    obtain rfl:=Option.some.inj H
    go_enter Try.func71,Try.ntmps71
    try go_wp2_with (first|((with_reducible refine Qe (N:=1) rfl ?_);(try(refine Zy (by rfl) ?_;dsimp only));refine qE 1 #[.int .i64 J,.int .i64 B,.int .i64 L] 27 ?_;intro Z hg el hbox hb;have Y:=Aside0.mk hbox;have ρ:=sGe hg;have κ :=sGe hg;replace HB:=sHb hb;clear hb hbox hg;obtain⟨a2,a3,a8,a4,a5,aa⟩:=qD3 Y.out)|((with_reducible refine Ql (f:=86) rfl ?_);refine Q2 (some 6) rfl rfl Try.func86 kr rfl #[.int .i64 J,.int .i64 0,.int .i64 3] rfl qM ?_;(with_reducible refine(door_within.calls J 0 3 true _ A2.out).mono ?_);rintro e w' ⟨rfl,⟨nd,rfl⟩⟩;refine⟨_,rfl, ?_⟩))
    (try(rw[Yf el];generalize hq_:World.drewN el _=el;have ξ :Aside0 (el.heap[Z]?=some (.cells #[.int .i64 J,.int .i64 B,.int .i64 L] 27 (0,0))):=⟨by rw[← hq_];exact(bka Y)⟩;have φ :Aside0 (Below w.heap.size w el):=⟨by rw[← hq_];exact bel⟩;clear Y HB hq_;have Y:= ξ;have HB:= φ;clear ξ φ))
    (try(have ap:el.cell? ⟨Z,0,none⟩=some (.int .i64 J):=(Qa Y.out 0).trans rfl))
    (try(have aw:el.cell? ⟨Z,1,none⟩=some (.int .i64 B):=(Qa Y.out 1).trans rfl))
    (try(have τ :el.cell? ⟨Z,2,none⟩=some (.int .i64 L):=(Qa Y.out 2).trans rfl))
    (try(have ar:=Qq Y.out 0))
    (try(have ax:=Qq Y.out 1))
    (try(have ω :=Qq Y.out 2))
    have ξ :=Aside0.mk (Qd Y.out)
    have φ :=Aside0.mk (Qf HB.out)
    clear Y
    clear HB
    have Y:= ξ
    have HB:= φ
    clear ξ φ
    refine Zn (n:=6) (S:=fun w'=>w'.cell? ⟨Z,0,none⟩=some (.int .i64 J)∧w'.cell? ⟨Z,1,none⟩=some (.int .i64 B)∧w'.cell? ⟨Z,2,none⟩=some (.int .i64 L)) (ds:=[]) #[false,false,false,false,false,false] kr rfl rfl ⟨(Qa Y.out 0).trans rfl,(Qa Y.out 1).trans rfl,(Qa Y.out 2).trans rfl⟩ (fun hHeld=>?_)
    generalize el.drew=bq at Y HB hHeld ⊢
    refine Xw (i:=1) (N:=some 9) (v:=?_) (a':=?_) #[false,true,false,false,false,false] rfl rfl kr (fun _ _ _ h=>h) (Or.inl ⟨by rfl, ?_⟩) ?_ ?_
    rotate_left
    ·intro w'
     go_simp
     with_reducible rfl
    rotate_left
    ·simp only[Act.put,qS,Zb,Zj]
     rfl
    refine Y5 (i:=2) (N:=some 10) (v:=?_) (a':=?_) #[false,true,true,false,false,false] rfl rfl kr (fun _ _ _ h=>h) (Or.inl ⟨by rfl, ?_⟩) hHeld ?_ ?_
    rotate_left
    ·rintro w' ⟨s0,s1,s2⟩
     go_simp
     with_reducible rfl
    rotate_left
    ·simp only[Act.put,qS,Zb,Zj]
     rfl
    refine Ze (i:=0) (N:=some 8) #[true,true,true,false,false,false] rfl rfl kr (by decide) (fun K hK=>?_)
    refine Zd Try.func87 kr rfl #[] (by rfl) rfl rfl (by(try simp only[List.map_toArray,List.map_cons,List.map_nil]);first|done|rfl|(simp only[List.length_drop,List.length_take];rfl)) ?_
    with_reducible refine(door_phases.calls _).mono ?_
    rintro e gs ⟨rfl,hb⟩
    refine⟨_,rfl, ?_⟩
    have ξ :=Aside0.mk (Qs (g:=Z) (o:=.cells #[.int .i64 J,.int .i64 B,.int .i64 L] 27 (0,0)) (by(with_reducible repeat first|refine Qj ?_ _|refine Qd ?_|refine Qk ?_ _);exact Y.out) hb)
    have φ :=Aside0.mk (Qx (by repeat(first|(with_reducible first|exact HB.out|apply Qo|apply Qi|apply Qf|refine Qp ?_ κ.out)|exact HB.out)) hb)
    clear Y
    clear HB
    have Y:= ξ
    have HB:= φ
    clear ξ φ
    (try clear hb)
    (try clear a9)
    (try clear hk)
    (try clear hi)
    refine hK.out _ _ ⟨qc Y,qc Y,qc Y⟩ (fun hHeld=>?_)
    clear hK K
    refine qN (some 8) ?_
    refine Xw (i:=3) (N:=some 11) (v:=?_) (a':=?_) #[true,true,true,true,false,false] rfl rfl kr (fun _ _ _ h=>h) (Or.inl ⟨by rfl, ?_⟩) ?_ ?_
    rotate_left
    ·intro w'
     rw[K5 (d:=J) (x:=.tmp 8) (y:=.tmp 10)]
     all_goals first|exact hph_.1|exact hph_.2|rfl
    rotate_left
    ·simp only[Act.put,qS,Zb,Zj]
     rfl
    refine Xw (i:=4) (N:=some 12) (v:=?_) (a':=?_) #[true,true,true,true,true,false] rfl rfl kr (fun _ _ _ h=>h) (Or.inl ⟨by rfl, ?_⟩) ?_ ?_
    rotate_left
    ·intro w'
     go_simp
     with_reducible rfl
    rotate_left
    ·simp only[Act.put,qS,Zb,Zj]
     rfl
    refine Xw (i:=5) (N:=some 3) (v:=?_) (a':=?_) #[true,true,true,true,true,true] rfl rfl kr (fun _ _ _ h=>h) (Or.inl ⟨by rfl, ?_⟩) ?_ ?_
    rotate_left
    ·intro w'
     go_simp
     with_reducible rfl
    rotate_left
    ·simp only[Act.put,qS,Zb,Zj]
     rfl
    refine Z5 kr ?_
    obtain⟨dx,dy,bm,dz,e0,br⟩:=qD3 Y.out
    try go_wp2_with (first|((with_reducible refine Ql (f:=86) rfl ?_);refine Q2 (some 18) rfl rfl Try.func86 kr rfl #[.int .i64 B,.int .i64 δ,.int .i64 (Zt J)] rfl (by(try simp only[List.map_toArray,List.map_cons,List.map_nil]);first|done|(simp only[X];rfl)|rfl|(simp only[List.length_drop,List.length_take];rfl)) ?_;(with_reducible refine(door_within.calls B δ (Zt J) true _ A6.out).mono ?_);rintro e w' ⟨rfl,⟨nd,rfl⟩⟩;refine⟨_,rfl, ?_⟩)|(go_at_call 86;(with_reducible refine(door_within.calls L 0 ε true _ A9.out).mono ?_);rintro e w' ⟨rfl,⟨nd,rfl⟩⟩))
    go_ret
    exact⟨by first|rfl|(simp[Qh,Qg] <;> rfl)|(simp only[← X,← γ];first|rfl|(simp[Qh,Qg] <;> rfl))|(simp[*,Qh,Qg] <;> rfl),bel⟩
   ·replace c10:=Bool.eq_false_iff.mpr c10
    subst c10
    have H1:(some 170)=some r:=by rw[if_neg (show ¬ (false=true) by decide)] at H;exact H
    clear H
    have H:=H1
    clear H1
    obtain rfl:=Option.some.inj H
    go_enter Try.func71,Try.ntmps71
    try go_wp2_with (first|((with_reducible refine Qe (N:=1) rfl ?_);(try(refine Zy (by rfl) ?_;dsimp only));refine qE 1 #[.int .i64 J,.int .i64 B,.int .i64 L] 27 ?_;intro Z hg du hbox hb;have Y:=Aside0.mk hbox;have ρ:=sGe hg;have κ :=sGe hg;replace HB:=sHb hb;clear hb hbox hg;obtain⟨b9,bc,ce,bd,be,di⟩:=qD3 Y.out)|((with_reducible refine Ql (f:=86) rfl ?_);refine Q2 (some 6) rfl rfl Try.func86 kr rfl #[.int .i64 J,.int .i64 0,.int .i64 3] rfl qM ?_;(with_reducible refine(door_within.calls J 0 3 true _ A2.out).mono ?_);rintro e w' ⟨rfl,⟨nd,rfl⟩⟩;refine⟨_,rfl, ?_⟩))
    (try(rw[Yf du];generalize hq_:World.drewN du _=du;have ξ :Aside0 (du.heap[Z]?=some (.cells #[.int .i64 J,.int .i64 B,.int .i64 L] 27 (0,0))):=⟨by rw[← hq_];exact(bka Y)⟩;have φ :Aside0 (Below w.heap.size w du):=⟨by rw[← hq_];exact bel⟩;clear Y HB hq_;have Y:= ξ;have HB:= φ;clear ξ φ))
    (try(have am:du.cell? ⟨Z,0,none⟩=some (.int .i64 J):=(Qa Y.out 0).trans rfl))
    (try(have an:du.cell? ⟨Z,1,none⟩=some (.int .i64 B):=(Qa Y.out 1).trans rfl))
    (try(have az:du.cell? ⟨Z,2,none⟩=some (.int .i64 L):=(Qa Y.out 2).trans rfl))
    (try(have au:=Qq Y.out 0))
    (try(have av:=Qq Y.out 1))
    (try(have b4:=Qq Y.out 2))
    have ξ :=Aside0.mk (Qd Y.out)
    have φ :=Aside0.mk (Qf HB.out)
    clear Y
    clear HB
    have Y:= ξ
    have HB:= φ
    clear ξ φ
    refine Zn (n:=6) (S:=fun w'=>w'.cell? ⟨Z,0,none⟩=some (.int .i64 J)∧w'.cell? ⟨Z,1,none⟩=some (.int .i64 B)∧w'.cell? ⟨Z,2,none⟩=some (.int .i64 L)) (ds:=[]) #[false,false,false,false,false,false] kr rfl rfl ⟨(Qa Y.out 0).trans rfl,(Qa Y.out 1).trans rfl,(Qa Y.out 2).trans rfl⟩ (fun hHeld=>?_)
    generalize du.drew=dv at Y HB hHeld ⊢
    refine Xw (i:=1) (N:=some 9) (v:=?_) (a':=?_) #[false,true,false,false,false,false] rfl rfl kr (fun _ _ _ h=>h) (Or.inl ⟨by rfl, ?_⟩) ?_ ?_
    rotate_left
    ·intro w'
     go_simp
     with_reducible rfl
    rotate_left
    ·simp only[Act.put,qS,Zb,Zj]
     rfl
    refine Y5 (i:=2) (N:=some 10) (v:=?_) (a':=?_) #[false,true,true,false,false,false] rfl rfl kr (fun _ _ _ h=>h) (Or.inl ⟨by rfl, ?_⟩) hHeld ?_ ?_
    rotate_left
    ·rintro w' ⟨s0,s1,s2⟩
     go_simp
     with_reducible rfl
    rotate_left
    ·simp only[Act.put,qS,Zb,Zj]
     rfl
    refine Ze (i:=0) (N:=some 8) #[true,true,true,false,false,false] rfl rfl kr (by decide) (fun K hK=>?_)
    refine Zd Try.func87 kr rfl #[] (by rfl) rfl rfl (by(try simp only[List.map_toArray,List.map_cons,List.map_nil]);first|done|rfl|(simp only[List.length_drop,List.length_take];rfl)) ?_
    with_reducible refine(door_phases.calls _).mono ?_
    rintro e bg ⟨rfl,hb⟩
    refine⟨_,rfl, ?_⟩
    have ξ :=Aside0.mk (Qs (g:=Z) (o:=.cells #[.int .i64 J,.int .i64 B,.int .i64 L] 27 (0,0)) (by(with_reducible repeat first|refine Qj ?_ _|refine Qd ?_|refine Qk ?_ _);exact Y.out) hb)
    have φ :=Aside0.mk (Qx (by repeat(first|(with_reducible first|exact HB.out|apply Qo|apply Qi|apply Qf|refine Qp ?_ κ.out)|exact HB.out)) hb)
    clear Y
    clear HB
    have Y:= ξ
    have HB:= φ
    clear ξ φ
    (try clear hb)
    (try clear a9)
    (try clear hk)
    (try clear hi)
    refine hK.out _ _ ⟨qc Y,qc Y,qc Y⟩ (fun hHeld=>?_)
    clear hK K
    refine qN (some 8) ?_
    refine Xw (i:=3) (N:=some 11) (v:=?_) (a':=?_) #[true,true,true,true,false,false] rfl rfl kr (fun _ _ _ h=>h) (Or.inl ⟨by rfl, ?_⟩) ?_ ?_
    rotate_left
    ·intro w'
     rw[K5 (d:=J) (x:=.tmp 8) (y:=.tmp 10)]
     all_goals first|exact hph_.1|exact hph_.2|rfl
    rotate_left
    ·simp only[Act.put,qS,Zb,Zj]
     rfl
    refine Xw (i:=4) (N:=some 12) (v:=?_) (a':=?_) #[true,true,true,true,true,false] rfl rfl kr (fun _ _ _ h=>h) (Or.inl ⟨by rfl, ?_⟩) ?_ ?_
    rotate_left
    ·intro w'
     go_simp
     with_reducible rfl
    rotate_left
    ·simp only[Act.put,qS,Zb,Zj]
     rfl
    refine Xw (i:=5) (N:=some 3) (v:=?_) (a':=?_) #[true,true,true,true,true,true] rfl rfl kr (fun _ _ _ h=>h) (Or.inl ⟨by rfl, ?_⟩) ?_ ?_
    rotate_left
    ·intro w'
     go_simp
     with_reducible rfl
    rotate_left
    ·simp only[Act.put,qS,Zb,Zj]
     rfl
    refine Z5 kr ?_
    obtain⟨bf,cr,d8,ct,cu,da⟩:=qD3 Y.out
    try go_wp2_with (first|((with_reducible refine Ql (f:=86) rfl ?_);refine Q2 (some 18) rfl rfl Try.func86 kr rfl #[.int .i64 B,.int .i64 δ,.int .i64 (Zt J)] rfl (by(try simp only[List.map_toArray,List.map_cons,List.map_nil]);first|done|(simp only[X];rfl)|rfl|(simp only[List.length_drop,List.length_take];rfl)) ?_;(with_reducible refine(door_within.calls B δ (Zt J) true _ A6.out).mono ?_);rintro e w' ⟨rfl,⟨nd,rfl⟩⟩;refine⟨_,rfl, ?_⟩)|(go_at_call 86;(with_reducible refine(door_within.calls L 0 ε false _ A9.out).mono ?_);rintro e w' ⟨rfl,⟨nd,rfl⟩⟩))
    go_ret
    exact⟨by first|rfl|(simp[Qh,Qg] <;> rfl)|(simp only[← X,← γ];first|rfl|(simp[Qh,Qg] <;> rfl))|(simp[*,Qh,Qg] <;> rfl),bel⟩
  ·replace c7:=Bool.eq_false_iff.mpr c7
   subst c7
   have H1:(some 170)=some r:=by rw[if_neg (show ¬ (false=true) by decide)] at H;exact H
   clear H
   have H:=H1
   clear H1
   obtain rfl:=Option.some.inj H
   go_enter Try.func71,Try.ntmps71
   try go_wp2_with (first|((with_reducible refine Qe (N:=1) rfl ?_);(try(refine Zy (by rfl) ?_;dsimp only));refine qE 1 #[.int .i64 J,.int .i64 B,.int .i64 L] 27 ?_;intro Z hg bb hbox hb;have Y:=Aside0.mk hbox;have ρ:=sGe hg;have κ :=sGe hg;replace HB:=sHb hb;clear hb hbox hg;obtain⟨b5,b6,ca,b7,b8,cf⟩:=qD3 Y.out)|((with_reducible refine Ql (f:=86) rfl ?_);refine Q2 (some 6) rfl rfl Try.func86 kr rfl #[.int .i64 J,.int .i64 0,.int .i64 3] rfl qM ?_;(with_reducible refine(door_within.calls J 0 3 true _ A2.out).mono ?_);rintro e w' ⟨rfl,⟨nd,rfl⟩⟩;refine⟨_,rfl, ?_⟩))
   (try(rw[Yf bb];generalize hq_:World.drewN bb _=bb;have ξ :Aside0 (bb.heap[Z]?=some (.cells #[.int .i64 J,.int .i64 B,.int .i64 L] 27 (0,0))):=⟨by rw[← hq_];exact(bka Y)⟩;have φ :Aside0 (Below w.heap.size w bb):=⟨by rw[← hq_];exact bel⟩;clear Y HB hq_;have Y:= ξ;have HB:= φ;clear ξ φ))
   (try(have ec:bb.cell? ⟨Z,0,none⟩=some (.int .i64 J):=(Qa Y.out 0).trans rfl))
   (try(have ed:bb.cell? ⟨Z,1,none⟩=some (.int .i64 B):=(Qa Y.out 1).trans rfl))
   (try(have ba:bb.cell? ⟨Z,2,none⟩=some (.int .i64 L):=(Qa Y.out 2).trans rfl))
   (try(have ee:=Qq Y.out 0))
   (try(have ef:=Qq Y.out 1))
   (try(have cv:=Qq Y.out 2))
   have ξ :=Aside0.mk (Qd Y.out)
   have φ :=Aside0.mk (Qf HB.out)
   clear Y
   clear HB
   have Y:= ξ
   have HB:= φ
   clear ξ φ
   refine Zn (n:=6) (S:=fun w'=>w'.cell? ⟨Z,0,none⟩=some (.int .i64 J)∧w'.cell? ⟨Z,1,none⟩=some (.int .i64 B)∧w'.cell? ⟨Z,2,none⟩=some (.int .i64 L)) (ds:=[]) #[false,false,false,false,false,false] kr rfl rfl ⟨(Qa Y.out 0).trans rfl,(Qa Y.out 1).trans rfl,(Qa Y.out 2).trans rfl⟩ (fun hHeld=>?_)
   generalize bb.drew=i2 at Y HB hHeld ⊢
   refine Xw (i:=1) (N:=some 9) (v:=?_) (a':=?_) #[false,true,false,false,false,false] rfl rfl kr (fun _ _ _ h=>h) (Or.inl ⟨by rfl, ?_⟩) ?_ ?_
   rotate_left
   ·intro w'
    go_simp
    with_reducible rfl
   rotate_left
   ·simp only[Act.put,qS,Zb,Zj]
    rfl
   refine Y5 (i:=2) (N:=some 10) (v:=?_) (a':=?_) #[false,true,true,false,false,false] rfl rfl kr (fun _ _ _ h=>h) (Or.inl ⟨by rfl, ?_⟩) hHeld ?_ ?_
   rotate_left
   ·rintro w' ⟨s0,s1,s2⟩
    go_simp
    with_reducible rfl
   rotate_left
   ·simp only[Act.put,qS,Zb,Zj]
    rfl
   refine Ze (i:=0) (N:=some 8) #[true,true,true,false,false,false] rfl rfl kr (by decide) (fun K hK=>?_)
   refine Zd Try.func87 kr rfl #[] (by rfl) rfl rfl (by(try simp only[List.map_toArray,List.map_cons,List.map_nil]);first|done|rfl|(simp only[List.length_drop,List.length_take];rfl)) ?_
   with_reducible refine(door_phases.calls _).mono ?_
   rintro e dm ⟨rfl,hb⟩
   refine⟨_,rfl, ?_⟩
   have ξ :=Aside0.mk (Qs (g:=Z) (o:=.cells #[.int .i64 J,.int .i64 B,.int .i64 L] 27 (0,0)) (by(with_reducible repeat first|refine Qj ?_ _|refine Qd ?_|refine Qk ?_ _);exact Y.out) hb)
   have φ :=Aside0.mk (Qx (by repeat(first|(with_reducible first|exact HB.out|apply Qo|apply Qi|apply Qf|refine Qp ?_ κ.out)|exact HB.out)) hb)
   clear Y
   clear HB
   have Y:= ξ
   have HB:= φ
   clear ξ φ
   (try clear hb)
   (try clear a9)
   (try clear hk)
   (try clear hi)
   refine hK.out _ _ ⟨qc Y,qc Y,qc Y⟩ (fun hHeld=>?_)
   clear hK K
   refine qN (some 8) ?_
   refine Xw (i:=3) (N:=some 11) (v:=?_) (a':=?_) #[true,true,true,true,false,false] rfl rfl kr (fun _ _ _ h=>h) (Or.inl ⟨by rfl, ?_⟩) ?_ ?_
   rotate_left
   ·intro w'
    rw[K5 (d:=J) (x:=.tmp 8) (y:=.tmp 10)]
    all_goals first|exact hph_.1|exact hph_.2|rfl
   rotate_left
   ·simp only[Act.put,qS,Zb,Zj]
    rfl
   refine Xw (i:=4) (N:=some 12) (v:=?_) (a':=?_) #[true,true,true,true,true,false] rfl rfl kr (fun _ _ _ h=>h) (Or.inl ⟨by rfl, ?_⟩) ?_ ?_
   rotate_left
   ·intro w'
    go_simp
    with_reducible rfl
   rotate_left
   ·simp only[Act.put,qS,Zb,Zj]
    rfl
   refine Xw (i:=5) (N:=some 3) (v:=?_) (a':=?_) #[true,true,true,true,true,true] rfl rfl kr (fun _ _ _ h=>h) (Or.inl ⟨by rfl, ?_⟩) ?_ ?_
   rotate_left
   ·intro w'
    go_simp
    with_reducible rfl
   rotate_left
   ·simp only[Act.put,qS,Zb,Zj]
    rfl
   refine Z5 kr ?_
   obtain⟨d4,dw,e8,d5,e9,eb⟩:=qD3 Y.out
   try go_wp2_with (first|((with_reducible refine Ql (f:=86) rfl ?_);refine Q2 (some 18) rfl rfl Try.func86 kr rfl #[.int .i64 B,.int .i64 δ,.int .i64 (Zt J)] rfl (by(try simp only[List.map_toArray,List.map_cons,List.map_nil]);first|done|(simp only[X];rfl)|rfl|(simp only[List.length_drop,List.length_take];rfl)) ?_;(with_reducible refine(door_within.calls B δ (Zt J) false _ A6.out).mono ?_);rintro e w' ⟨rfl,⟨nd,rfl⟩⟩;refine⟨_,rfl, ?_⟩))
   go_ret
   exact⟨by first|rfl|(simp[Qh,Qg] <;> rfl)|(simp only[← X];first|rfl|(simp[Qh,Qg] <;> rfl))|(simp[*,Qh,Qg] <;> rfl),bel⟩
 ·replace c3:=Bool.eq_false_iff.mpr c3
  subst c3
  have H1:(some 170)=some r:=by rw[if_neg (show ¬ (false=true) by decide)] at H;exact H
  clear H
  have H:=H1
  clear H1
  obtain rfl:=Option.some.inj H
  go_enter Try.func71,Try.ntmps71
  go_wp2_with (first|((with_reducible refine Qe (N:=1) rfl ?_);(try(refine Zy (by rfl) ?_;dsimp only));refine qE 1 #[.int .i64 J,.int .i64 B,.int .i64 L] 27 ?_;intro Z hg ch hbox hb;have Y:=Aside0.mk hbox;have ρ:=sGe hg;have κ :=sGe hg;replace HB:=sHb hb;clear hb hbox hg;obtain⟨d7,df,aj,dh,e4,ak⟩:=qD3 Y.out)|((with_reducible refine Ql (f:=86) rfl ?_);refine Q2 (some 6) rfl rfl Try.func86 kr rfl #[.int .i64 J,.int .i64 0,.int .i64 3] rfl qM ?_;(with_reducible refine(door_within.calls J 0 3 false _ A2.out).mono ?_);rintro e w' ⟨rfl,⟨nd,rfl⟩⟩;refine⟨_,rfl, ?_⟩))
  go_ret
  exact⟨by first|rfl|(simp[Qh,Qg] <;> rfl)|(simp[*,Qh,Qg] <;> rfl),bel⟩
def door_Rest.j0:Nat→Bool→Int→Int→Int→Int→Int→Int→Int→Int→Int→Int→Int→Int→Int→Option (Int×Int)
 |0,_,_,_,_,_,_,_,_,_,_,_,_,_,_=>none
 |k+1,ι,γ,δ,ε,L,ζ,η,B,θ,J,O,X,Y,Z=>if ι = true then (some (0,170)) else (if X=0 then (some (0,0)) else (if X=1 then (some (wrap64 ((wrap64 (Y+(wrap64 (J+B))))+(wrap64 ((mx (wrap64 (O-Z)) 0) * (wrap64 ((wrap64 (L+J))+B))))),0)) else (if X=2 then (some (wrap64 ((wrap64 (Y+B))+(wrap64 ((mx (wrap64 (O-Z)) 0) * (wrap64 ((wrap64 (L+J))+B))))),0)) else (some (wrap64 (Y+(wrap64 ((mx (wrap64 (O-Z)) 0) * (wrap64 ((wrap64 (L+J))+B))))),0)))))
def door_Rest.f (k:Nat) (J:Int) (B:Int) (L:Int) (O:Int) (X:Int) (δ :Int) (γ:Int) (θ :Int) (η :Int) (ζ :Int) (Z:Int) (Y:Int) (ε :Int):Option (Int×Int):=(door_gear.f k J B L O X δ γ θ η ζ).bind fun τ =>(if τ = true then ((door_Check.f Z Y ε).bind fun ρ=>(door_Rest.j0 k (ρ != 0) J B L O X δ γ θ η ζ Z Y ε)) else (door_Rest.j0 k true J B L O X δ γ θ η ζ Z Y ε))
theorem door_Rest.Zi:∀ k,(∀ L O X B Y Z y6 y7 y8 y9 γ ε ζ η,LeO (door_Rest.j0 k L O X B Y Z y6 y7 y8 y9 γ ε ζ η) (door_Rest.j0 (k+1) L O X B Y Z y6 y7 y8 y9 γ ε ζ η))
 |0=>fun _ _ _ _ _ _ _ _ _ _ _ _ _ _ r h=>by simp[door_Rest.j0] at h
 |k+1=>by
  have J:=door_Rest.Zi k
  ·intro L O X B Y Z y6 y7 y8 y9 γ ε ζ η
   unfold door_Rest.j0
   repeat' first
   |(with_reducible exact J _ _ _ _ _ _ _ _ _ _ _ _ _ _)
   |(with_reducible exact door_gear.mono _ _ _ _ _ _ _ _ _ _ _)
   |(with_reducible exact LeO.refl _)
   |(with_reducible exact LeO.none _)
   |(with_reducible refine LeO.ite ?_ ?_)
   |(with_reducible refine LeO.bind ?_ (fun _=>?_))
   |exact J _ _ _ _ _ _ _ _ _ _ _ _ _ _
   |exact door_gear.mono _ _ _ _ _ _ _ _ _ _ _
   |exact LeO.none _
   |refine LeO.ite ?_ ?_
   |refine LeO.bind ?_ (fun _=>?_)
theorem door_Rest.mono:∀ B O a2 a3 L a5 X a7 a8 a9 Y Z γ k,LeO (door_Rest.f k B O a2 a3 L a5 X a7 a8 a9 Y Z γ) (door_Rest.f (k+1) B O a2 a3 L a5 X a7 a8 a9 Y Z γ):=by
 intro B O a2 a3 L a5 X a7 a8 a9 Y Z γ k
 have J:=door_Rest.Zi k
 unfold door_Rest.f
 repeat' first
   |(with_reducible exact J _ _ _ _ _ _ _ _ _ _ _ _ _ _)
   |(with_reducible exact door_gear.mono _ _ _ _ _ _ _ _ _ _ _)
   |(with_reducible exact LeO.refl _)
   |(with_reducible exact LeO.none _)
   |(with_reducible refine LeO.ite ?_ ?_)
   |(with_reducible refine LeO.bind ?_ (fun _=>?_))
   |exact J _ _ _ _ _ _ _ _ _ _ _ _ _ _
   |exact door_gear.mono _ _ _ _ _ _ _ _ _ _ _
   |exact LeO.none _
   |refine LeO.ite ?_ ?_
   |refine LeO.bind ?_ (fun _=>?_)
set_option maxHeartbeats 8000000 in
set_option maxRecDepth 100000 in
theorem door_Rest.calls (k:Nat) (J:Int) (B:Int) (L:Int) (O:Int) (X:Int) (δ :Int) (γ:Int) (θ :Int) (η :Int) (ζ :Int) (Z:Int) (Y:Int) (ε :Int) (r1:Int) (r2:Int) (w:World) (h:door_Rest.f k J B L O X δ γ θ η ζ Z Y ε = some (r1,r2)):
  Calls Try.prog 47 #[.agg #[.int .i64 J,.int .i64 B,.int .i64 L,.int .i64 O,.int .i64 X,.int .i64 δ,.int .i64 γ,.int .i64 θ,.int .i64 η,.int .i64 ζ],.agg #[.int .i64 Z,.int .i64 Y,.int .i64 ε]] w fun e w'=>e = .returned (.tuple #[.int .i64 r1,.int .i64 r2])∧Below w.heap.size w w':=by
 have db:=Try.underlying25
 have eh:=Try.underlying27
 have HB:=Aside0.mk (Below.refl w.heap.size w)
 have H:((door_gear.f k J B L O X δ γ θ η ζ).bind fun τ =>(if τ = true then ((door_Check.f Z Y ε).bind fun ρ=>(door_Rest.j0 k (ρ != 0) J B L O X δ γ θ η ζ Z Y ε)) else (door_Rest.j0 k true J B L O X δ γ θ η ζ Z Y ε)))=some (r1,r2):=h
 clear h
 have ah:=Aside0.mk H
 clear H
 go_enter Try.func47,Try.ntmps47
 go_upto_region 1 with(first|((with_reducible refine Qe (N:=2) rfl ?_);refine qE 2 #[.int .i64 J,.int .i64 B,.int .i64 L,.int .i64 O,.int .i64 X,.int .i64 δ,.int .i64 γ,.int .i64 θ,.int .i64 η,.int .i64 ζ] 25 ?_;intro al hg w4 hbox hb;have ι :=Aside0.mk hbox;have ct:=sGe hg;have cu:=sGe hg;replace HB:=sHb hb;clear hb hbox hg)|((with_reducible refine Qe (N:=3) rfl ?_);refine qE 3 #[.int .i64 Z,.int .i64 Y,.int .i64 ε] 27 ?_;intro am hg w5 hbox hb;have κ :=Aside0.mk hbox;have cw:=sGe hg;have cx:=sGe hg;have μ :=sNl ι hg;have ν :=sNg ι hg;replace ι :=sBk ι hb;replace HB:=sHb hb;clear hb hbox hg))
 (try simp only[Act.put,qS])
 go_cut [14] (fun cn wc=>∃ (kq:Nat) (χ :Bool),cn = .bool χ ∧ Aside0 (door_Rest.j0 kq χ J B L O X δ γ θ η ζ Z Y ε = some (r1,r2))∧Aside0 (kq≤k)∧Aside0 (wc.heap[al]?=some (.cells #[.int .i64 J,.int .i64 B,.int .i64 L,.int .i64 O,.int .i64 X,.int .i64 δ,.int .i64 γ,.int .i64 θ,.int .i64 η,.int .i64 ζ] 25 (0,0)))∧Aside0 (wc.heap[am]?=some (.cells #[.int .i64 Z,.int .i64 Y,.int .i64 ε] 27 (0,0)))∧Aside0 (Below w.heap.size w wc))
 case first=>
  have H:=ah.out
  clear ah
  replace H:=Option.bind_eq_some_iff.mp H
  obtain⟨τ,ao,H⟩:=H
  replace H:(if τ = true then ((door_Check.f Z Y ε).bind fun ρ=>(door_Rest.j0 k (ρ != 0) J B L O X δ γ θ η ζ Z Y ε)) else (door_Rest.j0 k true J B L O X δ γ θ η ζ Z Y ε))=some (r1,r2):=H
  have A6:=Aside0.mk ao
  clear ao
  by_cases c7: τ = true
  ·subst c7
   have H1:((door_Check.f Z Y ε).bind fun ρ=>(door_Rest.j0 k (ρ != 0) J B L O X δ γ θ η ζ Z Y ε))=some (r1,r2):=by rw[if_pos rfl] at H;exact H
   clear H
   have H:=H1
   clear H1
   replace H:=Option.bind_eq_some_iff.mp H
   obtain⟨ρ,bl,H⟩:=H
   replace H:(door_Rest.j0 k (ρ != 0) J B L O X δ γ θ η ζ Z Y ε)=some (r1,r2):=H
   have A8:=Aside0.mk bl
   clear bl
   have H':=Aside0.mk H
   clear H
   have cy:= μ.out
   have d8:= ν.out
   obtain⟨a7,ae,d9,dj,dk,dl,dm,a0,ab,e8,dn,dp,dq,dr,dt,dw,e3,fe,fj,fk⟩:=Za ι.out
   go_wp2_with (first|((with_reducible refine Ql (f:=72) rfl ?_);refine Q2 (some 8) rfl rfl Try.func72 kr rfl #[.agg #[.int .i64 J,.int .i64 B,.int .i64 L,.int .i64 O,.int .i64 X,.int .i64 δ,.int .i64 γ,.int .i64 θ,.int .i64 η,.int .i64 ζ]] rfl qM ?_;(with_reducible refine(door_gear.calls k J B L O X δ γ θ η ζ true _ A6.out).mono ?_);rintro e el ⟨rfl,hb⟩;refine⟨_,rfl, ?_⟩;replace ι :=sBk ι hb;replace κ :=sBk κ hb;replace HB:=sHb hb;(try clear hb);(try clear a9);(try clear hk);(try clear hi);obtain⟨a2,a3,a8,a4,a5,aa⟩:=qD3 κ.out)|(go_at_call 71;(with_reducible refine(door_Check.calls Z Y ε ρ _ A8.out).mono ?_);rintro e ek ⟨rfl,hb⟩;have ξ :=Aside0.mk (Qs (g:=al) (o:=.cells #[.int .i64 J,.int .i64 B,.int .i64 L,.int .i64 O,.int .i64 X,.int .i64 δ,.int .i64 γ,.int .i64 θ,.int .i64 η,.int .i64 ζ] 25 (0,0)) ι.out hb);have φ :=Aside0.mk (Qs (g:=am) (o:=.cells #[.int .i64 Z,.int .i64 Y,.int .i64 ε] 27 (0,0)) κ.out hb);have ω :=Aside0.mk (Qx HB.out hb);clear ι;clear κ;clear HB;have ι := ξ;have κ := φ;have HB:= ω;clear ξ φ ω;(try clear hb);(try clear a9);(try clear hk);(try clear hi)))
   go_meet
   case rel=>exact⟨_,((ρ != 0)),rfl,H',⟨by first|omega|exact Nat.le_refl _⟩,ι,κ,HB⟩
  ·replace c7:=Bool.eq_false_iff.mpr c7
   subst c7
   have H1:(door_Rest.j0 k true J B L O X δ γ θ η ζ Z Y ε)=some (r1,r2):=by rw[if_neg (show ¬ (false=true) by decide)] at H;exact H
   clear H
   have H:=H1
   clear H1
   have H':=Aside0.mk H
   clear H
   have eg:= μ.out
   have er:= ν.out
   obtain⟨bb,bg,af,an,ar,au,av,aw,ax,ay,bq,br,ap,az,b0,b1,b2,b3,b4,bc⟩:=Za ι.out
   go_wp2_with (first|((with_reducible refine Ql (f:=72) rfl ?_);refine Q2 (some 8) rfl rfl Try.func72 kr rfl #[.agg #[.int .i64 J,.int .i64 B,.int .i64 L,.int .i64 O,.int .i64 X,.int .i64 δ,.int .i64 γ,.int .i64 θ,.int .i64 η,.int .i64 ζ]] rfl qM ?_;(with_reducible refine(door_gear.calls k J B L O X δ γ θ η ζ false _ A6.out).mono ?_);rintro e de ⟨rfl,hb⟩;refine⟨_,rfl, ?_⟩;replace ι :=sBk ι hb;replace κ :=sBk κ hb;replace HB:=sHb hb;(try clear hb);(try clear a9);(try clear hk);(try clear hi)))
   go_meet
   case rel=>exact⟨_,(true),rfl,H',⟨by first|omega|exact Nat.le_refl _⟩,ι,κ,HB⟩
 case rest=>
  clear ah
  try clear c1
  try clear p2
  try clear c4
  try clear c7
  try clear c9
  try clear ac
  try clear a7
  try clear ae
  try clear d9
  try clear dj
  try clear dk
  try clear dl
  try clear dm
  try clear a0
  try clear ab
  try clear e8
  try clear a2
  try clear a3
  try clear a8
  try clear bb
  try clear bg
  try clear af
  try clear an
  try clear ar
  try clear au
  try clear av
  try clear aw
  try clear ax
  try clear ay
  try clear dn
  try clear dp
  try clear dq
  try clear dr
  try clear dt
  try clear dw
  try clear e3
  try clear fe
  try clear fj
  try clear fk
  try clear a4
  try clear a5
  try clear aa
  try clear bq
  try clear br
  try clear ap
  try clear az
  try clear b0
  try clear b1
  try clear b2
  try clear b3
  try clear b4
  try clear bc
  obtain⟨kq,χ,rfl,HA,mj,ι,κ,HB⟩:=hcut
  cases kq with
  |zero=>exact absurd HA.out (by simp[door_Rest.j0])
  |succ ml=>
   have H:=HA.out
   clear HA
   simp only[door_Rest.j0] at H
   by_cases σ: χ = true
   ·subst σ
    have H1:(some (0,170))=some (r1,r2):=by rw[if_pos rfl] at H;exact H
    clear H
    have H:=H1
    clear H1
    simp only[Option.some.injEq,Prod.mk.injEq] at H
    obtain⟨rfl,rfl⟩:=H
    go_wp2
    go_ret2
    exact⟨rfl,HB.out⟩
   ·replace σ:=Bool.eq_false_iff.mpr σ
    subst σ
    have H1:(if Z=0 then (some (0,0)) else (if Z=1 then (some (wrap64 ((wrap64 (Y+(wrap64 (η + γ))))+(wrap64 ((mx (wrap64 (ζ - ε)) 0) * (wrap64 ((wrap64 (O + η))+γ))))),0)) else (if Z=2 then (some (wrap64 ((wrap64 (Y+γ))+(wrap64 ((mx (wrap64 (ζ - ε)) 0) * (wrap64 ((wrap64 (O + η))+γ))))),0)) else (some (wrap64 (Y+(wrap64 ((mx (wrap64 (ζ - ε)) 0) * (wrap64 ((wrap64 (O + η))+γ))))),0)))))=some (r1,r2):=by rw[if_neg (show ¬ (false=true) by decide)] at H;exact H
    clear H
    have H:=H1
    clear H1
    by_cases b9:Z=0
    ·rw[if_pos b9] at H
     have c18b0:(Z==0)=true:=beq_iff_eq.mpr b9
     have c18b1:(Z != 0)=false:=bne_eq_false_iff_eq.mpr b9
     clear b9
     simp only[Option.some.injEq,Prod.mk.injEq] at H
     obtain⟨rfl,rfl⟩:=H
     have bz:= ν.out
     have ce:= μ.out
     obtain⟨bs,bu,cb,bv,bw,cd⟩:=qD3 κ.out
     go_wp2
     go_ret2
     exact⟨rfl,HB.out⟩
    ·rw[if_neg b9] at H
     have c18b0:(Z==0)=false:=beq_eq_false_iff_ne.mpr b9
     have c18b1:(Z != 0)=true:=bne_iff_ne.mpr b9
     by_cases ag:Z=1
     ·rw[if_pos ag] at H
      have c21b0:(Z==1)=true:=beq_iff_eq.mpr ag
      have c21b1:(Z != 1)=false:=bne_eq_false_iff_eq.mpr ag
      clear ag
      obtain⟨bh,ψ⟩:∃ j_:Int,(mx (wrap64 (ζ - ε)) 0)=j_:=⟨_,rfl⟩
      replace H:(some (wrap64 ((wrap64 (Y+(wrap64 (η + γ))))+(wrap64 ((bh) * (wrap64 ((wrap64 (O + η))+γ))))),0))=some (r1,r2):=by first|(rw[ψ] at H;exact H)|(simp only[ψ] at H ⊢;exact H)
      have co:(if (wrap64 (ζ - ε))<0 then 0 else (wrap64 (ζ - ε)))=bh:= ψ
      simp only[Option.some.injEq,Prod.mk.injEq] at H
      obtain⟨rfl,rfl⟩:=H
      have d2:= ν.out
      have d3:= μ.out
      obtain⟨b5,b6,ca,b7,b8,cf⟩:=qD3 κ.out
      obtain⟨ec,ed,ba,dv,eo,fc,fl,bp,bd,be,ee,ef,cv,fm,fn,fo,fr,cr,bf,bi⟩:=Za ι.out
      go_wp2
      go_ret2
      exact⟨by first|rfl|(simp[Qh,Qg] <;> rfl)|(simp only[← ψ];first|rfl|(simp[Qh,Qg] <;> rfl))|(simp[*,Qh,Qg] <;> rfl),HB.out⟩
     ·rw[if_neg ag] at H
      have c21b0:(Z==1)=false:=beq_eq_false_iff_ne.mpr ag
      have c21b1:(Z != 1)=true:=bne_iff_ne.mpr ag
      by_cases a6:Z=2
      ·rw[if_pos a6] at H
       have c26b0:(Z==2)=true:=beq_iff_eq.mpr a6
       have c26b1:(Z != 2)=false:=bne_eq_false_iff_eq.mpr a6
       clear a6
       obtain⟨bj,a1⟩:∃ j_:Int,(mx (wrap64 (ζ - ε)) 0)=j_:=⟨_,rfl⟩
       replace H:(some (wrap64 ((wrap64 (Y+γ))+(wrap64 ((bj) * (wrap64 ((wrap64 (O + η))+γ))))),0))=some (r1,r2):=by first|(rw[a1] at H;exact H)|(simp only[a1] at H ⊢;exact H)
       have cp:(if (wrap64 (ζ - ε))<0 then 0 else (wrap64 (ζ - ε)))=bj:=a1
       simp only[Option.some.injEq,Prod.mk.injEq] at H
       obtain⟨rfl,rfl⟩:=H
       have jk:= ν.out
       have jl:= μ.out
       obtain⟨ft,fu,fv,fw,fx,fy⟩:=qD3 κ.out
       obtain⟨d7,df,aj,ea,ei,ej,em,gy,gz,h0,dh,e4,ak,fa,fb,g5,g6,h4,h5,h6⟩:=Za ι.out
       go_wp2
       go_ret2
       exact⟨by first|rfl|(simp[Qh,Qg] <;> rfl)|(simp only[← a1];first|rfl|(simp[Qh,Qg] <;> rfl))|(simp[*,Qh,Qg] <;> rfl),HB.out⟩
      ·rw[if_neg a6] at H
       have c26b0:(Z==2)=false:=beq_eq_false_iff_ne.mpr a6
       have c26b1:(Z != 2)=true:=bne_iff_ne.mpr a6
       obtain⟨bk,ai⟩:∃ j_:Int,(mx (wrap64 (ζ - ε)) 0)=j_:=⟨_,rfl⟩
       replace H:(some (wrap64 (Y+(wrap64 ((bk) * (wrap64 ((wrap64 (O + η))+γ))))),0))=some (r1,r2):=by first|(rw[ai] at H;exact H)|(simp only[ai] at H ⊢;exact H)
       have cq:(if (wrap64 (ζ - ε))<0 then 0 else (wrap64 (ζ - ε)))=bk:=ai
       simp only[Option.some.injEq,Prod.mk.injEq] at H
       obtain⟨rfl,rfl⟩:=H
       have ff:= ν.out
       have fg:= μ.out
       obtain⟨dc,dd,dy,du,dx,dz⟩:=qD3 κ.out
       obtain⟨ch,d6,g2,cj,cz,d0,d1,bm,bn,bo,ci,g3,g4,d4,d5,jh,ji,cg,ck,cm⟩:=Za ι.out
       go_wp2
       go_ret2
       exact⟨by first|rfl|(simp[Qh,Qg] <;> rfl)|(simp only[← ai];first|rfl|(simp[Qh,Qg] <;> rfl))|(simp[*,Qh,Qg] <;> rfl),HB.out⟩
def door_Ask.j0:Nat→Bool→Int→Int→Int→Int→Int→Int→Int→Int→Int→Int→Option (Int×Int×Int×Int)
 |0,_,_,_,_,_,_,_,_,_,_,_=>none
 |k+1,ζ,X,Y,J,Z,γ,δ,ε,B,L,O=>if ζ = true then (some (0,0,0,170)) else (if B=0 then (some (1,J,0,0)) else (some (B,L,O,0)))
def door_Ask.f (k:Nat) (J:Int) (B:Int) (L:Int) (O:Int) (X:Int) (δ :Int) (γ:Int) (Z:Int) (Y:Int) (ε :Int):Option (Int×Int×Int×Int):=(door_times.f k J B L O X δ γ).bind fun a0=>(if a0=true then ((door_Check.f Z Y ε).bind fun ν =>(door_Ask.j0 k (ν != 0) J B L O X δ γ Z Y ε)) else (door_Ask.j0 k true J B L O X δ γ Z Y ε))
theorem door_Ask.Zi:∀ k,(∀ L O X B Y Z y6 y7 y8 y9 γ,LeO (door_Ask.j0 k L O X B Y Z y6 y7 y8 y9 γ) (door_Ask.j0 (k+1) L O X B Y Z y6 y7 y8 y9 γ))
 |0=>fun _ _ _ _ _ _ _ _ _ _ _ r h=>by simp[door_Ask.j0] at h
 |k+1=>by
  have J:=door_Ask.Zi k
  ·intro L O X B Y Z y6 y7 y8 y9 γ
   unfold door_Ask.j0
   repeat' first
   |(with_reducible exact J _ _ _ _ _ _ _ _ _ _ _)
   |(with_reducible exact door_times.mono _ _ _ _ _ _ _ _)
   |(with_reducible exact LeO.refl _)
   |(with_reducible exact LeO.none _)
   |(with_reducible refine LeO.ite ?_ ?_)
   |(with_reducible refine LeO.bind ?_ (fun _=>?_))
   |exact J _ _ _ _ _ _ _ _ _ _ _
   |exact door_times.mono _ _ _ _ _ _ _ _
   |exact LeO.none _
   |refine LeO.ite ?_ ?_
   |refine LeO.bind ?_ (fun _=>?_)
theorem door_Ask.mono:∀ B O a2 a3 L a5 X a7 a8 a9 k,LeO (door_Ask.f k B O a2 a3 L a5 X a7 a8 a9) (door_Ask.f (k+1) B O a2 a3 L a5 X a7 a8 a9):=by
 intro B O a2 a3 L a5 X a7 a8 a9 k
 have J:=door_Ask.Zi k
 unfold door_Ask.f
 repeat' first
   |(with_reducible exact J _ _ _ _ _ _ _ _ _ _ _)
   |(with_reducible exact door_times.mono _ _ _ _ _ _ _ _)
   |(with_reducible exact LeO.refl _)
   |(with_reducible exact LeO.none _)
   |(with_reducible refine LeO.ite ?_ ?_)
   |(with_reducible refine LeO.bind ?_ (fun _=>?_))
   |exact J _ _ _ _ _ _ _ _ _ _ _
   |exact door_times.mono _ _ _ _ _ _ _ _
   |exact LeO.none _
   |refine LeO.ite ?_ ?_
   |refine LeO.bind ?_ (fun _=>?_)
set_option maxHeartbeats 8000000 in
set_option maxRecDepth 100000 in
theorem door_Ask.calls (k:Nat) (J:Int) (B:Int) (L:Int) (O:Int) (X:Int) (δ :Int) (γ:Int) (Z:Int) (Y:Int) (ε :Int) (r1:Int) (r2:Int) (r3:Int) (r4:Int) (w:World) (h:door_Ask.f k J B L O X δ γ Z Y ε = some (r1,r2,r3,r4)):
  Calls Try.prog 46 #[.agg #[.int .i64 J,.int .i64 B,.int .i64 L,.int .i64 O,.int .i64 X,.int .i64 δ,.int .i64 γ],.agg #[.int .i64 Z,.int .i64 Y,.int .i64 ε]] w fun e w'=>e = .returned (.tuple #[.agg #[.int .i64 r1,.int .i64 r2,.int .i64 r3],.int .i64 r4])∧Below w.heap.size w w':=by
 have g7:=Try.underlying23
 have eh:=Try.underlying27
 have HB:=Aside0.mk (Below.refl w.heap.size w)
 have H:((door_times.f k J B L O X δ γ).bind fun a0=>(if a0=true then ((door_Check.f Z Y ε).bind fun ν =>(door_Ask.j0 k (ν != 0) J B L O X δ γ Z Y ε)) else (door_Ask.j0 k true J B L O X δ γ Z Y ε)))=some (r1,r2,r3,r4):=h
 clear h
 have ah:=Aside0.mk H
 clear H
 go_enter Try.func46,Try.ntmps46
 go_upto_region 1 with(first|((with_reducible refine Qe (N:=2) rfl ?_);refine qE 2 #[.int .i64 J,.int .i64 B,.int .i64 L,.int .i64 O,.int .i64 X,.int .i64 δ,.int .i64 γ] 23 ?_;intro a6 hg w4 hbox hb;have ζ :=Aside0.mk hbox;have ay:=sGe hg;have ba:=sGe hg;replace HB:=sHb hb;clear hb hbox hg)|((with_reducible refine Qe (N:=3) rfl ?_);refine qE 3 #[.int .i64 Z,.int .i64 Y,.int .i64 ε] 27 ?_;intro ai hg w5 hbox hb;have η :=Aside0.mk hbox;have bd:=sGe hg;have be:=sGe hg;have ρ:=sNl ζ hg;have τ :=sNg ζ hg;replace ζ :=sBk ζ hb;replace HB:=sHb hb;clear hb hbox hg)|((with_reducible refine Qe (N:=4) rfl ?_);refine qE 4 #[.int .i64 0,.int .i64 0,.int .i64 0] 27 ?_;intro ψ hg w6 hbox hb;have θ :=Aside0.mk hbox;have bf:=sGe hg;have bv:=sGe hg;have κ :=sNl ζ hg;have μ :=sNg ζ hg;have χ :=sNl η hg;have ι :=sNg η hg;replace ζ :=sBk ζ hb;replace η :=sBk η hb;replace HB:=sHb hb;clear hb hbox hg))
 (try simp only[Act.put,qS])
 go_cut [13] (fun ao wc=>∃ (kq:Nat) (a1:Bool),ao = .bool a1∧Aside0 (door_Ask.j0 kq a1 J B L O X δ γ Z Y ε = some (r1,r2,r3,r4))∧Aside0 (kq≤k)∧Aside0 (wc.heap[a6]?=some (.cells #[.int .i64 J,.int .i64 B,.int .i64 L,.int .i64 O,.int .i64 X,.int .i64 δ,.int .i64 γ] 23 (0,0)))∧Aside0 (wc.heap[ai]?=some (.cells #[.int .i64 Z,.int .i64 Y,.int .i64 ε] 27 (0,0)))∧Aside0 (wc.heap[ψ]?=some (.cells #[.int .i64 0,.int .i64 0,.int .i64 0] 27 (0,0)))∧Aside0 (Below w.heap.size w wc))
 case first=>
  have H:=ah.out
  clear ah
  replace H:=Option.bind_eq_some_iff.mp H
  obtain⟨a0,cw,H⟩:=H
  replace H:(if a0=true then ((door_Check.f Z Y ε).bind fun ν =>(door_Ask.j0 k (ν != 0) J B L O X δ γ Z Y ε)) else (door_Ask.j0 k true J B L O X δ γ Z Y ε))=some (r1,r2,r3,r4):=H
  have A7:=Aside0.mk cw
  clear cw
  by_cases c8:a0=true
  ·subst c8
   have H1:((door_Check.f Z Y ε).bind fun ν =>(door_Ask.j0 k (ν != 0) J B L O X δ γ Z Y ε))=some (r1,r2,r3,r4):=by rw[if_pos rfl] at H;exact H
   clear H
   have H:=H1
   clear H1
   replace H:=Option.bind_eq_some_iff.mp H
   obtain⟨ν,cg,H⟩:=H
   replace H:(door_Ask.j0 k (ν != 0) J B L O X δ γ Z Y ε)=some (r1,r2,r3,r4):=H
   have A9:=Aside0.mk cg
   clear cg
   have H':=Aside0.mk H
   clear H
   have el:=ρ.out
   have fj:= τ.out
   have dm:= κ.out
   have fk:= μ.out
   obtain⟨a2,a3,a8,al,ar,aw,ax,a4,a5,aa,b0,b1,b2,b3⟩:=qD7 ζ.out
   go_wp2_with (first|((with_reducible refine Ql (f:=70) rfl ?_);refine Q2 (some 7) rfl rfl Try.func70 kr rfl #[.agg #[.int .i64 J,.int .i64 B,.int .i64 L,.int .i64 O,.int .i64 X,.int .i64 δ,.int .i64 γ]] rfl qM ?_;(with_reducible refine(door_times.calls k J B L O X δ γ true _ A7.out).mono ?_);rintro e ek ⟨rfl,hb⟩;refine⟨_,rfl, ?_⟩;replace ζ :=sBk ζ hb;replace η :=sBk η hb;replace θ :=sBk θ hb;replace HB:=sHb hb;(try clear hb);(try clear a9);(try clear hk);(try clear hi);have eg:= χ.out;have er:= ι.out;obtain⟨bb,bg,af,bq,br,ap⟩:=qD3 η.out)|(go_at_call 71;(with_reducible refine(door_Check.calls Z Y ε ν _ A9.out).mono ?_);rintro e de ⟨rfl,hb⟩;have ξ :=Aside0.mk (Qs (g:=a6) (o:=.cells #[.int .i64 J,.int .i64 B,.int .i64 L,.int .i64 O,.int .i64 X,.int .i64 δ,.int .i64 γ] 23 (0,0)) ζ.out hb);have φ :=Aside0.mk (Qs (g:=ai) (o:=.cells #[.int .i64 Z,.int .i64 Y,.int .i64 ε] 27 (0,0)) η.out hb);have ω :=Aside0.mk (Qs (g:= ψ) (o:=.cells #[.int .i64 0,.int .i64 0,.int .i64 0] 27 (0,0)) θ.out hb);have a7:=Aside0.mk (Qx HB.out hb);clear ζ;clear η;clear θ;clear HB;have ζ := ξ;have η := φ;have θ := ω;have HB:=a7;clear ξ φ ω a7;(try clear hb);(try clear a9);(try clear hk);(try clear hi)))
   go_meet
   case rel=>exact⟨_,((ν != 0)),rfl,H',⟨by first|omega|exact Nat.le_refl _⟩,ζ,η,θ,HB⟩
  ·replace c8:=Bool.eq_false_iff.mpr c8
   subst c8
   have H1:(door_Ask.j0 k true J B L O X δ γ Z Y ε)=some (r1,r2,r3,r4):=by rw[if_neg (show ¬ (false=true) by decide)] at H;exact H
   clear H
   have H:=H1
   clear H1
   have H':=Aside0.mk H
   clear H
   have ie:=ρ.out
   have ig:= τ.out
   have cj:= κ.out
   have d1:= μ.out
   obtain⟨am,an,az,bh,bi,bj,bk,au,av,b4,bl,bn,bo,bp⟩:=qD7 ζ.out
   go_wp2_with (first|((with_reducible refine Ql (f:=70) rfl ?_);refine Q2 (some 7) rfl rfl Try.func70 kr rfl #[.agg #[.int .i64 J,.int .i64 B,.int .i64 L,.int .i64 O,.int .i64 X,.int .i64 δ,.int .i64 γ]] rfl qM ?_;(with_reducible refine(door_times.calls k J B L O X δ γ false _ A7.out).mono ?_);rintro e dv ⟨rfl,hb⟩;refine⟨_,rfl, ?_⟩;replace ζ :=sBk ζ hb;replace η :=sBk η hb;replace θ :=sBk θ hb;replace HB:=sHb hb;(try clear hb);(try clear a9);(try clear hk);(try clear hi)))
   go_meet
   case rel=>exact⟨_,(true),rfl,H',⟨by first|omega|exact Nat.le_refl _⟩,ζ,η,θ,HB⟩
 case rest=>
  clear ah
  try clear c1
  try clear p2
  try clear c4
  try clear c7
  try clear c8
  try clear c10
  try clear ae
  try clear ac
  try clear σ
  try clear b9
  try clear a2
  try clear a3
  try clear a8
  try clear al
  try clear ar
  try clear aw
  try clear ax
  try clear bb
  try clear bg
  try clear af
  try clear am
  try clear an
  try clear az
  try clear bh
  try clear bi
  try clear bj
  try clear bk
  try clear a4
  try clear a5
  try clear aa
  try clear b0
  try clear b1
  try clear b2
  try clear b3
  try clear bq
  try clear br
  try clear ap
  try clear au
  try clear av
  try clear b4
  try clear bl
  try clear bn
  try clear bo
  try clear bp
  obtain⟨kq,a1,rfl,HA,mj,ζ,η,θ,HB⟩:=hcut
  cases kq with
  |zero=>exact absurd HA.out (by simp[door_Ask.j0])
  |succ ml=>
   have H:=HA.out
   clear HA
   simp only[door_Ask.j0] at H
   by_cases ag:a1=true
   ·subst ag
    have H1:(some (0,0,0,170))=some (r1,r2,r3,r4):=by rw[if_pos rfl] at H;exact H
    clear H
    have H:=H1
    clear H1
    simp only[Option.some.injEq,Prod.mk.injEq] at H
    obtain⟨rfl,rfl,rfl,rfl⟩:=H
    have fh:= μ.out
    have fi:= κ.out
    have d2:= ι.out
    have d3:= χ.out
    obtain⟨b5,b6,ca,b7,b8,cf⟩:=qD3 θ.out
    go_wp2
    refine bodyPost_ret (Z3 rfl _ _ ψ 27 #[.int .i64 0,.int .i64 0,.int .i64 0] (0,0) _ rfl (by refine Qm (cs:=#[.int .i64 0,.int .i64 0,.int .i64 0]) ?_ 2 _ rfl;refine Qm (cs:=#[.int .i64 0,.int .i64 0,.int .i64 0]) ?_ 1 _ rfl;refine Qm (cs:=#[.int .i64 0,.int .i64 0,.int .i64 0]) ?_ 0 _ rfl;exact θ.out) Try.underlying27 rfl kr) rfl ?_
    exact⟨by first|rfl|(simp[Qh,Qg] <;> rfl)|(simp[*,Qh,Qg] <;> rfl),bel⟩
   ·replace ag:=Bool.eq_false_iff.mpr ag
    subst ag
    have H1:(if Z=0 then (some (1,L,0,0)) else (some (Z,Y,ε,0)))=some (r1,r2,r3,r4):=by rw[if_neg (show ¬ (false=true) by decide)] at H;exact H
    clear H
    have H:=H1
    clear H1
    by_cases ab:Z=0
    ·rw[if_pos ab] at H
     have c25b0:(Z==0)=true:=beq_iff_eq.mpr ab
     have c25b1:(Z != 0)=false:=bne_eq_false_iff_eq.mpr ab
     clear ab
     simp only[Option.some.injEq,Prod.mk.injEq] at H
     obtain⟨rfl,rfl,rfl,rfl⟩:=H
     have bs:= τ.out
     have bu:=ρ.out
     have gj:= χ.out
     have gl:= ι.out
     obtain⟨d4,dw,e8,d5,e9,eb⟩:=qD3 η.out
     have e3:= κ.out
     have g8:= μ.out
     obtain⟨d7,df,aj,ea,ei,ej,em,dh,e4,ak,fa,fb,g5,g6⟩:=qD7 ζ.out
     obtain⟨ck,cm,cn,co,cp,cq⟩:=qD3 θ.out
     go_wp2
     refine bodyPost_ret (Z3 rfl _ _ ψ 27 #[.int .i64 1,.int .i64 L,.int .i64 0] (0,0) _ rfl (by refine Qm (cs:=#[.int .i64 1,.int .i64 L,.int .i64 0]) ?_ 2 _ rfl;refine Qm (cs:=#[.int .i64 1,.int .i64 0,.int .i64 0]) ?_ 1 _ rfl;refine Qm (cs:=#[.int .i64 0,.int .i64 0,.int .i64 0]) ?_ 0 _ rfl;refine X1 ?_ ι.out _;refine X1 ?_ ι.out _;refine X1 ?_ ι.out _;exact θ.out) Try.underlying27 rfl kr) rfl ?_
     exact⟨by first|rfl|(simp[Qh,Qg] <;> rfl)|(simp[*,Qh,Qg] <;> rfl),bel⟩
    ·rw[if_neg ab] at H
     have c25b0:(Z==0)=false:=beq_eq_false_iff_ne.mpr ab
     have c25b1:(Z != 0)=true:=bne_iff_ne.mpr ab
     simp only[Option.some.injEq,Prod.mk.injEq] at H
     obtain⟨rfl,rfl,rfl,rfl⟩:=H
     have ff:= τ.out
     have fg:=ρ.out
     have kj:= χ.out
     have kk:= ι.out
     obtain⟨ch,d6,g2,ci,g3,g4⟩:=qD3 η.out
     have kl:= μ.out
     have km:= κ.out
     obtain⟨fy,fz,bc,g0,g1,bm⟩:=qD3 θ.out
     go_wp2
     refine bodyPost_ret (Z3 rfl _ _ ψ 27 #[.int .i64 Z,.int .i64 Y,.int .i64 ε] (0,0) _ rfl (by refine Qm (cs:=#[.int .i64 Z,.int .i64 Y,.int .i64 0]) ?_ 2 _ rfl;refine Qm (cs:=#[.int .i64 Z,.int .i64 0,.int .i64 0]) ?_ 1 _ rfl;refine Qm (cs:=#[.int .i64 0,.int .i64 0,.int .i64 0]) ?_ 0 _ rfl;exact θ.out) Try.underlying27 rfl kr) rfl ?_
     exact⟨by first|rfl|(simp[Qh,Qg] <;> rfl)|(simp[*,Qh,Qg] <;> rfl),bel⟩
end Go.Proofs.Ytmfffemidlhcpaa.C
namespace Go.Proofs.Ytmfffemidlhcpaa.DoorPure
open Go.RowKit Go.Proofs.YtmfffemidlhcpaaW.PrintWords Go.Proofs.YtmfffemidlhcpaaW.PrintLast Go.Proofs.YtmfffemidlhcpaaW.PrintMore Go.Proofs.Ytmfffemidlhcpaa.C
abbrev tI (n:Int):Prop:=1≤n∧n≤60
abbrev Js (O X J Y Z t5 B:Int):Prop:=(tI O∧tI X∧tI J∧tI Y∧tI Z∧tI t5)∧0≤B∧B≤60
abbrev X3 (g0 Z g2 g3 g4 g5 g6 g7 g8 g9:Int):Prop:=Js Z g2 g3 g4 g5 g6 g7∧(2≤g0∧g0≤64)∧(1≤g8∧g8≤300)∧0≤g9∧g9≤60
abbrev Xq (d0 d1 d2:Int):Prop:=(d0=0∧d1=0∧d2=0)∨((d0=1∨d0=3)∧1≤d1∧d1≤60∧0≤d2∧d2≤60)∨(d0=2∧1≤d1∧d1≤300∧0≤d2∧d2≤60)
theorem Xc (n a b:Int):door_within.f n a b=some (decide (a≤n∧n≤b)):=by
  unfold door_within.f
  by_cases h:a≤n
  · rw[if_pos h];simp[h]
  · rw[if_neg h];simp[h]
theorem rdn (l:List Int) (i:Nat) (h:i<l.length):rd l (i:Int)=l[i]:=by
  simp[rd,h]
theorem Uo (l:List Int) (hl:l.length≤1000) (O X J Y Z t5 B:Int) (j:Nat):∀ (f i:Nat),i+j=l.length→j<f→door_times.l0 f l (l.length:Int) (i:Int) O X J Y Z t5 B=some (decide ((∀ x ∈ l.drop i,tI x)∧0≤B∧B≤60)):=by
  induction j with
  |zero=>
    intro f i h hf
    obtain⟨f,rfl⟩:∃ m,f=m+1:=⟨f-1,by omega⟩
    simp only[door_times.l0]
    rw[if_neg (by omega),Xc,List.drop_of_length_le (by omega)]
    simp
  |succ j ih=>
    intro f i h hf
    obtain⟨f,rfl⟩:∃ m,f=m+1:=⟨f-1,by omega⟩
    have hlt:i<l.length:=by omega
    have ei:wrap64 ((i:Int)+1)=((i+1:Nat):Int):=by unfold wrap64;omega
    simp only[door_times.l0]
    rw[if_pos (by omega),if_pos (by omega),if_pos (by omega),rdn l i hlt,Xc,ei,ih f (i+1) (by omega) (by omega),List.drop_eq_getElem_cons hlt]
    simp only[Option.bind_some]
    by_cases hc:1≤l[i]∧l[i]≤60
    · rw[decide_eq_true hc,if_pos rfl]
      congr 1
      rw[decide_eq_decide]
      constructor
      · rintro⟨h1,L⟩
        refine⟨fun x hx=>?_,L⟩
        rcases List.mem_cons.1 hx with rfl|hx
        · exact hc
        · exact h1 x hx
      · rintro⟨h1,L⟩
        exact⟨fun x hx=>h1 x (List.mem_cons_of_mem _ hx),L⟩
    · have:¬ ((∀ x ∈ l[i] :: l.drop (i+1),tI x)∧0≤B∧B≤60):=fun h=>hc (h.1 _ List.mem_cons_self)
      rw[decide_eq_false hc,if_neg (by decide),decide_eq_false this]
theorem V0 (O X J Y Z t5 B:Int) (f:Nat) (hf:10<f):door_times.f f O X J Y Z t5 B=some (decide (Js O X J Y Z t5 B)):=by
  unfold door_times.f
  simp only[Option.bind_some]
  have:=Uo [O,X,J,Y,Z,t5] (by simp) O X J Y Z t5 B 6 f 0 rfl (by omega)
  rw[show((0:Nat):Int)=0 from rfl] at this
  rw[this]
  congr 1
  rw[decide_eq_decide]
  simp only[List.drop_zero,List.mem_cons,List.not_mem_nil,or_false,forall_eq_or_imp,forall_eq]
theorem Nb (g0 Z g2 g3 g4 g5 g6 g7 g8 g9:Int) (f:Nat) (hf:10<f):door_gear.f f g0 Z g2 g3 g4 g5 g6 g7 g8 g9=some (decide (X3 g0 Z g2 g3 g4 g5 g6 g7 g8 g9)):=by
  unfold door_gear.f
  rw[V0 _ _ _ _ _ _ _ f hf,Xc,Xc,Xc]
  simp only[Option.bind_some]
  by_cases h1:Js Z g2 g3 g4 g5 g6 g7
  · rw[decide_eq_true h1,if_pos rfl]
    by_cases L:2≤g0∧g0≤64
    · rw[decide_eq_true L,if_pos rfl]
      by_cases O:1≤g8∧g8≤300
      · rw[decide_eq_true O,if_pos rfl]
        congr 1
        rw[decide_eq_decide]
        exact⟨fun h=>⟨h1,L,O,h⟩,fun h=>h.2.2.2⟩
      · rw[decide_eq_false O,if_neg (by decide),decide_eq_false (fun h=>O h.2.2.1)]
    · rw[decide_eq_false L,if_neg (by decide),decide_eq_false (fun h=>L h.2.1)]
  · rw[decide_eq_false h1,if_neg (by decide),decide_eq_false (fun h=>h1 h.1)]
theorem on_eq (d0 d1 d2 a b:Int):door_on.f d0 d1 d2 a b=some (if wrap64 (d1-1)=0 then (a,b,d2) else (d0,wrap64 (d1-1),d2)):=by
  unfold door_on.f
  split <;> rfl
theorem Yg (d0 d1 d2:Int):door_Check.f d0 d1 d2=some (if Xq d0 d1 d2 then 0 else 170):=by
  unfold door_Check.f
  rw[Xc,Xc,Xc,on_eq]
  simp only[Option.bind_some]
  by_cases h:0≤d0∧d0≤3
  · rw[decide_eq_true h,if_pos rfl]
    have hm:(mn (Zt d0) 1≤d1∧d1≤Zt d0)∧(0≤d2∧d2≤mn (Zt d0) 60)↔Xq d0 d1 d2:=by
      have e:d0=0∨d0=1∨d0=2∨d0=3:=by omega
      rcases e with rfl|rfl|rfl|rfl <;> simp[Zt,mn] <;> omega
    by_cases h1:mn (Zt d0) 1≤d1∧d1≤Zt d0
    · rw[decide_eq_true h1,if_pos rfl]
      by_cases L:0≤d2∧d2≤mn (Zt d0) 60
      · rw[decide_eq_true L,if_pos rfl,if_pos (hm.1 ⟨h1,L⟩)]
      · rw[decide_eq_false L,if_neg (by decide),if_neg (fun h=>L (hm.2 h).2)]
    · rw[decide_eq_false h1,if_neg (by decide),if_neg (fun h=>h1 (hm.2 h).1)]
  · rw[decide_eq_false h,if_neg (by decide),if_neg (by omega)]
def K4 (g3 g6 g8 g9 d0 d1 d2:Int):Int:=
  if d0=0 then 0 else d1+(if d0=1 then g8+g6 else if d0=2 then g6 else 0)+(if d2<g9 then (g9-d2) * (g3+g8+g6) else 0)
theorem Ms {a b:Int} (ha:0≤a∧a≤60) (hb:0≤b∧b≤420):0≤a * b∧a * b≤25200:=by
  refine⟨Int.mul_nonneg ha.1 hb.1, ?_⟩
  have h1:a * b≤60 * b:=Int.mul_le_mul_of_nonneg_right ha.2 hb.1
  omega
theorem w64 {n:Int} (h: -1000000000000≤n∧n≤1000000000000):wrap64 n=n:=by unfold wrap64;omega
theorem Uc (g0 Z g2 g3 g4 g5 g6 g7 g8 g9 d0 d1 d2:Int) (hg:X3 g0 Z g2 g3 g4 g5 g6 g7 g8 g9) (hd:Xq d0 d1 d2):
    wrap64 ((mx (wrap64 (g9-d2)) 0) * (wrap64 ((wrap64 (g3+g8))+g6)))=(if d2<g9 then (g9-d2) * (g3+g8+g6) else 0)∧0≤(if d2<g9 then (g9-d2) * (g3+g8+g6) else 0)∧(if d2<g9 then (g9-d2) * (g3+g8+g6) else 0)≤25200:=by
  have O:1≤g3∧g3≤60:=hg.1.1.2.2.1
  have a2:1≤g6∧g6≤60:=hg.1.1.2.2.2.2.2
  have a3:1≤g8∧g8≤300:=hg.2.2.1
  have L:0≤g9∧g9≤60:=hg.2.2.2
  have a5:0≤d2∧d2≤60:=by omega
  rw[w64 (n:=g9-d2) (by omega),w64 (n:=g3+g8) (by omega),w64 (n:=g3+g8+g6) (by omega)]
  by_cases h:d2<g9
  · have hp:=Ms (a:=g9-d2) (b:=g3+g8+g6) (by omega) (by omega)
    rw[if_pos h]
    have e:mx (g9-d2) 0=g9-d2:=by unfold mx;rw[if_neg (by omega)]
    rw[e]
    exact⟨w64 (by omega),hp⟩
  · rw[if_neg h]
    have e:mx (g9-d2) 0=0:=by unfold mx;split <;> omega
    rw[e,Int.zero_mul]
    exact⟨w64 (by omega),by omega,by omega⟩
theorem U9 (g0 Z g2 g3 g4 g5 g6 g7 g8 g9 d0 d1 d2:Int) (f:Nat) (hf:10<f):
    door_Rest.f f g0 Z g2 g3 g4 g5 g6 g7 g8 g9 d0 d1 d2=some (if X3 g0 Z g2 g3 g4 g5 g6 g7 g8 g9∧Xq d0 d1 d2 then (K4 g3 g6 g8 g9 d0 d1 d2,0) else (0,170)):=by
  unfold door_Rest.f
  rw[Nb _ _ _ _ _ _ _ _ _ _ f hf,Yg]
  simp only[Option.bind_some]
  obtain⟨f,rfl⟩:∃ m,f=m+1:=⟨f-1,by omega⟩
  by_cases h1:X3 g0 Z g2 g3 g4 g5 g6 g7 g8 g9
  · rw[decide_eq_true h1,if_pos rfl]
    by_cases L:Xq d0 d1 d2
    · rw[if_pos L,if_pos (show X3 g0 Z g2 g3 g4 g5 g6 g7 g8 g9∧Xq d0 d1 d2 from⟨h1,L⟩)]
      obtain⟨m1,m2,m3⟩:=Uc _ _ _ _ _ _ _ _ _ _ _ _ _ h1 L
      have a2:1≤g6∧g6≤60:=h1.1.1.2.2.2.2.2
      have a3:1≤g8∧g8≤300:=h1.2.2.1
      simp only[door_Rest.j0]
      rw[m1]
      unfold K4
      generalize(if d2<g9 then (g9-d2) * (g3+g8+g6) else 0)=p at m2 m3 ⊢
      rw[if_neg (by decide)]
      have hb:0≤d1∧d1≤300:=by omega
      by_cases O:d0=0
      · rw[if_pos O,if_pos O]
      · rw[if_neg O,if_neg O]
        by_cases e1:d0=1
        · rw[if_pos e1,if_pos e1,w64 (n:=g8+g6) (by omega),w64 (n:=d1+(g8+g6)) (by omega),w64 (by omega)]
        · rw[if_neg e1,if_neg e1]
          by_cases e2:d0=2
          · rw[if_pos e2,if_pos e2,w64 (n:=d1+g6) (by omega),w64 (by omega)]
          · rw[if_neg e2,if_neg e2,w64 (by omega),Int.add_zero]
    · rw[if_neg L,if_neg (fun h=>L h.2)]
      simp only[door_Rest.j0]
      rw[if_pos (by decide)]
  · rw[decide_eq_false h1,if_neg (by decide),if_neg (fun h=>h1 h.1)]
    simp only[door_Rest.j0]
    rw[if_pos trivial]
theorem N9 (O X J Y Z t5 B d0 d1 d2:Int) (f:Nat) (hf:10<f):
    door_Ask.f f O X J Y Z t5 B d0 d1 d2=some (if Js O X J Y Z t5 B∧Xq d0 d1 d2 then (if d0=0 then (1,J,0,0) else (d0,d1,d2,0)) else (0,0,0,170)):=by
  unfold door_Ask.f
  rw[V0 _ _ _ _ _ _ _ f hf,Yg]
  simp only[Option.bind_some]
  obtain⟨f,rfl⟩:∃ m,f=m+1:=⟨f-1,by omega⟩
  by_cases h1:Js O X J Y Z t5 B
  · rw[decide_eq_true h1,if_pos rfl]
    by_cases L:Xq d0 d1 d2
    · rw[if_pos L,if_pos (show Js O X J Y Z t5 B∧Xq d0 d1 d2 from⟨h1,L⟩)]
      simp only[door_Ask.j0]
      rw[if_neg (by decide)]
      split <;> rfl
    · rw[if_neg L,if_neg (fun h=>L h.2)]
      simp only[door_Ask.j0]
      rw[if_pos (by decide)]
  · rw[decide_eq_false h1,if_neg (by decide),if_neg (fun h=>h1 h.1)]
    simp only[door_Ask.j0]
    rw[if_pos trivial]
end Go.Proofs.Ytmfffemidlhcpaa.DoorPure
namespace Go.Proofs.Ytmfffemidlhcpaa.C
open Go.RowKit Go.Proofs.YtmfffemidlhcpaaW.PrintWords Go.Proofs.YtmfffemidlhcpaaW.PrintLast Go.Proofs.YtmfffemidlhcpaaW.PrintMore
attribute [local go_sem] Zx Zv Z8 Z7 Zl Zk Zw Zu
set_option linter.unusedVariables false
set_option linter.unusedSimpArgs false
def car_Check.j0:Nat→Int→Bool→Int→Int→Int→Int→Int→Int→Int→Option (Int)
 |0,_,_,_,_,_,_,_,_,_=>none
 |k+1,B,x5,γ,J,Z,L,Y,δ,ε =>if Z=0 then (if x5=true then (if J=0 then (if L=0 then (if Y=0 then (some 0) else (some 180)) else (some 180)) else (some 180)) else (some 180)) else (if Z=1 then (if x5=true then (if J=1 then ((car_within.f (wrap64 (γ+J)) 0 (wrap64 (B-1))).bind fun ζ =>(if ζ = true then ((car_within.f L 1 60).bind fun O=>(if O=true then (if Y=0 then (some 0) else (some 180)) else (some 180))) else (some 180))) else (if J=(-1) then ((car_within.f (wrap64 (γ+J)) 0 (wrap64 (B-1))).bind fun η =>(if η = true then ((car_within.f L 1 60).bind fun X=>(if X=true then (if Y=0 then (some 0) else (some 180)) else (some 180))) else (some 180))) else (some 180))) else (some 180)) else (if Z=2 then (if x5=true then (if J=0 then ((car_within.f L 1 60).bind fun θ =>(if θ = true then (if Y=0 then (some 0) else (some 180)) else (some 180))) else (some 180)) else (some 180)) else (if Z=3 then (if x5=true then (if J=0 then (if L=0 then (if Y=0 then (some 180) else (some 0)) else (some 180)) else (some 180)) else (some 180)) else (some 180))))
def car_Check.f (k:Nat) (B:Int) (Z:Int) (Y:Int) (ε :Int) (κ :Int) (ι :Int) (μ :Int) (ν :Int):Option (Int):=(car_within.f B 2 64).bind fun ρ=>(if ρ=true then ((car_within.f Z 0 (wrap64 (B-1))).bind fun γ=>(if γ=true then ((door_Check.f ι μ ν).bind fun L=>(car_Check.j0 k B (L==0) Z Y ε κ ι μ ν)) else (car_Check.j0 k B false Z Y ε κ ι μ ν))) else (car_Check.j0 k B false Z Y ε κ ι μ ν))
theorem car_Check.Zi:∀ k,(∀ L O X B Y Z y6 y7 y8,LeO (car_Check.j0 k L O X B Y Z y6 y7 y8) (car_Check.j0 (k+1) L O X B Y Z y6 y7 y8))
 |0=>fun _ _ _ _ _ _ _ _ _ r h=>by simp[car_Check.j0] at h
 |k+1=>by
  have J:=car_Check.Zi k
  ·intro L O X B Y Z y6 y7 y8
   unfold car_Check.j0
   repeat' first
   |(with_reducible exact J _ _ _ _ _ _ _ _ _)
   |(with_reducible exact LeO.refl _)
   |(with_reducible exact LeO.none _)
   |(with_reducible refine LeO.ite ?_ ?_)
   |(with_reducible refine LeO.bind ?_ (fun _=>?_))
   |exact J _ _ _ _ _ _ _ _ _
   |exact LeO.none _
   |refine LeO.ite ?_ ?_
   |refine LeO.bind ?_ (fun _=>?_)
theorem car_Check.mono:∀ B O a2 a3 L a5 X a7 k,LeO (car_Check.f k B O a2 a3 L a5 X a7) (car_Check.f (k+1) B O a2 a3 L a5 X a7):=by
 intro B O a2 a3 L a5 X a7 k
 have J:=car_Check.Zi k
 unfold car_Check.f
 repeat' first
   |(with_reducible exact J _ _ _ _ _ _ _ _ _)
   |(with_reducible exact LeO.refl _)
   |(with_reducible exact LeO.none _)
   |(with_reducible refine LeO.ite ?_ ?_)
   |(with_reducible refine LeO.bind ?_ (fun _=>?_))
   |exact J _ _ _ _ _ _ _ _ _
   |exact LeO.none _
   |refine LeO.ite ?_ ?_
   |refine LeO.bind ?_ (fun _=>?_)
set_option maxHeartbeats 8000000 in
set_option maxRecDepth 100000 in
theorem car_Check.calls (k:Nat) (B:Int) (Z:Int) (Y:Int) (ε :Int) (κ :Int) (ι :Int) (μ :Int) (ν :Int) (r:Int) (w:World) (h:car_Check.f k B Z Y ε κ ι μ ν = some r):
  Calls Try.prog 69 #[.int .i64 B,.agg #[.int .i64 Z,.int .i64 Y,.int .i64 ε,.int .i64 κ,.int .i64 ι,.int .i64 μ,.int .i64 ν]] w fun e w'=>e = .returned (.int .i64 r)∧Below w.heap.size w w':=by
 have fz:=Try.underlying29
 have eh:=Try.underlying27
 have HB:=Aside0.mk (Below.refl w.heap.size w)
 have H:((car_within.f B 2 64).bind fun ρ=>(if ρ=true then ((car_within.f Z 0 (wrap64 (B-1))).bind fun γ=>(if γ=true then ((door_Check.f ι μ ν).bind fun L=>(car_Check.j0 k B (L==0) Z Y ε κ ι μ ν)) else (car_Check.j0 k B false Z Y ε κ ι μ ν))) else (car_Check.j0 k B false Z Y ε κ ι μ ν)))=some r:=h
 clear h
 have ah:=Aside0.mk H
 clear H
 go_enter Try.func69,Try.ntmps69
 go_upto_region 1 with(first|((with_reducible refine Qe (N:=3) rfl ?_);refine qE 3 #[.int .i64 Z,.int .i64 Y,.int .i64 ε,.int .i64 κ,.int .i64 ι,.int .i64 μ,.int .i64 ν] 29 ?_;intro ψ hg w4 hbox hb;have J:=Aside0.mk hbox;have ov:=sGe hg;have ow:=sGe hg;replace HB:=sHb hb;clear hb hbox hg))
 (try simp only[Act.put,qS])
 go_cut [5] (fun v5 wc=>∃ (kq:Nat) (δ :Bool),v5 = .bool δ ∧ Aside0 (car_Check.j0 kq B δ Z Y ε κ ι μ ν = some r)∧Aside0 (kq≤k)∧Aside0 (wc.heap[ψ]?=some (.cells #[.int .i64 Z,.int .i64 Y,.int .i64 ε,.int .i64 κ,.int .i64 ι,.int .i64 μ,.int .i64 ν] 29 (0,0)))∧Aside0 (Below w.heap.size w wc))
 case first=>
  have H:=ah.out
  clear ah
  replace H:=Option.bind_eq_some_iff.mp H
  obtain⟨ρ,bm,H⟩:=H
  replace H:(if ρ=true then ((car_within.f Z 0 (wrap64 (B-1))).bind fun γ=>(if γ=true then ((door_Check.f ι μ ν).bind fun L=>(car_Check.j0 k B (L==0) Z Y ε κ ι μ ν)) else (car_Check.j0 k B false Z Y ε κ ι μ ν))) else (car_Check.j0 k B false Z Y ε κ ι μ ν))=some r:=H
  have A5:=Aside0.mk bm
  clear bm
  by_cases c6:ρ=true
  ·subst c6
   have H1:((car_within.f Z 0 (wrap64 (B-1))).bind fun γ=>(if γ=true then ((door_Check.f ι μ ν).bind fun L=>(car_Check.j0 k B (L==0) Z Y ε κ ι μ ν)) else (car_Check.j0 k B false Z Y ε κ ι μ ν)))=some r:=by rw[if_pos rfl] at H;exact H
   clear H
   have H:=H1
   clear H1
   replace H:=Option.bind_eq_some_iff.mp H
   obtain⟨γ,cw,H⟩:=H
   replace H:(if γ=true then ((door_Check.f ι μ ν).bind fun L=>(car_Check.j0 k B (L==0) Z Y ε κ ι μ ν)) else (car_Check.j0 k B false Z Y ε κ ι μ ν))=some r:=H
   have A7:=Aside0.mk cw
   clear cw
   by_cases c8:γ=true
   ·subst c8
    have H1:((door_Check.f ι μ ν).bind fun L=>(car_Check.j0 k B (L==0) Z Y ε κ ι μ ν))=some r:=by rw[if_pos rfl] at H;exact H
    clear H
    have H:=H1
    clear H1
    replace H:=Option.bind_eq_some_iff.mp H
    obtain⟨L,cg,H⟩:=H
    replace H:(car_Check.j0 k B (L==0) Z Y ε κ ι μ ν)=some r:=H
    have A9:=Aside0.mk cg
    clear cg
    have H':=Aside0.mk H
    clear H
    go_wp2_with (first|((with_reducible refine Ql (f:=85) rfl ?_);refine Q2 (some 8) rfl rfl Try.func85 kr rfl #[.int .i64 B,.int .i64 2,.int .i64 64] rfl qM ?_;(with_reducible refine(car_within.calls B 2 64 true _ A5.out).mono ?_);rintro e w' ⟨rfl,⟨nd,rfl⟩⟩;refine⟨_,rfl, ?_⟩;obtain⟨a7,ae,d9,dj,dk,dl,dm,dn,dp,dq,dr,dt,dw,e3⟩:=qD7 J.out)|(go_at_call 85;(with_reducible refine(car_within.calls Z 0 (wrap64 (B-1)) true _ A7.out).mono ?_);rintro e w' ⟨rfl,⟨nd,rfl⟩⟩)|(go_at_call 71;(with_reducible refine(door_Check.calls ι μ ν L _ A9.out).mono ?_);rintro e el ⟨rfl,hb⟩;have ξ :=Aside0.mk (Qs (g:= ψ) (o:=.cells #[.int .i64 Z,.int .i64 Y,.int .i64 ε,.int .i64 κ,.int .i64 ι,.int .i64 μ,.int .i64 ν] 29 (0,0)) (bka J) hb);have φ :=Aside0.mk (Qx bel hb);clear J;clear HB;have J:= ξ;have HB:= φ;clear ξ φ;(try clear hb);(try clear a9);(try clear hk);(try clear hi)))
    go_meet
    case rel=>exact⟨_,((L==0)),rfl,H',⟨by first|omega|exact Nat.le_refl _⟩,J,HB⟩
   ·replace c8:=Bool.eq_false_iff.mpr c8
    subst c8
    have H1:(car_Check.j0 k B false Z Y ε κ ι μ ν)=some r:=by rw[if_neg (show ¬ (false=true) by decide)] at H;exact H
    clear H
    have H:=H1
    clear H1
    have H':=Aside0.mk H
    clear H
    go_wp2_with (first|((with_reducible refine Ql (f:=85) rfl ?_);refine Q2 (some 8) rfl rfl Try.func85 kr rfl #[.int .i64 B,.int .i64 2,.int .i64 64] rfl qM ?_;(with_reducible refine(car_within.calls B 2 64 true _ A5.out).mono ?_);rintro e w' ⟨rfl,⟨nd,rfl⟩⟩;refine⟨_,rfl, ?_⟩;obtain⟨a2,a3,a8,al,ar,aw,ax,a4,a5,aa,b0,b1,b2,b3⟩:=qD7 J.out)|(go_at_call 85;(with_reducible refine(car_within.calls Z 0 (wrap64 (B-1)) false _ A7.out).mono ?_);rintro e w' ⟨rfl,⟨nd,rfl⟩⟩))
    go_meet
    case rel=>exact⟨_,(false),qR,H',⟨by first|omega|exact Nat.le_refl _⟩,⟨bka J⟩,⟨bel⟩⟩
  ·replace c6:=Bool.eq_false_iff.mpr c6
   subst c6
   have H1:(car_Check.j0 k B false Z Y ε κ ι μ ν)=some r:=by rw[if_neg (show ¬ (false=true) by decide)] at H;exact H
   clear H
   have H:=H1
   clear H1
   have H':=Aside0.mk H
   clear H
   go_wp2_with (first|((with_reducible refine Ql (f:=85) rfl ?_);refine Q2 (some 8) rfl rfl Try.func85 kr rfl #[.int .i64 B,.int .i64 2,.int .i64 64] rfl qM ?_;(with_reducible refine(car_within.calls B 2 64 false _ A5.out).mono ?_);rintro e w' ⟨rfl,⟨nd,rfl⟩⟩;refine⟨_,rfl, ?_⟩))
   go_meet
   case rel=>exact⟨_,(false),qR,H',⟨by first|omega|exact Nat.le_refl _⟩,⟨bka J⟩,⟨bel⟩⟩
 case rest=>
  clear ah
  try clear p2
  try clear c6
  try clear p6
  try clear c8
  try clear a7
  try clear ae
  try clear d9
  try clear dj
  try clear dk
  try clear dl
  try clear dm
  try clear a2
  try clear a3
  try clear a8
  try clear al
  try clear ar
  try clear aw
  try clear ax
  try clear dn
  try clear dp
  try clear dq
  try clear dr
  try clear dt
  try clear dw
  try clear e3
  try clear a4
  try clear a5
  try clear aa
  try clear b0
  try clear b1
  try clear b2
  try clear b3
  obtain⟨kq,δ,rfl,HA,mj,J,HB⟩:=hcut
  cases kq with
  |zero=>exact absurd HA.out (by simp[car_Check.j0])
  |succ ml=>
   have H:=HA.out
   clear HA
   simp only[car_Check.j0] at H
   by_cases a6: ε = 0
   ·rw[if_pos a6] at H
    have c13b0:(ε == 0)=true:=beq_iff_eq.mpr a6
    have c13b1:(ε != 0)=false:=bne_eq_false_iff_eq.mpr a6
    clear a6
    by_cases ac: δ = true
    ·subst ac
     have H1:(if Y=0 then (if κ = 0 then (if ι = 0 then (some 0) else (some 180)) else (some 180)) else (some 180))=some r:=by rw[if_pos rfl] at H;exact H
     clear H
     have H:=H1
     clear H1
     by_cases af:Y=0
     ·rw[if_pos af] at H
      have c15b0:(Y==0)=true:=beq_iff_eq.mpr af
      have c15b1:(Y != 0)=false:=bne_eq_false_iff_eq.mpr af
      clear af
      by_cases χ : κ = 0
      ·rw[if_pos χ] at H
       have c16b0:(κ == 0)=true:=beq_iff_eq.mpr χ
       have c16b1:(κ != 0)=false:=bne_eq_false_iff_eq.mpr χ
       clear χ
       by_cases σ: ι = 0
       ·rw[if_pos σ] at H
        have c17b0:(ι == 0)=true:=beq_iff_eq.mpr σ
        have c17b1:(ι != 0)=false:=bne_eq_false_iff_eq.mpr σ
        clear σ
        obtain rfl:=Option.some.inj H
        obtain⟨b9,bc,ce,ee,ef,em,et,bd,be,di,eu,ev,ew,ey⟩:=qD7 J.out
        go_wp2
        go_ret
        exact⟨by first|rfl|(simp[Qh,Qg] <;> rfl)|(simp[*,Qh,Qg] <;> rfl),bel⟩
       ·rw[if_neg σ] at H
        have c17b0:(ι == 0)=false:=beq_eq_false_iff_ne.mpr σ
        have c17b1:(ι != 0)=true:=bne_iff_ne.mpr σ
        obtain rfl:=Option.some.inj H
        obtain⟨am,an,az,bh,bi,bj,bk,au,av,b4,bl,bn,bo,bp⟩:=qD7 J.out
        go_wp2
        go_ret
        exact⟨by first|rfl|(simp[Qh,Qg] <;> rfl)|(simp[*,Qh,Qg] <;> rfl),bel⟩
      ·rw[if_neg χ] at H
       have c16b0:(κ == 0)=false:=beq_eq_false_iff_ne.mpr χ
       have c16b1:(κ != 0)=true:=bne_iff_ne.mpr χ
       obtain rfl:=Option.some.inj H
       obtain⟨bs,bu,cb,gj,gk,gl,gm,bv,bw,cd,gn,gp,gq,gr⟩:=qD7 J.out
       go_wp2
       go_ret
       exact⟨rfl,HB.out⟩
     ·rw[if_neg af] at H
      have c15b0:(Y==0)=false:=beq_eq_false_iff_ne.mpr af
      have c15b1:(Y != 0)=true:=bne_iff_ne.mpr af
      obtain rfl:=Option.some.inj H
      obtain⟨jj,jk,jl,jm,jn,jp,jq,jr,js,jt,ju,jv,jw,jx⟩:=qD7 J.out
      go_wp2
      go_ret
      exact⟨rfl,HB.out⟩
    ·replace ac:=Bool.eq_false_iff.mpr ac
     subst ac
     have H1:(some 180)=some r:=by rw[if_neg (show ¬ (false=true) by decide)] at H;exact H
     clear H
     have H:=H1
     clear H1
     obtain rfl:=Option.some.inj H
     obtain⟨bf,cr,d8,h0,h7,h8,h9,ct,cu,da,hh,hj,hl,ho⟩:=qD7 J.out
     go_wp2
     go_ret
     exact⟨rfl,HB.out⟩
   ·rw[if_neg a6] at H
    have c13b0:(ε == 0)=false:=beq_eq_false_iff_ne.mpr a6
    have c13b1:(ε != 0)=true:=bne_iff_ne.mpr a6
    by_cases b8: ε = 1
    ·rw[if_pos b8] at H
     have c23b0:(ε == 1)=true:=beq_iff_eq.mpr b8
     have c23b1:(ε != 1)=false:=bne_eq_false_iff_eq.mpr b8
     clear b8
     by_cases d7: δ = true
     ·subst d7
      have H1:(if Y=1 then ((car_within.f (wrap64 (Z+Y)) 0 (wrap64 (B-1))).bind fun ζ =>(if ζ = true then ((car_within.f κ 1 60).bind fun O=>(if O=true then (if ι = 0 then (some 0) else (some 180)) else (some 180))) else (some 180))) else (if Y=(-1) then ((car_within.f (wrap64 (Z+Y)) 0 (wrap64 (B-1))).bind fun η =>(if η = true then ((car_within.f κ 1 60).bind fun X=>(if X=true then (if ι = 0 then (some 0) else (some 180)) else (some 180))) else (some 180))) else (some 180)))=some r:=by rw[if_pos rfl] at H;exact H
      clear H
      have H:=H1
      clear H1
      by_cases ab:Y=1
      ·rw[if_pos ab] at H
       have c25b0:(Y==1)=true:=beq_iff_eq.mpr ab
       have c25b1:(Y != 1)=false:=bne_eq_false_iff_eq.mpr ab
       clear ab
       replace H:=Option.bind_eq_some_iff.mp H
       obtain⟨ζ,de,H⟩:=H
       replace H:(if ζ = true then ((car_within.f κ 1 60).bind fun O=>(if O=true then (if ι = 0 then (some 0) else (some 180)) else (some 180))) else (some 180))=some r:=H
       have ha:=Aside0.mk de
       clear de
       by_cases dv: ζ = true
       ·subst dv
        have H1:((car_within.f κ 1 60).bind fun O=>(if O=true then (if ι = 0 then (some 0) else (some 180)) else (some 180)))=some r:=by rw[if_pos rfl] at H;exact H
        clear H
        have H:=H1
        clear H1
        replace H:=Option.bind_eq_some_iff.mp H
        obtain⟨O,bb,H⟩:=H
        replace H:(if O=true then (if ι = 0 then (some 0) else (some 180)) else (some 180))=some r:=H
        have cx:=Aside0.mk bb
        clear bb
        by_cases bz:O=true
        ·subst bz
         have H1:(if ι = 0 then (some 0) else (some 180))=some r:=by rw[if_pos rfl] at H;exact H
         clear H
         have H:=H1
         clear H1
         by_cases gi: ι = 0
         ·rw[if_pos gi] at H
          have c30b0:(ι == 0)=true:=beq_iff_eq.mpr gi
          have c30b1:(ι != 0)=false:=bne_eq_false_iff_eq.mpr gi
          clear gi
          obtain rfl:=Option.some.inj H
          obtain⟨ck,cm,cn,fe,ff,fg,fh,co,cp,cq,fi,fk,fp,fq⟩:=qD7 J.out
          go_wp2_with (first|(go_at_call 85;(with_reducible refine(car_within.calls (wrap64 (Z+Y)) 0 (wrap64 (B-1)) true _ ha.out).mono ?_);rintro e w' ⟨rfl,⟨nd,rfl⟩⟩)|(go_at_call 85;(with_reducible refine(car_within.calls κ 1 60 true _ cx.out).mono ?_);rintro e w' ⟨rfl,⟨nd,rfl⟩⟩))
          go_ret
          exact⟨by first|rfl|(simp[Qh,Qg] <;> rfl)|(simp[*,Qh,Qg] <;> rfl),bel⟩
         ·rw[if_neg gi] at H
          have c30b0:(ι == 0)=false:=beq_eq_false_iff_ne.mpr gi
          have c30b1:(ι != 0)=true:=bne_iff_ne.mpr gi
          obtain rfl:=Option.some.inj H
          obtain⟨fj,hu,hx,jy,jz,k0,k1,hy,i0,i1,k2,k3,k4,k5⟩:=qD7 J.out
          go_wp2_with (first|(go_at_call 85;(with_reducible refine(car_within.calls (wrap64 (Z+Y)) 0 (wrap64 (B-1)) true _ ha.out).mono ?_);rintro e w' ⟨rfl,⟨nd,rfl⟩⟩)|(go_at_call 85;(with_reducible refine(car_within.calls κ 1 60 true _ cx.out).mono ?_);rintro e w' ⟨rfl,⟨nd,rfl⟩⟩))
          go_ret
          exact⟨by first|rfl|(simp[Qh,Qg] <;> rfl)|(simp[*,Qh,Qg] <;> rfl),bel⟩
        ·replace bz:=Bool.eq_false_iff.mpr bz
         subst bz
         have H1:(some 180)=some r:=by rw[if_neg (show ¬ (false=true) by decide)] at H;exact H
         clear H
         have H:=H1
         clear H1
         obtain rfl:=Option.some.inj H
         obtain⟨dc,dd,dy,ay,br,e5,e6,du,dx,dz,ft,fu,fv,fw⟩:=qD7 J.out
         go_wp2_with (first|(go_at_call 85;(with_reducible refine(car_within.calls (wrap64 (Z+Y)) 0 (wrap64 (B-1)) true _ ha.out).mono ?_);rintro e w' ⟨rfl,⟨nd,rfl⟩⟩)|(go_at_call 85;(with_reducible refine(car_within.calls κ 1 60 false _ cx.out).mono ?_);rintro e w' ⟨rfl,⟨nd,rfl⟩⟩))
         go_ret
         exact⟨by first|rfl|(simp[Qh,Qg] <;> rfl)|(simp[*,Qh,Qg] <;> rfl),bel⟩
       ·replace dv:=Bool.eq_false_iff.mpr dv
        subst dv
        have H1:(some 180)=some r:=by rw[if_neg (show ¬ (false=true) by decide)] at H;exact H
        clear H
        have H:=H1
        clear H1
        obtain rfl:=Option.some.inj H
        obtain⟨ch,d6,g2,cj,cz,d0,d1,ci,g3,g4,d4,d5,jh,ji⟩:=qD7 J.out
        go_wp2_with (first|(go_at_call 85;(with_reducible refine(car_within.calls (wrap64 (Z+Y)) 0 (wrap64 (B-1)) false _ ha.out).mono ?_);rintro e w' ⟨rfl,⟨nd,rfl⟩⟩))
        go_ret
        exact⟨by first|rfl|(simp[Qh,Qg] <;> rfl)|(simp[*,Qh,Qg] <;> rfl),bel⟩
      ·rw[if_neg ab] at H
       have c25b0:(Y==1)=false:=beq_eq_false_iff_ne.mpr ab
       have c25b1:(Y != 1)=true:=bne_iff_ne.mpr ab
       by_cases en:Y=(-1)
       ·rw[if_pos en] at H
        have c35b0:(Y==(-1))=true:=beq_iff_eq.mpr en
        have c35b1:(Y != (-1))=false:=bne_eq_false_iff_eq.mpr en
        clear en
        replace H:=Option.bind_eq_some_iff.mp H
        obtain⟨η,ag,H⟩:=H
        replace H:(if η = true then ((car_within.f κ 1 60).bind fun X=>(if X=true then (if ι = 0 then (some 0) else (some 180)) else (some 180))) else (some 180))=some r:=H
        have ω :=Aside0.mk ag
        clear ag
        by_cases df: η = true
        ·subst df
         have H1:((car_within.f κ 1 60).bind fun X=>(if X=true then (if ι = 0 then (some 0) else (some 180)) else (some 180)))=some r:=by rw[if_pos rfl] at H;exact H
         clear H
         have H:=H1
         clear H1
         replace H:=Option.bind_eq_some_iff.mp H
         obtain⟨X,cy,H⟩:=H
         replace H:(if X=true then (if ι = 0 then (some 0) else (some 180)) else (some 180))=some r:=H
         have dh:=Aside0.mk cy
         clear cy
         by_cases g6:X=true
         ·subst g6
          have H1:(if ι = 0 then (some 0) else (some 180))=some r:=by rw[if_pos rfl] at H;exact H
          clear H
          have H:=H1
          clear H1
          by_cases ea: ι = 0
          ·rw[if_pos ea] at H
           have c40b0:(ι == 0)=true:=beq_iff_eq.mpr ea
           have c40b1:(ι != 0)=false:=bne_eq_false_iff_eq.mpr ea
           clear ea
           obtain rfl:=Option.some.inj H
           obtain⟨ep,er,bq,i2,i3,i4,i5,ez,f8,eg,i6,i7,i9,ia⟩:=qD7 J.out
           go_wp2_with (first|(go_at_call 85;(with_reducible refine(car_within.calls (wrap64 (Z+Y)) 0 (wrap64 (B-1)) true _ ω.out).mono ?_);rintro e w' ⟨rfl,⟨nd,rfl⟩⟩)|(go_at_call 85;(with_reducible refine(car_within.calls κ 1 60 true _ dh.out).mono ?_);rintro e w' ⟨rfl,⟨nd,rfl⟩⟩))
           go_ret
           exact⟨by first|rfl|(simp[Qh,Qg] <;> rfl)|(simp[*,Qh,Qg] <;> rfl),bel⟩
          ·rw[if_neg ea] at H
           have c40b0:(ι == 0)=false:=beq_eq_false_iff_ne.mpr ea
           have c40b1:(ι != 0)=true:=bne_iff_ne.mpr ea
           obtain rfl:=Option.some.inj H
           obtain⟨e0,e7,e9,he,ib,ic,ie,eb,ec,ed,ig,ih,ii,ij⟩:=qD7 J.out
           go_wp2_with (first|(go_at_call 85;(with_reducible refine(car_within.calls (wrap64 (Z+Y)) 0 (wrap64 (B-1)) true _ ω.out).mono ?_);rintro e w' ⟨rfl,⟨nd,rfl⟩⟩)|(go_at_call 85;(with_reducible refine(car_within.calls κ 1 60 true _ dh.out).mono ?_);rintro e w' ⟨rfl,⟨nd,rfl⟩⟩))
           go_ret
           exact⟨by first|rfl|(simp[Qh,Qg] <;> rfl)|(simp[*,Qh,Qg] <;> rfl),bel⟩
         ·replace g6:=Bool.eq_false_iff.mpr g6
          subst g6
          have H1:(some 180)=some r:=by rw[if_neg (show ¬ (false=true) by decide)] at H;exact H
          clear H
          have H:=H1
          clear H1
          obtain rfl:=Option.some.inj H
          obtain⟨k6,k7,k8,k9,ka,kb,kc,kd,ke,kf,kg,kh,ki,kj⟩:=qD7 J.out
          go_wp2_with (first|(go_at_call 85;(with_reducible refine(car_within.calls (wrap64 (Z+Y)) 0 (wrap64 (B-1)) true _ ω.out).mono ?_);rintro e w' ⟨rfl,⟨nd,rfl⟩⟩)|(go_at_call 85;(with_reducible refine(car_within.calls κ 1 60 false _ dh.out).mono ?_);rintro e w' ⟨rfl,⟨nd,rfl⟩⟩))
          go_ret
          exact⟨by first|rfl|(simp[Qh,Qg] <;> rfl)|(simp[*,Qh,Qg] <;> rfl),bel⟩
        ·replace df:=Bool.eq_false_iff.mpr df
         subst df
         have H1:(some 180)=some r:=by rw[if_neg (show ¬ (false=true) by decide)] at H;exact H
         clear H
         have H:=H1
         clear H1
         obtain rfl:=Option.some.inj H
         obtain⟨cf,fa,fl,fm,fn,fo,fr,e8,fb,g0,g1,g5,g8,ga⟩:=qD7 J.out
         go_wp2_with (first|(go_at_call 85;(with_reducible refine(car_within.calls (wrap64 (Z+Y)) 0 (wrap64 (B-1)) false _ ω.out).mono ?_);rintro e w' ⟨rfl,⟨nd,rfl⟩⟩))
         go_ret
         exact⟨by first|rfl|(simp[Qh,Qg] <;> rfl)|(simp[*,Qh,Qg] <;> rfl),bel⟩
       ·rw[if_neg en] at H
        have c35b0:(Y==(-1))=false:=beq_eq_false_iff_ne.mpr en
        have c35b1:(Y != (-1))=true:=bne_iff_ne.mpr en
        obtain rfl:=Option.some.inj H
        obtain⟨fx,fy,ik,il,im,io,ip,gb,ge,iq,ir,it,iu,iv⟩:=qD7 J.out
        go_wp2
        go_ret
        exact⟨by first|rfl|(simp[Qh,Qg] <;> rfl)|(simp[*,Qh,Qg] <;> rfl),bel⟩
     ·replace d7:=Bool.eq_false_iff.mpr d7
      subst d7
      have H1:(some 180)=some r:=by rw[if_neg (show ¬ (false=true) by decide)] at H;exact H
      clear H
      have H:=H1
      clear H1
      obtain rfl:=Option.some.inj H
      obtain⟨g9,gf,iw,ix,iy,iz,j2,gg,gh,j3,j4,j5,j6,j7⟩:=qD7 J.out
      go_wp2
      go_ret
      exact⟨rfl,HB.out⟩
    ·rw[if_neg b8] at H
     have c23b0:(ε == 1)=false:=beq_eq_false_iff_ne.mpr b8
     have c23b1:(ε != 1)=true:=bne_iff_ne.mpr b8
     by_cases g7: ε = 2
     ·rw[if_pos g7] at H
      have c47b0:(ε == 2)=true:=beq_iff_eq.mpr g7
      have c47b1:(ε != 2)=false:=bne_eq_false_iff_eq.mpr g7
      clear g7
      by_cases a1: δ = true
      ·subst a1
       have H1:(if Y=0 then ((car_within.f κ 1 60).bind fun θ =>(if θ = true then (if ι = 0 then (some 0) else (some 180)) else (some 180))) else (some 180))=some r:=by rw[if_pos rfl] at H;exact H
       clear H
       have H:=H1
       clear H1
       by_cases ek:Y=0
       ·rw[if_pos ek] at H
        have c49b0:(Y==0)=true:=beq_iff_eq.mpr ek
        have c49b1:(Y != 0)=false:=bne_eq_false_iff_eq.mpr ek
        clear ek
        replace H:=Option.bind_eq_some_iff.mp H
        obtain⟨θ,ai,H⟩:=H
        replace H:(if θ = true then (if ι = 0 then (some 0) else (some 180)) else (some 180))=some r:=H
        have bm:=Aside0.mk ai
        clear ai
        by_cases j8: θ = true
        ·subst j8
         have H1:(if ι = 0 then (some 0) else (some 180))=some r:=by rw[if_pos rfl] at H;exact H
         clear H
         have H:=H1
         clear H1
         by_cases h4: ι = 0
         ·rw[if_pos h4] at H
          have c52b0:(ι == 0)=true:=beq_iff_eq.mpr h4
          have c52b1:(ι != 0)=false:=bne_eq_false_iff_eq.mpr h4
          clear h4
          obtain rfl:=Option.some.inj H
          obtain⟨kk,kl,km,aj,ak,ao,ap,kv,kw,kx,b5,b6,b7,ba⟩:=qD7 J.out
          go_wp2_with (first|(go_at_call 85;(with_reducible refine(car_within.calls κ 1 60 true _ bm.out).mono ?_);rintro e w' ⟨rfl,⟨nd,rfl⟩⟩))
          go_ret
          exact⟨by first|rfl|(simp[Qh,Qg] <;> rfl)|(simp[*,Qh,Qg] <;> rfl),bel⟩
         ·rw[if_neg h4] at H
          have c52b0:(ι == 0)=false:=beq_eq_false_iff_ne.mpr h4
          have c52b1:(ι != 0)=true:=bne_iff_ne.mpr h4
          obtain rfl:=Option.some.inj H
          obtain⟨kn,ko,kp,ks,kt,ku,ky,kz,l2,l3,l4,l5,l6,l7⟩:=qD7 J.out
          go_wp2_with (first|(go_at_call 85;(with_reducible refine(car_within.calls κ 1 60 true _ bm.out).mono ?_);rintro e w' ⟨rfl,⟨nd,rfl⟩⟩))
          go_ret
          exact⟨by first|rfl|(simp[Qh,Qg] <;> rfl)|(simp[*,Qh,Qg] <;> rfl),bel⟩
        ·replace j8:=Bool.eq_false_iff.mpr j8
         subst j8
         have H1:(some 180)=some r:=by rw[if_neg (show ¬ (false=true) by decide)] at H;exact H
         clear H
         have H:=H1
         clear H1
         obtain rfl:=Option.some.inj H
         obtain⟨gs,gt,j9,bg,d2,d3,db,gu,gv,ja,e4,ei,ej,eo⟩:=qD7 J.out
         go_wp2_with (first|(go_at_call 85;(with_reducible refine(car_within.calls κ 1 60 false _ bm.out).mono ?_);rintro e w' ⟨rfl,⟨nd,rfl⟩⟩))
         go_ret
         exact⟨by first|rfl|(simp[Qh,Qg] <;> rfl)|(simp[*,Qh,Qg] <;> rfl),bel⟩
       ·rw[if_neg ek] at H
        have c49b0:(Y==0)=false:=beq_eq_false_iff_ne.mpr ek
        have c49b1:(Y != 0)=true:=bne_iff_ne.mpr ek
        obtain rfl:=Option.some.inj H
        obtain⟨mm,mo,mq,mr,ms,mt,mu,mw,my,mz,n0,n1,n2,n3⟩:=qD7 J.out
        go_wp2
        go_ret
        exact⟨by first|rfl|(simp[Qh,Qg] <;> rfl)|(simp[*,Qh,Qg] <;> rfl),bel⟩
      ·replace a1:=Bool.eq_false_iff.mpr a1
       subst a1
       have H1:(some 180)=some r:=by rw[if_neg (show ¬ (false=true) by decide)] at H;exact H
       clear H
       have H:=H1
       clear H1
       obtain rfl:=Option.some.inj H
       obtain⟨jb,jc,jd,na,nb,nc,nf,je,jf,jg,ng,nh,ni,nj⟩:=qD7 J.out
       go_wp2
       go_ret
       exact⟨rfl,HB.out⟩
     ·rw[if_neg g7] at H
      have c47b0:(ε == 2)=false:=beq_eq_false_iff_ne.mpr g7
      have c47b1:(ε != 2)=true:=bne_iff_ne.mpr g7
      by_cases cv: ε = 3
      ·rw[if_pos cv] at H
       have c58b0:(ε == 3)=true:=beq_iff_eq.mpr cv
       have c58b1:(ε != 3)=false:=bne_eq_false_iff_eq.mpr cv
       clear cv
       by_cases jo: δ = true
       ·subst jo
        have H1:(if Y=0 then (if κ = 0 then (if ι = 0 then (some 180) else (some 0)) else (some 180)) else (some 180))=some r:=by rw[if_pos rfl] at H;exact H
        clear H
        have H:=H1
        clear H1
        by_cases τ :Y=0
        ·rw[if_pos τ] at H
         have c60b0:(Y==0)=true:=beq_iff_eq.mpr τ
         have c60b1:(Y != 0)=false:=bne_eq_false_iff_eq.mpr τ
         clear τ
         by_cases h5: κ = 0
         ·rw[if_pos h5] at H
          have c61b0:(κ == 0)=true:=beq_iff_eq.mpr h5
          have c61b1:(κ != 0)=false:=bne_eq_false_iff_eq.mpr h5
          clear h5
          by_cases h6: ι = 0
          ·rw[if_pos h6] at H
           have c62b0:(ι == 0)=true:=beq_iff_eq.mpr h6
           have c62b1:(ι != 0)=false:=bne_eq_false_iff_eq.mpr h6
           clear h6
           obtain rfl:=Option.some.inj H
           obtain⟨nk,nl,nm,nn,no,np,nq,nr,ns,nt,nu,nv,nw,nx⟩:=qD7 J.out
           go_wp2
           go_ret
           exact⟨by first|rfl|(simp[Qh,Qg] <;> rfl)|(simp[*,Qh,Qg] <;> rfl),bel⟩
          ·rw[if_neg h6] at H
           have c62b0:(ι == 0)=false:=beq_eq_false_iff_ne.mpr h6
           have c62b1:(ι != 0)=true:=bne_iff_ne.mpr h6
           obtain rfl:=Option.some.inj H
           obtain⟨gw,gx,l8,ny,nz,o0,o1,gy,gz,l9,o2,o3,o4,o5⟩:=qD7 J.out
           go_wp2
           go_ret
           exact⟨by first|rfl|(simp[Qh,Qg] <;> rfl)|(simp[*,Qh,Qg] <;> rfl),bel⟩
         ·rw[if_neg h5] at H
          have c61b0:(κ == 0)=false:=beq_eq_false_iff_ne.mpr h5
          have c61b1:(κ != 0)=true:=bne_iff_ne.mpr h5
          obtain rfl:=Option.some.inj H
          obtain⟨lb,lc,lf,lg,lh,ll,lm,ln,lp,lq,lr,ls,lu,lv⟩:=qD7 J.out
          go_wp2
          go_ret
          exact⟨by first|rfl|(simp[Qh,Qg] <;> rfl)|(simp[*,Qh,Qg] <;> rfl),bel⟩
        ·rw[if_neg τ] at H
         have c60b0:(Y==0)=false:=beq_eq_false_iff_ne.mpr τ
         have c60b1:(Y != 0)=true:=bne_iff_ne.mpr τ
         obtain rfl:=Option.some.inj H
         obtain⟨ca,fc,o6,o7,o8,o9,oa,lw,lx,ob,oc,od,oe,oh⟩:=qD7 J.out
         go_wp2
         go_ret
         exact⟨by first|rfl|(simp[Qh,Qg] <;> rfl)|(simp[*,Qh,Qg] <;> rfl),bel⟩
       ·replace jo:=Bool.eq_false_iff.mpr jo
        subst jo
        have H1:(some 180)=some r:=by rw[if_neg (show ¬ (false=true) by decide)] at H;exact H
        clear H
        have H:=H1
        clear H1
        obtain rfl:=Option.some.inj H
        obtain⟨ly,lz,m0,m1,m2,m3,m4,m5,m6,m7,m8,m9,ma,mb⟩:=qD7 J.out
        go_wp2
        go_ret
        exact⟨by first|rfl|(simp[Qh,Qg] <;> rfl)|(simp[*,Qh,Qg] <;> rfl),bel⟩
      ·rw[if_neg cv] at H
       have c58b0:(ε == 3)=false:=beq_eq_false_iff_ne.mpr cv
       have c58b1:(ε != 3)=true:=bne_iff_ne.mpr cv
       obtain rfl:=Option.some.inj H
       obtain⟨mc,me,mf,oi,oj,ol,om,mg,mh,mi,oo,oq,ot,ou⟩:=qD7 J.out
       go_wp2
       go_ret
       exact⟨rfl,HB.out⟩
def car_check.f (k:Nat) (J:Int) (B:Int) (L:Int) (O:Int) (X:Int) (δ :Int) (γ:Int) (θ :Int) (η :Int) (ζ :Int) (Z:Int) (Y:Int) (ε :Int) (κ :Int) (ι :Int) (μ :Int) (ν :Int):Option (Int):=(door_Rest.f k J B L O X δ γ θ η ζ 0 0 0).bind fun ω =>(if ω.2=0 then ((car_Check.f k J Z Y ε κ ι μ ν).bind fun σ=>(some σ)) else (some 180))
theorem car_check.mono:∀ B O a2 a3 L a5 X a7 a8 a9 Y Z γ ε δ ζ η k,LeO (car_check.f k B O a2 a3 L a5 X a7 a8 a9 Y Z γ ε δ ζ η) (car_check.f (k+1) B O a2 a3 L a5 X a7 a8 a9 Y Z γ ε δ ζ η):=by
 intro B O a2 a3 L a5 X a7 a8 a9 Y Z γ ε δ ζ η k
 unfold car_check.f
 repeat' first
   |(with_reducible exact car_Check.mono _ _ _ _ _ _ _ _ _)
   |(with_reducible exact door_Rest.mono _ _ _ _ _ _ _ _ _ _ _ _ _ _)
   |(with_reducible exact LeO.refl _)
   |(with_reducible exact LeO.none _)
   |(with_reducible refine LeO.ite ?_ ?_)
   |(with_reducible refine LeO.bind ?_ (fun _=>?_))
   |exact car_Check.mono _ _ _ _ _ _ _ _ _
   |exact door_Rest.mono _ _ _ _ _ _ _ _ _ _ _ _ _ _
   |exact LeO.none _
   |refine LeO.ite ?_ ?_
   |refine LeO.bind ?_ (fun _=>?_)
set_option maxHeartbeats 8000000 in
set_option maxRecDepth 100000 in
theorem car_check.calls (k:Nat) (J:Int) (B:Int) (L:Int) (O:Int) (X:Int) (δ :Int) (γ:Int) (θ :Int) (η :Int) (ζ :Int) (Z:Int) (Y:Int) (ε :Int) (κ :Int) (ι :Int) (μ :Int) (ν :Int) (r:Int) (w:World) (h:car_check.f k J B L O X δ γ θ η ζ Z Y ε κ ι μ ν = some r):
  Calls Try.prog 45 #[.agg #[.int .i64 J,.int .i64 B,.int .i64 L,.int .i64 O,.int .i64 X,.int .i64 δ,.int .i64 γ,.int .i64 θ,.int .i64 η,.int .i64 ζ],.agg #[.int .i64 Z,.int .i64 Y,.int .i64 ε,.int .i64 κ,.int .i64 ι,.int .i64 μ,.int .i64 ν]] w fun e w'=>e = .returned (.int .i64 r)∧Below w.heap.size w w':=by
 have db:=Try.underlying25
 have fz:=Try.underlying29
 have eh:=Try.underlying27
 have HB:=Aside0.mk (Below.refl w.heap.size w)
 have H:((door_Rest.f k J B L O X δ γ θ η ζ 0 0 0).bind fun ω =>(if ω.2=0 then ((car_Check.f k J Z Y ε κ ι μ ν).bind fun σ=>(some σ)) else (some 180)))=some r:=h
 clear h
 replace H:=Option.bind_eq_some_iff.mp H
 obtain⟨⟨a1,τ⟩,ap,H⟩:=H
 replace H:(if τ = 0 then ((car_Check.f k J Z Y ε κ ι μ ν).bind fun σ=>(some σ)) else (some 180))=some r:=H
 have A3:=Aside0.mk ap
 clear ap
 by_cases c4: τ = 0
 ·rw[if_pos c4] at H
  have c4b0:(τ == 0)=true:=beq_iff_eq.mpr c4
  have c4b1:(τ != 0)=false:=bne_eq_false_iff_eq.mpr c4
  clear c4
  replace H:=Option.bind_eq_some_iff.mp H
  obtain⟨σ,bm,H⟩:=H
  replace H:(some σ)=some r:=H
  have A5:=Aside0.mk bm
  clear bm
  obtain rfl:=Option.some.inj H
  go_enter Try.func45,Try.ntmps45
  go_wp2_with (first|((with_reducible refine Qe (N:=2) rfl ?_);refine qE 2 #[.int .i64 J,.int .i64 B,.int .i64 L,.int .i64 O,.int .i64 X,.int .i64 δ,.int .i64 γ,.int .i64 θ,.int .i64 η,.int .i64 ζ] 25 ?_;intro af hg w6 hbox hb;have ξ :=Aside0.mk hbox;have ag:=sGe hg;have am:=sGe hg;replace HB:=sHb hb;clear hb hbox hg)|((with_reducible refine Qe (N:=3) rfl ?_);refine qE 3 #[.int .i64 Z,.int .i64 Y,.int .i64 ε,.int .i64 κ,.int .i64 ι,.int .i64 μ,.int .i64 ν] 29 ?_;intro an hg w7 hbox hb;have ρ:=Aside0.mk hbox;have ao:=sGe hg;have au:=sGe hg;have φ :=sNl ξ hg;have χ :=sNg ξ hg;replace ξ :=sBk ξ hb;replace HB:=sHb hb;clear hb hbox hg;have cg:= φ.out;have ch:= χ.out;obtain⟨a6,ac,cd,ck,cm,cn,co,cp,ci,cj,bb,bc,cq,ep,ez,f8,fa,fb,cx,cy⟩:=Za ξ.out)|((with_reducible refine Ql (f:=47) rfl ?_);refine Q2 (some 10) rfl rfl Try.func47 kr rfl #[.agg #[.int .i64 J,.int .i64 B,.int .i64 L,.int .i64 O,.int .i64 X,.int .i64 δ,.int .i64 γ,.int .i64 θ,.int .i64 η,.int .i64 ζ],.agg #[.int .i64 0,.int .i64 0,.int .i64 0]] rfl qM ?_;(with_reducible refine(door_Rest.calls k J B L O X δ γ θ η ζ 0 0 0 a1 τ _ A3.out).mono ?_);rintro e ig ⟨rfl,hb⟩;refine⟨_,rfl, ?_⟩;replace ξ :=sBk ξ hb;replace ρ:=sBk ρ hb;replace HB:=sHb hb;(try clear hb);(try clear a9);(try clear hk);(try clear hi);obtain⟨ψ,a0,ae,b6,b7,b8,cf,d9,h8,h9,a7,ab,b5,dj,dk,dl,dn,dp,he,hh⟩:=Za ξ.out;obtain⟨a2,a3,a8,al,ar,aw,ax,a4,a5,aa,b0,b1,b2,b3⟩:=qD7 ρ.out)|((with_reducible refine Ql (f:=69) rfl ?_);refine Q2 (some 18) rfl rfl Try.func69 kr rfl #[.int .i64 J,.agg #[.int .i64 Z,.int .i64 Y,.int .i64 ε,.int .i64 κ,.int .i64 ι,.int .i64 μ,.int .i64 ν]] rfl qM ?_;(with_reducible refine(car_Check.calls k J Z Y ε κ ι μ ν σ _ A5.out).mono ?_);rintro e ek ⟨rfl,hb⟩;refine⟨_,rfl, ?_⟩;replace ξ :=sBk ξ hb;replace ρ:=sBk ρ hb;replace HB:=sHb hb;(try clear hb);(try clear a9);(try clear hk);(try clear hi)))
  go_ret
  exact⟨rfl,HB.out⟩
 ·rw[if_neg c4] at H
  have c4b0:(τ == 0)=false:=beq_eq_false_iff_ne.mpr c4
  have c4b1:(τ != 0)=true:=bne_iff_ne.mpr c4
  obtain rfl:=Option.some.inj H
  go_enter Try.func45,Try.ntmps45
  go_wp2_with (first|((with_reducible refine Qe (N:=2) rfl ?_);refine qE 2 #[.int .i64 J,.int .i64 B,.int .i64 L,.int .i64 O,.int .i64 X,.int .i64 δ,.int .i64 γ,.int .i64 θ,.int .i64 η,.int .i64 ζ] 25 ?_;intro af hg bq hbox hb;have ξ :=Aside0.mk hbox;have ag:=sGe hg;have am:=sGe hg;replace HB:=sHb hb;clear hb hbox hg)|((with_reducible refine Qe (N:=3) rfl ?_);refine qE 3 #[.int .i64 Z,.int .i64 Y,.int .i64 ε,.int .i64 κ,.int .i64 ι,.int .i64 μ,.int .i64 ν] 29 ?_;intro an hg gs hbox hb;have ρ:=Aside0.mk hbox;have ao:=sGe hg;have au:=sGe hg;have φ :=sNl ξ hg;have χ :=sNg ξ hg;replace ξ :=sBk ξ hb;replace HB:=sHb hb;clear hb hbox hg;have e0:= φ.out;have e7:= χ.out;obtain⟨ah,ai,ba,bs,bu,bv,bw,cb,cr,ct,aj,ak,bf,cu,cv,cw,d7,d8,da,dh⟩:=Za ξ.out)|((with_reducible refine Ql (f:=47) rfl ?_);refine Q2 (some 10) rfl rfl Try.func47 kr rfl #[.agg #[.int .i64 J,.int .i64 B,.int .i64 L,.int .i64 O,.int .i64 X,.int .i64 δ,.int .i64 γ,.int .i64 θ,.int .i64 η,.int .i64 ζ],.agg #[.int .i64 0,.int .i64 0,.int .i64 0]] rfl qM ?_;(with_reducible refine(door_Rest.calls k J B L O X δ γ θ η ζ 0 0 0 a1 τ _ A3.out).mono ?_);rintro e h7 ⟨rfl,hb⟩;refine⟨_,rfl, ?_⟩;replace ξ :=sBk ξ hb;replace ρ:=sBk ρ hb;replace HB:=sHb hb;(try clear hb);(try clear a9);(try clear hk);(try clear hi)))
  go_ret
  exact⟨rfl,HB.out⟩
def car_Rest.f (k:Nat) (J:Int) (B:Int) (L:Int) (O:Int) (X:Int) (δ :Int) (γ:Int) (θ :Int) (η :Int) (ζ :Int) (Z:Int) (Y:Int) (ε :Int) (κ :Int) (ι :Int) (μ :Int) (ν :Int):Option (Int×Int):=(car_check.f k J B L O X δ γ θ η ζ Z Y ε κ ι μ ν).bind fun σ=>(if σ=0 then (if ε = 2 then ((door_Ask.f k B L O X δ γ θ ι μ ν).bind fun τ =>((door_Rest.f k J B L O X δ γ θ η ζ τ.1 τ.2.1 τ.2.2.1).bind fun a1=>(some (wrap64 (κ + a1.1),0)))) else ((door_Rest.f k J B L O X δ γ θ η ζ ι μ ν).bind fun ai=>(some (wrap64 (κ + ai.1),0)))) else (some (0,σ)))
theorem car_Rest.mono:∀ B O a2 a3 L a5 X a7 a8 a9 Y Z γ ε δ ζ η k,LeO (car_Rest.f k B O a2 a3 L a5 X a7 a8 a9 Y Z γ ε δ ζ η) (car_Rest.f (k+1) B O a2 a3 L a5 X a7 a8 a9 Y Z γ ε δ ζ η):=by
 intro B O a2 a3 L a5 X a7 a8 a9 Y Z γ ε δ ζ η k
 unfold car_Rest.f
 repeat' first
   |(with_reducible exact car_check.mono _ _ _ _ _ _ _ _ _ _ _ _ _ _ _ _ _ _)
   |(with_reducible exact door_Ask.mono _ _ _ _ _ _ _ _ _ _ _)
   |(with_reducible exact door_Rest.mono _ _ _ _ _ _ _ _ _ _ _ _ _ _)
   |(with_reducible exact LeO.refl _)
   |(with_reducible exact LeO.none _)
   |(with_reducible refine LeO.ite ?_ ?_)
   |(with_reducible refine LeO.bind ?_ (fun _=>?_))
   |exact car_check.mono _ _ _ _ _ _ _ _ _ _ _ _ _ _ _ _ _ _
   |exact door_Ask.mono _ _ _ _ _ _ _ _ _ _ _
   |exact door_Rest.mono _ _ _ _ _ _ _ _ _ _ _ _ _ _
   |exact LeO.none _
   |refine LeO.ite ?_ ?_
   |refine LeO.bind ?_ (fun _=>?_)
set_option maxHeartbeats 8000000 in
set_option maxRecDepth 100000 in
theorem car_Rest.calls (k:Nat) (J:Int) (B:Int) (L:Int) (O:Int) (X:Int) (δ :Int) (γ:Int) (θ :Int) (η :Int) (ζ :Int) (Z:Int) (Y:Int) (ε :Int) (κ :Int) (ι :Int) (μ :Int) (ν :Int) (r1:Int) (r2:Int) (w:World) (h:car_Rest.f k J B L O X δ γ θ η ζ Z Y ε κ ι μ ν = some (r1,r2)):
  Calls Try.prog 25 #[.agg #[.int .i64 J,.int .i64 B,.int .i64 L,.int .i64 O,.int .i64 X,.int .i64 δ,.int .i64 γ,.int .i64 θ,.int .i64 η,.int .i64 ζ],.agg #[.int .i64 Z,.int .i64 Y,.int .i64 ε,.int .i64 κ,.int .i64 ι,.int .i64 μ,.int .i64 ν]] w fun e w'=>e = .returned (.tuple #[.int .i64 r1,.int .i64 r2])∧Below w.heap.size w w':=by
 have db:=Try.underlying25
 have fz:=Try.underlying29
 have eh:=Try.underlying27
 have g7:=Try.underlying23
 have HB:=Aside0.mk (Below.refl w.heap.size w)
 have H:((car_check.f k J B L O X δ γ θ η ζ Z Y ε κ ι μ ν).bind fun σ=>(if σ=0 then (if ε = 2 then ((door_Ask.f k B L O X δ γ θ ι μ ν).bind fun τ =>((door_Rest.f k J B L O X δ γ θ η ζ τ.1 τ.2.1 τ.2.2.1).bind fun a1=>(some (wrap64 (κ + a1.1),0)))) else ((door_Rest.f k J B L O X δ γ θ η ζ ι μ ν).bind fun ai=>(some (wrap64 (κ + ai.1),0)))) else (some (0,σ))))=some (r1,r2):=h
 clear h
 replace H:=Option.bind_eq_some_iff.mp H
 obtain⟨σ,ap,H⟩:=H
 replace H:(if σ=0 then (if ε = 2 then ((door_Ask.f k B L O X δ γ θ ι μ ν).bind fun τ =>((door_Rest.f k J B L O X δ γ θ η ζ τ.1 τ.2.1 τ.2.2.1).bind fun a1=>(some (wrap64 (κ + a1.1),0)))) else ((door_Rest.f k J B L O X δ γ θ η ζ ι μ ν).bind fun ai=>(some (wrap64 (κ + ai.1),0)))) else (some (0,σ)))=some (r1,r2):=H
 have A3:=Aside0.mk ap
 clear ap
 by_cases c4:σ=0
 ·rw[if_pos c4] at H
  have c4b0:(σ==0)=true:=beq_iff_eq.mpr c4
  have c4b1:(σ != 0)=false:=bne_eq_false_iff_eq.mpr c4
  clear c4
  by_cases c5: ε = 2
  ·rw[if_pos c5] at H
   have c5b0:(ε == 2)=true:=beq_iff_eq.mpr c5
   have c5b1:(ε != 2)=false:=bne_eq_false_iff_eq.mpr c5
   clear c5
   replace H:=Option.bind_eq_some_iff.mp H
   obtain⟨⟨ah,bb,bz,jn⟩,ao,H⟩:=H
   replace H:((door_Rest.f k J B L O X δ γ θ η ζ ah bb bz).bind fun a1=>(some (wrap64 (κ + a1.1),0)))=some (r1,r2):=H
   have A6:=Aside0.mk ao
   clear ao
   replace H:=Option.bind_eq_some_iff.mp H
   obtain⟨⟨jh,jo⟩,cw,H⟩:=H
   replace H:(some (wrap64 (κ + jh),0))=some (r1,r2):=H
   have A7:=Aside0.mk cw
   clear cw
   simp only[Option.some.injEq,Prod.mk.injEq] at H
   obtain⟨rfl,rfl⟩:=H
   go_enter Try.func25,Try.ntmps25
   go_wp2_with (first|((with_reducible refine Qe (N:=2) rfl ?_);refine qE 2 #[.int .i64 J,.int .i64 B,.int .i64 L,.int .i64 O,.int .i64 X,.int .i64 δ,.int .i64 γ,.int .i64 θ,.int .i64 η,.int .i64 ζ] 25 ?_;intro dq hg w8 hbox hb;have ξ :=Aside0.mk hbox;have dr:=sGe hg;have dt:=sGe hg;replace HB:=sHb hb;clear hb hbox hg)|((with_reducible refine Qe (N:=3) rfl ?_);refine qE 3 #[.int .i64 Z,.int .i64 Y,.int .i64 ε,.int .i64 κ,.int .i64 ι,.int .i64 μ,.int .i64 ν] 29 ?_;intro e8 hg w9 hbox hb;have ρ:=Aside0.mk hbox;have eb:=sGe hg;have ga:=sGe hg;have χ :=sNl ξ hg;have ω :=sNg ξ hg;replace ξ :=sBk ξ hb;replace HB:=sHb hb;clear hb hbox hg;have el:= χ.out;have fj:= ω.out;obtain⟨ψ,a0,ae,b6,b7,b8,cf,d9,h8,h9,a7,ab,b5,dj,dk,dl,dn,dp,he,hh⟩:=Za ξ.out;obtain⟨a2,a3,a8,al,ar,aw,ax,a4,a5,aa,b0,b1,b2,b3⟩:=qD7 ρ.out)|((with_reducible refine Ql (f:=45) rfl ?_);refine Q2 (some 12) rfl rfl Try.func45 kr rfl #[.agg #[.int .i64 J,.int .i64 B,.int .i64 L,.int .i64 O,.int .i64 X,.int .i64 δ,.int .i64 γ,.int .i64 θ,.int .i64 η,.int .i64 ζ],.agg #[.int .i64 Z,.int .i64 Y,.int .i64 ε,.int .i64 κ,.int .i64 ι,.int .i64 μ,.int .i64 ν]] rfl qM ?_;(with_reducible refine(car_check.calls k J B L O X δ γ θ η ζ Z Y ε κ ι μ ν σ _ A3.out).mono ?_);rintro e ek ⟨rfl,hb⟩;refine⟨_,rfl, ?_⟩;replace ξ :=sBk ξ hb;replace ρ:=sBk ρ hb;replace HB:=sHb hb;(try clear hb);(try clear a9);(try clear hk);(try clear hi);obtain⟨cg,ch,cx,cy,cz,d0,d1,ci,cj,d2,d3,d4,d5,d6⟩:=qD7 ρ.out)|((with_reducible refine Qe (N:=7) rfl ?_);refine qE 7 #[.int .i64 0,.int .i64 0,.int .i64 0] 27 ?_;intro bm hg gs hbox hb;have φ :=Aside0.mk hbox;have jj:=sGe hg;have jk:=sGe hg;have a6:=sNl ξ hg;have ac:=sNg ξ hg;have af:=sNl ρ hg;have ag:=sNg ρ hg;replace ξ :=sBk ξ hb;replace ρ:=sBk ρ hb;replace HB:=sHb hb;clear hb hbox hg;have e0:=ac.out;have e7:=a6.out;have ie:=ag.out;have ig:=af.out;obtain⟨b9,bc,ce,bd,be,di⟩:=qD3 φ.out;obtain⟨am,an,az,bh,bi,bj,bk,au,av,b4,bl,bn,bo,bp⟩:=qD7 ρ.out;obtain⟨bs,bu,cb,gj,gk,gl,gm,gi,gt,gu,bv,bw,cd,gn,gp,gq,gr,gv,gw,gx⟩:=Za ξ.out)|((with_reducible refine Ql (f:=46) rfl ?_);refine Q2 (some 25) rfl rfl Try.func46 kr rfl #[.agg #[.int .i64 B,.int .i64 L,.int .i64 O,.int .i64 X,.int .i64 δ,.int .i64 γ,.int .i64 θ],.agg #[.int .i64 ι,.int .i64 μ,.int .i64 ν]] rfl qM ?_;(with_reducible refine(door_Ask.calls k B L O X δ γ θ ι μ ν ah bb bz jn _ A6.out).mono ?_);rintro e bg ⟨rfl,hb⟩;refine⟨_,rfl, ?_⟩;replace ξ :=sBk ξ hb;replace ρ:=sBk ρ hb;replace φ :=Aside0.mk (Qs (g:=bm) (o:=.cells #[.int .i64 ι,.int .i64 μ,.int .i64 ν] 27 (0,0)) (by refine Qm (cs:=#[.int .i64 ι,.int .i64 μ,.int .i64 0]) ?_ 2 _ rfl;refine Qm (cs:=#[.int .i64 ι,.int .i64 0,.int .i64 0]) ?_ 1 _ rfl;refine Qm (cs:=#[.int .i64 0,.int .i64 0,.int .i64 0]) ?_ 0 _ rfl;exact φ.out) hb);replace HB:=sHb hb;(try clear hb);(try clear a9);(try clear hk);(try clear hi);obtain⟨bf,cr,d8,ct,cu,da⟩:=qD3 φ.out;obtain⟨en,et,eu,hj,hl,ho,hu,hx,hy,i0,ev,ew,ey,i1,ih,ii,ij,j8,j9,ja⟩:=Za ξ.out)|((with_reducible refine Ql (f:=47) rfl ?_);refine Q2 (some 31) rfl rfl Try.func47 kr rfl #[.agg #[.int .i64 J,.int .i64 B,.int .i64 L,.int .i64 O,.int .i64 X,.int .i64 δ,.int .i64 γ,.int .i64 θ,.int .i64 η,.int .i64 ζ],.agg #[.int .i64 ah,.int .i64 bb,.int .i64 bz]] rfl qM ?_;(with_reducible refine(door_Rest.calls k J B L O X δ γ θ η ζ ah bb bz jh jo _ A7.out).mono ?_);rintro e ca ⟨rfl,hb⟩;refine⟨_,rfl, ?_⟩;replace ξ :=sBk ξ hb;replace ρ:=sBk ρ hb;replace φ :=Aside0.mk (Qs (g:=bm) (o:=.cells #[.int .i64 ah,.int .i64 bb,.int .i64 bz] 27 (0,0)) (by refine Qm (cs:=#[.int .i64 ah,.int .i64 bb,.int .i64 ν]) ?_ 2 _ rfl;refine Qm (cs:=#[.int .i64 ah,.int .i64 μ,.int .i64 ν]) ?_ 1 _ rfl;refine Qm (cs:=#[.int .i64 ι,.int .i64 μ,.int .i64 ν]) ?_ 0 _ rfl;exact φ.out) hb);replace HB:=sHb hb;(try clear hb);(try clear a9);(try clear hk);(try clear hi);obtain⟨ec,ed,ba,dv,eo,fc,fl,ee,ef,cv,fm,fn,fo,fr⟩:=qD7 ρ.out))
   go_ret2
   exact⟨rfl,HB.out⟩
  ·rw[if_neg c5] at H
   have c5b0:(ε == 2)=false:=beq_eq_false_iff_ne.mpr c5
   have c5b1:(ε != 2)=true:=bne_iff_ne.mpr c5
   replace H:=Option.bind_eq_some_iff.mp H
   obtain⟨⟨ji,jp⟩,de,H⟩:=H
   replace H:(some (wrap64 (κ + ji),0))=some (r1,r2):=H
   have ha:=Aside0.mk de
   clear de
   simp only[Option.some.injEq,Prod.mk.injEq] at H
   obtain⟨rfl,rfl⟩:=H
   go_enter Try.func25,Try.ntmps25
   go_wp2_with (first|((with_reducible refine Qe (N:=2) rfl ?_);refine qE 2 #[.int .i64 J,.int .i64 B,.int .i64 L,.int .i64 O,.int .i64 X,.int .i64 δ,.int .i64 γ,.int .i64 θ,.int .i64 η,.int .i64 ζ] 25 ?_;intro dq hg dm hbox hb;have ξ :=Aside0.mk hbox;have dr:=sGe hg;have dt:=sGe hg;replace HB:=sHb hb;clear hb hbox hg)|((with_reducible refine Qe (N:=3) rfl ?_);refine qE 3 #[.int .i64 Z,.int .i64 Y,.int .i64 ε,.int .i64 κ,.int .i64 ι,.int .i64 μ,.int .i64 ν] 29 ?_;intro e8 hg e9 hbox hb;have ρ:=Aside0.mk hbox;have eb:=sGe hg;have ga:=sGe hg;have χ :=sNl ξ hg;have ω :=sNg ξ hg;replace ξ :=sBk ξ hb;replace HB:=sHb hb;clear hb hbox hg;have e3:= χ.out;have g8:= ω.out;obtain⟨d7,df,aj,ea,ei,ej,em,gy,gz,h0,dh,e4,ak,fa,fb,g5,g6,h4,h5,h6⟩:=Za ξ.out;obtain⟨ck,cm,cn,fe,ff,fg,fh,co,cp,cq,fi,fk,fp,fq⟩:=qD7 ρ.out)|((with_reducible refine Ql (f:=45) rfl ?_);refine Q2 (some 12) rfl rfl Try.func45 kr rfl #[.agg #[.int .i64 J,.int .i64 B,.int .i64 L,.int .i64 O,.int .i64 X,.int .i64 δ,.int .i64 γ,.int .i64 θ,.int .i64 η,.int .i64 ζ],.agg #[.int .i64 Z,.int .i64 Y,.int .i64 ε,.int .i64 κ,.int .i64 ι,.int .i64 μ,.int .i64 ν]] rfl qM ?_;(with_reducible refine(car_check.calls k J B L O X δ γ θ η ζ Z Y ε κ ι μ ν σ _ A3.out).mono ?_);rintro e jm ⟨rfl,hb⟩;refine⟨_,rfl, ?_⟩;replace ξ :=sBk ξ hb;replace ρ:=sBk ρ hb;replace HB:=sHb hb;(try clear hb);(try clear a9);(try clear hk);(try clear hi);obtain⟨dc,dd,dy,ay,br,e5,e6,du,dx,dz,ft,fu,fv,fw⟩:=qD7 ρ.out)|((with_reducible refine Qe (N:=7) rfl ?_);refine qE 7 #[.int .i64 0,.int .i64 0,.int .i64 0] 27 ?_;intro bm hg jg hbox hb;have φ :=Aside0.mk hbox;have jj:=sGe hg;have jk:=sGe hg;have a6:=sNl ξ hg;have ac:=sNg ξ hg;have af:=sNl ρ hg;have ag:=sNg ρ hg;replace ξ :=sBk ξ hb;replace ρ:=sBk ρ hb;replace HB:=sHb hb;clear hb hbox hg;have kl:=ac.out;have km:=a6.out;have jr:=ag.out;have js:=af.out;obtain⟨jq,jt,ju,jv,jw,jx⟩:=qD3 φ.out;obtain⟨jy,jz,k0,k1,k2,k3,k4,k5,k6,k7,k8,k9,kc,kd⟩:=qD7 ρ.out;obtain⟨dw,g0,g1,ke,kf,kg,kh,ki,kj,kk,g2,g3,g4,kn,ko,kp,kq,ks,kt,ku⟩:=Za ξ.out)|((with_reducible refine Ql (f:=47) rfl ?_);refine Q2 (some 31) rfl rfl Try.func47 kr rfl #[.agg #[.int .i64 J,.int .i64 B,.int .i64 L,.int .i64 O,.int .i64 X,.int .i64 δ,.int .i64 γ,.int .i64 θ,.int .i64 η,.int .i64 ζ],.agg #[.int .i64 ι,.int .i64 μ,.int .i64 ν]] rfl qM ?_;(with_reducible refine(door_Rest.calls k J B L O X δ γ θ η ζ ι μ ν ji jp _ ha.out).mono ?_);rintro e kb ⟨rfl,hb⟩;refine⟨_,rfl, ?_⟩;replace ξ :=sBk ξ hb;replace ρ:=sBk ρ hb;replace φ :=Aside0.mk (Qs (g:=bm) (o:=.cells #[.int .i64 ι,.int .i64 μ,.int .i64 ν] 27 (0,0)) (by refine Qm (cs:=#[.int .i64 ι,.int .i64 μ,.int .i64 0]) ?_ 2 _ rfl;refine Qm (cs:=#[.int .i64 ι,.int .i64 0,.int .i64 0]) ?_ 1 _ rfl;refine Qm (cs:=#[.int .i64 0,.int .i64 0,.int .i64 0]) ?_ 0 _ rfl;exact φ.out) hb);replace HB:=sHb hb;(try clear hb);(try clear a9);(try clear hk);(try clear hi);obtain⟨ep,er,bq,i2,i3,i4,i5,ez,f8,eg,i6,i7,i9,ia⟩:=qD7 ρ.out))
   go_ret2
   exact⟨rfl,HB.out⟩
 ·rw[if_neg c4] at H
  have c4b0:(σ==0)=false:=beq_eq_false_iff_ne.mpr c4
  have c4b1:(σ != 0)=true:=bne_iff_ne.mpr c4
  simp only[Option.some.injEq,Prod.mk.injEq] at H
  obtain⟨rfl,rfl⟩:=H
  go_enter Try.func25,Try.ntmps25
  go_wp2_with (first|((with_reducible refine Qe (N:=2) rfl ?_);refine qE 2 #[.int .i64 J,.int .i64 B,.int .i64 L,.int .i64 O,.int .i64 X,.int .i64 δ,.int .i64 γ,.int .i64 θ,.int .i64 η,.int .i64 ζ] 25 ?_;intro dq hg jl hbox hb;have ξ :=Aside0.mk hbox;have dr:=sGe hg;have dt:=sGe hg;replace HB:=sHb hb;clear hb hbox hg)|((with_reducible refine Qe (N:=3) rfl ?_);refine qE 3 #[.int .i64 Z,.int .i64 Y,.int .i64 ε,.int .i64 κ,.int .i64 ι,.int .i64 μ,.int .i64 ν] 29 ?_;intro e8 hg ka hbox hb;have ρ:=Aside0.mk hbox;have eb:=sGe hg;have ga:=sGe hg;have χ :=sNl ξ hg;have ω :=sNg ξ hg;replace ξ :=sBk ξ hb;replace HB:=sHb hb;clear hb hbox hg;have ib:= χ.out;have ic:= ω.out;obtain⟨fx,fy,ik,il,im,io,ip,h7,jb,jc,gb,ge,iq,ir,it,iu,iv,jd,je,jf⟩:=Za ξ.out;obtain⟨g9,gf,iw,ix,iy,iz,j2,gg,gh,j3,j4,j5,j6,j7⟩:=qD7 ρ.out)|((with_reducible refine Ql (f:=45) rfl ?_);refine Q2 (some 12) rfl rfl Try.func45 kr rfl #[.agg #[.int .i64 J,.int .i64 B,.int .i64 L,.int .i64 O,.int .i64 X,.int .i64 δ,.int .i64 γ,.int .i64 θ,.int .i64 η,.int .i64 ζ],.agg #[.int .i64 Z,.int .i64 Y,.int .i64 ε,.int .i64 κ,.int .i64 ι,.int .i64 μ,.int .i64 ν]] rfl qM ?_;(with_reducible refine(car_check.calls k J B L O X δ γ θ η ζ Z Y ε κ ι μ ν σ _ A3.out).mono ?_);rintro e l9 ⟨rfl,hb⟩;refine⟨_,rfl, ?_⟩;replace ξ :=sBk ξ hb;replace ρ:=sBk ρ hb;replace HB:=sHb hb;(try clear hb);(try clear a9);(try clear hk);(try clear hi)))
  go_ret2
  exact⟨rfl,HB.out⟩
def group_lift.f (k:Nat) (J:Int) (B:Int) (L:Int) (O:Int) (X:Int) (δ :Int) (γ:Int) (θ :Int) (η :Int) (ζ :Int) (Z:Int) (Y:Int) (ε :Int) (κ :Int) (ι :Int) (μ :Int) (ν :Int) (χ :Int) (ψ :Bool) (a1:Bool):Option (Bool):=(car_Rest.f k J B L O X δ γ θ η ζ Z Y ε κ ι μ ν).bind fun ω =>(if ω.2=0 then (if (-1) ≤ χ then (some (decide (χ ≤ 1))) else (some false)) else (some false))
theorem group_lift.mono:∀ B O a2 a3 L a5 X a7 a8 a9 Y Z γ ε δ ζ η J θ ι k,LeO (group_lift.f k B O a2 a3 L a5 X a7 a8 a9 Y Z γ ε δ ζ η J θ ι) (group_lift.f (k+1) B O a2 a3 L a5 X a7 a8 a9 Y Z γ ε δ ζ η J θ ι):=by
 intro B O a2 a3 L a5 X a7 a8 a9 Y Z γ ε δ ζ η J θ ι k
 unfold group_lift.f
 repeat' first
   |(with_reducible exact car_Rest.mono _ _ _ _ _ _ _ _ _ _ _ _ _ _ _ _ _ _)
   |(with_reducible exact LeO.refl _)
   |(with_reducible exact LeO.none _)
   |(with_reducible refine LeO.ite ?_ ?_)
   |(with_reducible refine LeO.bind ?_ (fun _=>?_))
   |exact car_Rest.mono _ _ _ _ _ _ _ _ _ _ _ _ _ _ _ _ _ _
   |exact LeO.none _
   |refine LeO.ite ?_ ?_
   |refine LeO.bind ?_ (fun _=>?_)
set_option maxHeartbeats 8000000 in
set_option maxRecDepth 100000 in
theorem group_lift.calls (k:Nat) (J:Int) (B:Int) (L:Int) (O:Int) (X:Int) (δ :Int) (γ:Int) (θ :Int) (η :Int) (ζ :Int) (Z:Int) (Y:Int) (ε :Int) (κ :Int) (ι :Int) (μ :Int) (ν :Int) (χ :Int) (ψ :Bool) (a1:Bool) (r:Bool) (w:World) (h:group_lift.f k J B L O X δ γ θ η ζ Z Y ε κ ι μ ν χ ψ a1=some r):
  Calls Try.prog 28 #[.agg #[.int .i64 J,.int .i64 B,.int .i64 L,.int .i64 O,.int .i64 X,.int .i64 δ,.int .i64 γ,.int .i64 θ,.int .i64 η,.int .i64 ζ],.agg #[.int .i64 Z,.int .i64 Y,.int .i64 ε,.int .i64 κ,.int .i64 ι,.int .i64 μ,.int .i64 ν,.int .i64 χ,.bool ψ,.bool a1]] w fun e w'=>e = .returned (.bool r)∧Below w.heap.size w w':=by
 have db:=Try.underlying25
 have fc:=Try.underlying31
 have fz:=Try.underlying29
 have HB:=Aside0.mk (Below.refl w.heap.size w)
 have H:((car_Rest.f k J B L O X δ γ θ η ζ Z Y ε κ ι μ ν).bind fun ω =>(if ω.2=0 then (if (-1) ≤ χ then (some (decide (χ ≤ 1))) else (some false)) else (some false)))=some r:=h
 clear h
 replace H:=Option.bind_eq_some_iff.mp H
 obtain⟨⟨af,φ⟩,ap,H⟩:=H
 replace H:(if φ = 0 then (if (-1) ≤ χ then (some (decide (χ ≤ 1))) else (some false)) else (some false))=some r:=H
 have A3:=Aside0.mk ap
 clear ap
 by_cases c4: φ = 0
 ·rw[if_pos c4] at H
  have c4b0:(φ == 0)=true:=beq_iff_eq.mpr c4
  have c4b1:(φ != 0)=false:=bne_eq_false_iff_eq.mpr c4
  clear c4
  by_cases c5:(-1) ≤ χ
  ·rw[if_pos c5] at H
   have c5b0:decide ((-1) ≤ χ)=true:=decide_eq_true c5
   clear c5
   obtain rfl:=Option.some.inj H
   go_enter Try.func28,Try.ntmps28
   go_wp2_with (first|((with_reducible refine Qe (N:=2) rfl ?_);refine qE 2 #[.int .i64 J,.int .i64 B,.int .i64 L,.int .i64 O,.int .i64 X,.int .i64 δ,.int .i64 γ,.int .i64 θ,.int .i64 η,.int .i64 ζ] 25 ?_;intro ag hg w6 hbox hb;have ξ :=Aside0.mk hbox;have ao:=sGe hg;have ay:=sGe hg;replace HB:=sHb hb;clear hb hbox hg)|((with_reducible refine Qe (N:=3) rfl ?_);refine qE 3 #[.int .i64 Z,.int .i64 Y,.int .i64 ε,.int .i64 κ,.int .i64 ι,.int .i64 μ,.int .i64 ν,.int .i64 χ,.bool ψ,.bool a1] 31 ?_;intro b9 hg w7 hbox hb;have ρ:=Aside0.mk hbox;have bd:=sGe hg;have be:=sGe hg;have σ:=sNl ξ hg;have τ :=sNg ξ hg;replace ξ :=sBk ξ hb;replace HB:=sHb hb;clear hb hbox hg;have cg:=σ.out;have ch:= τ.out;obtain⟨a6,ac,cd,ck,cm,cn,co,cp,ci,cj,bb,bc,cq,ep,ez,f8,fa,fb,cx,cy⟩:=Za ξ.out;obtain⟨a7,ae,d9,dj,dk,dl,dm,a0,ab,e8,dn,dp,dq,dr,dt,dw,e3,fe,fj,fk⟩:=Za ρ.out)|((with_reducible refine Ql (f:=25) rfl ?_);refine Q2 (some 11) rfl rfl Try.func25 kr rfl #[.agg #[.int .i64 J,.int .i64 B,.int .i64 L,.int .i64 O,.int .i64 X,.int .i64 δ,.int .i64 γ,.int .i64 θ,.int .i64 η,.int .i64 ζ],.agg #[.int .i64 Z,.int .i64 Y,.int .i64 ε,.int .i64 κ,.int .i64 ι,.int .i64 μ,.int .i64 ν]] rfl qM ?_;(with_reducible refine(car_Rest.calls k J B L O X δ γ θ η ζ Z Y ε κ ι μ ν af φ _ A3.out).mono ?_);rintro e el ⟨rfl,hb⟩;refine⟨_,rfl, ?_⟩;replace ξ :=sBk ξ hb;replace ρ:=sBk ρ hb;replace HB:=sHb hb;(try clear hb);(try clear a9);(try clear hk);(try clear hi);obtain⟨a2,a3,a8,al,ar,aw,ax,eg,eh,ei,a4,a5,aa,b0,b1,b2,b3,ej,eo,er⟩:=Za ρ.out))
   go_ret
   exact⟨rfl,HB.out⟩
  ·rw[if_neg c5] at H
   have c5b0:decide ((-1) ≤ χ)=false:=decide_eq_false c5
   clear c5
   obtain rfl:=Option.some.inj H
   go_enter Try.func28,Try.ntmps28
   go_wp2_with (first|((with_reducible refine Qe (N:=2) rfl ?_);refine qE 2 #[.int .i64 J,.int .i64 B,.int .i64 L,.int .i64 O,.int .i64 X,.int .i64 δ,.int .i64 γ,.int .i64 θ,.int .i64 η,.int .i64 ζ] 25 ?_;intro ag hg ek hbox hb;have ξ :=Aside0.mk hbox;have ao:=sGe hg;have ay:=sGe hg;replace HB:=sHb hb;clear hb hbox hg)|((with_reducible refine Qe (N:=3) rfl ?_);refine qE 3 #[.int .i64 Z,.int .i64 Y,.int .i64 ε,.int .i64 κ,.int .i64 ι,.int .i64 μ,.int .i64 ν,.int .i64 χ,.bool ψ,.bool a1] 31 ?_;intro b9 hg bq hbox hb;have ρ:=Aside0.mk hbox;have bd:=sGe hg;have be:=sGe hg;have σ:=sNl ξ hg;have τ :=sNg ξ hg;replace ξ :=sBk ξ hb;replace HB:=sHb hb;clear hb hbox hg;have gf:=σ.out;have gg:= τ.out;obtain⟨dx,dy,bm,bz,de,df,e4,e5,fl,fm,dz,e0,br,e6,e7,e9,ea,eb,fn,fo⟩:=Za ξ.out;obtain⟨ah,ai,ba,bs,bu,bv,bw,cb,cr,ct,aj,ak,bf,cu,cv,cw,d7,d8,da,dh⟩:=Za ρ.out)|((with_reducible refine Ql (f:=25) rfl ?_);refine Q2 (some 11) rfl rfl Try.func25 kr rfl #[.agg #[.int .i64 J,.int .i64 B,.int .i64 L,.int .i64 O,.int .i64 X,.int .i64 δ,.int .i64 γ,.int .i64 θ,.int .i64 η,.int .i64 ζ],.agg #[.int .i64 Z,.int .i64 Y,.int .i64 ε,.int .i64 κ,.int .i64 ι,.int .i64 μ,.int .i64 ν]] rfl qM ?_;(with_reducible refine(car_Rest.calls k J B L O X δ γ θ η ζ Z Y ε κ ι μ ν af φ _ A3.out).mono ?_);rintro e h7 ⟨rfl,hb⟩;refine⟨_,rfl, ?_⟩;replace ξ :=sBk ξ hb;replace ρ:=sBk ρ hb;replace HB:=sHb hb;(try clear hb);(try clear a9);(try clear hk);(try clear hi);obtain⟨am,an,az,bh,bi,bj,bk,ce,di,ec,au,av,b4,bl,bn,bo,bp,ed,ee,ef⟩:=Za ρ.out))
   go_ret
   exact⟨rfl,HB.out⟩
 ·rw[if_neg c4] at H
  have c4b0:(φ == 0)=false:=beq_eq_false_iff_ne.mpr c4
  have c4b1:(φ != 0)=true:=bne_iff_ne.mpr c4
  obtain rfl:=Option.some.inj H
  go_enter Try.func28,Try.ntmps28
  go_wp2_with (first|((with_reducible refine Qe (N:=2) rfl ?_);refine qE 2 #[.int .i64 J,.int .i64 B,.int .i64 L,.int .i64 O,.int .i64 X,.int .i64 δ,.int .i64 γ,.int .i64 θ,.int .i64 η,.int .i64 ζ] 25 ?_;intro ag hg dv hbox hb;have ξ :=Aside0.mk hbox;have ao:=sGe hg;have ay:=sGe hg;replace HB:=sHb hb;clear hb hbox hg)|((with_reducible refine Qe (N:=3) rfl ?_);refine qE 3 #[.int .i64 Z,.int .i64 Y,.int .i64 ε,.int .i64 κ,.int .i64 ι,.int .i64 μ,.int .i64 ν,.int .i64 χ,.bool ψ,.bool a1] 31 ?_;intro b9 hg bg hbox hb;have ρ:=Aside0.mk hbox;have bd:=sGe hg;have be:=sGe hg;have σ:=sNl ξ hg;have τ :=sNg ξ hg;replace ξ :=sBk ξ hb;replace HB:=sHb hb;clear hb hbox hg;have fh:=σ.out;have fi:= τ.out;obtain⟨en,et,eu,hj,hl,ho,hu,hx,hy,i0,ev,ew,ey,i1,ih,ii,ij,j8,j9,ja⟩:=Za ξ.out;obtain⟨b5,b6,ca,fr,g0,g1,g5,g6,g7,g8,b7,b8,cf,ga,gi,gj,gl,gm,gn,gp⟩:=Za ρ.out)|((with_reducible refine Ql (f:=25) rfl ?_);refine Q2 (some 11) rfl rfl Try.func25 kr rfl #[.agg #[.int .i64 J,.int .i64 B,.int .i64 L,.int .i64 O,.int .i64 X,.int .i64 δ,.int .i64 γ,.int .i64 θ,.int .i64 η,.int .i64 ζ],.agg #[.int .i64 Z,.int .i64 Y,.int .i64 ε,.int .i64 κ,.int .i64 ι,.int .i64 μ,.int .i64 ν]] rfl qM ?_;(with_reducible refine(car_Rest.calls k J B L O X δ γ θ η ζ Z Y ε κ ι μ ν af φ _ A3.out).mono ?_);rintro e em ⟨rfl,hb⟩;refine⟨_,rfl, ?_⟩;replace ξ :=sBk ξ hb;replace ρ:=sBk ρ hb;replace HB:=sHb hb;(try clear hb);(try clear a9);(try clear hk);(try clear hi)))
  go_ret
  exact⟨rfl,HB.out⟩
end Go.Proofs.Ytmfffemidlhcpaa.C
namespace Go.Proofs.Ytmfffemidlhcpaa.GrpPure
open Go.RowKit Go.Proofs.YtmfffemidlhcpaaW.PrintWords Go.Proofs.YtmfffemidlhcpaaW.PrintLast Go.Proofs.YtmfffemidlhcpaaW.PrintMore Go.Proofs.Ytmfffemidlhcpaa.C Go.Proofs.Ytmfffemidlhcpaa.DoorPure
abbrev Xf (F c0 c1 c2 c3 c4:Int):Prop:=
  (c2=0∧c1=0∧c3=0∧c4=0)∨(c2=1∧(c1=1∨c1 = -1)∧(0≤c0+c1∧c0+c1<F)∧(1≤c3∧c3≤60)∧c4=0)∨(c2=2∧c1=0∧(1≤c3∧c3≤60)∧c4=0)∨(c2=3∧c1=0∧c3=0∧c4≠0)
abbrev Gw (F c0 c1 c2 c3 c4 c5 c6:Int):Prop:=((2≤F∧F≤64)∧(0≤c0∧c0<F)∧Xq c4 c5 c6)∧Xf F c0 c1 c2 c3 c4
theorem Jw (n a b:Int):car_within.f n a b=some (decide (a≤n∧n≤b)):=by
  unfold car_within.f
  by_cases h:a≤n
  · rw[if_pos h];simp[h]
  · rw[if_neg h];simp[h]
theorem Gg (F c0 c1 c2 c3 c4 c5 c6:Int) (f:Nat):car_Check.j0 (f+1) F false c0 c1 c2 c3 c4 c5 c6=some 180:=by
  simp[car_Check.j0]
theorem Ll (F c0 c1 c2 c3 c4 c5 c6:Int) (f:Nat) (h:(2≤F∧F≤64)∧(0≤c0∧c0<F)):car_Check.j0 (f+1) F true c0 c1 c2 c3 c4 c5 c6=some (if Xf F c0 c1 c2 c3 c4 then 0 else 180):=by
  obtain⟨h1,L⟩:=h
  have e1:wrap64 (c0+1)=c0+1:=w64 (by omega)
  have e2:wrap64 (c0 + -1)=c0 + -1:=w64 (by omega)
  have Y:wrap64 (F-1)=F-1:=w64 (by omega)
  simp only[car_Check.j0,Jw,Option.bind_some,if_true]
  by_cases B:c2=0
  · subst B
    rw[if_pos rfl]
    by_cases b1:c1=0 <;> by_cases b2:c3=0 <;> by_cases b3:c4=0 <;> simp[Xf,b1,b2,b3]
  · rw[if_neg B]
    by_cases O:c2=1
    · subst O
      rw[if_pos rfl]
      by_cases b1:c1=1
      · subst b1
        rw[if_pos rfl,e1,Y]
        by_cases b2:0≤c0+1∧c0+1≤F-1
        · rw[decide_eq_true b2,if_pos rfl]
          by_cases b3:1≤c3∧c3≤60
          · rw[decide_eq_true b3,if_pos rfl]
            by_cases J:c4=0
            · rw[if_pos J,if_pos (Or.inr (Or.inl ⟨rfl,Or.inl rfl,by omega,b3,J⟩))]
            · rw[if_neg J,if_neg (by unfold Xf;omega)]
          · rw[decide_eq_false b3,if_neg (by decide),if_neg (by unfold Xf;omega)]
        · rw[decide_eq_false b2,if_neg (by decide),if_neg (by unfold Xf;omega)]
      · rw[if_neg b1]
        by_cases X:c1 = -1
        · subst X
          rw[if_pos rfl,e2,Y]
          by_cases b2:0≤c0 + -1∧c0 + -1≤F-1
          · rw[decide_eq_true b2,if_pos rfl]
            by_cases b3:1≤c3∧c3≤60
            · rw[decide_eq_true b3,if_pos rfl]
              by_cases J:c4=0
              · rw[if_pos J,if_pos (Or.inr (Or.inl ⟨rfl,Or.inr rfl,by omega,b3,J⟩))]
              · rw[if_neg J,if_neg (by unfold Xf;omega)]
            · rw[decide_eq_false b3,if_neg (by decide),if_neg (by unfold Xf;omega)]
          · rw[decide_eq_false b2,if_neg (by decide),if_neg (by unfold Xf;omega)]
        · rw[if_neg X,if_neg (by unfold Xf;omega)]
    · rw[if_neg O]
      by_cases a2:c2=2
      · subst a2
        rw[if_pos rfl]
        by_cases b1:c1=0
        · rw[if_pos b1]
          by_cases b3:1≤c3∧c3≤60
          · rw[decide_eq_true b3,if_pos rfl]
            by_cases J:c4=0
            · rw[if_pos J,if_pos (Or.inr (Or.inr (Or.inl ⟨rfl,b1,b3,J⟩)))]
            · rw[if_neg J,if_neg (by unfold Xf;omega)]
          · rw[decide_eq_false b3,if_neg (by decide),if_neg (by unfold Xf;omega)]
        · rw[if_neg b1,if_neg (by unfold Xf;omega)]
      · rw[if_neg a2]
        by_cases a3:c2=3
        · subst a3
          rw[if_pos rfl]
          by_cases b1:c1=0 <;> by_cases b2:c3=0 <;> by_cases b3:c4=0 <;> simp[Xf,b1,b2,b3]
        · rw[if_neg a3,if_neg (by unfold Xf;omega)]
theorem Um (F c0 c1 c2 c3 c4 c5 c6:Int) (f:Nat) (hf:2<f):car_Check.f f F c0 c1 c2 c3 c4 c5 c6=some (if Gw F c0 c1 c2 c3 c4 c5 c6 then 0 else 180):=by
  obtain⟨f,rfl⟩:∃ m,f=m+1:=⟨f-1,by omega⟩
  unfold car_Check.f
  rw[Jw,Jw,Yg]
  simp only[Option.bind_some,Gg]
  by_cases h1:2≤F∧F≤64
  · rw[decide_eq_true h1,if_pos rfl,w64 (n:=F-1) (by omega)]
    by_cases L:0≤c0∧c0≤F-1
    · rw[decide_eq_true L,if_pos rfl]
      by_cases O:Xq c4 c5 c6
      · rw[if_pos O]
        show car_Check.j0 (f+1) F true c0 c1 c2 c3 c4 c5 c6=_
        rw[Ll _ _ _ _ _ _ _ _ _ ⟨h1,by omega⟩]
        by_cases Z:Xf F c0 c1 c2 c3 c4
        · rw[if_pos Z,if_pos ⟨⟨h1,by omega,O⟩,Z⟩]
        · rw[if_neg Z,if_neg (fun h=>Z h.2)]
      · rw[if_neg O]
        show car_Check.j0 (f+1) F false c0 c1 c2 c3 c4 c5 c6=_
        rw[Gg,if_neg (fun h=>O h.1.2.2)]
    · rw[decide_eq_false L,if_neg (by decide),if_neg (fun h=>L ⟨h.1.2.1.1,by have:=h.1.2.1.2;omega⟩)]
  · rw[decide_eq_false h1,if_neg (by decide),if_neg (fun h=>h1 h.1.1)]
theorem Lk (g0 Z g2 g3 g4 g5 g6 g7 g8 g9 c0 c1 c2 c3 c4 c5 c6:Int) (f:Nat) (hf:10<f):car_check.f f g0 Z g2 g3 g4 g5 g6 g7 g8 g9 c0 c1 c2 c3 c4 c5 c6=some (if X3 g0 Z g2 g3 g4 g5 g6 g7 g8 g9∧Gw g0 c0 c1 c2 c3 c4 c5 c6 then 0 else 180):=by
  unfold car_check.f
  rw[U9 _ _ _ _ _ _ _ _ _ _ _ _ _ f hf,Um _ _ _ _ _ _ _ _ f (by omega)]
  simp only[Option.bind_some]
  by_cases h1:X3 g0 Z g2 g3 g4 g5 g6 g7 g8 g9
  · have hz:X3 g0 Z g2 g3 g4 g5 g6 g7 g8 g9∧Xq 0 0 0:=⟨h1,by unfold Xq;omega⟩
    rw[if_pos hz]
    simp only[if_true]
    by_cases L:Gw g0 c0 c1 c2 c3 c4 c5 c6
    · rw[if_pos L,if_pos ⟨h1,L⟩]
    · rw[if_neg L,if_neg (fun h=>L h.2)]
  · have hz:¬ (X3 g0 Z g2 g3 g4 g5 g6 g7 g8 g9∧Xq 0 0 0):=fun h=>h1 h.1
    have hy:¬ (X3 g0 Z g2 g3 g4 g5 g6 g7 g8 g9∧Gw g0 c0 c1 c2 c3 c4 c5 c6):=fun h=>h1 h.1
    rw[if_neg hz,if_neg hy]
    simp only
    rw[if_neg (by decide)]
def Xz (g3 g6 g8 g9 c2 c3 c4 c5 c6:Int):Int:=c3+(if c2=2 then K4 g3 g6 g8 g9 1 g3 0 else K4 g3 g6 g8 g9 c4 c5 c6)
theorem Ud (g0 Z g2 g3 g4 g5 g6 g7 g8 g9 d0 d1 d2:Int) (hg:X3 g0 Z g2 g3 g4 g5 g6 g7 g8 g9) (hd:Xq d0 d1 d2):0≤K4 g3 g6 g8 g9 d0 d1 d2∧K4 g3 g6 g8 g9 d0 d1 d2≤26000:=by
  obtain⟨-,m2,m3⟩:=Uc _ _ _ _ _ _ _ _ _ _ _ _ _ hg hd
  have O:1≤g3∧g3≤60:=hg.1.1.2.2.1
  have a2:1≤g6∧g6≤60:=hg.1.1.2.2.2.2.2
  have a3:1≤g8∧g8≤300:=hg.2.2.1
  unfold K4
  generalize(if d2<g9 then (g9-d2) * (g3+g8+g6) else 0)=p at m2 m3 ⊢
  split
  · omega
  · split
    · omega
    · split <;> omega
theorem Jd (g0 Z g2 g3 g4 g5 g6 g7 g8 g9 c0 c1 c2 c3 c4 c5 c6:Int) (hg:X3 g0 Z g2 g3 g4 g5 g6 g7 g8 g9) (hc:Gw g0 c0 c1 c2 c3 c4 c5 c6):0≤Xz g3 g6 g8 g9 c2 c3 c4 c5 c6∧Xz g3 g6 g8 g9 c2 c3 c4 c5 c6≤26060:=by
  have O:1≤g3∧g3≤60:=hg.1.1.2.2.1
  have b1:=Ud _ _ _ _ _ _ _ _ _ _ 1 g3 0 hg (by unfold Xq;omega)
  have b2:=Ud _ _ _ _ _ _ _ _ _ _ _ _ _ hg hc.1.2.2
  have b3:0≤c3∧c3≤60:=by have:=hc.2;unfold Xf at this;omega
  unfold Xz
  split <;> omega
theorem Jy (g0 Z g2 g3 g4 g5 g6 g7 g8 g9 c0 c1 c2 c3 c4 c5 c6:Int) (f:Nat) (hf:10<f):car_Rest.f f g0 Z g2 g3 g4 g5 g6 g7 g8 g9 c0 c1 c2 c3 c4 c5 c6=some (if X3 g0 Z g2 g3 g4 g5 g6 g7 g8 g9∧Gw g0 c0 c1 c2 c3 c4 c5 c6 then (Xz g3 g6 g8 g9 c2 c3 c4 c5 c6,0) else (0,180)):=by
  unfold car_Rest.f
  rw[Lk _ _ _ _ _ _ _ _ _ _ _ _ _ _ _ _ _ f hf,N9 _ _ _ _ _ _ _ _ _ _ f hf]
  simp only[Option.bind_some,U9 _ _ _ _ _ _ _ _ _ _ _ _ _ f hf]
  by_cases h:X3 g0 Z g2 g3 g4 g5 g6 g7 g8 g9∧Gw g0 c0 c1 c2 c3 c4 c5 c6
  · rw[if_pos h,if_pos rfl,if_pos h]
    have hb:=Jd _ _ _ _ _ _ _ _ _ _ _ _ _ _ _ _ _ h.1 h.2
    have O:1≤g3∧g3≤60:=h.1.1.1.2.2.1
    unfold Xz at hb ⊢
    by_cases e:c2=2
    · have B:c4=0:=by have:=h.2.2;unfold Xf at this;omega
      have hd:Xq 1 g3 0:=by unfold Xq;omega
      have ht:Js Z g2 g3 g4 g5 g6 g7∧Xq c4 c5 c6:=⟨h.1.1,h.2.1.2.2⟩
      have hy:X3 g0 Z g2 g3 g4 g5 g6 g7 g8 g9∧Xq 1 g3 0:=⟨h.1,hd⟩
      rw[if_pos e] at hb
      simp only[if_pos e,if_pos ht,if_pos B,if_pos hy]
      rw[w64 (by omega)]
    · have hy:X3 g0 Z g2 g3 g4 g5 g6 g7 g8 g9∧Xq c4 c5 c6:=⟨h.1,h.2.1.2.2⟩
      rw[if_neg e] at hb
      simp only[if_neg e,if_pos hy]
      rw[w64 (by omega)]
  · rw[if_neg h,if_neg (by decide),if_neg h]
abbrev G3 (g0 Z g2 g3 g4 g5 g6 g7 g8 g9 c0 c1 c2 c3 c4 c5 c6 l7:Int):Prop:=(X3 g0 Z g2 g3 g4 g5 g6 g7 g8 g9∧Gw g0 c0 c1 c2 c3 c4 c5 c6) ∧ -1≤l7∧l7≤1
theorem M1 (g0 Z g2 g3 g4 g5 g6 g7 g8 g9 c0 c1 c2 c3 c4 c5 c6 l7:Int) (l8 l9:Bool) (f:Nat) (hf:10<f):group_lift.f f g0 Z g2 g3 g4 g5 g6 g7 g8 g9 c0 c1 c2 c3 c4 c5 c6 l7 l8 l9=some (decide (G3 g0 Z g2 g3 g4 g5 g6 g7 g8 g9 c0 c1 c2 c3 c4 c5 c6 l7)):=by
  unfold group_lift.f
  rw[Jy _ _ _ _ _ _ _ _ _ _ _ _ _ _ _ _ _ f hf]
  simp only[Option.bind_some]
  by_cases h:X3 g0 Z g2 g3 g4 g5 g6 g7 g8 g9∧Gw g0 c0 c1 c2 c3 c4 c5 c6
  · rw[if_pos h]
    simp only[if_true]
    by_cases e: -1≤l7
    · rw[if_pos e];congr 1;rw[decide_eq_decide];exact⟨fun x=>⟨h,e,x⟩,fun x=>x.2.2⟩
    · rw[if_neg e,decide_eq_false (fun x=>e x.2.1)]
  · rw[if_neg h,if_neg (by decide),decide_eq_false (fun x=>h x.1)]
end Go.Proofs.Ytmfffemidlhcpaa.GrpPure
namespace Go.Proofs.Ytmfffemidlhcpaa.C
open Go.RowKit Go.Proofs.YtmfffemidlhcpaaW.PrintWords Go.Proofs.YtmfffemidlhcpaaW.PrintLast Go.Proofs.YtmfffemidlhcpaaW.PrintMore
attribute [local go_sem] Zx Zv Z8 Z7 Zl Zk Zw Zu
set_option linter.unusedVariables false
set_option linter.unusedSimpArgs false
def group_cost.f (k:Nat) (J:Int) (B:Int) (L:Int) (O:Int) (X:Int) (δ :Int) (γ:Int) (θ :Int) (η :Int) (ζ :Int) (Z:Int) (Y:Int) (ε :Int) (κ :Int) (ι :Int) (μ :Int) (ν :Int) (χ :Int) (ψ :Bool) (a1:Bool) (τ :List Int) (a0:List Int) (a3:List Int) (a4:Int) (a5:Int) (a6:Int):Option (Int):=(car_Rest.f k J B L O X δ γ θ η ζ Z Y ε κ ι μ ν).bind fun a8=>((group_way.f k J Z Y ε κ ι μ ν χ ψ a1 a4 a5 a6).bind fun a7=>(some (wrap64 ((wrap64 (a8.1+(wrap64 (B * a7))))+(wrap64 ((wrap64 ((wrap64 ((wrap64 (L+O)) + η))+γ)) * (wrap64 ((wrap64 ((τ.length:Int)+(a0.length:Int)))+(a3.length:Int)))))))))
theorem group_cost.mono:∀ B O a2 a3 L a5 X a7 a8 a9 Y Z γ ε δ ζ η J θ ι κ μ ν ξ ρ σ k,LeO (group_cost.f k B O a2 a3 L a5 X a7 a8 a9 Y Z γ ε δ ζ η J θ ι κ μ ν ξ ρ σ) (group_cost.f (k+1) B O a2 a3 L a5 X a7 a8 a9 Y Z γ ε δ ζ η J θ ι κ μ ν ξ ρ σ):=by
 intro B O a2 a3 L a5 X a7 a8 a9 Y Z γ ε δ ζ η J θ ι κ μ ν ξ ρ σ k
 unfold group_cost.f
 repeat' first
   |(with_reducible exact car_Rest.mono _ _ _ _ _ _ _ _ _ _ _ _ _ _ _ _ _ _)
   |(with_reducible exact group_way.mono _ _ _ _ _ _ _ _ _ _ _ _ _ _ _)
   |(with_reducible exact LeO.refl _)
   |(with_reducible exact LeO.none _)
   |(with_reducible refine LeO.ite ?_ ?_)
   |(with_reducible refine LeO.bind ?_ (fun _=>?_))
   |exact car_Rest.mono _ _ _ _ _ _ _ _ _ _ _ _ _ _ _ _ _ _
   |exact group_way.mono _ _ _ _ _ _ _ _ _ _ _ _ _ _ _
   |exact LeO.none _
   |refine LeO.ite ?_ ?_
   |refine LeO.bind ?_ (fun _=>?_)
def group_cost.T3:Bool×List (List Nat×List Nat):=(true,[([],[]),([],[]),([1],[1]),([2],[2]),([],[]),([4],[4]),([],[]),([],[]),([5,6,7],[5,6,7]),([3,8],[3,8]),([0,9],[0,9]),([],[]),([],[]),([12],[12]),([13],[13]),([],[]),([15],[15]),([16],[16]),([14,17],[14,17]),([],[]),([19],[19]),([20],[20]),([18,21],[18,21]),([11,22],[11,22]),([10,23],[10,23]),([24,8,0,1,2,3,4,5,6,7,8,9,10,11,12,13,14,15,16,17,18,19,20,21,22,23,24],[24])])
def group_cost.B3:List Nat:=[0,0,2,6,0,16,0,0,240,510,1023,0,0,4096,12288,0,32768,98304,258048,0,524288,1572864,4190208,8386560,16777215,33554431]
theorem group_cost.tab3:rtab .any (opsOf Try.f31 3)=group_cost.T3:=by kernel_rfl
theorem group_cost.bits3:Zs group_cost.T3.2 group_cost.B3=true:=by kernel_rfl
set_option maxHeartbeats 8000000 in
set_option maxRecDepth 100000 in
theorem group_cost.calls (k:Nat) (J:Int) (B:Int) (L:Int) (O:Int) (X:Int) (δ :Int) (γ:Int) (θ :Int) (η :Int) (ζ :Int) (Z:Int) (Y:Int) (ε :Int) (κ :Int) (ι :Int) (μ :Int) (ν :Int) (χ :Int) (ψ :Bool) (a1:Bool) (aa:Option Addr) (ab:Nat) (τ :List Int) (ac:Option Addr) (af:Nat) (a0:List Int) (ae:Option Addr) (ag:Nat) (a3:List Int) (a4:Int) (a5:Int) (a6:Int) (r:Int) (w:World) (bd:Kd.C (Kd.int .i64) w aa τ.length τ) (be: τ.length≤ab) (br:Kd.C (Kd.int .i64) w ac a0.length a0) (bz:a0.length≤af) (de:Kd.C (Kd.int .i64) w ae a3.length a3) (dl:a3.length≤ag) (h:group_cost.f k J B L O X δ γ θ η ζ Z Y ε κ ι μ ν χ ψ a1 τ a0 a3 a4 a5 a6=some r):
  Calls Try.prog 31 #[.agg #[.int .i64 J,.int .i64 B,.int .i64 L,.int .i64 O,.int .i64 X,.int .i64 δ,.int .i64 γ,.int .i64 θ,.int .i64 η,.int .i64 ζ],.agg #[.int .i64 Z,.int .i64 Y,.int .i64 ε,.int .i64 κ,.int .i64 ι,.int .i64 μ,.int .i64 ν,.int .i64 χ,.bool ψ,.bool a1],.agg #[.slice aa τ.length ab,.slice ac a0.length af,.slice ae a3.length ag],.agg #[.int .i64 a4,.int .i64 a5,.int .i64 a6]] w fun e w'=>e = .returned (.int .i64 r)∧Below w.heap.size w w':=by
 have db:=Try.underlying25
 have fc:=Try.underlying31
 have dt:=Try.underlying34
 have d9:=Try.underlying36
 have fz:=Try.underlying29
 have df:=Aside0.mk bd
 have dj:=Aside0.mk be
 clear bd be
 have dk:=Aside0.mk br
 have dn:=Aside0.mk bz
 clear br bz
 have dp:=Aside0.mk de
 have dq:=Aside0.mk dl
 clear de dl
 have HB:=Aside0.mk (Below.refl w.heap.size w)
 have H:((car_Rest.f k J B L O X δ γ θ η ζ Z Y ε κ ι μ ν).bind fun a8=>((group_way.f k J Z Y ε κ ι μ ν χ ψ a1 a4 a5 a6).bind fun a7=>(some (wrap64 ((wrap64 (a8.1+(wrap64 (B * a7))))+(wrap64 ((wrap64 ((wrap64 ((wrap64 (L+O)) + η))+γ)) * (wrap64 ((wrap64 ((τ.length:Int)+(a0.length:Int)))+(a3.length:Int))))))))))=some r:=h
 clear h
 replace H:=Option.bind_eq_some_iff.mp H
 obtain⟨⟨b7,bb⟩,bm,H⟩:=H
 replace H:((group_way.f k J Z Y ε κ ι μ ν χ ψ a1 a4 a5 a6).bind fun a7=>(some (wrap64 ((wrap64 (b7+(wrap64 (B * a7))))+(wrap64 ((wrap64 ((wrap64 ((wrap64 (L+O)) + η))+γ)) * (wrap64 ((wrap64 ((τ.length:Int)+(a0.length:Int)))+(a3.length:Int)))))))))=some r:=H
 have A5:=Aside0.mk bm
 clear bm
 replace H:=Option.bind_eq_some_iff.mp H
 obtain⟨a7,ao,H⟩:=H
 replace H:(some (wrap64 ((wrap64 (b7+(wrap64 (B * a7))))+(wrap64 ((wrap64 ((wrap64 ((wrap64 (L+O)) + η))+γ)) * (wrap64 ((wrap64 ((τ.length:Int)+(a0.length:Int)))+(a3.length:Int))))))))=some r:=H
 have A6:=Aside0.mk ao
 clear ao
 obtain rfl:=Option.some.inj H
 go_enter Try.func31,Try.ntmps31
 try go_wp2_with (first|((with_reducible refine Qe (N:=4) rfl ?_);refine qE 4 #[.int .i64 J,.int .i64 B,.int .i64 L,.int .i64 O,.int .i64 X,.int .i64 δ,.int .i64 γ,.int .i64 θ,.int .i64 η,.int .i64 ζ] 25 ?_;intro ω hg w7 hbox hb;have ξ :=Aside0.mk hbox;have bc:=sGe hg;have bq:=sGe hg;replace HB:=sHb hb;clear hb hbox hg)|((with_reducible refine Qe (N:=5) rfl ?_);refine qE 5 #[.int .i64 Z,.int .i64 Y,.int .i64 ε,.int .i64 κ,.int .i64 ι,.int .i64 μ,.int .i64 ν,.int .i64 χ,.bool ψ,.bool a1] 31 ?_;intro a2 hg w8 hbox hb;have ρ:=Aside0.mk hbox;have ca:=sGe hg;have cd:=sGe hg;have ar:=sNl ξ hg;have aw:=sNg ξ hg;replace ξ :=sBk ξ hb;replace HB:=sHb hb;clear hb hbox hg)|((with_reducible refine Qe (N:=6) rfl ?_);refine qE 6 #[.slice aa τ.length ab,.slice ac a0.length af,.slice ae a3.length ag] 34 ?_;intro al hg w9 hbox hb;have σ:=Aside0.mk hbox;have cf:=sGe hg;have ck:=sGe hg;have ax:=sNl ξ hg;have ay:=sNg ξ hg;have b0:=sNl ρ hg;have b1:=sNg ρ hg;replace ξ :=sBk ξ hb;replace ρ:=sBk ρ hb;replace HB:=sHb hb;clear hb hbox hg)|((with_reducible refine Qe (N:=7) rfl ?_);refine qE 7 #[.int .i64 a4,.int .i64 a5,.int .i64 a6] 36 ?_;intro ap hg ig hbox hb;have φ :=Aside0.mk hbox;have cm:=sGe hg;have cn:=sGe hg;have b2:=sNl ξ hg;have b3:=sNg ξ hg;have b5:=sNl ρ hg;have b6:=sNg ρ hg;have b8:=sNl σ hg;have b9:=sNg σ hg;replace ξ :=sBk ξ hb;replace ρ:=sBk ρ hb;replace σ:=sBk σ hb;replace HB:=sHb hb;clear hb hbox hg;have dm:=ar.out;have fk:=aw.out;have gb:=ax.out;have ge:=ay.out;have j2:=b2.out;have j3:=b3.out;obtain⟨cg,ch,cx,cy,cz,d0,d1,dc,ff,fg,ci,cj,d2,d3,d4,d5,d6,dd,fh,fi⟩:=Za ξ.out;have gf:=b0.out;have gg:=b1.out;have e0:=b5.out;have e7:=b6.out;obtain⟨ah,ai,ba,bs,bu,bv,bw,cb,cr,ct,aj,ak,bf,cu,cv,cw,d7,d8,da,dh⟩:=Za ρ.out)|((with_reducible refine Ql (f:=25) rfl ?_);refine Q2 (some 16) rfl rfl Try.func25 kr rfl #[.agg #[.int .i64 J,.int .i64 B,.int .i64 L,.int .i64 O,.int .i64 X,.int .i64 δ,.int .i64 γ,.int .i64 θ,.int .i64 η,.int .i64 ζ],.agg #[.int .i64 Z,.int .i64 Y,.int .i64 ε,.int .i64 κ,.int .i64 ι,.int .i64 μ,.int .i64 ν]] rfl qM ?_;(with_reducible refine(car_Rest.calls k J B L O X δ γ θ η ζ Z Y ε κ ι μ ν b7 bb _ A5.out).mono ?_);rintro e h7 ⟨rfl,hb⟩;refine⟨_,rfl, ?_⟩;replace ξ :=sBk ξ hb;replace ρ:=sBk ρ hb;replace σ:=sBk σ hb;replace φ :=sBk φ hb;replace HB:=sHb hb;(try clear hb);(try clear a9);(try clear hk);(try clear hi);obtain⟨am,an,az,bh,bi,bj,bk,ce,di,ec,au,av,b4,bl,bn,bo,bp,ed,ee,ef⟩:=Za ξ.out))
 replace ξ :=Aside0.mk (Qd ξ.out)
 replace ρ:=Aside0.mk (Qd ρ.out)
 replace σ:=Aside0.mk (Qd σ.out)
 replace φ :=Aside0.mk (Qd φ.out)
 replace HB:=Aside0.mk (Qf HB.out)
 refine Zn (n:=26) (S:=fun w'=>w'.cell? ⟨ω,0,none⟩=some (.int .i64 J)∧w'.cell? ⟨ω,1,none⟩=some (.int .i64 B)∧w'.cell? ⟨ω,2,none⟩=some (.int .i64 L)∧w'.cell? ⟨ω,3,none⟩=some (.int .i64 O)∧w'.cell? ⟨ω,4,none⟩=some (.int .i64 X)∧w'.cell? ⟨ω,5,none⟩=some (.int .i64 δ)∧w'.cell? ⟨ω,6,none⟩=some (.int .i64 γ)∧w'.cell? ⟨ω,7,none⟩=some (.int .i64 θ)∧w'.cell? ⟨ω,8,none⟩=some (.int .i64 η)∧w'.cell? ⟨ω,9,none⟩=some (.int .i64 ζ)∧w'.cell? ⟨a2,0,none⟩=some (.int .i64 Z)∧w'.cell? ⟨a2,1,none⟩=some (.int .i64 Y)∧w'.cell? ⟨a2,2,none⟩=some (.int .i64 ε)∧w'.cell? ⟨a2,3,none⟩=some (.int .i64 κ)∧w'.cell? ⟨a2,4,none⟩=some (.int .i64 ι)∧w'.cell? ⟨a2,5,none⟩=some (.int .i64 μ)∧w'.cell? ⟨a2,6,none⟩=some (.int .i64 ν)∧w'.cell? ⟨a2,7,none⟩=some (.int .i64 χ)∧w'.cell? ⟨a2,8,none⟩=some (.bool ψ)∧w'.cell? ⟨a2,9,none⟩=some (.bool a1)∧w'.cell? ⟨ap,0,none⟩=some (.int .i64 a4)∧w'.cell? ⟨ap,1,none⟩=some (.int .i64 a5)∧w'.cell? ⟨ap,2,none⟩=some (.int .i64 a6)∧w'.cell? ⟨al,0,none⟩=some (.slice aa τ.length ab)∧w'.cell? ⟨al,1,none⟩=some (.slice ac a0.length af)∧w'.cell? ⟨al,2,none⟩=some (.slice ae a3.length ag)) (ds:=[]) #[false,false,false,false,false,false,false,false,false,false,false,false,false,false,false,false,false,false,false,false,false,false,false,false,false,false] kr rfl rfl ⟨(Qa ξ.out 0).trans rfl,(Qa ξ.out 1).trans rfl,(Qa ξ.out 2).trans rfl,(Qa ξ.out 3).trans rfl,(Qa ξ.out 4).trans rfl,(Qa ξ.out 5).trans rfl,(Qa ξ.out 6).trans rfl,(Qa ξ.out 7).trans rfl,(Qa ξ.out 8).trans rfl,(Qa ξ.out 9).trans rfl,(Qa ρ.out 0).trans rfl,(Qa ρ.out 1).trans rfl,(Qa ρ.out 2).trans rfl,(Qa ρ.out 3).trans rfl,(Qa ρ.out 4).trans rfl,(Qa ρ.out 5).trans rfl,(Qa ρ.out 6).trans rfl,(Qa ρ.out 7).trans rfl,(Qa ρ.out 8).trans rfl,(Qa ρ.out 9).trans rfl,(Qa φ.out 0).trans rfl,(Qa φ.out 1).trans rfl,(Qa φ.out 2).trans rfl,(Qa σ.out 0).trans rfl,(Qa σ.out 1).trans rfl,(Qa σ.out 2).trans rfl⟩ (fun hHeld=>?_);refine Q8 group_cost.tab3 group_cost.bits3 (fun HT_ HW_=>?_)
 generalize h7.drew=dv at ξ ρ σ φ HB hHeld ⊢
 refine qP 0 (some 33) (bN 26 1) HT_ ?_
 refine qP 1 (some 34) (bN 26 3) HT_ ?_
 refine qP 2 (some 35) (bN 26 7) HT_ ?_
 refine qP 4 (some 37) (bN 26 23) HT_ ?_
 refine qP 11 (some 44) (bN 26 2071) HT_ ?_
 refine qP 12 (some 45) (bN 26 6167) HT_ ?_
 refine qP 15 (some 48) (bN 26 38935) HT_ ?_
 refine qP 19 (some 52) (bN 26 563223) HT_ ?_
 refine qT 3 (some 36) (bN 26 563231) HT_ HW_ hHeld ?_
 refine qT 5 (some 38) (bN 26 563263) HT_ HW_ hHeld ?_
 refine qT 6 (some 39) (bN 26 563327) HT_ HW_ hHeld ?_
 refine qT 7 (some 40) (bN 26 563455) HT_ HW_ hHeld ?_
 refine qT 13 (some 46) (bN 26 571647) HT_ HW_ hHeld ?_
 refine qP 14 (some 47) (bN 26 588031) HT_ ?_
 refine qT 16 (some 49) (bN 26 653567) HT_ HW_ hHeld ?_
 refine qP 17 (some 50) (bN 26 784639) HT_ ?_
 refine qP 18 (some 51) (bN 26 1046783) HT_ ?_
 refine qT 20 (some 53) (bN 26 2095359) HT_ HW_ hHeld ?_
 refine qP 21 (some 54) (bN 26 4192511) HT_ ?_
 refine qP 22 (some 55) (bN 26 8386815) HT_ ?_
 refine qP 23 (some 56) (bN 26 16775423) HT_ ?_
 refine Ze (i:=8) (N:=some 41) (bN 26 16775679) rfl rfl (Q5 HT_.out kr) (by decide) (fun K hK=>?_)
 refine Zd Try.func52 kr rfl #[.int .i64 J,.agg #[.int .i64 Z,.int .i64 Y,.int .i64 ε,.int .i64 κ,.int .i64 ι,.int .i64 μ,.int .i64 ν,.int .i64 χ,.bool ψ,.bool a1],.agg #[.int .i64 a4,.int .i64 a5,.int .i64 a6]] (by rfl) rfl rfl qM ?_
 with_reducible refine(group_way.calls k J Z Y ε κ ι μ ν χ ψ a1 a4 a5 a6 a7 _ A6.out).mono ?_
 rintro e bg ⟨rfl,hb⟩
 refine⟨_,rfl, ?_⟩
 replace ξ :=sBk ξ hb
 replace ρ:=sBk ρ hb
 replace σ:=sBk σ hb
 replace φ :=sBk φ hb
 replace HB:=sHb hb
 (try clear hb)
 (try clear a9)
 (try clear hk)
 (try clear hi)
 refine hK.out _ _ ⟨qc ξ,qc ξ,qc ξ,qc ξ,qc ξ,qc ξ,qc ξ,qc ξ,qc ξ,qc ξ,qc ρ,qc ρ,qc ρ,qc ρ,qc ρ,qc ρ,qc ρ,qc ρ,qc ρ,qc ρ,qc φ,qc φ,qc φ,qc σ,qc σ,qc σ⟩ (fun hHeld=>?_)
 clear hK K
 refine qN (some 41) ?_
 refine qP 9 (some 42) (bN 26 16776191) HT_ ?_
 refine qP 10 (some 43) (bN 26 16777215) HT_ ?_
 refine qP 24 (some 57) (bN 26 33554431) HT_ ?_
 refine qP 25 (some 8) (bN 26 67108863) HT_ ?_
 refine Z5 (Zm HT_.out kr) ?_
 try go_wp2
 go_ret
 exact⟨rfl,HB.out⟩
end Go.Proofs.Ytmfffemidlhcpaa.C
namespace Go.Proofs.Ytmfffemidlhcpaa.GrpPure
open Go.RowKit Go.Proofs.YtmfffemidlhcpaaW.PrintWords Go.Proofs.YtmfffemidlhcpaaW.PrintLast Go.Proofs.YtmfffemidlhcpaaW.PrintMore Go.Proofs.Ytmfffemidlhcpaa.C Go.Proofs.Ytmfffemidlhcpaa.DoorPure
def Xp (a b:Int):Int:=if a<b then b-a else a-b
theorem Y1 {a b:Int} (ha:0≤a∧a≤64) (hb:0≤b∧b≤64):group_dist.f a b=some (Xp a b):=by
  unfold group_dist.f Xp
  rw[w64 (n:=a-b) (by omega),w64 (n:=b-a) (by omega)]
  unfold mx
  congr 1
  split <;> split <;> omega
def J1 (F p d B J:Int):Int:=
  if d=0 then Xp p B else if d=1 then (if d=J then (if p≤B then Xp p B else Xp p (F-1)+Xp (F-1) 0+Xp 0 B) else Xp p (F-1)+Xp (F-1) B)
  else (if d=J then (if B≤p then Xp p B else Xp p 0+Xp 0 (F-1)+Xp (F-1) B) else Xp p 0+Xp 0 B)
theorem Ya {F a b:Int} (ha:0≤a∧a<F) (hb:0≤b∧b<F):0≤Xp a b∧Xp a b≤F-1:=by
  unfold Xp;split <;> omega
theorem N0 {F c0 c1 l7 B:Int} (J c2 c3 c4 c5 c6 Y:Int) (l8 l9:Bool) (f:Nat) (hf:2<f) (hF:2≤F∧F≤64) (hc:0≤c0∧c0<F) (hp:0≤c0+c1∧c0+c1<F) (hx:0≤B∧B<F) (hl: -1≤l7∧l7≤1):
    group_way.f f F c0 c1 c2 c3 c4 c5 c6 l7 l8 l9 B J Y=some (J1 F (c0+c1) l7 B J):=by
  obtain⟨f,rfl⟩:∃ m,f=m+2:=⟨f-2,by omega⟩
  unfold group_way.f
  rw[w64 (n:=c0+c1) (by omega),w64 (n:=F-1) (by omega)]
  simp only[group_way.j0]
  rw[w64 (n:=B - (c0+c1)) (by omega)]
  have hp':0≤c0+c1∧c0+c1≤64:=by omega
  have hx':0≤B∧B≤64:=by omega
  have hF':0≤F-1∧F-1≤64:=by omega
  have X:(0:Int)≤0∧(0:Int)≤64:=by omega
  have q1:=Ya hp hx
  have q2:=Ya hp (b:=F-1) (by omega)
  have O:=Ya hp (b:=0) (by omega)
  have q4:=Ya (F:=F) (a:=F-1) (b:=0) (by omega) (by omega)
  have q5:=Ya (F:=F) (a:=0) (b:=F-1) (by omega) (by omega)
  have Z:=Ya (F:=F) (a:=F-1) (b:=B) (by omega) hx
  have q7:=Ya (F:=F) (a:=0) (b:=B) (by omega) hx
  generalize hP:c0+c1=p at *
  have hd:l7=0∨l7=1∨l7 = -1:=by omega
  simp only[group_way.j1,Y1 hp' hx',Y1 hp' hF',Y1 hp' X,Y1 hF' X,Y1 X hF',Y1 hF' hx',Y1 X hx',Option.bind_some]
  unfold J1
  rcases hd with rfl|rfl|rfl
  · simp
  · have z1:¬ (1:Int)=0:=by decide
    have z2:(1:Int)>0:=by decide
    have L:(1:Int)=1:=rfl
    simp only[if_pos z2,if_neg z1,if_true]
    by_cases e:(1:Int)=J
    · simp only[if_pos e,Int.mul_one]
      rw[w64 (n:=B-p) (by omega)]
      by_cases h:p≤B
      · rw[if_pos h,decide_eq_true (by omega),if_pos rfl]
      · rw[if_neg h,decide_eq_false (by omega),if_neg (by decide),w64 (n:=Xp p (F-1)+Xp (F-1) 0) (by omega),w64 (by omega)]
    · simp only[if_neg e]
      rw[if_neg (by decide),w64 (by omega)]
  · have z1:¬ (-1:Int)=0:=by decide
    have z2:¬ (-1:Int)>0:=by decide
    have L:¬ (-1:Int)=1:=by decide
    simp only[if_neg z2,if_neg z1,if_neg L]
    by_cases e:(-1:Int)=J
    · simp only[if_pos e]
      rw[show(B-p) * (-1)=p-B by omega,w64 (n:=p-B) (by omega)]
      by_cases h:B≤p
      · rw[if_pos h,decide_eq_true (by omega),if_pos rfl]
      · rw[if_neg h,decide_eq_false (by omega),if_neg (by decide),w64 (n:=Xp p 0+Xp 0 (F-1)) (by omega),w64 (by omega)]
    · simp only[if_neg e]
      rw[if_neg (by decide),w64 (by omega)]
theorem Gx (F p d B J:Int) (hp:0≤p∧p<F) (hx:0≤B∧B<F):Xp p B≤J1 F p d B J∧J1 F p d B J≤3 * (F-1)∧(d=0→J1 F p d B J=Xp p B):=by
  refine⟨?_, ?_,fun h=>by unfold J1;rw[if_pos h]⟩
  · unfold J1 Xp
    repeat' split
    all_goals omega
  · unfold J1 Xp
    repeat' split
    all_goals omega
def Wg (g0 Z g2 g3 g6 g8 g9 c0 c1 c2 c3 c4 c5 c6 l7 n B J:Int):Int:=
  wrap64 (wrap64 (Xz g3 g6 g8 g9 c2 c3 c4 c5 c6+wrap64 (Z * J1 g0 (c0+c1) l7 B J))+wrap64 (wrap64 (wrap64 (wrap64 (g2+g3)+g8)+g6) * n))
theorem Wk {F c0 c1 c2 c3 c4 c5 c6:Int} (h:Gw F c0 c1 c2 c3 c4 c5 c6):(0≤c0+c1∧c0+c1<F)∧(c2≠1→c1=0):=by
  have h1:=h.1.2.1
  have L:=h.2
  unfold Xf at L
  omega
abbrev Kz (a b c:List Int):Int:=wrap64 (wrap64 ((a.length:Int)+(b.length:Int))+(c.length:Int))
theorem Nf {g0 Z g2 g3 g4 g5 g6 g7 g8 g9 c0 c1 c2 c3 c4 c5 c6 l7 B:Int} (J Y:Int) (l8 l9:Bool) (a b c:List Int) (f:Nat) (hf:10<f) (h:G3 g0 Z g2 g3 g4 g5 g6 g7 g8 g9 c0 c1 c2 c3 c4 c5 c6 l7) (hx:0≤B∧B<g0):
    group_cost.f f g0 Z g2 g3 g4 g5 g6 g7 g8 g9 c0 c1 c2 c3 c4 c5 c6 l7 l8 l9 a b c B J Y=some (Wg g0 Z g2 g3 g6 g8 g9 c0 c1 c2 c3 c4 c5 c6 l7 (Kz a b c) B J):=by
  unfold group_cost.f
  rw[Jy _ _ _ _ _ _ _ _ _ _ _ _ _ _ _ _ _ f hf,if_pos h.1,N0 J c2 c3 c4 c5 c6 Y l8 l9 f (by omega) h.1.1.2.1 h.1.2.1.2.1 (Wk h.1.2).1 hx h.2]
  rfl
end Go.Proofs.Ytmfffemidlhcpaa.GrpPure
