/- Texts of this claim, one behind the other: what the law's functions come to, walked (printed by a program, with the words that the print uses), and what that is, in plain Lean. No conditions of their own. -/
import Derived.Test.YtmfffemidlhcpaaQGroupBounds3
import Derived.Laws.EntriesVeiled
namespace Go.Proofs.Ytmfffemidlhcpaa.C
open Go.RowKit Go.Proofs.YtmfffemidlhcpaaW.PrintWords Go.Proofs.YtmfffemidlhcpaaW.PrintLast Go.Proofs.YtmfffemidlhcpaaW.PrintMore
def phV:Value:=.agg #[.int .i64 0,.func (.func 95) #[] #[],.int .i64 60,.func (.func 96) #[] #[],.int .i64 300,.func (.func 98) #[] #[],.int .i64 60,.func (.func 99) #[] #[]]
set_option maxHeartbeats 8000000 in
set_option maxRecDepth 100000 in
theorem door_phases.calls (w:World):Calls Try.prog 87 #[] w fun e w'=>e = .returned phV∧Below w.heap.size w w':=by
  have J:=Try.underlying131
  have B:=Try.underlying132
  have HB:=Aside0.mk (Below.refl w.heap.size w)
  go_enter Try.func87,Try.ntmps87
  go_wp2_with (first|((with_reducible refine Qr (N:=0) rfl ?_);refine Qq ?hg (N:=0) ?hd (cs:=#[.int .i64 0,.nilFunc,.int .i64 0,.nilFunc,.int .i64 0,.nilFunc,.int .i64 0,.nilFunc]) (t:=132) ?hr ?_;(case hd=>rfl);(case hg=>rfl);(case hr=>first|(go_simp;done)|(go_simp;rfl));intro gb hg w1 hbox hb;have L:=Aside0.mk (Qj HB.out hb);have BK:=Aside0.mk hbox;have GE:=Aside0.mk (by rw[hg];exact Nat.le_refl _:w.heap.size≤gb);clear HB hg hb hbox;have γ:=(Qk BK.out 0).trans rfl;have δ :=Qz BK.out 0;have dm:=(Qk BK.out 1).trans rfl;have ε :=Qz BK.out 1;have eb:=(Qk BK.out 2).trans rfl;have d3:=Qz BK.out 2;have ζ :=(Qk BK.out 3).trans rfl;have η :=Qz BK.out 3;have θ :=(Qk BK.out 4).trans rfl;have qb:=Qz BK.out 4;have ι :=(Qk BK.out 5).trans rfl;have qd:=Qz BK.out 5;have κ :=(Qk BK.out 6).trans rfl;have μ :=Qz BK.out 6;have ν :=(Qk BK.out 7).trans rfl;have ξ :=Qz BK.out 7))
  have X:=X8 BK.out 0 (.int .i64 0)
  have b1:=X8 X 1 (.func (.func 95) #[] #[])
  have b2:=X8 b1 2 (.int .i64 60)
  have b3:=X8 b2 3 (.func (.func 96) #[] #[])
  have O:=X8 b3 4 (.int .i64 300)
  have Z:=X8 O 5 (.func (.func 98) #[] #[])
  have b6:=X8 Z 6 (.int .i64 60)
  have Y:=X8 b6 7 (.func (.func 99) #[] #[])
  simp only[List.setIfInBounds_toArray,List.set_cons_zero,List.set_cons_succ] at Y
  refine bodyPost_ret (v:=phV) ?_ rfl ⟨rfl, ?_⟩
  · refine results_cell_row (p:=0) (ty:=132) ?_ _ _ gb 132 _ (0,0) _ ?_ Y B ?_ ?_
    · rfl
    · rfl
    · rfl
    · kernel_rfl
  · with_reducible repeat(first|exact L.out|refine Qa ?_ GE.out)
section
variable {P : Program} {ops : Array Oper} {Q : Exit → Act → World → Prop}
end
theorem W4 (x y:Value) (w:World):Sem.run Try.prog (Instr.field 131 (.agg #[x,y]) 0) w = .ok x w:=by
  have J:=Try.underlying131
  have B:=Try.underlying3
  simp[Instr.field,run_underlying J,part,isAgg,asAgg,run_underlying B,Result.andThen]
def Z4 (d:Int):Int:=if d=0 then 0 else if d=1 then 60 else if d=2 then 300 else 60
def tickN (d:Int):Nat:=if d=0 then 95 else if d=1 then 96 else if d=2 then 98 else 99
theorem Wr {n lo hi:Int} (h:door_within.f n lo hi=some true):lo≤n∧n≤hi:=by
  unfold door_within.f at h
  split at h <;> simp at h <;> omega
theorem W3 (ev:Operand→Value) (o:Oper) (x y:Operand) (ho:o.op = .index 132 x y) (hx:ev x=phV) (hy:ev y = .int .i64 0) (w:World):
    Sem.run Try.prog (execOp ev o) w = .ok (.value (.agg #[.int .i64 0,.func (.func 95) #[] #[]])) w:=by
  have B:=Try.underlying132
  have hs:(Try.prog.info? 131).map (·.size)=some 2:=by kernel_rfl
  obtain⟨i,hi,hs⟩:=Option.map_eq_some_iff.mp hs
  unfold execOp
  rw[ho]
  simp only
  rw[hx,hy]
  unfold phV
  simp[Instr.index,asIntOf,run_underlying B,part,sizeOf,typeInfo,Result.andThen,hi,hs]
theorem W0 (ev:Operand→Value) (o:Oper) (x y:Operand) (ho:o.op = .index 132 x y) (hx:ev x=phV) (hy:ev y = .int .i64 1) (w:World):
    Sem.run Try.prog (execOp ev o) w = .ok (.value (.agg #[.int .i64 60,.func (.func 96) #[] #[]])) w:=by
  have B:=Try.underlying132
  have hs:(Try.prog.info? 131).map (·.size)=some 2:=by kernel_rfl
  obtain⟨i,hi,hs⟩:=Option.map_eq_some_iff.mp hs
  unfold execOp
  rw[ho]
  simp only
  rw[hx,hy]
  unfold phV
  simp[Instr.index,asIntOf,run_underlying B,part,sizeOf,typeInfo,Result.andThen,hi,hs]
theorem Wz (ev:Operand→Value) (o:Oper) (x y:Operand) (ho:o.op = .index 132 x y) (hx:ev x=phV) (hy:ev y = .int .i64 2) (w:World):
    Sem.run Try.prog (execOp ev o) w = .ok (.value (.agg #[.int .i64 300,.func (.func 98) #[] #[]])) w:=by
  have B:=Try.underlying132
  have hs:(Try.prog.info? 131).map (·.size)=some 2:=by kernel_rfl
  obtain⟨i,hi,hs⟩:=Option.map_eq_some_iff.mp hs
  unfold execOp
  rw[ho]
  simp only
  rw[hx,hy]
  unfold phV
  simp[Instr.index,asIntOf,run_underlying B,part,sizeOf,typeInfo,Result.andThen,hi,hs]
theorem Wy (ev:Operand→Value) (o:Oper) (x y:Operand) (ho:o.op = .index 132 x y) (hx:ev x=phV) (hy:ev y = .int .i64 3) (w:World):
    Sem.run Try.prog (execOp ev o) w = .ok (.value (.agg #[.int .i64 60,.func (.func 99) #[] #[]])) w:=by
  have B:=Try.underlying132
  have hs:(Try.prog.info? 131).map (·.size)=some 2:=by kernel_rfl
  obtain⟨i,hi,hs⟩:=Option.map_eq_some_iff.mp hs
  unfold execOp
  rw[ho]
  simp only
  rw[hx,hy]
  unfold phV
  simp[Instr.index,asIntOf,run_underlying B,part,sizeOf,typeInfo,Result.andThen,hi,hs]
theorem K5 {d:Int} {ev:Operand→Value} {o:Oper} {x y:Operand} (ho:o.op = .index 132 x y) (hx:ev x=phV) (hy:ev y = .int .i64 d) (O:0≤d) (Z:d≤3) (w:World):
    Sem.run Try.prog (execOp ev o) w = .ok (.value (.agg #[.int .i64 (Z4 d),.func (.func (tickN d)) #[] #[]])) w:=by
  have e:d=0∨d=1∨d=2∨d=3:=by omega
  rcases e with rfl|rfl|rfl|rfl
  · exact W3 ev o x y ho hx hy w
  · exact W0 ev o x y ho hx hy w
  · exact Wz ev o x y ho hx hy w
  · exact Wy ev o x y ho hx hy w
end Go.Proofs.Ytmfffemidlhcpaa.C
namespace Go.Proofs.Ytmfffemidlhcpaa.C
open Go.RowKit Go.Proofs.YtmfffemidlhcpaaW.PrintWords Go.Proofs.YtmfffemidlhcpaaW.PrintLast Go.Proofs.YtmfffemidlhcpaaW.PrintMore
attribute [local go_sem] Z1 Zz Z9 Z8 Zq Zp Z0 Zy
set_option linter.unusedVariables false
set_option linter.unusedSimpArgs false
def door_Check.f (J:Int) (B:Int) (Y:Int):Option (Int):=(door_within.f J 0 3).bind fun al=>(if al=true then ((door_on.f J B Y 0 0).bind fun κ =>((door_within.f B (mn (Z4 J) 1) (Z4 J)).bind fun ξ =>(if ξ = true then ((door_within.f Y 0 (mn (Z4 J) 60)).bind fun ν =>(if ν = true then (some 0) else (some 170))) else (some 170)))) else (some 170))
set_option maxHeartbeats 8000000 in
set_option maxRecDepth 100000 in
theorem door_Check.calls (J:Int) (B:Int) (Y:Int) (r:Int) (w:World) (h:door_Check.f J B Y=some r):
  Calls Try.prog 71 #[.agg #[.int .i64 J,.int .i64 B,.int .i64 Y]] w fun e w'=>e = .returned (.int .i64 r)∧Below w.heap.size w w':=by
 have f8:=Try.underlying27
 have HB:=Aside0.mk (Below.refl w.heap.size w)
 have H:((door_within.f J 0 3).bind fun al=>(if al=true then ((door_on.f J B Y 0 0).bind fun κ =>((door_within.f B (mn (Z4 J) 1) (Z4 J)).bind fun ξ =>(if ξ = true then ((door_within.f Y 0 (mn (Z4 J) 60)).bind fun ν =>(if ν = true then (some 0) else (some 170))) else (some 170)))) else (some 170)))=some r:=h
 clear h
 replace H:=Option.bind_eq_some_iff.mp H
 obtain⟨al,b7,H⟩:=H
 replace H:(if al=true then ((door_on.f J B Y 0 0).bind fun κ =>((door_within.f B (mn (Z4 J) 1) (Z4 J)).bind fun ξ =>(if ξ = true then ((door_within.f Y 0 (mn (Z4 J) 60)).bind fun ν =>(if ν = true then (some 0) else (some 170))) else (some 170)))) else (some 170))=some r:=H
 have A2:=Aside0.mk b7
 clear b7
 by_cases c3:al=true
 ·subst c3
  have hph_:=Wr A2.out
  have ρ:=W4
  have H1:((door_on.f J B Y 0 0).bind fun κ =>((door_within.f B (mn (Z4 J) 1) (Z4 J)).bind fun ξ =>(if ξ = true then ((door_within.f Y 0 (mn (Z4 J) 60)).bind fun ν =>(if ν = true then (some 0) else (some 170))) else (some 170))))=some r:=by rw[if_pos rfl] at H;exact H
  clear H
  have H:=H1
  clear H1
  replace H:=Option.bind_eq_some_iff.mp H
  obtain⟨⟨χ,a1,Z⟩,br,H⟩:=H
  replace H:((door_within.f B (mn (Z4 J) 1) (Z4 J)).bind fun ξ =>(if ξ = true then ((door_within.f Y 0 (mn (Z4 J) 60)).bind fun ν =>(if ν = true then (some 0) else (some 170))) else (some 170)))=some r:=H
  have A4:=Aside0.mk br
  clear br
  obtain⟨ζ,γ⟩:∃ j_:Int,(mn (Z4 J) 1)=j_:=⟨_,rfl⟩
  replace H:((door_within.f B (ζ) (Z4 J)).bind fun ξ =>(if ξ = true then ((door_within.f Y 0 (mn (Z4 J) 60)).bind fun ν =>(if ν = true then (some 0) else (some 170))) else (some 170)))=some r:=by first|(rw[γ] at H;exact H)|(simp only[γ] at H ⊢;exact H)
  (try rw[γ] at A2)
  (try rw[γ] at A4)
  (try(have hji5h: ζ ≤ 1:=by(rw[← γ];unfold mn;(repeat' split) <;> omega)))
  (try(have hji5g: ζ ≤ 64:=by omega))
  have τ :(if 1<(Z4 J) then 1 else (Z4 J)) = ζ :=γ
  replace H:=Option.bind_eq_some_iff.mp H
  obtain⟨ξ,bc,H⟩:=H
  replace H:(if ξ = true then ((door_within.f Y 0 (mn (Z4 J) 60)).bind fun ν =>(if ν = true then (some 0) else (some 170))) else (some 170))=some r:=H
  have A6:=Aside0.mk bc
  clear bc
  by_cases c7: ξ = true
  ·subst c7
   have H1:((door_within.f Y 0 (mn (Z4 J) 60)).bind fun ν =>(if ν = true then (some 0) else (some 170)))=some r:=by rw[if_pos rfl] at H;exact H
   clear H
   have H:=H1
   clear H1
   obtain⟨ι,ε⟩:∃ j_:Int,(mn (Z4 J) 60)=j_:=⟨_,rfl⟩
   replace H:((door_within.f Y 0 (ι)).bind fun ν =>(if ν = true then (some 0) else (some 170)))=some r:=by first|(rw[ε] at H;exact H)|(simp only[ε] at H ⊢;exact H)
   (try rw[ε] at A2)
   (try rw[ε] at A4)
   (try rw[ε] at A6)
   (try(have hji8h: ι ≤ 60:=by(rw[← ε];unfold mn;(repeat' split) <;> omega)))
   (try(have hji8g: ι ≤ 64:=by omega))
   have φ :(if 60<(Z4 J) then 60 else (Z4 J)) = ι := ε
   replace H:=Option.bind_eq_some_iff.mp H
   obtain⟨ν,cn,H⟩:=H
   replace H:(if ν = true then (some 0) else (some 170))=some r:=H
   have A9:=Aside0.mk cn
   clear cn
   by_cases c10: ν = true
   ·subst c10
    have H1:(some 0)=some r:=by rw[if_pos rfl] at H;exact H
    clear H
    have H:=H1
    clear H1
    obtain rfl:=Option.some.inj H
    go_enter Try.func71,Try.ntmps71
    try go_wp2_with (first|((with_reducible refine Qr (N:=1) rfl ?_);(try(refine Z5 (by rfl) ?_;dsimp only));refine Qq ?hg (N:=1) ?hd (cs:=#[.int .i64 J,.int .i64 B,.int .i64 Y]) (t:=27) ?hr ?_;(case hd=>rfl);(case hg=>rfl);(case hr=>first|(go_simp;done)|(go_simp;rfl));intro θ hg em hbox hb;have L:=Aside0.mk (Qj (by repeat(first|(with_reducible first|exact HB.out|apply Qg|apply Qd|apply Qf)|exact HB.out)) hb);have O:=Aside0.mk (hbox);have X:=Aside0.mk ((by rw[hg];exact(Qi (by repeat(first|(with_reducible first|exact HB.out|apply Qg|apply Qd|apply Qf)|exact HB.out))):w.heap.size ≤ θ));have δ :=Aside0.mk ((by rw[hg];exact(Qi (by repeat(first|(with_reducible first|exact HB.out|apply Qg|apply Qd|apply Qf)|exact HB.out))):w.heap.size ≤ θ));clear HB;have HB:=L;have η :=O;have σ:=X;have μ := δ;clear L O X δ;clear hb hbox hg;obtain⟨ac,ae,aj,af,ah,an⟩:=qD3 η.out)|((with_reducible refine Qt (f:=86) rfl ?_);refine Q7 (some 6) rfl rfl Try.func86 kr rfl #[.int .i64 J,.int .i64 0,.int .i64 3] rfl (by(try simp only[List.map_toArray,List.map_cons,List.map_nil]);first|done|rfl|(simp only[List.length_drop,List.length_take];rfl)) ?_;(with_reducible refine(door_within.calls J 0 3 true _ A2.out).mono ?_);rintro e w' ⟨rfl,⟨nd,rfl⟩⟩;refine⟨_,rfl, ?_⟩))
    (try(rw[Yi em];generalize hq_:World.drewN em _=em;have L:Aside0 (em.heap[θ]?=some (.cells #[.int .i64 J,.int .i64 B,.int .i64 Y] 27 (0,0))):=⟨by rw[← hq_];exact(by(with_reducible repeat first|apply Qb|apply Qe|apply Qc);exact η.out)⟩;have O:Aside0 (Below w.heap.size w em):=⟨by rw[← hq_];exact(by repeat(first|(with_reducible first|exact HB.out|apply Qg|apply Qd|apply Qf|refine Qa ?_ μ.out)|exact HB.out))⟩;clear η HB hq_;have η :=L;have HB:=O;clear L O))
    (try(have bb:em.cell? ⟨θ,0,none⟩=some (.int .i64 J):=(Qk η.out 0).trans rfl))
    (try(have ci:em.cell? ⟨θ,1,none⟩=some (.int .i64 B):=(Qk η.out 1).trans rfl))
    (try(have aa:em.cell? ⟨θ,2,none⟩=some (.int .i64 Y):=(Qk η.out 2).trans rfl))
    (try(have bg:=Qz η.out 0))
    (try(have co:=Qz η.out 1))
    (try(have ab:=Qz η.out 2))
    have L:=Aside0.mk (Qe η.out)
    have O:=Aside0.mk (Qf HB.out)
    clear η
    clear HB
    have η :=L
    have HB:=O
    clear L O
    refine Zv (n:=6) (S:=fun w'=>w'.cell? ⟨θ,0,none⟩=some (.int .i64 J)∧w'.cell? ⟨θ,1,none⟩=some (.int .i64 B)∧w'.cell? ⟨θ,2,none⟩=some (.int .i64 Y)) (ds:=[]) #[false,false,false,false,false,false] kr rfl rfl ⟨(Qk η.out 0).trans rfl,(Qk η.out 1).trans rfl,(Qk η.out 2).trans rfl⟩ (fun hHeld=>?_)
    generalize em.drew=cf at η HB hHeld ⊢
    refine X0 (i:=1) (N:=some 9) (v:=?_) (a':=?_) #[false,true,false,false,false,false] rfl rfl kr (fun _ _ _ h=>h) (Or.inl ⟨by rfl, ?_⟩) ?_ ?_
    rotate_left
    ·intro w'
     go_simp
     with_reducible rfl
    rotate_left
    ·simp only[Act.put,qS,Zi,Zt]
     rfl
    refine Y8 (i:=2) (N:=some 10) (v:=?_) (a':=?_) #[false,true,true,false,false,false] rfl rfl kr (fun _ _ _ h=>h) (Or.inl ⟨by rfl, ?_⟩) hHeld ?_ ?_
    rotate_left
    ·rintro w' ⟨s0,s1,s2⟩
     go_simp
     with_reducible rfl
    rotate_left
    ·simp only[Act.put,qS,Zi,Zt]
     rfl
    refine Zn (i:=0) (N:=some 8) #[true,true,true,false,false,false] rfl rfl kr (by decide) (fun K hK=>?_)
    refine Zm Try.func87 kr rfl #[] (by rfl) rfl rfl (by(try simp only[List.map_toArray,List.map_cons,List.map_nil]);first|done|rfl|(simp only[List.length_drop,List.length_take];rfl)) ?_
    with_reducible refine(door_phases.calls _).mono ?_
    rintro e gf ⟨rfl,hb⟩
    refine⟨_,rfl, ?_⟩
    have L:=Aside0.mk (Qh (g:= θ) (o:=.cells #[.int .i64 J,.int .i64 B,.int .i64 Y] 27 (0,0)) (by(with_reducible repeat first|apply Qb|apply Qe|apply Qc);exact η.out) hb)
    have O:=Aside0.mk (Qj (by repeat(first|(with_reducible first|exact HB.out|apply Qg|apply Qd|apply Qf|refine Qa ?_ μ.out)|exact HB.out)) hb)
    clear η
    clear HB
    have η :=L
    have HB:=O
    clear L O
    (try clear hb)
    (try clear ak)
    (try clear hk)
    (try clear hi)
    refine hK.out _ _ ⟨qc η,qc η,qc η⟩ (fun hHeld=>?_)
    clear hK K
    refine qN (some 8) ?_
    refine X0 (i:=3) (N:=some 11) (v:=?_) (a':=?_) #[true,true,true,true,false,false] rfl rfl kr (fun _ _ _ h=>h) (Or.inl ⟨by rfl, ?_⟩) ?_ ?_
    rotate_left
    ·intro w'
     rw[K5 (d:=J) (x:=.tmp 8) (y:=.tmp 10)]
     all_goals first|exact hph_.1|exact hph_.2|rfl
    rotate_left
    ·simp only[Act.put,qS,Zi,Zt]
     rfl
    refine X0 (i:=4) (N:=some 12) (v:=?_) (a':=?_) #[true,true,true,true,true,false] rfl rfl kr (fun _ _ _ h=>h) (Or.inl ⟨by rfl, ?_⟩) ?_ ?_
    rotate_left
    ·intro w'
     go_simp
     with_reducible rfl
    rotate_left
    ·simp only[Act.put,qS,Zi,Zt]
     rfl
    refine X0 (i:=5) (N:=some 3) (v:=?_) (a':=?_) #[true,true,true,true,true,true] rfl rfl kr (fun _ _ _ h=>h) (Or.inl ⟨by rfl, ?_⟩) ?_ ?_
    rotate_left
    ·intro w'
     go_simp
     with_reducible rfl
    rotate_left
    ·simp only[Act.put,qS,Zi,Zt]
     rfl
    refine Xd kr ?_
    obtain⟨dy,dz,ag,e0,e3,ai⟩:=qD3 η.out
    try go_wp2_with (first|((with_reducible refine Qt (f:=86) rfl ?_);refine Q7 (some 18) rfl rfl Try.func86 kr rfl #[.int .i64 B,.int .i64 ζ,.int .i64 (Z4 J)] rfl (by(try simp only[List.map_toArray,List.map_cons,List.map_nil]);first|done|(simp only[γ];rfl)|rfl|(simp only[List.length_drop,List.length_take];rfl)) ?_;(with_reducible refine(door_within.calls B ζ (Z4 J) true _ A6.out).mono ?_);rintro e w' ⟨rfl,⟨nd,rfl⟩⟩;refine⟨_,rfl, ?_⟩)|(go_at_call 86;(with_reducible refine(door_within.calls Y 0 ι true _ A9.out).mono ?_);rintro e w' ⟨rfl,⟨nd,rfl⟩⟩))
    go_ret
    exact⟨by first|rfl|(simp[Qo,Qn] <;> rfl)|(simp only[← γ,← ε];first|rfl|(simp[Qo,Qn] <;> rfl))|(simp[*,Qo,Qn] <;> rfl),by repeat(first|(with_reducible first|exact HB.out|apply Qg|apply Qd|apply Qf|refine Qa ?_ μ.out)|exact HB.out)⟩
   ·replace c10:=Bool.eq_false_iff.mpr c10
    subst c10
    have H1:(some 170)=some r:=by rw[if_neg (show ¬ (false=true) by decide)] at H;exact H
    clear H
    have H:=H1
    clear H1
    obtain rfl:=Option.some.inj H
    go_enter Try.func71,Try.ntmps71
    try go_wp2_with (first|((with_reducible refine Qr (N:=1) rfl ?_);(try(refine Z5 (by rfl) ?_;dsimp only));refine Qq ?hg (N:=1) ?hd (cs:=#[.int .i64 J,.int .i64 B,.int .i64 Y]) (t:=27) ?hr ?_;(case hd=>rfl);(case hg=>rfl);(case hr=>first|(go_simp;done)|(go_simp;rfl));intro θ hg dv hbox hb;have L:=Aside0.mk (Qj (by repeat(first|(with_reducible first|exact HB.out|apply Qg|apply Qd|apply Qf)|exact HB.out)) hb);have O:=Aside0.mk (hbox);have X:=Aside0.mk ((by rw[hg];exact(Qi (by repeat(first|(with_reducible first|exact HB.out|apply Qg|apply Qd|apply Qf)|exact HB.out))):w.heap.size ≤ θ));have δ :=Aside0.mk ((by rw[hg];exact(Qi (by repeat(first|(with_reducible first|exact HB.out|apply Qg|apply Qd|apply Qf)|exact HB.out))):w.heap.size ≤ θ));clear HB;have HB:=L;have η :=O;have σ:=X;have μ := δ;clear L O X δ;clear hb hbox hg;obtain⟨cp,cq,dm,cr,ct,dp⟩:=qD3 η.out)|((with_reducible refine Qt (f:=86) rfl ?_);refine Q7 (some 6) rfl rfl Try.func86 kr rfl #[.int .i64 J,.int .i64 0,.int .i64 3] rfl (by(try simp only[List.map_toArray,List.map_cons,List.map_nil]);first|done|rfl|(simp only[List.length_drop,List.length_take];rfl)) ?_;(with_reducible refine(door_within.calls J 0 3 true _ A2.out).mono ?_);rintro e w' ⟨rfl,⟨nd,rfl⟩⟩;refine⟨_,rfl, ?_⟩))
    (try(rw[Yi dv];generalize hq_:World.drewN dv _=dv;have L:Aside0 (dv.heap[θ]?=some (.cells #[.int .i64 J,.int .i64 B,.int .i64 Y] 27 (0,0))):=⟨by rw[← hq_];exact(by(with_reducible repeat first|apply Qb|apply Qe|apply Qc);exact η.out)⟩;have O:Aside0 (Below w.heap.size w dv):=⟨by rw[← hq_];exact(by repeat(first|(with_reducible first|exact HB.out|apply Qg|apply Qd|apply Qf|refine Qa ?_ μ.out)|exact HB.out))⟩;clear η HB hq_;have η :=L;have HB:=O;clear L O))
    (try(have b1:dv.cell? ⟨θ,0,none⟩=some (.int .i64 J):=(Qk η.out 0).trans rfl))
    (try(have b2:dv.cell? ⟨θ,1,none⟩=some (.int .i64 B):=(Qk η.out 1).trans rfl))
    (try(have bd:dv.cell? ⟨θ,2,none⟩=some (.int .i64 Y):=(Qk η.out 2).trans rfl))
    (try(have b3:=Qz η.out 0))
    (try(have ba:=Qz η.out 1))
    (try(have be:=Qz η.out 2))
    have L:=Aside0.mk (Qe η.out)
    have O:=Aside0.mk (Qf HB.out)
    clear η
    clear HB
    have η :=L
    have HB:=O
    clear L O
    refine Zv (n:=6) (S:=fun w'=>w'.cell? ⟨θ,0,none⟩=some (.int .i64 J)∧w'.cell? ⟨θ,1,none⟩=some (.int .i64 B)∧w'.cell? ⟨θ,2,none⟩=some (.int .i64 Y)) (ds:=[]) #[false,false,false,false,false,false] kr rfl rfl ⟨(Qk η.out 0).trans rfl,(Qk η.out 1).trans rfl,(Qk η.out 2).trans rfl⟩ (fun hHeld=>?_)
    generalize dv.drew=dw at η HB hHeld ⊢
    refine X0 (i:=1) (N:=some 9) (v:=?_) (a':=?_) #[false,true,false,false,false,false] rfl rfl kr (fun _ _ _ h=>h) (Or.inl ⟨by rfl, ?_⟩) ?_ ?_
    rotate_left
    ·intro w'
     go_simp
     with_reducible rfl
    rotate_left
    ·simp only[Act.put,qS,Zi,Zt]
     rfl
    refine Y8 (i:=2) (N:=some 10) (v:=?_) (a':=?_) #[false,true,true,false,false,false] rfl rfl kr (fun _ _ _ h=>h) (Or.inl ⟨by rfl, ?_⟩) hHeld ?_ ?_
    rotate_left
    ·rintro w' ⟨s0,s1,s2⟩
     go_simp
     with_reducible rfl
    rotate_left
    ·simp only[Act.put,qS,Zi,Zt]
     rfl
    refine Zn (i:=0) (N:=some 8) #[true,true,true,false,false,false] rfl rfl kr (by decide) (fun K hK=>?_)
    refine Zm Try.func87 kr rfl #[] (by rfl) rfl rfl (by(try simp only[List.map_toArray,List.map_cons,List.map_nil]);first|done|rfl|(simp only[List.length_drop,List.length_take];rfl)) ?_
    with_reducible refine(door_phases.calls _).mono ?_
    rintro e bn ⟨rfl,hb⟩
    refine⟨_,rfl, ?_⟩
    have L:=Aside0.mk (Qh (g:= θ) (o:=.cells #[.int .i64 J,.int .i64 B,.int .i64 Y] 27 (0,0)) (by(with_reducible repeat first|apply Qb|apply Qe|apply Qc);exact η.out) hb)
    have O:=Aside0.mk (Qj (by repeat(first|(with_reducible first|exact HB.out|apply Qg|apply Qd|apply Qf|refine Qa ?_ μ.out)|exact HB.out)) hb)
    clear η
    clear HB
    have η :=L
    have HB:=O
    clear L O
    (try clear hb)
    (try clear ak)
    (try clear hk)
    (try clear hi)
    refine hK.out _ _ ⟨qc η,qc η,qc η⟩ (fun hHeld=>?_)
    clear hK K
    refine qN (some 8) ?_
    refine X0 (i:=3) (N:=some 11) (v:=?_) (a':=?_) #[true,true,true,true,false,false] rfl rfl kr (fun _ _ _ h=>h) (Or.inl ⟨by rfl, ?_⟩) ?_ ?_
    rotate_left
    ·intro w'
     rw[K5 (d:=J) (x:=.tmp 8) (y:=.tmp 10)]
     all_goals first|exact hph_.1|exact hph_.2|rfl
    rotate_left
    ·simp only[Act.put,qS,Zi,Zt]
     rfl
    refine X0 (i:=4) (N:=some 12) (v:=?_) (a':=?_) #[true,true,true,true,true,false] rfl rfl kr (fun _ _ _ h=>h) (Or.inl ⟨by rfl, ?_⟩) ?_ ?_
    rotate_left
    ·intro w'
     go_simp
     with_reducible rfl
    rotate_left
    ·simp only[Act.put,qS,Zi,Zt]
     rfl
    refine X0 (i:=5) (N:=some 3) (v:=?_) (a':=?_) #[true,true,true,true,true,true] rfl rfl kr (fun _ _ _ h=>h) (Or.inl ⟨by rfl, ?_⟩) ?_ ?_
    rotate_left
    ·intro w'
     go_simp
     with_reducible rfl
    rotate_left
    ·simp only[Act.put,qS,Zi,Zt]
     rfl
    refine Xd kr ?_
    obtain⟨cu,cv,e8,cw,cx,e9⟩:=qD3 η.out
    try go_wp2_with (first|((with_reducible refine Qt (f:=86) rfl ?_);refine Q7 (some 18) rfl rfl Try.func86 kr rfl #[.int .i64 B,.int .i64 ζ,.int .i64 (Z4 J)] rfl (by(try simp only[List.map_toArray,List.map_cons,List.map_nil]);first|done|(simp only[γ];rfl)|rfl|(simp only[List.length_drop,List.length_take];rfl)) ?_;(with_reducible refine(door_within.calls B ζ (Z4 J) true _ A6.out).mono ?_);rintro e w' ⟨rfl,⟨nd,rfl⟩⟩;refine⟨_,rfl, ?_⟩)|(go_at_call 86;(with_reducible refine(door_within.calls Y 0 ι false _ A9.out).mono ?_);rintro e w' ⟨rfl,⟨nd,rfl⟩⟩))
    go_ret
    exact⟨by first|rfl|(simp[Qo,Qn] <;> rfl)|(simp only[← γ,← ε];first|rfl|(simp[Qo,Qn] <;> rfl))|(simp[*,Qo,Qn] <;> rfl),by repeat(first|(with_reducible first|exact HB.out|apply Qg|apply Qd|apply Qf|refine Qa ?_ μ.out)|exact HB.out)⟩
  ·replace c7:=Bool.eq_false_iff.mpr c7
   subst c7
   have H1:(some 170)=some r:=by rw[if_neg (show ¬ (false=true) by decide)] at H;exact H
   clear H
   have H:=H1
   clear H1
   obtain rfl:=Option.some.inj H
   go_enter Try.func71,Try.ntmps71
   try go_wp2_with (first|((with_reducible refine Qr (N:=1) rfl ?_);(try(refine Z5 (by rfl) ?_;dsimp only));refine Qq ?hg (N:=1) ?hd (cs:=#[.int .i64 J,.int .i64 B,.int .i64 Y]) (t:=27) ?hr ?_;(case hd=>rfl);(case hg=>rfl);(case hr=>first|(go_simp;done)|(go_simp;rfl));intro θ hg bl hbox hb;have L:=Aside0.mk (Qj (by repeat(first|(with_reducible first|exact HB.out|apply Qg|apply Qd|apply Qf)|exact HB.out)) hb);have O:=Aside0.mk (hbox);have X:=Aside0.mk ((by rw[hg];exact(Qi (by repeat(first|(with_reducible first|exact HB.out|apply Qg|apply Qd|apply Qf)|exact HB.out))):w.heap.size ≤ θ));have δ :=Aside0.mk ((by rw[hg];exact(Qi (by repeat(first|(with_reducible first|exact HB.out|apply Qg|apply Qd|apply Qf)|exact HB.out))):w.heap.size ≤ θ));clear HB;have HB:=L;have η :=O;have σ:=X;have μ := δ;clear L O X δ;clear hb hbox hg;obtain⟨bo,bp,cj,bq,bs,ck⟩:=qD3 η.out)|((with_reducible refine Qt (f:=86) rfl ?_);refine Q7 (some 6) rfl rfl Try.func86 kr rfl #[.int .i64 J,.int .i64 0,.int .i64 3] rfl (by(try simp only[List.map_toArray,List.map_cons,List.map_nil]);first|done|rfl|(simp only[List.length_drop,List.length_take];rfl)) ?_;(with_reducible refine(door_within.calls J 0 3 true _ A2.out).mono ?_);rintro e w' ⟨rfl,⟨nd,rfl⟩⟩;refine⟨_,rfl, ?_⟩))
   (try(rw[Yi bl];generalize hq_:World.drewN bl _=bl;have L:Aside0 (bl.heap[θ]?=some (.cells #[.int .i64 J,.int .i64 B,.int .i64 Y] 27 (0,0))):=⟨by rw[← hq_];exact(by(with_reducible repeat first|apply Qb|apply Qe|apply Qc);exact η.out)⟩;have O:Aside0 (Below w.heap.size w bl):=⟨by rw[← hq_];exact(by repeat(first|(with_reducible first|exact HB.out|apply Qg|apply Qd|apply Qf|refine Qa ?_ μ.out)|exact HB.out))⟩;clear η HB hq_;have η :=L;have HB:=O;clear L O))
   (try(have en:bl.cell? ⟨θ,0,none⟩=some (.int .i64 J):=(Qk η.out 0).trans rfl))
   (try(have er:bl.cell? ⟨θ,1,none⟩=some (.int .i64 B):=(Qk η.out 1).trans rfl))
   (try(have b8:bl.cell? ⟨θ,2,none⟩=some (.int .i64 Y):=(Qk η.out 2).trans rfl))
   (try(have et:=Qz η.out 0))
   (try(have eu:=Qz η.out 1))
   (try(have b9:=Qz η.out 2))
   have L:=Aside0.mk (Qe η.out)
   have O:=Aside0.mk (Qf HB.out)
   clear η
   clear HB
   have η :=L
   have HB:=O
   clear L O
   refine Zv (n:=6) (S:=fun w'=>w'.cell? ⟨θ,0,none⟩=some (.int .i64 J)∧w'.cell? ⟨θ,1,none⟩=some (.int .i64 B)∧w'.cell? ⟨θ,2,none⟩=some (.int .i64 Y)) (ds:=[]) #[false,false,false,false,false,false] kr rfl rfl ⟨(Qk η.out 0).trans rfl,(Qk η.out 1).trans rfl,(Qk η.out 2).trans rfl⟩ (fun hHeld=>?_)
   generalize bl.drew=i2 at η HB hHeld ⊢
   refine X0 (i:=1) (N:=some 9) (v:=?_) (a':=?_) #[false,true,false,false,false,false] rfl rfl kr (fun _ _ _ h=>h) (Or.inl ⟨by rfl, ?_⟩) ?_ ?_
   rotate_left
   ·intro w'
    go_simp
    with_reducible rfl
   rotate_left
   ·simp only[Act.put,qS,Zi,Zt]
    rfl
   refine Y8 (i:=2) (N:=some 10) (v:=?_) (a':=?_) #[false,true,true,false,false,false] rfl rfl kr (fun _ _ _ h=>h) (Or.inl ⟨by rfl, ?_⟩) hHeld ?_ ?_
   rotate_left
   ·rintro w' ⟨s0,s1,s2⟩
    go_simp
    with_reducible rfl
   rotate_left
   ·simp only[Act.put,qS,Zi,Zt]
    rfl
   refine Zn (i:=0) (N:=some 8) #[true,true,true,false,false,false] rfl rfl kr (by decide) (fun K hK=>?_)
   refine Zm Try.func87 kr rfl #[] (by rfl) rfl rfl (by(try simp only[List.map_toArray,List.map_cons,List.map_nil]);first|done|rfl|(simp only[List.length_drop,List.length_take];rfl)) ?_
   with_reducible refine(door_phases.calls _).mono ?_
   rintro e dn ⟨rfl,hb⟩
   refine⟨_,rfl, ?_⟩
   have L:=Aside0.mk (Qh (g:= θ) (o:=.cells #[.int .i64 J,.int .i64 B,.int .i64 Y] 27 (0,0)) (by(with_reducible repeat first|apply Qb|apply Qe|apply Qc);exact η.out) hb)
   have O:=Aside0.mk (Qj (by repeat(first|(with_reducible first|exact HB.out|apply Qg|apply Qd|apply Qf|refine Qa ?_ μ.out)|exact HB.out)) hb)
   clear η
   clear HB
   have η :=L
   have HB:=O
   clear L O
   (try clear hb)
   (try clear ak)
   (try clear hk)
   (try clear hi)
   refine hK.out _ _ ⟨qc η,qc η,qc η⟩ (fun hHeld=>?_)
   clear hK K
   refine qN (some 8) ?_
   refine X0 (i:=3) (N:=some 11) (v:=?_) (a':=?_) #[true,true,true,true,false,false] rfl rfl kr (fun _ _ _ h=>h) (Or.inl ⟨by rfl, ?_⟩) ?_ ?_
   rotate_left
   ·intro w'
    rw[K5 (d:=J) (x:=.tmp 8) (y:=.tmp 10)]
    all_goals first|exact hph_.1|exact hph_.2|rfl
   rotate_left
   ·simp only[Act.put,qS,Zi,Zt]
    rfl
   refine X0 (i:=4) (N:=some 12) (v:=?_) (a':=?_) #[true,true,true,true,true,false] rfl rfl kr (fun _ _ _ h=>h) (Or.inl ⟨by rfl, ?_⟩) ?_ ?_
   rotate_left
   ·intro w'
    go_simp
    with_reducible rfl
   rotate_left
   ·simp only[Act.put,qS,Zi,Zt]
    rfl
   refine X0 (i:=5) (N:=some 3) (v:=?_) (a':=?_) #[true,true,true,true,true,true] rfl rfl kr (fun _ _ _ h=>h) (Or.inl ⟨by rfl, ?_⟩) ?_ ?_
   rotate_left
   ·intro w'
    go_simp
    with_reducible rfl
   rotate_left
   ·simp only[Act.put,qS,Zi,Zt]
    rfl
   refine Xd kr ?_
   obtain⟨cy,d8,ea,d2,el,eo⟩:=qD3 η.out
   try go_wp2_with (first|((with_reducible refine Qt (f:=86) rfl ?_);refine Q7 (some 18) rfl rfl Try.func86 kr rfl #[.int .i64 B,.int .i64 ζ,.int .i64 (Z4 J)] rfl (by(try simp only[List.map_toArray,List.map_cons,List.map_nil]);first|done|(simp only[γ];rfl)|rfl|(simp only[List.length_drop,List.length_take];rfl)) ?_;(with_reducible refine(door_within.calls B ζ (Z4 J) false _ A6.out).mono ?_);rintro e w' ⟨rfl,⟨nd,rfl⟩⟩;refine⟨_,rfl, ?_⟩))
   go_ret
   exact⟨by first|rfl|(simp[Qo,Qn] <;> rfl)|(simp only[← γ];first|rfl|(simp[Qo,Qn] <;> rfl))|(simp[*,Qo,Qn] <;> rfl),by repeat(first|(with_reducible first|exact HB.out|apply Qg|apply Qd|apply Qf|refine Qa ?_ μ.out)|exact HB.out)⟩
 ·replace c3:=Bool.eq_false_iff.mpr c3
  subst c3
  have H1:(some 170)=some r:=by rw[if_neg (show ¬ (false=true) by decide)] at H;exact H
  clear H
  have H:=H1
  clear H1
  obtain rfl:=Option.some.inj H
  go_enter Try.func71,Try.ntmps71
  go_wp2_with (first|((with_reducible refine Qr (N:=1) rfl ?_);(try(refine Z5 (by rfl) ?_;dsimp only));refine Qq ?hg (N:=1) ?hd (cs:=#[.int .i64 J,.int .i64 B,.int .i64 Y]) (t:=27) ?hr ?_;(case hd=>rfl);(case hg=>rfl);(case hr=>first|(go_simp;done)|(go_simp;rfl));intro θ hg d9 hbox hb;have L:=Aside0.mk (Qj (by repeat(first|(with_reducible first|exact HB.out|apply Qg|apply Qd|apply Qf)|exact HB.out)) hb);have O:=Aside0.mk (hbox);have X:=Aside0.mk ((by rw[hg];exact(Qi (by repeat(first|(with_reducible first|exact HB.out|apply Qg|apply Qd|apply Qf)|exact HB.out))):w.heap.size ≤ θ));have δ :=Aside0.mk ((by rw[hg];exact(Qi (by repeat(first|(with_reducible first|exact HB.out|apply Qg|apply Qd|apply Qf)|exact HB.out))):w.heap.size ≤ θ));clear HB;have HB:=L;have η :=O;have σ:=X;have μ := δ;clear L O X δ;clear hb hbox hg;obtain⟨bf,bi,e4,bu,dh,e5⟩:=qD3 η.out)|((with_reducible refine Qt (f:=86) rfl ?_);refine Q7 (some 6) rfl rfl Try.func86 kr rfl #[.int .i64 J,.int .i64 0,.int .i64 3] rfl (by(try simp only[List.map_toArray,List.map_cons,List.map_nil]);first|done|rfl|(simp only[List.length_drop,List.length_take];rfl)) ?_;(with_reducible refine(door_within.calls J 0 3 false _ A2.out).mono ?_);rintro e w' ⟨rfl,⟨nd,rfl⟩⟩;refine⟨_,rfl, ?_⟩))
  go_ret
  exact⟨by first|rfl|(simp[Qo,Qn] <;> rfl)|(simp[*,Qo,Qn] <;> rfl),by repeat(first|(with_reducible first|exact HB.out|apply Qg|apply Qd|apply Qf|refine Qa ?_ μ.out)|exact HB.out)⟩
def door_Rest.j0:Nat→Bool→Int→Int→Int→Int→Int→Int→Int→Int→Int→Int→Int→Int→Int→Option (Int×Int)
 |0,_,_,_,_,_,_,_,_,_,_,_,_,_,_=>none
 |k+1,ι,γ,δ,ε,L,ζ,η,B,θ,J,O,X,Y,Z=>if ι = true then (some (0,170)) else (if X=0 then (some (0,0)) else (if X=1 then (some (wrap64 ((wrap64 (Y+(wrap64 (J+B))))+(wrap64 ((mx (wrap64 (O-Z)) 0) * (wrap64 ((wrap64 (L+J))+B))))),0)) else (if X=2 then (some (wrap64 ((wrap64 (Y+B))+(wrap64 ((mx (wrap64 (O-Z)) 0) * (wrap64 ((wrap64 (L+J))+B))))),0)) else (some (wrap64 (Y+(wrap64 ((mx (wrap64 (O-Z)) 0) * (wrap64 ((wrap64 (L+J))+B))))),0)))))
def door_Rest.f (k:Nat) (J:Int) (B:Int) (Y:Int) (Z:Int) (γ:Int) (ζ :Int) (ε :Int) (κ :Int) (ι :Int) (θ :Int) (μ :Int) (η :Int) (ν :Int):Option (Int×Int):=(door_gear.f k J B Y Z γ ζ ε κ ι θ).bind fun a6=>(if a6=true then ((door_Check.f μ η ν).bind fun a2=>(door_Rest.j0 k (a2 != 0) J B Y Z γ ζ ε κ ι θ μ η ν)) else (door_Rest.j0 k true J B Y Z γ ζ ε κ ι θ μ η ν))
theorem door_Rest.Zs:∀ k,(∀ O Y L J X Z y6 y7 y8 y9 γ ε ζ η,LeO (door_Rest.j0 k O Y L J X Z y6 y7 y8 y9 γ ε ζ η) (door_Rest.j0 (k+1) O Y L J X Z y6 y7 y8 y9 γ ε ζ η))
 |0=>fun _ _ _ _ _ _ _ _ _ _ _ _ _ _ r h=>by simp[door_Rest.j0] at h
 |k+1=>by
  have B:=door_Rest.Zs k
  ·intro O Y L J X Z y6 y7 y8 y9 γ ε ζ η
   unfold door_Rest.j0
   repeat' first
   |(with_reducible exact B _ _ _ _ _ _ _ _ _ _ _ _ _ _)
   |(with_reducible exact door_gear.mono _ _ _ _ _ _ _ _ _ _ _)
   |(with_reducible exact LeO.refl _)
   |(with_reducible exact LeO.none _)
   |(with_reducible refine LeO.ite ?_ ?_)
   |(with_reducible refine LeO.bind ?_ (fun _=>?_))
   |exact B _ _ _ _ _ _ _ _ _ _ _ _ _ _
   |exact door_gear.mono _ _ _ _ _ _ _ _ _ _ _
   |exact LeO.none _
   |refine LeO.ite ?_ ?_
   |refine LeO.bind ?_ (fun _=>?_)
theorem door_Rest.mono:∀ J Z a2 a3 L a5 O a7 a8 a9 X Y γ k,LeO (door_Rest.f k J Z a2 a3 L a5 O a7 a8 a9 X Y γ) (door_Rest.f (k+1) J Z a2 a3 L a5 O a7 a8 a9 X Y γ):=by
 intro J Z a2 a3 L a5 O a7 a8 a9 X Y γ k
 have B:=door_Rest.Zs k
 unfold door_Rest.f
 repeat' first
   |(with_reducible exact B _ _ _ _ _ _ _ _ _ _ _ _ _ _)
   |(with_reducible exact door_gear.mono _ _ _ _ _ _ _ _ _ _ _)
   |(with_reducible exact LeO.refl _)
   |(with_reducible exact LeO.none _)
   |(with_reducible refine LeO.ite ?_ ?_)
   |(with_reducible refine LeO.bind ?_ (fun _=>?_))
   |exact B _ _ _ _ _ _ _ _ _ _ _ _ _ _
   |exact door_gear.mono _ _ _ _ _ _ _ _ _ _ _
   |exact LeO.none _
   |refine LeO.ite ?_ ?_
   |refine LeO.bind ?_ (fun _=>?_)
set_option maxHeartbeats 8000000 in
set_option maxRecDepth 100000 in
theorem door_Rest.calls (k:Nat) (J:Int) (B:Int) (Y:Int) (Z:Int) (γ:Int) (ζ :Int) (ε :Int) (κ :Int) (ι :Int) (θ :Int) (μ :Int) (η :Int) (ν :Int) (r1:Int) (r2:Int) (w:World) (h:door_Rest.f k J B Y Z γ ζ ε κ ι θ μ η ν = some (r1,r2)):
  Calls Try.prog 47 #[.agg #[.int .i64 J,.int .i64 B,.int .i64 Y,.int .i64 Z,.int .i64 γ,.int .i64 ζ,.int .i64 ε,.int .i64 κ,.int .i64 ι,.int .i64 θ],.agg #[.int .i64 μ,.int .i64 η,.int .i64 ν]] w fun e w'=>e = .returned (.tuple #[.int .i64 r1,.int .i64 r2])∧Below w.heap.size w w':=by
 have dc:=Try.underlying25
 have f8:=Try.underlying27
 have HB:=Aside0.mk (Below.refl w.heap.size w)
 have H:((door_gear.f k J B Y Z γ ζ ε κ ι θ).bind fun a6=>(if a6=true then ((door_Check.f μ η ν).bind fun a2=>(door_Rest.j0 k (a2 != 0) J B Y Z γ ζ ε κ ι θ μ η ν)) else (door_Rest.j0 k true J B Y Z γ ζ ε κ ι θ μ η ν)))=some (r1,r2):=h
 clear h
 have a3:=Aside0.mk H
 clear H
 go_enter Try.func47,Try.ntmps47
 go_upto_region 1 with(first|((with_reducible refine Qr (N:=2) rfl ?_);refine Qq ?hg (N:=2) ?hd (cs:=#[.int .i64 J,.int .i64 B,.int .i64 Y,.int .i64 Z,.int .i64 γ,.int .i64 ζ,.int .i64 ε,.int .i64 κ,.int .i64 ι,.int .i64 θ]) (t:=25) ?hr ?_;(case hd=>rfl);(case hg=>rfl);(case hr=>first|(go_simp;done)|(go_simp;rfl));intro a0 hg w4 hbox hb;have L:=Aside0.mk (Qj (by repeat(first|(with_reducible first|exact HB.out|apply Qg|apply Qd|apply Qf)|exact HB.out)) hb);have O:=Aside0.mk (hbox);have X:=Aside0.mk ((by rw[hg];exact(Qi (by repeat(first|(with_reducible first|exact HB.out|apply Qg|apply Qd|apply Qf)|exact HB.out))):w.heap.size≤a0));have δ :=Aside0.mk ((by rw[hg];exact(Qi (by repeat(first|(with_reducible first|exact HB.out|apply Qg|apply Qd|apply Qf)|exact HB.out))):w.heap.size≤a0));clear HB;have HB:=L;have ρ:=O;have dd:=X;have τ := δ;clear L O X δ;clear hb hbox hg)|((with_reducible refine Qr (N:=3) rfl ?_);refine Qq ?hg (N:=3) ?hd (cs:=#[.int .i64 μ,.int .i64 η,.int .i64 ν]) (t:=27) ?hr ?_;(case hd=>rfl);(case hg=>rfl);(case hr=>first|(go_simp;done)|(go_simp;rfl));intro a4 hg w5 hbox hb;have L:=Aside0.mk (Qh (g:=a0) (o:=.cells #[.int .i64 J,.int .i64 B,.int .i64 Y,.int .i64 Z,.int .i64 γ,.int .i64 ζ,.int .i64 ε,.int .i64 κ,.int .i64 ι,.int .i64 θ] 25 (0,0)) (by(with_reducible repeat first|apply Qb|apply Qe|apply Qc);exact ρ.out) hb);have O:=Aside0.mk (Qj (by repeat(first|(with_reducible first|exact HB.out|apply Qg|apply Qd|apply Qf|refine Qa ?_ τ.out)|exact HB.out)) hb);have X:=Aside0.mk (hbox);have δ :=Aside0.mk ((by rw[hg];exact(Qi (by repeat(first|(with_reducible first|exact HB.out|apply Qg|apply Qd|apply Qf|refine Qa ?_ τ.out)|exact HB.out))):w.heap.size≤a4));have ξ :=Aside0.mk ((by rw[hg];exact(Qi (by repeat(first|(with_reducible first|exact HB.out|apply Qg|apply Qd|apply Qf|refine Qa ?_ τ.out)|exact HB.out))):w.heap.size≤a4));have φ :=Aside0.mk ((by rw[hg];exact Nat.ne_of_lt (Qp (g:=a0) (o:=.cells #[.int .i64 J,.int .i64 B,.int .i64 Y,.int .i64 Z,.int .i64 γ,.int .i64 ζ,.int .i64 ε,.int .i64 κ,.int .i64 ι,.int .i64 θ] 25 (0,0)) (by(with_reducible repeat first|apply Qb|apply Qe|apply Qc);exact ρ.out)):a0≠a4));have ω :=Aside0.mk ((by rw[hg];exact Nat.ne_of_gt (Qp (g:=a0) (o:=.cells #[.int .i64 J,.int .i64 B,.int .i64 Y,.int .i64 Z,.int .i64 γ,.int .i64 ζ,.int .i64 ε,.int .i64 κ,.int .i64 ι,.int .i64 θ] 25 (0,0)) (by(with_reducible repeat first|apply Qb|apply Qe|apply Qc);exact ρ.out)):a4≠a0));clear ρ;clear HB;have ρ:=L;have HB:=O;have σ:=X;have di:= δ;have a1:= ξ;have χ := φ;have ψ := ω;clear L O X δ ξ φ ω;clear hb hbox hg))
 (try simp only[Act.put,qS])
 go_cut [14] (fun cy wc=>∃ (kq:Nat) (a7:Bool),cy = .bool a7∧Aside0 (door_Rest.j0 kq a7 J B Y Z γ ζ ε κ ι θ μ η ν = some (r1,r2))∧Aside0 (kq≤k)∧Aside0 (wc.heap[a0]?=some (.cells #[.int .i64 J,.int .i64 B,.int .i64 Y,.int .i64 Z,.int .i64 γ,.int .i64 ζ,.int .i64 ε,.int .i64 κ,.int .i64 ι,.int .i64 θ] 25 (0,0)))∧Aside0 (wc.heap[a4]?=some (.cells #[.int .i64 μ,.int .i64 η,.int .i64 ν] 27 (0,0)))∧Aside0 (Below w.heap.size w wc))
 case first=>
  have H:=a3.out
  clear a3
  replace H:=Option.bind_eq_some_iff.mp H
  obtain⟨a6,bc,H⟩:=H
  replace H:(if a6=true then ((door_Check.f μ η ν).bind fun a2=>(door_Rest.j0 k (a2 != 0) J B Y Z γ ζ ε κ ι θ μ η ν)) else (door_Rest.j0 k true J B Y Z γ ζ ε κ ι θ μ η ν))=some (r1,r2):=H
  have A6:=Aside0.mk bc
  clear bc
  by_cases c7:a6=true
  ·subst c7
   have H1:((door_Check.f μ η ν).bind fun a2=>(door_Rest.j0 k (a2 != 0) J B Y Z γ ζ ε κ ι θ μ η ν))=some (r1,r2):=by rw[if_pos rfl] at H;exact H
   clear H
   have H:=H1
   clear H1
   replace H:=Option.bind_eq_some_iff.mp H
   obtain⟨a2,bj,H⟩:=H
   replace H:(door_Rest.j0 k (a2 != 0) J B Y Z γ ζ ε κ ι θ μ η ν)=some (r1,r2):=H
   have A8:=Aside0.mk bj
   clear bj
   have H':=Aside0.mk H
   clear H
   have dj:= χ.out
   have dk:= ψ.out
   obtain⟨aw,bb,da,dq,dr,dt,du,am,ap,b5,dx,ec,ed,ee,ef,eg,eh,ev,fa,ft⟩:=Zh ρ.out
   go_wp2_with (first|((with_reducible refine Qt (f:=72) rfl ?_);refine Q7 (some 8) rfl rfl Try.func72 kr rfl #[.agg #[.int .i64 J,.int .i64 B,.int .i64 Y,.int .i64 Z,.int .i64 γ,.int .i64 ζ,.int .i64 ε,.int .i64 κ,.int .i64 ι,.int .i64 θ]] rfl (by(try simp only[List.map_toArray,List.map_cons,List.map_nil]);first|done|rfl|(simp only[List.length_drop,List.length_take];rfl)) ?_;(with_reducible refine(door_gear.calls k J B Y Z γ ζ ε κ ι θ true _ A6.out).mono ?_);rintro e em ⟨rfl,hb⟩;refine⟨_,rfl, ?_⟩;have L:=Aside0.mk (Qh (g:=a0) (o:=.cells #[.int .i64 J,.int .i64 B,.int .i64 Y,.int .i64 Z,.int .i64 γ,.int .i64 ζ,.int .i64 ε,.int .i64 κ,.int .i64 ι,.int .i64 θ] 25 (0,0)) (by(with_reducible repeat first|apply Qb|apply Qe|apply Qc);exact ρ.out) hb);have O:=Aside0.mk (Qh (g:=a4) (o:=.cells #[.int .i64 μ,.int .i64 η,.int .i64 ν] 27 (0,0)) (by(with_reducible repeat first|apply Qb|apply Qe|apply Qc);exact σ.out) hb);have X:=Aside0.mk (Qj (by repeat(first|(with_reducible first|exact HB.out|apply Qg|apply Qd|apply Qf|refine Qa ?_ τ.out|refine Qa ?_ a1.out)|exact HB.out)) hb);clear ρ;clear σ;clear HB;have ρ:=L;have σ:=O;have HB:=X;clear L O X;(try clear hb);(try clear ak);(try clear hk);(try clear hi);obtain⟨ac,ae,aj,af,ah,an⟩:=qD3 σ.out)|(go_at_call 71;(with_reducible refine(door_Check.calls μ η ν a2 _ A8.out).mono ?_);rintro e ew ⟨rfl,hb⟩;have L:=Aside0.mk (Qh (g:=a0) (o:=.cells #[.int .i64 J,.int .i64 B,.int .i64 Y,.int .i64 Z,.int .i64 γ,.int .i64 ζ,.int .i64 ε,.int .i64 κ,.int .i64 ι,.int .i64 θ] 25 (0,0)) (by(with_reducible repeat first|apply Qb|apply Qe|apply Qc);exact ρ.out) hb);have O:=Aside0.mk (Qh (g:=a4) (o:=.cells #[.int .i64 μ,.int .i64 η,.int .i64 ν] 27 (0,0)) (by(with_reducible repeat first|apply Qb|apply Qe|apply Qc);exact σ.out) hb);have X:=Aside0.mk (Qj (by repeat(first|(with_reducible first|exact HB.out|apply Qg|apply Qd|apply Qf|refine Qa ?_ τ.out|refine Qa ?_ a1.out)|exact HB.out)) hb);clear ρ;clear σ;clear HB;have ρ:=L;have σ:=O;have HB:=X;clear L O X;(try clear hb);(try clear ak);(try clear hk);(try clear hi)))
   go_meet
   case rel=>exact⟨_,((a2 != 0)),qR,H',⟨by first|omega|exact Nat.le_refl _⟩,⟨by(with_reducible repeat first|apply Qb|apply Qe|apply Qc);exact ρ.out⟩,⟨by(with_reducible repeat first|apply Qb|apply Qe|apply Qc);exact σ.out⟩,⟨by repeat(first|(with_reducible first|exact HB.out|apply Qg|apply Qd|apply Qf|refine Qa ?_ τ.out|refine Qa ?_ a1.out)|exact HB.out)⟩⟩
  ·replace c7:=Bool.eq_false_iff.mpr c7
   subst c7
   have H1:(door_Rest.j0 k true J B Y Z γ ζ ε κ ι θ μ η ν)=some (r1,r2):=by rw[if_neg (show ¬ (false=true) by decide)] at H;exact H
   clear H
   have H:=H1
   clear H1
   have H':=Aside0.mk H
   clear H
   have g8:= χ.out
   have g9:= ψ.out
   obtain⟨cu,cv,bn,ab,ag,ai,ao,ar,au,ax,cw,cx,dn,ay,az,b0,b1,b2,b3,b4⟩:=Zh ρ.out
   go_wp2_with (first|((with_reducible refine Qt (f:=72) rfl ?_);refine Q7 (some 8) rfl rfl Try.func72 kr rfl #[.agg #[.int .i64 J,.int .i64 B,.int .i64 Y,.int .i64 Z,.int .i64 γ,.int .i64 ζ,.int .i64 ε,.int .i64 κ,.int .i64 ι,.int .i64 θ]] rfl (by(try simp only[List.map_toArray,List.map_cons,List.map_nil]);first|done|rfl|(simp only[List.length_drop,List.length_take];rfl)) ?_;(with_reducible refine(door_gear.calls k J B Y Z γ ζ ε κ ι θ false _ A6.out).mono ?_);rintro e df ⟨rfl,hb⟩;refine⟨_,rfl, ?_⟩;have L:=Aside0.mk (Qh (g:=a0) (o:=.cells #[.int .i64 J,.int .i64 B,.int .i64 Y,.int .i64 Z,.int .i64 γ,.int .i64 ζ,.int .i64 ε,.int .i64 κ,.int .i64 ι,.int .i64 θ] 25 (0,0)) (by(with_reducible repeat first|apply Qb|apply Qe|apply Qc);exact ρ.out) hb);have O:=Aside0.mk (Qh (g:=a4) (o:=.cells #[.int .i64 μ,.int .i64 η,.int .i64 ν] 27 (0,0)) (by(with_reducible repeat first|apply Qb|apply Qe|apply Qc);exact σ.out) hb);have X:=Aside0.mk (Qj (by repeat(first|(with_reducible first|exact HB.out|apply Qg|apply Qd|apply Qf|refine Qa ?_ τ.out|refine Qa ?_ a1.out)|exact HB.out)) hb);clear ρ;clear σ;clear HB;have ρ:=L;have σ:=O;have HB:=X;clear L O X;(try clear hb);(try clear ak);(try clear hk);(try clear hi)))
   go_meet
   case rel=>exact⟨_,(true),qR,H',⟨by first|omega|exact Nat.le_refl _⟩,⟨by(with_reducible repeat first|apply Qb|apply Qe|apply Qc);exact ρ.out⟩,⟨by(with_reducible repeat first|apply Qb|apply Qe|apply Qc);exact σ.out⟩,⟨by repeat(first|(with_reducible first|exact HB.out|apply Qg|apply Qd|apply Qf|refine Qa ?_ τ.out|refine Qa ?_ a1.out)|exact HB.out)⟩⟩
 case rest=>
  clear a3
  try clear c1
  try clear p2
  try clear c4
  try clear c7
  try clear c9
  try clear al
  try clear aw
  try clear bb
  try clear da
  try clear dq
  try clear dr
  try clear dt
  try clear du
  try clear am
  try clear ap
  try clear b5
  try clear ac
  try clear ae
  try clear aj
  try clear cu
  try clear cv
  try clear bn
  try clear ab
  try clear ag
  try clear ai
  try clear ao
  try clear ar
  try clear au
  try clear ax
  try clear dx
  try clear ec
  try clear ed
  try clear ee
  try clear ef
  try clear eg
  try clear eh
  try clear ev
  try clear fa
  try clear ft
  try clear af
  try clear ah
  try clear an
  try clear cw
  try clear cx
  try clear dn
  try clear ay
  try clear az
  try clear b0
  try clear b1
  try clear b2
  try clear b3
  try clear b4
  obtain⟨kq,a7,rfl,HA,mw,ρ,σ,HB⟩:=hcut
  cases kq with
  |zero=>exact absurd HA.out (by simp[door_Rest.j0])
  |succ my=>
   have H:=HA.out
   clear HA
   simp only[door_Rest.j0] at H
   by_cases a5:a7=true
   ·subst a5
    have H1:(some (0,170))=some (r1,r2):=by rw[if_pos rfl] at H;exact H
    clear H
    have H:=H1
    clear H1
    simp only[Option.some.injEq,Prod.mk.injEq] at H
    obtain⟨rfl,rfl⟩:=H
    go_wp2
    go_ret2
    exact⟨by first|rfl|(simp[Qo,Qn] <;> rfl)|(simp[*,Qo,Qn] <;> rfl),by repeat(first|(with_reducible first|exact HB.out|apply Qg|apply Qd|apply Qf|refine Qa ?_ τ.out|refine Qa ?_ a1.out)|exact HB.out)⟩
   ·replace a5:=Bool.eq_false_iff.mpr a5
    subst a5
    have H1:(if μ = 0 then (some (0,0)) else (if μ = 1 then (some (wrap64 ((wrap64 (η + (wrap64 (ι + ε))))+(wrap64 ((mx (wrap64 (θ - ν)) 0) * (wrap64 ((wrap64 (Z + ι)) + ε))))),0)) else (if μ = 2 then (some (wrap64 ((wrap64 (η + ε))+(wrap64 ((mx (wrap64 (θ - ν)) 0) * (wrap64 ((wrap64 (Z + ι)) + ε))))),0)) else (some (wrap64 (η + (wrap64 ((mx (wrap64 (θ - ν)) 0) * (wrap64 ((wrap64 (Z + ι)) + ε))))),0)))))=some (r1,r2):=by rw[if_neg (show ¬ (false=true) by decide)] at H;exact H
    clear H
    have H:=H1
    clear H1
    by_cases bl: μ = 0
    ·rw[if_pos bl] at H
     have c18b0:(μ == 0)=true:=beq_iff_eq.mpr bl
     have c18b1:(μ != 0)=false:=bne_eq_false_iff_eq.mpr bl
     clear bl
     simp only[Option.some.injEq,Prod.mk.injEq] at H
     obtain⟨rfl,rfl⟩:=H
     have cr:= ψ.out
     have ct:= χ.out
     obtain⟨cb,cd,ch,ce,cg,d8⟩:=qD3 σ.out
     go_wp2
     go_ret2
     exact⟨by first|rfl|(simp[Qo,Qn] <;> rfl)|(simp[*,Qo,Qn] <;> rfl),by repeat(first|(with_reducible first|exact HB.out|apply Qg|apply Qd|apply Qf|refine Qa ?_ τ.out|refine Qa ?_ a1.out)|exact HB.out)⟩
    ·rw[if_neg bl] at H
     have c18b0:(μ == 0)=false:=beq_eq_false_iff_ne.mpr bl
     have c18b1:(μ != 0)=true:=bne_iff_ne.mpr bl
     by_cases av: μ = 1
     ·rw[if_pos av] at H
      have c21b0:(μ == 1)=true:=beq_iff_eq.mpr av
      have c21b1:(μ != 1)=false:=bne_eq_false_iff_eq.mpr av
      clear av
      obtain⟨ba,a8⟩:∃ j_:Int,(mx (wrap64 (θ - ν)) 0)=j_:=⟨_,rfl⟩
      replace H:(some (wrap64 ((wrap64 (η + (wrap64 (ι + ε))))+(wrap64 ((ba) * (wrap64 ((wrap64 (Z + ι)) + ε))))),0))=some (r1,r2):=by first|(rw[a8] at H;exact H)|(simp only[a8] at H ⊢;exact H)
      have d2:(if (wrap64 (θ - ν))<0 then 0 else (wrap64 (θ - ν)))=ba:=a8
      simp only[Option.some.injEq,Prod.mk.injEq] at H
      obtain⟨rfl,rfl⟩:=H
      have d0:= ψ.out
      have d1:= χ.out
      obtain⟨bo,bp,cj,bq,bs,ck⟩:=qD3 σ.out
      obtain⟨en,er,b8,fm,fn,fo,fp,bv,bm,bz,et,eu,b9,fq,fr,fu,fv,bw,ca,cf⟩:=Zh ρ.out
      go_wp2
      go_ret2
      exact⟨by first|rfl|(simp[Qo,Qn] <;> rfl)|(simp only[← a8];first|rfl|(simp[Qo,Qn] <;> rfl))|(simp[*,Qo,Qn] <;> rfl),by repeat(first|(with_reducible first|exact HB.out|apply Qg|apply Qd|apply Qf|refine Qa ?_ τ.out|refine Qa ?_ a1.out)|exact HB.out)⟩
     ·rw[if_neg av] at H
      have c21b0:(μ == 1)=false:=beq_eq_false_iff_ne.mpr av
      have c21b1:(μ != 1)=true:=bne_iff_ne.mpr av
      by_cases bh: μ = 2
      ·rw[if_pos bh] at H
       have c26b0:(μ == 2)=true:=beq_iff_eq.mpr bh
       have c26b1:(μ != 2)=false:=bne_eq_false_iff_eq.mpr bh
       clear bh
       obtain⟨bd,a9⟩:∃ j_:Int,(mx (wrap64 (θ - ν)) 0)=j_:=⟨_,rfl⟩
       replace H:(some (wrap64 ((wrap64 (η + ε))+(wrap64 ((bd) * (wrap64 ((wrap64 (Z + ι)) + ε))))),0))=some (r1,r2):=by first|(rw[a9] at H;exact H)|(simp only[a9] at H ⊢;exact H)
       have d9:(if (wrap64 (θ - ν))<0 then 0 else (wrap64 (θ - ν)))=bd:=a9
       simp only[Option.some.injEq,Prod.mk.injEq] at H
       obtain⟨rfl,rfl⟩:=H
       have jx:= ψ.out
       have jy:= χ.out
       obtain⟨fw,fx,fy,g4,g5,g6⟩:=qD3 σ.out
       obtain⟨bf,bi,e4,ep,g7,gb,ge,h9,ha,hx,bu,dh,e5,gg,gj,gk,gl,hy,i0,i1⟩:=Zh ρ.out
       go_wp2
       go_ret2
       exact⟨by first|rfl|(simp[Qo,Qn] <;> rfl)|(simp only[← a9];first|rfl|(simp[Qo,Qn] <;> rfl))|(simp[*,Qo,Qn] <;> rfl),by repeat(first|(with_reducible first|exact HB.out|apply Qg|apply Qd|apply Qf|refine Qa ?_ τ.out|refine Qa ?_ a1.out)|exact HB.out)⟩
      ·rw[if_neg bh] at H
       have c26b0:(μ == 2)=false:=beq_eq_false_iff_ne.mpr bh
       have c26b1:(μ != 2)=true:=bne_iff_ne.mpr bh
       obtain⟨be,aa⟩:∃ j_:Int,(mx (wrap64 (θ - ν)) 0)=j_:=⟨_,rfl⟩
       replace H:(some (wrap64 (η + (wrap64 ((be) * (wrap64 ((wrap64 (Z + ι)) + ε))))),0))=some (r1,r2):=by first|(rw[aa] at H;exact H)|(simp only[aa] at H ⊢;exact H)
       have db:(if (wrap64 (θ - ν))<0 then 0 else (wrap64 (θ - ν)))=be:=aa
       simp only[Option.some.injEq,Prod.mk.injEq] at H
       obtain⟨rfl,rfl⟩:=H
       have g3:= ψ.out
       have gt:= χ.out
       obtain⟨de,dy,e3,dz,e0,ej⟩:=qD3 σ.out
       obtain⟨ci,d3,d4,b6,b7,bg,cz,bk,br,cm,co,d5,d6,d7,fg,fh,js,cn,cp,cq⟩:=Zh ρ.out
       go_wp2
       go_ret2
       exact⟨by first|rfl|(simp[Qo,Qn] <;> rfl)|(simp only[← aa];first|rfl|(simp[Qo,Qn] <;> rfl))|(simp[*,Qo,Qn] <;> rfl),by repeat(first|(with_reducible first|exact HB.out|apply Qg|apply Qd|apply Qf|refine Qa ?_ τ.out|refine Qa ?_ a1.out)|exact HB.out)⟩
def door_Ask.j0:Nat→Bool→Int→Int→Int→Int→Int→Int→Int→Int→Int→Int→Option (Int×Int×Int×Int)
 |0,_,_,_,_,_,_,_,_,_,_,_=>none
 |k+1,ζ,X,Y,J,Z,γ,δ,ε,B,L,O=>if ζ = true then (some (0,0,0,170)) else (if B=0 then (some (1,J,0,0)) else (some (B,L,O,0)))
def door_Ask.f (k:Nat) (J:Int) (B:Int) (Y:Int) (Z:Int) (γ:Int) (ζ :Int) (ε :Int) (μ :Int) (η :Int) (ν :Int):Option (Int×Int×Int×Int):=(door_times.f k J B Y Z γ ζ ε).bind fun ai=>(if ai=true then ((door_Check.f μ η ν).bind fun a4=>(door_Ask.j0 k (a4 != 0) J B Y Z γ ζ ε μ η ν)) else (door_Ask.j0 k true J B Y Z γ ζ ε μ η ν))
theorem door_Ask.Zs:∀ k,(∀ O Y L J X Z y6 y7 y8 y9 γ,LeO (door_Ask.j0 k O Y L J X Z y6 y7 y8 y9 γ) (door_Ask.j0 (k+1) O Y L J X Z y6 y7 y8 y9 γ))
 |0=>fun _ _ _ _ _ _ _ _ _ _ _ r h=>by simp[door_Ask.j0] at h
 |k+1=>by
  have B:=door_Ask.Zs k
  ·intro O Y L J X Z y6 y7 y8 y9 γ
   unfold door_Ask.j0
   repeat' first
   |(with_reducible exact B _ _ _ _ _ _ _ _ _ _ _)
   |(with_reducible exact door_times.mono _ _ _ _ _ _ _ _)
   |(with_reducible exact LeO.refl _)
   |(with_reducible exact LeO.none _)
   |(with_reducible refine LeO.ite ?_ ?_)
   |(with_reducible refine LeO.bind ?_ (fun _=>?_))
   |exact B _ _ _ _ _ _ _ _ _ _ _
   |exact door_times.mono _ _ _ _ _ _ _ _
   |exact LeO.none _
   |refine LeO.ite ?_ ?_
   |refine LeO.bind ?_ (fun _=>?_)
theorem door_Ask.mono:∀ J Z a2 a3 L a5 O a7 a8 a9 k,LeO (door_Ask.f k J Z a2 a3 L a5 O a7 a8 a9) (door_Ask.f (k+1) J Z a2 a3 L a5 O a7 a8 a9):=by
 intro J Z a2 a3 L a5 O a7 a8 a9 k
 have B:=door_Ask.Zs k
 unfold door_Ask.f
 repeat' first
   |(with_reducible exact B _ _ _ _ _ _ _ _ _ _ _)
   |(with_reducible exact door_times.mono _ _ _ _ _ _ _ _)
   |(with_reducible exact LeO.refl _)
   |(with_reducible exact LeO.none _)
   |(with_reducible refine LeO.ite ?_ ?_)
   |(with_reducible refine LeO.bind ?_ (fun _=>?_))
   |exact B _ _ _ _ _ _ _ _ _ _ _
   |exact door_times.mono _ _ _ _ _ _ _ _
   |exact LeO.none _
   |refine LeO.ite ?_ ?_
   |refine LeO.bind ?_ (fun _=>?_)
set_option maxHeartbeats 8000000 in
set_option maxRecDepth 100000 in
theorem door_Ask.calls (k:Nat) (J:Int) (B:Int) (Y:Int) (Z:Int) (γ:Int) (ζ :Int) (ε :Int) (μ :Int) (η :Int) (ν :Int) (r1:Int) (r2:Int) (r3:Int) (r4:Int) (w:World) (h:door_Ask.f k J B Y Z γ ζ ε μ η ν = some (r1,r2,r3,r4)):
  Calls Try.prog 46 #[.agg #[.int .i64 J,.int .i64 B,.int .i64 Y,.int .i64 Z,.int .i64 γ,.int .i64 ζ,.int .i64 ε],.agg #[.int .i64 μ,.int .i64 η,.int .i64 ν]] w fun e w'=>e = .returned (.tuple #[.agg #[.int .i64 r1,.int .i64 r2,.int .i64 r3],.int .i64 r4])∧Below w.heap.size w w':=by
 have h4:=Try.underlying23
 have f8:=Try.underlying27
 have HB:=Aside0.mk (Below.refl w.heap.size w)
 have H:((door_times.f k J B Y Z γ ζ ε).bind fun ai=>(if ai=true then ((door_Check.f μ η ν).bind fun a4=>(door_Ask.j0 k (a4 != 0) J B Y Z γ ζ ε μ η ν)) else (door_Ask.j0 k true J B Y Z γ ζ ε μ η ν)))=some (r1,r2,r3,r4):=h
 clear h
 have a3:=Aside0.mk H
 clear H
 go_enter Try.func46,Try.ntmps46
 go_upto_region 1 with(first|((with_reducible refine Qr (N:=2) rfl ?_);refine Qq ?hg (N:=2) ?hd (cs:=#[.int .i64 J,.int .i64 B,.int .i64 Y,.int .i64 Z,.int .i64 γ,.int .i64 ζ,.int .i64 ε]) (t:=23) ?hr ?_;(case hd=>rfl);(case hg=>rfl);(case hr=>first|(go_simp;done)|(go_simp;rfl));intro ρ hg w4 hbox hb;have L:=Aside0.mk (Qj (by repeat(first|(with_reducible first|exact HB.out|apply Qg|apply Qd|apply Qf)|exact HB.out)) hb);have O:=Aside0.mk (hbox);have X:=Aside0.mk ((by rw[hg];exact(Qi (by repeat(first|(with_reducible first|exact HB.out|apply Qg|apply Qd|apply Qf)|exact HB.out))):w.heap.size≤ρ));have δ :=Aside0.mk ((by rw[hg];exact(Qi (by repeat(first|(with_reducible first|exact HB.out|apply Qg|apply Qd|apply Qf)|exact HB.out))):w.heap.size≤ρ));clear HB;have HB:=L;have θ :=O;have b6:=X;have σ:= δ;clear L O X δ;clear hb hbox hg)|((with_reducible refine Qr (N:=3) rfl ?_);refine Qq ?hg (N:=3) ?hd (cs:=#[.int .i64 μ,.int .i64 η,.int .i64 ν]) (t:=27) ?hr ?_;(case hd=>rfl);(case hg=>rfl);(case hr=>first|(go_simp;done)|(go_simp;rfl));intro χ hg w5 hbox hb;have L:=Aside0.mk (Qh (g:=ρ) (o:=.cells #[.int .i64 J,.int .i64 B,.int .i64 Y,.int .i64 Z,.int .i64 γ,.int .i64 ζ,.int .i64 ε] 23 (0,0)) (by(with_reducible repeat first|apply Qb|apply Qe|apply Qc);exact θ.out) hb);have O:=Aside0.mk (Qj (by repeat(first|(with_reducible first|exact HB.out|apply Qg|apply Qd|apply Qf|refine Qa ?_ σ.out)|exact HB.out)) hb);have X:=Aside0.mk (hbox);have δ :=Aside0.mk ((by rw[hg];exact(Qi (by repeat(first|(with_reducible first|exact HB.out|apply Qg|apply Qd|apply Qf|refine Qa ?_ σ.out)|exact HB.out))):w.heap.size ≤ χ));have ξ :=Aside0.mk ((by rw[hg];exact(Qi (by repeat(first|(with_reducible first|exact HB.out|apply Qg|apply Qd|apply Qf|refine Qa ?_ σ.out)|exact HB.out))):w.heap.size ≤ χ));have φ :=Aside0.mk ((by rw[hg];exact Nat.ne_of_lt (Qp (g:=ρ) (o:=.cells #[.int .i64 J,.int .i64 B,.int .i64 Y,.int .i64 Z,.int .i64 γ,.int .i64 ζ,.int .i64 ε] 23 (0,0)) (by(with_reducible repeat first|apply Qb|apply Qe|apply Qc);exact θ.out)):ρ ≠ χ));have ω :=Aside0.mk ((by rw[hg];exact Nat.ne_of_gt (Qp (g:=ρ) (o:=.cells #[.int .i64 J,.int .i64 B,.int .i64 Y,.int .i64 Z,.int .i64 γ,.int .i64 ζ,.int .i64 ε] 23 (0,0)) (by(with_reducible repeat first|apply Qb|apply Qe|apply Qc);exact θ.out)): χ ≠ ρ));clear θ;clear HB;have θ :=L;have HB:=O;have ι :=X;have b7:= δ;have a0:= ξ;have a8:= φ;have a9:= ω;clear L O X δ ξ φ ω;clear hb hbox hg)|((with_reducible refine Qr (N:=4) rfl ?_);refine Qq ?hg (N:=4) ?hd (cs:=#[.int .i64 0,.int .i64 0,.int .i64 0]) (t:=27) ?hr ?_;(case hd=>rfl);(case hg=>rfl);(case hr=>first|(go_simp;done)|(go_simp;rfl));intro ψ hg w6 hbox hb;have L:=Aside0.mk (Qh (g:=ρ) (o:=.cells #[.int .i64 J,.int .i64 B,.int .i64 Y,.int .i64 Z,.int .i64 γ,.int .i64 ζ,.int .i64 ε] 23 (0,0)) (by(with_reducible repeat first|apply Qb|apply Qe|apply Qc);exact θ.out) hb);have O:=Aside0.mk (Qh (g:= χ) (o:=.cells #[.int .i64 μ,.int .i64 η,.int .i64 ν] 27 (0,0)) (by(with_reducible repeat first|apply Qb|apply Qe|apply Qc);exact ι.out) hb);have X:=Aside0.mk (Qj (by repeat(first|(with_reducible first|exact HB.out|apply Qg|apply Qd|apply Qf|refine Qa ?_ σ.out|refine Qa ?_ a0.out)|exact HB.out)) hb);have δ :=Aside0.mk (hbox);have ξ :=Aside0.mk ((by rw[hg];exact(Qi (by repeat(first|(with_reducible first|exact HB.out|apply Qg|apply Qd|apply Qf|refine Qa ?_ σ.out|refine Qa ?_ a0.out)|exact HB.out))):w.heap.size ≤ ψ));have φ :=Aside0.mk ((by rw[hg];exact(Qi (by repeat(first|(with_reducible first|exact HB.out|apply Qg|apply Qd|apply Qf|refine Qa ?_ σ.out|refine Qa ?_ a0.out)|exact HB.out))):w.heap.size ≤ ψ));have ω :=Aside0.mk ((by rw[hg];exact Nat.ne_of_lt (Qp (g:=ρ) (o:=.cells #[.int .i64 J,.int .i64 B,.int .i64 Y,.int .i64 Z,.int .i64 γ,.int .i64 ζ,.int .i64 ε] 23 (0,0)) (by(with_reducible repeat first|apply Qb|apply Qe|apply Qc);exact θ.out)):ρ ≠ ψ));have a6:=Aside0.mk ((by rw[hg];exact Nat.ne_of_gt (Qp (g:=ρ) (o:=.cells #[.int .i64 J,.int .i64 B,.int .i64 Y,.int .i64 Z,.int .i64 γ,.int .i64 ζ,.int .i64 ε] 23 (0,0)) (by(with_reducible repeat first|apply Qb|apply Qe|apply Qc);exact θ.out)): ψ ≠ ρ));have a7:=Aside0.mk ((by rw[hg];exact Nat.ne_of_lt (Qp (g:= χ) (o:=.cells #[.int .i64 μ,.int .i64 η,.int .i64 ν] 27 (0,0)) (by(with_reducible repeat first|apply Qb|apply Qe|apply Qc);exact ι.out)): χ ≠ ψ));have ag:=Aside0.mk ((by rw[hg];exact Nat.ne_of_gt (Qp (g:= χ) (o:=.cells #[.int .i64 μ,.int .i64 η,.int .i64 ν] 27 (0,0)) (by(with_reducible repeat first|apply Qb|apply Qe|apply Qc);exact ι.out)): ψ ≠ χ));clear θ;clear ι;clear HB;have θ :=L;have ι :=O;have HB:=X;have κ := δ;have b8:= ξ;have aa:= φ;have a1:= ω;have a2:=a6;have ab:=a7;have τ :=ag;clear L O X δ ξ φ ω a6 a7 ag;clear hb hbox hg))
 (try simp only[Act.put,qS])
 go_cut [13] (fun ap wc=>∃ (kq:Nat) (am:Bool),ap = .bool am∧Aside0 (door_Ask.j0 kq am J B Y Z γ ζ ε μ η ν = some (r1,r2,r3,r4))∧Aside0 (kq≤k)∧Aside0 (wc.heap[ρ]?=some (.cells #[.int .i64 J,.int .i64 B,.int .i64 Y,.int .i64 Z,.int .i64 γ,.int .i64 ζ,.int .i64 ε] 23 (0,0)))∧Aside0 (wc.heap[χ]?=some (.cells #[.int .i64 μ,.int .i64 η,.int .i64 ν] 27 (0,0)))∧Aside0 (wc.heap[ψ]?=some (.cells #[.int .i64 0,.int .i64 0,.int .i64 0] 27 (0,0)))∧Aside0 (Below w.heap.size w wc))
 case first=>
  have H:=a3.out
  clear a3
  replace H:=Option.bind_eq_some_iff.mp H
  obtain⟨ai,dd,H⟩:=H
  replace H:(if ai=true then ((door_Check.f μ η ν).bind fun a4=>(door_Ask.j0 k (a4 != 0) J B Y Z γ ζ ε μ η ν)) else (door_Ask.j0 k true J B Y Z γ ζ ε μ η ν))=some (r1,r2,r3,r4):=H
  have A7:=Aside0.mk dd
  clear dd
  by_cases c8:ai=true
  ·subst c8
   have H1:((door_Check.f μ η ν).bind fun a4=>(door_Ask.j0 k (a4 != 0) J B Y Z γ ζ ε μ η ν))=some (r1,r2,r3,r4):=by rw[if_pos rfl] at H;exact H
   clear H
   have H:=H1
   clear H1
   replace H:=Option.bind_eq_some_iff.mp H
   obtain⟨a4,cn,H⟩:=H
   replace H:(door_Ask.j0 k (a4 != 0) J B Y Z γ ζ ε μ η ν)=some (r1,r2,r3,r4):=H
   have A9:=Aside0.mk cn
   clear cn
   have H':=Aside0.mk H
   clear H
   have eg:=a8.out
   have em:=a9.out
   have gs:=a1.out
   have gx:=a2.out
   obtain⟨ac,ae,aj,ao,ar,au,ax,af,ah,an,ay,az,b0,b4⟩:=qD7 θ.out
   go_wp2_with (first|((with_reducible refine Qt (f:=70) rfl ?_);refine Q7 (some 7) rfl rfl Try.func70 kr rfl #[.agg #[.int .i64 J,.int .i64 B,.int .i64 Y,.int .i64 Z,.int .i64 γ,.int .i64 ζ,.int .i64 ε]] rfl (by(try simp only[List.map_toArray,List.map_cons,List.map_nil]);first|done|rfl|(simp only[List.length_drop,List.length_take];rfl)) ?_;(with_reducible refine(door_times.calls k J B Y Z γ ζ ε true _ A7.out).mono ?_);rintro e ew ⟨rfl,hb⟩;refine⟨_,rfl, ?_⟩;have L:=Aside0.mk (Qh (g:=ρ) (o:=.cells #[.int .i64 J,.int .i64 B,.int .i64 Y,.int .i64 Z,.int .i64 γ,.int .i64 ζ,.int .i64 ε] 23 (0,0)) (by(with_reducible repeat first|apply Qb|apply Qe|apply Qc);exact θ.out) hb);have O:=Aside0.mk (Qh (g:= χ) (o:=.cells #[.int .i64 μ,.int .i64 η,.int .i64 ν] 27 (0,0)) (by(with_reducible repeat first|apply Qb|apply Qe|apply Qc);exact ι.out) hb);have X:=Aside0.mk (Qh (g:= ψ) (o:=.cells #[.int .i64 0,.int .i64 0,.int .i64 0] 27 (0,0)) (by(with_reducible repeat first|apply Qb|apply Qe|apply Qc);exact κ.out) hb);have δ :=Aside0.mk (Qj (by repeat(first|(with_reducible first|exact HB.out|apply Qg|apply Qd|apply Qf|refine Qa ?_ σ.out|refine Qa ?_ a0.out|refine Qa ?_ aa.out)|exact HB.out)) hb);clear θ;clear ι;clear κ;clear HB;have θ :=L;have ι :=O;have κ :=X;have HB:= δ;clear L O X δ;(try clear hb);(try clear ak);(try clear hk);(try clear hi);have g8:=ab.out;have g9:= τ.out;obtain⟨cu,cv,bn,cw,cx,dn⟩:=qD3 ι.out)|(go_at_call 71;(with_reducible refine(door_Check.calls μ η ν a4 _ A9.out).mono ?_);rintro e df ⟨rfl,hb⟩;have L:=Aside0.mk (Qh (g:=ρ) (o:=.cells #[.int .i64 J,.int .i64 B,.int .i64 Y,.int .i64 Z,.int .i64 γ,.int .i64 ζ,.int .i64 ε] 23 (0,0)) (by(with_reducible repeat first|apply Qb|apply Qe|apply Qc);exact θ.out) hb);have O:=Aside0.mk (Qh (g:= χ) (o:=.cells #[.int .i64 μ,.int .i64 η,.int .i64 ν] 27 (0,0)) (by(with_reducible repeat first|apply Qb|apply Qe|apply Qc);exact ι.out) hb);have X:=Aside0.mk (Qh (g:= ψ) (o:=.cells #[.int .i64 0,.int .i64 0,.int .i64 0] 27 (0,0)) (by(with_reducible repeat first|apply Qb|apply Qe|apply Qc);exact κ.out) hb);have δ :=Aside0.mk (Qj (by repeat(first|(with_reducible first|exact HB.out|apply Qg|apply Qd|apply Qf|refine Qa ?_ σ.out|refine Qa ?_ a0.out|refine Qa ?_ aa.out)|exact HB.out)) hb);clear θ;clear ι;clear κ;clear HB;have θ :=L;have ι :=O;have κ :=X;have HB:= δ;clear L O X δ;(try clear hb);(try clear ak);(try clear hk);(try clear hi)))
   go_meet
   case rel=>exact⟨_,((a4 != 0)),qR,H',⟨by first|omega|exact Nat.le_refl _⟩,⟨by(with_reducible repeat first|apply Qb|apply Qe|apply Qc);exact θ.out⟩,⟨by(with_reducible repeat first|apply Qb|apply Qe|apply Qc);exact ι.out⟩,⟨by(with_reducible repeat first|apply Qb|apply Qe|apply Qc);exact κ.out⟩,⟨by repeat(first|(with_reducible first|exact HB.out|apply Qg|apply Qd|apply Qf|refine Qa ?_ σ.out|refine Qa ?_ a0.out|refine Qa ?_ aa.out)|exact HB.out)⟩⟩
  ·replace c8:=Bool.eq_false_iff.mpr c8
   subst c8
   have H1:(door_Ask.j0 k true J B Y Z γ ζ ε μ η ν)=some (r1,r2,r3,r4):=by rw[if_neg (show ¬ (false=true) by decide)] at H;exact H
   clear H
   have H:=H1
   clear H1
   have H':=Aside0.mk H
   clear H
   have ft:=a8.out
   have ip:=a9.out
   have cm:=a1.out
   have cz:=a2.out
   obtain⟨b1,b2,bd,bj,bk,bm,br,b3,ba,be,bv,bw,bz,ca⟩:=qD7 θ.out
   go_wp2_with (first|((with_reducible refine Qt (f:=70) rfl ?_);refine Q7 (some 7) rfl rfl Try.func70 kr rfl #[.agg #[.int .i64 J,.int .i64 B,.int .i64 Y,.int .i64 Z,.int .i64 γ,.int .i64 ζ,.int .i64 ε]] rfl (by(try simp only[List.map_toArray,List.map_cons,List.map_nil]);first|done|rfl|(simp only[List.length_drop,List.length_take];rfl)) ?_;(with_reducible refine(door_times.calls k J B Y Z γ ζ ε false _ A7.out).mono ?_);rintro e dw ⟨rfl,hb⟩;refine⟨_,rfl, ?_⟩;have L:=Aside0.mk (Qh (g:=ρ) (o:=.cells #[.int .i64 J,.int .i64 B,.int .i64 Y,.int .i64 Z,.int .i64 γ,.int .i64 ζ,.int .i64 ε] 23 (0,0)) (by(with_reducible repeat first|apply Qb|apply Qe|apply Qc);exact θ.out) hb);have O:=Aside0.mk (Qh (g:= χ) (o:=.cells #[.int .i64 μ,.int .i64 η,.int .i64 ν] 27 (0,0)) (by(with_reducible repeat first|apply Qb|apply Qe|apply Qc);exact ι.out) hb);have X:=Aside0.mk (Qh (g:= ψ) (o:=.cells #[.int .i64 0,.int .i64 0,.int .i64 0] 27 (0,0)) (by(with_reducible repeat first|apply Qb|apply Qe|apply Qc);exact κ.out) hb);have δ :=Aside0.mk (Qj (by repeat(first|(with_reducible first|exact HB.out|apply Qg|apply Qd|apply Qf|refine Qa ?_ σ.out|refine Qa ?_ a0.out|refine Qa ?_ aa.out)|exact HB.out)) hb);clear θ;clear ι;clear κ;clear HB;have θ :=L;have ι :=O;have κ :=X;have HB:= δ;clear L O X δ;(try clear hb);(try clear ak);(try clear hk);(try clear hi)))
   go_meet
   case rel=>exact⟨_,(true),qR,H',⟨by first|omega|exact Nat.le_refl _⟩,⟨by(with_reducible repeat first|apply Qb|apply Qe|apply Qc);exact θ.out⟩,⟨by(with_reducible repeat first|apply Qb|apply Qe|apply Qc);exact ι.out⟩,⟨by(with_reducible repeat first|apply Qb|apply Qe|apply Qc);exact κ.out⟩,⟨by repeat(first|(with_reducible first|exact HB.out|apply Qg|apply Qd|apply Qf|refine Qa ?_ σ.out|refine Qa ?_ a0.out|refine Qa ?_ aa.out)|exact HB.out)⟩⟩
 case rest=>
  clear a3
  try clear c1
  try clear p2
  try clear c4
  try clear c7
  try clear c8
  try clear c10
  try clear aw
  try clear al
  try clear a5
  try clear bl
  try clear ac
  try clear ae
  try clear aj
  try clear ao
  try clear ar
  try clear au
  try clear ax
  try clear cu
  try clear cv
  try clear bn
  try clear b1
  try clear b2
  try clear bd
  try clear bj
  try clear bk
  try clear bm
  try clear br
  try clear af
  try clear ah
  try clear an
  try clear ay
  try clear az
  try clear b0
  try clear b4
  try clear cw
  try clear cx
  try clear dn
  try clear b3
  try clear ba
  try clear be
  try clear bv
  try clear bw
  try clear bz
  try clear ca
  obtain⟨kq,am,rfl,HA,mw,θ,ι,κ,HB⟩:=hcut
  cases kq with
  |zero=>exact absurd HA.out (by simp[door_Ask.j0])
  |succ my=>
   have H:=HA.out
   clear HA
   simp only[door_Ask.j0] at H
   by_cases av:am=true
   ·subst av
    have H1:(some (0,0,0,170))=some (r1,r2,r3,r4):=by rw[if_pos rfl] at H;exact H
    clear H
    have H:=H1
    clear H1
    simp only[Option.some.injEq,Prod.mk.injEq] at H
    obtain⟨rfl,rfl,rfl,rfl⟩:=H
    have g6:=a2.out
    have gn:=a1.out
    have d0:= τ.out
    have d1:=ab.out
    obtain⟨bo,bp,cj,bq,bs,ck⟩:=qD3 κ.out
    go_wp2
    refine bodyPost_ret (Xb rfl _ _ ψ 27 #[.int .i64 0,.int .i64 0,.int .i64 0] (0,0) _ rfl (by(with_reducible repeat first|apply Qb|apply Qe|apply Qc);refine Qu (cs:=#[.int .i64 0,.int .i64 0,.int .i64 0]) ?_ 2 _ rfl;(with_reducible repeat first|apply Qb|apply Qe|apply Qc);refine Qu (cs:=#[.int .i64 0,.int .i64 0,.int .i64 0]) ?_ 1 _ rfl;(with_reducible repeat first|apply Qb|apply Qe|apply Qc);refine Qu (cs:=#[.int .i64 0,.int .i64 0,.int .i64 0]) ?_ 0 _ rfl;(with_reducible repeat first|apply Qb|apply Qe|apply Qc);exact κ.out) Try.underlying27 rfl kr) rfl ?_
    exact⟨by first|rfl|(simp[Qo,Qn] <;> rfl)|(simp[*,Qo,Qn] <;> rfl),by repeat(first|(with_reducible first|exact HB.out|apply Qg|apply Qd|apply Qf|refine Qa ?_ σ.out|refine Qa ?_ a0.out|refine Qa ?_ aa.out)|exact HB.out)⟩
   ·replace av:=Bool.eq_false_iff.mpr av
    subst av
    have H1:(if μ = 0 then (some (1,Y,0,0)) else (some (μ,η,ν,0)))=some (r1,r2,r3,r4):=by rw[if_neg (show ¬ (false=true) by decide)] at H;exact H
    clear H
    have H:=H1
    clear H1
    by_cases b5: μ = 0
    ·rw[if_pos b5] at H
     have c25b0:(μ == 0)=true:=beq_iff_eq.mpr b5
     have c25b1:(μ != 0)=false:=bne_eq_false_iff_eq.mpr b5
     clear b5
     simp only[Option.some.injEq,Prod.mk.injEq] at H
     obtain⟨rfl,rfl,rfl,rfl⟩:=H
     have cp:=a9.out
     have d7:=a8.out
     have i1:=ab.out
     have i2:= τ.out
     obtain⟨cy,d8,ea,d2,el,eo⟩:=qD3 ι.out
     have ee:=a1.out
     have ef:=a2.out
     obtain⟨bf,bi,e4,ep,g7,gb,ge,bu,dh,e5,gg,gj,gk,gl⟩:=qD7 θ.out
     obtain⟨d9,db,dj,dk,dl,dv⟩:=qD3 κ.out
     go_wp2
     refine bodyPost_ret (Xb rfl _ _ ψ 27 #[.int .i64 1,.int .i64 Y,.int .i64 0] (0,0) _ rfl (by(with_reducible repeat first|apply Qb|apply Qe|apply Qc);refine Qu (cs:=#[.int .i64 1,.int .i64 Y,.int .i64 0]) ?_ 2 _ rfl;(with_reducible repeat first|apply Qb|apply Qe|apply Qc);refine Qu (cs:=#[.int .i64 1,.int .i64 0,.int .i64 0]) ?_ 1 _ rfl;(with_reducible repeat first|apply Qb|apply Qe|apply Qc);refine Qu (cs:=#[.int .i64 0,.int .i64 0,.int .i64 0]) ?_ 0 _ rfl;(with_reducible repeat first|apply Qb|apply Qe|apply Qc);refine Qs ?_ τ.out _;(with_reducible repeat first|apply Qb|apply Qe|apply Qc);refine Qs ?_ τ.out _;(with_reducible repeat first|apply Qb|apply Qe|apply Qc);refine Qs ?_ τ.out _;(with_reducible repeat first|apply Qb|apply Qe|apply Qc);exact κ.out) Try.underlying27 rfl kr) rfl ?_
     exact⟨by first|rfl|(simp[Qo,Qn] <;> rfl)|(simp[*,Qo,Qn] <;> rfl),by repeat(first|(with_reducible first|exact HB.out|apply Qg|apply Qd|apply Qf|refine Qa ?_ σ.out|refine Qa ?_ a0.out|refine Qa ?_ aa.out)|exact HB.out)⟩
    ·rw[if_neg b5] at H
     have c25b0:(μ == 0)=false:=beq_eq_false_iff_ne.mpr b5
     have c25b1:(μ != 0)=true:=bne_iff_ne.mpr b5
     simp only[Option.some.injEq,Prod.mk.injEq] at H
     obtain⟨rfl,rfl,rfl,rfl⟩:=H
     have g3:=a9.out
     have gt:=a8.out
     have kj:=ab.out
     have kk:= τ.out
     obtain⟨ci,d3,d4,co,d5,d6⟩:=qD3 ι.out
     have kl:=a2.out
     have km:=a1.out
     obtain⟨fy,fz,cb,g0,g1,cd⟩:=qD3 κ.out
     go_wp2
     refine bodyPost_ret (Xb rfl _ _ ψ 27 #[.int .i64 μ,.int .i64 η,.int .i64 ν] (0,0) _ rfl (by(with_reducible repeat first|apply Qb|apply Qe|apply Qc);refine Qu (cs:=#[.int .i64 μ,.int .i64 η,.int .i64 0]) ?_ 2 _ rfl;(with_reducible repeat first|apply Qb|apply Qe|apply Qc);refine Qu (cs:=#[.int .i64 μ,.int .i64 0,.int .i64 0]) ?_ 1 _ rfl;(with_reducible repeat first|apply Qb|apply Qe|apply Qc);refine Qu (cs:=#[.int .i64 0,.int .i64 0,.int .i64 0]) ?_ 0 _ rfl;(with_reducible repeat first|apply Qb|apply Qe|apply Qc);exact κ.out) Try.underlying27 rfl kr) rfl ?_
     exact⟨by first|rfl|(simp[Qo,Qn] <;> rfl)|(simp[*,Qo,Qn] <;> rfl),by repeat(first|(with_reducible first|exact HB.out|apply Qg|apply Qd|apply Qf|refine Qa ?_ σ.out|refine Qa ?_ a0.out|refine Qa ?_ aa.out)|exact HB.out)⟩
end Go.Proofs.Ytmfffemidlhcpaa.C
namespace Go.Proofs.Ytmfffemidlhcpaa.DoorPure
open Go.RowKit Go.Proofs.YtmfffemidlhcpaaW.PrintWords Go.Proofs.YtmfffemidlhcpaaW.PrintLast Go.Proofs.YtmfffemidlhcpaaW.PrintMore Go.Proofs.Ytmfffemidlhcpaa.C
abbrev tI (n:Int):Prop:=1≤n∧n≤60
abbrev Jt (O X J Y Z t5 B:Int):Prop:=(tI O∧tI X∧tI J∧tI Y∧tI Z∧tI t5)∧0≤B∧B≤60
abbrev X6 (g0 Y g2 g3 g4 g5 g6 g7 g8 g9:Int):Prop:=Jt Y g2 g3 g4 g5 g6 g7∧(2≤g0∧g0≤64)∧(1≤g8∧g8≤300)∧0≤g9∧g9≤60
abbrev Xu (d0 d1 d2:Int):Prop:=(d0=0∧d1=0∧d2=0)∨((d0=1∨d0=3)∧1≤d1∧d1≤60∧0≤d2∧d2≤60)∨(d0=2∧1≤d1∧d1≤300∧0≤d2∧d2≤60)
theorem Xh (n a b:Int):door_within.f n a b=some (decide (a≤n∧n≤b)):=by
  unfold door_within.f
  by_cases h:a≤n
  · rw[if_pos h];simp[h]
  · rw[if_neg h];simp[h]
theorem rdn (l:List Int) (i:Nat) (h:i<l.length):rd l (i:Int)=l[i]:=by
  simp[rd,h]
theorem Uo (l:List Int) (hl:l.length≤1000) (O X J Y Z t5 B:Int) (j:Nat):∀ (f i:Nat),i+j=l.length→j<f→door_times.l0 f l (l.length:Int) (i:Int) O X J Y Z t5 B=some (decide ((∀ x ∈ l.drop i,tI x)∧0≤B∧B≤60)):=by
  induction j with
  |zero=>
    intro f i h hf
    obtain⟨f,rfl⟩:∃ m,f=m+1:=⟨f-1,by omega⟩
    simp only[door_times.l0]
    rw[if_neg (by omega),Xh,List.drop_of_length_le (by omega)]
    simp
  |succ j ih=>
    intro f i h hf
    obtain⟨f,rfl⟩:∃ m,f=m+1:=⟨f-1,by omega⟩
    have hlt:i<l.length:=by omega
    have ei:wrap64 ((i:Int)+1)=((i+1:Nat):Int):=by unfold wrap64;omega
    simp only[door_times.l0]
    rw[if_pos (by omega),if_pos (by omega),if_pos (by omega),rdn l i hlt,Xh,ei,ih f (i+1) (by omega) (by omega),List.drop_eq_getElem_cons hlt]
    simp only[Option.bind_some]
    by_cases hc:1≤l[i]∧l[i]≤60
    · rw[decide_eq_true hc,if_pos rfl]
      congr 1
      rw[decide_eq_decide]
      constructor
      · rintro⟨h1,L⟩
        refine⟨fun x hx=>?_,L⟩
        rcases List.mem_cons.1 hx with rfl|hx
        · exact hc
        · exact h1 x hx
      · rintro⟨h1,L⟩
        exact⟨fun x hx=>h1 x (List.mem_cons_of_mem _ hx),L⟩
    · have:¬ ((∀ x ∈ l[i] :: l.drop (i+1),tI x)∧0≤B∧B≤60):=fun h=>hc (h.1 _ List.mem_cons_self)
      rw[decide_eq_false hc,if_neg (by decide),decide_eq_false this]
theorem V0 (O X J Y Z t5 B:Int) (f:Nat) (hf:10<f):door_times.f f O X J Y Z t5 B=some (decide (Jt O X J Y Z t5 B)):=by
  unfold door_times.f
  simp only[Option.bind_some]
  have:=Uo [O,X,J,Y,Z,t5] (by simp) O X J Y Z t5 B 6 f 0 rfl (by omega)
  rw[show((0:Nat):Int)=0 from rfl] at this
  rw[this]
  congr 1
  rw[decide_eq_decide]
  simp only[List.drop_zero,List.mem_cons,List.not_mem_nil,or_false,forall_eq_or_imp,forall_eq]
theorem Nb (g0 Y g2 g3 g4 g5 g6 g7 g8 g9:Int) (f:Nat) (hf:10<f):door_gear.f f g0 Y g2 g3 g4 g5 g6 g7 g8 g9=some (decide (X6 g0 Y g2 g3 g4 g5 g6 g7 g8 g9)):=by
  unfold door_gear.f
  rw[V0 _ _ _ _ _ _ _ f hf,Xh,Xh,Xh]
  simp only[Option.bind_some]
  by_cases h1:Jt Y g2 g3 g4 g5 g6 g7
  · rw[decide_eq_true h1,if_pos rfl]
    by_cases L:2≤g0∧g0≤64
    · rw[decide_eq_true L,if_pos rfl]
      by_cases Z:1≤g8∧g8≤300
      · rw[decide_eq_true Z,if_pos rfl]
        congr 1
        rw[decide_eq_decide]
        exact⟨fun h=>⟨h1,L,Z,h⟩,fun h=>h.2.2.2⟩
      · rw[decide_eq_false Z,if_neg (by decide),decide_eq_false (fun h=>Z h.2.2.1)]
    · rw[decide_eq_false L,if_neg (by decide),decide_eq_false (fun h=>L h.2.1)]
  · rw[decide_eq_false h1,if_neg (by decide),decide_eq_false (fun h=>h1 h.1)]
theorem on_eq (d0 d1 d2 a b:Int):door_on.f d0 d1 d2 a b=some (if wrap64 (d1-1)=0 then (a,b,d2) else (d0,wrap64 (d1-1),d2)):=by
  unfold door_on.f
  split <;> rfl
theorem Yj (d0 d1 d2:Int):door_Check.f d0 d1 d2=some (if Xu d0 d1 d2 then 0 else 170):=by
  unfold door_Check.f
  rw[Xh,Xh,Xh,on_eq]
  simp only[Option.bind_some]
  by_cases h:0≤d0∧d0≤3
  · rw[decide_eq_true h,if_pos rfl]
    have hm:(mn (Z4 d0) 1≤d1∧d1≤Z4 d0)∧(0≤d2∧d2≤mn (Z4 d0) 60)↔Xu d0 d1 d2:=by
      have e:d0=0∨d0=1∨d0=2∨d0=3:=by omega
      rcases e with rfl|rfl|rfl|rfl <;> simp[Z4,mn] <;> omega
    by_cases h1:mn (Z4 d0) 1≤d1∧d1≤Z4 d0
    · rw[decide_eq_true h1,if_pos rfl]
      by_cases L:0≤d2∧d2≤mn (Z4 d0) 60
      · rw[decide_eq_true L,if_pos rfl,if_pos (hm.1 ⟨h1,L⟩)]
      · rw[decide_eq_false L,if_neg (by decide),if_neg (fun h=>L (hm.2 h).2)]
    · rw[decide_eq_false h1,if_neg (by decide),if_neg (fun h=>h1 (hm.2 h).1)]
  · rw[decide_eq_false h,if_neg (by decide),if_neg (by omega)]
def K4 (g3 g6 g8 g9 d0 d1 d2:Int):Int:=
  if d0=0 then 0 else d1+(if d0=1 then g8+g6 else if d0=2 then g6 else 0)+(if d2<g9 then (g9-d2) * (g3+g8+g6) else 0)
theorem Ms {a b:Int} (ha:0≤a∧a≤60) (hb:0≤b∧b≤420):0≤a * b∧a * b≤25200:=by
  refine⟨Int.mul_nonneg ha.1 hb.1, ?_⟩
  have h1:a * b≤60 * b:=Int.mul_le_mul_of_nonneg_right ha.2 hb.1
  omega
theorem w64 {n:Int} (h: -1000000000000≤n∧n≤1000000000000):wrap64 n=n:=by unfold wrap64;omega
theorem Uc (g0 Y g2 g3 g4 g5 g6 g7 g8 g9 d0 d1 d2:Int) (hg:X6 g0 Y g2 g3 g4 g5 g6 g7 g8 g9) (hd:Xu d0 d1 d2):
    wrap64 ((mx (wrap64 (g9-d2)) 0) * (wrap64 ((wrap64 (g3+g8))+g6)))=(if d2<g9 then (g9-d2) * (g3+g8+g6) else 0)∧0≤(if d2<g9 then (g9-d2) * (g3+g8+g6) else 0)∧(if d2<g9 then (g9-d2) * (g3+g8+g6) else 0)≤25200:=by
  have Z:1≤g3∧g3≤60:=hg.1.1.2.2.1
  have a2:1≤g6∧g6≤60:=hg.1.1.2.2.2.2.2
  have a3:1≤g8∧g8≤300:=hg.2.2.1
  have L:0≤g9∧g9≤60:=hg.2.2.2
  have a5:0≤d2∧d2≤60:=by omega
  rw[w64 (n:=g9-d2) (by omega),w64 (n:=g3+g8) (by omega),w64 (n:=g3+g8+g6) (by omega)]
  by_cases h:d2<g9
  · have hp:=Ms (a:=g9-d2) (b:=g3+g8+g6) (by omega) (by omega)
    rw[if_pos h]
    have e:mx (g9-d2) 0=g9-d2:=by unfold mx;rw[if_neg (by omega)]
    rw[e]
    exact⟨w64 (by omega),hp⟩
  · rw[if_neg h]
    have e:mx (g9-d2) 0=0:=by unfold mx;split <;> omega
    rw[e,Int.zero_mul]
    exact⟨w64 (by omega),by omega,by omega⟩
theorem U9 (g0 Y g2 g3 g4 g5 g6 g7 g8 g9 d0 d1 d2:Int) (f:Nat) (hf:10<f):
    door_Rest.f f g0 Y g2 g3 g4 g5 g6 g7 g8 g9 d0 d1 d2=some (if X6 g0 Y g2 g3 g4 g5 g6 g7 g8 g9∧Xu d0 d1 d2 then (K4 g3 g6 g8 g9 d0 d1 d2,0) else (0,170)):=by
  unfold door_Rest.f
  rw[Nb _ _ _ _ _ _ _ _ _ _ f hf,Yj]
  simp only[Option.bind_some]
  obtain⟨f,rfl⟩:∃ m,f=m+1:=⟨f-1,by omega⟩
  by_cases h1:X6 g0 Y g2 g3 g4 g5 g6 g7 g8 g9
  · rw[decide_eq_true h1,if_pos rfl]
    by_cases L:Xu d0 d1 d2
    · rw[if_pos L,if_pos (show X6 g0 Y g2 g3 g4 g5 g6 g7 g8 g9∧Xu d0 d1 d2 from⟨h1,L⟩)]
      obtain⟨m1,m2,m3⟩:=Uc _ _ _ _ _ _ _ _ _ _ _ _ _ h1 L
      have a2:1≤g6∧g6≤60:=h1.1.1.2.2.2.2.2
      have a3:1≤g8∧g8≤300:=h1.2.2.1
      simp only[door_Rest.j0]
      rw[m1]
      unfold K4
      generalize(if d2<g9 then (g9-d2) * (g3+g8+g6) else 0)=p at m2 m3 ⊢
      rw[if_neg (by decide)]
      have hb:0≤d1∧d1≤300:=by omega
      by_cases Z:d0=0
      · rw[if_pos Z,if_pos Z]
      · rw[if_neg Z,if_neg Z]
        by_cases e1:d0=1
        · rw[if_pos e1,if_pos e1,w64 (n:=g8+g6) (by omega),w64 (n:=d1+(g8+g6)) (by omega),w64 (by omega)]
        · rw[if_neg e1,if_neg e1]
          by_cases e2:d0=2
          · rw[if_pos e2,if_pos e2,w64 (n:=d1+g6) (by omega),w64 (by omega)]
          · rw[if_neg e2,if_neg e2,w64 (by omega),Int.add_zero]
    · rw[if_neg L,if_neg (fun h=>L h.2)]
      simp only[door_Rest.j0]
      rw[if_pos (by decide)]
  · rw[decide_eq_false h1,if_neg (by decide),if_neg (fun h=>h1 h.1)]
    simp only[door_Rest.j0]
    rw[if_pos trivial]
theorem N9 (O X J Y Z t5 B d0 d1 d2:Int) (f:Nat) (hf:10<f):
    door_Ask.f f O X J Y Z t5 B d0 d1 d2=some (if Jt O X J Y Z t5 B∧Xu d0 d1 d2 then (if d0=0 then (1,J,0,0) else (d0,d1,d2,0)) else (0,0,0,170)):=by
  unfold door_Ask.f
  rw[V0 _ _ _ _ _ _ _ f hf,Yj]
  simp only[Option.bind_some]
  obtain⟨f,rfl⟩:∃ m,f=m+1:=⟨f-1,by omega⟩
  by_cases h1:Jt O X J Y Z t5 B
  · rw[decide_eq_true h1,if_pos rfl]
    by_cases L:Xu d0 d1 d2
    · rw[if_pos L,if_pos (show Jt O X J Y Z t5 B∧Xu d0 d1 d2 from⟨h1,L⟩)]
      simp only[door_Ask.j0]
      rw[if_neg (by decide)]
      split <;> rfl
    · rw[if_neg L,if_neg (fun h=>L h.2)]
      simp only[door_Ask.j0]
      rw[if_pos (by decide)]
  · rw[decide_eq_false h1,if_neg (by decide),if_neg (fun h=>h1 h.1)]
    simp only[door_Ask.j0]
    rw[if_pos trivial]
end Go.Proofs.Ytmfffemidlhcpaa.DoorPure
namespace Go.Proofs.Ytmfffemidlhcpaa.C
open Go.RowKit Go.Proofs.YtmfffemidlhcpaaW.PrintWords Go.Proofs.YtmfffemidlhcpaaW.PrintLast Go.Proofs.YtmfffemidlhcpaaW.PrintMore
attribute [local go_sem] Z1 Zz Z9 Z8 Zq Zp Z0 Zy
set_option linter.unusedVariables false
set_option linter.unusedSimpArgs false
def car_Check.j0:Nat→Int→Bool→Int→Int→Int→Int→Int→Int→Int→Option (Int)
 |0,_,_,_,_,_,_,_,_,_=>none
 |k+1,B,Y,Z,J,X,L,O,δ,ζ =>if X=0 then (if Y=true then (if J=0 then (if L=0 then (if O=0 then (some 0) else (some 180)) else (some 180)) else (some 180)) else (some 180)) else (if X=1 then (if Y=true then (if J=1 then ((car_within.f (wrap64 (Z+J)) 0 (wrap64 (B-1))).bind fun ι =>(if ι = true then ((car_within.f L 1 60).bind fun γ=>(if γ=true then (if O=0 then (some 0) else (some 180)) else (some 180))) else (some 180))) else (if J=(-1) then ((car_within.f (wrap64 (Z+J)) 0 (wrap64 (B-1))).bind fun κ =>(if κ = true then ((car_within.f L 1 60).bind fun ε =>(if ε = true then (if O=0 then (some 0) else (some 180)) else (some 180))) else (some 180))) else (some 180))) else (some 180)) else (if X=2 then (if Y=true then (if J=0 then ((car_within.f L 1 60).bind fun ξ =>(if ξ = true then (if O=0 then (some 0) else (some 180)) else (some 180))) else (some 180)) else (some 180)) else (if X=3 then (if Y=true then (if J=0 then (if L=0 then (if O=0 then (some 180) else (some 0)) else (some 180)) else (some 180)) else (some 180)) else (some 180))))
def car_Check.f (k:Nat) (J:Int) (μ :Int) (η :Int) (ν :Int) (τ :Int) (ρ:Int) (χ :Int) (ψ :Int):Option (Int):=(car_within.f J 2 64).bind fun σ=>(if σ=true then ((car_within.f μ 0 (wrap64 (J-1))).bind fun ζ =>(if ζ = true then ((door_Check.f ρ χ ψ).bind fun Z=>(car_Check.j0 k J (Z==0) μ η ν τ ρ χ ψ)) else (car_Check.j0 k J false μ η ν τ ρ χ ψ))) else (car_Check.j0 k J false μ η ν τ ρ χ ψ))
theorem car_Check.Zs:∀ k,(∀ O Y L J X Z y6 y7 y8,LeO (car_Check.j0 k O Y L J X Z y6 y7 y8) (car_Check.j0 (k+1) O Y L J X Z y6 y7 y8))
 |0=>fun _ _ _ _ _ _ _ _ _ r h=>by simp[car_Check.j0] at h
 |k+1=>by
  have B:=car_Check.Zs k
  ·intro O Y L J X Z y6 y7 y8
   unfold car_Check.j0
   repeat' first
   |(with_reducible exact B _ _ _ _ _ _ _ _ _)
   |(with_reducible exact LeO.refl _)
   |(with_reducible exact LeO.none _)
   |(with_reducible refine LeO.ite ?_ ?_)
   |(with_reducible refine LeO.bind ?_ (fun _=>?_))
   |exact B _ _ _ _ _ _ _ _ _
   |exact LeO.none _
   |refine LeO.ite ?_ ?_
   |refine LeO.bind ?_ (fun _=>?_)
theorem car_Check.mono:∀ J Z a2 a3 L a5 O a7 k,LeO (car_Check.f k J Z a2 a3 L a5 O a7) (car_Check.f (k+1) J Z a2 a3 L a5 O a7):=by
 intro J Z a2 a3 L a5 O a7 k
 have B:=car_Check.Zs k
 unfold car_Check.f
 repeat' first
   |(with_reducible exact B _ _ _ _ _ _ _ _ _)
   |(with_reducible exact LeO.refl _)
   |(with_reducible exact LeO.none _)
   |(with_reducible refine LeO.ite ?_ ?_)
   |(with_reducible refine LeO.bind ?_ (fun _=>?_))
   |exact B _ _ _ _ _ _ _ _ _
   |exact LeO.none _
   |refine LeO.ite ?_ ?_
   |refine LeO.bind ?_ (fun _=>?_)
set_option maxHeartbeats 8000000 in
set_option maxRecDepth 100000 in
theorem car_Check.calls (k:Nat) (J:Int) (μ :Int) (η :Int) (ν :Int) (τ :Int) (ρ:Int) (χ :Int) (ψ :Int) (r:Int) (w:World) (h:car_Check.f k J μ η ν τ ρ χ ψ = some r):
  Calls Try.prog 69 #[.int .i64 J,.agg #[.int .i64 μ,.int .i64 η,.int .i64 ν,.int .i64 τ,.int .i64 ρ,.int .i64 χ,.int .i64 ψ]] w fun e w'=>e = .returned (.int .i64 r)∧Below w.heap.size w w':=by
 have g8:=Try.underlying29
 have f8:=Try.underlying27
 have HB:=Aside0.mk (Below.refl w.heap.size w)
 have H:((car_within.f J 2 64).bind fun σ=>(if σ=true then ((car_within.f μ 0 (wrap64 (J-1))).bind fun ζ =>(if ζ = true then ((door_Check.f ρ χ ψ).bind fun Z=>(car_Check.j0 k J (Z==0) μ η ν τ ρ χ ψ)) else (car_Check.j0 k J false μ η ν τ ρ χ ψ))) else (car_Check.j0 k J false μ η ν τ ρ χ ψ)))=some r:=h
 clear h
 have a3:=Aside0.mk H
 clear H
 go_enter Try.func69,Try.ntmps69
 go_upto_region 1 with(first|((with_reducible refine Qr (N:=3) rfl ?_);refine Qq ?hg (N:=3) ?hd (cs:=#[.int .i64 μ,.int .i64 η,.int .i64 ν,.int .i64 τ,.int .i64 ρ,.int .i64 χ,.int .i64 ψ]) (t:=29) ?hr ?_;(case hd=>rfl);(case hg=>rfl);(case hr=>first|(go_simp;done)|(go_simp;rfl));intro φ hg w4 hbox hb;have L:=Aside0.mk (Qj (by repeat(first|(with_reducible first|exact HB.out|apply Qg|apply Qd|apply Qf)|exact HB.out)) hb);have O:=Aside0.mk (hbox);have X:=Aside0.mk ((by rw[hg];exact(Qi (by repeat(first|(with_reducible first|exact HB.out|apply Qg|apply Qd|apply Qf)|exact HB.out))):w.heap.size ≤ φ));have δ :=Aside0.mk ((by rw[hg];exact(Qi (by repeat(first|(with_reducible first|exact HB.out|apply Qg|apply Qd|apply Qf)|exact HB.out))):w.heap.size ≤ φ));clear HB;have HB:=L;have B:=O;have oy:=X;have Y:= δ;clear L O X δ;clear hb hbox hg))
 (try simp only[Act.put,qS])
 go_cut [5] (fun v5 wc=>∃ (kq:Nat) (θ :Bool),v5 = .bool θ ∧ Aside0 (car_Check.j0 kq J θ μ η ν τ ρ χ ψ = some r)∧Aside0 (kq≤k)∧Aside0 (wc.heap[φ]?=some (.cells #[.int .i64 μ,.int .i64 η,.int .i64 ν,.int .i64 τ,.int .i64 ρ,.int .i64 χ,.int .i64 ψ] 29 (0,0)))∧Aside0 (Below w.heap.size w wc))
 case first=>
  have H:=a3.out
  clear a3
  replace H:=Option.bind_eq_some_iff.mp H
  obtain⟨σ,bu,H⟩:=H
  replace H:(if σ=true then ((car_within.f μ 0 (wrap64 (J-1))).bind fun ζ =>(if ζ = true then ((door_Check.f ρ χ ψ).bind fun Z=>(car_Check.j0 k J (Z==0) μ η ν τ ρ χ ψ)) else (car_Check.j0 k J false μ η ν τ ρ χ ψ))) else (car_Check.j0 k J false μ η ν τ ρ χ ψ))=some r:=H
  have A5:=Aside0.mk bu
  clear bu
  by_cases c6:σ=true
  ·subst c6
   have H1:((car_within.f μ 0 (wrap64 (J-1))).bind fun ζ =>(if ζ = true then ((door_Check.f ρ χ ψ).bind fun Z=>(car_Check.j0 k J (Z==0) μ η ν τ ρ χ ψ)) else (car_Check.j0 k J false μ η ν τ ρ χ ψ)))=some r:=by rw[if_pos rfl] at H;exact H
   clear H
   have H:=H1
   clear H1
   replace H:=Option.bind_eq_some_iff.mp H
   obtain⟨ζ,dd,H⟩:=H
   replace H:(if ζ = true then ((door_Check.f ρ χ ψ).bind fun Z=>(car_Check.j0 k J (Z==0) μ η ν τ ρ χ ψ)) else (car_Check.j0 k J false μ η ν τ ρ χ ψ))=some r:=H
   have A7:=Aside0.mk dd
   clear dd
   by_cases c8: ζ = true
   ·subst c8
    have H1:((door_Check.f ρ χ ψ).bind fun Z=>(car_Check.j0 k J (Z==0) μ η ν τ ρ χ ψ))=some r:=by rw[if_pos rfl] at H;exact H
    clear H
    have H:=H1
    clear H1
    replace H:=Option.bind_eq_some_iff.mp H
    obtain⟨Z,cn,H⟩:=H
    replace H:(car_Check.j0 k J (Z==0) μ η ν τ ρ χ ψ)=some r:=H
    have A9:=Aside0.mk cn
    clear cn
    have H':=Aside0.mk H
    clear H
    go_wp2_with (first|((with_reducible refine Qt (f:=85) rfl ?_);refine Q7 (some 8) rfl rfl Try.func85 kr rfl #[.int .i64 J,.int .i64 2,.int .i64 64] rfl (by(try simp only[List.map_toArray,List.map_cons,List.map_nil]);first|done|rfl|(simp only[List.length_drop,List.length_take];rfl)) ?_;(with_reducible refine(car_within.calls J 2 64 true _ A5.out).mono ?_);rintro e w' ⟨rfl,⟨nd,rfl⟩⟩;refine⟨_,rfl, ?_⟩;obtain⟨aw,bb,da,dq,dr,dt,du,dx,ec,ed,ee,ef,eg,eh⟩:=qD7 B.out)|(go_at_call 85;(with_reducible refine(car_within.calls μ 0 (wrap64 (J-1)) true _ A7.out).mono ?_);rintro e w' ⟨rfl,⟨nd,rfl⟩⟩)|(go_at_call 71;(with_reducible refine(door_Check.calls ρ χ ψ Z _ A9.out).mono ?_);rintro e em ⟨rfl,hb⟩;have L:=Aside0.mk (Qh (g:= φ) (o:=.cells #[.int .i64 μ,.int .i64 η,.int .i64 ν,.int .i64 τ,.int .i64 ρ,.int .i64 χ,.int .i64 ψ] 29 (0,0)) (by(with_reducible repeat first|apply Qb|apply Qe|apply Qc);exact B.out) hb);have O:=Aside0.mk (Qj (by repeat(first|(with_reducible first|exact HB.out|apply Qg|apply Qd|apply Qf|refine Qa ?_ Y.out)|exact HB.out)) hb);clear B;clear HB;have B:=L;have HB:=O;clear L O;(try clear hb);(try clear ak);(try clear hk);(try clear hi)))
    go_meet
    case rel=>exact⟨_,((Z==0)),qR,H',⟨by first|omega|exact Nat.le_refl _⟩,⟨by(with_reducible repeat first|apply Qb|apply Qe|apply Qc);exact B.out⟩,⟨by repeat(first|(with_reducible first|exact HB.out|apply Qg|apply Qd|apply Qf|refine Qa ?_ Y.out)|exact HB.out)⟩⟩
   ·replace c8:=Bool.eq_false_iff.mpr c8
    subst c8
    have H1:(car_Check.j0 k J false μ η ν τ ρ χ ψ)=some r:=by rw[if_neg (show ¬ (false=true) by decide)] at H;exact H
    clear H
    have H:=H1
    clear H1
    have H':=Aside0.mk H
    clear H
    go_wp2_with (first|((with_reducible refine Qt (f:=85) rfl ?_);refine Q7 (some 8) rfl rfl Try.func85 kr rfl #[.int .i64 J,.int .i64 2,.int .i64 64] rfl (by(try simp only[List.map_toArray,List.map_cons,List.map_nil]);first|done|rfl|(simp only[List.length_drop,List.length_take];rfl)) ?_;(with_reducible refine(car_within.calls J 2 64 true _ A5.out).mono ?_);rintro e w' ⟨rfl,⟨nd,rfl⟩⟩;refine⟨_,rfl, ?_⟩;obtain⟨ac,ae,aj,ao,ar,au,ax,af,ah,an,ay,az,b0,b4⟩:=qD7 B.out)|(go_at_call 85;(with_reducible refine(car_within.calls μ 0 (wrap64 (J-1)) false _ A7.out).mono ?_);rintro e w' ⟨rfl,⟨nd,rfl⟩⟩))
    go_meet
    case rel=>exact⟨_,(false),qR,H',⟨by first|omega|exact Nat.le_refl _⟩,⟨by(with_reducible repeat first|apply Qb|apply Qe|apply Qc);exact B.out⟩,⟨by repeat(first|(with_reducible first|exact HB.out|apply Qg|apply Qd|apply Qf|refine Qa ?_ Y.out)|exact HB.out)⟩⟩
  ·replace c6:=Bool.eq_false_iff.mpr c6
   subst c6
   have H1:(car_Check.j0 k J false μ η ν τ ρ χ ψ)=some r:=by rw[if_neg (show ¬ (false=true) by decide)] at H;exact H
   clear H
   have H:=H1
   clear H1
   have H':=Aside0.mk H
   clear H
   go_wp2_with (first|((with_reducible refine Qt (f:=85) rfl ?_);refine Q7 (some 8) rfl rfl Try.func85 kr rfl #[.int .i64 J,.int .i64 2,.int .i64 64] rfl (by(try simp only[List.map_toArray,List.map_cons,List.map_nil]);first|done|rfl|(simp only[List.length_drop,List.length_take];rfl)) ?_;(with_reducible refine(car_within.calls J 2 64 false _ A5.out).mono ?_);rintro e w' ⟨rfl,⟨nd,rfl⟩⟩;refine⟨_,rfl, ?_⟩))
   go_meet
   case rel=>exact⟨_,(false),qR,H',⟨by first|omega|exact Nat.le_refl _⟩,⟨by(with_reducible repeat first|apply Qb|apply Qe|apply Qc);exact B.out⟩,⟨by repeat(first|(with_reducible first|exact HB.out|apply Qg|apply Qd|apply Qf|refine Qa ?_ Y.out)|exact HB.out)⟩⟩
 case rest=>
  clear a3
  try clear p2
  try clear c6
  try clear p6
  try clear c8
  try clear aw
  try clear bb
  try clear da
  try clear dq
  try clear dr
  try clear dt
  try clear du
  try clear ac
  try clear ae
  try clear aj
  try clear ao
  try clear ar
  try clear au
  try clear ax
  try clear dx
  try clear ec
  try clear ed
  try clear ee
  try clear ef
  try clear eg
  try clear eh
  try clear af
  try clear ah
  try clear an
  try clear ay
  try clear az
  try clear b0
  try clear b4
  obtain⟨kq,θ,rfl,HA,mw,B,HB⟩:=hcut
  cases kq with
  |zero=>exact absurd HA.out (by simp[car_Check.j0])
  |succ my=>
   have H:=HA.out
   clear HA
   simp only[car_Check.j0] at H
   by_cases ap: ν = 0
   ·rw[if_pos ap] at H
    have c13b0:(ν == 0)=true:=beq_iff_eq.mpr ap
    have c13b1:(ν != 0)=false:=bne_eq_false_iff_eq.mpr ap
    clear ap
    by_cases al: θ = true
    ·subst al
     have H1:(if η = 0 then (if τ = 0 then (if ρ=0 then (some 0) else (some 180)) else (some 180)) else (some 180))=some r:=by rw[if_pos rfl] at H;exact H
     clear H
     have H:=H1
     clear H1
     by_cases am: η = 0
     ·rw[if_pos am] at H
      have c15b0:(η == 0)=true:=beq_iff_eq.mpr am
      have c15b1:(η != 0)=false:=bne_eq_false_iff_eq.mpr am
      clear am
      by_cases aa: τ = 0
      ·rw[if_pos aa] at H
       have c16b0:(τ == 0)=true:=beq_iff_eq.mpr aa
       have c16b1:(τ != 0)=false:=bne_eq_false_iff_eq.mpr aa
       clear aa
       by_cases a5:ρ=0
       ·rw[if_pos a5] at H
        have c17b0:(ρ==0)=true:=beq_iff_eq.mpr a5
        have c17b1:(ρ != 0)=false:=bne_eq_false_iff_eq.mpr a5
        clear a5
        obtain rfl:=Option.some.inj H
        obtain⟨cp,cq,dm,fk,fl,fm,fn,cr,ct,dp,fo,fp,fq,fr⟩:=qD7 B.out
        go_wp2
        go_ret
        exact⟨by first|rfl|(simp[Qo,Qn] <;> rfl)|(simp[*,Qo,Qn] <;> rfl),by repeat(first|(with_reducible first|exact HB.out|apply Qg|apply Qd|apply Qf|refine Qa ?_ Y.out)|exact HB.out)⟩
       ·rw[if_neg a5] at H
        have c17b0:(ρ==0)=false:=beq_eq_false_iff_ne.mpr a5
        have c17b1:(ρ != 0)=true:=bne_iff_ne.mpr a5
        obtain rfl:=Option.some.inj H
        obtain⟨b1,b2,bd,bj,bk,bm,br,b3,ba,be,bv,bw,bz,ca⟩:=qD7 B.out
        go_wp2
        go_ret
        exact⟨by first|rfl|(simp[Qo,Qn] <;> rfl)|(simp[*,Qo,Qn] <;> rfl),by repeat(first|(with_reducible first|exact HB.out|apply Qg|apply Qd|apply Qf|refine Qa ?_ Y.out)|exact HB.out)⟩
      ·rw[if_neg aa] at H
       have c16b0:(τ == 0)=false:=beq_eq_false_iff_ne.mpr aa
       have c16b1:(τ != 0)=true:=bne_iff_ne.mpr aa
       obtain rfl:=Option.some.inj H
       obtain⟨cb,cd,ch,e6,e7,he,hh,ce,cg,d8,hj,hl,ho,hu⟩:=qD7 B.out
       go_wp2
       go_ret
       exact⟨by first|rfl|(simp[Qo,Qn] <;> rfl)|(simp[*,Qo,Qn] <;> rfl),by repeat(first|(with_reducible first|exact HB.out|apply Qg|apply Qd|apply Qf|refine Qa ?_ Y.out)|exact HB.out)⟩
     ·rw[if_neg am] at H
      have c15b0:(η == 0)=false:=beq_eq_false_iff_ne.mpr am
      have c15b1:(η != 0)=true:=bne_iff_ne.mpr am
      obtain rfl:=Option.some.inj H
      obtain⟨jt,ju,jw,jx,jy,jz,k0,k1,k2,k3,k4,k5,k6,k7⟩:=qD7 B.out
      go_wp2
      go_ret
      exact⟨by first|rfl|(simp[Qo,Qn] <;> rfl)|(simp[*,Qo,Qn] <;> rfl),by repeat(first|(with_reducible first|exact HB.out|apply Qg|apply Qd|apply Qf|refine Qa ?_ Y.out)|exact HB.out)⟩
    ·replace al:=Bool.eq_false_iff.mpr al
     subst al
     have H1:(some 180)=some r:=by rw[if_neg (show ¬ (false=true) by decide)] at H;exact H
     clear H
     have H:=H1
     clear H1
     obtain rfl:=Option.some.inj H
     obtain⟨cu,cv,e8,hx,hy,i0,i1,cw,cx,e9,i2,i3,i4,i5⟩:=qD7 B.out
     go_wp2
     go_ret
     exact⟨by first|rfl|(simp[Qo,Qn] <;> rfl)|(simp[*,Qo,Qn] <;> rfl),by repeat(first|(with_reducible first|exact HB.out|apply Qg|apply Qd|apply Qf|refine Qa ?_ Y.out)|exact HB.out)⟩
   ·rw[if_neg ap] at H
    have c13b0:(ν == 0)=false:=beq_eq_false_iff_ne.mpr ap
    have c13b1:(ν != 0)=true:=bne_iff_ne.mpr ap
    by_cases bo: ν = 1
    ·rw[if_pos bo] at H
     have c23b0:(ν == 1)=true:=beq_iff_eq.mpr bo
     have c23b1:(ν != 1)=false:=bne_eq_false_iff_eq.mpr bo
     clear bo
     by_cases dw: θ = true
     ·subst dw
      have H1:(if η = 1 then ((car_within.f (wrap64 (μ + η)) 0 (wrap64 (J-1))).bind fun ι =>(if ι = true then ((car_within.f τ 1 60).bind fun γ=>(if γ=true then (if ρ=0 then (some 0) else (some 180)) else (some 180))) else (some 180))) else (if η = (-1) then ((car_within.f (wrap64 (μ + η)) 0 (wrap64 (J-1))).bind fun κ =>(if κ = true then ((car_within.f τ 1 60).bind fun ε =>(if ε = true then (if ρ=0 then (some 0) else (some 180)) else (some 180))) else (some 180))) else (some 180)))=some r:=by rw[if_pos rfl] at H;exact H
      clear H
      have H:=H1
      clear H1
      by_cases b5: η = 1
      ·rw[if_pos b5] at H
       have c25b0:(η == 1)=true:=beq_iff_eq.mpr b5
       have c25b1:(η != 1)=false:=bne_eq_false_iff_eq.mpr b5
       clear b5
       replace H:=Option.bind_eq_some_iff.mp H
       obtain⟨ι,df,H⟩:=H
       replace H:(if ι = true then ((car_within.f τ 1 60).bind fun γ=>(if γ=true then (if ρ=0 then (some 0) else (some 180)) else (some 180))) else (some 180))=some r:=H
       have ic:=Aside0.mk df
       clear df
       by_cases ev: ι = true
       ·subst ev
        have H1:((car_within.f τ 1 60).bind fun γ=>(if γ=true then (if ρ=0 then (some 0) else (some 180)) else (some 180)))=some r:=by rw[if_pos rfl] at H;exact H
        clear H
        have H:=H1
        clear H1
        replace H:=Option.bind_eq_some_iff.mp H
        obtain⟨γ,bc,H⟩:=H
        replace H:(if γ=true then (if ρ=0 then (some 0) else (some 180)) else (some 180))=some r:=H
        have cy:=Aside0.mk bc
        clear bc
        by_cases cm:γ=true
        ·subst cm
         have H1:(if ρ=0 then (some 0) else (some 180))=some r:=by rw[if_pos rfl] at H;exact H
         clear H
         have H:=H1
         clear H1
         by_cases ep:ρ=0
         ·rw[if_pos ep] at H
          have c30b0:(ρ==0)=true:=beq_iff_eq.mpr ep
          have c30b1:(ρ != 0)=false:=bne_eq_false_iff_eq.mpr ep
          clear ep
          obtain rfl:=Option.some.inj H
          obtain⟨d9,db,dj,ey,fe,fj,fz,dk,dl,dv,g0,g1,g2,g3⟩:=qD7 B.out
          go_wp2_with (first|(go_at_call 85;(with_reducible refine(car_within.calls (wrap64 (μ + η)) 0 (wrap64 (J-1)) true _ ic.out).mono ?_);rintro e w' ⟨rfl,⟨nd,rfl⟩⟩)|(go_at_call 85;(with_reducible refine(car_within.calls τ 1 60 true _ cy.out).mono ?_);rintro e w' ⟨rfl,⟨nd,rfl⟩⟩))
          go_ret
          exact⟨by first|rfl|(simp[Qo,Qn] <;> rfl)|(simp[*,Qo,Qn] <;> rfl),by repeat(first|(with_reducible first|exact HB.out|apply Qg|apply Qd|apply Qf|refine Qa ?_ Y.out)|exact HB.out)⟩
         ·rw[if_neg ep] at H
          have c30b0:(ρ==0)=false:=beq_eq_false_iff_ne.mpr ep
          have c30b1:(ρ != 0)=true:=bne_iff_ne.mpr ep
          obtain rfl:=Option.some.inj H
          obtain⟨fi,i6,i7,k8,k9,ka,kb,i9,ia,ib,kc,kd,ke,kf⟩:=qD7 B.out
          go_wp2_with (first|(go_at_call 85;(with_reducible refine(car_within.calls (wrap64 (μ + η)) 0 (wrap64 (J-1)) true _ ic.out).mono ?_);rintro e w' ⟨rfl,⟨nd,rfl⟩⟩)|(go_at_call 85;(with_reducible refine(car_within.calls τ 1 60 true _ cy.out).mono ?_);rintro e w' ⟨rfl,⟨nd,rfl⟩⟩))
          go_ret
          exact⟨by first|rfl|(simp[Qo,Qn] <;> rfl)|(simp[*,Qo,Qn] <;> rfl),by repeat(first|(with_reducible first|exact HB.out|apply Qg|apply Qd|apply Qf|refine Qa ?_ Y.out)|exact HB.out)⟩
        ·replace cm:=Bool.eq_false_iff.mpr cm
         subst cm
         have H1:(some 180)=some r:=by rw[if_neg (show ¬ (false=true) by decide)] at H;exact H
         clear H
         have H:=H1
         clear H1
         obtain rfl:=Option.some.inj H
         obtain⟨de,dy,e3,fw,fx,g4,g5,dz,e0,ej,g9,ga,gh,gi⟩:=qD7 B.out
         go_wp2_with (first|(go_at_call 85;(with_reducible refine(car_within.calls (wrap64 (μ + η)) 0 (wrap64 (J-1)) true _ ic.out).mono ?_);rintro e w' ⟨rfl,⟨nd,rfl⟩⟩)|(go_at_call 85;(with_reducible refine(car_within.calls τ 1 60 false _ cy.out).mono ?_);rintro e w' ⟨rfl,⟨nd,rfl⟩⟩))
         go_ret
         exact⟨by first|rfl|(simp[Qo,Qn] <;> rfl)|(simp[*,Qo,Qn] <;> rfl),by repeat(first|(with_reducible first|exact HB.out|apply Qg|apply Qd|apply Qf|refine Qa ?_ Y.out)|exact HB.out)⟩
       ·replace ev:=Bool.eq_false_iff.mpr ev
        subst ev
        have H1:(some 180)=some r:=by rw[if_neg (show ¬ (false=true) by decide)] at H;exact H
        clear H
        have H:=H1
        clear H1
        obtain rfl:=Option.some.inj H
        obtain⟨ci,d3,d4,b6,b7,bg,cz,co,d5,d6,d7,fg,fh,js⟩:=qD7 B.out
        go_wp2_with (first|(go_at_call 85;(with_reducible refine(car_within.calls (wrap64 (μ + η)) 0 (wrap64 (J-1)) false _ ic.out).mono ?_);rintro e w' ⟨rfl,⟨nd,rfl⟩⟩))
        go_ret
        exact⟨by first|rfl|(simp[Qo,Qn] <;> rfl)|(simp[*,Qo,Qn] <;> rfl),by repeat(first|(with_reducible first|exact HB.out|apply Qg|apply Qd|apply Qf|refine Qa ?_ Y.out)|exact HB.out)⟩
      ·rw[if_neg b5] at H
       have c25b0:(η == 1)=false:=beq_eq_false_iff_ne.mpr b5
       have c25b1:(η != 1)=true:=bne_iff_ne.mpr b5
       by_cases eo: η = (-1)
       ·rw[if_pos eo] at H
        have c35b0:(η == (-1))=true:=beq_iff_eq.mpr eo
        have c35b1:(η != (-1))=false:=bne_eq_false_iff_eq.mpr eo
        clear eo
        replace H:=Option.bind_eq_some_iff.mp H
        obtain⟨κ,a4,H⟩:=H
        replace H:(if κ = true then ((car_within.f τ 1 60).bind fun ε =>(if ε = true then (if ρ=0 then (some 0) else (some 180)) else (some 180))) else (some 180))=some r:=H
        have a1:=Aside0.mk a4
        clear a4
        by_cases dh: κ = true
        ·subst dh
         have H1:((car_within.f τ 1 60).bind fun ε =>(if ε = true then (if ρ=0 then (some 0) else (some 180)) else (some 180)))=some r:=by rw[if_pos rfl] at H;exact H
         clear H
         have H:=H1
         clear H1
         replace H:=Option.bind_eq_some_iff.mp H
         obtain⟨ε,d2,H⟩:=H
         replace H:(if ε = true then (if ρ=0 then (some 0) else (some 180)) else (some 180))=some r:=H
         have e4:=Aside0.mk d2
         clear d2
         by_cases g6: ε = true
         ·subst g6
          have H1:(if ρ=0 then (some 0) else (some 180))=some r:=by rw[if_pos rfl] at H;exact H
          clear H
          have H:=H1
          clear H1
          by_cases ei:ρ=0
          ·rw[if_pos ei] at H
           have c40b0:(ρ==0)=true:=beq_iff_eq.mpr ei
           have c40b1:(ρ != 0)=false:=bne_eq_false_iff_eq.mpr ei
           clear ei
           obtain rfl:=Option.some.inj H
           obtain⟨ea,eb,di,ie,ig,ih,ii,fc,ff,ez,ij,ik,il,im⟩:=qD7 B.out
           go_wp2_with (first|(go_at_call 85;(with_reducible refine(car_within.calls (wrap64 (μ + η)) 0 (wrap64 (J-1)) true _ a1.out).mono ?_);rintro e w' ⟨rfl,⟨nd,rfl⟩⟩)|(go_at_call 85;(with_reducible refine(car_within.calls τ 1 60 true _ e4.out).mono ?_);rintro e w' ⟨rfl,⟨nd,rfl⟩⟩))
           go_ret
           exact⟨by first|rfl|(simp[Qo,Qn] <;> rfl)|(simp[*,Qo,Qn] <;> rfl),by repeat(first|(with_reducible first|exact HB.out|apply Qg|apply Qd|apply Qf|refine Qa ?_ Y.out)|exact HB.out)⟩
          ·rw[if_neg ei] at H
           have c40b0:(ρ==0)=false:=beq_eq_false_iff_ne.mpr ei
           have c40b1:(ρ != 0)=true:=bne_iff_ne.mpr ei
           obtain rfl:=Option.some.inj H
           obtain⟨ek,el,en,io,ip,iq,ir,et,eu,fa,it,iu,iv,iw⟩:=qD7 B.out
           go_wp2_with (first|(go_at_call 85;(with_reducible refine(car_within.calls (wrap64 (μ + η)) 0 (wrap64 (J-1)) true _ a1.out).mono ?_);rintro e w' ⟨rfl,⟨nd,rfl⟩⟩)|(go_at_call 85;(with_reducible refine(car_within.calls τ 1 60 true _ e4.out).mono ?_);rintro e w' ⟨rfl,⟨nd,rfl⟩⟩))
           go_ret
           exact⟨by first|rfl|(simp[Qo,Qn] <;> rfl)|(simp[*,Qo,Qn] <;> rfl),by repeat(first|(with_reducible first|exact HB.out|apply Qg|apply Qd|apply Qf|refine Qa ?_ Y.out)|exact HB.out)⟩
         ·replace g6:=Bool.eq_false_iff.mpr g6
          subst g6
          have H1:(some 180)=some r:=by rw[if_neg (show ¬ (false=true) by decide)] at H;exact H
          clear H
          have H:=H1
          clear H1
          obtain rfl:=Option.some.inj H
          obtain⟨kg,kh,ki,kj,kk,kl,km,kv,kw,kx,ky,kz,l2,l3⟩:=qD7 B.out
          go_wp2_with (first|(go_at_call 85;(with_reducible refine(car_within.calls (wrap64 (μ + η)) 0 (wrap64 (J-1)) true _ a1.out).mono ?_);rintro e w' ⟨rfl,⟨nd,rfl⟩⟩)|(go_at_call 85;(with_reducible refine(car_within.calls τ 1 60 false _ e4.out).mono ?_);rintro e w' ⟨rfl,⟨nd,rfl⟩⟩))
          go_ret
          exact⟨by first|rfl|(simp[Qo,Qn] <;> rfl)|(simp[*,Qo,Qn] <;> rfl),by repeat(first|(with_reducible first|exact HB.out|apply Qg|apply Qd|apply Qf|refine Qa ?_ Y.out)|exact HB.out)⟩
        ·replace dh:=Bool.eq_false_iff.mpr dh
         subst dh
         have H1:(some 180)=some r:=by rw[if_neg (show ¬ (false=true) by decide)] at H;exact H
         clear H
         have H:=H1
         clear H1
         obtain rfl:=Option.some.inj H
         obtain⟨bs,ft,gb,ge,gf,gg,gj,fb,fu,gk,gl,gm,gp,gq⟩:=qD7 B.out
         go_wp2_with (first|(go_at_call 85;(with_reducible refine(car_within.calls (wrap64 (μ + η)) 0 (wrap64 (J-1)) false _ a1.out).mono ?_);rintro e w' ⟨rfl,⟨nd,rfl⟩⟩))
         go_ret
         exact⟨by first|rfl|(simp[Qo,Qn] <;> rfl)|(simp[*,Qo,Qn] <;> rfl),by repeat(first|(with_reducible first|exact HB.out|apply Qg|apply Qd|apply Qf|refine Qa ?_ Y.out)|exact HB.out)⟩
       ·rw[if_neg eo] at H
        have c35b0:(η == (-1))=false:=beq_eq_false_iff_ne.mpr eo
        have c35b1:(η != (-1))=true:=bne_iff_ne.mpr eo
        obtain rfl:=Option.some.inj H
        obtain⟨fy,gn,ix,iy,iz,j2,j3,gr,gs,j4,j5,j6,j7,j8⟩:=qD7 B.out
        go_wp2
        go_ret
        exact⟨by first|rfl|(simp[Qo,Qn] <;> rfl)|(simp[*,Qo,Qn] <;> rfl),by repeat(first|(with_reducible first|exact HB.out|apply Qg|apply Qd|apply Qf|refine Qa ?_ Y.out)|exact HB.out)⟩
     ·replace dw:=Bool.eq_false_iff.mpr dw
      subst dw
      have H1:(some 180)=some r:=by rw[if_neg (show ¬ (false=true) by decide)] at H;exact H
      clear H
      have H:=H1
      clear H1
      obtain rfl:=Option.some.inj H
      obtain⟨gt,gu,j9,ja,jb,jc,jd,gv,gw,je,jf,jg,jh,ji⟩:=qD7 B.out
      go_wp2
      go_ret
      exact⟨by first|rfl|(simp[Qo,Qn] <;> rfl)|(simp[*,Qo,Qn] <;> rfl),by repeat(first|(with_reducible first|exact HB.out|apply Qg|apply Qd|apply Qf|refine Qa ?_ Y.out)|exact HB.out)⟩
    ·rw[if_neg bo] at H
     have c23b0:(ν == 1)=false:=beq_eq_false_iff_ne.mpr bo
     have c23b1:(ν != 1)=true:=bne_iff_ne.mpr bo
     by_cases g7: ν = 2
     ·rw[if_pos g7] at H
      have c47b0:(ν == 2)=true:=beq_iff_eq.mpr g7
      have c47b1:(ν != 2)=false:=bne_eq_false_iff_eq.mpr g7
      clear g7
      by_cases a2: θ = true
      ·subst a2
       have H1:(if η = 0 then ((car_within.f τ 1 60).bind fun ξ =>(if ξ = true then (if ρ=0 then (some 0) else (some 180)) else (some 180))) else (some 180))=some r:=by rw[if_pos rfl] at H;exact H
       clear H
       have H:=H1
       clear H1
       by_cases ew: η = 0
       ·rw[if_pos ew] at H
        have c49b0:(η == 0)=true:=beq_iff_eq.mpr ew
        have c49b1:(η != 0)=false:=bne_eq_false_iff_eq.mpr ew
        clear ew
        replace H:=Option.bind_eq_some_iff.mp H
        obtain⟨ξ,a6,H⟩:=H
        replace H:(if ξ = true then (if ρ=0 then (some 0) else (some 180)) else (some 180))=some r:=H
        have bu:=Aside0.mk a6
        clear a6
        by_cases jj: ξ = true
        ·subst jj
         have H1:(if ρ=0 then (some 0) else (some 180))=some r:=by rw[if_pos rfl] at H;exact H
         clear H
         have H:=H1
         clear H1
         by_cases h8:ρ=0
         ·rw[if_pos h8] at H
          have c52b0:(ρ==0)=true:=beq_iff_eq.mpr h8
          have c52b1:(ρ != 0)=false:=bne_eq_false_iff_eq.mpr h8
          clear h8
          obtain rfl:=Option.some.inj H
          obtain⟨l4,l5,l6,a7,a8,a9,ab,l7,l8,l9,ag,ai,av,b8⟩:=qD7 B.out
          go_wp2_with (first|(go_at_call 85;(with_reducible refine(car_within.calls τ 1 60 true _ bu.out).mono ?_);rintro e w' ⟨rfl,⟨nd,rfl⟩⟩))
          go_ret
          exact⟨by first|rfl|(simp[Qo,Qn] <;> rfl)|(simp[*,Qo,Qn] <;> rfl),by repeat(first|(with_reducible first|exact HB.out|apply Qg|apply Qd|apply Qf|refine Qa ?_ Y.out)|exact HB.out)⟩
         ·rw[if_neg h8] at H
          have c52b0:(ρ==0)=false:=beq_eq_false_iff_ne.mpr h8
          have c52b1:(ρ != 0)=true:=bne_iff_ne.mpr h8
          obtain rfl:=Option.some.inj H
          obtain⟨kn,ko,kp,ks,kt,ku,lb,lc,lf,lg,lh,ll,lm,ln⟩:=qD7 B.out
          go_wp2_with (first|(go_at_call 85;(with_reducible refine(car_within.calls τ 1 60 true _ bu.out).mono ?_);rintro e w' ⟨rfl,⟨nd,rfl⟩⟩))
          go_ret
          exact⟨by first|rfl|(simp[Qo,Qn] <;> rfl)|(simp[*,Qo,Qn] <;> rfl),by repeat(first|(with_reducible first|exact HB.out|apply Qg|apply Qd|apply Qf|refine Qa ?_ Y.out)|exact HB.out)⟩
        ·replace jj:=Bool.eq_false_iff.mpr jj
         subst jj
         have H1:(some 180)=some r:=by rw[if_neg (show ¬ (false=true) by decide)] at H;exact H
         clear H
         have H:=H1
         clear H1
         obtain rfl:=Option.some.inj H
         obtain⟨gx,gy,jk,b9,bf,bh,bi,gz,h0,jl,bl,bn,bp,bq⟩:=qD7 B.out
         go_wp2_with (first|(go_at_call 85;(with_reducible refine(car_within.calls τ 1 60 false _ bu.out).mono ?_);rintro e w' ⟨rfl,⟨nd,rfl⟩⟩))
         go_ret
         exact⟨by first|rfl|(simp[Qo,Qn] <;> rfl)|(simp[*,Qo,Qn] <;> rfl),by repeat(first|(with_reducible first|exact HB.out|apply Qg|apply Qd|apply Qf|refine Qa ?_ Y.out)|exact HB.out)⟩
       ·rw[if_neg ew] at H
        have c49b0:(η == 0)=false:=beq_eq_false_iff_ne.mpr ew
        have c49b1:(η != 0)=true:=bne_iff_ne.mpr ew
        obtain rfl:=Option.some.inj H
        obtain⟨cf,cj,ck,d0,d1,e5,mz,n0,n1,n2,n3,na,nb,nc⟩:=qD7 B.out
        go_wp2
        go_ret
        exact⟨by first|rfl|(simp[Qo,Qn] <;> rfl)|(simp[*,Qo,Qn] <;> rfl),by repeat(first|(with_reducible first|exact HB.out|apply Qg|apply Qd|apply Qf|refine Qa ?_ Y.out)|exact HB.out)⟩
      ·replace a2:=Bool.eq_false_iff.mpr a2
       subst a2
       have H1:(some 180)=some r:=by rw[if_neg (show ¬ (false=true) by decide)] at H;exact H
       clear H
       have H:=H1
       clear H1
       obtain rfl:=Option.some.inj H
       obtain⟨jm,jn,jo,nf,ng,nh,ni,jp,jq,jr,nj,nk,nl,nm⟩:=qD7 B.out
       go_wp2
       go_ret
       exact⟨by first|rfl|(simp[Qo,Qn] <;> rfl)|(simp[*,Qo,Qn] <;> rfl),by repeat(first|(with_reducible first|exact HB.out|apply Qg|apply Qd|apply Qf|refine Qa ?_ Y.out)|exact HB.out)⟩
     ·rw[if_neg g7] at H
      have c47b0:(ν == 2)=false:=beq_eq_false_iff_ne.mpr g7
      have c47b1:(ν != 2)=true:=bne_iff_ne.mpr g7
      by_cases dn: ν = 3
      ·rw[if_pos dn] at H
       have c58b0:(ν == 3)=true:=beq_iff_eq.mpr dn
       have c58b1:(ν != 3)=false:=bne_eq_false_iff_eq.mpr dn
       clear dn
       by_cases jv: θ = true
       ·subst jv
        have H1:(if η = 0 then (if τ = 0 then (if ρ=0 then (some 180) else (some 0)) else (some 180)) else (some 180))=some r:=by rw[if_pos rfl] at H;exact H
        clear H
        have H:=H1
        clear H1
        by_cases ω : η = 0
        ·rw[if_pos ω] at H
         have c60b0:(η == 0)=true:=beq_iff_eq.mpr ω
         have c60b1:(η != 0)=false:=bne_eq_false_iff_eq.mpr ω
         clear ω
         by_cases h9: τ = 0
         ·rw[if_pos h9] at H
          have c61b0:(τ == 0)=true:=beq_iff_eq.mpr h9
          have c61b1:(τ != 0)=false:=bne_eq_false_iff_eq.mpr h9
          clear h9
          by_cases ha:ρ=0
          ·rw[if_pos ha] at H
           have c62b0:(ρ==0)=true:=beq_iff_eq.mpr ha
           have c62b1:(ρ != 0)=false:=bne_eq_false_iff_eq.mpr ha
           clear ha
           obtain rfl:=Option.some.inj H
           obtain⟨nn,no,np,nq,nr,ns,nt,nu,nv,nw,nx,ny,nz,o0⟩:=qD7 B.out
           go_wp2
           go_ret
           exact⟨by first|rfl|(simp[Qo,Qn] <;> rfl)|(simp[*,Qo,Qn] <;> rfl),by repeat(first|(with_reducible first|exact HB.out|apply Qg|apply Qd|apply Qf|refine Qa ?_ Y.out)|exact HB.out)⟩
          ·rw[if_neg ha] at H
           have c62b0:(ρ==0)=false:=beq_eq_false_iff_ne.mpr ha
           have c62b1:(ρ != 0)=true:=bne_iff_ne.mpr ha
           obtain rfl:=Option.some.inj H
           obtain⟨h4,h5,lp,o1,o2,o3,o4,h6,h7,lq,o5,o6,o7,o8⟩:=qD7 B.out
           go_wp2
           go_ret
           exact⟨by first|rfl|(simp[Qo,Qn] <;> rfl)|(simp[*,Qo,Qn] <;> rfl),by repeat(first|(with_reducible first|exact HB.out|apply Qg|apply Qd|apply Qf|refine Qa ?_ Y.out)|exact HB.out)⟩
         ·rw[if_neg h9] at H
          have c61b0:(τ == 0)=false:=beq_eq_false_iff_ne.mpr h9
          have c61b1:(τ != 0)=true:=bne_iff_ne.mpr h9
          obtain rfl:=Option.some.inj H
          obtain⟨lr,ls,lu,lv,lw,lx,ly,lz,m0,m1,m2,m3,m4,m5⟩:=qD7 B.out
          go_wp2
          go_ret
          exact⟨by first|rfl|(simp[Qo,Qn] <;> rfl)|(simp[*,Qo,Qn] <;> rfl),by repeat(first|(with_reducible first|exact HB.out|apply Qg|apply Qd|apply Qf|refine Qa ?_ Y.out)|exact HB.out)⟩
        ·rw[if_neg ω] at H
         have c60b0:(η == 0)=false:=beq_eq_false_iff_ne.mpr ω
         have c60b1:(η != 0)=true:=bne_iff_ne.mpr ω
         obtain rfl:=Option.some.inj H
         obtain⟨dc,er,o9,oa,ob,oc,od,fv,m6,oe,oh,oi,oj,ol⟩:=qD7 B.out
         go_wp2
         go_ret
         exact⟨by first|rfl|(simp[Qo,Qn] <;> rfl)|(simp[*,Qo,Qn] <;> rfl),by repeat(first|(with_reducible first|exact HB.out|apply Qg|apply Qd|apply Qf|refine Qa ?_ Y.out)|exact HB.out)⟩
       ·replace jv:=Bool.eq_false_iff.mpr jv
        subst jv
        have H1:(some 180)=some r:=by rw[if_neg (show ¬ (false=true) by decide)] at H;exact H
        clear H
        have H:=H1
        clear H1
        obtain rfl:=Option.some.inj H
        obtain⟨m7,m8,m9,ma,mb,mc,me,mf,mg,mh,mi,mj,ml,mm⟩:=qD7 B.out
        go_wp2
        go_ret
        exact⟨by first|rfl|(simp[Qo,Qn] <;> rfl)|(simp[*,Qo,Qn] <;> rfl),by repeat(first|(with_reducible first|exact HB.out|apply Qg|apply Qd|apply Qf|refine Qa ?_ Y.out)|exact HB.out)⟩
      ·rw[if_neg dn] at H
       have c58b0:(ν == 3)=false:=beq_eq_false_iff_ne.mpr dn
       have c58b1:(ν != 3)=true:=bne_iff_ne.mpr dn
       obtain rfl:=Option.some.inj H
       obtain⟨mo,mq,mr,om,oo,oq,ot,ms,mt,mu,ou,ov,ow,ox⟩:=qD7 B.out
       go_wp2
       go_ret
       exact⟨by first|rfl|(simp[Qo,Qn] <;> rfl)|(simp[*,Qo,Qn] <;> rfl),by repeat(first|(with_reducible first|exact HB.out|apply Qg|apply Qd|apply Qf|refine Qa ?_ Y.out)|exact HB.out)⟩
def car_check.f (k:Nat) (J:Int) (B:Int) (Y:Int) (Z:Int) (γ:Int) (ζ :Int) (ε :Int) (κ :Int) (ι :Int) (θ :Int) (μ :Int) (η :Int) (ν :Int) (τ :Int) (ρ:Int) (χ :Int) (ψ :Int):Option (Int):=(door_Rest.f k J B Y Z γ ζ ε κ ι θ 0 0 0).bind fun a9=>(if a9.2=0 then ((car_Check.f k J μ η ν τ ρ χ ψ).bind fun a4=>(some a4)) else (some 180))
theorem car_check.mono:∀ J Z a2 a3 L a5 O a7 a8 a9 X Y γ ε δ ζ η k,LeO (car_check.f k J Z a2 a3 L a5 O a7 a8 a9 X Y γ ε δ ζ η) (car_check.f (k+1) J Z a2 a3 L a5 O a7 a8 a9 X Y γ ε δ ζ η):=by
 intro J Z a2 a3 L a5 O a7 a8 a9 X Y γ ε δ ζ η k
 unfold car_check.f
 repeat' first
   |(with_reducible exact car_Check.mono _ _ _ _ _ _ _ _ _)
   |(with_reducible exact door_Rest.mono _ _ _ _ _ _ _ _ _ _ _ _ _ _)
   |(with_reducible exact LeO.refl _)
   |(with_reducible exact LeO.none _)
   |(with_reducible refine LeO.ite ?_ ?_)
   |(with_reducible refine LeO.bind ?_ (fun _=>?_))
   |exact car_Check.mono _ _ _ _ _ _ _ _ _
   |exact door_Rest.mono _ _ _ _ _ _ _ _ _ _ _ _ _ _
   |exact LeO.none _
   |refine LeO.ite ?_ ?_
   |refine LeO.bind ?_ (fun _=>?_)
set_option maxHeartbeats 8000000 in
set_option maxRecDepth 100000 in
theorem car_check.calls (k:Nat) (J:Int) (B:Int) (Y:Int) (Z:Int) (γ:Int) (ζ :Int) (ε :Int) (κ :Int) (ι :Int) (θ :Int) (μ :Int) (η :Int) (ν :Int) (τ :Int) (ρ:Int) (χ :Int) (ψ :Int) (r:Int) (w:World) (h:car_check.f k J B Y Z γ ζ ε κ ι θ μ η ν τ ρ χ ψ = some r):
  Calls Try.prog 45 #[.agg #[.int .i64 J,.int .i64 B,.int .i64 Y,.int .i64 Z,.int .i64 γ,.int .i64 ζ,.int .i64 ε,.int .i64 κ,.int .i64 ι,.int .i64 θ],.agg #[.int .i64 μ,.int .i64 η,.int .i64 ν,.int .i64 τ,.int .i64 ρ,.int .i64 χ,.int .i64 ψ]] w fun e w'=>e = .returned (.int .i64 r)∧Below w.heap.size w w':=by
 have dc:=Try.underlying25
 have g8:=Try.underlying29
 have f8:=Try.underlying27
 have HB:=Aside0.mk (Below.refl w.heap.size w)
 have H:((door_Rest.f k J B Y Z γ ζ ε κ ι θ 0 0 0).bind fun a9=>(if a9.2=0 then ((car_Check.f k J μ η ν τ ρ χ ψ).bind fun a4=>(some a4)) else (some 180)))=some r:=h
 clear h
 replace H:=Option.bind_eq_some_iff.mp H
 obtain⟨⟨aa,a5⟩,ab,H⟩:=H
 replace H:(if a5=0 then ((car_Check.f k J μ η ν τ ρ χ ψ).bind fun a4=>(some a4)) else (some 180))=some r:=H
 have A3:=Aside0.mk ab
 clear ab
 by_cases c4:a5=0
 ·rw[if_pos c4] at H
  have c4b0:(a5==0)=true:=beq_iff_eq.mpr c4
  have c4b1:(a5 != 0)=false:=bne_eq_false_iff_eq.mpr c4
  clear c4
  replace H:=Option.bind_eq_some_iff.mp H
  obtain⟨a4,bu,H⟩:=H
  replace H:(some a4)=some r:=H
  have A5:=Aside0.mk bu
  clear bu
  obtain rfl:=Option.some.inj H
  go_enter Try.func45,Try.ntmps45
  go_wp2_with (first|((with_reducible refine Qr (N:=2) rfl ?_);refine Qq ?hg (N:=2) ?hd (cs:=#[.int .i64 J,.int .i64 B,.int .i64 Y,.int .i64 Z,.int .i64 γ,.int .i64 ζ,.int .i64 ε,.int .i64 κ,.int .i64 ι,.int .i64 θ]) (t:=25) ?hr ?_;(case hd=>rfl);(case hg=>rfl);(case hr=>first|(go_simp;done)|(go_simp;rfl));intro a0 hg w6 hbox hb;have L:=Aside0.mk (Qj (by repeat(first|(with_reducible first|exact HB.out|apply Qg|apply Qd|apply Qf)|exact HB.out)) hb);have O:=Aside0.mk (hbox);have X:=Aside0.mk ((by rw[hg];exact(Qi (by repeat(first|(with_reducible first|exact HB.out|apply Qg|apply Qd|apply Qf)|exact HB.out))):w.heap.size≤a0));have δ :=Aside0.mk ((by rw[hg];exact(Qi (by repeat(first|(with_reducible first|exact HB.out|apply Qg|apply Qd|apply Qf)|exact HB.out))):w.heap.size≤a0));clear HB;have HB:=L;have σ:=O;have ag:=X;have a1:= δ;clear L O X δ;clear hb hbox hg)|((with_reducible refine Qr (N:=3) rfl ?_);refine Qq ?hg (N:=3) ?hd (cs:=#[.int .i64 μ,.int .i64 η,.int .i64 ν,.int .i64 τ,.int .i64 ρ,.int .i64 χ,.int .i64 ψ]) (t:=29) ?hr ?_;(case hd=>rfl);(case hg=>rfl);(case hr=>first|(go_simp;done)|(go_simp;rfl));intro a2 hg w7 hbox hb;have L:=Aside0.mk (Qh (g:=a0) (o:=.cells #[.int .i64 J,.int .i64 B,.int .i64 Y,.int .i64 Z,.int .i64 γ,.int .i64 ζ,.int .i64 ε,.int .i64 κ,.int .i64 ι,.int .i64 θ] 25 (0,0)) (by(with_reducible repeat first|apply Qb|apply Qe|apply Qc);exact σ.out) hb);have O:=Aside0.mk (Qj (by repeat(first|(with_reducible first|exact HB.out|apply Qg|apply Qd|apply Qf|refine Qa ?_ a1.out)|exact HB.out)) hb);have X:=Aside0.mk (hbox);have δ :=Aside0.mk ((by rw[hg];exact(Qi (by repeat(first|(with_reducible first|exact HB.out|apply Qg|apply Qd|apply Qf|refine Qa ?_ a1.out)|exact HB.out))):w.heap.size≤a2));have ξ :=Aside0.mk ((by rw[hg];exact(Qi (by repeat(first|(with_reducible first|exact HB.out|apply Qg|apply Qd|apply Qf|refine Qa ?_ a1.out)|exact HB.out))):w.heap.size≤a2));have φ :=Aside0.mk ((by rw[hg];exact Nat.ne_of_lt (Qp (g:=a0) (o:=.cells #[.int .i64 J,.int .i64 B,.int .i64 Y,.int .i64 Z,.int .i64 γ,.int .i64 ζ,.int .i64 ε,.int .i64 κ,.int .i64 ι,.int .i64 θ] 25 (0,0)) (by(with_reducible repeat first|apply Qb|apply Qe|apply Qc);exact σ.out)):a0≠a2));have ω :=Aside0.mk ((by rw[hg];exact Nat.ne_of_gt (Qp (g:=a0) (o:=.cells #[.int .i64 J,.int .i64 B,.int .i64 Y,.int .i64 Z,.int .i64 γ,.int .i64 ζ,.int .i64 ε,.int .i64 κ,.int .i64 ι,.int .i64 θ] 25 (0,0)) (by(with_reducible repeat first|apply Qb|apply Qe|apply Qc);exact σ.out)):a2≠a0));clear σ;clear HB;have σ:=L;have HB:=O;have a3:=X;have ai:= δ;have a8:= ξ;have a6:= φ;have a7:= ω;clear L O X δ ξ φ ω;clear hb hbox hg;have cm:=a6.out;have cn:=a7.out;obtain⟨al,bc,ce,cg,ch,cu,cv,cw,cy,cz,cp,cq,cx,d9,db,dj,dk,dl,d0,d1⟩:=Zh σ.out)|((with_reducible refine Qt (f:=47) rfl ?_);refine Q7 (some 10) rfl rfl Try.func47 kr rfl #[.agg #[.int .i64 J,.int .i64 B,.int .i64 Y,.int .i64 Z,.int .i64 γ,.int .i64 ζ,.int .i64 ε,.int .i64 κ,.int .i64 ι,.int .i64 θ],.agg #[.int .i64 0,.int .i64 0,.int .i64 0]] rfl (by(try simp only[List.map_toArray,List.map_cons,List.map_nil]);first|done|rfl|(simp only[List.length_drop,List.length_take];rfl)) ?_;(with_reducible refine(door_Rest.calls k J B Y Z γ ζ ε κ ι θ 0 0 0 aa a5 _ A3.out).mono ?_);rintro e ig ⟨rfl,hb⟩;refine⟨_,rfl, ?_⟩;have L:=Aside0.mk (Qh (g:=a0) (o:=.cells #[.int .i64 J,.int .i64 B,.int .i64 Y,.int .i64 Z,.int .i64 γ,.int .i64 ζ,.int .i64 ε,.int .i64 κ,.int .i64 ι,.int .i64 θ] 25 (0,0)) (by(with_reducible repeat first|apply Qb|apply Qe|apply Qc);exact σ.out) hb);have O:=Aside0.mk (Qh (g:=a2) (o:=.cells #[.int .i64 μ,.int .i64 η,.int .i64 ν,.int .i64 τ,.int .i64 ρ,.int .i64 χ,.int .i64 ψ] 29 (0,0)) (by(with_reducible repeat first|apply Qb|apply Qe|apply Qc);exact a3.out) hb);have X:=Aside0.mk (Qj (by repeat(first|(with_reducible first|exact HB.out|apply Qg|apply Qd|apply Qf|refine Qa ?_ a1.out|refine Qa ?_ a8.out)|exact HB.out)) hb);clear σ;clear a3;clear HB;have σ:=L;have a3:=O;have HB:=X;clear L O X;(try clear hb);(try clear ak);(try clear hk);(try clear hi);obtain⟨aw,b5,bp,bl,bs,da,dq,dr,ev,fa,bh,bo,bq,dt,du,dx,ec,ed,i2,i3⟩:=Zh σ.out;obtain⟨ac,ae,aj,ao,ar,au,ax,af,ah,an,ay,az,b0,b4⟩:=qD7 a3.out)|((with_reducible refine Qt (f:=69) rfl ?_);refine Q7 (some 18) rfl rfl Try.func69 kr rfl #[.int .i64 J,.agg #[.int .i64 μ,.int .i64 η,.int .i64 ν,.int .i64 τ,.int .i64 ρ,.int .i64 χ,.int .i64 ψ]] rfl (by(try simp only[List.map_toArray,List.map_cons,List.map_nil]);first|done|rfl|(simp only[List.length_drop,List.length_take];rfl)) ?_;(with_reducible refine(car_Check.calls k J μ η ν τ ρ χ ψ a4 _ A5.out).mono ?_);rintro e ew ⟨rfl,hb⟩;refine⟨_,rfl, ?_⟩;have L:=Aside0.mk (Qh (g:=a0) (o:=.cells #[.int .i64 J,.int .i64 B,.int .i64 Y,.int .i64 Z,.int .i64 γ,.int .i64 ζ,.int .i64 ε,.int .i64 κ,.int .i64 ι,.int .i64 θ] 25 (0,0)) (by(with_reducible repeat first|apply Qb|apply Qe|apply Qc);exact σ.out) hb);have O:=Aside0.mk (Qh (g:=a2) (o:=.cells #[.int .i64 μ,.int .i64 η,.int .i64 ν,.int .i64 τ,.int .i64 ρ,.int .i64 χ,.int .i64 ψ] 29 (0,0)) (by(with_reducible repeat first|apply Qb|apply Qe|apply Qc);exact a3.out) hb);have X:=Aside0.mk (Qj (by repeat(first|(with_reducible first|exact HB.out|apply Qg|apply Qd|apply Qf|refine Qa ?_ a1.out|refine Qa ?_ a8.out)|exact HB.out)) hb);clear σ;clear a3;clear HB;have σ:=L;have a3:=O;have HB:=X;clear L O X;(try clear hb);(try clear ak);(try clear hk);(try clear hi)))
  go_ret
  exact⟨by first|rfl|(simp[Qo,Qn] <;> rfl)|(simp[*,Qo,Qn] <;> rfl),by repeat(first|(with_reducible first|exact HB.out|apply Qg|apply Qd|apply Qf|refine Qa ?_ a1.out|refine Qa ?_ a8.out)|exact HB.out)⟩
 ·rw[if_neg c4] at H
  have c4b0:(a5==0)=false:=beq_eq_false_iff_ne.mpr c4
  have c4b1:(a5 != 0)=true:=bne_iff_ne.mpr c4
  obtain rfl:=Option.some.inj H
  go_enter Try.func45,Try.ntmps45
  go_wp2_with (first|((with_reducible refine Qr (N:=2) rfl ?_);refine Qq ?hg (N:=2) ?hd (cs:=#[.int .i64 J,.int .i64 B,.int .i64 Y,.int .i64 Z,.int .i64 γ,.int .i64 ζ,.int .i64 ε,.int .i64 κ,.int .i64 ι,.int .i64 θ]) (t:=25) ?hr ?_;(case hd=>rfl);(case hg=>rfl);(case hr=>first|(go_simp;done)|(go_simp;rfl));intro a0 hg cf hbox hb;have L:=Aside0.mk (Qj (by repeat(first|(with_reducible first|exact HB.out|apply Qg|apply Qd|apply Qf)|exact HB.out)) hb);have O:=Aside0.mk (hbox);have X:=Aside0.mk ((by rw[hg];exact(Qi (by repeat(first|(with_reducible first|exact HB.out|apply Qg|apply Qd|apply Qf)|exact HB.out))):w.heap.size≤a0));have δ :=Aside0.mk ((by rw[hg];exact(Qi (by repeat(first|(with_reducible first|exact HB.out|apply Qg|apply Qd|apply Qf)|exact HB.out))):w.heap.size≤a0));clear HB;have HB:=L;have σ:=O;have ag:=X;have a1:= δ;clear L O X δ;clear hb hbox hg)|((with_reducible refine Qr (N:=3) rfl ?_);refine Qq ?hg (N:=3) ?hd (cs:=#[.int .i64 μ,.int .i64 η,.int .i64 ν,.int .i64 τ,.int .i64 ρ,.int .i64 χ,.int .i64 ψ]) (t:=29) ?hr ?_;(case hd=>rfl);(case hg=>rfl);(case hr=>first|(go_simp;done)|(go_simp;rfl));intro a2 hg gf hbox hb;have L:=Aside0.mk (Qh (g:=a0) (o:=.cells #[.int .i64 J,.int .i64 B,.int .i64 Y,.int .i64 Z,.int .i64 γ,.int .i64 ζ,.int .i64 ε,.int .i64 κ,.int .i64 ι,.int .i64 θ] 25 (0,0)) (by(with_reducible repeat first|apply Qb|apply Qe|apply Qc);exact σ.out) hb);have O:=Aside0.mk (Qj (by repeat(first|(with_reducible first|exact HB.out|apply Qg|apply Qd|apply Qf|refine Qa ?_ a1.out)|exact HB.out)) hb);have X:=Aside0.mk (hbox);have δ :=Aside0.mk ((by rw[hg];exact(Qi (by repeat(first|(with_reducible first|exact HB.out|apply Qg|apply Qd|apply Qf|refine Qa ?_ a1.out)|exact HB.out))):w.heap.size≤a2));have ξ :=Aside0.mk ((by rw[hg];exact(Qi (by repeat(first|(with_reducible first|exact HB.out|apply Qg|apply Qd|apply Qf|refine Qa ?_ a1.out)|exact HB.out))):w.heap.size≤a2));have φ :=Aside0.mk ((by rw[hg];exact Nat.ne_of_lt (Qp (g:=a0) (o:=.cells #[.int .i64 J,.int .i64 B,.int .i64 Y,.int .i64 Z,.int .i64 γ,.int .i64 ζ,.int .i64 ε,.int .i64 κ,.int .i64 ι,.int .i64 θ] 25 (0,0)) (by(with_reducible repeat first|apply Qb|apply Qe|apply Qc);exact σ.out)):a0≠a2));have ω :=Aside0.mk ((by rw[hg];exact Nat.ne_of_gt (Qp (g:=a0) (o:=.cells #[.int .i64 J,.int .i64 B,.int .i64 Y,.int .i64 Z,.int .i64 γ,.int .i64 ζ,.int .i64 ε,.int .i64 κ,.int .i64 ι,.int .i64 θ] 25 (0,0)) (by(with_reducible repeat first|apply Qb|apply Qe|apply Qc);exact σ.out)):a2≠a0));clear σ;clear HB;have σ:=L;have HB:=O;have a3:=X;have ai:= δ;have a8:= ξ;have a6:= φ;have a7:= ω;clear L O X δ ξ φ ω;clear hb hbox hg;have ei:=a6.out;have ek:=a7.out;obtain⟨b6,b7,bf,bg,cd,ci,co,d8,di,e4,b8,b9,bi,e5,e6,e7,e8,e9,ea,eb⟩:=Zh σ.out)|((with_reducible refine Qt (f:=47) rfl ?_);refine Q7 (some 10) rfl rfl Try.func47 kr rfl #[.agg #[.int .i64 J,.int .i64 B,.int .i64 Y,.int .i64 Z,.int .i64 γ,.int .i64 ζ,.int .i64 ε,.int .i64 κ,.int .i64 ι,.int .i64 θ],.agg #[.int .i64 0,.int .i64 0,.int .i64 0]] rfl (by(try simp only[List.map_toArray,List.map_cons,List.map_nil]);first|done|rfl|(simp only[List.length_drop,List.length_take];rfl)) ?_;(with_reducible refine(door_Rest.calls k J B Y Z γ ζ ε κ ι θ 0 0 0 aa a5 _ A3.out).mono ?_);rintro e gt ⟨rfl,hb⟩;refine⟨_,rfl, ?_⟩;have L:=Aside0.mk (Qh (g:=a0) (o:=.cells #[.int .i64 J,.int .i64 B,.int .i64 Y,.int .i64 Z,.int .i64 γ,.int .i64 ζ,.int .i64 ε,.int .i64 κ,.int .i64 ι,.int .i64 θ] 25 (0,0)) (by(with_reducible repeat first|apply Qb|apply Qe|apply Qc);exact σ.out) hb);have O:=Aside0.mk (Qh (g:=a2) (o:=.cells #[.int .i64 μ,.int .i64 η,.int .i64 ν,.int .i64 τ,.int .i64 ρ,.int .i64 χ,.int .i64 ψ] 29 (0,0)) (by(with_reducible repeat first|apply Qb|apply Qe|apply Qc);exact a3.out) hb);have X:=Aside0.mk (Qj (by repeat(first|(with_reducible first|exact HB.out|apply Qg|apply Qd|apply Qf|refine Qa ?_ a1.out|refine Qa ?_ a8.out)|exact HB.out)) hb);clear σ;clear a3;clear HB;have σ:=L;have a3:=O;have HB:=X;clear L O X;(try clear hb);(try clear ak);(try clear hk);(try clear hi)))
  go_ret
  exact⟨by first|rfl|(simp[Qo,Qn] <;> rfl)|(simp[*,Qo,Qn] <;> rfl),by repeat(first|(with_reducible first|exact HB.out|apply Qg|apply Qd|apply Qf|refine Qa ?_ a1.out|refine Qa ?_ a8.out)|exact HB.out)⟩
def car_Rest.f (k:Nat) (J:Int) (B:Int) (Y:Int) (Z:Int) (γ:Int) (ζ :Int) (ε :Int) (κ :Int) (ι :Int) (θ :Int) (μ :Int) (η :Int) (ν :Int) (τ :Int) (ρ:Int) (χ :Int) (ψ :Int):Option (Int×Int):=(car_check.f k J B Y Z γ ζ ε κ ι θ μ η ν τ ρ χ ψ).bind fun ai=>(if ai=0 then (if ν = 2 then ((door_Ask.f k B Y Z γ ζ ε κ ρ χ ψ).bind fun al=>((door_Rest.f k J B Y Z γ ζ ε κ ι θ al.1 al.2.1 al.2.2.1).bind fun av=>(some (wrap64 (τ + av.1),0)))) else ((door_Rest.f k J B Y Z γ ζ ε κ ι θ ρ χ ψ).bind fun ci=>(some (wrap64 (τ + ci.1),0)))) else (some (0,ai)))
theorem car_Rest.mono:∀ J Z a2 a3 L a5 O a7 a8 a9 X Y γ ε δ ζ η k,LeO (car_Rest.f k J Z a2 a3 L a5 O a7 a8 a9 X Y γ ε δ ζ η) (car_Rest.f (k+1) J Z a2 a3 L a5 O a7 a8 a9 X Y γ ε δ ζ η):=by
 intro J Z a2 a3 L a5 O a7 a8 a9 X Y γ ε δ ζ η k
 unfold car_Rest.f
 repeat' first
   |(with_reducible exact car_check.mono _ _ _ _ _ _ _ _ _ _ _ _ _ _ _ _ _ _)
   |(with_reducible exact door_Ask.mono _ _ _ _ _ _ _ _ _ _ _)
   |(with_reducible exact door_Rest.mono _ _ _ _ _ _ _ _ _ _ _ _ _ _)
   |(with_reducible exact LeO.refl _)
   |(with_reducible exact LeO.none _)
   |(with_reducible refine LeO.ite ?_ ?_)
   |(with_reducible refine LeO.bind ?_ (fun _=>?_))
   |exact car_check.mono _ _ _ _ _ _ _ _ _ _ _ _ _ _ _ _ _ _
   |exact door_Ask.mono _ _ _ _ _ _ _ _ _ _ _
   |exact door_Rest.mono _ _ _ _ _ _ _ _ _ _ _ _ _ _
   |exact LeO.none _
   |refine LeO.ite ?_ ?_
   |refine LeO.bind ?_ (fun _=>?_)
set_option maxHeartbeats 8000000 in
set_option maxRecDepth 100000 in
theorem car_Rest.calls (k:Nat) (J:Int) (B:Int) (Y:Int) (Z:Int) (γ:Int) (ζ :Int) (ε :Int) (κ :Int) (ι :Int) (θ :Int) (μ :Int) (η :Int) (ν :Int) (τ :Int) (ρ:Int) (χ :Int) (ψ :Int) (r1:Int) (r2:Int) (w:World) (h:car_Rest.f k J B Y Z γ ζ ε κ ι θ μ η ν τ ρ χ ψ = some (r1,r2)):
  Calls Try.prog 25 #[.agg #[.int .i64 J,.int .i64 B,.int .i64 Y,.int .i64 Z,.int .i64 γ,.int .i64 ζ,.int .i64 ε,.int .i64 κ,.int .i64 ι,.int .i64 θ],.agg #[.int .i64 μ,.int .i64 η,.int .i64 ν,.int .i64 τ,.int .i64 ρ,.int .i64 χ,.int .i64 ψ]] w fun e w'=>e = .returned (.tuple #[.int .i64 r1,.int .i64 r2])∧Below w.heap.size w w':=by
 have dc:=Try.underlying25
 have g8:=Try.underlying29
 have f8:=Try.underlying27
 have h4:=Try.underlying23
 have HB:=Aside0.mk (Below.refl w.heap.size w)
 have H:((car_check.f k J B Y Z γ ζ ε κ ι θ μ η ν τ ρ χ ψ).bind fun ai=>(if ai=0 then (if ν = 2 then ((door_Ask.f k B Y Z γ ζ ε κ ρ χ ψ).bind fun al=>((door_Rest.f k J B Y Z γ ζ ε κ ι θ al.1 al.2.1 al.2.2.1).bind fun av=>(some (wrap64 (τ + av.1),0)))) else ((door_Rest.f k J B Y Z γ ζ ε κ ι θ ρ χ ψ).bind fun ci=>(some (wrap64 (τ + ci.1),0)))) else (some (0,ai))))=some (r1,r2):=h
 clear h
 replace H:=Option.bind_eq_some_iff.mp H
 obtain⟨ai,ab,H⟩:=H
 replace H:(if ai=0 then (if ν = 2 then ((door_Ask.f k B Y Z γ ζ ε κ ρ χ ψ).bind fun al=>((door_Rest.f k J B Y Z γ ζ ε κ ι θ al.1 al.2.1 al.2.2.1).bind fun av=>(some (wrap64 (τ + av.1),0)))) else ((door_Rest.f k J B Y Z γ ζ ε κ ι θ ρ χ ψ).bind fun ci=>(some (wrap64 (τ + ci.1),0)))) else (some (0,ai)))=some (r1,r2):=H
 have A3:=Aside0.mk ab
 clear ab
 by_cases c4:ai=0
 ·rw[if_pos c4] at H
  have c4b0:(ai==0)=true:=beq_iff_eq.mpr c4
  have c4b1:(ai != 0)=false:=bne_eq_false_iff_eq.mpr c4
  clear c4
  by_cases c5: ν = 2
  ·rw[if_pos c5] at H
   have c5b0:(ν == 2)=true:=beq_iff_eq.mpr c5
   have c5b1:(ν != 2)=false:=bne_eq_false_iff_eq.mpr c5
   clear c5
   replace H:=Option.bind_eq_some_iff.mp H
   obtain⟨⟨bg,co,dw,jw⟩,bc,H⟩:=H
   replace H:((door_Rest.f k J B Y Z γ ζ ε κ ι θ bg co dw).bind fun av=>(some (wrap64 (τ + av.1),0)))=some (r1,r2):=H
   have A6:=Aside0.mk bc
   clear bc
   replace H:=Option.bind_eq_some_iff.mp H
   obtain⟨⟨jr,jy⟩,dd,H⟩:=H
   replace H:(some (wrap64 (τ + jr),0))=some (r1,r2):=H
   have A7:=Aside0.mk dd
   clear dd
   simp only[Option.some.injEq,Prod.mk.injEq] at H
   obtain⟨rfl,rfl⟩:=H
   go_enter Try.func25,Try.ntmps25
   go_wp2_with (first|((with_reducible refine Qr (N:=2) rfl ?_);refine Qq ?hg (N:=2) ?hd (cs:=#[.int .i64 J,.int .i64 B,.int .i64 Y,.int .i64 Z,.int .i64 γ,.int .i64 ζ,.int .i64 ε,.int .i64 κ,.int .i64 ι,.int .i64 θ]) (t:=25) ?hr ?_;(case hd=>rfl);(case hg=>rfl);(case hr=>first|(go_simp;done)|(go_simp;rfl));intro a0 hg w8 hbox hb;have L:=Aside0.mk (Qj (by repeat(first|(with_reducible first|exact HB.out|apply Qg|apply Qd|apply Qf)|exact HB.out)) hb);have O:=Aside0.mk (hbox);have X:=Aside0.mk ((by rw[hg];exact(Qi (by repeat(first|(with_reducible first|exact HB.out|apply Qg|apply Qd|apply Qf)|exact HB.out))):w.heap.size≤a0));have δ :=Aside0.mk ((by rw[hg];exact(Qi (by repeat(first|(with_reducible first|exact HB.out|apply Qg|apply Qd|apply Qf)|exact HB.out))):w.heap.size≤a0));clear HB;have HB:=L;have σ:=O;have el:=X;have a3:= δ;clear L O X δ;clear hb hbox hg)|((with_reducible refine Qr (N:=3) rfl ?_);refine Qq ?hg (N:=3) ?hd (cs:=#[.int .i64 μ,.int .i64 η,.int .i64 ν,.int .i64 τ,.int .i64 ρ,.int .i64 χ,.int .i64 ψ]) (t:=29) ?hr ?_;(case hd=>rfl);(case hg=>rfl);(case hr=>first|(go_simp;done)|(go_simp;rfl));intro a2 hg w9 hbox hb;have L:=Aside0.mk (Qh (g:=a0) (o:=.cells #[.int .i64 J,.int .i64 B,.int .i64 Y,.int .i64 Z,.int .i64 γ,.int .i64 ζ,.int .i64 ε,.int .i64 κ,.int .i64 ι,.int .i64 θ] 25 (0,0)) (by(with_reducible repeat first|apply Qb|apply Qe|apply Qc);exact σ.out) hb);have O:=Aside0.mk (Qj (by repeat(first|(with_reducible first|exact HB.out|apply Qg|apply Qd|apply Qf|refine Qa ?_ a3.out)|exact HB.out)) hb);have X:=Aside0.mk (hbox);have δ :=Aside0.mk ((by rw[hg];exact(Qi (by repeat(first|(with_reducible first|exact HB.out|apply Qg|apply Qd|apply Qf|refine Qa ?_ a3.out)|exact HB.out))):w.heap.size≤a2));have ξ :=Aside0.mk ((by rw[hg];exact(Qi (by repeat(first|(with_reducible first|exact HB.out|apply Qg|apply Qd|apply Qf|refine Qa ?_ a3.out)|exact HB.out))):w.heap.size≤a2));have φ :=Aside0.mk ((by rw[hg];exact Nat.ne_of_lt (Qp (g:=a0) (o:=.cells #[.int .i64 J,.int .i64 B,.int .i64 Y,.int .i64 Z,.int .i64 γ,.int .i64 ζ,.int .i64 ε,.int .i64 κ,.int .i64 ι,.int .i64 θ] 25 (0,0)) (by(with_reducible repeat first|apply Qb|apply Qe|apply Qc);exact σ.out)):a0≠a2));have ω :=Aside0.mk ((by rw[hg];exact Nat.ne_of_gt (Qp (g:=a0) (o:=.cells #[.int .i64 J,.int .i64 B,.int .i64 Y,.int .i64 Z,.int .i64 γ,.int .i64 ζ,.int .i64 ε,.int .i64 κ,.int .i64 ι,.int .i64 θ] 25 (0,0)) (by(with_reducible repeat first|apply Qb|apply Qe|apply Qc);exact σ.out)):a2≠a0));clear σ;clear HB;have σ:=L;have HB:=O;have a1:=X;have eo:= δ;have a8:= ξ;have am:= φ;have ap:= ω;clear L O X δ ξ φ ω;clear hb hbox hg;have eg:=am.out;have em:=ap.out;obtain⟨aw,b5,bp,bl,bs,da,dq,dr,ev,fa,bh,bo,bq,dt,du,dx,ec,ed,i2,i3⟩:=Zh σ.out;obtain⟨ac,ae,aj,ao,ar,au,ax,af,ah,an,ay,az,b0,b4⟩:=qD7 a1.out)|((with_reducible refine Qt (f:=45) rfl ?_);refine Q7 (some 12) rfl rfl Try.func45 kr rfl #[.agg #[.int .i64 J,.int .i64 B,.int .i64 Y,.int .i64 Z,.int .i64 γ,.int .i64 ζ,.int .i64 ε,.int .i64 κ,.int .i64 ι,.int .i64 θ],.agg #[.int .i64 μ,.int .i64 η,.int .i64 ν,.int .i64 τ,.int .i64 ρ,.int .i64 χ,.int .i64 ψ]] rfl (by(try simp only[List.map_toArray,List.map_cons,List.map_nil]);first|done|rfl|(simp only[List.length_drop,List.length_take];rfl)) ?_;(with_reducible refine(car_check.calls k J B Y Z γ ζ ε κ ι θ μ η ν τ ρ χ ψ ai _ A3.out).mono ?_);rintro e ew ⟨rfl,hb⟩;refine⟨_,rfl, ?_⟩;have L:=Aside0.mk (Qh (g:=a0) (o:=.cells #[.int .i64 J,.int .i64 B,.int .i64 Y,.int .i64 Z,.int .i64 γ,.int .i64 ζ,.int .i64 ε,.int .i64 κ,.int .i64 ι,.int .i64 θ] 25 (0,0)) (by(with_reducible repeat first|apply Qb|apply Qe|apply Qc);exact σ.out) hb);have O:=Aside0.mk (Qh (g:=a2) (o:=.cells #[.int .i64 μ,.int .i64 η,.int .i64 ν,.int .i64 τ,.int .i64 ρ,.int .i64 χ,.int .i64 ψ] 29 (0,0)) (by(with_reducible repeat first|apply Qb|apply Qe|apply Qc);exact a1.out) hb);have X:=Aside0.mk (Qj (by repeat(first|(with_reducible first|exact HB.out|apply Qg|apply Qd|apply Qf|refine Qa ?_ a3.out|refine Qa ?_ a8.out)|exact HB.out)) hb);clear σ;clear a1;clear HB;have σ:=L;have a1:=O;have HB:=X;clear L O X;(try clear hb);(try clear ak);(try clear hk);(try clear hi);obtain⟨cj,ck,cy,cz,d0,d1,d2,cm,cn,d3,d4,d5,d6,d7⟩:=qD7 a1.out)|((with_reducible refine Qr (N:=7) rfl ?_);refine Qq ?hg (N:=7) ?hd (cs:=#[.int .i64 0,.int .i64 0,.int .i64 0]) (t:=27) ?hr ?_;(case hd=>rfl);(case hg=>rfl);(case hr=>first|(go_simp;done)|(go_simp;rfl));intro a9 hg gf hbox hb;have L:=Aside0.mk (Qh (g:=a0) (o:=.cells #[.int .i64 J,.int .i64 B,.int .i64 Y,.int .i64 Z,.int .i64 γ,.int .i64 ζ,.int .i64 ε,.int .i64 κ,.int .i64 ι,.int .i64 θ] 25 (0,0)) (by(with_reducible repeat first|apply Qb|apply Qe|apply Qc);exact σ.out) hb);have O:=Aside0.mk (Qh (g:=a2) (o:=.cells #[.int .i64 μ,.int .i64 η,.int .i64 ν,.int .i64 τ,.int .i64 ρ,.int .i64 χ,.int .i64 ψ] 29 (0,0)) (by(with_reducible repeat first|apply Qb|apply Qe|apply Qc);exact a1.out) hb);have X:=Aside0.mk (Qj (by repeat(first|(with_reducible first|exact HB.out|apply Qg|apply Qd|apply Qf|refine Qa ?_ a3.out|refine Qa ?_ a8.out)|exact HB.out)) hb);have δ :=Aside0.mk (hbox);have ξ :=Aside0.mk ((by rw[hg];exact(Qi (by repeat(first|(with_reducible first|exact HB.out|apply Qg|apply Qd|apply Qf|refine Qa ?_ a3.out|refine Qa ?_ a8.out)|exact HB.out))):w.heap.size≤a9));have φ :=Aside0.mk ((by rw[hg];exact(Qi (by repeat(first|(with_reducible first|exact HB.out|apply Qg|apply Qd|apply Qf|refine Qa ?_ a3.out|refine Qa ?_ a8.out)|exact HB.out))):w.heap.size≤a9));have ω :=Aside0.mk ((by rw[hg];exact Nat.ne_of_lt (Qp (g:=a0) (o:=.cells #[.int .i64 J,.int .i64 B,.int .i64 Y,.int .i64 Z,.int .i64 γ,.int .i64 ζ,.int .i64 ε,.int .i64 κ,.int .i64 ι,.int .i64 θ] 25 (0,0)) (by(with_reducible repeat first|apply Qb|apply Qe|apply Qc);exact σ.out)):a0≠a9));have a6:=Aside0.mk ((by rw[hg];exact Nat.ne_of_gt (Qp (g:=a0) (o:=.cells #[.int .i64 J,.int .i64 B,.int .i64 Y,.int .i64 Z,.int .i64 γ,.int .i64 ζ,.int .i64 ε,.int .i64 κ,.int .i64 ι,.int .i64 θ] 25 (0,0)) (by(with_reducible repeat first|apply Qb|apply Qe|apply Qc);exact σ.out)):a9≠a0));have a7:=Aside0.mk ((by rw[hg];exact Nat.ne_of_lt (Qp (g:=a2) (o:=.cells #[.int .i64 μ,.int .i64 η,.int .i64 ν,.int .i64 τ,.int .i64 ρ,.int .i64 χ,.int .i64 ψ] 29 (0,0)) (by(with_reducible repeat first|apply Qb|apply Qe|apply Qc);exact a1.out)):a2≠a9));have ag:=Aside0.mk ((by rw[hg];exact Nat.ne_of_gt (Qp (g:=a2) (o:=.cells #[.int .i64 μ,.int .i64 η,.int .i64 ν,.int .i64 τ,.int .i64 ρ,.int .i64 χ,.int .i64 ψ] 29 (0,0)) (by(with_reducible repeat first|apply Qb|apply Qe|apply Qc);exact a1.out)):a9≠a2));clear σ;clear a1;clear HB;have σ:=L;have a1:=O;have HB:=X;have aa:= δ;have ju:= ξ;have bb:= φ;have a4:= ω;have b6:=a6;have a5:=a7;have b7:=ag;clear L O X δ ξ φ ω a6 a7 ag;clear hb hbox hg;have ei:=b6.out;have ek:=a4.out;have ft:=b7.out;have ip:=a5.out;obtain⟨cp,cq,dm,cr,ct,dp⟩:=qD3 aa.out;obtain⟨b1,b2,bd,bj,bk,bm,br,b3,ba,be,bv,bw,bz,ca⟩:=qD7 a1.out;obtain⟨cb,cd,ch,e6,e7,he,hh,g6,gx,h5,ce,cg,d8,hj,hl,ho,hu,h6,h7,h8⟩:=Zh σ.out)|((with_reducible refine Qt (f:=46) rfl ?_);refine Q7 (some 25) rfl rfl Try.func46 kr rfl #[.agg #[.int .i64 B,.int .i64 Y,.int .i64 Z,.int .i64 γ,.int .i64 ζ,.int .i64 ε,.int .i64 κ],.agg #[.int .i64 ρ,.int .i64 χ,.int .i64 ψ]] rfl (by(try simp only[List.map_toArray,List.map_cons,List.map_nil]);first|done|rfl|(simp only[List.length_drop,List.length_take];rfl)) ?_;(with_reducible refine(door_Ask.calls k B Y Z γ ζ ε κ ρ χ ψ bg co dw jw _ A6.out).mono ?_);rintro e bn ⟨rfl,hb⟩;refine⟨_,rfl, ?_⟩;have L:=Aside0.mk (Qh (g:=a0) (o:=.cells #[.int .i64 J,.int .i64 B,.int .i64 Y,.int .i64 Z,.int .i64 γ,.int .i64 ζ,.int .i64 ε,.int .i64 κ,.int .i64 ι,.int .i64 θ] 25 (0,0)) (by(with_reducible repeat first|apply Qb|apply Qe|apply Qc);refine Qs ?_ a4.out _;(with_reducible repeat first|apply Qb|apply Qe|apply Qc);refine Qs ?_ a4.out _;(with_reducible repeat first|apply Qb|apply Qe|apply Qc);refine Qs ?_ a4.out _;(with_reducible repeat first|apply Qb|apply Qe|apply Qc);exact σ.out) hb);have O:=Aside0.mk (Qh (g:=a2) (o:=.cells #[.int .i64 μ,.int .i64 η,.int .i64 ν,.int .i64 τ,.int .i64 ρ,.int .i64 χ,.int .i64 ψ] 29 (0,0)) (by(with_reducible repeat first|apply Qb|apply Qe|apply Qc);refine Qs ?_ a5.out _;(with_reducible repeat first|apply Qb|apply Qe|apply Qc);refine Qs ?_ a5.out _;(with_reducible repeat first|apply Qb|apply Qe|apply Qc);refine Qs ?_ a5.out _;(with_reducible repeat first|apply Qb|apply Qe|apply Qc);exact a1.out) hb);have X:=Aside0.mk (Qh (g:=a9) (o:=.cells #[.int .i64 ρ,.int .i64 χ,.int .i64 ψ] 27 (0,0)) (by(with_reducible repeat first|apply Qb|apply Qe|apply Qc);refine Qu (cs:=#[.int .i64 ρ,.int .i64 χ,.int .i64 0]) ?_ 2 _ rfl;(with_reducible repeat first|apply Qb|apply Qe|apply Qc);refine Qu (cs:=#[.int .i64 ρ,.int .i64 0,.int .i64 0]) ?_ 1 _ rfl;(with_reducible repeat first|apply Qb|apply Qe|apply Qc);refine Qu (cs:=#[.int .i64 0,.int .i64 0,.int .i64 0]) ?_ 0 _ rfl;(with_reducible repeat first|apply Qb|apply Qe|apply Qc);exact aa.out) hb);have δ :=Aside0.mk (Qj (by repeat(first|(with_reducible first|exact HB.out|apply Qg|apply Qd|apply Qf|refine Qa ?_ a3.out|refine Qa ?_ a8.out|refine Qa ?_ bb.out)|exact HB.out)) hb);clear σ;clear a1;clear aa;clear HB;have σ:=L;have a1:=O;have aa:=X;have HB:= δ;clear L O X δ;(try clear hb);(try clear ak);(try clear hk);(try clear hi);obtain⟨cu,cv,e8,cw,cx,e9⟩:=qD3 aa.out;obtain⟨fb,fg,fh,i4,i5,i6,i7,i9,ia,ib,fi,fk,fl,io,iq,ir,it,iu,jj,jk⟩:=Zh σ.out)|((with_reducible refine Qt (f:=47) rfl ?_);refine Q7 (some 31) rfl rfl Try.func47 kr rfl #[.agg #[.int .i64 J,.int .i64 B,.int .i64 Y,.int .i64 Z,.int .i64 γ,.int .i64 ζ,.int .i64 ε,.int .i64 κ,.int .i64 ι,.int .i64 θ],.agg #[.int .i64 bg,.int .i64 co,.int .i64 dw]] rfl (by(try simp only[List.map_toArray,List.map_cons,List.map_nil]);first|done|rfl|(simp only[List.length_drop,List.length_take];rfl)) ?_;(with_reducible refine(door_Rest.calls k J B Y Z γ ζ ε κ ι θ bg co dw jr jy _ A7.out).mono ?_);rintro e cf ⟨rfl,hb⟩;refine⟨_,rfl, ?_⟩;have L:=Aside0.mk (Qh (g:=a0) (o:=.cells #[.int .i64 J,.int .i64 B,.int .i64 Y,.int .i64 Z,.int .i64 γ,.int .i64 ζ,.int .i64 ε,.int .i64 κ,.int .i64 ι,.int .i64 θ] 25 (0,0)) (by(with_reducible repeat first|apply Qb|apply Qe|apply Qc);refine Qs ?_ a4.out _;(with_reducible repeat first|apply Qb|apply Qe|apply Qc);refine Qs ?_ a4.out _;(with_reducible repeat first|apply Qb|apply Qe|apply Qc);refine Qs ?_ a4.out _;(with_reducible repeat first|apply Qb|apply Qe|apply Qc);exact σ.out) hb);have O:=Aside0.mk (Qh (g:=a2) (o:=.cells #[.int .i64 μ,.int .i64 η,.int .i64 ν,.int .i64 τ,.int .i64 ρ,.int .i64 χ,.int .i64 ψ] 29 (0,0)) (by(with_reducible repeat first|apply Qb|apply Qe|apply Qc);refine Qs ?_ a5.out _;(with_reducible repeat first|apply Qb|apply Qe|apply Qc);refine Qs ?_ a5.out _;(with_reducible repeat first|apply Qb|apply Qe|apply Qc);refine Qs ?_ a5.out _;(with_reducible repeat first|apply Qb|apply Qe|apply Qc);exact a1.out) hb);have X:=Aside0.mk (Qh (g:=a9) (o:=.cells #[.int .i64 bg,.int .i64 co,.int .i64 dw] 27 (0,0)) (by(with_reducible repeat first|apply Qb|apply Qe|apply Qc);refine Qu (cs:=#[.int .i64 bg,.int .i64 co,.int .i64 ψ]) ?_ 2 _ rfl;(with_reducible repeat first|apply Qb|apply Qe|apply Qc);refine Qu (cs:=#[.int .i64 bg,.int .i64 χ,.int .i64 ψ]) ?_ 1 _ rfl;(with_reducible repeat first|apply Qb|apply Qe|apply Qc);refine Qu (cs:=#[.int .i64 ρ,.int .i64 χ,.int .i64 ψ]) ?_ 0 _ rfl;(with_reducible repeat first|apply Qb|apply Qe|apply Qc);exact aa.out) hb);have δ :=Aside0.mk (Qj (by repeat(first|(with_reducible first|exact HB.out|apply Qg|apply Qd|apply Qf|refine Qa ?_ a3.out|refine Qa ?_ a8.out|refine Qa ?_ bb.out)|exact HB.out)) hb);clear σ;clear a1;clear aa;clear HB;have σ:=L;have a1:=O;have aa:=X;have HB:= δ;clear L O X δ;(try clear hb);(try clear ak);(try clear hk);(try clear hi);obtain⟨en,er,b8,fm,fn,fo,fp,et,eu,b9,fq,fr,fu,fv⟩:=qD7 a1.out))
   go_ret2
   exact⟨by first|rfl|(simp[Qo,Qn] <;> rfl)|(simp[*,Qo,Qn] <;> rfl),by repeat(first|(with_reducible first|exact HB.out|apply Qg|apply Qd|apply Qf|refine Qa ?_ a3.out|refine Qa ?_ a8.out|refine Qa ?_ bb.out)|exact HB.out)⟩
  ·rw[if_neg c5] at H
   have c5b0:(ν == 2)=false:=beq_eq_false_iff_ne.mpr c5
   have c5b1:(ν != 2)=true:=bne_iff_ne.mpr c5
   replace H:=Option.bind_eq_some_iff.mp H
   obtain⟨⟨jt,jz⟩,df,H⟩:=H
   replace H:(some (wrap64 (τ + jt),0))=some (r1,r2):=H
   have ic:=Aside0.mk df
   clear df
   simp only[Option.some.injEq,Prod.mk.injEq] at H
   obtain⟨rfl,rfl⟩:=H
   go_enter Try.func25,Try.ntmps25
   go_wp2_with (first|((with_reducible refine Qr (N:=2) rfl ?_);refine Qq ?hg (N:=2) ?hd (cs:=#[.int .i64 J,.int .i64 B,.int .i64 Y,.int .i64 Z,.int .i64 γ,.int .i64 ζ,.int .i64 ε,.int .i64 κ,.int .i64 ι,.int .i64 θ]) (t:=25) ?hr ?_;(case hd=>rfl);(case hg=>rfl);(case hr=>first|(go_simp;done)|(go_simp;rfl));intro a0 hg dn hbox hb;have L:=Aside0.mk (Qj (by repeat(first|(with_reducible first|exact HB.out|apply Qg|apply Qd|apply Qf)|exact HB.out)) hb);have O:=Aside0.mk (hbox);have X:=Aside0.mk ((by rw[hg];exact(Qi (by repeat(first|(with_reducible first|exact HB.out|apply Qg|apply Qd|apply Qf)|exact HB.out))):w.heap.size≤a0));have δ :=Aside0.mk ((by rw[hg];exact(Qi (by repeat(first|(with_reducible first|exact HB.out|apply Qg|apply Qd|apply Qf)|exact HB.out))):w.heap.size≤a0));clear HB;have HB:=L;have σ:=O;have el:=X;have a3:= δ;clear L O X δ;clear hb hbox hg)|((with_reducible refine Qr (N:=3) rfl ?_);refine Qq ?hg (N:=3) ?hd (cs:=#[.int .i64 μ,.int .i64 η,.int .i64 ν,.int .i64 τ,.int .i64 ρ,.int .i64 χ,.int .i64 ψ]) (t:=29) ?hr ?_;(case hd=>rfl);(case hg=>rfl);(case hr=>first|(go_simp;done)|(go_simp;rfl));intro a2 hg eh hbox hb;have L:=Aside0.mk (Qh (g:=a0) (o:=.cells #[.int .i64 J,.int .i64 B,.int .i64 Y,.int .i64 Z,.int .i64 γ,.int .i64 ζ,.int .i64 ε,.int .i64 κ,.int .i64 ι,.int .i64 θ] 25 (0,0)) (by(with_reducible repeat first|apply Qb|apply Qe|apply Qc);exact σ.out) hb);have O:=Aside0.mk (Qj (by repeat(first|(with_reducible first|exact HB.out|apply Qg|apply Qd|apply Qf|refine Qa ?_ a3.out)|exact HB.out)) hb);have X:=Aside0.mk (hbox);have δ :=Aside0.mk ((by rw[hg];exact(Qi (by repeat(first|(with_reducible first|exact HB.out|apply Qg|apply Qd|apply Qf|refine Qa ?_ a3.out)|exact HB.out))):w.heap.size≤a2));have ξ :=Aside0.mk ((by rw[hg];exact(Qi (by repeat(first|(with_reducible first|exact HB.out|apply Qg|apply Qd|apply Qf|refine Qa ?_ a3.out)|exact HB.out))):w.heap.size≤a2));have φ :=Aside0.mk ((by rw[hg];exact Nat.ne_of_lt (Qp (g:=a0) (o:=.cells #[.int .i64 J,.int .i64 B,.int .i64 Y,.int .i64 Z,.int .i64 γ,.int .i64 ζ,.int .i64 ε,.int .i64 κ,.int .i64 ι,.int .i64 θ] 25 (0,0)) (by(with_reducible repeat first|apply Qb|apply Qe|apply Qc);exact σ.out)):a0≠a2));have ω :=Aside0.mk ((by rw[hg];exact Nat.ne_of_gt (Qp (g:=a0) (o:=.cells #[.int .i64 J,.int .i64 B,.int .i64 Y,.int .i64 Z,.int .i64 γ,.int .i64 ζ,.int .i64 ε,.int .i64 κ,.int .i64 ι,.int .i64 θ] 25 (0,0)) (by(with_reducible repeat first|apply Qb|apply Qe|apply Qc);exact σ.out)):a2≠a0));clear σ;clear HB;have σ:=L;have HB:=O;have a1:=X;have eo:= δ;have a8:= ξ;have am:= φ;have ap:= ω;clear L O X δ ξ φ ω;clear hb hbox hg;have ee:=am.out;have ef:=ap.out;obtain⟨bf,bi,e4,ep,g7,gb,ge,h9,ha,hx,bu,dh,e5,gg,gj,gk,gl,hy,i0,i1⟩:=Zh σ.out;obtain⟨d9,db,dj,ey,fe,fj,fz,dk,dl,dv,g0,g1,g2,g3⟩:=qD7 a1.out)|((with_reducible refine Qt (f:=45) rfl ?_);refine Q7 (some 12) rfl rfl Try.func45 kr rfl #[.agg #[.int .i64 J,.int .i64 B,.int .i64 Y,.int .i64 Z,.int .i64 γ,.int .i64 ζ,.int .i64 ε,.int .i64 κ,.int .i64 ι,.int .i64 θ],.agg #[.int .i64 μ,.int .i64 η,.int .i64 ν,.int .i64 τ,.int .i64 ρ,.int .i64 χ,.int .i64 ψ]] rfl (by(try simp only[List.map_toArray,List.map_cons,List.map_nil]);first|done|rfl|(simp only[List.length_drop,List.length_take];rfl)) ?_;(with_reducible refine(car_check.calls k J B Y Z γ ζ ε κ ι θ μ η ν τ ρ χ ψ ai _ A3.out).mono ?_);rintro e jv ⟨rfl,hb⟩;refine⟨_,rfl, ?_⟩;have L:=Aside0.mk (Qh (g:=a0) (o:=.cells #[.int .i64 J,.int .i64 B,.int .i64 Y,.int .i64 Z,.int .i64 γ,.int .i64 ζ,.int .i64 ε,.int .i64 κ,.int .i64 ι,.int .i64 θ] 25 (0,0)) (by(with_reducible repeat first|apply Qb|apply Qe|apply Qc);exact σ.out) hb);have O:=Aside0.mk (Qh (g:=a2) (o:=.cells #[.int .i64 μ,.int .i64 η,.int .i64 ν,.int .i64 τ,.int .i64 ρ,.int .i64 χ,.int .i64 ψ] 29 (0,0)) (by(with_reducible repeat first|apply Qb|apply Qe|apply Qc);exact a1.out) hb);have X:=Aside0.mk (Qj (by repeat(first|(with_reducible first|exact HB.out|apply Qg|apply Qd|apply Qf|refine Qa ?_ a3.out|refine Qa ?_ a8.out)|exact HB.out)) hb);clear σ;clear a1;clear HB;have σ:=L;have a1:=O;have HB:=X;clear L O X;(try clear hb);(try clear ak);(try clear hk);(try clear hi);obtain⟨de,dy,e3,fw,fx,g4,g5,dz,e0,ej,g9,ga,gh,gi⟩:=qD7 a1.out)|((with_reducible refine Qr (N:=7) rfl ?_);refine Qq ?hg (N:=7) ?hd (cs:=#[.int .i64 0,.int .i64 0,.int .i64 0]) (t:=27) ?hr ?_;(case hd=>rfl);(case hg=>rfl);(case hr=>first|(go_simp;done)|(go_simp;rfl));intro a9 hg js hbox hb;have L:=Aside0.mk (Qh (g:=a0) (o:=.cells #[.int .i64 J,.int .i64 B,.int .i64 Y,.int .i64 Z,.int .i64 γ,.int .i64 ζ,.int .i64 ε,.int .i64 κ,.int .i64 ι,.int .i64 θ] 25 (0,0)) (by(with_reducible repeat first|apply Qb|apply Qe|apply Qc);exact σ.out) hb);have O:=Aside0.mk (Qh (g:=a2) (o:=.cells #[.int .i64 μ,.int .i64 η,.int .i64 ν,.int .i64 τ,.int .i64 ρ,.int .i64 χ,.int .i64 ψ] 29 (0,0)) (by(with_reducible repeat first|apply Qb|apply Qe|apply Qc);exact a1.out) hb);have X:=Aside0.mk (Qj (by repeat(first|(with_reducible first|exact HB.out|apply Qg|apply Qd|apply Qf|refine Qa ?_ a3.out|refine Qa ?_ a8.out)|exact HB.out)) hb);have δ :=Aside0.mk (hbox);have ξ :=Aside0.mk ((by rw[hg];exact(Qi (by repeat(first|(with_reducible first|exact HB.out|apply Qg|apply Qd|apply Qf|refine Qa ?_ a3.out|refine Qa ?_ a8.out)|exact HB.out))):w.heap.size≤a9));have φ :=Aside0.mk ((by rw[hg];exact(Qi (by repeat(first|(with_reducible first|exact HB.out|apply Qg|apply Qd|apply Qf|refine Qa ?_ a3.out|refine Qa ?_ a8.out)|exact HB.out))):w.heap.size≤a9));have ω :=Aside0.mk ((by rw[hg];exact Nat.ne_of_lt (Qp (g:=a0) (o:=.cells #[.int .i64 J,.int .i64 B,.int .i64 Y,.int .i64 Z,.int .i64 γ,.int .i64 ζ,.int .i64 ε,.int .i64 κ,.int .i64 ι,.int .i64 θ] 25 (0,0)) (by(with_reducible repeat first|apply Qb|apply Qe|apply Qc);exact σ.out)):a0≠a9));have a6:=Aside0.mk ((by rw[hg];exact Nat.ne_of_gt (Qp (g:=a0) (o:=.cells #[.int .i64 J,.int .i64 B,.int .i64 Y,.int .i64 Z,.int .i64 γ,.int .i64 ζ,.int .i64 ε,.int .i64 κ,.int .i64 ι,.int .i64 θ] 25 (0,0)) (by(with_reducible repeat first|apply Qb|apply Qe|apply Qc);exact σ.out)):a9≠a0));have a7:=Aside0.mk ((by rw[hg];exact Nat.ne_of_lt (Qp (g:=a2) (o:=.cells #[.int .i64 μ,.int .i64 η,.int .i64 ν,.int .i64 τ,.int .i64 ρ,.int .i64 χ,.int .i64 ψ] 29 (0,0)) (by(with_reducible repeat first|apply Qb|apply Qe|apply Qc);exact a1.out)):a2≠a9));have ag:=Aside0.mk ((by rw[hg];exact Nat.ne_of_gt (Qp (g:=a2) (o:=.cells #[.int .i64 μ,.int .i64 η,.int .i64 ν,.int .i64 τ,.int .i64 ρ,.int .i64 χ,.int .i64 ψ] 29 (0,0)) (by(with_reducible repeat first|apply Qb|apply Qe|apply Qc);exact a1.out)):a9≠a2));clear σ;clear a1;clear HB;have σ:=L;have a1:=O;have HB:=X;have aa:= δ;have ju:= ξ;have bb:= φ;have a4:= ω;have b6:=a6;have a5:=a7;have b7:=ag;clear L O X δ ξ φ ω a6 a7 ag;clear hb hbox hg;have kl:=b6.out;have km:=a4.out;have kb:=b7.out;have kc:=a5.out;obtain⟨k0,k1,k2,k3,k4,k5⟩:=qD3 aa.out;obtain⟨k6,k7,k8,k9,ke,kf,kg,kh,ki,kj,kk,kn,ko,kp⟩:=qD7 a1.out;obtain⟨gm,gp,gq,kq,ks,kt,ku,kv,kw,kx,gy,gz,h0,ky,kz,l2,l3,l4,l5,l6⟩:=Zh σ.out)|((with_reducible refine Qt (f:=47) rfl ?_);refine Q7 (some 31) rfl rfl Try.func47 kr rfl #[.agg #[.int .i64 J,.int .i64 B,.int .i64 Y,.int .i64 Z,.int .i64 γ,.int .i64 ζ,.int .i64 ε,.int .i64 κ,.int .i64 ι,.int .i64 θ],.agg #[.int .i64 ρ,.int .i64 χ,.int .i64 ψ]] rfl (by(try simp only[List.map_toArray,List.map_cons,List.map_nil]);first|done|rfl|(simp only[List.length_drop,List.length_take];rfl)) ?_;(with_reducible refine(door_Rest.calls k J B Y Z γ ζ ε κ ι θ ρ χ ψ jt jz _ ic.out).mono ?_);rintro e kd ⟨rfl,hb⟩;refine⟨_,rfl, ?_⟩;have L:=Aside0.mk (Qh (g:=a0) (o:=.cells #[.int .i64 J,.int .i64 B,.int .i64 Y,.int .i64 Z,.int .i64 γ,.int .i64 ζ,.int .i64 ε,.int .i64 κ,.int .i64 ι,.int .i64 θ] 25 (0,0)) (by(with_reducible repeat first|apply Qb|apply Qe|apply Qc);refine Qs ?_ a4.out _;(with_reducible repeat first|apply Qb|apply Qe|apply Qc);refine Qs ?_ a4.out _;(with_reducible repeat first|apply Qb|apply Qe|apply Qc);refine Qs ?_ a4.out _;(with_reducible repeat first|apply Qb|apply Qe|apply Qc);exact σ.out) hb);have O:=Aside0.mk (Qh (g:=a2) (o:=.cells #[.int .i64 μ,.int .i64 η,.int .i64 ν,.int .i64 τ,.int .i64 ρ,.int .i64 χ,.int .i64 ψ] 29 (0,0)) (by(with_reducible repeat first|apply Qb|apply Qe|apply Qc);refine Qs ?_ a5.out _;(with_reducible repeat first|apply Qb|apply Qe|apply Qc);refine Qs ?_ a5.out _;(with_reducible repeat first|apply Qb|apply Qe|apply Qc);refine Qs ?_ a5.out _;(with_reducible repeat first|apply Qb|apply Qe|apply Qc);exact a1.out) hb);have X:=Aside0.mk (Qh (g:=a9) (o:=.cells #[.int .i64 ρ,.int .i64 χ,.int .i64 ψ] 27 (0,0)) (by(with_reducible repeat first|apply Qb|apply Qe|apply Qc);refine Qu (cs:=#[.int .i64 ρ,.int .i64 χ,.int .i64 0]) ?_ 2 _ rfl;(with_reducible repeat first|apply Qb|apply Qe|apply Qc);refine Qu (cs:=#[.int .i64 ρ,.int .i64 0,.int .i64 0]) ?_ 1 _ rfl;(with_reducible repeat first|apply Qb|apply Qe|apply Qc);refine Qu (cs:=#[.int .i64 0,.int .i64 0,.int .i64 0]) ?_ 0 _ rfl;(with_reducible repeat first|apply Qb|apply Qe|apply Qc);exact aa.out) hb);have δ :=Aside0.mk (Qj (by repeat(first|(with_reducible first|exact HB.out|apply Qg|apply Qd|apply Qf|refine Qa ?_ a3.out|refine Qa ?_ a8.out|refine Qa ?_ bb.out)|exact HB.out)) hb);clear σ;clear a1;clear aa;clear HB;have σ:=L;have a1:=O;have aa:=X;have HB:= δ;clear L O X δ;(try clear hb);(try clear ak);(try clear hk);(try clear hi);obtain⟨ea,eb,di,ie,ig,ih,ii,fc,ff,ez,ij,ik,il,im⟩:=qD7 a1.out))
   go_ret2
   exact⟨by first|rfl|(simp[Qo,Qn] <;> rfl)|(simp[*,Qo,Qn] <;> rfl),by repeat(first|(with_reducible first|exact HB.out|apply Qg|apply Qd|apply Qf|refine Qa ?_ a3.out|refine Qa ?_ a8.out|refine Qa ?_ bb.out)|exact HB.out)⟩
 ·rw[if_neg c4] at H
  have c4b0:(ai==0)=false:=beq_eq_false_iff_ne.mpr c4
  have c4b1:(ai != 0)=true:=bne_iff_ne.mpr c4
  simp only[Option.some.injEq,Prod.mk.injEq] at H
  obtain⟨rfl,rfl⟩:=H
  go_enter Try.func25,Try.ntmps25
  go_wp2_with (first|((with_reducible refine Qr (N:=2) rfl ?_);refine Qq ?hg (N:=2) ?hd (cs:=#[.int .i64 J,.int .i64 B,.int .i64 Y,.int .i64 Z,.int .i64 γ,.int .i64 ζ,.int .i64 ε,.int .i64 κ,.int .i64 ι,.int .i64 θ]) (t:=25) ?hr ?_;(case hd=>rfl);(case hg=>rfl);(case hr=>first|(go_simp;done)|(go_simp;rfl));intro a0 hg jx hbox hb;have L:=Aside0.mk (Qj (by repeat(first|(with_reducible first|exact HB.out|apply Qg|apply Qd|apply Qf)|exact HB.out)) hb);have O:=Aside0.mk (hbox);have X:=Aside0.mk ((by rw[hg];exact(Qi (by repeat(first|(with_reducible first|exact HB.out|apply Qg|apply Qd|apply Qf)|exact HB.out))):w.heap.size≤a0));have δ :=Aside0.mk ((by rw[hg];exact(Qi (by repeat(first|(with_reducible first|exact HB.out|apply Qg|apply Qd|apply Qf)|exact HB.out))):w.heap.size≤a0));clear HB;have HB:=L;have σ:=O;have el:=X;have a3:= δ;clear L O X δ;clear hb hbox hg)|((with_reducible refine Qr (N:=3) rfl ?_);refine Qq ?hg (N:=3) ?hd (cs:=#[.int .i64 μ,.int .i64 η,.int .i64 ν,.int .i64 τ,.int .i64 ρ,.int .i64 χ,.int .i64 ψ]) (t:=29) ?hr ?_;(case hd=>rfl);(case hg=>rfl);(case hr=>first|(go_simp;done)|(go_simp;rfl));intro a2 hg ka hbox hb;have L:=Aside0.mk (Qh (g:=a0) (o:=.cells #[.int .i64 J,.int .i64 B,.int .i64 Y,.int .i64 Z,.int .i64 γ,.int .i64 ζ,.int .i64 ε,.int .i64 κ,.int .i64 ι,.int .i64 θ] 25 (0,0)) (by(with_reducible repeat first|apply Qb|apply Qe|apply Qc);exact σ.out) hb);have O:=Aside0.mk (Qj (by repeat(first|(with_reducible first|exact HB.out|apply Qg|apply Qd|apply Qf|refine Qa ?_ a3.out)|exact HB.out)) hb);have X:=Aside0.mk (hbox);have δ :=Aside0.mk ((by rw[hg];exact(Qi (by repeat(first|(with_reducible first|exact HB.out|apply Qg|apply Qd|apply Qf|refine Qa ?_ a3.out)|exact HB.out))):w.heap.size≤a2));have ξ :=Aside0.mk ((by rw[hg];exact(Qi (by repeat(first|(with_reducible first|exact HB.out|apply Qg|apply Qd|apply Qf|refine Qa ?_ a3.out)|exact HB.out))):w.heap.size≤a2));have φ :=Aside0.mk ((by rw[hg];exact Nat.ne_of_lt (Qp (g:=a0) (o:=.cells #[.int .i64 J,.int .i64 B,.int .i64 Y,.int .i64 Z,.int .i64 γ,.int .i64 ζ,.int .i64 ε,.int .i64 κ,.int .i64 ι,.int .i64 θ] 25 (0,0)) (by(with_reducible repeat first|apply Qb|apply Qe|apply Qc);exact σ.out)):a0≠a2));have ω :=Aside0.mk ((by rw[hg];exact Nat.ne_of_gt (Qp (g:=a0) (o:=.cells #[.int .i64 J,.int .i64 B,.int .i64 Y,.int .i64 Z,.int .i64 γ,.int .i64 ζ,.int .i64 ε,.int .i64 κ,.int .i64 ι,.int .i64 θ] 25 (0,0)) (by(with_reducible repeat first|apply Qb|apply Qe|apply Qc);exact σ.out)):a2≠a0));clear σ;clear HB;have σ:=L;have HB:=O;have a1:=X;have eo:= δ;have a8:= ξ;have am:= φ;have ap:= ω;clear L O X δ ξ φ ω;clear hb hbox hg;have iv:=am.out;have iw:=ap.out;obtain⟨fy,gn,ix,iy,iz,j2,j3,jl,jm,jn,gr,gs,j4,j5,j6,j7,j8,jo,jp,jq⟩:=Zh σ.out;obtain⟨gt,gu,j9,ja,jb,jc,jd,gv,gw,je,jf,jg,jh,ji⟩:=qD7 a1.out)|((with_reducible refine Qt (f:=45) rfl ?_);refine Q7 (some 12) rfl rfl Try.func45 kr rfl #[.agg #[.int .i64 J,.int .i64 B,.int .i64 Y,.int .i64 Z,.int .i64 γ,.int .i64 ζ,.int .i64 ε,.int .i64 κ,.int .i64 ι,.int .i64 θ],.agg #[.int .i64 μ,.int .i64 η,.int .i64 ν,.int .i64 τ,.int .i64 ρ,.int .i64 χ,.int .i64 ψ]] rfl (by(try simp only[List.map_toArray,List.map_cons,List.map_nil]);first|done|rfl|(simp only[List.length_drop,List.length_take];rfl)) ?_;(with_reducible refine(car_check.calls k J B Y Z γ ζ ε κ ι θ μ η ν τ ρ χ ψ ai _ A3.out).mono ?_);rintro e lq ⟨rfl,hb⟩;refine⟨_,rfl, ?_⟩;have L:=Aside0.mk (Qh (g:=a0) (o:=.cells #[.int .i64 J,.int .i64 B,.int .i64 Y,.int .i64 Z,.int .i64 γ,.int .i64 ζ,.int .i64 ε,.int .i64 κ,.int .i64 ι,.int .i64 θ] 25 (0,0)) (by(with_reducible repeat first|apply Qb|apply Qe|apply Qc);exact σ.out) hb);have O:=Aside0.mk (Qh (g:=a2) (o:=.cells #[.int .i64 μ,.int .i64 η,.int .i64 ν,.int .i64 τ,.int .i64 ρ,.int .i64 χ,.int .i64 ψ] 29 (0,0)) (by(with_reducible repeat first|apply Qb|apply Qe|apply Qc);exact a1.out) hb);have X:=Aside0.mk (Qj (by repeat(first|(with_reducible first|exact HB.out|apply Qg|apply Qd|apply Qf|refine Qa ?_ a3.out|refine Qa ?_ a8.out)|exact HB.out)) hb);clear σ;clear a1;clear HB;have σ:=L;have a1:=O;have HB:=X;clear L O X;(try clear hb);(try clear ak);(try clear hk);(try clear hi)))
  go_ret2
  exact⟨by first|rfl|(simp[Qo,Qn] <;> rfl)|(simp[*,Qo,Qn] <;> rfl),by repeat(first|(with_reducible first|exact HB.out|apply Qg|apply Qd|apply Qf|refine Qa ?_ a3.out|refine Qa ?_ a8.out)|exact HB.out)⟩
end Go.Proofs.Ytmfffemidlhcpaa.C
