/- Texts of this claim, one behind the other: what the law's functions come to, walked (printed by a program, with the words that the print uses), and what that is, in plain Lean. No conditions of their own. -/
import Derived.Test.YtmfffemidlhcpaaQGroupCosts4
import Derived.Laws.EntriesVeiled
namespace Go.Proofs.Ytmfffemidlhcpaa.C
open Go.RowKit Go.Proofs.YtmfffemidlhcpaaW.PrintWords Go.Proofs.YtmfffemidlhcpaaW.PrintLast Go.Proofs.YtmfffemidlhcpaaW.PrintMore
def phV:Value:=.agg #[.int .i64 0,.func (.func 95) #[] #[],.int .i64 60,.func (.func 96) #[] #[],.int .i64 300,.func (.func 98) #[] #[],.int .i64 60,.func (.func 99) #[] #[]]
set_option maxHeartbeats 8000000 in
set_option maxRecDepth 100000 in
theorem door_phases.calls (w:World):Calls Try.prog 87 #[] w fun e w'=>e = .returned phV∧Below w.heap.size w w':=by
  have O:=Try.underlying131
  have B:=Try.underlying132
  have HB:=Aside0.mk (Below.refl w.heap.size w)
  go_enter Try.func87,Try.ntmps87
  go_wp2_with (first|((with_reducible refine Qe (N:=0) rfl ?_);refine Zj ?hg (N:=0) ?hd (cs:=#[.int .i64 0,.nilFunc,.int .i64 0,.nilFunc,.int .i64 0,.nilFunc,.int .i64 0,.nilFunc]) (t:=132) ?hr ?_;(case hd=>rfl);(case hg=>rfl);(case hr=>first|(go_simp;done)|(go_simp;rfl));intro gb hg w1 hbox hb;have L:=Aside0.mk (Qy HB.out hb);have BK:=Aside0.mk hbox;have GE:=Aside0.mk (by rw[hg];exact Nat.le_refl _:w.heap.size≤gb);clear HB hg hb hbox;have γ:=(Qa BK.out 0).trans rfl;have δ :=Qr BK.out 0;have dj:=(Qa BK.out 1).trans rfl;have ε :=Qr BK.out 1;have dk:=(Qa BK.out 2).trans rfl;have co:=Qr BK.out 2;have ζ :=(Qa BK.out 3).trans rfl;have η :=Qr BK.out 3;have θ :=(Qa BK.out 4).trans rfl;have qo:=Qr BK.out 4;have ι :=(Qa BK.out 5).trans rfl;have qp:=Qr BK.out 5;have κ :=(Qa BK.out 6).trans rfl;have μ :=Qr BK.out 6;have ν :=(Qa BK.out 7).trans rfl;have ξ :=Qr BK.out 7))
  have X:=Yc BK.out 0 (.int .i64 0)
  have b1:=Yc X 1 (.func (.func 95) #[] #[])
  have b2:=Yc b1 2 (.int .i64 60)
  have b3:=Yc b2 3 (.func (.func 96) #[] #[])
  have J:=Yc b3 4 (.int .i64 300)
  have Z:=Yc J 5 (.func (.func 98) #[] #[])
  have b6:=Yc Z 6 (.int .i64 60)
  have Y:=Yc b6 7 (.func (.func 99) #[] #[])
  simp only[List.setIfInBounds_toArray,List.set_cons_zero,List.set_cons_succ] at Y
  refine bodyPost_ret (v:=phV) ?_ rfl ⟨rfl, ?_⟩
  · refine results_cell_row (p:=0) (ty:=132) ?_ _ _ gb 132 _ (0,0) _ ?_ Y B ?_ ?_
    · rfl
    · rfl
    · rfl
    · kernel_rfl
  · with_reducible repeat(first|exact L.out|refine Qs ?_ GE.out)
section
variable {P : Program} {ops : Array Oper} {Q : Exit → Act → World → Prop}
end
theorem Lg (x y:Value) (w:World):Sem.run Try.prog (Instr.field 131 (.agg #[x,y]) 0) w = .ok x w:=by
  have O:=Try.underlying131
  have B:=Try.underlying3
  simp[Instr.field,run_underlying O,part,isAgg,asAgg,run_underlying B,Result.andThen]
def Zv (d:Int):Int:=if d=0 then 0 else if d=1 then 60 else if d=2 then 300 else 60
def tickN (d:Int):Nat:=if d=0 then 95 else if d=1 then 96 else if d=2 then 98 else 99
theorem W4 {n lo hi:Int} (h:door_within.f n lo hi=some true):lo≤n∧n≤hi:=by
  unfold door_within.f at h
  split at h <;> simp at h <;> omega
theorem Lf (ev:Operand→Value) (o:Oper) (x y:Operand) (ho:o.op = .index 132 x y) (hx:ev x=phV) (hy:ev y = .int .i64 0) (w:World):
    Sem.run Try.prog (execOp ev o) w = .ok (.value (.agg #[.int .i64 0,.func (.func 95) #[] #[]])) w:=by
  have B:=Try.underlying132
  have hs:(Try.prog.info? 131).map (·.size)=some 2:=by kernel_rfl
  obtain⟨i,hi,hs⟩:=Option.map_eq_some_iff.mp hs
  unfold execOp
  rw[ho]
  simp only
  rw[hx,hy]
  unfold phV
  simp[Instr.index,asIntOf,run_underlying B,part,sizeOf,typeInfo,Result.andThen,hi,hs]
theorem Le (ev:Operand→Value) (o:Oper) (x y:Operand) (ho:o.op = .index 132 x y) (hx:ev x=phV) (hy:ev y = .int .i64 1) (w:World):
    Sem.run Try.prog (execOp ev o) w = .ok (.value (.agg #[.int .i64 60,.func (.func 96) #[] #[]])) w:=by
  have B:=Try.underlying132
  have hs:(Try.prog.info? 131).map (·.size)=some 2:=by kernel_rfl
  obtain⟨i,hi,hs⟩:=Option.map_eq_some_iff.mp hs
  unfold execOp
  rw[ho]
  simp only
  rw[hx,hy]
  unfold phV
  simp[Instr.index,asIntOf,run_underlying B,part,sizeOf,typeInfo,Result.andThen,hi,hs]
theorem Ld (ev:Operand→Value) (o:Oper) (x y:Operand) (ho:o.op = .index 132 x y) (hx:ev x=phV) (hy:ev y = .int .i64 2) (w:World):
    Sem.run Try.prog (execOp ev o) w = .ok (.value (.agg #[.int .i64 300,.func (.func 98) #[] #[]])) w:=by
  have B:=Try.underlying132
  have hs:(Try.prog.info? 131).map (·.size)=some 2:=by kernel_rfl
  obtain⟨i,hi,hs⟩:=Option.map_eq_some_iff.mp hs
  unfold execOp
  rw[ho]
  simp only
  rw[hx,hy]
  unfold phV
  simp[Instr.index,asIntOf,run_underlying B,part,sizeOf,typeInfo,Result.andThen,hi,hs]
theorem Lc (ev:Operand→Value) (o:Oper) (x y:Operand) (ho:o.op = .index 132 x y) (hx:ev x=phV) (hy:ev y = .int .i64 3) (w:World):
    Sem.run Try.prog (execOp ev o) w = .ok (.value (.agg #[.int .i64 60,.func (.func 99) #[] #[]])) w:=by
  have B:=Try.underlying132
  have hs:(Try.prog.info? 131).map (·.size)=some 2:=by kernel_rfl
  obtain⟨i,hi,hs⟩:=Option.map_eq_some_iff.mp hs
  unfold execOp
  rw[ho]
  simp only
  rw[hx,hy]
  unfold phV
  simp[Instr.index,asIntOf,run_underlying B,part,sizeOf,typeInfo,Result.andThen,hi,hs]
theorem Gc {d:Int} {ev:Operand→Value} {o:Oper} {x y:Operand} (ho:o.op = .index 132 x y) (hx:ev x=phV) (hy:ev y = .int .i64 d) (X:0≤d) (h3:d≤3) (w:World):
    Sem.run Try.prog (execOp ev o) w = .ok (.value (.agg #[.int .i64 (Zv d),.func (.func (tickN d)) #[] #[]])) w:=by
  have e:d=0∨d=1∨d=2∨d=3:=by omega
  rcases e with rfl|rfl|rfl|rfl
  · exact Lf ev o x y ho hx hy w
  · exact Le ev o x y ho hx hy w
  · exact Ld ev o x y ho hx hy w
  · exact Lc ev o x y ho hx hy w
end Go.Proofs.Ytmfffemidlhcpaa.C
namespace Go.Proofs.Ytmfffemidlhcpaa.C
open Go.RowKit Go.Proofs.YtmfffemidlhcpaaW.PrintWords Go.Proofs.YtmfffemidlhcpaaW.PrintLast Go.Proofs.YtmfffemidlhcpaaW.PrintMore
attribute [local go_sem] Zz Zx Z9 Z8 Zq Zp Zy Zw
set_option linter.unusedVariables false
set_option linter.unusedSimpArgs false
def door_Check.f (B:Int) (J:Int) (L:Int):Option (Int):=(door_within.f B 0 3).bind fun a8=>(if a8=true then ((door_on.f B J L 0 0).bind fun ζ =>((door_within.f J (mn (Zv B) 1) (Zv B)).bind fun θ =>(if θ = true then ((door_within.f L 0 (mn (Zv B) 60)).bind fun η =>(if η = true then (some 0) else (some 170))) else (some 170)))) else (some 170))
set_option maxHeartbeats 8000000 in
set_option maxRecDepth 100000 in
theorem door_Check.calls (B:Int) (J:Int) (L:Int) (r:Int) (w:World) (h:door_Check.f B J L=some r):
  Calls Try.prog 71 #[.agg #[.int .i64 B,.int .i64 J,.int .i64 L]] w fun e w'=>e = .returned (.int .i64 r)∧Below w.heap.size w w':=by
 have i4:=Try.underlying27
 have HB:=Aside0.mk (Below.refl w.heap.size w)
 have H:((door_within.f B 0 3).bind fun a8=>(if a8=true then ((door_on.f B J L 0 0).bind fun ζ =>((door_within.f J (mn (Zv B) 1) (Zv B)).bind fun θ =>(if θ = true then ((door_within.f L 0 (mn (Zv B) 60)).bind fun η =>(if η = true then (some 0) else (some 170))) else (some 170)))) else (some 170)))=some r:=h
 clear h
 replace H:=Option.bind_eq_some_iff.mp H
 obtain⟨a8,ch,H⟩:=H
 replace H:(if a8=true then ((door_on.f B J L 0 0).bind fun ζ =>((door_within.f J (mn (Zv B) 1) (Zv B)).bind fun θ =>(if θ = true then ((door_within.f L 0 (mn (Zv B) 60)).bind fun η =>(if η = true then (some 0) else (some 170))) else (some 170)))) else (some 170))=some r:=H
 have A2:=Aside0.mk ch
 clear ch
 by_cases c3:a8=true
 ·subst c3
  have hph_:=W4 A2.out
  have ι :=Lg
  have H1:((door_on.f B J L 0 0).bind fun ζ =>((door_within.f J (mn (Zv B) 1) (Zv B)).bind fun θ =>(if θ = true then ((door_within.f L 0 (mn (Zv B) 60)).bind fun η =>(if η = true then (some 0) else (some 170))) else (some 170))))=some r:=by rw[if_pos rfl] at H;exact H
  clear H
  have H:=H1
  clear H1
  replace H:=Option.bind_eq_some_iff.mp H
  obtain⟨⟨σ,ω,ε⟩,cg,H⟩:=H
  replace H:((door_within.f J (mn (Zv B) 1) (Zv B)).bind fun θ =>(if θ = true then ((door_within.f L 0 (mn (Zv B) 60)).bind fun η =>(if η = true then (some 0) else (some 170))) else (some 170)))=some r:=H
  have A4:=Aside0.mk cg
  clear cg
  obtain⟨γ,Y⟩:∃ j_:Int,(mn (Zv B) 1)=j_:=⟨_,rfl⟩
  replace H:((door_within.f J (γ) (Zv B)).bind fun θ =>(if θ = true then ((door_within.f L 0 (mn (Zv B) 60)).bind fun η =>(if η = true then (some 0) else (some 170))) else (some 170)))=some r:=by first|(rw[Y] at H;exact H)|(simp only[Y] at H ⊢;exact H)
  (try rw[Y] at A2)
  (try rw[Y] at A4)
  (try(have hji5h:γ≤1:=by(rw[← Y];unfold mn;(repeat' split) <;> omega)))
  (try(have hji5g:γ≤64:=by omega))
  have μ :(if 1<(Zv B) then 1 else (Zv B))=γ:=Y
  replace H:=Option.bind_eq_some_iff.mp H
  obtain⟨θ,az,H⟩:=H
  replace H:(if θ = true then ((door_within.f L 0 (mn (Zv B) 60)).bind fun η =>(if η = true then (some 0) else (some 170))) else (some 170))=some r:=H
  have A6:=Aside0.mk az
  clear az
  by_cases c7: θ = true
  ·subst c7
   have H1:((door_within.f L 0 (mn (Zv B) 60)).bind fun η =>(if η = true then (some 0) else (some 170)))=some r:=by rw[if_pos rfl] at H;exact H
   clear H
   have H:=H1
   clear H1
   obtain⟨δ,Z⟩:∃ j_:Int,(mn (Zv B) 60)=j_:=⟨_,rfl⟩
   replace H:((door_within.f L 0 (δ)).bind fun η =>(if η = true then (some 0) else (some 170)))=some r:=by first|(rw[Z] at H;exact H)|(simp only[Z] at H ⊢;exact H)
   (try rw[Z] at A2)
   (try rw[Z] at A4)
   (try rw[Z] at A6)
   (try(have hji8h: δ ≤ 60:=by(rw[← Z];unfold mn;(repeat' split) <;> omega)))
   (try(have hji8g: δ ≤ 64:=by omega))
   have ν :(if 60<(Zv B) then 60 else (Zv B)) = δ :=Z
   replace H:=Option.bind_eq_some_iff.mp H
   obtain⟨η,bg,H⟩:=H
   replace H:(if η = true then (some 0) else (some 170))=some r:=H
   have A9:=Aside0.mk bg
   clear bg
   by_cases c10: η = true
   ·subst c10
    have H1:(some 0)=some r:=by rw[if_pos rfl] at H;exact H
    clear H
    have H:=H1
    clear H1
    obtain rfl:=Option.some.inj H
    go_enter Try.func71,Try.ntmps71
    try go_wp2_with (first|((with_reducible refine Qe (N:=1) rfl ?_);(try(refine Zo (by rfl) ?_;dsimp only));refine qE 1 #[.int .i64 B,.int .i64 J,.int .i64 L] 27 ?_;intro X hg ez hbox hb;have O:=Aside0.mk hbox;have ξ :=sGe hg;have κ :=sGe hg;replace HB:=sHb hb;clear hb hbox hg;obtain⟨τ,φ,ae,a5,a9,b8⟩:=qD3 O.out)|((with_reducible refine Qd (f:=86) rfl ?_);refine Qn (some 6) rfl rfl Try.func86 kr rfl #[.int .i64 B,.int .i64 0,.int .i64 3] rfl qM ?_;(with_reducible refine(door_within.calls B 0 3 true _ A2.out).mono ?_);rintro e w' ⟨rfl,⟨nd,rfl⟩⟩;refine⟨_,rfl, ?_⟩))
    (try(rw[Yl ez];generalize hq_:World.drewN ez _=ez;have ρ:Aside0 (ez.heap[X]?=some (.cells #[.int .i64 B,.int .i64 J,.int .i64 L] 27 (0,0))):=⟨by rw[← hq_];exact(bka O)⟩;have χ :Aside0 (Below w.heap.size w ez):=⟨by rw[← hq_];exact bel⟩;clear O HB hq_;have O:=ρ;have HB:= χ;clear ρ χ))
    (try(have ai:ez.cell? ⟨X,0,none⟩=some (.int .i64 B):=(Qa O.out 0).trans rfl))
    (try(have a6:ez.cell? ⟨X,1,none⟩=some (.int .i64 J):=(Qa O.out 1).trans rfl))
    (try(have a2:ez.cell? ⟨X,2,none⟩=some (.int .i64 L):=(Qa O.out 2).trans rfl))
    (try(have aj:=Qr O.out 0))
    (try(have ab:=Qr O.out 1))
    (try(have a3:=Qr O.out 2))
    have ρ:=Aside0.mk (Qf O.out)
    have χ :=Aside0.mk (Qi HB.out)
    clear O
    clear HB
    have O:=ρ
    have HB:= χ
    clear ρ χ
    refine Zl (n:=6) (S:=fun w'=>w'.cell? ⟨X,0,none⟩=some (.int .i64 B)∧w'.cell? ⟨X,1,none⟩=some (.int .i64 J)∧w'.cell? ⟨X,2,none⟩=some (.int .i64 L)) (ds:=[]) #[false,false,false,false,false,false] kr rfl rfl ⟨(Qa O.out 0).trans rfl,(Qa O.out 1).trans rfl,(Qa O.out 2).trans rfl⟩ (fun hHeld=>?_)
    generalize ez.drew=bh at O HB hHeld ⊢
    refine X0 (i:=1) (N:=some 9) (v:=?_) (a':=?_) #[false,true,false,false,false,false] rfl rfl kr (fun _ _ _ h=>h) (Or.inl ⟨by rfl, ?_⟩) ?_ ?_
    rotate_left
    ·intro w'
     go_simp
     with_reducible rfl
    rotate_left
    ·simp only[Act.put,qS,Za,Zb]
     rfl
    refine Jb (i:=2) (N:=some 10) (v:=?_) (a':=?_) #[false,true,true,false,false,false] rfl rfl kr (fun _ _ _ h=>h) (Or.inl ⟨by rfl, ?_⟩) hHeld ?_ ?_
    rotate_left
    ·rintro w' ⟨s0,s1,s2⟩
     go_simp
     with_reducible rfl
    rotate_left
    ·simp only[Act.put,qS,Za,Zb]
     rfl
    refine Zg (i:=0) (N:=some 8) #[true,true,true,false,false,false] rfl rfl kr (by decide) (fun K hK=>?_)
    refine Zf Try.func87 kr rfl #[] (by rfl) rfl rfl (by(try simp only[List.map_toArray,List.map_cons,List.map_nil]);first|done|rfl|(simp only[List.length_drop,List.length_take];rfl)) ?_
    with_reducible refine(door_phases.calls _).mono ?_
    rintro e g9 ⟨rfl,hb⟩
    refine⟨_,rfl, ?_⟩
    have ρ:=Aside0.mk (Qt (g:=X) (o:=.cells #[.int .i64 B,.int .i64 J,.int .i64 L] 27 (0,0)) (by(with_reducible repeat first|refine Qk ?_ _|refine Qf ?_|refine Ql ?_ _);exact O.out) hb)
    have χ :=Aside0.mk (Qy (by repeat(first|(with_reducible first|exact HB.out|apply Qq|apply Qj|apply Qi|refine Qs ?_ κ.out)|exact HB.out)) hb)
    clear O
    clear HB
    have O:=ρ
    have HB:= χ
    clear ρ χ
    (try clear hb)
    (try clear a4)
    (try clear hk)
    (try clear hi)
    refine hK.out _ _ ⟨qc O,qc O,qc O⟩ (fun hHeld=>?_)
    clear hK K
    refine qN (some 8) ?_
    refine X0 (i:=3) (N:=some 11) (v:=?_) (a':=?_) #[true,true,true,true,false,false] rfl rfl kr (fun _ _ _ h=>h) (Or.inl ⟨by rfl, ?_⟩) ?_ ?_
    rotate_left
    ·intro w'
     rw[Gc (d:=B) (x:=.tmp 8) (y:=.tmp 10)]
     all_goals first|exact hph_.1|exact hph_.2|rfl
    rotate_left
    ·simp only[Act.put,qS,Za,Zb]
     rfl
    refine X0 (i:=4) (N:=some 12) (v:=?_) (a':=?_) #[true,true,true,true,true,false] rfl rfl kr (fun _ _ _ h=>h) (Or.inl ⟨by rfl, ?_⟩) ?_ ?_
    rotate_left
    ·intro w'
     go_simp
     with_reducible rfl
    rotate_left
    ·simp only[Act.put,qS,Za,Zb]
     rfl
    refine X0 (i:=5) (N:=some 3) (v:=?_) (a':=?_) #[true,true,true,true,true,true] rfl rfl kr (fun _ _ _ h=>h) (Or.inl ⟨by rfl, ?_⟩) ?_ ?_
    rotate_left
    ·intro w'
     go_simp
     with_reducible rfl
    rotate_left
    ·simp only[Act.put,qS,Za,Zb]
     rfl
    refine Z2 kr ?_
    obtain⟨bw,bz,cq,ca,cb,cr⟩:=qD3 O.out
    try go_wp2_with (first|((with_reducible refine Qd (f:=86) rfl ?_);refine Qn (some 18) rfl rfl Try.func86 kr rfl #[.int .i64 J,.int .i64 γ,.int .i64 (Zv B)] rfl (by(try simp only[List.map_toArray,List.map_cons,List.map_nil]);first|done|(simp only[Y];rfl)|rfl|(simp only[List.length_drop,List.length_take];rfl)) ?_;(with_reducible refine(door_within.calls J γ (Zv B) true _ A6.out).mono ?_);rintro e w' ⟨rfl,⟨nd,rfl⟩⟩;refine⟨_,rfl, ?_⟩)|(go_at_call 86;(with_reducible refine(door_within.calls L 0 δ true _ A9.out).mono ?_);rintro e w' ⟨rfl,⟨nd,rfl⟩⟩))
    go_ret
    exact⟨by first|rfl|(simp[Qh,Qg] <;> rfl)|(simp only[← Y,← Z];first|rfl|(simp[Qh,Qg] <;> rfl))|(simp[*,Qh,Qg] <;> rfl),bel⟩
   ·replace c10:=Bool.eq_false_iff.mpr c10
    subst c10
    have H1:(some 170)=some r:=by rw[if_neg (show ¬ (false=true) by decide)] at H;exact H
    clear H
    have H:=H1
    clear H1
    obtain rfl:=Option.some.inj H
    go_enter Try.func71,Try.ntmps71
    try go_wp2_with (first|((with_reducible refine Qe (N:=1) rfl ?_);(try(refine Zo (by rfl) ?_;dsimp only));refine qE 1 #[.int .i64 B,.int .i64 J,.int .i64 L] 27 ?_;intro X hg e6 hbox hb;have O:=Aside0.mk hbox;have ξ :=sGe hg;have κ :=sGe hg;replace HB:=sHb hb;clear hb hbox hg;obtain⟨br,bs,dj,bu,bv,dk⟩:=qD3 O.out)|((with_reducible refine Qd (f:=86) rfl ?_);refine Qn (some 6) rfl rfl Try.func86 kr rfl #[.int .i64 B,.int .i64 0,.int .i64 3] rfl qM ?_;(with_reducible refine(door_within.calls B 0 3 true _ A2.out).mono ?_);rintro e w' ⟨rfl,⟨nd,rfl⟩⟩;refine⟨_,rfl, ?_⟩))
    (try(rw[Yl e6];generalize hq_:World.drewN e6 _=e6;have ρ:Aside0 (e6.heap[X]?=some (.cells #[.int .i64 B,.int .i64 J,.int .i64 L] 27 (0,0))):=⟨by rw[← hq_];exact(bka O)⟩;have χ :Aside0 (Below w.heap.size w e6):=⟨by rw[← hq_];exact bel⟩;clear O HB hq_;have O:=ρ;have HB:= χ;clear ρ χ))
    (try(have am:e6.cell? ⟨X,0,none⟩=some (.int .i64 B):=(Qa O.out 0).trans rfl))
    (try(have an:e6.cell? ⟨X,1,none⟩=some (.int .i64 J):=(Qa O.out 1).trans rfl))
    (try(have b5:e6.cell? ⟨X,2,none⟩=some (.int .i64 L):=(Qa O.out 2).trans rfl))
    (try(have ay:=Qr O.out 0))
    (try(have b0:=Qr O.out 1))
    (try(have b7:=Qr O.out 2))
    have ρ:=Aside0.mk (Qf O.out)
    have χ :=Aside0.mk (Qi HB.out)
    clear O
    clear HB
    have O:=ρ
    have HB:= χ
    clear ρ χ
    refine Zl (n:=6) (S:=fun w'=>w'.cell? ⟨X,0,none⟩=some (.int .i64 B)∧w'.cell? ⟨X,1,none⟩=some (.int .i64 J)∧w'.cell? ⟨X,2,none⟩=some (.int .i64 L)) (ds:=[]) #[false,false,false,false,false,false] kr rfl rfl ⟨(Qa O.out 0).trans rfl,(Qa O.out 1).trans rfl,(Qa O.out 2).trans rfl⟩ (fun hHeld=>?_)
    generalize e6.drew=fr at O HB hHeld ⊢
    refine X0 (i:=1) (N:=some 9) (v:=?_) (a':=?_) #[false,true,false,false,false,false] rfl rfl kr (fun _ _ _ h=>h) (Or.inl ⟨by rfl, ?_⟩) ?_ ?_
    rotate_left
    ·intro w'
     go_simp
     with_reducible rfl
    rotate_left
    ·simp only[Act.put,qS,Za,Zb]
     rfl
    refine Jb (i:=2) (N:=some 10) (v:=?_) (a':=?_) #[false,true,true,false,false,false] rfl rfl kr (fun _ _ _ h=>h) (Or.inl ⟨by rfl, ?_⟩) hHeld ?_ ?_
    rotate_left
    ·rintro w' ⟨s0,s1,s2⟩
     go_simp
     with_reducible rfl
    rotate_left
    ·simp only[Act.put,qS,Za,Zb]
     rfl
    refine Zg (i:=0) (N:=some 8) #[true,true,true,false,false,false] rfl rfl kr (by decide) (fun K hK=>?_)
    refine Zf Try.func87 kr rfl #[] (by rfl) rfl rfl (by(try simp only[List.map_toArray,List.map_cons,List.map_nil]);first|done|rfl|(simp only[List.length_drop,List.length_take];rfl)) ?_
    with_reducible refine(door_phases.calls _).mono ?_
    rintro e bc ⟨rfl,hb⟩
    refine⟨_,rfl, ?_⟩
    have ρ:=Aside0.mk (Qt (g:=X) (o:=.cells #[.int .i64 B,.int .i64 J,.int .i64 L] 27 (0,0)) (by(with_reducible repeat first|refine Qk ?_ _|refine Qf ?_|refine Ql ?_ _);exact O.out) hb)
    have χ :=Aside0.mk (Qy (by repeat(first|(with_reducible first|exact HB.out|apply Qq|apply Qj|apply Qi|refine Qs ?_ κ.out)|exact HB.out)) hb)
    clear O
    clear HB
    have O:=ρ
    have HB:= χ
    clear ρ χ
    (try clear hb)
    (try clear a4)
    (try clear hk)
    (try clear hi)
    refine hK.out _ _ ⟨qc O,qc O,qc O⟩ (fun hHeld=>?_)
    clear hK K
    refine qN (some 8) ?_
    refine X0 (i:=3) (N:=some 11) (v:=?_) (a':=?_) #[true,true,true,true,false,false] rfl rfl kr (fun _ _ _ h=>h) (Or.inl ⟨by rfl, ?_⟩) ?_ ?_
    rotate_left
    ·intro w'
     rw[Gc (d:=B) (x:=.tmp 8) (y:=.tmp 10)]
     all_goals first|exact hph_.1|exact hph_.2|rfl
    rotate_left
    ·simp only[Act.put,qS,Za,Zb]
     rfl
    refine X0 (i:=4) (N:=some 12) (v:=?_) (a':=?_) #[true,true,true,true,true,false] rfl rfl kr (fun _ _ _ h=>h) (Or.inl ⟨by rfl, ?_⟩) ?_ ?_
    rotate_left
    ·intro w'
     go_simp
     with_reducible rfl
    rotate_left
    ·simp only[Act.put,qS,Za,Zb]
     rfl
    refine X0 (i:=5) (N:=some 3) (v:=?_) (a':=?_) #[true,true,true,true,true,true] rfl rfl kr (fun _ _ _ h=>h) (Or.inl ⟨by rfl, ?_⟩) ?_ ?_
    rotate_left
    ·intro w'
     go_simp
     with_reducible rfl
    rotate_left
    ·simp only[Act.put,qS,Za,Zb]
     rfl
    refine Z2 kr ?_
    obtain⟨ct,cu,dv,cv,cw,dw⟩:=qD3 O.out
    try go_wp2_with (first|((with_reducible refine Qd (f:=86) rfl ?_);refine Qn (some 18) rfl rfl Try.func86 kr rfl #[.int .i64 J,.int .i64 γ,.int .i64 (Zv B)] rfl (by(try simp only[List.map_toArray,List.map_cons,List.map_nil]);first|done|(simp only[Y];rfl)|rfl|(simp only[List.length_drop,List.length_take];rfl)) ?_;(with_reducible refine(door_within.calls J γ (Zv B) true _ A6.out).mono ?_);rintro e w' ⟨rfl,⟨nd,rfl⟩⟩;refine⟨_,rfl, ?_⟩)|(go_at_call 86;(with_reducible refine(door_within.calls L 0 δ false _ A9.out).mono ?_);rintro e w' ⟨rfl,⟨nd,rfl⟩⟩))
    go_ret
    exact⟨by first|rfl|(simp[Qh,Qg] <;> rfl)|(simp only[← Y,← Z];first|rfl|(simp[Qh,Qg] <;> rfl))|(simp[*,Qh,Qg] <;> rfl),bel⟩
  ·replace c7:=Bool.eq_false_iff.mpr c7
   subst c7
   have H1:(some 170)=some r:=by rw[if_neg (show ¬ (false=true) by decide)] at H;exact H
   clear H
   have H:=H1
   clear H1
   obtain rfl:=Option.some.inj H
   go_enter Try.func71,Try.ntmps71
   try go_wp2_with (first|((with_reducible refine Qe (N:=1) rfl ?_);(try(refine Zo (by rfl) ?_;dsimp only));refine qE 1 #[.int .i64 B,.int .i64 J,.int .i64 L] 27 ?_;intro X hg b6 hbox hb;have O:=Aside0.mk hbox;have ξ :=sGe hg;have κ :=sGe hg;replace HB:=sHb hb;clear hb hbox hg;obtain⟨b9,ba,bo,bb,bf,d8⟩:=qD3 O.out)|((with_reducible refine Qd (f:=86) rfl ?_);refine Qn (some 6) rfl rfl Try.func86 kr rfl #[.int .i64 B,.int .i64 0,.int .i64 3] rfl qM ?_;(with_reducible refine(door_within.calls B 0 3 true _ A2.out).mono ?_);rintro e w' ⟨rfl,⟨nd,rfl⟩⟩;refine⟨_,rfl, ?_⟩))
   (try(rw[Yl b6];generalize hq_:World.drewN b6 _=b6;have ρ:Aside0 (b6.heap[X]?=some (.cells #[.int .i64 B,.int .i64 J,.int .i64 L] 27 (0,0))):=⟨by rw[← hq_];exact(bka O)⟩;have χ :Aside0 (Below w.heap.size w b6):=⟨by rw[← hq_];exact bel⟩;clear O HB hq_;have O:=ρ;have HB:= χ;clear ρ χ))
   (try(have fq:b6.cell? ⟨X,0,none⟩=some (.int .i64 B):=(Qa O.out 0).trans rfl))
   (try(have fw:b6.cell? ⟨X,1,none⟩=some (.int .i64 J):=(Qa O.out 1).trans rfl))
   (try(have fz:b6.cell? ⟨X,2,none⟩=some (.int .i64 L):=(Qa O.out 2).trans rfl))
   (try(have fx:=Qr O.out 0))
   (try(have fy:=Qr O.out 1))
   (try(have gq:=Qr O.out 2))
   have ρ:=Aside0.mk (Qf O.out)
   have χ :=Aside0.mk (Qi HB.out)
   clear O
   clear HB
   have O:=ρ
   have HB:= χ
   clear ρ χ
   refine Zl (n:=6) (S:=fun w'=>w'.cell? ⟨X,0,none⟩=some (.int .i64 B)∧w'.cell? ⟨X,1,none⟩=some (.int .i64 J)∧w'.cell? ⟨X,2,none⟩=some (.int .i64 L)) (ds:=[]) #[false,false,false,false,false,false] kr rfl rfl ⟨(Qa O.out 0).trans rfl,(Qa O.out 1).trans rfl,(Qa O.out 2).trans rfl⟩ (fun hHeld=>?_)
   generalize b6.drew=h9 at O HB hHeld ⊢
   refine X0 (i:=1) (N:=some 9) (v:=?_) (a':=?_) #[false,true,false,false,false,false] rfl rfl kr (fun _ _ _ h=>h) (Or.inl ⟨by rfl, ?_⟩) ?_ ?_
   rotate_left
   ·intro w'
    go_simp
    with_reducible rfl
   rotate_left
   ·simp only[Act.put,qS,Za,Zb]
    rfl
   refine Jb (i:=2) (N:=some 10) (v:=?_) (a':=?_) #[false,true,true,false,false,false] rfl rfl kr (fun _ _ _ h=>h) (Or.inl ⟨by rfl, ?_⟩) hHeld ?_ ?_
   rotate_left
   ·rintro w' ⟨s0,s1,s2⟩
    go_simp
    with_reducible rfl
   rotate_left
   ·simp only[Act.put,qS,Za,Zb]
    rfl
   refine Zg (i:=0) (N:=some 8) #[true,true,true,false,false,false] rfl rfl kr (by decide) (fun K hK=>?_)
   refine Zf Try.func87 kr rfl #[] (by rfl) rfl rfl (by(try simp only[List.map_toArray,List.map_cons,List.map_nil]);first|done|rfl|(simp only[List.length_drop,List.length_take];rfl)) ?_
   with_reducible refine(door_phases.calls _).mono ?_
   rintro e ey ⟨rfl,hb⟩
   refine⟨_,rfl, ?_⟩
   have ρ:=Aside0.mk (Qt (g:=X) (o:=.cells #[.int .i64 B,.int .i64 J,.int .i64 L] 27 (0,0)) (by(with_reducible repeat first|refine Qk ?_ _|refine Qf ?_|refine Ql ?_ _);exact O.out) hb)
   have χ :=Aside0.mk (Qy (by repeat(first|(with_reducible first|exact HB.out|apply Qq|apply Qj|apply Qi|refine Qs ?_ κ.out)|exact HB.out)) hb)
   clear O
   clear HB
   have O:=ρ
   have HB:= χ
   clear ρ χ
   (try clear hb)
   (try clear a4)
   (try clear hk)
   (try clear hi)
   refine hK.out _ _ ⟨qc O,qc O,qc O⟩ (fun hHeld=>?_)
   clear hK K
   refine qN (some 8) ?_
   refine X0 (i:=3) (N:=some 11) (v:=?_) (a':=?_) #[true,true,true,true,false,false] rfl rfl kr (fun _ _ _ h=>h) (Or.inl ⟨by rfl, ?_⟩) ?_ ?_
   rotate_left
   ·intro w'
    rw[Gc (d:=B) (x:=.tmp 8) (y:=.tmp 10)]
    all_goals first|exact hph_.1|exact hph_.2|rfl
   rotate_left
   ·simp only[Act.put,qS,Za,Zb]
    rfl
   refine X0 (i:=4) (N:=some 12) (v:=?_) (a':=?_) #[true,true,true,true,true,false] rfl rfl kr (fun _ _ _ h=>h) (Or.inl ⟨by rfl, ?_⟩) ?_ ?_
   rotate_left
   ·intro w'
    go_simp
    with_reducible rfl
   rotate_left
   ·simp only[Act.put,qS,Za,Zb]
    rfl
   refine X0 (i:=5) (N:=some 3) (v:=?_) (a':=?_) #[true,true,true,true,true,true] rfl rfl kr (fun _ _ _ h=>h) (Or.inl ⟨by rfl, ?_⟩) ?_ ?_
   rotate_left
   ·intro w'
    go_simp
    with_reducible rfl
   rotate_left
   ·simp only[Act.put,qS,Za,Zb]
    rfl
   refine Z2 kr ?_
   obtain⟨eh,fi,fj,ei,fk,fl⟩:=qD3 O.out
   try go_wp2_with (first|((with_reducible refine Qd (f:=86) rfl ?_);refine Qn (some 18) rfl rfl Try.func86 kr rfl #[.int .i64 J,.int .i64 γ,.int .i64 (Zv B)] rfl (by(try simp only[List.map_toArray,List.map_cons,List.map_nil]);first|done|(simp only[Y];rfl)|rfl|(simp only[List.length_drop,List.length_take];rfl)) ?_;(with_reducible refine(door_within.calls J γ (Zv B) false _ A6.out).mono ?_);rintro e w' ⟨rfl,⟨nd,rfl⟩⟩;refine⟨_,rfl, ?_⟩))
   go_ret
   exact⟨by first|rfl|(simp[Qh,Qg] <;> rfl)|(simp only[← Y];first|rfl|(simp[Qh,Qg] <;> rfl))|(simp[*,Qh,Qg] <;> rfl),bel⟩
 ·replace c3:=Bool.eq_false_iff.mpr c3
  subst c3
  have H1:(some 170)=some r:=by rw[if_neg (show ¬ (false=true) by decide)] at H;exact H
  clear H
  have H:=H1
  clear H1
  obtain rfl:=Option.some.inj H
  go_enter Try.func71,Try.ntmps71
  go_wp2_with (first|((with_reducible refine Qe (N:=1) rfl ?_);(try(refine Zo (by rfl) ?_;dsimp only));refine qE 1 #[.int .i64 B,.int .i64 J,.int .i64 L] 27 ?_;intro X hg ci hbox hb;have O:=Aside0.mk hbox;have ξ :=sGe hg;have κ :=sGe hg;replace HB:=sHb hb;clear hb hbox hg;obtain⟨cf,dd,dz,de,df,e0⟩:=qD3 O.out)|((with_reducible refine Qd (f:=86) rfl ?_);refine Qn (some 6) rfl rfl Try.func86 kr rfl #[.int .i64 B,.int .i64 0,.int .i64 3] rfl qM ?_;(with_reducible refine(door_within.calls B 0 3 false _ A2.out).mono ?_);rintro e w' ⟨rfl,⟨nd,rfl⟩⟩;refine⟨_,rfl, ?_⟩))
  go_ret
  exact⟨by first|rfl|(simp[Qh,Qg] <;> rfl)|(simp[*,Qh,Qg] <;> rfl),bel⟩
def door_Rest.j0:Nat→Bool→Int→Int→Int→Int→Int→Int→Int→Int→Int→Int→Int→Int→Int→Option (Int×Int)
 |0,_,_,_,_,_,_,_,_,_,_,_,_,_,_=>none
 |k+1,γ,δ,ε,ζ,L,η,θ,B,ι,J,O,X,Y,Z=>if γ=true then (some (0,170)) else (if X=0 then (some (0,0)) else (if X=1 then (some (wrap64 ((wrap64 (Y+(wrap64 (J+B))))+(wrap64 ((mx (wrap64 (O-Z)) 0) * (wrap64 ((wrap64 (L+J))+B))))),0)) else (if X=2 then (some (wrap64 ((wrap64 (Y+B))+(wrap64 ((mx (wrap64 (O-Z)) 0) * (wrap64 ((wrap64 (L+J))+B))))),0)) else (some (wrap64 (Y+(wrap64 ((mx (wrap64 (O-Z)) 0) * (wrap64 ((wrap64 (L+J))+B))))),0)))))
def door_Rest.f (k:Nat) (B:Int) (J:Int) (L:Int) (Y:Int) (Z:Int) (ε :Int) (γ:Int) (θ :Int) (ζ :Int) (η :Int) (O:Int) (X:Int) (δ :Int):Option (Int×Int):=(door_gear.f k B J L Y Z ε γ θ ζ η).bind fun a0=>(if a0=true then ((door_Check.f O X δ).bind fun ω =>(door_Rest.j0 k (ω != 0) B J L Y Z ε γ θ ζ η O X δ)) else (door_Rest.j0 k true B J L Y Z ε γ θ ζ η O X δ))
theorem door_Rest.Zn:∀ k,(∀ L X Y B O Z y6 y7 y8 y9 γ ε ζ η,LeO (door_Rest.j0 k L X Y B O Z y6 y7 y8 y9 γ ε ζ η) (door_Rest.j0 (k+1) L X Y B O Z y6 y7 y8 y9 γ ε ζ η))
 |0=>fun _ _ _ _ _ _ _ _ _ _ _ _ _ _ r h=>by simp[door_Rest.j0] at h
 |k+1=>by
  have J:=door_Rest.Zn k
  ·intro L X Y B O Z y6 y7 y8 y9 γ ε ζ η
   unfold door_Rest.j0
   repeat' first
   |(with_reducible exact J _ _ _ _ _ _ _ _ _ _ _ _ _ _)
   |(with_reducible exact door_gear.mono _ _ _ _ _ _ _ _ _ _ _)
   |(with_reducible exact LeO.refl _)
   |(with_reducible exact LeO.none _)
   |(with_reducible refine LeO.ite ?_ ?_)
   |(with_reducible refine LeO.bind ?_ (fun _=>?_))
   |exact J _ _ _ _ _ _ _ _ _ _ _ _ _ _
   |exact door_gear.mono _ _ _ _ _ _ _ _ _ _ _
   |exact LeO.none _
   |refine LeO.ite ?_ ?_
   |refine LeO.bind ?_ (fun _=>?_)
theorem door_Rest.mono:∀ B O a2 a3 L a5 X a7 a8 a9 Y Z γ k,LeO (door_Rest.f k B O a2 a3 L a5 X a7 a8 a9 Y Z γ) (door_Rest.f (k+1) B O a2 a3 L a5 X a7 a8 a9 Y Z γ):=by
 intro B O a2 a3 L a5 X a7 a8 a9 Y Z γ k
 have J:=door_Rest.Zn k
 unfold door_Rest.f
 repeat' first
   |(with_reducible exact J _ _ _ _ _ _ _ _ _ _ _ _ _ _)
   |(with_reducible exact door_gear.mono _ _ _ _ _ _ _ _ _ _ _)
   |(with_reducible exact LeO.refl _)
   |(with_reducible exact LeO.none _)
   |(with_reducible refine LeO.ite ?_ ?_)
   |(with_reducible refine LeO.bind ?_ (fun _=>?_))
   |exact J _ _ _ _ _ _ _ _ _ _ _ _ _ _
   |exact door_gear.mono _ _ _ _ _ _ _ _ _ _ _
   |exact LeO.none _
   |refine LeO.ite ?_ ?_
   |refine LeO.bind ?_ (fun _=>?_)
set_option maxHeartbeats 8000000 in
set_option maxRecDepth 100000 in
theorem door_Rest.calls (k:Nat) (B:Int) (J:Int) (L:Int) (Y:Int) (Z:Int) (ε :Int) (γ:Int) (θ :Int) (ζ :Int) (η :Int) (O:Int) (X:Int) (δ :Int) (r1:Int) (r2:Int) (w:World) (h:door_Rest.f k B J L Y Z ε γ θ ζ η O X δ = some (r1,r2)):
  Calls Try.prog 47 #[.agg #[.int .i64 B,.int .i64 J,.int .i64 L,.int .i64 Y,.int .i64 Z,.int .i64 ε,.int .i64 γ,.int .i64 θ,.int .i64 ζ,.int .i64 η],.agg #[.int .i64 O,.int .i64 X,.int .i64 δ]] w fun e w'=>e = .returned (.tuple #[.int .i64 r1,.int .i64 r2])∧Below w.heap.size w w':=by
 have cx:=Try.underlying25
 have i4:=Try.underlying27
 have HB:=Aside0.mk (Below.refl w.heap.size w)
 have H:((door_gear.f k B J L Y Z ε γ θ ζ η).bind fun a0=>(if a0=true then ((door_Check.f O X δ).bind fun ω =>(door_Rest.j0 k (ω != 0) B J L Y Z ε γ θ ζ η O X δ)) else (door_Rest.j0 k true B J L Y Z ε γ θ ζ η O X δ)))=some (r1,r2):=h
 clear h
 have ξ :=Aside0.mk H
 clear H
 go_enter Try.func47,Try.ntmps47
 go_upto_region 1 with(first|((with_reducible refine Qe (N:=2) rfl ?_);refine qE 2 #[.int .i64 B,.int .i64 J,.int .i64 L,.int .i64 Y,.int .i64 Z,.int .i64 ε,.int .i64 γ,.int .i64 θ,.int .i64 ζ,.int .i64 η] 25 ?_;intro ay hg w4 hbox hb;have ι :=Aside0.mk hbox;have cp:=sGe hg;have cq:=sGe hg;replace HB:=sHb hb;clear hb hbox hg)|((with_reducible refine Qe (N:=3) rfl ?_);refine qE 3 #[.int .i64 O,.int .i64 X,.int .i64 δ] 27 ?_;intro b0 hg w5 hbox hb;have κ :=Aside0.mk hbox;have cr:=sGe hg;have ct:=sGe hg;have μ :=sNl ι hg;have ν :=sNg ι hg;replace ι :=sBk ι hb;replace HB:=sHb hb;clear hb hbox hg))
 (try simp only[Act.put,qS])
 go_cut [14] (fun bn wc=>∃ (kq:Nat) (ψ :Bool),bn = .bool ψ ∧ Aside0 (door_Rest.j0 kq ψ B J L Y Z ε γ θ ζ η O X δ = some (r1,r2))∧Aside0 (kq≤k)∧Aside0 (wc.heap[ay]?=some (.cells #[.int .i64 B,.int .i64 J,.int .i64 L,.int .i64 Y,.int .i64 Z,.int .i64 ε,.int .i64 γ,.int .i64 θ,.int .i64 ζ,.int .i64 η] 25 (0,0)))∧Aside0 (wc.heap[b0]?=some (.cells #[.int .i64 O,.int .i64 X,.int .i64 δ] 27 (0,0)))∧Aside0 (Below w.heap.size w wc))
 case first=>
  have H:= ξ.out
  clear ξ
  replace H:=Option.bind_eq_some_iff.mp H
  obtain⟨a0,az,H⟩:=H
  replace H:(if a0=true then ((door_Check.f O X δ).bind fun ω =>(door_Rest.j0 k (ω != 0) B J L Y Z ε γ θ ζ η O X δ)) else (door_Rest.j0 k true B J L Y Z ε γ θ ζ η O X δ))=some (r1,r2):=H
  have A6:=Aside0.mk az
  clear az
  by_cases c7:a0=true
  ·subst c7
   have H1:((door_Check.f O X δ).bind fun ω =>(door_Rest.j0 k (ω != 0) B J L Y Z ε γ θ ζ η O X δ))=some (r1,r2):=by rw[if_pos rfl] at H;exact H
   clear H
   have H:=H1
   clear H1
   replace H:=Option.bind_eq_some_iff.mp H
   obtain⟨ω,b5,H⟩:=H
   replace H:(door_Rest.j0 k (ω != 0) B J L Y Z ε γ θ ζ η O X δ)=some (r1,r2):=H
   have A8:=Aside0.mk b5
   clear b5
   have H':=Aside0.mk H
   clear H
   have o3:= μ.out
   have o4:= ν.out
   obtain⟨ab,ai,aj,ah,ak,al,ao,a2,a6,bm,aw,ax,bd,ap,be,bk,bl,ed,gb,ge⟩:=Q5 ι.out
   go_wp2_with (first|((with_reducible refine Qd (f:=72) rfl ?_);refine Qn (some 8) rfl rfl Try.func72 kr rfl #[.agg #[.int .i64 B,.int .i64 J,.int .i64 L,.int .i64 Y,.int .i64 Z,.int .i64 ε,.int .i64 γ,.int .i64 θ,.int .i64 ζ,.int .i64 η]] rfl qM ?_;(with_reducible refine(door_gear.calls k B J L Y Z ε γ θ ζ η true _ A6.out).mono ?_);rintro e ez ⟨rfl,hb⟩;refine⟨_,rfl, ?_⟩;replace ι :=sBk ι hb;replace κ :=sBk κ hb;replace HB:=sHb hb;(try clear hb);(try clear a4);(try clear hk);(try clear hi);obtain⟨τ,φ,ae,a5,a9,b8⟩:=qD3 κ.out)|(go_at_call 71;(with_reducible refine(door_Check.calls O X δ ω _ A8.out).mono ?_);rintro e i3 ⟨rfl,hb⟩;have ρ:=Aside0.mk (Qt (g:=ay) (o:=.cells #[.int .i64 B,.int .i64 J,.int .i64 L,.int .i64 Y,.int .i64 Z,.int .i64 ε,.int .i64 γ,.int .i64 θ,.int .i64 ζ,.int .i64 η] 25 (0,0)) ι.out hb);have χ :=Aside0.mk (Qt (g:=b0) (o:=.cells #[.int .i64 O,.int .i64 X,.int .i64 δ] 27 (0,0)) κ.out hb);have a3:=Aside0.mk (Qy HB.out hb);clear ι;clear κ;clear HB;have ι :=ρ;have κ := χ;have HB:=a3;clear ρ χ a3;(try clear hb);(try clear a4);(try clear hk);(try clear hi)))
   go_meet
   case rel=>exact⟨_,((ω != 0)),rfl,H',⟨by first|omega|exact Nat.le_refl _⟩,ι,κ,HB⟩
  ·replace c7:=Bool.eq_false_iff.mpr c7
   subst c7
   have H1:(door_Rest.j0 k true B J L Y Z ε γ θ ζ η O X δ)=some (r1,r2):=by rw[if_neg (show ¬ (false=true) by decide)] at H;exact H
   clear H
   have H:=H1
   clear H1
   have H':=Aside0.mk H
   clear H
   have h7:= μ.out
   have h8:= ν.out
   obtain⟨b1,b2,cd,bg,bh,bi,ac,bs,bu,eg,b3,b4,ce,bj,bq,d0,ei,ey,f7,f8⟩:=Q5 ι.out
   go_wp2_with (first|((with_reducible refine Qd (f:=72) rfl ?_);refine Qn (some 8) rfl rfl Try.func72 kr rfl #[.agg #[.int .i64 B,.int .i64 J,.int .i64 L,.int .i64 Y,.int .i64 Z,.int .i64 ε,.int .i64 γ,.int .i64 θ,.int .i64 ζ,.int .i64 η]] rfl qM ?_;(with_reducible refine(door_gear.calls k B J L Y Z ε γ θ ζ η false _ A6.out).mono ?_);rintro e dj ⟨rfl,hb⟩;refine⟨_,rfl, ?_⟩;replace ι :=sBk ι hb;replace κ :=sBk κ hb;replace HB:=sHb hb;(try clear hb);(try clear a4);(try clear hk);(try clear hi)))
   go_meet
   case rel=>exact⟨_,(true),rfl,H',⟨by first|omega|exact Nat.le_refl _⟩,ι,κ,HB⟩
 case rest=>
  clear ξ
  try clear c1
  try clear p2
  try clear c4
  try clear c7
  try clear c9
  try clear ag
  try clear ab
  try clear ai
  try clear aj
  try clear ah
  try clear ak
  try clear al
  try clear ao
  try clear a2
  try clear a6
  try clear bm
  try clear τ
  try clear φ
  try clear ae
  try clear b1
  try clear b2
  try clear cd
  try clear bg
  try clear bh
  try clear bi
  try clear ac
  try clear bs
  try clear bu
  try clear eg
  try clear aw
  try clear ax
  try clear bd
  try clear ap
  try clear be
  try clear bk
  try clear bl
  try clear ed
  try clear gb
  try clear ge
  try clear a5
  try clear a9
  try clear b8
  try clear b3
  try clear b4
  try clear ce
  try clear bj
  try clear bq
  try clear d0
  try clear ei
  try clear ey
  try clear f7
  try clear f8
  obtain⟨kq,ψ,rfl,HA,b6,ι,κ,HB⟩:=hcut
  cases kq with
  |zero=>exact absurd HA.out (by simp[door_Rest.j0])
  |succ d5=>
   have H:=HA.out
   clear HA
   simp only[door_Rest.j0] at H
   by_cases af: ψ = true
   ·subst af
    have H1:(some (0,170))=some (r1,r2):=by rw[if_pos rfl] at H;exact H
    clear H
    have H:=H1
    clear H1
    simp only[Option.some.injEq,Prod.mk.injEq] at H
    obtain⟨rfl,rfl⟩:=H
    go_wp2
    go_ret2
    exact⟨rfl,HB.out⟩
   ·replace af:=Bool.eq_false_iff.mpr af
    subst af
    have H1:(if O=0 then (some (0,0)) else (if O=1 then (some (wrap64 ((wrap64 (X+(wrap64 (ζ + γ))))+(wrap64 ((mx (wrap64 (η - δ)) 0) * (wrap64 ((wrap64 (Y + ζ))+γ))))),0)) else (if O=2 then (some (wrap64 ((wrap64 (X+γ))+(wrap64 ((mx (wrap64 (η - δ)) 0) * (wrap64 ((wrap64 (Y + ζ))+γ))))),0)) else (some (wrap64 (X+(wrap64 ((mx (wrap64 (η - δ)) 0) * (wrap64 ((wrap64 (Y + ζ))+γ))))),0)))))=some (r1,r2):=by rw[if_neg (show ¬ (false=true) by decide)] at H;exact H
    clear H
    have H:=H1
    clear H1
    by_cases bc:O=0
    ·rw[if_pos bc] at H
     have c18b0:(O==0)=true:=beq_iff_eq.mpr bc
     have c18b1:(O != 0)=false:=bne_eq_false_iff_eq.mpr bc
     clear bc
     simp only[Option.some.injEq,Prod.mk.injEq] at H
     obtain⟨rfl,rfl⟩:=H
     have b7:= ν.out
     have ch:= μ.out
     obtain⟨a7,ar,a1,au,av,a8⟩:=qD3 κ.out
     go_wp2
     go_ret2
     exact⟨rfl,HB.out⟩
    ·rw[if_neg bc] at H
     have c18b0:(O==0)=false:=beq_eq_false_iff_ne.mpr bc
     have c18b1:(O != 0)=true:=bne_iff_ne.mpr bc
     by_cases σ:O=1
     ·rw[if_pos σ] at H
      have c21b0:(O==1)=true:=beq_iff_eq.mpr σ
      have c21b1:(O != 1)=false:=bne_eq_false_iff_eq.mpr σ
      clear σ
      obtain⟨bw,aa⟩:∃ j_:Int,(mx (wrap64 (η - δ)) 0)=j_:=⟨_,rfl⟩
      replace H:(some (wrap64 ((wrap64 (X+(wrap64 (ζ + γ))))+(wrap64 ((bw) * (wrap64 ((wrap64 (Y + ζ))+γ))))),0))=some (r1,r2):=by first|(rw[aa] at H;exact H)|(simp only[aa] at H ⊢;exact H)
      have cb:(if (wrap64 (η - δ))<0 then 0 else (wrap64 (η - δ)))=bw:=aa
      simp only[Option.some.injEq,Prod.mk.injEq] at H
      obtain⟨rfl,rfl⟩:=H
      have di:= ν.out
      have e5:= μ.out
      obtain⟨b9,ba,bo,bb,bf,d8⟩:=qD3 κ.out
      obtain⟨fq,fw,fz,fr,ie,ig,ih,ci,cg,cj,fx,fy,gq,ii,ij,ik,il,h0,d9,da⟩:=Q5 ι.out
      go_wp2
      go_ret2
      exact⟨by first|rfl|(simp[Qh,Qg] <;> rfl)|(simp only[← aa];first|rfl|(simp[Qh,Qg] <;> rfl))|(simp[*,Qh,Qg] <;> rfl),HB.out⟩
     ·rw[if_neg σ] at H
      have c21b0:(O==1)=false:=beq_eq_false_iff_ne.mpr σ
      have c21b1:(O != 1)=true:=bne_iff_ne.mpr σ
      by_cases bp:O=2
      ·rw[if_pos bp] at H
       have c26b0:(O==2)=true:=beq_iff_eq.mpr bp
       have c26b1:(O != 2)=false:=bne_eq_false_iff_eq.mpr bp
       clear bp
       obtain⟨bz,am⟩:∃ j_:Int,(mx (wrap64 (η - δ)) 0)=j_:=⟨_,rfl⟩
       replace H:(some (wrap64 ((wrap64 (X+γ))+(wrap64 ((bz) * (wrap64 ((wrap64 (Y + ζ))+γ))))),0))=some (r1,r2):=by first|(rw[am] at H;exact H)|(simp only[am] at H ⊢;exact H)
       have cn:(if (wrap64 (η - δ))<0 then 0 else (wrap64 (η - δ)))=bz:=am
       simp only[Option.some.injEq,Prod.mk.injEq] at H
       obtain⟨rfl,rfl⟩:=H
       have ck:= ν.out
       have cm:= μ.out
       obtain⟨br,bv,dk,fa,fb,fc⟩:=qD3 κ.out
       obtain⟨cf,dd,dz,ej,ek,el,em,g0,g1,g2,de,df,e0,en,eo,ep,er,g3,g4,g5⟩:=Q5 ι.out
       go_wp2
       go_ret2
       exact⟨by first|rfl|(simp[Qh,Qg] <;> rfl)|(simp only[← am];first|rfl|(simp[Qh,Qg] <;> rfl))|(simp[*,Qh,Qg] <;> rfl),HB.out⟩
      ·rw[if_neg bp] at H
       have c26b0:(O==2)=false:=beq_eq_false_iff_ne.mpr bp
       have c26b1:(O != 2)=true:=bne_iff_ne.mpr bp
       obtain⟨ca,an⟩:∃ j_:Int,(mx (wrap64 (η - δ)) 0)=j_:=⟨_,rfl⟩
       replace H:(some (wrap64 (X+(wrap64 ((ca) * (wrap64 ((wrap64 (Y + ζ))+γ))))),0))=some (r1,r2):=by first|(rw[an] at H;exact H)|(simp only[an] at H ⊢;exact H)
       have co:(if (wrap64 (η - δ))<0 then 0 else (wrap64 (η - δ)))=ca:=an
       simp only[Option.some.injEq,Prod.mk.injEq] at H
       obtain⟨rfl,rfl⟩:=H
       have dv:= ν.out
       have gf:= μ.out
       obtain⟨e6,e7,ev,e8,e9,ew⟩:=qD3 κ.out
       obtain⟨et,fm,fn,ha,he,hh,hj,iv,iw,ix,eu,fo,fp,hl,ho,hu,hx,iy,iz,j3⟩:=Q5 ι.out
       go_wp2
       go_ret2
       exact⟨by first|rfl|(simp[Qh,Qg] <;> rfl)|(simp only[← an];first|rfl|(simp[Qh,Qg] <;> rfl))|(simp[*,Qh,Qg] <;> rfl),HB.out⟩
def door_Ask.j0:Nat→Bool→Int→Int→Int→Int→Int→Int→Int→Int→Int→Int→Option (Int×Int×Int×Int)
 |0,_,_,_,_,_,_,_,_,_,_,_=>none
 |k+1,ζ,X,Y,J,Z,γ,δ,ε,B,L,O=>if ζ = true then (some (0,0,0,170)) else (if B=0 then (some (1,J,0,0)) else (some (B,L,O,0)))
def door_Ask.f (k:Nat) (B:Int) (J:Int) (L:Int) (Y:Int) (Z:Int) (ε :Int) (γ:Int) (O:Int) (X:Int) (δ :Int):Option (Int×Int×Int×Int):=(door_times.f k B J L Y Z ε γ).bind fun a2=>(if a2=true then ((door_Check.f O X δ).bind fun ν =>(door_Ask.j0 k (ν != 0) B J L Y Z ε γ O X δ)) else (door_Ask.j0 k true B J L Y Z ε γ O X δ))
theorem door_Ask.Zn:∀ k,(∀ L X Y B O Z y6 y7 y8 y9 γ,LeO (door_Ask.j0 k L X Y B O Z y6 y7 y8 y9 γ) (door_Ask.j0 (k+1) L X Y B O Z y6 y7 y8 y9 γ))
 |0=>fun _ _ _ _ _ _ _ _ _ _ _ r h=>by simp[door_Ask.j0] at h
 |k+1=>by
  have J:=door_Ask.Zn k
  ·intro L X Y B O Z y6 y7 y8 y9 γ
   unfold door_Ask.j0
   repeat' first
   |(with_reducible exact J _ _ _ _ _ _ _ _ _ _ _)
   |(with_reducible exact door_times.mono _ _ _ _ _ _ _ _)
   |(with_reducible exact LeO.refl _)
   |(with_reducible exact LeO.none _)
   |(with_reducible refine LeO.ite ?_ ?_)
   |(with_reducible refine LeO.bind ?_ (fun _=>?_))
   |exact J _ _ _ _ _ _ _ _ _ _ _
   |exact door_times.mono _ _ _ _ _ _ _ _
   |exact LeO.none _
   |refine LeO.ite ?_ ?_
   |refine LeO.bind ?_ (fun _=>?_)
theorem door_Ask.mono:∀ B O a2 a3 L a5 X a7 a8 a9 k,LeO (door_Ask.f k B O a2 a3 L a5 X a7 a8 a9) (door_Ask.f (k+1) B O a2 a3 L a5 X a7 a8 a9):=by
 intro B O a2 a3 L a5 X a7 a8 a9 k
 have J:=door_Ask.Zn k
 unfold door_Ask.f
 repeat' first
   |(with_reducible exact J _ _ _ _ _ _ _ _ _ _ _)
   |(with_reducible exact door_times.mono _ _ _ _ _ _ _ _)
   |(with_reducible exact LeO.refl _)
   |(with_reducible exact LeO.none _)
   |(with_reducible refine LeO.ite ?_ ?_)
   |(with_reducible refine LeO.bind ?_ (fun _=>?_))
   |exact J _ _ _ _ _ _ _ _ _ _ _
   |exact door_times.mono _ _ _ _ _ _ _ _
   |exact LeO.none _
   |refine LeO.ite ?_ ?_
   |refine LeO.bind ?_ (fun _=>?_)
set_option maxHeartbeats 8000000 in
set_option maxRecDepth 100000 in
theorem door_Ask.calls (k:Nat) (B:Int) (J:Int) (L:Int) (Y:Int) (Z:Int) (ε :Int) (γ:Int) (O:Int) (X:Int) (δ :Int) (r1:Int) (r2:Int) (r3:Int) (r4:Int) (w:World) (h:door_Ask.f k B J L Y Z ε γ O X δ = some (r1,r2,r3,r4)):
  Calls Try.prog 46 #[.agg #[.int .i64 B,.int .i64 J,.int .i64 L,.int .i64 Y,.int .i64 Z,.int .i64 ε,.int .i64 γ],.agg #[.int .i64 O,.int .i64 X,.int .i64 δ]] w fun e w'=>e = .returned (.tuple #[.agg #[.int .i64 r1,.int .i64 r2,.int .i64 r3],.int .i64 r4])∧Below w.heap.size w w':=by
 have k2:=Try.underlying23
 have i4:=Try.underlying27
 have HB:=Aside0.mk (Below.refl w.heap.size w)
 have H:((door_times.f k B J L Y Z ε γ).bind fun a2=>(if a2=true then ((door_Check.f O X δ).bind fun ν =>(door_Ask.j0 k (ν != 0) B J L Y Z ε γ O X δ)) else (door_Ask.j0 k true B J L Y Z ε γ O X δ)))=some (r1,r2,r3,r4):=h
 clear h
 have ξ :=Aside0.mk H
 clear H
 go_enter Try.func46,Try.ntmps46
 go_upto_region 1 with(first|((with_reducible refine Qe (N:=2) rfl ?_);refine qE 2 #[.int .i64 B,.int .i64 J,.int .i64 L,.int .i64 Y,.int .i64 Z,.int .i64 ε,.int .i64 γ] 23 ?_;intro a7 hg w4 hbox hb;have ζ :=Aside0.mk hbox;have ac:=sGe hg;have ah:=sGe hg;replace HB:=sHb hb;clear hb hbox hg)|((with_reducible refine Qe (N:=3) rfl ?_);refine qE 3 #[.int .i64 O,.int .i64 X,.int .i64 δ] 27 ?_;intro aa hg w5 hbox hb;have η :=Aside0.mk hbox;have ai:=sGe hg;have aj:=sGe hg;have ψ :=sNl ζ hg;have ω :=sNg ζ hg;replace ζ :=sBk ζ hb;replace HB:=sHb hb;clear hb hbox hg)|((with_reducible refine Qe (N:=4) rfl ?_);refine qE 4 #[.int .i64 0,.int .i64 0,.int .i64 0] 27 ?_;intro a1 hg w6 hbox hb;have θ :=Aside0.mk hbox;have ak:=sGe hg;have ao:=sGe hg;have κ :=sNl ζ hg;have μ :=sNg ζ hg;have a0:=sNl η hg;have ι :=sNg η hg;replace ζ :=sBk ζ hb;replace η :=sBk η hb;replace HB:=sHb hb;clear hb hbox hg))
 (try simp only[Act.put,qS])
 go_cut [13] (fun ab wc=>∃ (kq:Nat) (a6:Bool),ab = .bool a6∧Aside0 (door_Ask.j0 kq a6 B J L Y Z ε γ O X δ = some (r1,r2,r3,r4))∧Aside0 (kq≤k)∧Aside0 (wc.heap[a7]?=some (.cells #[.int .i64 B,.int .i64 J,.int .i64 L,.int .i64 Y,.int .i64 Z,.int .i64 ε,.int .i64 γ] 23 (0,0)))∧Aside0 (wc.heap[aa]?=some (.cells #[.int .i64 O,.int .i64 X,.int .i64 δ] 27 (0,0)))∧Aside0 (wc.heap[a1]?=some (.cells #[.int .i64 0,.int .i64 0,.int .i64 0] 27 (0,0)))∧Aside0 (Below w.heap.size w wc))
 case first=>
  have H:= ξ.out
  clear ξ
  replace H:=Option.bind_eq_some_iff.mp H
  obtain⟨a2,eg,H⟩:=H
  replace H:(if a2=true then ((door_Check.f O X δ).bind fun ν =>(door_Ask.j0 k (ν != 0) B J L Y Z ε γ O X δ)) else (door_Ask.j0 k true B J L Y Z ε γ O X δ))=some (r1,r2,r3,r4):=H
  have A7:=Aside0.mk eg
  clear eg
  by_cases c8:a2=true
  ·subst c8
   have H1:((door_Check.f O X δ).bind fun ν =>(door_Ask.j0 k (ν != 0) B J L Y Z ε γ O X δ))=some (r1,r2,r3,r4):=by rw[if_pos rfl] at H;exact H
   clear H
   have H:=H1
   clear H1
   replace H:=Option.bind_eq_some_iff.mp H
   obtain⟨ν,bg,H⟩:=H
   replace H:(door_Ask.j0 k (ν != 0) B J L Y Z ε γ O X δ)=some (r1,r2,r3,r4):=H
   have A9:=Aside0.mk bg
   clear bg
   have H':=Aside0.mk H
   clear H
   have h4:= ψ.out
   have h5:= ω.out
   have ga:= κ.out
   have gb:= μ.out
   obtain⟨τ,φ,ae,dh,f7,f8,fa,a5,a9,b8,fb,fc,fe,ff⟩:=qD7 ζ.out
   go_wp2_with (first|((with_reducible refine Qd (f:=70) rfl ?_);refine Qn (some 7) rfl rfl Try.func70 kr rfl #[.agg #[.int .i64 B,.int .i64 J,.int .i64 L,.int .i64 Y,.int .i64 Z,.int .i64 ε,.int .i64 γ]] rfl qM ?_;(with_reducible refine(door_times.calls k B J L Y Z ε γ true _ A7.out).mono ?_);rintro e i3 ⟨rfl,hb⟩;refine⟨_,rfl, ?_⟩;replace ζ :=sBk ζ hb;replace η :=sBk η hb;replace θ :=sBk θ hb;replace HB:=sHb hb;(try clear hb);(try clear a4);(try clear hk);(try clear hi);have h7:=a0.out;have h8:= ι.out;obtain⟨b1,b2,cd,b3,b4,ce⟩:=qD3 η.out)|(go_at_call 71;(with_reducible refine(door_Check.calls O X δ ν _ A9.out).mono ?_);rintro e dj ⟨rfl,hb⟩;have ρ:=Aside0.mk (Qt (g:=a7) (o:=.cells #[.int .i64 B,.int .i64 J,.int .i64 L,.int .i64 Y,.int .i64 Z,.int .i64 ε,.int .i64 γ] 23 (0,0)) ζ.out hb);have χ :=Aside0.mk (Qt (g:=aa) (o:=.cells #[.int .i64 O,.int .i64 X,.int .i64 δ] 27 (0,0)) η.out hb);have a3:=Aside0.mk (Qt (g:=a1) (o:=.cells #[.int .i64 0,.int .i64 0,.int .i64 0] 27 (0,0)) θ.out hb);have a8:=Aside0.mk (Qy HB.out hb);clear ζ;clear η;clear θ;clear HB;have ζ :=ρ;have η := χ;have θ :=a3;have HB:=a8;clear ρ χ a3 a8;(try clear hb);(try clear a4);(try clear hk);(try clear hi)))
   go_meet
   case rel=>exact⟨_,((ν != 0)),rfl,H',⟨by first|omega|exact Nat.le_refl _⟩,ζ,η,θ,HB⟩
  ·replace c8:=Bool.eq_false_iff.mpr c8
   subst c8
   have H1:(door_Ask.j0 k true B J L Y Z ε γ O X δ)=some (r1,r2,r3,r4):=by rw[if_neg (show ¬ (false=true) by decide)] at H;exact H
   clear H
   have H:=H1
   clear H1
   have H':=Aside0.mk H
   clear H
   have mt:= ψ.out
   have mu:= ω.out
   have fz:= κ.out
   have gq:= μ.out
   obtain⟨am,an,b5,cg,ch,ci,cj,ay,b0,b7,ck,cm,cn,co⟩:=qD7 ζ.out
   go_wp2_with (first|((with_reducible refine Qd (f:=70) rfl ?_);refine Qn (some 7) rfl rfl Try.func70 kr rfl #[.agg #[.int .i64 B,.int .i64 J,.int .i64 L,.int .i64 Y,.int .i64 Z,.int .i64 ε,.int .i64 γ]] rfl qM ?_;(with_reducible refine(door_times.calls k B J L Y Z ε γ false _ A7.out).mono ?_);rintro e fr ⟨rfl,hb⟩;refine⟨_,rfl, ?_⟩;replace ζ :=sBk ζ hb;replace η :=sBk η hb;replace θ :=sBk θ hb;replace HB:=sHb hb;(try clear hb);(try clear a4);(try clear hk);(try clear hi)))
   go_meet
   case rel=>exact⟨_,(true),rfl,H',⟨by first|omega|exact Nat.le_refl _⟩,ζ,η,θ,HB⟩
 case rest=>
  clear ξ
  try clear c1
  try clear p2
  try clear c4
  try clear c7
  try clear c8
  try clear c10
  try clear al
  try clear ag
  try clear af
  try clear bc
  try clear τ
  try clear φ
  try clear ae
  try clear dh
  try clear f7
  try clear f8
  try clear fa
  try clear b1
  try clear b2
  try clear cd
  try clear am
  try clear an
  try clear b5
  try clear cg
  try clear ch
  try clear ci
  try clear cj
  try clear a5
  try clear a9
  try clear b8
  try clear fb
  try clear fc
  try clear fe
  try clear ff
  try clear b3
  try clear b4
  try clear ce
  try clear ay
  try clear b0
  try clear b7
  try clear ck
  try clear cm
  try clear cn
  try clear co
  obtain⟨kq,a6,rfl,HA,b6,ζ,η,θ,HB⟩:=hcut
  cases kq with
  |zero=>exact absurd HA.out (by simp[door_Ask.j0])
  |succ d5=>
   have H:=HA.out
   clear HA
   simp only[door_Ask.j0] at H
   by_cases σ:a6=true
   ·subst σ
    have H1:(some (0,0,0,170))=some (r1,r2,r3,r4):=by rw[if_pos rfl] at H;exact H
    clear H
    have H:=H1
    clear H1
    simp only[Option.some.injEq,Prod.mk.injEq] at H
    obtain⟨rfl,rfl,rfl,rfl⟩:=H
    have g9:= μ.out
    have gt:= κ.out
    have di:= ι.out
    have e5:=a0.out
    obtain⟨b9,ba,bo,bb,bf,d8⟩:=qD3 θ.out
    go_wp2
    refine bodyPost_ret (Z5 rfl _ _ a1 27 #[.int .i64 0,.int .i64 0,.int .i64 0] (0,0) _ rfl (by refine Qm (cs:=#[.int .i64 0,.int .i64 0,.int .i64 0]) ?_ 2 _ rfl;refine Qm (cs:=#[.int .i64 0,.int .i64 0,.int .i64 0]) ?_ 1 _ rfl;refine Qm (cs:=#[.int .i64 0,.int .i64 0,.int .i64 0]) ?_ 0 _ rfl;exact θ.out) Try.underlying27 rfl kr) rfl ?_
    exact⟨by first|rfl|(simp[Qh,Qg] <;> rfl)|(simp[*,Qh,Qg] <;> rfl),bel⟩
   ·replace σ:=Bool.eq_false_iff.mpr σ
    subst σ
    have H1:(if O=0 then (some (1,L,0,0)) else (some (O,X,δ,0)))=some (r1,r2,r3,r4):=by rw[if_neg (show ¬ (false=true) by decide)] at H;exact H
    clear H
    have H:=H1
    clear H1
    by_cases bn:O=0
    ·rw[if_pos bn] at H
     have c25b0:(O==0)=true:=beq_iff_eq.mpr bn
     have c25b1:(O != 0)=false:=bne_eq_false_iff_eq.mpr bn
     clear bn
     simp only[Option.some.injEq,Prod.mk.injEq] at H
     obtain⟨rfl,rfl,rfl,rfl⟩:=H
     have ni:= ω.out
     have nj:= ψ.out
     have m8:=a0.out
     have m9:= ι.out
     obtain⟨eh,fi,fj,ei,fk,fl⟩:=qD3 η.out
     have jt:= κ.out
     have ju:= μ.out
     obtain⟨cf,dd,dz,ej,ek,el,em,de,df,e0,en,eo,ep,er⟩:=qD7 ζ.out
     obtain⟨ea,eb,ec,ed,ee,ef⟩:=qD3 θ.out
     go_wp2
     refine bodyPost_ret (Z5 rfl _ _ a1 27 #[.int .i64 1,.int .i64 L,.int .i64 0] (0,0) _ rfl (by refine Qm (cs:=#[.int .i64 1,.int .i64 L,.int .i64 0]) ?_ 2 _ rfl;refine Qm (cs:=#[.int .i64 1,.int .i64 0,.int .i64 0]) ?_ 1 _ rfl;refine Qm (cs:=#[.int .i64 0,.int .i64 0,.int .i64 0]) ?_ 0 _ rfl;refine X7 ?_ ι.out _;refine X7 ?_ ι.out _;refine X7 ?_ ι.out _;exact θ.out) Try.underlying27 rfl kr) rfl ?_
     exact⟨by first|rfl|(simp[Qh,Qg] <;> rfl)|(simp[*,Qh,Qg] <;> rfl),bel⟩
    ·rw[if_neg bn] at H
     have c25b0:(O==0)=false:=beq_eq_false_iff_ne.mpr bn
     have c25b1:(O != 0)=true:=bne_iff_ne.mpr bn
     simp only[Option.some.injEq,Prod.mk.injEq] at H
     obtain⟨rfl,rfl,rfl,rfl⟩:=H
     have dv:= ω.out
     have gf:= ψ.out
     have ij:=a0.out
     have ik:= ι.out
     obtain⟨et,fm,fn,eu,fo,fp⟩:=qD3 η.out
     have ma:= μ.out
     have mb:= κ.out
     obtain⟨g0,g1,g5,g2,g3,ha⟩:=qD3 θ.out
     go_wp2
     refine bodyPost_ret (Z5 rfl _ _ a1 27 #[.int .i64 O,.int .i64 X,.int .i64 δ] (0,0) _ rfl (by refine Qm (cs:=#[.int .i64 O,.int .i64 X,.int .i64 0]) ?_ 2 _ rfl;refine Qm (cs:=#[.int .i64 O,.int .i64 0,.int .i64 0]) ?_ 1 _ rfl;refine Qm (cs:=#[.int .i64 0,.int .i64 0,.int .i64 0]) ?_ 0 _ rfl;exact θ.out) Try.underlying27 rfl kr) rfl ?_
     exact⟨by first|rfl|(simp[Qh,Qg] <;> rfl)|(simp[*,Qh,Qg] <;> rfl),bel⟩
end Go.Proofs.Ytmfffemidlhcpaa.C
namespace Go.Proofs.Ytmfffemidlhcpaa.DoorPure
open Go.RowKit Go.Proofs.YtmfffemidlhcpaaW.PrintWords Go.Proofs.YtmfffemidlhcpaaW.PrintLast Go.Proofs.YtmfffemidlhcpaaW.PrintMore Go.Proofs.Ytmfffemidlhcpaa.C
abbrev tI (n:Int):Prop:=1≤n∧n≤60
abbrev Y2 (Z t1 O t3 t4 t5 B:Int):Prop:=(tI Z∧tI t1∧tI O∧tI t3∧tI t4∧tI t5)∧0≤B∧B≤60
abbrev Xp (g0 g1 g2 Y g4 g5 Z g7 X g9:Int):Prop:=Y2 g1 g2 Y g4 g5 Z g7∧(2≤g0∧g0≤64)∧(1≤X∧X≤300)∧0≤g9∧g9≤60
abbrev Xn (d0 d1 d2:Int):Prop:=(d0=0∧d1=0∧d2=0)∨((d0=1∨d0=3)∧1≤d1∧d1≤60∧0≤d2∧d2≤60)∨(d0=2∧1≤d1∧d1≤300∧0≤d2∧d2≤60)
theorem Xf (n a b:Int):door_within.f n a b=some (decide (a≤n∧n≤b)):=by
  unfold door_within.f
  by_cases h:a≤n
  · rw[if_pos h];simp[h]
  · rw[if_neg h];simp[h]
theorem rdn (l:List Int) (i:Nat) (h:i<l.length):rd l (i:Int)=l[i]:=by
  simp[rd,h]
theorem Uz (l:List Int) (hl:l.length≤1000) (Z t1 O t3 t4 t5 B:Int) (j:Nat):∀ (f i:Nat),i+j=l.length→j<f→door_times.l0 f l (l.length:Int) (i:Int) Z t1 O t3 t4 t5 B=some (decide ((∀ x ∈ l.drop i,tI x)∧0≤B∧B≤60)):=by
  induction j with
  |zero=>
    intro f i h hf
    obtain⟨f,rfl⟩:∃ m,f=m+1:=⟨f-1,by omega⟩
    simp only[door_times.l0]
    rw[if_neg (by omega),Xf,List.drop_of_length_le (by omega)]
    simp
  |succ j ih=>
    intro f i h hf
    obtain⟨f,rfl⟩:∃ m,f=m+1:=⟨f-1,by omega⟩
    have hlt:i<l.length:=by omega
    have ei:wrap64 ((i:Int)+1)=((i+1:Nat):Int):=by unfold wrap64;omega
    simp only[door_times.l0]
    rw[if_pos (by omega),if_pos (by omega),if_pos (by omega),rdn l i hlt,Xf,ei,ih f (i+1) (by omega) (by omega),List.drop_eq_getElem_cons hlt]
    simp only[Option.bind_some]
    by_cases hc:1≤l[i]∧l[i]≤60
    · rw[decide_eq_true hc,if_pos rfl]
      congr 1
      rw[decide_eq_decide]
      constructor
      · rintro⟨h1,L⟩
        refine⟨fun x hx=>?_,L⟩
        rcases List.mem_cons.1 hx with rfl|hx
        · exact hc
        · exact h1 x hx
      · rintro⟨h1,L⟩
        exact⟨fun x hx=>h1 x (List.mem_cons_of_mem _ hx),L⟩
    · have:¬ ((∀ x ∈ l[i] :: l.drop (i+1),tI x)∧0≤B∧B≤60):=fun h=>hc (h.1 _ List.mem_cons_self)
      rw[decide_eq_false hc,if_neg (by decide),decide_eq_false this]
theorem V5 (Z t1 O t3 t4 t5 B:Int) (f:Nat) (hf:10<f):door_times.f f Z t1 O t3 t4 t5 B=some (decide (Y2 Z t1 O t3 t4 t5 B)):=by
  unfold door_times.f
  simp only[Option.bind_some]
  have:=Uz [Z,t1,O,t3,t4,t5] (by simp) Z t1 O t3 t4 t5 B 6 f 0 rfl (by omega)
  rw[show((0:Nat):Int)=0 from rfl] at this
  rw[this]
  congr 1
  rw[decide_eq_decide]
  simp only[List.drop_zero,List.mem_cons,List.not_mem_nil,or_false,forall_eq_or_imp,forall_eq]
theorem N7 (g0 g1 g2 Y g4 g5 Z g7 X g9:Int) (f:Nat) (hf:10<f):door_gear.f f g0 g1 g2 Y g4 g5 Z g7 X g9=some (decide (Xp g0 g1 g2 Y g4 g5 Z g7 X g9)):=by
  unfold door_gear.f
  rw[V5 _ _ _ _ _ _ _ f hf,Xf,Xf,Xf]
  simp only[Option.bind_some]
  by_cases h1:Y2 g1 g2 Y g4 g5 Z g7
  · rw[decide_eq_true h1,if_pos rfl]
    by_cases L:2≤g0∧g0≤64
    · rw[decide_eq_true L,if_pos rfl]
      by_cases h3:1≤X∧X≤300
      · rw[decide_eq_true h3,if_pos rfl]
        congr 1
        rw[decide_eq_decide]
        exact⟨fun h=>⟨h1,L,h3,h⟩,fun h=>h.2.2.2⟩
      · rw[decide_eq_false h3,if_neg (by decide),decide_eq_false (fun h=>h3 h.2.2.1)]
    · rw[decide_eq_false L,if_neg (by decide),decide_eq_false (fun h=>L h.2.1)]
  · rw[decide_eq_false h1,if_neg (by decide),decide_eq_false (fun h=>h1 h.1)]
theorem on_eq (d0 d1 d2 a b:Int):door_on.f d0 d1 d2 a b=some (if wrap64 (d1-1)=0 then (a,b,d2) else (d0,wrap64 (d1-1),d2)):=by
  unfold door_on.f
  split <;> rfl
theorem Ym (d0 d1 d2:Int):door_Check.f d0 d1 d2=some (if Xn d0 d1 d2 then 0 else 170):=by
  unfold door_Check.f
  rw[Xf,Xf,Xf,on_eq]
  simp only[Option.bind_some]
  by_cases h:0≤d0∧d0≤3
  · rw[decide_eq_true h,if_pos rfl]
    have hm:(mn (Zv d0) 1≤d1∧d1≤Zv d0)∧(0≤d2∧d2≤mn (Zv d0) 60)↔Xn d0 d1 d2:=by
      have e:d0=0∨d0=1∨d0=2∨d0=3:=by omega
      rcases e with rfl|rfl|rfl|rfl <;> simp[Zv,mn] <;> omega
    by_cases h1:mn (Zv d0) 1≤d1∧d1≤Zv d0
    · rw[decide_eq_true h1,if_pos rfl]
      by_cases L:0≤d2∧d2≤mn (Zv d0) 60
      · rw[decide_eq_true L,if_pos rfl,if_pos (hm.1 ⟨h1,L⟩)]
      · rw[decide_eq_false L,if_neg (by decide),if_neg (fun h=>L (hm.2 h).2)]
    · rw[decide_eq_false h1,if_neg (by decide),if_neg (fun h=>h1 (hm.2 h).1)]
  · rw[decide_eq_false h,if_neg (by decide),if_neg (by omega)]
def Ji (Y Z X g9 d0 d1 d2:Int):Int:=
  if d0=0 then 0 else d1+(if d0=1 then X+Z else if d0=2 then Z else 0)+(if d2<g9 then (g9-d2) * (Y+X+Z) else 0)
theorem Nl {a b:Int} (ha:0≤a∧a≤60) (hb:0≤b∧b≤420):0≤a * b∧a * b≤25200:=by
  refine⟨Int.mul_nonneg ha.1 hb.1, ?_⟩
  have h1:a * b≤60 * b:=Int.mul_le_mul_of_nonneg_right ha.2 hb.1
  omega
theorem w64 {n:Int} (h: -1000000000000≤n∧n≤1000000000000):wrap64 n=n:=by unfold wrap64;omega
theorem Gb (g0 g1 g2 Y g4 g5 Z g7 X g9 d0 d1 d2:Int) (hg:Xp g0 g1 g2 Y g4 g5 Z g7 X g9) (hd:Xn d0 d1 d2):
    wrap64 ((mx (wrap64 (g9-d2)) 0) * (wrap64 ((wrap64 (Y+X))+Z)))=(if d2<g9 then (g9-d2) * (Y+X+Z) else 0)∧0≤(if d2<g9 then (g9-d2) * (Y+X+Z) else 0)∧(if d2<g9 then (g9-d2) * (Y+X+Z) else 0)≤25200:=by
  have O:1≤Y∧Y≤60:=hg.1.1.2.2.1
  have a2:1≤Z∧Z≤60:=hg.1.1.2.2.2.2.2
  have a3:1≤X∧X≤300:=hg.2.2.1
  have L:0≤g9∧g9≤60:=hg.2.2.2
  have a5:0≤d2∧d2≤60:=by omega
  rw[w64 (n:=g9-d2) (by omega),w64 (n:=Y+X) (by omega),w64 (n:=Y+X+Z) (by omega)]
  by_cases h:d2<g9
  · have hp:=Nl (a:=g9-d2) (b:=Y+X+Z) (by omega) (by omega)
    rw[if_pos h]
    have e:mx (g9-d2) 0=g9-d2:=by unfold mx;rw[if_neg (by omega)]
    rw[e]
    exact⟨w64 (by omega),hp⟩
  · rw[if_neg h]
    have e:mx (g9-d2) 0=0:=by unfold mx;split <;> omega
    rw[e,Int.zero_mul]
    exact⟨w64 (by omega),by omega,by omega⟩
theorem Wl (g0 g1 g2 Y g4 g5 Z g7 X g9 d0 d1 d2:Int) (f:Nat) (hf:10<f):
    door_Rest.f f g0 g1 g2 Y g4 g5 Z g7 X g9 d0 d1 d2=some (if Xp g0 g1 g2 Y g4 g5 Z g7 X g9∧Xn d0 d1 d2 then (Ji Y Z X g9 d0 d1 d2,0) else (0,170)):=by
  unfold door_Rest.f
  rw[N7 _ _ _ _ _ _ _ _ _ _ f hf,Ym]
  simp only[Option.bind_some]
  obtain⟨f,rfl⟩:∃ m,f=m+1:=⟨f-1,by omega⟩
  by_cases h1:Xp g0 g1 g2 Y g4 g5 Z g7 X g9
  · rw[decide_eq_true h1,if_pos rfl]
    by_cases L:Xn d0 d1 d2
    · rw[if_pos L,if_pos (show Xp g0 g1 g2 Y g4 g5 Z g7 X g9∧Xn d0 d1 d2 from⟨h1,L⟩)]
      obtain⟨m1,B,J⟩:=Gb _ _ _ _ _ _ _ _ _ _ _ _ _ h1 L
      have a2:1≤Z∧Z≤60:=h1.1.1.2.2.2.2.2
      have a3:1≤X∧X≤300:=h1.2.2.1
      simp only[door_Rest.j0]
      rw[m1]
      unfold Ji
      generalize(if d2<g9 then (g9-d2) * (Y+X+Z) else 0)=p at B J ⊢
      rw[if_neg (by decide)]
      have hb:0≤d1∧d1≤300:=by omega
      by_cases e0:d0=0
      · rw[if_pos e0,if_pos e0]
      · rw[if_neg e0,if_neg e0]
        by_cases e1:d0=1
        · rw[if_pos e1,if_pos e1,w64 (n:=X+Z) (by omega),w64 (n:=d1+(X+Z)) (by omega),w64 (by omega)]
        · rw[if_neg e1,if_neg e1]
          by_cases e2:d0=2
          · rw[if_pos e2,if_pos e2,w64 (n:=d1+Z) (by omega),w64 (by omega)]
          · rw[if_neg e2,if_neg e2,w64 (by omega),Int.add_zero]
    · rw[if_neg L,if_neg (fun h=>L h.2)]
      simp only[door_Rest.j0]
      rw[if_pos (by decide)]
  · rw[decide_eq_false h1,if_neg (by decide),if_neg (fun h=>h1 h.1)]
    simp only[door_Rest.j0]
    rw[if_pos trivial]
theorem E2 (Z t1 O t3 t4 t5 B d0 d1 d2:Int) (f:Nat) (hf:10<f):
    door_Ask.f f Z t1 O t3 t4 t5 B d0 d1 d2=some (if Y2 Z t1 O t3 t4 t5 B∧Xn d0 d1 d2 then (if d0=0 then (1,O,0,0) else (d0,d1,d2,0)) else (0,0,0,170)):=by
  unfold door_Ask.f
  rw[V5 _ _ _ _ _ _ _ f hf,Ym]
  simp only[Option.bind_some]
  obtain⟨f,rfl⟩:∃ m,f=m+1:=⟨f-1,by omega⟩
  by_cases h1:Y2 Z t1 O t3 t4 t5 B
  · rw[decide_eq_true h1,if_pos rfl]
    by_cases L:Xn d0 d1 d2
    · rw[if_pos L,if_pos (show Y2 Z t1 O t3 t4 t5 B∧Xn d0 d1 d2 from⟨h1,L⟩)]
      simp only[door_Ask.j0]
      rw[if_neg (by decide)]
      split <;> rfl
    · rw[if_neg L,if_neg (fun h=>L h.2)]
      simp only[door_Ask.j0]
      rw[if_pos (by decide)]
  · rw[decide_eq_false h1,if_neg (by decide),if_neg (fun h=>h1 h.1)]
    simp only[door_Ask.j0]
    rw[if_pos trivial]
theorem Mb (n:Int):newelref17_tick.f n=some (decide (tI n)):=by
  unfold newelref17_tick.f
  by_cases h:n≥1
  · rw[if_pos h];congr 1;rw[decide_eq_decide];omega
  · rw[if_neg h,decide_eq_false (by omega)]
theorem W6 (Z t1 O t3 t4 t5 B:Int):newelref17_Times.f Z t1 O t3 t4 t5 B=some (decide (Y2 Z t1 O t3 t4 t5 B)):=by
  unfold newelref17_Times.f
  simp only[Mb,Option.bind_some]
  by_cases X:tI Z <;> by_cases h1:tI t1 <;> by_cases L:tI O <;> by_cases h3:tI t3 <;> by_cases Y:tI t4 <;> by_cases J:tI t5 <;> by_cases h6:B≥0 <;> simp[X,h1,L,h3,Y,J,h6] <;> omega
theorem Md (g0 g1 g2 Y g4 g5 Z g7 X g9:Int):newelref17_Gear.f g0 g1 g2 Y g4 g5 Z g7 X g9=some (decide (Xp g0 g1 g2 Y g4 g5 Z g7 X g9)):=by
  unfold newelref17_Gear.f
  rw[W6]
  simp only[Option.bind_some]
  by_cases h1:Y2 g1 g2 Y g4 g5 Z g7
  · rw[decide_eq_true h1,if_pos rfl]
    have e:Xp g0 g1 g2 Y g4 g5 Z g7 X g9↔((2≤g0∧g0≤64)∧(1≤X∧X≤300)∧0≤g9∧g9≤60):=⟨fun h=>h.2,fun h=>⟨h1,h⟩⟩
    rw[show decide (Xp g0 g1 g2 Y g4 g5 Z g7 X g9)=decide ((2≤g0∧g0≤64)∧(1≤X∧X≤300)∧0≤g9∧g9≤60) from decide_eq_decide.2 e]
    clear e h1
    repeat' split
    all_goals congr 1
    all_goals first|(rw[decide_eq_decide];omega)|(symm;rw[decide_eq_false_iff_not];omega)
  · rw[decide_eq_false h1,if_neg (by decide),decide_eq_false (fun h=>h1 h.1)]
theorem Ex (d0 d1 d2:Int) (f:Nat) (hf:2<f):newelref17_May.f f d0 d1 d2=some (decide (Xn d0 d1 d2)):=by
  obtain⟨f,rfl⟩:∃ m,f=m+1:=⟨f-1,by omega⟩
  unfold newelref17_May.f
  simp only[newelref17_May.j0]
  by_cases e0:d0=0
  · rw[if_pos e0]
    by_cases e1:d1=0
    · rw[if_pos e1];congr 1
      by_cases e2:d2=0
      · rw[decide_eq_true (by omega)];simp[e2]
      · rw[decide_eq_false (by omega)];simp[e2]
    · rw[if_neg e1,decide_eq_false (by omega)]
  · rw[if_neg e0]
    by_cases h1:d2<0
    · rw[if_pos h1,if_pos trivial,decide_eq_false (by omega)]
    · rw[if_neg h1]
      by_cases L:d2>60
      · rw[if_pos L,if_pos trivial,decide_eq_false (by omega)]
      · rw[if_neg L]
        by_cases h3:d1<1
        · rw[decide_eq_true h3,if_pos rfl,decide_eq_false (by omega)]
        · rw[decide_eq_false h3,if_neg (by decide)]
          by_cases e2:d0=2
          · rw[if_pos e2];congr 1;rw[decide_eq_decide];omega
          · rw[if_neg e2]
            by_cases e1:d0=1
            · rw[if_pos e1];congr 1;rw[decide_eq_decide];omega
            · rw[if_neg e1]
              by_cases Z:d0=3
              · rw[if_pos Z];congr 1;rw[decide_eq_decide];omega
              · rw[if_neg Z,decide_eq_false (by omega)]
theorem Ua (g0 g1 g2 Y g4 g5 Z g7 X g9 d0 d1 d2:Int) (hg:Xp g0 g1 g2 Y g4 g5 Z g7 X g9) (hd:Xn d0 d1 d2) (f:Nat) (hf:4<f):
    newelref17_Rest.f f g0 g1 g2 Y g4 g5 Z g7 X g9 d0 d1 d2=some (Ji Y Z X g9 d0 d1 d2):=by
  obtain⟨f,rfl⟩:∃ m,f=m+2:=⟨f-2,by omega⟩
  obtain⟨-,B,J⟩:=Gb _ _ _ _ _ _ _ _ _ _ _ _ _ hg hd
  have O:1≤Y∧Y≤60:=hg.1.1.2.2.1
  have a2:1≤Z∧Z≤60:=hg.1.1.2.2.2.2.2
  have a3:1≤X∧X≤300:=hg.2.2.1
  have L:0≤g9∧g9≤60:=hg.2.2.2
  have a5:0≤d2∧d2≤60:=by omega
  have hb:0≤d1∧d1≤300:=by omega
  unfold newelref17_Rest.f Ji
  simp only[newelref17_Rest.j0]
  rw[w64 (n:=Y+X) (by omega),w64 (n:=Y+X+Z) (by omega),w64 (n:=g9-d2) (by omega),w64 (n:=d1+X) (by omega),w64 (n:=d1+X+Z) (by omega),w64 (n:=d1+Z) (by omega)]
  by_cases h:d2<g9
  · have h':g9>d2:=h
    simp only[if_pos h',if_pos h] at B J ⊢
    generalize(g9-d2) * (Y+X+Z)=p at B J ⊢
    rw[w64 (n:=p) (by omega),w64 (n:=d1+X+Z+Z) (by omega),w64 (n:=d1+X+Z+p) (by omega),w64 (n:=d1+Z+p) (by omega),w64 (n:=d1+p) (by omega)]
    by_cases e0:d0=0
    · simp[e0]
    · by_cases e1:d0=1
      · simp[e1];omega
      · by_cases e2:d0=2
        · simp[e2]
        · simp[e0,e1,e2]
  · have h':¬ g9>d2:=h
    simp only[if_neg h',if_neg h] at B J ⊢
    rw[w64 (n:=d1+X+Z+Z) (by omega)]
    by_cases e0:d0=0
    · simp[e0]
    · by_cases e1:d0=1
      · simp[e1];omega
      · by_cases e2:d0=2
        · simp[e2]
        · simp[e0,e1,e2]
end Go.Proofs.Ytmfffemidlhcpaa.DoorPure
namespace Go.Proofs.Ytmfffemidlhcpaa.C
open Go.RowKit Go.Proofs.YtmfffemidlhcpaaW.PrintWords Go.Proofs.YtmfffemidlhcpaaW.PrintLast Go.Proofs.YtmfffemidlhcpaaW.PrintMore
attribute [local go_sem] Zz Zx Z9 Z8 Zq Zp Zy Zw
set_option linter.unusedVariables false
set_option linter.unusedSimpArgs false
def car_Check.j0:Nat→Int→Bool→Int→Int→Int→Int→Int→Int→Int→Option (Int)
 |0,_,_,_,_,_,_,_,_,_=>none
 |k+1,B,L,Z,J,Y,O,X,δ,ζ =>if Y=0 then (if L=true then (if J=0 then (if O=0 then (if X=0 then (some 0) else (some 180)) else (some 180)) else (some 180)) else (some 180)) else (if Y=1 then (if L=true then (if J=1 then ((car_within.f (wrap64 (Z+J)) 0 (wrap64 (B-1))).bind fun θ =>(if θ = true then ((car_within.f O 1 60).bind fun γ=>(if γ=true then (if X=0 then (some 0) else (some 180)) else (some 180))) else (some 180))) else (if J=(-1) then ((car_within.f (wrap64 (Z+J)) 0 (wrap64 (B-1))).bind fun ω =>(if ω = true then ((car_within.f O 1 60).bind fun ε =>(if ε = true then (if X=0 then (some 0) else (some 180)) else (some 180))) else (some 180))) else (some 180))) else (some 180)) else (if Y=2 then (if L=true then (if J=0 then ((car_within.f O 1 60).bind fun a3=>(if a3=true then (if X=0 then (some 0) else (some 180)) else (some 180))) else (some 180)) else (some 180)) else (if Y=3 then (if L=true then (if J=0 then (if O=0 then (if X=0 then (some 180) else (some 0)) else (some 180)) else (some 180)) else (some 180)) else (some 180))))
def car_Check.f (k:Nat) (B:Int) (O:Int) (X:Int) (δ :Int) (κ :Int) (ι :Int) (μ :Int) (ν :Int):Option (Int):=(car_within.f B 2 64).bind fun aa=>(if aa=true then ((car_within.f O 0 (wrap64 (B-1))).bind fun ζ =>(if ζ = true then ((door_Check.f ι μ ν).bind fun L=>(car_Check.j0 k B (L==0) O X δ κ ι μ ν)) else (car_Check.j0 k B false O X δ κ ι μ ν))) else (car_Check.j0 k B false O X δ κ ι μ ν))
theorem car_Check.Zn:∀ k,(∀ L X Y B O Z y6 y7 y8,LeO (car_Check.j0 k L X Y B O Z y6 y7 y8) (car_Check.j0 (k+1) L X Y B O Z y6 y7 y8))
 |0=>fun _ _ _ _ _ _ _ _ _ r h=>by simp[car_Check.j0] at h
 |k+1=>by
  have J:=car_Check.Zn k
  ·intro L X Y B O Z y6 y7 y8
   unfold car_Check.j0
   repeat' first
   |(with_reducible exact J _ _ _ _ _ _ _ _ _)
   |(with_reducible exact LeO.refl _)
   |(with_reducible exact LeO.none _)
   |(with_reducible refine LeO.ite ?_ ?_)
   |(with_reducible refine LeO.bind ?_ (fun _=>?_))
   |exact J _ _ _ _ _ _ _ _ _
   |exact LeO.none _
   |refine LeO.ite ?_ ?_
   |refine LeO.bind ?_ (fun _=>?_)
theorem car_Check.mono:∀ B O a2 a3 L a5 X a7 k,LeO (car_Check.f k B O a2 a3 L a5 X a7) (car_Check.f (k+1) B O a2 a3 L a5 X a7):=by
 intro B O a2 a3 L a5 X a7 k
 have J:=car_Check.Zn k
 unfold car_Check.f
 repeat' first
   |(with_reducible exact J _ _ _ _ _ _ _ _ _)
   |(with_reducible exact LeO.refl _)
   |(with_reducible exact LeO.none _)
   |(with_reducible refine LeO.ite ?_ ?_)
   |(with_reducible refine LeO.bind ?_ (fun _=>?_))
   |exact J _ _ _ _ _ _ _ _ _
   |exact LeO.none _
   |refine LeO.ite ?_ ?_
   |refine LeO.bind ?_ (fun _=>?_)
set_option maxHeartbeats 8000000 in
set_option maxRecDepth 100000 in
theorem car_Check.calls (k:Nat) (B:Int) (O:Int) (X:Int) (δ :Int) (κ :Int) (ι :Int) (μ :Int) (ν :Int) (r:Int) (w:World) (h:car_Check.f k B O X δ κ ι μ ν = some r):
  Calls Try.prog 69 #[.int .i64 B,.agg #[.int .i64 O,.int .i64 X,.int .i64 δ,.int .i64 κ,.int .i64 ι,.int .i64 μ,.int .i64 ν]] w fun e w'=>e = .returned (.int .i64 r)∧Below w.heap.size w w':=by
 have iw:=Try.underlying29
 have i4:=Try.underlying27
 have HB:=Aside0.mk (Below.refl w.heap.size w)
 have H:((car_within.f B 2 64).bind fun aa=>(if aa=true then ((car_within.f O 0 (wrap64 (B-1))).bind fun ζ =>(if ζ = true then ((door_Check.f ι μ ν).bind fun L=>(car_Check.j0 k B (L==0) O X δ κ ι μ ν)) else (car_Check.j0 k B false O X δ κ ι μ ν))) else (car_Check.j0 k B false O X δ κ ι μ ν)))=some r:=h
 clear h
 have ξ :=Aside0.mk H
 clear H
 go_enter Try.func69,Try.ntmps69
 go_upto_region 1 with(first|((with_reducible refine Qe (N:=3) rfl ?_);refine qE 3 #[.int .i64 O,.int .i64 X,.int .i64 δ,.int .i64 κ,.int .i64 ι,.int .i64 μ,.int .i64 ν] 29 ?_;intro b2 hg w4 hbox hb;have J:=Aside0.mk hbox;have o0:=sGe hg;have o1:=sGe hg;replace HB:=sHb hb;clear hb hbox hg))
 (try simp only[Act.put,qS])
 go_cut [5] (fun v5 wc=>∃ (kq:Nat) (η :Bool),v5 = .bool η ∧ Aside0 (car_Check.j0 kq B η O X δ κ ι μ ν = some r)∧Aside0 (kq≤k)∧Aside0 (wc.heap[b2]?=some (.cells #[.int .i64 O,.int .i64 X,.int .i64 δ,.int .i64 κ,.int .i64 ι,.int .i64 μ,.int .i64 ν] 29 (0,0)))∧Aside0 (Below w.heap.size w wc))
 case first=>
  have H:= ξ.out
  clear ξ
  replace H:=Option.bind_eq_some_iff.mp H
  obtain⟨aa,b3,H⟩:=H
  replace H:(if aa=true then ((car_within.f O 0 (wrap64 (B-1))).bind fun ζ =>(if ζ = true then ((door_Check.f ι μ ν).bind fun L=>(car_Check.j0 k B (L==0) O X δ κ ι μ ν)) else (car_Check.j0 k B false O X δ κ ι μ ν))) else (car_Check.j0 k B false O X δ κ ι μ ν))=some r:=H
  have A5:=Aside0.mk b3
  clear b3
  by_cases c6:aa=true
  ·subst c6
   have H1:((car_within.f O 0 (wrap64 (B-1))).bind fun ζ =>(if ζ = true then ((door_Check.f ι μ ν).bind fun L=>(car_Check.j0 k B (L==0) O X δ κ ι μ ν)) else (car_Check.j0 k B false O X δ κ ι μ ν)))=some r:=by rw[if_pos rfl] at H;exact H
   clear H
   have H:=H1
   clear H1
   replace H:=Option.bind_eq_some_iff.mp H
   obtain⟨ζ,eg,H⟩:=H
   replace H:(if ζ = true then ((door_Check.f ι μ ν).bind fun L=>(car_Check.j0 k B (L==0) O X δ κ ι μ ν)) else (car_Check.j0 k B false O X δ κ ι μ ν))=some r:=H
   have A7:=Aside0.mk eg
   clear eg
   by_cases c8: ζ = true
   ·subst c8
    have H1:((door_Check.f ι μ ν).bind fun L=>(car_Check.j0 k B (L==0) O X δ κ ι μ ν))=some r:=by rw[if_pos rfl] at H;exact H
    clear H
    have H:=H1
    clear H1
    replace H:=Option.bind_eq_some_iff.mp H
    obtain⟨L,bg,H⟩:=H
    replace H:(car_Check.j0 k B (L==0) O X δ κ ι μ ν)=some r:=H
    have A9:=Aside0.mk bg
    clear bg
    have H':=Aside0.mk H
    clear H
    go_wp2_with (first|((with_reducible refine Qd (f:=85) rfl ?_);refine Qn (some 8) rfl rfl Try.func85 kr rfl #[.int .i64 B,.int .i64 2,.int .i64 64] rfl qM ?_;(with_reducible refine(car_within.calls B 2 64 true _ A5.out).mono ?_);rintro e w' ⟨rfl,⟨nd,rfl⟩⟩;refine⟨_,rfl, ?_⟩;obtain⟨ab,ai,aj,ah,ak,al,ao,aw,ax,bd,ap,be,bk,bl⟩:=qD7 J.out)|(go_at_call 85;(with_reducible refine(car_within.calls O 0 (wrap64 (B-1)) true _ A7.out).mono ?_);rintro e w' ⟨rfl,⟨nd,rfl⟩⟩)|(go_at_call 71;(with_reducible refine(door_Check.calls ι μ ν L _ A9.out).mono ?_);rintro e ez ⟨rfl,hb⟩;have ρ:=Aside0.mk (Qt (g:=b2) (o:=.cells #[.int .i64 O,.int .i64 X,.int .i64 δ,.int .i64 κ,.int .i64 ι,.int .i64 μ,.int .i64 ν] 29 (0,0)) (bka J) hb);have χ :=Aside0.mk (Qy bel hb);clear J;clear HB;have J:=ρ;have HB:= χ;clear ρ χ;(try clear hb);(try clear a4);(try clear hk);(try clear hi)))
    go_meet
    case rel=>exact⟨_,((L==0)),rfl,H',⟨by first|omega|exact Nat.le_refl _⟩,J,HB⟩
   ·replace c8:=Bool.eq_false_iff.mpr c8
    subst c8
    have H1:(car_Check.j0 k B false O X δ κ ι μ ν)=some r:=by rw[if_neg (show ¬ (false=true) by decide)] at H;exact H
    clear H
    have H:=H1
    clear H1
    have H':=Aside0.mk H
    clear H
    go_wp2_with (first|((with_reducible refine Qd (f:=85) rfl ?_);refine Qn (some 8) rfl rfl Try.func85 kr rfl #[.int .i64 B,.int .i64 2,.int .i64 64] rfl qM ?_;(with_reducible refine(car_within.calls B 2 64 true _ A5.out).mono ?_);rintro e w' ⟨rfl,⟨nd,rfl⟩⟩;refine⟨_,rfl, ?_⟩;obtain⟨τ,φ,ae,dh,f7,f8,fa,a5,a9,b8,fb,fc,fe,ff⟩:=qD7 J.out)|(go_at_call 85;(with_reducible refine(car_within.calls O 0 (wrap64 (B-1)) false _ A7.out).mono ?_);rintro e w' ⟨rfl,⟨nd,rfl⟩⟩))
    go_meet
    case rel=>exact⟨_,(false),qR,H',⟨by first|omega|exact Nat.le_refl _⟩,⟨bka J⟩,⟨bel⟩⟩
  ·replace c6:=Bool.eq_false_iff.mpr c6
   subst c6
   have H1:(car_Check.j0 k B false O X δ κ ι μ ν)=some r:=by rw[if_neg (show ¬ (false=true) by decide)] at H;exact H
   clear H
   have H:=H1
   clear H1
   have H':=Aside0.mk H
   clear H
   go_wp2_with (first|((with_reducible refine Qd (f:=85) rfl ?_);refine Qn (some 8) rfl rfl Try.func85 kr rfl #[.int .i64 B,.int .i64 2,.int .i64 64] rfl qM ?_;(with_reducible refine(car_within.calls B 2 64 false _ A5.out).mono ?_);rintro e w' ⟨rfl,⟨nd,rfl⟩⟩;refine⟨_,rfl, ?_⟩))
   go_meet
   case rel=>exact⟨_,(false),qR,H',⟨by first|omega|exact Nat.le_refl _⟩,⟨bka J⟩,⟨bel⟩⟩
 case rest=>
  clear ξ
  try clear p2
  try clear c6
  try clear p6
  try clear c8
  try clear ab
  try clear ai
  try clear aj
  try clear ah
  try clear ak
  try clear al
  try clear ao
  try clear τ
  try clear φ
  try clear ae
  try clear dh
  try clear f7
  try clear f8
  try clear fa
  try clear aw
  try clear ax
  try clear bd
  try clear ap
  try clear be
  try clear bk
  try clear bl
  try clear a5
  try clear a9
  try clear b8
  try clear fb
  try clear fc
  try clear fe
  try clear ff
  obtain⟨kq,η,rfl,HA,b6,J,HB⟩:=hcut
  cases kq with
  |zero=>exact absurd HA.out (by simp[car_Check.j0])
  |succ d5=>
   have H:=HA.out
   clear HA
   simp only[car_Check.j0] at H
   by_cases a2: δ = 0
   ·rw[if_pos a2] at H
    have c13b0:(δ == 0)=true:=beq_iff_eq.mpr a2
    have c13b1:(δ != 0)=false:=bne_eq_false_iff_eq.mpr a2
    clear a2
    by_cases ag: η = true
    ·subst ag
     have H1:(if X=0 then (if κ = 0 then (if ι = 0 then (some 0) else (some 180)) else (some 180)) else (some 180))=some r:=by rw[if_pos rfl] at H;exact H
     clear H
     have H:=H1
     clear H1
     by_cases ac:X=0
     ·rw[if_pos ac] at H
      have c15b0:(X==0)=true:=beq_iff_eq.mpr ac
      have c15b1:(X != 0)=false:=bne_eq_false_iff_eq.mpr ac
      clear ac
      by_cases a6: κ = 0
      ·rw[if_pos a6] at H
       have c16b0:(κ == 0)=true:=beq_iff_eq.mpr a6
       have c16b1:(κ != 0)=false:=bne_eq_false_iff_eq.mpr a6
       clear a6
       by_cases af: ι = 0
       ·rw[if_pos af] at H
        have c17b0:(ι == 0)=true:=beq_iff_eq.mpr af
        have c17b1:(ι != 0)=false:=bne_eq_false_iff_eq.mpr af
        clear af
        obtain rfl:=Option.some.inj H
        obtain⟨br,bs,dj,e5,fr,fw,σ,bu,bv,dk,fx,fy,fz,ψ⟩:=qD7 J.out
        go_wp2
        go_ret
        exact⟨by first|rfl|(simp[Qh,Qg] <;> rfl)|(simp[*,Qh,Qg] <;> rfl),bel⟩
       ·rw[if_neg af] at H
        have c17b0:(ι == 0)=false:=beq_eq_false_iff_ne.mpr af
        have c17b1:(ι != 0)=true:=bne_iff_ne.mpr af
        obtain rfl:=Option.some.inj H
        obtain⟨am,an,b5,cg,ch,ci,cj,ay,b0,b7,ck,cm,cn,co⟩:=qD7 J.out
        go_wp2
        go_ret
        exact⟨by first|rfl|(simp[Qh,Qg] <;> rfl)|(simp[*,Qh,Qg] <;> rfl),bel⟩
      ·rw[if_neg a6] at H
       have c16b0:(κ == 0)=false:=beq_eq_false_iff_ne.mpr a6
       have c16b1:(κ != 0)=true:=bne_iff_ne.mpr a6
       obtain rfl:=Option.some.inj H
       obtain⟨a7,ar,a1,dl,dm,dn,dp,au,av,a8,dq,dr,dt,du⟩:=qD7 J.out
       go_wp2
       go_ret
       exact⟨rfl,HB.out⟩
     ·rw[if_neg ac] at H
      have c15b0:(X==0)=false:=beq_eq_false_iff_ne.mpr ac
      have c15b1:(X != 0)=true:=bne_iff_ne.mpr ac
      obtain rfl:=Option.some.inj H
      obtain⟨cq,cr,d0,d3,d4,e0,e3,e4,ek,el,em,en,g0,g1⟩:=qD7 J.out
      go_wp2
      go_ret
      exact⟨rfl,HB.out⟩
    ·replace ag:=Bool.eq_false_iff.mpr ag
     subst ag
     have H1:(some 180)=some r:=by rw[if_neg (show ¬ (false=true) by decide)] at H;exact H
     clear H
     have H:=H1
     clear H1
     obtain rfl:=Option.some.inj H
     obtain⟨ct,cu,dv,gr,gs,gt,gu,cv,cw,dw,gv,gw,gx,gy⟩:=qD7 J.out
     go_wp2
     go_ret
     exact⟨rfl,HB.out⟩
   ·rw[if_neg a2] at H
    have c13b0:(δ == 0)=false:=beq_eq_false_iff_ne.mpr a2
    have c13b1:(δ != 0)=true:=bne_iff_ne.mpr a2
    by_cases Y: δ = 1
    ·rw[if_pos Y] at H
     have c23b0:(δ == 1)=true:=beq_iff_eq.mpr Y
     have c23b1:(δ != 1)=false:=bne_eq_false_iff_eq.mpr Y
     clear Y
     by_cases bo: η = true
     ·subst bo
      have H1:(if X=1 then ((car_within.f (wrap64 (O+X)) 0 (wrap64 (B-1))).bind fun θ =>(if θ = true then ((car_within.f κ 1 60).bind fun γ=>(if γ=true then (if ι = 0 then (some 0) else (some 180)) else (some 180))) else (some 180))) else (if X=(-1) then ((car_within.f (wrap64 (O+X)) 0 (wrap64 (B-1))).bind fun ω =>(if ω = true then ((car_within.f κ 1 60).bind fun ε =>(if ε = true then (if ι = 0 then (some 0) else (some 180)) else (some 180))) else (some 180))) else (some 180)))=some r:=by rw[if_pos rfl] at H;exact H
      clear H
      have H:=H1
      clear H1
      by_cases bn:X=1
      ·rw[if_pos bn] at H
       have c25b0:(X==1)=true:=beq_iff_eq.mpr bn
       have c25b1:(X != 1)=false:=bne_eq_false_iff_eq.mpr bn
       clear bn
       replace H:=Option.bind_eq_some_iff.mp H
       obtain⟨θ,h6,H⟩:=H
       replace H:(if θ = true then ((car_within.f κ 1 60).bind fun γ=>(if γ=true then (if ι = 0 then (some 0) else (some 180)) else (some 180))) else (some 180))=some r:=H
       have jr:=Aside0.mk h6
       clear h6
       by_cases ey: θ = true
       ·subst ey
        have H1:((car_within.f κ 1 60).bind fun γ=>(if γ=true then (if ι = 0 then (some 0) else (some 180)) else (some 180)))=some r:=by rw[if_pos rfl] at H;exact H
        clear H
        have H:=H1
        clear H1
        replace H:=Option.bind_eq_some_iff.mp H
        obtain⟨γ,eh,H⟩:=H
        replace H:(if γ=true then (if ι = 0 then (some 0) else (some 180)) else (some 180))=some r:=H
        have i5:=Aside0.mk eh
        clear eh
        by_cases ca:γ=true
        ·subst ca
         have H1:(if ι = 0 then (some 0) else (some 180))=some r:=by rw[if_pos rfl] at H;exact H
         clear H
         have H:=H1
         clear H1
         by_cases Z: ι = 0
         ·rw[if_pos Z] at H
          have c30b0:(ι == 0)=true:=beq_iff_eq.mpr Z
          have c30b1:(ι != 0)=false:=bne_eq_false_iff_eq.mpr Z
          clear Z
          obtain rfl:=Option.some.inj H
          obtain⟨ea,eb,ec,gf,gg,gh,kf,ed,ee,ef,gi,gj,gk,kg⟩:=qD7 J.out
          go_wp2_with (first|(go_at_call 85;(with_reducible refine(car_within.calls (wrap64 (O+X)) 0 (wrap64 (B-1)) true _ jr.out).mono ?_);rintro e w' ⟨rfl,⟨nd,rfl⟩⟩)|(go_at_call 85;(with_reducible refine(car_within.calls κ 1 60 true _ i5.out).mono ?_);rintro e w' ⟨rfl,⟨nd,rfl⟩⟩))
          go_ret
          exact⟨by first|rfl|(simp[Qh,Qg] <;> rfl)|(simp[*,Qh,Qg] <;> rfl),bel⟩
         ·rw[if_neg Z] at H
          have c30b0:(ι == 0)=false:=beq_eq_false_iff_ne.mpr Z
          have c30b1:(ι != 0)=true:=bne_iff_ne.mpr Z
          obtain rfl:=Option.some.inj H
          obtain⟨io,ip,iq,jt,ju,jv,jw,ir,it,iu,jx,jy,jz,k0⟩:=qD7 J.out
          go_wp2_with (first|(go_at_call 85;(with_reducible refine(car_within.calls (wrap64 (O+X)) 0 (wrap64 (B-1)) true _ jr.out).mono ?_);rintro e w' ⟨rfl,⟨nd,rfl⟩⟩)|(go_at_call 85;(with_reducible refine(car_within.calls κ 1 60 true _ i5.out).mono ?_);rintro e w' ⟨rfl,⟨nd,rfl⟩⟩))
          go_ret
          exact⟨by first|rfl|(simp[Qh,Qg] <;> rfl)|(simp[*,Qh,Qg] <;> rfl),bel⟩
        ·replace ca:=Bool.eq_false_iff.mpr ca
         subst ca
         have H1:(some 180)=some r:=by rw[if_neg (show ¬ (false=true) by decide)] at H;exact H
         clear H
         have H:=H1
         clear H1
         obtain rfl:=Option.some.inj H
         obtain⟨e6,e7,ev,fg,fh,ft,fu,e8,e9,ew,fv,g6,g7,g8⟩:=qD7 J.out
         go_wp2_with (first|(go_at_call 85;(with_reducible refine(car_within.calls (wrap64 (O+X)) 0 (wrap64 (B-1)) true _ jr.out).mono ?_);rintro e w' ⟨rfl,⟨nd,rfl⟩⟩)|(go_at_call 85;(with_reducible refine(car_within.calls κ 1 60 false _ i5.out).mono ?_);rintro e w' ⟨rfl,⟨nd,rfl⟩⟩))
         go_ret
         exact⟨by first|rfl|(simp[Qh,Qg] <;> rfl)|(simp[*,Qh,Qg] <;> rfl),bel⟩
       ·replace ey:=Bool.eq_false_iff.mpr ey
        subst ey
        have H1:(some 180)=some r:=by rw[if_neg (show ¬ (false=true) by decide)] at H;exact H
        clear H
        have H:=H1
        clear H1
        obtain rfl:=Option.some.inj H
        obtain⟨et,fm,fn,ha,he,hh,hj,eu,fo,fp,hl,ho,hu,hx⟩:=qD7 J.out
        go_wp2_with (first|(go_at_call 85;(with_reducible refine(car_within.calls (wrap64 (O+X)) 0 (wrap64 (B-1)) false _ jr.out).mono ?_);rintro e w' ⟨rfl,⟨nd,rfl⟩⟩))
        go_ret
        exact⟨by first|rfl|(simp[Qh,Qg] <;> rfl)|(simp[*,Qh,Qg] <;> rfl),bel⟩
      ·rw[if_neg bn] at H
       have c25b0:(X==1)=false:=beq_eq_false_iff_ne.mpr bn
       have c25b1:(X != 1)=true:=bne_iff_ne.mpr bn
       by_cases er:X=(-1)
       ·rw[if_pos er] at H
        have c35b0:(X==(-1))=true:=beq_iff_eq.mpr er
        have c35b1:(X != (-1))=false:=bne_eq_false_iff_eq.mpr er
        clear er
        replace H:=Option.bind_eq_some_iff.mp H
        obtain⟨ω,bp,H⟩:=H
        replace H:(if ω = true then ((car_within.f κ 1 60).bind fun ε =>(if ε = true then (if ι = 0 then (some 0) else (some 180)) else (some 180))) else (some 180))=some r:=H
        have az:=Aside0.mk bp
        clear bp
        by_cases g5: ω = true
        ·subst g5
         have H1:((car_within.f κ 1 60).bind fun ε =>(if ε = true then (if ι = 0 then (some 0) else (some 180)) else (some 180)))=some r:=by rw[if_pos rfl] at H;exact H
         clear H
         have H:=H1
         clear H1
         replace H:=Option.bind_eq_some_iff.mp H
         obtain⟨ε,bh,H⟩:=H
         replace H:(if ε = true then (if ι = 0 then (some 0) else (some 180)) else (some 180))=some r:=H
         have bi:=Aside0.mk bh
         clear bh
         by_cases di: ε = true
         ·subst di
          have H1:(if ι = 0 then (some 0) else (some 180))=some r:=by rw[if_pos rfl] at H;exact H
          clear H
          have H:=H1
          clear H1
          by_cases de: ι = 0
          ·rw[if_pos de] at H
           have c40b0:(ι == 0)=true:=beq_iff_eq.mpr de
           have c40b1:(ι != 0)=false:=bne_eq_false_iff_eq.mpr de
           clear de
           obtain rfl:=Option.some.inj H
           obtain⟨fi,fj,im,ix,iy,iz,j3,fk,fl,iv,jj,jk,jl,jm⟩:=qD7 J.out
           go_wp2_with (first|(go_at_call 85;(with_reducible refine(car_within.calls (wrap64 (O+X)) 0 (wrap64 (B-1)) true _ az.out).mono ?_);rintro e w' ⟨rfl,⟨nd,rfl⟩⟩)|(go_at_call 85;(with_reducible refine(car_within.calls κ 1 60 true _ bi.out).mono ?_);rintro e w' ⟨rfl,⟨nd,rfl⟩⟩))
           go_ret
           exact⟨by first|rfl|(simp[Qh,Qg] <;> rfl)|(simp[*,Qh,Qg] <;> rfl),bel⟩
          ·rw[if_neg de] at H
           have c40b0:(ι == 0)=false:=beq_eq_false_iff_ne.mpr de
           have c40b1:(ι != 0)=true:=bne_iff_ne.mpr de
           obtain rfl:=Option.some.inj H
           obtain⟨dz,i6,i7,ej,jb,jc,mj,i9,ia,ib,ml,mm,mo,mq⟩:=qD7 J.out
           go_wp2_with (first|(go_at_call 85;(with_reducible refine(car_within.calls (wrap64 (O+X)) 0 (wrap64 (B-1)) true _ az.out).mono ?_);rintro e w' ⟨rfl,⟨nd,rfl⟩⟩)|(go_at_call 85;(with_reducible refine(car_within.calls κ 1 60 true _ bi.out).mono ?_);rintro e w' ⟨rfl,⟨nd,rfl⟩⟩))
           go_ret
           exact⟨by first|rfl|(simp[Qh,Qg] <;> rfl)|(simp[*,Qh,Qg] <;> rfl),bel⟩
         ·replace di:=Bool.eq_false_iff.mpr di
          subst di
          have H1:(some 180)=some r:=by rw[if_neg (show ¬ (false=true) by decide)] at H;exact H
          clear H
          have H:=H1
          clear H1
          obtain rfl:=Option.some.inj H
          obtain⟨eo,ep,kz,lm,ln,lp,lq,l2,l3,l4,lr,ls,lu,lv⟩:=qD7 J.out
          go_wp2_with (first|(go_at_call 85;(with_reducible refine(car_within.calls (wrap64 (O+X)) 0 (wrap64 (B-1)) true _ az.out).mono ?_);rintro e w' ⟨rfl,⟨nd,rfl⟩⟩)|(go_at_call 85;(with_reducible refine(car_within.calls κ 1 60 false _ bi.out).mono ?_);rintro e w' ⟨rfl,⟨nd,rfl⟩⟩))
          go_ret
          exact⟨by first|rfl|(simp[Qh,Qg] <;> rfl)|(simp[*,Qh,Qg] <;> rfl),bel⟩
        ·replace g5:=Bool.eq_false_iff.mpr g5
         subst g5
         have H1:(some 180)=some r:=by rw[if_neg (show ¬ (false=true) by decide)] at H;exact H
         clear H
         have H:=H1
         clear H1
         obtain rfl:=Option.some.inj H
         obtain⟨d8,fq,h9,kh,ki,kj,kk,gz,h0,kl,km,kn,ko,kp⟩:=qD7 J.out
         go_wp2_with (first|(go_at_call 85;(with_reducible refine(car_within.calls (wrap64 (O+X)) 0 (wrap64 (B-1)) false _ az.out).mono ?_);rintro e w' ⟨rfl,⟨nd,rfl⟩⟩))
         go_ret
         exact⟨by first|rfl|(simp[Qh,Qg] <;> rfl)|(simp[*,Qh,Qg] <;> rfl),bel⟩
       ·rw[if_neg er] at H
        have c35b0:(X==(-1))=false:=beq_eq_false_iff_ne.mpr er
        have c35b1:(X != (-1))=true:=bne_iff_ne.mpr er
        obtain rfl:=Option.some.inj H
        obtain⟨jn,jo,ky,l5,l6,l7,l8,jp,jq,l9,lb,lc,lf,lg⟩:=qD7 J.out
        go_wp2
        go_ret
        exact⟨by first|rfl|(simp[Qh,Qg] <;> rfl)|(simp[*,Qh,Qg] <;> rfl),bel⟩
     ·replace bo:=Bool.eq_false_iff.mpr bo
      subst bo
      have H1:(some 180)=some r:=by rw[if_neg (show ¬ (false=true) by decide)] at H;exact H
      clear H
      have H:=H1
      clear H1
      obtain rfl:=Option.some.inj H
      obtain⟨gl,gm,i1,ic,j4,j5,j6,gn,gp,i2,j7,j8,j9,ja⟩:=qD7 J.out
      go_wp2
      go_ret
      exact⟨rfl,HB.out⟩
    ·rw[if_neg Y] at H
     have c23b0:(δ == 1)=false:=beq_eq_false_iff_ne.mpr Y
     have c23b1:(δ != 1)=true:=bne_iff_ne.mpr Y
     by_cases ih: δ = 2
     ·rw[if_pos ih] at H
      have c47b0:(δ == 2)=true:=beq_iff_eq.mpr ih
      have c47b1:(δ != 2)=false:=bne_eq_false_iff_eq.mpr ih
      clear ih
      by_cases b4: η = true
      ·subst b4
       have H1:(if X=0 then ((car_within.f κ 1 60).bind fun a3=>(if a3=true then (if ι = 0 then (some 0) else (some 180)) else (some 180))) else (some 180))=some r:=by rw[if_pos rfl] at H;exact H
       clear H
       have H:=H1
       clear H1
       by_cases dx:X=0
       ·rw[if_pos dx] at H
        have c49b0:(X==0)=true:=beq_iff_eq.mpr dx
        have c49b1:(X != 0)=false:=bne_eq_false_iff_eq.mpr dx
        clear dx
        replace H:=Option.bind_eq_some_iff.mp H
        obtain⟨a3,b9,H⟩:=H
        replace H:(if a3=true then (if ι = 0 then (some 0) else (some 180)) else (some 180))=some r:=H
        have b3:=Aside0.mk b9
        clear b9
        by_cases i3:a3=true
        ·subst i3
         have H1:(if ι = 0 then (some 0) else (some 180))=some r:=by rw[if_pos rfl] at H;exact H
         clear H
         have H:=H1
         clear H1
         by_cases ei: ι = 0
         ·rw[if_pos ei] at H
          have c52b0:(ι == 0)=true:=beq_iff_eq.mpr ei
          have c52b1:(ι != 0)=false:=bne_eq_false_iff_eq.mpr ei
          clear ei
          obtain rfl:=Option.some.inj H
          obtain⟨dd,df,m0,ba,bb,bc,bf,m1,m2,ni,bj,bm,ce,cf⟩:=qD7 J.out
          go_wp2_with (first|(go_at_call 85;(with_reducible refine(car_within.calls κ 1 60 true _ b3.out).mono ?_);rintro e w' ⟨rfl,⟨nd,rfl⟩⟩))
          go_ret
          exact⟨by first|rfl|(simp[Qh,Qg] <;> rfl)|(simp[*,Qh,Qg] <;> rfl),bel⟩
         ·rw[if_neg ei] at H
          have c52b0:(ι == 0)=false:=beq_eq_false_iff_ne.mpr ei
          have c52b1:(ι != 0)=true:=bne_iff_ne.mpr ei
          obtain rfl:=Option.some.inj H
          obtain⟨jd,je,jf,jg,jh,ji,k1,k2,k3,k4,k5,k6,k7,k8⟩:=qD7 J.out
          go_wp2_with (first|(go_at_call 85;(with_reducible refine(car_within.calls κ 1 60 true _ b3.out).mono ?_);rintro e w' ⟨rfl,⟨nd,rfl⟩⟩))
          go_ret
          exact⟨by first|rfl|(simp[Qh,Qg] <;> rfl)|(simp[*,Qh,Qg] <;> rfl),bel⟩
        ·replace i3:=Bool.eq_false_iff.mpr i3
         subst i3
         have H1:(some 180)=some r:=by rw[if_neg (show ¬ (false=true) by decide)] at H;exact H
         clear H
         have H:=H1
         clear H1
         obtain rfl:=Option.some.inj H
         obtain⟨g9,ga,hy,k9,ka,kb,js,gb,ge,i0,kc,kd,ke,lw⟩:=qD7 J.out
         go_wp2_with (first|(go_at_call 85;(with_reducible refine(car_within.calls κ 1 60 false _ b3.out).mono ?_);rintro e w' ⟨rfl,⟨nd,rfl⟩⟩))
         go_ret
         exact⟨by first|rfl|(simp[Qh,Qg] <;> rfl)|(simp[*,Qh,Qg] <;> rfl),bel⟩
       ·rw[if_neg dx] at H
        have c49b0:(X==0)=false:=beq_eq_false_iff_ne.mpr dx
        have c49b1:(X != 0)=true:=bne_iff_ne.mpr dx
        obtain rfl:=Option.some.inj H
        obtain⟨mr,ms,mt,mu,mz,n0,n1,n2,n3,na,nb,nc,nf,ng⟩:=qD7 J.out
        go_wp2
        go_ret
        exact⟨by first|rfl|(simp[Qh,Qg] <;> rfl)|(simp[*,Qh,Qg] <;> rfl),bel⟩
      ·replace b4:=Bool.eq_false_iff.mpr b4
       subst b4
       have H1:(some 180)=some r:=by rw[if_neg (show ¬ (false=true) by decide)] at H;exact H
       clear H
       have H:=H1
       clear H1
       obtain rfl:=Option.some.inj H
       obtain⟨ks,kt,ku,ma,mb,mc,me,kv,kw,kx,mf,mg,mh,mi⟩:=qD7 J.out
       go_wp2
       go_ret
       exact⟨rfl,HB.out⟩
     ·rw[if_neg ih] at H
      have c47b0:(δ == 2)=false:=beq_eq_false_iff_ne.mpr ih
      have c47b1:(δ != 2)=true:=bne_iff_ne.mpr ih
      by_cases bw: δ = 3
      ·rw[if_pos bw] at H
       have c58b0:(δ == 3)=true:=beq_iff_eq.mpr bw
       have c58b1:(δ != 3)=false:=bne_eq_false_iff_eq.mpr bw
       clear bw
       by_cases g4: η = true
       ·subst g4
        have H1:(if X=0 then (if κ = 0 then (if ι = 0 then (some 180) else (some 0)) else (some 180)) else (some 180))=some r:=by rw[if_pos rfl] at H;exact H
        clear H
        have H:=H1
        clear H1
        by_cases b1:X=0
        ·rw[if_pos b1] at H
         have c60b0:(X==0)=true:=beq_iff_eq.mpr b1
         have c60b1:(X != 0)=false:=bne_eq_false_iff_eq.mpr b1
         clear b1
         by_cases ii: κ = 0
         ·rw[if_pos ii] at H
          have c61b0:(κ == 0)=true:=beq_iff_eq.mpr ii
          have c61b1:(κ != 0)=false:=bne_eq_false_iff_eq.mpr ii
          clear ii
          by_cases gq: ι = 0
          ·rw[if_pos gq] at H
           have c62b0:(ι == 0)=true:=beq_iff_eq.mpr gq
           have c62b1:(ι != 0)=false:=bne_eq_false_iff_eq.mpr gq
           clear gq
           obtain rfl:=Option.some.inj H
           obtain⟨o2,o3,o4,o5,o6,o7,o8,o9,oa,ob,oc,od,oe,oh⟩:=qD7 J.out
           go_wp2
           go_ret
           exact⟨by first|rfl|(simp[Qh,Qg] <;> rfl)|(simp[*,Qh,Qg] <;> rfl),bel⟩
          ·rw[if_neg gq] at H
           have c62b0:(ι == 0)=false:=beq_eq_false_iff_ne.mpr gq
           have c62b1:(ι != 0)=true:=bne_iff_ne.mpr gq
           obtain rfl:=Option.some.inj H
           obtain⟨h4,h5,il,d1,d2,d6,d7,ie,ig,m3,mw,my,nv,nw⟩:=qD7 J.out
           go_wp2
           go_ret
           exact⟨by first|rfl|(simp[Qh,Qg] <;> rfl)|(simp[*,Qh,Qg] <;> rfl),bel⟩
         ·rw[if_neg ii] at H
          have c61b0:(κ == 0)=false:=beq_eq_false_iff_ne.mpr ii
          have c61b1:(κ != 0)=true:=bne_iff_ne.mpr ii
          obtain rfl:=Option.some.inj H
          obtain⟨m4,m5,m6,nj,nk,nl,nm,m7,m8,m9,nn,no,np,nq⟩:=qD7 J.out
          go_wp2
          go_ret
          exact⟨by first|rfl|(simp[Qh,Qg] <;> rfl)|(simp[*,Qh,Qg] <;> rfl),bel⟩
        ·rw[if_neg b1] at H
         have c60b0:(X==0)=false:=beq_eq_false_iff_ne.mpr b1
         have c60b1:(X != 0)=true:=bne_iff_ne.mpr b1
         obtain rfl:=Option.some.inj H
         obtain⟨bq,bz,cp,cx,cy,cz,d9,cb,cd,da,db,dc,dy,h7⟩:=qD7 J.out
         go_wp2
         go_ret
         exact⟨by first|rfl|(simp[Qh,Qg] <;> rfl)|(simp[*,Qh,Qg] <;> rfl),bel⟩
       ·replace g4:=Bool.eq_false_iff.mpr g4
        subst g4
        have H1:(some 180)=some r:=by rw[if_neg (show ¬ (false=true) by decide)] at H;exact H
        clear H
        have H:=H1
        clear H1
        obtain rfl:=Option.some.inj H
        obtain⟨nr,ns,nt,nu,oi,oj,ol,om,oo,oq,ot,ou,ov,ow⟩:=qD7 J.out
        go_wp2
        go_ret
        exact⟨by first|rfl|(simp[Qh,Qg] <;> rfl)|(simp[*,Qh,Qg] <;> rfl),bel⟩
      ·rw[if_neg bw] at H
       have c58b0:(δ == 3)=false:=beq_eq_false_iff_ne.mpr bw
       have c58b1:(δ != 3)=true:=bne_iff_ne.mpr bw
       obtain rfl:=Option.some.inj H
       obtain⟨g2,g3,lh,h8,ij,ik,lx,ll,nh,nx,ly,lz,ny,nz⟩:=qD7 J.out
       go_wp2
       go_ret
       exact⟨rfl,HB.out⟩
def car_check.f (k:Nat) (B:Int) (J:Int) (L:Int) (Y:Int) (Z:Int) (ε :Int) (γ:Int) (θ :Int) (ζ :Int) (η :Int) (O:Int) (X:Int) (δ :Int) (κ :Int) (ι :Int) (μ :Int) (ν :Int):Option (Int):=(door_Rest.f k B J L Y Z ε γ θ ζ η 0 0 0).bind fun a1=>(if a1.2=0 then ((car_Check.f k B O X δ κ ι μ ν).bind fun σ=>(some σ)) else (some 180))
theorem car_check.mono:∀ B O a2 a3 L a5 X a7 a8 a9 Y Z γ ε δ ζ η k,LeO (car_check.f k B O a2 a3 L a5 X a7 a8 a9 Y Z γ ε δ ζ η) (car_check.f (k+1) B O a2 a3 L a5 X a7 a8 a9 Y Z γ ε δ ζ η):=by
 intro B O a2 a3 L a5 X a7 a8 a9 Y Z γ ε δ ζ η k
 unfold car_check.f
 repeat' first
   |(with_reducible exact car_Check.mono _ _ _ _ _ _ _ _ _)
   |(with_reducible exact door_Rest.mono _ _ _ _ _ _ _ _ _ _ _ _ _ _)
   |(with_reducible exact LeO.refl _)
   |(with_reducible exact LeO.none _)
   |(with_reducible refine LeO.ite ?_ ?_)
   |(with_reducible refine LeO.bind ?_ (fun _=>?_))
   |exact car_Check.mono _ _ _ _ _ _ _ _ _
   |exact door_Rest.mono _ _ _ _ _ _ _ _ _ _ _ _ _ _
   |exact LeO.none _
   |refine LeO.ite ?_ ?_
   |refine LeO.bind ?_ (fun _=>?_)
set_option maxHeartbeats 8000000 in
set_option maxRecDepth 100000 in
theorem car_check.calls (k:Nat) (B:Int) (J:Int) (L:Int) (Y:Int) (Z:Int) (ε :Int) (γ:Int) (θ :Int) (ζ :Int) (η :Int) (O:Int) (X:Int) (δ :Int) (κ :Int) (ι :Int) (μ :Int) (ν :Int) (r:Int) (w:World) (h:car_check.f k B J L Y Z ε γ θ ζ η O X δ κ ι μ ν = some r):
  Calls Try.prog 45 #[.agg #[.int .i64 B,.int .i64 J,.int .i64 L,.int .i64 Y,.int .i64 Z,.int .i64 ε,.int .i64 γ,.int .i64 θ,.int .i64 ζ,.int .i64 η],.agg #[.int .i64 O,.int .i64 X,.int .i64 δ,.int .i64 κ,.int .i64 ι,.int .i64 μ,.int .i64 ν]] w fun e w'=>e = .returned (.int .i64 r)∧Below w.heap.size w w':=by
 have cx:=Try.underlying25
 have iw:=Try.underlying29
 have i4:=Try.underlying27
 have HB:=Aside0.mk (Below.refl w.heap.size w)
 have H:((door_Rest.f k B J L Y Z ε γ θ ζ η 0 0 0).bind fun a1=>(if a1.2=0 then ((car_Check.f k B O X δ κ ι μ ν).bind fun σ=>(some σ)) else (some 180)))=some r:=h
 clear h
 replace H:=Option.bind_eq_some_iff.mp H
 obtain⟨⟨a2,ψ⟩,aa,H⟩:=H
 replace H:(if ψ = 0 then ((car_Check.f k B O X δ κ ι μ ν).bind fun σ=>(some σ)) else (some 180))=some r:=H
 have A3:=Aside0.mk aa
 clear aa
 by_cases c4: ψ = 0
 ·rw[if_pos c4] at H
  have c4b0:(ψ == 0)=true:=beq_iff_eq.mpr c4
  have c4b1:(ψ != 0)=false:=bne_eq_false_iff_eq.mpr c4
  clear c4
  replace H:=Option.bind_eq_some_iff.mp H
  obtain⟨σ,b3,H⟩:=H
  replace H:(some σ)=some r:=H
  have A5:=Aside0.mk b3
  clear b3
  obtain rfl:=Option.some.inj H
  go_enter Try.func45,Try.ntmps45
  go_wp2_with (first|((with_reducible refine Qe (N:=2) rfl ?_);refine qE 2 #[.int .i64 B,.int .i64 J,.int .i64 L,.int .i64 Y,.int .i64 Z,.int .i64 ε,.int .i64 γ,.int .i64 θ,.int .i64 ζ,.int .i64 η] 25 ?_;intro a3 hg w6 hbox hb;have ξ :=Aside0.mk hbox;have a6:=sGe hg;have a7:=sGe hg;replace HB:=sHb hb;clear hb hbox hg)|((with_reducible refine Qe (N:=3) rfl ?_);refine qE 3 #[.int .i64 O,.int .i64 X,.int .i64 δ,.int .i64 κ,.int .i64 ι,.int .i64 μ,.int .i64 ν] 29 ?_;intro a8 hg w7 hbox hb;have ρ:=Aside0.mk hbox;have ab:=sGe hg;have ac:=sGe hg;have ω :=sNl ξ hg;have a0:=sNg ξ hg;replace ξ :=sBk ξ hb;replace HB:=sHb hb;clear hb hbox hg;have d0:= ω.out;have d1:=a0.out;obtain⟨br,cp,cv,dj,dk,dl,du,dv,bi,bj,ct,cu,cw,dw,dz,eh,ej,en,bp,bq⟩:=Q5 ξ.out)|((with_reducible refine Qd (f:=47) rfl ?_);refine Qn (some 10) rfl rfl Try.func47 kr rfl #[.agg #[.int .i64 B,.int .i64 J,.int .i64 L,.int .i64 Y,.int .i64 Z,.int .i64 ε,.int .i64 γ,.int .i64 θ,.int .i64 ζ,.int .i64 η],.agg #[.int .i64 0,.int .i64 0,.int .i64 0]] rfl qM ?_;(with_reducible refine(door_Rest.calls k B J L Y Z ε γ θ ζ η 0 0 0 a2 ψ _ A3.out).mono ?_);rintro e fg ⟨rfl,hb⟩;refine⟨_,rfl, ?_⟩;replace ξ :=sBk ξ hb;replace ρ:=sBk ρ hb;replace HB:=sHb hb;(try clear hb);(try clear a4);(try clear hk);(try clear hi);obtain⟨ah,ak,aw,b6,bd,be,χ,b9,bb,bf,ao,ap,ax,bk,bl,bm,al,ba,d8,dy⟩:=Q5 ξ.out;obtain⟨τ,φ,ae,dh,f7,f8,fa,a5,a9,b8,fb,fc,fe,ff⟩:=qD7 ρ.out)|((with_reducible refine Qd (f:=69) rfl ?_);refine Qn (some 18) rfl rfl Try.func69 kr rfl #[.int .i64 B,.agg #[.int .i64 O,.int .i64 X,.int .i64 δ,.int .i64 κ,.int .i64 ι,.int .i64 μ,.int .i64 ν]] rfl qM ?_;(with_reducible refine(car_Check.calls k B O X δ κ ι μ ν σ _ A5.out).mono ?_);rintro e i3 ⟨rfl,hb⟩;refine⟨_,rfl, ?_⟩;replace ξ :=sBk ξ hb;replace ρ:=sBk ρ hb;replace HB:=sHb hb;(try clear hb);(try clear a4);(try clear hk);(try clear hi)))
  go_ret
  exact⟨rfl,HB.out⟩
 ·rw[if_neg c4] at H
  have c4b0:(ψ == 0)=false:=beq_eq_false_iff_ne.mpr c4
  have c4b1:(ψ != 0)=true:=bne_iff_ne.mpr c4
  obtain rfl:=Option.some.inj H
  go_enter Try.func45,Try.ntmps45
  go_wp2_with (first|((with_reducible refine Qe (N:=2) rfl ?_);refine qE 2 #[.int .i64 B,.int .i64 J,.int .i64 L,.int .i64 Y,.int .i64 Z,.int .i64 ε,.int .i64 γ,.int .i64 θ,.int .i64 ζ,.int .i64 η] 25 ?_;intro a3 hg bh hbox hb;have ξ :=Aside0.mk hbox;have a6:=sGe hg;have a7:=sGe hg;replace HB:=sHb hb;clear hb hbox hg)|((with_reducible refine Qe (N:=3) rfl ?_);refine qE 3 #[.int .i64 O,.int .i64 X,.int .i64 δ,.int .i64 κ,.int .i64 ι,.int .i64 μ,.int .i64 ν] 29 ?_;intro a8 hg g9 hbox hb;have ρ:=Aside0.mk hbox;have ab:=sGe hg;have ac:=sGe hg;have ω :=sNl ξ hg;have a0:=sNg ξ hg;replace ξ :=sBk ξ hb;replace HB:=sHb hb;clear hb hbox hg;have jb:= ω.out;have jc:=a0.out;obtain⟨af,cd,bs,ag,bv,dd,df,b4,de,ei,ce,cf,bu,e0,ea,eb,ec,ek,el,em⟩:=Q5 ξ.out)|((with_reducible refine Qd (f:=47) rfl ?_);refine Qn (some 10) rfl rfl Try.func47 kr rfl #[.agg #[.int .i64 B,.int .i64 J,.int .i64 L,.int .i64 Y,.int .i64 Z,.int .i64 ε,.int .i64 γ,.int .i64 θ,.int .i64 ζ,.int .i64 η],.agg #[.int .i64 0,.int .i64 0,.int .i64 0]] rfl qM ?_;(with_reducible refine(door_Rest.calls k B J L Y Z ε γ θ ζ η 0 0 0 a2 ψ _ A3.out).mono ?_);rintro e ha ⟨rfl,hb⟩;refine⟨_,rfl, ?_⟩;replace ξ :=sBk ξ hb;replace ρ:=sBk ρ hb;replace HB:=sHb hb;(try clear hb);(try clear a4);(try clear hk);(try clear hi)))
  go_ret
  exact⟨rfl,HB.out⟩
def car_Rest.f (k:Nat) (B:Int) (J:Int) (L:Int) (Y:Int) (Z:Int) (ε :Int) (γ:Int) (θ :Int) (ζ :Int) (η :Int) (O:Int) (X:Int) (δ :Int) (κ :Int) (ι :Int) (μ :Int) (ν :Int):Option (Int×Int):=(car_check.f k B J L Y Z ε γ θ ζ η O X δ κ ι μ ν).bind fun σ=>(if σ=0 then (if δ = 2 then ((door_Ask.f k J L Y Z ε γ θ ι μ ν).bind fun ψ =>((door_Rest.f k B J L Y Z ε γ θ ζ η ψ.1 ψ.2.1 ψ.2.2.1).bind fun a3=>(some (wrap64 (κ + a3.1),0)))) else ((door_Rest.f k B J L Y Z ε γ θ ζ η ι μ ν).bind fun ai=>(some (wrap64 (κ + ai.1),0)))) else (some (0,σ)))
theorem car_Rest.mono:∀ B O a2 a3 L a5 X a7 a8 a9 Y Z γ ε δ ζ η k,LeO (car_Rest.f k B O a2 a3 L a5 X a7 a8 a9 Y Z γ ε δ ζ η) (car_Rest.f (k+1) B O a2 a3 L a5 X a7 a8 a9 Y Z γ ε δ ζ η):=by
 intro B O a2 a3 L a5 X a7 a8 a9 Y Z γ ε δ ζ η k
 unfold car_Rest.f
 repeat' first
   |(with_reducible exact car_check.mono _ _ _ _ _ _ _ _ _ _ _ _ _ _ _ _ _ _)
   |(with_reducible exact door_Ask.mono _ _ _ _ _ _ _ _ _ _ _)
   |(with_reducible exact door_Rest.mono _ _ _ _ _ _ _ _ _ _ _ _ _ _)
   |(with_reducible exact LeO.refl _)
   |(with_reducible exact LeO.none _)
   |(with_reducible refine LeO.ite ?_ ?_)
   |(with_reducible refine LeO.bind ?_ (fun _=>?_))
   |exact car_check.mono _ _ _ _ _ _ _ _ _ _ _ _ _ _ _ _ _ _
   |exact door_Ask.mono _ _ _ _ _ _ _ _ _ _ _
   |exact door_Rest.mono _ _ _ _ _ _ _ _ _ _ _ _ _ _
   |exact LeO.none _
   |refine LeO.ite ?_ ?_
   |refine LeO.bind ?_ (fun _=>?_)
set_option maxHeartbeats 8000000 in
set_option maxRecDepth 100000 in
theorem car_Rest.calls (k:Nat) (B:Int) (J:Int) (L:Int) (Y:Int) (Z:Int) (ε :Int) (γ:Int) (θ :Int) (ζ :Int) (η :Int) (O:Int) (X:Int) (δ :Int) (κ :Int) (ι :Int) (μ :Int) (ν :Int) (r1:Int) (r2:Int) (w:World) (h:car_Rest.f k B J L Y Z ε γ θ ζ η O X δ κ ι μ ν = some (r1,r2)):
  Calls Try.prog 25 #[.agg #[.int .i64 B,.int .i64 J,.int .i64 L,.int .i64 Y,.int .i64 Z,.int .i64 ε,.int .i64 γ,.int .i64 θ,.int .i64 ζ,.int .i64 η],.agg #[.int .i64 O,.int .i64 X,.int .i64 δ,.int .i64 κ,.int .i64 ι,.int .i64 μ,.int .i64 ν]] w fun e w'=>e = .returned (.tuple #[.int .i64 r1,.int .i64 r2])∧Below w.heap.size w w':=by
 have cx:=Try.underlying25
 have iw:=Try.underlying29
 have i4:=Try.underlying27
 have k2:=Try.underlying23
 have HB:=Aside0.mk (Below.refl w.heap.size w)
 have H:((car_check.f k B J L Y Z ε γ θ ζ η O X δ κ ι μ ν).bind fun σ=>(if σ=0 then (if δ = 2 then ((door_Ask.f k J L Y Z ε γ θ ι μ ν).bind fun ψ =>((door_Rest.f k B J L Y Z ε γ θ ζ η ψ.1 ψ.2.1 ψ.2.2.1).bind fun a3=>(some (wrap64 (κ + a3.1),0)))) else ((door_Rest.f k B J L Y Z ε γ θ ζ η ι μ ν).bind fun ai=>(some (wrap64 (κ + ai.1),0)))) else (some (0,σ))))=some (r1,r2):=h
 clear h
 replace H:=Option.bind_eq_some_iff.mp H
 obtain⟨σ,aa,H⟩:=H
 replace H:(if σ=0 then (if δ = 2 then ((door_Ask.f k J L Y Z ε γ θ ι μ ν).bind fun ψ =>((door_Rest.f k B J L Y Z ε γ θ ζ η ψ.1 ψ.2.1 ψ.2.2.1).bind fun a3=>(some (wrap64 (κ + a3.1),0)))) else ((door_Rest.f k B J L Y Z ε γ θ ζ η ι μ ν).bind fun ai=>(some (wrap64 (κ + ai.1),0)))) else (some (0,σ)))=some (r1,r2):=H
 have A3:=Aside0.mk aa
 clear aa
 by_cases c4:σ=0
 ·rw[if_pos c4] at H
  have c4b0:(σ==0)=true:=beq_iff_eq.mpr c4
  have c4b1:(σ != 0)=false:=bne_eq_false_iff_eq.mpr c4
  clear c4
  by_cases c5: δ = 2
  ·rw[if_pos c5] at H
   have c5b0:(δ == 2)=true:=beq_iff_eq.mpr c5
   have c5b1:(δ != 2)=false:=bne_eq_false_iff_eq.mpr c5
   clear c5
   replace H:=Option.bind_eq_some_iff.mp H
   obtain⟨⟨ag,aj,b2,cq⟩,az,H⟩:=H
   replace H:((door_Rest.f k B J L Y Z ε γ θ ζ η ag aj b2).bind fun a3=>(some (wrap64 (κ + a3.1),0)))=some (r1,r2):=H
   have A6:=Aside0.mk az
   clear az
   replace H:=Option.bind_eq_some_iff.mp H
   obtain⟨⟨ca,cr⟩,eg,H⟩:=H
   replace H:(some (wrap64 (κ + ca),0))=some (r1,r2):=H
   have A7:=Aside0.mk eg
   clear eg
   simp only[Option.some.injEq,Prod.mk.injEq] at H
   obtain⟨rfl,rfl⟩:=H
   go_enter Try.func25,Try.ntmps25
   go_wp2_with (first|((with_reducible refine Qe (N:=2) rfl ?_);refine qE 2 #[.int .i64 B,.int .i64 J,.int .i64 L,.int .i64 Y,.int .i64 Z,.int .i64 ε,.int .i64 γ,.int .i64 θ,.int .i64 ζ,.int .i64 η] 25 ?_;intro b3 hg w8 hbox hb;have ξ :=Aside0.mk hbox;have b4:=sGe hg;have bn:=sGe hg;replace HB:=sHb hb;clear hb hbox hg)|((with_reducible refine Qe (N:=3) rfl ?_);refine qE 3 #[.int .i64 O,.int .i64 X,.int .i64 δ,.int .i64 κ,.int .i64 ι,.int .i64 μ,.int .i64 ν] 29 ?_;intro bo hg w9 hbox hb;have ρ:=Aside0.mk hbox;have bw:=sGe hg;have bz:=sGe hg;have a0:=sNl ξ hg;have a2:=sNg ξ hg;replace ξ :=sBk ξ hb;replace HB:=sHb hb;clear hb hbox hg;have h4:=a0.out;have h5:=a2.out;obtain⟨ah,ak,aw,b6,bd,be,χ,b9,bb,bf,ao,ap,ax,bk,bl,bm,al,ba,d8,dy⟩:=Q5 ξ.out;obtain⟨τ,φ,ae,dh,f7,f8,fa,a5,a9,b8,fb,fc,fe,ff⟩:=qD7 ρ.out)|((with_reducible refine Qd (f:=45) rfl ?_);refine Qn (some 12) rfl rfl Try.func45 kr rfl #[.agg #[.int .i64 B,.int .i64 J,.int .i64 L,.int .i64 Y,.int .i64 Z,.int .i64 ε,.int .i64 γ,.int .i64 θ,.int .i64 ζ,.int .i64 η],.agg #[.int .i64 O,.int .i64 X,.int .i64 δ,.int .i64 κ,.int .i64 ι,.int .i64 μ,.int .i64 ν]] rfl qM ?_;(with_reducible refine(car_check.calls k B J L Y Z ε γ θ ζ η O X δ κ ι μ ν σ _ A3.out).mono ?_);rintro e i3 ⟨rfl,hb⟩;refine⟨_,rfl, ?_⟩;replace ξ :=sBk ξ hb;replace ρ:=sBk ρ hb;replace HB:=sHb hb;(try clear hb);(try clear a4);(try clear hk);(try clear hi);obtain⟨bg,bh,bp,d0,d1,d2,d3,bi,bj,bq,d4,d5,d6,d7⟩:=qD7 ρ.out)|((with_reducible refine Qe (N:=7) rfl ?_);refine qE 7 #[.int .i64 0,.int .i64 0,.int .i64 0] 27 ?_;intro b1 hg g9 hbox hb;have ω :=Aside0.mk hbox;have cd:=sGe hg;have ce:=sGe hg;have a6:=sNl ξ hg;have ab:=sNg ξ hg;have ac:=sNl ρ hg;have af:=sNg ρ hg;replace ξ :=sBk ξ hb;replace ρ:=sBk ρ hb;replace HB:=sHb hb;clear hb hbox hg;have jb:=ab.out;have jc:=a6.out;have mt:=af.out;have mu:=ac.out;obtain⟨br,bs,dj,bu,bv,dk⟩:=qD3 ω.out;obtain⟨am,an,b5,cg,ch,ci,cj,ay,b0,b7,ck,cm,cn,co⟩:=qD7 ρ.out;obtain⟨a7,ar,a1,dl,dm,dn,dp,i5,i6,i7,au,av,a8,dq,dr,dt,du,i9,ia,ib⟩:=Q5 ξ.out)|((with_reducible refine Qd (f:=46) rfl ?_);refine Qn (some 25) rfl rfl Try.func46 kr rfl #[.agg #[.int .i64 J,.int .i64 L,.int .i64 Y,.int .i64 Z,.int .i64 ε,.int .i64 γ,.int .i64 θ],.agg #[.int .i64 ι,.int .i64 μ,.int .i64 ν]] rfl qM ?_;(with_reducible refine(door_Ask.calls k J L Y Z ε γ θ ι μ ν ag aj b2 cq _ A6.out).mono ?_);rintro e bc ⟨rfl,hb⟩;refine⟨_,rfl, ?_⟩;replace ξ :=sBk ξ hb;replace ρ:=sBk ρ hb;replace ω :=Aside0.mk (Qt (g:=b1) (o:=.cells #[.int .i64 ι,.int .i64 μ,.int .i64 ν] 27 (0,0)) (by refine Qm (cs:=#[.int .i64 ι,.int .i64 μ,.int .i64 0]) ?_ 2 _ rfl;refine Qm (cs:=#[.int .i64 ι,.int .i64 0,.int .i64 0]) ?_ 1 _ rfl;refine Qm (cs:=#[.int .i64 0,.int .i64 0,.int .i64 0]) ?_ 0 _ rfl;exact ω.out) hb);replace HB:=sHb hb;(try clear hb);(try clear a4);(try clear hk);(try clear hi);obtain⟨ct,cu,dv,cv,cw,dw⟩:=qD3 ω.out;obtain⟨cy,cz,di,et,eu,fo,fp,he,hh,hj,e3,e4,e5,hl,ho,hu,hx,js,k1,k3⟩:=Q5 ξ.out)|((with_reducible refine Qd (f:=47) rfl ?_);refine Qn (some 31) rfl rfl Try.func47 kr rfl #[.agg #[.int .i64 B,.int .i64 J,.int .i64 L,.int .i64 Y,.int .i64 Z,.int .i64 ε,.int .i64 γ,.int .i64 θ,.int .i64 ζ,.int .i64 η],.agg #[.int .i64 ag,.int .i64 aj,.int .i64 b2]] rfl qM ?_;(with_reducible refine(door_Rest.calls k B J L Y Z ε γ θ ζ η ag aj b2 ca cr _ A7.out).mono ?_);rintro e cp ⟨rfl,hb⟩;refine⟨_,rfl, ?_⟩;replace ξ :=sBk ξ hb;replace ρ:=sBk ρ hb;replace ω :=Aside0.mk (Qt (g:=b1) (o:=.cells #[.int .i64 ag,.int .i64 aj,.int .i64 b2] 27 (0,0)) (by refine Qm (cs:=#[.int .i64 ag,.int .i64 aj,.int .i64 ν]) ?_ 2 _ rfl;refine Qm (cs:=#[.int .i64 ag,.int .i64 μ,.int .i64 ν]) ?_ 1 _ rfl;refine Qm (cs:=#[.int .i64 ι,.int .i64 μ,.int .i64 ν]) ?_ 0 _ rfl;exact ω.out) hb);replace HB:=sHb hb;(try clear hb);(try clear a4);(try clear hk);(try clear hi);obtain⟨fq,fw,fz,fr,ie,ig,ih,fx,fy,gq,ii,ij,ik,il⟩:=qD7 ρ.out))
   go_ret2
   exact⟨rfl,HB.out⟩
  ·rw[if_neg c5] at H
   have c5b0:(δ == 2)=false:=beq_eq_false_iff_ne.mpr c5
   have c5b1:(δ != 2)=true:=bne_iff_ne.mpr c5
   replace H:=Option.bind_eq_some_iff.mp H
   obtain⟨⟨cb,d9⟩,h6,H⟩:=H
   replace H:(some (wrap64 (κ + cb),0))=some (r1,r2):=H
   have jr:=Aside0.mk h6
   clear h6
   simp only[Option.some.injEq,Prod.mk.injEq] at H
   obtain⟨rfl,rfl⟩:=H
   go_enter Try.func25,Try.ntmps25
   go_wp2_with (first|((with_reducible refine Qe (N:=2) rfl ?_);refine qE 2 #[.int .i64 B,.int .i64 J,.int .i64 L,.int .i64 Y,.int .i64 Z,.int .i64 ε,.int .i64 γ,.int .i64 θ,.int .i64 ζ,.int .i64 η] 25 ?_;intro b3 hg ey hbox hb;have ξ :=Aside0.mk hbox;have b4:=sGe hg;have bn:=sGe hg;replace HB:=sHb hb;clear hb hbox hg)|((with_reducible refine Qe (N:=3) rfl ?_);refine qE 3 #[.int .i64 O,.int .i64 X,.int .i64 δ,.int .i64 κ,.int .i64 ι,.int .i64 μ,.int .i64 ν] 29 ?_;intro bo hg eh hbox hb;have ρ:=Aside0.mk hbox;have bw:=sGe hg;have bz:=sGe hg;have a0:=sNl ξ hg;have a2:=sNg ξ hg;replace ξ :=sBk ξ hb;replace HB:=sHb hb;clear hb hbox hg;have jt:=a0.out;have ju:=a2.out;obtain⟨cf,dd,dz,ej,ek,el,em,g0,g1,g2,de,df,e0,en,eo,ep,er,g3,g4,g5⟩:=Q5 ξ.out;obtain⟨ea,eb,ec,gf,gg,gh,kf,ed,ee,ef,gi,gj,gk,kg⟩:=qD7 ρ.out)|((with_reducible refine Qd (f:=45) rfl ?_);refine Qn (some 12) rfl rfl Try.func45 kr rfl #[.agg #[.int .i64 B,.int .i64 J,.int .i64 L,.int .i64 Y,.int .i64 Z,.int .i64 ε,.int .i64 γ,.int .i64 θ,.int .i64 ζ,.int .i64 η],.agg #[.int .i64 O,.int .i64 X,.int .i64 δ,.int .i64 κ,.int .i64 ι,.int .i64 μ,.int .i64 ν]] rfl qM ?_;(with_reducible refine(car_check.calls k B J L Y Z ε γ θ ζ η O X δ κ ι μ ν σ _ A3.out).mono ?_);rintro e nf ⟨rfl,hb⟩;refine⟨_,rfl, ?_⟩;replace ξ :=sBk ξ hb;replace ρ:=sBk ρ hb;replace HB:=sHb hb;(try clear hb);(try clear a4);(try clear hk);(try clear hi);obtain⟨e6,e7,ev,fg,fh,ft,fu,e8,e9,ew,fv,g6,g7,g8⟩:=qD7 ρ.out)|((with_reducible refine Qe (N:=7) rfl ?_);refine qE 7 #[.int .i64 0,.int .i64 0,.int .i64 0] 27 ?_;intro b1 hg h7 hbox hb;have ω :=Aside0.mk hbox;have cd:=sGe hg;have ce:=sGe hg;have a6:=sNl ξ hg;have ab:=sNg ξ hg;have ac:=sNl ρ hg;have af:=sNg ρ hg;replace ξ :=sBk ξ hb;replace ρ:=sBk ρ hb;replace HB:=sHb hb;clear hb hbox hg;have ma:=ab.out;have mb:=a6.out;have hy:=af.out;have i0:=ac.out;obtain⟨ez,fm,fn,kh,ki,kj⟩:=qD3 ω.out;obtain⟨gt,kv,kw,kx,lh,ll,lx,ly,lz,m0,m1,m2,m3,m4⟩:=qD7 ρ.out;obtain⟨gz,h0,h9,jv,jw,jx,jy,jz,k0,k4,io,ip,iq,k5,k6,k7,k8,kk,km,kn⟩:=Q5 ξ.out)|((with_reducible refine Qd (f:=47) rfl ?_);refine Qn (some 31) rfl rfl Try.func47 kr rfl #[.agg #[.int .i64 B,.int .i64 J,.int .i64 L,.int .i64 Y,.int .i64 Z,.int .i64 ε,.int .i64 γ,.int .i64 θ,.int .i64 ζ,.int .i64 η],.agg #[.int .i64 ι,.int .i64 μ,.int .i64 ν]] rfl qM ?_;(with_reducible refine(door_Rest.calls k B J L Y Z ε γ θ ζ η ι μ ν cb d9 _ jr.out).mono ?_);rintro e mc ⟨rfl,hb⟩;refine⟨_,rfl, ?_⟩;replace ξ :=sBk ξ hb;replace ρ:=sBk ρ hb;replace ω :=Aside0.mk (Qt (g:=b1) (o:=.cells #[.int .i64 ι,.int .i64 μ,.int .i64 ν] 27 (0,0)) (by refine Qm (cs:=#[.int .i64 ι,.int .i64 μ,.int .i64 0]) ?_ 2 _ rfl;refine Qm (cs:=#[.int .i64 ι,.int .i64 0,.int .i64 0]) ?_ 1 _ rfl;refine Qm (cs:=#[.int .i64 0,.int .i64 0,.int .i64 0]) ?_ 0 _ rfl;exact ω.out) hb);replace HB:=sHb hb;(try clear hb);(try clear a4);(try clear hk);(try clear hi);obtain⟨fi,fj,im,ix,iy,iz,j3,fk,fl,iv,jj,jk,jl,jm⟩:=qD7 ρ.out))
   go_ret2
   exact⟨rfl,HB.out⟩
 ·rw[if_neg c4] at H
  have c4b0:(σ==0)=false:=beq_eq_false_iff_ne.mpr c4
  have c4b1:(σ != 0)=true:=bne_iff_ne.mpr c4
  simp only[Option.some.injEq,Prod.mk.injEq] at H
  obtain⟨rfl,rfl⟩:=H
  go_enter Try.func25,Try.ntmps25
  go_wp2_with (first|((with_reducible refine Qe (N:=2) rfl ?_);refine qE 2 #[.int .i64 B,.int .i64 J,.int .i64 L,.int .i64 Y,.int .i64 Z,.int .i64 ε,.int .i64 γ,.int .i64 θ,.int .i64 ζ,.int .i64 η] 25 ?_;intro b3 hg jd hbox hb;have ξ :=Aside0.mk hbox;have b4:=sGe hg;have bn:=sGe hg;replace HB:=sHb hb;clear hb hbox hg)|((with_reducible refine Qe (N:=3) rfl ?_);refine qE 3 #[.int .i64 O,.int .i64 X,.int .i64 δ,.int .i64 κ,.int .i64 ι,.int .i64 μ,.int .i64 ν] 29 ?_;intro bo hg l3 hbox hb;have ρ:=Aside0.mk hbox;have bw:=sGe hg;have bz:=sGe hg;have a0:=sNl ξ hg;have a2:=sNg ξ hg;replace ξ :=sBk ξ hb;replace HB:=sHb hb;clear hb hbox hg;have ge:=a0.out;have ha:=a2.out;obtain⟨jn,jo,ky,l5,l6,l7,l8,ko,kp,kq,jp,jq,l9,lb,lc,lf,lg,ks,kt,ku⟩:=Q5 ξ.out;obtain⟨gl,gm,i1,ic,j4,j5,j6,gn,gp,i2,j7,j8,j9,ja⟩:=qD7 ρ.out)|((with_reducible refine Qd (f:=45) rfl ?_);refine Qn (some 12) rfl rfl Try.func45 kr rfl #[.agg #[.int .i64 B,.int .i64 J,.int .i64 L,.int .i64 Y,.int .i64 Z,.int .i64 ε,.int .i64 γ,.int .i64 θ,.int .i64 ζ,.int .i64 η],.agg #[.int .i64 O,.int .i64 X,.int .i64 δ,.int .i64 κ,.int .i64 ι,.int .i64 μ,.int .i64 ν]] rfl qM ?_;(with_reducible refine(car_check.calls k B J L Y Z ε γ θ ζ η O X δ κ ι μ ν σ _ A3.out).mono ?_);rintro e n1 ⟨rfl,hb⟩;refine⟨_,rfl, ?_⟩;replace ξ :=sBk ξ hb;replace ρ:=sBk ρ hb;replace HB:=sHb hb;(try clear hb);(try clear a4);(try clear hk);(try clear hi)))
  go_ret2
  exact⟨rfl,HB.out⟩
def group_lift.f (k:Nat) (B:Int) (J:Int) (L:Int) (Y:Int) (Z:Int) (ε :Int) (γ:Int) (θ :Int) (ζ :Int) (η :Int) (O:Int) (X:Int) (δ :Int) (κ :Int) (ι :Int) (μ :Int) (ν :Int) (ξ :Int) (ψ :Bool) (ω :Bool):Option (Bool):=(car_Rest.f k B J L Y Z ε γ θ ζ η O X δ κ ι μ ν).bind fun a7=>(if a7.2=0 then (if (-1) ≤ ξ then (some (decide (ξ ≤ 1))) else (some false)) else (some false))
theorem group_lift.mono:∀ B O a2 a3 L a5 X a7 a8 a9 Y Z γ ε δ ζ η J θ ι k,LeO (group_lift.f k B O a2 a3 L a5 X a7 a8 a9 Y Z γ ε δ ζ η J θ ι) (group_lift.f (k+1) B O a2 a3 L a5 X a7 a8 a9 Y Z γ ε δ ζ η J θ ι):=by
 intro B O a2 a3 L a5 X a7 a8 a9 Y Z γ ε δ ζ η J θ ι k
 unfold group_lift.f
 repeat' first
   |(with_reducible exact car_Rest.mono _ _ _ _ _ _ _ _ _ _ _ _ _ _ _ _ _ _)
   |(with_reducible exact LeO.refl _)
   |(with_reducible exact LeO.none _)
   |(with_reducible refine LeO.ite ?_ ?_)
   |(with_reducible refine LeO.bind ?_ (fun _=>?_))
   |exact car_Rest.mono _ _ _ _ _ _ _ _ _ _ _ _ _ _ _ _ _ _
   |exact LeO.none _
   |refine LeO.ite ?_ ?_
   |refine LeO.bind ?_ (fun _=>?_)
set_option maxHeartbeats 8000000 in
set_option maxRecDepth 100000 in
theorem group_lift.calls (k:Nat) (B:Int) (J:Int) (L:Int) (Y:Int) (Z:Int) (ε :Int) (γ:Int) (θ :Int) (ζ :Int) (η :Int) (O:Int) (X:Int) (δ :Int) (κ :Int) (ι :Int) (μ :Int) (ν :Int) (ξ :Int) (ψ :Bool) (ω :Bool) (r:Bool) (w:World) (h:group_lift.f k B J L Y Z ε γ θ ζ η O X δ κ ι μ ν ξ ψ ω = some r):
  Calls Try.prog 28 #[.agg #[.int .i64 B,.int .i64 J,.int .i64 L,.int .i64 Y,.int .i64 Z,.int .i64 ε,.int .i64 γ,.int .i64 θ,.int .i64 ζ,.int .i64 η],.agg #[.int .i64 O,.int .i64 X,.int .i64 δ,.int .i64 κ,.int .i64 ι,.int .i64 μ,.int .i64 ν,.int .i64 ξ,.bool ψ,.bool ω]] w fun e w'=>e = .returned (.bool r)∧Below w.heap.size w w':=by
 have cx:=Try.underlying25
 have i4:=Try.underlying31
 have iw:=Try.underlying29
 have HB:=Aside0.mk (Below.refl w.heap.size w)
 have H:((car_Rest.f k B J L Y Z ε γ θ ζ η O X δ κ ι μ ν).bind fun a7=>(if a7.2=0 then (if (-1) ≤ ξ then (some (decide (ξ ≤ 1))) else (some false)) else (some false)))=some r:=h
 clear h
 replace H:=Option.bind_eq_some_iff.mp H
 obtain⟨⟨a8,a1⟩,aa,H⟩:=H
 replace H:(if a1=0 then (if (-1) ≤ ξ then (some (decide (ξ ≤ 1))) else (some false)) else (some false))=some r:=H
 have A3:=Aside0.mk aa
 clear aa
 by_cases c4:a1=0
 ·rw[if_pos c4] at H
  have c4b0:(a1==0)=true:=beq_iff_eq.mpr c4
  have c4b1:(a1 != 0)=false:=bne_eq_false_iff_eq.mpr c4
  clear c4
  by_cases c5:(-1) ≤ ξ
  ·rw[if_pos c5] at H
   have c5b0:decide ((-1) ≤ ξ)=true:=decide_eq_true c5
   clear c5
   obtain rfl:=Option.some.inj H
   go_enter Try.func28,Try.ntmps28
   go_wp2_with (first|((with_reducible refine Qe (N:=2) rfl ?_);refine qE 2 #[.int .i64 B,.int .i64 J,.int .i64 L,.int .i64 Y,.int .i64 Z,.int .i64 ε,.int .i64 γ,.int .i64 θ,.int .i64 ζ,.int .i64 η] 25 ?_;intro ar hg w6 hbox hb;have ρ:=Aside0.mk hbox;have au:=sGe hg;have av:=sGe hg;replace HB:=sHb hb;clear hb hbox hg)|((with_reducible refine Qe (N:=3) rfl ?_);refine qE 3 #[.int .i64 O,.int .i64 X,.int .i64 δ,.int .i64 κ,.int .i64 ι,.int .i64 μ,.int .i64 ν,.int .i64 ξ,.bool ψ,.bool ω] 31 ?_;intro az hg w7 hbox hb;have σ:=Aside0.mk hbox;have b6:=sGe hg;have bg:=sGe hg;have χ :=sNl ρ hg;have a0:=sNg ρ hg;replace ρ:=sBk ρ hb;replace HB:=sHb hb;clear hb hbox hg;have d0:= χ.out;have d1:=a0.out;obtain⟨br,cp,cv,dj,dk,dl,du,dv,bi,bj,ct,cu,cw,dw,dz,eh,ej,en,bp,bq⟩:=Q5 ρ.out;obtain⟨ab,ai,aj,ah,ak,al,ao,a2,a6,bm,aw,ax,bd,ap,be,bk,bl,ed,gb,ge⟩:=Q5 σ.out)|((with_reducible refine Qd (f:=25) rfl ?_);refine Qn (some 11) rfl rfl Try.func25 kr rfl #[.agg #[.int .i64 B,.int .i64 J,.int .i64 L,.int .i64 Y,.int .i64 Z,.int .i64 ε,.int .i64 γ,.int .i64 θ,.int .i64 ζ,.int .i64 η],.agg #[.int .i64 O,.int .i64 X,.int .i64 δ,.int .i64 κ,.int .i64 ι,.int .i64 μ,.int .i64 ν]] rfl qM ?_;(with_reducible refine(car_Rest.calls k B J L Y Z ε γ θ ζ η O X δ κ ι μ ν a8 a1 _ A3.out).mono ?_);rintro e ez ⟨rfl,hb⟩;refine⟨_,rfl, ?_⟩;replace ρ:=sBk ρ hb;replace σ:=sBk σ hb;replace HB:=sHb hb;(try clear hb);(try clear a4);(try clear hk);(try clear hi);obtain⟨τ,φ,ae,dh,f7,f8,fa,a3,ac,b1,a5,a9,b8,fb,fc,fe,ff,b2,b3,gk⟩:=Q5 σ.out))
   go_ret
   exact⟨rfl,HB.out⟩
  ·rw[if_neg c5] at H
   have c5b0:decide ((-1) ≤ ξ)=false:=decide_eq_false c5
   clear c5
   obtain rfl:=Option.some.inj H
   go_enter Try.func28,Try.ntmps28
   go_wp2_with (first|((with_reducible refine Qe (N:=2) rfl ?_);refine qE 2 #[.int .i64 B,.int .i64 J,.int .i64 L,.int .i64 Y,.int .i64 Z,.int .i64 ε,.int .i64 γ,.int .i64 θ,.int .i64 ζ,.int .i64 η] 25 ?_;intro ar hg i3 hbox hb;have ρ:=Aside0.mk hbox;have au:=sGe hg;have av:=sGe hg;replace HB:=sHb hb;clear hb hbox hg)|((with_reducible refine Qe (N:=3) rfl ?_);refine qE 3 #[.int .i64 O,.int .i64 X,.int .i64 δ,.int .i64 κ,.int .i64 ι,.int .i64 μ,.int .i64 ν,.int .i64 ξ,.bool ψ,.bool ω] 31 ?_;intro az hg bh hbox hb;have σ:=Aside0.mk hbox;have b6:=sGe hg;have bg:=sGe hg;have χ :=sNl ρ hg;have a0:=sNg ρ hg;replace ρ:=sBk ρ hb;replace HB:=sHb hb;clear hb hbox hg;have fm:= χ.out;have fn:=a0.out;obtain⟨bw,bz,cq,bn,e7,e8,e9,fu,g6,g7,ca,cb,cr,ev,ew,fg,fh,fv,g8,ga⟩:=Q5 ρ.out;obtain⟨af,cd,bs,ag,bv,dd,df,b4,de,ei,ce,cf,bu,e0,ea,eb,ec,ek,el,em⟩:=Q5 σ.out)|((with_reducible refine Qd (f:=25) rfl ?_);refine Qn (some 11) rfl rfl Try.func25 kr rfl #[.agg #[.int .i64 B,.int .i64 J,.int .i64 L,.int .i64 Y,.int .i64 Z,.int .i64 ε,.int .i64 γ,.int .i64 θ,.int .i64 ζ,.int .i64 η],.agg #[.int .i64 O,.int .i64 X,.int .i64 δ,.int .i64 κ,.int .i64 ι,.int .i64 μ,.int .i64 ν]] rfl qM ?_;(with_reducible refine(car_Rest.calls k B J L Y Z ε γ θ ζ η O X δ κ ι μ ν a8 a1 _ A3.out).mono ?_);rintro e ha ⟨rfl,hb⟩;refine⟨_,rfl, ?_⟩;replace ρ:=sBk ρ hb;replace σ:=sBk σ hb;replace HB:=sHb hb;(try clear hb);(try clear a4);(try clear hk);(try clear hi);obtain⟨am,an,b5,cg,ch,ci,cj,dm,dn,dp,ay,b0,b7,ck,cm,cn,co,dq,dr,dt⟩:=Q5 σ.out))
   go_ret
   exact⟨rfl,HB.out⟩
 ·rw[if_neg c4] at H
  have c4b0:(a1==0)=false:=beq_eq_false_iff_ne.mpr c4
  have c4b1:(a1 != 0)=true:=bne_iff_ne.mpr c4
  obtain rfl:=Option.some.inj H
  go_enter Try.func28,Try.ntmps28
  go_wp2_with (first|((with_reducible refine Qe (N:=2) rfl ?_);refine qE 2 #[.int .i64 B,.int .i64 J,.int .i64 L,.int .i64 Y,.int .i64 Z,.int .i64 ε,.int .i64 γ,.int .i64 θ,.int .i64 ζ,.int .i64 η] 25 ?_;intro ar hg fr hbox hb;have ρ:=Aside0.mk hbox;have au:=sGe hg;have av:=sGe hg;replace HB:=sHb hb;clear hb hbox hg)|((with_reducible refine Qe (N:=3) rfl ?_);refine qE 3 #[.int .i64 O,.int .i64 X,.int .i64 δ,.int .i64 κ,.int .i64 ι,.int .i64 μ,.int .i64 ν,.int .i64 ξ,.bool ψ,.bool ω] 31 ?_;intro az hg bc hbox hb;have σ:=Aside0.mk hbox;have b6:=sGe hg;have bg:=sGe hg;have χ :=sNl ρ hg;have a0:=sNg ρ hg;replace ρ:=sBk ρ hb;replace HB:=sHb hb;clear hb hbox hg;have g9:= χ.out;have gt:=a0.out;obtain⟨cy,cz,di,et,eu,fo,fp,he,hh,hj,e3,e4,e5,hl,ho,hu,hx,js,k1,k3⟩:=Q5 ρ.out;obtain⟨b9,ba,bo,gz,h0,h4,h5,hy,i0,jj,bb,bf,d8,h6,h7,h8,h9,jk,jl,jm⟩:=Q5 σ.out)|((with_reducible refine Qd (f:=25) rfl ?_);refine Qn (some 11) rfl rfl Try.func25 kr rfl #[.agg #[.int .i64 B,.int .i64 J,.int .i64 L,.int .i64 Y,.int .i64 Z,.int .i64 ε,.int .i64 γ,.int .i64 θ,.int .i64 ζ,.int .i64 η],.agg #[.int .i64 O,.int .i64 X,.int .i64 δ,.int .i64 κ,.int .i64 ι,.int .i64 μ,.int .i64 ν]] rfl qM ?_;(with_reducible refine(car_Rest.calls k B J L Y Z ε γ θ ζ η O X δ κ ι μ ν a8 a1 _ A3.out).mono ?_);rintro e fq ⟨rfl,hb⟩;refine⟨_,rfl, ?_⟩;replace ρ:=sBk ρ hb;replace σ:=sBk σ hb;replace HB:=sHb hb;(try clear hb);(try clear a4);(try clear hk);(try clear hi)))
  go_ret
  exact⟨rfl,HB.out⟩
end Go.Proofs.Ytmfffemidlhcpaa.C
namespace Go.Proofs.Ytmfffemidlhcpaa.GrpPure
open Go.RowKit Go.Proofs.YtmfffemidlhcpaaW.PrintWords Go.Proofs.YtmfffemidlhcpaaW.PrintLast Go.Proofs.YtmfffemidlhcpaaW.PrintMore Go.Proofs.Ytmfffemidlhcpaa.C Go.Proofs.Ytmfffemidlhcpaa.DoorPure
abbrev Ze (F c0 c1 c2 c3 c4:Int):Prop:=
  (c2=0∧c1=0∧c3=0∧c4=0)∨(c2=1∧(c1=1∨c1 = -1)∧(0≤c0+c1∧c0+c1<F)∧(1≤c3∧c3≤60)∧c4=0)∨(c2=2∧c1=0∧(1≤c3∧c3≤60)∧c4=0)∨(c2=3∧c1=0∧c3=0∧c4≠0)
abbrev Je (F c0 c1 c2 c3 c4 c5 c6:Int):Prop:=((2≤F∧F≤64)∧(0≤c0∧c0<F)∧Xn c4 c5 c6)∧Ze F c0 c1 c2 c3 c4
theorem dT {p:Prop} (inst:Decidable p) (h:p): @decide p inst=true:=decide_eq_true h
theorem dF {p:Prop} (inst:Decidable p) (h:¬ p): @decide p inst=false:=decide_eq_false h
theorem J2 (n a b:Int):car_within.f n a b=some (decide (a≤n∧n≤b)):=by
  unfold car_within.f
  by_cases h:a≤n
  · rw[if_pos h];simp[h]
  · rw[if_neg h];simp[h]
theorem Gp (F c0 c1 c2 c3 c4 c5 c6:Int) (f:Nat):car_Check.j0 (f+1) F false c0 c1 c2 c3 c4 c5 c6=some 180:=by
  simp[car_Check.j0]
theorem Lz (F c0 c1 c2 c3 c4 c5 c6:Int) (f:Nat) (h:(2≤F∧F≤64)∧(0≤c0∧c0<F)):car_Check.j0 (f+1) F true c0 c1 c2 c3 c4 c5 c6=some (if Ze F c0 c1 c2 c3 c4 then 0 else 180):=by
  obtain⟨h1,L⟩:=h
  have e1:wrap64 (c0+1)=c0+1:=w64 (by omega)
  have e2:wrap64 (c0 + -1)=c0 + -1:=w64 (by omega)
  have Z:wrap64 (F-1)=F-1:=w64 (by omega)
  simp only[car_Check.j0,J2,Option.bind_some,if_true]
  by_cases B:c2=0
  · subst B
    rw[if_pos rfl]
    by_cases b1:c1=0 <;> by_cases b2:c3=0 <;> by_cases b3:c4=0 <;> simp[Ze,b1,b2,b3]
  · rw[if_neg B]
    by_cases O:c2=1
    · subst O
      rw[if_pos rfl]
      by_cases b1:c1=1
      · subst b1
        rw[if_pos rfl,e1,Z]
        by_cases b2:0≤c0+1∧c0+1≤F-1
        · rw[decide_eq_true b2,if_pos rfl]
          by_cases b3:1≤c3∧c3≤60
          · rw[decide_eq_true b3,if_pos rfl]
            by_cases J:c4=0
            · rw[if_pos J,if_pos (Or.inr (Or.inl ⟨rfl,Or.inl rfl,by omega,b3,J⟩))]
            · rw[if_neg J,if_neg (by unfold Ze;omega)]
          · rw[decide_eq_false b3,if_neg (by decide),if_neg (by unfold Ze;omega)]
        · rw[decide_eq_false b2,if_neg (by decide),if_neg (by unfold Ze;omega)]
      · rw[if_neg b1]
        by_cases X:c1 = -1
        · subst X
          rw[if_pos rfl,e2,Z]
          by_cases b2:0≤c0 + -1∧c0 + -1≤F-1
          · rw[decide_eq_true b2,if_pos rfl]
            by_cases b3:1≤c3∧c3≤60
            · rw[decide_eq_true b3,if_pos rfl]
              by_cases J:c4=0
              · rw[if_pos J,if_pos (Or.inr (Or.inl ⟨rfl,Or.inr rfl,by omega,b3,J⟩))]
              · rw[if_neg J,if_neg (by unfold Ze;omega)]
            · rw[decide_eq_false b3,if_neg (by decide),if_neg (by unfold Ze;omega)]
          · rw[decide_eq_false b2,if_neg (by decide),if_neg (by unfold Ze;omega)]
        · rw[if_neg X,if_neg (by unfold Ze;omega)]
    · rw[if_neg O]
      by_cases a2:c2=2
      · subst a2
        rw[if_pos rfl]
        by_cases b1:c1=0
        · rw[if_pos b1]
          by_cases b3:1≤c3∧c3≤60
          · rw[decide_eq_true b3,if_pos rfl]
            by_cases J:c4=0
            · rw[if_pos J,if_pos (Or.inr (Or.inr (Or.inl ⟨rfl,b1,b3,J⟩)))]
            · rw[if_neg J,if_neg (by unfold Ze;omega)]
          · rw[decide_eq_false b3,if_neg (by decide),if_neg (by unfold Ze;omega)]
        · rw[if_neg b1,if_neg (by unfold Ze;omega)]
      · rw[if_neg a2]
        by_cases a3:c2=3
        · subst a3
          rw[if_pos rfl]
          by_cases b1:c1=0 <;> by_cases b2:c3=0 <;> by_cases b3:c4=0 <;> simp[Ze,b1,b2,b3]
        · rw[if_neg a3,if_neg (by unfold Ze;omega)]
theorem Ux (F c0 c1 c2 c3 c4 c5 c6:Int) (f:Nat) (hf:2<f):car_Check.f f F c0 c1 c2 c3 c4 c5 c6=some (if Je F c0 c1 c2 c3 c4 c5 c6 then 0 else 180):=by
  obtain⟨f,rfl⟩:∃ m,f=m+1:=⟨f-1,by omega⟩
  unfold car_Check.f
  rw[J2,J2,Ym]
  simp only[Option.bind_some,Gp]
  by_cases h1:2≤F∧F≤64
  · rw[decide_eq_true h1,if_pos rfl,w64 (n:=F-1) (by omega)]
    by_cases L:0≤c0∧c0≤F-1
    · rw[decide_eq_true L,if_pos rfl]
      by_cases h3:Xn c4 c5 c6
      · rw[if_pos h3]
        show car_Check.j0 (f+1) F true c0 c1 c2 c3 c4 c5 c6=_
        rw[Lz _ _ _ _ _ _ _ _ _ ⟨h1,by omega⟩]
        by_cases Y:Ze F c0 c1 c2 c3 c4
        · rw[if_pos Y,if_pos ⟨⟨h1,by omega,h3⟩,Y⟩]
        · rw[if_neg Y,if_neg (fun h=>Y h.2)]
      · rw[if_neg h3]
        show car_Check.j0 (f+1) F false c0 c1 c2 c3 c4 c5 c6=_
        rw[Gp,if_neg (fun h=>h3 h.1.2.2)]
    · rw[decide_eq_false L,if_neg (by decide),if_neg (fun h=>L ⟨h.1.2.1.1,by have:=h.1.2.1.2;omega⟩)]
  · rw[decide_eq_false h1,if_neg (by decide),if_neg (fun h=>h1 h.1.1)]
theorem Ly (g0 g1 g2 Y g4 g5 Z g7 X g9 c0 c1 c2 c3 c4 c5 c6:Int) (f:Nat) (hf:10<f):car_check.f f g0 g1 g2 Y g4 g5 Z g7 X g9 c0 c1 c2 c3 c4 c5 c6=some (if Xp g0 g1 g2 Y g4 g5 Z g7 X g9∧Je g0 c0 c1 c2 c3 c4 c5 c6 then 0 else 180):=by
  unfold car_check.f
  rw[Wl _ _ _ _ _ _ _ _ _ _ _ _ _ f hf,Ux _ _ _ _ _ _ _ _ f (by omega)]
  simp only[Option.bind_some]
  by_cases h1:Xp g0 g1 g2 Y g4 g5 Z g7 X g9
  · have hz:Xp g0 g1 g2 Y g4 g5 Z g7 X g9∧Xn 0 0 0:=⟨h1,by unfold Xn;omega⟩
    rw[if_pos hz]
    simp only[if_true]
    by_cases L:Je g0 c0 c1 c2 c3 c4 c5 c6
    · rw[if_pos L,if_pos ⟨h1,L⟩]
    · rw[if_neg L,if_neg (fun h=>L h.2)]
  · have hz:¬ (Xp g0 g1 g2 Y g4 g5 Z g7 X g9∧Xn 0 0 0):=fun h=>h1 h.1
    have hy:¬ (Xp g0 g1 g2 Y g4 g5 Z g7 X g9∧Je g0 c0 c1 c2 c3 c4 c5 c6):=fun h=>h1 h.1
    rw[if_neg hz,if_neg hy]
    simp only
    rw[if_neg (by decide)]
def Yd (Y Z X g9 c2 c3 c4 c5 c6:Int):Int:=c3+(if c2=2 then Ji Y Z X g9 1 Y 0 else Ji Y Z X g9 c4 c5 c6)
theorem Ui (g0 g1 g2 Y g4 g5 Z g7 X g9 d0 d1 d2:Int) (hg:Xp g0 g1 g2 Y g4 g5 Z g7 X g9) (hd:Xn d0 d1 d2):0≤Ji Y Z X g9 d0 d1 d2∧Ji Y Z X g9 d0 d1 d2≤26000:=by
  obtain⟨-,B,J⟩:=Gb _ _ _ _ _ _ _ _ _ _ _ _ _ hg hd
  have O:1≤Y∧Y≤60:=hg.1.1.2.2.1
  have a2:1≤Z∧Z≤60:=hg.1.1.2.2.2.2.2
  have a3:1≤X∧X≤300:=hg.2.2.1
  unfold Ji
  generalize(if d2<g9 then (g9-d2) * (Y+X+Z) else 0)=p at B J ⊢
  split
  · omega
  · split
    · omega
    · split <;> omega
theorem Kt (g0 g1 g2 Y g4 g5 Z g7 X g9 c0 c1 c2 c3 c4 c5 c6:Int) (hg:Xp g0 g1 g2 Y g4 g5 Z g7 X g9) (hc:Je g0 c0 c1 c2 c3 c4 c5 c6):0≤Yd Y Z X g9 c2 c3 c4 c5 c6∧Yd Y Z X g9 c2 c3 c4 c5 c6≤26060:=by
  have O:1≤Y∧Y≤60:=hg.1.1.2.2.1
  have b1:=Ui _ _ _ _ _ _ _ _ _ _ 1 Y 0 hg (by unfold Xn;omega)
  have b2:=Ui _ _ _ _ _ _ _ _ _ _ _ _ _ hg hc.1.2.2
  have b3:0≤c3∧c3≤60:=by have:=hc.2;unfold Ze at this;omega
  unfold Yd
  split <;> omega
theorem Gn (g0 g1 g2 Y g4 g5 Z g7 X g9 c0 c1 c2 c3 c4 c5 c6:Int) (f:Nat) (hf:10<f):car_Rest.f f g0 g1 g2 Y g4 g5 Z g7 X g9 c0 c1 c2 c3 c4 c5 c6=some (if Xp g0 g1 g2 Y g4 g5 Z g7 X g9∧Je g0 c0 c1 c2 c3 c4 c5 c6 then (Yd Y Z X g9 c2 c3 c4 c5 c6,0) else (0,180)):=by
  unfold car_Rest.f
  rw[Ly _ _ _ _ _ _ _ _ _ _ _ _ _ _ _ _ _ f hf,E2 _ _ _ _ _ _ _ _ _ _ f hf]
  simp only[Option.bind_some,Wl _ _ _ _ _ _ _ _ _ _ _ _ _ f hf]
  by_cases h:Xp g0 g1 g2 Y g4 g5 Z g7 X g9∧Je g0 c0 c1 c2 c3 c4 c5 c6
  · rw[if_pos h,if_pos rfl,if_pos h]
    have hb:=Kt _ _ _ _ _ _ _ _ _ _ _ _ _ _ _ _ _ h.1 h.2
    have O:1≤Y∧Y≤60:=h.1.1.1.2.2.1
    unfold Yd at hb ⊢
    by_cases e:c2=2
    · have B:c4=0:=by have:=h.2.2;unfold Ze at this;omega
      have hd:Xn 1 Y 0:=by unfold Xn;omega
      have ht:Y2 g1 g2 Y g4 g5 Z g7∧Xn c4 c5 c6:=⟨h.1.1,h.2.1.2.2⟩
      have hy:Xp g0 g1 g2 Y g4 g5 Z g7 X g9∧Xn 1 Y 0:=⟨h.1,hd⟩
      rw[if_pos e] at hb
      simp only[if_pos e,if_pos ht,if_pos B,if_pos hy]
      rw[w64 (by omega)]
    · have hy:Xp g0 g1 g2 Y g4 g5 Z g7 X g9∧Xn c4 c5 c6:=⟨h.1,h.2.1.2.2⟩
      rw[if_neg e] at hb
      simp only[if_neg e,if_pos hy]
      rw[w64 (by omega)]
  · rw[if_neg h,if_neg (by decide),if_neg h]
abbrev Kb (g0 g1 g2 Y g4 g5 Z g7 X g9 c0 c1 c2 c3 c4 c5 c6 l7:Int):Prop:=(Xp g0 g1 g2 Y g4 g5 Z g7 X g9∧Je g0 c0 c1 c2 c3 c4 c5 c6) ∧ -1≤l7∧l7≤1
theorem Nx (g0 g1 g2 Y g4 g5 Z g7 X g9 c0 c1 c2 c3 c4 c5 c6 l7:Int) (l8 l9:Bool) (f:Nat) (hf:10<f):group_lift.f f g0 g1 g2 Y g4 g5 Z g7 X g9 c0 c1 c2 c3 c4 c5 c6 l7 l8 l9=some (decide (Kb g0 g1 g2 Y g4 g5 Z g7 X g9 c0 c1 c2 c3 c4 c5 c6 l7)):=by
  unfold group_lift.f
  rw[Gn _ _ _ _ _ _ _ _ _ _ _ _ _ _ _ _ _ f hf]
  simp only[Option.bind_some]
  by_cases h:Xp g0 g1 g2 Y g4 g5 Z g7 X g9∧Je g0 c0 c1 c2 c3 c4 c5 c6
  · rw[if_pos h]
    simp only[if_true]
    by_cases e: -1≤l7
    · rw[if_pos e];congr 1;rw[decide_eq_decide];exact⟨fun x=>⟨h,e,x⟩,fun x=>x.2.2⟩
    · rw[if_neg e,decide_eq_false (fun x=>e x.2.1)]
  · rw[if_neg h,if_neg (by decide),decide_eq_false (fun x=>h x.1)]
theorem Nh (F c0 c1 c2 c3 c4 c5 c6:Int) (f:Nat) (hf:4<f):newelref18_May.f f F c0 c1 c2 c3 c4 c5 c6=some (decide (Je F c0 c1 c2 c3 c4 c5 c6)):=by
  obtain⟨f,rfl⟩:∃ m,f=m+2:=⟨f-2,by omega⟩
  unfold newelref18_May.f
  rw[Ex _ _ _ _ (by omega)]
  simp only[Option.bind_some,newelref18_May.j0,if_true]
  by_cases h1:2≤F∧F≤64
  · rw[if_neg (by omega),if_neg (by omega)]
    by_cases L:0≤c0∧c0<F
    · rw[if_neg (by omega),if_neg (by omega)]
      by_cases h3:Xn c4 c5 c6
      · rw[decide_eq_true h3,if_neg (by decide)]
        have e:∀ b:Bool,b=decide (1≤c3∧c3≤60)→newelref18_May.j1 (f+1) F (c4==0) b c0 c1 c2 c3 c4 c5 c6=some (decide (Je F c0 c1 c2 c3 c4 c5 c6)):=by
          intro b hb
          have hc:Je F c0 c1 c2 c3 c4 c5 c6↔Ze F c0 c1 c2 c3 c4:=⟨fun h=>h.2,fun h=>⟨⟨h1,L,h3⟩,h⟩⟩
          rw[show decide (Je F c0 c1 c2 c3 c4 c5 c6)=decide (Ze F c0 c1 c2 c3 c4) from decide_eq_decide.2 hc]
          simp only[newelref18_May.j1,w64 (n:=c0+1) (by omega)]
          by_cases B:c2=0
          · subst B
            rw[if_pos rfl]
            by_cases b1:c1=0 <;> by_cases b2:c3=0 <;> by_cases b3:c4=0 <;> simp[Ze,b1,b2,b3]
          · rw[if_neg B]
            by_cases O:c2=1
            · subst O
              rw[if_pos rfl]
              by_cases b1:c1=1
              · subst b1
                rw[if_pos rfl,if_neg (by decide)]
                by_cases b2:c0+1<F
                · rw[if_pos b2]
                  by_cases b3:1≤c3∧c3≤60
                  · rw[hb,decide_eq_true b3,if_pos rfl]
                    by_cases J:c4=0
                    · rw[dT _ (show Ze F c0 1 1 c3 c4 from Or.inr (Or.inl ⟨rfl,Or.inl rfl,by omega,b3,J⟩)),J];rfl
                    · rw[beq_false_of_ne J,dF _ (show ¬ Ze F c0 1 1 c3 c4 by unfold Ze;omega)]
                  · rw[hb,decide_eq_false b3,if_neg (by decide),dF _ (by unfold Ze;omega)]
                · rw[if_neg b2,dF _ (by unfold Ze;omega)]
              · rw[if_neg b1]
                by_cases X:c1 = -1
                · subst X
                  rw[if_pos rfl]
                  by_cases b2:c0>0
                  · rw[if_pos b2]
                    by_cases b3:1≤c3∧c3≤60
                    · rw[hb,decide_eq_true b3,if_pos rfl]
                      by_cases J:c4=0
                      · rw[dT _ (show Ze F c0 (-1) 1 c3 c4 from Or.inr (Or.inl ⟨rfl,Or.inr rfl,by omega,b3,J⟩)),J];rfl
                      · rw[dF _ (by unfold Ze;omega),beq_false_of_ne J]
                    · rw[hb,decide_eq_false b3,if_neg (by decide),dF _ (by unfold Ze;omega)]
                  · rw[if_neg b2,dF _ (by unfold Ze;omega)]
                · rw[if_neg X,dF _ (by unfold Ze;omega)]
            · rw[if_neg O]
              by_cases a2:c2=2
              · subst a2
                rw[if_pos rfl]
                by_cases b1:c1=0
                · rw[if_pos b1]
                  by_cases b3:1≤c3∧c3≤60
                  · rw[hb,decide_eq_true b3,if_pos rfl]
                    by_cases J:c4=0
                    · rw[dT _ (show Ze F c0 c1 2 c3 c4 from Or.inr (Or.inr (Or.inl ⟨rfl,b1,b3,J⟩))),J];rfl
                    · rw[dF _ (by unfold Ze;omega),beq_false_of_ne J]
                  · rw[hb,decide_eq_false b3,if_neg (by decide),dF _ (by unfold Ze;omega)]
                · rw[if_neg b1,dF _ (by unfold Ze;omega)]
              · rw[if_neg a2]
                by_cases a3:c2=3
                · subst a3
                  rw[if_pos rfl]
                  by_cases b1:c1=0 <;> by_cases b2:c3=0 <;> by_cases b3:c4=0 <;> simp[Ze,b1,b2,b3]
                · rw[if_neg a3,dF _ (by unfold Ze;omega)]
        by_cases Y:c3≥1
        · rw[if_pos Y];exact e _ (by rw[decide_eq_decide];omega)
        · rw[if_neg Y];exact e _ (by rw[decide_eq_false (by omega)])
      · rw[decide_eq_false h3]
        rw[show(!false)=true from rfl,if_pos rfl,decide_eq_false (fun h=>h3 h.1.2.2)]
    · rw[decide_eq_false (fun h:Je F c0 c1 c2 c3 c4 c5 c6=>L h.1.2.1)]
      by_cases h:c0<0
      · rw[if_pos h]
      · rw[if_neg h,if_pos (by omega)]
  · rw[decide_eq_false (fun h:Je F c0 c1 c2 c3 c4 c5 c6=>h1 h.1.1)]
    by_cases h:F<2
    · rw[if_pos h]
    · rw[if_neg h,if_pos (by omega)]
theorem Mc (g0 g1 g2 Y g4 g5 Z g7 X g9 c0 c1 c2 c3 c4 c5 c6 l7:Int) (l8 l9:Bool) (f:Nat) (hf:4<f):newelref21_Lift.f f g0 g1 g2 Y g4 g5 Z g7 X g9 c0 c1 c2 c3 c4 c5 c6 l7 l8 l9=some (decide (Kb g0 g1 g2 Y g4 g5 Z g7 X g9 c0 c1 c2 c3 c4 c5 c6 l7)):=by
  unfold newelref21_Lift.f
  rw[Md,Nh _ _ _ _ _ _ _ _ f hf]
  simp only[Option.bind_some]
  by_cases h1:Xp g0 g1 g2 Y g4 g5 Z g7 X g9
  · rw[decide_eq_true h1,if_pos rfl]
    by_cases L:Je g0 c0 c1 c2 c3 c4 c5 c6
    · rw[decide_eq_true L,if_pos rfl]
      by_cases e:l7 ≥ -1
      · rw[if_pos e];congr 1;rw[decide_eq_decide];exact⟨fun x=>⟨⟨h1,L⟩,e,x⟩,fun x=>x.2.2⟩
      · rw[if_neg e,decide_eq_false (fun x=>e x.2.1)]
    · rw[decide_eq_false L,if_neg (by decide),decide_eq_false (fun x=>L x.1.2)]
  · rw[decide_eq_false h1,if_neg (by decide),decide_eq_false (fun x=>h1 x.1.1)]
theorem Um (g0 g1 g2 Y g4 g5 Z g7 X g9 c0 c1 c2 c3 c4 c5 c6:Int) (hg:Xp g0 g1 g2 Y g4 g5 Z g7 X g9) (hc:Je g0 c0 c1 c2 c3 c4 c5 c6) (f:Nat) (hf:10<f):newelref18_Rest.f f g0 g1 g2 Y g4 g5 Z g7 X g9 c0 c1 c2 c3 c4 c5 c6=some (Yd Y Z X g9 c2 c3 c4 c5 c6):=by
  have hb:=Kt _ _ _ _ _ _ _ _ _ _ _ _ _ _ _ _ _ hg hc
  have O:1≤Y∧Y≤60:=hg.1.1.2.2.1
  have hp:=hc.2
  unfold newelref18_Rest.f
  rw[Ua _ _ _ _ _ _ _ _ _ _ 1 Y 0 hg (by unfold Xn;omega) f (by omega),Ua _ _ _ _ _ _ _ _ _ _ _ _ _ hg hc.1.2.2 f (by omega)]
  simp only[Option.bind_some]
  unfold Yd at hb ⊢
  by_cases e1:c2=1
  · rw[if_pos e1,if_neg (by omega)]
    have:c4=0:=by unfold Ze at hp;omega
    rw[this,show Ji Y Z X g9 0 c5 c6=0 from by unfold Ji;rw[if_pos rfl],Int.add_zero]
  · rw[if_neg e1]
    by_cases e2:c2=2
    · rw[if_pos e2] at hb
      rw[if_pos e2,if_pos e2,w64 (by omega)]
    · rw[if_neg e2,if_neg e2]
      have:c3=0:=by unfold Ze at hp;omega
      rw[this,Int.zero_add]
end Go.Proofs.Ytmfffemidlhcpaa.GrpPure
namespace Go.Proofs.Ytmfffemidlhcpaa.C
open Go.RowKit Go.Proofs.YtmfffemidlhcpaaW.PrintWords Go.Proofs.YtmfffemidlhcpaaW.PrintLast Go.Proofs.YtmfffemidlhcpaaW.PrintMore
attribute [local go_sem] Zz Zx Z9 Z8 Zq Zp Zy Zw
set_option linter.unusedVariables false
set_option linter.unusedSimpArgs false
def group_cost.f (k:Nat) (B:Int) (J:Int) (L:Int) (Y:Int) (Z:Int) (ε :Int) (γ:Int) (θ :Int) (ζ :Int) (η :Int) (O:Int) (X:Int) (δ :Int) (κ :Int) (ι :Int) (μ :Int) (ν :Int) (ξ :Int) (ψ :Bool) (ω :Bool) (σ:List Int) (τ :List Int) (φ :List Int) (a2:Int) (a5:Int) (a6:Int):Option (Int):=(car_Rest.f k B J L Y Z ε γ θ ζ η O X δ κ ι μ ν).bind fun ae=>((group_way.f k B O X δ κ ι μ ν ξ ψ ω a2 a5 a6).bind fun a8=>(some (wrap64 ((wrap64 (ae.1+(wrap64 (J * a8))))+(wrap64 ((wrap64 ((wrap64 ((wrap64 (L+Y)) + ζ))+γ)) * (wrap64 ((wrap64 ((σ.length:Int)+(τ.length:Int)))+(φ.length:Int)))))))))
theorem group_cost.mono:∀ B O a2 a3 L a5 X a7 a8 a9 Y Z γ ε δ ζ η J θ ι κ μ ν ξ ρ σ k,LeO (group_cost.f k B O a2 a3 L a5 X a7 a8 a9 Y Z γ ε δ ζ η J θ ι κ μ ν ξ ρ σ) (group_cost.f (k+1) B O a2 a3 L a5 X a7 a8 a9 Y Z γ ε δ ζ η J θ ι κ μ ν ξ ρ σ):=by
 intro B O a2 a3 L a5 X a7 a8 a9 Y Z γ ε δ ζ η J θ ι κ μ ν ξ ρ σ k
 unfold group_cost.f
 repeat' first
   |(with_reducible exact car_Rest.mono _ _ _ _ _ _ _ _ _ _ _ _ _ _ _ _ _ _)
   |(with_reducible exact group_way.mono _ _ _ _ _ _ _ _ _ _ _ _ _ _ _)
   |(with_reducible exact LeO.refl _)
   |(with_reducible exact LeO.none _)
   |(with_reducible refine LeO.ite ?_ ?_)
   |(with_reducible refine LeO.bind ?_ (fun _=>?_))
   |exact car_Rest.mono _ _ _ _ _ _ _ _ _ _ _ _ _ _ _ _ _ _
   |exact group_way.mono _ _ _ _ _ _ _ _ _ _ _ _ _ _ _
   |exact LeO.none _
   |refine LeO.ite ?_ ?_
   |refine LeO.bind ?_ (fun _=>?_)
def group_cost.T3:Bool×List (List Nat×List Nat):=(true,[([],[]),([],[]),([1],[1]),([2],[2]),([],[]),([4],[4]),([],[]),([],[]),([5,6,7],[5,6,7]),([3,8],[3,8]),([0,9],[0,9]),([],[]),([],[]),([12],[12]),([13],[13]),([],[]),([15],[15]),([16],[16]),([14,17],[14,17]),([],[]),([19],[19]),([20],[20]),([18,21],[18,21]),([11,22],[11,22]),([10,23],[10,23]),([24,8,0,1,2,3,4,5,6,7,8,9,10,11,12,13,14,15,16,17,18,19,20,21,22,23,24],[24])])
def group_cost.B3:List Nat:=[0,0,2,6,0,16,0,0,240,510,1023,0,0,4096,12288,0,32768,98304,258048,0,524288,1572864,4190208,8386560,16777215,33554431]
theorem group_cost.tab3:rtab .any (opsOf Try.f31 3)=group_cost.T3:=by kernel_rfl
theorem group_cost.bits3:Zr group_cost.T3.2 group_cost.B3=true:=by kernel_rfl
set_option maxHeartbeats 8000000 in
set_option maxRecDepth 100000 in
theorem group_cost.calls (k:Nat) (B:Int) (J:Int) (L:Int) (Y:Int) (Z:Int) (ε :Int) (γ:Int) (θ :Int) (ζ :Int) (η :Int) (O:Int) (X:Int) (δ :Int) (κ :Int) (ι :Int) (μ :Int) (ν :Int) (ξ :Int) (ψ :Bool) (ω :Bool) (a9:Option Addr) (aa:Nat) (σ:List Int) (ab:Option Addr) (ac:Nat) (τ :List Int) (ai:Option Addr) (aj:Nat) (φ :List Int) (a2:Int) (a5:Int) (a6:Int) (r:Int) (w:World) (cb:Kd.C (Kd.int .i64) w a9 σ.length σ) (cp:σ.length≤aa) (cq:Kd.C (Kd.int .i64) w ab τ.length τ) (cr: τ.length≤ac) (e3:Kd.C (Kd.int .i64) w ai φ.length φ) (e4: φ.length≤aj) (h:group_cost.f k B J L Y Z ε γ θ ζ η O X δ κ ι μ ν ξ ψ ω σ τ φ a2 a5 a6=some r):
  Calls Try.prog 31 #[.agg #[.int .i64 B,.int .i64 J,.int .i64 L,.int .i64 Y,.int .i64 Z,.int .i64 ε,.int .i64 γ,.int .i64 θ,.int .i64 ζ,.int .i64 η],.agg #[.int .i64 O,.int .i64 X,.int .i64 δ,.int .i64 κ,.int .i64 ι,.int .i64 μ,.int .i64 ν,.int .i64 ξ,.bool ψ,.bool ω],.agg #[.slice a9 σ.length aa,.slice ab τ.length ac,.slice ai φ.length aj],.agg #[.int .i64 a2,.int .i64 a5,.int .i64 a6]] w fun e w'=>e = .returned (.int .i64 r)∧Below w.heap.size w w':=by
 have cx:=Try.underlying25
 have i4:=Try.underlying31
 have f7:=Try.underlying34
 have dh:=Try.underlying36
 have iw:=Try.underlying29
 have b8:=Aside0.mk cb
 have bn:=Aside0.mk cp
 clear cb cp
 have bw:=Aside0.mk cq
 have bz:=Aside0.mk cr
 clear cq cr
 have cy:=Aside0.mk e3
 have cz:=Aside0.mk e4
 clear e3 e4
 have HB:=Aside0.mk (Below.refl w.heap.size w)
 have H:((car_Rest.f k B J L Y Z ε γ θ ζ η O X δ κ ι μ ν).bind fun ae=>((group_way.f k B O X δ κ ι μ ν ξ ψ ω a2 a5 a6).bind fun a8=>(some (wrap64 ((wrap64 (ae.1+(wrap64 (J * a8))))+(wrap64 ((wrap64 ((wrap64 ((wrap64 (L+Y)) + ζ))+γ)) * (wrap64 ((wrap64 ((σ.length:Int)+(τ.length:Int)))+(φ.length:Int))))))))))=some r:=h
 clear h
 replace H:=Option.bind_eq_some_iff.mp H
 obtain⟨⟨b6,bb⟩,b3,H⟩:=H
 replace H:((group_way.f k B O X δ κ ι μ ν ξ ψ ω a2 a5 a6).bind fun a8=>(some (wrap64 ((wrap64 (b6+(wrap64 (J * a8))))+(wrap64 ((wrap64 ((wrap64 ((wrap64 (L+Y)) + ζ))+γ)) * (wrap64 ((wrap64 ((σ.length:Int)+(τ.length:Int)))+(φ.length:Int)))))))))=some r:=H
 have A5:=Aside0.mk b3
 clear b3
 replace H:=Option.bind_eq_some_iff.mp H
 obtain⟨a8,az,H⟩:=H
 replace H:(some (wrap64 ((wrap64 (b6+(wrap64 (J * a8))))+(wrap64 ((wrap64 ((wrap64 ((wrap64 (L+Y)) + ζ))+γ)) * (wrap64 ((wrap64 ((σ.length:Int)+(τ.length:Int)))+(φ.length:Int))))))))=some r:=H
 have A6:=Aside0.mk az
 clear az
 obtain rfl:=Option.some.inj H
 go_enter Try.func31,Try.ntmps31
 try go_wp2_with (first|((with_reducible refine Qe (N:=4) rfl ?_);refine qE 4 #[.int .i64 B,.int .i64 J,.int .i64 L,.int .i64 Y,.int .i64 Z,.int .i64 ε,.int .i64 γ,.int .i64 θ,.int .i64 ζ,.int .i64 η] 25 ?_;intro a3 hg w7 hbox hb;have ρ:=Aside0.mk hbox;have bd:=sGe hg;have be:=sGe hg;replace HB:=sHb hb;clear hb hbox hg)|((with_reducible refine Qe (N:=5) rfl ?_);refine qE 5 #[.int .i64 O,.int .i64 X,.int .i64 δ,.int .i64 κ,.int .i64 ι,.int .i64 μ,.int .i64 ν,.int .i64 ξ,.bool ψ,.bool ω] 31 ?_;intro a7 hg w8 hbox hb;have χ :=Aside0.mk hbox;have bf:=sGe hg;have bk:=sGe hg;have al:=sNl ρ hg;have ao:=sNg ρ hg;replace ρ:=sBk ρ hb;replace HB:=sHb hb;clear hb hbox hg)|((with_reducible refine Qe (N:=6) rfl ?_);refine qE 6 #[.slice a9 σ.length aa,.slice ab τ.length ac,.slice ai φ.length aj] 34 ?_;intro ah hg w9 hbox hb;have a0:=Aside0.mk hbox;have bl:=sGe hg;have bm:=sGe hg;have ap:=sNl ρ hg;have ar:=sNg ρ hg;have au:=sNl χ hg;have av:=sNg χ hg;replace ρ:=sBk ρ hb;replace χ :=sBk χ hb;replace HB:=sHb hb;clear hb hbox hg)|((with_reducible refine Qe (N:=7) rfl ?_);refine qE 7 #[.int .i64 a2,.int .i64 a5,.int .i64 a6] 36 ?_;intro ak hg fg hbox hb;have a1:=Aside0.mk hbox;have bo:=sGe hg;have br:=sGe hg;have aw:=sNl ρ hg;have ax:=sNg ρ hg;have b1:=sNl χ hg;have b2:=sNg χ hg;have b9:=sNl a0 hg;have ba:=sNg a0 hg;replace ρ:=sBk ρ hb;replace χ :=sBk χ hb;replace a0:=sBk a0 hb;replace HB:=sHb hb;clear hb hbox hg;have ga:=al.out;have gb:=ao.out;have fe:=ap.out;have ff:=ar.out;have ip:=aw.out;have iq:=ax.out;obtain⟨bg,bh,bp,d0,d1,d2,d3,eg,gl,gm,bi,bj,bq,d4,d5,d6,d7,ft,gn,gp⟩:=Q5 ρ.out;have fm:=au.out;have fn:=av.out;have jb:=b1.out;have jc:=b2.out;obtain⟨af,cd,bs,ag,bv,dd,df,b4,de,ei,ce,cf,bu,e0,ea,eb,ec,ek,el,em⟩:=Q5 χ.out)|((with_reducible refine Qd (f:=25) rfl ?_);refine Qn (some 16) rfl rfl Try.func25 kr rfl #[.agg #[.int .i64 B,.int .i64 J,.int .i64 L,.int .i64 Y,.int .i64 Z,.int .i64 ε,.int .i64 γ,.int .i64 θ,.int .i64 ζ,.int .i64 η],.agg #[.int .i64 O,.int .i64 X,.int .i64 δ,.int .i64 κ,.int .i64 ι,.int .i64 μ,.int .i64 ν]] rfl qM ?_;(with_reducible refine(car_Rest.calls k B J L Y Z ε γ θ ζ η O X δ κ ι μ ν b6 bb _ A5.out).mono ?_);rintro e ha ⟨rfl,hb⟩;refine⟨_,rfl, ?_⟩;replace ρ:=sBk ρ hb;replace χ :=sBk χ hb;replace a0:=sBk a0 hb;replace a1:=sBk a1 hb;replace HB:=sHb hb;(try clear hb);(try clear a4);(try clear hk);(try clear hi);obtain⟨am,an,b5,cg,ch,ci,cj,dm,dn,dp,ay,b0,b7,ck,cm,cn,co,dq,dr,dt⟩:=Q5 ρ.out))
 replace ρ:=Aside0.mk (Qf ρ.out)
 replace χ :=Aside0.mk (Qf χ.out)
 replace a0:=Aside0.mk (Qf a0.out)
 replace a1:=Aside0.mk (Qf a1.out)
 replace HB:=Aside0.mk (Qi HB.out)
 refine Zl (n:=26) (S:=fun w'=>w'.cell? ⟨a3,0,none⟩=some (.int .i64 B)∧w'.cell? ⟨a3,1,none⟩=some (.int .i64 J)∧w'.cell? ⟨a3,2,none⟩=some (.int .i64 L)∧w'.cell? ⟨a3,3,none⟩=some (.int .i64 Y)∧w'.cell? ⟨a3,4,none⟩=some (.int .i64 Z)∧w'.cell? ⟨a3,5,none⟩=some (.int .i64 ε)∧w'.cell? ⟨a3,6,none⟩=some (.int .i64 γ)∧w'.cell? ⟨a3,7,none⟩=some (.int .i64 θ)∧w'.cell? ⟨a3,8,none⟩=some (.int .i64 ζ)∧w'.cell? ⟨a3,9,none⟩=some (.int .i64 η)∧w'.cell? ⟨a7,0,none⟩=some (.int .i64 O)∧w'.cell? ⟨a7,1,none⟩=some (.int .i64 X)∧w'.cell? ⟨a7,2,none⟩=some (.int .i64 δ)∧w'.cell? ⟨a7,3,none⟩=some (.int .i64 κ)∧w'.cell? ⟨a7,4,none⟩=some (.int .i64 ι)∧w'.cell? ⟨a7,5,none⟩=some (.int .i64 μ)∧w'.cell? ⟨a7,6,none⟩=some (.int .i64 ν)∧w'.cell? ⟨a7,7,none⟩=some (.int .i64 ξ)∧w'.cell? ⟨a7,8,none⟩=some (.bool ψ)∧w'.cell? ⟨a7,9,none⟩=some (.bool ω)∧w'.cell? ⟨ak,0,none⟩=some (.int .i64 a2)∧w'.cell? ⟨ak,1,none⟩=some (.int .i64 a5)∧w'.cell? ⟨ak,2,none⟩=some (.int .i64 a6)∧w'.cell? ⟨ah,0,none⟩=some (.slice a9 σ.length aa)∧w'.cell? ⟨ah,1,none⟩=some (.slice ab τ.length ac)∧w'.cell? ⟨ah,2,none⟩=some (.slice ai φ.length aj)) (ds:=[]) #[false,false,false,false,false,false,false,false,false,false,false,false,false,false,false,false,false,false,false,false,false,false,false,false,false,false] kr rfl rfl ⟨(Qa ρ.out 0).trans rfl,(Qa ρ.out 1).trans rfl,(Qa ρ.out 2).trans rfl,(Qa ρ.out 3).trans rfl,(Qa ρ.out 4).trans rfl,(Qa ρ.out 5).trans rfl,(Qa ρ.out 6).trans rfl,(Qa ρ.out 7).trans rfl,(Qa ρ.out 8).trans rfl,(Qa ρ.out 9).trans rfl,(Qa χ.out 0).trans rfl,(Qa χ.out 1).trans rfl,(Qa χ.out 2).trans rfl,(Qa χ.out 3).trans rfl,(Qa χ.out 4).trans rfl,(Qa χ.out 5).trans rfl,(Qa χ.out 6).trans rfl,(Qa χ.out 7).trans rfl,(Qa χ.out 8).trans rfl,(Qa χ.out 9).trans rfl,(Qa a1.out 0).trans rfl,(Qa a1.out 1).trans rfl,(Qa a1.out 2).trans rfl,(Qa a0.out 0).trans rfl,(Qa a0.out 1).trans rfl,(Qa a0.out 2).trans rfl⟩ (fun hHeld=>?_);refine Q8 group_cost.tab3 group_cost.bits3 (fun HT_ HW_=>?_)
 generalize ha.drew=fr at ρ χ a0 a1 HB hHeld ⊢
 refine qP 0 (some 33) (bN 26 1) HT_ ?_
 refine qP 1 (some 34) (bN 26 3) HT_ ?_
 refine qP 2 (some 35) (bN 26 7) HT_ ?_
 refine qP 4 (some 37) (bN 26 23) HT_ ?_
 refine qP 11 (some 44) (bN 26 2071) HT_ ?_
 refine qP 12 (some 45) (bN 26 6167) HT_ ?_
 refine qP 15 (some 48) (bN 26 38935) HT_ ?_
 refine qP 19 (some 52) (bN 26 563223) HT_ ?_
 refine qT 3 (some 36) (bN 26 563231) HT_ HW_ hHeld ?_
 refine qT 5 (some 38) (bN 26 563263) HT_ HW_ hHeld ?_
 refine qT 6 (some 39) (bN 26 563327) HT_ HW_ hHeld ?_
 refine qT 7 (some 40) (bN 26 563455) HT_ HW_ hHeld ?_
 refine qT 13 (some 46) (bN 26 571647) HT_ HW_ hHeld ?_
 refine qP 14 (some 47) (bN 26 588031) HT_ ?_
 refine qT 16 (some 49) (bN 26 653567) HT_ HW_ hHeld ?_
 refine qP 17 (some 50) (bN 26 784639) HT_ ?_
 refine qP 18 (some 51) (bN 26 1046783) HT_ ?_
 refine qT 20 (some 53) (bN 26 2095359) HT_ HW_ hHeld ?_
 refine qP 21 (some 54) (bN 26 4192511) HT_ ?_
 refine qP 22 (some 55) (bN 26 8386815) HT_ ?_
 refine qP 23 (some 56) (bN 26 16775423) HT_ ?_
 refine Zg (i:=8) (N:=some 41) (bN 26 16775679) rfl rfl (Q4 HT_.out kr) (by decide) (fun K hK=>?_)
 refine Zf Try.func52 kr rfl #[.int .i64 B,.agg #[.int .i64 O,.int .i64 X,.int .i64 δ,.int .i64 κ,.int .i64 ι,.int .i64 μ,.int .i64 ν,.int .i64 ξ,.bool ψ,.bool ω],.agg #[.int .i64 a2,.int .i64 a5,.int .i64 a6]] (by rfl) rfl rfl qM ?_
 with_reducible refine(group_way.calls k B O X δ κ ι μ ν ξ ψ ω a2 a5 a6 a8 _ A6.out).mono ?_
 rintro e bc ⟨rfl,hb⟩
 refine⟨_,rfl, ?_⟩
 replace ρ:=sBk ρ hb
 replace χ :=sBk χ hb
 replace a0:=sBk a0 hb
 replace a1:=sBk a1 hb
 replace HB:=sHb hb
 (try clear hb)
 (try clear a4)
 (try clear hk)
 (try clear hi)
 refine hK.out _ _ ⟨qc ρ,qc ρ,qc ρ,qc ρ,qc ρ,qc ρ,qc ρ,qc ρ,qc ρ,qc ρ,qc χ,qc χ,qc χ,qc χ,qc χ,qc χ,qc χ,qc χ,qc χ,qc χ,qc a1,qc a1,qc a1,qc a0,qc a0,qc a0⟩ (fun hHeld=>?_)
 clear hK K
 refine qN (some 41) ?_
 refine qP 9 (some 42) (bN 26 16776191) HT_ ?_
 refine qP 10 (some 43) (bN 26 16777215) HT_ ?_
 refine qP 24 (some 57) (bN 26 33554431) HT_ ?_
 refine qP 25 (some 8) (bN 26 67108863) HT_ ?_
 refine Z2 (Zh HT_.out kr) ?_
 try go_wp2
 go_ret
 exact⟨rfl,HB.out⟩
end Go.Proofs.Ytmfffemidlhcpaa.C
