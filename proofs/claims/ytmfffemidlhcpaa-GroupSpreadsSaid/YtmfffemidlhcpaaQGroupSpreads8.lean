/- What this law's functions come to, walked; what that is, in plain Lean. No conditions of its own. -/
import Derived.Test.YtmfffemidlhcpaaQGroupSpreads7
import Derived.Laws.EntriesVeiled
set_option linter.unusedSimpArgs false
set_option linter.unusedVariables false
set_option maxHeartbeats 8000000
set_option maxRecDepth 100000
namespace Go.Proofs.Ytmfffemidlhcpaa.C
open Go.RowKit Go.Proofs.YtmfffemidlhcpaaW.PrintWords Go.Proofs.YtmfffemidlhcpaaW.PrintLast Go.Proofs.YtmfffemidlhcpaaW.PrintMore
def phV:Value:=.agg #[nI 0,.func (.func 95) #[] #[],nI 60,.func (.func 96) #[] #[],nI 300,.func (.func 98) #[] #[],nI 60,.func (.func 99) #[] #[]]
theorem door_phases.calls (w:World):Calls Try.prog 87 #[] w fun e w'=>e = .returned phV∧Below w.heap.size w w':=by
 have Z:=Try.underlying131
 have B:=Try.underlying132
 have HB:=aK (Below.refl w.heap.size w)
 go_enter Try.func87,Try.ntmps87
 go_wp2_with (first|((with_reducible refine Qe (N:=0) rfl ?_);refine Zj ?hg (N:=0) ?hd (cs:=#[nI 0,.nilFunc,nI 0,.nilFunc,nI 0,.nilFunc,nI 0,.nilFunc]) (t:=132) ?hr ?_;(case hd=>rfl);(case hg=>rfl);(case hr=>first|(go_simp;done)|(go_simp;rfl));intro gb hg w1 hbox hb;have O:=aK (Q6 HB.out hb);have BK:=aK hbox;have GE:=aK (by rw[hg];exact Nat.le_refl _:w.heap.size≤gb);clear HB hg hb hbox;have Y:=(Qa BK.out 0).trans rfl;have γ:=Qg BK.out 0;have ch:=(Qa BK.out 1).trans rfl;have δ :=Qg BK.out 1;have dv:=(Qa BK.out 2).trans rfl;have ε :=Qg BK.out 2;have ζ :=(Qa BK.out 3).trans rfl;have η :=Qg BK.out 3;have θ :=(Qa BK.out 4).trans rfl;have ι :=Qg BK.out 4;have κ :=(Qa BK.out 5).trans rfl;have μ :=Qg BK.out 5;have ν :=(Qa BK.out 6).trans rfl;have ξ :=Qg BK.out 6;have ρ:=(Qa BK.out 7).trans rfl;have σ:=Qg BK.out 7))
 have X:=Yx BK.out 0 (nI 0)
 have b1:=Yx X 1 (.func (.func 95) #[] #[])
 have b2:=Yx b1 2 (nI 60)
 have b3:=Yx b2 3 (.func (.func 96) #[] #[])
 have J:=Yx b3 4 (nI 300)
 have b5:=Yx J 5 (.func (.func 98) #[] #[])
 have b6:=Yx b5 6 (nI 60)
 have b7:=Yx b6 7 (.func (.func 99) #[] #[])
 simp only[List.setIfInBounds_toArray,List.set_cons_zero,List.set_cons_succ] at b7
 refine bodyPost_ret (v:=phV) ?_ rfl ⟨rfl, ?_⟩
 ·refine results_cell_row (p:=0) (ty:=132) ?_ _ _ gb 132 _ (0,0) _ ?_ b7 B ?_ ?_
  ·rfl
  ·rfl
  ·rfl
  ·kernel_rfl
 ·with_reducible repeat(first|exact O.out|refine Qz ?_ GE.out)
section
variable {P : Program} {ops : Array Oper} {Q : Exit → Act → World → Prop}
end
theorem Na (x y:Value) (w:World):Sem.run Try.prog (Instr.field 131 (.agg #[x,y]) 0) w = .ok x w:=by
 have Z:=Try.underlying131
 have B:=Try.underlying3
 simp[Instr.field,run_underlying Z,part,isAgg,asAgg,run_underlying B,Result.andThen]
def Xk (d:Int):Int:=if d=0 then 0 else if d=1 then 60 else if d=2 then 300 else 60
def tickN (d:Int):Nat:=if d=0 then 95 else if d=1 then 96 else if d=2 then 98 else 99
theorem Mt {n lo hi:Int} (h:door_within.f n lo hi=some true):lo≤n∧n≤hi:=by
 unfold door_within.f at h
 split at h <;> simp at h <;> omega
theorem M9 (ev:Operand→Value) (o:Oper) (x y:Operand) (ho:o.op = .index 132 x y) (hx:ev x=phV) (hy:ev y=nI 0) (w:World):
 Sem.run Try.prog (execOp ev o) w = .ok (.value (.agg #[nI 0,.func (.func 95) #[] #[]])) w:=by
 have B:=Try.underlying132
 have hs:(Try.prog.info? 131).map (·.size)=some 2:=by kernel_rfl
 obtain⟨i,hi,hs⟩:=Option.map_eq_some_iff.mp hs
 unfold execOp
 rw[ho]
 simp only
 rw[hx,hy]
 unfold phV
 simp[Instr.index,asIntOf,run_underlying B,part,sizeOf,typeInfo,Result.andThen,hi,hs]
theorem M8 (ev:Operand→Value) (o:Oper) (x y:Operand) (ho:o.op = .index 132 x y) (hx:ev x=phV) (hy:ev y=nI 1) (w:World):
 Sem.run Try.prog (execOp ev o) w = .ok (.value (.agg #[nI 60,.func (.func 96) #[] #[]])) w:=by
 have B:=Try.underlying132
 have hs:(Try.prog.info? 131).map (·.size)=some 2:=by kernel_rfl
 obtain⟨i,hi,hs⟩:=Option.map_eq_some_iff.mp hs
 unfold execOp
 rw[ho]
 simp only
 rw[hx,hy]
 unfold phV
 simp[Instr.index,asIntOf,run_underlying B,part,sizeOf,typeInfo,Result.andThen,hi,hs]
theorem M7 (ev:Operand→Value) (o:Oper) (x y:Operand) (ho:o.op = .index 132 x y) (hx:ev x=phV) (hy:ev y=nI 2) (w:World):
 Sem.run Try.prog (execOp ev o) w = .ok (.value (.agg #[nI 300,.func (.func 98) #[] #[]])) w:=by
 have B:=Try.underlying132
 have hs:(Try.prog.info? 131).map (·.size)=some 2:=by kernel_rfl
 obtain⟨i,hi,hs⟩:=Option.map_eq_some_iff.mp hs
 unfold execOp
 rw[ho]
 simp only
 rw[hx,hy]
 unfold phV
 simp[Instr.index,asIntOf,run_underlying B,part,sizeOf,typeInfo,Result.andThen,hi,hs]
theorem M6 (ev:Operand→Value) (o:Oper) (x y:Operand) (ho:o.op = .index 132 x y) (hx:ev x=phV) (hy:ev y=nI 3) (w:World):
 Sem.run Try.prog (execOp ev o) w = .ok (.value (.agg #[nI 60,.func (.func 99) #[] #[]])) w:=by
 have B:=Try.underlying132
 have hs:(Try.prog.info? 131).map (·.size)=some 2:=by kernel_rfl
 obtain⟨i,hi,hs⟩:=Option.map_eq_some_iff.mp hs
 unfold execOp
 rw[ho]
 simp only
 rw[hx,hy]
 unfold phV
 simp[Instr.index,asIntOf,run_underlying B,part,sizeOf,typeInfo,Result.andThen,hi,hs]
theorem Vn {d:Int} {ev:Operand→Value} {o:Oper} {x y:Operand} (ho:o.op = .index 132 x y) (hx:ev x=phV) (hy:ev y=nI d) (X:0≤d) (h3:d≤3) (w:World):
 Sem.run Try.prog (execOp ev o) w = .ok (.value (.agg #[nI (Xk d),.func (.func (tickN d)) #[] #[]])) w:=by
 have e:d=0∨d=1∨d=2∨d=3:=by omega
 rcases e with rfl|rfl|rfl|rfl
 ·exact M9 ev o x y ho hx hy w
 ·exact M8 ev o x y ho hx hy w
 ·exact M7 ev o x y ho hx hy w
 ·exact M6 ev o x y ho hx hy w
end Go.Proofs.Ytmfffemidlhcpaa.C
namespace Go.Proofs.Ytmfffemidlhcpaa.C
open Go.RowKit Go.Proofs.YtmfffemidlhcpaaW.PrintWords Go.Proofs.YtmfffemidlhcpaaW.PrintLast Go.Proofs.YtmfffemidlhcpaaW.PrintMore
attribute [local go_sem] Z2 Z0 Xb Xa Zt Zs Z1 Zz
def door_Check.f (B:Int) (J:Int) (O:Int):Option (Int):=(door_within.f B 0 3).bind fun ψ =>(if ψ = true then ((door_on.f B J O 0 0).bind fun η =>((door_within.f J (mn (Xk B) 1) (Xk B)).bind fun θ =>(if θ = true then ((door_within.f O 0 (mn (Xk B) 60)).bind fun ι =>(if ι = true then (some 0) else (some 170))) else (some 170)))) else (some 170))
theorem door_Check.calls (B:Int) (J:Int) (O:Int) (r:Int) (w:World) (h:door_Check.f B J O=some r):
 Calls Try.prog 71 #[.agg #[nI B,nI J,nI O]] w fun e w'=>e = .returned (nI r)∧Below w.heap.size w w':=by
 have fi:=Try.underlying27
 have HB:=aK (Below.refl w.heap.size w)
 have H:((door_within.f B 0 3).bind fun ψ =>(if ψ = true then ((door_on.f B J O 0 0).bind fun η =>((door_within.f J (mn (Xk B) 1) (Xk B)).bind fun θ =>(if θ = true then ((door_within.f O 0 (mn (Xk B) 60)).bind fun ι =>(if ι = true then (some 0) else (some 170))) else (some 170)))) else (some 170)))=some r:=h
 clear h
 obtain⟨ψ,A2,H⟩:=qQ H
 by_cases c3: ψ = true
 ·subst c3
  have hph_:=Mt A2.out
  have κ :=Na
  rw[if_pos rfl] at H
  obtain⟨⟨ρ,a0,ν⟩,A4,H⟩:=qQ H
  replace H:((door_within.f J (mn (Xk B) 1) (Xk B)).bind fun θ =>(if θ = true then ((door_within.f O 0 (mn (Xk B) 60)).bind fun ι =>(if ι = true then (some 0) else (some 170))) else (some 170)))=some r:=H
  obtain⟨γ,Y⟩:∃ j_:Int,(mn (Xk B) 1)=j_:=⟨_,rfl⟩
  replace H:((door_within.f J (γ) (Xk B)).bind fun θ =>(if θ = true then ((door_within.f O 0 (mn (Xk B) 60)).bind fun ι =>(if ι = true then (some 0) else (some 170))) else (some 170)))=some r:=by first|(rw[Y] at H;exact H)|(simp only[Y] at H ⊢;exact H)
  (try rw[Y] at A2)
  (try rw[Y] at A4)
  (try(have hji5h:γ≤1:=by(rw[← Y];unfold mn;(repeat' split) <;> omega)))
  (try(have hji5g:γ≤64:=by omega))
  have ζ :(if 1<(Xk B) then 1 else (Xk B))=γ:=Y
  obtain⟨θ,A6,H⟩:=qQ H
  by_cases c7: θ = true
  ·subst c7
   rw[if_pos rfl] at H
   obtain⟨δ,Z⟩:∃ j_:Int,(mn (Xk B) 60)=j_:=⟨_,rfl⟩
   replace H:((door_within.f O 0 (δ)).bind fun ι =>(if ι = true then (some 0) else (some 170)))=some r:=by first|(rw[Z] at H;exact H)|(simp only[Z] at H ⊢;exact H)
   (try rw[Z] at A2)
   (try rw[Z] at A4)
   (try rw[Z] at A6)
   (try(have hji8h: δ ≤ 60:=by(rw[← Z];unfold mn;(repeat' split) <;> omega)))
   (try(have hji8g: δ ≤ 64:=by omega))
   have ξ :(if 60<(Xk B) then 60 else (Xk B)) = δ :=Z
   obtain⟨ι,A9,H⟩:=qQ H
   by_cases c10: ι = true
   ·subst c10
    rw[if_pos rfl] at H
    obtain rfl:=qJ H
    go_enter Try.func71,Try.ntmps71
    try go_wp2_with (first|((with_reducible refine Qe (N:=1) rfl ?_);(try(refine Zk (by rfl) ?_;dsimp only));refine qE 1 #[nI B,nI J,nI O] 27 ?_;intro ε hg d1 hbox hb;have X:=aK hbox;have a2:=sGe hg;have μ :=sGe hg;replace HB:=sHb hb;clear hb hbox hg;obtain⟨a1,a3,ae,af,ar,ah⟩:=qD3 X.out)|((with_reducible refine Qf (f:=86) rfl ?_);refine Q0 (some 6) rfl rfl Try.func86 kr rfl #[nI B,nI 0,nI 3] rfl qM ?_;(with_reducible refine(door_within.calls B 0 3 true _ A2.out).mono ?_);rintro e w' ⟨rfl,⟨nd,rfl⟩⟩;refine⟨_,rfl, ?_⟩))
    (try(rw[Yu d1];generalize hq_:World.drewN d1 _=d1;have φ :Aside0 (d1.heap[ε]?=some (.cells #[nI B,nI J,nI O] 27 (0,0))):=⟨by rw[← hq_];exact(bka X)⟩;have χ :Aside0 (Below w.heap.size w d1):=⟨by rw[← hq_];exact bel⟩;clear X HB hq_;have X:= φ;have HB:= χ;clear φ χ))
    (try(have ao:cI d1 ε 0 B:=(Qa X.out 0).trans rfl))
    (try(have bc:cI d1 ε 1 J:=(Qa X.out 1).trans rfl))
    (try(have bk:cI d1 ε 2 O:=(Qa X.out 2).trans rfl))
    (try(have ap:=Qg X.out 0))
    (try(have be:=Qg X.out 1))
    (try(have bm:=Qg X.out 2))
    have φ :=aK (Qd X.out)
    have χ :=aK (Qj HB.out)
    clear X
    clear HB
    have X:= φ
    have HB:= χ
    clear φ χ
    refine Zg (n:=6) (S:=fun w'=>cI w' ε 0 B∧cI w' ε 1 J∧cI w' ε 2 O) (ds:=[]) #[false,false,false,false,false,false] kr rfl rfl ⟨(Qa X.out 0).trans rfl,(Qa X.out 1).trans rfl,(Qa X.out 2).trans rfl⟩ (fun hHeld=>?_)
    generalize d1.drew=cb at X HB hHeld ⊢
    refine qV 1 (some 9) (qB 6 2) ?_
    refine qW 2 (some 10) (qB 6 6) hHeld ?_
    refine Kp (i:=0) (N:=some 8) #[true,true,true,false,false,false] rfl rfl kr (by decide) (fun K hK=>?_)
    refine Zd Try.func87 kr rfl #[] (by rfl) rfl rfl (by(try simp only[List.map_toArray,List.map_cons,List.map_nil]);first|done|rfl|(simp only[List.length_drop,List.length_take];rfl)) ?_
    with_reducible refine(door_phases.calls _).mono ?_
    rintro e fb ⟨rfl,hb⟩
    refine⟨_,rfl, ?_⟩
    have φ :=aK (Q1 (g:= ε) (o:=.cells #[nI B,nI J,nI O] 27 (0,0)) (by(with_reducible repeat first|refine Qi ?_ _|refine Qd ?_|refine Qh ?_ _);exact X.out) hb)
    have χ :=aK (Q6 (by repeat(first|(with_reducible first|exact HB.out|apply Qq|apply Qn|apply Qj|refine Qz ?_ μ.out)|exact HB.out)) hb)
    clear X
    clear HB
    have X:= φ
    have HB:= χ
    clear φ χ
    (try clear hb)
    (try clear a4)
    (try clear hk)
    (try clear hi)
    refine hK.out _ _ ⟨qc X,qc X,qc X⟩ (fun hHeld=>?_)
    clear hK K
    refine qN (some 8) ?_
    refine Ua (i:=3) (N:=some 11) (v:=?_) (a':=?_) #[true,true,true,true,false,false] rfl rfl kr (fun _ _ _ h=>h) (Or.inl ⟨by rfl, ?_⟩) ?_ ?_
    rotate_left
    ·intro w'
     rw[Vn (d:=B) (x:=.tmp 8) (y:=.tmp 10)]
     all_goals first|exact hph_.1|exact hph_.2|rfl
    rotate_left
    ·simp only[Act.put,qS,Zy,Z8]
     rfl
    refine qV 4 (some 12) (qB 6 31) ?_
    refine qV 5 (some 3) (qB 6 63) ?_
    refine Zl kr ?_
    obtain⟨d3,d4,ω,d5,d6,b9⟩:=qD3 X.out
    try go_wp2_with (first|((with_reducible refine Qf (f:=86) rfl ?_);refine Q0 (some 18) rfl rfl Try.func86 kr rfl #[nI J,nI γ,nI (Xk B)] rfl (by(try simp only[List.map_toArray,List.map_cons,List.map_nil]);first|done|(simp only[Y];rfl)|rfl|(simp only[List.length_drop,List.length_take];rfl)) ?_;(with_reducible refine(door_within.calls J γ (Xk B) true _ A6.out).mono ?_);rintro e w' ⟨rfl,⟨nd,rfl⟩⟩;refine⟨_,rfl, ?_⟩)|(go_at_call 86;(with_reducible refine(door_within.calls O 0 δ true _ A9.out).mono ?_);rintro e w' ⟨rfl,⟨nd,rfl⟩⟩))
    go_ret
    exact⟨by first|rfl|(simp[Ql,Qk] <;> rfl)|(simp only[← Y,← Z];first|rfl|(simp[Ql,Qk] <;> rfl))|(simp[*,Ql,Qk] <;> rfl),bel⟩
   ·replace c10:=Bool.eq_false_iff.mpr c10
    subst c10
    rw[if_neg nft] at H
    obtain rfl:=qJ H
    go_enter Try.func71,Try.ntmps71
    try go_wp2_with (first|((with_reducible refine Qe (N:=1) rfl ?_);(try(refine Zk (by rfl) ?_;dsimp only));refine qE 1 #[nI B,nI J,nI O] 27 ?_;intro ε hg cv hbox hb;have X:=aK hbox;have a2:=sGe hg;have μ :=sGe hg;replace HB:=sHb hb;clear hb hbox hg;obtain⟨bl,bz,eu,ca,ch,ev⟩:=qD3 X.out)|((with_reducible refine Qf (f:=86) rfl ?_);refine Q0 (some 6) rfl rfl Try.func86 kr rfl #[nI B,nI 0,nI 3] rfl qM ?_;(with_reducible refine(door_within.calls B 0 3 true _ A2.out).mono ?_);rintro e w' ⟨rfl,⟨nd,rfl⟩⟩;refine⟨_,rfl, ?_⟩))
    (try(rw[Yu cv];generalize hq_:World.drewN cv _=cv;have φ :Aside0 (cv.heap[ε]?=some (.cells #[nI B,nI J,nI O] 27 (0,0))):=⟨by rw[← hq_];exact(bka X)⟩;have χ :Aside0 (Below w.heap.size w cv):=⟨by rw[← hq_];exact bel⟩;clear X HB hq_;have X:= φ;have HB:= χ;clear φ χ))
    (try(have ag:cI cv ε 0 B:=(Qa X.out 0).trans rfl))
    (try(have ai:cI cv ε 1 J:=(Qa X.out 1).trans rfl))
    (try(have b3:cI cv ε 2 O:=(Qa X.out 2).trans rfl))
    (try(have aj:=Qg X.out 0))
    (try(have am:=Qg X.out 1))
    (try(have b4:=Qg X.out 2))
    have φ :=aK (Qd X.out)
    have χ :=aK (Qj HB.out)
    clear X
    clear HB
    have X:= φ
    have HB:= χ
    clear φ χ
    refine Zg (n:=6) (S:=fun w'=>cI w' ε 0 B∧cI w' ε 1 J∧cI w' ε 2 O) (ds:=[]) #[false,false,false,false,false,false] kr rfl rfl ⟨(Qa X.out 0).trans rfl,(Qa X.out 1).trans rfl,(Qa X.out 2).trans rfl⟩ (fun hHeld=>?_)
    generalize cv.drew=dw at X HB hHeld ⊢
    refine qV 1 (some 9) (qB 6 2) ?_
    refine qW 2 (some 10) (qB 6 6) hHeld ?_
    refine Kp (i:=0) (N:=some 8) #[true,true,true,false,false,false] rfl rfl kr (by decide) (fun K hK=>?_)
    refine Zd Try.func87 kr rfl #[] (by rfl) rfl rfl (by(try simp only[List.map_toArray,List.map_cons,List.map_nil]);first|done|rfl|(simp only[List.length_drop,List.length_take];rfl)) ?_
    with_reducible refine(door_phases.calls _).mono ?_
    rintro e bo ⟨rfl,hb⟩
    refine⟨_,rfl, ?_⟩
    have φ :=aK (Q1 (g:= ε) (o:=.cells #[nI B,nI J,nI O] 27 (0,0)) (by(with_reducible repeat first|refine Qi ?_ _|refine Qd ?_|refine Qh ?_ _);exact X.out) hb)
    have χ :=aK (Q6 (by repeat(first|(with_reducible first|exact HB.out|apply Qq|apply Qn|apply Qj|refine Qz ?_ μ.out)|exact HB.out)) hb)
    clear X
    clear HB
    have X:= φ
    have HB:= χ
    clear φ χ
    (try clear hb)
    (try clear a4)
    (try clear hk)
    (try clear hi)
    refine hK.out _ _ ⟨qc X,qc X,qc X⟩ (fun hHeld=>?_)
    clear hK K
    refine qN (some 8) ?_
    refine Ua (i:=3) (N:=some 11) (v:=?_) (a':=?_) #[true,true,true,true,false,false] rfl rfl kr (fun _ _ _ h=>h) (Or.inl ⟨by rfl, ?_⟩) ?_ ?_
    rotate_left
    ·intro w'
     rw[Vn (d:=B) (x:=.tmp 8) (y:=.tmp 10)]
     all_goals first|exact hph_.1|exact hph_.2|rfl
    rotate_left
    ·simp only[Act.put,qS,Zy,Z8]
     rfl
    refine qV 4 (some 12) (qB 6 31) ?_
    refine qV 5 (some 3) (qB 6 63) ?_
    refine Zl kr ?_
    obtain⟨az,b0,d0,b1,b2,da⟩:=qD3 X.out
    try go_wp2_with (first|((with_reducible refine Qf (f:=86) rfl ?_);refine Q0 (some 18) rfl rfl Try.func86 kr rfl #[nI J,nI γ,nI (Xk B)] rfl (by(try simp only[List.map_toArray,List.map_cons,List.map_nil]);first|done|(simp only[Y];rfl)|rfl|(simp only[List.length_drop,List.length_take];rfl)) ?_;(with_reducible refine(door_within.calls J γ (Xk B) true _ A6.out).mono ?_);rintro e w' ⟨rfl,⟨nd,rfl⟩⟩;refine⟨_,rfl, ?_⟩)|(go_at_call 86;(with_reducible refine(door_within.calls O 0 δ false _ A9.out).mono ?_);rintro e w' ⟨rfl,⟨nd,rfl⟩⟩))
    go_ret
    exact⟨by first|rfl|(simp[Ql,Qk] <;> rfl)|(simp only[← Y,← Z];first|rfl|(simp[Ql,Qk] <;> rfl))|(simp[*,Ql,Qk] <;> rfl),bel⟩
  ·replace c7:=Bool.eq_false_iff.mpr c7
   subst c7
   rw[if_neg nft] at H
   obtain rfl:=qJ H
   go_enter Try.func71,Try.ntmps71
   try go_wp2_with (first|((with_reducible refine Qe (N:=1) rfl ?_);(try(refine Zk (by rfl) ?_;dsimp only));refine qE 1 #[nI B,nI J,nI O] 27 ?_;intro ε hg bi hbox hb;have X:=aK hbox;have a2:=sGe hg;have μ :=sGe hg;replace HB:=sHb hb;clear hb hbox hg;obtain⟨au,av,bs,aw,ax,bv⟩:=qD3 X.out)|((with_reducible refine Qf (f:=86) rfl ?_);refine Q0 (some 6) rfl rfl Try.func86 kr rfl #[nI B,nI 0,nI 3] rfl qM ?_;(with_reducible refine(door_within.calls B 0 3 true _ A2.out).mono ?_);rintro e w' ⟨rfl,⟨nd,rfl⟩⟩;refine⟨_,rfl, ?_⟩))
   (try(rw[Yu bi];generalize hq_:World.drewN bi _=bi;have φ :Aside0 (bi.heap[ε]?=some (.cells #[nI B,nI J,nI O] 27 (0,0))):=⟨by rw[← hq_];exact(bka X)⟩;have χ :Aside0 (Below w.heap.size w bi):=⟨by rw[← hq_];exact bel⟩;clear X HB hq_;have X:= φ;have HB:= χ;clear φ χ))
   (try(have b8:cI bi ε 0 B:=(Qa X.out 0).trans rfl))
   (try(have bn:cI bi ε 1 J:=(Qa X.out 1).trans rfl))
   (try(have fw:cI bi ε 2 O:=(Qa X.out 2).trans rfl))
   (try(have bq:=Qg X.out 0))
   (try(have br:=Qg X.out 1))
   (try(have fx:=Qg X.out 2))
   have φ :=aK (Qd X.out)
   have χ :=aK (Qj HB.out)
   clear X
   clear HB
   have X:= φ
   have HB:= χ
   clear φ χ
   refine Zg (n:=6) (S:=fun w'=>cI w' ε 0 B∧cI w' ε 1 J∧cI w' ε 2 O) (ds:=[]) #[false,false,false,false,false,false] kr rfl rfl ⟨(Qa X.out 0).trans rfl,(Qa X.out 1).trans rfl,(Qa X.out 2).trans rfl⟩ (fun hHeld=>?_)
   generalize bi.drew=hu at X HB hHeld ⊢
   refine qV 1 (some 9) (qB 6 2) ?_
   refine qW 2 (some 10) (qB 6 6) hHeld ?_
   refine Kp (i:=0) (N:=some 8) #[true,true,true,false,false,false] rfl rfl kr (by decide) (fun K hK=>?_)
   refine Zd Try.func87 kr rfl #[] (by rfl) rfl rfl (by(try simp only[List.map_toArray,List.map_cons,List.map_nil]);first|done|rfl|(simp only[List.length_drop,List.length_take];rfl)) ?_
   with_reducible refine(door_phases.calls _).mono ?_
   rintro e dk ⟨rfl,hb⟩
   refine⟨_,rfl, ?_⟩
   have φ :=aK (Q1 (g:= ε) (o:=.cells #[nI B,nI J,nI O] 27 (0,0)) (by(with_reducible repeat first|refine Qi ?_ _|refine Qd ?_|refine Qh ?_ _);exact X.out) hb)
   have χ :=aK (Q6 (by repeat(first|(with_reducible first|exact HB.out|apply Qq|apply Qn|apply Qj|refine Qz ?_ μ.out)|exact HB.out)) hb)
   clear X
   clear HB
   have X:= φ
   have HB:= χ
   clear φ χ
   (try clear hb)
   (try clear a4)
   (try clear hk)
   (try clear hi)
   refine hK.out _ _ ⟨qc X,qc X,qc X⟩ (fun hHeld=>?_)
   clear hK K
   refine qN (some 8) ?_
   refine Ua (i:=3) (N:=some 11) (v:=?_) (a':=?_) #[true,true,true,true,false,false] rfl rfl kr (fun _ _ _ h=>h) (Or.inl ⟨by rfl, ?_⟩) ?_ ?_
   rotate_left
   ·intro w'
    rw[Vn (d:=B) (x:=.tmp 8) (y:=.tmp 10)]
    all_goals first|exact hph_.1|exact hph_.2|rfl
   rotate_left
   ·simp only[Act.put,qS,Zy,Z8]
    rfl
   refine qV 4 (some 12) (qB 6 31) ?_
   refine qV 5 (some 3) (qB 6 63) ?_
   refine Zl kr ?_
   obtain⟨ew,fk,fl,ey,fm,fn⟩:=qD3 X.out
   try go_wp2_with (first|((with_reducible refine Qf (f:=86) rfl ?_);refine Q0 (some 18) rfl rfl Try.func86 kr rfl #[nI J,nI γ,nI (Xk B)] rfl (by(try simp only[List.map_toArray,List.map_cons,List.map_nil]);first|done|(simp only[Y];rfl)|rfl|(simp only[List.length_drop,List.length_take];rfl)) ?_;(with_reducible refine(door_within.calls J γ (Xk B) false _ A6.out).mono ?_);rintro e w' ⟨rfl,⟨nd,rfl⟩⟩;refine⟨_,rfl, ?_⟩))
   go_ret
   exact⟨by first|rfl|(simp[Ql,Qk] <;> rfl)|(simp only[← Y];first|rfl|(simp[Ql,Qk] <;> rfl))|(simp[*,Ql,Qk] <;> rfl),bel⟩
 ·replace c3:=Bool.eq_false_iff.mpr c3
  subst c3
  rw[if_neg nft] at H
  obtain rfl:=qJ H
  go_enter Try.func71,Try.ntmps71
  go_wp2_with (first|((with_reducible refine Qe (N:=1) rfl ?_);(try(refine Zk (by rfl) ?_;dsimp only));refine qE 1 #[nI B,nI J,nI O] 27 ?_;intro ε hg gi hbox hb;have X:=aK hbox;have a2:=sGe hg;have μ :=sGe hg;replace HB:=sHb hb;clear hb hbox hg;obtain⟨bd,ea,ez,eb,ec,f7⟩:=qD3 X.out)|((with_reducible refine Qf (f:=86) rfl ?_);refine Q0 (some 6) rfl rfl Try.func86 kr rfl #[nI B,nI 0,nI 3] rfl qM ?_;(with_reducible refine(door_within.calls B 0 3 false _ A2.out).mono ?_);rintro e w' ⟨rfl,⟨nd,rfl⟩⟩;refine⟨_,rfl, ?_⟩))
  go_ret
  exact⟨by first|rfl|(simp[Ql,Qk] <;> rfl)|(simp[*,Ql,Qk] <;> rfl),bel⟩
def door_Rest.j0:Nat→Bool→Int→Int→Int→Int→Int→Int→Int→Int→Int→Int→Int→Int→Int→Option (Int×Int)
 |0,_,_,_,_,_,_,_,_,_,_,_,_,_,_=>none
 |k+1,δ,ε,ζ,η,O,θ,ι,B,κ,J,X,Y,Z,γ=>if δ = true then (some (0,170)) else (if Y=0 then (some (0,0)) else (if Y=1 then (some (wrap64 ((wrap64 (Z+(wrap64 (J+B))))+(wrap64 ((mx (wrap64 (X-γ)) 0) * (wrap64 ((wrap64 (O+J))+B))))),0)) else (if Y=2 then (some (wrap64 ((wrap64 (Z+B))+(wrap64 ((mx (wrap64 (X-γ)) 0) * (wrap64 ((wrap64 (O+J))+B))))),0)) else (some (wrap64 (Z+(wrap64 ((mx (wrap64 (X-γ)) 0) * (wrap64 ((wrap64 (O+J))+B))))),0)))))
def door_Rest.f (k:Nat) (B:Int) (J:Int) (O:Int) (Y:Int) (Z:Int) (γ:Int) (δ :Int) (ε :Int) (θ :Int) (η :Int) (X:Int) (ζ :Int) (ι :Int):Option (Int×Int):=(door_gear.f k B J O Y Z γ δ ε θ η).bind fun a8=>(if a8=true then ((door_Check.f X ζ ι).bind fun σ=>(door_Rest.j0 k (σ != 0) B J O Y Z γ δ ε θ η X ζ ι)) else (door_Rest.j0 k true B J O Y Z γ δ ε θ η X ζ ι))
theorem door_Rest.Z6:∀ k,(∀ O X Z B Y y5 y6 y7 y8 y9 γ δ ζ η,LeO (door_Rest.j0 k O X Z B Y y5 y6 y7 y8 y9 γ δ ζ η) (door_Rest.j0 (k+1) O X Z B Y y5 y6 y7 y8 y9 γ δ ζ η))
 |0=>fun _ _ _ _ _ _ _ _ _ _ _ _ _ _ r h=>by simp[door_Rest.j0] at h
 |k+1=>by
  have J:=door_Rest.Z6 k
  ·intro O X Z B Y y5 y6 y7 y8 y9 γ δ ζ η
   unfold door_Rest.j0
   repeat' first|(with_reducible first|apply J|apply door_gear.mono|exact LeO.refl _|exact LeO.none _|refine LeO.ite ?_ ?_|refine LeO.bind ?_ (fun _=>?_))|apply J|apply door_gear.mono|exact LeO.none _|refine LeO.ite ?_ ?_|refine LeO.bind ?_ (fun _=>?_)
theorem door_Rest.mono:∀ B Z a2 a3 O a5 X a7 a8 a9 Y γ δ k,LeO (door_Rest.f k B Z a2 a3 O a5 X a7 a8 a9 Y γ δ) (door_Rest.f (k+1) B Z a2 a3 O a5 X a7 a8 a9 Y γ δ):=by
 intro B Z a2 a3 O a5 X a7 a8 a9 Y γ δ k
 have J:=door_Rest.Z6 k
 unfold door_Rest.f
 repeat' first|(with_reducible first|apply J|apply door_gear.mono|exact LeO.refl _|exact LeO.none _|refine LeO.ite ?_ ?_|refine LeO.bind ?_ (fun _=>?_))|apply J|apply door_gear.mono|exact LeO.none _|refine LeO.ite ?_ ?_|refine LeO.bind ?_ (fun _=>?_)
theorem door_Rest.calls (k:Nat) (B:Int) (J:Int) (O:Int) (Y:Int) (Z:Int) (γ:Int) (δ :Int) (ε :Int) (θ :Int) (η :Int) (X:Int) (ζ :Int) (ι :Int) (r1:Int) (r2:Int) (w:World) (h:door_Rest.f k B J O Y Z γ δ ε θ η X ζ ι = some (r1,r2)):
 Calls Try.prog 47 #[.agg #[nI B,nI J,nI O,nI Y,nI Z,nI γ,nI δ,nI ε,nI θ,nI η],.agg #[nI X,nI ζ,nI ι]] w fun e w'=>e = .returned (.tuple #[nI r1,nI r2])∧Below w.heap.size w w':=by
 have cj:=Try.underlying25
 have fi:=Try.underlying27
 have HB:=aK (Below.refl w.heap.size w)
 have H:((door_gear.f k B J O Y Z γ δ ε θ η).bind fun a8=>(if a8=true then ((door_Check.f X ζ ι).bind fun σ=>(door_Rest.j0 k (σ != 0) B J O Y Z γ δ ε θ η X ζ ι)) else (door_Rest.j0 k true B J O Y Z γ δ ε θ η X ζ ι)))=some (r1,r2):=h
 clear h
 have ao:=aK H
 clear H
 go_enter Try.func47,Try.ntmps47
 go_upto_region 1 with(first|((with_reducible refine Qe (N:=2) rfl ?_);refine qE 2 #[nI B,nI J,nI O,nI Y,nI Z,nI γ,nI δ,nI ε,nI θ,nI η] 25 ?_;intro ab hg w4 hbox hb;have κ :=aK hbox;have b0:=sGe hg;have b1:=sGe hg;replace HB:=sHb hb;clear hb hbox hg)|((with_reducible refine Qe (N:=3) rfl ?_);refine qE 3 #[nI X,nI ζ,nI ι] 27 ?_;intro ac hg w5 hbox hb;have μ :=aK hbox;have b2:=sGe hg;have b7:=sGe hg;have ν :=sNl κ hg;have ξ :=sNg κ hg;replace κ :=sBk κ hb;replace HB:=sHb hb;clear hb hbox hg))
 (try simp only[Act.put,qS])
 go_cut [14] (fun ap wc=>∃ (kq:Nat) (ρ:Bool),ap = .bool ρ∧Aside0 (door_Rest.j0 kq ρ B J O Y Z γ δ ε θ η X ζ ι = some (r1,r2))∧Aside0 (kq≤k)∧Aside0 (wc.heap[ab]?=some (.cells #[nI B,nI J,nI O,nI Y,nI Z,nI γ,nI δ,nI ε,nI θ,nI η] 25 (0,0)))∧Aside0 (wc.heap[ac]?=some (.cells #[nI X,nI ζ,nI ι] 27 (0,0)))∧Aside0 (Below w.heap.size w wc))
 case first=>
  have H:=ao.out
  clear ao
  obtain⟨a8,A6,H⟩:=qQ H
  by_cases c7:a8=true
  ·subst c7
   rw[if_pos rfl] at H
   obtain⟨σ,A8,H⟩:=qQ H
   have H':=aK H
   clear H
   have jp:= ν.out
   have jq:= ξ.out
   obtain⟨bg,bh,du,gk,gm,gn,gp,hj,ho,hu,bk,bm,dv,gq,gr,gs,gt,hx,hy,i0⟩:=Zi κ.out
   go_wp2_with (first|((with_reducible refine Qf (f:=72) rfl ?_);refine Q0 (some 8) rfl rfl Try.func72 kr rfl #[.agg #[nI B,nI J,nI O,nI Y,nI Z,nI γ,nI δ,nI ε,nI θ,nI η]] rfl qM ?_;(with_reducible refine(door_gear.calls k B J O Y Z γ δ ε θ η true _ A6.out).mono ?_);rintro e d1 ⟨rfl,hb⟩;refine⟨_,rfl, ?_⟩;replace κ :=sBk κ hb;replace μ :=sBk μ hb;replace HB:=sHb hb;(try clear hb);(try clear a4);(try clear hk);(try clear hi);obtain⟨a1,a3,ae,af,ar,ah⟩:=qD3 μ.out)|(go_at_call 71;(with_reducible refine(door_Check.calls X ζ ι σ _ A8.out).mono ?_);rintro e eh ⟨rfl,hb⟩;have φ :=aK (Q1 (g:=ab) (o:=.cells #[nI B,nI J,nI O,nI Y,nI Z,nI γ,nI δ,nI ε,nI θ,nI η] 25 (0,0)) κ.out hb);have χ :=aK (Q1 (g:=ac) (o:=.cells #[nI X,nI ζ,nI ι] 27 (0,0)) μ.out hb);have ω :=aK (Q6 HB.out hb);clear κ;clear μ;clear HB;have κ := φ;have μ := χ;have HB:= ω;clear φ χ ω;(try clear hb);(try clear a4);(try clear hk);(try clear hi)))
   go_meet
   case rel=>exact⟨_,((σ != 0)),rfl,H',⟨by first|omega|exact Nat.le_refl _⟩,κ,μ,HB⟩
  ·replace c7:=Bool.eq_false_iff.mpr c7
   subst c7
   rw[if_neg nft] at H
   have H':=aK H
   clear H
   have e5:= ν.out
   have e6:= ξ.out
   obtain⟨bf,bp,dn,be,bl,dr,e9,ee,ej,eu,bu,bw,dp,ev,fb,gu,gv,hl,i1,i2⟩:=Zi κ.out
   go_wp2_with (first|((with_reducible refine Qf (f:=72) rfl ?_);refine Q0 (some 8) rfl rfl Try.func72 kr rfl #[.agg #[nI B,nI J,nI O,nI Y,nI Z,nI γ,nI δ,nI ε,nI θ,nI η]] rfl qM ?_;(with_reducible refine(door_gear.calls k B J O Y Z γ δ ε θ η false _ A6.out).mono ?_);rintro e cr ⟨rfl,hb⟩;refine⟨_,rfl, ?_⟩;replace κ :=sBk κ hb;replace μ :=sBk μ hb;replace HB:=sHb hb;(try clear hb);(try clear a4);(try clear hk);(try clear hi)))
   go_meet
   case rel=>exact⟨_,(true),rfl,H',⟨by first|omega|exact Nat.le_refl _⟩,κ,μ,HB⟩
 case rest=>
  clear ao
  obtain⟨kq,ρ,rfl,HA,cf,κ,μ,HB⟩:=hcut
  cases kq with
  |zero=>exact absurd HA.out (by simp[door_Rest.j0])
  |succ e3=>
   have H:=HA.out
   clear HA
   simp only[door_Rest.j0] at H
   by_cases ψ :ρ=true
   ·subst ψ
    rw[if_pos rfl] at H
    simp only[Option.some.injEq,Prod.mk.injEq] at H
    obtain⟨rfl,rfl⟩:=H
    go_wp2
    go_ret2
    exact⟨rfl,HB.out⟩
   ·replace ψ :=Bool.eq_false_iff.mpr ψ
    subst ψ
    rw[if_neg nft] at H
    by_cases b6:X=0
    ·rw[if_pos b6] at H
     have c18b0:(X==0)=true:=beq_iff_eq.mpr b6
     have c18b1:(X != 0)=false:=bne_eq_false_iff_eq.mpr b6
     clear b6
     simp only[Option.some.injEq,Prod.mk.injEq] at H
     obtain⟨rfl,rfl⟩:=H
     have ca:= ξ.out
     have d9:= ν.out
     obtain⟨a7,a9,τ,aa,an,a6⟩:=qD3 μ.out
     go_wp2
     go_ret2
     exact⟨rfl,HB.out⟩
    ·rw[if_neg b6] at H
     have c18b0:(X==0)=false:=beq_eq_false_iff_ne.mpr b6
     have c18b1:(X != 0)=true:=bne_iff_ne.mpr b6
     by_cases ak:X=1
     ·rw[if_pos ak] at H
      have c21b0:(X==1)=true:=beq_iff_eq.mpr ak
      have c21b1:(X != 1)=false:=bne_eq_false_iff_eq.mpr ak
      clear ak
      obtain⟨ag,a0⟩:∃ j_:Int,(mx (wrap64 (η - ι)) 0)=j_:=⟨_,rfl⟩
      replace H:(some (wrap64 ((wrap64 (ζ + (wrap64 (θ + δ))))+(wrap64 ((ag) * (wrap64 ((wrap64 (Y + θ)) + δ))))),0))=some (r1,r2):=by first|(rw[a0] at H;exact H)|(simp only[a0] at H ⊢;exact H)
      have al:(if (wrap64 (η - ι))<0 then 0 else (wrap64 (η - ι)))=ag:=a0
      simp only[Option.some.injEq,Prod.mk.injEq] at H
      obtain⟨rfl,rfl⟩:=H
      have d2:= ξ.out
      have dx:= ν.out
      obtain⟨au,av,bs,aw,ax,bv⟩:=qD3 μ.out
      obtain⟨b8,bn,fw,gg,gh,gi,gj,b3,b5,ba,bq,br,fx,h9,ha,he,hh,b4,bb,cu⟩:=Zi κ.out
      go_wp2
      go_ret2
      exact⟨by first|rfl|(simp[Ql,Qk] <;> rfl)|(simp only[← a0];first|rfl|(simp[Ql,Qk] <;> rfl))|(simp[*,Ql,Qk] <;> rfl),HB.out⟩
     ·rw[if_neg ak] at H
      have c21b0:(X==1)=false:=beq_eq_false_iff_ne.mpr ak
      have c21b1:(X != 1)=true:=bne_iff_ne.mpr ak
      by_cases ay:X=2
      ·rw[if_pos ay] at H
       have c26b0:(X==2)=true:=beq_iff_eq.mpr ay
       have c26b1:(X != 2)=false:=bne_eq_false_iff_eq.mpr ay
       clear ay
       obtain⟨ai,a2⟩:∃ j_:Int,(mx (wrap64 (η - ι)) 0)=j_:=⟨_,rfl⟩
       replace H:(some (wrap64 ((wrap64 (ζ + δ))+(wrap64 ((ai) * (wrap64 ((wrap64 (Y + θ)) + δ))))),0))=some (r1,r2):=by first|(rw[a2] at H;exact H)|(simp only[a2] at H ⊢;exact H)
       have am:(if (wrap64 (η - ι))<0 then 0 else (wrap64 (η - ι)))=ai:=a2
       simp only[Option.some.injEq,Prod.mk.injEq] at H
       obtain⟨rfl,rfl⟩:=H
       have jw:= ξ.out
       have jx:= ν.out
       obtain⟨fc,fe,ff,fg,fh,jb⟩:=qD3 μ.out
       obtain⟨bd,ea,ez,bc,fo,fp,fq,il,im,io,eb,ec,f7,fr,ft,fu,fv,ip,iq,ir⟩:=Zi κ.out
       go_wp2
       go_ret2
       exact⟨by first|rfl|(simp[Ql,Qk] <;> rfl)|(simp only[← a2];first|rfl|(simp[Ql,Qk] <;> rfl))|(simp[*,Ql,Qk] <;> rfl),HB.out⟩
      ·rw[if_neg ay] at H
       have c26b0:(X==2)=false:=beq_eq_false_iff_ne.mpr ay
       have c26b1:(X != 2)=true:=bne_iff_ne.mpr ay
       obtain⟨aj,a5⟩:∃ j_:Int,(mx (wrap64 (η - ι)) 0)=j_:=⟨_,rfl⟩
       replace H:(some (wrap64 (ζ + (wrap64 ((aj) * (wrap64 ((wrap64 (Y + θ)) + δ))))),0))=some (r1,r2):=by first|(rw[a5] at H;exact H)|(simp only[a5] at H ⊢;exact H)
       have az:(if (wrap64 (η - ι))<0 then 0 else (wrap64 (η - ι)))=aj:=a5
       simp only[Option.some.injEq,Prod.mk.injEq] at H
       obtain⟨rfl,rfl⟩:=H
       have ga:= ξ.out
       have gb:= ν.out
       obtain⟨d3,d4,dt,d5,d6,er⟩:=qD3 μ.out
       obtain⟨cm,f8,ge,j9,ja,ji,jj,j6,j7,j8,ed,fa,gf,jk,jl,jm,jn,js,jt,ju⟩:=Zi κ.out
       go_wp2
       go_ret2
       exact⟨by first|rfl|(simp[Ql,Qk] <;> rfl)|(simp only[← a5];first|rfl|(simp[Ql,Qk] <;> rfl))|(simp[*,Ql,Qk] <;> rfl),HB.out⟩
def door_Ask.j0:Nat→Bool→Int→Int→Int→Int→Int→Int→Int→Int→Int→Int→Option (Int×Int×Int×Int)
 |0,_,_,_,_,_,_,_,_,_,_,_=>none
 |k+1,O,Z,γ,J,δ,ε,ζ,η,B,X,Y=>if O=true then (some (0,0,0,170)) else (if B=0 then (some (1,J,0,0)) else (some (B,X,Y,0)))
def door_Ask.f (k:Nat) (B:Int) (J:Int) (O:Int) (Y:Int) (Z:Int) (γ:Int) (δ :Int) (X:Int) (ζ :Int) (ι :Int):Option (Int×Int×Int×Int):=(door_times.f k B J O Y Z γ δ).bind fun a0=>(if a0=true then ((door_Check.f X ζ ι).bind fun ψ =>(door_Ask.j0 k (ψ != 0) B J O Y Z γ δ X ζ ι)) else (door_Ask.j0 k true B J O Y Z γ δ X ζ ι))
theorem door_Ask.Z6:∀ k,(∀ O X Z B Y y5 y6 y7 y8 y9 γ,LeO (door_Ask.j0 k O X Z B Y y5 y6 y7 y8 y9 γ) (door_Ask.j0 (k+1) O X Z B Y y5 y6 y7 y8 y9 γ))
 |0=>fun _ _ _ _ _ _ _ _ _ _ _ r h=>by simp[door_Ask.j0] at h
 |k+1=>by
  have J:=door_Ask.Z6 k
  ·intro O X Z B Y y5 y6 y7 y8 y9 γ
   unfold door_Ask.j0
   repeat' first|(with_reducible first|apply J|apply door_times.mono|exact LeO.refl _|exact LeO.none _|refine LeO.ite ?_ ?_|refine LeO.bind ?_ (fun _=>?_))|apply J|apply door_times.mono|exact LeO.none _|refine LeO.ite ?_ ?_|refine LeO.bind ?_ (fun _=>?_)
theorem door_Ask.mono:∀ B Z a2 a3 O a5 X a7 a8 a9 k,LeO (door_Ask.f k B Z a2 a3 O a5 X a7 a8 a9) (door_Ask.f (k+1) B Z a2 a3 O a5 X a7 a8 a9):=by
 intro B Z a2 a3 O a5 X a7 a8 a9 k
 have J:=door_Ask.Z6 k
 unfold door_Ask.f
 repeat' first|(with_reducible first|apply J|apply door_times.mono|exact LeO.refl _|exact LeO.none _|refine LeO.ite ?_ ?_|refine LeO.bind ?_ (fun _=>?_))|apply J|apply door_times.mono|exact LeO.none _|refine LeO.ite ?_ ?_|refine LeO.bind ?_ (fun _=>?_)
theorem door_Ask.calls (k:Nat) (B:Int) (J:Int) (O:Int) (Y:Int) (Z:Int) (γ:Int) (δ :Int) (X:Int) (ζ :Int) (ι :Int) (r1:Int) (r2:Int) (r3:Int) (r4:Int) (w:World) (h:door_Ask.f k B J O Y Z γ δ X ζ ι = some (r1,r2,r3,r4)):
 Calls Try.prog 46 #[.agg #[nI B,nI J,nI O,nI Y,nI Z,nI γ,nI δ],.agg #[nI X,nI ζ,nI ι]] w fun e w'=>e = .returned (.tuple #[.agg #[nI r1,nI r2,nI r3],nI r4])∧Below w.heap.size w w':=by
 have jb:=Try.underlying23
 have fi:=Try.underlying27
 have HB:=aK (Below.refl w.heap.size w)
 have H:((door_times.f k B J O Y Z γ δ).bind fun a0=>(if a0=true then ((door_Check.f X ζ ι).bind fun ψ =>(door_Ask.j0 k (ψ != 0) B J O Y Z γ δ X ζ ι)) else (door_Ask.j0 k true B J O Y Z γ δ X ζ ι)))=some (r1,r2,r3,r4):=h
 clear h
 have ao:=aK H
 clear H
 go_enter Try.func46,Try.ntmps46
 go_upto_region 1 with(first|((with_reducible refine Qe (N:=2) rfl ?_);refine qE 2 #[nI B,nI J,nI O,nI Y,nI Z,nI γ,nI δ] 23 ?_;intro a2 hg w4 hbox hb;have ε :=aK hbox;have a7:=sGe hg;have a8:=sGe hg;replace HB:=sHb hb;clear hb hbox hg)|((with_reducible refine Qe (N:=3) rfl ?_);refine qE 3 #[nI X,nI ζ,nI ι] 27 ?_;intro a5 hg w5 hbox hb;have η :=aK hbox;have a9:=sGe hg;have aa:=sGe hg;have ξ :=sNl ε hg;have ρ:=sNg ε hg;replace ε :=sBk ε hb;replace HB:=sHb hb;clear hb hbox hg)|((with_reducible refine Qe (N:=4) rfl ?_);refine qE 4 #[nI 0,nI 0,nI 0] 27 ?_;intro τ hg w6 hbox hb;have θ :=aK hbox;have ab:=sGe hg;have al:=sGe hg;have μ :=sNl ε hg;have ν :=sNg ε hg;have σ:=sNl η hg;have κ :=sNg η hg;replace ε :=sBk ε hb;replace η :=sBk η hb;replace HB:=sHb hb;clear hb hbox hg))
 (try simp only[Act.put,qS])
 go_cut [13] (fun hh wc=>∃ (kq:Nat) (ac:Bool),hh = .bool ac∧Aside0 (door_Ask.j0 kq ac B J O Y Z γ δ X ζ ι = some (r1,r2,r3,r4))∧Aside0 (kq≤k)∧Aside0 (wc.heap[a2]?=some (.cells #[nI B,nI J,nI O,nI Y,nI Z,nI γ,nI δ] 23 (0,0)))∧Aside0 (wc.heap[a5]?=some (.cells #[nI X,nI ζ,nI ι] 27 (0,0)))∧Aside0 (wc.heap[τ]?=some (.cells #[nI 0,nI 0,nI 0] 27 (0,0)))∧Aside0 (Below w.heap.size w wc))
 case first=>
  have H:=ao.out
  clear ao
  obtain⟨a0,A7,H⟩:=qQ H
  by_cases c8:a0=true
  ·subst c8
   rw[if_pos rfl] at H
   obtain⟨ψ,A9,H⟩:=qQ H
   have H':=aK H
   clear H
   have cx:= ξ.out
   have dj:=ρ.out
   have du:= μ.out
   have e4:= ν.out
   obtain⟨a1,a3,ae,ap,b5,be,fc,af,ar,ah,fe,ff,fg,fh⟩:=qD7 ε.out
   go_wp2_with (first|((with_reducible refine Qf (f:=70) rfl ?_);refine Q0 (some 7) rfl rfl Try.func70 kr rfl #[.agg #[nI B,nI J,nI O,nI Y,nI Z,nI γ,nI δ]] rfl qM ?_;(with_reducible refine(door_times.calls k B J O Y Z γ δ true _ A7.out).mono ?_);rintro e eh ⟨rfl,hb⟩;refine⟨_,rfl, ?_⟩;replace ε :=sBk ε hb;replace η :=sBk η hb;replace θ :=sBk θ hb;replace HB:=sHb hb;(try clear hb);(try clear a4);(try clear hk);(try clear hi);have e5:=σ.out;have e6:= κ.out;obtain⟨bf,bp,dn,bu,bw,dp⟩:=qD3 η.out)|(go_at_call 71;(with_reducible refine(door_Check.calls X ζ ι ψ _ A9.out).mono ?_);rintro e cr ⟨rfl,hb⟩;have φ :=aK (Q1 (g:=a2) (o:=.cells #[nI B,nI J,nI O,nI Y,nI Z,nI γ,nI δ] 23 (0,0)) ε.out hb);have χ :=aK (Q1 (g:=a5) (o:=.cells #[nI X,nI ζ,nI ι] 27 (0,0)) η.out hb);have ω :=aK (Q1 (g:= τ) (o:=.cells #[nI 0,nI 0,nI 0] 27 (0,0)) θ.out hb);have a6:=aK (Q6 HB.out hb);clear ε;clear η;clear θ;clear HB;have ε := φ;have η := χ;have θ := ω;have HB:=a6;clear φ χ ω a6;(try clear hb);(try clear a4);(try clear hk);(try clear hi)))
   go_meet
   case rel=>exact⟨_,((ψ != 0)),rfl,H',⟨by first|omega|exact Nat.le_refl _⟩,ε,η,θ,HB⟩
  ·replace c8:=Bool.eq_false_iff.mpr c8
   subst c8
   rw[if_neg nft] at H
   have H':=aK H
   clear H
   have et:= ξ.out
   have gk:=ρ.out
   have db:= μ.out
   have dc:= ν.out
   obtain⟨ag,ai,b3,ba,bb,cv,d7,aj,am,b4,d8,d9,dd,de⟩:=qD7 ε.out
   go_wp2_with (first|((with_reducible refine Qf (f:=70) rfl ?_);refine Q0 (some 7) rfl rfl Try.func70 kr rfl #[.agg #[nI B,nI J,nI O,nI Y,nI Z,nI γ,nI δ]] rfl qM ?_;(with_reducible refine(door_times.calls k B J O Y Z γ δ false _ A7.out).mono ?_);rintro e dw ⟨rfl,hb⟩;refine⟨_,rfl, ?_⟩;replace ε :=sBk ε hb;replace η :=sBk η hb;replace θ :=sBk θ hb;replace HB:=sHb hb;(try clear hb);(try clear a4);(try clear hk);(try clear hi)))
   go_meet
   case rel=>exact⟨_,(true),rfl,H',⟨by first|omega|exact Nat.le_refl _⟩,ε,η,θ,HB⟩
 case rest=>
  clear ao
  obtain⟨kq,ac,rfl,HA,cf,ε,η,θ,HB⟩:=hcut
  cases kq with
  |zero=>exact absurd HA.out (by simp[door_Ask.j0])
  |succ e3=>
   have H:=HA.out
   clear HA
   simp only[door_Ask.j0] at H
   by_cases ak:ac=true
   ·subst ak
    rw[if_pos rfl] at H
    simp only[Option.some.injEq,Prod.mk.injEq] at H
    obtain⟨rfl,rfl,rfl,rfl⟩:=H
    have ek:= ν.out
    have el:= μ.out
    have d2:= κ.out
    have dx:=σ.out
    obtain⟨au,av,bs,aw,ax,bv⟩:=qD3 θ.out
    go_wp2
    refine bodyPost_ret (Xe rfl _ _ τ 27 #[nI 0,nI 0,nI 0] (0,0) _ rfl (by refine Qo (cs:=#[nI 0,nI 0,nI 0]) ?_ 2 _ rfl;refine Qo (cs:=#[nI 0,nI 0,nI 0]) ?_ 1 _ rfl;refine Qo (cs:=#[nI 0,nI 0,nI 0]) ?_ 0 _ rfl;exact θ.out) Try.underlying27 rfl kr) rfl ?_
    exact⟨by first|rfl|(simp[Ql,Qk] <;> rfl)|(simp[*,Ql,Qk] <;> rfl),bel⟩
   ·replace ak:=Bool.eq_false_iff.mpr ak
    subst ak
    rw[if_neg nft] at H
    by_cases b8:X=0
    ·rw[if_pos b8] at H
     have c25b0:(X==0)=true:=beq_iff_eq.mpr b8
     have c25b1:(X != 0)=false:=bne_eq_false_iff_eq.mpr b8
     clear b8
     simp only[Option.some.injEq,Prod.mk.injEq] at H
     obtain⟨rfl,rfl,rfl,rfl⟩:=H
     have cw:=ρ.out
     have gq:= ξ.out
     have fy:=σ.out
     have fz:= κ.out
     obtain⟨ew,fk,fl,ey,fm,fn⟩:=qD3 η.out
     have e7:= μ.out
     have e8:= ν.out
     obtain⟨bd,ea,ez,bc,fo,fp,fq,eb,ec,f7,fr,ft,fu,fv⟩:=qD7 ε.out
     obtain⟨bj,ck,dl,cn,co,dm⟩:=qD3 θ.out
     go_wp2
     refine bodyPost_ret (Xe rfl _ _ τ 27 #[nI 1,nI O,nI 0] (0,0) _ rfl (by refine Qo (cs:=#[nI 1,nI O,nI 0]) ?_ 2 _ rfl;refine Qo (cs:=#[nI 1,nI 0,nI 0]) ?_ 1 _ rfl;refine Qo (cs:=#[nI 0,nI 0,nI 0]) ?_ 0 _ rfl;refine Ym ?_ κ.out _;refine Ym ?_ κ.out _;refine Ym ?_ κ.out _;exact θ.out) Try.underlying27 rfl kr) rfl ?_
     exact⟨by first|rfl|(simp[Ql,Qk] <;> rfl)|(simp[*,Ql,Qk] <;> rfl),bel⟩
    ·rw[if_neg b8] at H
     have c25b0:(X==0)=false:=beq_eq_false_iff_ne.mpr b8
     have c25b1:(X != 0)=true:=bne_iff_ne.mpr b8
     simp only[Option.some.injEq,Prod.mk.injEq] at H
     obtain⟨rfl,rfl,rfl,rfl⟩:=H
     have ga:=ρ.out
     have gb:= ξ.out
     have gx:=σ.out
     have gy:= κ.out
     obtain⟨cm,f8,ge,ed,fa,gf⟩:=qD3 η.out
     have ix:= ν.out
     have iy:= μ.out
     obtain⟨dv,ee,fb,ef,eg,gw⟩:=qD3 θ.out
     go_wp2
     refine bodyPost_ret (Xe rfl _ _ τ 27 #[nI X,nI ζ,nI ι] (0,0) _ rfl (by refine Qo (cs:=#[nI X,nI ζ,nI 0]) ?_ 2 _ rfl;refine Qo (cs:=#[nI X,nI 0,nI 0]) ?_ 1 _ rfl;refine Qo (cs:=#[nI 0,nI 0,nI 0]) ?_ 0 _ rfl;exact θ.out) Try.underlying27 rfl kr) rfl ?_
     exact⟨by first|rfl|(simp[Ql,Qk] <;> rfl)|(simp[*,Ql,Qk] <;> rfl),bel⟩
end Go.Proofs.Ytmfffemidlhcpaa.C
namespace Go.Proofs.Ytmfffemidlhcpaa.DoorPure
open Go.RowKit Go.Proofs.YtmfffemidlhcpaaW.PrintWords Go.Proofs.YtmfffemidlhcpaaW.PrintLast Go.Proofs.YtmfffemidlhcpaaW.PrintMore Go.Proofs.Ytmfffemidlhcpaa.C
abbrev tI (n:Int):Prop:=1≤n∧n≤60
abbrev Jw (Z t1 Y t3 t4 t5 B:Int):Prop:=(tI Z∧tI t1∧tI Y∧tI t3∧tI t4∧tI t5)∧0≤B∧B≤60
abbrev X0 (g0 g1 g2 g3 g4 g5 g6 g7 g8 g9:Int):Prop:=Jw g1 g2 g3 g4 g5 g6 g7∧(2≤g0∧g0≤64)∧(1≤g8∧g8≤300)∧0≤g9∧g9≤60
abbrev Xx (J d1 X:Int):Prop:=(J=0∧d1=0∧X=0)∨((J=1∨J=3)∧1≤d1∧d1≤60∧0≤X∧X≤60)∨(J=2∧1≤d1∧d1≤300∧0≤X∧X≤60)
theorem Xm (n a b:Int):door_within.f n a b=some (decide (a≤n∧n≤b)):=by
 unfold door_within.f
 by_cases h:a≤n
 ·rw[if_pos h];simp[h]
 ·rw[if_neg h];simp[h]
theorem rdn (l:List Int) (i:Nat) (h:i<l.length):rd l (i:Int)=l[i]:=by
 simp[rd,h]
theorem Lc (l:List Int) (hl:l.length≤1000) (Z t1 Y t3 t4 t5 B:Int) (j:Nat):∀ (f i:Nat),i+j=l.length→j<f→door_times.l0 f l (l.length:Int) (i:Int) Z t1 Y t3 t4 t5 B=some (decide ((∀ x ∈ l.drop i,tI x)∧0≤B∧B≤60)):=by
 induction j with
 |zero=>
  intro f i h hf
  obtain⟨f,rfl⟩:∃ m,f=m+1:=⟨f-1,by omega⟩
  simp only[door_times.l0]
  rw[if_neg (by omega),Xm,List.drop_of_length_le (by omega)]
  simp
 |succ j ih=>
  intro f i h hf
  obtain⟨f,rfl⟩:∃ m,f=m+1:=⟨f-1,by omega⟩
  have hlt:i<l.length:=by omega
  have ei:wrap64 ((i:Int)+1)=((i+1:Nat):Int):=by unfold wrap64;omega
  simp only[door_times.l0]
  rw[if_pos (by omega),if_pos (by omega),if_pos (by omega),rdn l i hlt,Xm,ei,ih f (i+1) (by omega) (by omega),List.drop_eq_getElem_cons hlt]
  simp only[Option.bind_some]
  by_cases hc:1≤l[i]∧l[i]≤60
  ·rw[decide_eq_true hc,if_pos rfl]
   congr 1
   rw[decide_eq_decide]
   constructor
   ·rintro⟨h1,O⟩
    refine⟨fun x hx=>?_,O⟩
    rcases List.mem_cons.1 hx with rfl|hx
    ·exact hc
    ·exact h1 x hx
   ·rintro⟨h1,O⟩
    exact⟨fun x hx=>h1 x (List.mem_cons_of_mem _ hx),O⟩
  ·have:¬ ((∀ x ∈ l[i] :: l.drop (i+1),tI x)∧0≤B∧B≤60):=fun h=>hc (h.1 _ List.mem_cons_self)
   rw[decide_eq_false hc,if_neg (by decide),decide_eq_false this]
theorem Wa (Z t1 Y t3 t4 t5 B:Int) (f:Nat) (hf:10<f):door_times.f f Z t1 Y t3 t4 t5 B=some (decide (Jw Z t1 Y t3 t4 t5 B)):=by
 unfold door_times.f
 simp only[Option.bind_some]
 have:=Lc [Z,t1,Y,t3,t4,t5] (by simp) Z t1 Y t3 t4 t5 B 6 f 0 rfl (by omega)
 rw[show((0:Nat):Int)=0 from rfl] at this
 rw[this]
 congr 1
 rw[decide_eq_decide]
 simp only[List.drop_zero,List.mem_cons,List.not_mem_nil,or_false,forall_eq_or_imp,forall_eq]
theorem Cb (g0 g1 g2 g3 g4 g5 g6 g7 g8 g9:Int) (f:Nat) (hf:10<f):door_gear.f f g0 g1 g2 g3 g4 g5 g6 g7 g8 g9=some (decide (X0 g0 g1 g2 g3 g4 g5 g6 g7 g8 g9)):=by
 unfold door_gear.f
 rw[Wa _ _ _ _ _ _ _ f hf,Xm,Xm,Xm]
 simp only[Option.bind_some]
 by_cases h1:Jw g1 g2 g3 g4 g5 g6 g7
 ·rw[decide_eq_true h1,if_pos rfl]
  by_cases O:2≤g0∧g0≤64
  ·rw[decide_eq_true O,if_pos rfl]
   by_cases h3:1≤g8∧g8≤300
   ·rw[decide_eq_true h3,if_pos rfl]
    congr 1
    rw[decide_eq_decide]
    exact⟨fun h=>⟨h1,O,h3,h⟩,fun h=>h.2.2.2⟩
   ·rw[decide_eq_false h3,if_neg (by decide),decide_eq_false (fun h=>h3 h.2.2.1)]
  ·rw[decide_eq_false O,if_neg (by decide),decide_eq_false (fun h=>O h.2.1)]
 ·rw[decide_eq_false h1,if_neg (by decide),decide_eq_false (fun h=>h1 h.1)]
theorem on_eq (J d1 X a b:Int):door_on.f J d1 X a b=some (if wrap64 (d1-1)=0 then (a,b,X) else (J,wrap64 (d1-1),X)):=by
 unfold door_on.f
 split <;> rfl
theorem Ja (J d1 X:Int):door_Check.f J d1 X=some (if Xx J d1 X then 0 else 170):=by
 unfold door_Check.f
 rw[Xm,Xm,Xm,on_eq]
 simp only[Option.bind_some]
 by_cases h:0≤J∧J≤3
 ·rw[decide_eq_true h,if_pos rfl]
  have hm:(mn (Xk J) 1≤d1∧d1≤Xk J)∧(0≤X∧X≤mn (Xk J) 60)↔Xx J d1 X:=by
   have e:J=0∨J=1∨J=2∨J=3:=by omega
   rcases e with rfl|rfl|rfl|rfl <;> simp[Xk,mn] <;> omega
  by_cases h1:mn (Xk J) 1≤d1∧d1≤Xk J
  ·rw[decide_eq_true h1,if_pos rfl]
   by_cases O:0≤X∧X≤mn (Xk J) 60
   ·rw[decide_eq_true O,if_pos rfl,if_pos (hm.1 ⟨h1,O⟩)]
   ·rw[decide_eq_false O,if_neg (by decide),if_neg (fun h=>O (hm.2 h).2)]
  ·rw[decide_eq_false h1,if_neg (by decide),if_neg (fun h=>h1 (hm.2 h).1)]
 ·rw[decide_eq_false h,if_neg (by decide),if_neg (by omega)]
def J7 (g3 g6 g8 g9 J d1 X:Int):Int:=
 if J=0 then 0 else d1+(if J=1 then g8+g6 else if J=2 then g6 else 0)+(if X<g9 then (g9-X) * (g3+g8+g6) else 0)
theorem Dm {a b:Int} (ha:0≤a∧a≤60) (hb:0≤b∧b≤420):0≤a * b∧a * b≤25200:=by
 refine⟨Int.mul_nonneg ha.1 hb.1, ?_⟩
 have h1:a * b≤60 * b:=Int.mul_le_mul_of_nonneg_right ha.2 hb.1
 omega
theorem w64 {n:Int} (h: -1000000000000≤n∧n≤1000000000000):wrap64 n=n:=by unfold wrap64;omega
theorem Vl (g0 g1 g2 g3 g4 g5 g6 g7 g8 g9 J d1 X:Int) (hg:X0 g0 g1 g2 g3 g4 g5 g6 g7 g8 g9) (hd:Xx J d1 X):
 wrap64 ((mx (wrap64 (g9-X)) 0) * (wrap64 ((wrap64 (g3+g8))+g6)))=(if X<g9 then (g9-X) * (g3+g8+g6) else 0)∧0≤(if X<g9 then (g9-X) * (g3+g8+g6) else 0)∧(if X<g9 then (g9-X) * (g3+g8+g6) else 0)≤25200:=by
 have Z:1≤g3∧g3≤60:=hg.1.1.2.2.1
 have a2:1≤g6∧g6≤60:=hg.1.1.2.2.2.2.2
 have a3:1≤g8∧g8≤300:=hg.2.2.1
 have O:0≤g9∧g9≤60:=hg.2.2.2
 have a5:0≤X∧X≤60:=by omega
 rw[w64 (n:=g9-X) (by omega),w64 (n:=g3+g8) (by omega),w64 (n:=g3+g8+g6) (by omega)]
 by_cases h:X<g9
 ·have hp:=Dm (a:=g9-X) (b:=g3+g8+g6) (by omega) (by omega)
  rw[if_pos h]
  have e:mx (g9-X) 0=g9-X:=by unfold mx;rw[if_neg (by omega)]
  rw[e]
  exact⟨w64 (by omega),hp⟩
 ·rw[if_neg h]
  have e:mx (g9-X) 0=0:=by unfold mx;split <;> omega
  rw[e,Int.zero_mul]
  exact⟨w64 (by omega),by omega,by omega⟩
theorem Mb (g0 g1 g2 g3 g4 g5 g6 g7 g8 g9 J d1 X:Int) (f:Nat) (hf:10<f):
 door_Rest.f f g0 g1 g2 g3 g4 g5 g6 g7 g8 g9 J d1 X=some (if X0 g0 g1 g2 g3 g4 g5 g6 g7 g8 g9∧Xx J d1 X then (J7 g3 g6 g8 g9 J d1 X,0) else (0,170)):=by
 unfold door_Rest.f
 rw[Cb _ _ _ _ _ _ _ _ _ _ f hf,Ja]
 simp only[Option.bind_some]
 obtain⟨f,rfl⟩:∃ m,f=m+1:=⟨f-1,by omega⟩
 by_cases h1:X0 g0 g1 g2 g3 g4 g5 g6 g7 g8 g9
 ·rw[decide_eq_true h1,if_pos rfl]
  by_cases O:Xx J d1 X
  ·rw[if_pos O,if_pos (show X0 g0 g1 g2 g3 g4 g5 g6 g7 g8 g9∧Xx J d1 X from⟨h1,O⟩)]
   obtain⟨m1,B,m3⟩:=Vl _ _ _ _ _ _ _ _ _ _ _ _ _ h1 O
   have a2:1≤g6∧g6≤60:=h1.1.1.2.2.2.2.2
   have a3:1≤g8∧g8≤300:=h1.2.2.1
   simp only[door_Rest.j0]
   rw[m1]
   unfold J7
   generalize(if X<g9 then (g9-X) * (g3+g8+g6) else 0)=p at B m3 ⊢
   rw[if_neg (by decide)]
   have hb:0≤d1∧d1≤300:=by omega
   by_cases e0:J=0
   ·rw[if_pos e0,if_pos e0]
   ·rw[if_neg e0,if_neg e0]
    by_cases e1:J=1
    ·rw[if_pos e1,if_pos e1,w64 (n:=g8+g6) (by omega),w64 (n:=d1+(g8+g6)) (by omega),w64 (by omega)]
    ·rw[if_neg e1,if_neg e1]
     by_cases Y:J=2
     ·rw[if_pos Y,if_pos Y,w64 (n:=d1+g6) (by omega),w64 (by omega)]
     ·rw[if_neg Y,if_neg Y,w64 (by omega),Int.add_zero]
  ·rw[if_neg O,if_neg (fun h=>O h.2)]
   simp only[door_Rest.j0]
   rw[if_pos (by decide)]
 ·rw[decide_eq_false h1,if_neg (by decide),if_neg (fun h=>h1 h.1)]
  simp only[door_Rest.j0]
  rw[if_pos trivial]
theorem Ba (Z t1 Y t3 t4 t5 B J d1 X:Int) (f:Nat) (hf:10<f):
 door_Ask.f f Z t1 Y t3 t4 t5 B J d1 X=some (if Jw Z t1 Y t3 t4 t5 B∧Xx J d1 X then (if J=0 then (1,Y,0,0) else (J,d1,X,0)) else (0,0,0,170)):=by
 unfold door_Ask.f
 rw[Wa _ _ _ _ _ _ _ f hf,Ja]
 simp only[Option.bind_some]
 obtain⟨f,rfl⟩:∃ m,f=m+1:=⟨f-1,by omega⟩
 by_cases h1:Jw Z t1 Y t3 t4 t5 B
 ·rw[decide_eq_true h1,if_pos rfl]
  by_cases O:Xx J d1 X
  ·rw[if_pos O,if_pos (show Jw Z t1 Y t3 t4 t5 B∧Xx J d1 X from⟨h1,O⟩)]
   simp only[door_Ask.j0]
   rw[if_neg (by decide)]
   split <;> rfl
  ·rw[if_neg O,if_neg (fun h=>O h.2)]
   simp only[door_Ask.j0]
   rw[if_pos (by decide)]
 ·rw[decide_eq_false h1,if_neg (by decide),if_neg (fun h=>h1 h.1)]
  simp only[door_Ask.j0]
  rw[if_pos trivial]
theorem N8 (n:Int):newelref17_tick.f n=some (decide (tI n)):=by
 unfold newelref17_tick.f
 by_cases h:n≥1
 ·rw[if_pos h];congr 1;rw[decide_eq_decide];omega
 ·rw[if_neg h,decide_eq_false (by omega)]
theorem My (Z t1 Y t3 t4 t5 B:Int):newelref17_Times.f Z t1 Y t3 t4 t5 B=some (decide (Jw Z t1 Y t3 t4 t5 B)):=by
 unfold newelref17_Times.f
 simp only[N8,Option.bind_some]
 by_cases X:tI Z <;> by_cases h1:tI t1 <;> by_cases O:tI Y <;> by_cases h3:tI t3 <;> by_cases h4:tI t4 <;> by_cases J:tI t5 <;> by_cases h6:B≥0 <;> simp[X,h1,O,h3,h4,J,h6] <;> omega
theorem Eb (g0 g1 g2 g3 g4 g5 g6 g7 g8 g9:Int):newelref17_Gear.f g0 g1 g2 g3 g4 g5 g6 g7 g8 g9=some (decide (X0 g0 g1 g2 g3 g4 g5 g6 g7 g8 g9)):=by
 unfold newelref17_Gear.f
 rw[My]
 simp only[Option.bind_some]
 by_cases h1:Jw g1 g2 g3 g4 g5 g6 g7
 ·rw[decide_eq_true h1,if_pos rfl]
  have e:X0 g0 g1 g2 g3 g4 g5 g6 g7 g8 g9↔((2≤g0∧g0≤64)∧(1≤g8∧g8≤300)∧0≤g9∧g9≤60):=⟨fun h=>h.2,fun h=>⟨h1,h⟩⟩
  rw[show decide (X0 g0 g1 g2 g3 g4 g5 g6 g7 g8 g9)=decide ((2≤g0∧g0≤64)∧(1≤g8∧g8≤300)∧0≤g9∧g9≤60) from decide_eq_decide.2 e]
  clear e h1
  repeat' split
  all_goals congr 1
  all_goals first|(rw[decide_eq_decide];omega)|(symm;rw[decide_eq_false_iff_not];omega)
 ·rw[decide_eq_false h1,if_neg (by decide),decide_eq_false (fun h=>h1 h.1)]
theorem C7 (J d1 X:Int) (f:Nat) (hf:2<f):newelref17_May.f f J d1 X=some (decide (Xx J d1 X)):=by
 obtain⟨f,rfl⟩:∃ m,f=m+1:=⟨f-1,by omega⟩
 unfold newelref17_May.f
 simp only[newelref17_May.j0]
 by_cases e0:J=0
 ·rw[if_pos e0]
  by_cases e1:d1=0
  ·rw[if_pos e1];congr 1
   by_cases Y:X=0
   ·rw[decide_eq_true (by omega)];simp[Y]
   ·rw[decide_eq_false (by omega)];simp[Y]
  ·rw[if_neg e1,decide_eq_false (by omega)]
 ·rw[if_neg e0]
  by_cases h1:X<0
  ·rw[if_pos h1,if_pos trivial,decide_eq_false (by omega)]
  ·rw[if_neg h1]
   by_cases O:X>60
   ·rw[if_pos O,if_pos trivial,decide_eq_false (by omega)]
   ·rw[if_neg O]
    by_cases h3:d1<1
    ·rw[decide_eq_true h3,if_pos rfl,decide_eq_false (by omega)]
    ·rw[decide_eq_false h3,if_neg (by decide)]
     by_cases Y:J=2
     ·rw[if_pos Y];congr 1;rw[decide_eq_decide];omega
     ·rw[if_neg Y]
      by_cases e1:J=1
      ·rw[if_pos e1];congr 1;rw[decide_eq_decide];omega
      ·rw[if_neg e1]
       by_cases e3:J=3
       ·rw[if_pos e3];congr 1;rw[decide_eq_decide];omega
       ·rw[if_neg e3,decide_eq_false (by omega)]
theorem Wg (g0 g1 g2 g3 g4 g5 g6 g7 g8 g9 J d1 X:Int) (hg:X0 g0 g1 g2 g3 g4 g5 g6 g7 g8 g9) (hd:Xx J d1 X) (f:Nat) (hf:4<f):
 newelref17_Rest.f f g0 g1 g2 g3 g4 g5 g6 g7 g8 g9 J d1 X=some (J7 g3 g6 g8 g9 J d1 X):=by
 obtain⟨f,rfl⟩:∃ m,f=m+2:=⟨f-2,by omega⟩
 obtain⟨-,B,m3⟩:=Vl _ _ _ _ _ _ _ _ _ _ _ _ _ hg hd
 have Z:1≤g3∧g3≤60:=hg.1.1.2.2.1
 have a2:1≤g6∧g6≤60:=hg.1.1.2.2.2.2.2
 have a3:1≤g8∧g8≤300:=hg.2.2.1
 have O:0≤g9∧g9≤60:=hg.2.2.2
 have a5:0≤X∧X≤60:=by omega
 have hb:0≤d1∧d1≤300:=by omega
 unfold newelref17_Rest.f J7
 simp only[newelref17_Rest.j0]
 rw[w64 (n:=g3+g8) (by omega),w64 (n:=g3+g8+g6) (by omega),w64 (n:=g9-X) (by omega),w64 (n:=d1+g8) (by omega),w64 (n:=d1+g8+g6) (by omega),w64 (n:=d1+g6) (by omega)]
 by_cases h:X<g9
 ·have h':g9>X:=h
  simp only[if_pos h',if_pos h] at B m3 ⊢
  generalize(g9-X) * (g3+g8+g6)=p at B m3 ⊢
  rw[w64 (n:=p) (by omega),w64 (n:=d1+g8+g6+g6) (by omega),w64 (n:=d1+g8+g6+p) (by omega),w64 (n:=d1+g6+p) (by omega),w64 (n:=d1+p) (by omega)]
  by_cases e0:J=0
  ·simp[e0]
  ·by_cases e1:J=1
   ·simp[e1];omega
   ·by_cases Y:J=2
    ·simp[Y]
    ·simp[e0,e1,Y]
 ·have h':¬ g9>X:=h
  simp only[if_neg h',if_neg h] at B m3 ⊢
  rw[w64 (n:=d1+g8+g6+g6) (by omega)]
  by_cases e0:J=0
  ·simp[e0]
  ·by_cases e1:J=1
   ·simp[e1];omega
   ·by_cases Y:J=2
    ·simp[Y]
    ·simp[e0,e1,Y]
end Go.Proofs.Ytmfffemidlhcpaa.DoorPure
namespace Go.Proofs.Ytmfffemidlhcpaa.C
open Go.RowKit Go.Proofs.YtmfffemidlhcpaaW.PrintWords Go.Proofs.YtmfffemidlhcpaaW.PrintLast Go.Proofs.YtmfffemidlhcpaaW.PrintMore
attribute [local go_sem] Z2 Z0 Xb Xa Zt Zs Z1 Zz
def car_Check.j0:Nat→Int→Bool→Int→Int→Int→Int→Int→Int→Int→Option (Int)
 |0,_,_,_,_,_,_,_,_,_=>none
 |k+1,B,X,γ,J,Z,O,Y,δ,ε =>if Z=0 then (if X=true then (if J=0 then (if O=0 then (if Y=0 then (some 0) else (some 180)) else (some 180)) else (some 180)) else (some 180)) else (if Z=1 then (if X=true then (if J=1 then ((car_within.f (wrap64 (γ+J)) 0 (wrap64 (B-1))).bind fun ax=>(if ax=true then ((car_within.f O 1 60).bind fun ay=>(if ay=true then (if Y=0 then (some 0) else (some 180)) else (some 180))) else (some 180))) else (if J=(-1) then ((car_within.f (wrap64 (γ+J)) 0 (wrap64 (B-1))).bind fun bo=>(if bo=true then ((car_within.f O 1 60).bind fun bp=>(if bp=true then (if Y=0 then (some 0) else (some 180)) else (some 180))) else (some 180))) else (some 180))) else (some 180)) else (if Z=2 then (if X=true then (if J=0 then ((car_within.f O 1 60).bind fun bs=>(if bs=true then (if Y=0 then (some 0) else (some 180)) else (some 180))) else (some 180)) else (some 180)) else (if Z=3 then (if X=true then (if J=0 then (if O=0 then (if Y=0 then (some 180) else (some 0)) else (some 180)) else (some 180)) else (some 180)) else (some 180))))
def car_Check.f (k:Nat) (B:Int) (X:Int) (ζ :Int) (ι :Int) (ν :Int) (κ :Int) (ξ :Int) (ρ:Int):Option (Int):=(car_within.f B 2 64).bind fun θ =>(if θ = true then ((car_within.f X 0 (wrap64 (B-1))).bind fun μ =>(if μ = true then ((door_Check.f κ ξ ρ).bind fun Z=>(car_Check.j0 k B (Z==0) X ζ ι ν κ ξ ρ)) else (car_Check.j0 k B false X ζ ι ν κ ξ ρ))) else (car_Check.j0 k B false X ζ ι ν κ ξ ρ))
theorem car_Check.Z6:∀ k,(∀ O X Z B Y y5 y6 y7 y8,LeO (car_Check.j0 k O X Z B Y y5 y6 y7 y8) (car_Check.j0 (k+1) O X Z B Y y5 y6 y7 y8))
 |0=>fun _ _ _ _ _ _ _ _ _ r h=>by simp[car_Check.j0] at h
 |k+1=>by
  have J:=car_Check.Z6 k
  ·intro O X Z B Y y5 y6 y7 y8
   unfold car_Check.j0
   repeat' first|(with_reducible first|apply J|exact LeO.refl _|exact LeO.none _|refine LeO.ite ?_ ?_|refine LeO.bind ?_ (fun _=>?_))|apply J|exact LeO.none _|refine LeO.ite ?_ ?_|refine LeO.bind ?_ (fun _=>?_)
theorem car_Check.mono:∀ B Z a2 a3 O a5 X a7 k,LeO (car_Check.f k B Z a2 a3 O a5 X a7) (car_Check.f (k+1) B Z a2 a3 O a5 X a7):=by
 intro B Z a2 a3 O a5 X a7 k
 have J:=car_Check.Z6 k
 unfold car_Check.f
 repeat' first|(with_reducible first|apply J|exact LeO.refl _|exact LeO.none _|refine LeO.ite ?_ ?_|refine LeO.bind ?_ (fun _=>?_))|apply J|exact LeO.none _|refine LeO.ite ?_ ?_|refine LeO.bind ?_ (fun _=>?_)
theorem car_Check.calls (k:Nat) (B:Int) (X:Int) (ζ :Int) (ι :Int) (ν :Int) (κ :Int) (ξ :Int) (ρ:Int) (r:Int) (w:World) (h:car_Check.f k B X ζ ι ν κ ξ ρ=some r):
 Calls Try.prog 69 #[nI B,.agg #[nI X,nI ζ,nI ι,nI ν,nI κ,nI ξ,nI ρ]] w fun e w'=>e = .returned (nI r)∧Below w.heap.size w w':=by
 have hl:=Try.underlying29
 have fi:=Try.underlying27
 have HB:=aK (Below.refl w.heap.size w)
 have H:((car_within.f B 2 64).bind fun θ =>(if θ = true then ((car_within.f X 0 (wrap64 (B-1))).bind fun μ =>(if μ = true then ((door_Check.f κ ξ ρ).bind fun Z=>(car_Check.j0 k B (Z==0) X ζ ι ν κ ξ ρ)) else (car_Check.j0 k B false X ζ ι ν κ ξ ρ))) else (car_Check.j0 k B false X ζ ι ν κ ξ ρ)))=some r:=h
 clear h
 have ao:=aK H
 clear H
 go_enter Try.func69,Try.ntmps69
 go_upto_region 1 with(first|((with_reducible refine Qe (N:=3) rfl ?_);refine qE 3 #[nI X,nI ζ,nI ι,nI ν,nI κ,nI ξ,nI ρ] 29 ?_;intro bu hg w4 hbox hb;have J:=aK hbox;have oz:=sGe hg;have p0:=sGe hg;replace HB:=sHb hb;clear hb hbox hg))
 (try simp only[Act.put,qS])
 go_cut [5] (fun v5 wc=>∃ (kq:Nat) (γ:Bool),v5 = .bool γ∧Aside0 (car_Check.j0 kq B γ X ζ ι ν κ ξ ρ=some r)∧Aside0 (kq≤k)∧Aside0 (wc.heap[bu]?=some (.cells #[nI X,nI ζ,nI ι,nI ν,nI κ,nI ξ,nI ρ] 29 (0,0)))∧Aside0 (Below w.heap.size w wc))
 case first=>
  have H:=ao.out
  clear ao
  obtain⟨θ,A5,H⟩:=qQ H
  by_cases c6: θ = true
  ·subst c6
   rw[if_pos rfl] at H
   obtain⟨μ,A7,H⟩:=qQ H
   by_cases c8: μ = true
   ·subst c8
    rw[if_pos rfl] at H
    obtain⟨Z,A9,H⟩:=qQ H
    have H':=aK H
    clear H
    go_wp2_with (first|((with_reducible refine Qf (f:=85) rfl ?_);refine Q0 (some 8) rfl rfl Try.func85 kr rfl #[nI B,nI 2,nI 64] rfl qM ?_;(with_reducible refine(car_within.calls B 2 64 true _ A5.out).mono ?_);rintro e w' ⟨rfl,⟨nd,rfl⟩⟩;refine⟨_,rfl, ?_⟩;obtain⟨bg,bh,du,gk,gm,gn,gp,bk,bm,dv,gq,gr,gs,gt⟩:=qD7 J.out)|(go_at_call 85;(with_reducible refine(car_within.calls X 0 (wrap64 (B-1)) true _ A7.out).mono ?_);rintro e w' ⟨rfl,⟨nd,rfl⟩⟩)|(go_at_call 71;(with_reducible refine(door_Check.calls κ ξ ρ Z _ A9.out).mono ?_);rintro e d1 ⟨rfl,hb⟩;have φ :=aK (Q1 (g:=bu) (o:=.cells #[nI X,nI ζ,nI ι,nI ν,nI κ,nI ξ,nI ρ] 29 (0,0)) (bka J) hb);have χ :=aK (Q6 bel hb);clear J;clear HB;have J:= φ;have HB:= χ;clear φ χ;(try clear hb);(try clear a4);(try clear hk);(try clear hi)))
    go_meet
    case rel=>exact⟨_,((Z==0)),rfl,H',⟨by first|omega|exact Nat.le_refl _⟩,J,HB⟩
   ·replace c8:=Bool.eq_false_iff.mpr c8
    subst c8
    rw[if_neg nft] at H
    have H':=aK H
    clear H
    go_wp2_with (first|((with_reducible refine Qf (f:=85) rfl ?_);refine Q0 (some 8) rfl rfl Try.func85 kr rfl #[nI B,nI 2,nI 64] rfl qM ?_;(with_reducible refine(car_within.calls B 2 64 true _ A5.out).mono ?_);rintro e w' ⟨rfl,⟨nd,rfl⟩⟩;refine⟨_,rfl, ?_⟩;obtain⟨a1,a3,ae,ap,b5,be,fc,af,ar,ah,fe,ff,fg,fh⟩:=qD7 J.out)|(go_at_call 85;(with_reducible refine(car_within.calls X 0 (wrap64 (B-1)) false _ A7.out).mono ?_);rintro e w' ⟨rfl,⟨nd,rfl⟩⟩))
    go_meet
    case rel=>exact⟨_,(false),qR,H',⟨by first|omega|exact Nat.le_refl _⟩,⟨bka J⟩,⟨bel⟩⟩
  ·replace c6:=Bool.eq_false_iff.mpr c6
   subst c6
   rw[if_neg nft] at H
   have H':=aK H
   clear H
   go_wp2_with (first|((with_reducible refine Qf (f:=85) rfl ?_);refine Q0 (some 8) rfl rfl Try.func85 kr rfl #[nI B,nI 2,nI 64] rfl qM ?_;(with_reducible refine(car_within.calls B 2 64 false _ A5.out).mono ?_);rintro e w' ⟨rfl,⟨nd,rfl⟩⟩;refine⟨_,rfl, ?_⟩))
   go_meet
   case rel=>exact⟨_,(false),qR,H',⟨by first|omega|exact Nat.le_refl _⟩,⟨bka J⟩,⟨bel⟩⟩
 case rest=>
  clear ao
  obtain⟨kq,γ,rfl,HA,cf,J,HB⟩:=hcut
  cases kq with
  |zero=>exact absurd HA.out (by simp[car_Check.j0])
  |succ e3=>
   have H:=HA.out
   clear HA
   simp only[car_Check.j0] at H
   by_cases a2: ι = 0
   ·rw[if_pos a2] at H
    have c13b0:(ι == 0)=true:=beq_iff_eq.mpr a2
    have c13b1:(ι != 0)=false:=bne_eq_false_iff_eq.mpr a2
    clear a2
    by_cases σ:γ=true
    ·subst σ
     rw[if_pos rfl] at H
     by_cases a8: ζ = 0
     ·rw[if_pos a8] at H
      have c15b0:(ζ == 0)=true:=beq_iff_eq.mpr a8
      have c15b1:(ζ != 0)=false:=bne_eq_false_iff_eq.mpr a8
      clear a8
      by_cases ab: ν = 0
      ·rw[if_pos ab] at H
       have c16b0:(ν == 0)=true:=beq_iff_eq.mpr ab
       have c16b1:(ν != 0)=false:=bne_eq_false_iff_eq.mpr ab
       clear ab
       by_cases ψ : κ = 0
       ·rw[if_pos ψ] at H
        have c17b0:(κ == 0)=true:=beq_iff_eq.mpr ψ
        have c17b1:(κ != 0)=false:=bne_eq_false_iff_eq.mpr ψ
        clear ψ
        obtain rfl:=qJ H
        obtain⟨bl,bz,eu,ak,bn,bq,br,ca,ch,ev,ci,cp,cr,ct⟩:=qD7 J.out
        go_wp2
        go_ret
        exact⟨by first|rfl|(simp[Ql,Qk] <;> rfl)|(simp[*,Ql,Qk] <;> rfl),bel⟩
       ·rw[if_neg ψ] at H
        have c17b0:(κ == 0)=false:=beq_eq_false_iff_ne.mpr ψ
        have c17b1:(κ != 0)=true:=bne_iff_ne.mpr ψ
        obtain rfl:=qJ H
        obtain⟨ag,ai,b3,ba,bb,cv,d7,aj,am,b4,d8,d9,dd,de⟩:=qD7 J.out
        go_wp2
        go_ret
        exact⟨by first|rfl|(simp[Ql,Qk] <;> rfl)|(simp[*,Ql,Qk] <;> rfl),bel⟩
      ·rw[if_neg ab] at H
       have c16b0:(ν == 0)=false:=beq_eq_false_iff_ne.mpr ab
       have c16b1:(ν != 0)=true:=bne_iff_ne.mpr ab
       obtain rfl:=qJ H
       obtain⟨a7,a9,τ,ac,al,b7,cg,aa,an,a6,dw,dx,dy,dz⟩:=qD7 J.out
       go_wp2
       go_ret
       exact⟨rfl,HB.out⟩
     ·rw[if_neg a8] at H
      have c15b0:(ζ == 0)=false:=beq_eq_false_iff_ne.mpr a8
      have c15b1:(ζ != 0)=true:=bne_iff_ne.mpr a8
      obtain rfl:=qJ H
      obtain⟨cq,cy,cz,dc,e4,e7,e8,d2,db,e9,em,en,fk,fl⟩:=qD7 J.out
      go_wp2
      go_ret
      exact⟨rfl,HB.out⟩
    ·replace σ:=Bool.eq_false_iff.mpr σ
     subst σ
     rw[if_neg nft] at H
     obtain rfl:=qJ H
     obtain⟨az,b0,d0,gw,gx,gy,gz,b1,b2,da,h0,h4,h5,h6⟩:=qD7 J.out
     go_wp2
     go_ret
     exact⟨rfl,HB.out⟩
   ·rw[if_neg a2] at H
    have c13b0:(ι == 0)=false:=beq_eq_false_iff_ne.mpr a2
    have c13b1:(ι != 0)=true:=bne_iff_ne.mpr a2
    by_cases O: ι = 1
    ·rw[if_pos O] at H
     have c23b0:(ι == 1)=true:=beq_iff_eq.mpr O
     have c23b1:(ι != 1)=false:=bne_eq_false_iff_eq.mpr O
     clear O
     by_cases au:γ=true
     ·subst au
      rw[if_pos rfl] at H
      by_cases b8: ζ = 1
      ·rw[if_pos b8] at H
       have c25b0:(ζ == 1)=true:=beq_iff_eq.mpr b8
       have c25b1:(ζ != 1)=false:=bne_eq_false_iff_eq.mpr b8
       clear b8
       obtain⟨ax,ef,H⟩:=qQ H
       by_cases bd:ax=true
       ·subst bd
        rw[if_pos rfl] at H
        obtain⟨ay,ei,H⟩:=qQ H
        by_cases a5:ay=true
        ·subst a5
         rw[if_pos rfl] at H
         by_cases δ : κ = 0
         ·rw[if_pos δ] at H
          have c30b0:(κ == 0)=true:=beq_iff_eq.mpr δ
          have c30b1:(κ != 0)=false:=bne_eq_false_iff_eq.mpr δ
          clear δ
          obtain rfl:=qJ H
          obtain⟨bj,ck,dl,ii,ij,ik,j4,cn,co,dm,j5,j6,j7,j8⟩:=qD7 J.out
          go_wp2_with (first|(go_at_call 85;(with_reducible refine(car_within.calls (wrap64 (X + ζ)) 0 (wrap64 (B-1)) true _ ef.out).mono ?_);rintro e w' ⟨rfl,⟨nd,rfl⟩⟩)|(go_at_call 85;(with_reducible refine(car_within.calls ν 1 60 true _ ei.out).mono ?_);rintro e w' ⟨rfl,⟨nd,rfl⟩⟩))
          go_ret
          exact⟨by first|rfl|(simp[Ql,Qk] <;> rfl)|(simp[*,Ql,Qk] <;> rfl),bel⟩
         ·rw[if_neg δ] at H
          have c30b0:(κ == 0)=false:=beq_eq_false_iff_ne.mpr δ
          have c30b1:(κ != 0)=true:=bne_iff_ne.mpr δ
          obtain rfl:=qJ H
          obtain⟨fy,fz,h7,it,iu,iv,iw,ga,gb,h8,ix,iy,iz,j3⟩:=qD7 J.out
          go_wp2_with (first|(go_at_call 85;(with_reducible refine(car_within.calls (wrap64 (X + ζ)) 0 (wrap64 (B-1)) true _ ef.out).mono ?_);rintro e w' ⟨rfl,⟨nd,rfl⟩⟩)|(go_at_call 85;(with_reducible refine(car_within.calls ν 1 60 true _ ei.out).mono ?_);rintro e w' ⟨rfl,⟨nd,rfl⟩⟩))
          go_ret
          exact⟨by first|rfl|(simp[Ql,Qk] <;> rfl)|(simp[*,Ql,Qk] <;> rfl),bel⟩
        ·replace a5:=Bool.eq_false_iff.mpr a5
         subst a5
         rw[if_neg nft] at H
         obtain rfl:=qJ H
         obtain⟨d3,d4,dt,b9,fj,gl,ho,d5,d6,er,hu,hx,hy,i0⟩:=qD7 J.out
         go_wp2_with (first|(go_at_call 85;(with_reducible refine(car_within.calls (wrap64 (X + ζ)) 0 (wrap64 (B-1)) true _ ef.out).mono ?_);rintro e w' ⟨rfl,⟨nd,rfl⟩⟩)|(go_at_call 85;(with_reducible refine(car_within.calls ν 1 60 false _ ei.out).mono ?_);rintro e w' ⟨rfl,⟨nd,rfl⟩⟩))
         go_ret
         exact⟨by first|rfl|(simp[Ql,Qk] <;> rfl)|(simp[*,Ql,Qk] <;> rfl),bel⟩
       ·replace bd:=Bool.eq_false_iff.mpr bd
        subst bd
        rw[if_neg nft] at H
        obtain rfl:=qJ H
        obtain⟨cm,f8,ge,j9,ja,ji,jj,ed,fa,gf,jk,jl,jm,jn⟩:=qD7 J.out
        go_wp2_with (first|(go_at_call 85;(with_reducible refine(car_within.calls (wrap64 (X + ζ)) 0 (wrap64 (B-1)) false _ ef.out).mono ?_);rintro e w' ⟨rfl,⟨nd,rfl⟩⟩))
        go_ret
        exact⟨by first|rfl|(simp[Ql,Qk] <;> rfl)|(simp[*,Ql,Qk] <;> rfl),bel⟩
      ·rw[if_neg b8] at H
       have c25b0:(ζ == 1)=false:=beq_eq_false_iff_ne.mpr b8
       have c25b1:(ζ != 1)=true:=bne_iff_ne.mpr b8
       by_cases ε : ζ = (-1)
       ·rw[if_pos ε] at H
        have c35b0:(ζ == (-1))=true:=beq_iff_eq.mpr ε
        have c35b1:(ζ != (-1))=false:=bne_eq_false_iff_eq.mpr ε
        clear ε
        obtain⟨bo,e0,H⟩:=qQ H
        by_cases df:bo=true
        ·subst df
         rw[if_pos rfl] at H
         obtain⟨bp,cx,H⟩:=qQ H
         by_cases et:bp=true
         ·subst et
          rw[if_pos rfl] at H
          by_cases ea: κ = 0
          ·rw[if_pos ea] at H
           have c40b0:(κ == 0)=true:=beq_iff_eq.mpr ea
           have c40b1:(κ != 0)=false:=bne_eq_false_iff_eq.mpr ea
           clear ea
           obtain rfl:=qJ H
           obtain⟨dn,dp,gu,jc,jd,je,jf,dq,dr,gv,jg,jh,jv,jw⟩:=qD7 J.out
           go_wp2_with (first|(go_at_call 85;(with_reducible refine(car_within.calls (wrap64 (X + ζ)) 0 (wrap64 (B-1)) true _ e0.out).mono ?_);rintro e w' ⟨rfl,⟨nd,rfl⟩⟩)|(go_at_call 85;(with_reducible refine(car_within.calls ν 1 60 true _ cx.out).mono ?_);rintro e w' ⟨rfl,⟨nd,rfl⟩⟩))
           go_ret
           exact⟨by first|rfl|(simp[Ql,Qk] <;> rfl)|(simp[*,Ql,Qk] <;> rfl),bel⟩
          ·rw[if_neg ea] at H
           have c40b0:(κ == 0)=false:=beq_eq_false_iff_ne.mpr ea
           have c40b1:(κ != 0)=true:=bne_iff_ne.mpr ea
           obtain rfl:=qJ H
           obtain⟨fo,fp,ft,eb,m8,m9,ma,fq,fr,fu,mb,mc,me,mf⟩:=qD7 J.out
           go_wp2_with (first|(go_at_call 85;(with_reducible refine(car_within.calls (wrap64 (X + ζ)) 0 (wrap64 (B-1)) true _ e0.out).mono ?_);rintro e w' ⟨rfl,⟨nd,rfl⟩⟩)|(go_at_call 85;(with_reducible refine(car_within.calls ν 1 60 true _ cx.out).mono ?_);rintro e w' ⟨rfl,⟨nd,rfl⟩⟩))
           go_ret
           exact⟨by first|rfl|(simp[Ql,Qk] <;> rfl)|(simp[*,Ql,Qk] <;> rfl),bel⟩
         ·replace et:=Bool.eq_false_iff.mpr et
          subst et
          rw[if_neg nft] at H
          obtain rfl:=qJ H
          obtain⟨k4,ka,kb,kc,kd,ke,kf,kg,kh,ki,kj,kk,kl,km⟩:=qD7 J.out
          go_wp2_with (first|(go_at_call 85;(with_reducible refine(car_within.calls (wrap64 (X + ζ)) 0 (wrap64 (B-1)) true _ e0.out).mono ?_);rintro e w' ⟨rfl,⟨nd,rfl⟩⟩)|(go_at_call 85;(with_reducible refine(car_within.calls ν 1 60 false _ cx.out).mono ?_);rintro e w' ⟨rfl,⟨nd,rfl⟩⟩))
          go_ret
          exact⟨by first|rfl|(simp[Ql,Qk] <;> rfl)|(simp[*,Ql,Qk] <;> rfl),bel⟩
        ·replace df:=Bool.eq_false_iff.mpr df
         subst df
         rw[if_neg nft] at H
         obtain rfl:=qJ H
         obtain⟨e5,ew,m7,mg,mh,mi,mj,e6,ey,ml,mm,mo,mq,mr⟩:=qD7 J.out
         go_wp2_with (first|(go_at_call 85;(with_reducible refine(car_within.calls (wrap64 (X + ζ)) 0 (wrap64 (B-1)) false _ e0.out).mono ?_);rintro e w' ⟨rfl,⟨nd,rfl⟩⟩))
         go_ret
         exact⟨by first|rfl|(simp[Ql,Qk] <;> rfl)|(simp[*,Ql,Qk] <;> rfl),bel⟩
       ·rw[if_neg ε] at H
        have c35b0:(ζ == (-1))=false:=beq_eq_false_iff_ne.mpr ε
        have c35b1:(ζ != (-1))=true:=bne_iff_ne.mpr ε
        obtain rfl:=qJ H
        obtain⟨i3,i4,jx,kw,l5,l6,l7,i5,i6,jy,l8,l9,lb,lc⟩:=qD7 J.out
        go_wp2
        go_ret
        exact⟨by first|rfl|(simp[Ql,Qk] <;> rfl)|(simp[*,Ql,Qk] <;> rfl),bel⟩
     ·replace au:=Bool.eq_false_iff.mpr au
      subst au
      rw[if_neg nft] at H
      obtain rfl:=qJ H
      obtain⟨jz,k0,lf,lg,lh,ll,lm,k2,k3,ln,lp,lq,lr,ls⟩:=qD7 J.out
      go_wp2
      go_ret
      exact⟨rfl,HB.out⟩
    ·rw[if_neg O] at H
     have c23b0:(ι == 1)=false:=beq_eq_false_iff_ne.mpr O
     have c23b1:(ι != 1)=true:=bne_iff_ne.mpr O
     by_cases cb: ι = 2
     ·rw[if_pos cb] at H
      have c47b0:(ι == 2)=true:=beq_iff_eq.mpr cb
      have c47b1:(ι != 2)=false:=bne_eq_false_iff_eq.mpr cb
      clear cb
      by_cases bc:γ=true
      ·subst bc
       rw[if_pos rfl] at H
       by_cases b6: ζ = 0
       ·rw[if_pos b6] at H
        have c49b0:(ζ == 0)=true:=beq_iff_eq.mpr b6
        have c49b1:(ζ != 0)=false:=bne_eq_false_iff_eq.mpr b6
        clear b6
        obtain⟨bs,cu,H⟩:=qQ H
        by_cases bf:bs=true
        ·subst bf
         rw[if_pos rfl] at H
         by_cases Y: κ = 0
         ·rw[if_pos Y] at H
          have c52b0:(κ == 0)=true:=beq_iff_eq.mpr Y
          have c52b1:(κ != 0)=false:=bne_eq_false_iff_eq.mpr Y
          clear Y
          obtain rfl:=qJ H
          obtain⟨dh,di,ez,fb,gg,gh,h9,ec,ee,f7,ha,lu,lv,lw⟩:=qD7 J.out
          go_wp2_with (first|(go_at_call 85;(with_reducible refine(car_within.calls ν 1 60 true _ cu.out).mono ?_);rintro e w' ⟨rfl,⟨nd,rfl⟩⟩))
          go_ret
          exact⟨by first|rfl|(simp[Ql,Qk] <;> rfl)|(simp[*,Ql,Qk] <;> rfl),bel⟩
         ·rw[if_neg Y] at H
          have c52b0:(κ == 0)=false:=beq_eq_false_iff_ne.mpr Y
          have c52b1:(κ != 0)=true:=bne_iff_ne.mpr Y
          obtain rfl:=qJ H
          obtain⟨ig,ih,il,i1,i2,k1,k5,im,io,ip,k6,k7,k8,k9⟩:=qD7 J.out
          go_wp2_with (first|(go_at_call 85;(with_reducible refine(car_within.calls ν 1 60 true _ cu.out).mono ?_);rintro e w' ⟨rfl,⟨nd,rfl⟩⟩))
          go_ret
          exact⟨by first|rfl|(simp[Ql,Qk] <;> rfl)|(simp[*,Ql,Qk] <;> rfl),bel⟩
        ·replace bf:=Bool.eq_false_iff.mpr bf
         subst bf
         rw[if_neg nft] at H
         obtain rfl:=qJ H
         obtain⟨ia,ib,kp,ms,mt,mu,mw,ic,ie,ks,my,mz,n0,n1⟩:=qD7 J.out
         go_wp2_with (first|(go_at_call 85;(with_reducible refine(car_within.calls ν 1 60 false _ cu.out).mono ?_);rintro e w' ⟨rfl,⟨nd,rfl⟩⟩))
         go_ret
         exact⟨by first|rfl|(simp[Ql,Qk] <;> rfl)|(simp[*,Ql,Qk] <;> rfl),bel⟩
       ·rw[if_neg b6] at H
        have c49b0:(ζ == 0)=false:=beq_eq_false_iff_ne.mpr b6
        have c49b1:(ζ != 0)=true:=bne_iff_ne.mpr b6
        obtain rfl:=qJ H
        obtain⟨n2,n3,na,nb,nc,nf,ng,nh,ni,nj,nk,nl,nm,nn⟩:=qD7 J.out
        go_wp2
        go_ret
        exact⟨by first|rfl|(simp[Ql,Qk] <;> rfl)|(simp[*,Ql,Qk] <;> rfl),bel⟩
      ·replace bc:=Bool.eq_false_iff.mpr bc
       subst bc
       rw[if_neg nft] at H
       obtain rfl:=qJ H
       obtain⟨iq,ir,kn,ce,cw,dj,dk,jb,jo,ko,eh,ej,eo,ep⟩:=qD7 J.out
       go_wp2
       go_ret
       exact⟨rfl,HB.out⟩
     ·rw[if_neg cb] at H
      have c47b0:(ι == 2)=false:=beq_eq_false_iff_ne.mpr cb
      have c47b1:(ι != 2)=true:=bne_iff_ne.mpr cb
      by_cases bi: ι = 3
      ·rw[if_pos bi] at H
       have c58b0:(ι == 3)=true:=beq_iff_eq.mpr bi
       have c58b1:(ι != 3)=false:=bne_eq_false_iff_eq.mpr bi
       clear bi
       by_cases η :γ=true
       ·subst η
        rw[if_pos rfl] at H
        by_cases ω : ζ = 0
        ·rw[if_pos ω] at H
         have c60b0:(ζ == 0)=true:=beq_iff_eq.mpr ω
         have c60b1:(ζ != 0)=false:=bne_eq_false_iff_eq.mpr ω
         clear ω
         by_cases av: ν = 0
         ·rw[if_pos av] at H
          have c61b0:(ν == 0)=true:=beq_iff_eq.mpr av
          have c61b1:(ν != 0)=false:=bne_eq_false_iff_eq.mpr av
          clear av
          by_cases aw: κ = 0
          ·rw[if_pos aw] at H
           have c62b0:(κ == 0)=true:=beq_iff_eq.mpr aw
           have c62b1:(κ != 0)=false:=bne_eq_false_iff_eq.mpr aw
           clear aw
           obtain rfl:=qJ H
           obtain⟨kx,ky,kz,nx,ny,nz,o0,l2,l3,l4,o1,o2,o3,o4⟩:=qD7 J.out
           go_wp2
           go_ret
           exact⟨by first|rfl|(simp[Ql,Qk] <;> rfl)|(simp[*,Ql,Qk] <;> rfl),bel⟩
          ·rw[if_neg aw] at H
           have c62b0:(κ == 0)=false:=beq_eq_false_iff_ne.mpr aw
           have c62b1:(κ != 0)=true:=bne_iff_ne.mpr aw
           obtain rfl:=qJ H
           obtain⟨hj,jp,fm,fw,fx,no,np,jq,jr,fn,nq,nr,ns,nt⟩:=qD7 J.out
           go_wp2
           go_ret
           exact⟨by first|rfl|(simp[Ql,Qk] <;> rfl)|(simp[*,Ql,Qk] <;> rfl),bel⟩
         ·rw[if_neg av] at H
          have c61b0:(ν == 0)=false:=beq_eq_false_iff_ne.mpr av
          have c61b1:(ν != 0)=true:=bne_iff_ne.mpr av
          obtain rfl:=qJ H
          obtain⟨ek,el,lx,ly,lz,m0,m1,he,hh,m2,m3,m4,m5,m6⟩:=qD7 J.out
          go_wp2
          go_ret
          exact⟨by first|rfl|(simp[Ql,Qk] <;> rfl)|(simp[*,Ql,Qk] <;> rfl),bel⟩
        ·rw[if_neg ω] at H
         have c60b0:(ζ == 0)=false:=beq_eq_false_iff_ne.mpr ω
         have c60b1:(ζ != 0)=true:=bne_iff_ne.mpr ω
         obtain rfl:=qJ H
         obtain⟨bv,bw,i7,nu,nv,nw,oh,cd,cj,i9,oi,oj,ol,om⟩:=qD7 J.out
         go_wp2
         go_ret
         exact⟨by first|rfl|(simp[Ql,Qk] <;> rfl)|(simp[*,Ql,Qk] <;> rfl),bel⟩
       ·replace η :=Bool.eq_false_iff.mpr η
        subst η
        rw[if_neg nft] at H
        obtain rfl:=qJ H
        obtain⟨eg,js,o5,o6,o7,o8,o9,jt,ju,oa,ob,oc,od,oe⟩:=qD7 J.out
        go_wp2
        go_ret
        exact⟨by first|rfl|(simp[Ql,Qk] <;> rfl)|(simp[*,Ql,Qk] <;> rfl),bel⟩
      ·rw[if_neg bi] at H
       have c58b0:(ι == 3)=false:=beq_eq_false_iff_ne.mpr bi
       have c58b1:(ι != 3)=true:=bne_iff_ne.mpr bi
       obtain rfl:=qJ H
       obtain⟨fv,gi,gj,oo,oq,ot,ou,kt,ku,kv,ov,ow,ox,oy⟩:=qD7 J.out
       go_wp2
       go_ret
       exact⟨rfl,HB.out⟩
def car_check.f (k:Nat) (B:Int) (J:Int) (O:Int) (Y:Int) (Z:Int) (γ:Int) (δ :Int) (ε :Int) (θ :Int) (η :Int) (X:Int) (ζ :Int) (ι :Int) (ν :Int) (κ :Int) (ξ :Int) (ρ:Int):Option (Int):=(door_Rest.f k B J O Y Z γ δ ε θ η 0 0 0).bind fun ω =>(if ω.2=0 then ((car_Check.f k B X ζ ι ν κ ξ ρ).bind fun ψ =>(some ψ)) else (some 180))
theorem car_check.mono:∀ B Z a2 a3 O a5 X a7 a8 a9 Y γ δ ζ ε η θ k,LeO (car_check.f k B Z a2 a3 O a5 X a7 a8 a9 Y γ δ ζ ε η θ) (car_check.f (k+1) B Z a2 a3 O a5 X a7 a8 a9 Y γ δ ζ ε η θ):=by
 intro B Z a2 a3 O a5 X a7 a8 a9 Y γ δ ζ ε η θ k
 unfold car_check.f
 repeat' first|(with_reducible first|apply car_Check.mono|apply door_Rest.mono|exact LeO.refl _|exact LeO.none _|refine LeO.ite ?_ ?_|refine LeO.bind ?_ (fun _=>?_))|apply car_Check.mono|apply door_Rest.mono|exact LeO.none _|refine LeO.ite ?_ ?_|refine LeO.bind ?_ (fun _=>?_)
theorem car_check.calls (k:Nat) (B:Int) (J:Int) (O:Int) (Y:Int) (Z:Int) (γ:Int) (δ :Int) (ε :Int) (θ :Int) (η :Int) (X:Int) (ζ :Int) (ι :Int) (ν :Int) (κ :Int) (ξ :Int) (ρ:Int) (r:Int) (w:World) (h:car_check.f k B J O Y Z γ δ ε θ η X ζ ι ν κ ξ ρ=some r):
 Calls Try.prog 45 #[.agg #[nI B,nI J,nI O,nI Y,nI Z,nI γ,nI δ,nI ε,nI θ,nI η],.agg #[nI X,nI ζ,nI ι,nI ν,nI κ,nI ξ,nI ρ]] w fun e w'=>e = .returned (nI r)∧Below w.heap.size w w':=by
 have cj:=Try.underlying25
 have hl:=Try.underlying29
 have fi:=Try.underlying27
 have HB:=aK (Below.refl w.heap.size w)
 have H:((door_Rest.f k B J O Y Z γ δ ε θ η 0 0 0).bind fun ω =>(if ω.2=0 then ((car_Check.f k B X ζ ι ν κ ξ ρ).bind fun ψ =>(some ψ)) else (some 180)))=some r:=h
 clear h
 obtain⟨⟨a0,τ⟩,A3,H⟩:=qQ H
 replace H:(if τ = 0 then ((car_Check.f k B X ζ ι ν κ ξ ρ).bind fun ψ =>(some ψ)) else (some 180))=some r:=H
 by_cases c4: τ = 0
 ·rw[if_pos c4] at H
  have c4b0:(τ == 0)=true:=beq_iff_eq.mpr c4
  have c4b1:(τ != 0)=false:=bne_eq_false_iff_eq.mpr c4
  clear c4
  obtain⟨ψ,A5,H⟩:=qQ H
  obtain rfl:=qJ H
  go_enter Try.func45,Try.ntmps45
  go_wp2_with (first|((with_reducible refine Qe (N:=2) rfl ?_);refine qE 2 #[nI B,nI J,nI O,nI Y,nI Z,nI γ,nI δ,nI ε,nI θ,nI η] 25 ?_;intro a2 hg w6 hbox hb;have μ :=aK hbox;have a5:=sGe hg;have a6:=sGe hg;replace HB:=sHb hb;clear hb hbox hg)|((with_reducible refine Qe (N:=3) rfl ?_);refine qE 3 #[nI X,nI ζ,nI ι,nI ν,nI κ,nI ξ,nI ρ] 29 ?_;intro a7 hg w7 hbox hb;have σ:=aK hbox;have a8:=sGe hg;have a9:=sGe hg;have φ :=sNl μ hg;have χ :=sNg μ hg;replace μ :=sBk μ hb;replace HB:=sHb hb;clear hb hbox hg;have ft:= φ.out;have fu:= χ.out;obtain⟨b6,bi,d0,da,dx,ea,eb,fo,b7,bj,bz,ch,fp,fq,fr,fv,fy,fz,bn,bq⟩:=Zi μ.out)|((with_reducible refine Qf (f:=47) rfl ?_);refine Q0 (some 10) rfl rfl Try.func47 kr rfl #[.agg #[nI B,nI J,nI O,nI Y,nI Z,nI γ,nI δ,nI ε,nI θ,nI η],.agg #[nI 0,nI 0,nI 0]] rfl qM ?_;(with_reducible refine(door_Rest.calls k B J O Y Z γ δ ε θ η 0 0 0 a0 τ _ A3.out).mono ?_);rintro e fj ⟨rfl,hb⟩;refine⟨_,rfl, ?_⟩;replace μ :=sBk μ hb;replace σ:=sBk σ hb;replace HB:=sHb hb;(try clear hb);(try clear a4);(try clear hk);(try clear hi);obtain⟨ci,cp,bg,fk,fl,fm,fn,bs,av,aw,cq,cr,bh,gm,gn,gp,gq,bv,ax,ay⟩:=Zi μ.out;obtain⟨a1,a3,ae,ap,b5,be,fc,af,ar,ah,fe,ff,fg,fh⟩:=qD7 σ.out)|((with_reducible refine Qf (f:=69) rfl ?_);refine Q0 (some 18) rfl rfl Try.func69 kr rfl #[nI B,.agg #[nI X,nI ζ,nI ι,nI ν,nI κ,nI ξ,nI ρ]] rfl qM ?_;(with_reducible refine(car_Check.calls k B X ζ ι ν κ ξ ρ ψ _ A5.out).mono ?_);rintro e eh ⟨rfl,hb⟩;refine⟨_,rfl, ?_⟩;replace μ :=sBk μ hb;replace σ:=sBk σ hb;replace HB:=sHb hb;(try clear hb);(try clear a4);(try clear hk);(try clear hi)))
  go_ret
  exact⟨rfl,HB.out⟩
 ·rw[if_neg c4] at H
  have c4b0:(τ == 0)=false:=beq_eq_false_iff_ne.mpr c4
  have c4b1:(τ != 0)=true:=bne_iff_ne.mpr c4
  obtain rfl:=qJ H
  go_enter Try.func45,Try.ntmps45
  go_wp2_with (first|((with_reducible refine Qe (N:=2) rfl ?_);refine qE 2 #[nI B,nI J,nI O,nI Y,nI Z,nI γ,nI δ,nI ε,nI θ,nI η] 25 ?_;intro a2 hg cb hbox hb;have μ :=aK hbox;have a5:=sGe hg;have a6:=sGe hg;replace HB:=sHb hb;clear hb hbox hg)|((with_reducible refine Qe (N:=3) rfl ?_);refine qE 3 #[nI X,nI ζ,nI ι,nI ν,nI κ,nI ξ,nI ρ] 29 ?_;intro a7 hg fb hbox hb;have σ:=aK hbox;have a8:=sGe hg;have a9:=sGe hg;have φ :=sNl μ hg;have χ :=sNg μ hg;replace μ :=sBk μ hb;replace HB:=sHb hb;clear hb hbox hg;have j9:= φ.out;have ja:= χ.out;obtain⟨az,b0,bl,ck,cm,co,dl,ak,bc,bd,b1,b2,ca,dm,ec,eu,ev,cn,ew,ey⟩:=Zi μ.out)|((with_reducible refine Qf (f:=47) rfl ?_);refine Q0 (some 10) rfl rfl Try.func47 kr rfl #[.agg #[nI B,nI J,nI O,nI Y,nI Z,nI γ,nI δ,nI ε,nI θ,nI η],.agg #[nI 0,nI 0,nI 0]] rfl qM ?_;(with_reducible refine(door_Rest.calls k B J O Y Z γ δ ε θ η 0 0 0 a0 τ _ A3.out).mono ?_);rintro e bf ⟨rfl,hb⟩;refine⟨_,rfl, ?_⟩;replace μ :=sBk μ hb;replace σ:=sBk σ hb;replace HB:=sHb hb;(try clear hb);(try clear a4);(try clear hk);(try clear hi)))
  go_ret
  exact⟨rfl,HB.out⟩
def car_Rest.f (k:Nat) (B:Int) (J:Int) (O:Int) (Y:Int) (Z:Int) (γ:Int) (δ :Int) (ε :Int) (θ :Int) (η :Int) (X:Int) (ζ :Int) (ι :Int) (ν :Int) (κ :Int) (ξ :Int) (ρ:Int):Option (Int×Int):=(car_check.f k B J O Y Z γ δ ε θ η X ζ ι ν κ ξ ρ).bind fun φ =>(if φ = 0 then (if ι = 2 then ((door_Ask.f k J O Y Z γ δ ε κ ξ ρ).bind fun a0=>((door_Rest.f k B J O Y Z γ δ ε θ η a0.1 a0.2.1 a0.2.2.1).bind fun au=>(some (wrap64 (ν + au.1),0)))) else ((door_Rest.f k B J O Y Z γ δ ε θ η κ ξ ρ).bind fun bm=>(some (wrap64 (ν + bm.1),0)))) else (some (0,φ)))
theorem car_Rest.mono:∀ B Z a2 a3 O a5 X a7 a8 a9 Y γ δ ζ ε η θ k,LeO (car_Rest.f k B Z a2 a3 O a5 X a7 a8 a9 Y γ δ ζ ε η θ) (car_Rest.f (k+1) B Z a2 a3 O a5 X a7 a8 a9 Y γ δ ζ ε η θ):=by
 intro B Z a2 a3 O a5 X a7 a8 a9 Y γ δ ζ ε η θ k
 unfold car_Rest.f
 repeat' first|(with_reducible first|apply car_check.mono|apply door_Ask.mono|apply door_Rest.mono|exact LeO.refl _|exact LeO.none _|refine LeO.ite ?_ ?_|refine LeO.bind ?_ (fun _=>?_))|apply car_check.mono|apply door_Ask.mono|apply door_Rest.mono|exact LeO.none _|refine LeO.ite ?_ ?_|refine LeO.bind ?_ (fun _=>?_)
theorem car_Rest.calls (k:Nat) (B:Int) (J:Int) (O:Int) (Y:Int) (Z:Int) (γ:Int) (δ :Int) (ε :Int) (θ :Int) (η :Int) (X:Int) (ζ :Int) (ι :Int) (ν :Int) (κ :Int) (ξ :Int) (ρ:Int) (r1:Int) (r2:Int) (w:World) (h:car_Rest.f k B J O Y Z γ δ ε θ η X ζ ι ν κ ξ ρ=some (r1,r2)):
 Calls Try.prog 25 #[.agg #[nI B,nI J,nI O,nI Y,nI Z,nI γ,nI δ,nI ε,nI θ,nI η],.agg #[nI X,nI ζ,nI ι,nI ν,nI κ,nI ξ,nI ρ]] w fun e w'=>e = .returned (.tuple #[nI r1,nI r2])∧Below w.heap.size w w':=by
 have cj:=Try.underlying25
 have hl:=Try.underlying29
 have fi:=Try.underlying27
 have jb:=Try.underlying23
 have HB:=aK (Below.refl w.heap.size w)
 have H:((car_check.f k B J O Y Z γ δ ε θ η X ζ ι ν κ ξ ρ).bind fun φ =>(if φ = 0 then (if ι = 2 then ((door_Ask.f k J O Y Z γ δ ε κ ξ ρ).bind fun a0=>((door_Rest.f k B J O Y Z γ δ ε θ η a0.1 a0.2.1 a0.2.2.1).bind fun au=>(some (wrap64 (ν + au.1),0)))) else ((door_Rest.f k B J O Y Z γ δ ε θ η κ ξ ρ).bind fun bm=>(some (wrap64 (ν + bm.1),0)))) else (some (0,φ))))=some (r1,r2):=h
 clear h
 obtain⟨φ,A3,H⟩:=qQ H
 by_cases c4: φ = 0
 ·rw[if_pos c4] at H
  have c4b0:(φ == 0)=true:=beq_iff_eq.mpr c4
  have c4b1:(φ != 0)=false:=bne_eq_false_iff_eq.mpr c4
  clear c4
  by_cases c5: ι = 2
  ·rw[if_pos c5] at H
   have c5b0:(ι == 2)=true:=beq_iff_eq.mpr c5
   have c5b1:(ι != 2)=false:=bne_eq_false_iff_eq.mpr c5
   clear c5
   obtain⟨⟨ao,b6,bk,e6⟩,A6,H⟩:=qQ H
   replace H:((door_Rest.f k B J O Y Z γ δ ε θ η ao b6 bk).bind fun au=>(some (wrap64 (ν + au.1),0)))=some (r1,r2):=H
   obtain⟨⟨e0,k1⟩,A7,H⟩:=qQ H
   replace H:(some (wrap64 (ν + e0),0))=some (r1,r2):=H
   simp only[Option.some.injEq,Prod.mk.injEq] at H
   obtain⟨rfl,rfl⟩:=H
   go_enter Try.func25,Try.ntmps25
   go_wp2_with (first|((with_reducible refine Qe (N:=2) rfl ?_);refine qE 2 #[nI B,nI J,nI O,nI Y,nI Z,nI γ,nI δ,nI ε,nI θ,nI η] 25 ?_;intro bp hg w8 hbox hb;have μ :=aK hbox;have bu:=sGe hg;have bw:=sGe hg;replace HB:=sHb hb;clear hb hbox hg)|((with_reducible refine Qe (N:=3) rfl ?_);refine qE 3 #[nI X,nI ζ,nI ι,nI ν,nI κ,nI ξ,nI ρ] 29 ?_;intro cu hg w9 hbox hb;have σ:=aK hbox;have cw:=sGe hg;have d1:=sGe hg;have ψ :=sNl μ hg;have ω :=sNg μ hg;replace μ :=sBk μ hb;replace HB:=sHb hb;clear hb hbox hg;have cx:= ψ.out;have dj:= ω.out;obtain⟨ci,cp,bg,fk,fl,fm,fn,bs,av,aw,cq,cr,bh,gm,gn,gp,gq,bv,ax,ay⟩:=Zi μ.out;obtain⟨a1,a3,ae,ap,b5,be,fc,af,ar,ah,fe,ff,fg,fh⟩:=qD7 σ.out)|((with_reducible refine Qf (f:=45) rfl ?_);refine Q0 (some 12) rfl rfl Try.func45 kr rfl #[.agg #[nI B,nI J,nI O,nI Y,nI Z,nI γ,nI δ,nI ε,nI θ,nI η],.agg #[nI X,nI ζ,nI ι,nI ν,nI κ,nI ξ,nI ρ]] rfl qM ?_;(with_reducible refine(car_check.calls k B J O Y Z γ δ ε θ η X ζ ι ν κ ξ ρ φ _ A3.out).mono ?_);rintro e eh ⟨rfl,hb⟩;refine⟨_,rfl, ?_⟩;replace μ :=sBk μ hb;replace σ:=sBk σ hb;replace HB:=sHb hb;(try clear hb);(try clear a4);(try clear hk);(try clear hi);obtain⟨cb,cd,db,ei,ej,ek,el,ce,cf,dc,em,en,eo,ep⟩:=qD7 σ.out)|((with_reducible refine Qe (N:=7) rfl ?_);refine qE 7 #[nI 0,nI 0,nI 0] 27 ?_;intro bf hg fb hbox hb;have χ :=aK hbox;have e4:=sGe hg;have e5:=sGe hg;have a2:=sNl μ hg;have a5:=sNg μ hg;have a8:=sNl σ hg;have ab:=sNg σ hg;replace μ :=sBk μ hb;replace σ:=sBk σ hb;replace HB:=sHb hb;clear hb hbox hg;have j9:=a5.out;have ja:=a2.out;have et:=ab.out;have gk:=a8.out;obtain⟨bl,bz,eu,ca,ch,ev⟩:=qD3 χ.out;obtain⟨ag,ai,b3,ba,bb,cv,d7,aj,am,b4,d8,d9,dd,de⟩:=qD7 σ.out;obtain⟨a7,a9,τ,ac,al,b7,cg,ia,ib,ic,aa,an,a6,dw,dx,dy,dz,ie,ig,ih⟩:=Zi μ.out)|((with_reducible refine Qf (f:=46) rfl ?_);refine Q0 (some 25) rfl rfl Try.func46 kr rfl #[.agg #[nI J,nI O,nI Y,nI Z,nI γ,nI δ,nI ε],.agg #[nI κ,nI ξ,nI ρ]] rfl qM ?_;(with_reducible refine(door_Ask.calls k J O Y Z γ δ ε κ ξ ρ ao b6 bk e6 _ A6.out).mono ?_);rintro e bo ⟨rfl,hb⟩;refine⟨_,rfl, ?_⟩;replace μ :=sBk μ hb;replace σ:=sBk σ hb;replace χ :=aK (Q1 (g:=bf) (o:=.cells #[nI κ,nI ξ,nI ρ] 27 (0,0)) (by refine Qo (cs:=#[nI κ,nI ξ,nI 0]) ?_ 2 _ rfl;refine Qo (cs:=#[nI κ,nI 0,nI 0]) ?_ 1 _ rfl;refine Qo (cs:=#[nI 0,nI 0,nI 0]) ?_ 0 _ rfl;exact χ.out) hb);replace HB:=sHb hb;(try clear hb);(try clear a4);(try clear hk);(try clear hi);obtain⟨az,b0,d0,b1,b2,da⟩:=qD3 χ.out;obtain⟨ct,cy,dh,fa,ji,jj,jk,jl,jm,jn,cz,d2,di,jo,jp,jq,jr,js,jt,ju⟩:=Zi μ.out)|((with_reducible refine Qf (f:=47) rfl ?_);refine Q0 (some 31) rfl rfl Try.func47 kr rfl #[.agg #[nI B,nI J,nI O,nI Y,nI Z,nI γ,nI δ,nI ε,nI θ,nI η],.agg #[nI ao,nI b6,nI bk]] rfl qM ?_;(with_reducible refine(door_Rest.calls k B J O Y Z γ δ ε θ η ao b6 bk e0 k1 _ A7.out).mono ?_);rintro e cm ⟨rfl,hb⟩;refine⟨_,rfl, ?_⟩;replace μ :=sBk μ hb;replace σ:=sBk σ hb;replace χ :=aK (Q1 (g:=bf) (o:=.cells #[nI ao,nI b6,nI bk] 27 (0,0)) (by refine Qo (cs:=#[nI ao,nI b6,nI ρ]) ?_ 2 _ rfl;refine Qo (cs:=#[nI ao,nI ξ,nI ρ]) ?_ 1 _ rfl;refine Qo (cs:=#[nI κ,nI ξ,nI ρ]) ?_ 0 _ rfl;exact χ.out) hb);replace HB:=sHb hb;(try clear hb);(try clear a4);(try clear hk);(try clear hi);obtain⟨b8,bn,fw,gg,gh,gi,gj,bq,br,fx,h9,ha,he,hh⟩:=qD7 σ.out))
   go_ret2
   exact⟨rfl,HB.out⟩
  ·rw[if_neg c5] at H
   have c5b0:(ι == 2)=false:=beq_eq_false_iff_ne.mpr c5
   have c5b1:(ι != 2)=true:=bne_iff_ne.mpr c5
   obtain⟨⟨e3,k5⟩,ef,H⟩:=qQ H
   replace H:(some (wrap64 (ν + e3),0))=some (r1,r2):=H
   simp only[Option.some.injEq,Prod.mk.injEq] at H
   obtain⟨rfl,rfl⟩:=H
   go_enter Try.func25,Try.ntmps25
   go_wp2_with (first|((with_reducible refine Qe (N:=2) rfl ?_);refine qE 2 #[nI B,nI J,nI O,nI Y,nI Z,nI γ,nI δ,nI ε,nI θ,nI η] 25 ?_;intro bp hg dk hbox hb;have μ :=aK hbox;have bu:=sGe hg;have bw:=sGe hg;replace HB:=sHb hb;clear hb hbox hg)|((with_reducible refine Qe (N:=3) rfl ?_);refine qE 3 #[nI X,nI ζ,nI ι,nI ν,nI κ,nI ξ,nI ρ] 29 ?_;intro cu hg ed hbox hb;have σ:=aK hbox;have cw:=sGe hg;have d1:=sGe hg;have ψ :=sNl μ hg;have ω :=sNg μ hg;replace μ :=sBk μ hb;replace HB:=sHb hb;clear hb hbox hg;have e7:= ψ.out;have e8:= ω.out;obtain⟨bd,ea,ez,bc,fo,fp,fq,il,im,io,eb,ec,f7,fr,ft,fu,fv,ip,iq,ir⟩:=Zi μ.out;obtain⟨bj,ck,dl,ii,ij,ik,j4,cn,co,dm,j5,j6,j7,j8⟩:=qD7 σ.out)|((with_reducible refine Qf (f:=45) rfl ?_);refine Q0 (some 12) rfl rfl Try.func45 kr rfl #[.agg #[nI B,nI J,nI O,nI Y,nI Z,nI γ,nI δ,nI ε,nI θ,nI η],.agg #[nI X,nI ζ,nI ι,nI ν,nI κ,nI ξ,nI ρ]] rfl qM ?_;(with_reducible refine(car_check.calls k B J O Y Z γ δ ε θ η X ζ ι ν κ ξ ρ φ _ A3.out).mono ?_);rintro e bi ⟨rfl,hb⟩;refine⟨_,rfl, ?_⟩;replace μ :=sBk μ hb;replace σ:=sBk σ hb;replace HB:=sHb hb;(try clear hb);(try clear a4);(try clear hk);(try clear hi);obtain⟨d3,d4,dt,b9,fj,gl,ho,d5,d6,er,hu,hx,hy,i0⟩:=qD7 σ.out)|((with_reducible refine Qe (N:=7) rfl ?_);refine qE 7 #[nI 0,nI 0,nI 0] 27 ?_;intro bf hg k4 hbox hb;have χ :=aK hbox;have e4:=sGe hg;have e5:=sGe hg;have a2:=sNl μ hg;have a5:=sNg μ hg;have a8:=sNl σ hg;have ab:=sNg σ hg;replace μ :=sBk μ hb;replace σ:=sBk σ hb;replace HB:=sHb hb;clear hb hbox hg;have ix:=a5.out;have iy:=a2.out;have dv:=ab.out;have e9:=a8.out;obtain⟨gr,gs,ge,gt,hj,gf⟩:=qD3 χ.out;obtain⟨lu,lv,lw,lx,ly,lz,m0,m1,m2,m3,m4,m5,m6,m7⟩:=qD7 σ.out;obtain⟨df,eg,ew,ga,gb,gw,gz,h0,h4,h5,ey,fy,fz,h6,h7,h8,i7,i9,it,iu⟩:=Zi μ.out)|((with_reducible refine Qf (f:=47) rfl ?_);refine Q0 (some 31) rfl rfl Try.func47 kr rfl #[.agg #[nI B,nI J,nI O,nI Y,nI Z,nI γ,nI δ,nI ε,nI θ,nI η],.agg #[nI κ,nI ξ,nI ρ]] rfl qM ?_;(with_reducible refine(door_Rest.calls k B J O Y Z γ δ ε θ η κ ξ ρ e3 k5 _ ef.out).mono ?_);rintro e iz ⟨rfl,hb⟩;refine⟨_,rfl, ?_⟩;replace μ :=sBk μ hb;replace σ:=sBk σ hb;replace χ :=aK (Q1 (g:=bf) (o:=.cells #[nI κ,nI ξ,nI ρ] 27 (0,0)) (by refine Qo (cs:=#[nI κ,nI ξ,nI 0]) ?_ 2 _ rfl;refine Qo (cs:=#[nI κ,nI 0,nI 0]) ?_ 1 _ rfl;refine Qo (cs:=#[nI 0,nI 0,nI 0]) ?_ 0 _ rfl;exact χ.out) hb);replace HB:=sHb hb;(try clear hb);(try clear a4);(try clear hk);(try clear hi);obtain⟨dn,dp,gu,jc,jd,je,jf,dq,dr,gv,jg,jh,jv,jw⟩:=qD7 σ.out))
   go_ret2
   exact⟨rfl,HB.out⟩
 ·rw[if_neg c4] at H
  have c4b0:(φ == 0)=false:=beq_eq_false_iff_ne.mpr c4
  have c4b1:(φ != 0)=true:=bne_iff_ne.mpr c4
  simp only[Option.some.injEq,Prod.mk.injEq] at H
  obtain⟨rfl,rfl⟩:=H
  go_enter Try.func25,Try.ntmps25
  go_wp2_with (first|((with_reducible refine Qe (N:=2) rfl ?_);refine qE 2 #[nI B,nI J,nI O,nI Y,nI Z,nI γ,nI δ,nI ε,nI θ,nI η] 25 ?_;intro bp hg gy hbox hb;have μ :=aK hbox;have bu:=sGe hg;have bw:=sGe hg;replace HB:=sHb hb;clear hb hbox hg)|((with_reducible refine Qe (N:=3) rfl ?_);refine qE 3 #[nI X,nI ζ,nI ι,nI ν,nI κ,nI ξ,nI ρ] 29 ?_;intro cu hg j3 hbox hb;have σ:=aK hbox;have cw:=sGe hg;have d1:=sGe hg;have ψ :=sNl μ hg;have ω :=sNg μ hg;replace μ :=sBk μ hb;replace HB:=sHb hb;clear hb hbox hg;have i1:= ψ.out;have i2:= ω.out;obtain⟨i3,i4,jx,kw,l5,l6,l7,du,ee,f8,i5,i6,jy,l8,l9,lb,lc,gx,iv,iw⟩:=Zi μ.out;obtain⟨jz,k0,lf,lg,lh,ll,lm,k2,k3,ln,lp,lq,lr,ls⟩:=qD7 σ.out)|((with_reducible refine Qf (f:=45) rfl ?_);refine Q0 (some 12) rfl rfl Try.func45 kr rfl #[.agg #[nI B,nI J,nI O,nI Y,nI Z,nI γ,nI δ,nI ε,nI θ,nI η],.agg #[nI X,nI ζ,nI ι,nI ν,nI κ,nI ξ,nI ρ]] rfl qM ?_;(with_reducible refine(car_check.calls k B J O Y Z γ δ ε θ η X ζ ι ν κ ξ ρ φ _ A3.out).mono ?_);rintro e ak ⟨rfl,hb⟩;refine⟨_,rfl, ?_⟩;replace μ :=sBk μ hb;replace σ:=sBk σ hb;replace HB:=sHb hb;(try clear hb);(try clear a4);(try clear hk);(try clear hi)))
  go_ret2
  exact⟨rfl,HB.out⟩
def group_lift.f (k:Nat) (B:Int) (J:Int) (O:Int) (Y:Int) (Z:Int) (γ:Int) (δ :Int) (ε :Int) (θ :Int) (η :Int) (X:Int) (ζ :Int) (ι :Int) (ν :Int) (κ :Int) (ξ :Int) (ρ:Int) (ψ :Int) (a2:Bool) (a8:Bool):Option (Bool):=(car_Rest.f k B J O Y Z γ δ ε θ η X ζ ι ν κ ξ ρ).bind fun a6=>(if a6.2=0 then (if (-1) ≤ ψ then (some (decide (ψ ≤ 1))) else (some false)) else (some false))
theorem group_lift.mono:∀ B Z a2 a3 O a5 X a7 a8 a9 Y γ δ ζ ε η θ J ι κ k,LeO (group_lift.f k B Z a2 a3 O a5 X a7 a8 a9 Y γ δ ζ ε η θ J ι κ) (group_lift.f (k+1) B Z a2 a3 O a5 X a7 a8 a9 Y γ δ ζ ε η θ J ι κ):=by
 intro B Z a2 a3 O a5 X a7 a8 a9 Y γ δ ζ ε η θ J ι κ k
 unfold group_lift.f
 repeat' first|(with_reducible first|apply car_Rest.mono|exact LeO.refl _|exact LeO.none _|refine LeO.ite ?_ ?_|refine LeO.bind ?_ (fun _=>?_))|apply car_Rest.mono|exact LeO.none _|refine LeO.ite ?_ ?_|refine LeO.bind ?_ (fun _=>?_)
theorem group_lift.calls (k:Nat) (B:Int) (J:Int) (O:Int) (Y:Int) (Z:Int) (γ:Int) (δ :Int) (ε :Int) (θ :Int) (η :Int) (X:Int) (ζ :Int) (ι :Int) (ν :Int) (κ :Int) (ξ :Int) (ρ:Int) (ψ :Int) (a2:Bool) (a8:Bool) (r:Bool) (w:World) (h:group_lift.f k B J O Y Z γ δ ε θ η X ζ ι ν κ ξ ρ ψ a2 a8=some r):
 Calls Try.prog 28 #[.agg #[nI B,nI J,nI O,nI Y,nI Z,nI γ,nI δ,nI ε,nI θ,nI η],.agg #[nI X,nI ζ,nI ι,nI ν,nI κ,nI ξ,nI ρ,nI ψ,.bool a2,.bool a8]] w fun e w'=>e = .returned (.bool r)∧Below w.heap.size w w':=by
 have cj:=Try.underlying25
 have gl:=Try.underlying31
 have hl:=Try.underlying29
 have HB:=aK (Below.refl w.heap.size w)
 have H:((car_Rest.f k B J O Y Z γ δ ε θ η X ζ ι ν κ ξ ρ).bind fun a6=>(if a6.2=0 then (if (-1) ≤ ψ then (some (decide (ψ ≤ 1))) else (some false)) else (some false)))=some r:=h
 clear h
 obtain⟨⟨a7,χ⟩,A3,H⟩:=qQ H
 replace H:(if χ = 0 then (if (-1) ≤ ψ then (some (decide (ψ ≤ 1))) else (some false)) else (some false))=some r:=H
 by_cases c4: χ = 0
 ·rw[if_pos c4] at H
  have c4b0:(χ == 0)=true:=beq_iff_eq.mpr c4
  have c4b1:(χ != 0)=false:=bne_eq_false_iff_eq.mpr c4
  clear c4
  by_cases c5:(-1) ≤ ψ
  ·rw[if_pos c5] at H
   have c5b0:=decide_eq_true c5
   clear c5
   obtain rfl:=qJ H
   go_enter Try.func28,Try.ntmps28
   go_wp2_with (first|((with_reducible refine Qe (N:=2) rfl ?_);refine qE 2 #[nI B,nI J,nI O,nI Y,nI Z,nI γ,nI δ,nI ε,nI θ,nI η] 25 ?_;intro a9 hg w6 hbox hb;have μ :=aK hbox;have aa:=sGe hg;have ac:=sGe hg;replace HB:=sHb hb;clear hb hbox hg)|((with_reducible refine Qe (N:=3) rfl ?_);refine qE 3 #[nI X,nI ζ,nI ι,nI ν,nI κ,nI ξ,nI ρ,nI ψ,.bool a2,.bool a8] 31 ?_;intro al hg w7 hbox hb;have σ:=aK hbox;have an:=sGe hg;have ay:=sGe hg;have τ :=sNl μ hg;have φ :=sNg μ hg;replace μ :=sBk μ hb;replace HB:=sHb hb;clear hb hbox hg;have ft:= τ.out;have fu:= φ.out;obtain⟨b6,bi,d0,da,dx,ea,eb,fo,b7,bj,bz,ch,fp,fq,fr,fv,fy,fz,bn,bq⟩:=Zi μ.out;obtain⟨bg,bh,du,gk,gm,gn,gp,hj,ho,hu,bk,bm,dv,gq,gr,gs,gt,hx,hy,i0⟩:=Zi σ.out)|((with_reducible refine Qf (f:=25) rfl ?_);refine Q0 (some 11) rfl rfl Try.func25 kr rfl #[.agg #[nI B,nI J,nI O,nI Y,nI Z,nI γ,nI δ,nI ε,nI θ,nI η],.agg #[nI X,nI ζ,nI ι,nI ν,nI κ,nI ξ,nI ρ]] rfl qM ?_;(with_reducible refine(car_Rest.calls k B J O Y Z γ δ ε θ η X ζ ι ν κ ξ ρ a7 χ _ A3.out).mono ?_);rintro e d1 ⟨rfl,hb⟩;refine⟨_,rfl, ?_⟩;replace μ :=sBk μ hb;replace σ:=sBk σ hb;replace HB:=sHb hb;(try clear hb);(try clear a4);(try clear hk);(try clear hi);obtain⟨a1,a3,ae,ap,b5,be,fc,a0,a5,ab,af,ar,ah,fe,ff,fg,fh,ao,b8,dn⟩:=Zi σ.out))
   go_ret
   exact⟨rfl,HB.out⟩
  ·rw[if_neg c5] at H
   have c5b0:=decide_eq_false c5
   clear c5
   obtain rfl:=qJ H
   go_enter Try.func28,Try.ntmps28
   go_wp2_with (first|((with_reducible refine Qe (N:=2) rfl ?_);refine qE 2 #[nI B,nI J,nI O,nI Y,nI Z,nI γ,nI δ,nI ε,nI θ,nI η] 25 ?_;intro a9 hg eh hbox hb;have μ :=aK hbox;have aa:=sGe hg;have ac:=sGe hg;replace HB:=sHb hb;clear hb hbox hg)|((with_reducible refine Qe (N:=3) rfl ?_);refine qE 3 #[nI X,nI ζ,nI ι,nI ν,nI κ,nI ξ,nI ρ,nI ψ,.bool a2,.bool a8] 31 ?_;intro al hg cb hbox hb;have σ:=aK hbox;have an:=sGe hg;have ay:=sGe hg;have τ :=sNl μ hg;have φ :=sNg μ hg;replace μ :=sBk μ hb;replace HB:=sHb hb;clear hb hbox hg;have ge:= τ.out;have gf:= φ.out;obtain⟨d3,d4,ω,bp,bu,bw,ee,fi,i5,i6,d5,d6,b9,ef,eg,er,et,fj,i7,i9⟩:=Zi μ.out;obtain⟨az,b0,bl,ck,cm,co,dl,ak,bc,bd,b1,b2,ca,dm,ec,eu,ev,cn,ew,ey⟩:=Zi σ.out)|((with_reducible refine Qf (f:=25) rfl ?_);refine Q0 (some 11) rfl rfl Try.func25 kr rfl #[.agg #[nI B,nI J,nI O,nI Y,nI Z,nI γ,nI δ,nI ε,nI θ,nI η],.agg #[nI X,nI ζ,nI ι,nI ν,nI κ,nI ξ,nI ρ]] rfl qM ?_;(with_reducible refine(car_Rest.calls k B J O Y Z γ δ ε θ η X ζ ι ν κ ξ ρ a7 χ _ A3.out).mono ?_);rintro e bf ⟨rfl,hb⟩;refine⟨_,rfl, ?_⟩;replace μ :=sBk μ hb;replace σ:=sBk σ hb;replace HB:=sHb hb;(try clear hb);(try clear a4);(try clear hk);(try clear hi);obtain⟨ag,ai,b3,ba,bb,cv,d7,dy,dz,gg,aj,am,b4,d8,d9,dd,de,gh,gi,gj⟩:=Zi σ.out))
   go_ret
   exact⟨rfl,HB.out⟩
 ·rw[if_neg c4] at H
  have c4b0:(χ == 0)=false:=beq_eq_false_iff_ne.mpr c4
  have c4b1:(χ != 0)=true:=bne_iff_ne.mpr c4
  obtain rfl:=qJ H
  go_enter Try.func28,Try.ntmps28
  go_wp2_with (first|((with_reducible refine Qe (N:=2) rfl ?_);refine qE 2 #[nI B,nI J,nI O,nI Y,nI Z,nI γ,nI δ,nI ε,nI θ,nI η] 25 ?_;intro a9 hg dw hbox hb;have μ :=aK hbox;have aa:=sGe hg;have ac:=sGe hg;replace HB:=sHb hb;clear hb hbox hg)|((with_reducible refine Qe (N:=3) rfl ?_);refine qE 3 #[nI X,nI ζ,nI ι,nI ν,nI κ,nI ξ,nI ρ,nI ψ,.bool a2,.bool a8] 31 ?_;intro al hg bo hbox hb;have σ:=aK hbox;have an:=sGe hg;have ay:=sGe hg;have τ :=sNl μ hg;have φ :=sNg μ hg;replace μ :=sBk μ hb;replace HB:=sHb hb;clear hb hbox hg;have ek:= τ.out;have el:= φ.out;obtain⟨ct,cy,dh,fa,ji,jj,jk,jl,jm,jn,cz,d2,di,jo,jp,jq,jr,js,jt,ju⟩:=Zi μ.out;obtain⟨au,av,bs,e0,e3,e4,e5,cq,dp,dq,aw,ax,bv,e6,e7,e8,e9,dr,fw,fx⟩:=Zi σ.out)|((with_reducible refine Qf (f:=25) rfl ?_);refine Q0 (some 11) rfl rfl Try.func25 kr rfl #[.agg #[nI B,nI J,nI O,nI Y,nI Z,nI γ,nI δ,nI ε,nI θ,nI η],.agg #[nI X,nI ζ,nI ι,nI ν,nI κ,nI ξ,nI ρ]] rfl qM ?_;(with_reducible refine(car_Rest.calls k B J O Y Z γ δ ε θ η X ζ ι ν κ ξ ρ a7 χ _ A3.out).mono ?_);rintro e dt ⟨rfl,hb⟩;refine⟨_,rfl, ?_⟩;replace μ :=sBk μ hb;replace σ:=sBk σ hb;replace HB:=sHb hb;(try clear hb);(try clear a4);(try clear hk);(try clear hi)))
  go_ret
  exact⟨rfl,HB.out⟩
end Go.Proofs.Ytmfffemidlhcpaa.C
namespace Go.Proofs.Ytmfffemidlhcpaa.GrpPure
open Go.RowKit Go.Proofs.YtmfffemidlhcpaaW.PrintWords Go.Proofs.YtmfffemidlhcpaaW.PrintLast Go.Proofs.YtmfffemidlhcpaaW.PrintMore Go.Proofs.Ytmfffemidlhcpaa.C Go.Proofs.Ytmfffemidlhcpaa.DoorPure
abbrev Zu (F c0 c1 c2 c3 c4:Int):Prop:=
 (c2=0∧c1=0∧c3=0∧c4=0)∨(c2=1∧(c1=1∨c1 = -1)∧(0≤c0+c1∧c0+c1<F)∧(1≤c3∧c3≤60)∧c4=0)∨(c2=2∧c1=0∧(1≤c3∧c3≤60)∧c4=0)∨(c2=3∧c1=0∧c3=0∧c4≠0)
abbrev J5 (F c0 c1 c2 c3 c4 c5 c6:Int):Prop:=((2≤F∧F≤64)∧(0≤c0∧c0<F)∧Xx c4 c5 c6)∧Zu F c0 c1 c2 c3 c4
theorem dT {p:Prop} (inst:Decidable p) (h:p): @decide p inst=true:=decide_eq_true h
theorem dF {p:Prop} (inst:Decidable p) (h:¬ p): @decide p inst=false:=decide_eq_false h
theorem K1 (n a b:Int):car_within.f n a b=some (decide (a≤n∧n≤b)):=by
 unfold car_within.f
 by_cases h:a≤n
 ·rw[if_pos h];simp[h]
 ·rw[if_neg h];simp[h]
theorem Vy (F c0 c1 c2 c3 c4 c5 c6:Int) (f:Nat):car_Check.j0 (f+1) F false c0 c1 c2 c3 c4 c5 c6=some 180:=by
 simp[car_Check.j0]
theorem Ny (F c0 c1 c2 c3 c4 c5 c6:Int) (f:Nat) (h:(2≤F∧F≤64)∧(0≤c0∧c0<F)):car_Check.j0 (f+1) F true c0 c1 c2 c3 c4 c5 c6=some (if Zu F c0 c1 c2 c3 c4 then 0 else 180):=by
 obtain⟨h1,O⟩:=h
 have e1:wrap64 (c0+1)=c0+1:=w64 (by omega)
 have Y:wrap64 (c0 + -1)=c0 + -1:=w64 (by omega)
 have e3:wrap64 (F-1)=F-1:=w64 (by omega)
 simp only[car_Check.j0,K1,Option.bind_some,if_true]
 by_cases B:c2=0
 ·subst B
  rw[if_pos rfl]
  by_cases b1:c1=0 <;> by_cases b2:c3=0 <;> by_cases b3:c4=0 <;> simp[Zu,b1,b2,b3]
 ·rw[if_neg B]
  by_cases Z:c2=1
  ·subst Z
   rw[if_pos rfl]
   by_cases b1:c1=1
   ·subst b1
    rw[if_pos rfl,e1,e3]
    by_cases b2:0≤c0+1∧c0+1≤F-1
    ·rw[decide_eq_true b2,if_pos rfl]
     by_cases b3:1≤c3∧c3≤60
     ·rw[decide_eq_true b3,if_pos rfl]
      by_cases J:c4=0
      ·rw[if_pos J,if_pos (Or.inr (Or.inl ⟨rfl,Or.inl rfl,by omega,b3,J⟩))]
      ·rw[if_neg J,if_neg (by unfold Zu;omega)]
     ·rw[decide_eq_false b3,if_neg (by decide),if_neg (by unfold Zu;omega)]
    ·rw[decide_eq_false b2,if_neg (by decide),if_neg (by unfold Zu;omega)]
   ·rw[if_neg b1]
    by_cases X:c1 = -1
    ·subst X
     rw[if_pos rfl,Y,e3]
     by_cases b2:0≤c0 + -1∧c0 + -1≤F-1
     ·rw[decide_eq_true b2,if_pos rfl]
      by_cases b3:1≤c3∧c3≤60
      ·rw[decide_eq_true b3,if_pos rfl]
       by_cases J:c4=0
       ·rw[if_pos J,if_pos (Or.inr (Or.inl ⟨rfl,Or.inr rfl,by omega,b3,J⟩))]
       ·rw[if_neg J,if_neg (by unfold Zu;omega)]
      ·rw[decide_eq_false b3,if_neg (by decide),if_neg (by unfold Zu;omega)]
     ·rw[decide_eq_false b2,if_neg (by decide),if_neg (by unfold Zu;omega)]
    ·rw[if_neg X,if_neg (by unfold Zu;omega)]
  ·rw[if_neg Z]
   by_cases a2:c2=2
   ·subst a2
    rw[if_pos rfl]
    by_cases b1:c1=0
    ·rw[if_pos b1]
     by_cases b3:1≤c3∧c3≤60
     ·rw[decide_eq_true b3,if_pos rfl]
      by_cases J:c4=0
      ·rw[if_pos J,if_pos (Or.inr (Or.inr (Or.inl ⟨rfl,b1,b3,J⟩)))]
      ·rw[if_neg J,if_neg (by unfold Zu;omega)]
     ·rw[decide_eq_false b3,if_neg (by decide),if_neg (by unfold Zu;omega)]
    ·rw[if_neg b1,if_neg (by unfold Zu;omega)]
   ·rw[if_neg a2]
    by_cases a3:c2=3
    ·subst a3
     rw[if_pos rfl]
     by_cases b1:c1=0 <;> by_cases b2:c3=0 <;> by_cases b3:c4=0 <;> simp[Zu,b1,b2,b3]
    ·rw[if_neg a3,if_neg (by unfold Zu;omega)]
theorem La (F c0 c1 c2 c3 c4 c5 c6:Int) (f:Nat) (hf:2<f):car_Check.f f F c0 c1 c2 c3 c4 c5 c6=some (if J5 F c0 c1 c2 c3 c4 c5 c6 then 0 else 180):=by
 obtain⟨f,rfl⟩:∃ m,f=m+1:=⟨f-1,by omega⟩
 unfold car_Check.f
 rw[K1,K1,Ja]
 simp only[Option.bind_some,Vy]
 by_cases h1:2≤F∧F≤64
 ·rw[decide_eq_true h1,if_pos rfl,w64 (n:=F-1) (by omega)]
  by_cases O:0≤c0∧c0≤F-1
  ·rw[decide_eq_true O,if_pos rfl]
   by_cases h3:Xx c4 c5 c6
   ·rw[if_pos h3]
    show car_Check.j0 (f+1) F true c0 c1 c2 c3 c4 c5 c6=_
    rw[Ny _ _ _ _ _ _ _ _ _ ⟨h1,by omega⟩]
    by_cases h4:Zu F c0 c1 c2 c3 c4
    ·rw[if_pos h4,if_pos ⟨⟨h1,by omega,h3⟩,h4⟩]
    ·rw[if_neg h4,if_neg (fun h=>h4 h.2)]
   ·rw[if_neg h3]
    show car_Check.j0 (f+1) F false c0 c1 c2 c3 c4 c5 c6=_
    rw[Vy,if_neg (fun h=>h3 h.1.2.2)]
  ·rw[decide_eq_false O,if_neg (by decide),if_neg (fun h=>O ⟨h.1.2.1.1,by have:=h.1.2.1.2;omega⟩)]
 ·rw[decide_eq_false h1,if_neg (by decide),if_neg (fun h=>h1 h.1.1)]
theorem Nx (g0 g1 g2 g3 g4 g5 g6 g7 g8 g9 c0 c1 c2 c3 c4 c5 c6:Int) (f:Nat) (hf:10<f):car_check.f f g0 g1 g2 g3 g4 g5 g6 g7 g8 g9 c0 c1 c2 c3 c4 c5 c6=some (if X0 g0 g1 g2 g3 g4 g5 g6 g7 g8 g9∧J5 g0 c0 c1 c2 c3 c4 c5 c6 then 0 else 180):=by
 unfold car_check.f
 rw[Mb _ _ _ _ _ _ _ _ _ _ _ _ _ f hf,La _ _ _ _ _ _ _ _ f (by omega)]
 simp only[Option.bind_some]
 by_cases h1:X0 g0 g1 g2 g3 g4 g5 g6 g7 g8 g9
 ·have hz:X0 g0 g1 g2 g3 g4 g5 g6 g7 g8 g9∧Xx 0 0 0:=⟨h1,by unfold Xx;omega⟩
  rw[if_pos hz]
  simp only[if_true]
  by_cases O:J5 g0 c0 c1 c2 c3 c4 c5 c6
  ·rw[if_pos O,if_pos ⟨h1,O⟩]
  ·rw[if_neg O,if_neg (fun h=>O h.2)]
 ·have hz:¬ (X0 g0 g1 g2 g3 g4 g5 g6 g7 g8 g9∧Xx 0 0 0):=fun h=>h1 h.1
  have hy:¬ (X0 g0 g1 g2 g3 g4 g5 g6 g7 g8 g9∧J5 g0 c0 c1 c2 c3 c4 c5 c6):=fun h=>h1 h.1
  rw[if_neg hz,if_neg hy]
  simp only
  rw[if_neg (by decide)]
def Y2 (g3 g6 g8 g9 c2 c3 c4 c5 c6:Int):Int:=c3+(if c2=2 then J7 g3 g6 g8 g9 1 g3 0 else J7 g3 g6 g8 g9 c4 c5 c6)
theorem Wn (g0 g1 g2 g3 g4 g5 g6 g7 g8 g9 J d1 X:Int) (hg:X0 g0 g1 g2 g3 g4 g5 g6 g7 g8 g9) (hd:Xx J d1 X):0≤J7 g3 g6 g8 g9 J d1 X∧J7 g3 g6 g8 g9 J d1 X≤26000:=by
 obtain⟨-,B,m3⟩:=Vl _ _ _ _ _ _ _ _ _ _ _ _ _ hg hd
 have Z:1≤g3∧g3≤60:=hg.1.1.2.2.1
 have a2:1≤g6∧g6≤60:=hg.1.1.2.2.2.2.2
 have a3:1≤g8∧g8≤300:=hg.2.2.1
 unfold J7
 generalize(if X<g9 then (g9-X) * (g3+g8+g6) else 0)=p at B m3 ⊢
 split
 ·omega
 ·split
  ·omega
  ·split <;> omega
theorem G4 (g0 g1 g2 g3 g4 g5 g6 g7 g8 g9 c0 c1 c2 c3 c4 c5 c6:Int) (hg:X0 g0 g1 g2 g3 g4 g5 g6 g7 g8 g9) (hc:J5 g0 c0 c1 c2 c3 c4 c5 c6):0≤Y2 g3 g6 g8 g9 c2 c3 c4 c5 c6∧Y2 g3 g6 g8 g9 c2 c3 c4 c5 c6≤26060:=by
 have Z:1≤g3∧g3≤60:=hg.1.1.2.2.1
 have b1:=Wn _ _ _ _ _ _ _ _ _ _ 1 g3 0 hg (by unfold Xx;omega)
 have b2:=Wn _ _ _ _ _ _ _ _ _ _ _ _ _ hg hc.1.2.2
 have b3:0≤c3∧c3≤60:=by have:=hc.2;unfold Zu at this;omega
 unfold Y2
 split <;> omega
theorem Vx (g0 g1 g2 g3 g4 g5 g6 g7 g8 g9 c0 c1 c2 c3 c4 c5 c6:Int) (f:Nat) (hf:10<f):car_Rest.f f g0 g1 g2 g3 g4 g5 g6 g7 g8 g9 c0 c1 c2 c3 c4 c5 c6=some (if X0 g0 g1 g2 g3 g4 g5 g6 g7 g8 g9∧J5 g0 c0 c1 c2 c3 c4 c5 c6 then (Y2 g3 g6 g8 g9 c2 c3 c4 c5 c6,0) else (0,180)):=by
 unfold car_Rest.f
 rw[Nx _ _ _ _ _ _ _ _ _ _ _ _ _ _ _ _ _ f hf,Ba _ _ _ _ _ _ _ _ _ _ f hf]
 simp only[Option.bind_some,Mb _ _ _ _ _ _ _ _ _ _ _ _ _ f hf]
 by_cases h:X0 g0 g1 g2 g3 g4 g5 g6 g7 g8 g9∧J5 g0 c0 c1 c2 c3 c4 c5 c6
 ·rw[if_pos h,if_pos rfl,if_pos h]
  have hb:=G4 _ _ _ _ _ _ _ _ _ _ _ _ _ _ _ _ _ h.1 h.2
  have Z:1≤g3∧g3≤60:=h.1.1.1.2.2.1
  unfold Y2 at hb ⊢
  by_cases e:c2=2
  ·have B:c4=0:=by have:=h.2.2;unfold Zu at this;omega
   have hd:Xx 1 g3 0:=by unfold Xx;omega
   have ht:Jw g1 g2 g3 g4 g5 g6 g7∧Xx c4 c5 c6:=⟨h.1.1,h.2.1.2.2⟩
   have hy:X0 g0 g1 g2 g3 g4 g5 g6 g7 g8 g9∧Xx 1 g3 0:=⟨h.1,hd⟩
   rw[if_pos e] at hb
   simp only[if_pos e,if_pos ht,if_pos B,if_pos hy]
   rw[w64 (by omega)]
  ·have hy:X0 g0 g1 g2 g3 g4 g5 g6 g7 g8 g9∧Xx c4 c5 c6:=⟨h.1,h.2.1.2.2⟩
   rw[if_neg e] at hb
   simp only[if_neg e,if_pos hy]
   rw[w64 (by omega)]
 ·rw[if_neg h,if_neg (by decide),if_neg h]
abbrev Gh (g0 g1 g2 g3 g4 g5 g6 g7 g8 g9 c0 c1 c2 c3 c4 c5 c6 Z:Int):Prop:=(X0 g0 g1 g2 g3 g4 g5 g6 g7 g8 g9∧J5 g0 c0 c1 c2 c3 c4 c5 c6) ∧ -1≤Z∧Z≤1
theorem Dz (g0 g1 g2 g3 g4 g5 g6 g7 g8 g9 c0 c1 c2 c3 c4 c5 c6 Z:Int) (l8 l9:Bool) (f:Nat) (hf:10<f):group_lift.f f g0 g1 g2 g3 g4 g5 g6 g7 g8 g9 c0 c1 c2 c3 c4 c5 c6 Z l8 l9=some (decide (Gh g0 g1 g2 g3 g4 g5 g6 g7 g8 g9 c0 c1 c2 c3 c4 c5 c6 Z)):=by
 unfold group_lift.f
 rw[Vx _ _ _ _ _ _ _ _ _ _ _ _ _ _ _ _ _ f hf]
 simp only[Option.bind_some]
 by_cases h:X0 g0 g1 g2 g3 g4 g5 g6 g7 g8 g9∧J5 g0 c0 c1 c2 c3 c4 c5 c6
 ·rw[if_pos h]
  simp only[if_true]
  by_cases e: -1≤Z
  ·rw[if_pos e];congr 1;rw[decide_eq_decide];exact⟨fun x=>⟨h,e,x⟩,fun x=>x.2.2⟩
  ·rw[if_neg e,decide_eq_false (fun x=>e x.2.1)]
 ·rw[if_neg h,if_neg (by decide),decide_eq_false (fun x=>h x.1)]
theorem Dl (F c0 c1 c2 c3 c4 c5 c6:Int) (f:Nat) (hf:4<f):newelref18_May.f f F c0 c1 c2 c3 c4 c5 c6=some (decide (J5 F c0 c1 c2 c3 c4 c5 c6)):=by
 obtain⟨f,rfl⟩:∃ m,f=m+2:=⟨f-2,by omega⟩
 unfold newelref18_May.f
 rw[C7 _ _ _ _ (by omega)]
 simp only[Option.bind_some,newelref18_May.j0,if_true]
 by_cases h1:2≤F∧F≤64
 ·rw[if_neg (by omega),if_neg (by omega)]
  by_cases O:0≤c0∧c0<F
  ·rw[if_neg (by omega),if_neg (by omega)]
   by_cases h3:Xx c4 c5 c6
   ·rw[decide_eq_true h3,if_neg (by decide)]
    have e:∀ b:Bool,b=decide (1≤c3∧c3≤60)→newelref18_May.j1 (f+1) F (c4==0) b c0 c1 c2 c3 c4 c5 c6=some (decide (J5 F c0 c1 c2 c3 c4 c5 c6)):=by
     intro b hb
     have hc:J5 F c0 c1 c2 c3 c4 c5 c6↔Zu F c0 c1 c2 c3 c4:=⟨fun h=>h.2,fun h=>⟨⟨h1,O,h3⟩,h⟩⟩
     rw[show decide (J5 F c0 c1 c2 c3 c4 c5 c6)=decide (Zu F c0 c1 c2 c3 c4) from decide_eq_decide.2 hc]
     simp only[newelref18_May.j1,w64 (n:=c0+1) (by omega)]
     by_cases B:c2=0
     ·subst B
      rw[if_pos rfl]
      by_cases b1:c1=0 <;> by_cases b2:c3=0 <;> by_cases b3:c4=0 <;> simp[Zu,b1,b2,b3]
     ·rw[if_neg B]
      by_cases Z:c2=1
      ·subst Z
       rw[if_pos rfl]
       by_cases b1:c1=1
       ·subst b1
        rw[if_pos rfl,if_neg (by decide)]
        by_cases b2:c0+1<F
        ·rw[if_pos b2]
         by_cases b3:1≤c3∧c3≤60
         ·rw[hb,decide_eq_true b3,if_pos rfl]
          by_cases J:c4=0
          ·rw[dT _ (show Zu F c0 1 1 c3 c4 from Or.inr (Or.inl ⟨rfl,Or.inl rfl,by omega,b3,J⟩)),J];rfl
          ·rw[beq_false_of_ne J,dF _ (show ¬ Zu F c0 1 1 c3 c4 by unfold Zu;omega)]
         ·rw[hb,decide_eq_false b3,if_neg (by decide),dF _ (by unfold Zu;omega)]
        ·rw[if_neg b2,dF _ (by unfold Zu;omega)]
       ·rw[if_neg b1]
        by_cases X:c1 = -1
        ·subst X
         rw[if_pos rfl]
         by_cases b2:c0>0
         ·rw[if_pos b2]
          by_cases b3:1≤c3∧c3≤60
          ·rw[hb,decide_eq_true b3,if_pos rfl]
           by_cases J:c4=0
           ·rw[dT _ (show Zu F c0 (-1) 1 c3 c4 from Or.inr (Or.inl ⟨rfl,Or.inr rfl,by omega,b3,J⟩)),J];rfl
           ·rw[dF _ (by unfold Zu;omega),beq_false_of_ne J]
          ·rw[hb,decide_eq_false b3,if_neg (by decide),dF _ (by unfold Zu;omega)]
         ·rw[if_neg b2,dF _ (by unfold Zu;omega)]
        ·rw[if_neg X,dF _ (by unfold Zu;omega)]
      ·rw[if_neg Z]
       by_cases a2:c2=2
       ·subst a2
        rw[if_pos rfl]
        by_cases b1:c1=0
        ·rw[if_pos b1]
         by_cases b3:1≤c3∧c3≤60
         ·rw[hb,decide_eq_true b3,if_pos rfl]
          by_cases J:c4=0
          ·rw[dT _ (show Zu F c0 c1 2 c3 c4 from Or.inr (Or.inr (Or.inl ⟨rfl,b1,b3,J⟩))),J];rfl
          ·rw[dF _ (by unfold Zu;omega),beq_false_of_ne J]
         ·rw[hb,decide_eq_false b3,if_neg (by decide),dF _ (by unfold Zu;omega)]
        ·rw[if_neg b1,dF _ (by unfold Zu;omega)]
       ·rw[if_neg a2]
        by_cases a3:c2=3
        ·subst a3
         rw[if_pos rfl]
         by_cases b1:c1=0 <;> by_cases b2:c3=0 <;> by_cases b3:c4=0 <;> simp[Zu,b1,b2,b3]
        ·rw[if_neg a3,dF _ (by unfold Zu;omega)]
    by_cases h4:c3≥1
    ·rw[if_pos h4];exact e _ (by rw[decide_eq_decide];omega)
    ·rw[if_neg h4];exact e _ (by rw[decide_eq_false (by omega)])
   ·rw[decide_eq_false h3]
    rw[show(!false)=true from rfl,if_pos rfl,decide_eq_false (fun h=>h3 h.1.2.2)]
  ·rw[decide_eq_false (fun h:J5 F c0 c1 c2 c3 c4 c5 c6=>O h.1.2.1)]
   by_cases h:c0<0
   ·rw[if_pos h]
   ·rw[if_neg h,if_pos (by omega)]
 ·rw[decide_eq_false (fun h:J5 F c0 c1 c2 c3 c4 c5 c6=>h1 h.1.1)]
  by_cases h:F<2
  ·rw[if_pos h]
  ·rw[if_neg h,if_pos (by omega)]
theorem Ea (g0 g1 g2 g3 g4 g5 g6 g7 g8 g9 c0 c1 c2 c3 c4 c5 c6 Z:Int) (l8 l9:Bool) (f:Nat) (hf:4<f):newelref21_Lift.f f g0 g1 g2 g3 g4 g5 g6 g7 g8 g9 c0 c1 c2 c3 c4 c5 c6 Z l8 l9=some (decide (Gh g0 g1 g2 g3 g4 g5 g6 g7 g8 g9 c0 c1 c2 c3 c4 c5 c6 Z)):=by
 unfold newelref21_Lift.f
 rw[Eb,Dl _ _ _ _ _ _ _ _ f hf]
 simp only[Option.bind_some]
 by_cases h1:X0 g0 g1 g2 g3 g4 g5 g6 g7 g8 g9
 ·rw[decide_eq_true h1,if_pos rfl]
  by_cases O:J5 g0 c0 c1 c2 c3 c4 c5 c6
  ·rw[decide_eq_true O,if_pos rfl]
   by_cases e:Z ≥ -1
   ·rw[if_pos e];congr 1;rw[decide_eq_decide];exact⟨fun x=>⟨⟨h1,O⟩,e,x⟩,fun x=>x.2.2⟩
   ·rw[if_neg e,decide_eq_false (fun x=>e x.2.1)]
  ·rw[decide_eq_false O,if_neg (by decide),decide_eq_false (fun x=>O x.1.2)]
 ·rw[decide_eq_false h1,if_neg (by decide),decide_eq_false (fun x=>h1 x.1.1)]
theorem Wv (g0 g1 g2 g3 g4 g5 g6 g7 g8 g9 c0 c1 c2 c3 c4 c5 c6:Int) (hg:X0 g0 g1 g2 g3 g4 g5 g6 g7 g8 g9) (hc:J5 g0 c0 c1 c2 c3 c4 c5 c6) (f:Nat) (hf:10<f):newelref18_Rest.f f g0 g1 g2 g3 g4 g5 g6 g7 g8 g9 c0 c1 c2 c3 c4 c5 c6=some (Y2 g3 g6 g8 g9 c2 c3 c4 c5 c6):=by
 have hb:=G4 _ _ _ _ _ _ _ _ _ _ _ _ _ _ _ _ _ hg hc
 have Z:1≤g3∧g3≤60:=hg.1.1.2.2.1
 have hp:=hc.2
 unfold newelref18_Rest.f
 rw[Wg _ _ _ _ _ _ _ _ _ _ 1 g3 0 hg (by unfold Xx;omega) f (by omega),Wg _ _ _ _ _ _ _ _ _ _ _ _ _ hg hc.1.2.2 f (by omega)]
 simp only[Option.bind_some]
 unfold Y2 at hb ⊢
 by_cases e1:c2=1
 ·rw[if_pos e1,if_neg (by omega)]
  have:c4=0:=by unfold Zu at hp;omega
  rw[this,show J7 g3 g6 g8 g9 0 c5 c6=0 from by unfold J7;rw[if_pos rfl],Int.add_zero]
 ·rw[if_neg e1]
  by_cases Y:c2=2
  ·rw[if_pos Y] at hb
   rw[if_pos Y,if_pos Y,w64 (by omega)]
  ·rw[if_neg Y,if_neg Y]
   have:c3=0:=by unfold Zu at hp;omega
   rw[this,Int.zero_add]
end Go.Proofs.Ytmfffemidlhcpaa.GrpPure
namespace Go.Proofs.Ytmfffemidlhcpaa.C
open Go.RowKit Go.Proofs.YtmfffemidlhcpaaW.PrintWords Go.Proofs.YtmfffemidlhcpaaW.PrintLast Go.Proofs.YtmfffemidlhcpaaW.PrintMore
attribute [local go_sem] Z2 Z0 Xb Xa Zt Zs Z1 Zz
def group_cost.f (k:Nat) (B:Int) (J:Int) (O:Int) (Y:Int) (Z:Int) (γ:Int) (δ :Int) (ε :Int) (θ :Int) (η :Int) (X:Int) (ζ :Int) (ι :Int) (ν :Int) (κ :Int) (ξ :Int) (ρ:Int) (ψ :Int) (a2:Bool) (a8:Bool) (σ:List Int) (τ :List Int) (a3:List Int) (a5:Int) (a7:Int) (a9:Int):Option (Int):=(car_Rest.f k B J O Y Z γ δ ε θ η X ζ ι ν κ ξ ρ).bind fun af=>((group_way.f k B X ζ ι ν κ ξ ρ ψ a2 a8 a5 a7 a9).bind fun a6=>(some (wrap64 ((wrap64 (af.1+(wrap64 (J * a6))))+(wrap64 ((wrap64 ((wrap64 ((wrap64 (O+Y)) + θ)) + δ)) * (wrap64 ((wrap64 ((σ.length:Int)+(τ.length:Int)))+(a3.length:Int)))))))))
theorem group_cost.mono:∀ B Z a2 a3 O a5 X a7 a8 a9 Y γ δ ζ ε η θ J ι κ μ ν ξ ρ σ τ k,LeO (group_cost.f k B Z a2 a3 O a5 X a7 a8 a9 Y γ δ ζ ε η θ J ι κ μ ν ξ ρ σ τ) (group_cost.f (k+1) B Z a2 a3 O a5 X a7 a8 a9 Y γ δ ζ ε η θ J ι κ μ ν ξ ρ σ τ):=by
 intro B Z a2 a3 O a5 X a7 a8 a9 Y γ δ ζ ε η θ J ι κ μ ν ξ ρ σ τ k
 unfold group_cost.f
 repeat' first|(with_reducible first|apply car_Rest.mono|apply group_way.mono|exact LeO.refl _|exact LeO.none _|refine LeO.ite ?_ ?_|refine LeO.bind ?_ (fun _=>?_))|apply car_Rest.mono|apply group_way.mono|exact LeO.none _|refine LeO.ite ?_ ?_|refine LeO.bind ?_ (fun _=>?_)
def group_cost.T3:Bool×List (List Nat×List Nat):=(true,[([],[]),([],[]),([1],[1]),([2],[2]),([],[]),([4],[4]),([],[]),([],[]),([5,6,7],[5,6,7]),([3,8],[3,8]),([0,9],[0,9]),([],[]),([],[]),([12],[12]),([13],[13]),([],[]),([15],[15]),([16],[16]),([14,17],[14,17]),([],[]),([19],[19]),([20],[20]),([18,21],[18,21]),([11,22],[11,22]),([10,23],[10,23]),([24,8,0,1,2,3,4,5,6,7,8,9,10,11,12,13,14,15,16,17,18,19,20,21,22,23,24],[24])])
def group_cost.B3:List Nat:=[0,0,2,6,0,16,0,0,240,510,1023,0,0,4096,12288,0,32768,98304,258048,0,524288,1572864,4190208,8386560,16777215,33554431]
theorem group_cost.Dj:rtab .any (opsOf Try.f31 3)=group_cost.T3:=by kernel_rfl
theorem group_cost.Ml:Zq group_cost.T3.2 group_cost.B3=true:=by kernel_rfl
theorem group_cost.calls (k:Nat) (B:Int) (J:Int) (O:Int) (Y:Int) (Z:Int) (γ:Int) (δ :Int) (ε :Int) (θ :Int) (η :Int) (X:Int) (ζ :Int) (ι :Int) (ν :Int) (κ :Int) (ξ :Int) (ρ:Int) (ψ :Int) (a2:Bool) (a8:Bool) (aa:Option Addr) (ab:Nat) (σ:List Int) (ac:Option Addr) (ae:Nat) (τ :List Int) (al:Option Addr) (an:Nat) (a3:List Int) (a5:Int) (a7:Int) (a9:Int) (r:Int) (w:World) (ao:Kd.C (Kd.int .i64) w aa σ.length σ) (ap:σ.length≤ab) (ar:Kd.C (Kd.int .i64) w ac τ.length τ) (b5: τ.length≤ae) (br:Kd.C (Kd.int .i64) w al a3.length a3) (bw:a3.length≤an) (h:group_cost.f k B J O Y Z γ δ ε θ η X ζ ι ν κ ξ ρ ψ a2 a8 σ τ a3 a5 a7 a9=some r):
 Calls Try.prog 31 #[.agg #[nI B,nI J,nI O,nI Y,nI Z,nI γ,nI δ,nI ε,nI θ,nI η],.agg #[nI X,nI ζ,nI ι,nI ν,nI κ,nI ξ,nI ρ,nI ψ,.bool a2,.bool a8],.agg #[.slice aa σ.length ab,.slice ac τ.length ae,.slice al a3.length an],.agg #[nI a5,nI a7,nI a9]] w fun e w'=>e = .returned (nI r)∧Below w.heap.size w w':=by
 have cj:=Try.underlying25
 have gl:=Try.underlying31
 have gq:=Try.underlying34
 have cg:=Try.underlying36
 have hl:=Try.underlying29
 have bm:=aK ao
 have bn:=aK ap
 clear ao ap
 have bp:=aK ar
 have bq:=aK b5
 clear ar b5
 have ct:=aK br
 have cy:=aK bw
 clear br bw
 have HB:=aK (Below.refl w.heap.size w)
 have H:((car_Rest.f k B J O Y Z γ δ ε θ η X ζ ι ν κ ξ ρ).bind fun af=>((group_way.f k B X ζ ι ν κ ξ ρ ψ a2 a8 a5 a7 a9).bind fun a6=>(some (wrap64 ((wrap64 (af.1+(wrap64 (J * a6))))+(wrap64 ((wrap64 ((wrap64 ((wrap64 (O+Y)) + θ)) + δ)) * (wrap64 ((wrap64 ((σ.length:Int)+(τ.length:Int)))+(a3.length:Int))))))))))=some r:=h
 clear h
 obtain⟨⟨bh,bk⟩,A5,H⟩:=qQ H
 replace H:((group_way.f k B X ζ ι ν κ ξ ρ ψ a2 a8 a5 a7 a9).bind fun a6=>(some (wrap64 ((wrap64 (bh+(wrap64 (J * a6))))+(wrap64 ((wrap64 ((wrap64 ((wrap64 (O+Y)) + θ)) + δ)) * (wrap64 ((wrap64 ((σ.length:Int)+(τ.length:Int)))+(a3.length:Int)))))))))=some r:=H
 obtain⟨a6,A6,H⟩:=qQ H
 obtain rfl:=qJ H
 go_enter Try.func31,Try.ntmps31
 try go_wp2_with (first|((with_reducible refine Qe (N:=4) rfl ?_);refine qE 4 #[nI B,nI J,nI O,nI Y,nI Z,nI γ,nI δ,nI ε,nI θ,nI η] 25 ?_;intro a0 hg w7 hbox hb;have μ :=aK hbox;have bs:=sGe hg;have bu:=sGe hg;replace HB:=sHb hb;clear hb hbox hg)|((with_reducible refine Qe (N:=5) rfl ?_);refine qE 5 #[nI X,nI ζ,nI ι,nI ν,nI κ,nI ξ,nI ρ,nI ψ,.bool a2,.bool a8] 31 ?_;intro a1 hg w8 hbox hb;have φ :=aK hbox;have bv:=sGe hg;have bz:=sGe hg;have av:=sNl μ hg;have aw:=sNg μ hg;replace μ :=sBk μ hb;replace HB:=sHb hb;clear hb hbox hg)|((with_reducible refine Qe (N:=6) rfl ?_);refine qE 6 #[.slice aa σ.length ab,.slice ac τ.length ae,.slice al a3.length an] 34 ?_;intro ah hg w9 hbox hb;have χ :=aK hbox;have ch:=sGe hg;have ci:=sGe hg;have ax:=sNl μ hg;have ay:=sNg μ hg;have b6:=sNl φ hg;have b7:=sNg φ hg;replace μ :=sBk μ hb;replace φ :=sBk φ hb;replace HB:=sHb hb;clear hb hbox hg)|((with_reducible refine Qe (N:=7) rfl ?_);refine qE 7 #[nI a5,nI a7,nI a9] 36 ?_;intro au hg fj hbox hb;have ω :=aK hbox;have cp:=sGe hg;have cq:=sGe hg;have b8:=sNl μ hg;have b9:=sNg μ hg;have be:=sNl φ hg;have bg:=sNg φ hg;have bi:=sNl χ hg;have bj:=sNg χ hg;replace μ :=sBk μ hb;replace φ :=sBk φ hb;replace χ :=sBk χ hb;replace HB:=sHb hb;clear hb hbox hg;have du:=av.out;have e4:=aw.out;have e0:=ax.out;have e3:=ay.out;have ga:=b8.out;have gb:=b9.out;obtain⟨cb,cd,db,ei,ej,ek,el,gu,i1,i2,ce,cf,dc,em,en,eo,ep,gv,i3,i4⟩:=Zi μ.out;have ge:=b6.out;have gf:=b7.out;have j9:=be.out;have ja:=bg.out;obtain⟨az,b0,bl,ck,cm,co,dl,ak,bc,bd,b1,b2,ca,dm,ec,eu,ev,cn,ew,ey⟩:=Zi φ.out)|((with_reducible refine Qf (f:=25) rfl ?_);refine Q0 (some 16) rfl rfl Try.func25 kr rfl #[.agg #[nI B,nI J,nI O,nI Y,nI Z,nI γ,nI δ,nI ε,nI θ,nI η],.agg #[nI X,nI ζ,nI ι,nI ν,nI κ,nI ξ,nI ρ]] rfl qM ?_;(with_reducible refine(car_Rest.calls k B J O Y Z γ δ ε θ η X ζ ι ν κ ξ ρ bh bk _ A5.out).mono ?_);rintro e bf ⟨rfl,hb⟩;refine⟨_,rfl, ?_⟩;replace μ :=sBk μ hb;replace φ :=sBk φ hb;replace χ :=sBk χ hb;replace ω :=sBk ω hb;replace HB:=sHb hb;(try clear hb);(try clear a4);(try clear hk);(try clear hi);obtain⟨ag,ai,b3,ba,bb,cv,d7,dy,dz,gg,aj,am,b4,d8,d9,dd,de,gh,gi,gj⟩:=Zi μ.out))
 replace μ :=aK (Qd μ.out)
 replace φ :=aK (Qd φ.out)
 replace χ :=aK (Qd χ.out)
 replace ω :=aK (Qd ω.out)
 replace HB:=aK (Qj HB.out)
 refine Zg (n:=26) (S:=fun w'=>cI w' a0 0 B∧cI w' a0 1 J∧cI w' a0 2 O∧cI w' a0 3 Y∧cI w' a0 4 Z∧cI w' a0 5 γ∧cI w' a0 6 δ ∧ cI w' a0 7 ε ∧ cI w' a0 8 θ ∧ cI w' a0 9 η ∧ cI w' a1 0 X∧cI w' a1 1 ζ ∧ cI w' a1 2 ι ∧ cI w' a1 3 ν ∧ cI w' a1 4 κ ∧ cI w' a1 5 ξ ∧ cI w' a1 6 ρ∧cI w' a1 7 ψ ∧ w'.cell? ⟨a1,8,none⟩=some (.bool a2)∧w'.cell? ⟨a1,9,none⟩=some (.bool a8)∧cI w' au 0 a5∧cI w' au 1 a7∧cI w' au 2 a9∧w'.cell? ⟨ah,0,none⟩=some (.slice aa σ.length ab)∧w'.cell? ⟨ah,1,none⟩=some (.slice ac τ.length ae)∧w'.cell? ⟨ah,2,none⟩=some (.slice al a3.length an)) (ds:=[]) #[false,false,false,false,false,false,false,false,false,false,false,false,false,false,false,false,false,false,false,false,false,false,false,false,false,false] kr rfl rfl ⟨(Qa μ.out 0).trans rfl,(Qa μ.out 1).trans rfl,(Qa μ.out 2).trans rfl,(Qa μ.out 3).trans rfl,(Qa μ.out 4).trans rfl,(Qa μ.out 5).trans rfl,(Qa μ.out 6).trans rfl,(Qa μ.out 7).trans rfl,(Qa μ.out 8).trans rfl,(Qa μ.out 9).trans rfl,(Qa φ.out 0).trans rfl,(Qa φ.out 1).trans rfl,(Qa φ.out 2).trans rfl,(Qa φ.out 3).trans rfl,(Qa φ.out 4).trans rfl,(Qa φ.out 5).trans rfl,(Qa φ.out 6).trans rfl,(Qa φ.out 7).trans rfl,(Qa φ.out 8).trans rfl,(Qa φ.out 9).trans rfl,(Qa ω.out 0).trans rfl,(Qa ω.out 1).trans rfl,(Qa ω.out 2).trans rfl,(Qa χ.out 0).trans rfl,(Qa χ.out 1).trans rfl,(Qa χ.out 2).trans rfl⟩ (fun hHeld=>?_);refine Zb group_cost.Dj group_cost.Ml (fun HT_ HW_=>?_)
 generalize bf.drew=dw at μ φ χ ω HB hHeld ⊢
 refine qP 0 (some 33) (bN 26 1) HT_ ?_
 refine qP 1 (some 34) (bN 26 3) HT_ ?_
 refine qP 2 (some 35) (bN 26 7) HT_ ?_
 refine qP 4 (some 37) (bN 26 23) HT_ ?_
 refine qP 11 (some 44) (bN 26 2071) HT_ ?_
 refine qP 12 (some 45) (bN 26 6167) HT_ ?_
 refine qP 15 (some 48) (bN 26 38935) HT_ ?_
 refine qP 19 (some 52) (bN 26 563223) HT_ ?_
 refine qT 3 (some 36) (bN 26 563231) HT_ HW_ hHeld ?_
 refine qT 5 (some 38) (bN 26 563263) HT_ HW_ hHeld ?_
 refine qT 6 (some 39) (bN 26 563327) HT_ HW_ hHeld ?_
 refine qT 7 (some 40) (bN 26 563455) HT_ HW_ hHeld ?_
 refine qT 13 (some 46) (bN 26 571647) HT_ HW_ hHeld ?_
 refine qP 14 (some 47) (bN 26 588031) HT_ ?_
 refine qT 16 (some 49) (bN 26 653567) HT_ HW_ hHeld ?_
 refine qP 17 (some 50) (bN 26 784639) HT_ ?_
 refine qP 18 (some 51) (bN 26 1046783) HT_ ?_
 refine qT 20 (some 53) (bN 26 2095359) HT_ HW_ hHeld ?_
 refine qP 21 (some 54) (bN 26 4192511) HT_ ?_
 refine qP 22 (some 55) (bN 26 8386815) HT_ ?_
 refine qP 23 (some 56) (bN 26 16775423) HT_ ?_
 refine qK 8 (some 41) (bN 26 16775679) HT_ fun K hK=>?_
 refine Zd Try.func52 kr rfl #[nI B,.agg #[nI X,nI ζ,nI ι,nI ν,nI κ,nI ξ,nI ρ,nI ψ,.bool a2,.bool a8],.agg #[nI a5,nI a7,nI a9]] (by rfl) rfl rfl qM ?_
 with_reducible refine(group_way.calls k B X ζ ι ν κ ξ ρ ψ a2 a8 a5 a7 a9 a6 _ A6.out).mono ?_
 rintro e bo ⟨rfl,hb⟩
 refine⟨_,rfl, ?_⟩
 replace μ :=sBk μ hb
 replace φ :=sBk φ hb
 replace χ :=sBk χ hb
 replace ω :=sBk ω hb
 replace HB:=sHb hb
 (try clear hb)
 (try clear a4)
 (try clear hk)
 (try clear hi)
 refine hK.out _ _ ⟨qc μ,qc μ,qc μ,qc μ,qc μ,qc μ,qc μ,qc μ,qc μ,qc μ,qc φ,qc φ,qc φ,qc φ,qc φ,qc φ,qc φ,qc φ,qc φ,qc φ,qc ω,qc ω,qc ω,qc χ,qc χ,qc χ⟩ (fun hHeld=>?_)
 clear hK K
 refine qN (some 41) ?_
 refine qP 9 (some 42) (bN 26 16776191) HT_ ?_
 refine qP 10 (some 43) (bN 26 16777215) HT_ ?_
 refine qP 24 (some 57) (bN 26 33554431) HT_ ?_
 refine qP 25 (some 8) (bN 26 67108863) HT_ ?_
 refine Zl (Ze HT_.out kr) ?_
 try go_wp2
 go_ret
 exact⟨rfl,HB.out⟩
end Go.Proofs.Ytmfffemidlhcpaa.C
