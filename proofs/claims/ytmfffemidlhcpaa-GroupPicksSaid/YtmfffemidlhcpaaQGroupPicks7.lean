/- Texts of this claim, one behind the other: what the law's functions come to, walked (printed by a program, with the words that the print uses), and what that is, in plain Lean. No conditions of their own. -/
import Derived.Test.YtmfffemidlhcpaaQGroupPicks6
import Derived.Laws.EntriesVeiled
namespace Go.Proofs.Ytmfffemidlhcpaa.C
open Go.RowKit Go.Proofs.YtmfffemidlhcpaaW.PrintWords Go.Proofs.YtmfffemidlhcpaaW.PrintLast Go.Proofs.YtmfffemidlhcpaaW.PrintMore
def phV:Value:=.agg #[.int .i64 0,.func (.func 95) #[] #[],.int .i64 60,.func (.func 96) #[] #[],.int .i64 300,.func (.func 98) #[] #[],.int .i64 60,.func (.func 99) #[] #[]]
set_option maxHeartbeats 8000000 in
set_option maxRecDepth 100000 in
theorem door_phases.calls (w:World):Calls Try.prog 87 #[] w fun e w'=>e = .returned phV∧Below w.heap.size w w':=by
 have X:=Try.underlying131
 have B:=Try.underlying132
 have HB:=aK (Below.refl w.heap.size w)
 go_enter Try.func87,Try.ntmps87
 go_wp2_with (first|((with_reducible refine Qe (N:=0) rfl ?_);refine Zh ?hg (N:=0) ?hd (cs:=#[.int .i64 0,.nilFunc,.int .i64 0,.nilFunc,.int .i64 0,.nilFunc,.int .i64 0,.nilFunc]) (t:=132) ?hr ?_;(case hd=>rfl);(case hg=>rfl);(case hr=>first|(go_simp;done)|(go_simp;rfl));intro gb hg w1 hbox hb;have O:=aK (Q2 HB.out hb);have BK:=aK hbox;have GE:=aK (by rw[hg];exact Nat.le_refl _:w.heap.size≤gb);clear HB hg hb hbox;have γ:=(Qa BK.out 0).trans rfl;have δ :=Qh BK.out 0;have cr:=(Qa BK.out 1).trans rfl;have ε :=Qh BK.out 1;have e0:=(Qa BK.out 2).trans rfl;have ζ :=Qh BK.out 2;have η :=(Qa BK.out 3).trans rfl;have θ :=Qh BK.out 3;have ι :=(Qa BK.out 4).trans rfl;have κ :=Qh BK.out 4;have μ :=(Qa BK.out 5).trans rfl;have ν :=Qh BK.out 5;have ξ :=(Qa BK.out 6).trans rfl;have ρ:=Qh BK.out 6;have σ:=(Qa BK.out 7).trans rfl;have τ :=Qh BK.out 7))
 have Y:=Yi BK.out 0 (.int .i64 0)
 have b1:=Yi Y 1 (.func (.func 95) #[] #[])
 have b2:=Yi b1 2 (.int .i64 60)
 have b3:=Yi b2 3 (.func (.func 96) #[] #[])
 have J:=Yi b3 4 (.int .i64 300)
 have b5:=Yi J 5 (.func (.func 98) #[] #[])
 have b6:=Yi b5 6 (.int .i64 60)
 have Z:=Yi b6 7 (.func (.func 99) #[] #[])
 simp only[List.setIfInBounds_toArray,List.set_cons_zero,List.set_cons_succ] at Z
 refine bodyPost_ret (v:=phV) ?_ rfl ⟨rfl, ?_⟩
 ·refine results_cell_row (p:=0) (ty:=132) ?_ _ _ gb 132 _ (0,0) _ ?_ Z B ?_ ?_
  ·rfl
  ·rfl
  ·rfl
  ·kernel_rfl
 ·with_reducible repeat(first|exact O.out|refine Qr ?_ GE.out)
section
variable {P : Program} {ops : Array Oper} {Q : Exit → Act → World → Prop}
end
theorem Mk (x y:Value) (w:World):Sem.run Try.prog (Instr.field 131 (.agg #[x,y]) 0) w = .ok x w:=by
 have X:=Try.underlying131
 have B:=Try.underlying3
 simp[Instr.field,run_underlying X,part,isAgg,asAgg,run_underlying B,Result.andThen]
def Xh (d:Int):Int:=if d=0 then 0 else if d=1 then 60 else if d=2 then 300 else 60
def tickN (d:Int):Nat:=if d=0 then 95 else if d=1 then 96 else if d=2 then 98 else 99
theorem L3 {n lo hi:Int} (h:door_within.f n lo hi=some true):lo≤n∧n≤hi:=by
 unfold door_within.f at h
 split at h <;> simp at h <;> omega
theorem Mj (ev:Operand→Value) (o:Oper) (x y:Operand) (ho:o.op = .index 132 x y) (hx:ev x=phV) (hy:ev y = .int .i64 0) (w:World):
 Sem.run Try.prog (execOp ev o) w = .ok (.value (.agg #[.int .i64 0,.func (.func 95) #[] #[]])) w:=by
 have B:=Try.underlying132
 have hs:(Try.prog.info? 131).map (·.size)=some 2:=by kernel_rfl
 obtain⟨i,hi,hs⟩:=Option.map_eq_some_iff.mp hs
 unfold execOp
 rw[ho]
 simp only
 rw[hx,hy]
 unfold phV
 simp[Instr.index,asIntOf,run_underlying B,part,sizeOf,typeInfo,Result.andThen,hi,hs]
theorem Mi (ev:Operand→Value) (o:Oper) (x y:Operand) (ho:o.op = .index 132 x y) (hx:ev x=phV) (hy:ev y = .int .i64 1) (w:World):
 Sem.run Try.prog (execOp ev o) w = .ok (.value (.agg #[.int .i64 60,.func (.func 96) #[] #[]])) w:=by
 have B:=Try.underlying132
 have hs:(Try.prog.info? 131).map (·.size)=some 2:=by kernel_rfl
 obtain⟨i,hi,hs⟩:=Option.map_eq_some_iff.mp hs
 unfold execOp
 rw[ho]
 simp only
 rw[hx,hy]
 unfold phV
 simp[Instr.index,asIntOf,run_underlying B,part,sizeOf,typeInfo,Result.andThen,hi,hs]
theorem Mh (ev:Operand→Value) (o:Oper) (x y:Operand) (ho:o.op = .index 132 x y) (hx:ev x=phV) (hy:ev y = .int .i64 2) (w:World):
 Sem.run Try.prog (execOp ev o) w = .ok (.value (.agg #[.int .i64 300,.func (.func 98) #[] #[]])) w:=by
 have B:=Try.underlying132
 have hs:(Try.prog.info? 131).map (·.size)=some 2:=by kernel_rfl
 obtain⟨i,hi,hs⟩:=Option.map_eq_some_iff.mp hs
 unfold execOp
 rw[ho]
 simp only
 rw[hx,hy]
 unfold phV
 simp[Instr.index,asIntOf,run_underlying B,part,sizeOf,typeInfo,Result.andThen,hi,hs]
theorem Mg (ev:Operand→Value) (o:Oper) (x y:Operand) (ho:o.op = .index 132 x y) (hx:ev x=phV) (hy:ev y = .int .i64 3) (w:World):
 Sem.run Try.prog (execOp ev o) w = .ok (.value (.agg #[.int .i64 60,.func (.func 99) #[] #[]])) w:=by
 have B:=Try.underlying132
 have hs:(Try.prog.info? 131).map (·.size)=some 2:=by kernel_rfl
 obtain⟨i,hi,hs⟩:=Option.map_eq_some_iff.mp hs
 unfold execOp
 rw[ho]
 simp only
 rw[hx,hy]
 unfold phV
 simp[Instr.index,asIntOf,run_underlying B,part,sizeOf,typeInfo,Result.andThen,hi,hs]
theorem G1 {d:Int} {ev:Operand→Value} {o:Oper} {x y:Operand} (ho:o.op = .index 132 x y) (hx:ev x=phV) (hy:ev y = .int .i64 d) (Y:0≤d) (Z:d≤3) (w:World):
 Sem.run Try.prog (execOp ev o) w = .ok (.value (.agg #[.int .i64 (Xh d),.func (.func (tickN d)) #[] #[]])) w:=by
 have e:d=0∨d=1∨d=2∨d=3:=by omega
 rcases e with rfl|rfl|rfl|rfl
 ·exact Mj ev o x y ho hx hy w
 ·exact Mi ev o x y ho hx hy w
 ·exact Mh ev o x y ho hx hy w
 ·exact Mg ev o x y ho hx hy w
end Go.Proofs.Ytmfffemidlhcpaa.C
namespace Go.Proofs.Ytmfffemidlhcpaa.C
open Go.RowKit Go.Proofs.YtmfffemidlhcpaaW.PrintWords Go.Proofs.YtmfffemidlhcpaaW.PrintLast Go.Proofs.YtmfffemidlhcpaaW.PrintMore
attribute [local go_sem] Z0 Zy Z6 Z5 Zr Zq Zz Zx
set_option linter.unusedVariables false
set_option linter.unusedSimpArgs false
def door_Check.f (B:Int) (J:Int) (O:Int):Option (Int):=(door_within.f B 0 3).bind fun ψ =>(if ψ = true then ((door_on.f B J O 0 0).bind fun η =>((door_within.f J (mn (Xh B) 1) (Xh B)).bind fun θ =>(if θ = true then ((door_within.f O 0 (mn (Xh B) 60)).bind fun ι =>(if ι = true then (some 0) else (some 170))) else (some 170)))) else (some 170))
set_option maxHeartbeats 8000000 in
set_option maxRecDepth 100000 in
theorem door_Check.calls (B:Int) (J:Int) (O:Int) (r:Int) (w:World) (h:door_Check.f B J O=some r):
 Calls Try.prog 71 #[.agg #[.int .i64 B,.int .i64 J,.int .i64 O]] w fun e w'=>e = .returned (.int .i64 r)∧Below w.heap.size w w':=by
 have he:=Try.underlying27
 have HB:=aK (Below.refl w.heap.size w)
 have H:((door_within.f B 0 3).bind fun ψ =>(if ψ = true then ((door_on.f B J O 0 0).bind fun η =>((door_within.f J (mn (Xh B) 1) (Xh B)).bind fun θ =>(if θ = true then ((door_within.f O 0 (mn (Xh B) 60)).bind fun ι =>(if ι = true then (some 0) else (some 170))) else (some 170)))) else (some 170)))=some r:=h
 clear h
 obtain⟨ψ,bs,H⟩:=qO H
 have A2:=aK bs
 clear bs
 by_cases c3: ψ = true
 ·subst c3
  have hph_:=L3 A2.out
  have κ :=Mk
  rw[if_pos rfl] at H
  obtain⟨⟨σ,a6,ν⟩,ab,H⟩:=qO H
  replace H:((door_within.f J (mn (Xh B) 1) (Xh B)).bind fun θ =>(if θ = true then ((door_within.f O 0 (mn (Xh B) 60)).bind fun ι =>(if ι = true then (some 0) else (some 170))) else (some 170)))=some r:=H
  have A4:=aK ab
  clear ab
  obtain⟨Z,Y⟩:∃ j_:Int,(mn (Xh B) 1)=j_:=⟨_,rfl⟩
  replace H:((door_within.f J (Z) (Xh B)).bind fun θ =>(if θ = true then ((door_within.f O 0 (mn (Xh B) 60)).bind fun ι =>(if ι = true then (some 0) else (some 170))) else (some 170)))=some r:=by first|(rw[Y] at H;exact H)|(simp only[Y] at H ⊢;exact H)
  (try rw[Y] at A2)
  (try rw[Y] at A4)
  (try(have hji5h:Z≤1:=by(rw[← Y];unfold mn;(repeat' split) <;> omega)))
  (try(have hji5g:Z≤64:=by omega))
  have ζ :(if 1<(Xh B) then 1 else (Xh B))=Z:=Y
  obtain⟨θ,ao,H⟩:=qO H
  have A6:=aK ao
  clear ao
  by_cases c7: θ = true
  ·subst c7
   rw[if_pos rfl] at H
   obtain⟨γ,X⟩:∃ j_:Int,(mn (Xh B) 60)=j_:=⟨_,rfl⟩
   replace H:((door_within.f O 0 (γ)).bind fun ι =>(if ι = true then (some 0) else (some 170)))=some r:=by first|(rw[X] at H;exact H)|(simp only[X] at H ⊢;exact H)
   (try rw[X] at A2)
   (try rw[X] at A4)
   (try rw[X] at A6)
   (try(have hji8h:γ≤60:=by(rw[← X];unfold mn;(repeat' split) <;> omega)))
   (try(have hji8g:γ≤64:=by omega))
   have ξ :(if 60<(Xh B) then 60 else (Xh B))=γ:=X
   obtain⟨ι,bw,H⟩:=qO H
   have A9:=aK bw
   clear bw
   by_cases c10: ι = true
   ·subst c10
    rw[if_pos rfl] at H
    obtain rfl:=Option.some.inj H
    go_enter Try.func71,Try.ntmps71
    try go_wp2_with (first|((with_reducible refine Qe (N:=1) rfl ?_);(try(refine Zs (by rfl) ?_;dsimp only));refine qE 1 #[.int .i64 B,.int .i64 J,.int .i64 O] 27 ?_;intro ε hg d4 hbox hb;have δ :=aK hbox;have a0:=sGe hg;have μ :=sGe hg;replace HB:=sHb hb;clear hb hbox hg;obtain⟨a5,am,φ,b3,b4,a8⟩:=qD3 δ.out)|((with_reducible refine Qf (f:=86) rfl ?_);refine Qt (some 6) rfl rfl Try.func86 kr rfl #[.int .i64 B,.int .i64 0,.int .i64 3] rfl qM ?_;(with_reducible refine(door_within.calls B 0 3 true _ A2.out).mono ?_);rintro e w' ⟨rfl,⟨nd,rfl⟩⟩;refine⟨_,rfl, ?_⟩))
    (try(rw[Yw d4];generalize hq_:World.drewN d4 _=d4;have ρ:Aside0 (d4.heap[ε]?=some (.cells #[.int .i64 B,.int .i64 J,.int .i64 O] 27 (0,0))):=⟨by rw[← hq_];exact(bka δ)⟩;have τ :Aside0 (Below w.heap.size w d4):=⟨by rw[← hq_];exact bel⟩;clear δ HB hq_;have δ :=ρ;have HB:= τ;clear ρ τ))
    (try(have af:d4.cell? ⟨ε,0,none⟩=some (.int .i64 B):=(Qa δ.out 0).trans rfl))
    (try(have bd:d4.cell? ⟨ε,1,none⟩=some (.int .i64 J):=(Qa δ.out 1).trans rfl))
    (try(have bu:d4.cell? ⟨ε,2,none⟩=some (.int .i64 O):=(Qa δ.out 2).trans rfl))
    (try(have ba:=Qh δ.out 0))
    (try(have bf:=Qh δ.out 1))
    (try(have bv:=Qh δ.out 2))
    have ρ:=aK (Qd δ.out)
    have τ :=aK (Qg HB.out)
    clear δ
    clear HB
    have δ :=ρ
    have HB:= τ
    clear ρ τ
    refine Ze (n:=6) (S:=fun w'=>w'.cell? ⟨ε,0,none⟩=some (.int .i64 B)∧w'.cell? ⟨ε,1,none⟩=some (.int .i64 J)∧w'.cell? ⟨ε,2,none⟩=some (.int .i64 O)) (ds:=[]) #[false,false,false,false,false,false] kr rfl rfl ⟨(Qa δ.out 0).trans rfl,(Qa δ.out 1).trans rfl,(Qa δ.out 2).trans rfl⟩ (fun hHeld=>?_)
    generalize d4.drew=bz at δ HB hHeld ⊢
    refine Xe (i:=1) (N:=some 9) (v:=?_) (a':=?_) #[false,true,false,false,false,false] rfl rfl kr (fun _ _ _ h=>h) (Or.inl ⟨by rfl, ?_⟩) ?_ ?_
    rotate_left
    ·intro w'
     go_simp
     with_reducible rfl
    rotate_left
    ·simp only[Act.put,qS,Za,Zb]
     rfl
    refine X2 (i:=2) (N:=some 10) (v:=?_) (a':=?_) #[false,true,true,false,false,false] rfl rfl kr (fun _ _ _ h=>h) (Or.inl ⟨by rfl, ?_⟩) hHeld ?_ ?_
    rotate_left
    ·rintro w' ⟨s0,s1,s2⟩
     go_simp
     with_reducible rfl
    rotate_left
    ·simp only[Act.put,qS,Za,Zb]
     rfl
    refine Zf (i:=0) (N:=some 8) #[true,true,true,false,false,false] rfl rfl kr (by decide) (fun K hK=>?_)
    refine Zd Try.func87 kr rfl #[] (by rfl) rfl rfl (by(try simp only[List.map_toArray,List.map_cons,List.map_nil]);first|done|rfl|(simp only[List.length_drop,List.length_take];rfl)) ?_
    with_reducible refine(door_phases.calls _).mono ?_
    rintro e ez ⟨rfl,hb⟩
    refine⟨_,rfl, ?_⟩
    have ρ:=aK (Qz (g:= ε) (o:=.cells #[.int .i64 B,.int .i64 J,.int .i64 O] 27 (0,0)) (by(with_reducible repeat first|refine Qm ?_ _|refine Qd ?_|refine Ql ?_ _);exact δ.out) hb)
    have τ :=aK (Q2 (by repeat(first|(with_reducible first|exact HB.out|apply Qo|apply Qi|apply Qg|refine Qr ?_ μ.out)|exact HB.out)) hb)
    clear δ
    clear HB
    have δ :=ρ
    have HB:= τ
    clear ρ τ
    (try clear hb)
    (try clear a4)
    (try clear hk)
    (try clear hi)
    refine hK.out _ _ ⟨qc δ,qc δ,qc δ⟩ (fun hHeld=>?_)
    clear hK K
    refine qN (some 8) ?_
    refine Xe (i:=3) (N:=some 11) (v:=?_) (a':=?_) #[true,true,true,true,false,false] rfl rfl kr (fun _ _ _ h=>h) (Or.inl ⟨by rfl, ?_⟩) ?_ ?_
    rotate_left
    ·intro w'
     rw[G1 (d:=B) (x:=.tmp 8) (y:=.tmp 10)]
     all_goals first|exact hph_.1|exact hph_.2|rfl
    rotate_left
    ·simp only[Act.put,qS,Za,Zb]
     rfl
    refine Xe (i:=4) (N:=some 12) (v:=?_) (a':=?_) #[true,true,true,true,true,false] rfl rfl kr (fun _ _ _ h=>h) (Or.inl ⟨by rfl, ?_⟩) ?_ ?_
    rotate_left
    ·intro w'
     go_simp
     with_reducible rfl
    rotate_left
    ·simp only[Act.put,qS,Za,Zb]
     rfl
    refine Xe (i:=5) (N:=some 3) (v:=?_) (a':=?_) #[true,true,true,true,true,true] rfl rfl kr (fun _ _ _ h=>h) (Or.inl ⟨by rfl, ?_⟩) ?_ ?_
    rotate_left
    ·intro w'
     go_simp
     with_reducible rfl
    rotate_left
    ·simp only[Act.put,qS,Za,Zb]
     rfl
    refine Zi kr ?_
    obtain⟨cx,cy,χ,cz,d0,ω⟩:=qD3 δ.out
    try go_wp2_with (first|((with_reducible refine Qf (f:=86) rfl ?_);refine Qt (some 18) rfl rfl Try.func86 kr rfl #[.int .i64 J,.int .i64 Z,.int .i64 (Xh B)] rfl (by(try simp only[List.map_toArray,List.map_cons,List.map_nil]);first|done|(simp only[Y];rfl)|rfl|(simp only[List.length_drop,List.length_take];rfl)) ?_;(with_reducible refine(door_within.calls J Z (Xh B) true _ A6.out).mono ?_);rintro e w' ⟨rfl,⟨nd,rfl⟩⟩;refine⟨_,rfl, ?_⟩)|(go_at_call 86;(with_reducible refine(door_within.calls O 0 γ true _ A9.out).mono ?_);rintro e w' ⟨rfl,⟨nd,rfl⟩⟩))
    go_ret
    exact⟨by first|rfl|(simp[Qk,Qj] <;> rfl)|(simp only[← Y,← X];first|rfl|(simp[Qk,Qj] <;> rfl))|(simp[*,Qk,Qj] <;> rfl),bel⟩
   ·replace c10:=Bool.eq_false_iff.mpr c10
    subst c10
    rw[if_neg nft] at H
    obtain rfl:=Option.some.inj H
    go_enter Try.func71,Try.ntmps71
    try go_wp2_with (first|((with_reducible refine Qe (N:=1) rfl ?_);(try(refine Zs (by rfl) ?_;dsimp only));refine qE 1 #[.int .i64 B,.int .i64 J,.int .i64 O] 27 ?_;intro ε hg d1 hbox hb;have δ :=aK hbox;have a0:=sGe hg;have μ :=sGe hg;replace HB:=sHb hb;clear hb hbox hg;obtain⟨bg,bh,er,bi,bj,et⟩:=qD3 δ.out)|((with_reducible refine Qf (f:=86) rfl ?_);refine Qt (some 6) rfl rfl Try.func86 kr rfl #[.int .i64 B,.int .i64 0,.int .i64 3] rfl qM ?_;(with_reducible refine(door_within.calls B 0 3 true _ A2.out).mono ?_);rintro e w' ⟨rfl,⟨nd,rfl⟩⟩;refine⟨_,rfl, ?_⟩))
    (try(rw[Yw d1];generalize hq_:World.drewN d1 _=d1;have ρ:Aside0 (d1.heap[ε]?=some (.cells #[.int .i64 B,.int .i64 J,.int .i64 O] 27 (0,0))):=⟨by rw[← hq_];exact(bka δ)⟩;have τ :Aside0 (Below w.heap.size w d1):=⟨by rw[← hq_];exact bel⟩;clear δ HB hq_;have δ :=ρ;have HB:= τ;clear ρ τ))
    (try(have ag:d1.cell? ⟨ε,0,none⟩=some (.int .i64 B):=(Qa δ.out 0).trans rfl))
    (try(have ah:d1.cell? ⟨ε,1,none⟩=some (.int .i64 J):=(Qa δ.out 1).trans rfl))
    (try(have b5:d1.cell? ⟨ε,2,none⟩=some (.int .i64 O):=(Qa δ.out 2).trans rfl))
    (try(have ai:=Qh δ.out 0))
    (try(have aj:=Qh δ.out 1))
    (try(have b8:=Qh δ.out 2))
    have ρ:=aK (Qd δ.out)
    have τ :=aK (Qg HB.out)
    clear δ
    clear HB
    have δ :=ρ
    have HB:= τ
    clear ρ τ
    refine Ze (n:=6) (S:=fun w'=>w'.cell? ⟨ε,0,none⟩=some (.int .i64 B)∧w'.cell? ⟨ε,1,none⟩=some (.int .i64 J)∧w'.cell? ⟨ε,2,none⟩=some (.int .i64 O)) (ds:=[]) #[false,false,false,false,false,false] kr rfl rfl ⟨(Qa δ.out 0).trans rfl,(Qa δ.out 1).trans rfl,(Qa δ.out 2).trans rfl⟩ (fun hHeld=>?_)
    generalize d1.drew=dx at δ HB hHeld ⊢
    refine Xe (i:=1) (N:=some 9) (v:=?_) (a':=?_) #[false,true,false,false,false,false] rfl rfl kr (fun _ _ _ h=>h) (Or.inl ⟨by rfl, ?_⟩) ?_ ?_
    rotate_left
    ·intro w'
     go_simp
     with_reducible rfl
    rotate_left
    ·simp only[Act.put,qS,Za,Zb]
     rfl
    refine X2 (i:=2) (N:=some 10) (v:=?_) (a':=?_) #[false,true,true,false,false,false] rfl rfl kr (fun _ _ _ h=>h) (Or.inl ⟨by rfl, ?_⟩) hHeld ?_ ?_
    rotate_left
    ·rintro w' ⟨s0,s1,s2⟩
     go_simp
     with_reducible rfl
    rotate_left
    ·simp only[Act.put,qS,Za,Zb]
     rfl
    refine Zf (i:=0) (N:=some 8) #[true,true,true,false,false,false] rfl rfl kr (by decide) (fun K hK=>?_)
    refine Zd Try.func87 kr rfl #[] (by rfl) rfl rfl (by(try simp only[List.map_toArray,List.map_cons,List.map_nil]);first|done|rfl|(simp only[List.length_drop,List.length_take];rfl)) ?_
    with_reducible refine(door_phases.calls _).mono ?_
    rintro e b2 ⟨rfl,hb⟩
    refine⟨_,rfl, ?_⟩
    have ρ:=aK (Qz (g:= ε) (o:=.cells #[.int .i64 B,.int .i64 J,.int .i64 O] 27 (0,0)) (by(with_reducible repeat first|refine Qm ?_ _|refine Qd ?_|refine Ql ?_ _);exact δ.out) hb)
    have τ :=aK (Q2 (by repeat(first|(with_reducible first|exact HB.out|apply Qo|apply Qi|apply Qg|refine Qr ?_ μ.out)|exact HB.out)) hb)
    clear δ
    clear HB
    have δ :=ρ
    have HB:= τ
    clear ρ τ
    (try clear hb)
    (try clear a4)
    (try clear hk)
    (try clear hi)
    refine hK.out _ _ ⟨qc δ,qc δ,qc δ⟩ (fun hHeld=>?_)
    clear hK K
    refine qN (some 8) ?_
    refine Xe (i:=3) (N:=some 11) (v:=?_) (a':=?_) #[true,true,true,true,false,false] rfl rfl kr (fun _ _ _ h=>h) (Or.inl ⟨by rfl, ?_⟩) ?_ ?_
    rotate_left
    ·intro w'
     rw[G1 (d:=B) (x:=.tmp 8) (y:=.tmp 10)]
     all_goals first|exact hph_.1|exact hph_.2|rfl
    rotate_left
    ·simp only[Act.put,qS,Za,Zb]
     rfl
    refine Xe (i:=4) (N:=some 12) (v:=?_) (a':=?_) #[true,true,true,true,true,false] rfl rfl kr (fun _ _ _ h=>h) (Or.inl ⟨by rfl, ?_⟩) ?_ ?_
    rotate_left
    ·intro w'
     go_simp
     with_reducible rfl
    rotate_left
    ·simp only[Act.put,qS,Za,Zb]
     rfl
    refine Xe (i:=5) (N:=some 3) (v:=?_) (a':=?_) #[true,true,true,true,true,true] rfl rfl kr (fun _ _ _ h=>h) (Or.inl ⟨by rfl, ?_⟩) ?_ ?_
    rotate_left
    ·intro w'
     go_simp
     with_reducible rfl
    rotate_left
    ·simp only[Act.put,qS,Za,Zb]
     rfl
    refine Zi kr ?_
    obtain⟨ap,ar,al,au,av,b7⟩:=qD3 δ.out
    try go_wp2_with (first|((with_reducible refine Qf (f:=86) rfl ?_);refine Qt (some 18) rfl rfl Try.func86 kr rfl #[.int .i64 J,.int .i64 Z,.int .i64 (Xh B)] rfl (by(try simp only[List.map_toArray,List.map_cons,List.map_nil]);first|done|(simp only[Y];rfl)|rfl|(simp only[List.length_drop,List.length_take];rfl)) ?_;(with_reducible refine(door_within.calls J Z (Xh B) true _ A6.out).mono ?_);rintro e w' ⟨rfl,⟨nd,rfl⟩⟩;refine⟨_,rfl, ?_⟩)|(go_at_call 86;(with_reducible refine(door_within.calls O 0 γ false _ A9.out).mono ?_);rintro e w' ⟨rfl,⟨nd,rfl⟩⟩))
    go_ret
    exact⟨by first|rfl|(simp[Qk,Qj] <;> rfl)|(simp only[← Y,← X];first|rfl|(simp[Qk,Qj] <;> rfl))|(simp[*,Qk,Qj] <;> rfl),bel⟩
  ·replace c7:=Bool.eq_false_iff.mpr c7
   subst c7
   rw[if_neg nft] at H
   obtain rfl:=Option.some.inj H
   go_enter Try.func71,Try.ntmps71
   try go_wp2_with (first|((with_reducible refine Qe (N:=1) rfl ?_);(try(refine Zs (by rfl) ?_;dsimp only));refine qE 1 #[.int .i64 B,.int .i64 J,.int .i64 O] 27 ?_;intro ε hg bb hbox hb;have δ :=aK hbox;have a0:=sGe hg;have μ :=sGe hg;replace HB:=sHb hb;clear hb hbox hg;obtain⟨ay,az,cd,b0,b1,ce⟩:=qD3 δ.out)|((with_reducible refine Qf (f:=86) rfl ?_);refine Qt (some 6) rfl rfl Try.func86 kr rfl #[.int .i64 B,.int .i64 0,.int .i64 3] rfl qM ?_;(with_reducible refine(door_within.calls B 0 3 true _ A2.out).mono ?_);rintro e w' ⟨rfl,⟨nd,rfl⟩⟩;refine⟨_,rfl, ?_⟩))
   (try(rw[Yw bb];generalize hq_:World.drewN bb _=bb;have ρ:Aside0 (bb.heap[ε]?=some (.cells #[.int .i64 B,.int .i64 J,.int .i64 O] 27 (0,0))):=⟨by rw[← hq_];exact(bka δ)⟩;have τ :Aside0 (Below w.heap.size w bb):=⟨by rw[← hq_];exact bel⟩;clear δ HB hq_;have δ :=ρ;have HB:= τ;clear ρ τ))
   (try(have d8:bb.cell? ⟨ε,0,none⟩=some (.int .i64 B):=(Qa δ.out 0).trans rfl))
   (try(have d9:bb.cell? ⟨ε,1,none⟩=some (.int .i64 J):=(Qa δ.out 1).trans rfl))
   (try(have dt:bb.cell? ⟨ε,2,none⟩=some (.int .i64 O):=(Qa δ.out 2).trans rfl))
   (try(have da:=Qh δ.out 0))
   (try(have db:=Qh δ.out 1))
   (try(have gf:=Qh δ.out 2))
   have ρ:=aK (Qd δ.out)
   have τ :=aK (Qg HB.out)
   clear δ
   clear HB
   have δ :=ρ
   have HB:= τ
   clear ρ τ
   refine Ze (n:=6) (S:=fun w'=>w'.cell? ⟨ε,0,none⟩=some (.int .i64 B)∧w'.cell? ⟨ε,1,none⟩=some (.int .i64 J)∧w'.cell? ⟨ε,2,none⟩=some (.int .i64 O)) (ds:=[]) #[false,false,false,false,false,false] kr rfl rfl ⟨(Qa δ.out 0).trans rfl,(Qa δ.out 1).trans rfl,(Qa δ.out 2).trans rfl⟩ (fun hHeld=>?_)
   generalize bb.drew=ij at δ HB hHeld ⊢
   refine Xe (i:=1) (N:=some 9) (v:=?_) (a':=?_) #[false,true,false,false,false,false] rfl rfl kr (fun _ _ _ h=>h) (Or.inl ⟨by rfl, ?_⟩) ?_ ?_
   rotate_left
   ·intro w'
    go_simp
    with_reducible rfl
   rotate_left
   ·simp only[Act.put,qS,Za,Zb]
    rfl
   refine X2 (i:=2) (N:=some 10) (v:=?_) (a':=?_) #[false,true,true,false,false,false] rfl rfl kr (fun _ _ _ h=>h) (Or.inl ⟨by rfl, ?_⟩) hHeld ?_ ?_
   rotate_left
   ·rintro w' ⟨s0,s1,s2⟩
    go_simp
    with_reducible rfl
   rotate_left
   ·simp only[Act.put,qS,Za,Zb]
    rfl
   refine Zf (i:=0) (N:=some 8) #[true,true,true,false,false,false] rfl rfl kr (by decide) (fun K hK=>?_)
   refine Zd Try.func87 kr rfl #[] (by rfl) rfl rfl (by(try simp only[List.map_toArray,List.map_cons,List.map_nil]);first|done|rfl|(simp only[List.length_drop,List.length_take];rfl)) ?_
   with_reducible refine(door_phases.calls _).mono ?_
   rintro e di ⟨rfl,hb⟩
   refine⟨_,rfl, ?_⟩
   have ρ:=aK (Qz (g:= ε) (o:=.cells #[.int .i64 B,.int .i64 J,.int .i64 O] 27 (0,0)) (by(with_reducible repeat first|refine Qm ?_ _|refine Qd ?_|refine Ql ?_ _);exact δ.out) hb)
   have τ :=aK (Q2 (by repeat(first|(with_reducible first|exact HB.out|apply Qo|apply Qi|apply Qg|refine Qr ?_ μ.out)|exact HB.out)) hb)
   clear δ
   clear HB
   have δ :=ρ
   have HB:= τ
   clear ρ τ
   (try clear hb)
   (try clear a4)
   (try clear hk)
   (try clear hi)
   refine hK.out _ _ ⟨qc δ,qc δ,qc δ⟩ (fun hHeld=>?_)
   clear hK K
   refine qN (some 8) ?_
   refine Xe (i:=3) (N:=some 11) (v:=?_) (a':=?_) #[true,true,true,true,false,false] rfl rfl kr (fun _ _ _ h=>h) (Or.inl ⟨by rfl, ?_⟩) ?_ ?_
   rotate_left
   ·intro w'
    rw[G1 (d:=B) (x:=.tmp 8) (y:=.tmp 10)]
    all_goals first|exact hph_.1|exact hph_.2|rfl
   rotate_left
   ·simp only[Act.put,qS,Za,Zb]
    rfl
   refine Xe (i:=4) (N:=some 12) (v:=?_) (a':=?_) #[true,true,true,true,true,false] rfl rfl kr (fun _ _ _ h=>h) (Or.inl ⟨by rfl, ?_⟩) ?_ ?_
   rotate_left
   ·intro w'
    go_simp
    with_reducible rfl
   rotate_left
   ·simp only[Act.put,qS,Za,Zb]
    rfl
   refine Xe (i:=5) (N:=some 3) (v:=?_) (a':=?_) #[true,true,true,true,true,true] rfl rfl kr (fun _ _ _ h=>h) (Or.inl ⟨by rfl, ?_⟩) ?_ ?_
   rotate_left
   ·intro w'
    go_simp
    with_reducible rfl
   rotate_left
   ·simp only[Act.put,qS,Za,Zb]
    rfl
   refine Zi kr ?_
   obtain⟨fq,gi,gj,fr,gk,gl⟩:=qD3 δ.out
   try go_wp2_with (first|((with_reducible refine Qf (f:=86) rfl ?_);refine Qt (some 18) rfl rfl Try.func86 kr rfl #[.int .i64 J,.int .i64 Z,.int .i64 (Xh B)] rfl (by(try simp only[List.map_toArray,List.map_cons,List.map_nil]);first|done|(simp only[Y];rfl)|rfl|(simp only[List.length_drop,List.length_take];rfl)) ?_;(with_reducible refine(door_within.calls J Z (Xh B) false _ A6.out).mono ?_);rintro e w' ⟨rfl,⟨nd,rfl⟩⟩;refine⟨_,rfl, ?_⟩))
   go_ret
   exact⟨by first|rfl|(simp[Qk,Qj] <;> rfl)|(simp only[← Y];first|rfl|(simp[Qk,Qj] <;> rfl))|(simp[*,Qk,Qj] <;> rfl),bel⟩
 ·replace c3:=Bool.eq_false_iff.mpr c3
  subst c3
  rw[if_neg nft] at H
  obtain rfl:=Option.some.inj H
  go_enter Try.func71,Try.ntmps71
  go_wp2_with (first|((with_reducible refine Qe (N:=1) rfl ?_);(try(refine Zs (by rfl) ?_;dsimp only));refine qE 1 #[.int .i64 B,.int .i64 J,.int .i64 O] 27 ?_;intro ε hg h8 hbox hb;have δ :=aK hbox;have a0:=sGe hg;have μ :=sGe hg;replace HB:=sHb hb;clear hb hbox hg;obtain⟨e7,e8,eu,e9,ea,ev⟩:=qD3 δ.out)|((with_reducible refine Qf (f:=86) rfl ?_);refine Qt (some 6) rfl rfl Try.func86 kr rfl #[.int .i64 B,.int .i64 0,.int .i64 3] rfl qM ?_;(with_reducible refine(door_within.calls B 0 3 false _ A2.out).mono ?_);rintro e w' ⟨rfl,⟨nd,rfl⟩⟩;refine⟨_,rfl, ?_⟩))
  go_ret
  exact⟨by first|rfl|(simp[Qk,Qj] <;> rfl)|(simp[*,Qk,Qj] <;> rfl),bel⟩
def door_Rest.j0:Nat→Bool→Int→Int→Int→Int→Int→Int→Int→Int→Int→Int→Int→Int→Int→Option (Int×Int)
 |0,_,_,_,_,_,_,_,_,_,_,_,_,_,_=>none
 |k+1,δ,ε,ζ,η,O,θ,ι,B,κ,J,X,Y,Z,γ=>if δ = true then (some (0,170)) else (if Y=0 then (some (0,0)) else (if Y=1 then (some (wrap64 ((wrap64 (Z+(wrap64 (J+B))))+(wrap64 ((mx (wrap64 (X-γ)) 0) * (wrap64 ((wrap64 (O+J))+B))))),0)) else (if Y=2 then (some (wrap64 ((wrap64 (Z+B))+(wrap64 ((mx (wrap64 (X-γ)) 0) * (wrap64 ((wrap64 (O+J))+B))))),0)) else (some (wrap64 (Z+(wrap64 ((mx (wrap64 (X-γ)) 0) * (wrap64 ((wrap64 (O+J))+B))))),0)))))
def door_Rest.f (k:Nat) (B:Int) (J:Int) (O:Int) (X:Int) (Y:Int) (Z:Int) (γ:Int) (ζ :Int) (θ :Int) (η :Int) (δ :Int) (ε :Int) (ι :Int):Option (Int×Int):=(door_gear.f k B J O X Y Z γ ζ θ η).bind fun ab=>(if ab=true then ((door_Check.f δ ε ι).bind fun χ =>(door_Rest.j0 k (χ != 0) B J O X Y Z γ ζ θ η δ ε ι)) else (door_Rest.j0 k true B J O X Y Z γ ζ θ η δ ε ι))
theorem door_Rest.Zu:∀ k,(∀ O Y Z B X y5 y6 y7 y8 y9 γ δ ζ η,LeO (door_Rest.j0 k O Y Z B X y5 y6 y7 y8 y9 γ δ ζ η) (door_Rest.j0 (k+1) O Y Z B X y5 y6 y7 y8 y9 γ δ ζ η))
 |0=>fun _ _ _ _ _ _ _ _ _ _ _ _ _ _ r h=>by simp[door_Rest.j0] at h
 |k+1=>by
  have J:=door_Rest.Zu k
  ·intro O Y Z B X y5 y6 y7 y8 y9 γ δ ζ η
   unfold door_Rest.j0
   repeat' first|(with_reducible first|apply J|apply door_gear.mono|exact LeO.refl _|exact LeO.none _|refine LeO.ite ?_ ?_|refine LeO.bind ?_ (fun _=>?_))|apply J|apply door_gear.mono|exact LeO.none _|refine LeO.ite ?_ ?_|refine LeO.bind ?_ (fun _=>?_)
theorem door_Rest.mono:∀ B X a2 a3 O a5 Y a7 a8 a9 Z γ δ k,LeO (door_Rest.f k B X a2 a3 O a5 Y a7 a8 a9 Z γ δ) (door_Rest.f (k+1) B X a2 a3 O a5 Y a7 a8 a9 Z γ δ):=by
 intro B X a2 a3 O a5 Y a7 a8 a9 Z γ δ k
 have J:=door_Rest.Zu k
 unfold door_Rest.f
 repeat' first|(with_reducible first|apply J|apply door_gear.mono|exact LeO.refl _|exact LeO.none _|refine LeO.ite ?_ ?_|refine LeO.bind ?_ (fun _=>?_))|apply J|apply door_gear.mono|exact LeO.none _|refine LeO.ite ?_ ?_|refine LeO.bind ?_ (fun _=>?_)
set_option maxHeartbeats 8000000 in
set_option maxRecDepth 100000 in
theorem door_Rest.calls (k:Nat) (B:Int) (J:Int) (O:Int) (X:Int) (Y:Int) (Z:Int) (γ:Int) (ζ :Int) (θ :Int) (η :Int) (δ :Int) (ε :Int) (ι :Int) (r1:Int) (r2:Int) (w:World) (h:door_Rest.f k B J O X Y Z γ ζ θ η δ ε ι = some (r1,r2)):
 Calls Try.prog 47 #[.agg #[.int .i64 B,.int .i64 J,.int .i64 O,.int .i64 X,.int .i64 Y,.int .i64 Z,.int .i64 γ,.int .i64 ζ,.int .i64 θ,.int .i64 η],.agg #[.int .i64 δ,.int .i64 ε,.int .i64 ι]] w fun e w'=>e = .returned (.tuple #[.int .i64 r1,.int .i64 r2])∧Below w.heap.size w w':=by
 have cg:=Try.underlying25
 have he:=Try.underlying27
 have HB:=aK (Below.refl w.heap.size w)
 have H:((door_gear.f k B J O X Y Z γ ζ θ η).bind fun ab=>(if ab=true then ((door_Check.f δ ε ι).bind fun χ =>(door_Rest.j0 k (χ != 0) B J O X Y Z γ ζ θ η δ ε ι)) else (door_Rest.j0 k true B J O X Y Z γ ζ θ η δ ε ι)))=some (r1,r2):=h
 clear h
 have a2:=aK H
 clear H
 go_enter Try.func47,Try.ntmps47
 go_upto_region 1 with(first|((with_reducible refine Qe (N:=2) rfl ?_);refine qE 2 #[.int .i64 B,.int .i64 J,.int .i64 O,.int .i64 X,.int .i64 Y,.int .i64 Z,.int .i64 γ,.int .i64 ζ,.int .i64 θ,.int .i64 η] 25 ?_;intro ag hg w4 hbox hb;have κ :=aK hbox;have b2:=sGe hg;have bb:=sGe hg;replace HB:=sHb hb;clear hb hbox hg)|((with_reducible refine Qe (N:=3) rfl ?_);refine qE 3 #[.int .i64 δ,.int .i64 ε,.int .i64 ι] 27 ?_;intro ah hg w5 hbox hb;have μ :=aK hbox;have bm:=sGe hg;have bn:=sGe hg;have ν :=sNl κ hg;have ξ :=sNg κ hg;replace κ :=sBk κ hb;replace HB:=sHb hb;clear hb hbox hg))
 (try simp only[Act.put,qS])
 go_cut [14] (fun al wc=>∃ (kq:Nat) (a0:Bool),al = .bool a0∧Aside0 (door_Rest.j0 kq a0 B J O X Y Z γ ζ θ η δ ε ι = some (r1,r2))∧Aside0 (kq≤k)∧Aside0 (wc.heap[ag]?=some (.cells #[.int .i64 B,.int .i64 J,.int .i64 O,.int .i64 X,.int .i64 Y,.int .i64 Z,.int .i64 γ,.int .i64 ζ,.int .i64 θ,.int .i64 η] 25 (0,0)))∧Aside0 (wc.heap[ah]?=some (.cells #[.int .i64 δ,.int .i64 ε,.int .i64 ι] 27 (0,0)))∧Aside0 (Below w.heap.size w wc))
 case first=>
  have H:=a2.out
  clear a2
  obtain⟨ab,ao,H⟩:=qO H
  have A6:=aK ao
  clear ao
  by_cases c7:ab=true
  ·subst c7
   rw[if_pos rfl] at H
   obtain⟨χ,cn,H⟩:=qO H
   have A8:=aK cn
   clear cn
   have H':=aK H
   clear H
   have bk:= ν.out
   have bl:= ξ.out
   obtain⟨af,bd,du,co,cp,gx,gy,a6,aa,ae,bf,cw,ee,gz,hh,hj,hl,bc,iu,iv⟩:=Zg κ.out
   go_wp2_with (first|((with_reducible refine Qf (f:=72) rfl ?_);refine Qt (some 8) rfl rfl Try.func72 kr rfl #[.agg #[.int .i64 B,.int .i64 J,.int .i64 O,.int .i64 X,.int .i64 Y,.int .i64 Z,.int .i64 γ,.int .i64 ζ,.int .i64 θ,.int .i64 η]] rfl qM ?_;(with_reducible refine(door_gear.calls k B J O X Y Z γ ζ θ η true _ A6.out).mono ?_);rintro e d4 ⟨rfl,hb⟩;refine⟨_,rfl, ?_⟩;replace κ :=sBk κ hb;replace μ :=sBk μ hb;replace HB:=sHb hb;(try clear hb);(try clear a4);(try clear hk);(try clear hi);obtain⟨a5,am,φ,b3,b4,a8⟩:=qD3 μ.out)|(go_at_call 71;(with_reducible refine(door_Check.calls δ ε ι χ _ A8.out).mono ?_);rintro e ba ⟨rfl,hb⟩;have ρ:=aK (Qz (g:=ag) (o:=.cells #[.int .i64 B,.int .i64 J,.int .i64 O,.int .i64 X,.int .i64 Y,.int .i64 Z,.int .i64 γ,.int .i64 ζ,.int .i64 θ,.int .i64 η] 25 (0,0)) κ.out hb);have τ :=aK (Qz (g:=ah) (o:=.cells #[.int .i64 δ,.int .i64 ε,.int .i64 ι] 27 (0,0)) μ.out hb);have ω :=aK (Q2 HB.out hb);clear κ;clear μ;clear HB;have κ :=ρ;have μ := τ;have HB:= ω;clear ρ τ ω;(try clear hb);(try clear a4);(try clear hk);(try clear hi)))
   go_meet
   case rel=>exact⟨_,((χ != 0)),rfl,H',⟨by first|omega|exact Nat.le_refl _⟩,κ,μ,HB⟩
  ·replace c7:=Bool.eq_false_iff.mpr c7
   subst c7
   rw[if_neg nft] at H
   have H':=aK H
   clear H
   have ej:= ν.out
   have ek:= ξ.out
   obtain⟨bu,bv,di,eg,eh,ei,ep,f7,f8,fa,ci,cm,ef,fb,fc,fe,fg,fl,fn,fo⟩:=Zg κ.out
   go_wp2_with (first|((with_reducible refine Qf (f:=72) rfl ?_);refine Qt (some 8) rfl rfl Try.func72 kr rfl #[.agg #[.int .i64 B,.int .i64 J,.int .i64 O,.int .i64 X,.int .i64 Y,.int .i64 Z,.int .i64 γ,.int .i64 ζ,.int .i64 θ,.int .i64 η]] rfl qM ?_;(with_reducible refine(door_gear.calls k B J O X Y Z γ ζ θ η false _ A6.out).mono ?_);rintro e cx ⟨rfl,hb⟩;refine⟨_,rfl, ?_⟩;replace κ :=sBk κ hb;replace μ :=sBk μ hb;replace HB:=sHb hb;(try clear hb);(try clear a4);(try clear hk);(try clear hi)))
   go_meet
   case rel=>exact⟨_,(true),rfl,H',⟨by first|omega|exact Nat.le_refl _⟩,κ,μ,HB⟩
 case rest=>
  clear a2
  obtain⟨kq,a0,rfl,HA,lh,κ,μ,HB⟩:=hcut
  cases kq with
  |zero=>exact absurd HA.out (by simp[door_Rest.j0])
  |succ ll=>
   have H:=HA.out
   clear HA
   simp only[door_Rest.j0] at H
   by_cases σ:a0=true
   ·subst σ
    rw[if_pos rfl] at H
    simp only[Option.some.injEq,Prod.mk.injEq] at H
    obtain⟨rfl,rfl⟩:=H
    go_wp2
    go_ret2
    exact⟨rfl,HB.out⟩
   ·replace σ:=Bool.eq_false_iff.mpr σ
    subst σ
    rw[if_neg nft] at H
    by_cases ψ : δ = 0
    ·rw[if_pos ψ] at H
     have c18b0:(δ == 0)=true:=beq_iff_eq.mpr ψ
     have c18b1:(δ != 0)=false:=bne_eq_false_iff_eq.mpr ψ
     clear ψ
     simp only[Option.some.injEq,Prod.mk.injEq] at H
     obtain⟨rfl,rfl⟩:=H
     have cq:= ξ.out
     have ct:= ν.out
     obtain⟨ak,an,a3,aw,ax,b6⟩:=qD3 μ.out
     go_wp2
     go_ret2
     exact⟨rfl,HB.out⟩
    ·rw[if_neg ψ] at H
     have c18b0:(δ == 0)=false:=beq_eq_false_iff_ne.mpr ψ
     have c18b1:(δ != 0)=true:=bne_iff_ne.mpr ψ
     by_cases ac: δ = 1
     ·rw[if_pos ac] at H
      have c21b0:(δ == 1)=true:=beq_iff_eq.mpr ac
      have c21b1:(δ != 1)=false:=bne_eq_false_iff_eq.mpr ac
      clear ac
      obtain⟨ai,a1⟩:∃ j_:Int,(mx (wrap64 (η - ι)) 0)=j_:=⟨_,rfl⟩
      replace H:(some (wrap64 ((wrap64 (ε + (wrap64 (θ + γ))))+(wrap64 ((ai) * (wrap64 ((wrap64 (X + θ))+γ))))),0))=some (r1,r2):=by first|(rw[a1] at H;exact H)|(simp only[a1] at H ⊢;exact H)
      have ar:(if (wrap64 (η - ι))<0 then 0 else (wrap64 (η - ι)))=ai:=a1
      simp only[Option.some.injEq,Prod.mk.injEq] at H
      obtain⟨rfl,rfl⟩:=H
      have dl:= ξ.out
      have dy:= ν.out
      obtain⟨ay,az,cd,b0,b1,ce⟩:=qD3 μ.out
      obtain⟨d8,d9,dt,h0,h4,h5,h6,b5,b9,bg,da,db,gf,h7,h8,h9,ha,b8,bh,bi⟩:=Zg κ.out
      go_wp2
      go_ret2
      exact⟨by first|rfl|(simp[Qk,Qj] <;> rfl)|(simp only[← a1];first|rfl|(simp[Qk,Qj] <;> rfl))|(simp[*,Qk,Qj] <;> rfl),HB.out⟩
     ·rw[if_neg ac] at H
      have c21b0:(δ == 1)=false:=beq_eq_false_iff_ne.mpr ac
      have c21b1:(δ != 1)=true:=bne_iff_ne.mpr ac
      by_cases b7: δ = 2
      ·rw[if_pos b7] at H
       have c26b0:(δ == 2)=true:=beq_iff_eq.mpr b7
       have c26b1:(δ != 2)=false:=bne_eq_false_iff_eq.mpr b7
       clear b7
       obtain⟨aj,a7⟩:∃ j_:Int,(mx (wrap64 (η - ι)) 0)=j_:=⟨_,rfl⟩
       replace H:(some (wrap64 ((wrap64 (ε + γ))+(wrap64 ((aj) * (wrap64 ((wrap64 (X + θ))+γ))))),0))=some (r1,r2):=by first|(rw[a7] at H;exact H)|(simp only[a7] at H ⊢;exact H)
       have au:(if (wrap64 (η - ι))<0 then 0 else (wrap64 (η - ι)))=aj:=a7
       simp only[Option.some.injEq,Prod.mk.injEq] at H
       obtain⟨rfl,rfl⟩:=H
       have bj:= ξ.out
       have cu:= ν.out
       obtain⟨ff,iz,j4,j5,ja,jl⟩:=qD3 μ.out
       obtain⟨e7,e8,eu,ft,fu,fv,fw,ic,ie,ig,e9,ea,ev,fx,fy,fz,ga,ih,ii,ij⟩:=Zg κ.out
       go_wp2
       go_ret2
       exact⟨by first|rfl|(simp[Qk,Qj] <;> rfl)|(simp only[← a7];first|rfl|(simp[Qk,Qj] <;> rfl))|(simp[*,Qk,Qj] <;> rfl),HB.out⟩
      ·rw[if_neg b7] at H
       have c26b0:(δ == 2)=false:=beq_eq_false_iff_ne.mpr b7
       have c26b1:(δ != 2)=true:=bne_iff_ne.mpr b7
       obtain⟨ap,a9⟩:∃ j_:Int,(mx (wrap64 (η - ι)) 0)=j_:=⟨_,rfl⟩
       replace H:(some (wrap64 (ε + (wrap64 ((ap) * (wrap64 ((wrap64 (X + θ))+γ))))),0))=some (r1,r2):=by first|(rw[a9] at H;exact H)|(simp only[a9] at H ⊢;exact H)
       have av:(if (wrap64 (η - ι))<0 then 0 else (wrap64 (η - ι)))=ap:=a9
       simp only[Option.some.injEq,Prod.mk.injEq] at H
       obtain⟨rfl,rfl⟩:=H
       have dr:= ξ.out
       have ez:= ν.out
       obtain⟨d0,eb,fh,ec,ed,gg⟩:=qD3 μ.out
       obtain⟨gb,gt,gu,jb,jc,jd,je,j6,j7,j8,ge,gv,gw,jf,jg,jh,ji,j9,jx,jy⟩:=Zg κ.out
       go_wp2
       go_ret2
       exact⟨by first|rfl|(simp[Qk,Qj] <;> rfl)|(simp only[← a9];first|rfl|(simp[Qk,Qj] <;> rfl))|(simp[*,Qk,Qj] <;> rfl),HB.out⟩
def door_Ask.j0:Nat→Bool→Int→Int→Int→Int→Int→Int→Int→Int→Int→Int→Option (Int×Int×Int×Int)
 |0,_,_,_,_,_,_,_,_,_,_,_=>none
 |k+1,B,Z,γ,O,δ,ε,ζ,η,J,X,Y=>if B=true then (some (0,0,0,170)) else (if J=0 then (some (1,O,0,0)) else (some (J,X,Y,0)))
def door_Ask.f (k:Nat) (B:Int) (J:Int) (O:Int) (X:Int) (Y:Int) (Z:Int) (γ:Int) (δ :Int) (ε :Int) (ι :Int):Option (Int×Int×Int×Int):=(door_times.f k B J O X Y Z γ).bind fun a6=>(if a6=true then ((door_Check.f δ ε ι).bind fun a0=>(door_Ask.j0 k (a0 != 0) B J O X Y Z γ δ ε ι)) else (door_Ask.j0 k true B J O X Y Z γ δ ε ι))
theorem door_Ask.Zu:∀ k,(∀ O Y Z B X y5 y6 y7 y8 y9 γ,LeO (door_Ask.j0 k O Y Z B X y5 y6 y7 y8 y9 γ) (door_Ask.j0 (k+1) O Y Z B X y5 y6 y7 y8 y9 γ))
 |0=>fun _ _ _ _ _ _ _ _ _ _ _ r h=>by simp[door_Ask.j0] at h
 |k+1=>by
  have J:=door_Ask.Zu k
  ·intro O Y Z B X y5 y6 y7 y8 y9 γ
   unfold door_Ask.j0
   repeat' first|(with_reducible first|apply J|apply door_times.mono|exact LeO.refl _|exact LeO.none _|refine LeO.ite ?_ ?_|refine LeO.bind ?_ (fun _=>?_))|apply J|apply door_times.mono|exact LeO.none _|refine LeO.ite ?_ ?_|refine LeO.bind ?_ (fun _=>?_)
theorem door_Ask.mono:∀ B X a2 a3 O a5 Y a7 a8 a9 k,LeO (door_Ask.f k B X a2 a3 O a5 Y a7 a8 a9) (door_Ask.f (k+1) B X a2 a3 O a5 Y a7 a8 a9):=by
 intro B X a2 a3 O a5 Y a7 a8 a9 k
 have J:=door_Ask.Zu k
 unfold door_Ask.f
 repeat' first|(with_reducible first|apply J|apply door_times.mono|exact LeO.refl _|exact LeO.none _|refine LeO.ite ?_ ?_|refine LeO.bind ?_ (fun _=>?_))|apply J|apply door_times.mono|exact LeO.none _|refine LeO.ite ?_ ?_|refine LeO.bind ?_ (fun _=>?_)
set_option maxHeartbeats 8000000 in
set_option maxRecDepth 100000 in
theorem door_Ask.calls (k:Nat) (B:Int) (J:Int) (O:Int) (X:Int) (Y:Int) (Z:Int) (γ:Int) (δ :Int) (ε :Int) (ι :Int) (r1:Int) (r2:Int) (r3:Int) (r4:Int) (w:World) (h:door_Ask.f k B J O X Y Z γ δ ε ι = some (r1,r2,r3,r4)):
 Calls Try.prog 46 #[.agg #[.int .i64 B,.int .i64 J,.int .i64 O,.int .i64 X,.int .i64 Y,.int .i64 Z,.int .i64 γ],.agg #[.int .i64 δ,.int .i64 ε,.int .i64 ι]] w fun e w'=>e = .returned (.tuple #[.agg #[.int .i64 r1,.int .i64 r2,.int .i64 r3],.int .i64 r4])∧Below w.heap.size w w':=by
 have ja:=Try.underlying23
 have he:=Try.underlying27
 have HB:=aK (Below.refl w.heap.size w)
 have H:((door_times.f k B J O X Y Z γ).bind fun a6=>(if a6=true then ((door_Check.f δ ε ι).bind fun a0=>(door_Ask.j0 k (a0 != 0) B J O X Y Z γ δ ε ι)) else (door_Ask.j0 k true B J O X Y Z γ δ ε ι)))=some (r1,r2,r3,r4):=h
 clear h
 have a2:=aK H
 clear H
 go_enter Try.func46,Try.ntmps46
 go_upto_region 1 with(first|((with_reducible refine Qe (N:=2) rfl ?_);refine qE 2 #[.int .i64 B,.int .i64 J,.int .i64 O,.int .i64 X,.int .i64 Y,.int .i64 Z,.int .i64 γ] 23 ?_;intro a7 hg w4 hbox hb;have ζ :=aK hbox;have aa:=sGe hg;have ab:=sGe hg;replace HB:=sHb hb;clear hb hbox hg)|((with_reducible refine Qe (N:=3) rfl ?_);refine qE 3 #[.int .i64 δ,.int .i64 ε,.int .i64 ι] 27 ?_;intro a9 hg w5 hbox hb;have η :=aK hbox;have ae:=sGe hg;have af:=sGe hg;have ξ :=sNl ζ hg;have σ:=sNg ζ hg;replace ζ :=sBk ζ hb;replace HB:=sHb hb;clear hb hbox hg)|((with_reducible refine Qe (N:=4) rfl ?_);refine qE 4 #[.int .i64 0,.int .i64 0,.int .i64 0] 27 ?_;intro ψ hg w6 hbox hb;have θ :=aK hbox;have ak:=sGe hg;have al:=sGe hg;have μ :=sNl ζ hg;have ν :=sNg ζ hg;have χ :=sNl η hg;have κ :=sNg η hg;replace ζ :=sBk ζ hb;replace η :=sBk η hb;replace HB:=sHb hb;clear hb hbox hg))
 (try simp only[Act.put,qS])
 go_cut [13] (fun cp wc=>∃ (kq:Nat) (a1:Bool),cp = .bool a1∧Aside0 (door_Ask.j0 kq a1 B J O X Y Z γ δ ε ι = some (r1,r2,r3,r4))∧Aside0 (kq≤k)∧Aside0 (wc.heap[a7]?=some (.cells #[.int .i64 B,.int .i64 J,.int .i64 O,.int .i64 X,.int .i64 Y,.int .i64 Z,.int .i64 γ] 23 (0,0)))∧Aside0 (wc.heap[a9]?=some (.cells #[.int .i64 δ,.int .i64 ε,.int .i64 ι] 27 (0,0)))∧Aside0 (wc.heap[ψ]?=some (.cells #[.int .i64 0,.int .i64 0,.int .i64 0] 27 (0,0)))∧Aside0 (Below w.heap.size w wc))
 case first=>
  have H:=a2.out
  clear a2
  obtain⟨a6,cr,H⟩:=qO H
  have A7:=aK cr
  clear cr
  by_cases c8:a6=true
  ·subst c8
   rw[if_pos rfl] at H
   obtain⟨a0,bw,H⟩:=qO H
   have A9:=aK bw
   clear bw
   have H':=aK H
   clear H
   have cf:= ξ.out
   have cj:=σ.out
   have et:= μ.out
   have fi:= ν.out
   obtain⟨a5,am,φ,f7,f8,fa,fb,b3,b4,a8,fc,fe,ff,fg⟩:=qD7 ζ.out
   go_wp2_with (first|((with_reducible refine Qf (f:=70) rfl ?_);refine Qt (some 7) rfl rfl Try.func70 kr rfl #[.agg #[.int .i64 B,.int .i64 J,.int .i64 O,.int .i64 X,.int .i64 Y,.int .i64 Z,.int .i64 γ]] rfl qM ?_;(with_reducible refine(door_times.calls k B J O X Y Z γ true _ A7.out).mono ?_);rintro e ba ⟨rfl,hb⟩;refine⟨_,rfl, ?_⟩;replace ζ :=sBk ζ hb;replace η :=sBk η hb;replace θ :=sBk θ hb;replace HB:=sHb hb;(try clear hb);(try clear a4);(try clear hk);(try clear hi);have ej:= χ.out;have ek:= κ.out;obtain⟨bu,bv,di,ci,cm,ef⟩:=qD3 η.out)|(go_at_call 71;(with_reducible refine(door_Check.calls δ ε ι a0 _ A9.out).mono ?_);rintro e cx ⟨rfl,hb⟩;have ρ:=aK (Qz (g:=a7) (o:=.cells #[.int .i64 B,.int .i64 J,.int .i64 O,.int .i64 X,.int .i64 Y,.int .i64 Z,.int .i64 γ] 23 (0,0)) ζ.out hb);have τ :=aK (Qz (g:=a9) (o:=.cells #[.int .i64 δ,.int .i64 ε,.int .i64 ι] 27 (0,0)) η.out hb);have ω :=aK (Qz (g:= ψ) (o:=.cells #[.int .i64 0,.int .i64 0,.int .i64 0] 27 (0,0)) θ.out hb);have a3:=aK (Q2 HB.out hb);clear ζ;clear η;clear θ;clear HB;have ζ :=ρ;have η := τ;have θ := ω;have HB:=a3;clear ρ τ ω a3;(try clear hb);(try clear a4);(try clear hk);(try clear hi)))
   go_meet
   case rel=>exact⟨_,((a0 != 0)),rfl,H',⟨by first|omega|exact Nat.le_refl _⟩,ζ,η,θ,HB⟩
  ·replace c8:=Bool.eq_false_iff.mpr c8
   subst c8
   rw[if_neg nft] at H
   have H':=aK H
   clear H
   have k7:= ξ.out
   have k8:=σ.out
   have d5:= μ.out
   have d6:= ν.out
   obtain⟨ag,ah,b5,cq,ct,cu,cv,ai,aj,b8,d1,d2,d3,d7⟩:=qD7 ζ.out
   go_wp2_with (first|((with_reducible refine Qf (f:=70) rfl ?_);refine Qt (some 7) rfl rfl Try.func70 kr rfl #[.agg #[.int .i64 B,.int .i64 J,.int .i64 O,.int .i64 X,.int .i64 Y,.int .i64 Z,.int .i64 γ]] rfl qM ?_;(with_reducible refine(door_times.calls k B J O X Y Z γ false _ A7.out).mono ?_);rintro e dx ⟨rfl,hb⟩;refine⟨_,rfl, ?_⟩;replace ζ :=sBk ζ hb;replace η :=sBk η hb;replace θ :=sBk θ hb;replace HB:=sHb hb;(try clear hb);(try clear a4);(try clear hk);(try clear hi)))
   go_meet
   case rel=>exact⟨_,(true),rfl,H',⟨by first|omega|exact Nat.le_refl _⟩,ζ,η,θ,HB⟩
 case rest=>
  clear a2
  obtain⟨kq,a1,rfl,HA,lh,ζ,η,θ,HB⟩:=hcut
  cases kq with
  |zero=>exact absurd HA.out (by simp[door_Ask.j0])
  |succ ll=>
   have H:=HA.out
   clear HA
   simp only[door_Ask.j0] at H
   by_cases ac:a1=true
   ·subst ac
    rw[if_pos rfl] at H
    simp only[Option.some.injEq,Prod.mk.injEq] at H
    obtain⟨rfl,rfl,rfl,rfl⟩:=H
    have el:= ν.out
    have em:= μ.out
    have dl:= κ.out
    have dy:= χ.out
    obtain⟨ay,az,cd,b0,b1,ce⟩:=qD3 θ.out
    go_wp2
    refine bodyPost_ret (Z9 rfl _ _ ψ 27 #[.int .i64 0,.int .i64 0,.int .i64 0] (0,0) _ rfl (by refine Qq (cs:=#[.int .i64 0,.int .i64 0,.int .i64 0]) ?_ 2 _ rfl;refine Qq (cs:=#[.int .i64 0,.int .i64 0,.int .i64 0]) ?_ 1 _ rfl;refine Qq (cs:=#[.int .i64 0,.int .i64 0,.int .i64 0]) ?_ 0 _ rfl;exact θ.out) Try.underlying27 rfl kr) rfl ?_
    exact⟨by first|rfl|(simp[Qk,Qj] <;> rfl)|(simp[*,Qk,Qj] <;> rfl),bel⟩
   ·replace ac:=Bool.eq_false_iff.mpr ac
    subst ac
    rw[if_neg nft] at H
    by_cases b9: δ = 0
    ·rw[if_pos b9] at H
     have c25b0:(δ == 0)=true:=beq_iff_eq.mpr b9
     have c25b1:(δ != 0)=false:=bne_eq_false_iff_eq.mpr b9
     clear b9
     simp only[Option.some.injEq,Prod.mk.injEq] at H
     obtain⟨rfl,rfl,rfl,rfl⟩:=H
     have dd:=σ.out
     have dk:= ξ.out
     have b6:= χ.out
     have b7:= κ.out
     obtain⟨fq,gi,gj,fr,gk,gl⟩:=qD3 η.out
     have fj:= μ.out
     have fk:= ν.out
     obtain⟨e7,e8,eu,ft,fu,fv,fw,e9,ea,ev,fx,fy,fz,ga⟩:=qD7 ζ.out
     obtain⟨dm,dn,ew,dp,dq,ey⟩:=qD3 θ.out
     go_wp2
     refine bodyPost_ret (Z9 rfl _ _ ψ 27 #[.int .i64 1,.int .i64 O,.int .i64 0] (0,0) _ rfl (by refine Qq (cs:=#[.int .i64 1,.int .i64 O,.int .i64 0]) ?_ 2 _ rfl;refine Qq (cs:=#[.int .i64 1,.int .i64 0,.int .i64 0]) ?_ 1 _ rfl;refine Qq (cs:=#[.int .i64 0,.int .i64 0,.int .i64 0]) ?_ 0 _ rfl;refine X9 ?_ κ.out _;refine X9 ?_ κ.out _;refine X9 ?_ κ.out _;exact θ.out) Try.underlying27 rfl kr) rfl ?_
     exact⟨by first|rfl|(simp[Qk,Qj] <;> rfl)|(simp[*,Qk,Qj] <;> rfl),bel⟩
    ·rw[if_neg b9] at H
     have c25b0:(δ == 0)=false:=beq_eq_false_iff_ne.mpr b9
     have c25b1:(δ != 0)=true:=bne_iff_ne.mpr b9
     simp only[Option.some.injEq,Prod.mk.injEq] at H
     obtain⟨rfl,rfl,rfl,rfl⟩:=H
     have dr:=σ.out
     have ez:= ξ.out
     have i9:= χ.out
     have ia:= κ.out
     obtain⟨gb,gt,gu,ge,gv,gw⟩:=qD3 η.out
     have kb:= ν.out
     have kf:= μ.out
     obtain⟨ee,en,bj,eo,ep,e5⟩:=qD3 θ.out
     go_wp2
     refine bodyPost_ret (Z9 rfl _ _ ψ 27 #[.int .i64 δ,.int .i64 ε,.int .i64 ι] (0,0) _ rfl (by refine Qq (cs:=#[.int .i64 δ,.int .i64 ε,.int .i64 0]) ?_ 2 _ rfl;refine Qq (cs:=#[.int .i64 δ,.int .i64 0,.int .i64 0]) ?_ 1 _ rfl;refine Qq (cs:=#[.int .i64 0,.int .i64 0,.int .i64 0]) ?_ 0 _ rfl;exact θ.out) Try.underlying27 rfl kr) rfl ?_
     exact⟨by first|rfl|(simp[Qk,Qj] <;> rfl)|(simp[*,Qk,Qj] <;> rfl),bel⟩
end Go.Proofs.Ytmfffemidlhcpaa.C
namespace Go.Proofs.Ytmfffemidlhcpaa.DoorPure
open Go.RowKit Go.Proofs.YtmfffemidlhcpaaW.PrintWords Go.Proofs.YtmfffemidlhcpaaW.PrintLast Go.Proofs.YtmfffemidlhcpaaW.PrintMore Go.Proofs.Ytmfffemidlhcpaa.C
abbrev tI (n:Int):Prop:=1≤n∧n≤60
abbrev Jg (t0 t1 X t3 t4 t5 B:Int):Prop:=(tI t0∧tI t1∧tI X∧tI t3∧tI t4∧tI t5)∧0≤B∧B≤60
abbrev Xs (g0 g1 g2 g3 g4 g5 g6 g7 g8 g9:Int):Prop:=Jg g1 g2 g3 g4 g5 g6 g7∧(2≤g0∧g0≤64)∧(1≤g8∧g8≤300)∧0≤g9∧g9≤60
abbrev Xr (d0 d1 Y:Int):Prop:=(d0=0∧d1=0∧Y=0)∨((d0=1∨d0=3)∧1≤d1∧d1≤60∧0≤Y∧Y≤60)∨(d0=2∧1≤d1∧d1≤300∧0≤Y∧Y≤60)
theorem Xj (n a b:Int):door_within.f n a b=some (decide (a≤n∧n≤b)):=by
 unfold door_within.f
 by_cases h:a≤n
 ·rw[if_pos h];simp[h]
 ·rw[if_neg h];simp[h]
theorem rdn (l:List Int) (i:Nat) (h:i<l.length):rd l (i:Int)=l[i]:=by
 simp[rd,h]
theorem Wp (l:List Int) (hl:l.length≤1000) (t0 t1 X t3 t4 t5 B:Int) (j:Nat):∀ (f i:Nat),i+j=l.length→j<f→door_times.l0 f l (l.length:Int) (i:Int) t0 t1 X t3 t4 t5 B=some (decide ((∀ x ∈ l.drop i,tI x)∧0≤B∧B≤60)):=by
 induction j with
 |zero=>
  intro f i h hf
  obtain⟨f,rfl⟩:∃ m,f=m+1:=⟨f-1,by omega⟩
  simp only[door_times.l0]
  rw[if_neg (by omega),Xj,List.drop_of_length_le (by omega)]
  simp
 |succ j ih=>
  intro f i h hf
  obtain⟨f,rfl⟩:∃ m,f=m+1:=⟨f-1,by omega⟩
  have hlt:i<l.length:=by omega
  have ei:wrap64 ((i:Int)+1)=((i+1:Nat):Int):=by unfold wrap64;omega
  simp only[door_times.l0]
  rw[if_pos (by omega),if_pos (by omega),if_pos (by omega),rdn l i hlt,Xj,ei,ih f (i+1) (by omega) (by omega),List.drop_eq_getElem_cons hlt]
  simp only[Option.bind_some]
  by_cases hc:1≤l[i]∧l[i]≤60
  ·rw[decide_eq_true hc,if_pos rfl]
   congr 1
   rw[decide_eq_decide]
   constructor
   ·rintro⟨h1,O⟩
    refine⟨fun x hx=>?_,O⟩
    rcases List.mem_cons.1 hx with rfl|hx
    ·exact hc
    ·exact h1 x hx
   ·rintro⟨h1,O⟩
    exact⟨fun x hx=>h1 x (List.mem_cons_of_mem _ hx),O⟩
  ·have:¬ ((∀ x ∈ l[i] :: l.drop (i+1),tI x)∧0≤B∧B≤60):=fun h=>hc (h.1 _ List.mem_cons_self)
   rw[decide_eq_false hc,if_neg (by decide),decide_eq_false this]
theorem Uw (t0 t1 X t3 t4 t5 B:Int) (f:Nat) (hf:10<f):door_times.f f t0 t1 X t3 t4 t5 B=some (decide (Jg t0 t1 X t3 t4 t5 B)):=by
 unfold door_times.f
 simp only[Option.bind_some]
 have:=Wp [t0,t1,X,t3,t4,t5] (by simp) t0 t1 X t3 t4 t5 B 6 f 0 rfl (by omega)
 rw[show((0:Nat):Int)=0 from rfl] at this
 rw[this]
 congr 1
 rw[decide_eq_decide]
 simp only[List.drop_zero,List.mem_cons,List.not_mem_nil,or_false,forall_eq_or_imp,forall_eq]
theorem Dc (g0 g1 g2 g3 g4 g5 g6 g7 g8 g9:Int) (f:Nat) (hf:10<f):door_gear.f f g0 g1 g2 g3 g4 g5 g6 g7 g8 g9=some (decide (Xs g0 g1 g2 g3 g4 g5 g6 g7 g8 g9)):=by
 unfold door_gear.f
 rw[Uw _ _ _ _ _ _ _ f hf,Xj,Xj,Xj]
 simp only[Option.bind_some]
 by_cases h1:Jg g1 g2 g3 g4 g5 g6 g7
 ·rw[decide_eq_true h1,if_pos rfl]
  by_cases O:2≤g0∧g0≤64
  ·rw[decide_eq_true O,if_pos rfl]
   by_cases Z:1≤g8∧g8≤300
   ·rw[decide_eq_true Z,if_pos rfl]
    congr 1
    rw[decide_eq_decide]
    exact⟨fun h=>⟨h1,O,Z,h⟩,fun h=>h.2.2.2⟩
   ·rw[decide_eq_false Z,if_neg (by decide),decide_eq_false (fun h=>Z h.2.2.1)]
  ·rw[decide_eq_false O,if_neg (by decide),decide_eq_false (fun h=>O h.2.1)]
 ·rw[decide_eq_false h1,if_neg (by decide),decide_eq_false (fun h=>h1 h.1)]
theorem on_eq (d0 d1 Y a b:Int):door_on.f d0 d1 Y a b=some (if wrap64 (d1-1)=0 then (a,b,Y) else (d0,wrap64 (d1-1),Y)):=by
 unfold door_on.f
 split <;> rfl
theorem Ym (d0 d1 Y:Int):door_Check.f d0 d1 Y=some (if Xr d0 d1 Y then 0 else 170):=by
 unfold door_Check.f
 rw[Xj,Xj,Xj,on_eq]
 simp only[Option.bind_some]
 by_cases h:0≤d0∧d0≤3
 ·rw[decide_eq_true h,if_pos rfl]
  have hm:(mn (Xh d0) 1≤d1∧d1≤Xh d0)∧(0≤Y∧Y≤mn (Xh d0) 60)↔Xr d0 d1 Y:=by
   have e:d0=0∨d0=1∨d0=2∨d0=3:=by omega
   rcases e with rfl|rfl|rfl|rfl <;> simp[Xh,mn] <;> omega
  by_cases h1:mn (Xh d0) 1≤d1∧d1≤Xh d0
  ·rw[decide_eq_true h1,if_pos rfl]
   by_cases O:0≤Y∧Y≤mn (Xh d0) 60
   ·rw[decide_eq_true O,if_pos rfl,if_pos (hm.1 ⟨h1,O⟩)]
   ·rw[decide_eq_false O,if_neg (by decide),if_neg (fun h=>O (hm.2 h).2)]
  ·rw[decide_eq_false h1,if_neg (by decide),if_neg (fun h=>h1 (hm.2 h).1)]
 ·rw[decide_eq_false h,if_neg (by decide),if_neg (by omega)]
def Jt (g3 g6 g8 g9 d0 d1 Y:Int):Int:=
 if d0=0 then 0 else d1+(if d0=1 then g8+g6 else if d0=2 then g6 else 0)+(if Y<g9 then (g9-Y) * (g3+g8+g6) else 0)
theorem Er {a b:Int} (ha:0≤a∧a≤60) (hb:0≤b∧b≤420):0≤a * b∧a * b≤25200:=by
 refine⟨Int.mul_nonneg ha.1 hb.1, ?_⟩
 have h1:a * b≤60 * b:=Int.mul_le_mul_of_nonneg_right ha.2 hb.1
 omega
theorem w64 {n:Int} (h: -1000000000000≤n∧n≤1000000000000):wrap64 n=n:=by unfold wrap64;omega
theorem G0 (g0 g1 g2 g3 g4 g5 g6 g7 g8 g9 d0 d1 Y:Int) (hg:Xs g0 g1 g2 g3 g4 g5 g6 g7 g8 g9) (hd:Xr d0 d1 Y):
 wrap64 ((mx (wrap64 (g9-Y)) 0) * (wrap64 ((wrap64 (g3+g8))+g6)))=(if Y<g9 then (g9-Y) * (g3+g8+g6) else 0)∧0≤(if Y<g9 then (g9-Y) * (g3+g8+g6) else 0)∧(if Y<g9 then (g9-Y) * (g3+g8+g6) else 0)≤25200:=by
 have X:1≤g3∧g3≤60:=hg.1.1.2.2.1
 have a2:1≤g6∧g6≤60:=hg.1.1.2.2.2.2.2
 have a3:1≤g8∧g8≤300:=hg.2.2.1
 have O:0≤g9∧g9≤60:=hg.2.2.2
 have a5:0≤Y∧Y≤60:=by omega
 rw[w64 (n:=g9-Y) (by omega),w64 (n:=g3+g8) (by omega),w64 (n:=g3+g8+g6) (by omega)]
 by_cases h:Y<g9
 ·have hp:=Er (a:=g9-Y) (b:=g3+g8+g6) (by omega) (by omega)
  rw[if_pos h]
  have e:mx (g9-Y) 0=g9-Y:=by unfold mx;rw[if_neg (by omega)]
  rw[e]
  exact⟨w64 (by omega),hp⟩
 ·rw[if_neg h]
  have e:mx (g9-Y) 0=0:=by unfold mx;split <;> omega
  rw[e,Int.zero_mul]
  exact⟨w64 (by omega),by omega,by omega⟩
theorem Ll (g0 g1 g2 g3 g4 g5 g6 g7 g8 g9 d0 d1 Y:Int) (f:Nat) (hf:10<f):
 door_Rest.f f g0 g1 g2 g3 g4 g5 g6 g7 g8 g9 d0 d1 Y=some (if Xs g0 g1 g2 g3 g4 g5 g6 g7 g8 g9∧Xr d0 d1 Y then (Jt g3 g6 g8 g9 d0 d1 Y,0) else (0,170)):=by
 unfold door_Rest.f
 rw[Dc _ _ _ _ _ _ _ _ _ _ f hf,Ym]
 simp only[Option.bind_some]
 obtain⟨f,rfl⟩:∃ m,f=m+1:=⟨f-1,by omega⟩
 by_cases h1:Xs g0 g1 g2 g3 g4 g5 g6 g7 g8 g9
 ·rw[decide_eq_true h1,if_pos rfl]
  by_cases O:Xr d0 d1 Y
  ·rw[if_pos O,if_pos (show Xs g0 g1 g2 g3 g4 g5 g6 g7 g8 g9∧Xr d0 d1 Y from⟨h1,O⟩)]
   obtain⟨m1,B,J⟩:=G0 _ _ _ _ _ _ _ _ _ _ _ _ _ h1 O
   have a2:1≤g6∧g6≤60:=h1.1.1.2.2.2.2.2
   have a3:1≤g8∧g8≤300:=h1.2.2.1
   simp only[door_Rest.j0]
   rw[m1]
   unfold Jt
   generalize(if Y<g9 then (g9-Y) * (g3+g8+g6) else 0)=p at B J ⊢
   rw[if_neg (by decide)]
   have hb:0≤d1∧d1≤300:=by omega
   by_cases e0:d0=0
   ·rw[if_pos e0,if_pos e0]
   ·rw[if_neg e0,if_neg e0]
    by_cases e1:d0=1
    ·rw[if_pos e1,if_pos e1,w64 (n:=g8+g6) (by omega),w64 (n:=d1+(g8+g6)) (by omega),w64 (by omega)]
    ·rw[if_neg e1,if_neg e1]
     by_cases e2:d0=2
     ·rw[if_pos e2,if_pos e2,w64 (n:=d1+g6) (by omega),w64 (by omega)]
     ·rw[if_neg e2,if_neg e2,w64 (by omega),Int.add_zero]
  ·rw[if_neg O,if_neg (fun h=>O h.2)]
   simp only[door_Rest.j0]
   rw[if_pos (by decide)]
 ·rw[decide_eq_false h1,if_neg (by decide),if_neg (fun h=>h1 h.1)]
  simp only[door_Rest.j0]
  rw[if_pos trivial]
theorem Cj (t0 t1 X t3 t4 t5 B d0 d1 Y:Int) (f:Nat) (hf:10<f):
 door_Ask.f f t0 t1 X t3 t4 t5 B d0 d1 Y=some (if Jg t0 t1 X t3 t4 t5 B∧Xr d0 d1 Y then (if d0=0 then (1,X,0,0) else (d0,d1,Y,0)) else (0,0,0,170)):=by
 unfold door_Ask.f
 rw[Uw _ _ _ _ _ _ _ f hf,Ym]
 simp only[Option.bind_some]
 obtain⟨f,rfl⟩:∃ m,f=m+1:=⟨f-1,by omega⟩
 by_cases h1:Jg t0 t1 X t3 t4 t5 B
 ·rw[decide_eq_true h1,if_pos rfl]
  by_cases O:Xr d0 d1 Y
  ·rw[if_pos O,if_pos (show Jg t0 t1 X t3 t4 t5 B∧Xr d0 d1 Y from⟨h1,O⟩)]
   simp only[door_Ask.j0]
   rw[if_neg (by decide)]
   split <;> rfl
  ·rw[if_neg O,if_neg (fun h=>O h.2)]
   simp only[door_Ask.j0]
   rw[if_pos (by decide)]
 ·rw[decide_eq_false h1,if_neg (by decide),if_neg (fun h=>h1 h.1)]
  simp only[door_Ask.j0]
  rw[if_pos trivial]
theorem Nc (n:Int):newelref17_tick.f n=some (decide (tI n)):=by
 unfold newelref17_tick.f
 by_cases h:n≥1
 ·rw[if_pos h];congr 1;rw[decide_eq_decide];omega
 ·rw[if_neg h,decide_eq_false (by omega)]
theorem L6 (t0 t1 X t3 t4 t5 B:Int):newelref17_Times.f t0 t1 X t3 t4 t5 B=some (decide (Jg t0 t1 X t3 t4 t5 B)):=by
 unfold newelref17_Times.f
 simp only[Nc,Option.bind_some]
 by_cases Y:tI t0 <;> by_cases h1:tI t1 <;> by_cases O:tI X <;> by_cases Z:tI t3 <;> by_cases h4:tI t4 <;> by_cases J:tI t5 <;> by_cases h6:B≥0 <;> simp[Y,h1,O,Z,h4,J,h6] <;> omega
theorem Nh (g0 g1 g2 g3 g4 g5 g6 g7 g8 g9:Int):newelref17_Gear.f g0 g1 g2 g3 g4 g5 g6 g7 g8 g9=some (decide (Xs g0 g1 g2 g3 g4 g5 g6 g7 g8 g9)):=by
 unfold newelref17_Gear.f
 rw[L6]
 simp only[Option.bind_some]
 by_cases h1:Jg g1 g2 g3 g4 g5 g6 g7
 ·rw[decide_eq_true h1,if_pos rfl]
  have e:Xs g0 g1 g2 g3 g4 g5 g6 g7 g8 g9↔((2≤g0∧g0≤64)∧(1≤g8∧g8≤300)∧0≤g9∧g9≤60):=⟨fun h=>h.2,fun h=>⟨h1,h⟩⟩
  rw[show decide (Xs g0 g1 g2 g3 g4 g5 g6 g7 g8 g9)=decide ((2≤g0∧g0≤64)∧(1≤g8∧g8≤300)∧0≤g9∧g9≤60) from decide_eq_decide.2 e]
  clear e h1
  repeat' split
  all_goals congr 1
  all_goals first|(rw[decide_eq_decide];omega)|(symm;rw[decide_eq_false_iff_not];omega)
 ·rw[decide_eq_false h1,if_neg (by decide),decide_eq_false (fun h=>h1 h.1)]
theorem Ce (d0 d1 Y:Int) (f:Nat) (hf:2<f):newelref17_May.f f d0 d1 Y=some (decide (Xr d0 d1 Y)):=by
 obtain⟨f,rfl⟩:∃ m,f=m+1:=⟨f-1,by omega⟩
 unfold newelref17_May.f
 simp only[newelref17_May.j0]
 by_cases e0:d0=0
 ·rw[if_pos e0]
  by_cases e1:d1=0
  ·rw[if_pos e1];congr 1
   by_cases e2:Y=0
   ·rw[decide_eq_true (by omega)];simp[e2]
   ·rw[decide_eq_false (by omega)];simp[e2]
  ·rw[if_neg e1,decide_eq_false (by omega)]
 ·rw[if_neg e0]
  by_cases h1:Y<0
  ·rw[if_pos h1,if_pos trivial,decide_eq_false (by omega)]
  ·rw[if_neg h1]
   by_cases O:Y>60
   ·rw[if_pos O,if_pos trivial,decide_eq_false (by omega)]
   ·rw[if_neg O]
    by_cases Z:d1<1
    ·rw[decide_eq_true Z,if_pos rfl,decide_eq_false (by omega)]
    ·rw[decide_eq_false Z,if_neg (by decide)]
     by_cases e2:d0=2
     ·rw[if_pos e2];congr 1;rw[decide_eq_decide];omega
     ·rw[if_neg e2]
      by_cases e1:d0=1
      ·rw[if_pos e1];congr 1;rw[decide_eq_decide];omega
      ·rw[if_neg e1]
       by_cases e3:d0=3
       ·rw[if_pos e3];congr 1;rw[decide_eq_decide];omega
       ·rw[if_neg e3,decide_eq_false (by omega)]
theorem U0 (g0 g1 g2 g3 g4 g5 g6 g7 g8 g9 d0 d1 Y:Int) (hg:Xs g0 g1 g2 g3 g4 g5 g6 g7 g8 g9) (hd:Xr d0 d1 Y) (f:Nat) (hf:4<f):
 newelref17_Rest.f f g0 g1 g2 g3 g4 g5 g6 g7 g8 g9 d0 d1 Y=some (Jt g3 g6 g8 g9 d0 d1 Y):=by
 obtain⟨f,rfl⟩:∃ m,f=m+2:=⟨f-2,by omega⟩
 obtain⟨-,B,J⟩:=G0 _ _ _ _ _ _ _ _ _ _ _ _ _ hg hd
 have X:1≤g3∧g3≤60:=hg.1.1.2.2.1
 have a2:1≤g6∧g6≤60:=hg.1.1.2.2.2.2.2
 have a3:1≤g8∧g8≤300:=hg.2.2.1
 have O:0≤g9∧g9≤60:=hg.2.2.2
 have a5:0≤Y∧Y≤60:=by omega
 have hb:0≤d1∧d1≤300:=by omega
 unfold newelref17_Rest.f Jt
 simp only[newelref17_Rest.j0]
 rw[w64 (n:=g3+g8) (by omega),w64 (n:=g3+g8+g6) (by omega),w64 (n:=g9-Y) (by omega),w64 (n:=d1+g8) (by omega),w64 (n:=d1+g8+g6) (by omega),w64 (n:=d1+g6) (by omega)]
 by_cases h:Y<g9
 ·have h':g9>Y:=h
  simp only[if_pos h',if_pos h] at B J ⊢
  generalize(g9-Y) * (g3+g8+g6)=p at B J ⊢
  rw[w64 (n:=p) (by omega),w64 (n:=d1+g8+g6+g6) (by omega),w64 (n:=d1+g8+g6+p) (by omega),w64 (n:=d1+g6+p) (by omega),w64 (n:=d1+p) (by omega)]
  by_cases e0:d0=0
  ·simp[e0]
  ·by_cases e1:d0=1
   ·simp[e1];omega
   ·by_cases e2:d0=2
    ·simp[e2]
    ·simp[e0,e1,e2]
 ·have h':¬ g9>Y:=h
  simp only[if_neg h',if_neg h] at B J ⊢
  rw[w64 (n:=d1+g8+g6+g6) (by omega)]
  by_cases e0:d0=0
  ·simp[e0]
  ·by_cases e1:d0=1
   ·simp[e1];omega
   ·by_cases e2:d0=2
    ·simp[e2]
    ·simp[e0,e1,e2]
end Go.Proofs.Ytmfffemidlhcpaa.DoorPure
namespace Go.Proofs.Ytmfffemidlhcpaa.C
open Go.RowKit Go.Proofs.YtmfffemidlhcpaaW.PrintWords Go.Proofs.YtmfffemidlhcpaaW.PrintLast Go.Proofs.YtmfffemidlhcpaaW.PrintMore
attribute [local go_sem] Z0 Zy Z6 Z5 Zr Zq Zz Zx
set_option linter.unusedVariables false
set_option linter.unusedSimpArgs false
def car_Check.j0:Nat→Int→Bool→Int→Int→Int→Int→Int→Int→Int→Option (Int)
 |0,_,_,_,_,_,_,_,_,_=>none
 |k+1,B,X,γ,J,Z,O,Y,δ,ε =>if Z=0 then (if X=true then (if J=0 then (if O=0 then (if Y=0 then (some 0) else (some 180)) else (some 180)) else (some 180)) else (some 180)) else (if Z=1 then (if X=true then (if J=1 then ((car_within.f (wrap64 (γ+J)) 0 (wrap64 (B-1))).bind fun ao=>(if ao=true then ((car_within.f O 1 60).bind fun az=>(if az=true then (if Y=0 then (some 0) else (some 180)) else (some 180))) else (some 180))) else (if J=(-1) then ((car_within.f (wrap64 (γ+J)) 0 (wrap64 (B-1))).bind fun b0=>(if b0=true then ((car_within.f O 1 60).bind fun b2=>(if b2=true then (if Y=0 then (some 0) else (some 180)) else (some 180))) else (some 180))) else (some 180))) else (some 180)) else (if Z=2 then (if X=true then (if J=0 then ((car_within.f O 1 60).bind fun cd=>(if cd=true then (if Y=0 then (some 0) else (some 180)) else (some 180))) else (some 180)) else (some 180)) else (if Z=3 then (if X=true then (if J=0 then (if O=0 then (if Y=0 then (some 180) else (some 0)) else (some 180)) else (some 180)) else (some 180)) else (some 180))))
def car_Check.f (k:Nat) (B:Int) (δ :Int) (ε :Int) (ι :Int) (μ :Int) (κ :Int) (ν :Int) (ξ :Int):Option (Int):=(car_within.f B 2 64).bind fun η =>(if η = true then ((car_within.f δ 0 (wrap64 (B-1))).bind fun θ =>(if θ = true then ((door_Check.f κ ν ξ).bind fun ζ =>(car_Check.j0 k B (ζ == 0) δ ε ι μ κ ν ξ)) else (car_Check.j0 k B false δ ε ι μ κ ν ξ))) else (car_Check.j0 k B false δ ε ι μ κ ν ξ))
theorem car_Check.Zu:∀ k,(∀ O Y Z B X y5 y6 y7 y8,LeO (car_Check.j0 k O Y Z B X y5 y6 y7 y8) (car_Check.j0 (k+1) O Y Z B X y5 y6 y7 y8))
 |0=>fun _ _ _ _ _ _ _ _ _ r h=>by simp[car_Check.j0] at h
 |k+1=>by
  have J:=car_Check.Zu k
  ·intro O Y Z B X y5 y6 y7 y8
   unfold car_Check.j0
   repeat' first|(with_reducible first|apply J|exact LeO.refl _|exact LeO.none _|refine LeO.ite ?_ ?_|refine LeO.bind ?_ (fun _=>?_))|apply J|exact LeO.none _|refine LeO.ite ?_ ?_|refine LeO.bind ?_ (fun _=>?_)
theorem car_Check.mono:∀ B X a2 a3 O a5 Y a7 k,LeO (car_Check.f k B X a2 a3 O a5 Y a7) (car_Check.f (k+1) B X a2 a3 O a5 Y a7):=by
 intro B X a2 a3 O a5 Y a7 k
 have J:=car_Check.Zu k
 unfold car_Check.f
 repeat' first|(with_reducible first|apply J|exact LeO.refl _|exact LeO.none _|refine LeO.ite ?_ ?_|refine LeO.bind ?_ (fun _=>?_))|apply J|exact LeO.none _|refine LeO.ite ?_ ?_|refine LeO.bind ?_ (fun _=>?_)
set_option maxHeartbeats 8000000 in
set_option maxRecDepth 100000 in
theorem car_Check.calls (k:Nat) (B:Int) (δ :Int) (ε :Int) (ι :Int) (μ :Int) (κ :Int) (ν :Int) (ξ :Int) (r:Int) (w:World) (h:car_Check.f k B δ ε ι μ κ ν ξ = some r):
 Calls Try.prog 69 #[.int .i64 B,.agg #[.int .i64 δ,.int .i64 ε,.int .i64 ι,.int .i64 μ,.int .i64 κ,.int .i64 ν,.int .i64 ξ]] w fun e w'=>e = .returned (.int .i64 r)∧Below w.heap.size w w':=by
 have gk:=Try.underlying29
 have he:=Try.underlying27
 have HB:=aK (Below.refl w.heap.size w)
 have H:((car_within.f B 2 64).bind fun η =>(if η = true then ((car_within.f δ 0 (wrap64 (B-1))).bind fun θ =>(if θ = true then ((door_Check.f κ ν ξ).bind fun ζ =>(car_Check.j0 k B (ζ == 0) δ ε ι μ κ ν ξ)) else (car_Check.j0 k B false δ ε ι μ κ ν ξ))) else (car_Check.j0 k B false δ ε ι μ κ ν ξ)))=some r:=h
 clear h
 have a2:=aK H
 clear H
 go_enter Try.func69,Try.ntmps69
 go_upto_region 1 with(first|((with_reducible refine Qe (N:=3) rfl ?_);refine qE 3 #[.int .i64 δ,.int .i64 ε,.int .i64 ι,.int .i64 μ,.int .i64 κ,.int .i64 ν,.int .i64 ξ] 29 ?_;intro ce hg w4 hbox hb;have J:=aK hbox;have pb:=sGe hg;have pc:=sGe hg;replace HB:=sHb hb;clear hb hbox hg))
 (try simp only[Act.put,qS])
 go_cut [5] (fun v5 wc=>∃ (kq:Nat) (X:Bool),v5 = .bool X∧Aside0 (car_Check.j0 kq B X δ ε ι μ κ ν ξ = some r)∧Aside0 (kq≤k)∧Aside0 (wc.heap[ce]?=some (.cells #[.int .i64 δ,.int .i64 ε,.int .i64 ι,.int .i64 μ,.int .i64 κ,.int .i64 ν,.int .i64 ξ] 29 (0,0)))∧Aside0 (Below w.heap.size w wc))
 case first=>
  have H:=a2.out
  clear a2
  obtain⟨η,bc,H⟩:=qO H
  have A5:=aK bc
  clear bc
  by_cases c6: η = true
  ·subst c6
   rw[if_pos rfl] at H
   obtain⟨θ,cr,H⟩:=qO H
   have A7:=aK cr
   clear cr
   by_cases c8: θ = true
   ·subst c8
    rw[if_pos rfl] at H
    obtain⟨ζ,bw,H⟩:=qO H
    have A9:=aK bw
    clear bw
    have H':=aK H
    clear H
    go_wp2_with (first|((with_reducible refine Qf (f:=85) rfl ?_);refine Qt (some 8) rfl rfl Try.func85 kr rfl #[.int .i64 B,.int .i64 2,.int .i64 64] rfl qM ?_;(with_reducible refine(car_within.calls B 2 64 true _ A5.out).mono ?_);rintro e w' ⟨rfl,⟨nd,rfl⟩⟩;refine⟨_,rfl, ?_⟩;obtain⟨af,bd,du,co,cp,gx,gy,bf,cw,ee,gz,hh,hj,hl⟩:=qD7 J.out)|(go_at_call 85;(with_reducible refine(car_within.calls δ 0 (wrap64 (B-1)) true _ A7.out).mono ?_);rintro e w' ⟨rfl,⟨nd,rfl⟩⟩)|(go_at_call 71;(with_reducible refine(door_Check.calls κ ν ξ ζ _ A9.out).mono ?_);rintro e d4 ⟨rfl,hb⟩;have ρ:=aK (Qz (g:=ce) (o:=.cells #[.int .i64 δ,.int .i64 ε,.int .i64 ι,.int .i64 μ,.int .i64 κ,.int .i64 ν,.int .i64 ξ] 29 (0,0)) (bka J) hb);have τ :=aK (Q2 bel hb);clear J;clear HB;have J:=ρ;have HB:= τ;clear ρ τ;(try clear hb);(try clear a4);(try clear hk);(try clear hi)))
    go_meet
    case rel=>exact⟨_,((ζ == 0)),rfl,H',⟨by first|omega|exact Nat.le_refl _⟩,J,HB⟩
   ·replace c8:=Bool.eq_false_iff.mpr c8
    subst c8
    rw[if_neg nft] at H
    have H':=aK H
    clear H
    go_wp2_with (first|((with_reducible refine Qf (f:=85) rfl ?_);refine Qt (some 8) rfl rfl Try.func85 kr rfl #[.int .i64 B,.int .i64 2,.int .i64 64] rfl qM ?_;(with_reducible refine(car_within.calls B 2 64 true _ A5.out).mono ?_);rintro e w' ⟨rfl,⟨nd,rfl⟩⟩;refine⟨_,rfl, ?_⟩;obtain⟨a5,am,φ,f7,f8,fa,fb,b3,b4,a8,fc,fe,ff,fg⟩:=qD7 J.out)|(go_at_call 85;(with_reducible refine(car_within.calls δ 0 (wrap64 (B-1)) false _ A7.out).mono ?_);rintro e w' ⟨rfl,⟨nd,rfl⟩⟩))
    go_meet
    case rel=>exact⟨_,(false),qR,H',⟨by first|omega|exact Nat.le_refl _⟩,⟨bka J⟩,⟨bel⟩⟩
  ·replace c6:=Bool.eq_false_iff.mpr c6
   subst c6
   rw[if_neg nft] at H
   have H':=aK H
   clear H
   go_wp2_with (first|((with_reducible refine Qf (f:=85) rfl ?_);refine Qt (some 8) rfl rfl Try.func85 kr rfl #[.int .i64 B,.int .i64 2,.int .i64 64] rfl qM ?_;(with_reducible refine(car_within.calls B 2 64 false _ A5.out).mono ?_);rintro e w' ⟨rfl,⟨nd,rfl⟩⟩;refine⟨_,rfl, ?_⟩))
   go_meet
   case rel=>exact⟨_,(false),qR,H',⟨by first|omega|exact Nat.le_refl _⟩,⟨bka J⟩,⟨bel⟩⟩
 case rest=>
  clear a2
  obtain⟨kq,X,rfl,HA,lh,J,HB⟩:=hcut
  cases kq with
  |zero=>exact absurd HA.out (by simp[car_Check.j0])
  |succ ll=>
   have H:=HA.out
   clear HA
   simp only[car_Check.j0] at H
   by_cases ψ : ι = 0
   ·rw[if_pos ψ] at H
    have c13b0:(ι == 0)=true:=beq_iff_eq.mpr ψ
    have c13b1:(ι != 0)=false:=bne_eq_false_iff_eq.mpr ψ
    clear ψ
    by_cases ae:X=true
    ·subst ae
     rw[if_pos rfl] at H
     by_cases a1: ε = 0
     ·rw[if_pos a1] at H
      have c15b0:(ε == 0)=true:=beq_iff_eq.mpr a1
      have c15b1:(ε != 0)=false:=bne_eq_false_iff_eq.mpr a1
      clear a1
      by_cases χ : μ = 0
      ·rw[if_pos χ] at H
       have c16b0:(μ == 0)=true:=beq_iff_eq.mpr χ
       have c16b1:(μ != 0)=false:=bne_eq_false_iff_eq.mpr χ
       clear χ
       by_cases σ: κ = 0
       ·rw[if_pos σ] at H
        have c17b0:(κ == 0)=true:=beq_iff_eq.mpr σ
        have c17b1:(κ != 0)=false:=bne_eq_false_iff_eq.mpr σ
        clear σ
        obtain rfl:=Option.some.inj H
        obtain⟨bg,bh,er,bu,bv,d8,d9,bi,bj,et,da,db,dj,dl⟩:=qD7 J.out
        go_wp2
        go_ret
        exact⟨by first|rfl|(simp[Qk,Qj] <;> rfl)|(simp[*,Qk,Qj] <;> rfl),bel⟩
       ·rw[if_neg σ] at H
        have c17b0:(κ == 0)=false:=beq_eq_false_iff_ne.mpr σ
        have c17b1:(κ != 0)=true:=bne_iff_ne.mpr σ
        obtain rfl:=Option.some.inj H
        obtain⟨ag,ah,b5,cq,ct,cu,cv,ai,aj,b8,d1,d2,d3,d7⟩:=qD7 J.out
        go_wp2
        go_ret
        exact⟨by first|rfl|(simp[Qk,Qj] <;> rfl)|(simp[*,Qk,Qj] <;> rfl),bel⟩
      ·rw[if_neg χ] at H
       have c16b0:(μ == 0)=false:=beq_eq_false_iff_ne.mpr χ
       have c16b1:(μ != 0)=true:=bne_iff_ne.mpr χ
       obtain rfl:=Option.some.inj H
       obtain⟨ak,an,a3,a9,ch,dc,dr,aw,ax,b6,dv,dw,dx,dy⟩:=qD7 J.out
       go_wp2
       go_ret
       exact⟨rfl,HB.out⟩
     ·rw[if_neg a1] at H
      have c15b0:(ε == 0)=false:=beq_eq_false_iff_ne.mpr a1
      have c15b1:(ε != 0)=true:=bne_iff_ne.mpr a1
      obtain rfl:=Option.some.inj H
      obtain⟨d6,de,dt,el,em,ep,fi,df,dh,fk,fl,fm,fn,fo⟩:=qD7 J.out
      go_wp2
      go_ret
      exact⟨rfl,HB.out⟩
    ·replace ae:=Bool.eq_false_iff.mpr ae
     subst ae
     rw[if_neg nft] at H
     obtain rfl:=Option.some.inj H
     obtain⟨ap,ar,al,bk,bl,bm,bn,au,av,b7,bo,bp,bq,br⟩:=qD7 J.out
     go_wp2
     go_ret
     exact⟨rfl,HB.out⟩
   ·rw[if_neg ψ] at H
    have c13b0:(ι == 0)=false:=beq_eq_false_iff_ne.mpr ψ
    have c13b1:(ι != 0)=true:=bne_iff_ne.mpr ψ
    by_cases O: ι = 1
    ·rw[if_pos O] at H
     have c23b0:(ι == 1)=true:=beq_iff_eq.mpr O
     have c23b1:(ι != 1)=false:=bne_eq_false_iff_eq.mpr O
     clear O
     by_cases a6:X=true
     ·subst a6
      rw[if_pos rfl] at H
      by_cases b9: ε = 1
      ·rw[if_pos b9] at H
       have c25b0:(ε == 1)=true:=beq_iff_eq.mpr b9
       have c25b1:(ε != 1)=false:=bne_eq_false_iff_eq.mpr b9
       clear b9
       obtain⟨ao,ay,H⟩:=qO H
       have b1:=aK ay
       clear ay
       by_cases cg:ao=true
       ·subst cg
        rw[if_pos rfl] at H
        obtain⟨az,a7,H⟩:=qO H
        have e5:=aK a7
        clear a7
        by_cases aa:az=true
        ·subst aa
         rw[if_pos rfl] at H
         by_cases Y: κ = 0
         ·rw[if_pos Y] at H
          have c30b0:(κ == 0)=true:=beq_iff_eq.mpr Y
          have c30b1:(κ != 0)=false:=bne_eq_false_iff_eq.mpr Y
          clear Y
          obtain rfl:=Option.some.inj H
          obtain⟨dm,dn,ew,i9,ia,ib,iu,dp,dq,ey,iv,iw,ix,iy⟩:=qD7 J.out
          go_wp2_with (first|(go_at_call 85;(with_reducible refine(car_within.calls (wrap64 (δ + ε)) 0 (wrap64 (B-1)) true _ b1.out).mono ?_);rintro e w' ⟨rfl,⟨nd,rfl⟩⟩)|(go_at_call 85;(with_reducible refine(car_within.calls μ 1 60 true _ e5.out).mono ?_);rintro e w' ⟨rfl,⟨nd,rfl⟩⟩))
          go_ret
          exact⟨by first|rfl|(simp[Qk,Qj] <;> rfl)|(simp[*,Qk,Qj] <;> rfl),bel⟩
         ·rw[if_neg Y] at H
          have c30b0:(κ == 0)=false:=beq_eq_false_iff_ne.mpr Y
          have c30b1:(κ != 0)=true:=bne_iff_ne.mpr Y
          obtain rfl:=Option.some.inj H
          obtain⟨gm,gn,gp,ik,il,im,io,gq,gr,gs,ip,iq,ir,it⟩:=qD7 J.out
          go_wp2_with (first|(go_at_call 85;(with_reducible refine(car_within.calls (wrap64 (δ + ε)) 0 (wrap64 (B-1)) true _ b1.out).mono ?_);rintro e w' ⟨rfl,⟨nd,rfl⟩⟩)|(go_at_call 85;(with_reducible refine(car_within.calls μ 1 60 true _ e5.out).mono ?_);rintro e w' ⟨rfl,⟨nd,rfl⟩⟩))
          go_ret
          exact⟨by first|rfl|(simp[Qk,Qj] <;> rfl)|(simp[*,Qk,Qj] <;> rfl),bel⟩
        ·replace aa:=Bool.eq_false_iff.mpr aa
         subst aa
         rw[if_neg nft] at H
         obtain rfl:=Option.some.inj H
         obtain⟨d0,eb,fh,cm,cx,ho,hu,ec,ed,gg,hx,hy,i0,i1⟩:=qD7 J.out
         go_wp2_with (first|(go_at_call 85;(with_reducible refine(car_within.calls (wrap64 (δ + ε)) 0 (wrap64 (B-1)) true _ b1.out).mono ?_);rintro e w' ⟨rfl,⟨nd,rfl⟩⟩)|(go_at_call 85;(with_reducible refine(car_within.calls μ 1 60 false _ e5.out).mono ?_);rintro e w' ⟨rfl,⟨nd,rfl⟩⟩))
         go_ret
         exact⟨by first|rfl|(simp[Qk,Qj] <;> rfl)|(simp[*,Qk,Qj] <;> rfl),bel⟩
       ·replace cg:=Bool.eq_false_iff.mpr cg
        subst cg
        rw[if_neg nft] at H
        obtain rfl:=Option.some.inj H
        obtain⟨gb,gt,gu,jb,jc,jd,je,ge,gv,gw,jf,jg,jh,ji⟩:=qD7 J.out
        go_wp2_with (first|(go_at_call 85;(with_reducible refine(car_within.calls (wrap64 (δ + ε)) 0 (wrap64 (B-1)) false _ b1.out).mono ?_);rintro e w' ⟨rfl,⟨nd,rfl⟩⟩))
        go_ret
        exact⟨by first|rfl|(simp[Qk,Qj] <;> rfl)|(simp[*,Qk,Qj] <;> rfl),bel⟩
      ·rw[if_neg b9] at H
       have c25b0:(ε == 1)=false:=beq_eq_false_iff_ne.mpr b9
       have c25b1:(ε != 1)=true:=bne_iff_ne.mpr b9
       by_cases Z: ε = (-1)
       ·rw[if_pos Z] at H
        have c35b0:(ε == (-1))=true:=beq_iff_eq.mpr Z
        have c35b1:(ε != (-1))=false:=bne_eq_false_iff_eq.mpr Z
        clear Z
        obtain⟨b0,cb,H⟩:=qO H
        have ba:=aK cb
        clear cb
        by_cases dd:b0=true
        ·subst dd
         rw[if_pos rfl] at H
         obtain⟨b2,bb,H⟩:=qO H
         have cf:=aK bb
         clear bb
         by_cases eu:b2=true
         ·subst eu
          rw[if_pos rfl] at H
          by_cases e7: κ = 0
          ·rw[if_pos e7] at H
           have c40b0:(κ == 0)=true:=beq_iff_eq.mpr e7
           have c40b1:(κ != 0)=false:=bne_eq_false_iff_eq.mpr e7
           clear e7
           obtain rfl:=Option.some.inj H
           obtain⟨dz,e0,e6,jl,jo,jp,jq,e3,e4,gh,jr,js,jt,ju⟩:=qD7 J.out
           go_wp2_with (first|(go_at_call 85;(with_reducible refine(car_within.calls (wrap64 (δ + ε)) 0 (wrap64 (B-1)) true _ ba.out).mono ?_);rintro e w' ⟨rfl,⟨nd,rfl⟩⟩)|(go_at_call 85;(with_reducible refine(car_within.calls μ 1 60 true _ cf.out).mono ?_);rintro e w' ⟨rfl,⟨nd,rfl⟩⟩))
           go_ret
           exact⟨by first|rfl|(simp[Qk,Qj] <;> rfl)|(simp[*,Qk,Qj] <;> rfl),bel⟩
          ·rw[if_neg e7] at H
           have c40b0:(κ == 0)=false:=beq_eq_false_iff_ne.mpr e7
           have c40b1:(κ != 0)=true:=bne_iff_ne.mpr e7
           obtain rfl:=Option.some.inj H
           obtain⟨ft,fu,fv,e8,lq,lr,ls,fw,fx,fy,lu,lv,lw,lx⟩:=qD7 J.out
           go_wp2_with (first|(go_at_call 85;(with_reducible refine(car_within.calls (wrap64 (δ + ε)) 0 (wrap64 (B-1)) true _ ba.out).mono ?_);rintro e w' ⟨rfl,⟨nd,rfl⟩⟩)|(go_at_call 85;(with_reducible refine(car_within.calls μ 1 60 true _ cf.out).mono ?_);rintro e w' ⟨rfl,⟨nd,rfl⟩⟩))
           go_ret
           exact⟨by first|rfl|(simp[Qk,Qj] <;> rfl)|(simp[*,Qk,Qj] <;> rfl),bel⟩
         ·replace eu:=Bool.eq_false_iff.mpr eu
          subst eu
          rw[if_neg nft] at H
          obtain rfl:=Option.some.inj H
          obtain⟨ij,kf,kg,kh,ki,kj,kk,kl,km,kn,ko,kp,ks,kt⟩:=qD7 J.out
          go_wp2_with (first|(go_at_call 85;(with_reducible refine(car_within.calls (wrap64 (δ + ε)) 0 (wrap64 (B-1)) true _ ba.out).mono ?_);rintro e w' ⟨rfl,⟨nd,rfl⟩⟩)|(go_at_call 85;(with_reducible refine(car_within.calls μ 1 60 false _ cf.out).mono ?_);rintro e w' ⟨rfl,⟨nd,rfl⟩⟩))
          go_ret
          exact⟨by first|rfl|(simp[Qk,Qj] <;> rfl)|(simp[*,Qk,Qj] <;> rfl),bel⟩
        ·replace dd:=Bool.eq_false_iff.mpr dd
         subst dd
         rw[if_neg nft] at H
         obtain rfl:=Option.some.inj H
         obtain⟨ej,fj,lm,ln,lp,ly,lz,ek,gl,m0,m1,m2,m3,m4⟩:=qD7 J.out
         go_wp2_with (first|(go_at_call 85;(with_reducible refine(car_within.calls (wrap64 (δ + ε)) 0 (wrap64 (B-1)) false _ ba.out).mono ?_);rintro e w' ⟨rfl,⟨nd,rfl⟩⟩))
         go_ret
         exact⟨by first|rfl|(simp[Qk,Qj] <;> rfl)|(simp[*,Qk,Qj] <;> rfl),bel⟩
       ·rw[if_neg Z] at H
        have c35b0:(ε == (-1))=false:=beq_eq_false_iff_ne.mpr Z
        have c35b1:(ε != (-1))=true:=bne_iff_ne.mpr Z
        obtain rfl:=Option.some.inj H
        obtain⟨i2,iz,jv,l6,l7,l8,l9,j4,j5,jw,lb,lc,lf,lg⟩:=qD7 J.out
        go_wp2
        go_ret
        exact⟨by first|rfl|(simp[Qk,Qj] <;> rfl)|(simp[*,Qk,Qj] <;> rfl),bel⟩
     ·replace a6:=Bool.eq_false_iff.mpr a6
      subst a6
      rw[if_neg nft] at H
      obtain rfl:=Option.some.inj H
      obtain⟨j6,j7,jx,jy,jz,k0,k1,j8,j9,k2,k3,k4,k5,k6⟩:=qD7 J.out
      go_wp2
      go_ret
      exact⟨rfl,HB.out⟩
    ·rw[if_neg O] at H
     have c23b0:(ι == 1)=false:=beq_eq_false_iff_ne.mpr O
     have c23b1:(ι != 1)=true:=bne_iff_ne.mpr O
     by_cases bs: ι = 2
     ·rw[if_pos bs] at H
      have c47b0:(ι == 2)=true:=beq_iff_eq.mpr bs
      have c47b1:(ι != 2)=false:=bne_eq_false_iff_eq.mpr bs
      clear bs
      by_cases ca:X=true
      ·subst ca
       rw[if_pos rfl] at H
       by_cases bz: ε = 0
       ·rw[if_pos bz] at H
        have c49b0:(ε == 0)=true:=beq_iff_eq.mpr bz
        have c49b1:(ε != 0)=false:=bne_eq_false_iff_eq.mpr bz
        clear bz
        obtain⟨cd,d5,H⟩:=qO H
        have bc:=aK d5
        clear d5
        by_cases cy:cd=true
        ·subst cy
         rw[if_pos rfl] at H
         by_cases cz: κ = 0
         ·rw[if_pos cz] at H
          have c52b0:(κ == 0)=true:=beq_iff_eq.mpr cz
          have c52b1:(κ != 0)=false:=bne_eq_false_iff_eq.mpr cz
          clear cz
          obtain rfl:=Option.some.inj H
          obtain⟨ga,kd,mz,cj,ck,cn,ea,ke,kv,n0,ef,eg,eh,ei⟩:=qD7 J.out
          go_wp2_with (first|(go_at_call 85;(with_reducible refine(car_within.calls μ 1 60 true _ bc.out).mono ?_);rintro e w' ⟨rfl,⟨nd,rfl⟩⟩))
          go_ret
          exact⟨by first|rfl|(simp[Qk,Qj] <;> rfl)|(simp[*,Qk,Qj] <;> rfl),bel⟩
         ·rw[if_neg cz] at H
          have c52b0:(κ == 0)=false:=beq_eq_false_iff_ne.mpr cz
          have c52b1:(κ != 0)=true:=bne_iff_ne.mpr cz
          obtain rfl:=Option.some.inj H
          obtain⟨ev,i3,i4,ja,jj,jk,k7,i5,i6,i7,k8,k9,ka,kb⟩:=qD7 J.out
          go_wp2_with (first|(go_at_call 85;(with_reducible refine(car_within.calls μ 1 60 true _ bc.out).mono ?_);rintro e w' ⟨rfl,⟨nd,rfl⟩⟩))
          go_ret
          exact⟨by first|rfl|(simp[Qk,Qj] <;> rfl)|(simp[*,Qk,Qj] <;> rfl),bel⟩
        ·replace cy:=Bool.eq_false_iff.mpr cy
         subst cy
         rw[if_neg nft] at H
         obtain rfl:=Option.some.inj H
         obtain⟨ic,ie,kc,m7,m8,m9,ma,ig,ih,ku,mb,mc,me,mf⟩:=qD7 J.out
         go_wp2_with (first|(go_at_call 85;(with_reducible refine(car_within.calls μ 1 60 false _ bc.out).mono ?_);rintro e w' ⟨rfl,⟨nd,rfl⟩⟩))
         go_ret
         exact⟨by first|rfl|(simp[Qk,Qj] <;> rfl)|(simp[*,Qk,Qj] <;> rfl),bel⟩
       ·rw[if_neg bz] at H
        have c49b0:(ε == 0)=false:=beq_eq_false_iff_ne.mpr bz
        have c49b1:(ε != 0)=true:=bne_iff_ne.mpr bz
        obtain rfl:=Option.some.inj H
        obtain⟨mg,mh,mi,mj,ml,mm,mo,mq,mr,ms,mt,mu,mw,my⟩:=qD7 J.out
        go_wp2
        go_ret
        exact⟨by first|rfl|(simp[Qk,Qj] <;> rfl)|(simp[*,Qk,Qj] <;> rfl),bel⟩
      ·replace ca:=Bool.eq_false_iff.mpr ca
       subst ca
       rw[if_neg nft] at H
       obtain rfl:=Option.some.inj H
       obtain⟨jm,jn,l2,en,eo,ez,h5,l3,l4,l5,h6,h7,m5,m6⟩:=qD7 J.out
       go_wp2
       go_ret
       exact⟨rfl,HB.out⟩
     ·rw[if_neg bs] at H
      have c47b0:(ι == 2)=false:=beq_eq_false_iff_ne.mpr bs
      have c47b1:(ι != 2)=true:=bne_iff_ne.mpr bs
      by_cases di: ι = 3
      ·rw[if_pos di] at H
       have c58b0:(ι == 3)=true:=beq_iff_eq.mpr di
       have c58b1:(ι != 3)=false:=bne_eq_false_iff_eq.mpr di
       clear di
       by_cases γ:X=true
       ·subst γ
        rw[if_pos rfl] at H
        by_cases ω : ε = 0
        ·rw[if_pos ω] at H
         have c60b0:(ε == 0)=true:=beq_iff_eq.mpr ω
         have c60b1:(ε != 0)=false:=bne_eq_false_iff_eq.mpr ω
         clear ω
         by_cases ab: μ = 0
         ·rw[if_pos ab] at H
          have c61b0:(μ == 0)=true:=beq_iff_eq.mpr ab
          have c61b1:(μ != 0)=false:=bne_eq_false_iff_eq.mpr ab
          clear ab
          by_cases ac: κ = 0
          ·rw[if_pos ac] at H
           have c62b0:(κ == 0)=true:=beq_iff_eq.mpr ac
           have c62b1:(κ != 0)=false:=bne_eq_false_iff_eq.mpr ac
           clear ac
           obtain rfl:=Option.some.inj H
           obtain⟨nj,nk,nl,nm,nn,no,np,nq,nr,ns,nt,nu,nv,nw⟩:=qD7 J.out
           go_wp2
           go_ret
           exact⟨by first|rfl|(simp[Qk,Qj] <;> rfl)|(simp[*,Qk,Qj] <;> rfl),bel⟩
          ·rw[if_neg ac] at H
           have c62b0:(κ == 0)=false:=beq_eq_false_iff_ne.mpr ac
           have c62b1:(κ != 0)=true:=bne_iff_ne.mpr ac
           obtain rfl:=Option.some.inj H
           obtain⟨h8,h9,fp,n2,n3,na,nb,ha,ii,fq,nc,nf,ng,nh⟩:=qD7 J.out
           go_wp2
           go_ret
           exact⟨by first|rfl|(simp[Qk,Qj] <;> rfl)|(simp[*,Qk,Qj] <;> rfl),bel⟩
         ·rw[if_neg ab] at H
          have c61b0:(μ == 0)=false:=beq_eq_false_iff_ne.mpr ab
          have c61b1:(μ != 0)=true:=bne_iff_ne.mpr ab
          obtain rfl:=Option.some.inj H
          obtain⟨kw,kx,n1,nx,ny,nz,o0,ky,kz,o1,o2,o3,o4,o5⟩:=qD7 J.out
          go_wp2
          go_ret
          exact⟨by first|rfl|(simp[Qk,Qj] <;> rfl)|(simp[*,Qk,Qj] <;> rfl),bel⟩
        ·rw[if_neg ω] at H
         have c60b0:(ε == 0)=false:=beq_eq_false_iff_ne.mpr ω
         have c60b1:(ε != 0)=true:=bne_iff_ne.mpr ω
         obtain rfl:=Option.some.inj H
         obtain⟨ci,dk,ni,oo,oq,ot,ou,e9,h4,ov,ow,ox,oy,oz⟩:=qD7 J.out
         go_wp2
         go_ret
         exact⟨by first|rfl|(simp[Qk,Qj] <;> rfl)|(simp[*,Qk,Qj] <;> rfl),bel⟩
       ·replace γ:=Bool.eq_false_iff.mpr γ
        subst γ
        rw[if_neg nft] at H
        obtain rfl:=Option.some.inj H
        obtain⟨o6,o7,o8,o9,oa,ob,oc,od,oe,oh,oi,oj,ol,om⟩:=qD7 J.out
        go_wp2
        go_ret
        exact⟨by first|rfl|(simp[Qk,Qj] <;> rfl)|(simp[*,Qk,Qj] <;> rfl),bel⟩
      ·rw[if_neg di] at H
       have c58b0:(ι == 3)=false:=beq_eq_false_iff_ne.mpr di
       have c58b1:(ι != 3)=true:=bne_iff_ne.mpr di
       obtain rfl:=Option.some.inj H
       obtain⟨fr,fz,gf,p0,p1,p5,p6,gi,gj,h0,p7,p8,p9,pa⟩:=qD7 J.out
       go_wp2
       go_ret
       exact⟨rfl,HB.out⟩
def car_check.f (k:Nat) (B:Int) (J:Int) (O:Int) (X:Int) (Y:Int) (Z:Int) (γ:Int) (ζ :Int) (θ :Int) (η :Int) (δ :Int) (ε :Int) (ι :Int) (μ :Int) (κ :Int) (ν :Int) (ξ :Int):Option (Int):=(door_Rest.f k B J O X Y Z γ ζ θ η 0 0 0).bind fun a0=>(if a0.2=0 then ((car_Check.f k B δ ε ι μ κ ν ξ).bind fun ω =>(some ω)) else (some 180))
theorem car_check.mono:∀ B X a2 a3 O a5 Y a7 a8 a9 Z γ δ ζ ε η θ k,LeO (car_check.f k B X a2 a3 O a5 Y a7 a8 a9 Z γ δ ζ ε η θ) (car_check.f (k+1) B X a2 a3 O a5 Y a7 a8 a9 Z γ δ ζ ε η θ):=by
 intro B X a2 a3 O a5 Y a7 a8 a9 Z γ δ ζ ε η θ k
 unfold car_check.f
 repeat' first|(with_reducible first|apply car_Check.mono|apply door_Rest.mono|exact LeO.refl _|exact LeO.none _|refine LeO.ite ?_ ?_|refine LeO.bind ?_ (fun _=>?_))|apply car_Check.mono|apply door_Rest.mono|exact LeO.none _|refine LeO.ite ?_ ?_|refine LeO.bind ?_ (fun _=>?_)
set_option maxHeartbeats 8000000 in
set_option maxRecDepth 100000 in
theorem car_check.calls (k:Nat) (B:Int) (J:Int) (O:Int) (X:Int) (Y:Int) (Z:Int) (γ:Int) (ζ :Int) (θ :Int) (η :Int) (δ :Int) (ε :Int) (ι :Int) (μ :Int) (κ :Int) (ν :Int) (ξ :Int) (r:Int) (w:World) (h:car_check.f k B J O X Y Z γ ζ θ η δ ε ι μ κ ν ξ = some r):
 Calls Try.prog 45 #[.agg #[.int .i64 B,.int .i64 J,.int .i64 O,.int .i64 X,.int .i64 Y,.int .i64 Z,.int .i64 γ,.int .i64 ζ,.int .i64 θ,.int .i64 η],.agg #[.int .i64 δ,.int .i64 ε,.int .i64 ι,.int .i64 μ,.int .i64 κ,.int .i64 ν,.int .i64 ξ]] w fun e w'=>e = .returned (.int .i64 r)∧Below w.heap.size w w':=by
 have cg:=Try.underlying25
 have gk:=Try.underlying29
 have he:=Try.underlying27
 have HB:=aK (Below.refl w.heap.size w)
 have H:((door_Rest.f k B J O X Y Z γ ζ θ η 0 0 0).bind fun a0=>(if a0.2=0 then ((car_Check.f k B δ ε ι μ κ ν ξ).bind fun ω =>(some ω)) else (some 180)))=some r:=h
 clear h
 obtain⟨⟨a1,τ⟩,a7,H⟩:=qO H
 replace H:(if τ = 0 then ((car_Check.f k B δ ε ι μ κ ν ξ).bind fun ω =>(some ω)) else (some 180))=some r:=H
 have A3:=aK a7
 clear a7
 by_cases c4: τ = 0
 ·rw[if_pos c4] at H
  have c4b0:(τ == 0)=true:=beq_iff_eq.mpr c4
  have c4b1:(τ != 0)=false:=bne_eq_false_iff_eq.mpr c4
  clear c4
  obtain⟨ω,bc,H⟩:=qO H
  have A5:=aK bc
  clear bc
  obtain rfl:=Option.some.inj H
  go_enter Try.func45,Try.ntmps45
  go_wp2_with (first|((with_reducible refine Qe (N:=2) rfl ?_);refine qE 2 #[.int .i64 B,.int .i64 J,.int .i64 O,.int .i64 X,.int .i64 Y,.int .i64 Z,.int .i64 γ,.int .i64 ζ,.int .i64 θ,.int .i64 η] 25 ?_;intro a2 hg w6 hbox hb;have ρ:=aK hbox;have a3:=sGe hg;have a6:=sGe hg;replace HB:=sHb hb;clear hb hbox hg)|((with_reducible refine Qe (N:=3) rfl ?_);refine qE 3 #[.int .i64 δ,.int .i64 ε,.int .i64 ι,.int .i64 μ,.int .i64 κ,.int .i64 ν,.int .i64 ξ] 29 ?_;intro a9 hg w7 hbox hb;have σ:=aK hbox;have aa:=sGe hg;have ab:=sGe hg;have χ :=sNl ρ hg;have ψ :=sNg ρ hg;replace ρ:=sBk ρ hb;replace HB:=sHb hb;clear hb hbox hg;have b9:= χ.out;have bn:= ψ.out;obtain⟨ao,b7,bj,bo,dc,di,dy,e4,bu,bv,bi,bk,e5,e6,e7,e8,ev,fu,bw,ca⟩:=Zg ρ.out)|((with_reducible refine Qf (f:=47) rfl ?_);refine Qt (some 10) rfl rfl Try.func47 kr rfl #[.agg #[.int .i64 B,.int .i64 J,.int .i64 O,.int .i64 X,.int .i64 Y,.int .i64 Z,.int .i64 γ,.int .i64 ζ,.int .i64 θ,.int .i64 η],.agg #[.int .i64 0,.int .i64 0,.int .i64 0]] rfl qM ?_;(with_reducible refine(door_Rest.calls k B J O X Y Z γ ζ θ η 0 0 0 a1 τ _ A3.out).mono ?_);rintro e fj ⟨rfl,hb⟩;refine⟨_,rfl, ?_⟩;replace ρ:=sBk ρ hb;replace σ:=sBk σ hb;replace HB:=sHb hb;(try clear hb);(try clear a4);(try clear hk);(try clear hi);obtain⟨bs,cn,cw,fq,fr,gi,gj,az,ce,ck,co,cp,d4,gl,gx,gy,gz,b0,dd,dk⟩:=Zg ρ.out;obtain⟨a5,am,φ,f7,f8,fa,fb,b3,b4,a8,fc,fe,ff,fg⟩:=qD7 σ.out)|((with_reducible refine Qf (f:=69) rfl ?_);refine Qt (some 18) rfl rfl Try.func69 kr rfl #[.int .i64 B,.agg #[.int .i64 δ,.int .i64 ε,.int .i64 ι,.int .i64 μ,.int .i64 κ,.int .i64 ν,.int .i64 ξ]] rfl qM ?_;(with_reducible refine(car_Check.calls k B δ ε ι μ κ ν ξ ω _ A5.out).mono ?_);rintro e ba ⟨rfl,hb⟩;refine⟨_,rfl, ?_⟩;replace ρ:=sBk ρ hb;replace σ:=sBk σ hb;replace HB:=sHb hb;(try clear hb);(try clear a4);(try clear hk);(try clear hi)))
  go_ret
  exact⟨rfl,HB.out⟩
 ·rw[if_neg c4] at H
  have c4b0:(τ == 0)=false:=beq_eq_false_iff_ne.mpr c4
  have c4b1:(τ != 0)=true:=bne_iff_ne.mpr c4
  obtain rfl:=Option.some.inj H
  go_enter Try.func45,Try.ntmps45
  go_wp2_with (first|((with_reducible refine Qe (N:=2) rfl ?_);refine qE 2 #[.int .i64 B,.int .i64 J,.int .i64 O,.int .i64 X,.int .i64 Y,.int .i64 Z,.int .i64 γ,.int .i64 ζ,.int .i64 θ,.int .i64 η] 25 ?_;intro a2 hg bz hbox hb;have ρ:=aK hbox;have a3:=sGe hg;have a6:=sGe hg;replace HB:=sHb hb;clear hb hbox hg)|((with_reducible refine Qe (N:=3) rfl ?_);refine qE 3 #[.int .i64 δ,.int .i64 ε,.int .i64 ι,.int .i64 μ,.int .i64 κ,.int .i64 ν,.int .i64 ξ] 29 ?_;intro a9 hg ez hbox hb;have σ:=aK hbox;have aa:=sGe hg;have ab:=sGe hg;have χ :=sNl ρ hg;have ψ :=sNg ρ hg;replace ρ:=sBk ρ hb;replace HB:=sHb hb;clear hb hbox hg;have ee:= χ.out;have ep:= ψ.out;obtain⟨ap,ar,bg,bl,bm,bp,bq,an,dq,dw,au,av,bh,br,dm,dn,dp,dz,e0,e3⟩:=Zg ρ.out)|((with_reducible refine Qf (f:=47) rfl ?_);refine Qt (some 10) rfl rfl Try.func47 kr rfl #[.agg #[.int .i64 B,.int .i64 J,.int .i64 O,.int .i64 X,.int .i64 Y,.int .i64 Z,.int .i64 γ,.int .i64 ζ,.int .i64 θ,.int .i64 η],.agg #[.int .i64 0,.int .i64 0,.int .i64 0]] rfl qM ?_;(with_reducible refine(door_Rest.calls k B J O X Y Z γ ζ θ η 0 0 0 a1 τ _ A3.out).mono ?_);rintro e ft ⟨rfl,hb⟩;refine⟨_,rfl, ?_⟩;replace ρ:=sBk ρ hb;replace σ:=sBk σ hb;replace HB:=sHb hb;(try clear hb);(try clear a4);(try clear hk);(try clear hi)))
  go_ret
  exact⟨rfl,HB.out⟩
def car_Rest.f (k:Nat) (B:Int) (J:Int) (O:Int) (X:Int) (Y:Int) (Z:Int) (γ:Int) (ζ :Int) (θ :Int) (η :Int) (δ :Int) (ε :Int) (ι :Int) (μ :Int) (κ :Int) (ν :Int) (ξ :Int):Option (Int×Int):=(car_check.f k B J O X Y Z γ ζ θ η δ ε ι μ κ ν ξ).bind fun τ =>(if τ = 0 then (if ι = 2 then ((door_Ask.f k J O X Y Z γ ζ κ ν ξ).bind fun a0=>((door_Rest.f k B J O X Y Z γ ζ θ η a0.1 a0.2.1 a0.2.2.1).bind fun ae=>(some (wrap64 (μ + ae.1),0)))) else ((door_Rest.f k B J O X Y Z γ ζ θ η κ ν ξ).bind fun bd=>(some (wrap64 (μ + bd.1),0)))) else (some (0,τ)))
theorem car_Rest.mono:∀ B X a2 a3 O a5 Y a7 a8 a9 Z γ δ ζ ε η θ k,LeO (car_Rest.f k B X a2 a3 O a5 Y a7 a8 a9 Z γ δ ζ ε η θ) (car_Rest.f (k+1) B X a2 a3 O a5 Y a7 a8 a9 Z γ δ ζ ε η θ):=by
 intro B X a2 a3 O a5 Y a7 a8 a9 Z γ δ ζ ε η θ k
 unfold car_Rest.f
 repeat' first|(with_reducible first|apply car_check.mono|apply door_Ask.mono|apply door_Rest.mono|exact LeO.refl _|exact LeO.none _|refine LeO.ite ?_ ?_|refine LeO.bind ?_ (fun _=>?_))|apply car_check.mono|apply door_Ask.mono|apply door_Rest.mono|exact LeO.none _|refine LeO.ite ?_ ?_|refine LeO.bind ?_ (fun _=>?_)
set_option maxHeartbeats 8000000 in
set_option maxRecDepth 100000 in
theorem car_Rest.calls (k:Nat) (B:Int) (J:Int) (O:Int) (X:Int) (Y:Int) (Z:Int) (γ:Int) (ζ :Int) (θ :Int) (η :Int) (δ :Int) (ε :Int) (ι :Int) (μ :Int) (κ :Int) (ν :Int) (ξ :Int) (r1:Int) (r2:Int) (w:World) (h:car_Rest.f k B J O X Y Z γ ζ θ η δ ε ι μ κ ν ξ = some (r1,r2)):
 Calls Try.prog 25 #[.agg #[.int .i64 B,.int .i64 J,.int .i64 O,.int .i64 X,.int .i64 Y,.int .i64 Z,.int .i64 γ,.int .i64 ζ,.int .i64 θ,.int .i64 η],.agg #[.int .i64 δ,.int .i64 ε,.int .i64 ι,.int .i64 μ,.int .i64 κ,.int .i64 ν,.int .i64 ξ]] w fun e w'=>e = .returned (.tuple #[.int .i64 r1,.int .i64 r2])∧Below w.heap.size w w':=by
 have cg:=Try.underlying25
 have gk:=Try.underlying29
 have he:=Try.underlying27
 have ja:=Try.underlying23
 have HB:=aK (Below.refl w.heap.size w)
 have H:((car_check.f k B J O X Y Z γ ζ θ η δ ε ι μ κ ν ξ).bind fun τ =>(if τ = 0 then (if ι = 2 then ((door_Ask.f k J O X Y Z γ ζ κ ν ξ).bind fun a0=>((door_Rest.f k B J O X Y Z γ ζ θ η a0.1 a0.2.1 a0.2.2.1).bind fun ae=>(some (wrap64 (μ + ae.1),0)))) else ((door_Rest.f k B J O X Y Z γ ζ θ η κ ν ξ).bind fun bd=>(some (wrap64 (μ + bd.1),0)))) else (some (0,τ))))=some (r1,r2):=h
 clear h
 obtain⟨τ,a7,H⟩:=qO H
 have A3:=aK a7
 clear a7
 by_cases c4: τ = 0
 ·rw[if_pos c4] at H
  have c4b0:(τ == 0)=true:=beq_iff_eq.mpr c4
  have c4b1:(τ != 0)=false:=bne_eq_false_iff_eq.mpr c4
  clear c4
  by_cases c5: ι = 2
  ·rw[if_pos c5] at H
   have c5b0:(ι == 2)=true:=beq_iff_eq.mpr c5
   have c5b1:(ι != 2)=false:=bne_eq_false_iff_eq.mpr c5
   clear c5
   obtain⟨⟨ab,af,bc,bv⟩,ao,H⟩:=qO H
   replace H:((door_Rest.f k B J O X Y Z γ ζ θ η ab af bc).bind fun ae=>(some (wrap64 (μ + ae.1),0)))=some (r1,r2):=H
   have A6:=aK ao
   clear ao
   obtain⟨⟨bp,ci⟩,cr,H⟩:=qO H
   replace H:(some (wrap64 (μ + bp),0))=some (r1,r2):=H
   have A7:=aK cr
   clear cr
   simp only[Option.some.injEq,Prod.mk.injEq] at H
   obtain⟨rfl,rfl⟩:=H
   go_enter Try.func25,Try.ntmps25
   go_wp2_with (first|((with_reducible refine Qe (N:=2) rfl ?_);refine qE 2 #[.int .i64 B,.int .i64 J,.int .i64 O,.int .i64 X,.int .i64 Y,.int .i64 Z,.int .i64 γ,.int .i64 ζ,.int .i64 θ,.int .i64 η] 25 ?_;intro bf hg w8 hbox hb;have ρ:=aK hbox;have bk:=sGe hg;have bl:=sGe hg;replace HB:=sHb hb;clear hb hbox hg)|((with_reducible refine Qe (N:=3) rfl ?_);refine qE 3 #[.int .i64 δ,.int .i64 ε,.int .i64 ι,.int .i64 μ,.int .i64 κ,.int .i64 ν,.int .i64 ξ] 29 ?_;intro bm hg w9 hbox hb;have σ:=aK hbox;have bn:=sGe hg;have bo:=sGe hg;have ψ :=sNl ρ hg;have ω :=sNg ρ hg;replace ρ:=sBk ρ hb;replace HB:=sHb hb;clear hb hbox hg;have cf:= ψ.out;have cj:= ω.out;obtain⟨bs,cn,cw,fq,fr,gi,gj,az,ce,ck,co,cp,d4,gl,gx,gy,gz,b0,dd,dk⟩:=Zg ρ.out;obtain⟨a5,am,φ,f7,f8,fa,fb,b3,b4,a8,fc,fe,ff,fg⟩:=qD7 σ.out)|((with_reducible refine Qf (f:=45) rfl ?_);refine Qt (some 12) rfl rfl Try.func45 kr rfl #[.agg #[.int .i64 B,.int .i64 J,.int .i64 O,.int .i64 X,.int .i64 Y,.int .i64 Z,.int .i64 γ,.int .i64 ζ,.int .i64 θ,.int .i64 η],.agg #[.int .i64 δ,.int .i64 ε,.int .i64 ι,.int .i64 μ,.int .i64 κ,.int .i64 ν,.int .i64 ξ]] rfl qM ?_;(with_reducible refine(car_check.calls k B J O X Y Z γ ζ θ η δ ε ι μ κ ν ξ τ _ A3.out).mono ?_);rintro e ba ⟨rfl,hb⟩;refine⟨_,rfl, ?_⟩;replace ρ:=sBk ρ hb;replace σ:=sBk σ hb;replace HB:=sHb hb;(try clear hb);(try clear a4);(try clear hk);(try clear hi);obtain⟨bw,bz,d5,ef,eg,eh,ei,ca,cb,d6,ej,ek,el,em⟩:=qD7 σ.out)|((with_reducible refine Qe (N:=7) rfl ?_);refine qE 7 #[.int .i64 0,.int .i64 0,.int .i64 0] 27 ?_;intro b9 hg ez hbox hb;have χ :=aK hbox;have br:=sGe hg;have bu:=sGe hg;have a1:=sNl ρ hg;have a2:=sNg ρ hg;have a6:=sNl σ hg;have aa:=sNg σ hg;replace ρ:=sBk ρ hb;replace σ:=sBk σ hb;replace HB:=sHb hb;clear hb hbox hg;have ee:=a2.out;have ep:=a1.out;have k7:=aa.out;have k8:=a6.out;obtain⟨bg,bh,er,bi,bj,et⟩:=qD3 χ.out;obtain⟨ag,ah,b5,cq,ct,cu,cv,ai,aj,b8,d1,d2,d3,d7⟩:=qD7 σ.out;obtain⟨ak,an,a3,a9,ch,dc,dr,ac,i3,i4,aw,ax,b6,dv,dw,dx,dy,i5,i6,i7⟩:=Zg ρ.out)|((with_reducible refine Qf (f:=46) rfl ?_);refine Qt (some 25) rfl rfl Try.func46 kr rfl #[.agg #[.int .i64 J,.int .i64 O,.int .i64 X,.int .i64 Y,.int .i64 Z,.int .i64 γ,.int .i64 ζ],.agg #[.int .i64 κ,.int .i64 ν,.int .i64 ξ]] rfl qM ?_;(with_reducible refine(door_Ask.calls k J O X Y Z γ ζ κ ν ξ ab af bc bv _ A6.out).mono ?_);rintro e b2 ⟨rfl,hb⟩;refine⟨_,rfl, ?_⟩;replace ρ:=sBk ρ hb;replace σ:=sBk σ hb;replace χ :=aK (Qz (g:=b9) (o:=.cells #[.int .i64 κ,.int .i64 ν,.int .i64 ξ] 27 (0,0)) (by refine Qq (cs:=#[.int .i64 κ,.int .i64 ν,.int .i64 0]) ?_ 2 _ rfl;refine Qq (cs:=#[.int .i64 κ,.int .i64 0,.int .i64 0]) ?_ 1 _ rfl;refine Qq (cs:=#[.int .i64 0,.int .i64 0,.int .i64 0]) ?_ 0 _ rfl;exact χ.out) hb);replace HB:=sHb hb;(try clear hb);(try clear a4);(try clear hk);(try clear hi);obtain⟨ap,ar,al,au,av,b7⟩:=qD3 χ.out;obtain⟨bb,de,df,gb,ge,gv,gw,jb,jc,jd,dh,dj,dl,je,jf,jg,jh,ji,jj,jk⟩:=Zg ρ.out)|((with_reducible refine Qf (f:=47) rfl ?_);refine Qt (some 31) rfl rfl Try.func47 kr rfl #[.agg #[.int .i64 B,.int .i64 J,.int .i64 O,.int .i64 X,.int .i64 Y,.int .i64 Z,.int .i64 γ,.int .i64 ζ,.int .i64 θ,.int .i64 η],.agg #[.int .i64 ab,.int .i64 af,.int .i64 bc]] rfl qM ?_;(with_reducible refine(door_Rest.calls k B J O X Y Z γ ζ θ η ab af bc bp ci _ A7.out).mono ?_);rintro e cd ⟨rfl,hb⟩;refine⟨_,rfl, ?_⟩;replace ρ:=sBk ρ hb;replace σ:=sBk σ hb;replace χ :=aK (Qz (g:=b9) (o:=.cells #[.int .i64 ab,.int .i64 af,.int .i64 bc] 27 (0,0)) (by refine Qq (cs:=#[.int .i64 ab,.int .i64 af,.int .i64 ξ]) ?_ 2 _ rfl;refine Qq (cs:=#[.int .i64 ab,.int .i64 ν,.int .i64 ξ]) ?_ 1 _ rfl;refine Qq (cs:=#[.int .i64 κ,.int .i64 ν,.int .i64 ξ]) ?_ 0 _ rfl;exact χ.out) hb);replace HB:=sHb hb;(try clear hb);(try clear a4);(try clear hk);(try clear hi);obtain⟨d8,d9,dt,h0,h4,h5,h6,da,db,gf,h7,h8,h9,ha⟩:=qD7 σ.out))
   go_ret2
   exact⟨rfl,HB.out⟩
  ·rw[if_neg c5] at H
   have c5b0:(ι == 2)=false:=beq_eq_false_iff_ne.mpr c5
   have c5b1:(ι != 2)=true:=bne_iff_ne.mpr c5
   obtain⟨⟨bq,cy⟩,ay,H⟩:=qO H
   replace H:(some (wrap64 (μ + bq),0))=some (r1,r2):=H
   have b1:=aK ay
   clear ay
   simp only[Option.some.injEq,Prod.mk.injEq] at H
   obtain⟨rfl,rfl⟩:=H
   go_enter Try.func25,Try.ntmps25
   go_wp2_with (first|((with_reducible refine Qe (N:=2) rfl ?_);refine qE 2 #[.int .i64 B,.int .i64 J,.int .i64 O,.int .i64 X,.int .i64 Y,.int .i64 Z,.int .i64 γ,.int .i64 ζ,.int .i64 θ,.int .i64 η] 25 ?_;intro bf hg di hbox hb;have ρ:=aK hbox;have bk:=sGe hg;have bl:=sGe hg;replace HB:=sHb hb;clear hb hbox hg)|((with_reducible refine Qe (N:=3) rfl ?_);refine qE 3 #[.int .i64 δ,.int .i64 ε,.int .i64 ι,.int .i64 μ,.int .i64 κ,.int .i64 ν,.int .i64 ξ] 29 ?_;intro bm hg du hbox hb;have σ:=aK hbox;have bn:=sGe hg;have bo:=sGe hg;have ψ :=sNl ρ hg;have ω :=sNg ρ hg;replace ρ:=sBk ρ hb;replace HB:=sHb hb;clear hb hbox hg;have fj:= ψ.out;have fk:= ω.out;obtain⟨e7,e8,eu,ft,fu,fv,fw,ic,ie,ig,e9,ea,ev,fx,fy,fz,ga,ih,ii,ij⟩:=Zg ρ.out;obtain⟨dm,dn,ew,i9,ia,ib,iu,dp,dq,ey,iv,iw,ix,iy⟩:=qD7 σ.out)|((with_reducible refine Qf (f:=45) rfl ?_);refine Qt (some 12) rfl rfl Try.func45 kr rfl #[.agg #[.int .i64 B,.int .i64 J,.int .i64 O,.int .i64 X,.int .i64 Y,.int .i64 Z,.int .i64 γ,.int .i64 ζ,.int .i64 θ,.int .i64 η],.agg #[.int .i64 δ,.int .i64 ε,.int .i64 ι,.int .i64 μ,.int .i64 κ,.int .i64 ν,.int .i64 ξ]] rfl qM ?_;(with_reducible refine(car_check.calls k B J O X Y Z γ ζ θ η δ ε ι μ κ ν ξ τ _ A3.out).mono ?_);rintro e hh ⟨rfl,hb⟩;refine⟨_,rfl, ?_⟩;replace ρ:=sBk ρ hb;replace σ:=sBk σ hb;replace HB:=sHb hb;(try clear hb);(try clear a4);(try clear hk);(try clear hi);obtain⟨d0,eb,fh,cm,cx,ho,hu,ec,ed,gg,hx,hy,i0,i1⟩:=qD7 σ.out)|((with_reducible refine Qe (N:=7) rfl ?_);refine qE 7 #[.int .i64 0,.int .i64 0,.int .i64 0] 27 ?_;intro b9 hg fp hbox hb;have χ :=aK hbox;have br:=sGe hg;have bu:=sGe hg;have a1:=sNl ρ hg;have a2:=sNg ρ hg;have a6:=sNl σ hg;have aa:=sNg σ hg;replace ρ:=sBk ρ hb;replace σ:=sBk σ hb;replace HB:=sHb hb;clear hb hbox hg;have kb:=a2.out;have kf:=a1.out;have fn:=aa.out;have fo:=a6.out;obtain⟨gt,gu,kd,jm,jn,ke⟩:=qD3 χ.out;obtain⟨kv,kw,kx,ky,kz,l2,l3,l4,l5,lh,ll,lm,ln,lp⟩:=qD7 σ.out;obtain⟨en,eo,fm,hj,hl,ik,io,ip,iq,ir,gr,gs,il,it,kc,kg,kh,ki,kj,kk⟩:=Zg ρ.out)|((with_reducible refine Qf (f:=47) rfl ?_);refine Qt (some 31) rfl rfl Try.func47 kr rfl #[.agg #[.int .i64 B,.int .i64 J,.int .i64 O,.int .i64 X,.int .i64 Y,.int .i64 Z,.int .i64 γ,.int .i64 ζ,.int .i64 θ,.int .i64 η],.agg #[.int .i64 κ,.int .i64 ν,.int .i64 ξ]] rfl qM ?_;(with_reducible refine(door_Rest.calls k B J O X Y Z γ ζ θ η κ ν ξ bq cy _ b1.out).mono ?_);rintro e kp ⟨rfl,hb⟩;refine⟨_,rfl, ?_⟩;replace ρ:=sBk ρ hb;replace σ:=sBk σ hb;replace χ :=aK (Qz (g:=b9) (o:=.cells #[.int .i64 κ,.int .i64 ν,.int .i64 ξ] 27 (0,0)) (by refine Qq (cs:=#[.int .i64 κ,.int .i64 ν,.int .i64 0]) ?_ 2 _ rfl;refine Qq (cs:=#[.int .i64 κ,.int .i64 0,.int .i64 0]) ?_ 1 _ rfl;refine Qq (cs:=#[.int .i64 0,.int .i64 0,.int .i64 0]) ?_ 0 _ rfl;exact χ.out) hb);replace HB:=sHb hb;(try clear hb);(try clear a4);(try clear hk);(try clear hi);obtain⟨dz,e0,e6,jl,jo,jp,jq,e3,e4,gh,jr,js,jt,ju⟩:=qD7 σ.out))
   go_ret2
   exact⟨rfl,HB.out⟩
 ·rw[if_neg c4] at H
  have c4b0:(τ == 0)=false:=beq_eq_false_iff_ne.mpr c4
  have c4b1:(τ != 0)=true:=bne_iff_ne.mpr c4
  simp only[Option.some.injEq,Prod.mk.injEq] at H
  obtain⟨rfl,rfl⟩:=H
  go_enter Try.func25,Try.ntmps25
  go_wp2_with (first|((with_reducible refine Qe (N:=2) rfl ?_);refine qE 2 #[.int .i64 B,.int .i64 J,.int .i64 O,.int .i64 X,.int .i64 Y,.int .i64 Z,.int .i64 γ,.int .i64 ζ,.int .i64 θ,.int .i64 η] 25 ?_;intro bf hg ks hbox hb;have ρ:=aK hbox;have bk:=sGe hg;have bl:=sGe hg;replace HB:=sHb hb;clear hb hbox hg)|((with_reducible refine Qe (N:=3) rfl ?_);refine qE 3 #[.int .i64 δ,.int .i64 ε,.int .i64 ι,.int .i64 μ,.int .i64 κ,.int .i64 ν,.int .i64 ξ] 29 ?_;intro bm hg ko hbox hb;have σ:=aK hbox;have bn:=sGe hg;have bo:=sGe hg;have ψ :=sNl ρ hg;have ω :=sNg ρ hg;replace ρ:=sBk ρ hb;replace HB:=sHb hb;clear hb hbox hg;have k9:= ψ.out;have ka:= ω.out;obtain⟨i2,iz,jv,l6,l7,l8,l9,cz,e5,im,j4,j5,jw,lb,lc,lf,lg,kl,km,kn⟩:=Zg ρ.out;obtain⟨j6,j7,jx,jy,jz,k0,k1,j8,j9,k2,k3,k4,k5,k6⟩:=qD7 σ.out)|((with_reducible refine Qf (f:=45) rfl ?_);refine Qt (some 12) rfl rfl Try.func45 kr rfl #[.agg #[.int .i64 B,.int .i64 J,.int .i64 O,.int .i64 X,.int .i64 Y,.int .i64 Z,.int .i64 γ,.int .i64 ζ,.int .i64 θ,.int .i64 η],.agg #[.int .i64 δ,.int .i64 ε,.int .i64 ι,.int .i64 μ,.int .i64 κ,.int .i64 ν,.int .i64 ξ]] rfl qM ?_;(with_reducible refine(car_check.calls k B J O X Y Z γ ζ θ η δ ε ι μ κ ν ξ τ _ A3.out).mono ?_);rintro e lq ⟨rfl,hb⟩;refine⟨_,rfl, ?_⟩;replace ρ:=sBk ρ hb;replace σ:=sBk σ hb;replace HB:=sHb hb;(try clear hb);(try clear a4);(try clear hk);(try clear hi)))
  go_ret2
  exact⟨rfl,HB.out⟩
def group_lift.f (k:Nat) (B:Int) (J:Int) (O:Int) (X:Int) (Y:Int) (Z:Int) (γ:Int) (ζ :Int) (θ :Int) (η :Int) (δ :Int) (ε :Int) (ι :Int) (μ :Int) (κ :Int) (ν :Int) (ξ :Int) (ψ :Int) (a1:Bool) (a2:Bool):Option (Bool):=(car_Rest.f k B J O X Y Z γ ζ θ η δ ε ι μ κ ν ξ).bind fun a9=>(if a9.2=0 then (if (-1) ≤ ψ then (some (decide (ψ ≤ 1))) else (some false)) else (some false))
theorem group_lift.mono:∀ B X a2 a3 O a5 Y a7 a8 a9 Z γ δ ζ ε η θ J ι κ k,LeO (group_lift.f k B X a2 a3 O a5 Y a7 a8 a9 Z γ δ ζ ε η θ J ι κ) (group_lift.f (k+1) B X a2 a3 O a5 Y a7 a8 a9 Z γ δ ζ ε η θ J ι κ):=by
 intro B X a2 a3 O a5 Y a7 a8 a9 Z γ δ ζ ε η θ J ι κ k
 unfold group_lift.f
 repeat' first|(with_reducible first|apply car_Rest.mono|exact LeO.refl _|exact LeO.none _|refine LeO.ite ?_ ?_|refine LeO.bind ?_ (fun _=>?_))|apply car_Rest.mono|exact LeO.none _|refine LeO.ite ?_ ?_|refine LeO.bind ?_ (fun _=>?_)
set_option maxHeartbeats 8000000 in
set_option maxRecDepth 100000 in
theorem group_lift.calls (k:Nat) (B:Int) (J:Int) (O:Int) (X:Int) (Y:Int) (Z:Int) (γ:Int) (ζ :Int) (θ :Int) (η :Int) (δ :Int) (ε :Int) (ι :Int) (μ :Int) (κ :Int) (ν :Int) (ξ :Int) (ψ :Int) (a1:Bool) (a2:Bool) (r:Bool) (w:World) (h:group_lift.f k B J O X Y Z γ ζ θ η δ ε ι μ κ ν ξ ψ a1 a2=some r):
 Calls Try.prog 28 #[.agg #[.int .i64 B,.int .i64 J,.int .i64 O,.int .i64 X,.int .i64 Y,.int .i64 Z,.int .i64 γ,.int .i64 ζ,.int .i64 θ,.int .i64 η],.agg #[.int .i64 δ,.int .i64 ε,.int .i64 ι,.int .i64 μ,.int .i64 κ,.int .i64 ν,.int .i64 ξ,.int .i64 ψ,.bool a1,.bool a2]] w fun e w'=>e = .returned (.bool r)∧Below w.heap.size w w':=by
 have cg:=Try.underlying25
 have er:=Try.underlying31
 have gk:=Try.underlying29
 have HB:=aK (Below.refl w.heap.size w)
 have H:((car_Rest.f k B J O X Y Z γ ζ θ η δ ε ι μ κ ν ξ).bind fun a9=>(if a9.2=0 then (if (-1) ≤ ψ then (some (decide (ψ ≤ 1))) else (some false)) else (some false)))=some r:=h
 clear h
 obtain⟨⟨ab,a3⟩,a7,H⟩:=qO H
 replace H:(if a3=0 then (if (-1) ≤ ψ then (some (decide (ψ ≤ 1))) else (some false)) else (some false))=some r:=H
 have A3:=aK a7
 clear a7
 by_cases c4:a3=0
 ·rw[if_pos c4] at H
  have c4b0:(a3==0)=true:=beq_iff_eq.mpr c4
  have c4b1:(a3 != 0)=false:=bne_eq_false_iff_eq.mpr c4
  clear c4
  by_cases c5:(-1) ≤ ψ
  ·rw[if_pos c5] at H
   have c5b0:=decide_eq_true c5
   clear c5
   obtain rfl:=Option.some.inj H
   go_enter Try.func28,Try.ntmps28
   go_wp2_with (first|((with_reducible refine Qe (N:=2) rfl ?_);refine qE 2 #[.int .i64 B,.int .i64 J,.int .i64 O,.int .i64 X,.int .i64 Y,.int .i64 Z,.int .i64 γ,.int .i64 ζ,.int .i64 θ,.int .i64 η] 25 ?_;intro ac hg w6 hbox hb;have ρ:=aK hbox;have ak:=sGe hg;have al:=sGe hg;replace HB:=sHb hb;clear hb hbox hg)|((with_reducible refine Qe (N:=3) rfl ?_);refine qE 3 #[.int .i64 δ,.int .i64 ε,.int .i64 ι,.int .i64 μ,.int .i64 κ,.int .i64 ν,.int .i64 ξ,.int .i64 ψ,.bool a1,.bool a2] 31 ?_;intro aw hg w7 hbox hb;have σ:=aK hbox;have ax:=sGe hg;have b6:=sGe hg;have τ :=sNl ρ hg;have a0:=sNg ρ hg;replace ρ:=sBk ρ hb;replace HB:=sHb hb;clear hb hbox hg;have b9:= τ.out;have bn:=a0.out;obtain⟨ao,b7,bj,bo,dc,di,dy,e4,bu,bv,bi,bk,e5,e6,e7,e8,ev,fu,bw,ca⟩:=Zg ρ.out;obtain⟨af,bd,du,co,cp,gx,gy,a6,aa,ae,bf,cw,ee,gz,hh,hj,hl,bc,iu,iv⟩:=Zg σ.out)|((with_reducible refine Qf (f:=25) rfl ?_);refine Qt (some 11) rfl rfl Try.func25 kr rfl #[.agg #[.int .i64 B,.int .i64 J,.int .i64 O,.int .i64 X,.int .i64 Y,.int .i64 Z,.int .i64 γ,.int .i64 ζ,.int .i64 θ,.int .i64 η],.agg #[.int .i64 δ,.int .i64 ε,.int .i64 ι,.int .i64 μ,.int .i64 κ,.int .i64 ν,.int .i64 ξ]] rfl qM ?_;(with_reducible refine(car_Rest.calls k B J O X Y Z γ ζ θ η δ ε ι μ κ ν ξ ab a3 _ A3.out).mono ?_);rintro e d4 ⟨rfl,hb⟩;refine⟨_,rfl, ?_⟩;replace ρ:=sBk ρ hb;replace σ:=sBk σ hb;replace HB:=sHb hb;(try clear hb);(try clear a4);(try clear hk);(try clear hi);obtain⟨a5,am,φ,f7,f8,fa,fb,h9,ha,iw,b3,b4,a8,fc,fe,ff,fg,ix,iy,iz⟩:=Zg σ.out))
   go_ret
   exact⟨rfl,HB.out⟩
  ·rw[if_neg c5] at H
   have c5b0:=decide_eq_false c5
   clear c5
   obtain rfl:=Option.some.inj H
   go_enter Try.func28,Try.ntmps28
   go_wp2_with (first|((with_reducible refine Qe (N:=2) rfl ?_);refine qE 2 #[.int .i64 B,.int .i64 J,.int .i64 O,.int .i64 X,.int .i64 Y,.int .i64 Z,.int .i64 γ,.int .i64 ζ,.int .i64 θ,.int .i64 η] 25 ?_;intro ac hg ba hbox hb;have ρ:=aK hbox;have ak:=sGe hg;have al:=sGe hg;replace HB:=sHb hb;clear hb hbox hg)|((with_reducible refine Qe (N:=3) rfl ?_);refine qE 3 #[.int .i64 δ,.int .i64 ε,.int .i64 ι,.int .i64 μ,.int .i64 κ,.int .i64 ν,.int .i64 ξ,.int .i64 ψ,.bool a1,.bool a2] 31 ?_;intro aw hg bz hbox hb;have σ:=aK hbox;have ax:=sGe hg;have b6:=sGe hg;have τ :=sNl ρ hg;have a0:=sNg ρ hg;replace ρ:=sBk ρ hb;replace HB:=sHb hb;clear hb hbox hg;have gt:= τ.out;have gu:=a0.out;obtain⟨cx,cy,χ,ci,cm,eb,ec,cr,ho,i0,cz,d0,ω,ed,en,eo,ep,fh,i1,i2⟩:=Zg ρ.out;obtain⟨ap,ar,bg,bl,bm,bp,bq,an,dq,dw,au,av,bh,br,dm,dn,dp,dz,e0,e3⟩:=Zg σ.out)|((with_reducible refine Qf (f:=25) rfl ?_);refine Qt (some 11) rfl rfl Try.func25 kr rfl #[.agg #[.int .i64 B,.int .i64 J,.int .i64 O,.int .i64 X,.int .i64 Y,.int .i64 Z,.int .i64 γ,.int .i64 ζ,.int .i64 θ,.int .i64 η],.agg #[.int .i64 δ,.int .i64 ε,.int .i64 ι,.int .i64 μ,.int .i64 κ,.int .i64 ν,.int .i64 ξ]] rfl qM ?_;(with_reducible refine(car_Rest.calls k B J O X Y Z γ ζ θ η δ ε ι μ κ ν ξ ab a3 _ A3.out).mono ?_);rintro e ft ⟨rfl,hb⟩;refine⟨_,rfl, ?_⟩;replace ρ:=sBk ρ hb;replace σ:=sBk σ hb;replace HB:=sHb hb;(try clear hb);(try clear a4);(try clear hk);(try clear hi);obtain⟨ag,ah,b5,cq,ct,cu,cv,d8,d9,da,ai,aj,b8,d1,d2,d3,d7,db,dr,dv⟩:=Zg σ.out))
   go_ret
   exact⟨rfl,HB.out⟩
 ·rw[if_neg c4] at H
  have c4b0:(a3==0)=false:=beq_eq_false_iff_ne.mpr c4
  have c4b1:(a3 != 0)=true:=bne_iff_ne.mpr c4
  obtain rfl:=Option.some.inj H
  go_enter Try.func28,Try.ntmps28
  go_wp2_with (first|((with_reducible refine Qe (N:=2) rfl ?_);refine qE 2 #[.int .i64 B,.int .i64 J,.int .i64 O,.int .i64 X,.int .i64 Y,.int .i64 Z,.int .i64 γ,.int .i64 ζ,.int .i64 θ,.int .i64 η] 25 ?_;intro ac hg dx hbox hb;have ρ:=aK hbox;have ak:=sGe hg;have al:=sGe hg;replace HB:=sHb hb;clear hb hbox hg)|((with_reducible refine Qe (N:=3) rfl ?_);refine qE 3 #[.int .i64 δ,.int .i64 ε,.int .i64 ι,.int .i64 μ,.int .i64 κ,.int .i64 ν,.int .i64 ξ,.int .i64 ψ,.bool a1,.bool a2] 31 ?_;intro aw hg b2 hbox hb;have σ:=aK hbox;have ax:=sGe hg;have b6:=sGe hg;have τ :=sNl ρ hg;have a0:=sNg ρ hg;replace ρ:=sBk ρ hb;replace HB:=sHb hb;clear hb hbox hg;have el:= τ.out;have em:=a0.out;obtain⟨bb,de,df,gb,ge,gv,gw,jb,jc,jd,dh,dj,dl,je,jf,jg,jh,ji,jj,jk⟩:=Zg ρ.out;obtain⟨ay,az,cd,fi,fj,fk,fl,gf,h0,h4,b0,b1,ce,fm,fn,fo,fp,h5,h6,h7⟩:=Zg σ.out)|((with_reducible refine Qf (f:=25) rfl ?_);refine Qt (some 11) rfl rfl Try.func25 kr rfl #[.agg #[.int .i64 B,.int .i64 J,.int .i64 O,.int .i64 X,.int .i64 Y,.int .i64 Z,.int .i64 γ,.int .i64 ζ,.int .i64 θ,.int .i64 η],.agg #[.int .i64 δ,.int .i64 ε,.int .i64 ι,.int .i64 μ,.int .i64 κ,.int .i64 ν,.int .i64 ξ]] rfl qM ?_;(with_reducible refine(car_Rest.calls k B J O X Y Z γ ζ θ η δ ε ι μ κ ν ξ ab a3 _ A3.out).mono ?_);rintro e dt ⟨rfl,hb⟩;refine⟨_,rfl, ?_⟩;replace ρ:=sBk ρ hb;replace σ:=sBk σ hb;replace HB:=sHb hb;(try clear hb);(try clear a4);(try clear hk);(try clear hi)))
  go_ret
  exact⟨rfl,HB.out⟩
end Go.Proofs.Ytmfffemidlhcpaa.C
namespace Go.Proofs.Ytmfffemidlhcpaa.GrpPure
open Go.RowKit Go.Proofs.YtmfffemidlhcpaaW.PrintWords Go.Proofs.YtmfffemidlhcpaaW.PrintLast Go.Proofs.YtmfffemidlhcpaaW.PrintMore Go.Proofs.Ytmfffemidlhcpaa.C Go.Proofs.Ytmfffemidlhcpaa.DoorPure
abbrev Zn (F c0 c1 c2 c3 c4:Int):Prop:=
 (c2=0∧c1=0∧c3=0∧c4=0)∨(c2=1∧(c1=1∨c1 = -1)∧(0≤c0+c1∧c0+c1<F)∧(1≤c3∧c3≤60)∧c4=0)∨(c2=2∧c1=0∧(1≤c3∧c3≤60)∧c4=0)∨(c2=3∧c1=0∧c3=0∧c4≠0)
abbrev Jq (F c0 c1 c2 c3 c4 c5 c6:Int):Prop:=((2≤F∧F≤64)∧(0≤c0∧c0<F)∧Xr c4 c5 c6)∧Zn F c0 c1 c2 c3 c4
theorem dT {p:Prop} (inst:Decidable p) (h:p): @decide p inst=true:=decide_eq_true h
theorem dF {p:Prop} (inst:Decidable p) (h:¬ p): @decide p inst=false:=decide_eq_false h
theorem Km (n a b:Int):car_within.f n a b=some (decide (a≤n∧n≤b)):=by
 unfold car_within.f
 by_cases h:a≤n
 ·rw[if_pos h];simp[h]
 ·rw[if_neg h];simp[h]
theorem Vb (F c0 c1 c2 c3 c4 c5 c6:Int) (f:Nat):car_Check.j0 (f+1) F false c0 c1 c2 c3 c4 c5 c6=some 180:=by
 simp[car_Check.j0]
theorem M1 (F c0 c1 c2 c3 c4 c5 c6:Int) (f:Nat) (h:(2≤F∧F≤64)∧(0≤c0∧c0<F)):car_Check.j0 (f+1) F true c0 c1 c2 c3 c4 c5 c6=some (if Zn F c0 c1 c2 c3 c4 then 0 else 180):=by
 obtain⟨h1,O⟩:=h
 have e1:wrap64 (c0+1)=c0+1:=w64 (by omega)
 have e2:wrap64 (c0 + -1)=c0 + -1:=w64 (by omega)
 have e3:wrap64 (F-1)=F-1:=w64 (by omega)
 simp only[car_Check.j0,Km,Option.bind_some,if_true]
 by_cases B:c2=0
 ·subst B
  rw[if_pos rfl]
  by_cases b1:c1=0 <;> by_cases b2:c3=0 <;> by_cases b3:c4=0 <;> simp[Zn,b1,b2,b3]
 ·rw[if_neg B]
  by_cases X:c2=1
  ·subst X
   rw[if_pos rfl]
   by_cases b1:c1=1
   ·subst b1
    rw[if_pos rfl,e1,e3]
    by_cases b2:0≤c0+1∧c0+1≤F-1
    ·rw[decide_eq_true b2,if_pos rfl]
     by_cases b3:1≤c3∧c3≤60
     ·rw[decide_eq_true b3,if_pos rfl]
      by_cases J:c4=0
      ·rw[if_pos J,if_pos (Or.inr (Or.inl ⟨rfl,Or.inl rfl,by omega,b3,J⟩))]
      ·rw[if_neg J,if_neg (by unfold Zn;omega)]
     ·rw[decide_eq_false b3,if_neg (by decide),if_neg (by unfold Zn;omega)]
    ·rw[decide_eq_false b2,if_neg (by decide),if_neg (by unfold Zn;omega)]
   ·rw[if_neg b1]
    by_cases Y:c1 = -1
    ·subst Y
     rw[if_pos rfl,e2,e3]
     by_cases b2:0≤c0 + -1∧c0 + -1≤F-1
     ·rw[decide_eq_true b2,if_pos rfl]
      by_cases b3:1≤c3∧c3≤60
      ·rw[decide_eq_true b3,if_pos rfl]
       by_cases J:c4=0
       ·rw[if_pos J,if_pos (Or.inr (Or.inl ⟨rfl,Or.inr rfl,by omega,b3,J⟩))]
       ·rw[if_neg J,if_neg (by unfold Zn;omega)]
      ·rw[decide_eq_false b3,if_neg (by decide),if_neg (by unfold Zn;omega)]
     ·rw[decide_eq_false b2,if_neg (by decide),if_neg (by unfold Zn;omega)]
    ·rw[if_neg Y,if_neg (by unfold Zn;omega)]
  ·rw[if_neg X]
   by_cases a2:c2=2
   ·subst a2
    rw[if_pos rfl]
    by_cases b1:c1=0
    ·rw[if_pos b1]
     by_cases b3:1≤c3∧c3≤60
     ·rw[decide_eq_true b3,if_pos rfl]
      by_cases J:c4=0
      ·rw[if_pos J,if_pos (Or.inr (Or.inr (Or.inl ⟨rfl,b1,b3,J⟩)))]
      ·rw[if_neg J,if_neg (by unfold Zn;omega)]
     ·rw[decide_eq_false b3,if_neg (by decide),if_neg (by unfold Zn;omega)]
    ·rw[if_neg b1,if_neg (by unfold Zn;omega)]
   ·rw[if_neg a2]
    by_cases a3:c2=3
    ·subst a3
     rw[if_pos rfl]
     by_cases b1:c1=0 <;> by_cases b2:c3=0 <;> by_cases b3:c4=0 <;> simp[Zn,b1,b2,b3]
    ·rw[if_neg a3,if_neg (by unfold Zn;omega)]
theorem Wo (F c0 c1 c2 c3 c4 c5 c6:Int) (f:Nat) (hf:2<f):car_Check.f f F c0 c1 c2 c3 c4 c5 c6=some (if Jq F c0 c1 c2 c3 c4 c5 c6 then 0 else 180):=by
 obtain⟨f,rfl⟩:∃ m,f=m+1:=⟨f-1,by omega⟩
 unfold car_Check.f
 rw[Km,Km,Ym]
 simp only[Option.bind_some,Vb]
 by_cases h1:2≤F∧F≤64
 ·rw[decide_eq_true h1,if_pos rfl,w64 (n:=F-1) (by omega)]
  by_cases O:0≤c0∧c0≤F-1
  ·rw[decide_eq_true O,if_pos rfl]
   by_cases Z:Xr c4 c5 c6
   ·rw[if_pos Z]
    show car_Check.j0 (f+1) F true c0 c1 c2 c3 c4 c5 c6=_
    rw[M1 _ _ _ _ _ _ _ _ _ ⟨h1,by omega⟩]
    by_cases h4:Zn F c0 c1 c2 c3 c4
    ·rw[if_pos h4,if_pos ⟨⟨h1,by omega,Z⟩,h4⟩]
    ·rw[if_neg h4,if_neg (fun h=>h4 h.2)]
   ·rw[if_neg Z]
    show car_Check.j0 (f+1) F false c0 c1 c2 c3 c4 c5 c6=_
    rw[Vb,if_neg (fun h=>Z h.1.2.2)]
  ·rw[decide_eq_false O,if_neg (by decide),if_neg (fun h=>O ⟨h.1.2.1.1,by have:=h.1.2.1.2;omega⟩)]
 ·rw[decide_eq_false h1,if_neg (by decide),if_neg (fun h=>h1 h.1.1)]
theorem M0 (g0 g1 g2 g3 g4 g5 g6 g7 g8 g9 c0 c1 c2 c3 c4 c5 c6:Int) (f:Nat) (hf:10<f):car_check.f f g0 g1 g2 g3 g4 g5 g6 g7 g8 g9 c0 c1 c2 c3 c4 c5 c6=some (if Xs g0 g1 g2 g3 g4 g5 g6 g7 g8 g9∧Jq g0 c0 c1 c2 c3 c4 c5 c6 then 0 else 180):=by
 unfold car_check.f
 rw[Ll _ _ _ _ _ _ _ _ _ _ _ _ _ f hf,Wo _ _ _ _ _ _ _ _ f (by omega)]
 simp only[Option.bind_some]
 by_cases h1:Xs g0 g1 g2 g3 g4 g5 g6 g7 g8 g9
 ·have hz:Xs g0 g1 g2 g3 g4 g5 g6 g7 g8 g9∧Xr 0 0 0:=⟨h1,by unfold Xr;omega⟩
  rw[if_pos hz]
  simp only[if_true]
  by_cases O:Jq g0 c0 c1 c2 c3 c4 c5 c6
  ·rw[if_pos O,if_pos ⟨h1,O⟩]
  ·rw[if_neg O,if_neg (fun h=>O h.2)]
 ·have hz:¬ (Xs g0 g1 g2 g3 g4 g5 g6 g7 g8 g9∧Xr 0 0 0):=fun h=>h1 h.1
  have hy:¬ (Xs g0 g1 g2 g3 g4 g5 g6 g7 g8 g9∧Jq g0 c0 c1 c2 c3 c4 c5 c6):=fun h=>h1 h.1
  rw[if_neg hz,if_neg hy]
  simp only
  rw[if_neg (by decide)]
def Yn (g3 g6 g8 g9 c2 c3 c4 c5 c6:Int):Int:=c3+(if c2=2 then Jt g3 g6 g8 g9 1 g3 0 else Jt g3 g6 g8 g9 c4 c5 c6)
theorem U8 (g0 g1 g2 g3 g4 g5 g6 g7 g8 g9 d0 d1 Y:Int) (hg:Xs g0 g1 g2 g3 g4 g5 g6 g7 g8 g9) (hd:Xr d0 d1 Y):0≤Jt g3 g6 g8 g9 d0 d1 Y∧Jt g3 g6 g8 g9 d0 d1 Y≤26000:=by
 obtain⟨-,B,J⟩:=G0 _ _ _ _ _ _ _ _ _ _ _ _ _ hg hd
 have X:1≤g3∧g3≤60:=hg.1.1.2.2.1
 have a2:1≤g6∧g6≤60:=hg.1.1.2.2.2.2.2
 have a3:1≤g8∧g8≤300:=hg.2.2.1
 unfold Jt
 generalize(if Y<g9 then (g9-Y) * (g3+g8+g6) else 0)=p at B J ⊢
 split
 ·omega
 ·split
  ·omega
  ·split <;> omega
theorem Gl (g0 g1 g2 g3 g4 g5 g6 g7 g8 g9 c0 c1 c2 c3 c4 c5 c6:Int) (hg:Xs g0 g1 g2 g3 g4 g5 g6 g7 g8 g9) (hc:Jq g0 c0 c1 c2 c3 c4 c5 c6):0≤Yn g3 g6 g8 g9 c2 c3 c4 c5 c6∧Yn g3 g6 g8 g9 c2 c3 c4 c5 c6≤26060:=by
 have X:1≤g3∧g3≤60:=hg.1.1.2.2.1
 have b1:=U8 _ _ _ _ _ _ _ _ _ _ 1 g3 0 hg (by unfold Xr;omega)
 have b2:=U8 _ _ _ _ _ _ _ _ _ _ _ _ _ hg hc.1.2.2
 have b3:0≤c3∧c3≤60:=by have:=hc.2;unfold Zn at this;omega
 unfold Yn
 split <;> omega
theorem Va (g0 g1 g2 g3 g4 g5 g6 g7 g8 g9 c0 c1 c2 c3 c4 c5 c6:Int) (f:Nat) (hf:10<f):car_Rest.f f g0 g1 g2 g3 g4 g5 g6 g7 g8 g9 c0 c1 c2 c3 c4 c5 c6=some (if Xs g0 g1 g2 g3 g4 g5 g6 g7 g8 g9∧Jq g0 c0 c1 c2 c3 c4 c5 c6 then (Yn g3 g6 g8 g9 c2 c3 c4 c5 c6,0) else (0,180)):=by
 unfold car_Rest.f
 rw[M0 _ _ _ _ _ _ _ _ _ _ _ _ _ _ _ _ _ f hf,Cj _ _ _ _ _ _ _ _ _ _ f hf]
 simp only[Option.bind_some,Ll _ _ _ _ _ _ _ _ _ _ _ _ _ f hf]
 by_cases h:Xs g0 g1 g2 g3 g4 g5 g6 g7 g8 g9∧Jq g0 c0 c1 c2 c3 c4 c5 c6
 ·rw[if_pos h,if_pos rfl,if_pos h]
  have hb:=Gl _ _ _ _ _ _ _ _ _ _ _ _ _ _ _ _ _ h.1 h.2
  have X:1≤g3∧g3≤60:=h.1.1.1.2.2.1
  unfold Yn at hb ⊢
  by_cases e:c2=2
  ·have B:c4=0:=by have:=h.2.2;unfold Zn at this;omega
   have hd:Xr 1 g3 0:=by unfold Xr;omega
   have ht:Jg g1 g2 g3 g4 g5 g6 g7∧Xr c4 c5 c6:=⟨h.1.1,h.2.1.2.2⟩
   have hy:Xs g0 g1 g2 g3 g4 g5 g6 g7 g8 g9∧Xr 1 g3 0:=⟨h.1,hd⟩
   rw[if_pos e] at hb
   simp only[if_pos e,if_pos ht,if_pos B,if_pos hy]
   rw[w64 (by omega)]
  ·have hy:Xs g0 g1 g2 g3 g4 g5 g6 g7 g8 g9∧Xr c4 c5 c6:=⟨h.1,h.2.1.2.2⟩
   rw[if_neg e] at hb
   simp only[if_neg e,if_pos hy]
   rw[w64 (by omega)]
 ·rw[if_neg h,if_neg (by decide),if_neg h]
abbrev Kx (g0 g1 g2 g3 g4 g5 g6 g7 g8 g9 c0 c1 c2 c3 c4 c5 c6 Z:Int):Prop:=(Xs g0 g1 g2 g3 g4 g5 g6 g7 g8 g9∧Jq g0 c0 c1 c2 c3 c4 c5 c6) ∧ -1≤Z∧Z≤1
theorem E3 (g0 g1 g2 g3 g4 g5 g6 g7 g8 g9 c0 c1 c2 c3 c4 c5 c6 Z:Int) (l8 l9:Bool) (f:Nat) (hf:10<f):group_lift.f f g0 g1 g2 g3 g4 g5 g6 g7 g8 g9 c0 c1 c2 c3 c4 c5 c6 Z l8 l9=some (decide (Kx g0 g1 g2 g3 g4 g5 g6 g7 g8 g9 c0 c1 c2 c3 c4 c5 c6 Z)):=by
 unfold group_lift.f
 rw[Va _ _ _ _ _ _ _ _ _ _ _ _ _ _ _ _ _ f hf]
 simp only[Option.bind_some]
 by_cases h:Xs g0 g1 g2 g3 g4 g5 g6 g7 g8 g9∧Jq g0 c0 c1 c2 c3 c4 c5 c6
 ·rw[if_pos h]
  simp only[if_true]
  by_cases e: -1≤Z
  ·rw[if_pos e];congr 1;rw[decide_eq_decide];exact⟨fun x=>⟨h,e,x⟩,fun x=>x.2.2⟩
  ·rw[if_neg e,decide_eq_false (fun x=>e x.2.1)]
 ·rw[if_neg h,if_neg (by decide),decide_eq_false (fun x=>h x.1)]
theorem Ep (F c0 c1 c2 c3 c4 c5 c6:Int) (f:Nat) (hf:4<f):newelref18_May.f f F c0 c1 c2 c3 c4 c5 c6=some (decide (Jq F c0 c1 c2 c3 c4 c5 c6)):=by
 obtain⟨f,rfl⟩:∃ m,f=m+2:=⟨f-2,by omega⟩
 unfold newelref18_May.f
 rw[Ce _ _ _ _ (by omega)]
 simp only[Option.bind_some,newelref18_May.j0,if_true]
 by_cases h1:2≤F∧F≤64
 ·rw[if_neg (by omega),if_neg (by omega)]
  by_cases O:0≤c0∧c0<F
  ·rw[if_neg (by omega),if_neg (by omega)]
   by_cases Z:Xr c4 c5 c6
   ·rw[decide_eq_true Z,if_neg (by decide)]
    have e:∀ b:Bool,b=decide (1≤c3∧c3≤60)→newelref18_May.j1 (f+1) F (c4==0) b c0 c1 c2 c3 c4 c5 c6=some (decide (Jq F c0 c1 c2 c3 c4 c5 c6)):=by
     intro b hb
     have hc:Jq F c0 c1 c2 c3 c4 c5 c6↔Zn F c0 c1 c2 c3 c4:=⟨fun h=>h.2,fun h=>⟨⟨h1,O,Z⟩,h⟩⟩
     rw[show decide (Jq F c0 c1 c2 c3 c4 c5 c6)=decide (Zn F c0 c1 c2 c3 c4) from decide_eq_decide.2 hc]
     simp only[newelref18_May.j1,w64 (n:=c0+1) (by omega)]
     by_cases B:c2=0
     ·subst B
      rw[if_pos rfl]
      by_cases b1:c1=0 <;> by_cases b2:c3=0 <;> by_cases b3:c4=0 <;> simp[Zn,b1,b2,b3]
     ·rw[if_neg B]
      by_cases X:c2=1
      ·subst X
       rw[if_pos rfl]
       by_cases b1:c1=1
       ·subst b1
        rw[if_pos rfl,if_neg (by decide)]
        by_cases b2:c0+1<F
        ·rw[if_pos b2]
         by_cases b3:1≤c3∧c3≤60
         ·rw[hb,decide_eq_true b3,if_pos rfl]
          by_cases J:c4=0
          ·rw[dT _ (show Zn F c0 1 1 c3 c4 from Or.inr (Or.inl ⟨rfl,Or.inl rfl,by omega,b3,J⟩)),J];rfl
          ·rw[beq_false_of_ne J,dF _ (show ¬ Zn F c0 1 1 c3 c4 by unfold Zn;omega)]
         ·rw[hb,decide_eq_false b3,if_neg (by decide),dF _ (by unfold Zn;omega)]
        ·rw[if_neg b2,dF _ (by unfold Zn;omega)]
       ·rw[if_neg b1]
        by_cases Y:c1 = -1
        ·subst Y
         rw[if_pos rfl]
         by_cases b2:c0>0
         ·rw[if_pos b2]
          by_cases b3:1≤c3∧c3≤60
          ·rw[hb,decide_eq_true b3,if_pos rfl]
           by_cases J:c4=0
           ·rw[dT _ (show Zn F c0 (-1) 1 c3 c4 from Or.inr (Or.inl ⟨rfl,Or.inr rfl,by omega,b3,J⟩)),J];rfl
           ·rw[dF _ (by unfold Zn;omega),beq_false_of_ne J]
          ·rw[hb,decide_eq_false b3,if_neg (by decide),dF _ (by unfold Zn;omega)]
         ·rw[if_neg b2,dF _ (by unfold Zn;omega)]
        ·rw[if_neg Y,dF _ (by unfold Zn;omega)]
      ·rw[if_neg X]
       by_cases a2:c2=2
       ·subst a2
        rw[if_pos rfl]
        by_cases b1:c1=0
        ·rw[if_pos b1]
         by_cases b3:1≤c3∧c3≤60
         ·rw[hb,decide_eq_true b3,if_pos rfl]
          by_cases J:c4=0
          ·rw[dT _ (show Zn F c0 c1 2 c3 c4 from Or.inr (Or.inr (Or.inl ⟨rfl,b1,b3,J⟩))),J];rfl
          ·rw[dF _ (by unfold Zn;omega),beq_false_of_ne J]
         ·rw[hb,decide_eq_false b3,if_neg (by decide),dF _ (by unfold Zn;omega)]
        ·rw[if_neg b1,dF _ (by unfold Zn;omega)]
       ·rw[if_neg a2]
        by_cases a3:c2=3
        ·subst a3
         rw[if_pos rfl]
         by_cases b1:c1=0 <;> by_cases b2:c3=0 <;> by_cases b3:c4=0 <;> simp[Zn,b1,b2,b3]
        ·rw[if_neg a3,dF _ (by unfold Zn;omega)]
    by_cases h4:c3≥1
    ·rw[if_pos h4];exact e _ (by rw[decide_eq_decide];omega)
    ·rw[if_neg h4];exact e _ (by rw[decide_eq_false (by omega)])
   ·rw[decide_eq_false Z]
    rw[show(!false)=true from rfl,if_pos rfl,decide_eq_false (fun h=>Z h.1.2.2)]
  ·rw[decide_eq_false (fun h:Jq F c0 c1 c2 c3 c4 c5 c6=>O h.1.2.1)]
   by_cases h:c0<0
   ·rw[if_pos h]
   ·rw[if_neg h,if_pos (by omega)]
 ·rw[decide_eq_false (fun h:Jq F c0 c1 c2 c3 c4 c5 c6=>h1 h.1.1)]
  by_cases h:F<2
  ·rw[if_pos h]
  ·rw[if_neg h,if_pos (by omega)]
theorem Ng (g0 g1 g2 g3 g4 g5 g6 g7 g8 g9 c0 c1 c2 c3 c4 c5 c6 Z:Int) (l8 l9:Bool) (f:Nat) (hf:4<f):newelref21_Lift.f f g0 g1 g2 g3 g4 g5 g6 g7 g8 g9 c0 c1 c2 c3 c4 c5 c6 Z l8 l9=some (decide (Kx g0 g1 g2 g3 g4 g5 g6 g7 g8 g9 c0 c1 c2 c3 c4 c5 c6 Z)):=by
 unfold newelref21_Lift.f
 rw[Nh,Ep _ _ _ _ _ _ _ _ f hf]
 simp only[Option.bind_some]
 by_cases h1:Xs g0 g1 g2 g3 g4 g5 g6 g7 g8 g9
 ·rw[decide_eq_true h1,if_pos rfl]
  by_cases O:Jq g0 c0 c1 c2 c3 c4 c5 c6
  ·rw[decide_eq_true O,if_pos rfl]
   by_cases e:Z ≥ -1
   ·rw[if_pos e];congr 1;rw[decide_eq_decide];exact⟨fun x=>⟨⟨h1,O⟩,e,x⟩,fun x=>x.2.2⟩
   ·rw[if_neg e,decide_eq_false (fun x=>e x.2.1)]
  ·rw[decide_eq_false O,if_neg (by decide),decide_eq_false (fun x=>O x.1.2)]
 ·rw[decide_eq_false h1,if_neg (by decide),decide_eq_false (fun x=>h1 x.1.1)]
theorem We (g0 g1 g2 g3 g4 g5 g6 g7 g8 g9 c0 c1 c2 c3 c4 c5 c6:Int) (hg:Xs g0 g1 g2 g3 g4 g5 g6 g7 g8 g9) (hc:Jq g0 c0 c1 c2 c3 c4 c5 c6) (f:Nat) (hf:10<f):newelref18_Rest.f f g0 g1 g2 g3 g4 g5 g6 g7 g8 g9 c0 c1 c2 c3 c4 c5 c6=some (Yn g3 g6 g8 g9 c2 c3 c4 c5 c6):=by
 have hb:=Gl _ _ _ _ _ _ _ _ _ _ _ _ _ _ _ _ _ hg hc
 have X:1≤g3∧g3≤60:=hg.1.1.2.2.1
 have hp:=hc.2
 unfold newelref18_Rest.f
 rw[U0 _ _ _ _ _ _ _ _ _ _ 1 g3 0 hg (by unfold Xr;omega) f (by omega),U0 _ _ _ _ _ _ _ _ _ _ _ _ _ hg hc.1.2.2 f (by omega)]
 simp only[Option.bind_some]
 unfold Yn at hb ⊢
 by_cases e1:c2=1
 ·rw[if_pos e1,if_neg (by omega)]
  have:c4=0:=by unfold Zn at hp;omega
  rw[this,show Jt g3 g6 g8 g9 0 c5 c6=0 from by unfold Jt;rw[if_pos rfl],Int.add_zero]
 ·rw[if_neg e1]
  by_cases e2:c2=2
  ·rw[if_pos e2] at hb
   rw[if_pos e2,if_pos e2,w64 (by omega)]
  ·rw[if_neg e2,if_neg e2]
   have:c3=0:=by unfold Zn at hp;omega
   rw[this,Int.zero_add]
end Go.Proofs.Ytmfffemidlhcpaa.GrpPure
namespace Go.Proofs.Ytmfffemidlhcpaa.C
open Go.RowKit Go.Proofs.YtmfffemidlhcpaaW.PrintWords Go.Proofs.YtmfffemidlhcpaaW.PrintLast Go.Proofs.YtmfffemidlhcpaaW.PrintMore
attribute [local go_sem] Z0 Zy Z6 Z5 Zr Zq Zz Zx
set_option linter.unusedVariables false
set_option linter.unusedSimpArgs false
def group_cost.f (k:Nat) (B:Int) (J:Int) (O:Int) (X:Int) (Y:Int) (Z:Int) (γ:Int) (ζ :Int) (θ :Int) (η :Int) (δ :Int) (ε :Int) (ι :Int) (μ :Int) (κ :Int) (ν :Int) (ξ :Int) (ψ :Int) (a1:Bool) (a2:Bool) (φ :List Int) (χ :List Int) (a6:List Int) (a7:Int) (a8:Int) (a9:Int):Option (Int):=(car_Rest.f k B J O X Y Z γ ζ θ η δ ε ι μ κ ν ξ).bind fun af=>((group_way.f k B δ ε ι μ κ ν ξ ψ a1 a2 a7 a8 a9).bind fun a5=>(some (wrap64 ((wrap64 (af.1+(wrap64 (J * a5))))+(wrap64 ((wrap64 ((wrap64 ((wrap64 (O+X)) + θ))+γ)) * (wrap64 ((wrap64 ((φ.length:Int)+(χ.length:Int)))+(a6.length:Int)))))))))
theorem group_cost.mono:∀ B X a2 a3 O a5 Y a7 a8 a9 Z γ δ ζ ε η θ J ι κ μ ν ξ ρ σ τ k,LeO (group_cost.f k B X a2 a3 O a5 Y a7 a8 a9 Z γ δ ζ ε η θ J ι κ μ ν ξ ρ σ τ) (group_cost.f (k+1) B X a2 a3 O a5 Y a7 a8 a9 Z γ δ ζ ε η θ J ι κ μ ν ξ ρ σ τ):=by
 intro B X a2 a3 O a5 Y a7 a8 a9 Z γ δ ζ ε η θ J ι κ μ ν ξ ρ σ τ k
 unfold group_cost.f
 repeat' first|(with_reducible first|apply car_Rest.mono|apply group_way.mono|exact LeO.refl _|exact LeO.none _|refine LeO.ite ?_ ?_|refine LeO.bind ?_ (fun _=>?_))|apply car_Rest.mono|apply group_way.mono|exact LeO.none _|refine LeO.ite ?_ ?_|refine LeO.bind ?_ (fun _=>?_)
def group_cost.T3:Bool×List (List Nat×List Nat):=(true,[([],[]),([],[]),([1],[1]),([2],[2]),([],[]),([4],[4]),([],[]),([],[]),([5,6,7],[5,6,7]),([3,8],[3,8]),([0,9],[0,9]),([],[]),([],[]),([12],[12]),([13],[13]),([],[]),([15],[15]),([16],[16]),([14,17],[14,17]),([],[]),([19],[19]),([20],[20]),([18,21],[18,21]),([11,22],[11,22]),([10,23],[10,23]),([24,8,0,1,2,3,4,5,6,7,8,9,10,11,12,13,14,15,16,17,18,19,20,21,22,23,24],[24])])
def group_cost.B3:List Nat:=[0,0,2,6,0,16,0,0,240,510,1023,0,0,4096,12288,0,32768,98304,258048,0,524288,1572864,4190208,8386560,16777215,33554431]
theorem group_cost.D6:rtab .any (opsOf Try.f31 3)=group_cost.T3:=by kernel_rfl
theorem group_cost.N8:Zk group_cost.T3.2 group_cost.B3=true:=by kernel_rfl
set_option maxHeartbeats 8000000 in
set_option maxRecDepth 100000 in
theorem group_cost.calls (k:Nat) (B:Int) (J:Int) (O:Int) (X:Int) (Y:Int) (Z:Int) (γ:Int) (ζ :Int) (θ :Int) (η :Int) (δ :Int) (ε :Int) (ι :Int) (μ :Int) (κ :Int) (ν :Int) (ξ :Int) (ψ :Int) (a1:Bool) (a2:Bool) (aa:Option Addr) (ab:Nat) (φ :List Int) (ac:Option Addr) (ae:Nat) (χ :List Int) (ak:Option Addr) (am:Nat) (a6:List Int) (a7:Int) (a8:Int) (a9:Int) (r:Int) (w:World) (aw:Kd.C (Kd.int .i64) w aa φ.length φ) (ax: φ.length≤ab) (b3:Kd.C (Kd.int .i64) w ac χ.length χ) (b4: χ.length≤ae) (cw:Kd.C (Kd.int .i64) w ak a6.length a6) (cz:a6.length≤am) (h:group_cost.f k B J O X Y Z γ ζ θ η δ ε ι μ κ ν ξ ψ a1 a2 φ χ a6 a7 a8 a9=some r):
 Calls Try.prog 31 #[.agg #[.int .i64 B,.int .i64 J,.int .i64 O,.int .i64 X,.int .i64 Y,.int .i64 Z,.int .i64 γ,.int .i64 ζ,.int .i64 θ,.int .i64 η],.agg #[.int .i64 δ,.int .i64 ε,.int .i64 ι,.int .i64 μ,.int .i64 κ,.int .i64 ν,.int .i64 ξ,.int .i64 ψ,.bool a1,.bool a2],.agg #[.slice aa φ.length ab,.slice ac χ.length ae,.slice ak a6.length am],.agg #[.int .i64 a7,.int .i64 a8,.int .i64 a9]] w fun e w'=>e = .returned (.int .i64 r)∧Below w.heap.size w w':=by
 have cg:=Try.underlying25
 have er:=Try.underlying31
 have e9:=Try.underlying34
 have ch:=Try.underlying36
 have gk:=Try.underlying29
 have cm:=aK aw
 have cn:=aK ax
 clear aw ax
 have co:=aK b3
 have cp:=aK b4
 clear b3 b4
 have dt:=aK cw
 have du:=aK cz
 clear cw cz
 have HB:=aK (Below.refl w.heap.size w)
 have H:((car_Rest.f k B J O X Y Z γ ζ θ η δ ε ι μ κ ν ξ).bind fun af=>((group_way.f k B δ ε ι μ κ ν ξ ψ a1 a2 a7 a8 a9).bind fun a5=>(some (wrap64 ((wrap64 (af.1+(wrap64 (J * a5))))+(wrap64 ((wrap64 ((wrap64 ((wrap64 (O+X)) + θ))+γ)) * (wrap64 ((wrap64 ((φ.length:Int)+(χ.length:Int)))+(a6.length:Int))))))))))=some r:=h
 clear h
 obtain⟨⟨bi,bn⟩,bc,H⟩:=qO H
 replace H:((group_way.f k B δ ε ι μ κ ν ξ ψ a1 a2 a7 a8 a9).bind fun a5=>(some (wrap64 ((wrap64 (bi+(wrap64 (J * a5))))+(wrap64 ((wrap64 ((wrap64 ((wrap64 (O+X)) + θ))+γ)) * (wrap64 ((wrap64 ((φ.length:Int)+(χ.length:Int)))+(a6.length:Int)))))))))=some r:=H
 have A5:=aK bc
 clear bc
 obtain⟨a5,ao,H⟩:=qO H
 have A6:=aK ao
 clear ao
 obtain rfl:=Option.some.inj H
 go_enter Try.func31,Try.ntmps31
 try go_wp2_with (first|((with_reducible refine Qe (N:=4) rfl ?_);refine qE 4 #[.int .i64 B,.int .i64 J,.int .i64 O,.int .i64 X,.int .i64 Y,.int .i64 Z,.int .i64 γ,.int .i64 ζ,.int .i64 θ,.int .i64 η] 25 ?_;intro a0 hg w7 hbox hb;have ρ:=aK hbox;have bo:=sGe hg;have bs:=sGe hg;replace HB:=sHb hb;clear hb hbox hg)|((with_reducible refine Qe (N:=5) rfl ?_);refine qE 5 #[.int .i64 δ,.int .i64 ε,.int .i64 ι,.int .i64 μ,.int .i64 κ,.int .i64 ν,.int .i64 ξ,.int .i64 ψ,.bool a1,.bool a2] 31 ?_;intro a3 hg w8 hbox hb;have σ:=aK hbox;have bu:=sGe hg;have bv:=sGe hg;have az:=sNl ρ hg;have b0:=sNg ρ hg;replace ρ:=sBk ρ hb;replace HB:=sHb hb;clear hb hbox hg)|((with_reducible refine Qe (N:=6) rfl ?_);refine qE 6 #[.slice aa φ.length ab,.slice ac χ.length ae,.slice ak a6.length am] 34 ?_;intro al hg w9 hbox hb;have τ :=aK hbox;have cd:=sGe hg;have ce:=sGe hg;have b1:=sNl ρ hg;have b6:=sNg ρ hg;have b7:=sNl σ hg;have b9:=sNg σ hg;replace ρ:=sBk ρ hb;replace σ:=sBk σ hb;replace HB:=sHb hb;clear hb hbox hg)|((with_reducible refine Qe (N:=7) rfl ?_);refine qE 7 #[.int .i64 a7,.int .i64 a8,.int .i64 a9] 36 ?_;intro ay hg fj hbox hb;have ω :=aK hbox;have cf:=sGe hg;have ci:=sGe hg;have ba:=sNl ρ hg;have bb:=sNg ρ hg;have bd:=sNl σ hg;have bf:=sNg σ hg;have bj:=sNl τ hg;have bk:=sNg τ hg;replace ρ:=sBk ρ hb;replace σ:=sBk σ hb;replace τ :=sBk τ hb;replace HB:=sHb hb;clear hb hbox hg;have et:=az.out;have fi:=b0.out;have ev:=b1.out;have f7:=b6.out;have gp:=ba.out;have gq:=bb.out;obtain⟨bw,bz,d5,ef,eg,eh,ei,gg,he,hu,ca,cb,d6,ej,ek,el,em,gh,hx,hy⟩:=Zg ρ.out;have gt:=b7.out;have gu:=b9.out;have ee:=bd.out;have ep:=bf.out;obtain⟨ap,ar,bg,bl,bm,bp,bq,an,dq,dw,au,av,bh,br,dm,dn,dp,dz,e0,e3⟩:=Zg σ.out)|((with_reducible refine Qf (f:=25) rfl ?_);refine Qt (some 16) rfl rfl Try.func25 kr rfl #[.agg #[.int .i64 B,.int .i64 J,.int .i64 O,.int .i64 X,.int .i64 Y,.int .i64 Z,.int .i64 γ,.int .i64 ζ,.int .i64 θ,.int .i64 η],.agg #[.int .i64 δ,.int .i64 ε,.int .i64 ι,.int .i64 μ,.int .i64 κ,.int .i64 ν,.int .i64 ξ]] rfl qM ?_;(with_reducible refine(car_Rest.calls k B J O X Y Z γ ζ θ η δ ε ι μ κ ν ξ bi bn _ A5.out).mono ?_);rintro e ft ⟨rfl,hb⟩;refine⟨_,rfl, ?_⟩;replace ρ:=sBk ρ hb;replace σ:=sBk σ hb;replace τ :=sBk τ hb;replace ω :=sBk ω hb;replace HB:=sHb hb;(try clear hb);(try clear a4);(try clear hk);(try clear hi);obtain⟨ag,ah,b5,cq,ct,cu,cv,d8,d9,da,ai,aj,b8,d1,d2,d3,d7,db,dr,dv⟩:=Zg ρ.out))
 replace ρ:=aK (Qd ρ.out)
 replace σ:=aK (Qd σ.out)
 replace τ :=aK (Qd τ.out)
 replace ω :=aK (Qd ω.out)
 replace HB:=aK (Qg HB.out)
 refine Ze (n:=26) (S:=fun w'=>w'.cell? ⟨a0,0,none⟩=some (.int .i64 B)∧w'.cell? ⟨a0,1,none⟩=some (.int .i64 J)∧w'.cell? ⟨a0,2,none⟩=some (.int .i64 O)∧w'.cell? ⟨a0,3,none⟩=some (.int .i64 X)∧w'.cell? ⟨a0,4,none⟩=some (.int .i64 Y)∧w'.cell? ⟨a0,5,none⟩=some (.int .i64 Z)∧w'.cell? ⟨a0,6,none⟩=some (.int .i64 γ)∧w'.cell? ⟨a0,7,none⟩=some (.int .i64 ζ)∧w'.cell? ⟨a0,8,none⟩=some (.int .i64 θ)∧w'.cell? ⟨a0,9,none⟩=some (.int .i64 η)∧w'.cell? ⟨a3,0,none⟩=some (.int .i64 δ)∧w'.cell? ⟨a3,1,none⟩=some (.int .i64 ε)∧w'.cell? ⟨a3,2,none⟩=some (.int .i64 ι)∧w'.cell? ⟨a3,3,none⟩=some (.int .i64 μ)∧w'.cell? ⟨a3,4,none⟩=some (.int .i64 κ)∧w'.cell? ⟨a3,5,none⟩=some (.int .i64 ν)∧w'.cell? ⟨a3,6,none⟩=some (.int .i64 ξ)∧w'.cell? ⟨a3,7,none⟩=some (.int .i64 ψ)∧w'.cell? ⟨a3,8,none⟩=some (.bool a1)∧w'.cell? ⟨a3,9,none⟩=some (.bool a2)∧w'.cell? ⟨ay,0,none⟩=some (.int .i64 a7)∧w'.cell? ⟨ay,1,none⟩=some (.int .i64 a8)∧w'.cell? ⟨ay,2,none⟩=some (.int .i64 a9)∧w'.cell? ⟨al,0,none⟩=some (.slice aa φ.length ab)∧w'.cell? ⟨al,1,none⟩=some (.slice ac χ.length ae)∧w'.cell? ⟨al,2,none⟩=some (.slice ak a6.length am)) (ds:=[]) #[false,false,false,false,false,false,false,false,false,false,false,false,false,false,false,false,false,false,false,false,false,false,false,false,false,false] kr rfl rfl ⟨(Qa ρ.out 0).trans rfl,(Qa ρ.out 1).trans rfl,(Qa ρ.out 2).trans rfl,(Qa ρ.out 3).trans rfl,(Qa ρ.out 4).trans rfl,(Qa ρ.out 5).trans rfl,(Qa ρ.out 6).trans rfl,(Qa ρ.out 7).trans rfl,(Qa ρ.out 8).trans rfl,(Qa ρ.out 9).trans rfl,(Qa σ.out 0).trans rfl,(Qa σ.out 1).trans rfl,(Qa σ.out 2).trans rfl,(Qa σ.out 3).trans rfl,(Qa σ.out 4).trans rfl,(Qa σ.out 5).trans rfl,(Qa σ.out 6).trans rfl,(Qa σ.out 7).trans rfl,(Qa σ.out 8).trans rfl,(Qa σ.out 9).trans rfl,(Qa ω.out 0).trans rfl,(Qa ω.out 1).trans rfl,(Qa ω.out 2).trans rfl,(Qa τ.out 0).trans rfl,(Qa τ.out 1).trans rfl,(Qa τ.out 2).trans rfl⟩ (fun hHeld=>?_);refine Q5 group_cost.D6 group_cost.N8 (fun HT_ HW_=>?_)
 generalize ft.drew=dx at ρ σ τ ω HB hHeld ⊢
 refine qP 0 (some 33) (bN 26 1) HT_ ?_
 refine qP 1 (some 34) (bN 26 3) HT_ ?_
 refine qP 2 (some 35) (bN 26 7) HT_ ?_
 refine qP 4 (some 37) (bN 26 23) HT_ ?_
 refine qP 11 (some 44) (bN 26 2071) HT_ ?_
 refine qP 12 (some 45) (bN 26 6167) HT_ ?_
 refine qP 15 (some 48) (bN 26 38935) HT_ ?_
 refine qP 19 (some 52) (bN 26 563223) HT_ ?_
 refine qT 3 (some 36) (bN 26 563231) HT_ HW_ hHeld ?_
 refine qT 5 (some 38) (bN 26 563263) HT_ HW_ hHeld ?_
 refine qT 6 (some 39) (bN 26 563327) HT_ HW_ hHeld ?_
 refine qT 7 (some 40) (bN 26 563455) HT_ HW_ hHeld ?_
 refine qT 13 (some 46) (bN 26 571647) HT_ HW_ hHeld ?_
 refine qP 14 (some 47) (bN 26 588031) HT_ ?_
 refine qT 16 (some 49) (bN 26 653567) HT_ HW_ hHeld ?_
 refine qP 17 (some 50) (bN 26 784639) HT_ ?_
 refine qP 18 (some 51) (bN 26 1046783) HT_ ?_
 refine qT 20 (some 53) (bN 26 2095359) HT_ HW_ hHeld ?_
 refine qP 21 (some 54) (bN 26 4192511) HT_ ?_
 refine qP 22 (some 55) (bN 26 8386815) HT_ ?_
 refine qP 23 (some 56) (bN 26 16775423) HT_ ?_
 refine Zf (i:=8) (N:=some 41) (bN 26 16775679) rfl rfl (Q3 HT_.out kr) (by decide) (fun K hK=>?_)
 refine Zd Try.func52 kr rfl #[.int .i64 B,.agg #[.int .i64 δ,.int .i64 ε,.int .i64 ι,.int .i64 μ,.int .i64 κ,.int .i64 ν,.int .i64 ξ,.int .i64 ψ,.bool a1,.bool a2],.agg #[.int .i64 a7,.int .i64 a8,.int .i64 a9]] (by rfl) rfl rfl qM ?_
 with_reducible refine(group_way.calls k B δ ε ι μ κ ν ξ ψ a1 a2 a7 a8 a9 a5 _ A6.out).mono ?_
 rintro e b2 ⟨rfl,hb⟩
 refine⟨_,rfl, ?_⟩
 replace ρ:=sBk ρ hb
 replace σ:=sBk σ hb
 replace τ :=sBk τ hb
 replace ω :=sBk ω hb
 replace HB:=sHb hb
 (try clear hb)
 (try clear a4)
 (try clear hk)
 (try clear hi)
 refine hK.out _ _ ⟨qc ρ,qc ρ,qc ρ,qc ρ,qc ρ,qc ρ,qc ρ,qc ρ,qc ρ,qc ρ,qc σ,qc σ,qc σ,qc σ,qc σ,qc σ,qc σ,qc σ,qc σ,qc σ,qc ω,qc ω,qc ω,qc τ,qc τ,qc τ⟩ (fun hHeld=>?_)
 clear hK K
 refine qN (some 41) ?_
 refine qP 9 (some 42) (bN 26 16776191) HT_ ?_
 refine qP 10 (some 43) (bN 26 16777215) HT_ ?_
 refine qP 24 (some 57) (bN 26 33554431) HT_ ?_
 refine qP 25 (some 8) (bN 26 67108863) HT_ ?_
 refine Zi (Zc HT_.out kr) ?_
 try go_wp2
 go_ret
 exact⟨rfl,HB.out⟩
end Go.Proofs.Ytmfffemidlhcpaa.C
