/- Texts of this claim, one behind the other: what the law's functions come to, walked (printed by a program, with the words that the print uses), and what that is, in plain Lean. No conditions of their own. -/
import Derived.Test.YtjehhhlhalkieaaQCallServes3
namespace Go.Proofs.Ytjehhhlhalkieaa.C
open Go.RowKit Go.Proofs.YtjehhhlhalkieaaW.PrintWords Go.Proofs.YtjehhhlhalkieaaW.PrintLast Go.Proofs.YtjehhhlhalkieaaW.PrintMore
attribute [local go_sem] Z3 Z1 Xb Xa Zt Zs Z2 Z0
set_option linter.unusedVariables false
set_option linter.unusedSimpArgs false
def newelref19_Inside.f (D:Int) (I:Int) (J:Int) (O:Int):Option (Bool):=if J≥0 then (if J<I then (if O≥0 then (some (decide (O<D))) else (some false)) else (some false)) else (some false)
set_option maxHeartbeats 8000000 in
set_option maxRecDepth 100000 in
theorem newelref19_Inside.calls (D:Int) (I:Int) (J:Int) (O:Int) (r:Bool) (w:World) (h:newelref19_Inside.f D I J O=some r):
  Calls Try.prog 39 #[.agg #[.int .i64 D,.int .i64 I],.agg #[.int .i64 J,.int .i64 O]] w fun e w'=>e = .returned (.bool r)∧Below w.heap.size w w':=by
 have et:=Try.underlying23
 have b9:=Try.underlying62
 have HB:=Aside0.mk (Below.refl w.heap.size w)
 have H:(if J≥0 then (if J<I then (if O≥0 then (some (decide (O<D))) else (some false)) else (some false)) else (some false))=some r:=h
 clear h
 by_cases c3:J≥0
 ·rw[if_pos c3] at H
  have c3b0:decide (0≤J)=true:=decide_eq_true c3
  clear c3
  by_cases c4:J<I
  ·rw[if_pos c4] at H
   have c4b0:decide (J<I)=true:=decide_eq_true c4
   clear c4
   by_cases c5:O≥0
   ·rw[if_pos c5] at H
    have c5b0:decide (0≤O)=true:=decide_eq_true c5
    clear c5
    obtain rfl:=Option.some.inj H
    go_enter Try.func39,Try.ntmps39
    go_wp2_with (first|((with_reducible refine Qs (N:=2) rfl ?_);refine Zb ?hg (N:=2) ?hd (cs:=#[.int .i64 D,.int .i64 I]) (t:=23) ?hr ?_;(case hd=>rfl);(case hg=>rfl);(case hr=>first|(go_simp;done)|(go_simp;rfl));intro B hg w6 hbox hb;have Z:=Aside0.mk (Qv (by repeat(first|(with_reducible first|exact HB.out|apply Qh|apply Qc|apply Qf)|exact HB.out)) hb);have ε :=Aside0.mk (hbox);have ι :=Aside0.mk ((by rw[hg];exact(Ql (by repeat(first|(with_reducible first|exact HB.out|apply Qh|apply Qc|apply Qf)|exact HB.out))):w.heap.size≤B));have κ :=Aside0.mk ((by rw[hg];exact(Ql (by repeat(first|(with_reducible first|exact HB.out|apply Qh|apply Qc|apply Qf)|exact HB.out))):w.heap.size≤B));clear HB;have HB:=Z;have L:= ε;have η := ι;have U:= κ;clear Z ε ι κ;clear hb hbox hg)|((with_reducible refine Qs (N:=3) rfl ?_);refine Zb ?hg (N:=3) ?hd (cs:=#[.int .i64 J,.int .i64 O]) (t:=62) ?hr ?_;(case hd=>rfl);(case hg=>rfl);(case hr=>first|(go_simp;done)|(go_simp;rfl));intro X hg w7 hbox hb;have Z:=Aside0.mk (Qn (g:=B) (o:=.cells #[.int .i64 D,.int .i64 I] 23 (0,0)) (by(with_reducible repeat first|apply Qe|apply Qa|apply Qb);exact L.out) hb);have ε :=Aside0.mk (Qv (by repeat(first|(with_reducible first|exact HB.out|apply Qh|apply Qc|apply Qf|refine Qd ?_ U.out)|exact HB.out)) hb);have ι :=Aside0.mk (hbox);have κ :=Aside0.mk ((by rw[hg];exact(Ql (by repeat(first|(with_reducible first|exact HB.out|apply Qh|apply Qc|apply Qf|refine Qd ?_ U.out)|exact HB.out))):w.heap.size≤X));have χ :=Aside0.mk ((by rw[hg];exact(Ql (by repeat(first|(with_reducible first|exact HB.out|apply Qh|apply Qc|apply Qf|refine Qd ?_ U.out)|exact HB.out))):w.heap.size≤X));have ω :=Aside0.mk ((by rw[hg];exact Nat.ne_of_lt (Q5 (g:=B) (o:=.cells #[.int .i64 D,.int .i64 I] 23 (0,0)) (by(with_reducible repeat first|apply Qe|apply Qa|apply Qb);exact L.out)):B≠X));have a1:=Aside0.mk ((by rw[hg];exact Nat.ne_of_gt (Q5 (g:=B) (o:=.cells #[.int .i64 D,.int .i64 I] 23 (0,0)) (by(with_reducible repeat first|apply Qe|apply Qa|apply Qb);exact L.out)):X≠B));clear L;clear HB;have L:=Z;have HB:= ε;have δ := ι;have θ := κ;have ζ := χ;have Y:= ω;have γ:=a1;clear Z ε ι κ χ ω a1;clear hb hbox hg;have di:=γ.out;have dj:=Y.out;obtain⟨bd,be,bf,bg⟩:=qD2 δ.out;obtain⟨ax,ba,bb,bc⟩:=qD2 L.out))
    go_ret
    exact⟨by first|rfl|(simp[Qz,Qy] <;> rfl)|(simp[*,Qz,Qy] <;> rfl),by repeat(first|(with_reducible first|exact HB.out|apply Qh|apply Qc|apply Qf|refine Qd ?_ U.out|refine Qd ?_ ζ.out)|exact HB.out)⟩
   ·rw[if_neg c5] at H
    have c5b0:decide (0≤O)=false:=decide_eq_false c5
    clear c5
    obtain rfl:=Option.some.inj H
    go_enter Try.func39,Try.ntmps39
    go_wp2_with (first|((with_reducible refine Qs (N:=2) rfl ?_);refine Zb ?hg (N:=2) ?hd (cs:=#[.int .i64 D,.int .i64 I]) (t:=23) ?hr ?_;(case hd=>rfl);(case hg=>rfl);(case hr=>first|(go_simp;done)|(go_simp;rfl));intro B hg d6 hbox hb;have Z:=Aside0.mk (Qv (by repeat(first|(with_reducible first|exact HB.out|apply Qh|apply Qc|apply Qf)|exact HB.out)) hb);have ε :=Aside0.mk (hbox);have ι :=Aside0.mk ((by rw[hg];exact(Ql (by repeat(first|(with_reducible first|exact HB.out|apply Qh|apply Qc|apply Qf)|exact HB.out))):w.heap.size≤B));have κ :=Aside0.mk ((by rw[hg];exact(Ql (by repeat(first|(with_reducible first|exact HB.out|apply Qh|apply Qc|apply Qf)|exact HB.out))):w.heap.size≤B));clear HB;have HB:=Z;have L:= ε;have η := ι;have U:= κ;clear Z ε ι κ;clear hb hbox hg)|((with_reducible refine Qs (N:=3) rfl ?_);refine Zb ?hg (N:=3) ?hd (cs:=#[.int .i64 J,.int .i64 O]) (t:=62) ?hr ?_;(case hd=>rfl);(case hg=>rfl);(case hr=>first|(go_simp;done)|(go_simp;rfl));intro X hg d5 hbox hb;have Z:=Aside0.mk (Qn (g:=B) (o:=.cells #[.int .i64 D,.int .i64 I] 23 (0,0)) (by(with_reducible repeat first|apply Qe|apply Qa|apply Qb);exact L.out) hb);have ε :=Aside0.mk (Qv (by repeat(first|(with_reducible first|exact HB.out|apply Qh|apply Qc|apply Qf|refine Qd ?_ U.out)|exact HB.out)) hb);have ι :=Aside0.mk (hbox);have κ :=Aside0.mk ((by rw[hg];exact(Ql (by repeat(first|(with_reducible first|exact HB.out|apply Qh|apply Qc|apply Qf|refine Qd ?_ U.out)|exact HB.out))):w.heap.size≤X));have χ :=Aside0.mk ((by rw[hg];exact(Ql (by repeat(first|(with_reducible first|exact HB.out|apply Qh|apply Qc|apply Qf|refine Qd ?_ U.out)|exact HB.out))):w.heap.size≤X));have ω :=Aside0.mk ((by rw[hg];exact Nat.ne_of_lt (Q5 (g:=B) (o:=.cells #[.int .i64 D,.int .i64 I] 23 (0,0)) (by(with_reducible repeat first|apply Qe|apply Qa|apply Qb);exact L.out)):B≠X));have a1:=Aside0.mk ((by rw[hg];exact Nat.ne_of_gt (Q5 (g:=B) (o:=.cells #[.int .i64 D,.int .i64 I] 23 (0,0)) (by(with_reducible repeat first|apply Qe|apply Qa|apply Qb);exact L.out)):X≠B));clear L;clear HB;have L:=Z;have HB:= ε;have δ := ι;have θ := κ;have ζ := χ;have Y:= ω;have γ:=a1;clear Z ε ι κ χ ω a1;clear hb hbox hg;have d3:=γ.out;have d4:=Y.out;obtain⟨am,an,ao,ap⟩:=qD2 δ.out;obtain⟨b3,b4,bu,bz⟩:=qD2 L.out))
    go_ret
    exact⟨by first|rfl|(simp[Qz,Qy] <;> rfl)|(simp[*,Qz,Qy] <;> rfl),by repeat(first|(with_reducible first|exact HB.out|apply Qh|apply Qc|apply Qf|refine Qd ?_ U.out|refine Qd ?_ ζ.out)|exact HB.out)⟩
  ·rw[if_neg c4] at H
   have c4b0:decide (J<I)=false:=decide_eq_false c4
   clear c4
   obtain rfl:=Option.some.inj H
   go_enter Try.func39,Try.ntmps39
   go_wp2_with (first|((with_reducible refine Qs (N:=2) rfl ?_);refine Zb ?hg (N:=2) ?hd (cs:=#[.int .i64 D,.int .i64 I]) (t:=23) ?hr ?_;(case hd=>rfl);(case hg=>rfl);(case hr=>first|(go_simp;done)|(go_simp;rfl));intro B hg b1 hbox hb;have Z:=Aside0.mk (Qv (by repeat(first|(with_reducible first|exact HB.out|apply Qh|apply Qc|apply Qf)|exact HB.out)) hb);have ε :=Aside0.mk (hbox);have ι :=Aside0.mk ((by rw[hg];exact(Ql (by repeat(first|(with_reducible first|exact HB.out|apply Qh|apply Qc|apply Qf)|exact HB.out))):w.heap.size≤B));have κ :=Aside0.mk ((by rw[hg];exact(Ql (by repeat(first|(with_reducible first|exact HB.out|apply Qh|apply Qc|apply Qf)|exact HB.out))):w.heap.size≤B));clear HB;have HB:=Z;have L:= ε;have η := ι;have U:= κ;clear Z ε ι κ;clear hb hbox hg)|((with_reducible refine Qs (N:=3) rfl ?_);refine Zb ?hg (N:=3) ?hd (cs:=#[.int .i64 J,.int .i64 O]) (t:=62) ?hr ?_;(case hd=>rfl);(case hg=>rfl);(case hr=>first|(go_simp;done)|(go_simp;rfl));intro X hg gm hbox hb;have Z:=Aside0.mk (Qn (g:=B) (o:=.cells #[.int .i64 D,.int .i64 I] 23 (0,0)) (by(with_reducible repeat first|apply Qe|apply Qa|apply Qb);exact L.out) hb);have ε :=Aside0.mk (Qv (by repeat(first|(with_reducible first|exact HB.out|apply Qh|apply Qc|apply Qf|refine Qd ?_ U.out)|exact HB.out)) hb);have ι :=Aside0.mk (hbox);have κ :=Aside0.mk ((by rw[hg];exact(Ql (by repeat(first|(with_reducible first|exact HB.out|apply Qh|apply Qc|apply Qf|refine Qd ?_ U.out)|exact HB.out))):w.heap.size≤X));have χ :=Aside0.mk ((by rw[hg];exact(Ql (by repeat(first|(with_reducible first|exact HB.out|apply Qh|apply Qc|apply Qf|refine Qd ?_ U.out)|exact HB.out))):w.heap.size≤X));have ω :=Aside0.mk ((by rw[hg];exact Nat.ne_of_lt (Q5 (g:=B) (o:=.cells #[.int .i64 D,.int .i64 I] 23 (0,0)) (by(with_reducible repeat first|apply Qe|apply Qa|apply Qb);exact L.out)):B≠X));have a1:=Aside0.mk ((by rw[hg];exact Nat.ne_of_gt (Q5 (g:=B) (o:=.cells #[.int .i64 D,.int .i64 I] 23 (0,0)) (by(with_reducible repeat first|apply Qe|apply Qa|apply Qb);exact L.out)):X≠B));clear L;clear HB;have L:=Z;have HB:= ε;have δ := ι;have θ := κ;have ζ := χ;have Y:= ω;have γ:=a1;clear Z ε ι κ χ ω a1;clear hb hbox hg;have ct:=γ.out;have cu:=Y.out;obtain⟨b5,b6,b7,b8⟩:=qD2 δ.out;obtain⟨bh,bi,bn,bo⟩:=qD2 L.out))
   go_ret
   exact⟨by first|rfl|(simp[Qz,Qy] <;> rfl)|(simp[*,Qz,Qy] <;> rfl),by repeat(first|(with_reducible first|exact HB.out|apply Qh|apply Qc|apply Qf|refine Qd ?_ U.out|refine Qd ?_ ζ.out)|exact HB.out)⟩
 ·rw[if_neg c3] at H
  have c3b0:decide (0≤J)=false:=decide_eq_false c3
  clear c3
  obtain rfl:=Option.some.inj H
  go_enter Try.func39,Try.ntmps39
  go_wp2_with (first|((with_reducible refine Qs (N:=2) rfl ?_);refine Zb ?hg (N:=2) ?hd (cs:=#[.int .i64 D,.int .i64 I]) (t:=23) ?hr ?_;(case hd=>rfl);(case hg=>rfl);(case hr=>first|(go_simp;done)|(go_simp;rfl));intro B hg d1 hbox hb;have Z:=Aside0.mk (Qv (by repeat(first|(with_reducible first|exact HB.out|apply Qh|apply Qc|apply Qf)|exact HB.out)) hb);have ε :=Aside0.mk (hbox);have ι :=Aside0.mk ((by rw[hg];exact(Ql (by repeat(first|(with_reducible first|exact HB.out|apply Qh|apply Qc|apply Qf)|exact HB.out))):w.heap.size≤B));have κ :=Aside0.mk ((by rw[hg];exact(Ql (by repeat(first|(with_reducible first|exact HB.out|apply Qh|apply Qc|apply Qf)|exact HB.out))):w.heap.size≤B));clear HB;have HB:=Z;have L:= ε;have η := ι;have U:= κ;clear Z ε ι κ;clear hb hbox hg)|((with_reducible refine Qs (N:=3) rfl ?_);refine Zb ?hg (N:=3) ?hd (cs:=#[.int .i64 J,.int .i64 O]) (t:=62) ?hr ?_;(case hd=>rfl);(case hg=>rfl);(case hr=>first|(go_simp;done)|(go_simp;rfl));intro X hg fc hbox hb;have Z:=Aside0.mk (Qn (g:=B) (o:=.cells #[.int .i64 D,.int .i64 I] 23 (0,0)) (by(with_reducible repeat first|apply Qe|apply Qa|apply Qb);exact L.out) hb);have ε :=Aside0.mk (Qv (by repeat(first|(with_reducible first|exact HB.out|apply Qh|apply Qc|apply Qf|refine Qd ?_ U.out)|exact HB.out)) hb);have ι :=Aside0.mk (hbox);have κ :=Aside0.mk ((by rw[hg];exact(Ql (by repeat(first|(with_reducible first|exact HB.out|apply Qh|apply Qc|apply Qf|refine Qd ?_ U.out)|exact HB.out))):w.heap.size≤X));have χ :=Aside0.mk ((by rw[hg];exact(Ql (by repeat(first|(with_reducible first|exact HB.out|apply Qh|apply Qc|apply Qf|refine Qd ?_ U.out)|exact HB.out))):w.heap.size≤X));have ω :=Aside0.mk ((by rw[hg];exact Nat.ne_of_lt (Q5 (g:=B) (o:=.cells #[.int .i64 D,.int .i64 I] 23 (0,0)) (by(with_reducible repeat first|apply Qe|apply Qa|apply Qb);exact L.out)):B≠X));have a1:=Aside0.mk ((by rw[hg];exact Nat.ne_of_gt (Q5 (g:=B) (o:=.cells #[.int .i64 D,.int .i64 I] 23 (0,0)) (by(with_reducible repeat first|apply Qe|apply Qa|apply Qb);exact L.out)):X≠B));clear L;clear HB;have L:=Z;have HB:= ε;have δ := ι;have θ := κ;have ζ := χ;have Y:= ω;have γ:=a1;clear Z ε ι κ χ ω a1;clear hb hbox hg;have dk:=γ.out;have dm:=Y.out;obtain⟨ci,ck,cm,cn⟩:=qD2 δ.out))
  go_ret
  exact⟨by first|rfl|(simp[Qz,Qy] <;> rfl)|(simp[*,Qz,Qy] <;> rfl),by repeat(first|(with_reducible first|exact HB.out|apply Qh|apply Qc|apply Qf|refine Qd ?_ U.out|refine Qd ?_ ζ.out)|exact HB.out)⟩
def newelref19_before.f (D:Int) (I:Int) (J:Int) (O:Int):Option (Bool):=if D<J then (some true) else (if D=J then (some (decide (I<O))) else (some false))
set_option maxHeartbeats 8000000 in
set_option maxRecDepth 100000 in
theorem newelref19_before.calls (D:Int) (I:Int) (J:Int) (O:Int) (r:Bool) (w:World) (h:newelref19_before.f D I J O=some r):
  Calls Try.prog 40 #[.agg #[.int .i64 D,.int .i64 I],.agg #[.int .i64 J,.int .i64 O]] w fun e w'=>e = .returned (.bool r)∧Below w.heap.size w w':=by
 have b9:=Try.underlying62
 have HB:=Aside0.mk (Below.refl w.heap.size w)
 have H:(if D<J then (some true) else (if D=J then (some (decide (I<O))) else (some false)))=some r:=h
 clear h
 by_cases c3:D<J
 ·rw[if_pos c3] at H
  have c3b0:decide (D<J)=true:=decide_eq_true c3
  clear c3
  obtain rfl:=Option.some.inj H
  go_enter Try.func40,Try.ntmps40
  go_wp2_with (first|((with_reducible refine Qs (N:=2) rfl ?_);refine Zb ?hg (N:=2) ?hd (cs:=#[.int .i64 D,.int .i64 I]) (t:=62) ?hr ?_;(case hd=>rfl);(case hg=>rfl);(case hr=>first|(go_simp;done)|(go_simp;rfl));intro B hg w4 hbox hb;have Z:=Aside0.mk (Qv (by repeat(first|(with_reducible first|exact HB.out|apply Qh|apply Qc|apply Qf)|exact HB.out)) hb);have ε :=Aside0.mk (hbox);have ι :=Aside0.mk ((by rw[hg];exact(Ql (by repeat(first|(with_reducible first|exact HB.out|apply Qh|apply Qc|apply Qf)|exact HB.out))):w.heap.size≤B));have κ :=Aside0.mk ((by rw[hg];exact(Ql (by repeat(first|(with_reducible first|exact HB.out|apply Qh|apply Qc|apply Qf)|exact HB.out))):w.heap.size≤B));clear HB;have HB:=Z;have L:= ε;have η := ι;have U:= κ;clear Z ε ι κ;clear hb hbox hg)|((with_reducible refine Qs (N:=3) rfl ?_);refine Zb ?hg (N:=3) ?hd (cs:=#[.int .i64 J,.int .i64 O]) (t:=62) ?hr ?_;(case hd=>rfl);(case hg=>rfl);(case hr=>first|(go_simp;done)|(go_simp;rfl));intro X hg w5 hbox hb;have Z:=Aside0.mk (Qn (g:=B) (o:=.cells #[.int .i64 D,.int .i64 I] 62 (0,0)) (by(with_reducible repeat first|apply Qe|apply Qa|apply Qb);exact L.out) hb);have ε :=Aside0.mk (Qv (by repeat(first|(with_reducible first|exact HB.out|apply Qh|apply Qc|apply Qf|refine Qd ?_ U.out)|exact HB.out)) hb);have ι :=Aside0.mk (hbox);have κ :=Aside0.mk ((by rw[hg];exact(Ql (by repeat(first|(with_reducible first|exact HB.out|apply Qh|apply Qc|apply Qf|refine Qd ?_ U.out)|exact HB.out))):w.heap.size≤X));have χ :=Aside0.mk ((by rw[hg];exact(Ql (by repeat(first|(with_reducible first|exact HB.out|apply Qh|apply Qc|apply Qf|refine Qd ?_ U.out)|exact HB.out))):w.heap.size≤X));have ω :=Aside0.mk ((by rw[hg];exact Nat.ne_of_lt (Q5 (g:=B) (o:=.cells #[.int .i64 D,.int .i64 I] 62 (0,0)) (by(with_reducible repeat first|apply Qe|apply Qa|apply Qb);exact L.out)):B≠X));have a1:=Aside0.mk ((by rw[hg];exact Nat.ne_of_gt (Q5 (g:=B) (o:=.cells #[.int .i64 D,.int .i64 I] 62 (0,0)) (by(with_reducible repeat first|apply Qe|apply Qa|apply Qb);exact L.out)):X≠B));clear L;clear HB;have L:=Z;have HB:= ε;have δ := ι;have θ := κ;have ζ := χ;have Y:= ω;have γ:=a1;clear Z ε ι κ χ ω a1;clear hb hbox hg;have gx:=Y.out;have hy:=γ.out;obtain⟨ξ,ρ,σ,τ⟩:=qD2 L.out;obtain⟨ar,au,av,aw⟩:=qD2 δ.out))
  go_ret
  exact⟨by first|rfl|(simp[Qz,Qy] <;> rfl)|(simp[*,Qz,Qy] <;> rfl),by repeat(first|(with_reducible first|exact HB.out|apply Qh|apply Qc|apply Qf|refine Qd ?_ U.out|refine Qd ?_ ζ.out)|exact HB.out)⟩
 ·rw[if_neg c3] at H
  have c3b0:decide (D<J)=false:=decide_eq_false c3
  clear c3
  by_cases c9:D=J
  ·rw[if_pos c9] at H
   have c9b0:(D==J)=true:=beq_iff_eq.mpr c9
   have c9b1:(D != J)=false:=bne_eq_false_iff_eq.mpr c9
   clear c9
   obtain rfl:=Option.some.inj H
   go_enter Try.func40,Try.ntmps40
   go_wp2_with (first|((with_reducible refine Qs (N:=2) rfl ?_);refine Zb ?hg (N:=2) ?hd (cs:=#[.int .i64 D,.int .i64 I]) (t:=62) ?hr ?_;(case hd=>rfl);(case hg=>rfl);(case hr=>first|(go_simp;done)|(go_simp;rfl));intro B hg e4 hbox hb;have Z:=Aside0.mk (Qv (by repeat(first|(with_reducible first|exact HB.out|apply Qh|apply Qc|apply Qf)|exact HB.out)) hb);have ε :=Aside0.mk (hbox);have ι :=Aside0.mk ((by rw[hg];exact(Ql (by repeat(first|(with_reducible first|exact HB.out|apply Qh|apply Qc|apply Qf)|exact HB.out))):w.heap.size≤B));have κ :=Aside0.mk ((by rw[hg];exact(Ql (by repeat(first|(with_reducible first|exact HB.out|apply Qh|apply Qc|apply Qf)|exact HB.out))):w.heap.size≤B));clear HB;have HB:=Z;have L:= ε;have η := ι;have U:= κ;clear Z ε ι κ;clear hb hbox hg)|((with_reducible refine Qs (N:=3) rfl ?_);refine Zb ?hg (N:=3) ?hd (cs:=#[.int .i64 J,.int .i64 O]) (t:=62) ?hr ?_;(case hd=>rfl);(case hg=>rfl);(case hr=>first|(go_simp;done)|(go_simp;rfl));intro X hg d6 hbox hb;have Z:=Aside0.mk (Qn (g:=B) (o:=.cells #[.int .i64 D,.int .i64 I] 62 (0,0)) (by(with_reducible repeat first|apply Qe|apply Qa|apply Qb);exact L.out) hb);have ε :=Aside0.mk (Qv (by repeat(first|(with_reducible first|exact HB.out|apply Qh|apply Qc|apply Qf|refine Qd ?_ U.out)|exact HB.out)) hb);have ι :=Aside0.mk (hbox);have κ :=Aside0.mk ((by rw[hg];exact(Ql (by repeat(first|(with_reducible first|exact HB.out|apply Qh|apply Qc|apply Qf|refine Qd ?_ U.out)|exact HB.out))):w.heap.size≤X));have χ :=Aside0.mk ((by rw[hg];exact(Ql (by repeat(first|(with_reducible first|exact HB.out|apply Qh|apply Qc|apply Qf|refine Qd ?_ U.out)|exact HB.out))):w.heap.size≤X));have ω :=Aside0.mk ((by rw[hg];exact Nat.ne_of_lt (Q5 (g:=B) (o:=.cells #[.int .i64 D,.int .i64 I] 62 (0,0)) (by(with_reducible repeat first|apply Qe|apply Qa|apply Qb);exact L.out)):B≠X));have a1:=Aside0.mk ((by rw[hg];exact Nat.ne_of_gt (Q5 (g:=B) (o:=.cells #[.int .i64 D,.int .i64 I] 62 (0,0)) (by(with_reducible repeat first|apply Qe|apply Qa|apply Qb);exact L.out)):X≠B));clear L;clear HB;have L:=Z;have HB:= ε;have δ := ι;have θ := κ;have ζ := χ;have Y:= ω;have γ:=a1;clear Z ε ι κ χ ω a1;clear hb hbox hg;have eb:=Y.out;have eu:=γ.out;obtain⟨d2,d3,d4,d5⟩:=qD2 L.out;obtain⟨am,an,ao,ap⟩:=qD2 δ.out))
   go_ret
   exact⟨by first|rfl|(simp[Qz,Qy] <;> rfl)|(simp[*,Qz,Qy] <;> rfl),by repeat(first|(with_reducible first|exact HB.out|apply Qh|apply Qc|apply Qf|refine Qd ?_ U.out|refine Qd ?_ ζ.out)|exact HB.out)⟩
  ·rw[if_neg c9] at H
   have c9b0:(D==J)=false:=beq_eq_false_iff_ne.mpr c9
   have c9b1:(D != J)=true:=bne_iff_ne.mpr c9
   obtain rfl:=Option.some.inj H
   go_enter Try.func40,Try.ntmps40
   go_wp2_with (first|((with_reducible refine Qs (N:=2) rfl ?_);refine Zb ?hg (N:=2) ?hd (cs:=#[.int .i64 D,.int .i64 I]) (t:=62) ?hr ?_;(case hd=>rfl);(case hg=>rfl);(case hr=>first|(go_simp;done)|(go_simp;rfl));intro B hg jc hbox hb;have Z:=Aside0.mk (Qv (by repeat(first|(with_reducible first|exact HB.out|apply Qh|apply Qc|apply Qf)|exact HB.out)) hb);have ε :=Aside0.mk (hbox);have ι :=Aside0.mk ((by rw[hg];exact(Ql (by repeat(first|(with_reducible first|exact HB.out|apply Qh|apply Qc|apply Qf)|exact HB.out))):w.heap.size≤B));have κ :=Aside0.mk ((by rw[hg];exact(Ql (by repeat(first|(with_reducible first|exact HB.out|apply Qh|apply Qc|apply Qf)|exact HB.out))):w.heap.size≤B));clear HB;have HB:=Z;have L:= ε;have η := ι;have U:= κ;clear Z ε ι κ;clear hb hbox hg)|((with_reducible refine Qs (N:=3) rfl ?_);refine Zb ?hg (N:=3) ?hd (cs:=#[.int .i64 J,.int .i64 O]) (t:=62) ?hr ?_;(case hd=>rfl);(case hg=>rfl);(case hr=>first|(go_simp;done)|(go_simp;rfl));intro X hg b1 hbox hb;have Z:=Aside0.mk (Qn (g:=B) (o:=.cells #[.int .i64 D,.int .i64 I] 62 (0,0)) (by(with_reducible repeat first|apply Qe|apply Qa|apply Qb);exact L.out) hb);have ε :=Aside0.mk (Qv (by repeat(first|(with_reducible first|exact HB.out|apply Qh|apply Qc|apply Qf|refine Qd ?_ U.out)|exact HB.out)) hb);have ι :=Aside0.mk (hbox);have κ :=Aside0.mk ((by rw[hg];exact(Ql (by repeat(first|(with_reducible first|exact HB.out|apply Qh|apply Qc|apply Qf|refine Qd ?_ U.out)|exact HB.out))):w.heap.size≤X));have χ :=Aside0.mk ((by rw[hg];exact(Ql (by repeat(first|(with_reducible first|exact HB.out|apply Qh|apply Qc|apply Qf|refine Qd ?_ U.out)|exact HB.out))):w.heap.size≤X));have ω :=Aside0.mk ((by rw[hg];exact Nat.ne_of_lt (Q5 (g:=B) (o:=.cells #[.int .i64 D,.int .i64 I] 62 (0,0)) (by(with_reducible repeat first|apply Qe|apply Qa|apply Qb);exact L.out)):B≠X));have a1:=Aside0.mk ((by rw[hg];exact Nat.ne_of_gt (Q5 (g:=B) (o:=.cells #[.int .i64 D,.int .i64 I] 62 (0,0)) (by(with_reducible repeat first|apply Qe|apply Qa|apply Qb);exact L.out)):X≠B));clear L;clear HB;have L:=Z;have HB:= ε;have δ := ι;have θ := κ;have ζ := χ;have Y:= ω;have γ:=a1;clear Z ε ι κ χ ω a1;clear hb hbox hg;have gq:=Y.out;have gr:=γ.out;obtain⟨ej,ek,el,em⟩:=qD2 L.out;obtain⟨b5,b6,b7,b8⟩:=qD2 δ.out))
   go_ret
   exact⟨by first|rfl|(simp[Qz,Qy] <;> rfl)|(simp[*,Qz,Qy] <;> rfl),by repeat(first|(with_reducible first|exact HB.out|apply Qh|apply Qc|apply Qf|refine Qd ?_ U.out|refine Qd ?_ ζ.out)|exact HB.out)⟩
mutual
def newelref19_May.l0:Nat→Int→Int→Int→List (S56)→List (S62)→Option (Bool)
 |0,_,_,_,_,_=>none
 |k+1,J,I,O,B,D=>if J<(B.length:Int) then (if 0≤J then ((newelref19_Hall.f k I O ((Qg B J).f0) ((Qg B J).f1) ((Qg B J).f2)).bind fun co=>(if co=true then (if J>0 then (if 0≤(wrap64 (J-1)) then (if (wrap64 (J-1))<(B.length:Int) then ((newelref19_ahead.f ((Qg B (wrap64 (J-1))).f0) ((Qg B (wrap64 (J-1))).f1) ((Qg B (wrap64 (J-1))).f2) ((Qg B J).f0) ((Qg B J).f1) ((Qg B J).f2)).bind fun bh=>(if bh=true then (newelref19_May.l0 k (wrap64 (J+1)) I O B D) else (some false))) else (none)) else (none)) else (newelref19_May.l0 k (wrap64 (J+1)) I O B D)) else (some false))) else (none)) else (newelref19_May.l1 k 0 I O B D)
def newelref19_May.l1:Nat→Int→Int→Int→List (S56)→List (S62)→Option (Bool)
 |0,_,_,_,_,_=>none
 |k+1,L,I,O,B,D=>if L<(D.length:Int) then (if 0≤L then ((newelref19_Inside.f I O ((Qo D L).f0) ((Qo D L).f1)).bind fun cw=>(if cw=true then (if L>0 then (if 0≤(wrap64 (L-1)) then (if (wrap64 (L-1))<(D.length:Int) then ((newelref19_before.f ((Qo D (wrap64 (L-1))).f0) ((Qo D (wrap64 (L-1))).f1) ((Qo D L).f0) ((Qo D L).f1)).bind fun bi=>(if bi=true then (newelref19_May.l1 k (wrap64 (L+1)) I O B D) else (some false))) else (none)) else (none)) else (newelref19_May.l1 k (wrap64 (L+1)) I O B D)) else (some false))) else (none)) else (some true)
end
def newelref19_May.f (k:Nat) (D:Int) (I:Int) (B:List (S56)) (J:List (S62)):Option (Bool):=(newelref19_House.f D I).bind fun cm=>(if cm=true then (newelref19_May.l0 k 0 D I B J) else (some false))
theorem newelref19_May.Zk:∀ k,(∀ J L O D U,LeO (newelref19_May.l0 k J L O D U) (newelref19_May.l0 (k+1) J L O D U))∧(∀ J L O D U,LeO (newelref19_May.l1 k J L O D U) (newelref19_May.l1 (k+1) J L O D U))
 |0=>⟨fun _ _ _ _ _ r h=>by simp[newelref19_May.l0] at h,fun _ _ _ _ _ r h=>by simp[newelref19_May.l1] at h⟩
 |k+1=>by
  obtain⟨B,I⟩:=newelref19_May.Zk k
  refine⟨?_, ?_⟩
  ·intro J L O D U
   unfold newelref19_May.l0
   repeat' first
   |(with_reducible exact B _ _ _ _ _)
   |(with_reducible exact I _ _ _ _ _)
   |(with_reducible exact newelref19_Hall.mono _ _ _ _ _ _)
   |(with_reducible exact LeO.refl _)
   |(with_reducible exact LeO.none _)
   |(with_reducible refine LeO.ite ?_ ?_)
   |(with_reducible refine LeO.bind ?_ (fun _=>?_))
   |exact B _ _ _ _ _
   |exact I _ _ _ _ _
   |exact newelref19_Hall.mono _ _ _ _ _ _
   |exact LeO.none _
   |refine LeO.ite ?_ ?_
   |refine LeO.bind ?_ (fun _=>?_)
  ·intro J L O D U
   unfold newelref19_May.l1
   repeat' first
   |(with_reducible exact B _ _ _ _ _)
   |(with_reducible exact I _ _ _ _ _)
   |(with_reducible exact newelref19_Hall.mono _ _ _ _ _ _)
   |(with_reducible exact LeO.refl _)
   |(with_reducible exact LeO.none _)
   |(with_reducible refine LeO.ite ?_ ?_)
   |(with_reducible refine LeO.bind ?_ (fun _=>?_))
   |exact B _ _ _ _ _
   |exact I _ _ _ _ _
   |exact newelref19_Hall.mono _ _ _ _ _ _
   |exact LeO.none _
   |refine LeO.ite ?_ ?_
   |refine LeO.bind ?_ (fun _=>?_)
theorem newelref19_May.mono:∀ D J a2 X k,LeO (newelref19_May.f k D J a2 X) (newelref19_May.f (k+1) D J a2 X):=by
 intro D J a2 X k
 obtain⟨B,I⟩:=newelref19_May.Zk k
 unfold newelref19_May.f
 repeat' first
   |(with_reducible exact B _ _ _ _ _)
   |(with_reducible exact I _ _ _ _ _)
   |(with_reducible exact newelref19_Hall.mono _ _ _ _ _ _)
   |(with_reducible exact LeO.refl _)
   |(with_reducible exact LeO.none _)
   |(with_reducible refine LeO.ite ?_ ?_)
   |(with_reducible refine LeO.bind ?_ (fun _=>?_))
   |exact B _ _ _ _ _
   |exact I _ _ _ _ _
   |exact newelref19_Hall.mono _ _ _ _ _ _
   |exact LeO.none _
   |refine LeO.ite ?_ ?_
   |refine LeO.bind ?_ (fun _=>?_)
def newelref19_May.T7:Bool×List (List Nat×List Nat):=(true,[([],[]),([],[]),([1],[1]),([],[]),([2,3],[2,3]),([4],[4]),([0,5],[0,5]),([6,6,0,1,2,3,4,5,6],[6])])
def newelref19_May.B7:List Nat:=[0,0,2,0,14,30,63,127]
theorem newelref19_May.Mx:rtab .any (opsOf Try.f13 7)=newelref19_May.T7:=by kernel_rfl
theorem newelref19_May.Ws:Zp newelref19_May.T7.2 newelref19_May.B7=true:=by kernel_rfl
def newelref19_May.T11:Bool×List (List Nat×List Nat):=(true,[([],[]),([0],[0]),([],[]),([2],[2]),([1,3],[1,3]),([4],[4]),([],[]),([6],[6]),([],[]),([7,8],[7,8]),([9],[9]),([5,10],[5,10]),([11,11,0,1,2,3,4,5,6,7,8,9,10,11],[11])])
def newelref19_May.B11:List Nat:=[0,1,0,4,15,31,0,64,0,448,960,2047,4095]
theorem newelref19_May.V5:rtab .any (opsOf Try.f13 11)=newelref19_May.T11:=by kernel_rfl
theorem newelref19_May.G2:Zp newelref19_May.T11.2 newelref19_May.B11=true:=by kernel_rfl
def newelref19_May.T17:Bool×List (List Nat×List Nat):=(true,[([],[]),([],[]),([1],[1]),([],[]),([2,3],[2,3]),([4],[4]),([0,5],[0,5]),([6,6,0,1,2,3,4,5,6],[6])])
def newelref19_May.B17:List Nat:=[0,0,2,0,14,30,63,127]
theorem newelref19_May.Wm:rtab .any (opsOf Try.f13 17)=newelref19_May.T17:=by kernel_rfl
theorem newelref19_May.V2:Zp newelref19_May.T17.2 newelref19_May.B17=true:=by kernel_rfl
def newelref19_May.T21:Bool×List (List Nat×List Nat):=(true,[([],[]),([0],[0]),([],[]),([2],[2]),([1,3],[1,3]),([4],[4]),([],[]),([6],[6]),([],[]),([7,8],[7,8]),([9],[9]),([5,10],[5,10]),([11,11,0,1,2,3,4,5,6,7,8,9,10,11],[11])])
def newelref19_May.B21:List Nat:=[0,1,0,4,15,31,0,64,0,448,960,2047,4095]
theorem newelref19_May.Nk:rtab .any (opsOf Try.f13 21)=newelref19_May.T21:=by kernel_rfl
theorem newelref19_May.Mj:Zp newelref19_May.T21.2 newelref19_May.B21=true:=by kernel_rfl
set_option maxHeartbeats 8000000 in
set_option maxRecDepth 100000 in
theorem newelref19_May.calls (k:Nat) (D:Int) (I:Int) (ζ :Option Addr) (γ:Nat) (B:List (S56)) (η :Option Addr) (δ :Nat) (J:List (S62)) (r:Bool) (w:World) (bj:Kd.C k56 w ζ B.length B) (bk:B.length≤γ) (bl:Kd.C k62 w η J.length J) (bm:J.length ≤ δ) (h:newelref19_May.f k D I B J=some r):
  Calls Try.prog 13 #[.agg #[.int .i64 D,.int .i64 I],.agg #[.slice ζ B.length γ,.slice η J.length δ]] w fun e w'=>e = .returned (.bool r)∧Below w.heap.size w w':=by
 have et:=Try.underlying23
 have eh:=Try.underlying27
 have b2:=Try.underlying56
 have b9:=Try.underlying62
 have ai:=Aside0.mk bj
 have ay:=Aside0.mk bk
 clear bj bk
 have ak:=Aside0.mk bl
 have az:=Aside0.mk bm
 clear bl bm
 have HB:=Aside0.mk (Below.refl w.heap.size w)
 have H:((newelref19_House.f D I).bind fun cm=>(if cm=true then (newelref19_May.l0 k 0 D I B J) else (some false)))=some r:=h
 clear h
 replace H:=Option.bind_eq_some_iff.mp H
 obtain⟨cm,ae,H⟩:=H
 replace H:(if cm=true then (newelref19_May.l0 k 0 D I B J) else (some false))=some r:=H
 have A3:=Aside0.mk ae
 clear ae
 by_cases c4:cm=true
 ·subst c4
  have H1:(newelref19_May.l0 k 0 D I B J)=some r:=by rw[if_pos rfl] at H;exact H
  clear H
  have H:=H1
  clear H1
  have H':=Aside0.mk H
  clear H
  go_enter Try.func13,Try.ntmps13
  go_wp2_with (first|((with_reducible refine Qs (N:=2) rfl ?_);refine qE 2 #[.int .i64 D,.int .i64 I] 23 ?_;intro a2 hg w5 hbox hb;have U:=Aside0.mk hbox;have du:=sGe hg;have dy:=sGe hg;replace HB:=sHb hb;clear hb hbox hg)|((with_reducible refine Qs (N:=3) rfl ?_);refine qE 3 #[.slice ζ B.length γ,.slice η J.length δ] 27 ?_;intro ξ hg w6 hbox hb;have O:=Aside0.mk hbox;have dz:=sGe hg;have e0:=sGe hg;have a0:=sNl U hg;have a1:=sNg U hg;replace U:=sBk U hb;replace HB:=sHb hb;clear hb hbox hg;have e5:=a0.out;have e6:=a1.out;obtain⟨ar,au,av,aw⟩:=qD2 U.out)|((with_reducible refine Q0 (f:=37) rfl ?_);refine Zl (some 13) rfl rfl Try.func37 kr rfl #[.agg #[.int .i64 D,.int .i64 I]] rfl qM ?_;(with_reducible refine(newelref19_House.calls D I true _ A3.out).mono ?_);rintro e w9 ⟨rfl,hb⟩;refine⟨_,rfl, ?_⟩;replace U:=sBk U hb;replace O:=sBk O hb;replace HB:=sHb hb;(try clear hb);(try clear a4);(try clear hk);(try clear hi)))
  go_loopg [6] k (fun kq v6 w'=>∃ (L:Int),v6 = .int .i64 L∧Aside0 (newelref19_May.l0 kq L D I B J=some r)∧Aside0 (kq≤k)∧Aside0 (w'.heap[a2]?=some (.cells #[.int .i64 D,.int .i64 I] 23 (0,0)))∧Aside0 (w'.heap[ξ]?=some (.cells #[(.slice ζ B.length γ),(.slice η J.length δ)] 27 (0,0)))∧Aside0 (Below w.heap.size w w'))
  case atStart=>exact⟨(0),rfl,H',⟨Nat.le_refl _⟩,U,O,HB⟩
  case round=>
   clear H'
   try clear c1
   try clear p2
   try clear c3
   try clear c4
   try clear c7
   try clear ar
   try clear au
   try clear av
   try clear aw
   obtain⟨L,rfl,HA,σ,U,O,HB⟩:=hrel
   cases gk with
   |zero=>exact absurd HA.out (by simp[newelref19_May.l0])
   |succ k1=>
    have H:=HA.out
    clear HA
    simp only[newelref19_May.l0] at H
    by_cases c10:L<(B.length:Int)
    ·rw[if_pos c10] at H
     have c10b0:decide (L<(B.length:Int))=true:=decide_eq_true c10
     clear c10
     by_cases ca:0≤L
     ·rw[if_pos ca] at H
      have c11b0:decide (0≤L)=true:=decide_eq_true ca
      clear ca
      replace H:=Option.bind_eq_some_iff.mp H
      obtain⟨co,bf,H⟩:=H
      replace H:(if co=true then (if L>0 then (if 0≤(wrap64 (L-1)) then (if (wrap64 (L-1))<(B.length:Int) then ((newelref19_ahead.f ((Qg B (wrap64 (L-1))).f0) ((Qg B (wrap64 (L-1))).f1) ((Qg B (wrap64 (L-1))).f2) ((Qg B L).f0) ((Qg B L).f1) ((Qg B L).f2)).bind fun bh=>(if bh=true then (newelref19_May.l0 k1 (wrap64 (L+1)) D I B J) else (some false))) else (none)) else (none)) else (newelref19_May.l0 k1 (wrap64 (L+1)) D I B J)) else (some false))=some r:=H
      have bg:=Aside0.mk bf
      clear bf
      by_cases br:co=true
      ·subst br
       have H1:(if L>0 then (if 0≤(wrap64 (L-1)) then (if (wrap64 (L-1))<(B.length:Int) then ((newelref19_ahead.f ((Qg B (wrap64 (L-1))).f0) ((Qg B (wrap64 (L-1))).f1) ((Qg B (wrap64 (L-1))).f2) ((Qg B L).f0) ((Qg B L).f1) ((Qg B L).f2)).bind fun bh=>(if bh=true then (newelref19_May.l0 k1 (wrap64 (L+1)) D I B J) else (some false))) else (none)) else (none)) else (newelref19_May.l0 k1 (wrap64 (L+1)) D I B J))=some r:=by rw[if_pos rfl] at H;exact H
       clear H
       have H:=H1
       clear H1
       by_cases a3:L>0
       ·rw[if_pos a3] at H
        have c14b0:decide (0<L)=true:=decide_eq_true a3
        clear a3
        obtain⟨κ,a6⟩:∃ j_:Int,(wrap64 (L-1))=j_:=⟨_,rfl⟩
        replace H:(if 0≤(κ) then (if (κ)<(B.length:Int) then ((newelref19_ahead.f ((Qg B (κ)).f0) ((Qg B (κ)).f1) ((Qg B (κ)).f2) ((Qg B L).f0) ((Qg B L).f1) ((Qg B L).f2)).bind fun bh=>(if bh=true then (newelref19_May.l0 k1 (wrap64 (L+1)) D I B J) else (some false))) else (none)) else (none))=some r:=by first|(rw[a6] at H;exact H)|(simp only[a6] at H ⊢;exact H)
        (try rw[a6] at bg)
        have hji15w:(IntKind.i64.wrap (L-1)) = κ :=(Xm _).trans a6
        by_cases a5:0≤(κ)
        ·rw[if_pos a5] at H
         have c16b0:decide (0≤(κ))=true:=decide_eq_true a5
         clear a5
         by_cases aa:(κ)<(B.length:Int)
         ·rw[if_pos aa] at H
          have c17b0:decide ((κ)<(B.length:Int))=true:=decide_eq_true aa
          clear aa
          replace H:=Option.bind_eq_some_iff.mp H
          obtain⟨bh,be,H⟩:=H
          replace H:(if bh=true then (newelref19_May.l0 k1 (wrap64 (L+1)) D I B J) else (some false))=some r:=H
          have bz:=Aside0.mk be
          clear be
          by_cases gm:bh=true
          ·subst gm
           have H1:(newelref19_May.l0 k1 (wrap64 (L+1)) D I B J)=some r:=by rw[if_pos rfl] at H;exact H
           clear H
           have H:=H1
           clear H1
           have H':=Aside0.mk H
           clear H
           have da:=a1.out
           have dd:=a0.out
           obtain⟨cn,db,dc,de⟩:=qD2 O.out
           try go_wp2
           replace U:=Aside0.mk (Qa U.out)
           replace O:=Aside0.mk (Qa O.out)
           replace HB:=Aside0.mk (Qf HB.out)
           have b8:0≤(L:Int):=of_decide_eq_true (by assumption)
           have ba:L<(B.length:Int):=of_decide_eq_true (by assumption)
           obtain⟨Y,cb,ε,θ,ι⟩:=Zw ai.out L b8 ba
           have ρ:= ι
           have τ := θ
           have φ := ε
           cases cb
           replace ε :=(HB.out.cell (World.block_lt_of_cell? w _ ε)).trans ε
           replace θ :=(HB.out.cell (World.block_lt_of_cell? w _ θ)).trans θ
           replace ι :=(HB.out.cell (World.block_lt_of_cell? w _ ι)).trans ι
           replace b8:=eq_true b8
           replace ba:=eq_true ba
           refine Zm (n:=8) (S:=fun w'=>w'.cell? ⟨a2,0,none⟩=some (.int .i64 D)∧w'.cell? ⟨a2,1,none⟩=some (.int .i64 I)∧w'.cell? ⟨ξ,0,none⟩=some (.slice (some Y) B.length γ)∧w'.cell? ⟨ξ,1,none⟩=some (.slice η J.length δ)∧w'.cell? (Y.add ((L).toNat * 3))=some (.int .i64 ((Qg B L).f0))∧w'.cell? ⟨(Y.add ((L).toNat * 3)).block,(Y.add ((L).toNat * 3)).off+1,none⟩=some (.int .i64 ((Qg B L).f1))∧w'.cell? ⟨(Y.add ((L).toNat * 3)).block,(Y.add ((L).toNat * 3)).off+2,none⟩=some (.int .i64 ((Qg B L).f2))) (ds:=[]) #[false,false,false,false,false,false,false,false] kr rfl rfl ⟨(Qi U.out 0).trans rfl,(Qi U.out 1).trans rfl,(Qi O.out 0).trans rfl,(Qi O.out 1).trans rfl,((HB.out.cell (World.block_lt_of_cell? w _ φ)).trans φ),((HB.out.cell (World.block_lt_of_cell? w _ τ)).trans τ),((HB.out.cell (World.block_lt_of_cell? w _ ρ)).trans ρ)⟩ (fun hHeld=>?_);refine Q7 newelref19_May.Mx newelref19_May.Ws (fun HT_ HW_=>?_)
           generalize wr.drew=fc at U O HB ε θ ι hHeld ⊢
           refine qP 1 (some 24) (bN 8 2) HT_ ?_
           refine qP 3 (some 26) (bN 8 10) HT_ ?_
           refine qT 0 (some 23) (bN 8 11) HT_ HW_ hHeld ?_
           refine qT 2 (some 25) (bN 8 15) HT_ HW_ hHeld ?_
           refine qP 4 (some 27) (bN 8 31) HT_ ?_
           refine qT 5 (some 28) (bN 8 63) HT_ HW_ hHeld ?_
           refine Zi (i:=6) (N:=some 29) (bN 8 127) rfl rfl (Q2 HT_.out kr) (by decide) (fun K hK=>?_)
           refine Zh Try.func25 kr rfl #[.agg #[.int .i64 D,.int .i64 I],.agg #[.int .i64 ((Qg B L).f0),.int .i64 ((Qg B L).f1),.int .i64 ((Qg B L).f2)]] (by rfl) rfl rfl qM ?_
           with_reducible refine(newelref19_Hall.calls k1 D I ((Qg B L).f0) ((Qg B L).f1) ((Qg B L).f2) true _ bg.out).mono ?_
           rintro e df ⟨rfl,hb⟩
           refine⟨_,rfl, ?_⟩
           replace U:=sBk U hb
           replace O:=sBk O hb
           replace HB:=sHb hb
           (try clear hb)
           (try clear a4)
           (try clear hk)
           (try clear hi)
           refine hK.out _ _ ⟨qc U,qc U,qc O,qc O,((HB.out.cell (World.block_lt_of_cell? w _ φ)).trans φ),((HB.out.cell (World.block_lt_of_cell? w _ τ)).trans τ),((HB.out.cell (World.block_lt_of_cell? w _ ρ)).trans ρ)⟩ (fun hHeld=>?_)
           clear hK K
           refine qN (some 29) ?_
           refine qP 7 (some 7) (bN 8 255) HT_ ?_
           refine Zr (Ze HT_.out kr) ?_
           try go_wp2
           replace U:=Aside0.mk (Qa U.out)
           replace O:=Aside0.mk (Qa O.out)
           replace HB:=Aside0.mk (Qf HB.out)
           have bq:0≤((κ):Int):=of_decide_eq_true (by assumption)
           have bs:(κ)<(B.length:Int):=of_decide_eq_true (by assumption)
           obtain⟨cy,d7,a7,a8,a9⟩:=Zw ai.out (κ) bq bs
           have ao:=a9
           have ap:=a8
           have ax:=a7
           obtain rfl:Y=cy:=(by injection d7)
           replace a7:=(HB.out.cell (World.block_lt_of_cell? w _ a7)).trans a7
           replace a8:=(HB.out.cell (World.block_lt_of_cell? w _ a8)).trans a8
           replace a9:=(HB.out.cell (World.block_lt_of_cell? w _ a9)).trans a9
           replace bq:=eq_true bq
           replace bs:=eq_true bs
           have bu:0≤(L:Int):=of_decide_eq_true (by assumption)
           have bw:L<(B.length:Int):=of_decide_eq_true (by assumption)
           obtain⟨d0,d8,ab,af,ah⟩:=Zw ai.out L bu bw
           have b0:=ah
           have b1:=af
           have b3:=ab
           obtain rfl:Y=d0:=(by injection d8)
           replace ab:=(HB.out.cell (World.block_lt_of_cell? w _ ab)).trans ab
           replace af:=(HB.out.cell (World.block_lt_of_cell? w _ af)).trans af
           replace ah:=(HB.out.cell (World.block_lt_of_cell? w _ ah)).trans ah
           replace bu:=eq_true bu
           replace bw:=eq_true bw
           refine Zm (n:=13) (S:=fun w'=>w'.cell? ⟨ξ,0,none⟩=some (.slice (some Y) B.length γ)∧w'.cell? ⟨ξ,1,none⟩=some (.slice η J.length δ)∧w'.cell? (Y.add (((κ)).toNat * 3))=some (.int .i64 ((Qg B (κ)).f0))∧w'.cell? ⟨(Y.add (((κ)).toNat * 3)).block,(Y.add (((κ)).toNat * 3)).off+1,none⟩=some (.int .i64 ((Qg B (κ)).f1))∧w'.cell? ⟨(Y.add (((κ)).toNat * 3)).block,(Y.add (((κ)).toNat * 3)).off+2,none⟩=some (.int .i64 ((Qg B (κ)).f2))∧w'.cell? (Y.add ((L).toNat * 3))=some (.int .i64 ((Qg B L).f0))∧w'.cell? ⟨(Y.add ((L).toNat * 3)).block,(Y.add ((L).toNat * 3)).off+1,none⟩=some (.int .i64 ((Qg B L).f1))∧w'.cell? ⟨(Y.add ((L).toNat * 3)).block,(Y.add ((L).toNat * 3)).off+2,none⟩=some (.int .i64 ((Qg B L).f2))) (ds:=[]) #[false,false,false,false,false,false,false,false,false,false,false,false,false] kr rfl rfl ⟨(Qi O.out 0).trans rfl,(Qi O.out 1).trans rfl,((HB.out.cell (World.block_lt_of_cell? w _ ax)).trans ax),((HB.out.cell (World.block_lt_of_cell? w _ ap)).trans ap),((HB.out.cell (World.block_lt_of_cell? w _ ao)).trans ao),((HB.out.cell (World.block_lt_of_cell? w _ b3)).trans b3),((HB.out.cell (World.block_lt_of_cell? w _ b1)).trans b1),((HB.out.cell (World.block_lt_of_cell? w _ b0)).trans b0)⟩ (fun hHeld=>?_);refine Q7 newelref19_May.V5 newelref19_May.G2 (fun HT_ HW_=>?_)
           generalize df.drew=cx at U O HB a7 a8 a9 ab af ah hHeld ⊢
           refine qP 0 (some 34) (bN 13 1) HT_ ?_
           refine qP 2 (some 36) (bN 13 5) HT_ ?_
           refine qP 3 (some 37) (bN 13 13) HT_ ?_
           refine qP 6 (some 40) (bN 13 77) HT_ ?_
           refine qP 8 (some 42) (bN 13 333) HT_ ?_
           refine qT 1 (some 35) (bN 13 335) HT_ HW_ hHeld ?_
           refine qP 4 (some 38) (bN 13 351) HT_ ?_
           refine qT 5 (some 39) (bN 13 383) HT_ HW_ hHeld ?_
           refine qT 7 (some 41) (bN 13 511) HT_ HW_ hHeld ?_
           refine qP 9 (some 43) (bN 13 1023) HT_ ?_
           refine qT 10 (some 44) (bN 13 2047) HT_ HW_ hHeld ?_
           refine Zi (i:=11) (N:=some 45) (bN 13 4095) rfl rfl (Q2 HT_.out kr) (by decide) (fun K hK=>?_)
           refine Zh Try.func38 kr rfl #[.agg #[.int .i64 ((Qg B (κ)).f0),.int .i64 ((Qg B (κ)).f1),.int .i64 ((Qg B (κ)).f2)],.agg #[.int .i64 ((Qg B L).f0),.int .i64 ((Qg B L).f1),.int .i64 ((Qg B L).f2)]] (by rfl) rfl rfl (by(try simp only[List.map_toArray,List.map_cons,List.map_nil]);first|done|(simp only[a6];rfl)|rfl|(simp only[List.length_drop,List.length_take];rfl)) ?_
           with_reducible refine(newelref19_ahead.calls ((Qg B (κ)).f0) ((Qg B (κ)).f1) ((Qg B (κ)).f2) ((Qg B L).f0) ((Qg B L).f1) ((Qg B L).f2) true _ bz.out).mono ?_
           rintro e fu ⟨rfl,hb⟩
           refine⟨_,rfl, ?_⟩
           replace U:=sBk U hb
           replace O:=sBk O hb
           replace HB:=sHb hb
           (try clear hb)
           (try clear a4)
           (try clear hk)
           (try clear hi)
           refine hK.out _ _ ⟨qc O,qc O,((HB.out.cell (World.block_lt_of_cell? w _ ax)).trans ax),((HB.out.cell (World.block_lt_of_cell? w _ ap)).trans ap),((HB.out.cell (World.block_lt_of_cell? w _ ao)).trans ao),((HB.out.cell (World.block_lt_of_cell? w _ b3)).trans b3),((HB.out.cell (World.block_lt_of_cell? w _ b1)).trans b1),((HB.out.cell (World.block_lt_of_cell? w _ b0)).trans b0)⟩ (fun hHeld=>?_)
           clear hK K
           refine qN (some 45) ?_
           refine qP 12 (some 8) (bN 13 8191) HT_ ?_
           refine Zr (Ze HT_.out kr) ?_
           try go_wp2
           go_roundg k1
           case measure=>have:=σ.out;omega
           case rel=>exact⟨(wrap64 (L+1)),rfl,H',⟨by have:=σ.out;omega⟩,U,O,HB⟩
          ·replace gm:=Bool.eq_false_iff.mpr gm
           subst gm
           have H1:(some false)=some r:=by rw[if_neg (show ¬ (false=true) by decide)] at H;exact H
           clear H
           have H:=H1
           clear H1
           obtain rfl:=Option.some.inj H
           have en:=a1.out
           have eo:=a0.out
           obtain⟨cp,cq,cr,ct⟩:=qD2 O.out
           try go_wp2
           replace U:=Aside0.mk (Qa U.out)
           replace O:=Aside0.mk (Qa O.out)
           replace HB:=Aside0.mk (Qf HB.out)
           have b8:0≤(L:Int):=of_decide_eq_true (by assumption)
           have ba:L<(B.length:Int):=of_decide_eq_true (by assumption)
           obtain⟨Y,cb,ε,θ,ι⟩:=Zw ai.out L b8 ba
           have ρ:= ι
           have τ := θ
           have φ := ε
           cases cb
           replace ε :=(HB.out.cell (World.block_lt_of_cell? w _ ε)).trans ε
           replace θ :=(HB.out.cell (World.block_lt_of_cell? w _ θ)).trans θ
           replace ι :=(HB.out.cell (World.block_lt_of_cell? w _ ι)).trans ι
           replace b8:=eq_true b8
           replace ba:=eq_true ba
           refine Zm (n:=8) (S:=fun w'=>w'.cell? ⟨a2,0,none⟩=some (.int .i64 D)∧w'.cell? ⟨a2,1,none⟩=some (.int .i64 I)∧w'.cell? ⟨ξ,0,none⟩=some (.slice (some Y) B.length γ)∧w'.cell? ⟨ξ,1,none⟩=some (.slice η J.length δ)∧w'.cell? (Y.add ((L).toNat * 3))=some (.int .i64 ((Qg B L).f0))∧w'.cell? ⟨(Y.add ((L).toNat * 3)).block,(Y.add ((L).toNat * 3)).off+1,none⟩=some (.int .i64 ((Qg B L).f1))∧w'.cell? ⟨(Y.add ((L).toNat * 3)).block,(Y.add ((L).toNat * 3)).off+2,none⟩=some (.int .i64 ((Qg B L).f2))) (ds:=[]) #[false,false,false,false,false,false,false,false] kr rfl rfl ⟨(Qi U.out 0).trans rfl,(Qi U.out 1).trans rfl,(Qi O.out 0).trans rfl,(Qi O.out 1).trans rfl,((HB.out.cell (World.block_lt_of_cell? w _ φ)).trans φ),((HB.out.cell (World.block_lt_of_cell? w _ τ)).trans τ),((HB.out.cell (World.block_lt_of_cell? w _ ρ)).trans ρ)⟩ (fun hHeld=>?_);refine Q7 newelref19_May.Mx newelref19_May.Ws (fun HT_ HW_=>?_)
           generalize wr.drew=dt at U O HB ε θ ι hHeld ⊢
           refine qP 1 (some 24) (bN 8 2) HT_ ?_
           refine qP 3 (some 26) (bN 8 10) HT_ ?_
           refine qT 0 (some 23) (bN 8 11) HT_ HW_ hHeld ?_
           refine qT 2 (some 25) (bN 8 15) HT_ HW_ hHeld ?_
           refine qP 4 (some 27) (bN 8 31) HT_ ?_
           refine qT 5 (some 28) (bN 8 63) HT_ HW_ hHeld ?_
           refine Zi (i:=6) (N:=some 29) (bN 8 127) rfl rfl (Q2 HT_.out kr) (by decide) (fun K hK=>?_)
           refine Zh Try.func25 kr rfl #[.agg #[.int .i64 D,.int .i64 I],.agg #[.int .i64 ((Qg B L).f0),.int .i64 ((Qg B L).f1),.int .i64 ((Qg B L).f2)]] (by rfl) rfl rfl qM ?_
           with_reducible refine(newelref19_Hall.calls k1 D I ((Qg B L).f0) ((Qg B L).f1) ((Qg B L).f2) true _ bg.out).mono ?_
           rintro e gf ⟨rfl,hb⟩
           refine⟨_,rfl, ?_⟩
           replace U:=sBk U hb
           replace O:=sBk O hb
           replace HB:=sHb hb
           (try clear hb)
           (try clear a4)
           (try clear hk)
           (try clear hi)
           refine hK.out _ _ ⟨qc U,qc U,qc O,qc O,((HB.out.cell (World.block_lt_of_cell? w _ φ)).trans φ),((HB.out.cell (World.block_lt_of_cell? w _ τ)).trans τ),((HB.out.cell (World.block_lt_of_cell? w _ ρ)).trans ρ)⟩ (fun hHeld=>?_)
           clear hK K
           refine qN (some 29) ?_
           refine qP 7 (some 7) (bN 8 255) HT_ ?_
           refine Zr (Ze HT_.out kr) ?_
           try go_wp2
           replace U:=Aside0.mk (Qa U.out)
           replace O:=Aside0.mk (Qa O.out)
           replace HB:=Aside0.mk (Qf HB.out)
           have bq:0≤((κ):Int):=of_decide_eq_true (by assumption)
           have bs:(κ)<(B.length:Int):=of_decide_eq_true (by assumption)
           obtain⟨cy,d7,a7,a8,a9⟩:=Zw ai.out (κ) bq bs
           have ao:=a9
           have ap:=a8
           have ax:=a7
           obtain rfl:Y=cy:=(by injection d7)
           replace a7:=(HB.out.cell (World.block_lt_of_cell? w _ a7)).trans a7
           replace a8:=(HB.out.cell (World.block_lt_of_cell? w _ a8)).trans a8
           replace a9:=(HB.out.cell (World.block_lt_of_cell? w _ a9)).trans a9
           replace bq:=eq_true bq
           replace bs:=eq_true bs
           have bu:0≤(L:Int):=of_decide_eq_true (by assumption)
           have bw:L<(B.length:Int):=of_decide_eq_true (by assumption)
           obtain⟨d0,d8,ab,af,ah⟩:=Zw ai.out L bu bw
           have b0:=ah
           have b1:=af
           have b3:=ab
           obtain rfl:Y=d0:=(by injection d8)
           replace ab:=(HB.out.cell (World.block_lt_of_cell? w _ ab)).trans ab
           replace af:=(HB.out.cell (World.block_lt_of_cell? w _ af)).trans af
           replace ah:=(HB.out.cell (World.block_lt_of_cell? w _ ah)).trans ah
           replace bu:=eq_true bu
           replace bw:=eq_true bw
           refine Zm (n:=13) (S:=fun w'=>w'.cell? ⟨ξ,0,none⟩=some (.slice (some Y) B.length γ)∧w'.cell? ⟨ξ,1,none⟩=some (.slice η J.length δ)∧w'.cell? (Y.add (((κ)).toNat * 3))=some (.int .i64 ((Qg B (κ)).f0))∧w'.cell? ⟨(Y.add (((κ)).toNat * 3)).block,(Y.add (((κ)).toNat * 3)).off+1,none⟩=some (.int .i64 ((Qg B (κ)).f1))∧w'.cell? ⟨(Y.add (((κ)).toNat * 3)).block,(Y.add (((κ)).toNat * 3)).off+2,none⟩=some (.int .i64 ((Qg B (κ)).f2))∧w'.cell? (Y.add ((L).toNat * 3))=some (.int .i64 ((Qg B L).f0))∧w'.cell? ⟨(Y.add ((L).toNat * 3)).block,(Y.add ((L).toNat * 3)).off+1,none⟩=some (.int .i64 ((Qg B L).f1))∧w'.cell? ⟨(Y.add ((L).toNat * 3)).block,(Y.add ((L).toNat * 3)).off+2,none⟩=some (.int .i64 ((Qg B L).f2))) (ds:=[]) #[false,false,false,false,false,false,false,false,false,false,false,false,false] kr rfl rfl ⟨(Qi O.out 0).trans rfl,(Qi O.out 1).trans rfl,((HB.out.cell (World.block_lt_of_cell? w _ ax)).trans ax),((HB.out.cell (World.block_lt_of_cell? w _ ap)).trans ap),((HB.out.cell (World.block_lt_of_cell? w _ ao)).trans ao),((HB.out.cell (World.block_lt_of_cell? w _ b3)).trans b3),((HB.out.cell (World.block_lt_of_cell? w _ b1)).trans b1),((HB.out.cell (World.block_lt_of_cell? w _ b0)).trans b0)⟩ (fun hHeld=>?_);refine Q7 newelref19_May.V5 newelref19_May.G2 (fun HT_ HW_=>?_)
           generalize gf.drew=f3 at U O HB a7 a8 a9 ab af ah hHeld ⊢
           refine qP 0 (some 34) (bN 13 1) HT_ ?_
           refine qP 2 (some 36) (bN 13 5) HT_ ?_
           refine qP 3 (some 37) (bN 13 13) HT_ ?_
           refine qP 6 (some 40) (bN 13 77) HT_ ?_
           refine qP 8 (some 42) (bN 13 333) HT_ ?_
           refine qT 1 (some 35) (bN 13 335) HT_ HW_ hHeld ?_
           refine qP 4 (some 38) (bN 13 351) HT_ ?_
           refine qT 5 (some 39) (bN 13 383) HT_ HW_ hHeld ?_
           refine qT 7 (some 41) (bN 13 511) HT_ HW_ hHeld ?_
           refine qP 9 (some 43) (bN 13 1023) HT_ ?_
           refine qT 10 (some 44) (bN 13 2047) HT_ HW_ hHeld ?_
           refine Zi (i:=11) (N:=some 45) (bN 13 4095) rfl rfl (Q2 HT_.out kr) (by decide) (fun K hK=>?_)
           refine Zh Try.func38 kr rfl #[.agg #[.int .i64 ((Qg B (κ)).f0),.int .i64 ((Qg B (κ)).f1),.int .i64 ((Qg B (κ)).f2)],.agg #[.int .i64 ((Qg B L).f0),.int .i64 ((Qg B L).f1),.int .i64 ((Qg B L).f2)]] (by rfl) rfl rfl (by(try simp only[List.map_toArray,List.map_cons,List.map_nil]);first|done|(simp only[a6];rfl)|rfl|(simp only[List.length_drop,List.length_take];rfl)) ?_
           with_reducible refine(newelref19_ahead.calls ((Qg B (κ)).f0) ((Qg B (κ)).f1) ((Qg B (κ)).f2) ((Qg B L).f0) ((Qg B L).f1) ((Qg B L).f2) false _ bz.out).mono ?_
           rintro e n2 ⟨rfl,hb⟩
           refine⟨_,rfl, ?_⟩
           replace U:=sBk U hb
           replace O:=sBk O hb
           replace HB:=sHb hb
           (try clear hb)
           (try clear a4)
           (try clear hk)
           (try clear hi)
           refine hK.out _ _ ⟨qc O,qc O,((HB.out.cell (World.block_lt_of_cell? w _ ax)).trans ax),((HB.out.cell (World.block_lt_of_cell? w _ ap)).trans ap),((HB.out.cell (World.block_lt_of_cell? w _ ao)).trans ao),((HB.out.cell (World.block_lt_of_cell? w _ b3)).trans b3),((HB.out.cell (World.block_lt_of_cell? w _ b1)).trans b1),((HB.out.cell (World.block_lt_of_cell? w _ b0)).trans b0)⟩ (fun hHeld=>?_)
           clear hK K
           refine qN (some 45) ?_
           refine qP 12 (some 8) (bN 13 8191) HT_ ?_
           refine Zr (Ze HT_.out kr) ?_
           try go_wp2
           go_ret
           exact⟨by first|rfl|(simp[Qz,Qy] <;> rfl)|(simp only[← a6];first|rfl|(simp[Qz,Qy] <;> rfl))|(simp[*,Qz,Qy] <;> rfl),HB.out⟩
         ·rw[if_neg aa] at H
          exact absurd H (by simp)
        ·rw[if_neg a5] at H
         exact absurd H (by simp)
       ·rw[if_neg a3] at H
        have c14b0:decide (0<L)=false:=decide_eq_false a3
        clear a3
        have H':=Aside0.mk H
        clear H
        have fr:=a1.out
        have g1:=a0.out
        obtain⟨di,dk,dm,dr⟩:=qD2 O.out
        try go_wp2
        replace U:=Aside0.mk (Qa U.out)
        replace O:=Aside0.mk (Qa O.out)
        replace HB:=Aside0.mk (Qf HB.out)
        have b8:0≤(L:Int):=of_decide_eq_true (by assumption)
        have ba:L<(B.length:Int):=of_decide_eq_true (by assumption)
        obtain⟨Y,cb,ε,θ,ι⟩:=Zw ai.out L b8 ba
        have ρ:= ι
        have τ := θ
        have φ := ε
        cases cb
        replace ε :=(HB.out.cell (World.block_lt_of_cell? w _ ε)).trans ε
        replace θ :=(HB.out.cell (World.block_lt_of_cell? w _ θ)).trans θ
        replace ι :=(HB.out.cell (World.block_lt_of_cell? w _ ι)).trans ι
        replace b8:=eq_true b8
        replace ba:=eq_true ba
        refine Zm (n:=8) (S:=fun w'=>w'.cell? ⟨a2,0,none⟩=some (.int .i64 D)∧w'.cell? ⟨a2,1,none⟩=some (.int .i64 I)∧w'.cell? ⟨ξ,0,none⟩=some (.slice (some Y) B.length γ)∧w'.cell? ⟨ξ,1,none⟩=some (.slice η J.length δ)∧w'.cell? (Y.add ((L).toNat * 3))=some (.int .i64 ((Qg B L).f0))∧w'.cell? ⟨(Y.add ((L).toNat * 3)).block,(Y.add ((L).toNat * 3)).off+1,none⟩=some (.int .i64 ((Qg B L).f1))∧w'.cell? ⟨(Y.add ((L).toNat * 3)).block,(Y.add ((L).toNat * 3)).off+2,none⟩=some (.int .i64 ((Qg B L).f2))) (ds:=[]) #[false,false,false,false,false,false,false,false] kr rfl rfl ⟨(Qi U.out 0).trans rfl,(Qi U.out 1).trans rfl,(Qi O.out 0).trans rfl,(Qi O.out 1).trans rfl,((HB.out.cell (World.block_lt_of_cell? w _ φ)).trans φ),((HB.out.cell (World.block_lt_of_cell? w _ τ)).trans τ),((HB.out.cell (World.block_lt_of_cell? w _ ρ)).trans ρ)⟩ (fun hHeld=>?_);refine Q7 newelref19_May.Mx newelref19_May.Ws (fun HT_ HW_=>?_)
        generalize wr.drew=n3 at U O HB ε θ ι hHeld ⊢
        refine qP 1 (some 24) (bN 8 2) HT_ ?_
        refine qP 3 (some 26) (bN 8 10) HT_ ?_
        refine qT 0 (some 23) (bN 8 11) HT_ HW_ hHeld ?_
        refine qT 2 (some 25) (bN 8 15) HT_ HW_ hHeld ?_
        refine qP 4 (some 27) (bN 8 31) HT_ ?_
        refine qT 5 (some 28) (bN 8 63) HT_ HW_ hHeld ?_
        refine Zi (i:=6) (N:=some 29) (bN 8 127) rfl rfl (Q2 HT_.out kr) (by decide) (fun K hK=>?_)
        refine Zh Try.func25 kr rfl #[.agg #[.int .i64 D,.int .i64 I],.agg #[.int .i64 ((Qg B L).f0),.int .i64 ((Qg B L).f1),.int .i64 ((Qg B L).f2)]] (by rfl) rfl rfl qM ?_
        with_reducible refine(newelref19_Hall.calls k1 D I ((Qg B L).f0) ((Qg B L).f1) ((Qg B L).f2) true _ bg.out).mono ?_
        rintro e g8 ⟨rfl,hb⟩
        refine⟨_,rfl, ?_⟩
        replace U:=sBk U hb
        replace O:=sBk O hb
        replace HB:=sHb hb
        (try clear hb)
        (try clear a4)
        (try clear hk)
        (try clear hi)
        refine hK.out _ _ ⟨qc U,qc U,qc O,qc O,((HB.out.cell (World.block_lt_of_cell? w _ φ)).trans φ),((HB.out.cell (World.block_lt_of_cell? w _ τ)).trans τ),((HB.out.cell (World.block_lt_of_cell? w _ ρ)).trans ρ)⟩ (fun hHeld=>?_)
        clear hK K
        refine qN (some 29) ?_
        refine qP 7 (some 7) (bN 8 255) HT_ ?_
        refine Zr (Ze HT_.out kr) ?_
        try go_wp2
        go_roundg k1
        case measure=>have:=σ.out;omega
        case rel=>exact⟨(wrap64 (L+1)),rfl,H',⟨by have:=σ.out;omega⟩,U,O,HB⟩
      ·replace br:=Bool.eq_false_iff.mpr br
       subst br
       have H1:(some false)=some r:=by rw[if_neg (show ¬ (false=true) by decide)] at H;exact H
       clear H
       have H:=H1
       clear H1
       obtain rfl:=Option.some.inj H
       have dv:=a1.out
       have dw:=a0.out
       obtain⟨cz,d3,d4,d5⟩:=qD2 O.out
       try go_wp2
       replace U:=Aside0.mk (Qa U.out)
       replace O:=Aside0.mk (Qa O.out)
       replace HB:=Aside0.mk (Qf HB.out)
       have b8:0≤(L:Int):=of_decide_eq_true (by assumption)
       have ba:L<(B.length:Int):=of_decide_eq_true (by assumption)
       obtain⟨Y,cb,ε,θ,ι⟩:=Zw ai.out L b8 ba
       have ρ:= ι
       have τ := θ
       have φ := ε
       cases cb
       replace ε :=(HB.out.cell (World.block_lt_of_cell? w _ ε)).trans ε
       replace θ :=(HB.out.cell (World.block_lt_of_cell? w _ θ)).trans θ
       replace ι :=(HB.out.cell (World.block_lt_of_cell? w _ ι)).trans ι
       replace b8:=eq_true b8
       replace ba:=eq_true ba
       refine Zm (n:=8) (S:=fun w'=>w'.cell? ⟨a2,0,none⟩=some (.int .i64 D)∧w'.cell? ⟨a2,1,none⟩=some (.int .i64 I)∧w'.cell? ⟨ξ,0,none⟩=some (.slice (some Y) B.length γ)∧w'.cell? ⟨ξ,1,none⟩=some (.slice η J.length δ)∧w'.cell? (Y.add ((L).toNat * 3))=some (.int .i64 ((Qg B L).f0))∧w'.cell? ⟨(Y.add ((L).toNat * 3)).block,(Y.add ((L).toNat * 3)).off+1,none⟩=some (.int .i64 ((Qg B L).f1))∧w'.cell? ⟨(Y.add ((L).toNat * 3)).block,(Y.add ((L).toNat * 3)).off+2,none⟩=some (.int .i64 ((Qg B L).f2))) (ds:=[]) #[false,false,false,false,false,false,false,false] kr rfl rfl ⟨(Qi U.out 0).trans rfl,(Qi U.out 1).trans rfl,(Qi O.out 0).trans rfl,(Qi O.out 1).trans rfl,((HB.out.cell (World.block_lt_of_cell? w _ φ)).trans φ),((HB.out.cell (World.block_lt_of_cell? w _ τ)).trans τ),((HB.out.cell (World.block_lt_of_cell? w _ ρ)).trans ρ)⟩ (fun hHeld=>?_);refine Q7 newelref19_May.Mx newelref19_May.Ws (fun HT_ HW_=>?_)
       generalize wr.drew=d6 at U O HB ε θ ι hHeld ⊢
       refine qP 1 (some 24) (bN 8 2) HT_ ?_
       refine qP 3 (some 26) (bN 8 10) HT_ ?_
       refine qT 0 (some 23) (bN 8 11) HT_ HW_ hHeld ?_
       refine qT 2 (some 25) (bN 8 15) HT_ HW_ hHeld ?_
       refine qP 4 (some 27) (bN 8 31) HT_ ?_
       refine qT 5 (some 28) (bN 8 63) HT_ HW_ hHeld ?_
       refine Zi (i:=6) (N:=some 29) (bN 8 127) rfl rfl (Q2 HT_.out kr) (by decide) (fun K hK=>?_)
       refine Zh Try.func25 kr rfl #[.agg #[.int .i64 D,.int .i64 I],.agg #[.int .i64 ((Qg B L).f0),.int .i64 ((Qg B L).f1),.int .i64 ((Qg B L).f2)]] (by rfl) rfl rfl qM ?_
       with_reducible refine(newelref19_Hall.calls k1 D I ((Qg B L).f0) ((Qg B L).f1) ((Qg B L).f2) false _ bg.out).mono ?_
       rintro e ck ⟨rfl,hb⟩
       refine⟨_,rfl, ?_⟩
       replace U:=sBk U hb
       replace O:=sBk O hb
       replace HB:=sHb hb
       (try clear hb)
       (try clear a4)
       (try clear hk)
       (try clear hi)
       refine hK.out _ _ ⟨qc U,qc U,qc O,qc O,((HB.out.cell (World.block_lt_of_cell? w _ φ)).trans φ),((HB.out.cell (World.block_lt_of_cell? w _ τ)).trans τ),((HB.out.cell (World.block_lt_of_cell? w _ ρ)).trans ρ)⟩ (fun hHeld=>?_)
       clear hK K
       refine qN (some 29) ?_
       refine qP 7 (some 7) (bN 8 255) HT_ ?_
       refine Zr (Ze HT_.out kr) ?_
       try go_wp2
       go_ret
       exact⟨rfl,HB.out⟩
     ·rw[if_neg ca] at H
      exact absurd H (by simp)
    ·rw[if_neg c10] at H
     have c10b0:decide (L<(B.length:Int))=false:=decide_eq_false c10
     clear c10
     have H':=Aside0.mk H
     clear H
     have dp:=a1.out
     have dq:=a0.out
     obtain⟨bn,bo,ce,cf⟩:=qD2 O.out
     go_wp2
     go_loopg [9] k1 (fun kq v9 w'=>∃ (X:Int),v9 = .int .i64 X∧Aside0 (newelref19_May.l1 kq X D I B J=some r)∧Aside0 (kq≤k1)∧Aside0 (w'.heap[a2]?=some (.cells #[.int .i64 D,.int .i64 I] 23 (0,0)))∧Aside0 (w'.heap[ξ]?=some (.cells #[(.slice ζ B.length γ),(.slice η J.length δ)] 27 (0,0)))∧Aside0 (Below w.heap.size w w'))
     case atStart=>exact⟨(0),rfl,H',⟨Nat.le_refl _⟩,U,O,HB⟩
     case round=>
      clear H'
      try clear c1
      try clear c2
      try clear p2
      try clear q2
      try clear ej
      try clear c3
      try clear c4
      try clear p6
      try clear c10
      try clear c10b0
      try clear ca
      try clear br
      try clear a3
      try clear c14b0
      try clear a5
      try clear aa
      try clear gm
      try clear eu
      try clear ev
      try clear e7
      try clear bb
      try clear ac
      try clear iy
      try clear lf
      try clear jt
      try clear ip
      try clear cp
      try clear cq
      try clear di
      try clear dk
      try clear cz
      try clear d3
      try clear bn
      try clear bo
      try clear cr
      try clear ct
      try clear dm
      try clear dr
      try clear d4
      try clear d5
      try clear ce
      try clear cf
      try clear ε
      try clear θ
      try clear ι
      try clear a7
      try clear a8
      try clear a9
      try clear ab
      try clear af
      try clear ah
      try clear b8
      try clear bq
      try clear bu
      try clear ba
      try clear bs
      try clear bw
      obtain⟨X,rfl,HA,ag,U,O,HB⟩:=hrel
      cases gk with
      |zero=>exact absurd HA.out (by simp[newelref19_May.l1])
      |succ k2=>
       have H:=HA.out
       clear HA
       simp only[newelref19_May.l1] at H
       by_cases cu:X<(J.length:Int)
       ·rw[if_pos cu] at H
        have c42b0:decide (X<(J.length:Int))=true:=decide_eq_true cu
        clear cu
        by_cases dx:0≤X
        ·rw[if_pos dx] at H
         have c43b0:decide (0≤X)=true:=decide_eq_true dx
         clear dx
         replace H:=Option.bind_eq_some_iff.mp H
         obtain⟨cw,dj,H⟩:=H
         replace H:(if cw=true then (if X>0 then (if 0≤(wrap64 (X-1)) then (if (wrap64 (X-1))<(J.length:Int) then ((newelref19_before.f ((Qo J (wrap64 (X-1))).f0) ((Qo J (wrap64 (X-1))).f1) ((Qo J X).f0) ((Qo J X).f1)).bind fun bi=>(if bi=true then (newelref19_May.l1 k2 (wrap64 (X+1)) D I B J) else (some false))) else (none)) else (none)) else (newelref19_May.l1 k2 (wrap64 (X+1)) D I B J)) else (some false))=some r:=H
         have dl:=Aside0.mk dj
         clear dj
         by_cases g0:cw=true
         ·subst g0
          have H1:(if X>0 then (if 0≤(wrap64 (X-1)) then (if (wrap64 (X-1))<(J.length:Int) then ((newelref19_before.f ((Qo J (wrap64 (X-1))).f0) ((Qo J (wrap64 (X-1))).f1) ((Qo J X).f0) ((Qo J X).f1)).bind fun bi=>(if bi=true then (newelref19_May.l1 k2 (wrap64 (X+1)) D I B J) else (some false))) else (none)) else (none)) else (newelref19_May.l1 k2 (wrap64 (X+1)) D I B J))=some r:=by rw[if_pos rfl] at H;exact H
          clear H
          have H:=H1
          clear H1
          by_cases ec:X>0
          ·rw[if_pos ec] at H
           have c46b0:decide (0<X)=true:=decide_eq_true ec
           clear ec
           obtain⟨ω,bp⟩:∃ j_:Int,(wrap64 (X-1))=j_:=⟨_,rfl⟩
           replace H:(if 0≤(ω) then (if (ω)<(J.length:Int) then ((newelref19_before.f ((Qo J (ω)).f0) ((Qo J (ω)).f1) ((Qo J X).f0) ((Qo J X).f1)).bind fun bi=>(if bi=true then (newelref19_May.l1 k2 (wrap64 (X+1)) D I B J) else (some false))) else (none)) else (none))=some r:=by first|(rw[bp] at H;exact H)|(simp only[bp] at H ⊢;exact H)
           (try rw[bp] at dl)
           have hji47w:(IntKind.i64.wrap (X-1)) = ω :=(Xm _).trans bp
           by_cases cv:0≤(ω)
           ·rw[if_pos cv] at H
            have c48b0:decide (0≤(ω))=true:=decide_eq_true cv
            clear cv
            by_cases ed:(ω)<(J.length:Int)
            ·rw[if_pos ed] at H
             have c49b0:decide ((ω)<(J.length:Int))=true:=decide_eq_true ed
             clear ed
             replace H:=Option.bind_eq_some_iff.mp H
             obtain⟨bi,gs,H⟩:=H
             replace H:(if bi=true then (newelref19_May.l1 k2 (wrap64 (X+1)) D I B J) else (some false))=some r:=H
             have bv:=Aside0.mk gs
             clear gs
             by_cases dn:bi=true
             ·subst dn
              have H1:(newelref19_May.l1 k2 (wrap64 (X+1)) D I B J)=some r:=by rw[if_pos rfl] at H;exact H
              clear H
              have H:=H1
              clear H1
              have H':=Aside0.mk H
              clear H
              have ey:=a1.out
              have ez:=a0.out
              obtain⟨fg,fh,fi,fn⟩:=qD2 O.out
              try go_wp2
              replace U:=Aside0.mk (Qa U.out)
              replace O:=Aside0.mk (Qa O.out)
              replace HB:=Aside0.mk (Qf HB.out)
              have bc:0≤(X:Int):=of_decide_eq_true (by assumption)
              have bd:X<(J.length:Int):=of_decide_eq_true (by assumption)
              obtain⟨Z,cd,μ,ν⟩:=Zu ak.out X bc bd
              have χ := ν
              have ψ := μ
              cases cd
              replace μ :=(HB.out.cell (World.block_lt_of_cell? w _ μ)).trans μ
              replace ν :=(HB.out.cell (World.block_lt_of_cell? w _ ν)).trans ν
              replace bc:=eq_true bc
              replace bd:=eq_true bd
              refine Zm (n:=8) (S:=fun w'=>w'.cell? ⟨a2,0,none⟩=some (.int .i64 D)∧w'.cell? ⟨a2,1,none⟩=some (.int .i64 I)∧w'.cell? ⟨ξ,0,none⟩=some (.slice ζ B.length γ)∧w'.cell? ⟨ξ,1,none⟩=some (.slice (some Z) J.length δ)∧w'.cell? (Z.add ((X).toNat * 2))=some (.int .i64 ((Qo J X).f0))∧w'.cell? ⟨(Z.add ((X).toNat * 2)).block,(Z.add ((X).toNat * 2)).off+1,none⟩=some (.int .i64 ((Qo J X).f1))) (ds:=[]) #[false,false,false,false,false,false,false,false] kr rfl rfl ⟨(Qi U.out 0).trans rfl,(Qi U.out 1).trans rfl,(Qi O.out 0).trans rfl,(Qi O.out 1).trans rfl,((HB.out.cell (World.block_lt_of_cell? w _ ψ)).trans ψ),((HB.out.cell (World.block_lt_of_cell? w _ χ)).trans χ)⟩ (fun hHeld=>?_);refine Q7 newelref19_May.Wm newelref19_May.V2 (fun HT_ HW_=>?_)
              generalize wr.drew=ek at U O HB μ ν hHeld ⊢
              refine qP 1 (some 56) (bN 8 2) HT_ ?_
              refine qP 3 (some 58) (bN 8 10) HT_ ?_
              refine qT 0 (some 55) (bN 8 11) HT_ HW_ hHeld ?_
              refine qT 2 (some 57) (bN 8 15) HT_ HW_ hHeld ?_
              refine qP 4 (some 59) (bN 8 31) HT_ ?_
              refine qT 5 (some 60) (bN 8 63) HT_ HW_ hHeld ?_
              refine Zi (i:=6) (N:=some 61) (bN 8 127) rfl rfl (Q2 HT_.out kr) (by decide) (fun K hK=>?_)
              refine Zh Try.func39 kr rfl #[.agg #[.int .i64 D,.int .i64 I],.agg #[.int .i64 ((Qo J X).f0),.int .i64 ((Qo J X).f1)]] (by rfl) rfl rfl qM ?_
              with_reducible refine(newelref19_Inside.calls D I ((Qo J X).f0) ((Qo J X).f1) true _ dl.out).mono ?_
              rintro e iz ⟨rfl,hb⟩
              refine⟨_,rfl, ?_⟩
              replace U:=sBk U hb
              replace O:=sBk O hb
              replace HB:=sHb hb
              (try clear hb)
              (try clear a4)
              (try clear hk)
              (try clear hi)
              refine hK.out _ _ ⟨qc U,qc U,qc O,qc O,((HB.out.cell (World.block_lt_of_cell? w _ ψ)).trans ψ),((HB.out.cell (World.block_lt_of_cell? w _ χ)).trans χ)⟩ (fun hHeld=>?_)
              clear hK K
              refine qN (some 61) ?_
              refine qP 7 (some 10) (bN 8 255) HT_ ?_
              refine Zr (Ze HT_.out kr) ?_
              try go_wp2
              replace U:=Aside0.mk (Qa U.out)
              replace O:=Aside0.mk (Qa O.out)
              replace HB:=Aside0.mk (Qf HB.out)
              have cg:0≤((ω):Int):=of_decide_eq_true (by assumption)
              have ch:(ω)<(J.length:Int):=of_decide_eq_true (by assumption)
              obtain⟨d1,d9,aj,al⟩:=Zu ak.out (ω) cg ch
              have b4:=al
              have b5:=aj
              obtain rfl:Z=d1:=(by injection d9)
              replace aj:=(HB.out.cell (World.block_lt_of_cell? w _ aj)).trans aj
              replace al:=(HB.out.cell (World.block_lt_of_cell? w _ al)).trans al
              replace cg:=eq_true cg
              replace ch:=eq_true ch
              have ci:0≤(X:Int):=of_decide_eq_true (by assumption)
              have cj:X<(J.length:Int):=of_decide_eq_true (by assumption)
              obtain⟨d2,dh,am,an⟩:=Zu ak.out X ci cj
              have b6:=an
              have b7:=am
              obtain rfl:Z=d2:=(by injection dh)
              replace am:=(HB.out.cell (World.block_lt_of_cell? w _ am)).trans am
              replace an:=(HB.out.cell (World.block_lt_of_cell? w _ an)).trans an
              replace ci:=eq_true ci
              replace cj:=eq_true cj
              refine Zm (n:=13) (S:=fun w'=>w'.cell? ⟨ξ,0,none⟩=some (.slice ζ B.length γ)∧w'.cell? ⟨ξ,1,none⟩=some (.slice (some Z) J.length δ)∧w'.cell? (Z.add (((ω)).toNat * 2))=some (.int .i64 ((Qo J (ω)).f0))∧w'.cell? ⟨(Z.add (((ω)).toNat * 2)).block,(Z.add (((ω)).toNat * 2)).off+1,none⟩=some (.int .i64 ((Qo J (ω)).f1))∧w'.cell? (Z.add ((X).toNat * 2))=some (.int .i64 ((Qo J X).f0))∧w'.cell? ⟨(Z.add ((X).toNat * 2)).block,(Z.add ((X).toNat * 2)).off+1,none⟩=some (.int .i64 ((Qo J X).f1))) (ds:=[]) #[false,false,false,false,false,false,false,false,false,false,false,false,false] kr rfl rfl ⟨(Qi O.out 0).trans rfl,(Qi O.out 1).trans rfl,((HB.out.cell (World.block_lt_of_cell? w _ b5)).trans b5),((HB.out.cell (World.block_lt_of_cell? w _ b4)).trans b4),((HB.out.cell (World.block_lt_of_cell? w _ b7)).trans b7),((HB.out.cell (World.block_lt_of_cell? w _ b6)).trans b6)⟩ (fun hHeld=>?_);refine Q7 newelref19_May.Nk newelref19_May.Mj (fun HT_ HW_=>?_)
              generalize iz.drew=gl at U O HB aj al am an hHeld ⊢
              refine qP 0 (some 66) (bN 13 1) HT_ ?_
              refine qP 2 (some 68) (bN 13 5) HT_ ?_
              refine qP 3 (some 69) (bN 13 13) HT_ ?_
              refine qP 6 (some 72) (bN 13 77) HT_ ?_
              refine qP 8 (some 74) (bN 13 333) HT_ ?_
              refine qT 1 (some 67) (bN 13 335) HT_ HW_ hHeld ?_
              refine qP 4 (some 70) (bN 13 351) HT_ ?_
              refine qT 5 (some 71) (bN 13 383) HT_ HW_ hHeld ?_
              refine qT 7 (some 73) (bN 13 511) HT_ HW_ hHeld ?_
              refine qP 9 (some 75) (bN 13 1023) HT_ ?_
              refine qT 10 (some 76) (bN 13 2047) HT_ HW_ hHeld ?_
              refine Zi (i:=11) (N:=some 77) (bN 13 4095) rfl rfl (Q2 HT_.out kr) (by decide) (fun K hK=>?_)
              refine Zh Try.func40 kr rfl #[.agg #[.int .i64 ((Qo J (ω)).f0),.int .i64 ((Qo J (ω)).f1)],.agg #[.int .i64 ((Qo J X).f0),.int .i64 ((Qo J X).f1)]] (by rfl) rfl rfl (by(try simp only[List.map_toArray,List.map_cons,List.map_nil]);first|done|(simp only[bp];rfl)|rfl|(simp only[List.length_drop,List.length_take];rfl)) ?_
              with_reducible refine(newelref19_before.calls ((Qo J (ω)).f0) ((Qo J (ω)).f1) ((Qo J X).f0) ((Qo J X).f1) true _ bv.out).mono ?_
              rintro e f5 ⟨rfl,hb⟩
              refine⟨_,rfl, ?_⟩
              replace U:=sBk U hb
              replace O:=sBk O hb
              replace HB:=sHb hb
              (try clear hb)
              (try clear a4)
              (try clear hk)
              (try clear hi)
              refine hK.out _ _ ⟨qc O,qc O,((HB.out.cell (World.block_lt_of_cell? w _ b5)).trans b5),((HB.out.cell (World.block_lt_of_cell? w _ b4)).trans b4),((HB.out.cell (World.block_lt_of_cell? w _ b7)).trans b7),((HB.out.cell (World.block_lt_of_cell? w _ b6)).trans b6)⟩ (fun hHeld=>?_)
              clear hK K
              refine qN (some 77) ?_
              refine qP 12 (some 11) (bN 13 8191) HT_ ?_
              refine Zr (Ze HT_.out kr) ?_
              try go_wp2
              go_roundg k2
              case measure=>have:=σ.out;have:=ag.out;omega
              case rel=>exact⟨(wrap64 (X+1)),rfl,H',⟨by have:=σ.out;have:=ag.out;omega⟩,U,O,HB⟩
             ·replace dn:=Bool.eq_false_iff.mpr dn
              subst dn
              have H1:(some false)=some r:=by rw[if_neg (show ¬ (false=true) by decide)] at H;exact H
              clear H
              have H:=H1
              clear H1
              obtain rfl:=Option.some.inj H
              have j3:=a1.out
              have j4:=a0.out
              obtain⟨e8,e9,ea,eb⟩:=qD2 O.out
              try go_wp2
              replace U:=Aside0.mk (Qa U.out)
              replace O:=Aside0.mk (Qa O.out)
              replace HB:=Aside0.mk (Qf HB.out)
              have bc:0≤(X:Int):=of_decide_eq_true (by assumption)
              have bd:X<(J.length:Int):=of_decide_eq_true (by assumption)
              obtain⟨Z,cd,μ,ν⟩:=Zu ak.out X bc bd
              have χ := ν
              have ψ := μ
              cases cd
              replace μ :=(HB.out.cell (World.block_lt_of_cell? w _ μ)).trans μ
              replace ν :=(HB.out.cell (World.block_lt_of_cell? w _ ν)).trans ν
              replace bc:=eq_true bc
              replace bd:=eq_true bd
              refine Zm (n:=8) (S:=fun w'=>w'.cell? ⟨a2,0,none⟩=some (.int .i64 D)∧w'.cell? ⟨a2,1,none⟩=some (.int .i64 I)∧w'.cell? ⟨ξ,0,none⟩=some (.slice ζ B.length γ)∧w'.cell? ⟨ξ,1,none⟩=some (.slice (some Z) J.length δ)∧w'.cell? (Z.add ((X).toNat * 2))=some (.int .i64 ((Qo J X).f0))∧w'.cell? ⟨(Z.add ((X).toNat * 2)).block,(Z.add ((X).toNat * 2)).off+1,none⟩=some (.int .i64 ((Qo J X).f1))) (ds:=[]) #[false,false,false,false,false,false,false,false] kr rfl rfl ⟨(Qi U.out 0).trans rfl,(Qi U.out 1).trans rfl,(Qi O.out 0).trans rfl,(Qi O.out 1).trans rfl,((HB.out.cell (World.block_lt_of_cell? w _ ψ)).trans ψ),((HB.out.cell (World.block_lt_of_cell? w _ χ)).trans χ)⟩ (fun hHeld=>?_);refine Q7 newelref19_May.Wm newelref19_May.V2 (fun HT_ HW_=>?_)
              generalize wr.drew=gx at U O HB μ ν hHeld ⊢
              refine qP 1 (some 56) (bN 8 2) HT_ ?_
              refine qP 3 (some 58) (bN 8 10) HT_ ?_
              refine qT 0 (some 55) (bN 8 11) HT_ HW_ hHeld ?_
              refine qT 2 (some 57) (bN 8 15) HT_ HW_ hHeld ?_
              refine qP 4 (some 59) (bN 8 31) HT_ ?_
              refine qT 5 (some 60) (bN 8 63) HT_ HW_ hHeld ?_
              refine Zi (i:=6) (N:=some 61) (bN 8 127) rfl rfl (Q2 HT_.out kr) (by decide) (fun K hK=>?_)
              refine Zh Try.func39 kr rfl #[.agg #[.int .i64 D,.int .i64 I],.agg #[.int .i64 ((Qo J X).f0),.int .i64 ((Qo J X).f1)]] (by rfl) rfl rfl qM ?_
              with_reducible refine(newelref19_Inside.calls D I ((Qo J X).f0) ((Qo J X).f1) true _ dl.out).mono ?_
              rintro e el ⟨rfl,hb⟩
              refine⟨_,rfl, ?_⟩
              replace U:=sBk U hb
              replace O:=sBk O hb
              replace HB:=sHb hb
              (try clear hb)
              (try clear a4)
              (try clear hk)
              (try clear hi)
              refine hK.out _ _ ⟨qc U,qc U,qc O,qc O,((HB.out.cell (World.block_lt_of_cell? w _ ψ)).trans ψ),((HB.out.cell (World.block_lt_of_cell? w _ χ)).trans χ)⟩ (fun hHeld=>?_)
              clear hK K
              refine qN (some 61) ?_
              refine qP 7 (some 10) (bN 8 255) HT_ ?_
              refine Zr (Ze HT_.out kr) ?_
              try go_wp2
              replace U:=Aside0.mk (Qa U.out)
              replace O:=Aside0.mk (Qa O.out)
              replace HB:=Aside0.mk (Qf HB.out)
              have cg:0≤((ω):Int):=of_decide_eq_true (by assumption)
              have ch:(ω)<(J.length:Int):=of_decide_eq_true (by assumption)
              obtain⟨d1,d9,aj,al⟩:=Zu ak.out (ω) cg ch
              have b4:=al
              have b5:=aj
              obtain rfl:Z=d1:=(by injection d9)
              replace aj:=(HB.out.cell (World.block_lt_of_cell? w _ aj)).trans aj
              replace al:=(HB.out.cell (World.block_lt_of_cell? w _ al)).trans al
              replace cg:=eq_true cg
              replace ch:=eq_true ch
              have ci:0≤(X:Int):=of_decide_eq_true (by assumption)
              have cj:X<(J.length:Int):=of_decide_eq_true (by assumption)
              obtain⟨d2,dh,am,an⟩:=Zu ak.out X ci cj
              have b6:=an
              have b7:=am
              obtain rfl:Z=d2:=(by injection dh)
              replace am:=(HB.out.cell (World.block_lt_of_cell? w _ am)).trans am
              replace an:=(HB.out.cell (World.block_lt_of_cell? w _ an)).trans an
              replace ci:=eq_true ci
              replace cj:=eq_true cj
              refine Zm (n:=13) (S:=fun w'=>w'.cell? ⟨ξ,0,none⟩=some (.slice ζ B.length γ)∧w'.cell? ⟨ξ,1,none⟩=some (.slice (some Z) J.length δ)∧w'.cell? (Z.add (((ω)).toNat * 2))=some (.int .i64 ((Qo J (ω)).f0))∧w'.cell? ⟨(Z.add (((ω)).toNat * 2)).block,(Z.add (((ω)).toNat * 2)).off+1,none⟩=some (.int .i64 ((Qo J (ω)).f1))∧w'.cell? (Z.add ((X).toNat * 2))=some (.int .i64 ((Qo J X).f0))∧w'.cell? ⟨(Z.add ((X).toNat * 2)).block,(Z.add ((X).toNat * 2)).off+1,none⟩=some (.int .i64 ((Qo J X).f1))) (ds:=[]) #[false,false,false,false,false,false,false,false,false,false,false,false,false] kr rfl rfl ⟨(Qi O.out 0).trans rfl,(Qi O.out 1).trans rfl,((HB.out.cell (World.block_lt_of_cell? w _ b5)).trans b5),((HB.out.cell (World.block_lt_of_cell? w _ b4)).trans b4),((HB.out.cell (World.block_lt_of_cell? w _ b7)).trans b7),((HB.out.cell (World.block_lt_of_cell? w _ b6)).trans b6)⟩ (fun hHeld=>?_);refine Q7 newelref19_May.Nk newelref19_May.Mj (fun HT_ HW_=>?_)
              generalize el.drew=mz at U O HB aj al am an hHeld ⊢
              refine qP 0 (some 66) (bN 13 1) HT_ ?_
              refine qP 2 (some 68) (bN 13 5) HT_ ?_
              refine qP 3 (some 69) (bN 13 13) HT_ ?_
              refine qP 6 (some 72) (bN 13 77) HT_ ?_
              refine qP 8 (some 74) (bN 13 333) HT_ ?_
              refine qT 1 (some 67) (bN 13 335) HT_ HW_ hHeld ?_
              refine qP 4 (some 70) (bN 13 351) HT_ ?_
              refine qT 5 (some 71) (bN 13 383) HT_ HW_ hHeld ?_
              refine qT 7 (some 73) (bN 13 511) HT_ HW_ hHeld ?_
              refine qP 9 (some 75) (bN 13 1023) HT_ ?_
              refine qT 10 (some 76) (bN 13 2047) HT_ HW_ hHeld ?_
              refine Zi (i:=11) (N:=some 77) (bN 13 4095) rfl rfl (Q2 HT_.out kr) (by decide) (fun K hK=>?_)
              refine Zh Try.func40 kr rfl #[.agg #[.int .i64 ((Qo J (ω)).f0),.int .i64 ((Qo J (ω)).f1)],.agg #[.int .i64 ((Qo J X).f0),.int .i64 ((Qo J X).f1)]] (by rfl) rfl rfl (by(try simp only[List.map_toArray,List.map_cons,List.map_nil]);first|done|(simp only[bp];rfl)|rfl|(simp only[List.length_drop,List.length_take];rfl)) ?_
              with_reducible refine(newelref19_before.calls ((Qo J (ω)).f0) ((Qo J (ω)).f1) ((Qo J X).f0) ((Qo J X).f1) false _ bv.out).mono ?_
              rintro e ew ⟨rfl,hb⟩
              refine⟨_,rfl, ?_⟩
              replace U:=sBk U hb
              replace O:=sBk O hb
              replace HB:=sHb hb
              (try clear hb)
              (try clear a4)
              (try clear hk)
              (try clear hi)
              refine hK.out _ _ ⟨qc O,qc O,((HB.out.cell (World.block_lt_of_cell? w _ b5)).trans b5),((HB.out.cell (World.block_lt_of_cell? w _ b4)).trans b4),((HB.out.cell (World.block_lt_of_cell? w _ b7)).trans b7),((HB.out.cell (World.block_lt_of_cell? w _ b6)).trans b6)⟩ (fun hHeld=>?_)
              clear hK K
              refine qN (some 77) ?_
              refine qP 12 (some 11) (bN 13 8191) HT_ ?_
              refine Zr (Ze HT_.out kr) ?_
              try go_wp2
              go_ret
              exact⟨by first|rfl|(simp[Qz,Qy] <;> rfl)|(simp only[← bp];first|rfl|(simp[Qz,Qy] <;> rfl))|(simp[*,Qz,Qy] <;> rfl),HB.out⟩
            ·rw[if_neg ed] at H
             exact absurd H (by simp)
           ·rw[if_neg cv] at H
            exact absurd H (by simp)
          ·rw[if_neg ec] at H
           have c46b0:decide (0<X)=false:=decide_eq_false ec
           clear ec
           have H':=Aside0.mk H
           clear H
           have i6:=a1.out
           have i7:=a0.out
           obtain⟨ee,ef,eg,ei⟩:=qD2 O.out
           try go_wp2
           replace U:=Aside0.mk (Qa U.out)
           replace O:=Aside0.mk (Qa O.out)
           replace HB:=Aside0.mk (Qf HB.out)
           have bc:0≤(X:Int):=of_decide_eq_true (by assumption)
           have bd:X<(J.length:Int):=of_decide_eq_true (by assumption)
           obtain⟨Z,cd,μ,ν⟩:=Zu ak.out X bc bd
           have χ := ν
           have ψ := μ
           cases cd
           replace μ :=(HB.out.cell (World.block_lt_of_cell? w _ μ)).trans μ
           replace ν :=(HB.out.cell (World.block_lt_of_cell? w _ ν)).trans ν
           replace bc:=eq_true bc
           replace bd:=eq_true bd
           refine Zm (n:=8) (S:=fun w'=>w'.cell? ⟨a2,0,none⟩=some (.int .i64 D)∧w'.cell? ⟨a2,1,none⟩=some (.int .i64 I)∧w'.cell? ⟨ξ,0,none⟩=some (.slice ζ B.length γ)∧w'.cell? ⟨ξ,1,none⟩=some (.slice (some Z) J.length δ)∧w'.cell? (Z.add ((X).toNat * 2))=some (.int .i64 ((Qo J X).f0))∧w'.cell? ⟨(Z.add ((X).toNat * 2)).block,(Z.add ((X).toNat * 2)).off+1,none⟩=some (.int .i64 ((Qo J X).f1))) (ds:=[]) #[false,false,false,false,false,false,false,false] kr rfl rfl ⟨(Qi U.out 0).trans rfl,(Qi U.out 1).trans rfl,(Qi O.out 0).trans rfl,(Qi O.out 1).trans rfl,((HB.out.cell (World.block_lt_of_cell? w _ ψ)).trans ψ),((HB.out.cell (World.block_lt_of_cell? w _ χ)).trans χ)⟩ (fun hHeld=>?_);refine Q7 newelref19_May.Wm newelref19_May.V2 (fun HT_ HW_=>?_)
           generalize wr.drew=f7 at U O HB μ ν hHeld ⊢
           refine qP 1 (some 56) (bN 8 2) HT_ ?_
           refine qP 3 (some 58) (bN 8 10) HT_ ?_
           refine qT 0 (some 55) (bN 8 11) HT_ HW_ hHeld ?_
           refine qT 2 (some 57) (bN 8 15) HT_ HW_ hHeld ?_
           refine qP 4 (some 59) (bN 8 31) HT_ ?_
           refine qT 5 (some 60) (bN 8 63) HT_ HW_ hHeld ?_
           refine Zi (i:=6) (N:=some 61) (bN 8 127) rfl rfl (Q2 HT_.out kr) (by decide) (fun K hK=>?_)
           refine Zh Try.func39 kr rfl #[.agg #[.int .i64 D,.int .i64 I],.agg #[.int .i64 ((Qo J X).f0),.int .i64 ((Qo J X).f1)]] (by rfl) rfl rfl qM ?_
           with_reducible refine(newelref19_Inside.calls D I ((Qo J X).f0) ((Qo J X).f1) true _ dl.out).mono ?_
           rintro e em ⟨rfl,hb⟩
           refine⟨_,rfl, ?_⟩
           replace U:=sBk U hb
           replace O:=sBk O hb
           replace HB:=sHb hb
           (try clear hb)
           (try clear a4)
           (try clear hk)
           (try clear hi)
           refine hK.out _ _ ⟨qc U,qc U,qc O,qc O,((HB.out.cell (World.block_lt_of_cell? w _ ψ)).trans ψ),((HB.out.cell (World.block_lt_of_cell? w _ χ)).trans χ)⟩ (fun hHeld=>?_)
           clear hK K
           refine qN (some 61) ?_
           refine qP 7 (some 10) (bN 8 255) HT_ ?_
           refine Zr (Ze HT_.out kr) ?_
           try go_wp2
           go_roundg k2
           case measure=>have:=σ.out;have:=ag.out;omega
           case rel=>exact⟨(wrap64 (X+1)),rfl,H',⟨by have:=σ.out;have:=ag.out;omega⟩,U,O,HB⟩
         ·replace g0:=Bool.eq_false_iff.mpr g0
          subst g0
          have H1:(some false)=some r:=by rw[if_neg (show ¬ (false=true) by decide)] at H;exact H
          clear H
          have H:=H1
          clear H1
          obtain rfl:=Option.some.inj H
          have e3:=a1.out
          have e4:=a0.out
          obtain⟨gt,h6,h7,h8⟩:=qD2 O.out
          try go_wp2
          replace U:=Aside0.mk (Qa U.out)
          replace O:=Aside0.mk (Qa O.out)
          replace HB:=Aside0.mk (Qf HB.out)
          have bc:0≤(X:Int):=of_decide_eq_true (by assumption)
          have bd:X<(J.length:Int):=of_decide_eq_true (by assumption)
          obtain⟨Z,cd,μ,ν⟩:=Zu ak.out X bc bd
          have χ := ν
          have ψ := μ
          cases cd
          replace μ :=(HB.out.cell (World.block_lt_of_cell? w _ μ)).trans μ
          replace ν :=(HB.out.cell (World.block_lt_of_cell? w _ ν)).trans ν
          replace bc:=eq_true bc
          replace bd:=eq_true bd
          refine Zm (n:=8) (S:=fun w'=>w'.cell? ⟨a2,0,none⟩=some (.int .i64 D)∧w'.cell? ⟨a2,1,none⟩=some (.int .i64 I)∧w'.cell? ⟨ξ,0,none⟩=some (.slice ζ B.length γ)∧w'.cell? ⟨ξ,1,none⟩=some (.slice (some Z) J.length δ)∧w'.cell? (Z.add ((X).toNat * 2))=some (.int .i64 ((Qo J X).f0))∧w'.cell? ⟨(Z.add ((X).toNat * 2)).block,(Z.add ((X).toNat * 2)).off+1,none⟩=some (.int .i64 ((Qo J X).f1))) (ds:=[]) #[false,false,false,false,false,false,false,false] kr rfl rfl ⟨(Qi U.out 0).trans rfl,(Qi U.out 1).trans rfl,(Qi O.out 0).trans rfl,(Qi O.out 1).trans rfl,((HB.out.cell (World.block_lt_of_cell? w _ ψ)).trans ψ),((HB.out.cell (World.block_lt_of_cell? w _ χ)).trans χ)⟩ (fun hHeld=>?_);refine Q7 newelref19_May.Wm newelref19_May.V2 (fun HT_ HW_=>?_)
          generalize wr.drew=kc at U O HB μ ν hHeld ⊢
          refine qP 1 (some 56) (bN 8 2) HT_ ?_
          refine qP 3 (some 58) (bN 8 10) HT_ ?_
          refine qT 0 (some 55) (bN 8 11) HT_ HW_ hHeld ?_
          refine qT 2 (some 57) (bN 8 15) HT_ HW_ hHeld ?_
          refine qP 4 (some 59) (bN 8 31) HT_ ?_
          refine qT 5 (some 60) (bN 8 63) HT_ HW_ hHeld ?_
          refine Zi (i:=6) (N:=some 61) (bN 8 127) rfl rfl (Q2 HT_.out kr) (by decide) (fun K hK=>?_)
          refine Zh Try.func39 kr rfl #[.agg #[.int .i64 D,.int .i64 I],.agg #[.int .i64 ((Qo J X).f0),.int .i64 ((Qo J X).f1)]] (by rfl) rfl rfl qM ?_
          with_reducible refine(newelref19_Inside.calls D I ((Qo J X).f0) ((Qo J X).f1) false _ dl.out).mono ?_
          rintro e f8 ⟨rfl,hb⟩
          refine⟨_,rfl, ?_⟩
          replace U:=sBk U hb
          replace O:=sBk O hb
          replace HB:=sHb hb
          (try clear hb)
          (try clear a4)
          (try clear hk)
          (try clear hi)
          refine hK.out _ _ ⟨qc U,qc U,qc O,qc O,((HB.out.cell (World.block_lt_of_cell? w _ ψ)).trans ψ),((HB.out.cell (World.block_lt_of_cell? w _ χ)).trans χ)⟩ (fun hHeld=>?_)
          clear hK K
          refine qN (some 61) ?_
          refine qP 7 (some 10) (bN 8 255) HT_ ?_
          refine Zr (Ze HT_.out kr) ?_
          try go_wp2
          go_ret
          exact⟨rfl,HB.out⟩
        ·rw[if_neg dx] at H
         exact absurd H (by simp)
       ·rw[if_neg cu] at H
        have c42b0:decide (X<(J.length:Int))=false:=decide_eq_false cu
        clear cu
        obtain rfl:=Option.some.inj H
        have ep:=a1.out
        have er:=a0.out
        obtain⟨fo,fp,ft,fv⟩:=qD2 O.out
        go_wp2
        go_ret
        exact⟨rfl,HB.out⟩
 ·replace c4:=Bool.eq_false_iff.mpr c4
  subst c4
  have H1:(some false)=some r:=by rw[if_neg (show ¬ (false=true) by decide)] at H;exact H
  clear H
  have H:=H1
  clear H1
  obtain rfl:=Option.some.inj H
  go_enter Try.func13,Try.ntmps13
  go_wp2_with (first|((with_reducible refine Qs (N:=2) rfl ?_);refine qE 2 #[.int .i64 D,.int .i64 I] 23 ?_;intro a2 hg f9 hbox hb;have U:=Aside0.mk hbox;have du:=sGe hg;have dy:=sGe hg;replace HB:=sHb hb;clear hb hbox hg)|((with_reducible refine Qs (N:=3) rfl ?_);refine qE 3 #[.slice ζ B.length γ,.slice η J.length δ] 27 ?_;intro ξ hg fa hbox hb;have O:=Aside0.mk hbox;have dz:=sGe hg;have e0:=sGe hg;have a0:=sNl U hg;have a1:=sNg U hg;replace U:=sBk U hb;replace HB:=sHb hb;clear hb hbox hg;have ij:=a0.out;have ik:=a1.out;obtain⟨fw,fx,fy,fz⟩:=qD2 U.out)|((with_reducible refine Q0 (f:=37) rfl ?_);refine Zl (some 13) rfl rfl Try.func37 kr rfl #[.agg #[.int .i64 D,.int .i64 I]] rfl qM ?_;(with_reducible refine(newelref19_House.calls D I false _ A3.out).mono ?_);rintro e fb ⟨rfl,hb⟩;refine⟨_,rfl, ?_⟩;replace U:=sBk U hb;replace O:=sBk O hb;replace HB:=sHb hb;(try clear hb);(try clear a4);(try clear hk);(try clear hi)))
  go_ret
  exact⟨rfl,HB.out⟩
def newelref06_Same.l0:Nat→List Int→List Int→Int→Option (Bool)
 |0,_,_,_=>none
 |k+1,I,D,L=>if L<(I.length:Int) then (if 0≤L then (if L<(D.length:Int) then (if (rd I L)=(rd D L) then (newelref06_Same.l0 k I D (wrap64 (L+1))) else (some false)) else (none)) else (none)) else (some true)
def newelref06_Same.f (k:Nat) (l0:List Int) (l1:List Int):Option (Bool):=if (l0.length:Int)=(l1.length:Int) then (newelref06_Same.l0 k l0 l1 0) else (some false)
theorem newelref06_Same.Zk:∀ k,(∀ J L O,LeO (newelref06_Same.l0 k J L O) (newelref06_Same.l0 (k+1) J L O))
 |0=>fun _ _ _ r h=>by simp[newelref06_Same.l0] at h
 |k+1=>by
  have B:=newelref06_Same.Zk k
  ·intro J L O
   unfold newelref06_Same.l0
   repeat' first
   |(with_reducible exact B _ _ _)
   |(with_reducible exact LeO.refl _)
   |(with_reducible exact LeO.none _)
   |(with_reducible refine LeO.ite ?_ ?_)
   |(with_reducible refine LeO.bind ?_ (fun _=>?_))
   |exact B _ _ _
   |exact LeO.none _
   |refine LeO.ite ?_ ?_
   |refine LeO.bind ?_ (fun _=>?_)
theorem newelref06_Same.mono:∀ D J k,LeO (newelref06_Same.f k D J) (newelref06_Same.f (k+1) D J):=by
 intro D J k
 have B:=newelref06_Same.Zk k
 unfold newelref06_Same.f
 repeat' first
   |(with_reducible exact B _ _ _)
   |(with_reducible exact LeO.refl _)
   |(with_reducible exact LeO.none _)
   |(with_reducible refine LeO.ite ?_ ?_)
   |(with_reducible refine LeO.bind ?_ (fun _=>?_))
   |exact B _ _ _
   |exact LeO.none _
   |refine LeO.ite ?_ ?_
   |refine LeO.bind ?_ (fun _=>?_)
set_option maxHeartbeats 8000000 in
set_option maxRecDepth 100000 in
theorem newelref06_Same.calls (k:Nat) (Y:Option Addr) (c0:Nat) (l0:List Int) (A1:Option Addr) (c1:Nat) (l1:List Int) (r:Bool) (w:World) (ε :Kd.C (Kd.int .i64) w Y l0.length l0) (L:l0.length≤c0) (Z:Kd.C (Kd.int .i64) w A1 l1.length l1) (X:l1.length≤c1) (h:newelref06_Same.f k l0 l1=some r):
  Calls Try.prog 46 #[.slice Y l0.length c0,.slice A1 l1.length c1] w fun e w'=>e = .returned (.bool r)∧Drawn0 w w':=by
 have θ :=Aside0.mk ε
 have a6:=Aside0.mk L
 clear ε L
 have ζ :=Aside0.mk Z
 have φ :=Aside0.mk X
 clear Z X
 have H:(if (l0.length:Int)=(l1.length:Int) then (newelref06_Same.l0 k l0 l1 0) else (some false))=some r:=h
 clear h
 by_cases c3:(l0.length:Int)=(l1.length:Int)
 ·rw[if_pos c3] at H
  have c3b0:((l0.length:Int)==(l1.length:Int))=true:=beq_iff_eq.mpr c3
  have c3b1:((l0.length:Int) != (l1.length:Int))=false:=bne_eq_false_iff_eq.mpr c3
  have c3b2:(l0.length==l1.length)=true:=by first|simpa using c3|(simp at c3 ⊢;omega)
  clear c3
  have H':=Aside0.mk H
  clear H
  go_enter Try.func46,Try.ntmps46
  go_wp2
  repeat(go_quiet (fail);try go_wp2)
  go_loopg [5] k (fun kq v5 w'=>∃ (D:Int),v5 = .int .i64 D∧Aside0 (newelref06_Same.l0 kq l0 l1 D=some r)∧Aside0 (kq≤k)∧Drawn0 w w')
  case atStart=>exact⟨(0),qR,H',⟨Nat.le_refl _⟩,by repeat(first|exact Drawn0.refl _|apply Drawn0.step)⟩
  case round=>
   clear H'
   try clear c1
   try clear p2
   try clear c3
   try clear c3b0
   try clear c3b1
   try clear c3b2
   obtain⟨D,rfl,HA,σ,⟨m1,rfl⟩⟩:=hrel
   cases gk with
   |zero=>exact absurd HA.out (by simp[newelref06_Same.l0])
   |succ k1=>
    have H:=HA.out
    clear HA
    simp only[newelref06_Same.l0] at H
    by_cases c4:D<(l0.length:Int)
    ·rw[if_pos c4] at H
     have c4b0:decide (D<(l0.length:Int))=true:=decide_eq_true c4
     clear c4
     by_cases c5:0≤D
     ·rw[if_pos c5] at H
      have c5b0:decide (0≤D)=true:=decide_eq_true c5
      clear c5
      by_cases c6:D<(l1.length:Int)
      ·rw[if_pos c6] at H
       have c6b0:decide (D<(l1.length:Int))=true:=decide_eq_true c6
       clear c6
       by_cases c7:(rd l0 D)=(rd l1 D)
       ·rw[if_pos c7] at H
        have c7b0:((rd l0 D)==(rd l1 D))=true:=beq_iff_eq.mpr c7
        have c7b1:((rd l0 D) != (rd l1 D))=false:=bne_eq_false_iff_eq.mpr c7
        clear c7
        have H':=Aside0.mk H
        clear H
        have B:0≤(D:Int):=of_decide_eq_true (by first|(with_reducible assumption)|assumption)
        have I:D<(l0.length:Int):=of_decide_eq_true (by first|(with_reducible assumption)|assumption)
        obtain⟨ι,U,δ⟩:=Kd.K9 θ.out D B I
        cases U
        replace B:=eq_true B
        replace I:=eq_true I
        have J:0≤(D:Int):=of_decide_eq_true (by first|(with_reducible assumption)|assumption)
        have O:D<(l1.length:Int):=of_decide_eq_true (by first|(with_reducible assumption)|assumption)
        obtain⟨κ,γ,η⟩:=Kd.K9 ζ.out D J O
        cases γ
        replace J:=eq_true J
        replace O:=eq_true O
        go_wp2
        repeat(go_quiet (fail);try go_wp2)
        go_roundg k1
        case measure=>have:=σ.out;omega
        case rel=>exact⟨(wrap64 (D+1)),qR,H',⟨by have:=σ.out;omega⟩,by repeat(first|exact Drawn0.refl _|apply Drawn0.step)⟩
       ·rw[if_neg c7] at H
        have c7b0:((rd l0 D)==(rd l1 D))=false:=beq_eq_false_iff_ne.mpr c7
        have c7b1:((rd l0 D) != (rd l1 D))=true:=bne_iff_ne.mpr c7
        obtain rfl:=Option.some.inj H
        have B:0≤(D:Int):=of_decide_eq_true (by first|(with_reducible assumption)|assumption)
        have I:D<(l0.length:Int):=of_decide_eq_true (by first|(with_reducible assumption)|assumption)
        obtain⟨ι,U,δ⟩:=Kd.K9 θ.out D B I
        cases U
        replace B:=eq_true B
        replace I:=eq_true I
        have J:0≤(D:Int):=of_decide_eq_true (by first|(with_reducible assumption)|assumption)
        have O:D<(l1.length:Int):=of_decide_eq_true (by first|(with_reducible assumption)|assumption)
        obtain⟨κ,γ,η⟩:=Kd.K9 ζ.out D J O
        cases γ
        replace J:=eq_true J
        replace O:=eq_true O
        go_wp2
        repeat(go_quiet (fail);try go_wp2)
        go_ret
        exact⟨qR,by repeat(first|exact Drawn0.refl _|apply Drawn0.step)⟩
      ·rw[if_neg c6] at H
       exact absurd H (by simp)
     ·rw[if_neg c5] at H
      exact absurd H (by simp)
    ·rw[if_neg c4] at H
     have c4b0:decide (D<(l0.length:Int))=false:=decide_eq_false c4
     clear c4
     obtain rfl:=Option.some.inj H
     go_wp2
     repeat(go_quiet (fail);try go_wp2)
     go_ret
     exact⟨qR,by repeat(first|exact Drawn0.refl _|apply Drawn0.step)⟩
 ·rw[if_neg c3] at H
  have c3b0:((l0.length:Int)==(l1.length:Int))=false:=beq_eq_false_iff_ne.mpr c3
  have c3b1:((l0.length:Int) != (l1.length:Int))=true:=bne_iff_ne.mpr c3
  have c3b2:(l0.length==l1.length)=false:=by first|simpa using c3|(simp at c3 ⊢;omega)
  obtain rfl:=Option.some.inj H
  go_enter Try.func46,Try.ntmps46
  go_wp2
  repeat(go_quiet (fail);try go_wp2)
  go_ret
  exact⟨qR,by repeat(first|exact Drawn0.refl _|apply Drawn0.step)⟩
def newelref19_SameView.f (k:Nat) (D:List Int) (I:List Int) (O:List Int) (B:List Int) (J:List Int) (U:List Int):Option (Bool):=(newelref06_Same.f k D B).bind fun κ =>((newelref06_Same.f k I J).bind fun ι =>((newelref06_Same.f k O U).bind fun X=>(if κ = true then (if ι = true then (some X) else (some false)) else (some false))))
theorem newelref19_SameView.mono:∀ D J a2 X L a5 k,LeO (newelref19_SameView.f k D J a2 X L a5) (newelref19_SameView.f (k+1) D J a2 X L a5):=by
 intro D J a2 X L a5 k
 unfold newelref19_SameView.f
 repeat' first
   |(with_reducible exact newelref06_Same.mono _ _ _)
   |(with_reducible exact LeO.refl _)
   |(with_reducible exact LeO.none _)
   |(with_reducible refine LeO.ite ?_ ?_)
   |(with_reducible refine LeO.bind ?_ (fun _=>?_))
   |exact newelref06_Same.mono _ _ _
   |exact LeO.none _
   |refine LeO.ite ?_ ?_
   |refine LeO.bind ?_ (fun _=>?_)
set_option maxHeartbeats 8000000 in
set_option maxRecDepth 100000 in
theorem newelref19_SameView.calls (k:Nat) (μ :Option Addr) (Y:Nat) (D:List Int) (ρ:Option Addr) (θ :Nat) (I:List Int) (ν :Option Addr) (ξ :Nat) (O:List Int) (ζ :Option Addr) (γ:Nat) (B:List Int) (η :Option Addr) (δ :Nat) (J:List Int) (σ:Option Addr) (τ :Nat) (U:List Int) (r:Bool) (w:World) (ω :Kd.C (Kd.int .i64) w μ D.length D) (a2:D.length≤Y) (aj:Kd.C (Kd.int .i64) w ρ I.length I) (al:I.length ≤ θ) (a4:Kd.C (Kd.int .i64) w ν O.length O) (a5:O.length ≤ ξ) (bj:Kd.C (Kd.int .i64) w ζ B.length B) (bk:B.length≤γ) (bl:Kd.C (Kd.int .i64) w η J.length J) (bm:J.length ≤ δ) (a6:Kd.C (Kd.int .i64) w σ U.length U) (a7:U.length ≤ τ) (h:newelref19_SameView.f k D I O B J U=some r):
  Calls Try.prog 20 #[.agg #[.slice μ D.length Y,.slice ρ I.length θ,.slice ν O.length ξ],.agg #[.slice ζ B.length γ,.slice η J.length δ,.slice σ U.length τ]] w fun e w'=>e = .returned (.bool r)∧Below w.heap.size w w':=by
 have jx:=Try.underlying47
 have φ :=Aside0.mk ω
 have ab:=Aside0.mk a2
 clear ω a2
 have af:=Aside0.mk aj
 have cb:=Aside0.mk al
 clear aj al
 have ψ :=Aside0.mk a4
 have a0:=Aside0.mk a5
 clear a4 a5
 have ai:=Aside0.mk bj
 have ay:=Aside0.mk bk
 clear bj bk
 have ak:=Aside0.mk bl
 have az:=Aside0.mk bm
 clear bl bm
 have a1:=Aside0.mk a6
 have a3:=Aside0.mk a7
 clear a6 a7
 have HB:=Aside0.mk (Below.refl w.heap.size w)
 have H:((newelref06_Same.f k D B).bind fun κ =>((newelref06_Same.f k I J).bind fun ι =>((newelref06_Same.f k O U).bind fun X=>(if κ = true then (if ι = true then (some X) else (some false)) else (some false)))))=some r:=h
 clear h
 replace H:=Option.bind_eq_some_iff.mp H
 obtain⟨κ,ae,H⟩:=H
 replace H:((newelref06_Same.f k I J).bind fun ι =>((newelref06_Same.f k O U).bind fun X=>(if κ = true then (if ι = true then (some X) else (some false)) else (some false))))=some r:=H
 have A3:=Aside0.mk ae
 clear ae
 replace H:=Option.bind_eq_some_iff.mp H
 obtain⟨ι,cy,H⟩:=H
 replace H:((newelref06_Same.f k O U).bind fun X=>(if κ = true then (if ι = true then (some X) else (some false)) else (some false)))=some r:=H
 have A4:=Aside0.mk cy
 clear cy
 replace H:=Option.bind_eq_some_iff.mp H
 obtain⟨X,bv,H⟩:=H
 replace H:(if κ = true then (if ι = true then (some X) else (some false)) else (some false))=some r:=H
 have A5:=Aside0.mk bv
 clear bv
 by_cases c6: κ = true
 ·subst c6
  have H1:(if ι = true then (some X) else (some false))=some r:=by rw[if_pos rfl] at H;exact H
  clear H
  have H:=H1
  clear H1
  by_cases c7: ι = true
  ·subst c7
   have H1:(some X)=some r:=by rw[if_pos rfl] at H;exact H
   clear H
   have H:=H1
   clear H1
   obtain rfl:=Option.some.inj H
   go_enter Try.func20,Try.ntmps20
   go_wp2_with (first|((with_reducible refine Qs (N:=2) rfl ?_);refine qE 2 #[.slice μ D.length Y,.slice ρ I.length θ,.slice ν O.length ξ] 47 ?_;intro a8 hg w8 hbox hb;have L:=Aside0.mk hbox;have a9:=sGe hg;have aa:=sGe hg;replace HB:=sHb hb;clear hb hbox hg)|((with_reducible refine Qs (N:=3) rfl ?_);refine qE 3 #[.slice ζ B.length γ,.slice η J.length δ,.slice σ U.length τ] 47 ?_;intro ac hg w9 hbox hb;have χ :=Aside0.mk hbox;have ag:=sGe hg;have ah:=sGe hg;have Z:=sNl L hg;have ε :=sNg L hg;replace L:=sBk L hb;replace HB:=sHb hb;clear hb hbox hg;have dh:=Z.out;have di:= ε.out;obtain⟨b0,b1,av,b3,b4,aw⟩:=qD3 L.out;obtain⟨am,an,cz,ao,ap,d8⟩:=qD3 χ.out)|((with_reducible refine Q0 (f:=46) rfl ?_);refine Zl (some 12) rfl rfl Try.func46 kr rfl #[.slice μ D.length Y,.slice ζ B.length γ] rfl qM ?_;(with_reducible refine(newelref06_Same.calls k _ _ D _ _ B true _ ?side1 ?side2 ?side3 ?side4 A3.out).mono ?_);(case side1=>repeat(first|exact(Kd.Qx φ.out HB.out)|(with_reducible refine Kd.Q9 ?_ _)|(with_reducible refine Kd.Q8 ?_ _)|(with_reducible refine Kd.Zc ?_)));(case side2=>exact ab.out);(case side3=>repeat(first|exact(Kd.Qx ai.out HB.out)|(with_reducible refine Kd.Q9 ?_ _)|(with_reducible refine Kd.Q8 ?_ _)|(with_reducible refine Kd.Zc ?_)));(case side4=>exact ay.out);rintro e w' ⟨rfl,⟨nd,rfl⟩⟩;refine⟨_,rfl, ?_⟩)|((with_reducible refine Q0 (f:=46) rfl ?_);refine Zl (some 17) rfl rfl Try.func46 kr rfl #[.slice ρ I.length θ,.slice η J.length δ] rfl qM ?_;(with_reducible refine(newelref06_Same.calls k _ _ I _ _ J true _ ?side1 ?side2 ?side3 ?side4 A4.out).mono ?_);(case side1=>repeat(first|exact(Kd.Qx af.out bel)|(with_reducible refine Kd.Q9 ?_ _)|(with_reducible refine Kd.Q8 ?_ _)|(with_reducible refine Kd.Zc ?_)));(case side2=>exact cb.out);(case side3=>repeat(first|exact(Kd.Qx ak.out bel)|(with_reducible refine Kd.Q9 ?_ _)|(with_reducible refine Kd.Q8 ?_ _)|(with_reducible refine Kd.Zc ?_)));(case side4=>exact az.out);rintro e w' ⟨rfl,⟨nd,rfl⟩⟩;refine⟨_,rfl, ?_⟩)|((with_reducible refine Q0 (f:=46) rfl ?_);refine Zl (some 22) rfl rfl Try.func46 kr rfl #[.slice ν O.length ξ,.slice σ U.length τ] rfl qM ?_;(with_reducible refine(newelref06_Same.calls k _ _ O _ _ U X _ ?side1 ?side2 ?side3 ?side4 A5.out).mono ?_);(case side1=>repeat(first|exact(Kd.Qx ψ.out bel)|(with_reducible refine Kd.Q9 ?_ _)|(with_reducible refine Kd.Q8 ?_ _)|(with_reducible refine Kd.Zc ?_)));(case side2=>exact a0.out);(case side3=>repeat(first|exact(Kd.Qx a1.out bel)|(with_reducible refine Kd.Q9 ?_ _)|(with_reducible refine Kd.Q8 ?_ _)|(with_reducible refine Kd.Zc ?_)));(case side4=>exact a3.out);rintro e w' ⟨rfl,⟨nd,rfl⟩⟩;refine⟨_,rfl, ?_⟩))
   go_ret
   exact⟨by first|rfl|(simp[Qz,Qy] <;> rfl)|(simp[*,Qz,Qy] <;> rfl),bel⟩
  ·replace c7:=Bool.eq_false_iff.mpr c7
   subst c7
   have H1:(some false)=some r:=by rw[if_neg (show ¬ (false=true) by decide)] at H;exact H
   clear H
   have H:=H1
   clear H1
   obtain rfl:=Option.some.inj H
   go_enter Try.func20,Try.ntmps20
   go_wp2_with (first|((with_reducible refine Qs (N:=2) rfl ?_);refine qE 2 #[.slice μ D.length Y,.slice ρ I.length θ,.slice ν O.length ξ] 47 ?_;intro a8 hg fa hbox hb;have L:=Aside0.mk hbox;have a9:=sGe hg;have aa:=sGe hg;replace HB:=sHb hb;clear hb hbox hg)|((with_reducible refine Qs (N:=3) rfl ?_);refine qE 3 #[.slice ζ B.length γ,.slice η J.length δ,.slice σ U.length τ] 47 ?_;intro ac hg f9 hbox hb;have χ :=Aside0.mk hbox;have ag:=sGe hg;have ah:=sGe hg;have Z:=sNl L hg;have ε :=sNg L hg;replace L:=sBk L hb;replace HB:=sHb hb;clear hb hbox hg;have fo:=Z.out;have fp:= ε.out;obtain⟨fy,g0,b9,g2,gb,bf⟩:=qD3 L.out;obtain⟨co,cp,ar,cq,cr,au⟩:=qD3 χ.out)|((with_reducible refine Q0 (f:=46) rfl ?_);refine Zl (some 12) rfl rfl Try.func46 kr rfl #[.slice μ D.length Y,.slice ζ B.length γ] rfl qM ?_;(with_reducible refine(newelref06_Same.calls k _ _ D _ _ B true _ ?side1 ?side2 ?side3 ?side4 A3.out).mono ?_);(case side1=>repeat(first|exact(Kd.Qx φ.out HB.out)|(with_reducible refine Kd.Q9 ?_ _)|(with_reducible refine Kd.Q8 ?_ _)|(with_reducible refine Kd.Zc ?_)));(case side2=>exact ab.out);(case side3=>repeat(first|exact(Kd.Qx ai.out HB.out)|(with_reducible refine Kd.Q9 ?_ _)|(with_reducible refine Kd.Q8 ?_ _)|(with_reducible refine Kd.Zc ?_)));(case side4=>exact ay.out);rintro e w' ⟨rfl,⟨nd,rfl⟩⟩;refine⟨_,rfl, ?_⟩)|((with_reducible refine Q0 (f:=46) rfl ?_);refine Zl (some 17) rfl rfl Try.func46 kr rfl #[.slice ρ I.length θ,.slice η J.length δ] rfl qM ?_;(with_reducible refine(newelref06_Same.calls k _ _ I _ _ J false _ ?side1 ?side2 ?side3 ?side4 A4.out).mono ?_);(case side1=>repeat(first|exact(Kd.Qx af.out bel)|(with_reducible refine Kd.Q9 ?_ _)|(with_reducible refine Kd.Q8 ?_ _)|(with_reducible refine Kd.Zc ?_)));(case side2=>exact cb.out);(case side3=>repeat(first|exact(Kd.Qx ak.out bel)|(with_reducible refine Kd.Q9 ?_ _)|(with_reducible refine Kd.Q8 ?_ _)|(with_reducible refine Kd.Zc ?_)));(case side4=>exact az.out);rintro e w' ⟨rfl,⟨nd,rfl⟩⟩;refine⟨_,rfl, ?_⟩)|((with_reducible refine Q0 (f:=46) rfl ?_);refine Zl (some 22) rfl rfl Try.func46 kr rfl #[.slice ν O.length ξ,.slice σ U.length τ] rfl qM ?_;(with_reducible refine(newelref06_Same.calls k _ _ O _ _ U X _ ?side1 ?side2 ?side3 ?side4 A5.out).mono ?_);(case side1=>repeat(first|exact(Kd.Qx ψ.out bel)|(with_reducible refine Kd.Q9 ?_ _)|(with_reducible refine Kd.Q8 ?_ _)|(with_reducible refine Kd.Zc ?_)));(case side2=>exact a0.out);(case side3=>repeat(first|exact(Kd.Qx a1.out bel)|(with_reducible refine Kd.Q9 ?_ _)|(with_reducible refine Kd.Q8 ?_ _)|(with_reducible refine Kd.Zc ?_)));(case side4=>exact a3.out);rintro e w' ⟨rfl,⟨nd,rfl⟩⟩;refine⟨_,rfl, ?_⟩))
   go_ret
   exact⟨by first|rfl|(simp[Qz,Qy] <;> rfl)|(simp[*,Qz,Qy] <;> rfl),bel⟩
 ·replace c6:=Bool.eq_false_iff.mpr c6
  subst c6
  have H1:(some false)=some r:=by rw[if_neg (show ¬ (false=true) by decide)] at H;exact H
  clear H
  have H:=H1
  clear H1
  obtain rfl:=Option.some.inj H
  go_enter Try.func20,Try.ntmps20
  go_wp2_with (first|((with_reducible refine Qs (N:=2) rfl ?_);refine qE 2 #[.slice μ D.length Y,.slice ρ I.length θ,.slice ν O.length ξ] 47 ?_;intro a8 hg kd hbox hb;have L:=Aside0.mk hbox;have a9:=sGe hg;have aa:=sGe hg;replace HB:=sHb hb;clear hb hbox hg)|((with_reducible refine Qs (N:=3) rfl ?_);refine qE 3 #[.slice ζ B.length γ,.slice η J.length δ,.slice σ U.length τ] 47 ?_;intro ac hg fb hbox hb;have χ :=Aside0.mk hbox;have ag:=sGe hg;have ah:=sGe hg;have Z:=sNl L hg;have ε :=sNg L hg;replace L:=sBk L hb;replace HB:=sHb hb;clear hb hbox hg;have da:=Z.out;have dd:= ε.out;obtain⟨cn,db,ax,dc,de,b2⟩:=qD3 L.out;obtain⟨bc,bp,d5,bq,bs,d6⟩:=qD3 χ.out)|((with_reducible refine Q0 (f:=46) rfl ?_);refine Zl (some 12) rfl rfl Try.func46 kr rfl #[.slice μ D.length Y,.slice ζ B.length γ] rfl qM ?_;(with_reducible refine(newelref06_Same.calls k _ _ D _ _ B false _ ?side1 ?side2 ?side3 ?side4 A3.out).mono ?_);(case side1=>repeat(first|exact(Kd.Qx φ.out HB.out)|(with_reducible refine Kd.Q9 ?_ _)|(with_reducible refine Kd.Q8 ?_ _)|(with_reducible refine Kd.Zc ?_)));(case side2=>exact ab.out);(case side3=>repeat(first|exact(Kd.Qx ai.out HB.out)|(with_reducible refine Kd.Q9 ?_ _)|(with_reducible refine Kd.Q8 ?_ _)|(with_reducible refine Kd.Zc ?_)));(case side4=>exact ay.out);rintro e w' ⟨rfl,⟨nd,rfl⟩⟩;refine⟨_,rfl, ?_⟩)|((with_reducible refine Q0 (f:=46) rfl ?_);refine Zl (some 17) rfl rfl Try.func46 kr rfl #[.slice ρ I.length θ,.slice η J.length δ] rfl qM ?_;(with_reducible refine(newelref06_Same.calls k _ _ I _ _ J ι _ ?side1 ?side2 ?side3 ?side4 A4.out).mono ?_);(case side1=>repeat(first|exact(Kd.Qx af.out bel)|(with_reducible refine Kd.Q9 ?_ _)|(with_reducible refine Kd.Q8 ?_ _)|(with_reducible refine Kd.Zc ?_)));(case side2=>exact cb.out);(case side3=>repeat(first|exact(Kd.Qx ak.out bel)|(with_reducible refine Kd.Q9 ?_ _)|(with_reducible refine Kd.Q8 ?_ _)|(with_reducible refine Kd.Zc ?_)));(case side4=>exact az.out);rintro e w' ⟨rfl,⟨nd,rfl⟩⟩;refine⟨_,rfl, ?_⟩)|((with_reducible refine Q0 (f:=46) rfl ?_);refine Zl (some 22) rfl rfl Try.func46 kr rfl #[.slice ν O.length ξ,.slice σ U.length τ] rfl qM ?_;(with_reducible refine(newelref06_Same.calls k _ _ O _ _ U X _ ?side1 ?side2 ?side3 ?side4 A5.out).mono ?_);(case side1=>repeat(first|exact(Kd.Qx ψ.out bel)|(with_reducible refine Kd.Q9 ?_ _)|(with_reducible refine Kd.Q8 ?_ _)|(with_reducible refine Kd.Zc ?_)));(case side2=>exact a0.out);(case side3=>repeat(first|exact(Kd.Qx a1.out bel)|(with_reducible refine Kd.Q9 ?_ _)|(with_reducible refine Kd.Q8 ?_ _)|(with_reducible refine Kd.Zc ?_)));(case side4=>exact a3.out);rintro e w' ⟨rfl,⟨nd,rfl⟩⟩;refine⟨_,rfl, ?_⟩))
  go_ret
  exact⟨by first|rfl|(simp[Qz,Qy] <;> rfl)|(simp[*,Qz,Qy] <;> rfl),bel⟩
mutual
def newelref19_View.l0:Nat→Int→Int→List (S56)→List (S62)→List Int→Option (List Int×List Int×List Int)
 |0,_,_,_,_,_=>none
 |k+1,D,J,B,I,L=>if J<(I.length:Int) then (if 0≤J then (if ((Qo I J).f0)=D then (if L.length<17592186044416 then (newelref19_View.l0 k D (wrap64 (J+1)) B I (L ++ [(Qo I J).f1])) else (none)) else (newelref19_View.l0 k D (wrap64 (J+1)) B I L)) else (none)) else (newelref19_View.l1 k D 0 B I L ([]:List Int) ([]:List Int))
def newelref19_View.l1:Nat→Int→Int→List (S56)→List (S62)→List Int→List Int→List Int→Option (List Int×List Int×List Int)
 |0,_,_,_,_,_,_,_=>none
 |k+1,D,U,B,I,L,O,J=>if U<(B.length:Int) then (if 0≤U then (if ((Qg B U).f2)=D then (newelref19_View.j2 k D U (((Qg B U).f1)==1) B I L O J ((Qg B U).f0) ((Qg B U).f1) ((Qg B U).f2)) else (newelref19_View.j2 k D U false B I L O J ((Qg B U).f0) ((Qg B U).f1) ((Qg B U).f2))) else (none)) else (some (L,O,J))
def newelref19_View.j2:Nat→Int→Int→Bool→List (S56)→List (S62)→List Int→List Int→List Int→Int→Int→Int→Option (List Int×List Int×List Int)
 |0,_,_,_,_,_,_,_,_,_,_,_=>none
 |k+1,D,U,γ,B,I,L,O,J,X,Y,Z=>if γ=true then (if O.length<17592186044416 then ((some (O ++ [X]:List Int)).bind fun ψ =>(if Z=D then (if Y=(-1) then (if J.length<17592186044416 then (newelref19_View.l1 k D (wrap64 (U+1)) B I L ψ (J ++ [X])) else (none)) else (newelref19_View.l1 k D (wrap64 (U+1)) B I L ψ J)) else (newelref19_View.l1 k D (wrap64 (U+1)) B I L ψ J))) else (none)) else (if Z=D then (if Y=(-1) then (if J.length<17592186044416 then (newelref19_View.l1 k D (wrap64 (U+1)) B I L O (J ++ [X])) else (none)) else (newelref19_View.l1 k D (wrap64 (U+1)) B I L O J)) else (newelref19_View.l1 k D (wrap64 (U+1)) B I L O J))
end
def newelref19_View.f (k:Nat) (D:List (S56)) (I:List (S62)) (J:Int):Option (List Int×List Int×List Int):=newelref19_View.l0 k J 0 D I ([]:List Int)
theorem newelref19_View.Zk:∀ k,(∀ J L O D U,LeO (newelref19_View.l0 k J L O D U) (newelref19_View.l0 (k+1) J L O D U))∧(∀ J L O D U X Y,LeO (newelref19_View.l1 k J L O D U X Y) (newelref19_View.l1 (k+1) J L O D U X Y))∧(∀ J L O D U X Y y7 y8 y9 γ,LeO (newelref19_View.j2 k J L O D U X Y y7 y8 y9 γ) (newelref19_View.j2 (k+1) J L O D U X Y y7 y8 y9 γ))
 |0=>⟨fun _ _ _ _ _ r h=>by simp[newelref19_View.l0] at h,fun _ _ _ _ _ _ _ r h=>by simp[newelref19_View.l1] at h,fun _ _ _ _ _ _ _ _ _ _ _ r h=>by simp[newelref19_View.j2] at h⟩
 |k+1=>by
  obtain⟨B,I,Z⟩:=newelref19_View.Zk k
  refine⟨?_, ?_, ?_⟩
  ·intro J L O D U
   unfold newelref19_View.l0
   repeat' first
   |(with_reducible exact B _ _ _ _ _)
   |(with_reducible exact I _ _ _ _ _ _ _)
   |(with_reducible exact Z _ _ _ _ _ _ _ _ _ _ _)
   |(with_reducible exact LeO.refl _)
   |(with_reducible exact LeO.none _)
   |(with_reducible refine LeO.ite ?_ ?_)
   |(with_reducible refine LeO.bind ?_ (fun _=>?_))
   |exact B _ _ _ _ _
   |exact I _ _ _ _ _ _ _
   |exact Z _ _ _ _ _ _ _ _ _ _ _
   |exact LeO.none _
   |refine LeO.ite ?_ ?_
   |refine LeO.bind ?_ (fun _=>?_)
  ·intro J L O D U X Y
   unfold newelref19_View.l1
   repeat' first
   |(with_reducible exact B _ _ _ _ _)
   |(with_reducible exact I _ _ _ _ _ _ _)
   |(with_reducible exact Z _ _ _ _ _ _ _ _ _ _ _)
   |(with_reducible exact LeO.refl _)
   |(with_reducible exact LeO.none _)
   |(with_reducible refine LeO.ite ?_ ?_)
   |(with_reducible refine LeO.bind ?_ (fun _=>?_))
   |exact B _ _ _ _ _
   |exact I _ _ _ _ _ _ _
   |exact Z _ _ _ _ _ _ _ _ _ _ _
   |exact LeO.none _
   |refine LeO.ite ?_ ?_
   |refine LeO.bind ?_ (fun _=>?_)
  ·intro J L O D U X Y y7 y8 y9 γ
   unfold newelref19_View.j2
   repeat' first
   |(with_reducible exact B _ _ _ _ _)
   |(with_reducible exact I _ _ _ _ _ _ _)
   |(with_reducible exact Z _ _ _ _ _ _ _ _ _ _ _)
   |(with_reducible exact LeO.refl _)
   |(with_reducible exact LeO.none _)
   |(with_reducible refine LeO.ite ?_ ?_)
   |(with_reducible refine LeO.bind ?_ (fun _=>?_))
   |exact B _ _ _ _ _
   |exact I _ _ _ _ _ _ _
   |exact Z _ _ _ _ _ _ _ _ _ _ _
   |exact LeO.none _
   |refine LeO.ite ?_ ?_
   |refine LeO.bind ?_ (fun _=>?_)
theorem newelref19_View.mono:∀ D J a2 k,LeO (newelref19_View.f k D J a2) (newelref19_View.f (k+1) D J a2):=by
 intro D J a2 k
 obtain⟨B,I,Z⟩:=newelref19_View.Zk k
 unfold newelref19_View.f
 repeat' first
   |(with_reducible exact B _ _ _ _ _)
   |(with_reducible exact I _ _ _ _ _ _ _)
   |(with_reducible exact Z _ _ _ _ _ _ _ _ _ _ _)
   |(with_reducible exact LeO.refl _)
   |(with_reducible exact LeO.none _)
   |(with_reducible refine LeO.ite ?_ ?_)
   |(with_reducible refine LeO.bind ?_ (fun _=>?_))
   |exact B _ _ _ _ _
   |exact I _ _ _ _ _ _ _
   |exact Z _ _ _ _ _ _ _ _ _ _ _
   |exact LeO.none _
   |refine LeO.ite ?_ ?_
   |refine LeO.bind ?_ (fun _=>?_)
def newelref19_View.T6:Bool×List (List Nat×List Nat):=(true,[([],[]),([0],[0]),([],[]),([2],[2]),([],[]),([3,4],[3,4]),([5],[5]),([6],[6]),([7],[7]),([1,8],[1,8]),([0,1,2,3,4,5,6,7,8,9],[]),([10,9,9,0,1,2,3,4,5,6,7,8,9],[9,10])])
def newelref19_View.B6:List Nat:=[0,1,0,4,0,28,60,124,252,511,1023,2047]
theorem newelref19_View.Wv:rtab .any (opsOf Try.f21 6)=newelref19_View.T6:=by kernel_rfl
theorem newelref19_View.Vm:Zp newelref19_View.T6.2 newelref19_View.B6=true:=by kernel_rfl
set_option maxHeartbeats 8000000 in
set_option maxRecDepth 100000 in
theorem newelref19_View.calls (k:Nat) (μ :Option Addr) (Y:Nat) (D:List (S56)) (ρ:Option Addr) (θ :Nat) (I:List (S62)) (J:Int) (r1:List Int) (r2:List Int) (r3:List Int) (w:World) (ω :Kd.C k56 w μ D.length D) (a2:D.length≤Y) (aj:Kd.C k62 w ρ I.length I) (al:I.length ≤ θ) (h:newelref19_View.f k D I J=some (r1,r2,r3)):
  Calls Try.prog 21 #[.agg #[.slice μ D.length Y,.slice ρ I.length θ],.int .i64 J] w fun e w'=>∃ a6 b0 de:Value,e = .returned (.agg #[a6,b0,de])∧Kd.R (Kd.int .i64) 3 w' w.heap.size (fun k_=>some k_≠(b0:Value).ownBlock∧some k_≠(de:Value).ownBlock) a6 r1∧Kd.R (Kd.int .i64) 3 w' w.heap.size (fun k_=>some k_≠(a6:Value).ownBlock∧some k_≠(de:Value).ownBlock) b0 r2∧Kd.R (Kd.int .i64) 3 w' w.heap.size (fun k_=>some k_≠(a6:Value).ownBlock∧some k_≠(b0:Value).ownBlock) de r3∧Below w.heap.size w w':=by
 have eh:=Try.underlying27
 have jx:=Try.underlying47
 have b2:=Try.underlying56
 have φ :=Aside0.mk ω
 have ab:=Aside0.mk a2
 clear ω a2
 have af:=Aside0.mk aj
 have cb:=Aside0.mk al
 clear aj al
 have HB:=Aside0.mk (Below.refl w.heap.size w)
 have H:(newelref19_View.l0 k J 0 D I ([]:List Int))=some (r1,r2,r3):=h
 clear h
 have H':=Aside0.mk H
 clear H
 go_enter Try.func21,Try.ntmps21
 go_wp2_with (first|((with_reducible refine Qs (N:=2) rfl ?_);refine qE 2 #[.slice μ D.length Y,.slice ρ I.length θ] 27 ?_;intro az hg w3 hbox hb;have U:=Aside0.mk hbox;have nm:=sGe hg;have nn:=sGe hg;replace HB:=sHb hb;clear hb hbox hg)|((with_reducible refine Qs (N:=4) rfl ?_);refine qE 4 #[.slice none 0 0,.slice none 0 0,.slice none 0 0] 47 ?_;intro b8 hg w4 hbox hb;have γ:=Aside0.mk hbox;have no:=sGe hg;have np:=sGe hg;have b9:=sNl U hg;have ba:=sNg U hg;replace U:=sBk U hb;replace HB:=sHb hb;clear hb hbox hg)|((with_reducible refine Qs (N:=5) rfl ?_);refine qE 5 #[.slice none 0 0,.slice none 0 0,.slice none 0 0] 47 ?_;intro an hg w5 hbox hb;have O:=Aside0.mk hbox;have nq:=sGe hg;have nr:=sGe hg;have κ :=sNl U hg;have χ :=sNg U hg;have ai:=sNl γ hg;have ak:=sNg γ hg;replace U:=sBk U hb;replace γ:=sBk γ hb;replace HB:=sHb hb;clear hb hbox hg;have gx:= χ.out;have hy:= κ.out;have e5:=ak.out;have e6:=ai.out;obtain⟨ar,au,bd,av,aw,be⟩:=qD3 O.out))
 go_loopg [6] k (fun kq v6 w'=>∃ (L:Int) (δ :List Int) (X:Value),v6 = .int .i64 L∧Aside0 (newelref19_View.l0 kq J L D I δ = some (r1,r2,r3))∧Aside0 (kq≤k)∧Aside0 (Kd.R (Kd.int .i64) 3 w' w.heap.size (fun _=>True) X δ)∧Aside0 (w'.heap[az]?=some (.cells #[(.slice μ D.length Y),(.slice ρ I.length θ)] 27 (0,0)))∧Aside0 (w'.heap[b8]?=some (.cells #[(.slice none 0 0),(.slice none 0 0),(.slice none 0 0)] 47 (0,0)))∧Aside0 (w'.heap[an]?=some (.cells #[X,(.slice none 0 0),(.slice none 0 0)] 47 (0,0)))∧Aside0 (Below w.heap.size w w'))
 case atStart=>exact⟨(0),(([]:List Int)),(.slice none 0 0),qR,H',⟨Nat.le_refl _⟩,⟨by first|exact Kd.Xz _ _ _ _ _|exact Kd.Yp _ _ _ _ _|exact Kd.Ym _ _ _ _ _|exact Kd.Yo _ _ _ _ _|exact Kd.Yn _ _ _ _ _⟩,⟨bka U⟩,⟨bka γ⟩,⟨by(with_reducible repeat first|apply Qe|apply Qa|apply Qb);refine Qw (cs:=#[.slice none 0 0,.slice none 0 0,.slice none 0 0]) ?_ 2 _ rfl;(with_reducible repeat first|apply Qe|apply Qa|apply Qb);refine Qw (cs:=#[.slice none 0 0,.slice none 0 0,.slice none 0 0]) ?_ 1 _ rfl;(with_reducible repeat first|apply Qe|apply Qa|apply Qb);refine Qw (cs:=#[.slice none 0 0,.slice none 0 0,.slice none 0 0]) ?_ 0 _ rfl;(with_reducible repeat first|apply Qe|apply Qa|apply Qb);exact O.out⟩,⟨bel⟩⟩
 case round=>
  clear H'
  try clear c2
  try clear p2
  try clear c6
  try clear c7
  try clear ar
  try clear au
  try clear bd
  try clear av
  try clear aw
  try clear be
  obtain⟨L,δ,X,rfl,HA,σ,HO_362000,U,γ,O,HB⟩:=hrel
  cases gk with
  |zero=>exact absurd HA.out (by simp[newelref19_View.l0])
  |succ k1=>
   have H:=HA.out
   clear HA
   simp only[newelref19_View.l0] at H
   by_cases c9:L<(I.length:Int)
   ·rw[if_pos c9] at H
    have c9b0:decide (L<(I.length:Int))=true:=decide_eq_true c9
    clear c9
    by_cases c10:0≤L
    ·rw[if_pos c10] at H
     have c10b0:decide (0≤L)=true:=decide_eq_true c10
     clear c10
     by_cases ca:((Qo I L).f0)=J
     ·rw[if_pos ca] at H
      have c11b0:(((Qo I L).f0)==J)=true:=beq_iff_eq.mpr ca
      have c11b1:(((Qo I L).f0) != J)=false:=bne_eq_false_iff_eq.mpr ca
      clear ca
      by_cases cj: δ.length<17592186044416
      ·rw[if_pos cj] at H
       have i0:=Aside0.mk cj
       clear cj
       obtain⟨dy,cg⟩:∃ y_:List Int,y_=(δ ++ [(Qo I L).f1]):=⟨_,rfl⟩
       replace H:(newelref19_View.l0 k1 J (wrap64 (L+1)) D I dy)=some (r1,r2,r3):=by first|(rw[cg];with_reducible exact H)|(have τ :=(Option.bind_some _ _).symm.trans H;rw[cg];with_reducible exact τ)|(have τ :=(Option.bind_some _ _).symm.trans H;with_reducible exact τ)|with_reducible exact H|(rw[cg];exact H)|exact H
       have i1:=Aside0.mk cg
       clear cg
       have H':=Aside0.mk H
       clear H
       have d3:=b9.out
       have d4:=ba.out
       have gz:= κ.out
       have h0:= χ.out
       obtain⟨b3,b4,bu,bz⟩:=qD2 U.out
       have bf:0≤(L:Int):=of_decide_eq_true (by assumption)
       have bg:L<(I.length:Int):=of_decide_eq_true (by assumption)
       obtain⟨bh,e7,ao,ap⟩:=Zu af.out L bf bg
       cases e7
       replace ao:=(HB.out.cell (World.block_lt_of_cell? w _ ao)).trans ao
       replace ap:=(HB.out.cell (World.block_lt_of_cell? w _ ap)).trans ap
       replace bf:=eq_true bf
       replace bg:=eq_true bg
       try go_wp2
       replace HO_362000:=Aside0.mk (Kd.Qm HO_362000.out)
       replace U:=Aside0.mk (Qa U.out)
       replace γ:=Aside0.mk (Qa γ.out)
       replace O:=Aside0.mk (Qa O.out)
       replace HB:=Aside0.mk (Qf HB.out)
       have ct:0≤(L:Int):=of_decide_eq_true (by assumption)
       have cw:L<(I.length:Int):=of_decide_eq_true (by assumption)
       obtain⟨i2,ji,b6,b7⟩:=Zu af.out L ct cw
       have ax:=b7
       have ay:=b6
       obtain rfl:bh=i2:=(by injection ji)
       replace b6:=(HB.out.cell (World.block_lt_of_cell? w _ b6)).trans b6
       replace b7:=(HB.out.cell (World.block_lt_of_cell? w _ b7)).trans b7
       replace ct:=eq_true ct
       replace cw:=eq_true cw
       refine Zm (n:=12) (S:=fun w'=>w'.cell? ⟨an,0,none⟩=some (X)∧w'.cell? ⟨an,1,none⟩=some (.slice none 0 0)∧w'.cell? ⟨an,2,none⟩=some (.slice none 0 0)∧w'.cell? ⟨az,0,none⟩=some (.slice μ D.length Y)∧w'.cell? ⟨az,1,none⟩=some (.slice (some bh) I.length θ)∧w'.cell? (bh.add ((L).toNat * 2))=some (.int .i64 ((Qo I L).f0))∧w'.cell? ⟨(bh.add ((L).toNat * 2)).block,(bh.add ((L).toNat * 2)).off+1,none⟩=some (.int .i64 ((Qo I L).f1))) (ds:=[11]) #[false,false,false,false,false,false,false,false,false,false,false,false] kr rfl rfl ⟨(Qi O.out 0).trans rfl,(Qi O.out 1).trans rfl,(Qi O.out 2).trans rfl,(Qi U.out 0).trans rfl,(Qi U.out 1).trans rfl,((HB.out.cell (World.block_lt_of_cell? w _ ay)).trans ay),((HB.out.cell (World.block_lt_of_cell? w _ ax)).trans ax)⟩ (fun hHeld=>?_);refine Q7 newelref19_View.Wv newelref19_View.Vm (fun HT_ HW_=>?_)
       generalize wr.drew=b1 at HO_362000 U γ O HB b6 b7 hHeld ⊢
       refine qP 0 (some 25) (bN 12 1) HT_ ?_
       refine qP 2 (some 27) (bN 12 5) HT_ ?_
       refine qP 4 (some 29) (bN 12 21) HT_ ?_
       refine qT 1 (some 26) (bN 12 23) HT_ HW_ hHeld ?_
       refine qT 3 (some 28) (bN 12 31) HT_ HW_ hHeld ?_
       refine qP 5 (some 30) (bN 12 63) HT_ ?_
       refine qP 6 (some 31) (bN 12 127) HT_ ?_
       refine qT 7 (some 32) (bN 12 255) HT_ HW_ hHeld ?_
       refine Zi (i:=8) (N:=some 33) (bN 12 511) rfl rfl (Q2 HT_.out kr) (by decide) (fun K hK=>?_)
       refine Gs (w1:=?_) (v:=?_) (by rfl) rfl ?_ ?_
       rotate_left 2
       ·go_simp
        constructor
        ·rfl
        ·rfl
       refine hK.out _ _ ⟨(Qi (Qb O.out _) 0).trans rfl,(Qi (Qb O.out _) 1).trans rfl,(Qi (Qb O.out _) 2).trans rfl,(Qi (Qb U.out _) 0).trans rfl,(Qi (Qb U.out _) 1).trans rfl,(World.cell?_alloc_lt _ _ _ (World.block_lt_of_cell? _ _ (((HB.out.cell (World.block_lt_of_cell? w _ ay)).trans ay)))).trans (((HB.out.cell (World.block_lt_of_cell? w _ ay)).trans ay)),(World.cell?_alloc_lt _ _ _ (World.block_lt_of_cell? _ _ (((HB.out.cell (World.block_lt_of_cell? w _ ax)).trans ax)))).trans (((HB.out.cell (World.block_lt_of_cell? w _ ax)).trans ax))⟩ (fun hHeld=>?_)
       clear hK K
       refine qN (some 33) ?_
       refine Zi (i:=9) (N:=some 34) (bN 12 1023) rfl rfl (Q2 HT_.out kr) (by decide) (fun K hK=>?_)
       refine Kd.Yc (Kd.int .i64) (w0:=w) w.heap.size (by rfl) (.tmp 26) (.tmp 33) 45 3 (.int .i64 0) 8 rfl Try.underlying45 Kb rfl (by decide) (by omega) X δ ((Qo I L).f1) [.int .i64 ((Qo I L).f1)] (fun _=>True) (fun _=>False) rfl rfl ?aP (fun _ hk=>hk.elim) ?aF ?aO ?aB ?aS ?aL ?_
       (case aP=>exact rfl)
       (case aB=>exact HB.out)
       (case aF=>exact(fun _ _=>trivial))
       (case aO=>exact HO_362000.out)
       (case aS=>exact(Ql HB.out))
       (case aL=>have:=i0.out;omega)
       intro o3 gm ho hb hg hat
       rw[← i1.out] at ho
       have eo:=Aside0.mk ho
       replace U:=Aside0.mk (Q4 (g:=az) (o:=.cells #[.slice μ D.length Y,.slice (some bh) I.length θ] 27 (0,0)) U.out hg (Kd.Z4 HO_362000.out U.out (by decide)))
       replace γ:=Aside0.mk (Q4 (g:=b8) (o:=.cells #[.slice none 0 0,.slice none 0 0,.slice none 0 0] 47 (0,0)) γ.out hg (Kd.Z4 HO_362000.out γ.out (by decide)))
       replace O:=Aside0.mk (Q4 (g:=an) (o:=.cells #[X,.slice none 0 0,.slice none 0 0] 47 (0,0)) O.out hg (Kd.Z4 HO_362000.out O.out (by decide)))
       replace HB:=Aside0.mk hb
       clear HO_362000
       clear ho hb hg hat
       obtain⟨jw,d2,bj⟩:=Kd.Q3 eo.out
       (first|subst bj|(injection bj with ν a7 ξ;have a8:= ν.symm;have a9:= ξ.symm;clear ν a7 ξ;subst a8;subst a9))
       refine hK.out _ _ ⟨qc O,qc O,qc O,qc U,qc U,((HB.out.cell (World.block_lt_of_cell? w _ ay)).trans ay),((HB.out.cell (World.block_lt_of_cell? w _ ax)).trans ax)⟩ (fun hHeld=>?_)
       clear hK K
       refine qN (some 34) ?_
       refine qP 10 (some 35) (bN 12 2047) HT_ ?_
       refine Un (i:=11) (N:=none) #[true,true,true,true,true,true,true,true,true,true,true,true] rfl rfl (Q2 HT_.out kr) (by decide) (fun K hK=>?_)
       have o4:gm.cell? ⟨an,0,none⟩=some (X):=(Qi O.out 0).trans rfl
       have ns:=Q6 O.out 0
       have ls:= κ.out
       have lu:=ai.out
       have lv:= χ.out
       have lw:=ak.out
       refine Yl (w1:=?_) (by rfl) rfl ?_ ?_
       rotate_left
       ·go_simp
        rfl
       refine hK.out _ _ ?_
       clear hK K
       refine Zr (Ze HT_.out kr) ?_
       try go_wp2
       go_roundg k1
       case measure=>have:=σ.out;omega
       case rel=>exact⟨(wrap64 (L+1)),(dy),(.slice jw dy.length d2),qR,H',⟨by have:=σ.out;omega⟩,⟨by(with_reducible repeat first|apply Kd.Qk|apply Kd.Qj|apply Kd.Qm);exact Kd.Qq (Kd.Qr (Kd.Qu eo.out O.out (by decide)) (fun _ hk=>hk.2) _) (fun _ hk=>trivial)⟩,⟨bka U⟩,⟨bka γ⟩,⟨by(with_reducible repeat first|apply Qe|apply Qa|apply Qb);refine Qw (cs:=#[X,.slice none 0 0,.slice none 0 0]) ?_ 0 _ rfl;(with_reducible repeat first|apply Qe|apply Qa|apply Qb);exact O.out⟩,⟨bel⟩⟩
      ·rw[if_neg cj] at H
       exact absurd H (by simp)
     ·rw[if_neg ca] at H
      have c11b0:(((Qo I L).f0)==J)=false:=beq_eq_false_iff_ne.mpr ca
      have c11b1:(((Qo I L).f0) != J)=true:=bne_iff_ne.mpr ca
      have H':=Aside0.mk H
      clear H
      have da:=b9.out
      have dd:=ba.out
      have db:= κ.out
      have dc:= χ.out
      obtain⟨bc,bp,bq,bs⟩:=qD2 U.out
      have bf:0≤(L:Int):=of_decide_eq_true (by assumption)
      have bg:L<(I.length:Int):=of_decide_eq_true (by assumption)
      obtain⟨bh,e7,ao,ap⟩:=Zu af.out L bf bg
      cases e7
      replace ao:=(HB.out.cell (World.block_lt_of_cell? w _ ao)).trans ao
      replace ap:=(HB.out.cell (World.block_lt_of_cell? w _ ap)).trans ap
      replace bf:=eq_true bf
      replace bg:=eq_true bg
      go_wp2
      go_roundg k1
      case measure=>have:=σ.out;omega
      case rel=>exact⟨(wrap64 (L+1)),(δ),(X),rfl,H',⟨by have:=σ.out;omega⟩,⟨by(with_reducible repeat first|apply Kd.Qk|apply Kd.Qj|apply Kd.Qm);exact HO_362000.out⟩,U,γ,O,HB⟩
    ·rw[if_neg c10] at H
     exact absurd H (by simp)
   ·rw[if_neg c9] at H
    have c9b0:decide (L<(I.length:Int))=false:=decide_eq_false c9
    clear c9
    have H':=Aside0.mk H
    clear H
    have dk:=b9.out
    have dm:=ba.out
    have df:= κ.out
    have du:= χ.out
    obtain⟨ci,ck,cm,cn⟩:=qD2 U.out
    go_wp2
    go_loopg [7] k1 (fun kq v7 w'=>∃ (B:Int) (ζ :List Int) (Z:List Int) (ι :Value) (ε :Value),v7 = .int .i64 B∧Aside0 (newelref19_View.l1 kq J B D I δ ζ Z=some (r1,r2,r3))∧Aside0 (kq≤k1)∧Aside0 (Kd.R (Kd.int .i64) 3 w' w.heap.size (fun k_=>some k_≠(ι :Value).ownBlock∧some k_≠(ε :Value).ownBlock) X δ)∧Aside0 (Kd.R (Kd.int .i64) 3 w' w.heap.size (fun k_=>some k_≠(X:Value).ownBlock∧some k_≠(ε :Value).ownBlock) ι ζ)∧Aside0 (Kd.R (Kd.int .i64) 3 w' w.heap.size (fun k_=>some k_≠(X:Value).ownBlock∧some k_≠(ι :Value).ownBlock) ε Z)∧Aside0 (w'.heap[az]?=some (.cells #[(.slice μ D.length Y),(.slice ρ I.length θ)] 27 (0,0)))∧Aside0 (w'.heap[b8]?=some (.cells #[(.slice none 0 0),(.slice none 0 0),(.slice none 0 0)] 47 (0,0)))∧Aside0 (w'.heap[an]?=some (.cells #[X,ι,ε] 47 (0,0)))∧Aside0 (Below w.heap.size w w'))
    case atStart=>exact⟨(0),(([]:List Int)),(([]:List Int)),(.slice none 0 0),(.slice none 0 0),rfl,H',⟨Nat.le_refl _⟩,⟨by(with_reducible repeat first|apply Kd.Qk|apply Kd.Qj|apply Kd.Qm);exact Kd.Qq HO_362000.out (fun _ hk=>⟨(by simp[Value.ownBlock]),(by simp[Value.ownBlock])⟩)⟩,⟨by first|exact Kd.Xz _ _ _ _ _|exact Kd.Yp _ _ _ _ _|exact Kd.Ym _ _ _ _ _|exact Kd.Yo _ _ _ _ _|exact Kd.Yn _ _ _ _ _⟩,⟨by first|exact Kd.Xz _ _ _ _ _|exact Kd.Yp _ _ _ _ _|exact Kd.Ym _ _ _ _ _|exact Kd.Yo _ _ _ _ _|exact Kd.Yn _ _ _ _ _⟩,U,γ,O,HB⟩
    case round=>
     clear H'
     try clear c1
     try clear c2
     try clear p2
     try clear p3
     try clear q3
     try clear js
     try clear c6
     try clear p6
     try clear c7
     try clear c9
     try clear c9b0
     try clear c10
     try clear c10b0
     try clear ca
     try clear c11b0
     try clear c11b1
     try clear cj
     try clear br
     try clear a3
     try clear dr
     try clear fj
     try clear jh
     try clear gw
     try clear b3
     try clear b4
     try clear bc
     try clear bp
     try clear ci
     try clear ck
     try clear ar
     try clear au
     try clear bd
     try clear bu
     try clear bz
     try clear bq
     try clear bs
     try clear cm
     try clear cn
     try clear av
     try clear aw
     try clear be
     try clear ao
     try clear ap
     try clear b6
     try clear b7
     try clear p2
     try clear bf
     try clear ct
     try clear bg
     try clear cw
     obtain⟨B,ζ,Z,ι,ε,rfl,HA,ag,HO_362000,HO_362001,HO_362002,U,γ,O,HB⟩:=hrel
     cases gk with
     |zero=>exact absurd HA.out (by simp[newelref19_View.l1])
     |succ k2=>
      have H:=HA.out
      clear HA
      simp only[newelref19_View.l1] at H
      by_cases ac:B<(D.length:Int)
      ·rw[if_pos ac] at H
       have c26b0:decide (B<(D.length:Int))=true:=decide_eq_true ac
       clear ac
       by_cases cd:0≤B
       ·rw[if_pos cd] at H
        have c27b0:decide (0≤B)=true:=decide_eq_true cd
        clear cd
        have ee:=Aside0.mk H
        clear H
        have j5:=b9.out
        have j6:=ba.out
        have i4:= κ.out
        have i6:= χ.out
        obtain⟨e8,e9,ea,eb⟩:=qD2 U.out
        have d5:0≤(B:Int):=of_decide_eq_true (by assumption)
        have d7:B<(D.length:Int):=of_decide_eq_true (by assumption)
        obtain⟨bi,k5,bk,bl,bm⟩:=Zw φ.out B d5 d7
        cases k5
        replace bk:=(HB.out.cell (World.block_lt_of_cell? w _ bk)).trans bk
        replace bl:=(HB.out.cell (World.block_lt_of_cell? w _ bl)).trans bl
        replace bm:=(HB.out.cell (World.block_lt_of_cell? w _ bm)).trans bm
        replace d5:=eq_true d5
        replace d7:=eq_true d7
        go_upto_region 11 with(first|((with_reducible refine Qs (N:=8) rfl ?_);refine qE 8 #[.int .i64 0,.int .i64 0,.int .i64 0] 56 ?_;intro bv hg o9 hbox hb;have η :=Aside0.mk hbox;have nt:=sGe hg;have nu:=sGe hg;have a0:=sNl U hg;have a4:=sNg U hg;have a5:=sNl γ hg;have aa:=sNg γ hg;have ae:=sNl O hg;have ah:=sNg O hg;replace HO_362000:=sRb HO_362000 hb;replace HO_362001:=sRb HO_362001 hb;replace HO_362002:=sRb HO_362002 hb;replace U:=sBk U hb;replace γ:=sBk γ hb;replace O:=sBk O hb;replace HB:=sHb hb;clear hb hbox hg;have ef:=a4.out;have eg:=a0.out;have k4:=aa.out;have kb:=a5.out;have i7:=ah.out;have ie:=ae.out;obtain⟨dh,di,fr,dj,dt,fv⟩:=qD3 η.out))
        (try simp only[Act.put,qS])
        go_cut [56] (fun n0 wc=>∃ (kq:Nat) (ch:Bool),n0 = .bool ch∧Aside0 (newelref19_View.j2 kq J B ch D I δ ζ Z ((Qg D B).f0) ((Qg D B).f1) ((Qg D B).f2)=some (r1,r2,r3))∧Aside0 (kq≤k2)∧Aside0 (Kd.R (Kd.int .i64) 3 wc w.heap.size (fun k_=>some k_≠(ι :Value).ownBlock∧some k_≠(ε :Value).ownBlock) X δ)∧Aside0 (Kd.R (Kd.int .i64) 3 wc w.heap.size (fun k_=>some k_≠(X:Value).ownBlock∧some k_≠(ε :Value).ownBlock) ι ζ)∧Aside0 (Kd.R (Kd.int .i64) 3 wc w.heap.size (fun k_=>some k_≠(X:Value).ownBlock∧some k_≠(ι :Value).ownBlock) ε Z)∧Aside0 (wc.heap[az]?=some (.cells #[(.slice (some bi) D.length Y),(.slice ρ I.length θ)] 27 (0,0)))∧Aside0 (wc.heap[b8]?=some (.cells #[(.slice none 0 0),(.slice none 0 0),(.slice none 0 0)] 47 (0,0)))∧Aside0 (wc.heap[an]?=some (.cells #[X,ι,ε] 47 (0,0)))∧Aside0 (wc.heap[bv]?=some (.cells #[.int .i64 ((Qg D B).f0),.int .i64 ((Qg D B).f1),.int .i64 ((Qg D B).f2)] 56 (0,0)))∧Aside0 (Below w.heap.size w wc))
        case first=>
         have H:=ee.out
         clear ee
         by_cases d6:((Qg D B).f2)=J
         ·rw[if_pos d6] at H
          have c37b0:(((Qg D B).f2)==J)=true:=beq_iff_eq.mpr d6
          have c37b1:(((Qg D B).f2) != J)=false:=bne_eq_false_iff_eq.mpr d6
          clear d6
          (first|rw[c37b0]|(simp only[Xm,Ya];rw[c37b0])|skip)
          have H':=Aside0.mk H
          clear H
          have g4:=a4.out
          have g5:=a0.out
          have j7:=aa.out
          have j8:=a5.out
          have dp:=ah.out
          have dq:=ae.out
          obtain⟨bn,bo,cy,ce,cf,d9⟩:=qD3 η.out
          go_wp2
          go_meet
          case rel=>exact⟨_,((((Qg D B).f1)==1)),qR,H',⟨by have:=σ.out;have:=ag.out;first|omega|exact Nat.le_refl _⟩,⟨by(with_reducible repeat first|apply Kd.Qk|apply Kd.Qj|apply Kd.Qm);exact Kd.Qq (Kd.Qr (Kd.Qr (Kd.Qr (Kd.Qu HO_362000.out η.out (by decide)) (fun _ hk=>hk.2) (.int .i64 ((Qg D B).f0))) (fun _ hk=>hk.2) (.int .i64 ((Qg D B).f1))) (fun _ hk=>hk.2) (.int .i64 ((Qg D B).f2))) (fun _ hk=>⟨hk.1.1,hk.1.2⟩)⟩,⟨by(with_reducible repeat first|apply Kd.Qk|apply Kd.Qj|apply Kd.Qm);exact Kd.Qq (Kd.Qr (Kd.Qr (Kd.Qr (Kd.Qu HO_362001.out η.out (by decide)) (fun _ hk=>hk.2) (.int .i64 ((Qg D B).f0))) (fun _ hk=>hk.2) (.int .i64 ((Qg D B).f1))) (fun _ hk=>hk.2) (.int .i64 ((Qg D B).f2))) (fun _ hk=>⟨hk.1.1,hk.1.2⟩)⟩,⟨by(with_reducible repeat first|apply Kd.Qk|apply Kd.Qj|apply Kd.Qm);exact Kd.Qq (Kd.Qr (Kd.Qr (Kd.Qr (Kd.Qu HO_362002.out η.out (by decide)) (fun _ hk=>hk.2) (.int .i64 ((Qg D B).f0))) (fun _ hk=>hk.2) (.int .i64 ((Qg D B).f1))) (fun _ hk=>hk.2) (.int .i64 ((Qg D B).f2))) (fun _ hk=>⟨hk.1.1,hk.1.2⟩)⟩,⟨bka U⟩,⟨bka γ⟩,⟨bka O⟩,⟨by(with_reducible repeat first|apply Qe|apply Qa|apply Qb);refine Qw (cs:=#[.int .i64 ((Qg D B).f0),.int .i64 ((Qg D B).f1),.int .i64 0]) ?_ 2 _ rfl;(with_reducible repeat first|apply Qe|apply Qa|apply Qb);refine Qw (cs:=#[.int .i64 ((Qg D B).f0),.int .i64 0,.int .i64 0]) ?_ 1 _ rfl;(with_reducible repeat first|apply Qe|apply Qa|apply Qb);refine Qw (cs:=#[.int .i64 0,.int .i64 0,.int .i64 0]) ?_ 0 _ rfl;(with_reducible repeat first|apply Qe|apply Qa|apply Qb);exact η.out⟩,⟨bel⟩⟩
         ·rw[if_neg d6] at H
          have c37b0:(((Qg D B).f2)==J)=false:=beq_eq_false_iff_ne.mpr d6
          have c37b1:(((Qg D B).f2) != J)=true:=bne_iff_ne.mpr d6
          (first|rw[c37b0]|(simp only[Xm,Ya];rw[c37b0])|skip)
          have H':=Aside0.mk H
          clear H
          have g3:=a4.out
          have ga:=a0.out
          have fb:=aa.out
          have ff:=a5.out
          have kc:=ah.out
          have kd:=ae.out
          obtain⟨ej,ek,fw,el,em,fx⟩:=qD3 η.out
          go_wp2
          go_meet
          case rel=>exact⟨_,(false),qR,H',⟨by have:=σ.out;have:=ag.out;first|omega|exact Nat.le_refl _⟩,⟨by(with_reducible repeat first|apply Kd.Qk|apply Kd.Qj|apply Kd.Qm);exact Kd.Qq (Kd.Qr (Kd.Qr (Kd.Qr (Kd.Qu HO_362000.out η.out (by decide)) (fun _ hk=>hk.2) (.int .i64 ((Qg D B).f0))) (fun _ hk=>hk.2) (.int .i64 ((Qg D B).f1))) (fun _ hk=>hk.2) (.int .i64 ((Qg D B).f2))) (fun _ hk=>⟨hk.1.1,hk.1.2⟩)⟩,⟨by(with_reducible repeat first|apply Kd.Qk|apply Kd.Qj|apply Kd.Qm);exact Kd.Qq (Kd.Qr (Kd.Qr (Kd.Qr (Kd.Qu HO_362001.out η.out (by decide)) (fun _ hk=>hk.2) (.int .i64 ((Qg D B).f0))) (fun _ hk=>hk.2) (.int .i64 ((Qg D B).f1))) (fun _ hk=>hk.2) (.int .i64 ((Qg D B).f2))) (fun _ hk=>⟨hk.1.1,hk.1.2⟩)⟩,⟨by(with_reducible repeat first|apply Kd.Qk|apply Kd.Qj|apply Kd.Qm);exact Kd.Qq (Kd.Qr (Kd.Qr (Kd.Qr (Kd.Qu HO_362002.out η.out (by decide)) (fun _ hk=>hk.2) (.int .i64 ((Qg D B).f0))) (fun _ hk=>hk.2) (.int .i64 ((Qg D B).f1))) (fun _ hk=>hk.2) (.int .i64 ((Qg D B).f2))) (fun _ hk=>⟨hk.1.1,hk.1.2⟩)⟩,⟨bka U⟩,⟨bka γ⟩,⟨bka O⟩,⟨by(with_reducible repeat first|apply Qe|apply Qa|apply Qb);refine Qw (cs:=#[.int .i64 ((Qg D B).f0),.int .i64 ((Qg D B).f1),.int .i64 0]) ?_ 2 _ rfl;(with_reducible repeat first|apply Qe|apply Qa|apply Qb);refine Qw (cs:=#[.int .i64 ((Qg D B).f0),.int .i64 0,.int .i64 0]) ?_ 1 _ rfl;(with_reducible repeat first|apply Qe|apply Qa|apply Qb);refine Qw (cs:=#[.int .i64 0,.int .i64 0,.int .i64 0]) ?_ 0 _ rfl;(with_reducible repeat first|apply Qe|apply Qa|apply Qb);exact η.out⟩,⟨bel⟩⟩
        case rest=>
         clear ee
         try clear c1
         try clear c2
         try clear p2
         try clear c3
         try clear p3
         try clear q3
         try clear js
         try clear c4
         try clear c6
         try clear p6
         try clear c7
         try clear c9
         try clear c9b0
         try clear c10
         try clear c10b0
         try clear ca
         try clear c11b0
         try clear c11b1
         try clear cj
         try clear br
         try clear a3
         try clear dr
         try clear fj
         try clear jh
         try clear gw
         try clear ac
         try clear c26b0
         try clear cd
         try clear c27b0
         try clear bw
         try clear gy
         try clear j9
         try clear nl
         try clear co
         try clear p36
         try clear o8
         try clear o5
         try clear d6
         try clear c37b0
         try clear c37b1
         try clear jt
         try clear l8
         try clear ip
         try clear cu
         try clear dx
         try clear dl
         try clear b3
         try clear b4
         try clear bc
         try clear bp
         try clear ci
         try clear ck
         try clear e8
         try clear e9
         try clear dh
         try clear di
         try clear fr
         try clear bn
         try clear bo
         try clear cy
         try clear ej
         try clear ek
         try clear fw
         try clear ar
         try clear au
         try clear bd
         try clear bu
         try clear bz
         try clear bq
         try clear bs
         try clear cm
         try clear cn
         try clear ea
         try clear eb
         try clear dj
         try clear dt
         try clear fv
         try clear ce
         try clear cf
         try clear d9
         try clear el
         try clear em
         try clear fx
         try clear av
         try clear aw
         try clear be
         try clear ao
         try clear ap
         try clear b6
         try clear b7
         try clear bk
         try clear bl
         try clear bm
         try clear p2
         try clear p3
         try clear bf
         try clear ct
         try clear d5
         try clear p6
         try clear q3
         try clear bg
         try clear cw
         try clear d7
         obtain⟨kq,ch,rfl,HA,bb,HO_362000,HO_362001,HO_362002,U,γ,O,η,HB⟩:=hcut
         cases kq with
         |zero=>exact absurd HA.out (by simp[newelref19_View.j2])
         |succ am=>
          have H:=HA.out
          clear HA
          simp only[newelref19_View.j2] at H
          by_cases ec:ch=true
          ·subst ec
           have H1:(if ζ.length<17592186044416 then ((some (ζ ++ [((Qg D B).f0)]:List Int)).bind fun ψ =>(if ((Qg D B).f2)=J then (if ((Qg D B).f1)=(-1) then (if Z.length<17592186044416 then (newelref19_View.l1 am J (wrap64 (B+1)) D I δ ψ (Z ++ [((Qg D B).f0)])) else (none)) else (newelref19_View.l1 am J (wrap64 (B+1)) D I δ ψ Z)) else (newelref19_View.l1 am J (wrap64 (B+1)) D I δ ψ Z))) else (none))=some (r1,r2,r3):=by rw[if_pos rfl] at H;exact H
           clear H
           have H:=H1
           clear H1
           by_cases fe: ζ.length<17592186044416
           ·rw[if_pos fe] at H
            have d8:=Aside0.mk fe
            clear fe
            obtain⟨ψ,cp⟩:∃ y_:List Int,y_=(ζ ++ [((Qg D B).f0)]):=⟨_,rfl⟩
            replace H:(if ((Qg D B).f2)=J then (if ((Qg D B).f1)=(-1) then (if Z.length<17592186044416 then (newelref19_View.l1 am J (wrap64 (B+1)) D I δ ψ (Z ++ [((Qg D B).f0)])) else (none)) else (newelref19_View.l1 am J (wrap64 (B+1)) D I δ ψ Z)) else (newelref19_View.l1 am J (wrap64 (B+1)) D I δ ψ Z))=some (r1,r2,r3):=by first|(rw[cp];with_reducible exact H)|(have τ :=(Option.bind_some _ _).symm.trans H;rw[cp];with_reducible exact τ)|(have τ :=(Option.bind_some _ _).symm.trans H;with_reducible exact τ)|with_reducible exact H|(rw[cp];exact H)|exact H
            have dn:=Aside0.mk cp
            clear cp
            by_cases cv:((Qg D B).f2)=J
            ·rw[if_pos cv] at H
             have c48b0:(((Qg D B).f2)==J)=true:=beq_iff_eq.mpr cv
             have c48b1:(((Qg D B).f2) != J)=false:=bne_eq_false_iff_eq.mpr cv
             clear cv
             by_cases ed:((Qg D B).f1)=(-1)
             ·rw[if_pos ed] at H
              have c49b0:(((Qg D B).f1)==(-1))=true:=beq_iff_eq.mpr ed
              have c49b1:(((Qg D B).f1) != (-1))=false:=bne_eq_false_iff_eq.mpr ed
              clear ed
              by_cases i3:Z.length<17592186044416
              ·rw[if_pos i3] at H
               have ig:=Aside0.mk i3
               clear i3
               obtain⟨ei,cq⟩:∃ y_:List Int,y_=(Z ++ [((Qg D B).f0)]):=⟨_,rfl⟩
               replace H:(newelref19_View.l1 am J (wrap64 (B+1)) D I δ ψ ei)=some (r1,r2,r3):=by first|(rw[cq];with_reducible exact H)|(have τ :=(Option.bind_some _ _).symm.trans H;rw[cq];with_reducible exact τ)|(have τ :=(Option.bind_some _ _).symm.trans H;with_reducible exact τ)|with_reducible exact H|(rw[cq];exact H)|exact H
               have ih:=Aside0.mk cq
               clear cq
               have H':=Aside0.mk H
               clear H
               have ev:= χ.out
               have ew:= κ.out
               have ey:=ak.out
               have ez:=ai.out
               have nv:=ae.out
               have nw:=ah.out
               obtain⟨lx,ly,lz,m0,m1,m2⟩:=qD3 O.out
               have l9:=a4.out
               have lb:=a0.out
               have jy:=aa.out
               have jz:=a5.out
               obtain⟨dz,e0,m3,e3,e4,m4⟩:=qD3 η.out
               go_wp2_with (first|((with_reducible refine Z5 (b:=.append) (xs:=#[.tmp 58,.tmp 61]) rfl ?_);at_builtin;refine Kd.Yx (Kd.int .i64) (w0:=w) w.heap.size rfl (.tmp 58) (.tmp 61) 45 3 (.int .i64 0) 8 rfl Try.underlying45 Kb rfl (by decide) (by omega) ι ζ ((Qg D B).f0) [.int .i64 ((Qg D B).f0)] (fun k_=>some k_≠(X:Value).ownBlock∧some k_≠(ε :Value).ownBlock) (fun _=>False) rfl rfl ?aP (fun _ hk=>hk.elim) ?aF ?aO ?aB ?aS ?aL ?_;(case aP=>exact rfl);(case aB=>exact bel);(case aF=>exact(fun k_ hk=>⟨Kd.fresh' (Kd.Zq (kra HO_362000)) k_ hk,Kd.fresh' (Kd.Zq (kra HO_362002)) k_ hk⟩));(case aO=>exact(kra HO_362001));(case aS=>exact(Ql bel));(case aL=>have:=d8.out;omega);intro gr iu ho hb hg hat;rw[← dn.out] at ho;have b5:=Aside0.mk ho;replace HO_362000:=Aside0.mk (Kd.Xl (ok:=(fun k_=>some k_≠(ε :Value).ownBlock)) (by(with_reducible repeat first|apply Kd.Qk|apply Kd.Qj|apply Kd.Qm);exact Kd.Qq HO_362000.out (fun _ hk=>⟨hk.2,hk.1⟩)) hg hat);replace HO_362002:=Aside0.mk (Kd.Xl (ok:=(fun k_=>some k_≠(X:Value).ownBlock)) (kra HO_362002) hg hat);replace U:=Aside0.mk (Q4 (g:=az) (o:=.cells #[.slice (some bi) D.length Y,.slice ρ I.length θ] 27 (0,0)) (bka U) hg (Kd.Z4 HO_362001.out U.out (by decide)));replace γ:=Aside0.mk (Q4 (g:=b8) (o:=.cells #[.slice none 0 0,.slice none 0 0,.slice none 0 0] 47 (0,0)) (bka γ) hg (Kd.Z4 HO_362001.out γ.out (by decide)));replace O:=Aside0.mk (Q4 (g:=an) (o:=.cells #[X,ι,ε] 47 (0,0)) (bka O) hg (Kd.Z4 HO_362001.out O.out (by decide)));replace η :=Aside0.mk (Q4 (g:=bv) (o:=.cells #[.int .i64 ((Qg D B).f0),.int .i64 ((Qg D B).f1),.int .i64 ((Qg D B).f2)] 56 (0,0)) (bka η) hg (Kd.Z4 HO_362001.out η.out (by decide)));replace HB:=Aside0.mk hb;clear HO_362001;clear ho hb hg hat;obtain⟨cx,cz,k6⟩:=Kd.Q3 b5.out;subst k6;obtain⟨h9,ha,m5,he,hh,m6⟩:=qD3 O.out;obtain⟨m7,m8,m9,ma,mb,mc⟩:=qD3 η.out)|((with_reducible refine Z5 (b:=.append) (xs:=#[.tmp 74,.tmp 77]) rfl ?_);at_builtin;refine Kd.Yx (Kd.int .i64) (w0:=w) w.heap.size rfl (.tmp 74) (.tmp 77) 45 3 (.int .i64 0) 8 rfl Try.underlying45 Kb rfl (by decide) (by omega) ε Z ((Qg D B).f0) [.int .i64 ((Qg D B).f0)] (fun k_=>some k_≠(X:Value).ownBlock∧some k_≠(.slice cx ψ.length cz:Value).ownBlock) (fun _=>False) rfl (by first|(go_simp;done)|(go_simp;rfl)) ?aP (fun _ hk=>hk.elim) ?aF ?aO ?aB ?aS ?aL ?_;(case aP=>exact rfl);(case aB=>exact bel);(case aF=>exact(fun k_ hk=>⟨Kd.fresh' (Kd.Zq (by(with_reducible repeat first|apply Kd.Qk|apply Kd.Qj|apply Kd.Qm);exact(Kd.Qq (Kd.Qr (Kd.Qu HO_362000.out O.out (by decide)) (fun _ hk=>hk.2) _) (fun _ h_=>h_.1)))) k_ hk,Kd.fresh' (Kd.Zq (by(with_reducible repeat first|apply Kd.Qk|apply Kd.Qj|apply Kd.Qm);exact(Kd.Qq (Kd.Qr (Kd.Qu b5.out O.out (by decide)) (fun _ hk=>hk.2) _) (fun _ h_=>h_.1)))) k_ hk⟩));(case aO=>exact(by(with_reducible repeat first|apply Kd.Qk|apply Kd.Qj|apply Kd.Qm);exact Kd.Qq (Kd.Qr (Kd.Qu HO_362002.out O.out (by decide)) (fun _ hk=>hk.2) _) (fun _ hk=>⟨hk.1.1,hk.1.2⟩)));(case aS=>exact(Ql bel));(case aL=>have:=ig.out;omega);intro o6 mz ho hb hg hat;rw[← ih.out] at ho;have ep:=Aside0.mk ho;replace HO_362000:=Aside0.mk (Kd.Xl (ok:=(fun k_=>some k_≠(.slice cx ψ.length cz:Value).ownBlock)) (by(with_reducible repeat first|apply Kd.Qk|apply Kd.Qj|apply Kd.Qm);exact Kd.Qq (Kd.Qr (Kd.Qu HO_362000.out O.out (by decide)) (fun _ hk=>hk.2) _) (fun _ hk=>⟨hk.1.2,hk.1.1⟩)) hg hat);replace U:=Aside0.mk (Q4 (g:=az) (o:=.cells #[.slice (some bi) D.length Y,.slice ρ I.length θ] 27 (0,0)) (bka U) hg (Kd.Z4 HO_362002.out U.out (by decide)));replace γ:=Aside0.mk (Q4 (g:=b8) (o:=.cells #[.slice none 0 0,.slice none 0 0,.slice none 0 0] 47 (0,0)) (bka γ) hg (Kd.Z4 HO_362002.out γ.out (by decide)));replace η :=Aside0.mk (Q4 (g:=bv) (o:=.cells #[.int .i64 ((Qg D B).f0),.int .i64 ((Qg D B).f1),.int .i64 ((Qg D B).f2)] 56 (0,0)) (bka η) hg (Kd.Z4 HO_362002.out η.out (by decide)));replace b5:=Aside0.mk (Kd.Xl (ok:=(fun k_=>some k_≠(X:Value).ownBlock)) (by(with_reducible repeat first|apply Kd.Qk|apply Kd.Qj|apply Kd.Qm);exact Kd.Qq (Kd.Qr (Kd.Qu b5.out O.out (by decide)) (fun _ hk=>hk.2) _) (fun _ hk=>⟨hk.1.1,hk.1.2⟩)) hg hat);replace O:=Aside0.mk (Q4 (g:=an) (o:=.cells #[X,.slice cx ψ.length cz,ε] 47 (0,0)) (by(with_reducible repeat first|apply Qe|apply Qa|apply Qb);refine Qw (cs:=#[X,ι,ε]) ?_ 1 _ rfl;(with_reducible repeat first|apply Qe|apply Qa|apply Qb);exact O.out) hg (Kd.Z4 HO_362002.out O.out (by decide)));replace HB:=Aside0.mk hb;clear HO_362002;clear ho hb hg hat;obtain⟨k7,k8,k9⟩:=Kd.Q3 ep.out;subst k9;obtain⟨ge,gf,gp,gg,gq,h4⟩:=qD3 O.out))
               go_roundg am
               case measure=>have:=σ.out;have:=ag.out;have:=bb.out;omega
               case rel=>exact⟨(wrap64 (B+1)),(ψ),(ei),(.slice cx ψ.length cz),(.slice k7 ei.length k8),qR,H',⟨by have:=σ.out;have:=ag.out;have:=bb.out;omega⟩,⟨by(with_reducible repeat first|apply Kd.Qk|apply Kd.Qj|apply Kd.Qm);exact Kd.Qq (Kd.Qr (Kd.Qu HO_362000.out O.out (by decide)) (fun _ hk=>hk.2) _) (fun _ hk=>⟨hk.1.1,hk.1.2⟩)⟩,⟨by(with_reducible repeat first|apply Kd.Qk|apply Kd.Qj|apply Kd.Qm);exact Kd.Qq (Kd.Qr (Kd.Qu b5.out O.out (by decide)) (fun _ hk=>hk.2) _) (fun _ hk=>⟨hk.1.1,hk.1.2⟩)⟩,⟨by(with_reducible repeat first|apply Kd.Qk|apply Kd.Qj|apply Kd.Qm);exact Kd.Qq (Kd.Qr (Kd.Qu ep.out O.out (by decide)) (fun _ hk=>hk.2) _) (fun _ hk=>⟨hk.1.1,hk.1.2⟩)⟩,⟨bka U⟩,⟨bka γ⟩,⟨by(with_reducible repeat first|apply Qe|apply Qa|apply Qb);refine Qw (cs:=#[X,.slice cx ψ.length cz,ε]) ?_ 2 _ rfl;(with_reducible repeat first|apply Qe|apply Qa|apply Qb);exact O.out⟩,⟨bel⟩⟩
              ·rw[if_neg i3] at H
               exact absurd H (by simp)
             ·rw[if_neg ed] at H
              have c49b0:(((Qg D B).f1)==(-1))=false:=beq_eq_false_iff_ne.mpr ed
              have c49b1:(((Qg D B).f1) != (-1))=true:=bne_iff_ne.mpr ed
              have H':=Aside0.mk H
              clear H
              have gs:= χ.out
              have gt:= κ.out
              have i9:=ak.out
              have ia:=ai.out
              have ja:=ae.out
              have jb:=ah.out
              obtain⟨er,f5,h5,f7,f8,h6⟩:=qD3 O.out
              have io:=a4.out
              have iv:=a0.out
              have nx:=aa.out
              have ny:=a5.out
              obtain⟨h7,h8,i5,il,iz,j3⟩:=qD3 η.out
              go_wp2_with (first|((with_reducible refine Z5 (b:=.append) (xs:=#[.tmp 58,.tmp 61]) rfl ?_);at_builtin;refine Kd.Yx (Kd.int .i64) (w0:=w) w.heap.size rfl (.tmp 58) (.tmp 61) 45 3 (.int .i64 0) 8 rfl Try.underlying45 Kb rfl (by decide) (by omega) ι ζ ((Qg D B).f0) [.int .i64 ((Qg D B).f0)] (fun k_=>some k_≠(X:Value).ownBlock∧some k_≠(ε :Value).ownBlock) (fun _=>False) rfl rfl ?aP (fun _ hk=>hk.elim) ?aF ?aO ?aB ?aS ?aL ?_;(case aP=>exact rfl);(case aB=>exact HB.out);(case aF=>exact(fun k_ hk=>⟨Kd.fresh' (Kd.Zq HO_362000.out) k_ hk,Kd.fresh' (Kd.Zq HO_362002.out) k_ hk⟩));(case aO=>exact HO_362001.out);(case aS=>exact(Ql HB.out));(case aL=>have:=d8.out;omega);intro gr n1 ho hb hg hat;rw[← dn.out] at ho;have b5:=Aside0.mk ho;replace HO_362000:=Aside0.mk (Kd.Xl (ok:=(fun k_=>some k_≠(ε :Value).ownBlock)) (by(with_reducible repeat first|apply Kd.Qk|apply Kd.Qj|apply Kd.Qm);exact Kd.Qq HO_362000.out (fun _ hk=>⟨hk.2,hk.1⟩)) hg hat);replace HO_362002:=Aside0.mk (Kd.Xl (ok:=(fun k_=>some k_≠(X:Value).ownBlock)) HO_362002.out hg hat);replace U:=Aside0.mk (Q4 (g:=az) (o:=.cells #[.slice (some bi) D.length Y,.slice ρ I.length θ] 27 (0,0)) U.out hg (Kd.Z4 HO_362001.out U.out (by decide)));replace γ:=Aside0.mk (Q4 (g:=b8) (o:=.cells #[.slice none 0 0,.slice none 0 0,.slice none 0 0] 47 (0,0)) γ.out hg (Kd.Z4 HO_362001.out γ.out (by decide)));replace O:=Aside0.mk (Q4 (g:=an) (o:=.cells #[X,ι,ε] 47 (0,0)) O.out hg (Kd.Z4 HO_362001.out O.out (by decide)));replace η :=Aside0.mk (Q4 (g:=bv) (o:=.cells #[.int .i64 ((Qg D B).f0),.int .i64 ((Qg D B).f1),.int .i64 ((Qg D B).f2)] 56 (0,0)) η.out hg (Kd.Z4 HO_362001.out η.out (by decide)));replace HB:=Aside0.mk hb;clear HO_362001;clear ho hb hg hat;obtain⟨ka,ke,kf⟩:=Kd.Q3 b5.out;subst kf;obtain⟨g0,g6,me,g7,g8,mf⟩:=qD3 O.out;obtain⟨g9,gb,mg,gn,gu,mh⟩:=qD3 η.out))
              go_roundg am
              case measure=>have:=σ.out;have:=ag.out;have:=bb.out;omega
              case rel=>exact⟨(wrap64 (B+1)),(ψ),(Z),(.slice ka ψ.length ke),(ε),qR,H',⟨by have:=σ.out;have:=ag.out;have:=bb.out;omega⟩,⟨by(with_reducible repeat first|apply Kd.Qk|apply Kd.Qj|apply Kd.Qm);exact Kd.Qq (Kd.Qr (Kd.Qu HO_362000.out O.out (by decide)) (fun _ hk=>hk.2) _) (fun _ hk=>⟨hk.1.2,hk.1.1⟩)⟩,⟨by(with_reducible repeat first|apply Kd.Qk|apply Kd.Qj|apply Kd.Qm);exact Kd.Qq (Kd.Qr (Kd.Qu b5.out O.out (by decide)) (fun _ hk=>hk.2) _) (fun _ hk=>⟨hk.1.1,hk.1.2⟩)⟩,⟨by(with_reducible repeat first|apply Kd.Qk|apply Kd.Qj|apply Kd.Qm);exact Kd.Qq (Kd.Qr (Kd.Qu HO_362002.out O.out (by decide)) (fun _ hk=>hk.2) _) (fun _ hk=>⟨hk.1.1,hk.1.2⟩)⟩,⟨bka U⟩,⟨bka γ⟩,⟨by(with_reducible repeat first|apply Qe|apply Qa|apply Qb);refine Qw (cs:=#[X,ι,ε]) ?_ 1 _ rfl;(with_reducible repeat first|apply Qe|apply Qa|apply Qb);exact O.out⟩,⟨bel⟩⟩
            ·rw[if_neg cv] at H
             have c48b0:(((Qg D B).f2)==J)=false:=beq_eq_false_iff_ne.mpr cv
             have c48b1:(((Qg D B).f2) != J)=true:=bne_iff_ne.mpr cv
             have H':=Aside0.mk H
             clear H
             have ij:= χ.out
             have ik:= κ.out
             have ib:=ak.out
             have ic:=ai.out
             have lc:=ae.out
             have lf:=ah.out
             obtain⟨fy,fz,mi,g2,gv,mj⟩:=qD3 O.out
             have k0:=a4.out
             have k3:=a0.out
             have im:=aa.out
             have iq:=a5.out
             obtain⟨f9,fg,j4,fh,fi,jj⟩:=qD3 η.out
             go_wp2_with (first|((with_reducible refine Z5 (b:=.append) (xs:=#[.tmp 58,.tmp 61]) rfl ?_);at_builtin;refine Kd.Yx (Kd.int .i64) (w0:=w) w.heap.size rfl (.tmp 58) (.tmp 61) 45 3 (.int .i64 0) 8 rfl Try.underlying45 Kb rfl (by decide) (by omega) ι ζ ((Qg D B).f0) [.int .i64 ((Qg D B).f0)] (fun k_=>some k_≠(X:Value).ownBlock∧some k_≠(ε :Value).ownBlock) (fun _=>False) rfl rfl ?aP (fun _ hk=>hk.elim) ?aF ?aO ?aB ?aS ?aL ?_;(case aP=>exact rfl);(case aB=>exact HB.out);(case aF=>exact(fun k_ hk=>⟨Kd.fresh' (Kd.Zq HO_362000.out) k_ hk,Kd.fresh' (Kd.Zq HO_362002.out) k_ hk⟩));(case aO=>exact HO_362001.out);(case aS=>exact(Ql HB.out));(case aL=>have:=d8.out;omega);intro gr lg ho hb hg hat;rw[← dn.out] at ho;have b5:=Aside0.mk ho;replace HO_362000:=Aside0.mk (Kd.Xl (ok:=(fun k_=>some k_≠(ε :Value).ownBlock)) (by(with_reducible repeat first|apply Kd.Qk|apply Kd.Qj|apply Kd.Qm);exact Kd.Qq HO_362000.out (fun _ hk=>⟨hk.2,hk.1⟩)) hg hat);replace HO_362002:=Aside0.mk (Kd.Xl (ok:=(fun k_=>some k_≠(X:Value).ownBlock)) HO_362002.out hg hat);replace U:=Aside0.mk (Q4 (g:=az) (o:=.cells #[.slice (some bi) D.length Y,.slice ρ I.length θ] 27 (0,0)) U.out hg (Kd.Z4 HO_362001.out U.out (by decide)));replace γ:=Aside0.mk (Q4 (g:=b8) (o:=.cells #[.slice none 0 0,.slice none 0 0,.slice none 0 0] 47 (0,0)) γ.out hg (Kd.Z4 HO_362001.out γ.out (by decide)));replace O:=Aside0.mk (Q4 (g:=an) (o:=.cells #[X,ι,ε] 47 (0,0)) O.out hg (Kd.Z4 HO_362001.out O.out (by decide)));replace η :=Aside0.mk (Q4 (g:=bv) (o:=.cells #[.int .i64 ((Qg D B).f0),.int .i64 ((Qg D B).f1),.int .i64 ((Qg D B).f2)] 56 (0,0)) η.out hg (Kd.Z4 HO_362001.out η.out (by decide)));replace HB:=Aside0.mk hb;clear HO_362001;clear ho hb hg hat;obtain⟨fa,fc,fk⟩:=Kd.Q3 b5.out;subst fk;obtain⟨jk,jl,jm,jn,jo,jp⟩:=qD3 O.out;obtain⟨gh,gi,jd,gj,gl,je⟩:=qD3 η.out))
             go_roundg am
             case measure=>have:=σ.out;have:=ag.out;have:=bb.out;omega
             case rel=>exact⟨(wrap64 (B+1)),(ψ),(Z),(.slice fa ψ.length fc),(ε),qR,H',⟨by have:=σ.out;have:=ag.out;have:=bb.out;omega⟩,⟨by(with_reducible repeat first|apply Kd.Qk|apply Kd.Qj|apply Kd.Qm);exact Kd.Qq (Kd.Qr (Kd.Qu HO_362000.out O.out (by decide)) (fun _ hk=>hk.2) _) (fun _ hk=>⟨hk.1.2,hk.1.1⟩)⟩,⟨by(with_reducible repeat first|apply Kd.Qk|apply Kd.Qj|apply Kd.Qm);exact Kd.Qq (Kd.Qr (Kd.Qu b5.out O.out (by decide)) (fun _ hk=>hk.2) _) (fun _ hk=>⟨hk.1.1,hk.1.2⟩)⟩,⟨by(with_reducible repeat first|apply Kd.Qk|apply Kd.Qj|apply Kd.Qm);exact Kd.Qq (Kd.Qr (Kd.Qu HO_362002.out O.out (by decide)) (fun _ hk=>hk.2) _) (fun _ hk=>⟨hk.1.1,hk.1.2⟩)⟩,⟨bka U⟩,⟨bka γ⟩,⟨by(with_reducible repeat first|apply Qe|apply Qa|apply Qb);refine Qw (cs:=#[X,ι,ε]) ?_ 1 _ rfl;(with_reducible repeat first|apply Qe|apply Qa|apply Qb);exact O.out⟩,⟨bel⟩⟩
           ·rw[if_neg fe] at H
            exact absurd H (by simp)
          ·replace ec:=Bool.eq_false_iff.mpr ec
           subst ec
           have H1:(if ((Qg D B).f2)=J then (if ((Qg D B).f1)=(-1) then (if Z.length<17592186044416 then (newelref19_View.l1 am J (wrap64 (B+1)) D I δ ζ (Z ++ [((Qg D B).f0)])) else (none)) else (newelref19_View.l1 am J (wrap64 (B+1)) D I δ ζ Z)) else (newelref19_View.l1 am J (wrap64 (B+1)) D I δ ζ Z))=some (r1,r2,r3):=by rw[if_neg (show ¬ (false=true) by decide)] at H;exact H
           clear H
           have H:=H1
           clear H1
           by_cases d0:((Qg D B).f2)=J
           ·rw[if_pos d0] at H
            have c87b0:(((Qg D B).f2)==J)=true:=beq_iff_eq.mpr d0
            have c87b1:(((Qg D B).f2) != J)=false:=bne_eq_false_iff_eq.mpr d0
            clear d0
            by_cases d1:((Qg D B).f1)=(-1)
            ·rw[if_pos d1] at H
             have c88b0:(((Qg D B).f1)==(-1))=true:=beq_iff_eq.mpr d1
             have c88b1:(((Qg D B).f1) != (-1))=false:=bne_eq_false_iff_eq.mpr d1
             clear d1
             by_cases g1:Z.length<17592186044416
             ·rw[if_pos g1] at H
              have ii:=Aside0.mk g1
              clear g1
              obtain⟨en,cr⟩:∃ y_:List Int,y_=(Z ++ [((Qg D B).f0)]):=⟨_,rfl⟩
              replace H:(newelref19_View.l1 am J (wrap64 (B+1)) D I δ ζ en)=some (r1,r2,r3):=by first|(rw[cr];with_reducible exact H)|(have τ :=(Option.bind_some _ _).symm.trans H;rw[cr];with_reducible exact τ)|(have τ :=(Option.bind_some _ _).symm.trans H;with_reducible exact τ)|with_reducible exact H|(rw[cr];exact H)|exact H
              have ir:=Aside0.mk cr
              clear cr
              have H':=Aside0.mk H
              clear H
              have jc:=a4.out
              have jg:=a0.out
              have nz:=aa.out
              have o0:=a5.out
              have kk:=ah.out
              have kl:=ae.out
              obtain⟨ml,mm,mn,mo,mq,mr⟩:=qD3 η.out
              have ks:= χ.out
              have kt:= κ.out
              have o1:=ak.out
              have o2:=ai.out
              obtain⟨ms,mt,mu,mw,mx,my⟩:=qD3 O.out
              go_wp2_with (first|((with_reducible refine Z5 (b:=.append) (xs:=#[.tmp 74,.tmp 77]) rfl ?_);at_builtin;refine Kd.Yx (Kd.int .i64) (w0:=w) w.heap.size rfl (.tmp 74) (.tmp 77) 45 3 (.int .i64 0) 8 rfl Try.underlying45 Kb rfl (by decide) (by omega) ε Z ((Qg D B).f0) [.int .i64 ((Qg D B).f0)] (fun k_=>some k_≠(X:Value).ownBlock∧some k_≠(ι :Value).ownBlock) (fun _=>False) rfl rfl ?aP (fun _ hk=>hk.elim) ?aF ?aO ?aB ?aS ?aL ?_;(case aP=>exact rfl);(case aB=>exact HB.out);(case aF=>exact(fun k_ hk=>⟨Kd.fresh' (Kd.Zq HO_362000.out) k_ hk,Kd.fresh' (Kd.Zq HO_362001.out) k_ hk⟩));(case aO=>exact HO_362002.out);(case aS=>exact(Ql HB.out));(case aL=>have:=ii.out;omega);intro o7 sj ho hb hg hat;rw[← ir.out] at ho;have et:=Aside0.mk ho;replace HO_362000:=Aside0.mk (Kd.Xl (ok:=(fun k_=>some k_≠(ι :Value).ownBlock)) HO_362000.out hg hat);replace HO_362001:=Aside0.mk (Kd.Xl (ok:=(fun k_=>some k_≠(X:Value).ownBlock)) HO_362001.out hg hat);replace U:=Aside0.mk (Q4 (g:=az) (o:=.cells #[.slice (some bi) D.length Y,.slice ρ I.length θ] 27 (0,0)) U.out hg (Kd.Z4 HO_362002.out U.out (by decide)));replace γ:=Aside0.mk (Q4 (g:=b8) (o:=.cells #[.slice none 0 0,.slice none 0 0,.slice none 0 0] 47 (0,0)) γ.out hg (Kd.Z4 HO_362002.out γ.out (by decide)));replace O:=Aside0.mk (Q4 (g:=an) (o:=.cells #[X,ι,ε] 47 (0,0)) O.out hg (Kd.Z4 HO_362002.out O.out (by decide)));replace η :=Aside0.mk (Q4 (g:=bv) (o:=.cells #[.int .i64 ((Qg D B).f0),.int .i64 ((Qg D B).f1),.int .i64 ((Qg D B).f2)] 56 (0,0)) η.out hg (Kd.Z4 HO_362002.out η.out (by decide)));replace HB:=Aside0.mk hb;clear HO_362002;clear ho hb hg hat;obtain⟨kg,kh,ki⟩:=Kd.Q3 et.out;subst ki;obtain⟨hj,hl,jq,hu,hx,jr⟩:=qD3 O.out))
              go_roundg am
              case measure=>have:=σ.out;have:=ag.out;have:=bb.out;omega
              case rel=>exact⟨(wrap64 (B+1)),(ζ),(en),(ι),(.slice kg en.length kh),qR,H',⟨by have:=σ.out;have:=ag.out;have:=bb.out;omega⟩,⟨by(with_reducible repeat first|apply Kd.Qk|apply Kd.Qj|apply Kd.Qm);exact Kd.Qq (Kd.Qr (Kd.Qu HO_362000.out O.out (by decide)) (fun _ hk=>hk.2) _) (fun _ hk=>⟨hk.1.1,hk.1.2⟩)⟩,⟨by(with_reducible repeat first|apply Kd.Qk|apply Kd.Qj|apply Kd.Qm);exact Kd.Qq (Kd.Qr (Kd.Qu HO_362001.out O.out (by decide)) (fun _ hk=>hk.2) _) (fun _ hk=>⟨hk.1.1,hk.1.2⟩)⟩,⟨by(with_reducible repeat first|apply Kd.Qk|apply Kd.Qj|apply Kd.Qm);exact Kd.Qq (Kd.Qr (Kd.Qu et.out O.out (by decide)) (fun _ hk=>hk.2) _) (fun _ hk=>⟨hk.1.1,hk.1.2⟩)⟩,⟨bka U⟩,⟨bka γ⟩,⟨by(with_reducible repeat first|apply Qe|apply Qa|apply Qb);refine Qw (cs:=#[X,ι,ε]) ?_ 2 _ rfl;(with_reducible repeat first|apply Qe|apply Qa|apply Qb);exact O.out⟩,⟨bel⟩⟩
             ·rw[if_neg g1] at H
              exact absurd H (by simp)
            ·rw[if_neg d1] at H
             have c88b0:(((Qg D B).f1)==(-1))=false:=beq_eq_false_iff_ne.mpr d1
             have c88b1:(((Qg D B).f1) != (-1))=true:=bne_iff_ne.mpr d1
             have H':=Aside0.mk H
             clear H
             have n2:=a4.out
             have n3:=a0.out
             have nf:=aa.out
             have ng:=a5.out
             have nh:=ah.out
             have ni:=ae.out
             obtain⟨kj,l6,l7,lh,ll,lm⟩:=qD3 η.out
             go_wp2
             go_roundg am
             case measure=>have:=σ.out;have:=ag.out;have:=bb.out;omega
             case rel=>exact⟨(wrap64 (B+1)),(ζ),(Z),(ι),(ε),rfl,H',⟨by have:=σ.out;have:=ag.out;have:=bb.out;omega⟩,⟨by(with_reducible repeat first|apply Kd.Qk|apply Kd.Qj|apply Kd.Qm);exact HO_362000.out⟩,⟨by(with_reducible repeat first|apply Kd.Qk|apply Kd.Qj|apply Kd.Qm);exact HO_362001.out⟩,⟨by(with_reducible repeat first|apply Kd.Qk|apply Kd.Qj|apply Kd.Qm);exact HO_362002.out⟩,U,γ,O,HB⟩
           ·rw[if_neg d0] at H
            have c87b0:(((Qg D B).f2)==J)=false:=beq_eq_false_iff_ne.mpr d0
            have c87b1:(((Qg D B).f2) != J)=true:=bne_iff_ne.mpr d0
            have H':=Aside0.mk H
            clear H
            have nj:=a4.out
            have nk:=a0.out
            have ju:=aa.out
            have jv:=a5.out
            have km:=ah.out
            have kn:=ae.out
            obtain⟨fl,fm,ln,fn,fo,lp⟩:=qD3 η.out
            go_wp2
            go_roundg am
            case measure=>have:=σ.out;have:=ag.out;have:=bb.out;omega
            case rel=>exact⟨(wrap64 (B+1)),(ζ),(Z),(ι),(ε),rfl,H',⟨by have:=σ.out;have:=ag.out;have:=bb.out;omega⟩,⟨by(with_reducible repeat first|apply Kd.Qk|apply Kd.Qj|apply Kd.Qm);exact HO_362000.out⟩,⟨by(with_reducible repeat first|apply Kd.Qk|apply Kd.Qj|apply Kd.Qm);exact HO_362001.out⟩,⟨by(with_reducible repeat first|apply Kd.Qk|apply Kd.Qj|apply Kd.Qm);exact HO_362002.out⟩,U,γ,O,HB⟩
       ·rw[if_neg cd] at H
        exact absurd H (by simp)
      ·rw[if_neg ac] at H
       have c26b0:decide (B<(D.length:Int))=false:=decide_eq_false ac
       clear ac
       simp only[Option.some.injEq,Prod.mk.injEq] at H
       obtain⟨rfl,rfl,rfl⟩:=H
       have ko:=b9.out
       have kp:=ba.out
       have na:= κ.out
       have nb:= χ.out
       obtain⟨ku,kv,kw,kx⟩:=qD2 U.out
       have nc:=ak.out
       have nd:=ai.out
       obtain⟨fp,fq,lq,ft,fu,lr⟩:=qD3 O.out
       obtain⟨dv,dw,it⟩:=Kd.Q3 HO_362000.out
       subst it
       obtain⟨ky,kz,l2,l3,l4,l5⟩:=qD3 γ.out
       obtain⟨eu,f3,iw⟩:=Kd.Q3 HO_362001.out
       subst iw
       obtain⟨ix,iy,jf⟩:=Kd.Q3 HO_362002.out
       subst jf
       go_wp2
       refine bodyPost_ret (results_cell_row rfl _ _ b8 47 #[.slice dv δ.length dw,.slice eu ζ.length f3,.slice ix Z.length iy] (0,0) _ rfl (by refine Qw (cs:=#[.slice dv δ.length dw,.slice eu ζ.length f3,.slice none 0 0]) ?_ 2 _ rfl;refine Qw (cs:=#[.slice dv δ.length dw,.slice none 0 0,.slice none 0 0]) ?_ 1 _ rfl;refine Qw (cs:=#[.slice none 0 0,.slice none 0 0,.slice none 0 0]) ?_ 0 _ rfl;exact γ.out) Try.underlying47 rfl kr) rfl ?_
       exact⟨_,_,_,by first|rfl|(simp[Qz,Qy] <;> rfl)|(simp[*,Qz,Qy] <;> rfl),by(with_reducible repeat first|apply Kd.Qk|apply Kd.Qj|apply Kd.Qm);exact Kd.Qq (Kd.Qr (Kd.Qr (Kd.Qr (Kd.Qu HO_362000.out γ.out (by decide)) (fun _ hk=>hk.2) _) (fun _ hk=>hk.2) _) (fun _ hk=>hk.2) _) (fun _ hk=>⟨hk.1.1,hk.1.2⟩),by(with_reducible repeat first|apply Kd.Qk|apply Kd.Qj|apply Kd.Qm);exact Kd.Qq (Kd.Qr (Kd.Qr (Kd.Qr (Kd.Qu HO_362001.out γ.out (by decide)) (fun _ hk=>hk.2) _) (fun _ hk=>hk.2) _) (fun _ hk=>hk.2) _) (fun _ hk=>⟨hk.1.1,hk.1.2⟩),by(with_reducible repeat first|apply Kd.Qk|apply Kd.Qj|apply Kd.Qm);exact Kd.Qq (Kd.Qr (Kd.Qr (Kd.Qr (Kd.Qu HO_362002.out γ.out (by decide)) (fun _ hk=>hk.2) _) (fun _ hk=>hk.2) _) (fun _ hk=>hk.2) _) (fun _ hk=>⟨hk.1.1,hk.1.2⟩),bel⟩
end Go.Proofs.Ytjehhhlhalkieaa.C
