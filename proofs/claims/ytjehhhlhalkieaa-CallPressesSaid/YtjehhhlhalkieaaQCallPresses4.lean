/- Texts of this claim, one behind the other: what the law's functions come to, walked (printed by a program, with the words that the print uses), and what that is, in plain Lean. No conditions of their own. -/
import Derived.Test.YtjehhhlhalkieaaQCallPresses3
namespace Go.Proofs.Ytjehhhlhalkieaa.C
open Go.RowKit Go.Proofs.YtjehhhlhalkieaaW.PrintWords Go.Proofs.YtjehhhlhalkieaaW.PrintLast Go.Proofs.YtjehhhlhalkieaaW.PrintMore
attribute [local go_sem] Z4 Z2 Xe Xd Zx Zw Z3 Z1
set_option linter.unusedVariables false
set_option linter.unusedSimpArgs false
def newelref19_Inside.f (J:Int) (D:Int) (I:Int) (L:Int):Option (Bool):=if I≥0 then (if I<D then (if L≥0 then (some (decide (L<J))) else (some false)) else (some false)) else (some false)
set_option maxHeartbeats 8000000 in
set_option maxRecDepth 100000 in
theorem newelref19_Inside.calls (J:Int) (D:Int) (I:Int) (L:Int) (r:Bool) (w:World) (h:newelref19_Inside.f J D I L=some r):
  Calls Try.prog 39 #[.agg #[.int .i64 J,.int .i64 D],.agg #[.int .i64 I,.int .i64 L]] w fun e w'=>e = .returned (.bool r)∧Below w.heap.size w w':=by
 have dk:=Try.underlying23
 have b8:=Try.underlying62
 have HB:=Aside0.mk (Below.refl w.heap.size w)
 have H:(if I≥0 then (if I<D then (if L≥0 then (some (decide (L<J))) else (some false)) else (some false)) else (some false))=some r:=h
 clear h
 by_cases c3:I≥0
 ·rw[if_pos c3] at H
  have c3b0:decide (0≤I)=true:=decide_eq_true c3
  clear c3
  by_cases c4:I<D
  ·rw[if_pos c4] at H
   have c4b0:decide (I<D)=true:=decide_eq_true c4
   clear c4
   by_cases c5:L≥0
   ·rw[if_pos c5] at H
    have c5b0:decide (0≤L)=true:=decide_eq_true c5
    clear c5
    obtain rfl:=Option.some.inj H
    go_enter Try.func39,Try.ntmps39
    go_wp2_with (first|((with_reducible refine Qp (N:=2) rfl ?_);refine Q7 ?hg (N:=2) ?hd (cs:=#[.int .i64 J,.int .i64 D]) (t:=23) ?hr ?_;(case hd=>rfl);(case hg=>rfl);(case hr=>first|(go_simp;done)|(go_simp;rfl));intro B hg w6 hbox hb;have O:=Aside0.mk (Qt (by repeat(first|(with_reducible first|exact HB.out|apply Qh|apply Qc|apply Qe)|exact HB.out)) hb);have Z:=Aside0.mk (hbox);have ι :=Aside0.mk ((by rw[hg];exact(Qj (by repeat(first|(with_reducible first|exact HB.out|apply Qh|apply Qc|apply Qe)|exact HB.out))):w.heap.size≤B));have κ :=Aside0.mk ((by rw[hg];exact(Qj (by repeat(first|(with_reducible first|exact HB.out|apply Qh|apply Qc|apply Qe)|exact HB.out))):w.heap.size≤B));clear HB;have HB:=O;have U:=Z;have η := ι;have X:= κ;clear O Z ι κ;clear hb hbox hg)|((with_reducible refine Qp (N:=3) rfl ?_);refine Q7 ?hg (N:=3) ?hd (cs:=#[.int .i64 I,.int .i64 L]) (t:=62) ?hr ?_;(case hd=>rfl);(case hg=>rfl);(case hr=>first|(go_simp;done)|(go_simp;rfl));intro Y hg w7 hbox hb;have O:=Aside0.mk (Qo (g:=B) (o:=.cells #[.int .i64 J,.int .i64 D] 23 (0,0)) (by(with_reducible repeat first|apply Qf|apply Qb|apply Qg);exact U.out) hb);have Z:=Aside0.mk (Qt (by repeat(first|(with_reducible first|exact HB.out|apply Qh|apply Qc|apply Qe|refine Qd ?_ X.out)|exact HB.out)) hb);have ι :=Aside0.mk (hbox);have κ :=Aside0.mk ((by rw[hg];exact(Qj (by repeat(first|(with_reducible first|exact HB.out|apply Qh|apply Qc|apply Qe|refine Qd ?_ X.out)|exact HB.out))):w.heap.size≤Y));have ξ :=Aside0.mk ((by rw[hg];exact(Qj (by repeat(first|(with_reducible first|exact HB.out|apply Qh|apply Qc|apply Qe|refine Qd ?_ X.out)|exact HB.out))):w.heap.size≤Y));have ψ :=Aside0.mk ((by rw[hg];exact Nat.ne_of_lt (Q3 (g:=B) (o:=.cells #[.int .i64 J,.int .i64 D] 23 (0,0)) (by(with_reducible repeat first|apply Qf|apply Qb|apply Qg);exact U.out)):B≠Y));have a1:=Aside0.mk ((by rw[hg];exact Nat.ne_of_gt (Q3 (g:=B) (o:=.cells #[.int .i64 J,.int .i64 D] 23 (0,0)) (by(with_reducible repeat first|apply Qf|apply Qb|apply Qg);exact U.out)):Y≠B));clear U;clear HB;have U:=O;have HB:=Z;have ε := ι;have θ := κ;have ζ := ξ;have γ:= ψ;have δ :=a1;clear O Z ι κ ξ ψ a1;clear hb hbox hg;have bc:= δ.out;have cd:=γ.out;obtain⟨ae,bh,bi,bj⟩:=qD2 ε.out;obtain⟨al,ax,bk,bl⟩:=qD2 U.out))
    go_ret
    exact⟨by first|rfl|(simp[Qy,Qx] <;> rfl)|(simp[*,Qy,Qx] <;> rfl),by repeat(first|(with_reducible first|exact HB.out|apply Qh|apply Qc|apply Qe|refine Qd ?_ X.out|refine Qd ?_ ζ.out)|exact HB.out)⟩
   ·rw[if_neg c5] at H
    have c5b0:decide (0≤L)=false:=decide_eq_false c5
    clear c5
    obtain rfl:=Option.some.inj H
    go_enter Try.func39,Try.ntmps39
    go_wp2_with (first|((with_reducible refine Qp (N:=2) rfl ?_);refine Q7 ?hg (N:=2) ?hd (cs:=#[.int .i64 J,.int .i64 D]) (t:=23) ?hr ?_;(case hd=>rfl);(case hg=>rfl);(case hr=>first|(go_simp;done)|(go_simp;rfl));intro B hg dm hbox hb;have O:=Aside0.mk (Qt (by repeat(first|(with_reducible first|exact HB.out|apply Qh|apply Qc|apply Qe)|exact HB.out)) hb);have Z:=Aside0.mk (hbox);have ι :=Aside0.mk ((by rw[hg];exact(Qj (by repeat(first|(with_reducible first|exact HB.out|apply Qh|apply Qc|apply Qe)|exact HB.out))):w.heap.size≤B));have κ :=Aside0.mk ((by rw[hg];exact(Qj (by repeat(first|(with_reducible first|exact HB.out|apply Qh|apply Qc|apply Qe)|exact HB.out))):w.heap.size≤B));clear HB;have HB:=O;have U:=Z;have η := ι;have X:= κ;clear O Z ι κ;clear hb hbox hg)|((with_reducible refine Qp (N:=3) rfl ?_);refine Q7 ?hg (N:=3) ?hd (cs:=#[.int .i64 I,.int .i64 L]) (t:=62) ?hr ?_;(case hd=>rfl);(case hg=>rfl);(case hr=>first|(go_simp;done)|(go_simp;rfl));intro Y hg d2 hbox hb;have O:=Aside0.mk (Qo (g:=B) (o:=.cells #[.int .i64 J,.int .i64 D] 23 (0,0)) (by(with_reducible repeat first|apply Qf|apply Qb|apply Qg);exact U.out) hb);have Z:=Aside0.mk (Qt (by repeat(first|(with_reducible first|exact HB.out|apply Qh|apply Qc|apply Qe|refine Qd ?_ X.out)|exact HB.out)) hb);have ι :=Aside0.mk (hbox);have κ :=Aside0.mk ((by rw[hg];exact(Qj (by repeat(first|(with_reducible first|exact HB.out|apply Qh|apply Qc|apply Qe|refine Qd ?_ X.out)|exact HB.out))):w.heap.size≤Y));have ξ :=Aside0.mk ((by rw[hg];exact(Qj (by repeat(first|(with_reducible first|exact HB.out|apply Qh|apply Qc|apply Qe|refine Qd ?_ X.out)|exact HB.out))):w.heap.size≤Y));have ψ :=Aside0.mk ((by rw[hg];exact Nat.ne_of_lt (Q3 (g:=B) (o:=.cells #[.int .i64 J,.int .i64 D] 23 (0,0)) (by(with_reducible repeat first|apply Qf|apply Qb|apply Qg);exact U.out)):B≠Y));have a1:=Aside0.mk ((by rw[hg];exact Nat.ne_of_gt (Q3 (g:=B) (o:=.cells #[.int .i64 J,.int .i64 D] 23 (0,0)) (by(with_reducible repeat first|apply Qf|apply Qb|apply Qg);exact U.out)):Y≠B));clear U;clear HB;have U:=O;have HB:=Z;have ε := ι;have θ := κ;have ζ := ξ;have γ:= ψ;have δ :=a1;clear O Z ι κ ξ ψ a1;clear hb hbox hg;have bw:= δ.out;have ce:=γ.out;obtain⟨az,b0,b1,b2⟩:=qD2 ε.out;obtain⟨cj,ck,cm,cn⟩:=qD2 U.out))
    go_ret
    exact⟨by first|rfl|(simp[Qy,Qx] <;> rfl)|(simp[*,Qy,Qx] <;> rfl),by repeat(first|(with_reducible first|exact HB.out|apply Qh|apply Qc|apply Qe|refine Qd ?_ X.out|refine Qd ?_ ζ.out)|exact HB.out)⟩
  ·rw[if_neg c4] at H
   have c4b0:decide (I<D)=false:=decide_eq_false c4
   clear c4
   obtain rfl:=Option.some.inj H
   go_enter Try.func39,Try.ntmps39
   go_wp2_with (first|((with_reducible refine Qp (N:=2) rfl ?_);refine Q7 ?hg (N:=2) ?hd (cs:=#[.int .i64 J,.int .i64 D]) (t:=23) ?hr ?_;(case hd=>rfl);(case hg=>rfl);(case hr=>first|(go_simp;done)|(go_simp;rfl));intro B hg af hbox hb;have O:=Aside0.mk (Qt (by repeat(first|(with_reducible first|exact HB.out|apply Qh|apply Qc|apply Qe)|exact HB.out)) hb);have Z:=Aside0.mk (hbox);have ι :=Aside0.mk ((by rw[hg];exact(Qj (by repeat(first|(with_reducible first|exact HB.out|apply Qh|apply Qc|apply Qe)|exact HB.out))):w.heap.size≤B));have κ :=Aside0.mk ((by rw[hg];exact(Qj (by repeat(first|(with_reducible first|exact HB.out|apply Qh|apply Qc|apply Qe)|exact HB.out))):w.heap.size≤B));clear HB;have HB:=O;have U:=Z;have η := ι;have X:= κ;clear O Z ι κ;clear hb hbox hg)|((with_reducible refine Qp (N:=3) rfl ?_);refine Q7 ?hg (N:=3) ?hd (cs:=#[.int .i64 I,.int .i64 L]) (t:=62) ?hr ?_;(case hd=>rfl);(case hg=>rfl);(case hr=>first|(go_simp;done)|(go_simp;rfl));intro Y hg g6 hbox hb;have O:=Aside0.mk (Qo (g:=B) (o:=.cells #[.int .i64 J,.int .i64 D] 23 (0,0)) (by(with_reducible repeat first|apply Qf|apply Qb|apply Qg);exact U.out) hb);have Z:=Aside0.mk (Qt (by repeat(first|(with_reducible first|exact HB.out|apply Qh|apply Qc|apply Qe|refine Qd ?_ X.out)|exact HB.out)) hb);have ι :=Aside0.mk (hbox);have κ :=Aside0.mk ((by rw[hg];exact(Qj (by repeat(first|(with_reducible first|exact HB.out|apply Qh|apply Qc|apply Qe|refine Qd ?_ X.out)|exact HB.out))):w.heap.size≤Y));have ξ :=Aside0.mk ((by rw[hg];exact(Qj (by repeat(first|(with_reducible first|exact HB.out|apply Qh|apply Qc|apply Qe|refine Qd ?_ X.out)|exact HB.out))):w.heap.size≤Y));have ψ :=Aside0.mk ((by rw[hg];exact Nat.ne_of_lt (Q3 (g:=B) (o:=.cells #[.int .i64 J,.int .i64 D] 23 (0,0)) (by(with_reducible repeat first|apply Qf|apply Qb|apply Qg);exact U.out)):B≠Y));have a1:=Aside0.mk ((by rw[hg];exact Nat.ne_of_gt (Q3 (g:=B) (o:=.cells #[.int .i64 J,.int .i64 D] 23 (0,0)) (by(with_reducible repeat first|apply Qf|apply Qb|apply Qg);exact U.out)):Y≠B));clear U;clear HB;have U:=O;have HB:=Z;have ε := ι;have θ := κ;have ζ := ξ;have γ:= ψ;have δ :=a1;clear O Z ι κ ξ ψ a1;clear hb hbox hg;have ca:= δ.out;have cb:=γ.out;obtain⟨am,ao,ap,av⟩:=qD2 ε.out;obtain⟨ah,ak,bd,be⟩:=qD2 U.out))
   go_ret
   exact⟨by first|rfl|(simp[Qy,Qx] <;> rfl)|(simp[*,Qy,Qx] <;> rfl),by repeat(first|(with_reducible first|exact HB.out|apply Qh|apply Qc|apply Qe|refine Qd ?_ X.out|refine Qd ?_ ζ.out)|exact HB.out)⟩
 ·rw[if_neg c3] at H
  have c3b0:decide (0≤I)=false:=decide_eq_false c3
  clear c3
  obtain rfl:=Option.some.inj H
  go_enter Try.func39,Try.ntmps39
  go_wp2_with (first|((with_reducible refine Qp (N:=2) rfl ?_);refine Q7 ?hg (N:=2) ?hd (cs:=#[.int .i64 J,.int .i64 D]) (t:=23) ?hr ?_;(case hd=>rfl);(case hg=>rfl);(case hr=>first|(go_simp;done)|(go_simp;rfl));intro B hg bp hbox hb;have O:=Aside0.mk (Qt (by repeat(first|(with_reducible first|exact HB.out|apply Qh|apply Qc|apply Qe)|exact HB.out)) hb);have Z:=Aside0.mk (hbox);have ι :=Aside0.mk ((by rw[hg];exact(Qj (by repeat(first|(with_reducible first|exact HB.out|apply Qh|apply Qc|apply Qe)|exact HB.out))):w.heap.size≤B));have κ :=Aside0.mk ((by rw[hg];exact(Qj (by repeat(first|(with_reducible first|exact HB.out|apply Qh|apply Qc|apply Qe)|exact HB.out))):w.heap.size≤B));clear HB;have HB:=O;have U:=Z;have η := ι;have X:= κ;clear O Z ι κ;clear hb hbox hg)|((with_reducible refine Qp (N:=3) rfl ?_);refine Q7 ?hg (N:=3) ?hd (cs:=#[.int .i64 I,.int .i64 L]) (t:=62) ?hr ?_;(case hd=>rfl);(case hg=>rfl);(case hr=>first|(go_simp;done)|(go_simp;rfl));intro Y hg dr hbox hb;have O:=Aside0.mk (Qo (g:=B) (o:=.cells #[.int .i64 J,.int .i64 D] 23 (0,0)) (by(with_reducible repeat first|apply Qf|apply Qb|apply Qg);exact U.out) hb);have Z:=Aside0.mk (Qt (by repeat(first|(with_reducible first|exact HB.out|apply Qh|apply Qc|apply Qe|refine Qd ?_ X.out)|exact HB.out)) hb);have ι :=Aside0.mk (hbox);have κ :=Aside0.mk ((by rw[hg];exact(Qj (by repeat(first|(with_reducible first|exact HB.out|apply Qh|apply Qc|apply Qe|refine Qd ?_ X.out)|exact HB.out))):w.heap.size≤Y));have ξ :=Aside0.mk ((by rw[hg];exact(Qj (by repeat(first|(with_reducible first|exact HB.out|apply Qh|apply Qc|apply Qe|refine Qd ?_ X.out)|exact HB.out))):w.heap.size≤Y));have ψ :=Aside0.mk ((by rw[hg];exact Nat.ne_of_lt (Q3 (g:=B) (o:=.cells #[.int .i64 J,.int .i64 D] 23 (0,0)) (by(with_reducible repeat first|apply Qf|apply Qb|apply Qg);exact U.out)):B≠Y));have a1:=Aside0.mk ((by rw[hg];exact Nat.ne_of_gt (Q3 (g:=B) (o:=.cells #[.int .i64 J,.int .i64 D] 23 (0,0)) (by(with_reducible repeat first|apply Qf|apply Qb|apply Qg);exact U.out)):Y≠B));clear U;clear HB;have U:=O;have HB:=Z;have ε := ι;have θ := κ;have ζ := ξ;have γ:= ψ;have δ :=a1;clear O Z ι κ ξ ψ a1;clear hb hbox hg;have fc:= δ.out;have fg:=γ.out;obtain⟨d5,d7,d8,d9⟩:=qD2 ε.out))
  go_ret
  exact⟨by first|rfl|(simp[Qy,Qx] <;> rfl)|(simp[*,Qy,Qx] <;> rfl),by repeat(first|(with_reducible first|exact HB.out|apply Qh|apply Qc|apply Qe|refine Qd ?_ X.out|refine Qd ?_ ζ.out)|exact HB.out)⟩
def newelref19_before.f (J:Int) (D:Int) (I:Int) (L:Int):Option (Bool):=if J<I then (some true) else (if J=I then (some (decide (D<L))) else (some false))
set_option maxHeartbeats 8000000 in
set_option maxRecDepth 100000 in
theorem newelref19_before.calls (J:Int) (D:Int) (I:Int) (L:Int) (r:Bool) (w:World) (h:newelref19_before.f J D I L=some r):
  Calls Try.prog 40 #[.agg #[.int .i64 J,.int .i64 D],.agg #[.int .i64 I,.int .i64 L]] w fun e w'=>e = .returned (.bool r)∧Below w.heap.size w w':=by
 have b8:=Try.underlying62
 have HB:=Aside0.mk (Below.refl w.heap.size w)
 have H:(if J<I then (some true) else (if J=I then (some (decide (D<L))) else (some false)))=some r:=h
 clear h
 by_cases c3:J<I
 ·rw[if_pos c3] at H
  have c3b0:decide (J<I)=true:=decide_eq_true c3
  clear c3
  obtain rfl:=Option.some.inj H
  go_enter Try.func40,Try.ntmps40
  go_wp2_with (first|((with_reducible refine Qp (N:=2) rfl ?_);refine Q7 ?hg (N:=2) ?hd (cs:=#[.int .i64 J,.int .i64 D]) (t:=62) ?hr ?_;(case hd=>rfl);(case hg=>rfl);(case hr=>first|(go_simp;done)|(go_simp;rfl));intro B hg w4 hbox hb;have O:=Aside0.mk (Qt (by repeat(first|(with_reducible first|exact HB.out|apply Qh|apply Qc|apply Qe)|exact HB.out)) hb);have Z:=Aside0.mk (hbox);have ι :=Aside0.mk ((by rw[hg];exact(Qj (by repeat(first|(with_reducible first|exact HB.out|apply Qh|apply Qc|apply Qe)|exact HB.out))):w.heap.size≤B));have κ :=Aside0.mk ((by rw[hg];exact(Qj (by repeat(first|(with_reducible first|exact HB.out|apply Qh|apply Qc|apply Qe)|exact HB.out))):w.heap.size≤B));clear HB;have HB:=O;have U:=Z;have η := ι;have X:= κ;clear O Z ι κ;clear hb hbox hg)|((with_reducible refine Qp (N:=3) rfl ?_);refine Q7 ?hg (N:=3) ?hd (cs:=#[.int .i64 I,.int .i64 L]) (t:=62) ?hr ?_;(case hd=>rfl);(case hg=>rfl);(case hr=>first|(go_simp;done)|(go_simp;rfl));intro Y hg w5 hbox hb;have O:=Aside0.mk (Qo (g:=B) (o:=.cells #[.int .i64 J,.int .i64 D] 62 (0,0)) (by(with_reducible repeat first|apply Qf|apply Qb|apply Qg);exact U.out) hb);have Z:=Aside0.mk (Qt (by repeat(first|(with_reducible first|exact HB.out|apply Qh|apply Qc|apply Qe|refine Qd ?_ X.out)|exact HB.out)) hb);have ι :=Aside0.mk (hbox);have κ :=Aside0.mk ((by rw[hg];exact(Qj (by repeat(first|(with_reducible first|exact HB.out|apply Qh|apply Qc|apply Qe|refine Qd ?_ X.out)|exact HB.out))):w.heap.size≤Y));have ξ :=Aside0.mk ((by rw[hg];exact(Qj (by repeat(first|(with_reducible first|exact HB.out|apply Qh|apply Qc|apply Qe|refine Qd ?_ X.out)|exact HB.out))):w.heap.size≤Y));have ψ :=Aside0.mk ((by rw[hg];exact Nat.ne_of_lt (Q3 (g:=B) (o:=.cells #[.int .i64 J,.int .i64 D] 62 (0,0)) (by(with_reducible repeat first|apply Qf|apply Qb|apply Qg);exact U.out)):B≠Y));have a1:=Aside0.mk ((by rw[hg];exact Nat.ne_of_gt (Q3 (g:=B) (o:=.cells #[.int .i64 J,.int .i64 D] 62 (0,0)) (by(with_reducible repeat first|apply Qf|apply Qb|apply Qg);exact U.out)):Y≠B));clear U;clear HB;have U:=O;have HB:=Z;have ε := ι;have θ := κ;have ζ := ξ;have γ:= ψ;have δ :=a1;clear O Z ι κ ξ ψ a1;clear hb hbox hg;have a3:=γ.out;have a4:= δ.out;obtain⟨χ,ω,a0,a2⟩:=qD2 U.out;obtain⟨aw,b9,bb,bc⟩:=qD2 ε.out))
  go_ret
  exact⟨by first|rfl|(simp[Qy,Qx] <;> rfl)|(simp[*,Qy,Qx] <;> rfl),by repeat(first|(with_reducible first|exact HB.out|apply Qh|apply Qc|apply Qe|refine Qd ?_ X.out|refine Qd ?_ ζ.out)|exact HB.out)⟩
 ·rw[if_neg c3] at H
  have c3b0:decide (J<I)=false:=decide_eq_false c3
  clear c3
  by_cases c9:J=I
  ·rw[if_pos c9] at H
   have c9b0:(J==I)=true:=beq_iff_eq.mpr c9
   have c9b1:(J != I)=false:=bne_eq_false_iff_eq.mpr c9
   clear c9
   obtain rfl:=Option.some.inj H
   go_enter Try.func40,Try.ntmps40
   go_wp2_with (first|((with_reducible refine Qp (N:=2) rfl ?_);refine Q7 ?hg (N:=2) ?hd (cs:=#[.int .i64 J,.int .i64 D]) (t:=62) ?hr ?_;(case hd=>rfl);(case hg=>rfl);(case hr=>first|(go_simp;done)|(go_simp;rfl));intro B hg cu hbox hb;have O:=Aside0.mk (Qt (by repeat(first|(with_reducible first|exact HB.out|apply Qh|apply Qc|apply Qe)|exact HB.out)) hb);have Z:=Aside0.mk (hbox);have ι :=Aside0.mk ((by rw[hg];exact(Qj (by repeat(first|(with_reducible first|exact HB.out|apply Qh|apply Qc|apply Qe)|exact HB.out))):w.heap.size≤B));have κ :=Aside0.mk ((by rw[hg];exact(Qj (by repeat(first|(with_reducible first|exact HB.out|apply Qh|apply Qc|apply Qe)|exact HB.out))):w.heap.size≤B));clear HB;have HB:=O;have U:=Z;have η := ι;have X:= κ;clear O Z ι κ;clear hb hbox hg)|((with_reducible refine Qp (N:=3) rfl ?_);refine Q7 ?hg (N:=3) ?hd (cs:=#[.int .i64 I,.int .i64 L]) (t:=62) ?hr ?_;(case hd=>rfl);(case hg=>rfl);(case hr=>first|(go_simp;done)|(go_simp;rfl));intro Y hg dm hbox hb;have O:=Aside0.mk (Qo (g:=B) (o:=.cells #[.int .i64 J,.int .i64 D] 62 (0,0)) (by(with_reducible repeat first|apply Qf|apply Qb|apply Qg);exact U.out) hb);have Z:=Aside0.mk (Qt (by repeat(first|(with_reducible first|exact HB.out|apply Qh|apply Qc|apply Qe|refine Qd ?_ X.out)|exact HB.out)) hb);have ι :=Aside0.mk (hbox);have κ :=Aside0.mk ((by rw[hg];exact(Qj (by repeat(first|(with_reducible first|exact HB.out|apply Qh|apply Qc|apply Qe|refine Qd ?_ X.out)|exact HB.out))):w.heap.size≤Y));have ξ :=Aside0.mk ((by rw[hg];exact(Qj (by repeat(first|(with_reducible first|exact HB.out|apply Qh|apply Qc|apply Qe|refine Qd ?_ X.out)|exact HB.out))):w.heap.size≤Y));have ψ :=Aside0.mk ((by rw[hg];exact Nat.ne_of_lt (Q3 (g:=B) (o:=.cells #[.int .i64 J,.int .i64 D] 62 (0,0)) (by(with_reducible repeat first|apply Qf|apply Qb|apply Qg);exact U.out)):B≠Y));have a1:=Aside0.mk ((by rw[hg];exact Nat.ne_of_gt (Q3 (g:=B) (o:=.cells #[.int .i64 J,.int .i64 D] 62 (0,0)) (by(with_reducible repeat first|apply Qf|apply Qb|apply Qg);exact U.out)):Y≠B));clear U;clear HB;have U:=O;have HB:=Z;have ε := ι;have θ := κ;have ζ := ξ;have γ:= ψ;have δ :=a1;clear O Z ι κ ξ ψ a1;clear hb hbox hg;have eb:=γ.out;have ec:= δ.out;obtain⟨co,cp,cq,cr⟩:=qD2 U.out;obtain⟨az,b0,b1,b2⟩:=qD2 ε.out))
   go_ret
   exact⟨by first|rfl|(simp[Qy,Qx] <;> rfl)|(simp[*,Qy,Qx] <;> rfl),by repeat(first|(with_reducible first|exact HB.out|apply Qh|apply Qc|apply Qe|refine Qd ?_ X.out|refine Qd ?_ ζ.out)|exact HB.out)⟩
  ·rw[if_neg c9] at H
   have c9b0:(J==I)=false:=beq_eq_false_iff_ne.mpr c9
   have c9b1:(J != I)=true:=bne_iff_ne.mpr c9
   obtain rfl:=Option.some.inj H
   go_enter Try.func40,Try.ntmps40
   go_wp2_with (first|((with_reducible refine Qp (N:=2) rfl ?_);refine Q7 ?hg (N:=2) ?hd (cs:=#[.int .i64 J,.int .i64 D]) (t:=62) ?hr ?_;(case hd=>rfl);(case hg=>rfl);(case hr=>first|(go_simp;done)|(go_simp;rfl));intro B hg cv hbox hb;have O:=Aside0.mk (Qt (by repeat(first|(with_reducible first|exact HB.out|apply Qh|apply Qc|apply Qe)|exact HB.out)) hb);have Z:=Aside0.mk (hbox);have ι :=Aside0.mk ((by rw[hg];exact(Qj (by repeat(first|(with_reducible first|exact HB.out|apply Qh|apply Qc|apply Qe)|exact HB.out))):w.heap.size≤B));have κ :=Aside0.mk ((by rw[hg];exact(Qj (by repeat(first|(with_reducible first|exact HB.out|apply Qh|apply Qc|apply Qe)|exact HB.out))):w.heap.size≤B));clear HB;have HB:=O;have U:=Z;have η := ι;have X:= κ;clear O Z ι κ;clear hb hbox hg)|((with_reducible refine Qp (N:=3) rfl ?_);refine Q7 ?hg (N:=3) ?hd (cs:=#[.int .i64 I,.int .i64 L]) (t:=62) ?hr ?_;(case hd=>rfl);(case hg=>rfl);(case hr=>first|(go_simp;done)|(go_simp;rfl));intro Y hg af hbox hb;have O:=Aside0.mk (Qo (g:=B) (o:=.cells #[.int .i64 J,.int .i64 D] 62 (0,0)) (by(with_reducible repeat first|apply Qf|apply Qb|apply Qg);exact U.out) hb);have Z:=Aside0.mk (Qt (by repeat(first|(with_reducible first|exact HB.out|apply Qh|apply Qc|apply Qe|refine Qd ?_ X.out)|exact HB.out)) hb);have ι :=Aside0.mk (hbox);have κ :=Aside0.mk ((by rw[hg];exact(Qj (by repeat(first|(with_reducible first|exact HB.out|apply Qh|apply Qc|apply Qe|refine Qd ?_ X.out)|exact HB.out))):w.heap.size≤Y));have ξ :=Aside0.mk ((by rw[hg];exact(Qj (by repeat(first|(with_reducible first|exact HB.out|apply Qh|apply Qc|apply Qe|refine Qd ?_ X.out)|exact HB.out))):w.heap.size≤Y));have ψ :=Aside0.mk ((by rw[hg];exact Nat.ne_of_lt (Q3 (g:=B) (o:=.cells #[.int .i64 J,.int .i64 D] 62 (0,0)) (by(with_reducible repeat first|apply Qf|apply Qb|apply Qg);exact U.out)):B≠Y));have a1:=Aside0.mk ((by rw[hg];exact Nat.ne_of_gt (Q3 (g:=B) (o:=.cells #[.int .i64 J,.int .i64 D] 62 (0,0)) (by(with_reducible repeat first|apply Qf|apply Qb|apply Qg);exact U.out)):Y≠B));clear U;clear HB;have U:=O;have HB:=Z;have ε := ι;have θ := κ;have ζ := ξ;have γ:= ψ;have δ :=a1;clear O Z ι κ ξ ψ a1;clear hb hbox hg;have dd:=γ.out;have dh:= δ.out;obtain⟨bu,bw,bz,ca⟩:=qD2 U.out;obtain⟨am,ao,ap,av⟩:=qD2 ε.out))
   go_ret
   exact⟨by first|rfl|(simp[Qy,Qx] <;> rfl)|(simp[*,Qy,Qx] <;> rfl),by repeat(first|(with_reducible first|exact HB.out|apply Qh|apply Qc|apply Qe|refine Qd ?_ X.out|refine Qd ?_ ζ.out)|exact HB.out)⟩
mutual
def newelref19_May.l0:Nat→Int→Int→Int→List (S56)→List (S62)→Option (Bool)
 |0,_,_,_,_,_=>none
 |k+1,L,J,O,B,D=>if L<(B.length:Int) then (if 0≤L then ((newelref19_Hall.f k J O ((Qa B L).f0) ((Qa B L).f1) ((Qa B L).f2)).bind fun ci=>(if ci=true then (if L>0 then (if 0≤(wrap64 (L-1)) then (if (wrap64 (L-1))<(B.length:Int) then ((newelref19_ahead.f ((Qa B (wrap64 (L-1))).f0) ((Qa B (wrap64 (L-1))).f1) ((Qa B (wrap64 (L-1))).f2) ((Qa B L).f0) ((Qa B L).f1) ((Qa B L).f2)).bind fun bi=>(if bi=true then (newelref19_May.l0 k (wrap64 (L+1)) J O B D) else (some false))) else (none)) else (none)) else (newelref19_May.l0 k (wrap64 (L+1)) J O B D)) else (some false))) else (none)) else (newelref19_May.l1 k 0 J O B D)
def newelref19_May.l1:Nat→Int→Int→Int→List (S56)→List (S62)→Option (Bool)
 |0,_,_,_,_,_=>none
 |k+1,I,J,O,B,D=>if I<(D.length:Int) then (if 0≤I then ((newelref19_Inside.f J O ((Qk D I).f0) ((Qk D I).f1)).bind fun cj=>(if cj=true then (if I>0 then (if 0≤(wrap64 (I-1)) then (if (wrap64 (I-1))<(D.length:Int) then ((newelref19_before.f ((Qk D (wrap64 (I-1))).f0) ((Qk D (wrap64 (I-1))).f1) ((Qk D I).f0) ((Qk D I).f1)).bind fun bj=>(if bj=true then (newelref19_May.l1 k (wrap64 (I+1)) J O B D) else (some false))) else (none)) else (none)) else (newelref19_May.l1 k (wrap64 (I+1)) J O B D)) else (some false))) else (none)) else (some true)
end
def newelref19_May.f (k:Nat) (J:Int) (D:Int) (B:List (S56)) (I:List (S62)):Option (Bool):=(newelref19_House.f J D).bind fun ch=>(if ch=true then (newelref19_May.l0 k 0 J D B I) else (some false))
theorem newelref19_May.Zn:∀ k,(∀ I L U D J,LeO (newelref19_May.l0 k I L U D J) (newelref19_May.l0 (k+1) I L U D J))∧(∀ I L U D J,LeO (newelref19_May.l1 k I L U D J) (newelref19_May.l1 (k+1) I L U D J))
 |0=>⟨fun _ _ _ _ _ r h=>by simp[newelref19_May.l0] at h,fun _ _ _ _ _ r h=>by simp[newelref19_May.l1] at h⟩
 |k+1=>by
  obtain⟨B,O⟩:=newelref19_May.Zn k
  refine⟨?_, ?_⟩
  ·intro I L U D J
   unfold newelref19_May.l0
   repeat' first
   |(with_reducible exact B _ _ _ _ _)
   |(with_reducible exact O _ _ _ _ _)
   |(with_reducible exact newelref19_Hall.mono _ _ _ _ _ _)
   |(with_reducible exact LeO.refl _)
   |(with_reducible exact LeO.none _)
   |(with_reducible refine LeO.ite ?_ ?_)
   |(with_reducible refine LeO.bind ?_ (fun _=>?_))
   |exact B _ _ _ _ _
   |exact O _ _ _ _ _
   |exact newelref19_Hall.mono _ _ _ _ _ _
   |exact LeO.none _
   |refine LeO.ite ?_ ?_
   |refine LeO.bind ?_ (fun _=>?_)
  ·intro I L U D J
   unfold newelref19_May.l1
   repeat' first
   |(with_reducible exact B _ _ _ _ _)
   |(with_reducible exact O _ _ _ _ _)
   |(with_reducible exact newelref19_Hall.mono _ _ _ _ _ _)
   |(with_reducible exact LeO.refl _)
   |(with_reducible exact LeO.none _)
   |(with_reducible refine LeO.ite ?_ ?_)
   |(with_reducible refine LeO.bind ?_ (fun _=>?_))
   |exact B _ _ _ _ _
   |exact O _ _ _ _ _
   |exact newelref19_Hall.mono _ _ _ _ _ _
   |exact LeO.none _
   |refine LeO.ite ?_ ?_
   |refine LeO.bind ?_ (fun _=>?_)
theorem newelref19_May.mono:∀ D L a2 X k,LeO (newelref19_May.f k D L a2 X) (newelref19_May.f (k+1) D L a2 X):=by
 intro D L a2 X k
 obtain⟨B,O⟩:=newelref19_May.Zn k
 unfold newelref19_May.f
 repeat' first
   |(with_reducible exact B _ _ _ _ _)
   |(with_reducible exact O _ _ _ _ _)
   |(with_reducible exact newelref19_Hall.mono _ _ _ _ _ _)
   |(with_reducible exact LeO.refl _)
   |(with_reducible exact LeO.none _)
   |(with_reducible refine LeO.ite ?_ ?_)
   |(with_reducible refine LeO.bind ?_ (fun _=>?_))
   |exact B _ _ _ _ _
   |exact O _ _ _ _ _
   |exact newelref19_Hall.mono _ _ _ _ _ _
   |exact LeO.none _
   |refine LeO.ite ?_ ?_
   |refine LeO.bind ?_ (fun _=>?_)
def newelref19_May.T7:Bool×List (List Nat×List Nat):=(true,[([],[]),([],[]),([1],[1]),([],[]),([2,3],[2,3]),([4],[4]),([0,5],[0,5]),([6,6,0,1,2,3,4,5,6],[6])])
def newelref19_May.B7:List Nat:=[0,0,2,0,14,30,63,127]
theorem newelref19_May.Np:rtab .any (opsOf Try.f13 7)=newelref19_May.T7:=by kernel_rfl
theorem newelref19_May.W8:Zv newelref19_May.T7.2 newelref19_May.B7=true:=by kernel_rfl
def newelref19_May.T11:Bool×List (List Nat×List Nat):=(true,[([],[]),([0],[0]),([],[]),([2],[2]),([1,3],[1,3]),([4],[4]),([],[]),([6],[6]),([],[]),([7,8],[7,8]),([9],[9]),([5,10],[5,10]),([11,11,0,1,2,3,4,5,6,7,8,9,10,11],[11])])
def newelref19_May.B11:List Nat:=[0,1,0,4,15,31,0,64,0,448,960,2047,4095]
theorem newelref19_May.Eb:rtab .any (opsOf Try.f13 11)=newelref19_May.T11:=by kernel_rfl
theorem newelref19_May.M6:Zv newelref19_May.T11.2 newelref19_May.B11=true:=by kernel_rfl
def newelref19_May.T17:Bool×List (List Nat×List Nat):=(true,[([],[]),([],[]),([1],[1]),([],[]),([2,3],[2,3]),([4],[4]),([0,5],[0,5]),([6,6,0,1,2,3,4,5,6],[6])])
def newelref19_May.B17:List Nat:=[0,0,2,0,14,30,63,127]
theorem newelref19_May.Wz:rtab .any (opsOf Try.f13 17)=newelref19_May.T17:=by kernel_rfl
theorem newelref19_May.Uc:Zv newelref19_May.T17.2 newelref19_May.B17=true:=by kernel_rfl
def newelref19_May.T21:Bool×List (List Nat×List Nat):=(true,[([],[]),([0],[0]),([],[]),([2],[2]),([1,3],[1,3]),([4],[4]),([],[]),([6],[6]),([],[]),([7,8],[7,8]),([9],[9]),([5,10],[5,10]),([11,11,0,1,2,3,4,5,6,7,8,9,10,11],[11])])
def newelref19_May.B21:List Nat:=[0,1,0,4,15,31,0,64,0,448,960,2047,4095]
theorem newelref19_May.Ea:rtab .any (opsOf Try.f13 21)=newelref19_May.T21:=by kernel_rfl
theorem newelref19_May.M5:Zv newelref19_May.T21.2 newelref19_May.B21=true:=by kernel_rfl
set_option maxHeartbeats 8000000 in
set_option maxRecDepth 100000 in
theorem newelref19_May.calls (k:Nat) (J:Int) (D:Int) (ζ :Option Addr) (γ:Nat) (B:List (S56)) (η :Option Addr) (ε :Nat) (I:List (S62)) (r:Bool) (w:World) (b4:Kd.C k56 w ζ B.length B) (b5:B.length≤γ) (b6:Kd.C k62 w η I.length I) (b7:I.length ≤ ε) (h:newelref19_May.f k J D B I=some r):
  Calls Try.prog 13 #[.agg #[.int .i64 J,.int .i64 D],.agg #[.slice ζ B.length γ,.slice η I.length ε]] w fun e w'=>e = .returned (.bool r)∧Below w.heap.size w w':=by
 have dk:=Try.underlying23
 have d6:=Try.underlying27
 have ay:=Try.underlying56
 have b8:=Try.underlying62
 have ag:=Aside0.mk b4
 have ar:=Aside0.mk b5
 clear b4 b5
 have ai:=Aside0.mk b6
 have au:=Aside0.mk b7
 clear b6 b7
 have HB:=Aside0.mk (Below.refl w.heap.size w)
 have H:((newelref19_House.f J D).bind fun ch=>(if ch=true then (newelref19_May.l0 k 0 J D B I) else (some false)))=some r:=h
 clear h
 replace H:=Option.bind_eq_some_iff.mp H
 obtain⟨ch,ac,H⟩:=H
 replace H:(if ch=true then (newelref19_May.l0 k 0 J D B I) else (some false))=some r:=H
 have A3:=Aside0.mk ac
 clear ac
 by_cases c4:ch=true
 ·subst c4
  have H1:(newelref19_May.l0 k 0 J D B I)=some r:=by rw[if_pos rfl] at H;exact H
  clear H
  have H:=H1
  clear H1
  have H':=Aside0.mk H
  clear H
  go_enter Try.func13,Try.ntmps13
  go_wp2_with (first|((with_reducible refine Qp (N:=2) rfl ?_);refine qE 2 #[.int .i64 J,.int .i64 D] 23 ?_;intro a3 hg w5 hbox hb;have O:=Aside0.mk hbox;have dm:=sGe hg;have dq:=sGe hg;replace HB:=sHb hb;clear hb hbox hg)|((with_reducible refine Qp (N:=3) rfl ?_);refine qE 3 #[.slice ζ B.length γ,.slice η I.length ε] 27 ?_;intro ρ hg w6 hbox hb;have L:=Aside0.mk hbox;have du:=sGe hg;have dw:=sGe hg;have a1:=sNl O hg;have a2:=sNg O hg;replace O:=sBk O hb;replace HB:=sHb hb;clear hb hbox hg;have dh:=a1.out;have di:=a2.out;obtain⟨aw,b9,bb,bc⟩:=qD2 O.out)|((with_reducible refine Q1 (f:=37) rfl ?_);refine Zp (some 13) rfl rfl Try.func37 kr rfl #[.agg #[.int .i64 J,.int .i64 D]] rfl qM ?_;(with_reducible refine(newelref19_House.calls J D true _ A3.out).mono ?_);rintro e w9 ⟨rfl,hb⟩;refine⟨_,rfl, ?_⟩;replace O:=sBk O hb;replace L:=sBk L hb;replace HB:=sHb hb;(try clear hb);(try clear a0);(try clear hk);(try clear hi)))
  go_loopg [6] k (fun kq v6 w'=>∃ (U:Int),v6 = .int .i64 U∧Aside0 (newelref19_May.l0 kq U J D B I=some r)∧Aside0 (kq≤k)∧Aside0 (w'.heap[a3]?=some (.cells #[.int .i64 J,.int .i64 D] 23 (0,0)))∧Aside0 (w'.heap[ρ]?=some (.cells #[(.slice ζ B.length γ),(.slice η I.length ε)] 27 (0,0)))∧Aside0 (Below w.heap.size w w'))
  case atStart=>exact⟨(0),rfl,H',⟨Nat.le_refl _⟩,O,L,HB⟩
  case round=>
   clear H'
   try clear c1
   try clear p2
   try clear c3
   try clear c4
   try clear c7
   try clear aw
   try clear b9
   try clear bb
   try clear bc
   obtain⟨U,rfl,HA,ξ,O,L,HB⟩:=hrel
   cases gk with
   |zero=>exact absurd HA.out (by simp[newelref19_May.l0])
   |succ k1=>
    have H:=HA.out
    clear HA
    simp only[newelref19_May.l0] at H
    by_cases c10:U<(B.length:Int)
    ·rw[if_pos c10] at H
     have c10b0:decide (U<(B.length:Int))=true:=decide_eq_true c10
     clear c10
     by_cases cb:0≤U
     ·rw[if_pos cb] at H
      have c11b0:decide (0≤U)=true:=decide_eq_true cb
      clear cb
      replace H:=Option.bind_eq_some_iff.mp H
      obtain⟨ci,cd,H⟩:=H
      replace H:(if ci=true then (if U>0 then (if 0≤(wrap64 (U-1)) then (if (wrap64 (U-1))<(B.length:Int) then ((newelref19_ahead.f ((Qa B (wrap64 (U-1))).f0) ((Qa B (wrap64 (U-1))).f1) ((Qa B (wrap64 (U-1))).f2) ((Qa B U).f0) ((Qa B U).f1) ((Qa B U).f2)).bind fun bi=>(if bi=true then (newelref19_May.l0 k1 (wrap64 (U+1)) J D B I) else (some false))) else (none)) else (none)) else (newelref19_May.l0 k1 (wrap64 (U+1)) J D B I)) else (some false))=some r:=H
      have cw:=Aside0.mk cd
      clear cd
      by_cases ba:ci=true
      ·subst ba
       have H1:(if U>0 then (if 0≤(wrap64 (U-1)) then (if (wrap64 (U-1))<(B.length:Int) then ((newelref19_ahead.f ((Qa B (wrap64 (U-1))).f0) ((Qa B (wrap64 (U-1))).f1) ((Qa B (wrap64 (U-1))).f2) ((Qa B U).f0) ((Qa B U).f1) ((Qa B U).f2)).bind fun bi=>(if bi=true then (newelref19_May.l0 k1 (wrap64 (U+1)) J D B I) else (some false))) else (none)) else (none)) else (newelref19_May.l0 k1 (wrap64 (U+1)) J D B I))=some r:=by rw[if_pos rfl] at H;exact H
       clear H
       have H:=H1
       clear H1
       by_cases az:U>0
       ·rw[if_pos az] at H
        have c14b0:decide (0<U)=true:=decide_eq_true az
        clear az
        obtain⟨δ,aa⟩:∃ j_:Int,(wrap64 (U-1))=j_:=⟨_,rfl⟩
        replace H:(if 0≤(δ) then (if (δ)<(B.length:Int) then ((newelref19_ahead.f ((Qa B (δ)).f0) ((Qa B (δ)).f1) ((Qa B (δ)).f2) ((Qa B U).f0) ((Qa B U).f1) ((Qa B U).f2)).bind fun bi=>(if bi=true then (newelref19_May.l0 k1 (wrap64 (U+1)) J D B I) else (some false))) else (none)) else (none))=some r:=by first|(rw[aa] at H;exact H)|(simp only[aa] at H ⊢;exact H)
        (try rw[aa] at cw)
        have hji15w:(IntKind.i64.wrap (U-1)) = δ :=(Zg _).trans aa
        by_cases an:0≤(δ)
        ·rw[if_pos an] at H
         have c16b0:decide (0≤(δ))=true:=decide_eq_true an
         clear an
         by_cases a5:(δ)<(B.length:Int)
         ·rw[if_pos a5] at H
          have c17b0:decide ((δ)<(B.length:Int))=true:=decide_eq_true a5
          clear a5
          replace H:=Option.bind_eq_some_iff.mp H
          obtain⟨bi,bw,H⟩:=H
          replace H:(if bi=true then (newelref19_May.l0 k1 (wrap64 (U+1)) J D B I) else (some false))=some r:=H
          have e5:=Aside0.mk bw
          clear bw
          by_cases e0:bi=true
          ·subst e0
           have H1:(newelref19_May.l0 k1 (wrap64 (U+1)) J D B I)=some r:=by rw[if_pos rfl] at H;exact H
           clear H
           have H:=H1
           clear H1
           have H':=Aside0.mk H
           clear H
           have f9:=a2.out
           have fj:=a1.out
           obtain⟨co,cp,cq,cr⟩:=qD2 L.out
           try go_wp2
           replace O:=Aside0.mk (Qb O.out)
           replace L:=Aside0.mk (Qb L.out)
           replace HB:=Aside0.mk (Qe HB.out)
           have be:0≤(U:Int):=of_decide_eq_true (by assumption)
           have bf:U<(B.length:Int):=of_decide_eq_true (by assumption)
           obtain⟨Y,bq,θ,ι,κ⟩:=Zo ag.out U be bf
           have σ:= κ
           have τ := ι
           have φ := θ
           cases bq
           replace θ :=(HB.out.cell (World.block_lt_of_cell? w _ θ)).trans θ
           replace ι :=(HB.out.cell (World.block_lt_of_cell? w _ ι)).trans ι
           replace κ :=(HB.out.cell (World.block_lt_of_cell? w _ κ)).trans κ
           replace be:=eq_true be
           replace bf:=eq_true bf
           refine Ze (n:=8) (S:=fun w'=>w'.cell? ⟨a3,0,none⟩=some (.int .i64 J)∧w'.cell? ⟨a3,1,none⟩=some (.int .i64 D)∧w'.cell? ⟨ρ,0,none⟩=some (.slice (some Y) B.length γ)∧w'.cell? ⟨ρ,1,none⟩=some (.slice η I.length ε)∧w'.cell? (Y.add ((U).toNat * 3))=some (.int .i64 ((Qa B U).f0))∧w'.cell? ⟨(Y.add ((U).toNat * 3)).block,(Y.add ((U).toNat * 3)).off+1,none⟩=some (.int .i64 ((Qa B U).f1))∧w'.cell? ⟨(Y.add ((U).toNat * 3)).block,(Y.add ((U).toNat * 3)).off+2,none⟩=some (.int .i64 ((Qa B U).f2))) (ds:=[]) #[false,false,false,false,false,false,false,false] kr rfl rfl ⟨(Qi O.out 0).trans rfl,(Qi O.out 1).trans rfl,(Qi L.out 0).trans rfl,(Qi L.out 1).trans rfl,((HB.out.cell (World.block_lt_of_cell? w _ φ)).trans φ),((HB.out.cell (World.block_lt_of_cell? w _ τ)).trans τ),((HB.out.cell (World.block_lt_of_cell? w _ σ)).trans σ)⟩ (fun hHeld=>?_);refine Q4 newelref19_May.Np newelref19_May.W8 (fun HT_ HW_=>?_)
           generalize wr.drew=dr at O L HB θ ι κ hHeld ⊢
           refine qP 1 (some 24) (bN 8 2) HT_ ?_
           refine qP 3 (some 26) (bN 8 10) HT_ ?_
           refine qT 0 (some 23) (bN 8 11) HT_ HW_ hHeld ?_
           refine qT 2 (some 25) (bN 8 15) HT_ HW_ hHeld ?_
           refine qP 4 (some 27) (bN 8 31) HT_ ?_
           refine qT 5 (some 28) (bN 8 63) HT_ HW_ hHeld ?_
           refine Zi (i:=6) (N:=some 29) (bN 8 127) rfl rfl (Q0 HT_.out kr) (by decide) (fun K hK=>?_)
           refine Zc Try.func25 kr rfl #[.agg #[.int .i64 J,.int .i64 D],.agg #[.int .i64 ((Qa B U).f0),.int .i64 ((Qa B U).f1),.int .i64 ((Qa B U).f2)]] (by rfl) rfl rfl qM ?_
           with_reducible refine(newelref19_Hall.calls k1 J D ((Qa B U).f0) ((Qa B U).f1) ((Qa B U).f2) true _ cw.out).mono ?_
           rintro e dv ⟨rfl,hb⟩
           refine⟨_,rfl, ?_⟩
           replace O:=sBk O hb
           replace L:=sBk L hb
           replace HB:=sHb hb
           (try clear hb)
           (try clear a0)
           (try clear hk)
           (try clear hi)
           refine hK.out _ _ ⟨qc O,qc O,qc L,qc L,((HB.out.cell (World.block_lt_of_cell? w _ φ)).trans φ),((HB.out.cell (World.block_lt_of_cell? w _ τ)).trans τ),((HB.out.cell (World.block_lt_of_cell? w _ σ)).trans σ)⟩ (fun hHeld=>?_)
           clear hK K
           refine qN (some 29) ?_
           refine qP 7 (some 7) (bN 8 255) HT_ ?_
           refine Zq (Zd HT_.out kr) ?_
           try go_wp2
           replace O:=Aside0.mk (Qb O.out)
           replace L:=Aside0.mk (Qb L.out)
           replace HB:=Aside0.mk (Qe HB.out)
           have bl:0≤((δ):Int):=of_decide_eq_true (by assumption)
           have bm:(δ)<(B.length:Int):=of_decide_eq_true (by assumption)
           obtain⟨ck,d4,a4,a6,a7⟩:=Zo ag.out (δ) bl bm
           have al:=a7
           have am:=a6
           have ao:=a4
           obtain rfl:Y=ck:=(by injection d4)
           replace a4:=(HB.out.cell (World.block_lt_of_cell? w _ a4)).trans a4
           replace a6:=(HB.out.cell (World.block_lt_of_cell? w _ a6)).trans a6
           replace a7:=(HB.out.cell (World.block_lt_of_cell? w _ a7)).trans a7
           replace bl:=eq_true bl
           replace bm:=eq_true bm
           have bo:0≤(U:Int):=of_decide_eq_true (by assumption)
           have bp:U<(B.length:Int):=of_decide_eq_true (by assumption)
           obtain⟨cm,d8,a8,a9,ab⟩:=Zo ag.out U bo bp
           have ap:=ab
           have av:=a9
           have b0:=a8
           obtain rfl:Y=cm:=(by injection d8)
           replace a8:=(HB.out.cell (World.block_lt_of_cell? w _ a8)).trans a8
           replace a9:=(HB.out.cell (World.block_lt_of_cell? w _ a9)).trans a9
           replace ab:=(HB.out.cell (World.block_lt_of_cell? w _ ab)).trans ab
           replace bo:=eq_true bo
           replace bp:=eq_true bp
           refine Ze (n:=13) (S:=fun w'=>w'.cell? ⟨ρ,0,none⟩=some (.slice (some Y) B.length γ)∧w'.cell? ⟨ρ,1,none⟩=some (.slice η I.length ε)∧w'.cell? (Y.add (((δ)).toNat * 3))=some (.int .i64 ((Qa B (δ)).f0))∧w'.cell? ⟨(Y.add (((δ)).toNat * 3)).block,(Y.add (((δ)).toNat * 3)).off+1,none⟩=some (.int .i64 ((Qa B (δ)).f1))∧w'.cell? ⟨(Y.add (((δ)).toNat * 3)).block,(Y.add (((δ)).toNat * 3)).off+2,none⟩=some (.int .i64 ((Qa B (δ)).f2))∧w'.cell? (Y.add ((U).toNat * 3))=some (.int .i64 ((Qa B U).f0))∧w'.cell? ⟨(Y.add ((U).toNat * 3)).block,(Y.add ((U).toNat * 3)).off+1,none⟩=some (.int .i64 ((Qa B U).f1))∧w'.cell? ⟨(Y.add ((U).toNat * 3)).block,(Y.add ((U).toNat * 3)).off+2,none⟩=some (.int .i64 ((Qa B U).f2))) (ds:=[]) #[false,false,false,false,false,false,false,false,false,false,false,false,false] kr rfl rfl ⟨(Qi L.out 0).trans rfl,(Qi L.out 1).trans rfl,((HB.out.cell (World.block_lt_of_cell? w _ ao)).trans ao),((HB.out.cell (World.block_lt_of_cell? w _ am)).trans am),((HB.out.cell (World.block_lt_of_cell? w _ al)).trans al),((HB.out.cell (World.block_lt_of_cell? w _ b0)).trans b0),((HB.out.cell (World.block_lt_of_cell? w _ av)).trans av),((HB.out.cell (World.block_lt_of_cell? w _ ap)).trans ap)⟩ (fun hHeld=>?_);refine Q4 newelref19_May.Eb newelref19_May.M6 (fun HT_ HW_=>?_)
           generalize dv.drew=bu at O L HB a4 a6 a7 a8 a9 ab hHeld ⊢
           refine qP 0 (some 34) (bN 13 1) HT_ ?_
           refine qP 2 (some 36) (bN 13 5) HT_ ?_
           refine qP 3 (some 37) (bN 13 13) HT_ ?_
           refine qP 6 (some 40) (bN 13 77) HT_ ?_
           refine qP 8 (some 42) (bN 13 333) HT_ ?_
           refine qT 1 (some 35) (bN 13 335) HT_ HW_ hHeld ?_
           refine qP 4 (some 38) (bN 13 351) HT_ ?_
           refine qT 5 (some 39) (bN 13 383) HT_ HW_ hHeld ?_
           refine qT 7 (some 41) (bN 13 511) HT_ HW_ hHeld ?_
           refine qP 9 (some 43) (bN 13 1023) HT_ ?_
           refine qT 10 (some 44) (bN 13 2047) HT_ HW_ hHeld ?_
           refine Zi (i:=11) (N:=some 45) (bN 13 4095) rfl rfl (Q0 HT_.out kr) (by decide) (fun K hK=>?_)
           refine Zc Try.func38 kr rfl #[.agg #[.int .i64 ((Qa B (δ)).f0),.int .i64 ((Qa B (δ)).f1),.int .i64 ((Qa B (δ)).f2)],.agg #[.int .i64 ((Qa B U).f0),.int .i64 ((Qa B U).f1),.int .i64 ((Qa B U).f2)]] (by rfl) rfl rfl (by(try simp only[List.map_toArray,List.map_cons,List.map_nil]);first|done|(simp only[aa];rfl)|rfl|(simp only[List.length_drop,List.length_take];rfl)) ?_
           with_reducible refine(newelref19_ahead.calls ((Qa B (δ)).f0) ((Qa B (δ)).f1) ((Qa B (δ)).f2) ((Qa B U).f0) ((Qa B U).f1) ((Qa B U).f2) true _ e5.out).mono ?_
           rintro e da ⟨rfl,hb⟩
           refine⟨_,rfl, ?_⟩
           replace O:=sBk O hb
           replace L:=sBk L hb
           replace HB:=sHb hb
           (try clear hb)
           (try clear a0)
           (try clear hk)
           (try clear hi)
           refine hK.out _ _ ⟨qc L,qc L,((HB.out.cell (World.block_lt_of_cell? w _ ao)).trans ao),((HB.out.cell (World.block_lt_of_cell? w _ am)).trans am),((HB.out.cell (World.block_lt_of_cell? w _ al)).trans al),((HB.out.cell (World.block_lt_of_cell? w _ b0)).trans b0),((HB.out.cell (World.block_lt_of_cell? w _ av)).trans av),((HB.out.cell (World.block_lt_of_cell? w _ ap)).trans ap)⟩ (fun hHeld=>?_)
           clear hK K
           refine qN (some 45) ?_
           refine qP 12 (some 8) (bN 13 8191) HT_ ?_
           refine Zq (Zd HT_.out kr) ?_
           try go_wp2
           go_roundg k1
           case measure=>have:= ξ.out;omega
           case rel=>exact⟨(wrap64 (U+1)),rfl,H',⟨by have:= ξ.out;omega⟩,O,L,HB⟩
          ·replace e0:=Bool.eq_false_iff.mpr e0
           subst e0
           have H1:(some false)=some r:=by rw[if_neg (show ¬ (false=true) by decide)] at H;exact H
           clear H
           have H:=H1
           clear H1
           obtain rfl:=Option.some.inj H
           have ed:=a2.out
           have ee:=a1.out
           obtain⟨cu,cx,cy,cz⟩:=qD2 L.out
           try go_wp2
           replace O:=Aside0.mk (Qb O.out)
           replace L:=Aside0.mk (Qb L.out)
           replace HB:=Aside0.mk (Qe HB.out)
           have be:0≤(U:Int):=of_decide_eq_true (by assumption)
           have bf:U<(B.length:Int):=of_decide_eq_true (by assumption)
           obtain⟨Y,bq,θ,ι,κ⟩:=Zo ag.out U be bf
           have σ:= κ
           have τ := ι
           have φ := θ
           cases bq
           replace θ :=(HB.out.cell (World.block_lt_of_cell? w _ θ)).trans θ
           replace ι :=(HB.out.cell (World.block_lt_of_cell? w _ ι)).trans ι
           replace κ :=(HB.out.cell (World.block_lt_of_cell? w _ κ)).trans κ
           replace be:=eq_true be
           replace bf:=eq_true bf
           refine Ze (n:=8) (S:=fun w'=>w'.cell? ⟨a3,0,none⟩=some (.int .i64 J)∧w'.cell? ⟨a3,1,none⟩=some (.int .i64 D)∧w'.cell? ⟨ρ,0,none⟩=some (.slice (some Y) B.length γ)∧w'.cell? ⟨ρ,1,none⟩=some (.slice η I.length ε)∧w'.cell? (Y.add ((U).toNat * 3))=some (.int .i64 ((Qa B U).f0))∧w'.cell? ⟨(Y.add ((U).toNat * 3)).block,(Y.add ((U).toNat * 3)).off+1,none⟩=some (.int .i64 ((Qa B U).f1))∧w'.cell? ⟨(Y.add ((U).toNat * 3)).block,(Y.add ((U).toNat * 3)).off+2,none⟩=some (.int .i64 ((Qa B U).f2))) (ds:=[]) #[false,false,false,false,false,false,false,false] kr rfl rfl ⟨(Qi O.out 0).trans rfl,(Qi O.out 1).trans rfl,(Qi L.out 0).trans rfl,(Qi L.out 1).trans rfl,((HB.out.cell (World.block_lt_of_cell? w _ φ)).trans φ),((HB.out.cell (World.block_lt_of_cell? w _ τ)).trans τ),((HB.out.cell (World.block_lt_of_cell? w _ σ)).trans σ)⟩ (fun hHeld=>?_);refine Q4 newelref19_May.Np newelref19_May.W8 (fun HT_ HW_=>?_)
           generalize wr.drew=fh at O L HB θ ι κ hHeld ⊢
           refine qP 1 (some 24) (bN 8 2) HT_ ?_
           refine qP 3 (some 26) (bN 8 10) HT_ ?_
           refine qT 0 (some 23) (bN 8 11) HT_ HW_ hHeld ?_
           refine qT 2 (some 25) (bN 8 15) HT_ HW_ hHeld ?_
           refine qP 4 (some 27) (bN 8 31) HT_ ?_
           refine qT 5 (some 28) (bN 8 63) HT_ HW_ hHeld ?_
           refine Zi (i:=6) (N:=some 29) (bN 8 127) rfl rfl (Q0 HT_.out kr) (by decide) (fun K hK=>?_)
           refine Zc Try.func25 kr rfl #[.agg #[.int .i64 J,.int .i64 D],.agg #[.int .i64 ((Qa B U).f0),.int .i64 ((Qa B U).f1),.int .i64 ((Qa B U).f2)]] (by rfl) rfl rfl qM ?_
           with_reducible refine(newelref19_Hall.calls k1 J D ((Qa B U).f0) ((Qa B U).f1) ((Qa B U).f2) true _ cw.out).mono ?_
           rintro e db ⟨rfl,hb⟩
           refine⟨_,rfl, ?_⟩
           replace O:=sBk O hb
           replace L:=sBk L hb
           replace HB:=sHb hb
           (try clear hb)
           (try clear a0)
           (try clear hk)
           (try clear hi)
           refine hK.out _ _ ⟨qc O,qc O,qc L,qc L,((HB.out.cell (World.block_lt_of_cell? w _ φ)).trans φ),((HB.out.cell (World.block_lt_of_cell? w _ τ)).trans τ),((HB.out.cell (World.block_lt_of_cell? w _ σ)).trans σ)⟩ (fun hHeld=>?_)
           clear hK K
           refine qN (some 29) ?_
           refine qP 7 (some 7) (bN 8 255) HT_ ?_
           refine Zq (Zd HT_.out kr) ?_
           try go_wp2
           replace O:=Aside0.mk (Qb O.out)
           replace L:=Aside0.mk (Qb L.out)
           replace HB:=Aside0.mk (Qe HB.out)
           have bl:0≤((δ):Int):=of_decide_eq_true (by assumption)
           have bm:(δ)<(B.length:Int):=of_decide_eq_true (by assumption)
           obtain⟨ck,d4,a4,a6,a7⟩:=Zo ag.out (δ) bl bm
           have al:=a7
           have am:=a6
           have ao:=a4
           obtain rfl:Y=ck:=(by injection d4)
           replace a4:=(HB.out.cell (World.block_lt_of_cell? w _ a4)).trans a4
           replace a6:=(HB.out.cell (World.block_lt_of_cell? w _ a6)).trans a6
           replace a7:=(HB.out.cell (World.block_lt_of_cell? w _ a7)).trans a7
           replace bl:=eq_true bl
           replace bm:=eq_true bm
           have bo:0≤(U:Int):=of_decide_eq_true (by assumption)
           have bp:U<(B.length:Int):=of_decide_eq_true (by assumption)
           obtain⟨cm,d8,a8,a9,ab⟩:=Zo ag.out U bo bp
           have ap:=ab
           have av:=a9
           have b0:=a8
           obtain rfl:Y=cm:=(by injection d8)
           replace a8:=(HB.out.cell (World.block_lt_of_cell? w _ a8)).trans a8
           replace a9:=(HB.out.cell (World.block_lt_of_cell? w _ a9)).trans a9
           replace ab:=(HB.out.cell (World.block_lt_of_cell? w _ ab)).trans ab
           replace bo:=eq_true bo
           replace bp:=eq_true bp
           refine Ze (n:=13) (S:=fun w'=>w'.cell? ⟨ρ,0,none⟩=some (.slice (some Y) B.length γ)∧w'.cell? ⟨ρ,1,none⟩=some (.slice η I.length ε)∧w'.cell? (Y.add (((δ)).toNat * 3))=some (.int .i64 ((Qa B (δ)).f0))∧w'.cell? ⟨(Y.add (((δ)).toNat * 3)).block,(Y.add (((δ)).toNat * 3)).off+1,none⟩=some (.int .i64 ((Qa B (δ)).f1))∧w'.cell? ⟨(Y.add (((δ)).toNat * 3)).block,(Y.add (((δ)).toNat * 3)).off+2,none⟩=some (.int .i64 ((Qa B (δ)).f2))∧w'.cell? (Y.add ((U).toNat * 3))=some (.int .i64 ((Qa B U).f0))∧w'.cell? ⟨(Y.add ((U).toNat * 3)).block,(Y.add ((U).toNat * 3)).off+1,none⟩=some (.int .i64 ((Qa B U).f1))∧w'.cell? ⟨(Y.add ((U).toNat * 3)).block,(Y.add ((U).toNat * 3)).off+2,none⟩=some (.int .i64 ((Qa B U).f2))) (ds:=[]) #[false,false,false,false,false,false,false,false,false,false,false,false,false] kr rfl rfl ⟨(Qi L.out 0).trans rfl,(Qi L.out 1).trans rfl,((HB.out.cell (World.block_lt_of_cell? w _ ao)).trans ao),((HB.out.cell (World.block_lt_of_cell? w _ am)).trans am),((HB.out.cell (World.block_lt_of_cell? w _ al)).trans al),((HB.out.cell (World.block_lt_of_cell? w _ b0)).trans b0),((HB.out.cell (World.block_lt_of_cell? w _ av)).trans av),((HB.out.cell (World.block_lt_of_cell? w _ ap)).trans ap)⟩ (fun hHeld=>?_);refine Q4 newelref19_May.Eb newelref19_May.M6 (fun HT_ HW_=>?_)
           generalize db.drew=ew at O L HB a4 a6 a7 a8 a9 ab hHeld ⊢
           refine qP 0 (some 34) (bN 13 1) HT_ ?_
           refine qP 2 (some 36) (bN 13 5) HT_ ?_
           refine qP 3 (some 37) (bN 13 13) HT_ ?_
           refine qP 6 (some 40) (bN 13 77) HT_ ?_
           refine qP 8 (some 42) (bN 13 333) HT_ ?_
           refine qT 1 (some 35) (bN 13 335) HT_ HW_ hHeld ?_
           refine qP 4 (some 38) (bN 13 351) HT_ ?_
           refine qT 5 (some 39) (bN 13 383) HT_ HW_ hHeld ?_
           refine qT 7 (some 41) (bN 13 511) HT_ HW_ hHeld ?_
           refine qP 9 (some 43) (bN 13 1023) HT_ ?_
           refine qT 10 (some 44) (bN 13 2047) HT_ HW_ hHeld ?_
           refine Zi (i:=11) (N:=some 45) (bN 13 4095) rfl rfl (Q0 HT_.out kr) (by decide) (fun K hK=>?_)
           refine Zc Try.func38 kr rfl #[.agg #[.int .i64 ((Qa B (δ)).f0),.int .i64 ((Qa B (δ)).f1),.int .i64 ((Qa B (δ)).f2)],.agg #[.int .i64 ((Qa B U).f0),.int .i64 ((Qa B U).f1),.int .i64 ((Qa B U).f2)]] (by rfl) rfl rfl (by(try simp only[List.map_toArray,List.map_cons,List.map_nil]);first|done|(simp only[aa];rfl)|rfl|(simp only[List.length_drop,List.length_take];rfl)) ?_
           with_reducible refine(newelref19_ahead.calls ((Qa B (δ)).f0) ((Qa B (δ)).f1) ((Qa B (δ)).f2) ((Qa B U).f0) ((Qa B U).f1) ((Qa B U).f2) false _ e5.out).mono ?_
           rintro e gt ⟨rfl,hb⟩
           refine⟨_,rfl, ?_⟩
           replace O:=sBk O hb
           replace L:=sBk L hb
           replace HB:=sHb hb
           (try clear hb)
           (try clear a0)
           (try clear hk)
           (try clear hi)
           refine hK.out _ _ ⟨qc L,qc L,((HB.out.cell (World.block_lt_of_cell? w _ ao)).trans ao),((HB.out.cell (World.block_lt_of_cell? w _ am)).trans am),((HB.out.cell (World.block_lt_of_cell? w _ al)).trans al),((HB.out.cell (World.block_lt_of_cell? w _ b0)).trans b0),((HB.out.cell (World.block_lt_of_cell? w _ av)).trans av),((HB.out.cell (World.block_lt_of_cell? w _ ap)).trans ap)⟩ (fun hHeld=>?_)
           clear hK K
           refine qN (some 45) ?_
           refine qP 12 (some 8) (bN 13 8191) HT_ ?_
           refine Zq (Zd HT_.out kr) ?_
           try go_wp2
           go_ret
           exact⟨by first|rfl|(simp[Qy,Qx] <;> rfl)|(simp only[← aa];first|rfl|(simp[Qy,Qx] <;> rfl))|(simp[*,Qy,Qx] <;> rfl),HB.out⟩
         ·rw[if_neg a5] at H
          exact absurd H (by simp)
        ·rw[if_neg an] at H
         exact absurd H (by simp)
       ·rw[if_neg az] at H
        have c14b0:decide (0<U)=false:=decide_eq_false az
        clear az
        have H':=Aside0.mk H
        clear H
        have g8:=a2.out
        have g9:=a1.out
        obtain⟨de,df,dj,dl⟩:=qD2 L.out
        try go_wp2
        replace O:=Aside0.mk (Qb O.out)
        replace L:=Aside0.mk (Qb L.out)
        replace HB:=Aside0.mk (Qe HB.out)
        have be:0≤(U:Int):=of_decide_eq_true (by assumption)
        have bf:U<(B.length:Int):=of_decide_eq_true (by assumption)
        obtain⟨Y,bq,θ,ι,κ⟩:=Zo ag.out U be bf
        have σ:= κ
        have τ := ι
        have φ := θ
        cases bq
        replace θ :=(HB.out.cell (World.block_lt_of_cell? w _ θ)).trans θ
        replace ι :=(HB.out.cell (World.block_lt_of_cell? w _ ι)).trans ι
        replace κ :=(HB.out.cell (World.block_lt_of_cell? w _ κ)).trans κ
        replace be:=eq_true be
        replace bf:=eq_true bf
        refine Ze (n:=8) (S:=fun w'=>w'.cell? ⟨a3,0,none⟩=some (.int .i64 J)∧w'.cell? ⟨a3,1,none⟩=some (.int .i64 D)∧w'.cell? ⟨ρ,0,none⟩=some (.slice (some Y) B.length γ)∧w'.cell? ⟨ρ,1,none⟩=some (.slice η I.length ε)∧w'.cell? (Y.add ((U).toNat * 3))=some (.int .i64 ((Qa B U).f0))∧w'.cell? ⟨(Y.add ((U).toNat * 3)).block,(Y.add ((U).toNat * 3)).off+1,none⟩=some (.int .i64 ((Qa B U).f1))∧w'.cell? ⟨(Y.add ((U).toNat * 3)).block,(Y.add ((U).toNat * 3)).off+2,none⟩=some (.int .i64 ((Qa B U).f2))) (ds:=[]) #[false,false,false,false,false,false,false,false] kr rfl rfl ⟨(Qi O.out 0).trans rfl,(Qi O.out 1).trans rfl,(Qi L.out 0).trans rfl,(Qi L.out 1).trans rfl,((HB.out.cell (World.block_lt_of_cell? w _ φ)).trans φ),((HB.out.cell (World.block_lt_of_cell? w _ τ)).trans τ),((HB.out.cell (World.block_lt_of_cell? w _ σ)).trans σ)⟩ (fun hHeld=>?_);refine Q4 newelref19_May.Np newelref19_May.W8 (fun HT_ HW_=>?_)
        generalize wr.drew=ea at O L HB θ ι κ hHeld ⊢
        refine qP 1 (some 24) (bN 8 2) HT_ ?_
        refine qP 3 (some 26) (bN 8 10) HT_ ?_
        refine qT 0 (some 23) (bN 8 11) HT_ HW_ hHeld ?_
        refine qT 2 (some 25) (bN 8 15) HT_ HW_ hHeld ?_
        refine qP 4 (some 27) (bN 8 31) HT_ ?_
        refine qT 5 (some 28) (bN 8 63) HT_ HW_ hHeld ?_
        refine Zi (i:=6) (N:=some 29) (bN 8 127) rfl rfl (Q0 HT_.out kr) (by decide) (fun K hK=>?_)
        refine Zc Try.func25 kr rfl #[.agg #[.int .i64 J,.int .i64 D],.agg #[.int .i64 ((Qa B U).f0),.int .i64 ((Qa B U).f1),.int .i64 ((Qa B U).f2)]] (by rfl) rfl rfl qM ?_
        with_reducible refine(newelref19_Hall.calls k1 J D ((Qa B U).f0) ((Qa B U).f1) ((Qa B U).f2) true _ cw.out).mono ?_
        rintro e e7 ⟨rfl,hb⟩
        refine⟨_,rfl, ?_⟩
        replace O:=sBk O hb
        replace L:=sBk L hb
        replace HB:=sHb hb
        (try clear hb)
        (try clear a0)
        (try clear hk)
        (try clear hi)
        refine hK.out _ _ ⟨qc O,qc O,qc L,qc L,((HB.out.cell (World.block_lt_of_cell? w _ φ)).trans φ),((HB.out.cell (World.block_lt_of_cell? w _ τ)).trans τ),((HB.out.cell (World.block_lt_of_cell? w _ σ)).trans σ)⟩ (fun hHeld=>?_)
        clear hK K
        refine qN (some 29) ?_
        refine qP 7 (some 7) (bN 8 255) HT_ ?_
        refine Zq (Zd HT_.out kr) ?_
        try go_wp2
        go_roundg k1
        case measure=>have:= ξ.out;omega
        case rel=>exact⟨(wrap64 (U+1)),rfl,H',⟨by have:= ξ.out;omega⟩,O,L,HB⟩
      ·replace ba:=Bool.eq_false_iff.mpr ba
       subst ba
       have H1:(some false)=some r:=by rw[if_neg (show ¬ (false=true) by decide)] at H;exact H
       clear H
       have H:=H1
       clear H1
       obtain rfl:=Option.some.inj H
       have e6:=a2.out
       have e8:=a1.out
       obtain⟨ct,d0,d5,d7⟩:=qD2 L.out
       try go_wp2
       replace O:=Aside0.mk (Qb O.out)
       replace L:=Aside0.mk (Qb L.out)
       replace HB:=Aside0.mk (Qe HB.out)
       have be:0≤(U:Int):=of_decide_eq_true (by assumption)
       have bf:U<(B.length:Int):=of_decide_eq_true (by assumption)
       obtain⟨Y,bq,θ,ι,κ⟩:=Zo ag.out U be bf
       have σ:= κ
       have τ := ι
       have φ := θ
       cases bq
       replace θ :=(HB.out.cell (World.block_lt_of_cell? w _ θ)).trans θ
       replace ι :=(HB.out.cell (World.block_lt_of_cell? w _ ι)).trans ι
       replace κ :=(HB.out.cell (World.block_lt_of_cell? w _ κ)).trans κ
       replace be:=eq_true be
       replace bf:=eq_true bf
       refine Ze (n:=8) (S:=fun w'=>w'.cell? ⟨a3,0,none⟩=some (.int .i64 J)∧w'.cell? ⟨a3,1,none⟩=some (.int .i64 D)∧w'.cell? ⟨ρ,0,none⟩=some (.slice (some Y) B.length γ)∧w'.cell? ⟨ρ,1,none⟩=some (.slice η I.length ε)∧w'.cell? (Y.add ((U).toNat * 3))=some (.int .i64 ((Qa B U).f0))∧w'.cell? ⟨(Y.add ((U).toNat * 3)).block,(Y.add ((U).toNat * 3)).off+1,none⟩=some (.int .i64 ((Qa B U).f1))∧w'.cell? ⟨(Y.add ((U).toNat * 3)).block,(Y.add ((U).toNat * 3)).off+2,none⟩=some (.int .i64 ((Qa B U).f2))) (ds:=[]) #[false,false,false,false,false,false,false,false] kr rfl rfl ⟨(Qi O.out 0).trans rfl,(Qi O.out 1).trans rfl,(Qi L.out 0).trans rfl,(Qi L.out 1).trans rfl,((HB.out.cell (World.block_lt_of_cell? w _ φ)).trans φ),((HB.out.cell (World.block_lt_of_cell? w _ τ)).trans τ),((HB.out.cell (World.block_lt_of_cell? w _ σ)).trans σ)⟩ (fun hHeld=>?_);refine Q4 newelref19_May.Np newelref19_May.W8 (fun HT_ HW_=>?_)
       generalize wr.drew=d9 at O L HB θ ι κ hHeld ⊢
       refine qP 1 (some 24) (bN 8 2) HT_ ?_
       refine qP 3 (some 26) (bN 8 10) HT_ ?_
       refine qT 0 (some 23) (bN 8 11) HT_ HW_ hHeld ?_
       refine qT 2 (some 25) (bN 8 15) HT_ HW_ hHeld ?_
       refine qP 4 (some 27) (bN 8 31) HT_ ?_
       refine qT 5 (some 28) (bN 8 63) HT_ HW_ hHeld ?_
       refine Zi (i:=6) (N:=some 29) (bN 8 127) rfl rfl (Q0 HT_.out kr) (by decide) (fun K hK=>?_)
       refine Zc Try.func25 kr rfl #[.agg #[.int .i64 J,.int .i64 D],.agg #[.int .i64 ((Qa B U).f0),.int .i64 ((Qa B U).f1),.int .i64 ((Qa B U).f2)]] (by rfl) rfl rfl qM ?_
       with_reducible refine(newelref19_Hall.calls k1 J D ((Qa B U).f0) ((Qa B U).f1) ((Qa B U).f2) false _ cw.out).mono ?_
       rintro e br ⟨rfl,hb⟩
       refine⟨_,rfl, ?_⟩
       replace O:=sBk O hb
       replace L:=sBk L hb
       replace HB:=sHb hb
       (try clear hb)
       (try clear a0)
       (try clear hk)
       (try clear hi)
       refine hK.out _ _ ⟨qc O,qc O,qc L,qc L,((HB.out.cell (World.block_lt_of_cell? w _ φ)).trans φ),((HB.out.cell (World.block_lt_of_cell? w _ τ)).trans τ),((HB.out.cell (World.block_lt_of_cell? w _ σ)).trans σ)⟩ (fun hHeld=>?_)
       clear hK K
       refine qN (some 29) ?_
       refine qP 7 (some 7) (bN 8 255) HT_ ?_
       refine Zq (Zd HT_.out kr) ?_
       try go_wp2
       go_ret
       exact⟨rfl,HB.out⟩
     ·rw[if_neg cb] at H
      exact absurd H (by simp)
    ·rw[if_neg c10] at H
     have c10b0:decide (U<(B.length:Int))=false:=decide_eq_false c10
     clear c10
     have H':=Aside0.mk H
     clear H
     have ey:=a2.out
     have ez:=a1.out
     obtain⟨eg,eh,ei,ej⟩:=qD2 L.out
     go_wp2
     go_loopg [9] k1 (fun kq v9 w'=>∃ (X:Int),v9 = .int .i64 X∧Aside0 (newelref19_May.l1 kq X J D B I=some r)∧Aside0 (kq≤k1)∧Aside0 (w'.heap[a3]?=some (.cells #[.int .i64 J,.int .i64 D] 23 (0,0)))∧Aside0 (w'.heap[ρ]?=some (.cells #[(.slice ζ B.length γ),(.slice η I.length ε)] 27 (0,0)))∧Aside0 (Below w.heap.size w w'))
     case atStart=>exact⟨(0),rfl,H',⟨Nat.le_refl _⟩,O,L,HB⟩
     case round=>
      clear H'
      try clear c1
      try clear c2
      try clear p2
      try clear q2
      try clear ec
      try clear c3
      try clear c4
      try clear p6
      try clear c10
      try clear c10b0
      try clear cb
      try clear ba
      try clear az
      try clear c14b0
      try clear an
      try clear a5
      try clear e0
      try clear eu
      try clear f4
      try clear dz
      try clear aj
      try clear ax
      try clear g7
      try clear en
      try clear jl
      try clear lc
      try clear cu
      try clear cx
      try clear de
      try clear df
      try clear ct
      try clear d0
      try clear eg
      try clear eh
      try clear cy
      try clear cz
      try clear dj
      try clear dl
      try clear d5
      try clear d7
      try clear ei
      try clear ej
      try clear θ
      try clear ι
      try clear κ
      try clear a4
      try clear a6
      try clear a7
      try clear a8
      try clear a9
      try clear ab
      try clear be
      try clear bl
      try clear bo
      try clear bf
      try clear bm
      try clear bp
      obtain⟨X,rfl,HA,bn,O,L,HB⟩:=hrel
      cases gk with
      |zero=>exact absurd HA.out (by simp[newelref19_May.l1])
      |succ k2=>
       have H:=HA.out
       clear HA
       simp only[newelref19_May.l1] at H
       by_cases d1:X<(I.length:Int)
       ·rw[if_pos d1] at H
        have c42b0:decide (X<(I.length:Int))=true:=decide_eq_true d1
        clear d1
        by_cases cg:0≤X
        ·rw[if_pos cg] at H
         have c43b0:decide (0≤X)=true:=decide_eq_true cg
         clear cg
         replace H:=Option.bind_eq_some_iff.mp H
         obtain⟨cj,d2,H⟩:=H
         replace H:(if cj=true then (if X>0 then (if 0≤(wrap64 (X-1)) then (if (wrap64 (X-1))<(I.length:Int) then ((newelref19_before.f ((Qk I (wrap64 (X-1))).f0) ((Qk I (wrap64 (X-1))).f1) ((Qk I X).f0) ((Qk I X).f1)).bind fun bj=>(if bj=true then (newelref19_May.l1 k2 (wrap64 (X+1)) J D B I) else (some false))) else (none)) else (none)) else (newelref19_May.l1 k2 (wrap64 (X+1)) J D B I)) else (some false))=some r:=H
         have d3:=Aside0.mk d2
         clear d2
         by_cases fi:cj=true
         ·subst fi
          have H1:(if X>0 then (if 0≤(wrap64 (X-1)) then (if (wrap64 (X-1))<(I.length:Int) then ((newelref19_before.f ((Qk I (wrap64 (X-1))).f0) ((Qk I (wrap64 (X-1))).f1) ((Qk I X).f0) ((Qk I X).f1)).bind fun bj=>(if bj=true then (newelref19_May.l1 k2 (wrap64 (X+1)) J D B I) else (some false))) else (none)) else (none)) else (newelref19_May.l1 k2 (wrap64 (X+1)) J D B I))=some r:=by rw[if_pos rfl] at H;exact H
          clear H
          have H:=H1
          clear H1
          by_cases ek:X>0
          ·rw[if_pos ek] at H
           have c46b0:decide (0<X)=true:=decide_eq_true ek
           clear ek
           obtain⟨ω,bk⟩:∃ j_:Int,(wrap64 (X-1))=j_:=⟨_,rfl⟩
           replace H:(if 0≤(ω) then (if (ω)<(I.length:Int) then ((newelref19_before.f ((Qk I (ω)).f0) ((Qk I (ω)).f1) ((Qk I X).f0) ((Qk I X).f1)).bind fun bj=>(if bj=true then (newelref19_May.l1 k2 (wrap64 (X+1)) J D B I) else (some false))) else (none)) else (none))=some r:=by first|(rw[bk] at H;exact H)|(simp only[bk] at H ⊢;exact H)
           (try rw[bk] at d3)
           have hji47w:(IntKind.i64.wrap (X-1)) = ω :=(Zg _).trans bk
           by_cases fb:0≤(ω)
           ·rw[if_pos fb] at H
            have c48b0:decide (0≤(ω))=true:=decide_eq_true fb
            clear fb
            by_cases dn:(ω)<(I.length:Int)
            ·rw[if_pos dn] at H
             have c49b0:decide ((ω)<(I.length:Int))=true:=decide_eq_true dn
             clear dn
             replace H:=Option.bind_eq_some_iff.mp H
             obtain⟨bj,ge,H⟩:=H
             replace H:(if bj=true then (newelref19_May.l1 k2 (wrap64 (X+1)) J D B I) else (some false))=some r:=H
             have bz:=Aside0.mk ge
             clear ge
             by_cases dt:bj=true
             ·subst dt
              have H1:(newelref19_May.l1 k2 (wrap64 (X+1)) J D B I)=some r:=by rw[if_pos rfl] at H;exact H
              clear H
              have H:=H1
              clear H1
              have H':=Aside0.mk H
              clear H
              have g6:=a2.out
              have gj:=a1.out
              obtain⟨el,em,eo,ep⟩:=qD2 L.out
              try go_wp2
              replace O:=Aside0.mk (Qb O.out)
              replace L:=Aside0.mk (Qb L.out)
              replace HB:=Aside0.mk (Qe HB.out)
              have bg:0≤(X:Int):=of_decide_eq_true (by assumption)
              have bh:X<(I.length:Int):=of_decide_eq_true (by assumption)
              obtain⟨Z,bs,μ,ν⟩:=Zu ai.out X bg bh
              have χ := ν
              have ψ := μ
              cases bs
              replace μ :=(HB.out.cell (World.block_lt_of_cell? w _ μ)).trans μ
              replace ν :=(HB.out.cell (World.block_lt_of_cell? w _ ν)).trans ν
              replace bg:=eq_true bg
              replace bh:=eq_true bh
              refine Ze (n:=8) (S:=fun w'=>w'.cell? ⟨a3,0,none⟩=some (.int .i64 J)∧w'.cell? ⟨a3,1,none⟩=some (.int .i64 D)∧w'.cell? ⟨ρ,0,none⟩=some (.slice ζ B.length γ)∧w'.cell? ⟨ρ,1,none⟩=some (.slice (some Z) I.length ε)∧w'.cell? (Z.add ((X).toNat * 2))=some (.int .i64 ((Qk I X).f0))∧w'.cell? ⟨(Z.add ((X).toNat * 2)).block,(Z.add ((X).toNat * 2)).off+1,none⟩=some (.int .i64 ((Qk I X).f1))) (ds:=[]) #[false,false,false,false,false,false,false,false] kr rfl rfl ⟨(Qi O.out 0).trans rfl,(Qi O.out 1).trans rfl,(Qi L.out 0).trans rfl,(Qi L.out 1).trans rfl,((HB.out.cell (World.block_lt_of_cell? w _ ψ)).trans ψ),((HB.out.cell (World.block_lt_of_cell? w _ χ)).trans χ)⟩ (fun hHeld=>?_);refine Q4 newelref19_May.Wz newelref19_May.Uc (fun HT_ HW_=>?_)
              generalize wr.drew=g4 at O L HB μ ν hHeld ⊢
              refine qP 1 (some 56) (bN 8 2) HT_ ?_
              refine qP 3 (some 58) (bN 8 10) HT_ ?_
              refine qT 0 (some 55) (bN 8 11) HT_ HW_ hHeld ?_
              refine qT 2 (some 57) (bN 8 15) HT_ HW_ hHeld ?_
              refine qP 4 (some 59) (bN 8 31) HT_ ?_
              refine qT 5 (some 60) (bN 8 63) HT_ HW_ hHeld ?_
              refine Zi (i:=6) (N:=some 61) (bN 8 127) rfl rfl (Q0 HT_.out kr) (by decide) (fun K hK=>?_)
              refine Zc Try.func39 kr rfl #[.agg #[.int .i64 J,.int .i64 D],.agg #[.int .i64 ((Qk I X).f0),.int .i64 ((Qk I X).f1)]] (by rfl) rfl rfl qM ?_
              with_reducible refine(newelref19_Inside.calls J D ((Qk I X).f0) ((Qk I X).f1) true _ d3.out).mono ?_
              rintro e iq ⟨rfl,hb⟩
              refine⟨_,rfl, ?_⟩
              replace O:=sBk O hb
              replace L:=sBk L hb
              replace HB:=sHb hb
              (try clear hb)
              (try clear a0)
              (try clear hk)
              (try clear hi)
              refine hK.out _ _ ⟨qc O,qc O,qc L,qc L,((HB.out.cell (World.block_lt_of_cell? w _ ψ)).trans ψ),((HB.out.cell (World.block_lt_of_cell? w _ χ)).trans χ)⟩ (fun hHeld=>?_)
              clear hK K
              refine qN (some 61) ?_
              refine qP 7 (some 10) (bN 8 255) HT_ ?_
              refine Zq (Zd HT_.out kr) ?_
              try go_wp2
              replace O:=Aside0.mk (Qb O.out)
              replace L:=Aside0.mk (Qb L.out)
              replace HB:=Aside0.mk (Qe HB.out)
              have bv:0≤((ω):Int):=of_decide_eq_true (by assumption)
              have ca:(ω)<(I.length:Int):=of_decide_eq_true (by assumption)
              obtain⟨cn,dc,ae,af⟩:=Zu ai.out (ω) bv ca
              have b1:=af
              have b2:=ae
              obtain rfl:Z=cn:=(by injection dc)
              replace ae:=(HB.out.cell (World.block_lt_of_cell? w _ ae)).trans ae
              replace af:=(HB.out.cell (World.block_lt_of_cell? w _ af)).trans af
              replace bv:=eq_true bv
              replace ca:=eq_true ca
              have ce:0≤(X:Int):=of_decide_eq_true (by assumption)
              have cf:X<(I.length:Int):=of_decide_eq_true (by assumption)
              obtain⟨cv,dd,ah,ak⟩:=Zu ai.out X ce cf
              have b3:=ak
              have bd:=ah
              obtain rfl:Z=cv:=(by injection dd)
              replace ah:=(HB.out.cell (World.block_lt_of_cell? w _ ah)).trans ah
              replace ak:=(HB.out.cell (World.block_lt_of_cell? w _ ak)).trans ak
              replace ce:=eq_true ce
              replace cf:=eq_true cf
              refine Ze (n:=13) (S:=fun w'=>w'.cell? ⟨ρ,0,none⟩=some (.slice ζ B.length γ)∧w'.cell? ⟨ρ,1,none⟩=some (.slice (some Z) I.length ε)∧w'.cell? (Z.add (((ω)).toNat * 2))=some (.int .i64 ((Qk I (ω)).f0))∧w'.cell? ⟨(Z.add (((ω)).toNat * 2)).block,(Z.add (((ω)).toNat * 2)).off+1,none⟩=some (.int .i64 ((Qk I (ω)).f1))∧w'.cell? (Z.add ((X).toNat * 2))=some (.int .i64 ((Qk I X).f0))∧w'.cell? ⟨(Z.add ((X).toNat * 2)).block,(Z.add ((X).toNat * 2)).off+1,none⟩=some (.int .i64 ((Qk I X).f1))) (ds:=[]) #[false,false,false,false,false,false,false,false,false,false,false,false,false] kr rfl rfl ⟨(Qi L.out 0).trans rfl,(Qi L.out 1).trans rfl,((HB.out.cell (World.block_lt_of_cell? w _ b2)).trans b2),((HB.out.cell (World.block_lt_of_cell? w _ b1)).trans b1),((HB.out.cell (World.block_lt_of_cell? w _ bd)).trans bd),((HB.out.cell (World.block_lt_of_cell? w _ b3)).trans b3)⟩ (fun hHeld=>?_);refine Q4 newelref19_May.Ea newelref19_May.M5 (fun HT_ HW_=>?_)
              generalize iq.drew=gh at O L HB ae af ah ak hHeld ⊢
              refine qP 0 (some 66) (bN 13 1) HT_ ?_
              refine qP 2 (some 68) (bN 13 5) HT_ ?_
              refine qP 3 (some 69) (bN 13 13) HT_ ?_
              refine qP 6 (some 72) (bN 13 77) HT_ ?_
              refine qP 8 (some 74) (bN 13 333) HT_ ?_
              refine qT 1 (some 67) (bN 13 335) HT_ HW_ hHeld ?_
              refine qP 4 (some 70) (bN 13 351) HT_ ?_
              refine qT 5 (some 71) (bN 13 383) HT_ HW_ hHeld ?_
              refine qT 7 (some 73) (bN 13 511) HT_ HW_ hHeld ?_
              refine qP 9 (some 75) (bN 13 1023) HT_ ?_
              refine qT 10 (some 76) (bN 13 2047) HT_ HW_ hHeld ?_
              refine Zi (i:=11) (N:=some 77) (bN 13 4095) rfl rfl (Q0 HT_.out kr) (by decide) (fun K hK=>?_)
              refine Zc Try.func40 kr rfl #[.agg #[.int .i64 ((Qk I (ω)).f0),.int .i64 ((Qk I (ω)).f1)],.agg #[.int .i64 ((Qk I X).f0),.int .i64 ((Qk I X).f1)]] (by rfl) rfl rfl (by(try simp only[List.map_toArray,List.map_cons,List.map_nil]);first|done|(simp only[bk];rfl)|rfl|(simp only[List.length_drop,List.length_take];rfl)) ?_
              with_reducible refine(newelref19_before.calls ((Qk I (ω)).f0) ((Qk I (ω)).f1) ((Qk I X).f0) ((Qk I X).f1) true _ bz.out).mono ?_
              rintro e dp ⟨rfl,hb⟩
              refine⟨_,rfl, ?_⟩
              replace O:=sBk O hb
              replace L:=sBk L hb
              replace HB:=sHb hb
              (try clear hb)
              (try clear a0)
              (try clear hk)
              (try clear hi)
              refine hK.out _ _ ⟨qc L,qc L,((HB.out.cell (World.block_lt_of_cell? w _ b2)).trans b2),((HB.out.cell (World.block_lt_of_cell? w _ b1)).trans b1),((HB.out.cell (World.block_lt_of_cell? w _ bd)).trans bd),((HB.out.cell (World.block_lt_of_cell? w _ b3)).trans b3)⟩ (fun hHeld=>?_)
              clear hK K
              refine qN (some 77) ?_
              refine qP 12 (some 11) (bN 13 8191) HT_ ?_
              refine Zq (Zd HT_.out kr) ?_
              try go_wp2
              go_roundg k2
              case measure=>have:= ξ.out;have:=bn.out;omega
              case rel=>exact⟨(wrap64 (X+1)),rfl,H',⟨by have:= ξ.out;have:=bn.out;omega⟩,O,L,HB⟩
             ·replace dt:=Bool.eq_false_iff.mpr dt
              subst dt
              have H1:(some false)=some r:=by rw[if_neg (show ¬ (false=true) by decide)] at H;exact H
              clear H
              have H:=H1
              clear H1
              obtain rfl:=Option.some.inj H
              have ir:=a2.out
              have it:=a1.out
              obtain⟨e3,e4,e9,eb⟩:=qD2 L.out
              try go_wp2
              replace O:=Aside0.mk (Qb O.out)
              replace L:=Aside0.mk (Qb L.out)
              replace HB:=Aside0.mk (Qe HB.out)
              have bg:0≤(X:Int):=of_decide_eq_true (by assumption)
              have bh:X<(I.length:Int):=of_decide_eq_true (by assumption)
              obtain⟨Z,bs,μ,ν⟩:=Zu ai.out X bg bh
              have χ := ν
              have ψ := μ
              cases bs
              replace μ :=(HB.out.cell (World.block_lt_of_cell? w _ μ)).trans μ
              replace ν :=(HB.out.cell (World.block_lt_of_cell? w _ ν)).trans ν
              replace bg:=eq_true bg
              replace bh:=eq_true bh
              refine Ze (n:=8) (S:=fun w'=>w'.cell? ⟨a3,0,none⟩=some (.int .i64 J)∧w'.cell? ⟨a3,1,none⟩=some (.int .i64 D)∧w'.cell? ⟨ρ,0,none⟩=some (.slice ζ B.length γ)∧w'.cell? ⟨ρ,1,none⟩=some (.slice (some Z) I.length ε)∧w'.cell? (Z.add ((X).toNat * 2))=some (.int .i64 ((Qk I X).f0))∧w'.cell? ⟨(Z.add ((X).toNat * 2)).block,(Z.add ((X).toNat * 2)).off+1,none⟩=some (.int .i64 ((Qk I X).f1))) (ds:=[]) #[false,false,false,false,false,false,false,false] kr rfl rfl ⟨(Qi O.out 0).trans rfl,(Qi O.out 1).trans rfl,(Qi L.out 0).trans rfl,(Qi L.out 1).trans rfl,((HB.out.cell (World.block_lt_of_cell? w _ ψ)).trans ψ),((HB.out.cell (World.block_lt_of_cell? w _ χ)).trans χ)⟩ (fun hHeld=>?_);refine Q4 newelref19_May.Wz newelref19_May.Uc (fun HT_ HW_=>?_)
              generalize wr.drew=jc at O L HB μ ν hHeld ⊢
              refine qP 1 (some 56) (bN 8 2) HT_ ?_
              refine qP 3 (some 58) (bN 8 10) HT_ ?_
              refine qT 0 (some 55) (bN 8 11) HT_ HW_ hHeld ?_
              refine qT 2 (some 57) (bN 8 15) HT_ HW_ hHeld ?_
              refine qP 4 (some 59) (bN 8 31) HT_ ?_
              refine qT 5 (some 60) (bN 8 63) HT_ HW_ hHeld ?_
              refine Zi (i:=6) (N:=some 61) (bN 8 127) rfl rfl (Q0 HT_.out kr) (by decide) (fun K hK=>?_)
              refine Zc Try.func39 kr rfl #[.agg #[.int .i64 J,.int .i64 D],.agg #[.int .i64 ((Qk I X).f0),.int .i64 ((Qk I X).f1)]] (by rfl) rfl rfl qM ?_
              with_reducible refine(newelref19_Inside.calls J D ((Qk I X).f0) ((Qk I X).f1) true _ d3.out).mono ?_
              rintro e ih ⟨rfl,hb⟩
              refine⟨_,rfl, ?_⟩
              replace O:=sBk O hb
              replace L:=sBk L hb
              replace HB:=sHb hb
              (try clear hb)
              (try clear a0)
              (try clear hk)
              (try clear hi)
              refine hK.out _ _ ⟨qc O,qc O,qc L,qc L,((HB.out.cell (World.block_lt_of_cell? w _ ψ)).trans ψ),((HB.out.cell (World.block_lt_of_cell? w _ χ)).trans χ)⟩ (fun hHeld=>?_)
              clear hK K
              refine qN (some 61) ?_
              refine qP 7 (some 10) (bN 8 255) HT_ ?_
              refine Zq (Zd HT_.out kr) ?_
              try go_wp2
              replace O:=Aside0.mk (Qb O.out)
              replace L:=Aside0.mk (Qb L.out)
              replace HB:=Aside0.mk (Qe HB.out)
              have bv:0≤((ω):Int):=of_decide_eq_true (by assumption)
              have ca:(ω)<(I.length:Int):=of_decide_eq_true (by assumption)
              obtain⟨cn,dc,ae,af⟩:=Zu ai.out (ω) bv ca
              have b1:=af
              have b2:=ae
              obtain rfl:Z=cn:=(by injection dc)
              replace ae:=(HB.out.cell (World.block_lt_of_cell? w _ ae)).trans ae
              replace af:=(HB.out.cell (World.block_lt_of_cell? w _ af)).trans af
              replace bv:=eq_true bv
              replace ca:=eq_true ca
              have ce:0≤(X:Int):=of_decide_eq_true (by assumption)
              have cf:X<(I.length:Int):=of_decide_eq_true (by assumption)
              obtain⟨cv,dd,ah,ak⟩:=Zu ai.out X ce cf
              have b3:=ak
              have bd:=ah
              obtain rfl:Z=cv:=(by injection dd)
              replace ah:=(HB.out.cell (World.block_lt_of_cell? w _ ah)).trans ah
              replace ak:=(HB.out.cell (World.block_lt_of_cell? w _ ak)).trans ak
              replace ce:=eq_true ce
              replace cf:=eq_true cf
              refine Ze (n:=13) (S:=fun w'=>w'.cell? ⟨ρ,0,none⟩=some (.slice ζ B.length γ)∧w'.cell? ⟨ρ,1,none⟩=some (.slice (some Z) I.length ε)∧w'.cell? (Z.add (((ω)).toNat * 2))=some (.int .i64 ((Qk I (ω)).f0))∧w'.cell? ⟨(Z.add (((ω)).toNat * 2)).block,(Z.add (((ω)).toNat * 2)).off+1,none⟩=some (.int .i64 ((Qk I (ω)).f1))∧w'.cell? (Z.add ((X).toNat * 2))=some (.int .i64 ((Qk I X).f0))∧w'.cell? ⟨(Z.add ((X).toNat * 2)).block,(Z.add ((X).toNat * 2)).off+1,none⟩=some (.int .i64 ((Qk I X).f1))) (ds:=[]) #[false,false,false,false,false,false,false,false,false,false,false,false,false] kr rfl rfl ⟨(Qi L.out 0).trans rfl,(Qi L.out 1).trans rfl,((HB.out.cell (World.block_lt_of_cell? w _ b2)).trans b2),((HB.out.cell (World.block_lt_of_cell? w _ b1)).trans b1),((HB.out.cell (World.block_lt_of_cell? w _ bd)).trans bd),((HB.out.cell (World.block_lt_of_cell? w _ b3)).trans b3)⟩ (fun hHeld=>?_);refine Q4 newelref19_May.Ea newelref19_May.M5 (fun HT_ HW_=>?_)
              generalize ih.drew=jd at O L HB ae af ah ak hHeld ⊢
              refine qP 0 (some 66) (bN 13 1) HT_ ?_
              refine qP 2 (some 68) (bN 13 5) HT_ ?_
              refine qP 3 (some 69) (bN 13 13) HT_ ?_
              refine qP 6 (some 72) (bN 13 77) HT_ ?_
              refine qP 8 (some 74) (bN 13 333) HT_ ?_
              refine qT 1 (some 67) (bN 13 335) HT_ HW_ hHeld ?_
              refine qP 4 (some 70) (bN 13 351) HT_ ?_
              refine qT 5 (some 71) (bN 13 383) HT_ HW_ hHeld ?_
              refine qT 7 (some 73) (bN 13 511) HT_ HW_ hHeld ?_
              refine qP 9 (some 75) (bN 13 1023) HT_ ?_
              refine qT 10 (some 76) (bN 13 2047) HT_ HW_ hHeld ?_
              refine Zi (i:=11) (N:=some 77) (bN 13 4095) rfl rfl (Q0 HT_.out kr) (by decide) (fun K hK=>?_)
              refine Zc Try.func40 kr rfl #[.agg #[.int .i64 ((Qk I (ω)).f0),.int .i64 ((Qk I (ω)).f1)],.agg #[.int .i64 ((Qk I X).f0),.int .i64 ((Qk I X).f1)]] (by rfl) rfl rfl (by(try simp only[List.map_toArray,List.map_cons,List.map_nil]);first|done|(simp only[bk];rfl)|rfl|(simp only[List.length_drop,List.length_take];rfl)) ?_
              with_reducible refine(newelref19_before.calls ((Qk I (ω)).f0) ((Qk I (ω)).f1) ((Qk I X).f0) ((Qk I X).f1) false _ bz.out).mono ?_
              rintro e f5 ⟨rfl,hb⟩
              refine⟨_,rfl, ?_⟩
              replace O:=sBk O hb
              replace L:=sBk L hb
              replace HB:=sHb hb
              (try clear hb)
              (try clear a0)
              (try clear hk)
              (try clear hi)
              refine hK.out _ _ ⟨qc L,qc L,((HB.out.cell (World.block_lt_of_cell? w _ b2)).trans b2),((HB.out.cell (World.block_lt_of_cell? w _ b1)).trans b1),((HB.out.cell (World.block_lt_of_cell? w _ bd)).trans bd),((HB.out.cell (World.block_lt_of_cell? w _ b3)).trans b3)⟩ (fun hHeld=>?_)
              clear hK K
              refine qN (some 77) ?_
              refine qP 12 (some 11) (bN 13 8191) HT_ ?_
              refine Zq (Zd HT_.out kr) ?_
              try go_wp2
              go_ret
              exact⟨by first|rfl|(simp[Qy,Qx] <;> rfl)|(simp only[← bk];first|rfl|(simp[Qy,Qx] <;> rfl))|(simp[*,Qy,Qx] <;> rfl),HB.out⟩
            ·rw[if_neg dn] at H
             exact absurd H (by simp)
           ·rw[if_neg fb] at H
            exact absurd H (by simp)
          ·rw[if_neg ek] at H
           have c46b0:decide (0<X)=false:=decide_eq_false ek
           clear ek
           have H':=Aside0.mk H
           clear H
           have gg:=a2.out
           have gi:=a1.out
           obtain⟨fq,fr,ft,fu⟩:=qD2 L.out
           try go_wp2
           replace O:=Aside0.mk (Qb O.out)
           replace L:=Aside0.mk (Qb L.out)
           replace HB:=Aside0.mk (Qe HB.out)
           have bg:0≤(X:Int):=of_decide_eq_true (by assumption)
           have bh:X<(I.length:Int):=of_decide_eq_true (by assumption)
           obtain⟨Z,bs,μ,ν⟩:=Zu ai.out X bg bh
           have χ := ν
           have ψ := μ
           cases bs
           replace μ :=(HB.out.cell (World.block_lt_of_cell? w _ μ)).trans μ
           replace ν :=(HB.out.cell (World.block_lt_of_cell? w _ ν)).trans ν
           replace bg:=eq_true bg
           replace bh:=eq_true bh
           refine Ze (n:=8) (S:=fun w'=>w'.cell? ⟨a3,0,none⟩=some (.int .i64 J)∧w'.cell? ⟨a3,1,none⟩=some (.int .i64 D)∧w'.cell? ⟨ρ,0,none⟩=some (.slice ζ B.length γ)∧w'.cell? ⟨ρ,1,none⟩=some (.slice (some Z) I.length ε)∧w'.cell? (Z.add ((X).toNat * 2))=some (.int .i64 ((Qk I X).f0))∧w'.cell? ⟨(Z.add ((X).toNat * 2)).block,(Z.add ((X).toNat * 2)).off+1,none⟩=some (.int .i64 ((Qk I X).f1))) (ds:=[]) #[false,false,false,false,false,false,false,false] kr rfl rfl ⟨(Qi O.out 0).trans rfl,(Qi O.out 1).trans rfl,(Qi L.out 0).trans rfl,(Qi L.out 1).trans rfl,((HB.out.cell (World.block_lt_of_cell? w _ ψ)).trans ψ),((HB.out.cell (World.block_lt_of_cell? w _ χ)).trans χ)⟩ (fun hHeld=>?_);refine Q4 newelref19_May.Wz newelref19_May.Uc (fun HT_ HW_=>?_)
           generalize wr.drew=ij at O L HB μ ν hHeld ⊢
           refine qP 1 (some 56) (bN 8 2) HT_ ?_
           refine qP 3 (some 58) (bN 8 10) HT_ ?_
           refine qT 0 (some 55) (bN 8 11) HT_ HW_ hHeld ?_
           refine qT 2 (some 57) (bN 8 15) HT_ HW_ hHeld ?_
           refine qP 4 (some 59) (bN 8 31) HT_ ?_
           refine qT 5 (some 60) (bN 8 63) HT_ HW_ hHeld ?_
           refine Zi (i:=6) (N:=some 61) (bN 8 127) rfl rfl (Q0 HT_.out kr) (by decide) (fun K hK=>?_)
           refine Zc Try.func39 kr rfl #[.agg #[.int .i64 J,.int .i64 D],.agg #[.int .i64 ((Qk I X).f0),.int .i64 ((Qk I X).f1)]] (by rfl) rfl rfl qM ?_
           with_reducible refine(newelref19_Inside.calls J D ((Qk I X).f0) ((Qk I X).f1) true _ d3.out).mono ?_
           rintro e je ⟨rfl,hb⟩
           refine⟨_,rfl, ?_⟩
           replace O:=sBk O hb
           replace L:=sBk L hb
           replace HB:=sHb hb
           (try clear hb)
           (try clear a0)
           (try clear hk)
           (try clear hi)
           refine hK.out _ _ ⟨qc O,qc O,qc L,qc L,((HB.out.cell (World.block_lt_of_cell? w _ ψ)).trans ψ),((HB.out.cell (World.block_lt_of_cell? w _ χ)).trans χ)⟩ (fun hHeld=>?_)
           clear hK K
           refine qN (some 61) ?_
           refine qP 7 (some 10) (bN 8 255) HT_ ?_
           refine Zq (Zd HT_.out kr) ?_
           try go_wp2
           go_roundg k2
           case measure=>have:= ξ.out;have:=bn.out;omega
           case rel=>exact⟨(wrap64 (X+1)),rfl,H',⟨by have:= ξ.out;have:=bn.out;omega⟩,O,L,HB⟩
         ·replace fi:=Bool.eq_false_iff.mpr fi
          subst fi
          have H1:(some false)=some r:=by rw[if_neg (show ¬ (false=true) by decide)] at H;exact H
          clear H
          have H:=H1
          clear H1
          obtain rfl:=Option.some.inj H
          have dx:=a2.out
          have dy:=a1.out
          obtain⟨gl,gm,gn,gp⟩:=qD2 L.out
          try go_wp2
          replace O:=Aside0.mk (Qb O.out)
          replace L:=Aside0.mk (Qb L.out)
          replace HB:=Aside0.mk (Qe HB.out)
          have bg:0≤(X:Int):=of_decide_eq_true (by assumption)
          have bh:X<(I.length:Int):=of_decide_eq_true (by assumption)
          obtain⟨Z,bs,μ,ν⟩:=Zu ai.out X bg bh
          have χ := ν
          have ψ := μ
          cases bs
          replace μ :=(HB.out.cell (World.block_lt_of_cell? w _ μ)).trans μ
          replace ν :=(HB.out.cell (World.block_lt_of_cell? w _ ν)).trans ν
          replace bg:=eq_true bg
          replace bh:=eq_true bh
          refine Ze (n:=8) (S:=fun w'=>w'.cell? ⟨a3,0,none⟩=some (.int .i64 J)∧w'.cell? ⟨a3,1,none⟩=some (.int .i64 D)∧w'.cell? ⟨ρ,0,none⟩=some (.slice ζ B.length γ)∧w'.cell? ⟨ρ,1,none⟩=some (.slice (some Z) I.length ε)∧w'.cell? (Z.add ((X).toNat * 2))=some (.int .i64 ((Qk I X).f0))∧w'.cell? ⟨(Z.add ((X).toNat * 2)).block,(Z.add ((X).toNat * 2)).off+1,none⟩=some (.int .i64 ((Qk I X).f1))) (ds:=[]) #[false,false,false,false,false,false,false,false] kr rfl rfl ⟨(Qi O.out 0).trans rfl,(Qi O.out 1).trans rfl,(Qi L.out 0).trans rfl,(Qi L.out 1).trans rfl,((HB.out.cell (World.block_lt_of_cell? w _ ψ)).trans ψ),((HB.out.cell (World.block_lt_of_cell? w _ χ)).trans χ)⟩ (fun hHeld=>?_);refine Q4 newelref19_May.Wz newelref19_May.Uc (fun HT_ HW_=>?_)
          generalize wr.drew=mf at O L HB μ ν hHeld ⊢
          refine qP 1 (some 56) (bN 8 2) HT_ ?_
          refine qP 3 (some 58) (bN 8 10) HT_ ?_
          refine qT 0 (some 55) (bN 8 11) HT_ HW_ hHeld ?_
          refine qT 2 (some 57) (bN 8 15) HT_ HW_ hHeld ?_
          refine qP 4 (some 59) (bN 8 31) HT_ ?_
          refine qT 5 (some 60) (bN 8 63) HT_ HW_ hHeld ?_
          refine Zi (i:=6) (N:=some 61) (bN 8 127) rfl rfl (Q0 HT_.out kr) (by decide) (fun K hK=>?_)
          refine Zc Try.func39 kr rfl #[.agg #[.int .i64 J,.int .i64 D],.agg #[.int .i64 ((Qk I X).f0),.int .i64 ((Qk I X).f1)]] (by rfl) rfl rfl qM ?_
          with_reducible refine(newelref19_Inside.calls J D ((Qk I X).f0) ((Qk I X).f1) false _ d3.out).mono ?_
          rintro e m4 ⟨rfl,hb⟩
          refine⟨_,rfl, ?_⟩
          replace O:=sBk O hb
          replace L:=sBk L hb
          replace HB:=sHb hb
          (try clear hb)
          (try clear a0)
          (try clear hk)
          (try clear hi)
          refine hK.out _ _ ⟨qc O,qc O,qc L,qc L,((HB.out.cell (World.block_lt_of_cell? w _ ψ)).trans ψ),((HB.out.cell (World.block_lt_of_cell? w _ χ)).trans χ)⟩ (fun hHeld=>?_)
          clear hK K
          refine qN (some 61) ?_
          refine qP 7 (some 10) (bN 8 255) HT_ ?_
          refine Zq (Zd HT_.out kr) ?_
          try go_wp2
          go_ret
          exact⟨rfl,HB.out⟩
        ·rw[if_neg cg] at H
         exact absurd H (by simp)
       ·rw[if_neg d1] at H
        have c42b0:decide (X<(I.length:Int))=false:=decide_eq_false d1
        clear d1
        obtain rfl:=Option.some.inj H
        have ef:=a2.out
        have et:=a1.out
        obtain⟨er,ev,fa,fc⟩:=qD2 L.out
        go_wp2
        go_ret
        exact⟨rfl,HB.out⟩
 ·replace c4:=Bool.eq_false_iff.mpr c4
  subst c4
  have H1:(some false)=some r:=by rw[if_neg (show ¬ (false=true) by decide)] at H;exact H
  clear H
  have H:=H1
  clear H1
  obtain rfl:=Option.some.inj H
  go_enter Try.func13,Try.ntmps13
  go_wp2_with (first|((with_reducible refine Qp (N:=2) rfl ?_);refine qE 2 #[.int .i64 J,.int .i64 D] 23 ?_;intro a3 hg f7 hbox hb;have O:=Aside0.mk hbox;have dm:=sGe hg;have dq:=sGe hg;replace HB:=sHb hb;clear hb hbox hg)|((with_reducible refine Qp (N:=3) rfl ?_);refine qE 3 #[.slice ζ B.length γ,.slice η I.length ε] 27 ?_;intro ρ hg f8 hbox hb;have L:=Aside0.mk hbox;have du:=sGe hg;have dw:=sGe hg;have a1:=sNl O hg;have a2:=sNg O hg;replace O:=sBk O hb;replace HB:=sHb hb;clear hb hbox hg;have iu:=a1.out;have iv:=a2.out;obtain⟨fg,fk,fl,fm⟩:=qD2 O.out)|((with_reducible refine Q1 (f:=37) rfl ?_);refine Zp (some 13) rfl rfl Try.func37 kr rfl #[.agg #[.int .i64 J,.int .i64 D]] rfl qM ?_;(with_reducible refine(newelref19_House.calls J D false _ A3.out).mono ?_);rintro e fe ⟨rfl,hb⟩;refine⟨_,rfl, ?_⟩;replace O:=sBk O hb;replace L:=sBk L hb;replace HB:=sHb hb;(try clear hb);(try clear a0);(try clear hk);(try clear hi)))
  go_ret
  exact⟨rfl,HB.out⟩
end Go.Proofs.Ytjehhhlhalkieaa.C
namespace Go.Proofs.Ytjehhhlhalkieaa.C
open Go.RowKit Go.Proofs.YtjehhhlhalkieaaW.PrintWords Go.Proofs.YtjehhhlhalkieaaW.PrintLast Go.Proofs.YtjehhhlhalkieaaW.PrintMore
attribute [local go_sem] Z4 Z2 Xe Xd Zx Zw Z3 Z1
set_option linter.unusedVariables false
set_option linter.unusedSimpArgs false
attribute [local go_sem high] M2
def newelref19_withIn.l0:Nat→List (S62)→List (S62)→Bool→Int→Int→Int→Option ((List (S62)))
 |0,_,_,_,_,_,_=>none
 |k+1,D,I,L,B,J,O=>if B<(D.length:Int) then (if 0≤B then ((newelref19_before.f J O ((Qk D B).f0) ((Qk D B).f1)).bind fun τ =>(if L=true then (if I.length<8796093022208 then (newelref19_withIn.l0 k D (I ++ [(⟨(Qk D B).f0,(Qk D B).f1⟩:S62)]) true (wrap64 (B+1)) J O) else (none)) else (if τ = true then (if I.length<8796093022208 then ((some (I ++ [(⟨J,O⟩:S62)]:List (S62))).bind fun ζ =>(if (((Qk D B).f0)==J&&(((Qk D B).f1)==O))=true then (if ζ.length<8796093022208 then (newelref19_withIn.l0 k D (ζ ++ [(⟨(Qk D B).f0,(Qk D B).f1⟩:S62)]) true (wrap64 (B+1)) J O) else (none)) else (if ζ.length<8796093022208 then (newelref19_withIn.l0 k D (ζ ++ [(⟨(Qk D B).f0,(Qk D B).f1⟩:S62)]) τ (wrap64 (B+1)) J O) else (none)))) else (none)) else (if (((Qk D B).f0)==J&&(((Qk D B).f1)==O))=true then (if I.length<8796093022208 then (newelref19_withIn.l0 k D (I ++ [(⟨(Qk D B).f0,(Qk D B).f1⟩:S62)]) true (wrap64 (B+1)) J O) else (none)) else (if I.length<8796093022208 then (newelref19_withIn.l0 k D (I ++ [(⟨(Qk D B).f0,(Qk D B).f1⟩:S62)]) τ (wrap64 (B+1)) J O) else (none)))))) else (none)) else (if L=true then (some I) else (if I.length<8796093022208 then (some (I ++ [(⟨J,O⟩:S62)])) else (none)))
def newelref19_withIn.f (k:Nat) (l0:List (S62)) (I:Int) (L:Int):Option ((List (S62))):=newelref19_withIn.l0 k l0 ([]:List (S62)) false 0 I L
theorem newelref19_withIn.Zn:∀ k,(∀ I L U D J X,LeO (newelref19_withIn.l0 k I L U D J X) (newelref19_withIn.l0 (k+1) I L U D J X))
 |0=>fun _ _ _ _ _ _ r h=>by simp[newelref19_withIn.l0] at h
 |k+1=>by
  have B:=newelref19_withIn.Zn k
  ·intro I L U D J X
   unfold newelref19_withIn.l0
   repeat' first
   |(with_reducible exact B _ _ _ _ _ _)
   |(with_reducible exact LeO.refl _)
   |(with_reducible exact LeO.none _)
   |(with_reducible refine LeO.ite ?_ ?_)
   |(with_reducible refine LeO.bind ?_ (fun _=>?_))
   |exact B _ _ _ _ _ _
   |exact LeO.none _
   |refine LeO.ite ?_ ?_
   |refine LeO.bind ?_ (fun _=>?_)
theorem newelref19_withIn.mono:∀ D L a2 k,LeO (newelref19_withIn.f k D L a2) (newelref19_withIn.f (k+1) D L a2):=by
 intro D L a2 k
 have B:=newelref19_withIn.Zn k
 unfold newelref19_withIn.f
 repeat' first
   |(with_reducible exact B _ _ _ _ _ _)
   |(with_reducible exact LeO.refl _)
   |(with_reducible exact LeO.none _)
   |(with_reducible refine LeO.ite ?_ ?_)
   |(with_reducible refine LeO.bind ?_ (fun _=>?_))
   |exact B _ _ _ _ _ _
   |exact LeO.none _
   |refine LeO.ite ?_ ?_
   |refine LeO.bind ?_ (fun _=>?_)
def newelref19_withIn.T9:Bool×List (List Nat×List Nat):=(true,[([],[]),([0],[0]),([1],[1]),([1],[1]),([2,3,1],[1,2,3]),([4,1],[1,4]),([1],[1]),([5,6,1],[1,5,6]),([1,7],[1,7]),([8,1],[8]),([9],[9]),([9,10],[9,10]),([11,9,0,1,2,3,4,5,6,7,8,9,10,11],[0,11])])
def newelref19_withIn.B9:List Nat:=[0,1,3,3,15,31,3,127,255,511,1023,2047,4095]
theorem newelref19_withIn.U7:rtab .any (opsOf Try.f44 9)=newelref19_withIn.T9:=by kernel_rfl
theorem newelref19_withIn.Vb:Zv newelref19_withIn.T9.2 newelref19_withIn.B9=true:=by kernel_rfl
set_option maxHeartbeats 8000000 in
set_option maxRecDepth 100000 in
theorem newelref19_withIn.calls (k:Nat) (A0:Option Addr) (c0:Nat) (l0:List (S62)) (I:Int) (L:Int) (r:List (S62)) (w:World) (aa:Kd.C k62 w A0 l0.length l0) (a9:l0.length≤c0) (h:newelref19_withIn.f k l0 I L=some r):
  Calls Try.prog 44 #[.slice A0 l0.length c0,.agg #[.int .i64 I,.int .i64 L]] w fun e w'=>∃ ω :Value,e = .returned (ω)∧Kd.R k62 62 w' w.heap.size (fun _=>True) ω r∧Below w.heap.size w w':=by
 have b8:=Try.underlying62
 have ν :=Aside0.mk aa
 have cn:=Aside0.mk a9
 clear aa a9
 have HB:=Aside0.mk (Below.refl w.heap.size w)
 have H:(newelref19_withIn.l0 k l0 ([]:List (S62)) false 0 I L)=some r:=h
 clear h
 have H':=Aside0.mk H
 clear H
 go_enter Try.func44,Try.ntmps44
 go_wp2_with (first|((with_reducible refine Qp (N:=3) rfl ?_);refine qE 3 #[.int .i64 I,.int .i64 L] 62 ?_;intro O hg w3 hbox hb;have J:=Aside0.mk hbox;have di:=sGe hg;have dj:=sGe hg;replace HB:=sHb hb;clear hb hbox hg))
 go_loopg [5,6,7] k (fun kq v5 v6 v7 w'=>∃ (D:List (S62)) (U:Bool) (B:Int),v6 = .bool U∧v7 = .int .i64 B∧Aside0 (newelref19_withIn.l0 kq l0 D U B I L=some r)∧Aside0 (kq≤k)∧Aside0 (Kd.R k62 62 w' w.heap.size (fun k_=>k_≠O) v5 D)∧Aside0 (w'.heap[O]?=some (.cells #[.int .i64 I,.int .i64 L] 62 (0,0)))∧Aside0 (Below w.heap.size w w'))
 case atStart=>exact⟨(([]:List (S62))),(false),(0),rfl,rfl,H',⟨Nat.le_refl _⟩,⟨by first|exact Kd.Yj _ _ _ _ _|exact Kd.Jf _ _ _ _ _|exact Kd.Jc _ _ _ _ _|exact Kd.Je _ _ _ _ _|exact Kd.Jd _ _ _ _ _⟩,J,HB⟩
 case round=>
  clear H'
  try clear p2
  obtain⟨D,U,B,rfl,rfl,HA,ξ,HO_5,J,HB⟩:=hrel
  cases gk with
  |zero=>exact absurd HA.out (by simp[newelref19_withIn.l0])
  |succ k1=>
   have H:=HA.out
   clear HA
   simp only[newelref19_withIn.l0] at H
   by_cases c4:B<(l0.length:Int)
   ·rw[if_pos c4] at H
    have c4b0:decide (B<(l0.length:Int))=true:=decide_eq_true c4
    clear c4
    by_cases c5:0≤B
    ·rw[if_pos c5] at H
     have c5b0:decide (0≤B)=true:=decide_eq_true c5
     clear c5
     replace H:=Option.bind_eq_some_iff.mp H
     obtain⟨τ,ch,H⟩:=H
     replace H:(if U=true then (if D.length<8796093022208 then (newelref19_withIn.l0 k1 l0 (D ++ [(⟨(Qk l0 B).f0,(Qk l0 B).f1⟩:S62)]) true (wrap64 (B+1)) I L) else (none)) else (if τ = true then (if D.length<8796093022208 then ((some (D ++ [(⟨I,L⟩:S62)]:List (S62))).bind fun ζ =>(if (((Qk l0 B).f0)==I&&(((Qk l0 B).f1)==L))=true then (if ζ.length<8796093022208 then (newelref19_withIn.l0 k1 l0 (ζ ++ [(⟨(Qk l0 B).f0,(Qk l0 B).f1⟩:S62)]) true (wrap64 (B+1)) I L) else (none)) else (if ζ.length<8796093022208 then (newelref19_withIn.l0 k1 l0 (ζ ++ [(⟨(Qk l0 B).f0,(Qk l0 B).f1⟩:S62)]) τ (wrap64 (B+1)) I L) else (none)))) else (none)) else (if (((Qk l0 B).f0)==I&&(((Qk l0 B).f1)==L))=true then (if D.length<8796093022208 then (newelref19_withIn.l0 k1 l0 (D ++ [(⟨(Qk l0 B).f0,(Qk l0 B).f1⟩:S62)]) true (wrap64 (B+1)) I L) else (none)) else (if D.length<8796093022208 then (newelref19_withIn.l0 k1 l0 (D ++ [(⟨(Qk l0 B).f0,(Qk l0 B).f1⟩:S62)]) τ (wrap64 (B+1)) I L) else (none)))))=some r:=H
     have A6:=Aside0.mk ch
     clear ch
     by_cases c7:U=true
     ·subst c7
      have H1:(if D.length<8796093022208 then (newelref19_withIn.l0 k1 l0 (D ++ [(⟨(Qk l0 B).f0,(Qk l0 B).f1⟩:S62)]) true (wrap64 (B+1)) I L) else (none))=some r:=by rw[if_pos rfl] at H;exact H
      clear H
      have H:=H1
      clear H1
      by_cases c8:D.length<8796093022208
      ·rw[if_pos c8] at H
       have d7:=Aside0.mk c8
       clear c8
       obtain⟨bk,a8⟩:∃ y_:List (S62),y_=(D ++ [(⟨(Qk l0 B).f0,(Qk l0 B).f1⟩:S62)]):=⟨_,rfl⟩
       replace H:(newelref19_withIn.l0 k1 l0 bk true (wrap64 (B+1)) I L)=some r:=by first|(rw[a8];with_reducible exact H)|(have δ :=(Option.bind_some _ _).symm.trans H;rw[a8];with_reducible exact δ)|(have δ :=(Option.bind_some _ _).symm.trans H;with_reducible exact δ)|with_reducible exact H|(rw[a8];exact H)|exact H
       have bv:=Aside0.mk a8
       clear a8
       have H':=Aside0.mk H
       clear H
       try go_wp2
       replace HO_5:=Aside0.mk (Kd.Qn HO_5.out)
       replace J:=Aside0.mk (Qb J.out)
       replace HB:=Aside0.mk (Qe HB.out)
       have μ :0≤(B:Int):=of_decide_eq_true (by assumption)
       have ρ:B<(l0.length:Int):=of_decide_eq_true (by assumption)
       obtain⟨Z,a2,X,Y⟩:=Zu ν.out B μ ρ
       have γ:=Y
       have ε :=X
       cases a2
       replace X:=(HB.out.cell (World.block_lt_of_cell? w _ X)).trans X
       replace Y:=(HB.out.cell (World.block_lt_of_cell? w _ Y)).trans Y
       replace μ :=eq_true μ
       replace ρ:=eq_true ρ
       refine Ze (n:=7) (S:=fun w'=>w'.cell? ⟨O,0,none⟩=some (.int .i64 I)∧w'.cell? ⟨O,1,none⟩=some (.int .i64 L)∧w'.cell? (Z.add ((B).toNat * 2))=some (.int .i64 ((Qk l0 B).f0))∧w'.cell? ⟨(Z.add ((B).toNat * 2)).block,(Z.add ((B).toNat * 2)).off+1,none⟩=some (.int .i64 ((Qk l0 B).f1))) (ds:=[]) #[false,false,false,false,false,false,false] kr rfl rfl ⟨(Qi J.out 0).trans rfl,(Qi J.out 1).trans rfl,((HB.out.cell (World.block_lt_of_cell? w _ ε)).trans ε),((HB.out.cell (World.block_lt_of_cell? w _ γ)).trans γ)⟩ (fun hHeld=>?_)
       generalize wr.drew=w9 at HO_5 J HB X Y hHeld ⊢
       refine Zy (i:=1) (N:=some 16) (v:=?_) (a':=?_) (bN 7 2) rfl rfl kr (fun _ _ _ h=>h) (Or.inl ⟨by rfl, ?_⟩) ?_ ?_
       rotate_left
       ·intro w'
        go_simp
        with_reducible rfl
       rotate_left
       ·simp only[Act.put,qS,Zg,Zj]
        rfl
       refine Zy (i:=2) (N:=some 17) (v:=?_) (a':=?_) (bN 7 6) rfl rfl kr (fun _ _ _ h=>h) (Or.inl ⟨by rfl, ?_⟩) ?_ ?_
       rotate_left
       ·intro w'
        go_simp
        with_reducible rfl
       rotate_left
       ·simp only[Act.put,qS,Zg,Zj]
        rfl
       refine Zy (i:=3) (N:=some 18) (v:=?_) (a':=?_) (bN 7 14) rfl rfl kr (fun _ _ _ h=>h) (Or.inl ⟨by rfl, ?_⟩) ?_ ?_
       rotate_left
       ·intro w'
        go_simp
        with_reducible rfl
       rotate_left
       ·simp only[Act.put,qS,Zg,Zj]
        rfl
       refine Xs (i:=0) (N:=some 15) (v:=?_) (a':=?_) (bN 7 15) rfl rfl kr (fun _ _ _ h=>h) (Or.inl ⟨by rfl, ?_⟩) hHeld ?_ ?_
       rotate_left
       ·rintro w' ⟨s0,s1,s2,s3⟩
        go_simp
        with_reducible rfl
       rotate_left
       ·simp only[Act.put,qS,Zg,Zj]
        rfl
       refine Xs (i:=4) (N:=some 19) (v:=?_) (a':=?_) (bN 7 31) rfl rfl kr (fun _ _ _ h=>h) (Or.inl ⟨by rfl, ?_⟩) hHeld ?_ ?_
       rotate_left
       ·rintro w' ⟨s0,s1,s2,s3⟩
        go_simp
        with_reducible rfl
       rotate_left
       ·simp only[Act.put,qS,Zg,Zj]
        rfl
       refine Zi (i:=5) (N:=some 20) (bN 7 63) rfl rfl kr (by decide) (fun K hK=>?_)
       refine Zc Try.func40 kr rfl #[.agg #[.int .i64 I,.int .i64 L],.agg #[.int .i64 ((Qk l0 B).f0),.int .i64 ((Qk l0 B).f1)]] (by rfl) rfl rfl qM ?_
       with_reducible refine(newelref19_before.calls I L ((Qk l0 B).f0) ((Qk l0 B).f1) τ _ A6.out).mono ?_
       rintro e cu ⟨rfl,hb⟩
       refine⟨_,rfl, ?_⟩
       replace HO_5:=sRb HO_5 hb
       replace J:=sBk J hb
       replace HB:=sHb hb
       (try clear hb)
       (try clear a0)
       (try clear hk)
       (try clear hi)
       refine hK.out _ _ ⟨qc J,qc J,((HB.out.cell (World.block_lt_of_cell? w _ ε)).trans ε),((HB.out.cell (World.block_lt_of_cell? w _ γ)).trans γ)⟩ (fun hHeld=>?_)
       clear hK K
       refine qN (some 20) ?_
       refine Zy (i:=6) (N:=some 8) (v:=?_) (a':=?_) (bN 7 127) rfl rfl kr (fun _ _ _ h=>h) (Or.inl ⟨by rfl, ?_⟩) ?_ ?_
       rotate_left
       ·intro w'
        go_simp
        with_reducible rfl
       rotate_left
       ·simp only[Act.put,qS,Zg,Zj]
        rfl
       refine Zq kr ?_
       try go_wp2
       replace HO_5:=Aside0.mk (Kd.Qn HO_5.out)
       replace J:=Aside0.mk (Qb J.out)
       replace HB:=Aside0.mk (Qe HB.out)
       refine Ze (n:=13) (S:=fun w'=>True) (ds:=[]) #[false,false,false,false,false,false,false,false,false,false,false,false,false] kr rfl rfl trivial (fun hHeld=>?_);refine Q4 newelref19_withIn.U7 newelref19_withIn.Vb (fun HT_ HW_=>?_)
       generalize cu.drew=dm at HO_5 J HB hHeld ⊢
       refine qP 0 (some 30) (bN 13 1) HT_ ?_
       refine qP 1 (some 31) (bN 13 3) HT_ ?_
       refine qU 2 (some 32) (bN 13 7) HT_ ?_
       refine qU 3 (some 33) (bN 13 15) HT_ ?_
       refine qU 4 (some 34) (bN 13 31) HT_ ?_
       refine qU 5 (some 35) (bN 13 63) HT_ ?_
       refine qU 6 (some 36) (bN 13 127) HT_ ?_
       refine qU 7 (some 37) (bN 13 255) HT_ ?_
       refine qP 8 (some 38) (bN 13 511) HT_ ?_
       refine qP 9 (some 39) (bN 13 1023) HT_ ?_
       refine qU 10 (some 40) (bN 13 2047) HT_ ?_
       refine qP 11 (some 41) (bN 13 4095) HT_ ?_
       refine qP 12 (some 6) (bN 13 8191) HT_ ?_
       refine Zq (Zd HT_.out kr) ?_
       have b3:0≤(B:Int):=of_decide_eq_true (by assumption)
       have b4:B<(l0.length:Int):=of_decide_eq_true (by assumption)
       obtain⟨bw,d8,ai,aj⟩:=Zu ν.out B b3 b4
       obtain rfl:Z=bw:=(by injection d8)
       replace ai:=(HB.out.cell (World.block_lt_of_cell? w _ ai)).trans ai
       replace aj:=(HB.out.cell (World.block_lt_of_cell? w _ aj)).trans aj
       replace b3:=eq_true b3
       replace b4:=eq_true b4
       try go_wp2_with (first|((with_reducible refine Zl (b:=.append) (xs:=#[.tmp 42,.tmp 47]) rfl ?_);at_builtin;refine Kd.Z5 k62 (w0:=w) w.heap.size rfl (.tmp 42) (.tmp 47) 25 62 (.agg #[(.int .i64 0),(.int .i64 0)]) 16 rfl Try.underlying25 Yd rfl (by decide) (by omega) u5 D (⟨(Qk l0 B).f0,(Qk l0 B).f1⟩:S62) [.int .i64 ((Qk l0 B).f0),.int .i64 ((Qk l0 B).f1)] (fun k_=>k_≠O) (fun _=>False) rfl rfl ?aP (fun _ hk=>hk.elim) ?aF ?aO ?aB ?aS ?aL ?_;(case aP=>exact Yb _ _ _ (⟨(Qk l0 B).f0,(Qk l0 B).f1⟩:S62));(case aB=>exact HB.out);(case aF=>exact(fun k_ hk=>Kd.Xc (g:=O) (o:=.cells #[.int .i64 I,.int .i64 L] 62 (0,0)) J.out k_ hk));(case aO=>exact HO_5.out);(case aS=>exact(Qj HB.out));(case aL=>have:=d7.out;omega);intro dk d2 ho hb hg hat;rw[← bv.out] at ho;have ca:=Aside0.mk ho;replace J:=Aside0.mk (Q8 (g:=O) (o:=.cells #[.int .i64 I,.int .i64 L] 62 (0,0)) J.out hg (Kd.Xk HO_5.out (fun _ hk=>hk)));replace HB:=Aside0.mk hb;clear HO_5;clear ho hb hg hat))
       go_roundg k1
       case measure=>have:= ξ.out;omega
       case rel=>exact⟨(bk),(true),(wrap64 (B+1)),rfl,rfl,H',⟨by have:= ξ.out;omega⟩,⟨by(with_reducible repeat first|apply Kd.Qm|apply Kd.Ql|apply Kd.Qn);exact ca.out⟩,J,HB⟩
      ·rw[if_neg c8] at H
       exact absurd H (by simp)
     ·replace c7:=Bool.eq_false_iff.mpr c7
      subst c7
      have H1:(if τ = true then (if D.length<8796093022208 then ((some (D ++ [(⟨I,L⟩:S62)]:List (S62))).bind fun ζ =>(if (((Qk l0 B).f0)==I&&(((Qk l0 B).f1)==L))=true then (if ζ.length<8796093022208 then (newelref19_withIn.l0 k1 l0 (ζ ++ [(⟨(Qk l0 B).f0,(Qk l0 B).f1⟩:S62)]) true (wrap64 (B+1)) I L) else (none)) else (if ζ.length<8796093022208 then (newelref19_withIn.l0 k1 l0 (ζ ++ [(⟨(Qk l0 B).f0,(Qk l0 B).f1⟩:S62)]) τ (wrap64 (B+1)) I L) else (none)))) else (none)) else (if (((Qk l0 B).f0)==I&&(((Qk l0 B).f1)==L))=true then (if D.length<8796093022208 then (newelref19_withIn.l0 k1 l0 (D ++ [(⟨(Qk l0 B).f0,(Qk l0 B).f1⟩:S62)]) true (wrap64 (B+1)) I L) else (none)) else (if D.length<8796093022208 then (newelref19_withIn.l0 k1 l0 (D ++ [(⟨(Qk l0 B).f0,(Qk l0 B).f1⟩:S62)]) τ (wrap64 (B+1)) I L) else (none))))=some r:=by rw[if_neg (show ¬ (false=true) by decide)] at H;exact H
      clear H
      have H:=H1
      clear H1
      by_cases ba: τ = true
      ·subst ba
       have H1:(if D.length<8796093022208 then ((some (D ++ [(⟨I,L⟩:S62)]:List (S62))).bind fun ζ =>(if (((Qk l0 B).f0)==I&&(((Qk l0 B).f1)==L))=true then (if ζ.length<8796093022208 then (newelref19_withIn.l0 k1 l0 (ζ ++ [(⟨(Qk l0 B).f0,(Qk l0 B).f1⟩:S62)]) true (wrap64 (B+1)) I L) else (none)) else (if ζ.length<8796093022208 then (newelref19_withIn.l0 k1 l0 (ζ ++ [(⟨(Qk l0 B).f0,(Qk l0 B).f1⟩:S62)]) true (wrap64 (B+1)) I L) else (none)))) else (none))=some r:=by rw[if_pos rfl] at H;exact H
       clear H
       have H:=H1
       clear H1
       by_cases az:D.length<8796093022208
       ·rw[if_pos az] at H
        have bi:=Aside0.mk az
        clear az
        obtain⟨ζ,ab⟩:∃ y_:List (S62),y_=(D ++ [(⟨I,L⟩:S62)]):=⟨_,rfl⟩
        replace H:(if (((Qk l0 B).f0)==I&&(((Qk l0 B).f1)==L))=true then (if ζ.length<8796093022208 then (newelref19_withIn.l0 k1 l0 (ζ ++ [(⟨(Qk l0 B).f0,(Qk l0 B).f1⟩:S62)]) true (wrap64 (B+1)) I L) else (none)) else (if ζ.length<8796093022208 then (newelref19_withIn.l0 k1 l0 (ζ ++ [(⟨(Qk l0 B).f0,(Qk l0 B).f1⟩:S62)]) true (wrap64 (B+1)) I L) else (none)))=some r:=by first|(rw[ab];with_reducible exact H)|(have δ :=(Option.bind_some _ _).symm.trans H;rw[ab];with_reducible exact δ)|(have δ :=(Option.bind_some _ _).symm.trans H;with_reducible exact δ)|with_reducible exact H|(rw[ab];exact H)|exact H
        have bj:=Aside0.mk ab
        clear ab
        by_cases a4:(((Qk l0 B).f0)==I&&(((Qk l0 B).f1)==L))=true
        ·rw[if_pos a4] at H
         have c15b0:(((Qk l0 B).f0)==I&&(((Qk l0 B).f1)==L))=true:=a4
         (try(have c15s0:=c15b0;simp only[beq_self_eq_true,bne_self_eq_false,Bool.not_true,Bool.not_false,Bool.true_and,Bool.and_true,Bool.false_or,Bool.or_false] at c15s0))
         (try(have c15b1:decide (((Qk l0 B).f0)=I&&(((Qk l0 B).f1)==L))=true:=by simpa using a4))
         (try(have c15b2:(((Qk l0 B).f0)==I&&(((Qk l0 B).f1)==L))=true:=by simpa using a4))
         clear a4
         by_cases an: ζ.length<8796093022208
         ·rw[if_pos an] at H
          have cb:=Aside0.mk an
          clear an
          obtain⟨bl,ac⟩:∃ y_:List (S62),y_=(ζ ++ [(⟨(Qk l0 B).f0,(Qk l0 B).f1⟩:S62)]):=⟨_,rfl⟩
          replace H:(newelref19_withIn.l0 k1 l0 bl true (wrap64 (B+1)) I L)=some r:=by first|(rw[ac];with_reducible exact H)|(have δ :=(Option.bind_some _ _).symm.trans H;rw[ac];with_reducible exact δ)|(have δ :=(Option.bind_some _ _).symm.trans H;with_reducible exact δ)|with_reducible exact H|(rw[ac];exact H)|exact H
          have ce:=Aside0.mk ac
          clear ac
          have H':=Aside0.mk H
          clear H
          try go_wp2
          replace HO_5:=Aside0.mk (Kd.Qn HO_5.out)
          replace J:=Aside0.mk (Qb J.out)
          replace HB:=Aside0.mk (Qe HB.out)
          have μ :0≤(B:Int):=of_decide_eq_true (by assumption)
          have ρ:B<(l0.length:Int):=of_decide_eq_true (by assumption)
          obtain⟨Z,a2,X,Y⟩:=Zu ν.out B μ ρ
          have γ:=Y
          have ε :=X
          cases a2
          replace X:=(HB.out.cell (World.block_lt_of_cell? w _ X)).trans X
          replace Y:=(HB.out.cell (World.block_lt_of_cell? w _ Y)).trans Y
          replace μ :=eq_true μ
          replace ρ:=eq_true ρ
          refine Ze (n:=7) (S:=fun w'=>w'.cell? ⟨O,0,none⟩=some (.int .i64 I)∧w'.cell? ⟨O,1,none⟩=some (.int .i64 L)∧w'.cell? (Z.add ((B).toNat * 2))=some (.int .i64 ((Qk l0 B).f0))∧w'.cell? ⟨(Z.add ((B).toNat * 2)).block,(Z.add ((B).toNat * 2)).off+1,none⟩=some (.int .i64 ((Qk l0 B).f1))) (ds:=[]) #[false,false,false,false,false,false,false] kr rfl rfl ⟨(Qi J.out 0).trans rfl,(Qi J.out 1).trans rfl,((HB.out.cell (World.block_lt_of_cell? w _ ε)).trans ε),((HB.out.cell (World.block_lt_of_cell? w _ γ)).trans γ)⟩ (fun hHeld=>?_)
          generalize wr.drew=g6 at HO_5 J HB X Y hHeld ⊢
          refine Zy (i:=1) (N:=some 16) (v:=?_) (a':=?_) (bN 7 2) rfl rfl kr (fun _ _ _ h=>h) (Or.inl ⟨by rfl, ?_⟩) ?_ ?_
          rotate_left
          ·intro w'
           go_simp
           with_reducible rfl
          rotate_left
          ·simp only[Act.put,qS,Zg,Zj]
           rfl
          refine Zy (i:=2) (N:=some 17) (v:=?_) (a':=?_) (bN 7 6) rfl rfl kr (fun _ _ _ h=>h) (Or.inl ⟨by rfl, ?_⟩) ?_ ?_
          rotate_left
          ·intro w'
           go_simp
           with_reducible rfl
          rotate_left
          ·simp only[Act.put,qS,Zg,Zj]
           rfl
          refine Zy (i:=3) (N:=some 18) (v:=?_) (a':=?_) (bN 7 14) rfl rfl kr (fun _ _ _ h=>h) (Or.inl ⟨by rfl, ?_⟩) ?_ ?_
          rotate_left
          ·intro w'
           go_simp
           with_reducible rfl
          rotate_left
          ·simp only[Act.put,qS,Zg,Zj]
           rfl
          refine Xs (i:=0) (N:=some 15) (v:=?_) (a':=?_) (bN 7 15) rfl rfl kr (fun _ _ _ h=>h) (Or.inl ⟨by rfl, ?_⟩) hHeld ?_ ?_
          rotate_left
          ·rintro w' ⟨s0,s1,s2,s3⟩
           go_simp
           with_reducible rfl
          rotate_left
          ·simp only[Act.put,qS,Zg,Zj]
           rfl
          refine Xs (i:=4) (N:=some 19) (v:=?_) (a':=?_) (bN 7 31) rfl rfl kr (fun _ _ _ h=>h) (Or.inl ⟨by rfl, ?_⟩) hHeld ?_ ?_
          rotate_left
          ·rintro w' ⟨s0,s1,s2,s3⟩
           go_simp
           with_reducible rfl
          rotate_left
          ·simp only[Act.put,qS,Zg,Zj]
           rfl
          refine Zi (i:=5) (N:=some 20) (bN 7 63) rfl rfl kr (by decide) (fun K hK=>?_)
          refine Zc Try.func40 kr rfl #[.agg #[.int .i64 I,.int .i64 L],.agg #[.int .i64 ((Qk l0 B).f0),.int .i64 ((Qk l0 B).f1)]] (by rfl) rfl rfl qM ?_
          with_reducible refine(newelref19_before.calls I L ((Qk l0 B).f0) ((Qk l0 B).f1) true _ A6.out).mono ?_
          rintro e i5 ⟨rfl,hb⟩
          refine⟨_,rfl, ?_⟩
          replace HO_5:=sRb HO_5 hb
          replace J:=sBk J hb
          replace HB:=sHb hb
          (try clear hb)
          (try clear a0)
          (try clear hk)
          (try clear hi)
          refine hK.out _ _ ⟨qc J,qc J,((HB.out.cell (World.block_lt_of_cell? w _ ε)).trans ε),((HB.out.cell (World.block_lt_of_cell? w _ γ)).trans γ)⟩ (fun hHeld=>?_)
          clear hK K
          refine qN (some 20) ?_
          refine Zy (i:=6) (N:=some 8) (v:=?_) (a':=?_) (bN 7 127) rfl rfl kr (fun _ _ _ h=>h) (Or.inl ⟨by rfl, ?_⟩) ?_ ?_
          rotate_left
          ·intro w'
           go_simp
           with_reducible rfl
          rotate_left
          ·simp only[Act.put,qS,Zg,Zj]
           rfl
          refine Zq kr ?_
          obtain⟨am,ao,ap,av⟩:=qD2 J.out
          try go_wp2_with (first|((with_reducible refine Zl (b:=.append) (xs:=#[.tmp 26,.tmp 28]) rfl ?_);at_builtin;refine Kd.Z5 k62 (w0:=w) w.heap.size rfl (.tmp 26) (.tmp 28) 25 62 (.agg #[(.int .i64 0),(.int .i64 0)]) 16 rfl Try.underlying25 Yd rfl (by decide) (by omega) u5 D (⟨I,L⟩:S62) [.int .i64 I,.int .i64 L] (fun k_=>k_≠O) (fun _=>False) rfl rfl ?aP (fun _ hk=>hk.elim) ?aF ?aO ?aB ?aS ?aL ?_;(case aP=>exact Yb _ _ _ (⟨I,L⟩:S62));(case aB=>exact HB.out);(case aF=>exact(fun k_ hk=>Kd.Xc (g:=O) (o:=.cells #[.int .i64 I,.int .i64 L] 62 (0,0)) J.out k_ hk));(case aO=>exact HO_5.out);(case aS=>exact(Qj HB.out));(case aL=>have:=bi.out;omega);intro b5 d0 ho hb hg hat;rw[← bj.out] at ho;have σ:=Aside0.mk ho;replace J:=Aside0.mk (Q8 (g:=O) (o:=.cells #[.int .i64 I,.int .i64 L] 62 (0,0)) J.out hg (Kd.Xk HO_5.out (fun _ hk=>hk)));replace HB:=Aside0.mk hb;clear HO_5;clear ho hb hg hat))
          replace σ:=Aside0.mk (Kd.Qn σ.out)
          replace J:=Aside0.mk (Qb J.out)
          replace HB:=Aside0.mk (Qe HB.out)
          have a3:0≤(B:Int):=of_decide_eq_true (by assumption)
          have a5:B<(l0.length:Int):=of_decide_eq_true (by assumption)
          obtain⟨b1,b6,η,θ⟩:=Zu ν.out B a3 a5
          have φ := θ
          have χ := η
          obtain rfl:Z=b1:=(by injection b6)
          replace η :=(HB.out.cell (World.block_lt_of_cell? w _ η)).trans η
          replace θ :=(HB.out.cell (World.block_lt_of_cell? w _ θ)).trans θ
          replace a3:=eq_true a3
          replace a5:=eq_true a5
          refine Ze (n:=13) (S:=fun w'=>w'.cell? ⟨O,0,none⟩=some (.int .i64 I)∧w'.cell? ⟨O,1,none⟩=some (.int .i64 L)∧w'.cell? (Z.add ((B).toNat * 2))=some (.int .i64 ((Qk l0 B).f0))∧w'.cell? ⟨(Z.add ((B).toNat * 2)).block,(Z.add ((B).toNat * 2)).off+1,none⟩=some (.int .i64 ((Qk l0 B).f1))) (ds:=[]) #[false,false,false,false,false,false,false,false,false,false,false,false,false] kr rfl rfl ⟨(Qi J.out 0).trans rfl,(Qi J.out 1).trans rfl,((HB.out.cell (World.block_lt_of_cell? w _ χ)).trans χ),((HB.out.cell (World.block_lt_of_cell? w _ φ)).trans φ)⟩ (fun hHeld=>?_);refine Q4 newelref19_withIn.U7 newelref19_withIn.Vb (fun HT_ HW_=>?_)
          generalize d0.drew=bp at σ J HB η θ hHeld ⊢
          refine qP 0 (some 30) (bN 13 1) HT_ ?_
          refine qP 1 (some 31) (bN 13 3) HT_ ?_
          refine qP 2 (some 32) (bN 13 7) HT_ ?_
          refine qP 3 (some 33) (bN 13 15) HT_ ?_
          refine qP 4 (some 34) (bN 13 31) HT_ ?_
          refine qT 5 (some 35) (bN 13 63) HT_ HW_ hHeld ?_
          refine qT 6 (some 36) (bN 13 127) HT_ HW_ hHeld ?_
          refine qP 7 (some 37) (bN 13 255) HT_ ?_
          refine qP 8 (some 38) (bN 13 511) HT_ ?_
          refine qP 9 (some 39) (bN 13 1023) HT_ ?_
          refine qU 10 (some 40) (bN 13 2047) HT_ ?_
          refine qP 11 (some 41) (bN 13 4095) HT_ ?_
          refine qP 12 (some 6) (bN 13 8191) HT_ ?_
          refine Zq (Zd HT_.out kr) ?_
          have b7:0≤(B:Int):=of_decide_eq_true (by assumption)
          have b9:B<(l0.length:Int):=of_decide_eq_true (by assumption)
          obtain⟨cf,dc,ak,al⟩:=Zu ν.out B b7 b9
          obtain rfl:Z=cf:=(by injection dc)
          replace ak:=(HB.out.cell (World.block_lt_of_cell? w _ ak)).trans ak
          replace al:=(HB.out.cell (World.block_lt_of_cell? w _ al)).trans al
          replace b7:=eq_true b7
          replace b9:=eq_true b9
          try go_wp2_with (first|((with_reducible refine Zl (b:=.append) (xs:=#[.tmp 42,.tmp 47]) rfl ?_);at_builtin;refine Kd.Z5 k62 (w0:=w) w.heap.size rfl (.tmp 42) (.tmp 47) 25 62 (.agg #[(.int .i64 0),(.int .i64 0)]) 16 rfl Try.underlying25 Yd rfl (by decide) (by omega) b5 ζ (⟨(Qk l0 B).f0,(Qk l0 B).f1⟩:S62) [.int .i64 ((Qk l0 B).f0),.int .i64 ((Qk l0 B).f1)] (fun k_=>k_≠O) (fun _=>False) rfl rfl ?aP (fun _ hk=>hk.elim) ?aF ?aO ?aB ?aS ?aL ?_;(case aP=>exact Yb _ _ _ (⟨(Qk l0 B).f0,(Qk l0 B).f1⟩:S62));(case aB=>exact HB.out);(case aF=>exact(fun k_ hk=>Kd.Xc (g:=O) (o:=.cells #[.int .i64 I,.int .i64 L] 62 (0,0)) J.out k_ hk));(case aO=>exact σ.out);(case aS=>exact(Qj HB.out));(case aL=>have:=cb.out;omega);intro dl dr ho hb hg hat;rw[← ce.out] at ho;have ci:=Aside0.mk ho;replace J:=Aside0.mk (Q8 (g:=O) (o:=.cells #[.int .i64 I,.int .i64 L] 62 (0,0)) J.out hg (Kd.Xk σ.out (fun _ hk=>hk)));replace HB:=Aside0.mk hb;clear σ;clear ho hb hg hat))
          go_roundg k1
          case measure=>have:= ξ.out;omega
          case rel=>exact⟨(bl),(true),(wrap64 (B+1)),rfl,rfl,H',⟨by have:= ξ.out;omega⟩,⟨by(with_reducible repeat first|apply Kd.Qm|apply Kd.Ql|apply Kd.Qn);exact ci.out⟩,J,HB⟩
         ·rw[if_neg an] at H
          exact absurd H (by simp)
        ·rw[if_neg a4] at H
         have c15b0:(((Qk l0 B).f0)==I&&(((Qk l0 B).f1)==L))=false:=by simpa using a4
         (try(have c15s0:=c15b0;simp only[beq_self_eq_true,bne_self_eq_false,Bool.not_true,Bool.not_false,Bool.true_and,Bool.and_true,Bool.false_or,Bool.or_false] at c15s0))
         (try(have c15b1:decide (((Qk l0 B).f0)=I&&(((Qk l0 B).f1)==L))=false:=by simpa using a4))
         (try(have c15b2:(((Qk l0 B).f0)==I&&(((Qk l0 B).f1)==L))=false:=by simpa using a4))
         (try(have c15b3:¬ (((Qk l0 B).f0)=I&&(((Qk l0 B).f1)==L)):=by simpa using a4))
         clear a4
         by_cases dn: ζ.length<8796093022208
         ·rw[if_pos dn] at H
          have ck:=Aside0.mk dn
          clear dn
          obtain⟨bm,ae⟩:∃ y_:List (S62),y_=(ζ ++ [(⟨(Qk l0 B).f0,(Qk l0 B).f1⟩:S62)]):=⟨_,rfl⟩
          replace H:(newelref19_withIn.l0 k1 l0 bm true (wrap64 (B+1)) I L)=some r:=by first|(rw[ae];with_reducible exact H)|(have δ :=(Option.bind_some _ _).symm.trans H;rw[ae];with_reducible exact δ)|(have δ :=(Option.bind_some _ _).symm.trans H;with_reducible exact δ)|with_reducible exact H|(rw[ae];exact H)|exact H
          have cm:=Aside0.mk ae
          clear ae
          have H':=Aside0.mk H
          clear H
          try go_wp2
          replace HO_5:=Aside0.mk (Kd.Qn HO_5.out)
          replace J:=Aside0.mk (Qb J.out)
          replace HB:=Aside0.mk (Qe HB.out)
          have μ :0≤(B:Int):=of_decide_eq_true (by assumption)
          have ρ:B<(l0.length:Int):=of_decide_eq_true (by assumption)
          obtain⟨Z,a2,X,Y⟩:=Zu ν.out B μ ρ
          have γ:=Y
          have ε :=X
          cases a2
          replace X:=(HB.out.cell (World.block_lt_of_cell? w _ X)).trans X
          replace Y:=(HB.out.cell (World.block_lt_of_cell? w _ Y)).trans Y
          replace μ :=eq_true μ
          replace ρ:=eq_true ρ
          refine Ze (n:=7) (S:=fun w'=>w'.cell? ⟨O,0,none⟩=some (.int .i64 I)∧w'.cell? ⟨O,1,none⟩=some (.int .i64 L)∧w'.cell? (Z.add ((B).toNat * 2))=some (.int .i64 ((Qk l0 B).f0))∧w'.cell? ⟨(Z.add ((B).toNat * 2)).block,(Z.add ((B).toNat * 2)).off+1,none⟩=some (.int .i64 ((Qk l0 B).f1))) (ds:=[]) #[false,false,false,false,false,false,false] kr rfl rfl ⟨(Qi J.out 0).trans rfl,(Qi J.out 1).trans rfl,((HB.out.cell (World.block_lt_of_cell? w _ ε)).trans ε),((HB.out.cell (World.block_lt_of_cell? w _ γ)).trans γ)⟩ (fun hHeld=>?_)
          generalize wr.drew=bu at HO_5 J HB X Y hHeld ⊢
          refine Zy (i:=1) (N:=some 16) (v:=?_) (a':=?_) (bN 7 2) rfl rfl kr (fun _ _ _ h=>h) (Or.inl ⟨by rfl, ?_⟩) ?_ ?_
          rotate_left
          ·intro w'
           go_simp
           with_reducible rfl
          rotate_left
          ·simp only[Act.put,qS,Zg,Zj]
           rfl
          refine Zy (i:=2) (N:=some 17) (v:=?_) (a':=?_) (bN 7 6) rfl rfl kr (fun _ _ _ h=>h) (Or.inl ⟨by rfl, ?_⟩) ?_ ?_
          rotate_left
          ·intro w'
           go_simp
           with_reducible rfl
          rotate_left
          ·simp only[Act.put,qS,Zg,Zj]
           rfl
          refine Zy (i:=3) (N:=some 18) (v:=?_) (a':=?_) (bN 7 14) rfl rfl kr (fun _ _ _ h=>h) (Or.inl ⟨by rfl, ?_⟩) ?_ ?_
          rotate_left
          ·intro w'
           go_simp
           with_reducible rfl
          rotate_left
          ·simp only[Act.put,qS,Zg,Zj]
           rfl
          refine Xs (i:=0) (N:=some 15) (v:=?_) (a':=?_) (bN 7 15) rfl rfl kr (fun _ _ _ h=>h) (Or.inl ⟨by rfl, ?_⟩) hHeld ?_ ?_
          rotate_left
          ·rintro w' ⟨s0,s1,s2,s3⟩
           go_simp
           with_reducible rfl
          rotate_left
          ·simp only[Act.put,qS,Zg,Zj]
           rfl
          refine Xs (i:=4) (N:=some 19) (v:=?_) (a':=?_) (bN 7 31) rfl rfl kr (fun _ _ _ h=>h) (Or.inl ⟨by rfl, ?_⟩) hHeld ?_ ?_
          rotate_left
          ·rintro w' ⟨s0,s1,s2,s3⟩
           go_simp
           with_reducible rfl
          rotate_left
          ·simp only[Act.put,qS,Zg,Zj]
           rfl
          refine Zi (i:=5) (N:=some 20) (bN 7 63) rfl rfl kr (by decide) (fun K hK=>?_)
          refine Zc Try.func40 kr rfl #[.agg #[.int .i64 I,.int .i64 L],.agg #[.int .i64 ((Qk l0 B).f0),.int .i64 ((Qk l0 B).f1)]] (by rfl) rfl rfl qM ?_
          with_reducible refine(newelref19_before.calls I L ((Qk l0 B).f0) ((Qk l0 B).f1) true _ A6.out).mono ?_
          rintro e da ⟨rfl,hb⟩
          refine⟨_,rfl, ?_⟩
          replace HO_5:=sRb HO_5 hb
          replace J:=sBk J hb
          replace HB:=sHb hb
          (try clear hb)
          (try clear a0)
          (try clear hk)
          (try clear hi)
          refine hK.out _ _ ⟨qc J,qc J,((HB.out.cell (World.block_lt_of_cell? w _ ε)).trans ε),((HB.out.cell (World.block_lt_of_cell? w _ γ)).trans γ)⟩ (fun hHeld=>?_)
          clear hK K
          refine qN (some 20) ?_
          refine Zy (i:=6) (N:=some 8) (v:=?_) (a':=?_) (bN 7 127) rfl rfl kr (fun _ _ _ h=>h) (Or.inl ⟨by rfl, ?_⟩) ?_ ?_
          rotate_left
          ·intro w'
           go_simp
           with_reducible rfl
          rotate_left
          ·simp only[Act.put,qS,Zg,Zj]
           rfl
          refine Zq kr ?_
          obtain⟨bn,bo,cg,cj⟩:=qD2 J.out
          try go_wp2_with (first|((with_reducible refine Zl (b:=.append) (xs:=#[.tmp 26,.tmp 28]) rfl ?_);at_builtin;refine Kd.Z5 k62 (w0:=w) w.heap.size rfl (.tmp 26) (.tmp 28) 25 62 (.agg #[(.int .i64 0),(.int .i64 0)]) 16 rfl Try.underlying25 Yd rfl (by decide) (by omega) u5 D (⟨I,L⟩:S62) [.int .i64 I,.int .i64 L] (fun k_=>k_≠O) (fun _=>False) rfl rfl ?aP (fun _ hk=>hk.elim) ?aF ?aO ?aB ?aS ?aL ?_;(case aP=>exact Yb _ _ _ (⟨I,L⟩:S62));(case aB=>exact HB.out);(case aF=>exact(fun k_ hk=>Kd.Xc (g:=O) (o:=.cells #[.int .i64 I,.int .i64 L] 62 (0,0)) J.out k_ hk));(case aO=>exact HO_5.out);(case aS=>exact(Qj HB.out));(case aL=>have:=bi.out;omega);intro b5 e6 ho hb hg hat;rw[← bj.out] at ho;have σ:=Aside0.mk ho;replace J:=Aside0.mk (Q8 (g:=O) (o:=.cells #[.int .i64 I,.int .i64 L] 62 (0,0)) J.out hg (Kd.Xk HO_5.out (fun _ hk=>hk)));replace HB:=Aside0.mk hb;clear HO_5;clear ho hb hg hat))
          replace σ:=Aside0.mk (Kd.Qn σ.out)
          replace J:=Aside0.mk (Qb J.out)
          replace HB:=Aside0.mk (Qe HB.out)
          have a3:0≤(B:Int):=of_decide_eq_true (by assumption)
          have a5:B<(l0.length:Int):=of_decide_eq_true (by assumption)
          obtain⟨b1,b6,η,θ⟩:=Zu ν.out B a3 a5
          have φ := θ
          have χ := η
          obtain rfl:Z=b1:=(by injection b6)
          replace η :=(HB.out.cell (World.block_lt_of_cell? w _ η)).trans η
          replace θ :=(HB.out.cell (World.block_lt_of_cell? w _ θ)).trans θ
          replace a3:=eq_true a3
          replace a5:=eq_true a5
          refine Ze (n:=13) (S:=fun w'=>w'.cell? ⟨O,0,none⟩=some (.int .i64 I)∧w'.cell? ⟨O,1,none⟩=some (.int .i64 L)∧w'.cell? (Z.add ((B).toNat * 2))=some (.int .i64 ((Qk l0 B).f0))∧w'.cell? ⟨(Z.add ((B).toNat * 2)).block,(Z.add ((B).toNat * 2)).off+1,none⟩=some (.int .i64 ((Qk l0 B).f1))) (ds:=[]) #[false,false,false,false,false,false,false,false,false,false,false,false,false] kr rfl rfl ⟨(Qi J.out 0).trans rfl,(Qi J.out 1).trans rfl,((HB.out.cell (World.block_lt_of_cell? w _ χ)).trans χ),((HB.out.cell (World.block_lt_of_cell? w _ φ)).trans φ)⟩ (fun hHeld=>?_);refine Q4 newelref19_withIn.U7 newelref19_withIn.Vb (fun HT_ HW_=>?_)
          generalize e6.drew=fh at σ J HB η θ hHeld ⊢
          refine qP 0 (some 30) (bN 13 1) HT_ ?_
          refine qP 1 (some 31) (bN 13 3) HT_ ?_
          refine qP 2 (some 32) (bN 13 7) HT_ ?_
          refine qP 3 (some 33) (bN 13 15) HT_ ?_
          refine qP 4 (some 34) (bN 13 31) HT_ ?_
          refine qT 5 (some 35) (bN 13 63) HT_ HW_ hHeld ?_
          refine qT 6 (some 36) (bN 13 127) HT_ HW_ hHeld ?_
          refine qP 7 (some 37) (bN 13 255) HT_ ?_
          refine qP 8 (some 38) (bN 13 511) HT_ ?_
          refine qP 9 (some 39) (bN 13 1023) HT_ ?_
          refine qP 10 (some 40) (bN 13 2047) HT_ ?_
          refine qP 11 (some 41) (bN 13 4095) HT_ ?_
          refine qP 12 (some 6) (bN 13 8191) HT_ ?_
          refine Zq (Zd HT_.out kr) ?_
          have bb:0≤(B:Int):=of_decide_eq_true (by assumption)
          have bc:B<(l0.length:Int):=of_decide_eq_true (by assumption)
          obtain⟨co,dd,ar,au⟩:=Zu ν.out B bb bc
          obtain rfl:Z=co:=(by injection dd)
          replace ar:=(HB.out.cell (World.block_lt_of_cell? w _ ar)).trans ar
          replace au:=(HB.out.cell (World.block_lt_of_cell? w _ au)).trans au
          replace bb:=eq_true bb
          replace bc:=eq_true bc
          try go_wp2_with (first|((with_reducible refine Zl (b:=.append) (xs:=#[.tmp 42,.tmp 47]) rfl ?_);at_builtin;refine Kd.Z5 k62 (w0:=w) w.heap.size rfl (.tmp 42) (.tmp 47) 25 62 (.agg #[(.int .i64 0),(.int .i64 0)]) 16 rfl Try.underlying25 Yd rfl (by decide) (by omega) b5 ζ (⟨(Qk l0 B).f0,(Qk l0 B).f1⟩:S62) [.int .i64 ((Qk l0 B).f0),.int .i64 ((Qk l0 B).f1)] (fun k_=>k_≠O) (fun _=>False) rfl rfl ?aP (fun _ hk=>hk.elim) ?aF ?aO ?aB ?aS ?aL ?_;(case aP=>exact Yb _ _ _ (⟨(Qk l0 B).f0,(Qk l0 B).f1⟩:S62));(case aB=>exact HB.out);(case aF=>exact(fun k_ hk=>Kd.Xc (g:=O) (o:=.cells #[.int .i64 I,.int .i64 L] 62 (0,0)) J.out k_ hk));(case aO=>exact σ.out);(case aS=>exact(Qj HB.out));(case aL=>have:=ck.out;omega);intro dp db ho hb hg hat;rw[← cm.out] at ho;have cp:=Aside0.mk ho;replace J:=Aside0.mk (Q8 (g:=O) (o:=.cells #[.int .i64 I,.int .i64 L] 62 (0,0)) J.out hg (Kd.Xk σ.out (fun _ hk=>hk)));replace HB:=Aside0.mk hb;clear σ;clear ho hb hg hat))
          go_roundg k1
          case measure=>have:= ξ.out;omega
          case rel=>exact⟨(bm),(true),(wrap64 (B+1)),rfl,rfl,H',⟨by have:= ξ.out;omega⟩,⟨by(with_reducible repeat first|apply Kd.Qm|apply Kd.Ql|apply Kd.Qn);exact cp.out⟩,J,HB⟩
         ·rw[if_neg dn] at H
          exact absurd H (by simp)
       ·rw[if_neg az] at H
        exact absurd H (by simp)
      ·replace ba:=Bool.eq_false_iff.mpr ba
       subst ba
       have H1:(if (((Qk l0 B).f0)==I&&(((Qk l0 B).f1)==L))=true then (if D.length<8796093022208 then (newelref19_withIn.l0 k1 l0 (D ++ [(⟨(Qk l0 B).f0,(Qk l0 B).f1⟩:S62)]) true (wrap64 (B+1)) I L) else (none)) else (if D.length<8796093022208 then (newelref19_withIn.l0 k1 l0 (D ++ [(⟨(Qk l0 B).f0,(Qk l0 B).f1⟩:S62)]) false (wrap64 (B+1)) I L) else (none)))=some r:=by rw[if_neg (show ¬ (false=true) by decide)] at H;exact H
       clear H
       have H:=H1
       clear H1
       by_cases ek:(((Qk l0 B).f0)==I&&(((Qk l0 B).f1)==L))=true
       ·rw[if_pos ek] at H
        have c30b0:(((Qk l0 B).f0)==I&&(((Qk l0 B).f1)==L))=true:=ek
        (try(have c30s0:=c30b0;simp only[beq_self_eq_true,bne_self_eq_false,Bool.not_true,Bool.not_false,Bool.true_and,Bool.and_true,Bool.false_or,Bool.or_false] at c30s0))
        (try(have c30b1:decide (((Qk l0 B).f0)=I&&(((Qk l0 B).f1)==L))=true:=by simpa using ek))
        (try(have c30b2:(((Qk l0 B).f0)==I&&(((Qk l0 B).f1)==L))=true:=by simpa using ek))
        clear ek
        by_cases cd:D.length<8796093022208
        ·rw[if_pos cd] at H
         have cq:=Aside0.mk cd
         clear cd
         obtain⟨bq,af⟩:∃ y_:List (S62),y_=(D ++ [(⟨(Qk l0 B).f0,(Qk l0 B).f1⟩:S62)]):=⟨_,rfl⟩
         replace H:(newelref19_withIn.l0 k1 l0 bq true (wrap64 (B+1)) I L)=some r:=by first|(rw[af];with_reducible exact H)|(have δ :=(Option.bind_some _ _).symm.trans H;rw[af];with_reducible exact δ)|(have δ :=(Option.bind_some _ _).symm.trans H;with_reducible exact δ)|with_reducible exact H|(rw[af];exact H)|exact H
         have cr:=Aside0.mk af
         clear af
         have H':=Aside0.mk H
         clear H
         try go_wp2
         replace HO_5:=Aside0.mk (Kd.Qn HO_5.out)
         replace J:=Aside0.mk (Qb J.out)
         replace HB:=Aside0.mk (Qe HB.out)
         have μ :0≤(B:Int):=of_decide_eq_true (by assumption)
         have ρ:B<(l0.length:Int):=of_decide_eq_true (by assumption)
         obtain⟨Z,a2,X,Y⟩:=Zu ν.out B μ ρ
         have γ:=Y
         have ε :=X
         cases a2
         replace X:=(HB.out.cell (World.block_lt_of_cell? w _ X)).trans X
         replace Y:=(HB.out.cell (World.block_lt_of_cell? w _ Y)).trans Y
         replace μ :=eq_true μ
         replace ρ:=eq_true ρ
         refine Ze (n:=7) (S:=fun w'=>w'.cell? ⟨O,0,none⟩=some (.int .i64 I)∧w'.cell? ⟨O,1,none⟩=some (.int .i64 L)∧w'.cell? (Z.add ((B).toNat * 2))=some (.int .i64 ((Qk l0 B).f0))∧w'.cell? ⟨(Z.add ((B).toNat * 2)).block,(Z.add ((B).toNat * 2)).off+1,none⟩=some (.int .i64 ((Qk l0 B).f1))) (ds:=[]) #[false,false,false,false,false,false,false] kr rfl rfl ⟨(Qi J.out 0).trans rfl,(Qi J.out 1).trans rfl,((HB.out.cell (World.block_lt_of_cell? w _ ε)).trans ε),((HB.out.cell (World.block_lt_of_cell? w _ γ)).trans γ)⟩ (fun hHeld=>?_)
         generalize wr.drew=bz at HO_5 J HB X Y hHeld ⊢
         refine Zy (i:=1) (N:=some 16) (v:=?_) (a':=?_) (bN 7 2) rfl rfl kr (fun _ _ _ h=>h) (Or.inl ⟨by rfl, ?_⟩) ?_ ?_
         rotate_left
         ·intro w'
          go_simp
          with_reducible rfl
         rotate_left
         ·simp only[Act.put,qS,Zg,Zj]
          rfl
         refine Zy (i:=2) (N:=some 17) (v:=?_) (a':=?_) (bN 7 6) rfl rfl kr (fun _ _ _ h=>h) (Or.inl ⟨by rfl, ?_⟩) ?_ ?_
         rotate_left
         ·intro w'
          go_simp
          with_reducible rfl
         rotate_left
         ·simp only[Act.put,qS,Zg,Zj]
          rfl
         refine Zy (i:=3) (N:=some 18) (v:=?_) (a':=?_) (bN 7 14) rfl rfl kr (fun _ _ _ h=>h) (Or.inl ⟨by rfl, ?_⟩) ?_ ?_
         rotate_left
         ·intro w'
          go_simp
          with_reducible rfl
         rotate_left
         ·simp only[Act.put,qS,Zg,Zj]
          rfl
         refine Xs (i:=0) (N:=some 15) (v:=?_) (a':=?_) (bN 7 15) rfl rfl kr (fun _ _ _ h=>h) (Or.inl ⟨by rfl, ?_⟩) hHeld ?_ ?_
         rotate_left
         ·rintro w' ⟨s0,s1,s2,s3⟩
          go_simp
          with_reducible rfl
         rotate_left
         ·simp only[Act.put,qS,Zg,Zj]
          rfl
         refine Xs (i:=4) (N:=some 19) (v:=?_) (a':=?_) (bN 7 31) rfl rfl kr (fun _ _ _ h=>h) (Or.inl ⟨by rfl, ?_⟩) hHeld ?_ ?_
         rotate_left
         ·rintro w' ⟨s0,s1,s2,s3⟩
          go_simp
          with_reducible rfl
         rotate_left
         ·simp only[Act.put,qS,Zg,Zj]
          rfl
         refine Zi (i:=5) (N:=some 20) (bN 7 63) rfl rfl kr (by decide) (fun K hK=>?_)
         refine Zc Try.func40 kr rfl #[.agg #[.int .i64 I,.int .i64 L],.agg #[.int .i64 ((Qk l0 B).f0),.int .i64 ((Qk l0 B).f1)]] (by rfl) rfl rfl qM ?_
         with_reducible refine(newelref19_before.calls I L ((Qk l0 B).f0) ((Qk l0 B).f1) false _ A6.out).mono ?_
         rintro e d3 ⟨rfl,hb⟩
         refine⟨_,rfl, ?_⟩
         replace HO_5:=sRb HO_5 hb
         replace J:=sBk J hb
         replace HB:=sHb hb
         (try clear hb)
         (try clear a0)
         (try clear hk)
         (try clear hi)
         refine hK.out _ _ ⟨qc J,qc J,((HB.out.cell (World.block_lt_of_cell? w _ ε)).trans ε),((HB.out.cell (World.block_lt_of_cell? w _ γ)).trans γ)⟩ (fun hHeld=>?_)
         clear hK K
         refine qN (some 20) ?_
         refine Zy (i:=6) (N:=some 8) (v:=?_) (a':=?_) (bN 7 127) rfl rfl kr (fun _ _ _ h=>h) (Or.inl ⟨by rfl, ?_⟩) ?_ ?_
         rotate_left
         ·intro w'
          go_simp
          with_reducible rfl
         rotate_left
         ·simp only[Act.put,qS,Zg,Zj]
          rfl
         refine Zq kr ?_
         try go_wp2
         replace HO_5:=Aside0.mk (Kd.Qn HO_5.out)
         replace J:=Aside0.mk (Qb J.out)
         replace HB:=Aside0.mk (Qe HB.out)
         have a6:0≤(B:Int):=of_decide_eq_true (by assumption)
         have a7:B<(l0.length:Int):=of_decide_eq_true (by assumption)
         obtain⟨b2,bd,ι,κ⟩:=Zu ν.out B a6 a7
         have ψ := κ
         have a1:= ι
         obtain rfl:Z=b2:=(by injection bd)
         replace ι :=(HB.out.cell (World.block_lt_of_cell? w _ ι)).trans ι
         replace κ :=(HB.out.cell (World.block_lt_of_cell? w _ κ)).trans κ
         replace a6:=eq_true a6
         replace a7:=eq_true a7
         refine Ze (n:=13) (S:=fun w'=>w'.cell? ⟨O,0,none⟩=some (.int .i64 I)∧w'.cell? ⟨O,1,none⟩=some (.int .i64 L)∧w'.cell? (Z.add ((B).toNat * 2))=some (.int .i64 ((Qk l0 B).f0))∧w'.cell? ⟨(Z.add ((B).toNat * 2)).block,(Z.add ((B).toNat * 2)).off+1,none⟩=some (.int .i64 ((Qk l0 B).f1))) (ds:=[]) #[false,false,false,false,false,false,false,false,false,false,false,false,false] kr rfl rfl ⟨(Qi J.out 0).trans rfl,(Qi J.out 1).trans rfl,((HB.out.cell (World.block_lt_of_cell? w _ a1)).trans a1),((HB.out.cell (World.block_lt_of_cell? w _ ψ)).trans ψ)⟩ (fun hHeld=>?_);refine Q4 newelref19_withIn.U7 newelref19_withIn.Vb (fun HT_ HW_=>?_)
         generalize d3.drew=ea at HO_5 J HB ι κ hHeld ⊢
         refine qP 0 (some 30) (bN 13 1) HT_ ?_
         refine qP 1 (some 31) (bN 13 3) HT_ ?_
         refine qP 2 (some 32) (bN 13 7) HT_ ?_
         refine qP 3 (some 33) (bN 13 15) HT_ ?_
         refine qP 4 (some 34) (bN 13 31) HT_ ?_
         refine qT 5 (some 35) (bN 13 63) HT_ HW_ hHeld ?_
         refine qT 6 (some 36) (bN 13 127) HT_ HW_ hHeld ?_
         refine qP 7 (some 37) (bN 13 255) HT_ ?_
         refine qP 8 (some 38) (bN 13 511) HT_ ?_
         refine qP 9 (some 39) (bN 13 1023) HT_ ?_
         refine qU 10 (some 40) (bN 13 2047) HT_ ?_
         refine qP 11 (some 41) (bN 13 4095) HT_ ?_
         refine qP 12 (some 6) (bN 13 8191) HT_ ?_
         refine Zq (Zd HT_.out kr) ?_
         have be:0≤(B:Int):=of_decide_eq_true (by assumption)
         have bf:B<(l0.length:Int):=of_decide_eq_true (by assumption)
         obtain⟨ct,de,aw,ax⟩:=Zu ν.out B be bf
         obtain rfl:Z=ct:=(by injection de)
         replace aw:=(HB.out.cell (World.block_lt_of_cell? w _ aw)).trans aw
         replace ax:=(HB.out.cell (World.block_lt_of_cell? w _ ax)).trans ax
         replace be:=eq_true be
         replace bf:=eq_true bf
         try go_wp2_with (first|((with_reducible refine Zl (b:=.append) (xs:=#[.tmp 42,.tmp 47]) rfl ?_);at_builtin;refine Kd.Z5 k62 (w0:=w) w.heap.size rfl (.tmp 42) (.tmp 47) 25 62 (.agg #[(.int .i64 0),(.int .i64 0)]) 16 rfl Try.underlying25 Yd rfl (by decide) (by omega) u5 D (⟨(Qk l0 B).f0,(Qk l0 B).f1⟩:S62) [.int .i64 ((Qk l0 B).f0),.int .i64 ((Qk l0 B).f1)] (fun k_=>k_≠O) (fun _=>False) rfl rfl ?aP (fun _ hk=>hk.elim) ?aF ?aO ?aB ?aS ?aL ?_;(case aP=>exact Yb _ _ _ (⟨(Qk l0 B).f0,(Qk l0 B).f1⟩:S62));(case aB=>exact HB.out);(case aF=>exact(fun k_ hk=>Kd.Xc (g:=O) (o:=.cells #[.int .i64 I,.int .i64 L] 62 (0,0)) J.out k_ hk));(case aO=>exact HO_5.out);(case aS=>exact(Qj HB.out));(case aL=>have:=cq.out;omega);intro dq e7 ho hb hg hat;rw[← cr.out] at ho;have cv:=Aside0.mk ho;replace J:=Aside0.mk (Q8 (g:=O) (o:=.cells #[.int .i64 I,.int .i64 L] 62 (0,0)) J.out hg (Kd.Xk HO_5.out (fun _ hk=>hk)));replace HB:=Aside0.mk hb;clear HO_5;clear ho hb hg hat))
         go_roundg k1
         case measure=>have:= ξ.out;omega
         case rel=>exact⟨(bq),(true),(wrap64 (B+1)),rfl,rfl,H',⟨by have:= ξ.out;omega⟩,⟨by(with_reducible repeat first|apply Kd.Qm|apply Kd.Ql|apply Kd.Qn);exact cv.out⟩,J,HB⟩
        ·rw[if_neg cd] at H
         exact absurd H (by simp)
       ·rw[if_neg ek] at H
        have c30b0:(((Qk l0 B).f0)==I&&(((Qk l0 B).f1)==L))=false:=by simpa using ek
        (try(have c30s0:=c30b0;simp only[beq_self_eq_true,bne_self_eq_false,Bool.not_true,Bool.not_false,Bool.true_and,Bool.and_true,Bool.false_or,Bool.or_false] at c30s0))
        (try(have c30b1:decide (((Qk l0 B).f0)=I&&(((Qk l0 B).f1)==L))=false:=by simpa using ek))
        (try(have c30b2:(((Qk l0 B).f0)==I&&(((Qk l0 B).f1)==L))=false:=by simpa using ek))
        (try(have c30b3:¬ (((Qk l0 B).f0)=I&&(((Qk l0 B).f1)==L)):=by simpa using ek))
        clear ek
        by_cases en:D.length<8796093022208
        ·rw[if_pos en] at H
         have cw:=Aside0.mk en
         clear en
         obtain⟨bs,ag⟩:∃ y_:List (S62),y_=(D ++ [(⟨(Qk l0 B).f0,(Qk l0 B).f1⟩:S62)]):=⟨_,rfl⟩
         replace H:(newelref19_withIn.l0 k1 l0 bs false (wrap64 (B+1)) I L)=some r:=by first|(rw[ag];with_reducible exact H)|(have δ :=(Option.bind_some _ _).symm.trans H;rw[ag];with_reducible exact δ)|(have δ :=(Option.bind_some _ _).symm.trans H;with_reducible exact δ)|with_reducible exact H|(rw[ag];exact H)|exact H
         have cx:=Aside0.mk ag
         clear ag
         have H':=Aside0.mk H
         clear H
         try go_wp2
         replace HO_5:=Aside0.mk (Kd.Qn HO_5.out)
         replace J:=Aside0.mk (Qb J.out)
         replace HB:=Aside0.mk (Qe HB.out)
         have μ :0≤(B:Int):=of_decide_eq_true (by assumption)
         have ρ:B<(l0.length:Int):=of_decide_eq_true (by assumption)
         obtain⟨Z,a2,X,Y⟩:=Zu ν.out B μ ρ
         have γ:=Y
         have ε :=X
         cases a2
         replace X:=(HB.out.cell (World.block_lt_of_cell? w _ X)).trans X
         replace Y:=(HB.out.cell (World.block_lt_of_cell? w _ Y)).trans Y
         replace μ :=eq_true μ
         replace ρ:=eq_true ρ
         refine Ze (n:=7) (S:=fun w'=>w'.cell? ⟨O,0,none⟩=some (.int .i64 I)∧w'.cell? ⟨O,1,none⟩=some (.int .i64 L)∧w'.cell? (Z.add ((B).toNat * 2))=some (.int .i64 ((Qk l0 B).f0))∧w'.cell? ⟨(Z.add ((B).toNat * 2)).block,(Z.add ((B).toNat * 2)).off+1,none⟩=some (.int .i64 ((Qk l0 B).f1))) (ds:=[]) #[false,false,false,false,false,false,false] kr rfl rfl ⟨(Qi J.out 0).trans rfl,(Qi J.out 1).trans rfl,((HB.out.cell (World.block_lt_of_cell? w _ ε)).trans ε),((HB.out.cell (World.block_lt_of_cell? w _ γ)).trans γ)⟩ (fun hHeld=>?_)
         generalize wr.drew=gq at HO_5 J HB X Y hHeld ⊢
         refine Zy (i:=1) (N:=some 16) (v:=?_) (a':=?_) (bN 7 2) rfl rfl kr (fun _ _ _ h=>h) (Or.inl ⟨by rfl, ?_⟩) ?_ ?_
         rotate_left
         ·intro w'
          go_simp
          with_reducible rfl
         rotate_left
         ·simp only[Act.put,qS,Zg,Zj]
          rfl
         refine Zy (i:=2) (N:=some 17) (v:=?_) (a':=?_) (bN 7 6) rfl rfl kr (fun _ _ _ h=>h) (Or.inl ⟨by rfl, ?_⟩) ?_ ?_
         rotate_left
         ·intro w'
          go_simp
          with_reducible rfl
         rotate_left
         ·simp only[Act.put,qS,Zg,Zj]
          rfl
         refine Zy (i:=3) (N:=some 18) (v:=?_) (a':=?_) (bN 7 14) rfl rfl kr (fun _ _ _ h=>h) (Or.inl ⟨by rfl, ?_⟩) ?_ ?_
         rotate_left
         ·intro w'
          go_simp
          with_reducible rfl
         rotate_left
         ·simp only[Act.put,qS,Zg,Zj]
          rfl
         refine Xs (i:=0) (N:=some 15) (v:=?_) (a':=?_) (bN 7 15) rfl rfl kr (fun _ _ _ h=>h) (Or.inl ⟨by rfl, ?_⟩) hHeld ?_ ?_
         rotate_left
         ·rintro w' ⟨s0,s1,s2,s3⟩
          go_simp
          with_reducible rfl
         rotate_left
         ·simp only[Act.put,qS,Zg,Zj]
          rfl
         refine Xs (i:=4) (N:=some 19) (v:=?_) (a':=?_) (bN 7 31) rfl rfl kr (fun _ _ _ h=>h) (Or.inl ⟨by rfl, ?_⟩) hHeld ?_ ?_
         rotate_left
         ·rintro w' ⟨s0,s1,s2,s3⟩
          go_simp
          with_reducible rfl
         rotate_left
         ·simp only[Act.put,qS,Zg,Zj]
          rfl
         refine Zi (i:=5) (N:=some 20) (bN 7 63) rfl rfl kr (by decide) (fun K hK=>?_)
         refine Zc Try.func40 kr rfl #[.agg #[.int .i64 I,.int .i64 L],.agg #[.int .i64 ((Qk l0 B).f0),.int .i64 ((Qk l0 B).f1)]] (by rfl) rfl rfl qM ?_
         with_reducible refine(newelref19_before.calls I L ((Qk l0 B).f0) ((Qk l0 B).f1) false _ A6.out).mono ?_
         rintro e d9 ⟨rfl,hb⟩
         refine⟨_,rfl, ?_⟩
         replace HO_5:=sRb HO_5 hb
         replace J:=sBk J hb
         replace HB:=sHb hb
         (try clear hb)
         (try clear a0)
         (try clear hk)
         (try clear hi)
         refine hK.out _ _ ⟨qc J,qc J,((HB.out.cell (World.block_lt_of_cell? w _ ε)).trans ε),((HB.out.cell (World.block_lt_of_cell? w _ γ)).trans γ)⟩ (fun hHeld=>?_)
         clear hK K
         refine qN (some 20) ?_
         refine Zy (i:=6) (N:=some 8) (v:=?_) (a':=?_) (bN 7 127) rfl rfl kr (fun _ _ _ h=>h) (Or.inl ⟨by rfl, ?_⟩) ?_ ?_
         rotate_left
         ·intro w'
          go_simp
          with_reducible rfl
         rotate_left
         ·simp only[Act.put,qS,Zg,Zj]
          rfl
         refine Zq kr ?_
         try go_wp2
         replace HO_5:=Aside0.mk (Kd.Qn HO_5.out)
         replace J:=Aside0.mk (Qb J.out)
         replace HB:=Aside0.mk (Qe HB.out)
         have a6:0≤(B:Int):=of_decide_eq_true (by assumption)
         have a7:B<(l0.length:Int):=of_decide_eq_true (by assumption)
         obtain⟨b2,bd,ι,κ⟩:=Zu ν.out B a6 a7
         have ψ := κ
         have a1:= ι
         obtain rfl:Z=b2:=(by injection bd)
         replace ι :=(HB.out.cell (World.block_lt_of_cell? w _ ι)).trans ι
         replace κ :=(HB.out.cell (World.block_lt_of_cell? w _ κ)).trans κ
         replace a6:=eq_true a6
         replace a7:=eq_true a7
         refine Ze (n:=13) (S:=fun w'=>w'.cell? ⟨O,0,none⟩=some (.int .i64 I)∧w'.cell? ⟨O,1,none⟩=some (.int .i64 L)∧w'.cell? (Z.add ((B).toNat * 2))=some (.int .i64 ((Qk l0 B).f0))∧w'.cell? ⟨(Z.add ((B).toNat * 2)).block,(Z.add ((B).toNat * 2)).off+1,none⟩=some (.int .i64 ((Qk l0 B).f1))) (ds:=[]) #[false,false,false,false,false,false,false,false,false,false,false,false,false] kr rfl rfl ⟨(Qi J.out 0).trans rfl,(Qi J.out 1).trans rfl,((HB.out.cell (World.block_lt_of_cell? w _ a1)).trans a1),((HB.out.cell (World.block_lt_of_cell? w _ ψ)).trans ψ)⟩ (fun hHeld=>?_);refine Q4 newelref19_withIn.U7 newelref19_withIn.Vb (fun HT_ HW_=>?_)
         generalize d9.drew=br at HO_5 J HB ι κ hHeld ⊢
         refine qP 0 (some 30) (bN 13 1) HT_ ?_
         refine qP 1 (some 31) (bN 13 3) HT_ ?_
         refine qP 2 (some 32) (bN 13 7) HT_ ?_
         refine qP 3 (some 33) (bN 13 15) HT_ ?_
         refine qP 4 (some 34) (bN 13 31) HT_ ?_
         refine qT 5 (some 35) (bN 13 63) HT_ HW_ hHeld ?_
         refine qT 6 (some 36) (bN 13 127) HT_ HW_ hHeld ?_
         refine qP 7 (some 37) (bN 13 255) HT_ ?_
         refine qP 8 (some 38) (bN 13 511) HT_ ?_
         refine qP 9 (some 39) (bN 13 1023) HT_ ?_
         refine qP 10 (some 40) (bN 13 2047) HT_ ?_
         refine qP 11 (some 41) (bN 13 4095) HT_ ?_
         refine qP 12 (some 6) (bN 13 8191) HT_ ?_
         refine Zq (Zd HT_.out kr) ?_
         have bg:0≤(B:Int):=of_decide_eq_true (by assumption)
         have bh:B<(l0.length:Int):=of_decide_eq_true (by assumption)
         obtain⟨cy,df,ay,b0⟩:=Zu ν.out B bg bh
         obtain rfl:Z=cy:=(by injection df)
         replace ay:=(HB.out.cell (World.block_lt_of_cell? w _ ay)).trans ay
         replace b0:=(HB.out.cell (World.block_lt_of_cell? w _ b0)).trans b0
         replace bg:=eq_true bg
         replace bh:=eq_true bh
         try go_wp2_with (first|((with_reducible refine Zl (b:=.append) (xs:=#[.tmp 42,.tmp 47]) rfl ?_);at_builtin;refine Kd.Z5 k62 (w0:=w) w.heap.size rfl (.tmp 42) (.tmp 47) 25 62 (.agg #[(.int .i64 0),(.int .i64 0)]) 16 rfl Try.underlying25 Yd rfl (by decide) (by omega) u5 D (⟨(Qk l0 B).f0,(Qk l0 B).f1⟩:S62) [.int .i64 ((Qk l0 B).f0),.int .i64 ((Qk l0 B).f1)] (fun k_=>k_≠O) (fun _=>False) rfl rfl ?aP (fun _ hk=>hk.elim) ?aF ?aO ?aB ?aS ?aL ?_;(case aP=>exact Yb _ _ _ (⟨(Qk l0 B).f0,(Qk l0 B).f1⟩:S62));(case aB=>exact HB.out);(case aF=>exact(fun k_ hk=>Kd.Xc (g:=O) (o:=.cells #[.int .i64 I,.int .i64 L] 62 (0,0)) J.out k_ hk));(case aO=>exact HO_5.out);(case aS=>exact(Qj HB.out));(case aL=>have:=cw.out;omega);intro dt jq ho hb hg hat;rw[← cx.out] at ho;have cz:=Aside0.mk ho;replace J:=Aside0.mk (Q8 (g:=O) (o:=.cells #[.int .i64 I,.int .i64 L] 62 (0,0)) J.out hg (Kd.Xk HO_5.out (fun _ hk=>hk)));replace HB:=Aside0.mk hb;clear HO_5;clear ho hb hg hat))
         go_roundg k1
         case measure=>have:= ξ.out;omega
         case rel=>exact⟨(bs),(false),(wrap64 (B+1)),rfl,rfl,H',⟨by have:= ξ.out;omega⟩,⟨by(with_reducible repeat first|apply Kd.Qm|apply Kd.Ql|apply Kd.Qn);exact cz.out⟩,J,HB⟩
        ·rw[if_neg en] at H
         exact absurd H (by simp)
    ·rw[if_neg c5] at H
     exact absurd H (by simp)
   ·rw[if_neg c4] at H
    have c4b0:decide (B<(l0.length:Int))=false:=decide_eq_false c4
    clear c4
    by_cases gr:U=true
    ·subst gr
     have H1:(some D)=some r:=by rw[if_pos rfl] at H;exact H
     clear H
     have H:=H1
     clear H1
     obtain rfl:=Option.some.inj H
     go_wp2
     go_ret
     exact⟨_,rfl,by(with_reducible repeat first|apply Kd.Qm|apply Kd.Ql|apply Kd.Qn);exact Kd.Qr HO_5.out (fun _ hk=>trivial),HB.out⟩
    ·replace gr:=Bool.eq_false_iff.mpr gr
     subst gr
     have H1:(if D.length<8796093022208 then (some (D ++ [(⟨I,L⟩:S62)])) else (none))=some r:=by rw[if_neg (show ¬ (false=true) by decide)] at H;exact H
     clear H
     have H:=H1
     clear H1
     by_cases d1:D.length<8796093022208
     ·rw[if_pos d1] at H
      have d4:=Aside0.mk d1
      clear d1
      obtain⟨dh,ah⟩:∃ y_:List (S62),y_=(D ++ [(⟨I,L⟩:S62)]):=⟨_,rfl⟩
      replace H:(some dh)=some r:=by first|(rw[ah];with_reducible exact H)|(have δ :=(Option.bind_some _ _).symm.trans H;rw[ah];with_reducible exact δ)|(have δ :=(Option.bind_some _ _).symm.trans H;with_reducible exact δ)|with_reducible exact H|(rw[ah];exact H)|exact H
      have d5:=Aside0.mk ah
      clear ah
      obtain rfl:=Option.some.inj H
      obtain⟨f4,f5,f7,f8⟩:=qD2 J.out
      go_wp2_with (first|((with_reducible refine Zl (b:=.append) (xs:=#[.tmp 51,.tmp 53]) rfl ?_);at_builtin;refine Kd.Z5 k62 (w0:=w) w.heap.size rfl (.tmp 51) (.tmp 53) 25 62 (.agg #[(.int .i64 0),(.int .i64 0)]) 16 rfl Try.underlying25 Yd rfl (by decide) (by omega) u5 D (⟨I,L⟩:S62) [.int .i64 I,.int .i64 L] (fun k_=>k_≠O) (fun _=>False) rfl rfl ?aP (fun _ hk=>hk.elim) ?aF ?aO ?aB ?aS ?aL ?_;(case aP=>exact Yb _ _ _ (⟨I,L⟩:S62));(case aB=>exact HB.out);(case aF=>exact(fun k_ hk=>Kd.Xc (g:=O) (o:=.cells #[.int .i64 I,.int .i64 L] 62 (0,0)) J.out k_ hk));(case aO=>exact HO_5.out);(case aS=>exact(Qj HB.out));(case aL=>have:=d4.out;omega);intro du dv ho hb hg hat;rw[← d5.out] at ho;have d6:=Aside0.mk ho;replace J:=Aside0.mk (Q8 (g:=O) (o:=.cells #[.int .i64 I,.int .i64 L] 62 (0,0)) J.out hg (Kd.Xk HO_5.out (fun _ hk=>hk)));replace HB:=Aside0.mk hb;clear HO_5;clear ho hb hg hat))
      go_ret
      exact⟨_,rfl,by(with_reducible repeat first|apply Kd.Qm|apply Kd.Ql|apply Kd.Qn);exact Kd.Qr d6.out (fun _ hk=>trivial),HB.out⟩
     ·rw[if_neg d1] at H
      exact absurd H (by simp)
end Go.Proofs.Ytjehhhlhalkieaa.C
