/- Texts of this claim, one behind the other: what the law's functions come to, walked (printed by a program, with the words that the print uses), and what that is, in plain Lean. No conditions of their own. -/
import Derived.Test.YtjehhhlhalkieaaQCallGives3
namespace Go.Proofs.Ytjehhhlhalkieaa.C
open Go.RowKit Go.Proofs.YtjehhhlhalkieaaW.PrintWords Go.Proofs.YtjehhhlhalkieaaW.PrintLast Go.Proofs.YtjehhhlhalkieaaW.PrintMore
attribute [local go_sem] Zk Zi Zt Zs Zd Zc Zj Zh
set_option linter.unusedVariables false
set_option linter.unusedSimpArgs false
def newelref19_Inside.f (I:Int) (J:Int) (D:Int) (O:Int):Option (Bool):=if D≥0 then (if D<J then (if O≥0 then (some (decide (O<I))) else (some false)) else (some false)) else (some false)
set_option maxHeartbeats 8000000 in
set_option maxRecDepth 100000 in
theorem newelref19_Inside.calls (I:Int) (J:Int) (D:Int) (O:Int) (r:Bool) (w:World) (h:newelref19_Inside.f I J D O=some r):
  Calls Try.prog 39 #[.agg #[.int .i64 I,.int .i64 J],.agg #[.int .i64 D,.int .i64 O]] w fun e w'=>e = .returned (.bool r)∧Below w.heap.size w w':=by
 have dx:=Try.underlying23
 have be:=Try.underlying62
 have HB:=Aside0.mk (Below.refl w.heap.size w)
 have H:(if D≥0 then (if D<J then (if O≥0 then (some (decide (O<I))) else (some false)) else (some false)) else (some false))=some r:=h
 clear h
 by_cases c3:D≥0
 ·rw[if_pos c3] at H
  have c3b0:decide (0≤D)=true:=decide_eq_true c3
  clear c3
  by_cases c4:D<J
  ·rw[if_pos c4] at H
   have c4b0:decide (D<J)=true:=decide_eq_true c4
   clear c4
   by_cases c5:O≥0
   ·rw[if_pos c5] at H
    have c5b0:decide (0≤O)=true:=decide_eq_true c5
    clear c5
    obtain rfl:=Option.some.inj H
    go_enter Try.func39,Try.ntmps39
    go_wp2_with (first|((with_reducible refine Qt (N:=2) rfl ?_);refine Qp ?hg (N:=2) ?hd (cs:=#[.int .i64 I,.int .i64 J]) (t:=23) ?hr ?_;(case hd=>rfl);(case hg=>rfl);(case hr=>first|(go_simp;done)|(go_simp;rfl));intro B hg w6 hbox hb;have ε :=Aside0.mk (Qv (by repeat(first|(with_reducible first|exact HB.out|apply Qj|apply Qd|apply Qh)|exact HB.out)) hb);have θ :=Aside0.mk (hbox);have ι :=Aside0.mk ((by rw[hg];exact(Qk (by repeat(first|(with_reducible first|exact HB.out|apply Qj|apply Qd|apply Qh)|exact HB.out))):w.heap.size≤B));have κ :=Aside0.mk ((by rw[hg];exact(Qk (by repeat(first|(with_reducible first|exact HB.out|apply Qj|apply Qd|apply Qh)|exact HB.out))):w.heap.size≤B));clear HB;have HB:= ε;have L:= θ;have ζ := ι;have X:= κ;clear ε θ ι κ;clear hb hbox hg)|((with_reducible refine Qt (N:=3) rfl ?_);refine Qp ?hg (N:=3) ?hd (cs:=#[.int .i64 D,.int .i64 O]) (t:=62) ?hr ?_;(case hd=>rfl);(case hg=>rfl);(case hr=>first|(go_simp;done)|(go_simp;rfl));intro U hg w7 hbox hb;have ε :=Aside0.mk (Qn (g:=B) (o:=.cells #[.int .i64 I,.int .i64 J] 23 (0,0)) (by(with_reducible repeat(first|refine Qf ?_ _|refine Qc ?_|refine Qg ?_ _));exact L.out) hb);have θ :=Aside0.mk (Qv (by repeat(first|(with_reducible first|exact HB.out|apply Qj|apply Qd|apply Qh|refine Qe ?_ X.out)|exact HB.out)) hb);have ι :=Aside0.mk (hbox);have κ :=Aside0.mk ((by rw[hg];exact(Qk (by repeat(first|(with_reducible first|exact HB.out|apply Qj|apply Qd|apply Qh|refine Qe ?_ X.out)|exact HB.out))):w.heap.size≤U));have τ :=Aside0.mk ((by rw[hg];exact(Qk (by repeat(first|(with_reducible first|exact HB.out|apply Qj|apply Qd|apply Qh|refine Qe ?_ X.out)|exact HB.out))):w.heap.size≤U));have ψ :=Aside0.mk ((by rw[hg];exact Nat.ne_of_lt (Q5 (g:=B) (o:=.cells #[.int .i64 I,.int .i64 J] 23 (0,0)) (by(with_reducible repeat(first|refine Qf ?_ _|refine Qc ?_|refine Qg ?_ _));exact L.out)):B≠U));have a1:=Aside0.mk ((by rw[hg];exact Nat.ne_of_gt (Q5 (g:=B) (o:=.cells #[.int .i64 I,.int .i64 J] 23 (0,0)) (by(with_reducible repeat(first|refine Qf ?_ _|refine Qc ?_|refine Qg ?_ _));exact L.out)):U≠B));clear L;clear HB;have L:= ε;have HB:= θ;have Y:= ι;have η := κ;have δ := τ;have Z:= ψ;have γ:=a1;clear ε θ ι κ τ ψ a1;clear hb hbox hg;have bn:=γ.out;have bq:=Z.out;have bd:w7.cell? ⟨U,0,none⟩=some (.int .i64 D):=(Qa Y.out 0).trans rfl;have bg:w7.cell? ⟨U,1,none⟩=some (.int .i64 O):=(Qa Y.out 1).trans rfl;have bh:=Qb Y.out 0;have bi:=Qb Y.out 1;have a7:w7.cell? ⟨B,0,none⟩=some (.int .i64 I):=(Qa L.out 0).trans rfl;have ak:w7.cell? ⟨B,1,none⟩=some (.int .i64 J):=(Qa L.out 1).trans rfl;have au:=Qb L.out 0;have bj:=Qb L.out 1))
    go_ret
    exact⟨by first|rfl|(simp[Q1,Q0] <;> rfl)|(simp[*,Q1,Q0] <;> rfl),by repeat(first|(with_reducible first|exact HB.out|apply Qj|apply Qd|apply Qh|refine Qe ?_ X.out|refine Qe ?_ δ.out)|exact HB.out)⟩
   ·rw[if_neg c5] at H
    have c5b0:decide (0≤O)=false:=decide_eq_false c5
    clear c5
    obtain rfl:=Option.some.inj H
    go_enter Try.func39,Try.ntmps39
    go_wp2_with (first|((with_reducible refine Qt (N:=2) rfl ?_);refine Qp ?hg (N:=2) ?hd (cs:=#[.int .i64 I,.int .i64 J]) (t:=23) ?hr ?_;(case hd=>rfl);(case hg=>rfl);(case hr=>first|(go_simp;done)|(go_simp;rfl));intro B hg bw hbox hb;have ε :=Aside0.mk (Qv (by repeat(first|(with_reducible first|exact HB.out|apply Qj|apply Qd|apply Qh)|exact HB.out)) hb);have θ :=Aside0.mk (hbox);have ι :=Aside0.mk ((by rw[hg];exact(Qk (by repeat(first|(with_reducible first|exact HB.out|apply Qj|apply Qd|apply Qh)|exact HB.out))):w.heap.size≤B));have κ :=Aside0.mk ((by rw[hg];exact(Qk (by repeat(first|(with_reducible first|exact HB.out|apply Qj|apply Qd|apply Qh)|exact HB.out))):w.heap.size≤B));clear HB;have HB:= ε;have L:= θ;have ζ := ι;have X:= κ;clear ε θ ι κ;clear hb hbox hg)|((with_reducible refine Qt (N:=3) rfl ?_);refine Qp ?hg (N:=3) ?hd (cs:=#[.int .i64 D,.int .i64 O]) (t:=62) ?hr ?_;(case hd=>rfl);(case hg=>rfl);(case hr=>first|(go_simp;done)|(go_simp;rfl));intro U hg cp hbox hb;have ε :=Aside0.mk (Qn (g:=B) (o:=.cells #[.int .i64 I,.int .i64 J] 23 (0,0)) (by(with_reducible repeat(first|refine Qf ?_ _|refine Qc ?_|refine Qg ?_ _));exact L.out) hb);have θ :=Aside0.mk (Qv (by repeat(first|(with_reducible first|exact HB.out|apply Qj|apply Qd|apply Qh|refine Qe ?_ X.out)|exact HB.out)) hb);have ι :=Aside0.mk (hbox);have κ :=Aside0.mk ((by rw[hg];exact(Qk (by repeat(first|(with_reducible first|exact HB.out|apply Qj|apply Qd|apply Qh|refine Qe ?_ X.out)|exact HB.out))):w.heap.size≤U));have τ :=Aside0.mk ((by rw[hg];exact(Qk (by repeat(first|(with_reducible first|exact HB.out|apply Qj|apply Qd|apply Qh|refine Qe ?_ X.out)|exact HB.out))):w.heap.size≤U));have ψ :=Aside0.mk ((by rw[hg];exact Nat.ne_of_lt (Q5 (g:=B) (o:=.cells #[.int .i64 I,.int .i64 J] 23 (0,0)) (by(with_reducible repeat(first|refine Qf ?_ _|refine Qc ?_|refine Qg ?_ _));exact L.out)):B≠U));have a1:=Aside0.mk ((by rw[hg];exact Nat.ne_of_gt (Q5 (g:=B) (o:=.cells #[.int .i64 I,.int .i64 J] 23 (0,0)) (by(with_reducible repeat(first|refine Qf ?_ _|refine Qc ?_|refine Qg ?_ _));exact L.out)):U≠B));clear L;clear HB;have L:= ε;have HB:= θ;have Y:= ι;have η := κ;have δ := τ;have Z:= ψ;have γ:=a1;clear ε θ ι κ τ ψ a1;clear hb hbox hg;have cb:=γ.out;have cg:=Z.out;have ae:cp.cell? ⟨U,0,none⟩=some (.int .i64 D):=(Qa Y.out 0).trans rfl;have aj:cp.cell? ⟨U,1,none⟩=some (.int .i64 O):=(Qa Y.out 1).trans rfl;have av:=Qb Y.out 0;have ax:=Qb Y.out 1;have cq:cp.cell? ⟨B,0,none⟩=some (.int .i64 I):=(Qa L.out 0).trans rfl;have cr:cp.cell? ⟨B,1,none⟩=some (.int .i64 J):=(Qa L.out 1).trans rfl;have ct:=Qb L.out 0;have cu:=Qb L.out 1))
    go_ret
    exact⟨by first|rfl|(simp[Q1,Q0] <;> rfl)|(simp[*,Q1,Q0] <;> rfl),by repeat(first|(with_reducible first|exact HB.out|apply Qj|apply Qd|apply Qh|refine Qe ?_ X.out|refine Qe ?_ δ.out)|exact HB.out)⟩
  ·rw[if_neg c4] at H
   have c4b0:decide (D<J)=false:=decide_eq_false c4
   clear c4
   obtain rfl:=Option.some.inj H
   go_enter Try.func39,Try.ntmps39
   go_wp2_with (first|((with_reducible refine Qt (N:=2) rfl ?_);refine Qp ?hg (N:=2) ?hd (cs:=#[.int .i64 I,.int .i64 J]) (t:=23) ?hr ?_;(case hd=>rfl);(case hg=>rfl);(case hr=>first|(go_simp;done)|(go_simp;rfl));intro B hg aa hbox hb;have ε :=Aside0.mk (Qv (by repeat(first|(with_reducible first|exact HB.out|apply Qj|apply Qd|apply Qh)|exact HB.out)) hb);have θ :=Aside0.mk (hbox);have ι :=Aside0.mk ((by rw[hg];exact(Qk (by repeat(first|(with_reducible first|exact HB.out|apply Qj|apply Qd|apply Qh)|exact HB.out))):w.heap.size≤B));have κ :=Aside0.mk ((by rw[hg];exact(Qk (by repeat(first|(with_reducible first|exact HB.out|apply Qj|apply Qd|apply Qh)|exact HB.out))):w.heap.size≤B));clear HB;have HB:= ε;have L:= θ;have ζ := ι;have X:= κ;clear ε θ ι κ;clear hb hbox hg)|((with_reducible refine Qt (N:=3) rfl ?_);refine Qp ?hg (N:=3) ?hd (cs:=#[.int .i64 D,.int .i64 O]) (t:=62) ?hr ?_;(case hd=>rfl);(case hg=>rfl);(case hr=>first|(go_simp;done)|(go_simp;rfl));intro U hg cw hbox hb;have ε :=Aside0.mk (Qn (g:=B) (o:=.cells #[.int .i64 I,.int .i64 J] 23 (0,0)) (by(with_reducible repeat(first|refine Qf ?_ _|refine Qc ?_|refine Qg ?_ _));exact L.out) hb);have θ :=Aside0.mk (Qv (by repeat(first|(with_reducible first|exact HB.out|apply Qj|apply Qd|apply Qh|refine Qe ?_ X.out)|exact HB.out)) hb);have ι :=Aside0.mk (hbox);have κ :=Aside0.mk ((by rw[hg];exact(Qk (by repeat(first|(with_reducible first|exact HB.out|apply Qj|apply Qd|apply Qh|refine Qe ?_ X.out)|exact HB.out))):w.heap.size≤U));have τ :=Aside0.mk ((by rw[hg];exact(Qk (by repeat(first|(with_reducible first|exact HB.out|apply Qj|apply Qd|apply Qh|refine Qe ?_ X.out)|exact HB.out))):w.heap.size≤U));have ψ :=Aside0.mk ((by rw[hg];exact Nat.ne_of_lt (Q5 (g:=B) (o:=.cells #[.int .i64 I,.int .i64 J] 23 (0,0)) (by(with_reducible repeat(first|refine Qf ?_ _|refine Qc ?_|refine Qg ?_ _));exact L.out)):B≠U));have a1:=Aside0.mk ((by rw[hg];exact Nat.ne_of_gt (Q5 (g:=B) (o:=.cells #[.int .i64 I,.int .i64 J] 23 (0,0)) (by(with_reducible repeat(first|refine Qf ?_ _|refine Qc ?_|refine Qg ?_ _));exact L.out)):U≠B));clear L;clear HB;have L:= ε;have HB:= θ;have Y:= ι;have η := κ;have δ := τ;have Z:= ψ;have γ:=a1;clear ε θ ι κ τ ψ a1;clear hb hbox hg;have ca:=γ.out;have ce:=Z.out;have b1:cw.cell? ⟨U,0,none⟩=some (.int .i64 D):=(Qa Y.out 0).trans rfl;have b2:cw.cell? ⟨U,1,none⟩=some (.int .i64 O):=(Qa Y.out 1).trans rfl;have b3:=Qb Y.out 0;have b4:=Qb Y.out 1;have b9:cw.cell? ⟨B,0,none⟩=some (.int .i64 I):=(Qa L.out 0).trans rfl;have ba:cw.cell? ⟨B,1,none⟩=some (.int .i64 J):=(Qa L.out 1).trans rfl;have bb:=Qb L.out 0;have bf:=Qb L.out 1))
   go_ret
   exact⟨by first|rfl|(simp[Q1,Q0] <;> rfl)|(simp[*,Q1,Q0] <;> rfl),by repeat(first|(with_reducible first|exact HB.out|apply Qj|apply Qd|apply Qh|refine Qe ?_ X.out|refine Qe ?_ δ.out)|exact HB.out)⟩
 ·rw[if_neg c3] at H
  have c3b0:decide (0≤D)=false:=decide_eq_false c3
  clear c3
  obtain rfl:=Option.some.inj H
  go_enter Try.func39,Try.ntmps39
  go_wp2_with (first|((with_reducible refine Qt (N:=2) rfl ?_);refine Qp ?hg (N:=2) ?hd (cs:=#[.int .i64 I,.int .i64 J]) (t:=23) ?hr ?_;(case hd=>rfl);(case hg=>rfl);(case hr=>first|(go_simp;done)|(go_simp;rfl));intro B hg bl hbox hb;have ε :=Aside0.mk (Qv (by repeat(first|(with_reducible first|exact HB.out|apply Qj|apply Qd|apply Qh)|exact HB.out)) hb);have θ :=Aside0.mk (hbox);have ι :=Aside0.mk ((by rw[hg];exact(Qk (by repeat(first|(with_reducible first|exact HB.out|apply Qj|apply Qd|apply Qh)|exact HB.out))):w.heap.size≤B));have κ :=Aside0.mk ((by rw[hg];exact(Qk (by repeat(first|(with_reducible first|exact HB.out|apply Qj|apply Qd|apply Qh)|exact HB.out))):w.heap.size≤B));clear HB;have HB:= ε;have L:= θ;have ζ := ι;have X:= κ;clear ε θ ι κ;clear hb hbox hg)|((with_reducible refine Qt (N:=3) rfl ?_);refine Qp ?hg (N:=3) ?hd (cs:=#[.int .i64 D,.int .i64 O]) (t:=62) ?hr ?_;(case hd=>rfl);(case hg=>rfl);(case hr=>first|(go_simp;done)|(go_simp;rfl));intro U hg dt hbox hb;have ε :=Aside0.mk (Qn (g:=B) (o:=.cells #[.int .i64 I,.int .i64 J] 23 (0,0)) (by(with_reducible repeat(first|refine Qf ?_ _|refine Qc ?_|refine Qg ?_ _));exact L.out) hb);have θ :=Aside0.mk (Qv (by repeat(first|(with_reducible first|exact HB.out|apply Qj|apply Qd|apply Qh|refine Qe ?_ X.out)|exact HB.out)) hb);have ι :=Aside0.mk (hbox);have κ :=Aside0.mk ((by rw[hg];exact(Qk (by repeat(first|(with_reducible first|exact HB.out|apply Qj|apply Qd|apply Qh|refine Qe ?_ X.out)|exact HB.out))):w.heap.size≤U));have τ :=Aside0.mk ((by rw[hg];exact(Qk (by repeat(first|(with_reducible first|exact HB.out|apply Qj|apply Qd|apply Qh|refine Qe ?_ X.out)|exact HB.out))):w.heap.size≤U));have ψ :=Aside0.mk ((by rw[hg];exact Nat.ne_of_lt (Q5 (g:=B) (o:=.cells #[.int .i64 I,.int .i64 J] 23 (0,0)) (by(with_reducible repeat(first|refine Qf ?_ _|refine Qc ?_|refine Qg ?_ _));exact L.out)):B≠U));have a1:=Aside0.mk ((by rw[hg];exact Nat.ne_of_gt (Q5 (g:=B) (o:=.cells #[.int .i64 I,.int .i64 J] 23 (0,0)) (by(with_reducible repeat(first|refine Qf ?_ _|refine Qc ?_|refine Qg ?_ _));exact L.out)):U≠B));clear L;clear HB;have L:= ε;have HB:= θ;have Y:= ι;have η := κ;have δ := τ;have Z:= ψ;have γ:=a1;clear ε θ ι κ τ ψ a1;clear hb hbox hg;have fv:=γ.out;have fw:=Z.out;have dc:dt.cell? ⟨U,0,none⟩=some (.int .i64 D):=(Qa Y.out 0).trans rfl;have dd:dt.cell? ⟨U,1,none⟩=some (.int .i64 O):=(Qa Y.out 1).trans rfl;have de:=Qb Y.out 0;have df:=Qb Y.out 1))
  go_ret
  exact⟨by first|rfl|(simp[Q1,Q0] <;> rfl)|(simp[*,Q1,Q0] <;> rfl),by repeat(first|(with_reducible first|exact HB.out|apply Qj|apply Qd|apply Qh|refine Qe ?_ X.out|refine Qe ?_ δ.out)|exact HB.out)⟩
end Go.Proofs.Ytjehhhlhalkieaa.C
namespace Go.Proofs.Ytjehhhlhalkieaa.C
open Go.RowKit Go.Proofs.YtjehhhlhalkieaaW.PrintWords Go.Proofs.YtjehhhlhalkieaaW.PrintLast Go.Proofs.YtjehhhlhalkieaaW.PrintMore
attribute [local go_sem] Zk Zi Zt Zs Zd Zc Zj Zh
set_option linter.unusedVariables false
set_option linter.unusedSimpArgs false
def newelref19_before.f (I:Int) (J:Int) (D:Int) (O:Int):Option (Bool):=if I<D then (some true) else (if I=D then (some (decide (J<O))) else (some false))
set_option maxHeartbeats 8000000 in
set_option maxRecDepth 100000 in
theorem newelref19_before.calls (I:Int) (J:Int) (D:Int) (O:Int) (r:Bool) (w:World) (h:newelref19_before.f I J D O=some r):
  Calls Try.prog 40 #[.agg #[.int .i64 I,.int .i64 J],.agg #[.int .i64 D,.int .i64 O]] w fun e w'=>e = .returned (.bool r)∧Below w.heap.size w w':=by
 have be:=Try.underlying62
 have HB:=Aside0.mk (Below.refl w.heap.size w)
 have H:(if I<D then (some true) else (if I=D then (some (decide (J<O))) else (some false)))=some r:=h
 clear h
 by_cases c3:I<D
 ·rw[if_pos c3] at H
  have c3b0:decide (I<D)=true:=decide_eq_true c3
  clear c3
  obtain rfl:=Option.some.inj H
  go_enter Try.func40,Try.ntmps40
  go_wp2_with (first|((with_reducible refine Qt (N:=2) rfl ?_);refine Qp ?hg (N:=2) ?hd (cs:=#[.int .i64 I,.int .i64 J]) (t:=62) ?hr ?_;(case hd=>rfl);(case hg=>rfl);(case hr=>first|(go_simp;done)|(go_simp;rfl));intro B hg w4 hbox hb;have ε :=Aside0.mk (Qv (by repeat(first|(with_reducible first|exact HB.out|apply Qj|apply Qd|apply Qh)|exact HB.out)) hb);have θ :=Aside0.mk (hbox);have ι :=Aside0.mk ((by rw[hg];exact(Qk (by repeat(first|(with_reducible first|exact HB.out|apply Qj|apply Qd|apply Qh)|exact HB.out))):w.heap.size≤B));have κ :=Aside0.mk ((by rw[hg];exact(Qk (by repeat(first|(with_reducible first|exact HB.out|apply Qj|apply Qd|apply Qh)|exact HB.out))):w.heap.size≤B));clear HB;have HB:= ε;have L:= θ;have ζ := ι;have X:= κ;clear ε θ ι κ;clear hb hbox hg)|((with_reducible refine Qt (N:=3) rfl ?_);refine Qp ?hg (N:=3) ?hd (cs:=#[.int .i64 D,.int .i64 O]) (t:=62) ?hr ?_;(case hd=>rfl);(case hg=>rfl);(case hr=>first|(go_simp;done)|(go_simp;rfl));intro U hg w5 hbox hb;have ε :=Aside0.mk (Qn (g:=B) (o:=.cells #[.int .i64 I,.int .i64 J] 62 (0,0)) (by(with_reducible repeat(first|refine Qf ?_ _|refine Qc ?_|refine Qg ?_ _));exact L.out) hb);have θ :=Aside0.mk (Qv (by repeat(first|(with_reducible first|exact HB.out|apply Qj|apply Qd|apply Qh|refine Qe ?_ X.out)|exact HB.out)) hb);have ι :=Aside0.mk (hbox);have κ :=Aside0.mk ((by rw[hg];exact(Qk (by repeat(first|(with_reducible first|exact HB.out|apply Qj|apply Qd|apply Qh|refine Qe ?_ X.out)|exact HB.out))):w.heap.size≤U));have τ :=Aside0.mk ((by rw[hg];exact(Qk (by repeat(first|(with_reducible first|exact HB.out|apply Qj|apply Qd|apply Qh|refine Qe ?_ X.out)|exact HB.out))):w.heap.size≤U));have ψ :=Aside0.mk ((by rw[hg];exact Nat.ne_of_lt (Q5 (g:=B) (o:=.cells #[.int .i64 I,.int .i64 J] 62 (0,0)) (by(with_reducible repeat(first|refine Qf ?_ _|refine Qc ?_|refine Qg ?_ _));exact L.out)):B≠U));have a1:=Aside0.mk ((by rw[hg];exact Nat.ne_of_gt (Q5 (g:=B) (o:=.cells #[.int .i64 I,.int .i64 J] 62 (0,0)) (by(with_reducible repeat(first|refine Qf ?_ _|refine Qc ?_|refine Qg ?_ _));exact L.out)):U≠B));clear L;clear HB;have L:= ε;have HB:= θ;have Y:= ι;have η := κ;have δ := τ;have Z:= ψ;have γ:=a1;clear ε θ ι κ τ ψ a1;clear hb hbox hg;have cm:=Z.out;have cr:=γ.out;have σ:w5.cell? ⟨B,0,none⟩=some (.int .i64 I):=(Qa L.out 0).trans rfl;have φ :w5.cell? ⟨B,1,none⟩=some (.int .i64 J):=(Qa L.out 1).trans rfl;have χ :=Qb L.out 0;have ω :=Qb L.out 1;have am:w5.cell? ⟨U,0,none⟩=some (.int .i64 D):=(Qa Y.out 0).trans rfl;have an:w5.cell? ⟨U,1,none⟩=some (.int .i64 O):=(Qa Y.out 1).trans rfl;have ao:=Qb Y.out 0;have ap:=Qb Y.out 1))
  go_ret
  exact⟨by first|rfl|(simp[Q1,Q0] <;> rfl)|(simp[*,Q1,Q0] <;> rfl),by repeat(first|(with_reducible first|exact HB.out|apply Qj|apply Qd|apply Qh|refine Qe ?_ X.out|refine Qe ?_ δ.out)|exact HB.out)⟩
 ·rw[if_neg c3] at H
  have c3b0:decide (I<D)=false:=decide_eq_false c3
  clear c3
  by_cases c9:I=D
  ·rw[if_pos c9] at H
   have c9b0:(I==D)=true:=beq_iff_eq.mpr c9
   have c9b1:(I != D)=false:=bne_eq_false_iff_eq.mpr c9
   clear c9
   obtain rfl:=Option.some.inj H
   go_enter Try.func40,Try.ntmps40
   go_wp2_with (first|((with_reducible refine Qt (N:=2) rfl ?_);refine Qp ?hg (N:=2) ?hd (cs:=#[.int .i64 I,.int .i64 J]) (t:=62) ?hr ?_;(case hd=>rfl);(case hg=>rfl);(case hr=>first|(go_simp;done)|(go_simp;rfl));intro B hg ci hbox hb;have ε :=Aside0.mk (Qv (by repeat(first|(with_reducible first|exact HB.out|apply Qj|apply Qd|apply Qh)|exact HB.out)) hb);have θ :=Aside0.mk (hbox);have ι :=Aside0.mk ((by rw[hg];exact(Qk (by repeat(first|(with_reducible first|exact HB.out|apply Qj|apply Qd|apply Qh)|exact HB.out))):w.heap.size≤B));have κ :=Aside0.mk ((by rw[hg];exact(Qk (by repeat(first|(with_reducible first|exact HB.out|apply Qj|apply Qd|apply Qh)|exact HB.out))):w.heap.size≤B));clear HB;have HB:= ε;have L:= θ;have ζ := ι;have X:= κ;clear ε θ ι κ;clear hb hbox hg)|((with_reducible refine Qt (N:=3) rfl ?_);refine Qp ?hg (N:=3) ?hd (cs:=#[.int .i64 D,.int .i64 O]) (t:=62) ?hr ?_;(case hd=>rfl);(case hg=>rfl);(case hr=>first|(go_simp;done)|(go_simp;rfl));intro U hg bw hbox hb;have ε :=Aside0.mk (Qn (g:=B) (o:=.cells #[.int .i64 I,.int .i64 J] 62 (0,0)) (by(with_reducible repeat(first|refine Qf ?_ _|refine Qc ?_|refine Qg ?_ _));exact L.out) hb);have θ :=Aside0.mk (Qv (by repeat(first|(with_reducible first|exact HB.out|apply Qj|apply Qd|apply Qh|refine Qe ?_ X.out)|exact HB.out)) hb);have ι :=Aside0.mk (hbox);have κ :=Aside0.mk ((by rw[hg];exact(Qk (by repeat(first|(with_reducible first|exact HB.out|apply Qj|apply Qd|apply Qh|refine Qe ?_ X.out)|exact HB.out))):w.heap.size≤U));have τ :=Aside0.mk ((by rw[hg];exact(Qk (by repeat(first|(with_reducible first|exact HB.out|apply Qj|apply Qd|apply Qh|refine Qe ?_ X.out)|exact HB.out))):w.heap.size≤U));have ψ :=Aside0.mk ((by rw[hg];exact Nat.ne_of_lt (Q5 (g:=B) (o:=.cells #[.int .i64 I,.int .i64 J] 62 (0,0)) (by(with_reducible repeat(first|refine Qf ?_ _|refine Qc ?_|refine Qg ?_ _));exact L.out)):B≠U));have a1:=Aside0.mk ((by rw[hg];exact Nat.ne_of_gt (Q5 (g:=B) (o:=.cells #[.int .i64 I,.int .i64 J] 62 (0,0)) (by(with_reducible repeat(first|refine Qf ?_ _|refine Qc ?_|refine Qg ?_ _));exact L.out)):U≠B));clear L;clear HB;have L:= ε;have HB:= θ;have Y:= ι;have η := κ;have δ := τ;have Z:= ψ;have γ:=a1;clear ε θ ι κ τ ψ a1;clear hb hbox hg;have ea:=Z.out;have eb:=γ.out;have bq:bw.cell? ⟨B,0,none⟩=some (.int .i64 I):=(Qa L.out 0).trans rfl;have br:bw.cell? ⟨B,1,none⟩=some (.int .i64 J):=(Qa L.out 1).trans rfl;have bs:=Qb L.out 0;have ca:=Qb L.out 1;have ae:bw.cell? ⟨U,0,none⟩=some (.int .i64 D):=(Qa Y.out 0).trans rfl;have aj:bw.cell? ⟨U,1,none⟩=some (.int .i64 O):=(Qa Y.out 1).trans rfl;have av:=Qb Y.out 0;have ax:=Qb Y.out 1))
   go_ret
   exact⟨by first|rfl|(simp[Q1,Q0] <;> rfl)|(simp[*,Q1,Q0] <;> rfl),by repeat(first|(with_reducible first|exact HB.out|apply Qj|apply Qd|apply Qh|refine Qe ?_ X.out|refine Qe ?_ δ.out)|exact HB.out)⟩
  ·rw[if_neg c9] at H
   have c9b0:(I==D)=false:=beq_eq_false_iff_ne.mpr c9
   have c9b1:(I != D)=true:=bne_iff_ne.mpr c9
   obtain rfl:=Option.some.inj H
   go_enter Try.func40,Try.ntmps40
   go_wp2_with (first|((with_reducible refine Qt (N:=2) rfl ?_);refine Qp ?hg (N:=2) ?hd (cs:=#[.int .i64 I,.int .i64 J]) (t:=62) ?hr ?_;(case hd=>rfl);(case hg=>rfl);(case hr=>first|(go_simp;done)|(go_simp;rfl));intro B hg cv hbox hb;have ε :=Aside0.mk (Qv (by repeat(first|(with_reducible first|exact HB.out|apply Qj|apply Qd|apply Qh)|exact HB.out)) hb);have θ :=Aside0.mk (hbox);have ι :=Aside0.mk ((by rw[hg];exact(Qk (by repeat(first|(with_reducible first|exact HB.out|apply Qj|apply Qd|apply Qh)|exact HB.out))):w.heap.size≤B));have κ :=Aside0.mk ((by rw[hg];exact(Qk (by repeat(first|(with_reducible first|exact HB.out|apply Qj|apply Qd|apply Qh)|exact HB.out))):w.heap.size≤B));clear HB;have HB:= ε;have L:= θ;have ζ := ι;have X:= κ;clear ε θ ι κ;clear hb hbox hg)|((with_reducible refine Qt (N:=3) rfl ?_);refine Qp ?hg (N:=3) ?hd (cs:=#[.int .i64 D,.int .i64 O]) (t:=62) ?hr ?_;(case hd=>rfl);(case hg=>rfl);(case hr=>first|(go_simp;done)|(go_simp;rfl));intro U hg aa hbox hb;have ε :=Aside0.mk (Qn (g:=B) (o:=.cells #[.int .i64 I,.int .i64 J] 62 (0,0)) (by(with_reducible repeat(first|refine Qf ?_ _|refine Qc ?_|refine Qg ?_ _));exact L.out) hb);have θ :=Aside0.mk (Qv (by repeat(first|(with_reducible first|exact HB.out|apply Qj|apply Qd|apply Qh|refine Qe ?_ X.out)|exact HB.out)) hb);have ι :=Aside0.mk (hbox);have κ :=Aside0.mk ((by rw[hg];exact(Qk (by repeat(first|(with_reducible first|exact HB.out|apply Qj|apply Qd|apply Qh|refine Qe ?_ X.out)|exact HB.out))):w.heap.size≤U));have τ :=Aside0.mk ((by rw[hg];exact(Qk (by repeat(first|(with_reducible first|exact HB.out|apply Qj|apply Qd|apply Qh|refine Qe ?_ X.out)|exact HB.out))):w.heap.size≤U));have ψ :=Aside0.mk ((by rw[hg];exact Nat.ne_of_lt (Q5 (g:=B) (o:=.cells #[.int .i64 I,.int .i64 J] 62 (0,0)) (by(with_reducible repeat(first|refine Qf ?_ _|refine Qc ?_|refine Qg ?_ _));exact L.out)):B≠U));have a1:=Aside0.mk ((by rw[hg];exact Nat.ne_of_gt (Q5 (g:=B) (o:=.cells #[.int .i64 I,.int .i64 J] 62 (0,0)) (by(with_reducible repeat(first|refine Qf ?_ _|refine Qc ?_|refine Qg ?_ _));exact L.out)):U≠B));clear L;clear HB;have L:= ε;have HB:= θ;have Y:= ι;have η := κ;have δ := τ;have Z:= ψ;have γ:=a1;clear ε θ ι κ τ ψ a1;clear hb hbox hg;have dk:=Z.out;have dl:=γ.out;have cb:aa.cell? ⟨B,0,none⟩=some (.int .i64 I):=(Qa L.out 0).trans rfl;have cd:aa.cell? ⟨B,1,none⟩=some (.int .i64 J):=(Qa L.out 1).trans rfl;have ce:=Qb L.out 0;have cf:=Qb L.out 1;have b1:aa.cell? ⟨U,0,none⟩=some (.int .i64 D):=(Qa Y.out 0).trans rfl;have b2:aa.cell? ⟨U,1,none⟩=some (.int .i64 O):=(Qa Y.out 1).trans rfl;have b3:=Qb Y.out 0;have b4:=Qb Y.out 1))
   go_ret
   exact⟨by first|rfl|(simp[Q1,Q0] <;> rfl)|(simp[*,Q1,Q0] <;> rfl),by repeat(first|(with_reducible first|exact HB.out|apply Qj|apply Qd|apply Qh|refine Qe ?_ X.out|refine Qe ?_ δ.out)|exact HB.out)⟩
end Go.Proofs.Ytjehhhlhalkieaa.C
namespace Go.Proofs.Ytjehhhlhalkieaa.C
open Go.RowKit Go.Proofs.YtjehhhlhalkieaaW.PrintWords Go.Proofs.YtjehhhlhalkieaaW.PrintLast Go.Proofs.YtjehhhlhalkieaaW.PrintMore
attribute [local go_sem] Zk Zi Zt Zs Zd Zc Zj Zh
set_option linter.unusedVariables false
set_option linter.unusedSimpArgs false
mutual
def newelref19_May.l0:Nat→Int→Int→Int→List (S56)→List (S62)→Option (Bool)
 |0,_,_,_,_,_=>none
 |k+1,B,L,O,D,J=>if B<(D.length:Int) then (if 0≤B then ((newelref19_Hall.f k L O ((Qi D B).f0) ((Qi D B).f1) ((Qi D B).f2)).bind fun d5=>(if d5=true then (if B>0 then (if 0≤(wrap64 (B-1)) then (if (wrap64 (B-1))<(D.length:Int) then ((newelref19_ahead.f ((Qi D (wrap64 (B-1))).f0) ((Qi D (wrap64 (B-1))).f1) ((Qi D (wrap64 (B-1))).f2) ((Qi D B).f0) ((Qi D B).f1) ((Qi D B).f2)).bind fun bi=>(if bi=true then (newelref19_May.l0 k (wrap64 (B+1)) L O D J) else (some false))) else (none)) else (none)) else (newelref19_May.l0 k (wrap64 (B+1)) L O D J)) else (some false))) else (none)) else (newelref19_May.l1 k 0 L O D J)
def newelref19_May.l1:Nat→Int→Int→Int→List (S56)→List (S62)→Option (Bool)
 |0,_,_,_,_,_=>none
 |k+1,I,L,O,D,J=>if I<(J.length:Int) then (if 0≤I then ((newelref19_Inside.f L O ((Qq J I).f0) ((Qq J I).f1)).bind fun d7=>(if d7=true then (if I>0 then (if 0≤(wrap64 (I-1)) then (if (wrap64 (I-1))<(J.length:Int) then ((newelref19_before.f ((Qq J (wrap64 (I-1))).f0) ((Qq J (wrap64 (I-1))).f1) ((Qq J I).f0) ((Qq J I).f1)).bind fun bj=>(if bj=true then (newelref19_May.l1 k (wrap64 (I+1)) L O D J) else (some false))) else (none)) else (none)) else (newelref19_May.l1 k (wrap64 (I+1)) L O D J)) else (some false))) else (none)) else (some true)
end
def newelref19_May.f (k:Nat) (I:Int) (J:Int) (B:List (S56)) (D:List (S62)):Option (Bool):=(newelref19_House.f I J).bind fun cb=>(if cb=true then (newelref19_May.l0 k 0 I J B D) else (some false))
theorem newelref19_May.Zo:∀ k,(∀ D I O J L,LeO (newelref19_May.l0 k D I O J L) (newelref19_May.l0 (k+1) D I O J L))∧(∀ D I O J L,LeO (newelref19_May.l1 k D I O J L) (newelref19_May.l1 (k+1) D I O J L))
 |0=>⟨fun _ _ _ _ _ r h=>by simp[newelref19_May.l0] at h,fun _ _ _ _ _ r h=>by simp[newelref19_May.l1] at h⟩
 |k+1=>by
  obtain⟨B,U⟩:=newelref19_May.Zo k
  refine⟨?_, ?_⟩
  ·intro D I O J L
   unfold newelref19_May.l0
   repeat' first
   |(with_reducible exact B _ _ _ _ _)
   |(with_reducible exact U _ _ _ _ _)
   |(with_reducible exact newelref19_Hall.mono _ _ _ _ _ _)
   |(with_reducible exact LeO.refl _)
   |(with_reducible exact LeO.none _)
   |(with_reducible refine LeO.ite ?_ ?_)
   |(with_reducible refine LeO.bind ?_ (fun _=>?_))
   |exact B _ _ _ _ _
   |exact U _ _ _ _ _
   |exact newelref19_Hall.mono _ _ _ _ _ _
   |exact LeO.none _
   |refine LeO.ite ?_ ?_
   |refine LeO.bind ?_ (fun _=>?_)
  ·intro D I O J L
   unfold newelref19_May.l1
   repeat' first
   |(with_reducible exact B _ _ _ _ _)
   |(with_reducible exact U _ _ _ _ _)
   |(with_reducible exact newelref19_Hall.mono _ _ _ _ _ _)
   |(with_reducible exact LeO.refl _)
   |(with_reducible exact LeO.none _)
   |(with_reducible refine LeO.ite ?_ ?_)
   |(with_reducible refine LeO.bind ?_ (fun _=>?_))
   |exact B _ _ _ _ _
   |exact U _ _ _ _ _
   |exact newelref19_Hall.mono _ _ _ _ _ _
   |exact LeO.none _
   |refine LeO.ite ?_ ?_
   |refine LeO.bind ?_ (fun _=>?_)
theorem newelref19_May.mono:∀ I D a2 a3 k,LeO (newelref19_May.f k I D a2 a3) (newelref19_May.f (k+1) I D a2 a3):=by
 intro I D a2 a3 k
 obtain⟨B,U⟩:=newelref19_May.Zo k
 unfold newelref19_May.f
 repeat' first
   |(with_reducible exact B _ _ _ _ _)
   |(with_reducible exact U _ _ _ _ _)
   |(with_reducible exact newelref19_Hall.mono _ _ _ _ _ _)
   |(with_reducible exact LeO.refl _)
   |(with_reducible exact LeO.none _)
   |(with_reducible refine LeO.ite ?_ ?_)
   |(with_reducible refine LeO.bind ?_ (fun _=>?_))
   |exact B _ _ _ _ _
   |exact U _ _ _ _ _
   |exact newelref19_Hall.mono _ _ _ _ _ _
   |exact LeO.none _
   |refine LeO.ite ?_ ?_
   |refine LeO.bind ?_ (fun _=>?_)
def newelref19_May.T7:Bool×List (List Nat×List Nat):=(true,[([],[]),([],[]),([1],[1]),([],[]),([2,3],[2,3]),([4],[4]),([0,5],[0,5]),([6,6,0,1,2,3,4,5,6],[6])])
def newelref19_May.B7:List Nat:=[0,0,2,0,14,30,63,127]
theorem newelref19_May.Mq:rtab .any (opsOf Try.f13 7)=newelref19_May.T7:=by kernel_rfl
theorem newelref19_May.Wj:Zx newelref19_May.T7.2 newelref19_May.B7=true:=by kernel_rfl
def newelref19_May.T11:Bool×List (List Nat×List Nat):=(true,[([],[]),([0],[0]),([],[]),([2],[2]),([1,3],[1,3]),([4],[4]),([],[]),([6],[6]),([],[]),([7,8],[7,8]),([9],[9]),([5,10],[5,10]),([11,11,0,1,2,3,4,5,6,7,8,9,10,11],[11])])
def newelref19_May.B11:List Nat:=[0,1,0,4,15,31,0,64,0,448,960,2047,4095]
theorem newelref19_May.Nk:rtab .any (opsOf Try.f13 11)=newelref19_May.T11:=by kernel_rfl
theorem newelref19_May.Mc:Zx newelref19_May.T11.2 newelref19_May.B11=true:=by kernel_rfl
def newelref19_May.T17:Bool×List (List Nat×List Nat):=(true,[([],[]),([],[]),([1],[1]),([],[]),([2,3],[2,3]),([4],[4]),([0,5],[0,5]),([6,6,0,1,2,3,4,5,6],[6])])
def newelref19_May.B17:List Nat:=[0,0,2,0,14,30,63,127]
theorem newelref19_May.Wa:rtab .any (opsOf Try.f13 17)=newelref19_May.T17:=by kernel_rfl
theorem newelref19_May.Vz:Zx newelref19_May.T17.2 newelref19_May.B17=true:=by kernel_rfl
def newelref19_May.T21:Bool×List (List Nat×List Nat):=(true,[([],[]),([0],[0]),([],[]),([2],[2]),([1,3],[1,3]),([4],[4]),([],[]),([6],[6]),([],[]),([7,8],[7,8]),([9],[9]),([5,10],[5,10]),([11,11,0,1,2,3,4,5,6,7,8,9,10,11],[11])])
def newelref19_May.B21:List Nat:=[0,1,0,4,15,31,0,64,0,448,960,2047,4095]
theorem newelref19_May.Nh:rtab .any (opsOf Try.f13 21)=newelref19_May.T21:=by kernel_rfl
theorem newelref19_May.Mb:Zx newelref19_May.T21.2 newelref19_May.B21=true:=by kernel_rfl
set_option maxHeartbeats 8000000 in
set_option maxRecDepth 100000 in
theorem newelref19_May.calls (k:Nat) (I:Int) (J:Int) (Z:Option Addr) (U:Nat) (B:List (S56)) (γ:Option Addr) (X:Nat) (D:List (S62)) (r:Bool) (w:World) (b5:Kd.C k56 w Z B.length B) (b6:B.length≤U) (b7:Kd.C k62 w γ D.length D) (b8:D.length≤X) (h:newelref19_May.f k I J B D=some r):
  Calls Try.prog 13 #[.agg #[.int .i64 I,.int .i64 J],.agg #[.slice Z B.length U,.slice γ D.length X]] w fun e w'=>e = .returned (.bool r)∧Below w.heap.size w w':=by
 have dx:=Try.underlying23
 have db:=Try.underlying27
 have bu:=Try.underlying56
 have be:=Try.underlying62
 have ag:=Aside0.mk b5
 have ar:=Aside0.mk b6
 clear b5 b6
 have ah:=Aside0.mk b7
 have aw:=Aside0.mk b8
 clear b7 b8
 have HB:=Aside0.mk (Below.refl w.heap.size w)
 have H:((newelref19_House.f I J).bind fun cb=>(if cb=true then (newelref19_May.l0 k 0 I J B D) else (some false)))=some r:=h
 clear h
 replace H:=Option.bind_eq_some_iff.mp H
 obtain⟨cb,ai,H⟩:=H
 replace H:(if cb=true then (newelref19_May.l0 k 0 I J B D) else (some false))=some r:=H
 have A3:=Aside0.mk ai
 clear ai
 by_cases c4:cb=true
 ·subst c4
  have H1:(newelref19_May.l0 k 0 I J B D)=some r:=by rw[if_pos rfl] at H;exact H
  clear H
  have H:=H1
  clear H1
  have H':=Aside0.mk H
  clear H
  go_enter Try.func13,Try.ntmps13
  go_wp2_with (first|((with_reducible refine Qt (N:=2) rfl ?_);refine Qp ?hg (N:=2) ?hd (cs:=#[.int .i64 I,.int .i64 J]) (t:=23) ?hr ?_;(case hd=>rfl);(case hg=>rfl);(case hr=>go_simp <;> rfl);intro a2 hg w5 hbox hb;have Y:=Aside0.mk hbox;have e0:=sGe hg;have e3:=sGe hg;replace HB:=sHb hb;clear hb hbox hg)|((with_reducible refine Qt (N:=3) rfl ?_);refine Qp ?hg (N:=3) ?hd (cs:=#[.slice Z B.length U,.slice γ D.length X]) (t:=27) ?hr ?_;(case hd=>rfl);(case hg=>rfl);(case hr=>go_simp <;> rfl);intro ζ hg w6 hbox hb;have O:=Aside0.mk hbox;have e4:=sGe hg;have e6:=sGe hg;have a0:=sNl Y hg;have a1:=sNg Y hg;replace Y:=sBk Y hb;replace HB:=sHb hb;clear hb hbox hg;have dm:=a0.out;have dn:=a1.out;have am:w6.cell? ⟨a2,0,none⟩=some (.int .i64 I):=(Qa Y.out 0).trans rfl;have an:w6.cell? ⟨a2,1,none⟩=some (.int .i64 J):=(Qa Y.out 1).trans rfl;have ao:=Qb Y.out 0;have ap:=Qb Y.out 1)|((with_reducible refine Q2 (f:=37) rfl ?_);refine Zq (some 13) rfl rfl Try.func37 kr rfl #[.agg #[.int .i64 I,.int .i64 J]] rfl (by simp only[List.map_toArray,List.map_cons,List.map_nil] <;> rfl) ?_;(with_reducible refine(newelref19_House.calls I J true _ A3.out).mono ?_);rintro e w9 ⟨rfl,hb⟩;refine⟨_,rfl, ?_⟩;replace Y:=sBk Y hb;replace O:=sBk O hb;replace HB:=sHb hb;(try clear hb);(try clear a4);(try clear hk);(try clear hi)))
  go_loopg [6] k (fun kq v6 w'=>∃ (L:Int),v6 = .int .i64 L∧Aside0 (newelref19_May.l0 kq L I J B D=some r)∧Aside0 (kq≤k)∧Aside0 (w'.heap[a2]?=some (.cells #[.int .i64 I,.int .i64 J] 23 (0,0)))∧Aside0 (w'.heap[ζ]?=some (.cells #[(.slice Z B.length U),(.slice γ D.length X)] 27 (0,0)))∧Aside0 (Below w.heap.size w w'))
  case atStart=>exact⟨(0),rfl,H',⟨Nat.le_refl _⟩,Y,O,HB⟩
  case round=>
   clear H'
   try clear c1
   try clear p2
   try clear c3
   try clear c4
   try clear c7
   try clear am
   try clear an
   try clear ao
   try clear ap
   obtain⟨L,rfl,HA,σ,Y,O,HB⟩:=hrel
   cases gk with
   |zero=>exact absurd HA.out (by simp[newelref19_May.l0])
   |succ k1=>
    have H:=HA.out
    clear HA
    simp only[newelref19_May.l0] at H
    by_cases c10:L<(B.length:Int)
    ·rw[if_pos c10] at H
     have c10b0:decide (L<(B.length:Int))=true:=decide_eq_true c10
     clear c10
     by_cases cg:0≤L
     ·rw[if_pos cg] at H
      have c11b0:decide (0≤L)=true:=decide_eq_true cg
      clear cg
      replace H:=Option.bind_eq_some_iff.mp H
      obtain⟨d5,ci,H⟩:=H
      replace H:(if d5=true then (if L>0 then (if 0≤(wrap64 (L-1)) then (if (wrap64 (L-1))<(B.length:Int) then ((newelref19_ahead.f ((Qi B (wrap64 (L-1))).f0) ((Qi B (wrap64 (L-1))).f1) ((Qi B (wrap64 (L-1))).f2) ((Qi B L).f0) ((Qi B L).f1) ((Qi B L).f2)).bind fun bi=>(if bi=true then (newelref19_May.l0 k1 (wrap64 (L+1)) I J B D) else (some false))) else (none)) else (none)) else (newelref19_May.l0 k1 (wrap64 (L+1)) I J B D)) else (some false))=some r:=H
      have cx:=Aside0.mk ci
      clear ci
      by_cases bc:d5=true
      ·subst bc
       have H1:(if L>0 then (if 0≤(wrap64 (L-1)) then (if (wrap64 (L-1))<(B.length:Int) then ((newelref19_ahead.f ((Qi B (wrap64 (L-1))).f0) ((Qi B (wrap64 (L-1))).f1) ((Qi B (wrap64 (L-1))).f2) ((Qi B L).f0) ((Qi B L).f1) ((Qi B L).f2)).bind fun bi=>(if bi=true then (newelref19_May.l0 k1 (wrap64 (L+1)) I J B D) else (some false))) else (none)) else (none)) else (newelref19_May.l0 k1 (wrap64 (L+1)) I J B D))=some r:=by rw[if_pos rfl] at H;exact H
       clear H
       have H:=H1
       clear H1
       by_cases ay:L>0
       ·rw[if_pos ay] at H
        have c14b0:decide (0<L)=true:=decide_eq_true ay
        clear ay
        obtain⟨κ,a6⟩:∃ j_:Int,(wrap64 (L-1))=j_:=⟨_,rfl⟩
        replace H:(if 0≤(κ) then (if (κ)<(B.length:Int) then ((newelref19_ahead.f ((Qi B (κ)).f0) ((Qi B (κ)).f1) ((Qi B (κ)).f2) ((Qi B L).f0) ((Qi B L).f1) ((Qi B L).f2)).bind fun bi=>(if bi=true then (newelref19_May.l0 k1 (wrap64 (L+1)) I J B D) else (some false))) else (none)) else (none))=some r:=by first|(rw[a6] at H;exact H)|(simp only[a6] at H ⊢;exact H)
        (try rw[a6] at cx)
        have hji15w:(IntKind.i64.wrap (L-1)) = κ :=(X5 _).trans a6
        by_cases a3:0≤(κ)
        ·rw[if_pos a3] at H
         have c16b0:decide (0≤(κ))=true:=decide_eq_true a3
         clear a3
         by_cases au:(κ)<(B.length:Int)
         ·rw[if_pos au] at H
          have c17b0:decide ((κ)<(B.length:Int))=true:=decide_eq_true au
          clear au
          replace H:=Option.bind_eq_some_iff.mp H
          obtain⟨bi,ce,H⟩:=H
          replace H:(if bi=true then (newelref19_May.l0 k1 (wrap64 (L+1)) I J B D) else (some false))=some r:=H
          have dc:=Aside0.mk ce
          clear ce
          by_cases e5:bi=true
          ·subst e5
           have H1:(newelref19_May.l0 k1 (wrap64 (L+1)) I J B D)=some r:=by rw[if_pos rfl] at H;exact H
           clear H
           have H:=H1
           clear H1
           have H':=Aside0.mk H
           clear H
           have ec:=a1.out
           have ed:=a0.out
           have cy:wr.cell? ⟨ζ,0,none⟩=some (.slice Z B.length U):=(Qa O.out 0).trans rfl
           have d6:wr.cell? ⟨ζ,1,none⟩=some (.slice γ D.length X):=(Qa O.out 1).trans rfl
           have di:=Qb O.out 0
           have dj:=Qb O.out 1
           try go_wp2
           replace Y:=Aside0.mk (Qc Y.out)
           replace O:=Aside0.mk (Qc O.out)
           replace HB:=Aside0.mk (Qh HB.out)
           have ba:0≤(L:Int):=of_decide_eq_true (by assumption)
           have bb:L<(B.length:Int):=of_decide_eq_true (by assumption)
           obtain⟨ε,br,θ,ι,μ⟩:=Z5 ag.out L ba bb
           have ρ:= μ
           have τ := ι
           have φ := θ
           cases br
           replace θ :=(HB.out.cell (World.block_lt_of_cell? w _ θ)).trans θ
           replace ι :=(HB.out.cell (World.block_lt_of_cell? w _ ι)).trans ι
           replace μ :=(HB.out.cell (World.block_lt_of_cell? w _ μ)).trans μ
           replace ba:=eq_true ba
           replace bb:=eq_true bb
           refine Zv (n:=8) (S:=fun w'=>w'.cell? ⟨a2,0,none⟩=some (.int .i64 I)∧w'.cell? ⟨a2,1,none⟩=some (.int .i64 J)∧w'.cell? ⟨ζ,0,none⟩=some (.slice (some ε) B.length U)∧w'.cell? ⟨ζ,1,none⟩=some (.slice γ D.length X)∧w'.cell? (ε.add ((L).toNat * 3))=some (.int .i64 ((Qi B L).f0))∧w'.cell? ⟨(ε.add ((L).toNat * 3)).block,(ε.add ((L).toNat * 3)).off+1,none⟩=some (.int .i64 ((Qi B L).f1))∧w'.cell? ⟨(ε.add ((L).toNat * 3)).block,(ε.add ((L).toNat * 3)).off+2,none⟩=some (.int .i64 ((Qi B L).f2))) (ds:=[]) #[false,false,false,false,false,false,false,false] kr rfl rfl ⟨(Qa Y.out 0).trans rfl,(Qa Y.out 1).trans rfl,(Qa O.out 0).trans rfl,(Qa O.out 1).trans rfl,((HB.out.cell (World.block_lt_of_cell? w _ φ)).trans φ),((HB.out.cell (World.block_lt_of_cell? w _ τ)).trans τ),((HB.out.cell (World.block_lt_of_cell? w _ ρ)).trans ρ)⟩ (fun hHeld=>?_);refine Q8 newelref19_May.Mq newelref19_May.Wj (fun HT_ HW_=>?_)
           generalize wr.drew=dt at Y O HB θ ι μ hHeld ⊢
           refine qP 1 (some 24) (bN 8 2) HT_ ?_
           refine qP 3 (some 26) (bN 8 10) HT_ ?_
           refine qT 0 (some 23) (bN 8 11) HT_ HW_ hHeld ?_
           refine qT 2 (some 25) (bN 8 15) HT_ HW_ hHeld ?_
           refine qP 4 (some 27) (bN 8 31) HT_ ?_
           refine qT 5 (some 28) (bN 8 63) HT_ HW_ hHeld ?_
           refine Zm (i:=6) (N:=some 29) (bN 8 127) rfl rfl (Q3 HT_.out kr) (by decide) (fun K hK=>?_)
           refine Zg Try.func25 kr rfl #[.agg #[.int .i64 I,.int .i64 J],.agg #[.int .i64 ((Qi B L).f0),.int .i64 ((Qi B L).f1),.int .i64 ((Qi B L).f2)]] (by rfl) rfl rfl (by simp only[List.map_toArray,List.map_cons,List.map_nil] <;> rfl) ?_
           with_reducible refine(newelref19_Hall.calls k1 I J ((Qi B L).f0) ((Qi B L).f1) ((Qi B L).f2) true _ cx.out).mono ?_
           rintro e cd ⟨rfl,hb⟩
           refine⟨_,rfl, ?_⟩
           replace Y:=sBk Y hb
           replace O:=sBk O hb
           replace HB:=sHb hb
           (try clear hb)
           (try clear a4)
           (try clear hk)
           (try clear hi)
           refine hK.out _ _ ⟨(Qa Y.out 0).trans rfl,(Qa Y.out 1).trans rfl,(Qa O.out 0).trans rfl,(Qa O.out 1).trans rfl,((HB.out.cell (World.block_lt_of_cell? w _ φ)).trans φ),((HB.out.cell (World.block_lt_of_cell? w _ τ)).trans τ),((HB.out.cell (World.block_lt_of_cell? w _ ρ)).trans ρ)⟩ (fun hHeld=>?_)
           clear hK K
           refine qN (some 29) ?_
           refine qP 7 (some 7) (bN 8 255) HT_ ?_
           refine Z0 (Zp HT_.out kr) ?_
           try go_wp2
           replace Y:=Aside0.mk (Qc Y.out)
           replace O:=Aside0.mk (Qc O.out)
           replace HB:=Aside0.mk (Qh HB.out)
           have bl:0≤((κ):Int):=of_decide_eq_true (by assumption)
           have bn:(κ)<(B.length:Int):=of_decide_eq_true (by assumption)
           obtain⟨d8,dp,a5,a7,a8⟩:=Z5 ag.out (κ) bl bn
           have al:=a8
           have av:=a7
           have ax:=a5
           obtain rfl: ε = d8:=(by injection dp)
           replace a5:=(HB.out.cell (World.block_lt_of_cell? w _ a5)).trans a5
           replace a7:=(HB.out.cell (World.block_lt_of_cell? w _ a7)).trans a7
           replace a8:=(HB.out.cell (World.block_lt_of_cell? w _ a8)).trans a8
           replace bl:=eq_true bl
           replace bn:=eq_true bn
           have bo:0≤(L:Int):=of_decide_eq_true (by assumption)
           have bq:L<(B.length:Int):=of_decide_eq_true (by assumption)
           obtain⟨de,dq,a9,aa,ab⟩:=Z5 ag.out L bo bq
           have az:=ab
           have b0:=aa
           have b1:=a9
           obtain rfl: ε = de:=(by injection dq)
           replace a9:=(HB.out.cell (World.block_lt_of_cell? w _ a9)).trans a9
           replace aa:=(HB.out.cell (World.block_lt_of_cell? w _ aa)).trans aa
           replace ab:=(HB.out.cell (World.block_lt_of_cell? w _ ab)).trans ab
           replace bo:=eq_true bo
           replace bq:=eq_true bq
           refine Zv (n:=13) (S:=fun w'=>w'.cell? ⟨ζ,0,none⟩=some (.slice (some ε) B.length U)∧w'.cell? ⟨ζ,1,none⟩=some (.slice γ D.length X)∧w'.cell? (ε.add (((κ)).toNat * 3))=some (.int .i64 ((Qi B (κ)).f0))∧w'.cell? ⟨(ε.add (((κ)).toNat * 3)).block,(ε.add (((κ)).toNat * 3)).off+1,none⟩=some (.int .i64 ((Qi B (κ)).f1))∧w'.cell? ⟨(ε.add (((κ)).toNat * 3)).block,(ε.add (((κ)).toNat * 3)).off+2,none⟩=some (.int .i64 ((Qi B (κ)).f2))∧w'.cell? (ε.add ((L).toNat * 3))=some (.int .i64 ((Qi B L).f0))∧w'.cell? ⟨(ε.add ((L).toNat * 3)).block,(ε.add ((L).toNat * 3)).off+1,none⟩=some (.int .i64 ((Qi B L).f1))∧w'.cell? ⟨(ε.add ((L).toNat * 3)).block,(ε.add ((L).toNat * 3)).off+2,none⟩=some (.int .i64 ((Qi B L).f2))) (ds:=[]) #[false,false,false,false,false,false,false,false,false,false,false,false,false] kr rfl rfl ⟨(Qa O.out 0).trans rfl,(Qa O.out 1).trans rfl,((HB.out.cell (World.block_lt_of_cell? w _ ax)).trans ax),((HB.out.cell (World.block_lt_of_cell? w _ av)).trans av),((HB.out.cell (World.block_lt_of_cell? w _ al)).trans al),((HB.out.cell (World.block_lt_of_cell? w _ b1)).trans b1),((HB.out.cell (World.block_lt_of_cell? w _ b0)).trans b0),((HB.out.cell (World.block_lt_of_cell? w _ az)).trans az)⟩ (fun hHeld=>?_);refine Q8 newelref19_May.Nk newelref19_May.Mc (fun HT_ HW_=>?_)
           generalize cd.drew=bm at Y O HB a5 a7 a8 a9 aa ab hHeld ⊢
           refine qP 0 (some 34) (bN 13 1) HT_ ?_
           refine qP 2 (some 36) (bN 13 5) HT_ ?_
           refine qP 3 (some 37) (bN 13 13) HT_ ?_
           refine qP 6 (some 40) (bN 13 77) HT_ ?_
           refine qP 8 (some 42) (bN 13 333) HT_ ?_
           refine qT 1 (some 35) (bN 13 335) HT_ HW_ hHeld ?_
           refine qP 4 (some 38) (bN 13 351) HT_ ?_
           refine qT 5 (some 39) (bN 13 383) HT_ HW_ hHeld ?_
           refine qT 7 (some 41) (bN 13 511) HT_ HW_ hHeld ?_
           refine qP 9 (some 43) (bN 13 1023) HT_ ?_
           refine qT 10 (some 44) (bN 13 2047) HT_ HW_ hHeld ?_
           refine Zm (i:=11) (N:=some 45) (bN 13 4095) rfl rfl (Q3 HT_.out kr) (by decide) (fun K hK=>?_)
           refine Zg Try.func38 kr rfl #[.agg #[.int .i64 ((Qi B (κ)).f0),.int .i64 ((Qi B (κ)).f1),.int .i64 ((Qi B (κ)).f2)],.agg #[.int .i64 ((Qi B L).f0),.int .i64 ((Qi B L).f1),.int .i64 ((Qi B L).f2)]] (by rfl) rfl rfl (by(try simp only[List.map_toArray,List.map_cons,List.map_nil]);first|done|(simp only[a6];rfl)|rfl|(simp only[List.length_drop,List.length_take];rfl)) ?_
           with_reducible refine(newelref19_ahead.calls ((Qi B (κ)).f0) ((Qi B (κ)).f1) ((Qi B (κ)).f2) ((Qi B L).f0) ((Qi B L).f1) ((Qi B L).f2) true _ dc.out).mono ?_
           rintro e cj ⟨rfl,hb⟩
           refine⟨_,rfl, ?_⟩
           replace Y:=sBk Y hb
           replace O:=sBk O hb
           replace HB:=sHb hb
           (try clear hb)
           (try clear a4)
           (try clear hk)
           (try clear hi)
           refine hK.out _ _ ⟨(Qa O.out 0).trans rfl,(Qa O.out 1).trans rfl,((HB.out.cell (World.block_lt_of_cell? w _ ax)).trans ax),((HB.out.cell (World.block_lt_of_cell? w _ av)).trans av),((HB.out.cell (World.block_lt_of_cell? w _ al)).trans al),((HB.out.cell (World.block_lt_of_cell? w _ b1)).trans b1),((HB.out.cell (World.block_lt_of_cell? w _ b0)).trans b0),((HB.out.cell (World.block_lt_of_cell? w _ az)).trans az)⟩ (fun hHeld=>?_)
           clear hK K
           refine qN (some 45) ?_
           refine qP 12 (some 8) (bN 13 8191) HT_ ?_
           refine Z0 (Zp HT_.out kr) ?_
           try go_wp2
           go_roundg k1
           case measure=>have:=σ.out;omega
           case rel=>exact⟨(wrap64 (L+1)),rfl,H',⟨by have:=σ.out;omega⟩,Y,O,HB⟩
          ·replace e5:=Bool.eq_false_iff.mpr e5
           subst e5
           have H1:(some false)=some r:=by rw[if_neg (show ¬ (false=true) by decide)] at H;exact H
           clear H
           have H:=H1
           clear H1
           obtain rfl:=Option.some.inj H
           have e7:=a1.out
           have e8:=a0.out
           have cz:wr.cell? ⟨ζ,0,none⟩=some (.slice Z B.length U):=(Qa O.out 0).trans rfl
           have d0:wr.cell? ⟨ζ,1,none⟩=some (.slice γ D.length X):=(Qa O.out 1).trans rfl
           have d1:=Qb O.out 0
           have d2:=Qb O.out 1
           try go_wp2
           replace Y:=Aside0.mk (Qc Y.out)
           replace O:=Aside0.mk (Qc O.out)
           replace HB:=Aside0.mk (Qh HB.out)
           have ba:0≤(L:Int):=of_decide_eq_true (by assumption)
           have bb:L<(B.length:Int):=of_decide_eq_true (by assumption)
           obtain⟨ε,br,θ,ι,μ⟩:=Z5 ag.out L ba bb
           have ρ:= μ
           have τ := ι
           have φ := θ
           cases br
           replace θ :=(HB.out.cell (World.block_lt_of_cell? w _ θ)).trans θ
           replace ι :=(HB.out.cell (World.block_lt_of_cell? w _ ι)).trans ι
           replace μ :=(HB.out.cell (World.block_lt_of_cell? w _ μ)).trans μ
           replace ba:=eq_true ba
           replace bb:=eq_true bb
           refine Zv (n:=8) (S:=fun w'=>w'.cell? ⟨a2,0,none⟩=some (.int .i64 I)∧w'.cell? ⟨a2,1,none⟩=some (.int .i64 J)∧w'.cell? ⟨ζ,0,none⟩=some (.slice (some ε) B.length U)∧w'.cell? ⟨ζ,1,none⟩=some (.slice γ D.length X)∧w'.cell? (ε.add ((L).toNat * 3))=some (.int .i64 ((Qi B L).f0))∧w'.cell? ⟨(ε.add ((L).toNat * 3)).block,(ε.add ((L).toNat * 3)).off+1,none⟩=some (.int .i64 ((Qi B L).f1))∧w'.cell? ⟨(ε.add ((L).toNat * 3)).block,(ε.add ((L).toNat * 3)).off+2,none⟩=some (.int .i64 ((Qi B L).f2))) (ds:=[]) #[false,false,false,false,false,false,false,false] kr rfl rfl ⟨(Qa Y.out 0).trans rfl,(Qa Y.out 1).trans rfl,(Qa O.out 0).trans rfl,(Qa O.out 1).trans rfl,((HB.out.cell (World.block_lt_of_cell? w _ φ)).trans φ),((HB.out.cell (World.block_lt_of_cell? w _ τ)).trans τ),((HB.out.cell (World.block_lt_of_cell? w _ ρ)).trans ρ)⟩ (fun hHeld=>?_);refine Q8 newelref19_May.Mq newelref19_May.Wj (fun HT_ HW_=>?_)
           generalize wr.drew=gl at Y O HB θ ι μ hHeld ⊢
           refine qP 1 (some 24) (bN 8 2) HT_ ?_
           refine qP 3 (some 26) (bN 8 10) HT_ ?_
           refine qT 0 (some 23) (bN 8 11) HT_ HW_ hHeld ?_
           refine qT 2 (some 25) (bN 8 15) HT_ HW_ hHeld ?_
           refine qP 4 (some 27) (bN 8 31) HT_ ?_
           refine qT 5 (some 28) (bN 8 63) HT_ HW_ hHeld ?_
           refine Zm (i:=6) (N:=some 29) (bN 8 127) rfl rfl (Q3 HT_.out kr) (by decide) (fun K hK=>?_)
           refine Zg Try.func25 kr rfl #[.agg #[.int .i64 I,.int .i64 J],.agg #[.int .i64 ((Qi B L).f0),.int .i64 ((Qi B L).f1),.int .i64 ((Qi B L).f2)]] (by rfl) rfl rfl (by simp only[List.map_toArray,List.map_cons,List.map_nil] <;> rfl) ?_
           with_reducible refine(newelref19_Hall.calls k1 I J ((Qi B L).f0) ((Qi B L).f1) ((Qi B L).f2) true _ cx.out).mono ?_
           rintro e gm ⟨rfl,hb⟩
           refine⟨_,rfl, ?_⟩
           replace Y:=sBk Y hb
           replace O:=sBk O hb
           replace HB:=sHb hb
           (try clear hb)
           (try clear a4)
           (try clear hk)
           (try clear hi)
           refine hK.out _ _ ⟨(Qa Y.out 0).trans rfl,(Qa Y.out 1).trans rfl,(Qa O.out 0).trans rfl,(Qa O.out 1).trans rfl,((HB.out.cell (World.block_lt_of_cell? w _ φ)).trans φ),((HB.out.cell (World.block_lt_of_cell? w _ τ)).trans τ),((HB.out.cell (World.block_lt_of_cell? w _ ρ)).trans ρ)⟩ (fun hHeld=>?_)
           clear hK K
           refine qN (some 29) ?_
           refine qP 7 (some 7) (bN 8 255) HT_ ?_
           refine Z0 (Zp HT_.out kr) ?_
           try go_wp2
           replace Y:=Aside0.mk (Qc Y.out)
           replace O:=Aside0.mk (Qc O.out)
           replace HB:=Aside0.mk (Qh HB.out)
           have bl:0≤((κ):Int):=of_decide_eq_true (by assumption)
           have bn:(κ)<(B.length:Int):=of_decide_eq_true (by assumption)
           obtain⟨d8,dp,a5,a7,a8⟩:=Z5 ag.out (κ) bl bn
           have al:=a8
           have av:=a7
           have ax:=a5
           obtain rfl: ε = d8:=(by injection dp)
           replace a5:=(HB.out.cell (World.block_lt_of_cell? w _ a5)).trans a5
           replace a7:=(HB.out.cell (World.block_lt_of_cell? w _ a7)).trans a7
           replace a8:=(HB.out.cell (World.block_lt_of_cell? w _ a8)).trans a8
           replace bl:=eq_true bl
           replace bn:=eq_true bn
           have bo:0≤(L:Int):=of_decide_eq_true (by assumption)
           have bq:L<(B.length:Int):=of_decide_eq_true (by assumption)
           obtain⟨de,dq,a9,aa,ab⟩:=Z5 ag.out L bo bq
           have az:=ab
           have b0:=aa
           have b1:=a9
           obtain rfl: ε = de:=(by injection dq)
           replace a9:=(HB.out.cell (World.block_lt_of_cell? w _ a9)).trans a9
           replace aa:=(HB.out.cell (World.block_lt_of_cell? w _ aa)).trans aa
           replace ab:=(HB.out.cell (World.block_lt_of_cell? w _ ab)).trans ab
           replace bo:=eq_true bo
           replace bq:=eq_true bq
           refine Zv (n:=13) (S:=fun w'=>w'.cell? ⟨ζ,0,none⟩=some (.slice (some ε) B.length U)∧w'.cell? ⟨ζ,1,none⟩=some (.slice γ D.length X)∧w'.cell? (ε.add (((κ)).toNat * 3))=some (.int .i64 ((Qi B (κ)).f0))∧w'.cell? ⟨(ε.add (((κ)).toNat * 3)).block,(ε.add (((κ)).toNat * 3)).off+1,none⟩=some (.int .i64 ((Qi B (κ)).f1))∧w'.cell? ⟨(ε.add (((κ)).toNat * 3)).block,(ε.add (((κ)).toNat * 3)).off+2,none⟩=some (.int .i64 ((Qi B (κ)).f2))∧w'.cell? (ε.add ((L).toNat * 3))=some (.int .i64 ((Qi B L).f0))∧w'.cell? ⟨(ε.add ((L).toNat * 3)).block,(ε.add ((L).toNat * 3)).off+1,none⟩=some (.int .i64 ((Qi B L).f1))∧w'.cell? ⟨(ε.add ((L).toNat * 3)).block,(ε.add ((L).toNat * 3)).off+2,none⟩=some (.int .i64 ((Qi B L).f2))) (ds:=[]) #[false,false,false,false,false,false,false,false,false,false,false,false,false] kr rfl rfl ⟨(Qa O.out 0).trans rfl,(Qa O.out 1).trans rfl,((HB.out.cell (World.block_lt_of_cell? w _ ax)).trans ax),((HB.out.cell (World.block_lt_of_cell? w _ av)).trans av),((HB.out.cell (World.block_lt_of_cell? w _ al)).trans al),((HB.out.cell (World.block_lt_of_cell? w _ b1)).trans b1),((HB.out.cell (World.block_lt_of_cell? w _ b0)).trans b0),((HB.out.cell (World.block_lt_of_cell? w _ az)).trans az)⟩ (fun hHeld=>?_);refine Q8 newelref19_May.Nk newelref19_May.Mc (fun HT_ HW_=>?_)
           generalize gm.drew=cm at Y O HB a5 a7 a8 a9 aa ab hHeld ⊢
           refine qP 0 (some 34) (bN 13 1) HT_ ?_
           refine qP 2 (some 36) (bN 13 5) HT_ ?_
           refine qP 3 (some 37) (bN 13 13) HT_ ?_
           refine qP 6 (some 40) (bN 13 77) HT_ ?_
           refine qP 8 (some 42) (bN 13 333) HT_ ?_
           refine qT 1 (some 35) (bN 13 335) HT_ HW_ hHeld ?_
           refine qP 4 (some 38) (bN 13 351) HT_ ?_
           refine qT 5 (some 39) (bN 13 383) HT_ HW_ hHeld ?_
           refine qT 7 (some 41) (bN 13 511) HT_ HW_ hHeld ?_
           refine qP 9 (some 43) (bN 13 1023) HT_ ?_
           refine qT 10 (some 44) (bN 13 2047) HT_ HW_ hHeld ?_
           refine Zm (i:=11) (N:=some 45) (bN 13 4095) rfl rfl (Q3 HT_.out kr) (by decide) (fun K hK=>?_)
           refine Zg Try.func38 kr rfl #[.agg #[.int .i64 ((Qi B (κ)).f0),.int .i64 ((Qi B (κ)).f1),.int .i64 ((Qi B (κ)).f2)],.agg #[.int .i64 ((Qi B L).f0),.int .i64 ((Qi B L).f1),.int .i64 ((Qi B L).f2)]] (by rfl) rfl rfl (by(try simp only[List.map_toArray,List.map_cons,List.map_nil]);first|done|(simp only[a6];rfl)|rfl|(simp only[List.length_drop,List.length_take];rfl)) ?_
           with_reducible refine(newelref19_ahead.calls ((Qi B (κ)).f0) ((Qi B (κ)).f1) ((Qi B (κ)).f2) ((Qi B L).f0) ((Qi B L).f1) ((Qi B L).f2) false _ dc.out).mono ?_
           rintro e jb ⟨rfl,hb⟩
           refine⟨_,rfl, ?_⟩
           replace Y:=sBk Y hb
           replace O:=sBk O hb
           replace HB:=sHb hb
           (try clear hb)
           (try clear a4)
           (try clear hk)
           (try clear hi)
           refine hK.out _ _ ⟨(Qa O.out 0).trans rfl,(Qa O.out 1).trans rfl,((HB.out.cell (World.block_lt_of_cell? w _ ax)).trans ax),((HB.out.cell (World.block_lt_of_cell? w _ av)).trans av),((HB.out.cell (World.block_lt_of_cell? w _ al)).trans al),((HB.out.cell (World.block_lt_of_cell? w _ b1)).trans b1),((HB.out.cell (World.block_lt_of_cell? w _ b0)).trans b0),((HB.out.cell (World.block_lt_of_cell? w _ az)).trans az)⟩ (fun hHeld=>?_)
           clear hK K
           refine qN (some 45) ?_
           refine qP 12 (some 8) (bN 13 8191) HT_ ?_
           refine Z0 (Zp HT_.out kr) ?_
           try go_wp2
           go_ret
           exact⟨by first|rfl|(simp[Q1,Q0] <;> rfl)|(simp only[← a6];first|rfl|(simp[Q1,Q0] <;> rfl))|(simp[*,Q1,Q0] <;> rfl),HB.out⟩
         ·rw[if_neg au] at H
          exact absurd H (by simp)
        ·rw[if_neg a3] at H
         exact absurd H (by simp)
       ·rw[if_neg ay] at H
        have c14b0:decide (0<L)=false:=decide_eq_false ay
        clear ay
        have H':=Aside0.mk H
        clear H
        have fg:=a1.out
        have fh:=a0.out
        have ck:wr.cell? ⟨ζ,0,none⟩=some (.slice Z B.length U):=(Qa O.out 0).trans rfl
        have cq:wr.cell? ⟨ζ,1,none⟩=some (.slice γ D.length X):=(Qa O.out 1).trans rfl
        have cv:=Qb O.out 0
        have df:=Qb O.out 1
        try go_wp2
        replace Y:=Aside0.mk (Qc Y.out)
        replace O:=Aside0.mk (Qc O.out)
        replace HB:=Aside0.mk (Qh HB.out)
        have ba:0≤(L:Int):=of_decide_eq_true (by assumption)
        have bb:L<(B.length:Int):=of_decide_eq_true (by assumption)
        obtain⟨ε,br,θ,ι,μ⟩:=Z5 ag.out L ba bb
        have ρ:= μ
        have τ := ι
        have φ := θ
        cases br
        replace θ :=(HB.out.cell (World.block_lt_of_cell? w _ θ)).trans θ
        replace ι :=(HB.out.cell (World.block_lt_of_cell? w _ ι)).trans ι
        replace μ :=(HB.out.cell (World.block_lt_of_cell? w _ μ)).trans μ
        replace ba:=eq_true ba
        replace bb:=eq_true bb
        refine Zv (n:=8) (S:=fun w'=>w'.cell? ⟨a2,0,none⟩=some (.int .i64 I)∧w'.cell? ⟨a2,1,none⟩=some (.int .i64 J)∧w'.cell? ⟨ζ,0,none⟩=some (.slice (some ε) B.length U)∧w'.cell? ⟨ζ,1,none⟩=some (.slice γ D.length X)∧w'.cell? (ε.add ((L).toNat * 3))=some (.int .i64 ((Qi B L).f0))∧w'.cell? ⟨(ε.add ((L).toNat * 3)).block,(ε.add ((L).toNat * 3)).off+1,none⟩=some (.int .i64 ((Qi B L).f1))∧w'.cell? ⟨(ε.add ((L).toNat * 3)).block,(ε.add ((L).toNat * 3)).off+2,none⟩=some (.int .i64 ((Qi B L).f2))) (ds:=[]) #[false,false,false,false,false,false,false,false] kr rfl rfl ⟨(Qa Y.out 0).trans rfl,(Qa Y.out 1).trans rfl,(Qa O.out 0).trans rfl,(Qa O.out 1).trans rfl,((HB.out.cell (World.block_lt_of_cell? w _ φ)).trans φ),((HB.out.cell (World.block_lt_of_cell? w _ τ)).trans τ),((HB.out.cell (World.block_lt_of_cell? w _ ρ)).trans ρ)⟩ (fun hHeld=>?_);refine Q8 newelref19_May.Mq newelref19_May.Wj (fun HT_ HW_=>?_)
        generalize wr.drew=ch at Y O HB θ ι μ hHeld ⊢
        refine qP 1 (some 24) (bN 8 2) HT_ ?_
        refine qP 3 (some 26) (bN 8 10) HT_ ?_
        refine qT 0 (some 23) (bN 8 11) HT_ HW_ hHeld ?_
        refine qT 2 (some 25) (bN 8 15) HT_ HW_ hHeld ?_
        refine qP 4 (some 27) (bN 8 31) HT_ ?_
        refine qT 5 (some 28) (bN 8 63) HT_ HW_ hHeld ?_
        refine Zm (i:=6) (N:=some 29) (bN 8 127) rfl rfl (Q3 HT_.out kr) (by decide) (fun K hK=>?_)
        refine Zg Try.func25 kr rfl #[.agg #[.int .i64 I,.int .i64 J],.agg #[.int .i64 ((Qi B L).f0),.int .i64 ((Qi B L).f1),.int .i64 ((Qi B L).f2)]] (by rfl) rfl rfl (by simp only[List.map_toArray,List.map_cons,List.map_nil] <;> rfl) ?_
        with_reducible refine(newelref19_Hall.calls k1 I J ((Qi B L).f0) ((Qi B L).f1) ((Qi B L).f2) true _ cx.out).mono ?_
        rintro e ei ⟨rfl,hb⟩
        refine⟨_,rfl, ?_⟩
        replace Y:=sBk Y hb
        replace O:=sBk O hb
        replace HB:=sHb hb
        (try clear hb)
        (try clear a4)
        (try clear hk)
        (try clear hi)
        refine hK.out _ _ ⟨(Qa Y.out 0).trans rfl,(Qa Y.out 1).trans rfl,(Qa O.out 0).trans rfl,(Qa O.out 1).trans rfl,((HB.out.cell (World.block_lt_of_cell? w _ φ)).trans φ),((HB.out.cell (World.block_lt_of_cell? w _ τ)).trans τ),((HB.out.cell (World.block_lt_of_cell? w _ ρ)).trans ρ)⟩ (fun hHeld=>?_)
        clear hK K
        refine qN (some 29) ?_
        refine qP 7 (some 7) (bN 8 255) HT_ ?_
        refine Z0 (Zp HT_.out kr) ?_
        try go_wp2
        go_roundg k1
        case measure=>have:=σ.out;omega
        case rel=>exact⟨(wrap64 (L+1)),rfl,H',⟨by have:=σ.out;omega⟩,Y,O,HB⟩
      ·replace bc:=Bool.eq_false_iff.mpr bc
       subst bc
       have H1:(some false)=some r:=by rw[if_neg (show ¬ (false=true) by decide)] at H;exact H
       clear H
       have H:=H1
       clear H1
       obtain rfl:=Option.some.inj H
       have er:=a1.out
       have et:=a0.out
       have cr:wr.cell? ⟨ζ,0,none⟩=some (.slice Z B.length U):=(Qa O.out 0).trans rfl
       have ct:wr.cell? ⟨ζ,1,none⟩=some (.slice γ D.length X):=(Qa O.out 1).trans rfl
       have cu:=Qb O.out 0
       have d4:=Qb O.out 1
       try go_wp2
       replace Y:=Aside0.mk (Qc Y.out)
       replace O:=Aside0.mk (Qc O.out)
       replace HB:=Aside0.mk (Qh HB.out)
       have ba:0≤(L:Int):=of_decide_eq_true (by assumption)
       have bb:L<(B.length:Int):=of_decide_eq_true (by assumption)
       obtain⟨ε,br,θ,ι,μ⟩:=Z5 ag.out L ba bb
       have ρ:= μ
       have τ := ι
       have φ := θ
       cases br
       replace θ :=(HB.out.cell (World.block_lt_of_cell? w _ θ)).trans θ
       replace ι :=(HB.out.cell (World.block_lt_of_cell? w _ ι)).trans ι
       replace μ :=(HB.out.cell (World.block_lt_of_cell? w _ μ)).trans μ
       replace ba:=eq_true ba
       replace bb:=eq_true bb
       refine Zv (n:=8) (S:=fun w'=>w'.cell? ⟨a2,0,none⟩=some (.int .i64 I)∧w'.cell? ⟨a2,1,none⟩=some (.int .i64 J)∧w'.cell? ⟨ζ,0,none⟩=some (.slice (some ε) B.length U)∧w'.cell? ⟨ζ,1,none⟩=some (.slice γ D.length X)∧w'.cell? (ε.add ((L).toNat * 3))=some (.int .i64 ((Qi B L).f0))∧w'.cell? ⟨(ε.add ((L).toNat * 3)).block,(ε.add ((L).toNat * 3)).off+1,none⟩=some (.int .i64 ((Qi B L).f1))∧w'.cell? ⟨(ε.add ((L).toNat * 3)).block,(ε.add ((L).toNat * 3)).off+2,none⟩=some (.int .i64 ((Qi B L).f2))) (ds:=[]) #[false,false,false,false,false,false,false,false] kr rfl rfl ⟨(Qa Y.out 0).trans rfl,(Qa Y.out 1).trans rfl,(Qa O.out 0).trans rfl,(Qa O.out 1).trans rfl,((HB.out.cell (World.block_lt_of_cell? w _ φ)).trans φ),((HB.out.cell (World.block_lt_of_cell? w _ τ)).trans τ),((HB.out.cell (World.block_lt_of_cell? w _ ρ)).trans ρ)⟩ (fun hHeld=>?_);refine Q8 newelref19_May.Mq newelref19_May.Wj (fun HT_ HW_=>?_)
       generalize wr.drew=dk at Y O HB θ ι μ hHeld ⊢
       refine qP 1 (some 24) (bN 8 2) HT_ ?_
       refine qP 3 (some 26) (bN 8 10) HT_ ?_
       refine qT 0 (some 23) (bN 8 11) HT_ HW_ hHeld ?_
       refine qT 2 (some 25) (bN 8 15) HT_ HW_ hHeld ?_
       refine qP 4 (some 27) (bN 8 31) HT_ ?_
       refine qT 5 (some 28) (bN 8 63) HT_ HW_ hHeld ?_
       refine Zm (i:=6) (N:=some 29) (bN 8 127) rfl rfl (Q3 HT_.out kr) (by decide) (fun K hK=>?_)
       refine Zg Try.func25 kr rfl #[.agg #[.int .i64 I,.int .i64 J],.agg #[.int .i64 ((Qi B L).f0),.int .i64 ((Qi B L).f1),.int .i64 ((Qi B L).f2)]] (by rfl) rfl rfl (by simp only[List.map_toArray,List.map_cons,List.map_nil] <;> rfl) ?_
       with_reducible refine(newelref19_Hall.calls k1 I J ((Qi B L).f0) ((Qi B L).f1) ((Qi B L).f2) false _ cx.out).mono ?_
       rintro e bh ⟨rfl,hb⟩
       refine⟨_,rfl, ?_⟩
       replace Y:=sBk Y hb
       replace O:=sBk O hb
       replace HB:=sHb hb
       (try clear hb)
       (try clear a4)
       (try clear hk)
       (try clear hi)
       refine hK.out _ _ ⟨(Qa Y.out 0).trans rfl,(Qa Y.out 1).trans rfl,(Qa O.out 0).trans rfl,(Qa O.out 1).trans rfl,((HB.out.cell (World.block_lt_of_cell? w _ φ)).trans φ),((HB.out.cell (World.block_lt_of_cell? w _ τ)).trans τ),((HB.out.cell (World.block_lt_of_cell? w _ ρ)).trans ρ)⟩ (fun hHeld=>?_)
       clear hK K
       refine qN (some 29) ?_
       refine qP 7 (some 7) (bN 8 255) HT_ ?_
       refine Z0 (Zp HT_.out kr) ?_
       try go_wp2
       go_ret
       exact⟨rfl,HB.out⟩
     ·rw[if_neg cg] at H
      exact absurd H (by simp)
    ·rw[if_neg c10] at H
     have c10b0:decide (L<(B.length:Int))=false:=decide_eq_false c10
     clear c10
     have H':=Aside0.mk H
     clear H
     have ez:=a1.out
     have f3:=a0.out
     have cn:wr.cell? ⟨ζ,0,none⟩=some (.slice Z B.length U):=(Qa O.out 0).trans rfl
     have co:wr.cell? ⟨ζ,1,none⟩=some (.slice γ D.length X):=(Qa O.out 1).trans rfl
     have cp:=Qb O.out 0
     have cw:=Qb O.out 1
     go_wp2
     go_loopg [9] k1 (fun kq v9 w'=>∃ (δ :Int),v9 = .int .i64 δ ∧ Aside0 (newelref19_May.l1 kq δ I J B D=some r)∧Aside0 (kq≤k1)∧Aside0 (w'.heap[a2]?=some (.cells #[.int .i64 I,.int .i64 J] 23 (0,0)))∧Aside0 (w'.heap[ζ]?=some (.cells #[(.slice Z B.length U),(.slice γ D.length X)] 27 (0,0)))∧Aside0 (Below w.heap.size w w'))
     case atStart=>exact⟨(0),rfl,H',⟨Nat.le_refl _⟩,Y,O,HB⟩
     case round=>
      clear H'
      try clear c1
      try clear c2
      try clear p2
      try clear q2
      try clear ek
      try clear c3
      try clear c4
      try clear p6
      try clear c10
      try clear c10b0
      try clear cg
      try clear bc
      try clear ay
      try clear c14b0
      try clear a3
      try clear au
      try clear e5
      try clear en
      try clear eo
      try clear ea
      try clear bd
      try clear ak
      try clear k7
      try clear ke
      try clear kf
      try clear l6
      try clear cz
      try clear d0
      try clear ck
      try clear cq
      try clear cr
      try clear ct
      try clear cn
      try clear co
      try clear d1
      try clear d2
      try clear cv
      try clear df
      try clear cu
      try clear d4
      try clear cp
      try clear cw
      try clear θ
      try clear ι
      try clear μ
      try clear a5
      try clear a7
      try clear a8
      try clear a9
      try clear aa
      try clear ab
      try clear ba
      try clear bl
      try clear bo
      try clear bb
      try clear bn
      try clear bq
      obtain⟨δ,rfl,HA,bp,Y,O,HB⟩:=hrel
      cases gk with
      |zero=>exact absurd HA.out (by simp[newelref19_May.l1])
      |succ k2=>
       have H:=HA.out
       clear HA
       simp only[newelref19_May.l1] at H
       by_cases dy: δ < (D.length:Int)
       ·rw[if_pos dy] at H
        have c42b0:decide (δ < (D.length:Int))=true:=decide_eq_true dy
        clear dy
        by_cases dv:0 ≤ δ
        ·rw[if_pos dv] at H
         have c43b0:decide (0 ≤ δ)=true:=decide_eq_true dv
         clear dv
         replace H:=Option.bind_eq_some_iff.mp H
         obtain⟨d7,d9,H⟩:=H
         replace H:(if d7=true then (if δ > 0 then (if 0≤(wrap64 (δ - 1)) then (if (wrap64 (δ - 1))<(D.length:Int) then ((newelref19_before.f ((Qq D (wrap64 (δ - 1))).f0) ((Qq D (wrap64 (δ - 1))).f1) ((Qq D δ).f0) ((Qq D δ).f1)).bind fun bj=>(if bj=true then (newelref19_May.l1 k2 (wrap64 (δ + 1)) I J B D) else (some false))) else (none)) else (none)) else (newelref19_May.l1 k2 (wrap64 (δ + 1)) I J B D)) else (some false))=some r:=H
         have da:=Aside0.mk d9
         clear d9
         by_cases ga:d7=true
         ·subst ga
          have H1:(if δ > 0 then (if 0≤(wrap64 (δ - 1)) then (if (wrap64 (δ - 1))<(D.length:Int) then ((newelref19_before.f ((Qq D (wrap64 (δ - 1))).f0) ((Qq D (wrap64 (δ - 1))).f1) ((Qq D δ).f0) ((Qq D δ).f1)).bind fun bj=>(if bj=true then (newelref19_May.l1 k2 (wrap64 (δ + 1)) I J B D) else (some false))) else (none)) else (none)) else (newelref19_May.l1 k2 (wrap64 (δ + 1)) I J B D))=some r:=by rw[if_pos rfl] at H;exact H
          clear H
          have H:=H1
          clear H1
          by_cases fa: δ > 0
          ·rw[if_pos fa] at H
           have c46b0:decide (0 < δ)=true:=decide_eq_true fa
           clear fa
           obtain⟨ω,bk⟩:∃ j_:Int,(wrap64 (δ - 1))=j_:=⟨_,rfl⟩
           replace H:(if 0≤(ω) then (if (ω)<(D.length:Int) then ((newelref19_before.f ((Qq D (ω)).f0) ((Qq D (ω)).f1) ((Qq D δ).f0) ((Qq D δ).f1)).bind fun bj=>(if bj=true then (newelref19_May.l1 k2 (wrap64 (δ + 1)) I J B D) else (some false))) else (none)) else (none))=some r:=by first|(rw[bk] at H;exact H)|(simp only[bk] at H ⊢;exact H)
           (try rw[bk] at da)
           have hji47w:(IntKind.i64.wrap (δ - 1)) = ω :=(X5 _).trans bk
           by_cases fc:0≤(ω)
           ·rw[if_pos fc] at H
            have c48b0:decide (0≤(ω))=true:=decide_eq_true fc
            clear fc
            by_cases eh:(ω)<(D.length:Int)
            ·rw[if_pos eh] at H
             have c49b0:decide ((ω)<(D.length:Int))=true:=decide_eq_true eh
             clear eh
             replace H:=Option.bind_eq_some_iff.mp H
             obtain⟨bj,ge,H⟩:=H
             replace H:(if bj=true then (newelref19_May.l1 k2 (wrap64 (δ + 1)) I J B D) else (some false))=some r:=H
             have cf:=Aside0.mk ge
             clear ge
             by_cases ej:bj=true
             ·subst ej
              have H1:(newelref19_May.l1 k2 (wrap64 (δ + 1)) I J B D)=some r:=by rw[if_pos rfl] at H;exact H
              clear H
              have H:=H1
              clear H1
              have H':=Aside0.mk H
              clear H
              have gf:=a1.out
              have gj:=a0.out
              have fl:wr.cell? ⟨ζ,0,none⟩=some (.slice Z B.length U):=(Qa O.out 0).trans rfl
              have fm:wr.cell? ⟨ζ,1,none⟩=some (.slice γ D.length X):=(Qa O.out 1).trans rfl
              have fn:=Qb O.out 0
              have fo:=Qb O.out 1
              try go_wp2
              replace Y:=Aside0.mk (Qc Y.out)
              replace O:=Aside0.mk (Qc O.out)
              replace HB:=Aside0.mk (Qh HB.out)
              have bf:0≤(δ :Int):=of_decide_eq_true (by assumption)
              have bg: δ < (D.length:Int):=of_decide_eq_true (by assumption)
              obtain⟨η,bs,ν,ξ⟩:=Xa ah.out δ bf bg
              have χ := ξ
              have ψ := ν
              cases bs
              replace ν :=(HB.out.cell (World.block_lt_of_cell? w _ ν)).trans ν
              replace ξ :=(HB.out.cell (World.block_lt_of_cell? w _ ξ)).trans ξ
              replace bf:=eq_true bf
              replace bg:=eq_true bg
              refine Zv (n:=8) (S:=fun w'=>w'.cell? ⟨a2,0,none⟩=some (.int .i64 I)∧w'.cell? ⟨a2,1,none⟩=some (.int .i64 J)∧w'.cell? ⟨ζ,0,none⟩=some (.slice Z B.length U)∧w'.cell? ⟨ζ,1,none⟩=some (.slice (some η) D.length X)∧w'.cell? (η.add ((δ).toNat * 2))=some (.int .i64 ((Qq D δ).f0))∧w'.cell? ⟨(η.add ((δ).toNat * 2)).block,(η.add ((δ).toNat * 2)).off+1,none⟩=some (.int .i64 ((Qq D δ).f1))) (ds:=[]) #[false,false,false,false,false,false,false,false] kr rfl rfl ⟨(Qa Y.out 0).trans rfl,(Qa Y.out 1).trans rfl,(Qa O.out 0).trans rfl,(Qa O.out 1).trans rfl,((HB.out.cell (World.block_lt_of_cell? w _ ψ)).trans ψ),((HB.out.cell (World.block_lt_of_cell? w _ χ)).trans χ)⟩ (fun hHeld=>?_);refine Q8 newelref19_May.Wa newelref19_May.Vz (fun HT_ HW_=>?_)
              generalize wr.drew=jc at Y O HB ν ξ hHeld ⊢
              refine qP 1 (some 56) (bN 8 2) HT_ ?_
              refine qP 3 (some 58) (bN 8 10) HT_ ?_
              refine qT 0 (some 55) (bN 8 11) HT_ HW_ hHeld ?_
              refine qT 2 (some 57) (bN 8 15) HT_ HW_ hHeld ?_
              refine qP 4 (some 59) (bN 8 31) HT_ ?_
              refine qT 5 (some 60) (bN 8 63) HT_ HW_ hHeld ?_
              refine Zm (i:=6) (N:=some 61) (bN 8 127) rfl rfl (Q3 HT_.out kr) (by decide) (fun K hK=>?_)
              refine Zg Try.func39 kr rfl #[.agg #[.int .i64 I,.int .i64 J],.agg #[.int .i64 ((Qq D δ).f0),.int .i64 ((Qq D δ).f1)]] (by rfl) rfl rfl (by simp only[List.map_toArray,List.map_cons,List.map_nil] <;> rfl) ?_
              with_reducible refine(newelref19_Inside.calls I J ((Qq D δ).f0) ((Qq D δ).f1) true _ da.out).mono ?_
              rintro e fi ⟨rfl,hb⟩
              refine⟨_,rfl, ?_⟩
              replace Y:=sBk Y hb
              replace O:=sBk O hb
              replace HB:=sHb hb
              (try clear hb)
              (try clear a4)
              (try clear hk)
              (try clear hi)
              refine hK.out _ _ ⟨(Qa Y.out 0).trans rfl,(Qa Y.out 1).trans rfl,(Qa O.out 0).trans rfl,(Qa O.out 1).trans rfl,((HB.out.cell (World.block_lt_of_cell? w _ ψ)).trans ψ),((HB.out.cell (World.block_lt_of_cell? w _ χ)).trans χ)⟩ (fun hHeld=>?_)
              clear hK K
              refine qN (some 61) ?_
              refine qP 7 (some 10) (bN 8 255) HT_ ?_
              refine Z0 (Zp HT_.out kr) ?_
              try go_wp2
              replace Y:=Aside0.mk (Qc Y.out)
              replace O:=Aside0.mk (Qc O.out)
              replace HB:=Aside0.mk (Qh HB.out)
              have bv:0≤((ω):Int):=of_decide_eq_true (by assumption)
              have bw:(ω)<(D.length:Int):=of_decide_eq_true (by assumption)
              obtain⟨dh,dr,ac,ae⟩:=Xa ah.out (ω) bv bw
              have b2:=ae
              have b3:=ac
              obtain rfl: η = dh:=(by injection dr)
              replace ac:=(HB.out.cell (World.block_lt_of_cell? w _ ac)).trans ac
              replace ae:=(HB.out.cell (World.block_lt_of_cell? w _ ae)).trans ae
              replace bv:=eq_true bv
              replace bw:=eq_true bw
              have bz:0≤(δ :Int):=of_decide_eq_true (by assumption)
              have ca: δ < (D.length:Int):=of_decide_eq_true (by assumption)
              obtain⟨dl,du,af,aj⟩:=Xa ah.out δ bz ca
              have b4:=aj
              have b9:=af
              obtain rfl: η = dl:=(by injection du)
              replace af:=(HB.out.cell (World.block_lt_of_cell? w _ af)).trans af
              replace aj:=(HB.out.cell (World.block_lt_of_cell? w _ aj)).trans aj
              replace bz:=eq_true bz
              replace ca:=eq_true ca
              refine Zv (n:=13) (S:=fun w'=>w'.cell? ⟨ζ,0,none⟩=some (.slice Z B.length U)∧w'.cell? ⟨ζ,1,none⟩=some (.slice (some η) D.length X)∧w'.cell? (η.add (((ω)).toNat * 2))=some (.int .i64 ((Qq D (ω)).f0))∧w'.cell? ⟨(η.add (((ω)).toNat * 2)).block,(η.add (((ω)).toNat * 2)).off+1,none⟩=some (.int .i64 ((Qq D (ω)).f1))∧w'.cell? (η.add ((δ).toNat * 2))=some (.int .i64 ((Qq D δ).f0))∧w'.cell? ⟨(η.add ((δ).toNat * 2)).block,(η.add ((δ).toNat * 2)).off+1,none⟩=some (.int .i64 ((Qq D δ).f1))) (ds:=[]) #[false,false,false,false,false,false,false,false,false,false,false,false,false] kr rfl rfl ⟨(Qa O.out 0).trans rfl,(Qa O.out 1).trans rfl,((HB.out.cell (World.block_lt_of_cell? w _ b3)).trans b3),((HB.out.cell (World.block_lt_of_cell? w _ b2)).trans b2),((HB.out.cell (World.block_lt_of_cell? w _ b9)).trans b9),((HB.out.cell (World.block_lt_of_cell? w _ b4)).trans b4)⟩ (fun hHeld=>?_);refine Q8 newelref19_May.Nh newelref19_May.Mb (fun HT_ HW_=>?_)
              generalize fi.drew=gp at Y O HB ac ae af aj hHeld ⊢
              refine qP 0 (some 66) (bN 13 1) HT_ ?_
              refine qP 2 (some 68) (bN 13 5) HT_ ?_
              refine qP 3 (some 69) (bN 13 13) HT_ ?_
              refine qP 6 (some 72) (bN 13 77) HT_ ?_
              refine qP 8 (some 74) (bN 13 333) HT_ ?_
              refine qT 1 (some 67) (bN 13 335) HT_ HW_ hHeld ?_
              refine qP 4 (some 70) (bN 13 351) HT_ ?_
              refine qT 5 (some 71) (bN 13 383) HT_ HW_ hHeld ?_
              refine qT 7 (some 73) (bN 13 511) HT_ HW_ hHeld ?_
              refine qP 9 (some 75) (bN 13 1023) HT_ ?_
              refine qT 10 (some 76) (bN 13 2047) HT_ HW_ hHeld ?_
              refine Zm (i:=11) (N:=some 77) (bN 13 4095) rfl rfl (Q3 HT_.out kr) (by decide) (fun K hK=>?_)
              refine Zg Try.func40 kr rfl #[.agg #[.int .i64 ((Qq D (ω)).f0),.int .i64 ((Qq D (ω)).f1)],.agg #[.int .i64 ((Qq D δ).f0),.int .i64 ((Qq D δ).f1)]] (by rfl) rfl rfl (by(try simp only[List.map_toArray,List.map_cons,List.map_nil]);first|done|(simp only[bk];rfl)|rfl|(simp only[List.length_drop,List.length_take];rfl)) ?_
              with_reducible refine(newelref19_before.calls ((Qq D (ω)).f0) ((Qq D (ω)).f1) ((Qq D δ).f0) ((Qq D δ).f1) true _ cf.out).mono ?_
              rintro e d3 ⟨rfl,hb⟩
              refine⟨_,rfl, ?_⟩
              replace Y:=sBk Y hb
              replace O:=sBk O hb
              replace HB:=sHb hb
              (try clear hb)
              (try clear a4)
              (try clear hk)
              (try clear hi)
              refine hK.out _ _ ⟨(Qa O.out 0).trans rfl,(Qa O.out 1).trans rfl,((HB.out.cell (World.block_lt_of_cell? w _ b3)).trans b3),((HB.out.cell (World.block_lt_of_cell? w _ b2)).trans b2),((HB.out.cell (World.block_lt_of_cell? w _ b9)).trans b9),((HB.out.cell (World.block_lt_of_cell? w _ b4)).trans b4)⟩ (fun hHeld=>?_)
              clear hK K
              refine qN (some 77) ?_
              refine qP 12 (some 11) (bN 13 8191) HT_ ?_
              refine Z0 (Zp HT_.out kr) ?_
              try go_wp2
              go_roundg k2
              case measure=>have:=σ.out;have:=bp.out;omega
              case rel=>exact⟨(wrap64 (δ + 1)),rfl,H',⟨by have:=σ.out;have:=bp.out;omega⟩,Y,O,HB⟩
             ·replace ej:=Bool.eq_false_iff.mpr ej
              subst ej
              have H1:(some false)=some r:=by rw[if_neg (show ¬ (false=true) by decide)] at H;exact H
              clear H
              have H:=H1
              clear H1
              obtain rfl:=Option.some.inj H
              have i3:=a1.out
              have i4:=a0.out
              have eb:wr.cell? ⟨ζ,0,none⟩=some (.slice Z B.length U):=(Qa O.out 0).trans rfl
              have ee:wr.cell? ⟨ζ,1,none⟩=some (.slice γ D.length X):=(Qa O.out 1).trans rfl
              have ef:=Qb O.out 0
              have eg:=Qb O.out 1
              try go_wp2
              replace Y:=Aside0.mk (Qc Y.out)
              replace O:=Aside0.mk (Qc O.out)
              replace HB:=Aside0.mk (Qh HB.out)
              have bf:0≤(δ :Int):=of_decide_eq_true (by assumption)
              have bg: δ < (D.length:Int):=of_decide_eq_true (by assumption)
              obtain⟨η,bs,ν,ξ⟩:=Xa ah.out δ bf bg
              have χ := ξ
              have ψ := ν
              cases bs
              replace ν :=(HB.out.cell (World.block_lt_of_cell? w _ ν)).trans ν
              replace ξ :=(HB.out.cell (World.block_lt_of_cell? w _ ξ)).trans ξ
              replace bf:=eq_true bf
              replace bg:=eq_true bg
              refine Zv (n:=8) (S:=fun w'=>w'.cell? ⟨a2,0,none⟩=some (.int .i64 I)∧w'.cell? ⟨a2,1,none⟩=some (.int .i64 J)∧w'.cell? ⟨ζ,0,none⟩=some (.slice Z B.length U)∧w'.cell? ⟨ζ,1,none⟩=some (.slice (some η) D.length X)∧w'.cell? (η.add ((δ).toNat * 2))=some (.int .i64 ((Qq D δ).f0))∧w'.cell? ⟨(η.add ((δ).toNat * 2)).block,(η.add ((δ).toNat * 2)).off+1,none⟩=some (.int .i64 ((Qq D δ).f1))) (ds:=[]) #[false,false,false,false,false,false,false,false] kr rfl rfl ⟨(Qa Y.out 0).trans rfl,(Qa Y.out 1).trans rfl,(Qa O.out 0).trans rfl,(Qa O.out 1).trans rfl,((HB.out.cell (World.block_lt_of_cell? w _ ψ)).trans ψ),((HB.out.cell (World.block_lt_of_cell? w _ χ)).trans χ)⟩ (fun hHeld=>?_);refine Q8 newelref19_May.Wa newelref19_May.Vz (fun HT_ HW_=>?_)
              generalize wr.drew=lp at Y O HB ν ξ hHeld ⊢
              refine qP 1 (some 56) (bN 8 2) HT_ ?_
              refine qP 3 (some 58) (bN 8 10) HT_ ?_
              refine qT 0 (some 55) (bN 8 11) HT_ HW_ hHeld ?_
              refine qT 2 (some 57) (bN 8 15) HT_ HW_ hHeld ?_
              refine qP 4 (some 59) (bN 8 31) HT_ ?_
              refine qT 5 (some 60) (bN 8 63) HT_ HW_ hHeld ?_
              refine Zm (i:=6) (N:=some 61) (bN 8 127) rfl rfl (Q3 HT_.out kr) (by decide) (fun K hK=>?_)
              refine Zg Try.func39 kr rfl #[.agg #[.int .i64 I,.int .i64 J],.agg #[.int .i64 ((Qq D δ).f0),.int .i64 ((Qq D δ).f1)]] (by rfl) rfl rfl (by simp only[List.map_toArray,List.map_cons,List.map_nil] <;> rfl) ?_
              with_reducible refine(newelref19_Inside.calls I J ((Qq D δ).f0) ((Qq D δ).f1) true _ da.out).mono ?_
              rintro e dd ⟨rfl,hb⟩
              refine⟨_,rfl, ?_⟩
              replace Y:=sBk Y hb
              replace O:=sBk O hb
              replace HB:=sHb hb
              (try clear hb)
              (try clear a4)
              (try clear hk)
              (try clear hi)
              refine hK.out _ _ ⟨(Qa Y.out 0).trans rfl,(Qa Y.out 1).trans rfl,(Qa O.out 0).trans rfl,(Qa O.out 1).trans rfl,((HB.out.cell (World.block_lt_of_cell? w _ ψ)).trans ψ),((HB.out.cell (World.block_lt_of_cell? w _ χ)).trans χ)⟩ (fun hHeld=>?_)
              clear hK K
              refine qN (some 61) ?_
              refine qP 7 (some 10) (bN 8 255) HT_ ?_
              refine Z0 (Zp HT_.out kr) ?_
              try go_wp2
              replace Y:=Aside0.mk (Qc Y.out)
              replace O:=Aside0.mk (Qc O.out)
              replace HB:=Aside0.mk (Qh HB.out)
              have bv:0≤((ω):Int):=of_decide_eq_true (by assumption)
              have bw:(ω)<(D.length:Int):=of_decide_eq_true (by assumption)
              obtain⟨dh,dr,ac,ae⟩:=Xa ah.out (ω) bv bw
              have b2:=ae
              have b3:=ac
              obtain rfl: η = dh:=(by injection dr)
              replace ac:=(HB.out.cell (World.block_lt_of_cell? w _ ac)).trans ac
              replace ae:=(HB.out.cell (World.block_lt_of_cell? w _ ae)).trans ae
              replace bv:=eq_true bv
              replace bw:=eq_true bw
              have bz:0≤(δ :Int):=of_decide_eq_true (by assumption)
              have ca: δ < (D.length:Int):=of_decide_eq_true (by assumption)
              obtain⟨dl,du,af,aj⟩:=Xa ah.out δ bz ca
              have b4:=aj
              have b9:=af
              obtain rfl: η = dl:=(by injection du)
              replace af:=(HB.out.cell (World.block_lt_of_cell? w _ af)).trans af
              replace aj:=(HB.out.cell (World.block_lt_of_cell? w _ aj)).trans aj
              replace bz:=eq_true bz
              replace ca:=eq_true ca
              refine Zv (n:=13) (S:=fun w'=>w'.cell? ⟨ζ,0,none⟩=some (.slice Z B.length U)∧w'.cell? ⟨ζ,1,none⟩=some (.slice (some η) D.length X)∧w'.cell? (η.add (((ω)).toNat * 2))=some (.int .i64 ((Qq D (ω)).f0))∧w'.cell? ⟨(η.add (((ω)).toNat * 2)).block,(η.add (((ω)).toNat * 2)).off+1,none⟩=some (.int .i64 ((Qq D (ω)).f1))∧w'.cell? (η.add ((δ).toNat * 2))=some (.int .i64 ((Qq D δ).f0))∧w'.cell? ⟨(η.add ((δ).toNat * 2)).block,(η.add ((δ).toNat * 2)).off+1,none⟩=some (.int .i64 ((Qq D δ).f1))) (ds:=[]) #[false,false,false,false,false,false,false,false,false,false,false,false,false] kr rfl rfl ⟨(Qa O.out 0).trans rfl,(Qa O.out 1).trans rfl,((HB.out.cell (World.block_lt_of_cell? w _ b3)).trans b3),((HB.out.cell (World.block_lt_of_cell? w _ b2)).trans b2),((HB.out.cell (World.block_lt_of_cell? w _ b9)).trans b9),((HB.out.cell (World.block_lt_of_cell? w _ b4)).trans b4)⟩ (fun hHeld=>?_);refine Q8 newelref19_May.Nh newelref19_May.Mb (fun HT_ HW_=>?_)
              generalize dd.drew=ia at Y O HB ac ae af aj hHeld ⊢
              refine qP 0 (some 66) (bN 13 1) HT_ ?_
              refine qP 2 (some 68) (bN 13 5) HT_ ?_
              refine qP 3 (some 69) (bN 13 13) HT_ ?_
              refine qP 6 (some 72) (bN 13 77) HT_ ?_
              refine qP 8 (some 74) (bN 13 333) HT_ ?_
              refine qT 1 (some 67) (bN 13 335) HT_ HW_ hHeld ?_
              refine qP 4 (some 70) (bN 13 351) HT_ ?_
              refine qT 5 (some 71) (bN 13 383) HT_ HW_ hHeld ?_
              refine qT 7 (some 73) (bN 13 511) HT_ HW_ hHeld ?_
              refine qP 9 (some 75) (bN 13 1023) HT_ ?_
              refine qT 10 (some 76) (bN 13 2047) HT_ HW_ hHeld ?_
              refine Zm (i:=11) (N:=some 77) (bN 13 4095) rfl rfl (Q3 HT_.out kr) (by decide) (fun K hK=>?_)
              refine Zg Try.func40 kr rfl #[.agg #[.int .i64 ((Qq D (ω)).f0),.int .i64 ((Qq D (ω)).f1)],.agg #[.int .i64 ((Qq D δ).f0),.int .i64 ((Qq D δ).f1)]] (by rfl) rfl rfl (by(try simp only[List.map_toArray,List.map_cons,List.map_nil]);first|done|(simp only[bk];rfl)|rfl|(simp only[List.length_drop,List.length_take];rfl)) ?_
              with_reducible refine(newelref19_before.calls ((Qq D (ω)).f0) ((Qq D (ω)).f1) ((Qq D δ).f0) ((Qq D δ).f1) false _ cf.out).mono ?_
              rintro e ep ⟨rfl,hb⟩
              refine⟨_,rfl, ?_⟩
              replace Y:=sBk Y hb
              replace O:=sBk O hb
              replace HB:=sHb hb
              (try clear hb)
              (try clear a4)
              (try clear hk)
              (try clear hi)
              refine hK.out _ _ ⟨(Qa O.out 0).trans rfl,(Qa O.out 1).trans rfl,((HB.out.cell (World.block_lt_of_cell? w _ b3)).trans b3),((HB.out.cell (World.block_lt_of_cell? w _ b2)).trans b2),((HB.out.cell (World.block_lt_of_cell? w _ b9)).trans b9),((HB.out.cell (World.block_lt_of_cell? w _ b4)).trans b4)⟩ (fun hHeld=>?_)
              clear hK K
              refine qN (some 77) ?_
              refine qP 12 (some 11) (bN 13 8191) HT_ ?_
              refine Z0 (Zp HT_.out kr) ?_
              try go_wp2
              go_ret
              exact⟨by first|rfl|(simp[Q1,Q0] <;> rfl)|(simp only[← bk];first|rfl|(simp[Q1,Q0] <;> rfl))|(simp[*,Q1,Q0] <;> rfl),HB.out⟩
            ·rw[if_neg eh] at H
             exact absurd H (by simp)
           ·rw[if_neg fc] at H
            exact absurd H (by simp)
          ·rw[if_neg fa] at H
           have c46b0:decide (0 < δ)=false:=decide_eq_false fa
           clear fa
           have H':=Aside0.mk H
           clear H
           have eu:=a1.out
           have ev:=a0.out
           have h0:wr.cell? ⟨ζ,0,none⟩=some (.slice Z B.length U):=(Qa O.out 0).trans rfl
           have h4:wr.cell? ⟨ζ,1,none⟩=some (.slice γ D.length X):=(Qa O.out 1).trans rfl
           have h5:=Qb O.out 0
           have h6:=Qb O.out 1
           try go_wp2
           replace Y:=Aside0.mk (Qc Y.out)
           replace O:=Aside0.mk (Qc O.out)
           replace HB:=Aside0.mk (Qh HB.out)
           have bf:0≤(δ :Int):=of_decide_eq_true (by assumption)
           have bg: δ < (D.length:Int):=of_decide_eq_true (by assumption)
           obtain⟨η,bs,ν,ξ⟩:=Xa ah.out δ bf bg
           have χ := ξ
           have ψ := ν
           cases bs
           replace ν :=(HB.out.cell (World.block_lt_of_cell? w _ ν)).trans ν
           replace ξ :=(HB.out.cell (World.block_lt_of_cell? w _ ξ)).trans ξ
           replace bf:=eq_true bf
           replace bg:=eq_true bg
           refine Zv (n:=8) (S:=fun w'=>w'.cell? ⟨a2,0,none⟩=some (.int .i64 I)∧w'.cell? ⟨a2,1,none⟩=some (.int .i64 J)∧w'.cell? ⟨ζ,0,none⟩=some (.slice Z B.length U)∧w'.cell? ⟨ζ,1,none⟩=some (.slice (some η) D.length X)∧w'.cell? (η.add ((δ).toNat * 2))=some (.int .i64 ((Qq D δ).f0))∧w'.cell? ⟨(η.add ((δ).toNat * 2)).block,(η.add ((δ).toNat * 2)).off+1,none⟩=some (.int .i64 ((Qq D δ).f1))) (ds:=[]) #[false,false,false,false,false,false,false,false] kr rfl rfl ⟨(Qa Y.out 0).trans rfl,(Qa Y.out 1).trans rfl,(Qa O.out 0).trans rfl,(Qa O.out 1).trans rfl,((HB.out.cell (World.block_lt_of_cell? w _ ψ)).trans ψ),((HB.out.cell (World.block_lt_of_cell? w _ χ)).trans χ)⟩ (fun hHeld=>?_);refine Q8 newelref19_May.Wa newelref19_May.Vz (fun HT_ HW_=>?_)
           generalize wr.drew=jd at Y O HB ν ξ hHeld ⊢
           refine qP 1 (some 56) (bN 8 2) HT_ ?_
           refine qP 3 (some 58) (bN 8 10) HT_ ?_
           refine qT 0 (some 55) (bN 8 11) HT_ HW_ hHeld ?_
           refine qT 2 (some 57) (bN 8 15) HT_ HW_ hHeld ?_
           refine qP 4 (some 59) (bN 8 31) HT_ ?_
           refine qT 5 (some 60) (bN 8 63) HT_ HW_ hHeld ?_
           refine Zm (i:=6) (N:=some 61) (bN 8 127) rfl rfl (Q3 HT_.out kr) (by decide) (fun K hK=>?_)
           refine Zg Try.func39 kr rfl #[.agg #[.int .i64 I,.int .i64 J],.agg #[.int .i64 ((Qq D δ).f0),.int .i64 ((Qq D δ).f1)]] (by rfl) rfl rfl (by simp only[List.map_toArray,List.map_cons,List.map_nil] <;> rfl) ?_
           with_reducible refine(newelref19_Inside.calls I J ((Qq D δ).f0) ((Qq D δ).f1) true _ da.out).mono ?_
           rintro e gr ⟨rfl,hb⟩
           refine⟨_,rfl, ?_⟩
           replace Y:=sBk Y hb
           replace O:=sBk O hb
           replace HB:=sHb hb
           (try clear hb)
           (try clear a4)
           (try clear hk)
           (try clear hi)
           refine hK.out _ _ ⟨(Qa Y.out 0).trans rfl,(Qa Y.out 1).trans rfl,(Qa O.out 0).trans rfl,(Qa O.out 1).trans rfl,((HB.out.cell (World.block_lt_of_cell? w _ ψ)).trans ψ),((HB.out.cell (World.block_lt_of_cell? w _ χ)).trans χ)⟩ (fun hHeld=>?_)
           clear hK K
           refine qN (some 61) ?_
           refine qP 7 (some 10) (bN 8 255) HT_ ?_
           refine Z0 (Zp HT_.out kr) ?_
           try go_wp2
           go_roundg k2
           case measure=>have:=σ.out;have:=bp.out;omega
           case rel=>exact⟨(wrap64 (δ + 1)),rfl,H',⟨by have:=σ.out;have:=bp.out;omega⟩,Y,O,HB⟩
         ·replace ga:=Bool.eq_false_iff.mpr ga
          subst ga
          have H1:(some false)=some r:=by rw[if_neg (show ¬ (false=true) by decide)] at H;exact H
          clear H
          have H:=H1
          clear H1
          obtain rfl:=Option.some.inj H
          have dw:=a1.out
          have dz:=a0.out
          have fr:wr.cell? ⟨ζ,0,none⟩=some (.slice Z B.length U):=(Qa O.out 0).trans rfl
          have ft:wr.cell? ⟨ζ,1,none⟩=some (.slice γ D.length X):=(Qa O.out 1).trans rfl
          have fu:=Qb O.out 0
          have fv:=Qb O.out 1
          try go_wp2
          replace Y:=Aside0.mk (Qc Y.out)
          replace O:=Aside0.mk (Qc O.out)
          replace HB:=Aside0.mk (Qh HB.out)
          have bf:0≤(δ :Int):=of_decide_eq_true (by assumption)
          have bg: δ < (D.length:Int):=of_decide_eq_true (by assumption)
          obtain⟨η,bs,ν,ξ⟩:=Xa ah.out δ bf bg
          have χ := ξ
          have ψ := ν
          cases bs
          replace ν :=(HB.out.cell (World.block_lt_of_cell? w _ ν)).trans ν
          replace ξ :=(HB.out.cell (World.block_lt_of_cell? w _ ξ)).trans ξ
          replace bf:=eq_true bf
          replace bg:=eq_true bg
          refine Zv (n:=8) (S:=fun w'=>w'.cell? ⟨a2,0,none⟩=some (.int .i64 I)∧w'.cell? ⟨a2,1,none⟩=some (.int .i64 J)∧w'.cell? ⟨ζ,0,none⟩=some (.slice Z B.length U)∧w'.cell? ⟨ζ,1,none⟩=some (.slice (some η) D.length X)∧w'.cell? (η.add ((δ).toNat * 2))=some (.int .i64 ((Qq D δ).f0))∧w'.cell? ⟨(η.add ((δ).toNat * 2)).block,(η.add ((δ).toNat * 2)).off+1,none⟩=some (.int .i64 ((Qq D δ).f1))) (ds:=[]) #[false,false,false,false,false,false,false,false] kr rfl rfl ⟨(Qa Y.out 0).trans rfl,(Qa Y.out 1).trans rfl,(Qa O.out 0).trans rfl,(Qa O.out 1).trans rfl,((HB.out.cell (World.block_lt_of_cell? w _ ψ)).trans ψ),((HB.out.cell (World.block_lt_of_cell? w _ χ)).trans χ)⟩ (fun hHeld=>?_);refine Q8 newelref19_May.Wa newelref19_May.Vz (fun HT_ HW_=>?_)
          generalize wr.drew=mb at Y O HB ν ξ hHeld ⊢
          refine qP 1 (some 56) (bN 8 2) HT_ ?_
          refine qP 3 (some 58) (bN 8 10) HT_ ?_
          refine qT 0 (some 55) (bN 8 11) HT_ HW_ hHeld ?_
          refine qT 2 (some 57) (bN 8 15) HT_ HW_ hHeld ?_
          refine qP 4 (some 59) (bN 8 31) HT_ ?_
          refine qT 5 (some 60) (bN 8 63) HT_ HW_ hHeld ?_
          refine Zm (i:=6) (N:=some 61) (bN 8 127) rfl rfl (Q3 HT_.out kr) (by decide) (fun K hK=>?_)
          refine Zg Try.func39 kr rfl #[.agg #[.int .i64 I,.int .i64 J],.agg #[.int .i64 ((Qq D δ).f0),.int .i64 ((Qq D δ).f1)]] (by rfl) rfl rfl (by simp only[List.map_toArray,List.map_cons,List.map_nil] <;> rfl) ?_
          with_reducible refine(newelref19_Inside.calls I J ((Qq D δ).f0) ((Qq D δ).f1) false _ da.out).mono ?_
          rintro e lq ⟨rfl,hb⟩
          refine⟨_,rfl, ?_⟩
          replace Y:=sBk Y hb
          replace O:=sBk O hb
          replace HB:=sHb hb
          (try clear hb)
          (try clear a4)
          (try clear hk)
          (try clear hi)
          refine hK.out _ _ ⟨(Qa Y.out 0).trans rfl,(Qa Y.out 1).trans rfl,(Qa O.out 0).trans rfl,(Qa O.out 1).trans rfl,((HB.out.cell (World.block_lt_of_cell? w _ ψ)).trans ψ),((HB.out.cell (World.block_lt_of_cell? w _ χ)).trans χ)⟩ (fun hHeld=>?_)
          clear hK K
          refine qN (some 61) ?_
          refine qP 7 (some 10) (bN 8 255) HT_ ?_
          refine Z0 (Zp HT_.out kr) ?_
          try go_wp2
          go_ret
          exact⟨rfl,HB.out⟩
        ·rw[if_neg dv] at H
         exact absurd H (by simp)
       ·rw[if_neg dy] at H
        have c42b0:decide (δ < (D.length:Int))=false:=decide_eq_false dy
        clear dy
        obtain rfl:=Option.some.inj H
        have el:=a1.out
        have em:=a0.out
        have fp:wr.cell? ⟨ζ,0,none⟩=some (.slice Z B.length U):=(Qa O.out 0).trans rfl
        have fq:wr.cell? ⟨ζ,1,none⟩=some (.slice γ D.length X):=(Qa O.out 1).trans rfl
        have g0:=Qb O.out 0
        have g1:=Qb O.out 1
        go_wp2
        go_ret
        exact⟨rfl,HB.out⟩
 ·replace c4:=Bool.eq_false_iff.mpr c4
  subst c4
  have H1:(some false)=some r:=by rw[if_neg (show ¬ (false=true) by decide)] at H;exact H
  clear H
  have H:=H1
  clear H1
  obtain rfl:=Option.some.inj H
  go_enter Try.func13,Try.ntmps13
  go_wp2_with (first|((with_reducible refine Qt (N:=2) rfl ?_);refine Qp ?hg (N:=2) ?hd (cs:=#[.int .i64 I,.int .i64 J]) (t:=23) ?hr ?_;(case hd=>rfl);(case hg=>rfl);(case hr=>go_simp <;> rfl);intro a2 hg ew hbox hb;have Y:=Aside0.mk hbox;have e0:=sGe hg;have e3:=sGe hg;replace HB:=sHb hb;clear hb hbox hg)|((with_reducible refine Qt (N:=3) rfl ?_);refine Qp ?hg (N:=3) ?hd (cs:=#[.slice Z B.length U,.slice γ D.length X]) (t:=27) ?hr ?_;(case hd=>rfl);(case hg=>rfl);(case hr=>go_simp <;> rfl);intro ζ hg e9 hbox hb;have O:=Aside0.mk hbox;have e4:=sGe hg;have e6:=sGe hg;have a0:=sNl Y hg;have a1:=sNg Y hg;replace Y:=sBk Y hb;replace HB:=sHb hb;clear hb hbox hg;have i5:=a0.out;have i6:=a1.out;have g2:e9.cell? ⟨a2,0,none⟩=some (.int .i64 I):=(Qa Y.out 0).trans rfl;have g3:e9.cell? ⟨a2,1,none⟩=some (.int .i64 J):=(Qa Y.out 1).trans rfl;have g4:=Qb Y.out 0;have g5:=Qb Y.out 1)|((with_reducible refine Q2 (f:=37) rfl ?_);refine Zq (some 13) rfl rfl Try.func37 kr rfl #[.agg #[.int .i64 I,.int .i64 J]] rfl (by simp only[List.map_toArray,List.map_cons,List.map_nil] <;> rfl) ?_;(with_reducible refine(newelref19_House.calls I J false _ A3.out).mono ?_);rintro e ey ⟨rfl,hb⟩;refine⟨_,rfl, ?_⟩;replace Y:=sBk Y hb;replace O:=sBk O hb;replace HB:=sHb hb;(try clear hb);(try clear a4);(try clear hk);(try clear hi)))
  go_ret
  exact⟨rfl,HB.out⟩
end Go.Proofs.Ytjehhhlhalkieaa.C
namespace Go.Proofs.Ytjehhhlhalkieaa.C
open Go.RowKit Go.Proofs.YtjehhhlhalkieaaW.PrintWords Go.Proofs.YtjehhhlhalkieaaW.PrintLast Go.Proofs.YtjehhhlhalkieaaW.PrintMore
attribute [local go_sem] Zk Zi Zt Zs Zd Zc Zj Zh
set_option linter.unusedVariables false
set_option linter.unusedSimpArgs false
def newelref19_Give.l0:Nat→Int→List (S56)→List (S62)→Int→Int→Int→List (S56)→List (S62)→Option ((List (S56))×(List (S62)))
 |0,_,_,_,_,_,_,_,_=>none
 |k+1,B,D,X,J,L,O,I,U=>if B<(D.length:Int) then (if 0≤B then (if ((Qi D B).f0)=J then (if ((Qi D B).f1)=L then (if I.length<5864062014805 then (newelref19_Give.l0 k (wrap64 (B+1)) D X J L O (I ++ [(⟨(Qi D B).f0,(Qi D B).f1,O⟩:S56)]) U) else (none)) else (if I.length<5864062014805 then (newelref19_Give.l0 k (wrap64 (B+1)) D X J L O (I ++ [(⟨(Qi D B).f0,(Qi D B).f1,(Qi D B).f2⟩:S56)]) U) else (none))) else (if I.length<5864062014805 then (newelref19_Give.l0 k (wrap64 (B+1)) D X J L O (I ++ [(⟨(Qi D B).f0,(Qi D B).f1,(Qi D B).f2⟩:S56)]) U) else (none))) else (none)) else (some (I,U))
def newelref19_Give.f (k:Nat) (I:List (S56)) (J:List (S62)) (D:Int) (O:Int) (U:Int):Option ((List (S56))×(List (S62))):=newelref19_Give.l0 k 0 I J D O U ([]:List (S56)) J
theorem newelref19_Give.Zo:∀ k,(∀ D I O J L X Y U,LeO (newelref19_Give.l0 k D I O J L X Y U) (newelref19_Give.l0 (k+1) D I O J L X Y U))
 |0=>fun _ _ _ _ _ _ _ _ r h=>by simp[newelref19_Give.l0] at h
 |k+1=>by
  have B:=newelref19_Give.Zo k
  ·intro D I O J L X Y U
   unfold newelref19_Give.l0
   repeat' first
   |(with_reducible exact B _ _ _ _ _ _ _ _)
   |(with_reducible exact LeO.refl _)
   |(with_reducible exact LeO.none _)
   |(with_reducible refine LeO.ite ?_ ?_)
   |(with_reducible refine LeO.bind ?_ (fun _=>?_))
   |exact B _ _ _ _ _ _ _ _
   |exact LeO.none _
   |refine LeO.ite ?_ ?_
   |refine LeO.bind ?_ (fun _=>?_)
theorem newelref19_Give.mono:∀ I D a2 a3 J k,LeO (newelref19_Give.f k I D a2 a3 J) (newelref19_Give.f (k+1) I D a2 a3 J):=by
 intro I D a2 a3 J k
 have B:=newelref19_Give.Zo k
 unfold newelref19_Give.f
 repeat' first
   |(with_reducible exact B _ _ _ _ _ _ _ _)
   |(with_reducible exact LeO.refl _)
   |(with_reducible exact LeO.none _)
   |(with_reducible refine LeO.ite ?_ ?_)
   |(with_reducible refine LeO.bind ?_ (fun _=>?_))
   |exact B _ _ _ _ _ _ _ _
   |exact LeO.none _
   |refine LeO.ite ?_ ?_
   |refine LeO.bind ?_ (fun _=>?_)
set_option maxHeartbeats 8000000 in
set_option maxRecDepth 100000 in
theorem newelref19_Give.calls (k:Nat) (η :Option Addr) (ζ :Nat) (I:List (S56)) (a0:Nat→Prop) (δ :Option Addr) (μ :Nat) (J:List (S62)) (D:Int) (O:Int) (U:Int) (r1:List (S56)) (r2:List (S62)) (w:World) (a2:Kd.C k56 w η I.length I) (a5:I.length ≤ ζ) (ct:Kd.V k62 62 w w.heap.size (fun k_=>a0 k_) (.slice δ J.length μ) J) (h:newelref19_Give.f k I J D O U=some (r1,r2)):
  Calls Try.prog 26 #[.agg #[.slice η I.length ζ,.slice δ J.length μ],.agg #[.int .i64 D,.int .i64 O,.int .i64 U]] w fun e w'=>∃ a6 b9:Value,e = .returned (.agg #[a6,b9])∧Kd.R k56 56 w' w.heap.size (fun k_=>(w.heap.size≤k_)) a6 r1∧Kd.V k62 62 w' w.heap.size (fun k_=>(a0 k_∨w.heap.size≤k_)∧some k_≠(a6:Value).ownBlock) b9 r2∧Below w.heap.size w w':=by
 have db:=Try.underlying27
 have bu:=Try.underlying56
 have ψ :=Aside0.mk a2
 have af:=Aside0.mk a5
 clear a2 a5
 have a1:=Aside0.mk (show Kd.V k62 62 w w.heap.size (fun k_=>(a0 k_∨w.heap.size≤k_)) (.slice δ J.length μ) J from Kd.Z6 ct (fun k_ hk=>.inl hk))
 have HB:=Aside0.mk (Below.refl w.heap.size w)
 have H:(newelref19_Give.l0 k 0 I J D O U ([]:List (S56)) J)=some (r1,r2):=h
 clear h
 have H':=Aside0.mk H
 clear H
 go_enter Try.func26,Try.ntmps26
 go_wp2_with (first|((with_reducible refine Qt (N:=2) rfl ?_);refine Qp ?hg (N:=2) ?hd (cs:=#[.slice η I.length ζ,.slice δ J.length μ]) (t:=27) ?hr ?_;(case hd=>rfl);(case hg=>rfl);(case hr=>go_simp <;> rfl);intro ξ hg w3 hbox hb;have Y:=Aside0.mk hbox;have fy:=sGe hg;have fz:=sGe hg;replace a1:=Aside0.mk (Kd.X4 (Kd.Ya a1.out ξ (Nat.le_of_eq hg.symm)) hb);replace HB:=sHb hb;clear hb hbox hg)|((with_reducible refine Qt (N:=3) rfl ?_);refine Qp ?hg (N:=3) ?hd (cs:=#[.int .i64 D,.int .i64 O,.int .i64 U]) (t:=56) ?hr ?_;(case hd=>rfl);(case hg=>rfl);(case hr=>go_simp <;> rfl);intro κ hg w4 hbox hb;have Z:=Aside0.mk hbox;have g0:=sGe hg;have g1:=sGe hg;have a4:=sNl Y hg;have a7:=sNg Y hg;replace a1:=Aside0.mk (Kd.X4 (Kd.Ya a1.out κ (Nat.le_of_eq hg.symm)) hb);replace Y:=sBk Y hb;replace HB:=sHb hb;clear hb hbox hg)|((with_reducible refine Qt (N:=4) rfl ?_);refine Qp ?hg (N:=4) ?hd (cs:=#[.slice none 0 0,.slice none 0 0]) (t:=27) ?hr ?_;(case hd=>rfl);(case hg=>rfl);(case hr=>go_simp <;> rfl);intro τ hg w5 hbox hb;have ε :=Aside0.mk hbox;have g2:=sGe hg;have g3:=sGe hg;have a9:=sNl Y hg;have aa:=sNg Y hg;have b4:=sNl Z hg;have b5:=sNg Z hg;replace a1:=Aside0.mk (Kd.X4 (Kd.Ya a1.out τ (Nat.le_of_eq hg.symm)) hb);replace Y:=sBk Y hb;replace Z:=sBk Z hb;replace HB:=sHb hb;clear hb hbox hg;have cm:=a4.out;have cr:=a7.out;have dm:=a9.out;have dn:=aa.out;have am:w5.cell? ⟨ξ,0,none⟩=some (.slice η I.length ζ):=(Qa Y.out 0).trans rfl;have an:w5.cell? ⟨ξ,1,none⟩=some (.slice δ J.length μ):=(Qa Y.out 1).trans rfl;have ao:=Qb Y.out 0;have ap:=Qb Y.out 1)|((with_reducible refine Qt (N:=5) rfl ?_);refine Qp ?hg (N:=5) ?hd (cs:=#[.slice none 0 0,.slice none 0 0]) (t:=27) ?hr ?_;(case hd=>rfl);(case hg=>rfl);(case hr=>go_simp <;> rfl);intro γ hg w9 hbox hb;have X:=Aside0.mk hbox;have g6:=sGe hg;have g8:=sGe hg;have ab:=sNl Y hg;have ac:=sNg Y hg;have ae:=sNl Z hg;have ag:=sNg Z hg;have ah:=sNl ε hg;have ai:=sNg ε hg;replace a1:=Aside0.mk (Kd.X4 (Kd.Ya a1.out γ (Nat.le_of_eq hg.symm)) hb);replace Y:=sBk Y hb;replace Z:=sBk Z hb;replace ε :=sBk ε hb;replace HB:=sHb hb;clear hb hbox hg;have d5:=ac.out;have d6:=ab.out;have h4:=ag.out;have h5:=ae.out;have ea:=ai.out;have eb:=ah.out;have bq:w9.cell? ⟨γ,0,none⟩=some (.slice none 0 0):=(Qa X.out 0).trans rfl;have br:w9.cell? ⟨γ,1,none⟩=some (.slice none 0 0):=(Qa X.out 1).trans rfl;have bs:=Qb X.out 0;have ca:=Qb X.out 1))
 go_loopg [6] k (fun kq v6 w'=>∃ (L:Int) (ν :List (S56)) (ι :Value),v6 = .int .i64 L∧Aside0 (newelref19_Give.l0 kq L I J D O U ν J=some (r1,r2))∧Aside0 (kq≤k)∧Aside0 (Kd.V k62 62 w' w.heap.size (fun k_=>(a0 k_∨w.heap.size≤k_)∧some k_≠(ι :Value).ownBlock∧k_ ≠ ξ ∧ k_ ≠ κ ∧ k_ ≠ τ ∧ k_≠γ) (.slice δ J.length μ) J)∧Aside0 (Kd.R k56 56 w' w.heap.size (fun k_=>(w.heap.size≤k_)∧k_ ≠ κ) ι ν)∧Aside0 (Kd.V k62 62 w' w.heap.size (fun k_=>(a0 k_∨w.heap.size≤k_)∧some k_≠(ι :Value).ownBlock∧k_ ≠ ξ ∧ k_ ≠ κ ∧ k_ ≠ τ ∧ k_≠γ) (.slice δ J.length μ) J)∧Aside0 (w'.heap[ξ]?=some (.cells #[(.slice η I.length ζ),(.slice δ J.length μ)] 27 (0,0)))∧Aside0 (w'.heap[κ]?=some (.cells #[.int .i64 D,.int .i64 O,.int .i64 U] 56 (0,0)))∧Aside0 (w'.heap[τ]?=some (.cells #[(.slice none 0 0),(.slice none 0 0)] 27 (0,0)))∧Aside0 (w'.heap[γ]?=some (.cells #[ι,(.slice δ J.length μ)] 27 (0,0)))∧Aside0 (Below w.heap.size w w'))
 case atStart=>exact⟨(0),(([]:List (S56))),(.slice none 0 0),qR,H',⟨Nat.le_refl _⟩,⟨by(with_reducible repeat(first|apply Kd.Xe|apply Kd.Xd|apply Kd.Xn));exact Kd.Z6 (Kd.Xh (p:=⟨γ,1,none⟩) (Kd.Xh (p:=⟨γ,0,none⟩) (Kd.Z6 a1.out (fun k_ hk=>(⟨hk,hk.2⟩:_∧k_≠γ))) (fun _ hk=>hk.2) (.slice none 0 0)) (fun _ hk=>hk.2) (.slice δ J.length μ)) (fun _ hk=>⟨hk.1.1.1.1.1,⟨(by simp[Value.ownBlock]),⟨hk.1.1.1.1.2,⟨hk.1.1.1.2,⟨hk.1.1.2,hk.1.2⟩⟩⟩⟩⟩)⟩,⟨by first|exact Kd.Yd _ _ _ _ _|exact Kd.Je _ _ _ _ _|exact Kd.Jb _ _ _ _ _|exact Kd.Jd _ _ _ _ _|exact Kd.Jc _ _ _ _ _⟩,⟨by(with_reducible repeat(first|apply Kd.Xe|apply Kd.Xd|apply Kd.Xn));exact Kd.Z6 (Kd.Xh (p:=⟨γ,1,none⟩) (Kd.Xh (p:=⟨γ,0,none⟩) (Kd.Z6 a1.out (fun k_ hk=>(⟨hk,hk.2⟩:_∧k_≠γ))) (fun _ hk=>hk.2) (.slice none 0 0)) (fun _ hk=>hk.2) (.slice δ J.length μ)) (fun _ hk=>⟨hk.1.1.1.1.1,⟨(by simp[Value.ownBlock]),⟨hk.1.1.1.1.2,⟨hk.1.1.1.2,⟨hk.1.1.2,hk.1.2⟩⟩⟩⟩⟩)⟩,⟨bka Y⟩,⟨bka Z⟩,⟨bka ε⟩,⟨by(with_reducible repeat(first|refine Qf ?_ _|refine Qc ?_|refine Qg ?_ _));refine Qx (cs:=#[.slice none 0 0,.slice none 0 0]) ?_ 1 _ rfl;(with_reducible repeat(first|refine Qf ?_ _|refine Qc ?_|refine Qg ?_ _));refine Qx (cs:=#[.slice none 0 0,.slice none 0 0]) ?_ 0 _ rfl;(with_reducible repeat(first|refine Qf ?_ _|refine Qc ?_|refine Qg ?_ _));exact X.out⟩,⟨bel⟩⟩
 case round=>
  clear H'
  try clear c1
  try clear c2
  try clear p2
  try clear c6
  try clear c7
  try clear c10
  try clear cg
  try clear cj
  try clear bq
  try clear br
  try clear am
  try clear an
  try clear bs
  try clear ca
  try clear ao
  try clear ap
  obtain⟨L,ν,ι,rfl,HA,σ,HO_470001,HO_473000,HO_473001,Y,Z,ε,X,HB⟩:=hrel
  cases gk with
  |zero=>exact absurd HA.out (by simp[newelref19_Give.l0])
  |succ k1=>
   have H:=HA.out
   clear HA
   simp only[newelref19_Give.l0] at H
   by_cases ay:L<(I.length:Int)
   ·rw[if_pos ay] at H
    have c14b0:decide (L<(I.length:Int))=true:=decide_eq_true ay
    clear ay
    by_cases a8:0≤L
    ·rw[if_pos a8] at H
     have c15b0:decide (0≤L)=true:=decide_eq_true a8
     clear a8
     by_cases a3:((Qi I L).f0)=D
     ·rw[if_pos a3] at H
      have c16b0:(((Qi I L).f0)==D)=true:=beq_iff_eq.mpr a3
      have c16b1:(((Qi I L).f0) != D)=false:=bne_eq_false_iff_eq.mpr a3
      clear a3
      by_cases au:((Qi I L).f1)=O
      ·rw[if_pos au] at H
       have c17b0:(((Qi I L).f1)==O)=true:=beq_iff_eq.mpr au
       have c17b1:(((Qi I L).f1) != O)=false:=bne_eq_false_iff_eq.mpr au
       clear au
       by_cases cb: ν.length<5864062014805
       ·rw[if_pos cb] at H
        have cu:=Aside0.mk cb
        clear cb
        obtain⟨be,b6⟩:∃ y_:List (S56),y_=(ν ++ [(⟨(Qi I L).f0,(Qi I L).f1,U⟩:S56)]):=⟨_,rfl⟩
        replace H:(newelref19_Give.l0 k1 (wrap64 (L+1)) I J D O U be J)=some (r1,r2):=by first|(rw[b6];with_reducible exact H)|(have ρ:=(Option.bind_some _ _).symm.trans H;rw[b6];with_reducible exact ρ)|(have ρ:=(Option.bind_some _ _).symm.trans H;with_reducible exact ρ)|with_reducible exact H|(rw[b6];exact H)|exact H
        have cx:=Aside0.mk b6
        clear b6
        have H':=Aside0.mk H
        clear H
        have bl:=a4.out
        have dh:=a7.out
        have ec:=a9.out
        have ed:=aa.out
        have e9:=ab.out
        have em:=ac.out
        have bj:wr.cell? ⟨ξ,0,none⟩=some (.slice η I.length ζ):=(Qa Y.out 0).trans rfl
        have bk:wr.cell? ⟨ξ,1,none⟩=some (.slice δ J.length μ):=(Qa Y.out 1).trans rfl
        have bn:=Qb Y.out 0
        have bv:=Qb Y.out 1
        have b2:0≤(L:Int):=of_decide_eq_true (by assumption)
        have b3:L<(I.length:Int):=of_decide_eq_true (by assumption)
        obtain⟨b7,bc,φ,χ,ω⟩:=Z5 ψ.out L b2 b3
        cases bc
        replace φ :=(HB.out.cell (World.block_lt_of_cell? w _ φ)).trans φ
        replace χ :=(HB.out.cell (World.block_lt_of_cell? w _ χ)).trans χ
        replace ω :=(HB.out.cell (World.block_lt_of_cell? w _ ω)).trans ω
        replace b2:=eq_true b2
        replace b3:=eq_true b3
        go_wp2_with (first|((with_reducible refine Qt (N:=7) rfl ?_);refine Qp ?hg (N:=7) ?hd (cs:=#[.int .i64 0,.int .i64 0,.int .i64 0]) (t:=56) ?hr ?_;(case hd=>rfl);(case hg=>rfl);(case hr=>go_simp <;> rfl);intro B hg cd hbox hb;have θ :=Aside0.mk hbox;have bh:=sGe hg;have bm:=sGe hg;have aj:=sNl Y hg;have ak:=sNg Y hg;have al:=sNl Z hg;have ar:=sNg Z hg;have av:=sNl ε hg;have az:=sNg ε hg;have b0:=sNl X hg;have b1:=sNg X hg;replace HO_470001:=Aside0.mk (Kd.X4 (Kd.Ya (by(with_reducible repeat(first|apply Kd.Xe|apply Kd.Xd|apply Kd.Xn));exact HO_470001.out) B (Nat.le_of_eq hg.symm)) hb);replace HO_473000:=Aside0.mk (Kd.Qw (Kd.Y3 (kra HO_473000) B (Nat.le_of_eq hg.symm)) hb);replace HO_473001:=Aside0.mk (Kd.X4 (Kd.Ya (by(with_reducible repeat(first|apply Kd.Xe|apply Kd.Xd|apply Kd.Xn));exact HO_473001.out) B (Nat.le_of_eq hg.symm)) hb);replace Y:=sBk Y hb;replace Z:=sBk Z hb;replace ε :=sBk ε hb;replace X:=sBk X hb;replace HB:=sHb hb;clear hb hbox hg;have eo:=ak.out;have ep:=aj.out;have d7:=ar.out;have d8:=al.out;have e7:=az.out;have e8:=av.out;have di:=b1.out;have dj:=b0.out;have d0:cd.cell? ⟨B,0,none⟩=some (.int .i64 0):=(Qa θ.out 0).trans rfl;have d1:cd.cell? ⟨B,1,none⟩=some (.int .i64 0):=(Qa θ.out 1).trans rfl;have bz:cd.cell? ⟨B,2,none⟩=some (.int .i64 0):=(Qa θ.out 2).trans rfl;have d2:=Qb θ.out 0;have d3:=Qb θ.out 1;have cf:=Qb θ.out 2;have hdd_:∀ a_ b_ c_ d_:Value,((((cd.setCell ⟨B,0,none⟩ a_).setCell ⟨B,1,none⟩ b_).setCell ⟨B,2,none⟩ c_).setCell ⟨B,2,none⟩ d_).cell? ⟨B,2,none⟩=some d_:=fun a_ b_ c_ d_=>(by refine(Qa (cs:=#[a_,b_,d_]) (t:=56) ?_ 2).trans rfl;refine Qx (cs:=#[a_,b_,c_]) ?_ 2 _ rfl;refine Qx (cs:=#[a_,b_,.int .i64 0]) ?_ 2 _ rfl;refine Qx (cs:=#[a_,.int .i64 0,.int .i64 0]) ?_ 1 _ rfl;refine Qx (cs:=#[.int .i64 0,.int .i64 0,.int .i64 0]) ?_ 0 _ rfl;exact θ.out);have j3:=b4.out;have j4:=b5.out;have i1:=ae.out;have i2:=ag.out;have fn:cd.cell? ⟨κ,0,none⟩=some (.int .i64 D):=(Qa Z.out 0).trans rfl;have fo:cd.cell? ⟨κ,1,none⟩=some (.int .i64 O):=(Qa Z.out 1).trans rfl;have dx:cd.cell? ⟨κ,2,none⟩=some (.int .i64 U):=(Qa Z.out 2).trans rfl;have fp:=Qb Z.out 0;have fq:=Qb Z.out 1;have e5:=Qb Z.out 2;have fg:=ai.out;have fh:=ah.out;have ck:cd.cell? ⟨γ,0,none⟩=some (ι):=(Qa X.out 0).trans rfl;have cq:cd.cell? ⟨γ,1,none⟩=some (.slice δ J.length μ):=(Qa X.out 1).trans rfl;have cv:=Qb X.out 0;have df:=Qb X.out 1)|((with_reducible refine Xc (b:=.append) (xs:=#[.tmp 39,.tmp 41]) rfl ?_);at_builtin;refine Kd.Jm k56 (w0:=w) w.heap.size rfl (.tmp 39) (.tmp 41) 24 56 (.agg #[(.int .i64 0),(.int .i64 0),(.int .i64 0)]) 24 rfl Try.underlying24 Yl rfl (by decide) (by omega) ι ν (⟨(Qi I L).f0,(Qi I L).f1,U⟩:S56) [.int .i64 ((Qi I L).f0),.int .i64 ((Qi I L).f1),.int .i64 U] (fun k_=>(w.heap.size≤k_)∧k_ ≠ κ ∧ k_≠B) (fun _=>False) rfl (by first|(go_simp;done)|(go_simp;rfl)) ?aP (fun _ hk=>hk.elim) ?aF ?aO ?aB ?aS ?aL ?_;(case aP=>exact Yg _ _ _ (⟨(Qi I L).f0,(Qi I L).f1,U⟩:S56));(case aB=>exact bel);(case aF=>exact(fun k_ hk=>⟨(Nat.le_trans (Qk bel) hk),Kd.Yr (g:= κ) (o:=.cells #[.int .i64 D,.int .i64 O,.int .i64 U] 56 (0,0)) (bka Z) k_ hk,Kd.Yr (g:=B) (o:=.cells #[.int .i64 ((Qi I L).f0),.int .i64 ((Qi I L).f1),.int .i64 U] 56 (0,0)) (by(with_reducible repeat(first|refine Qf ?_ _|refine Qc ?_|refine Qg ?_ _));refine Qx (cs:=#[.int .i64 ((Qi I L).f0),.int .i64 ((Qi I L).f1),.int .i64 ((Qi I L).f2)]) ?_ 2 _ rfl;(with_reducible repeat(first|refine Qf ?_ _|refine Qc ?_|refine Qg ?_ _));refine Qx (cs:=#[.int .i64 ((Qi I L).f0),.int .i64 ((Qi I L).f1),.int .i64 0]) ?_ 2 _ rfl;(with_reducible repeat(first|refine Qf ?_ _|refine Qc ?_|refine Qg ?_ _));refine Qx (cs:=#[.int .i64 ((Qi I L).f0),.int .i64 0,.int .i64 0]) ?_ 1 _ rfl;(with_reducible repeat(first|refine Qf ?_ _|refine Qc ?_|refine Qg ?_ _));refine Qx (cs:=#[.int .i64 0,.int .i64 0,.int .i64 0]) ?_ 0 _ rfl;(with_reducible repeat(first|refine Qf ?_ _|refine Qc ?_|refine Qg ?_ _));exact θ.out) k_ hk⟩));(case aO=>exact(by(with_reducible repeat(first|apply Kd.Qm|apply Kd.Ql|apply Kd.Qo));exact Kd.Qs (Kd.Qu (Kd.Qu (Kd.Qu (Kd.Qu (Kd.Qs HO_473000.out (fun k_ hk=>(⟨hk,hk.2⟩:_∧k_≠B))) (fun _ hk=>hk.2) (.int .i64 ((Qi I L).f0))) (fun _ hk=>hk.2) (.int .i64 ((Qi I L).f1))) (fun _ hk=>hk.2) (.int .i64 ((Qi I L).f2))) (fun _ hk=>hk.2) (.int .i64 U)) (fun _ hk=>⟨hk.1.1.1,⟨hk.1.1.2,hk.1.2⟩⟩)));(case aS=>exact(Qk bel));(case aL=>have:=cu.out;omega);intro h0 ch ho hb hg hat;rw[← cx.out] at ho;have bo:=Aside0.mk ho;replace HO_470001:=Aside0.mk (Kd.Jl (ok:=(fun k_=>(a0 k_∨w.heap.size≤k_)∧k_ ≠ ξ ∧ k_ ≠ κ ∧ k_ ≠ τ ∧ k_≠γ∧k_≠B)) (by(with_reducible repeat(first|apply Kd.Xe|apply Kd.Xd|apply Kd.Xn));exact Kd.Z6 (Kd.Xh (p:=⟨B,2,none⟩) (Kd.Xh (p:=⟨B,2,none⟩) (Kd.Xh (p:=⟨B,1,none⟩) (Kd.Xh (p:=⟨B,0,none⟩) (Kd.Z6 HO_470001.out (fun k_ hk=>(⟨hk,hk.2⟩:_∧k_≠B))) (fun _ hk=>hk.2) (.int .i64 ((Qi I L).f0))) (fun _ hk=>hk.2) (.int .i64 ((Qi I L).f1))) (fun _ hk=>hk.2) (.int .i64 ((Qi I L).f2))) (fun _ hk=>hk.2) (.int .i64 U)) (fun _ hk=>⟨⟨hk.1.1.1,⟨hk.1.1.2.2.1,⟨hk.1.1.2.2.2.1,⟨hk.1.1.2.2.2.2.1,⟨hk.1.1.2.2.2.2.2,hk.1.2⟩⟩⟩⟩⟩,hk.1.1.2.1⟩)) hg hat);replace HO_473001:=Aside0.mk (Kd.Jl (ok:=(fun k_=>(a0 k_∨w.heap.size≤k_)∧k_ ≠ ξ ∧ k_ ≠ κ ∧ k_ ≠ τ ∧ k_≠γ∧k_≠B)) (by(with_reducible repeat(first|apply Kd.Xe|apply Kd.Xd|apply Kd.Xn));exact Kd.Z6 (Kd.Xh (p:=⟨B,2,none⟩) (Kd.Xh (p:=⟨B,2,none⟩) (Kd.Xh (p:=⟨B,1,none⟩) (Kd.Xh (p:=⟨B,0,none⟩) (Kd.Z6 HO_473001.out (fun k_ hk=>(⟨hk,hk.2⟩:_∧k_≠B))) (fun _ hk=>hk.2) (.int .i64 ((Qi I L).f0))) (fun _ hk=>hk.2) (.int .i64 ((Qi I L).f1))) (fun _ hk=>hk.2) (.int .i64 ((Qi I L).f2))) (fun _ hk=>hk.2) (.int .i64 U)) (fun _ hk=>⟨⟨hk.1.1.1,⟨hk.1.1.2.2.1,⟨hk.1.1.2.2.2.1,⟨hk.1.1.2.2.2.2.1,⟨hk.1.1.2.2.2.2.2,hk.1.2⟩⟩⟩⟩⟩,hk.1.1.2.1⟩)) hg hat);replace Y:=Aside0.mk (Zb (g:= ξ) (o:=.cells #[.slice (some b7) I.length ζ,.slice δ J.length μ] 27 (0,0)) (bka Y) hg (Kd.X1 HO_473000.out Y.out (by decide)));replace Z:=Aside0.mk (Zb (g:= κ) (o:=.cells #[.int .i64 D,.int .i64 O,.int .i64 U] 56 (0,0)) (bka Z) hg (Kd.Y4 HO_473000.out (fun _ hk=>hk.1.2)));replace ε :=Aside0.mk (Zb (g:= τ) (o:=.cells #[.slice none 0 0,.slice none 0 0] 27 (0,0)) (bka ε) hg (Kd.X1 HO_473000.out ε.out (by decide)));replace X:=Aside0.mk (Zb (g:=γ) (o:=.cells #[ι,.slice δ J.length μ] 27 (0,0)) (bka X) hg (Kd.X1 HO_473000.out X.out (by decide)));replace θ :=Aside0.mk (Zb (g:=B) (o:=.cells #[.int .i64 ((Qi I L).f0),.int .i64 ((Qi I L).f1),.int .i64 U] 56 (0,0)) (by(with_reducible repeat(first|refine Qf ?_ _|refine Qc ?_|refine Qg ?_ _));refine Qx (cs:=#[.int .i64 ((Qi I L).f0),.int .i64 ((Qi I L).f1),.int .i64 ((Qi I L).f2)]) ?_ 2 _ rfl;(with_reducible repeat(first|refine Qf ?_ _|refine Qc ?_|refine Qg ?_ _));refine Qx (cs:=#[.int .i64 ((Qi I L).f0),.int .i64 ((Qi I L).f1),.int .i64 0]) ?_ 2 _ rfl;(with_reducible repeat(first|refine Qf ?_ _|refine Qc ?_|refine Qg ?_ _));refine Qx (cs:=#[.int .i64 ((Qi I L).f0),.int .i64 0,.int .i64 0]) ?_ 1 _ rfl;(with_reducible repeat(first|refine Qf ?_ _|refine Qc ?_|refine Qg ?_ _));refine Qx (cs:=#[.int .i64 0,.int .i64 0,.int .i64 0]) ?_ 0 _ rfl;(with_reducible repeat(first|refine Qf ?_ _|refine Qc ?_|refine Qg ?_ _));exact θ.out) hg (Kd.Y4 HO_473000.out (fun _ hk=>hk.2)));replace HB:=Aside0.mk hb;clear HO_473000;clear ho hb hg hat;obtain⟨ax,aw,ey⟩:=Kd.Q6 bo.out;subst ey;have gp:ch.cell? ⟨γ,0,none⟩=some (ι):=(Qa X.out 0).trans rfl;have gq:ch.cell? ⟨γ,1,none⟩=some (.slice δ J.length μ):=(Qa X.out 1).trans rfl;have gr:=Qb X.out 0;have gt:=Qb X.out 1))
        go_roundg k1
        case measure=>have:=σ.out;omega
        case rel=>exact⟨(wrap64 (L+1)),(be),(.slice ax be.length aw),qR,H',⟨by have:=σ.out;omega⟩,⟨by(with_reducible repeat(first|apply Kd.Xe|apply Kd.Xd|apply Kd.Xn));exact Kd.Z6 (Kd.Xh (p:=⟨γ,0,none⟩) (Kd.Z6 HO_470001.out (fun k_ hk=>(⟨hk,hk.1.2.2.2.2.1⟩:_∧k_≠γ))) (fun _ hk=>hk.2) _) (fun _ hk=>⟨hk.1.1.1,⟨hk.1.2,⟨hk.1.1.2.1,⟨hk.1.1.2.2.1,⟨hk.1.1.2.2.2.1,hk.1.1.2.2.2.2.1⟩⟩⟩⟩⟩)⟩,⟨by(with_reducible repeat(first|apply Kd.Qm|apply Kd.Ql|apply Kd.Qo));exact Kd.Qs (Kd.Qu (Kd.Qy bo.out X.out (by decide)) (fun _ hk=>hk.2) _) (fun _ hk=>⟨hk.1.1,hk.1.2.1⟩)⟩,⟨by(with_reducible repeat(first|apply Kd.Xe|apply Kd.Xd|apply Kd.Xn));exact Kd.Z6 (Kd.Xh (p:=⟨γ,0,none⟩) (Kd.Z6 HO_473001.out (fun k_ hk=>(⟨hk,hk.1.2.2.2.2.1⟩:_∧k_≠γ))) (fun _ hk=>hk.2) _) (fun _ hk=>⟨hk.1.1.1,⟨hk.1.2,⟨hk.1.1.2.1,⟨hk.1.1.2.2.1,⟨hk.1.1.2.2.2.1,hk.1.1.2.2.2.2.1⟩⟩⟩⟩⟩)⟩,⟨bka Y⟩,⟨bka Z⟩,⟨bka ε⟩,⟨by(with_reducible repeat(first|refine Qf ?_ _|refine Qc ?_|refine Qg ?_ _));refine Qx (cs:=#[ι,.slice δ J.length μ]) ?_ 0 _ rfl;(with_reducible repeat(first|refine Qf ?_ _|refine Qc ?_|refine Qg ?_ _));exact X.out⟩,⟨bel⟩⟩
       ·rw[if_neg cb] at H
        exact absurd H (by simp)
      ·rw[if_neg au] at H
       have c17b0:(((Qi I L).f1)==O)=false:=beq_eq_false_iff_ne.mpr au
       have c17b1:(((Qi I L).f1) != O)=true:=bne_iff_ne.mpr au
       by_cases fb: ν.length<5864062014805
       ·rw[if_pos fb] at H
        have cy:=Aside0.mk fb
        clear fb
        obtain⟨bf,b8⟩:∃ y_:List (S56),y_=(ν ++ [(⟨(Qi I L).f0,(Qi I L).f1,(Qi I L).f2⟩:S56)]):=⟨_,rfl⟩
        replace H:(newelref19_Give.l0 k1 (wrap64 (L+1)) I J D O U bf J)=some (r1,r2):=by first|(rw[b8];with_reducible exact H)|(have ρ:=(Option.bind_some _ _).symm.trans H;rw[b8];with_reducible exact ρ)|(have ρ:=(Option.bind_some _ _).symm.trans H;with_reducible exact ρ)|with_reducible exact H|(rw[b8];exact H)|exact H
        have dc:=Aside0.mk b8
        clear b8
        have H':=Aside0.mk H
        clear H
        have g4:=a4.out
        have g5:=a7.out
        have i7:=a9.out
        have i9:=aa.out
        have ez:=ab.out
        have f3:=ac.out
        have cn:wr.cell? ⟨ξ,0,none⟩=some (.slice η I.length ζ):=(Qa Y.out 0).trans rfl
        have co:wr.cell? ⟨ξ,1,none⟩=some (.slice δ J.length μ):=(Qa Y.out 1).trans rfl
        have cp:=Qb Y.out 0
        have cw:=Qb Y.out 1
        have b2:0≤(L:Int):=of_decide_eq_true (by assumption)
        have b3:L<(I.length:Int):=of_decide_eq_true (by assumption)
        obtain⟨b7,bc,φ,χ,ω⟩:=Z5 ψ.out L b2 b3
        cases bc
        replace φ :=(HB.out.cell (World.block_lt_of_cell? w _ φ)).trans φ
        replace χ :=(HB.out.cell (World.block_lt_of_cell? w _ χ)).trans χ
        replace ω :=(HB.out.cell (World.block_lt_of_cell? w _ ω)).trans ω
        replace b2:=eq_true b2
        replace b3:=eq_true b3
        go_wp2_with (first|((with_reducible refine Qt (N:=7) rfl ?_);refine Qp ?hg (N:=7) ?hd (cs:=#[.int .i64 0,.int .i64 0,.int .i64 0]) (t:=56) ?hr ?_;(case hd=>rfl);(case hg=>rfl);(case hr=>go_simp <;> rfl);intro B hg bb hbox hb;have θ :=Aside0.mk hbox;have bh:=sGe hg;have bm:=sGe hg;have aj:=sNl Y hg;have ak:=sNg Y hg;have al:=sNl Z hg;have ar:=sNg Z hg;have av:=sNl ε hg;have az:=sNg ε hg;have b0:=sNl X hg;have b1:=sNg X hg;replace HO_470001:=Aside0.mk (Kd.X4 (Kd.Ya (by(with_reducible repeat(first|apply Kd.Xe|apply Kd.Xd|apply Kd.Xn));exact HO_470001.out) B (Nat.le_of_eq hg.symm)) hb);replace HO_473000:=Aside0.mk (Kd.Qw (Kd.Y3 (kra HO_473000) B (Nat.le_of_eq hg.symm)) hb);replace HO_473001:=Aside0.mk (Kd.X4 (Kd.Ya (by(with_reducible repeat(first|apply Kd.Xe|apply Kd.Xd|apply Kd.Xn));exact HO_473001.out) B (Nat.le_of_eq hg.symm)) hb);replace Y:=sBk Y hb;replace Z:=sBk Z hb;replace ε :=sBk ε hb;replace X:=sBk X hb;replace HB:=sHb hb;clear hb hbox hg;have dq:=ak.out;have dr:=aj.out;have jk:=ar.out;have jl:=al.out;have ge:=az.out;have gf:=av.out;have h6:=b1.out;have h7:=b0.out;have e6:bb.cell? ⟨B,0,none⟩=some (.int .i64 0):=(Qa θ.out 0).trans rfl;have ef:bb.cell? ⟨B,1,none⟩=some (.int .i64 0):=(Qa θ.out 1).trans rfl;have eg:bb.cell? ⟨B,2,none⟩=some (.int .i64 0):=(Qa θ.out 2).trans rfl;have eh:=Qb θ.out 0;have ei:=Qb θ.out 1;have ej:=Qb θ.out 2;have g9:=b4.out;have ga:=b5.out;have h8:=ae.out;have h9:=ag.out;have ek:bb.cell? ⟨κ,0,none⟩=some (.int .i64 D):=(Qa Z.out 0).trans rfl;have el:bb.cell? ⟨κ,1,none⟩=some (.int .i64 O):=(Qa Z.out 1).trans rfl;have en:bb.cell? ⟨κ,2,none⟩=some (.int .i64 U):=(Qa Z.out 2).trans rfl;have er:=Qb Z.out 0;have et:=Qb Z.out 1;have ew:=Qb Z.out 2;have g7:=ai.out;have gg:=ah.out;have dy:bb.cell? ⟨γ,0,none⟩=some (ι):=(Qa X.out 0).trans rfl;have e0:bb.cell? ⟨γ,1,none⟩=some (.slice δ J.length μ):=(Qa X.out 1).trans rfl;have e3:=Qb X.out 0;have e4:=Qb X.out 1)|((with_reducible refine Xc (b:=.append) (xs:=#[.tmp 39,.tmp 41]) rfl ?_);at_builtin;refine Kd.Jm k56 (w0:=w) w.heap.size rfl (.tmp 39) (.tmp 41) 24 56 (.agg #[(.int .i64 0),(.int .i64 0),(.int .i64 0)]) 24 rfl Try.underlying24 Yl rfl (by decide) (by omega) ι ν (⟨(Qi I L).f0,(Qi I L).f1,(Qi I L).f2⟩:S56) [.int .i64 ((Qi I L).f0),.int .i64 ((Qi I L).f1),.int .i64 ((Qi I L).f2)] (fun k_=>(w.heap.size≤k_)∧k_ ≠ κ ∧ k_≠B) (fun _=>False) rfl (by first|(go_simp;done)|(go_simp;rfl)) ?aP (fun _ hk=>hk.elim) ?aF ?aO ?aB ?aS ?aL ?_;(case aP=>exact Yg _ _ _ (⟨(Qi I L).f0,(Qi I L).f1,(Qi I L).f2⟩:S56));(case aB=>exact bel);(case aF=>exact(fun k_ hk=>⟨(Nat.le_trans (Qk bel) hk),Kd.Yr (g:= κ) (o:=.cells #[.int .i64 D,.int .i64 O,.int .i64 U] 56 (0,0)) (bka Z) k_ hk,Kd.Yr (g:=B) (o:=.cells #[.int .i64 ((Qi I L).f0),.int .i64 ((Qi I L).f1),.int .i64 ((Qi I L).f2)] 56 (0,0)) (by(with_reducible repeat(first|refine Qf ?_ _|refine Qc ?_|refine Qg ?_ _));refine Qx (cs:=#[.int .i64 ((Qi I L).f0),.int .i64 ((Qi I L).f1),.int .i64 0]) ?_ 2 _ rfl;(with_reducible repeat(first|refine Qf ?_ _|refine Qc ?_|refine Qg ?_ _));refine Qx (cs:=#[.int .i64 ((Qi I L).f0),.int .i64 0,.int .i64 0]) ?_ 1 _ rfl;(with_reducible repeat(first|refine Qf ?_ _|refine Qc ?_|refine Qg ?_ _));refine Qx (cs:=#[.int .i64 0,.int .i64 0,.int .i64 0]) ?_ 0 _ rfl;(with_reducible repeat(first|refine Qf ?_ _|refine Qc ?_|refine Qg ?_ _));exact θ.out) k_ hk⟩));(case aO=>exact(by(with_reducible repeat(first|apply Kd.Qm|apply Kd.Ql|apply Kd.Qo));exact Kd.Qs (Kd.Qu (Kd.Qu (Kd.Qu (Kd.Qs HO_473000.out (fun k_ hk=>(⟨hk,hk.2⟩:_∧k_≠B))) (fun _ hk=>hk.2) (.int .i64 ((Qi I L).f0))) (fun _ hk=>hk.2) (.int .i64 ((Qi I L).f1))) (fun _ hk=>hk.2) (.int .i64 ((Qi I L).f2))) (fun _ hk=>⟨hk.1.1.1,⟨hk.1.1.2,hk.1.2⟩⟩)));(case aS=>exact(Qk bel));(case aL=>have:=cy.out;omega);intro ha gs ho hb hg hat;rw[← dc.out] at ho;have bp:=Aside0.mk ho;replace HO_470001:=Aside0.mk (Kd.Jl (ok:=(fun k_=>(a0 k_∨w.heap.size≤k_)∧k_ ≠ ξ ∧ k_ ≠ κ ∧ k_ ≠ τ ∧ k_≠γ∧k_≠B)) (by(with_reducible repeat(first|apply Kd.Xe|apply Kd.Xd|apply Kd.Xn));exact Kd.Z6 (Kd.Xh (p:=⟨B,2,none⟩) (Kd.Xh (p:=⟨B,1,none⟩) (Kd.Xh (p:=⟨B,0,none⟩) (Kd.Z6 HO_470001.out (fun k_ hk=>(⟨hk,hk.2⟩:_∧k_≠B))) (fun _ hk=>hk.2) (.int .i64 ((Qi I L).f0))) (fun _ hk=>hk.2) (.int .i64 ((Qi I L).f1))) (fun _ hk=>hk.2) (.int .i64 ((Qi I L).f2))) (fun _ hk=>⟨⟨hk.1.1.1,⟨hk.1.1.2.2.1,⟨hk.1.1.2.2.2.1,⟨hk.1.1.2.2.2.2.1,⟨hk.1.1.2.2.2.2.2,hk.1.2⟩⟩⟩⟩⟩,hk.1.1.2.1⟩)) hg hat);replace HO_473001:=Aside0.mk (Kd.Jl (ok:=(fun k_=>(a0 k_∨w.heap.size≤k_)∧k_ ≠ ξ ∧ k_ ≠ κ ∧ k_ ≠ τ ∧ k_≠γ∧k_≠B)) (by(with_reducible repeat(first|apply Kd.Xe|apply Kd.Xd|apply Kd.Xn));exact Kd.Z6 (Kd.Xh (p:=⟨B,2,none⟩) (Kd.Xh (p:=⟨B,1,none⟩) (Kd.Xh (p:=⟨B,0,none⟩) (Kd.Z6 HO_473001.out (fun k_ hk=>(⟨hk,hk.2⟩:_∧k_≠B))) (fun _ hk=>hk.2) (.int .i64 ((Qi I L).f0))) (fun _ hk=>hk.2) (.int .i64 ((Qi I L).f1))) (fun _ hk=>hk.2) (.int .i64 ((Qi I L).f2))) (fun _ hk=>⟨⟨hk.1.1.1,⟨hk.1.1.2.2.1,⟨hk.1.1.2.2.2.1,⟨hk.1.1.2.2.2.2.1,⟨hk.1.1.2.2.2.2.2,hk.1.2⟩⟩⟩⟩⟩,hk.1.1.2.1⟩)) hg hat);replace Y:=Aside0.mk (Zb (g:= ξ) (o:=.cells #[.slice (some b7) I.length ζ,.slice δ J.length μ] 27 (0,0)) (bka Y) hg (Kd.X1 HO_473000.out Y.out (by decide)));replace Z:=Aside0.mk (Zb (g:= κ) (o:=.cells #[.int .i64 D,.int .i64 O,.int .i64 U] 56 (0,0)) (bka Z) hg (Kd.Y4 HO_473000.out (fun _ hk=>hk.1.2)));replace ε :=Aside0.mk (Zb (g:= τ) (o:=.cells #[.slice none 0 0,.slice none 0 0] 27 (0,0)) (bka ε) hg (Kd.X1 HO_473000.out ε.out (by decide)));replace X:=Aside0.mk (Zb (g:=γ) (o:=.cells #[ι,.slice δ J.length μ] 27 (0,0)) (bka X) hg (Kd.X1 HO_473000.out X.out (by decide)));replace θ :=Aside0.mk (Zb (g:=B) (o:=.cells #[.int .i64 ((Qi I L).f0),.int .i64 ((Qi I L).f1),.int .i64 ((Qi I L).f2)] 56 (0,0)) (by(with_reducible repeat(first|refine Qf ?_ _|refine Qc ?_|refine Qg ?_ _));refine Qx (cs:=#[.int .i64 ((Qi I L).f0),.int .i64 ((Qi I L).f1),.int .i64 0]) ?_ 2 _ rfl;(with_reducible repeat(first|refine Qf ?_ _|refine Qc ?_|refine Qg ?_ _));refine Qx (cs:=#[.int .i64 ((Qi I L).f0),.int .i64 0,.int .i64 0]) ?_ 1 _ rfl;(with_reducible repeat(first|refine Qf ?_ _|refine Qc ?_|refine Qg ?_ _));refine Qx (cs:=#[.int .i64 0,.int .i64 0,.int .i64 0]) ?_ 0 _ rfl;(with_reducible repeat(first|refine Qf ?_ _|refine Qc ?_|refine Qg ?_ _));exact θ.out) hg (Kd.Y4 HO_473000.out (fun _ hk=>hk.2)));replace HB:=Aside0.mk hb;clear HO_473000;clear ho hb hg hat;obtain⟨bd,bi,fc⟩:=Kd.Q6 bp.out;subst fc;have fa:gs.cell? ⟨γ,0,none⟩=some (ι):=(Qa X.out 0).trans rfl;have fe:gs.cell? ⟨γ,1,none⟩=some (.slice δ J.length μ):=(Qa X.out 1).trans rfl;have ff:=Qb X.out 0;have fi:=Qb X.out 1))
        go_roundg k1
        case measure=>have:=σ.out;omega
        case rel=>exact⟨(wrap64 (L+1)),(bf),(.slice bd bf.length bi),qR,H',⟨by have:=σ.out;omega⟩,⟨by(with_reducible repeat(first|apply Kd.Xe|apply Kd.Xd|apply Kd.Xn));exact Kd.Z6 (Kd.Xh (p:=⟨γ,0,none⟩) (Kd.Z6 HO_470001.out (fun k_ hk=>(⟨hk,hk.1.2.2.2.2.1⟩:_∧k_≠γ))) (fun _ hk=>hk.2) _) (fun _ hk=>⟨hk.1.1.1,⟨hk.1.2,⟨hk.1.1.2.1,⟨hk.1.1.2.2.1,⟨hk.1.1.2.2.2.1,hk.1.1.2.2.2.2.1⟩⟩⟩⟩⟩)⟩,⟨by(with_reducible repeat(first|apply Kd.Qm|apply Kd.Ql|apply Kd.Qo));exact Kd.Qs (Kd.Qu (Kd.Qy bp.out X.out (by decide)) (fun _ hk=>hk.2) _) (fun _ hk=>⟨hk.1.1,hk.1.2.1⟩)⟩,⟨by(with_reducible repeat(first|apply Kd.Xe|apply Kd.Xd|apply Kd.Xn));exact Kd.Z6 (Kd.Xh (p:=⟨γ,0,none⟩) (Kd.Z6 HO_473001.out (fun k_ hk=>(⟨hk,hk.1.2.2.2.2.1⟩:_∧k_≠γ))) (fun _ hk=>hk.2) _) (fun _ hk=>⟨hk.1.1.1,⟨hk.1.2,⟨hk.1.1.2.1,⟨hk.1.1.2.2.1,⟨hk.1.1.2.2.2.1,hk.1.1.2.2.2.2.1⟩⟩⟩⟩⟩)⟩,⟨bka Y⟩,⟨bka Z⟩,⟨bka ε⟩,⟨by(with_reducible repeat(first|refine Qf ?_ _|refine Qc ?_|refine Qg ?_ _));refine Qx (cs:=#[ι,.slice δ J.length μ]) ?_ 0 _ rfl;(with_reducible repeat(first|refine Qf ?_ _|refine Qc ?_|refine Qg ?_ _));exact X.out⟩,⟨bel⟩⟩
       ·rw[if_neg fb] at H
        exact absurd H (by simp)
     ·rw[if_neg a3] at H
      have c16b0:(((Qi I L).f0)==D)=false:=beq_eq_false_iff_ne.mpr a3
      have c16b1:(((Qi I L).f0) != D)=true:=bne_iff_ne.mpr a3
      by_cases ee: ν.length<5864062014805
      ·rw[if_pos ee] at H
       have dk:=Aside0.mk ee
       clear ee
       obtain⟨bg,ba⟩:∃ y_:List (S56),y_=(ν ++ [(⟨(Qi I L).f0,(Qi I L).f1,(Qi I L).f2⟩:S56)]):=⟨_,rfl⟩
       replace H:(newelref19_Give.l0 k1 (wrap64 (L+1)) I J D O U bg J)=some (r1,r2):=by first|(rw[ba];with_reducible exact H)|(have ρ:=(Option.bind_some _ _).symm.trans H;rw[ba];with_reducible exact ρ)|(have ρ:=(Option.bind_some _ _).symm.trans H;with_reducible exact ρ)|with_reducible exact H|(rw[ba];exact H)|exact H
       have dl:=Aside0.mk ba
       clear ba
       have H':=Aside0.mk H
       clear H
       have ks:=a4.out
       have kt:=a7.out
       have i3:=a9.out
       have i4:=aa.out
       have j5:=ab.out
       have j6:=ac.out
       have gj:wr.cell? ⟨ξ,0,none⟩=some (.slice η I.length ζ):=(Qa Y.out 0).trans rfl
       have gl:wr.cell? ⟨ξ,1,none⟩=some (.slice δ J.length μ):=(Qa Y.out 1).trans rfl
       have gm:=Qb Y.out 0
       have gn:=Qb Y.out 1
       have b2:0≤(L:Int):=of_decide_eq_true (by assumption)
       have b3:L<(I.length:Int):=of_decide_eq_true (by assumption)
       obtain⟨b7,bc,φ,χ,ω⟩:=Z5 ψ.out L b2 b3
       cases bc
       replace φ :=(HB.out.cell (World.block_lt_of_cell? w _ φ)).trans φ
       replace χ :=(HB.out.cell (World.block_lt_of_cell? w _ χ)).trans χ
       replace ω :=(HB.out.cell (World.block_lt_of_cell? w _ ω)).trans ω
       replace b2:=eq_true b2
       replace b3:=eq_true b3
       go_wp2_with (first|((with_reducible refine Qt (N:=7) rfl ?_);refine Qp ?hg (N:=7) ?hd (cs:=#[.int .i64 0,.int .i64 0,.int .i64 0]) (t:=56) ?hr ?_;(case hd=>rfl);(case hg=>rfl);(case hr=>go_simp <;> rfl);intro B hg dd hbox hb;have θ :=Aside0.mk hbox;have bh:=sGe hg;have bm:=sGe hg;have aj:=sNl Y hg;have ak:=sNg Y hg;have al:=sNl Z hg;have ar:=sNg Z hg;have av:=sNl ε hg;have az:=sNg ε hg;have b0:=sNl X hg;have b1:=sNg X hg;replace HO_470001:=Aside0.mk (Kd.X4 (Kd.Ya (by(with_reducible repeat(first|apply Kd.Xe|apply Kd.Xd|apply Kd.Xn));exact HO_470001.out) B (Nat.le_of_eq hg.symm)) hb);replace HO_473000:=Aside0.mk (Kd.Qw (Kd.Y3 (kra HO_473000) B (Nat.le_of_eq hg.symm)) hb);replace HO_473001:=Aside0.mk (Kd.X4 (Kd.Ya (by(with_reducible repeat(first|apply Kd.Xe|apply Kd.Xd|apply Kd.Xn));exact HO_473001.out) B (Nat.le_of_eq hg.symm)) hb);replace Y:=sBk Y hb;replace Z:=sBk Z hb;replace ε :=sBk ε hb;replace X:=sBk X hb;replace HB:=sHb hb;clear hb hbox hg;have ia:=ak.out;have ib:=aj.out;have fj:=ar.out;have fk:=al.out;have eu:=az.out;have ev:=av.out;have gh:=b1.out;have gi:=b0.out;have cz:dd.cell? ⟨B,0,none⟩=some (.int .i64 0):=(Qa θ.out 0).trans rfl;have d4:dd.cell? ⟨B,1,none⟩=some (.int .i64 0):=(Qa θ.out 1).trans rfl;have fl:dd.cell? ⟨B,2,none⟩=some (.int .i64 0):=(Qa θ.out 2).trans rfl;have d9:=Qb θ.out 0;have da:=Qb θ.out 1;have fm:=Qb θ.out 2;have j7:=b4.out;have j8:=b5.out;have dw:=ae.out;have dz:=ag.out;have fr:dd.cell? ⟨κ,0,none⟩=some (.int .i64 D):=(Qa Z.out 0).trans rfl;have ft:dd.cell? ⟨κ,1,none⟩=some (.int .i64 O):=(Qa Z.out 1).trans rfl;have fw:dd.cell? ⟨κ,2,none⟩=some (.int .i64 U):=(Qa Z.out 2).trans rfl;have fu:=Qb Z.out 0;have fv:=Qb Z.out 1;have fx:=Qb Z.out 2;have gb:=ai.out;have gx:=ah.out;have ig:dd.cell? ⟨γ,0,none⟩=some (ι):=(Qa X.out 0).trans rfl;have ih:dd.cell? ⟨γ,1,none⟩=some (.slice δ J.length μ):=(Qa X.out 1).trans rfl;have io:=Qb X.out 0;have iv:=Qb X.out 1)|((with_reducible refine Xc (b:=.append) (xs:=#[.tmp 39,.tmp 41]) rfl ?_);at_builtin;refine Kd.Jm k56 (w0:=w) w.heap.size rfl (.tmp 39) (.tmp 41) 24 56 (.agg #[(.int .i64 0),(.int .i64 0),(.int .i64 0)]) 24 rfl Try.underlying24 Yl rfl (by decide) (by omega) ι ν (⟨(Qi I L).f0,(Qi I L).f1,(Qi I L).f2⟩:S56) [.int .i64 ((Qi I L).f0),.int .i64 ((Qi I L).f1),.int .i64 ((Qi I L).f2)] (fun k_=>(w.heap.size≤k_)∧k_ ≠ κ ∧ k_≠B) (fun _=>False) rfl (by first|(go_simp;done)|(go_simp;rfl)) ?aP (fun _ hk=>hk.elim) ?aF ?aO ?aB ?aS ?aL ?_;(case aP=>exact Yg _ _ _ (⟨(Qi I L).f0,(Qi I L).f1,(Qi I L).f2⟩:S56));(case aB=>exact bel);(case aF=>exact(fun k_ hk=>⟨(Nat.le_trans (Qk bel) hk),Kd.Yr (g:= κ) (o:=.cells #[.int .i64 D,.int .i64 O,.int .i64 U] 56 (0,0)) (bka Z) k_ hk,Kd.Yr (g:=B) (o:=.cells #[.int .i64 ((Qi I L).f0),.int .i64 ((Qi I L).f1),.int .i64 ((Qi I L).f2)] 56 (0,0)) (by(with_reducible repeat(first|refine Qf ?_ _|refine Qc ?_|refine Qg ?_ _));refine Qx (cs:=#[.int .i64 ((Qi I L).f0),.int .i64 ((Qi I L).f1),.int .i64 0]) ?_ 2 _ rfl;(with_reducible repeat(first|refine Qf ?_ _|refine Qc ?_|refine Qg ?_ _));refine Qx (cs:=#[.int .i64 ((Qi I L).f0),.int .i64 0,.int .i64 0]) ?_ 1 _ rfl;(with_reducible repeat(first|refine Qf ?_ _|refine Qc ?_|refine Qg ?_ _));refine Qx (cs:=#[.int .i64 0,.int .i64 0,.int .i64 0]) ?_ 0 _ rfl;(with_reducible repeat(first|refine Qf ?_ _|refine Qc ?_|refine Qg ?_ _));exact θ.out) k_ hk⟩));(case aO=>exact(by(with_reducible repeat(first|apply Kd.Qm|apply Kd.Ql|apply Kd.Qo));exact Kd.Qs (Kd.Qu (Kd.Qu (Kd.Qu (Kd.Qs HO_473000.out (fun k_ hk=>(⟨hk,hk.2⟩:_∧k_≠B))) (fun _ hk=>hk.2) (.int .i64 ((Qi I L).f0))) (fun _ hk=>hk.2) (.int .i64 ((Qi I L).f1))) (fun _ hk=>hk.2) (.int .i64 ((Qi I L).f2))) (fun _ hk=>⟨hk.1.1.1,⟨hk.1.1.2,hk.1.2⟩⟩)));(case aS=>exact(Qk bel));(case aL=>have:=dk.out;omega);intro hy de ho hb hg hat;rw[← dl.out] at ho;have bw:=Aside0.mk ho;replace HO_470001:=Aside0.mk (Kd.Jl (ok:=(fun k_=>(a0 k_∨w.heap.size≤k_)∧k_ ≠ ξ ∧ k_ ≠ κ ∧ k_ ≠ τ ∧ k_≠γ∧k_≠B)) (by(with_reducible repeat(first|apply Kd.Xe|apply Kd.Xd|apply Kd.Xn));exact Kd.Z6 (Kd.Xh (p:=⟨B,2,none⟩) (Kd.Xh (p:=⟨B,1,none⟩) (Kd.Xh (p:=⟨B,0,none⟩) (Kd.Z6 HO_470001.out (fun k_ hk=>(⟨hk,hk.2⟩:_∧k_≠B))) (fun _ hk=>hk.2) (.int .i64 ((Qi I L).f0))) (fun _ hk=>hk.2) (.int .i64 ((Qi I L).f1))) (fun _ hk=>hk.2) (.int .i64 ((Qi I L).f2))) (fun _ hk=>⟨⟨hk.1.1.1,⟨hk.1.1.2.2.1,⟨hk.1.1.2.2.2.1,⟨hk.1.1.2.2.2.2.1,⟨hk.1.1.2.2.2.2.2,hk.1.2⟩⟩⟩⟩⟩,hk.1.1.2.1⟩)) hg hat);replace HO_473001:=Aside0.mk (Kd.Jl (ok:=(fun k_=>(a0 k_∨w.heap.size≤k_)∧k_ ≠ ξ ∧ k_ ≠ κ ∧ k_ ≠ τ ∧ k_≠γ∧k_≠B)) (by(with_reducible repeat(first|apply Kd.Xe|apply Kd.Xd|apply Kd.Xn));exact Kd.Z6 (Kd.Xh (p:=⟨B,2,none⟩) (Kd.Xh (p:=⟨B,1,none⟩) (Kd.Xh (p:=⟨B,0,none⟩) (Kd.Z6 HO_473001.out (fun k_ hk=>(⟨hk,hk.2⟩:_∧k_≠B))) (fun _ hk=>hk.2) (.int .i64 ((Qi I L).f0))) (fun _ hk=>hk.2) (.int .i64 ((Qi I L).f1))) (fun _ hk=>hk.2) (.int .i64 ((Qi I L).f2))) (fun _ hk=>⟨⟨hk.1.1.1,⟨hk.1.1.2.2.1,⟨hk.1.1.2.2.2.1,⟨hk.1.1.2.2.2.2.1,⟨hk.1.1.2.2.2.2.2,hk.1.2⟩⟩⟩⟩⟩,hk.1.1.2.1⟩)) hg hat);replace Y:=Aside0.mk (Zb (g:= ξ) (o:=.cells #[.slice (some b7) I.length ζ,.slice δ J.length μ] 27 (0,0)) (bka Y) hg (Kd.X1 HO_473000.out Y.out (by decide)));replace Z:=Aside0.mk (Zb (g:= κ) (o:=.cells #[.int .i64 D,.int .i64 O,.int .i64 U] 56 (0,0)) (bka Z) hg (Kd.Y4 HO_473000.out (fun _ hk=>hk.1.2)));replace ε :=Aside0.mk (Zb (g:= τ) (o:=.cells #[.slice none 0 0,.slice none 0 0] 27 (0,0)) (bka ε) hg (Kd.X1 HO_473000.out ε.out (by decide)));replace X:=Aside0.mk (Zb (g:=γ) (o:=.cells #[ι,.slice δ J.length μ] 27 (0,0)) (bka X) hg (Kd.X1 HO_473000.out X.out (by decide)));replace θ :=Aside0.mk (Zb (g:=B) (o:=.cells #[.int .i64 ((Qi I L).f0),.int .i64 ((Qi I L).f1),.int .i64 ((Qi I L).f2)] 56 (0,0)) (by(with_reducible repeat(first|refine Qf ?_ _|refine Qc ?_|refine Qg ?_ _));refine Qx (cs:=#[.int .i64 ((Qi I L).f0),.int .i64 ((Qi I L).f1),.int .i64 0]) ?_ 2 _ rfl;(with_reducible repeat(first|refine Qf ?_ _|refine Qc ?_|refine Qg ?_ _));refine Qx (cs:=#[.int .i64 ((Qi I L).f0),.int .i64 0,.int .i64 0]) ?_ 1 _ rfl;(with_reducible repeat(first|refine Qf ?_ _|refine Qc ?_|refine Qg ?_ _));refine Qx (cs:=#[.int .i64 0,.int .i64 0,.int .i64 0]) ?_ 0 _ rfl;(with_reducible repeat(first|refine Qf ?_ _|refine Qc ?_|refine Qg ?_ _));exact θ.out) hg (Kd.Y4 HO_473000.out (fun _ hk=>hk.2)));replace HB:=Aside0.mk hb;clear HO_473000;clear ho hb hg hat;obtain⟨dp,dt,du⟩:=Kd.Q6 bw.out;subst du;have gu:de.cell? ⟨γ,0,none⟩=some (ι):=(Qa X.out 0).trans rfl;have gv:de.cell? ⟨γ,1,none⟩=some (.slice δ J.length μ):=(Qa X.out 1).trans rfl;have gw:=Qb X.out 0;have hh:=Qb X.out 1))
       go_roundg k1
       case measure=>have:=σ.out;omega
       case rel=>exact⟨(wrap64 (L+1)),(bg),(.slice dp bg.length dt),qR,H',⟨by have:=σ.out;omega⟩,⟨by(with_reducible repeat(first|apply Kd.Xe|apply Kd.Xd|apply Kd.Xn));exact Kd.Z6 (Kd.Xh (p:=⟨γ,0,none⟩) (Kd.Z6 HO_470001.out (fun k_ hk=>(⟨hk,hk.1.2.2.2.2.1⟩:_∧k_≠γ))) (fun _ hk=>hk.2) _) (fun _ hk=>⟨hk.1.1.1,⟨hk.1.2,⟨hk.1.1.2.1,⟨hk.1.1.2.2.1,⟨hk.1.1.2.2.2.1,hk.1.1.2.2.2.2.1⟩⟩⟩⟩⟩)⟩,⟨by(with_reducible repeat(first|apply Kd.Qm|apply Kd.Ql|apply Kd.Qo));exact Kd.Qs (Kd.Qu (Kd.Qy bw.out X.out (by decide)) (fun _ hk=>hk.2) _) (fun _ hk=>⟨hk.1.1,hk.1.2.1⟩)⟩,⟨by(with_reducible repeat(first|apply Kd.Xe|apply Kd.Xd|apply Kd.Xn));exact Kd.Z6 (Kd.Xh (p:=⟨γ,0,none⟩) (Kd.Z6 HO_473001.out (fun k_ hk=>(⟨hk,hk.1.2.2.2.2.1⟩:_∧k_≠γ))) (fun _ hk=>hk.2) _) (fun _ hk=>⟨hk.1.1.1,⟨hk.1.2,⟨hk.1.1.2.1,⟨hk.1.1.2.2.1,⟨hk.1.1.2.2.2.1,hk.1.1.2.2.2.2.1⟩⟩⟩⟩⟩)⟩,⟨bka Y⟩,⟨bka Z⟩,⟨bka ε⟩,⟨by(with_reducible repeat(first|refine Qf ?_ _|refine Qc ?_|refine Qg ?_ _));refine Qx (cs:=#[ι,.slice δ J.length μ]) ?_ 0 _ rfl;(with_reducible repeat(first|refine Qf ?_ _|refine Qc ?_|refine Qg ?_ _));exact X.out⟩,⟨bel⟩⟩
      ·rw[if_neg ee] at H
       exact absurd H (by simp)
    ·rw[if_neg a8] at H
     exact absurd H (by simp)
   ·rw[if_neg ay] at H
    have c14b0:decide (L<(I.length:Int))=false:=decide_eq_false ay
    clear ay
    simp only[Option.some.injEq,Prod.mk.injEq] at H
    obtain⟨rfl,rfl⟩:=H
    have j9:=a4.out
    have ja:=a7.out
    have i5:=a9.out
    have i6:=aa.out
    have jb:=ab.out
    have jc:=ac.out
    have f4:wr.cell? ⟨ξ,0,none⟩=some (.slice η I.length ζ):=(Qa Y.out 0).trans rfl
    have f7:wr.cell? ⟨ξ,1,none⟩=some (.slice δ J.length μ):=(Qa Y.out 1).trans rfl
    have f8:=Qb Y.out 0
    have f9:=Qb Y.out 1
    have ic:=ag.out
    have ie:=ae.out
    have jd:=ai.out
    have je:=ah.out
    have hj:wr.cell? ⟨γ,0,none⟩=some (ι):=(Qa X.out 0).trans rfl
    have hl:wr.cell? ⟨γ,1,none⟩=some (.slice δ J.length μ):=(Qa X.out 1).trans rfl
    have hu:=Qb X.out 0
    have hx:=Qb X.out 1
    obtain⟨ce,ci,dv⟩:=Kd.Q6 HO_473000.out
    subst dv
    have gy:=b5.out
    have gz:=b4.out
    have he:wr.cell? ⟨τ,0,none⟩=some (.slice none 0 0):=(Qa ε.out 0).trans rfl
    have ii:wr.cell? ⟨τ,1,none⟩=some (.slice none 0 0):=(Qa ε.out 1).trans rfl
    have ij:=Qb ε.out 0
    have ik:=Qb ε.out 1
    go_wp2
    refine bodyPost_ret (results_cell_row rfl _ _ τ 27 #[.slice ce ν.length ci,.slice δ J.length μ] (0,0) _ rfl (by refine Qx (cs:=#[.slice ce ν.length ci,.slice none 0 0]) ?_ 1 _ rfl;refine Qx (cs:=#[.slice none 0 0,.slice none 0 0]) ?_ 0 _ rfl;exact ε.out) Try.underlying27 rfl kr) rfl ?_
    exact⟨_,_,by first|rfl|(simp[Q1,Q0] <;> rfl)|(simp[*,Q1,Q0] <;> rfl),by(with_reducible repeat(first|apply Kd.Qm|apply Kd.Ql|apply Kd.Qo));exact Kd.Qs (Kd.Qu (Kd.Qu (Kd.Qy HO_473000.out ε.out (by decide)) (fun _ hk=>hk.2) _) (fun _ hk=>hk.2) (.slice δ J.length μ)) (fun _ hk=>hk.1.1),by(with_reducible repeat(first|apply Kd.Xe|apply Kd.Xd|apply Kd.Xn));exact Kd.Z6 (Kd.Xh (p:=⟨τ,1,none⟩) (Kd.Xh (p:=⟨τ,0,none⟩) (Kd.Z6 HO_473001.out (fun k_ hk=>(⟨hk,hk.2.2.2.2.1⟩:_∧k_ ≠ τ))) (fun _ hk=>hk.2) _) (fun _ hk=>hk.2) (.slice δ J.length μ)) (fun _ hk=>⟨hk.1.1,hk.1.2.1⟩),bel⟩
end Go.Proofs.Ytjehhhlhalkieaa.C

