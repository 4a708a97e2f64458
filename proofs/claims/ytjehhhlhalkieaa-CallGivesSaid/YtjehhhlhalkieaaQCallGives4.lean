/- Texts of this claim, one behind the other: what the law's functions come to, walked (printed by a program, with the words that the print uses), and what that is, in plain Lean. No conditions of their own. -/
import Derived.Test.YtjehhhlhalkieaaQCallGives3
namespace Go.Proofs.Ytjehhhlhalkieaa.C
open Go.RowKit Go.Proofs.YtjehhhlhalkieaaW.PrintWords Go.Proofs.YtjehhhlhalkieaaW.PrintLast Go.Proofs.YtjehhhlhalkieaaW.PrintMore
attribute [local go_sem] Z2 Z0 Xb Xa Zq Zp Z1 Zz
set_option linter.unusedVariables false
set_option linter.unusedSimpArgs false
def newelref19_Inside.f (I:Int) (J:Int) (D:Int) (O:Int):Option (Bool):=if D≥0 then (if D<J then (if O≥0 then (some (decide (O<I))) else (some false)) else (some false)) else (some false)
set_option maxHeartbeats 8000000 in
set_option maxRecDepth 100000 in
theorem newelref19_Inside.calls (I:Int) (J:Int) (D:Int) (O:Int) (r:Bool) (w:World) (h:newelref19_Inside.f I J D O=some r):
  Calls Try.prog 39 #[.agg #[.int .i64 I,.int .i64 J],.agg #[.int .i64 D,.int .i64 O]] w fun e w'=>e = .returned (.bool r)∧Below w.heap.size w w':=by
 have dn:=Try.underlying23
 have bd:=Try.underlying62
 have HB:=Aside0.mk (Below.refl w.heap.size w)
 have H:(if D≥0 then (if D<J then (if O≥0 then (some (decide (O<I))) else (some false)) else (some false)) else (some false))=some r:=h
 clear h
 by_cases c3:D≥0
 ·rw[if_pos c3] at H
  have c3b0:decide (0≤D)=true:=decide_eq_true c3
  clear c3
  by_cases c4:D<J
  ·rw[if_pos c4] at H
   have c4b0:decide (D<J)=true:=decide_eq_true c4
   clear c4
   by_cases c5:O≥0
   ·rw[if_pos c5] at H
    have c5b0:decide (0≤O)=true:=decide_eq_true c5
    clear c5
    obtain rfl:=Option.some.inj H
    go_enter Try.func39,Try.ntmps39
    go_wp2_with (first|((with_reducible refine Qr (N:=2) rfl ?_);refine Q5 ?hg (N:=2) ?hd (cs:=#[.int .i64 I,.int .i64 J]) (t:=23) ?hr ?_;(case hd=>rfl);(case hg=>rfl);(case hr=>first|(go_simp;done)|(go_simp;rfl));intro B hg w6 hbox hb;have U:=Aside0.mk (Qt (by repeat(first|(with_reducible first|exact HB.out|apply Qh|apply Qb|apply Qf)|exact HB.out)) hb);have γ:=Aside0.mk (hbox);have ι :=Aside0.mk ((by rw[hg];exact(Qi (by repeat(first|(with_reducible first|exact HB.out|apply Qh|apply Qb|apply Qf)|exact HB.out))):w.heap.size≤B));have κ :=Aside0.mk ((by rw[hg];exact(Qi (by repeat(first|(with_reducible first|exact HB.out|apply Qh|apply Qb|apply Qf)|exact HB.out))):w.heap.size≤B));clear HB;have HB:=U;have L:=γ;have η := ι;have X:= κ;clear U γ ι κ;clear hb hbox hg)|((with_reducible refine Qr (N:=3) rfl ?_);refine Q5 ?hg (N:=3) ?hd (cs:=#[.int .i64 D,.int .i64 O]) (t:=62) ?hr ?_;(case hd=>rfl);(case hg=>rfl);(case hr=>first|(go_simp;done)|(go_simp;rfl));intro Y hg w7 hbox hb;have U:=Aside0.mk (Qm (g:=B) (o:=.cells #[.int .i64 I,.int .i64 J] 23 (0,0)) (by(with_reducible repeat first|apply Qd|apply Qa|apply Qe);exact L.out) hb);have γ:=Aside0.mk (Qt (by repeat(first|(with_reducible first|exact HB.out|apply Qh|apply Qb|apply Qf|refine Qc ?_ X.out)|exact HB.out)) hb);have ι :=Aside0.mk (hbox);have κ :=Aside0.mk ((by rw[hg];exact(Qi (by repeat(first|(with_reducible first|exact HB.out|apply Qh|apply Qb|apply Qf|refine Qc ?_ X.out)|exact HB.out))):w.heap.size≤Y));have ξ :=Aside0.mk ((by rw[hg];exact(Qi (by repeat(first|(with_reducible first|exact HB.out|apply Qh|apply Qb|apply Qf|refine Qc ?_ X.out)|exact HB.out))):w.heap.size≤Y));have χ :=Aside0.mk ((by rw[hg];exact Nat.ne_of_lt (Q3 (g:=B) (o:=.cells #[.int .i64 I,.int .i64 J] 23 (0,0)) (by(with_reducible repeat first|apply Qd|apply Qa|apply Qe);exact L.out)):B≠Y));have a1:=Aside0.mk ((by rw[hg];exact Nat.ne_of_gt (Q3 (g:=B) (o:=.cells #[.int .i64 I,.int .i64 J] 23 (0,0)) (by(with_reducible repeat first|apply Qd|apply Qa|apply Qe);exact L.out)):Y≠B));clear L;clear HB;have L:=U;have HB:=γ;have ε := ι;have θ := κ;have ζ := ξ;have Z:= χ;have δ :=a1;clear U γ ι κ ξ χ a1;clear hb hbox hg;have bn:= δ.out;have br:=Z.out;obtain⟨bc,bh,bi,bj⟩:=qD2 ε.out;obtain⟨am,au,ba,bk⟩:=qD2 L.out))
    go_ret
    exact⟨by first|rfl|(simp[Qz,Qy] <;> rfl)|(simp[*,Qz,Qy] <;> rfl),by repeat(first|(with_reducible first|exact HB.out|apply Qh|apply Qb|apply Qf|refine Qc ?_ X.out|refine Qc ?_ ζ.out)|exact HB.out)⟩
   ·rw[if_neg c5] at H
    have c5b0:decide (0≤O)=false:=decide_eq_false c5
    clear c5
    obtain rfl:=Option.some.inj H
    go_enter Try.func39,Try.ntmps39
    go_wp2_with (first|((with_reducible refine Qr (N:=2) rfl ?_);refine Q5 ?hg (N:=2) ?hd (cs:=#[.int .i64 I,.int .i64 J]) (t:=23) ?hr ?_;(case hd=>rfl);(case hg=>rfl);(case hr=>first|(go_simp;done)|(go_simp;rfl));intro B hg e5 hbox hb;have U:=Aside0.mk (Qt (by repeat(first|(with_reducible first|exact HB.out|apply Qh|apply Qb|apply Qf)|exact HB.out)) hb);have γ:=Aside0.mk (hbox);have ι :=Aside0.mk ((by rw[hg];exact(Qi (by repeat(first|(with_reducible first|exact HB.out|apply Qh|apply Qb|apply Qf)|exact HB.out))):w.heap.size≤B));have κ :=Aside0.mk ((by rw[hg];exact(Qi (by repeat(first|(with_reducible first|exact HB.out|apply Qh|apply Qb|apply Qf)|exact HB.out))):w.heap.size≤B));clear HB;have HB:=U;have L:=γ;have η := ι;have X:= κ;clear U γ ι κ;clear hb hbox hg)|((with_reducible refine Qr (N:=3) rfl ?_);refine Q5 ?hg (N:=3) ?hd (cs:=#[.int .i64 D,.int .i64 O]) (t:=62) ?hr ?_;(case hd=>rfl);(case hg=>rfl);(case hr=>first|(go_simp;done)|(go_simp;rfl));intro Y hg dt hbox hb;have U:=Aside0.mk (Qm (g:=B) (o:=.cells #[.int .i64 I,.int .i64 J] 23 (0,0)) (by(with_reducible repeat first|apply Qd|apply Qa|apply Qe);exact L.out) hb);have γ:=Aside0.mk (Qt (by repeat(first|(with_reducible first|exact HB.out|apply Qh|apply Qb|apply Qf|refine Qc ?_ X.out)|exact HB.out)) hb);have ι :=Aside0.mk (hbox);have κ :=Aside0.mk ((by rw[hg];exact(Qi (by repeat(first|(with_reducible first|exact HB.out|apply Qh|apply Qb|apply Qf|refine Qc ?_ X.out)|exact HB.out))):w.heap.size≤Y));have ξ :=Aside0.mk ((by rw[hg];exact(Qi (by repeat(first|(with_reducible first|exact HB.out|apply Qh|apply Qb|apply Qf|refine Qc ?_ X.out)|exact HB.out))):w.heap.size≤Y));have χ :=Aside0.mk ((by rw[hg];exact Nat.ne_of_lt (Q3 (g:=B) (o:=.cells #[.int .i64 I,.int .i64 J] 23 (0,0)) (by(with_reducible repeat first|apply Qd|apply Qa|apply Qe);exact L.out)):B≠Y));have a1:=Aside0.mk ((by rw[hg];exact Nat.ne_of_gt (Q3 (g:=B) (o:=.cells #[.int .i64 I,.int .i64 J] 23 (0,0)) (by(with_reducible repeat first|apply Qd|apply Qa|apply Qe);exact L.out)):Y≠B));clear L;clear HB;have L:=U;have HB:=γ;have ε := ι;have θ := κ;have ζ := ξ;have Z:= χ;have δ :=a1;clear U γ ι κ ξ χ a1;clear hb hbox hg;have bw:= δ.out;have bz:=Z.out;obtain⟨ai,aj,av,ax⟩:=qD2 ε.out;obtain⟨cm,cn,co,cp⟩:=qD2 L.out))
    go_ret
    exact⟨by first|rfl|(simp[Qz,Qy] <;> rfl)|(simp[*,Qz,Qy] <;> rfl),by repeat(first|(with_reducible first|exact HB.out|apply Qh|apply Qb|apply Qf|refine Qc ?_ X.out|refine Qc ?_ ζ.out)|exact HB.out)⟩
  ·rw[if_neg c4] at H
   have c4b0:decide (D<J)=false:=decide_eq_false c4
   clear c4
   obtain rfl:=Option.some.inj H
   go_enter Try.func39,Try.ntmps39
   go_wp2_with (first|((with_reducible refine Qr (N:=2) rfl ?_);refine Q5 ?hg (N:=2) ?hd (cs:=#[.int .i64 I,.int .i64 J]) (t:=23) ?hr ?_;(case hd=>rfl);(case hg=>rfl);(case hr=>first|(go_simp;done)|(go_simp;rfl));intro B hg af hbox hb;have U:=Aside0.mk (Qt (by repeat(first|(with_reducible first|exact HB.out|apply Qh|apply Qb|apply Qf)|exact HB.out)) hb);have γ:=Aside0.mk (hbox);have ι :=Aside0.mk ((by rw[hg];exact(Qi (by repeat(first|(with_reducible first|exact HB.out|apply Qh|apply Qb|apply Qf)|exact HB.out))):w.heap.size≤B));have κ :=Aside0.mk ((by rw[hg];exact(Qi (by repeat(first|(with_reducible first|exact HB.out|apply Qh|apply Qb|apply Qf)|exact HB.out))):w.heap.size≤B));clear HB;have HB:=U;have L:=γ;have η := ι;have X:= κ;clear U γ ι κ;clear hb hbox hg)|((with_reducible refine Qr (N:=3) rfl ?_);refine Q5 ?hg (N:=3) ?hd (cs:=#[.int .i64 D,.int .i64 O]) (t:=62) ?hr ?_;(case hd=>rfl);(case hg=>rfl);(case hr=>first|(go_simp;done)|(go_simp;rfl));intro Y hg gb hbox hb;have U:=Aside0.mk (Qm (g:=B) (o:=.cells #[.int .i64 I,.int .i64 J] 23 (0,0)) (by(with_reducible repeat first|apply Qd|apply Qa|apply Qe);exact L.out) hb);have γ:=Aside0.mk (Qt (by repeat(first|(with_reducible first|exact HB.out|apply Qh|apply Qb|apply Qf|refine Qc ?_ X.out)|exact HB.out)) hb);have ι :=Aside0.mk (hbox);have κ :=Aside0.mk ((by rw[hg];exact(Qi (by repeat(first|(with_reducible first|exact HB.out|apply Qh|apply Qb|apply Qf|refine Qc ?_ X.out)|exact HB.out))):w.heap.size≤Y));have ξ :=Aside0.mk ((by rw[hg];exact(Qi (by repeat(first|(with_reducible first|exact HB.out|apply Qh|apply Qb|apply Qf|refine Qc ?_ X.out)|exact HB.out))):w.heap.size≤Y));have χ :=Aside0.mk ((by rw[hg];exact Nat.ne_of_lt (Q3 (g:=B) (o:=.cells #[.int .i64 I,.int .i64 J] 23 (0,0)) (by(with_reducible repeat first|apply Qd|apply Qa|apply Qe);exact L.out)):B≠Y));have a1:=Aside0.mk ((by rw[hg];exact Nat.ne_of_gt (Q3 (g:=B) (o:=.cells #[.int .i64 I,.int .i64 J] 23 (0,0)) (by(with_reducible repeat first|apply Qd|apply Qa|apply Qe);exact L.out)):Y≠B));clear L;clear HB;have L:=U;have HB:=γ;have ε := ι;have θ := κ;have ζ := ξ;have Z:= χ;have δ :=a1;clear U γ ι κ ξ χ a1;clear hb hbox hg;have cb:= δ.out;have cg:=Z.out;obtain⟨b1,b2,b3,b8⟩:=qD2 ε.out;obtain⟨b9,bb,be,bf⟩:=qD2 L.out))
   go_ret
   exact⟨by first|rfl|(simp[Qz,Qy] <;> rfl)|(simp[*,Qz,Qy] <;> rfl),by repeat(first|(with_reducible first|exact HB.out|apply Qh|apply Qb|apply Qf|refine Qc ?_ X.out|refine Qc ?_ ζ.out)|exact HB.out)⟩
 ·rw[if_neg c3] at H
  have c3b0:decide (0≤D)=false:=decide_eq_false c3
  clear c3
  obtain rfl:=Option.some.inj H
  go_enter Try.func39,Try.ntmps39
  go_wp2_with (first|((with_reducible refine Qr (N:=2) rfl ?_);refine Q5 ?hg (N:=2) ?hd (cs:=#[.int .i64 I,.int .i64 J]) (t:=23) ?hr ?_;(case hd=>rfl);(case hg=>rfl);(case hr=>first|(go_simp;done)|(go_simp;rfl));intro B hg bo hbox hb;have U:=Aside0.mk (Qt (by repeat(first|(with_reducible first|exact HB.out|apply Qh|apply Qb|apply Qf)|exact HB.out)) hb);have γ:=Aside0.mk (hbox);have ι :=Aside0.mk ((by rw[hg];exact(Qi (by repeat(first|(with_reducible first|exact HB.out|apply Qh|apply Qb|apply Qf)|exact HB.out))):w.heap.size≤B));have κ :=Aside0.mk ((by rw[hg];exact(Qi (by repeat(first|(with_reducible first|exact HB.out|apply Qh|apply Qb|apply Qf)|exact HB.out))):w.heap.size≤B));clear HB;have HB:=U;have L:=γ;have η := ι;have X:= κ;clear U γ ι κ;clear hb hbox hg)|((with_reducible refine Qr (N:=3) rfl ?_);refine Q5 ?hg (N:=3) ?hd (cs:=#[.int .i64 D,.int .i64 O]) (t:=62) ?hr ?_;(case hd=>rfl);(case hg=>rfl);(case hr=>first|(go_simp;done)|(go_simp;rfl));intro Y hg du hbox hb;have U:=Aside0.mk (Qm (g:=B) (o:=.cells #[.int .i64 I,.int .i64 J] 23 (0,0)) (by(with_reducible repeat first|apply Qd|apply Qa|apply Qe);exact L.out) hb);have γ:=Aside0.mk (Qt (by repeat(first|(with_reducible first|exact HB.out|apply Qh|apply Qb|apply Qf|refine Qc ?_ X.out)|exact HB.out)) hb);have ι :=Aside0.mk (hbox);have κ :=Aside0.mk ((by rw[hg];exact(Qi (by repeat(first|(with_reducible first|exact HB.out|apply Qh|apply Qb|apply Qf|refine Qc ?_ X.out)|exact HB.out))):w.heap.size≤Y));have ξ :=Aside0.mk ((by rw[hg];exact(Qi (by repeat(first|(with_reducible first|exact HB.out|apply Qh|apply Qb|apply Qf|refine Qc ?_ X.out)|exact HB.out))):w.heap.size≤Y));have χ :=Aside0.mk ((by rw[hg];exact Nat.ne_of_lt (Q3 (g:=B) (o:=.cells #[.int .i64 I,.int .i64 J] 23 (0,0)) (by(with_reducible repeat first|apply Qd|apply Qa|apply Qe);exact L.out)):B≠Y));have a1:=Aside0.mk ((by rw[hg];exact Nat.ne_of_gt (Q3 (g:=B) (o:=.cells #[.int .i64 I,.int .i64 J] 23 (0,0)) (by(with_reducible repeat first|apply Qd|apply Qa|apply Qe);exact L.out)):Y≠B));clear L;clear HB;have L:=U;have HB:=γ;have ε := ι;have θ := κ;have ζ := ξ;have Z:= χ;have δ :=a1;clear U γ ι κ ξ χ a1;clear hb hbox hg;have fo:= δ.out;have fp:=Z.out;obtain⟨d7,d9,da,db⟩:=qD2 ε.out))
  go_ret
  exact⟨by first|rfl|(simp[Qz,Qy] <;> rfl)|(simp[*,Qz,Qy] <;> rfl),by repeat(first|(with_reducible first|exact HB.out|apply Qh|apply Qb|apply Qf|refine Qc ?_ X.out|refine Qc ?_ ζ.out)|exact HB.out)⟩
def newelref19_before.f (I:Int) (J:Int) (D:Int) (O:Int):Option (Bool):=if I<D then (some true) else (if I=D then (some (decide (J<O))) else (some false))
set_option maxHeartbeats 8000000 in
set_option maxRecDepth 100000 in
theorem newelref19_before.calls (I:Int) (J:Int) (D:Int) (O:Int) (r:Bool) (w:World) (h:newelref19_before.f I J D O=some r):
  Calls Try.prog 40 #[.agg #[.int .i64 I,.int .i64 J],.agg #[.int .i64 D,.int .i64 O]] w fun e w'=>e = .returned (.bool r)∧Below w.heap.size w w':=by
 have bd:=Try.underlying62
 have HB:=Aside0.mk (Below.refl w.heap.size w)
 have H:(if I<D then (some true) else (if I=D then (some (decide (J<O))) else (some false)))=some r:=h
 clear h
 by_cases c3:I<D
 ·rw[if_pos c3] at H
  have c3b0:decide (I<D)=true:=decide_eq_true c3
  clear c3
  obtain rfl:=Option.some.inj H
  go_enter Try.func40,Try.ntmps40
  go_wp2_with (first|((with_reducible refine Qr (N:=2) rfl ?_);refine Q5 ?hg (N:=2) ?hd (cs:=#[.int .i64 I,.int .i64 J]) (t:=62) ?hr ?_;(case hd=>rfl);(case hg=>rfl);(case hr=>first|(go_simp;done)|(go_simp;rfl));intro B hg w4 hbox hb;have U:=Aside0.mk (Qt (by repeat(first|(with_reducible first|exact HB.out|apply Qh|apply Qb|apply Qf)|exact HB.out)) hb);have γ:=Aside0.mk (hbox);have ι :=Aside0.mk ((by rw[hg];exact(Qi (by repeat(first|(with_reducible first|exact HB.out|apply Qh|apply Qb|apply Qf)|exact HB.out))):w.heap.size≤B));have κ :=Aside0.mk ((by rw[hg];exact(Qi (by repeat(first|(with_reducible first|exact HB.out|apply Qh|apply Qb|apply Qf)|exact HB.out))):w.heap.size≤B));clear HB;have HB:=U;have L:=γ;have η := ι;have X:= κ;clear U γ ι κ;clear hb hbox hg)|((with_reducible refine Qr (N:=3) rfl ?_);refine Q5 ?hg (N:=3) ?hd (cs:=#[.int .i64 D,.int .i64 O]) (t:=62) ?hr ?_;(case hd=>rfl);(case hg=>rfl);(case hr=>first|(go_simp;done)|(go_simp;rfl));intro Y hg w5 hbox hb;have U:=Aside0.mk (Qm (g:=B) (o:=.cells #[.int .i64 I,.int .i64 J] 62 (0,0)) (by(with_reducible repeat first|apply Qd|apply Qa|apply Qe);exact L.out) hb);have γ:=Aside0.mk (Qt (by repeat(first|(with_reducible first|exact HB.out|apply Qh|apply Qb|apply Qf|refine Qc ?_ X.out)|exact HB.out)) hb);have ι :=Aside0.mk (hbox);have κ :=Aside0.mk ((by rw[hg];exact(Qi (by repeat(first|(with_reducible first|exact HB.out|apply Qh|apply Qb|apply Qf|refine Qc ?_ X.out)|exact HB.out))):w.heap.size≤Y));have ξ :=Aside0.mk ((by rw[hg];exact(Qi (by repeat(first|(with_reducible first|exact HB.out|apply Qh|apply Qb|apply Qf|refine Qc ?_ X.out)|exact HB.out))):w.heap.size≤Y));have χ :=Aside0.mk ((by rw[hg];exact Nat.ne_of_lt (Q3 (g:=B) (o:=.cells #[.int .i64 I,.int .i64 J] 62 (0,0)) (by(with_reducible repeat first|apply Qd|apply Qa|apply Qe);exact L.out)):B≠Y));have a1:=Aside0.mk ((by rw[hg];exact Nat.ne_of_gt (Q3 (g:=B) (o:=.cells #[.int .i64 I,.int .i64 J] 62 (0,0)) (by(with_reducible repeat first|apply Qd|apply Qa|apply Qe);exact L.out)):Y≠B));clear L;clear HB;have L:=U;have HB:=γ;have ε := ι;have θ := κ;have ζ := ξ;have Z:= χ;have δ :=a1;clear U γ ι κ ξ χ a1;clear hb hbox hg;have cf:=Z.out;have ch:= δ.out;obtain⟨τ,φ,ψ,ω⟩:=qD2 L.out;obtain⟨al,an,ao,ap⟩:=qD2 ε.out))
  go_ret
  exact⟨by first|rfl|(simp[Qz,Qy] <;> rfl)|(simp[*,Qz,Qy] <;> rfl),by repeat(first|(with_reducible first|exact HB.out|apply Qh|apply Qb|apply Qf|refine Qc ?_ X.out|refine Qc ?_ ζ.out)|exact HB.out)⟩
 ·rw[if_neg c3] at H
  have c3b0:decide (I<D)=false:=decide_eq_false c3
  clear c3
  by_cases c9:I=D
  ·rw[if_pos c9] at H
   have c9b0:(I==D)=true:=beq_iff_eq.mpr c9
   have c9b1:(I != D)=false:=bne_eq_false_iff_eq.mpr c9
   clear c9
   obtain rfl:=Option.some.inj H
   go_enter Try.func40,Try.ntmps40
   go_wp2_with (first|((with_reducible refine Qr (N:=2) rfl ?_);refine Q5 ?hg (N:=2) ?hd (cs:=#[.int .i64 I,.int .i64 J]) (t:=62) ?hr ?_;(case hd=>rfl);(case hg=>rfl);(case hr=>first|(go_simp;done)|(go_simp;rfl));intro B hg em hbox hb;have U:=Aside0.mk (Qt (by repeat(first|(with_reducible first|exact HB.out|apply Qh|apply Qb|apply Qf)|exact HB.out)) hb);have γ:=Aside0.mk (hbox);have ι :=Aside0.mk ((by rw[hg];exact(Qi (by repeat(first|(with_reducible first|exact HB.out|apply Qh|apply Qb|apply Qf)|exact HB.out))):w.heap.size≤B));have κ :=Aside0.mk ((by rw[hg];exact(Qi (by repeat(first|(with_reducible first|exact HB.out|apply Qh|apply Qb|apply Qf)|exact HB.out))):w.heap.size≤B));clear HB;have HB:=U;have L:=γ;have η := ι;have X:= κ;clear U γ ι κ;clear hb hbox hg)|((with_reducible refine Qr (N:=3) rfl ?_);refine Q5 ?hg (N:=3) ?hd (cs:=#[.int .i64 D,.int .i64 O]) (t:=62) ?hr ?_;(case hd=>rfl);(case hg=>rfl);(case hr=>first|(go_simp;done)|(go_simp;rfl));intro Y hg e5 hbox hb;have U:=Aside0.mk (Qm (g:=B) (o:=.cells #[.int .i64 I,.int .i64 J] 62 (0,0)) (by(with_reducible repeat first|apply Qd|apply Qa|apply Qe);exact L.out) hb);have γ:=Aside0.mk (Qt (by repeat(first|(with_reducible first|exact HB.out|apply Qh|apply Qb|apply Qf|refine Qc ?_ X.out)|exact HB.out)) hb);have ι :=Aside0.mk (hbox);have κ :=Aside0.mk ((by rw[hg];exact(Qi (by repeat(first|(with_reducible first|exact HB.out|apply Qh|apply Qb|apply Qf|refine Qc ?_ X.out)|exact HB.out))):w.heap.size≤Y));have ξ :=Aside0.mk ((by rw[hg];exact(Qi (by repeat(first|(with_reducible first|exact HB.out|apply Qh|apply Qb|apply Qf|refine Qc ?_ X.out)|exact HB.out))):w.heap.size≤Y));have χ :=Aside0.mk ((by rw[hg];exact Nat.ne_of_lt (Q3 (g:=B) (o:=.cells #[.int .i64 I,.int .i64 J] 62 (0,0)) (by(with_reducible repeat first|apply Qd|apply Qa|apply Qe);exact L.out)):B≠Y));have a1:=Aside0.mk ((by rw[hg];exact Nat.ne_of_gt (Q3 (g:=B) (o:=.cells #[.int .i64 I,.int .i64 J] 62 (0,0)) (by(with_reducible repeat first|apply Qd|apply Qa|apply Qe);exact L.out)):Y≠B));clear L;clear HB;have L:=U;have HB:=γ;have ε := ι;have θ := κ;have ζ := ξ;have Z:= χ;have δ :=a1;clear U γ ι κ ξ χ a1;clear hb hbox hg;have e6:=Z.out;have e7:= δ.out;obtain⟨bo,bp,br,bs⟩:=qD2 L.out;obtain⟨ai,aj,av,ax⟩:=qD2 ε.out))
   go_ret
   exact⟨by first|rfl|(simp[Qz,Qy] <;> rfl)|(simp[*,Qz,Qy] <;> rfl),by repeat(first|(with_reducible first|exact HB.out|apply Qh|apply Qb|apply Qf|refine Qc ?_ X.out|refine Qc ?_ ζ.out)|exact HB.out)⟩
  ·rw[if_neg c9] at H
   have c9b0:(I==D)=false:=beq_eq_false_iff_ne.mpr c9
   have c9b1:(I != D)=true:=bne_iff_ne.mpr c9
   obtain rfl:=Option.some.inj H
   go_enter Try.func40,Try.ntmps40
   go_wp2_with (first|((with_reducible refine Qr (N:=2) rfl ?_);refine Q5 ?hg (N:=2) ?hd (cs:=#[.int .i64 I,.int .i64 J]) (t:=62) ?hr ?_;(case hd=>rfl);(case hg=>rfl);(case hr=>first|(go_simp;done)|(go_simp;rfl));intro B hg cr hbox hb;have U:=Aside0.mk (Qt (by repeat(first|(with_reducible first|exact HB.out|apply Qh|apply Qb|apply Qf)|exact HB.out)) hb);have γ:=Aside0.mk (hbox);have ι :=Aside0.mk ((by rw[hg];exact(Qi (by repeat(first|(with_reducible first|exact HB.out|apply Qh|apply Qb|apply Qf)|exact HB.out))):w.heap.size≤B));have κ :=Aside0.mk ((by rw[hg];exact(Qi (by repeat(first|(with_reducible first|exact HB.out|apply Qh|apply Qb|apply Qf)|exact HB.out))):w.heap.size≤B));clear HB;have HB:=U;have L:=γ;have η := ι;have X:= κ;clear U γ ι κ;clear hb hbox hg)|((with_reducible refine Qr (N:=3) rfl ?_);refine Q5 ?hg (N:=3) ?hd (cs:=#[.int .i64 D,.int .i64 O]) (t:=62) ?hr ?_;(case hd=>rfl);(case hg=>rfl);(case hr=>first|(go_simp;done)|(go_simp;rfl));intro Y hg af hbox hb;have U:=Aside0.mk (Qm (g:=B) (o:=.cells #[.int .i64 I,.int .i64 J] 62 (0,0)) (by(with_reducible repeat first|apply Qd|apply Qa|apply Qe);exact L.out) hb);have γ:=Aside0.mk (Qt (by repeat(first|(with_reducible first|exact HB.out|apply Qh|apply Qb|apply Qf|refine Qc ?_ X.out)|exact HB.out)) hb);have ι :=Aside0.mk (hbox);have κ :=Aside0.mk ((by rw[hg];exact(Qi (by repeat(first|(with_reducible first|exact HB.out|apply Qh|apply Qb|apply Qf|refine Qc ?_ X.out)|exact HB.out))):w.heap.size≤Y));have ξ :=Aside0.mk ((by rw[hg];exact(Qi (by repeat(first|(with_reducible first|exact HB.out|apply Qh|apply Qb|apply Qf|refine Qc ?_ X.out)|exact HB.out))):w.heap.size≤Y));have χ :=Aside0.mk ((by rw[hg];exact Nat.ne_of_lt (Q3 (g:=B) (o:=.cells #[.int .i64 I,.int .i64 J] 62 (0,0)) (by(with_reducible repeat first|apply Qd|apply Qa|apply Qe);exact L.out)):B≠Y));have a1:=Aside0.mk ((by rw[hg];exact Nat.ne_of_gt (Q3 (g:=B) (o:=.cells #[.int .i64 I,.int .i64 J] 62 (0,0)) (by(with_reducible repeat first|apply Qd|apply Qa|apply Qe);exact L.out)):Y≠B));clear L;clear HB;have L:=U;have HB:=γ;have ε := ι;have θ := κ;have ζ := ξ;have Z:= χ;have δ :=a1;clear U γ ι κ ξ χ a1;clear hb hbox hg;have df:=Z.out;have dh:= δ.out;obtain⟨bu,bw,bz,ca⟩:=qD2 L.out;obtain⟨b1,b2,b3,b8⟩:=qD2 ε.out))
   go_ret
   exact⟨by first|rfl|(simp[Qz,Qy] <;> rfl)|(simp[*,Qz,Qy] <;> rfl),by repeat(first|(with_reducible first|exact HB.out|apply Qh|apply Qb|apply Qf|refine Qc ?_ X.out|refine Qc ?_ ζ.out)|exact HB.out)⟩
mutual
def newelref19_May.l0:Nat→Int→Int→Int→List (S56)→List (S62)→Option (Bool)
 |0,_,_,_,_,_=>none
 |k+1,B,L,O,D,J=>if B<(D.length:Int) then (if 0≤B then ((newelref19_Hall.f k L O ((Qg D B).f0) ((Qg D B).f1) ((Qg D B).f2)).bind fun cr=>(if cr=true then (if B>0 then (if 0≤(wrap64 (B-1)) then (if (wrap64 (B-1))<(D.length:Int) then ((newelref19_ahead.f ((Qg D (wrap64 (B-1))).f0) ((Qg D (wrap64 (B-1))).f1) ((Qg D (wrap64 (B-1))).f2) ((Qg D B).f0) ((Qg D B).f1) ((Qg D B).f2)).bind fun bh=>(if bh=true then (newelref19_May.l0 k (wrap64 (B+1)) L O D J) else (some false))) else (none)) else (none)) else (newelref19_May.l0 k (wrap64 (B+1)) L O D J)) else (some false))) else (none)) else (newelref19_May.l1 k 0 L O D J)
def newelref19_May.l1:Nat→Int→Int→Int→List (S56)→List (S62)→Option (Bool)
 |0,_,_,_,_,_=>none
 |k+1,I,L,O,D,J=>if I<(J.length:Int) then (if 0≤I then ((newelref19_Inside.f L O ((Qp J I).f0) ((Qp J I).f1)).bind fun d7=>(if d7=true then (if I>0 then (if 0≤(wrap64 (I-1)) then (if (wrap64 (I-1))<(J.length:Int) then ((newelref19_before.f ((Qp J (wrap64 (I-1))).f0) ((Qp J (wrap64 (I-1))).f1) ((Qp J I).f0) ((Qp J I).f1)).bind fun bi=>(if bi=true then (newelref19_May.l1 k (wrap64 (I+1)) L O D J) else (some false))) else (none)) else (none)) else (newelref19_May.l1 k (wrap64 (I+1)) L O D J)) else (some false))) else (none)) else (some true)
end
def newelref19_May.f (k:Nat) (I:Int) (J:Int) (B:List (S56)) (D:List (S62)):Option (Bool):=(newelref19_House.f I J).bind fun cf=>(if cf=true then (newelref19_May.l0 k 0 I J B D) else (some false))
theorem newelref19_May.Zi:∀ k,(∀ D I O J L,LeO (newelref19_May.l0 k D I O J L) (newelref19_May.l0 (k+1) D I O J L))∧(∀ D I O J L,LeO (newelref19_May.l1 k D I O J L) (newelref19_May.l1 (k+1) D I O J L))
 |0=>⟨fun _ _ _ _ _ r h=>by simp[newelref19_May.l0] at h,fun _ _ _ _ _ r h=>by simp[newelref19_May.l1] at h⟩
 |k+1=>by
  obtain⟨B,U⟩:=newelref19_May.Zi k
  refine⟨?_, ?_⟩
  ·intro D I O J L
   unfold newelref19_May.l0
   repeat' first
   |(with_reducible exact B _ _ _ _ _)
   |(with_reducible exact U _ _ _ _ _)
   |(with_reducible exact newelref19_Hall.mono _ _ _ _ _ _)
   |(with_reducible exact LeO.refl _)
   |(with_reducible exact LeO.none _)
   |(with_reducible refine LeO.ite ?_ ?_)
   |(with_reducible refine LeO.bind ?_ (fun _=>?_))
   |exact B _ _ _ _ _
   |exact U _ _ _ _ _
   |exact newelref19_Hall.mono _ _ _ _ _ _
   |exact LeO.none _
   |refine LeO.ite ?_ ?_
   |refine LeO.bind ?_ (fun _=>?_)
  ·intro D I O J L
   unfold newelref19_May.l1
   repeat' first
   |(with_reducible exact B _ _ _ _ _)
   |(with_reducible exact U _ _ _ _ _)
   |(with_reducible exact newelref19_Hall.mono _ _ _ _ _ _)
   |(with_reducible exact LeO.refl _)
   |(with_reducible exact LeO.none _)
   |(with_reducible refine LeO.ite ?_ ?_)
   |(with_reducible refine LeO.bind ?_ (fun _=>?_))
   |exact B _ _ _ _ _
   |exact U _ _ _ _ _
   |exact newelref19_Hall.mono _ _ _ _ _ _
   |exact LeO.none _
   |refine LeO.ite ?_ ?_
   |refine LeO.bind ?_ (fun _=>?_)
theorem newelref19_May.mono:∀ I D a2 X k,LeO (newelref19_May.f k I D a2 X) (newelref19_May.f (k+1) I D a2 X):=by
 intro I D a2 X k
 obtain⟨B,U⟩:=newelref19_May.Zi k
 unfold newelref19_May.f
 repeat' first
   |(with_reducible exact B _ _ _ _ _)
   |(with_reducible exact U _ _ _ _ _)
   |(with_reducible exact newelref19_Hall.mono _ _ _ _ _ _)
   |(with_reducible exact LeO.refl _)
   |(with_reducible exact LeO.none _)
   |(with_reducible refine LeO.ite ?_ ?_)
   |(with_reducible refine LeO.bind ?_ (fun _=>?_))
   |exact B _ _ _ _ _
   |exact U _ _ _ _ _
   |exact newelref19_Hall.mono _ _ _ _ _ _
   |exact LeO.none _
   |refine LeO.ite ?_ ?_
   |refine LeO.bind ?_ (fun _=>?_)
def newelref19_May.T7:Bool×List (List Nat×List Nat):=(true,[([],[]),([],[]),([1],[1]),([],[]),([2,3],[2,3]),([4],[4]),([0,5],[0,5]),([6,6,0,1,2,3,4,5,6],[6])])
def newelref19_May.B7:List Nat:=[0,0,2,0,14,30,63,127]
theorem newelref19_May.Mq:rtab .any (opsOf Try.f13 7)=newelref19_May.T7:=by kernel_rfl
theorem newelref19_May.Wj:Zr newelref19_May.T7.2 newelref19_May.B7=true:=by kernel_rfl
def newelref19_May.T11:Bool×List (List Nat×List Nat):=(true,[([],[]),([0],[0]),([],[]),([2],[2]),([1,3],[1,3]),([4],[4]),([],[]),([6],[6]),([],[]),([7,8],[7,8]),([9],[9]),([5,10],[5,10]),([11,11,0,1,2,3,4,5,6,7,8,9,10,11],[11])])
def newelref19_May.B11:List Nat:=[0,1,0,4,15,31,0,64,0,448,960,2047,4095]
theorem newelref19_May.Nk:rtab .any (opsOf Try.f13 11)=newelref19_May.T11:=by kernel_rfl
theorem newelref19_May.Mc:Zr newelref19_May.T11.2 newelref19_May.B11=true:=by kernel_rfl
def newelref19_May.T17:Bool×List (List Nat×List Nat):=(true,[([],[]),([],[]),([1],[1]),([],[]),([2,3],[2,3]),([4],[4]),([0,5],[0,5]),([6,6,0,1,2,3,4,5,6],[6])])
def newelref19_May.B17:List Nat:=[0,0,2,0,14,30,63,127]
theorem newelref19_May.Wa:rtab .any (opsOf Try.f13 17)=newelref19_May.T17:=by kernel_rfl
theorem newelref19_May.Vz:Zr newelref19_May.T17.2 newelref19_May.B17=true:=by kernel_rfl
def newelref19_May.T21:Bool×List (List Nat×List Nat):=(true,[([],[]),([0],[0]),([],[]),([2],[2]),([1,3],[1,3]),([4],[4]),([],[]),([6],[6]),([],[]),([7,8],[7,8]),([9],[9]),([5,10],[5,10]),([11,11,0,1,2,3,4,5,6,7,8,9,10,11],[11])])
def newelref19_May.B21:List Nat:=[0,1,0,4,15,31,0,64,0,448,960,2047,4095]
theorem newelref19_May.Nh:rtab .any (opsOf Try.f13 21)=newelref19_May.T21:=by kernel_rfl
theorem newelref19_May.Mb:Zr newelref19_May.T21.2 newelref19_May.B21=true:=by kernel_rfl
set_option maxHeartbeats 8000000 in
set_option maxRecDepth 100000 in
theorem newelref19_May.calls (k:Nat) (I:Int) (J:Int) (η :Option Addr) (δ :Nat) (B:List (S56)) (θ :Option Addr) (ε :Nat) (D:List (S62)) (r:Bool) (w:World) (b4:Kd.C k56 w η B.length B) (b5:B.length ≤ δ) (b6:Kd.C k62 w θ D.length D) (b7:D.length ≤ ε) (h:newelref19_May.f k I J B D=some r):
  Calls Try.prog 13 #[.agg #[.int .i64 I,.int .i64 J],.agg #[.slice η B.length δ,.slice θ D.length ε]] w fun e w'=>e = .returned (.bool r)∧Below w.heap.size w w':=by
 have dn:=Try.underlying23
 have d4:=Try.underlying27
 have bq:=Try.underlying56
 have bd:=Try.underlying62
 have ag:=Aside0.mk b4
 have ar:=Aside0.mk b5
 clear b4 b5
 have ah:=Aside0.mk b6
 have aw:=Aside0.mk b7
 clear b6 b7
 have HB:=Aside0.mk (Below.refl w.heap.size w)
 have H:((newelref19_House.f I J).bind fun cf=>(if cf=true then (newelref19_May.l0 k 0 I J B D) else (some false)))=some r:=h
 clear h
 replace H:=Option.bind_eq_some_iff.mp H
 obtain⟨cf,ae,H⟩:=H
 replace H:(if cf=true then (newelref19_May.l0 k 0 I J B D) else (some false))=some r:=H
 have A3:=Aside0.mk ae
 clear ae
 by_cases c4:cf=true
 ·subst c4
  have H1:(newelref19_May.l0 k 0 I J B D)=some r:=by rw[if_pos rfl] at H;exact H
  clear H
  have H:=H1
  clear H1
  have H':=Aside0.mk H
  clear H
  go_enter Try.func13,Try.ntmps13
  go_wp2_with (first|((with_reducible refine Qr (N:=2) rfl ?_);refine qE 2 #[.int .i64 I,.int .i64 J] 23 ?_;intro a5 hg w5 hbox hb;have U:=Aside0.mk hbox;have dt:=sGe hg;have dv:=sGe hg;replace HB:=sHb hb;clear hb hbox hg)|((with_reducible refine Qr (N:=3) rfl ?_);refine qE 3 #[.slice η B.length δ,.slice θ D.length ε] 27 ?_;intro ρ hg w6 hbox hb;have O:=Aside0.mk hbox;have dw:=sGe hg;have dz:=sGe hg;have a1:=sNl U hg;have a2:=sNg U hg;replace U:=sBk U hb;replace HB:=sHb hb;clear hb hbox hg;have de:=a1.out;have df:=a2.out;obtain⟨al,an,ao,ap⟩:=qD2 U.out)|((with_reducible refine Q0 (f:=37) rfl ?_);refine Zk (some 13) rfl rfl Try.func37 kr rfl #[.agg #[.int .i64 I,.int .i64 J]] rfl qM ?_;(with_reducible refine(newelref19_House.calls I J true _ A3.out).mono ?_);rintro e w9 ⟨rfl,hb⟩;refine⟨_,rfl, ?_⟩;replace U:=sBk U hb;replace O:=sBk O hb;replace HB:=sHb hb;(try clear hb);(try clear a0);(try clear hk);(try clear hi)))
  go_loopg [6] k (fun kq v6 w'=>∃ (L:Int),v6 = .int .i64 L∧Aside0 (newelref19_May.l0 kq L I J B D=some r)∧Aside0 (kq≤k)∧Aside0 (w'.heap[a5]?=some (.cells #[.int .i64 I,.int .i64 J] 23 (0,0)))∧Aside0 (w'.heap[ρ]?=some (.cells #[(.slice η B.length δ),(.slice θ D.length ε)] 27 (0,0)))∧Aside0 (Below w.heap.size w w'))
  case atStart=>exact⟨(0),rfl,H',⟨Nat.le_refl _⟩,U,O,HB⟩
  case round=>
   clear H'
   try clear c1
   try clear p2
   try clear c3
   try clear c4
   try clear c7
   try clear al
   try clear an
   try clear ao
   try clear ap
   obtain⟨L,rfl,HA,ξ,U,O,HB⟩:=hrel
   cases gk with
   |zero=>exact absurd HA.out (by simp[newelref19_May.l0])
   |succ k1=>
    have H:=HA.out
    clear HA
    simp only[newelref19_May.l0] at H
    by_cases c10:L<(B.length:Int)
    ·rw[if_pos c10] at H
     have c10b0:decide (L<(B.length:Int))=true:=decide_eq_true c10
     clear c10
     by_cases cb:0≤L
     ·rw[if_pos cb] at H
      have c11b0:decide (0≤L)=true:=decide_eq_true cb
      clear cb
      replace H:=Option.bind_eq_some_iff.mp H
      obtain⟨cr,ce,H⟩:=H
      replace H:(if cr=true then (if L>0 then (if 0≤(wrap64 (L-1)) then (if (wrap64 (L-1))<(B.length:Int) then ((newelref19_ahead.f ((Qg B (wrap64 (L-1))).f0) ((Qg B (wrap64 (L-1))).f1) ((Qg B (wrap64 (L-1))).f2) ((Qg B L).f0) ((Qg B L).f1) ((Qg B L).f2)).bind fun bh=>(if bh=true then (newelref19_May.l0 k1 (wrap64 (L+1)) I J B D) else (some false))) else (none)) else (none)) else (newelref19_May.l0 k1 (wrap64 (L+1)) I J B D)) else (some false))=some r:=H
      have ct:=Aside0.mk ce
      clear ce
      by_cases bg:cr=true
      ·subst bg
       have H1:(if L>0 then (if 0≤(wrap64 (L-1)) then (if (wrap64 (L-1))<(B.length:Int) then ((newelref19_ahead.f ((Qg B (wrap64 (L-1))).f0) ((Qg B (wrap64 (L-1))).f1) ((Qg B (wrap64 (L-1))).f2) ((Qg B L).f0) ((Qg B L).f1) ((Qg B L).f2)).bind fun bh=>(if bh=true then (newelref19_May.l0 k1 (wrap64 (L+1)) I J B D) else (some false))) else (none)) else (none)) else (newelref19_May.l0 k1 (wrap64 (L+1)) I J B D))=some r:=by rw[if_pos rfl] at H;exact H
       clear H
       have H:=H1
       clear H1
       by_cases az:L>0
       ·rw[if_pos az] at H
        have c14b0:decide (0<L)=true:=decide_eq_true az
        clear az
        obtain⟨κ,a4⟩:∃ j_:Int,(wrap64 (L-1))=j_:=⟨_,rfl⟩
        replace H:(if 0≤(κ) then (if (κ)<(B.length:Int) then ((newelref19_ahead.f ((Qg B (κ)).f0) ((Qg B (κ)).f1) ((Qg B (κ)).f2) ((Qg B L).f0) ((Qg B L).f1) ((Qg B L).f2)).bind fun bh=>(if bh=true then (newelref19_May.l0 k1 (wrap64 (L+1)) I J B D) else (some false))) else (none)) else (none))=some r:=by first|(rw[a4] at H;exact H)|(simp only[a4] at H ⊢;exact H)
        (try rw[a4] at ct)
        have hji15w:(IntKind.i64.wrap (L-1)) = κ :=(X5 _).trans a4
        by_cases a3:0≤(κ)
        ·rw[if_pos a3] at H
         have c16b0:decide (0≤(κ))=true:=decide_eq_true a3
         clear a3
         by_cases au:(κ)<(B.length:Int)
         ·rw[if_pos au] at H
          have c17b0:decide ((κ)<(B.length:Int))=true:=decide_eq_true au
          clear au
          replace H:=Option.bind_eq_some_iff.mp H
          obtain⟨bh,cd,H⟩:=H
          replace H:(if bh=true then (newelref19_May.l0 k1 (wrap64 (L+1)) I J B D) else (some false))=some r:=H
          have dm:=Aside0.mk cd
          clear cd
          by_cases dx:bh=true
          ·subst dx
           have H1:(newelref19_May.l0 k1 (wrap64 (L+1)) I J B D)=some r:=by rw[if_pos rfl] at H;exact H
           clear H
           have H:=H1
           clear H1
           have H':=Aside0.mk H
           clear H
           have e8:=a2.out
           have e9:=a1.out
           obtain⟨d2,d3,db,dd⟩:=qD2 O.out
           try go_wp2
           replace U:=Aside0.mk (Qa U.out)
           replace O:=Aside0.mk (Qa O.out)
           replace HB:=Aside0.mk (Qf HB.out)
           have ba:0≤(L:Int):=of_decide_eq_true (by assumption)
           have bb:L<(B.length:Int):=of_decide_eq_true (by assumption)
           obtain⟨Y,bp,γ,ζ,ι⟩:=Z3 ag.out L ba bb
           have σ:= ι
           have τ := ζ
           have φ :=γ
           cases bp
           replace γ:=(HB.out.cell (World.block_lt_of_cell? w _ γ)).trans γ
           replace ζ :=(HB.out.cell (World.block_lt_of_cell? w _ ζ)).trans ζ
           replace ι :=(HB.out.cell (World.block_lt_of_cell? w _ ι)).trans ι
           replace ba:=eq_true ba
           replace bb:=eq_true bb
           refine Zn (n:=8) (S:=fun w'=>w'.cell? ⟨a5,0,none⟩=some (.int .i64 I)∧w'.cell? ⟨a5,1,none⟩=some (.int .i64 J)∧w'.cell? ⟨ρ,0,none⟩=some (.slice (some Y) B.length δ)∧w'.cell? ⟨ρ,1,none⟩=some (.slice θ D.length ε)∧w'.cell? (Y.add ((L).toNat * 3))=some (.int .i64 ((Qg B L).f0))∧w'.cell? ⟨(Y.add ((L).toNat * 3)).block,(Y.add ((L).toNat * 3)).off+1,none⟩=some (.int .i64 ((Qg B L).f1))∧w'.cell? ⟨(Y.add ((L).toNat * 3)).block,(Y.add ((L).toNat * 3)).off+2,none⟩=some (.int .i64 ((Qg B L).f2))) (ds:=[]) #[false,false,false,false,false,false,false,false] kr rfl rfl ⟨(Ql U.out 0).trans rfl,(Ql U.out 1).trans rfl,(Ql O.out 0).trans rfl,(Ql O.out 1).trans rfl,((HB.out.cell (World.block_lt_of_cell? w _ φ)).trans φ),((HB.out.cell (World.block_lt_of_cell? w _ τ)).trans τ),((HB.out.cell (World.block_lt_of_cell? w _ σ)).trans σ)⟩ (fun hHeld=>?_);refine Q8 newelref19_May.Mq newelref19_May.Wj (fun HT_ HW_=>?_)
           generalize wr.drew=du at U O HB γ ζ ι hHeld ⊢
           refine qP 1 (some 24) (bN 8 2) HT_ ?_
           refine qP 3 (some 26) (bN 8 10) HT_ ?_
           refine qT 0 (some 23) (bN 8 11) HT_ HW_ hHeld ?_
           refine qT 2 (some 25) (bN 8 15) HT_ HW_ hHeld ?_
           refine qP 4 (some 27) (bN 8 31) HT_ ?_
           refine qT 5 (some 28) (bN 8 63) HT_ HW_ hHeld ?_
           refine Zg (i:=6) (N:=some 29) (bN 8 127) rfl rfl (Q1 HT_.out kr) (by decide) (fun K hK=>?_)
           refine Ze Try.func25 kr rfl #[.agg #[.int .i64 I,.int .i64 J],.agg #[.int .i64 ((Qg B L).f0),.int .i64 ((Qg B L).f1),.int .i64 ((Qg B L).f2)]] (by rfl) rfl rfl qM ?_
           with_reducible refine(newelref19_Hall.calls k1 I J ((Qg B L).f0) ((Qg B L).f1) ((Qg B L).f2) true _ ct.out).mono ?_
           rintro e dq ⟨rfl,hb⟩
           refine⟨_,rfl, ?_⟩
           replace U:=sBk U hb
           replace O:=sBk O hb
           replace HB:=sHb hb
           (try clear hb)
           (try clear a0)
           (try clear hk)
           (try clear hi)
           refine hK.out _ _ ⟨qc U,qc U,qc O,qc O,((HB.out.cell (World.block_lt_of_cell? w _ φ)).trans φ),((HB.out.cell (World.block_lt_of_cell? w _ τ)).trans τ),((HB.out.cell (World.block_lt_of_cell? w _ σ)).trans σ)⟩ (fun hHeld=>?_)
           clear hK K
           refine qN (some 29) ?_
           refine qP 7 (some 7) (bN 8 255) HT_ ?_
           refine Zu (Zj HT_.out kr) ?_
           try go_wp2
           replace U:=Aside0.mk (Qa U.out)
           replace O:=Aside0.mk (Qa O.out)
           replace HB:=Aside0.mk (Qf HB.out)
           have bk:0≤((κ):Int):=of_decide_eq_true (by assumption)
           have bl:(κ)<(B.length:Int):=of_decide_eq_true (by assumption)
           obtain⟨d8,dh,a6,a7,a8⟩:=Z3 ag.out (κ) bk bl
           have ak:=a8
           have av:=a7
           have ax:=a6
           obtain rfl:Y=d8:=(by injection dh)
           replace a6:=(HB.out.cell (World.block_lt_of_cell? w _ a6)).trans a6
           replace a7:=(HB.out.cell (World.block_lt_of_cell? w _ a7)).trans a7
           replace a8:=(HB.out.cell (World.block_lt_of_cell? w _ a8)).trans a8
           replace bk:=eq_true bk
           replace bl:=eq_true bl
           have bn:0≤(L:Int):=of_decide_eq_true (by assumption)
           have bo:L<(B.length:Int):=of_decide_eq_true (by assumption)
           obtain⟨d9,di,a9,aa,ab⟩:=Z3 ag.out L bn bo
           have ay:=ab
           have b0:=aa
           have b1:=a9
           obtain rfl:Y=d9:=(by injection di)
           replace a9:=(HB.out.cell (World.block_lt_of_cell? w _ a9)).trans a9
           replace aa:=(HB.out.cell (World.block_lt_of_cell? w _ aa)).trans aa
           replace ab:=(HB.out.cell (World.block_lt_of_cell? w _ ab)).trans ab
           replace bn:=eq_true bn
           replace bo:=eq_true bo
           refine Zn (n:=13) (S:=fun w'=>w'.cell? ⟨ρ,0,none⟩=some (.slice (some Y) B.length δ)∧w'.cell? ⟨ρ,1,none⟩=some (.slice θ D.length ε)∧w'.cell? (Y.add (((κ)).toNat * 3))=some (.int .i64 ((Qg B (κ)).f0))∧w'.cell? ⟨(Y.add (((κ)).toNat * 3)).block,(Y.add (((κ)).toNat * 3)).off+1,none⟩=some (.int .i64 ((Qg B (κ)).f1))∧w'.cell? ⟨(Y.add (((κ)).toNat * 3)).block,(Y.add (((κ)).toNat * 3)).off+2,none⟩=some (.int .i64 ((Qg B (κ)).f2))∧w'.cell? (Y.add ((L).toNat * 3))=some (.int .i64 ((Qg B L).f0))∧w'.cell? ⟨(Y.add ((L).toNat * 3)).block,(Y.add ((L).toNat * 3)).off+1,none⟩=some (.int .i64 ((Qg B L).f1))∧w'.cell? ⟨(Y.add ((L).toNat * 3)).block,(Y.add ((L).toNat * 3)).off+2,none⟩=some (.int .i64 ((Qg B L).f2))) (ds:=[]) #[false,false,false,false,false,false,false,false,false,false,false,false,false] kr rfl rfl ⟨(Ql O.out 0).trans rfl,(Ql O.out 1).trans rfl,((HB.out.cell (World.block_lt_of_cell? w _ ax)).trans ax),((HB.out.cell (World.block_lt_of_cell? w _ av)).trans av),((HB.out.cell (World.block_lt_of_cell? w _ ak)).trans ak),((HB.out.cell (World.block_lt_of_cell? w _ b1)).trans b1),((HB.out.cell (World.block_lt_of_cell? w _ b0)).trans b0),((HB.out.cell (World.block_lt_of_cell? w _ ay)).trans ay)⟩ (fun hHeld=>?_);refine Q8 newelref19_May.Nk newelref19_May.Mc (fun HT_ HW_=>?_)
           generalize dq.drew=bu at U O HB a6 a7 a8 a9 aa ab hHeld ⊢
           refine qP 0 (some 34) (bN 13 1) HT_ ?_
           refine qP 2 (some 36) (bN 13 5) HT_ ?_
           refine qP 3 (some 37) (bN 13 13) HT_ ?_
           refine qP 6 (some 40) (bN 13 77) HT_ ?_
           refine qP 8 (some 42) (bN 13 333) HT_ ?_
           refine qT 1 (some 35) (bN 13 335) HT_ HW_ hHeld ?_
           refine qP 4 (some 38) (bN 13 351) HT_ ?_
           refine qT 5 (some 39) (bN 13 383) HT_ HW_ hHeld ?_
           refine qT 7 (some 41) (bN 13 511) HT_ HW_ hHeld ?_
           refine qP 9 (some 43) (bN 13 1023) HT_ ?_
           refine qT 10 (some 44) (bN 13 2047) HT_ HW_ hHeld ?_
           refine Zg (i:=11) (N:=some 45) (bN 13 4095) rfl rfl (Q1 HT_.out kr) (by decide) (fun K hK=>?_)
           refine Ze Try.func38 kr rfl #[.agg #[.int .i64 ((Qg B (κ)).f0),.int .i64 ((Qg B (κ)).f1),.int .i64 ((Qg B (κ)).f2)],.agg #[.int .i64 ((Qg B L).f0),.int .i64 ((Qg B L).f1),.int .i64 ((Qg B L).f2)]] (by rfl) rfl rfl (by(try simp only[List.map_toArray,List.map_cons,List.map_nil]);first|done|(simp only[a4];rfl)|rfl|(simp only[List.length_drop,List.length_take];rfl)) ?_
           with_reducible refine(newelref19_ahead.calls ((Qg B (κ)).f0) ((Qg B (κ)).f1) ((Qg B (κ)).f2) ((Qg B L).f0) ((Qg B L).f1) ((Qg B L).f2) true _ dm.out).mono ?_
           rintro e ci ⟨rfl,hb⟩
           refine⟨_,rfl, ?_⟩
           replace U:=sBk U hb
           replace O:=sBk O hb
           replace HB:=sHb hb
           (try clear hb)
           (try clear a0)
           (try clear hk)
           (try clear hi)
           refine hK.out _ _ ⟨qc O,qc O,((HB.out.cell (World.block_lt_of_cell? w _ ax)).trans ax),((HB.out.cell (World.block_lt_of_cell? w _ av)).trans av),((HB.out.cell (World.block_lt_of_cell? w _ ak)).trans ak),((HB.out.cell (World.block_lt_of_cell? w _ b1)).trans b1),((HB.out.cell (World.block_lt_of_cell? w _ b0)).trans b0),((HB.out.cell (World.block_lt_of_cell? w _ ay)).trans ay)⟩ (fun hHeld=>?_)
           clear hK K
           refine qN (some 45) ?_
           refine qP 12 (some 8) (bN 13 8191) HT_ ?_
           refine Zu (Zj HT_.out kr) ?_
           try go_wp2
           go_roundg k1
           case measure=>have:= ξ.out;omega
           case rel=>exact⟨(wrap64 (L+1)),rfl,H',⟨by have:= ξ.out;omega⟩,U,O,HB⟩
          ·replace dx:=Bool.eq_false_iff.mpr dx
           subst dx
           have H1:(some false)=some r:=by rw[if_neg (show ¬ (false=true) by decide)] at H;exact H
           clear H
           have H:=H1
           clear H1
           obtain rfl:=Option.some.inj H
           have e0:=a2.out
           have e5:=a1.out
           obtain⟨cx,cy,cz,d0⟩:=qD2 O.out
           try go_wp2
           replace U:=Aside0.mk (Qa U.out)
           replace O:=Aside0.mk (Qa O.out)
           replace HB:=Aside0.mk (Qf HB.out)
           have ba:0≤(L:Int):=of_decide_eq_true (by assumption)
           have bb:L<(B.length:Int):=of_decide_eq_true (by assumption)
           obtain⟨Y,bp,γ,ζ,ι⟩:=Z3 ag.out L ba bb
           have σ:= ι
           have τ := ζ
           have φ :=γ
           cases bp
           replace γ:=(HB.out.cell (World.block_lt_of_cell? w _ γ)).trans γ
           replace ζ :=(HB.out.cell (World.block_lt_of_cell? w _ ζ)).trans ζ
           replace ι :=(HB.out.cell (World.block_lt_of_cell? w _ ι)).trans ι
           replace ba:=eq_true ba
           replace bb:=eq_true bb
           refine Zn (n:=8) (S:=fun w'=>w'.cell? ⟨a5,0,none⟩=some (.int .i64 I)∧w'.cell? ⟨a5,1,none⟩=some (.int .i64 J)∧w'.cell? ⟨ρ,0,none⟩=some (.slice (some Y) B.length δ)∧w'.cell? ⟨ρ,1,none⟩=some (.slice θ D.length ε)∧w'.cell? (Y.add ((L).toNat * 3))=some (.int .i64 ((Qg B L).f0))∧w'.cell? ⟨(Y.add ((L).toNat * 3)).block,(Y.add ((L).toNat * 3)).off+1,none⟩=some (.int .i64 ((Qg B L).f1))∧w'.cell? ⟨(Y.add ((L).toNat * 3)).block,(Y.add ((L).toNat * 3)).off+2,none⟩=some (.int .i64 ((Qg B L).f2))) (ds:=[]) #[false,false,false,false,false,false,false,false] kr rfl rfl ⟨(Ql U.out 0).trans rfl,(Ql U.out 1).trans rfl,(Ql O.out 0).trans rfl,(Ql O.out 1).trans rfl,((HB.out.cell (World.block_lt_of_cell? w _ φ)).trans φ),((HB.out.cell (World.block_lt_of_cell? w _ τ)).trans τ),((HB.out.cell (World.block_lt_of_cell? w _ σ)).trans σ)⟩ (fun hHeld=>?_);refine Q8 newelref19_May.Mq newelref19_May.Wj (fun HT_ HW_=>?_)
           generalize wr.drew=ft at U O HB γ ζ ι hHeld ⊢
           refine qP 1 (some 24) (bN 8 2) HT_ ?_
           refine qP 3 (some 26) (bN 8 10) HT_ ?_
           refine qT 0 (some 23) (bN 8 11) HT_ HW_ hHeld ?_
           refine qT 2 (some 25) (bN 8 15) HT_ HW_ hHeld ?_
           refine qP 4 (some 27) (bN 8 31) HT_ ?_
           refine qT 5 (some 28) (bN 8 63) HT_ HW_ hHeld ?_
           refine Zg (i:=6) (N:=some 29) (bN 8 127) rfl rfl (Q1 HT_.out kr) (by decide) (fun K hK=>?_)
           refine Ze Try.func25 kr rfl #[.agg #[.int .i64 I,.int .i64 J],.agg #[.int .i64 ((Qg B L).f0),.int .i64 ((Qg B L).f1),.int .i64 ((Qg B L).f2)]] (by rfl) rfl rfl qM ?_
           with_reducible refine(newelref19_Hall.calls k1 I J ((Qg B L).f0) ((Qg B L).f1) ((Qg B L).f2) true _ ct.out).mono ?_
           rintro e ge ⟨rfl,hb⟩
           refine⟨_,rfl, ?_⟩
           replace U:=sBk U hb
           replace O:=sBk O hb
           replace HB:=sHb hb
           (try clear hb)
           (try clear a0)
           (try clear hk)
           (try clear hi)
           refine hK.out _ _ ⟨qc U,qc U,qc O,qc O,((HB.out.cell (World.block_lt_of_cell? w _ φ)).trans φ),((HB.out.cell (World.block_lt_of_cell? w _ τ)).trans τ),((HB.out.cell (World.block_lt_of_cell? w _ σ)).trans σ)⟩ (fun hHeld=>?_)
           clear hK K
           refine qN (some 29) ?_
           refine qP 7 (some 7) (bN 8 255) HT_ ?_
           refine Zu (Zj HT_.out kr) ?_
           try go_wp2
           replace U:=Aside0.mk (Qa U.out)
           replace O:=Aside0.mk (Qa O.out)
           replace HB:=Aside0.mk (Qf HB.out)
           have bk:0≤((κ):Int):=of_decide_eq_true (by assumption)
           have bl:(κ)<(B.length:Int):=of_decide_eq_true (by assumption)
           obtain⟨d8,dh,a6,a7,a8⟩:=Z3 ag.out (κ) bk bl
           have ak:=a8
           have av:=a7
           have ax:=a6
           obtain rfl:Y=d8:=(by injection dh)
           replace a6:=(HB.out.cell (World.block_lt_of_cell? w _ a6)).trans a6
           replace a7:=(HB.out.cell (World.block_lt_of_cell? w _ a7)).trans a7
           replace a8:=(HB.out.cell (World.block_lt_of_cell? w _ a8)).trans a8
           replace bk:=eq_true bk
           replace bl:=eq_true bl
           have bn:0≤(L:Int):=of_decide_eq_true (by assumption)
           have bo:L<(B.length:Int):=of_decide_eq_true (by assumption)
           obtain⟨d9,di,a9,aa,ab⟩:=Z3 ag.out L bn bo
           have ay:=ab
           have b0:=aa
           have b1:=a9
           obtain rfl:Y=d9:=(by injection di)
           replace a9:=(HB.out.cell (World.block_lt_of_cell? w _ a9)).trans a9
           replace aa:=(HB.out.cell (World.block_lt_of_cell? w _ aa)).trans aa
           replace ab:=(HB.out.cell (World.block_lt_of_cell? w _ ab)).trans ab
           replace bn:=eq_true bn
           replace bo:=eq_true bo
           refine Zn (n:=13) (S:=fun w'=>w'.cell? ⟨ρ,0,none⟩=some (.slice (some Y) B.length δ)∧w'.cell? ⟨ρ,1,none⟩=some (.slice θ D.length ε)∧w'.cell? (Y.add (((κ)).toNat * 3))=some (.int .i64 ((Qg B (κ)).f0))∧w'.cell? ⟨(Y.add (((κ)).toNat * 3)).block,(Y.add (((κ)).toNat * 3)).off+1,none⟩=some (.int .i64 ((Qg B (κ)).f1))∧w'.cell? ⟨(Y.add (((κ)).toNat * 3)).block,(Y.add (((κ)).toNat * 3)).off+2,none⟩=some (.int .i64 ((Qg B (κ)).f2))∧w'.cell? (Y.add ((L).toNat * 3))=some (.int .i64 ((Qg B L).f0))∧w'.cell? ⟨(Y.add ((L).toNat * 3)).block,(Y.add ((L).toNat * 3)).off+1,none⟩=some (.int .i64 ((Qg B L).f1))∧w'.cell? ⟨(Y.add ((L).toNat * 3)).block,(Y.add ((L).toNat * 3)).off+2,none⟩=some (.int .i64 ((Qg B L).f2))) (ds:=[]) #[false,false,false,false,false,false,false,false,false,false,false,false,false] kr rfl rfl ⟨(Ql O.out 0).trans rfl,(Ql O.out 1).trans rfl,((HB.out.cell (World.block_lt_of_cell? w _ ax)).trans ax),((HB.out.cell (World.block_lt_of_cell? w _ av)).trans av),((HB.out.cell (World.block_lt_of_cell? w _ ak)).trans ak),((HB.out.cell (World.block_lt_of_cell? w _ b1)).trans b1),((HB.out.cell (World.block_lt_of_cell? w _ b0)).trans b0),((HB.out.cell (World.block_lt_of_cell? w _ ay)).trans ay)⟩ (fun hHeld=>?_);refine Q8 newelref19_May.Nk newelref19_May.Mc (fun HT_ HW_=>?_)
           generalize ge.drew=gf at U O HB a6 a7 a8 a9 aa ab hHeld ⊢
           refine qP 0 (some 34) (bN 13 1) HT_ ?_
           refine qP 2 (some 36) (bN 13 5) HT_ ?_
           refine qP 3 (some 37) (bN 13 13) HT_ ?_
           refine qP 6 (some 40) (bN 13 77) HT_ ?_
           refine qP 8 (some 42) (bN 13 333) HT_ ?_
           refine qT 1 (some 35) (bN 13 335) HT_ HW_ hHeld ?_
           refine qP 4 (some 38) (bN 13 351) HT_ ?_
           refine qT 5 (some 39) (bN 13 383) HT_ HW_ hHeld ?_
           refine qT 7 (some 41) (bN 13 511) HT_ HW_ hHeld ?_
           refine qP 9 (some 43) (bN 13 1023) HT_ ?_
           refine qT 10 (some 44) (bN 13 2047) HT_ HW_ hHeld ?_
           refine Zg (i:=11) (N:=some 45) (bN 13 4095) rfl rfl (Q1 HT_.out kr) (by decide) (fun K hK=>?_)
           refine Ze Try.func38 kr rfl #[.agg #[.int .i64 ((Qg B (κ)).f0),.int .i64 ((Qg B (κ)).f1),.int .i64 ((Qg B (κ)).f2)],.agg #[.int .i64 ((Qg B L).f0),.int .i64 ((Qg B L).f1),.int .i64 ((Qg B L).f2)]] (by rfl) rfl rfl (by(try simp only[List.map_toArray,List.map_cons,List.map_nil]);first|done|(simp only[a4];rfl)|rfl|(simp only[List.length_drop,List.length_take];rfl)) ?_
           with_reducible refine(newelref19_ahead.calls ((Qg B (κ)).f0) ((Qg B (κ)).f1) ((Qg B (κ)).f2) ((Qg B L).f0) ((Qg B L).f1) ((Qg B L).f2) false _ dm.out).mono ?_
           rintro e iz ⟨rfl,hb⟩
           refine⟨_,rfl, ?_⟩
           replace U:=sBk U hb
           replace O:=sBk O hb
           replace HB:=sHb hb
           (try clear hb)
           (try clear a0)
           (try clear hk)
           (try clear hi)
           refine hK.out _ _ ⟨qc O,qc O,((HB.out.cell (World.block_lt_of_cell? w _ ax)).trans ax),((HB.out.cell (World.block_lt_of_cell? w _ av)).trans av),((HB.out.cell (World.block_lt_of_cell? w _ ak)).trans ak),((HB.out.cell (World.block_lt_of_cell? w _ b1)).trans b1),((HB.out.cell (World.block_lt_of_cell? w _ b0)).trans b0),((HB.out.cell (World.block_lt_of_cell? w _ ay)).trans ay)⟩ (fun hHeld=>?_)
           clear hK K
           refine qN (some 45) ?_
           refine qP 12 (some 8) (bN 13 8191) HT_ ?_
           refine Zu (Zj HT_.out kr) ?_
           try go_wp2
           go_ret
           exact⟨by first|rfl|(simp[Qz,Qy] <;> rfl)|(simp only[← a4];first|rfl|(simp[Qz,Qy] <;> rfl))|(simp[*,Qz,Qy] <;> rfl),HB.out⟩
         ·rw[if_neg au] at H
          exact absurd H (by simp)
        ·rw[if_neg a3] at H
         exact absurd H (by simp)
       ·rw[if_neg az] at H
        have c14b0:decide (0<L)=false:=decide_eq_false az
        clear az
        have H':=Aside0.mk H
        clear H
        have fc:=a2.out
        have fe:=a1.out
        obtain⟨cg,cm,cn,co⟩:=qD2 O.out
        try go_wp2
        replace U:=Aside0.mk (Qa U.out)
        replace O:=Aside0.mk (Qa O.out)
        replace HB:=Aside0.mk (Qf HB.out)
        have ba:0≤(L:Int):=of_decide_eq_true (by assumption)
        have bb:L<(B.length:Int):=of_decide_eq_true (by assumption)
        obtain⟨Y,bp,γ,ζ,ι⟩:=Z3 ag.out L ba bb
        have σ:= ι
        have τ := ζ
        have φ :=γ
        cases bp
        replace γ:=(HB.out.cell (World.block_lt_of_cell? w _ γ)).trans γ
        replace ζ :=(HB.out.cell (World.block_lt_of_cell? w _ ζ)).trans ζ
        replace ι :=(HB.out.cell (World.block_lt_of_cell? w _ ι)).trans ι
        replace ba:=eq_true ba
        replace bb:=eq_true bb
        refine Zn (n:=8) (S:=fun w'=>w'.cell? ⟨a5,0,none⟩=some (.int .i64 I)∧w'.cell? ⟨a5,1,none⟩=some (.int .i64 J)∧w'.cell? ⟨ρ,0,none⟩=some (.slice (some Y) B.length δ)∧w'.cell? ⟨ρ,1,none⟩=some (.slice θ D.length ε)∧w'.cell? (Y.add ((L).toNat * 3))=some (.int .i64 ((Qg B L).f0))∧w'.cell? ⟨(Y.add ((L).toNat * 3)).block,(Y.add ((L).toNat * 3)).off+1,none⟩=some (.int .i64 ((Qg B L).f1))∧w'.cell? ⟨(Y.add ((L).toNat * 3)).block,(Y.add ((L).toNat * 3)).off+2,none⟩=some (.int .i64 ((Qg B L).f2))) (ds:=[]) #[false,false,false,false,false,false,false,false] kr rfl rfl ⟨(Ql U.out 0).trans rfl,(Ql U.out 1).trans rfl,(Ql O.out 0).trans rfl,(Ql O.out 1).trans rfl,((HB.out.cell (World.block_lt_of_cell? w _ φ)).trans φ),((HB.out.cell (World.block_lt_of_cell? w _ τ)).trans τ),((HB.out.cell (World.block_lt_of_cell? w _ σ)).trans σ)⟩ (fun hHeld=>?_);refine Q8 newelref19_May.Mq newelref19_May.Wj (fun HT_ HW_=>?_)
        generalize wr.drew=ei at U O HB γ ζ ι hHeld ⊢
        refine qP 1 (some 24) (bN 8 2) HT_ ?_
        refine qP 3 (some 26) (bN 8 10) HT_ ?_
        refine qT 0 (some 23) (bN 8 11) HT_ HW_ hHeld ?_
        refine qT 2 (some 25) (bN 8 15) HT_ HW_ hHeld ?_
        refine qP 4 (some 27) (bN 8 31) HT_ ?_
        refine qT 5 (some 28) (bN 8 63) HT_ HW_ hHeld ?_
        refine Zg (i:=6) (N:=some 29) (bN 8 127) rfl rfl (Q1 HT_.out kr) (by decide) (fun K hK=>?_)
        refine Ze Try.func25 kr rfl #[.agg #[.int .i64 I,.int .i64 J],.agg #[.int .i64 ((Qg B L).f0),.int .i64 ((Qg B L).f1),.int .i64 ((Qg B L).f2)]] (by rfl) rfl rfl qM ?_
        with_reducible refine(newelref19_Hall.calls k1 I J ((Qg B L).f0) ((Qg B L).f1) ((Qg B L).f2) true _ ct.out).mono ?_
        rintro e eb ⟨rfl,hb⟩
        refine⟨_,rfl, ?_⟩
        replace U:=sBk U hb
        replace O:=sBk O hb
        replace HB:=sHb hb
        (try clear hb)
        (try clear a0)
        (try clear hk)
        (try clear hi)
        refine hK.out _ _ ⟨qc U,qc U,qc O,qc O,((HB.out.cell (World.block_lt_of_cell? w _ φ)).trans φ),((HB.out.cell (World.block_lt_of_cell? w _ τ)).trans τ),((HB.out.cell (World.block_lt_of_cell? w _ σ)).trans σ)⟩ (fun hHeld=>?_)
        clear hK K
        refine qN (some 29) ?_
        refine qP 7 (some 7) (bN 8 255) HT_ ?_
        refine Zu (Zj HT_.out kr) ?_
        try go_wp2
        go_roundg k1
        case measure=>have:= ξ.out;omega
        case rel=>exact⟨(wrap64 (L+1)),rfl,H',⟨by have:= ξ.out;omega⟩,U,O,HB⟩
      ·replace bg:=Bool.eq_false_iff.mpr bg
       subst bg
       have H1:(some false)=some r:=by rw[if_neg (show ¬ (false=true) by decide)] at H;exact H
       clear H
       have H:=H1
       clear H1
       obtain rfl:=Option.some.inj H
       have ek:=a2.out
       have el:=a1.out
       obtain⟨cp,cv,cw,d1⟩:=qD2 O.out
       try go_wp2
       replace U:=Aside0.mk (Qa U.out)
       replace O:=Aside0.mk (Qa O.out)
       replace HB:=Aside0.mk (Qf HB.out)
       have ba:0≤(L:Int):=of_decide_eq_true (by assumption)
       have bb:L<(B.length:Int):=of_decide_eq_true (by assumption)
       obtain⟨Y,bp,γ,ζ,ι⟩:=Z3 ag.out L ba bb
       have σ:= ι
       have τ := ζ
       have φ :=γ
       cases bp
       replace γ:=(HB.out.cell (World.block_lt_of_cell? w _ γ)).trans γ
       replace ζ :=(HB.out.cell (World.block_lt_of_cell? w _ ζ)).trans ζ
       replace ι :=(HB.out.cell (World.block_lt_of_cell? w _ ι)).trans ι
       replace ba:=eq_true ba
       replace bb:=eq_true bb
       refine Zn (n:=8) (S:=fun w'=>w'.cell? ⟨a5,0,none⟩=some (.int .i64 I)∧w'.cell? ⟨a5,1,none⟩=some (.int .i64 J)∧w'.cell? ⟨ρ,0,none⟩=some (.slice (some Y) B.length δ)∧w'.cell? ⟨ρ,1,none⟩=some (.slice θ D.length ε)∧w'.cell? (Y.add ((L).toNat * 3))=some (.int .i64 ((Qg B L).f0))∧w'.cell? ⟨(Y.add ((L).toNat * 3)).block,(Y.add ((L).toNat * 3)).off+1,none⟩=some (.int .i64 ((Qg B L).f1))∧w'.cell? ⟨(Y.add ((L).toNat * 3)).block,(Y.add ((L).toNat * 3)).off+2,none⟩=some (.int .i64 ((Qg B L).f2))) (ds:=[]) #[false,false,false,false,false,false,false,false] kr rfl rfl ⟨(Ql U.out 0).trans rfl,(Ql U.out 1).trans rfl,(Ql O.out 0).trans rfl,(Ql O.out 1).trans rfl,((HB.out.cell (World.block_lt_of_cell? w _ φ)).trans φ),((HB.out.cell (World.block_lt_of_cell? w _ τ)).trans τ),((HB.out.cell (World.block_lt_of_cell? w _ σ)).trans σ)⟩ (fun hHeld=>?_);refine Q8 newelref19_May.Mq newelref19_May.Wj (fun HT_ HW_=>?_)
       generalize wr.drew=gg at U O HB γ ζ ι hHeld ⊢
       refine qP 1 (some 24) (bN 8 2) HT_ ?_
       refine qP 3 (some 26) (bN 8 10) HT_ ?_
       refine qT 0 (some 23) (bN 8 11) HT_ HW_ hHeld ?_
       refine qT 2 (some 25) (bN 8 15) HT_ HW_ hHeld ?_
       refine qP 4 (some 27) (bN 8 31) HT_ ?_
       refine qT 5 (some 28) (bN 8 63) HT_ HW_ hHeld ?_
       refine Zg (i:=6) (N:=some 29) (bN 8 127) rfl rfl (Q1 HT_.out kr) (by decide) (fun K hK=>?_)
       refine Ze Try.func25 kr rfl #[.agg #[.int .i64 I,.int .i64 J],.agg #[.int .i64 ((Qg B L).f0),.int .i64 ((Qg B L).f1),.int .i64 ((Qg B L).f2)]] (by rfl) rfl rfl qM ?_
       with_reducible refine(newelref19_Hall.calls k1 I J ((Qg B L).f0) ((Qg B L).f1) ((Qg B L).f2) false _ ct.out).mono ?_
       rintro e ch ⟨rfl,hb⟩
       refine⟨_,rfl, ?_⟩
       replace U:=sBk U hb
       replace O:=sBk O hb
       replace HB:=sHb hb
       (try clear hb)
       (try clear a0)
       (try clear hk)
       (try clear hi)
       refine hK.out _ _ ⟨qc U,qc U,qc O,qc O,((HB.out.cell (World.block_lt_of_cell? w _ φ)).trans φ),((HB.out.cell (World.block_lt_of_cell? w _ τ)).trans τ),((HB.out.cell (World.block_lt_of_cell? w _ σ)).trans σ)⟩ (fun hHeld=>?_)
       clear hK K
       refine qN (some 29) ?_
       refine qP 7 (some 7) (bN 8 255) HT_ ?_
       refine Zu (Zj HT_.out kr) ?_
       try go_wp2
       go_ret
       exact⟨rfl,HB.out⟩
     ·rw[if_neg cb] at H
      exact absurd H (by simp)
    ·rw[if_neg c10] at H
     have c10b0:decide (L<(B.length:Int))=false:=decide_eq_false c10
     clear c10
     have H':=Aside0.mk H
     clear H
     have ew:=a2.out
     have ey:=a1.out
     obtain⟨cj,ck,cq,cu⟩:=qD2 O.out
     go_wp2
     go_loopg [9] k1 (fun kq v9 w'=>∃ (X:Int),v9 = .int .i64 X∧Aside0 (newelref19_May.l1 kq X I J B D=some r)∧Aside0 (kq≤k1)∧Aside0 (w'.heap[a5]?=some (.cells #[.int .i64 I,.int .i64 J] 23 (0,0)))∧Aside0 (w'.heap[ρ]?=some (.cells #[(.slice η B.length δ),(.slice θ D.length ε)] 27 (0,0)))∧Aside0 (Below w.heap.size w w'))
     case atStart=>exact⟨(0),rfl,H',⟨Nat.le_refl _⟩,U,O,HB⟩
     case round=>
      clear H'
      try clear c1
      try clear c2
      try clear p2
      try clear q2
      try clear ec
      try clear c3
      try clear c4
      try clear p6
      try clear c10
      try clear c10b0
      try clear cb
      try clear bg
      try clear az
      try clear c14b0
      try clear a3
      try clear au
      try clear dx
      try clear ej
      try clear ep
      try clear e3
      try clear bc
      try clear am
      try clear k3
      try clear k0
      try clear k8
      try clear ky
      try clear cx
      try clear cy
      try clear cg
      try clear cm
      try clear cp
      try clear cv
      try clear cj
      try clear ck
      try clear cz
      try clear d0
      try clear cn
      try clear co
      try clear cw
      try clear d1
      try clear cq
      try clear cu
      try clear γ
      try clear ζ
      try clear ι
      try clear a6
      try clear a7
      try clear a8
      try clear a9
      try clear aa
      try clear ab
      try clear ba
      try clear bk
      try clear bn
      try clear bb
      try clear bl
      try clear bo
      obtain⟨X,rfl,HA,bm,U,O,HB⟩:=hrel
      cases gk with
      |zero=>exact absurd HA.out (by simp[newelref19_May.l1])
      |succ k2=>
       have H:=HA.out
       clear HA
       simp only[newelref19_May.l1] at H
       by_cases dr:X<(D.length:Int)
       ·rw[if_pos dr] at H
        have c42b0:decide (X<(D.length:Int))=true:=decide_eq_true dr
        clear dr
        by_cases dl:0≤X
        ·rw[if_pos dl] at H
         have c43b0:decide (0≤X)=true:=decide_eq_true dl
         clear dl
         replace H:=Option.bind_eq_some_iff.mp H
         obtain⟨d7,d5,H⟩:=H
         replace H:(if d7=true then (if X>0 then (if 0≤(wrap64 (X-1)) then (if (wrap64 (X-1))<(D.length:Int) then ((newelref19_before.f ((Qp D (wrap64 (X-1))).f0) ((Qp D (wrap64 (X-1))).f1) ((Qp D X).f0) ((Qp D X).f1)).bind fun bi=>(if bi=true then (newelref19_May.l1 k2 (wrap64 (X+1)) I J B D) else (some false))) else (none)) else (none)) else (newelref19_May.l1 k2 (wrap64 (X+1)) I J B D)) else (some false))=some r:=H
         have d6:=Aside0.mk d5
         clear d5
         by_cases f9:d7=true
         ·subst f9
          have H1:(if X>0 then (if 0≤(wrap64 (X-1)) then (if (wrap64 (X-1))<(D.length:Int) then ((newelref19_before.f ((Qp D (wrap64 (X-1))).f0) ((Qp D (wrap64 (X-1))).f1) ((Qp D X).f0) ((Qp D X).f1)).bind fun bi=>(if bi=true then (newelref19_May.l1 k2 (wrap64 (X+1)) I J B D) else (some false))) else (none)) else (none)) else (newelref19_May.l1 k2 (wrap64 (X+1)) I J B D))=some r:=by rw[if_pos rfl] at H;exact H
          clear H
          have H:=H1
          clear H1
          by_cases eo:X>0
          ·rw[if_pos eo] at H
           have c46b0:decide (0<X)=true:=decide_eq_true eo
           clear eo
           obtain⟨ω,bj⟩:∃ j_:Int,(wrap64 (X-1))=j_:=⟨_,rfl⟩
           replace H:(if 0≤(ω) then (if (ω)<(D.length:Int) then ((newelref19_before.f ((Qp D (ω)).f0) ((Qp D (ω)).f1) ((Qp D X).f0) ((Qp D X).f1)).bind fun bi=>(if bi=true then (newelref19_May.l1 k2 (wrap64 (X+1)) I J B D) else (some false))) else (none)) else (none))=some r:=by first|(rw[bj] at H;exact H)|(simp only[bj] at H ⊢;exact H)
           (try rw[bj] at d6)
           have hji47w:(IntKind.i64.wrap (X-1)) = ω :=(X5 _).trans bj
           by_cases fa:0≤(ω)
           ·rw[if_pos fa] at H
            have c48b0:decide (0≤(ω))=true:=decide_eq_true fa
            clear fa
            by_cases ee:(ω)<(D.length:Int)
            ·rw[if_pos ee] at H
             have c49b0:decide ((ω)<(D.length:Int))=true:=decide_eq_true ee
             clear ee
             replace H:=Option.bind_eq_some_iff.mp H
             obtain⟨bi,g7,H⟩:=H
             replace H:(if bi=true then (newelref19_May.l1 k2 (wrap64 (X+1)) I J B D) else (some false))=some r:=H
             have ca:=Aside0.mk g7
             clear g7
             by_cases eh:bi=true
             ·subst eh
              have H1:(newelref19_May.l1 k2 (wrap64 (X+1)) I J B D)=some r:=by rw[if_pos rfl] at H;exact H
              clear H
              have H:=H1
              clear H1
              have H':=Aside0.mk H
              clear H
              have g1:=a2.out
              have g8:=a1.out
              obtain⟨fb,fh,fi,fj⟩:=qD2 O.out
              try go_wp2
              replace U:=Aside0.mk (Qa U.out)
              replace O:=Aside0.mk (Qa O.out)
              replace HB:=Aside0.mk (Qf HB.out)
              have be:0≤(X:Int):=of_decide_eq_true (by assumption)
              have bf:X<(D.length:Int):=of_decide_eq_true (by assumption)
              obtain⟨Z,br,μ,ν⟩:=Z8 ah.out X be bf
              have χ := ν
              have ψ := μ
              cases br
              replace μ :=(HB.out.cell (World.block_lt_of_cell? w _ μ)).trans μ
              replace ν :=(HB.out.cell (World.block_lt_of_cell? w _ ν)).trans ν
              replace be:=eq_true be
              replace bf:=eq_true bf
              refine Zn (n:=8) (S:=fun w'=>w'.cell? ⟨a5,0,none⟩=some (.int .i64 I)∧w'.cell? ⟨a5,1,none⟩=some (.int .i64 J)∧w'.cell? ⟨ρ,0,none⟩=some (.slice η B.length δ)∧w'.cell? ⟨ρ,1,none⟩=some (.slice (some Z) D.length ε)∧w'.cell? (Z.add ((X).toNat * 2))=some (.int .i64 ((Qp D X).f0))∧w'.cell? ⟨(Z.add ((X).toNat * 2)).block,(Z.add ((X).toNat * 2)).off+1,none⟩=some (.int .i64 ((Qp D X).f1))) (ds:=[]) #[false,false,false,false,false,false,false,false] kr rfl rfl ⟨(Ql U.out 0).trans rfl,(Ql U.out 1).trans rfl,(Ql O.out 0).trans rfl,(Ql O.out 1).trans rfl,((HB.out.cell (World.block_lt_of_cell? w _ ψ)).trans ψ),((HB.out.cell (World.block_lt_of_cell? w _ χ)).trans χ)⟩ (fun hHeld=>?_);refine Q8 newelref19_May.Wa newelref19_May.Vz (fun HT_ HW_=>?_)
              generalize wr.drew=j3 at U O HB μ ν hHeld ⊢
              refine qP 1 (some 56) (bN 8 2) HT_ ?_
              refine qP 3 (some 58) (bN 8 10) HT_ ?_
              refine qT 0 (some 55) (bN 8 11) HT_ HW_ hHeld ?_
              refine qT 2 (some 57) (bN 8 15) HT_ HW_ hHeld ?_
              refine qP 4 (some 59) (bN 8 31) HT_ ?_
              refine qT 5 (some 60) (bN 8 63) HT_ HW_ hHeld ?_
              refine Zg (i:=6) (N:=some 61) (bN 8 127) rfl rfl (Q1 HT_.out kr) (by decide) (fun K hK=>?_)
              refine Ze Try.func39 kr rfl #[.agg #[.int .i64 I,.int .i64 J],.agg #[.int .i64 ((Qp D X).f0),.int .i64 ((Qp D X).f1)]] (by rfl) rfl rfl qM ?_
              with_reducible refine(newelref19_Inside.calls I J ((Qp D X).f0) ((Qp D X).f1) true _ d6.out).mono ?_
              rintro e ij ⟨rfl,hb⟩
              refine⟨_,rfl, ?_⟩
              replace U:=sBk U hb
              replace O:=sBk O hb
              replace HB:=sHb hb
              (try clear hb)
              (try clear a0)
              (try clear hk)
              (try clear hi)
              refine hK.out _ _ ⟨qc U,qc U,qc O,qc O,((HB.out.cell (World.block_lt_of_cell? w _ ψ)).trans ψ),((HB.out.cell (World.block_lt_of_cell? w _ χ)).trans χ)⟩ (fun hHeld=>?_)
              clear hK K
              refine qN (some 61) ?_
              refine qP 7 (some 10) (bN 8 255) HT_ ?_
              refine Zu (Zj HT_.out kr) ?_
              try go_wp2
              replace U:=Aside0.mk (Qa U.out)
              replace O:=Aside0.mk (Qa O.out)
              replace HB:=Aside0.mk (Qf HB.out)
              have bs:0≤((ω):Int):=of_decide_eq_true (by assumption)
              have bv:(ω)<(D.length:Int):=of_decide_eq_true (by assumption)
              obtain⟨da,dj,ac,af⟩:=Z8 ah.out (ω) bs bv
              have b2:=af
              have b3:=ac
              obtain rfl:Z=da:=(by injection dj)
              replace ac:=(HB.out.cell (World.block_lt_of_cell? w _ ac)).trans ac
              replace af:=(HB.out.cell (World.block_lt_of_cell? w _ af)).trans af
              replace bs:=eq_true bs
              replace bv:=eq_true bv
              have bw:0≤(X:Int):=of_decide_eq_true (by assumption)
              have bz:X<(D.length:Int):=of_decide_eq_true (by assumption)
              obtain⟨dc,dk,ai,aj⟩:=Z8 ah.out X bw bz
              have b8:=aj
              have b9:=ai
              obtain rfl:Z=dc:=(by injection dk)
              replace ai:=(HB.out.cell (World.block_lt_of_cell? w _ ai)).trans ai
              replace aj:=(HB.out.cell (World.block_lt_of_cell? w _ aj)).trans aj
              replace bw:=eq_true bw
              replace bz:=eq_true bz
              refine Zn (n:=13) (S:=fun w'=>w'.cell? ⟨ρ,0,none⟩=some (.slice η B.length δ)∧w'.cell? ⟨ρ,1,none⟩=some (.slice (some Z) D.length ε)∧w'.cell? (Z.add (((ω)).toNat * 2))=some (.int .i64 ((Qp D (ω)).f0))∧w'.cell? ⟨(Z.add (((ω)).toNat * 2)).block,(Z.add (((ω)).toNat * 2)).off+1,none⟩=some (.int .i64 ((Qp D (ω)).f1))∧w'.cell? (Z.add ((X).toNat * 2))=some (.int .i64 ((Qp D X).f0))∧w'.cell? ⟨(Z.add ((X).toNat * 2)).block,(Z.add ((X).toNat * 2)).off+1,none⟩=some (.int .i64 ((Qp D X).f1))) (ds:=[]) #[false,false,false,false,false,false,false,false,false,false,false,false,false] kr rfl rfl ⟨(Ql O.out 0).trans rfl,(Ql O.out 1).trans rfl,((HB.out.cell (World.block_lt_of_cell? w _ b3)).trans b3),((HB.out.cell (World.block_lt_of_cell? w _ b2)).trans b2),((HB.out.cell (World.block_lt_of_cell? w _ b9)).trans b9),((HB.out.cell (World.block_lt_of_cell? w _ b8)).trans b8)⟩ (fun hHeld=>?_);refine Q8 newelref19_May.Nh newelref19_May.Mb (fun HT_ HW_=>?_)
              generalize ij.drew=gi at U O HB ac af ai aj hHeld ⊢
              refine qP 0 (some 66) (bN 13 1) HT_ ?_
              refine qP 2 (some 68) (bN 13 5) HT_ ?_
              refine qP 3 (some 69) (bN 13 13) HT_ ?_
              refine qP 6 (some 72) (bN 13 77) HT_ ?_
              refine qP 8 (some 74) (bN 13 333) HT_ ?_
              refine qT 1 (some 67) (bN 13 335) HT_ HW_ hHeld ?_
              refine qP 4 (some 70) (bN 13 351) HT_ ?_
              refine qT 5 (some 71) (bN 13 383) HT_ HW_ hHeld ?_
              refine qT 7 (some 73) (bN 13 511) HT_ HW_ hHeld ?_
              refine qP 9 (some 75) (bN 13 1023) HT_ ?_
              refine qT 10 (some 76) (bN 13 2047) HT_ HW_ hHeld ?_
              refine Zg (i:=11) (N:=some 77) (bN 13 4095) rfl rfl (Q1 HT_.out kr) (by decide) (fun K hK=>?_)
              refine Ze Try.func40 kr rfl #[.agg #[.int .i64 ((Qp D (ω)).f0),.int .i64 ((Qp D (ω)).f1)],.agg #[.int .i64 ((Qp D X).f0),.int .i64 ((Qp D X).f1)]] (by rfl) rfl rfl (by(try simp only[List.map_toArray,List.map_cons,List.map_nil]);first|done|(simp only[bj];rfl)|rfl|(simp only[List.length_drop,List.length_take];rfl)) ?_
              with_reducible refine(newelref19_before.calls ((Qp D (ω)).f0) ((Qp D (ω)).f1) ((Qp D X).f0) ((Qp D X).f1) true _ ca.out).mono ?_
              rintro e ef ⟨rfl,hb⟩
              refine⟨_,rfl, ?_⟩
              replace U:=sBk U hb
              replace O:=sBk O hb
              replace HB:=sHb hb
              (try clear hb)
              (try clear a0)
              (try clear hk)
              (try clear hi)
              refine hK.out _ _ ⟨qc O,qc O,((HB.out.cell (World.block_lt_of_cell? w _ b3)).trans b3),((HB.out.cell (World.block_lt_of_cell? w _ b2)).trans b2),((HB.out.cell (World.block_lt_of_cell? w _ b9)).trans b9),((HB.out.cell (World.block_lt_of_cell? w _ b8)).trans b8)⟩ (fun hHeld=>?_)
              clear hK K
              refine qN (some 77) ?_
              refine qP 12 (some 11) (bN 13 8191) HT_ ?_
              refine Zu (Zj HT_.out kr) ?_
              try go_wp2
              go_roundg k2
              case measure=>have:= ξ.out;have:=bm.out;omega
              case rel=>exact⟨(wrap64 (X+1)),rfl,H',⟨by have:= ξ.out;have:=bm.out;omega⟩,U,O,HB⟩
             ·replace eh:=Bool.eq_false_iff.mpr eh
              subst eh
              have H1:(some false)=some r:=by rw[if_neg (show ¬ (false=true) by decide)] at H;exact H
              clear H
              have H:=H1
              clear H1
              obtain rfl:=Option.some.inj H
              have hy:=a2.out
              have i0:=a1.out
              obtain⟨e4,e6,e7,ea⟩:=qD2 O.out
              try go_wp2
              replace U:=Aside0.mk (Qa U.out)
              replace O:=Aside0.mk (Qa O.out)
              replace HB:=Aside0.mk (Qf HB.out)
              have be:0≤(X:Int):=of_decide_eq_true (by assumption)
              have bf:X<(D.length:Int):=of_decide_eq_true (by assumption)
              obtain⟨Z,br,μ,ν⟩:=Z8 ah.out X be bf
              have χ := ν
              have ψ := μ
              cases br
              replace μ :=(HB.out.cell (World.block_lt_of_cell? w _ μ)).trans μ
              replace ν :=(HB.out.cell (World.block_lt_of_cell? w _ ν)).trans ν
              replace be:=eq_true be
              replace bf:=eq_true bf
              refine Zn (n:=8) (S:=fun w'=>w'.cell? ⟨a5,0,none⟩=some (.int .i64 I)∧w'.cell? ⟨a5,1,none⟩=some (.int .i64 J)∧w'.cell? ⟨ρ,0,none⟩=some (.slice η B.length δ)∧w'.cell? ⟨ρ,1,none⟩=some (.slice (some Z) D.length ε)∧w'.cell? (Z.add ((X).toNat * 2))=some (.int .i64 ((Qp D X).f0))∧w'.cell? ⟨(Z.add ((X).toNat * 2)).block,(Z.add ((X).toNat * 2)).off+1,none⟩=some (.int .i64 ((Qp D X).f1))) (ds:=[]) #[false,false,false,false,false,false,false,false] kr rfl rfl ⟨(Ql U.out 0).trans rfl,(Ql U.out 1).trans rfl,(Ql O.out 0).trans rfl,(Ql O.out 1).trans rfl,((HB.out.cell (World.block_lt_of_cell? w _ ψ)).trans ψ),((HB.out.cell (World.block_lt_of_cell? w _ χ)).trans χ)⟩ (fun hHeld=>?_);refine Q8 newelref19_May.Wa newelref19_May.Vz (fun HT_ HW_=>?_)
              generalize wr.drew=l9 at U O HB μ ν hHeld ⊢
              refine qP 1 (some 56) (bN 8 2) HT_ ?_
              refine qP 3 (some 58) (bN 8 10) HT_ ?_
              refine qT 0 (some 55) (bN 8 11) HT_ HW_ hHeld ?_
              refine qT 2 (some 57) (bN 8 15) HT_ HW_ hHeld ?_
              refine qP 4 (some 59) (bN 8 31) HT_ ?_
              refine qT 5 (some 60) (bN 8 63) HT_ HW_ hHeld ?_
              refine Zg (i:=6) (N:=some 61) (bN 8 127) rfl rfl (Q1 HT_.out kr) (by decide) (fun K hK=>?_)
              refine Ze Try.func39 kr rfl #[.agg #[.int .i64 I,.int .i64 J],.agg #[.int .i64 ((Qp D X).f0),.int .i64 ((Qp D X).f1)]] (by rfl) rfl rfl qM ?_
              with_reducible refine(newelref19_Inside.calls I J ((Qp D X).f0) ((Qp D X).f1) true _ d6.out).mono ?_
              rintro e ic ⟨rfl,hb⟩
              refine⟨_,rfl, ?_⟩
              replace U:=sBk U hb
              replace O:=sBk O hb
              replace HB:=sHb hb
              (try clear hb)
              (try clear a0)
              (try clear hk)
              (try clear hi)
              refine hK.out _ _ ⟨qc U,qc U,qc O,qc O,((HB.out.cell (World.block_lt_of_cell? w _ ψ)).trans ψ),((HB.out.cell (World.block_lt_of_cell? w _ χ)).trans χ)⟩ (fun hHeld=>?_)
              clear hK K
              refine qN (some 61) ?_
              refine qP 7 (some 10) (bN 8 255) HT_ ?_
              refine Zu (Zj HT_.out kr) ?_
              try go_wp2
              replace U:=Aside0.mk (Qa U.out)
              replace O:=Aside0.mk (Qa O.out)
              replace HB:=Aside0.mk (Qf HB.out)
              have bs:0≤((ω):Int):=of_decide_eq_true (by assumption)
              have bv:(ω)<(D.length:Int):=of_decide_eq_true (by assumption)
              obtain⟨da,dj,ac,af⟩:=Z8 ah.out (ω) bs bv
              have b2:=af
              have b3:=ac
              obtain rfl:Z=da:=(by injection dj)
              replace ac:=(HB.out.cell (World.block_lt_of_cell? w _ ac)).trans ac
              replace af:=(HB.out.cell (World.block_lt_of_cell? w _ af)).trans af
              replace bs:=eq_true bs
              replace bv:=eq_true bv
              have bw:0≤(X:Int):=of_decide_eq_true (by assumption)
              have bz:X<(D.length:Int):=of_decide_eq_true (by assumption)
              obtain⟨dc,dk,ai,aj⟩:=Z8 ah.out X bw bz
              have b8:=aj
              have b9:=ai
              obtain rfl:Z=dc:=(by injection dk)
              replace ai:=(HB.out.cell (World.block_lt_of_cell? w _ ai)).trans ai
              replace aj:=(HB.out.cell (World.block_lt_of_cell? w _ aj)).trans aj
              replace bw:=eq_true bw
              replace bz:=eq_true bz
              refine Zn (n:=13) (S:=fun w'=>w'.cell? ⟨ρ,0,none⟩=some (.slice η B.length δ)∧w'.cell? ⟨ρ,1,none⟩=some (.slice (some Z) D.length ε)∧w'.cell? (Z.add (((ω)).toNat * 2))=some (.int .i64 ((Qp D (ω)).f0))∧w'.cell? ⟨(Z.add (((ω)).toNat * 2)).block,(Z.add (((ω)).toNat * 2)).off+1,none⟩=some (.int .i64 ((Qp D (ω)).f1))∧w'.cell? (Z.add ((X).toNat * 2))=some (.int .i64 ((Qp D X).f0))∧w'.cell? ⟨(Z.add ((X).toNat * 2)).block,(Z.add ((X).toNat * 2)).off+1,none⟩=some (.int .i64 ((Qp D X).f1))) (ds:=[]) #[false,false,false,false,false,false,false,false,false,false,false,false,false] kr rfl rfl ⟨(Ql O.out 0).trans rfl,(Ql O.out 1).trans rfl,((HB.out.cell (World.block_lt_of_cell? w _ b3)).trans b3),((HB.out.cell (World.block_lt_of_cell? w _ b2)).trans b2),((HB.out.cell (World.block_lt_of_cell? w _ b9)).trans b9),((HB.out.cell (World.block_lt_of_cell? w _ b8)).trans b8)⟩ (fun hHeld=>?_);refine Q8 newelref19_May.Nh newelref19_May.Mb (fun HT_ HW_=>?_)
              generalize ic.drew=lb at U O HB ac af ai aj hHeld ⊢
              refine qP 0 (some 66) (bN 13 1) HT_ ?_
              refine qP 2 (some 68) (bN 13 5) HT_ ?_
              refine qP 3 (some 69) (bN 13 13) HT_ ?_
              refine qP 6 (some 72) (bN 13 77) HT_ ?_
              refine qP 8 (some 74) (bN 13 333) HT_ ?_
              refine qT 1 (some 67) (bN 13 335) HT_ HW_ hHeld ?_
              refine qP 4 (some 70) (bN 13 351) HT_ ?_
              refine qT 5 (some 71) (bN 13 383) HT_ HW_ hHeld ?_
              refine qT 7 (some 73) (bN 13 511) HT_ HW_ hHeld ?_
              refine qP 9 (some 75) (bN 13 1023) HT_ ?_
              refine qT 10 (some 76) (bN 13 2047) HT_ HW_ hHeld ?_
              refine Zg (i:=11) (N:=some 77) (bN 13 4095) rfl rfl (Q1 HT_.out kr) (by decide) (fun K hK=>?_)
              refine Ze Try.func40 kr rfl #[.agg #[.int .i64 ((Qp D (ω)).f0),.int .i64 ((Qp D (ω)).f1)],.agg #[.int .i64 ((Qp D X).f0),.int .i64 ((Qp D X).f1)]] (by rfl) rfl rfl (by(try simp only[List.map_toArray,List.map_cons,List.map_nil]);first|done|(simp only[bj];rfl)|rfl|(simp only[List.length_drop,List.length_take];rfl)) ?_
              with_reducible refine(newelref19_before.calls ((Qp D (ω)).f0) ((Qp D (ω)).f1) ((Qp D X).f0) ((Qp D X).f1) false _ ca.out).mono ?_
              rintro e er ⟨rfl,hb⟩
              refine⟨_,rfl, ?_⟩
              replace U:=sBk U hb
              replace O:=sBk O hb
              replace HB:=sHb hb
              (try clear hb)
              (try clear a0)
              (try clear hk)
              (try clear hi)
              refine hK.out _ _ ⟨qc O,qc O,((HB.out.cell (World.block_lt_of_cell? w _ b3)).trans b3),((HB.out.cell (World.block_lt_of_cell? w _ b2)).trans b2),((HB.out.cell (World.block_lt_of_cell? w _ b9)).trans b9),((HB.out.cell (World.block_lt_of_cell? w _ b8)).trans b8)⟩ (fun hHeld=>?_)
              clear hK K
              refine qN (some 77) ?_
              refine qP 12 (some 11) (bN 13 8191) HT_ ?_
              refine Zu (Zj HT_.out kr) ?_
              try go_wp2
              go_ret
              exact⟨by first|rfl|(simp[Qz,Qy] <;> rfl)|(simp only[← bj];first|rfl|(simp[Qz,Qy] <;> rfl))|(simp[*,Qz,Qy] <;> rfl),HB.out⟩
            ·rw[if_neg ee] at H
             exact absurd H (by simp)
           ·rw[if_neg fa] at H
            exact absurd H (by simp)
          ·rw[if_neg eo] at H
           have c46b0:decide (0<X)=false:=decide_eq_false eo
           clear eo
           have H':=Aside0.mk H
           clear H
           have em:=a2.out
           have en:=a1.out
           obtain⟨gm,gn,gp,gq⟩:=qD2 O.out
           try go_wp2
           replace U:=Aside0.mk (Qa U.out)
           replace O:=Aside0.mk (Qa O.out)
           replace HB:=Aside0.mk (Qf HB.out)
           have be:0≤(X:Int):=of_decide_eq_true (by assumption)
           have bf:X<(D.length:Int):=of_decide_eq_true (by assumption)
           obtain⟨Z,br,μ,ν⟩:=Z8 ah.out X be bf
           have χ := ν
           have ψ := μ
           cases br
           replace μ :=(HB.out.cell (World.block_lt_of_cell? w _ μ)).trans μ
           replace ν :=(HB.out.cell (World.block_lt_of_cell? w _ ν)).trans ν
           replace be:=eq_true be
           replace bf:=eq_true bf
           refine Zn (n:=8) (S:=fun w'=>w'.cell? ⟨a5,0,none⟩=some (.int .i64 I)∧w'.cell? ⟨a5,1,none⟩=some (.int .i64 J)∧w'.cell? ⟨ρ,0,none⟩=some (.slice η B.length δ)∧w'.cell? ⟨ρ,1,none⟩=some (.slice (some Z) D.length ε)∧w'.cell? (Z.add ((X).toNat * 2))=some (.int .i64 ((Qp D X).f0))∧w'.cell? ⟨(Z.add ((X).toNat * 2)).block,(Z.add ((X).toNat * 2)).off+1,none⟩=some (.int .i64 ((Qp D X).f1))) (ds:=[]) #[false,false,false,false,false,false,false,false] kr rfl rfl ⟨(Ql U.out 0).trans rfl,(Ql U.out 1).trans rfl,(Ql O.out 0).trans rfl,(Ql O.out 1).trans rfl,((HB.out.cell (World.block_lt_of_cell? w _ ψ)).trans ψ),((HB.out.cell (World.block_lt_of_cell? w _ χ)).trans χ)⟩ (fun hHeld=>?_);refine Q8 newelref19_May.Wa newelref19_May.Vz (fun HT_ HW_=>?_)
           generalize wr.drew=j2 at U O HB μ ν hHeld ⊢
           refine qP 1 (some 56) (bN 8 2) HT_ ?_
           refine qP 3 (some 58) (bN 8 10) HT_ ?_
           refine qT 0 (some 55) (bN 8 11) HT_ HW_ hHeld ?_
           refine qT 2 (some 57) (bN 8 15) HT_ HW_ hHeld ?_
           refine qP 4 (some 59) (bN 8 31) HT_ ?_
           refine qT 5 (some 60) (bN 8 63) HT_ HW_ hHeld ?_
           refine Zg (i:=6) (N:=some 61) (bN 8 127) rfl rfl (Q1 HT_.out kr) (by decide) (fun K hK=>?_)
           refine Ze Try.func39 kr rfl #[.agg #[.int .i64 I,.int .i64 J],.agg #[.int .i64 ((Qp D X).f0),.int .i64 ((Qp D X).f1)]] (by rfl) rfl rfl qM ?_
           with_reducible refine(newelref19_Inside.calls I J ((Qp D X).f0) ((Qp D X).f1) true _ d6.out).mono ?_
           rintro e j4 ⟨rfl,hb⟩
           refine⟨_,rfl, ?_⟩
           replace U:=sBk U hb
           replace O:=sBk O hb
           replace HB:=sHb hb
           (try clear hb)
           (try clear a0)
           (try clear hk)
           (try clear hi)
           refine hK.out _ _ ⟨qc U,qc U,qc O,qc O,((HB.out.cell (World.block_lt_of_cell? w _ ψ)).trans ψ),((HB.out.cell (World.block_lt_of_cell? w _ χ)).trans χ)⟩ (fun hHeld=>?_)
           clear hK K
           refine qN (some 61) ?_
           refine qP 7 (some 10) (bN 8 255) HT_ ?_
           refine Zu (Zj HT_.out kr) ?_
           try go_wp2
           go_roundg k2
           case measure=>have:= ξ.out;have:=bm.out;omega
           case rel=>exact⟨(wrap64 (X+1)),rfl,H',⟨by have:= ξ.out;have:=bm.out;omega⟩,U,O,HB⟩
         ·replace f9:=Bool.eq_false_iff.mpr f9
          subst f9
          have H1:(some false)=some r:=by rw[if_neg (show ¬ (false=true) by decide)] at H;exact H
          clear H
          have H:=H1
          clear H1
          obtain rfl:=Option.some.inj H
          have dp:=a2.out
          have dy:=a1.out
          obtain⟨fn,fo,fp,fq⟩:=qD2 O.out
          try go_wp2
          replace U:=Aside0.mk (Qa U.out)
          replace O:=Aside0.mk (Qa O.out)
          replace HB:=Aside0.mk (Qf HB.out)
          have be:0≤(X:Int):=of_decide_eq_true (by assumption)
          have bf:X<(D.length:Int):=of_decide_eq_true (by assumption)
          obtain⟨Z,br,μ,ν⟩:=Z8 ah.out X be bf
          have χ := ν
          have ψ := μ
          cases br
          replace μ :=(HB.out.cell (World.block_lt_of_cell? w _ μ)).trans μ
          replace ν :=(HB.out.cell (World.block_lt_of_cell? w _ ν)).trans ν
          replace be:=eq_true be
          replace bf:=eq_true bf
          refine Zn (n:=8) (S:=fun w'=>w'.cell? ⟨a5,0,none⟩=some (.int .i64 I)∧w'.cell? ⟨a5,1,none⟩=some (.int .i64 J)∧w'.cell? ⟨ρ,0,none⟩=some (.slice η B.length δ)∧w'.cell? ⟨ρ,1,none⟩=some (.slice (some Z) D.length ε)∧w'.cell? (Z.add ((X).toNat * 2))=some (.int .i64 ((Qp D X).f0))∧w'.cell? ⟨(Z.add ((X).toNat * 2)).block,(Z.add ((X).toNat * 2)).off+1,none⟩=some (.int .i64 ((Qp D X).f1))) (ds:=[]) #[false,false,false,false,false,false,false,false] kr rfl rfl ⟨(Ql U.out 0).trans rfl,(Ql U.out 1).trans rfl,(Ql O.out 0).trans rfl,(Ql O.out 1).trans rfl,((HB.out.cell (World.block_lt_of_cell? w _ ψ)).trans ψ),((HB.out.cell (World.block_lt_of_cell? w _ χ)).trans χ)⟩ (fun hHeld=>?_);refine Q8 newelref19_May.Wa newelref19_May.Vz (fun HT_ HW_=>?_)
          generalize wr.drew=m8 at U O HB μ ν hHeld ⊢
          refine qP 1 (some 56) (bN 8 2) HT_ ?_
          refine qP 3 (some 58) (bN 8 10) HT_ ?_
          refine qT 0 (some 55) (bN 8 11) HT_ HW_ hHeld ?_
          refine qT 2 (some 57) (bN 8 15) HT_ HW_ hHeld ?_
          refine qP 4 (some 59) (bN 8 31) HT_ ?_
          refine qT 5 (some 60) (bN 8 63) HT_ HW_ hHeld ?_
          refine Zg (i:=6) (N:=some 61) (bN 8 127) rfl rfl (Q1 HT_.out kr) (by decide) (fun K hK=>?_)
          refine Ze Try.func39 kr rfl #[.agg #[.int .i64 I,.int .i64 J],.agg #[.int .i64 ((Qp D X).f0),.int .i64 ((Qp D X).f1)]] (by rfl) rfl rfl qM ?_
          with_reducible refine(newelref19_Inside.calls I J ((Qp D X).f0) ((Qp D X).f1) false _ d6.out).mono ?_
          rintro e lc ⟨rfl,hb⟩
          refine⟨_,rfl, ?_⟩
          replace U:=sBk U hb
          replace O:=sBk O hb
          replace HB:=sHb hb
          (try clear hb)
          (try clear a0)
          (try clear hk)
          (try clear hi)
          refine hK.out _ _ ⟨qc U,qc U,qc O,qc O,((HB.out.cell (World.block_lt_of_cell? w _ ψ)).trans ψ),((HB.out.cell (World.block_lt_of_cell? w _ χ)).trans χ)⟩ (fun hHeld=>?_)
          clear hK K
          refine qN (some 61) ?_
          refine qP 7 (some 10) (bN 8 255) HT_ ?_
          refine Zu (Zj HT_.out kr) ?_
          try go_wp2
          go_ret
          exact⟨rfl,HB.out⟩
        ·rw[if_neg dl] at H
         exact absurd H (by simp)
       ·rw[if_neg dr] at H
        have c42b0:decide (X<(D.length:Int))=false:=decide_eq_false dr
        clear dr
        obtain rfl:=Option.some.inj H
        have ed:=a2.out
        have eg:=a1.out
        obtain⟨fk,fl,fm,fw⟩:=qD2 O.out
        go_wp2
        go_ret
        exact⟨rfl,HB.out⟩
 ·replace c4:=Bool.eq_false_iff.mpr c4
  subst c4
  have H1:(some false)=some r:=by rw[if_neg (show ¬ (false=true) by decide)] at H;exact H
  clear H
  have H:=H1
  clear H1
  obtain rfl:=Option.some.inj H
  go_enter Try.func13,Try.ntmps13
  go_wp2_with (first|((with_reducible refine Qr (N:=2) rfl ?_);refine qE 2 #[.int .i64 I,.int .i64 J] 23 ?_;intro a5 hg et hbox hb;have U:=Aside0.mk hbox;have dt:=sGe hg;have dv:=sGe hg;replace HB:=sHb hb;clear hb hbox hg)|((with_reducible refine Qr (N:=3) rfl ?_);refine qE 3 #[.slice η B.length δ,.slice θ D.length ε] 27 ?_;intro ρ hg eu hbox hb;have O:=Aside0.mk hbox;have dw:=sGe hg;have dz:=sGe hg;have a1:=sNl U hg;have a2:=sNg U hg;replace U:=sBk U hb;replace HB:=sHb hb;clear hb hbox hg;have i1:=a1.out;have i2:=a2.out;obtain⟨fx,fy,fz,g0⟩:=qD2 U.out)|((with_reducible refine Q0 (f:=37) rfl ?_);refine Zk (some 13) rfl rfl Try.func37 kr rfl #[.agg #[.int .i64 I,.int .i64 J]] rfl qM ?_;(with_reducible refine(newelref19_House.calls I J false _ A3.out).mono ?_);rintro e ev ⟨rfl,hb⟩;refine⟨_,rfl, ?_⟩;replace U:=sBk U hb;replace O:=sBk O hb;replace HB:=sHb hb;(try clear hb);(try clear a0);(try clear hk);(try clear hi)))
  go_ret
  exact⟨rfl,HB.out⟩
def newelref19_Give.l0:Nat→Int→List (S56)→List (S62)→Int→Int→Int→List (S56)→List (S62)→Option ((List (S56))×(List (S62)))
 |0,_,_,_,_,_,_,_,_=>none
 |k+1,B,D,X,J,L,O,I,U=>if B<(D.length:Int) then (if 0≤B then (if ((Qg D B).f0)=J then (if ((Qg D B).f1)=L then (if I.length<5864062014805 then (newelref19_Give.l0 k (wrap64 (B+1)) D X J L O (I ++ [(⟨(Qg D B).f0,(Qg D B).f1,O⟩:S56)]) U) else (none)) else (if I.length<5864062014805 then (newelref19_Give.l0 k (wrap64 (B+1)) D X J L O (I ++ [(⟨(Qg D B).f0,(Qg D B).f1,(Qg D B).f2⟩:S56)]) U) else (none))) else (if I.length<5864062014805 then (newelref19_Give.l0 k (wrap64 (B+1)) D X J L O (I ++ [(⟨(Qg D B).f0,(Qg D B).f1,(Qg D B).f2⟩:S56)]) U) else (none))) else (none)) else (some (I,U))
def newelref19_Give.f (k:Nat) (I:List (S56)) (J:List (S62)) (D:Int) (O:Int) (X:Int):Option ((List (S56))×(List (S62))):=newelref19_Give.l0 k 0 I J D O X ([]:List (S56)) J
theorem newelref19_Give.Zi:∀ k,(∀ D I O J L X Y U,LeO (newelref19_Give.l0 k D I O J L X Y U) (newelref19_Give.l0 (k+1) D I O J L X Y U))
 |0=>fun _ _ _ _ _ _ _ _ r h=>by simp[newelref19_Give.l0] at h
 |k+1=>by
  have B:=newelref19_Give.Zi k
  ·intro D I O J L X Y U
   unfold newelref19_Give.l0
   repeat' first
   |(with_reducible exact B _ _ _ _ _ _ _ _)
   |(with_reducible exact LeO.refl _)
   |(with_reducible exact LeO.none _)
   |(with_reducible refine LeO.ite ?_ ?_)
   |(with_reducible refine LeO.bind ?_ (fun _=>?_))
   |exact B _ _ _ _ _ _ _ _
   |exact LeO.none _
   |refine LeO.ite ?_ ?_
   |refine LeO.bind ?_ (fun _=>?_)
theorem newelref19_Give.mono:∀ I D a2 X J k,LeO (newelref19_Give.f k I D a2 X J) (newelref19_Give.f (k+1) I D a2 X J):=by
 intro I D a2 X J k
 have B:=newelref19_Give.Zi k
 unfold newelref19_Give.f
 repeat' first
   |(with_reducible exact B _ _ _ _ _ _ _ _)
   |(with_reducible exact LeO.refl _)
   |(with_reducible exact LeO.none _)
   |(with_reducible refine LeO.ite ?_ ?_)
   |(with_reducible refine LeO.bind ?_ (fun _=>?_))
   |exact B _ _ _ _ _ _ _ _
   |exact LeO.none _
   |refine LeO.ite ?_ ?_
   |refine LeO.bind ?_ (fun _=>?_)
set_option maxHeartbeats 8000000 in
set_option maxRecDepth 100000 in
theorem newelref19_Give.calls (k:Nat) (μ :Option Addr) (ζ :Nat) (I:List (S56)) (a0:Nat→Prop) (Y:Option Addr) (Z:Nat) (J:List (S62)) (D:Int) (O:Int) (X:Int) (r1:List (S56)) (r2:List (S62)) (w:World) (a5:Kd.C k56 w μ I.length I) (a6:I.length ≤ ζ) (cr:Kd.V k62 62 w w.heap.size (fun k_=>a0 k_) (.slice Y J.length Z) J) (h:newelref19_Give.f k I J D O X=some (r1,r2)):
  Calls Try.prog 26 #[.agg #[.slice μ I.length ζ,.slice Y J.length Z],.agg #[.int .i64 D,.int .i64 O,.int .i64 X]] w fun e w'=>∃ a4 b9:Value,e = .returned (.agg #[a4,b9])∧Kd.R k56 56 w' w.heap.size (fun k_=>(w.heap.size≤k_)) a4 r1∧Kd.V k62 62 w' w.heap.size (fun k_=>(a0 k_∨w.heap.size≤k_)∧some k_≠(a4:Value).ownBlock) b9 r2∧Below w.heap.size w w':=by
 have d4:=Try.underlying27
 have bq:=Try.underlying56
 have χ :=Aside0.mk a5
 have a7:=Aside0.mk a6
 clear a5 a6
 have a1:=Aside0.mk (show Kd.V k62 62 w w.heap.size (fun k_=>(a0 k_∨w.heap.size≤k_)) (.slice Y J.length Z) J from Kd.Z4 cr (fun k_ hk=>.inl hk))
 have HB:=Aside0.mk (Below.refl w.heap.size w)
 have H:(newelref19_Give.l0 k 0 I J D O X ([]:List (S56)) J)=some (r1,r2):=h
 clear h
 have H':=Aside0.mk H
 clear H
 go_enter Try.func26,Try.ntmps26
 go_wp2_with (first|((with_reducible refine Qr (N:=2) rfl ?_);refine qE 2 #[.slice μ I.length ζ,.slice Y J.length Z] 27 ?_;intro ω hg w3 hbox hb;have U:=Aside0.mk hbox;have fx:=sGe hg;have fy:=sGe hg;replace a1:=Aside0.mk (Kd.X4 (Kd.Ya a1.out ω (Nat.le_of_eq hg.symm)) hb);replace HB:=sHb hb;clear hb hbox hg)|((with_reducible refine Qr (N:=3) rfl ?_);refine qE 3 #[.int .i64 D,.int .i64 O,.int .i64 X] 56 ?_;intro ι hg w4 hbox hb;have γ:=Aside0.mk hbox;have fz:=sGe hg;have g3:=sGe hg;have a2:=sNl U hg;have a9:=sNg U hg;replace a1:=Aside0.mk (Kd.X4 (Kd.Ya a1.out ι (Nat.le_of_eq hg.symm)) hb);replace U:=sBk U hb;replace HB:=sHb hb;clear hb hbox hg)|((with_reducible refine Qr (N:=4) rfl ?_);refine qE 4 #[.slice none 0 0,.slice none 0 0] 27 ?_;intro ν hg w5 hbox hb;have ε :=Aside0.mk hbox;have g4:=sGe hg;have g5:=sGe hg;have aa:=sNl U hg;have ab:=sNg U hg;have b3:=sNl γ hg;have b4:=sNg γ hg;replace a1:=Aside0.mk (Kd.X4 (Kd.Ya a1.out ν (Nat.le_of_eq hg.symm)) hb);replace U:=sBk U hb;replace γ:=sBk γ hb;replace HB:=sHb hb;clear hb hbox hg;have cf:=a2.out;have ch:=a9.out;have de:=aa.out;have df:=ab.out;obtain⟨al,an,ao,ap⟩:=qD2 U.out)|((with_reducible refine Qr (N:=5) rfl ?_);refine qE 5 #[.slice none 0 0,.slice none 0 0] 27 ?_;intro η hg w9 hbox hb;have δ :=Aside0.mk hbox;have g6:=sGe hg;have gj:=sGe hg;have ac:=sNl U hg;have ae:=sNg U hg;have af:=sNl γ hg;have ag:=sNg γ hg;have ah:=sNl ε hg;have ai:=sNg ε hg;replace a1:=Aside0.mk (Kd.X4 (Kd.Ya a1.out η (Nat.le_of_eq hg.symm)) hb);replace U:=sBk U hb;replace γ:=sBk γ hb;replace ε :=sBk ε hb;replace HB:=sHb hb;clear hb hbox hg;have d2:=ae.out;have d3:=ac.out;have gt:=ag.out;have gu:=af.out;have e6:=ai.out;have e7:=ah.out;obtain⟨bo,bp,br,bs⟩:=qD2 δ.out))
 go_loopg [6] k (fun kq v6 w'=>∃ (L:Int) (θ :List (S56)) (κ :Value),v6 = .int .i64 L∧Aside0 (newelref19_Give.l0 kq L I J D O X θ J=some (r1,r2))∧Aside0 (kq≤k)∧Aside0 (Kd.V k62 62 w' w.heap.size (fun k_=>(a0 k_∨w.heap.size≤k_)∧some k_≠(κ :Value).ownBlock∧k_ ≠ ω ∧ k_ ≠ ι ∧ k_ ≠ ν ∧ k_ ≠ η) (.slice Y J.length Z) J)∧Aside0 (Kd.R k56 56 w' w.heap.size (fun k_=>(w.heap.size≤k_)∧k_ ≠ ι) κ θ)∧Aside0 (Kd.V k62 62 w' w.heap.size (fun k_=>(a0 k_∨w.heap.size≤k_)∧some k_≠(κ :Value).ownBlock∧k_ ≠ ω ∧ k_ ≠ ι ∧ k_ ≠ ν ∧ k_ ≠ η) (.slice Y J.length Z) J)∧Aside0 (w'.heap[ω]?=some (.cells #[(.slice μ I.length ζ),(.slice Y J.length Z)] 27 (0,0)))∧Aside0 (w'.heap[ι]?=some (.cells #[.int .i64 D,.int .i64 O,.int .i64 X] 56 (0,0)))∧Aside0 (w'.heap[ν]?=some (.cells #[(.slice none 0 0),(.slice none 0 0)] 27 (0,0)))∧Aside0 (w'.heap[η]?=some (.cells #[κ,(.slice Y J.length Z)] 27 (0,0)))∧Aside0 (Below w.heap.size w w'))
 case atStart=>exact⟨(0),(([]:List (S56))),(.slice none 0 0),qR,H',⟨Nat.le_refl _⟩,⟨by(with_reducible repeat first|apply Kd.Xe|apply Kd.Xd|apply Kd.Xn);exact Kd.Z4 (Kd.Xh (p:=⟨η,1,none⟩) (Kd.Xh (p:=⟨η,0,none⟩) (Kd.Z4 a1.out (fun k_ hk=>(⟨hk,hk.2⟩:_∧k_ ≠ η))) (fun _ hk=>hk.2) (.slice none 0 0)) (fun _ hk=>hk.2) (.slice Y J.length Z)) (fun _ hk=>⟨hk.1.1.1.1.1,⟨(by simp[Value.ownBlock]),⟨hk.1.1.1.1.2,⟨hk.1.1.1.2,⟨hk.1.1.2,hk.1.2⟩⟩⟩⟩⟩)⟩,⟨by first|exact Kd.Yd _ _ _ _ _|exact Kd.Je _ _ _ _ _|exact Kd.Jb _ _ _ _ _|exact Kd.Jd _ _ _ _ _|exact Kd.Jc _ _ _ _ _⟩,⟨by(with_reducible repeat first|apply Kd.Xe|apply Kd.Xd|apply Kd.Xn);exact Kd.Z4 (Kd.Xh (p:=⟨η,1,none⟩) (Kd.Xh (p:=⟨η,0,none⟩) (Kd.Z4 a1.out (fun k_ hk=>(⟨hk,hk.2⟩:_∧k_ ≠ η))) (fun _ hk=>hk.2) (.slice none 0 0)) (fun _ hk=>hk.2) (.slice Y J.length Z)) (fun _ hk=>⟨hk.1.1.1.1.1,⟨(by simp[Value.ownBlock]),⟨hk.1.1.1.1.2,⟨hk.1.1.1.2,⟨hk.1.1.2,hk.1.2⟩⟩⟩⟩⟩)⟩,⟨bka U⟩,⟨bka γ⟩,⟨bka ε⟩,⟨by(with_reducible repeat first|apply Qd|apply Qa|apply Qe);refine Qv (cs:=#[.slice none 0 0,.slice none 0 0]) ?_ 1 _ rfl;(with_reducible repeat first|apply Qd|apply Qa|apply Qe);refine Qv (cs:=#[.slice none 0 0,.slice none 0 0]) ?_ 0 _ rfl;(with_reducible repeat first|apply Qd|apply Qa|apply Qe);exact δ.out⟩,⟨bel⟩⟩
 case round=>
  clear H'
  try clear c1
  try clear c2
  try clear p2
  try clear c6
  try clear c7
  try clear c10
  try clear cb
  try clear ce
  try clear bo
  try clear bp
  try clear al
  try clear an
  try clear br
  try clear bs
  try clear ao
  try clear ap
  obtain⟨L,θ,κ,rfl,HA,ξ,HO_470001,HO_473000,HO_473001,U,γ,ε,δ,HB⟩:=hrel
  cases gk with
  |zero=>exact absurd HA.out (by simp[newelref19_Give.l0])
  |succ k1=>
   have H:=HA.out
   clear HA
   simp only[newelref19_Give.l0] at H
   by_cases az:L<(I.length:Int)
   ·rw[if_pos az] at H
    have c14b0:decide (L<(I.length:Int))=true:=decide_eq_true az
    clear az
    by_cases a8:0≤L
    ·rw[if_pos a8] at H
     have c15b0:decide (0≤L)=true:=decide_eq_true a8
     clear a8
     by_cases a3:((Qg I L).f0)=D
     ·rw[if_pos a3] at H
      have c16b0:(((Qg I L).f0)==D)=true:=beq_iff_eq.mpr a3
      have c16b1:(((Qg I L).f0) != D)=false:=bne_eq_false_iff_eq.mpr a3
      clear a3
      by_cases au:((Qg I L).f1)=O
      ·rw[if_pos au] at H
       have c17b0:(((Qg I L).f1)==O)=true:=beq_iff_eq.mpr au
       have c17b1:(((Qg I L).f1) != O)=false:=bne_eq_false_iff_eq.mpr au
       clear au
       by_cases cd: θ.length<5864062014805
       ·rw[if_pos cd] at H
        have d7:=Aside0.mk cd
        clear cd
        obtain⟨be,b8⟩:∃ y_:List (S56),y_=(θ ++ [(⟨(Qg I L).f0,(Qg I L).f1,X⟩:S56)]):=⟨_,rfl⟩
        replace H:(newelref19_Give.l0 k1 (wrap64 (L+1)) I J D O X be J)=some (r1,r2):=by first|(rw[b8];with_reducible exact H)|(have ρ:=(Option.bind_some _ _).symm.trans H;rw[b8];with_reducible exact ρ)|(have ρ:=(Option.bind_some _ _).symm.trans H;with_reducible exact ρ)|with_reducible exact H|(rw[b8];exact H)|exact H
        have d9:=Aside0.mk b8
        clear b8
        have H':=Aside0.mk H
        clear H
        have d5:=a2.out
        have d6:=a9.out
        have e8:=aa.out
        have e9:=ab.out
        have e3:=ac.out
        have e4:=ae.out
        obtain⟨bk,bn,bv,bw⟩:=qD2 U.out
        have b0:0≤(L:Int):=of_decide_eq_true (by assumption)
        have b1:L<(I.length:Int):=of_decide_eq_true (by assumption)
        obtain⟨ba,bd,σ,τ,φ⟩:=Z3 χ.out L b0 b1
        cases bd
        replace σ:=(HB.out.cell (World.block_lt_of_cell? w _ σ)).trans σ
        replace τ :=(HB.out.cell (World.block_lt_of_cell? w _ τ)).trans τ
        replace φ :=(HB.out.cell (World.block_lt_of_cell? w _ φ)).trans φ
        replace b0:=eq_true b0
        replace b1:=eq_true b1
        go_wp2_with (first|((with_reducible refine Qr (N:=7) rfl ?_);refine qE 7 #[.int .i64 0,.int .i64 0,.int .i64 0] 56 ?_;intro B hg dq hbox hb;have ψ :=Aside0.mk hbox;have bh:=sGe hg;have bi:=sGe hg;have aj:=sNl U hg;have ak:=sNg U hg;have am:=sNl γ hg;have ar:=sNg γ hg;have av:=sNl ε hg;have aw:=sNg ε hg;have ax:=sNl δ hg;have ay:=sNg δ hg;replace HO_470001:=Aside0.mk (Kd.X4 (Kd.Ya (by(with_reducible repeat first|apply Kd.Xe|apply Kd.Xd|apply Kd.Xn);exact HO_470001.out) B (Nat.le_of_eq hg.symm)) hb);replace HO_473000:=Aside0.mk (Kd.Qu (Kd.Y3 (kra HO_473000) B (Nat.le_of_eq hg.symm)) hb);replace HO_473001:=Aside0.mk (Kd.X4 (Kd.Ya (by(with_reducible repeat first|apply Kd.Xe|apply Kd.Xd|apply Kd.Xn);exact HO_473001.out) B (Nat.le_of_eq hg.symm)) hb);replace U:=sBk U hb;replace γ:=sBk γ hb;replace ε :=sBk ε hb;replace δ :=sBk δ hb;replace HB:=sHb hb;clear hb hbox hg;have eg:=ak.out;have ej:=aj.out;have d8:=ar.out;have dc:=am.out;have e0:=aw.out;have e5:=av.out;have dd:=ay.out;have dh:=ax.out;obtain⟨ct,cy,bu,cz,d0,bz⟩:=qD3 ψ.out;have hdd_:∀ a_ b_ c_ d_:Value,((((dq.setCell ⟨B,0,none⟩ a_).setCell ⟨B,1,none⟩ b_).setCell ⟨B,2,none⟩ c_).setCell ⟨B,2,none⟩ d_).cell? ⟨B,2,none⟩=some d_:=fun a_ b_ c_ d_=>(by refine(Ql (cs:=#[a_,b_,d_]) (t:=56) ?_ 2).trans rfl;refine Qv (cs:=#[a_,b_,c_]) ?_ 2 _ rfl;refine Qv (cs:=#[a_,b_,.int .i64 0]) ?_ 2 _ rfl;refine Qv (cs:=#[a_,.int .i64 0,.int .i64 0]) ?_ 1 _ rfl;refine Qv (cs:=#[.int .i64 0,.int .i64 0,.int .i64 0]) ?_ 0 _ rfl;exact ψ.out);have ix:=b3.out;have iy:=b4.out;have hu:=af.out;have hx:=ag.out;obtain⟨fj,fk,dx,fl,fm,dz⟩:=qD3 γ.out;have fc:=ai.out;have fe:=ah.out;obtain⟨cg,cm,cn,co⟩:=qD2 δ.out)|((with_reducible refine Xc (b:=.append) (xs:=#[.tmp 39,.tmp 41]) rfl ?_);at_builtin;refine Kd.Jm k56 (w0:=w) w.heap.size rfl (.tmp 39) (.tmp 41) 24 56 (.agg #[(.int .i64 0),(.int .i64 0),(.int .i64 0)]) 24 rfl Try.underlying24 Yl rfl (by decide) (by omega) κ θ (⟨(Qg I L).f0,(Qg I L).f1,X⟩:S56) [.int .i64 ((Qg I L).f0),.int .i64 ((Qg I L).f1),.int .i64 X] (fun k_=>(w.heap.size≤k_)∧k_ ≠ ι ∧ k_≠B) (fun _=>False) rfl (by first|(go_simp;done)|(go_simp;rfl)) ?aP (fun _ hk=>hk.elim) ?aF ?aO ?aB ?aS ?aL ?_;(case aP=>exact Yg _ _ _ (⟨(Qg I L).f0,(Qg I L).f1,X⟩:S56));(case aB=>exact bel);(case aF=>exact(fun k_ hk=>⟨(Nat.le_trans (Qi bel) hk),Kd.Yr (g:= ι) (o:=.cells #[.int .i64 D,.int .i64 O,.int .i64 X] 56 (0,0)) (bka γ) k_ hk,Kd.Yr (g:=B) (o:=.cells #[.int .i64 ((Qg I L).f0),.int .i64 ((Qg I L).f1),.int .i64 X] 56 (0,0)) (by(with_reducible repeat first|apply Qd|apply Qa|apply Qe);refine Qv (cs:=#[.int .i64 ((Qg I L).f0),.int .i64 ((Qg I L).f1),.int .i64 ((Qg I L).f2)]) ?_ 2 _ rfl;(with_reducible repeat first|apply Qd|apply Qa|apply Qe);refine Qv (cs:=#[.int .i64 ((Qg I L).f0),.int .i64 ((Qg I L).f1),.int .i64 0]) ?_ 2 _ rfl;(with_reducible repeat first|apply Qd|apply Qa|apply Qe);refine Qv (cs:=#[.int .i64 ((Qg I L).f0),.int .i64 0,.int .i64 0]) ?_ 1 _ rfl;(with_reducible repeat first|apply Qd|apply Qa|apply Qe);refine Qv (cs:=#[.int .i64 0,.int .i64 0,.int .i64 0]) ?_ 0 _ rfl;(with_reducible repeat first|apply Qd|apply Qa|apply Qe);exact ψ.out) k_ hk⟩));(case aO=>exact(by(with_reducible repeat first|apply Kd.Qk|apply Kd.Qj|apply Kd.Qn);exact Kd.Qq (Kd.Qs (Kd.Qs (Kd.Qs (Kd.Qs (Kd.Qq HO_473000.out (fun k_ hk=>(⟨hk,hk.2⟩:_∧k_≠B))) (fun _ hk=>hk.2) (.int .i64 ((Qg I L).f0))) (fun _ hk=>hk.2) (.int .i64 ((Qg I L).f1))) (fun _ hk=>hk.2) (.int .i64 ((Qg I L).f2))) (fun _ hk=>hk.2) (.int .i64 X)) (fun _ hk=>⟨hk.1.1.1,⟨hk.1.1.2,hk.1.2⟩⟩)));(case aS=>exact(Qi bel));(case aL=>have:=d7.out;omega);intro hl ei ho hb hg hat;rw[← d9.out] at ho;have bj:=Aside0.mk ho;replace HO_470001:=Aside0.mk (Kd.Jl (ok:=(fun k_=>(a0 k_∨w.heap.size≤k_)∧k_ ≠ ω ∧ k_ ≠ ι ∧ k_ ≠ ν ∧ k_ ≠ η ∧ k_≠B)) (by(with_reducible repeat first|apply Kd.Xe|apply Kd.Xd|apply Kd.Xn);exact Kd.Z4 (Kd.Xh (p:=⟨B,2,none⟩) (Kd.Xh (p:=⟨B,2,none⟩) (Kd.Xh (p:=⟨B,1,none⟩) (Kd.Xh (p:=⟨B,0,none⟩) (Kd.Z4 HO_470001.out (fun k_ hk=>(⟨hk,hk.2⟩:_∧k_≠B))) (fun _ hk=>hk.2) (.int .i64 ((Qg I L).f0))) (fun _ hk=>hk.2) (.int .i64 ((Qg I L).f1))) (fun _ hk=>hk.2) (.int .i64 ((Qg I L).f2))) (fun _ hk=>hk.2) (.int .i64 X)) (fun _ hk=>⟨⟨hk.1.1.1,⟨hk.1.1.2.2.1,⟨hk.1.1.2.2.2.1,⟨hk.1.1.2.2.2.2.1,⟨hk.1.1.2.2.2.2.2,hk.1.2⟩⟩⟩⟩⟩,hk.1.1.2.1⟩)) hg hat);replace HO_473001:=Aside0.mk (Kd.Jl (ok:=(fun k_=>(a0 k_∨w.heap.size≤k_)∧k_ ≠ ω ∧ k_ ≠ ι ∧ k_ ≠ ν ∧ k_ ≠ η ∧ k_≠B)) (by(with_reducible repeat first|apply Kd.Xe|apply Kd.Xd|apply Kd.Xn);exact Kd.Z4 (Kd.Xh (p:=⟨B,2,none⟩) (Kd.Xh (p:=⟨B,2,none⟩) (Kd.Xh (p:=⟨B,1,none⟩) (Kd.Xh (p:=⟨B,0,none⟩) (Kd.Z4 HO_473001.out (fun k_ hk=>(⟨hk,hk.2⟩:_∧k_≠B))) (fun _ hk=>hk.2) (.int .i64 ((Qg I L).f0))) (fun _ hk=>hk.2) (.int .i64 ((Qg I L).f1))) (fun _ hk=>hk.2) (.int .i64 ((Qg I L).f2))) (fun _ hk=>hk.2) (.int .i64 X)) (fun _ hk=>⟨⟨hk.1.1.1,⟨hk.1.1.2.2.1,⟨hk.1.1.2.2.2.1,⟨hk.1.1.2.2.2.2.1,⟨hk.1.1.2.2.2.2.2,hk.1.2⟩⟩⟩⟩⟩,hk.1.1.2.1⟩)) hg hat);replace U:=Aside0.mk (Zb (g:= ω) (o:=.cells #[.slice (some ba) I.length ζ,.slice Y J.length Z] 27 (0,0)) (bka U) hg (Kd.X1 HO_473000.out U.out (by decide)));replace γ:=Aside0.mk (Zb (g:= ι) (o:=.cells #[.int .i64 D,.int .i64 O,.int .i64 X] 56 (0,0)) (bka γ) hg (Kd.Y4 HO_473000.out (fun _ hk=>hk.1.2)));replace ε :=Aside0.mk (Zb (g:= ν) (o:=.cells #[.slice none 0 0,.slice none 0 0] 27 (0,0)) (bka ε) hg (Kd.X1 HO_473000.out ε.out (by decide)));replace δ :=Aside0.mk (Zb (g:= η) (o:=.cells #[κ,.slice Y J.length Z] 27 (0,0)) (bka δ) hg (Kd.X1 HO_473000.out δ.out (by decide)));replace ψ :=Aside0.mk (Zb (g:=B) (o:=.cells #[.int .i64 ((Qg I L).f0),.int .i64 ((Qg I L).f1),.int .i64 X] 56 (0,0)) (by(with_reducible repeat first|apply Qd|apply Qa|apply Qe);refine Qv (cs:=#[.int .i64 ((Qg I L).f0),.int .i64 ((Qg I L).f1),.int .i64 ((Qg I L).f2)]) ?_ 2 _ rfl;(with_reducible repeat first|apply Qd|apply Qa|apply Qe);refine Qv (cs:=#[.int .i64 ((Qg I L).f0),.int .i64 ((Qg I L).f1),.int .i64 0]) ?_ 2 _ rfl;(with_reducible repeat first|apply Qd|apply Qa|apply Qe);refine Qv (cs:=#[.int .i64 ((Qg I L).f0),.int .i64 0,.int .i64 0]) ?_ 1 _ rfl;(with_reducible repeat first|apply Qd|apply Qa|apply Qe);refine Qv (cs:=#[.int .i64 0,.int .i64 0,.int .i64 0]) ?_ 0 _ rfl;(with_reducible repeat first|apply Qd|apply Qa|apply Qe);exact ψ.out) hg (Kd.Y4 HO_473000.out (fun _ hk=>hk.2)));replace HB:=Aside0.mk hb;clear HO_473000;clear ho hb hg hat;obtain⟨b5,b2,er⟩:=Kd.Q4 bj.out;subst er;obtain⟨f9,fa,gb,gl⟩:=qD2 δ.out))
        go_roundg k1
        case measure=>have:= ξ.out;omega
        case rel=>exact⟨(wrap64 (L+1)),(be),(.slice b5 be.length b2),qR,H',⟨by have:= ξ.out;omega⟩,⟨by(with_reducible repeat first|apply Kd.Xe|apply Kd.Xd|apply Kd.Xn);exact Kd.Z4 (Kd.Xh (p:=⟨η,0,none⟩) (Kd.Z4 HO_470001.out (fun k_ hk=>(⟨hk,hk.1.2.2.2.2.1⟩:_∧k_ ≠ η))) (fun _ hk=>hk.2) _) (fun _ hk=>⟨hk.1.1.1,⟨hk.1.2,⟨hk.1.1.2.1,⟨hk.1.1.2.2.1,⟨hk.1.1.2.2.2.1,hk.1.1.2.2.2.2.1⟩⟩⟩⟩⟩)⟩,⟨by(with_reducible repeat first|apply Kd.Qk|apply Kd.Qj|apply Kd.Qn);exact Kd.Qq (Kd.Qs (Kd.Qw bj.out δ.out (by decide)) (fun _ hk=>hk.2) _) (fun _ hk=>⟨hk.1.1,hk.1.2.1⟩)⟩,⟨by(with_reducible repeat first|apply Kd.Xe|apply Kd.Xd|apply Kd.Xn);exact Kd.Z4 (Kd.Xh (p:=⟨η,0,none⟩) (Kd.Z4 HO_473001.out (fun k_ hk=>(⟨hk,hk.1.2.2.2.2.1⟩:_∧k_ ≠ η))) (fun _ hk=>hk.2) _) (fun _ hk=>⟨hk.1.1.1,⟨hk.1.2,⟨hk.1.1.2.1,⟨hk.1.1.2.2.1,⟨hk.1.1.2.2.2.1,hk.1.1.2.2.2.2.1⟩⟩⟩⟩⟩)⟩,⟨bka U⟩,⟨bka γ⟩,⟨bka ε⟩,⟨by(with_reducible repeat first|apply Qd|apply Qa|apply Qe);refine Qv (cs:=#[κ,.slice Y J.length Z]) ?_ 0 _ rfl;(with_reducible repeat first|apply Qd|apply Qa|apply Qe);exact δ.out⟩,⟨bel⟩⟩
       ·rw[if_neg cd] at H
        exact absurd H (by simp)
      ·rw[if_neg au] at H
       have c17b0:(((Qg I L).f1)==O)=false:=beq_eq_false_iff_ne.mpr au
       have c17b1:(((Qg I L).f1) != O)=true:=bne_iff_ne.mpr au
       by_cases ep: θ.length<5864062014805
       ·rw[if_pos ep] at H
        have da:=Aside0.mk ep
        clear ep
        obtain⟨bf,bb⟩:∃ y_:List (S56),y_=(θ ++ [(⟨(Qg I L).f0,(Qg I L).f1,(Qg I L).f2⟩:S56)]):=⟨_,rfl⟩
        replace H:(newelref19_Give.l0 k1 (wrap64 (L+1)) I J D O X bf J)=some (r1,r2):=by first|(rw[bb];with_reducible exact H)|(have ρ:=(Option.bind_some _ _).symm.trans H;rw[bb];with_reducible exact ρ)|(have ρ:=(Option.bind_some _ _).symm.trans H;with_reducible exact ρ)|with_reducible exact H|(rw[bb];exact H)|exact H
        have db:=Aside0.mk bb
        clear bb
        have H':=Aside0.mk H
        clear H
        have g0:=a2.out
        have g1:=a9.out
        have i3:=aa.out
        have i4:=ab.out
        have ew:=ac.out
        have ey:=ae.out
        obtain⟨cj,ck,cq,cu⟩:=qD2 U.out
        have b0:0≤(L:Int):=of_decide_eq_true (by assumption)
        have b1:L<(I.length:Int):=of_decide_eq_true (by assumption)
        obtain⟨ba,bd,σ,τ,φ⟩:=Z3 χ.out L b0 b1
        cases bd
        replace σ:=(HB.out.cell (World.block_lt_of_cell? w _ σ)).trans σ
        replace τ :=(HB.out.cell (World.block_lt_of_cell? w _ τ)).trans τ
        replace φ :=(HB.out.cell (World.block_lt_of_cell? w _ φ)).trans φ
        replace b0:=eq_true b0
        replace b1:=eq_true b1
        go_wp2_with (first|((with_reducible refine Qr (N:=7) rfl ?_);refine qE 7 #[.int .i64 0,.int .i64 0,.int .i64 0] 56 ?_;intro B hg ih hbox hb;have ψ :=Aside0.mk hbox;have bh:=sGe hg;have bi:=sGe hg;have aj:=sNl U hg;have ak:=sNg U hg;have am:=sNl γ hg;have ar:=sNg γ hg;have av:=sNl ε hg;have aw:=sNg ε hg;have ax:=sNl δ hg;have ay:=sNg δ hg;replace HO_470001:=Aside0.mk (Kd.X4 (Kd.Ya (by(with_reducible repeat first|apply Kd.Xe|apply Kd.Xd|apply Kd.Xn);exact HO_470001.out) B (Nat.le_of_eq hg.symm)) hb);replace HO_473000:=Aside0.mk (Kd.Qu (Kd.Y3 (kra HO_473000) B (Nat.le_of_eq hg.symm)) hb);replace HO_473001:=Aside0.mk (Kd.X4 (Kd.Ya (by(with_reducible repeat first|apply Kd.Xe|apply Kd.Xd|apply Kd.Xn);exact HO_473001.out) B (Nat.le_of_eq hg.symm)) hb);replace U:=sBk U hb;replace γ:=sBk γ hb;replace ε :=sBk ε hb;replace δ :=sBk δ hb;replace HB:=sHb hb;clear hb hbox hg;have ca:=ak.out;have dj:=aj.out;have jf:=ar.out;have jg:=am.out;have g7:=aw.out;have g8:=av.out;have gv:=ay.out;have gw:=ax.out;obtain⟨eb,ec,ed,ee,ef,eh⟩:=qD3 ψ.out;have gs:=b3.out;have h5:=b4.out;have h0:=af.out;have h4:=ag.out;obtain⟨ek,el,eo,eu,ev,f8⟩:=qD3 γ.out;have g2:=ai.out;have g9:=ah.out;obtain⟨dt,du,dv,dw⟩:=qD2 δ.out)|((with_reducible refine Xc (b:=.append) (xs:=#[.tmp 39,.tmp 41]) rfl ?_);at_builtin;refine Kd.Jm k56 (w0:=w) w.heap.size rfl (.tmp 39) (.tmp 41) 24 56 (.agg #[(.int .i64 0),(.int .i64 0),(.int .i64 0)]) 24 rfl Try.underlying24 Yl rfl (by decide) (by omega) κ θ (⟨(Qg I L).f0,(Qg I L).f1,(Qg I L).f2⟩:S56) [.int .i64 ((Qg I L).f0),.int .i64 ((Qg I L).f1),.int .i64 ((Qg I L).f2)] (fun k_=>(w.heap.size≤k_)∧k_ ≠ ι ∧ k_≠B) (fun _=>False) rfl (by first|(go_simp;done)|(go_simp;rfl)) ?aP (fun _ hk=>hk.elim) ?aF ?aO ?aB ?aS ?aL ?_;(case aP=>exact Yg _ _ _ (⟨(Qg I L).f0,(Qg I L).f1,(Qg I L).f2⟩:S56));(case aB=>exact bel);(case aF=>exact(fun k_ hk=>⟨(Nat.le_trans (Qi bel) hk),Kd.Yr (g:= ι) (o:=.cells #[.int .i64 D,.int .i64 O,.int .i64 X] 56 (0,0)) (bka γ) k_ hk,Kd.Yr (g:=B) (o:=.cells #[.int .i64 ((Qg I L).f0),.int .i64 ((Qg I L).f1),.int .i64 ((Qg I L).f2)] 56 (0,0)) (by(with_reducible repeat first|apply Qd|apply Qa|apply Qe);refine Qv (cs:=#[.int .i64 ((Qg I L).f0),.int .i64 ((Qg I L).f1),.int .i64 0]) ?_ 2 _ rfl;(with_reducible repeat first|apply Qd|apply Qa|apply Qe);refine Qv (cs:=#[.int .i64 ((Qg I L).f0),.int .i64 0,.int .i64 0]) ?_ 1 _ rfl;(with_reducible repeat first|apply Qd|apply Qa|apply Qe);refine Qv (cs:=#[.int .i64 0,.int .i64 0,.int .i64 0]) ?_ 0 _ rfl;(with_reducible repeat first|apply Qd|apply Qa|apply Qe);exact ψ.out) k_ hk⟩));(case aO=>exact(by(with_reducible repeat first|apply Kd.Qk|apply Kd.Qj|apply Kd.Qn);exact Kd.Qq (Kd.Qs (Kd.Qs (Kd.Qs (Kd.Qq HO_473000.out (fun k_ hk=>(⟨hk,hk.2⟩:_∧k_≠B))) (fun _ hk=>hk.2) (.int .i64 ((Qg I L).f0))) (fun _ hk=>hk.2) (.int .i64 ((Qg I L).f1))) (fun _ hk=>hk.2) (.int .i64 ((Qg I L).f2))) (fun _ hk=>⟨hk.1.1.1,⟨hk.1.1.2,hk.1.2⟩⟩)));(case aS=>exact(Qi bel));(case aL=>have:=da.out;omega);intro ie jl ho hb hg hat;rw[← db.out] at ho;have bl:=Aside0.mk ho;replace HO_470001:=Aside0.mk (Kd.Jl (ok:=(fun k_=>(a0 k_∨w.heap.size≤k_)∧k_ ≠ ω ∧ k_ ≠ ι ∧ k_ ≠ ν ∧ k_ ≠ η ∧ k_≠B)) (by(with_reducible repeat first|apply Kd.Xe|apply Kd.Xd|apply Kd.Xn);exact Kd.Z4 (Kd.Xh (p:=⟨B,2,none⟩) (Kd.Xh (p:=⟨B,1,none⟩) (Kd.Xh (p:=⟨B,0,none⟩) (Kd.Z4 HO_470001.out (fun k_ hk=>(⟨hk,hk.2⟩:_∧k_≠B))) (fun _ hk=>hk.2) (.int .i64 ((Qg I L).f0))) (fun _ hk=>hk.2) (.int .i64 ((Qg I L).f1))) (fun _ hk=>hk.2) (.int .i64 ((Qg I L).f2))) (fun _ hk=>⟨⟨hk.1.1.1,⟨hk.1.1.2.2.1,⟨hk.1.1.2.2.2.1,⟨hk.1.1.2.2.2.2.1,⟨hk.1.1.2.2.2.2.2,hk.1.2⟩⟩⟩⟩⟩,hk.1.1.2.1⟩)) hg hat);replace HO_473001:=Aside0.mk (Kd.Jl (ok:=(fun k_=>(a0 k_∨w.heap.size≤k_)∧k_ ≠ ω ∧ k_ ≠ ι ∧ k_ ≠ ν ∧ k_ ≠ η ∧ k_≠B)) (by(with_reducible repeat first|apply Kd.Xe|apply Kd.Xd|apply Kd.Xn);exact Kd.Z4 (Kd.Xh (p:=⟨B,2,none⟩) (Kd.Xh (p:=⟨B,1,none⟩) (Kd.Xh (p:=⟨B,0,none⟩) (Kd.Z4 HO_473001.out (fun k_ hk=>(⟨hk,hk.2⟩:_∧k_≠B))) (fun _ hk=>hk.2) (.int .i64 ((Qg I L).f0))) (fun _ hk=>hk.2) (.int .i64 ((Qg I L).f1))) (fun _ hk=>hk.2) (.int .i64 ((Qg I L).f2))) (fun _ hk=>⟨⟨hk.1.1.1,⟨hk.1.1.2.2.1,⟨hk.1.1.2.2.2.1,⟨hk.1.1.2.2.2.2.1,⟨hk.1.1.2.2.2.2.2,hk.1.2⟩⟩⟩⟩⟩,hk.1.1.2.1⟩)) hg hat);replace U:=Aside0.mk (Zb (g:= ω) (o:=.cells #[.slice (some ba) I.length ζ,.slice Y J.length Z] 27 (0,0)) (bka U) hg (Kd.X1 HO_473000.out U.out (by decide)));replace γ:=Aside0.mk (Zb (g:= ι) (o:=.cells #[.int .i64 D,.int .i64 O,.int .i64 X] 56 (0,0)) (bka γ) hg (Kd.Y4 HO_473000.out (fun _ hk=>hk.1.2)));replace ε :=Aside0.mk (Zb (g:= ν) (o:=.cells #[.slice none 0 0,.slice none 0 0] 27 (0,0)) (bka ε) hg (Kd.X1 HO_473000.out ε.out (by decide)));replace δ :=Aside0.mk (Zb (g:= η) (o:=.cells #[κ,.slice Y J.length Z] 27 (0,0)) (bka δ) hg (Kd.X1 HO_473000.out δ.out (by decide)));replace ψ :=Aside0.mk (Zb (g:=B) (o:=.cells #[.int .i64 ((Qg I L).f0),.int .i64 ((Qg I L).f1),.int .i64 ((Qg I L).f2)] 56 (0,0)) (by(with_reducible repeat first|apply Qd|apply Qa|apply Qe);refine Qv (cs:=#[.int .i64 ((Qg I L).f0),.int .i64 ((Qg I L).f1),.int .i64 0]) ?_ 2 _ rfl;(with_reducible repeat first|apply Qd|apply Qa|apply Qe);refine Qv (cs:=#[.int .i64 ((Qg I L).f0),.int .i64 0,.int .i64 0]) ?_ 1 _ rfl;(with_reducible repeat first|apply Qd|apply Qa|apply Qe);refine Qv (cs:=#[.int .i64 0,.int .i64 0,.int .i64 0]) ?_ 0 _ rfl;(with_reducible repeat first|apply Qd|apply Qa|apply Qe);exact ψ.out) hg (Kd.Y4 HO_473000.out (fun _ hk=>hk.2)));replace HB:=Aside0.mk hb;clear HO_473000;clear ho hb hg hat;obtain⟨b6,b7,et⟩:=Kd.Q4 bl.out;subst et;obtain⟨fb,fh,fi,fr⟩:=qD2 δ.out))
        go_roundg k1
        case measure=>have:= ξ.out;omega
        case rel=>exact⟨(wrap64 (L+1)),(bf),(.slice b6 bf.length b7),qR,H',⟨by have:= ξ.out;omega⟩,⟨by(with_reducible repeat first|apply Kd.Xe|apply Kd.Xd|apply Kd.Xn);exact Kd.Z4 (Kd.Xh (p:=⟨η,0,none⟩) (Kd.Z4 HO_470001.out (fun k_ hk=>(⟨hk,hk.1.2.2.2.2.1⟩:_∧k_ ≠ η))) (fun _ hk=>hk.2) _) (fun _ hk=>⟨hk.1.1.1,⟨hk.1.2,⟨hk.1.1.2.1,⟨hk.1.1.2.2.1,⟨hk.1.1.2.2.2.1,hk.1.1.2.2.2.2.1⟩⟩⟩⟩⟩)⟩,⟨by(with_reducible repeat first|apply Kd.Qk|apply Kd.Qj|apply Kd.Qn);exact Kd.Qq (Kd.Qs (Kd.Qw bl.out δ.out (by decide)) (fun _ hk=>hk.2) _) (fun _ hk=>⟨hk.1.1,hk.1.2.1⟩)⟩,⟨by(with_reducible repeat first|apply Kd.Xe|apply Kd.Xd|apply Kd.Xn);exact Kd.Z4 (Kd.Xh (p:=⟨η,0,none⟩) (Kd.Z4 HO_473001.out (fun k_ hk=>(⟨hk,hk.1.2.2.2.2.1⟩:_∧k_ ≠ η))) (fun _ hk=>hk.2) _) (fun _ hk=>⟨hk.1.1.1,⟨hk.1.2,⟨hk.1.1.2.1,⟨hk.1.1.2.2.1,⟨hk.1.1.2.2.2.1,hk.1.1.2.2.2.2.1⟩⟩⟩⟩⟩)⟩,⟨bka U⟩,⟨bka γ⟩,⟨bka ε⟩,⟨by(with_reducible repeat first|apply Qd|apply Qa|apply Qe);refine Qv (cs:=#[κ,.slice Y J.length Z]) ?_ 0 _ rfl;(with_reducible repeat first|apply Qd|apply Qa|apply Qe);exact δ.out⟩,⟨bel⟩⟩
       ·rw[if_neg ep] at H
        exact absurd H (by simp)
     ·rw[if_neg a3] at H
      have c16b0:(((Qg I L).f0)==D)=false:=beq_eq_false_iff_ne.mpr a3
      have c16b1:(((Qg I L).f0) != D)=true:=bne_iff_ne.mpr a3
      by_cases ea: θ.length<5864062014805
      ·rw[if_pos ea] at H
       have di:=Aside0.mk ea
       clear ea
       obtain⟨bg,bc⟩:∃ y_:List (S56),y_=(θ ++ [(⟨(Qg I L).f0,(Qg I L).f1,(Qg I L).f2⟩:S56)]):=⟨_,rfl⟩
       replace H:(newelref19_Give.l0 k1 (wrap64 (L+1)) I J D O X bg J)=some (r1,r2):=by first|(rw[bc];with_reducible exact H)|(have ρ:=(Option.bind_some _ _).symm.trans H;rw[bc];with_reducible exact ρ)|(have ρ:=(Option.bind_some _ _).symm.trans H;with_reducible exact ρ)|with_reducible exact H|(rw[bc];exact H)|exact H
       have dk:=Aside0.mk bc
       clear bc
       have H':=Aside0.mk H
       clear H
       have kk:=a2.out
       have kl:=a9.out
       have hy:=aa.out
       have i0:=ab.out
       have iz:=ac.out
       have j2:=ae.out
       obtain⟨ge,gf,gg,gh⟩:=qD2 U.out
       have b0:0≤(L:Int):=of_decide_eq_true (by assumption)
       have b1:L<(I.length:Int):=of_decide_eq_true (by assumption)
       obtain⟨ba,bd,σ,τ,φ⟩:=Z3 χ.out L b0 b1
       cases bd
       replace σ:=(HB.out.cell (World.block_lt_of_cell? w _ σ)).trans σ
       replace τ :=(HB.out.cell (World.block_lt_of_cell? w _ τ)).trans τ
       replace φ :=(HB.out.cell (World.block_lt_of_cell? w _ φ)).trans φ
       replace b0:=eq_true b0
       replace b1:=eq_true b1
       go_wp2_with (first|((with_reducible refine Qr (N:=7) rfl ?_);refine qE 7 #[.int .i64 0,.int .i64 0,.int .i64 0] 56 ?_;intro B hg ic hbox hb;have ψ :=Aside0.mk hbox;have bh:=sGe hg;have bi:=sGe hg;have aj:=sNl U hg;have ak:=sNg U hg;have am:=sNl γ hg;have ar:=sNg γ hg;have av:=sNl ε hg;have aw:=sNg ε hg;have ax:=sNl δ hg;have ay:=sNg δ hg;replace HO_470001:=Aside0.mk (Kd.X4 (Kd.Ya (by(with_reducible repeat first|apply Kd.Xe|apply Kd.Xd|apply Kd.Xn);exact HO_470001.out) B (Nat.le_of_eq hg.symm)) hb);replace HO_473000:=Aside0.mk (Kd.Qu (Kd.Y3 (kra HO_473000) B (Nat.le_of_eq hg.symm)) hb);replace HO_473001:=Aside0.mk (Kd.X4 (Kd.Ya (by(with_reducible repeat first|apply Kd.Xe|apply Kd.Xd|apply Kd.Xn);exact HO_473001.out) B (Nat.le_of_eq hg.symm)) hb);replace U:=sBk U hb;replace γ:=sBk γ hb;replace ε :=sBk ε hb;replace δ :=sBk δ hb;replace HB:=sHb hb;clear hb hbox hg;have i5:=ak.out;have i6:=aj.out;have ff:=ar.out;have fg:=am.out;have em:=aw.out;have en:=av.out;have ga:=ay.out;have gz:=ax.out;obtain⟨cv,cw,ft,cx,d1,fu⟩:=qD3 ψ.out;have j3:=b3.out;have j4:=b4.out;have dp:=af.out;have dy:=ag.out;obtain⟨fn,fo,fv,fp,fq,fw⟩:=qD3 γ.out;have ha:=ai.out;have he:=ah.out;obtain⟨ia,ii,ij,iq⟩:=qD2 δ.out)|((with_reducible refine Xc (b:=.append) (xs:=#[.tmp 39,.tmp 41]) rfl ?_);at_builtin;refine Kd.Jm k56 (w0:=w) w.heap.size rfl (.tmp 39) (.tmp 41) 24 56 (.agg #[(.int .i64 0),(.int .i64 0),(.int .i64 0)]) 24 rfl Try.underlying24 Yl rfl (by decide) (by omega) κ θ (⟨(Qg I L).f0,(Qg I L).f1,(Qg I L).f2⟩:S56) [.int .i64 ((Qg I L).f0),.int .i64 ((Qg I L).f1),.int .i64 ((Qg I L).f2)] (fun k_=>(w.heap.size≤k_)∧k_ ≠ ι ∧ k_≠B) (fun _=>False) rfl (by first|(go_simp;done)|(go_simp;rfl)) ?aP (fun _ hk=>hk.elim) ?aF ?aO ?aB ?aS ?aL ?_;(case aP=>exact Yg _ _ _ (⟨(Qg I L).f0,(Qg I L).f1,(Qg I L).f2⟩:S56));(case aB=>exact bel);(case aF=>exact(fun k_ hk=>⟨(Nat.le_trans (Qi bel) hk),Kd.Yr (g:= ι) (o:=.cells #[.int .i64 D,.int .i64 O,.int .i64 X] 56 (0,0)) (bka γ) k_ hk,Kd.Yr (g:=B) (o:=.cells #[.int .i64 ((Qg I L).f0),.int .i64 ((Qg I L).f1),.int .i64 ((Qg I L).f2)] 56 (0,0)) (by(with_reducible repeat first|apply Qd|apply Qa|apply Qe);refine Qv (cs:=#[.int .i64 ((Qg I L).f0),.int .i64 ((Qg I L).f1),.int .i64 0]) ?_ 2 _ rfl;(with_reducible repeat first|apply Qd|apply Qa|apply Qe);refine Qv (cs:=#[.int .i64 ((Qg I L).f0),.int .i64 0,.int .i64 0]) ?_ 1 _ rfl;(with_reducible repeat first|apply Qd|apply Qa|apply Qe);refine Qv (cs:=#[.int .i64 0,.int .i64 0,.int .i64 0]) ?_ 0 _ rfl;(with_reducible repeat first|apply Qd|apply Qa|apply Qe);exact ψ.out) k_ hk⟩));(case aO=>exact(by(with_reducible repeat first|apply Kd.Qk|apply Kd.Qj|apply Kd.Qn);exact Kd.Qq (Kd.Qs (Kd.Qs (Kd.Qs (Kd.Qq HO_473000.out (fun k_ hk=>(⟨hk,hk.2⟩:_∧k_≠B))) (fun _ hk=>hk.2) (.int .i64 ((Qg I L).f0))) (fun _ hk=>hk.2) (.int .i64 ((Qg I L).f1))) (fun _ hk=>hk.2) (.int .i64 ((Qg I L).f2))) (fun _ hk=>⟨hk.1.1.1,⟨hk.1.1.2,hk.1.2⟩⟩)));(case aS=>exact(Qi bel));(case aL=>have:=di.out;omega);intro ig gi ho hb hg hat;rw[← dk.out] at ho;have bm:=Aside0.mk ho;replace HO_470001:=Aside0.mk (Kd.Jl (ok:=(fun k_=>(a0 k_∨w.heap.size≤k_)∧k_ ≠ ω ∧ k_ ≠ ι ∧ k_ ≠ ν ∧ k_ ≠ η ∧ k_≠B)) (by(with_reducible repeat first|apply Kd.Xe|apply Kd.Xd|apply Kd.Xn);exact Kd.Z4 (Kd.Xh (p:=⟨B,2,none⟩) (Kd.Xh (p:=⟨B,1,none⟩) (Kd.Xh (p:=⟨B,0,none⟩) (Kd.Z4 HO_470001.out (fun k_ hk=>(⟨hk,hk.2⟩:_∧k_≠B))) (fun _ hk=>hk.2) (.int .i64 ((Qg I L).f0))) (fun _ hk=>hk.2) (.int .i64 ((Qg I L).f1))) (fun _ hk=>hk.2) (.int .i64 ((Qg I L).f2))) (fun _ hk=>⟨⟨hk.1.1.1,⟨hk.1.1.2.2.1,⟨hk.1.1.2.2.2.1,⟨hk.1.1.2.2.2.2.1,⟨hk.1.1.2.2.2.2.2,hk.1.2⟩⟩⟩⟩⟩,hk.1.1.2.1⟩)) hg hat);replace HO_473001:=Aside0.mk (Kd.Jl (ok:=(fun k_=>(a0 k_∨w.heap.size≤k_)∧k_ ≠ ω ∧ k_ ≠ ι ∧ k_ ≠ ν ∧ k_ ≠ η ∧ k_≠B)) (by(with_reducible repeat first|apply Kd.Xe|apply Kd.Xd|apply Kd.Xn);exact Kd.Z4 (Kd.Xh (p:=⟨B,2,none⟩) (Kd.Xh (p:=⟨B,1,none⟩) (Kd.Xh (p:=⟨B,0,none⟩) (Kd.Z4 HO_473001.out (fun k_ hk=>(⟨hk,hk.2⟩:_∧k_≠B))) (fun _ hk=>hk.2) (.int .i64 ((Qg I L).f0))) (fun _ hk=>hk.2) (.int .i64 ((Qg I L).f1))) (fun _ hk=>hk.2) (.int .i64 ((Qg I L).f2))) (fun _ hk=>⟨⟨hk.1.1.1,⟨hk.1.1.2.2.1,⟨hk.1.1.2.2.2.1,⟨hk.1.1.2.2.2.2.1,⟨hk.1.1.2.2.2.2.2,hk.1.2⟩⟩⟩⟩⟩,hk.1.1.2.1⟩)) hg hat);replace U:=Aside0.mk (Zb (g:= ω) (o:=.cells #[.slice (some ba) I.length ζ,.slice Y J.length Z] 27 (0,0)) (bka U) hg (Kd.X1 HO_473000.out U.out (by decide)));replace γ:=Aside0.mk (Zb (g:= ι) (o:=.cells #[.int .i64 D,.int .i64 O,.int .i64 X] 56 (0,0)) (bka γ) hg (Kd.Y4 HO_473000.out (fun _ hk=>hk.1.2)));replace ε :=Aside0.mk (Zb (g:= ν) (o:=.cells #[.slice none 0 0,.slice none 0 0] 27 (0,0)) (bka ε) hg (Kd.X1 HO_473000.out ε.out (by decide)));replace δ :=Aside0.mk (Zb (g:= η) (o:=.cells #[κ,.slice Y J.length Z] 27 (0,0)) (bka δ) hg (Kd.X1 HO_473000.out δ.out (by decide)));replace ψ :=Aside0.mk (Zb (g:=B) (o:=.cells #[.int .i64 ((Qg I L).f0),.int .i64 ((Qg I L).f1),.int .i64 ((Qg I L).f2)] 56 (0,0)) (by(with_reducible repeat first|apply Qd|apply Qa|apply Qe);refine Qv (cs:=#[.int .i64 ((Qg I L).f0),.int .i64 ((Qg I L).f1),.int .i64 0]) ?_ 2 _ rfl;(with_reducible repeat first|apply Qd|apply Qa|apply Qe);refine Qv (cs:=#[.int .i64 ((Qg I L).f0),.int .i64 0,.int .i64 0]) ?_ 1 _ rfl;(with_reducible repeat first|apply Qd|apply Qa|apply Qe);refine Qv (cs:=#[.int .i64 0,.int .i64 0,.int .i64 0]) ?_ 0 _ rfl;(with_reducible repeat first|apply Qd|apply Qa|apply Qe);exact ψ.out) hg (Kd.Y4 HO_473000.out (fun _ hk=>hk.2)));replace HB:=Aside0.mk hb;clear HO_473000;clear ho hb hg hat;obtain⟨dl,dm,dn⟩:=Kd.Q4 bm.out;subst dn;obtain⟨gm,gn,gp,gq⟩:=qD2 δ.out))
       go_roundg k1
       case measure=>have:= ξ.out;omega
       case rel=>exact⟨(wrap64 (L+1)),(bg),(.slice dl bg.length dm),qR,H',⟨by have:= ξ.out;omega⟩,⟨by(with_reducible repeat first|apply Kd.Xe|apply Kd.Xd|apply Kd.Xn);exact Kd.Z4 (Kd.Xh (p:=⟨η,0,none⟩) (Kd.Z4 HO_470001.out (fun k_ hk=>(⟨hk,hk.1.2.2.2.2.1⟩:_∧k_ ≠ η))) (fun _ hk=>hk.2) _) (fun _ hk=>⟨hk.1.1.1,⟨hk.1.2,⟨hk.1.1.2.1,⟨hk.1.1.2.2.1,⟨hk.1.1.2.2.2.1,hk.1.1.2.2.2.2.1⟩⟩⟩⟩⟩)⟩,⟨by(with_reducible repeat first|apply Kd.Qk|apply Kd.Qj|apply Kd.Qn);exact Kd.Qq (Kd.Qs (Kd.Qw bm.out δ.out (by decide)) (fun _ hk=>hk.2) _) (fun _ hk=>⟨hk.1.1,hk.1.2.1⟩)⟩,⟨by(with_reducible repeat first|apply Kd.Xe|apply Kd.Xd|apply Kd.Xn);exact Kd.Z4 (Kd.Xh (p:=⟨η,0,none⟩) (Kd.Z4 HO_473001.out (fun k_ hk=>(⟨hk,hk.1.2.2.2.2.1⟩:_∧k_ ≠ η))) (fun _ hk=>hk.2) _) (fun _ hk=>⟨hk.1.1.1,⟨hk.1.2,⟨hk.1.1.2.1,⟨hk.1.1.2.2.1,⟨hk.1.1.2.2.2.1,hk.1.1.2.2.2.2.1⟩⟩⟩⟩⟩)⟩,⟨bka U⟩,⟨bka γ⟩,⟨bka ε⟩,⟨by(with_reducible repeat first|apply Qd|apply Qa|apply Qe);refine Qv (cs:=#[κ,.slice Y J.length Z]) ?_ 0 _ rfl;(with_reducible repeat first|apply Qd|apply Qa|apply Qe);exact δ.out⟩,⟨bel⟩⟩
      ·rw[if_neg ea] at H
       exact absurd H (by simp)
    ·rw[if_neg a8] at H
     exact absurd H (by simp)
   ·rw[if_neg az] at H
    have c14b0:decide (L<(I.length:Int))=false:=decide_eq_false az
    clear az
    simp only[Option.some.injEq,Prod.mk.injEq] at H
    obtain⟨rfl,rfl⟩:=H
    have j5:=a2.out
    have j6:=a9.out
    have i1:=aa.out
    have i2:=ab.out
    have j7:=ac.out
    have j8:=ae.out
    obtain⟨ez,f3,f4,f7⟩:=qD2 U.out
    have i7:=ag.out
    have i9:=af.out
    have j9:=ai.out
    have ja:=ah.out
    obtain⟨gr,h7,h8,h9⟩:=qD2 δ.out
    obtain⟨ci,cp,dr⟩:=Kd.Q4 HO_473000.out
    subst dr
    have hh:=b4.out
    have hj:=b3.out
    obtain⟨gx,gy,h6,ib⟩:=qD2 ε.out
    go_wp2
    refine bodyPost_ret (results_cell_row rfl _ _ ν 27 #[.slice ci θ.length cp,.slice Y J.length Z] (0,0) _ rfl (by refine Qv (cs:=#[.slice ci θ.length cp,.slice none 0 0]) ?_ 1 _ rfl;refine Qv (cs:=#[.slice none 0 0,.slice none 0 0]) ?_ 0 _ rfl;exact ε.out) Try.underlying27 rfl kr) rfl ?_
    exact⟨_,_,by first|rfl|(simp[Qz,Qy] <;> rfl)|(simp[*,Qz,Qy] <;> rfl),by(with_reducible repeat first|apply Kd.Qk|apply Kd.Qj|apply Kd.Qn);exact Kd.Qq (Kd.Qs (Kd.Qs (Kd.Qw HO_473000.out ε.out (by decide)) (fun _ hk=>hk.2) _) (fun _ hk=>hk.2) (.slice Y J.length Z)) (fun _ hk=>hk.1.1),by(with_reducible repeat first|apply Kd.Xe|apply Kd.Xd|apply Kd.Xn);exact Kd.Z4 (Kd.Xh (p:=⟨ν,1,none⟩) (Kd.Xh (p:=⟨ν,0,none⟩) (Kd.Z4 HO_473001.out (fun k_ hk=>(⟨hk,hk.2.2.2.2.1⟩:_∧k_ ≠ ν))) (fun _ hk=>hk.2) _) (fun _ hk=>hk.2) (.slice Y J.length Z)) (fun _ hk=>⟨hk.1.1,hk.1.2.1⟩),bel⟩
end Go.Proofs.Ytjehhhlhalkieaa.C
