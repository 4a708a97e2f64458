/- Texts of this claim, one behind the other: what the law's functions come to, walked (printed by a program, with the words that the print uses), and what that is, in plain Lean. No conditions of their own. -/
import Derived.Test.YtjehhhlhalkieaaQCallServes6
import Derived.Laws.EntriesVeiled
import Derived.WalkSpells
namespace Go.Proofs.Ytjehhhlhalkieaa.C
open Go.RowKit Go.Proofs.YtjehhhlhalkieaaW.PrintWords Go.Proofs.YtjehhhlhalkieaaW.PrintLast Go.Proofs.YtjehhhlhalkieaaW.PrintMore
attribute [local go_sem] Z3 Z1 Xb Xa Zt Zs Z2 Z0
set_option linter.unusedVariables false
set_option linter.unusedSimpArgs false
def api_Hall_55.f (l0:List S56):Option (List S56):=if l0.length<1000000000 then some l0 else none
set_option maxRecDepth 100000 in
set_option maxHeartbeats 1000000 in
theorem api_Hall_55.calls (Y:Option Addr) (c0:Nat) (l0:List S56) (r:List S56) (w:World) (ε :Kd.C k56 w Y l0.length l0) (L:l0.length≤c0) (h:api_Hall_55.f l0=some r):
    Calls Try.prog 55 #[.slice Y l0.length c0] w fun e w'=>∃ a6:Value,e = .returned a6∧Kd.R k56 56 w' w.heap.size (fun _=>True) a6 r∧Below w.heap.size w w':=by
  unfold api_Hall_55.f at h
  split at h
  case isFalse=>cases h
  case isTrue hl=>
  cases h
  have HR:=Aside0.mk ε
  have HC:=Aside0.mk L
  have HL:=Aside0.mk hl
  have HB:=Aside0.mk (Below.refl w.heap.size w)
  have hn:Y=none→l0 = []:=by
    intro hA
    rcases Nat.eq_zero_or_pos l0.length with h|h
    · exact List.eq_nil_of_length_eq_zero h
    · obtain⟨ad,e,_⟩:= ε.2.2 h
      rw[hA] at e
      cases e
  clear ε L hl
  have hEq:∀ (W:World),(binOp .eql 24 (.slice Y l0.length c0) (.slice none 0 0)).run Try.prog W = .ok (.bool Y.isNone) W:=fun W=>Lib.run_eql_slice_nil W _ _ _ _ _ _ _ Try.underlying24
  rcases Y with _|ad
  · have D:=Aside0.mk (hn rfl)
    clear hn
    go_enter Try.func55,Try.ntmps55
    go_wp2
    go_ret
    rw[D.out]
    exact⟨_,rfl,Kd.Xz _ _ _ _ _,HB.out⟩
  · clear hn
    go_enter Try.func55,Try.ntmps55
    go_wp2_with (first|((with_reducible refine Qs (N:=5) rfl ?_);refine Kd.Mq k56 _ 56 ?hg (N:=5) ?hd (xs:=([]:List S56)) (inner:=[]) (ok:=fun _=>True) (okp:=fun _=>True) ?hr ?hp (fun _ hk=>hk) trivial (Below.refl _ _) (Nat.le_refl _) (by simp) ?_;(case hd=>rfl);(case hg=>rfl);(case hr=>first|(go_simp;done)|(go_simp;rfl));(case hp=>exact(Reps.none _ _));intro v1 w1 a2 Z hg_ hnew_;clear hg_ hnew_;have HO:=Aside0.mk a2;have B:=Aside0.mk Z;clear a2 Z)|((with_reducible refine Z5 (b:=.append) (xs:=#[.tmp 5,.tmp 6]) rfl ?_);at_builtin;refine Kd.Yv k56 (w0:=w) w.heap.size rfl (.tmp 5) (.tmp 6) 24 56 (.agg #[(.int .i64 0),(.int .i64 0),(.int .i64 0)]) 24 rfl Try.underlying24 Y0 rfl (by decide) (by omega) v1 [] l0 _ _ _ (fun _=>True) (fun _=>False) rfl rfl ?aO ?aR (fun _ _ h=>h) (fun _ h=>h.elim) ?aF ?aB ?aS ?aL ?_;(case aR=>exact(Kd.Qx HR.out B.out));(case aB=>exact B.out);(case aF=>exact(fun _ _=>trivial));(case aO=>exact HO.out);(case aS=>exact Ql B.out);(case aL=>have:=HL.out;simp only[List.length_nil];omega);intro v2 X ho hb hg hat;clear hg hat))
    go_ret
    exact⟨_,rfl,by simpa using ho,hb⟩
def woH (I D U:Int) (l:List S56):List S56:=l.filter (fun y=> !(Z7 I D y.f0 y.f1==0))
set_option maxRecDepth 100000 in
set_option maxHeartbeats 2000000 in
theorem Vp (A:Option Addr) (c:Nat) (l:List S56) (I D U:Int) (w:World) (hr:Kd.C k56 w A l.length l) (hc:l.length≤c) (hl:l.length<1000000000) (bv: -9223372036854775808≤D∧D≤9223372036854775807):
    Calls Try.prog 31 #[.agg #[.slice A l.length c,.func (.func 51) #[] #[]],.agg #[.int .i64 I,.int .i64 D,.int .i64 U]] w fun e w'=>∃ a6:Value,e = .returned a6∧Kd.R k56 56 w' w.heap.size (fun _=>True) a6 (woH I D U l)∧Below w.heap.size w w':=by
  have HR:=Aside0.mk hr
  have HC:=Aside0.mk hc
  have HF:=Aside0.mk (show api_Hall_55.f l=some l by unfold api_Hall_55.f;rw[if_pos hl])
  have HB:=Aside0.mk (Below.refl w.heap.size w)
  have HD:=Aside0.mk (show api_Hall_54.f (l.length+6) l (tok I D)=some (woH I D U l) by
    rw[Call.Na l (tok I D) (by omega) _ (by omega)]
    show some (l.filter (fun y=> !(Z7 (X8 (tok I D)) (X7 (tok I D)) y.f0 y.f1==0)))=_
    rw[Jl I D bv,Jk I D bv]
    rfl)
  have T1:=Aside0.mk (Jl I D bv)
  have T2:=Aside0.mk (Jk I D bv)
  clear hr hc hl bv
  go_enter Try.func31,Try.ntmps31
  go_wp2_with (first|((with_reducible refine Qs (N:=2) rfl ?_);refine Zb ?hg (N:=2) ?hd (cs:=#[.slice A l.length c,.func (.func 51) #[] #[]]) (t:=69) ?hr ?_;(case hd=>rfl);(case hg=>rfl);(case hr=>first|(go_simp;done)|(go_simp;rfl));intro g2 hg_ X hbox hb;have Z:=Aside0.mk (Qv HB.out hb);have ε :=Aside0.mk hbox;clear HB;have HB:=Z;have B:= ε;clear Z ε;clear hb hbox hg_)|((with_reducible refine Qs (N:=3) rfl ?_);refine Zb ?hg (N:=3) ?hd (cs:=#[.int .i64 I,.int .i64 D,.int .i64 U]) (t:=56) ?hr ?_;(case hd=>rfl);(case hg=>rfl);(case hr=>first|(go_simp;done)|(go_simp;rfl));intro g3 hg_ w3 hbox hb;have J:=Aside0.mk (Qn (g:=g2) (o:=.cells #[.slice A l.length c,.func (.func 51) #[] #[]] 69 (0,0)) B.out hb);have Z:=Aside0.mk (Qv HB.out hb);have ε :=Aside0.mk hbox;clear HB B;have HB:=Z;have L:= ε;have B:=J;clear Z ε J;clear hb hbox hg_;have γ:w3.cell? ⟨g2,0,none⟩=some (.slice A l.length c):=(Qi B.out 0).trans rfl;have δ :w3.cell? ⟨g2,1,none⟩=some (.func (.func 51) #[] #[]):=(Qi B.out 1).trans rfl)|(go_at_call 55;((with_reducible refine(api_Hall_55.calls A c l l _ ?side1 ?side2 HF.out).mono ?_);(case side1=>exact Kd.Qx HR.out HB.out);(case side2=>exact HC.out);rintro e w4 ⟨v4,rfl,ψ,hb⟩;have ι :=Aside0.mk (Nat.not_le.2 (Q5 B.out));have ζ :=Aside0.mk (Nat.not_le.2 (Q5 L.out));have J:=Aside0.mk (Kd.Q1 (Kd.Qq (Kd.Xt ψ) (fun k_ hk=>hk.2.1)) HB.out.size);have O:=Aside0.mk (Qn (g:=g2) (o:=.cells #[.slice A l.length c,.func (.func 51) #[] #[]] 69 (0,0)) B.out hb);have Y:=Aside0.mk (Qn (g:=g3) (o:=.cells #[.int .i64 I,.int .i64 D,.int .i64 U] 56 (0,0)) L.out hb);have Z:=Aside0.mk (Qv HB.out hb);clear HB B L;have HB:=Z;have B:=O;have L:=Y;have HO:=J;clear Z J O Y hb ψ))|(go_at_call 54;((with_reducible refine(api_Hall_54.calls (l.length+6) _ v4 l (tok I D) _ w w4 HB.out HO.out HD.out A l.length c g2 g3 U B.out ?hx ι.out ζ.out).mono ?_);(case hx=>rw[T1.out,T2.out];exact L.out);rintro e w5 ⟨v5,rfl,ψ,hb,hk⟩;have η :=Aside0.mk ψ;have θ :=Aside0.mk hb;clear ψ hb hk)))
  go_ret
  exact⟨_,rfl,Kd.Qq η.out (fun _ _=>trivial),θ.out⟩
def api_Inside_59.f (l0:List S62):Option (List S62):=if l0.length<1000000000 then some l0 else none
set_option maxRecDepth 100000 in
set_option maxHeartbeats 1000000 in
theorem api_Inside_59.calls (Y:Option Addr) (c0:Nat) (l0:List S62) (r:List S62) (w:World) (ε :Kd.C k62 w Y l0.length l0) (L:l0.length≤c0) (h:api_Inside_59.f l0=some r):
    Calls Try.prog 59 #[.slice Y l0.length c0] w fun e w'=>∃ a6:Value,e = .returned a6∧Kd.R k62 62 w' w.heap.size (fun _=>True) a6 r∧Below w.heap.size w w':=by
  unfold api_Inside_59.f at h
  split at h
  case isFalse=>cases h
  case isTrue hl=>
  cases h
  have HR:=Aside0.mk ε
  have HC:=Aside0.mk L
  have HL:=Aside0.mk hl
  have HB:=Aside0.mk (Below.refl w.heap.size w)
  have hn:Y=none→l0 = []:=by
    intro hA
    rcases Nat.eq_zero_or_pos l0.length with h|h
    · exact List.eq_nil_of_length_eq_zero h
    · obtain⟨ad,e,_⟩:= ε.2.2 h
      rw[hA] at e
      cases e
  clear ε L hl
  have hEq:∀ (W:World),(binOp .eql 25 (.slice Y l0.length c0) (.slice none 0 0)).run Try.prog W = .ok (.bool Y.isNone) W:=fun W=>Lib.run_eql_slice_nil W _ _ _ _ _ _ _ Try.underlying25
  rcases Y with _|ad
  · have D:=Aside0.mk (hn rfl)
    clear hn
    go_enter Try.func59,Try.ntmps59
    go_wp2
    go_ret
    rw[D.out]
    exact⟨_,rfl,Kd.Xz _ _ _ _ _,HB.out⟩
  · clear hn
    go_enter Try.func59,Try.ntmps59
    go_wp2_with (first|((with_reducible refine Qs (N:=5) rfl ?_);refine Kd.Mq k62 _ 62 ?hg (N:=5) ?hd (xs:=([]:List S62)) (inner:=[]) (ok:=fun _=>True) (okp:=fun _=>True) ?hr ?hp (fun _ hk=>hk) trivial (Below.refl _ _) (Nat.le_refl _) (by simp) ?_;(case hd=>rfl);(case hg=>rfl);(case hr=>first|(go_simp;done)|(go_simp;rfl));(case hp=>exact(Reps.none _ _));intro v1 w1 a2 Z hg_ hnew_;clear hg_ hnew_;have HO:=Aside0.mk a2;have B:=Aside0.mk Z;clear a2 Z)|((with_reducible refine Z5 (b:=.append) (xs:=#[.tmp 5,.tmp 6]) rfl ?_);at_builtin;refine Kd.Yv k62 (w0:=w) w.heap.size rfl (.tmp 5) (.tmp 6) 25 62 (.agg #[(.int .i64 0),(.int .i64 0)]) 16 rfl Try.underlying25 Ji rfl (by decide) (by omega) v1 [] l0 _ _ _ (fun _=>True) (fun _=>False) rfl rfl ?aO ?aR (fun _ _ h=>h) (fun _ h=>h.elim) ?aF ?aB ?aS ?aL ?_;(case aR=>exact(Kd.Qx HR.out B.out));(case aB=>exact B.out);(case aF=>exact(fun _ _=>trivial));(case aO=>exact HO.out);(case aS=>exact Ql B.out);(case aL=>have:=HL.out;simp only[List.length_nil];omega);intro v2 X ho hb hg hat;clear hg hat))
    go_ret
    exact⟨_,rfl,by simpa using ho,hb⟩
def woI (I D:Int) (l:List S62):List S62:=l.filter (fun y=> !(Z7 I D y.f0 y.f1==0))
set_option maxRecDepth 100000 in
set_option maxHeartbeats 2000000 in
theorem Vo (A:Option Addr) (c:Nat) (l:List S62) (I D:Int) (w:World) (hr:Kd.C k62 w A l.length l) (hc:l.length≤c) (hl:l.length<1000000000) (bv: -9223372036854775808≤D∧D≤9223372036854775807):
    Calls Try.prog 36 #[.agg #[.slice A l.length c,.func (.func 57) #[] #[]],.agg #[.int .i64 I,.int .i64 D]] w fun e w'=>∃ a6:Value,e = .returned a6∧Kd.R k62 62 w' w.heap.size (fun _=>True) a6 (woI I D l)∧Below w.heap.size w w':=by
  have HR:=Aside0.mk hr
  have HC:=Aside0.mk hc
  have HF:=Aside0.mk (show api_Inside_59.f l=some l by unfold api_Inside_59.f;rw[if_pos hl])
  have HB:=Aside0.mk (Below.refl w.heap.size w)
  have HD:=Aside0.mk (show api_Inside_64.f (l.length+6) l (tok I D)=some (woI I D l) by
    rw[Call.M9 l (tok I D) (by omega) _ (by omega)]
    show some (l.filter (fun y=> !(Z7 (X8 (tok I D)) (X7 (tok I D)) y.f0 y.f1==0)))=_
    rw[Jl I D bv,Jk I D bv]
    rfl)
  have T1:=Aside0.mk (Jl I D bv)
  have T2:=Aside0.mk (Jk I D bv)
  clear hr hc hl bv
  go_enter Try.func36,Try.ntmps36
  go_wp2_with (first|((with_reducible refine Qs (N:=2) rfl ?_);refine Zb ?hg (N:=2) ?hd (cs:=#[.slice A l.length c,.func (.func 57) #[] #[]]) (t:=74) ?hr ?_;(case hd=>rfl);(case hg=>rfl);(case hr=>first|(go_simp;done)|(go_simp;rfl));intro g2 hg_ X hbox hb;have Z:=Aside0.mk (Qv HB.out hb);have ε :=Aside0.mk hbox;clear HB;have HB:=Z;have B:= ε;clear Z ε;clear hb hbox hg_)|((with_reducible refine Qs (N:=3) rfl ?_);refine Zb ?hg (N:=3) ?hd (cs:=#[.int .i64 I,.int .i64 D]) (t:=62) ?hr ?_;(case hd=>rfl);(case hg=>rfl);(case hr=>first|(go_simp;done)|(go_simp;rfl));intro g3 hg_ w3 hbox hb;have J:=Aside0.mk (Qn (g:=g2) (o:=.cells #[.slice A l.length c,.func (.func 57) #[] #[]] 74 (0,0)) B.out hb);have Z:=Aside0.mk (Qv HB.out hb);have ε :=Aside0.mk hbox;clear HB B;have HB:=Z;have L:= ε;have B:=J;clear Z ε J;clear hb hbox hg_;have γ:w3.cell? ⟨g2,0,none⟩=some (.slice A l.length c):=(Qi B.out 0).trans rfl;have δ :w3.cell? ⟨g2,1,none⟩=some (.func (.func 57) #[] #[]):=(Qi B.out 1).trans rfl)|(go_at_call 59;((with_reducible refine(api_Inside_59.calls A c l l _ ?side1 ?side2 HF.out).mono ?_);(case side1=>exact Kd.Qx HR.out HB.out);(case side2=>exact HC.out);rintro e w4 ⟨v4,rfl,ψ,hb⟩;have ι :=Aside0.mk (Nat.not_le.2 (Q5 B.out));have ζ :=Aside0.mk (Nat.not_le.2 (Q5 L.out));have J:=Aside0.mk (Kd.Q1 (Kd.Qq (Kd.Xt ψ) (fun k_ hk=>hk.2.1)) HB.out.size);have O:=Aside0.mk (Qn (g:=g2) (o:=.cells #[.slice A l.length c,.func (.func 57) #[] #[]] 74 (0,0)) B.out hb);have Y:=Aside0.mk (Qn (g:=g3) (o:=.cells #[.int .i64 I,.int .i64 D] 62 (0,0)) L.out hb);have Z:=Aside0.mk (Qv HB.out hb);clear HB B L;have HB:=Z;have B:=O;have L:=Y;have HO:=J;clear Z J O Y hb ψ))|(go_at_call 64;((with_reducible refine(api_Inside_64.calls (l.length+6) _ v4 l (tok I D) _ w w4 HB.out HO.out HD.out A l.length c g2 g3 0 B.out ?hx ι.out ζ.out).mono ?_);(case hx=>rw[T1.out,T2.out];exact L.out);rintro e w5 ⟨v5,rfl,ψ,hb,hk⟩;have η :=Aside0.mk ψ;have θ :=Aside0.mk hb;clear ψ hb hk)))
  go_ret
  exact⟨_,rfl,Kd.Qq η.out (fun _ _=>trivial),θ.out⟩
set_option maxRecDepth 100000 in
set_option maxHeartbeats 1000000 in
theorem Yd (Y A1:Option Addr) (L I c0 c1:Nat) (w:World):
    Calls Try.prog 30 #[.agg #[.slice Y L c0,.slice A1 I c1]] w fun e w'=>e = .returned (.agg #[.slice Y L c0,.func (.func 51) #[] #[]])∧Below w.heap.size w w':=by
  have HB:=Aside0.mk (Below.refl w.heap.size w)
  go_enter Try.func30,Try.ntmps30
  go_wp2_with (first|((with_reducible refine Qs (N:=1) rfl ?_);refine Zb ?hg (N:=1) ?hd (cs:=#[.slice Y L c0,.slice A1 I c1]) (t:=27) ?hr ?_;(case hd=>rfl);(case hg=>rfl);(case hr=>first|(go_simp;done)|(go_simp;rfl));intro g1 hg_ w1 hbox hb;have Z:=Aside0.mk (Qv HB.out hb);have ε :=Aside0.mk hbox;clear HB;have HB:=Z;have D:= ε;clear Z ε;clear hb hbox hg_)|((with_reducible refine Qs (N:=2) rfl ?_);refine Zb ?hg (N:=2) ?hd (cs:=#[.slice none 0 0,.nilFunc]) (t:=69) ?hr ?_;(case hd=>rfl);(case hg=>rfl);(case hr=>first|(go_simp;done)|(go_simp;rfl));intro g2 hg_ X hbox hb;have GEs:=Aside0.mk HB.out.size;have GEl:=Aside0.mk (Q5 D.out);have J:=Aside0.mk (Qn (g:=g1) (o:=.cells #[.slice Y L c0,.slice A1 I c1] 27 (0,0)) D.out hb);have Z:=Aside0.mk (Qv HB.out hb);have ε :=Aside0.mk hbox;clear HB D;have HB:=Z;have B:= ε;have D:=J;clear Z ε J;have O:=Aside0.mk (by rw[hg_];exact GEs.out:w.heap.size≤g2);have NB:=Aside0.mk (by rw[hg_];exact Nat.ne_of_lt GEl.out:g1≠g2);clear hb hbox hg_;have hnb:=NB.out;have γ:X.cell? ⟨g1,0,none⟩=some (.slice Y L c0):=(Qi D.out 0).trans rfl;have δ :X.cell? ⟨g1,1,none⟩=some (.slice A1 I c1):=(Qi D.out 1).trans rfl;have ζ :X.cell? ⟨g2,0,none⟩=some (.slice none 0 0):=(Qi B.out 0).trans rfl;have η :X.cell? ⟨g2,1,none⟩=some (.nilFunc):=(Qi B.out 1).trans rfl;have U:=Q6 B.out 0;have θ :=Q6 B.out 1))
  refine bodyPost_ret (results_cell_row rfl _ _ g2 69 #[.slice Y L c0,.func (.func 51) #[] #[]] (0,0) _ rfl (by refine Qw (cs:=#[.slice Y L c0,.nilFunc]) ?_ 1 _ rfl;refine Qw (cs:=#[.slice none 0 0,.nilFunc]) ?_ 0 _ rfl;exact B.out) Try.underlying69 rfl kr) rfl ?_
  exact⟨rfl,Qd (Qd HB.out O.out) O.out⟩
set_option maxRecDepth 100000 in
set_option maxHeartbeats 1000000 in
theorem Je (F C:Int) (w:World):
    Calls Try.prog 34 #[.agg #[.int .i64 F,.int .i64 C]] w fun e w'=>∃ g:Nat,e = .returned (.func (.func 61) #[] #[.pointer (some ⟨g,0,none⟩)])∧w'.heap[g]?=some (.cells #[.int .i64 F,.int .i64 C] 23 (0,0))∧w.heap.size≤g∧Below w.heap.size w w':=by
  have HB:=Aside0.mk (Below.refl w.heap.size w)
  go_enter Try.func34,Try.ntmps34
  go_wp2_with (first|((with_reducible refine Qs (N:=1) rfl ?_);refine Zb ?hg (N:=1) ?hd (cs:=#[.int .i64 F,.int .i64 C]) (t:=23) ?hr ?_;(case hd=>rfl);(case hg=>rfl);(case hr=>first|(go_simp;done)|(go_simp;rfl));intro g1 hg_ w1 hbox hb;have GEs:=Aside0.mk HB.out.size;have Z:=Aside0.mk (Qv HB.out hb);have ε :=Aside0.mk hbox;clear HB;have HB:=Z;have D:= ε;clear Z ε;have B:=Aside0.mk (by rw[hg_];exact GEs.out:w.heap.size≤g1);clear hb hbox hg_))
  go_ret
  exact⟨_,rfl,D.out,B.out,HB.out⟩
set_option maxRecDepth 100000 in
set_option maxHeartbeats 1000000 in
theorem Yr (Y A1:Option Addr) (L I c0 c1:Nat) (w:World):
    Calls Try.prog 32 #[.agg #[.slice Y L c0,.slice A1 I c1]] w fun e w'=>e = .returned (.agg #[.slice A1 I c1,.func (.func 57) #[] #[]])∧Below w.heap.size w w':=by
  have HB:=Aside0.mk (Below.refl w.heap.size w)
  go_enter Try.func32,Try.ntmps32
  go_wp2_with (first|((with_reducible refine Qs (N:=1) rfl ?_);refine Zb ?hg (N:=1) ?hd (cs:=#[.slice Y L c0,.slice A1 I c1]) (t:=27) ?hr ?_;(case hd=>rfl);(case hg=>rfl);(case hr=>first|(go_simp;done)|(go_simp;rfl));intro g1 hg_ w1 hbox hb;have Z:=Aside0.mk (Qv HB.out hb);have ε :=Aside0.mk hbox;clear HB;have HB:=Z;have D:= ε;clear Z ε;clear hb hbox hg_)|((with_reducible refine Qs (N:=2) rfl ?_);refine Zb ?hg (N:=2) ?hd (cs:=#[.slice none 0 0,.nilFunc]) (t:=74) ?hr ?_;(case hd=>rfl);(case hg=>rfl);(case hr=>first|(go_simp;done)|(go_simp;rfl));intro g2 hg_ X hbox hb;have GEs:=Aside0.mk HB.out.size;have GEl:=Aside0.mk (Q5 D.out);have J:=Aside0.mk (Qn (g:=g1) (o:=.cells #[.slice Y L c0,.slice A1 I c1] 27 (0,0)) D.out hb);have Z:=Aside0.mk (Qv HB.out hb);have ε :=Aside0.mk hbox;clear HB D;have HB:=Z;have B:= ε;have D:=J;clear Z ε J;have O:=Aside0.mk (by rw[hg_];exact GEs.out:w.heap.size≤g2);have NB:=Aside0.mk (by rw[hg_];exact Nat.ne_of_lt GEl.out:g1≠g2);clear hb hbox hg_;have hnb:=NB.out;have γ:X.cell? ⟨g1,0,none⟩=some (.slice Y L c0):=(Qi D.out 0).trans rfl;have δ :X.cell? ⟨g1,1,none⟩=some (.slice A1 I c1):=(Qi D.out 1).trans rfl;have ζ :X.cell? ⟨g2,0,none⟩=some (.slice none 0 0):=(Qi B.out 0).trans rfl;have η :X.cell? ⟨g2,1,none⟩=some (.nilFunc):=(Qi B.out 1).trans rfl;have U:=Q6 B.out 0;have θ :=Q6 B.out 1))
  refine bodyPost_ret (results_cell_row rfl _ _ g2 74 #[.slice A1 I c1,.func (.func 57) #[] #[]] (0,0) _ rfl (by refine Qw (cs:=#[.slice A1 I c1,.nilFunc]) ?_ 1 _ rfl;refine Qw (cs:=#[.slice none 0 0,.nilFunc]) ?_ 0 _ rfl;exact B.out) Try.underlying74 rfl kr) rfl ?_
  exact⟨rfl,Qd (Qd HB.out O.out) O.out⟩
set_option maxRecDepth 100000 in
set_option maxHeartbeats 1000000 in
theorem Jd (F C:Int) (w:World):
    Calls Try.prog 29 #[.agg #[.int .i64 F,.int .i64 C]] w fun e w'=>∃ g:Nat,e = .returned (.func (.func 50) #[] #[.pointer (some ⟨g,0,none⟩)])∧w'.heap[g]?=some (.cells #[.int .i64 F,.int .i64 C] 23 (0,0))∧w.heap.size≤g∧Below w.heap.size w w':=by
  have HB:=Aside0.mk (Below.refl w.heap.size w)
  go_enter Try.func29,Try.ntmps29
  go_wp2_with (first|((with_reducible refine Qs (N:=1) rfl ?_);refine Zb ?hg (N:=1) ?hd (cs:=#[.int .i64 F,.int .i64 C]) (t:=23) ?hr ?_;(case hd=>rfl);(case hg=>rfl);(case hr=>first|(go_simp;done)|(go_simp;rfl));intro g1 hg_ w1 hbox hb;have GEs:=Aside0.mk HB.out.size;have Z:=Aside0.mk (Qv HB.out hb);have ε :=Aside0.mk hbox;clear HB;have HB:=Z;have D:= ε;clear Z ε;have B:=Aside0.mk (by rw[hg_];exact GEs.out:w.heap.size≤g1);clear hb hbox hg_))
  go_ret
  exact⟨_,rfl,D.out,B.out,HB.out⟩
end Go.Proofs.Ytjehhhlhalkieaa.C
namespace Go.Proofs.Ytjehhhlhalkieaa.C
open Go.RowKit Go.Proofs.YtjehhhlhalkieaaW.PrintWords Go.Proofs.YtjehhhlhalkieaaW.PrintLast Go.Proofs.YtjehhhlhalkieaaW.PrintMore
set_option linter.unusedVariables false
def small (n:Nat) (C:Int):Bool:=decide (n<1000000000 ∧ -9223372036854775808≤C∧C≤9223372036854775807)
def rightP_H.f (B:List S56) (J:List S62) (D I:Int):Option Bool:=if small B.length I=true then some (Call.Zo (fun x=>Xy D I x.f0 x.f1 x.f2) Call.ltH none B) else none
theorem rightP_H.calls (ζ :Option Addr) (γ:Nat) (B:List S56) (η :Option Addr) (δ :Nat) (J:List S62) (D I:Int) (r:Bool) (w:World) (bj:Kd.C k56 w ζ B.length B) (bk:B.length≤γ) (bl:Kd.C k62 w η J.length J) (bm:J.length ≤ δ) (h:rightP_H.f B J D I=some r) (g:Nat) (hg:w.heap[g]?=some (.cells #[.int .i64 D,.int .i64 I] 23 (0,0))):
    Calls Try.prog 42 #[.agg #[.slice ζ B.length γ,.func (.func 51) #[] #[]],.func (.func 61) #[] #[.pointer (some ⟨g,0,none⟩)]] w fun e w'=>e = .returned (.bool r)∧Below w.heap.size w w':=by
  unfold rightP_H.f at h
  split at h
  case isFalse=>cases h
  case isTrue hs=>
  cases h
  obtain⟨hl,hb⟩:=of_decide_eq_true hs
  have Y:=Jl D I hb
  have Z:=Jk D I hb
  refine api_Hall_right.calls (2 * B.length+1) ζ γ B 0 (tok D I) _ w bj bk ?_ g ?_
  · rw[Call.Wz B _ 0 (by omega) _ (by omega),Y,Z]
  · rw[Y,Z];exact hg
def rightP_I.f (B:List S56) (J:List S62) (D I:Int):Option Bool:=if small J.length I=true then some (Call.Zo (fun x=>X1 D I x.f0 x.f1) Call.ltI none J) else none
theorem rightP_I.calls (ζ :Option Addr) (γ:Nat) (B:List S56) (η :Option Addr) (δ :Nat) (J:List S62) (D I:Int) (r:Bool) (w:World) (bj:Kd.C k56 w ζ B.length B) (bk:B.length≤γ) (bl:Kd.C k62 w η J.length J) (bm:J.length ≤ δ) (h:rightP_I.f B J D I=some r) (g:Nat) (hg:w.heap[g]?=some (.cells #[.int .i64 D,.int .i64 I] 23 (0,0))):
    Calls Try.prog 43 #[.agg #[.slice η J.length δ,.func (.func 57) #[] #[]],.func (.func 50) #[] #[.pointer (some ⟨g,0,none⟩)]] w fun e w'=>e = .returned (.bool r)∧Below w.heap.size w w':=by
  unfold rightP_I.f at h
  split at h
  case isFalse=>cases h
  case isTrue hs=>
  cases h
  obtain⟨hl,hb⟩:=of_decide_eq_true hs
  have Y:=Jl D I hb
  have Z:=Jk D I hb
  refine api_Inside_right.calls (2 * J.length+1) η δ J 0 (tok D I) _ w bl bm ?_ g ?_
  · rw[Call.Wy J _ 0 (by omega) _ (by omega),Y,Z]
  · rw[Y,Z];exact hg
end Go.Proofs.Ytjehhhlhalkieaa.C
namespace Go.Proofs.Ytjehhhlhalkieaa.C
open Go.RowKit Go.Proofs.YtjehhhlhalkieaaW.PrintWords Go.Proofs.YtjehhhlhalkieaaW.PrintLast Go.Proofs.YtjehhhlhalkieaaW.PrintMore
attribute [local go_sem] Z3 Z1 Xb Xa Zt Zs Z2 Z0
set_option linter.unusedVariables false
set_option linter.unusedSimpArgs false
def api_Hall_set.j0:Nat→List (S56)→Option ((List (S56)))
 |0,_=>none
 |k+1,L=>some L
def api_Hall_set.f (k:Nat) (D:List (S56)) (I:Int) (J:Int) (O:Int) (X:Int):Option ((List (S56))):=(api_Hall_55.f D).bind fun Z=>((api_Hall_62.f k Z J O X I).bind fun γ=>(if γ.2=true then (if 0≤γ.1 then (if γ.1<(Z.length:Int) then (api_Hall_set.j0 k (Z.set (γ.1:Int).toNat (⟨J,O,X⟩:S56))) else (none)) else (none)) else (api_Hall_set.j0 k Z)))
theorem api_Hall_set.Zk:∀ k,(∀ J,LeO (api_Hall_set.j0 k J) (api_Hall_set.j0 (k+1) J))
 |0=>fun _ r h=>by simp[api_Hall_set.j0] at h
 |k+1=>by
  have B:=api_Hall_set.Zk k
  ·intro J
   unfold api_Hall_set.j0
   repeat' first
   |(with_reducible exact B _)
   |(with_reducible exact api_Hall_62.mono _ _ _ _ _ _)
   |(with_reducible exact LeO.refl _)
   |(with_reducible exact LeO.none _)
   |(with_reducible refine LeO.ite ?_ ?_)
   |(with_reducible refine LeO.bind ?_ (fun _=>?_))
   |exact B _
   |exact api_Hall_62.mono _ _ _ _ _ _
   |exact LeO.none _
   |refine LeO.ite ?_ ?_
   |refine LeO.bind ?_ (fun _=>?_)
theorem api_Hall_set.mono:∀ D J a2 X L k,LeO (api_Hall_set.f k D J a2 X L) (api_Hall_set.f (k+1) D J a2 X L):=by
 intro D J a2 X L k
 have B:=api_Hall_set.Zk k
 unfold api_Hall_set.f
 repeat' first
   |(with_reducible exact B _)
   |(with_reducible exact api_Hall_62.mono _ _ _ _ _ _)
   |(with_reducible exact LeO.refl _)
   |(with_reducible exact LeO.none _)
   |(with_reducible refine LeO.ite ?_ ?_)
   |(with_reducible refine LeO.bind ?_ (fun _=>?_))
   |exact B _
   |exact api_Hall_62.mono _ _ _ _ _ _
   |exact LeO.none _
   |refine LeO.ite ?_ ?_
   |refine LeO.bind ?_ (fun _=>?_)
set_option maxHeartbeats 8000000 in
set_option maxRecDepth 100000 in
theorem api_Hall_set.calls (k:Nat) (μ :Option Addr) (Y:Nat) (D:List (S56)) (I:Int) (J:Int) (O:Int) (X:Int) (r:List (S56)) (w:World) (ω :Kd.C k56 w μ D.length D) (a2:D.length≤Y) (h:api_Hall_set.f k D I J O X=some r):
  Calls Try.prog 47 #[.agg #[.slice μ D.length Y,.func (.func 51) #[] #[]],.agg #[.int .i64 J,.int .i64 O,.int .i64 X]] w fun e w'=>∃ a6:Value,e = .returned (a6)∧Kd.R k56 56 w' w.heap.size (fun _=>True) a6 r∧Below w.heap.size w w':=by
 have cb:=Try.underlying69
 have b2:=Try.underlying56
 have φ :=Aside0.mk ω
 have ab:=Aside0.mk a2
 clear ω a2
 have HB:=Aside0.mk (Below.refl w.heap.size w)
 have H:((api_Hall_55.f D).bind fun Z=>((api_Hall_62.f k Z J O X I).bind fun γ=>(if γ.2=true then (if 0≤γ.1 then (if γ.1<(Z.length:Int) then (api_Hall_set.j0 k (Z.set (γ.1:Int).toNat (⟨J,O,X⟩:S56))) else (none)) else (none)) else (api_Hall_set.j0 k Z))))=some r:=h
 clear h
 replace H:=Option.bind_eq_some_iff.mp H
 obtain⟨Z,ae,H⟩:=H
 replace H:((api_Hall_62.f k Z J O X I).bind fun γ=>(if γ.2=true then (if 0≤γ.1 then (if γ.1<(Z.length:Int) then (api_Hall_set.j0 k (Z.set (γ.1:Int).toNat (⟨J,O,X⟩:S56))) else (none)) else (none)) else (api_Hall_set.j0 k Z)))=some r:=H
 have A3:=Aside0.mk ae
 clear ae
 replace H:=Option.bind_eq_some_iff.mp H
 obtain⟨⟨ρ,a0⟩,cy,H⟩:=H
 replace H:(if a0=true then (if 0≤ρ then (if ρ<(Z.length:Int) then (api_Hall_set.j0 k (Z.set (ρ:Int).toNat (⟨J,O,X⟩:S56))) else (none)) else (none)) else (api_Hall_set.j0 k Z))=some r:=H
 have A4:=Aside0.mk cy
 clear cy
 have bc:=Aside0.mk H
 clear H
 go_enter Try.func47,Try.ntmps47
 go_upto_if 19 with(first|((with_reducible refine Qs (N:=2) rfl ?_);refine qE 2 #[.slice μ D.length Y,.func (.func 51) #[] #[]] 69 ?_;intro χ hg w6 hbox hb;have L:=Aside0.mk hbox;have br:=sGe hg;have b5:=sGe hg;replace HB:=sHb hb;clear hb hbox hg)|((with_reducible refine Qs (N:=3) rfl ?_);refine qE 3 #[.int .i64 J,.int .i64 O,.int .i64 X] 56 ?_;intro ι hg w7 hbox hb;have U:=Aside0.mk hbox;have bb:=sGe hg;have bz:=sGe hg;have κ :=sNl L hg;have a1:=sNg L hg;replace L:=sBk L hb;replace HB:=sHb hb;clear hb hbox hg;have di:= κ.out;have dj:=a1.out;obtain⟨bd,be,bf,bg⟩:=qD2 L.out)|((with_reducible refine Q0 (f:=55) rfl ?_);refine Zl (some 10) rfl rfl Try.func55 kr rfl #[.slice μ D.length Y] rfl qM ?_;(with_reducible refine(api_Hall_55.calls _ _ D Z _ ?side1 ?side2 A3.out).mono ?_);(case side1=>exact(Kd.Qx φ.out HB.out));(case side2=>exact ab.out);rintro e e4 ⟨cf,rfl,ψ,hb⟩;refine⟨_,rfl, ?_⟩;have B:=Aside0.mk (Kd.Q1 (Kd.Xo ψ (g:= ι) (o:=.cells #[.int .i64 J,.int .i64 O,.int .i64 X] 56 (0,0)) U.out) (Ql HB.out));replace L:=sBk L hb;replace U:=sBk U hb;replace HB:=sHb hb;(try clear hb);(try clear a4);(try clear hk);(try clear hi);(try clear ψ);obtain⟨b0,b1,av,b3,b4,aw⟩:=qD3 U.out;obtain⟨am,an,ao,ap⟩:=qD2 L.out;obtain⟨ax,au,b7⟩:=Kd.Q3 B.out;subst b7)|((with_reducible refine Q0 (f:=62) rfl ?_);refine Zl (some 16) rfl rfl Try.func62 kr rfl #[.slice ax Z.length au,.agg #[.int .i64 J,.int .i64 O,.int .i64 X],.func (.func 51) #[] #[]] rfl qM ?_;(with_reducible refine(api_Hall_62.calls k _ _ Z J O X I ρ a0 _ ?side1 ?side2 A4.out).mono ?_);(case side1=>exact(Kd.Qp B.out).2.2);(case side2=>exact(Kd.Qp B.out).2.1);rintro e f9 ⟨rfl,hb⟩;refine⟨_,rfl, ?_⟩;replace B:=sRb B hb;replace L:=sBk L hb;replace U:=sBk U hb;replace HB:=sHb hb;(try clear hb);(try clear a4);(try clear hk);(try clear hi)))
 (try simp only[Act.put,qS])
 go_cut [] (fun wc=>∃ (kq:Nat) (ac:List (S56)) (η :Int) (θ :Int) (ν :Int),Aside0 (api_Hall_set.j0 kq ac=some r)∧Aside0 (kq≤k)∧Aside0 (Kd.R k56 56 wc w.heap.size (fun k_=>k_ ≠ ι) (.slice ax Z.length au) ac)∧Aside0 (wc.heap[χ]?=some (.cells #[(.slice μ D.length Y),.func (.func 51) #[] #[]] 69 (0,0)))∧Aside0 (wc.heap[ι]?=some (.cells #[.int .i64 η,.int .i64 θ,.int .i64 ν] 56 (0,0)))∧Aside0 (Below w.heap.size w wc))
 case first=>
  have H:=bc.out
  clear bc
  by_cases ah:a0=true
  ·subst ah
   have H1:(if 0≤ρ then (if ρ<(Z.length:Int) then (api_Hall_set.j0 k (Z.set (ρ:Int).toNat (⟨J,O,X⟩:S56))) else (none)) else (none))=some r:=by rw[if_pos rfl] at H;exact H
   clear H
   have H:=H1
   clear H1
   by_cases a5:0≤ρ
   ·rw[if_pos a5] at H
    have c16b0:decide (0≤ρ)=true:=decide_eq_true a5
    clear a5
    (first|rw[c16b0]|(simp only[Xm,Ya];rw[c16b0])|skip)
    by_cases aa:ρ<(Z.length:Int)
    ·rw[if_pos aa] at H
     have c17b0:decide (ρ<(Z.length:Int))=true:=decide_eq_true aa
     clear aa
     obtain⟨ag,ζ⟩:∃ y_:List (S56),y_=(Z.set (ρ:Int).toNat (⟨J,O,X⟩:S56)):=⟨_,rfl⟩
     replace H:(api_Hall_set.j0 k ag)=some r:=by first|(rw[ζ];with_reducible exact H)|(have τ :=(Option.bind_some _ _).symm.trans H;rw[ζ];with_reducible exact τ)|(have τ :=(Option.bind_some _ _).symm.trans H;with_reducible exact τ)|with_reducible exact H|(rw[ζ];exact H)|exact H
     have ar:=Aside0.mk ζ
     clear ζ
     have H':=Aside0.mk H
     clear H
     have ca:=a1.out
     have cd:= κ.out
     obtain⟨bh,bi,b9,bn,bo,bk⟩:=qD3 U.out
     have ak:0≤(ρ:Int):=of_decide_eq_true (by assumption)
     have al:(ρ:Int)<((Z.length:Int):Int):=of_decide_eq_true (by assumption)
     obtain⟨δ,d2,bj,az,bl,dc,b6⟩:=Kd.Wj B.out (by omega)
     (first|cases bj|(injection bj with ea_ en_ ec_;(first|subst ea_|(injection ea_ with ea_;subst ea_));subst ec_;clear en_))
     have aj:=Aside0.mk az
     have dd:=Aside0.mk b6
     clear az bl b6
     obtain⟨df,ba,b8,a3,af⟩:=Kd.Ga B.out z56 (ρ:Int) ak al
     obtain rfl:=Y4 b8
     have bm:f9.cell? ⟨δ,(ρ:Int).toNat * 3,none⟩=some (.int .i64 ((Qg Z ρ).f0)):=a3 0 _ rfl
     have bw:f9.cell? ⟨δ,(ρ:Int).toNat * 3+1,none⟩=some (.int .i64 ((Qg Z ρ).f1)):=a3 1 _ rfl
     have cn:f9.cell? ⟨δ,(ρ:Int).toNat * 3+2,none⟩=some (.int .i64 ((Qg Z ρ).f2)):=a3 2 _ rfl
     have co:f9.frozen? ⟨δ,(ρ:Int).toNat * 3,none⟩=false:=af 0
     have cp:f9.frozen? ⟨δ,(ρ:Int).toNat * 3+1,none⟩=false:=af 1
     have dh:f9.frozen? ⟨δ,(ρ:Int).toNat * 3+2,none⟩=false:=af 2
     clear ba a3 af b8
     replace ak:=eq_true ak
     replace al:=eq_true al
     have n_:=Aside0.mk (Kd.Qq (ok':=(fun k_=>k_ ≠ ι)) B.out (fun k_ hk=>hk.2))
     clear B
     have B:=n_
     clear n_
     have bp:=Aside0.mk (show Kd.R k56 56 f9 w.heap.size (fun k_=>k_ ≠ ι) (.slice (some ⟨δ,0,none⟩) Z.length au) Z from B.out)
     obtain⟨cg,ay,bq,ε,ξ⟩:=Kd.Ga bp.out z56 (ρ:Int) (of_decide_eq_true (by assumption)) (by have h_:(ρ:Int)<((Z.length:Int):Int):=of_decide_eq_true (by assumption);first|exact h_|(have e_:=(Kd.Qp B.out).1;omega)|simpa using h_)
     obtain rfl:=Y4 bq
     have ai:=Kd.Mo bp.out (ρ:Int) (of_decide_eq_true (by assumption)) (by have h_:(ρ:Int)<((Z.length:Int):Int):=of_decide_eq_true (by assumption);first|exact h_|(have e_:=(Kd.Qp B.out).1;omega)|simpa using h_) (seg:=[.int .i64 J,.int .i64 O,.int .i64 X]) (j:=0) ay ε (show 3≤3 from by decide) (x':=(⟨J,O,X⟩:S56)) (Yu _ _ _ (⟨J,O,X⟩:S56)) (fun _ hk=>hk)
     have a7:= ε 0 _ rfl
     (try simp only[show(k56).sz=3 from rfl,Nat.mul_one,Nat.add_zero] at a7)
     have bs:= ξ 0
     (try simp only[show(k56).sz=3 from rfl,Nat.mul_one,Nat.add_zero] at bs)
     have a8:= ε 1 _ rfl
     (try simp only[show(k56).sz=3 from rfl,Nat.mul_one,Nat.add_zero] at a8)
     have bu:= ξ 1
     (try simp only[show(k56).sz=3 from rfl,Nat.mul_one,Nat.add_zero] at bu)
     have a9:= ε 2 _ rfl
     (try simp only[show(k56).sz=3 from rfl,Nat.mul_one,Nat.add_zero] at a9)
     have ce:= ξ 2
     (try simp only[show(k56).sz=3 from rfl,Nat.mul_one,Nat.add_zero] at ce)
     clear ay ε ξ bq
     go_wp2_with (first|((with_reducible refine Kg (t:=56) (p:=23) rfl ?_);refine Jw (t:=56) (p:=23) (v:=?vo_w22) (w1:=(((f9.setCell ⟨δ,(ρ:Int).toNat * 3,none⟩ (.int .i64 J)).setCell ⟨δ,(ρ:Int).toNat * 3+1,none⟩ (.int .i64 O)).setCell ⟨δ,(ρ:Int).toNat * 3+2,none⟩ (.int .i64 X))) ?hg ?ho ?hn ?hr ?_;(case ho=>rfl);(case hg=>rfl);(case hn=>rfl);(case hr=>go_simp <;> rfl);intro fc hw;have hg:f9.grownBy fc (some δ):=(by rw[hw];exact ai.2);have hp_:Kd.R k56 56 fc w.heap.size (fun k_=>k_ ≠ ι) (.slice (some ⟨δ,0,none⟩) Z.length au) ag:=(by rw[hw,ar.out];exact ai.1);clear ai;replace L:=Aside0.mk (Q4 (g:= χ) (o:=.cells #[.slice μ D.length Y,.func (.func 51) #[] #[]] 69 (0,0)) L.out hg (Kd.Z4 B.out L.out (by decide)));replace U:=Aside0.mk (Q4 (g:= ι) (o:=.cells #[.int .i64 J,.int .i64 O,.int .i64 X] 56 (0,0)) U.out hg (Kd.G6 B.out (fun _ hk=>hk)));replace B:=Aside0.mk hp_;replace HB:=Aside0.mk ((by rw[hw];exact Qd (Qd (Qd (HB.out) aj.out) aj.out) aj.out:Below w.heap.size w fc));clear hg hw hp_))
     go_meet
     case rel=>exact⟨_,(ag),(J),(O),(X),H',⟨by first|omega|exact Nat.le_refl _⟩,⟨by(with_reducible repeat first|apply Kd.Qk|apply Kd.Qj|apply Kd.Qm);exact B.out⟩,L,U,HB⟩
    ·rw[if_neg aa] at H
     exact absurd H (by simp)
   ·rw[if_neg a5] at H
    exact absurd H (by simp)
  ·replace ah:=Bool.eq_false_iff.mpr ah
   subst ah
   have H1:(api_Hall_set.j0 k Z)=some r:=by rw[if_neg (show ¬ (false=true) by decide)] at H;exact H
   clear H
   have H:=H1
   clear H1
   have H':=Aside0.mk H
   clear H
   go_wp2
   go_meet
   case rel=>exact⟨_,(Z),(J),(O),(X),H',⟨by first|omega|exact Nat.le_refl _⟩,⟨by(with_reducible repeat first|apply Kd.Qk|apply Kd.Qj|apply Kd.Qm);exact Kd.Qq B.out (fun _ hk=>hk.2)⟩,L,U,HB⟩
 case rest=>
  clear bc
  try clear c1
  try clear p1
  try clear q1
  try clear bv
  try clear c2
  try clear p2
  try clear ej
  try clear ck
  try clear c4
  try clear c5
  try clear c6
  try clear c8
  try clear ah
  try clear a5
  try clear c16b0
  try clear aa
  try clear c17b0
  try clear da
  try clear ak
  try clear al
  try clear ch
  try clear ci
  try clear gm
  try clear fj
  try clear e7
  try clear cj
  try clear b0
  try clear b1
  try clear av
  try clear am
  try clear an
  try clear bh
  try clear bi
  try clear b9
  try clear bd
  try clear be
  try clear b3
  try clear b4
  try clear aw
  try clear ao
  try clear ap
  try clear bn
  try clear bo
  try clear bk
  try clear bf
  try clear bg
  try clear bm
  try clear bw
  try clear cn
  try clear a7
  try clear a8
  try clear a9
  try clear ak
  try clear al
  obtain⟨kq,ac,η,θ,ν,HA,cm,HO_5,L,U,HB⟩:=hcut
  have σ:=(Kd.Qp HO_5.out).1
  rw[σ] at HO_5
  (try simp only[σ])
  (try simp only[σ] at L)
  (try simp only[σ] at U)
  cases kq with
  |zero=>exact absurd HA.out (by simp[api_Hall_set.j0])
  |succ cq=>
   have H:=HA.out
   clear HA
   simp only[api_Hall_set.j0] at H
   obtain rfl:=Option.some.inj H
   go_wp2
   go_ret
   exact⟨_,rfl,by(with_reducible repeat first|apply Kd.Qk|apply Kd.Qj|apply Kd.Qm);exact Kd.Qq HO_5.out (fun _ hk=>trivial),HB.out⟩
end Go.Proofs.Ytjehhhlhalkieaa.C
namespace Go.Proofs.Ytjehhhlhalkieaa.C
open Go.RowKit Go.Proofs.YtjehhhlhalkieaaW.PrintWords Go.Proofs.YtjehhhlhalkieaaW.PrintLast Go.Proofs.YtjehhhlhalkieaaW.PrintMore
set_option linter.unusedVariables false
def hallP.f (I D U F C:Int):Option Bool:=some (Xy F C I D U)
def insP.f (I D F C:Int):Option Bool:=some (X1 F C I D)
def woP_H.f (I D U:Int) (l:List S56):Option (List S56):=if small l.length D=true then some (woH I D U l) else none
def woP_I.f (I D:Int) (l:List S62):Option (List S62):=if small l.length D=true then some (woI I D l) else none
def V9 (x:S56) (l:List S56):List S56:=l.map (fun y=>if y.f0=x.f0∧y.f1=x.f1 then x else y)
def setP_H.f (I D U:Int) (l:List S56):Option (List S56):=if small l.length D=true∧Call.Zo (fun _=>true) Call.ltH none l=true then some (V9 ⟨I,D,U⟩ l) else none
theorem Jv (Y:Option Addr) (c:Nat) (l:List S56) (I D U:Int) (t:List S56) (W:World) (hr:Kd.C k56 W Y l.length l) (hc:l.length≤c) (h:woP_H.f I D U l=some t):
    Calls Try.prog 31 #[.agg #[.slice Y l.length c,.func (.func 51) #[] #[]],.agg #[.int .i64 I,.int .i64 D,.int .i64 U]] W fun e w'=>∃ a6:Value,e = .returned a6∧Kd.R k56 56 w' W.heap.size (fun _=>True) a6 t∧Below W.heap.size W w':=by
  unfold woP_H.f at h
  split at h
  case isFalse=>cases h
  case isTrue hs=>
  cases h
  obtain⟨hl,hb⟩:=of_decide_eq_true hs
  exact Vp Y c l I D U W hr hc hl hb
theorem Ja (Y:Option Addr) (c:Nat) (l:List S62) (I D:Int) (t:List S62) (W:World) (hr:Kd.C k62 W Y l.length l) (hc:l.length≤c) (h:woP_I.f I D l=some t):
    Calls Try.prog 36 #[.agg #[.slice Y l.length c,.func (.func 57) #[] #[]],.agg #[.int .i64 I,.int .i64 D]] W fun e w'=>∃ a6:Value,e = .returned a6∧Kd.R k62 62 w' W.heap.size (fun _=>True) a6 t∧Below W.heap.size W w':=by
  unfold woP_I.f at h
  split at h
  case isFalse=>cases h
  case isTrue hs=>
  cases h
  obtain⟨hl,hb⟩:=of_decide_eq_true hs
  exact Vo Y c l I D W hr hc hl hb
theorem V7 (x:S56) (l:List S56):(V9 x l).length=l.length:=by unfold V9;simp
theorem V8 (x:S56) (l:List S56) (m:Nat) (h:m<l.length) (L:m<(V9 x l).length):(V9 x l)[m]=if l[m].f0=x.f0∧l[m].f1=x.f1 then x else l[m]:=by
  simp only[V9,List.getElem_map]
theorem Ww (l:List S56) (x:S56) (p:Nat) (hs:l.Pairwise (fun x y=>Call.ltH x y=true)) (hp:Call.G8 l x.f0 x.f1 p):
    Call.K7 l x.f0 x.f1 p=true→l.set p x=V9 x l:=by
  intro h
  unfold Call.K7 at h
  obtain⟨h1,L,J⟩:=hp
  rcases Nat.lt_or_ge p l.length with hlt|hge
  case inr=>rw[List.getElem?_eq_none hge] at h;simp at h
  rw[List.getElem?_eq_getElem hlt] at h
  have he:Z7 l[p].f0 l[p].f1 x.f0 x.f1=0:=by simpa using h
  rw[Call.Yi] at he
  apply List.ext_getElem
  · rw[V7];simp
  intro m B D
  rw[List.length_set] at B
  rw[List.getElem_set,V8 x l m B D]
  by_cases hm:p=m
  · subst hm
    rw[if_pos rfl,if_pos he]
  · rw[if_neg hm,if_neg]
    intro hq
    rcases Nat.lt_or_ge m p with O|I
    · have:=List.pairwise_iff_getElem.1 hs m p B hlt O
      rw[Call.Y2] at this
      omega
    · have:=List.pairwise_iff_getElem.1 hs p m hlt B (by omega)
      rw[Call.Y2] at this
      omega
theorem Lw (l:List S56) (x:S56) (p:Nat) (hs:l.Pairwise (fun x y=>Call.ltH x y=true)) (hp:Call.G8 l x.f0 x.f1 p):
    Call.K7 l x.f0 x.f1 p=false→l=V9 x l:=by
  intro h
  unfold Call.K7 at h
  obtain⟨h1,L,J⟩:=hp
  have key:∀ m:Nat,(hm:m<l.length) → ¬ (l[m].f0=x.f0∧l[m].f1=x.f1):=by
    intro m hm hq
    rw[← Call.Yi] at hq
    rcases Nat.lt_or_ge m p with hlt|hge
    · have:=L l[m] (List.mem_iff_getElem.2 ⟨m,by rw[List.length_take];omega,by rw[List.getElem_take]⟩)
      omega
    · rcases Nat.lt_or_ge p m with O|I
      · have g1:=List.pairwise_iff_getElem.1 hs p m (by omega) hm O
        have g2:=J l[p] (List.mem_iff_getElem.2 ⟨0,by rw[List.length_drop];omega,by rw[List.getElem_drop];simp⟩)
        rw[Call.Y2] at g1
        rw[Call.Yi] at hq
        rw[Call.X5] at g2
        omega
      · have hpm:p=m:=by omega
        subst hpm
        rw[List.getElem?_eq_getElem hm] at h
        simp[hq] at h
  apply List.ext_getElem
  · rw[V7]
  intro m B D
  rw[V8 x l m B D,if_neg (key m B)]
theorem Vr (Y:Option Addr) (c:Nat) (l:List S56) (I D U:Int) (t:List S56) (W:World) (hr:Kd.C k56 W Y l.length l) (hc:l.length≤c) (h:setP_H.f I D U l=some t):
    Calls Try.prog 47 #[.agg #[.slice Y l.length c,.func (.func 51) #[] #[]],.agg #[.int .i64 I,.int .i64 D,.int .i64 U]] W fun e w'=>∃ a6:Value,e = .returned a6∧Kd.R k56 56 w' W.heap.size (fun _=>True) a6 t∧Below W.heap.size W w':=by
  unfold setP_H.f at h
  split at h
  case isFalse=>cases h
  case isTrue hs=>
  cases h
  obtain⟨hl,hb⟩:=of_decide_eq_true hs.1
  have hso:=((Call.Jx (fun _=>true) l).1 hs.2).2
  refine api_Hall_set.calls (l.length+2) Y c l 0 I D U _ W hr hc ?_
  unfold api_Hall_set.f api_Hall_55.f
  rw[if_pos hl]
  simp only[Option.bind_some]
  obtain⟨p,hp,e⟩:=Call.Gu l I D U 0 (by omega) hso (l.length+2) (by omega)
  obtain⟨b,hm⟩:∃ b,Call.K7 l I D p=b:=⟨_,rfl⟩
  rw[hm] at e
  rw[e]
  simp only[Option.bind_some]
  cases b
  · rw[if_neg (by decide)]
    simp only[api_Hall_set.j0]
    congr 1
    exact Lw l ⟨I,D,U⟩ p hso hp hm
  · have hlt:p<l.length:=by
      rcases Nat.lt_or_ge p l.length with h|h
      · exact h
      · unfold Call.K7 at hm;rw[List.getElem?_eq_none h] at hm;simp at hm
    rw[if_pos rfl,if_pos (by omega),if_pos (by omega)]
    simp only[api_Hall_set.j0,Int.toNat_natCast]
    congr 1
    exact Ww l ⟨I,D,U⟩ p hso hp hm
end Go.Proofs.Ytjehhhlhalkieaa.C
namespace Go.Proofs.Ytjehhhlhalkieaa.C
open Go.RowKit Go.Proofs.YtjehhhlhalkieaaW.PrintWords Go.Proofs.YtjehhhlhalkieaaW.PrintLast Go.Proofs.YtjehhhlhalkieaaW.PrintMore
attribute [local go_sem] Z3 Z1 Xb Xa Zt Zs Z2 Z0
set_option linter.unusedVariables false
set_option linter.unusedSimpArgs false
def call_Check.j0:Nat→Bool→Option (Int)
 |0,_=>none
 |k+1,I=>if I=true then (some 190) else (some 0)
def call_Check.f (k:Nat) (D:Int) (I:Int) (B:List (S56)) (J:List (S62)):Option (Int):=(call_within.f D 2 64).bind fun Z=>(if Z=true then ((call_within.f I 1 8).bind fun Y=>(if Y=true then ((rightP_H.f B J D I).bind fun O=>(if O=true then ((rightP_I.f B J D I).bind fun ρ=>(call_Check.j0 k (!ρ))) else (call_Check.j0 k true))) else (call_Check.j0 k true))) else (call_Check.j0 k true))
theorem call_Check.Zk:∀ k,(∀ J,LeO (call_Check.j0 k J) (call_Check.j0 (k+1) J))
 |0=>fun _ r h=>by simp[call_Check.j0] at h
 |k+1=>by
  have B:=call_Check.Zk k
  ·intro J
   unfold call_Check.j0
   repeat' first
   |(with_reducible exact B _)
   |(with_reducible exact LeO.refl _)
   |(with_reducible exact LeO.none _)
   |(with_reducible refine LeO.ite ?_ ?_)
   |(with_reducible refine LeO.bind ?_ (fun _=>?_))
   |exact B _
   |exact LeO.none _
   |refine LeO.ite ?_ ?_
   |refine LeO.bind ?_ (fun _=>?_)
theorem call_Check.mono:∀ D J a2 X k,LeO (call_Check.f k D J a2 X) (call_Check.f (k+1) D J a2 X):=by
 intro D J a2 X k
 have B:=call_Check.Zk k
 unfold call_Check.f
 repeat' first
   |(with_reducible exact B _)
   |(with_reducible exact LeO.refl _)
   |(with_reducible exact LeO.none _)
   |(with_reducible refine LeO.ite ?_ ?_)
   |(with_reducible refine LeO.bind ?_ (fun _=>?_))
   |exact B _
   |exact LeO.none _
   |refine LeO.ite ?_ ?_
   |refine LeO.bind ?_ (fun _=>?_)
def call_Check.T1:Bool×List (List Nat×List Nat):=(true,[([],[]),([0],[0]),([1],[1]),([2],[2]),([3,2],[3]),([4],[4]),([5,4],[4,5]),([6,4,4],[4,6]),([7,4],[4,7]),([4,8],[4,8]),([9,7],[9]),([10],[10]),([11,10,10],[10,11]),([10],[10]),([13,12,10],[10,13]),([12,14,14,10],[10,12,14]),([15,10],[10,15]),([10,16],[10,16]),([17,15],[17]),([18],[18]),([19,18,18],[18,19]),([18],[18]),([21,20,18],[18,21]),([20,22,22,18],[18,20,22]),([23,18],[18,23]),([18,24],[18,24])])
def call_Check.B1:List Nat:=[0,1,3,7,15,31,63,127,255,511,1023,2047,4095,2047,16383,32767,65535,131071,262143,524287,1048575,524287,4194303,8388607,16777215,33554431]
theorem call_Check.Gk:rtab .any (opsOf Try.f14 1)=call_Check.T1:=by kernel_rfl
theorem call_Check.Ju:Zp call_Check.T1.2 call_Check.B1=true:=by kernel_rfl
set_option maxHeartbeats 8000000 in
set_option maxRecDepth 100000 in
theorem call_Check.calls (k:Nat) (D:Int) (I:Int) (ζ :Option Addr) (γ:Nat) (B:List (S56)) (η :Option Addr) (δ :Nat) (J:List (S62)) (r:Int) (w:World) (bj:Kd.C k56 w ζ B.length B) (bk:B.length≤γ) (bl:Kd.C k62 w η J.length J) (bm:J.length ≤ δ) (h:call_Check.f k D I B J=some r):
  Calls Try.prog 14 #[.agg #[.int .i64 D,.int .i64 I],.agg #[.slice ζ B.length γ,.slice η J.length δ]] w fun e w'=>e = .returned (.int .i64 r)∧Below w.heap.size w w':=by
 have et:=Try.underlying23
 have eh:=Try.underlying27
 have ai:=Aside0.mk bj
 have ay:=Aside0.mk bk
 clear bj bk
 have ak:=Aside0.mk bl
 have az:=Aside0.mk bm
 clear bl bm
 have HB:=Aside0.mk (Below.refl w.heap.size w)
 have H:((call_within.f D 2 64).bind fun Z=>(if Z=true then ((call_within.f I 1 8).bind fun Y=>(if Y=true then ((rightP_H.f B J D I).bind fun O=>(if O=true then ((rightP_I.f B J D I).bind fun ρ=>(call_Check.j0 k (!ρ))) else (call_Check.j0 k true))) else (call_Check.j0 k true))) else (call_Check.j0 k true)))=some r:=h
 clear h
 have a6:=Aside0.mk H
 clear H
 go_enter Try.func14,Try.ntmps14
 go_upto_region 1 with(first|((with_reducible refine Qs (N:=2) rfl ?_);refine qE 2 #[.int .i64 D,.int .i64 I] 23 ?_;intro χ hg w4 hbox hb;have L:=Aside0.mk hbox;have br:=sGe hg;have b5:=sGe hg;replace HB:=sHb hb;clear hb hbox hg)|((with_reducible refine Qs (N:=3) rfl ?_);refine qE 3 #[.slice ζ B.length γ,.slice η J.length δ] 27 ?_;intro ι hg w5 hbox hb;have U:=Aside0.mk hbox;have bb:=sGe hg;have bz:=sGe hg;have κ :=sNl L hg;have a1:=sNg L hg;replace L:=sBk L hb;replace HB:=sHb hb;clear hb hbox hg))
 (try simp only[Act.put,qS])
 go_cut [30] (fun ξ wc=>∃ (kq:Nat) (X:Bool),ξ = .bool X∧Aside0 (call_Check.j0 kq X=some r)∧Aside0 (kq≤k)∧Aside0 (wc.heap[χ]?=some (.cells #[.int .i64 D,.int .i64 I] 23 (0,0)))∧Aside0 (wc.heap[ι]?=some (.cells #[(.slice ζ B.length γ),(.slice η J.length δ)] 27 (0,0)))∧Aside0 (Below w.heap.size w wc))
 case first=>
  have H:=a6.out
  clear a6
  replace H:=Option.bind_eq_some_iff.mp H
  obtain⟨Z,ei,H⟩:=H
  replace H:(if Z=true then ((call_within.f I 1 8).bind fun Y=>(if Y=true then ((rightP_H.f B J D I).bind fun O=>(if O=true then ((rightP_I.f B J D I).bind fun ρ=>(call_Check.j0 k (!ρ))) else (call_Check.j0 k true))) else (call_Check.j0 k true))) else (call_Check.j0 k true))=some r:=H
  have A6:=Aside0.mk ei
  clear ei
  by_cases c7:Z=true
  ·subst c7
   have H1:((call_within.f I 1 8).bind fun Y=>(if Y=true then ((rightP_H.f B J D I).bind fun O=>(if O=true then ((rightP_I.f B J D I).bind fun ρ=>(call_Check.j0 k (!ρ))) else (call_Check.j0 k true))) else (call_Check.j0 k true)))=some r:=by rw[if_pos rfl] at H;exact H
   clear H
   have H:=H1
   clear H1
   replace H:=Option.bind_eq_some_iff.mp H
   obtain⟨Y,g2,H⟩:=H
   replace H:(if Y=true then ((rightP_H.f B J D I).bind fun O=>(if O=true then ((rightP_I.f B J D I).bind fun ρ=>(call_Check.j0 k (!ρ))) else (call_Check.j0 k true))) else (call_Check.j0 k true))=some r:=H
   have A8:=Aside0.mk g2
   clear g2
   by_cases c9:Y=true
   ·subst c9
    have H1:((rightP_H.f B J D I).bind fun O=>(if O=true then ((rightP_I.f B J D I).bind fun ρ=>(call_Check.j0 k (!ρ))) else (call_Check.j0 k true)))=some r:=by rw[if_pos rfl] at H;exact H
    clear H
    have H:=H1
    clear H1
    replace H:=Option.bind_eq_some_iff.mp H
    obtain⟨O,im,H⟩:=H
    replace H:(if O=true then ((rightP_I.f B J D I).bind fun ρ=>(call_Check.j0 k (!ρ))) else (call_Check.j0 k true))=some r:=H
    have i4:=Aside0.mk im
    clear im
    by_cases ca:O=true
    ·subst ca
     have H1:((rightP_I.f B J D I).bind fun ρ=>(call_Check.j0 k (!ρ)))=some r:=by rw[if_pos rfl] at H;exact H
     clear H
     have H:=H1
     clear H1
     replace H:=Option.bind_eq_some_iff.mp H
     obtain⟨ρ,bf,H⟩:=H
     replace H:(call_Check.j0 k (!ρ))=some r:=H
     have bg:=Aside0.mk bf
     clear bf
     have H':=Aside0.mk H
     clear H
     try go_wp2
     replace L:=Aside0.mk (Qa L.out)
     replace U:=Aside0.mk (Qa U.out)
     replace HB:=Aside0.mk (Qf HB.out)
     refine Zm (n:=26) (S:=fun w'=>w'.cell? ⟨χ,0,none⟩=some (.int .i64 D)∧w'.cell? ⟨χ,1,none⟩=some (.int .i64 I)∧w'.cell? ⟨ι,0,none⟩=some (.slice ζ B.length γ)∧w'.cell? ⟨ι,1,none⟩=some (.slice η J.length δ)) (ds:=[]) #[false,false,false,false,false,false,false,false,false,false,false,false,false,false,false,false,false,false,false,false,false,false,false,false,false,false] kr rfl rfl ⟨(Qi L.out 0).trans rfl,(Qi L.out 1).trans rfl,(Qi U.out 0).trans rfl,(Qi U.out 1).trans rfl⟩ (fun hHeld=>?_);refine Q7 call_Check.Gk call_Check.Ju (fun HT_ HW_=>?_)
     generalize w5.drew=fa at L U HB hHeld ⊢
     refine qP 0 (some 5) (bN 26 1) HT_ ?_
     refine qT 1 (some 6) (bN 26 3) HT_ HW_ hHeld ?_
     refine Zi (i:=2) (N:=some 7) (bN 26 7) rfl rfl (Q2 HT_.out kr) (by decide) (fun K hK=>?_)
     refine Zh Try.func41 kr rfl #[.int .i64 D,.int .i64 2,.int .i64 64] (by rfl) rfl rfl qM ?_
     with_reducible refine(call_within.calls D 2 64 true _ A6.out).mono ?_
     rintro e w' ⟨rfl,⟨nd,rfl⟩⟩
     refine⟨_,rfl, ?_⟩
     refine hK.out _ _ ⟨qc L,qc L,qc U,qc U⟩ (fun hHeld=>?_)
     clear hK K
     refine qN (some 7) ?_
     refine qP 3 (some 8) (bN 26 15) HT_ ?_
     refine qP 4 (some 9) (bN 26 31) HT_ ?_
     refine qP 5 (some 10) (bN 26 63) HT_ ?_
     refine qT 6 (some 11) (bN 26 127) HT_ HW_ hHeld ?_
     refine Zi (i:=7) (N:=some 12) (bN 26 255) rfl rfl (Q2 HT_.out kr) (by decide) (fun K hK=>?_)
     refine Zh Try.func41 kr rfl #[.int .i64 I,.int .i64 1,.int .i64 8] (by rfl) rfl rfl qM ?_
     with_reducible refine(call_within.calls I 1 8 true _ A8.out).mono ?_
     rintro e w' ⟨rfl,⟨nd,rfl⟩⟩
     refine⟨_,rfl, ?_⟩
     refine hK.out _ _ ⟨qc L,qc L,qc U,qc U⟩ (fun hHeld=>?_)
     clear hK K
     refine qN (some 12) ?_
     refine qP 8 (some 13) (bN 26 511) HT_ ?_
     refine qP 9 (some 14) (bN 26 1023) HT_ ?_
     refine qP 10 (some 15) (bN 26 2047) HT_ ?_
     refine qT 11 (some 16) (bN 26 4095) HT_ HW_ hHeld ?_
     refine qT 13 (some 18) (bN 26 12287) HT_ HW_ hHeld ?_
     refine Zi (i:=12) (N:=some 17) (bN 26 16383) rfl rfl (Q2 HT_.out kr) (by decide) (fun K hK=>?_)
     refine Zh Try.func30 kr rfl #[.agg #[.slice ζ B.length γ,.slice η J.length δ]] (by rfl) rfl rfl qM ?_
     refine(Yd ζ η B.length J.length γ δ _).mono ?_
     rintro e en ⟨rfl,hb⟩
     refine⟨_,rfl, ?_⟩
     replace L:=sBk L hb
     replace U:=sBk U hb
     replace HB:=sHb hb
     (try clear hb)
     (try clear a4)
     (try clear hk)
     (try clear hi)
     refine hK.out _ _ ⟨qc L,qc L,qc U,qc U⟩ (fun hHeld=>?_)
     clear hK K
     refine qN (some 17) ?_
     refine Zi (i:=14) (N:=some 19) (bN 26 32767) rfl rfl (Q2 HT_.out kr) (by decide) (fun K hK=>?_)
     refine Zh Try.func34 kr rfl #[.agg #[.int .i64 D,.int .i64 I]] (by rfl) rfl rfl qM ?_
     refine(Je D I _).mono ?_
     rintro e eo ⟨ε,rfl,hgp,hgw,hb⟩
     have μ :=Aside0.mk hgp
     clear hgp hgw
     refine⟨_,rfl, ?_⟩
     replace L:=sBk L hb
     replace U:=sBk U hb
     replace HB:=sHb hb
     (try clear hb)
     (try clear a4)
     (try clear hk)
     (try clear hi)
     refine hK.out _ _ ⟨qc L,qc L,qc U,qc U⟩ (fun hHeld=>?_)
     clear hK K
     refine qN (some 19) ?_
     refine Zi (i:=15) (N:=some 20) (bN 26 65535) rfl rfl (Q2 HT_.out kr) (by decide) (fun K hK=>?_)
     refine Zh Try.func42 kr rfl #[.agg #[.slice ζ B.length γ,.func (.func 51) #[] #[]],.func (.func 61) #[] #[.pointer (some ⟨ε,0,none⟩)]] (by rfl) rfl rfl qM ?_
     with_reducible refine(rightP_H.calls ζ γ B η δ J D I true _ ?side1 ?side2 ?side3 ?side4 i4.out ε μ.out).mono ?_
     (case side1=>exact(Kd.Qx ai.out HB.out))
     (case side2=>exact ay.out)
     (case side3=>exact(Kd.Qx ak.out HB.out))
     (case side4=>exact az.out)
     rintro e f9 ⟨rfl,hb⟩
     refine⟨_,rfl, ?_⟩
     replace L:=sBk L hb
     replace U:=sBk U hb
     replace HB:=sHb hb
     (try clear hb)
     (try clear a4)
     (try clear hk)
     (try clear hi)
     refine hK.out _ _ ⟨qc L,qc L,qc U,qc U⟩ (fun hHeld=>?_)
     clear hK K
     refine qN (some 20) ?_
     refine qP 16 (some 21) (bN 26 131071) HT_ ?_
     refine qP 17 (some 22) (bN 26 262143) HT_ ?_
     refine qP 18 (some 23) (bN 26 524287) HT_ ?_
     refine qT 19 (some 24) (bN 26 1048575) HT_ HW_ hHeld ?_
     refine qT 21 (some 26) (bN 26 3145727) HT_ HW_ hHeld ?_
     refine Zi (i:=20) (N:=some 25) (bN 26 4194303) rfl rfl (Q2 HT_.out kr) (by decide) (fun K hK=>?_)
     refine Zh Try.func32 kr rfl #[.agg #[.slice ζ B.length γ,.slice η J.length δ]] (by rfl) rfl rfl qM ?_
     refine(Yr ζ η B.length J.length γ δ _).mono ?_
     rintro e ep ⟨rfl,hb⟩
     refine⟨_,rfl, ?_⟩
     replace L:=sBk L hb
     replace U:=sBk U hb
     replace HB:=sHb hb
     (try clear hb)
     (try clear a4)
     (try clear hk)
     (try clear hi)
     refine hK.out _ _ ⟨qc L,qc L,qc U,qc U⟩ (fun hHeld=>?_)
     clear hK K
     refine qN (some 25) ?_
     refine Zi (i:=22) (N:=some 27) (bN 26 8388607) rfl rfl (Q2 HT_.out kr) (by decide) (fun K hK=>?_)
     refine Zh Try.func29 kr rfl #[.agg #[.int .i64 D,.int .i64 I]] (by rfl) rfl rfl qM ?_
     refine(Jd D I _).mono ?_
     rintro e gf ⟨bc,rfl,hgp,hgw,hb⟩
     have bq:=Aside0.mk hgp
     clear hgp hgw
     refine⟨_,rfl, ?_⟩
     replace L:=sBk L hb
     replace U:=sBk U hb
     replace HB:=sHb hb
     (try clear hb)
     (try clear a4)
     (try clear hk)
     (try clear hi)
     refine hK.out _ _ ⟨qc L,qc L,qc U,qc U⟩ (fun hHeld=>?_)
     clear hK K
     refine qN (some 27) ?_
     refine Zi (i:=23) (N:=some 28) (bN 26 16777215) rfl rfl (Q2 HT_.out kr) (by decide) (fun K hK=>?_)
     refine Zh Try.func43 kr rfl #[.agg #[.slice η J.length δ,.func (.func 57) #[] #[]],.func (.func 50) #[] #[.pointer (some ⟨bc,0,none⟩)]] (by rfl) rfl rfl qM ?_
     with_reducible refine(rightP_I.calls ζ γ B η δ J D I ρ _ ?side1 ?side2 ?side3 ?side4 bg.out bc bq.out).mono ?_
     (case side1=>exact(Kd.Qx ai.out HB.out))
     (case side2=>exact ay.out)
     (case side3=>exact(Kd.Qx ak.out HB.out))
     (case side4=>exact az.out)
     rintro e jc ⟨rfl,hb⟩
     refine⟨_,rfl, ?_⟩
     replace L:=sBk L hb
     replace U:=sBk U hb
     replace HB:=sHb hb
     (try clear hb)
     (try clear a4)
     (try clear hk)
     (try clear hi)
     refine hK.out _ _ ⟨qc L,qc L,qc U,qc U⟩ (fun hHeld=>?_)
     clear hK K
     refine qN (some 28) ?_
     refine qP 24 (some 29) (bN 26 33554431) HT_ ?_
     refine qP 25 (some 30) (bN 26 67108863) HT_ ?_
     refine Zr (Ze HT_.out kr) ?_
     try go_wp2
     go_meet
     case rel=>exact⟨_,(!ρ),rfl,H',⟨by first|omega|exact Nat.le_refl _⟩,L,U,HB⟩
    ·replace ca:=Bool.eq_false_iff.mpr ca
     subst ca
     have H1:(call_Check.j0 k true)=some r:=by rw[if_neg (show ¬ (false=true) by decide)] at H;exact H
     clear H
     have H:=H1
     clear H1
     have H':=Aside0.mk H
     clear H
     try go_wp2
     replace L:=Aside0.mk (Qa L.out)
     replace U:=Aside0.mk (Qa U.out)
     replace HB:=Aside0.mk (Qf HB.out)
     refine Zm (n:=26) (S:=fun w'=>w'.cell? ⟨χ,0,none⟩=some (.int .i64 D)∧w'.cell? ⟨χ,1,none⟩=some (.int .i64 I)∧w'.cell? ⟨ι,0,none⟩=some (.slice ζ B.length γ)∧w'.cell? ⟨ι,1,none⟩=some (.slice η J.length δ)) (ds:=[]) #[false,false,false,false,false,false,false,false,false,false,false,false,false,false,false,false,false,false,false,false,false,false,false,false,false,false] kr rfl rfl ⟨(Qi L.out 0).trans rfl,(Qi L.out 1).trans rfl,(Qi U.out 0).trans rfl,(Qi U.out 1).trans rfl⟩ (fun hHeld=>?_);refine Q7 call_Check.Gk call_Check.Ju (fun HT_ HW_=>?_)
     generalize w5.drew=b1 at L U HB hHeld ⊢
     refine qP 0 (some 5) (bN 26 1) HT_ ?_
     refine qT 1 (some 6) (bN 26 3) HT_ HW_ hHeld ?_
     refine Zi (i:=2) (N:=some 7) (bN 26 7) rfl rfl (Q2 HT_.out kr) (by decide) (fun K hK=>?_)
     refine Zh Try.func41 kr rfl #[.int .i64 D,.int .i64 2,.int .i64 64] (by rfl) rfl rfl qM ?_
     with_reducible refine(call_within.calls D 2 64 true _ A6.out).mono ?_
     rintro e w' ⟨rfl,⟨nd,rfl⟩⟩
     refine⟨_,rfl, ?_⟩
     refine hK.out _ _ ⟨qc L,qc L,qc U,qc U⟩ (fun hHeld=>?_)
     clear hK K
     refine qN (some 7) ?_
     refine qP 3 (some 8) (bN 26 15) HT_ ?_
     refine qP 4 (some 9) (bN 26 31) HT_ ?_
     refine qP 5 (some 10) (bN 26 63) HT_ ?_
     refine qT 6 (some 11) (bN 26 127) HT_ HW_ hHeld ?_
     refine Zi (i:=7) (N:=some 12) (bN 26 255) rfl rfl (Q2 HT_.out kr) (by decide) (fun K hK=>?_)
     refine Zh Try.func41 kr rfl #[.int .i64 I,.int .i64 1,.int .i64 8] (by rfl) rfl rfl qM ?_
     with_reducible refine(call_within.calls I 1 8 true _ A8.out).mono ?_
     rintro e w' ⟨rfl,⟨nd,rfl⟩⟩
     refine⟨_,rfl, ?_⟩
     refine hK.out _ _ ⟨qc L,qc L,qc U,qc U⟩ (fun hHeld=>?_)
     clear hK K
     refine qN (some 12) ?_
     refine qP 8 (some 13) (bN 26 511) HT_ ?_
     refine qP 9 (some 14) (bN 26 1023) HT_ ?_
     refine qP 10 (some 15) (bN 26 2047) HT_ ?_
     refine qT 11 (some 16) (bN 26 4095) HT_ HW_ hHeld ?_
     refine qT 13 (some 18) (bN 26 12287) HT_ HW_ hHeld ?_
     refine Zi (i:=12) (N:=some 17) (bN 26 16383) rfl rfl (Q2 HT_.out kr) (by decide) (fun K hK=>?_)
     refine Zh Try.func30 kr rfl #[.agg #[.slice ζ B.length γ,.slice η J.length δ]] (by rfl) rfl rfl qM ?_
     refine(Yd ζ η B.length J.length γ δ _).mono ?_
     rintro e gg ⟨rfl,hb⟩
     refine⟨_,rfl, ?_⟩
     replace L:=sBk L hb
     replace U:=sBk U hb
     replace HB:=sHb hb
     (try clear hb)
     (try clear a4)
     (try clear hk)
     (try clear hi)
     refine hK.out _ _ ⟨qc L,qc L,qc U,qc U⟩ (fun hHeld=>?_)
     clear hK K
     refine qN (some 17) ?_
     refine Zi (i:=14) (N:=some 19) (bN 26 32767) rfl rfl (Q2 HT_.out kr) (by decide) (fun K hK=>?_)
     refine Zh Try.func34 kr rfl #[.agg #[.int .i64 D,.int .i64 I]] (by rfl) rfl rfl qM ?_
     refine(Je D I _).mono ?_
     rintro e gi ⟨θ,rfl,hgp,hgw,hb⟩
     have ν :=Aside0.mk hgp
     clear hgp hgw
     refine⟨_,rfl, ?_⟩
     replace L:=sBk L hb
     replace U:=sBk U hb
     replace HB:=sHb hb
     (try clear hb)
     (try clear a4)
     (try clear hk)
     (try clear hi)
     refine hK.out _ _ ⟨qc L,qc L,qc U,qc U⟩ (fun hHeld=>?_)
     clear hK K
     refine qN (some 19) ?_
     refine Zi (i:=15) (N:=some 20) (bN 26 65535) rfl rfl (Q2 HT_.out kr) (by decide) (fun K hK=>?_)
     refine Zh Try.func42 kr rfl #[.agg #[.slice ζ B.length γ,.func (.func 51) #[] #[]],.func (.func 61) #[] #[.pointer (some ⟨θ,0,none⟩)]] (by rfl) rfl rfl qM ?_
     with_reducible refine(rightP_H.calls ζ γ B η δ J D I false _ ?side1 ?side2 ?side3 ?side4 i4.out θ ν.out).mono ?_
     (case side1=>exact(Kd.Qx ai.out HB.out))
     (case side2=>exact ay.out)
     (case side3=>exact(Kd.Qx ak.out HB.out))
     (case side4=>exact az.out)
     rintro e gm ⟨rfl,hb⟩
     refine⟨_,rfl, ?_⟩
     replace L:=sBk L hb
     replace U:=sBk U hb
     replace HB:=sHb hb
     (try clear hb)
     (try clear a4)
     (try clear hk)
     (try clear hi)
     refine hK.out _ _ ⟨qc L,qc L,qc U,qc U⟩ (fun hHeld=>?_)
     clear hK K
     refine qN (some 20) ?_
     refine qP 16 (some 21) (bN 26 131071) HT_ ?_
     refine qP 17 (some 22) (bN 26 262143) HT_ ?_
     refine qP 18 (some 23) (bN 26 524287) HT_ ?_
     refine qU 19 (some 24) (bN 26 1048575) HT_ ?_
     refine qU 20 (some 25) (bN 26 2097151) HT_ ?_
     refine qU 21 (some 26) (bN 26 4194303) HT_ ?_
     refine qU 22 (some 27) (bN 26 8388607) HT_ ?_
     refine qU 23 (some 28) (bN 26 16777215) HT_ ?_
     refine qU 24 (some 29) (bN 26 33554431) HT_ ?_
     refine qP 25 (some 30) (bN 26 67108863) HT_ ?_
     refine Zr (Ze HT_.out kr) ?_
     try go_wp2
     go_meet
     case rel=>exact⟨_,(true),rfl,H',⟨by first|omega|exact Nat.le_refl _⟩,L,U,HB⟩
   ·replace c9:=Bool.eq_false_iff.mpr c9
    subst c9
    have H1:(call_Check.j0 k true)=some r:=by rw[if_neg (show ¬ (false=true) by decide)] at H;exact H
    clear H
    have H:=H1
    clear H1
    have H':=Aside0.mk H
    clear H
    try go_wp2
    replace L:=Aside0.mk (Qa L.out)
    replace U:=Aside0.mk (Qa U.out)
    replace HB:=Aside0.mk (Qf HB.out)
    refine Zm (n:=26) (S:=fun w'=>w'.cell? ⟨χ,0,none⟩=some (.int .i64 D)∧w'.cell? ⟨χ,1,none⟩=some (.int .i64 I)) (ds:=[]) #[false,false,false,false,false,false,false,false,false,false,false,false,false,false,false,false,false,false,false,false,false,false,false,false,false,false] kr rfl rfl ⟨(Qi L.out 0).trans rfl,(Qi L.out 1).trans rfl⟩ (fun hHeld=>?_);refine Q7 call_Check.Gk call_Check.Ju (fun HT_ HW_=>?_)
    generalize w5.drew=kd at L U HB hHeld ⊢
    refine qP 0 (some 5) (bN 26 1) HT_ ?_
    refine qT 1 (some 6) (bN 26 3) HT_ HW_ hHeld ?_
    refine Zi (i:=2) (N:=some 7) (bN 26 7) rfl rfl (Q2 HT_.out kr) (by decide) (fun K hK=>?_)
    refine Zh Try.func41 kr rfl #[.int .i64 D,.int .i64 2,.int .i64 64] (by rfl) rfl rfl qM ?_
    with_reducible refine(call_within.calls D 2 64 true _ A6.out).mono ?_
    rintro e w' ⟨rfl,⟨nd,rfl⟩⟩
    refine⟨_,rfl, ?_⟩
    refine hK.out _ _ ⟨qc L,qc L⟩ (fun hHeld=>?_)
    clear hK K
    refine qN (some 7) ?_
    refine qP 3 (some 8) (bN 26 15) HT_ ?_
    refine qP 4 (some 9) (bN 26 31) HT_ ?_
    refine qP 5 (some 10) (bN 26 63) HT_ ?_
    refine qT 6 (some 11) (bN 26 127) HT_ HW_ hHeld ?_
    refine Zi (i:=7) (N:=some 12) (bN 26 255) rfl rfl (Q2 HT_.out kr) (by decide) (fun K hK=>?_)
    refine Zh Try.func41 kr rfl #[.int .i64 I,.int .i64 1,.int .i64 8] (by rfl) rfl rfl qM ?_
    with_reducible refine(call_within.calls I 1 8 false _ A8.out).mono ?_
    rintro e w' ⟨rfl,⟨nd,rfl⟩⟩
    refine⟨_,rfl, ?_⟩
    refine hK.out _ _ ⟨qc L,qc L⟩ (fun hHeld=>?_)
    clear hK K
    refine qN (some 12) ?_
    refine qP 8 (some 13) (bN 26 511) HT_ ?_
    refine qP 9 (some 14) (bN 26 1023) HT_ ?_
    refine qP 10 (some 15) (bN 26 2047) HT_ ?_
    refine qU 11 (some 16) (bN 26 4095) HT_ ?_
    refine qU 12 (some 17) (bN 26 8191) HT_ ?_
    refine qU 13 (some 18) (bN 26 16383) HT_ ?_
    refine qU 14 (some 19) (bN 26 32767) HT_ ?_
    refine qU 15 (some 20) (bN 26 65535) HT_ ?_
    refine qU 16 (some 21) (bN 26 131071) HT_ ?_
    refine qP 17 (some 22) (bN 26 262143) HT_ ?_
    refine qP 18 (some 23) (bN 26 524287) HT_ ?_
    refine qU 19 (some 24) (bN 26 1048575) HT_ ?_
    refine qU 20 (some 25) (bN 26 2097151) HT_ ?_
    refine qU 21 (some 26) (bN 26 4194303) HT_ ?_
    refine qU 22 (some 27) (bN 26 8388607) HT_ ?_
    refine qU 23 (some 28) (bN 26 16777215) HT_ ?_
    refine qU 24 (some 29) (bN 26 33554431) HT_ ?_
    refine qP 25 (some 30) (bN 26 67108863) HT_ ?_
    refine Zr (Ze HT_.out kr) ?_
    try go_wp2
    go_meet
    case rel=>exact⟨_,(true),qR,H',⟨by first|omega|exact Nat.le_refl _⟩,⟨bka L⟩,⟨bka U⟩,⟨bel⟩⟩
  ·replace c7:=Bool.eq_false_iff.mpr c7
   subst c7
   have H1:(call_Check.j0 k true)=some r:=by rw[if_neg (show ¬ (false=true) by decide)] at H;exact H
   clear H
   have H:=H1
   clear H1
   have H':=Aside0.mk H
   clear H
   try go_wp2
   replace L:=Aside0.mk (Qa L.out)
   replace U:=Aside0.mk (Qa U.out)
   replace HB:=Aside0.mk (Qf HB.out)
   refine Zm (n:=26) (S:=fun w'=>w'.cell? ⟨χ,0,none⟩=some (.int .i64 D)∧w'.cell? ⟨χ,1,none⟩=some (.int .i64 I)) (ds:=[]) #[false,false,false,false,false,false,false,false,false,false,false,false,false,false,false,false,false,false,false,false,false,false,false,false,false,false] kr rfl rfl ⟨(Qi L.out 0).trans rfl,(Qi L.out 1).trans rfl⟩ (fun hHeld=>?_);refine Q7 call_Check.Gk call_Check.Ju (fun HT_ HW_=>?_)
   generalize w5.drew=fb at L U HB hHeld ⊢
   refine qP 0 (some 5) (bN 26 1) HT_ ?_
   refine qT 1 (some 6) (bN 26 3) HT_ HW_ hHeld ?_
   refine Zi (i:=2) (N:=some 7) (bN 26 7) rfl rfl (Q2 HT_.out kr) (by decide) (fun K hK=>?_)
   refine Zh Try.func41 kr rfl #[.int .i64 D,.int .i64 2,.int .i64 64] (by rfl) rfl rfl qM ?_
   with_reducible refine(call_within.calls D 2 64 false _ A6.out).mono ?_
   rintro e w' ⟨rfl,⟨nd,rfl⟩⟩
   refine⟨_,rfl, ?_⟩
   refine hK.out _ _ ⟨qc L,qc L⟩ (fun hHeld=>?_)
   clear hK K
   refine qN (some 7) ?_
   refine qP 3 (some 8) (bN 26 15) HT_ ?_
   refine qP 4 (some 9) (bN 26 31) HT_ ?_
   refine qU 5 (some 10) (bN 26 63) HT_ ?_
   refine qU 6 (some 11) (bN 26 127) HT_ ?_
   refine qU 7 (some 12) (bN 26 255) HT_ ?_
   refine qU 8 (some 13) (bN 26 511) HT_ ?_
   refine qP 9 (some 14) (bN 26 1023) HT_ ?_
   refine qP 10 (some 15) (bN 26 2047) HT_ ?_
   refine qU 11 (some 16) (bN 26 4095) HT_ ?_
   refine qU 12 (some 17) (bN 26 8191) HT_ ?_
   refine qU 13 (some 18) (bN 26 16383) HT_ ?_
   refine qU 14 (some 19) (bN 26 32767) HT_ ?_
   refine qU 15 (some 20) (bN 26 65535) HT_ ?_
   refine qU 16 (some 21) (bN 26 131071) HT_ ?_
   refine qP 17 (some 22) (bN 26 262143) HT_ ?_
   refine qP 18 (some 23) (bN 26 524287) HT_ ?_
   refine qU 19 (some 24) (bN 26 1048575) HT_ ?_
   refine qU 20 (some 25) (bN 26 2097151) HT_ ?_
   refine qU 21 (some 26) (bN 26 4194303) HT_ ?_
   refine qU 22 (some 27) (bN 26 8388607) HT_ ?_
   refine qU 23 (some 28) (bN 26 16777215) HT_ ?_
   refine qU 24 (some 29) (bN 26 33554431) HT_ ?_
   refine qP 25 (some 30) (bN 26 67108863) HT_ ?_
   refine Zr (Ze HT_.out kr) ?_
   try go_wp2
   go_meet
   case rel=>exact⟨_,(true),qR,H',⟨by first|omega|exact Nat.le_refl _⟩,⟨bka L⟩,⟨bka U⟩,⟨bel⟩⟩
 case rest=>
  clear a6
  try clear c1
  try clear p2
  try clear c4
  try clear c7
  try clear c9
  obtain⟨kq,X,rfl,HA,cy,L,U,HB⟩:=hcut
  cases kq with
  |zero=>exact absurd HA.out (by simp[call_Check.j0])
  |succ d6=>
   have H:=HA.out
   clear HA
   simp only[call_Check.j0] at H
   by_cases dr:X=true
   ·subst dr
    have H1:(some 190)=some r:=by rw[if_pos rfl] at H;exact H
    clear H
    have H:=H1
    clear H1
    obtain rfl:=Option.some.inj H
    go_wp2
    go_ret
    exact⟨rfl,HB.out⟩
   ·replace dr:=Bool.eq_false_iff.mpr dr
    subst dr
    have H1:(some 0)=some r:=by rw[if_neg (show ¬ (false=true) by decide)] at H;exact H
    clear H
    have H:=H1
    clear H1
    obtain rfl:=Option.some.inj H
    go_wp2
    go_ret
    exact⟨rfl,HB.out⟩
def call_change.f (U_:Option (List S56)) (I_:Option (List S62)) (k:Nat) (D:Int) (I:Int) (B:List (S56)) (J:List (S62)) (a2:Bool) (X:Int) (ar:Int) (av:Int) (aw:Int) (a5:Int) (ax:Int) (b3:Int):Option ((List (S56))×(List (S62))×Int):=(call_Check.f k D I B J).bind fun ρ=>(if ρ=0 then (if a2=true then ((U_).bind fun a0=>((I_).bind fun ω =>(some (a0,ω,0)))) else (some (([]:List (S56)),([]:List (S62)),191))) else (some (([]:List (S56)),([]:List (S62)),ρ)))
theorem call_change.mono:∀ U_ I_ D J a2 X L a5 O U Y Z B I k,LeO (call_change.f U_ I_ k D J a2 X L a5 O U Y Z B I) (call_change.f U_ I_ (k+1) D J a2 X L a5 O U Y Z B I):=by
 intro U_ I_ D J a2 X L a5 O U Y Z B I k
 unfold call_change.f
 repeat' first
   |(with_reducible exact call_Check.mono _ _ _ _ _)
   |(with_reducible exact LeO.refl _)
   |(with_reducible exact LeO.none _)
   |(with_reducible refine LeO.ite ?_ ?_)
   |(with_reducible refine LeO.bind ?_ (fun _=>?_))
   |exact call_Check.mono _ _ _ _ _
   |exact LeO.none _
   |refine LeO.ite ?_ ?_
   |refine LeO.bind ?_ (fun _=>?_)
def call_change.T6:Bool×List (List Nat×List Nat):=(true,[([],[]),([],[]),([0,1],[0,1]),([],[]),([],[]),([3,4,2],[3,4]),([2,5],[2,5]),([6,5,0,1,2,3,4,5,6],[6]),([7,0,1,2,3,4,5,6,7],[])])
def call_change.B6:List Nat:=[0,0,3,0,0,31,63,127,255]
theorem call_change.Wv:rtab .any (opsOf Try.f28 6)=call_change.T6:=by kernel_rfl
theorem call_change.Vm:Zp call_change.T6.2 call_change.B6=true:=by kernel_rfl
set_option maxHeartbeats 8000000 in
set_option maxRecDepth 100000 in
theorem call_change.calls (U_:Option (List S56)) (I_:Option (List S62)) (k:Nat) (D:Int) (I:Int) (ζ :Option Addr) (γ:Nat) (B:List (S56)) (η :Option Addr) (δ :Nat) (J:List (S62)) (a2:Bool) (X:Int) (ar:Int) (av:Int) (aw:Int) (a5:Int) (ax:Int) (b3:Int) (r1:List (S56)) (r2:List (S62)) (r3:Int) (w:World) (bj:Kd.C k56 w ζ B.length B) (bk:B.length≤γ) (bl:Kd.C k62 w η J.length J) (bm:J.length ≤ δ) (h:call_change.f U_ I_ k D I B J a2 X ar av aw a5 ax b3=some (r1,r2,r3)) (fu_:FuncId) (fnu_:Func) (ru_:Value) (hfu_:Try.prog.funcs[fu_]?=some fnu_) (hnu_:(fnu_.name == "runtime.NumGoroutine")=false) (hbu_:fnu_.body.isSome=true) (hu_:∀ (W:World) (t:List S56),U_=some t→Below w.heap.size w W→Calls Try.prog fu_ #[ru_,.agg #[.int .i64 ar,.int .i64 av,.int .i64 aw]] W fun e w'=>∃ a6:Value,e = .returned a6∧Kd.R k56 56 w' W.heap.size (fun _=>True) a6 t∧Below W.heap.size W w') (fi_:FuncId) (fni_:Func) (ri_:Value) (hfi_:Try.prog.funcs[fi_]?=some fni_) (hni_:(fni_.name == "runtime.NumGoroutine")=false) (hbi_:fni_.body.isSome=true) (hi_:∀ (W:World) (t:List S62),I_=some t→Below w.heap.size w W→Calls Try.prog fi_ #[ri_,.agg #[.int .i64 ax,.int .i64 b3]] W fun e w'=>∃ a6:Value,e = .returned a6∧Kd.R k62 62 w' W.heap.size (fun _=>True) a6 t∧Below W.heap.size W w'):
  Calls Try.prog 28 #[.agg #[.int .i64 D,.int .i64 I],.agg #[.slice ζ B.length γ,.slice η J.length δ],.bool a2,(.func (.func fu_) #[ru_] #[]),.agg #[.int .i64 ar,.int .i64 av,.int .i64 aw],(.func (.func fi_) #[ri_] #[]),.agg #[.int .i64 ax,.int .i64 b3]] w fun e w'=>∃ a6 b0:Value,e = .returned (.tuple #[.agg #[a6,b0],.int .i64 r3])∧Kd.R k56 56 w' w.heap.size (fun _=>True) a6 r1∧Kd.R k62 62 w' w.heap.size (fun _=>True) b0 r2∧Below w.heap.size w w':=by
 have HFU:=Aside0.mk hfu_
 have HNU:=Aside0.mk hnu_
 have HBU:=Aside0.mk hbu_
 have HCU:=Aside0.mk hu_
 have HFI:=Aside0.mk hfi_
 have HNI:=Aside0.mk hni_
 have HBI:=Aside0.mk hbi_
 have HCI:=Aside0.mk hi_
 clear hfu_ hnu_ hbu_ hu_ hfi_ hni_ hbi_ hi_
 have et:=Try.underlying23
 have eh:=Try.underlying27
 have b2:=Try.underlying56
 have b9:=Try.underlying62
 have ai:=Aside0.mk bj
 have ay:=Aside0.mk bk
 clear bj bk
 have ak:=Aside0.mk bl
 have az:=Aside0.mk bm
 clear bl bm
 have HB:=Aside0.mk (Below.refl w.heap.size w)
 have H:((call_Check.f k D I B J).bind fun ρ=>(if ρ=0 then (if a2=true then ((U_).bind fun a0=>((I_).bind fun ω =>(some (a0,ω,0)))) else (some (([]:List (S56)),([]:List (S62)),191))) else (some (([]:List (S56)),([]:List (S62)),ρ))))=some (r1,r2,r3):=h
 clear h
 replace H:=Option.bind_eq_some_iff.mp H
 obtain⟨ρ,g2,H⟩:=H
 replace H:(if ρ=0 then (if a2=true then ((U_).bind fun a0=>((I_).bind fun ω =>(some (a0,ω,0)))) else (some (([]:List (S56)),([]:List (S62)),191))) else (some (([]:List (S56)),([]:List (S62)),ρ)))=some (r1,r2,r3):=H
 have A8:=Aside0.mk g2
 clear g2
 by_cases c9:ρ=0
 ·rw[if_pos c9] at H
  have c9b0:(ρ==0)=true:=beq_iff_eq.mpr c9
  have c9b1:(ρ != 0)=false:=bne_eq_false_iff_eq.mpr c9
  clear c9
  by_cases c10:a2=true
  ·subst c10
   have H1:((U_).bind fun a0=>((I_).bind fun ω =>(some (a0,ω,0))))=some (r1,r2,r3):=by rw[if_pos rfl] at H;exact H
   clear H
   have H:=H1
   clear H1
   replace H:=Option.bind_eq_some_iff.mp H
   obtain⟨a0,b7,H⟩:=H
   replace H:((I_).bind fun ω =>(some (a0,ω,0)))=some (r1,r2,r3):=H
   have bv:=Aside0.mk b7
   clear b7
   replace H:=Option.bind_eq_some_iff.mp H
   obtain⟨ω,bf,H⟩:=H
   replace H:(some (a0,ω,0))=some (r1,r2,r3):=H
   have bg:=Aside0.mk bf
   clear bf
   simp only[Option.some.injEq,Prod.mk.injEq] at H
   obtain⟨rfl,rfl,rfl⟩:=H
   go_enter Try.func28,Try.ntmps28
   try go_wp2_with (first|((with_reducible refine Qs (N:=7) rfl ?_);refine qE 7 #[.int .i64 D,.int .i64 I] 23 ?_;intro χ hg fa hbox hb;have L:=Aside0.mk hbox;have br:=sGe hg;have b5:=sGe hg;replace HB:=sHb hb;clear hb hbox hg)|((with_reducible refine Qs (N:=8) rfl ?_);refine qE 8 #[.slice ζ B.length γ,.slice η J.length δ] 27 ?_;intro ι hg f9 hbox hb;have U:=Aside0.mk hbox;have bb:=sGe hg;have bz:=sGe hg;have κ :=sNl L hg;have a1:=sNg L hg;replace L:=sBk L hb;replace HB:=sHb hb;clear hb hbox hg)|((with_reducible refine Qs (N:=11) rfl ?_);refine qE 11 #[.int .i64 ar,.int .i64 av,.int .i64 aw] 56 ?_;intro ba hg jc hbox hb;have O:=Aside0.mk hbox;have cr:=sGe hg;have cv:=sGe hg;have aj:=sNl L hg;have al:=sNg L hg;have Z:=sNl U hg;have ε :=sNg U hg;replace L:=sBk L hb;replace U:=sBk U hb;replace HB:=sHb hb;clear hb hbox hg)|((with_reducible refine Qs (N:=13) rfl ?_);refine qE 13 #[.int .i64 ax,.int .i64 b3] 62 ?_;intro ac hg b1 hbox hb;have θ :=Aside0.mk hbox;have bh:=sGe hg;have ah:=sGe hg;have am:=sNl L hg;have an:=sNg L hg;have ao:=sNl U hg;have ap:=sNg U hg;have bd:=sNl O hg;have be:=sNg O hg;replace L:=sBk L hb;replace U:=sBk U hb;replace O:=sBk O hb;replace HB:=sHb hb;clear hb hbox hg)|((with_reducible refine Qs (N:=14) rfl ?_);refine qE 14 #[.slice none 0 0,.slice none 0 0] 27 ?_;intro σ hg gm hbox hb;have μ :=Aside0.mk hbox;have bi:=sGe hg;have b6:=sGe hg;have τ :=sNl L hg;have ab:=sNg L hg;have ae:=sNl U hg;have af:=sNg U hg;have Y:=sNl O hg;have ag:=sNg O hg;have φ :=sNl θ hg;have aa:=sNg θ hg;replace L:=sBk L hb;replace U:=sBk U hb;replace O:=sBk O hb;replace θ :=sBk θ hb;replace HB:=sHb hb;clear hb hbox hg;have ct:= κ.out;have cu:=a1.out;have ca:=aj.out;have cd:=al.out;have da:=am.out;have dd:=an.out;have db:= τ.out;have dc:=ab.out;obtain⟨bc,bp,bq,bs⟩:=qD2 L.out;have dk:=Z.out;have dm:= ε.out;have df:=ao.out;have du:=ap.out;have e9:=ae.out;have ea:=af.out;obtain⟨d3,d4,d5,d7⟩:=qD2 U.out)|((with_reducible refine Q0 (f:=14) rfl ?_);refine Zl (some 19) rfl rfl Try.func14 kr rfl #[.agg #[.int .i64 D,.int .i64 I],.agg #[.slice ζ B.length γ,.slice η J.length δ]] rfl qM ?_;(with_reducible refine(call_Check.calls k D I _ _ B _ _ J ρ _ ?side1 ?side2 ?side3 ?side4 A8.out).mono ?_);(case side1=>exact(Kd.Qx ai.out HB.out));(case side2=>exact ay.out);(case side3=>exact(Kd.Qx ak.out HB.out));(case side4=>exact az.out);rintro e dn ⟨rfl,hb⟩;refine⟨_,rfl, ?_⟩;replace L:=sBk L hb;replace U:=sBk U hb;replace O:=sBk O hb;replace θ :=sBk θ hb;replace μ :=sBk μ hb;replace HB:=sHb hb;(try clear hb);(try clear a4);(try clear hk);(try clear hi)))
   replace L:=Aside0.mk (Qa L.out)
   replace U:=Aside0.mk (Qa U.out)
   replace O:=Aside0.mk (Qa O.out)
   replace θ :=Aside0.mk (Qa θ.out)
   replace μ :=Aside0.mk (Qa μ.out)
   replace HB:=Aside0.mk (Qf HB.out)
   refine Zm (n:=9) (S:=fun w'=>w'.cell? ⟨ba,0,none⟩=some (.int .i64 ar)∧w'.cell? ⟨ba,1,none⟩=some (.int .i64 av)∧w'.cell? ⟨ba,2,none⟩=some (.int .i64 aw)∧w'.cell? ⟨ac,0,none⟩=some (.int .i64 ax)∧w'.cell? ⟨ac,1,none⟩=some (.int .i64 b3)) (ds:=[]) #[false,false,false,false,false,false,false,false,false] kr rfl rfl ⟨(Qi O.out 0).trans rfl,(Qi O.out 1).trans rfl,(Qi O.out 2).trans rfl,(Qi θ.out 0).trans rfl,(Qi θ.out 1).trans rfl⟩ (fun hHeld=>?_);refine Q7 call_change.Wv call_change.Vm (fun HT_ HW_=>?_)
   generalize dn.drew=dt at L U O θ μ HB hHeld ⊢
   refine qP 0 (some 27) (bN 9 1) HT_ ?_
   refine qP 3 (some 30) (bN 9 9) HT_ ?_
   refine qT 1 (some 28) (bN 9 11) HT_ HW_ hHeld ?_
   refine qT 4 (some 31) (bN 9 27) HT_ HW_ hHeld ?_
   refine Zi (i:=2) (N:=some 29) (bN 9 31) rfl rfl (Q2 HT_.out kr) (by decide) (fun K hK=>?_)
   refine Xj HFU.out HNU.out HBU.out #[ru_] #[] #[.agg #[.int .i64 ar,.int .i64 av,.int .i64 aw]] #[ru_,.agg #[.int .i64 ar,.int .i64 av,.int .i64 aw]] rfl (by rfl) rfl rfl rfl qM ?_
   refine(HCU.out _ a0 bv.out (by repeat(first|(with_reducible first|exact HB.out|apply Qh|apply Qc|apply Qf)|exact HB.out|(refine Qd ?_ (Aside0.out (by assumption)))))).mono ?_
   rintro e gf ⟨e0,rfl,ψ,hb⟩
   refine⟨_,rfl, ?_⟩
   have bn:=Aside0.mk (Kd.Q1 (Kd.Xo ψ (g:=ba) (o:=.cells #[.int .i64 ar,.int .i64 av,.int .i64 aw] 56 (0,0)) O.out) (Ql HB.out))
   replace L:=sBk L hb
   replace U:=sBk U hb
   replace O:=sBk O hb
   replace θ :=sBk θ hb
   replace μ :=sBk μ hb
   replace HB:=sHb hb
   (try clear hb)
   (try clear a4)
   (try clear hk)
   (try clear hi)
   (try clear ψ)
   refine hK.out _ _ ⟨qc O,qc O,qc O,qc θ,qc θ⟩ (fun hHeld=>?_)
   clear hK K
   refine qN (some 29) ?_
   refine Zi (i:=5) (N:=some 32) (bN 9 63) rfl rfl (Q2 HT_.out kr) (by decide) (fun K hK=>?_)
   refine Xj HFI.out HNI.out HBI.out #[ri_] #[] #[.agg #[.int .i64 ax,.int .i64 b3]] #[ri_,.agg #[.int .i64 ax,.int .i64 b3]] rfl (by rfl) rfl rfl rfl qM ?_
   refine(HCI.out _ ω bg.out (by repeat(first|(with_reducible first|exact HB.out|apply Qh|apply Qc|apply Qf)|exact HB.out|(refine Qd ?_ (Aside0.out (by assumption)))))).mono ?_
   rintro e f3 ⟨cg,rfl,ψ,hb⟩
   refine⟨_,rfl, ?_⟩
   have b8:=Aside0.mk (Kd.Q1 (Kd.Xo ψ (g:=ac) (o:=.cells #[.int .i64 ax,.int .i64 b3] 62 (0,0)) θ.out) (Ql HB.out))
   replace bn:=sRb bn hb
   replace L:=sBk L hb
   replace U:=sBk U hb
   replace O:=sBk O hb
   replace θ :=sBk θ hb
   replace μ :=sBk μ hb
   replace HB:=sHb hb
   (try clear hb)
   (try clear a4)
   (try clear hk)
   (try clear hi)
   (try clear ψ)
   obtain⟨b4,au,cb⟩:=Kd.Q3 b8.out
   (first|subst cb|(injection cb with ν a7 ξ;have a8:= ν.symm;have a9:= ξ.symm;clear ν a7 ξ;subst a8;subst a9))
   obtain⟨bo,bu,cf⟩:=Kd.Q3 bn.out
   (first|subst cf|(injection cf with ν a7 ξ;have a8:= ν.symm;have a9:= ξ.symm;clear ν a7 ξ;subst a8;subst a9))
   refine hK.out _ _ ⟨qc O,qc O,qc O,qc θ,qc θ⟩ (fun hHeld=>?_)
   clear hK K
   refine qN (some 32) ?_
   refine qP 6 (some 33) (bN 9 127) HT_ ?_
   refine Zi (i:=7) (N:=none) (bN 9 255) rfl rfl (Q2 HT_.out kr) (by decide) (fun K hK=>?_)
   have eb:f3.cell? ⟨σ,0,none⟩=some (.slice none 0 0):=(Qi μ.out 0).trans rfl
   have dy:=Q6 μ.out 0
   have ch:= τ.out
   have cm:=ae.out
   have cn:=Y.out
   have co:= φ.out
   have cp:=ab.out
   have cq:=af.out
   have cw:=ag.out
   have cx:=aa.out
   have ec:f3.cell? ⟨σ,1,none⟩=some (.slice none 0 0):=(Qi μ.out 1).trans rfl
   have dz:=Q6 μ.out 1
   have cy:= τ.out
   have cz:=ae.out
   have d0:=Y.out
   have d1:= φ.out
   have d2:=ab.out
   have d8:=af.out
   have d9:=ag.out
   have de:=aa.out
   refine Yl (w1:=?_) (by rfl) rfl ?_ ?_
   rotate_left
   ·go_simp
    rfl
   refine hK.out _ _ ⟨((cell_far (p:=⟨σ,_,none⟩) Y.out _).trans (((cell_far (p:=⟨σ,_,none⟩) Y.out _).trans (hHeld.1)))),((cell_far (p:=⟨σ,_,none⟩) Y.out _).trans (((cell_far (p:=⟨σ,_,none⟩) Y.out _).trans (hHeld.2.1)))),((cell_far (p:=⟨σ,_,none⟩) Y.out _).trans (((cell_far (p:=⟨σ,_,none⟩) Y.out _).trans (hHeld.2.2.1)))),((cell_far (p:=⟨σ,_,none⟩) φ.out _).trans (((cell_far (p:=⟨σ,_,none⟩) φ.out _).trans (hHeld.2.2.2.1)))),((cell_far (p:=⟨σ,_,none⟩) φ.out _).trans (((cell_far (p:=⟨σ,_,none⟩) φ.out _).trans (hHeld.2.2.2.2))))⟩ (fun hHeld=>?_)
   clear hK K
   refine qP 8 (some 15) (bN 9 511) HT_ ?_
   refine Zr (Ze HT_.out kr) ?_
   try go_wp2
   refine bodyPost_ret (Xh rfl _ _ σ 27 #[.slice bo a0.length bu,.slice b4 ω.length au] (0,0) _ rfl (by refine Qw (cs:=#[.slice bo a0.length bu,.slice none 0 0]) ?_ 1 _ rfl;refine Qw (cs:=#[.slice none 0 0,.slice none 0 0]) ?_ 0 _ rfl;exact μ.out) Try.underlying27 rfl kr) rfl ?_
   exact⟨_,_,by first|rfl|(simp[Qz,Qy] <;> rfl)|(simp[*,Qz,Qy] <;> rfl),by(with_reducible repeat first|apply Kd.Qk|apply Kd.Qj|apply Kd.Qm);exact Kd.Qq (Kd.Qr (Kd.Qr (Kd.Qu bn.out μ.out (by decide)) (fun _ hk=>hk.2) _) (fun _ hk=>hk.2) _) (fun _ hk=>trivial),by(with_reducible repeat first|apply Kd.Qk|apply Kd.Qj|apply Kd.Qm);exact Kd.Qq (Kd.Qr (Kd.Qr (Kd.Qu b8.out μ.out (by decide)) (fun _ hk=>hk.2) _) (fun _ hk=>hk.2) _) (fun _ hk=>trivial),bel⟩
  ·replace c10:=Bool.eq_false_iff.mpr c10
   subst c10
   have H1:(some (([]:List (S56)),([]:List (S62)),191))=some (r1,r2,r3):=by rw[if_neg (show ¬ (false=true) by decide)] at H;exact H
   clear H
   have H:=H1
   clear H1
   simp only[Option.some.injEq,Prod.mk.injEq] at H
   obtain⟨rfl,rfl,rfl⟩:=H
   go_enter Try.func28,Try.ntmps28
   go_wp2_with (first|((with_reducible refine Qs (N:=7) rfl ?_);refine qE 7 #[.int .i64 D,.int .i64 I] 23 ?_;intro χ hg g8 hbox hb;have L:=Aside0.mk hbox;have br:=sGe hg;have b5:=sGe hg;replace HB:=sHb hb;clear hb hbox hg)|((with_reducible refine Qs (N:=8) rfl ?_);refine qE 8 #[.slice ζ B.length γ,.slice η J.length δ] 27 ?_;intro ι hg nf hbox hb;have U:=Aside0.mk hbox;have bb:=sGe hg;have bz:=sGe hg;have κ :=sNl L hg;have a1:=sNg L hg;replace L:=sBk L hb;replace HB:=sHb hb;clear hb hbox hg)|((with_reducible refine Qs (N:=11) rfl ?_);refine qE 11 #[.int .i64 ar,.int .i64 av,.int .i64 aw] 56 ?_;intro ba hg il hbox hb;have O:=Aside0.mk hbox;have cr:=sGe hg;have cv:=sGe hg;have aj:=sNl L hg;have al:=sNg L hg;have Z:=sNl U hg;have ε :=sNg U hg;replace L:=sBk L hb;replace U:=sBk U hb;replace HB:=sHb hb;clear hb hbox hg)|((with_reducible refine Qs (N:=13) rfl ?_);refine qE 13 #[.int .i64 ax,.int .i64 b3] 62 ?_;intro ac hg d6 hbox hb;have θ :=Aside0.mk hbox;have bh:=sGe hg;have ah:=sGe hg;have am:=sNl L hg;have an:=sNg L hg;have ao:=sNl U hg;have ap:=sNg U hg;have bd:=sNl O hg;have be:=sNg O hg;replace L:=sBk L hb;replace U:=sBk U hb;replace O:=sBk O hb;replace HB:=sHb hb;clear hb hbox hg)|((with_reducible refine Qs (N:=14) rfl ?_);refine qE 14 #[.slice none 0 0,.slice none 0 0] 27 ?_;intro σ hg ck hbox hb;have μ :=Aside0.mk hbox;have bi:=sGe hg;have b6:=sGe hg;have τ :=sNl L hg;have ab:=sNg L hg;have ae:=sNl U hg;have af:=sNg U hg;have Y:=sNl O hg;have ag:=sNg O hg;have φ :=sNl θ hg;have aa:=sNg θ hg;replace L:=sBk L hb;replace U:=sBk U hb;replace O:=sBk O hb;replace θ :=sBk θ hb;replace HB:=sHb hb;clear hb hbox hg;have dp:= κ.out;have dq:=a1.out;have h4:=aj.out;have h5:=al.out;have g3:=am.out;have ga:=an.out;have fb:= τ.out;have ff:=ab.out;obtain⟨bw,ce,ci,cj⟩:=qD2 L.out;have ll:=Z.out;have lm:= ε.out;have ln:=ao.out;have lp:=ap.out;have lq:=ae.out;have lr:=af.out;obtain⟨fv,fw,fx,fy⟩:=qD2 U.out)|((with_reducible refine Q0 (f:=14) rfl ?_);refine Zl (some 19) rfl rfl Try.func14 kr rfl #[.agg #[.int .i64 D,.int .i64 I],.agg #[.slice ζ B.length γ,.slice η J.length δ]] rfl qM ?_;(with_reducible refine(call_Check.calls k D I _ _ B _ _ J ρ _ ?side1 ?side2 ?side3 ?side4 A8.out).mono ?_);(case side1=>exact(Kd.Qx ai.out HB.out));(case side2=>exact ay.out);(case side3=>exact(Kd.Qx ak.out HB.out));(case side4=>exact az.out);rintro e ed ⟨rfl,hb⟩;refine⟨_,rfl, ?_⟩;replace L:=sBk L hb;replace U:=sBk U hb;replace O:=sBk O hb;replace θ :=sBk θ hb;replace μ :=sBk μ hb;replace HB:=sHb hb;(try clear hb);(try clear a4);(try clear hk);(try clear hi);have ie:=ag.out;have ig:=Y.out;have ev:=aa.out;have ew:= φ.out;obtain⟨e5,e6,e7,e8⟩:=qD2 μ.out))
   refine bodyPost_ret (Xh rfl _ _ σ 27 #[.slice none 0 0,.slice none 0 0] (0,0) _ rfl (by refine Qw (cs:=#[.slice none 0 0,.slice none 0 0]) ?_ 1 _ rfl;refine Qw (cs:=#[.slice none 0 0,.slice none 0 0]) ?_ 0 _ rfl;exact μ.out) Try.underlying27 rfl kr) rfl ?_
   exact⟨_,_,by first|rfl|(simp[Qz,Qy] <;> rfl)|(simp[*,Qz,Qy] <;> rfl),by first|exact Kd.Xz _ _ _ _ _|exact Kd.Yp _ _ _ _ _|exact Kd.Ym _ _ _ _ _|exact Kd.Yo _ _ _ _ _|exact Kd.Yn _ _ _ _ _,by first|exact Kd.Xz _ _ _ _ _|exact Kd.Yp _ _ _ _ _|exact Kd.Ym _ _ _ _ _|exact Kd.Yo _ _ _ _ _|exact Kd.Yn _ _ _ _ _,bel⟩
 ·rw[if_neg c9] at H
  have c9b0:(ρ==0)=false:=beq_eq_false_iff_ne.mpr c9
  have c9b1:(ρ != 0)=true:=bne_iff_ne.mpr c9
  simp only[Option.some.injEq,Prod.mk.injEq] at H
  obtain⟨rfl,rfl,rfl⟩:=H
  go_enter Try.func28,Try.ntmps28
  go_wp2_with (first|((with_reducible refine Qs (N:=7) rfl ?_);refine qE 7 #[.int .i64 D,.int .i64 I] 23 ?_;intro χ hg ee hbox hb;have L:=Aside0.mk hbox;have br:=sGe hg;have b5:=sGe hg;replace HB:=sHb hb;clear hb hbox hg)|((with_reducible refine Qs (N:=8) rfl ?_);refine qE 8 #[.slice ζ B.length γ,.slice η J.length δ] 27 ?_;intro ι hg ek hbox hb;have U:=Aside0.mk hbox;have bb:=sGe hg;have bz:=sGe hg;have κ :=sNl L hg;have a1:=sNg L hg;replace L:=sBk L hb;replace HB:=sHb hb;clear hb hbox hg)|((with_reducible refine Qs (N:=11) rfl ?_);refine qE 11 #[.int .i64 ar,.int .i64 av,.int .i64 aw] 56 ?_;intro ba hg iz hbox hb;have O:=Aside0.mk hbox;have cr:=sGe hg;have cv:=sGe hg;have aj:=sNl L hg;have al:=sNg L hg;have Z:=sNl U hg;have ε :=sNg U hg;replace L:=sBk L hb;replace U:=sBk U hb;replace HB:=sHb hb;clear hb hbox hg)|((with_reducible refine Qs (N:=13) rfl ?_);refine qE 13 #[.int .i64 ax,.int .i64 b3] 62 ?_;intro ac hg gl hbox hb;have θ :=Aside0.mk hbox;have bh:=sGe hg;have ah:=sGe hg;have am:=sNl L hg;have an:=sNg L hg;have ao:=sNl U hg;have ap:=sNg U hg;have bd:=sNl O hg;have be:=sNg O hg;replace L:=sBk L hb;replace U:=sBk U hb;replace O:=sBk O hb;replace HB:=sHb hb;clear hb hbox hg)|((with_reducible refine Qs (N:=14) rfl ?_);refine qE 14 #[.slice none 0 0,.slice none 0 0] 27 ?_;intro σ hg f5 hbox hb;have μ :=Aside0.mk hbox;have bi:=sGe hg;have b6:=sGe hg;have τ :=sNl L hg;have ab:=sNg L hg;have ae:=sNl U hg;have af:=sNg U hg;have Y:=sNl O hg;have ag:=sNg O hg;have φ :=sNl θ hg;have aa:=sNg θ hg;replace L:=sBk L hb;replace U:=sBk U hb;replace O:=sBk O hb;replace θ :=sBk θ hb;replace HB:=sHb hb;clear hb hbox hg;have j3:= κ.out;have j4:=a1.out;have ls:=aj.out;have lu:=al.out;have lv:=am.out;have lw:=an.out;have ih:= τ.out;have ii:=ab.out;obtain⟨dh,di,dj,dl⟩:=qD2 L.out;have ir:=Z.out;have it:= ε.out;have i6:=ao.out;have i7:=ap.out;have gs:=ae.out;have gt:=af.out;obtain⟨fu,g4,g5,ge⟩:=qD2 U.out)|((with_reducible refine Q0 (f:=14) rfl ?_);refine Zl (some 19) rfl rfl Try.func14 kr rfl #[.agg #[.int .i64 D,.int .i64 I],.agg #[.slice ζ B.length γ,.slice η J.length δ]] rfl qM ?_;(with_reducible refine(call_Check.calls k D I _ _ B _ _ J ρ _ ?side1 ?side2 ?side3 ?side4 A8.out).mono ?_);(case side1=>exact(Kd.Qx ai.out HB.out));(case side2=>exact ay.out);(case side3=>exact(Kd.Qx ak.out HB.out));(case side4=>exact az.out);rintro e em ⟨rfl,hb⟩;refine⟨_,rfl, ?_⟩;replace L:=sBk L hb;replace U:=sBk U hb;replace O:=sBk O hb;replace θ :=sBk θ hb;replace μ :=sBk μ hb;replace HB:=sHb hb;(try clear hb);(try clear a4);(try clear hk);(try clear hi);have e3:=ag.out;have e4:=Y.out;have io:=aa.out;have iv:= φ.out;obtain⟨dr,dv,dw,dx⟩:=qD2 μ.out))
  refine bodyPost_ret (Xh rfl _ _ σ 27 #[.slice none 0 0,.slice none 0 0] (0,0) _ rfl (by refine Qw (cs:=#[.slice none 0 0,.slice none 0 0]) ?_ 1 _ rfl;refine Qw (cs:=#[.slice none 0 0,.slice none 0 0]) ?_ 0 _ rfl;exact μ.out) Try.underlying27 rfl kr) rfl ?_
  exact⟨_,_,by first|rfl|(simp[Qz,Qy] <;> rfl)|(simp[*,Qz,Qy] <;> rfl),by first|exact Kd.Xz _ _ _ _ _|exact Kd.Yp _ _ _ _ _|exact Kd.Ym _ _ _ _ _|exact Kd.Yo _ _ _ _ _|exact Kd.Yn _ _ _ _ _,by first|exact Kd.Xz _ _ _ _ _|exact Kd.Yp _ _ _ _ _|exact Kd.Ym _ _ _ _ _|exact Kd.Yo _ _ _ _ _|exact Kd.Yn _ _ _ _ _,bel⟩
mutual
def call_View.l0:Nat→Int→List (S62)→Int→Int→List (S56)→List (S62)→List Int→Option (List Int×List Int×List Int×Int)
 |0,_,_,_,_,_,_,_=>none
 |k+1,U,I,O,J,D,L,B=>if J<O then (if 0≤J then (if J<(I.length:Int) then (if ((Qo I J).f0)=U then (if B.length<17592186044416 then (call_View.l0 k U I O (wrap64 (J+1)) D L (B ++ [(Qo I J).f1])) else (none)) else (call_View.l0 k U I O (wrap64 (J+1)) D L B)) else (none)) else (none)) else (call_View.l1 k U D (D.length:Int) 0 B ([]:List Int) ([]:List Int))
def call_View.l1:Nat→Int→List (S56)→Int→Int→List Int→List Int→List Int→Option (List Int×List Int×List Int×Int)
 |0,_,_,_,_,_,_,_=>none
 |k+1,U,L,O,J,B,D,I=>if J<O then (if 0≤J then (if J<(L.length:Int) then (if ((Qg L J).f2)=U then (if ((Qg L J).f1)>0 then (if D.length<17592186044416 then (call_View.l1 k U L O (wrap64 (J+1)) B (D ++ [(Qg L J).f0]) I) else (none)) else (if I.length<17592186044416 then (call_View.l1 k U L O (wrap64 (J+1)) B D (I ++ [(Qg L J).f0])) else (none))) else (call_View.l1 k U L O (wrap64 (J+1)) B D I)) else (none)) else (none)) else (some (B,D,I,0))
end
def call_View.f (k:Nat) (D:Int) (I:Int) (B:List (S56)) (J:List (S62)) (a2:Int):Option (List Int×List Int×List Int×Int):=(call_Check.f k D I B J).bind fun a5=>(if a5=0 then ((call_within.f a2 0 (wrap64 (I-1))).bind fun bs=>(if bs=true then (call_View.l0 k a2 J (J.length:Int) 0 B J ([]:List Int)) else (some (([]:List Int),([]:List Int),([]:List Int),191)))) else (some (([]:List Int),([]:List Int),([]:List Int),a5)))
theorem call_View.Zk:∀ k,(∀ J L O D U X Y,LeO (call_View.l0 k J L O D U X Y) (call_View.l0 (k+1) J L O D U X Y))∧(∀ J L O D U X Y,LeO (call_View.l1 k J L O D U X Y) (call_View.l1 (k+1) J L O D U X Y))
 |0=>⟨fun _ _ _ _ _ _ _ r h=>by simp[call_View.l0] at h,fun _ _ _ _ _ _ _ r h=>by simp[call_View.l1] at h⟩
 |k+1=>by
  obtain⟨B,I⟩:=call_View.Zk k
  refine⟨?_, ?_⟩
  ·intro J L O D U X Y
   unfold call_View.l0
   repeat' first
   |(with_reducible exact B _ _ _ _ _ _ _)
   |(with_reducible exact I _ _ _ _ _ _ _)
   |(with_reducible exact call_Check.mono _ _ _ _ _)
   |(with_reducible exact LeO.refl _)
   |(with_reducible exact LeO.none _)
   |(with_reducible refine LeO.ite ?_ ?_)
   |(with_reducible refine LeO.bind ?_ (fun _=>?_))
   |exact B _ _ _ _ _ _ _
   |exact I _ _ _ _ _ _ _
   |exact call_Check.mono _ _ _ _ _
   |exact LeO.none _
   |refine LeO.ite ?_ ?_
   |refine LeO.bind ?_ (fun _=>?_)
  ·intro J L O D U X Y
   unfold call_View.l1
   repeat' first
   |(with_reducible exact B _ _ _ _ _ _ _)
   |(with_reducible exact I _ _ _ _ _ _ _)
   |(with_reducible exact call_Check.mono _ _ _ _ _)
   |(with_reducible exact LeO.refl _)
   |(with_reducible exact LeO.none _)
   |(with_reducible refine LeO.ite ?_ ?_)
   |(with_reducible refine LeO.bind ?_ (fun _=>?_))
   |exact B _ _ _ _ _ _ _
   |exact I _ _ _ _ _ _ _
   |exact call_Check.mono _ _ _ _ _
   |exact LeO.none _
   |refine LeO.ite ?_ ?_
   |refine LeO.bind ?_ (fun _=>?_)
theorem call_View.mono:∀ D J a2 X L k,LeO (call_View.f k D J a2 X L) (call_View.f (k+1) D J a2 X L):=by
 intro D J a2 X L k
 obtain⟨B,I⟩:=call_View.Zk k
 unfold call_View.f
 repeat' first
   |(with_reducible exact B _ _ _ _ _ _ _)
   |(with_reducible exact I _ _ _ _ _ _ _)
   |(with_reducible exact call_Check.mono _ _ _ _ _)
   |(with_reducible exact LeO.refl _)
   |(with_reducible exact LeO.none _)
   |(with_reducible refine LeO.ite ?_ ?_)
   |(with_reducible refine LeO.bind ?_ (fun _=>?_))
   |exact B _ _ _ _ _ _ _
   |exact I _ _ _ _ _ _ _
   |exact call_Check.mono _ _ _ _ _
   |exact LeO.none _
   |refine LeO.ite ?_ ?_
   |refine LeO.bind ?_ (fun _=>?_)
set_option maxHeartbeats 8000000 in
set_option maxRecDepth 100000 in
theorem call_View.calls (k:Nat) (D:Int) (I:Int) (ζ :Option Addr) (γ:Nat) (B:List (S56)) (η :Option Addr) (δ :Nat) (J:List (S62)) (a2:Int) (r1:List Int) (r2:List Int) (r3:List Int) (r4:Int) (w:World) (bj:Kd.C k56 w ζ B.length B) (bk:B.length≤γ) (bl:Kd.C k62 w η J.length J) (bm:J.length ≤ δ) (h:call_View.f k D I B J a2=some (r1,r2,r3,r4)):
  Calls Try.prog 19 #[.agg #[.int .i64 D,.int .i64 I],.agg #[.slice ζ B.length γ,.slice η J.length δ],.int .i64 a2] w fun e w'=>∃ a6 b0 de:Value,e = .returned (.tuple #[.agg #[a6,b0,de],.int .i64 r4])∧Kd.R (Kd.int .i64) 3 w' w.heap.size (fun k_=>some k_≠(b0:Value).ownBlock∧some k_≠(de:Value).ownBlock) a6 r1∧Kd.R (Kd.int .i64) 3 w' w.heap.size (fun k_=>some k_≠(a6:Value).ownBlock∧some k_≠(de:Value).ownBlock) b0 r2∧Kd.R (Kd.int .i64) 3 w' w.heap.size (fun k_=>some k_≠(a6:Value).ownBlock∧some k_≠(b0:Value).ownBlock) de r3∧Below w.heap.size w w':=by
 have et:=Try.underlying23
 have eh:=Try.underlying27
 have jx:=Try.underlying47
 have b9:=Try.underlying62
 have b2:=Try.underlying56
 have ai:=Aside0.mk bj
 have ay:=Aside0.mk bk
 clear bj bk
 have ak:=Aside0.mk bl
 have az:=Aside0.mk bm
 clear bl bm
 have HB:=Aside0.mk (Below.refl w.heap.size w)
 have H:((call_Check.f k D I B J).bind fun a5=>(if a5=0 then ((call_within.f a2 0 (wrap64 (I-1))).bind fun bs=>(if bs=true then (call_View.l0 k a2 J (J.length:Int) 0 B J ([]:List Int)) else (some (([]:List Int),([]:List Int),([]:List Int),191)))) else (some (([]:List Int),([]:List Int),([]:List Int),a5))))=some (r1,r2,r3,r4):=h
 clear h
 replace H:=Option.bind_eq_some_iff.mp H
 obtain⟨a5,cy,H⟩:=H
 replace H:(if a5=0 then ((call_within.f a2 0 (wrap64 (I-1))).bind fun bs=>(if bs=true then (call_View.l0 k a2 J (J.length:Int) 0 B J ([]:List Int)) else (some (([]:List Int),([]:List Int),([]:List Int),191)))) else (some (([]:List Int),([]:List Int),([]:List Int),a5)))=some (r1,r2,r3,r4):=H
 have A4:=Aside0.mk cy
 clear cy
 by_cases c5:a5=0
 ·rw[if_pos c5] at H
  have c5b0:(a5==0)=true:=beq_iff_eq.mpr c5
  have c5b1:(a5 != 0)=false:=bne_eq_false_iff_eq.mpr c5
  clear c5
  replace H:=Option.bind_eq_some_iff.mp H
  obtain⟨bs,ei,H⟩:=H
  replace H:(if bs=true then (call_View.l0 k a2 J (J.length:Int) 0 B J ([]:List Int)) else (some (([]:List Int),([]:List Int),([]:List Int),191)))=some (r1,r2,r3,r4):=H
  have A6:=Aside0.mk ei
  clear ei
  by_cases c7:bs=true
  ·subst c7
   have H1:(call_View.l0 k a2 J (J.length:Int) 0 B J ([]:List Int))=some (r1,r2,r3,r4):=by rw[if_pos rfl] at H;exact H
   clear H
   have H:=H1
   clear H1
   have H':=Aside0.mk H
   clear H
   go_enter Try.func19,Try.ntmps19
   go_wp2_with (first|((with_reducible refine Qs (N:=3) rfl ?_);refine qE 3 #[.int .i64 D,.int .i64 I] 23 ?_;intro χ hg w8 hbox hb;have L:=Aside0.mk hbox;have ey:=sGe hg;have ez:=sGe hg;replace HB:=sHb hb;clear hb hbox hg)|((with_reducible refine Qs (N:=4) rfl ?_);refine qE 4 #[.slice ζ B.length γ,.slice η J.length δ] 27 ?_;intro bp hg w9 hbox hb;have X:=Aside0.mk hbox;have g8:=sGe hg;have g9:=sGe hg;have am:=sNl L hg;have an:=sNg L hg;replace L:=sBk L hb;replace HB:=sHb hb;clear hb hbox hg)|((with_reducible refine Qs (N:=6) rfl ?_);refine qE 6 #[.slice none 0 0,.slice none 0 0,.slice none 0 0] 47 ?_;intro a8 hg e4 hbox hb;have O:=Aside0.mk hbox;have e9:=sGe hg;have ea:=sGe hg;have ao:=sNl L hg;have ap:=sNg L hg;have ae:=sNl X hg;have af:=sNg X hg;replace L:=sBk L hb;replace X:=sBk X hb;replace HB:=sHb hb;clear hb hbox hg;have jy:=am.out;have jz:=an.out;have eb:=ao.out;have eu:=ap.out;obtain⟨d2,d3,d4,d5⟩:=qD2 L.out;have gz:=ae.out;have h0:=af.out;obtain⟨b3,b4,bu,bz⟩:=qD2 X.out)|((with_reducible refine Q0 (f:=14) rfl ?_);refine Zl (some 16) rfl rfl Try.func14 kr rfl #[.agg #[.int .i64 D,.int .i64 I],.agg #[.slice ζ B.length γ,.slice η J.length δ]] rfl qM ?_;(with_reducible refine(call_Check.calls k D I _ _ B _ _ J a5 _ ?side1 ?side2 ?side3 ?side4 A4.out).mono ?_);(case side1=>exact(Kd.Qx ai.out HB.out));(case side2=>exact ay.out);(case side3=>exact(Kd.Qx ak.out HB.out));(case side4=>exact az.out);rintro e b1 ⟨rfl,hb⟩;refine⟨_,rfl, ?_⟩;replace L:=sBk L hb;replace X:=sBk X hb;replace O:=sBk O hb;replace HB:=sHb hb;(try clear hb);(try clear a4);(try clear hk);(try clear hi);obtain⟨co,cp,cq,cr⟩:=qD2 L.out)|((with_reducible refine Q0 (f:=41) rfl ?_);refine Zl (some 25) rfl rfl Try.func41 kr rfl #[.int .i64 a2,.int .i64 0,.int .i64 (wrap64 (I-1))] rfl qM ?_;(with_reducible refine(call_within.calls a2 0 (wrap64 (I-1)) true _ A6.out).mono ?_);rintro e w' ⟨rfl,⟨nd,rfl⟩⟩;refine⟨_,rfl, ?_⟩;(try(rw[Gz b1];generalize hq_:World.drewN b1 _=b1;have Z:Aside0 (b1.heap[χ]?=some (.cells #[.int .i64 D,.int .i64 I] 23 (0,0))):=⟨by rw[← hq_];exact L.out⟩;have ε :Aside0 (b1.heap[bp]?=some (.cells #[.slice ζ B.length γ,.slice η J.length δ] 27 (0,0))):=⟨by rw[← hq_];exact X.out⟩;have ι :Aside0 (b1.heap[a8]?=some (.cells #[.slice none 0 0,.slice none 0 0,.slice none 0 0] 47 (0,0))):=⟨by rw[← hq_];exact O.out⟩;have κ :Aside0 (Below w.heap.size w b1):=⟨by rw[← hq_];exact HB.out⟩;clear L X O HB hq_;have L:=Z;have X:= ε;have O:= ι;have HB:= κ;clear Z ε ι κ));(try(have ej:b1.cell? ⟨χ,0,none⟩=some (.int .i64 D):=(Qi L.out 0).trans rfl));(try(have ek:b1.cell? ⟨χ,1,none⟩=some (.int .i64 I):=(Qi L.out 1).trans rfl));(try(have el:=Q6 L.out 0));(try(have em:=Q6 L.out 1)))|((with_reducible refine Qs (N:=9) rfl ?_);refine qE 9 #[.slice none 0 0,.slice none 0 0,.slice none 0 0] 47 ?_;intro ah hg fb hbox hb;have Y:=Aside0.mk hbox;have jw:=sGe hg;have dp:=sGe hg;have b7:=sNl L hg;have b8:=sNg L hg;have ar:=sNl X hg;have au:=sNg X hg;have ba:=sNl O hg;have bc:=sNg O hg;replace L:=sBk L hb;replace X:=sBk X hb;replace O:=sBk O hb;replace HB:=sHb hb;clear hb hbox hg;have da:=b8.out;have dd:=b7.out;have db:=au.out;have dc:=ar.out;have dx:=bc.out;have dy:=ba.out;obtain⟨ce,cf,dj,cg,ch,dk⟩:=qD3 Y.out;obtain⟨ci,ck,cm,cn⟩:=qD2 X.out))
   go_loopg [32] k (fun kq nm w'=>∃ (θ :Int) (ν :List Int) (μ :Value),nm = .int .i64 θ ∧ Aside0 (call_View.l0 kq a2 J (J.length:Int) θ B J ν = some (r1,r2,r3,r4))∧Aside0 (kq≤k)∧Aside0 (Kd.R (Kd.int .i64) 3 w' w.heap.size (fun _=>True) μ ν)∧Aside0 (w'.heap[χ]?=some (.cells #[.int .i64 D,.int .i64 I] 23 (0,0)))∧Aside0 (w'.heap[bp]?=some (.cells #[(.slice ζ B.length γ),(.slice η J.length δ)] 27 (0,0)))∧Aside0 (w'.heap[a8]?=some (.cells #[(.slice none 0 0),(.slice none 0 0),(.slice none 0 0)] 47 (0,0)))∧Aside0 (w'.heap[ah]?=some (.cells #[μ,(.slice none 0 0),(.slice none 0 0)] 47 (0,0)))∧Aside0 (Below w.heap.size w w'))
   case atStart=>exact⟨(0),(([]:List Int)),(.slice none 0 0),qR,H',⟨Nat.le_refl _⟩,⟨by first|exact Kd.Xz _ _ _ _ _|exact Kd.Yp _ _ _ _ _|exact Kd.Ym _ _ _ _ _|exact Kd.Yo _ _ _ _ _|exact Kd.Yn _ _ _ _ _⟩,⟨bka L⟩,⟨bka X⟩,⟨bka O⟩,⟨by(with_reducible repeat first|apply Qe|apply Qa|apply Qb);refine Qw (cs:=#[.slice none 0 0,.slice none 0 0,.slice none 0 0]) ?_ 2 _ rfl;(with_reducible repeat first|apply Qe|apply Qa|apply Qb);refine Qw (cs:=#[.slice none 0 0,.slice none 0 0,.slice none 0 0]) ?_ 1 _ rfl;(with_reducible repeat first|apply Qe|apply Qa|apply Qb);refine Qw (cs:=#[.slice none 0 0,.slice none 0 0,.slice none 0 0]) ?_ 0 _ rfl;(with_reducible repeat first|apply Qe|apply Qa|apply Qb);exact Y.out⟩,⟨bel⟩⟩
   case round=>
    clear H'
    try clear c1
    try clear c2
    try clear p2
    try clear c4
    try clear c5
    try clear c5b0
    try clear c5b1
    try clear p6
    try clear c7
    try clear ca
    try clear cj
    try clear a3
    try clear gm
    try clear dr
    try clear fj
    try clear m1
    try clear d2
    try clear d3
    try clear b3
    try clear b4
    try clear co
    try clear cp
    try clear ej
    try clear ek
    try clear ce
    try clear cf
    try clear dj
    try clear ci
    try clear ck
    try clear d4
    try clear d5
    try clear bu
    try clear bz
    try clear cq
    try clear cr
    try clear el
    try clear em
    try clear cg
    try clear ch
    try clear dk
    try clear cm
    try clear cn
    obtain⟨θ,ν,μ,rfl,HA,σ,HO_114000,L,X,O,Y,HB⟩:=hrel
    cases gk with
    |zero=>exact absurd HA.out (by simp[call_View.l0])
    |succ k1=>
     have H:=HA.out
     clear HA
     simp only[call_View.l0] at H
     by_cases bb: θ < (J.length:Int)
     ·rw[if_pos bb] at H
      have c25b0:decide (θ < (J.length:Int))=true:=decide_eq_true bb
      clear bb
      by_cases ac:0 ≤ θ
      ·rw[if_pos ac] at H
       have c26b0:decide (0 ≤ θ)=true:=decide_eq_true ac
       clear ac
       by_cases cd: θ < (J.length:Int)
       ·rw[if_pos cd] at H
        have c27b0:decide (θ < (J.length:Int))=true:=decide_eq_true cd
        clear cd
        by_cases ax:((Qo J θ).f0)=a2
        ·rw[if_pos ax] at H
         have c28b0:(((Qo J θ).f0)==a2)=true:=beq_iff_eq.mpr ax
         have c28b1:(((Qo J θ).f0) != a2)=false:=bne_eq_false_iff_eq.mpr ax
         clear ax
         by_cases bw: ν.length<17592186044416
         ·rw[if_pos bw] at H
          have ku:=Aside0.mk bw
          clear bw
          obtain⟨d8,av⟩:∃ y_:List Int,y_=(ν ++ [(Qo J θ).f1]):=⟨_,rfl⟩
          replace H:(call_View.l0 k1 a2 J (J.length:Int) (wrap64 (θ + 1)) B J d8)=some (r1,r2,r3,r4):=by first|(rw[av];with_reducible exact H)|(have τ :=(Option.bind_some _ _).symm.trans H;rw[av];with_reducible exact τ)|(have τ :=(Option.bind_some _ _).symm.trans H;with_reducible exact τ)|with_reducible exact H|(rw[av];exact H)|exact H
          have dm:=Aside0.mk av
          clear av
          have H':=Aside0.mk H
          clear H
          have aw:0≤(θ :Int):=of_decide_eq_true (by assumption)
          have b5: θ < (J.length:Int):=of_decide_eq_true (by assumption)
          obtain⟨dq,e3,a0,a7⟩:=Zu ak.out θ aw b5
          cases e3
          replace a0:=(HB.out.cell (World.block_lt_of_cell? w _ a0)).trans a0
          replace a7:=(HB.out.cell (World.block_lt_of_cell? w _ a7)).trans a7
          replace aw:=eq_true aw
          replace b5:=eq_true b5
          go_wp2_with (first|((with_reducible refine Qs (N:=11) rfl ?_);refine qE 11 #[.int .i64 0,.int .i64 0] 62 ?_;intro ga hg f3 hbox hb;have bq:=Aside0.mk hbox;have kv:=sGe hg;have kw:=sGe hg;have cb:=sNl L hg;have ct:=sNg L hg;have cu:=sNl X hg;have cv:=sNg X hg;have cw:=sNl O hg;have cx:=sNg O hg;have cz:=sNl Y hg;have d0:=sNg Y hg;replace HO_114000:=sRb HO_114000 hb;replace L:=sBk L hb;replace X:=sBk X hb;replace O:=sBk O hb;replace Y:=sBk Y hb;replace HB:=sHb hb;clear hb hbox hg;have g6:=ct.out;have g7:=cb.out;have fr:=cv.out;have g1:=cu.out;have ef:=cx.out;have eg:=cw.out;have k4:=d0.out;have kb:=cz.out;obtain⟨ee,en,eo,ep⟩:=qD2 bq.out;have dv:=b8.out;have dw:=b7.out;have gb:=au.out;have gh:=ar.out;have g4:=bc.out;have g5:=ba.out;obtain⟨gy,h9,ha,he,hh,i4⟩:=qD3 Y.out)|((with_reducible refine Z5 (b:=.append) (xs:=#[.tmp 41,.tmp 44]) rfl ?_);at_builtin;refine Kd.Yx (Kd.int .i64) (w0:=w) w.heap.size rfl (.tmp 41) (.tmp 44) 45 3 (.int .i64 0) 8 rfl Try.underlying45 Kb rfl (by decide) (by omega) μ ν ((Qo J θ).f1) [.int .i64 ((Qo J θ).f1)] (fun _=>True) (fun _=>False) rfl (by first|(go_simp;done)|(go_simp;rfl)) ?aP (fun _ hk=>hk.elim) ?aF ?aO ?aB ?aS ?aL ?_;(case aP=>exact rfl);(case aB=>exact bel);(case aF=>exact(fun _ _=>trivial));(case aO=>exact(by(with_reducible repeat first|apply Kd.Qk|apply Kd.Qj|apply Kd.Qm);exact Kd.Qq (Kd.Qr (Kd.Qr (Kd.Qu HO_114000.out bq.out (by decide)) (fun _ hk=>hk.2) (.int .i64 ((Qo J θ).f0))) (fun _ hk=>hk.2) (.int .i64 ((Qo J θ).f1))) (fun _ hk=>trivial)));(case aS=>exact(Ql bel));(case aL=>have:=ku.out;omega);intro lh o2 ho hb hg hat;rw[← dm.out] at ho;have d1:=Aside0.mk ho;replace L:=Aside0.mk (Q4 (g:= χ) (o:=.cells #[.int .i64 D,.int .i64 I] 23 (0,0)) (bka L) hg (Kd.Z4 HO_114000.out L.out (by decide)));replace X:=Aside0.mk (Q4 (g:=bp) (o:=.cells #[.slice ζ B.length γ,.slice (some dq) J.length δ] 27 (0,0)) (bka X) hg (Kd.Z4 HO_114000.out X.out (by decide)));replace O:=Aside0.mk (Q4 (g:=a8) (o:=.cells #[.slice none 0 0,.slice none 0 0,.slice none 0 0] 47 (0,0)) (bka O) hg (Kd.Z4 HO_114000.out O.out (by decide)));replace Y:=Aside0.mk (Q4 (g:=ah) (o:=.cells #[μ,.slice none 0 0,.slice none 0 0] 47 (0,0)) (bka Y) hg (Kd.Z4 HO_114000.out Y.out (by decide)));replace bq:=Aside0.mk (Q4 (g:=ga) (o:=.cells #[.int .i64 ((Qo J θ).f0),.int .i64 ((Qo J θ).f1)] 62 (0,0)) (by(with_reducible repeat first|apply Qe|apply Qa|apply Qb);refine Qw (cs:=#[.int .i64 ((Qo J θ).f0),.int .i64 0]) ?_ 1 _ rfl;(with_reducible repeat first|apply Qe|apply Qa|apply Qb);refine Qw (cs:=#[.int .i64 0,.int .i64 0]) ?_ 0 _ rfl;(with_reducible repeat first|apply Qe|apply Qa|apply Qb);exact bq.out) hg (Kd.Z4 HO_114000.out bq.out (by decide)));replace HB:=Aside0.mk hb;clear HO_114000;clear ho hb hg hat;obtain⟨dt,du,k7⟩:=Kd.Q3 d1.out;subst k7;obtain⟨i6,j5,j6,j7,j8,js⟩:=qD3 Y.out))
          go_roundg k1
          case measure=>have:=σ.out;omega
          case rel=>exact⟨(wrap64 (θ + 1)),(d8),(.slice dt d8.length du),qR,H',⟨by have:=σ.out;omega⟩,⟨by(with_reducible repeat first|apply Kd.Qk|apply Kd.Qj|apply Kd.Qm);exact Kd.Qq (Kd.Qr (Kd.Qu d1.out Y.out (by decide)) (fun _ hk=>hk.2) _) (fun _ hk=>trivial)⟩,⟨bka L⟩,⟨bka X⟩,⟨bka O⟩,⟨by(with_reducible repeat first|apply Qe|apply Qa|apply Qb);refine Qw (cs:=#[μ,.slice none 0 0,.slice none 0 0]) ?_ 0 _ rfl;(with_reducible repeat first|apply Qe|apply Qa|apply Qb);exact Y.out⟩,⟨bel⟩⟩
         ·rw[if_neg bw] at H
          exact absurd H (by simp)
        ·rw[if_neg ax] at H
         have c28b0:(((Qo J θ).f0)==a2)=false:=beq_eq_false_iff_ne.mpr ax
         have c28b1:(((Qo J θ).f0) != a2)=true:=bne_iff_ne.mpr ax
         have H':=Aside0.mk H
         clear H
         have aw:0≤(θ :Int):=of_decide_eq_true (by assumption)
         have b5: θ < (J.length:Int):=of_decide_eq_true (by assumption)
         obtain⟨dq,e3,a0,a7⟩:=Zu ak.out θ aw b5
         cases e3
         replace a0:=(HB.out.cell (World.block_lt_of_cell? w _ a0)).trans a0
         replace a7:=(HB.out.cell (World.block_lt_of_cell? w _ a7)).trans a7
         replace aw:=eq_true aw
         replace b5:=eq_true b5
         go_wp2_with (first|((with_reducible refine Qs (N:=11) rfl ?_);refine qE 11 #[.int .i64 0,.int .i64 0] 62 ?_;intro ga hg o3 hbox hb;have bq:=Aside0.mk hbox;have kv:=sGe hg;have kw:=sGe hg;have cb:=sNl L hg;have ct:=sNg L hg;have cu:=sNl X hg;have cv:=sNg X hg;have cw:=sNl O hg;have cx:=sNg O hg;have cz:=sNl Y hg;have d0:=sNg Y hg;replace HO_114000:=sRb HO_114000 hb;replace L:=sBk L hb;replace X:=sBk X hb;replace O:=sBk O hb;replace Y:=sBk Y hb;replace HB:=sHb hb;clear hb hbox hg;have kc:=ct.out;have kd:=cb.out;have ll:=cv.out;have lm:=cu.out;have ln:=cx.out;have lp:=cw.out;have lq:=d0.out;have lr:=cz.out;obtain⟨fv,fw,fx,fy⟩:=qD2 bq.out))
         go_roundg k1
         case measure=>have:=σ.out;omega
         case rel=>exact⟨(wrap64 (θ + 1)),(ν),(μ),qR,H',⟨by have:=σ.out;omega⟩,⟨by(with_reducible repeat first|apply Kd.Qk|apply Kd.Qj|apply Kd.Qm);exact Kd.Qq (Kd.Qr (Kd.Qr (Kd.Qu HO_114000.out bq.out (by decide)) (fun _ hk=>hk.2) (.int .i64 ((Qo J θ).f0))) (fun _ hk=>hk.2) (.int .i64 ((Qo J θ).f1))) (fun _ hk=>trivial)⟩,⟨bka L⟩,⟨bka X⟩,⟨bka O⟩,⟨bka Y⟩,⟨bel⟩⟩
       ·rw[if_neg cd] at H
        exact absurd H (by simp)
      ·rw[if_neg ac] at H
       exact absurd H (by simp)
     ·rw[if_neg bb] at H
      have c25b0:decide (θ < (J.length:Int))=false:=decide_eq_false bb
      clear bb
      have H':=Aside0.mk H
      clear H
      have k5:=an.out
      have k6:=am.out
      have ie:=ae.out
      have ig:=af.out
      have ev:=ar.out
      have ew:=au.out
      obtain⟨e5,e6,e7,e8⟩:=qD2 X.out
      go_wp2
      go_loopg [51] k1 (fun kq nn w'=>∃ (U:Int) (a1:List Int) (ab:List Int) (a9:Value) (aa:Value),nn = .int .i64 U∧Aside0 (call_View.l1 kq a2 B (B.length:Int) U ν a1 ab=some (r1,r2,r3,r4))∧Aside0 (kq≤k1)∧Aside0 (Kd.R (Kd.int .i64) 3 w' w.heap.size (fun k_=>some k_≠(a9:Value).ownBlock∧some k_≠(aa:Value).ownBlock) μ ν)∧Aside0 (Kd.R (Kd.int .i64) 3 w' w.heap.size (fun k_=>some k_≠(μ :Value).ownBlock∧some k_≠(aa:Value).ownBlock) a9 a1)∧Aside0 (Kd.R (Kd.int .i64) 3 w' w.heap.size (fun k_=>some k_≠(μ :Value).ownBlock∧some k_≠(a9:Value).ownBlock) aa ab)∧Aside0 (w'.heap[χ]?=some (.cells #[.int .i64 D,.int .i64 I] 23 (0,0)))∧Aside0 (w'.heap[bp]?=some (.cells #[(.slice ζ B.length γ),(.slice η J.length δ)] 27 (0,0)))∧Aside0 (w'.heap[a8]?=some (.cells #[(.slice none 0 0),(.slice none 0 0),(.slice none 0 0)] 47 (0,0)))∧Aside0 (w'.heap[ah]?=some (.cells #[μ,a9,aa] 47 (0,0)))∧Aside0 (Below w.heap.size w w'))
      case atStart=>exact⟨(0),(([]:List Int)),(([]:List Int)),(.slice none 0 0),(.slice none 0 0),rfl,H',⟨Nat.le_refl _⟩,⟨by(with_reducible repeat first|apply Kd.Qk|apply Kd.Qj|apply Kd.Qm);exact Kd.Qq HO_114000.out (fun _ hk=>⟨(by simp[Value.ownBlock]),(by simp[Value.ownBlock])⟩)⟩,⟨by first|exact Kd.Xz _ _ _ _ _|exact Kd.Yp _ _ _ _ _|exact Kd.Ym _ _ _ _ _|exact Kd.Yo _ _ _ _ _|exact Kd.Yn _ _ _ _ _⟩,⟨by first|exact Kd.Xz _ _ _ _ _|exact Kd.Yp _ _ _ _ _|exact Kd.Ym _ _ _ _ _|exact Kd.Yo _ _ _ _ _|exact Kd.Yn _ _ _ _ _⟩,L,X,O,Y,HB⟩
      case round=>
       clear H'
       try clear c1
       try clear p1
       try clear q1
       try clear bv
       try clear c2
       try clear p2
       try clear c3
       try clear c4
       try clear c5
       try clear c5b0
       try clear c5b1
       try clear p6
       try clear c7
       try clear ca
       try clear nj
       try clear nk
       try clear m2
       try clear cj
       try clear a3
       try clear gm
       try clear dr
       try clear fj
       try clear m1
       try clear bb
       try clear c25b0
       try clear ac
       try clear c26b0
       try clear cd
       try clear c27b0
       try clear ax
       try clear c28b0
       try clear c28b1
       try clear bw
       try clear ls
       try clear iy
       try clear j9
       try clear nl
       try clear lf
       try clear d6
       try clear jt
       try clear lz
       try clear dl
       try clear g0
       try clear ec
       try clear fe
       try clear ed
       try clear i3
       try clear dn
       try clear d2
       try clear d3
       try clear b3
       try clear b4
       try clear co
       try clear cp
       try clear ej
       try clear ek
       try clear ce
       try clear cf
       try clear dj
       try clear ci
       try clear ck
       try clear ee
       try clear en
       try clear gy
       try clear h9
       try clear ha
       try clear i6
       try clear j5
       try clear j6
       try clear fv
       try clear fw
       try clear e5
       try clear e6
       try clear d4
       try clear d5
       try clear bu
       try clear bz
       try clear cq
       try clear cr
       try clear el
       try clear em
       try clear cg
       try clear ch
       try clear dk
       try clear cm
       try clear cn
       try clear eo
       try clear ep
       try clear he
       try clear hh
       try clear i4
       try clear j7
       try clear j8
       try clear js
       try clear fx
       try clear fy
       try clear e7
       try clear e8
       try clear a0
       try clear a7
       try clear aw
       try clear p2
       try clear p6
       try clear b5
       obtain⟨U,a1,ab,a9,aa,rfl,HA,ag,HO_114000,HO_114001,HO_114002,L,X,O,Y,HB⟩:=hrel
       cases gk with
       |zero=>exact absurd HA.out (by simp[call_View.l1])
       |succ k2=>
        have H:=HA.out
        clear HA
        simp only[call_View.l1] at H
        by_cases d7:U<(B.length:Int)
        ·rw[if_pos d7] at H
         have c53b0:decide (U<(B.length:Int))=true:=decide_eq_true d7
         clear d7
         by_cases ff:0≤U
         ·rw[if_pos ff] at H
          have c54b0:decide (0≤U)=true:=decide_eq_true ff
          clear ff
          by_cases jf:U<(B.length:Int)
          ·rw[if_pos jf] at H
           have c55b0:decide (U<(B.length:Int))=true:=decide_eq_true jf
           clear jf
           by_cases gn:((Qg B U).f2)=a2
           ·rw[if_pos gn] at H
            have c56b0:(((Qg B U).f2)==a2)=true:=beq_iff_eq.mpr gn
            have c56b1:(((Qg B U).f2) != a2)=false:=bne_eq_false_iff_eq.mpr gn
            clear gn
            by_cases gu:((Qg B U).f1)>0
            ·rw[if_pos gu] at H
             have c57b0:decide (0<((Qg B U).f1))=true:=decide_eq_true gu
             clear gu
             by_cases i7:a1.length<17592186044416
             ·rw[if_pos i7] at H
              have kx:=Aside0.mk i7
              clear i7
              obtain⟨fz,df⟩:∃ y_:List Int,y_=(a1 ++ [(Qg B U).f0]):=⟨_,rfl⟩
              replace H:(call_View.l1 k2 a2 B (B.length:Int) (wrap64 (U+1)) ν fz ab)=some (r1,r2,r3,r4):=by first|(rw[df];with_reducible exact H)|(have τ :=(Option.bind_some _ _).symm.trans H;rw[df];with_reducible exact τ)|(have τ :=(Option.bind_some _ _).symm.trans H;with_reducible exact τ)|with_reducible exact H|(rw[df];exact H)|exact H
              have ky:=Aside0.mk df
              clear df
              have H':=Aside0.mk H
              clear H
              have aj:0≤(U:Int):=of_decide_eq_true (by assumption)
              have al:U<(B.length:Int):=of_decide_eq_true (by assumption)
              obtain⟨b6,d9,ξ,ψ,ω⟩:=Zw ai.out U aj al
              cases d9
              replace ξ :=(HB.out.cell (World.block_lt_of_cell? w _ ξ)).trans ξ
              replace ψ :=(HB.out.cell (World.block_lt_of_cell? w _ ψ)).trans ψ
              replace ω :=(HB.out.cell (World.block_lt_of_cell? w _ ω)).trans ω
              replace aj:=eq_true aj
              replace al:=eq_true al
              go_wp2_with (first|((with_reducible refine Qs (N:=13) rfl ?_);refine qE 13 #[.int .i64 0,.int .i64 0,.int .i64 0] 56 ?_;intro φ hg lu hbox hb;have ρ:=Aside0.mk hbox;have dz:=sGe hg;have e0:=sGe hg;have bd:=sNl L hg;have be:=sNg L hg;have bf:=sNl X hg;have bg:=sNg X hg;have bh:=sNl O hg;have bi:=sNg O hg;have bn:=sNl Y hg;have bo:=sNg Y hg;replace HO_114000:=sRb HO_114000 hb;replace HO_114001:=sRb HO_114001 hb;replace HO_114002:=sRb HO_114002 hb;replace L:=sBk L hb;replace X:=sBk X hb;replace O:=sBk O hb;replace Y:=sBk Y hb;replace HB:=sHb hb;clear hb hbox hg;have lv:=be.out;have lw:=bd.out;have ih:=bg.out;have ii:=bf.out;have k8:=bi.out;have k9:=bh.out;have ir:=bo.out;have it:=bn.out;obtain⟨ge,gf,gp,gg,gq,h4⟩:=qD3 ρ.out;have gs:=b8.out;have gt:=b7.out;have i9:=au.out;have ia:=ar.out;have ja:=bc.out;have jb:=ba.out;obtain⟨er,f5,h5,f7,f8,h6⟩:=qD3 Y.out)|((with_reducible refine Z5 (b:=.append) (xs:=#[.tmp 72,.tmp 75]) rfl ?_);at_builtin;refine Kd.Yx (Kd.int .i64) (w0:=w) w.heap.size rfl (.tmp 72) (.tmp 75) 45 3 (.int .i64 0) 8 rfl Try.underlying45 Kb rfl (by decide) (by omega) a9 a1 ((Qg B U).f0) [.int .i64 ((Qg B U).f0)] (fun k_=>some k_≠(μ :Value).ownBlock∧some k_≠(aa:Value).ownBlock) (fun _=>False) rfl (by first|(go_simp;done)|(go_simp;rfl)) ?aP (fun _ hk=>hk.elim) ?aF ?aO ?aB ?aS ?aL ?_;(case aP=>exact rfl);(case aB=>exact bel);(case aF=>exact(fun k_ hk=>⟨Kd.fresh' (Kd.Zq (by(with_reducible repeat first|apply Kd.Qk|apply Kd.Qj|apply Kd.Qm);exact(Kd.Qq (Kd.Qr (Kd.Qr (Kd.Qr (Kd.Qu HO_114000.out ρ.out (by decide)) (fun _ hk=>hk.2) (.int .i64 ((Qg B U).f0))) (fun _ hk=>hk.2) (.int .i64 ((Qg B U).f1))) (fun _ hk=>hk.2) (.int .i64 ((Qg B U).f2))) (fun _ h_=>h_.1)))) k_ hk,Kd.fresh' (Kd.Zq (by(with_reducible repeat first|apply Kd.Qk|apply Kd.Qj|apply Kd.Qm);exact(Kd.Qq (Kd.Qr (Kd.Qr (Kd.Qr (Kd.Qu HO_114002.out ρ.out (by decide)) (fun _ hk=>hk.2) (.int .i64 ((Qg B U).f0))) (fun _ hk=>hk.2) (.int .i64 ((Qg B U).f1))) (fun _ hk=>hk.2) (.int .i64 ((Qg B U).f2))) (fun _ h_=>h_.1)))) k_ hk⟩));(case aO=>exact(by(with_reducible repeat first|apply Kd.Qk|apply Kd.Qj|apply Kd.Qm);exact Kd.Qq (Kd.Qr (Kd.Qr (Kd.Qr (Kd.Qu HO_114001.out ρ.out (by decide)) (fun _ hk=>hk.2) (.int .i64 ((Qg B U).f0))) (fun _ hk=>hk.2) (.int .i64 ((Qg B U).f1))) (fun _ hk=>hk.2) (.int .i64 ((Qg B U).f2))) (fun _ hk=>⟨hk.1.1,hk.1.2⟩)));(case aS=>exact(Ql bel));(case aL=>have:=kx.out;omega);intro nz m0 ho hb hg hat;rw[← ky.out] at ho;have gi:=Aside0.mk ho;replace HO_114000:=Aside0.mk (Kd.Xl (ok:=(fun k_=>some k_≠(aa:Value).ownBlock)) (by(with_reducible repeat first|apply Kd.Qk|apply Kd.Qj|apply Kd.Qm);exact Kd.Qq (Kd.Qr (Kd.Qr (Kd.Qr (Kd.Qu HO_114000.out ρ.out (by decide)) (fun _ hk=>hk.2) (.int .i64 ((Qg B U).f0))) (fun _ hk=>hk.2) (.int .i64 ((Qg B U).f1))) (fun _ hk=>hk.2) (.int .i64 ((Qg B U).f2))) (fun _ hk=>⟨hk.1.2,hk.1.1⟩)) hg hat);replace HO_114002:=Aside0.mk (Kd.Xl (ok:=(fun k_=>some k_≠(μ :Value).ownBlock)) (by(with_reducible repeat first|apply Kd.Qk|apply Kd.Qj|apply Kd.Qm);exact Kd.Qq (Kd.Qr (Kd.Qr (Kd.Qr (Kd.Qu HO_114002.out ρ.out (by decide)) (fun _ hk=>hk.2) (.int .i64 ((Qg B U).f0))) (fun _ hk=>hk.2) (.int .i64 ((Qg B U).f1))) (fun _ hk=>hk.2) (.int .i64 ((Qg B U).f2))) (fun _ hk=>⟨hk.1.1,hk.1.2⟩)) hg hat);replace L:=Aside0.mk (Q4 (g:= χ) (o:=.cells #[.int .i64 D,.int .i64 I] 23 (0,0)) (bka L) hg (Kd.Z4 HO_114001.out L.out (by decide)));replace X:=Aside0.mk (Q4 (g:=bp) (o:=.cells #[.slice (some b6) B.length γ,.slice η J.length δ] 27 (0,0)) (bka X) hg (Kd.Z4 HO_114001.out X.out (by decide)));replace O:=Aside0.mk (Q4 (g:=a8) (o:=.cells #[.slice none 0 0,.slice none 0 0,.slice none 0 0] 47 (0,0)) (bka O) hg (Kd.Z4 HO_114001.out O.out (by decide)));replace Y:=Aside0.mk (Q4 (g:=ah) (o:=.cells #[μ,a9,aa] 47 (0,0)) (bka Y) hg (Kd.Z4 HO_114001.out Y.out (by decide)));replace ρ:=Aside0.mk (Q4 (g:= φ) (o:=.cells #[.int .i64 ((Qg B U).f0),.int .i64 ((Qg B U).f1),.int .i64 ((Qg B U).f2)] 56 (0,0)) (by(with_reducible repeat first|apply Qe|apply Qa|apply Qb);refine Qw (cs:=#[.int .i64 ((Qg B U).f0),.int .i64 ((Qg B U).f1),.int .i64 0]) ?_ 2 _ rfl;(with_reducible repeat first|apply Qe|apply Qa|apply Qb);refine Qw (cs:=#[.int .i64 ((Qg B U).f0),.int .i64 0,.int .i64 0]) ?_ 1 _ rfl;(with_reducible repeat first|apply Qe|apply Qa|apply Qb);refine Qw (cs:=#[.int .i64 0,.int .i64 0,.int .i64 0]) ?_ 0 _ rfl;(with_reducible repeat first|apply Qe|apply Qa|apply Qb);exact ρ.out) hg (Kd.Z4 HO_114001.out ρ.out (by decide)));replace HB:=Aside0.mk hb;clear HO_114001;clear ho hb hg hat;obtain⟨m3,m4,m5⟩:=Kd.Q3 gi.out;subst m5;obtain⟨h7,h8,i5,il,iz,j3⟩:=qD3 Y.out))
              go_roundg k2
              case measure=>have:=σ.out;have:=ag.out;omega
              case rel=>exact⟨(wrap64 (U+1)),(fz),(ab),(.slice m3 fz.length m4),(aa),qR,H',⟨by have:=σ.out;have:=ag.out;omega⟩,⟨by(with_reducible repeat first|apply Kd.Qk|apply Kd.Qj|apply Kd.Qm);exact Kd.Qq (Kd.Qr (Kd.Qu HO_114000.out Y.out (by decide)) (fun _ hk=>hk.2) _) (fun _ hk=>⟨hk.1.2,hk.1.1⟩)⟩,⟨by(with_reducible repeat first|apply Kd.Qk|apply Kd.Qj|apply Kd.Qm);exact Kd.Qq (Kd.Qr (Kd.Qu gi.out Y.out (by decide)) (fun _ hk=>hk.2) _) (fun _ hk=>⟨hk.1.1,hk.1.2⟩)⟩,⟨by(with_reducible repeat first|apply Kd.Qk|apply Kd.Qj|apply Kd.Qm);exact Kd.Qq (Kd.Qr (Kd.Qu HO_114002.out Y.out (by decide)) (fun _ hk=>hk.2) _) (fun _ hk=>⟨hk.1.1,hk.1.2⟩)⟩,⟨bka L⟩,⟨bka X⟩,⟨bka O⟩,⟨by(with_reducible repeat first|apply Qe|apply Qa|apply Qb);refine Qw (cs:=#[μ,a9,aa]) ?_ 1 _ rfl;(with_reducible repeat first|apply Qe|apply Qa|apply Qb);exact Y.out⟩,⟨bel⟩⟩
             ·rw[if_neg i7] at H
              exact absurd H (by simp)
            ·rw[if_neg gu] at H
             have c57b0:decide (0<((Qg B U).f1))=false:=decide_eq_false gu
             clear gu
             by_cases g3:ab.length<17592186044416
             ·rw[if_pos g3] at H
              have kz:=Aside0.mk g3
              clear g3
              obtain⟨g2,dh⟩:∃ y_:List Int,y_=(ab ++ [(Qg B U).f0]):=⟨_,rfl⟩
              replace H:(call_View.l1 k2 a2 B (B.length:Int) (wrap64 (U+1)) ν a1 g2)=some (r1,r2,r3,r4):=by first|(rw[dh];with_reducible exact H)|(have τ :=(Option.bind_some _ _).symm.trans H;rw[dh];with_reducible exact τ)|(have τ :=(Option.bind_some _ _).symm.trans H;with_reducible exact τ)|with_reducible exact H|(rw[dh];exact H)|exact H
              have l2:=Aside0.mk dh
              clear dh
              have H':=Aside0.mk H
              clear H
              have aj:0≤(U:Int):=of_decide_eq_true (by assumption)
              have al:U<(B.length:Int):=of_decide_eq_true (by assumption)
              obtain⟨b6,d9,ξ,ψ,ω⟩:=Zw ai.out U aj al
              cases d9
              replace ξ :=(HB.out.cell (World.block_lt_of_cell? w _ ξ)).trans ξ
              replace ψ :=(HB.out.cell (World.block_lt_of_cell? w _ ψ)).trans ψ
              replace ω :=(HB.out.cell (World.block_lt_of_cell? w _ ω)).trans ω
              replace aj:=eq_true aj
              replace al:=eq_true al
              go_wp2_with (first|((with_reducible refine Qs (N:=13) rfl ?_);refine qE 13 #[.int .i64 0,.int .i64 0,.int .i64 0] 56 ?_;intro φ hg no hbox hb;have ρ:=Aside0.mk hbox;have dz:=sGe hg;have e0:=sGe hg;have bd:=sNl L hg;have be:=sNg L hg;have bf:=sNl X hg;have bg:=sNg X hg;have bh:=sNl O hg;have bi:=sNg O hg;have bn:=sNl Y hg;have bo:=sNg Y hg;replace HO_114000:=sRb HO_114000 hb;replace HO_114001:=sRb HO_114001 hb;replace HO_114002:=sRb HO_114002 hb;replace L:=sBk L hb;replace X:=sBk X hb;replace O:=sBk O hb;replace Y:=sBk Y hb;replace HB:=sHb hb;clear hb hbox hg;have jd:=be.out;have je:=bd.out;have jh:=bg.out;have ji:=bf.out;have ij:=bi.out;have ik:=bh.out;have ib:=bo.out;have ic:=bn.out;obtain⟨gr,gv,n0,gw,gx,n1⟩:=qD3 ρ.out;have lx:=b8.out;have ly:=b7.out;have k0:=au.out;have k3:=ar.out;have im:=bc.out;have iq:=ba.out;obtain⟨f9,fg,j4,fh,fi,jj⟩:=qD3 Y.out)|((with_reducible refine Z5 (b:=.append) (xs:=#[.tmp 56,.tmp 59]) rfl ?_);at_builtin;refine Kd.Yx (Kd.int .i64) (w0:=w) w.heap.size rfl (.tmp 56) (.tmp 59) 45 3 (.int .i64 0) 8 rfl Try.underlying45 Kb rfl (by decide) (by omega) aa ab ((Qg B U).f0) [.int .i64 ((Qg B U).f0)] (fun k_=>some k_≠(μ :Value).ownBlock∧some k_≠(a9:Value).ownBlock) (fun _=>False) rfl (by first|(go_simp;done)|(go_simp;rfl)) ?aP (fun _ hk=>hk.elim) ?aF ?aO ?aB ?aS ?aL ?_;(case aP=>exact rfl);(case aB=>exact bel);(case aF=>exact(fun k_ hk=>⟨Kd.fresh' (Kd.Zq (by(with_reducible repeat first|apply Kd.Qk|apply Kd.Qj|apply Kd.Qm);exact(Kd.Qq (Kd.Qr (Kd.Qr (Kd.Qr (Kd.Qu HO_114000.out ρ.out (by decide)) (fun _ hk=>hk.2) (.int .i64 ((Qg B U).f0))) (fun _ hk=>hk.2) (.int .i64 ((Qg B U).f1))) (fun _ hk=>hk.2) (.int .i64 ((Qg B U).f2))) (fun _ h_=>h_.1)))) k_ hk,Kd.fresh' (Kd.Zq (by(with_reducible repeat first|apply Kd.Qk|apply Kd.Qj|apply Kd.Qm);exact(Kd.Qq (Kd.Qr (Kd.Qr (Kd.Qr (Kd.Qu HO_114001.out ρ.out (by decide)) (fun _ hk=>hk.2) (.int .i64 ((Qg B U).f0))) (fun _ hk=>hk.2) (.int .i64 ((Qg B U).f1))) (fun _ hk=>hk.2) (.int .i64 ((Qg B U).f2))) (fun _ h_=>h_.1)))) k_ hk⟩));(case aO=>exact(by(with_reducible repeat first|apply Kd.Qk|apply Kd.Qj|apply Kd.Qm);exact Kd.Qq (Kd.Qr (Kd.Qr (Kd.Qr (Kd.Qu HO_114002.out ρ.out (by decide)) (fun _ hk=>hk.2) (.int .i64 ((Qg B U).f0))) (fun _ hk=>hk.2) (.int .i64 ((Qg B U).f1))) (fun _ hk=>hk.2) (.int .i64 ((Qg B U).f2))) (fun _ hk=>⟨hk.1.1,hk.1.2⟩)));(case aS=>exact(Ql bel));(case aL=>have:=kz.out;omega);intro m6 lg ho hb hg hat;rw[← l2.out] at ho;have di:=Aside0.mk ho;replace HO_114000:=Aside0.mk (Kd.Xl (ok:=(fun k_=>some k_≠(a9:Value).ownBlock)) (by(with_reducible repeat first|apply Kd.Qk|apply Kd.Qj|apply Kd.Qm);exact Kd.Qq (Kd.Qr (Kd.Qr (Kd.Qr (Kd.Qu HO_114000.out ρ.out (by decide)) (fun _ hk=>hk.2) (.int .i64 ((Qg B U).f0))) (fun _ hk=>hk.2) (.int .i64 ((Qg B U).f1))) (fun _ hk=>hk.2) (.int .i64 ((Qg B U).f2))) (fun _ hk=>⟨hk.1.1,hk.1.2⟩)) hg hat);replace HO_114001:=Aside0.mk (Kd.Xl (ok:=(fun k_=>some k_≠(μ :Value).ownBlock)) (by(with_reducible repeat first|apply Kd.Qk|apply Kd.Qj|apply Kd.Qm);exact Kd.Qq (Kd.Qr (Kd.Qr (Kd.Qr (Kd.Qu HO_114001.out ρ.out (by decide)) (fun _ hk=>hk.2) (.int .i64 ((Qg B U).f0))) (fun _ hk=>hk.2) (.int .i64 ((Qg B U).f1))) (fun _ hk=>hk.2) (.int .i64 ((Qg B U).f2))) (fun _ hk=>⟨hk.1.1,hk.1.2⟩)) hg hat);replace L:=Aside0.mk (Q4 (g:= χ) (o:=.cells #[.int .i64 D,.int .i64 I] 23 (0,0)) (bka L) hg (Kd.Z4 HO_114002.out L.out (by decide)));replace X:=Aside0.mk (Q4 (g:=bp) (o:=.cells #[.slice (some b6) B.length γ,.slice η J.length δ] 27 (0,0)) (bka X) hg (Kd.Z4 HO_114002.out X.out (by decide)));replace O:=Aside0.mk (Q4 (g:=a8) (o:=.cells #[.slice none 0 0,.slice none 0 0,.slice none 0 0] 47 (0,0)) (bka O) hg (Kd.Z4 HO_114002.out O.out (by decide)));replace Y:=Aside0.mk (Q4 (g:=ah) (o:=.cells #[μ,a9,aa] 47 (0,0)) (bka Y) hg (Kd.Z4 HO_114002.out Y.out (by decide)));replace ρ:=Aside0.mk (Q4 (g:= φ) (o:=.cells #[.int .i64 ((Qg B U).f0),.int .i64 ((Qg B U).f1),.int .i64 ((Qg B U).f2)] 56 (0,0)) (by(with_reducible repeat first|apply Qe|apply Qa|apply Qb);refine Qw (cs:=#[.int .i64 ((Qg B U).f0),.int .i64 ((Qg B U).f1),.int .i64 0]) ?_ 2 _ rfl;(with_reducible repeat first|apply Qe|apply Qa|apply Qb);refine Qw (cs:=#[.int .i64 ((Qg B U).f0),.int .i64 0,.int .i64 0]) ?_ 1 _ rfl;(with_reducible repeat first|apply Qe|apply Qa|apply Qb);refine Qw (cs:=#[.int .i64 0,.int .i64 0,.int .i64 0]) ?_ 0 _ rfl;(with_reducible repeat first|apply Qe|apply Qa|apply Qb);exact ρ.out) hg (Kd.Z4 HO_114002.out ρ.out (by decide)));replace HB:=Aside0.mk hb;clear HO_114002;clear ho hb hg hat;obtain⟨fa,fc,fk⟩:=Kd.Q3 di.out;subst fk;obtain⟨jk,jl,jm,jn,jo,jp⟩:=qD3 Y.out))
              go_roundg k2
              case measure=>have:=σ.out;have:=ag.out;omega
              case rel=>exact⟨(wrap64 (U+1)),(a1),(g2),(a9),(.slice fa g2.length fc),qR,H',⟨by have:=σ.out;have:=ag.out;omega⟩,⟨by(with_reducible repeat first|apply Kd.Qk|apply Kd.Qj|apply Kd.Qm);exact Kd.Qq (Kd.Qr (Kd.Qu HO_114000.out Y.out (by decide)) (fun _ hk=>hk.2) _) (fun _ hk=>⟨hk.1.1,hk.1.2⟩)⟩,⟨by(with_reducible repeat first|apply Kd.Qk|apply Kd.Qj|apply Kd.Qm);exact Kd.Qq (Kd.Qr (Kd.Qu HO_114001.out Y.out (by decide)) (fun _ hk=>hk.2) _) (fun _ hk=>⟨hk.1.1,hk.1.2⟩)⟩,⟨by(with_reducible repeat first|apply Kd.Qk|apply Kd.Qj|apply Kd.Qm);exact Kd.Qq (Kd.Qr (Kd.Qu di.out Y.out (by decide)) (fun _ hk=>hk.2) _) (fun _ hk=>⟨hk.1.1,hk.1.2⟩)⟩,⟨bka L⟩,⟨bka X⟩,⟨bka O⟩,⟨by(with_reducible repeat first|apply Qe|apply Qa|apply Qb);refine Qw (cs:=#[μ,a9,aa]) ?_ 2 _ rfl;(with_reducible repeat first|apply Qe|apply Qa|apply Qb);exact Y.out⟩,⟨bel⟩⟩
             ·rw[if_neg g3] at H
              exact absurd H (by simp)
           ·rw[if_neg gn] at H
            have c56b0:(((Qg B U).f2)==a2)=false:=beq_eq_false_iff_ne.mpr gn
            have c56b1:(((Qg B U).f2) != a2)=true:=bne_iff_ne.mpr gn
            have H':=Aside0.mk H
            clear H
            have aj:0≤(U:Int):=of_decide_eq_true (by assumption)
            have al:U<(B.length:Int):=of_decide_eq_true (by assumption)
            obtain⟨b6,d9,ξ,ψ,ω⟩:=Zw ai.out U aj al
            cases d9
            replace ξ :=(HB.out.cell (World.block_lt_of_cell? w _ ξ)).trans ξ
            replace ψ :=(HB.out.cell (World.block_lt_of_cell? w _ ψ)).trans ψ
            replace ω :=(HB.out.cell (World.block_lt_of_cell? w _ ω)).trans ω
            replace aj:=eq_true aj
            replace al:=eq_true al
            go_wp2_with (first|((with_reducible refine Qs (N:=13) rfl ?_);refine qE 13 #[.int .i64 0,.int .i64 0,.int .i64 0] 56 ?_;intro φ hg o4 hbox hb;have ρ:=Aside0.mk hbox;have dz:=sGe hg;have e0:=sGe hg;have bd:=sNl L hg;have be:=sNg L hg;have bf:=sNl X hg;have bg:=sNg X hg;have bh:=sNl O hg;have bi:=sNg O hg;have bn:=sNl Y hg;have bo:=sNg Y hg;replace HO_114000:=sRb HO_114000 hb;replace HO_114001:=sRb HO_114001 hb;replace HO_114002:=sRb HO_114002 hb;replace L:=sBk L hb;replace X:=sBk X hb;replace O:=sBk O hb;replace Y:=sBk Y hb;replace HB:=sHb hb;clear hb hbox hg;have nr:=be.out;have ns:=bd.out;have nt:=bg.out;have nu:=bf.out;have nv:=bi.out;have nw:=bh.out;have jc:=bo.out;have jg:=bn.out;obtain⟨hy,i0,n2,i1,i2,n3⟩:=qD3 ρ.out))
            go_roundg k2
            case measure=>have:=σ.out;have:=ag.out;omega
            case rel=>exact⟨(wrap64 (U+1)),(a1),(ab),(a9),(aa),qR,H',⟨by have:=σ.out;have:=ag.out;omega⟩,⟨by(with_reducible repeat first|apply Kd.Qk|apply Kd.Qj|apply Kd.Qm);exact Kd.Qq (Kd.Qr (Kd.Qr (Kd.Qr (Kd.Qu HO_114000.out ρ.out (by decide)) (fun _ hk=>hk.2) (.int .i64 ((Qg B U).f0))) (fun _ hk=>hk.2) (.int .i64 ((Qg B U).f1))) (fun _ hk=>hk.2) (.int .i64 ((Qg B U).f2))) (fun _ hk=>⟨hk.1.1,hk.1.2⟩)⟩,⟨by(with_reducible repeat first|apply Kd.Qk|apply Kd.Qj|apply Kd.Qm);exact Kd.Qq (Kd.Qr (Kd.Qr (Kd.Qr (Kd.Qu HO_114001.out ρ.out (by decide)) (fun _ hk=>hk.2) (.int .i64 ((Qg B U).f0))) (fun _ hk=>hk.2) (.int .i64 ((Qg B U).f1))) (fun _ hk=>hk.2) (.int .i64 ((Qg B U).f2))) (fun _ hk=>⟨hk.1.1,hk.1.2⟩)⟩,⟨by(with_reducible repeat first|apply Kd.Qk|apply Kd.Qj|apply Kd.Qm);exact Kd.Qq (Kd.Qr (Kd.Qr (Kd.Qr (Kd.Qu HO_114002.out ρ.out (by decide)) (fun _ hk=>hk.2) (.int .i64 ((Qg B U).f0))) (fun _ hk=>hk.2) (.int .i64 ((Qg B U).f1))) (fun _ hk=>hk.2) (.int .i64 ((Qg B U).f2))) (fun _ hk=>⟨hk.1.1,hk.1.2⟩)⟩,⟨bka L⟩,⟨bka X⟩,⟨bka O⟩,⟨bka Y⟩,⟨bel⟩⟩
          ·rw[if_neg jf] at H
           exact absurd H (by simp)
         ·rw[if_neg ff] at H
          exact absurd H (by simp)
        ·rw[if_neg d7] at H
         have c53b0:decide (U<(B.length:Int))=false:=decide_eq_false d7
         clear d7
         simp only[Option.some.injEq,Prod.mk.injEq] at H
         obtain⟨rfl,rfl,rfl,rfl⟩:=H
         have kk:=b8.out
         have kl:=b7.out
         have nx:=au.out
         have ny:=ar.out
         have ks:=bc.out
         have kt:=ba.out
         obtain⟨na,nb,nc,nf,nh,ni⟩:=qD3 Y.out
         obtain⟨io,ip,ka⟩:=Kd.Q3 HO_114000.out
         subst ka
         have l3:=ap.out
         have l4:=ao.out
         have l5:=af.out
         have l7:=ae.out
         obtain⟨hj,hl,jq,hu,hx,jr⟩:=qD3 O.out
         obtain⟨gj,gl,l8⟩:=Kd.Q3 HO_114001.out
         subst l8
         obtain⟨l9,lb,lc⟩:=Kd.Q3 HO_114002.out
         subst lc
         go_wp2
         refine bodyPost_ret (Xh rfl _ _ a8 47 #[.slice io ν.length ip,.slice gj a1.length gl,.slice l9 ab.length lb] (0,0) _ rfl (by refine Qw (cs:=#[.slice io ν.length ip,.slice gj a1.length gl,.slice none 0 0]) ?_ 2 _ rfl;refine Qw (cs:=#[.slice io ν.length ip,.slice none 0 0,.slice none 0 0]) ?_ 1 _ rfl;refine Qw (cs:=#[.slice none 0 0,.slice none 0 0,.slice none 0 0]) ?_ 0 _ rfl;exact O.out) Try.underlying47 rfl kr) rfl ?_
         exact⟨_,_,_,by first|rfl|(simp[Qz,Qy] <;> rfl)|(simp[*,Qz,Qy] <;> rfl),by(with_reducible repeat first|apply Kd.Qk|apply Kd.Qj|apply Kd.Qm);exact Kd.Qq (Kd.Qr (Kd.Qr (Kd.Qr (Kd.Qu HO_114000.out O.out (by decide)) (fun _ hk=>hk.2) _) (fun _ hk=>hk.2) _) (fun _ hk=>hk.2) _) (fun _ hk=>⟨hk.1.1,hk.1.2⟩),by(with_reducible repeat first|apply Kd.Qk|apply Kd.Qj|apply Kd.Qm);exact Kd.Qq (Kd.Qr (Kd.Qr (Kd.Qr (Kd.Qu HO_114001.out O.out (by decide)) (fun _ hk=>hk.2) _) (fun _ hk=>hk.2) _) (fun _ hk=>hk.2) _) (fun _ hk=>⟨hk.1.1,hk.1.2⟩),by(with_reducible repeat first|apply Kd.Qk|apply Kd.Qj|apply Kd.Qm);exact Kd.Qq (Kd.Qr (Kd.Qr (Kd.Qr (Kd.Qu HO_114002.out O.out (by decide)) (fun _ hk=>hk.2) _) (fun _ hk=>hk.2) _) (fun _ hk=>hk.2) _) (fun _ hk=>⟨hk.1.1,hk.1.2⟩),bel⟩
  ·replace c7:=Bool.eq_false_iff.mpr c7
   subst c7
   have H1:(some (([]:List Int),([]:List Int),([]:List Int),191))=some (r1,r2,r3,r4):=by rw[if_neg (show ¬ (false=true) by decide)] at H;exact H
   clear H
   have H:=H1
   clear H1
   simp only[Option.some.injEq,Prod.mk.injEq] at H
   obtain⟨rfl,rfl,rfl,rfl⟩:=H
   go_enter Try.func19,Try.ntmps19
   go_wp2_with (first|((with_reducible refine Qs (N:=3) rfl ?_);refine qE 3 #[.int .i64 D,.int .i64 I] 23 ?_;intro χ hg ke hbox hb;have L:=Aside0.mk hbox;have ey:=sGe hg;have ez:=sGe hg;replace HB:=sHb hb;clear hb hbox hg)|((with_reducible refine Qs (N:=4) rfl ?_);refine qE 4 #[.slice ζ B.length γ,.slice η J.length δ] 27 ?_;intro bp hg kf hbox hb;have X:=Aside0.mk hbox;have g8:=sGe hg;have g9:=sGe hg;have am:=sNl L hg;have an:=sNg L hg;replace L:=sBk L hb;replace HB:=sHb hb;clear hb hbox hg)|((with_reducible refine Qs (N:=6) rfl ?_);refine qE 6 #[.slice none 0 0,.slice none 0 0,.slice none 0 0] 47 ?_;intro a8 hg o0 hbox hb;have O:=Aside0.mk hbox;have e9:=sGe hg;have ea:=sGe hg;have ao:=sNl L hg;have ap:=sNg L hg;have ae:=sNl X hg;have af:=sNg X hg;replace L:=sBk L hb;replace X:=sBk X hb;replace HB:=sHb hb;clear hb hbox hg;have ju:=am.out;have jv:=an.out;have km:=ao.out;have kn:=ap.out;obtain⟨fl,fm,fn,fo⟩:=qD2 L.out;have ko:=ae.out;have kp:=af.out;obtain⟨m7,m8,m9,ma⟩:=qD2 X.out)|((with_reducible refine Q0 (f:=14) rfl ?_);refine Zl (some 16) rfl rfl Try.func14 kr rfl #[.agg #[.int .i64 D,.int .i64 I],.agg #[.slice ζ B.length γ,.slice η J.length δ]] rfl qM ?_;(with_reducible refine(call_Check.calls k D I _ _ B _ _ J a5 _ ?side1 ?side2 ?side3 ?side4 A4.out).mono ?_);(case side1=>exact(Kd.Qx ai.out HB.out));(case side2=>exact ay.out);(case side3=>exact(Kd.Qx ak.out HB.out));(case side4=>exact az.out);rintro e br ⟨rfl,hb⟩;refine⟨_,rfl, ?_⟩;replace L:=sBk L hb;replace X:=sBk X hb;replace O:=sBk O hb;replace HB:=sHb hb;(try clear hb);(try clear a4);(try clear hk);(try clear hi);obtain⟨mb,mc,me,mf⟩:=qD2 L.out)|((with_reducible refine Q0 (f:=41) rfl ?_);refine Zl (some 25) rfl rfl Try.func41 kr rfl #[.int .i64 a2,.int .i64 0,.int .i64 (wrap64 (I-1))] rfl qM ?_;(with_reducible refine(call_within.calls a2 0 (wrap64 (I-1)) false _ A6.out).mono ?_);rintro e w' ⟨rfl,⟨nd,rfl⟩⟩;refine⟨_,rfl, ?_⟩;(try(rw[Gz br];generalize hq_:World.drewN br _=br;have Z:Aside0 (br.heap[χ]?=some (.cells #[.int .i64 D,.int .i64 I] 23 (0,0))):=⟨by rw[← hq_];exact L.out⟩;have ε :Aside0 (br.heap[bp]?=some (.cells #[.slice ζ B.length γ,.slice η J.length δ] 27 (0,0))):=⟨by rw[← hq_];exact X.out⟩;have ι :Aside0 (br.heap[a8]?=some (.cells #[.slice none 0 0,.slice none 0 0,.slice none 0 0] 47 (0,0))):=⟨by rw[← hq_];exact O.out⟩;have κ :Aside0 (Below w.heap.size w br):=⟨by rw[← hq_];exact HB.out⟩;clear L X O HB hq_;have L:=Z;have X:= ε;have O:= ι;have HB:= κ;clear Z ε ι κ));(try(have fp:br.cell? ⟨χ,0,none⟩=some (.int .i64 D):=(Qi L.out 0).trans rfl));(try(have fq:br.cell? ⟨χ,1,none⟩=some (.int .i64 I):=(Qi L.out 1).trans rfl));(try(have ft:=Q6 L.out 0));(try(have fu:=Q6 L.out 1));obtain⟨mg,mh,mi,mj,ml,mm⟩:=qD3 O.out))
   refine bodyPost_ret (Xh rfl _ _ a8 47 #[.slice none 0 0,.slice none 0 0,.slice none 0 0] (0,0) _ rfl (by refine Qw (cs:=#[.slice none 0 0,.slice none 0 0,.slice none 0 0]) ?_ 2 _ rfl;refine Qw (cs:=#[.slice none 0 0,.slice none 0 0,.slice none 0 0]) ?_ 1 _ rfl;refine Qw (cs:=#[.slice none 0 0,.slice none 0 0,.slice none 0 0]) ?_ 0 _ rfl;exact O.out) Try.underlying47 rfl kr) rfl ?_
   exact⟨_,_,_,by first|rfl|(simp[Qz,Qy] <;> rfl)|(simp[*,Qz,Qy] <;> rfl),by first|exact Kd.Xz _ _ _ _ _|exact Kd.Yp _ _ _ _ _|exact Kd.Ym _ _ _ _ _|exact Kd.Yo _ _ _ _ _|exact Kd.Yn _ _ _ _ _,by first|exact Kd.Xz _ _ _ _ _|exact Kd.Yp _ _ _ _ _|exact Kd.Ym _ _ _ _ _|exact Kd.Yo _ _ _ _ _|exact Kd.Yn _ _ _ _ _,by first|exact Kd.Xz _ _ _ _ _|exact Kd.Yp _ _ _ _ _|exact Kd.Ym _ _ _ _ _|exact Kd.Yo _ _ _ _ _|exact Kd.Yn _ _ _ _ _,bel⟩
 ·rw[if_neg c5] at H
  have c5b0:(a5==0)=false:=beq_eq_false_iff_ne.mpr c5
  have c5b1:(a5 != 0)=true:=bne_iff_ne.mpr c5
  simp only[Option.some.injEq,Prod.mk.injEq] at H
  obtain⟨rfl,rfl,rfl,rfl⟩:=H
  go_enter Try.func19,Try.ntmps19
  go_wp2_with (first|((with_reducible refine Qs (N:=3) rfl ?_);refine qE 3 #[.int .i64 D,.int .i64 I] 23 ?_;intro χ hg mn hbox hb;have L:=Aside0.mk hbox;have ey:=sGe hg;have ez:=sGe hg;replace HB:=sHb hb;clear hb hbox hg)|((with_reducible refine Qs (N:=4) rfl ?_);refine qE 4 #[.slice ζ B.length γ,.slice η J.length δ] 27 ?_;intro bp hg l6 hbox hb;have X:=Aside0.mk hbox;have g8:=sGe hg;have g9:=sGe hg;have am:=sNl L hg;have an:=sNg L hg;replace L:=sBk L hb;replace HB:=sHb hb;clear hb hbox hg)|((with_reducible refine Qs (N:=6) rfl ?_);refine qE 6 #[.slice none 0 0,.slice none 0 0,.slice none 0 0] 47 ?_;intro a8 hg ng hbox hb;have O:=Aside0.mk hbox;have e9:=sGe hg;have ea:=sGe hg;have ao:=sNl L hg;have ap:=sNg L hg;have ae:=sNl X hg;have af:=sNg X hg;replace L:=sBk L hb;replace X:=sBk X hb;replace HB:=sHb hb;clear hb hbox hg;have kg:=am.out;have kh:=an.out;have ki:=ao.out;have kj:=ap.out;obtain⟨iu,iv,iw,ix⟩:=qD2 L.out;have np:=ae.out;have nq:=af.out;obtain⟨mo,mq,mr,ms⟩:=qD2 X.out)|((with_reducible refine Q0 (f:=14) rfl ?_);refine Zl (some 16) rfl rfl Try.func14 kr rfl #[.agg #[.int .i64 D,.int .i64 I],.agg #[.slice ζ B.length γ,.slice η J.length δ]] rfl qM ?_;(with_reducible refine(call_Check.calls k D I _ _ B _ _ J a5 _ ?side1 ?side2 ?side3 ?side4 A4.out).mono ?_);(case side1=>exact(Kd.Qx ai.out HB.out));(case side2=>exact ay.out);(case side3=>exact(Kd.Qx ak.out HB.out));(case side4=>exact az.out);rintro e o1 ⟨rfl,hb⟩;refine⟨_,rfl, ?_⟩;replace L:=sBk L hb;replace X:=sBk X hb;replace O:=sBk O hb;replace HB:=sHb hb;(try clear hb);(try clear a4);(try clear hk);(try clear hi);obtain⟨mt,mu,mw,mx,my,mz⟩:=qD3 O.out))
  refine bodyPost_ret (Xh rfl _ _ a8 47 #[.slice none 0 0,.slice none 0 0,.slice none 0 0] (0,0) _ rfl (by refine Qw (cs:=#[.slice none 0 0,.slice none 0 0,.slice none 0 0]) ?_ 2 _ rfl;refine Qw (cs:=#[.slice none 0 0,.slice none 0 0,.slice none 0 0]) ?_ 1 _ rfl;refine Qw (cs:=#[.slice none 0 0,.slice none 0 0,.slice none 0 0]) ?_ 0 _ rfl;exact O.out) Try.underlying47 rfl kr) rfl ?_
  exact⟨_,_,_,by first|rfl|(simp[Qz,Qy] <;> rfl)|(simp[*,Qz,Qy] <;> rfl),by first|exact Kd.Xz _ _ _ _ _|exact Kd.Yp _ _ _ _ _|exact Kd.Ym _ _ _ _ _|exact Kd.Yo _ _ _ _ _|exact Kd.Yn _ _ _ _ _,by first|exact Kd.Xz _ _ _ _ _|exact Kd.Yp _ _ _ _ _|exact Kd.Ym _ _ _ _ _|exact Kd.Yo _ _ _ _ _|exact Kd.Yn _ _ _ _ _,by first|exact Kd.Xz _ _ _ _ _|exact Kd.Yp _ _ _ _ _|exact Kd.Ym _ _ _ _ _|exact Kd.Yo _ _ _ _ _|exact Kd.Yn _ _ _ _ _,bel⟩
def call_Serve.f (k:Nat) (D:Int) (I:Int) (B:List (S56)) (J:List (S62)) (Y:Int) (X:Int) (θ :Int):Option ((List (S56))×(List (S62))×Int):=(insP.f Y X D I).bind fun bb=>(if bb=true then ((call_within.f θ (-1) 1).bind fun a0=>((call_change.f (woP_H.f X θ 0 B) (woP_I.f Y X J) k D I B J a0 0 X θ 0 0 Y X).bind fun ab=>(some (ab.1,ab.2.1,ab.2.2)))) else ((call_change.f (woP_H.f X θ 0 B) (woP_I.f Y X J) k D I B J false 0 X θ 0 0 Y X).bind fun ac=>(some (ac.1,ac.2.1,ac.2.2))))
theorem call_Serve.mono:∀ D J a2 X L a5 O k,LeO (call_Serve.f k D J a2 X L a5 O) (call_Serve.f (k+1) D J a2 X L a5 O):=by
 intro D J a2 X L a5 O k
 unfold call_Serve.f
 repeat' first
   |(with_reducible exact call_change.mono _ _ _ _ _ _ _ _ _ _ _ _ _ _ _)
   |(with_reducible exact LeO.refl _)
   |(with_reducible exact LeO.none _)
   |(with_reducible refine LeO.ite ?_ ?_)
   |(with_reducible refine LeO.bind ?_ (fun _=>?_))
   |exact call_change.mono _ _ _ _ _ _ _ _ _ _ _ _ _ _ _
   |exact LeO.none _
   |refine LeO.ite ?_ ?_
   |refine LeO.bind ?_ (fun _=>?_)
def call_Serve.T2:Bool×List (List Nat×List Nat):=(true,[([],[]),([],[]),([],[]),([2],[2]),([],[]),([3,4,3],[3,4]),([5,5],[5]),([6],[6]),([7,6],[6,7]),([8,6,6],[6,8]),([6,9],[6,9]),([],[]),([11,9],[11]),([12],[12]),([],[]),([14],[14]),([],[]),([16],[16]),([15,17],[15,17]),([],[]),([19,12],[19]),([20],[20]),([],[]),([0,1,10,13,18,21,22,20],[0,1,10,13,18,21,22]),([23],[23]),([23],[23]),([24,23,0,1,2,3,4,5,6,7,8,9,10,11,12,13,14,15,16,17,18,19,20,21,22,23,24,25],[24]),([25,26,0,1,2,3,4,5,6,7,8,9,10,11,12,13,14,15,16,17,18,19,20,21,22,23,24,25,26],[25])])
def call_Serve.B2:List Nat:=[0,0,0,4,0,28,60,124,252,508,1020,0,3068,7164,0,16384,0,65536,245760,0,531452,1580028,0,8388607,16777215,16777215,67108863,134217727]
theorem call_Serve.tab2:rtab .any (opsOf Try.f18 2)=call_Serve.T2:=by kernel_rfl
theorem call_Serve.Ns:Zp call_Serve.T2.2 call_Serve.B2=true:=by kernel_rfl
set_option maxHeartbeats 8000000 in
set_option maxRecDepth 100000 in
theorem call_Serve.calls (k:Nat) (D:Int) (I:Int) (ζ :Option Addr) (γ:Nat) (B:List (S56)) (η :Option Addr) (δ :Nat) (J:List (S62)) (Y:Int) (X:Int) (θ :Int) (r1:List (S56)) (r2:List (S62)) (r3:Int) (w:World) (bj:Kd.C k56 w ζ B.length B) (bk:B.length≤γ) (bl:Kd.C k62 w η J.length J) (bm:J.length ≤ δ) (h:call_Serve.f k D I B J Y X θ = some (r1,r2,r3)):
  Calls Try.prog 18 #[.agg #[.int .i64 D,.int .i64 I],.agg #[.slice ζ B.length γ,.slice η J.length δ],.agg #[.int .i64 Y,.int .i64 X,.int .i64 θ]] w fun e w'=>∃ a6 b0:Value,e = .returned (.tuple #[.agg #[a6,b0],.int .i64 r3])∧Kd.R k56 56 w' w.heap.size (fun _=>True) a6 r1∧Kd.R k62 62 w' w.heap.size (fun _=>True) b0 r2∧Below w.heap.size w w':=by
 have et:=Try.underlying23
 have eh:=Try.underlying27
 have k4:=Try.underlying43
 have b9:=Try.underlying62
 have b2:=Try.underlying56
 have ai:=Aside0.mk bj
 have ay:=Aside0.mk bk
 clear bj bk
 have ak:=Aside0.mk bl
 have az:=Aside0.mk bm
 clear bl bm
 have HB:=Aside0.mk (Below.refl w.heap.size w)
 have H:((insP.f Y X D I).bind fun bb=>(if bb=true then ((call_within.f θ (-1) 1).bind fun a0=>((call_change.f (woP_H.f X θ 0 B) (woP_I.f Y X J) k D I B J a0 0 X θ 0 0 Y X).bind fun ab=>(some (ab.1,ab.2.1,ab.2.2)))) else ((call_change.f (woP_H.f X θ 0 B) (woP_I.f Y X J) k D I B J false 0 X θ 0 0 Y X).bind fun ac=>(some (ac.1,ac.2.1,ac.2.2)))))=some (r1,r2,r3):=h
 clear h
 replace H:=Option.bind_eq_some_iff.mp H
 obtain⟨bb,cy,H⟩:=H
 replace H:(if bb=true then ((call_within.f θ (-1) 1).bind fun a0=>((call_change.f (woP_H.f X θ 0 B) (woP_I.f Y X J) k D I B J a0 0 X θ 0 0 Y X).bind fun ab=>(some (ab.1,ab.2.1,ab.2.2)))) else ((call_change.f (woP_H.f X θ 0 B) (woP_I.f Y X J) k D I B J false 0 X θ 0 0 Y X).bind fun ac=>(some (ac.1,ac.2.1,ac.2.2))))=some (r1,r2,r3):=H
 have A4:=Aside0.mk cy
 clear cy
 by_cases c5:bb=true
 ·subst c5
  have H1:((call_within.f θ (-1) 1).bind fun a0=>((call_change.f (woP_H.f X θ 0 B) (woP_I.f Y X J) k D I B J a0 0 X θ 0 0 Y X).bind fun ab=>(some (ab.1,ab.2.1,ab.2.2))))=some (r1,r2,r3):=by rw[if_pos rfl] at H;exact H
  clear H
  have H:=H1
  clear H1
  replace H:=Option.bind_eq_some_iff.mp H
  obtain⟨a0,ei,H⟩:=H
  replace H:((call_change.f (woP_H.f X θ 0 B) (woP_I.f Y X J) k D I B J a0 0 X θ 0 0 Y X).bind fun ab=>(some (ab.1,ab.2.1,ab.2.2)))=some (r1,r2,r3):=H
  have A6:=Aside0.mk ei
  clear ei
  replace H:=Option.bind_eq_some_iff.mp H
  obtain⟨⟨bd,ao,cb⟩,i5,H⟩:=H
  replace H:(some (bd,ao,cb))=some (r1,r2,r3):=H
  have A7:=Aside0.mk i5
  clear i5
  simp only[Option.some.injEq,Prod.mk.injEq] at H
  obtain⟨rfl,rfl,rfl⟩:=H
  go_enter Try.func18,Try.ntmps18
  try go_wp2_with (first|((with_reducible refine Qs (N:=3) rfl ?_);refine qE 3 #[.int .i64 D,.int .i64 I] 23 ?_;intro a1 hg w8 hbox hb;have L:=Aside0.mk hbox;have bp:=sGe hg;have bs:=sGe hg;replace HB:=sHb hb;clear hb hbox hg)|((with_reducible refine Qs (N:=4) rfl ?_);refine qE 4 #[.slice ζ B.length γ,.slice η J.length δ] 27 ?_;intro an hg w9 hbox hb;have μ :=Aside0.mk hbox;have cw:=sGe hg;have cz:=sGe hg;have bf:=sNl L hg;have bg:=sNg L hg;replace L:=sBk L hb;replace HB:=sHb hb;clear hb hbox hg)|((with_reducible refine Qs (N:=5) rfl ?_);refine qE 5 #[.int .i64 Y,.int .i64 X,.int .i64 θ] 43 ?_;intro am hg e4 hbox hb;have O:=Aside0.mk hbox;have d0:=sGe hg;have d1:=sGe hg;have ap:=sNl L hg;have ar:=sNg L hg;have au:=sNl μ hg;have av:=sNg μ hg;replace L:=sBk L hb;replace μ :=sBk μ hb;replace HB:=sHb hb;clear hb hbox hg)|((with_reducible refine Qs (N:=6) rfl ?_);refine qE 6 #[.slice none 0 0,.slice none 0 0] 27 ?_;intro φ hg d6 hbox hb;have ρ:=Aside0.mk hbox;have dz:=sGe hg;have e0:=sGe hg;have a5:=sNl L hg;have aj:=sNg L hg;have aa:=sNl μ hg;have al:=sNg μ hg;have σ:=sNl O hg;have af:=sNg O hg;replace L:=sBk L hb;replace μ :=sBk μ hb;replace O:=sBk O hb;replace HB:=sHb hb;clear hb hbox hg;have eb:=ar.out;have eu:=ap.out;have d3:=av.out;have d4:=au.out;have gz:=σ.out;have h0:=af.out;obtain⟨b3,b4,d2,bu,bz,d5⟩:=qD3 O.out)|((with_reducible refine Qs (N:=8) rfl ?_);refine qE 8 #[.int .i64 0,.int .i64 0] 62 ?_;intro τ hg b1 hbox hb;have U:=Aside0.mk hbox;have bh:=sGe hg;have bi:=sGe hg;have aw:=sNl L hg;have ax:=sNg L hg;have b5:=sNl μ hg;have b6:=sNg μ hg;have b7:=sNl O hg;have b8:=sNg O hg;have ag:=sNl ρ hg;have a3:=sNg ρ hg;replace L:=sBk L hb;replace μ :=sBk μ hb;replace O:=sBk O hb;replace ρ:=sBk ρ hb;replace HB:=sHb hb;clear hb hbox hg;have gq:=ax.out;have gr:=aw.out;have ct:=b6.out;have cu:=b5.out;have ca:=b8.out;have cd:=b7.out;have da:=a3.out;have dd:=ag.out;obtain⟨cn,db,dc,de⟩:=qD2 U.out))
  have Z:Aside0 (((b1.setCell ⟨τ,0,none⟩ (.int .i64 Y)).setCell ⟨τ,1,none⟩ (.int .i64 X)).heap[a1]?=some (.cells #[.int .i64 D,.int .i64 I] 23 (0,0))):=⟨bka L⟩
  have ε :Aside0 (((b1.setCell ⟨τ,0,none⟩ (.int .i64 Y)).setCell ⟨τ,1,none⟩ (.int .i64 X)).heap[an]?=some (.cells #[.slice ζ B.length γ,.slice η J.length δ] 27 (0,0))):=⟨bka μ⟩
  have ι :Aside0 (((b1.setCell ⟨τ,0,none⟩ (.int .i64 Y)).setCell ⟨τ,1,none⟩ (.int .i64 X)).heap[am]?=some (.cells #[.int .i64 Y,.int .i64 X,.int .i64 θ] 43 (0,0))):=⟨bka O⟩
  have κ :Aside0 (((b1.setCell ⟨τ,0,none⟩ (.int .i64 Y)).setCell ⟨τ,1,none⟩ (.int .i64 X)).heap[φ]?=some (.cells #[.slice none 0 0,.slice none 0 0] 27 (0,0))):=⟨bka ρ⟩
  have χ :Aside0 (((b1.setCell ⟨τ,0,none⟩ (.int .i64 Y)).setCell ⟨τ,1,none⟩ (.int .i64 X)).heap[τ]?=some (.cells #[.int .i64 Y,.int .i64 X] 62 (0,0))):=⟨by refine Qw (cs:=#[.int .i64 Y,.int .i64 0]) ?_ 1 _ rfl;refine Qw (cs:=#[.int .i64 0,.int .i64 0]) ?_ 0 _ rfl;exact U.out⟩
  have ω :Aside0 (Below w.heap.size w ((b1.setCell ⟨τ,0,none⟩ (.int .i64 Y)).setCell ⟨τ,1,none⟩ (.int .i64 X))):=⟨bel⟩
  (try clear L)
  (try clear μ)
  (try clear O)
  (try clear ρ)
  (try clear U)
  (try clear HB)
  generalize((b1.setCell ⟨τ,0,none⟩ (.int .i64 Y)).setCell ⟨τ,1,none⟩ (.int .i64 X))=fc at Z ε ι κ χ ω ⊢
  have L:=Z
  have μ := ε
  have O:= ι
  have ρ:= κ
  have U:= χ
  have HB:= ω
  clear Z ε ι κ χ ω
  replace L:=Aside0.mk (Qa L.out)
  replace μ :=Aside0.mk (Qa μ.out)
  replace O:=Aside0.mk (Qa O.out)
  replace ρ:=Aside0.mk (Qa ρ.out)
  replace U:=Aside0.mk (Qa U.out)
  replace HB:=Aside0.mk (Qf HB.out)
  refine Zm (n:=28) (S:=fun w'=>w'.cell? ⟨a1,0,none⟩=some (.int .i64 D)∧w'.cell? ⟨a1,1,none⟩=some (.int .i64 I)∧w'.cell? ⟨an,0,none⟩=some (.slice ζ B.length γ)∧w'.cell? ⟨an,1,none⟩=some (.slice η J.length δ)∧w'.cell? ⟨τ,0,none⟩=some (.int .i64 Y)∧w'.cell? ⟨τ,1,none⟩=some (.int .i64 X)∧w'.cell? ⟨am,0,none⟩=some (.int .i64 Y)∧w'.cell? ⟨am,1,none⟩=some (.int .i64 X)∧w'.cell? ⟨am,2,none⟩=some (.int .i64 θ)) (ds:=[]) #[false,false,false,false,false,false,false,false,false,false,false,false,false,false,false,false,false,false,false,false,false,false,false,false,false,false,false,false] kr rfl rfl ⟨(Qi L.out 0).trans rfl,(Qi L.out 1).trans rfl,(Qi μ.out 0).trans rfl,(Qi μ.out 1).trans rfl,(Qi U.out 0).trans rfl,(Qi U.out 1).trans rfl,(Qi O.out 0).trans rfl,(Qi O.out 1).trans rfl,(Qi O.out 2).trans rfl⟩ (fun hHeld=>?_);refine Q7 call_Serve.tab2 call_Serve.Ns (fun HT_ HW_=>?_)
  generalize fc.drew=df at L μ O ρ U HB hHeld ⊢
  refine qP 14 (some 28) (bN 28 16384) HT_ ?_
  refine qP 16 (some 30) (bN 28 81920) HT_ ?_
  refine qT 0 (some 14) (bN 28 81921) HT_ HW_ hHeld ?_
  refine qT 1 (some 15) (bN 28 81923) HT_ HW_ hHeld ?_
  refine qT 2 (some 16) (bN 28 81927) HT_ HW_ hHeld ?_
  refine qT 4 (some 18) (bN 28 81943) HT_ HW_ hHeld ?_
  refine qT 11 (some 25) (bN 28 83991) HT_ HW_ hHeld ?_
  refine qT 15 (some 29) (bN 28 116759) HT_ HW_ hHeld ?_
  refine qT 17 (some 31) (bN 28 247831) HT_ HW_ hHeld ?_
  refine qP 18 (some 32) (bN 28 509975) HT_ ?_
  refine qT 19 (some 33) (bN 28 1034263) HT_ HW_ hHeld ?_
  refine qT 22 (some 36) (bN 28 5228567) HT_ HW_ hHeld ?_
  refine Zi (i:=3) (N:=some 17) (bN 28 5228575) rfl rfl (Q2 HT_.out kr) (by decide) (fun K hK=>?_)
  refine Zh Try.func29 kr rfl #[.agg #[.int .i64 D,.int .i64 I]] (by rfl) rfl rfl qM ?_
  refine(Jd D I _).mono ?_
  rintro e en ⟨ba,rfl,hgp,hgw,hb⟩
  have br:=Aside0.mk hgp
  clear hgp hgw
  refine⟨_,rfl, ?_⟩
  replace L:=sBk L hb
  replace μ :=sBk μ hb
  replace O:=sBk O hb
  replace ρ:=sBk ρ hb
  replace U:=sBk U hb
  replace HB:=sHb hb
  (try clear hb)
  (try clear a4)
  (try clear hk)
  (try clear hi)
  refine hK.out _ _ ⟨qc L,qc L,qc μ,qc μ,qc U,qc U,qc O,qc O,qc O⟩ (fun hHeld=>?_)
  clear hK K
  refine qN (some 17) ?_
  refine Zi (i:=5) (N:=some 19) (bN 28 5228607) rfl rfl (Q2 HT_.out kr) (by decide) (fun K hK=>?_)
  refine Xj Try.func50 kr rfl #[] #[.pointer (some ⟨ba,0,none⟩)] #[.agg #[.int .i64 Y,.int .i64 X]] #[.agg #[.int .i64 Y,.int .i64 X],.pointer (some ⟨ba,0,none⟩)] rfl (by rfl) rfl rfl rfl qM ?_
  refine(Y3 D I Y X true _ (Option.some.inj A4.out) ba br.out).mono ?_
  rintro e cx ⟨rfl,hb⟩
  refine⟨_,rfl, ?_⟩
  replace L:=sBk L hb
  replace μ :=sBk μ hb
  replace O:=sBk O hb
  replace ρ:=sBk ρ hb
  replace U:=sBk U hb
  replace HB:=sHb hb
  (try clear hb)
  (try clear a4)
  (try clear hk)
  (try clear hi)
  refine hK.out _ _ ⟨qc L,qc L,qc μ,qc μ,qc U,qc U,qc O,qc O,qc O⟩ (fun hHeld=>?_)
  clear hK K
  refine qN (some 19) ?_
  refine qP 6 (some 20) (bN 28 5228671) HT_ ?_
  refine qP 7 (some 21) (bN 28 5228799) HT_ ?_
  refine qT 8 (some 22) (bN 28 5229055) HT_ HW_ hHeld ?_
  refine Zi (i:=9) (N:=some 23) (bN 28 5229567) rfl rfl (Q2 HT_.out kr) (by decide) (fun K hK=>?_)
  refine Zh Try.func41 kr rfl #[.int .i64 θ,.int .i64 (-1),.int .i64 1] (by rfl) rfl rfl qM ?_
  with_reducible refine(call_within.calls θ (-1) 1 a0 _ A6.out).mono ?_
  rintro e w' ⟨rfl,⟨nd,rfl⟩⟩
  refine⟨_,rfl, ?_⟩
  refine hK.out _ _ ⟨qc L,qc L,qc μ,qc μ,qc U,qc U,qc O,qc O,qc O⟩ (fun hHeld=>?_)
  clear hK K
  refine qN (some 23) ?_
  refine qP 10 (some 24) (bN 28 5230591) HT_ ?_
  refine Zi (i:=12) (N:=some 26) (bN 28 5234687) rfl rfl (Q2 HT_.out kr) (by decide) (fun K hK=>?_)
  refine Zh Try.func30 kr rfl #[.agg #[.slice ζ B.length γ,.slice η J.length δ]] (by rfl) rfl rfl qM ?_
  refine(Yd ζ η B.length J.length γ δ _).mono ?_
  rintro e eo ⟨rfl,hb⟩
  refine⟨_,rfl, ?_⟩
  replace L:=sBk L hb
  replace μ :=sBk μ hb
  replace O:=sBk O hb
  replace ρ:=sBk ρ hb
  replace U:=sBk U hb
  replace HB:=sHb hb
  (try clear hb)
  (try clear a4)
  (try clear hk)
  (try clear hi)
  refine hK.out _ _ ⟨qc L,qc L,qc μ,qc μ,qc U,qc U,qc O,qc O,qc O⟩ (fun hHeld=>?_)
  clear hK K
  refine qN (some 26) ?_
  refine qP 13 (some 27) (bN 28 5242879) HT_ ?_
  refine Zi (i:=20) (N:=some 34) (bN 28 6291455) rfl rfl (Q2 HT_.out kr) (by decide) (fun K hK=>?_)
  refine Zh Try.func32 kr rfl #[.agg #[.slice ζ B.length γ,.slice η J.length δ]] (by rfl) rfl rfl qM ?_
  refine(Yr ζ η B.length J.length γ δ _).mono ?_
  rintro e ep ⟨rfl,hb⟩
  refine⟨_,rfl, ?_⟩
  replace L:=sBk L hb
  replace μ :=sBk μ hb
  replace O:=sBk O hb
  replace ρ:=sBk ρ hb
  replace U:=sBk U hb
  replace HB:=sHb hb
  (try clear hb)
  (try clear a4)
  (try clear hk)
  (try clear hi)
  refine hK.out _ _ ⟨qc L,qc L,qc μ,qc μ,qc U,qc U,qc O,qc O,qc O⟩ (fun hHeld=>?_)
  clear hK K
  refine qN (some 34) ?_
  refine qP 21 (some 35) (bN 28 8388607) HT_ ?_
  refine Zi (i:=23) (N:=some 37) (bN 28 16777215) rfl rfl (Q2 HT_.out kr) (by decide) (fun K hK=>?_)
  refine Zh Try.func28 kr rfl #[.agg #[.int .i64 D,.int .i64 I],.agg #[.slice ζ B.length γ,.slice η J.length δ],.bool a0,.func (.func 31) #[.agg #[.slice ζ B.length γ,.func (.func 51) #[] #[]]] #[],.agg #[.int .i64 X,.int .i64 θ,.int .i64 0],.func (.func 36) #[.agg #[.slice η J.length δ,.func (.func 57) #[] #[]]] #[],.agg #[.int .i64 Y,.int .i64 X]] (by rfl) rfl rfl qM ?_
  refine(call_change.calls _ _ k D I ζ γ B η δ J a0 0 X θ 0 0 Y X bd ao cb _ ?side1 ?side2 ?side3 ?side4 A7.out 31 Try.f31 (.agg #[.slice ζ B.length γ,.func (.func 51) #[] #[]]) Try.func31 kr rfl (fun W t ht hb=>Jv ζ γ B _ _ _ t W (Kd.Qx (Kd.Qx ai.out (by repeat(first|(with_reducible first|exact HB.out|apply Qh|apply Qc|apply Qf)|exact HB.out|(refine Qd ?_ (Aside0.out (by assumption)))))) hb) ay.out ht) 36 Try.f36 (.agg #[.slice η J.length δ,.func (.func 57) #[] #[]]) Try.func36 kr rfl (fun W t ht hb=>Ja η δ J _ _ t W (Kd.Qx (Kd.Qx ak.out (by repeat(first|(with_reducible first|exact HB.out|apply Qh|apply Qc|apply Qf)|exact HB.out|(refine Qd ?_ (Aside0.out (by assumption)))))) hb) az.out ht)).mono ?_
  (case side1=>exact(Kd.Qx ai.out HB.out))
  (case side2=>exact ay.out)
  (case side3=>exact(Kd.Qx ak.out HB.out))
  (case side4=>exact az.out)
  rintro e fu ⟨m6,ec,rfl,ψ,a2,hb⟩
  refine⟨_,rfl, ?_⟩
  have di:=Aside0.mk (Kd.Q1 ψ (Ql HB.out))
  have bn:=Aside0.mk (Kd.Q1 (Kd.Xo a2 (g:= τ) (o:=.cells #[.int .i64 Y,.int .i64 X] 62 (0,0)) U.out) (Ql HB.out))
  replace L:=sBk L hb
  replace μ :=sBk μ hb
  replace O:=sBk O hb
  replace ρ:=sBk ρ hb
  replace U:=sBk U hb
  replace HB:=sHb hb
  (try clear hb)
  (try clear a4)
  (try clear hk)
  (try clear hi)
  (try clear ψ)
  (try clear a2)
  obtain⟨co,cp,cq⟩:=Kd.Q3 di.out
  (first|subst cq|(injection cq with ν a7 ξ;have a8:= ν.symm;have a9:= ξ.symm;clear ν a7 ξ;subst a8;subst a9))
  obtain⟨cf,cg,ch⟩:=Kd.Q3 bn.out
  (first|subst ch|(injection ch with ν a7 ξ;have a8:= ν.symm;have a9:= ξ.symm;clear ν a7 ξ;subst a8;subst a9))
  refine hK.out _ _ ⟨qc L,qc L,qc μ,qc μ,qc U,qc U,qc O,qc O,qc O⟩ (fun hHeld=>?_)
  clear hK K
  refine qN (some 37) ?_
  refine qP 24 (some 38) (bN 28 33554431) HT_ ?_
  refine qP 25 (some 39) (bN 28 67108863) HT_ ?_
  refine Zi (i:=26) (N:=none) (bN 28 134217727) rfl rfl (Q2 HT_.out kr) (by decide) (fun K hK=>?_)
  have ed:fu.cell? ⟨φ,0,none⟩=some (.slice none 0 0):=(Qi ρ.out 0).trans rfl
  have ea:=Q6 ρ.out 0
  have d7:=a5.out
  have d8:=aa.out
  have d9:=σ.out
  have dh:=a3.out
  have dj:=aj.out
  have dk:=al.out
  have dl:=af.out
  have dm:=ag.out
  have h6:fu.cell? ⟨φ,1,none⟩=some (.slice none 0 0):=(Qi ρ.out 1).trans rfl
  have gl:=Q6 ρ.out 1
  have f8:=a5.out
  have fa:=aa.out
  have fn:=σ.out
  have du:=a3.out
  have fq:=aj.out
  have ft:=al.out
  have fv:=af.out
  have dx:=ag.out
  refine Yl (w1:=?_) (by rfl) rfl ?_ ?_
  rotate_left
  ·go_simp
   rfl
  refine hK.out _ _ ⟨((cell_far (p:=⟨φ,_,none⟩) a5.out _).trans (((cell_far (p:=⟨φ,_,none⟩) a5.out _).trans (hHeld.1)))),((cell_far (p:=⟨φ,_,none⟩) a5.out _).trans (((cell_far (p:=⟨φ,_,none⟩) a5.out _).trans (hHeld.2.1)))),((cell_far (p:=⟨φ,_,none⟩) aa.out _).trans (((cell_far (p:=⟨φ,_,none⟩) aa.out _).trans (hHeld.2.2.1)))),((cell_far (p:=⟨φ,_,none⟩) aa.out _).trans (((cell_far (p:=⟨φ,_,none⟩) aa.out _).trans (hHeld.2.2.2.1)))),((cell_far (p:=⟨φ,_,none⟩) a3.out _).trans (((cell_far (p:=⟨φ,_,none⟩) a3.out _).trans (hHeld.2.2.2.2.1)))),((cell_far (p:=⟨φ,_,none⟩) a3.out _).trans (((cell_far (p:=⟨φ,_,none⟩) a3.out _).trans (hHeld.2.2.2.2.2.1)))),((cell_far (p:=⟨φ,_,none⟩) σ.out _).trans (((cell_far (p:=⟨φ,_,none⟩) σ.out _).trans (hHeld.2.2.2.2.2.2.1)))),((cell_far (p:=⟨φ,_,none⟩) σ.out _).trans (((cell_far (p:=⟨φ,_,none⟩) σ.out _).trans (hHeld.2.2.2.2.2.2.2.1)))),((cell_far (p:=⟨φ,_,none⟩) σ.out _).trans (((cell_far (p:=⟨φ,_,none⟩) σ.out _).trans (hHeld.2.2.2.2.2.2.2.2))))⟩ (fun hHeld=>?_)
  clear hK K
  refine qP 27 (some 7) (bN 28 268435455) HT_ ?_
  refine Zr (Ze HT_.out kr) ?_
  try go_wp2
  refine bodyPost_ret (Xh rfl _ _ φ 27 #[.slice co bd.length cp,.slice cf ao.length cg] (0,0) _ rfl (by refine Qw (cs:=#[.slice co bd.length cp,.slice none 0 0]) ?_ 1 _ rfl;refine Qw (cs:=#[.slice none 0 0,.slice none 0 0]) ?_ 0 _ rfl;exact ρ.out) Try.underlying27 rfl kr) rfl ?_
  exact⟨_,_,by first|rfl|(simp[Qz,Qy] <;> rfl)|(simp[*,Qz,Qy] <;> rfl),by(with_reducible repeat first|apply Kd.Qk|apply Kd.Qj|apply Kd.Qm);exact Kd.Qq (Kd.Qr (Kd.Qr (Kd.Qu di.out ρ.out (by decide)) (fun _ hk=>hk.2) _) (fun _ hk=>hk.2) _) (fun _ hk=>trivial),by(with_reducible repeat first|apply Kd.Qk|apply Kd.Qj|apply Kd.Qm);exact Kd.Qq (Kd.Qr (Kd.Qr (Kd.Qu bn.out ρ.out (by decide)) (fun _ hk=>hk.2) _) (fun _ hk=>hk.2) _) (fun _ hk=>trivial),bel⟩
 ·replace c5:=Bool.eq_false_iff.mpr c5
  subst c5
  have H1:((call_change.f (woP_H.f X θ 0 B) (woP_I.f Y X J) k D I B J false 0 X θ 0 0 Y X).bind fun ac=>(some (ac.1,ac.2.1,ac.2.2)))=some (r1,r2,r3):=by rw[if_neg (show ¬ (false=true) by decide)] at H;exact H
  clear H
  have H:=H1
  clear H1
  replace H:=Option.bind_eq_some_iff.mp H
  obtain⟨⟨be,ah,cr⟩,cv,H⟩:=H
  replace H:(some (be,ah,cr))=some (r1,r2,r3):=H
  have ae:=Aside0.mk cv
  clear cv
  simp only[Option.some.injEq,Prod.mk.injEq] at H
  obtain⟨rfl,rfl,rfl⟩:=H
  go_enter Try.func18,Try.ntmps18
  try go_wp2_with (first|((with_reducible refine Qs (N:=3) rfl ?_);refine qE 3 #[.int .i64 D,.int .i64 I] 23 ?_;intro a1 hg n2 hbox hb;have L:=Aside0.mk hbox;have bp:=sGe hg;have bs:=sGe hg;replace HB:=sHb hb;clear hb hbox hg)|((with_reducible refine Qs (N:=4) rfl ?_);refine qE 4 #[.slice ζ B.length γ,.slice η J.length δ] 27 ?_;intro an hg o9 hbox hb;have μ :=Aside0.mk hbox;have cw:=sGe hg;have cz:=sGe hg;have bf:=sNl L hg;have bg:=sNg L hg;replace L:=sBk L hb;replace HB:=sHb hb;clear hb hbox hg)|((with_reducible refine Qs (N:=5) rfl ?_);refine qE 5 #[.int .i64 Y,.int .i64 X,.int .i64 θ] 43 ?_;intro am hg oa hbox hb;have O:=Aside0.mk hbox;have d0:=sGe hg;have d1:=sGe hg;have ap:=sNl L hg;have ar:=sNg L hg;have au:=sNl μ hg;have av:=sNg μ hg;replace L:=sBk L hb;replace μ :=sBk μ hb;replace HB:=sHb hb;clear hb hbox hg)|((with_reducible refine Qs (N:=6) rfl ?_);refine qE 6 #[.slice none 0 0,.slice none 0 0] 27 ?_;intro φ hg n3 hbox hb;have ρ:=Aside0.mk hbox;have dz:=sGe hg;have e0:=sGe hg;have a5:=sNl L hg;have aj:=sNg L hg;have aa:=sNl μ hg;have al:=sNg μ hg;have σ:=sNl O hg;have af:=sNg O hg;replace L:=sBk L hb;replace μ :=sBk μ hb;replace O:=sBk O hb;replace HB:=sHb hb;clear hb hbox hg;have i7:=ar.out;have ie:=ap.out;have dv:=av.out;have dw:=au.out;have gb:=σ.out;have gh:=af.out;obtain⟨dy,e5,e6,e7,e8,e9⟩:=qD3 O.out)|((with_reducible refine Qs (N:=8) rfl ?_);refine qE 8 #[.int .i64 0,.int .i64 0] 62 ?_;intro τ hg ck hbox hb;have U:=Aside0.mk hbox;have bh:=sGe hg;have bi:=sGe hg;have aw:=sNl L hg;have ax:=sNg L hg;have b5:=sNl μ hg;have b6:=sNg μ hg;have b7:=sNl O hg;have b8:=sNg O hg;have ag:=sNl ρ hg;have a3:=sNg ρ hg;replace L:=sBk L hb;replace μ :=sBk μ hb;replace O:=sBk O hb;replace ρ:=sBk ρ hb;replace HB:=sHb hb;clear hb hbox hg;have dp:=ax.out;have dq:=aw.out;have h4:=b6.out;have h5:=b5.out;have g3:=b8.out;have ga:=b7.out;have fb:=a3.out;have ff:=ag.out;obtain⟨bw,ce,ci,cj⟩:=qD2 U.out))
  have Z:Aside0 (((ck.setCell ⟨τ,0,none⟩ (.int .i64 Y)).setCell ⟨τ,1,none⟩ (.int .i64 X)).heap[a1]?=some (.cells #[.int .i64 D,.int .i64 I] 23 (0,0))):=⟨bka L⟩
  have ε :Aside0 (((ck.setCell ⟨τ,0,none⟩ (.int .i64 Y)).setCell ⟨τ,1,none⟩ (.int .i64 X)).heap[an]?=some (.cells #[.slice ζ B.length γ,.slice η J.length δ] 27 (0,0))):=⟨bka μ⟩
  have ι :Aside0 (((ck.setCell ⟨τ,0,none⟩ (.int .i64 Y)).setCell ⟨τ,1,none⟩ (.int .i64 X)).heap[am]?=some (.cells #[.int .i64 Y,.int .i64 X,.int .i64 θ] 43 (0,0))):=⟨bka O⟩
  have κ :Aside0 (((ck.setCell ⟨τ,0,none⟩ (.int .i64 Y)).setCell ⟨τ,1,none⟩ (.int .i64 X)).heap[φ]?=some (.cells #[.slice none 0 0,.slice none 0 0] 27 (0,0))):=⟨bka ρ⟩
  have χ :Aside0 (((ck.setCell ⟨τ,0,none⟩ (.int .i64 Y)).setCell ⟨τ,1,none⟩ (.int .i64 X)).heap[τ]?=some (.cells #[.int .i64 Y,.int .i64 X] 62 (0,0))):=⟨by refine Qw (cs:=#[.int .i64 Y,.int .i64 0]) ?_ 1 _ rfl;refine Qw (cs:=#[.int .i64 0,.int .i64 0]) ?_ 0 _ rfl;exact U.out⟩
  have ω :Aside0 (Below w.heap.size w ((ck.setCell ⟨τ,0,none⟩ (.int .i64 Y)).setCell ⟨τ,1,none⟩ (.int .i64 X))):=⟨bel⟩
  (try clear L)
  (try clear μ)
  (try clear O)
  (try clear ρ)
  (try clear U)
  (try clear HB)
  generalize((ck.setCell ⟨τ,0,none⟩ (.int .i64 Y)).setCell ⟨τ,1,none⟩ (.int .i64 X))=gj at Z ε ι κ χ ω ⊢
  have L:=Z
  have μ := ε
  have O:= ι
  have ρ:= κ
  have U:= χ
  have HB:= ω
  clear Z ε ι κ χ ω
  replace L:=Aside0.mk (Qa L.out)
  replace μ :=Aside0.mk (Qa μ.out)
  replace O:=Aside0.mk (Qa O.out)
  replace ρ:=Aside0.mk (Qa ρ.out)
  replace U:=Aside0.mk (Qa U.out)
  replace HB:=Aside0.mk (Qf HB.out)
  refine Zm (n:=28) (S:=fun w'=>w'.cell? ⟨a1,0,none⟩=some (.int .i64 D)∧w'.cell? ⟨a1,1,none⟩=some (.int .i64 I)∧w'.cell? ⟨an,0,none⟩=some (.slice ζ B.length γ)∧w'.cell? ⟨an,1,none⟩=some (.slice η J.length δ)∧w'.cell? ⟨τ,0,none⟩=some (.int .i64 Y)∧w'.cell? ⟨τ,1,none⟩=some (.int .i64 X)∧w'.cell? ⟨am,0,none⟩=some (.int .i64 Y)∧w'.cell? ⟨am,1,none⟩=some (.int .i64 X)∧w'.cell? ⟨am,2,none⟩=some (.int .i64 θ)) (ds:=[]) #[false,false,false,false,false,false,false,false,false,false,false,false,false,false,false,false,false,false,false,false,false,false,false,false,false,false,false,false] kr rfl rfl ⟨(Qi L.out 0).trans rfl,(Qi L.out 1).trans rfl,(Qi μ.out 0).trans rfl,(Qi μ.out 1).trans rfl,(Qi U.out 0).trans rfl,(Qi U.out 1).trans rfl,(Qi O.out 0).trans rfl,(Qi O.out 1).trans rfl,(Qi O.out 2).trans rfl⟩ (fun hHeld=>?_);refine Q7 call_Serve.tab2 call_Serve.Ns (fun HT_ HW_=>?_)
  generalize gj.drew=h8 at L μ O ρ U HB hHeld ⊢
  refine qP 14 (some 28) (bN 28 16384) HT_ ?_
  refine qP 16 (some 30) (bN 28 81920) HT_ ?_
  refine qT 0 (some 14) (bN 28 81921) HT_ HW_ hHeld ?_
  refine qT 1 (some 15) (bN 28 81923) HT_ HW_ hHeld ?_
  refine qT 2 (some 16) (bN 28 81927) HT_ HW_ hHeld ?_
  refine qT 4 (some 18) (bN 28 81943) HT_ HW_ hHeld ?_
  refine qT 11 (some 25) (bN 28 83991) HT_ HW_ hHeld ?_
  refine qT 15 (some 29) (bN 28 116759) HT_ HW_ hHeld ?_
  refine qT 17 (some 31) (bN 28 247831) HT_ HW_ hHeld ?_
  refine qP 18 (some 32) (bN 28 509975) HT_ ?_
  refine qT 19 (some 33) (bN 28 1034263) HT_ HW_ hHeld ?_
  refine qT 22 (some 36) (bN 28 5228567) HT_ HW_ hHeld ?_
  refine Zi (i:=3) (N:=some 17) (bN 28 5228575) rfl rfl (Q2 HT_.out kr) (by decide) (fun K hK=>?_)
  refine Zh Try.func29 kr rfl #[.agg #[.int .i64 D,.int .i64 I]] (by rfl) rfl rfl qM ?_
  refine(Jd D I _).mono ?_
  rintro e gf ⟨bc,rfl,hgp,hgw,hb⟩
  have bq:=Aside0.mk hgp
  clear hgp hgw
  refine⟨_,rfl, ?_⟩
  replace L:=sBk L hb
  replace μ :=sBk μ hb
  replace O:=sBk O hb
  replace ρ:=sBk ρ hb
  replace U:=sBk U hb
  replace HB:=sHb hb
  (try clear hb)
  (try clear a4)
  (try clear hk)
  (try clear hi)
  refine hK.out _ _ ⟨qc L,qc L,qc μ,qc μ,qc U,qc U,qc O,qc O,qc O⟩ (fun hHeld=>?_)
  clear hK K
  refine qN (some 17) ?_
  refine Zi (i:=5) (N:=some 19) (bN 28 5228607) rfl rfl (Q2 HT_.out kr) (by decide) (fun K hK=>?_)
  refine Xj Try.func50 kr rfl #[] #[.pointer (some ⟨bc,0,none⟩)] #[.agg #[.int .i64 Y,.int .i64 X]] #[.agg #[.int .i64 Y,.int .i64 X],.pointer (some ⟨bc,0,none⟩)] rfl (by rfl) rfl rfl rfl qM ?_
  refine(Y3 D I Y X false _ (Option.some.inj A4.out) bc bq.out).mono ?_
  rintro e h9 ⟨rfl,hb⟩
  refine⟨_,rfl, ?_⟩
  replace L:=sBk L hb
  replace μ :=sBk μ hb
  replace O:=sBk O hb
  replace ρ:=sBk ρ hb
  replace U:=sBk U hb
  replace HB:=sHb hb
  (try clear hb)
  (try clear a4)
  (try clear hk)
  (try clear hi)
  refine hK.out _ _ ⟨qc L,qc L,qc μ,qc μ,qc U,qc U,qc O,qc O,qc O⟩ (fun hHeld=>?_)
  clear hK K
  refine qN (some 19) ?_
  refine qP 6 (some 20) (bN 28 5228671) HT_ ?_
  refine qU 7 (some 21) (bN 28 5228799) HT_ ?_
  refine qU 8 (some 22) (bN 28 5229055) HT_ ?_
  refine qU 9 (some 23) (bN 28 5229567) HT_ ?_
  refine qP 10 (some 24) (bN 28 5230591) HT_ ?_
  refine Zi (i:=12) (N:=some 26) (bN 28 5234687) rfl rfl (Q2 HT_.out kr) (by decide) (fun K hK=>?_)
  refine Zh Try.func30 kr rfl #[.agg #[.slice ζ B.length γ,.slice η J.length δ]] (by rfl) rfl rfl qM ?_
  refine(Yd ζ η B.length J.length γ δ _).mono ?_
  rintro e gg ⟨rfl,hb⟩
  refine⟨_,rfl, ?_⟩
  replace L:=sBk L hb
  replace μ :=sBk μ hb
  replace O:=sBk O hb
  replace ρ:=sBk ρ hb
  replace U:=sBk U hb
  replace HB:=sHb hb
  (try clear hb)
  (try clear a4)
  (try clear hk)
  (try clear hi)
  refine hK.out _ _ ⟨qc L,qc L,qc μ,qc μ,qc U,qc U,qc O,qc O,qc O⟩ (fun hHeld=>?_)
  clear hK K
  refine qN (some 26) ?_
  refine qP 13 (some 27) (bN 28 5242879) HT_ ?_
  refine Zi (i:=20) (N:=some 34) (bN 28 6291455) rfl rfl (Q2 HT_.out kr) (by decide) (fun K hK=>?_)
  refine Zh Try.func32 kr rfl #[.agg #[.slice ζ B.length γ,.slice η J.length δ]] (by rfl) rfl rfl qM ?_
  refine(Yr ζ η B.length J.length γ δ _).mono ?_
  rintro e gi ⟨rfl,hb⟩
  refine⟨_,rfl, ?_⟩
  replace L:=sBk L hb
  replace μ :=sBk μ hb
  replace O:=sBk O hb
  replace ρ:=sBk ρ hb
  replace U:=sBk U hb
  replace HB:=sHb hb
  (try clear hb)
  (try clear a4)
  (try clear hk)
  (try clear hi)
  refine hK.out _ _ ⟨qc L,qc L,qc μ,qc μ,qc U,qc U,qc O,qc O,qc O⟩ (fun hHeld=>?_)
  clear hK K
  refine qN (some 34) ?_
  refine qP 21 (some 35) (bN 28 8388607) HT_ ?_
  refine Zi (i:=23) (N:=some 37) (bN 28 16777215) rfl rfl (Q2 HT_.out kr) (by decide) (fun K hK=>?_)
  refine Zh Try.func28 kr rfl #[.agg #[.int .i64 D,.int .i64 I],.agg #[.slice ζ B.length γ,.slice η J.length δ],.bool false,.func (.func 31) #[.agg #[.slice ζ B.length γ,.func (.func 51) #[] #[]]] #[],.agg #[.int .i64 X,.int .i64 θ,.int .i64 0],.func (.func 36) #[.agg #[.slice η J.length δ,.func (.func 57) #[] #[]]] #[],.agg #[.int .i64 Y,.int .i64 X]] (by rfl) rfl rfl qM ?_
  refine(call_change.calls _ _ k D I ζ γ B η δ J false 0 X θ 0 0 Y X be ah cr _ ?side1 ?side2 ?side3 ?side4 ae.out 31 Try.f31 (.agg #[.slice ζ B.length γ,.func (.func 51) #[] #[]]) Try.func31 kr rfl (fun W t ht hb=>Jv ζ γ B _ _ _ t W (Kd.Qx (Kd.Qx ai.out (by repeat(first|(with_reducible first|exact HB.out|apply Qh|apply Qc|apply Qf)|exact HB.out|(refine Qd ?_ (Aside0.out (by assumption)))))) hb) ay.out ht) 36 Try.f36 (.agg #[.slice η J.length δ,.func (.func 57) #[] #[]]) Try.func36 kr rfl (fun W t ht hb=>Ja η δ J _ _ t W (Kd.Qx (Kd.Qx ak.out (by repeat(first|(with_reducible first|exact HB.out|apply Qh|apply Qc|apply Qf)|exact HB.out|(refine Qd ?_ (Aside0.out (by assumption)))))) hb) az.out ht)).mono ?_
  (case side1=>exact(Kd.Qx ai.out HB.out))
  (case side2=>exact ay.out)
  (case side3=>exact(Kd.Qx ak.out HB.out))
  (case side4=>exact az.out)
  rintro e e3 ⟨ee,ef,rfl,ψ,a2,hb⟩
  refine⟨_,rfl, ?_⟩
  have bo:=Aside0.mk (Kd.Q1 ψ (Ql HB.out))
  have bv:=Aside0.mk (Kd.Q1 (Kd.Xo a2 (g:= τ) (o:=.cells #[.int .i64 Y,.int .i64 X] 62 (0,0)) U.out) (Ql HB.out))
  replace L:=sBk L hb
  replace μ :=sBk μ hb
  replace O:=sBk O hb
  replace ρ:=sBk ρ hb
  replace U:=sBk U hb
  replace HB:=sHb hb
  (try clear hb)
  (try clear a4)
  (try clear hk)
  (try clear hi)
  (try clear ψ)
  (try clear a2)
  obtain⟨cm,dn,dr⟩:=Kd.Q3 bo.out
  (first|subst dr|(injection dr with ν a7 ξ;have a8:= ν.symm;have a9:= ξ.symm;clear ν a7 ξ;subst a8;subst a9))
  obtain⟨er,ev,dt⟩:=Kd.Q3 bv.out
  (first|subst dt|(injection dt with ν a7 ξ;have a8:= ν.symm;have a9:= ξ.symm;clear ν a7 ξ;subst a8;subst a9))
  refine hK.out _ _ ⟨qc L,qc L,qc μ,qc μ,qc U,qc U,qc O,qc O,qc O⟩ (fun hHeld=>?_)
  clear hK K
  refine qN (some 37) ?_
  refine qP 24 (some 38) (bN 28 33554431) HT_ ?_
  refine qP 25 (some 39) (bN 28 67108863) HT_ ?_
  refine Zi (i:=26) (N:=none) (bN 28 134217727) rfl rfl (Q2 HT_.out kr) (by decide) (fun K hK=>?_)
  have gu:e3.cell? ⟨φ,0,none⟩=some (.slice none 0 0):=(Qi ρ.out 0).trans rfl
  have gm:=Q6 ρ.out 0
  have f7:=a5.out
  have f9:=aa.out
  have fe:=σ.out
  have fg:=a3.out
  have fh:=aj.out
  have fi:=al.out
  have fk:=af.out
  have fl:=ag.out
  have gv:e3.cell? ⟨φ,1,none⟩=some (.slice none 0 0):=(Qi ρ.out 1).trans rfl
  have gn:=Q6 ρ.out 1
  have fm:=a5.out
  have fw:=aa.out
  have fx:=σ.out
  have fy:=a3.out
  have fz:=aj.out
  have g0:=al.out
  have g2:=af.out
  have g8:=ag.out
  refine Yl (w1:=?_) (by rfl) rfl ?_ ?_
  rotate_left
  ·go_simp
   rfl
  refine hK.out _ _ ⟨((cell_far (p:=⟨φ,_,none⟩) a5.out _).trans (((cell_far (p:=⟨φ,_,none⟩) a5.out _).trans (hHeld.1)))),((cell_far (p:=⟨φ,_,none⟩) a5.out _).trans (((cell_far (p:=⟨φ,_,none⟩) a5.out _).trans (hHeld.2.1)))),((cell_far (p:=⟨φ,_,none⟩) aa.out _).trans (((cell_far (p:=⟨φ,_,none⟩) aa.out _).trans (hHeld.2.2.1)))),((cell_far (p:=⟨φ,_,none⟩) aa.out _).trans (((cell_far (p:=⟨φ,_,none⟩) aa.out _).trans (hHeld.2.2.2.1)))),((cell_far (p:=⟨φ,_,none⟩) a3.out _).trans (((cell_far (p:=⟨φ,_,none⟩) a3.out _).trans (hHeld.2.2.2.2.1)))),((cell_far (p:=⟨φ,_,none⟩) a3.out _).trans (((cell_far (p:=⟨φ,_,none⟩) a3.out _).trans (hHeld.2.2.2.2.2.1)))),((cell_far (p:=⟨φ,_,none⟩) σ.out _).trans (((cell_far (p:=⟨φ,_,none⟩) σ.out _).trans (hHeld.2.2.2.2.2.2.1)))),((cell_far (p:=⟨φ,_,none⟩) σ.out _).trans (((cell_far (p:=⟨φ,_,none⟩) σ.out _).trans (hHeld.2.2.2.2.2.2.2.1)))),((cell_far (p:=⟨φ,_,none⟩) σ.out _).trans (((cell_far (p:=⟨φ,_,none⟩) σ.out _).trans (hHeld.2.2.2.2.2.2.2.2))))⟩ (fun hHeld=>?_)
  clear hK K
  refine qP 27 (some 7) (bN 28 268435455) HT_ ?_
  refine Zr (Ze HT_.out kr) ?_
  try go_wp2
  refine bodyPost_ret (Xh rfl _ _ φ 27 #[.slice cm be.length dn,.slice er ah.length ev] (0,0) _ rfl (by refine Qw (cs:=#[.slice cm be.length dn,.slice none 0 0]) ?_ 1 _ rfl;refine Qw (cs:=#[.slice none 0 0,.slice none 0 0]) ?_ 0 _ rfl;exact ρ.out) Try.underlying27 rfl kr) rfl ?_
  exact⟨_,_,by first|rfl|(simp[Qz,Qy] <;> rfl)|(simp[*,Qz,Qy] <;> rfl),by(with_reducible repeat first|apply Kd.Qk|apply Kd.Qj|apply Kd.Qm);exact Kd.Qq (Kd.Qr (Kd.Qr (Kd.Qu bo.out ρ.out (by decide)) (fun _ hk=>hk.2) _) (fun _ hk=>hk.2) _) (fun _ hk=>trivial),by(with_reducible repeat first|apply Kd.Qk|apply Kd.Qj|apply Kd.Qm);exact Kd.Qq (Kd.Qr (Kd.Qr (Kd.Qu bv.out ρ.out (by decide)) (fun _ hk=>hk.2) _) (fun _ hk=>hk.2) _) (fun _ hk=>trivial),bel⟩
end Go.Proofs.Ytjehhhlhalkieaa.C
