/- Texts of this claim, one behind the other: what the law's functions come to, walked (printed by a program, with the words that the print uses), and what that is, in plain Lean. No conditions of their own. -/
import Derived.Test.YtjehhhlhalkieaaQCallGives5
import Derived.Laws.EntriesVeiled
import Derived.WalkSpells
namespace Go.Proofs.Ytjehhhlhalkieaa.C
open Go.RowKit Go.Proofs.YtjehhhlhalkieaaW.PrintWords Go.Proofs.YtjehhhlhalkieaaW.PrintLast Go.Proofs.YtjehhhlhalkieaaW.PrintMore
attribute [local go_sem] Zk Zi Zt Zs Zd Zc Zj Zh
set_option linter.unusedVariables false
set_option linter.unusedSimpArgs false
def api_Hall_55.f (l0:List S56):Option (List S56):=if l0.length<1000000000 then some l0 else none
set_option maxRecDepth 100000 in
set_option maxHeartbeats 1000000 in
theorem api_Hall_55.calls (X:Option Addr) (c0:Nat) (l0:List S56) (r:List S56) (w:World) (Y:Kd.C k56 w X l0.length l0) (ζ :l0.length≤c0) (h:api_Hall_55.f l0=some r):
    Calls Try.prog 55 #[.slice X l0.length c0] w fun e w'=>∃ a6:Value,e = .returned a6∧Kd.R k56 56 w' w.heap.size (fun _=>True) a6 r∧Below w.heap.size w w':=by
  unfold api_Hall_55.f at h
  split at h
  case isFalse=>cases h
  case isTrue hl=>
  cases h
  have HR:=Aside0.mk Y
  have HC:=Aside0.mk ζ
  have HL:=Aside0.mk hl
  have HB:=Aside0.mk (Below.refl w.heap.size w)
  have hn:X=none→l0 = []:=by
    intro hA
    rcases Nat.eq_zero_or_pos l0.length with h|h
    · exact List.eq_nil_of_length_eq_zero h
    · obtain⟨ad,e,_⟩:=Y.2.2 h
      rw[hA] at e
      cases e
  clear Y ζ hl
  have hEq:∀ (W:World),(binOp .eql 24 (.slice X l0.length c0) (.slice none 0 0)).run Try.prog W = .ok (.bool X.isNone) W:=fun W=>Lib.run_eql_slice_nil W _ _ _ _ _ _ _ Try.underlying24
  rcases X with _|ad
  · have D:=Aside0.mk (hn rfl)
    clear hn
    go_enter Try.func55,Try.ntmps55
    go_wp2
    go_ret
    rw[D.out]
    exact⟨_,rfl,Kd.Yd _ _ _ _ _,HB.out⟩
  · clear hn
    go_enter Try.func55,Try.ntmps55
    go_wp2_with (first|((with_reducible refine Qt (N:=5) rfl ?_);refine Kd.Mk k56 _ 56 ?hg (N:=5) ?hd (xs:=([]:List S56)) (inner:=[]) (ok:=fun _=>True) (okp:=fun _=>True) ?hr ?hp (fun _ hk=>hk) trivial (Below.refl _ _) (Nat.le_refl _) (by simp) ?_;(case hd=>rfl);(case hg=>rfl);(case hr=>first|(go_simp;done)|(go_simp;rfl));(case hp=>exact(Reps.none _ _));intro v1 w1 a7 O hg_ hnew_;clear hg_ hnew_;have HO:=Aside0.mk a7;have B:=Aside0.mk O;clear a7 O)|((with_reducible refine Xc (b:=.append) (xs:=#[.tmp 5,.tmp 6]) rfl ?_);at_builtin;refine Kd.Yo k56 (w0:=w) w.heap.size rfl (.tmp 5) (.tmp 6) 24 56 (.agg #[(.int .i64 0),(.int .i64 0),(.int .i64 0)]) 24 rfl Try.underlying24 Yl rfl (by decide) (by omega) v1 [] l0 _ _ _ (fun _=>True) (fun _=>False) rfl rfl ?aO ?aR (fun _ _ h=>h) (fun _ h=>h.elim) ?aF ?aB ?aS ?aL ?_;(case aR=>exact(Kd.Qz HR.out B.out));(case aB=>exact B.out);(case aF=>exact(fun _ _=>trivial));(case aO=>exact HO.out);(case aS=>exact Qk B.out);(case aL=>have:=HL.out;simp only[List.length_nil];omega);intro v2 w2 ho hb hg hat;clear hg hat))
    go_ret
    exact⟨_,rfl,by simpa using ho,hb⟩
def woH (J L x2:Int) (l:List S56):List S56:=l.filter (fun y=> !(Z9 J L y.f0 y.f1==0))
set_option maxRecDepth 100000 in
set_option maxHeartbeats 2000000 in
theorem Vk (A:Option Addr) (c:Nat) (l:List S56) (J L x2:Int) (w:World) (hr:Kd.C k56 w A l.length l) (hc:l.length≤c) (hl:l.length<1000000000) (bo: -9223372036854775808≤L∧L≤9223372036854775807):
    Calls Try.prog 31 #[.agg #[.slice A l.length c,.func (.func 51) #[] #[]],.agg #[.int .i64 J,.int .i64 L,.int .i64 x2]] w fun e w'=>∃ a6:Value,e = .returned a6∧Kd.R k56 56 w' w.heap.size (fun _=>True) a6 (woH J L x2 l)∧Below w.heap.size w w':=by
  have HR:=Aside0.mk hr
  have HC:=Aside0.mk hc
  have HF:=Aside0.mk (show api_Hall_55.f l=some l by unfold api_Hall_55.f;rw[if_pos hl])
  have HB:=Aside0.mk (Below.refl w.heap.size w)
  have HD:=Aside0.mk (show api_Hall_54.f (l.length+6) l (tok J L)=some (woH J L x2 l) by
    rw[Call.M3 l (tok J L) (by omega) _ (by omega)]
    show some (l.filter (fun y=> !(Z9 (X7 (tok J L)) (X6 (tok J L)) y.f0 y.f1==0)))=_
    rw[Ji J L bo,Jh J L bo]
    rfl)
  have T1:=Aside0.mk (Ji J L bo)
  have T2:=Aside0.mk (Jh J L bo)
  clear hr hc hl bo
  go_enter Try.func31,Try.ntmps31
  go_wp2_with (first|((with_reducible refine Qt (N:=2) rfl ?_);refine Qp ?hg (N:=2) ?hd (cs:=#[.slice A l.length c,.func (.func 51) #[] #[]]) (t:=69) ?hr ?_;(case hd=>rfl);(case hg=>rfl);(case hr=>first|(go_simp;done)|(go_simp;rfl));intro I hg_ w2 hbox hb;have ε :=Aside0.mk (Qv HB.out hb);have θ :=Aside0.mk hbox;clear HB;have HB:= ε;have B:= θ;clear ε θ;clear hb hbox hg_)|((with_reducible refine Qt (N:=3) rfl ?_);refine Qp ?hg (N:=3) ?hd (cs:=#[.int .i64 J,.int .i64 L,.int .i64 x2]) (t:=56) ?hr ?_;(case hd=>rfl);(case hg=>rfl);(case hr=>first|(go_simp;done)|(go_simp;rfl));intro g3 hg_ w3 hbox hb;have O:=Aside0.mk (Qn (g:=I) (o:=.cells #[.slice A l.length c,.func (.func 51) #[] #[]] 69 (0,0)) B.out hb);have ε :=Aside0.mk (Qv HB.out hb);have θ :=Aside0.mk hbox;clear HB B;have HB:= ε;have D:= θ;have B:=O;clear ε θ O;clear hb hbox hg_;have Y:w3.cell? ⟨I,0,none⟩=some (.slice A l.length c):=(Qa B.out 0).trans rfl;have Z:w3.cell? ⟨I,1,none⟩=some (.func (.func 51) #[] #[]):=(Qa B.out 1).trans rfl)|(go_at_call 55;((with_reducible refine(api_Hall_55.calls A c l l _ ?side1 ?side2 HF.out).mono ?_);(case side1=>exact Kd.Qz HR.out HB.out);(case side2=>exact HC.out);rintro e w4 ⟨v4,rfl,χ,hb⟩;have ζ :=Aside0.mk (Nat.not_le.2 (Q5 B.out));have γ:=Aside0.mk (Nat.not_le.2 (Q5 D.out));have O:=Aside0.mk (Kd.Q4 (Kd.Qs (Kd.Xx χ) (fun k_ hk=>hk.2.1)) HB.out.size);have U:=Aside0.mk (Qn (g:=I) (o:=.cells #[.slice A l.length c,.func (.func 51) #[] #[]] 69 (0,0)) B.out hb);have X:=Aside0.mk (Qn (g:=g3) (o:=.cells #[.int .i64 J,.int .i64 L,.int .i64 x2] 56 (0,0)) D.out hb);have ε :=Aside0.mk (Qv HB.out hb);clear HB B D;have HB:= ε;have B:=U;have D:=X;have HO:=O;clear ε O U X hb χ))|(go_at_call 54;((with_reducible refine(api_Hall_54.calls (l.length+6) _ v4 l (tok J L) _ w w4 HB.out HO.out HD.out A l.length c I g3 x2 B.out ?hx ζ.out γ.out).mono ?_);(case hx=>rw[T1.out,T2.out];exact D.out);rintro e w5 ⟨v5,rfl,χ,hb,hk⟩;have δ :=Aside0.mk χ;have η :=Aside0.mk hb;clear χ hb hk)))
  go_ret
  exact⟨_,rfl,Kd.Qs δ.out (fun _ _=>trivial),η.out⟩
def api_Inside_59.f (l0:List S62):Option (List S62):=if l0.length<1000000000 then some l0 else none
set_option maxRecDepth 100000 in
set_option maxHeartbeats 1000000 in
theorem api_Inside_59.calls (X:Option Addr) (c0:Nat) (l0:List S62) (r:List S62) (w:World) (Y:Kd.C k62 w X l0.length l0) (ζ :l0.length≤c0) (h:api_Inside_59.f l0=some r):
    Calls Try.prog 59 #[.slice X l0.length c0] w fun e w'=>∃ a6:Value,e = .returned a6∧Kd.R k62 62 w' w.heap.size (fun _=>True) a6 r∧Below w.heap.size w w':=by
  unfold api_Inside_59.f at h
  split at h
  case isFalse=>cases h
  case isTrue hl=>
  cases h
  have HR:=Aside0.mk Y
  have HC:=Aside0.mk ζ
  have HL:=Aside0.mk hl
  have HB:=Aside0.mk (Below.refl w.heap.size w)
  have hn:X=none→l0 = []:=by
    intro hA
    rcases Nat.eq_zero_or_pos l0.length with h|h
    · exact List.eq_nil_of_length_eq_zero h
    · obtain⟨ad,e,_⟩:=Y.2.2 h
      rw[hA] at e
      cases e
  clear Y ζ hl
  have hEq:∀ (W:World),(binOp .eql 25 (.slice X l0.length c0) (.slice none 0 0)).run Try.prog W = .ok (.bool X.isNone) W:=fun W=>Lib.run_eql_slice_nil W _ _ _ _ _ _ _ Try.underlying25
  rcases X with _|ad
  · have D:=Aside0.mk (hn rfl)
    clear hn
    go_enter Try.func59,Try.ntmps59
    go_wp2
    go_ret
    rw[D.out]
    exact⟨_,rfl,Kd.Yd _ _ _ _ _,HB.out⟩
  · clear hn
    go_enter Try.func59,Try.ntmps59
    go_wp2_with (first|((with_reducible refine Qt (N:=5) rfl ?_);refine Kd.Mk k62 _ 62 ?hg (N:=5) ?hd (xs:=([]:List S62)) (inner:=[]) (ok:=fun _=>True) (okp:=fun _=>True) ?hr ?hp (fun _ hk=>hk) trivial (Below.refl _ _) (Nat.le_refl _) (by simp) ?_;(case hd=>rfl);(case hg=>rfl);(case hr=>first|(go_simp;done)|(go_simp;rfl));(case hp=>exact(Reps.none _ _));intro v1 w1 a7 O hg_ hnew_;clear hg_ hnew_;have HO:=Aside0.mk a7;have B:=Aside0.mk O;clear a7 O)|((with_reducible refine Xc (b:=.append) (xs:=#[.tmp 5,.tmp 6]) rfl ?_);at_builtin;refine Kd.Yo k62 (w0:=w) w.heap.size rfl (.tmp 5) (.tmp 6) 25 62 (.agg #[(.int .i64 0),(.int .i64 0)]) 16 rfl Try.underlying25 J0 rfl (by decide) (by omega) v1 [] l0 _ _ _ (fun _=>True) (fun _=>False) rfl rfl ?aO ?aR (fun _ _ h=>h) (fun _ h=>h.elim) ?aF ?aB ?aS ?aL ?_;(case aR=>exact(Kd.Qz HR.out B.out));(case aB=>exact B.out);(case aF=>exact(fun _ _=>trivial));(case aO=>exact HO.out);(case aS=>exact Qk B.out);(case aL=>have:=HL.out;simp only[List.length_nil];omega);intro v2 w2 ho hb hg hat;clear hg hat))
    go_ret
    exact⟨_,rfl,by simpa using ho,hb⟩
def woI (J L:Int) (l:List S62):List S62:=l.filter (fun y=> !(Z9 J L y.f0 y.f1==0))
set_option maxRecDepth 100000 in
set_option maxHeartbeats 2000000 in
theorem Vj (A:Option Addr) (c:Nat) (l:List S62) (J L:Int) (w:World) (hr:Kd.C k62 w A l.length l) (hc:l.length≤c) (hl:l.length<1000000000) (bo: -9223372036854775808≤L∧L≤9223372036854775807):
    Calls Try.prog 36 #[.agg #[.slice A l.length c,.func (.func 57) #[] #[]],.agg #[.int .i64 J,.int .i64 L]] w fun e w'=>∃ a6:Value,e = .returned a6∧Kd.R k62 62 w' w.heap.size (fun _=>True) a6 (woI J L l)∧Below w.heap.size w w':=by
  have HR:=Aside0.mk hr
  have HC:=Aside0.mk hc
  have HF:=Aside0.mk (show api_Inside_59.f l=some l by unfold api_Inside_59.f;rw[if_pos hl])
  have HB:=Aside0.mk (Below.refl w.heap.size w)
  have HD:=Aside0.mk (show api_Inside_64.f (l.length+6) l (tok J L)=some (woI J L l) by
    rw[Call.M2 l (tok J L) (by omega) _ (by omega)]
    show some (l.filter (fun y=> !(Z9 (X7 (tok J L)) (X6 (tok J L)) y.f0 y.f1==0)))=_
    rw[Ji J L bo,Jh J L bo]
    rfl)
  have T1:=Aside0.mk (Ji J L bo)
  have T2:=Aside0.mk (Jh J L bo)
  clear hr hc hl bo
  go_enter Try.func36,Try.ntmps36
  go_wp2_with (first|((with_reducible refine Qt (N:=2) rfl ?_);refine Qp ?hg (N:=2) ?hd (cs:=#[.slice A l.length c,.func (.func 57) #[] #[]]) (t:=74) ?hr ?_;(case hd=>rfl);(case hg=>rfl);(case hr=>first|(go_simp;done)|(go_simp;rfl));intro I hg_ w2 hbox hb;have ε :=Aside0.mk (Qv HB.out hb);have θ :=Aside0.mk hbox;clear HB;have HB:= ε;have B:= θ;clear ε θ;clear hb hbox hg_)|((with_reducible refine Qt (N:=3) rfl ?_);refine Qp ?hg (N:=3) ?hd (cs:=#[.int .i64 J,.int .i64 L]) (t:=62) ?hr ?_;(case hd=>rfl);(case hg=>rfl);(case hr=>first|(go_simp;done)|(go_simp;rfl));intro g3 hg_ w3 hbox hb;have O:=Aside0.mk (Qn (g:=I) (o:=.cells #[.slice A l.length c,.func (.func 57) #[] #[]] 74 (0,0)) B.out hb);have ε :=Aside0.mk (Qv HB.out hb);have θ :=Aside0.mk hbox;clear HB B;have HB:= ε;have D:= θ;have B:=O;clear ε θ O;clear hb hbox hg_;have Y:w3.cell? ⟨I,0,none⟩=some (.slice A l.length c):=(Qa B.out 0).trans rfl;have Z:w3.cell? ⟨I,1,none⟩=some (.func (.func 57) #[] #[]):=(Qa B.out 1).trans rfl)|(go_at_call 59;((with_reducible refine(api_Inside_59.calls A c l l _ ?side1 ?side2 HF.out).mono ?_);(case side1=>exact Kd.Qz HR.out HB.out);(case side2=>exact HC.out);rintro e w4 ⟨v4,rfl,χ,hb⟩;have ζ :=Aside0.mk (Nat.not_le.2 (Q5 B.out));have γ:=Aside0.mk (Nat.not_le.2 (Q5 D.out));have O:=Aside0.mk (Kd.Q4 (Kd.Qs (Kd.Xx χ) (fun k_ hk=>hk.2.1)) HB.out.size);have U:=Aside0.mk (Qn (g:=I) (o:=.cells #[.slice A l.length c,.func (.func 57) #[] #[]] 74 (0,0)) B.out hb);have X:=Aside0.mk (Qn (g:=g3) (o:=.cells #[.int .i64 J,.int .i64 L] 62 (0,0)) D.out hb);have ε :=Aside0.mk (Qv HB.out hb);clear HB B D;have HB:= ε;have B:=U;have D:=X;have HO:=O;clear ε O U X hb χ))|(go_at_call 64;((with_reducible refine(api_Inside_64.calls (l.length+6) _ v4 l (tok J L) _ w w4 HB.out HO.out HD.out A l.length c I g3 0 B.out ?hx ζ.out γ.out).mono ?_);(case hx=>rw[T1.out,T2.out];exact D.out);rintro e w5 ⟨v5,rfl,χ,hb,hk⟩;have δ :=Aside0.mk χ;have η :=Aside0.mk hb;clear χ hb hk)))
  go_ret
  exact⟨_,rfl,Kd.Qs δ.out (fun _ _=>trivial),η.out⟩
set_option maxRecDepth 100000 in
set_option maxHeartbeats 1000000 in
theorem Yb (X A1:Option Addr) (L J c0 c1:Nat) (w:World):
    Calls Try.prog 30 #[.agg #[.slice X L c0,.slice A1 J c1]] w fun e w'=>e = .returned (.agg #[.slice X L c0,.func (.func 51) #[] #[]])∧Below w.heap.size w w':=by
  have HB:=Aside0.mk (Below.refl w.heap.size w)
  go_enter Try.func30,Try.ntmps30
  go_wp2_with (first|((with_reducible refine Qt (N:=1) rfl ?_);refine Qp ?hg (N:=1) ?hd (cs:=#[.slice X L c0,.slice A1 J c1]) (t:=27) ?hr ?_;(case hd=>rfl);(case hg=>rfl);(case hr=>first|(go_simp;done)|(go_simp;rfl));intro U hg_ w1 hbox hb;have ε :=Aside0.mk (Qv HB.out hb);have θ :=Aside0.mk hbox;clear HB;have HB:= ε;have D:= θ;clear ε θ;clear hb hbox hg_)|((with_reducible refine Qt (N:=2) rfl ?_);refine Qp ?hg (N:=2) ?hd (cs:=#[.slice none 0 0,.nilFunc]) (t:=69) ?hr ?_;(case hd=>rfl);(case hg=>rfl);(case hr=>first|(go_simp;done)|(go_simp;rfl));intro I hg_ w2 hbox hb;have GEs:=Aside0.mk HB.out.size;have GEl:=Aside0.mk (Q5 D.out);have O:=Aside0.mk (Qn (g:=U) (o:=.cells #[.slice X L c0,.slice A1 J c1] 27 (0,0)) D.out hb);have ε :=Aside0.mk (Qv HB.out hb);have θ :=Aside0.mk hbox;clear HB D;have HB:= ε;have B:= θ;have D:=O;clear ε θ O;have ζ :=Aside0.mk (by rw[hg_];exact GEs.out:w.heap.size≤I);have NB:=Aside0.mk (by rw[hg_];exact Nat.ne_of_lt GEl.out:U≠I);clear hb hbox hg_;have hnb:=NB.out;have Y:w2.cell? ⟨U,0,none⟩=some (.slice X L c0):=(Qa D.out 0).trans rfl;have Z:w2.cell? ⟨U,1,none⟩=some (.slice A1 J c1):=(Qa D.out 1).trans rfl;have γ:w2.cell? ⟨I,0,none⟩=some (.slice none 0 0):=(Qa B.out 0).trans rfl;have δ :w2.cell? ⟨I,1,none⟩=some (.nilFunc):=(Qa B.out 1).trans rfl;have η :=Qb B.out 0;have ι :=Qb B.out 1))
  refine bodyPost_ret (results_cell_row rfl _ _ I 69 #[.slice X L c0,.func (.func 51) #[] #[]] (0,0) _ rfl (by refine Qx (cs:=#[.slice X L c0,.nilFunc]) ?_ 1 _ rfl;refine Qx (cs:=#[.slice none 0 0,.nilFunc]) ?_ 0 _ rfl;exact B.out) Try.underlying69 rfl kr) rfl ?_
  exact⟨rfl,Qe (Qe HB.out ζ.out) ζ.out⟩
set_option maxRecDepth 100000 in
set_option maxHeartbeats 1000000 in
theorem Ja (F C:Int) (w:World):
    Calls Try.prog 34 #[.agg #[.int .i64 F,.int .i64 C]] w fun e w'=>∃ g:Nat,e = .returned (.func (.func 61) #[] #[.pointer (some ⟨g,0,none⟩)])∧w'.heap[g]?=some (.cells #[.int .i64 F,.int .i64 C] 23 (0,0))∧w.heap.size≤g∧Below w.heap.size w w':=by
  have HB:=Aside0.mk (Below.refl w.heap.size w)
  go_enter Try.func34,Try.ntmps34
  go_wp2_with (first|((with_reducible refine Qt (N:=1) rfl ?_);refine Qp ?hg (N:=1) ?hd (cs:=#[.int .i64 F,.int .i64 C]) (t:=23) ?hr ?_;(case hd=>rfl);(case hg=>rfl);(case hr=>first|(go_simp;done)|(go_simp;rfl));intro U hg_ w1 hbox hb;have GEs:=Aside0.mk HB.out.size;have ε :=Aside0.mk (Qv HB.out hb);have θ :=Aside0.mk hbox;clear HB;have HB:= ε;have D:= θ;clear ε θ;have B:=Aside0.mk (by rw[hg_];exact GEs.out:w.heap.size≤U);clear hb hbox hg_))
  go_ret
  exact⟨_,rfl,D.out,B.out,HB.out⟩
set_option maxRecDepth 100000 in
set_option maxHeartbeats 1000000 in
theorem Yi (X A1:Option Addr) (L J c0 c1:Nat) (w:World):
    Calls Try.prog 32 #[.agg #[.slice X L c0,.slice A1 J c1]] w fun e w'=>e = .returned (.agg #[.slice A1 J c1,.func (.func 57) #[] #[]])∧Below w.heap.size w w':=by
  have HB:=Aside0.mk (Below.refl w.heap.size w)
  go_enter Try.func32,Try.ntmps32
  go_wp2_with (first|((with_reducible refine Qt (N:=1) rfl ?_);refine Qp ?hg (N:=1) ?hd (cs:=#[.slice X L c0,.slice A1 J c1]) (t:=27) ?hr ?_;(case hd=>rfl);(case hg=>rfl);(case hr=>first|(go_simp;done)|(go_simp;rfl));intro U hg_ w1 hbox hb;have ε :=Aside0.mk (Qv HB.out hb);have θ :=Aside0.mk hbox;clear HB;have HB:= ε;have D:= θ;clear ε θ;clear hb hbox hg_)|((with_reducible refine Qt (N:=2) rfl ?_);refine Qp ?hg (N:=2) ?hd (cs:=#[.slice none 0 0,.nilFunc]) (t:=74) ?hr ?_;(case hd=>rfl);(case hg=>rfl);(case hr=>first|(go_simp;done)|(go_simp;rfl));intro I hg_ w2 hbox hb;have GEs:=Aside0.mk HB.out.size;have GEl:=Aside0.mk (Q5 D.out);have O:=Aside0.mk (Qn (g:=U) (o:=.cells #[.slice X L c0,.slice A1 J c1] 27 (0,0)) D.out hb);have ε :=Aside0.mk (Qv HB.out hb);have θ :=Aside0.mk hbox;clear HB D;have HB:= ε;have B:= θ;have D:=O;clear ε θ O;have ζ :=Aside0.mk (by rw[hg_];exact GEs.out:w.heap.size≤I);have NB:=Aside0.mk (by rw[hg_];exact Nat.ne_of_lt GEl.out:U≠I);clear hb hbox hg_;have hnb:=NB.out;have Y:w2.cell? ⟨U,0,none⟩=some (.slice X L c0):=(Qa D.out 0).trans rfl;have Z:w2.cell? ⟨U,1,none⟩=some (.slice A1 J c1):=(Qa D.out 1).trans rfl;have γ:w2.cell? ⟨I,0,none⟩=some (.slice none 0 0):=(Qa B.out 0).trans rfl;have δ :w2.cell? ⟨I,1,none⟩=some (.nilFunc):=(Qa B.out 1).trans rfl;have η :=Qb B.out 0;have ι :=Qb B.out 1))
  refine bodyPost_ret (results_cell_row rfl _ _ I 74 #[.slice A1 J c1,.func (.func 57) #[] #[]] (0,0) _ rfl (by refine Qx (cs:=#[.slice A1 J c1,.nilFunc]) ?_ 1 _ rfl;refine Qx (cs:=#[.slice none 0 0,.nilFunc]) ?_ 0 _ rfl;exact B.out) Try.underlying74 rfl kr) rfl ?_
  exact⟨rfl,Qe (Qe HB.out ζ.out) ζ.out⟩
set_option maxRecDepth 100000 in
set_option maxHeartbeats 1000000 in
theorem Y9 (F C:Int) (w:World):
    Calls Try.prog 29 #[.agg #[.int .i64 F,.int .i64 C]] w fun e w'=>∃ g:Nat,e = .returned (.func (.func 50) #[] #[.pointer (some ⟨g,0,none⟩)])∧w'.heap[g]?=some (.cells #[.int .i64 F,.int .i64 C] 23 (0,0))∧w.heap.size≤g∧Below w.heap.size w w':=by
  have HB:=Aside0.mk (Below.refl w.heap.size w)
  go_enter Try.func29,Try.ntmps29
  go_wp2_with (first|((with_reducible refine Qt (N:=1) rfl ?_);refine Qp ?hg (N:=1) ?hd (cs:=#[.int .i64 F,.int .i64 C]) (t:=23) ?hr ?_;(case hd=>rfl);(case hg=>rfl);(case hr=>first|(go_simp;done)|(go_simp;rfl));intro U hg_ w1 hbox hb;have GEs:=Aside0.mk HB.out.size;have ε :=Aside0.mk (Qv HB.out hb);have θ :=Aside0.mk hbox;clear HB;have HB:= ε;have D:= θ;clear ε θ;have B:=Aside0.mk (by rw[hg_];exact GEs.out:w.heap.size≤U);clear hb hbox hg_))
  go_ret
  exact⟨_,rfl,D.out,B.out,HB.out⟩
end Go.Proofs.Ytjehhhlhalkieaa.C
namespace Go.Proofs.Ytjehhhlhalkieaa.C
open Go.RowKit Go.Proofs.YtjehhhlhalkieaaW.PrintWords Go.Proofs.YtjehhhlhalkieaaW.PrintLast Go.Proofs.YtjehhhlhalkieaaW.PrintMore
set_option linter.unusedVariables false
def small (n:Nat) (C:Int):Bool:=decide (n<1000000000 ∧ -9223372036854775808≤C∧C≤9223372036854775807)
def rightP_H.f (B:List S56) (D:List S62) (I J:Int):Option Bool:=if small B.length J=true then some (Call.Zw (fun x=>Xp I J x.f0 x.f1 x.f2) Call.ltH none B) else none
theorem rightP_H.calls (Z:Option Addr) (U:Nat) (B:List S56) (γ:Option Addr) (X:Nat) (D:List S62) (I J:Int) (r:Bool) (w:World) (b5:Kd.C k56 w Z B.length B) (b6:B.length≤U) (b7:Kd.C k62 w γ D.length D) (b8:D.length≤X) (h:rightP_H.f B D I J=some r) (g:Nat) (hg:w.heap[g]?=some (.cells #[.int .i64 I,.int .i64 J] 23 (0,0))):
    Calls Try.prog 42 #[.agg #[.slice Z B.length U,.func (.func 51) #[] #[]],.func (.func 61) #[] #[.pointer (some ⟨g,0,none⟩)]] w fun e w'=>e = .returned (.bool r)∧Below w.heap.size w w':=by
  unfold rightP_H.f at h
  split at h
  case isFalse=>cases h
  case isTrue hs=>
  cases h
  obtain⟨hl,hb⟩:=of_decide_eq_true hs
  have e1:=Ji I J hb
  have e2:=Jh I J hb
  refine api_Hall_right.calls (2 * B.length+1) Z U B 0 (tok I J) _ w b5 b6 ?_ g ?_
  · rw[Call.Wq B _ 0 (by omega) _ (by omega),e1,e2]
  · rw[e1,e2];exact hg
def rightP_I.f (B:List S56) (D:List S62) (I J:Int):Option Bool:=if small D.length J=true then some (Call.Zw (fun x=>Y0 I J x.f0 x.f1) Call.ltI none D) else none
theorem rightP_I.calls (Z:Option Addr) (U:Nat) (B:List S56) (γ:Option Addr) (X:Nat) (D:List S62) (I J:Int) (r:Bool) (w:World) (b5:Kd.C k56 w Z B.length B) (b6:B.length≤U) (b7:Kd.C k62 w γ D.length D) (b8:D.length≤X) (h:rightP_I.f B D I J=some r) (g:Nat) (hg:w.heap[g]?=some (.cells #[.int .i64 I,.int .i64 J] 23 (0,0))):
    Calls Try.prog 43 #[.agg #[.slice γ D.length X,.func (.func 57) #[] #[]],.func (.func 50) #[] #[.pointer (some ⟨g,0,none⟩)]] w fun e w'=>e = .returned (.bool r)∧Below w.heap.size w w':=by
  unfold rightP_I.f at h
  split at h
  case isFalse=>cases h
  case isTrue hs=>
  cases h
  obtain⟨hl,hb⟩:=of_decide_eq_true hs
  have e1:=Ji I J hb
  have e2:=Jh I J hb
  refine api_Inside_right.calls (2 * D.length+1) γ X D 0 (tok I J) _ w b7 b8 ?_ g ?_
  · rw[Call.Wp D _ 0 (by omega) _ (by omega),e1,e2]
  · rw[e1,e2];exact hg
end Go.Proofs.Ytjehhhlhalkieaa.C
namespace Go.Proofs.Ytjehhhlhalkieaa.C
open Go.RowKit Go.Proofs.YtjehhhlhalkieaaW.PrintWords Go.Proofs.YtjehhhlhalkieaaW.PrintLast Go.Proofs.YtjehhhlhalkieaaW.PrintMore
attribute [local go_sem] Zk Zi Zt Zs Zd Zc Zj Zh
set_option linter.unusedVariables false
set_option linter.unusedSimpArgs false
def api_Hall_set.j0:Nat→List (S56)→Option ((List (S56)))
 |0,_=>none
 |k+1,O=>some O
def api_Hall_set.f (k:Nat) (I:List (S56)) (J:Int) (D:Int) (O:Int) (U:Int):Option ((List (S56))):=(api_Hall_55.f I).bind fun δ =>((api_Hall_62.f k δ D O U J).bind fun γ=>(if γ.2=true then (if 0≤γ.1 then (if γ.1<(δ.length:Int) then (api_Hall_set.j0 k (δ.set (γ.1:Int).toNat (⟨D,O,U⟩:S56))) else (none)) else (none)) else (api_Hall_set.j0 k δ)))
theorem api_Hall_set.Zo:∀ k,(∀ D,LeO (api_Hall_set.j0 k D) (api_Hall_set.j0 (k+1) D))
 |0=>fun _ r h=>by simp[api_Hall_set.j0] at h
 |k+1=>by
  have B:=api_Hall_set.Zo k
  ·intro D
   unfold api_Hall_set.j0
   repeat' first
   |(with_reducible exact B _)
   |(with_reducible exact api_Hall_62.mono _ _ _ _ _ _)
   |(with_reducible exact LeO.refl _)
   |(with_reducible exact LeO.none _)
   |(with_reducible refine LeO.ite ?_ ?_)
   |(with_reducible refine LeO.bind ?_ (fun _=>?_))
   |exact B _
   |exact api_Hall_62.mono _ _ _ _ _ _
   |exact LeO.none _
   |refine LeO.ite ?_ ?_
   |refine LeO.bind ?_ (fun _=>?_)
theorem api_Hall_set.mono:∀ I D a2 a3 J k,LeO (api_Hall_set.f k I D a2 a3 J) (api_Hall_set.f (k+1) I D a2 a3 J):=by
 intro I D a2 a3 J k
 have B:=api_Hall_set.Zo k
 unfold api_Hall_set.f
 repeat' first
   |(with_reducible exact B _)
   |(with_reducible exact api_Hall_62.mono _ _ _ _ _ _)
   |(with_reducible exact LeO.refl _)
   |(with_reducible exact LeO.none _)
   |(with_reducible refine LeO.ite ?_ ?_)
   |(with_reducible refine LeO.bind ?_ (fun _=>?_))
   |exact B _
   |exact api_Hall_62.mono _ _ _ _ _ _
   |exact LeO.none _
   |refine LeO.ite ?_ ?_
   |refine LeO.bind ?_ (fun _=>?_)
set_option maxHeartbeats 8000000 in
set_option maxRecDepth 100000 in
theorem api_Hall_set.calls (k:Nat) (η :Option Addr) (ζ :Nat) (I:List (S56)) (J:Int) (D:Int) (O:Int) (U:Int) (r:List (S56)) (w:World) (a2:Kd.C k56 w η I.length I) (a5:I.length ≤ ζ) (h:api_Hall_set.f k I J D O U=some r):
  Calls Try.prog 47 #[.agg #[.slice η I.length ζ,.func (.func 51) #[] #[]],.agg #[.int .i64 D,.int .i64 O,.int .i64 U]] w fun e w'=>∃ a6:Value,e = .returned (a6)∧Kd.R k56 56 w' w.heap.size (fun _=>True) a6 r∧Below w.heap.size w w':=by
 have cg:=Try.underlying69
 have bu:=Try.underlying56
 have ψ :=Aside0.mk a2
 have af:=Aside0.mk a5
 clear a2 a5
 have HB:=Aside0.mk (Below.refl w.heap.size w)
 have H:((api_Hall_55.f I).bind fun δ =>((api_Hall_62.f k δ D O U J).bind fun γ=>(if γ.2=true then (if 0≤γ.1 then (if γ.1<(δ.length:Int) then (api_Hall_set.j0 k (δ.set (γ.1:Int).toNat (⟨D,O,U⟩:S56))) else (none)) else (none)) else (api_Hall_set.j0 k δ))))=some r:=h
 clear h
 replace H:=Option.bind_eq_some_iff.mp H
 obtain⟨δ,ai,H⟩:=H
 replace H:((api_Hall_62.f k δ D O U J).bind fun γ=>(if γ.2=true then (if 0≤γ.1 then (if γ.1<(δ.length:Int) then (api_Hall_set.j0 k (δ.set (γ.1:Int).toNat (⟨D,O,U⟩:S56))) else (none)) else (none)) else (api_Hall_set.j0 k δ)))=some r:=H
 have A3:=Aside0.mk ai
 clear ai
 replace H:=Option.bind_eq_some_iff.mp H
 obtain⟨⟨ν,φ⟩,bz,H⟩:=H
 replace H:(if φ = true then (if 0 ≤ ν then (if ν < (δ.length:Int) then (api_Hall_set.j0 k (δ.set (ν :Int).toNat (⟨D,O,U⟩:S56))) else (none)) else (none)) else (api_Hall_set.j0 k δ))=some r:=H
 have A4:=Aside0.mk bz
 clear bz
 have bv:=Aside0.mk H
 clear H
 go_enter Try.func47,Try.ntmps47
 go_upto_if 19 with(first|((with_reducible refine Qt (N:=2) rfl ?_);refine Qp ?hg (N:=2) ?hd (cs:=#[.slice η I.length ζ,.func (.func 51) #[] #[]]) (t:=69) ?hr ?_;(case hd=>rfl);(case hg=>rfl);(case hr=>go_simp <;> rfl);intro ξ hg w6 hbox hb;have Y:=Aside0.mk hbox;have bc:=sGe hg;have b2:=sGe hg;replace HB:=sHb hb;clear hb hbox hg)|((with_reducible refine Qt (N:=3) rfl ?_);refine Qp ?hg (N:=3) ?hd (cs:=#[.int .i64 D,.int .i64 O,.int .i64 U]) (t:=56) ?hr ?_;(case hd=>rfl);(case hg=>rfl);(case hr=>go_simp <;> rfl);intro ε hg w7 hbox hb;have L:=Aside0.mk hbox;have bm:=sGe hg;have bs:=sGe hg;have κ :=sNl Y hg;have τ :=sNg Y hg;replace Y:=sBk Y hb;replace HB:=sHb hb;clear hb hbox hg;have bn:= κ.out;have bq:= τ.out;have bd:w7.cell? ⟨ξ,0,none⟩=some (.slice η I.length ζ):=(Qa Y.out 0).trans rfl;have bg:w7.cell? ⟨ξ,1,none⟩=some (.func (.func 51) #[] #[]):=(Qa Y.out 1).trans rfl;have bh:=Qb Y.out 0;have bi:=Qb Y.out 1)|((with_reducible refine Q2 (f:=55) rfl ?_);refine Zq (some 10) rfl rfl Try.func55 kr rfl #[.slice η I.length ζ] rfl (by simp only[List.map_toArray,List.map_cons,List.map_nil] <;> rfl) ?_;(with_reducible refine(api_Hall_55.calls _ _ I δ _ ?side1 ?side2 A3.out).mono ?_);(case side1=>exact(Kd.Qz ψ.out HB.out));(case side2=>exact af.out);rintro e ci ⟨ck,rfl,χ,hb⟩;refine⟨_,rfl, ?_⟩;have B:=Aside0.mk (Kd.Q4 (Kd.Zy χ (g:= ε) (o:=.cells #[.int .i64 D,.int .i64 O,.int .i64 U] 56 (0,0)) L.out) (Qk HB.out));replace Y:=sBk Y hb;replace L:=sBk L hb;replace HB:=sHb hb;(try clear hb);(try clear a4);(try clear hk);(try clear hi);(try clear χ);have ab:ci.cell? ⟨ε,0,none⟩=some (.int .i64 D):=(Qa L.out 0).trans rfl;have ac:ci.cell? ⟨ε,1,none⟩=some (.int .i64 O):=(Qa L.out 1).trans rfl;have ap:ci.cell? ⟨ε,2,none⟩=some (.int .i64 U):=(Qa L.out 2).trans rfl;have ae:=Qb L.out 0;have aj:=Qb L.out 1;have ar:=Qb L.out 2;have av:ci.cell? ⟨ξ,0,none⟩=some (.slice η I.length ζ):=(Qa Y.out 0).trans rfl;have ax:ci.cell? ⟨ξ,1,none⟩=some (.func (.func 51) #[] #[]):=(Qa Y.out 1).trans rfl;have az:=Qb Y.out 0;have b0:=Qb Y.out 1;obtain⟨aa,a1,ak⟩:=Kd.Q6 B.out;subst ak)|((with_reducible refine Q2 (f:=62) rfl ?_);refine Zq (some 16) rfl rfl Try.func62 kr rfl #[.slice aa δ.length a1,.agg #[.int .i64 D,.int .i64 O,.int .i64 U],.func (.func 51) #[] #[]] rfl (by simp only[List.map_toArray,List.map_cons,List.map_nil] <;> rfl) ?_;(with_reducible refine(api_Hall_62.calls k _ _ δ D O U J ν φ _ ?side1 ?side2 A4.out).mono ?_);(case side1=>exact(Kd.Qr B.out).2.2);(case side2=>exact(Kd.Qr B.out).2.1);rintro e ay ⟨rfl,hb⟩;refine⟨_,rfl, ?_⟩;replace B:=sRb B hb;replace Y:=sBk Y hb;replace L:=sBk L hb;replace HB:=sHb hb;(try clear hb);(try clear a4);(try clear hk);(try clear hi)))
 (try simp only[Act.put,qS])
 go_cut [] (fun wc=>∃ (kq:Nat) (b8:List (S56)) (ι :Int) (σ:Int) (ω :Int),Aside0 (api_Hall_set.j0 kq b8=some r)∧Aside0 (kq≤k)∧Aside0 (Kd.R k56 56 wc w.heap.size (fun k_=>k_ ≠ ε) (.slice aa δ.length a1) b8)∧Aside0 (wc.heap[ξ]?=some (.cells #[(.slice η I.length ζ),.func (.func 51) #[] #[]] 69 (0,0)))∧Aside0 (wc.heap[ε]?=some (.cells #[.int .i64 ι,.int .i64 σ,.int .i64 ω] 56 (0,0)))∧Aside0 (Below w.heap.size w wc))
 case first=>
  have H:=bv.out
  clear bv
  by_cases a8: φ = true
  ·subst a8
   have H1:(if 0 ≤ ν then (if ν < (δ.length:Int) then (api_Hall_set.j0 k (δ.set (ν :Int).toNat (⟨D,O,U⟩:S56))) else (none)) else (none))=some r:=by rw[if_pos rfl] at H;exact H
   clear H
   have H:=H1
   clear H1
   by_cases a3:0 ≤ ν
   ·rw[if_pos a3] at H
    have c16b0:decide (0 ≤ ν)=true:=decide_eq_true a3
    clear a3
    (first|rw[c16b0]|(simp only[X5,Ys];rw[c16b0])|skip)
    by_cases au: ν < (δ.length:Int)
    ·rw[if_pos au] at H
     have c17b0:decide (ν < (δ.length:Int))=true:=decide_eq_true au
     clear au
     obtain⟨ag,Z⟩:∃ y_:List (S56),y_=(δ.set (ν :Int).toNat (⟨D,O,U⟩:S56)):=⟨_,rfl⟩
     replace H:(api_Hall_set.j0 k ag)=some r:=by first|(rw[Z];with_reducible exact H)|(have ρ:=(Option.bind_some _ _).symm.trans H;rw[Z];with_reducible exact ρ)|(have ρ:=(Option.bind_some _ _).symm.trans H;with_reducible exact ρ)|with_reducible exact H|(rw[Z];exact H)|exact H
     have am:=Aside0.mk Z
     clear Z
     have H':=Aside0.mk H
     clear H
     have bl:= τ.out
     have dh:= κ.out
     have b9:ay.cell? ⟨ε,0,none⟩=some (.int .i64 D):=(Qa L.out 0).trans rfl
     have ba:ay.cell? ⟨ε,1,none⟩=some (.int .i64 O):=(Qa L.out 1).trans rfl
     have be:ay.cell? ⟨ε,2,none⟩=some (.int .i64 U):=(Qa L.out 2).trans rfl
     have bb:=Qb L.out 0
     have bf:=Qb L.out 1
     have bp:=Qb L.out 2
     have an:0≤(ν :Int):=of_decide_eq_true (by assumption)
     have ao:(ν :Int)<((δ.length:Int):Int):=of_decide_eq_true (by assumption)
     obtain⟨X,db,b1,b3,br,dc,b5⟩:=Kd.U4 B.out (by omega)
     (first|cases b1|(injection b1 with ea_ en_ ec_;(first|subst ea_|(injection ea_ with ea_;subst ea_));subst ec_;clear en_))
     have ah:=Aside0.mk b3
     have dd:=Aside0.mk b5
     clear b3 br b5
     obtain⟨df,b7,b6,μ,a7⟩:=Kd.Kz B.out z56 (ν :Int) an ao
     obtain rfl:=Yw b6
     have bw:ay.cell? ⟨X,(ν :Int).toNat * 3,none⟩=some (.int .i64 ((Qi δ ν).f0)):= μ 0 _ rfl
     have ca:ay.cell? ⟨X,(ν :Int).toNat * 3+1,none⟩=some (.int .i64 ((Qi δ ν).f1)):= μ 1 _ rfl
     have cq:ay.cell? ⟨X,(ν :Int).toNat * 3+2,none⟩=some (.int .i64 ((Qi δ ν).f2)):= μ 2 _ rfl
     have cr:ay.frozen? ⟨X,(ν :Int).toNat * 3,none⟩=false:=a7 0
     have ct:ay.frozen? ⟨X,(ν :Int).toNat * 3+1,none⟩=false:=a7 1
     have di:ay.frozen? ⟨X,(ν :Int).toNat * 3+2,none⟩=false:=a7 2
     clear b7 μ a7 b6
     replace an:=eq_true an
     replace ao:=eq_true ao
     have n_:=Aside0.mk (Kd.Qs (ok':=(fun k_=>k_ ≠ ε)) B.out (fun k_ hk=>hk.2))
     clear B
     have B:=n_
     clear n_
     have cd:=Aside0.mk (show Kd.R k56 56 ay w.heap.size (fun k_=>k_ ≠ ε) (.slice (some ⟨X,0,none⟩) δ.length a1) δ from B.out)
     obtain⟨cm,bk,ce,θ,a0⟩:=Kd.Kz cd.out z56 (ν :Int) (of_decide_eq_true (by assumption)) (by have h_:(ν :Int)<((δ.length:Int):Int):=of_decide_eq_true (by assumption);first|exact h_|(have e_:=(Kd.Qr B.out).1;omega)|simpa using h_)
     obtain rfl:=Yw ce
     have bj:=Kd.Mj cd.out (ν :Int) (of_decide_eq_true (by assumption)) (by have h_:(ν :Int)<((δ.length:Int):Int):=of_decide_eq_true (by assumption);first|exact h_|(have e_:=(Kd.Qr B.out).1;omega)|simpa using h_) (seg:=[.int .i64 D,.int .i64 O,.int .i64 U]) (j:=0) bk θ (show 3≤3 from by decide) (x':=(⟨D,O,U⟩:S56)) (Yg _ _ _ (⟨D,O,U⟩:S56)) (fun _ hk=>hk)
     have al:= θ 0 _ rfl
     (try simp only[show(k56).sz=3 from rfl,Nat.mul_one,Nat.add_zero] at al)
     have cf:=a0 0
     (try simp only[show(k56).sz=3 from rfl,Nat.mul_one,Nat.add_zero] at cf)
     have aw:= θ 1 _ rfl
     (try simp only[show(k56).sz=3 from rfl,Nat.mul_one,Nat.add_zero] at aw)
     have ch:=a0 1
     (try simp only[show(k56).sz=3 from rfl,Nat.mul_one,Nat.add_zero] at ch)
     have b4:= θ 2 _ rfl
     (try simp only[show(k56).sz=3 from rfl,Nat.mul_one,Nat.add_zero] at b4)
     have cj:=a0 2
     (try simp only[show(k56).sz=3 from rfl,Nat.mul_one,Nat.add_zero] at cj)
     clear bk θ a0 ce
     go_wp2_with (first|((with_reducible refine Kf (t:=56) (p:=23) rfl ?_);refine Jv (t:=56) (p:=23) (v:=?vo_w22) (w1:=(((ay.setCell ⟨X,(ν :Int).toNat * 3,none⟩ (.int .i64 D)).setCell ⟨X,(ν :Int).toNat * 3+1,none⟩ (.int .i64 O)).setCell ⟨X,(ν :Int).toNat * 3+2,none⟩ (.int .i64 U))) ?hg ?ho ?hn ?hr ?_;(case ho=>rfl);(case hg=>rfl);(case hn=>rfl);(case hr=>go_simp <;> rfl);intro dt hw;have hg:ay.grownBy dt (some X):=(by rw[hw];exact bj.2);have hp_:Kd.R k56 56 dt w.heap.size (fun k_=>k_ ≠ ε) (.slice (some ⟨X,0,none⟩) δ.length a1) ag:=(by rw[hw,am.out];exact bj.1);clear bj;replace Y:=Aside0.mk (Zb (g:= ξ) (o:=.cells #[.slice η I.length ζ,.func (.func 51) #[] #[]] 69 (0,0)) Y.out hg (Kd.X1 B.out Y.out (by decide)));replace L:=Aside0.mk (Zb (g:= ε) (o:=.cells #[.int .i64 D,.int .i64 O,.int .i64 U] 56 (0,0)) L.out hg (Kd.Y4 B.out (fun _ hk=>hk)));replace B:=Aside0.mk hp_;replace HB:=Aside0.mk ((by rw[hw];exact Qe (Qe (Qe (HB.out) ah.out) ah.out) ah.out:Below w.heap.size w dt));clear hg hw hp_))
     go_meet
     case rel=>exact⟨_,(ag),(D),(O),(U),H',⟨by first|omega|exact Nat.le_refl _⟩,⟨by(with_reducible repeat(first|apply Kd.Qm|apply Kd.Ql|apply Kd.Qo));exact B.out⟩,Y,L,HB⟩
    ·rw[if_neg au] at H
     exact absurd H (by simp)
   ·rw[if_neg a3] at H
    exact absurd H (by simp)
  ·replace a8:=Bool.eq_false_iff.mpr a8
   subst a8
   have H1:(api_Hall_set.j0 k δ)=some r:=by rw[if_neg (show ¬ (false=true) by decide)] at H;exact H
   clear H
   have H:=H1
   clear H1
   have H':=Aside0.mk H
   clear H
   go_wp2
   go_meet
   case rel=>exact⟨_,(δ),(D),(O),(U),H',⟨by first|omega|exact Nat.le_refl _⟩,⟨by(with_reducible repeat(first|apply Kd.Qm|apply Kd.Ql|apply Kd.Qo));exact Kd.Qs B.out (fun _ hk=>hk.2)⟩,Y,L,HB⟩
 case rest=>
  clear bv
  try clear c1
  try clear p1
  try clear q1
  try clear bo
  try clear c2
  try clear p2
  try clear ek
  try clear cu
  try clear c4
  try clear c5
  try clear c6
  try clear c8
  try clear a8
  try clear a3
  try clear c16b0
  try clear au
  try clear c17b0
  try clear cb
  try clear an
  try clear ao
  try clear cn
  try clear co
  try clear e5
  try clear cv
  try clear ea
  try clear cp
  try clear ab
  try clear ac
  try clear ap
  try clear av
  try clear ax
  try clear b9
  try clear ba
  try clear be
  try clear bd
  try clear bg
  try clear ae
  try clear aj
  try clear ar
  try clear az
  try clear b0
  try clear bb
  try clear bf
  try clear bp
  try clear bh
  try clear bi
  try clear bw
  try clear ca
  try clear cq
  try clear al
  try clear aw
  try clear b4
  try clear an
  try clear ao
  obtain⟨kq,b8,ι,σ,ω,HA,cw,HO_5,Y,L,HB⟩:=hcut
  have a9:=(Kd.Qr HO_5.out).1
  rw[a9] at HO_5
  (try simp only[a9])
  (try simp only[a9] at Y)
  (try simp only[a9] at L)
  cases kq with
  |zero=>exact absurd HA.out (by simp[api_Hall_set.j0])
  |succ cx=>
   have H:=HA.out
   clear HA
   simp only[api_Hall_set.j0] at H
   obtain rfl:=Option.some.inj H
   go_wp2
   go_ret
   exact⟨_,rfl,by(with_reducible repeat(first|apply Kd.Qm|apply Kd.Ql|apply Kd.Qo));exact Kd.Qs HO_5.out (fun _ hk=>trivial),HB.out⟩
end Go.Proofs.Ytjehhhlhalkieaa.C
namespace Go.Proofs.Ytjehhhlhalkieaa.C
open Go.RowKit Go.Proofs.YtjehhhlhalkieaaW.PrintWords Go.Proofs.YtjehhhlhalkieaaW.PrintLast Go.Proofs.YtjehhhlhalkieaaW.PrintMore
set_option linter.unusedVariables false
def hallP.f (J L x2 F C:Int):Option Bool:=some (Xp F C J L x2)
def insP.f (J L F C:Int):Option Bool:=some (Y0 F C J L)
def woP_H.f (J L x2:Int) (l:List S56):Option (List S56):=if small l.length L=true then some (woH J L x2 l) else none
def woP_I.f (J L:Int) (l:List S62):Option (List S62):=if small l.length L=true then some (woI J L l) else none
def Jn (x:S56) (l:List S56):List S56:=l.map (fun y=>if y.f0=x.f0∧y.f1=x.f1 then x else y)
def setP_H.f (J L x2:Int) (l:List S56):Option (List S56):=if small l.length L=true∧Call.Zw (fun _=>true) Call.ltH none l=true then some (Jn ⟨J,L,x2⟩ l) else none
theorem Ju (X:Option Addr) (c:Nat) (l:List S56) (J L x2:Int) (t:List S56) (W:World) (hr:Kd.C k56 W X l.length l) (hc:l.length≤c) (h:woP_H.f J L x2 l=some t):
    Calls Try.prog 31 #[.agg #[.slice X l.length c,.func (.func 51) #[] #[]],.agg #[.int .i64 J,.int .i64 L,.int .i64 x2]] W fun e w'=>∃ a6:Value,e = .returned a6∧Kd.R k56 56 w' W.heap.size (fun _=>True) a6 t∧Below W.heap.size W w':=by
  unfold woP_H.f at h
  split at h
  case isFalse=>cases h
  case isTrue hs=>
  cases h
  obtain⟨hl,hb⟩:=of_decide_eq_true hs
  exact Vk X c l J L x2 W hr hc hl hb
theorem Y5 (X:Option Addr) (c:Nat) (l:List S62) (J L:Int) (t:List S62) (W:World) (hr:Kd.C k62 W X l.length l) (hc:l.length≤c) (h:woP_I.f J L l=some t):
    Calls Try.prog 36 #[.agg #[.slice X l.length c,.func (.func 57) #[] #[]],.agg #[.int .i64 J,.int .i64 L]] W fun e w'=>∃ a6:Value,e = .returned a6∧Kd.R k62 62 w' W.heap.size (fun _=>True) a6 t∧Below W.heap.size W w':=by
  unfold woP_I.f at h
  split at h
  case isFalse=>cases h
  case isTrue hs=>
  cases h
  obtain⟨hl,hb⟩:=of_decide_eq_true hs
  exact Vj X c l J L W hr hc hl hb
theorem V3 (x:S56) (l:List S56):(Jn x l).length=l.length:=by unfold Jn;simp
theorem V4 (x:S56) (l:List S56) (m:Nat) (h:m<l.length) (O:m<(Jn x l).length):(Jn x l)[m]=if l[m].f0=x.f0∧l[m].f1=x.f1 then x else l[m]:=by
  simp only[Jn,List.getElem_map]
theorem Wo (l:List S56) (x:S56) (p:Nat) (hs:l.Pairwise (fun x y=>Call.ltH x y=true)) (hp:Call.G1 l x.f0 x.f1 p):
    Call.Kx l x.f0 x.f1 p=true→l.set p x=Jn x l:=by
  intro h
  unfold Call.Kx at h
  obtain⟨h1,O,D⟩:=hp
  rcases Nat.lt_or_ge p l.length with hlt|hge
  case inr=>rw[List.getElem?_eq_none hge] at h;simp at h
  rw[List.getElem?_eq_getElem hlt] at h
  have he:Z9 l[p].f0 l[p].f1 x.f0 x.f1=0:=by simpa using h
  rw[Call.Ym] at he
  apply List.ext_getElem
  · rw[V3];simp
  intro m B J
  rw[List.length_set] at B
  rw[List.getElem_set,V4 x l m B J]
  by_cases hm:p=m
  · subst hm
    rw[if_pos rfl,if_pos he]
  · rw[if_neg hm,if_neg]
    intro hq
    rcases Nat.lt_or_ge m p with Y|L
    · have:=List.pairwise_iff_getElem.1 hs m p B hlt Y
      rw[Call.Yu] at this
      omega
    · have:=List.pairwise_iff_getElem.1 hs p m hlt B (by omega)
      rw[Call.Yu] at this
      omega
theorem Ll (l:List S56) (x:S56) (p:Nat) (hs:l.Pairwise (fun x y=>Call.ltH x y=true)) (hp:Call.G1 l x.f0 x.f1 p):
    Call.Kx l x.f0 x.f1 p=false→l=Jn x l:=by
  intro h
  unfold Call.Kx at h
  obtain⟨h1,O,D⟩:=hp
  have key:∀ m:Nat,(hm:m<l.length) → ¬ (l[m].f0=x.f0∧l[m].f1=x.f1):=by
    intro m hm hq
    rw[← Call.Ym] at hq
    rcases Nat.lt_or_ge m p with hlt|hge
    · have:=O l[m] (List.mem_iff_getElem.2 ⟨m,by rw[List.length_take];omega,by rw[List.getElem_take]⟩)
      omega
    · rcases Nat.lt_or_ge p m with Y|L
      · have U:=List.pairwise_iff_getElem.1 hs p m (by omega) hm Y
        have I:=D l[p] (List.mem_iff_getElem.2 ⟨0,by rw[List.length_drop];omega,by rw[List.getElem_drop];simp⟩)
        rw[Call.Yu] at U
        rw[Call.Ym] at hq
        rw[Call.X3] at I
        omega
      · have hpm:p=m:=by omega
        subst hpm
        rw[List.getElem?_eq_getElem hm] at h
        simp[hq] at h
  apply List.ext_getElem
  · rw[V3]
  intro m B J
  rw[V4 x l m B J,if_neg (key m B)]
theorem Vl (X:Option Addr) (c:Nat) (l:List S56) (J L x2:Int) (t:List S56) (W:World) (hr:Kd.C k56 W X l.length l) (hc:l.length≤c) (h:setP_H.f J L x2 l=some t):
    Calls Try.prog 47 #[.agg #[.slice X l.length c,.func (.func 51) #[] #[]],.agg #[.int .i64 J,.int .i64 L,.int .i64 x2]] W fun e w'=>∃ a6:Value,e = .returned a6∧Kd.R k56 56 w' W.heap.size (fun _=>True) a6 t∧Below W.heap.size W w':=by
  unfold setP_H.f at h
  split at h
  case isFalse=>cases h
  case isTrue hs=>
  cases h
  obtain⟨hl,hb⟩:=of_decide_eq_true hs.1
  have hso:=((Call.Y7 (fun _=>true) l).1 hs.2).2
  refine api_Hall_set.calls (l.length+2) X c l 0 J L x2 _ W hr hc ?_
  unfold api_Hall_set.f api_Hall_55.f
  rw[if_pos hl]
  simp only[Option.bind_some]
  obtain⟨p,hp,e⟩:=Call.Gq l J L x2 0 (by omega) hso (l.length+2) (by omega)
  obtain⟨b,hm⟩:∃ b,Call.Kx l J L p=b:=⟨_,rfl⟩
  rw[hm] at e
  rw[e]
  simp only[Option.bind_some]
  cases b
  · rw[if_neg (by decide)]
    simp only[api_Hall_set.j0]
    congr 1
    exact Ll l ⟨J,L,x2⟩ p hso hp hm
  · have hlt:p<l.length:=by
      rcases Nat.lt_or_ge p l.length with h|h
      · exact h
      · unfold Call.Kx at hm;rw[List.getElem?_eq_none h] at hm;simp at hm
    rw[if_pos rfl,if_pos (by omega),if_pos (by omega)]
    simp only[api_Hall_set.j0,Int.toNat_natCast]
    congr 1
    exact Wo l ⟨J,L,x2⟩ p hso hp hm
end Go.Proofs.Ytjehhhlhalkieaa.C
namespace Go.Proofs.Ytjehhhlhalkieaa.C
open Go.RowKit Go.Proofs.YtjehhhlhalkieaaW.PrintWords Go.Proofs.YtjehhhlhalkieaaW.PrintLast Go.Proofs.YtjehhhlhalkieaaW.PrintMore
attribute [local go_sem] Zk Zi Zt Zs Zd Zc Zj Zh
set_option linter.unusedVariables false
set_option linter.unusedSimpArgs false
def call_Check.j0:Nat→Bool→Option (Int)
 |0,_=>none
 |k+1,I=>if I=true then (some 190) else (some 0)
def call_Check.f (k:Nat) (I:Int) (J:Int) (B:List (S56)) (D:List (S62)):Option (Int):=(call_within.f I 2 64).bind fun δ =>(if δ = true then ((call_within.f J 1 8).bind fun ζ =>(if ζ = true then ((rightP_H.f B D I J).bind fun O=>(if O=true then ((rightP_I.f B D I J).bind fun ν =>(call_Check.j0 k (!t106))) else (call_Check.j0 k true))) else (call_Check.j0 k true))) else (call_Check.j0 k true))
theorem call_Check.Zo:∀ k,(∀ D,LeO (call_Check.j0 k D) (call_Check.j0 (k+1) D))
 |0=>fun _ r h=>by simp[call_Check.j0] at h
 |k+1=>by
  have B:=call_Check.Zo k
  ·intro D
   unfold call_Check.j0
   repeat' first
   |(with_reducible exact B _)
   |(with_reducible exact LeO.refl _)
   |(with_reducible exact LeO.none _)
   |(with_reducible refine LeO.ite ?_ ?_)
   |(with_reducible refine LeO.bind ?_ (fun _=>?_))
   |exact B _
   |exact LeO.none _
   |refine LeO.ite ?_ ?_
   |refine LeO.bind ?_ (fun _=>?_)
theorem call_Check.mono:∀ I D a2 a3 k,LeO (call_Check.f k I D a2 a3) (call_Check.f (k+1) I D a2 a3):=by
 intro I D a2 a3 k
 have B:=call_Check.Zo k
 unfold call_Check.f
 repeat' first
   |(with_reducible exact B _)
   |(with_reducible exact LeO.refl _)
   |(with_reducible exact LeO.none _)
   |(with_reducible refine LeO.ite ?_ ?_)
   |(with_reducible refine LeO.bind ?_ (fun _=>?_))
   |exact B _
   |exact LeO.none _
   |refine LeO.ite ?_ ?_
   |refine LeO.bind ?_ (fun _=>?_)
def call_Check.T1:Bool×List (List Nat×List Nat):=(true,[([],[]),([0],[0]),([1],[1]),([2],[2]),([3,2],[3]),([4],[4]),([5,4],[4,5]),([6,4,4],[4,6]),([7,4],[4,7]),([4,8],[4,8]),([9,7],[9]),([10],[10]),([11,10,10],[10,11]),([10],[10]),([13,12,10],[10,13]),([12,14,14,10],[10,12,14]),([15,10],[10,15]),([10,16],[10,16]),([17,15],[17]),([18],[18]),([19,18,18],[18,19]),([18],[18]),([21,20,18],[18,21]),([20,22,22,18],[18,20,22]),([23,18],[18,23]),([18,24],[18,24])])
def call_Check.B1:List Nat:=[0,1,3,7,15,31,63,127,255,511,1023,2047,4095,2047,16383,32767,65535,131071,262143,524287,1048575,524287,4194303,8388607,16777215,33554431]
theorem call_Check.Gh:rtab .any (opsOf Try.f14 1)=call_Check.T1:=by kernel_rfl
theorem call_Check.Jt:Zx call_Check.T1.2 call_Check.B1=true:=by kernel_rfl
set_option maxHeartbeats 8000000 in
set_option maxRecDepth 100000 in
theorem call_Check.calls (k:Nat) (I:Int) (J:Int) (Z:Option Addr) (U:Nat) (B:List (S56)) (γ:Option Addr) (X:Nat) (D:List (S62)) (r:Int) (w:World) (b5:Kd.C k56 w Z B.length B) (b6:B.length≤U) (b7:Kd.C k62 w γ D.length D) (b8:D.length≤X) (h:call_Check.f k I J B D=some r):
  Calls Try.prog 14 #[.agg #[.int .i64 I,.int .i64 J],.agg #[.slice Z B.length U,.slice γ D.length X]] w fun e w'=>e = .returned (.int .i64 r)∧Below w.heap.size w w':=by
 have dx:=Try.underlying23
 have db:=Try.underlying27
 have ag:=Aside0.mk b5
 have ar:=Aside0.mk b6
 clear b5 b6
 have ah:=Aside0.mk b7
 have aw:=Aside0.mk b8
 clear b7 b8
 have HB:=Aside0.mk (Below.refl w.heap.size w)
 have H:((call_within.f I 2 64).bind fun δ =>(if δ = true then ((call_within.f J 1 8).bind fun ζ =>(if ζ = true then ((rightP_H.f B D I J).bind fun O=>(if O=true then ((rightP_I.f B D I J).bind fun ν =>(call_Check.j0 k (!t106))) else (call_Check.j0 k true))) else (call_Check.j0 k true))) else (call_Check.j0 k true)))=some r:=h
 clear h
 have br:=Aside0.mk H
 clear H
 go_enter Try.func14,Try.ntmps14
 go_upto_region 1 with(first|((with_reducible refine Qt (N:=2) rfl ?_);refine Qp ?hg (N:=2) ?hd (cs:=#[.int .i64 I,.int .i64 J]) (t:=23) ?hr ?_;(case hd=>rfl);(case hg=>rfl);(case hr=>go_simp <;> rfl);intro ξ hg w4 hbox hb;have Y:=Aside0.mk hbox;have bc:=sGe hg;have b2:=sGe hg;replace HB:=sHb hb;clear hb hbox hg)|((with_reducible refine Qt (N:=3) rfl ?_);refine Qp ?hg (N:=3) ?hd (cs:=#[.slice Z B.length U,.slice γ D.length X]) (t:=27) ?hr ?_;(case hd=>rfl);(case hg=>rfl);(case hr=>go_simp <;> rfl);intro ε hg w5 hbox hb;have L:=Aside0.mk hbox;have bm:=sGe hg;have bs:=sGe hg;have κ :=sNl Y hg;have τ :=sNg Y hg;replace Y:=sBk Y hb;replace HB:=sHb hb;clear hb hbox hg))
 (try simp only[Act.put,qS])
 go_cut [30] (fun σ wc=>∃ (kq:Nat) (η :Bool),σ = .bool η ∧ Aside0 (call_Check.j0 kq η = some r)∧Aside0 (kq≤k)∧Aside0 (wc.heap[ξ]?=some (.cells #[.int .i64 I,.int .i64 J] 23 (0,0)))∧Aside0 (wc.heap[ε]?=some (.cells #[(.slice Z B.length U),(.slice γ D.length X)] 27 (0,0)))∧Aside0 (Below w.heap.size w wc))
 case first=>
  have H:=br.out
  clear br
  replace H:=Option.bind_eq_some_iff.mp H
  obtain⟨δ,d8,H⟩:=H
  replace H:(if δ = true then ((call_within.f J 1 8).bind fun ζ =>(if ζ = true then ((rightP_H.f B D I J).bind fun O=>(if O=true then ((rightP_I.f B D I J).bind fun ν =>(call_Check.j0 k (!t106))) else (call_Check.j0 k true))) else (call_Check.j0 k true))) else (call_Check.j0 k true))=some r:=H
  have A6:=Aside0.mk d8
  clear d8
  by_cases c7: δ = true
  ·subst c7
   have H1:((call_within.f J 1 8).bind fun ζ =>(if ζ = true then ((rightP_H.f B D I J).bind fun O=>(if O=true then ((rightP_I.f B D I J).bind fun ν =>(call_Check.j0 k (!t106))) else (call_Check.j0 k true))) else (call_Check.j0 k true)))=some r:=by rw[if_pos rfl] at H;exact H
   clear H
   have H:=H1
   clear H1
   replace H:=Option.bind_eq_some_iff.mp H
   obtain⟨ζ,df,H⟩:=H
   replace H:(if ζ = true then ((rightP_H.f B D I J).bind fun O=>(if O=true then ((rightP_I.f B D I J).bind fun ν =>(call_Check.j0 k (!t106))) else (call_Check.j0 k true))) else (call_Check.j0 k true))=some r:=H
   have A8:=Aside0.mk df
   clear df
   by_cases c9: ζ = true
   ·subst c9
    have H1:((rightP_H.f B D I J).bind fun O=>(if O=true then ((rightP_I.f B D I J).bind fun ν =>(call_Check.j0 k (!t106))) else (call_Check.j0 k true)))=some r:=by rw[if_pos rfl] at H;exact H
    clear H
    have H:=H1
    clear H1
    replace H:=Option.bind_eq_some_iff.mp H
    obtain⟨O,f3,H⟩:=H
    replace H:(if O=true then ((rightP_I.f B D I J).bind fun ν =>(call_Check.j0 k (!t106))) else (call_Check.j0 k true))=some r:=H
    have em:=Aside0.mk f3
    clear f3
    by_cases cg:O=true
    ·subst cg
     have H1:((rightP_I.f B D I J).bind fun ν =>(call_Check.j0 k (!t106)))=some r:=by rw[if_pos rfl] at H;exact H
     clear H
     have H:=H1
     clear H1
     replace H:=Option.bind_eq_some_iff.mp H
     obtain⟨ν,ci,H⟩:=H
     replace H:(call_Check.j0 k (!t106))=some r:=H
     have cx:=Aside0.mk ci
     clear ci
     have H':=Aside0.mk H
     clear H
     try go_wp2
     replace Y:=Aside0.mk (Qc Y.out)
     replace L:=Aside0.mk (Qc L.out)
     replace HB:=Aside0.mk (Qh HB.out)
     refine Zv (n:=26) (S:=fun w'=>w'.cell? ⟨ξ,0,none⟩=some (.int .i64 I)∧w'.cell? ⟨ξ,1,none⟩=some (.int .i64 J)∧w'.cell? ⟨ε,0,none⟩=some (.slice Z B.length U)∧w'.cell? ⟨ε,1,none⟩=some (.slice γ D.length X)) (ds:=[]) #[false,false,false,false,false,false,false,false,false,false,false,false,false,false,false,false,false,false,false,false,false,false,false,false,false,false] kr rfl rfl ⟨(Qa Y.out 0).trans rfl,(Qa Y.out 1).trans rfl,(Qa L.out 0).trans rfl,(Qa L.out 1).trans rfl⟩ (fun hHeld=>?_);refine Q8 call_Check.Gh call_Check.Jt (fun HT_ HW_=>?_)
     generalize w5.drew=ch at Y L HB hHeld ⊢
     refine qP 0 (some 5) (bN 26 1) HT_ ?_
     refine qT 1 (some 6) (bN 26 3) HT_ HW_ hHeld ?_
     refine Zm (i:=2) (N:=some 7) (bN 26 7) rfl rfl (Q3 HT_.out kr) (by decide) (fun K hK=>?_)
     refine Zg Try.func41 kr rfl #[.int .i64 I,.int .i64 2,.int .i64 64] (by rfl) rfl rfl (by simp only[List.map_toArray,List.map_cons,List.map_nil] <;> rfl) ?_
     with_reducible refine(call_within.calls I 2 64 true _ A6.out).mono ?_
     rintro e w' ⟨rfl,⟨nd,rfl⟩⟩
     refine⟨_,rfl, ?_⟩
     refine hK.out _ _ ⟨(Qa Y.out 0).trans rfl,(Qa Y.out 1).trans rfl,(Qa L.out 0).trans rfl,(Qa L.out 1).trans rfl⟩ (fun hHeld=>?_)
     clear hK K
     refine qN (some 7) ?_
     refine qP 3 (some 8) (bN 26 15) HT_ ?_
     refine qP 4 (some 9) (bN 26 31) HT_ ?_
     refine qP 5 (some 10) (bN 26 63) HT_ ?_
     refine qT 6 (some 11) (bN 26 127) HT_ HW_ hHeld ?_
     refine Zm (i:=7) (N:=some 12) (bN 26 255) rfl rfl (Q3 HT_.out kr) (by decide) (fun K hK=>?_)
     refine Zg Try.func41 kr rfl #[.int .i64 J,.int .i64 1,.int .i64 8] (by rfl) rfl rfl (by simp only[List.map_toArray,List.map_cons,List.map_nil] <;> rfl) ?_
     with_reducible refine(call_within.calls J 1 8 true _ A8.out).mono ?_
     rintro e w' ⟨rfl,⟨nd,rfl⟩⟩
     refine⟨_,rfl, ?_⟩
     refine hK.out _ _ ⟨(Qa Y.out 0).trans rfl,(Qa Y.out 1).trans rfl,(Qa L.out 0).trans rfl,(Qa L.out 1).trans rfl⟩ (fun hHeld=>?_)
     clear hK K
     refine qN (some 12) ?_
     refine qP 8 (some 13) (bN 26 511) HT_ ?_
     refine qP 9 (some 14) (bN 26 1023) HT_ ?_
     refine qP 10 (some 15) (bN 26 2047) HT_ ?_
     refine qT 11 (some 16) (bN 26 4095) HT_ HW_ hHeld ?_
     refine qT 13 (some 18) (bN 26 12287) HT_ HW_ hHeld ?_
     refine Zm (i:=12) (N:=some 17) (bN 26 16383) rfl rfl (Q3 HT_.out kr) (by decide) (fun K hK=>?_)
     refine Zg Try.func30 kr rfl #[.agg #[.slice Z B.length U,.slice γ D.length X]] (by rfl) rfl rfl (by(try simp only[List.map_toArray,List.map_cons,List.map_nil]);first|done|rfl) ?_
     refine(Yb Z γ B.length D.length U X _).mono ?_
     rintro e e6 ⟨rfl,hb⟩
     refine⟨_,rfl, ?_⟩
     replace Y:=sBk Y hb
     replace L:=sBk L hb
     replace HB:=sHb hb
     (try clear hb)
     (try clear a4)
     (try clear hk)
     (try clear hi)
     refine hK.out _ _ ⟨(Qa Y.out 0).trans rfl,(Qa Y.out 1).trans rfl,(Qa L.out 0).trans rfl,(Qa L.out 1).trans rfl⟩ (fun hHeld=>?_)
     clear hK K
     refine qN (some 17) ?_
     refine Zm (i:=14) (N:=some 19) (bN 26 32767) rfl rfl (Q3 HT_.out kr) (by decide) (fun K hK=>?_)
     refine Zg Try.func34 kr rfl #[.agg #[.int .i64 I,.int .i64 J]] (by rfl) rfl rfl (by(try simp only[List.map_toArray,List.map_cons,List.map_nil]);first|done|rfl) ?_
     refine(Ja I J _).mono ?_
     rintro e e7 ⟨θ,rfl,hgp,hgw,hb⟩
     have μ :=Aside0.mk hgp
     clear hgp hgw
     refine⟨_,rfl, ?_⟩
     replace Y:=sBk Y hb
     replace L:=sBk L hb
     replace HB:=sHb hb
     (try clear hb)
     (try clear a4)
     (try clear hk)
     (try clear hi)
     refine hK.out _ _ ⟨(Qa Y.out 0).trans rfl,(Qa Y.out 1).trans rfl,(Qa L.out 0).trans rfl,(Qa L.out 1).trans rfl⟩ (fun hHeld=>?_)
     clear hK K
     refine qN (some 19) ?_
     refine Zm (i:=15) (N:=some 20) (bN 26 65535) rfl rfl (Q3 HT_.out kr) (by decide) (fun K hK=>?_)
     refine Zg Try.func42 kr rfl #[.agg #[.slice Z B.length U,.func (.func 51) #[] #[]],.func (.func 61) #[] #[.pointer (some ⟨θ,0,none⟩)]] (by rfl) rfl rfl (by simp only[List.map_toArray,List.map_cons,List.map_nil] <;> rfl) ?_
     with_reducible refine(rightP_H.calls Z U B γ X D I J true _ ?side1 ?side2 ?side3 ?side4 em.out θ μ.out).mono ?_
     (case side1=>exact(Kd.Qz ag.out HB.out))
     (case side2=>exact ar.out)
     (case side3=>exact(Kd.Qz ah.out HB.out))
     (case side4=>exact aw.out)
     rintro e ay ⟨rfl,hb⟩
     refine⟨_,rfl, ?_⟩
     replace Y:=sBk Y hb
     replace L:=sBk L hb
     replace HB:=sHb hb
     (try clear hb)
     (try clear a4)
     (try clear hk)
     (try clear hi)
     refine hK.out _ _ ⟨(Qa Y.out 0).trans rfl,(Qa Y.out 1).trans rfl,(Qa L.out 0).trans rfl,(Qa L.out 1).trans rfl⟩ (fun hHeld=>?_)
     clear hK K
     refine qN (some 20) ?_
     refine qP 16 (some 21) (bN 26 131071) HT_ ?_
     refine qP 17 (some 22) (bN 26 262143) HT_ ?_
     refine qP 18 (some 23) (bN 26 524287) HT_ ?_
     refine qT 19 (some 24) (bN 26 1048575) HT_ HW_ hHeld ?_
     refine qT 21 (some 26) (bN 26 3145727) HT_ HW_ hHeld ?_
     refine Zm (i:=20) (N:=some 25) (bN 26 4194303) rfl rfl (Q3 HT_.out kr) (by decide) (fun K hK=>?_)
     refine Zg Try.func32 kr rfl #[.agg #[.slice Z B.length U,.slice γ D.length X]] (by rfl) rfl rfl (by(try simp only[List.map_toArray,List.map_cons,List.map_nil]);first|done|rfl) ?_
     refine(Yi Z γ B.length D.length U X _).mono ?_
     rintro e e8 ⟨rfl,hb⟩
     refine⟨_,rfl, ?_⟩
     replace Y:=sBk Y hb
     replace L:=sBk L hb
     replace HB:=sHb hb
     (try clear hb)
     (try clear a4)
     (try clear hk)
     (try clear hi)
     refine hK.out _ _ ⟨(Qa Y.out 0).trans rfl,(Qa Y.out 1).trans rfl,(Qa L.out 0).trans rfl,(Qa L.out 1).trans rfl⟩ (fun hHeld=>?_)
     clear hK K
     refine qN (some 25) ?_
     refine Zm (i:=22) (N:=some 27) (bN 26 8388607) rfl rfl (Q3 HT_.out kr) (by decide) (fun K hK=>?_)
     refine Zg Try.func29 kr rfl #[.agg #[.int .i64 I,.int .i64 J]] (by rfl) rfl rfl (by(try simp only[List.map_toArray,List.map_cons,List.map_nil]);first|done|rfl) ?_
     refine(Y9 I J _).mono ?_
     rintro e fx ⟨bf,rfl,hgp,hgw,hb⟩
     have bq:=Aside0.mk hgp
     clear hgp hgw
     refine⟨_,rfl, ?_⟩
     replace Y:=sBk Y hb
     replace L:=sBk L hb
     replace HB:=sHb hb
     (try clear hb)
     (try clear a4)
     (try clear hk)
     (try clear hi)
     refine hK.out _ _ ⟨(Qa Y.out 0).trans rfl,(Qa Y.out 1).trans rfl,(Qa L.out 0).trans rfl,(Qa L.out 1).trans rfl⟩ (fun hHeld=>?_)
     clear hK K
     refine qN (some 27) ?_
     refine Zm (i:=23) (N:=some 28) (bN 26 16777215) rfl rfl (Q3 HT_.out kr) (by decide) (fun K hK=>?_)
     refine Zg Try.func43 kr rfl #[.agg #[.slice γ D.length X,.func (.func 57) #[] #[]],.func (.func 50) #[] #[.pointer (some ⟨bf,0,none⟩)]] (by rfl) rfl rfl (by simp only[List.map_toArray,List.map_cons,List.map_nil] <;> rfl) ?_
     with_reducible refine(rightP_I.calls Z U B γ X D I J ν _ ?side1 ?side2 ?side3 ?side4 cx.out bf bq.out).mono ?_
     (case side1=>exact(Kd.Qz ag.out HB.out))
     (case side2=>exact ar.out)
     (case side3=>exact(Kd.Qz ah.out HB.out))
     (case side4=>exact aw.out)
     rintro e cv ⟨rfl,hb⟩
     refine⟨_,rfl, ?_⟩
     replace Y:=sBk Y hb
     replace L:=sBk L hb
     replace HB:=sHb hb
     (try clear hb)
     (try clear a4)
     (try clear hk)
     (try clear hi)
     refine hK.out _ _ ⟨(Qa Y.out 0).trans rfl,(Qa Y.out 1).trans rfl,(Qa L.out 0).trans rfl,(Qa L.out 1).trans rfl⟩ (fun hHeld=>?_)
     clear hK K
     refine qN (some 28) ?_
     refine qP 24 (some 29) (bN 26 33554431) HT_ ?_
     refine qP 25 (some 30) (bN 26 67108863) HT_ ?_
     refine Z0 (Zp HT_.out kr) ?_
     try go_wp2
     go_meet
     case rel=>exact⟨_,(!t106),rfl,H',⟨by first|omega|exact Nat.le_refl _⟩,Y,L,HB⟩
    ·replace cg:=Bool.eq_false_iff.mpr cg
     subst cg
     have H1:(call_Check.j0 k true)=some r:=by rw[if_neg (show ¬ (false=true) by decide)] at H;exact H
     clear H
     have H:=H1
     clear H1
     have H':=Aside0.mk H
     clear H
     try go_wp2
     replace Y:=Aside0.mk (Qc Y.out)
     replace L:=Aside0.mk (Qc L.out)
     replace HB:=Aside0.mk (Qh HB.out)
     refine Zv (n:=26) (S:=fun w'=>w'.cell? ⟨ξ,0,none⟩=some (.int .i64 I)∧w'.cell? ⟨ξ,1,none⟩=some (.int .i64 J)∧w'.cell? ⟨ε,0,none⟩=some (.slice Z B.length U)∧w'.cell? ⟨ε,1,none⟩=some (.slice γ D.length X)) (ds:=[]) #[false,false,false,false,false,false,false,false,false,false,false,false,false,false,false,false,false,false,false,false,false,false,false,false,false,false] kr rfl rfl ⟨(Qa Y.out 0).trans rfl,(Qa Y.out 1).trans rfl,(Qa L.out 0).trans rfl,(Qa L.out 1).trans rfl⟩ (fun hHeld=>?_);refine Q8 call_Check.Gh call_Check.Jt (fun HT_ HW_=>?_)
     generalize w5.drew=aa at Y L HB hHeld ⊢
     refine qP 0 (some 5) (bN 26 1) HT_ ?_
     refine qT 1 (some 6) (bN 26 3) HT_ HW_ hHeld ?_
     refine Zm (i:=2) (N:=some 7) (bN 26 7) rfl rfl (Q3 HT_.out kr) (by decide) (fun K hK=>?_)
     refine Zg Try.func41 kr rfl #[.int .i64 I,.int .i64 2,.int .i64 64] (by rfl) rfl rfl (by simp only[List.map_toArray,List.map_cons,List.map_nil] <;> rfl) ?_
     with_reducible refine(call_within.calls I 2 64 true _ A6.out).mono ?_
     rintro e w' ⟨rfl,⟨nd,rfl⟩⟩
     refine⟨_,rfl, ?_⟩
     refine hK.out _ _ ⟨(Qa Y.out 0).trans rfl,(Qa Y.out 1).trans rfl,(Qa L.out 0).trans rfl,(Qa L.out 1).trans rfl⟩ (fun hHeld=>?_)
     clear hK K
     refine qN (some 7) ?_
     refine qP 3 (some 8) (bN 26 15) HT_ ?_
     refine qP 4 (some 9) (bN 26 31) HT_ ?_
     refine qP 5 (some 10) (bN 26 63) HT_ ?_
     refine qT 6 (some 11) (bN 26 127) HT_ HW_ hHeld ?_
     refine Zm (i:=7) (N:=some 12) (bN 26 255) rfl rfl (Q3 HT_.out kr) (by decide) (fun K hK=>?_)
     refine Zg Try.func41 kr rfl #[.int .i64 J,.int .i64 1,.int .i64 8] (by rfl) rfl rfl (by simp only[List.map_toArray,List.map_cons,List.map_nil] <;> rfl) ?_
     with_reducible refine(call_within.calls J 1 8 true _ A8.out).mono ?_
     rintro e w' ⟨rfl,⟨nd,rfl⟩⟩
     refine⟨_,rfl, ?_⟩
     refine hK.out _ _ ⟨(Qa Y.out 0).trans rfl,(Qa Y.out 1).trans rfl,(Qa L.out 0).trans rfl,(Qa L.out 1).trans rfl⟩ (fun hHeld=>?_)
     clear hK K
     refine qN (some 12) ?_
     refine qP 8 (some 13) (bN 26 511) HT_ ?_
     refine qP 9 (some 14) (bN 26 1023) HT_ ?_
     refine qP 10 (some 15) (bN 26 2047) HT_ ?_
     refine qT 11 (some 16) (bN 26 4095) HT_ HW_ hHeld ?_
     refine qT 13 (some 18) (bN 26 12287) HT_ HW_ hHeld ?_
     refine Zm (i:=12) (N:=some 17) (bN 26 16383) rfl rfl (Q3 HT_.out kr) (by decide) (fun K hK=>?_)
     refine Zg Try.func30 kr rfl #[.agg #[.slice Z B.length U,.slice γ D.length X]] (by rfl) rfl rfl (by(try simp only[List.map_toArray,List.map_cons,List.map_nil]);first|done|rfl) ?_
     refine(Yb Z γ B.length D.length U X _).mono ?_
     rintro e fy ⟨rfl,hb⟩
     refine⟨_,rfl, ?_⟩
     replace Y:=sBk Y hb
     replace L:=sBk L hb
     replace HB:=sHb hb
     (try clear hb)
     (try clear a4)
     (try clear hk)
     (try clear hi)
     refine hK.out _ _ ⟨(Qa Y.out 0).trans rfl,(Qa Y.out 1).trans rfl,(Qa L.out 0).trans rfl,(Qa L.out 1).trans rfl⟩ (fun hHeld=>?_)
     clear hK K
     refine qN (some 17) ?_
     refine Zm (i:=14) (N:=some 19) (bN 26 32767) rfl rfl (Q3 HT_.out kr) (by decide) (fun K hK=>?_)
     refine Zg Try.func34 kr rfl #[.agg #[.int .i64 I,.int .i64 J]] (by rfl) rfl rfl (by(try simp only[List.map_toArray,List.map_cons,List.map_nil]);first|done|rfl) ?_
     refine(Ja I J _).mono ?_
     rintro e fz ⟨ι,rfl,hgp,hgw,hb⟩
     have ρ:=Aside0.mk hgp
     clear hgp hgw
     refine⟨_,rfl, ?_⟩
     replace Y:=sBk Y hb
     replace L:=sBk L hb
     replace HB:=sHb hb
     (try clear hb)
     (try clear a4)
     (try clear hk)
     (try clear hi)
     refine hK.out _ _ ⟨(Qa Y.out 0).trans rfl,(Qa Y.out 1).trans rfl,(Qa L.out 0).trans rfl,(Qa L.out 1).trans rfl⟩ (fun hHeld=>?_)
     clear hK K
     refine qN (some 19) ?_
     refine Zm (i:=15) (N:=some 20) (bN 26 65535) rfl rfl (Q3 HT_.out kr) (by decide) (fun K hK=>?_)
     refine Zg Try.func42 kr rfl #[.agg #[.slice Z B.length U,.func (.func 51) #[] #[]],.func (.func 61) #[] #[.pointer (some ⟨ι,0,none⟩)]] (by rfl) rfl rfl (by simp only[List.map_toArray,List.map_cons,List.map_nil] <;> rfl) ?_
     with_reducible refine(rightP_H.calls Z U B γ X D I J false _ ?side1 ?side2 ?side3 ?side4 em.out ι ρ.out).mono ?_
     (case side1=>exact(Kd.Qz ag.out HB.out))
     (case side2=>exact ar.out)
     (case side3=>exact(Kd.Qz ah.out HB.out))
     (case side4=>exact aw.out)
     rintro e cw ⟨rfl,hb⟩
     refine⟨_,rfl, ?_⟩
     replace Y:=sBk Y hb
     replace L:=sBk L hb
     replace HB:=sHb hb
     (try clear hb)
     (try clear a4)
     (try clear hk)
     (try clear hi)
     refine hK.out _ _ ⟨(Qa Y.out 0).trans rfl,(Qa Y.out 1).trans rfl,(Qa L.out 0).trans rfl,(Qa L.out 1).trans rfl⟩ (fun hHeld=>?_)
     clear hK K
     refine qN (some 20) ?_
     refine qP 16 (some 21) (bN 26 131071) HT_ ?_
     refine qP 17 (some 22) (bN 26 262143) HT_ ?_
     refine qP 18 (some 23) (bN 26 524287) HT_ ?_
     refine qU 19 (some 24) (bN 26 1048575) HT_ ?_
     refine qU 20 (some 25) (bN 26 2097151) HT_ ?_
     refine qU 21 (some 26) (bN 26 4194303) HT_ ?_
     refine qU 22 (some 27) (bN 26 8388607) HT_ ?_
     refine qU 23 (some 28) (bN 26 16777215) HT_ ?_
     refine qU 24 (some 29) (bN 26 33554431) HT_ ?_
     refine qP 25 (some 30) (bN 26 67108863) HT_ ?_
     refine Z0 (Zp HT_.out kr) ?_
     try go_wp2
     go_meet
     case rel=>exact⟨_,(true),rfl,H',⟨by first|omega|exact Nat.le_refl _⟩,Y,L,HB⟩
   ·replace c9:=Bool.eq_false_iff.mpr c9
    subst c9
    have H1:(call_Check.j0 k true)=some r:=by rw[if_neg (show ¬ (false=true) by decide)] at H;exact H
    clear H
    have H:=H1
    clear H1
    have H':=Aside0.mk H
    clear H
    try go_wp2
    replace Y:=Aside0.mk (Qc Y.out)
    replace L:=Aside0.mk (Qc L.out)
    replace HB:=Aside0.mk (Qh HB.out)
    refine Zv (n:=26) (S:=fun w'=>w'.cell? ⟨ξ,0,none⟩=some (.int .i64 I)∧w'.cell? ⟨ξ,1,none⟩=some (.int .i64 J)) (ds:=[]) #[false,false,false,false,false,false,false,false,false,false,false,false,false,false,false,false,false,false,false,false,false,false,false,false,false,false] kr rfl rfl ⟨(Qa Y.out 0).trans rfl,(Qa Y.out 1).trans rfl⟩ (fun hHeld=>?_);refine Q8 call_Check.Gh call_Check.Jt (fun HT_ HW_=>?_)
    generalize w5.drew=mc at Y L HB hHeld ⊢
    refine qP 0 (some 5) (bN 26 1) HT_ ?_
    refine qT 1 (some 6) (bN 26 3) HT_ HW_ hHeld ?_
    refine Zm (i:=2) (N:=some 7) (bN 26 7) rfl rfl (Q3 HT_.out kr) (by decide) (fun K hK=>?_)
    refine Zg Try.func41 kr rfl #[.int .i64 I,.int .i64 2,.int .i64 64] (by rfl) rfl rfl (by simp only[List.map_toArray,List.map_cons,List.map_nil] <;> rfl) ?_
    with_reducible refine(call_within.calls I 2 64 true _ A6.out).mono ?_
    rintro e w' ⟨rfl,⟨nd,rfl⟩⟩
    refine⟨_,rfl, ?_⟩
    refine hK.out _ _ ⟨(Qa Y.out 0).trans rfl,(Qa Y.out 1).trans rfl⟩ (fun hHeld=>?_)
    clear hK K
    refine qN (some 7) ?_
    refine qP 3 (some 8) (bN 26 15) HT_ ?_
    refine qP 4 (some 9) (bN 26 31) HT_ ?_
    refine qP 5 (some 10) (bN 26 63) HT_ ?_
    refine qT 6 (some 11) (bN 26 127) HT_ HW_ hHeld ?_
    refine Zm (i:=7) (N:=some 12) (bN 26 255) rfl rfl (Q3 HT_.out kr) (by decide) (fun K hK=>?_)
    refine Zg Try.func41 kr rfl #[.int .i64 J,.int .i64 1,.int .i64 8] (by rfl) rfl rfl (by simp only[List.map_toArray,List.map_cons,List.map_nil] <;> rfl) ?_
    with_reducible refine(call_within.calls J 1 8 false _ A8.out).mono ?_
    rintro e w' ⟨rfl,⟨nd,rfl⟩⟩
    refine⟨_,rfl, ?_⟩
    refine hK.out _ _ ⟨(Qa Y.out 0).trans rfl,(Qa Y.out 1).trans rfl⟩ (fun hHeld=>?_)
    clear hK K
    refine qN (some 12) ?_
    refine qP 8 (some 13) (bN 26 511) HT_ ?_
    refine qP 9 (some 14) (bN 26 1023) HT_ ?_
    refine qP 10 (some 15) (bN 26 2047) HT_ ?_
    refine qU 11 (some 16) (bN 26 4095) HT_ ?_
    refine qU 12 (some 17) (bN 26 8191) HT_ ?_
    refine qU 13 (some 18) (bN 26 16383) HT_ ?_
    refine qU 14 (some 19) (bN 26 32767) HT_ ?_
    refine qU 15 (some 20) (bN 26 65535) HT_ ?_
    refine qU 16 (some 21) (bN 26 131071) HT_ ?_
    refine qP 17 (some 22) (bN 26 262143) HT_ ?_
    refine qP 18 (some 23) (bN 26 524287) HT_ ?_
    refine qU 19 (some 24) (bN 26 1048575) HT_ ?_
    refine qU 20 (some 25) (bN 26 2097151) HT_ ?_
    refine qU 21 (some 26) (bN 26 4194303) HT_ ?_
    refine qU 22 (some 27) (bN 26 8388607) HT_ ?_
    refine qU 23 (some 28) (bN 26 16777215) HT_ ?_
    refine qU 24 (some 29) (bN 26 33554431) HT_ ?_
    refine qP 25 (some 30) (bN 26 67108863) HT_ ?_
    refine Z0 (Zp HT_.out kr) ?_
    try go_wp2
    go_meet
    case rel=>exact⟨_,(true),qR,H',⟨by first|omega|exact Nat.le_refl _⟩,⟨bka Y⟩,⟨bka L⟩,⟨bel⟩⟩
  ·replace c7:=Bool.eq_false_iff.mpr c7
   subst c7
   have H1:(call_Check.j0 k true)=some r:=by rw[if_neg (show ¬ (false=true) by decide)] at H;exact H
   clear H
   have H:=H1
   clear H1
   have H':=Aside0.mk H
   clear H
   try go_wp2
   replace Y:=Aside0.mk (Qc Y.out)
   replace L:=Aside0.mk (Qc L.out)
   replace HB:=Aside0.mk (Qh HB.out)
   refine Zv (n:=26) (S:=fun w'=>w'.cell? ⟨ξ,0,none⟩=some (.int .i64 I)∧w'.cell? ⟨ξ,1,none⟩=some (.int .i64 J)) (ds:=[]) #[false,false,false,false,false,false,false,false,false,false,false,false,false,false,false,false,false,false,false,false,false,false,false,false,false,false] kr rfl rfl ⟨(Qa Y.out 0).trans rfl,(Qa Y.out 1).trans rfl⟩ (fun hHeld=>?_);refine Q8 call_Check.Gh call_Check.Jt (fun HT_ HW_=>?_)
   generalize w5.drew=d7 at Y L HB hHeld ⊢
   refine qP 0 (some 5) (bN 26 1) HT_ ?_
   refine qT 1 (some 6) (bN 26 3) HT_ HW_ hHeld ?_
   refine Zm (i:=2) (N:=some 7) (bN 26 7) rfl rfl (Q3 HT_.out kr) (by decide) (fun K hK=>?_)
   refine Zg Try.func41 kr rfl #[.int .i64 I,.int .i64 2,.int .i64 64] (by rfl) rfl rfl (by simp only[List.map_toArray,List.map_cons,List.map_nil] <;> rfl) ?_
   with_reducible refine(call_within.calls I 2 64 false _ A6.out).mono ?_
   rintro e w' ⟨rfl,⟨nd,rfl⟩⟩
   refine⟨_,rfl, ?_⟩
   refine hK.out _ _ ⟨(Qa Y.out 0).trans rfl,(Qa Y.out 1).trans rfl⟩ (fun hHeld=>?_)
   clear hK K
   refine qN (some 7) ?_
   refine qP 3 (some 8) (bN 26 15) HT_ ?_
   refine qP 4 (some 9) (bN 26 31) HT_ ?_
   refine qU 5 (some 10) (bN 26 63) HT_ ?_
   refine qU 6 (some 11) (bN 26 127) HT_ ?_
   refine qU 7 (some 12) (bN 26 255) HT_ ?_
   refine qU 8 (some 13) (bN 26 511) HT_ ?_
   refine qP 9 (some 14) (bN 26 1023) HT_ ?_
   refine qP 10 (some 15) (bN 26 2047) HT_ ?_
   refine qU 11 (some 16) (bN 26 4095) HT_ ?_
   refine qU 12 (some 17) (bN 26 8191) HT_ ?_
   refine qU 13 (some 18) (bN 26 16383) HT_ ?_
   refine qU 14 (some 19) (bN 26 32767) HT_ ?_
   refine qU 15 (some 20) (bN 26 65535) HT_ ?_
   refine qU 16 (some 21) (bN 26 131071) HT_ ?_
   refine qP 17 (some 22) (bN 26 262143) HT_ ?_
   refine qP 18 (some 23) (bN 26 524287) HT_ ?_
   refine qU 19 (some 24) (bN 26 1048575) HT_ ?_
   refine qU 20 (some 25) (bN 26 2097151) HT_ ?_
   refine qU 21 (some 26) (bN 26 4194303) HT_ ?_
   refine qU 22 (some 27) (bN 26 8388607) HT_ ?_
   refine qU 23 (some 28) (bN 26 16777215) HT_ ?_
   refine qU 24 (some 29) (bN 26 33554431) HT_ ?_
   refine qP 25 (some 30) (bN 26 67108863) HT_ ?_
   refine Z0 (Zp HT_.out kr) ?_
   try go_wp2
   go_meet
   case rel=>exact⟨_,(true),qR,H',⟨by first|omega|exact Nat.le_refl _⟩,⟨bka Y⟩,⟨bka L⟩,⟨bel⟩⟩
 case rest=>
  clear br
  try clear c1
  try clear p2
  try clear c4
  try clear c7
  try clear c9
  obtain⟨kq,η,rfl,HA,cz,Y,L,HB⟩:=hcut
  cases kq with
  |zero=>exact absurd HA.out (by simp[call_Check.j0])
  |succ d9=>
   have H:=HA.out
   clear HA
   simp only[call_Check.j0] at H
   by_cases bw: η = true
   ·subst bw
    have H1:(some 190)=some r:=by rw[if_pos rfl] at H;exact H
    clear H
    have H:=H1
    clear H1
    obtain rfl:=Option.some.inj H
    go_wp2
    go_ret
    exact⟨rfl,HB.out⟩
   ·replace bw:=Bool.eq_false_iff.mpr bw
    subst bw
    have H1:(some 0)=some r:=by rw[if_neg (show ¬ (false=true) by decide)] at H;exact H
    clear H
    have H:=H1
    clear H1
    obtain rfl:=Option.some.inj H
    go_wp2
    go_ret
    exact⟨rfl,HB.out⟩
end Go.Proofs.Ytjehhhlhalkieaa.C
namespace Go.Proofs.Ytjehhhlhalkieaa.C
open Go.RowKit Go.Proofs.YtjehhhlhalkieaaW.PrintWords Go.Proofs.YtjehhhlhalkieaaW.PrintLast Go.Proofs.YtjehhhlhalkieaaW.PrintMore
attribute [local go_sem] Zk Zi Zt Zs Zd Zc Zj Zh
set_option linter.unusedVariables false
set_option linter.unusedSimpArgs false
def call_change.f (U_:Option (List S56)) (I_:Option (List S62)) (k:Nat) (I:Int) (J:Int) (B:List (S56)) (D:List (S62)) (a2:Bool) (a3:Int) (av:Int) (ax:Int) (az:Int) (a5:Int) (b0:Int) (b1:Int):Option ((List (S56))×(List (S62))×Int):=(call_Check.f k I J B D).bind fun ν =>(if ν = 0 then (if a2=true then ((U_).bind fun φ =>((I_).bind fun ψ =>(some (φ,ψ,0)))) else (some (([]:List (S56)),([]:List (S62)),191))) else (some (([]:List (S56)),([]:List (S62)),ν)))
theorem call_change.mono:∀ U_ I_ I D a2 a3 J a5 L U X Y B O k,LeO (call_change.f U_ I_ k I D a2 a3 J a5 L U X Y B O) (call_change.f U_ I_ (k+1) I D a2 a3 J a5 L U X Y B O):=by
 intro U_ I_ I D a2 a3 J a5 L U X Y B O k
 unfold call_change.f
 repeat' first
   |(with_reducible exact call_Check.mono _ _ _ _ _)
   |(with_reducible exact LeO.refl _)
   |(with_reducible exact LeO.none _)
   |(with_reducible refine LeO.ite ?_ ?_)
   |(with_reducible refine LeO.bind ?_ (fun _=>?_))
   |exact call_Check.mono _ _ _ _ _
   |exact LeO.none _
   |refine LeO.ite ?_ ?_
   |refine LeO.bind ?_ (fun _=>?_)
def call_change.T6:Bool×List (List Nat×List Nat):=(true,[([],[]),([],[]),([0,1],[0,1]),([],[]),([],[]),([3,4,2],[3,4]),([2,5],[2,5]),([6,5,0,1,2,3,4,5,6],[6]),([7,0,1,2,3,4,5,6,7],[])])
def call_change.B6:List Nat:=[0,0,3,0,0,31,63,127,255]
theorem call_change.tab6:rtab .any (opsOf Try.f28 6)=call_change.T6:=by kernel_rfl
theorem call_change.bits6:Zx call_change.T6.2 call_change.B6=true:=by kernel_rfl
set_option maxHeartbeats 8000000 in
set_option maxRecDepth 100000 in
theorem call_change.calls (U_:Option (List S56)) (I_:Option (List S62)) (k:Nat) (I:Int) (J:Int) (Z:Option Addr) (U:Nat) (B:List (S56)) (γ:Option Addr) (X:Nat) (D:List (S62)) (a2:Bool) (a3:Int) (av:Int) (ax:Int) (az:Int) (a5:Int) (b0:Int) (b1:Int) (r1:List (S56)) (r2:List (S62)) (r3:Int) (w:World) (b5:Kd.C k56 w Z B.length B) (b6:B.length≤U) (b7:Kd.C k62 w γ D.length D) (b8:D.length≤X) (h:call_change.f U_ I_ k I J B D a2 a3 av ax az a5 b0 b1=some (r1,r2,r3)) (fu_:FuncId) (fnu_:Func) (ru_:Value) (hfu_:Try.prog.funcs[fu_]?=some fnu_) (hnu_:(fnu_.name == "runtime.NumGoroutine")=false) (hbu_:fnu_.body.isSome=true) (hu_:∀ (W:World) (t:List S56),U_=some t→Below w.heap.size w W→Calls Try.prog fu_ #[ru_,.agg #[.int .i64 av,.int .i64 ax,.int .i64 az]] W fun e w'=>∃ a6:Value,e = .returned a6∧Kd.R k56 56 w' W.heap.size (fun _=>True) a6 t∧Below W.heap.size W w') (fi_:FuncId) (fni_:Func) (ri_:Value) (hfi_:Try.prog.funcs[fi_]?=some fni_) (hni_:(fni_.name == "runtime.NumGoroutine")=false) (hbi_:fni_.body.isSome=true) (hi_:∀ (W:World) (t:List S62),I_=some t→Below w.heap.size w W→Calls Try.prog fi_ #[ri_,.agg #[.int .i64 b0,.int .i64 b1]] W fun e w'=>∃ a6:Value,e = .returned a6∧Kd.R k62 62 w' W.heap.size (fun _=>True) a6 t∧Below W.heap.size W w'):
  Calls Try.prog 28 #[.agg #[.int .i64 I,.int .i64 J],.agg #[.slice Z B.length U,.slice γ D.length X],.bool a2,(.func (.func fu_) #[ru_] #[]),.agg #[.int .i64 av,.int .i64 ax,.int .i64 az],(.func (.func fi_) #[ri_] #[]),.agg #[.int .i64 b0,.int .i64 b1]] w fun e w'=>∃ a6 b9:Value,e = .returned (.tuple #[.agg #[a6,b9],.int .i64 r3])∧Kd.R k56 56 w' w.heap.size (fun _=>True) a6 r1∧Kd.R k62 62 w' w.heap.size (fun _=>True) b9 r2∧Below w.heap.size w w':=by
 have HFU:=Aside0.mk hfu_
 have HNU:=Aside0.mk hnu_
 have HBU:=Aside0.mk hbu_
 have HCU:=Aside0.mk hu_
 have HFI:=Aside0.mk hfi_
 have HNI:=Aside0.mk hni_
 have HBI:=Aside0.mk hbi_
 have HCI:=Aside0.mk hi_
 clear hfu_ hnu_ hbu_ hu_ hfi_ hni_ hbi_ hi_
 have dx:=Try.underlying23
 have db:=Try.underlying27
 have bu:=Try.underlying56
 have be:=Try.underlying62
 have ag:=Aside0.mk b5
 have ar:=Aside0.mk b6
 clear b5 b6
 have ah:=Aside0.mk b7
 have aw:=Aside0.mk b8
 clear b7 b8
 have HB:=Aside0.mk (Below.refl w.heap.size w)
 have H:((call_Check.f k I J B D).bind fun ν =>(if ν = 0 then (if a2=true then ((U_).bind fun φ =>((I_).bind fun ψ =>(some (φ,ψ,0)))) else (some (([]:List (S56)),([]:List (S62)),191))) else (some (([]:List (S56)),([]:List (S62)),ν))))=some (r1,r2,r3):=h
 clear h
 replace H:=Option.bind_eq_some_iff.mp H
 obtain⟨ν,df,H⟩:=H
 replace H:(if ν = 0 then (if a2=true then ((U_).bind fun φ =>((I_).bind fun ψ =>(some (φ,ψ,0)))) else (some (([]:List (S56)),([]:List (S62)),191))) else (some (([]:List (S56)),([]:List (S62)),ν)))=some (r1,r2,r3):=H
 have A8:=Aside0.mk df
 clear df
 by_cases c9: ν = 0
 ·rw[if_pos c9] at H
  have c9b0:(ν == 0)=true:=beq_iff_eq.mpr c9
  have c9b1:(ν != 0)=false:=bne_eq_false_iff_eq.mpr c9
  clear c9
  by_cases c10:a2=true
  ·subst c10
   have H1:((U_).bind fun φ =>((I_).bind fun ψ =>(some (φ,ψ,0))))=some (r1,r2,r3):=by rw[if_pos rfl] at H;exact H
   clear H
   have H:=H1
   clear H1
   replace H:=Option.bind_eq_some_iff.mp H
   obtain⟨φ,b4,H⟩:=H
   replace H:((I_).bind fun ψ =>(some (φ,ψ,0)))=some (r1,r2,r3):=H
   have bo:=Aside0.mk b4
   clear b4
   replace H:=Option.bind_eq_some_iff.mp H
   obtain⟨ψ,ci,H⟩:=H
   replace H:(some (φ,ψ,0))=some (r1,r2,r3):=H
   have cx:=Aside0.mk ci
   clear ci
   simp only[Option.some.injEq,Prod.mk.injEq] at H
   obtain⟨rfl,rfl,rfl⟩:=H
   go_enter Try.func28,Try.ntmps28
   try go_wp2_with (first|((with_reducible refine Qt (N:=7) rfl ?_);refine Qp ?hg (N:=7) ?hd (cs:=#[.int .i64 I,.int .i64 J]) (t:=23) ?hr ?_;(case hd=>rfl);(case hg=>rfl);(case hr=>go_simp <;> rfl);intro ξ hg ch hbox hb;have Y:=Aside0.mk hbox;have bc:=sGe hg;have b2:=sGe hg;replace HB:=sHb hb;clear hb hbox hg)|((with_reducible refine Qt (N:=8) rfl ?_);refine Qp ?hg (N:=8) ?hd (cs:=#[.slice Z B.length U,.slice γ D.length X]) (t:=27) ?hr ?_;(case hd=>rfl);(case hg=>rfl);(case hr=>go_simp <;> rfl);intro ε hg ay hbox hb;have L:=Aside0.mk hbox;have bm:=sGe hg;have bs:=sGe hg;have κ :=sNl Y hg;have τ :=sNg Y hg;replace Y:=sBk Y hb;replace HB:=sHb hb;clear hb hbox hg)|((with_reducible refine Qt (N:=11) rfl ?_);refine Qp ?hg (N:=11) ?hd (cs:=#[.int .i64 av,.int .i64 ax,.int .i64 az]) (t:=56) ?hr ?_;(case hd=>rfl);(case hg=>rfl);(case hr=>go_simp <;> rfl);intro ρ hg cv hbox hb;have O:=Aside0.mk hbox;have cj:=sGe hg;have cy:=sGe hg;have al:=sNl Y hg;have am:=sNg Y hg;have θ :=sNl L hg;have ι :=sNg L hg;replace Y:=sBk Y hb;replace L:=sBk L hb;replace HB:=sHb hb;clear hb hbox hg)|((with_reducible refine Qt (N:=13) rfl ?_);refine Qp ?hg (N:=13) ?hd (cs:=#[.int .i64 b0,.int .i64 b1]) (t:=62) ?hr ?_;(case hd=>rfl);(case hg=>rfl);(case hr=>go_simp <;> rfl);intro a7 hg aa hbox hb;have δ :=Aside0.mk hbox;have bf:=sGe hg;have ak:=sGe hg;have an:=sNl Y hg;have ao:=sNg Y hg;have ap:=sNl L hg;have au:=sNg L hg;have ba:=sNl O hg;have bd:=sNg O hg;replace Y:=sBk Y hb;replace L:=sBk L hb;replace O:=sBk O hb;replace HB:=sHb hb;clear hb hbox hg)|((with_reducible refine Qt (N:=14) rfl ?_);refine Qp ?hg (N:=14) ?hd (cs:=#[.slice none 0 0,.slice none 0 0]) (t:=27) ?hr ?_;(case hd=>rfl);(case hg=>rfl);(case hr=>go_simp <;> rfl);intro σ hg cw hbox hb;have μ :=Aside0.mk hbox;have bg:=sGe hg;have b3:=sGe hg;have a1:=sNl Y hg;have a9:=sNg Y hg;have af:=sNl L hg;have ai:=sNg L hg;have ζ :=sNl O hg;have aj:=sNg O hg;have η :=sNl δ hg;have a8:=sNg δ hg;replace Y:=sBk Y hb;replace L:=sBk L hb;replace O:=sBk O hb;replace δ :=sBk δ hb;replace HB:=sHb hb;clear hb hbox hg;have ca:= κ.out;have ce:= τ.out;have bl:=al.out;have dh:=am.out;have ec:=an.out;have ed:=ao.out;have e9:=a1.out;have em:=a9.out;have bj:cw.cell? ⟨ξ,0,none⟩=some (.int .i64 I):=(Qa Y.out 0).trans rfl;have bk:cw.cell? ⟨ξ,1,none⟩=some (.int .i64 J):=(Qa Y.out 1).trans rfl;have bn:=Qb Y.out 0;have bv:=Qb Y.out 1;have fv:= θ.out;have fw:= ι.out;have eo:=ap.out;have ep:=au.out;have d7:=af.out;have d8:=ai.out;have cq:cw.cell? ⟨ε,0,none⟩=some (.slice Z B.length U):=(Qa L.out 0).trans rfl;have cr:cw.cell? ⟨ε,1,none⟩=some (.slice γ D.length X):=(Qa L.out 1).trans rfl;have ct:=Qb L.out 0;have cu:=Qb L.out 1)|((with_reducible refine Q2 (f:=14) rfl ?_);refine Zq (some 19) rfl rfl Try.func14 kr rfl #[.agg #[.int .i64 I,.int .i64 J],.agg #[.slice Z B.length U,.slice γ D.length X]] rfl (by simp only[List.map_toArray,List.map_cons,List.map_nil] <;> rfl) ?_;(with_reducible refine(call_Check.calls k I J _ _ B _ _ D ν _ ?side1 ?side2 ?side3 ?side4 A8.out).mono ?_);(case side1=>exact(Kd.Qz ag.out HB.out));(case side2=>exact ar.out);(case side3=>exact(Kd.Qz ah.out HB.out));(case side4=>exact aw.out);rintro e f8 ⟨rfl,hb⟩;refine⟨_,rfl, ?_⟩;replace Y:=sBk Y hb;replace L:=sBk L hb;replace O:=sBk O hb;replace δ :=sBk δ hb;replace μ :=sBk μ hb;replace HB:=sHb hb;(try clear hb);(try clear a4);(try clear hk);(try clear hi)))
   replace Y:=Aside0.mk (Qc Y.out)
   replace L:=Aside0.mk (Qc L.out)
   replace O:=Aside0.mk (Qc O.out)
   replace δ :=Aside0.mk (Qc δ.out)
   replace μ :=Aside0.mk (Qc μ.out)
   replace HB:=Aside0.mk (Qh HB.out)
   refine Zv (n:=9) (S:=fun w'=>w'.cell? ⟨ρ,0,none⟩=some (.int .i64 av)∧w'.cell? ⟨ρ,1,none⟩=some (.int .i64 ax)∧w'.cell? ⟨ρ,2,none⟩=some (.int .i64 az)∧w'.cell? ⟨a7,0,none⟩=some (.int .i64 b0)∧w'.cell? ⟨a7,1,none⟩=some (.int .i64 b1)) (ds:=[]) #[false,false,false,false,false,false,false,false,false] kr rfl rfl ⟨(Qa O.out 0).trans rfl,(Qa O.out 1).trans rfl,(Qa O.out 2).trans rfl,(Qa δ.out 0).trans rfl,(Qa δ.out 1).trans rfl⟩ (fun hHeld=>?_);refine Q8 call_change.tab6 call_change.bits6 (fun HT_ HW_=>?_)
   generalize f8.drew=gl at Y L O δ μ HB hHeld ⊢
   refine qP 0 (some 27) (bN 9 1) HT_ ?_
   refine qP 3 (some 30) (bN 9 9) HT_ ?_
   refine qT 1 (some 28) (bN 9 11) HT_ HW_ hHeld ?_
   refine qT 4 (some 31) (bN 9 27) HT_ HW_ hHeld ?_
   refine Zm (i:=2) (N:=some 29) (bN 9 31) rfl rfl (Q3 HT_.out kr) (by decide) (fun K hK=>?_)
   refine Xm HFU.out HNU.out HBU.out #[ru_] #[] #[.agg #[.int .i64 av,.int .i64 ax,.int .i64 az]] #[ru_,.agg #[.int .i64 av,.int .i64 ax,.int .i64 az]] rfl (by rfl) rfl rfl rfl (by simp only[List.map_toArray,List.map_cons,List.map_nil] <;> rfl) ?_
   refine(HCU.out _ φ bo.out (by repeat(first|(with_reducible first|exact HB.out|apply Qj|apply Qd|apply Qh)|exact HB.out|(refine Qe ?_ (Aside0.out (by assumption)))))).mono ?_
   rintro e gm ⟨eb,rfl,χ,hb⟩
   refine⟨_,rfl, ?_⟩
   have bi:=Aside0.mk (Kd.Q4 (Kd.Zy χ (g:=ρ) (o:=.cells #[.int .i64 av,.int .i64 ax,.int .i64 az] 56 (0,0)) O.out) (Qk HB.out))
   replace Y:=sBk Y hb
   replace L:=sBk L hb
   replace O:=sBk O hb
   replace δ :=sBk δ hb
   replace μ :=sBk μ hb
   replace HB:=sHb hb
   (try clear hb)
   (try clear a4)
   (try clear hk)
   (try clear hi)
   (try clear χ)
   refine hK.out _ _ ⟨(Qa O.out 0).trans rfl,(Qa O.out 1).trans rfl,(Qa O.out 2).trans rfl,(Qa δ.out 0).trans rfl,(Qa δ.out 1).trans rfl⟩ (fun hHeld=>?_)
   clear hK K
   refine qN (some 29) ?_
   refine Zm (i:=5) (N:=some 32) (bN 9 63) rfl rfl (Q3 HT_.out kr) (by decide) (fun K hK=>?_)
   refine Xm HFI.out HNI.out HBI.out #[ri_] #[] #[.agg #[.int .i64 b0,.int .i64 b1]] #[ri_,.agg #[.int .i64 b0,.int .i64 b1]] rfl (by rfl) rfl rfl rfl (by simp only[List.map_toArray,List.map_cons,List.map_nil] <;> rfl) ?_
   refine(HCI.out _ ψ cx.out (by repeat(first|(with_reducible first|exact HB.out|apply Qj|apply Qd|apply Qh)|exact HB.out|(refine Qe ?_ (Aside0.out (by assumption)))))).mono ?_
   rintro e cm ⟨cb,rfl,χ,hb⟩
   refine⟨_,rfl, ?_⟩
   have bb:=Aside0.mk (Kd.Q4 (Kd.Zy χ (g:=a7) (o:=.cells #[.int .i64 b0,.int .i64 b1] 62 (0,0)) δ.out) (Qk HB.out))
   replace bi:=sRb bi hb
   replace Y:=sBk Y hb
   replace L:=sBk L hb
   replace O:=sBk O hb
   replace δ :=sBk δ hb
   replace μ :=sBk μ hb
   replace HB:=sHb hb
   (try clear hb)
   (try clear a4)
   (try clear hk)
   (try clear hi)
   (try clear χ)
   obtain⟨br,bq,d5⟩:=Kd.Q6 bb.out
   (first|subst d5|(injection d5 with ω ab a0;have ac:= ω.symm;have ae:=a0.symm;clear ω ab a0;subst ac;subst ae))
   obtain⟨bp,bw,bz⟩:=Kd.Q6 bi.out
   (first|subst bz|(injection bz with ω ab a0;have ac:= ω.symm;have ae:=a0.symm;clear ω ab a0;subst ac;subst ae))
   refine hK.out _ _ ⟨(Qa O.out 0).trans rfl,(Qa O.out 1).trans rfl,(Qa O.out 2).trans rfl,(Qa δ.out 0).trans rfl,(Qa δ.out 1).trans rfl⟩ (fun hHeld=>?_)
   clear hK K
   refine qN (some 32) ?_
   refine qP 6 (some 33) (bN 9 127) HT_ ?_
   refine Zm (i:=7) (N:=none) (bN 9 255) rfl rfl (Q3 HT_.out kr) (by decide) (fun K hK=>?_)
   have ee:cm.cell? ⟨σ,0,none⟩=some (.slice none 0 0):=(Qa μ.out 0).trans rfl
   have e6:=Qb μ.out 0
   have cd:=a1.out
   have cf:=af.out
   have cg:= ζ.out
   have ck:= η.out
   have cn:=a9.out
   have co:=ai.out
   have cp:=aj.out
   have d0:=a8.out
   have ef:cm.cell? ⟨σ,1,none⟩=some (.slice none 0 0):=(Qa μ.out 1).trans rfl
   have e7:=Qb μ.out 1
   have d1:=a1.out
   have d2:=af.out
   have d6:= ζ.out
   have dc:= η.out
   have dd:=a9.out
   have de:=ai.out
   have di:=aj.out
   have dj:=a8.out
   refine Js (w1:=?_) (by rfl) rfl ?_ ?_
   rotate_left
   ·go_simp
    rfl
   refine hK.out _ _ ⟨((cell_far (p:=⟨σ,_,none⟩) ζ.out _).trans (((cell_far (p:=⟨σ,_,none⟩) ζ.out _).trans (hHeld.1)))),((cell_far (p:=⟨σ,_,none⟩) ζ.out _).trans (((cell_far (p:=⟨σ,_,none⟩) ζ.out _).trans (hHeld.2.1)))),((cell_far (p:=⟨σ,_,none⟩) ζ.out _).trans (((cell_far (p:=⟨σ,_,none⟩) ζ.out _).trans (hHeld.2.2.1)))),((cell_far (p:=⟨σ,_,none⟩) η.out _).trans (((cell_far (p:=⟨σ,_,none⟩) η.out _).trans (hHeld.2.2.2.1)))),((cell_far (p:=⟨σ,_,none⟩) η.out _).trans (((cell_far (p:=⟨σ,_,none⟩) η.out _).trans (hHeld.2.2.2.2))))⟩ (fun hHeld=>?_)
   clear hK K
   refine qP 8 (some 15) (bN 9 511) HT_ ?_
   refine Z0 (Zp HT_.out kr) ?_
   try go_wp2
   refine bodyPost_ret (Xi rfl _ _ σ 27 #[.slice bp φ.length bw,.slice br ψ.length bq] (0,0) _ rfl (by refine Qx (cs:=#[.slice bp φ.length bw,.slice none 0 0]) ?_ 1 _ rfl;refine Qx (cs:=#[.slice none 0 0,.slice none 0 0]) ?_ 0 _ rfl;exact μ.out) Try.underlying27 rfl kr) rfl ?_
   exact⟨_,_,by first|rfl|(simp[Q1,Q0] <;> rfl)|(simp[*,Q1,Q0] <;> rfl),by(with_reducible repeat(first|apply Kd.Qm|apply Kd.Ql|apply Kd.Qo));exact Kd.Qs (Kd.Qu (Kd.Qu (Kd.Qy bi.out μ.out (by decide)) (fun _ hk=>hk.2) _) (fun _ hk=>hk.2) _) (fun _ hk=>trivial),by(with_reducible repeat(first|apply Kd.Qm|apply Kd.Ql|apply Kd.Qo));exact Kd.Qs (Kd.Qu (Kd.Qu (Kd.Qy bb.out μ.out (by decide)) (fun _ hk=>hk.2) _) (fun _ hk=>hk.2) _) (fun _ hk=>trivial),bel⟩
  ·replace c10:=Bool.eq_false_iff.mpr c10
   subst c10
   have H1:(some (([]:List (S56)),([]:List (S62)),191))=some (r1,r2,r3):=by rw[if_neg (show ¬ (false=true) by decide)] at H;exact H
   clear H
   have H:=H1
   clear H1
   simp only[Option.some.injEq,Prod.mk.injEq] at H
   obtain⟨rfl,rfl,rfl⟩:=H
   go_enter Try.func28,Try.ntmps28
   go_wp2_with (first|((with_reducible refine Qt (N:=7) rfl ?_);refine Qp ?hg (N:=7) ?hd (cs:=#[.int .i64 I,.int .i64 J]) (t:=23) ?hr ?_;(case hd=>rfl);(case hg=>rfl);(case hr=>go_simp <;> rfl);intro ξ hg ei hbox hb;have Y:=Aside0.mk hbox;have bc:=sGe hg;have b2:=sGe hg;replace HB:=sHb hb;clear hb hbox hg)|((with_reducible refine Qt (N:=8) rfl ?_);refine Qp ?hg (N:=8) ?hd (cs:=#[.slice Z B.length U,.slice γ D.length X]) (t:=27) ?hr ?_;(case hd=>rfl);(case hg=>rfl);(case hr=>go_simp <;> rfl);intro ε hg me hbox hb;have L:=Aside0.mk hbox;have bm:=sGe hg;have bs:=sGe hg;have κ :=sNl Y hg;have τ :=sNg Y hg;replace Y:=sBk Y hb;replace HB:=sHb hb;clear hb hbox hg)|((with_reducible refine Qt (N:=11) rfl ?_);refine Qp ?hg (N:=11) ?hd (cs:=#[.int .i64 av,.int .i64 ax,.int .i64 az]) (t:=56) ?hr ?_;(case hd=>rfl);(case hg=>rfl);(case hr=>go_simp <;> rfl);intro ρ hg g6 hbox hb;have O:=Aside0.mk hbox;have cj:=sGe hg;have cy:=sGe hg;have al:=sNl Y hg;have am:=sNg Y hg;have θ :=sNl L hg;have ι :=sNg L hg;replace Y:=sBk Y hb;replace L:=sBk L hb;replace HB:=sHb hb;clear hb hbox hg)|((with_reducible refine Qt (N:=13) rfl ?_);refine Qp ?hg (N:=13) ?hd (cs:=#[.int .i64 b0,.int .i64 b1]) (t:=62) ?hr ?_;(case hd=>rfl);(case hg=>rfl);(case hr=>go_simp <;> rfl);intro a7 hg dk hbox hb;have δ :=Aside0.mk hbox;have bf:=sGe hg;have ak:=sGe hg;have an:=sNl Y hg;have ao:=sNg Y hg;have ap:=sNl L hg;have au:=sNg L hg;have ba:=sNl O hg;have bd:=sNg O hg;replace Y:=sBk Y hb;replace L:=sBk L hb;replace O:=sBk O hb;replace HB:=sHb hb;clear hb hbox hg)|((with_reducible refine Qt (N:=14) rfl ?_);refine Qp ?hg (N:=14) ?hd (cs:=#[.slice none 0 0,.slice none 0 0]) (t:=27) ?hr ?_;(case hd=>rfl);(case hg=>rfl);(case hr=>go_simp <;> rfl);intro σ hg bh hbox hb;have μ :=Aside0.mk hbox;have bg:=sGe hg;have b3:=sGe hg;have a1:=sNl Y hg;have a9:=sNg Y hg;have af:=sNl L hg;have ai:=sNg L hg;have ζ :=sNl O hg;have aj:=sNg O hg;have η :=sNl δ hg;have a8:=sNg δ hg;replace Y:=sBk Y hb;replace L:=sBk L hb;replace O:=sBk O hb;replace δ :=sBk δ hb;replace HB:=sHb hb;clear hb hbox hg;have ez:= κ.out;have f3:= τ.out;have ga:=al.out;have gb:=am.out;have ig:=an.out;have ih:=ao.out;have dq:=a1.out;have dr:=a9.out;have fg:bh.cell? ⟨ξ,0,none⟩=some (.int .i64 I):=(Qa Y.out 0).trans rfl;have fh:bh.cell? ⟨ξ,1,none⟩=some (.int .i64 J):=(Qa Y.out 1).trans rfl;have fl:=Qb Y.out 0;have fm:=Qb Y.out 1;have ge:= θ.out;have gf:= ι.out;have h6:=ap.out;have h7:=au.out;have jm:=af.out;have jn:=ai.out;have fc:bh.cell? ⟨ε,0,none⟩=some (.slice Z B.length U):=(Qa L.out 0).trans rfl;have ff:bh.cell? ⟨ε,1,none⟩=some (.slice γ D.length X):=(Qa L.out 1).trans rfl;have fn:=Qb L.out 0;have fo:=Qb L.out 1)|((with_reducible refine Q2 (f:=14) rfl ?_);refine Zq (some 19) rfl rfl Try.func14 kr rfl #[.agg #[.int .i64 I,.int .i64 J],.agg #[.slice Z B.length U,.slice γ D.length X]] rfl (by simp only[List.map_toArray,List.map_cons,List.map_nil] <;> rfl) ?_;(with_reducible refine(call_Check.calls k I J _ _ B _ _ D ν _ ?side1 ?side2 ?side3 ?side4 A8.out).mono ?_);(case side1=>exact(Kd.Qz ag.out HB.out));(case side2=>exact ar.out);(case side3=>exact(Kd.Qz ah.out HB.out));(case side4=>exact aw.out);rintro e i5 ⟨rfl,hb⟩;refine⟨_,rfl, ?_⟩;replace Y:=sBk Y hb;replace L:=sBk L hb;replace O:=sBk O hb;replace δ :=sBk δ hb;replace μ :=sBk μ hb;replace HB:=sHb hb;(try clear hb);(try clear a4);(try clear hk);(try clear hi);have ha:=aj.out;have he:= ζ.out;have g7:=a8.out;have gg:= η.out;have dy:i5.cell? ⟨σ,0,none⟩=some (.slice none 0 0):=(Qa μ.out 0).trans rfl;have e0:i5.cell? ⟨σ,1,none⟩=some (.slice none 0 0):=(Qa μ.out 1).trans rfl;have e3:=Qb μ.out 0;have e4:=Qb μ.out 1))
   refine bodyPost_ret (Xi rfl _ _ σ 27 #[.slice none 0 0,.slice none 0 0] (0,0) _ rfl (by refine Qx (cs:=#[.slice none 0 0,.slice none 0 0]) ?_ 1 _ rfl;refine Qx (cs:=#[.slice none 0 0,.slice none 0 0]) ?_ 0 _ rfl;exact μ.out) Try.underlying27 rfl kr) rfl ?_
   exact⟨_,_,by first|rfl|(simp[Q1,Q0] <;> rfl)|(simp[*,Q1,Q0] <;> rfl),by first|exact Kd.Yd _ _ _ _ _|exact Kd.Je _ _ _ _ _|exact Kd.Jb _ _ _ _ _|exact Kd.Jd _ _ _ _ _|exact Kd.Jc _ _ _ _ _,by first|exact Kd.Yd _ _ _ _ _|exact Kd.Je _ _ _ _ _|exact Kd.Jb _ _ _ _ _|exact Kd.Jd _ _ _ _ _|exact Kd.Jc _ _ _ _ _,bel⟩
 ·rw[if_neg c9] at H
  have c9b0:(ν == 0)=false:=beq_eq_false_iff_ne.mpr c9
  have c9b1:(ν != 0)=true:=bne_iff_ne.mpr c9
  simp only[Option.some.injEq,Prod.mk.injEq] at H
  obtain⟨rfl,rfl,rfl⟩:=H
  go_enter Try.func28,Try.ntmps28
  go_wp2_with (first|((with_reducible refine Qt (N:=7) rfl ?_);refine Qp ?hg (N:=7) ?hd (cs:=#[.int .i64 I,.int .i64 J]) (t:=23) ?hr ?_;(case hd=>rfl);(case hg=>rfl);(case hr=>go_simp <;> rfl);intro ξ hg gs hbox hb;have Y:=Aside0.mk hbox;have bc:=sGe hg;have b2:=sGe hg;replace HB:=sHb hb;clear hb hbox hg)|((with_reducible refine Qt (N:=8) rfl ?_);refine Qp ?hg (N:=8) ?hd (cs:=#[.slice Z B.length U,.slice γ D.length X]) (t:=27) ?hr ?_;(case hd=>rfl);(case hg=>rfl);(case hr=>go_simp <;> rfl);intro ε hg jc hbox hb;have L:=Aside0.mk hbox;have bm:=sGe hg;have bs:=sGe hg;have κ :=sNl Y hg;have τ :=sNg Y hg;replace Y:=sBk Y hb;replace HB:=sHb hb;clear hb hbox hg)|((with_reducible refine Qt (N:=11) rfl ?_);refine Qp ?hg (N:=11) ?hd (cs:=#[.int .i64 av,.int .i64 ax,.int .i64 az]) (t:=56) ?hr ?_;(case hd=>rfl);(case hg=>rfl);(case hr=>go_simp <;> rfl);intro ρ hg fi hbox hb;have O:=Aside0.mk hbox;have cj:=sGe hg;have cy:=sGe hg;have al:=sNl Y hg;have am:=sNg Y hg;have θ :=sNl L hg;have ι :=sNg L hg;replace Y:=sBk Y hb;replace L:=sBk L hb;replace HB:=sHb hb;clear hb hbox hg)|((with_reducible refine Qt (N:=13) rfl ?_);refine Qp ?hg (N:=13) ?hd (cs:=#[.int .i64 b0,.int .i64 b1]) (t:=62) ?hr ?_;(case hd=>rfl);(case hg=>rfl);(case hr=>go_simp <;> rfl);intro a7 hg gp hbox hb;have δ :=Aside0.mk hbox;have bf:=sGe hg;have ak:=sGe hg;have an:=sNl Y hg;have ao:=sNg Y hg;have ap:=sNl L hg;have au:=sNg L hg;have ba:=sNl O hg;have bd:=sNg O hg;replace Y:=sBk Y hb;replace L:=sBk L hb;replace O:=sBk O hb;replace HB:=sHb hb;clear hb hbox hg)|((with_reducible refine Qt (N:=14) rfl ?_);refine Qp ?hg (N:=14) ?hd (cs:=#[.slice none 0 0,.slice none 0 0]) (t:=27) ?hr ?_;(case hd=>rfl);(case hg=>rfl);(case hr=>go_simp <;> rfl);intro σ hg d3 hbox hb;have μ :=Aside0.mk hbox;have bg:=sGe hg;have b3:=sGe hg;have a1:=sNl Y hg;have a9:=sNg Y hg;have af:=sNl L hg;have ai:=sNg L hg;have ζ :=sNl O hg;have aj:=sNg O hg;have η :=sNl δ hg;have a8:=sNg δ hg;replace Y:=sBk Y hb;replace L:=sBk L hb;replace O:=sBk O hb;replace δ :=sBk δ hb;replace HB:=sHb hb;clear hb hbox hg;have i3:= κ.out;have i4:= τ.out;have j5:=al.out;have j6:=am.out;have jo:=an.out;have jp:=ao.out;have ii:=a1.out;have ij:=a9.out;have dl:d3.cell? ⟨ξ,0,none⟩=some (.int .i64 I):=(Qa Y.out 0).trans rfl;have dm:d3.cell? ⟨ξ,1,none⟩=some (.int .i64 J):=(Qa Y.out 1).trans rfl;have dn:=Qb Y.out 0;have dp:=Qb Y.out 1;have fj:= θ.out;have fk:= ι.out;have eu:=ap.out;have ev:=au.out;have gh:=af.out;have gi:=ai.out;have cz:d3.cell? ⟨ε,0,none⟩=some (.slice Z B.length U):=(Qa L.out 0).trans rfl;have d4:d3.cell? ⟨ε,1,none⟩=some (.slice γ D.length X):=(Qa L.out 1).trans rfl;have d9:=Qb L.out 0;have da:=Qb L.out 1)|((with_reducible refine Q2 (f:=14) rfl ?_);refine Zq (some 19) rfl rfl Try.func14 kr rfl #[.agg #[.int .i64 I,.int .i64 J],.agg #[.slice Z B.length U,.slice γ D.length X]] rfl (by simp only[List.map_toArray,List.map_cons,List.map_nil] <;> rfl) ?_;(with_reducible refine(call_Check.calls k I J _ _ B _ _ D ν _ ?side1 ?side2 ?side3 ?side4 A8.out).mono ?_);(case side1=>exact(Kd.Qz ag.out HB.out));(case side2=>exact ar.out);(case side3=>exact(Kd.Qz ah.out HB.out));(case side4=>exact aw.out);rintro e gr ⟨rfl,hb⟩;refine⟨_,rfl, ?_⟩;replace Y:=sBk Y hb;replace L:=sBk L hb;replace O:=sBk O hb;replace δ :=sBk δ hb;replace μ :=sBk μ hb;replace HB:=sHb hb;(try clear hb);(try clear a4);(try clear hk);(try clear hi);have dw:=aj.out;have dz:= ζ.out;have e8:=a8.out;have ea:= η.out;have dt:gr.cell? ⟨σ,0,none⟩=some (.slice none 0 0):=(Qa μ.out 0).trans rfl;have du:gr.cell? ⟨σ,1,none⟩=some (.slice none 0 0):=(Qa μ.out 1).trans rfl;have dv:=Qb μ.out 0;have e5:=Qb μ.out 1))
  refine bodyPost_ret (Xi rfl _ _ σ 27 #[.slice none 0 0,.slice none 0 0] (0,0) _ rfl (by refine Qx (cs:=#[.slice none 0 0,.slice none 0 0]) ?_ 1 _ rfl;refine Qx (cs:=#[.slice none 0 0,.slice none 0 0]) ?_ 0 _ rfl;exact μ.out) Try.underlying27 rfl kr) rfl ?_
  exact⟨_,_,by first|rfl|(simp[Q1,Q0] <;> rfl)|(simp[*,Q1,Q0] <;> rfl),by first|exact Kd.Yd _ _ _ _ _|exact Kd.Je _ _ _ _ _|exact Kd.Jb _ _ _ _ _|exact Kd.Jd _ _ _ _ _|exact Kd.Jc _ _ _ _ _,by first|exact Kd.Yd _ _ _ _ _|exact Kd.Je _ _ _ _ _|exact Kd.Jb _ _ _ _ _|exact Kd.Jd _ _ _ _ _|exact Kd.Jc _ _ _ _ _,bel⟩
end Go.Proofs.Ytjehhhlhalkieaa.C
namespace Go.Proofs.Ytjehhhlhalkieaa.C
open Go.RowKit Go.Proofs.YtjehhhlhalkieaaW.PrintWords Go.Proofs.YtjehhhlhalkieaaW.PrintLast Go.Proofs.YtjehhhlhalkieaaW.PrintMore
attribute [local go_sem] Zk Zi Zt Zs Zd Zc Zj Zh
set_option linter.unusedVariables false
set_option linter.unusedSimpArgs false
mutual
def call_View.l0:Nat→Int→List (S62)→Int→Int→List (S56)→List (S62)→List Int→Option (List Int×List Int×List Int×Int)
 |0,_,_,_,_,_,_,_=>none
 |k+1,x2,I,O,J,D,L,B=>if J<O then (if 0≤J then (if J<(I.length:Int) then (if ((Qq I J).f0)=x2 then (if B.length<17592186044416 then (call_View.l0 k x2 I O (wrap64 (J+1)) D L (B ++ [(Qq I J).f1])) else (none)) else (call_View.l0 k x2 I O (wrap64 (J+1)) D L B)) else (none)) else (none)) else (call_View.l1 k x2 D (D.length:Int) 0 B ([]:List Int) ([]:List Int))
def call_View.l1:Nat→Int→List (S56)→Int→Int→List Int→List Int→List Int→Option (List Int×List Int×List Int×Int)
 |0,_,_,_,_,_,_,_=>none
 |k+1,x2,L,O,J,B,D,I=>if J<O then (if 0≤J then (if J<(L.length:Int) then (if ((Qi L J).f2)=x2 then (if ((Qi L J).f1)>0 then (if D.length<17592186044416 then (call_View.l1 k x2 L O (wrap64 (J+1)) B (D ++ [(Qi L J).f0]) I) else (none)) else (if I.length<17592186044416 then (call_View.l1 k x2 L O (wrap64 (J+1)) B D (I ++ [(Qi L J).f0])) else (none))) else (call_View.l1 k x2 L O (wrap64 (J+1)) B D I)) else (none)) else (none)) else (some (B,D,I,0))
end
def call_View.f (k:Nat) (I:Int) (J:Int) (B:List (S56)) (D:List (S62)) (a2:Int):Option (List Int×List Int×List Int×Int):=(call_Check.f k I J B D).bind fun a3=>(if a3=0 then ((call_within.f a2 0 (wrap64 (J-1))).bind fun cw=>(if cw=true then (call_View.l0 k a2 D (D.length:Int) 0 B D ([]:List Int)) else (some (([]:List Int),([]:List Int),([]:List Int),191)))) else (some (([]:List Int),([]:List Int),([]:List Int),a3)))
theorem call_View.Zo:∀ k,(∀ D I O J L X Y,LeO (call_View.l0 k D I O J L X Y) (call_View.l0 (k+1) D I O J L X Y))∧(∀ D I O J L X Y,LeO (call_View.l1 k D I O J L X Y) (call_View.l1 (k+1) D I O J L X Y))
 |0=>⟨fun _ _ _ _ _ _ _ r h=>by simp[call_View.l0] at h,fun _ _ _ _ _ _ _ r h=>by simp[call_View.l1] at h⟩
 |k+1=>by
  obtain⟨B,U⟩:=call_View.Zo k
  refine⟨?_, ?_⟩
  ·intro D I O J L X Y
   unfold call_View.l0
   repeat' first
   |(with_reducible exact B _ _ _ _ _ _ _)
   |(with_reducible exact U _ _ _ _ _ _ _)
   |(with_reducible exact call_Check.mono _ _ _ _ _)
   |(with_reducible exact LeO.refl _)
   |(with_reducible exact LeO.none _)
   |(with_reducible refine LeO.ite ?_ ?_)
   |(with_reducible refine LeO.bind ?_ (fun _=>?_))
   |exact B _ _ _ _ _ _ _
   |exact U _ _ _ _ _ _ _
   |exact call_Check.mono _ _ _ _ _
   |exact LeO.none _
   |refine LeO.ite ?_ ?_
   |refine LeO.bind ?_ (fun _=>?_)
  ·intro D I O J L X Y
   unfold call_View.l1
   repeat' first
   |(with_reducible exact B _ _ _ _ _ _ _)
   |(with_reducible exact U _ _ _ _ _ _ _)
   |(with_reducible exact call_Check.mono _ _ _ _ _)
   |(with_reducible exact LeO.refl _)
   |(with_reducible exact LeO.none _)
   |(with_reducible refine LeO.ite ?_ ?_)
   |(with_reducible refine LeO.bind ?_ (fun _=>?_))
   |exact B _ _ _ _ _ _ _
   |exact U _ _ _ _ _ _ _
   |exact call_Check.mono _ _ _ _ _
   |exact LeO.none _
   |refine LeO.ite ?_ ?_
   |refine LeO.bind ?_ (fun _=>?_)
theorem call_View.mono:∀ I D a2 a3 J k,LeO (call_View.f k I D a2 a3 J) (call_View.f (k+1) I D a2 a3 J):=by
 intro I D a2 a3 J k
 obtain⟨B,U⟩:=call_View.Zo k
 unfold call_View.f
 repeat' first
   |(with_reducible exact B _ _ _ _ _ _ _)
   |(with_reducible exact U _ _ _ _ _ _ _)
   |(with_reducible exact call_Check.mono _ _ _ _ _)
   |(with_reducible exact LeO.refl _)
   |(with_reducible exact LeO.none _)
   |(with_reducible refine LeO.ite ?_ ?_)
   |(with_reducible refine LeO.bind ?_ (fun _=>?_))
   |exact B _ _ _ _ _ _ _
   |exact U _ _ _ _ _ _ _
   |exact call_Check.mono _ _ _ _ _
   |exact LeO.none _
   |refine LeO.ite ?_ ?_
   |refine LeO.bind ?_ (fun _=>?_)
set_option maxHeartbeats 8000000 in
set_option maxRecDepth 100000 in
theorem call_View.calls (k:Nat) (I:Int) (J:Int) (Z:Option Addr) (U:Nat) (B:List (S56)) (γ:Option Addr) (X:Nat) (D:List (S62)) (a2:Int) (r1:List Int) (r2:List Int) (r3:List Int) (r4:Int) (w:World) (b5:Kd.C k56 w Z B.length B) (b6:B.length≤U) (b7:Kd.C k62 w γ D.length D) (b8:D.length≤X) (h:call_View.f k I J B D a2=some (r1,r2,r3,r4)):
  Calls Try.prog 19 #[.agg #[.int .i64 I,.int .i64 J],.agg #[.slice Z B.length U,.slice γ D.length X],.int .i64 a2] w fun e w'=>∃ a6 b9 hh:Value,e = .returned (.tuple #[.agg #[a6,b9,hh],.int .i64 r4])∧Kd.R (Kd.int .i64) 3 w' w.heap.size (fun k_=>some k_≠(b9:Value).ownBlock∧some k_≠(hh:Value).ownBlock) a6 r1∧Kd.R (Kd.int .i64) 3 w' w.heap.size (fun k_=>some k_≠(a6:Value).ownBlock∧some k_≠(hh:Value).ownBlock) b9 r2∧Kd.R (Kd.int .i64) 3 w' w.heap.size (fun k_=>some k_≠(a6:Value).ownBlock∧some k_≠(b9:Value).ownBlock) hh r3∧Below w.heap.size w w':=by
 have dx:=Try.underlying23
 have db:=Try.underlying27
 have kj:=Try.underlying47
 have be:=Try.underlying62
 have bu:=Try.underlying56
 have ag:=Aside0.mk b5
 have ar:=Aside0.mk b6
 clear b5 b6
 have ah:=Aside0.mk b7
 have aw:=Aside0.mk b8
 clear b7 b8
 have HB:=Aside0.mk (Below.refl w.heap.size w)
 have H:((call_Check.f k I J B D).bind fun a3=>(if a3=0 then ((call_within.f a2 0 (wrap64 (J-1))).bind fun cw=>(if cw=true then (call_View.l0 k a2 D (D.length:Int) 0 B D ([]:List Int)) else (some (([]:List Int),([]:List Int),([]:List Int),191)))) else (some (([]:List Int),([]:List Int),([]:List Int),a3))))=some (r1,r2,r3,r4):=h
 clear h
 replace H:=Option.bind_eq_some_iff.mp H
 obtain⟨a3,bz,H⟩:=H
 replace H:(if a3=0 then ((call_within.f a2 0 (wrap64 (J-1))).bind fun cw=>(if cw=true then (call_View.l0 k a2 D (D.length:Int) 0 B D ([]:List Int)) else (some (([]:List Int),([]:List Int),([]:List Int),191)))) else (some (([]:List Int),([]:List Int),([]:List Int),a3)))=some (r1,r2,r3,r4):=H
 have A4:=Aside0.mk bz
 clear bz
 by_cases c5:a3=0
 ·rw[if_pos c5] at H
  have c5b0:(a3==0)=true:=beq_iff_eq.mpr c5
  have c5b1:(a3 != 0)=false:=bne_eq_false_iff_eq.mpr c5
  clear c5
  replace H:=Option.bind_eq_some_iff.mp H
  obtain⟨cw,d8,H⟩:=H
  replace H:(if cw=true then (call_View.l0 k a2 D (D.length:Int) 0 B D ([]:List Int)) else (some (([]:List Int),([]:List Int),([]:List Int),191)))=some (r1,r2,r3,r4):=H
  have A6:=Aside0.mk d8
  clear d8
  by_cases c7:cw=true
  ·subst c7
   have H1:(call_View.l0 k a2 D (D.length:Int) 0 B D ([]:List Int))=some (r1,r2,r3,r4):=by rw[if_pos rfl] at H;exact H
   clear H
   have H:=H1
   clear H1
   have H':=Aside0.mk H
   clear H
   go_enter Try.func19,Try.ntmps19
   go_wp2_with (first|((with_reducible refine Qt (N:=3) rfl ?_);refine Qp ?hg (N:=3) ?hd (cs:=#[.int .i64 I,.int .i64 J]) (t:=23) ?hr ?_;(case hd=>rfl);(case hg=>rfl);(case hr=>go_simp <;> rfl);intro τ hg w8 hbox hb;have O:=Aside0.mk hbox;have fl:=sGe hg;have fm:=sGe hg;replace HB:=sHb hb;clear hb hbox hg)|((with_reducible refine Qt (N:=4) rfl ?_);refine Qp ?hg (N:=4) ?hd (cs:=#[.slice Z B.length U,.slice γ D.length X]) (t:=27) ?hr ?_;(case hd=>rfl);(case hg=>rfl);(case hr=>go_simp <;> rfl);intro ac hg w9 hbox hb;have ζ :=Aside0.mk hbox;have hj:=sGe hg;have hl:=sGe hg;have ao:=sNl O hg;have ap:=sNg O hg;replace O:=sBk O hb;replace HB:=sHb hb;clear hb hbox hg)|((with_reducible refine Qt (N:=6) rfl ?_);refine Qp ?hg (N:=6) ?hd (cs:=#[.slice none 0 0,.slice none 0 0,.slice none 0 0]) (t:=47) ?hr ?_;(case hd=>rfl);(case hg=>rfl);(case hr=>go_simp <;> rfl);intro χ hg ci hbox hb;have L:=Aside0.mk hbox;have f3:=sGe hg;have fi:=sGe hg;have au:=sNl O hg;have av:=sNg O hg;have ai:=sNl ζ hg;have aj:=sNg ζ hg;replace O:=sBk O hb;replace ζ :=sBk ζ hb;replace HB:=sHb hb;clear hb hbox hg;have h4:=ao.out;have h5:=ap.out;have ea:=au.out;have eb:=av.out;have bq:ci.cell? ⟨τ,0,none⟩=some (.int .i64 I):=(Qa O.out 0).trans rfl;have br:ci.cell? ⟨τ,1,none⟩=some (.int .i64 J):=(Qa O.out 1).trans rfl;have bs:=Qb O.out 0;have ca:=Qb O.out 1;have ik:=ai.out;have il:=aj.out;have cq:ci.cell? ⟨ac,0,none⟩=some (.slice Z B.length U):=(Qa ζ.out 0).trans rfl;have cr:ci.cell? ⟨ac,1,none⟩=some (.slice γ D.length X):=(Qa ζ.out 1).trans rfl;have ct:=Qb ζ.out 0;have cu:=Qb ζ.out 1)|((with_reducible refine Q2 (f:=14) rfl ?_);refine Zq (some 16) rfl rfl Try.func14 kr rfl #[.agg #[.int .i64 I,.int .i64 J],.agg #[.slice Z B.length U,.slice γ D.length X]] rfl (by simp only[List.map_toArray,List.map_cons,List.map_nil] <;> rfl) ?_;(with_reducible refine(call_Check.calls k I J _ _ B _ _ D a3 _ ?side1 ?side2 ?side3 ?side4 A4.out).mono ?_);(case side1=>exact(Kd.Qz ag.out HB.out));(case side2=>exact ar.out);(case side3=>exact(Kd.Qz ah.out HB.out));(case side4=>exact aw.out);rintro e aa ⟨rfl,hb⟩;refine⟨_,rfl, ?_⟩;replace O:=sBk O hb;replace ζ :=sBk ζ hb;replace L:=sBk L hb;replace HB:=sHb hb;(try clear hb);(try clear a4);(try clear hk);(try clear hi);have dq:aa.cell? ⟨τ,0,none⟩=some (.int .i64 I):=(Qa O.out 0).trans rfl;have dr:aa.cell? ⟨τ,1,none⟩=some (.int .i64 J):=(Qa O.out 1).trans rfl;have dt:=Qb O.out 0;have du:=Qb O.out 1)|((with_reducible refine Q2 (f:=41) rfl ?_);refine Zq (some 25) rfl rfl Try.func41 kr rfl #[.int .i64 a2,.int .i64 0,.int .i64 (wrap64 (J-1))] rfl (by simp only[List.map_toArray,List.map_cons,List.map_nil] <;> rfl) ?_;(with_reducible refine(call_within.calls a2 0 (wrap64 (J-1)) true _ A6.out).mono ?_);rintro e w' ⟨rfl,⟨nd,rfl⟩⟩;refine⟨_,rfl, ?_⟩;(try(rw[Gx aa];generalize hq_:World.drewN aa _=aa;have ε :Aside0 (aa.heap[τ]?=some (.cells #[.int .i64 I,.int .i64 J] 23 (0,0))):=⟨by rw[← hq_];exact O.out⟩;have θ :Aside0 (aa.heap[ac]?=some (.cells #[.slice Z B.length U,.slice γ D.length X] 27 (0,0))):=⟨by rw[← hq_];exact ζ.out⟩;have ι :Aside0 (aa.heap[χ]?=some (.cells #[.slice none 0 0,.slice none 0 0,.slice none 0 0] 47 (0,0))):=⟨by rw[← hq_];exact L.out⟩;have κ :Aside0 (Below w.heap.size w aa):=⟨by rw[← hq_];exact HB.out⟩;clear O ζ L HB hq_;have O:= ε;have ζ := θ;have L:= ι;have HB:= κ;clear ε θ ι κ));(try(have cb:aa.cell? ⟨τ,0,none⟩=some (.int .i64 I):=(Qa O.out 0).trans rfl));(try(have cd:aa.cell? ⟨τ,1,none⟩=some (.int .i64 J):=(Qa O.out 1).trans rfl));(try(have ce:=Qb O.out 0));(try(have cf:=Qb O.out 1)))|((with_reducible refine Qt (N:=9) rfl ?_);refine Qp ?hg (N:=9) ?hd (cs:=#[.slice none 0 0,.slice none 0 0,.slice none 0 0]) (t:=47) ?hr ?_;(case hd=>rfl);(case hg=>rfl);(case hr=>go_simp <;> rfl);intro η hg d7 hbox hb;have Y:=Aside0.mk hbox;have jj:=sGe hg;have e7:=sGe hg;have ba:=sNl O hg;have bb:=sNg O hg;have ax:=sNl ζ hg;have az:=sNg ζ hg;have bc:=sNl L hg;have bf:=sNg L hg;replace O:=sBk O hb;replace ζ :=sBk ζ hb;replace L:=sBk L hb;replace HB:=sHb hb;clear hb hbox hg;have ec:=bb.out;have ed:=ba.out;have e9:=az.out;have em:=ax.out;have gm:=bf.out;have h0:=bc.out;have ch:d7.cell? ⟨η,0,none⟩=some (.slice none 0 0):=(Qa Y.out 0).trans rfl;have cn:d7.cell? ⟨η,1,none⟩=some (.slice none 0 0):=(Qa Y.out 1).trans rfl;have dv:d7.cell? ⟨η,2,none⟩=some (.slice none 0 0):=(Qa Y.out 2).trans rfl;have co:=Qb Y.out 0;have cp:=Qb Y.out 1;have dw:=Qb Y.out 2;have dc:d7.cell? ⟨ac,0,none⟩=some (.slice Z B.length U):=(Qa ζ.out 0).trans rfl;have dd:d7.cell? ⟨ac,1,none⟩=some (.slice γ D.length X):=(Qa ζ.out 1).trans rfl;have de:=Qb ζ.out 0;have df:=Qb ζ.out 1))
   go_loopg [32] k (fun kq n3 w'=>∃ (φ :Int) (a0:List Int) (ν :Value),n3 = .int .i64 φ ∧ Aside0 (call_View.l0 kq a2 D (D.length:Int) φ B D a0=some (r1,r2,r3,r4))∧Aside0 (kq≤k)∧Aside0 (Kd.R (Kd.int .i64) 3 w' w.heap.size (fun _=>True) ν a0)∧Aside0 (w'.heap[τ]?=some (.cells #[.int .i64 I,.int .i64 J] 23 (0,0)))∧Aside0 (w'.heap[ac]?=some (.cells #[(.slice Z B.length U),(.slice γ D.length X)] 27 (0,0)))∧Aside0 (w'.heap[χ]?=some (.cells #[(.slice none 0 0),(.slice none 0 0),(.slice none 0 0)] 47 (0,0)))∧Aside0 (w'.heap[η]?=some (.cells #[ν,(.slice none 0 0),(.slice none 0 0)] 47 (0,0)))∧Aside0 (Below w.heap.size w w'))
   case atStart=>exact⟨(0),(([]:List Int)),(.slice none 0 0),qR,H',⟨Nat.le_refl _⟩,⟨by first|exact Kd.Yd _ _ _ _ _|exact Kd.Je _ _ _ _ _|exact Kd.Jb _ _ _ _ _|exact Kd.Jd _ _ _ _ _|exact Kd.Jc _ _ _ _ _⟩,⟨bka O⟩,⟨bka ζ⟩,⟨bka L⟩,⟨by(with_reducible repeat(first|refine Qf ?_ _|refine Qc ?_|refine Qg ?_ _));refine Qx (cs:=#[.slice none 0 0,.slice none 0 0,.slice none 0 0]) ?_ 2 _ rfl;(with_reducible repeat(first|refine Qf ?_ _|refine Qc ?_|refine Qg ?_ _));refine Qx (cs:=#[.slice none 0 0,.slice none 0 0,.slice none 0 0]) ?_ 1 _ rfl;(with_reducible repeat(first|refine Qf ?_ _|refine Qc ?_|refine Qg ?_ _));refine Qx (cs:=#[.slice none 0 0,.slice none 0 0,.slice none 0 0]) ?_ 0 _ rfl;(with_reducible repeat(first|refine Qf ?_ _|refine Qc ?_|refine Qg ?_ _));exact Y.out⟩,⟨bel⟩⟩
   case round=>
    clear H'
    try clear c1
    try clear c2
    try clear p2
    try clear c4
    try clear c5
    try clear c5b0
    try clear c5b1
    try clear p6
    try clear c7
    try clear cg
    try clear cj
    try clear ay
    try clear e5
    try clear bw
    try clear cv
    try clear kg
    try clear bq
    try clear br
    try clear cq
    try clear cr
    try clear dq
    try clear dr
    try clear cb
    try clear cd
    try clear ch
    try clear cn
    try clear dv
    try clear dc
    try clear dd
    try clear bs
    try clear ca
    try clear ct
    try clear cu
    try clear dt
    try clear du
    try clear ce
    try clear cf
    try clear co
    try clear cp
    try clear dw
    try clear de
    try clear df
    obtain⟨φ,a0,ν,rfl,HA,σ,HO_114000,O,ζ,L,Y,HB⟩:=hrel
    cases gk with
    |zero=>exact absurd HA.out (by simp[call_View.l0])
    |succ k1=>
     have H:=HA.out
     clear HA
     simp only[call_View.l0] at H
     by_cases bd: φ < (D.length:Int)
     ·rw[if_pos bd] at H
      have c25b0:decide (φ < (D.length:Int))=true:=decide_eq_true bd
      clear bd
      by_cases ak:0 ≤ φ
      ·rw[if_pos ak] at H
       have c26b0:decide (0 ≤ φ)=true:=decide_eq_true ak
       clear ak
       by_cases dj: φ < (D.length:Int)
       ·rw[if_pos dj] at H
        have c27b0:decide (φ < (D.length:Int))=true:=decide_eq_true dj
        clear dj
        by_cases al:((Qq D φ).f0)=a2
        ·rw[if_pos al] at H
         have c28b0:(((Qq D φ).f0)==a2)=true:=beq_iff_eq.mpr al
         have c28b1:(((Qq D φ).f0) != a2)=false:=bne_eq_false_iff_eq.mpr al
         clear al
         by_cases ck:a0.length<17592186044416
         ·rw[if_pos ck] at H
          have jq:=Aside0.mk ck
          clear ck
          obtain⟨dk,b0⟩:∃ y_:List Int,y_=(a0 ++ [(Qq D φ).f1]):=⟨_,rfl⟩
          replace H:(call_View.l0 k1 a2 D (D.length:Int) (wrap64 (φ + 1)) B D dk)=some (r1,r2,r3,r4):=by first|(rw[b0];with_reducible exact H)|(have ρ:=(Option.bind_some _ _).symm.trans H;rw[b0];with_reducible exact ρ)|(have ρ:=(Option.bind_some _ _).symm.trans H;with_reducible exact ρ)|with_reducible exact H|(rw[b0];exact H)|exact H
          have e6:=Aside0.mk b0
          clear b0
          have H':=Aside0.mk H
          clear H
          have b2:0≤(φ :Int):=of_decide_eq_true (by assumption)
          have b3: φ < (D.length:Int):=of_decide_eq_true (by assumption)
          obtain⟨e8,ez,a8,a9⟩:=Xa ah.out φ b2 b3
          cases ez
          replace a8:=(HB.out.cell (World.block_lt_of_cell? w _ a8)).trans a8
          replace a9:=(HB.out.cell (World.block_lt_of_cell? w _ a9)).trans a9
          replace b2:=eq_true b2
          replace b3:=eq_true b3
          go_wp2_with (first|((with_reducible refine Qt (N:=11) rfl ?_);refine Qp ?hg (N:=11) ?hd (cs:=#[.int .i64 0,.int .i64 0]) (t:=62) ?hr ?_;(case hd=>rfl);(case hg=>rfl);(case hr=>go_simp <;> rfl);intro di hg cm hbox hb;have af:=Aside0.mk hbox;have jr:=sGe hg;have js:=sGe hg;have cx:=sNl O hg;have cy:=sNg O hg;have cz:=sNl ζ hg;have d0:=sNg ζ hg;have d1:=sNl L hg;have d2:=sNg L hg;have d3:=sNl Y hg;have d4:=sNg Y hg;replace HO_114000:=sRb HO_114000 hb;replace O:=sBk O hb;replace ζ :=sBk ζ hb;replace L:=sBk L hb;replace Y:=sBk Y hb;replace HB:=sHb hb;clear hb hbox hg;have jt:=cy.out;have ju:=cx.out;have fg:=d0.out;have fh:=cz.out;have g8:=d2.out;have g9:=d1.out;have nm:=d4.out;have nn:=d3.out;have eu:cm.cell? ⟨di,0,none⟩=some (.int .i64 0):=(Qa af.out 0).trans rfl;have ev:cm.cell? ⟨di,1,none⟩=some (.int .i64 0):=(Qa af.out 1).trans rfl;have ew:=Qb af.out 0;have ey:=Qb af.out 1;have er:=bb.out;have et:=ba.out;have hu:=az.out;have hx:=ax.out;have g4:=bf.out;have g5:=bc.out;have i4:cm.cell? ⟨η,0,none⟩=some (ν):=(Qa Y.out 0).trans rfl;have i7:cm.cell? ⟨η,1,none⟩=some (.slice none 0 0):=(Qa Y.out 1).trans rfl;have i9:cm.cell? ⟨η,2,none⟩=some (.slice none 0 0):=(Qa Y.out 2).trans rfl;have iw:=Qb Y.out 0;have ix:=Qb Y.out 1;have iy:=Qb Y.out 2)|((with_reducible refine Xc (b:=.append) (xs:=#[.tmp 41,.tmp 44]) rfl ?_);at_builtin;refine Kd.Jm (Kd.int .i64) (w0:=w) w.heap.size rfl (.tmp 41) (.tmp 44) 45 3 (.int .i64 0) 8 rfl Try.underlying45 Wg rfl (by decide) (by omega) ν a0 ((Qq D φ).f1) [.int .i64 ((Qq D φ).f1)] (fun _=>True) (fun _=>False) rfl (by first|(go_simp;done)|(go_simp;rfl)) ?aP (fun _ hk=>hk.elim) ?aF ?aO ?aB ?aS ?aL ?_;(case aP=>exact rfl);(case aB=>exact bel);(case aF=>exact(fun _ _=>trivial));(case aO=>exact(by(with_reducible repeat(first|apply Kd.Qm|apply Kd.Ql|apply Kd.Qo));exact Kd.Qs (Kd.Qu (Kd.Qu (Kd.Qy HO_114000.out af.out (by decide)) (fun _ hk=>hk.2) (.int .i64 ((Qq D φ).f0))) (fun _ hk=>hk.2) (.int .i64 ((Qq D φ).f1))) (fun _ hk=>trivial)));(case aS=>exact(Qk bel));(case aL=>have:=jq.out;omega);intro kh j3 ho hb hg hat;rw[← e6.out] at ho;have d5:=Aside0.mk ho;replace O:=Aside0.mk (Zb (g:= τ) (o:=.cells #[.int .i64 I,.int .i64 J] 23 (0,0)) (bka O) hg (Kd.X1 HO_114000.out O.out (by decide)));replace ζ :=Aside0.mk (Zb (g:=ac) (o:=.cells #[.slice Z B.length U,.slice (some e8) D.length X] 27 (0,0)) (bka ζ) hg (Kd.X1 HO_114000.out ζ.out (by decide)));replace L:=Aside0.mk (Zb (g:= χ) (o:=.cells #[.slice none 0 0,.slice none 0 0,.slice none 0 0] 47 (0,0)) (bka L) hg (Kd.X1 HO_114000.out L.out (by decide)));replace Y:=Aside0.mk (Zb (g:= η) (o:=.cells #[ν,.slice none 0 0,.slice none 0 0] 47 (0,0)) (bka Y) hg (Kd.X1 HO_114000.out Y.out (by decide)));replace af:=Aside0.mk (Zb (g:=di) (o:=.cells #[.int .i64 ((Qq D φ).f0),.int .i64 ((Qq D φ).f1)] 62 (0,0)) (by(with_reducible repeat(first|refine Qf ?_ _|refine Qc ?_|refine Qg ?_ _));refine Qx (cs:=#[.int .i64 ((Qq D φ).f0),.int .i64 0]) ?_ 1 _ rfl;(with_reducible repeat(first|refine Qf ?_ _|refine Qc ?_|refine Qg ?_ _));refine Qx (cs:=#[.int .i64 0,.int .i64 0]) ?_ 0 _ rfl;(with_reducible repeat(first|refine Qf ?_ _|refine Qc ?_|refine Qg ?_ _));exact af.out) hg (Kd.X1 HO_114000.out af.out (by decide)));replace HB:=Aside0.mk hb;clear HO_114000;clear ho hb hg hat;obtain⟨kk,kl,km⟩:=Kd.Q6 d5.out;subst km;have fp:j3.cell? ⟨η,0,none⟩=some (ν):=(Qa Y.out 0).trans rfl;have fq:j3.cell? ⟨η,1,none⟩=some (.slice none 0 0):=(Qa Y.out 1).trans rfl;have iz:j3.cell? ⟨η,2,none⟩=some (.slice none 0 0):=(Qa Y.out 2).trans rfl;have fr:=Qb Y.out 0;have ft:=Qb Y.out 1;have j2:=Qb Y.out 2))
          go_roundg k1
          case measure=>have:=σ.out;omega
          case rel=>exact⟨(wrap64 (φ + 1)),(dk),(.slice kk dk.length kl),qR,H',⟨by have:=σ.out;omega⟩,⟨by(with_reducible repeat(first|apply Kd.Qm|apply Kd.Ql|apply Kd.Qo));exact Kd.Qs (Kd.Qu (Kd.Qy d5.out Y.out (by decide)) (fun _ hk=>hk.2) _) (fun _ hk=>trivial)⟩,⟨bka O⟩,⟨bka ζ⟩,⟨bka L⟩,⟨by(with_reducible repeat(first|refine Qf ?_ _|refine Qc ?_|refine Qg ?_ _));refine Qx (cs:=#[ν,.slice none 0 0,.slice none 0 0]) ?_ 0 _ rfl;(with_reducible repeat(first|refine Qf ?_ _|refine Qc ?_|refine Qg ?_ _));exact Y.out⟩,⟨bel⟩⟩
         ·rw[if_neg ck] at H
          exact absurd H (by simp)
        ·rw[if_neg al] at H
         have c28b0:(((Qq D φ).f0)==a2)=false:=beq_eq_false_iff_ne.mpr al
         have c28b1:(((Qq D φ).f0) != a2)=true:=bne_iff_ne.mpr al
         have H':=Aside0.mk H
         clear H
         have b2:0≤(φ :Int):=of_decide_eq_true (by assumption)
         have b3: φ < (D.length:Int):=of_decide_eq_true (by assumption)
         obtain⟨e8,ez,a8,a9⟩:=Xa ah.out φ b2 b3
         cases ez
         replace a8:=(HB.out.cell (World.block_lt_of_cell? w _ a8)).trans a8
         replace a9:=(HB.out.cell (World.block_lt_of_cell? w _ a9)).trans a9
         replace b2:=eq_true b2
         replace b3:=eq_true b3
         go_wp2_with (first|((with_reducible refine Qt (N:=11) rfl ?_);refine Qp ?hg (N:=11) ?hd (cs:=#[.int .i64 0,.int .i64 0]) (t:=62) ?hr ?_;(case hd=>rfl);(case hg=>rfl);(case hr=>go_simp <;> rfl);intro di hg en hbox hb;have af:=Aside0.mk hbox;have jr:=sGe hg;have js:=sGe hg;have cx:=sNl O hg;have cy:=sNg O hg;have cz:=sNl ζ hg;have d0:=sNg ζ hg;have d1:=sNl L hg;have d2:=sNg L hg;have d3:=sNl Y hg;have d4:=sNg Y hg;replace HO_114000:=sRb HO_114000 hb;replace O:=sBk O hb;replace ζ :=sBk ζ hb;replace L:=sBk L hb;replace Y:=sBk Y hb;replace HB:=sHb hb;clear hb hbox hg;have jk:=cy.out;have jl:=cx.out;have ge:=d0.out;have gf:=cz.out;have h6:=d2.out;have h7:=d1.out;have jm:=d4.out;have jn:=d3.out;have fc:en.cell? ⟨di,0,none⟩=some (.int .i64 0):=(Qa af.out 0).trans rfl;have ff:en.cell? ⟨di,1,none⟩=some (.int .i64 0):=(Qa af.out 1).trans rfl;have fn:=Qb af.out 0;have fo:=Qb af.out 1))
         go_roundg k1
         case measure=>have:=σ.out;omega
         case rel=>exact⟨(wrap64 (φ + 1)),(a0),(ν),qR,H',⟨by have:=σ.out;omega⟩,⟨by(with_reducible repeat(first|apply Kd.Qm|apply Kd.Ql|apply Kd.Qo));exact Kd.Qs (Kd.Qu (Kd.Qu (Kd.Qy HO_114000.out af.out (by decide)) (fun _ hk=>hk.2) (.int .i64 ((Qq D φ).f0))) (fun _ hk=>hk.2) (.int .i64 ((Qq D φ).f1))) (fun _ hk=>trivial)⟩,⟨bka O⟩,⟨bka ζ⟩,⟨bka L⟩,⟨bka Y⟩,⟨bel⟩⟩
       ·rw[if_neg dj] at H
        exact absurd H (by simp)
      ·rw[if_neg ak] at H
       exact absurd H (by simp)
     ·rw[if_neg bd] at H
      have c25b0:decide (φ < (D.length:Int))=false:=decide_eq_false bd
      clear bd
      have H':=Aside0.mk H
      clear H
      have h8:=ap.out
      have h9:=ao.out
      have ha:=ai.out
      have he:=aj.out
      have g7:=ax.out
      have gg:=az.out
      have dy:wr.cell? ⟨ac,0,none⟩=some (.slice Z B.length U):=(Qa ζ.out 0).trans rfl
      have e0:wr.cell? ⟨ac,1,none⟩=some (.slice γ D.length X):=(Qa ζ.out 1).trans rfl
      have e3:=Qb ζ.out 0
      have e4:=Qb ζ.out 1
      go_wp2
      go_loopg [51] k1 (fun kq na w'=>∃ (δ :Int) (ab:List Int) (ae:List Int) (ψ :Value) (ω :Value),na = .int .i64 δ ∧ Aside0 (call_View.l1 kq a2 B (B.length:Int) δ a0 ab ae=some (r1,r2,r3,r4))∧Aside0 (kq≤k1)∧Aside0 (Kd.R (Kd.int .i64) 3 w' w.heap.size (fun k_=>some k_≠(ψ :Value).ownBlock∧some k_≠(ω :Value).ownBlock) ν a0)∧Aside0 (Kd.R (Kd.int .i64) 3 w' w.heap.size (fun k_=>some k_≠(ν :Value).ownBlock∧some k_≠(ω :Value).ownBlock) ψ ab)∧Aside0 (Kd.R (Kd.int .i64) 3 w' w.heap.size (fun k_=>some k_≠(ν :Value).ownBlock∧some k_≠(ψ :Value).ownBlock) ω ae)∧Aside0 (w'.heap[τ]?=some (.cells #[.int .i64 I,.int .i64 J] 23 (0,0)))∧Aside0 (w'.heap[ac]?=some (.cells #[(.slice Z B.length U),(.slice γ D.length X)] 27 (0,0)))∧Aside0 (w'.heap[χ]?=some (.cells #[(.slice none 0 0),(.slice none 0 0),(.slice none 0 0)] 47 (0,0)))∧Aside0 (w'.heap[η]?=some (.cells #[ν,ψ,ω] 47 (0,0)))∧Aside0 (Below w.heap.size w w'))
      case atStart=>exact⟨(0),(([]:List Int)),(([]:List Int)),(.slice none 0 0),(.slice none 0 0),rfl,H',⟨Nat.le_refl _⟩,⟨by(with_reducible repeat(first|apply Kd.Qm|apply Kd.Ql|apply Kd.Qo));exact Kd.Qs HO_114000.out (fun _ hk=>⟨(by simp[Value.ownBlock]),(by simp[Value.ownBlock])⟩)⟩,⟨by first|exact Kd.Yd _ _ _ _ _|exact Kd.Je _ _ _ _ _|exact Kd.Jb _ _ _ _ _|exact Kd.Jd _ _ _ _ _|exact Kd.Jc _ _ _ _ _⟩,⟨by first|exact Kd.Yd _ _ _ _ _|exact Kd.Je _ _ _ _ _|exact Kd.Jb _ _ _ _ _|exact Kd.Jd _ _ _ _ _|exact Kd.Jc _ _ _ _ _⟩,O,ζ,L,Y,HB⟩
      case round=>
       clear H'
       try clear c1
       try clear p1
       try clear q1
       try clear bo
       try clear c2
       try clear p2
       try clear c3
       try clear c4
       try clear c5
       try clear c5b0
       try clear c5b1
       try clear p6
       try clear c7
       try clear cg
       try clear n1
       try clear n2
       try clear ki
       try clear cj
       try clear ay
       try clear e5
       try clear bw
       try clear cv
       try clear kg
       try clear bd
       try clear c25b0
       try clear ak
       try clear c26b0
       try clear dj
       try clear c27b0
       try clear al
       try clear c28b0
       try clear c28b1
       try clear ck
       try clear nb
       try clear k7
       try clear l7
       try clear o1
       try clear ke
       try clear fb
       try clear kf
       try clear nc
       try clear o2
       try clear ga
       try clear fa
       try clear o3
       try clear eh
       try clear nf
       try clear ej
       try clear bq
       try clear br
       try clear cq
       try clear cr
       try clear dq
       try clear dr
       try clear cb
       try clear cd
       try clear ch
       try clear cn
       try clear dv
       try clear dc
       try clear dd
       try clear eu
       try clear ev
       try clear i4
       try clear i7
       try clear i9
       try clear fp
       try clear fq
       try clear iz
       try clear fc
       try clear ff
       try clear dy
       try clear e0
       try clear bs
       try clear ca
       try clear ct
       try clear cu
       try clear dt
       try clear du
       try clear ce
       try clear cf
       try clear co
       try clear cp
       try clear dw
       try clear de
       try clear df
       try clear ew
       try clear ey
       try clear iw
       try clear ix
       try clear iy
       try clear fr
       try clear ft
       try clear j2
       try clear fn
       try clear fo
       try clear e3
       try clear e4
       try clear a8
       try clear a9
       try clear b2
       try clear p2
       try clear p6
       try clear b3
       obtain⟨δ,ab,ae,ψ,ω,rfl,HA,bp,HO_114000,HO_114001,HO_114002,O,ζ,L,Y,HB⟩:=hrel
       cases gk with
       |zero=>exact absurd HA.out (by simp[call_View.l1])
       |succ k2=>
        have H:=HA.out
        clear HA
        simp only[call_View.l1] at H
        by_cases ef: δ < (B.length:Int)
        ·rw[if_pos ef] at H
         have c53b0:decide (δ < (B.length:Int))=true:=decide_eq_true ef
         clear ef
         by_cases eg:0 ≤ δ
         ·rw[if_pos eg] at H
          have c54b0:decide (0 ≤ δ)=true:=decide_eq_true eg
          clear eg
          by_cases hy: δ < (B.length:Int)
          ·rw[if_pos hy] at H
           have c55b0:decide (δ < (B.length:Int))=true:=decide_eq_true hy
           clear hy
           by_cases ee:((Qi B δ).f2)=a2
           ·rw[if_pos ee] at H
            have c56b0:(((Qi B δ).f2)==a2)=true:=beq_iff_eq.mpr ee
            have c56b1:(((Qi B δ).f2) != a2)=false:=bne_eq_false_iff_eq.mpr ee
            clear ee
            by_cases ei:((Qi B δ).f1)>0
            ·rw[if_pos ei] at H
             have c57b0:decide (0<((Qi B δ).f1))=true:=decide_eq_true ei
             clear ei
             by_cases ek:ab.length<17592186044416
             ·rw[if_pos ek] at H
              have jv:=Aside0.mk ek
              clear ek
              obtain⟨fv,dm⟩:∃ y_:List Int,y_=(ab ++ [(Qi B δ).f0]):=⟨_,rfl⟩
              replace H:(call_View.l1 k2 a2 B (B.length:Int) (wrap64 (δ + 1)) a0 fv ae)=some (r1,r2,r3,r4):=by first|(rw[dm];with_reducible exact H)|(have ρ:=(Option.bind_some _ _).symm.trans H;rw[dm];with_reducible exact ρ)|(have ρ:=(Option.bind_some _ _).symm.trans H;with_reducible exact ρ)|with_reducible exact H|(rw[dm];exact H)|exact H
              have jw:=Aside0.mk dm
              clear dm
              have H':=Aside0.mk H
              clear H
              have am:0≤(δ :Int):=of_decide_eq_true (by assumption)
              have an: δ < (B.length:Int):=of_decide_eq_true (by assumption)
              obtain⟨b4,dl,a1,a5,a7⟩:=Z5 ag.out δ am an
              cases dl
              replace a1:=(HB.out.cell (World.block_lt_of_cell? w _ a1)).trans a1
              replace a5:=(HB.out.cell (World.block_lt_of_cell? w _ a5)).trans a5
              replace a7:=(HB.out.cell (World.block_lt_of_cell? w _ a7)).trans a7
              replace am:=eq_true am
              replace an:=eq_true an
              go_wp2_with (first|((with_reducible refine Qt (N:=13) rfl ?_);refine Qp ?hg (N:=13) ?hd (cs:=#[.int .i64 0,.int .i64 0,.int .i64 0]) (t:=56) ?hr ?_;(case hd=>rfl);(case hg=>rfl);(case hr=>go_simp <;> rfl);intro ξ hg dh hbox hb;have μ :=Aside0.mk hbox;have eo:=sGe hg;have ep:=sGe hg;have bg:=sNl O hg;have bh:=sNg O hg;have bi:=sNl ζ hg;have bj:=sNg ζ hg;have bk:=sNl L hg;have bl:=sNg L hg;have bm:=sNl Y hg;have bn:=sNg Y hg;replace HO_114000:=sRb HO_114000 hb;replace HO_114001:=sRb HO_114001 hb;replace HO_114002:=sRb HO_114002 hb;replace O:=sBk O hb;replace ζ :=sBk ζ hb;replace L:=sBk L hb;replace Y:=sBk Y hb;replace HB:=sHb hb;clear hb hbox hg;have jo:=bh.out;have jp:=bg.out;have ii:=bj.out;have ij:=bi.out;have ia:=bl.out;have ib:=bk.out;have fj:=bn.out;have fk:=bm.out;have gp:dh.cell? ⟨ξ,0,none⟩=some (.int .i64 0):=(Qa μ.out 0).trans rfl;have gq:dh.cell? ⟨ξ,1,none⟩=some (.int .i64 0):=(Qa μ.out 1).trans rfl;have m7:dh.cell? ⟨ξ,2,none⟩=some (.int .i64 0):=(Qa μ.out 2).trans rfl;have gr:=Qb μ.out 0;have gs:=Qb μ.out 1;have m8:=Qb μ.out 2;have gh:=bb.out;have gi:=ba.out;have ku:=az.out;have kv:=ax.out;have j7:=bf.out;have j8:=bc.out;have fw:dh.cell? ⟨η,0,none⟩=some (ν):=(Qa Y.out 0).trans rfl;have fx:dh.cell? ⟨η,1,none⟩=some (ψ):=(Qa Y.out 1).trans rfl;have m9:dh.cell? ⟨η,2,none⟩=some (ω):=(Qa Y.out 2).trans rfl;have fy:=Qb Y.out 0;have fz:=Qb Y.out 1;have ma:=Qb Y.out 2)|((with_reducible refine Xc (b:=.append) (xs:=#[.tmp 72,.tmp 75]) rfl ?_);at_builtin;refine Kd.Jm (Kd.int .i64) (w0:=w) w.heap.size rfl (.tmp 72) (.tmp 75) 45 3 (.int .i64 0) 8 rfl Try.underlying45 Wg rfl (by decide) (by omega) ψ ab ((Qi B δ).f0) [.int .i64 ((Qi B δ).f0)] (fun k_=>some k_≠(ν :Value).ownBlock∧some k_≠(ω :Value).ownBlock) (fun _=>False) rfl (by first|(go_simp;done)|(go_simp;rfl)) ?aP (fun _ hk=>hk.elim) ?aF ?aO ?aB ?aS ?aL ?_;(case aP=>exact rfl);(case aB=>exact bel);(case aF=>exact(fun k_ hk=>⟨Kd.fresh' (Kd.Z4 (by(with_reducible repeat(first|apply Kd.Qm|apply Kd.Ql|apply Kd.Qo));exact(Kd.Qs (Kd.Qu (Kd.Qu (Kd.Qu (Kd.Qy HO_114000.out μ.out (by decide)) (fun _ hk=>hk.2) (.int .i64 ((Qi B δ).f0))) (fun _ hk=>hk.2) (.int .i64 ((Qi B δ).f1))) (fun _ hk=>hk.2) (.int .i64 ((Qi B δ).f2))) (fun _ h_=>h_.1)))) k_ hk,Kd.fresh' (Kd.Z4 (by(with_reducible repeat(first|apply Kd.Qm|apply Kd.Ql|apply Kd.Qo));exact(Kd.Qs (Kd.Qu (Kd.Qu (Kd.Qu (Kd.Qy HO_114002.out μ.out (by decide)) (fun _ hk=>hk.2) (.int .i64 ((Qi B δ).f0))) (fun _ hk=>hk.2) (.int .i64 ((Qi B δ).f1))) (fun _ hk=>hk.2) (.int .i64 ((Qi B δ).f2))) (fun _ h_=>h_.1)))) k_ hk⟩));(case aO=>exact(by(with_reducible repeat(first|apply Kd.Qm|apply Kd.Ql|apply Kd.Qo));exact Kd.Qs (Kd.Qu (Kd.Qu (Kd.Qu (Kd.Qy HO_114001.out μ.out (by decide)) (fun _ hk=>hk.2) (.int .i64 ((Qi B δ).f0))) (fun _ hk=>hk.2) (.int .i64 ((Qi B δ).f1))) (fun _ hk=>hk.2) (.int .i64 ((Qi B δ).f2))) (fun _ hk=>⟨hk.1.1,hk.1.2⟩)));(case aS=>exact(Qk bel));(case aL=>have:=jv.out;omega);intro o0 fu ho hb hg hat;rw[← jw.out] at ho;have i0:=Aside0.mk ho;replace HO_114000:=Aside0.mk (Kd.J8 (ok:=(fun k_=>some k_≠(ω :Value).ownBlock)) (by(with_reducible repeat(first|apply Kd.Qm|apply Kd.Ql|apply Kd.Qo));exact Kd.Qs (Kd.Qu (Kd.Qu (Kd.Qu (Kd.Qy HO_114000.out μ.out (by decide)) (fun _ hk=>hk.2) (.int .i64 ((Qi B δ).f0))) (fun _ hk=>hk.2) (.int .i64 ((Qi B δ).f1))) (fun _ hk=>hk.2) (.int .i64 ((Qi B δ).f2))) (fun _ hk=>⟨hk.1.2,hk.1.1⟩)) hg hat);replace HO_114002:=Aside0.mk (Kd.J8 (ok:=(fun k_=>some k_≠(ν :Value).ownBlock)) (by(with_reducible repeat(first|apply Kd.Qm|apply Kd.Ql|apply Kd.Qo));exact Kd.Qs (Kd.Qu (Kd.Qu (Kd.Qu (Kd.Qy HO_114002.out μ.out (by decide)) (fun _ hk=>hk.2) (.int .i64 ((Qi B δ).f0))) (fun _ hk=>hk.2) (.int .i64 ((Qi B δ).f1))) (fun _ hk=>hk.2) (.int .i64 ((Qi B δ).f2))) (fun _ hk=>⟨hk.1.1,hk.1.2⟩)) hg hat);replace O:=Aside0.mk (Zb (g:= τ) (o:=.cells #[.int .i64 I,.int .i64 J] 23 (0,0)) (bka O) hg (Kd.X1 HO_114001.out O.out (by decide)));replace ζ :=Aside0.mk (Zb (g:=ac) (o:=.cells #[.slice (some b4) B.length U,.slice γ D.length X] 27 (0,0)) (bka ζ) hg (Kd.X1 HO_114001.out ζ.out (by decide)));replace L:=Aside0.mk (Zb (g:= χ) (o:=.cells #[.slice none 0 0,.slice none 0 0,.slice none 0 0] 47 (0,0)) (bka L) hg (Kd.X1 HO_114001.out L.out (by decide)));replace Y:=Aside0.mk (Zb (g:= η) (o:=.cells #[ν,ψ,ω] 47 (0,0)) (bka Y) hg (Kd.X1 HO_114001.out Y.out (by decide)));replace μ :=Aside0.mk (Zb (g:= ξ) (o:=.cells #[.int .i64 ((Qi B δ).f0),.int .i64 ((Qi B δ).f1),.int .i64 ((Qi B δ).f2)] 56 (0,0)) (by(with_reducible repeat(first|refine Qf ?_ _|refine Qc ?_|refine Qg ?_ _));refine Qx (cs:=#[.int .i64 ((Qi B δ).f0),.int .i64 ((Qi B δ).f1),.int .i64 0]) ?_ 2 _ rfl;(with_reducible repeat(first|refine Qf ?_ _|refine Qc ?_|refine Qg ?_ _));refine Qx (cs:=#[.int .i64 ((Qi B δ).f0),.int .i64 0,.int .i64 0]) ?_ 1 _ rfl;(with_reducible repeat(first|refine Qf ?_ _|refine Qc ?_|refine Qg ?_ _));refine Qx (cs:=#[.int .i64 0,.int .i64 0,.int .i64 0]) ?_ 0 _ rfl;(with_reducible repeat(first|refine Qf ?_ _|refine Qc ?_|refine Qg ?_ _));exact μ.out) hg (Kd.X1 HO_114001.out μ.out (by decide)));replace HB:=Aside0.mk hb;clear HO_114001;clear ho hb hg hat;obtain⟨d6,d9,da⟩:=Kd.Q6 i0.out;subst da;have ig:fu.cell? ⟨η,0,none⟩=some (ν):=(Qa Y.out 0).trans rfl;have ih:fu.cell? ⟨η,1,none⟩=some (ψ):=(Qa Y.out 1).trans rfl;have mb:fu.cell? ⟨η,2,none⟩=some (ω):=(Qa Y.out 2).trans rfl;have io:=Qb Y.out 0;have iv:=Qb Y.out 1;have mc:=Qb Y.out 2))
              go_roundg k2
              case measure=>have:=σ.out;have:=bp.out;omega
              case rel=>exact⟨(wrap64 (δ + 1)),(fv),(ae),(.slice d6 fv.length d9),(ω),qR,H',⟨by have:=σ.out;have:=bp.out;omega⟩,⟨by(with_reducible repeat(first|apply Kd.Qm|apply Kd.Ql|apply Kd.Qo));exact Kd.Qs (Kd.Qu (Kd.Qy HO_114000.out Y.out (by decide)) (fun _ hk=>hk.2) _) (fun _ hk=>⟨hk.1.2,hk.1.1⟩)⟩,⟨by(with_reducible repeat(first|apply Kd.Qm|apply Kd.Ql|apply Kd.Qo));exact Kd.Qs (Kd.Qu (Kd.Qy i0.out Y.out (by decide)) (fun _ hk=>hk.2) _) (fun _ hk=>⟨hk.1.1,hk.1.2⟩)⟩,⟨by(with_reducible repeat(first|apply Kd.Qm|apply Kd.Ql|apply Kd.Qo));exact Kd.Qs (Kd.Qu (Kd.Qy HO_114002.out Y.out (by decide)) (fun _ hk=>hk.2) _) (fun _ hk=>⟨hk.1.1,hk.1.2⟩)⟩,⟨bka O⟩,⟨bka ζ⟩,⟨bka L⟩,⟨by(with_reducible repeat(first|refine Qf ?_ _|refine Qc ?_|refine Qg ?_ _));refine Qx (cs:=#[ν,ψ,ω]) ?_ 1 _ rfl;(with_reducible repeat(first|refine Qf ?_ _|refine Qc ?_|refine Qg ?_ _));exact Y.out⟩,⟨bel⟩⟩
             ·rw[if_neg ek] at H
              exact absurd H (by simp)
            ·rw[if_neg ei] at H
             have c57b0:decide (0<((Qi B δ).f1))=false:=decide_eq_false ei
             clear ei
             by_cases i1:ae.length<17592186044416
             ·rw[if_pos i1] at H
              have k3:=Aside0.mk i1
              clear i1
              obtain⟨gb,dn⟩:∃ y_:List Int,y_=(ae ++ [(Qi B δ).f0]):=⟨_,rfl⟩
              replace H:(call_View.l1 k2 a2 B (B.length:Int) (wrap64 (δ + 1)) a0 ab gb)=some (r1,r2,r3,r4):=by first|(rw[dn];with_reducible exact H)|(have ρ:=(Option.bind_some _ _).symm.trans H;rw[dn];with_reducible exact ρ)|(have ρ:=(Option.bind_some _ _).symm.trans H;with_reducible exact ρ)|with_reducible exact H|(rw[dn];exact H)|exact H
              have k4:=Aside0.mk dn
              clear dn
              have H':=Aside0.mk H
              clear H
              have am:0≤(δ :Int):=of_decide_eq_true (by assumption)
              have an: δ < (B.length:Int):=of_decide_eq_true (by assumption)
              obtain⟨b4,dl,a1,a5,a7⟩:=Z5 ag.out δ am an
              cases dl
              replace a1:=(HB.out.cell (World.block_lt_of_cell? w _ a1)).trans a1
              replace a5:=(HB.out.cell (World.block_lt_of_cell? w _ a5)).trans a5
              replace a7:=(HB.out.cell (World.block_lt_of_cell? w _ a7)).trans a7
              replace am:=eq_true am
              replace an:=eq_true an
              go_wp2_with (first|((with_reducible refine Qt (N:=13) rfl ?_);refine Qp ?hg (N:=13) ?hd (cs:=#[.int .i64 0,.int .i64 0,.int .i64 0]) (t:=56) ?hr ?_;(case hd=>rfl);(case hg=>rfl);(case hr=>go_simp <;> rfl);intro ξ hg bv hbox hb;have μ :=Aside0.mk hbox;have eo:=sGe hg;have ep:=sGe hg;have bg:=sNl O hg;have bh:=sNg O hg;have bi:=sNl ζ hg;have bj:=sNg ζ hg;have bk:=sNl L hg;have bl:=sNg L hg;have bm:=sNl Y hg;have bn:=sNg Y hg;replace HO_114000:=sRb HO_114000 hb;replace HO_114001:=sRb HO_114001 hb;replace HO_114002:=sRb HO_114002 hb;replace O:=sBk O hb;replace ζ :=sBk ζ hb;replace L:=sBk L hb;replace Y:=sBk Y hb;replace HB:=sHb hb;clear hb hbox hg;have kw:=bh.out;have kx:=bg.out;have j9:=bj.out;have ja:=bi.out;have i5:=bl.out;have i6:=bk.out;have jb:=bn.out;have jc:=bm.out;have f4:bv.cell? ⟨ξ,0,none⟩=some (.int .i64 0):=(Qa μ.out 0).trans rfl;have f7:bv.cell? ⟨ξ,1,none⟩=some (.int .i64 0):=(Qa μ.out 1).trans rfl;have me:bv.cell? ⟨ξ,2,none⟩=some (.int .i64 0):=(Qa μ.out 2).trans rfl;have f8:=Qb μ.out 0;have f9:=Qb μ.out 1;have mf:=Qb μ.out 2;have ic:=bb.out;have ie:=ba.out;have jd:=az.out;have je:=ax.out;have jf:=bf.out;have jg:=bc.out;have g0:bv.cell? ⟨η,0,none⟩=some (ν):=(Qa Y.out 0).trans rfl;have g1:bv.cell? ⟨η,1,none⟩=some (ψ):=(Qa Y.out 1).trans rfl;have mg:bv.cell? ⟨η,2,none⟩=some (ω):=(Qa Y.out 2).trans rfl;have g2:=Qb Y.out 0;have g3:=Qb Y.out 1;have mh:=Qb Y.out 2)|((with_reducible refine Xc (b:=.append) (xs:=#[.tmp 56,.tmp 59]) rfl ?_);at_builtin;refine Kd.Jm (Kd.int .i64) (w0:=w) w.heap.size rfl (.tmp 56) (.tmp 59) 45 3 (.int .i64 0) 8 rfl Try.underlying45 Wg rfl (by decide) (by omega) ω ae ((Qi B δ).f0) [.int .i64 ((Qi B δ).f0)] (fun k_=>some k_≠(ν :Value).ownBlock∧some k_≠(ψ :Value).ownBlock) (fun _=>False) rfl (by first|(go_simp;done)|(go_simp;rfl)) ?aP (fun _ hk=>hk.elim) ?aF ?aO ?aB ?aS ?aL ?_;(case aP=>exact rfl);(case aB=>exact bel);(case aF=>exact(fun k_ hk=>⟨Kd.fresh' (Kd.Z4 (by(with_reducible repeat(first|apply Kd.Qm|apply Kd.Ql|apply Kd.Qo));exact(Kd.Qs (Kd.Qu (Kd.Qu (Kd.Qu (Kd.Qy HO_114000.out μ.out (by decide)) (fun _ hk=>hk.2) (.int .i64 ((Qi B δ).f0))) (fun _ hk=>hk.2) (.int .i64 ((Qi B δ).f1))) (fun _ hk=>hk.2) (.int .i64 ((Qi B δ).f2))) (fun _ h_=>h_.1)))) k_ hk,Kd.fresh' (Kd.Z4 (by(with_reducible repeat(first|apply Kd.Qm|apply Kd.Ql|apply Kd.Qo));exact(Kd.Qs (Kd.Qu (Kd.Qu (Kd.Qu (Kd.Qy HO_114001.out μ.out (by decide)) (fun _ hk=>hk.2) (.int .i64 ((Qi B δ).f0))) (fun _ hk=>hk.2) (.int .i64 ((Qi B δ).f1))) (fun _ hk=>hk.2) (.int .i64 ((Qi B δ).f2))) (fun _ h_=>h_.1)))) k_ hk⟩));(case aO=>exact(by(with_reducible repeat(first|apply Kd.Qm|apply Kd.Ql|apply Kd.Qo));exact Kd.Qs (Kd.Qu (Kd.Qu (Kd.Qu (Kd.Qy HO_114002.out μ.out (by decide)) (fun _ hk=>hk.2) (.int .i64 ((Qi B δ).f0))) (fun _ hk=>hk.2) (.int .i64 ((Qi B δ).f1))) (fun _ hk=>hk.2) (.int .i64 ((Qi B δ).f2))) (fun _ hk=>⟨hk.1.1,hk.1.2⟩)));(case aS=>exact(Qk bel));(case aL=>have:=k3.out;omega);intro kn dz ho hb hg hat;rw[← k4.out] at ho;have dp:=Aside0.mk ho;replace HO_114000:=Aside0.mk (Kd.J8 (ok:=(fun k_=>some k_≠(ψ :Value).ownBlock)) (by(with_reducible repeat(first|apply Kd.Qm|apply Kd.Ql|apply Kd.Qo));exact Kd.Qs (Kd.Qu (Kd.Qu (Kd.Qu (Kd.Qy HO_114000.out μ.out (by decide)) (fun _ hk=>hk.2) (.int .i64 ((Qi B δ).f0))) (fun _ hk=>hk.2) (.int .i64 ((Qi B δ).f1))) (fun _ hk=>hk.2) (.int .i64 ((Qi B δ).f2))) (fun _ hk=>⟨hk.1.1,hk.1.2⟩)) hg hat);replace HO_114001:=Aside0.mk (Kd.J8 (ok:=(fun k_=>some k_≠(ν :Value).ownBlock)) (by(with_reducible repeat(first|apply Kd.Qm|apply Kd.Ql|apply Kd.Qo));exact Kd.Qs (Kd.Qu (Kd.Qu (Kd.Qu (Kd.Qy HO_114001.out μ.out (by decide)) (fun _ hk=>hk.2) (.int .i64 ((Qi B δ).f0))) (fun _ hk=>hk.2) (.int .i64 ((Qi B δ).f1))) (fun _ hk=>hk.2) (.int .i64 ((Qi B δ).f2))) (fun _ hk=>⟨hk.1.1,hk.1.2⟩)) hg hat);replace O:=Aside0.mk (Zb (g:= τ) (o:=.cells #[.int .i64 I,.int .i64 J] 23 (0,0)) (bka O) hg (Kd.X1 HO_114002.out O.out (by decide)));replace ζ :=Aside0.mk (Zb (g:=ac) (o:=.cells #[.slice (some b4) B.length U,.slice γ D.length X] 27 (0,0)) (bka ζ) hg (Kd.X1 HO_114002.out ζ.out (by decide)));replace L:=Aside0.mk (Zb (g:= χ) (o:=.cells #[.slice none 0 0,.slice none 0 0,.slice none 0 0] 47 (0,0)) (bka L) hg (Kd.X1 HO_114002.out L.out (by decide)));replace Y:=Aside0.mk (Zb (g:= η) (o:=.cells #[ν,ψ,ω] 47 (0,0)) (bka Y) hg (Kd.X1 HO_114002.out Y.out (by decide)));replace μ :=Aside0.mk (Zb (g:= ξ) (o:=.cells #[.int .i64 ((Qi B δ).f0),.int .i64 ((Qi B δ).f1),.int .i64 ((Qi B δ).f2)] 56 (0,0)) (by(with_reducible repeat(first|refine Qf ?_ _|refine Qc ?_|refine Qg ?_ _));refine Qx (cs:=#[.int .i64 ((Qi B δ).f0),.int .i64 ((Qi B δ).f1),.int .i64 0]) ?_ 2 _ rfl;(with_reducible repeat(first|refine Qf ?_ _|refine Qc ?_|refine Qg ?_ _));refine Qx (cs:=#[.int .i64 ((Qi B δ).f0),.int .i64 0,.int .i64 0]) ?_ 1 _ rfl;(with_reducible repeat(first|refine Qf ?_ _|refine Qc ?_|refine Qg ?_ _));refine Qx (cs:=#[.int .i64 0,.int .i64 0,.int .i64 0]) ?_ 0 _ rfl;(with_reducible repeat(first|refine Qf ?_ _|refine Qc ?_|refine Qg ?_ _));exact μ.out) hg (Kd.X1 HO_114002.out μ.out (by decide)));replace HB:=Aside0.mk hb;clear HO_114002;clear ho hb hg hat;obtain⟨ko,kp,ks⟩:=Kd.Q6 dp.out;subst ks;have mi:dz.cell? ⟨η,0,none⟩=some (ν):=(Qa Y.out 0).trans rfl;have mj:dz.cell? ⟨η,1,none⟩=some (ψ):=(Qa Y.out 1).trans rfl;have ml:dz.cell? ⟨η,2,none⟩=some (ω):=(Qa Y.out 2).trans rfl;have mm:=Qb Y.out 0;have mn:=Qb Y.out 1;have mo:=Qb Y.out 2))
              go_roundg k2
              case measure=>have:=σ.out;have:=bp.out;omega
              case rel=>exact⟨(wrap64 (δ + 1)),(ab),(gb),(ψ),(.slice ko gb.length kp),qR,H',⟨by have:=σ.out;have:=bp.out;omega⟩,⟨by(with_reducible repeat(first|apply Kd.Qm|apply Kd.Ql|apply Kd.Qo));exact Kd.Qs (Kd.Qu (Kd.Qy HO_114000.out Y.out (by decide)) (fun _ hk=>hk.2) _) (fun _ hk=>⟨hk.1.1,hk.1.2⟩)⟩,⟨by(with_reducible repeat(first|apply Kd.Qm|apply Kd.Ql|apply Kd.Qo));exact Kd.Qs (Kd.Qu (Kd.Qy HO_114001.out Y.out (by decide)) (fun _ hk=>hk.2) _) (fun _ hk=>⟨hk.1.1,hk.1.2⟩)⟩,⟨by(with_reducible repeat(first|apply Kd.Qm|apply Kd.Ql|apply Kd.Qo));exact Kd.Qs (Kd.Qu (Kd.Qy dp.out Y.out (by decide)) (fun _ hk=>hk.2) _) (fun _ hk=>⟨hk.1.1,hk.1.2⟩)⟩,⟨bka O⟩,⟨bka ζ⟩,⟨bka L⟩,⟨by(with_reducible repeat(first|refine Qf ?_ _|refine Qc ?_|refine Qg ?_ _));refine Qx (cs:=#[ν,ψ,ω]) ?_ 2 _ rfl;(with_reducible repeat(first|refine Qf ?_ _|refine Qc ?_|refine Qg ?_ _));exact Y.out⟩,⟨bel⟩⟩
             ·rw[if_neg i1] at H
              exact absurd H (by simp)
           ·rw[if_neg ee] at H
            have c56b0:(((Qi B δ).f2)==a2)=false:=beq_eq_false_iff_ne.mpr ee
            have c56b1:(((Qi B δ).f2) != a2)=true:=bne_iff_ne.mpr ee
            have H':=Aside0.mk H
            clear H
            have am:0≤(δ :Int):=of_decide_eq_true (by assumption)
            have an: δ < (B.length:Int):=of_decide_eq_true (by assumption)
            obtain⟨b4,dl,a1,a5,a7⟩:=Z5 ag.out δ am an
            cases dl
            replace a1:=(HB.out.cell (World.block_lt_of_cell? w _ a1)).trans a1
            replace a5:=(HB.out.cell (World.block_lt_of_cell? w _ a5)).trans a5
            replace a7:=(HB.out.cell (World.block_lt_of_cell? w _ a7)).trans a7
            replace am:=eq_true am
            replace an:=eq_true an
            go_wp2_with (first|((with_reducible refine Qt (N:=13) rfl ?_);refine Qp ?hg (N:=13) ?hd (cs:=#[.int .i64 0,.int .i64 0,.int .i64 0]) (t:=56) ?hr ?_;(case hd=>rfl);(case hg=>rfl);(case hr=>go_simp <;> rfl);intro ξ hg j4 hbox hb;have μ :=Aside0.mk hbox;have eo:=sGe hg;have ep:=sGe hg;have bg:=sNl O hg;have bh:=sNg O hg;have bi:=sNl ζ hg;have bj:=sNg ζ hg;have bk:=sNl L hg;have bl:=sNg L hg;have bm:=sNl Y hg;have bn:=sNg Y hg;replace HO_114000:=sRb HO_114000 hb;replace HO_114001:=sRb HO_114001 hb;replace HO_114002:=sRb HO_114002 hb;replace O:=sBk O hb;replace ζ :=sBk ζ hb;replace L:=sBk L hb;replace Y:=sBk Y hb;replace HB:=sHb hb;clear hb hbox hg;have no:=bh.out;have np:=bg.out;have nq:=bj.out;have nr:=bi.out;have ns:=bl.out;have nt:=bk.out;have ky:=bn.out;have kz:=bm.out;have gt:j4.cell? ⟨ξ,0,none⟩=some (.int .i64 0):=(Qa μ.out 0).trans rfl;have gu:j4.cell? ⟨ξ,1,none⟩=some (.int .i64 0):=(Qa μ.out 1).trans rfl;have mq:j4.cell? ⟨ξ,2,none⟩=some (.int .i64 0):=(Qa μ.out 2).trans rfl;have gv:=Qb μ.out 0;have gw:=Qb μ.out 1;have mr:=Qb μ.out 2))
            go_roundg k2
            case measure=>have:=σ.out;have:=bp.out;omega
            case rel=>exact⟨(wrap64 (δ + 1)),(ab),(ae),(ψ),(ω),qR,H',⟨by have:=σ.out;have:=bp.out;omega⟩,⟨by(with_reducible repeat(first|apply Kd.Qm|apply Kd.Ql|apply Kd.Qo));exact Kd.Qs (Kd.Qu (Kd.Qu (Kd.Qu (Kd.Qy HO_114000.out μ.out (by decide)) (fun _ hk=>hk.2) (.int .i64 ((Qi B δ).f0))) (fun _ hk=>hk.2) (.int .i64 ((Qi B δ).f1))) (fun _ hk=>hk.2) (.int .i64 ((Qi B δ).f2))) (fun _ hk=>⟨hk.1.1,hk.1.2⟩)⟩,⟨by(with_reducible repeat(first|apply Kd.Qm|apply Kd.Ql|apply Kd.Qo));exact Kd.Qs (Kd.Qu (Kd.Qu (Kd.Qu (Kd.Qy HO_114001.out μ.out (by decide)) (fun _ hk=>hk.2) (.int .i64 ((Qi B δ).f0))) (fun _ hk=>hk.2) (.int .i64 ((Qi B δ).f1))) (fun _ hk=>hk.2) (.int .i64 ((Qi B δ).f2))) (fun _ hk=>⟨hk.1.1,hk.1.2⟩)⟩,⟨by(with_reducible repeat(first|apply Kd.Qm|apply Kd.Ql|apply Kd.Qo));exact Kd.Qs (Kd.Qu (Kd.Qu (Kd.Qu (Kd.Qy HO_114002.out μ.out (by decide)) (fun _ hk=>hk.2) (.int .i64 ((Qi B δ).f0))) (fun _ hk=>hk.2) (.int .i64 ((Qi B δ).f1))) (fun _ hk=>hk.2) (.int .i64 ((Qi B δ).f2))) (fun _ hk=>⟨hk.1.1,hk.1.2⟩)⟩,⟨bka O⟩,⟨bka ζ⟩,⟨bka L⟩,⟨bka Y⟩,⟨bel⟩⟩
          ·rw[if_neg hy] at H
           exact absurd H (by simp)
         ·rw[if_neg eg] at H
          exact absurd H (by simp)
        ·rw[if_neg ef] at H
         have c53b0:decide (δ < (B.length:Int))=false:=decide_eq_false ef
         clear ef
         simp only[Option.some.injEq,Prod.mk.injEq] at H
         obtain⟨rfl,rfl,rfl,rfl⟩:=H
         have nu:=bb.out
         have nv:=ba.out
         have nw:=az.out
         have nx:=ax.out
         have ny:=bf.out
         have nz:=bc.out
         have ms:wr.cell? ⟨η,0,none⟩=some (ν):=(Qa Y.out 0).trans rfl
         have mt:wr.cell? ⟨η,1,none⟩=some (ψ):=(Qa Y.out 1).trans rfl
         have mu:wr.cell? ⟨η,2,none⟩=some (ω):=(Qa Y.out 2).trans rfl
         have mw:=Qb Y.out 0
         have mx:=Qb Y.out 1
         have my:=Qb Y.out 2
         obtain⟨gj,gl,kt⟩:=Kd.Q6 HO_114000.out
         subst kt
         have l2:=av.out
         have l3:=au.out
         have jh:=aj.out
         have ji:=ai.out
         have jx:wr.cell? ⟨χ,0,none⟩=some (.slice none 0 0):=(Qa L.out 0).trans rfl
         have jy:wr.cell? ⟨χ,1,none⟩=some (.slice none 0 0):=(Qa L.out 1).trans rfl
         have mz:wr.cell? ⟨χ,2,none⟩=some (.slice none 0 0):=(Qa L.out 2).trans rfl
         have jz:=Qb L.out 0
         have k0:=Qb L.out 1
         have n0:=Qb L.out 2
         obtain⟨i2,i3,k5⟩:=Kd.Q6 HO_114001.out
         subst k5
         obtain⟨k6,kc,kd⟩:=Kd.Q6 HO_114002.out
         subst kd
         go_wp2
         refine bodyPost_ret (Xi rfl _ _ χ 47 #[.slice gj a0.length gl,.slice i2 ab.length i3,.slice k6 ae.length kc] (0,0) _ rfl (by refine Qx (cs:=#[.slice gj a0.length gl,.slice i2 ab.length i3,.slice none 0 0]) ?_ 2 _ rfl;refine Qx (cs:=#[.slice gj a0.length gl,.slice none 0 0,.slice none 0 0]) ?_ 1 _ rfl;refine Qx (cs:=#[.slice none 0 0,.slice none 0 0,.slice none 0 0]) ?_ 0 _ rfl;exact L.out) Try.underlying47 rfl kr) rfl ?_
         exact⟨_,_,_,by first|rfl|(simp[Q1,Q0] <;> rfl)|(simp[*,Q1,Q0] <;> rfl),by(with_reducible repeat(first|apply Kd.Qm|apply Kd.Ql|apply Kd.Qo));exact Kd.Qs (Kd.Qu (Kd.Qu (Kd.Qu (Kd.Qy HO_114000.out L.out (by decide)) (fun _ hk=>hk.2) _) (fun _ hk=>hk.2) _) (fun _ hk=>hk.2) _) (fun _ hk=>⟨hk.1.1,hk.1.2⟩),by(with_reducible repeat(first|apply Kd.Qm|apply Kd.Ql|apply Kd.Qo));exact Kd.Qs (Kd.Qu (Kd.Qu (Kd.Qu (Kd.Qy HO_114001.out L.out (by decide)) (fun _ hk=>hk.2) _) (fun _ hk=>hk.2) _) (fun _ hk=>hk.2) _) (fun _ hk=>⟨hk.1.1,hk.1.2⟩),by(with_reducible repeat(first|apply Kd.Qm|apply Kd.Ql|apply Kd.Qo));exact Kd.Qs (Kd.Qu (Kd.Qu (Kd.Qu (Kd.Qy HO_114002.out L.out (by decide)) (fun _ hk=>hk.2) _) (fun _ hk=>hk.2) _) (fun _ hk=>hk.2) _) (fun _ hk=>⟨hk.1.1,hk.1.2⟩),bel⟩
  ·replace c7:=Bool.eq_false_iff.mpr c7
   subst c7
   have H1:(some (([]:List Int),([]:List Int),([]:List Int),191))=some (r1,r2,r3,r4):=by rw[if_neg (show ¬ (false=true) by decide)] at H;exact H
   clear H
   have H:=H1
   clear H1
   simp only[Option.some.injEq,Prod.mk.injEq] at H
   obtain⟨rfl,rfl,rfl,rfl⟩:=H
   go_enter Try.func19,Try.ntmps19
   go_wp2_with (first|((with_reducible refine Qt (N:=3) rfl ?_);refine Qp ?hg (N:=3) ?hd (cs:=#[.int .i64 I,.int .i64 J]) (t:=23) ?hr ?_;(case hd=>rfl);(case hg=>rfl);(case hr=>go_simp <;> rfl);intro τ hg ip hbox hb;have O:=Aside0.mk hbox;have fl:=sGe hg;have fm:=sGe hg;replace HB:=sHb hb;clear hb hbox hg)|((with_reducible refine Qt (N:=4) rfl ?_);refine Qp ?hg (N:=4) ?hd (cs:=#[.slice Z B.length U,.slice γ D.length X]) (t:=27) ?hr ?_;(case hd=>rfl);(case hg=>rfl);(case hr=>go_simp <;> rfl);intro ac hg im hbox hb;have ζ :=Aside0.mk hbox;have hj:=sGe hg;have hl:=sGe hg;have ao:=sNl O hg;have ap:=sNg O hg;replace O:=sBk O hb;replace HB:=sHb hb;clear hb hbox hg)|((with_reducible refine Qt (N:=6) rfl ?_);refine Qp ?hg (N:=6) ?hd (cs:=#[.slice none 0 0,.slice none 0 0,.slice none 0 0]) (t:=47) ?hr ?_;(case hd=>rfl);(case hg=>rfl);(case hr=>go_simp <;> rfl);intro χ hg el hbox hb;have L:=Aside0.mk hbox;have f3:=sGe hg;have fi:=sGe hg;have au:=sNl O hg;have av:=sNg O hg;have ai:=sNl ζ hg;have aj:=sNg ζ hg;replace O:=sBk O hb;replace ζ :=sBk ζ hb;replace HB:=sHb hb;clear hb hbox hg;have ng:=ao.out;have nh:=ap.out;have ni:=au.out;have nj:=av.out;have l4:el.cell? ⟨τ,0,none⟩=some (.int .i64 I):=(Qa O.out 0).trans rfl;have l5:el.cell? ⟨τ,1,none⟩=some (.int .i64 J):=(Qa O.out 1).trans rfl;have l6:=Qb O.out 0;have l8:=Qb O.out 1;have nk:=ai.out;have nl:=aj.out;have l9:el.cell? ⟨ac,0,none⟩=some (.slice Z B.length U):=(Qa ζ.out 0).trans rfl;have lb:el.cell? ⟨ac,1,none⟩=some (.slice γ D.length X):=(Qa ζ.out 1).trans rfl;have lc:=Qb ζ.out 0;have lf:=Qb ζ.out 1)|((with_reducible refine Q2 (f:=14) rfl ?_);refine Zq (some 16) rfl rfl Try.func14 kr rfl #[.agg #[.int .i64 I,.int .i64 J],.agg #[.slice Z B.length U,.slice γ D.length X]] rfl (by simp only[List.map_toArray,List.map_cons,List.map_nil] <;> rfl) ?_;(with_reducible refine(call_Check.calls k I J _ _ B _ _ D a3 _ ?side1 ?side2 ?side3 ?side4 A4.out).mono ?_);(case side1=>exact(Kd.Qz ag.out HB.out));(case side2=>exact ar.out);(case side3=>exact(Kd.Qz ah.out HB.out));(case side4=>exact aw.out);rintro e b1 ⟨rfl,hb⟩;refine⟨_,rfl, ?_⟩;replace O:=sBk O hb;replace ζ :=sBk ζ hb;replace L:=sBk L hb;replace HB:=sHb hb;(try clear hb);(try clear a4);(try clear hk);(try clear hi);have lg:b1.cell? ⟨τ,0,none⟩=some (.int .i64 I):=(Qa O.out 0).trans rfl;have lh:b1.cell? ⟨τ,1,none⟩=some (.int .i64 J):=(Qa O.out 1).trans rfl;have ll:=Qb O.out 0;have lm:=Qb O.out 1)|((with_reducible refine Q2 (f:=41) rfl ?_);refine Zq (some 25) rfl rfl Try.func41 kr rfl #[.int .i64 a2,.int .i64 0,.int .i64 (wrap64 (J-1))] rfl (by simp only[List.map_toArray,List.map_cons,List.map_nil] <;> rfl) ?_;(with_reducible refine(call_within.calls a2 0 (wrap64 (J-1)) false _ A6.out).mono ?_);rintro e w' ⟨rfl,⟨nd,rfl⟩⟩;refine⟨_,rfl, ?_⟩;(try(rw[Gx b1];generalize hq_:World.drewN b1 _=b1;have ε :Aside0 (b1.heap[τ]?=some (.cells #[.int .i64 I,.int .i64 J] 23 (0,0))):=⟨by rw[← hq_];exact O.out⟩;have θ :Aside0 (b1.heap[ac]?=some (.cells #[.slice Z B.length U,.slice γ D.length X] 27 (0,0))):=⟨by rw[← hq_];exact ζ.out⟩;have ι :Aside0 (b1.heap[χ]?=some (.cells #[.slice none 0 0,.slice none 0 0,.slice none 0 0] 47 (0,0))):=⟨by rw[← hq_];exact L.out⟩;have κ :Aside0 (Below w.heap.size w b1):=⟨by rw[← hq_];exact HB.out⟩;clear O ζ L HB hq_;have O:= ε;have ζ := θ;have L:= ι;have HB:= κ;clear ε θ ι κ));(try(have ln:b1.cell? ⟨τ,0,none⟩=some (.int .i64 I):=(Qa O.out 0).trans rfl));(try(have lp:b1.cell? ⟨τ,1,none⟩=some (.int .i64 J):=(Qa O.out 1).trans rfl));(try(have lq:=Qb O.out 0));(try(have lr:=Qb O.out 1));have ls:b1.cell? ⟨χ,0,none⟩=some (.slice none 0 0):=(Qa L.out 0).trans rfl;have lu:b1.cell? ⟨χ,1,none⟩=some (.slice none 0 0):=(Qa L.out 1).trans rfl;have lv:b1.cell? ⟨χ,2,none⟩=some (.slice none 0 0):=(Qa L.out 2).trans rfl;have lw:=Qb L.out 0;have lx:=Qb L.out 1;have ly:=Qb L.out 2))
   refine bodyPost_ret (Xi rfl _ _ χ 47 #[.slice none 0 0,.slice none 0 0,.slice none 0 0] (0,0) _ rfl (by refine Qx (cs:=#[.slice none 0 0,.slice none 0 0,.slice none 0 0]) ?_ 2 _ rfl;refine Qx (cs:=#[.slice none 0 0,.slice none 0 0,.slice none 0 0]) ?_ 1 _ rfl;refine Qx (cs:=#[.slice none 0 0,.slice none 0 0,.slice none 0 0]) ?_ 0 _ rfl;exact L.out) Try.underlying47 rfl kr) rfl ?_
   exact⟨_,_,_,by first|rfl|(simp[Q1,Q0] <;> rfl)|(simp[*,Q1,Q0] <;> rfl),by first|exact Kd.Yd _ _ _ _ _|exact Kd.Je _ _ _ _ _|exact Kd.Jb _ _ _ _ _|exact Kd.Jd _ _ _ _ _|exact Kd.Jc _ _ _ _ _,by first|exact Kd.Yd _ _ _ _ _|exact Kd.Je _ _ _ _ _|exact Kd.Jb _ _ _ _ _|exact Kd.Jd _ _ _ _ _|exact Kd.Jc _ _ _ _ _,by first|exact Kd.Yd _ _ _ _ _|exact Kd.Je _ _ _ _ _|exact Kd.Jb _ _ _ _ _|exact Kd.Jd _ _ _ _ _|exact Kd.Jc _ _ _ _ _,bel⟩
 ·rw[if_neg c5] at H
  have c5b0:(a3==0)=false:=beq_eq_false_iff_ne.mpr c5
  have c5b1:(a3 != 0)=true:=bne_iff_ne.mpr c5
  simp only[Option.some.injEq,Prod.mk.injEq] at H
  obtain⟨rfl,rfl,rfl,rfl⟩:=H
  go_enter Try.func19,Try.ntmps19
  go_wp2_with (first|((with_reducible refine Qt (N:=3) rfl ?_);refine Qp ?hg (N:=3) ?hd (cs:=#[.int .i64 I,.int .i64 J]) (t:=23) ?hr ?_;(case hd=>rfl);(case hg=>rfl);(case hr=>go_simp <;> rfl);intro τ hg lz hbox hb;have O:=Aside0.mk hbox;have fl:=sGe hg;have fm:=sGe hg;replace HB:=sHb hb;clear hb hbox hg)|((with_reducible refine Qt (N:=4) rfl ?_);refine Qp ?hg (N:=4) ?hd (cs:=#[.slice Z B.length U,.slice γ D.length X]) (t:=27) ?hr ?_;(case hd=>rfl);(case hg=>rfl);(case hr=>go_simp <;> rfl);intro ac hg m0 hbox hb;have ζ :=Aside0.mk hbox;have hj:=sGe hg;have hl:=sGe hg;have ao:=sNl O hg;have ap:=sNg O hg;replace O:=sBk O hb;replace HB:=sHb hb;clear hb hbox hg)|((with_reducible refine Qt (N:=6) rfl ?_);refine Qp ?hg (N:=6) ?hd (cs:=#[.slice none 0 0,.slice none 0 0,.slice none 0 0]) (t:=47) ?hr ?_;(case hd=>rfl);(case hg=>rfl);(case hr=>go_simp <;> rfl);intro χ hg fe hbox hb;have L:=Aside0.mk hbox;have f3:=sGe hg;have fi:=sGe hg;have au:=sNl O hg;have av:=sNg O hg;have ai:=sNl ζ hg;have aj:=sNg ζ hg;replace O:=sBk O hb;replace ζ :=sBk ζ hb;replace HB:=sHb hb;clear hb hbox hg;have k8:=ao.out;have k9:=ap.out;have ka:=au.out;have kb:=av.out;have iq:fe.cell? ⟨τ,0,none⟩=some (.int .i64 I):=(Qa O.out 0).trans rfl;have ir:fe.cell? ⟨τ,1,none⟩=some (.int .i64 J):=(Qa O.out 1).trans rfl;have it:=Qb O.out 0;have iu:=Qb O.out 1;have j5:=ai.out;have j6:=aj.out;have gn:fe.cell? ⟨ac,0,none⟩=some (.slice Z B.length U):=(Qa ζ.out 0).trans rfl;have gx:fe.cell? ⟨ac,1,none⟩=some (.slice γ D.length X):=(Qa ζ.out 1).trans rfl;have gy:=Qb ζ.out 0;have gz:=Qb ζ.out 1)|((with_reducible refine Q2 (f:=14) rfl ?_);refine Zq (some 16) rfl rfl Try.func14 kr rfl #[.agg #[.int .i64 I,.int .i64 J],.agg #[.slice Z B.length U,.slice γ D.length X]] rfl (by simp only[List.map_toArray,List.map_cons,List.map_nil] <;> rfl) ?_;(with_reducible refine(call_Check.calls k I J _ _ B _ _ D a3 _ ?side1 ?side2 ?side3 ?side4 A4.out).mono ?_);(case side1=>exact(Kd.Qz ag.out HB.out));(case side2=>exact ar.out);(case side3=>exact(Kd.Qz ah.out HB.out));(case side4=>exact aw.out);rintro e g6 ⟨rfl,hb⟩;refine⟨_,rfl, ?_⟩;replace O:=sBk O hb;replace ζ :=sBk ζ hb;replace L:=sBk L hb;replace HB:=sHb hb;(try clear hb);(try clear a4);(try clear hk);(try clear hi);have m1:g6.cell? ⟨χ,0,none⟩=some (.slice none 0 0):=(Qa L.out 0).trans rfl;have m2:g6.cell? ⟨χ,1,none⟩=some (.slice none 0 0):=(Qa L.out 1).trans rfl;have m3:g6.cell? ⟨χ,2,none⟩=some (.slice none 0 0):=(Qa L.out 2).trans rfl;have m4:=Qb L.out 0;have m5:=Qb L.out 1;have m6:=Qb L.out 2))
  refine bodyPost_ret (Xi rfl _ _ χ 47 #[.slice none 0 0,.slice none 0 0,.slice none 0 0] (0,0) _ rfl (by refine Qx (cs:=#[.slice none 0 0,.slice none 0 0,.slice none 0 0]) ?_ 2 _ rfl;refine Qx (cs:=#[.slice none 0 0,.slice none 0 0,.slice none 0 0]) ?_ 1 _ rfl;refine Qx (cs:=#[.slice none 0 0,.slice none 0 0,.slice none 0 0]) ?_ 0 _ rfl;exact L.out) Try.underlying47 rfl kr) rfl ?_
  exact⟨_,_,_,by first|rfl|(simp[Q1,Q0] <;> rfl)|(simp[*,Q1,Q0] <;> rfl),by first|exact Kd.Yd _ _ _ _ _|exact Kd.Je _ _ _ _ _|exact Kd.Jb _ _ _ _ _|exact Kd.Jd _ _ _ _ _|exact Kd.Jc _ _ _ _ _,by first|exact Kd.Yd _ _ _ _ _|exact Kd.Je _ _ _ _ _|exact Kd.Jb _ _ _ _ _|exact Kd.Jd _ _ _ _ _|exact Kd.Jc _ _ _ _ _,by first|exact Kd.Yd _ _ _ _ _|exact Kd.Je _ _ _ _ _|exact Kd.Jb _ _ _ _ _|exact Kd.Jd _ _ _ _ _|exact Kd.Jc _ _ _ _ _,bel⟩
end Go.Proofs.Ytjehhhlhalkieaa.C
namespace Go.Proofs.Ytjehhhlhalkieaa.C
open Go.RowKit Go.Proofs.YtjehhhlhalkieaaW.PrintWords Go.Proofs.YtjehhhlhalkieaaW.PrintLast Go.Proofs.YtjehhhlhalkieaaW.PrintMore
attribute [local go_sem] Zk Zi Zt Zs Zd Zc Zj Zh
set_option linter.unusedVariables false
set_option linter.unusedSimpArgs false
def call_Serve.f (k:Nat) (I:Int) (J:Int) (B:List (S56)) (D:List (S62)) (ζ :Int) (L:Int) (η :Int):Option ((List (S56))×(List (S62))×Int):=(insP.f ζ L I J).bind fun bd=>(if bd=true then ((call_within.f η (-1) 1).bind fun φ =>((call_change.f (woP_H.f L η 0 B) (woP_I.f ζ L D) k I J B D φ 0 L η 0 0 ζ L).bind fun a8=>(some (a8.1,a8.2.1,a8.2.2)))) else ((call_change.f (woP_H.f L η 0 B) (woP_I.f ζ L D) k I J B D false 0 L η 0 0 ζ L).bind fun a9=>(some (a9.1,a9.2.1,a9.2.2))))
theorem call_Serve.mono:∀ I D a2 a3 J a5 L k,LeO (call_Serve.f k I D a2 a3 J a5 L) (call_Serve.f (k+1) I D a2 a3 J a5 L):=by
 intro I D a2 a3 J a5 L k
 unfold call_Serve.f
 repeat' first
   |(with_reducible exact call_change.mono _ _ _ _ _ _ _ _ _ _ _ _ _ _ _)
   |(with_reducible exact LeO.refl _)
   |(with_reducible exact LeO.none _)
   |(with_reducible refine LeO.ite ?_ ?_)
   |(with_reducible refine LeO.bind ?_ (fun _=>?_))
   |exact call_change.mono _ _ _ _ _ _ _ _ _ _ _ _ _ _ _
   |exact LeO.none _
   |refine LeO.ite ?_ ?_
   |refine LeO.bind ?_ (fun _=>?_)
def call_Serve.T2:Bool×List (List Nat×List Nat):=(true,[([],[]),([],[]),([],[]),([2],[2]),([],[]),([3,4,3],[3,4]),([5,5],[5]),([6],[6]),([7,6],[6,7]),([8,6,6],[6,8]),([6,9],[6,9]),([],[]),([11,9],[11]),([12],[12]),([],[]),([14],[14]),([],[]),([16],[16]),([15,17],[15,17]),([],[]),([19,12],[19]),([20],[20]),([],[]),([0,1,10,13,18,21,22,20],[0,1,10,13,18,21,22]),([23],[23]),([23],[23]),([24,23,0,1,2,3,4,5,6,7,8,9,10,11,12,13,14,15,16,17,18,19,20,21,22,23,24,25],[24]),([25,26,0,1,2,3,4,5,6,7,8,9,10,11,12,13,14,15,16,17,18,19,20,21,22,23,24,25,26],[25])])
def call_Serve.B2:List Nat:=[0,0,0,4,0,28,60,124,252,508,1020,0,3068,7164,0,16384,0,65536,245760,0,531452,1580028,0,8388607,16777215,16777215,67108863,134217727]
theorem call_Serve.tab2:rtab .any (opsOf Try.f18 2)=call_Serve.T2:=by kernel_rfl
theorem call_Serve.Ns:Zx call_Serve.T2.2 call_Serve.B2=true:=by kernel_rfl
set_option maxHeartbeats 8000000 in
set_option maxRecDepth 100000 in
theorem call_Serve.calls (k:Nat) (I:Int) (J:Int) (Z:Option Addr) (U:Nat) (B:List (S56)) (γ:Option Addr) (X:Nat) (D:List (S62)) (ζ :Int) (L:Int) (η :Int) (r1:List (S56)) (r2:List (S62)) (r3:Int) (w:World) (b5:Kd.C k56 w Z B.length B) (b6:B.length≤U) (b7:Kd.C k62 w γ D.length D) (b8:D.length≤X) (h:call_Serve.f k I J B D ζ L η = some (r1,r2,r3)):
  Calls Try.prog 18 #[.agg #[.int .i64 I,.int .i64 J],.agg #[.slice Z B.length U,.slice γ D.length X],.agg #[.int .i64 ζ,.int .i64 L,.int .i64 η]] w fun e w'=>∃ a6 b9:Value,e = .returned (.tuple #[.agg #[a6,b9],.int .i64 r3])∧Kd.R k56 56 w' w.heap.size (fun _=>True) a6 r1∧Kd.R k62 62 w' w.heap.size (fun _=>True) b9 r2∧Below w.heap.size w w':=by
 have dx:=Try.underlying23
 have db:=Try.underlying27
 have ge:=Try.underlying43
 have be:=Try.underlying62
 have bu:=Try.underlying56
 have ag:=Aside0.mk b5
 have ar:=Aside0.mk b6
 clear b5 b6
 have ah:=Aside0.mk b7
 have aw:=Aside0.mk b8
 clear b7 b8
 have HB:=Aside0.mk (Below.refl w.heap.size w)
 have H:((insP.f ζ L I J).bind fun bd=>(if bd=true then ((call_within.f η (-1) 1).bind fun φ =>((call_change.f (woP_H.f L η 0 B) (woP_I.f ζ L D) k I J B D φ 0 L η 0 0 ζ L).bind fun a8=>(some (a8.1,a8.2.1,a8.2.2)))) else ((call_change.f (woP_H.f L η 0 B) (woP_I.f ζ L D) k I J B D false 0 L η 0 0 ζ L).bind fun a9=>(some (a9.1,a9.2.1,a9.2.2)))))=some (r1,r2,r3):=h
 clear h
 replace H:=Option.bind_eq_some_iff.mp H
 obtain⟨bd,bz,H⟩:=H
 replace H:(if bd=true then ((call_within.f η (-1) 1).bind fun φ =>((call_change.f (woP_H.f L η 0 B) (woP_I.f ζ L D) k I J B D φ 0 L η 0 0 ζ L).bind fun a8=>(some (a8.1,a8.2.1,a8.2.2)))) else ((call_change.f (woP_H.f L η 0 B) (woP_I.f ζ L D) k I J B D false 0 L η 0 0 ζ L).bind fun a9=>(some (a9.1,a9.2.1,a9.2.2))))=some (r1,r2,r3):=H
 have A4:=Aside0.mk bz
 clear bz
 by_cases c5:bd=true
 ·subst c5
  have H1:((call_within.f η (-1) 1).bind fun φ =>((call_change.f (woP_H.f L η 0 B) (woP_I.f ζ L D) k I J B D φ 0 L η 0 0 ζ L).bind fun a8=>(some (a8.1,a8.2.1,a8.2.2))))=some (r1,r2,r3):=by rw[if_pos rfl] at H;exact H
  clear H
  have H:=H1
  clear H1
  replace H:=Option.bind_eq_some_iff.mp H
  obtain⟨φ,d8,H⟩:=H
  replace H:((call_change.f (woP_H.f L η 0 B) (woP_I.f ζ L D) k I J B D φ 0 L η 0 0 ζ L).bind fun a8=>(some (a8.1,a8.2.1,a8.2.2)))=some (r1,r2,r3):=H
  have A6:=Aside0.mk d8
  clear d8
  replace H:=Option.bind_eq_some_iff.mp H
  obtain⟨⟨bg,au,co⟩,g7,H⟩:=H
  replace H:(some (bg,au,co))=some (r1,r2,r3):=H
  have A7:=Aside0.mk g7
  clear g7
  simp only[Option.some.injEq,Prod.mk.injEq] at H
  obtain⟨rfl,rfl,rfl⟩:=H
  go_enter Try.func18,Try.ntmps18
  try go_wp2_with (first|((with_reducible refine Qt (N:=3) rfl ?_);refine Qp ?hg (N:=3) ?hd (cs:=#[.int .i64 I,.int .i64 J]) (t:=23) ?hr ?_;(case hd=>rfl);(case hg=>rfl);(case hr=>go_simp <;> rfl);intro a1 hg w8 hbox hb;have Y:=Aside0.mk hbox;have bo:=sGe hg;have bv:=sGe hg;replace HB:=sHb hb;clear hb hbox hg)|((with_reducible refine Qt (N:=4) rfl ?_);refine Qp ?hg (N:=4) ?hd (cs:=#[.slice Z B.length U,.slice γ D.length X]) (t:=27) ?hr ?_;(case hd=>rfl);(case hg=>rfl);(case hr=>go_simp <;> rfl);intro ao hg w9 hbox hb;have ν :=Aside0.mk hbox;have d0:=sGe hg;have d1:=sGe hg;have bj:=sNl Y hg;have bn:=sNg Y hg;replace Y:=sBk Y hb;replace HB:=sHb hb;clear hb hbox hg)|((with_reducible refine Qt (N:=5) rfl ?_);refine Qp ?hg (N:=5) ?hd (cs:=#[.int .i64 ζ,.int .i64 L,.int .i64 η]) (t:=43) ?hr ?_;(case hd=>rfl);(case hg=>rfl);(case hr=>go_simp <;> rfl);intro af hg ci hbox hb;have O:=Aside0.mk hbox;have d2:=sGe hg;have d3:=sGe hg;have av:=sNl Y hg;have ax:=sNg Y hg;have az:=sNl ν hg;have b0:=sNg ν hg;replace Y:=sBk Y hb;replace ν :=sBk ν hb;replace HB:=sHb hb;clear hb hbox hg)|((with_reducible refine Qt (N:=6) rfl ?_);refine Qp ?hg (N:=6) ?hd (cs:=#[.slice none 0 0,.slice none 0 0]) (t:=27) ?hr ?_;(case hd=>rfl);(case hg=>rfl);(case hr=>go_simp <;> rfl);intro ξ hg bw hbox hb;have μ :=Aside0.mk hbox;have eo:=sGe hg;have ep:=sGe hg;have a3:=sNl Y hg;have am:=sNg Y hg;have a5:=sNl ν hg;have an:=sNg ν hg;have σ:=sNl O hg;have aj:=sNg O hg;replace Y:=sBk Y hb;replace ν :=sBk ν hb;replace O:=sBk O hb;replace HB:=sHb hb;clear hb hbox hg;have ea:=ax.out;have eb:=av.out;have cb:=b0.out;have cg:=az.out;have ik:=σ.out;have il:=aj.out;have cq:bw.cell? ⟨af,0,none⟩=some (.int .i64 ζ):=(Qa O.out 0).trans rfl;have cr:bw.cell? ⟨af,1,none⟩=some (.int .i64 L):=(Qa O.out 1).trans rfl;have d4:bw.cell? ⟨af,2,none⟩=some (.int .i64 η):=(Qa O.out 2).trans rfl;have ct:=Qb O.out 0;have cu:=Qb O.out 1;have d5:=Qb O.out 2)|((with_reducible refine Qt (N:=8) rfl ?_);refine Qp ?hg (N:=8) ?hd (cs:=#[.int .i64 0,.int .i64 0]) (t:=62) ?hr ?_;(case hd=>rfl);(case hg=>rfl);(case hr=>go_simp <;> rfl);intro ρ hg aa hbox hb;have δ :=Aside0.mk hbox;have bp:=sGe hg;have bs:=sGe hg;have b1:=sNl Y hg;have b2:=sNg Y hg;have b3:=sNl ν hg;have b4:=sNg ν hg;have bb:=sNl O hg;have bc:=sNg O hg;have ak:=sNl μ hg;have a2:=sNg μ hg;replace Y:=sBk Y hb;replace ν :=sBk ν hb;replace O:=sBk O hb;replace μ :=sBk μ hb;replace HB:=sHb hb;clear hb hbox hg;have dk:=b2.out;have dl:=b1.out;have ca:=b4.out;have ce:=b3.out;have bl:=bc.out;have dh:=bb.out;have ec:=a2.out;have ed:=ak.out;have cy:aa.cell? ⟨ρ,0,none⟩=some (.int .i64 0):=(Qa δ.out 0).trans rfl;have d6:aa.cell? ⟨ρ,1,none⟩=some (.int .i64 0):=(Qa δ.out 1).trans rfl;have di:=Qb δ.out 0;have dj:=Qb δ.out 1))
  have ε :Aside0 (((aa.setCell ⟨ρ,0,none⟩ (.int .i64 ζ)).setCell ⟨ρ,1,none⟩ (.int .i64 L)).heap[a1]?=some (.cells #[.int .i64 I,.int .i64 J] 23 (0,0))):=⟨bka Y⟩
  have θ :Aside0 (((aa.setCell ⟨ρ,0,none⟩ (.int .i64 ζ)).setCell ⟨ρ,1,none⟩ (.int .i64 L)).heap[ao]?=some (.cells #[.slice Z B.length U,.slice γ D.length X] 27 (0,0))):=⟨bka ν⟩
  have ι :Aside0 (((aa.setCell ⟨ρ,0,none⟩ (.int .i64 ζ)).setCell ⟨ρ,1,none⟩ (.int .i64 L)).heap[af]?=some (.cells #[.int .i64 ζ,.int .i64 L,.int .i64 η] 43 (0,0))):=⟨bka O⟩
  have κ :Aside0 (((aa.setCell ⟨ρ,0,none⟩ (.int .i64 ζ)).setCell ⟨ρ,1,none⟩ (.int .i64 L)).heap[ξ]?=some (.cells #[.slice none 0 0,.slice none 0 0] 27 (0,0))):=⟨bka μ⟩
  have τ :Aside0 (((aa.setCell ⟨ρ,0,none⟩ (.int .i64 ζ)).setCell ⟨ρ,1,none⟩ (.int .i64 L)).heap[ρ]?=some (.cells #[.int .i64 ζ,.int .i64 L] 62 (0,0))):=⟨by refine Qx (cs:=#[.int .i64 ζ,.int .i64 0]) ?_ 1 _ rfl;refine Qx (cs:=#[.int .i64 0,.int .i64 0]) ?_ 0 _ rfl;exact δ.out⟩
  have ψ :Aside0 (Below w.heap.size w ((aa.setCell ⟨ρ,0,none⟩ (.int .i64 ζ)).setCell ⟨ρ,1,none⟩ (.int .i64 L))):=⟨bel⟩
  (try clear Y)
  (try clear ν)
  (try clear O)
  (try clear μ)
  (try clear δ)
  (try clear HB)
  generalize((aa.setCell ⟨ρ,0,none⟩ (.int .i64 ζ)).setCell ⟨ρ,1,none⟩ (.int .i64 L))=dt at ε θ ι κ τ ψ ⊢
  have Y:= ε
  have ν := θ
  have O:= ι
  have μ := κ
  have δ := τ
  have HB:= ψ
  clear ε θ ι κ τ ψ
  replace Y:=Aside0.mk (Qc Y.out)
  replace ν :=Aside0.mk (Qc ν.out)
  replace O:=Aside0.mk (Qc O.out)
  replace μ :=Aside0.mk (Qc μ.out)
  replace δ :=Aside0.mk (Qc δ.out)
  replace HB:=Aside0.mk (Qh HB.out)
  refine Zv (n:=28) (S:=fun w'=>w'.cell? ⟨a1,0,none⟩=some (.int .i64 I)∧w'.cell? ⟨a1,1,none⟩=some (.int .i64 J)∧w'.cell? ⟨ao,0,none⟩=some (.slice Z B.length U)∧w'.cell? ⟨ao,1,none⟩=some (.slice γ D.length X)∧w'.cell? ⟨ρ,0,none⟩=some (.int .i64 ζ)∧w'.cell? ⟨ρ,1,none⟩=some (.int .i64 L)∧w'.cell? ⟨af,0,none⟩=some (.int .i64 ζ)∧w'.cell? ⟨af,1,none⟩=some (.int .i64 L)∧w'.cell? ⟨af,2,none⟩=some (.int .i64 η)) (ds:=[]) #[false,false,false,false,false,false,false,false,false,false,false,false,false,false,false,false,false,false,false,false,false,false,false,false,false,false,false,false] kr rfl rfl ⟨(Qa Y.out 0).trans rfl,(Qa Y.out 1).trans rfl,(Qa ν.out 0).trans rfl,(Qa ν.out 1).trans rfl,(Qa δ.out 0).trans rfl,(Qa δ.out 1).trans rfl,(Qa O.out 0).trans rfl,(Qa O.out 1).trans rfl,(Qa O.out 2).trans rfl⟩ (fun hHeld=>?_);refine Q8 call_Serve.tab2 call_Serve.Ns (fun HT_ HW_=>?_)
  generalize dt.drew=cd at Y ν O μ δ HB hHeld ⊢
  refine qP 14 (some 28) (bN 28 16384) HT_ ?_
  refine qP 16 (some 30) (bN 28 81920) HT_ ?_
  refine qT 0 (some 14) (bN 28 81921) HT_ HW_ hHeld ?_
  refine qT 1 (some 15) (bN 28 81923) HT_ HW_ hHeld ?_
  refine qT 2 (some 16) (bN 28 81927) HT_ HW_ hHeld ?_
  refine qT 4 (some 18) (bN 28 81943) HT_ HW_ hHeld ?_
  refine qT 11 (some 25) (bN 28 83991) HT_ HW_ hHeld ?_
  refine qT 15 (some 29) (bN 28 116759) HT_ HW_ hHeld ?_
  refine qT 17 (some 31) (bN 28 247831) HT_ HW_ hHeld ?_
  refine qP 18 (some 32) (bN 28 509975) HT_ ?_
  refine qT 19 (some 33) (bN 28 1034263) HT_ HW_ hHeld ?_
  refine qT 22 (some 36) (bN 28 5228567) HT_ HW_ hHeld ?_
  refine Zm (i:=3) (N:=some 17) (bN 28 5228575) rfl rfl (Q3 HT_.out kr) (by decide) (fun K hK=>?_)
  refine Zg Try.func29 kr rfl #[.agg #[.int .i64 I,.int .i64 J]] (by rfl) rfl rfl (by(try simp only[List.map_toArray,List.map_cons,List.map_nil]);first|done|rfl) ?_
  refine(Y9 I J _).mono ?_
  rintro e e6 ⟨ba,rfl,hgp,hgw,hb⟩
  have br:=Aside0.mk hgp
  clear hgp hgw
  refine⟨_,rfl, ?_⟩
  replace Y:=sBk Y hb
  replace ν :=sBk ν hb
  replace O:=sBk O hb
  replace μ :=sBk μ hb
  replace δ :=sBk δ hb
  replace HB:=sHb hb
  (try clear hb)
  (try clear a4)
  (try clear hk)
  (try clear hi)
  refine hK.out _ _ ⟨(Qa Y.out 0).trans rfl,(Qa Y.out 1).trans rfl,(Qa ν.out 0).trans rfl,(Qa ν.out 1).trans rfl,(Qa δ.out 0).trans rfl,(Qa δ.out 1).trans rfl,(Qa O.out 0).trans rfl,(Qa O.out 1).trans rfl,(Qa O.out 2).trans rfl⟩ (fun hHeld=>?_)
  clear hK K
  refine qN (some 17) ?_
  refine Zm (i:=5) (N:=some 19) (bN 28 5228607) rfl rfl (Q3 HT_.out kr) (by decide) (fun K hK=>?_)
  refine Xm Try.func50 kr rfl #[] #[.pointer (some ⟨ba,0,none⟩)] #[.agg #[.int .i64 ζ,.int .i64 L]] #[.agg #[.int .i64 ζ,.int .i64 L],.pointer (some ⟨ba,0,none⟩)] rfl (by rfl) rfl rfl rfl (by simp only[List.map_toArray,List.map_cons,List.map_nil] <;> rfl) ?_
  refine(Yv I J ζ L true _ (Option.some.inj A4.out) ba br.out).mono ?_
  rintro e bm ⟨rfl,hb⟩
  refine⟨_,rfl, ?_⟩
  replace Y:=sBk Y hb
  replace ν :=sBk ν hb
  replace O:=sBk O hb
  replace μ :=sBk μ hb
  replace δ :=sBk δ hb
  replace HB:=sHb hb
  (try clear hb)
  (try clear a4)
  (try clear hk)
  (try clear hi)
  refine hK.out _ _ ⟨(Qa Y.out 0).trans rfl,(Qa Y.out 1).trans rfl,(Qa ν.out 0).trans rfl,(Qa ν.out 1).trans rfl,(Qa δ.out 0).trans rfl,(Qa δ.out 1).trans rfl,(Qa O.out 0).trans rfl,(Qa O.out 1).trans rfl,(Qa O.out 2).trans rfl⟩ (fun hHeld=>?_)
  clear hK K
  refine qN (some 19) ?_
  refine qP 6 (some 20) (bN 28 5228671) HT_ ?_
  refine qP 7 (some 21) (bN 28 5228799) HT_ ?_
  refine qT 8 (some 22) (bN 28 5229055) HT_ HW_ hHeld ?_
  refine Zm (i:=9) (N:=some 23) (bN 28 5229567) rfl rfl (Q3 HT_.out kr) (by decide) (fun K hK=>?_)
  refine Zg Try.func41 kr rfl #[.int .i64 η,.int .i64 (-1),.int .i64 1] (by rfl) rfl rfl (by simp only[List.map_toArray,List.map_cons,List.map_nil] <;> rfl) ?_
  with_reducible refine(call_within.calls η (-1) 1 φ _ A6.out).mono ?_
  rintro e w' ⟨rfl,⟨nd,rfl⟩⟩
  refine⟨_,rfl, ?_⟩
  refine hK.out _ _ ⟨(Qa Y.out 0).trans rfl,(Qa Y.out 1).trans rfl,(Qa ν.out 0).trans rfl,(Qa ν.out 1).trans rfl,(Qa δ.out 0).trans rfl,(Qa δ.out 1).trans rfl,(Qa O.out 0).trans rfl,(Qa O.out 1).trans rfl,(Qa O.out 2).trans rfl⟩ (fun hHeld=>?_)
  clear hK K
  refine qN (some 23) ?_
  refine qP 10 (some 24) (bN 28 5230591) HT_ ?_
  refine Zm (i:=12) (N:=some 26) (bN 28 5234687) rfl rfl (Q3 HT_.out kr) (by decide) (fun K hK=>?_)
  refine Zg Try.func30 kr rfl #[.agg #[.slice Z B.length U,.slice γ D.length X]] (by rfl) rfl rfl (by(try simp only[List.map_toArray,List.map_cons,List.map_nil]);first|done|rfl) ?_
  refine(Yb Z γ B.length D.length U X _).mono ?_
  rintro e e7 ⟨rfl,hb⟩
  refine⟨_,rfl, ?_⟩
  replace Y:=sBk Y hb
  replace ν :=sBk ν hb
  replace O:=sBk O hb
  replace μ :=sBk μ hb
  replace δ :=sBk δ hb
  replace HB:=sHb hb
  (try clear hb)
  (try clear a4)
  (try clear hk)
  (try clear hi)
  refine hK.out _ _ ⟨(Qa Y.out 0).trans rfl,(Qa Y.out 1).trans rfl,(Qa ν.out 0).trans rfl,(Qa ν.out 1).trans rfl,(Qa δ.out 0).trans rfl,(Qa δ.out 1).trans rfl,(Qa O.out 0).trans rfl,(Qa O.out 1).trans rfl,(Qa O.out 2).trans rfl⟩ (fun hHeld=>?_)
  clear hK K
  refine qN (some 26) ?_
  refine qP 13 (some 27) (bN 28 5242879) HT_ ?_
  refine Zm (i:=20) (N:=some 34) (bN 28 6291455) rfl rfl (Q3 HT_.out kr) (by decide) (fun K hK=>?_)
  refine Zg Try.func32 kr rfl #[.agg #[.slice Z B.length U,.slice γ D.length X]] (by rfl) rfl rfl (by(try simp only[List.map_toArray,List.map_cons,List.map_nil]);first|done|rfl) ?_
  refine(Yi Z γ B.length D.length U X _).mono ?_
  rintro e e8 ⟨rfl,hb⟩
  refine⟨_,rfl, ?_⟩
  replace Y:=sBk Y hb
  replace ν :=sBk ν hb
  replace O:=sBk O hb
  replace μ :=sBk μ hb
  replace δ :=sBk δ hb
  replace HB:=sHb hb
  (try clear hb)
  (try clear a4)
  (try clear hk)
  (try clear hi)
  refine hK.out _ _ ⟨(Qa Y.out 0).trans rfl,(Qa Y.out 1).trans rfl,(Qa ν.out 0).trans rfl,(Qa ν.out 1).trans rfl,(Qa δ.out 0).trans rfl,(Qa δ.out 1).trans rfl,(Qa O.out 0).trans rfl,(Qa O.out 1).trans rfl,(Qa O.out 2).trans rfl⟩ (fun hHeld=>?_)
  clear hK K
  refine qN (some 34) ?_
  refine qP 21 (some 35) (bN 28 8388607) HT_ ?_
  refine Zm (i:=23) (N:=some 37) (bN 28 16777215) rfl rfl (Q3 HT_.out kr) (by decide) (fun K hK=>?_)
  refine Zg Try.func28 kr rfl #[.agg #[.int .i64 I,.int .i64 J],.agg #[.slice Z B.length U,.slice γ D.length X],.bool φ,.func (.func 31) #[.agg #[.slice Z B.length U,.func (.func 51) #[] #[]]] #[],.agg #[.int .i64 L,.int .i64 η,.int .i64 0],.func (.func 36) #[.agg #[.slice γ D.length X,.func (.func 57) #[] #[]]] #[],.agg #[.int .i64 ζ,.int .i64 L]] (by rfl) rfl rfl (by simp only[List.map_toArray,List.map_cons,List.map_nil] <;> rfl) ?_
  refine(call_change.calls _ _ k I J Z U B γ X D φ 0 L η 0 0 ζ L bg au co _ ?side1 ?side2 ?side3 ?side4 A7.out 31 Try.f31 (.agg #[.slice Z B.length U,.func (.func 51) #[] #[]]) Try.func31 kr rfl (fun W t ht hb=>Ju Z U B _ _ _ t W (Kd.Qz (Kd.Qz ag.out (by repeat(first|(with_reducible first|exact HB.out|apply Qj|apply Qd|apply Qh)|exact HB.out|(refine Qe ?_ (Aside0.out (by assumption)))))) hb) ar.out ht) 36 Try.f36 (.agg #[.slice γ D.length X,.func (.func 57) #[] #[]]) Try.func36 kr rfl (fun W t ht hb=>Y5 γ X D _ _ t W (Kd.Qz (Kd.Qz ah.out (by repeat(first|(with_reducible first|exact HB.out|apply Qj|apply Qd|apply Qh)|exact HB.out|(refine Qe ?_ (Aside0.out (by assumption)))))) hb) aw.out ht)).mono ?_
  (case side1=>exact(Kd.Qz ag.out HB.out))
  (case side2=>exact ar.out)
  (case side3=>exact(Kd.Qz ah.out HB.out))
  (case side4=>exact aw.out)
  rintro e cj ⟨kn,ft,rfl,χ,a7,hb⟩
  refine⟨_,rfl, ?_⟩
  have dp:=Aside0.mk (Kd.Q4 χ (Qk HB.out))
  have ck:=Aside0.mk (Kd.Q4 (Kd.Zy a7 (g:=ρ) (o:=.cells #[.int .i64 ζ,.int .i64 L] 62 (0,0)) δ.out) (Qk HB.out))
  replace Y:=sBk Y hb
  replace ν :=sBk ν hb
  replace O:=sBk O hb
  replace μ :=sBk μ hb
  replace δ :=sBk δ hb
  replace HB:=sHb hb
  (try clear hb)
  (try clear a4)
  (try clear hk)
  (try clear hi)
  (try clear χ)
  (try clear a7)
  obtain⟨cp,cv,cw⟩:=Kd.Q6 dp.out
  (first|subst cw|(injection cw with ω ab a0;have ac:= ω.symm;have ae:=a0.symm;clear ω ab a0;subst ac;subst ae))
  obtain⟨ap,ay,bk⟩:=Kd.Q6 ck.out
  (first|subst bk|(injection bk with ω ab a0;have ac:= ω.symm;have ae:=a0.symm;clear ω ab a0;subst ac;subst ae))
  refine hK.out _ _ ⟨(Qa Y.out 0).trans rfl,(Qa Y.out 1).trans rfl,(Qa ν.out 0).trans rfl,(Qa ν.out 1).trans rfl,(Qa δ.out 0).trans rfl,(Qa δ.out 1).trans rfl,(Qa O.out 0).trans rfl,(Qa O.out 1).trans rfl,(Qa O.out 2).trans rfl⟩ (fun hHeld=>?_)
  clear hK K
  refine qN (some 37) ?_
  refine qP 24 (some 38) (bN 28 33554431) HT_ ?_
  refine qP 25 (some 39) (bN 28 67108863) HT_ ?_
  refine Zm (i:=26) (N:=none) (bN 28 134217727) rfl rfl (Q3 HT_.out kr) (by decide) (fun K hK=>?_)
  have fu:cj.cell? ⟨ξ,0,none⟩=some (.slice none 0 0):=(Qa μ.out 0).trans rfl
  have fo:=Qb μ.out 0
  have d7:=a3.out
  have d9:=a5.out
  have da:=σ.out
  have df:=a2.out
  have dm:=am.out
  have dn:=an.out
  have dw:=aj.out
  have dy:=ak.out
  have fv:cj.cell? ⟨ξ,1,none⟩=some (.slice none 0 0):=(Qa μ.out 1).trans rfl
  have fp:=Qb μ.out 1
  have dz:=a3.out
  have e0:=a5.out
  have e3:=σ.out
  have e4:=a2.out
  have e5:=am.out
  have e9:=an.out
  have ee:=aj.out
  have ef:=ak.out
  refine Js (w1:=?_) (by rfl) rfl ?_ ?_
  rotate_left
  ·go_simp
   rfl
  refine hK.out _ _ ⟨((cell_far (p:=⟨ξ,_,none⟩) a3.out _).trans (((cell_far (p:=⟨ξ,_,none⟩) a3.out _).trans (hHeld.1)))),((cell_far (p:=⟨ξ,_,none⟩) a3.out _).trans (((cell_far (p:=⟨ξ,_,none⟩) a3.out _).trans (hHeld.2.1)))),((cell_far (p:=⟨ξ,_,none⟩) a5.out _).trans (((cell_far (p:=⟨ξ,_,none⟩) a5.out _).trans (hHeld.2.2.1)))),((cell_far (p:=⟨ξ,_,none⟩) a5.out _).trans (((cell_far (p:=⟨ξ,_,none⟩) a5.out _).trans (hHeld.2.2.2.1)))),((cell_far (p:=⟨ξ,_,none⟩) a2.out _).trans (((cell_far (p:=⟨ξ,_,none⟩) a2.out _).trans (hHeld.2.2.2.2.1)))),((cell_far (p:=⟨ξ,_,none⟩) a2.out _).trans (((cell_far (p:=⟨ξ,_,none⟩) a2.out _).trans (hHeld.2.2.2.2.2.1)))),((cell_far (p:=⟨ξ,_,none⟩) σ.out _).trans (((cell_far (p:=⟨ξ,_,none⟩) σ.out _).trans (hHeld.2.2.2.2.2.2.1)))),((cell_far (p:=⟨ξ,_,none⟩) σ.out _).trans (((cell_far (p:=⟨ξ,_,none⟩) σ.out _).trans (hHeld.2.2.2.2.2.2.2.1)))),((cell_far (p:=⟨ξ,_,none⟩) σ.out _).trans (((cell_far (p:=⟨ξ,_,none⟩) σ.out _).trans (hHeld.2.2.2.2.2.2.2.2))))⟩ (fun hHeld=>?_)
  clear hK K
  refine qP 27 (some 7) (bN 28 268435455) HT_ ?_
  refine Z0 (Zp HT_.out kr) ?_
  try go_wp2
  refine bodyPost_ret (Xi rfl _ _ ξ 27 #[.slice cp bg.length cv,.slice ap au.length ay] (0,0) _ rfl (by refine Qx (cs:=#[.slice cp bg.length cv,.slice none 0 0]) ?_ 1 _ rfl;refine Qx (cs:=#[.slice none 0 0,.slice none 0 0]) ?_ 0 _ rfl;exact μ.out) Try.underlying27 rfl kr) rfl ?_
  exact⟨_,_,by first|rfl|(simp[Q1,Q0] <;> rfl)|(simp[*,Q1,Q0] <;> rfl),by(with_reducible repeat(first|apply Kd.Qm|apply Kd.Ql|apply Kd.Qo));exact Kd.Qs (Kd.Qu (Kd.Qu (Kd.Qy dp.out μ.out (by decide)) (fun _ hk=>hk.2) _) (fun _ hk=>hk.2) _) (fun _ hk=>trivial),by(with_reducible repeat(first|apply Kd.Qm|apply Kd.Ql|apply Kd.Qo));exact Kd.Qs (Kd.Qu (Kd.Qu (Kd.Qy ck.out μ.out (by decide)) (fun _ hk=>hk.2) _) (fun _ hk=>hk.2) _) (fun _ hk=>trivial),bel⟩
 ·replace c5:=Bool.eq_false_iff.mpr c5
  subst c5
  have H1:((call_change.f (woP_H.f L η 0 B) (woP_I.f ζ L D) k I J B D false 0 L η 0 0 ζ L).bind fun a9=>(some (a9.1,a9.2.1,a9.2.2)))=some (r1,r2,r3):=by rw[if_neg (show ¬ (false=true) by decide)] at H;exact H
  clear H
  have H:=H1
  clear H1
  replace H:=Option.bind_eq_some_iff.mp H
  obtain⟨⟨bi,al,cx⟩,cz,H⟩:=H
  replace H:(some (bi,al,cx))=some (r1,r2,r3):=H
  have ai:=Aside0.mk cz
  clear cz
  simp only[Option.some.injEq,Prod.mk.injEq] at H
  obtain⟨rfl,rfl,rfl⟩:=H
  go_enter Try.func18,Try.ntmps18
  try go_wp2_with (first|((with_reducible refine Qt (N:=3) rfl ?_);refine Qp ?hg (N:=3) ?hd (cs:=#[.int .i64 I,.int .i64 J]) (t:=23) ?hr ?_;(case hd=>rfl);(case hg=>rfl);(case hr=>go_simp <;> rfl);intro a1 hg jb hbox hb;have Y:=Aside0.mk hbox;have bo:=sGe hg;have bv:=sGe hg;replace HB:=sHb hb;clear hb hbox hg)|((with_reducible refine Qt (N:=4) rfl ?_);refine Qp ?hg (N:=4) ?hd (cs:=#[.slice Z B.length U,.slice γ D.length X]) (t:=27) ?hr ?_;(case hd=>rfl);(case hg=>rfl);(case hr=>go_simp <;> rfl);intro ao hg i6 hbox hb;have ν :=Aside0.mk hbox;have d0:=sGe hg;have d1:=sGe hg;have bj:=sNl Y hg;have bn:=sNg Y hg;replace Y:=sBk Y hb;replace HB:=sHb hb;clear hb hbox hg)|((with_reducible refine Qt (N:=5) rfl ?_);refine Qp ?hg (N:=5) ?hd (cs:=#[.int .i64 ζ,.int .i64 L,.int .i64 η]) (t:=43) ?hr ?_;(case hd=>rfl);(case hg=>rfl);(case hr=>go_simp <;> rfl);intro af hg cf hbox hb;have O:=Aside0.mk hbox;have d2:=sGe hg;have d3:=sGe hg;have av:=sNl Y hg;have ax:=sNg Y hg;have az:=sNl ν hg;have b0:=sNg ν hg;replace Y:=sBk Y hb;replace ν :=sBk ν hb;replace HB:=sHb hb;clear hb hbox hg)|((with_reducible refine Qt (N:=6) rfl ?_);refine Qp ?hg (N:=6) ?hd (cs:=#[.slice none 0 0,.slice none 0 0]) (t:=27) ?hr ?_;(case hd=>rfl);(case hg=>rfl);(case hr=>go_simp <;> rfl);intro ξ hg ch hbox hb;have μ :=Aside0.mk hbox;have eo:=sGe hg;have ep:=sGe hg;have a3:=sNl Y hg;have am:=sNg Y hg;have a5:=sNl ν hg;have an:=sNg ν hg;have σ:=sNl O hg;have aj:=sNg O hg;replace Y:=sBk Y hb;replace ν :=sBk ν hb;replace O:=sBk O hb;replace HB:=sHb hb;clear hb hbox hg;have fq:=ax.out;have fr:=av.out;have er:=b0.out;have et:=az.out;have hu:=σ.out;have hx:=aj.out;have eg:ch.cell? ⟨af,0,none⟩=some (.int .i64 ζ):=(Qa O.out 0).trans rfl;have eh:ch.cell? ⟨af,1,none⟩=some (.int .i64 L):=(Qa O.out 1).trans rfl;have ei:ch.cell? ⟨af,2,none⟩=some (.int .i64 η):=(Qa O.out 2).trans rfl;have em:=Qb O.out 0;have fb:=Qb O.out 1;have fi:=Qb O.out 2)|((with_reducible refine Qt (N:=8) rfl ?_);refine Qp ?hg (N:=8) ?hd (cs:=#[.int .i64 0,.int .i64 0]) (t:=62) ?hr ?_;(case hd=>rfl);(case hg=>rfl);(case hr=>go_simp <;> rfl);intro ρ hg bh hbox hb;have δ :=Aside0.mk hbox;have bp:=sGe hg;have bs:=sGe hg;have b1:=sNl Y hg;have b2:=sNg Y hg;have b3:=sNl ν hg;have b4:=sNg ν hg;have bb:=sNl O hg;have bc:=sNg O hg;have ak:=sNl μ hg;have a2:=sNg μ hg;replace Y:=sBk Y hb;replace ν :=sBk ν hb;replace O:=sBk O hb;replace μ :=sBk μ hb;replace HB:=sHb hb;clear hb hbox hg;have ez:=b2.out;have f3:=b1.out;have ga:=b4.out;have gb:=b3.out;have ig:=bc.out;have ih:=bb.out;have dq:=a2.out;have dr:=ak.out;have fg:bh.cell? ⟨ρ,0,none⟩=some (.int .i64 0):=(Qa δ.out 0).trans rfl;have fh:bh.cell? ⟨ρ,1,none⟩=some (.int .i64 0):=(Qa δ.out 1).trans rfl;have fl:=Qb δ.out 0;have fm:=Qb δ.out 1))
  have ε :Aside0 (((bh.setCell ⟨ρ,0,none⟩ (.int .i64 ζ)).setCell ⟨ρ,1,none⟩ (.int .i64 L)).heap[a1]?=some (.cells #[.int .i64 I,.int .i64 J] 23 (0,0))):=⟨bka Y⟩
  have θ :Aside0 (((bh.setCell ⟨ρ,0,none⟩ (.int .i64 ζ)).setCell ⟨ρ,1,none⟩ (.int .i64 L)).heap[ao]?=some (.cells #[.slice Z B.length U,.slice γ D.length X] 27 (0,0))):=⟨bka ν⟩
  have ι :Aside0 (((bh.setCell ⟨ρ,0,none⟩ (.int .i64 ζ)).setCell ⟨ρ,1,none⟩ (.int .i64 L)).heap[af]?=some (.cells #[.int .i64 ζ,.int .i64 L,.int .i64 η] 43 (0,0))):=⟨bka O⟩
  have κ :Aside0 (((bh.setCell ⟨ρ,0,none⟩ (.int .i64 ζ)).setCell ⟨ρ,1,none⟩ (.int .i64 L)).heap[ξ]?=some (.cells #[.slice none 0 0,.slice none 0 0] 27 (0,0))):=⟨bka μ⟩
  have τ :Aside0 (((bh.setCell ⟨ρ,0,none⟩ (.int .i64 ζ)).setCell ⟨ρ,1,none⟩ (.int .i64 L)).heap[ρ]?=some (.cells #[.int .i64 ζ,.int .i64 L] 62 (0,0))):=⟨by refine Qx (cs:=#[.int .i64 ζ,.int .i64 0]) ?_ 1 _ rfl;refine Qx (cs:=#[.int .i64 0,.int .i64 0]) ?_ 0 _ rfl;exact δ.out⟩
  have ψ :Aside0 (Below w.heap.size w ((bh.setCell ⟨ρ,0,none⟩ (.int .i64 ζ)).setCell ⟨ρ,1,none⟩ (.int .i64 L))):=⟨bel⟩
  (try clear Y)
  (try clear ν)
  (try clear O)
  (try clear μ)
  (try clear δ)
  (try clear HB)
  generalize((bh.setCell ⟨ρ,0,none⟩ (.int .i64 ζ)).setCell ⟨ρ,1,none⟩ (.int .i64 L))=g0 at ε θ ι κ τ ψ ⊢
  have Y:= ε
  have ν := θ
  have O:= ι
  have μ := κ
  have δ := τ
  have HB:= ψ
  clear ε θ ι κ τ ψ
  replace Y:=Aside0.mk (Qc Y.out)
  replace ν :=Aside0.mk (Qc ν.out)
  replace O:=Aside0.mk (Qc O.out)
  replace μ :=Aside0.mk (Qc μ.out)
  replace δ :=Aside0.mk (Qc δ.out)
  replace HB:=Aside0.mk (Qh HB.out)
  refine Zv (n:=28) (S:=fun w'=>w'.cell? ⟨a1,0,none⟩=some (.int .i64 I)∧w'.cell? ⟨a1,1,none⟩=some (.int .i64 J)∧w'.cell? ⟨ao,0,none⟩=some (.slice Z B.length U)∧w'.cell? ⟨ao,1,none⟩=some (.slice γ D.length X)∧w'.cell? ⟨ρ,0,none⟩=some (.int .i64 ζ)∧w'.cell? ⟨ρ,1,none⟩=some (.int .i64 L)∧w'.cell? ⟨af,0,none⟩=some (.int .i64 ζ)∧w'.cell? ⟨af,1,none⟩=some (.int .i64 L)∧w'.cell? ⟨af,2,none⟩=some (.int .i64 η)) (ds:=[]) #[false,false,false,false,false,false,false,false,false,false,false,false,false,false,false,false,false,false,false,false,false,false,false,false,false,false,false,false] kr rfl rfl ⟨(Qa Y.out 0).trans rfl,(Qa Y.out 1).trans rfl,(Qa ν.out 0).trans rfl,(Qa ν.out 1).trans rfl,(Qa δ.out 0).trans rfl,(Qa δ.out 1).trans rfl,(Qa O.out 0).trans rfl,(Qa O.out 1).trans rfl,(Qa O.out 2).trans rfl⟩ (fun hHeld=>?_);refine Q8 call_Serve.tab2 call_Serve.Ns (fun HT_ HW_=>?_)
  generalize g0.drew=gs at Y ν O μ δ HB hHeld ⊢
  refine qP 14 (some 28) (bN 28 16384) HT_ ?_
  refine qP 16 (some 30) (bN 28 81920) HT_ ?_
  refine qT 0 (some 14) (bN 28 81921) HT_ HW_ hHeld ?_
  refine qT 1 (some 15) (bN 28 81923) HT_ HW_ hHeld ?_
  refine qT 2 (some 16) (bN 28 81927) HT_ HW_ hHeld ?_
  refine qT 4 (some 18) (bN 28 81943) HT_ HW_ hHeld ?_
  refine qT 11 (some 25) (bN 28 83991) HT_ HW_ hHeld ?_
  refine qT 15 (some 29) (bN 28 116759) HT_ HW_ hHeld ?_
  refine qT 17 (some 31) (bN 28 247831) HT_ HW_ hHeld ?_
  refine qP 18 (some 32) (bN 28 509975) HT_ ?_
  refine qT 19 (some 33) (bN 28 1034263) HT_ HW_ hHeld ?_
  refine qT 22 (some 36) (bN 28 5228567) HT_ HW_ hHeld ?_
  refine Zm (i:=3) (N:=some 17) (bN 28 5228575) rfl rfl (Q3 HT_.out kr) (by decide) (fun K hK=>?_)
  refine Zg Try.func29 kr rfl #[.agg #[.int .i64 I,.int .i64 J]] (by rfl) rfl rfl (by(try simp only[List.map_toArray,List.map_cons,List.map_nil]);first|done|rfl) ?_
  refine(Y9 I J _).mono ?_
  rintro e fx ⟨bf,rfl,hgp,hgw,hb⟩
  have bq:=Aside0.mk hgp
  clear hgp hgw
  refine⟨_,rfl, ?_⟩
  replace Y:=sBk Y hb
  replace ν :=sBk ν hb
  replace O:=sBk O hb
  replace μ :=sBk μ hb
  replace δ :=sBk δ hb
  replace HB:=sHb hb
  (try clear hb)
  (try clear a4)
  (try clear hk)
  (try clear hi)
  refine hK.out _ _ ⟨(Qa Y.out 0).trans rfl,(Qa Y.out 1).trans rfl,(Qa ν.out 0).trans rfl,(Qa ν.out 1).trans rfl,(Qa δ.out 0).trans rfl,(Qa δ.out 1).trans rfl,(Qa O.out 0).trans rfl,(Qa O.out 1).trans rfl,(Qa O.out 2).trans rfl⟩ (fun hHeld=>?_)
  clear hK K
  refine qN (some 17) ?_
  refine Zm (i:=5) (N:=some 19) (bN 28 5228607) rfl rfl (Q3 HT_.out kr) (by decide) (fun K hK=>?_)
  refine Xm Try.func50 kr rfl #[] #[.pointer (some ⟨bf,0,none⟩)] #[.agg #[.int .i64 ζ,.int .i64 L]] #[.agg #[.int .i64 ζ,.int .i64 L],.pointer (some ⟨bf,0,none⟩)] rfl (by rfl) rfl rfl rfl (by simp only[List.map_toArray,List.map_cons,List.map_nil] <;> rfl) ?_
  refine(Yv I J ζ L false _ (Option.some.inj A4.out) bf bq.out).mono ?_
  rintro e du ⟨rfl,hb⟩
  refine⟨_,rfl, ?_⟩
  replace Y:=sBk Y hb
  replace ν :=sBk ν hb
  replace O:=sBk O hb
  replace μ :=sBk μ hb
  replace δ :=sBk δ hb
  replace HB:=sHb hb
  (try clear hb)
  (try clear a4)
  (try clear hk)
  (try clear hi)
  refine hK.out _ _ ⟨(Qa Y.out 0).trans rfl,(Qa Y.out 1).trans rfl,(Qa ν.out 0).trans rfl,(Qa ν.out 1).trans rfl,(Qa δ.out 0).trans rfl,(Qa δ.out 1).trans rfl,(Qa O.out 0).trans rfl,(Qa O.out 1).trans rfl,(Qa O.out 2).trans rfl⟩ (fun hHeld=>?_)
  clear hK K
  refine qN (some 19) ?_
  refine qP 6 (some 20) (bN 28 5228671) HT_ ?_
  refine qU 7 (some 21) (bN 28 5228799) HT_ ?_
  refine qU 8 (some 22) (bN 28 5229055) HT_ ?_
  refine qU 9 (some 23) (bN 28 5229567) HT_ ?_
  refine qP 10 (some 24) (bN 28 5230591) HT_ ?_
  refine Zm (i:=12) (N:=some 26) (bN 28 5234687) rfl rfl (Q3 HT_.out kr) (by decide) (fun K hK=>?_)
  refine Zg Try.func30 kr rfl #[.agg #[.slice Z B.length U,.slice γ D.length X]] (by rfl) rfl rfl (by(try simp only[List.map_toArray,List.map_cons,List.map_nil]);first|done|rfl) ?_
  refine(Yb Z γ B.length D.length U X _).mono ?_
  rintro e fy ⟨rfl,hb⟩
  refine⟨_,rfl, ?_⟩
  replace Y:=sBk Y hb
  replace ν :=sBk ν hb
  replace O:=sBk O hb
  replace μ :=sBk μ hb
  replace δ :=sBk δ hb
  replace HB:=sHb hb
  (try clear hb)
  (try clear a4)
  (try clear hk)
  (try clear hi)
  refine hK.out _ _ ⟨(Qa Y.out 0).trans rfl,(Qa Y.out 1).trans rfl,(Qa ν.out 0).trans rfl,(Qa ν.out 1).trans rfl,(Qa δ.out 0).trans rfl,(Qa δ.out 1).trans rfl,(Qa O.out 0).trans rfl,(Qa O.out 1).trans rfl,(Qa O.out 2).trans rfl⟩ (fun hHeld=>?_)
  clear hK K
  refine qN (some 26) ?_
  refine qP 13 (some 27) (bN 28 5242879) HT_ ?_
  refine Zm (i:=20) (N:=some 34) (bN 28 6291455) rfl rfl (Q3 HT_.out kr) (by decide) (fun K hK=>?_)
  refine Zg Try.func32 kr rfl #[.agg #[.slice Z B.length U,.slice γ D.length X]] (by rfl) rfl rfl (by(try simp only[List.map_toArray,List.map_cons,List.map_nil]);first|done|rfl) ?_
  refine(Yi Z γ B.length D.length U X _).mono ?_
  rintro e fz ⟨rfl,hb⟩
  refine⟨_,rfl, ?_⟩
  replace Y:=sBk Y hb
  replace ν :=sBk ν hb
  replace O:=sBk O hb
  replace μ :=sBk μ hb
  replace δ :=sBk δ hb
  replace HB:=sHb hb
  (try clear hb)
  (try clear a4)
  (try clear hk)
  (try clear hi)
  refine hK.out _ _ ⟨(Qa Y.out 0).trans rfl,(Qa Y.out 1).trans rfl,(Qa ν.out 0).trans rfl,(Qa ν.out 1).trans rfl,(Qa δ.out 0).trans rfl,(Qa δ.out 1).trans rfl,(Qa O.out 0).trans rfl,(Qa O.out 1).trans rfl,(Qa O.out 2).trans rfl⟩ (fun hHeld=>?_)
  clear hK K
  refine qN (some 34) ?_
  refine qP 21 (some 35) (bN 28 8388607) HT_ ?_
  refine Zm (i:=23) (N:=some 37) (bN 28 16777215) rfl rfl (Q3 HT_.out kr) (by decide) (fun K hK=>?_)
  refine Zg Try.func28 kr rfl #[.agg #[.int .i64 I,.int .i64 J],.agg #[.slice Z B.length U,.slice γ D.length X],.bool false,.func (.func 31) #[.agg #[.slice Z B.length U,.func (.func 51) #[] #[]]] #[],.agg #[.int .i64 L,.int .i64 η,.int .i64 0],.func (.func 36) #[.agg #[.slice γ D.length X,.func (.func 57) #[] #[]]] #[],.agg #[.int .i64 ζ,.int .i64 L]] (by rfl) rfl rfl (by simp only[List.map_toArray,List.map_cons,List.map_nil] <;> rfl) ?_
  refine(call_change.calls _ _ k I J Z U B γ X D false 0 L η 0 0 ζ L bi al cx _ ?side1 ?side2 ?side3 ?side4 ai.out 31 Try.f31 (.agg #[.slice Z B.length U,.func (.func 51) #[] #[]]) Try.func31 kr rfl (fun W t ht hb=>Ju Z U B _ _ _ t W (Kd.Qz (Kd.Qz ag.out (by repeat(first|(with_reducible first|exact HB.out|apply Qj|apply Qd|apply Qh)|exact HB.out|(refine Qe ?_ (Aside0.out (by assumption)))))) hb) ar.out ht) 36 Try.f36 (.agg #[.slice γ D.length X,.func (.func 57) #[] #[]]) Try.func36 kr rfl (fun W t ht hb=>Y5 γ X D _ _ t W (Kd.Qz (Kd.Qz ah.out (by repeat(first|(with_reducible first|exact HB.out|apply Qj|apply Qd|apply Qh)|exact HB.out|(refine Qe ?_ (Aside0.out (by assumption)))))) hb) aw.out ht)).mono ?_
  (case side1=>exact(Kd.Qz ag.out HB.out))
  (case side2=>exact ar.out)
  (case side3=>exact(Kd.Qz ah.out HB.out))
  (case side4=>exact aw.out)
  rintro e fn ⟨fw,g1,rfl,χ,a7,hb⟩
  refine⟨_,rfl, ?_⟩
  have cm:=Aside0.mk (Kd.Q4 χ (Qk HB.out))
  have cn:=Aside0.mk (Kd.Q4 (Kd.Zy a7 (g:=ρ) (o:=.cells #[.int .i64 ζ,.int .i64 L] 62 (0,0)) δ.out) (Qk HB.out))
  replace Y:=sBk Y hb
  replace ν :=sBk ν hb
  replace O:=sBk O hb
  replace μ :=sBk μ hb
  replace δ :=sBk δ hb
  replace HB:=sHb hb
  (try clear hb)
  (try clear a4)
  (try clear hk)
  (try clear hi)
  (try clear χ)
  (try clear a7)
  obtain⟨dc,dd,de⟩:=Kd.Q6 cm.out
  (first|subst de|(injection de with ω ab a0;have ac:= ω.symm;have ae:=a0.symm;clear ω ab a0;subst ac;subst ae))
  obtain⟨f4,f7,dv⟩:=Kd.Q6 cn.out
  (first|subst dv|(injection dv with ω ab a0;have ac:= ω.symm;have ae:=a0.symm;clear ω ab a0;subst ac;subst ae))
  refine hK.out _ _ ⟨(Qa Y.out 0).trans rfl,(Qa Y.out 1).trans rfl,(Qa ν.out 0).trans rfl,(Qa ν.out 1).trans rfl,(Qa δ.out 0).trans rfl,(Qa δ.out 1).trans rfl,(Qa O.out 0).trans rfl,(Qa O.out 1).trans rfl,(Qa O.out 2).trans rfl⟩ (fun hHeld=>?_)
  clear hK K
  refine qN (some 37) ?_
  refine qP 24 (some 38) (bN 28 33554431) HT_ ?_
  refine qP 25 (some 39) (bN 28 67108863) HT_ ?_
  refine Zm (i:=26) (N:=none) (bN 28 134217727) rfl rfl (Q3 HT_.out kr) (by decide) (fun K hK=>?_)
  have gr:fn.cell? ⟨ξ,0,none⟩=some (.slice none 0 0):=(Qa μ.out 0).trans rfl
  have gf:=Qb μ.out 0
  have ej:=a3.out
  have ek:=a5.out
  have el:=σ.out
  have en:=a2.out
  have eu:=am.out
  have ev:=an.out
  have ew:=aj.out
  have ey:=ak.out
  have gt:fn.cell? ⟨ξ,1,none⟩=some (.slice none 0 0):=(Qa μ.out 1).trans rfl
  have gg:=Qb μ.out 1
  have f8:=a3.out
  have f9:=a5.out
  have fa:=σ.out
  have fc:=a2.out
  have fe:=am.out
  have ff:=an.out
  have fj:=aj.out
  have fk:=ak.out
  refine Js (w1:=?_) (by rfl) rfl ?_ ?_
  rotate_left
  ·go_simp
   rfl
  refine hK.out _ _ ⟨((cell_far (p:=⟨ξ,_,none⟩) a3.out _).trans (((cell_far (p:=⟨ξ,_,none⟩) a3.out _).trans (hHeld.1)))),((cell_far (p:=⟨ξ,_,none⟩) a3.out _).trans (((cell_far (p:=⟨ξ,_,none⟩) a3.out _).trans (hHeld.2.1)))),((cell_far (p:=⟨ξ,_,none⟩) a5.out _).trans (((cell_far (p:=⟨ξ,_,none⟩) a5.out _).trans (hHeld.2.2.1)))),((cell_far (p:=⟨ξ,_,none⟩) a5.out _).trans (((cell_far (p:=⟨ξ,_,none⟩) a5.out _).trans (hHeld.2.2.2.1)))),((cell_far (p:=⟨ξ,_,none⟩) a2.out _).trans (((cell_far (p:=⟨ξ,_,none⟩) a2.out _).trans (hHeld.2.2.2.2.1)))),((cell_far (p:=⟨ξ,_,none⟩) a2.out _).trans (((cell_far (p:=⟨ξ,_,none⟩) a2.out _).trans (hHeld.2.2.2.2.2.1)))),((cell_far (p:=⟨ξ,_,none⟩) σ.out _).trans (((cell_far (p:=⟨ξ,_,none⟩) σ.out _).trans (hHeld.2.2.2.2.2.2.1)))),((cell_far (p:=⟨ξ,_,none⟩) σ.out _).trans (((cell_far (p:=⟨ξ,_,none⟩) σ.out _).trans (hHeld.2.2.2.2.2.2.2.1)))),((cell_far (p:=⟨ξ,_,none⟩) σ.out _).trans (((cell_far (p:=⟨ξ,_,none⟩) σ.out _).trans (hHeld.2.2.2.2.2.2.2.2))))⟩ (fun hHeld=>?_)
  clear hK K
  refine qP 27 (some 7) (bN 28 268435455) HT_ ?_
  refine Z0 (Zp HT_.out kr) ?_
  try go_wp2
  refine bodyPost_ret (Xi rfl _ _ ξ 27 #[.slice dc bi.length dd,.slice f4 al.length f7] (0,0) _ rfl (by refine Qx (cs:=#[.slice dc bi.length dd,.slice none 0 0]) ?_ 1 _ rfl;refine Qx (cs:=#[.slice none 0 0,.slice none 0 0]) ?_ 0 _ rfl;exact μ.out) Try.underlying27 rfl kr) rfl ?_
  exact⟨_,_,by first|rfl|(simp[Q1,Q0] <;> rfl)|(simp[*,Q1,Q0] <;> rfl),by(with_reducible repeat(first|apply Kd.Qm|apply Kd.Ql|apply Kd.Qo));exact Kd.Qs (Kd.Qu (Kd.Qu (Kd.Qy cm.out μ.out (by decide)) (fun _ hk=>hk.2) _) (fun _ hk=>hk.2) _) (fun _ hk=>trivial),by(with_reducible repeat(first|apply Kd.Qm|apply Kd.Ql|apply Kd.Qo));exact Kd.Qs (Kd.Qu (Kd.Qu (Kd.Qy cn.out μ.out (by decide)) (fun _ hk=>hk.2) _) (fun _ hk=>hk.2) _) (fun _ hk=>trivial),bel⟩
end Go.Proofs.Ytjehhhlhalkieaa.C

