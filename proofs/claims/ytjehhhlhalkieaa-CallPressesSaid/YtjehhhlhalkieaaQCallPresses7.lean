/- Texts of this claim, one behind the other: what the law's functions come to, walked (printed by a program, with the words that the print uses), and what that is, in plain Lean. No conditions of their own. -/
import Derived.Test.YtjehhhlhalkieaaQCallPresses6
import Derived.Laws.EntriesVeiled
import Derived.WalkSpells
namespace Go.Proofs.Ytjehhhlhalkieaa.C
open Go.RowKit Go.Proofs.YtjehhhlhalkieaaW.PrintWords Go.Proofs.YtjehhhlhalkieaaW.PrintLast Go.Proofs.YtjehhhlhalkieaaW.PrintMore
attribute [local go_sem] Z4 Z2 Xe Xd Zx Zw Z3 Z1
set_option linter.unusedVariables false
set_option linter.unusedSimpArgs false
def api_Hall_55.f (l0:List S56):Option (List S56):=if l0.length<1000000000 then some l0 else none
set_option maxRecDepth 100000 in
set_option maxHeartbeats 1000000 in
theorem api_Hall_55.calls (A0:Option Addr) (c0:Nat) (l0:List S56) (r:List S56) (w:World) (aa:Kd.C k56 w A0 l0.length l0) (a9:l0.length≤c0) (h:api_Hall_55.f l0=some r):
    Calls Try.prog 55 #[.slice A0 l0.length c0] w fun e w'=>∃ ω :Value,e = .returned ω ∧ Kd.R k56 56 w' w.heap.size (fun _=>True) ω r∧Below w.heap.size w w':=by
  unfold api_Hall_55.f at h
  split at h
  case isFalse=>cases h
  case isTrue hl=>
  cases h
  have HR:=Aside0.mk aa
  have HC:=Aside0.mk a9
  have HL:=Aside0.mk hl
  have HB:=Aside0.mk (Below.refl w.heap.size w)
  have hn:A0=none→l0 = []:=by
    intro hA
    rcases Nat.eq_zero_or_pos l0.length with h|h
    · exact List.eq_nil_of_length_eq_zero h
    · obtain⟨ad,e,_⟩:=aa.2.2 h
      rw[hA] at e
      cases e
  clear aa a9 hl
  have hEq:∀ (W:World),(binOp .eql 24 (.slice A0 l0.length c0) (.slice none 0 0)).run Try.prog W = .ok (.bool A0.isNone) W:=fun W=>Lib.run_eql_slice_nil W _ _ _ _ _ _ _ Try.underlying24
  rcases A0 with _|ad
  · have D:=Aside0.mk (hn rfl)
    clear hn
    go_enter Try.func55,Try.ntmps55
    go_wp2
    go_ret
    rw[D.out]
    exact⟨_,rfl,Kd.Yj _ _ _ _ _,HB.out⟩
  · clear hn
    go_enter Try.func55,Try.ntmps55
    go_wp2_with (first|((with_reducible refine Qp (N:=5) rfl ?_);refine Kd.Nf k56 _ 56 ?hg (N:=5) ?hd (xs:=([]:List S56)) (inner:=[]) (ok:=fun _=>True) (okp:=fun _=>True) ?hr ?hp (fun _ hk=>hk) trivial (Below.refl _ _) (Nat.le_refl _) (by simp) ?_;(case hd=>rfl);(case hg=>rfl);(case hr=>first|(go_simp;done)|(go_simp;rfl));(case hp=>exact(Reps.none _ _));intro v1 w1 a7 L hg_ hnew_;clear hg_ hnew_;have HO:=Aside0.mk a7;have B:=Aside0.mk L;clear a7 L)|((with_reducible refine Zl (b:=.append) (xs:=#[.tmp 5,.tmp 6]) rfl ?_);at_builtin;refine Kd.Yv k56 (w0:=w) w.heap.size rfl (.tmp 5) (.tmp 6) 24 56 (.agg #[(.int .i64 0),(.int .i64 0),(.int .i64 0)]) 24 rfl Try.underlying24 Xr rfl (by decide) (by omega) v1 [] l0 _ _ _ (fun _=>True) (fun _=>False) rfl rfl ?aO ?aR (fun _ _ h=>h) (fun _ h=>h.elim) ?aF ?aB ?aS ?aL ?_;(case aR=>exact(Kd.Qz HR.out B.out));(case aB=>exact B.out);(case aF=>exact(fun _ _=>trivial));(case aO=>exact HO.out);(case aS=>exact Qj B.out);(case aL=>have:=HL.out;simp only[List.length_nil];omega);intro v2 Y ho hb hg hat;clear hg hat))
    go_ret
    exact⟨_,rfl,by simpa using ho,hb⟩
def woH (D J X:Int) (l:List S56):List S56:=l.filter (fun y=> !(Zz D J y.f0 y.f1==0))
set_option maxRecDepth 100000 in
set_option maxHeartbeats 2000000 in
theorem Vz (A:Option Addr) (c:Nat) (l:List S56) (D J X:Int) (w:World) (hr:Kd.C k56 w A l.length l) (hc:l.length≤c) (hl:l.length<1000000000) (bm: -9223372036854775808≤J∧J≤9223372036854775807):
    Calls Try.prog 31 #[.agg #[.slice A l.length c,.func (.func 51) #[] #[]],.agg #[.int .i64 D,.int .i64 J,.int .i64 X]] w fun e w'=>∃ ω :Value,e = .returned ω ∧ Kd.R k56 56 w' w.heap.size (fun _=>True) ω (woH D J X l)∧Below w.heap.size w w':=by
  have HR:=Aside0.mk hr
  have HC:=Aside0.mk hc
  have HF:=Aside0.mk (show api_Hall_55.f l=some l by unfold api_Hall_55.f;rw[if_pos hl])
  have HB:=Aside0.mk (Below.refl w.heap.size w)
  have HD:=Aside0.mk (show api_Hall_54.f (l.length+6) l (tok D J)=some (woH D J X l) by
    rw[Call.N3 l (tok D J) (by omega) _ (by omega)]
    show some (l.filter (fun y=> !(Zz (Yf (tok D J)) (Ye (tok D J)) y.f0 y.f1==0)))=_
    rw[Jp D J bm,Jo D J bm]
    rfl)
  have T1:=Aside0.mk (Jp D J bm)
  have T2:=Aside0.mk (Jo D J bm)
  clear hr hc hl bm
  go_enter Try.func31,Try.ntmps31
  go_wp2_with (first|((with_reducible refine Qp (N:=2) rfl ?_);refine Q7 ?hg (N:=2) ?hd (cs:=#[.slice A l.length c,.func (.func 51) #[] #[]]) (t:=69) ?hr ?_;(case hd=>rfl);(case hg=>rfl);(case hr=>first|(go_simp;done)|(go_simp;rfl));intro I hg_ Y hbox hb;have O:=Aside0.mk (Qt HB.out hb);have Z:=Aside0.mk hbox;clear HB;have HB:=O;have B:=Z;clear O Z;clear hb hbox hg_)|((with_reducible refine Qp (N:=3) rfl ?_);refine Q7 ?hg (N:=3) ?hd (cs:=#[.int .i64 D,.int .i64 J,.int .i64 X]) (t:=56) ?hr ?_;(case hd=>rfl);(case hg=>rfl);(case hr=>first|(go_simp;done)|(go_simp;rfl));intro g3 hg_ w3 hbox hb;have L:=Aside0.mk (Qo (g:=I) (o:=.cells #[.slice A l.length c,.func (.func 51) #[] #[]] 69 (0,0)) B.out hb);have O:=Aside0.mk (Qt HB.out hb);have Z:=Aside0.mk hbox;clear HB B;have HB:=O;have U:=Z;have B:=L;clear O Z L;clear hb hbox hg_;have γ:w3.cell? ⟨I,0,none⟩=some (.slice A l.length c):=(Qi B.out 0).trans rfl;have δ :w3.cell? ⟨I,1,none⟩=some (.func (.func 51) #[] #[]):=(Qi B.out 1).trans rfl)|(go_at_call 55;((with_reducible refine(api_Hall_55.calls A c l l _ ?side1 ?side2 HF.out).mono ?_);(case side1=>exact Kd.Qz HR.out HB.out);(case side2=>exact HC.out);rintro e w4 ⟨v4,rfl,ρ,hb⟩;have ι :=Aside0.mk (Nat.not_le.2 (Q3 B.out));have η :=Aside0.mk (Nat.not_le.2 (Q3 U.out));have L:=Aside0.mk (Kd.Q2 (Kd.Qr (Kd.X2 ρ) (fun k_ hk=>hk.2.1)) HB.out.size);have ε :=Aside0.mk (Qo (g:=I) (o:=.cells #[.slice A l.length c,.func (.func 51) #[] #[]] 69 (0,0)) B.out hb);have ζ :=Aside0.mk (Qo (g:=g3) (o:=.cells #[.int .i64 D,.int .i64 J,.int .i64 X] 56 (0,0)) U.out hb);have O:=Aside0.mk (Qt HB.out hb);clear HB B U;have HB:=O;have B:= ε;have U:= ζ;have HO:=L;clear O L ε ζ hb ρ))|(go_at_call 54;((with_reducible refine(api_Hall_54.calls (l.length+6) _ v4 l (tok D J) _ w w4 HB.out HO.out HD.out A l.length c I g3 X B.out ?hx ι.out η.out).mono ?_);(case hx=>rw[T1.out,T2.out];exact U.out);rintro e w5 ⟨v5,rfl,ρ,hb,hk⟩;have θ :=Aside0.mk ρ;have κ :=Aside0.mk hb;clear ρ hb hk)))
  go_ret
  exact⟨_,rfl,Kd.Qr θ.out (fun _ _=>trivial),κ.out⟩
def api_Inside_59.f (l0:List S62):Option (List S62):=if l0.length<1000000000 then some l0 else none
set_option maxRecDepth 100000 in
set_option maxHeartbeats 1000000 in
theorem api_Inside_59.calls (A0:Option Addr) (c0:Nat) (l0:List S62) (r:List S62) (w:World) (aa:Kd.C k62 w A0 l0.length l0) (a9:l0.length≤c0) (h:api_Inside_59.f l0=some r):
    Calls Try.prog 59 #[.slice A0 l0.length c0] w fun e w'=>∃ ω :Value,e = .returned ω ∧ Kd.R k62 62 w' w.heap.size (fun _=>True) ω r∧Below w.heap.size w w':=by
  unfold api_Inside_59.f at h
  split at h
  case isFalse=>cases h
  case isTrue hl=>
  cases h
  have HR:=Aside0.mk aa
  have HC:=Aside0.mk a9
  have HL:=Aside0.mk hl
  have HB:=Aside0.mk (Below.refl w.heap.size w)
  have hn:A0=none→l0 = []:=by
    intro hA
    rcases Nat.eq_zero_or_pos l0.length with h|h
    · exact List.eq_nil_of_length_eq_zero h
    · obtain⟨ad,e,_⟩:=aa.2.2 h
      rw[hA] at e
      cases e
  clear aa a9 hl
  have hEq:∀ (W:World),(binOp .eql 25 (.slice A0 l0.length c0) (.slice none 0 0)).run Try.prog W = .ok (.bool A0.isNone) W:=fun W=>Lib.run_eql_slice_nil W _ _ _ _ _ _ _ Try.underlying25
  rcases A0 with _|ad
  · have D:=Aside0.mk (hn rfl)
    clear hn
    go_enter Try.func59,Try.ntmps59
    go_wp2
    go_ret
    rw[D.out]
    exact⟨_,rfl,Kd.Yj _ _ _ _ _,HB.out⟩
  · clear hn
    go_enter Try.func59,Try.ntmps59
    go_wp2_with (first|((with_reducible refine Qp (N:=5) rfl ?_);refine Kd.Nf k62 _ 62 ?hg (N:=5) ?hd (xs:=([]:List S62)) (inner:=[]) (ok:=fun _=>True) (okp:=fun _=>True) ?hr ?hp (fun _ hk=>hk) trivial (Below.refl _ _) (Nat.le_refl _) (by simp) ?_;(case hd=>rfl);(case hg=>rfl);(case hr=>first|(go_simp;done)|(go_simp;rfl));(case hp=>exact(Reps.none _ _));intro v1 w1 a7 L hg_ hnew_;clear hg_ hnew_;have HO:=Aside0.mk a7;have B:=Aside0.mk L;clear a7 L)|((with_reducible refine Zl (b:=.append) (xs:=#[.tmp 5,.tmp 6]) rfl ?_);at_builtin;refine Kd.Yv k62 (w0:=w) w.heap.size rfl (.tmp 5) (.tmp 6) 25 62 (.agg #[(.int .i64 0),(.int .i64 0)]) 16 rfl Try.underlying25 Yd rfl (by decide) (by omega) v1 [] l0 _ _ _ (fun _=>True) (fun _=>False) rfl rfl ?aO ?aR (fun _ _ h=>h) (fun _ h=>h.elim) ?aF ?aB ?aS ?aL ?_;(case aR=>exact(Kd.Qz HR.out B.out));(case aB=>exact B.out);(case aF=>exact(fun _ _=>trivial));(case aO=>exact HO.out);(case aS=>exact Qj B.out);(case aL=>have:=HL.out;simp only[List.length_nil];omega);intro v2 Y ho hb hg hat;clear hg hat))
    go_ret
    exact⟨_,rfl,by simpa using ho,hb⟩
def woI (D J:Int) (l:List S62):List S62:=l.filter (fun y=> !(Zz D J y.f0 y.f1==0))
set_option maxRecDepth 100000 in
set_option maxHeartbeats 2000000 in
theorem Vy (A:Option Addr) (c:Nat) (l:List S62) (D J:Int) (w:World) (hr:Kd.C k62 w A l.length l) (hc:l.length≤c) (hl:l.length<1000000000) (bm: -9223372036854775808≤J∧J≤9223372036854775807):
    Calls Try.prog 36 #[.agg #[.slice A l.length c,.func (.func 57) #[] #[]],.agg #[.int .i64 D,.int .i64 J]] w fun e w'=>∃ ω :Value,e = .returned ω ∧ Kd.R k62 62 w' w.heap.size (fun _=>True) ω (woI D J l)∧Below w.heap.size w w':=by
  have HR:=Aside0.mk hr
  have HC:=Aside0.mk hc
  have HF:=Aside0.mk (show api_Inside_59.f l=some l by unfold api_Inside_59.f;rw[if_pos hl])
  have HB:=Aside0.mk (Below.refl w.heap.size w)
  have HD:=Aside0.mk (show api_Inside_64.f (l.length+6) l (tok D J)=some (woI D J l) by
    rw[Call.N2 l (tok D J) (by omega) _ (by omega)]
    show some (l.filter (fun y=> !(Zz (Yf (tok D J)) (Ye (tok D J)) y.f0 y.f1==0)))=_
    rw[Jp D J bm,Jo D J bm]
    rfl)
  have T1:=Aside0.mk (Jp D J bm)
  have T2:=Aside0.mk (Jo D J bm)
  clear hr hc hl bm
  go_enter Try.func36,Try.ntmps36
  go_wp2_with (first|((with_reducible refine Qp (N:=2) rfl ?_);refine Q7 ?hg (N:=2) ?hd (cs:=#[.slice A l.length c,.func (.func 57) #[] #[]]) (t:=74) ?hr ?_;(case hd=>rfl);(case hg=>rfl);(case hr=>first|(go_simp;done)|(go_simp;rfl));intro I hg_ Y hbox hb;have O:=Aside0.mk (Qt HB.out hb);have Z:=Aside0.mk hbox;clear HB;have HB:=O;have B:=Z;clear O Z;clear hb hbox hg_)|((with_reducible refine Qp (N:=3) rfl ?_);refine Q7 ?hg (N:=3) ?hd (cs:=#[.int .i64 D,.int .i64 J]) (t:=62) ?hr ?_;(case hd=>rfl);(case hg=>rfl);(case hr=>first|(go_simp;done)|(go_simp;rfl));intro g3 hg_ w3 hbox hb;have L:=Aside0.mk (Qo (g:=I) (o:=.cells #[.slice A l.length c,.func (.func 57) #[] #[]] 74 (0,0)) B.out hb);have O:=Aside0.mk (Qt HB.out hb);have Z:=Aside0.mk hbox;clear HB B;have HB:=O;have U:=Z;have B:=L;clear O Z L;clear hb hbox hg_;have γ:w3.cell? ⟨I,0,none⟩=some (.slice A l.length c):=(Qi B.out 0).trans rfl;have δ :w3.cell? ⟨I,1,none⟩=some (.func (.func 57) #[] #[]):=(Qi B.out 1).trans rfl)|(go_at_call 59;((with_reducible refine(api_Inside_59.calls A c l l _ ?side1 ?side2 HF.out).mono ?_);(case side1=>exact Kd.Qz HR.out HB.out);(case side2=>exact HC.out);rintro e w4 ⟨v4,rfl,ρ,hb⟩;have ι :=Aside0.mk (Nat.not_le.2 (Q3 B.out));have η :=Aside0.mk (Nat.not_le.2 (Q3 U.out));have L:=Aside0.mk (Kd.Q2 (Kd.Qr (Kd.X2 ρ) (fun k_ hk=>hk.2.1)) HB.out.size);have ε :=Aside0.mk (Qo (g:=I) (o:=.cells #[.slice A l.length c,.func (.func 57) #[] #[]] 74 (0,0)) B.out hb);have ζ :=Aside0.mk (Qo (g:=g3) (o:=.cells #[.int .i64 D,.int .i64 J] 62 (0,0)) U.out hb);have O:=Aside0.mk (Qt HB.out hb);clear HB B U;have HB:=O;have B:= ε;have U:= ζ;have HO:=L;clear O L ε ζ hb ρ))|(go_at_call 64;((with_reducible refine(api_Inside_64.calls (l.length+6) _ v4 l (tok D J) _ w w4 HB.out HO.out HD.out A l.length c I g3 0 B.out ?hx ι.out η.out).mono ?_);(case hx=>rw[T1.out,T2.out];exact U.out);rintro e w5 ⟨v5,rfl,ρ,hb,hk⟩;have θ :=Aside0.mk ρ;have κ :=Aside0.mk hb;clear ρ hb hk)))
  go_ret
  exact⟨_,rfl,Kd.Qr θ.out (fun _ _=>trivial),κ.out⟩
set_option maxRecDepth 100000 in
set_option maxHeartbeats 1000000 in
theorem Yl (A0 A1:Option Addr) (U J c0 c1:Nat) (w:World):
    Calls Try.prog 30 #[.agg #[.slice A0 U c0,.slice A1 J c1]] w fun e w'=>e = .returned (.agg #[.slice A0 U c0,.func (.func 51) #[] #[]])∧Below w.heap.size w w':=by
  have HB:=Aside0.mk (Below.refl w.heap.size w)
  go_enter Try.func30,Try.ntmps30
  go_wp2_with (first|((with_reducible refine Qp (N:=1) rfl ?_);refine Q7 ?hg (N:=1) ?hd (cs:=#[.slice A0 U c0,.slice A1 J c1]) (t:=27) ?hr ?_;(case hd=>rfl);(case hg=>rfl);(case hr=>first|(go_simp;done)|(go_simp;rfl));intro g1 hg_ w1 hbox hb;have O:=Aside0.mk (Qt HB.out hb);have Z:=Aside0.mk hbox;clear HB;have HB:=O;have D:=Z;clear O Z;clear hb hbox hg_)|((with_reducible refine Qp (N:=2) rfl ?_);refine Q7 ?hg (N:=2) ?hd (cs:=#[.slice none 0 0,.nilFunc]) (t:=69) ?hr ?_;(case hd=>rfl);(case hg=>rfl);(case hr=>first|(go_simp;done)|(go_simp;rfl));intro I hg_ Y hbox hb;have GEs:=Aside0.mk HB.out.size;have GEl:=Aside0.mk (Q3 D.out);have L:=Aside0.mk (Qo (g:=g1) (o:=.cells #[.slice A0 U c0,.slice A1 J c1] 27 (0,0)) D.out hb);have O:=Aside0.mk (Qt HB.out hb);have Z:=Aside0.mk hbox;clear HB D;have HB:=O;have B:=Z;have D:=L;clear O Z L;have X:=Aside0.mk (by rw[hg_];exact GEs.out:w.heap.size≤I);have NB:=Aside0.mk (by rw[hg_];exact Nat.ne_of_lt GEl.out:g1≠I);clear hb hbox hg_;have hnb:=NB.out;have γ:Y.cell? ⟨g1,0,none⟩=some (.slice A0 U c0):=(Qi D.out 0).trans rfl;have δ :Y.cell? ⟨g1,1,none⟩=some (.slice A1 J c1):=(Qi D.out 1).trans rfl;have ε :Y.cell? ⟨I,0,none⟩=some (.slice none 0 0):=(Qi B.out 0).trans rfl;have ζ :Y.cell? ⟨I,1,none⟩=some (.nilFunc):=(Qi B.out 1).trans rfl;have η :=Q6 B.out 0;have θ :=Q6 B.out 1))
  refine bodyPost_ret (results_cell_row rfl _ _ I 69 #[.slice A0 U c0,.func (.func 51) #[] #[]] (0,0) _ rfl (by refine Qw (cs:=#[.slice A0 U c0,.nilFunc]) ?_ 1 _ rfl;refine Qw (cs:=#[.slice none 0 0,.nilFunc]) ?_ 0 _ rfl;exact B.out) Try.underlying69 rfl kr) rfl ?_
  exact⟨rfl,Qd (Qd HB.out X.out) X.out⟩
set_option maxRecDepth 100000 in
set_option maxHeartbeats 1000000 in
theorem Jl (F C:Int) (w:World):
    Calls Try.prog 34 #[.agg #[.int .i64 F,.int .i64 C]] w fun e w'=>∃ g:Nat,e = .returned (.func (.func 61) #[] #[.pointer (some ⟨g,0,none⟩)])∧w'.heap[g]?=some (.cells #[.int .i64 F,.int .i64 C] 23 (0,0))∧w.heap.size≤g∧Below w.heap.size w w':=by
  have HB:=Aside0.mk (Below.refl w.heap.size w)
  go_enter Try.func34,Try.ntmps34
  go_wp2_with (first|((with_reducible refine Qp (N:=1) rfl ?_);refine Q7 ?hg (N:=1) ?hd (cs:=#[.int .i64 F,.int .i64 C]) (t:=23) ?hr ?_;(case hd=>rfl);(case hg=>rfl);(case hr=>first|(go_simp;done)|(go_simp;rfl));intro g1 hg_ w1 hbox hb;have GEs:=Aside0.mk HB.out.size;have O:=Aside0.mk (Qt HB.out hb);have Z:=Aside0.mk hbox;clear HB;have HB:=O;have D:=Z;clear O Z;have B:=Aside0.mk (by rw[hg_];exact GEs.out:w.heap.size≤g1);clear hb hbox hg_))
  go_ret
  exact⟨_,rfl,D.out,B.out,HB.out⟩
set_option maxRecDepth 100000 in
set_option maxHeartbeats 1000000 in
theorem Yt (A0 A1:Option Addr) (U J c0 c1:Nat) (w:World):
    Calls Try.prog 32 #[.agg #[.slice A0 U c0,.slice A1 J c1]] w fun e w'=>e = .returned (.agg #[.slice A1 J c1,.func (.func 57) #[] #[]])∧Below w.heap.size w w':=by
  have HB:=Aside0.mk (Below.refl w.heap.size w)
  go_enter Try.func32,Try.ntmps32
  go_wp2_with (first|((with_reducible refine Qp (N:=1) rfl ?_);refine Q7 ?hg (N:=1) ?hd (cs:=#[.slice A0 U c0,.slice A1 J c1]) (t:=27) ?hr ?_;(case hd=>rfl);(case hg=>rfl);(case hr=>first|(go_simp;done)|(go_simp;rfl));intro g1 hg_ w1 hbox hb;have O:=Aside0.mk (Qt HB.out hb);have Z:=Aside0.mk hbox;clear HB;have HB:=O;have D:=Z;clear O Z;clear hb hbox hg_)|((with_reducible refine Qp (N:=2) rfl ?_);refine Q7 ?hg (N:=2) ?hd (cs:=#[.slice none 0 0,.nilFunc]) (t:=74) ?hr ?_;(case hd=>rfl);(case hg=>rfl);(case hr=>first|(go_simp;done)|(go_simp;rfl));intro I hg_ Y hbox hb;have GEs:=Aside0.mk HB.out.size;have GEl:=Aside0.mk (Q3 D.out);have L:=Aside0.mk (Qo (g:=g1) (o:=.cells #[.slice A0 U c0,.slice A1 J c1] 27 (0,0)) D.out hb);have O:=Aside0.mk (Qt HB.out hb);have Z:=Aside0.mk hbox;clear HB D;have HB:=O;have B:=Z;have D:=L;clear O Z L;have X:=Aside0.mk (by rw[hg_];exact GEs.out:w.heap.size≤I);have NB:=Aside0.mk (by rw[hg_];exact Nat.ne_of_lt GEl.out:g1≠I);clear hb hbox hg_;have hnb:=NB.out;have γ:Y.cell? ⟨g1,0,none⟩=some (.slice A0 U c0):=(Qi D.out 0).trans rfl;have δ :Y.cell? ⟨g1,1,none⟩=some (.slice A1 J c1):=(Qi D.out 1).trans rfl;have ε :Y.cell? ⟨I,0,none⟩=some (.slice none 0 0):=(Qi B.out 0).trans rfl;have ζ :Y.cell? ⟨I,1,none⟩=some (.nilFunc):=(Qi B.out 1).trans rfl;have η :=Q6 B.out 0;have θ :=Q6 B.out 1))
  refine bodyPost_ret (results_cell_row rfl _ _ I 74 #[.slice A1 J c1,.func (.func 57) #[] #[]] (0,0) _ rfl (by refine Qw (cs:=#[.slice A1 J c1,.nilFunc]) ?_ 1 _ rfl;refine Qw (cs:=#[.slice none 0 0,.nilFunc]) ?_ 0 _ rfl;exact B.out) Try.underlying74 rfl kr) rfl ?_
  exact⟨rfl,Qd (Qd HB.out X.out) X.out⟩
set_option maxRecDepth 100000 in
set_option maxHeartbeats 1000000 in
theorem Jk (F C:Int) (w:World):
    Calls Try.prog 29 #[.agg #[.int .i64 F,.int .i64 C]] w fun e w'=>∃ g:Nat,e = .returned (.func (.func 50) #[] #[.pointer (some ⟨g,0,none⟩)])∧w'.heap[g]?=some (.cells #[.int .i64 F,.int .i64 C] 23 (0,0))∧w.heap.size≤g∧Below w.heap.size w w':=by
  have HB:=Aside0.mk (Below.refl w.heap.size w)
  go_enter Try.func29,Try.ntmps29
  go_wp2_with (first|((with_reducible refine Qp (N:=1) rfl ?_);refine Q7 ?hg (N:=1) ?hd (cs:=#[.int .i64 F,.int .i64 C]) (t:=23) ?hr ?_;(case hd=>rfl);(case hg=>rfl);(case hr=>first|(go_simp;done)|(go_simp;rfl));intro g1 hg_ w1 hbox hb;have GEs:=Aside0.mk HB.out.size;have O:=Aside0.mk (Qt HB.out hb);have Z:=Aside0.mk hbox;clear HB;have HB:=O;have D:=Z;clear O Z;have B:=Aside0.mk (by rw[hg_];exact GEs.out:w.heap.size≤g1);clear hb hbox hg_))
  go_ret
  exact⟨_,rfl,D.out,B.out,HB.out⟩
end Go.Proofs.Ytjehhhlhalkieaa.C
namespace Go.Proofs.Ytjehhhlhalkieaa.C
open Go.RowKit Go.Proofs.YtjehhhlhalkieaaW.PrintWords Go.Proofs.YtjehhhlhalkieaaW.PrintLast Go.Proofs.YtjehhhlhalkieaaW.PrintMore
set_option linter.unusedVariables false
def small (n:Nat) (C:Int):Bool:=decide (n<1000000000 ∧ -9223372036854775808≤C∧C≤9223372036854775807)
def rightP_H.f (B:List S56) (I:List S62) (J D:Int):Option Bool:=if small B.length D=true then some (Call.Zs (fun x=>Xq J D x.f0 x.f1 x.f2) Call.ltH none B) else none
theorem rightP_H.calls (ζ :Option Addr) (γ:Nat) (B:List S56) (η :Option Addr) (ε :Nat) (I:List S62) (J D:Int) (r:Bool) (w:World) (b4:Kd.C k56 w ζ B.length B) (b5:B.length≤γ) (b6:Kd.C k62 w η I.length I) (b7:I.length ≤ ε) (h:rightP_H.f B I J D=some r) (g:Nat) (hg:w.heap[g]?=some (.cells #[.int .i64 J,.int .i64 D] 23 (0,0))):
    Calls Try.prog 42 #[.agg #[.slice ζ B.length γ,.func (.func 51) #[] #[]],.func (.func 61) #[] #[.pointer (some ⟨g,0,none⟩)]] w fun e w'=>e = .returned (.bool r)∧Below w.heap.size w w':=by
  unfold rightP_H.f at h
  split at h
  case isFalse=>cases h
  case isTrue hs=>
  cases h
  obtain⟨hl,hb⟩:=of_decide_eq_true hs
  have Z:=Jp J D hb
  have e2:=Jo J D hb
  refine api_Hall_right.calls (2 * B.length+1) ζ γ B 0 (tok J D) _ w b4 b5 ?_ g ?_
  · rw[Call.Lj B _ 0 (by omega) _ (by omega),Z,e2]
  · rw[Z,e2];exact hg
def rightP_I.f (B:List S56) (I:List S62) (J D:Int):Option Bool:=if small I.length D=true then some (Call.Zs (fun x=>Yw J D x.f0 x.f1) Call.ltI none I) else none
theorem rightP_I.calls (ζ :Option Addr) (γ:Nat) (B:List S56) (η :Option Addr) (ε :Nat) (I:List S62) (J D:Int) (r:Bool) (w:World) (b4:Kd.C k56 w ζ B.length B) (b5:B.length≤γ) (b6:Kd.C k62 w η I.length I) (b7:I.length ≤ ε) (h:rightP_I.f B I J D=some r) (g:Nat) (hg:w.heap[g]?=some (.cells #[.int .i64 J,.int .i64 D] 23 (0,0))):
    Calls Try.prog 43 #[.agg #[.slice η I.length ε,.func (.func 57) #[] #[]],.func (.func 50) #[] #[.pointer (some ⟨g,0,none⟩)]] w fun e w'=>e = .returned (.bool r)∧Below w.heap.size w w':=by
  unfold rightP_I.f at h
  split at h
  case isFalse=>cases h
  case isTrue hs=>
  cases h
  obtain⟨hl,hb⟩:=of_decide_eq_true hs
  have Z:=Jp J D hb
  have e2:=Jo J D hb
  refine api_Inside_right.calls (2 * I.length+1) η ε I 0 (tok J D) _ w b6 b7 ?_ g ?_
  · rw[Call.Li I _ 0 (by omega) _ (by omega),Z,e2]
  · rw[Z,e2];exact hg
end Go.Proofs.Ytjehhhlhalkieaa.C
namespace Go.Proofs.Ytjehhhlhalkieaa.C
open Go.RowKit Go.Proofs.YtjehhhlhalkieaaW.PrintWords Go.Proofs.YtjehhhlhalkieaaW.PrintLast Go.Proofs.YtjehhhlhalkieaaW.PrintMore
attribute [local go_sem] Z4 Z2 Xe Xd Zx Zw Z3 Z1
set_option linter.unusedVariables false
set_option linter.unusedSimpArgs false
def api_Hall_set.j0:Nat→List (S56)→Option ((List (S56)))
 |0,_=>none
 |k+1,I=>some I
def api_Hall_set.f (k:Nat) (J:List (S56)) (D:Int) (I:Int) (L:Int) (X:Int):Option ((List (S56))):=(api_Hall_55.f J).bind fun Y=>((api_Hall_62.f k Y I L X D).bind fun Z=>(if Z.2=true then (if 0≤Z.1 then (if Z.1<(Y.length:Int) then (api_Hall_set.j0 k (Y.set (Z.1:Int).toNat (⟨I,L,X⟩:S56))) else (none)) else (none)) else (api_Hall_set.j0 k Y)))
theorem api_Hall_set.Zn:∀ k,(∀ I,LeO (api_Hall_set.j0 k I) (api_Hall_set.j0 (k+1) I))
 |0=>fun _ r h=>by simp[api_Hall_set.j0] at h
 |k+1=>by
  have B:=api_Hall_set.Zn k
  ·intro I
   unfold api_Hall_set.j0
   repeat' first
   |(with_reducible exact B _)
   |(with_reducible exact api_Hall_62.mono _ _ _ _ _ _)
   |(with_reducible exact LeO.refl _)
   |(with_reducible exact LeO.none _)
   |(with_reducible refine LeO.ite ?_ ?_)
   |(with_reducible refine LeO.bind ?_ (fun _=>?_))
   |exact B _
   |exact api_Hall_62.mono _ _ _ _ _ _
   |exact LeO.none _
   |refine LeO.ite ?_ ?_
   |refine LeO.bind ?_ (fun _=>?_)
theorem api_Hall_set.mono:∀ D L a2 X I k,LeO (api_Hall_set.f k D L a2 X I) (api_Hall_set.f (k+1) D L a2 X I):=by
 intro D L a2 X I k
 have B:=api_Hall_set.Zn k
 unfold api_Hall_set.f
 repeat' first
   |(with_reducible exact B _)
   |(with_reducible exact api_Hall_62.mono _ _ _ _ _ _)
   |(with_reducible exact LeO.refl _)
   |(with_reducible exact LeO.none _)
   |(with_reducible refine LeO.ite ?_ ?_)
   |(with_reducible refine LeO.bind ?_ (fun _=>?_))
   |exact B _
   |exact api_Hall_62.mono _ _ _ _ _ _
   |exact LeO.none _
   |refine LeO.ite ?_ ?_
   |refine LeO.bind ?_ (fun _=>?_)
set_option maxHeartbeats 8000000 in
set_option maxRecDepth 100000 in
theorem api_Hall_set.calls (k:Nat) (μ :Option Addr) (θ :Nat) (J:List (S56)) (D:Int) (I:Int) (L:Int) (X:Int) (r:List (S56)) (w:World) (a2:Kd.C k56 w μ J.length J) (a6:J.length ≤ θ) (h:api_Hall_set.f k J D I L X=some r):
  Calls Try.prog 47 #[.agg #[.slice μ J.length θ,.func (.func 51) #[] #[]],.agg #[.int .i64 I,.int .i64 L,.int .i64 X]] w fun e w'=>∃ ω :Value,e = .returned (ω)∧Kd.R k56 56 w' w.heap.size (fun _=>True) ω r∧Below w.heap.size w w':=by
 have bs:=Try.underlying69
 have ay:=Try.underlying56
 have ψ :=Aside0.mk a2
 have a8:=Aside0.mk a6
 clear a2 a6
 have HB:=Aside0.mk (Below.refl w.heap.size w)
 have H:((api_Hall_55.f J).bind fun Y=>((api_Hall_62.f k Y I L X D).bind fun Z=>(if Z.2=true then (if 0≤Z.1 then (if Z.1<(Y.length:Int) then (api_Hall_set.j0 k (Y.set (Z.1:Int).toNat (⟨I,L,X⟩:S56))) else (none)) else (none)) else (api_Hall_set.j0 k Y))))=some r:=h
 clear h
 replace H:=Option.bind_eq_some_iff.mp H
 obtain⟨Y,ac,H⟩:=H
 replace H:((api_Hall_62.f k Y I L X D).bind fun Z=>(if Z.2=true then (if 0≤Z.1 then (if Z.1<(Y.length:Int) then (api_Hall_set.j0 k (Y.set (Z.1:Int).toNat (⟨I,L,X⟩:S56))) else (none)) else (none)) else (api_Hall_set.j0 k Y)))=some r:=H
 have A3:=Aside0.mk ac
 clear ac
 replace H:=Option.bind_eq_some_iff.mp H
 obtain⟨⟨ν,σ⟩,bv,H⟩:=H
 replace H:(if σ=true then (if 0 ≤ ν then (if ν < (Y.length:Int) then (api_Hall_set.j0 k (Y.set (ν :Int).toNat (⟨I,L,X⟩:S56))) else (none)) else (none)) else (api_Hall_set.j0 k Y))=some r:=H
 have A4:=Aside0.mk bv
 clear bv
 have bz:=Aside0.mk H
 clear H
 go_enter Try.func47,Try.ntmps47
 go_upto_if 19 with(first|((with_reducible refine Qp (N:=2) rfl ?_);refine qE 2 #[.slice μ J.length θ,.func (.func 51) #[] #[]] 69 ?_;intro ξ hg w6 hbox hb;have U:=Aside0.mk hbox;have bl:=sGe hg;have b9:=sGe hg;replace HB:=sHb hb;clear hb hbox hg)|((with_reducible refine Qp (N:=3) rfl ?_);refine qE 3 #[.int .i64 I,.int .i64 L,.int .i64 X] 56 ?_;intro ι hg w7 hbox hb;have O:=Aside0.mk hbox;have bu:=sGe hg;have bw:=sGe hg;have κ :=sNl U hg;have a1:=sNg U hg;replace U:=sBk U hb;replace HB:=sHb hb;clear hb hbox hg;have bc:= κ.out;have cd:=a1.out;obtain⟨ae,bh,bi,bj⟩:=qD2 U.out)|((with_reducible refine Q1 (f:=55) rfl ?_);refine Zp (some 10) rfl rfl Try.func55 kr rfl #[.slice μ J.length θ] rfl qM ?_;(with_reducible refine(api_Hall_55.calls _ _ J Y _ ?side1 ?side2 A3.out).mono ?_);(case side1=>exact(Kd.Qz ψ.out HB.out));(case side2=>exact a8.out);rintro e cu ⟨ch,rfl,ρ,hb⟩;refine⟨_,rfl, ?_⟩;have B:=Aside0.mk (Kd.Q2 (Kd.Xx ρ (g:= ι) (o:=.cells #[.int .i64 I,.int .i64 L,.int .i64 X] 56 (0,0)) O.out) (Qj HB.out));replace U:=sBk U hb;replace O:=sBk O hb;replace HB:=sHb hb;(try clear hb);(try clear a0);(try clear hk);(try clear hi);(try clear ρ);obtain⟨af,aj,ar,bf,bg,au⟩:=qD3 O.out;obtain⟨b0,b1,b2,b3⟩:=qD2 U.out;obtain⟨ap,a3,av⟩:=Kd.Q5 B.out;subst av)|((with_reducible refine Q1 (f:=62) rfl ?_);refine Zp (some 16) rfl rfl Try.func62 kr rfl #[.slice ap Y.length a3,.agg #[.int .i64 I,.int .i64 L,.int .i64 X],.func (.func 51) #[] #[]] rfl qM ?_;(with_reducible refine(api_Hall_62.calls k _ _ Y I L X D ν σ _ ?side1 ?side2 A4.out).mono ?_);(case side1=>exact(Kd.Qq B.out).2.2);(case side2=>exact(Kd.Qq B.out).2.1);rintro e bb ⟨rfl,hb⟩;refine⟨_,rfl, ?_⟩;replace B:=sRb B hb;replace U:=sBk U hb;replace O:=sBk O hb;replace HB:=sHb hb;(try clear hb);(try clear a0);(try clear hk);(try clear hi)))
 (try simp only[Act.put,qS])
 go_cut [] (fun wc=>∃ (kq:Nat) (az:List (S56)) (η :Int) (φ :Int) (χ :Int),Aside0 (api_Hall_set.j0 kq az=some r)∧Aside0 (kq≤k)∧Aside0 (Kd.R k56 56 wc w.heap.size (fun k_=>k_ ≠ ι) (.slice ap Y.length a3) az)∧Aside0 (wc.heap[ξ]?=some (.cells #[(.slice μ J.length θ),.func (.func 51) #[] #[]] 69 (0,0)))∧Aside0 (wc.heap[ι]?=some (.cells #[.int .i64 η,.int .i64 φ,.int .i64 χ] 56 (0,0)))∧Aside0 (Below w.heap.size w wc))
 case first=>
  have H:=bz.out
  clear bz
  by_cases a4:σ=true
  ·subst a4
   have H1:(if 0 ≤ ν then (if ν < (Y.length:Int) then (api_Hall_set.j0 k (Y.set (ν :Int).toNat (⟨I,L,X⟩:S56))) else (none)) else (none))=some r:=by rw[if_pos rfl] at H;exact H
   clear H
   have H:=H1
   clear H1
   by_cases an:0 ≤ ν
   ·rw[if_pos an] at H
    have c16b0:decide (0 ≤ ν)=true:=decide_eq_true an
    clear an
    (first|rw[c16b0]|(simp only[Zg,Zj];rw[c16b0])|skip)
    by_cases a5: ν < (Y.length:Int)
    ·rw[if_pos a5] at H
     have c17b0:decide (ν < (Y.length:Int))=true:=decide_eq_true a5
     clear a5
     obtain⟨ag,ζ⟩:∃ y_:List (S56),y_=(Y.set (ν :Int).toNat (⟨I,L,X⟩:S56)):=⟨_,rfl⟩
     replace H:(api_Hall_set.j0 k ag)=some r:=by first|(rw[ζ];with_reducible exact H)|(have δ :=(Option.bind_some _ _).symm.trans H;rw[ζ];with_reducible exact δ)|(have δ :=(Option.bind_some _ _).symm.trans H;with_reducible exact δ)|with_reducible exact H|(rw[ζ];exact H)|exact H
     have aw:=Aside0.mk ζ
     clear ζ
     have H':=Aside0.mk H
     clear H
     have ci:=a1.out
     have cx:= κ.out
     obtain⟨ah,ak,b8,bd,be,bn⟩:=qD3 O.out
     have am:0≤(ν :Int):=of_decide_eq_true (by assumption)
     have ao:(ν :Int)<((Y.length:Int):Int):=of_decide_eq_true (by assumption)
     obtain⟨γ,d9,b4,b5,bk,da,b6⟩:=Kd.Wt B.out (by omega)
     (first|cases b4|(injection b4 with ea_ en_ ec_;(first|subst ea_|(injection ea_ with ea_;subst ea_));subst ec_;clear en_))
     have ai:=Aside0.mk b5
     have db:=Aside0.mk b6
     clear b5 bk b6
     obtain⟨dd,ba,b7,τ,aa⟩:=Kd.Ge B.out z56 (ν :Int) am ao
     obtain rfl:=Y2 b7
     have bo:bb.cell? ⟨γ,(ν :Int).toNat * 3,none⟩=some (.int .i64 ((Qa Y ν).f0)):= τ 0 _ rfl
     have bq:bb.cell? ⟨γ,(ν :Int).toNat * 3+1,none⟩=some (.int .i64 ((Qa Y ν).f1)):= τ 1 _ rfl
     have co:bb.cell? ⟨γ,(ν :Int).toNat * 3+2,none⟩=some (.int .i64 ((Qa Y ν).f2)):= τ 2 _ rfl
     have cq:bb.frozen? ⟨γ,(ν :Int).toNat * 3,none⟩=false:=aa 0
     have ct:bb.frozen? ⟨γ,(ν :Int).toNat * 3+1,none⟩=false:=aa 1
     have de:bb.frozen? ⟨γ,(ν :Int).toNat * 3+2,none⟩=false:=aa 2
     clear ba τ aa b7
     replace am:=eq_true am
     replace ao:=eq_true ao
     have n_:=Aside0.mk (Kd.Qr (ok':=(fun k_=>k_ ≠ ι)) B.out (fun k_ hk=>hk.2))
     clear B
     have B:=n_
     clear n_
     have ca:=Aside0.mk (show Kd.R k56 56 bb w.heap.size (fun k_=>k_ ≠ ι) (.slice (some ⟨γ,0,none⟩) Y.length a3) Y from B.out)
     obtain⟨cj,br,cb,ε,a7⟩:=Kd.Ge ca.out z56 (ν :Int) (of_decide_eq_true (by assumption)) (by have h_:(ν :Int)<((Y.length:Int):Int):=of_decide_eq_true (by assumption);first|exact h_|(have e_:=(Kd.Qq B.out).1;omega)|simpa using h_)
     obtain rfl:=Y2 cb
     have bp:=Kd.Nc ca.out (ν :Int) (of_decide_eq_true (by assumption)) (by have h_:(ν :Int)<((Y.length:Int):Int):=of_decide_eq_true (by assumption);first|exact h_|(have e_:=(Kd.Qq B.out).1;omega)|simpa using h_) (seg:=[.int .i64 I,.int .i64 L,.int .i64 X]) (j:=0) br ε (show 3≤3 from by decide) (x':=(⟨I,L,X⟩:S56)) (Xi _ _ _ (⟨I,L,X⟩:S56)) (fun _ hk=>hk)
     have ab:= ε 0 _ rfl
     (try simp only[show(k56).sz=3 from rfl,Nat.mul_one,Nat.add_zero] at ab)
     have ce:=a7 0
     (try simp only[show(k56).sz=3 from rfl,Nat.mul_one,Nat.add_zero] at ce)
     have al:= ε 1 _ rfl
     (try simp only[show(k56).sz=3 from rfl,Nat.mul_one,Nat.add_zero] at al)
     have cf:=a7 1
     (try simp only[show(k56).sz=3 from rfl,Nat.mul_one,Nat.add_zero] at cf)
     have ax:= ε 2 _ rfl
     (try simp only[show(k56).sz=3 from rfl,Nat.mul_one,Nat.add_zero] at ax)
     have cg:=a7 2
     (try simp only[show(k56).sz=3 from rfl,Nat.mul_one,Nat.add_zero] at cg)
     clear br ε a7 cb
     go_wp2_with (first|((with_reducible refine Ko (t:=56) (p:=23) rfl ?_);refine J4 (t:=56) (p:=23) (v:=?vo_w22) (w1:=(((bb.setCell ⟨γ,(ν :Int).toNat * 3,none⟩ (.int .i64 I)).setCell ⟨γ,(ν :Int).toNat * 3+1,none⟩ (.int .i64 L)).setCell ⟨γ,(ν :Int).toNat * 3+2,none⟩ (.int .i64 X))) ?hg ?ho ?hn ?hr ?_;(case ho=>rfl);(case hg=>rfl);(case hn=>rfl);(case hr=>go_simp <;> rfl);intro dr hw;have hg:bb.grownBy dr (some γ):=(by rw[hw];exact bp.2);have hp_:Kd.R k56 56 dr w.heap.size (fun k_=>k_ ≠ ι) (.slice (some ⟨γ,0,none⟩) Y.length a3) ag:=(by rw[hw,aw.out];exact bp.1);clear bp;replace U:=Aside0.mk (Q8 (g:= ξ) (o:=.cells #[.slice μ J.length θ,.func (.func 51) #[] #[]] 69 (0,0)) U.out hg (Kd.Yx B.out U.out (by decide)));replace O:=Aside0.mk (Q8 (g:= ι) (o:=.cells #[.int .i64 I,.int .i64 L,.int .i64 X] 56 (0,0)) O.out hg (Kd.Xk B.out (fun _ hk=>hk)));replace B:=Aside0.mk hp_;replace HB:=Aside0.mk ((by rw[hw];exact Qd (Qd (Qd (HB.out) ai.out) ai.out) ai.out:Below w.heap.size w dr));clear hg hw hp_))
     go_meet
     case rel=>exact⟨_,(ag),(I),(L),(X),H',⟨by first|omega|exact Nat.le_refl _⟩,⟨by(with_reducible repeat first|apply Kd.Qm|apply Kd.Ql|apply Kd.Qn);exact B.out⟩,U,O,HB⟩
    ·rw[if_neg a5] at H
     exact absurd H (by simp)
   ·rw[if_neg an] at H
    exact absurd H (by simp)
  ·replace a4:=Bool.eq_false_iff.mpr a4
   subst a4
   have H1:(api_Hall_set.j0 k Y)=some r:=by rw[if_neg (show ¬ (false=true) by decide)] at H;exact H
   clear H
   have H:=H1
   clear H1
   have H':=Aside0.mk H
   clear H
   go_wp2
   go_meet
   case rel=>exact⟨_,(Y),(I),(L),(X),H',⟨by first|omega|exact Nat.le_refl _⟩,⟨by(with_reducible repeat first|apply Kd.Qm|apply Kd.Ql|apply Kd.Qn);exact Kd.Qr B.out (fun _ hk=>hk.2)⟩,U,O,HB⟩
 case rest=>
  clear bz
  try clear c1
  try clear p1
  try clear q1
  try clear bm
  try clear c2
  try clear p2
  try clear ec
  try clear cp
  try clear c4
  try clear c5
  try clear c6
  try clear c8
  try clear a4
  try clear an
  try clear c16b0
  try clear a5
  try clear c17b0
  try clear cw
  try clear am
  try clear ao
  try clear ck
  try clear cm
  try clear e0
  try clear cv
  try clear dz
  try clear cn
  try clear af
  try clear aj
  try clear ar
  try clear b0
  try clear b1
  try clear ah
  try clear ak
  try clear b8
  try clear ae
  try clear bh
  try clear bf
  try clear bg
  try clear au
  try clear b2
  try clear b3
  try clear bd
  try clear be
  try clear bn
  try clear bi
  try clear bj
  try clear bo
  try clear bq
  try clear co
  try clear ab
  try clear al
  try clear ax
  try clear am
  try clear ao
  obtain⟨kq,az,η,φ,χ,HA,cr,HO_5,U,O,HB⟩:=hcut
  have a9:=(Kd.Qq HO_5.out).1
  rw[a9] at HO_5
  (try simp only[a9])
  (try simp only[a9] at U)
  (try simp only[a9] at O)
  cases kq with
  |zero=>exact absurd HA.out (by simp[api_Hall_set.j0])
  |succ cy=>
   have H:=HA.out
   clear HA
   simp only[api_Hall_set.j0] at H
   obtain rfl:=Option.some.inj H
   go_wp2
   go_ret
   exact⟨_,rfl,by(with_reducible repeat first|apply Kd.Qm|apply Kd.Ql|apply Kd.Qn);exact Kd.Qr HO_5.out (fun _ hk=>trivial),HB.out⟩
end Go.Proofs.Ytjehhhlhalkieaa.C
namespace Go.Proofs.Ytjehhhlhalkieaa.C
open Go.RowKit Go.Proofs.YtjehhhlhalkieaaW.PrintWords Go.Proofs.YtjehhhlhalkieaaW.PrintLast Go.Proofs.YtjehhhlhalkieaaW.PrintMore
set_option linter.unusedVariables false
def hallP.f (D J X F C:Int):Option Bool:=some (Xq F C D J X)
def insP.f (D J F C:Int):Option Bool:=some (Yw F C D J)
def woP_H.f (D J X:Int) (l:List S56):Option (List S56):=if small l.length J=true then some (woH D J X l) else none
def woP_I.f (D J:Int) (l:List S62):Option (List S62):=if small l.length J=true then some (woI D J l) else none
def Um (x:S56) (l:List S56):List S56:=l.map (fun y=>if y.f0=x.f0∧y.f1=x.f1 then x else y)
def setP_H.f (D J X:Int) (l:List S56):Option (List S56):=if small l.length J=true∧Call.Zs (fun _=>true) Call.ltH none l=true then some (Um ⟨D,J,X⟩ l) else none
theorem J3 (A0:Option Addr) (c:Nat) (l:List S56) (D J X:Int) (t:List S56) (W:World) (hr:Kd.C k56 W A0 l.length l) (hc:l.length≤c) (h:woP_H.f D J X l=some t):
    Calls Try.prog 31 #[.agg #[.slice A0 l.length c,.func (.func 51) #[] #[]],.agg #[.int .i64 D,.int .i64 J,.int .i64 X]] W fun e w'=>∃ ω :Value,e = .returned ω ∧ Kd.R k56 56 w' W.heap.size (fun _=>True) ω t∧Below W.heap.size W w':=by
  unfold woP_H.f at h
  split at h
  case isFalse=>cases h
  case isTrue hs=>
  cases h
  obtain⟨hl,hb⟩:=of_decide_eq_true hs
  exact Vz A0 c l D J X W hr hc hl hb
theorem Jg (A0:Option Addr) (c:Nat) (l:List S62) (D J:Int) (t:List S62) (W:World) (hr:Kd.C k62 W A0 l.length l) (hc:l.length≤c) (h:woP_I.f D J l=some t):
    Calls Try.prog 36 #[.agg #[.slice A0 l.length c,.func (.func 57) #[] #[]],.agg #[.int .i64 D,.int .i64 J]] W fun e w'=>∃ ω :Value,e = .returned ω ∧ Kd.R k62 62 w' W.heap.size (fun _=>True) ω t∧Below W.heap.size W w':=by
  unfold woP_I.f at h
  split at h
  case isFalse=>cases h
  case isTrue hs=>
  cases h
  obtain⟨hl,hb⟩:=of_decide_eq_true hs
  exact Vy A0 c l D J W hr hc hl hb
theorem Uk (x:S56) (l:List S56):(Um x l).length=l.length:=by unfold Um;simp
theorem Ul (x:S56) (l:List S56) (m:Nat) (h:m<l.length) (O:m<(Um x l).length):(Um x l)[m]=if l[m].f0=x.f0∧l[m].f1=x.f1 then x else l[m]:=by
  simp only[Um,List.getElem_map]
theorem Lh (l:List S56) (x:S56) (p:Nat) (hs:l.Pairwise (fun x y=>Call.ltH x y=true)) (hp:Call.Ve l x.f0 x.f1 p):
    Call.Gc l x.f0 x.f1 p=true→l.set p x=Um x l:=by
  intro h
  unfold Call.Gc at h
  obtain⟨h1,O,L⟩:=hp
  rcases Nat.lt_or_ge p l.length with hlt|hge
  case inr=>rw[List.getElem?_eq_none hge] at h;simp at h
  rw[List.getElem?_eq_getElem hlt] at h
  have he:Zz l[p].f0 l[p].f1 x.f0 x.f1=0:=by simpa using h
  rw[Call.Xt] at he
  apply List.ext_getElem
  · rw[Uk];simp
  intro m B D
  rw[List.length_set] at B
  rw[List.getElem_set,Ul x l m B D]
  by_cases hm:p=m
  · subst hm
    rw[if_pos rfl,if_pos he]
  · rw[if_neg hm,if_neg]
    intro hq
    rcases Nat.lt_or_ge m p with U|J
    · have:=List.pairwise_iff_getElem.1 hs m p B hlt U
      rw[Call.Ya] at this
      omega
    · have:=List.pairwise_iff_getElem.1 hs p m hlt B (by omega)
      rw[Call.Ya] at this
      omega
theorem Mf (l:List S56) (x:S56) (p:Nat) (hs:l.Pairwise (fun x y=>Call.ltH x y=true)) (hp:Call.Ve l x.f0 x.f1 p):
    Call.Gc l x.f0 x.f1 p=false→l=Um x l:=by
  intro h
  unfold Call.Gc at h
  obtain⟨h1,O,L⟩:=hp
  have key:∀ m:Nat,(hm:m<l.length) → ¬ (l[m].f0=x.f0∧l[m].f1=x.f1):=by
    intro m hm hq
    rw[← Call.Xt] at hq
    rcases Nat.lt_or_ge m p with hlt|hge
    · have:=O l[m] (List.mem_iff_getElem.2 ⟨m,by rw[List.length_take];omega,by rw[List.getElem_take]⟩)
      omega
    · rcases Nat.lt_or_ge p m with U|J
      · have g1:=List.pairwise_iff_getElem.1 hs p m (by omega) hm U
        have I:=L l[p] (List.mem_iff_getElem.2 ⟨0,by rw[List.length_drop];omega,by rw[List.getElem_drop];simp⟩)
        rw[Call.Ya] at g1
        rw[Call.Xt] at hq
        rw[Call.X0] at I
        omega
      · have hpm:p=m:=by omega
        subst hpm
        rw[List.getElem?_eq_getElem hm] at h
        simp[hq] at h
  apply List.ext_getElem
  · rw[Uk]
  intro m B D
  rw[Ul x l m B D,if_neg (key m B)]
theorem V0 (A0:Option Addr) (c:Nat) (l:List S56) (D J X:Int) (t:List S56) (W:World) (hr:Kd.C k56 W A0 l.length l) (hc:l.length≤c) (h:setP_H.f D J X l=some t):
    Calls Try.prog 47 #[.agg #[.slice A0 l.length c,.func (.func 51) #[] #[]],.agg #[.int .i64 D,.int .i64 J,.int .i64 X]] W fun e w'=>∃ ω :Value,e = .returned ω ∧ Kd.R k56 56 w' W.heap.size (fun _=>True) ω t∧Below W.heap.size W w':=by
  unfold setP_H.f at h
  split at h
  case isFalse=>cases h
  case isTrue hs=>
  cases h
  obtain⟨hl,hb⟩:=of_decide_eq_true hs.1
  have hso:=((Call.Ji (fun _=>true) l).1 hs.2).2
  refine api_Hall_set.calls (l.length+2) A0 c l 0 D J X _ W hr hc ?_
  unfold api_Hall_set.f api_Hall_55.f
  rw[if_pos hl]
  simp only[Option.bind_some]
  obtain⟨p,hp,e⟩:=Call.G2 l D J X 0 (by omega) hso (l.length+2) (by omega)
  obtain⟨b,hm⟩:∃ b,Call.Gc l D J p=b:=⟨_,rfl⟩
  rw[hm] at e
  rw[e]
  simp only[Option.bind_some]
  cases b
  · rw[if_neg (by decide)]
    simp only[api_Hall_set.j0]
    congr 1
    exact Mf l ⟨D,J,X⟩ p hso hp hm
  · have hlt:p<l.length:=by
      rcases Nat.lt_or_ge p l.length with h|h
      · exact h
      · unfold Call.Gc at hm;rw[List.getElem?_eq_none h] at hm;simp at hm
    rw[if_pos rfl,if_pos (by omega),if_pos (by omega)]
    simp only[api_Hall_set.j0,Int.toNat_natCast]
    congr 1
    exact Lh l ⟨D,J,X⟩ p hso hp hm
end Go.Proofs.Ytjehhhlhalkieaa.C
namespace Go.Proofs.Ytjehhhlhalkieaa.C
open Go.RowKit Go.Proofs.YtjehhhlhalkieaaW.PrintWords Go.Proofs.YtjehhhlhalkieaaW.PrintLast Go.Proofs.YtjehhhlhalkieaaW.PrintMore
attribute [local go_sem] Z4 Z2 Xe Xd Zx Zw Z3 Z1
set_option linter.unusedVariables false
set_option linter.unusedSimpArgs false
def call_Check.j0:Nat→Bool→Option (Int)
 |0,_=>none
 |k+1,I=>if I=true then (some 190) else (some 0)
def call_Check.f (k:Nat) (J:Int) (D:Int) (B:List (S56)) (I:List (S62)):Option (Int):=(call_within.f J 2 64).bind fun Y=>(if Y=true then ((call_within.f D 1 8).bind fun θ =>(if θ = true then ((rightP_H.f B I J D).bind fun L=>(if L=true then ((rightP_I.f B I J D).bind fun ν =>(call_Check.j0 k (!ν))) else (call_Check.j0 k true))) else (call_Check.j0 k true))) else (call_Check.j0 k true))
theorem call_Check.Zn:∀ k,(∀ I,LeO (call_Check.j0 k I) (call_Check.j0 (k+1) I))
 |0=>fun _ r h=>by simp[call_Check.j0] at h
 |k+1=>by
  have B:=call_Check.Zn k
  ·intro I
   unfold call_Check.j0
   repeat' first
   |(with_reducible exact B _)
   |(with_reducible exact LeO.refl _)
   |(with_reducible exact LeO.none _)
   |(with_reducible refine LeO.ite ?_ ?_)
   |(with_reducible refine LeO.bind ?_ (fun _=>?_))
   |exact B _
   |exact LeO.none _
   |refine LeO.ite ?_ ?_
   |refine LeO.bind ?_ (fun _=>?_)
theorem call_Check.mono:∀ D L a2 X k,LeO (call_Check.f k D L a2 X) (call_Check.f (k+1) D L a2 X):=by
 intro D L a2 X k
 have B:=call_Check.Zn k
 unfold call_Check.f
 repeat' first
   |(with_reducible exact B _)
   |(with_reducible exact LeO.refl _)
   |(with_reducible exact LeO.none _)
   |(with_reducible refine LeO.ite ?_ ?_)
   |(with_reducible refine LeO.bind ?_ (fun _=>?_))
   |exact B _
   |exact LeO.none _
   |refine LeO.ite ?_ ?_
   |refine LeO.bind ?_ (fun _=>?_)
def call_Check.T1:Bool×List (List Nat×List Nat):=(true,[([],[]),([0],[0]),([1],[1]),([2],[2]),([3,2],[3]),([4],[4]),([5,4],[4,5]),([6,4,4],[4,6]),([7,4],[4,7]),([4,8],[4,8]),([9,7],[9]),([10],[10]),([11,10,10],[10,11]),([10],[10]),([13,12,10],[10,13]),([12,14,14,10],[10,12,14]),([15,10],[10,15]),([10,16],[10,16]),([17,15],[17]),([18],[18]),([19,18,18],[18,19]),([18],[18]),([21,20,18],[18,21]),([20,22,22,18],[18,20,22]),([23,18],[18,23]),([18,24],[18,24])])
def call_Check.B1:List Nat:=[0,1,3,7,15,31,63,127,255,511,1023,2047,4095,2047,16383,32767,65535,131071,262143,524287,1048575,524287,4194303,8388607,16777215,33554431]
theorem call_Check.Gu:rtab .any (opsOf Try.f14 1)=call_Check.T1:=by kernel_rfl
theorem call_Check.J2:Zv call_Check.T1.2 call_Check.B1=true:=by kernel_rfl
set_option maxHeartbeats 8000000 in
set_option maxRecDepth 100000 in
theorem call_Check.calls (k:Nat) (J:Int) (D:Int) (ζ :Option Addr) (γ:Nat) (B:List (S56)) (η :Option Addr) (ε :Nat) (I:List (S62)) (r:Int) (w:World) (b4:Kd.C k56 w ζ B.length B) (b5:B.length≤γ) (b6:Kd.C k62 w η I.length I) (b7:I.length ≤ ε) (h:call_Check.f k J D B I=some r):
  Calls Try.prog 14 #[.agg #[.int .i64 J,.int .i64 D],.agg #[.slice ζ B.length γ,.slice η I.length ε]] w fun e w'=>e = .returned (.int .i64 r)∧Below w.heap.size w w':=by
 have dk:=Try.underlying23
 have d6:=Try.underlying27
 have ag:=Aside0.mk b4
 have ar:=Aside0.mk b5
 clear b4 b5
 have ai:=Aside0.mk b6
 have au:=Aside0.mk b7
 clear b6 b7
 have HB:=Aside0.mk (Below.refl w.heap.size w)
 have H:((call_within.f J 2 64).bind fun Y=>(if Y=true then ((call_within.f D 1 8).bind fun θ =>(if θ = true then ((rightP_H.f B I J D).bind fun L=>(if L=true then ((rightP_I.f B I J D).bind fun ν =>(call_Check.j0 k (!ν))) else (call_Check.j0 k true))) else (call_Check.j0 k true))) else (call_Check.j0 k true)))=some r:=h
 clear h
 have ac:=Aside0.mk H
 clear H
 go_enter Try.func14,Try.ntmps14
 go_upto_region 1 with(first|((with_reducible refine Qp (N:=2) rfl ?_);refine qE 2 #[.int .i64 J,.int .i64 D] 23 ?_;intro ξ hg w4 hbox hb;have U:=Aside0.mk hbox;have bl:=sGe hg;have b9:=sGe hg;replace HB:=sHb hb;clear hb hbox hg)|((with_reducible refine Qp (N:=3) rfl ?_);refine qE 3 #[.slice ζ B.length γ,.slice η I.length ε] 27 ?_;intro ι hg w5 hbox hb;have O:=Aside0.mk hbox;have bu:=sGe hg;have bw:=sGe hg;have κ :=sNl U hg;have a1:=sNg U hg;replace U:=sBk U hb;replace HB:=sHb hb;clear hb hbox hg))
 (try simp only[Act.put,qS])
 go_cut [30] (fun σ wc=>∃ (kq:Nat) (X:Bool),σ = .bool X∧Aside0 (call_Check.j0 kq X=some r)∧Aside0 (kq≤k)∧Aside0 (wc.heap[ξ]?=some (.cells #[.int .i64 J,.int .i64 D] 23 (0,0)))∧Aside0 (wc.heap[ι]?=some (.cells #[(.slice ζ B.length γ),(.slice η I.length ε)] 27 (0,0)))∧Aside0 (Below w.heap.size w wc))
 case first=>
  have H:=ac.out
  clear ac
  replace H:=Option.bind_eq_some_iff.mp H
  obtain⟨Y,ch,H⟩:=H
  replace H:(if Y=true then ((call_within.f D 1 8).bind fun θ =>(if θ = true then ((rightP_H.f B I J D).bind fun L=>(if L=true then ((rightP_I.f B I J D).bind fun ν =>(call_Check.j0 k (!ν))) else (call_Check.j0 k true))) else (call_Check.j0 k true))) else (call_Check.j0 k true))=some r:=H
  have A6:=Aside0.mk ch
  clear ch
  by_cases c7:Y=true
  ·subst c7
   have H1:((call_within.f D 1 8).bind fun θ =>(if θ = true then ((rightP_H.f B I J D).bind fun L=>(if L=true then ((rightP_I.f B I J D).bind fun ν =>(call_Check.j0 k (!ν))) else (call_Check.j0 k true))) else (call_Check.j0 k true)))=some r:=by rw[if_pos rfl] at H;exact H
   clear H
   have H:=H1
   clear H1
   replace H:=Option.bind_eq_some_iff.mp H
   obtain⟨θ,e8,H⟩:=H
   replace H:(if θ = true then ((rightP_H.f B I J D).bind fun L=>(if L=true then ((rightP_I.f B I J D).bind fun ν =>(call_Check.j0 k (!ν))) else (call_Check.j0 k true))) else (call_Check.j0 k true))=some r:=H
   have A8:=Aside0.mk e8
   clear e8
   by_cases c9: θ = true
   ·subst c9
    have H1:((rightP_H.f B I J D).bind fun L=>(if L=true then ((rightP_I.f B I J D).bind fun ν =>(call_Check.j0 k (!ν))) else (call_Check.j0 k true)))=some r:=by rw[if_pos rfl] at H;exact H
    clear H
    have H:=H1
    clear H1
    replace H:=Option.bind_eq_some_iff.mp H
    obtain⟨L,fj,H⟩:=H
    replace H:(if L=true then ((rightP_I.f B I J D).bind fun ν =>(call_Check.j0 k (!ν))) else (call_Check.j0 k true))=some r:=H
    have f9:=Aside0.mk fj
    clear fj
    by_cases cb:L=true
    ·subst cb
     have H1:((rightP_I.f B I J D).bind fun ν =>(call_Check.j0 k (!ν)))=some r:=by rw[if_pos rfl] at H;exact H
     clear H
     have H:=H1
     clear H1
     replace H:=Option.bind_eq_some_iff.mp H
     obtain⟨ν,cd,H⟩:=H
     replace H:(call_Check.j0 k (!ν))=some r:=H
     have cw:=Aside0.mk cd
     clear cd
     have H':=Aside0.mk H
     clear H
     try go_wp2
     replace U:=Aside0.mk (Qb U.out)
     replace O:=Aside0.mk (Qb O.out)
     replace HB:=Aside0.mk (Qe HB.out)
     refine Ze (n:=26) (S:=fun w'=>w'.cell? ⟨ξ,0,none⟩=some (.int .i64 J)∧w'.cell? ⟨ξ,1,none⟩=some (.int .i64 D)∧w'.cell? ⟨ι,0,none⟩=some (.slice ζ B.length γ)∧w'.cell? ⟨ι,1,none⟩=some (.slice η I.length ε)) (ds:=[]) #[false,false,false,false,false,false,false,false,false,false,false,false,false,false,false,false,false,false,false,false,false,false,false,false,false,false] kr rfl rfl ⟨(Qi U.out 0).trans rfl,(Qi U.out 1).trans rfl,(Qi O.out 0).trans rfl,(Qi O.out 1).trans rfl⟩ (fun hHeld=>?_);refine Q4 call_Check.Gu call_Check.J2 (fun HT_ HW_=>?_)
     generalize w5.drew=eb at U O HB hHeld ⊢
     refine qP 0 (some 5) (bN 26 1) HT_ ?_
     refine qT 1 (some 6) (bN 26 3) HT_ HW_ hHeld ?_
     refine Zi (i:=2) (N:=some 7) (bN 26 7) rfl rfl (Q0 HT_.out kr) (by decide) (fun K hK=>?_)
     refine Zc Try.func41 kr rfl #[.int .i64 J,.int .i64 2,.int .i64 64] (by rfl) rfl rfl qM ?_
     with_reducible refine(call_within.calls J 2 64 true _ A6.out).mono ?_
     rintro e w' ⟨rfl,⟨nd,rfl⟩⟩
     refine⟨_,rfl, ?_⟩
     refine hK.out _ _ ⟨qc U,qc U,qc O,qc O⟩ (fun hHeld=>?_)
     clear hK K
     refine qN (some 7) ?_
     refine qP 3 (some 8) (bN 26 15) HT_ ?_
     refine qP 4 (some 9) (bN 26 31) HT_ ?_
     refine qP 5 (some 10) (bN 26 63) HT_ ?_
     refine qT 6 (some 11) (bN 26 127) HT_ HW_ hHeld ?_
     refine Zi (i:=7) (N:=some 12) (bN 26 255) rfl rfl (Q0 HT_.out kr) (by decide) (fun K hK=>?_)
     refine Zc Try.func41 kr rfl #[.int .i64 D,.int .i64 1,.int .i64 8] (by rfl) rfl rfl qM ?_
     with_reducible refine(call_within.calls D 1 8 true _ A8.out).mono ?_
     rintro e w' ⟨rfl,⟨nd,rfl⟩⟩
     refine⟨_,rfl, ?_⟩
     refine hK.out _ _ ⟨qc U,qc U,qc O,qc O⟩ (fun hHeld=>?_)
     clear hK K
     refine qN (some 12) ?_
     refine qP 8 (some 13) (bN 26 511) HT_ ?_
     refine qP 9 (some 14) (bN 26 1023) HT_ ?_
     refine qP 10 (some 15) (bN 26 2047) HT_ ?_
     refine qT 11 (some 16) (bN 26 4095) HT_ HW_ hHeld ?_
     refine qT 13 (some 18) (bN 26 12287) HT_ HW_ hHeld ?_
     refine Zi (i:=12) (N:=some 17) (bN 26 16383) rfl rfl (Q0 HT_.out kr) (by decide) (fun K hK=>?_)
     refine Zc Try.func30 kr rfl #[.agg #[.slice ζ B.length γ,.slice η I.length ε]] (by rfl) rfl rfl qM ?_
     refine(Yl ζ η B.length I.length γ ε _).mono ?_
     rintro e e3 ⟨rfl,hb⟩
     refine⟨_,rfl, ?_⟩
     replace U:=sBk U hb
     replace O:=sBk O hb
     replace HB:=sHb hb
     (try clear hb)
     (try clear a0)
     (try clear hk)
     (try clear hi)
     refine hK.out _ _ ⟨qc U,qc U,qc O,qc O⟩ (fun hHeld=>?_)
     clear hK K
     refine qN (some 17) ?_
     refine Zi (i:=14) (N:=some 19) (bN 26 32767) rfl rfl (Q0 HT_.out kr) (by decide) (fun K hK=>?_)
     refine Zc Try.func34 kr rfl #[.agg #[.int .i64 J,.int .i64 D]] (by rfl) rfl rfl qM ?_
     refine(Jl J D _).mono ?_
     rintro e e4 ⟨Z,rfl,hgp,hgw,hb⟩
     have μ :=Aside0.mk hgp
     clear hgp hgw
     refine⟨_,rfl, ?_⟩
     replace U:=sBk U hb
     replace O:=sBk O hb
     replace HB:=sHb hb
     (try clear hb)
     (try clear a0)
     (try clear hk)
     (try clear hi)
     refine hK.out _ _ ⟨qc U,qc U,qc O,qc O⟩ (fun hHeld=>?_)
     clear hK K
     refine qN (some 19) ?_
     refine Zi (i:=15) (N:=some 20) (bN 26 65535) rfl rfl (Q0 HT_.out kr) (by decide) (fun K hK=>?_)
     refine Zc Try.func42 kr rfl #[.agg #[.slice ζ B.length γ,.func (.func 51) #[] #[]],.func (.func 61) #[] #[.pointer (some ⟨Z,0,none⟩)]] (by rfl) rfl rfl qM ?_
     with_reducible refine(rightP_H.calls ζ γ B η ε I J D true _ ?side1 ?side2 ?side3 ?side4 f9.out Z μ.out).mono ?_
     (case side1=>exact(Kd.Qz ag.out HB.out))
     (case side2=>exact ar.out)
     (case side3=>exact(Kd.Qz ai.out HB.out))
     (case side4=>exact au.out)
     rintro e bb ⟨rfl,hb⟩
     refine⟨_,rfl, ?_⟩
     replace U:=sBk U hb
     replace O:=sBk O hb
     replace HB:=sHb hb
     (try clear hb)
     (try clear a0)
     (try clear hk)
     (try clear hi)
     refine hK.out _ _ ⟨qc U,qc U,qc O,qc O⟩ (fun hHeld=>?_)
     clear hK K
     refine qN (some 20) ?_
     refine qP 16 (some 21) (bN 26 131071) HT_ ?_
     refine qP 17 (some 22) (bN 26 262143) HT_ ?_
     refine qP 18 (some 23) (bN 26 524287) HT_ ?_
     refine qT 19 (some 24) (bN 26 1048575) HT_ HW_ hHeld ?_
     refine qT 21 (some 26) (bN 26 3145727) HT_ HW_ hHeld ?_
     refine Zi (i:=20) (N:=some 25) (bN 26 4194303) rfl rfl (Q0 HT_.out kr) (by decide) (fun K hK=>?_)
     refine Zc Try.func32 kr rfl #[.agg #[.slice ζ B.length γ,.slice η I.length ε]] (by rfl) rfl rfl qM ?_
     refine(Yt ζ η B.length I.length γ ε _).mono ?_
     rintro e e7 ⟨rfl,hb⟩
     refine⟨_,rfl, ?_⟩
     replace U:=sBk U hb
     replace O:=sBk O hb
     replace HB:=sHb hb
     (try clear hb)
     (try clear a0)
     (try clear hk)
     (try clear hi)
     refine hK.out _ _ ⟨qc U,qc U,qc O,qc O⟩ (fun hHeld=>?_)
     clear hK K
     refine qN (some 25) ?_
     refine Zi (i:=22) (N:=some 27) (bN 26 8388607) rfl rfl (Q0 HT_.out kr) (by decide) (fun K hK=>?_)
     refine Zc Try.func29 kr rfl #[.agg #[.int .i64 J,.int .i64 D]] (by rfl) rfl rfl qM ?_
     refine(Jk J D _).mono ?_
     rintro e ga ⟨be,rfl,hgp,hgw,hb⟩
     have bq:=Aside0.mk hgp
     clear hgp hgw
     refine⟨_,rfl, ?_⟩
     replace U:=sBk U hb
     replace O:=sBk O hb
     replace HB:=sHb hb
     (try clear hb)
     (try clear a0)
     (try clear hk)
     (try clear hi)
     refine hK.out _ _ ⟨qc U,qc U,qc O,qc O⟩ (fun hHeld=>?_)
     clear hK K
     refine qN (some 27) ?_
     refine Zi (i:=23) (N:=some 28) (bN 26 16777215) rfl rfl (Q0 HT_.out kr) (by decide) (fun K hK=>?_)
     refine Zc Try.func43 kr rfl #[.agg #[.slice η I.length ε,.func (.func 57) #[] #[]],.func (.func 50) #[] #[.pointer (some ⟨be,0,none⟩)]] (by rfl) rfl rfl qM ?_
     with_reducible refine(rightP_I.calls ζ γ B η ε I J D ν _ ?side1 ?side2 ?side3 ?side4 cw.out be bq.out).mono ?_
     (case side1=>exact(Kd.Qz ag.out HB.out))
     (case side2=>exact ar.out)
     (case side3=>exact(Kd.Qz ai.out HB.out))
     (case side4=>exact au.out)
     rintro e cv ⟨rfl,hb⟩
     refine⟨_,rfl, ?_⟩
     replace U:=sBk U hb
     replace O:=sBk O hb
     replace HB:=sHb hb
     (try clear hb)
     (try clear a0)
     (try clear hk)
     (try clear hi)
     refine hK.out _ _ ⟨qc U,qc U,qc O,qc O⟩ (fun hHeld=>?_)
     clear hK K
     refine qN (some 28) ?_
     refine qP 24 (some 29) (bN 26 33554431) HT_ ?_
     refine qP 25 (some 30) (bN 26 67108863) HT_ ?_
     refine Zq (Zd HT_.out kr) ?_
     try go_wp2
     go_meet
     case rel=>exact⟨_,(!ν),rfl,H',⟨by first|omega|exact Nat.le_refl _⟩,U,O,HB⟩
    ·replace cb:=Bool.eq_false_iff.mpr cb
     subst cb
     have H1:(call_Check.j0 k true)=some r:=by rw[if_neg (show ¬ (false=true) by decide)] at H;exact H
     clear H
     have H:=H1
     clear H1
     have H':=Aside0.mk H
     clear H
     try go_wp2
     replace U:=Aside0.mk (Qb U.out)
     replace O:=Aside0.mk (Qb O.out)
     replace HB:=Aside0.mk (Qe HB.out)
     refine Ze (n:=26) (S:=fun w'=>w'.cell? ⟨ξ,0,none⟩=some (.int .i64 J)∧w'.cell? ⟨ξ,1,none⟩=some (.int .i64 D)∧w'.cell? ⟨ι,0,none⟩=some (.slice ζ B.length γ)∧w'.cell? ⟨ι,1,none⟩=some (.slice η I.length ε)) (ds:=[]) #[false,false,false,false,false,false,false,false,false,false,false,false,false,false,false,false,false,false,false,false,false,false,false,false,false,false] kr rfl rfl ⟨(Qi U.out 0).trans rfl,(Qi U.out 1).trans rfl,(Qi O.out 0).trans rfl,(Qi O.out 1).trans rfl⟩ (fun hHeld=>?_);refine Q4 call_Check.Gu call_Check.J2 (fun HT_ HW_=>?_)
     generalize w5.drew=af at U O HB hHeld ⊢
     refine qP 0 (some 5) (bN 26 1) HT_ ?_
     refine qT 1 (some 6) (bN 26 3) HT_ HW_ hHeld ?_
     refine Zi (i:=2) (N:=some 7) (bN 26 7) rfl rfl (Q0 HT_.out kr) (by decide) (fun K hK=>?_)
     refine Zc Try.func41 kr rfl #[.int .i64 J,.int .i64 2,.int .i64 64] (by rfl) rfl rfl qM ?_
     with_reducible refine(call_within.calls J 2 64 true _ A6.out).mono ?_
     rintro e w' ⟨rfl,⟨nd,rfl⟩⟩
     refine⟨_,rfl, ?_⟩
     refine hK.out _ _ ⟨qc U,qc U,qc O,qc O⟩ (fun hHeld=>?_)
     clear hK K
     refine qN (some 7) ?_
     refine qP 3 (some 8) (bN 26 15) HT_ ?_
     refine qP 4 (some 9) (bN 26 31) HT_ ?_
     refine qP 5 (some 10) (bN 26 63) HT_ ?_
     refine qT 6 (some 11) (bN 26 127) HT_ HW_ hHeld ?_
     refine Zi (i:=7) (N:=some 12) (bN 26 255) rfl rfl (Q0 HT_.out kr) (by decide) (fun K hK=>?_)
     refine Zc Try.func41 kr rfl #[.int .i64 D,.int .i64 1,.int .i64 8] (by rfl) rfl rfl qM ?_
     with_reducible refine(call_within.calls D 1 8 true _ A8.out).mono ?_
     rintro e w' ⟨rfl,⟨nd,rfl⟩⟩
     refine⟨_,rfl, ?_⟩
     refine hK.out _ _ ⟨qc U,qc U,qc O,qc O⟩ (fun hHeld=>?_)
     clear hK K
     refine qN (some 12) ?_
     refine qP 8 (some 13) (bN 26 511) HT_ ?_
     refine qP 9 (some 14) (bN 26 1023) HT_ ?_
     refine qP 10 (some 15) (bN 26 2047) HT_ ?_
     refine qT 11 (some 16) (bN 26 4095) HT_ HW_ hHeld ?_
     refine qT 13 (some 18) (bN 26 12287) HT_ HW_ hHeld ?_
     refine Zi (i:=12) (N:=some 17) (bN 26 16383) rfl rfl (Q0 HT_.out kr) (by decide) (fun K hK=>?_)
     refine Zc Try.func30 kr rfl #[.agg #[.slice ζ B.length γ,.slice η I.length ε]] (by rfl) rfl rfl qM ?_
     refine(Yl ζ η B.length I.length γ ε _).mono ?_
     rintro e gb ⟨rfl,hb⟩
     refine⟨_,rfl, ?_⟩
     replace U:=sBk U hb
     replace O:=sBk O hb
     replace HB:=sHb hb
     (try clear hb)
     (try clear a0)
     (try clear hk)
     (try clear hi)
     refine hK.out _ _ ⟨qc U,qc U,qc O,qc O⟩ (fun hHeld=>?_)
     clear hK K
     refine qN (some 17) ?_
     refine Zi (i:=14) (N:=some 19) (bN 26 32767) rfl rfl (Q0 HT_.out kr) (by decide) (fun K hK=>?_)
     refine Zc Try.func34 kr rfl #[.agg #[.int .i64 J,.int .i64 D]] (by rfl) rfl rfl qM ?_
     refine(Jl J D _).mono ?_
     rintro e ge ⟨δ,rfl,hgp,hgw,hb⟩
     have ρ:=Aside0.mk hgp
     clear hgp hgw
     refine⟨_,rfl, ?_⟩
     replace U:=sBk U hb
     replace O:=sBk O hb
     replace HB:=sHb hb
     (try clear hb)
     (try clear a0)
     (try clear hk)
     (try clear hi)
     refine hK.out _ _ ⟨qc U,qc U,qc O,qc O⟩ (fun hHeld=>?_)
     clear hK K
     refine qN (some 19) ?_
     refine Zi (i:=15) (N:=some 20) (bN 26 65535) rfl rfl (Q0 HT_.out kr) (by decide) (fun K hK=>?_)
     refine Zc Try.func42 kr rfl #[.agg #[.slice ζ B.length γ,.func (.func 51) #[] #[]],.func (.func 61) #[] #[.pointer (some ⟨δ,0,none⟩)]] (by rfl) rfl rfl qM ?_
     with_reducible refine(rightP_H.calls ζ γ B η ε I J D false _ ?side1 ?side2 ?side3 ?side4 f9.out δ ρ.out).mono ?_
     (case side1=>exact(Kd.Qz ag.out HB.out))
     (case side2=>exact ar.out)
     (case side3=>exact(Kd.Qz ai.out HB.out))
     (case side4=>exact au.out)
     rintro e g6 ⟨rfl,hb⟩
     refine⟨_,rfl, ?_⟩
     replace U:=sBk U hb
     replace O:=sBk O hb
     replace HB:=sHb hb
     (try clear hb)
     (try clear a0)
     (try clear hk)
     (try clear hi)
     refine hK.out _ _ ⟨qc U,qc U,qc O,qc O⟩ (fun hHeld=>?_)
     clear hK K
     refine qN (some 20) ?_
     refine qP 16 (some 21) (bN 26 131071) HT_ ?_
     refine qP 17 (some 22) (bN 26 262143) HT_ ?_
     refine qP 18 (some 23) (bN 26 524287) HT_ ?_
     refine qU 19 (some 24) (bN 26 1048575) HT_ ?_
     refine qU 20 (some 25) (bN 26 2097151) HT_ ?_
     refine qU 21 (some 26) (bN 26 4194303) HT_ ?_
     refine qU 22 (some 27) (bN 26 8388607) HT_ ?_
     refine qU 23 (some 28) (bN 26 16777215) HT_ ?_
     refine qU 24 (some 29) (bN 26 33554431) HT_ ?_
     refine qP 25 (some 30) (bN 26 67108863) HT_ ?_
     refine Zq (Zd HT_.out kr) ?_
     try go_wp2
     go_meet
     case rel=>exact⟨_,(true),rfl,H',⟨by first|omega|exact Nat.le_refl _⟩,U,O,HB⟩
   ·replace c9:=Bool.eq_false_iff.mpr c9
    subst c9
    have H1:(call_Check.j0 k true)=some r:=by rw[if_neg (show ¬ (false=true) by decide)] at H;exact H
    clear H
    have H:=H1
    clear H1
    have H':=Aside0.mk H
    clear H
    try go_wp2
    replace U:=Aside0.mk (Qb U.out)
    replace O:=Aside0.mk (Qb O.out)
    replace HB:=Aside0.mk (Qe HB.out)
    refine Ze (n:=26) (S:=fun w'=>w'.cell? ⟨ξ,0,none⟩=some (.int .i64 J)∧w'.cell? ⟨ξ,1,none⟩=some (.int .i64 D)) (ds:=[]) #[false,false,false,false,false,false,false,false,false,false,false,false,false,false,false,false,false,false,false,false,false,false,false,false,false,false] kr rfl rfl ⟨(Qi U.out 0).trans rfl,(Qi U.out 1).trans rfl⟩ (fun hHeld=>?_);refine Q4 call_Check.Gu call_Check.J2 (fun HT_ HW_=>?_)
    generalize w5.drew=i5 at U O HB hHeld ⊢
    refine qP 0 (some 5) (bN 26 1) HT_ ?_
    refine qT 1 (some 6) (bN 26 3) HT_ HW_ hHeld ?_
    refine Zi (i:=2) (N:=some 7) (bN 26 7) rfl rfl (Q0 HT_.out kr) (by decide) (fun K hK=>?_)
    refine Zc Try.func41 kr rfl #[.int .i64 J,.int .i64 2,.int .i64 64] (by rfl) rfl rfl qM ?_
    with_reducible refine(call_within.calls J 2 64 true _ A6.out).mono ?_
    rintro e w' ⟨rfl,⟨nd,rfl⟩⟩
    refine⟨_,rfl, ?_⟩
    refine hK.out _ _ ⟨qc U,qc U⟩ (fun hHeld=>?_)
    clear hK K
    refine qN (some 7) ?_
    refine qP 3 (some 8) (bN 26 15) HT_ ?_
    refine qP 4 (some 9) (bN 26 31) HT_ ?_
    refine qP 5 (some 10) (bN 26 63) HT_ ?_
    refine qT 6 (some 11) (bN 26 127) HT_ HW_ hHeld ?_
    refine Zi (i:=7) (N:=some 12) (bN 26 255) rfl rfl (Q0 HT_.out kr) (by decide) (fun K hK=>?_)
    refine Zc Try.func41 kr rfl #[.int .i64 D,.int .i64 1,.int .i64 8] (by rfl) rfl rfl qM ?_
    with_reducible refine(call_within.calls D 1 8 false _ A8.out).mono ?_
    rintro e w' ⟨rfl,⟨nd,rfl⟩⟩
    refine⟨_,rfl, ?_⟩
    refine hK.out _ _ ⟨qc U,qc U⟩ (fun hHeld=>?_)
    clear hK K
    refine qN (some 12) ?_
    refine qP 8 (some 13) (bN 26 511) HT_ ?_
    refine qP 9 (some 14) (bN 26 1023) HT_ ?_
    refine qP 10 (some 15) (bN 26 2047) HT_ ?_
    refine qU 11 (some 16) (bN 26 4095) HT_ ?_
    refine qU 12 (some 17) (bN 26 8191) HT_ ?_
    refine qU 13 (some 18) (bN 26 16383) HT_ ?_
    refine qU 14 (some 19) (bN 26 32767) HT_ ?_
    refine qU 15 (some 20) (bN 26 65535) HT_ ?_
    refine qU 16 (some 21) (bN 26 131071) HT_ ?_
    refine qP 17 (some 22) (bN 26 262143) HT_ ?_
    refine qP 18 (some 23) (bN 26 524287) HT_ ?_
    refine qU 19 (some 24) (bN 26 1048575) HT_ ?_
    refine qU 20 (some 25) (bN 26 2097151) HT_ ?_
    refine qU 21 (some 26) (bN 26 4194303) HT_ ?_
    refine qU 22 (some 27) (bN 26 8388607) HT_ ?_
    refine qU 23 (some 28) (bN 26 16777215) HT_ ?_
    refine qU 24 (some 29) (bN 26 33554431) HT_ ?_
    refine qP 25 (some 30) (bN 26 67108863) HT_ ?_
    refine Zq (Zd HT_.out kr) ?_
    try go_wp2
    go_meet
    case rel=>exact⟨_,(true),qR,H',⟨by first|omega|exact Nat.le_refl _⟩,⟨bka U⟩,⟨bka O⟩,⟨bel⟩⟩
  ·replace c7:=Bool.eq_false_iff.mpr c7
   subst c7
   have H1:(call_Check.j0 k true)=some r:=by rw[if_neg (show ¬ (false=true) by decide)] at H;exact H
   clear H
   have H:=H1
   clear H1
   have H':=Aside0.mk H
   clear H
   try go_wp2
   replace U:=Aside0.mk (Qb U.out)
   replace O:=Aside0.mk (Qb O.out)
   replace HB:=Aside0.mk (Qe HB.out)
   refine Ze (n:=26) (S:=fun w'=>w'.cell? ⟨ξ,0,none⟩=some (.int .i64 J)∧w'.cell? ⟨ξ,1,none⟩=some (.int .i64 D)) (ds:=[]) #[false,false,false,false,false,false,false,false,false,false,false,false,false,false,false,false,false,false,false,false,false,false,false,false,false,false] kr rfl rfl ⟨(Qi U.out 0).trans rfl,(Qi U.out 1).trans rfl⟩ (fun hHeld=>?_);refine Q4 call_Check.Gu call_Check.J2 (fun HT_ HW_=>?_)
   generalize w5.drew=dw at U O HB hHeld ⊢
   refine qP 0 (some 5) (bN 26 1) HT_ ?_
   refine qT 1 (some 6) (bN 26 3) HT_ HW_ hHeld ?_
   refine Zi (i:=2) (N:=some 7) (bN 26 7) rfl rfl (Q0 HT_.out kr) (by decide) (fun K hK=>?_)
   refine Zc Try.func41 kr rfl #[.int .i64 J,.int .i64 2,.int .i64 64] (by rfl) rfl rfl qM ?_
   with_reducible refine(call_within.calls J 2 64 false _ A6.out).mono ?_
   rintro e w' ⟨rfl,⟨nd,rfl⟩⟩
   refine⟨_,rfl, ?_⟩
   refine hK.out _ _ ⟨qc U,qc U⟩ (fun hHeld=>?_)
   clear hK K
   refine qN (some 7) ?_
   refine qP 3 (some 8) (bN 26 15) HT_ ?_
   refine qP 4 (some 9) (bN 26 31) HT_ ?_
   refine qU 5 (some 10) (bN 26 63) HT_ ?_
   refine qU 6 (some 11) (bN 26 127) HT_ ?_
   refine qU 7 (some 12) (bN 26 255) HT_ ?_
   refine qU 8 (some 13) (bN 26 511) HT_ ?_
   refine qP 9 (some 14) (bN 26 1023) HT_ ?_
   refine qP 10 (some 15) (bN 26 2047) HT_ ?_
   refine qU 11 (some 16) (bN 26 4095) HT_ ?_
   refine qU 12 (some 17) (bN 26 8191) HT_ ?_
   refine qU 13 (some 18) (bN 26 16383) HT_ ?_
   refine qU 14 (some 19) (bN 26 32767) HT_ ?_
   refine qU 15 (some 20) (bN 26 65535) HT_ ?_
   refine qU 16 (some 21) (bN 26 131071) HT_ ?_
   refine qP 17 (some 22) (bN 26 262143) HT_ ?_
   refine qP 18 (some 23) (bN 26 524287) HT_ ?_
   refine qU 19 (some 24) (bN 26 1048575) HT_ ?_
   refine qU 20 (some 25) (bN 26 2097151) HT_ ?_
   refine qU 21 (some 26) (bN 26 4194303) HT_ ?_
   refine qU 22 (some 27) (bN 26 8388607) HT_ ?_
   refine qU 23 (some 28) (bN 26 16777215) HT_ ?_
   refine qU 24 (some 29) (bN 26 33554431) HT_ ?_
   refine qP 25 (some 30) (bN 26 67108863) HT_ ?_
   refine Zq (Zd HT_.out kr) ?_
   try go_wp2
   go_meet
   case rel=>exact⟨_,(true),qR,H',⟨by first|omega|exact Nat.le_refl _⟩,⟨bka U⟩,⟨bka O⟩,⟨bel⟩⟩
 case rest=>
  clear ac
  try clear c1
  try clear p2
  try clear c4
  try clear c7
  try clear c9
  obtain⟨kq,X,rfl,HA,cr,U,O,HB⟩:=hcut
  cases kq with
  |zero=>exact absurd HA.out (by simp[call_Check.j0])
  |succ cu=>
   have H:=HA.out
   clear HA
   simp only[call_Check.j0] at H
   by_cases cf:X=true
   ·subst cf
    have H1:(some 190)=some r:=by rw[if_pos rfl] at H;exact H
    clear H
    have H:=H1
    clear H1
    obtain rfl:=Option.some.inj H
    go_wp2
    go_ret
    exact⟨rfl,HB.out⟩
   ·replace cf:=Bool.eq_false_iff.mpr cf
    subst cf
    have H1:(some 0)=some r:=by rw[if_neg (show ¬ (false=true) by decide)] at H;exact H
    clear H
    have H:=H1
    clear H1
    obtain rfl:=Option.some.inj H
    go_wp2
    go_ret
    exact⟨rfl,HB.out⟩
def call_change.f (U_:Option (List S56)) (I_:Option (List S62)) (k:Nat) (J:Int) (D:Int) (B:List (S56)) (I:List (S62)) (a2:Bool) (X:Int) (aw:Int) (ax:Int) (az:Int) (a5:Int) (b1:Int) (b2:Int):Option ((List (S56))×(List (S62))×Int):=(call_Check.f k J D B I).bind fun ν =>(if ν = 0 then (if a2=true then ((U_).bind fun σ=>((I_).bind fun ψ =>(some (σ,ψ,0)))) else (some (([]:List (S56)),([]:List (S62)),191))) else (some (([]:List (S56)),([]:List (S62)),ν)))
theorem call_change.mono:∀ U_ I_ D L a2 X I a5 J U Y Z B O k,LeO (call_change.f U_ I_ k D L a2 X I a5 J U Y Z B O) (call_change.f U_ I_ (k+1) D L a2 X I a5 J U Y Z B O):=by
 intro U_ I_ D L a2 X I a5 J U Y Z B O k
 unfold call_change.f
 repeat' first
   |(with_reducible exact call_Check.mono _ _ _ _ _)
   |(with_reducible exact LeO.refl _)
   |(with_reducible exact LeO.none _)
   |(with_reducible refine LeO.ite ?_ ?_)
   |(with_reducible refine LeO.bind ?_ (fun _=>?_))
   |exact call_Check.mono _ _ _ _ _
   |exact LeO.none _
   |refine LeO.ite ?_ ?_
   |refine LeO.bind ?_ (fun _=>?_)
def call_change.T6:Bool×List (List Nat×List Nat):=(true,[([],[]),([],[]),([0,1],[0,1]),([],[]),([],[]),([3,4,2],[3,4]),([2,5],[2,5]),([6,5,0,1,2,3,4,5,6],[6]),([7,0,1,2,3,4,5,6,7],[])])
def call_change.B6:List Nat:=[0,0,3,0,0,31,63,127,255]
theorem call_change.K8:rtab .any (opsOf Try.f28 6)=call_change.T6:=by kernel_rfl
theorem call_change.Jt:Zv call_change.T6.2 call_change.B6=true:=by kernel_rfl
set_option maxHeartbeats 8000000 in
set_option maxRecDepth 100000 in
theorem call_change.calls (U_:Option (List S56)) (I_:Option (List S62)) (k:Nat) (J:Int) (D:Int) (ζ :Option Addr) (γ:Nat) (B:List (S56)) (η :Option Addr) (ε :Nat) (I:List (S62)) (a2:Bool) (X:Int) (aw:Int) (ax:Int) (az:Int) (a5:Int) (b1:Int) (b2:Int) (r1:List (S56)) (r2:List (S62)) (r3:Int) (w:World) (b4:Kd.C k56 w ζ B.length B) (b5:B.length≤γ) (b6:Kd.C k62 w η I.length I) (b7:I.length ≤ ε) (h:call_change.f U_ I_ k J D B I a2 X aw ax az a5 b1 b2=some (r1,r2,r3)) (fu_:FuncId) (fnu_:Func) (ru_:Value) (hfu_:Try.prog.funcs[fu_]?=some fnu_) (hnu_:(fnu_.name == "runtime.NumGoroutine")=false) (hbu_:fnu_.body.isSome=true) (hu_:∀ (W:World) (t:List S56),U_=some t→Below w.heap.size w W→Calls Try.prog fu_ #[ru_,.agg #[.int .i64 aw,.int .i64 ax,.int .i64 az]] W fun e w'=>∃ ω :Value,e = .returned ω ∧ Kd.R k56 56 w' W.heap.size (fun _=>True) ω t∧Below W.heap.size W w') (fi_:FuncId) (fni_:Func) (ri_:Value) (hfi_:Try.prog.funcs[fi_]?=some fni_) (hni_:(fni_.name == "runtime.NumGoroutine")=false) (hbi_:fni_.body.isSome=true) (hi_:∀ (W:World) (t:List S62),I_=some t→Below w.heap.size w W→Calls Try.prog fi_ #[ri_,.agg #[.int .i64 b1,.int .i64 b2]] W fun e w'=>∃ ω :Value,e = .returned ω ∧ Kd.R k62 62 w' W.heap.size (fun _=>True) ω t∧Below W.heap.size W w'):
  Calls Try.prog 28 #[.agg #[.int .i64 J,.int .i64 D],.agg #[.slice ζ B.length γ,.slice η I.length ε],.bool a2,(.func (.func fu_) #[ru_] #[]),.agg #[.int .i64 aw,.int .i64 ax,.int .i64 az],(.func (.func fi_) #[ri_] #[]),.agg #[.int .i64 b1,.int .i64 b2]] w fun e w'=>∃ ω ba:Value,e = .returned (.tuple #[.agg #[ω,ba],.int .i64 r3])∧Kd.R k56 56 w' w.heap.size (fun _=>True) ω r1∧Kd.R k62 62 w' w.heap.size (fun _=>True) ba r2∧Below w.heap.size w w':=by
 have HFU:=Aside0.mk hfu_
 have HNU:=Aside0.mk hnu_
 have HBU:=Aside0.mk hbu_
 have HCU:=Aside0.mk hu_
 have HFI:=Aside0.mk hfi_
 have HNI:=Aside0.mk hni_
 have HBI:=Aside0.mk hbi_
 have HCI:=Aside0.mk hi_
 clear hfu_ hnu_ hbu_ hu_ hfi_ hni_ hbi_ hi_
 have dk:=Try.underlying23
 have d6:=Try.underlying27
 have ay:=Try.underlying56
 have b8:=Try.underlying62
 have ag:=Aside0.mk b4
 have ar:=Aside0.mk b5
 clear b4 b5
 have ai:=Aside0.mk b6
 have au:=Aside0.mk b7
 clear b6 b7
 have HB:=Aside0.mk (Below.refl w.heap.size w)
 have H:((call_Check.f k J D B I).bind fun ν =>(if ν = 0 then (if a2=true then ((U_).bind fun σ=>((I_).bind fun ψ =>(some (σ,ψ,0)))) else (some (([]:List (S56)),([]:List (S62)),191))) else (some (([]:List (S56)),([]:List (S62)),ν))))=some (r1,r2,r3):=h
 clear h
 replace H:=Option.bind_eq_some_iff.mp H
 obtain⟨ν,e8,H⟩:=H
 replace H:(if ν = 0 then (if a2=true then ((U_).bind fun σ=>((I_).bind fun ψ =>(some (σ,ψ,0)))) else (some (([]:List (S56)),([]:List (S62)),191))) else (some (([]:List (S56)),([]:List (S62)),ν)))=some (r1,r2,r3):=H
 have A8:=Aside0.mk e8
 clear e8
 by_cases c9: ν = 0
 ·rw[if_pos c9] at H
  have c9b0:(ν == 0)=true:=beq_iff_eq.mpr c9
  have c9b1:(ν != 0)=false:=bne_eq_false_iff_eq.mpr c9
  clear c9
  by_cases c10:a2=true
  ·subst c10
   have H1:((U_).bind fun σ=>((I_).bind fun ψ =>(some (σ,ψ,0))))=some (r1,r2,r3):=by rw[if_pos rfl] at H;exact H
   clear H
   have H:=H1
   clear H1
   replace H:=Option.bind_eq_some_iff.mp H
   obtain⟨σ,bc,H⟩:=H
   replace H:((I_).bind fun ψ =>(some (σ,ψ,0)))=some (r1,r2,r3):=H
   have bm:=Aside0.mk bc
   clear bc
   replace H:=Option.bind_eq_some_iff.mp H
   obtain⟨ψ,cd,H⟩:=H
   replace H:(some (σ,ψ,0))=some (r1,r2,r3):=H
   have cw:=Aside0.mk cd
   clear cd
   simp only[Option.some.injEq,Prod.mk.injEq] at H
   obtain⟨rfl,rfl,rfl⟩:=H
   go_enter Try.func28,Try.ntmps28
   try go_wp2_with (first|((with_reducible refine Qp (N:=7) rfl ?_);refine qE 7 #[.int .i64 J,.int .i64 D] 23 ?_;intro ξ hg eb hbox hb;have U:=Aside0.mk hbox;have bl:=sGe hg;have b9:=sGe hg;replace HB:=sHb hb;clear hb hbox hg)|((with_reducible refine Qp (N:=8) rfl ?_);refine qE 8 #[.slice ζ B.length γ,.slice η I.length ε] 27 ?_;intro ι hg bb hbox hb;have O:=Aside0.mk hbox;have bu:=sGe hg;have bw:=sGe hg;have κ :=sNl U hg;have a1:=sNg U hg;replace U:=sBk U hb;replace HB:=sHb hb;clear hb hbox hg)|((with_reducible refine Qp (N:=11) rfl ?_);refine qE 11 #[.int .i64 aw,.int .i64 ax,.int .i64 az] 56 ?_;intro bk hg cv hbox hb;have L:=Aside0.mk hbox;have cn:=sGe hg;have co:=sGe hg;have al:=sNl U hg;have am:=sNg U hg;have Z:=sNl O hg;have δ :=sNg O hg;replace U:=sBk U hb;replace O:=sBk O hb;replace HB:=sHb hb;clear hb hbox hg)|((with_reducible refine Qp (N:=13) rfl ?_);refine qE 13 #[.int .i64 b1,.int .i64 b2] 62 ?_;intro τ hg af hbox hb;have Y:=Aside0.mk hbox;have bh:=sGe hg;have ak:=sGe hg;have an:=sNl U hg;have ao:=sNg U hg;have ap:=sNl O hg;have av:=sNg O hg;have bf:=sNl L hg;have bg:=sNg L hg;replace U:=sBk U hb;replace O:=sBk O hb;replace L:=sBk L hb;replace HB:=sHb hb;clear hb hbox hg)|((with_reducible refine Qp (N:=14) rfl ?_);refine qE 14 #[.slice none 0 0,.slice none 0 0] 27 ?_;intro a4 hg g6 hbox hb;have μ :=Aside0.mk hbox;have bi:=sGe hg;have bd:=sGe hg;have a8:=sNl U hg;have ac:=sNg U hg;have ae:=sNl O hg;have ah:=sNg O hg;have θ :=sNl L hg;have aj:=sNg L hg;have a6:=sNl Y hg;have a7:=sNg Y hg;replace U:=sBk U hb;replace O:=sBk O hb;replace L:=sBk L hb;replace Y:=sBk Y hb;replace HB:=sHb hb;clear hb hbox hg;have ca:= κ.out;have cb:=a1.out;have ci:=al.out;have cx:=am.out;have f9:=an.out;have fj:=ao.out;have e5:=a8.out;have ea:=ac.out;obtain⟨cf,ch,ck,cm⟩:=qD2 U.out;have fc:=Z.out;have fg:= δ.out;have fn:=ap.out;have fo:=av.out;have de:=ae.out;have df:=ah.out;obtain⟨bn,bo,cg,cj⟩:=qD2 O.out)|((with_reducible refine Q1 (f:=14) rfl ?_);refine Zp (some 19) rfl rfl Try.func14 kr rfl #[.agg #[.int .i64 J,.int .i64 D],.agg #[.slice ζ B.length γ,.slice η I.length ε]] rfl qM ?_;(with_reducible refine(call_Check.calls k J D _ _ B _ _ I ν _ ?side1 ?side2 ?side3 ?side4 A8.out).mono ?_);(case side1=>exact(Kd.Qz ag.out HB.out));(case side2=>exact ar.out);(case side3=>exact(Kd.Qz ai.out HB.out));(case side4=>exact au.out);rintro e e6 ⟨rfl,hb⟩;refine⟨_,rfl, ?_⟩;replace U:=sBk U hb;replace O:=sBk O hb;replace L:=sBk L hb;replace Y:=sBk Y hb;replace μ :=sBk μ hb;replace HB:=sHb hb;(try clear hb);(try clear a0);(try clear hk);(try clear hi)))
   replace U:=Aside0.mk (Qb U.out)
   replace O:=Aside0.mk (Qb O.out)
   replace L:=Aside0.mk (Qb L.out)
   replace Y:=Aside0.mk (Qb Y.out)
   replace μ :=Aside0.mk (Qb μ.out)
   replace HB:=Aside0.mk (Qe HB.out)
   refine Ze (n:=9) (S:=fun w'=>w'.cell? ⟨bk,0,none⟩=some (.int .i64 aw)∧w'.cell? ⟨bk,1,none⟩=some (.int .i64 ax)∧w'.cell? ⟨bk,2,none⟩=some (.int .i64 az)∧w'.cell? ⟨τ,0,none⟩=some (.int .i64 b1)∧w'.cell? ⟨τ,1,none⟩=some (.int .i64 b2)) (ds:=[]) #[false,false,false,false,false,false,false,false,false] kr rfl rfl ⟨(Qi L.out 0).trans rfl,(Qi L.out 1).trans rfl,(Qi L.out 2).trans rfl,(Qi Y.out 0).trans rfl,(Qi Y.out 1).trans rfl⟩ (fun hHeld=>?_);refine Q4 call_change.K8 call_change.Jt (fun HT_ HW_=>?_)
   generalize e6.drew=fh at U O L Y μ HB hHeld ⊢
   refine qP 0 (some 27) (bN 9 1) HT_ ?_
   refine qP 3 (some 30) (bN 9 9) HT_ ?_
   refine qT 1 (some 28) (bN 9 11) HT_ HW_ hHeld ?_
   refine qT 4 (some 31) (bN 9 27) HT_ HW_ hHeld ?_
   refine Zi (i:=2) (N:=some 29) (bN 9 31) rfl rfl (Q0 HT_.out kr) (by decide) (fun K hK=>?_)
   refine Xu HFU.out HNU.out HBU.out #[ru_] #[] #[.agg #[.int .i64 aw,.int .i64 ax,.int .i64 az]] #[ru_,.agg #[.int .i64 aw,.int .i64 ax,.int .i64 az]] rfl (by rfl) rfl rfl rfl qM ?_
   refine(HCU.out _ σ bm.out (by repeat(first|(with_reducible first|exact HB.out|apply Qh|apply Qc|apply Qe)|exact HB.out|(refine Qd ?_ (Aside0.out (by assumption)))))).mono ?_
   rintro e db ⟨dr,rfl,ρ,hb⟩
   refine⟨_,rfl, ?_⟩
   have bj:=Aside0.mk (Kd.Q2 (Kd.Xx ρ (g:=bk) (o:=.cells #[.int .i64 aw,.int .i64 ax,.int .i64 az] 56 (0,0)) L.out) (Qj HB.out))
   replace U:=sBk U hb
   replace O:=sBk O hb
   replace L:=sBk L hb
   replace Y:=sBk Y hb
   replace μ :=sBk μ hb
   replace HB:=sHb hb
   (try clear hb)
   (try clear a0)
   (try clear hk)
   (try clear hi)
   (try clear ρ)
   refine hK.out _ _ ⟨qc L,qc L,qc L,qc Y,qc Y⟩ (fun hHeld=>?_)
   clear hK K
   refine qN (some 29) ?_
   refine Zi (i:=5) (N:=some 32) (bN 9 63) rfl rfl (Q0 HT_.out kr) (by decide) (fun K hK=>?_)
   refine Xu HFI.out HNI.out HBI.out #[ri_] #[] #[.agg #[.int .i64 b1,.int .i64 b2]] #[ri_,.agg #[.int .i64 b1,.int .i64 b2]] rfl (by rfl) rfl rfl rfl qM ?_
   refine(HCI.out _ ψ cw.out (by repeat(first|(with_reducible first|exact HB.out|apply Qh|apply Qc|apply Qe)|exact HB.out|(refine Qd ?_ (Aside0.out (by assumption)))))).mono ?_
   rintro e ew ⟨ce,rfl,ρ,hb⟩
   refine⟨_,rfl, ?_⟩
   have be:=Aside0.mk (Kd.Q2 (Kd.Xx ρ (g:= τ) (o:=.cells #[.int .i64 b1,.int .i64 b2] 62 (0,0)) Y.out) (Qj HB.out))
   replace bj:=sRb bj hb
   replace U:=sBk U hb
   replace O:=sBk O hb
   replace L:=sBk L hb
   replace Y:=sBk Y hb
   replace μ :=sBk μ hb
   replace HB:=sHb hb
   (try clear hb)
   (try clear a0)
   (try clear hk)
   (try clear hi)
   (try clear ρ)
   obtain⟨b3,b0,d2⟩:=Kd.Q5 be.out
   (first|subst d2|(injection d2 with φ a9 χ;have aa:= φ.symm;have ab:= χ.symm;clear φ a9 χ;subst aa;subst ab))
   obtain⟨bp,bq,bs⟩:=Kd.Q5 bj.out
   (first|subst bs|(injection bs with φ a9 χ;have aa:= φ.symm;have ab:= χ.symm;clear φ a9 χ;subst aa;subst ab))
   refine hK.out _ _ ⟨qc L,qc L,qc L,qc Y,qc Y⟩ (fun hHeld=>?_)
   clear hK K
   refine qN (some 32) ?_
   refine qP 6 (some 33) (bN 9 127) HT_ ?_
   refine Zi (i:=7) (N:=none) (bN 9 255) rfl rfl (Q0 HT_.out kr) (by decide) (fun K hK=>?_)
   have du:ew.cell? ⟨a4,0,none⟩=some (.slice none 0 0):=(Qi μ.out 0).trans rfl
   have dm:=Q6 μ.out 0
   have bv:=a8.out
   have bz:=ae.out
   have cp:= θ.out
   have cq:=a6.out
   have cr:=ac.out
   have ct:=ah.out
   have cu:=aj.out
   have cy:=a7.out
   have jg:ew.cell? ⟨a4,1,none⟩=some (.slice none 0 0):=(Qi μ.out 1).trans rfl
   have j9:=Q6 μ.out 1
   have i1:=a8.out
   have i2:=ae.out
   have i3:= θ.out
   have d3:=a6.out
   have i5:=ac.out
   have i6:=ah.out
   have ib:=aj.out
   have d4:=a7.out
   refine Y4 (w1:=?_) (by rfl) rfl ?_ ?_
   rotate_left
   ·go_simp
    rfl
   refine hK.out _ _ ⟨((cell_far (p:=⟨a4,_,none⟩) θ.out _).trans (((cell_far (p:=⟨a4,_,none⟩) θ.out _).trans (hHeld.1)))),((cell_far (p:=⟨a4,_,none⟩) θ.out _).trans (((cell_far (p:=⟨a4,_,none⟩) θ.out _).trans (hHeld.2.1)))),((cell_far (p:=⟨a4,_,none⟩) θ.out _).trans (((cell_far (p:=⟨a4,_,none⟩) θ.out _).trans (hHeld.2.2.1)))),((cell_far (p:=⟨a4,_,none⟩) a6.out _).trans (((cell_far (p:=⟨a4,_,none⟩) a6.out _).trans (hHeld.2.2.2.1)))),((cell_far (p:=⟨a4,_,none⟩) a6.out _).trans (((cell_far (p:=⟨a4,_,none⟩) a6.out _).trans (hHeld.2.2.2.2))))⟩ (fun hHeld=>?_)
   clear hK K
   refine qP 8 (some 15) (bN 9 511) HT_ ?_
   refine Zq (Zd HT_.out kr) ?_
   try go_wp2
   refine bodyPost_ret (Xm rfl _ _ a4 27 #[.slice bp σ.length bq,.slice b3 ψ.length b0] (0,0) _ rfl (by refine Qw (cs:=#[.slice bp σ.length bq,.slice none 0 0]) ?_ 1 _ rfl;refine Qw (cs:=#[.slice none 0 0,.slice none 0 0]) ?_ 0 _ rfl;exact μ.out) Try.underlying27 rfl kr) rfl ?_
   exact⟨_,_,by first|rfl|(simp[Qy,Qx] <;> rfl)|(simp[*,Qy,Qx] <;> rfl),by(with_reducible repeat first|apply Kd.Qm|apply Kd.Ql|apply Kd.Qn);exact Kd.Qr (Kd.Qs (Kd.Qs (Kd.Qv bj.out μ.out (by decide)) (fun _ hk=>hk.2) _) (fun _ hk=>hk.2) _) (fun _ hk=>trivial),by(with_reducible repeat first|apply Kd.Qm|apply Kd.Ql|apply Kd.Qn);exact Kd.Qr (Kd.Qs (Kd.Qs (Kd.Qv be.out μ.out (by decide)) (fun _ hk=>hk.2) _) (fun _ hk=>hk.2) _) (fun _ hk=>trivial),bel⟩
  ·replace c10:=Bool.eq_false_iff.mpr c10
   subst c10
   have H1:(some (([]:List (S56)),([]:List (S62)),191))=some (r1,r2,r3):=by rw[if_neg (show ¬ (false=true) by decide)] at H;exact H
   clear H
   have H:=H1
   clear H1
   simp only[Option.some.injEq,Prod.mk.injEq] at H
   obtain⟨rfl,rfl,rfl⟩:=H
   go_enter Try.func28,Try.ntmps28
   go_wp2_with (first|((with_reducible refine Qp (N:=7) rfl ?_);refine qE 7 #[.int .i64 J,.int .i64 D] 23 ?_;intro ξ hg e7 hbox hb;have U:=Aside0.mk hbox;have bl:=sGe hg;have b9:=sGe hg;replace HB:=sHb hb;clear hb hbox hg)|((with_reducible refine Qp (N:=8) rfl ?_);refine qE 8 #[.slice ζ B.length γ,.slice η I.length ε] 27 ?_;intro ι hg k2 hbox hb;have O:=Aside0.mk hbox;have bu:=sGe hg;have bw:=sGe hg;have κ :=sNl U hg;have a1:=sNg U hg;replace U:=sBk U hb;replace HB:=sHb hb;clear hb hbox hg)|((with_reducible refine Qp (N:=11) rfl ?_);refine qE 11 #[.int .i64 aw,.int .i64 ax,.int .i64 az] 56 ?_;intro bk hg gq hbox hb;have L:=Aside0.mk hbox;have cn:=sGe hg;have co:=sGe hg;have al:=sNl U hg;have am:=sNg U hg;have Z:=sNl O hg;have δ :=sNg O hg;replace U:=sBk U hb;replace O:=sBk O hb;replace HB:=sHb hb;clear hb hbox hg)|((with_reducible refine Qp (N:=13) rfl ?_);refine qE 13 #[.int .i64 b1,.int .i64 b2] 62 ?_;intro τ hg d9 hbox hb;have Y:=Aside0.mk hbox;have bh:=sGe hg;have ak:=sGe hg;have an:=sNl U hg;have ao:=sNg U hg;have ap:=sNl O hg;have av:=sNg O hg;have bf:=sNl L hg;have bg:=sNg L hg;replace U:=sBk U hb;replace O:=sBk O hb;replace L:=sBk L hb;replace HB:=sHb hb;clear hb hbox hg)|((with_reducible refine Qp (N:=14) rfl ?_);refine qE 14 #[.slice none 0 0,.slice none 0 0] 27 ?_;intro a4 hg br hbox hb;have μ :=Aside0.mk hbox;have bi:=sGe hg;have bd:=sGe hg;have a8:=sNl U hg;have ac:=sNg U hg;have ae:=sNl O hg;have ah:=sNg O hg;have θ :=sNl L hg;have aj:=sNg L hg;have a6:=sNl Y hg;have a7:=sNg Y hg;replace U:=sBk U hb;replace O:=sBk O hb;replace L:=sBk L hb;replace Y:=sBk Y hb;replace HB:=sHb hb;clear hb hbox hg;have ey:= κ.out;have ez:=a1.out;have hl:=al.out;have ho:=am.out;have hu:=an.out;have hx:=ao.out;have di:=a8.out;have dt:=ac.out;obtain⟨cz,d0,d1,dc⟩:=qD2 U.out;have ii:=Z.out;have ij:= δ.out;have ik:=ap.out;have im:=av.out;have io:=ae.out;have ip:=ah.out;obtain⟨er,et,eu,ev⟩:=qD2 O.out)|((with_reducible refine Q1 (f:=14) rfl ?_);refine Zp (some 19) rfl rfl Try.func14 kr rfl #[.agg #[.int .i64 J,.int .i64 D],.agg #[.slice ζ B.length γ,.slice η I.length ε]] rfl qM ?_;(with_reducible refine(call_Check.calls k J D _ _ B _ _ I ν _ ?side1 ?side2 ?side3 ?side4 A8.out).mono ?_);(case side1=>exact(Kd.Qz ag.out HB.out));(case side2=>exact ar.out);(case side3=>exact(Kd.Qz ai.out HB.out));(case side4=>exact au.out);rintro e m5 ⟨rfl,hb⟩;refine⟨_,rfl, ?_⟩;replace U:=sBk U hb;replace O:=sBk O hb;replace L:=sBk L hb;replace Y:=sBk Y hb;replace μ :=sBk μ hb;replace HB:=sHb hb;(try clear hb);(try clear a0);(try clear hk);(try clear hi);have gm:=aj.out;have gn:= θ.out;have gp:=a7.out;have h4:=a6.out;obtain⟨f4,f5,f7,f8⟩:=qD2 μ.out))
   refine bodyPost_ret (Xm rfl _ _ a4 27 #[.slice none 0 0,.slice none 0 0] (0,0) _ rfl (by refine Qw (cs:=#[.slice none 0 0,.slice none 0 0]) ?_ 1 _ rfl;refine Qw (cs:=#[.slice none 0 0,.slice none 0 0]) ?_ 0 _ rfl;exact μ.out) Try.underlying27 rfl kr) rfl ?_
   exact⟨_,_,by first|rfl|(simp[Qy,Qx] <;> rfl)|(simp[*,Qy,Qx] <;> rfl),by first|exact Kd.Yj _ _ _ _ _|exact Kd.Jf _ _ _ _ _|exact Kd.Jc _ _ _ _ _|exact Kd.Je _ _ _ _ _|exact Kd.Jd _ _ _ _ _,by first|exact Kd.Yj _ _ _ _ _|exact Kd.Jf _ _ _ _ _|exact Kd.Jc _ _ _ _ _|exact Kd.Je _ _ _ _ _|exact Kd.Jd _ _ _ _ _,bel⟩
 ·rw[if_neg c9] at H
  have c9b0:(ν == 0)=false:=beq_eq_false_iff_ne.mpr c9
  have c9b1:(ν != 0)=true:=bne_iff_ne.mpr c9
  simp only[Option.some.injEq,Prod.mk.injEq] at H
  obtain⟨rfl,rfl,rfl⟩:=H
  go_enter Try.func28,Try.ntmps28
  go_wp2_with (first|((with_reducible refine Qp (N:=7) rfl ?_);refine qE 7 #[.int .i64 J,.int .i64 D] 23 ?_;intro ξ hg jf hbox hb;have U:=Aside0.mk hbox;have bl:=sGe hg;have b9:=sGe hg;replace HB:=sHb hb;clear hb hbox hg)|((with_reducible refine Qp (N:=8) rfl ?_);refine qE 8 #[.slice ζ B.length γ,.slice η I.length ε] 27 ?_;intro ι hg g4 hbox hb;have O:=Aside0.mk hbox;have bu:=sGe hg;have bw:=sGe hg;have κ :=sNl U hg;have a1:=sNg U hg;replace U:=sBk U hb;replace HB:=sHb hb;clear hb hbox hg)|((with_reducible refine Qp (N:=11) rfl ?_);refine qE 11 #[.int .i64 aw,.int .i64 ax,.int .i64 az] 56 ?_;intro bk hg iq hbox hb;have L:=Aside0.mk hbox;have cn:=sGe hg;have co:=sGe hg;have al:=sNl U hg;have am:=sNg U hg;have Z:=sNl O hg;have δ :=sNg O hg;replace U:=sBk U hb;replace O:=sBk O hb;replace HB:=sHb hb;clear hb hbox hg)|((with_reducible refine Qp (N:=13) rfl ?_);refine qE 13 #[.int .i64 b1,.int .i64 b2] 62 ?_;intro τ hg gh hbox hb;have Y:=Aside0.mk hbox;have bh:=sGe hg;have ak:=sGe hg;have an:=sNl U hg;have ao:=sNg U hg;have ap:=sNl O hg;have av:=sNg O hg;have bf:=sNl L hg;have bg:=sNg L hg;replace U:=sBk U hb;replace O:=sBk O hb;replace L:=sBk L hb;replace HB:=sHb hb;clear hb hbox hg)|((with_reducible refine Qp (N:=14) rfl ?_);refine qE 14 #[.slice none 0 0,.slice none 0 0] 27 ?_;intro a4 hg dp hbox hb;have μ :=Aside0.mk hbox;have bi:=sGe hg;have bd:=sGe hg;have a8:=sNl U hg;have ac:=sNg U hg;have ae:=sNl O hg;have ah:=sNg O hg;have θ :=sNl L hg;have aj:=sNg L hg;have a6:=sNl Y hg;have a7:=sNg Y hg;replace U:=sBk U hb;replace O:=sBk O hb;replace L:=sBk L hb;replace Y:=sBk Y hb;replace HB:=sHb hb;clear hb hbox hg;have ir:= κ.out;have it:=a1.out;have kj:=al.out;have kk:=am.out;have iw:=an.out;have ix:=ao.out;have hy:=a8.out;have i0:=ac.out;obtain⟨d5,d7,d8,da⟩:=qD2 U.out;have ga:=Z.out;have gb:= δ.out;have gg:=ap.out;have gi:=av.out;have h5:=ae.out;have h6:=ah.out;obtain⟨fx,fy,fz,g5⟩:=qD2 O.out)|((with_reducible refine Q1 (f:=14) rfl ?_);refine Zp (some 19) rfl rfl Try.func14 kr rfl #[.agg #[.int .i64 J,.int .i64 D],.agg #[.slice ζ B.length γ,.slice η I.length ε]] rfl qM ?_;(with_reducible refine(call_Check.calls k J D _ _ B _ _ I ν _ ?side1 ?side2 ?side3 ?side4 A8.out).mono ?_);(case side1=>exact(Kd.Qz ag.out HB.out));(case side2=>exact ar.out);(case side3=>exact(Kd.Qz ai.out HB.out));(case side4=>exact au.out);rintro e je ⟨rfl,hb⟩;refine⟨_,rfl, ?_⟩;replace U:=sBk U hb;replace O:=sBk O hb;replace L:=sBk L hb;replace Y:=sBk Y hb;replace μ :=sBk μ hb;replace HB:=sHb hb;(try clear hb);(try clear a0);(try clear hk);(try clear hi);have dx:=aj.out;have dy:= θ.out;have dn:=a7.out;have dq:=a6.out;obtain⟨dd,dh,dj,dl⟩:=qD2 μ.out))
  refine bodyPost_ret (Xm rfl _ _ a4 27 #[.slice none 0 0,.slice none 0 0] (0,0) _ rfl (by refine Qw (cs:=#[.slice none 0 0,.slice none 0 0]) ?_ 1 _ rfl;refine Qw (cs:=#[.slice none 0 0,.slice none 0 0]) ?_ 0 _ rfl;exact μ.out) Try.underlying27 rfl kr) rfl ?_
  exact⟨_,_,by first|rfl|(simp[Qy,Qx] <;> rfl)|(simp[*,Qy,Qx] <;> rfl),by first|exact Kd.Yj _ _ _ _ _|exact Kd.Jf _ _ _ _ _|exact Kd.Jc _ _ _ _ _|exact Kd.Je _ _ _ _ _|exact Kd.Jd _ _ _ _ _,by first|exact Kd.Yj _ _ _ _ _|exact Kd.Jf _ _ _ _ _|exact Kd.Jc _ _ _ _ _|exact Kd.Je _ _ _ _ _|exact Kd.Jd _ _ _ _ _,bel⟩
mutual
def call_View.l0:Nat→Int→List (S62)→Int→Int→List (S56)→List (S62)→List Int→Option (List Int×List Int×List Int×Int)
 |0,_,_,_,_,_,_,_=>none
 |k+1,X,I,O,J,D,L,B=>if J<O then (if 0≤J then (if J<(I.length:Int) then (if ((Qk I J).f0)=X then (if B.length<17592186044416 then (call_View.l0 k X I O (wrap64 (J+1)) D L (B ++ [(Qk I J).f1])) else (none)) else (call_View.l0 k X I O (wrap64 (J+1)) D L B)) else (none)) else (none)) else (call_View.l1 k X D (D.length:Int) 0 B ([]:List Int) ([]:List Int))
def call_View.l1:Nat→Int→List (S56)→Int→Int→List Int→List Int→List Int→Option (List Int×List Int×List Int×Int)
 |0,_,_,_,_,_,_,_=>none
 |k+1,X,L,O,J,B,D,I=>if J<O then (if 0≤J then (if J<(L.length:Int) then (if ((Qa L J).f2)=X then (if ((Qa L J).f1)>0 then (if D.length<17592186044416 then (call_View.l1 k X L O (wrap64 (J+1)) B (D ++ [(Qa L J).f0]) I) else (none)) else (if I.length<17592186044416 then (call_View.l1 k X L O (wrap64 (J+1)) B D (I ++ [(Qa L J).f0])) else (none))) else (call_View.l1 k X L O (wrap64 (J+1)) B D I)) else (none)) else (none)) else (some (B,D,I,0))
end
def call_View.f (k:Nat) (J:Int) (D:Int) (B:List (S56)) (I:List (S62)) (a2:Int):Option (List Int×List Int×List Int×Int):=(call_Check.f k J D B I).bind fun a3=>(if a3=0 then ((call_within.f a2 0 (wrap64 (D-1))).bind fun cw=>(if cw=true then (call_View.l0 k a2 I (I.length:Int) 0 B I ([]:List Int)) else (some (([]:List Int),([]:List Int),([]:List Int),191)))) else (some (([]:List Int),([]:List Int),([]:List Int),a3)))
theorem call_View.Zn:∀ k,(∀ I L U D J X Y,LeO (call_View.l0 k I L U D J X Y) (call_View.l0 (k+1) I L U D J X Y))∧(∀ I L U D J X Y,LeO (call_View.l1 k I L U D J X Y) (call_View.l1 (k+1) I L U D J X Y))
 |0=>⟨fun _ _ _ _ _ _ _ r h=>by simp[call_View.l0] at h,fun _ _ _ _ _ _ _ r h=>by simp[call_View.l1] at h⟩
 |k+1=>by
  obtain⟨B,O⟩:=call_View.Zn k
  refine⟨?_, ?_⟩
  ·intro I L U D J X Y
   unfold call_View.l0
   repeat' first
   |(with_reducible exact B _ _ _ _ _ _ _)
   |(with_reducible exact O _ _ _ _ _ _ _)
   |(with_reducible exact call_Check.mono _ _ _ _ _)
   |(with_reducible exact LeO.refl _)
   |(with_reducible exact LeO.none _)
   |(with_reducible refine LeO.ite ?_ ?_)
   |(with_reducible refine LeO.bind ?_ (fun _=>?_))
   |exact B _ _ _ _ _ _ _
   |exact O _ _ _ _ _ _ _
   |exact call_Check.mono _ _ _ _ _
   |exact LeO.none _
   |refine LeO.ite ?_ ?_
   |refine LeO.bind ?_ (fun _=>?_)
  ·intro I L U D J X Y
   unfold call_View.l1
   repeat' first
   |(with_reducible exact B _ _ _ _ _ _ _)
   |(with_reducible exact O _ _ _ _ _ _ _)
   |(with_reducible exact call_Check.mono _ _ _ _ _)
   |(with_reducible exact LeO.refl _)
   |(with_reducible exact LeO.none _)
   |(with_reducible refine LeO.ite ?_ ?_)
   |(with_reducible refine LeO.bind ?_ (fun _=>?_))
   |exact B _ _ _ _ _ _ _
   |exact O _ _ _ _ _ _ _
   |exact call_Check.mono _ _ _ _ _
   |exact LeO.none _
   |refine LeO.ite ?_ ?_
   |refine LeO.bind ?_ (fun _=>?_)
theorem call_View.mono:∀ D L a2 X I k,LeO (call_View.f k D L a2 X I) (call_View.f (k+1) D L a2 X I):=by
 intro D L a2 X I k
 obtain⟨B,O⟩:=call_View.Zn k
 unfold call_View.f
 repeat' first
   |(with_reducible exact B _ _ _ _ _ _ _)
   |(with_reducible exact O _ _ _ _ _ _ _)
   |(with_reducible exact call_Check.mono _ _ _ _ _)
   |(with_reducible exact LeO.refl _)
   |(with_reducible exact LeO.none _)
   |(with_reducible refine LeO.ite ?_ ?_)
   |(with_reducible refine LeO.bind ?_ (fun _=>?_))
   |exact B _ _ _ _ _ _ _
   |exact O _ _ _ _ _ _ _
   |exact call_Check.mono _ _ _ _ _
   |exact LeO.none _
   |refine LeO.ite ?_ ?_
   |refine LeO.bind ?_ (fun _=>?_)
set_option maxHeartbeats 8000000 in
set_option maxRecDepth 100000 in
theorem call_View.calls (k:Nat) (J:Int) (D:Int) (ζ :Option Addr) (γ:Nat) (B:List (S56)) (η :Option Addr) (ε :Nat) (I:List (S62)) (a2:Int) (r1:List Int) (r2:List Int) (r3:List Int) (r4:Int) (w:World) (b4:Kd.C k56 w ζ B.length B) (b5:B.length≤γ) (b6:Kd.C k62 w η I.length I) (b7:I.length ≤ ε) (h:call_View.f k J D B I a2=some (r1,r2,r3,r4)):
  Calls Try.prog 19 #[.agg #[.int .i64 J,.int .i64 D],.agg #[.slice ζ B.length γ,.slice η I.length ε],.int .i64 a2] w fun e w'=>∃ ω ba g2:Value,e = .returned (.tuple #[.agg #[ω,ba,g2],.int .i64 r4])∧Kd.R (Kd.int .i64) 3 w' w.heap.size (fun k_=>some k_≠(ba:Value).ownBlock∧some k_≠(g2:Value).ownBlock) ω r1∧Kd.R (Kd.int .i64) 3 w' w.heap.size (fun k_=>some k_≠(ω :Value).ownBlock∧some k_≠(g2:Value).ownBlock) ba r2∧Kd.R (Kd.int .i64) 3 w' w.heap.size (fun k_=>some k_≠(ω :Value).ownBlock∧some k_≠(ba:Value).ownBlock) g2 r3∧Below w.heap.size w w':=by
 have dk:=Try.underlying23
 have d6:=Try.underlying27
 have ju:=Try.underlying47
 have b8:=Try.underlying62
 have ay:=Try.underlying56
 have ag:=Aside0.mk b4
 have ar:=Aside0.mk b5
 clear b4 b5
 have ai:=Aside0.mk b6
 have au:=Aside0.mk b7
 clear b6 b7
 have HB:=Aside0.mk (Below.refl w.heap.size w)
 have H:((call_Check.f k J D B I).bind fun a3=>(if a3=0 then ((call_within.f a2 0 (wrap64 (D-1))).bind fun cw=>(if cw=true then (call_View.l0 k a2 I (I.length:Int) 0 B I ([]:List Int)) else (some (([]:List Int),([]:List Int),([]:List Int),191)))) else (some (([]:List Int),([]:List Int),([]:List Int),a3))))=some (r1,r2,r3,r4):=h
 clear h
 replace H:=Option.bind_eq_some_iff.mp H
 obtain⟨a3,bv,H⟩:=H
 replace H:(if a3=0 then ((call_within.f a2 0 (wrap64 (D-1))).bind fun cw=>(if cw=true then (call_View.l0 k a2 I (I.length:Int) 0 B I ([]:List Int)) else (some (([]:List Int),([]:List Int),([]:List Int),191)))) else (some (([]:List Int),([]:List Int),([]:List Int),a3)))=some (r1,r2,r3,r4):=H
 have A4:=Aside0.mk bv
 clear bv
 by_cases c5:a3=0
 ·rw[if_pos c5] at H
  have c5b0:(a3==0)=true:=beq_iff_eq.mpr c5
  have c5b1:(a3 != 0)=false:=bne_eq_false_iff_eq.mpr c5
  clear c5
  replace H:=Option.bind_eq_some_iff.mp H
  obtain⟨cw,ch,H⟩:=H
  replace H:(if cw=true then (call_View.l0 k a2 I (I.length:Int) 0 B I ([]:List Int)) else (some (([]:List Int),([]:List Int),([]:List Int),191)))=some (r1,r2,r3,r4):=H
  have A6:=Aside0.mk ch
  clear ch
  by_cases c7:cw=true
  ·subst c7
   have H1:(call_View.l0 k a2 I (I.length:Int) 0 B I ([]:List Int))=some (r1,r2,r3,r4):=by rw[if_pos rfl] at H;exact H
   clear H
   have H:=H1
   clear H1
   have H':=Aside0.mk H
   clear H
   go_enter Try.func19,Try.ntmps19
   go_wp2_with (first|((with_reducible refine Qp (N:=3) rfl ?_);refine qE 3 #[.int .i64 J,.int .i64 D] 23 ?_;intro τ hg w8 hbox hb;have U:=Aside0.mk hbox;have fg:=sGe hg;have fh:=sGe hg;replace HB:=sHb hb;clear hb hbox hg)|((with_reducible refine Qp (N:=4) rfl ?_);refine qE 4 #[.slice ζ B.length γ,.slice η I.length ε] 27 ?_;intro bo hg w9 hbox hb;have Y:=Aside0.mk hbox;have g3:=sGe hg;have g4:=sGe hg;have am:=sNl U hg;have an:=sNg U hg;replace U:=sBk U hb;replace HB:=sHb hb;clear hb hbox hg)|((with_reducible refine Qp (N:=6) rfl ?_);refine qE 6 #[.slice none 0 0,.slice none 0 0,.slice none 0 0] 47 ?_;intro a9 hg cu hbox hb;have X:=Aside0.mk hbox;have ey:=sGe hg;have ez:=sGe hg;have ao:=sNl U hg;have ap:=sNg U hg;have ab:=sNl Y hg;have ac:=sNg Y hg;replace U:=sBk U hb;replace Y:=sBk Y hb;replace HB:=sHb hb;clear hb hbox hg;have it:=am.out;have j6:=an.out;have eb:=ao.out;have ec:=ap.out;obtain⟨co,cp,cq,cr⟩:=qD2 U.out;have i1:=ab.out;have i2:=ac.out;obtain⟨cj,ck,cm,cn⟩:=qD2 Y.out)|((with_reducible refine Q1 (f:=14) rfl ?_);refine Zp (some 16) rfl rfl Try.func14 kr rfl #[.agg #[.int .i64 J,.int .i64 D],.agg #[.slice ζ B.length γ,.slice η I.length ε]] rfl qM ?_;(with_reducible refine(call_Check.calls k J D _ _ B _ _ I a3 _ ?side1 ?side2 ?side3 ?side4 A4.out).mono ?_);(case side1=>exact(Kd.Qz ag.out HB.out));(case side2=>exact ar.out);(case side3=>exact(Kd.Qz ai.out HB.out));(case side4=>exact au.out);rintro e af ⟨rfl,hb⟩;refine⟨_,rfl, ?_⟩;replace U:=sBk U hb;replace Y:=sBk Y hb;replace X:=sBk X hb;replace HB:=sHb hb;(try clear hb);(try clear a0);(try clear hk);(try clear hi);obtain⟨dl,dr,dv,dz⟩:=qD2 U.out)|((with_reducible refine Q1 (f:=41) rfl ?_);refine Zp (some 25) rfl rfl Try.func41 kr rfl #[.int .i64 a2,.int .i64 0,.int .i64 (wrap64 (D-1))] rfl qM ?_;(with_reducible refine(call_within.calls a2 0 (wrap64 (D-1)) true _ A6.out).mono ?_);rintro e w' ⟨rfl,⟨nd,rfl⟩⟩;refine⟨_,rfl, ?_⟩;(try(rw[G8 af];generalize hq_:World.drewN af _=af;have O:Aside0 (af.heap[τ]?=some (.cells #[.int .i64 J,.int .i64 D] 23 (0,0))):=⟨by rw[← hq_];exact U.out⟩;have Z:Aside0 (af.heap[bo]?=some (.cells #[.slice ζ B.length γ,.slice η I.length ε] 27 (0,0))):=⟨by rw[← hq_];exact Y.out⟩;have ι :Aside0 (af.heap[a9]?=some (.cells #[.slice none 0 0,.slice none 0 0,.slice none 0 0] 47 (0,0))):=⟨by rw[← hq_];exact X.out⟩;have κ :Aside0 (Below w.heap.size w af):=⟨by rw[← hq_];exact HB.out⟩;clear U Y X HB hq_;have U:=O;have Y:=Z;have X:= ι;have HB:= κ;clear O Z ι κ));(try(have bu:af.cell? ⟨τ,0,none⟩=some (.int .i64 J):=(Qi U.out 0).trans rfl));(try(have bw:af.cell? ⟨τ,1,none⟩=some (.int .i64 D):=(Qi U.out 1).trans rfl));(try(have bz:=Q6 U.out 0));(try(have ca:=Q6 U.out 1)))|((with_reducible refine Qp (N:=9) rfl ?_);refine qE 9 #[.slice none 0 0,.slice none 0 0,.slice none 0 0] 47 ?_;intro ae hg dw hbox hb;have θ :=Aside0.mk hbox;have i5:=sGe hg;have e4:=sGe hg;have b9:=sNl U hg;have bb:=sNg U hg;have av:=sNl Y hg;have aw:=sNg Y hg;have bc:=sNl X hg;have bd:=sNg X hg;replace U:=sBk U hb;replace Y:=sBk Y hb;replace X:=sBk X hb;replace HB:=sHb hb;clear hb hbox hg;have f9:=bb.out;have fj:=b9.out;have e5:=aw.out;have ea:=av.out;have fa:=bd.out;have fb:=bc.out;obtain⟨bp,bq,dc,br,bs,dd⟩:=qD3 θ.out;obtain⟨d5,d7,d8,d9⟩:=qD2 Y.out))
   go_loopg [32] k (fun kq n3 w'=>∃ (μ :Int) (φ :List Int) (ρ:Value),n3 = .int .i64 μ ∧ Aside0 (call_View.l0 kq a2 I (I.length:Int) μ B I φ = some (r1,r2,r3,r4))∧Aside0 (kq≤k)∧Aside0 (Kd.R (Kd.int .i64) 3 w' w.heap.size (fun _=>True) ρ φ)∧Aside0 (w'.heap[τ]?=some (.cells #[.int .i64 J,.int .i64 D] 23 (0,0)))∧Aside0 (w'.heap[bo]?=some (.cells #[(.slice ζ B.length γ),(.slice η I.length ε)] 27 (0,0)))∧Aside0 (w'.heap[a9]?=some (.cells #[(.slice none 0 0),(.slice none 0 0),(.slice none 0 0)] 47 (0,0)))∧Aside0 (w'.heap[ae]?=some (.cells #[ρ,(.slice none 0 0),(.slice none 0 0)] 47 (0,0)))∧Aside0 (Below w.heap.size w w'))
   case atStart=>exact⟨(0),(([]:List Int)),(.slice none 0 0),qR,H',⟨Nat.le_refl _⟩,⟨by first|exact Kd.Yj _ _ _ _ _|exact Kd.Jf _ _ _ _ _|exact Kd.Jc _ _ _ _ _|exact Kd.Je _ _ _ _ _|exact Kd.Jd _ _ _ _ _⟩,⟨bka U⟩,⟨bka Y⟩,⟨bka X⟩,⟨by(with_reducible repeat first|apply Qf|apply Qb|apply Qg);refine Qw (cs:=#[.slice none 0 0,.slice none 0 0,.slice none 0 0]) ?_ 2 _ rfl;(with_reducible repeat first|apply Qf|apply Qb|apply Qg);refine Qw (cs:=#[.slice none 0 0,.slice none 0 0,.slice none 0 0]) ?_ 1 _ rfl;(with_reducible repeat first|apply Qf|apply Qb|apply Qg);refine Qw (cs:=#[.slice none 0 0,.slice none 0 0,.slice none 0 0]) ?_ 0 _ rfl;(with_reducible repeat first|apply Qf|apply Qb|apply Qg);exact θ.out⟩,⟨bel⟩⟩
   case round=>
    clear H'
    try clear c1
    try clear c2
    try clear p2
    try clear c4
    try clear c5
    try clear c5b0
    try clear c5b1
    try clear p6
    try clear c7
    try clear cb
    try clear ci
    try clear az
    try clear e0
    try clear cf
    try clear cv
    try clear jr
    try clear co
    try clear cp
    try clear cj
    try clear ck
    try clear dl
    try clear dr
    try clear bu
    try clear bw
    try clear bp
    try clear bq
    try clear dc
    try clear d5
    try clear d7
    try clear cq
    try clear cr
    try clear cm
    try clear cn
    try clear dv
    try clear dz
    try clear bz
    try clear ca
    try clear br
    try clear bs
    try clear dd
    try clear d8
    try clear d9
    obtain⟨μ,φ,ρ,rfl,HA,ξ,HO_114000,U,Y,X,θ,HB⟩:=hrel
    cases gk with
    |zero=>exact absurd HA.out (by simp[call_View.l0])
    |succ k1=>
     have H:=HA.out
     clear HA
     simp only[call_View.l0] at H
     by_cases aj: μ < (I.length:Int)
     ·rw[if_pos aj] at H
      have c25b0:decide (μ < (I.length:Int))=true:=decide_eq_true aj
      clear aj
      by_cases ax:0 ≤ μ
      ·rw[if_pos ax] at H
       have c26b0:decide (0 ≤ μ)=true:=decide_eq_true ax
       clear ax
       by_cases de: μ < (I.length:Int)
       ·rw[if_pos de] at H
        have c27b0:decide (μ < (I.length:Int))=true:=decide_eq_true de
        clear de
        by_cases al:((Qk I μ).f0)=a2
        ·rw[if_pos al] at H
         have c28b0:(((Qk I μ).f0)==a2)=true:=beq_iff_eq.mpr al
         have c28b1:(((Qk I μ).f0) != a2)=false:=bne_eq_false_iff_eq.mpr al
         clear al
         by_cases ce: φ.length<17592186044416
         ·rw[if_pos ce] at H
          have iq:=Aside0.mk ce
          clear ce
          obtain⟨df,b0⟩:∃ y_:List Int,y_=(φ ++ [(Qk I μ).f1]):=⟨_,rfl⟩
          replace H:(call_View.l0 k1 a2 I (I.length:Int) (wrap64 (μ + 1)) B I df)=some (r1,r2,r3,r4):=by first|(rw[b0];with_reducible exact H)|(have δ :=(Option.bind_some _ _).symm.trans H;rw[b0];with_reducible exact δ)|(have δ :=(Option.bind_some _ _).symm.trans H;with_reducible exact δ)|with_reducible exact H|(rw[b0];exact H)|exact H
          have e3:=Aside0.mk b0
          clear b0
          have H':=Aside0.mk H
          clear H
          have b1:0≤(μ :Int):=of_decide_eq_true (by assumption)
          have b2: μ < (I.length:Int):=of_decide_eq_true (by assumption)
          obtain⟨e7,e9,a4,a7⟩:=Zu ai.out μ b1 b2
          cases e9
          replace a4:=(HB.out.cell (World.block_lt_of_cell? w _ a4)).trans a4
          replace a7:=(HB.out.cell (World.block_lt_of_cell? w _ a7)).trans a7
          replace b1:=eq_true b1
          replace b2:=eq_true b2
          go_wp2_with (first|((with_reducible refine Qp (N:=11) rfl ?_);refine qE 11 #[.int .i64 0,.int .i64 0] 62 ?_;intro gf hg ew hbox hb;have cg:=Aside0.mk hbox;have ir:=sGe hg;have j7:=sGe hg;have cx:=sNl U hg;have cy:=sNg U hg;have cz:=sNl Y hg;have d0:=sNg Y hg;have d1:=sNl X hg;have d2:=sNg X hg;have d4:=sNl θ hg;have da:=sNg θ hg;replace HO_114000:=sRb HO_114000 hb;replace U:=sBk U hb;replace Y:=sBk Y hb;replace X:=sBk X hb;replace θ :=sBk θ hb;replace HB:=sHb hb;clear hb hbox hg;have j8:=cy.out;have j9:=cx.out;have g8:=d0.out;have g9:=cz.out;have fe:=d2.out;have ff:=d1.out;have i6:=da.out;have ih:=d4.out;obtain⟨eg,eh,ei,ej⟩:=qD2 cg.out;have e6:=bb.out;have e8:=b9.out;have gj:=aw.out;have gl:=av.out;have hj:=bd.out;have hl:=bc.out;obtain⟨g5,g6,h8,ge,gh,h9⟩:=qD3 θ.out)|((with_reducible refine Zl (b:=.append) (xs:=#[.tmp 41,.tmp 44]) rfl ?_);at_builtin;refine Kd.Z5 (Kd.int .i64) (w0:=w) w.heap.size rfl (.tmp 41) (.tmp 44) 45 3 (.int .i64 0) 8 rfl Try.underlying45 W5 rfl (by decide) (by omega) ρ φ ((Qk I μ).f1) [.int .i64 ((Qk I μ).f1)] (fun _=>True) (fun _=>False) rfl (by first|(go_simp;done)|(go_simp;rfl)) ?aP (fun _ hk=>hk.elim) ?aF ?aO ?aB ?aS ?aL ?_;(case aP=>exact rfl);(case aB=>exact bel);(case aF=>exact(fun _ _=>trivial));(case aO=>exact(by(with_reducible repeat first|apply Kd.Qm|apply Kd.Ql|apply Kd.Qn);exact Kd.Qr (Kd.Qs (Kd.Qs (Kd.Qv HO_114000.out cg.out (by decide)) (fun _ hk=>hk.2) (.int .i64 ((Qk I μ).f0))) (fun _ hk=>hk.2) (.int .i64 ((Qk I μ).f1))) (fun _ hk=>trivial)));(case aS=>exact(Qj bel));(case aL=>have:=iq.out;omega);intro js jq ho hb hg hat;rw[← e3.out] at ho;have db:=Aside0.mk ho;replace U:=Aside0.mk (Q8 (g:= τ) (o:=.cells #[.int .i64 J,.int .i64 D] 23 (0,0)) (bka U) hg (Kd.Yx HO_114000.out U.out (by decide)));replace Y:=Aside0.mk (Q8 (g:=bo) (o:=.cells #[.slice ζ B.length γ,.slice (some e7) I.length ε] 27 (0,0)) (bka Y) hg (Kd.Yx HO_114000.out Y.out (by decide)));replace X:=Aside0.mk (Q8 (g:=a9) (o:=.cells #[.slice none 0 0,.slice none 0 0,.slice none 0 0] 47 (0,0)) (bka X) hg (Kd.Yx HO_114000.out X.out (by decide)));replace θ :=Aside0.mk (Q8 (g:=ae) (o:=.cells #[ρ,.slice none 0 0,.slice none 0 0] 47 (0,0)) (bka θ) hg (Kd.Yx HO_114000.out θ.out (by decide)));replace cg:=Aside0.mk (Q8 (g:=gf) (o:=.cells #[.int .i64 ((Qk I μ).f0),.int .i64 ((Qk I μ).f1)] 62 (0,0)) (by(with_reducible repeat first|apply Qf|apply Qb|apply Qg);refine Qw (cs:=#[.int .i64 ((Qk I μ).f0),.int .i64 0]) ?_ 1 _ rfl;(with_reducible repeat first|apply Qf|apply Qb|apply Qg);refine Qw (cs:=#[.int .i64 0,.int .i64 0]) ?_ 0 _ rfl;(with_reducible repeat first|apply Qf|apply Qb|apply Qg);exact cg.out) hg (Kd.Yx HO_114000.out cg.out (by decide)));replace HB:=Aside0.mk hb;clear HO_114000;clear ho hb hg hat;obtain⟨jv,jw,jx⟩:=Kd.Q5 db.out;subst jx;obtain⟨ha,he,hh,hu,hx,i3⟩:=qD3 θ.out))
          go_roundg k1
          case measure=>have:= ξ.out;omega
          case rel=>exact⟨(wrap64 (μ + 1)),(df),(.slice jv df.length jw),qR,H',⟨by have:= ξ.out;omega⟩,⟨by(with_reducible repeat first|apply Kd.Qm|apply Kd.Ql|apply Kd.Qn);exact Kd.Qr (Kd.Qs (Kd.Qv db.out θ.out (by decide)) (fun _ hk=>hk.2) _) (fun _ hk=>trivial)⟩,⟨bka U⟩,⟨bka Y⟩,⟨bka X⟩,⟨by(with_reducible repeat first|apply Qf|apply Qb|apply Qg);refine Qw (cs:=#[ρ,.slice none 0 0,.slice none 0 0]) ?_ 0 _ rfl;(with_reducible repeat first|apply Qf|apply Qb|apply Qg);exact θ.out⟩,⟨bel⟩⟩
         ·rw[if_neg ce] at H
          exact absurd H (by simp)
        ·rw[if_neg al] at H
         have c28b0:(((Qk I μ).f0)==a2)=false:=beq_eq_false_iff_ne.mpr al
         have c28b1:(((Qk I μ).f0) != a2)=true:=bne_iff_ne.mpr al
         have H':=Aside0.mk H
         clear H
         have b1:0≤(μ :Int):=of_decide_eq_true (by assumption)
         have b2: μ < (I.length:Int):=of_decide_eq_true (by assumption)
         obtain⟨e7,e9,a4,a7⟩:=Zu ai.out μ b1 b2
         cases e9
         replace a4:=(HB.out.cell (World.block_lt_of_cell? w _ a4)).trans a4
         replace a7:=(HB.out.cell (World.block_lt_of_cell? w _ a7)).trans a7
         replace b1:=eq_true b1
         replace b2:=eq_true b2
         go_wp2_with (first|((with_reducible refine Qp (N:=11) rfl ?_);refine qE 11 #[.int .i64 0,.int .i64 0] 62 ?_;intro gf hg o0 hbox hb;have cg:=Aside0.mk hbox;have ir:=sGe hg;have j7:=sGe hg;have cx:=sNl U hg;have cy:=sNg U hg;have cz:=sNl Y hg;have d0:=sNg Y hg;have d1:=sNl X hg;have d2:=sNg X hg;have d4:=sNl θ hg;have da:=sNg θ hg;replace HO_114000:=sRb HO_114000 hb;replace U:=sBk U hb;replace Y:=sBk Y hb;replace X:=sBk X hb;replace θ :=sBk θ hb;replace HB:=sHb hb;clear hb hbox hg;have ja:=cy.out;have jb:=cx.out;have ii:=d0.out;have ij:=cz.out;have ik:=d2.out;have im:=d1.out;have io:=da.out;have ip:=d4.out;obtain⟨er,et,eu,ev⟩:=qD2 cg.out))
         go_roundg k1
         case measure=>have:= ξ.out;omega
         case rel=>exact⟨(wrap64 (μ + 1)),(φ),(ρ),qR,H',⟨by have:= ξ.out;omega⟩,⟨by(with_reducible repeat first|apply Kd.Qm|apply Kd.Ql|apply Kd.Qn);exact Kd.Qr (Kd.Qs (Kd.Qs (Kd.Qv HO_114000.out cg.out (by decide)) (fun _ hk=>hk.2) (.int .i64 ((Qk I μ).f0))) (fun _ hk=>hk.2) (.int .i64 ((Qk I μ).f1))) (fun _ hk=>trivial)⟩,⟨bka U⟩,⟨bka Y⟩,⟨bka X⟩,⟨bka θ⟩,⟨bel⟩⟩
       ·rw[if_neg de] at H
        exact absurd H (by simp)
      ·rw[if_neg ax] at H
       exact absurd H (by simp)
     ·rw[if_neg aj] at H
      have c25b0:decide (μ < (I.length:Int))=false:=decide_eq_false aj
      clear aj
      have H':=Aside0.mk H
      clear H
      have jc:=an.out
      have jd:=am.out
      have gm:=ab.out
      have gn:=ac.out
      have gp:=av.out
      have h4:=aw.out
      obtain⟨f4,f5,f7,f8⟩:=qD2 Y.out
      go_wp2
      go_loopg [51] k1 (fun kq na w'=>∃ (L:Int) (a5:List Int) (aa:List Int) (a6:Value) (a8:Value),na = .int .i64 L∧Aside0 (call_View.l1 kq a2 B (B.length:Int) L φ a5 aa=some (r1,r2,r3,r4))∧Aside0 (kq≤k1)∧Aside0 (Kd.R (Kd.int .i64) 3 w' w.heap.size (fun k_=>some k_≠(a6:Value).ownBlock∧some k_≠(a8:Value).ownBlock) ρ φ)∧Aside0 (Kd.R (Kd.int .i64) 3 w' w.heap.size (fun k_=>some k_≠(ρ:Value).ownBlock∧some k_≠(a8:Value).ownBlock) a6 a5)∧Aside0 (Kd.R (Kd.int .i64) 3 w' w.heap.size (fun k_=>some k_≠(ρ:Value).ownBlock∧some k_≠(a6:Value).ownBlock) a8 aa)∧Aside0 (w'.heap[τ]?=some (.cells #[.int .i64 J,.int .i64 D] 23 (0,0)))∧Aside0 (w'.heap[bo]?=some (.cells #[(.slice ζ B.length γ),(.slice η I.length ε)] 27 (0,0)))∧Aside0 (w'.heap[a9]?=some (.cells #[(.slice none 0 0),(.slice none 0 0),(.slice none 0 0)] 47 (0,0)))∧Aside0 (w'.heap[ae]?=some (.cells #[ρ,a6,a8] 47 (0,0)))∧Aside0 (Below w.heap.size w w'))
      case atStart=>exact⟨(0),(([]:List Int)),(([]:List Int)),(.slice none 0 0),(.slice none 0 0),rfl,H',⟨Nat.le_refl _⟩,⟨by(with_reducible repeat first|apply Kd.Qm|apply Kd.Ql|apply Kd.Qn);exact Kd.Qr HO_114000.out (fun _ hk=>⟨(by simp[Value.ownBlock]),(by simp[Value.ownBlock])⟩)⟩,⟨by first|exact Kd.Yj _ _ _ _ _|exact Kd.Jf _ _ _ _ _|exact Kd.Jc _ _ _ _ _|exact Kd.Je _ _ _ _ _|exact Kd.Jd _ _ _ _ _⟩,⟨by first|exact Kd.Yj _ _ _ _ _|exact Kd.Jf _ _ _ _ _|exact Kd.Jc _ _ _ _ _|exact Kd.Je _ _ _ _ _|exact Kd.Jd _ _ _ _ _⟩,U,Y,X,θ,HB⟩
      case round=>
       clear H'
       try clear c1
       try clear p1
       try clear q1
       try clear bm
       try clear c2
       try clear p2
       try clear c3
       try clear c4
       try clear c5
       try clear c5b0
       try clear c5b1
       try clear p6
       try clear c7
       try clear cb
       try clear n1
       try clear n2
       try clear jt
       try clear ci
       try clear az
       try clear e0
       try clear cf
       try clear cv
       try clear jr
       try clear aj
       try clear c25b0
       try clear ax
       try clear c26b0
       try clear de
       try clear c27b0
       try clear al
       try clear c28b0
       try clear c28b1
       try clear ce
       try clear cd
       try clear g7
       try clear lf
       try clear o1
       try clear en
       try clear eo
       try clear jl
       try clear gr
       try clear fk
       try clear fi
       try clear ek
       try clear o2
       try clear dn
       try clear ep
       try clear dt
       try clear co
       try clear cp
       try clear cj
       try clear ck
       try clear dl
       try clear dr
       try clear bu
       try clear bw
       try clear bp
       try clear bq
       try clear dc
       try clear d5
       try clear d7
       try clear eg
       try clear eh
       try clear g5
       try clear g6
       try clear h8
       try clear ha
       try clear he
       try clear hh
       try clear er
       try clear et
       try clear f4
       try clear f5
       try clear cq
       try clear cr
       try clear cm
       try clear cn
       try clear dv
       try clear dz
       try clear bz
       try clear ca
       try clear br
       try clear bs
       try clear dd
       try clear d8
       try clear d9
       try clear ei
       try clear ej
       try clear ge
       try clear gh
       try clear h9
       try clear hu
       try clear hx
       try clear i3
       try clear eu
       try clear ev
       try clear f7
       try clear f8
       try clear a4
       try clear a7
       try clear b1
       try clear p2
       try clear p6
       try clear b2
       obtain⟨L,a5,aa,a6,a8,rfl,HA,bn,HO_114000,HO_114001,HO_114002,U,Y,X,θ,HB⟩:=hrel
       cases gk with
       |zero=>exact absurd HA.out (by simp[call_View.l1])
       |succ k2=>
        have H:=HA.out
        clear HA
        simp only[call_View.l1] at H
        by_cases el:L<(B.length:Int)
        ·rw[if_pos el] at H
         have c53b0:decide (L<(B.length:Int))=true:=decide_eq_true el
         clear el
         by_cases em:0≤L
         ·rw[if_pos em] at H
          have c54b0:decide (0≤L)=true:=decide_eq_true em
          clear em
          by_cases ef:L<(B.length:Int)
          ·rw[if_pos ef] at H
           have c55b0:decide (L<(B.length:Int))=true:=decide_eq_true ef
           clear ef
           by_cases dx:((Qa B L).f2)=a2
           ·rw[if_pos dx] at H
            have c56b0:(((Qa B L).f2)==a2)=true:=beq_iff_eq.mpr dx
            have c56b1:(((Qa B L).f2) != a2)=false:=bne_eq_false_iff_eq.mpr dx
            clear dx
            by_cases gg:((Qa B L).f1)>0
            ·rw[if_pos gg] at H
             have c57b0:decide (0<((Qa B L).f1))=true:=decide_eq_true gg
             clear gg
             by_cases du:a5.length<17592186044416
             ·rw[if_pos du] at H
              have fc:=Aside0.mk du
              clear du
              obtain⟨fl,di⟩:∃ y_:List Int,y_=(a5 ++ [(Qa B L).f0]):=⟨_,rfl⟩
              replace H:(call_View.l1 k2 a2 B (B.length:Int) (wrap64 (L+1)) φ fl aa)=some (r1,r2,r3,r4):=by first|(rw[di];with_reducible exact H)|(have δ :=(Option.bind_some _ _).symm.trans H;rw[di];with_reducible exact δ)|(have δ :=(Option.bind_some _ _).symm.trans H;with_reducible exact δ)|with_reducible exact H|(rw[di];exact H)|exact H
              have je:=Aside0.mk di
              clear di
              have H':=Aside0.mk H
              clear H
              have ah:0≤(L:Int):=of_decide_eq_true (by assumption)
              have ak:L<(B.length:Int):=of_decide_eq_true (by assumption)
              obtain⟨b3,dh,χ,ψ,a1⟩:=Zo ag.out L ah ak
              cases dh
              replace χ :=(HB.out.cell (World.block_lt_of_cell? w _ χ)).trans χ
              replace ψ :=(HB.out.cell (World.block_lt_of_cell? w _ ψ)).trans ψ
              replace a1:=(HB.out.cell (World.block_lt_of_cell? w _ a1)).trans a1
              replace ah:=eq_true ah
              replace ak:=eq_true ak
              go_wp2_with (first|((with_reducible refine Qp (N:=13) rfl ?_);refine qE 13 #[.int .i64 0,.int .i64 0,.int .i64 0] 56 ?_;intro σ hg i4 hbox hb;have ν :=Aside0.mk hbox;have ed:=sGe hg;have ee:=sGe hg;have be:=sNl U hg;have bf:=sNg U hg;have bg:=sNl Y hg;have bh:=sNg Y hg;have bi:=sNl X hg;have bj:=sNg X hg;have bk:=sNl θ hg;have bl:=sNg θ hg;replace HO_114000:=sRb HO_114000 hb;replace HO_114001:=sRb HO_114001 hb;replace HO_114002:=sRb HO_114002 hb;replace U:=sBk U hb;replace Y:=sBk Y hb;replace X:=sBk X hb;replace θ :=sBk θ hb;replace HB:=sHb hb;clear hb hbox hg;have iw:=bf.out;have ix:=be.out;have hy:=bh.out;have i0:=bg.out;have iy:=bj.out;have iz:=bi.out;have ga:=bl.out;have gb:=bk.out;obtain⟨gt,gu,m3,gv,gw,m4⟩:=qD3 ν.out;have h5:=bb.out;have h6:=b9.out;have kl:=aw.out;have km:=av.out;have kn:=bd.out;have ko:=bc.out;obtain⟨fn,fo,m5,fp,fq,m6⟩:=qD3 θ.out)|((with_reducible refine Zl (b:=.append) (xs:=#[.tmp 72,.tmp 75]) rfl ?_);at_builtin;refine Kd.Z5 (Kd.int .i64) (w0:=w) w.heap.size rfl (.tmp 72) (.tmp 75) 45 3 (.int .i64 0) 8 rfl Try.underlying45 W5 rfl (by decide) (by omega) a6 a5 ((Qa B L).f0) [.int .i64 ((Qa B L).f0)] (fun k_=>some k_≠(ρ:Value).ownBlock∧some k_≠(a8:Value).ownBlock) (fun _=>False) rfl (by first|(go_simp;done)|(go_simp;rfl)) ?aP (fun _ hk=>hk.elim) ?aF ?aO ?aB ?aS ?aL ?_;(case aP=>exact rfl);(case aB=>exact bel);(case aF=>exact(fun k_ hk=>⟨Kd.fresh' (Kd.Z8 (by(with_reducible repeat first|apply Kd.Qm|apply Kd.Ql|apply Kd.Qn);exact(Kd.Qr (Kd.Qs (Kd.Qs (Kd.Qs (Kd.Qv HO_114000.out ν.out (by decide)) (fun _ hk=>hk.2) (.int .i64 ((Qa B L).f0))) (fun _ hk=>hk.2) (.int .i64 ((Qa B L).f1))) (fun _ hk=>hk.2) (.int .i64 ((Qa B L).f2))) (fun _ h_=>h_.1)))) k_ hk,Kd.fresh' (Kd.Z8 (by(with_reducible repeat first|apply Kd.Qm|apply Kd.Ql|apply Kd.Qn);exact(Kd.Qr (Kd.Qs (Kd.Qs (Kd.Qs (Kd.Qv HO_114002.out ν.out (by decide)) (fun _ hk=>hk.2) (.int .i64 ((Qa B L).f0))) (fun _ hk=>hk.2) (.int .i64 ((Qa B L).f1))) (fun _ hk=>hk.2) (.int .i64 ((Qa B L).f2))) (fun _ h_=>h_.1)))) k_ hk⟩));(case aO=>exact(by(with_reducible repeat first|apply Kd.Qm|apply Kd.Ql|apply Kd.Qn);exact Kd.Qr (Kd.Qs (Kd.Qs (Kd.Qs (Kd.Qv HO_114001.out ν.out (by decide)) (fun _ hk=>hk.2) (.int .i64 ((Qa B L).f0))) (fun _ hk=>hk.2) (.int .i64 ((Qa B L).f1))) (fun _ hk=>hk.2) (.int .i64 ((Qa B L).f2))) (fun _ hk=>⟨hk.1.1,hk.1.2⟩)));(case aS=>exact(Qj bel));(case aL=>have:=fc.out;omega);intro nx il ho hb hg hat;rw[← je.out] at ho;have gi:=Aside0.mk ho;replace HO_114000:=Aside0.mk (Kd.Kh (ok:=(fun k_=>some k_≠(a8:Value).ownBlock)) (by(with_reducible repeat first|apply Kd.Qm|apply Kd.Ql|apply Kd.Qn);exact Kd.Qr (Kd.Qs (Kd.Qs (Kd.Qs (Kd.Qv HO_114000.out ν.out (by decide)) (fun _ hk=>hk.2) (.int .i64 ((Qa B L).f0))) (fun _ hk=>hk.2) (.int .i64 ((Qa B L).f1))) (fun _ hk=>hk.2) (.int .i64 ((Qa B L).f2))) (fun _ hk=>⟨hk.1.2,hk.1.1⟩)) hg hat);replace HO_114002:=Aside0.mk (Kd.Kh (ok:=(fun k_=>some k_≠(ρ:Value).ownBlock)) (by(with_reducible repeat first|apply Kd.Qm|apply Kd.Ql|apply Kd.Qn);exact Kd.Qr (Kd.Qs (Kd.Qs (Kd.Qs (Kd.Qv HO_114002.out ν.out (by decide)) (fun _ hk=>hk.2) (.int .i64 ((Qa B L).f0))) (fun _ hk=>hk.2) (.int .i64 ((Qa B L).f1))) (fun _ hk=>hk.2) (.int .i64 ((Qa B L).f2))) (fun _ hk=>⟨hk.1.1,hk.1.2⟩)) hg hat);replace U:=Aside0.mk (Q8 (g:= τ) (o:=.cells #[.int .i64 J,.int .i64 D] 23 (0,0)) (bka U) hg (Kd.Yx HO_114001.out U.out (by decide)));replace Y:=Aside0.mk (Q8 (g:=bo) (o:=.cells #[.slice (some b3) B.length γ,.slice η I.length ε] 27 (0,0)) (bka Y) hg (Kd.Yx HO_114001.out Y.out (by decide)));replace X:=Aside0.mk (Q8 (g:=a9) (o:=.cells #[.slice none 0 0,.slice none 0 0,.slice none 0 0] 47 (0,0)) (bka X) hg (Kd.Yx HO_114001.out X.out (by decide)));replace θ :=Aside0.mk (Q8 (g:=ae) (o:=.cells #[ρ,a6,a8] 47 (0,0)) (bka θ) hg (Kd.Yx HO_114001.out θ.out (by decide)));replace ν :=Aside0.mk (Q8 (g:=σ) (o:=.cells #[.int .i64 ((Qa B L).f0),.int .i64 ((Qa B L).f1),.int .i64 ((Qa B L).f2)] 56 (0,0)) (by(with_reducible repeat first|apply Qf|apply Qb|apply Qg);refine Qw (cs:=#[.int .i64 ((Qa B L).f0),.int .i64 ((Qa B L).f1),.int .i64 0]) ?_ 2 _ rfl;(with_reducible repeat first|apply Qf|apply Qb|apply Qg);refine Qw (cs:=#[.int .i64 ((Qa B L).f0),.int .i64 0,.int .i64 0]) ?_ 1 _ rfl;(with_reducible repeat first|apply Qf|apply Qb|apply Qg);refine Qw (cs:=#[.int .i64 0,.int .i64 0,.int .i64 0]) ?_ 0 _ rfl;(with_reducible repeat first|apply Qf|apply Qb|apply Qg);exact ν.out) hg (Kd.Yx HO_114001.out ν.out (by decide)));replace HB:=Aside0.mk hb;clear HO_114001;clear ho hb hg hat;obtain⟨dm,dp,dq⟩:=Kd.Q5 gi.out;subst dq;obtain⟨m7,m8,m9,ma,mb,mc⟩:=qD3 θ.out))
              go_roundg k2
              case measure=>have:= ξ.out;have:=bn.out;omega
              case rel=>exact⟨(wrap64 (L+1)),(fl),(aa),(.slice dm fl.length dp),(a8),qR,H',⟨by have:= ξ.out;have:=bn.out;omega⟩,⟨by(with_reducible repeat first|apply Kd.Qm|apply Kd.Ql|apply Kd.Qn);exact Kd.Qr (Kd.Qs (Kd.Qv HO_114000.out θ.out (by decide)) (fun _ hk=>hk.2) _) (fun _ hk=>⟨hk.1.2,hk.1.1⟩)⟩,⟨by(with_reducible repeat first|apply Kd.Qm|apply Kd.Ql|apply Kd.Qn);exact Kd.Qr (Kd.Qs (Kd.Qv gi.out θ.out (by decide)) (fun _ hk=>hk.2) _) (fun _ hk=>⟨hk.1.1,hk.1.2⟩)⟩,⟨by(with_reducible repeat first|apply Kd.Qm|apply Kd.Ql|apply Kd.Qn);exact Kd.Qr (Kd.Qs (Kd.Qv HO_114002.out θ.out (by decide)) (fun _ hk=>hk.2) _) (fun _ hk=>⟨hk.1.1,hk.1.2⟩)⟩,⟨bka U⟩,⟨bka Y⟩,⟨bka X⟩,⟨by(with_reducible repeat first|apply Qf|apply Qb|apply Qg);refine Qw (cs:=#[ρ,a6,a8]) ?_ 1 _ rfl;(with_reducible repeat first|apply Qf|apply Qb|apply Qg);exact θ.out⟩,⟨bel⟩⟩
             ·rw[if_neg du] at H
              exact absurd H (by simp)
            ·rw[if_neg gg] at H
             have c57b0:decide (0<((Qa B L).f1))=false:=decide_eq_false gg
             clear gg
             by_cases gq:aa.length<17592186044416
             ·rw[if_pos gq] at H
              have jf:=Aside0.mk gq
              clear gq
              obtain⟨fm,dj⟩:∃ y_:List Int,y_=(aa ++ [(Qa B L).f0]):=⟨_,rfl⟩
              replace H:(call_View.l1 k2 a2 B (B.length:Int) (wrap64 (L+1)) φ a5 fm)=some (r1,r2,r3,r4):=by first|(rw[dj];with_reducible exact H)|(have δ :=(Option.bind_some _ _).symm.trans H;rw[dj];with_reducible exact δ)|(have δ :=(Option.bind_some _ _).symm.trans H;with_reducible exact δ)|with_reducible exact H|(rw[dj];exact H)|exact H
              have jg:=Aside0.mk dj
              clear dj
              have H':=Aside0.mk H
              clear H
              have ah:0≤(L:Int):=of_decide_eq_true (by assumption)
              have ak:L<(B.length:Int):=of_decide_eq_true (by assumption)
              obtain⟨b3,dh,χ,ψ,a1⟩:=Zo ag.out L ah ak
              cases dh
              replace χ :=(HB.out.cell (World.block_lt_of_cell? w _ χ)).trans χ
              replace ψ :=(HB.out.cell (World.block_lt_of_cell? w _ ψ)).trans ψ
              replace a1:=(HB.out.cell (World.block_lt_of_cell? w _ a1)).trans a1
              replace ah:=eq_true ah
              replace ak:=eq_true ak
              go_wp2_with (first|((with_reducible refine Qp (N:=13) rfl ?_);refine qE 13 #[.int .i64 0,.int .i64 0,.int .i64 0] 56 ?_;intro σ hg d3 hbox hb;have ν :=Aside0.mk hbox;have ed:=sGe hg;have ee:=sGe hg;have be:=sNl U hg;have bf:=sNg U hg;have bg:=sNl Y hg;have bh:=sNg Y hg;have bi:=sNl X hg;have bj:=sNg X hg;have bk:=sNl θ hg;have bl:=sNg θ hg;replace HO_114000:=sRb HO_114000 hb;replace HO_114001:=sRb HO_114001 hb;replace HO_114002:=sRb HO_114002 hb;replace U:=sBk U hb;replace Y:=sBk Y hb;replace X:=sBk X hb;replace θ :=sBk θ hb;replace HB:=sHb hb;clear hb hbox hg;have kp:=bf.out;have ks:=be.out;have kt:=bh.out;have ku:=bg.out;have iu:=bj.out;have iv:=bi.out;have kv:=bl.out;have kw:=bk.out;obtain⟨fr,ft,me,fu,fv,mf⟩:=qD3 ν.out;have j2:=bb.out;have j3:=b9.out;have kx:=aw.out;have ky:=av.out;have j4:=bd.out;have j5:=bc.out;obtain⟨fw,fx,mg,fy,fz,mh⟩:=qD3 θ.out)|((with_reducible refine Zl (b:=.append) (xs:=#[.tmp 56,.tmp 59]) rfl ?_);at_builtin;refine Kd.Z5 (Kd.int .i64) (w0:=w) w.heap.size rfl (.tmp 56) (.tmp 59) 45 3 (.int .i64 0) 8 rfl Try.underlying45 W5 rfl (by decide) (by omega) a8 aa ((Qa B L).f0) [.int .i64 ((Qa B L).f0)] (fun k_=>some k_≠(ρ:Value).ownBlock∧some k_≠(a6:Value).ownBlock) (fun _=>False) rfl (by first|(go_simp;done)|(go_simp;rfl)) ?aP (fun _ hk=>hk.elim) ?aF ?aO ?aB ?aS ?aL ?_;(case aP=>exact rfl);(case aB=>exact bel);(case aF=>exact(fun k_ hk=>⟨Kd.fresh' (Kd.Z8 (by(with_reducible repeat first|apply Kd.Qm|apply Kd.Ql|apply Kd.Qn);exact(Kd.Qr (Kd.Qs (Kd.Qs (Kd.Qs (Kd.Qv HO_114000.out ν.out (by decide)) (fun _ hk=>hk.2) (.int .i64 ((Qa B L).f0))) (fun _ hk=>hk.2) (.int .i64 ((Qa B L).f1))) (fun _ hk=>hk.2) (.int .i64 ((Qa B L).f2))) (fun _ h_=>h_.1)))) k_ hk,Kd.fresh' (Kd.Z8 (by(with_reducible repeat first|apply Kd.Qm|apply Kd.Ql|apply Kd.Qn);exact(Kd.Qr (Kd.Qs (Kd.Qs (Kd.Qs (Kd.Qv HO_114001.out ν.out (by decide)) (fun _ hk=>hk.2) (.int .i64 ((Qa B L).f0))) (fun _ hk=>hk.2) (.int .i64 ((Qa B L).f1))) (fun _ hk=>hk.2) (.int .i64 ((Qa B L).f2))) (fun _ h_=>h_.1)))) k_ hk⟩));(case aO=>exact(by(with_reducible repeat first|apply Kd.Qm|apply Kd.Ql|apply Kd.Qn);exact Kd.Qr (Kd.Qs (Kd.Qs (Kd.Qs (Kd.Qv HO_114002.out ν.out (by decide)) (fun _ hk=>hk.2) (.int .i64 ((Qa B L).f0))) (fun _ hk=>hk.2) (.int .i64 ((Qa B L).f1))) (fun _ hk=>hk.2) (.int .i64 ((Qa B L).f2))) (fun _ hk=>⟨hk.1.1,hk.1.2⟩)));(case aS=>exact(Qj bel));(case aL=>have:=jf.out;omega);intro jy lg ho hb hg hat;rw[← jg.out] at ho;have dy:=Aside0.mk ho;replace HO_114000:=Aside0.mk (Kd.Kh (ok:=(fun k_=>some k_≠(a6:Value).ownBlock)) (by(with_reducible repeat first|apply Kd.Qm|apply Kd.Ql|apply Kd.Qn);exact Kd.Qr (Kd.Qs (Kd.Qs (Kd.Qs (Kd.Qv HO_114000.out ν.out (by decide)) (fun _ hk=>hk.2) (.int .i64 ((Qa B L).f0))) (fun _ hk=>hk.2) (.int .i64 ((Qa B L).f1))) (fun _ hk=>hk.2) (.int .i64 ((Qa B L).f2))) (fun _ hk=>⟨hk.1.1,hk.1.2⟩)) hg hat);replace HO_114001:=Aside0.mk (Kd.Kh (ok:=(fun k_=>some k_≠(ρ:Value).ownBlock)) (by(with_reducible repeat first|apply Kd.Qm|apply Kd.Ql|apply Kd.Qn);exact Kd.Qr (Kd.Qs (Kd.Qs (Kd.Qs (Kd.Qv HO_114001.out ν.out (by decide)) (fun _ hk=>hk.2) (.int .i64 ((Qa B L).f0))) (fun _ hk=>hk.2) (.int .i64 ((Qa B L).f1))) (fun _ hk=>hk.2) (.int .i64 ((Qa B L).f2))) (fun _ hk=>⟨hk.1.1,hk.1.2⟩)) hg hat);replace U:=Aside0.mk (Q8 (g:= τ) (o:=.cells #[.int .i64 J,.int .i64 D] 23 (0,0)) (bka U) hg (Kd.Yx HO_114002.out U.out (by decide)));replace Y:=Aside0.mk (Q8 (g:=bo) (o:=.cells #[.slice (some b3) B.length γ,.slice η I.length ε] 27 (0,0)) (bka Y) hg (Kd.Yx HO_114002.out Y.out (by decide)));replace X:=Aside0.mk (Q8 (g:=a9) (o:=.cells #[.slice none 0 0,.slice none 0 0,.slice none 0 0] 47 (0,0)) (bka X) hg (Kd.Yx HO_114002.out X.out (by decide)));replace θ :=Aside0.mk (Q8 (g:=ae) (o:=.cells #[ρ,a6,a8] 47 (0,0)) (bka θ) hg (Kd.Yx HO_114002.out θ.out (by decide)));replace ν :=Aside0.mk (Q8 (g:=σ) (o:=.cells #[.int .i64 ((Qa B L).f0),.int .i64 ((Qa B L).f1),.int .i64 ((Qa B L).f2)] 56 (0,0)) (by(with_reducible repeat first|apply Qf|apply Qb|apply Qg);refine Qw (cs:=#[.int .i64 ((Qa B L).f0),.int .i64 ((Qa B L).f1),.int .i64 0]) ?_ 2 _ rfl;(with_reducible repeat first|apply Qf|apply Qb|apply Qg);refine Qw (cs:=#[.int .i64 ((Qa B L).f0),.int .i64 0,.int .i64 0]) ?_ 1 _ rfl;(with_reducible repeat first|apply Qf|apply Qb|apply Qg);refine Qw (cs:=#[.int .i64 0,.int .i64 0,.int .i64 0]) ?_ 0 _ rfl;(with_reducible repeat first|apply Qf|apply Qb|apply Qg);exact ν.out) hg (Kd.Yx HO_114002.out ν.out (by decide)));replace HB:=Aside0.mk hb;clear HO_114002;clear ho hb hg hat;obtain⟨jz,k0,k6⟩:=Kd.Q5 dy.out;subst k6;obtain⟨mi,mj,ml,mm,mn,mo⟩:=qD3 θ.out))
              go_roundg k2
              case measure=>have:= ξ.out;have:=bn.out;omega
              case rel=>exact⟨(wrap64 (L+1)),(a5),(fm),(a6),(.slice jz fm.length k0),qR,H',⟨by have:= ξ.out;have:=bn.out;omega⟩,⟨by(with_reducible repeat first|apply Kd.Qm|apply Kd.Ql|apply Kd.Qn);exact Kd.Qr (Kd.Qs (Kd.Qv HO_114000.out θ.out (by decide)) (fun _ hk=>hk.2) _) (fun _ hk=>⟨hk.1.1,hk.1.2⟩)⟩,⟨by(with_reducible repeat first|apply Kd.Qm|apply Kd.Ql|apply Kd.Qn);exact Kd.Qr (Kd.Qs (Kd.Qv HO_114001.out θ.out (by decide)) (fun _ hk=>hk.2) _) (fun _ hk=>⟨hk.1.1,hk.1.2⟩)⟩,⟨by(with_reducible repeat first|apply Kd.Qm|apply Kd.Ql|apply Kd.Qn);exact Kd.Qr (Kd.Qs (Kd.Qv dy.out θ.out (by decide)) (fun _ hk=>hk.2) _) (fun _ hk=>⟨hk.1.1,hk.1.2⟩)⟩,⟨bka U⟩,⟨bka Y⟩,⟨bka X⟩,⟨by(with_reducible repeat first|apply Qf|apply Qb|apply Qg);refine Qw (cs:=#[ρ,a6,a8]) ?_ 2 _ rfl;(with_reducible repeat first|apply Qf|apply Qb|apply Qg);exact θ.out⟩,⟨bel⟩⟩
             ·rw[if_neg gq] at H
              exact absurd H (by simp)
           ·rw[if_neg dx] at H
            have c56b0:(((Qa B L).f2)==a2)=false:=beq_eq_false_iff_ne.mpr dx
            have c56b1:(((Qa B L).f2) != a2)=true:=bne_iff_ne.mpr dx
            have H':=Aside0.mk H
            clear H
            have ah:0≤(L:Int):=of_decide_eq_true (by assumption)
            have ak:L<(B.length:Int):=of_decide_eq_true (by assumption)
            obtain⟨b3,dh,χ,ψ,a1⟩:=Zo ag.out L ah ak
            cases dh
            replace χ :=(HB.out.cell (World.block_lt_of_cell? w _ χ)).trans χ
            replace ψ :=(HB.out.cell (World.block_lt_of_cell? w _ ψ)).trans ψ
            replace a1:=(HB.out.cell (World.block_lt_of_cell? w _ a1)).trans a1
            replace ah:=eq_true ah
            replace ak:=eq_true ak
            go_wp2_with (first|((with_reducible refine Qp (N:=13) rfl ?_);refine qE 13 #[.int .i64 0,.int .i64 0,.int .i64 0] 56 ?_;intro σ hg o3 hbox hb;have ν :=Aside0.mk hbox;have ed:=sGe hg;have ee:=sGe hg;have be:=sNl U hg;have bf:=sNg U hg;have bg:=sNl Y hg;have bh:=sNg Y hg;have bi:=sNl X hg;have bj:=sNg X hg;have bk:=sNl θ hg;have bl:=sNg θ hg;replace HO_114000:=sRb HO_114000 hb;replace HO_114001:=sRb HO_114001 hb;replace HO_114002:=sRb HO_114002 hb;replace U:=sBk U hb;replace Y:=sBk Y hb;replace X:=sBk X hb;replace θ :=sBk θ hb;replace HB:=sHb hb;clear hb hbox hg;have nl:=bf.out;have nm:=be.out;have nn:=bh.out;have no:=bg.out;have np:=bj.out;have nq:=bi.out;have kz:=bl.out;have l2:=bk.out;obtain⟨gx,gy,mq,gz,h0,mr⟩:=qD3 ν.out))
            go_roundg k2
            case measure=>have:= ξ.out;have:=bn.out;omega
            case rel=>exact⟨(wrap64 (L+1)),(a5),(aa),(a6),(a8),qR,H',⟨by have:= ξ.out;have:=bn.out;omega⟩,⟨by(with_reducible repeat first|apply Kd.Qm|apply Kd.Ql|apply Kd.Qn);exact Kd.Qr (Kd.Qs (Kd.Qs (Kd.Qs (Kd.Qv HO_114000.out ν.out (by decide)) (fun _ hk=>hk.2) (.int .i64 ((Qa B L).f0))) (fun _ hk=>hk.2) (.int .i64 ((Qa B L).f1))) (fun _ hk=>hk.2) (.int .i64 ((Qa B L).f2))) (fun _ hk=>⟨hk.1.1,hk.1.2⟩)⟩,⟨by(with_reducible repeat first|apply Kd.Qm|apply Kd.Ql|apply Kd.Qn);exact Kd.Qr (Kd.Qs (Kd.Qs (Kd.Qs (Kd.Qv HO_114001.out ν.out (by decide)) (fun _ hk=>hk.2) (.int .i64 ((Qa B L).f0))) (fun _ hk=>hk.2) (.int .i64 ((Qa B L).f1))) (fun _ hk=>hk.2) (.int .i64 ((Qa B L).f2))) (fun _ hk=>⟨hk.1.1,hk.1.2⟩)⟩,⟨by(with_reducible repeat first|apply Kd.Qm|apply Kd.Ql|apply Kd.Qn);exact Kd.Qr (Kd.Qs (Kd.Qs (Kd.Qs (Kd.Qv HO_114002.out ν.out (by decide)) (fun _ hk=>hk.2) (.int .i64 ((Qa B L).f0))) (fun _ hk=>hk.2) (.int .i64 ((Qa B L).f1))) (fun _ hk=>hk.2) (.int .i64 ((Qa B L).f2))) (fun _ hk=>⟨hk.1.1,hk.1.2⟩)⟩,⟨bka U⟩,⟨bka Y⟩,⟨bka X⟩,⟨bka θ⟩,⟨bel⟩⟩
          ·rw[if_neg ef] at H
           exact absurd H (by simp)
         ·rw[if_neg em] at H
          exact absurd H (by simp)
        ·rw[if_neg el] at H
         have c53b0:decide (L<(B.length:Int))=false:=decide_eq_false el
         clear el
         simp only[Option.some.injEq,Prod.mk.injEq] at H
         obtain⟨rfl,rfl,rfl,rfl⟩:=H
         have nr:=bb.out
         have ns:=b9.out
         have nt:=aw.out
         have nu:=av.out
         have nv:=bd.out
         have nw:=bc.out
         obtain⟨ms,mt,mu,mw,mx,my⟩:=qD3 θ.out
         obtain⟨g0,g1,k7⟩:=Kd.Q5 HO_114000.out
         subst k7
         have l3:=ap.out
         have l4:=ao.out
         have l5:=ac.out
         have l6:=ab.out
         obtain⟨jm,jn,mz,jo,jp,n0⟩:=qD3 X.out
         obtain⟨gs,h7,jh⟩:=Kd.Q5 HO_114001.out
         subst jh
         obtain⟨ji,jj,jk⟩:=Kd.Q5 HO_114002.out
         subst jk
         go_wp2
         refine bodyPost_ret (Xm rfl _ _ a9 47 #[.slice g0 φ.length g1,.slice gs a5.length h7,.slice ji aa.length jj] (0,0) _ rfl (by refine Qw (cs:=#[.slice g0 φ.length g1,.slice gs a5.length h7,.slice none 0 0]) ?_ 2 _ rfl;refine Qw (cs:=#[.slice g0 φ.length g1,.slice none 0 0,.slice none 0 0]) ?_ 1 _ rfl;refine Qw (cs:=#[.slice none 0 0,.slice none 0 0,.slice none 0 0]) ?_ 0 _ rfl;exact X.out) Try.underlying47 rfl kr) rfl ?_
         exact⟨_,_,_,by first|rfl|(simp[Qy,Qx] <;> rfl)|(simp[*,Qy,Qx] <;> rfl),by(with_reducible repeat first|apply Kd.Qm|apply Kd.Ql|apply Kd.Qn);exact Kd.Qr (Kd.Qs (Kd.Qs (Kd.Qs (Kd.Qv HO_114000.out X.out (by decide)) (fun _ hk=>hk.2) _) (fun _ hk=>hk.2) _) (fun _ hk=>hk.2) _) (fun _ hk=>⟨hk.1.1,hk.1.2⟩),by(with_reducible repeat first|apply Kd.Qm|apply Kd.Ql|apply Kd.Qn);exact Kd.Qr (Kd.Qs (Kd.Qs (Kd.Qs (Kd.Qv HO_114001.out X.out (by decide)) (fun _ hk=>hk.2) _) (fun _ hk=>hk.2) _) (fun _ hk=>hk.2) _) (fun _ hk=>⟨hk.1.1,hk.1.2⟩),by(with_reducible repeat first|apply Kd.Qm|apply Kd.Ql|apply Kd.Qn);exact Kd.Qr (Kd.Qs (Kd.Qs (Kd.Qs (Kd.Qv HO_114002.out X.out (by decide)) (fun _ hk=>hk.2) _) (fun _ hk=>hk.2) _) (fun _ hk=>hk.2) _) (fun _ hk=>⟨hk.1.1,hk.1.2⟩),bel⟩
  ·replace c7:=Bool.eq_false_iff.mpr c7
   subst c7
   have H1:(some (([]:List Int),([]:List Int),([]:List Int),191))=some (r1,r2,r3,r4):=by rw[if_neg (show ¬ (false=true) by decide)] at H;exact H
   clear H
   have H:=H1
   clear H1
   simp only[Option.some.injEq,Prod.mk.injEq] at H
   obtain⟨rfl,rfl,rfl,rfl⟩:=H
   go_enter Try.func19,Try.ntmps19
   go_wp2_with (first|((with_reducible refine Qp (N:=3) rfl ?_);refine qE 3 #[.int .i64 J,.int .i64 D] 23 ?_;intro τ hg ia hbox hb;have U:=Aside0.mk hbox;have fg:=sGe hg;have fh:=sGe hg;replace HB:=sHb hb;clear hb hbox hg)|((with_reducible refine Qp (N:=4) rfl ?_);refine qE 4 #[.slice ζ B.length γ,.slice η I.length ε] 27 ?_;intro bo hg k3 hbox hb;have Y:=Aside0.mk hbox;have g3:=sGe hg;have g4:=sGe hg;have am:=sNl U hg;have an:=sNg U hg;replace U:=sBk U hb;replace HB:=sHb hb;clear hb hbox hg)|((with_reducible refine Qp (N:=6) rfl ?_);refine qE 6 #[.slice none 0 0,.slice none 0 0,.slice none 0 0] 47 ?_;intro a9 hg ny hbox hb;have X:=Aside0.mk hbox;have ey:=sGe hg;have ez:=sGe hg;have ao:=sNl U hg;have ap:=sNg U hg;have ab:=sNl Y hg;have ac:=sNg Y hg;replace U:=sBk U hb;replace Y:=sBk Y hb;replace HB:=sHb hb;clear hb hbox hg;have nb:=am.out;have nc:=an.out;have nf:=ao.out;have ng:=ap.out;obtain⟨k8,k9,ka,kb⟩:=qD2 U.out;have nh:=ab.out;have ni:=ac.out;obtain⟨kc,kd,ke,kf⟩:=qD2 Y.out)|((with_reducible refine Q1 (f:=14) rfl ?_);refine Zp (some 16) rfl rfl Try.func14 kr rfl #[.agg #[.int .i64 J,.int .i64 D],.agg #[.slice ζ B.length γ,.slice η I.length ε]] rfl qM ?_;(with_reducible refine(call_Check.calls k J D _ _ B _ _ I a3 _ ?side1 ?side2 ?side3 ?side4 A4.out).mono ?_);(case side1=>exact(Kd.Qz ag.out HB.out));(case side2=>exact ar.out);(case side3=>exact(Kd.Qz ai.out HB.out));(case side4=>exact au.out);rintro e ct ⟨rfl,hb⟩;refine⟨_,rfl, ?_⟩;replace U:=sBk U hb;replace Y:=sBk Y hb;replace X:=sBk X hb;replace HB:=sHb hb;(try clear hb);(try clear a0);(try clear hk);(try clear hi);obtain⟨kg,kh,ki,kj⟩:=qD2 U.out)|((with_reducible refine Q1 (f:=41) rfl ?_);refine Zp (some 25) rfl rfl Try.func41 kr rfl #[.int .i64 a2,.int .i64 0,.int .i64 (wrap64 (D-1))] rfl qM ?_;(with_reducible refine(call_within.calls a2 0 (wrap64 (D-1)) false _ A6.out).mono ?_);rintro e w' ⟨rfl,⟨nd,rfl⟩⟩;refine⟨_,rfl, ?_⟩;(try(rw[G8 ct];generalize hq_:World.drewN ct _=ct;have O:Aside0 (ct.heap[τ]?=some (.cells #[.int .i64 J,.int .i64 D] 23 (0,0))):=⟨by rw[← hq_];exact U.out⟩;have Z:Aside0 (ct.heap[bo]?=some (.cells #[.slice ζ B.length γ,.slice η I.length ε] 27 (0,0))):=⟨by rw[← hq_];exact Y.out⟩;have ι :Aside0 (ct.heap[a9]?=some (.cells #[.slice none 0 0,.slice none 0 0,.slice none 0 0] 47 (0,0))):=⟨by rw[← hq_];exact X.out⟩;have κ :Aside0 (Below w.heap.size w ct):=⟨by rw[← hq_];exact HB.out⟩;clear U Y X HB hq_;have U:=O;have Y:=Z;have X:= ι;have HB:= κ;clear O Z ι κ));(try(have kk:ct.cell? ⟨τ,0,none⟩=some (.int .i64 J):=(Qi U.out 0).trans rfl));(try(have l7:ct.cell? ⟨τ,1,none⟩=some (.int .i64 D):=(Qi U.out 1).trans rfl));(try(have l8:=Q6 U.out 0));(try(have l9:=Q6 U.out 1));obtain⟨lb,lc,lh,ll,lm,ln⟩:=qD3 X.out))
   refine bodyPost_ret (Xm rfl _ _ a9 47 #[.slice none 0 0,.slice none 0 0,.slice none 0 0] (0,0) _ rfl (by refine Qw (cs:=#[.slice none 0 0,.slice none 0 0,.slice none 0 0]) ?_ 2 _ rfl;refine Qw (cs:=#[.slice none 0 0,.slice none 0 0,.slice none 0 0]) ?_ 1 _ rfl;refine Qw (cs:=#[.slice none 0 0,.slice none 0 0,.slice none 0 0]) ?_ 0 _ rfl;exact X.out) Try.underlying47 rfl kr) rfl ?_
   exact⟨_,_,_,by first|rfl|(simp[Qy,Qx] <;> rfl)|(simp[*,Qy,Qx] <;> rfl),by first|exact Kd.Yj _ _ _ _ _|exact Kd.Jf _ _ _ _ _|exact Kd.Jc _ _ _ _ _|exact Kd.Je _ _ _ _ _|exact Kd.Jd _ _ _ _ _,by first|exact Kd.Yj _ _ _ _ _|exact Kd.Jf _ _ _ _ _|exact Kd.Jc _ _ _ _ _|exact Kd.Je _ _ _ _ _|exact Kd.Jd _ _ _ _ _,by first|exact Kd.Yj _ _ _ _ _|exact Kd.Jf _ _ _ _ _|exact Kd.Jc _ _ _ _ _|exact Kd.Je _ _ _ _ _|exact Kd.Jd _ _ _ _ _,bel⟩
 ·rw[if_neg c5] at H
  have c5b0:(a3==0)=false:=beq_eq_false_iff_ne.mpr c5
  have c5b1:(a3 != 0)=true:=bne_iff_ne.mpr c5
  simp only[Option.some.injEq,Prod.mk.injEq] at H
  obtain⟨rfl,rfl,rfl,rfl⟩:=H
  go_enter Try.func19,Try.ntmps19
  go_wp2_with (first|((with_reducible refine Qp (N:=3) rfl ?_);refine qE 3 #[.int .i64 J,.int .i64 D] 23 ?_;intro τ hg lp hbox hb;have U:=Aside0.mk hbox;have fg:=sGe hg;have fh:=sGe hg;replace HB:=sHb hb;clear hb hbox hg)|((with_reducible refine Qp (N:=4) rfl ?_);refine qE 4 #[.slice ζ B.length γ,.slice η I.length ε] 27 ?_;intro bo hg lq hbox hb;have Y:=Aside0.mk hbox;have g3:=sGe hg;have g4:=sGe hg;have am:=sNl U hg;have an:=sNg U hg;replace U:=sBk U hb;replace HB:=sHb hb;clear hb hbox hg)|((with_reducible refine Qp (N:=6) rfl ?_);refine qE 6 #[.slice none 0 0,.slice none 0 0,.slice none 0 0] 47 ?_;intro a9 hg lr hbox hb;have X:=Aside0.mk hbox;have ey:=sGe hg;have ez:=sGe hg;have ao:=sNl U hg;have ap:=sNg U hg;have ab:=sNl Y hg;have ac:=sNg Y hg;replace U:=sBk U hb;replace Y:=sBk Y hb;replace HB:=sHb hb;clear hb hbox hg;have k4:=am.out;have k5:=an.out;have i7:=ao.out;have i9:=ap.out;obtain⟨ib,ic,ie,ig⟩:=qD2 U.out;have nj:=ab.out;have nk:=ac.out;obtain⟨ls,lu,lv,lw⟩:=qD2 Y.out)|((with_reducible refine Q1 (f:=14) rfl ?_);refine Zp (some 16) rfl rfl Try.func14 kr rfl #[.agg #[.int .i64 J,.int .i64 D],.agg #[.slice ζ B.length γ,.slice η I.length ε]] rfl qM ?_;(with_reducible refine(call_Check.calls k J D _ _ B _ _ I a3 _ ?side1 ?side2 ?side3 ?side4 A4.out).mono ?_);(case side1=>exact(Kd.Qz ag.out HB.out));(case side2=>exact ar.out);(case side3=>exact(Kd.Qz ai.out HB.out));(case side4=>exact au.out);rintro e nz ⟨rfl,hb⟩;refine⟨_,rfl, ?_⟩;replace U:=sBk U hb;replace Y:=sBk Y hb;replace X:=sBk X hb;replace HB:=sHb hb;(try clear hb);(try clear a0);(try clear hk);(try clear hi);obtain⟨lx,ly,lz,m0,m1,m2⟩:=qD3 X.out))
  refine bodyPost_ret (Xm rfl _ _ a9 47 #[.slice none 0 0,.slice none 0 0,.slice none 0 0] (0,0) _ rfl (by refine Qw (cs:=#[.slice none 0 0,.slice none 0 0,.slice none 0 0]) ?_ 2 _ rfl;refine Qw (cs:=#[.slice none 0 0,.slice none 0 0,.slice none 0 0]) ?_ 1 _ rfl;refine Qw (cs:=#[.slice none 0 0,.slice none 0 0,.slice none 0 0]) ?_ 0 _ rfl;exact X.out) Try.underlying47 rfl kr) rfl ?_
  exact⟨_,_,_,by first|rfl|(simp[Qy,Qx] <;> rfl)|(simp[*,Qy,Qx] <;> rfl),by first|exact Kd.Yj _ _ _ _ _|exact Kd.Jf _ _ _ _ _|exact Kd.Jc _ _ _ _ _|exact Kd.Je _ _ _ _ _|exact Kd.Jd _ _ _ _ _,by first|exact Kd.Yj _ _ _ _ _|exact Kd.Jf _ _ _ _ _|exact Kd.Jc _ _ _ _ _|exact Kd.Je _ _ _ _ _|exact Kd.Jd _ _ _ _ _,by first|exact Kd.Yj _ _ _ _ _|exact Kd.Jf _ _ _ _ _|exact Kd.Jc _ _ _ _ _|exact Kd.Je _ _ _ _ _|exact Kd.Jd _ _ _ _ _,bel⟩
def call_Serve.f (k:Nat) (J:Int) (D:Int) (B:List (S56)) (I:List (S62)) (δ :Int) (L:Int) (θ :Int):Option ((List (S56))×(List (S62))×Int):=(insP.f δ L J D).bind fun bd=>(if bd=true then ((call_within.f θ (-1) 1).bind fun τ =>((call_change.f (woP_H.f L θ 0 B) (woP_I.f δ L I) k J D B I τ 0 L θ 0 0 δ L).bind fun a8=>(some (a8.1,a8.2.1,a8.2.2)))) else ((call_change.f (woP_H.f L θ 0 B) (woP_I.f δ L I) k J D B I false 0 L θ 0 0 δ L).bind fun ae=>(some (ae.1,ae.2.1,ae.2.2))))
theorem call_Serve.mono:∀ D L a2 X I a5 J k,LeO (call_Serve.f k D L a2 X I a5 J) (call_Serve.f (k+1) D L a2 X I a5 J):=by
 intro D L a2 X I a5 J k
 unfold call_Serve.f
 repeat' first
   |(with_reducible exact call_change.mono _ _ _ _ _ _ _ _ _ _ _ _ _ _ _)
   |(with_reducible exact LeO.refl _)
   |(with_reducible exact LeO.none _)
   |(with_reducible refine LeO.ite ?_ ?_)
   |(with_reducible refine LeO.bind ?_ (fun _=>?_))
   |exact call_change.mono _ _ _ _ _ _ _ _ _ _ _ _ _ _ _
   |exact LeO.none _
   |refine LeO.ite ?_ ?_
   |refine LeO.bind ?_ (fun _=>?_)
def call_Serve.T2:Bool×List (List Nat×List Nat):=(true,[([],[]),([],[]),([],[]),([2],[2]),([],[]),([3,4,3],[3,4]),([5,5],[5]),([6],[6]),([7,6],[6,7]),([8,6,6],[6,8]),([6,9],[6,9]),([],[]),([11,9],[11]),([12],[12]),([],[]),([14],[14]),([],[]),([16],[16]),([15,17],[15,17]),([],[]),([19,12],[19]),([20],[20]),([],[]),([0,1,10,13,18,21,22,20],[0,1,10,13,18,21,22]),([23],[23]),([23],[23]),([24,23,0,1,2,3,4,5,6,7,8,9,10,11,12,13,14,15,16,17,18,19,20,21,22,23,24,25],[24]),([25,26,0,1,2,3,4,5,6,7,8,9,10,11,12,13,14,15,16,17,18,19,20,21,22,23,24,25,26],[25])])
def call_Serve.B2:List Nat:=[0,0,0,4,0,28,60,124,252,508,1020,0,3068,7164,0,16384,0,65536,245760,0,531452,1580028,0,8388607,16777215,16777215,67108863,134217727]
theorem call_Serve.Nq:rtab .any (opsOf Try.f18 2)=call_Serve.T2:=by kernel_rfl
theorem call_Serve.W9:Zv call_Serve.T2.2 call_Serve.B2=true:=by kernel_rfl
set_option maxHeartbeats 8000000 in
set_option maxRecDepth 100000 in
theorem call_Serve.calls (k:Nat) (J:Int) (D:Int) (ζ :Option Addr) (γ:Nat) (B:List (S56)) (η :Option Addr) (ε :Nat) (I:List (S62)) (δ :Int) (L:Int) (θ :Int) (r1:List (S56)) (r2:List (S62)) (r3:Int) (w:World) (b4:Kd.C k56 w ζ B.length B) (b5:B.length≤γ) (b6:Kd.C k62 w η I.length I) (b7:I.length ≤ ε) (h:call_Serve.f k J D B I δ L θ = some (r1,r2,r3)):
  Calls Try.prog 18 #[.agg #[.int .i64 J,.int .i64 D],.agg #[.slice ζ B.length γ,.slice η I.length ε],.agg #[.int .i64 δ,.int .i64 L,.int .i64 θ]] w fun e w'=>∃ ω ba:Value,e = .returned (.tuple #[.agg #[ω,ba],.int .i64 r3])∧Kd.R k56 56 w' w.heap.size (fun _=>True) ω r1∧Kd.R k62 62 w' w.heap.size (fun _=>True) ba r2∧Below w.heap.size w w':=by
 have dk:=Try.underlying23
 have d6:=Try.underlying27
 have gh:=Try.underlying43
 have b8:=Try.underlying62
 have ay:=Try.underlying56
 have ag:=Aside0.mk b4
 have ar:=Aside0.mk b5
 clear b4 b5
 have ai:=Aside0.mk b6
 have au:=Aside0.mk b7
 clear b6 b7
 have HB:=Aside0.mk (Below.refl w.heap.size w)
 have H:((insP.f δ L J D).bind fun bd=>(if bd=true then ((call_within.f θ (-1) 1).bind fun τ =>((call_change.f (woP_H.f L θ 0 B) (woP_I.f δ L I) k J D B I τ 0 L θ 0 0 δ L).bind fun a8=>(some (a8.1,a8.2.1,a8.2.2)))) else ((call_change.f (woP_H.f L θ 0 B) (woP_I.f δ L I) k J D B I false 0 L θ 0 0 δ L).bind fun ae=>(some (ae.1,ae.2.1,ae.2.2)))))=some (r1,r2,r3):=h
 clear h
 replace H:=Option.bind_eq_some_iff.mp H
 obtain⟨bd,bv,H⟩:=H
 replace H:(if bd=true then ((call_within.f θ (-1) 1).bind fun τ =>((call_change.f (woP_H.f L θ 0 B) (woP_I.f δ L I) k J D B I τ 0 L θ 0 0 δ L).bind fun a8=>(some (a8.1,a8.2.1,a8.2.2)))) else ((call_change.f (woP_H.f L θ 0 B) (woP_I.f δ L I) k J D B I false 0 L θ 0 0 δ L).bind fun ae=>(some (ae.1,ae.2.1,ae.2.2))))=some (r1,r2,r3):=H
 have A4:=Aside0.mk bv
 clear bv
 by_cases c5:bd=true
 ·subst c5
  have H1:((call_within.f θ (-1) 1).bind fun τ =>((call_change.f (woP_H.f L θ 0 B) (woP_I.f δ L I) k J D B I τ 0 L θ 0 0 δ L).bind fun a8=>(some (a8.1,a8.2.1,a8.2.2))))=some (r1,r2,r3):=by rw[if_pos rfl] at H;exact H
  clear H
  have H:=H1
  clear H1
  replace H:=Option.bind_eq_some_iff.mp H
  obtain⟨τ,ch,H⟩:=H
  replace H:((call_change.f (woP_H.f L θ 0 B) (woP_I.f δ L I) k J D B I τ 0 L θ 0 0 δ L).bind fun a8=>(some (a8.1,a8.2.1,a8.2.2)))=some (r1,r2,r3):=H
  have A6:=Aside0.mk ch
  clear ch
  replace H:=Option.bind_eq_some_iff.mp H
  obtain⟨⟨bi,ap,d9⟩,en,H⟩:=H
  replace H:(some (bi,ap,d9))=some (r1,r2,r3):=H
  have A7:=Aside0.mk en
  clear en
  simp only[Option.some.injEq,Prod.mk.injEq] at H
  obtain⟨rfl,rfl,rfl⟩:=H
  go_enter Try.func18,Try.ntmps18
  try go_wp2_with (first|((with_reducible refine Qp (N:=3) rfl ?_);refine qE 3 #[.int .i64 J,.int .i64 D] 23 ?_;intro a3 hg w8 hbox hb;have U:=Aside0.mk hbox;have bm:=sGe hg;have bo:=sGe hg;replace HB:=sHb hb;clear hb hbox hg)|((with_reducible refine Qp (N:=4) rfl ?_);refine qE 4 #[.slice ζ B.length γ,.slice η I.length ε] 27 ?_;intro ao hg w9 hbox hb;have μ :=Aside0.mk hbox;have dp:=sGe hg;have du:=sGe hg;have bk:=sNl U hg;have bl:=sNg U hg;replace U:=sBk U hb;replace HB:=sHb hb;clear hb hbox hg)|((with_reducible refine Qp (N:=5) rfl ?_);refine qE 5 #[.int .i64 δ,.int .i64 L,.int .i64 θ] 43 ?_;intro an hg cu hbox hb;have Y:=Aside0.mk hbox;have dw:=sGe hg;have dx:=sGe hg;have av:=sNl U hg;have aw:=sNg U hg;have ax:=sNl μ hg;have az:=sNg μ hg;replace U:=sBk U hb;replace μ :=sBk μ hb;replace HB:=sHb hb;clear hb hbox hg)|((with_reducible refine Qp (N:=6) rfl ?_);refine qE 6 #[.slice none 0 0,.slice none 0 0] 27 ?_;intro σ hg dm hbox hb;have ν :=Aside0.mk hbox;have ed:=sGe hg;have ee:=sGe hg;have a5:=sNl U hg;have al:=sNg U hg;have a6:=sNl μ hg;have am:=sNg μ hg;have a2:=sNl Y hg;have ah:=sNg Y hg;replace U:=sBk U hb;replace μ :=sBk μ hb;replace Y:=sBk Y hb;replace HB:=sHb hb;clear hb hbox hg;have eb:=aw.out;have ec:=av.out;have bw:=az.out;have ce:=ax.out;have i1:=a2.out;have i2:=ah.out;obtain⟨cj,ck,e0,cm,cn,e5⟩:=qD3 Y.out)|((with_reducible refine Qp (N:=8) rfl ?_);refine qE 8 #[.int .i64 0,.int .i64 0] 62 ?_;intro a1 hg af hbox hb;have X:=Aside0.mk hbox;have bn:=sGe hg;have cd:=sGe hg;have b0:=sNl U hg;have b1:=sNg U hg;have b2:=sNl μ hg;have b3:=sNg μ hg;have b9:=sNl Y hg;have bb:=sNg Y hg;have aj:=sNl ν hg;have a4:=sNg ν hg;replace U:=sBk U hb;replace μ :=sBk μ hb;replace Y:=sBk Y hb;replace ν :=sBk ν hb;replace HB:=sHb hb;clear hb hbox hg;have dd:=b1.out;have dh:=b0.out;have ca:=b3.out;have cb:=b2.out;have ci:=bb.out;have cx:=b9.out;have f9:=a4.out;have fj:=aj.out;obtain⟨co,cp,cq,cr⟩:=qD2 X.out))
  have O:Aside0 (((af.setCell ⟨a1,0,none⟩ (.int .i64 δ)).setCell ⟨a1,1,none⟩ (.int .i64 L)).heap[a3]?=some (.cells #[.int .i64 J,.int .i64 D] 23 (0,0))):=⟨bka U⟩
  have Z:Aside0 (((af.setCell ⟨a1,0,none⟩ (.int .i64 δ)).setCell ⟨a1,1,none⟩ (.int .i64 L)).heap[ao]?=some (.cells #[.slice ζ B.length γ,.slice η I.length ε] 27 (0,0))):=⟨bka μ⟩
  have ι :Aside0 (((af.setCell ⟨a1,0,none⟩ (.int .i64 δ)).setCell ⟨a1,1,none⟩ (.int .i64 L)).heap[an]?=some (.cells #[.int .i64 δ,.int .i64 L,.int .i64 θ] 43 (0,0))):=⟨bka Y⟩
  have κ :Aside0 (((af.setCell ⟨a1,0,none⟩ (.int .i64 δ)).setCell ⟨a1,1,none⟩ (.int .i64 L)).heap[σ]?=some (.cells #[.slice none 0 0,.slice none 0 0] 27 (0,0))):=⟨bka ν⟩
  have ξ :Aside0 (((af.setCell ⟨a1,0,none⟩ (.int .i64 δ)).setCell ⟨a1,1,none⟩ (.int .i64 L)).heap[a1]?=some (.cells #[.int .i64 δ,.int .i64 L] 62 (0,0))):=⟨by refine Qw (cs:=#[.int .i64 δ,.int .i64 0]) ?_ 1 _ rfl;refine Qw (cs:=#[.int .i64 0,.int .i64 0]) ?_ 0 _ rfl;exact X.out⟩
  have ψ :Aside0 (Below w.heap.size w ((af.setCell ⟨a1,0,none⟩ (.int .i64 δ)).setCell ⟨a1,1,none⟩ (.int .i64 L))):=⟨bel⟩
  (try clear U)
  (try clear μ)
  (try clear Y)
  (try clear ν)
  (try clear X)
  (try clear HB)
  generalize((af.setCell ⟨a1,0,none⟩ (.int .i64 δ)).setCell ⟨a1,1,none⟩ (.int .i64 L))=dr at O Z ι κ ξ ψ ⊢
  have U:=O
  have μ :=Z
  have Y:= ι
  have ν := κ
  have X:= ξ
  have HB:= ψ
  clear O Z ι κ ξ ψ
  replace U:=Aside0.mk (Qb U.out)
  replace μ :=Aside0.mk (Qb μ.out)
  replace Y:=Aside0.mk (Qb Y.out)
  replace ν :=Aside0.mk (Qb ν.out)
  replace X:=Aside0.mk (Qb X.out)
  replace HB:=Aside0.mk (Qe HB.out)
  refine Ze (n:=28) (S:=fun w'=>w'.cell? ⟨a3,0,none⟩=some (.int .i64 J)∧w'.cell? ⟨a3,1,none⟩=some (.int .i64 D)∧w'.cell? ⟨ao,0,none⟩=some (.slice ζ B.length γ)∧w'.cell? ⟨ao,1,none⟩=some (.slice η I.length ε)∧w'.cell? ⟨a1,0,none⟩=some (.int .i64 δ)∧w'.cell? ⟨a1,1,none⟩=some (.int .i64 L)∧w'.cell? ⟨an,0,none⟩=some (.int .i64 δ)∧w'.cell? ⟨an,1,none⟩=some (.int .i64 L)∧w'.cell? ⟨an,2,none⟩=some (.int .i64 θ)) (ds:=[]) #[false,false,false,false,false,false,false,false,false,false,false,false,false,false,false,false,false,false,false,false,false,false,false,false,false,false,false,false] kr rfl rfl ⟨(Qi U.out 0).trans rfl,(Qi U.out 1).trans rfl,(Qi μ.out 0).trans rfl,(Qi μ.out 1).trans rfl,(Qi X.out 0).trans rfl,(Qi X.out 1).trans rfl,(Qi Y.out 0).trans rfl,(Qi Y.out 1).trans rfl,(Qi Y.out 2).trans rfl⟩ (fun hHeld=>?_);refine Q4 call_Serve.Nq call_Serve.W9 (fun HT_ HW_=>?_)
  generalize dr.drew=dv at U μ Y ν X HB hHeld ⊢
  refine qP 14 (some 28) (bN 28 16384) HT_ ?_
  refine qP 16 (some 30) (bN 28 81920) HT_ ?_
  refine qT 0 (some 14) (bN 28 81921) HT_ HW_ hHeld ?_
  refine qT 1 (some 15) (bN 28 81923) HT_ HW_ hHeld ?_
  refine qT 2 (some 16) (bN 28 81927) HT_ HW_ hHeld ?_
  refine qT 4 (some 18) (bN 28 81943) HT_ HW_ hHeld ?_
  refine qT 11 (some 25) (bN 28 83991) HT_ HW_ hHeld ?_
  refine qT 15 (some 29) (bN 28 116759) HT_ HW_ hHeld ?_
  refine qT 17 (some 31) (bN 28 247831) HT_ HW_ hHeld ?_
  refine qP 18 (some 32) (bN 28 509975) HT_ ?_
  refine qT 19 (some 33) (bN 28 1034263) HT_ HW_ hHeld ?_
  refine qT 22 (some 36) (bN 28 5228567) HT_ HW_ hHeld ?_
  refine Zi (i:=3) (N:=some 17) (bN 28 5228575) rfl rfl (Q0 HT_.out kr) (by decide) (fun K hK=>?_)
  refine Zc Try.func29 kr rfl #[.agg #[.int .i64 J,.int .i64 D]] (by rfl) rfl rfl qM ?_
  refine(Jk J D _).mono ?_
  rintro e e3 ⟨bc,rfl,hgp,hgw,hb⟩
  have bs:=Aside0.mk hgp
  clear hgp hgw
  refine⟨_,rfl, ?_⟩
  replace U:=sBk U hb
  replace μ :=sBk μ hb
  replace Y:=sBk Y hb
  replace ν :=sBk ν hb
  replace X:=sBk X hb
  replace HB:=sHb hb
  (try clear hb)
  (try clear a0)
  (try clear hk)
  (try clear hi)
  refine hK.out _ _ ⟨qc U,qc U,qc μ,qc μ,qc X,qc X,qc Y,qc Y,qc Y⟩ (fun hHeld=>?_)
  clear hK K
  refine qN (some 17) ?_
  refine Zi (i:=5) (N:=some 19) (bN 28 5228607) rfl rfl (Q0 HT_.out kr) (by decide) (fun K hK=>?_)
  refine Xu Try.func50 kr rfl #[] #[.pointer (some ⟨bc,0,none⟩)] #[.agg #[.int .i64 δ,.int .i64 L]] #[.agg #[.int .i64 δ,.int .i64 L],.pointer (some ⟨bc,0,none⟩)] rfl (by rfl) rfl rfl rfl qM ?_
  refine(Y1 J D δ L true _ (Option.some.inj A4.out) bc bs.out).mono ?_
  rintro e bu ⟨rfl,hb⟩
  refine⟨_,rfl, ?_⟩
  replace U:=sBk U hb
  replace μ :=sBk μ hb
  replace Y:=sBk Y hb
  replace ν :=sBk ν hb
  replace X:=sBk X hb
  replace HB:=sHb hb
  (try clear hb)
  (try clear a0)
  (try clear hk)
  (try clear hi)
  refine hK.out _ _ ⟨qc U,qc U,qc μ,qc μ,qc X,qc X,qc Y,qc Y,qc Y⟩ (fun hHeld=>?_)
  clear hK K
  refine qN (some 19) ?_
  refine qP 6 (some 20) (bN 28 5228671) HT_ ?_
  refine qP 7 (some 21) (bN 28 5228799) HT_ ?_
  refine qT 8 (some 22) (bN 28 5229055) HT_ HW_ hHeld ?_
  refine Zi (i:=9) (N:=some 23) (bN 28 5229567) rfl rfl (Q0 HT_.out kr) (by decide) (fun K hK=>?_)
  refine Zc Try.func41 kr rfl #[.int .i64 θ,.int .i64 (-1),.int .i64 1] (by rfl) rfl rfl qM ?_
  with_reducible refine(call_within.calls θ (-1) 1 τ _ A6.out).mono ?_
  rintro e w' ⟨rfl,⟨nd,rfl⟩⟩
  refine⟨_,rfl, ?_⟩
  refine hK.out _ _ ⟨qc U,qc U,qc μ,qc μ,qc X,qc X,qc Y,qc Y,qc Y⟩ (fun hHeld=>?_)
  clear hK K
  refine qN (some 23) ?_
  refine qP 10 (some 24) (bN 28 5230591) HT_ ?_
  refine Zi (i:=12) (N:=some 26) (bN 28 5234687) rfl rfl (Q0 HT_.out kr) (by decide) (fun K hK=>?_)
  refine Zc Try.func30 kr rfl #[.agg #[.slice ζ B.length γ,.slice η I.length ε]] (by rfl) rfl rfl qM ?_
  refine(Yl ζ η B.length I.length γ ε _).mono ?_
  rintro e e4 ⟨rfl,hb⟩
  refine⟨_,rfl, ?_⟩
  replace U:=sBk U hb
  replace μ :=sBk μ hb
  replace Y:=sBk Y hb
  replace ν :=sBk ν hb
  replace X:=sBk X hb
  replace HB:=sHb hb
  (try clear hb)
  (try clear a0)
  (try clear hk)
  (try clear hi)
  refine hK.out _ _ ⟨qc U,qc U,qc μ,qc μ,qc X,qc X,qc Y,qc Y,qc Y⟩ (fun hHeld=>?_)
  clear hK K
  refine qN (some 26) ?_
  refine qP 13 (some 27) (bN 28 5242879) HT_ ?_
  refine Zi (i:=20) (N:=some 34) (bN 28 6291455) rfl rfl (Q0 HT_.out kr) (by decide) (fun K hK=>?_)
  refine Zc Try.func32 kr rfl #[.agg #[.slice ζ B.length γ,.slice η I.length ε]] (by rfl) rfl rfl qM ?_
  refine(Yt ζ η B.length I.length γ ε _).mono ?_
  rintro e e7 ⟨rfl,hb⟩
  refine⟨_,rfl, ?_⟩
  replace U:=sBk U hb
  replace μ :=sBk μ hb
  replace Y:=sBk Y hb
  replace ν :=sBk ν hb
  replace X:=sBk X hb
  replace HB:=sHb hb
  (try clear hb)
  (try clear a0)
  (try clear hk)
  (try clear hi)
  refine hK.out _ _ ⟨qc U,qc U,qc μ,qc μ,qc X,qc X,qc Y,qc Y,qc Y⟩ (fun hHeld=>?_)
  clear hK K
  refine qN (some 34) ?_
  refine qP 21 (some 35) (bN 28 8388607) HT_ ?_
  refine Zi (i:=23) (N:=some 37) (bN 28 16777215) rfl rfl (Q0 HT_.out kr) (by decide) (fun K hK=>?_)
  refine Zc Try.func28 kr rfl #[.agg #[.int .i64 J,.int .i64 D],.agg #[.slice ζ B.length γ,.slice η I.length ε],.bool τ,.func (.func 31) #[.agg #[.slice ζ B.length γ,.func (.func 51) #[] #[]]] #[],.agg #[.int .i64 L,.int .i64 θ,.int .i64 0],.func (.func 36) #[.agg #[.slice η I.length ε,.func (.func 57) #[] #[]]] #[],.agg #[.int .i64 δ,.int .i64 L]] (by rfl) rfl rfl qM ?_
  refine(call_change.calls _ _ k J D ζ γ B η ε I τ 0 L θ 0 0 δ L bi ap d9 _ ?side1 ?side2 ?side3 ?side4 A7.out 31 Try.f31 (.agg #[.slice ζ B.length γ,.func (.func 51) #[] #[]]) Try.func31 kr rfl (fun W t ht hb=>J3 ζ γ B _ _ _ t W (Kd.Qz (Kd.Qz ag.out (by repeat(first|(with_reducible first|exact HB.out|apply Qh|apply Qc|apply Qe)|exact HB.out|(refine Qd ?_ (Aside0.out (by assumption)))))) hb) ar.out ht) 36 Try.f36 (.agg #[.slice η I.length ε,.func (.func 57) #[] #[]]) Try.func36 kr rfl (fun W t ht hb=>Jg η ε I _ _ t W (Kd.Qz (Kd.Qz ai.out (by repeat(first|(with_reducible first|exact HB.out|apply Qh|apply Qc|apply Qe)|exact HB.out|(refine Qd ?_ (Aside0.out (by assumption)))))) hb) au.out ht)).mono ?_
  (case side1=>exact(Kd.Qz ag.out HB.out))
  (case side2=>exact ar.out)
  (case side3=>exact(Kd.Qz ai.out HB.out))
  (case side4=>exact au.out)
  rintro e da ⟨jy,fm,rfl,ρ,a7,hb⟩
  refine⟨_,rfl, ?_⟩
  have dy:=Aside0.mk (Kd.Q2 ρ (Qj HB.out))
  have bp:=Aside0.mk (Kd.Q2 (Kd.Xx a7 (g:=a1) (o:=.cells #[.int .i64 δ,.int .i64 L] 62 (0,0)) X.out) (Qj HB.out))
  replace U:=sBk U hb
  replace μ :=sBk μ hb
  replace Y:=sBk Y hb
  replace ν :=sBk ν hb
  replace X:=sBk X hb
  replace HB:=sHb hb
  (try clear hb)
  (try clear a0)
  (try clear hk)
  (try clear hi)
  (try clear ρ)
  (try clear a7)
  obtain⟨bf,bg,bh⟩:=Kd.Q5 dy.out
  (first|subst bh|(injection bh with φ a9 χ;have aa:= φ.symm;have ab:= χ.symm;clear φ a9 χ;subst aa;subst ab))
  obtain⟨d2,d4,dl⟩:=Kd.Q5 bp.out
  (first|subst dl|(injection dl with φ a9 χ;have aa:= φ.symm;have ab:= χ.symm;clear φ a9 χ;subst aa;subst ab))
  refine hK.out _ _ ⟨qc U,qc U,qc μ,qc μ,qc X,qc X,qc Y,qc Y,qc Y⟩ (fun hHeld=>?_)
  clear hK K
  refine qN (some 37) ?_
  refine qP 24 (some 38) (bN 28 33554431) HT_ ?_
  refine qP 25 (some 39) (bN 28 67108863) HT_ ?_
  refine Zi (i:=26) (N:=none) (bN 28 134217727) rfl rfl (Q0 HT_.out kr) (by decide) (fun K hK=>?_)
  have dz:da.cell? ⟨σ,0,none⟩=some (.slice none 0 0):=(Qi ν.out 0).trans rfl
  have df:=Q6 ν.out 0
  have ct:=a5.out
  have cv:=a6.out
  have ef:=a2.out
  have eg:=a4.out
  have cw:=al.out
  have cy:=am.out
  have eh:=ah.out
  have ei:=aj.out
  have fn:da.cell? ⟨σ,1,none⟩=some (.slice none 0 0):=(Qi ν.out 1).trans rfl
  have fg:=Q6 ν.out 1
  have ej:=a5.out
  have ek:=a6.out
  have el:=a2.out
  have em:=a4.out
  have eo:=al.out
  have ep:=am.out
  have er:=ah.out
  have et:=aj.out
  refine Y4 (w1:=?_) (by rfl) rfl ?_ ?_
  rotate_left
  ·go_simp
   rfl
  refine hK.out _ _ ⟨((cell_far (p:=⟨σ,_,none⟩) a5.out _).trans (((cell_far (p:=⟨σ,_,none⟩) a5.out _).trans (hHeld.1)))),((cell_far (p:=⟨σ,_,none⟩) a5.out _).trans (((cell_far (p:=⟨σ,_,none⟩) a5.out _).trans (hHeld.2.1)))),((cell_far (p:=⟨σ,_,none⟩) a6.out _).trans (((cell_far (p:=⟨σ,_,none⟩) a6.out _).trans (hHeld.2.2.1)))),((cell_far (p:=⟨σ,_,none⟩) a6.out _).trans (((cell_far (p:=⟨σ,_,none⟩) a6.out _).trans (hHeld.2.2.2.1)))),((cell_far (p:=⟨σ,_,none⟩) a4.out _).trans (((cell_far (p:=⟨σ,_,none⟩) a4.out _).trans (hHeld.2.2.2.2.1)))),((cell_far (p:=⟨σ,_,none⟩) a4.out _).trans (((cell_far (p:=⟨σ,_,none⟩) a4.out _).trans (hHeld.2.2.2.2.2.1)))),((cell_far (p:=⟨σ,_,none⟩) a2.out _).trans (((cell_far (p:=⟨σ,_,none⟩) a2.out _).trans (hHeld.2.2.2.2.2.2.1)))),((cell_far (p:=⟨σ,_,none⟩) a2.out _).trans (((cell_far (p:=⟨σ,_,none⟩) a2.out _).trans (hHeld.2.2.2.2.2.2.2.1)))),((cell_far (p:=⟨σ,_,none⟩) a2.out _).trans (((cell_far (p:=⟨σ,_,none⟩) a2.out _).trans (hHeld.2.2.2.2.2.2.2.2))))⟩ (fun hHeld=>?_)
  clear hK K
  refine qP 27 (some 7) (bN 28 268435455) HT_ ?_
  refine Zq (Zd HT_.out kr) ?_
  try go_wp2
  refine bodyPost_ret (Xm rfl _ _ σ 27 #[.slice bf bi.length bg,.slice d2 ap.length d4] (0,0) _ rfl (by refine Qw (cs:=#[.slice bf bi.length bg,.slice none 0 0]) ?_ 1 _ rfl;refine Qw (cs:=#[.slice none 0 0,.slice none 0 0]) ?_ 0 _ rfl;exact ν.out) Try.underlying27 rfl kr) rfl ?_
  exact⟨_,_,by first|rfl|(simp[Qy,Qx] <;> rfl)|(simp[*,Qy,Qx] <;> rfl),by(with_reducible repeat first|apply Kd.Qm|apply Kd.Ql|apply Kd.Qn);exact Kd.Qr (Kd.Qs (Kd.Qs (Kd.Qv dy.out ν.out (by decide)) (fun _ hk=>hk.2) _) (fun _ hk=>hk.2) _) (fun _ hk=>trivial),by(with_reducible repeat first|apply Kd.Qm|apply Kd.Ql|apply Kd.Qn);exact Kd.Qr (Kd.Qs (Kd.Qs (Kd.Qv bp.out ν.out (by decide)) (fun _ hk=>hk.2) _) (fun _ hk=>hk.2) _) (fun _ hk=>trivial),bel⟩
 ·replace c5:=Bool.eq_false_iff.mpr c5
  subst c5
  have H1:((call_change.f (woP_H.f L θ 0 B) (woP_I.f δ L I) k J D B I false 0 L θ 0 0 δ L).bind fun ae=>(some (ae.1,ae.2.1,ae.2.2)))=some (r1,r2,r3):=by rw[if_neg (show ¬ (false=true) by decide)] at H;exact H
  clear H
  have H:=H1
  clear H1
  replace H:=Option.bind_eq_some_iff.mp H
  obtain⟨⟨bj,ak,db⟩,de,H⟩:=H
  replace H:(some (bj,ak,db))=some (r1,r2,r3):=H
  have ac:=Aside0.mk de
  clear de
  simp only[Option.some.injEq,Prod.mk.injEq] at H
  obtain⟨rfl,rfl,rfl⟩:=H
  go_enter Try.func18,Try.ntmps18
  try go_wp2_with (first|((with_reducible refine Qp (N:=3) rfl ?_);refine qE 3 #[.int .i64 J,.int .i64 D] 23 ?_;intro a3 hg gt hbox hb;have U:=Aside0.mk hbox;have bm:=sGe hg;have bo:=sGe hg;replace HB:=sHb hb;clear hb hbox hg)|((with_reducible refine Qp (N:=4) rfl ?_);refine qE 4 #[.slice ζ B.length γ,.slice η I.length ε] 27 ?_;intro ao hg bz hbox hb;have μ :=Aside0.mk hbox;have dp:=sGe hg;have du:=sGe hg;have bk:=sNl U hg;have bl:=sNg U hg;replace U:=sBk U hb;replace HB:=sHb hb;clear hb hbox hg)|((with_reducible refine Qp (N:=5) rfl ?_);refine qE 5 #[.int .i64 δ,.int .i64 L,.int .i64 θ] 43 ?_;intro an hg d3 hbox hb;have Y:=Aside0.mk hbox;have dw:=sGe hg;have dx:=sGe hg;have av:=sNl U hg;have aw:=sNg U hg;have ax:=sNl μ hg;have az:=sNg μ hg;replace U:=sBk U hb;replace μ :=sBk μ hb;replace HB:=sHb hb;clear hb hbox hg)|((with_reducible refine Qp (N:=6) rfl ?_);refine qE 6 #[.slice none 0 0,.slice none 0 0] 27 ?_;intro σ hg ea hbox hb;have ν :=Aside0.mk hbox;have ed:=sGe hg;have ee:=sGe hg;have a5:=sNl U hg;have al:=sNg U hg;have a6:=sNl μ hg;have am:=sNg μ hg;have a2:=sNl Y hg;have ah:=sNg Y hg;replace U:=sBk U hb;replace μ :=sBk μ hb;replace Y:=sBk Y hb;replace HB:=sHb hb;clear hb hbox hg;have dj:=aw.out;have dn:=av.out;have e6:=az.out;have e8:=ax.out;have gj:=a2.out;have gl:=ah.out;obtain⟨eu,fa,fb,fc,fe,ff⟩:=qD3 Y.out)|((with_reducible refine Qp (N:=8) rfl ?_);refine qE 8 #[.int .i64 0,.int .i64 0] 62 ?_;intro a1 hg br hbox hb;have X:=Aside0.mk hbox;have bn:=sGe hg;have cd:=sGe hg;have b0:=sNl U hg;have b1:=sNg U hg;have b2:=sNl μ hg;have b3:=sNg μ hg;have b9:=sNl Y hg;have bb:=sNg Y hg;have aj:=sNl ν hg;have a4:=sNg ν hg;replace U:=sBk U hb;replace μ :=sBk μ hb;replace Y:=sBk Y hb;replace ν :=sBk ν hb;replace HB:=sHb hb;clear hb hbox hg;have ey:=b1.out;have ez:=b0.out;have hl:=b3.out;have ho:=b2.out;have hu:=bb.out;have hx:=b9.out;have di:=a4.out;have dt:=aj.out;obtain⟨cz,d0,d1,dc⟩:=qD2 X.out))
  have O:Aside0 (((br.setCell ⟨a1,0,none⟩ (.int .i64 δ)).setCell ⟨a1,1,none⟩ (.int .i64 L)).heap[a3]?=some (.cells #[.int .i64 J,.int .i64 D] 23 (0,0))):=⟨bka U⟩
  have Z:Aside0 (((br.setCell ⟨a1,0,none⟩ (.int .i64 δ)).setCell ⟨a1,1,none⟩ (.int .i64 L)).heap[ao]?=some (.cells #[.slice ζ B.length γ,.slice η I.length ε] 27 (0,0))):=⟨bka μ⟩
  have ι :Aside0 (((br.setCell ⟨a1,0,none⟩ (.int .i64 δ)).setCell ⟨a1,1,none⟩ (.int .i64 L)).heap[an]?=some (.cells #[.int .i64 δ,.int .i64 L,.int .i64 θ] 43 (0,0))):=⟨bka Y⟩
  have κ :Aside0 (((br.setCell ⟨a1,0,none⟩ (.int .i64 δ)).setCell ⟨a1,1,none⟩ (.int .i64 L)).heap[σ]?=some (.cells #[.slice none 0 0,.slice none 0 0] 27 (0,0))):=⟨bka ν⟩
  have ξ :Aside0 (((br.setCell ⟨a1,0,none⟩ (.int .i64 δ)).setCell ⟨a1,1,none⟩ (.int .i64 L)).heap[a1]?=some (.cells #[.int .i64 δ,.int .i64 L] 62 (0,0))):=⟨by refine Qw (cs:=#[.int .i64 δ,.int .i64 0]) ?_ 1 _ rfl;refine Qw (cs:=#[.int .i64 0,.int .i64 0]) ?_ 0 _ rfl;exact X.out⟩
  have ψ :Aside0 (Below w.heap.size w ((br.setCell ⟨a1,0,none⟩ (.int .i64 δ)).setCell ⟨a1,1,none⟩ (.int .i64 L))):=⟨bel⟩
  (try clear U)
  (try clear μ)
  (try clear Y)
  (try clear ν)
  (try clear X)
  (try clear HB)
  generalize((br.setCell ⟨a1,0,none⟩ (.int .i64 δ)).setCell ⟨a1,1,none⟩ (.int .i64 L))=dq at O Z ι κ ξ ψ ⊢
  have U:=O
  have μ :=Z
  have Y:= ι
  have ν := κ
  have X:= ξ
  have HB:= ψ
  clear O Z ι κ ξ ψ
  replace U:=Aside0.mk (Qb U.out)
  replace μ :=Aside0.mk (Qb μ.out)
  replace Y:=Aside0.mk (Qb Y.out)
  replace ν :=Aside0.mk (Qb ν.out)
  replace X:=Aside0.mk (Qb X.out)
  replace HB:=Aside0.mk (Qe HB.out)
  refine Ze (n:=28) (S:=fun w'=>w'.cell? ⟨a3,0,none⟩=some (.int .i64 J)∧w'.cell? ⟨a3,1,none⟩=some (.int .i64 D)∧w'.cell? ⟨ao,0,none⟩=some (.slice ζ B.length γ)∧w'.cell? ⟨ao,1,none⟩=some (.slice η I.length ε)∧w'.cell? ⟨a1,0,none⟩=some (.int .i64 δ)∧w'.cell? ⟨a1,1,none⟩=some (.int .i64 L)∧w'.cell? ⟨an,0,none⟩=some (.int .i64 δ)∧w'.cell? ⟨an,1,none⟩=some (.int .i64 L)∧w'.cell? ⟨an,2,none⟩=some (.int .i64 θ)) (ds:=[]) #[false,false,false,false,false,false,false,false,false,false,false,false,false,false,false,false,false,false,false,false,false,false,false,false,false,false,false,false] kr rfl rfl ⟨(Qi U.out 0).trans rfl,(Qi U.out 1).trans rfl,(Qi μ.out 0).trans rfl,(Qi μ.out 1).trans rfl,(Qi X.out 0).trans rfl,(Qi X.out 1).trans rfl,(Qi Y.out 0).trans rfl,(Qi Y.out 1).trans rfl,(Qi Y.out 2).trans rfl⟩ (fun hHeld=>?_);refine Q4 call_Serve.Nq call_Serve.W9 (fun HT_ HW_=>?_)
  generalize dq.drew=gs at U μ Y ν X HB hHeld ⊢
  refine qP 14 (some 28) (bN 28 16384) HT_ ?_
  refine qP 16 (some 30) (bN 28 81920) HT_ ?_
  refine qT 0 (some 14) (bN 28 81921) HT_ HW_ hHeld ?_
  refine qT 1 (some 15) (bN 28 81923) HT_ HW_ hHeld ?_
  refine qT 2 (some 16) (bN 28 81927) HT_ HW_ hHeld ?_
  refine qT 4 (some 18) (bN 28 81943) HT_ HW_ hHeld ?_
  refine qT 11 (some 25) (bN 28 83991) HT_ HW_ hHeld ?_
  refine qT 15 (some 29) (bN 28 116759) HT_ HW_ hHeld ?_
  refine qT 17 (some 31) (bN 28 247831) HT_ HW_ hHeld ?_
  refine qP 18 (some 32) (bN 28 509975) HT_ ?_
  refine qT 19 (some 33) (bN 28 1034263) HT_ HW_ hHeld ?_
  refine qT 22 (some 36) (bN 28 5228567) HT_ HW_ hHeld ?_
  refine Zi (i:=3) (N:=some 17) (bN 28 5228575) rfl rfl (Q0 HT_.out kr) (by decide) (fun K hK=>?_)
  refine Zc Try.func29 kr rfl #[.agg #[.int .i64 J,.int .i64 D]] (by rfl) rfl rfl qM ?_
  refine(Jk J D _).mono ?_
  rintro e ga ⟨be,rfl,hgp,hgw,hb⟩
  have bq:=Aside0.mk hgp
  clear hgp hgw
  refine⟨_,rfl, ?_⟩
  replace U:=sBk U hb
  replace μ :=sBk μ hb
  replace Y:=sBk Y hb
  replace ν :=sBk ν hb
  replace X:=sBk X hb
  replace HB:=sHb hb
  (try clear hb)
  (try clear a0)
  (try clear hk)
  (try clear hi)
  refine hK.out _ _ ⟨qc U,qc U,qc μ,qc μ,qc X,qc X,qc Y,qc Y,qc Y⟩ (fun hHeld=>?_)
  clear hK K
  refine qN (some 17) ?_
  refine Zi (i:=5) (N:=some 19) (bN 28 5228607) rfl rfl (Q0 HT_.out kr) (by decide) (fun K hK=>?_)
  refine Xu Try.func50 kr rfl #[] #[.pointer (some ⟨be,0,none⟩)] #[.agg #[.int .i64 δ,.int .i64 L]] #[.agg #[.int .i64 δ,.int .i64 L],.pointer (some ⟨be,0,none⟩)] rfl (by rfl) rfl rfl rfl qM ?_
  refine(Y1 J D δ L false _ (Option.some.inj A4.out) be bq.out).mono ?_
  rintro e gz ⟨rfl,hb⟩
  refine⟨_,rfl, ?_⟩
  replace U:=sBk U hb
  replace μ :=sBk μ hb
  replace Y:=sBk Y hb
  replace ν :=sBk ν hb
  replace X:=sBk X hb
  replace HB:=sHb hb
  (try clear hb)
  (try clear a0)
  (try clear hk)
  (try clear hi)
  refine hK.out _ _ ⟨qc U,qc U,qc μ,qc μ,qc X,qc X,qc Y,qc Y,qc Y⟩ (fun hHeld=>?_)
  clear hK K
  refine qN (some 19) ?_
  refine qP 6 (some 20) (bN 28 5228671) HT_ ?_
  refine qU 7 (some 21) (bN 28 5228799) HT_ ?_
  refine qU 8 (some 22) (bN 28 5229055) HT_ ?_
  refine qU 9 (some 23) (bN 28 5229567) HT_ ?_
  refine qP 10 (some 24) (bN 28 5230591) HT_ ?_
  refine Zi (i:=12) (N:=some 26) (bN 28 5234687) rfl rfl (Q0 HT_.out kr) (by decide) (fun K hK=>?_)
  refine Zc Try.func30 kr rfl #[.agg #[.slice ζ B.length γ,.slice η I.length ε]] (by rfl) rfl rfl qM ?_
  refine(Yl ζ η B.length I.length γ ε _).mono ?_
  rintro e gb ⟨rfl,hb⟩
  refine⟨_,rfl, ?_⟩
  replace U:=sBk U hb
  replace μ :=sBk μ hb
  replace Y:=sBk Y hb
  replace ν :=sBk ν hb
  replace X:=sBk X hb
  replace HB:=sHb hb
  (try clear hb)
  (try clear a0)
  (try clear hk)
  (try clear hi)
  refine hK.out _ _ ⟨qc U,qc U,qc μ,qc μ,qc X,qc X,qc Y,qc Y,qc Y⟩ (fun hHeld=>?_)
  clear hK K
  refine qN (some 26) ?_
  refine qP 13 (some 27) (bN 28 5242879) HT_ ?_
  refine Zi (i:=20) (N:=some 34) (bN 28 6291455) rfl rfl (Q0 HT_.out kr) (by decide) (fun K hK=>?_)
  refine Zc Try.func32 kr rfl #[.agg #[.slice ζ B.length γ,.slice η I.length ε]] (by rfl) rfl rfl qM ?_
  refine(Yt ζ η B.length I.length γ ε _).mono ?_
  rintro e ge ⟨rfl,hb⟩
  refine⟨_,rfl, ?_⟩
  replace U:=sBk U hb
  replace μ :=sBk μ hb
  replace Y:=sBk Y hb
  replace ν :=sBk ν hb
  replace X:=sBk X hb
  replace HB:=sHb hb
  (try clear hb)
  (try clear a0)
  (try clear hk)
  (try clear hi)
  refine hK.out _ _ ⟨qc U,qc U,qc μ,qc μ,qc X,qc X,qc Y,qc Y,qc Y⟩ (fun hHeld=>?_)
  clear hK K
  refine qN (some 34) ?_
  refine qP 21 (some 35) (bN 28 8388607) HT_ ?_
  refine Zi (i:=23) (N:=some 37) (bN 28 16777215) rfl rfl (Q0 HT_.out kr) (by decide) (fun K hK=>?_)
  refine Zc Try.func28 kr rfl #[.agg #[.int .i64 J,.int .i64 D],.agg #[.slice ζ B.length γ,.slice η I.length ε],.bool false,.func (.func 31) #[.agg #[.slice ζ B.length γ,.func (.func 51) #[] #[]]] #[],.agg #[.int .i64 L,.int .i64 θ,.int .i64 0],.func (.func 36) #[.agg #[.slice η I.length ε,.func (.func 57) #[] #[]]] #[],.agg #[.int .i64 δ,.int .i64 L]] (by rfl) rfl rfl qM ?_
  refine(call_change.calls _ _ k J D ζ γ B η ε I false 0 L θ 0 0 δ L bj ak db _ ?side1 ?side2 ?side3 ?side4 ac.out 31 Try.f31 (.agg #[.slice ζ B.length γ,.func (.func 51) #[] #[]]) Try.func31 kr rfl (fun W t ht hb=>J3 ζ γ B _ _ _ t W (Kd.Qz (Kd.Qz ag.out (by repeat(first|(with_reducible first|exact HB.out|apply Qh|apply Qc|apply Qe)|exact HB.out|(refine Qd ?_ (Aside0.out (by assumption)))))) hb) ar.out ht) 36 Try.f36 (.agg #[.slice η I.length ε,.func (.func 57) #[] #[]]) Try.func36 kr rfl (fun W t ht hb=>Jg η ε I _ _ t W (Kd.Qz (Kd.Qz ai.out (by repeat(first|(with_reducible first|exact HB.out|apply Qh|apply Qc|apply Qe)|exact HB.out|(refine Qd ?_ (Aside0.out (by assumption)))))) hb) au.out ht)).mono ?_
  (case side1=>exact(Kd.Qz ag.out HB.out))
  (case side2=>exact ar.out)
  (case side3=>exact(Kd.Qz ai.out HB.out))
  (case side4=>exact au.out)
  rintro e fi ⟨fo,fz,rfl,ρ,a7,hb⟩
  refine⟨_,rfl, ?_⟩
  have cf:=Aside0.mk (Kd.Q2 ρ (Qj HB.out))
  have cg:=Aside0.mk (Kd.Q2 (Kd.Xx a7 (g:=a1) (o:=.cells #[.int .i64 δ,.int .i64 L] 62 (0,0)) X.out) (Qj HB.out))
  replace U:=sBk U hb
  replace μ :=sBk μ hb
  replace Y:=sBk Y hb
  replace ν :=sBk ν hb
  replace X:=sBk X hb
  replace HB:=sHb hb
  (try clear hb)
  (try clear a0)
  (try clear hk)
  (try clear hi)
  (try clear ρ)
  (try clear a7)
  obtain⟨d5,d7,d8⟩:=Kd.Q5 cf.out
  (first|subst d8|(injection d8 with φ a9 χ;have aa:= φ.symm;have ab:= χ.symm;clear φ a9 χ;subst aa;subst ab))
  obtain⟨fk,fl,e9⟩:=Kd.Q5 cg.out
  (first|subst e9|(injection e9 with φ a9 χ;have aa:= φ.symm;have ab:= χ.symm;clear φ a9 χ;subst aa;subst ab))
  refine hK.out _ _ ⟨qc U,qc U,qc μ,qc μ,qc X,qc X,qc Y,qc Y,qc Y⟩ (fun hHeld=>?_)
  clear hK K
  refine qN (some 37) ?_
  refine qP 24 (some 38) (bN 28 33554431) HT_ ?_
  refine qP 25 (some 39) (bN 28 67108863) HT_ ?_
  refine Zi (i:=26) (N:=none) (bN 28 134217727) rfl rfl (Q0 HT_.out kr) (by decide) (fun K hK=>?_)
  have h0:fi.cell? ⟨σ,0,none⟩=some (.slice none 0 0):=(Qi ν.out 0).trans rfl
  have gr:=Q6 ν.out 0
  have ev:=a5.out
  have ew:=a6.out
  have f4:=a2.out
  have f5:=a4.out
  have f7:=al.out
  have f8:=am.out
  have fh:=ah.out
  have fp:=aj.out
  have h4:fi.cell? ⟨σ,1,none⟩=some (.slice none 0 0):=(Qi ν.out 1).trans rfl
  have gu:=Q6 ν.out 1
  have fq:=a5.out
  have fr:=a6.out
  have ft:=a2.out
  have fu:=a4.out
  have fv:=al.out
  have fw:=am.out
  have fx:=ah.out
  have fy:=aj.out
  refine Y4 (w1:=?_) (by rfl) rfl ?_ ?_
  rotate_left
  ·go_simp
   rfl
  refine hK.out _ _ ⟨((cell_far (p:=⟨σ,_,none⟩) a5.out _).trans (((cell_far (p:=⟨σ,_,none⟩) a5.out _).trans (hHeld.1)))),((cell_far (p:=⟨σ,_,none⟩) a5.out _).trans (((cell_far (p:=⟨σ,_,none⟩) a5.out _).trans (hHeld.2.1)))),((cell_far (p:=⟨σ,_,none⟩) a6.out _).trans (((cell_far (p:=⟨σ,_,none⟩) a6.out _).trans (hHeld.2.2.1)))),((cell_far (p:=⟨σ,_,none⟩) a6.out _).trans (((cell_far (p:=⟨σ,_,none⟩) a6.out _).trans (hHeld.2.2.2.1)))),((cell_far (p:=⟨σ,_,none⟩) a4.out _).trans (((cell_far (p:=⟨σ,_,none⟩) a4.out _).trans (hHeld.2.2.2.2.1)))),((cell_far (p:=⟨σ,_,none⟩) a4.out _).trans (((cell_far (p:=⟨σ,_,none⟩) a4.out _).trans (hHeld.2.2.2.2.2.1)))),((cell_far (p:=⟨σ,_,none⟩) a2.out _).trans (((cell_far (p:=⟨σ,_,none⟩) a2.out _).trans (hHeld.2.2.2.2.2.2.1)))),((cell_far (p:=⟨σ,_,none⟩) a2.out _).trans (((cell_far (p:=⟨σ,_,none⟩) a2.out _).trans (hHeld.2.2.2.2.2.2.2.1)))),((cell_far (p:=⟨σ,_,none⟩) a2.out _).trans (((cell_far (p:=⟨σ,_,none⟩) a2.out _).trans (hHeld.2.2.2.2.2.2.2.2))))⟩ (fun hHeld=>?_)
  clear hK K
  refine qP 27 (some 7) (bN 28 268435455) HT_ ?_
  refine Zq (Zd HT_.out kr) ?_
  try go_wp2
  refine bodyPost_ret (Xm rfl _ _ σ 27 #[.slice d5 bj.length d7,.slice fk ak.length fl] (0,0) _ rfl (by refine Qw (cs:=#[.slice d5 bj.length d7,.slice none 0 0]) ?_ 1 _ rfl;refine Qw (cs:=#[.slice none 0 0,.slice none 0 0]) ?_ 0 _ rfl;exact ν.out) Try.underlying27 rfl kr) rfl ?_
  exact⟨_,_,by first|rfl|(simp[Qy,Qx] <;> rfl)|(simp[*,Qy,Qx] <;> rfl),by(with_reducible repeat first|apply Kd.Qm|apply Kd.Ql|apply Kd.Qn);exact Kd.Qr (Kd.Qs (Kd.Qs (Kd.Qv cf.out ν.out (by decide)) (fun _ hk=>hk.2) _) (fun _ hk=>hk.2) _) (fun _ hk=>trivial),by(with_reducible repeat first|apply Kd.Qm|apply Kd.Ql|apply Kd.Qn);exact Kd.Qr (Kd.Qs (Kd.Qs (Kd.Qv cg.out ν.out (by decide)) (fun _ hk=>hk.2) _) (fun _ hk=>hk.2) _) (fun _ hk=>trivial),bel⟩
end Go.Proofs.Ytjehhhlhalkieaa.C
