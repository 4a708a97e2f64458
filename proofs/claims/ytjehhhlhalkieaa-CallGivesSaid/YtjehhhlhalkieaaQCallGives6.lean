/- Texts of this claim, one behind the other: what the law's functions come to, walked (printed by a program, with the words that the print uses), and what that is, in plain Lean. No conditions of their own. -/
import Derived.Test.YtjehhhlhalkieaaQCallGives5
import Derived.Laws.EntriesVeiled
import Derived.WalkSpells
namespace Go.Proofs.Ytjehhhlhalkieaa.C
open Go.RowKit Go.Proofs.YtjehhhlhalkieaaW.PrintWords Go.Proofs.YtjehhhlhalkieaaW.PrintLast Go.Proofs.YtjehhhlhalkieaaW.PrintMore
attribute [local go_sem] Z2 Z0 Xb Xa Zq Zp Z1 Zz
set_option linter.unusedVariables false
set_option linter.unusedSimpArgs false
def api_Hall_55.f (l0:List S56):Option (List S56):=if l0.length<1000000000 then some l0 else none
set_option maxRecDepth 100000 in
set_option maxHeartbeats 1000000 in
theorem api_Hall_55.calls (Y:Option Addr) (c0:Nat) (l0:List S56) (r:List S56) (w:World) (ε :Kd.C k56 w Y l0.length l0) (γ:l0.length≤c0) (h:api_Hall_55.f l0=some r):
    Calls Try.prog 55 #[.slice Y l0.length c0] w fun e w'=>∃ a4:Value,e = .returned a4∧Kd.R k56 56 w' w.heap.size (fun _=>True) a4 r∧Below w.heap.size w w':=by
  unfold api_Hall_55.f at h
  split at h
  case isFalse=>cases h
  case isTrue hl=>
  cases h
  have HR:=Aside0.mk ε
  have HC:=Aside0.mk γ
  have HL:=Aside0.mk hl
  have HB:=Aside0.mk (Below.refl w.heap.size w)
  have hn:Y=none→l0 = []:=by
    intro hA
    rcases Nat.eq_zero_or_pos l0.length with h|h
    · exact List.eq_nil_of_length_eq_zero h
    · obtain⟨ad,e,_⟩:= ε.2.2 h
      rw[hA] at e
      cases e
  clear ε γ hl
  have hEq:∀ (W:World),(binOp .eql 24 (.slice Y l0.length c0) (.slice none 0 0)).run Try.prog W = .ok (.bool Y.isNone) W:=fun W=>Lib.run_eql_slice_nil W _ _ _ _ _ _ _ Try.underlying24
  rcases Y with _|ad
  · have D:=Aside0.mk (hn rfl)
    clear hn
    go_enter Try.func55,Try.ntmps55
    go_wp2
    go_ret
    rw[D.out]
    exact⟨_,rfl,Kd.Yd _ _ _ _ _,HB.out⟩
  · clear hn
    go_enter Try.func55,Try.ntmps55
    go_wp2_with (first|((with_reducible refine Qr (N:=5) rfl ?_);refine Kd.Mk k56 _ 56 ?hg (N:=5) ?hd (xs:=([]:List S56)) (inner:=[]) (ok:=fun _=>True) (okp:=fun _=>True) ?hr ?hp (fun _ hk=>hk) trivial (Below.refl _ _) (Nat.le_refl _) (by simp) ?_;(case hd=>rfl);(case hg=>rfl);(case hr=>first|(go_simp;done)|(go_simp;rfl));(case hp=>exact(Reps.none _ _));intro v1 w1 a7 O hg_ hnew_;clear hg_ hnew_;have HO:=Aside0.mk a7;have B:=Aside0.mk O;clear a7 O)|((with_reducible refine Xc (b:=.append) (xs:=#[.tmp 5,.tmp 6]) rfl ?_);at_builtin;refine Kd.Yo k56 (w0:=w) w.heap.size rfl (.tmp 5) (.tmp 6) 24 56 (.agg #[(.int .i64 0),(.int .i64 0),(.int .i64 0)]) 24 rfl Try.underlying24 Yl rfl (by decide) (by omega) v1 [] l0 _ _ _ (fun _=>True) (fun _=>False) rfl rfl ?aO ?aR (fun _ _ h=>h) (fun _ h=>h.elim) ?aF ?aB ?aS ?aL ?_;(case aR=>exact(Kd.Qx HR.out B.out));(case aB=>exact B.out);(case aF=>exact(fun _ _=>trivial));(case aO=>exact HO.out);(case aS=>exact Qi B.out);(case aL=>have:=HL.out;simp only[List.length_nil];omega);intro v2 Z ho hb hg hat;clear hg hat))
    go_ret
    exact⟨_,rfl,by simpa using ho,hb⟩
def woH (J L X:Int) (l:List S56):List S56:=l.filter (fun y=> !(Z7 J L y.f0 y.f1==0))
set_option maxRecDepth 100000 in
set_option maxHeartbeats 2000000 in
theorem Vk (A:Option Addr) (c:Nat) (l:List S56) (J L X:Int) (w:World) (hr:Kd.C k56 w A l.length l) (hc:l.length≤c) (hl:l.length<1000000000) (bl: -9223372036854775808≤L∧L≤9223372036854775807):
    Calls Try.prog 31 #[.agg #[.slice A l.length c,.func (.func 51) #[] #[]],.agg #[.int .i64 J,.int .i64 L,.int .i64 X]] w fun e w'=>∃ a4:Value,e = .returned a4∧Kd.R k56 56 w' w.heap.size (fun _=>True) a4 (woH J L X l)∧Below w.heap.size w w':=by
  have HR:=Aside0.mk hr
  have HC:=Aside0.mk hc
  have HF:=Aside0.mk (show api_Hall_55.f l=some l by unfold api_Hall_55.f;rw[if_pos hl])
  have HB:=Aside0.mk (Below.refl w.heap.size w)
  have HD:=Aside0.mk (show api_Hall_54.f (l.length+6) l (tok J L)=some (woH J L X l) by
    rw[Call.M3 l (tok J L) (by omega) _ (by omega)]
    show some (l.filter (fun y=> !(Z7 (X7 (tok J L)) (X6 (tok J L)) y.f0 y.f1==0)))=_
    rw[Ji J L bl,Jh J L bl]
    rfl)
  have T1:=Aside0.mk (Ji J L bl)
  have T2:=Aside0.mk (Jh J L bl)
  clear hr hc hl bl
  go_enter Try.func31,Try.ntmps31
  go_wp2_with (first|((with_reducible refine Qr (N:=2) rfl ?_);refine Q5 ?hg (N:=2) ?hd (cs:=#[.slice A l.length c,.func (.func 51) #[] #[]]) (t:=69) ?hr ?_;(case hd=>rfl);(case hg=>rfl);(case hr=>first|(go_simp;done)|(go_simp;rfl));intro I hg_ Z hbox hb;have U:=Aside0.mk (Qt HB.out hb);have γ:=Aside0.mk hbox;clear HB;have HB:=U;have B:=γ;clear U γ;clear hb hbox hg_)|((with_reducible refine Qr (N:=3) rfl ?_);refine Q5 ?hg (N:=3) ?hd (cs:=#[.int .i64 J,.int .i64 L,.int .i64 X]) (t:=56) ?hr ?_;(case hd=>rfl);(case hg=>rfl);(case hr=>first|(go_simp;done)|(go_simp;rfl));intro g3 hg_ w3 hbox hb;have O:=Aside0.mk (Qm (g:=I) (o:=.cells #[.slice A l.length c,.func (.func 51) #[] #[]] 69 (0,0)) B.out hb);have U:=Aside0.mk (Qt HB.out hb);have γ:=Aside0.mk hbox;clear HB B;have HB:=U;have D:=γ;have B:=O;clear U γ O;clear hb hbox hg_;have δ :w3.cell? ⟨I,0,none⟩=some (.slice A l.length c):=(Ql B.out 0).trans rfl;have ε :w3.cell? ⟨I,1,none⟩=some (.func (.func 51) #[] #[]):=(Ql B.out 1).trans rfl)|(go_at_call 55;((with_reducible refine(api_Hall_55.calls A c l l _ ?side1 ?side2 HF.out).mono ?_);(case side1=>exact Kd.Qx HR.out HB.out);(case side2=>exact HC.out);rintro e w4 ⟨v4,rfl,φ,hb⟩;have ι :=Aside0.mk (Nat.not_le.2 (Q3 B.out));have η :=Aside0.mk (Nat.not_le.2 (Q3 D.out));have O:=Aside0.mk (Kd.Q2 (Kd.Qq (Kd.Xx φ) (fun k_ hk=>hk.2.1)) HB.out.size);have Y:=Aside0.mk (Qm (g:=I) (o:=.cells #[.slice A l.length c,.func (.func 51) #[] #[]] 69 (0,0)) B.out hb);have ζ :=Aside0.mk (Qm (g:=g3) (o:=.cells #[.int .i64 J,.int .i64 L,.int .i64 X] 56 (0,0)) D.out hb);have U:=Aside0.mk (Qt HB.out hb);clear HB B D;have HB:=U;have B:=Y;have D:= ζ;have HO:=O;clear U O Y ζ hb φ))|(go_at_call 54;((with_reducible refine(api_Hall_54.calls (l.length+6) _ v4 l (tok J L) _ w w4 HB.out HO.out HD.out A l.length c I g3 X B.out ?hx ι.out η.out).mono ?_);(case hx=>rw[T1.out,T2.out];exact D.out);rintro e w5 ⟨v5,rfl,φ,hb,hk⟩;have θ :=Aside0.mk φ;have κ :=Aside0.mk hb;clear φ hb hk)))
  go_ret
  exact⟨_,rfl,Kd.Qq θ.out (fun _ _=>trivial),κ.out⟩
def api_Inside_59.f (l0:List S62):Option (List S62):=if l0.length<1000000000 then some l0 else none
set_option maxRecDepth 100000 in
set_option maxHeartbeats 1000000 in
theorem api_Inside_59.calls (Y:Option Addr) (c0:Nat) (l0:List S62) (r:List S62) (w:World) (ε :Kd.C k62 w Y l0.length l0) (γ:l0.length≤c0) (h:api_Inside_59.f l0=some r):
    Calls Try.prog 59 #[.slice Y l0.length c0] w fun e w'=>∃ a4:Value,e = .returned a4∧Kd.R k62 62 w' w.heap.size (fun _=>True) a4 r∧Below w.heap.size w w':=by
  unfold api_Inside_59.f at h
  split at h
  case isFalse=>cases h
  case isTrue hl=>
  cases h
  have HR:=Aside0.mk ε
  have HC:=Aside0.mk γ
  have HL:=Aside0.mk hl
  have HB:=Aside0.mk (Below.refl w.heap.size w)
  have hn:Y=none→l0 = []:=by
    intro hA
    rcases Nat.eq_zero_or_pos l0.length with h|h
    · exact List.eq_nil_of_length_eq_zero h
    · obtain⟨ad,e,_⟩:= ε.2.2 h
      rw[hA] at e
      cases e
  clear ε γ hl
  have hEq:∀ (W:World),(binOp .eql 25 (.slice Y l0.length c0) (.slice none 0 0)).run Try.prog W = .ok (.bool Y.isNone) W:=fun W=>Lib.run_eql_slice_nil W _ _ _ _ _ _ _ Try.underlying25
  rcases Y with _|ad
  · have D:=Aside0.mk (hn rfl)
    clear hn
    go_enter Try.func59,Try.ntmps59
    go_wp2
    go_ret
    rw[D.out]
    exact⟨_,rfl,Kd.Yd _ _ _ _ _,HB.out⟩
  · clear hn
    go_enter Try.func59,Try.ntmps59
    go_wp2_with (first|((with_reducible refine Qr (N:=5) rfl ?_);refine Kd.Mk k62 _ 62 ?hg (N:=5) ?hd (xs:=([]:List S62)) (inner:=[]) (ok:=fun _=>True) (okp:=fun _=>True) ?hr ?hp (fun _ hk=>hk) trivial (Below.refl _ _) (Nat.le_refl _) (by simp) ?_;(case hd=>rfl);(case hg=>rfl);(case hr=>first|(go_simp;done)|(go_simp;rfl));(case hp=>exact(Reps.none _ _));intro v1 w1 a7 O hg_ hnew_;clear hg_ hnew_;have HO:=Aside0.mk a7;have B:=Aside0.mk O;clear a7 O)|((with_reducible refine Xc (b:=.append) (xs:=#[.tmp 5,.tmp 6]) rfl ?_);at_builtin;refine Kd.Yo k62 (w0:=w) w.heap.size rfl (.tmp 5) (.tmp 6) 25 62 (.agg #[(.int .i64 0),(.int .i64 0)]) 16 rfl Try.underlying25 J0 rfl (by decide) (by omega) v1 [] l0 _ _ _ (fun _=>True) (fun _=>False) rfl rfl ?aO ?aR (fun _ _ h=>h) (fun _ h=>h.elim) ?aF ?aB ?aS ?aL ?_;(case aR=>exact(Kd.Qx HR.out B.out));(case aB=>exact B.out);(case aF=>exact(fun _ _=>trivial));(case aO=>exact HO.out);(case aS=>exact Qi B.out);(case aL=>have:=HL.out;simp only[List.length_nil];omega);intro v2 Z ho hb hg hat;clear hg hat))
    go_ret
    exact⟨_,rfl,by simpa using ho,hb⟩
def woI (J L:Int) (l:List S62):List S62:=l.filter (fun y=> !(Z7 J L y.f0 y.f1==0))
set_option maxRecDepth 100000 in
set_option maxHeartbeats 2000000 in
theorem Vj (A:Option Addr) (c:Nat) (l:List S62) (J L:Int) (w:World) (hr:Kd.C k62 w A l.length l) (hc:l.length≤c) (hl:l.length<1000000000) (bl: -9223372036854775808≤L∧L≤9223372036854775807):
    Calls Try.prog 36 #[.agg #[.slice A l.length c,.func (.func 57) #[] #[]],.agg #[.int .i64 J,.int .i64 L]] w fun e w'=>∃ a4:Value,e = .returned a4∧Kd.R k62 62 w' w.heap.size (fun _=>True) a4 (woI J L l)∧Below w.heap.size w w':=by
  have HR:=Aside0.mk hr
  have HC:=Aside0.mk hc
  have HF:=Aside0.mk (show api_Inside_59.f l=some l by unfold api_Inside_59.f;rw[if_pos hl])
  have HB:=Aside0.mk (Below.refl w.heap.size w)
  have HD:=Aside0.mk (show api_Inside_64.f (l.length+6) l (tok J L)=some (woI J L l) by
    rw[Call.M2 l (tok J L) (by omega) _ (by omega)]
    show some (l.filter (fun y=> !(Z7 (X7 (tok J L)) (X6 (tok J L)) y.f0 y.f1==0)))=_
    rw[Ji J L bl,Jh J L bl]
    rfl)
  have T1:=Aside0.mk (Ji J L bl)
  have T2:=Aside0.mk (Jh J L bl)
  clear hr hc hl bl
  go_enter Try.func36,Try.ntmps36
  go_wp2_with (first|((with_reducible refine Qr (N:=2) rfl ?_);refine Q5 ?hg (N:=2) ?hd (cs:=#[.slice A l.length c,.func (.func 57) #[] #[]]) (t:=74) ?hr ?_;(case hd=>rfl);(case hg=>rfl);(case hr=>first|(go_simp;done)|(go_simp;rfl));intro I hg_ Z hbox hb;have U:=Aside0.mk (Qt HB.out hb);have γ:=Aside0.mk hbox;clear HB;have HB:=U;have B:=γ;clear U γ;clear hb hbox hg_)|((with_reducible refine Qr (N:=3) rfl ?_);refine Q5 ?hg (N:=3) ?hd (cs:=#[.int .i64 J,.int .i64 L]) (t:=62) ?hr ?_;(case hd=>rfl);(case hg=>rfl);(case hr=>first|(go_simp;done)|(go_simp;rfl));intro g3 hg_ w3 hbox hb;have O:=Aside0.mk (Qm (g:=I) (o:=.cells #[.slice A l.length c,.func (.func 57) #[] #[]] 74 (0,0)) B.out hb);have U:=Aside0.mk (Qt HB.out hb);have γ:=Aside0.mk hbox;clear HB B;have HB:=U;have D:=γ;have B:=O;clear U γ O;clear hb hbox hg_;have δ :w3.cell? ⟨I,0,none⟩=some (.slice A l.length c):=(Ql B.out 0).trans rfl;have ε :w3.cell? ⟨I,1,none⟩=some (.func (.func 57) #[] #[]):=(Ql B.out 1).trans rfl)|(go_at_call 59;((with_reducible refine(api_Inside_59.calls A c l l _ ?side1 ?side2 HF.out).mono ?_);(case side1=>exact Kd.Qx HR.out HB.out);(case side2=>exact HC.out);rintro e w4 ⟨v4,rfl,φ,hb⟩;have ι :=Aside0.mk (Nat.not_le.2 (Q3 B.out));have η :=Aside0.mk (Nat.not_le.2 (Q3 D.out));have O:=Aside0.mk (Kd.Q2 (Kd.Qq (Kd.Xx φ) (fun k_ hk=>hk.2.1)) HB.out.size);have Y:=Aside0.mk (Qm (g:=I) (o:=.cells #[.slice A l.length c,.func (.func 57) #[] #[]] 74 (0,0)) B.out hb);have ζ :=Aside0.mk (Qm (g:=g3) (o:=.cells #[.int .i64 J,.int .i64 L] 62 (0,0)) D.out hb);have U:=Aside0.mk (Qt HB.out hb);clear HB B D;have HB:=U;have B:=Y;have D:= ζ;have HO:=O;clear U O Y ζ hb φ))|(go_at_call 64;((with_reducible refine(api_Inside_64.calls (l.length+6) _ v4 l (tok J L) _ w w4 HB.out HO.out HD.out A l.length c I g3 0 B.out ?hx ι.out η.out).mono ?_);(case hx=>rw[T1.out,T2.out];exact D.out);rintro e w5 ⟨v5,rfl,φ,hb,hk⟩;have θ :=Aside0.mk φ;have κ :=Aside0.mk hb;clear φ hb hk)))
  go_ret
  exact⟨_,rfl,Kd.Qq θ.out (fun _ _=>trivial),κ.out⟩
set_option maxRecDepth 100000 in
set_option maxHeartbeats 1000000 in
theorem Yb (Y A1:Option Addr) (L J c0 c1:Nat) (w:World):
    Calls Try.prog 30 #[.agg #[.slice Y L c0,.slice A1 J c1]] w fun e w'=>e = .returned (.agg #[.slice Y L c0,.func (.func 51) #[] #[]])∧Below w.heap.size w w':=by
  have HB:=Aside0.mk (Below.refl w.heap.size w)
  go_enter Try.func30,Try.ntmps30
  go_wp2_with (first|((with_reducible refine Qr (N:=1) rfl ?_);refine Q5 ?hg (N:=1) ?hd (cs:=#[.slice Y L c0,.slice A1 J c1]) (t:=27) ?hr ?_;(case hd=>rfl);(case hg=>rfl);(case hr=>first|(go_simp;done)|(go_simp;rfl));intro X hg_ w1 hbox hb;have U:=Aside0.mk (Qt HB.out hb);have γ:=Aside0.mk hbox;clear HB;have HB:=U;have D:=γ;clear U γ;clear hb hbox hg_)|((with_reducible refine Qr (N:=2) rfl ?_);refine Q5 ?hg (N:=2) ?hd (cs:=#[.slice none 0 0,.nilFunc]) (t:=69) ?hr ?_;(case hd=>rfl);(case hg=>rfl);(case hr=>first|(go_simp;done)|(go_simp;rfl));intro I hg_ Z hbox hb;have GEs:=Aside0.mk HB.out.size;have GEl:=Aside0.mk (Q3 D.out);have O:=Aside0.mk (Qm (g:=X) (o:=.cells #[.slice Y L c0,.slice A1 J c1] 27 (0,0)) D.out hb);have U:=Aside0.mk (Qt HB.out hb);have γ:=Aside0.mk hbox;clear HB D;have HB:=U;have B:=γ;have D:=O;clear U γ O;have θ :=Aside0.mk (by rw[hg_];exact GEs.out:w.heap.size≤I);have NB:=Aside0.mk (by rw[hg_];exact Nat.ne_of_lt GEl.out:X≠I);clear hb hbox hg_;have hnb:=NB.out;have δ :Z.cell? ⟨X,0,none⟩=some (.slice Y L c0):=(Ql D.out 0).trans rfl;have ε :Z.cell? ⟨X,1,none⟩=some (.slice A1 J c1):=(Ql D.out 1).trans rfl;have ζ :Z.cell? ⟨I,0,none⟩=some (.slice none 0 0):=(Ql B.out 0).trans rfl;have η :Z.cell? ⟨I,1,none⟩=some (.nilFunc):=(Ql B.out 1).trans rfl;have ι :=Q6 B.out 0;have κ :=Q6 B.out 1))
  refine bodyPost_ret (results_cell_row rfl _ _ I 69 #[.slice Y L c0,.func (.func 51) #[] #[]] (0,0) _ rfl (by refine Qv (cs:=#[.slice Y L c0,.nilFunc]) ?_ 1 _ rfl;refine Qv (cs:=#[.slice none 0 0,.nilFunc]) ?_ 0 _ rfl;exact B.out) Try.underlying69 rfl kr) rfl ?_
  exact⟨rfl,Qc (Qc HB.out θ.out) θ.out⟩
set_option maxRecDepth 100000 in
set_option maxHeartbeats 1000000 in
theorem Ja (F C:Int) (w:World):
    Calls Try.prog 34 #[.agg #[.int .i64 F,.int .i64 C]] w fun e w'=>∃ g:Nat,e = .returned (.func (.func 61) #[] #[.pointer (some ⟨g,0,none⟩)])∧w'.heap[g]?=some (.cells #[.int .i64 F,.int .i64 C] 23 (0,0))∧w.heap.size≤g∧Below w.heap.size w w':=by
  have HB:=Aside0.mk (Below.refl w.heap.size w)
  go_enter Try.func34,Try.ntmps34
  go_wp2_with (first|((with_reducible refine Qr (N:=1) rfl ?_);refine Q5 ?hg (N:=1) ?hd (cs:=#[.int .i64 F,.int .i64 C]) (t:=23) ?hr ?_;(case hd=>rfl);(case hg=>rfl);(case hr=>first|(go_simp;done)|(go_simp;rfl));intro X hg_ w1 hbox hb;have GEs:=Aside0.mk HB.out.size;have U:=Aside0.mk (Qt HB.out hb);have γ:=Aside0.mk hbox;clear HB;have HB:=U;have D:=γ;clear U γ;have B:=Aside0.mk (by rw[hg_];exact GEs.out:w.heap.size≤X);clear hb hbox hg_))
  go_ret
  exact⟨_,rfl,D.out,B.out,HB.out⟩
set_option maxRecDepth 100000 in
set_option maxHeartbeats 1000000 in
theorem Yi (Y A1:Option Addr) (L J c0 c1:Nat) (w:World):
    Calls Try.prog 32 #[.agg #[.slice Y L c0,.slice A1 J c1]] w fun e w'=>e = .returned (.agg #[.slice A1 J c1,.func (.func 57) #[] #[]])∧Below w.heap.size w w':=by
  have HB:=Aside0.mk (Below.refl w.heap.size w)
  go_enter Try.func32,Try.ntmps32
  go_wp2_with (first|((with_reducible refine Qr (N:=1) rfl ?_);refine Q5 ?hg (N:=1) ?hd (cs:=#[.slice Y L c0,.slice A1 J c1]) (t:=27) ?hr ?_;(case hd=>rfl);(case hg=>rfl);(case hr=>first|(go_simp;done)|(go_simp;rfl));intro X hg_ w1 hbox hb;have U:=Aside0.mk (Qt HB.out hb);have γ:=Aside0.mk hbox;clear HB;have HB:=U;have D:=γ;clear U γ;clear hb hbox hg_)|((with_reducible refine Qr (N:=2) rfl ?_);refine Q5 ?hg (N:=2) ?hd (cs:=#[.slice none 0 0,.nilFunc]) (t:=74) ?hr ?_;(case hd=>rfl);(case hg=>rfl);(case hr=>first|(go_simp;done)|(go_simp;rfl));intro I hg_ Z hbox hb;have GEs:=Aside0.mk HB.out.size;have GEl:=Aside0.mk (Q3 D.out);have O:=Aside0.mk (Qm (g:=X) (o:=.cells #[.slice Y L c0,.slice A1 J c1] 27 (0,0)) D.out hb);have U:=Aside0.mk (Qt HB.out hb);have γ:=Aside0.mk hbox;clear HB D;have HB:=U;have B:=γ;have D:=O;clear U γ O;have θ :=Aside0.mk (by rw[hg_];exact GEs.out:w.heap.size≤I);have NB:=Aside0.mk (by rw[hg_];exact Nat.ne_of_lt GEl.out:X≠I);clear hb hbox hg_;have hnb:=NB.out;have δ :Z.cell? ⟨X,0,none⟩=some (.slice Y L c0):=(Ql D.out 0).trans rfl;have ε :Z.cell? ⟨X,1,none⟩=some (.slice A1 J c1):=(Ql D.out 1).trans rfl;have ζ :Z.cell? ⟨I,0,none⟩=some (.slice none 0 0):=(Ql B.out 0).trans rfl;have η :Z.cell? ⟨I,1,none⟩=some (.nilFunc):=(Ql B.out 1).trans rfl;have ι :=Q6 B.out 0;have κ :=Q6 B.out 1))
  refine bodyPost_ret (results_cell_row rfl _ _ I 74 #[.slice A1 J c1,.func (.func 57) #[] #[]] (0,0) _ rfl (by refine Qv (cs:=#[.slice A1 J c1,.nilFunc]) ?_ 1 _ rfl;refine Qv (cs:=#[.slice none 0 0,.nilFunc]) ?_ 0 _ rfl;exact B.out) Try.underlying74 rfl kr) rfl ?_
  exact⟨rfl,Qc (Qc HB.out θ.out) θ.out⟩
set_option maxRecDepth 100000 in
set_option maxHeartbeats 1000000 in
theorem Y9 (F C:Int) (w:World):
    Calls Try.prog 29 #[.agg #[.int .i64 F,.int .i64 C]] w fun e w'=>∃ g:Nat,e = .returned (.func (.func 50) #[] #[.pointer (some ⟨g,0,none⟩)])∧w'.heap[g]?=some (.cells #[.int .i64 F,.int .i64 C] 23 (0,0))∧w.heap.size≤g∧Below w.heap.size w w':=by
  have HB:=Aside0.mk (Below.refl w.heap.size w)
  go_enter Try.func29,Try.ntmps29
  go_wp2_with (first|((with_reducible refine Qr (N:=1) rfl ?_);refine Q5 ?hg (N:=1) ?hd (cs:=#[.int .i64 F,.int .i64 C]) (t:=23) ?hr ?_;(case hd=>rfl);(case hg=>rfl);(case hr=>first|(go_simp;done)|(go_simp;rfl));intro X hg_ w1 hbox hb;have GEs:=Aside0.mk HB.out.size;have U:=Aside0.mk (Qt HB.out hb);have γ:=Aside0.mk hbox;clear HB;have HB:=U;have D:=γ;clear U γ;have B:=Aside0.mk (by rw[hg_];exact GEs.out:w.heap.size≤X);clear hb hbox hg_))
  go_ret
  exact⟨_,rfl,D.out,B.out,HB.out⟩
end Go.Proofs.Ytjehhhlhalkieaa.C
namespace Go.Proofs.Ytjehhhlhalkieaa.C
open Go.RowKit Go.Proofs.YtjehhhlhalkieaaW.PrintWords Go.Proofs.YtjehhhlhalkieaaW.PrintLast Go.Proofs.YtjehhhlhalkieaaW.PrintMore
set_option linter.unusedVariables false
def small (n:Nat) (C:Int):Bool:=decide (n<1000000000 ∧ -9223372036854775808≤C∧C≤9223372036854775807)
def rightP_H.f (B:List S56) (D:List S62) (I J:Int):Option Bool:=if small B.length J=true then some (Call.Zo (fun x=>Xp I J x.f0 x.f1 x.f2) Call.ltH none B) else none
theorem rightP_H.calls (η :Option Addr) (δ :Nat) (B:List S56) (θ :Option Addr) (ε :Nat) (D:List S62) (I J:Int) (r:Bool) (w:World) (b4:Kd.C k56 w η B.length B) (b5:B.length ≤ δ) (b6:Kd.C k62 w θ D.length D) (b7:D.length ≤ ε) (h:rightP_H.f B D I J=some r) (g:Nat) (hg:w.heap[g]?=some (.cells #[.int .i64 I,.int .i64 J] 23 (0,0))):
    Calls Try.prog 42 #[.agg #[.slice η B.length δ,.func (.func 51) #[] #[]],.func (.func 61) #[] #[.pointer (some ⟨g,0,none⟩)]] w fun e w'=>e = .returned (.bool r)∧Below w.heap.size w w':=by
  unfold rightP_H.f at h
  split at h
  case isFalse=>cases h
  case isTrue hs=>
  cases h
  obtain⟨hl,hb⟩:=of_decide_eq_true hs
  have Y:=Ji I J hb
  have e2:=Jh I J hb
  refine api_Hall_right.calls (2 * B.length+1) η δ B 0 (tok I J) _ w b4 b5 ?_ g ?_
  · rw[Call.Wq B _ 0 (by omega) _ (by omega),Y,e2]
  · rw[Y,e2];exact hg
def rightP_I.f (B:List S56) (D:List S62) (I J:Int):Option Bool:=if small D.length J=true then some (Call.Zo (fun x=>Y0 I J x.f0 x.f1) Call.ltI none D) else none
theorem rightP_I.calls (η :Option Addr) (δ :Nat) (B:List S56) (θ :Option Addr) (ε :Nat) (D:List S62) (I J:Int) (r:Bool) (w:World) (b4:Kd.C k56 w η B.length B) (b5:B.length ≤ δ) (b6:Kd.C k62 w θ D.length D) (b7:D.length ≤ ε) (h:rightP_I.f B D I J=some r) (g:Nat) (hg:w.heap[g]?=some (.cells #[.int .i64 I,.int .i64 J] 23 (0,0))):
    Calls Try.prog 43 #[.agg #[.slice θ D.length ε,.func (.func 57) #[] #[]],.func (.func 50) #[] #[.pointer (some ⟨g,0,none⟩)]] w fun e w'=>e = .returned (.bool r)∧Below w.heap.size w w':=by
  unfold rightP_I.f at h
  split at h
  case isFalse=>cases h
  case isTrue hs=>
  cases h
  obtain⟨hl,hb⟩:=of_decide_eq_true hs
  have Y:=Ji I J hb
  have e2:=Jh I J hb
  refine api_Inside_right.calls (2 * D.length+1) θ ε D 0 (tok I J) _ w b6 b7 ?_ g ?_
  · rw[Call.Wp D _ 0 (by omega) _ (by omega),Y,e2]
  · rw[Y,e2];exact hg
end Go.Proofs.Ytjehhhlhalkieaa.C
namespace Go.Proofs.Ytjehhhlhalkieaa.C
open Go.RowKit Go.Proofs.YtjehhhlhalkieaaW.PrintWords Go.Proofs.YtjehhhlhalkieaaW.PrintLast Go.Proofs.YtjehhhlhalkieaaW.PrintMore
attribute [local go_sem] Z2 Z0 Xb Xa Zq Zp Z1 Zz
set_option linter.unusedVariables false
set_option linter.unusedSimpArgs false
def api_Hall_set.j0:Nat→List (S56)→Option ((List (S56)))
 |0,_=>none
 |k+1,O=>some O
def api_Hall_set.f (k:Nat) (I:List (S56)) (J:Int) (D:Int) (O:Int) (X:Int):Option ((List (S56))):=(api_Hall_55.f I).bind fun Y=>((api_Hall_62.f k Y D O X J).bind fun γ=>(if γ.2=true then (if 0≤γ.1 then (if γ.1<(Y.length:Int) then (api_Hall_set.j0 k (Y.set (γ.1:Int).toNat (⟨D,O,X⟩:S56))) else (none)) else (none)) else (api_Hall_set.j0 k Y)))
theorem api_Hall_set.Zi:∀ k,(∀ D,LeO (api_Hall_set.j0 k D) (api_Hall_set.j0 (k+1) D))
 |0=>fun _ r h=>by simp[api_Hall_set.j0] at h
 |k+1=>by
  have B:=api_Hall_set.Zi k
  ·intro D
   unfold api_Hall_set.j0
   repeat' first
   |(with_reducible exact B _)
   |(with_reducible exact api_Hall_62.mono _ _ _ _ _ _)
   |(with_reducible exact LeO.refl _)
   |(with_reducible exact LeO.none _)
   |(with_reducible refine LeO.ite ?_ ?_)
   |(with_reducible refine LeO.bind ?_ (fun _=>?_))
   |exact B _
   |exact api_Hall_62.mono _ _ _ _ _ _
   |exact LeO.none _
   |refine LeO.ite ?_ ?_
   |refine LeO.bind ?_ (fun _=>?_)
theorem api_Hall_set.mono:∀ I D a2 X J k,LeO (api_Hall_set.f k I D a2 X J) (api_Hall_set.f (k+1) I D a2 X J):=by
 intro I D a2 X J k
 have B:=api_Hall_set.Zi k
 unfold api_Hall_set.f
 repeat' first
   |(with_reducible exact B _)
   |(with_reducible exact api_Hall_62.mono _ _ _ _ _ _)
   |(with_reducible exact LeO.refl _)
   |(with_reducible exact LeO.none _)
   |(with_reducible refine LeO.ite ?_ ?_)
   |(with_reducible refine LeO.bind ?_ (fun _=>?_))
   |exact B _
   |exact api_Hall_62.mono _ _ _ _ _ _
   |exact LeO.none _
   |refine LeO.ite ?_ ?_
   |refine LeO.bind ?_ (fun _=>?_)
set_option maxHeartbeats 8000000 in
set_option maxRecDepth 100000 in
theorem api_Hall_set.calls (k:Nat) (μ :Option Addr) (ζ :Nat) (I:List (S56)) (J:Int) (D:Int) (O:Int) (X:Int) (r:List (S56)) (w:World) (a5:Kd.C k56 w μ I.length I) (a6:I.length ≤ ζ) (h:api_Hall_set.f k I J D O X=some r):
  Calls Try.prog 47 #[.agg #[.slice μ I.length ζ,.func (.func 51) #[] #[]],.agg #[.int .i64 D,.int .i64 O,.int .i64 X]] w fun e w'=>∃ a4:Value,e = .returned (a4)∧Kd.R k56 56 w' w.heap.size (fun _=>True) a4 r∧Below w.heap.size w w':=by
 have bw:=Try.underlying69
 have bq:=Try.underlying56
 have χ :=Aside0.mk a5
 have a7:=Aside0.mk a6
 clear a5 a6
 have HB:=Aside0.mk (Below.refl w.heap.size w)
 have H:((api_Hall_55.f I).bind fun Y=>((api_Hall_62.f k Y D O X J).bind fun γ=>(if γ.2=true then (if 0≤γ.1 then (if γ.1<(Y.length:Int) then (api_Hall_set.j0 k (Y.set (γ.1:Int).toNat (⟨D,O,X⟩:S56))) else (none)) else (none)) else (api_Hall_set.j0 k Y))))=some r:=h
 clear h
 replace H:=Option.bind_eq_some_iff.mp H
 obtain⟨Y,ae,H⟩:=H
 replace H:((api_Hall_62.f k Y D O X J).bind fun γ=>(if γ.2=true then (if 0≤γ.1 then (if γ.1<(Y.length:Int) then (api_Hall_set.j0 k (Y.set (γ.1:Int).toNat (⟨D,O,X⟩:S56))) else (none)) else (none)) else (api_Hall_set.j0 k Y)))=some r:=H
 have A3:=Aside0.mk ae
 clear ae
 replace H:=Option.bind_eq_some_iff.mp H
 obtain⟨⟨Z,σ⟩,bv,H⟩:=H
 replace H:(if σ=true then (if 0≤Z then (if Z<(Y.length:Int) then (api_Hall_set.j0 k (Y.set (Z:Int).toNat (⟨D,O,X⟩:S56))) else (none)) else (none)) else (api_Hall_set.j0 k Y))=some r:=H
 have A4:=Aside0.mk bv
 clear bv
 have bo:=Aside0.mk H
 clear H
 go_enter Try.func47,Try.ntmps47
 go_upto_if 19 with(first|((with_reducible refine Qr (N:=2) rfl ?_);refine qE 2 #[.slice μ I.length ζ,.func (.func 51) #[] #[]] 69 ?_;intro ν hg w6 hbox hb;have L:=Aside0.mk hbox;have bg:=sGe hg;have b1:=sGe hg;replace HB:=sHb hb;clear hb hbox hg)|((with_reducible refine Qr (N:=3) rfl ?_);refine qE 3 #[.int .i64 D,.int .i64 O,.int .i64 X] 56 ?_;intro κ hg w7 hbox hb;have U:=Aside0.mk hbox;have bp:=sGe hg;have bs:=sGe hg;have ξ :=sNl L hg;have a1:=sNg L hg;replace L:=sBk L hb;replace HB:=sHb hb;clear hb hbox hg;have bn:= ξ.out;have br:=a1.out;obtain⟨bc,bh,bi,bj⟩:=qD2 L.out)|((with_reducible refine Q0 (f:=55) rfl ?_);refine Zk (some 10) rfl rfl Try.func55 kr rfl #[.slice μ I.length ζ] rfl qM ?_;(with_reducible refine(api_Hall_55.calls _ _ I Y _ ?side1 ?side2 A3.out).mono ?_);(case side1=>exact(Kd.Qx χ.out HB.out));(case side2=>exact a7.out);rintro e em ⟨ci,rfl,φ,hb⟩;refine⟨_,rfl, ?_⟩;have B:=Aside0.mk (Kd.Q2 (Kd.Zs φ (g:= κ) (o:=.cells #[.int .i64 D,.int .i64 O,.int .i64 X] 56 (0,0)) U.out) (Qi HB.out));replace L:=sBk L hb;replace U:=sBk U hb;replace HB:=sHb hb;(try clear hb);(try clear a0);(try clear hk);(try clear hi);(try clear φ);obtain⟨ac,af,ap,ai,aj,ar⟩:=qD3 U.out;obtain⟨av,ax,ay,b0⟩:=qD2 L.out;obtain⟨ak,a2,b8⟩:=Kd.Q4 B.out;subst b8)|((with_reducible refine Q0 (f:=62) rfl ?_);refine Zk (some 16) rfl rfl Try.func62 kr rfl #[.slice ak Y.length a2,.agg #[.int .i64 D,.int .i64 O,.int .i64 X],.func (.func 51) #[] #[]] rfl qM ?_;(with_reducible refine(api_Hall_62.calls k _ _ Y D O X J Z σ _ ?side1 ?side2 A4.out).mono ?_);(case side1=>exact(Kd.Qo B.out).2.2);(case side2=>exact(Kd.Qo B.out).2.1);rintro e b2 ⟨rfl,hb⟩;refine⟨_,rfl, ?_⟩;replace B:=sRb B hb;replace L:=sBk L hb;replace U:=sBk U hb;replace HB:=sHb hb;(try clear hb);(try clear a0);(try clear hk);(try clear hi)))
 (try simp only[Act.put,qS])
 go_cut [] (fun wc=>∃ (kq:Nat) (b7:List (S56)) (ι :Int) (ψ :Int) (ω :Int),Aside0 (api_Hall_set.j0 kq b7=some r)∧Aside0 (kq≤k)∧Aside0 (Kd.R k56 56 wc w.heap.size (fun k_=>k_ ≠ κ) (.slice ak Y.length a2) b7)∧Aside0 (wc.heap[ν]?=some (.cells #[(.slice μ I.length ζ),.func (.func 51) #[] #[]] 69 (0,0)))∧Aside0 (wc.heap[κ]?=some (.cells #[.int .i64 ι,.int .i64 ψ,.int .i64 ω] 56 (0,0)))∧Aside0 (Below w.heap.size w wc))
 case first=>
  have H:=bo.out
  clear bo
  by_cases a8:σ=true
  ·subst a8
   have H1:(if 0≤Z then (if Z<(Y.length:Int) then (api_Hall_set.j0 k (Y.set (Z:Int).toNat (⟨D,O,X⟩:S56))) else (none)) else (none))=some r:=by rw[if_pos rfl] at H;exact H
   clear H
   have H:=H1
   clear H1
   by_cases a3:0≤Z
   ·rw[if_pos a3] at H
    have c16b0:decide (0≤Z)=true:=decide_eq_true a3
    clear a3
    (first|rw[c16b0]|(simp only[X5,Ys];rw[c16b0])|skip)
    by_cases au:Z<(Y.length:Int)
    ·rw[if_pos au] at H
     have c17b0:decide (Z<(Y.length:Int))=true:=decide_eq_true au
     clear au
     obtain⟨ag,δ⟩:∃ y_:List (S56),y_=(Y.set (Z:Int).toNat (⟨D,O,X⟩:S56)):=⟨_,rfl⟩
     replace H:(api_Hall_set.j0 k ag)=some r:=by first|(rw[δ];with_reducible exact H)|(have ρ:=(Option.bind_some _ _).symm.trans H;rw[δ];with_reducible exact ρ)|(have ρ:=(Option.bind_some _ _).symm.trans H;with_reducible exact ρ)|with_reducible exact H|(rw[δ];exact H)|exact H
     have al:=Aside0.mk δ
     clear δ
     have H':=Aside0.mk H
     clear H
     have d5:=a1.out
     have d6:= ξ.out
     obtain⟨b9,bb,bd,be,bf,bz⟩:=qD3 U.out
     have an:0≤(Z:Int):=of_decide_eq_true (by assumption)
     have ao:(Z:Int)<((Y.length:Int):Int):=of_decide_eq_true (by assumption)
     obtain⟨ε,d9,az,b3,bm,da,b4⟩:=Kd.U4 B.out (by omega)
     (first|cases az|(injection az with ea_ en_ ec_;(first|subst ea_|(injection ea_ with ea_;subst ea_));subst ec_;clear en_))
     have ah:=Aside0.mk b3
     have db:=Aside0.mk b4
     clear b3 bm b4
     obtain⟨dd,b6,b5,θ,τ⟩:=Kd.Kz B.out z56 (Z:Int) an ao
     obtain rfl:=Yw b5
     have ca:b2.cell? ⟨ε,(Z:Int).toNat * 3,none⟩=some (.int .i64 ((Qg Y Z).f0)):= θ 0 _ rfl
     have cb:b2.cell? ⟨ε,(Z:Int).toNat * 3+1,none⟩=some (.int .i64 ((Qg Y Z).f1)):= θ 1 _ rfl
     have cp:b2.cell? ⟨ε,(Z:Int).toNat * 3+2,none⟩=some (.int .i64 ((Qg Y Z).f2)):= θ 2 _ rfl
     have cq:b2.frozen? ⟨ε,(Z:Int).toNat * 3,none⟩=false:= τ 0
     have ct:b2.frozen? ⟨ε,(Z:Int).toNat * 3+1,none⟩=false:= τ 1
     have de:b2.frozen? ⟨ε,(Z:Int).toNat * 3+2,none⟩=false:= τ 2
     clear b6 θ τ b5
     replace an:=eq_true an
     replace ao:=eq_true ao
     have n_:=Aside0.mk (Kd.Qq (ok':=(fun k_=>k_ ≠ κ)) B.out (fun k_ hk=>hk.2))
     clear B
     have B:=n_
     clear n_
     have bu:=Aside0.mk (show Kd.R k56 56 b2 w.heap.size (fun k_=>k_ ≠ κ) (.slice (some ⟨ε,0,none⟩) Y.length a2) Y from B.out)
     obtain⟨cj,bk,ce,η,a9⟩:=Kd.Kz bu.out z56 (Z:Int) (of_decide_eq_true (by assumption)) (by have h_:(Z:Int)<((Y.length:Int):Int):=of_decide_eq_true (by assumption);first|exact h_|(have e_:=(Kd.Qo B.out).1;omega)|simpa using h_)
     obtain rfl:=Yw ce
     have ba:=Kd.Mj bu.out (Z:Int) (of_decide_eq_true (by assumption)) (by have h_:(Z:Int)<((Y.length:Int):Int):=of_decide_eq_true (by assumption);first|exact h_|(have e_:=(Kd.Qo B.out).1;omega)|simpa using h_) (seg:=[.int .i64 D,.int .i64 O,.int .i64 X]) (j:=0) bk η (show 3≤3 from by decide) (x':=(⟨D,O,X⟩:S56)) (Yg _ _ _ (⟨D,O,X⟩:S56)) (fun _ hk=>hk)
     have ab:= η 0 _ rfl
     (try simp only[show(k56).sz=3 from rfl,Nat.mul_one,Nat.add_zero] at ab)
     have cf:=a9 0
     (try simp only[show(k56).sz=3 from rfl,Nat.mul_one,Nat.add_zero] at cf)
     have am:= η 1 _ rfl
     (try simp only[show(k56).sz=3 from rfl,Nat.mul_one,Nat.add_zero] at am)
     have cg:=a9 1
     (try simp only[show(k56).sz=3 from rfl,Nat.mul_one,Nat.add_zero] at cg)
     have aw:= η 2 _ rfl
     (try simp only[show(k56).sz=3 from rfl,Nat.mul_one,Nat.add_zero] at aw)
     have ch:=a9 2
     (try simp only[show(k56).sz=3 from rfl,Nat.mul_one,Nat.add_zero] at ch)
     clear bk η a9 ce
     go_wp2_with (first|((with_reducible refine Kf (t:=56) (p:=23) rfl ?_);refine Jv (t:=56) (p:=23) (v:=?vo_w22) (w1:=(((b2.setCell ⟨ε,(Z:Int).toNat * 3,none⟩ (.int .i64 D)).setCell ⟨ε,(Z:Int).toNat * 3+1,none⟩ (.int .i64 O)).setCell ⟨ε,(Z:Int).toNat * 3+2,none⟩ (.int .i64 X))) ?hg ?ho ?hn ?hr ?_;(case ho=>rfl);(case hg=>rfl);(case hn=>rfl);(case hr=>go_simp <;> rfl);intro du hw;have hg:b2.grownBy du (some ε):=(by rw[hw];exact ba.2);have hp_:Kd.R k56 56 du w.heap.size (fun k_=>k_ ≠ κ) (.slice (some ⟨ε,0,none⟩) Y.length a2) ag:=(by rw[hw,al.out];exact ba.1);clear ba;replace L:=Aside0.mk (Zb (g:= ν) (o:=.cells #[.slice μ I.length ζ,.func (.func 51) #[] #[]] 69 (0,0)) L.out hg (Kd.X1 B.out L.out (by decide)));replace U:=Aside0.mk (Zb (g:= κ) (o:=.cells #[.int .i64 D,.int .i64 O,.int .i64 X] 56 (0,0)) U.out hg (Kd.Y4 B.out (fun _ hk=>hk)));replace B:=Aside0.mk hp_;replace HB:=Aside0.mk ((by rw[hw];exact Qc (Qc (Qc (HB.out) ah.out) ah.out) ah.out:Below w.heap.size w du));clear hg hw hp_))
     go_meet
     case rel=>exact⟨_,(ag),(D),(O),(X),H',⟨by first|omega|exact Nat.le_refl _⟩,⟨by(with_reducible repeat first|apply Kd.Qk|apply Kd.Qj|apply Kd.Qn);exact B.out⟩,L,U,HB⟩
    ·rw[if_neg au] at H
     exact absurd H (by simp)
   ·rw[if_neg a3] at H
    exact absurd H (by simp)
  ·replace a8:=Bool.eq_false_iff.mpr a8
   subst a8
   have H1:(api_Hall_set.j0 k Y)=some r:=by rw[if_neg (show ¬ (false=true) by decide)] at H;exact H
   clear H
   have H:=H1
   clear H1
   have H':=Aside0.mk H
   clear H
   go_wp2
   go_meet
   case rel=>exact⟨_,(Y),(D),(O),(X),H',⟨by first|omega|exact Nat.le_refl _⟩,⟨by(with_reducible repeat first|apply Kd.Qk|apply Kd.Qj|apply Kd.Qn);exact Kd.Qq B.out (fun _ hk=>hk.2)⟩,L,U,HB⟩
 case rest=>
  clear bo
  try clear c1
  try clear p1
  try clear q1
  try clear bl
  try clear c2
  try clear p2
  try clear ec
  try clear co
  try clear c4
  try clear c5
  try clear c6
  try clear c8
  try clear a8
  try clear a3
  try clear c16b0
  try clear au
  try clear c17b0
  try clear cd
  try clear an
  try clear ao
  try clear ck
  try clear cm
  try clear dx
  try clear cr
  try clear e3
  try clear cn
  try clear ac
  try clear af
  try clear ap
  try clear av
  try clear ax
  try clear b9
  try clear bb
  try clear bd
  try clear bc
  try clear bh
  try clear ai
  try clear aj
  try clear ar
  try clear ay
  try clear b0
  try clear be
  try clear bf
  try clear bz
  try clear bi
  try clear bj
  try clear ca
  try clear cb
  try clear cp
  try clear ab
  try clear am
  try clear aw
  try clear an
  try clear ao
  obtain⟨kq,b7,ι,ψ,ω,HA,cu,HO_5,L,U,HB⟩:=hcut
  have aa:=(Kd.Qo HO_5.out).1
  rw[aa] at HO_5
  (try simp only[aa])
  (try simp only[aa] at L)
  (try simp only[aa] at U)
  cases kq with
  |zero=>exact absurd HA.out (by simp[api_Hall_set.j0])
  |succ cv=>
   have H:=HA.out
   clear HA
   simp only[api_Hall_set.j0] at H
   obtain rfl:=Option.some.inj H
   go_wp2
   go_ret
   exact⟨_,rfl,by(with_reducible repeat first|apply Kd.Qk|apply Kd.Qj|apply Kd.Qn);exact Kd.Qq HO_5.out (fun _ hk=>trivial),HB.out⟩
end Go.Proofs.Ytjehhhlhalkieaa.C
namespace Go.Proofs.Ytjehhhlhalkieaa.C
open Go.RowKit Go.Proofs.YtjehhhlhalkieaaW.PrintWords Go.Proofs.YtjehhhlhalkieaaW.PrintLast Go.Proofs.YtjehhhlhalkieaaW.PrintMore
set_option linter.unusedVariables false
def hallP.f (J L X F C:Int):Option Bool:=some (Xp F C J L X)
def insP.f (J L F C:Int):Option Bool:=some (Y0 F C J L)
def woP_H.f (J L X:Int) (l:List S56):Option (List S56):=if small l.length L=true then some (woH J L X l) else none
def woP_I.f (J L:Int) (l:List S62):Option (List S62):=if small l.length L=true then some (woI J L l) else none
def Jn (x:S56) (l:List S56):List S56:=l.map (fun y=>if y.f0=x.f0∧y.f1=x.f1 then x else y)
def setP_H.f (J L X:Int) (l:List S56):Option (List S56):=if small l.length L=true∧Call.Zo (fun _=>true) Call.ltH none l=true then some (Jn ⟨J,L,X⟩ l) else none
theorem Ju (Y:Option Addr) (c:Nat) (l:List S56) (J L X:Int) (t:List S56) (W:World) (hr:Kd.C k56 W Y l.length l) (hc:l.length≤c) (h:woP_H.f J L X l=some t):
    Calls Try.prog 31 #[.agg #[.slice Y l.length c,.func (.func 51) #[] #[]],.agg #[.int .i64 J,.int .i64 L,.int .i64 X]] W fun e w'=>∃ a4:Value,e = .returned a4∧Kd.R k56 56 w' W.heap.size (fun _=>True) a4 t∧Below W.heap.size W w':=by
  unfold woP_H.f at h
  split at h
  case isFalse=>cases h
  case isTrue hs=>
  cases h
  obtain⟨hl,hb⟩:=of_decide_eq_true hs
  exact Vk Y c l J L X W hr hc hl hb
theorem Y5 (Y:Option Addr) (c:Nat) (l:List S62) (J L:Int) (t:List S62) (W:World) (hr:Kd.C k62 W Y l.length l) (hc:l.length≤c) (h:woP_I.f J L l=some t):
    Calls Try.prog 36 #[.agg #[.slice Y l.length c,.func (.func 57) #[] #[]],.agg #[.int .i64 J,.int .i64 L]] W fun e w'=>∃ a4:Value,e = .returned a4∧Kd.R k62 62 w' W.heap.size (fun _=>True) a4 t∧Below W.heap.size W w':=by
  unfold woP_I.f at h
  split at h
  case isFalse=>cases h
  case isTrue hs=>
  cases h
  obtain⟨hl,hb⟩:=of_decide_eq_true hs
  exact Vj Y c l J L W hr hc hl hb
theorem V3 (x:S56) (l:List S56):(Jn x l).length=l.length:=by unfold Jn;simp
theorem V4 (x:S56) (l:List S56) (m:Nat) (h:m<l.length) (O:m<(Jn x l).length):(Jn x l)[m]=if l[m].f0=x.f0∧l[m].f1=x.f1 then x else l[m]:=by
  simp only[Jn,List.getElem_map]
theorem Wo (l:List S56) (x:S56) (p:Nat) (hs:l.Pairwise (fun x y=>Call.ltH x y=true)) (hp:Call.G1 l x.f0 x.f1 p):
    Call.Kx l x.f0 x.f1 p=true→l.set p x=Jn x l:=by
  intro h
  unfold Call.Kx at h
  obtain⟨h1,O,D⟩:=hp
  rcases Nat.lt_or_ge p l.length with hlt|hge
  case inr=>rw[List.getElem?_eq_none hge] at h;simp at h
  rw[List.getElem?_eq_getElem hlt] at h
  have he:Z7 l[p].f0 l[p].f1 x.f0 x.f1=0:=by simpa using h
  rw[Call.Ym] at he
  apply List.ext_getElem
  · rw[V3];simp
  intro m B J
  rw[List.length_set] at B
  rw[List.getElem_set,V4 x l m B J]
  by_cases hm:p=m
  · subst hm
    rw[if_pos rfl,if_pos he]
  · rw[if_neg hm,if_neg]
    intro hq
    rcases Nat.lt_or_ge m p with U|L
    · have:=List.pairwise_iff_getElem.1 hs m p B hlt U
      rw[Call.Yu] at this
      omega
    · have:=List.pairwise_iff_getElem.1 hs p m hlt B (by omega)
      rw[Call.Yu] at this
      omega
theorem Ll (l:List S56) (x:S56) (p:Nat) (hs:l.Pairwise (fun x y=>Call.ltH x y=true)) (hp:Call.G1 l x.f0 x.f1 p):
    Call.Kx l x.f0 x.f1 p=false→l=Jn x l:=by
  intro h
  unfold Call.Kx at h
  obtain⟨h1,O,D⟩:=hp
  have key:∀ m:Nat,(hm:m<l.length) → ¬ (l[m].f0=x.f0∧l[m].f1=x.f1):=by
    intro m hm hq
    rw[← Call.Ym] at hq
    rcases Nat.lt_or_ge m p with hlt|hge
    · have:=O l[m] (List.mem_iff_getElem.2 ⟨m,by rw[List.length_take];omega,by rw[List.getElem_take]⟩)
      omega
    · rcases Nat.lt_or_ge p m with U|L
      · have X:=List.pairwise_iff_getElem.1 hs p m (by omega) hm U
        have I:=D l[p] (List.mem_iff_getElem.2 ⟨0,by rw[List.length_drop];omega,by rw[List.getElem_drop];simp⟩)
        rw[Call.Yu] at X
        rw[Call.Ym] at hq
        rw[Call.X3] at I
        omega
      · have hpm:p=m:=by omega
        subst hpm
        rw[List.getElem?_eq_getElem hm] at h
        simp[hq] at h
  apply List.ext_getElem
  · rw[V3]
  intro m B J
  rw[V4 x l m B J,if_neg (key m B)]
theorem Vl (Y:Option Addr) (c:Nat) (l:List S56) (J L X:Int) (t:List S56) (W:World) (hr:Kd.C k56 W Y l.length l) (hc:l.length≤c) (h:setP_H.f J L X l=some t):
    Calls Try.prog 47 #[.agg #[.slice Y l.length c,.func (.func 51) #[] #[]],.agg #[.int .i64 J,.int .i64 L,.int .i64 X]] W fun e w'=>∃ a4:Value,e = .returned a4∧Kd.R k56 56 w' W.heap.size (fun _=>True) a4 t∧Below W.heap.size W w':=by
  unfold setP_H.f at h
  split at h
  case isFalse=>cases h
  case isTrue hs=>
  cases h
  obtain⟨hl,hb⟩:=of_decide_eq_true hs.1
  have hso:=((Call.Y7 (fun _=>true) l).1 hs.2).2
  refine api_Hall_set.calls (l.length+2) Y c l 0 J L X _ W hr hc ?_
  unfold api_Hall_set.f api_Hall_55.f
  rw[if_pos hl]
  simp only[Option.bind_some]
  obtain⟨p,hp,e⟩:=Call.Gq l J L X 0 (by omega) hso (l.length+2) (by omega)
  obtain⟨b,hm⟩:∃ b,Call.Kx l J L p=b:=⟨_,rfl⟩
  rw[hm] at e
  rw[e]
  simp only[Option.bind_some]
  cases b
  · rw[if_neg (by decide)]
    simp only[api_Hall_set.j0]
    congr 1
    exact Ll l ⟨J,L,X⟩ p hso hp hm
  · have hlt:p<l.length:=by
      rcases Nat.lt_or_ge p l.length with h|h
      · exact h
      · unfold Call.Kx at hm;rw[List.getElem?_eq_none h] at hm;simp at hm
    rw[if_pos rfl,if_pos (by omega),if_pos (by omega)]
    simp only[api_Hall_set.j0,Int.toNat_natCast]
    congr 1
    exact Wo l ⟨J,L,X⟩ p hso hp hm
end Go.Proofs.Ytjehhhlhalkieaa.C
namespace Go.Proofs.Ytjehhhlhalkieaa.C
open Go.RowKit Go.Proofs.YtjehhhlhalkieaaW.PrintWords Go.Proofs.YtjehhhlhalkieaaW.PrintLast Go.Proofs.YtjehhhlhalkieaaW.PrintMore
attribute [local go_sem] Z2 Z0 Xb Xa Zq Zp Z1 Zz
set_option linter.unusedVariables false
set_option linter.unusedSimpArgs false
def call_Check.j0:Nat→Bool→Option (Int)
 |0,_=>none
 |k+1,I=>if I=true then (some 190) else (some 0)
def call_Check.f (k:Nat) (I:Int) (J:Int) (B:List (S56)) (D:List (S62)):Option (Int):=(call_within.f I 2 64).bind fun Y=>(if Y=true then ((call_within.f J 1 8).bind fun X=>(if X=true then ((rightP_H.f B D I J).bind fun O=>(if O=true then ((rightP_I.f B D I J).bind fun Z=>(call_Check.j0 k (!Z))) else (call_Check.j0 k true))) else (call_Check.j0 k true))) else (call_Check.j0 k true))
theorem call_Check.Zi:∀ k,(∀ D,LeO (call_Check.j0 k D) (call_Check.j0 (k+1) D))
 |0=>fun _ r h=>by simp[call_Check.j0] at h
 |k+1=>by
  have B:=call_Check.Zi k
  ·intro D
   unfold call_Check.j0
   repeat' first
   |(with_reducible exact B _)
   |(with_reducible exact LeO.refl _)
   |(with_reducible exact LeO.none _)
   |(with_reducible refine LeO.ite ?_ ?_)
   |(with_reducible refine LeO.bind ?_ (fun _=>?_))
   |exact B _
   |exact LeO.none _
   |refine LeO.ite ?_ ?_
   |refine LeO.bind ?_ (fun _=>?_)
theorem call_Check.mono:∀ I D a2 X k,LeO (call_Check.f k I D a2 X) (call_Check.f (k+1) I D a2 X):=by
 intro I D a2 X k
 have B:=call_Check.Zi k
 unfold call_Check.f
 repeat' first
   |(with_reducible exact B _)
   |(with_reducible exact LeO.refl _)
   |(with_reducible exact LeO.none _)
   |(with_reducible refine LeO.ite ?_ ?_)
   |(with_reducible refine LeO.bind ?_ (fun _=>?_))
   |exact B _
   |exact LeO.none _
   |refine LeO.ite ?_ ?_
   |refine LeO.bind ?_ (fun _=>?_)
def call_Check.T1:Bool×List (List Nat×List Nat):=(true,[([],[]),([0],[0]),([1],[1]),([2],[2]),([3,2],[3]),([4],[4]),([5,4],[4,5]),([6,4,4],[4,6]),([7,4],[4,7]),([4,8],[4,8]),([9,7],[9]),([10],[10]),([11,10,10],[10,11]),([10],[10]),([13,12,10],[10,13]),([12,14,14,10],[10,12,14]),([15,10],[10,15]),([10,16],[10,16]),([17,15],[17]),([18],[18]),([19,18,18],[18,19]),([18],[18]),([21,20,18],[18,21]),([20,22,22,18],[18,20,22]),([23,18],[18,23]),([18,24],[18,24])])
def call_Check.B1:List Nat:=[0,1,3,7,15,31,63,127,255,511,1023,2047,4095,2047,16383,32767,65535,131071,262143,524287,1048575,524287,4194303,8388607,16777215,33554431]
theorem call_Check.Gh:rtab .any (opsOf Try.f14 1)=call_Check.T1:=by kernel_rfl
theorem call_Check.Jt:Zr call_Check.T1.2 call_Check.B1=true:=by kernel_rfl
set_option maxHeartbeats 8000000 in
set_option maxRecDepth 100000 in
theorem call_Check.calls (k:Nat) (I:Int) (J:Int) (η :Option Addr) (δ :Nat) (B:List (S56)) (θ :Option Addr) (ε :Nat) (D:List (S62)) (r:Int) (w:World) (b4:Kd.C k56 w η B.length B) (b5:B.length ≤ δ) (b6:Kd.C k62 w θ D.length D) (b7:D.length ≤ ε) (h:call_Check.f k I J B D=some r):
  Calls Try.prog 14 #[.agg #[.int .i64 I,.int .i64 J],.agg #[.slice η B.length δ,.slice θ D.length ε]] w fun e w'=>e = .returned (.int .i64 r)∧Below w.heap.size w w':=by
 have dn:=Try.underlying23
 have d4:=Try.underlying27
 have ag:=Aside0.mk b4
 have ar:=Aside0.mk b5
 clear b4 b5
 have ah:=Aside0.mk b6
 have aw:=Aside0.mk b7
 clear b6 b7
 have HB:=Aside0.mk (Below.refl w.heap.size w)
 have H:((call_within.f I 2 64).bind fun Y=>(if Y=true then ((call_within.f J 1 8).bind fun X=>(if X=true then ((rightP_H.f B D I J).bind fun O=>(if O=true then ((rightP_I.f B D I J).bind fun Z=>(call_Check.j0 k (!Z))) else (call_Check.j0 k true))) else (call_Check.j0 k true))) else (call_Check.j0 k true)))=some r:=h
 clear h
 have ae:=Aside0.mk H
 clear H
 go_enter Try.func14,Try.ntmps14
 go_upto_region 1 with(first|((with_reducible refine Qr (N:=2) rfl ?_);refine qE 2 #[.int .i64 I,.int .i64 J] 23 ?_;intro ν hg w4 hbox hb;have L:=Aside0.mk hbox;have bg:=sGe hg;have b1:=sGe hg;replace HB:=sHb hb;clear hb hbox hg)|((with_reducible refine Qr (N:=3) rfl ?_);refine qE 3 #[.slice η B.length δ,.slice θ D.length ε] 27 ?_;intro κ hg w5 hbox hb;have U:=Aside0.mk hbox;have bp:=sGe hg;have bs:=sGe hg;have ξ :=sNl L hg;have a1:=sNg L hg;replace L:=sBk L hb;replace HB:=sHb hb;clear hb hbox hg))
 (try simp only[Act.put,qS])
 go_cut [30] (fun σ wc=>∃ (kq:Nat) (γ:Bool),σ = .bool γ∧Aside0 (call_Check.j0 kq γ=some r)∧Aside0 (kq≤k)∧Aside0 (wc.heap[ν]?=some (.cells #[.int .i64 I,.int .i64 J] 23 (0,0)))∧Aside0 (wc.heap[κ]?=some (.cells #[(.slice η B.length δ),(.slice θ D.length ε)] 27 (0,0)))∧Aside0 (Below w.heap.size w wc))
 case first=>
  have H:=ae.out
  clear ae
  replace H:=Option.bind_eq_some_iff.mp H
  obtain⟨Y,d0,H⟩:=H
  replace H:(if Y=true then ((call_within.f J 1 8).bind fun X=>(if X=true then ((rightP_H.f B D I J).bind fun O=>(if O=true then ((rightP_I.f B D I J).bind fun Z=>(call_Check.j0 k (!Z))) else (call_Check.j0 k true))) else (call_Check.j0 k true))) else (call_Check.j0 k true))=some r:=H
  have A6:=Aside0.mk d0
  clear d0
  by_cases c7:Y=true
  ·subst c7
   have H1:((call_within.f J 1 8).bind fun X=>(if X=true then ((rightP_H.f B D I J).bind fun O=>(if O=true then ((rightP_I.f B D I J).bind fun Z=>(call_Check.j0 k (!Z))) else (call_Check.j0 k true))) else (call_Check.j0 k true)))=some r:=by rw[if_pos rfl] at H;exact H
   clear H
   have H:=H1
   clear H1
   replace H:=Option.bind_eq_some_iff.mp H
   obtain⟨X,dr,H⟩:=H
   replace H:(if X=true then ((rightP_H.f B D I J).bind fun O=>(if O=true then ((rightP_I.f B D I J).bind fun Z=>(call_Check.j0 k (!Z))) else (call_Check.j0 k true))) else (call_Check.j0 k true))=some r:=H
   have A8:=Aside0.mk dr
   clear dr
   by_cases c9:X=true
   ·subst c9
    have H1:((rightP_H.f B D I J).bind fun O=>(if O=true then ((rightP_I.f B D I J).bind fun Z=>(call_Check.j0 k (!Z))) else (call_Check.j0 k true)))=some r:=by rw[if_pos rfl] at H;exact H
    clear H
    have H:=H1
    clear H1
    replace H:=Option.bind_eq_some_iff.mp H
    obtain⟨O,ep,H⟩:=H
    replace H:(if O=true then ((rightP_I.f B D I J).bind fun Z=>(call_Check.j0 k (!Z))) else (call_Check.j0 k true))=some r:=H
    have eh:=Aside0.mk ep
    clear ep
    by_cases cb:O=true
    ·subst cb
     have H1:((rightP_I.f B D I J).bind fun Z=>(call_Check.j0 k (!Z)))=some r:=by rw[if_pos rfl] at H;exact H
     clear H
     have H:=H1
     clear H1
     replace H:=Option.bind_eq_some_iff.mp H
     obtain⟨Z,ce,H⟩:=H
     replace H:(call_Check.j0 k (!Z))=some r:=H
     have ct:=Aside0.mk ce
     clear ce
     have H':=Aside0.mk H
     clear H
     try go_wp2
     replace L:=Aside0.mk (Qa L.out)
     replace U:=Aside0.mk (Qa U.out)
     replace HB:=Aside0.mk (Qf HB.out)
     refine Zn (n:=26) (S:=fun w'=>w'.cell? ⟨ν,0,none⟩=some (.int .i64 I)∧w'.cell? ⟨ν,1,none⟩=some (.int .i64 J)∧w'.cell? ⟨κ,0,none⟩=some (.slice η B.length δ)∧w'.cell? ⟨κ,1,none⟩=some (.slice θ D.length ε)) (ds:=[]) #[false,false,false,false,false,false,false,false,false,false,false,false,false,false,false,false,false,false,false,false,false,false,false,false,false,false] kr rfl rfl ⟨(Ql L.out 0).trans rfl,(Ql L.out 1).trans rfl,(Ql U.out 0).trans rfl,(Ql U.out 1).trans rfl⟩ (fun hHeld=>?_);refine Q8 call_Check.Gh call_Check.Jt (fun HT_ HW_=>?_)
     generalize w5.drew=ed at L U HB hHeld ⊢
     refine qP 0 (some 5) (bN 26 1) HT_ ?_
     refine qT 1 (some 6) (bN 26 3) HT_ HW_ hHeld ?_
     refine Zg (i:=2) (N:=some 7) (bN 26 7) rfl rfl (Q1 HT_.out kr) (by decide) (fun K hK=>?_)
     refine Ze Try.func41 kr rfl #[.int .i64 I,.int .i64 2,.int .i64 64] (by rfl) rfl rfl qM ?_
     with_reducible refine(call_within.calls I 2 64 true _ A6.out).mono ?_
     rintro e w' ⟨rfl,⟨nd,rfl⟩⟩
     refine⟨_,rfl, ?_⟩
     refine hK.out _ _ ⟨qc L,qc L,qc U,qc U⟩ (fun hHeld=>?_)
     clear hK K
     refine qN (some 7) ?_
     refine qP 3 (some 8) (bN 26 15) HT_ ?_
     refine qP 4 (some 9) (bN 26 31) HT_ ?_
     refine qP 5 (some 10) (bN 26 63) HT_ ?_
     refine qT 6 (some 11) (bN 26 127) HT_ HW_ hHeld ?_
     refine Zg (i:=7) (N:=some 12) (bN 26 255) rfl rfl (Q1 HT_.out kr) (by decide) (fun K hK=>?_)
     refine Ze Try.func41 kr rfl #[.int .i64 J,.int .i64 1,.int .i64 8] (by rfl) rfl rfl qM ?_
     with_reducible refine(call_within.calls J 1 8 true _ A8.out).mono ?_
     rintro e w' ⟨rfl,⟨nd,rfl⟩⟩
     refine⟨_,rfl, ?_⟩
     refine hK.out _ _ ⟨qc L,qc L,qc U,qc U⟩ (fun hHeld=>?_)
     clear hK K
     refine qN (some 12) ?_
     refine qP 8 (some 13) (bN 26 511) HT_ ?_
     refine qP 9 (some 14) (bN 26 1023) HT_ ?_
     refine qP 10 (some 15) (bN 26 2047) HT_ ?_
     refine qT 11 (some 16) (bN 26 4095) HT_ HW_ hHeld ?_
     refine qT 13 (some 18) (bN 26 12287) HT_ HW_ hHeld ?_
     refine Zg (i:=12) (N:=some 17) (bN 26 16383) rfl rfl (Q1 HT_.out kr) (by decide) (fun K hK=>?_)
     refine Ze Try.func30 kr rfl #[.agg #[.slice η B.length δ,.slice θ D.length ε]] (by rfl) rfl rfl qM ?_
     refine(Yb η θ B.length D.length δ ε _).mono ?_
     rintro e ea ⟨rfl,hb⟩
     refine⟨_,rfl, ?_⟩
     replace L:=sBk L hb
     replace U:=sBk U hb
     replace HB:=sHb hb
     (try clear hb)
     (try clear a0)
     (try clear hk)
     (try clear hi)
     refine hK.out _ _ ⟨qc L,qc L,qc U,qc U⟩ (fun hHeld=>?_)
     clear hK K
     refine qN (some 17) ?_
     refine Zg (i:=14) (N:=some 19) (bN 26 32767) rfl rfl (Q1 HT_.out kr) (by decide) (fun K hK=>?_)
     refine Ze Try.func34 kr rfl #[.agg #[.int .i64 I,.int .i64 J]] (by rfl) rfl rfl qM ?_
     refine(Ja I J _).mono ?_
     rintro e eb ⟨ζ,rfl,hgp,hgw,hb⟩
     have μ :=Aside0.mk hgp
     clear hgp hgw
     refine⟨_,rfl, ?_⟩
     replace L:=sBk L hb
     replace U:=sBk U hb
     replace HB:=sHb hb
     (try clear hb)
     (try clear a0)
     (try clear hk)
     (try clear hi)
     refine hK.out _ _ ⟨qc L,qc L,qc U,qc U⟩ (fun hHeld=>?_)
     clear hK K
     refine qN (some 19) ?_
     refine Zg (i:=15) (N:=some 20) (bN 26 65535) rfl rfl (Q1 HT_.out kr) (by decide) (fun K hK=>?_)
     refine Ze Try.func42 kr rfl #[.agg #[.slice η B.length δ,.func (.func 51) #[] #[]],.func (.func 61) #[] #[.pointer (some ⟨ζ,0,none⟩)]] (by rfl) rfl rfl qM ?_
     with_reducible refine(rightP_H.calls η δ B θ ε D I J true _ ?side1 ?side2 ?side3 ?side4 eh.out ζ μ.out).mono ?_
     (case side1=>exact(Kd.Qx ag.out HB.out))
     (case side2=>exact ar.out)
     (case side3=>exact(Kd.Qx ah.out HB.out))
     (case side4=>exact aw.out)
     rintro e b2 ⟨rfl,hb⟩
     refine⟨_,rfl, ?_⟩
     replace L:=sBk L hb
     replace U:=sBk U hb
     replace HB:=sHb hb
     (try clear hb)
     (try clear a0)
     (try clear hk)
     (try clear hi)
     refine hK.out _ _ ⟨qc L,qc L,qc U,qc U⟩ (fun hHeld=>?_)
     clear hK K
     refine qN (some 20) ?_
     refine qP 16 (some 21) (bN 26 131071) HT_ ?_
     refine qP 17 (some 22) (bN 26 262143) HT_ ?_
     refine qP 18 (some 23) (bN 26 524287) HT_ ?_
     refine qT 19 (some 24) (bN 26 1048575) HT_ HW_ hHeld ?_
     refine qT 21 (some 26) (bN 26 3145727) HT_ HW_ hHeld ?_
     refine Zg (i:=20) (N:=some 25) (bN 26 4194303) rfl rfl (Q1 HT_.out kr) (by decide) (fun K hK=>?_)
     refine Ze Try.func32 kr rfl #[.agg #[.slice η B.length δ,.slice θ D.length ε]] (by rfl) rfl rfl qM ?_
     refine(Yi η θ B.length D.length δ ε _).mono ?_
     rintro e ec ⟨rfl,hb⟩
     refine⟨_,rfl, ?_⟩
     replace L:=sBk L hb
     replace U:=sBk U hb
     replace HB:=sHb hb
     (try clear hb)
     (try clear a0)
     (try clear hk)
     (try clear hi)
     refine hK.out _ _ ⟨qc L,qc L,qc U,qc U⟩ (fun hHeld=>?_)
     clear hK K
     refine qN (some 25) ?_
     refine Zg (i:=22) (N:=some 27) (bN 26 8388607) rfl rfl (Q1 HT_.out kr) (by decide) (fun K hK=>?_)
     refine Ze Try.func29 kr rfl #[.agg #[.int .i64 I,.int .i64 J]] (by rfl) rfl rfl qM ?_
     refine(Y9 I J _).mono ?_
     rintro e fv ⟨bb,rfl,hgp,hgw,hb⟩
     have bn:=Aside0.mk hgp
     clear hgp hgw
     refine⟨_,rfl, ?_⟩
     replace L:=sBk L hb
     replace U:=sBk U hb
     replace HB:=sHb hb
     (try clear hb)
     (try clear a0)
     (try clear hk)
     (try clear hi)
     refine hK.out _ _ ⟨qc L,qc L,qc U,qc U⟩ (fun hHeld=>?_)
     clear hK K
     refine qN (some 27) ?_
     refine Zg (i:=23) (N:=some 28) (bN 26 16777215) rfl rfl (Q1 HT_.out kr) (by decide) (fun K hK=>?_)
     refine Ze Try.func43 kr rfl #[.agg #[.slice θ D.length ε,.func (.func 57) #[] #[]],.func (.func 50) #[] #[.pointer (some ⟨bb,0,none⟩)]] (by rfl) rfl rfl qM ?_
     with_reducible refine(rightP_I.calls η δ B θ ε D I J Z _ ?side1 ?side2 ?side3 ?side4 ct.out bb bn.out).mono ?_
     (case side1=>exact(Kd.Qx ag.out HB.out))
     (case side2=>exact ar.out)
     (case side3=>exact(Kd.Qx ah.out HB.out))
     (case side4=>exact aw.out)
     rintro e cr ⟨rfl,hb⟩
     refine⟨_,rfl, ?_⟩
     replace L:=sBk L hb
     replace U:=sBk U hb
     replace HB:=sHb hb
     (try clear hb)
     (try clear a0)
     (try clear hk)
     (try clear hi)
     refine hK.out _ _ ⟨qc L,qc L,qc U,qc U⟩ (fun hHeld=>?_)
     clear hK K
     refine qN (some 28) ?_
     refine qP 24 (some 29) (bN 26 33554431) HT_ ?_
     refine qP 25 (some 30) (bN 26 67108863) HT_ ?_
     refine Zu (Zj HT_.out kr) ?_
     try go_wp2
     go_meet
     case rel=>exact⟨_,(!Z),rfl,H',⟨by first|omega|exact Nat.le_refl _⟩,L,U,HB⟩
    ·replace cb:=Bool.eq_false_iff.mpr cb
     subst cb
     have H1:(call_Check.j0 k true)=some r:=by rw[if_neg (show ¬ (false=true) by decide)] at H;exact H
     clear H
     have H:=H1
     clear H1
     have H':=Aside0.mk H
     clear H
     try go_wp2
     replace L:=Aside0.mk (Qa L.out)
     replace U:=Aside0.mk (Qa U.out)
     replace HB:=Aside0.mk (Qf HB.out)
     refine Zn (n:=26) (S:=fun w'=>w'.cell? ⟨ν,0,none⟩=some (.int .i64 I)∧w'.cell? ⟨ν,1,none⟩=some (.int .i64 J)∧w'.cell? ⟨κ,0,none⟩=some (.slice η B.length δ)∧w'.cell? ⟨κ,1,none⟩=some (.slice θ D.length ε)) (ds:=[]) #[false,false,false,false,false,false,false,false,false,false,false,false,false,false,false,false,false,false,false,false,false,false,false,false,false,false] kr rfl rfl ⟨(Ql L.out 0).trans rfl,(Ql L.out 1).trans rfl,(Ql U.out 0).trans rfl,(Ql U.out 1).trans rfl⟩ (fun hHeld=>?_);refine Q8 call_Check.Gh call_Check.Jt (fun HT_ HW_=>?_)
     generalize w5.drew=af at L U HB hHeld ⊢
     refine qP 0 (some 5) (bN 26 1) HT_ ?_
     refine qT 1 (some 6) (bN 26 3) HT_ HW_ hHeld ?_
     refine Zg (i:=2) (N:=some 7) (bN 26 7) rfl rfl (Q1 HT_.out kr) (by decide) (fun K hK=>?_)
     refine Ze Try.func41 kr rfl #[.int .i64 I,.int .i64 2,.int .i64 64] (by rfl) rfl rfl qM ?_
     with_reducible refine(call_within.calls I 2 64 true _ A6.out).mono ?_
     rintro e w' ⟨rfl,⟨nd,rfl⟩⟩
     refine⟨_,rfl, ?_⟩
     refine hK.out _ _ ⟨qc L,qc L,qc U,qc U⟩ (fun hHeld=>?_)
     clear hK K
     refine qN (some 7) ?_
     refine qP 3 (some 8) (bN 26 15) HT_ ?_
     refine qP 4 (some 9) (bN 26 31) HT_ ?_
     refine qP 5 (some 10) (bN 26 63) HT_ ?_
     refine qT 6 (some 11) (bN 26 127) HT_ HW_ hHeld ?_
     refine Zg (i:=7) (N:=some 12) (bN 26 255) rfl rfl (Q1 HT_.out kr) (by decide) (fun K hK=>?_)
     refine Ze Try.func41 kr rfl #[.int .i64 J,.int .i64 1,.int .i64 8] (by rfl) rfl rfl qM ?_
     with_reducible refine(call_within.calls J 1 8 true _ A8.out).mono ?_
     rintro e w' ⟨rfl,⟨nd,rfl⟩⟩
     refine⟨_,rfl, ?_⟩
     refine hK.out _ _ ⟨qc L,qc L,qc U,qc U⟩ (fun hHeld=>?_)
     clear hK K
     refine qN (some 12) ?_
     refine qP 8 (some 13) (bN 26 511) HT_ ?_
     refine qP 9 (some 14) (bN 26 1023) HT_ ?_
     refine qP 10 (some 15) (bN 26 2047) HT_ ?_
     refine qT 11 (some 16) (bN 26 4095) HT_ HW_ hHeld ?_
     refine qT 13 (some 18) (bN 26 12287) HT_ HW_ hHeld ?_
     refine Zg (i:=12) (N:=some 17) (bN 26 16383) rfl rfl (Q1 HT_.out kr) (by decide) (fun K hK=>?_)
     refine Ze Try.func30 kr rfl #[.agg #[.slice η B.length δ,.slice θ D.length ε]] (by rfl) rfl rfl qM ?_
     refine(Yb η θ B.length D.length δ ε _).mono ?_
     rintro e fw ⟨rfl,hb⟩
     refine⟨_,rfl, ?_⟩
     replace L:=sBk L hb
     replace U:=sBk U hb
     replace HB:=sHb hb
     (try clear hb)
     (try clear a0)
     (try clear hk)
     (try clear hi)
     refine hK.out _ _ ⟨qc L,qc L,qc U,qc U⟩ (fun hHeld=>?_)
     clear hK K
     refine qN (some 17) ?_
     refine Zg (i:=14) (N:=some 19) (bN 26 32767) rfl rfl (Q1 HT_.out kr) (by decide) (fun K hK=>?_)
     refine Ze Try.func34 kr rfl #[.agg #[.int .i64 I,.int .i64 J]] (by rfl) rfl rfl qM ?_
     refine(Ja I J _).mono ?_
     rintro e fx ⟨ι,rfl,hgp,hgw,hb⟩
     have ρ:=Aside0.mk hgp
     clear hgp hgw
     refine⟨_,rfl, ?_⟩
     replace L:=sBk L hb
     replace U:=sBk U hb
     replace HB:=sHb hb
     (try clear hb)
     (try clear a0)
     (try clear hk)
     (try clear hi)
     refine hK.out _ _ ⟨qc L,qc L,qc U,qc U⟩ (fun hHeld=>?_)
     clear hK K
     refine qN (some 19) ?_
     refine Zg (i:=15) (N:=some 20) (bN 26 65535) rfl rfl (Q1 HT_.out kr) (by decide) (fun K hK=>?_)
     refine Ze Try.func42 kr rfl #[.agg #[.slice η B.length δ,.func (.func 51) #[] #[]],.func (.func 61) #[] #[.pointer (some ⟨ι,0,none⟩)]] (by rfl) rfl rfl qM ?_
     with_reducible refine(rightP_H.calls η δ B θ ε D I J false _ ?side1 ?side2 ?side3 ?side4 eh.out ι ρ.out).mono ?_
     (case side1=>exact(Kd.Qx ag.out HB.out))
     (case side2=>exact ar.out)
     (case side3=>exact(Kd.Qx ah.out HB.out))
     (case side4=>exact aw.out)
     rintro e gb ⟨rfl,hb⟩
     refine⟨_,rfl, ?_⟩
     replace L:=sBk L hb
     replace U:=sBk U hb
     replace HB:=sHb hb
     (try clear hb)
     (try clear a0)
     (try clear hk)
     (try clear hi)
     refine hK.out _ _ ⟨qc L,qc L,qc U,qc U⟩ (fun hHeld=>?_)
     clear hK K
     refine qN (some 20) ?_
     refine qP 16 (some 21) (bN 26 131071) HT_ ?_
     refine qP 17 (some 22) (bN 26 262143) HT_ ?_
     refine qP 18 (some 23) (bN 26 524287) HT_ ?_
     refine qU 19 (some 24) (bN 26 1048575) HT_ ?_
     refine qU 20 (some 25) (bN 26 2097151) HT_ ?_
     refine qU 21 (some 26) (bN 26 4194303) HT_ ?_
     refine qU 22 (some 27) (bN 26 8388607) HT_ ?_
     refine qU 23 (some 28) (bN 26 16777215) HT_ ?_
     refine qU 24 (some 29) (bN 26 33554431) HT_ ?_
     refine qP 25 (some 30) (bN 26 67108863) HT_ ?_
     refine Zu (Zj HT_.out kr) ?_
     try go_wp2
     go_meet
     case rel=>exact⟨_,(true),rfl,H',⟨by first|omega|exact Nat.le_refl _⟩,L,U,HB⟩
   ·replace c9:=Bool.eq_false_iff.mpr c9
    subst c9
    have H1:(call_Check.j0 k true)=some r:=by rw[if_neg (show ¬ (false=true) by decide)] at H;exact H
    clear H
    have H:=H1
    clear H1
    have H':=Aside0.mk H
    clear H
    try go_wp2
    replace L:=Aside0.mk (Qa L.out)
    replace U:=Aside0.mk (Qa U.out)
    replace HB:=Aside0.mk (Qf HB.out)
    refine Zn (n:=26) (S:=fun w'=>w'.cell? ⟨ν,0,none⟩=some (.int .i64 I)∧w'.cell? ⟨ν,1,none⟩=some (.int .i64 J)) (ds:=[]) #[false,false,false,false,false,false,false,false,false,false,false,false,false,false,false,false,false,false,false,false,false,false,false,false,false,false] kr rfl rfl ⟨(Ql L.out 0).trans rfl,(Ql L.out 1).trans rfl⟩ (fun hHeld=>?_);refine Q8 call_Check.Gh call_Check.Jt (fun HT_ HW_=>?_)
    generalize w5.drew=m9 at L U HB hHeld ⊢
    refine qP 0 (some 5) (bN 26 1) HT_ ?_
    refine qT 1 (some 6) (bN 26 3) HT_ HW_ hHeld ?_
    refine Zg (i:=2) (N:=some 7) (bN 26 7) rfl rfl (Q1 HT_.out kr) (by decide) (fun K hK=>?_)
    refine Ze Try.func41 kr rfl #[.int .i64 I,.int .i64 2,.int .i64 64] (by rfl) rfl rfl qM ?_
    with_reducible refine(call_within.calls I 2 64 true _ A6.out).mono ?_
    rintro e w' ⟨rfl,⟨nd,rfl⟩⟩
    refine⟨_,rfl, ?_⟩
    refine hK.out _ _ ⟨qc L,qc L⟩ (fun hHeld=>?_)
    clear hK K
    refine qN (some 7) ?_
    refine qP 3 (some 8) (bN 26 15) HT_ ?_
    refine qP 4 (some 9) (bN 26 31) HT_ ?_
    refine qP 5 (some 10) (bN 26 63) HT_ ?_
    refine qT 6 (some 11) (bN 26 127) HT_ HW_ hHeld ?_
    refine Zg (i:=7) (N:=some 12) (bN 26 255) rfl rfl (Q1 HT_.out kr) (by decide) (fun K hK=>?_)
    refine Ze Try.func41 kr rfl #[.int .i64 J,.int .i64 1,.int .i64 8] (by rfl) rfl rfl qM ?_
    with_reducible refine(call_within.calls J 1 8 false _ A8.out).mono ?_
    rintro e w' ⟨rfl,⟨nd,rfl⟩⟩
    refine⟨_,rfl, ?_⟩
    refine hK.out _ _ ⟨qc L,qc L⟩ (fun hHeld=>?_)
    clear hK K
    refine qN (some 12) ?_
    refine qP 8 (some 13) (bN 26 511) HT_ ?_
    refine qP 9 (some 14) (bN 26 1023) HT_ ?_
    refine qP 10 (some 15) (bN 26 2047) HT_ ?_
    refine qU 11 (some 16) (bN 26 4095) HT_ ?_
    refine qU 12 (some 17) (bN 26 8191) HT_ ?_
    refine qU 13 (some 18) (bN 26 16383) HT_ ?_
    refine qU 14 (some 19) (bN 26 32767) HT_ ?_
    refine qU 15 (some 20) (bN 26 65535) HT_ ?_
    refine qU 16 (some 21) (bN 26 131071) HT_ ?_
    refine qP 17 (some 22) (bN 26 262143) HT_ ?_
    refine qP 18 (some 23) (bN 26 524287) HT_ ?_
    refine qU 19 (some 24) (bN 26 1048575) HT_ ?_
    refine qU 20 (some 25) (bN 26 2097151) HT_ ?_
    refine qU 21 (some 26) (bN 26 4194303) HT_ ?_
    refine qU 22 (some 27) (bN 26 8388607) HT_ ?_
    refine qU 23 (some 28) (bN 26 16777215) HT_ ?_
    refine qU 24 (some 29) (bN 26 33554431) HT_ ?_
    refine qP 25 (some 30) (bN 26 67108863) HT_ ?_
    refine Zu (Zj HT_.out kr) ?_
    try go_wp2
    go_meet
    case rel=>exact⟨_,(true),qR,H',⟨by first|omega|exact Nat.le_refl _⟩,⟨bka L⟩,⟨bka U⟩,⟨bel⟩⟩
  ·replace c7:=Bool.eq_false_iff.mpr c7
   subst c7
   have H1:(call_Check.j0 k true)=some r:=by rw[if_neg (show ¬ (false=true) by decide)] at H;exact H
   clear H
   have H:=H1
   clear H1
   have H':=Aside0.mk H
   clear H
   try go_wp2
   replace L:=Aside0.mk (Qa L.out)
   replace U:=Aside0.mk (Qa U.out)
   replace HB:=Aside0.mk (Qf HB.out)
   refine Zn (n:=26) (S:=fun w'=>w'.cell? ⟨ν,0,none⟩=some (.int .i64 I)∧w'.cell? ⟨ν,1,none⟩=some (.int .i64 J)) (ds:=[]) #[false,false,false,false,false,false,false,false,false,false,false,false,false,false,false,false,false,false,false,false,false,false,false,false,false,false] kr rfl rfl ⟨(Ql L.out 0).trans rfl,(Ql L.out 1).trans rfl⟩ (fun hHeld=>?_);refine Q8 call_Check.Gh call_Check.Jt (fun HT_ HW_=>?_)
   generalize w5.drew=eg at L U HB hHeld ⊢
   refine qP 0 (some 5) (bN 26 1) HT_ ?_
   refine qT 1 (some 6) (bN 26 3) HT_ HW_ hHeld ?_
   refine Zg (i:=2) (N:=some 7) (bN 26 7) rfl rfl (Q1 HT_.out kr) (by decide) (fun K hK=>?_)
   refine Ze Try.func41 kr rfl #[.int .i64 I,.int .i64 2,.int .i64 64] (by rfl) rfl rfl qM ?_
   with_reducible refine(call_within.calls I 2 64 false _ A6.out).mono ?_
   rintro e w' ⟨rfl,⟨nd,rfl⟩⟩
   refine⟨_,rfl, ?_⟩
   refine hK.out _ _ ⟨qc L,qc L⟩ (fun hHeld=>?_)
   clear hK K
   refine qN (some 7) ?_
   refine qP 3 (some 8) (bN 26 15) HT_ ?_
   refine qP 4 (some 9) (bN 26 31) HT_ ?_
   refine qU 5 (some 10) (bN 26 63) HT_ ?_
   refine qU 6 (some 11) (bN 26 127) HT_ ?_
   refine qU 7 (some 12) (bN 26 255) HT_ ?_
   refine qU 8 (some 13) (bN 26 511) HT_ ?_
   refine qP 9 (some 14) (bN 26 1023) HT_ ?_
   refine qP 10 (some 15) (bN 26 2047) HT_ ?_
   refine qU 11 (some 16) (bN 26 4095) HT_ ?_
   refine qU 12 (some 17) (bN 26 8191) HT_ ?_
   refine qU 13 (some 18) (bN 26 16383) HT_ ?_
   refine qU 14 (some 19) (bN 26 32767) HT_ ?_
   refine qU 15 (some 20) (bN 26 65535) HT_ ?_
   refine qU 16 (some 21) (bN 26 131071) HT_ ?_
   refine qP 17 (some 22) (bN 26 262143) HT_ ?_
   refine qP 18 (some 23) (bN 26 524287) HT_ ?_
   refine qU 19 (some 24) (bN 26 1048575) HT_ ?_
   refine qU 20 (some 25) (bN 26 2097151) HT_ ?_
   refine qU 21 (some 26) (bN 26 4194303) HT_ ?_
   refine qU 22 (some 27) (bN 26 8388607) HT_ ?_
   refine qU 23 (some 28) (bN 26 16777215) HT_ ?_
   refine qU 24 (some 29) (bN 26 33554431) HT_ ?_
   refine qP 25 (some 30) (bN 26 67108863) HT_ ?_
   refine Zu (Zj HT_.out kr) ?_
   try go_wp2
   go_meet
   case rel=>exact⟨_,(true),qR,H',⟨by first|omega|exact Nat.le_refl _⟩,⟨bka L⟩,⟨bka U⟩,⟨bel⟩⟩
 case rest=>
  clear ae
  try clear c1
  try clear p2
  try clear c4
  try clear c7
  try clear c9
  obtain⟨kq,γ,rfl,HA,cx,L,U,HB⟩:=hcut
  cases kq with
  |zero=>exact absurd HA.out (by simp[call_Check.j0])
  |succ d5=>
   have H:=HA.out
   clear HA
   simp only[call_Check.j0] at H
   by_cases cd:γ=true
   ·subst cd
    have H1:(some 190)=some r:=by rw[if_pos rfl] at H;exact H
    clear H
    have H:=H1
    clear H1
    obtain rfl:=Option.some.inj H
    go_wp2
    go_ret
    exact⟨rfl,HB.out⟩
   ·replace cd:=Bool.eq_false_iff.mpr cd
    subst cd
    have H1:(some 0)=some r:=by rw[if_neg (show ¬ (false=true) by decide)] at H;exact H
    clear H
    have H:=H1
    clear H1
    obtain rfl:=Option.some.inj H
    go_wp2
    go_ret
    exact⟨rfl,HB.out⟩
def call_change.f (U_:Option (List S56)) (I_:Option (List S62)) (k:Nat) (I:Int) (J:Int) (B:List (S56)) (D:List (S62)) (a2:Bool) (X:Int) (av:Int) (ax:Int) (ay:Int) (a5:Int) (az:Int) (b0:Int):Option ((List (S56))×(List (S62))×Int):=(call_Check.f k I J B D).bind fun Z=>(if Z=0 then (if a2=true then ((U_).bind fun σ=>((I_).bind fun χ =>(some (σ,χ,0)))) else (some (([]:List (S56)),([]:List (S62)),191))) else (some (([]:List (S56)),([]:List (S62)),Z)))
theorem call_change.mono:∀ U_ I_ I D a2 X J a5 L U Y Z B O k,LeO (call_change.f U_ I_ k I D a2 X J a5 L U Y Z B O) (call_change.f U_ I_ (k+1) I D a2 X J a5 L U Y Z B O):=by
 intro U_ I_ I D a2 X J a5 L U Y Z B O k
 unfold call_change.f
 repeat' first
   |(with_reducible exact call_Check.mono _ _ _ _ _)
   |(with_reducible exact LeO.refl _)
   |(with_reducible exact LeO.none _)
   |(with_reducible refine LeO.ite ?_ ?_)
   |(with_reducible refine LeO.bind ?_ (fun _=>?_))
   |exact call_Check.mono _ _ _ _ _
   |exact LeO.none _
   |refine LeO.ite ?_ ?_
   |refine LeO.bind ?_ (fun _=>?_)
def call_change.T6:Bool×List (List Nat×List Nat):=(true,[([],[]),([],[]),([0,1],[0,1]),([],[]),([],[]),([3,4,2],[3,4]),([2,5],[2,5]),([6,5,0,1,2,3,4,5,6],[6]),([7,0,1,2,3,4,5,6,7],[])])
def call_change.B6:List Nat:=[0,0,3,0,0,31,63,127,255]
theorem call_change.tab6:rtab .any (opsOf Try.f28 6)=call_change.T6:=by kernel_rfl
theorem call_change.bits6:Zr call_change.T6.2 call_change.B6=true:=by kernel_rfl
set_option maxHeartbeats 8000000 in
set_option maxRecDepth 100000 in
theorem call_change.calls (U_:Option (List S56)) (I_:Option (List S62)) (k:Nat) (I:Int) (J:Int) (η :Option Addr) (δ :Nat) (B:List (S56)) (θ :Option Addr) (ε :Nat) (D:List (S62)) (a2:Bool) (X:Int) (av:Int) (ax:Int) (ay:Int) (a5:Int) (az:Int) (b0:Int) (r1:List (S56)) (r2:List (S62)) (r3:Int) (w:World) (b4:Kd.C k56 w η B.length B) (b5:B.length ≤ δ) (b6:Kd.C k62 w θ D.length D) (b7:D.length ≤ ε) (h:call_change.f U_ I_ k I J B D a2 X av ax ay a5 az b0=some (r1,r2,r3)) (fu_:FuncId) (fnu_:Func) (ru_:Value) (hfu_:Try.prog.funcs[fu_]?=some fnu_) (hnu_:(fnu_.name == "runtime.NumGoroutine")=false) (hbu_:fnu_.body.isSome=true) (hu_:∀ (W:World) (t:List S56),U_=some t→Below w.heap.size w W→Calls Try.prog fu_ #[ru_,.agg #[.int .i64 av,.int .i64 ax,.int .i64 ay]] W fun e w'=>∃ a4:Value,e = .returned a4∧Kd.R k56 56 w' W.heap.size (fun _=>True) a4 t∧Below W.heap.size W w') (fi_:FuncId) (fni_:Func) (ri_:Value) (hfi_:Try.prog.funcs[fi_]?=some fni_) (hni_:(fni_.name == "runtime.NumGoroutine")=false) (hbi_:fni_.body.isSome=true) (hi_:∀ (W:World) (t:List S62),I_=some t→Below w.heap.size w W→Calls Try.prog fi_ #[ri_,.agg #[.int .i64 az,.int .i64 b0]] W fun e w'=>∃ a4:Value,e = .returned a4∧Kd.R k62 62 w' W.heap.size (fun _=>True) a4 t∧Below W.heap.size W w'):
  Calls Try.prog 28 #[.agg #[.int .i64 I,.int .i64 J],.agg #[.slice η B.length δ,.slice θ D.length ε],.bool a2,(.func (.func fu_) #[ru_] #[]),.agg #[.int .i64 av,.int .i64 ax,.int .i64 ay],(.func (.func fi_) #[ri_] #[]),.agg #[.int .i64 az,.int .i64 b0]] w fun e w'=>∃ a4 b9:Value,e = .returned (.tuple #[.agg #[a4,b9],.int .i64 r3])∧Kd.R k56 56 w' w.heap.size (fun _=>True) a4 r1∧Kd.R k62 62 w' w.heap.size (fun _=>True) b9 r2∧Below w.heap.size w w':=by
 have HFU:=Aside0.mk hfu_
 have HNU:=Aside0.mk hnu_
 have HBU:=Aside0.mk hbu_
 have HCU:=Aside0.mk hu_
 have HFI:=Aside0.mk hfi_
 have HNI:=Aside0.mk hni_
 have HBI:=Aside0.mk hbi_
 have HCI:=Aside0.mk hi_
 clear hfu_ hnu_ hbu_ hu_ hfi_ hni_ hbi_ hi_
 have dn:=Try.underlying23
 have d4:=Try.underlying27
 have bq:=Try.underlying56
 have bd:=Try.underlying62
 have ag:=Aside0.mk b4
 have ar:=Aside0.mk b5
 clear b4 b5
 have ah:=Aside0.mk b6
 have aw:=Aside0.mk b7
 clear b6 b7
 have HB:=Aside0.mk (Below.refl w.heap.size w)
 have H:((call_Check.f k I J B D).bind fun Z=>(if Z=0 then (if a2=true then ((U_).bind fun σ=>((I_).bind fun χ =>(some (σ,χ,0)))) else (some (([]:List (S56)),([]:List (S62)),191))) else (some (([]:List (S56)),([]:List (S62)),Z))))=some (r1,r2,r3):=h
 clear h
 replace H:=Option.bind_eq_some_iff.mp H
 obtain⟨Z,dr,H⟩:=H
 replace H:(if Z=0 then (if a2=true then ((U_).bind fun σ=>((I_).bind fun χ =>(some (σ,χ,0)))) else (some (([]:List (S56)),([]:List (S62)),191))) else (some (([]:List (S56)),([]:List (S62)),Z)))=some (r1,r2,r3):=H
 have A8:=Aside0.mk dr
 clear dr
 by_cases c9:Z=0
 ·rw[if_pos c9] at H
  have c9b0:(Z==0)=true:=beq_iff_eq.mpr c9
  have c9b1:(Z != 0)=false:=bne_eq_false_iff_eq.mpr c9
  clear c9
  by_cases c10:a2=true
  ·subst c10
   have H1:((U_).bind fun σ=>((I_).bind fun χ =>(some (σ,χ,0))))=some (r1,r2,r3):=by rw[if_pos rfl] at H;exact H
   clear H
   have H:=H1
   clear H1
   replace H:=Option.bind_eq_some_iff.mp H
   obtain⟨σ,b8,H⟩:=H
   replace H:((I_).bind fun χ =>(some (σ,χ,0)))=some (r1,r2,r3):=H
   have bj:=Aside0.mk b8
   clear b8
   replace H:=Option.bind_eq_some_iff.mp H
   obtain⟨χ,ce,H⟩:=H
   replace H:(some (σ,χ,0))=some (r1,r2,r3):=H
   have ct:=Aside0.mk ce
   clear ce
   simp only[Option.some.injEq,Prod.mk.injEq] at H
   obtain⟨rfl,rfl,rfl⟩:=H
   go_enter Try.func28,Try.ntmps28
   try go_wp2_with (first|((with_reducible refine Qr (N:=7) rfl ?_);refine qE 7 #[.int .i64 I,.int .i64 J] 23 ?_;intro ν hg ed hbox hb;have L:=Aside0.mk hbox;have bg:=sGe hg;have b1:=sGe hg;replace HB:=sHb hb;clear hb hbox hg)|((with_reducible refine Qr (N:=8) rfl ?_);refine qE 8 #[.slice η B.length δ,.slice θ D.length ε] 27 ?_;intro κ hg b2 hbox hb;have U:=Aside0.mk hbox;have bp:=sGe hg;have bs:=sGe hg;have ξ :=sNl L hg;have a1:=sNg L hg;replace L:=sBk L hb;replace HB:=sHb hb;clear hb hbox hg)|((with_reducible refine Qr (N:=11) rfl ?_);refine qE 11 #[.int .i64 av,.int .i64 ax,.int .i64 ay] 56 ?_;intro ba hg cr hbox hb;have O:=Aside0.mk hbox;have cq:=sGe hg;have cu:=sGe hg;have al:=sNl L hg;have am:=sNg L hg;have γ:=sNl U hg;have ι :=sNg U hg;replace L:=sBk L hb;replace U:=sBk U hb;replace HB:=sHb hb;clear hb hbox hg)|((with_reducible refine Qr (N:=13) rfl ?_);refine qE 13 #[.int .i64 az,.int .i64 b0] 62 ?_;intro τ hg af hbox hb;have Y:=Aside0.mk hbox;have bf:=sGe hg;have ak:=sGe hg;have an:=sNl L hg;have ao:=sNg L hg;have ap:=sNl U hg;have au:=sNg U hg;have bc:=sNl O hg;have be:=sNg O hg;replace L:=sBk L hb;replace U:=sBk U hb;replace O:=sBk O hb;replace HB:=sHb hb;clear hb hbox hg)|((with_reducible refine Qr (N:=14) rfl ?_);refine qE 14 #[.slice none 0 0,.slice none 0 0] 27 ?_;intro a6 hg gb hbox hb;have μ :=Aside0.mk hbox;have bh:=sGe hg;have b3:=sGe hg;have ρ:=sNl L hg;have a9:=sNg L hg;have ae:=sNl U hg;have ai:=sNg U hg;have ζ :=sNl O hg;have aj:=sNg O hg;have a7:=sNl Y hg;have a8:=sNg Y hg;replace L:=sBk L hb;replace U:=sBk U hb;replace O:=sBk O hb;replace Y:=sBk Y hb;replace HB:=sHb hb;clear hb hbox hg;have cb:= ξ.out;have cg:=a1.out;have d5:=al.out;have d6:=am.out;have e8:=an.out;have e9:=ao.out;have e3:=ρ.out;have e4:=a9.out;obtain⟨bk,bn,bv,bw⟩:=qD2 L.out;have fo:=γ.out;have fp:= ι.out;have eg:=ap.out;have ej:=au.out;have d8:=ae.out;have dc:=ai.out;obtain⟨cm,cn,co,cp⟩:=qD2 U.out)|((with_reducible refine Q0 (f:=14) rfl ?_);refine Zk (some 19) rfl rfl Try.func14 kr rfl #[.agg #[.int .i64 I,.int .i64 J],.agg #[.slice η B.length δ,.slice θ D.length ε]] rfl qM ?_;(with_reducible refine(call_Check.calls k I J _ _ B _ _ D Z _ ?side1 ?side2 ?side3 ?side4 A8.out).mono ?_);(case side1=>exact(Kd.Qx ag.out HB.out));(case side2=>exact ar.out);(case side3=>exact(Kd.Qx ah.out HB.out));(case side4=>exact aw.out);rintro e ez ⟨rfl,hb⟩;refine⟨_,rfl, ?_⟩;replace L:=sBk L hb;replace U:=sBk U hb;replace O:=sBk O hb;replace Y:=sBk Y hb;replace μ :=sBk μ hb;replace HB:=sHb hb;(try clear hb);(try clear a0);(try clear hk);(try clear hi)))
   replace L:=Aside0.mk (Qa L.out)
   replace U:=Aside0.mk (Qa U.out)
   replace O:=Aside0.mk (Qa O.out)
   replace Y:=Aside0.mk (Qa Y.out)
   replace μ :=Aside0.mk (Qa μ.out)
   replace HB:=Aside0.mk (Qf HB.out)
   refine Zn (n:=9) (S:=fun w'=>w'.cell? ⟨ba,0,none⟩=some (.int .i64 av)∧w'.cell? ⟨ba,1,none⟩=some (.int .i64 ax)∧w'.cell? ⟨ba,2,none⟩=some (.int .i64 ay)∧w'.cell? ⟨τ,0,none⟩=some (.int .i64 az)∧w'.cell? ⟨τ,1,none⟩=some (.int .i64 b0)) (ds:=[]) #[false,false,false,false,false,false,false,false,false] kr rfl rfl ⟨(Ql O.out 0).trans rfl,(Ql O.out 1).trans rfl,(Ql O.out 2).trans rfl,(Ql Y.out 0).trans rfl,(Ql Y.out 1).trans rfl⟩ (fun hHeld=>?_);refine Q8 call_change.tab6 call_change.bits6 (fun HT_ HW_=>?_)
   generalize ez.drew=ft at L U O Y μ HB hHeld ⊢
   refine qP 0 (some 27) (bN 9 1) HT_ ?_
   refine qP 3 (some 30) (bN 9 9) HT_ ?_
   refine qT 1 (some 28) (bN 9 11) HT_ HW_ hHeld ?_
   refine qT 4 (some 31) (bN 9 27) HT_ HW_ hHeld ?_
   refine Zg (i:=2) (N:=some 29) (bN 9 31) rfl rfl (Q1 HT_.out kr) (by decide) (fun K hK=>?_)
   refine Xm HFU.out HNU.out HBU.out #[ru_] #[] #[.agg #[.int .i64 av,.int .i64 ax,.int .i64 ay]] #[ru_,.agg #[.int .i64 av,.int .i64 ax,.int .i64 ay]] rfl (by rfl) rfl rfl rfl qM ?_
   refine(HCU.out _ σ bj.out (by repeat(first|(with_reducible first|exact HB.out|apply Qh|apply Qb|apply Qf)|exact HB.out|(refine Qc ?_ (Aside0.out (by assumption)))))).mono ?_
   rintro e ge ⟨ea,rfl,φ,hb⟩
   refine⟨_,rfl, ?_⟩
   have bi:=Aside0.mk (Kd.Q2 (Kd.Zs φ (g:=ba) (o:=.cells #[.int .i64 av,.int .i64 ax,.int .i64 ay] 56 (0,0)) O.out) (Qi HB.out))
   replace L:=sBk L hb
   replace U:=sBk U hb
   replace O:=sBk O hb
   replace Y:=sBk Y hb
   replace μ :=sBk μ hb
   replace HB:=sHb hb
   (try clear hb)
   (try clear a0)
   (try clear hk)
   (try clear hi)
   (try clear φ)
   refine hK.out _ _ ⟨qc O,qc O,qc O,qc Y,qc Y⟩ (fun hHeld=>?_)
   clear hK K
   refine qN (some 29) ?_
   refine Zg (i:=5) (N:=some 32) (bN 9 63) rfl rfl (Q1 HT_.out kr) (by decide) (fun K hK=>?_)
   refine Xm HFI.out HNI.out HBI.out #[ri_] #[] #[.agg #[.int .i64 az,.int .i64 b0]] #[ri_,.agg #[.int .i64 az,.int .i64 b0]] rfl (by rfl) rfl rfl rfl qM ?_
   refine(HCI.out _ χ ct.out (by repeat(first|(with_reducible first|exact HB.out|apply Qh|apply Qb|apply Qf)|exact HB.out|(refine Qc ?_ (Aside0.out (by assumption)))))).mono ?_
   rintro e gf ⟨bu,rfl,φ,hb⟩
   refine⟨_,rfl, ?_⟩
   have bb:=Aside0.mk (Kd.Q2 (Kd.Zs φ (g:= τ) (o:=.cells #[.int .i64 az,.int .i64 b0] 62 (0,0)) Y.out) (Qi HB.out))
   replace bi:=sRb bi hb
   replace L:=sBk L hb
   replace U:=sBk U hb
   replace O:=sBk O hb
   replace Y:=sBk Y hb
   replace μ :=sBk μ hb
   replace HB:=sHb hb
   (try clear hb)
   (try clear a0)
   (try clear hk)
   (try clear hi)
   (try clear φ)
   obtain⟨cf,br,d7⟩:=Kd.Q4 bb.out
   (first|subst d7|(injection d7 with ψ aa ω;have ab:= ψ.symm;have ac:= ω.symm;clear ψ aa ω;subst ab;subst ac))
   obtain⟨bl,bm,bo⟩:=Kd.Q4 bi.out
   (first|subst bo|(injection bo with ψ aa ω;have ab:= ψ.symm;have ac:= ω.symm;clear ψ aa ω;subst ab;subst ac))
   refine hK.out _ _ ⟨qc O,qc O,qc O,qc Y,qc Y⟩ (fun hHeld=>?_)
   clear hK K
   refine qN (some 32) ?_
   refine qP 6 (some 33) (bN 9 127) HT_ ?_
   refine Zg (i:=7) (N:=none) (bN 9 255) rfl rfl (Q1 HT_.out kr) (by decide) (fun K hK=>?_)
   have ec:gf.cell? ⟨a6,0,none⟩=some (.slice none 0 0):=(Ql μ.out 0).trans rfl
   have e0:=Q6 μ.out 0
   have bz:=ρ.out
   have cd:=ae.out
   have ci:= ζ.out
   have cj:=a7.out
   have ck:=a9.out
   have cy:=ai.out
   have cz:=aj.out
   have d0:=a8.out
   have ee:gf.cell? ⟨a6,1,none⟩=some (.slice none 0 0):=(Ql μ.out 1).trans rfl
   have e5:=Q6 μ.out 1
   have d2:=ρ.out
   have d3:=ae.out
   have d9:= ζ.out
   have da:=a7.out
   have db:=a9.out
   have dd:=ai.out
   have de:=aj.out
   have df:=a8.out
   refine Js (w1:=?_) (by rfl) rfl ?_ ?_
   rotate_left
   ·go_simp
    rfl
   refine hK.out _ _ ⟨((cell_far (p:=⟨a6,_,none⟩) ζ.out _).trans (((cell_far (p:=⟨a6,_,none⟩) ζ.out _).trans (hHeld.1)))),((cell_far (p:=⟨a6,_,none⟩) ζ.out _).trans (((cell_far (p:=⟨a6,_,none⟩) ζ.out _).trans (hHeld.2.1)))),((cell_far (p:=⟨a6,_,none⟩) ζ.out _).trans (((cell_far (p:=⟨a6,_,none⟩) ζ.out _).trans (hHeld.2.2.1)))),((cell_far (p:=⟨a6,_,none⟩) a7.out _).trans (((cell_far (p:=⟨a6,_,none⟩) a7.out _).trans (hHeld.2.2.2.1)))),((cell_far (p:=⟨a6,_,none⟩) a7.out _).trans (((cell_far (p:=⟨a6,_,none⟩) a7.out _).trans (hHeld.2.2.2.2))))⟩ (fun hHeld=>?_)
   clear hK K
   refine qP 8 (some 15) (bN 9 511) HT_ ?_
   refine Zu (Zj HT_.out kr) ?_
   try go_wp2
   refine bodyPost_ret (Xi rfl _ _ a6 27 #[.slice bl σ.length bm,.slice cf χ.length br] (0,0) _ rfl (by refine Qv (cs:=#[.slice bl σ.length bm,.slice none 0 0]) ?_ 1 _ rfl;refine Qv (cs:=#[.slice none 0 0,.slice none 0 0]) ?_ 0 _ rfl;exact μ.out) Try.underlying27 rfl kr) rfl ?_
   exact⟨_,_,by first|rfl|(simp[Qz,Qy] <;> rfl)|(simp[*,Qz,Qy] <;> rfl),by(with_reducible repeat first|apply Kd.Qk|apply Kd.Qj|apply Kd.Qn);exact Kd.Qq (Kd.Qs (Kd.Qs (Kd.Qw bi.out μ.out (by decide)) (fun _ hk=>hk.2) _) (fun _ hk=>hk.2) _) (fun _ hk=>trivial),by(with_reducible repeat first|apply Kd.Qk|apply Kd.Qj|apply Kd.Qn);exact Kd.Qq (Kd.Qs (Kd.Qs (Kd.Qw bb.out μ.out (by decide)) (fun _ hk=>hk.2) _) (fun _ hk=>hk.2) _) (fun _ hk=>trivial),bel⟩
  ·replace c10:=Bool.eq_false_iff.mpr c10
   subst c10
   have H1:(some (([]:List (S56)),([]:List (S62)),191))=some (r1,r2,r3):=by rw[if_neg (show ¬ (false=true) by decide)] at H;exact H
   clear H
   have H:=H1
   clear H1
   simp only[Option.some.injEq,Prod.mk.injEq] at H
   obtain⟨rfl,rfl,rfl⟩:=H
   go_enter Try.func28,Try.ntmps28
   go_wp2_with (first|((with_reducible refine Qr (N:=7) rfl ?_);refine qE 7 #[.int .i64 I,.int .i64 J] 23 ?_;intro ν hg eb hbox hb;have L:=Aside0.mk hbox;have bg:=sGe hg;have b1:=sGe hg;replace HB:=sHb hb;clear hb hbox hg)|((with_reducible refine Qr (N:=8) rfl ?_);refine qE 8 #[.slice η B.length δ,.slice θ D.length ε] 27 ?_;intro κ hg ma hbox hb;have U:=Aside0.mk hbox;have bp:=sGe hg;have bs:=sGe hg;have ξ :=sNl L hg;have a1:=sNg L hg;replace L:=sBk L hb;replace HB:=sHb hb;clear hb hbox hg)|((with_reducible refine Qr (N:=11) rfl ?_);refine qE 11 #[.int .i64 av,.int .i64 ax,.int .i64 ay] 56 ?_;intro ba hg kz hbox hb;have O:=Aside0.mk hbox;have cq:=sGe hg;have cu:=sGe hg;have al:=sNl L hg;have am:=sNg L hg;have γ:=sNl U hg;have ι :=sNg U hg;replace L:=sBk L hb;replace U:=sBk U hb;replace HB:=sHb hb;clear hb hbox hg)|((with_reducible refine Qr (N:=13) rfl ?_);refine qE 13 #[.int .i64 az,.int .i64 b0] 62 ?_;intro τ hg gg hbox hb;have Y:=Aside0.mk hbox;have bf:=sGe hg;have ak:=sGe hg;have an:=sNl L hg;have ao:=sNg L hg;have ap:=sNl U hg;have au:=sNg U hg;have bc:=sNl O hg;have be:=sNg O hg;replace L:=sBk L hb;replace U:=sBk U hb;replace O:=sBk O hb;replace HB:=sHb hb;clear hb hbox hg)|((with_reducible refine Qr (N:=14) rfl ?_);refine qE 14 #[.slice none 0 0,.slice none 0 0] 27 ?_;intro a6 hg ch hbox hb;have μ :=Aside0.mk hbox;have bh:=sGe hg;have b3:=sGe hg;have ρ:=sNl L hg;have a9:=sNg L hg;have ae:=sNl U hg;have ai:=sNg U hg;have ζ :=sNl O hg;have aj:=sNg O hg;have a7:=sNl Y hg;have a8:=sNg Y hg;replace L:=sBk L hb;replace U:=sBk U hb;replace O:=sBk O hb;replace Y:=sBk Y hb;replace HB:=sHb hb;clear hb hbox hg;have ew:= ξ.out;have ey:=a1.out;have g5:=al.out;have g6:=am.out;have ho:=an.out;have ia:=ao.out;have ca:=ρ.out;have dj:=a9.out;obtain⟨f7,f8,f9,fa⟩:=qD2 L.out;have g7:=γ.out;have g8:= ι.out;have gv:=ap.out;have gw:=au.out;have jh:=ae.out;have ji:=ai.out;obtain⟨fb,fh,fi,fj⟩:=qD2 U.out)|((with_reducible refine Q0 (f:=14) rfl ?_);refine Zk (some 19) rfl rfl Try.func14 kr rfl #[.agg #[.int .i64 I,.int .i64 J],.agg #[.slice η B.length δ,.slice θ D.length ε]] rfl qM ?_;(with_reducible refine(call_Check.calls k I J _ _ B _ _ D Z _ ?side1 ?side2 ?side3 ?side4 A8.out).mono ?_);(case side1=>exact(Kd.Qx ag.out HB.out));(case side2=>exact ar.out);(case side3=>exact(Kd.Qx ah.out HB.out));(case side4=>exact aw.out);rintro e lf ⟨rfl,hb⟩;refine⟨_,rfl, ?_⟩;replace L:=sBk L hb;replace U:=sBk U hb;replace O:=sBk O hb;replace Y:=sBk Y hb;replace μ :=sBk μ hb;replace HB:=sHb hb;(try clear hb);(try clear a0);(try clear hk);(try clear hi);have h5:=aj.out;have h6:= ζ.out;have g2:=a8.out;have g9:=a7.out;obtain⟨dt,du,dv,dw⟩:=qD2 μ.out))
   refine bodyPost_ret (Xi rfl _ _ a6 27 #[.slice none 0 0,.slice none 0 0] (0,0) _ rfl (by refine Qv (cs:=#[.slice none 0 0,.slice none 0 0]) ?_ 1 _ rfl;refine Qv (cs:=#[.slice none 0 0,.slice none 0 0]) ?_ 0 _ rfl;exact μ.out) Try.underlying27 rfl kr) rfl ?_
   exact⟨_,_,by first|rfl|(simp[Qz,Qy] <;> rfl)|(simp[*,Qz,Qy] <;> rfl),by first|exact Kd.Yd _ _ _ _ _|exact Kd.Je _ _ _ _ _|exact Kd.Jb _ _ _ _ _|exact Kd.Jd _ _ _ _ _|exact Kd.Jc _ _ _ _ _,by first|exact Kd.Yd _ _ _ _ _|exact Kd.Je _ _ _ _ _|exact Kd.Jb _ _ _ _ _|exact Kd.Jd _ _ _ _ _|exact Kd.Jc _ _ _ _ _,bel⟩
 ·rw[if_neg c9] at H
  have c9b0:(Z==0)=false:=beq_eq_false_iff_ne.mpr c9
  have c9b1:(Z != 0)=true:=bne_iff_ne.mpr c9
  simp only[Option.some.injEq,Prod.mk.injEq] at H
  obtain⟨rfl,rfl,rfl⟩:=H
  go_enter Try.func28,Try.ntmps28
  go_wp2_with (first|((with_reducible refine Qr (N:=7) rfl ?_);refine qE 7 #[.int .i64 I,.int .i64 J] 23 ?_;intro ν hg jl hbox hb;have L:=Aside0.mk hbox;have bg:=sGe hg;have b1:=sGe hg;replace HB:=sHb hb;clear hb hbox hg)|((with_reducible refine Qr (N:=8) rfl ?_);refine qE 8 #[.slice η B.length δ,.slice θ D.length ε] 27 ?_;intro κ hg j3 hbox hb;have U:=Aside0.mk hbox;have bp:=sGe hg;have bs:=sGe hg;have ξ :=sNl L hg;have a1:=sNg L hg;replace L:=sBk L hb;replace HB:=sHb hb;clear hb hbox hg)|((with_reducible refine Qr (N:=11) rfl ?_);refine qE 11 #[.int .i64 av,.int .i64 ax,.int .i64 ay] 56 ?_;intro ba hg ij hbox hb;have O:=Aside0.mk hbox;have cq:=sGe hg;have cu:=sGe hg;have al:=sNl L hg;have am:=sNg L hg;have γ:=sNl U hg;have ι :=sNg U hg;replace L:=sBk L hb;replace U:=sBk U hb;replace HB:=sHb hb;clear hb hbox hg)|((with_reducible refine Qr (N:=13) rfl ?_);refine qE 13 #[.int .i64 az,.int .i64 b0] 62 ?_;intro τ hg gi hbox hb;have Y:=Aside0.mk hbox;have bf:=sGe hg;have ak:=sGe hg;have an:=sNl L hg;have ao:=sNg L hg;have ap:=sNl U hg;have au:=sNg U hg;have bc:=sNl O hg;have be:=sNg O hg;replace L:=sBk L hb;replace U:=sBk U hb;replace O:=sBk O hb;replace HB:=sHb hb;clear hb hbox hg)|((with_reducible refine Qr (N:=14) rfl ?_);refine qE 14 #[.slice none 0 0,.slice none 0 0] 27 ?_;intro a6 hg ef hbox hb;have μ :=Aside0.mk hbox;have bh:=sGe hg;have b3:=sGe hg;have ρ:=sNl L hg;have a9:=sNg L hg;have ae:=sNl U hg;have ai:=sNg U hg;have ζ :=sNl O hg;have aj:=sNg O hg;have a7:=sNl Y hg;have a8:=sNg Y hg;replace L:=sBk L hb;replace U:=sBk U hb;replace O:=sBk O hb;replace Y:=sBk Y hb;replace HB:=sHb hb;clear hb hbox hg;have hy:= ξ.out;have i0:=a1.out;have iz:=al.out;have j2:=am.out;have jj:=an.out;have jk:=ao.out;have ib:=ρ.out;have ic:=a9.out;obtain⟨dh,di,dk,dl⟩:=qD2 L.out;have ff:=γ.out;have fg:= ι.out;have em:=ap.out;have en:=au.out;have ga:=ae.out;have gz:=ai.out;obtain⟨cv,cw,cx,d1⟩:=qD2 U.out)|((with_reducible refine Q0 (f:=14) rfl ?_);refine Zk (some 19) rfl rfl Try.func14 kr rfl #[.agg #[.int .i64 I,.int .i64 J],.agg #[.slice η B.length δ,.slice θ D.length ε]] rfl qM ?_;(with_reducible refine(call_Check.calls k I J _ _ B _ _ D Z _ ?side1 ?side2 ?side3 ?side4 A8.out).mono ?_);(case side1=>exact(Kd.Qx ag.out HB.out));(case side2=>exact ar.out);(case side3=>exact(Kd.Qx ah.out HB.out));(case side4=>exact aw.out);rintro e j4 ⟨rfl,hb⟩;refine⟨_,rfl, ?_⟩;replace L:=sBk L hb;replace U:=sBk U hb;replace O:=sBk O hb;replace Y:=sBk Y hb;replace μ :=sBk μ hb;replace HB:=sHb hb;(try clear hb);(try clear a0);(try clear hk);(try clear hi);have dp:=aj.out;have dy:= ζ.out;have e6:=a8.out;have e7:=a7.out;obtain⟨dm,dq,dx,dz⟩:=qD2 μ.out))
  refine bodyPost_ret (Xi rfl _ _ a6 27 #[.slice none 0 0,.slice none 0 0] (0,0) _ rfl (by refine Qv (cs:=#[.slice none 0 0,.slice none 0 0]) ?_ 1 _ rfl;refine Qv (cs:=#[.slice none 0 0,.slice none 0 0]) ?_ 0 _ rfl;exact μ.out) Try.underlying27 rfl kr) rfl ?_
  exact⟨_,_,by first|rfl|(simp[Qz,Qy] <;> rfl)|(simp[*,Qz,Qy] <;> rfl),by first|exact Kd.Yd _ _ _ _ _|exact Kd.Je _ _ _ _ _|exact Kd.Jb _ _ _ _ _|exact Kd.Jd _ _ _ _ _|exact Kd.Jc _ _ _ _ _,by first|exact Kd.Yd _ _ _ _ _|exact Kd.Je _ _ _ _ _|exact Kd.Jb _ _ _ _ _|exact Kd.Jd _ _ _ _ _|exact Kd.Jc _ _ _ _ _,bel⟩
mutual
def call_View.l0:Nat→Int→List (S62)→Int→Int→List (S56)→List (S62)→List Int→Option (List Int×List Int×List Int×Int)
 |0,_,_,_,_,_,_,_=>none
 |k+1,X,I,O,J,D,L,B=>if J<O then (if 0≤J then (if J<(I.length:Int) then (if ((Qp I J).f0)=X then (if B.length<17592186044416 then (call_View.l0 k X I O (wrap64 (J+1)) D L (B ++ [(Qp I J).f1])) else (none)) else (call_View.l0 k X I O (wrap64 (J+1)) D L B)) else (none)) else (none)) else (call_View.l1 k X D (D.length:Int) 0 B ([]:List Int) ([]:List Int))
def call_View.l1:Nat→Int→List (S56)→Int→Int→List Int→List Int→List Int→Option (List Int×List Int×List Int×Int)
 |0,_,_,_,_,_,_,_=>none
 |k+1,X,L,O,J,B,D,I=>if J<O then (if 0≤J then (if J<(L.length:Int) then (if ((Qg L J).f2)=X then (if ((Qg L J).f1)>0 then (if D.length<17592186044416 then (call_View.l1 k X L O (wrap64 (J+1)) B (D ++ [(Qg L J).f0]) I) else (none)) else (if I.length<17592186044416 then (call_View.l1 k X L O (wrap64 (J+1)) B D (I ++ [(Qg L J).f0])) else (none))) else (call_View.l1 k X L O (wrap64 (J+1)) B D I)) else (none)) else (none)) else (some (B,D,I,0))
end
def call_View.f (k:Nat) (I:Int) (J:Int) (B:List (S56)) (D:List (S62)) (a2:Int):Option (List Int×List Int×List Int×Int):=(call_Check.f k I J B D).bind fun a3=>(if a3=0 then ((call_within.f a2 0 (wrap64 (J-1))).bind fun ct=>(if ct=true then (call_View.l0 k a2 D (D.length:Int) 0 B D ([]:List Int)) else (some (([]:List Int),([]:List Int),([]:List Int),191)))) else (some (([]:List Int),([]:List Int),([]:List Int),a3)))
theorem call_View.Zi:∀ k,(∀ D I O J L X Y,LeO (call_View.l0 k D I O J L X Y) (call_View.l0 (k+1) D I O J L X Y))∧(∀ D I O J L X Y,LeO (call_View.l1 k D I O J L X Y) (call_View.l1 (k+1) D I O J L X Y))
 |0=>⟨fun _ _ _ _ _ _ _ r h=>by simp[call_View.l0] at h,fun _ _ _ _ _ _ _ r h=>by simp[call_View.l1] at h⟩
 |k+1=>by
  obtain⟨B,U⟩:=call_View.Zi k
  refine⟨?_, ?_⟩
  ·intro D I O J L X Y
   unfold call_View.l0
   repeat' first
   |(with_reducible exact B _ _ _ _ _ _ _)
   |(with_reducible exact U _ _ _ _ _ _ _)
   |(with_reducible exact call_Check.mono _ _ _ _ _)
   |(with_reducible exact LeO.refl _)
   |(with_reducible exact LeO.none _)
   |(with_reducible refine LeO.ite ?_ ?_)
   |(with_reducible refine LeO.bind ?_ (fun _=>?_))
   |exact B _ _ _ _ _ _ _
   |exact U _ _ _ _ _ _ _
   |exact call_Check.mono _ _ _ _ _
   |exact LeO.none _
   |refine LeO.ite ?_ ?_
   |refine LeO.bind ?_ (fun _=>?_)
  ·intro D I O J L X Y
   unfold call_View.l1
   repeat' first
   |(with_reducible exact B _ _ _ _ _ _ _)
   |(with_reducible exact U _ _ _ _ _ _ _)
   |(with_reducible exact call_Check.mono _ _ _ _ _)
   |(with_reducible exact LeO.refl _)
   |(with_reducible exact LeO.none _)
   |(with_reducible refine LeO.ite ?_ ?_)
   |(with_reducible refine LeO.bind ?_ (fun _=>?_))
   |exact B _ _ _ _ _ _ _
   |exact U _ _ _ _ _ _ _
   |exact call_Check.mono _ _ _ _ _
   |exact LeO.none _
   |refine LeO.ite ?_ ?_
   |refine LeO.bind ?_ (fun _=>?_)
theorem call_View.mono:∀ I D a2 X J k,LeO (call_View.f k I D a2 X J) (call_View.f (k+1) I D a2 X J):=by
 intro I D a2 X J k
 obtain⟨B,U⟩:=call_View.Zi k
 unfold call_View.f
 repeat' first
   |(with_reducible exact B _ _ _ _ _ _ _)
   |(with_reducible exact U _ _ _ _ _ _ _)
   |(with_reducible exact call_Check.mono _ _ _ _ _)
   |(with_reducible exact LeO.refl _)
   |(with_reducible exact LeO.none _)
   |(with_reducible refine LeO.ite ?_ ?_)
   |(with_reducible refine LeO.bind ?_ (fun _=>?_))
   |exact B _ _ _ _ _ _ _
   |exact U _ _ _ _ _ _ _
   |exact call_Check.mono _ _ _ _ _
   |exact LeO.none _
   |refine LeO.ite ?_ ?_
   |refine LeO.bind ?_ (fun _=>?_)
set_option maxHeartbeats 8000000 in
set_option maxRecDepth 100000 in
theorem call_View.calls (k:Nat) (I:Int) (J:Int) (η :Option Addr) (δ :Nat) (B:List (S56)) (θ :Option Addr) (ε :Nat) (D:List (S62)) (a2:Int) (r1:List Int) (r2:List Int) (r3:List Int) (r4:Int) (w:World) (b4:Kd.C k56 w η B.length B) (b5:B.length ≤ δ) (b6:Kd.C k62 w θ D.length D) (b7:D.length ≤ ε) (h:call_View.f k I J B D a2=some (r1,r2,r3,r4)):
  Calls Try.prog 19 #[.agg #[.int .i64 I,.int .i64 J],.agg #[.slice η B.length δ,.slice θ D.length ε],.int .i64 a2] w fun e w'=>∃ a4 b9 ge:Value,e = .returned (.tuple #[.agg #[a4,b9,ge],.int .i64 r4])∧Kd.R (Kd.int .i64) 3 w' w.heap.size (fun k_=>some k_≠(b9:Value).ownBlock∧some k_≠(ge:Value).ownBlock) a4 r1∧Kd.R (Kd.int .i64) 3 w' w.heap.size (fun k_=>some k_≠(a4:Value).ownBlock∧some k_≠(ge:Value).ownBlock) b9 r2∧Kd.R (Kd.int .i64) 3 w' w.heap.size (fun k_=>some k_≠(a4:Value).ownBlock∧some k_≠(b9:Value).ownBlock) ge r3∧Below w.heap.size w w':=by
 have dn:=Try.underlying23
 have d4:=Try.underlying27
 have kc:=Try.underlying47
 have bd:=Try.underlying62
 have bq:=Try.underlying56
 have ag:=Aside0.mk b4
 have ar:=Aside0.mk b5
 clear b4 b5
 have ah:=Aside0.mk b6
 have aw:=Aside0.mk b7
 clear b6 b7
 have HB:=Aside0.mk (Below.refl w.heap.size w)
 have H:((call_Check.f k I J B D).bind fun a3=>(if a3=0 then ((call_within.f a2 0 (wrap64 (J-1))).bind fun ct=>(if ct=true then (call_View.l0 k a2 D (D.length:Int) 0 B D ([]:List Int)) else (some (([]:List Int),([]:List Int),([]:List Int),191)))) else (some (([]:List Int),([]:List Int),([]:List Int),a3))))=some (r1,r2,r3,r4):=h
 clear h
 replace H:=Option.bind_eq_some_iff.mp H
 obtain⟨a3,bv,H⟩:=H
 replace H:(if a3=0 then ((call_within.f a2 0 (wrap64 (J-1))).bind fun ct=>(if ct=true then (call_View.l0 k a2 D (D.length:Int) 0 B D ([]:List Int)) else (some (([]:List Int),([]:List Int),([]:List Int),191)))) else (some (([]:List Int),([]:List Int),([]:List Int),a3)))=some (r1,r2,r3,r4):=H
 have A4:=Aside0.mk bv
 clear bv
 by_cases c5:a3=0
 ·rw[if_pos c5] at H
  have c5b0:(a3==0)=true:=beq_iff_eq.mpr c5
  have c5b1:(a3 != 0)=false:=bne_eq_false_iff_eq.mpr c5
  clear c5
  replace H:=Option.bind_eq_some_iff.mp H
  obtain⟨ct,d0,H⟩:=H
  replace H:(if ct=true then (call_View.l0 k a2 D (D.length:Int) 0 B D ([]:List Int)) else (some (([]:List Int),([]:List Int),([]:List Int),191)))=some (r1,r2,r3,r4):=H
  have A6:=Aside0.mk d0
  clear d0
  by_cases c7:ct=true
  ·subst c7
   have H1:(call_View.l0 k a2 D (D.length:Int) 0 B D ([]:List Int))=some (r1,r2,r3,r4):=by rw[if_pos rfl] at H;exact H
   clear H
   have H:=H1
   clear H1
   have H':=Aside0.mk H
   clear H
   go_enter Try.func19,Try.ntmps19
   go_wp2_with (first|((with_reducible refine Qr (N:=3) rfl ?_);refine qE 3 #[.int .i64 I,.int .i64 J] 23 ?_;intro τ hg w8 hbox hb;have O:=Aside0.mk hbox;have ey:=sGe hg;have f8:=sGe hg;replace HB:=sHb hb;clear hb hbox hg)|((with_reducible refine Qr (N:=4) rfl ?_);refine qE 4 #[.slice η B.length δ,.slice θ D.length ε] 27 ?_;intro bn hg w9 hbox hb;have Y:=Aside0.mk hbox;have gx:=sGe hg;have gy:=sGe hg;have al:=sNl O hg;have an:=sNg O hg;replace O:=sBk O hb;replace HB:=sHb hb;clear hb hbox hg)|((with_reducible refine Qr (N:=6) rfl ?_);refine qE 6 #[.slice none 0 0,.slice none 0 0,.slice none 0 0] 47 ?_;intro aa hg em hbox hb;have L:=Aside0.mk hbox;have en:=sGe hg;have ew:=sGe hg;have ao:=sNl O hg;have ap:=sNg O hg;have ab:=sNl Y hg;have ac:=sNg Y hg;replace O:=sBk O hb;replace Y:=sBk Y hb;replace HB:=sHb hb;clear hb hbox hg;have gt:=al.out;have gu:=an.out;have e6:=ao.out;have e7:=ap.out;obtain⟨bo,bp,br,bs⟩:=qD2 O.out;have ie:=ab.out;have ig:=ac.out;obtain⟨cm,cn,co,cp⟩:=qD2 Y.out)|((with_reducible refine Q0 (f:=14) rfl ?_);refine Zk (some 16) rfl rfl Try.func14 kr rfl #[.agg #[.int .i64 I,.int .i64 J],.agg #[.slice η B.length δ,.slice θ D.length ε]] rfl qM ?_;(with_reducible refine(call_Check.calls k I J _ _ B _ _ D a3 _ ?side1 ?side2 ?side3 ?side4 A4.out).mono ?_);(case side1=>exact(Kd.Qx ag.out HB.out));(case side2=>exact ar.out);(case side3=>exact(Kd.Qx ah.out HB.out));(case side4=>exact aw.out);rintro e af ⟨rfl,hb⟩;refine⟨_,rfl, ?_⟩;replace O:=sBk O hb;replace Y:=sBk Y hb;replace L:=sBk L hb;replace HB:=sHb hb;(try clear hb);(try clear a0);(try clear hk);(try clear hi);obtain⟨dj,dl,dm,dp⟩:=qD2 O.out)|((with_reducible refine Q0 (f:=41) rfl ?_);refine Zk (some 25) rfl rfl Try.func41 kr rfl #[.int .i64 a2,.int .i64 0,.int .i64 (wrap64 (J-1))] rfl qM ?_;(with_reducible refine(call_within.calls a2 0 (wrap64 (J-1)) true _ A6.out).mono ?_);rintro e w' ⟨rfl,⟨nd,rfl⟩⟩;refine⟨_,rfl, ?_⟩;(try(rw[Gx af];generalize hq_:World.drewN af _=af;have U:Aside0 (af.heap[τ]?=some (.cells #[.int .i64 I,.int .i64 J] 23 (0,0))):=⟨by rw[← hq_];exact O.out⟩;have γ:Aside0 (af.heap[bn]?=some (.cells #[.slice η B.length δ,.slice θ D.length ε] 27 (0,0))):=⟨by rw[← hq_];exact Y.out⟩;have ι :Aside0 (af.heap[aa]?=some (.cells #[.slice none 0 0,.slice none 0 0,.slice none 0 0] 47 (0,0))):=⟨by rw[← hq_];exact L.out⟩;have κ :Aside0 (Below w.heap.size w af):=⟨by rw[← hq_];exact HB.out⟩;clear O Y L HB hq_;have O:=U;have Y:=γ;have L:= ι;have HB:= κ;clear U γ ι κ));(try(have bu:af.cell? ⟨τ,0,none⟩=some (.int .i64 I):=(Ql O.out 0).trans rfl));(try(have bw:af.cell? ⟨τ,1,none⟩=some (.int .i64 J):=(Ql O.out 1).trans rfl));(try(have bz:=Q6 O.out 0));(try(have ca:=Q6 O.out 1)))|((with_reducible refine Qr (N:=9) rfl ?_);refine qE 9 #[.slice none 0 0,.slice none 0 0,.slice none 0 0] 47 ?_;intro ai hg eg hbox hb;have Z:=Aside0.mk hbox;have iu:=sGe hg;have dz:=sGe hg;have b2:=sNl O hg;have b3:=sNg O hg;have au:=sNl Y hg;have av:=sNg Y hg;have b8:=sNl L hg;have ba:=sNg L hg;replace O:=sBk O hb;replace Y:=sBk Y hb;replace L:=sBk L hb;replace HB:=sHb hb;clear hb hbox hg;have e8:=b3.out;have e9:=b2.out;have e3:=av.out;have e4:=au.out;have g5:=ba.out;have g6:=b8.out;obtain⟨ch,ci,dq,cj,ck,dr⟩:=qD3 Z.out;obtain⟨d7,d9,da,db⟩:=qD2 Y.out))
   go_loopg [32] k (fun kq mz w'=>∃ (ζ :Int) (φ :List Int) (μ :Value),mz = .int .i64 ζ ∧ Aside0 (call_View.l0 kq a2 D (D.length:Int) ζ B D φ = some (r1,r2,r3,r4))∧Aside0 (kq≤k)∧Aside0 (Kd.R (Kd.int .i64) 3 w' w.heap.size (fun _=>True) μ φ)∧Aside0 (w'.heap[τ]?=some (.cells #[.int .i64 I,.int .i64 J] 23 (0,0)))∧Aside0 (w'.heap[bn]?=some (.cells #[(.slice η B.length δ),(.slice θ D.length ε)] 27 (0,0)))∧Aside0 (w'.heap[aa]?=some (.cells #[(.slice none 0 0),(.slice none 0 0),(.slice none 0 0)] 47 (0,0)))∧Aside0 (w'.heap[ai]?=some (.cells #[μ,(.slice none 0 0),(.slice none 0 0)] 47 (0,0)))∧Aside0 (Below w.heap.size w w'))
   case atStart=>exact⟨(0),(([]:List Int)),(.slice none 0 0),qR,H',⟨Nat.le_refl _⟩,⟨by first|exact Kd.Yd _ _ _ _ _|exact Kd.Je _ _ _ _ _|exact Kd.Jb _ _ _ _ _|exact Kd.Jd _ _ _ _ _|exact Kd.Jc _ _ _ _ _⟩,⟨bka O⟩,⟨bka Y⟩,⟨bka L⟩,⟨by(with_reducible repeat first|apply Qd|apply Qa|apply Qe);refine Qv (cs:=#[.slice none 0 0,.slice none 0 0,.slice none 0 0]) ?_ 2 _ rfl;(with_reducible repeat first|apply Qd|apply Qa|apply Qe);refine Qv (cs:=#[.slice none 0 0,.slice none 0 0,.slice none 0 0]) ?_ 1 _ rfl;(with_reducible repeat first|apply Qd|apply Qa|apply Qe);refine Qv (cs:=#[.slice none 0 0,.slice none 0 0,.slice none 0 0]) ?_ 0 _ rfl;(with_reducible repeat first|apply Qd|apply Qa|apply Qe);exact Z.out⟩,⟨bel⟩⟩
   case round=>
    clear H'
    try clear c1
    try clear c2
    try clear p2
    try clear c4
    try clear c5
    try clear c5b0
    try clear c5b1
    try clear p6
    try clear c7
    try clear cb
    try clear ce
    try clear az
    try clear dx
    try clear cd
    try clear cr
    try clear k9
    try clear bo
    try clear bp
    try clear cm
    try clear cn
    try clear dj
    try clear dl
    try clear bu
    try clear bw
    try clear ch
    try clear ci
    try clear dq
    try clear d7
    try clear d9
    try clear br
    try clear bs
    try clear co
    try clear cp
    try clear dm
    try clear dp
    try clear bz
    try clear ca
    try clear cj
    try clear ck
    try clear dr
    try clear da
    try clear db
    obtain⟨ζ,φ,μ,rfl,HA,ξ,HO_114000,O,Y,L,Z,HB⟩:=hrel
    cases gk with
    |zero=>exact absurd HA.out (by simp[call_View.l0])
    |succ k1=>
     have H:=HA.out
     clear HA
     simp only[call_View.l0] at H
     by_cases bc: ζ < (D.length:Int)
     ·rw[if_pos bc] at H
      have c25b0:decide (ζ < (D.length:Int))=true:=decide_eq_true bc
      clear bc
      by_cases am:0 ≤ ζ
      ·rw[if_pos am] at H
       have c26b0:decide (0 ≤ ζ)=true:=decide_eq_true am
       clear am
       by_cases dc: ζ < (D.length:Int)
       ·rw[if_pos dc] at H
        have c27b0:decide (ζ < (D.length:Int))=true:=decide_eq_true dc
        clear dc
        by_cases ak:((Qp D ζ).f0)=a2
        ·rw[if_pos ak] at H
         have c28b0:(((Qp D ζ).f0)==a2)=true:=beq_iff_eq.mpr ak
         have c28b1:(((Qp D ζ).f0) != a2)=false:=bne_eq_false_iff_eq.mpr ak
         clear ak
         by_cases cf: φ.length<17592186044416
         ·rw[if_pos cf] at H
          have iz:=Aside0.mk cf
          clear cf
          obtain⟨dd,ax⟩:∃ y_:List Int,y_=(φ ++ [(Qp D ζ).f1]):=⟨_,rfl⟩
          replace H:(call_View.l0 k1 a2 D (D.length:Int) (wrap64 (ζ + 1)) B D dd)=some (r1,r2,r3,r4):=by first|(rw[ax];with_reducible exact H)|(have ρ:=(Option.bind_some _ _).symm.trans H;rw[ax];with_reducible exact ρ)|(have ρ:=(Option.bind_some _ _).symm.trans H;with_reducible exact ρ)|with_reducible exact H|(rw[ax];exact H)|exact H
          have dy:=Aside0.mk ax
          clear ax
          have H':=Aside0.mk H
          clear H
          have ay:0≤(ζ :Int):=of_decide_eq_true (by assumption)
          have b0: ζ < (D.length:Int):=of_decide_eq_true (by assumption)
          obtain⟨e0,e5,a8,a9⟩:=Z8 ah.out ζ ay b0
          cases e5
          replace a8:=(HB.out.cell (World.block_lt_of_cell? w _ a8)).trans a8
          replace a9:=(HB.out.cell (World.block_lt_of_cell? w _ a9)).trans a9
          replace ay:=eq_true ay
          replace b0:=eq_true b0
          go_wp2_with (first|((with_reducible refine Qr (N:=11) rfl ?_);refine qE 11 #[.int .i64 0,.int .i64 0] 62 ?_;intro h7 hg gf hbox hb;have cg:=Aside0.mk hbox;have j2:=sGe hg;have jl:=sGe hg;have cu:=sNl O hg;have cv:=sNg O hg;have cw:=sNl Y hg;have cx:=sNg Y hg;have cy:=sNl L hg;have cz:=sNg L hg;have d2:=sNl Z hg;have d3:=sNg Z hg;replace HO_114000:=sRb HO_114000 hb;replace O:=sBk O hb;replace Y:=sBk Y hb;replace L:=sBk L hb;replace Z:=sBk Z hb;replace HB:=sHb hb;clear hb hbox hg;have jm:=cv.out;have jn:=cu.out;have fc:=cx.out;have fe:=cw.out;have g3:=cz.out;have g4:=cy.out;have nk:=d3.out;have nl:=d2.out;obtain⟨er,et,eu,ev⟩:=qD2 cg.out;have ek:=b3.out;have el:=b2.out;have h8:=av.out;have h9:=au.out;have g0:=ba.out;have g1:=b8.out;obtain⟨hu,hx,hy,i0,i3,i4⟩:=qD3 Z.out)|((with_reducible refine Xc (b:=.append) (xs:=#[.tmp 41,.tmp 44]) rfl ?_);at_builtin;refine Kd.Jm (Kd.int .i64) (w0:=w) w.heap.size rfl (.tmp 41) (.tmp 44) 45 3 (.int .i64 0) 8 rfl Try.underlying45 Wg rfl (by decide) (by omega) μ φ ((Qp D ζ).f1) [.int .i64 ((Qp D ζ).f1)] (fun _=>True) (fun _=>False) rfl (by first|(go_simp;done)|(go_simp;rfl)) ?aP (fun _ hk=>hk.elim) ?aF ?aO ?aB ?aS ?aL ?_;(case aP=>exact rfl);(case aB=>exact bel);(case aF=>exact(fun _ _=>trivial));(case aO=>exact(by(with_reducible repeat first|apply Kd.Qk|apply Kd.Qj|apply Kd.Qn);exact Kd.Qq (Kd.Qs (Kd.Qs (Kd.Qw HO_114000.out cg.out (by decide)) (fun _ hk=>hk.2) (.int .i64 ((Qp D ζ).f0))) (fun _ hk=>hk.2) (.int .i64 ((Qp D ζ).f1))) (fun _ hk=>trivial)));(case aS=>exact(Qi bel));(case aL=>have:=iz.out;omega);intro ka nz ho hb hg hat;rw[← dy.out] at ho;have d5:=Aside0.mk ho;replace O:=Aside0.mk (Zb (g:= τ) (o:=.cells #[.int .i64 I,.int .i64 J] 23 (0,0)) (bka O) hg (Kd.X1 HO_114000.out O.out (by decide)));replace Y:=Aside0.mk (Zb (g:=bn) (o:=.cells #[.slice η B.length δ,.slice (some e0) D.length ε] 27 (0,0)) (bka Y) hg (Kd.X1 HO_114000.out Y.out (by decide)));replace L:=Aside0.mk (Zb (g:=aa) (o:=.cells #[.slice none 0 0,.slice none 0 0,.slice none 0 0] 47 (0,0)) (bka L) hg (Kd.X1 HO_114000.out L.out (by decide)));replace Z:=Aside0.mk (Zb (g:=ai) (o:=.cells #[μ,.slice none 0 0,.slice none 0 0] 47 (0,0)) (bka Z) hg (Kd.X1 HO_114000.out Z.out (by decide)));replace cg:=Aside0.mk (Zb (g:=h7) (o:=.cells #[.int .i64 ((Qp D ζ).f0),.int .i64 ((Qp D ζ).f1)] 62 (0,0)) (by(with_reducible repeat first|apply Qd|apply Qa|apply Qe);refine Qv (cs:=#[.int .i64 ((Qp D ζ).f0),.int .i64 0]) ?_ 1 _ rfl;(with_reducible repeat first|apply Qd|apply Qa|apply Qe);refine Qv (cs:=#[.int .i64 0,.int .i64 0]) ?_ 0 _ rfl;(with_reducible repeat first|apply Qd|apply Qa|apply Qe);exact cg.out) hg (Kd.X1 HO_114000.out cg.out (by decide)));replace HB:=Aside0.mk hb;clear HO_114000;clear ho hb hg hat;obtain⟨kd,ke,kf⟩:=Kd.Q4 d5.out;subst kf;obtain⟨fk,fl,ir,fm,fn,it⟩:=qD3 Z.out))
          go_roundg k1
          case measure=>have:= ξ.out;omega
          case rel=>exact⟨(wrap64 (ζ + 1)),(dd),(.slice kd dd.length ke),qR,H',⟨by have:= ξ.out;omega⟩,⟨by(with_reducible repeat first|apply Kd.Qk|apply Kd.Qj|apply Kd.Qn);exact Kd.Qq (Kd.Qs (Kd.Qw d5.out Z.out (by decide)) (fun _ hk=>hk.2) _) (fun _ hk=>trivial)⟩,⟨bka O⟩,⟨bka Y⟩,⟨bka L⟩,⟨by(with_reducible repeat first|apply Qd|apply Qa|apply Qe);refine Qv (cs:=#[μ,.slice none 0 0,.slice none 0 0]) ?_ 0 _ rfl;(with_reducible repeat first|apply Qd|apply Qa|apply Qe);exact Z.out⟩,⟨bel⟩⟩
         ·rw[if_neg cf] at H
          exact absurd H (by simp)
        ·rw[if_neg ak] at H
         have c28b0:(((Qp D ζ).f0)==a2)=false:=beq_eq_false_iff_ne.mpr ak
         have c28b1:(((Qp D ζ).f0) != a2)=true:=bne_iff_ne.mpr ak
         have H':=Aside0.mk H
         clear H
         have ay:0≤(ζ :Int):=of_decide_eq_true (by assumption)
         have b0: ζ < (D.length:Int):=of_decide_eq_true (by assumption)
         obtain⟨e0,e5,a8,a9⟩:=Z8 ah.out ζ ay b0
         cases e5
         replace a8:=(HB.out.cell (World.block_lt_of_cell? w _ a8)).trans a8
         replace a9:=(HB.out.cell (World.block_lt_of_cell? w _ a9)).trans a9
         replace ay:=eq_true ay
         replace b0:=eq_true b0
         go_wp2_with (first|((with_reducible refine Qr (N:=11) rfl ?_);refine qE 11 #[.int .i64 0,.int .i64 0] 62 ?_;intro h7 hg n0 hbox hb;have cg:=Aside0.mk hbox;have j2:=sGe hg;have jl:=sGe hg;have cu:=sNl O hg;have cv:=sNg O hg;have cw:=sNl Y hg;have cx:=sNg Y hg;have cy:=sNl L hg;have cz:=sNg L hg;have d2:=sNl Z hg;have d3:=sNg Z hg;replace HO_114000:=sRb HO_114000 hb;replace O:=sBk O hb;replace Y:=sBk Y hb;replace L:=sBk L hb;replace Z:=sBk Z hb;replace HB:=sHb hb;clear hb hbox hg;have jf:=cv.out;have jg:=cu.out;have g7:=cx.out;have g8:=cw.out;have gv:=cz.out;have gw:=cy.out;have jh:=d3.out;have ji:=d2.out;obtain⟨fb,fh,fi,fj⟩:=qD2 cg.out))
         go_roundg k1
         case measure=>have:= ξ.out;omega
         case rel=>exact⟨(wrap64 (ζ + 1)),(φ),(μ),qR,H',⟨by have:= ξ.out;omega⟩,⟨by(with_reducible repeat first|apply Kd.Qk|apply Kd.Qj|apply Kd.Qn);exact Kd.Qq (Kd.Qs (Kd.Qs (Kd.Qw HO_114000.out cg.out (by decide)) (fun _ hk=>hk.2) (.int .i64 ((Qp D ζ).f0))) (fun _ hk=>hk.2) (.int .i64 ((Qp D ζ).f1))) (fun _ hk=>trivial)⟩,⟨bka O⟩,⟨bka Y⟩,⟨bka L⟩,⟨bka Z⟩,⟨bel⟩⟩
       ·rw[if_neg dc] at H
        exact absurd H (by simp)
      ·rw[if_neg am] at H
       exact absurd H (by simp)
     ·rw[if_neg bc] at H
      have c25b0:decide (ζ < (D.length:Int))=false:=decide_eq_false bc
      clear bc
      have H':=Aside0.mk H
      clear H
      have h0:=an.out
      have h4:=al.out
      have h5:=ab.out
      have h6:=ac.out
      have g2:=au.out
      have g9:=av.out
      obtain⟨dt,du,dv,dw⟩:=qD2 Y.out
      go_wp2
      go_loopg [51] k1 (fun kq n1 w'=>∃ (X:Int) (a1:List Int) (a7:List Int) (a5:Value) (a6:Value),n1 = .int .i64 X∧Aside0 (call_View.l1 kq a2 B (B.length:Int) X φ a1 a7=some (r1,r2,r3,r4))∧Aside0 (kq≤k1)∧Aside0 (Kd.R (Kd.int .i64) 3 w' w.heap.size (fun k_=>some k_≠(a5:Value).ownBlock∧some k_≠(a6:Value).ownBlock) μ φ)∧Aside0 (Kd.R (Kd.int .i64) 3 w' w.heap.size (fun k_=>some k_≠(μ :Value).ownBlock∧some k_≠(a6:Value).ownBlock) a5 a1)∧Aside0 (Kd.R (Kd.int .i64) 3 w' w.heap.size (fun k_=>some k_≠(μ :Value).ownBlock∧some k_≠(a5:Value).ownBlock) a6 a7)∧Aside0 (w'.heap[τ]?=some (.cells #[.int .i64 I,.int .i64 J] 23 (0,0)))∧Aside0 (w'.heap[bn]?=some (.cells #[(.slice η B.length δ),(.slice θ D.length ε)] 27 (0,0)))∧Aside0 (w'.heap[aa]?=some (.cells #[(.slice none 0 0),(.slice none 0 0),(.slice none 0 0)] 47 (0,0)))∧Aside0 (w'.heap[ai]?=some (.cells #[μ,a5,a6] 47 (0,0)))∧Aside0 (Below w.heap.size w w'))
      case atStart=>exact⟨(0),(([]:List Int)),(([]:List Int)),(.slice none 0 0),(.slice none 0 0),rfl,H',⟨Nat.le_refl _⟩,⟨by(with_reducible repeat first|apply Kd.Qk|apply Kd.Qj|apply Kd.Qn);exact Kd.Qq HO_114000.out (fun _ hk=>⟨(by simp[Value.ownBlock]),(by simp[Value.ownBlock])⟩)⟩,⟨by first|exact Kd.Yd _ _ _ _ _|exact Kd.Je _ _ _ _ _|exact Kd.Jb _ _ _ _ _|exact Kd.Jd _ _ _ _ _|exact Kd.Jc _ _ _ _ _⟩,⟨by first|exact Kd.Yd _ _ _ _ _|exact Kd.Je _ _ _ _ _|exact Kd.Jb _ _ _ _ _|exact Kd.Jd _ _ _ _ _|exact Kd.Jc _ _ _ _ _⟩,O,Y,L,Z,HB⟩
      case round=>
       clear H'
       try clear c1
       try clear p1
       try clear q1
       try clear bl
       try clear c2
       try clear p2
       try clear c3
       try clear c4
       try clear c5
       try clear c5b0
       try clear c5b1
       try clear p6
       try clear c7
       try clear cb
       try clear mx
       try clear my
       try clear kb
       try clear ce
       try clear az
       try clear dx
       try clear cd
       try clear cr
       try clear k9
       try clear bc
       try clear c25b0
       try clear am
       try clear c26b0
       try clear dc
       try clear c27b0
       try clear ak
       try clear c28b0
       try clear c28b1
       try clear cf
       try clear n2
       try clear k3
       try clear l2
       try clear o0
       try clear k0
       try clear ep
       try clear k8
       try clear n3
       try clear o1
       try clear f9
       try clear eo
       try clear o2
       try clear ee
       try clear na
       try clear eh
       try clear bo
       try clear bp
       try clear cm
       try clear cn
       try clear dj
       try clear dl
       try clear bu
       try clear bw
       try clear ch
       try clear ci
       try clear dq
       try clear d7
       try clear d9
       try clear er
       try clear et
       try clear hu
       try clear hx
       try clear hy
       try clear fk
       try clear fl
       try clear ir
       try clear fb
       try clear fh
       try clear dt
       try clear du
       try clear br
       try clear bs
       try clear co
       try clear cp
       try clear dm
       try clear dp
       try clear bz
       try clear ca
       try clear cj
       try clear ck
       try clear dr
       try clear da
       try clear db
       try clear eu
       try clear ev
       try clear i0
       try clear i3
       try clear i4
       try clear fm
       try clear fn
       try clear it
       try clear fi
       try clear fj
       try clear dv
       try clear dw
       try clear a8
       try clear a9
       try clear ay
       try clear p2
       try clear p6
       try clear b0
       obtain⟨X,a1,a7,a5,a6,rfl,HA,bm,HO_114000,HO_114001,HO_114002,O,Y,L,Z,HB⟩:=hrel
       cases gk with
       |zero=>exact absurd HA.out (by simp[call_View.l1])
       |succ k2=>
        have H:=HA.out
        clear HA
        simp only[call_View.l1] at H
        by_cases eb:X<(B.length:Int)
        ·rw[if_pos eb] at H
         have c53b0:decide (X<(B.length:Int))=true:=decide_eq_true eb
         clear eb
         by_cases ec:0≤X
         ·rw[if_pos ec] at H
          have c54b0:decide (0≤X)=true:=decide_eq_true ec
          clear ec
          by_cases ha:X<(B.length:Int)
          ·rw[if_pos ha] at H
           have c55b0:decide (X<(B.length:Int))=true:=decide_eq_true ha
           clear ha
           by_cases ea:((Qg B X).f2)=a2
           ·rw[if_pos ea] at H
            have c56b0:(((Qg B X).f2)==a2)=true:=beq_iff_eq.mpr ea
            have c56b1:(((Qg B X).f2) != a2)=false:=bne_eq_false_iff_eq.mpr ea
            clear ea
            by_cases ef:((Qg B X).f1)>0
            ·rw[if_pos ef] at H
             have c57b0:decide (0<((Qg B X).f1))=true:=decide_eq_true ef
             clear ef
             by_cases ei:a1.length<17592186044416
             ·rw[if_pos ei] at H
              have jo:=Aside0.mk ei
              clear ei
              obtain⟨fa,df⟩:∃ y_:List Int,y_=(a1 ++ [(Qg B X).f0]):=⟨_,rfl⟩
              replace H:(call_View.l1 k2 a2 B (B.length:Int) (wrap64 (X+1)) φ fa a7)=some (r1,r2,r3,r4):=by first|(rw[df];with_reducible exact H)|(have ρ:=(Option.bind_some _ _).symm.trans H;rw[df];with_reducible exact ρ)|(have ρ:=(Option.bind_some _ _).symm.trans H;with_reducible exact ρ)|with_reducible exact H|(rw[df];exact H)|exact H
              have jp:=Aside0.mk df
              clear df
              have H':=Aside0.mk H
              clear H
              have ae:0≤(X:Int):=of_decide_eq_true (by assumption)
              have aj:X<(B.length:Int):=of_decide_eq_true (by assumption)
              obtain⟨b1,de,χ,ψ,ω⟩:=Z3 ag.out X ae aj
              cases de
              replace χ :=(HB.out.cell (World.block_lt_of_cell? w _ χ)).trans χ
              replace ψ :=(HB.out.cell (World.block_lt_of_cell? w _ ψ)).trans ψ
              replace ω :=(HB.out.cell (World.block_lt_of_cell? w _ ω)).trans ω
              replace ae:=eq_true ae
              replace aj:=eq_true aj
              go_wp2_with (first|((with_reducible refine Qr (N:=13) rfl ?_);refine qE 13 #[.int .i64 0,.int .i64 0,.int .i64 0] 56 ?_;intro σ hg nb hbox hb;have ν :=Aside0.mk hbox;have ed:=sGe hg;have ej:=sGe hg;have bb:=sNl O hg;have be:=sNg O hg;have bf:=sNl Y hg;have bg:=sNg Y hg;have bh:=sNl L hg;have bi:=sNg L hg;have bj:=sNl Z hg;have bk:=sNg Z hg;replace HO_114000:=sRb HO_114000 hb;replace HO_114001:=sRb HO_114001 hb;replace HO_114002:=sRb HO_114002 hb;replace O:=sBk O hb;replace Y:=sBk Y hb;replace L:=sBk L hb;replace Z:=sBk Z hb;replace HB:=sHb hb;clear hb hbox hg;have jj:=be.out;have jk:=bb.out;have ib:=bg.out;have ic:=bf.out;have i5:=bi.out;have i6:=bh.out;have ff:=bk.out;have fg:=bj.out;obtain⟨gi,gj,m3,gl,gm,m4⟩:=qD3 ν.out;have ga:=b3.out;have gz:=b2.out;have km:=av.out;have kn:=au.out;have j3:=ba.out;have j4:=b8.out;obtain⟨fr,ft,m5,fu,fv,m6⟩:=qD3 Z.out)|((with_reducible refine Xc (b:=.append) (xs:=#[.tmp 72,.tmp 75]) rfl ?_);at_builtin;refine Kd.Jm (Kd.int .i64) (w0:=w) w.heap.size rfl (.tmp 72) (.tmp 75) 45 3 (.int .i64 0) 8 rfl Try.underlying45 Wg rfl (by decide) (by omega) a5 a1 ((Qg B X).f0) [.int .i64 ((Qg B X).f0)] (fun k_=>some k_≠(μ :Value).ownBlock∧some k_≠(a6:Value).ownBlock) (fun _=>False) rfl (by first|(go_simp;done)|(go_simp;rfl)) ?aP (fun _ hk=>hk.elim) ?aF ?aO ?aB ?aS ?aL ?_;(case aP=>exact rfl);(case aB=>exact bel);(case aF=>exact(fun k_ hk=>⟨Kd.fresh' (Kd.Zy (by(with_reducible repeat first|apply Kd.Qk|apply Kd.Qj|apply Kd.Qn);exact(Kd.Qq (Kd.Qs (Kd.Qs (Kd.Qs (Kd.Qw HO_114000.out ν.out (by decide)) (fun _ hk=>hk.2) (.int .i64 ((Qg B X).f0))) (fun _ hk=>hk.2) (.int .i64 ((Qg B X).f1))) (fun _ hk=>hk.2) (.int .i64 ((Qg B X).f2))) (fun _ h_=>h_.1)))) k_ hk,Kd.fresh' (Kd.Zy (by(with_reducible repeat first|apply Kd.Qk|apply Kd.Qj|apply Kd.Qn);exact(Kd.Qq (Kd.Qs (Kd.Qs (Kd.Qs (Kd.Qw HO_114002.out ν.out (by decide)) (fun _ hk=>hk.2) (.int .i64 ((Qg B X).f0))) (fun _ hk=>hk.2) (.int .i64 ((Qg B X).f1))) (fun _ hk=>hk.2) (.int .i64 ((Qg B X).f2))) (fun _ h_=>h_.1)))) k_ hk⟩));(case aO=>exact(by(with_reducible repeat first|apply Kd.Qk|apply Kd.Qj|apply Kd.Qn);exact Kd.Qq (Kd.Qs (Kd.Qs (Kd.Qs (Kd.Qw HO_114001.out ν.out (by decide)) (fun _ hk=>hk.2) (.int .i64 ((Qg B X).f0))) (fun _ hk=>hk.2) (.int .i64 ((Qg B X).f1))) (fun _ hk=>hk.2) (.int .i64 ((Qg B X).f2))) (fun _ hk=>⟨hk.1.1,hk.1.2⟩)));(case aS=>exact(Qi bel));(case aL=>have:=jo.out;omega);intro ny iv ho hb hg hat;rw[← jp.out] at ho;have he:=Aside0.mk ho;replace HO_114000:=Aside0.mk (Kd.J8 (ok:=(fun k_=>some k_≠(a6:Value).ownBlock)) (by(with_reducible repeat first|apply Kd.Qk|apply Kd.Qj|apply Kd.Qn);exact Kd.Qq (Kd.Qs (Kd.Qs (Kd.Qs (Kd.Qw HO_114000.out ν.out (by decide)) (fun _ hk=>hk.2) (.int .i64 ((Qg B X).f0))) (fun _ hk=>hk.2) (.int .i64 ((Qg B X).f1))) (fun _ hk=>hk.2) (.int .i64 ((Qg B X).f2))) (fun _ hk=>⟨hk.1.2,hk.1.1⟩)) hg hat);replace HO_114002:=Aside0.mk (Kd.J8 (ok:=(fun k_=>some k_≠(μ :Value).ownBlock)) (by(with_reducible repeat first|apply Kd.Qk|apply Kd.Qj|apply Kd.Qn);exact Kd.Qq (Kd.Qs (Kd.Qs (Kd.Qs (Kd.Qw HO_114002.out ν.out (by decide)) (fun _ hk=>hk.2) (.int .i64 ((Qg B X).f0))) (fun _ hk=>hk.2) (.int .i64 ((Qg B X).f1))) (fun _ hk=>hk.2) (.int .i64 ((Qg B X).f2))) (fun _ hk=>⟨hk.1.1,hk.1.2⟩)) hg hat);replace O:=Aside0.mk (Zb (g:= τ) (o:=.cells #[.int .i64 I,.int .i64 J] 23 (0,0)) (bka O) hg (Kd.X1 HO_114001.out O.out (by decide)));replace Y:=Aside0.mk (Zb (g:=bn) (o:=.cells #[.slice (some b1) B.length δ,.slice θ D.length ε] 27 (0,0)) (bka Y) hg (Kd.X1 HO_114001.out Y.out (by decide)));replace L:=Aside0.mk (Zb (g:=aa) (o:=.cells #[.slice none 0 0,.slice none 0 0,.slice none 0 0] 47 (0,0)) (bka L) hg (Kd.X1 HO_114001.out L.out (by decide)));replace Z:=Aside0.mk (Zb (g:=ai) (o:=.cells #[μ,a5,a6] 47 (0,0)) (bka Z) hg (Kd.X1 HO_114001.out Z.out (by decide)));replace ν :=Aside0.mk (Zb (g:=σ) (o:=.cells #[.int .i64 ((Qg B X).f0),.int .i64 ((Qg B X).f1),.int .i64 ((Qg B X).f2)] 56 (0,0)) (by(with_reducible repeat first|apply Qd|apply Qa|apply Qe);refine Qv (cs:=#[.int .i64 ((Qg B X).f0),.int .i64 ((Qg B X).f1),.int .i64 0]) ?_ 2 _ rfl;(with_reducible repeat first|apply Qd|apply Qa|apply Qe);refine Qv (cs:=#[.int .i64 ((Qg B X).f0),.int .i64 0,.int .i64 0]) ?_ 1 _ rfl;(with_reducible repeat first|apply Qd|apply Qa|apply Qe);refine Qv (cs:=#[.int .i64 0,.int .i64 0,.int .i64 0]) ?_ 0 _ rfl;(with_reducible repeat first|apply Qd|apply Qa|apply Qe);exact ν.out) hg (Kd.X1 HO_114001.out ν.out (by decide)));replace HB:=Aside0.mk hb;clear HO_114001;clear ho hb hg hat;obtain⟨d6,d8,dk⟩:=Kd.Q4 he.out;subst dk;obtain⟨ia,ii,m7,ij,iq,m8⟩:=qD3 Z.out))
              go_roundg k2
              case measure=>have:= ξ.out;have:=bm.out;omega
              case rel=>exact⟨(wrap64 (X+1)),(fa),(a7),(.slice d6 fa.length d8),(a6),qR,H',⟨by have:= ξ.out;have:=bm.out;omega⟩,⟨by(with_reducible repeat first|apply Kd.Qk|apply Kd.Qj|apply Kd.Qn);exact Kd.Qq (Kd.Qs (Kd.Qw HO_114000.out Z.out (by decide)) (fun _ hk=>hk.2) _) (fun _ hk=>⟨hk.1.2,hk.1.1⟩)⟩,⟨by(with_reducible repeat first|apply Kd.Qk|apply Kd.Qj|apply Kd.Qn);exact Kd.Qq (Kd.Qs (Kd.Qw he.out Z.out (by decide)) (fun _ hk=>hk.2) _) (fun _ hk=>⟨hk.1.1,hk.1.2⟩)⟩,⟨by(with_reducible repeat first|apply Kd.Qk|apply Kd.Qj|apply Kd.Qn);exact Kd.Qq (Kd.Qs (Kd.Qw HO_114002.out Z.out (by decide)) (fun _ hk=>hk.2) _) (fun _ hk=>⟨hk.1.1,hk.1.2⟩)⟩,⟨bka O⟩,⟨bka Y⟩,⟨bka L⟩,⟨by(with_reducible repeat first|apply Qd|apply Qa|apply Qe);refine Qv (cs:=#[μ,a5,a6]) ?_ 1 _ rfl;(with_reducible repeat first|apply Qd|apply Qa|apply Qe);exact Z.out⟩,⟨bel⟩⟩
             ·rw[if_neg ei] at H
              exact absurd H (by simp)
            ·rw[if_neg ef] at H
             have c57b0:decide (0<((Qg B X).f1))=false:=decide_eq_false ef
             clear ef
             by_cases hh:a7.length<17592186044416
             ·rw[if_pos hh] at H
              have jq:=Aside0.mk hh
              clear hh
              obtain⟨fo,dh⟩:∃ y_:List Int,y_=(a7 ++ [(Qg B X).f0]):=⟨_,rfl⟩
              replace H:(call_View.l1 k2 a2 B (B.length:Int) (wrap64 (X+1)) φ a1 fo)=some (r1,r2,r3,r4):=by first|(rw[dh];with_reducible exact H)|(have ρ:=(Option.bind_some _ _).symm.trans H;rw[dh];with_reducible exact ρ)|(have ρ:=(Option.bind_some _ _).symm.trans H;with_reducible exact ρ)|with_reducible exact H|(rw[dh];exact H)|exact H
              have jr:=Aside0.mk dh
              clear dh
              have H':=Aside0.mk H
              clear H
              have ae:0≤(X:Int):=of_decide_eq_true (by assumption)
              have aj:X<(B.length:Int):=of_decide_eq_true (by assumption)
              obtain⟨b1,de,χ,ψ,ω⟩:=Z3 ag.out X ae aj
              cases de
              replace χ :=(HB.out.cell (World.block_lt_of_cell? w _ χ)).trans χ
              replace ψ :=(HB.out.cell (World.block_lt_of_cell? w _ ψ)).trans ψ
              replace ω :=(HB.out.cell (World.block_lt_of_cell? w _ ω)).trans ω
              replace ae:=eq_true ae
              replace aj:=eq_true aj
              go_wp2_with (first|((with_reducible refine Qr (N:=13) rfl ?_);refine qE 13 #[.int .i64 0,.int .i64 0,.int .i64 0] 56 ?_;intro σ hg d1 hbox hb;have ν :=Aside0.mk hbox;have ed:=sGe hg;have ej:=sGe hg;have bb:=sNl O hg;have be:=sNg O hg;have bf:=sNl Y hg;have bg:=sNg Y hg;have bh:=sNl L hg;have bi:=sNg L hg;have bj:=sNl Z hg;have bk:=sNg Z hg;replace HO_114000:=sRb HO_114000 hb;replace HO_114001:=sRb HO_114001 hb;replace HO_114002:=sRb HO_114002 hb;replace O:=sBk O hb;replace Y:=sBk Y hb;replace L:=sBk L hb;replace Z:=sBk Z hb;replace HB:=sHb hb;clear hb hbox hg;have ko:=be.out;have kp:=bb.out;have j5:=bg.out;have j6:=bf.out;have i1:=bi.out;have i2:=bh.out;have j7:=bk.out;have j8:=bj.out;obtain⟨ez,f3,m9,f4,f7,ma⟩:=qD3 ν.out;have i7:=b3.out;have i9:=b2.out;have j9:=av.out;have ja:=au.out;have jb:=ba.out;have jc:=b8.out;obtain⟨fw,fx,mb,fy,fz,mc⟩:=qD3 Z.out)|((with_reducible refine Xc (b:=.append) (xs:=#[.tmp 56,.tmp 59]) rfl ?_);at_builtin;refine Kd.Jm (Kd.int .i64) (w0:=w) w.heap.size rfl (.tmp 56) (.tmp 59) 45 3 (.int .i64 0) 8 rfl Try.underlying45 Wg rfl (by decide) (by omega) a6 a7 ((Qg B X).f0) [.int .i64 ((Qg B X).f0)] (fun k_=>some k_≠(μ :Value).ownBlock∧some k_≠(a5:Value).ownBlock) (fun _=>False) rfl (by first|(go_simp;done)|(go_simp;rfl)) ?aP (fun _ hk=>hk.elim) ?aF ?aO ?aB ?aS ?aL ?_;(case aP=>exact rfl);(case aB=>exact bel);(case aF=>exact(fun k_ hk=>⟨Kd.fresh' (Kd.Zy (by(with_reducible repeat first|apply Kd.Qk|apply Kd.Qj|apply Kd.Qn);exact(Kd.Qq (Kd.Qs (Kd.Qs (Kd.Qs (Kd.Qw HO_114000.out ν.out (by decide)) (fun _ hk=>hk.2) (.int .i64 ((Qg B X).f0))) (fun _ hk=>hk.2) (.int .i64 ((Qg B X).f1))) (fun _ hk=>hk.2) (.int .i64 ((Qg B X).f2))) (fun _ h_=>h_.1)))) k_ hk,Kd.fresh' (Kd.Zy (by(with_reducible repeat first|apply Kd.Qk|apply Kd.Qj|apply Kd.Qn);exact(Kd.Qq (Kd.Qs (Kd.Qs (Kd.Qs (Kd.Qw HO_114001.out ν.out (by decide)) (fun _ hk=>hk.2) (.int .i64 ((Qg B X).f0))) (fun _ hk=>hk.2) (.int .i64 ((Qg B X).f1))) (fun _ hk=>hk.2) (.int .i64 ((Qg B X).f2))) (fun _ h_=>h_.1)))) k_ hk⟩));(case aO=>exact(by(with_reducible repeat first|apply Kd.Qk|apply Kd.Qj|apply Kd.Qn);exact Kd.Qq (Kd.Qs (Kd.Qs (Kd.Qs (Kd.Qw HO_114002.out ν.out (by decide)) (fun _ hk=>hk.2) (.int .i64 ((Qg B X).f0))) (fun _ hk=>hk.2) (.int .i64 ((Qg B X).f1))) (fun _ hk=>hk.2) (.int .i64 ((Qg B X).f2))) (fun _ hk=>⟨hk.1.1,hk.1.2⟩)));(case aS=>exact(Qi bel));(case aL=>have:=jq.out;omega);intro kg l3 ho hb hg hat;rw[← jr.out] at ho;have di:=Aside0.mk ho;replace HO_114000:=Aside0.mk (Kd.J8 (ok:=(fun k_=>some k_≠(a5:Value).ownBlock)) (by(with_reducible repeat first|apply Kd.Qk|apply Kd.Qj|apply Kd.Qn);exact Kd.Qq (Kd.Qs (Kd.Qs (Kd.Qs (Kd.Qw HO_114000.out ν.out (by decide)) (fun _ hk=>hk.2) (.int .i64 ((Qg B X).f0))) (fun _ hk=>hk.2) (.int .i64 ((Qg B X).f1))) (fun _ hk=>hk.2) (.int .i64 ((Qg B X).f2))) (fun _ hk=>⟨hk.1.1,hk.1.2⟩)) hg hat);replace HO_114001:=Aside0.mk (Kd.J8 (ok:=(fun k_=>some k_≠(μ :Value).ownBlock)) (by(with_reducible repeat first|apply Kd.Qk|apply Kd.Qj|apply Kd.Qn);exact Kd.Qq (Kd.Qs (Kd.Qs (Kd.Qs (Kd.Qw HO_114001.out ν.out (by decide)) (fun _ hk=>hk.2) (.int .i64 ((Qg B X).f0))) (fun _ hk=>hk.2) (.int .i64 ((Qg B X).f1))) (fun _ hk=>hk.2) (.int .i64 ((Qg B X).f2))) (fun _ hk=>⟨hk.1.1,hk.1.2⟩)) hg hat);replace O:=Aside0.mk (Zb (g:= τ) (o:=.cells #[.int .i64 I,.int .i64 J] 23 (0,0)) (bka O) hg (Kd.X1 HO_114002.out O.out (by decide)));replace Y:=Aside0.mk (Zb (g:=bn) (o:=.cells #[.slice (some b1) B.length δ,.slice θ D.length ε] 27 (0,0)) (bka Y) hg (Kd.X1 HO_114002.out Y.out (by decide)));replace L:=Aside0.mk (Zb (g:=aa) (o:=.cells #[.slice none 0 0,.slice none 0 0,.slice none 0 0] 47 (0,0)) (bka L) hg (Kd.X1 HO_114002.out L.out (by decide)));replace Z:=Aside0.mk (Zb (g:=ai) (o:=.cells #[μ,a5,a6] 47 (0,0)) (bka Z) hg (Kd.X1 HO_114002.out Z.out (by decide)));replace ν :=Aside0.mk (Zb (g:=σ) (o:=.cells #[.int .i64 ((Qg B X).f0),.int .i64 ((Qg B X).f1),.int .i64 ((Qg B X).f2)] 56 (0,0)) (by(with_reducible repeat first|apply Qd|apply Qa|apply Qe);refine Qv (cs:=#[.int .i64 ((Qg B X).f0),.int .i64 ((Qg B X).f1),.int .i64 0]) ?_ 2 _ rfl;(with_reducible repeat first|apply Qd|apply Qa|apply Qe);refine Qv (cs:=#[.int .i64 ((Qg B X).f0),.int .i64 0,.int .i64 0]) ?_ 1 _ rfl;(with_reducible repeat first|apply Qd|apply Qa|apply Qe);refine Qv (cs:=#[.int .i64 0,.int .i64 0,.int .i64 0]) ?_ 0 _ rfl;(with_reducible repeat first|apply Qd|apply Qa|apply Qe);exact ν.out) hg (Kd.X1 HO_114002.out ν.out (by decide)));replace HB:=Aside0.mk hb;clear HO_114002;clear ho hb hg hat;obtain⟨kh,ki,kj⟩:=Kd.Q4 di.out;subst kj;obtain⟨me,mf,mg,mh,mi,mj⟩:=qD3 Z.out))
              go_roundg k2
              case measure=>have:= ξ.out;have:=bm.out;omega
              case rel=>exact⟨(wrap64 (X+1)),(a1),(fo),(a5),(.slice kh fo.length ki),qR,H',⟨by have:= ξ.out;have:=bm.out;omega⟩,⟨by(with_reducible repeat first|apply Kd.Qk|apply Kd.Qj|apply Kd.Qn);exact Kd.Qq (Kd.Qs (Kd.Qw HO_114000.out Z.out (by decide)) (fun _ hk=>hk.2) _) (fun _ hk=>⟨hk.1.1,hk.1.2⟩)⟩,⟨by(with_reducible repeat first|apply Kd.Qk|apply Kd.Qj|apply Kd.Qn);exact Kd.Qq (Kd.Qs (Kd.Qw HO_114001.out Z.out (by decide)) (fun _ hk=>hk.2) _) (fun _ hk=>⟨hk.1.1,hk.1.2⟩)⟩,⟨by(with_reducible repeat first|apply Kd.Qk|apply Kd.Qj|apply Kd.Qn);exact Kd.Qq (Kd.Qs (Kd.Qw di.out Z.out (by decide)) (fun _ hk=>hk.2) _) (fun _ hk=>⟨hk.1.1,hk.1.2⟩)⟩,⟨bka O⟩,⟨bka Y⟩,⟨bka L⟩,⟨by(with_reducible repeat first|apply Qd|apply Qa|apply Qe);refine Qv (cs:=#[μ,a5,a6]) ?_ 2 _ rfl;(with_reducible repeat first|apply Qd|apply Qa|apply Qe);exact Z.out⟩,⟨bel⟩⟩
             ·rw[if_neg hh] at H
              exact absurd H (by simp)
           ·rw[if_neg ea] at H
            have c56b0:(((Qg B X).f2)==a2)=false:=beq_eq_false_iff_ne.mpr ea
            have c56b1:(((Qg B X).f2) != a2)=true:=bne_iff_ne.mpr ea
            have H':=Aside0.mk H
            clear H
            have ae:0≤(X:Int):=of_decide_eq_true (by assumption)
            have aj:X<(B.length:Int):=of_decide_eq_true (by assumption)
            obtain⟨b1,de,χ,ψ,ω⟩:=Z3 ag.out X ae aj
            cases de
            replace χ :=(HB.out.cell (World.block_lt_of_cell? w _ χ)).trans χ
            replace ψ :=(HB.out.cell (World.block_lt_of_cell? w _ ψ)).trans ψ
            replace ω :=(HB.out.cell (World.block_lt_of_cell? w _ ω)).trans ω
            replace ae:=eq_true ae
            replace aj:=eq_true aj
            go_wp2_with (first|((with_reducible refine Qr (N:=13) rfl ?_);refine qE 13 #[.int .i64 0,.int .i64 0,.int .i64 0] 56 ?_;intro σ hg o3 hbox hb;have ν :=Aside0.mk hbox;have ed:=sGe hg;have ej:=sGe hg;have bb:=sNl O hg;have be:=sNg O hg;have bf:=sNl Y hg;have bg:=sNg Y hg;have bh:=sNl L hg;have bi:=sNg L hg;have bj:=sNl Z hg;have bk:=sNg Z hg;replace HO_114000:=sRb HO_114000 hb;replace HO_114001:=sRb HO_114001 hb;replace HO_114002:=sRb HO_114002 hb;replace O:=sBk O hb;replace Y:=sBk Y hb;replace L:=sBk L hb;replace Z:=sBk Z hb;replace HB:=sHb hb;clear hb hbox hg;have nm:=be.out;have nn:=bb.out;have no:=bg.out;have np:=bf.out;have nq:=bi.out;have nr:=bh.out;have ks:=bk.out;have kt:=bj.out;obtain⟨gn,gp,ml,gq,gr,mm⟩:=qD3 ν.out))
            go_roundg k2
            case measure=>have:= ξ.out;have:=bm.out;omega
            case rel=>exact⟨(wrap64 (X+1)),(a1),(a7),(a5),(a6),qR,H',⟨by have:= ξ.out;have:=bm.out;omega⟩,⟨by(with_reducible repeat first|apply Kd.Qk|apply Kd.Qj|apply Kd.Qn);exact Kd.Qq (Kd.Qs (Kd.Qs (Kd.Qs (Kd.Qw HO_114000.out ν.out (by decide)) (fun _ hk=>hk.2) (.int .i64 ((Qg B X).f0))) (fun _ hk=>hk.2) (.int .i64 ((Qg B X).f1))) (fun _ hk=>hk.2) (.int .i64 ((Qg B X).f2))) (fun _ hk=>⟨hk.1.1,hk.1.2⟩)⟩,⟨by(with_reducible repeat first|apply Kd.Qk|apply Kd.Qj|apply Kd.Qn);exact Kd.Qq (Kd.Qs (Kd.Qs (Kd.Qs (Kd.Qw HO_114001.out ν.out (by decide)) (fun _ hk=>hk.2) (.int .i64 ((Qg B X).f0))) (fun _ hk=>hk.2) (.int .i64 ((Qg B X).f1))) (fun _ hk=>hk.2) (.int .i64 ((Qg B X).f2))) (fun _ hk=>⟨hk.1.1,hk.1.2⟩)⟩,⟨by(with_reducible repeat first|apply Kd.Qk|apply Kd.Qj|apply Kd.Qn);exact Kd.Qq (Kd.Qs (Kd.Qs (Kd.Qs (Kd.Qw HO_114002.out ν.out (by decide)) (fun _ hk=>hk.2) (.int .i64 ((Qg B X).f0))) (fun _ hk=>hk.2) (.int .i64 ((Qg B X).f1))) (fun _ hk=>hk.2) (.int .i64 ((Qg B X).f2))) (fun _ hk=>⟨hk.1.1,hk.1.2⟩)⟩,⟨bka O⟩,⟨bka Y⟩,⟨bka L⟩,⟨bka Z⟩,⟨bel⟩⟩
          ·rw[if_neg ha] at H
           exact absurd H (by simp)
         ·rw[if_neg ec] at H
          exact absurd H (by simp)
        ·rw[if_neg eb] at H
         have c53b0:decide (X<(B.length:Int))=false:=decide_eq_false eb
         clear eb
         simp only[Option.some.injEq,Prod.mk.injEq] at H
         obtain⟨rfl,rfl,rfl,rfl⟩:=H
         have ns:=b3.out
         have nt:=b2.out
         have nu:=av.out
         have nv:=au.out
         have nw:=ba.out
         have nx:=b8.out
         obtain⟨mn,mo,mq,mr,ms,mt⟩:=qD3 Z.out
         obtain⟨fp,fq,kk⟩:=Kd.Q4 HO_114000.out
         subst kk
         have ku:=ap.out
         have kv:=ao.out
         have jd:=ac.out
         have je:=ab.out
         obtain⟨js,jt,mu,ju,jv,mw⟩:=qD3 L.out
         obtain⟨hj,hl,jw⟩:=Kd.Q4 HO_114001.out
         subst jw
         obtain⟨jx,jy,jz⟩:=Kd.Q4 HO_114002.out
         subst jz
         go_wp2
         refine bodyPost_ret (Xi rfl _ _ aa 47 #[.slice fp φ.length fq,.slice hj a1.length hl,.slice jx a7.length jy] (0,0) _ rfl (by refine Qv (cs:=#[.slice fp φ.length fq,.slice hj a1.length hl,.slice none 0 0]) ?_ 2 _ rfl;refine Qv (cs:=#[.slice fp φ.length fq,.slice none 0 0,.slice none 0 0]) ?_ 1 _ rfl;refine Qv (cs:=#[.slice none 0 0,.slice none 0 0,.slice none 0 0]) ?_ 0 _ rfl;exact L.out) Try.underlying47 rfl kr) rfl ?_
         exact⟨_,_,_,by first|rfl|(simp[Qz,Qy] <;> rfl)|(simp[*,Qz,Qy] <;> rfl),by(with_reducible repeat first|apply Kd.Qk|apply Kd.Qj|apply Kd.Qn);exact Kd.Qq (Kd.Qs (Kd.Qs (Kd.Qs (Kd.Qw HO_114000.out L.out (by decide)) (fun _ hk=>hk.2) _) (fun _ hk=>hk.2) _) (fun _ hk=>hk.2) _) (fun _ hk=>⟨hk.1.1,hk.1.2⟩),by(with_reducible repeat first|apply Kd.Qk|apply Kd.Qj|apply Kd.Qn);exact Kd.Qq (Kd.Qs (Kd.Qs (Kd.Qs (Kd.Qw HO_114001.out L.out (by decide)) (fun _ hk=>hk.2) _) (fun _ hk=>hk.2) _) (fun _ hk=>hk.2) _) (fun _ hk=>⟨hk.1.1,hk.1.2⟩),by(with_reducible repeat first|apply Kd.Qk|apply Kd.Qj|apply Kd.Qn);exact Kd.Qq (Kd.Qs (Kd.Qs (Kd.Qs (Kd.Qw HO_114002.out L.out (by decide)) (fun _ hk=>hk.2) _) (fun _ hk=>hk.2) _) (fun _ hk=>hk.2) _) (fun _ hk=>⟨hk.1.1,hk.1.2⟩),bel⟩
  ·replace c7:=Bool.eq_false_iff.mpr c7
   subst c7
   have H1:(some (([]:List Int),([]:List Int),([]:List Int),191))=some (r1,r2,r3,r4):=by rw[if_neg (show ¬ (false=true) by decide)] at H;exact H
   clear H
   have H:=H1
   clear H1
   simp only[Option.some.injEq,Prod.mk.injEq] at H
   obtain⟨rfl,rfl,rfl,rfl⟩:=H
   go_enter Try.func19,Try.ntmps19
   go_wp2_with (first|((with_reducible refine Qr (N:=3) rfl ?_);refine qE 3 #[.int .i64 I,.int .i64 J] 23 ?_;intro τ hg ik hbox hb;have O:=Aside0.mk hbox;have ey:=sGe hg;have f8:=sGe hg;replace HB:=sHb hb;clear hb hbox hg)|((with_reducible refine Qr (N:=4) rfl ?_);refine qE 4 #[.slice η B.length δ,.slice θ D.length ε] 27 ?_;intro bn hg ih hbox hb;have Y:=Aside0.mk hbox;have gx:=sGe hg;have gy:=sGe hg;have al:=sNl O hg;have an:=sNg O hg;replace O:=sBk O hb;replace HB:=sHb hb;clear hb hbox hg)|((with_reducible refine Qr (N:=6) rfl ?_);refine qE 6 #[.slice none 0 0,.slice none 0 0,.slice none 0 0] 47 ?_;intro aa hg iw hbox hb;have L:=Aside0.mk hbox;have en:=sGe hg;have ew:=sGe hg;have ao:=sNl O hg;have ap:=sNg O hg;have ab:=sNl Y hg;have ac:=sNg Y hg;replace O:=sBk O hb;replace Y:=sBk Y hb;replace HB:=sHb hb;clear hb hbox hg;have nc:=al.out;have nf:=an.out;have ng:=ao.out;have nh:=ap.out;obtain⟨kl,kw,kx,ky⟩:=qD2 O.out;have ni:=ab.out;have nj:=ac.out;obtain⟨kz,l4,l5,l6⟩:=qD2 Y.out)|((with_reducible refine Q0 (f:=14) rfl ?_);refine Zk (some 16) rfl rfl Try.func14 kr rfl #[.agg #[.int .i64 I,.int .i64 J],.agg #[.slice η B.length δ,.slice θ D.length ε]] rfl qM ?_;(with_reducible refine(call_Check.calls k I J _ _ B _ _ D a3 _ ?side1 ?side2 ?side3 ?side4 A4.out).mono ?_);(case side1=>exact(Kd.Qx ag.out HB.out));(case side2=>exact ar.out);(case side3=>exact(Kd.Qx ah.out HB.out));(case side4=>exact aw.out);rintro e cq ⟨rfl,hb⟩;refine⟨_,rfl, ?_⟩;replace O:=sBk O hb;replace Y:=sBk Y hb;replace L:=sBk L hb;replace HB:=sHb hb;(try clear hb);(try clear a0);(try clear hk);(try clear hi);obtain⟨l7,l8,l9,lb⟩:=qD2 O.out)|((with_reducible refine Q0 (f:=41) rfl ?_);refine Zk (some 25) rfl rfl Try.func41 kr rfl #[.int .i64 a2,.int .i64 0,.int .i64 (wrap64 (J-1))] rfl qM ?_;(with_reducible refine(call_within.calls a2 0 (wrap64 (J-1)) false _ A6.out).mono ?_);rintro e w' ⟨rfl,⟨nd,rfl⟩⟩;refine⟨_,rfl, ?_⟩;(try(rw[Gx cq];generalize hq_:World.drewN cq _=cq;have U:Aside0 (cq.heap[τ]?=some (.cells #[.int .i64 I,.int .i64 J] 23 (0,0))):=⟨by rw[← hq_];exact O.out⟩;have γ:Aside0 (cq.heap[bn]?=some (.cells #[.slice η B.length δ,.slice θ D.length ε] 27 (0,0))):=⟨by rw[← hq_];exact Y.out⟩;have ι :Aside0 (cq.heap[aa]?=some (.cells #[.slice none 0 0,.slice none 0 0,.slice none 0 0] 47 (0,0))):=⟨by rw[← hq_];exact L.out⟩;have κ :Aside0 (Below w.heap.size w cq):=⟨by rw[← hq_];exact HB.out⟩;clear O Y L HB hq_;have O:=U;have Y:=γ;have L:= ι;have HB:= κ;clear U γ ι κ));(try(have lc:cq.cell? ⟨τ,0,none⟩=some (.int .i64 I):=(Ql O.out 0).trans rfl));(try(have lf:cq.cell? ⟨τ,1,none⟩=some (.int .i64 J):=(Ql O.out 1).trans rfl));(try(have lg:=Q6 O.out 0));(try(have lh:=Q6 O.out 1));obtain⟨ll,lm,ln,lp,lq,lr⟩:=qD3 L.out))
   refine bodyPost_ret (Xi rfl _ _ aa 47 #[.slice none 0 0,.slice none 0 0,.slice none 0 0] (0,0) _ rfl (by refine Qv (cs:=#[.slice none 0 0,.slice none 0 0,.slice none 0 0]) ?_ 2 _ rfl;refine Qv (cs:=#[.slice none 0 0,.slice none 0 0,.slice none 0 0]) ?_ 1 _ rfl;refine Qv (cs:=#[.slice none 0 0,.slice none 0 0,.slice none 0 0]) ?_ 0 _ rfl;exact L.out) Try.underlying47 rfl kr) rfl ?_
   exact⟨_,_,_,by first|rfl|(simp[Qz,Qy] <;> rfl)|(simp[*,Qz,Qy] <;> rfl),by first|exact Kd.Yd _ _ _ _ _|exact Kd.Je _ _ _ _ _|exact Kd.Jb _ _ _ _ _|exact Kd.Jd _ _ _ _ _|exact Kd.Jc _ _ _ _ _,by first|exact Kd.Yd _ _ _ _ _|exact Kd.Je _ _ _ _ _|exact Kd.Jb _ _ _ _ _|exact Kd.Jd _ _ _ _ _|exact Kd.Jc _ _ _ _ _,by first|exact Kd.Yd _ _ _ _ _|exact Kd.Je _ _ _ _ _|exact Kd.Jb _ _ _ _ _|exact Kd.Jd _ _ _ _ _|exact Kd.Jc _ _ _ _ _,bel⟩
 ·rw[if_neg c5] at H
  have c5b0:(a3==0)=false:=beq_eq_false_iff_ne.mpr c5
  have c5b1:(a3 != 0)=true:=bne_iff_ne.mpr c5
  simp only[Option.some.injEq,Prod.mk.injEq] at H
  obtain⟨rfl,rfl,rfl,rfl⟩:=H
  go_enter Try.func19,Try.ntmps19
  go_wp2_with (first|((with_reducible refine Qr (N:=3) rfl ?_);refine qE 3 #[.int .i64 I,.int .i64 J] 23 ?_;intro τ hg ls hbox hb;have O:=Aside0.mk hbox;have ey:=sGe hg;have f8:=sGe hg;replace HB:=sHb hb;clear hb hbox hg)|((with_reducible refine Qr (N:=4) rfl ?_);refine qE 4 #[.slice η B.length δ,.slice θ D.length ε] 27 ?_;intro bn hg lu hbox hb;have Y:=Aside0.mk hbox;have gx:=sGe hg;have gy:=sGe hg;have al:=sNl O hg;have an:=sNg O hg;replace O:=sBk O hb;replace HB:=sHb hb;clear hb hbox hg)|((with_reducible refine Qr (N:=6) rfl ?_);refine qE 6 #[.slice none 0 0,.slice none 0 0,.slice none 0 0] 47 ?_;intro aa hg lv hbox hb;have L:=Aside0.mk hbox;have en:=sGe hg;have ew:=sGe hg;have ao:=sNl O hg;have ap:=sNg O hg;have ab:=sNl Y hg;have ac:=sNg Y hg;replace O:=sBk O hb;replace Y:=sBk Y hb;replace HB:=sHb hb;clear hb hbox hg;have k4:=al.out;have k5:=an.out;have k6:=ao.out;have k7:=ap.out;obtain⟨il,im,io,ip⟩:=qD2 O.out;have ix:=ab.out;have iy:=ac.out;obtain⟨gb,gg,gh,gs⟩:=qD2 Y.out)|((with_reducible refine Q0 (f:=14) rfl ?_);refine Zk (some 16) rfl rfl Try.func14 kr rfl #[.agg #[.int .i64 I,.int .i64 J],.agg #[.slice η B.length δ,.slice θ D.length ε]] rfl qM ?_;(with_reducible refine(call_Check.calls k I J _ _ B _ _ D a3 _ ?side1 ?side2 ?side3 ?side4 A4.out).mono ?_);(case side1=>exact(Kd.Qx ag.out HB.out));(case side2=>exact ar.out);(case side3=>exact(Kd.Qx ah.out HB.out));(case side4=>exact aw.out);rintro e lw ⟨rfl,hb⟩;refine⟨_,rfl, ?_⟩;replace O:=sBk O hb;replace Y:=sBk Y hb;replace L:=sBk L hb;replace HB:=sHb hb;(try clear hb);(try clear a0);(try clear hk);(try clear hi);obtain⟨lx,ly,lz,m0,m1,m2⟩:=qD3 L.out))
  refine bodyPost_ret (Xi rfl _ _ aa 47 #[.slice none 0 0,.slice none 0 0,.slice none 0 0] (0,0) _ rfl (by refine Qv (cs:=#[.slice none 0 0,.slice none 0 0,.slice none 0 0]) ?_ 2 _ rfl;refine Qv (cs:=#[.slice none 0 0,.slice none 0 0,.slice none 0 0]) ?_ 1 _ rfl;refine Qv (cs:=#[.slice none 0 0,.slice none 0 0,.slice none 0 0]) ?_ 0 _ rfl;exact L.out) Try.underlying47 rfl kr) rfl ?_
  exact⟨_,_,_,by first|rfl|(simp[Qz,Qy] <;> rfl)|(simp[*,Qz,Qy] <;> rfl),by first|exact Kd.Yd _ _ _ _ _|exact Kd.Je _ _ _ _ _|exact Kd.Jb _ _ _ _ _|exact Kd.Jd _ _ _ _ _|exact Kd.Jc _ _ _ _ _,by first|exact Kd.Yd _ _ _ _ _|exact Kd.Je _ _ _ _ _|exact Kd.Jb _ _ _ _ _|exact Kd.Jd _ _ _ _ _|exact Kd.Jc _ _ _ _ _,by first|exact Kd.Yd _ _ _ _ _|exact Kd.Je _ _ _ _ _|exact Kd.Jb _ _ _ _ _|exact Kd.Jd _ _ _ _ _|exact Kd.Jc _ _ _ _ _,bel⟩
def call_Serve.f (k:Nat) (I:Int) (J:Int) (B:List (S56)) (D:List (S62)) (X:Int) (L:Int) (ζ :Int):Option ((List (S56))×(List (S62))×Int):=(insP.f X L I J).bind fun be=>(if be=true then ((call_within.f ζ (-1) 1).bind fun τ =>((call_change.f (woP_H.f L ζ 0 B) (woP_I.f X L D) k I J B D τ 0 L ζ 0 0 X L).bind fun a8=>(some (a8.1,a8.2.1,a8.2.2)))) else ((call_change.f (woP_H.f L ζ 0 B) (woP_I.f X L D) k I J B D false 0 L ζ 0 0 X L).bind fun a9=>(some (a9.1,a9.2.1,a9.2.2))))
theorem call_Serve.mono:∀ I D a2 X J a5 L k,LeO (call_Serve.f k I D a2 X J a5 L) (call_Serve.f (k+1) I D a2 X J a5 L):=by
 intro I D a2 X J a5 L k
 unfold call_Serve.f
 repeat' first
   |(with_reducible exact call_change.mono _ _ _ _ _ _ _ _ _ _ _ _ _ _ _)
   |(with_reducible exact LeO.refl _)
   |(with_reducible exact LeO.none _)
   |(with_reducible refine LeO.ite ?_ ?_)
   |(with_reducible refine LeO.bind ?_ (fun _=>?_))
   |exact call_change.mono _ _ _ _ _ _ _ _ _ _ _ _ _ _ _
   |exact LeO.none _
   |refine LeO.ite ?_ ?_
   |refine LeO.bind ?_ (fun _=>?_)
def call_Serve.T2:Bool×List (List Nat×List Nat):=(true,[([],[]),([],[]),([],[]),([2],[2]),([],[]),([3,4,3],[3,4]),([5,5],[5]),([6],[6]),([7,6],[6,7]),([8,6,6],[6,8]),([6,9],[6,9]),([],[]),([11,9],[11]),([12],[12]),([],[]),([14],[14]),([],[]),([16],[16]),([15,17],[15,17]),([],[]),([19,12],[19]),([20],[20]),([],[]),([0,1,10,13,18,21,22,20],[0,1,10,13,18,21,22]),([23],[23]),([23],[23]),([24,23,0,1,2,3,4,5,6,7,8,9,10,11,12,13,14,15,16,17,18,19,20,21,22,23,24,25],[24]),([25,26,0,1,2,3,4,5,6,7,8,9,10,11,12,13,14,15,16,17,18,19,20,21,22,23,24,25,26],[25])])
def call_Serve.B2:List Nat:=[0,0,0,4,0,28,60,124,252,508,1020,0,3068,7164,0,16384,0,65536,245760,0,531452,1580028,0,8388607,16777215,16777215,67108863,134217727]
theorem call_Serve.tab2:rtab .any (opsOf Try.f18 2)=call_Serve.T2:=by kernel_rfl
theorem call_Serve.Ns:Zr call_Serve.T2.2 call_Serve.B2=true:=by kernel_rfl
set_option maxHeartbeats 8000000 in
set_option maxRecDepth 100000 in
theorem call_Serve.calls (k:Nat) (I:Int) (J:Int) (η :Option Addr) (δ :Nat) (B:List (S56)) (θ :Option Addr) (ε :Nat) (D:List (S62)) (X:Int) (L:Int) (ζ :Int) (r1:List (S56)) (r2:List (S62)) (r3:Int) (w:World) (b4:Kd.C k56 w η B.length B) (b5:B.length ≤ δ) (b6:Kd.C k62 w θ D.length D) (b7:D.length ≤ ε) (h:call_Serve.f k I J B D X L ζ = some (r1,r2,r3)):
  Calls Try.prog 18 #[.agg #[.int .i64 I,.int .i64 J],.agg #[.slice η B.length δ,.slice θ D.length ε],.agg #[.int .i64 X,.int .i64 L,.int .i64 ζ]] w fun e w'=>∃ a4 b9:Value,e = .returned (.tuple #[.agg #[a4,b9],.int .i64 r3])∧Kd.R k56 56 w' w.heap.size (fun _=>True) a4 r1∧Kd.R k62 62 w' w.heap.size (fun _=>True) b9 r2∧Below w.heap.size w w':=by
 have dn:=Try.underlying23
 have d4:=Try.underlying27
 have fq:=Try.underlying43
 have bd:=Try.underlying62
 have bq:=Try.underlying56
 have ag:=Aside0.mk b4
 have ar:=Aside0.mk b5
 clear b4 b5
 have ah:=Aside0.mk b6
 have aw:=Aside0.mk b7
 clear b6 b7
 have HB:=Aside0.mk (Below.refl w.heap.size w)
 have H:((insP.f X L I J).bind fun be=>(if be=true then ((call_within.f ζ (-1) 1).bind fun τ =>((call_change.f (woP_H.f L ζ 0 B) (woP_I.f X L D) k I J B D τ 0 L ζ 0 0 X L).bind fun a8=>(some (a8.1,a8.2.1,a8.2.2)))) else ((call_change.f (woP_H.f L ζ 0 B) (woP_I.f X L D) k I J B D false 0 L ζ 0 0 X L).bind fun a9=>(some (a9.1,a9.2.1,a9.2.2)))))=some (r1,r2,r3):=h
 clear h
 replace H:=Option.bind_eq_some_iff.mp H
 obtain⟨be,bv,H⟩:=H
 replace H:(if be=true then ((call_within.f ζ (-1) 1).bind fun τ =>((call_change.f (woP_H.f L ζ 0 B) (woP_I.f X L D) k I J B D τ 0 L ζ 0 0 X L).bind fun a8=>(some (a8.1,a8.2.1,a8.2.2)))) else ((call_change.f (woP_H.f L ζ 0 B) (woP_I.f X L D) k I J B D false 0 L ζ 0 0 X L).bind fun a9=>(some (a9.1,a9.2.1,a9.2.2))))=some (r1,r2,r3):=H
 have A4:=Aside0.mk bv
 clear bv
 by_cases c5:be=true
 ·subst c5
  have H1:((call_within.f ζ (-1) 1).bind fun τ =>((call_change.f (woP_H.f L ζ 0 B) (woP_I.f X L D) k I J B D τ 0 L ζ 0 0 X L).bind fun a8=>(some (a8.1,a8.2.1,a8.2.2))))=some (r1,r2,r3):=by rw[if_pos rfl] at H;exact H
  clear H
  have H:=H1
  clear H1
  replace H:=Option.bind_eq_some_iff.mp H
  obtain⟨τ,d0,H⟩:=H
  replace H:((call_change.f (woP_H.f L ζ 0 B) (woP_I.f X L D) k I J B D τ 0 L ζ 0 0 X L).bind fun a8=>(some (a8.1,a8.2.1,a8.2.2)))=some (r1,r2,r3):=H
  have A6:=Aside0.mk d0
  clear d0
  replace H:=Option.bind_eq_some_iff.mp H
  obtain⟨⟨bf,au,cf⟩,g2,H⟩:=H
  replace H:(some (bf,au,cf))=some (r1,r2,r3):=H
  have A7:=Aside0.mk g2
  clear g2
  simp only[Option.some.injEq,Prod.mk.injEq] at H
  obtain⟨rfl,rfl,rfl⟩:=H
  go_enter Try.func18,Try.ntmps18
  try go_wp2_with (first|((with_reducible refine Qr (N:=3) rfl ?_);refine qE 3 #[.int .i64 I,.int .i64 J] 23 ?_;intro a2 hg w8 hbox hb;have Y:=Aside0.mk hbox;have bg:=sGe hg;have bs:=sGe hg;replace HB:=sHb hb;clear hb hbox hg)|((with_reducible refine Qr (N:=4) rfl ?_);refine qE 4 #[.slice η B.length δ,.slice θ D.length ε] 27 ?_;intro ao hg w9 hbox hb;have μ :=Aside0.mk hbox;have cu:=sGe hg;have cv:=sGe hg;have bi:=sNl Y hg;have bj:=sNg Y hg;replace Y:=sBk Y hb;replace HB:=sHb hb;clear hb hbox hg)|((with_reducible refine Qr (N:=5) rfl ?_);refine qE 5 #[.int .i64 X,.int .i64 L,.int .i64 ζ] 43 ?_;intro an hg em hbox hb;have O:=Aside0.mk hbox;have cw:=sGe hg;have cx:=sGe hg;have av:=sNl Y hg;have ax:=sNg Y hg;have ay:=sNl μ hg;have b0:=sNg μ hg;replace Y:=sBk Y hb;replace μ :=sBk μ hb;replace HB:=sHb hb;clear hb hbox hg)|((with_reducible refine Qr (N:=6) rfl ?_);refine qE 6 #[.slice none 0 0,.slice none 0 0] 27 ?_;intro σ hg e5 hbox hb;have ν :=Aside0.mk hbox;have ed:=sGe hg;have ej:=sGe hg;have a5:=sNl Y hg;have al:=sNg Y hg;have a6:=sNl μ hg;have am:=sNg μ hg;have a1:=sNl O hg;have ai:=sNg O hg;replace Y:=sBk Y hb;replace μ :=sBk μ hb;replace O:=sBk O hb;replace HB:=sHb hb;clear hb hbox hg;have e6:=ax.out;have e7:=av.out;have bw:=b0.out;have bz:=ay.out;have ie:=a1.out;have ig:=ai.out;obtain⟨cm,cn,cz,co,cp,d1⟩:=qD3 O.out)|((with_reducible refine Qr (N:=8) rfl ?_);refine qE 8 #[.int .i64 0,.int .i64 0] 62 ?_;intro ρ hg af hbox hb;have Z:=Aside0.mk hbox;have bk:=sGe hg;have bp:=sGe hg;have b1:=sNl Y hg;have b2:=sNg Y hg;have b3:=sNl μ hg;have b8:=sNg μ hg;have ba:=sNl O hg;have bc:=sNg O hg;have aj:=sNl ν hg;have a3:=sNg ν hg;replace Y:=sBk Y hb;replace μ :=sBk μ hb;replace O:=sBk O hb;replace ν :=sBk ν hb;replace HB:=sHb hb;clear hb hbox hg;have df:=b2.out;have dh:=b1.out;have cb:=b8.out;have cg:=b3.out;have d5:=bc.out;have d6:=ba.out;have e8:=a3.out;have e9:=aj.out;obtain⟨d2,d3,db,dd⟩:=qD2 Z.out))
  have U:Aside0 (((af.setCell ⟨ρ,0,none⟩ (.int .i64 X)).setCell ⟨ρ,1,none⟩ (.int .i64 L)).heap[a2]?=some (.cells #[.int .i64 I,.int .i64 J] 23 (0,0))):=⟨bka Y⟩
  have γ:Aside0 (((af.setCell ⟨ρ,0,none⟩ (.int .i64 X)).setCell ⟨ρ,1,none⟩ (.int .i64 L)).heap[ao]?=some (.cells #[.slice η B.length δ,.slice θ D.length ε] 27 (0,0))):=⟨bka μ⟩
  have ι :Aside0 (((af.setCell ⟨ρ,0,none⟩ (.int .i64 X)).setCell ⟨ρ,1,none⟩ (.int .i64 L)).heap[an]?=some (.cells #[.int .i64 X,.int .i64 L,.int .i64 ζ] 43 (0,0))):=⟨bka O⟩
  have κ :Aside0 (((af.setCell ⟨ρ,0,none⟩ (.int .i64 X)).setCell ⟨ρ,1,none⟩ (.int .i64 L)).heap[σ]?=some (.cells #[.slice none 0 0,.slice none 0 0] 27 (0,0))):=⟨bka ν⟩
  have ξ :Aside0 (((af.setCell ⟨ρ,0,none⟩ (.int .i64 X)).setCell ⟨ρ,1,none⟩ (.int .i64 L)).heap[ρ]?=some (.cells #[.int .i64 X,.int .i64 L] 62 (0,0))):=⟨by refine Qv (cs:=#[.int .i64 X,.int .i64 0]) ?_ 1 _ rfl;refine Qv (cs:=#[.int .i64 0,.int .i64 0]) ?_ 0 _ rfl;exact Z.out⟩
  have χ :Aside0 (Below w.heap.size w ((af.setCell ⟨ρ,0,none⟩ (.int .i64 X)).setCell ⟨ρ,1,none⟩ (.int .i64 L))):=⟨bel⟩
  (try clear Y)
  (try clear μ)
  (try clear O)
  (try clear ν)
  (try clear Z)
  (try clear HB)
  generalize((af.setCell ⟨ρ,0,none⟩ (.int .i64 X)).setCell ⟨ρ,1,none⟩ (.int .i64 L))=du at U γ ι κ ξ χ ⊢
  have Y:=U
  have μ :=γ
  have O:= ι
  have ν := κ
  have Z:= ξ
  have HB:= χ
  clear U γ ι κ ξ χ
  replace Y:=Aside0.mk (Qa Y.out)
  replace μ :=Aside0.mk (Qa μ.out)
  replace O:=Aside0.mk (Qa O.out)
  replace ν :=Aside0.mk (Qa ν.out)
  replace Z:=Aside0.mk (Qa Z.out)
  replace HB:=Aside0.mk (Qf HB.out)
  refine Zn (n:=28) (S:=fun w'=>w'.cell? ⟨a2,0,none⟩=some (.int .i64 I)∧w'.cell? ⟨a2,1,none⟩=some (.int .i64 J)∧w'.cell? ⟨ao,0,none⟩=some (.slice η B.length δ)∧w'.cell? ⟨ao,1,none⟩=some (.slice θ D.length ε)∧w'.cell? ⟨ρ,0,none⟩=some (.int .i64 X)∧w'.cell? ⟨ρ,1,none⟩=some (.int .i64 L)∧w'.cell? ⟨an,0,none⟩=some (.int .i64 X)∧w'.cell? ⟨an,1,none⟩=some (.int .i64 L)∧w'.cell? ⟨an,2,none⟩=some (.int .i64 ζ)) (ds:=[]) #[false,false,false,false,false,false,false,false,false,false,false,false,false,false,false,false,false,false,false,false,false,false,false,false,false,false,false,false] kr rfl rfl ⟨(Ql Y.out 0).trans rfl,(Ql Y.out 1).trans rfl,(Ql μ.out 0).trans rfl,(Ql μ.out 1).trans rfl,(Ql Z.out 0).trans rfl,(Ql Z.out 1).trans rfl,(Ql O.out 0).trans rfl,(Ql O.out 1).trans rfl,(Ql O.out 2).trans rfl⟩ (fun hHeld=>?_);refine Q8 call_Serve.tab2 call_Serve.Ns (fun HT_ HW_=>?_)
  generalize du.drew=dq at Y μ O ν Z HB hHeld ⊢
  refine qP 14 (some 28) (bN 28 16384) HT_ ?_
  refine qP 16 (some 30) (bN 28 81920) HT_ ?_
  refine qT 0 (some 14) (bN 28 81921) HT_ HW_ hHeld ?_
  refine qT 1 (some 15) (bN 28 81923) HT_ HW_ hHeld ?_
  refine qT 2 (some 16) (bN 28 81927) HT_ HW_ hHeld ?_
  refine qT 4 (some 18) (bN 28 81943) HT_ HW_ hHeld ?_
  refine qT 11 (some 25) (bN 28 83991) HT_ HW_ hHeld ?_
  refine qT 15 (some 29) (bN 28 116759) HT_ HW_ hHeld ?_
  refine qT 17 (some 31) (bN 28 247831) HT_ HW_ hHeld ?_
  refine qP 18 (some 32) (bN 28 509975) HT_ ?_
  refine qT 19 (some 33) (bN 28 1034263) HT_ HW_ hHeld ?_
  refine qT 22 (some 36) (bN 28 5228567) HT_ HW_ hHeld ?_
  refine Zg (i:=3) (N:=some 17) (bN 28 5228575) rfl rfl (Q1 HT_.out kr) (by decide) (fun K hK=>?_)
  refine Ze Try.func29 kr rfl #[.agg #[.int .i64 I,.int .i64 J]] (by rfl) rfl rfl qM ?_
  refine(Y9 I J _).mono ?_
  rintro e ea ⟨ap,rfl,hgp,hgw,hb⟩
  have bo:=Aside0.mk hgp
  clear hgp hgw
  refine⟨_,rfl, ?_⟩
  replace Y:=sBk Y hb
  replace μ :=sBk μ hb
  replace O:=sBk O hb
  replace ν :=sBk ν hb
  replace Z:=sBk Z hb
  replace HB:=sHb hb
  (try clear hb)
  (try clear a0)
  (try clear hk)
  (try clear hi)
  refine hK.out _ _ ⟨qc Y,qc Y,qc μ,qc μ,qc Z,qc Z,qc O,qc O,qc O⟩ (fun hHeld=>?_)
  clear hK K
  refine qN (some 17) ?_
  refine Zg (i:=5) (N:=some 19) (bN 28 5228607) rfl rfl (Q1 HT_.out kr) (by decide) (fun K hK=>?_)
  refine Xm Try.func50 kr rfl #[] #[.pointer (some ⟨ap,0,none⟩)] #[.agg #[.int .i64 X,.int .i64 L]] #[.agg #[.int .i64 X,.int .i64 L],.pointer (some ⟨ap,0,none⟩)] rfl (by rfl) rfl rfl rfl qM ?_
  refine(Yv I J X L true _ (Option.some.inj A4.out) ap bo.out).mono ?_
  rintro e bu ⟨rfl,hb⟩
  refine⟨_,rfl, ?_⟩
  replace Y:=sBk Y hb
  replace μ :=sBk μ hb
  replace O:=sBk O hb
  replace ν :=sBk ν hb
  replace Z:=sBk Z hb
  replace HB:=sHb hb
  (try clear hb)
  (try clear a0)
  (try clear hk)
  (try clear hi)
  refine hK.out _ _ ⟨qc Y,qc Y,qc μ,qc μ,qc Z,qc Z,qc O,qc O,qc O⟩ (fun hHeld=>?_)
  clear hK K
  refine qN (some 19) ?_
  refine qP 6 (some 20) (bN 28 5228671) HT_ ?_
  refine qP 7 (some 21) (bN 28 5228799) HT_ ?_
  refine qT 8 (some 22) (bN 28 5229055) HT_ HW_ hHeld ?_
  refine Zg (i:=9) (N:=some 23) (bN 28 5229567) rfl rfl (Q1 HT_.out kr) (by decide) (fun K hK=>?_)
  refine Ze Try.func41 kr rfl #[.int .i64 ζ,.int .i64 (-1),.int .i64 1] (by rfl) rfl rfl qM ?_
  with_reducible refine(call_within.calls ζ (-1) 1 τ _ A6.out).mono ?_
  rintro e w' ⟨rfl,⟨nd,rfl⟩⟩
  refine⟨_,rfl, ?_⟩
  refine hK.out _ _ ⟨qc Y,qc Y,qc μ,qc μ,qc Z,qc Z,qc O,qc O,qc O⟩ (fun hHeld=>?_)
  clear hK K
  refine qN (some 23) ?_
  refine qP 10 (some 24) (bN 28 5230591) HT_ ?_
  refine Zg (i:=12) (N:=some 26) (bN 28 5234687) rfl rfl (Q1 HT_.out kr) (by decide) (fun K hK=>?_)
  refine Ze Try.func30 kr rfl #[.agg #[.slice η B.length δ,.slice θ D.length ε]] (by rfl) rfl rfl qM ?_
  refine(Yb η θ B.length D.length δ ε _).mono ?_
  rintro e eb ⟨rfl,hb⟩
  refine⟨_,rfl, ?_⟩
  replace Y:=sBk Y hb
  replace μ :=sBk μ hb
  replace O:=sBk O hb
  replace ν :=sBk ν hb
  replace Z:=sBk Z hb
  replace HB:=sHb hb
  (try clear hb)
  (try clear a0)
  (try clear hk)
  (try clear hi)
  refine hK.out _ _ ⟨qc Y,qc Y,qc μ,qc μ,qc Z,qc Z,qc O,qc O,qc O⟩ (fun hHeld=>?_)
  clear hK K
  refine qN (some 26) ?_
  refine qP 13 (some 27) (bN 28 5242879) HT_ ?_
  refine Zg (i:=20) (N:=some 34) (bN 28 6291455) rfl rfl (Q1 HT_.out kr) (by decide) (fun K hK=>?_)
  refine Ze Try.func32 kr rfl #[.agg #[.slice η B.length δ,.slice θ D.length ε]] (by rfl) rfl rfl qM ?_
  refine(Yi η θ B.length D.length δ ε _).mono ?_
  rintro e ec ⟨rfl,hb⟩
  refine⟨_,rfl, ?_⟩
  replace Y:=sBk Y hb
  replace μ :=sBk μ hb
  replace O:=sBk O hb
  replace ν :=sBk ν hb
  replace Z:=sBk Z hb
  replace HB:=sHb hb
  (try clear hb)
  (try clear a0)
  (try clear hk)
  (try clear hi)
  refine hK.out _ _ ⟨qc Y,qc Y,qc μ,qc μ,qc Z,qc Z,qc O,qc O,qc O⟩ (fun hHeld=>?_)
  clear hK K
  refine qN (some 34) ?_
  refine qP 21 (some 35) (bN 28 8388607) HT_ ?_
  refine Zg (i:=23) (N:=some 37) (bN 28 16777215) rfl rfl (Q1 HT_.out kr) (by decide) (fun K hK=>?_)
  refine Ze Try.func28 kr rfl #[.agg #[.int .i64 I,.int .i64 J],.agg #[.slice η B.length δ,.slice θ D.length ε],.bool τ,.func (.func 31) #[.agg #[.slice η B.length δ,.func (.func 51) #[] #[]]] #[],.agg #[.int .i64 L,.int .i64 ζ,.int .i64 0],.func (.func 36) #[.agg #[.slice θ D.length ε,.func (.func 57) #[] #[]]] #[],.agg #[.int .i64 X,.int .i64 L]] (by rfl) rfl rfl qM ?_
  refine(call_change.calls _ _ k I J η δ B θ ε D τ 0 L ζ 0 0 X L bf au cf _ ?side1 ?side2 ?side3 ?side4 A7.out 31 Try.f31 (.agg #[.slice η B.length δ,.func (.func 51) #[] #[]]) Try.func31 kr rfl (fun W t ht hb=>Ju η δ B _ _ _ t W (Kd.Qx (Kd.Qx ag.out (by repeat(first|(with_reducible first|exact HB.out|apply Qh|apply Qb|apply Qf)|exact HB.out|(refine Qc ?_ (Aside0.out (by assumption)))))) hb) ar.out ht) 36 Try.f36 (.agg #[.slice θ D.length ε,.func (.func 57) #[] #[]]) Try.func36 kr rfl (fun W t ht hb=>Y5 θ ε D _ _ t W (Kd.Qx (Kd.Qx ah.out (by repeat(first|(with_reducible first|exact HB.out|apply Qh|apply Qb|apply Qf)|exact HB.out|(refine Qc ?_ (Aside0.out (by assumption)))))) hb) aw.out ht)).mono ?_
  (case side1=>exact(Kd.Qx ag.out HB.out))
  (case side2=>exact ar.out)
  (case side3=>exact(Kd.Qx ah.out HB.out))
  (case side4=>exact aw.out)
  rintro e ci ⟨kg,ft,rfl,φ,a7,hb⟩
  refine⟨_,rfl, ?_⟩
  have di:=Aside0.mk (Kd.Q2 φ (Qi HB.out))
  have br:=Aside0.mk (Kd.Q2 (Kd.Zs a7 (g:=ρ) (o:=.cells #[.int .i64 X,.int .i64 L] 62 (0,0)) Z.out) (Qi HB.out))
  replace Y:=sBk Y hb
  replace μ :=sBk μ hb
  replace O:=sBk O hb
  replace ν :=sBk ν hb
  replace Z:=sBk Z hb
  replace HB:=sHb hb
  (try clear hb)
  (try clear a0)
  (try clear hk)
  (try clear hi)
  (try clear φ)
  (try clear a7)
  obtain⟨cj,ck,cq⟩:=Kd.Q4 di.out
  (first|subst cq|(injection cq with ψ aa ω;have ab:= ψ.symm;have ac:= ω.symm;clear ψ aa ω;subst ab;subst ac))
  obtain⟨az,bl,bm⟩:=Kd.Q4 br.out
  (first|subst bm|(injection bm with ψ aa ω;have ab:= ψ.symm;have ac:= ω.symm;clear ψ aa ω;subst ab;subst ac))
  refine hK.out _ _ ⟨qc Y,qc Y,qc μ,qc μ,qc Z,qc Z,qc O,qc O,qc O⟩ (fun hHeld=>?_)
  clear hK K
  refine qN (some 37) ?_
  refine qP 24 (some 38) (bN 28 33554431) HT_ ?_
  refine qP 25 (some 39) (bN 28 67108863) HT_ ?_
  refine Zg (i:=26) (N:=none) (bN 28 134217727) rfl rfl (Q1 HT_.out kr) (by decide) (fun K hK=>?_)
  have fu:ci.cell? ⟨σ,0,none⟩=some (.slice none 0 0):=(Ql ν.out 0).trans rfl
  have fe:=Q6 ν.out 0
  have d8:=a5.out
  have dc:=a6.out
  have de:=a1.out
  have dk:=a3.out
  have dl:=al.out
  have dm:=am.out
  have dp:=ai.out
  have dr:=aj.out
  have fz:ci.cell? ⟨σ,1,none⟩=some (.slice none 0 0):=(Ql ν.out 1).trans rfl
  have fo:=Q6 ν.out 1
  have dv:=a5.out
  have dw:=a6.out
  have dx:=a1.out
  have dy:=a3.out
  have dz:=al.out
  have e0:=am.out
  have e3:=ai.out
  have e4:=aj.out
  refine Js (w1:=?_) (by rfl) rfl ?_ ?_
  rotate_left
  ·go_simp
   rfl
  refine hK.out _ _ ⟨((cell_far (p:=⟨σ,_,none⟩) a5.out _).trans (((cell_far (p:=⟨σ,_,none⟩) a5.out _).trans (hHeld.1)))),((cell_far (p:=⟨σ,_,none⟩) a5.out _).trans (((cell_far (p:=⟨σ,_,none⟩) a5.out _).trans (hHeld.2.1)))),((cell_far (p:=⟨σ,_,none⟩) a6.out _).trans (((cell_far (p:=⟨σ,_,none⟩) a6.out _).trans (hHeld.2.2.1)))),((cell_far (p:=⟨σ,_,none⟩) a6.out _).trans (((cell_far (p:=⟨σ,_,none⟩) a6.out _).trans (hHeld.2.2.2.1)))),((cell_far (p:=⟨σ,_,none⟩) a3.out _).trans (((cell_far (p:=⟨σ,_,none⟩) a3.out _).trans (hHeld.2.2.2.2.1)))),((cell_far (p:=⟨σ,_,none⟩) a3.out _).trans (((cell_far (p:=⟨σ,_,none⟩) a3.out _).trans (hHeld.2.2.2.2.2.1)))),((cell_far (p:=⟨σ,_,none⟩) a1.out _).trans (((cell_far (p:=⟨σ,_,none⟩) a1.out _).trans (hHeld.2.2.2.2.2.2.1)))),((cell_far (p:=⟨σ,_,none⟩) a1.out _).trans (((cell_far (p:=⟨σ,_,none⟩) a1.out _).trans (hHeld.2.2.2.2.2.2.2.1)))),((cell_far (p:=⟨σ,_,none⟩) a1.out _).trans (((cell_far (p:=⟨σ,_,none⟩) a1.out _).trans (hHeld.2.2.2.2.2.2.2.2))))⟩ (fun hHeld=>?_)
  clear hK K
  refine qP 27 (some 7) (bN 28 268435455) HT_ ?_
  refine Zu (Zj HT_.out kr) ?_
  try go_wp2
  refine bodyPost_ret (Xi rfl _ _ σ 27 #[.slice cj bf.length ck,.slice az au.length bl] (0,0) _ rfl (by refine Qv (cs:=#[.slice cj bf.length ck,.slice none 0 0]) ?_ 1 _ rfl;refine Qv (cs:=#[.slice none 0 0,.slice none 0 0]) ?_ 0 _ rfl;exact ν.out) Try.underlying27 rfl kr) rfl ?_
  exact⟨_,_,by first|rfl|(simp[Qz,Qy] <;> rfl)|(simp[*,Qz,Qy] <;> rfl),by(with_reducible repeat first|apply Kd.Qk|apply Kd.Qj|apply Kd.Qn);exact Kd.Qq (Kd.Qs (Kd.Qs (Kd.Qw di.out ν.out (by decide)) (fun _ hk=>hk.2) _) (fun _ hk=>hk.2) _) (fun _ hk=>trivial),by(with_reducible repeat first|apply Kd.Qk|apply Kd.Qj|apply Kd.Qn);exact Kd.Qq (Kd.Qs (Kd.Qs (Kd.Qw br.out ν.out (by decide)) (fun _ hk=>hk.2) _) (fun _ hk=>hk.2) _) (fun _ hk=>trivial),bel⟩
 ·replace c5:=Bool.eq_false_iff.mpr c5
  subst c5
  have H1:((call_change.f (woP_H.f L ζ 0 B) (woP_I.f X L D) k I J B D false 0 L ζ 0 0 X L).bind fun a9=>(some (a9.1,a9.2.1,a9.2.2)))=some (r1,r2,r3):=by rw[if_neg (show ¬ (false=true) by decide)] at H;exact H
  clear H
  have H:=H1
  clear H1
  replace H:=Option.bind_eq_some_iff.mp H
  obtain⟨⟨bh,ak,cr⟩,ct,H⟩:=H
  replace H:(some (bh,ak,cr))=some (r1,r2,r3):=H
  have ae:=Aside0.mk ct
  clear ct
  simp only[Option.some.injEq,Prod.mk.injEq] at H
  obtain⟨rfl,rfl,rfl⟩:=H
  go_enter Try.func18,Try.ntmps18
  try go_wp2_with (first|((with_reducible refine Qr (N:=3) rfl ?_);refine qE 3 #[.int .i64 I,.int .i64 J] 23 ?_;intro a2 hg iz hbox hb;have Y:=Aside0.mk hbox;have bg:=sGe hg;have bs:=sGe hg;replace HB:=sHb hb;clear hb hbox hg)|((with_reducible refine Qr (N:=4) rfl ?_);refine qE 4 #[.slice η B.length δ,.slice θ D.length ε] 27 ?_;intro ao hg gr hbox hb;have μ :=Aside0.mk hbox;have cu:=sGe hg;have cv:=sGe hg;have bi:=sNl Y hg;have bj:=sNg Y hg;replace Y:=sBk Y hb;replace HB:=sHb hb;clear hb hbox hg)|((with_reducible refine Qr (N:=5) rfl ?_);refine qE 5 #[.int .i64 X,.int .i64 L,.int .i64 ζ] 43 ?_;intro an hg cy hbox hb;have O:=Aside0.mk hbox;have cw:=sGe hg;have cx:=sGe hg;have av:=sNl Y hg;have ax:=sNg Y hg;have ay:=sNl μ hg;have b0:=sNg μ hg;replace Y:=sBk Y hb;replace μ :=sBk μ hb;replace HB:=sHb hb;clear hb hbox hg)|((with_reducible refine Qr (N:=6) rfl ?_);refine qE 6 #[.slice none 0 0,.slice none 0 0] 27 ?_;intro σ hg ei hbox hb;have ν :=Aside0.mk hbox;have ed:=sGe hg;have ej:=sGe hg;have a5:=sNl Y hg;have al:=sNg Y hg;have a6:=sNl μ hg;have am:=sNg μ hg;have a1:=sNl O hg;have ai:=sNg O hg;replace Y:=sBk Y hb;replace μ :=sBk μ hb;replace O:=sBk O hb;replace HB:=sHb hb;clear hb hbox hg;have fp:=ax.out;have fr:=av.out;have ek:=b0.out;have el:=ay.out;have h8:=a1.out;have h9:=ai.out;obtain⟨ee,ef,eg,eh,ep,fc⟩:=qD3 O.out)|((with_reducible refine Qr (N:=8) rfl ?_);refine qE 8 #[.int .i64 0,.int .i64 0] 62 ?_;intro ρ hg ch hbox hb;have Z:=Aside0.mk hbox;have bk:=sGe hg;have bp:=sGe hg;have b1:=sNl Y hg;have b2:=sNg Y hg;have b3:=sNl μ hg;have b8:=sNg μ hg;have ba:=sNl O hg;have bc:=sNg O hg;have aj:=sNl ν hg;have a3:=sNg ν hg;replace Y:=sBk Y hb;replace μ :=sBk μ hb;replace O:=sBk O hb;replace ν :=sBk ν hb;replace HB:=sHb hb;clear hb hbox hg;have ew:=b2.out;have ey:=b1.out;have g5:=b8.out;have g6:=b3.out;have ho:=bc.out;have ia:=ba.out;have ca:=a3.out;have dj:=aj.out;obtain⟨f7,f8,f9,fa⟩:=qD2 Z.out))
  have U:Aside0 (((ch.setCell ⟨ρ,0,none⟩ (.int .i64 X)).setCell ⟨ρ,1,none⟩ (.int .i64 L)).heap[a2]?=some (.cells #[.int .i64 I,.int .i64 J] 23 (0,0))):=⟨bka Y⟩
  have γ:Aside0 (((ch.setCell ⟨ρ,0,none⟩ (.int .i64 X)).setCell ⟨ρ,1,none⟩ (.int .i64 L)).heap[ao]?=some (.cells #[.slice η B.length δ,.slice θ D.length ε] 27 (0,0))):=⟨bka μ⟩
  have ι :Aside0 (((ch.setCell ⟨ρ,0,none⟩ (.int .i64 X)).setCell ⟨ρ,1,none⟩ (.int .i64 L)).heap[an]?=some (.cells #[.int .i64 X,.int .i64 L,.int .i64 ζ] 43 (0,0))):=⟨bka O⟩
  have κ :Aside0 (((ch.setCell ⟨ρ,0,none⟩ (.int .i64 X)).setCell ⟨ρ,1,none⟩ (.int .i64 L)).heap[σ]?=some (.cells #[.slice none 0 0,.slice none 0 0] 27 (0,0))):=⟨bka ν⟩
  have ξ :Aside0 (((ch.setCell ⟨ρ,0,none⟩ (.int .i64 X)).setCell ⟨ρ,1,none⟩ (.int .i64 L)).heap[ρ]?=some (.cells #[.int .i64 X,.int .i64 L] 62 (0,0))):=⟨by refine Qv (cs:=#[.int .i64 X,.int .i64 0]) ?_ 1 _ rfl;refine Qv (cs:=#[.int .i64 0,.int .i64 0]) ?_ 0 _ rfl;exact Z.out⟩
  have χ :Aside0 (Below w.heap.size w ((ch.setCell ⟨ρ,0,none⟩ (.int .i64 X)).setCell ⟨ρ,1,none⟩ (.int .i64 L))):=⟨bel⟩
  (try clear Y)
  (try clear μ)
  (try clear O)
  (try clear ν)
  (try clear Z)
  (try clear HB)
  generalize((ch.setCell ⟨ρ,0,none⟩ (.int .i64 X)).setCell ⟨ρ,1,none⟩ (.int .i64 L))=fy at U γ ι κ ξ χ ⊢
  have Y:=U
  have μ :=γ
  have O:= ι
  have ν := κ
  have Z:= ξ
  have HB:= χ
  clear U γ ι κ ξ χ
  replace Y:=Aside0.mk (Qa Y.out)
  replace μ :=Aside0.mk (Qa μ.out)
  replace O:=Aside0.mk (Qa O.out)
  replace ν :=Aside0.mk (Qa ν.out)
  replace Z:=Aside0.mk (Qa Z.out)
  replace HB:=Aside0.mk (Qf HB.out)
  refine Zn (n:=28) (S:=fun w'=>w'.cell? ⟨a2,0,none⟩=some (.int .i64 I)∧w'.cell? ⟨a2,1,none⟩=some (.int .i64 J)∧w'.cell? ⟨ao,0,none⟩=some (.slice η B.length δ)∧w'.cell? ⟨ao,1,none⟩=some (.slice θ D.length ε)∧w'.cell? ⟨ρ,0,none⟩=some (.int .i64 X)∧w'.cell? ⟨ρ,1,none⟩=some (.int .i64 L)∧w'.cell? ⟨an,0,none⟩=some (.int .i64 X)∧w'.cell? ⟨an,1,none⟩=some (.int .i64 L)∧w'.cell? ⟨an,2,none⟩=some (.int .i64 ζ)) (ds:=[]) #[false,false,false,false,false,false,false,false,false,false,false,false,false,false,false,false,false,false,false,false,false,false,false,false,false,false,false,false] kr rfl rfl ⟨(Ql Y.out 0).trans rfl,(Ql Y.out 1).trans rfl,(Ql μ.out 0).trans rfl,(Ql μ.out 1).trans rfl,(Ql Z.out 0).trans rfl,(Ql Z.out 1).trans rfl,(Ql O.out 0).trans rfl,(Ql O.out 1).trans rfl,(Ql O.out 2).trans rfl⟩ (fun hHeld=>?_);refine Q8 call_Serve.tab2 call_Serve.Ns (fun HT_ HW_=>?_)
  generalize fy.drew=he at Y μ O ν Z HB hHeld ⊢
  refine qP 14 (some 28) (bN 28 16384) HT_ ?_
  refine qP 16 (some 30) (bN 28 81920) HT_ ?_
  refine qT 0 (some 14) (bN 28 81921) HT_ HW_ hHeld ?_
  refine qT 1 (some 15) (bN 28 81923) HT_ HW_ hHeld ?_
  refine qT 2 (some 16) (bN 28 81927) HT_ HW_ hHeld ?_
  refine qT 4 (some 18) (bN 28 81943) HT_ HW_ hHeld ?_
  refine qT 11 (some 25) (bN 28 83991) HT_ HW_ hHeld ?_
  refine qT 15 (some 29) (bN 28 116759) HT_ HW_ hHeld ?_
  refine qT 17 (some 31) (bN 28 247831) HT_ HW_ hHeld ?_
  refine qP 18 (some 32) (bN 28 509975) HT_ ?_
  refine qT 19 (some 33) (bN 28 1034263) HT_ HW_ hHeld ?_
  refine qT 22 (some 36) (bN 28 5228567) HT_ HW_ hHeld ?_
  refine Zg (i:=3) (N:=some 17) (bN 28 5228575) rfl rfl (Q1 HT_.out kr) (by decide) (fun K hK=>?_)
  refine Ze Try.func29 kr rfl #[.agg #[.int .i64 I,.int .i64 J]] (by rfl) rfl rfl qM ?_
  refine(Y9 I J _).mono ?_
  rintro e fv ⟨bb,rfl,hgp,hgw,hb⟩
  have bn:=Aside0.mk hgp
  clear hgp hgw
  refine⟨_,rfl, ?_⟩
  replace Y:=sBk Y hb
  replace μ :=sBk μ hb
  replace O:=sBk O hb
  replace ν :=sBk ν hb
  replace Z:=sBk Z hb
  replace HB:=sHb hb
  (try clear hb)
  (try clear a0)
  (try clear hk)
  (try clear hi)
  refine hK.out _ _ ⟨qc Y,qc Y,qc μ,qc μ,qc Z,qc Z,qc O,qc O,qc O⟩ (fun hHeld=>?_)
  clear hK K
  refine qN (some 17) ?_
  refine Zg (i:=5) (N:=some 19) (bN 28 5228607) rfl rfl (Q1 HT_.out kr) (by decide) (fun K hK=>?_)
  refine Xm Try.func50 kr rfl #[] #[.pointer (some ⟨bb,0,none⟩)] #[.agg #[.int .i64 X,.int .i64 L]] #[.agg #[.int .i64 X,.int .i64 L],.pointer (some ⟨bb,0,none⟩)] rfl (by rfl) rfl rfl rfl qM ?_
  refine(Yv I J X L false _ (Option.some.inj A4.out) bb bn.out).mono ?_
  rintro e gj ⟨rfl,hb⟩
  refine⟨_,rfl, ?_⟩
  replace Y:=sBk Y hb
  replace μ :=sBk μ hb
  replace O:=sBk O hb
  replace ν :=sBk ν hb
  replace Z:=sBk Z hb
  replace HB:=sHb hb
  (try clear hb)
  (try clear a0)
  (try clear hk)
  (try clear hi)
  refine hK.out _ _ ⟨qc Y,qc Y,qc μ,qc μ,qc Z,qc Z,qc O,qc O,qc O⟩ (fun hHeld=>?_)
  clear hK K
  refine qN (some 19) ?_
  refine qP 6 (some 20) (bN 28 5228671) HT_ ?_
  refine qU 7 (some 21) (bN 28 5228799) HT_ ?_
  refine qU 8 (some 22) (bN 28 5229055) HT_ ?_
  refine qU 9 (some 23) (bN 28 5229567) HT_ ?_
  refine qP 10 (some 24) (bN 28 5230591) HT_ ?_
  refine Zg (i:=12) (N:=some 26) (bN 28 5234687) rfl rfl (Q1 HT_.out kr) (by decide) (fun K hK=>?_)
  refine Ze Try.func30 kr rfl #[.agg #[.slice η B.length δ,.slice θ D.length ε]] (by rfl) rfl rfl qM ?_
  refine(Yb η θ B.length D.length δ ε _).mono ?_
  rintro e fw ⟨rfl,hb⟩
  refine⟨_,rfl, ?_⟩
  replace Y:=sBk Y hb
  replace μ :=sBk μ hb
  replace O:=sBk O hb
  replace ν :=sBk ν hb
  replace Z:=sBk Z hb
  replace HB:=sHb hb
  (try clear hb)
  (try clear a0)
  (try clear hk)
  (try clear hi)
  refine hK.out _ _ ⟨qc Y,qc Y,qc μ,qc μ,qc Z,qc Z,qc O,qc O,qc O⟩ (fun hHeld=>?_)
  clear hK K
  refine qN (some 26) ?_
  refine qP 13 (some 27) (bN 28 5242879) HT_ ?_
  refine Zg (i:=20) (N:=some 34) (bN 28 6291455) rfl rfl (Q1 HT_.out kr) (by decide) (fun K hK=>?_)
  refine Ze Try.func32 kr rfl #[.agg #[.slice η B.length δ,.slice θ D.length ε]] (by rfl) rfl rfl qM ?_
  refine(Yi η θ B.length D.length δ ε _).mono ?_
  rintro e fx ⟨rfl,hb⟩
  refine⟨_,rfl, ?_⟩
  replace Y:=sBk Y hb
  replace μ :=sBk μ hb
  replace O:=sBk O hb
  replace ν :=sBk ν hb
  replace Z:=sBk Z hb
  replace HB:=sHb hb
  (try clear hb)
  (try clear a0)
  (try clear hk)
  (try clear hi)
  refine hK.out _ _ ⟨qc Y,qc Y,qc μ,qc μ,qc Z,qc Z,qc O,qc O,qc O⟩ (fun hHeld=>?_)
  clear hK K
  refine qN (some 34) ?_
  refine qP 21 (some 35) (bN 28 8388607) HT_ ?_
  refine Zg (i:=23) (N:=some 37) (bN 28 16777215) rfl rfl (Q1 HT_.out kr) (by decide) (fun K hK=>?_)
  refine Ze Try.func28 kr rfl #[.agg #[.int .i64 I,.int .i64 J],.agg #[.slice η B.length δ,.slice θ D.length ε],.bool false,.func (.func 31) #[.agg #[.slice η B.length δ,.func (.func 51) #[] #[]]] #[],.agg #[.int .i64 L,.int .i64 ζ,.int .i64 0],.func (.func 36) #[.agg #[.slice θ D.length ε,.func (.func 57) #[] #[]]] #[],.agg #[.int .i64 X,.int .i64 L]] (by rfl) rfl rfl qM ?_
  refine(call_change.calls _ _ k I J η δ B θ ε D false 0 L ζ 0 0 X L bh ak cr _ ?side1 ?side2 ?side3 ?side4 ae.out 31 Try.f31 (.agg #[.slice η B.length δ,.func (.func 51) #[] #[]]) Try.func31 kr rfl (fun W t ht hb=>Ju η δ B _ _ _ t W (Kd.Qx (Kd.Qx ag.out (by repeat(first|(with_reducible first|exact HB.out|apply Qh|apply Qb|apply Qf)|exact HB.out|(refine Qc ?_ (Aside0.out (by assumption)))))) hb) ar.out ht) 36 Try.f36 (.agg #[.slice θ D.length ε,.func (.func 57) #[] #[]]) Try.func36 kr rfl (fun W t ht hb=>Y5 θ ε D _ _ t W (Kd.Qx (Kd.Qx ah.out (by repeat(first|(with_reducible first|exact HB.out|apply Qh|apply Qb|apply Qf)|exact HB.out|(refine Qc ?_ (Aside0.out (by assumption)))))) hb) aw.out ht)).mono ?_
  (case side1=>exact(Kd.Qx ag.out HB.out))
  (case side2=>exact ar.out)
  (case side3=>exact(Kd.Qx ah.out HB.out))
  (case side4=>exact aw.out)
  rintro e fb ⟨g0,g1,rfl,φ,a7,hb⟩
  refine⟨_,rfl, ?_⟩
  have cd:=Aside0.mk (Kd.Q2 φ (Qi HB.out))
  have ce:=Aside0.mk (Kd.Q2 (Kd.Zs a7 (g:=ρ) (o:=.cells #[.int .i64 X,.int .i64 L] 62 (0,0)) Z.out) (Qi HB.out))
  replace Y:=sBk Y hb
  replace μ :=sBk μ hb
  replace O:=sBk O hb
  replace ν :=sBk ν hb
  replace Z:=sBk Z hb
  replace HB:=sHb hb
  (try clear hb)
  (try clear a0)
  (try clear hk)
  (try clear hi)
  (try clear φ)
  (try clear a7)
  obtain⟨d7,d9,da⟩:=Kd.Q4 cd.out
  (first|subst da|(injection da with ψ aa ω;have ab:= ψ.symm;have ac:= ω.symm;clear ψ aa ω;subst ab;subst ac))
  obtain⟨er,et,dt⟩:=Kd.Q4 ce.out
  (first|subst dt|(injection dt with ψ aa ω;have ab:= ψ.symm;have ac:= ω.symm;clear ψ aa ω;subst ab;subst ac))
  refine hK.out _ _ ⟨qc Y,qc Y,qc μ,qc μ,qc Z,qc Z,qc O,qc O,qc O⟩ (fun hHeld=>?_)
  clear hK K
  refine qN (some 37) ?_
  refine qP 24 (some 38) (bN 28 33554431) HT_ ?_
  refine qP 25 (some 39) (bN 28 67108863) HT_ ?_
  refine Zg (i:=26) (N:=none) (bN 28 134217727) rfl rfl (Q1 HT_.out kr) (by decide) (fun K hK=>?_)
  have gq:fb.cell? ⟨σ,0,none⟩=some (.slice none 0 0):=(Ql ν.out 0).trans rfl
  have gf:=Q6 ν.out 0
  have en:=a5.out
  have eo:=a6.out
  have eu:=a1.out
  have ev:=a3.out
  have ez:=al.out
  have f3:=am.out
  have f4:=ai.out
  have ff:=aj.out
  have gs:fb.cell? ⟨σ,1,none⟩=some (.slice none 0 0):=(Ql ν.out 1).trans rfl
  have gg:=Q6 ν.out 1
  have fg:=a5.out
  have fh:=a6.out
  have fi:=a1.out
  have fj:=a3.out
  have fk:=al.out
  have fl:=am.out
  have fm:=ai.out
  have fn:=aj.out
  refine Js (w1:=?_) (by rfl) rfl ?_ ?_
  rotate_left
  ·go_simp
   rfl
  refine hK.out _ _ ⟨((cell_far (p:=⟨σ,_,none⟩) a5.out _).trans (((cell_far (p:=⟨σ,_,none⟩) a5.out _).trans (hHeld.1)))),((cell_far (p:=⟨σ,_,none⟩) a5.out _).trans (((cell_far (p:=⟨σ,_,none⟩) a5.out _).trans (hHeld.2.1)))),((cell_far (p:=⟨σ,_,none⟩) a6.out _).trans (((cell_far (p:=⟨σ,_,none⟩) a6.out _).trans (hHeld.2.2.1)))),((cell_far (p:=⟨σ,_,none⟩) a6.out _).trans (((cell_far (p:=⟨σ,_,none⟩) a6.out _).trans (hHeld.2.2.2.1)))),((cell_far (p:=⟨σ,_,none⟩) a3.out _).trans (((cell_far (p:=⟨σ,_,none⟩) a3.out _).trans (hHeld.2.2.2.2.1)))),((cell_far (p:=⟨σ,_,none⟩) a3.out _).trans (((cell_far (p:=⟨σ,_,none⟩) a3.out _).trans (hHeld.2.2.2.2.2.1)))),((cell_far (p:=⟨σ,_,none⟩) a1.out _).trans (((cell_far (p:=⟨σ,_,none⟩) a1.out _).trans (hHeld.2.2.2.2.2.2.1)))),((cell_far (p:=⟨σ,_,none⟩) a1.out _).trans (((cell_far (p:=⟨σ,_,none⟩) a1.out _).trans (hHeld.2.2.2.2.2.2.2.1)))),((cell_far (p:=⟨σ,_,none⟩) a1.out _).trans (((cell_far (p:=⟨σ,_,none⟩) a1.out _).trans (hHeld.2.2.2.2.2.2.2.2))))⟩ (fun hHeld=>?_)
  clear hK K
  refine qP 27 (some 7) (bN 28 268435455) HT_ ?_
  refine Zu (Zj HT_.out kr) ?_
  try go_wp2
  refine bodyPost_ret (Xi rfl _ _ σ 27 #[.slice d7 bh.length d9,.slice er ak.length et] (0,0) _ rfl (by refine Qv (cs:=#[.slice d7 bh.length d9,.slice none 0 0]) ?_ 1 _ rfl;refine Qv (cs:=#[.slice none 0 0,.slice none 0 0]) ?_ 0 _ rfl;exact ν.out) Try.underlying27 rfl kr) rfl ?_
  exact⟨_,_,by first|rfl|(simp[Qz,Qy] <;> rfl)|(simp[*,Qz,Qy] <;> rfl),by(with_reducible repeat first|apply Kd.Qk|apply Kd.Qj|apply Kd.Qn);exact Kd.Qq (Kd.Qs (Kd.Qs (Kd.Qw cd.out ν.out (by decide)) (fun _ hk=>hk.2) _) (fun _ hk=>hk.2) _) (fun _ hk=>trivial),by(with_reducible repeat first|apply Kd.Qk|apply Kd.Qj|apply Kd.Qn);exact Kd.Qq (Kd.Qs (Kd.Qs (Kd.Qw ce.out ν.out (by decide)) (fun _ hk=>hk.2) _) (fun _ hk=>hk.2) _) (fun _ hk=>trivial),bel⟩
end Go.Proofs.Ytjehhhlhalkieaa.C
