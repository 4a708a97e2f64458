/- Texts of this claim, one behind the other: what the law's functions come to, walked (printed by a program, with the words that the print uses), and what that is, in plain Lean. No conditions of their own. -/
import Derived.Test.YtmfffemidlhcpaaQGroupPicks9
import Derived.WalkSpells
namespace Go.Proofs.Ytmfffemidlhcpaa.C
open Go.RowKit Go.Proofs.YtmfffemidlhcpaaW.PrintWords Go.Proofs.YtmfffemidlhcpaaW.PrintLast Go.Proofs.YtmfffemidlhcpaaW.PrintMore
attribute [local go_sem] Z0 Zy Z6 Z5 Zr Zq Zz Zx
set_option linter.unusedVariables false
set_option linter.unusedSimpArgs false
def api_Hall_88.f (l0:List S36):Option (List S36):=if l0.length<1000000000 then some l0 else none
set_option maxRecDepth 100000 in
set_option maxHeartbeats 1000000 in
theorem api_Hall_88.calls (Z:Option Addr) (c0:Nat) (l0:List S36) (r:List S36) (w:World) (κ :Kd.C k36 w Z l0.length l0) (γ:l0.length≤c0) (h:api_Hall_88.f l0=some r):
 Calls Try.prog 88 #[.slice Z l0.length c0] w fun e w'=>∃ b8:Value,e = .returned b8∧Kd.R k36 36 w' w.heap.size (fun _=>True) b8 r∧Below w.heap.size w w':=by
 unfold api_Hall_88.f at h
 split at h
 case isFalse=>cases h
 case isTrue hl=>
 cases h
 have HR:=aK κ
 have HC:=aK γ
 have HL:=aK hl
 have HB:=aK (Below.refl w.heap.size w)
 have hn:Z=none→l0 = []:=by
  intro hA
  rcases Nat.eq_zero_or_pos l0.length with h|h
  ·exact List.eq_nil_of_length_eq_zero h
  ·obtain⟨ad,e,_⟩:= κ.2.2 h
   rw[hA] at e
   cases e
 clear κ γ hl
 have hEq:∀ (W:World),(binOp .eql 47 (.slice Z l0.length c0) (.slice none 0 0)).run Try.prog W = .ok (.bool Z.isNone) W:=fun W=>Lib.run_eql_slice_nil W _ _ _ _ _ _ _ Try.underlying47
 rcases Z with _|ad
 ·have δ :=aK (hn rfl)
  clear hn
  go_enter Try.func88,Try.ntmps88
  go_wp2
  go_ret
  rw[δ.out]
  exact⟨_,rfl,Kd.Xu _ _ _ _ _,HB.out⟩
 ·clear hn
  go_enter Try.func88,Try.ntmps88
  go_wp2_with (first|((with_reducible refine Qe (N:=5) rfl ?_);refine Kd.V1 k36 _ 36 ?hg (N:=5) ?hd (xs:=([]:List S36)) (inner:=[]) (ok:=fun _=>True) (okp:=fun _=>True) ?hr ?hp (fun _ hk=>hk) trivial (Below.refl _ _) (Nat.le_refl _) (by simp) ?_;(case hd=>rfl);(case hg=>rfl);(case hr=>first|(go_simp;done)|(go_simp;rfl));(case hp=>exact(Reps.none _ _));intro v1 w1 ah J hg_ hnew_;clear hg_ hnew_;have HO:=aK ah;have O:=aK J;clear ah J)|((with_reducible refine Z3 (b:=.append) (xs:=#[.tmp 5,.tmp 6]) rfl ?_);at_builtin;refine Kd.Kh k36 (w0:=w) w.heap.size rfl (.tmp 5) (.tmp 6) 47 36 (.agg #[(.int .i64 0),(.int .i64 0),(.int .i64 0)]) 24 rfl Try.underlying47 Jy rfl (by decide) (by omega) v1 [] l0 _ _ _ (fun _=>True) (fun _=>False) rfl rfl ?aO ?aR (fun _ _ h=>h) (fun _ h=>h.elim) ?aF ?aB ?aS ?aL ?_;(case aR=>exact(Kd.Qs HR.out O.out));(case aB=>exact O.out);(case aF=>exact(fun _ _=>trivial));(case aO=>exact HO.out);(case aS=>exact Qn O.out);(case aL=>have:=HL.out;simp only[List.length_nil];omega);intro B w2 ho hb hg hat;clear hg hat))
  go_ret
  exact⟨_,rfl,by simpa using ho,hb⟩
def api_Inside_91.f (l0:List S86):Option (List S86):=if l0.length<1000000000 then some l0 else none
set_option maxRecDepth 100000 in
set_option maxHeartbeats 1000000 in
theorem api_Inside_91.calls (Z:Option Addr) (c0:Nat) (l0:List S86) (r:List S86) (w:World) (κ :Kd.C k86 w Z l0.length l0) (γ:l0.length≤c0) (h:api_Inside_91.f l0=some r):
 Calls Try.prog 91 #[.slice Z l0.length c0] w fun e w'=>∃ b8:Value,e = .returned b8∧Kd.R k86 86 w' w.heap.size (fun _=>True) b8 r∧Below w.heap.size w w':=by
 unfold api_Inside_91.f at h
 split at h
 case isFalse=>cases h
 case isTrue hl=>
 cases h
 have HR:=aK κ
 have HC:=aK γ
 have HL:=aK hl
 have HB:=aK (Below.refl w.heap.size w)
 have hn:Z=none→l0 = []:=by
  intro hA
  rcases Nat.eq_zero_or_pos l0.length with h|h
  ·exact List.eq_nil_of_length_eq_zero h
  ·obtain⟨ad,e,_⟩:= κ.2.2 h
   rw[hA] at e
   cases e
 clear κ γ hl
 have hEq:∀ (W:World),(binOp .eql 48 (.slice Z l0.length c0) (.slice none 0 0)).run Try.prog W = .ok (.bool Z.isNone) W:=fun W=>Lib.run_eql_slice_nil W _ _ _ _ _ _ _ Try.underlying48
 rcases Z with _|ad
 ·have δ :=aK (hn rfl)
  clear hn
  go_enter Try.func91,Try.ntmps91
  go_wp2
  go_ret
  rw[δ.out]
  exact⟨_,rfl,Kd.Xu _ _ _ _ _,HB.out⟩
 ·clear hn
  go_enter Try.func91,Try.ntmps91
  go_wp2_with (first|((with_reducible refine Qe (N:=5) rfl ?_);refine Kd.V1 k86 _ 86 ?hg (N:=5) ?hd (xs:=([]:List S86)) (inner:=[]) (ok:=fun _=>True) (okp:=fun _=>True) ?hr ?hp (fun _ hk=>hk) trivial (Below.refl _ _) (Nat.le_refl _) (by simp) ?_;(case hd=>rfl);(case hg=>rfl);(case hr=>first|(go_simp;done)|(go_simp;rfl));(case hp=>exact(Reps.none _ _));intro v1 w1 ah J hg_ hnew_;clear hg_ hnew_;have HO:=aK ah;have O:=aK J;clear ah J)|((with_reducible refine Z3 (b:=.append) (xs:=#[.tmp 5,.tmp 6]) rfl ?_);at_builtin;refine Kd.Kh k86 (w0:=w) w.heap.size rfl (.tmp 5) (.tmp 6) 48 86 (.agg #[(.int .i64 0),(.int .i64 0)]) 16 rfl Try.underlying48 Gc rfl (by decide) (by omega) v1 [] l0 _ _ _ (fun _=>True) (fun _=>False) rfl rfl ?aO ?aR (fun _ _ h=>h) (fun _ h=>h.elim) ?aF ?aB ?aS ?aL ?_;(case aR=>exact(Kd.Qs HR.out O.out));(case aB=>exact O.out);(case aF=>exact(fun _ _=>trivial));(case aO=>exact HO.out);(case aS=>exact Qn O.out);(case aL=>have:=HL.out;simp only[List.length_nil];omega);intro B w2 ho hb hg hat;clear hg hat))
  go_ret
  exact⟨_,rfl,by simpa using ho,hb⟩
def woI (B J:Int) (l:List S86):List S86:=l.filter (fun y=> !(Yc B J y.f0 y.f1==0))
set_option maxRecDepth 100000 in
set_option maxHeartbeats 2000000 in
theorem V3 (A:Option Addr) (c:Nat) (l:List S86) (B J:Int) (w:World) (hr:Kd.C k86 w A l.length l) (hc:l.length≤c) (hl:l.length<1000000000) (Z: -9223372036854775808≤J∧J≤9223372036854775807):
 Calls Try.prog 75 #[.agg #[.slice A l.length c,.func (.func 83) #[] #[]],.agg #[.int .i64 B,.int .i64 J]] w fun e w'=>∃ b8:Value,e = .returned b8∧Kd.R k86 86 w' w.heap.size (fun _=>True) b8 (woI B J l)∧Below w.heap.size w w':=by
 have HR:=aK hr
 have HC:=aK hc
 have HF:=aK (show api_Inside_91.f l=some l by unfold api_Inside_91.f;rw[if_pos hl])
 have HB:=aK (Below.refl w.heap.size w)
 have HD:=aK (show api_Inside_90.f (l.length+6) l (tok B J)=some (woI B J l) by
  rw[Call.Dd l (tok B J) (by omega) _ (by omega)]
  show some (l.filter (fun y=> !(Yc (Yq (tok B J)) (Yp (tok B J)) y.f0 y.f1==0)))=_
  rw[Kq B J Z,Kp B J Z]
  rfl)
 have T1:=aK (Kq B J Z)
 have T2:=aK (Kp B J Z)
 clear hr hc hl Z
 go_enter Try.func75,Try.ntmps75
 go_wp2_with (first|((with_reducible refine Qe (N:=2) rfl ?_);refine Zh ?hg (N:=2) ?hd (cs:=#[.slice A l.length c,.func (.func 83) #[] #[]]) (t:=116) ?hr ?_;(case hd=>rfl);(case hg=>rfl);(case hr=>first|(go_simp;done)|(go_simp;rfl));intro g2 hg_ w2 hbox hb;have ρ:=aK (Q2 HB.out hb);have τ :=aK hbox;clear HB;have HB:=ρ;have O:= τ;clear ρ τ;clear hb hbox hg_)|((with_reducible refine Qe (N:=3) rfl ?_);refine Zh ?hg (N:=3) ?hd (cs:=#[.int .i64 B,.int .i64 J]) (t:=86) ?hr ?_;(case hd=>rfl);(case hg=>rfl);(case hr=>first|(go_simp;done)|(go_simp;rfl));intro g3 hg_ w3 hbox hb;have Y:=aK (Qz (g:=g2) (o:=.cells #[.slice A l.length c,.func (.func 83) #[] #[]] 116 (0,0)) O.out hb);have ρ:=aK (Q2 HB.out hb);have τ :=aK hbox;clear HB O;have HB:=ρ;have X:= τ;have O:=Y;clear ρ τ Y;clear hb hbox hg_;have γ:w3.cell? ⟨g2,0,none⟩=some (.slice A l.length c):=(Qa O.out 0).trans rfl;have δ :w3.cell? ⟨g2,1,none⟩=some (.func (.func 83) #[] #[]):=(Qa O.out 1).trans rfl)|(go_at_call 91;((with_reducible refine(api_Inside_91.calls A c l l _ ?side1 ?side2 HF.out).mono ?_);(case side1=>exact Kd.Qs HR.out HB.out);(case side2=>exact HC.out);rintro e w4 ⟨v4,rfl,af,hb⟩;have η :=aK (Nat.not_le.2 (Xi O.out));have θ :=aK (Nat.not_le.2 (Xi X.out));have Y:=aK (Kd.Q8 (Kd.Q1 (Kd.Xx af) (fun k_ hk=>hk.2.1)) HB.out.size);have ε :=aK (Qz (g:=g2) (o:=.cells #[.slice A l.length c,.func (.func 83) #[] #[]] 116 (0,0)) O.out hb);have ζ :=aK (Qz (g:=g3) (o:=.cells #[.int .i64 B,.int .i64 J] 86 (0,0)) X.out hb);have ρ:=aK (Q2 HB.out hb);clear HB O X;have HB:=ρ;have O:= ε;have X:= ζ;have HO:=Y;clear ρ Y ε ζ hb af))|(go_at_call 90;((with_reducible refine(api_Inside_90.calls (l.length+6) _ v4 l (tok B J) _ w w4 HB.out HO.out HD.out A l.length c g2 g3 0 O.out ?hx η.out θ.out).mono ?_);(case hx=>rw[T1.out,T2.out];exact X.out);rintro e w5 ⟨v5,rfl,af,hb,hk⟩;have ι :=aK af;have κ :=aK hb;clear af hb hk)))
 go_ret
 exact⟨_,rfl,Kd.Q1 ι.out (fun _ _=>trivial),κ.out⟩
set_option maxRecDepth 100000 in
set_option maxHeartbeats 1000000 in
theorem Kj (Z A1:Option Addr) (J X c0 c1:Nat) (w:World):
 Calls Try.prog 63 #[.agg #[.slice Z J c0,.slice A1 X c1]] w fun e w'=>e = .returned (.agg #[.slice Z J c0,.func (.func 79) #[] #[]])∧Below w.heap.size w w':=by
 have HB:=aK (Below.refl w.heap.size w)
 go_enter Try.func63,Try.ntmps63
 go_wp2_with (first|((with_reducible refine Qe (N:=1) rfl ?_);refine Zh ?hg (N:=1) ?hd (cs:=#[.slice Z J c0,.slice A1 X c1]) (t:=50) ?hr ?_;(case hd=>rfl);(case hg=>rfl);(case hr=>first|(go_simp;done)|(go_simp;rfl));intro g1 hg_ w1 hbox hb;have ρ:=aK (Q2 HB.out hb);have τ :=aK hbox;clear HB;have HB:=ρ;have B:= τ;clear ρ τ;clear hb hbox hg_)|((with_reducible refine Qe (N:=2) rfl ?_);refine Zh ?hg (N:=2) ?hd (cs:=#[.slice none 0 0,.nilFunc]) (t:=109) ?hr ?_;(case hd=>rfl);(case hg=>rfl);(case hr=>first|(go_simp;done)|(go_simp;rfl));intro g2 hg_ w2 hbox hb;have GEs:=aK HB.out.size;have GEl:=aK (Xi B.out);have Y:=aK (Qz (g:=g1) (o:=.cells #[.slice Z J c0,.slice A1 X c1] 50 (0,0)) B.out hb);have ρ:=aK (Q2 HB.out hb);have τ :=aK hbox;clear HB B;have HB:=ρ;have O:= τ;have B:=Y;clear ρ τ Y;have ε :=aK (by rw[hg_];exact GEs.out:w.heap.size≤g2);have NB:=aK (by rw[hg_];exact Nat.ne_of_lt GEl.out:g1≠g2);clear hb hbox hg_;have hnb:=NB.out;have γ:w2.cell? ⟨g1,0,none⟩=some (.slice Z J c0):=(Qa B.out 0).trans rfl;have δ :w2.cell? ⟨g1,1,none⟩=some (.slice A1 X c1):=(Qa B.out 1).trans rfl;have ζ :w2.cell? ⟨g2,0,none⟩=some (.slice none 0 0):=(Qa O.out 0).trans rfl;have η :w2.cell? ⟨g2,1,none⟩=some (.nilFunc):=(Qa O.out 1).trans rfl;have θ :=Qh O.out 0;have ι :=Qh O.out 1))
 refine bodyPost_ret (results_cell_row rfl _ _ g2 109 #[.slice Z J c0,.func (.func 79) #[] #[]] (0,0) _ rfl (by refine Qq (cs:=#[.slice Z J c0,.nilFunc]) ?_ 1 _ rfl;refine Qq (cs:=#[.slice none 0 0,.nilFunc]) ?_ 0 _ rfl;exact O.out) Try.underlying109 rfl kr) rfl ?_
 exact⟨rfl,Qr (Qr HB.out ε.out) ε.out⟩
set_option maxRecDepth 100000 in
set_option maxHeartbeats 1000000 in
theorem Jx (F C:Int) (w:World):
 Calls Try.prog 65 #[.agg #[.int .i64 F,.int .i64 C]] w fun e w'=>∃ g:Nat,e = .returned (.func (.func 82) #[] #[.pointer (some ⟨g,0,none⟩)])∧w'.heap[g]?=some (.cells #[.int .i64 F,.int .i64 C] 59 (0,0))∧w.heap.size≤g∧Below w.heap.size w w':=by
 have HB:=aK (Below.refl w.heap.size w)
 go_enter Try.func65,Try.ntmps65
 go_wp2_with (first|((with_reducible refine Qe (N:=1) rfl ?_);refine Zh ?hg (N:=1) ?hd (cs:=#[.int .i64 F,.int .i64 C]) (t:=59) ?hr ?_;(case hd=>rfl);(case hg=>rfl);(case hr=>first|(go_simp;done)|(go_simp;rfl));intro g1 hg_ w1 hbox hb;have GEs:=aK HB.out.size;have ρ:=aK (Q2 HB.out hb);have τ :=aK hbox;clear HB;have HB:=ρ;have B:= τ;clear ρ τ;have J:=aK (by rw[hg_];exact GEs.out:w.heap.size≤g1);clear hb hbox hg_))
 go_ret
 exact⟨_,rfl,B.out,J.out,HB.out⟩
set_option maxRecDepth 100000 in
set_option maxHeartbeats 1000000 in
theorem Gy (Z A1:Option Addr) (J X c0 c1:Nat) (w:World):
 Calls Try.prog 66 #[.agg #[.slice Z J c0,.slice A1 X c1]] w fun e w'=>e = .returned (.agg #[.slice A1 X c1,.func (.func 83) #[] #[]])∧Below w.heap.size w w':=by
 have HB:=aK (Below.refl w.heap.size w)
 go_enter Try.func66,Try.ntmps66
 go_wp2_with (first|((with_reducible refine Qe (N:=1) rfl ?_);refine Zh ?hg (N:=1) ?hd (cs:=#[.slice Z J c0,.slice A1 X c1]) (t:=50) ?hr ?_;(case hd=>rfl);(case hg=>rfl);(case hr=>first|(go_simp;done)|(go_simp;rfl));intro g1 hg_ w1 hbox hb;have ρ:=aK (Q2 HB.out hb);have τ :=aK hbox;clear HB;have HB:=ρ;have B:= τ;clear ρ τ;clear hb hbox hg_)|((with_reducible refine Qe (N:=2) rfl ?_);refine Zh ?hg (N:=2) ?hd (cs:=#[.slice none 0 0,.nilFunc]) (t:=116) ?hr ?_;(case hd=>rfl);(case hg=>rfl);(case hr=>first|(go_simp;done)|(go_simp;rfl));intro g2 hg_ w2 hbox hb;have GEs:=aK HB.out.size;have GEl:=aK (Xi B.out);have Y:=aK (Qz (g:=g1) (o:=.cells #[.slice Z J c0,.slice A1 X c1] 50 (0,0)) B.out hb);have ρ:=aK (Q2 HB.out hb);have τ :=aK hbox;clear HB B;have HB:=ρ;have O:= τ;have B:=Y;clear ρ τ Y;have ε :=aK (by rw[hg_];exact GEs.out:w.heap.size≤g2);have NB:=aK (by rw[hg_];exact Nat.ne_of_lt GEl.out:g1≠g2);clear hb hbox hg_;have hnb:=NB.out;have γ:w2.cell? ⟨g1,0,none⟩=some (.slice Z J c0):=(Qa B.out 0).trans rfl;have δ :w2.cell? ⟨g1,1,none⟩=some (.slice A1 X c1):=(Qa B.out 1).trans rfl;have ζ :w2.cell? ⟨g2,0,none⟩=some (.slice none 0 0):=(Qa O.out 0).trans rfl;have η :w2.cell? ⟨g2,1,none⟩=some (.nilFunc):=(Qa O.out 1).trans rfl;have θ :=Qh O.out 0;have ι :=Qh O.out 1))
 refine bodyPost_ret (results_cell_row rfl _ _ g2 116 #[.slice A1 X c1,.func (.func 83) #[] #[]] (0,0) _ rfl (by refine Qq (cs:=#[.slice A1 X c1,.nilFunc]) ?_ 1 _ rfl;refine Qq (cs:=#[.slice none 0 0,.nilFunc]) ?_ 0 _ rfl;exact O.out) Try.underlying116 rfl kr) rfl ?_
 exact⟨rfl,Qr (Qr HB.out ε.out) ε.out⟩
set_option maxRecDepth 100000 in
set_option maxHeartbeats 1000000 in
theorem Wg (F C:Int) (w:World):
 Calls Try.prog 68 #[.agg #[.int .i64 F,.int .i64 C]] w fun e w'=>∃ g:Nat,e = .returned (.func (.func 84) #[] #[.pointer (some ⟨g,0,none⟩)])∧w'.heap[g]?=some (.cells #[.int .i64 F,.int .i64 C] 59 (0,0))∧w.heap.size≤g∧Below w.heap.size w w':=by
 have HB:=aK (Below.refl w.heap.size w)
 go_enter Try.func68,Try.ntmps68
 go_wp2_with (first|((with_reducible refine Qe (N:=1) rfl ?_);refine Zh ?hg (N:=1) ?hd (cs:=#[.int .i64 F,.int .i64 C]) (t:=59) ?hr ?_;(case hd=>rfl);(case hg=>rfl);(case hr=>first|(go_simp;done)|(go_simp;rfl));intro g1 hg_ w1 hbox hb;have GEs:=aK HB.out.size;have ρ:=aK (Q2 HB.out hb);have τ :=aK hbox;clear HB;have HB:=ρ;have B:= τ;clear ρ τ;have J:=aK (by rw[hg_];exact GEs.out:w.heap.size≤g1);clear hb hbox hg_))
 go_ret
 exact⟨_,rfl,B.out,J.out,HB.out⟩
end Go.Proofs.Ytmfffemidlhcpaa.C
namespace Go.Proofs.Ytmfffemidlhcpaa.C
open Go.RowKit Go.Proofs.YtmfffemidlhcpaaW.PrintWords Go.Proofs.YtmfffemidlhcpaaW.PrintLast Go.Proofs.YtmfffemidlhcpaaW.PrintMore
set_option linter.unusedVariables false
def small (n:Nat) (C:Int):Bool:=decide (n<1000000000 ∧ -9223372036854775808≤C∧C≤9223372036854775807)
def rightP_H.f (O:List S36) (X:List S86) (B J:Int):Option Bool:=if small O.length J=true then some (Call.Zj (fun x=>Xf B J x.f0 x.f1 x.f2) Call.ltH none O) else none
theorem rightP_H.calls (ι :Option Addr) (η :Nat) (O:List S36) (κ :Option Addr) (θ :Nat) (X:List S86) (B J:Int) (r:Bool) (w:World) (ag:Kd.C k36 w ι O.length O) (ai:O.length ≤ η) (an:Kd.C k86 w κ X.length X) (b2:X.length ≤ θ) (h:rightP_H.f O X B J=some r) (g:Nat) (hg:w.heap[g]?=some (.cells #[.int .i64 B,.int .i64 J] 59 (0,0))):
 Calls Try.prog 64 #[.agg #[.slice ι O.length η,.func (.func 79) #[] #[]],.func (.func 82) #[] #[.pointer (some ⟨g,0,none⟩)]] w fun e w'=>e = .returned (.bool r)∧Below w.heap.size w w':=by
 unfold rightP_H.f at h
 split at h
 case isFalse=>cases h
 case isTrue hs=>
 cases h
 obtain⟨hl,hb⟩:=of_decide_eq_true hs
 have e1:=Kq B J hb
 have e2:=Kp B J hb
 refine api_Hall_right.calls (2 * O.length+1) ι η O 0 (tok B J) _ w ag ai ?_ g ?_
 ·rw[Call.L9 O _ 0 (by omega) _ (by omega),e1,e2]
 ·rw[e1,e2];exact hg
def rightP_I.f (O:List S36) (X:List S86) (B J:Int):Option Bool:=if small X.length J=true then some (Call.Zj (fun x=>Y0 B J x.f0 x.f1) Call.ltI none X) else none
theorem rightP_I.calls (ι :Option Addr) (η :Nat) (O:List S36) (κ :Option Addr) (θ :Nat) (X:List S86) (B J:Int) (r:Bool) (w:World) (ag:Kd.C k36 w ι O.length O) (ai:O.length ≤ η) (an:Kd.C k86 w κ X.length X) (b2:X.length ≤ θ) (h:rightP_I.f O X B J=some r) (g:Nat) (hg:w.heap[g]?=some (.cells #[.int .i64 B,.int .i64 J] 59 (0,0))):
 Calls Try.prog 67 #[.agg #[.slice κ X.length θ,.func (.func 83) #[] #[]],.func (.func 84) #[] #[.pointer (some ⟨g,0,none⟩)]] w fun e w'=>e = .returned (.bool r)∧Below w.heap.size w w':=by
 unfold rightP_I.f at h
 split at h
 case isFalse=>cases h
 case isTrue hs=>
 cases h
 obtain⟨hl,hb⟩:=of_decide_eq_true hs
 have e1:=Kq B J hb
 have e2:=Kp B J hb
 refine api_Inside_right.calls (2 * X.length+1) κ θ X 0 (tok B J) _ w an b2 ?_ g ?_
 ·rw[Call.L8 X _ 0 (by omega) _ (by omega),e1,e2]
 ·rw[e1,e2];exact hg
end Go.Proofs.Ytmfffemidlhcpaa.C
namespace Go.Proofs.Ytmfffemidlhcpaa.C
open Go.RowKit Go.Proofs.YtmfffemidlhcpaaW.PrintWords Go.Proofs.YtmfffemidlhcpaaW.PrintLast Go.Proofs.YtmfffemidlhcpaaW.PrintMore
attribute [local go_sem] Z0 Zy Z6 Z5 Zr Zq Zz Zx
set_option linter.unusedVariables false
set_option linter.unusedSimpArgs false
def api_Hall_set.j0:Nat→List (S36)→Option ((List (S36)))
 |0,_=>none
 |k+1,X=>some X
def api_Hall_set.f (k:Nat) (B:List (S36)) (J:Int) (δ :Int) (ε :Int) (ι :Int):Option ((List (S36))):=(api_Hall_88.f B).bind fun γ=>((api_Hall_89.f k γ δ ε ι J).bind fun X=>(if X.2=true then (if 0≤X.1 then (if X.1<(γ.length:Int) then (api_Hall_set.j0 k (γ.set (X.1:Int).toNat (⟨δ,ε,ι⟩:S36))) else (none)) else (none)) else (api_Hall_set.j0 k γ)))
set_option maxHeartbeats 8000000 in
set_option maxRecDepth 100000 in
theorem api_Hall_set.calls (k:Nat) (φ :Option Addr) (κ :Nat) (B:List (S36)) (J:Int) (δ :Int) (ε :Int) (ι :Int) (r:List (S36)) (w:World) (a0:Kd.C k36 w φ B.length B) (a2:B.length ≤ κ) (h:api_Hall_set.f k B J δ ε ι = some r):
 Calls Try.prog 74 #[.agg #[.slice φ B.length κ,.func (.func 79) #[] #[]],.agg #[.int .i64 δ,.int .i64 ε,.int .i64 ι]] w fun e w'=>∃ b8:Value,e = .returned (b8)∧Kd.R k36 36 w' w.heap.size (fun _=>True) b8 r∧Below w.heap.size w w':=by
 have ck:=Try.underlying109
 have ch:=Try.underlying36
 have ah:=aK a0
 have bl:=aK a2
 clear a0 a2
 have HB:=aK (Below.refl w.heap.size w)
 have H:((api_Hall_88.f B).bind fun γ=>((api_Hall_89.f k γ δ ε ι J).bind fun X=>(if X.2=true then (if 0≤X.1 then (if X.1<(γ.length:Int) then (api_Hall_set.j0 k (γ.set (X.1:Int).toNat (⟨δ,ε,ι⟩:S36))) else (none)) else (none)) else (api_Hall_set.j0 k γ))))=some r:=h
 clear h
 obtain⟨γ,a7,H⟩:=qO H
 have A3:=aK a7
 clear a7
 obtain⟨⟨μ,a6⟩,ab,H⟩:=qO H
 replace H:(if a6=true then (if 0 ≤ μ then (if μ < (γ.length:Int) then (api_Hall_set.j0 k (γ.set (μ :Int).toNat (⟨δ,ε,ι⟩:S36))) else (none)) else (none)) else (api_Hall_set.j0 k γ))=some r:=H
 have A4:=aK ab
 clear ab
 have b5:=aK H
 clear H
 go_enter Try.func74,Try.ntmps74
 go_upto_if 19 with(first|((with_reducible refine Qe (N:=2) rfl ?_);refine qE 2 #[.slice φ B.length κ,.func (.func 79) #[] #[]] 109 ?_;intro ω hg w6 hbox hb;have Y:=aK hbox;have bo:=sGe hg;have bp:=sGe hg;replace HB:=sHb hb;clear hb hbox hg)|((with_reducible refine Qe (N:=3) rfl ?_);refine qE 3 #[.int .i64 δ,.int .i64 ε,.int .i64 ι] 36 ?_;intro ψ hg w7 hbox hb;have Z:=aK hbox;have br:=sGe hg;have bu:=sGe hg;have ρ:=sNl Y hg;have τ :=sNg Y hg;replace Y:=sBk Y hb;replace HB:=sHb hb;clear hb hbox hg;have b9:=ρ.out;have bn:= τ.out;obtain⟨ao,b7,bi,bk⟩:=qD2 Y.out)|((with_reducible refine Qf (f:=88) rfl ?_);refine Qt (some 10) rfl rfl Try.func88 kr rfl #[.slice φ B.length κ] rfl qM ?_;(with_reducible refine(api_Hall_88.calls _ _ B γ _ ?side1 ?side2 A3.out).mono ?_);(case side1=>exact(Kd.Qs ah.out HB.out));(case side2=>exact bl.out);rintro e fj ⟨cr,rfl,af,hb⟩;refine⟨_,rfl, ?_⟩;have O:=aK (Kd.Q8 (Kd.Jn af (g:= ψ) (o:=.cells #[.int .i64 δ,.int .i64 ε,.int .i64 ι] 36 (0,0)) Z.out) (Qn HB.out));replace Y:=sBk Y hb;replace Z:=sBk Z hb;replace HB:=sHb hb;(try clear hb);(try clear a4);(try clear hk);(try clear hi);(try clear af);obtain⟨bs,cn,cw,co,cp,d4⟩:=qD3 Z.out;obtain⟨a5,am,b3,b4⟩:=qD2 Y.out;obtain⟨ar,ac,au⟩:=Kd.Q7 O.out;subst au)|((with_reducible refine Qf (f:=89) rfl ?_);refine Qt (some 16) rfl rfl Try.func89 kr rfl #[.slice ar γ.length ac,.agg #[.int .i64 δ,.int .i64 ε,.int .i64 ι],.func (.func 79) #[] #[]] rfl qM ?_;(with_reducible refine(api_Hall_89.calls k _ _ γ δ ε ι J μ a6 _ ?side1 ?side2 A4.out).mono ?_);(case side1=>exact(Kd.Qw O.out).2.2);(case side2=>exact(Kd.Qw O.out).2.1);rintro e bz ⟨rfl,hb⟩;refine⟨_,rfl, ?_⟩;replace O:=sRb O hb;replace Y:=sBk Y hb;replace Z:=sBk Z hb;replace HB:=sHb hb;(try clear hb);(try clear a4);(try clear hk);(try clear hi)))
 (try simp only[Act.put,qS])
 go_cut [] (fun wc=>∃ (kq:Nat) (av:List (S36)) (a8:Int) (ag:Int) (ai:Int),Aside0 (api_Hall_set.j0 kq av=some r)∧Aside0 (kq≤k)∧Aside0 (Kd.R k36 36 wc w.heap.size (fun k_=>k_ ≠ ψ) (.slice ar γ.length ac) av)∧Aside0 (wc.heap[ω]?=some (.cells #[(.slice φ B.length κ),.func (.func 79) #[] #[]] 109 (0,0)))∧Aside0 (wc.heap[ψ]?=some (.cells #[.int .i64 a8,.int .i64 ag,.int .i64 ai] 36 (0,0)))∧Aside0 (Below w.heap.size w wc))
 case first=>
  have H:=b5.out
  clear b5
  by_cases a1:a6=true
  ·subst a1
   rw[if_pos rfl] at H
   by_cases χ :0 ≤ μ
   ·rw[if_pos χ] at H
    have c16b0:=decide_eq_true χ
    clear χ
    (first|rw[c16b0]|(simp only[Za,Zb];rw[c16b0])|skip)
    by_cases σ: μ < (γ.length:Int)
    ·rw[if_pos σ] at H
     have c17b0:=decide_eq_true σ
     clear σ
     obtain⟨a9,η⟩:∃ y_:List (S36),y_=(γ.set (μ :Int).toNat (⟨δ,ε,ι⟩:S36)):=⟨_,rfl⟩
     replace H:(api_Hall_set.j0 k a9)=some r:=by first|(rw[η];with_reducible exact H)|(have al:=(Option.bind_some _ _).symm.trans H;rw[η];with_reducible exact al)|(have al:=(Option.bind_some _ _).symm.trans H;with_reducible exact al)|with_reducible exact H|(rw[η];exact H)|exact H
     have aa:=aK η
     clear η
     have H':=aK H
     clear H
     have cq:= τ.out
     have ct:=ρ.out
     obtain⟨ak,an,a3,aw,ax,b6⟩:=qD3 Z.out
     have b0:0≤(μ :Int):=of_decide_eq_true (by assumption)
     have b1:(μ :Int)<((γ.length:Int):Int):=of_decide_eq_true (by assumption)
     obtain⟨ζ,cz,bq,bb,bm,d3,bf⟩:=Kd.Uo O.out (by omega)
     (first|cases bq|(injection bq with ea_ en_ ec_;(first|subst ea_|(injection ea_ with ea_;subst ea_));subst ec_;clear en_))
     have ae:=aK bb
     have d5:=aK bf
     clear bb bm bf
     obtain⟨d6,bh,bg,ν,ξ⟩:=Kd.Jo O.out z36 (μ :Int) b0 b1
     obtain rfl:=Yh bg
     have ce:bz.cell? ⟨ζ,(μ :Int).toNat * 3,none⟩=some (.int .i64 ((Qc γ μ).f0)):= ν 0 _ rfl
     have cf:bz.cell? ⟨ζ,(μ :Int).toNat * 3+1,none⟩=some (.int .i64 ((Qc γ μ).f1)):= ν 1 _ rfl
     have cj:bz.cell? ⟨ζ,(μ :Int).toNat * 3+2,none⟩=some (.int .i64 ((Qc γ μ).f2)):= ν 2 _ rfl
     have cg:bz.frozen? ⟨ζ,(μ :Int).toNat * 3,none⟩=false:= ξ 0
     have ci:bz.frozen? ⟨ζ,(μ :Int).toNat * 3+1,none⟩=false:= ξ 1
     have cm:bz.frozen? ⟨ζ,(μ :Int).toNat * 3+2,none⟩=false:= ξ 2
     clear bh ν ξ bg
     replace b0:=eq_true b0
     replace b1:=eq_true b1
     have n_:=aK (Kd.Q1 (ok':=(fun k_=>k_ ≠ ψ)) O.out (fun k_ hk=>hk.2))
     clear O
     have O:=n_
     clear n_
     have ba:=aK (show Kd.R k36 36 bz w.heap.size (fun k_=>k_ ≠ ψ) (.slice (some ⟨ζ,0,none⟩) γ.length ac) γ from O.out)
     obtain⟨cu,b2,bc,θ,aj⟩:=Kd.Jo ba.out z36 (μ :Int) (of_decide_eq_true (by assumption)) (by have h_:(μ :Int)<((γ.length:Int):Int):=of_decide_eq_true (by assumption);first|exact h_|(have e_:=(Kd.Qw O.out).1;omega)|simpa using h_)
     obtain rfl:=Yh bc
     have ay:=Kd.Lx ba.out (μ :Int) (of_decide_eq_true (by assumption)) (by have h_:(μ :Int)<((γ.length:Int):Int):=of_decide_eq_true (by assumption);first|exact h_|(have e_:=(Kd.Qw O.out).1;omega)|simpa using h_) (seg:=[.int .i64 δ,.int .i64 ε,.int .i64 ι]) (j:=0) b2 θ (show 3≤3 from by decide) (x':=(⟨δ,ε,ι⟩:S36)) (K2 _ _ _ (⟨δ,ε,ι⟩:S36)) (fun _ hk=>hk)
     have bd:= θ 0 _ rfl
     (try simp only[show(k36).sz=3 from rfl,Nat.mul_one,Nat.add_zero] at bd)
     have bv:=aj 0
     (try simp only[show(k36).sz=3 from rfl,Nat.mul_one,Nat.add_zero] at bv)
     have bw:= θ 1 _ rfl
     (try simp only[show(k36).sz=3 from rfl,Nat.mul_one,Nat.add_zero] at bw)
     have ca:=aj 1
     (try simp only[show(k36).sz=3 from rfl,Nat.mul_one,Nat.add_zero] at ca)
     have cb:= θ 2 _ rfl
     (try simp only[show(k36).sz=3 from rfl,Nat.mul_one,Nat.add_zero] at cb)
     have cd:=aj 2
     (try simp only[show(k36).sz=3 from rfl,Nat.mul_one,Nat.add_zero] at cd)
     clear b2 θ aj bc
     go_wp2_with (first|((with_reducible refine Jk (t:=36) (p:=23) rfl ?_);refine Y1 (t:=36) (p:=23) (v:=?vo_w22) (w1:=(((bz.setCell ⟨ζ,(μ :Int).toNat * 3,none⟩ (.int .i64 δ)).setCell ⟨ζ,(μ :Int).toNat * 3+1,none⟩ (.int .i64 ε)).setCell ⟨ζ,(μ :Int).toNat * 3+2,none⟩ (.int .i64 ι))) ?hg ?ho ?hn ?hr ?_;(case ho=>rfl);(case hg=>rfl);(case hn=>rfl);(case hr=>go_simp <;> rfl);intro bj hw;have hg:bz.grownBy bj (some ζ):=(by rw[hw];exact ay.2);have hp_:Kd.R k36 36 bj w.heap.size (fun k_=>k_ ≠ ψ) (.slice (some ⟨ζ,0,none⟩) γ.length ac) a9:=(by rw[hw,aa.out];exact ay.1);clear ay;replace Y:=aK (Q0 (g:= ω) (o:=.cells #[.slice φ B.length κ,.func (.func 79) #[] #[]] 109 (0,0)) Y.out hg (Kd.Zo O.out Y.out (by decide)));replace Z:=aK (Q0 (g:= ψ) (o:=.cells #[.int .i64 δ,.int .i64 ε,.int .i64 ι] 36 (0,0)) Z.out hg (Kd.Lf O.out (fun _ hk=>hk)));replace O:=aK hp_;replace HB:=aK ((by rw[hw];exact Qr (Qr (Qr (HB.out) ae.out) ae.out) ae.out:Below w.heap.size w bj));clear hg hw hp_))
     go_meet
     case rel=>exact⟨_,(a9),(δ),(ε),(ι),H',⟨by first|omega|exact Nat.le_refl _⟩,⟨by(with_reducible repeat first|apply Kd.Qv|apply Kd.Qu|apply Kd.Qy);exact O.out⟩,Y,Z,HB⟩
    ·rw[if_neg σ] at H
     exact absurd H (by simp)
   ·rw[if_neg χ] at H
    exact absurd H (by simp)
  ·replace a1:=Bool.eq_false_iff.mpr a1
   subst a1
   rw[if_neg nft] at H
   have H':=aK H
   clear H
   go_wp2
   go_meet
   case rel=>exact⟨_,(γ),(δ),(ε),(ι),H',⟨by first|omega|exact Nat.le_refl _⟩,⟨by(with_reducible repeat first|apply Kd.Qv|apply Kd.Qu|apply Kd.Qy);exact Kd.Q1 O.out (fun _ hk=>hk.2)⟩,Y,Z,HB⟩
 case rest=>
  clear b5
  try clear bs
  try clear cn
  try clear cw
  try clear a5
  try clear am
  try clear ao
  try clear b7
  try clear co
  try clear cp
  try clear d4
  try clear b3
  try clear b4
  try clear bi
  try clear bk
  obtain⟨kq,av,a8,ag,ai,HA,cv,az,Y,Z,HB⟩:=hcut
  have ap:=(Kd.Qw az.out).1
  rw[ap] at az
  (try simp only[ap])
  (try simp only[ap] at Y)
  (try simp only[ap] at Z)
  cases kq with
  |zero=>exact absurd HA.out (by simp[api_Hall_set.j0])
  |succ cx=>
   have H:=HA.out
   clear HA
   simp only[api_Hall_set.j0] at H
   obtain rfl:=Option.some.inj H
   go_wp2
   go_ret
   exact⟨_,rfl,by(with_reducible repeat first|apply Kd.Qv|apply Kd.Qu|apply Kd.Qy);exact Kd.Q1 az.out (fun _ hk=>trivial),HB.out⟩
end Go.Proofs.Ytmfffemidlhcpaa.C
namespace Go.Proofs.Ytmfffemidlhcpaa.C
open Go.RowKit Go.Proofs.YtmfffemidlhcpaaW.PrintWords Go.Proofs.YtmfffemidlhcpaaW.PrintLast Go.Proofs.YtmfffemidlhcpaaW.PrintMore
set_option linter.unusedVariables false
def hallP.f (B J X F C:Int):Option Bool:=some (Xf F C B J X)
def woP_I.f (B J:Int) (l:List S86):Option (List S86):=if small l.length J=true then some (woI B J l) else none
def V5 (x:S36) (l:List S36):List S36:=l.map (fun y=>if y.f0=x.f0∧y.f1=x.f1 then x else y)
def setP_H.f (B J X:Int) (l:List S36):Option (List S36):=if small l.length J=true∧Call.Zj (fun _=>true) Call.ltH none l=true then some (V5 ⟨B,J,X⟩ l) else none
theorem Uv (Z:Option Addr) (c:Nat) (l:List S86) (B J:Int) (t:List S86) (W:World) (hr:Kd.C k86 W Z l.length l) (hc:l.length≤c) (h:woP_I.f B J l=some t):
 Calls Try.prog 75 #[.agg #[.slice Z l.length c,.func (.func 83) #[] #[]],.agg #[.int .i64 B,.int .i64 J]] W fun e w'=>∃ b8:Value,e = .returned b8∧Kd.R k86 86 w' W.heap.size (fun _=>True) b8 t∧Below W.heap.size W w':=by
 unfold woP_I.f at h
 split at h
 case isFalse=>cases h
 case isTrue hs=>
 cases h
 obtain⟨hl,hb⟩:=of_decide_eq_true hs
 exact V3 Z c l B J W hr hc hl hb
theorem Uy (x:S36) (l:List S36):(V5 x l).length=l.length:=by unfold V5;simp
theorem Uz (x:S36) (l:List S36) (m:Nat) (h:m<l.length) (O:m<(V5 x l).length):(V5 x l)[m]=if l[m].f0=x.f0∧l[m].f1=x.f1 then x else l[m]:=by
 simp only[V5,List.getElem_map]
theorem L5 (l:List S36) (x:S36) (p:Nat) (hs:l.Pairwise (fun x y=>Call.ltH x y=true)) (hp:Call.Vk l x.f0 x.f1 p):
 Call.Vr l x.f0 x.f1 p=true→l.set p x=V5 x l:=by
 intro h
 unfold Call.Vr at h
 obtain⟨h1,O,Z⟩:=hp
 rcases Nat.lt_or_ge p l.length with hlt|hge
 case inr=>rw[List.getElem?_eq_none hge] at h;simp at h
 rw[List.getElem?_eq_getElem hlt] at h
 have he:Yc l[p].f0 l[p].f1 x.f0 x.f1=0:=by simpa using h
 rw[Call.Gp] at he
 apply List.ext_getElem
 ·rw[Uy];simp
 intro m B X
 rw[List.length_set] at B
 rw[List.getElem_set,Uz x l m B X]
 by_cases hm:p=m
 ·subst hm
  rw[if_pos rfl,if_pos he]
 ·rw[if_neg hm,if_neg]
  intro hq
  rcases Nat.lt_or_ge m p with J|Y
  ·have:=List.pairwise_iff_getElem.1 hs m p B hlt J
   rw[Call.Y5] at this
   omega
  ·have:=List.pairwise_iff_getElem.1 hs p m hlt B (by omega)
   rw[Call.Y5] at this
   omega
theorem Nb (l:List S36) (x:S36) (p:Nat) (hs:l.Pairwise (fun x y=>Call.ltH x y=true)) (hp:Call.Vk l x.f0 x.f1 p):
 Call.Vr l x.f0 x.f1 p=false→l=V5 x l:=by
 intro h
 unfold Call.Vr at h
 obtain⟨h1,O,Z⟩:=hp
 have key:∀ m:Nat,(hm:m<l.length) → ¬ (l[m].f0=x.f0∧l[m].f1=x.f1):=by
  intro m hm hq
  rw[← Call.Gp] at hq
  rcases Nat.lt_or_ge m p with hlt|hge
  ·have:=O l[m] (List.mem_iff_getElem.2 ⟨m,by rw[List.length_take];omega,by rw[List.getElem_take]⟩)
   omega
  ·rcases Nat.lt_or_ge p m with J|Y
   ·have g1:=List.pairwise_iff_getElem.1 hs p m (by omega) hm J
    have g2:=Z l[p] (List.mem_iff_getElem.2 ⟨0,by rw[List.length_drop];omega,by rw[List.getElem_drop];simp⟩)
    rw[Call.Y5] at g1
    rw[Call.Gp] at hq
    rw[Call.K4] at g2
    omega
   ·have hpm:p=m:=by omega
    subst hpm
    rw[List.getElem?_eq_getElem hm] at h
    simp[hq] at h
 apply List.ext_getElem
 ·rw[Uy]
 intro m B X
 rw[Uz x l m B X,if_neg (key m B)]
theorem V6 (Z:Option Addr) (c:Nat) (l:List S36) (B J X:Int) (t:List S36) (W:World) (hr:Kd.C k36 W Z l.length l) (hc:l.length≤c) (h:setP_H.f B J X l=some t):
 Calls Try.prog 74 #[.agg #[.slice Z l.length c,.func (.func 79) #[] #[]],.agg #[.int .i64 B,.int .i64 J,.int .i64 X]] W fun e w'=>∃ b8:Value,e = .returned b8∧Kd.R k36 36 w' W.heap.size (fun _=>True) b8 t∧Below W.heap.size W w':=by
 unfold setP_H.f at h
 split at h
 case isFalse=>cases h
 case isTrue hs=>
 cases h
 obtain⟨hl,hb⟩:=of_decide_eq_true hs.1
 have hso:=((Call.Js (fun _=>true) l).1 hs.2).2
 refine api_Hall_set.calls (l.length+2) Z c l 0 B J X _ W hr hc ?_
 unfold api_Hall_set.f api_Hall_88.f
 rw[if_pos hl]
 simp only[Option.bind_some]
 obtain⟨p,hp,e⟩:=Call.Wq l B J X 0 (by omega) hso (l.length+2) (by omega)
 obtain⟨b,hm⟩:∃ b,Call.Vr l B J p=b:=⟨_,rfl⟩
 rw[hm] at e
 rw[e]
 simp only[Option.bind_some]
 cases b
 ·rw[if_neg (by decide)]
  simp only[api_Hall_set.j0]
  congr 1
  exact Nb l ⟨B,J,X⟩ p hso hp hm
 ·have hlt:p<l.length:=by
   rcases Nat.lt_or_ge p l.length with h|h
   ·exact h
   ·unfold Call.Vr at hm;rw[List.getElem?_eq_none h] at hm;simp at hm
  rw[if_pos rfl,if_pos (by omega),if_pos (by omega)]
  simp only[api_Hall_set.j0,Int.toNat_natCast]
  congr 1
  exact L5 l ⟨B,J,X⟩ p hso hp hm
end Go.Proofs.Ytmfffemidlhcpaa.C
namespace Go.Proofs.Ytmfffemidlhcpaa.C
open Go.RowKit Go.Proofs.YtmfffemidlhcpaaW.PrintWords Go.Proofs.YtmfffemidlhcpaaW.PrintLast Go.Proofs.YtmfffemidlhcpaaW.PrintMore
attribute [local go_sem] Z0 Zy Z6 Z5 Zr Zq Zz Zx
set_option linter.unusedVariables false
set_option linter.unusedSimpArgs false
def call_Check.j0:Nat→Bool→Option (Int)
 |0,_=>none
 |k+1,O=>if O=true then (some 190) else (some 0)
def call_Check.f (k:Nat) (B:Int) (J:Int) (O:List (S36)) (X:List (S86)):Option (Int):=(call_within.f B 2 64).bind fun γ=>(if γ=true then ((call_within.f J 1 8).bind fun δ =>(if δ = true then ((rightP_H.f O X B J).bind fun ζ =>(if ζ = true then ((rightP_I.f O X B J).bind fun μ =>(call_Check.j0 k (!μ))) else (call_Check.j0 k true))) else (call_Check.j0 k true))) else (call_Check.j0 k true))
theorem call_Check.Zu:∀ k,(∀ O,LeO (call_Check.j0 k O) (call_Check.j0 (k+1) O))
 |0=>fun _ r h=>by simp[call_Check.j0] at h
 |k+1=>by
  have J:=call_Check.Zu k
  ·intro O
   unfold call_Check.j0
   repeat' first|(with_reducible first|apply J|exact LeO.refl _|exact LeO.none _|refine LeO.ite ?_ ?_|refine LeO.bind ?_ (fun _=>?_))|apply J|exact LeO.none _|refine LeO.ite ?_ ?_|refine LeO.bind ?_ (fun _=>?_)
theorem call_Check.mono:∀ B X a2 a3 k,LeO (call_Check.f k B X a2 a3) (call_Check.f (k+1) B X a2 a3):=by
 intro B X a2 a3 k
 have J:=call_Check.Zu k
 unfold call_Check.f
 repeat' first|(with_reducible first|apply J|exact LeO.refl _|exact LeO.none _|refine LeO.ite ?_ ?_|refine LeO.bind ?_ (fun _=>?_))|apply J|exact LeO.none _|refine LeO.ite ?_ ?_|refine LeO.bind ?_ (fun _=>?_)
def call_Check.T1:Bool×List (List Nat×List Nat):=(true,[([],[]),([0],[0]),([1],[1]),([2],[2]),([3,2],[3]),([4],[4]),([5,4],[4,5]),([6,4,4],[4,6]),([7,4],[4,7]),([4,8],[4,8]),([9,7],[9]),([10],[10]),([11,10,10],[10,11]),([10],[10]),([13,12,10],[10,13]),([12,14,14,10],[10,12,14]),([15,10],[10,15]),([10,16],[10,16]),([17,15],[17]),([18],[18]),([19,18,18],[18,19]),([18],[18]),([21,20,18],[18,21]),([20,22,22,18],[18,20,22]),([23,18],[18,23]),([18,24],[18,24])])
def call_Check.B1:List Nat:=[0,1,3,7,15,31,63,127,255,511,1023,2047,4095,2047,16383,32767,65535,131071,262143,524287,1048575,524287,4194303,8388607,16777215,33554431]
theorem call_Check.Kr:rtab .any (opsOf Try.f40 1)=call_Check.T1:=by kernel_rfl
theorem call_Check.Y6:Zk call_Check.T1.2 call_Check.B1=true:=by kernel_rfl
set_option maxHeartbeats 8000000 in
set_option maxRecDepth 100000 in
theorem call_Check.calls (k:Nat) (B:Int) (J:Int) (ι :Option Addr) (η :Nat) (O:List (S36)) (κ :Option Addr) (θ :Nat) (X:List (S86)) (r:Int) (w:World) (ag:Kd.C k36 w ι O.length O) (ai:O.length ≤ η) (an:Kd.C k86 w κ X.length X) (b2:X.length ≤ θ) (h:call_Check.f k B J O X=some r):
 Calls Try.prog 40 #[.agg #[.int .i64 B,.int .i64 J],.agg #[.slice ι O.length η,.slice κ X.length θ]] w fun e w'=>e = .returned (.int .i64 r)∧Below w.heap.size w w':=by
 have dw:=Try.underlying59
 have dc:=Try.underlying50
 have a0:=aK ag
 have b3:=aK ai
 clear ag ai
 have a1:=aK an
 have b4:=aK b2
 clear an b2
 have HB:=aK (Below.refl w.heap.size w)
 have H:((call_within.f B 2 64).bind fun γ=>(if γ=true then ((call_within.f J 1 8).bind fun δ =>(if δ = true then ((rightP_H.f O X B J).bind fun ζ =>(if ζ = true then ((rightP_I.f O X B J).bind fun μ =>(call_Check.j0 k (!μ))) else (call_Check.j0 k true))) else (call_Check.j0 k true))) else (call_Check.j0 k true)))=some r:=h
 clear h
 have a2:=aK H
 clear H
 go_enter Try.func40,Try.ntmps40
 go_upto_region 1 with(first|((with_reducible refine Qe (N:=2) rfl ?_);refine qE 2 #[.int .i64 B,.int .i64 J] 59 ?_;intro ω hg w4 hbox hb;have Y:=aK hbox;have bo:=sGe hg;have bp:=sGe hg;replace HB:=sHb hb;clear hb hbox hg)|((with_reducible refine Qe (N:=3) rfl ?_);refine qE 3 #[.slice ι O.length η,.slice κ X.length θ] 50 ?_;intro ψ hg w5 hbox hb;have Z:=aK hbox;have br:=sGe hg;have bu:=sGe hg;have ρ:=sNl Y hg;have τ :=sNg Y hg;replace Y:=sBk Y hb;replace HB:=sHb hb;clear hb hbox hg))
 (try simp only[Act.put,qS])
 go_cut [30] (fun a7 wc=>∃ (kq:Nat) (ε :Bool),a7 = .bool ε ∧ Aside0 (call_Check.j0 kq ε = some r)∧Aside0 (kq≤k)∧Aside0 (wc.heap[ω]?=some (.cells #[.int .i64 B,.int .i64 J] 59 (0,0)))∧Aside0 (wc.heap[ψ]?=some (.cells #[(.slice ι O.length η),(.slice κ X.length θ)] 50 (0,0)))∧Aside0 (Below w.heap.size w wc))
 case first=>
  have H:=a2.out
  clear a2
  obtain⟨γ,ao,H⟩:=qO H
  have A6:=aK ao
  clear ao
  by_cases c7:γ=true
  ·subst c7
   rw[if_pos rfl] at H
   obtain⟨δ,cn,H⟩:=qO H
   have A8:=aK cn
   clear cn
   by_cases c9: δ = true
   ·subst c9
    rw[if_pos rfl] at H
    obtain⟨ζ,cd,H⟩:=qO H
    have bn:=aK cd
    clear cd
    by_cases a6: ζ = true
    ·subst a6
     rw[if_pos rfl] at H
     obtain⟨μ,b7,H⟩:=qO H
     have b6:=aK b7
     clear b7
     have H':=aK H
     clear H
     try go_wp2
     replace Y:=aK (Qd Y.out)
     replace Z:=aK (Qd Z.out)
     replace HB:=aK (Qg HB.out)
     refine Ze (n:=26) (S:=fun w'=>w'.cell? ⟨ω,0,none⟩=some (.int .i64 B)∧w'.cell? ⟨ω,1,none⟩=some (.int .i64 J)∧w'.cell? ⟨ψ,0,none⟩=some (.slice ι O.length η)∧w'.cell? ⟨ψ,1,none⟩=some (.slice κ X.length θ)) (ds:=[]) #[false,false,false,false,false,false,false,false,false,false,false,false,false,false,false,false,false,false,false,false,false,false,false,false,false,false] kr rfl rfl ⟨(Qa Y.out 0).trans rfl,(Qa Y.out 1).trans rfl,(Qa Z.out 0).trans rfl,(Qa Z.out 1).trans rfl⟩ (fun hHeld=>?_);refine Q5 call_Check.Kr call_Check.Y6 (fun HT_ HW_=>?_)
     generalize w5.drew=ba at Y Z HB hHeld ⊢
     refine qP 0 (some 5) (bN 26 1) HT_ ?_
     refine qT 1 (some 6) (bN 26 3) HT_ HW_ hHeld ?_
     refine Zf (i:=2) (N:=some 7) (bN 26 7) rfl rfl (Q3 HT_.out kr) (by decide) (fun K hK=>?_)
     refine Zd Try.func44 kr rfl #[.int .i64 B,.int .i64 2,.int .i64 64] (by rfl) rfl rfl qM ?_
     with_reducible refine(call_within.calls B 2 64 true _ A6.out).mono ?_
     rintro e w' ⟨rfl,⟨nd,rfl⟩⟩
     refine⟨_,rfl, ?_⟩
     refine hK.out _ _ ⟨qc Y,qc Y,qc Z,qc Z⟩ (fun hHeld=>?_)
     clear hK K
     refine qN (some 7) ?_
     refine qP 3 (some 8) (bN 26 15) HT_ ?_
     refine qP 4 (some 9) (bN 26 31) HT_ ?_
     refine qP 5 (some 10) (bN 26 63) HT_ ?_
     refine qT 6 (some 11) (bN 26 127) HT_ HW_ hHeld ?_
     refine Zf (i:=7) (N:=some 12) (bN 26 255) rfl rfl (Q3 HT_.out kr) (by decide) (fun K hK=>?_)
     refine Zd Try.func44 kr rfl #[.int .i64 J,.int .i64 1,.int .i64 8] (by rfl) rfl rfl qM ?_
     with_reducible refine(call_within.calls J 1 8 true _ A8.out).mono ?_
     rintro e w' ⟨rfl,⟨nd,rfl⟩⟩
     refine⟨_,rfl, ?_⟩
     refine hK.out _ _ ⟨qc Y,qc Y,qc Z,qc Z⟩ (fun hHeld=>?_)
     clear hK K
     refine qN (some 12) ?_
     refine qP 8 (some 13) (bN 26 511) HT_ ?_
     refine qP 9 (some 14) (bN 26 1023) HT_ ?_
     refine qP 10 (some 15) (bN 26 2047) HT_ ?_
     refine qT 11 (some 16) (bN 26 4095) HT_ HW_ hHeld ?_
     refine qT 13 (some 18) (bN 26 12287) HT_ HW_ hHeld ?_
     refine Zf (i:=12) (N:=some 17) (bN 26 16383) rfl rfl (Q3 HT_.out kr) (by decide) (fun K hK=>?_)
     refine Zd Try.func63 kr rfl #[.agg #[.slice ι O.length η,.slice κ X.length θ]] (by rfl) rfl rfl qM ?_
     refine(Kj ι κ O.length X.length η θ _).mono ?_
     rintro e bb ⟨rfl,hb⟩
     refine⟨_,rfl, ?_⟩
     replace Y:=sBk Y hb
     replace Z:=sBk Z hb
     replace HB:=sHb hb
     (try clear hb)
     (try clear a4)
     (try clear hk)
     (try clear hi)
     refine hK.out _ _ ⟨qc Y,qc Y,qc Z,qc Z⟩ (fun hHeld=>?_)
     clear hK K
     refine qN (some 17) ?_
     refine Zf (i:=14) (N:=some 19) (bN 26 32767) rfl rfl (Q3 HT_.out kr) (by decide) (fun K hK=>?_)
     refine Zd Try.func65 kr rfl #[.agg #[.int .i64 B,.int .i64 J]] (by rfl) rfl rfl qM ?_
     refine(Jx B J _).mono ?_
     rintro e bd ⟨ν,rfl,hgp,hgw,hb⟩
     have χ :=aK hgp
     clear hgp hgw
     refine⟨_,rfl, ?_⟩
     replace Y:=sBk Y hb
     replace Z:=sBk Z hb
     replace HB:=sHb hb
     (try clear hb)
     (try clear a4)
     (try clear hk)
     (try clear hi)
     refine hK.out _ _ ⟨qc Y,qc Y,qc Z,qc Z⟩ (fun hHeld=>?_)
     clear hK K
     refine qN (some 19) ?_
     refine Zf (i:=15) (N:=some 20) (bN 26 65535) rfl rfl (Q3 HT_.out kr) (by decide) (fun K hK=>?_)
     refine Zd Try.func64 kr rfl #[.agg #[.slice ι O.length η,.func (.func 79) #[] #[]],.func (.func 82) #[] #[.pointer (some ⟨ν,0,none⟩)]] (by rfl) rfl rfl qM ?_
     with_reducible refine(rightP_H.calls ι η O κ θ X B J true _ ?side1 ?side2 ?side3 ?side4 bn.out ν χ.out).mono ?_
     (case side1=>exact(Kd.Qs a0.out HB.out))
     (case side2=>exact b3.out)
     (case side3=>exact(Kd.Qs a1.out HB.out))
     (case side4=>exact b4.out)
     rintro e bz ⟨rfl,hb⟩
     refine⟨_,rfl, ?_⟩
     replace Y:=sBk Y hb
     replace Z:=sBk Z hb
     replace HB:=sHb hb
     (try clear hb)
     (try clear a4)
     (try clear hk)
     (try clear hi)
     refine hK.out _ _ ⟨qc Y,qc Y,qc Z,qc Z⟩ (fun hHeld=>?_)
     clear hK K
     refine qN (some 20) ?_
     refine qP 16 (some 21) (bN 26 131071) HT_ ?_
     refine qP 17 (some 22) (bN 26 262143) HT_ ?_
     refine qP 18 (some 23) (bN 26 524287) HT_ ?_
     refine qT 19 (some 24) (bN 26 1048575) HT_ HW_ hHeld ?_
     refine qT 21 (some 26) (bN 26 3145727) HT_ HW_ hHeld ?_
     refine Zf (i:=20) (N:=some 25) (bN 26 4194303) rfl rfl (Q3 HT_.out kr) (by decide) (fun K hK=>?_)
     refine Zd Try.func66 kr rfl #[.agg #[.slice ι O.length η,.slice κ X.length θ]] (by rfl) rfl rfl qM ?_
     refine(Gy ι κ O.length X.length η θ _).mono ?_
     rintro e bf ⟨rfl,hb⟩
     refine⟨_,rfl, ?_⟩
     replace Y:=sBk Y hb
     replace Z:=sBk Z hb
     replace HB:=sHb hb
     (try clear hb)
     (try clear a4)
     (try clear hk)
     (try clear hi)
     refine hK.out _ _ ⟨qc Y,qc Y,qc Z,qc Z⟩ (fun hHeld=>?_)
     clear hK K
     refine qN (some 25) ?_
     refine Zf (i:=22) (N:=some 27) (bN 26 8388607) rfl rfl (Q3 HT_.out kr) (by decide) (fun K hK=>?_)
     refine Zd Try.func68 kr rfl #[.agg #[.int .i64 B,.int .i64 J]] (by rfl) rfl rfl qM ?_
     refine(Wg B J _).mono ?_
     rintro e a8 ⟨ξ,rfl,hgp,hgw,hb⟩
     have a3:=aK hgp
     clear hgp hgw
     refine⟨_,rfl, ?_⟩
     replace Y:=sBk Y hb
     replace Z:=sBk Z hb
     replace HB:=sHb hb
     (try clear hb)
     (try clear a4)
     (try clear hk)
     (try clear hi)
     refine hK.out _ _ ⟨qc Y,qc Y,qc Z,qc Z⟩ (fun hHeld=>?_)
     clear hK K
     refine qN (some 27) ?_
     refine Zf (i:=23) (N:=some 28) (bN 26 16777215) rfl rfl (Q3 HT_.out kr) (by decide) (fun K hK=>?_)
     refine Zd Try.func67 kr rfl #[.agg #[.slice κ X.length θ,.func (.func 83) #[] #[]],.func (.func 84) #[] #[.pointer (some ⟨ξ,0,none⟩)]] (by rfl) rfl rfl qM ?_
     with_reducible refine(rightP_I.calls ι η O κ θ X B J μ _ ?side1 ?side2 ?side3 ?side4 b6.out ξ a3.out).mono ?_
     (case side1=>exact(Kd.Qs a0.out HB.out))
     (case side2=>exact b3.out)
     (case side3=>exact(Kd.Qs a1.out HB.out))
     (case side4=>exact b4.out)
     rintro e ez ⟨rfl,hb⟩
     refine⟨_,rfl, ?_⟩
     replace Y:=sBk Y hb
     replace Z:=sBk Z hb
     replace HB:=sHb hb
     (try clear hb)
     (try clear a4)
     (try clear hk)
     (try clear hi)
     refine hK.out _ _ ⟨qc Y,qc Y,qc Z,qc Z⟩ (fun hHeld=>?_)
     clear hK K
     refine qN (some 28) ?_
     refine qP 24 (some 29) (bN 26 33554431) HT_ ?_
     refine qP 25 (some 30) (bN 26 67108863) HT_ ?_
     refine Zi (Zc HT_.out kr) ?_
     try go_wp2
     go_meet
     case rel=>exact⟨_,(!μ),rfl,H',⟨by first|omega|exact Nat.le_refl _⟩,Y,Z,HB⟩
    ·replace a6:=Bool.eq_false_iff.mpr a6
     subst a6
     rw[if_neg nft] at H
     have H':=aK H
     clear H
     try go_wp2
     replace Y:=aK (Qd Y.out)
     replace Z:=aK (Qd Z.out)
     replace HB:=aK (Qg HB.out)
     refine Ze (n:=26) (S:=fun w'=>w'.cell? ⟨ω,0,none⟩=some (.int .i64 B)∧w'.cell? ⟨ω,1,none⟩=some (.int .i64 J)∧w'.cell? ⟨ψ,0,none⟩=some (.slice ι O.length η)∧w'.cell? ⟨ψ,1,none⟩=some (.slice κ X.length θ)) (ds:=[]) #[false,false,false,false,false,false,false,false,false,false,false,false,false,false,false,false,false,false,false,false,false,false,false,false,false,false] kr rfl rfl ⟨(Qa Y.out 0).trans rfl,(Qa Y.out 1).trans rfl,(Qa Z.out 0).trans rfl,(Qa Z.out 1).trans rfl⟩ (fun hHeld=>?_);refine Q5 call_Check.Kr call_Check.Y6 (fun HT_ HW_=>?_)
     generalize w5.drew=cx at Y Z HB hHeld ⊢
     refine qP 0 (some 5) (bN 26 1) HT_ ?_
     refine qT 1 (some 6) (bN 26 3) HT_ HW_ hHeld ?_
     refine Zf (i:=2) (N:=some 7) (bN 26 7) rfl rfl (Q3 HT_.out kr) (by decide) (fun K hK=>?_)
     refine Zd Try.func44 kr rfl #[.int .i64 B,.int .i64 2,.int .i64 64] (by rfl) rfl rfl qM ?_
     with_reducible refine(call_within.calls B 2 64 true _ A6.out).mono ?_
     rintro e w' ⟨rfl,⟨nd,rfl⟩⟩
     refine⟨_,rfl, ?_⟩
     refine hK.out _ _ ⟨qc Y,qc Y,qc Z,qc Z⟩ (fun hHeld=>?_)
     clear hK K
     refine qN (some 7) ?_
     refine qP 3 (some 8) (bN 26 15) HT_ ?_
     refine qP 4 (some 9) (bN 26 31) HT_ ?_
     refine qP 5 (some 10) (bN 26 63) HT_ ?_
     refine qT 6 (some 11) (bN 26 127) HT_ HW_ hHeld ?_
     refine Zf (i:=7) (N:=some 12) (bN 26 255) rfl rfl (Q3 HT_.out kr) (by decide) (fun K hK=>?_)
     refine Zd Try.func44 kr rfl #[.int .i64 J,.int .i64 1,.int .i64 8] (by rfl) rfl rfl qM ?_
     with_reducible refine(call_within.calls J 1 8 true _ A8.out).mono ?_
     rintro e w' ⟨rfl,⟨nd,rfl⟩⟩
     refine⟨_,rfl, ?_⟩
     refine hK.out _ _ ⟨qc Y,qc Y,qc Z,qc Z⟩ (fun hHeld=>?_)
     clear hK K
     refine qN (some 12) ?_
     refine qP 8 (some 13) (bN 26 511) HT_ ?_
     refine qP 9 (some 14) (bN 26 1023) HT_ ?_
     refine qP 10 (some 15) (bN 26 2047) HT_ ?_
     refine qT 11 (some 16) (bN 26 4095) HT_ HW_ hHeld ?_
     refine qT 13 (some 18) (bN 26 12287) HT_ HW_ hHeld ?_
     refine Zf (i:=12) (N:=some 17) (bN 26 16383) rfl rfl (Q3 HT_.out kr) (by decide) (fun K hK=>?_)
     refine Zd Try.func63 kr rfl #[.agg #[.slice ι O.length η,.slice κ X.length θ]] (by rfl) rfl rfl qM ?_
     refine(Kj ι κ O.length X.length η θ _).mono ?_
     rintro e a9 ⟨rfl,hb⟩
     refine⟨_,rfl, ?_⟩
     replace Y:=sBk Y hb
     replace Z:=sBk Z hb
     replace HB:=sHb hb
     (try clear hb)
     (try clear a4)
     (try clear hk)
     (try clear hi)
     refine hK.out _ _ ⟨qc Y,qc Y,qc Z,qc Z⟩ (fun hHeld=>?_)
     clear hK K
     refine qN (some 17) ?_
     refine Zf (i:=14) (N:=some 19) (bN 26 32767) rfl rfl (Q3 HT_.out kr) (by decide) (fun K hK=>?_)
     refine Zd Try.func65 kr rfl #[.agg #[.int .i64 B,.int .i64 J]] (by rfl) rfl rfl qM ?_
     refine(Jx B J _).mono ?_
     rintro e aa ⟨σ,rfl,hgp,hgw,hb⟩
     have a5:=aK hgp
     clear hgp hgw
     refine⟨_,rfl, ?_⟩
     replace Y:=sBk Y hb
     replace Z:=sBk Z hb
     replace HB:=sHb hb
     (try clear hb)
     (try clear a4)
     (try clear hk)
     (try clear hi)
     refine hK.out _ _ ⟨qc Y,qc Y,qc Z,qc Z⟩ (fun hHeld=>?_)
     clear hK K
     refine qN (some 19) ?_
     refine Zf (i:=15) (N:=some 20) (bN 26 65535) rfl rfl (Q3 HT_.out kr) (by decide) (fun K hK=>?_)
     refine Zd Try.func64 kr rfl #[.agg #[.slice ι O.length η,.func (.func 79) #[] #[]],.func (.func 82) #[] #[.pointer (some ⟨σ,0,none⟩)]] (by rfl) rfl rfl qM ?_
     with_reducible refine(rightP_H.calls ι η O κ θ X B J false _ ?side1 ?side2 ?side3 ?side4 bn.out σ a5.out).mono ?_
     (case side1=>exact(Kd.Qs a0.out HB.out))
     (case side2=>exact b3.out)
     (case side3=>exact(Kd.Qs a1.out HB.out))
     (case side4=>exact b4.out)
     rintro e d1 ⟨rfl,hb⟩
     refine⟨_,rfl, ?_⟩
     replace Y:=sBk Y hb
     replace Z:=sBk Z hb
     replace HB:=sHb hb
     (try clear hb)
     (try clear a4)
     (try clear hk)
     (try clear hi)
     refine hK.out _ _ ⟨qc Y,qc Y,qc Z,qc Z⟩ (fun hHeld=>?_)
     clear hK K
     refine qN (some 20) ?_
     refine qP 16 (some 21) (bN 26 131071) HT_ ?_
     refine qP 17 (some 22) (bN 26 262143) HT_ ?_
     refine qP 18 (some 23) (bN 26 524287) HT_ ?_
     refine qU 19 (some 24) (bN 26 1048575) HT_ ?_
     refine qU 20 (some 25) (bN 26 2097151) HT_ ?_
     refine qU 21 (some 26) (bN 26 4194303) HT_ ?_
     refine qU 22 (some 27) (bN 26 8388607) HT_ ?_
     refine qU 23 (some 28) (bN 26 16777215) HT_ ?_
     refine qU 24 (some 29) (bN 26 33554431) HT_ ?_
     refine qP 25 (some 30) (bN 26 67108863) HT_ ?_
     refine Zi (Zc HT_.out kr) ?_
     try go_wp2
     go_meet
     case rel=>exact⟨_,(true),rfl,H',⟨by first|omega|exact Nat.le_refl _⟩,Y,Z,HB⟩
   ·replace c9:=Bool.eq_false_iff.mpr c9
    subst c9
    rw[if_neg nft] at H
    have H':=aK H
    clear H
    try go_wp2
    replace Y:=aK (Qd Y.out)
    replace Z:=aK (Qd Z.out)
    replace HB:=aK (Qg HB.out)
    refine Ze (n:=26) (S:=fun w'=>w'.cell? ⟨ω,0,none⟩=some (.int .i64 B)∧w'.cell? ⟨ω,1,none⟩=some (.int .i64 J)) (ds:=[]) #[false,false,false,false,false,false,false,false,false,false,false,false,false,false,false,false,false,false,false,false,false,false,false,false,false,false] kr rfl rfl ⟨(Qa Y.out 0).trans rfl,(Qa Y.out 1).trans rfl⟩ (fun hHeld=>?_);refine Q5 call_Check.Kr call_Check.Y6 (fun HT_ HW_=>?_)
    generalize w5.drew=ft at Y Z HB hHeld ⊢
    refine qP 0 (some 5) (bN 26 1) HT_ ?_
    refine qT 1 (some 6) (bN 26 3) HT_ HW_ hHeld ?_
    refine Zf (i:=2) (N:=some 7) (bN 26 7) rfl rfl (Q3 HT_.out kr) (by decide) (fun K hK=>?_)
    refine Zd Try.func44 kr rfl #[.int .i64 B,.int .i64 2,.int .i64 64] (by rfl) rfl rfl qM ?_
    with_reducible refine(call_within.calls B 2 64 true _ A6.out).mono ?_
    rintro e w' ⟨rfl,⟨nd,rfl⟩⟩
    refine⟨_,rfl, ?_⟩
    refine hK.out _ _ ⟨qc Y,qc Y⟩ (fun hHeld=>?_)
    clear hK K
    refine qN (some 7) ?_
    refine qP 3 (some 8) (bN 26 15) HT_ ?_
    refine qP 4 (some 9) (bN 26 31) HT_ ?_
    refine qP 5 (some 10) (bN 26 63) HT_ ?_
    refine qT 6 (some 11) (bN 26 127) HT_ HW_ hHeld ?_
    refine Zf (i:=7) (N:=some 12) (bN 26 255) rfl rfl (Q3 HT_.out kr) (by decide) (fun K hK=>?_)
    refine Zd Try.func44 kr rfl #[.int .i64 J,.int .i64 1,.int .i64 8] (by rfl) rfl rfl qM ?_
    with_reducible refine(call_within.calls J 1 8 false _ A8.out).mono ?_
    rintro e w' ⟨rfl,⟨nd,rfl⟩⟩
    refine⟨_,rfl, ?_⟩
    refine hK.out _ _ ⟨qc Y,qc Y⟩ (fun hHeld=>?_)
    clear hK K
    refine qN (some 12) ?_
    refine qP 8 (some 13) (bN 26 511) HT_ ?_
    refine qP 9 (some 14) (bN 26 1023) HT_ ?_
    refine qP 10 (some 15) (bN 26 2047) HT_ ?_
    refine qU 11 (some 16) (bN 26 4095) HT_ ?_
    refine qU 12 (some 17) (bN 26 8191) HT_ ?_
    refine qU 13 (some 18) (bN 26 16383) HT_ ?_
    refine qU 14 (some 19) (bN 26 32767) HT_ ?_
    refine qU 15 (some 20) (bN 26 65535) HT_ ?_
    refine qU 16 (some 21) (bN 26 131071) HT_ ?_
    refine qP 17 (some 22) (bN 26 262143) HT_ ?_
    refine qP 18 (some 23) (bN 26 524287) HT_ ?_
    refine qU 19 (some 24) (bN 26 1048575) HT_ ?_
    refine qU 20 (some 25) (bN 26 2097151) HT_ ?_
    refine qU 21 (some 26) (bN 26 4194303) HT_ ?_
    refine qU 22 (some 27) (bN 26 8388607) HT_ ?_
    refine qU 23 (some 28) (bN 26 16777215) HT_ ?_
    refine qU 24 (some 29) (bN 26 33554431) HT_ ?_
    refine qP 25 (some 30) (bN 26 67108863) HT_ ?_
    refine Zi (Zc HT_.out kr) ?_
    try go_wp2
    go_meet
    case rel=>exact⟨_,(true),qR,H',⟨by first|omega|exact Nat.le_refl _⟩,⟨bka Y⟩,⟨bka Z⟩,⟨bel⟩⟩
  ·replace c7:=Bool.eq_false_iff.mpr c7
   subst c7
   rw[if_neg nft] at H
   have H':=aK H
   clear H
   try go_wp2
   replace Y:=aK (Qd Y.out)
   replace Z:=aK (Qd Z.out)
   replace HB:=aK (Qg HB.out)
   refine Ze (n:=26) (S:=fun w'=>w'.cell? ⟨ω,0,none⟩=some (.int .i64 B)∧w'.cell? ⟨ω,1,none⟩=some (.int .i64 J)) (ds:=[]) #[false,false,false,false,false,false,false,false,false,false,false,false,false,false,false,false,false,false,false,false,false,false,false,false,false,false] kr rfl rfl ⟨(Qa Y.out 0).trans rfl,(Qa Y.out 1).trans rfl⟩ (fun hHeld=>?_);refine Q5 call_Check.Kr call_Check.Y6 (fun HT_ HW_=>?_)
   generalize w5.drew=b5 at Y Z HB hHeld ⊢
   refine qP 0 (some 5) (bN 26 1) HT_ ?_
   refine qT 1 (some 6) (bN 26 3) HT_ HW_ hHeld ?_
   refine Zf (i:=2) (N:=some 7) (bN 26 7) rfl rfl (Q3 HT_.out kr) (by decide) (fun K hK=>?_)
   refine Zd Try.func44 kr rfl #[.int .i64 B,.int .i64 2,.int .i64 64] (by rfl) rfl rfl qM ?_
   with_reducible refine(call_within.calls B 2 64 false _ A6.out).mono ?_
   rintro e w' ⟨rfl,⟨nd,rfl⟩⟩
   refine⟨_,rfl, ?_⟩
   refine hK.out _ _ ⟨qc Y,qc Y⟩ (fun hHeld=>?_)
   clear hK K
   refine qN (some 7) ?_
   refine qP 3 (some 8) (bN 26 15) HT_ ?_
   refine qP 4 (some 9) (bN 26 31) HT_ ?_
   refine qU 5 (some 10) (bN 26 63) HT_ ?_
   refine qU 6 (some 11) (bN 26 127) HT_ ?_
   refine qU 7 (some 12) (bN 26 255) HT_ ?_
   refine qU 8 (some 13) (bN 26 511) HT_ ?_
   refine qP 9 (some 14) (bN 26 1023) HT_ ?_
   refine qP 10 (some 15) (bN 26 2047) HT_ ?_
   refine qU 11 (some 16) (bN 26 4095) HT_ ?_
   refine qU 12 (some 17) (bN 26 8191) HT_ ?_
   refine qU 13 (some 18) (bN 26 16383) HT_ ?_
   refine qU 14 (some 19) (bN 26 32767) HT_ ?_
   refine qU 15 (some 20) (bN 26 65535) HT_ ?_
   refine qU 16 (some 21) (bN 26 131071) HT_ ?_
   refine qP 17 (some 22) (bN 26 262143) HT_ ?_
   refine qP 18 (some 23) (bN 26 524287) HT_ ?_
   refine qU 19 (some 24) (bN 26 1048575) HT_ ?_
   refine qU 20 (some 25) (bN 26 2097151) HT_ ?_
   refine qU 21 (some 26) (bN 26 4194303) HT_ ?_
   refine qU 22 (some 27) (bN 26 8388607) HT_ ?_
   refine qU 23 (some 28) (bN 26 16777215) HT_ ?_
   refine qU 24 (some 29) (bN 26 33554431) HT_ ?_
   refine qP 25 (some 30) (bN 26 67108863) HT_ ?_
   refine Zi (Zc HT_.out kr) ?_
   try go_wp2
   go_meet
   case rel=>exact⟨_,(true),qR,H',⟨by first|omega|exact Nat.le_refl _⟩,⟨bka Y⟩,⟨bka Z⟩,⟨bel⟩⟩
 case rest=>
  clear a2
  obtain⟨kq,ε,rfl,HA,lh,Y,Z,HB⟩:=hcut
  cases kq with
  |zero=>exact absurd HA.out (by simp[call_Check.j0])
  |succ ll=>
   have H:=HA.out
   clear HA
   simp only[call_Check.j0] at H
   by_cases φ : ε = true
   ·subst φ
    rw[if_pos rfl] at H
    obtain rfl:=Option.some.inj H
    go_wp2
    go_ret
    exact⟨rfl,HB.out⟩
   ·replace φ :=Bool.eq_false_iff.mpr φ
    subst φ
    rw[if_neg nft] at H
    obtain rfl:=Option.some.inj H
    go_wp2
    go_ret
    exact⟨rfl,HB.out⟩
def call_change.f (U_:Option (List S36)) (I_:Option (List S86)) (k:Nat) (B:Int) (J:Int) (O:List (S36)) (X:List (S86)) (a2:Bool) (a3:Int) (a9:Int) (aa:Int) (ab:Int) (a5:Int) (bc:Int) (bf:Int):Option ((List (S36))×(List (S86))×Int):=(call_Check.f k B J O X).bind fun μ =>(if μ = 0 then (if a2=true then ((U_).bind fun a6=>((I_).bind fun bg=>(some (a6,bg,0)))) else (some (([]:List (S36)),([]:List (S86)),191))) else (some (([]:List (S36)),([]:List (S86)),μ)))
theorem call_change.mono:∀ U_ I_ B X a2 a3 O a5 Y a7 a8 a9 Z γ k,LeO (call_change.f U_ I_ k B X a2 a3 O a5 Y a7 a8 a9 Z γ) (call_change.f U_ I_ (k+1) B X a2 a3 O a5 Y a7 a8 a9 Z γ):=by
 intro U_ I_ B X a2 a3 O a5 Y a7 a8 a9 Z γ k
 unfold call_change.f
 repeat' first|(with_reducible first|apply call_Check.mono|exact LeO.refl _|exact LeO.none _|refine LeO.ite ?_ ?_|refine LeO.bind ?_ (fun _=>?_))|apply call_Check.mono|exact LeO.none _|refine LeO.ite ?_ ?_|refine LeO.bind ?_ (fun _=>?_)
def call_change.T6:Bool×List (List Nat×List Nat):=(true,[([],[]),([],[]),([0,1],[0,1]),([],[]),([],[]),([3,4,2],[3,4]),([2,5],[2,5]),([6,5,0,1,2,3,4,5,6],[6]),([7,0,1,2,3,4,5,6,7],[])])
def call_change.B6:List Nat:=[0,0,3,0,0,31,63,127,255]
theorem call_change.Vp:rtab .any (opsOf Try.f73 6)=call_change.T6:=by kernel_rfl
theorem call_change.Kg:Zk call_change.T6.2 call_change.B6=true:=by kernel_rfl
set_option maxHeartbeats 8000000 in
set_option maxRecDepth 100000 in
theorem call_change.calls (U_:Option (List S36)) (I_:Option (List S86)) (k:Nat) (B:Int) (J:Int) (ι :Option Addr) (η :Nat) (O:List (S36)) (κ :Option Addr) (θ :Nat) (X:List (S86)) (a2:Bool) (a3:Int) (a9:Int) (aa:Int) (ab:Int) (a5:Int) (bc:Int) (bf:Int) (r1:List (S36)) (r2:List (S86)) (r3:Int) (w:World) (ag:Kd.C k36 w ι O.length O) (ai:O.length ≤ η) (an:Kd.C k86 w κ X.length X) (b2:X.length ≤ θ) (h:call_change.f U_ I_ k B J O X a2 a3 a9 aa ab a5 bc bf=some (r1,r2,r3)) (fu_:FuncId) (fnu_:Func) (ru_:Value) (hfu_:Try.prog.funcs[fu_]?=some fnu_) (hnu_:(fnu_.name == "runtime.NumGoroutine")=false) (hbu_:fnu_.body.isSome=true) (hu_:∀ (W:World) (t:List S36),U_=some t→Below w.heap.size w W→Calls Try.prog fu_ #[ru_,.agg #[.int .i64 a9,.int .i64 aa,.int .i64 ab]] W fun e w'=>∃ b8:Value,e = .returned b8∧Kd.R k36 36 w' W.heap.size (fun _=>True) b8 t∧Below W.heap.size W w') (fi_:FuncId) (fni_:Func) (ri_:Value) (hfi_:Try.prog.funcs[fi_]?=some fni_) (hni_:(fni_.name == "runtime.NumGoroutine")=false) (hbi_:fni_.body.isSome=true) (hi_:∀ (W:World) (t:List S86),I_=some t→Below w.heap.size w W→Calls Try.prog fi_ #[ri_,.agg #[.int .i64 bc,.int .i64 bf]] W fun e w'=>∃ b8:Value,e = .returned b8∧Kd.R k86 86 w' W.heap.size (fun _=>True) b8 t∧Below W.heap.size W w'):
 Calls Try.prog 73 #[.agg #[.int .i64 B,.int .i64 J],.agg #[.slice ι O.length η,.slice κ X.length θ],.bool a2,(.func (.func fu_) #[ru_] #[]),.agg #[.int .i64 a9,.int .i64 aa,.int .i64 ab],(.func (.func fi_) #[ri_] #[]),.agg #[.int .i64 bc,.int .i64 bf]] w fun e w'=>∃ b8 dv:Value,e = .returned (.tuple #[.agg #[b8,dv],.int .i64 r3])∧Kd.R k36 36 w' w.heap.size (fun _=>True) b8 r1∧Kd.R k86 86 w' w.heap.size (fun _=>True) dv r2∧Below w.heap.size w w':=by
 have HFU:=aK hfu_
 have HNU:=aK hnu_
 have HBU:=aK hbu_
 have HCU:=aK hu_
 have HFI:=aK hfi_
 have HNI:=aK hni_
 have HBI:=aK hbi_
 have HCI:=aK hi_
 clear hfu_ hnu_ hbu_ hu_ hfi_ hni_ hbi_ hi_
 have dw:=Try.underlying59
 have dc:=Try.underlying50
 have ch:=Try.underlying36
 have cu:=Try.underlying86
 have a0:=aK ag
 have b3:=aK ai
 clear ag ai
 have a1:=aK an
 have b4:=aK b2
 clear an b2
 have HB:=aK (Below.refl w.heap.size w)
 have H:((call_Check.f k B J O X).bind fun μ =>(if μ = 0 then (if a2=true then ((U_).bind fun a6=>((I_).bind fun bg=>(some (a6,bg,0)))) else (some (([]:List (S36)),([]:List (S86)),191))) else (some (([]:List (S36)),([]:List (S86)),μ))))=some (r1,r2,r3):=h
 clear h
 obtain⟨μ,cn,H⟩:=qO H
 have A8:=aK cn
 clear cn
 by_cases c9: μ = 0
 ·rw[if_pos c9] at H
  have c9b0:(μ == 0)=true:=beq_iff_eq.mpr c9
  have c9b1:(μ != 0)=false:=bne_eq_false_iff_eq.mpr c9
  clear c9
  by_cases c10:a2=true
  ·subst c10
   rw[if_pos rfl] at H
   obtain⟨a6,bd,H⟩:=qO H
   have cy:=aK bd
   clear bd
   obtain⟨bg,b7,H⟩:=qO H
   have b6:=aK b7
   clear b7
   simp only[Option.some.injEq,Prod.mk.injEq] at H
   obtain⟨rfl,rfl,rfl⟩:=H
   go_enter Try.func73,Try.ntmps73
   try go_wp2_with (first|((with_reducible refine Qe (N:=7) rfl ?_);refine qE 7 #[.int .i64 B,.int .i64 J] 59 ?_;intro ω hg ba hbox hb;have Y:=aK hbox;have bo:=sGe hg;have bp:=sGe hg;replace HB:=sHb hb;clear hb hbox hg)|((with_reducible refine Qe (N:=8) rfl ?_);refine qE 8 #[.slice ι O.length η,.slice κ X.length θ] 50 ?_;intro ψ hg bz hbox hb;have Z:=aK hbox;have br:=sGe hg;have bu:=sGe hg;have ρ:=sNl Y hg;have τ :=sNg Y hg;replace Y:=sBk Y hb;replace HB:=sHb hb;clear hb hbox hg)|((with_reducible refine Qe (N:=11) rfl ?_);refine qE 11 #[.int .i64 a9,.int .i64 aa,.int .i64 ab] 36 ?_;intro bi hg ez hbox hb;have δ :=aK hbox;have bv:=sGe hg;have bw:=sGe hg;have ah:=sNl Y hg;have al:=sNg Y hg;have am:=sNl Z hg;have az:=sNg Z hg;replace Y:=sBk Y hb;replace Z:=sBk Z hb;replace HB:=sHb hb;clear hb hbox hg)|((with_reducible refine Qe (N:=13) rfl ?_);refine qE 13 #[.int .i64 bc,.int .i64 bf] 86 ?_;intro ξ hg cx hbox hb;have γ:=aK hbox;have bm:=sGe hg;have ao:=sGe hg;have b0:=sNl Y hg;have b1:=sNg Y hg;have b5:=sNl Z hg;have bb:=sNg Z hg;have bk:=sNl δ hg;have bl:=sNg δ hg;replace Y:=sBk Y hb;replace Z:=sBk Z hb;replace δ :=sBk δ hb;replace HB:=sHb hb;clear hb hbox hg)|((with_reducible refine Qe (N:=14) rfl ?_);refine qE 14 #[.slice none 0 0,.slice none 0 0] 50 ?_;intro ν hg d1 hbox hb;have ζ :=aK hbox;have bn:=sGe hg;have bh:=sGe hg;have χ :=sNl Y hg;have a7:=sNg Y hg;have a8:=sNl Z hg;have ac:=sNg Z hg;have ε :=sNl δ hg;have ae:=sNg δ hg;have σ:=sNl γ hg;have φ :=sNg γ hg;replace Y:=sBk Y hb;replace Z:=sBk Z hb;replace δ :=sBk δ hb;replace γ:=sBk γ hb;replace HB:=sHb hb;clear hb hbox hg;have d5:=ρ.out;have d6:= τ.out;have cq:=ah.out;have ct:=al.out;have ea:=b0.out;have eu:=b1.out;have gz:= χ.out;have hu:=a7.out;obtain⟨ap,ar,au,av⟩:=qD2 Y.out;have dl:=am.out;have dy:=az.out;have ff:=b5.out;have fn:=bb.out;have en:=a8.out;have eo:=ac.out;obtain⟨b9,cf,cj,ck⟩:=qD2 Z.out)|((with_reducible refine Qf (f:=40) rfl ?_);refine Qt (some 19) rfl rfl Try.func40 kr rfl #[.agg #[.int .i64 B,.int .i64 J],.agg #[.slice ι O.length η,.slice κ X.length θ]] rfl qM ?_;(with_reducible refine(call_Check.calls k B J _ _ O _ _ X μ _ ?side1 ?side2 ?side3 ?side4 A8.out).mono ?_);(case side1=>exact(Kd.Qs a0.out HB.out));(case side2=>exact b3.out);(case side3=>exact(Kd.Qs a1.out HB.out));(case side4=>exact b4.out);rintro e di ⟨rfl,hb⟩;refine⟨_,rfl, ?_⟩;replace Y:=sBk Y hb;replace Z:=sBk Z hb;replace δ :=sBk δ hb;replace γ:=sBk γ hb;replace ζ :=sBk ζ hb;replace HB:=sHb hb;(try clear hb);(try clear a4);(try clear hk);(try clear hi)))
   replace Y:=aK (Qd Y.out)
   replace Z:=aK (Qd Z.out)
   replace δ :=aK (Qd δ.out)
   replace γ:=aK (Qd γ.out)
   replace ζ :=aK (Qd ζ.out)
   replace HB:=aK (Qg HB.out)
   refine Ze (n:=9) (S:=fun w'=>w'.cell? ⟨bi,0,none⟩=some (.int .i64 a9)∧w'.cell? ⟨bi,1,none⟩=some (.int .i64 aa)∧w'.cell? ⟨bi,2,none⟩=some (.int .i64 ab)∧w'.cell? ⟨ξ,0,none⟩=some (.int .i64 bc)∧w'.cell? ⟨ξ,1,none⟩=some (.int .i64 bf)) (ds:=[]) #[false,false,false,false,false,false,false,false,false] kr rfl rfl ⟨(Qa δ.out 0).trans rfl,(Qa δ.out 1).trans rfl,(Qa δ.out 2).trans rfl,(Qa γ.out 0).trans rfl,(Qa γ.out 1).trans rfl⟩ (fun hHeld=>?_);refine Q5 call_change.Vp call_change.Kg (fun HT_ HW_=>?_)
   generalize di.drew=du at Y Z δ γ ζ HB hHeld ⊢
   refine qP 0 (some 27) (bN 9 1) HT_ ?_
   refine qP 3 (some 30) (bN 9 9) HT_ ?_
   refine qT 1 (some 28) (bN 9 11) HT_ HW_ hHeld ?_
   refine qT 4 (some 31) (bN 9 27) HT_ HW_ hHeld ?_
   refine Zf (i:=2) (N:=some 29) (bN 9 31) rfl rfl (Q3 HT_.out kr) (by decide) (fun K hK=>?_)
   refine X6 HFU.out HNU.out HBU.out #[ru_] #[] #[.agg #[.int .i64 a9,.int .i64 aa,.int .i64 ab]] #[ru_,.agg #[.int .i64 a9,.int .i64 aa,.int .i64 ab]] rfl (by rfl) rfl rfl rfl qM ?_
   refine(HCU.out _ a6 cy.out (by repeat(first|(with_reducible first|exact HB.out|apply Qo|apply Qi|apply Qg)|exact HB.out|(refine Qr ?_ (Aside0.out (by assumption)))))).mono ?_
   rintro e h8 ⟨dt,rfl,af,hb⟩
   refine⟨_,rfl, ?_⟩
   have bq:=aK (Kd.Q8 (Kd.Jn af (g:=bi) (o:=.cells #[.int .i64 a9,.int .i64 aa,.int .i64 ab] 36 (0,0)) δ.out) (Qn HB.out))
   replace Y:=sBk Y hb
   replace Z:=sBk Z hb
   replace δ :=sBk δ hb
   replace γ:=sBk γ hb
   replace ζ :=sBk ζ hb
   replace HB:=sHb hb
   (try clear hb)
   (try clear a4)
   (try clear hk)
   (try clear hi)
   (try clear af)
   refine hK.out _ _ ⟨qc δ,qc δ,qc δ,qc γ,qc γ⟩ (fun hHeld=>?_)
   clear hK K
   refine qN (some 29) ?_
   refine Zf (i:=5) (N:=some 32) (bN 9 63) rfl rfl (Q3 HT_.out kr) (by decide) (fun K hK=>?_)
   refine X6 HFI.out HNI.out HBI.out #[ri_] #[] #[.agg #[.int .i64 bc,.int .i64 bf]] #[ri_,.agg #[.int .i64 bc,.int .i64 bf]] rfl (by rfl) rfl rfl rfl qM ?_
   refine(HCI.out _ bg b6.out (by repeat(first|(with_reducible first|exact HB.out|apply Qo|apply Qi|apply Qg)|exact HB.out|(refine Qr ?_ (Aside0.out (by assumption)))))).mono ?_
   rintro e e8 ⟨cg,rfl,af,hb⟩
   refine⟨_,rfl, ?_⟩
   have bj:=aK (Kd.Q8 (Kd.Jn af (g:= ξ) (o:=.cells #[.int .i64 bc,.int .i64 bf] 86 (0,0)) γ.out) (Qn HB.out))
   replace bq:=sRb bq hb
   replace Y:=sBk Y hb
   replace Z:=sBk Z hb
   replace δ :=sBk δ hb
   replace γ:=sBk γ hb
   replace ζ :=sBk ζ hb
   replace HB:=sHb hb
   (try clear hb)
   (try clear a4)
   (try clear hk)
   (try clear hi)
   (try clear af)
   obtain⟨cm,co,ca⟩:=Kd.Q7 bj.out
   (first|subst ca|(injection ca with aj aw ak;have ax:=aj.symm;have ay:=ak.symm;clear aj aw ak;subst ax;subst ay))
   obtain⟨cd,ce,cb⟩:=Kd.Q7 bq.out
   (first|subst cb|(injection cb with aj aw ak;have ax:=aj.symm;have ay:=ak.symm;clear aj aw ak;subst ax;subst ay))
   refine hK.out _ _ ⟨qc δ,qc δ,qc δ,qc γ,qc γ⟩ (fun hHeld=>?_)
   clear hK K
   refine qN (some 32) ?_
   refine qP 6 (some 33) (bN 9 127) HT_ ?_
   refine Zf (i:=7) (N:=none) (bN 9 255) rfl rfl (Q3 HT_.out kr) (by decide) (fun K hK=>?_)
   have dx:e8.cell? ⟨ν,0,none⟩=some (.slice none 0 0):=(Qa ζ.out 0).trans rfl
   have dq:=Qh ζ.out 0
   have cp:= χ.out
   have cr:=a8.out
   have cv:= ε.out
   have cw:=σ.out
   have cz:=a7.out
   have d0:=ac.out
   have d4:=ae.out
   have d7:= φ.out
   have dz:e8.cell? ⟨ν,1,none⟩=some (.slice none 0 0):=(Qa ζ.out 1).trans rfl
   have dr:=Qh ζ.out 1
   have d8:= χ.out
   have d9:=a8.out
   have da:= ε.out
   have db:=σ.out
   have dd:=a7.out
   have de:=ac.out
   have df:=ae.out
   have dh:= φ.out
   refine Gx (w1:=?_) (by rfl) rfl ?_ ?_
   rotate_left
   ·go_simp
    rfl
   refine hK.out _ _ ⟨((cell_far (p:=⟨ν,_,none⟩) ε.out _).trans (((cell_far (p:=⟨ν,_,none⟩) ε.out _).trans (hHeld.1)))),((cell_far (p:=⟨ν,_,none⟩) ε.out _).trans (((cell_far (p:=⟨ν,_,none⟩) ε.out _).trans (hHeld.2.1)))),((cell_far (p:=⟨ν,_,none⟩) ε.out _).trans (((cell_far (p:=⟨ν,_,none⟩) ε.out _).trans (hHeld.2.2.1)))),((cell_far (p:=⟨ν,_,none⟩) σ.out _).trans (((cell_far (p:=⟨ν,_,none⟩) σ.out _).trans (hHeld.2.2.2.1)))),((cell_far (p:=⟨ν,_,none⟩) σ.out _).trans (((cell_far (p:=⟨ν,_,none⟩) σ.out _).trans (hHeld.2.2.2.2))))⟩ (fun hHeld=>?_)
   clear hK K
   refine qP 8 (some 15) (bN 9 511) HT_ ?_
   refine Zi (Zc HT_.out kr) ?_
   try go_wp2
   refine bodyPost_ret (Z9 rfl _ _ ν 50 #[.slice cd a6.length ce,.slice cm bg.length co] (0,0) _ rfl (by refine Qq (cs:=#[.slice cd a6.length ce,.slice none 0 0]) ?_ 1 _ rfl;refine Qq (cs:=#[.slice none 0 0,.slice none 0 0]) ?_ 0 _ rfl;exact ζ.out) Try.underlying50 rfl kr) rfl ?_
   exact⟨_,_,by first|rfl|(simp[Qk,Qj] <;> rfl)|(simp[*,Qk,Qj] <;> rfl),by(with_reducible repeat first|apply Kd.Qv|apply Kd.Qu|apply Kd.Qy);exact Kd.Q1 (Kd.Qx (Kd.Qx (Kd.Q4 bq.out ζ.out (by decide)) (fun _ hk=>hk.2) _) (fun _ hk=>hk.2) _) (fun _ hk=>trivial),by(with_reducible repeat first|apply Kd.Qv|apply Kd.Qu|apply Kd.Qy);exact Kd.Q1 (Kd.Qx (Kd.Qx (Kd.Q4 bj.out ζ.out (by decide)) (fun _ hk=>hk.2) _) (fun _ hk=>hk.2) _) (fun _ hk=>trivial),bel⟩
  ·replace c10:=Bool.eq_false_iff.mpr c10
   subst c10
   rw[if_neg nft] at H
   simp only[Option.some.injEq,Prod.mk.injEq] at H
   obtain⟨rfl,rfl,rfl⟩:=H
   go_enter Try.func73,Try.ntmps73
   go_wp2_with (first|((with_reducible refine Qe (N:=7) rfl ?_);refine qE 7 #[.int .i64 B,.int .i64 J] 59 ?_;intro ω hg jo hbox hb;have Y:=aK hbox;have bo:=sGe hg;have bp:=sGe hg;replace HB:=sHb hb;clear hb hbox hg)|((with_reducible refine Qe (N:=8) rfl ?_);refine qE 8 #[.slice ι O.length η,.slice κ X.length θ] 50 ?_;intro ψ hg h9 hbox hb;have Z:=aK hbox;have br:=sGe hg;have bu:=sGe hg;have ρ:=sNl Y hg;have τ :=sNg Y hg;replace Y:=sBk Y hb;replace HB:=sHb hb;clear hb hbox hg)|((with_reducible refine Qe (N:=11) rfl ?_);refine qE 11 #[.int .i64 a9,.int .i64 aa,.int .i64 ab] 36 ?_;intro bi hg fc hbox hb;have δ :=aK hbox;have bv:=sGe hg;have bw:=sGe hg;have ah:=sNl Y hg;have al:=sNg Y hg;have am:=sNl Z hg;have az:=sNg Z hg;replace Y:=sBk Y hb;replace Z:=sBk Z hb;replace HB:=sHb hb;clear hb hbox hg)|((with_reducible refine Qe (N:=13) rfl ?_);refine qE 13 #[.int .i64 bc,.int .i64 bf] 86 ?_;intro ξ hg ku hbox hb;have γ:=aK hbox;have bm:=sGe hg;have ao:=sGe hg;have b0:=sNl Y hg;have b1:=sNg Y hg;have b5:=sNl Z hg;have bb:=sNg Z hg;have bk:=sNl δ hg;have bl:=sNg δ hg;replace Y:=sBk Y hb;replace Z:=sBk Z hb;replace δ :=sBk δ hb;replace HB:=sHb hb;clear hb hbox hg)|((with_reducible refine Qe (N:=14) rfl ?_);refine qE 14 #[.slice none 0 0,.slice none 0 0] 50 ?_;intro ν hg gh hbox hb;have ζ :=aK hbox;have bn:=sGe hg;have bh:=sGe hg;have χ :=sNl Y hg;have a7:=sNg Y hg;have a8:=sNl Z hg;have ac:=sNg Z hg;have ε :=sNl δ hg;have ae:=sNg δ hg;have σ:=sNl γ hg;have φ :=sNg γ hg;replace Y:=sBk Y hb;replace Z:=sBk Z hb;replace δ :=sBk δ hb;replace γ:=sBk γ hb;replace HB:=sHb hb;clear hb hbox hg;have f8:=ρ.out;have fa:= τ.out;have ma:=ah.out;have mb:=al.out;have ft:=b0.out;have ic:=b1.out;have d2:= χ.out;have d3:=a7.out;obtain⟨ej,fj,ek,gl⟩:=qD2 Y.out;have gx:=am.out;have gy:=az.out;have k0:=b5.out;have k3:=bb.out;have lq:=a8.out;have lr:=ac.out;obtain⟨hh,hj,hl,i2⟩:=qD2 Z.out)|((with_reducible refine Qf (f:=40) rfl ?_);refine Qt (some 19) rfl rfl Try.func40 kr rfl #[.agg #[.int .i64 B,.int .i64 J],.agg #[.slice ι O.length η,.slice κ X.length θ]] rfl qM ?_;(with_reducible refine(call_Check.calls k B J _ _ O _ _ X μ _ ?side1 ?side2 ?side3 ?side4 A8.out).mono ?_);(case side1=>exact(Kd.Qs a0.out HB.out));(case side2=>exact b3.out);(case side3=>exact(Kd.Qs a1.out HB.out));(case side4=>exact b4.out);rintro e e0 ⟨rfl,hb⟩;refine⟨_,rfl, ?_⟩;replace Y:=sBk Y hb;replace Z:=sBk Z hb;replace δ :=sBk δ hb;replace γ:=sBk γ hb;replace ζ :=sBk ζ hb;replace HB:=sHb hb;(try clear hb);(try clear a4);(try clear hk);(try clear hi);have fh:=ae.out;have ga:= ε.out;have ib:= φ.out;have ik:=σ.out;obtain⟨ef,eg,eh,ei⟩:=qD2 ζ.out))
   refine bodyPost_ret (Z9 rfl _ _ ν 50 #[.slice none 0 0,.slice none 0 0] (0,0) _ rfl (by refine Qq (cs:=#[.slice none 0 0,.slice none 0 0]) ?_ 1 _ rfl;refine Qq (cs:=#[.slice none 0 0,.slice none 0 0]) ?_ 0 _ rfl;exact ζ.out) Try.underlying50 rfl kr) rfl ?_
   exact⟨_,_,by first|rfl|(simp[Qk,Qj] <;> rfl)|(simp[*,Qk,Qj] <;> rfl),by first|exact Kd.Xu _ _ _ _ _|exact Kd.Yg _ _ _ _ _|exact Kd.Yd _ _ _ _ _|exact Kd.Yf _ _ _ _ _|exact Kd.Ye _ _ _ _ _,by first|exact Kd.Xu _ _ _ _ _|exact Kd.Yg _ _ _ _ _|exact Kd.Yd _ _ _ _ _|exact Kd.Yf _ _ _ _ _|exact Kd.Ye _ _ _ _ _,bel⟩
 ·rw[if_neg c9] at H
  have c9b0:(μ == 0)=false:=beq_eq_false_iff_ne.mpr c9
  have c9b1:(μ != 0)=true:=bne_iff_ne.mpr c9
  simp only[Option.some.injEq,Prod.mk.injEq] at H
  obtain⟨rfl,rfl,rfl⟩:=H
  go_enter Try.func73,Try.ntmps73
  go_wp2_with (first|((with_reducible refine Qe (N:=7) rfl ?_);refine qE 7 #[.int .i64 B,.int .i64 J] 59 ?_;intro ω hg fu hbox hb;have Y:=aK hbox;have bo:=sGe hg;have bp:=sGe hg;replace HB:=sHb hb;clear hb hbox hg)|((with_reducible refine Qe (N:=8) rfl ?_);refine qE 8 #[.slice ι O.length η,.slice κ X.length θ] 50 ?_;intro ψ hg mh hbox hb;have Z:=aK hbox;have br:=sGe hg;have bu:=sGe hg;have ρ:=sNl Y hg;have τ :=sNg Y hg;replace Y:=sBk Y hb;replace HB:=sHb hb;clear hb hbox hg)|((with_reducible refine Qe (N:=11) rfl ?_);refine qE 11 #[.int .i64 a9,.int .i64 aa,.int .i64 ab] 36 ?_;intro bi hg ev hbox hb;have δ :=aK hbox;have bv:=sGe hg;have bw:=sGe hg;have ah:=sNl Y hg;have al:=sNg Y hg;have am:=sNl Z hg;have az:=sNg Z hg;replace Y:=sBk Y hb;replace Z:=sBk Z hb;replace HB:=sHb hb;clear hb hbox hg)|((with_reducible refine Qe (N:=13) rfl ?_);refine qE 13 #[.int .i64 bc,.int .i64 bf] 86 ?_;intro ξ hg bs hbox hb;have γ:=aK hbox;have bm:=sGe hg;have ao:=sGe hg;have b0:=sNl Y hg;have b1:=sNg Y hg;have b5:=sNl Z hg;have bb:=sNg Z hg;have bk:=sNl δ hg;have bl:=sNg δ hg;replace Y:=sBk Y hb;replace Z:=sBk Z hb;replace δ :=sBk δ hb;replace HB:=sHb hb;clear hb hbox hg)|((with_reducible refine Qe (N:=14) rfl ?_);refine qE 14 #[.slice none 0 0,.slice none 0 0] 50 ?_;intro ν hg mi hbox hb;have ζ :=aK hbox;have bn:=sGe hg;have bh:=sGe hg;have χ :=sNl Y hg;have a7:=sNg Y hg;have a8:=sNl Z hg;have ac:=sNg Z hg;have ε :=sNl δ hg;have ae:=sNg δ hg;have σ:=sNl γ hg;have φ :=sNg γ hg;replace Y:=sBk Y hb;replace Z:=sBk Z hb;replace δ :=sBk δ hb;replace γ:=sBk γ hb;replace HB:=sHb hb;clear hb hbox hg;have e5:=ρ.out;have e6:= τ.out;have mc:=ah.out;have me:=al.out;have i0:=b0.out;have i1:=b1.out;have lb:= χ.out;have lc:=a7.out;obtain⟨f7,jb,jc,jd⟩:=qD2 Y.out;have lf:=am.out;have lg:=az.out;have ha:=b5.out;have he:=bb.out;have ew:=a8.out;have ey:=ac.out;obtain⟨ci,dk,e9,h4⟩:=qD2 Z.out)|((with_reducible refine Qf (f:=40) rfl ?_);refine Qt (some 19) rfl rfl Try.func40 kr rfl #[.agg #[.int .i64 B,.int .i64 J],.agg #[.slice ι O.length η,.slice κ X.length θ]] rfl qM ?_;(with_reducible refine(call_Check.calls k B J _ _ O _ _ X μ _ ?side1 ?side2 ?side3 ?side4 A8.out).mono ?_);(case side1=>exact(Kd.Qs a0.out HB.out));(case side2=>exact b3.out);(case side3=>exact(Kd.Qs a1.out HB.out));(case side4=>exact b4.out);rintro e ep ⟨rfl,hb⟩;refine⟨_,rfl, ?_⟩;replace Y:=sBk Y hb;replace Z:=sBk Z hb;replace δ :=sBk δ hb;replace γ:=sBk γ hb;replace ζ :=sBk ζ hb;replace HB:=sHb hb;(try clear hb);(try clear a4);(try clear hk);(try clear hi);have l6:=ae.out;have l7:= ε.out;have ky:= φ.out;have kz:=σ.out;obtain⟨dj,dm,dn,dp⟩:=qD2 ζ.out))
  refine bodyPost_ret (Z9 rfl _ _ ν 50 #[.slice none 0 0,.slice none 0 0] (0,0) _ rfl (by refine Qq (cs:=#[.slice none 0 0,.slice none 0 0]) ?_ 1 _ rfl;refine Qq (cs:=#[.slice none 0 0,.slice none 0 0]) ?_ 0 _ rfl;exact ζ.out) Try.underlying50 rfl kr) rfl ?_
  exact⟨_,_,by first|rfl|(simp[Qk,Qj] <;> rfl)|(simp[*,Qk,Qj] <;> rfl),by first|exact Kd.Xu _ _ _ _ _|exact Kd.Yg _ _ _ _ _|exact Kd.Yd _ _ _ _ _|exact Kd.Yf _ _ _ _ _|exact Kd.Ye _ _ _ _ _,by first|exact Kd.Xu _ _ _ _ _|exact Kd.Yg _ _ _ _ _|exact Kd.Yd _ _ _ _ _|exact Kd.Yf _ _ _ _ _|exact Kd.Ye _ _ _ _ _,bel⟩
def call_Give.f (k:Nat) (B:Int) (J:Int) (O:List (S36)) (X:List (S86)) (Y:Int) (γ:Int) (ρ:Int):Option ((List (S36))×(List (S86))×Int):=(hallP.f Y γ ρ B J).bind fun a3=>((call_change.f (setP_H.f Y γ ρ O) (woP_I.f (-2) 0 X) k B J O X a3 0 Y γ ρ 0 (-2) 0).bind fun χ =>(some (χ.1,χ.2.1,χ.2.2)))
theorem call_Give.mono:∀ B X a2 a3 O a5 Y k,LeO (call_Give.f k B X a2 a3 O a5 Y) (call_Give.f (k+1) B X a2 a3 O a5 Y):=by
 intro B X a2 a3 O a5 Y k
 unfold call_Give.f
 repeat' first|(with_reducible first|apply call_change.mono|exact LeO.refl _|exact LeO.none _|refine LeO.ite ?_ ?_|refine LeO.bind ?_ (fun _=>?_))|apply call_change.mono|exact LeO.none _|refine LeO.ite ?_ ?_|refine LeO.bind ?_ (fun _=>?_)
def call_Give.T1:Bool×List (List Nat×List Nat):=(true,[([],[]),([],[]),([],[]),([2],[2]),([],[]),([3,4,3],[3,4]),([],[]),([6,5],[6]),([7],[7]),([],[]),([],[]),([10,7],[10]),([11],[11]),([],[]),([0,1,5,8,9,12,13,11],[0,1,5,8,9,12,13]),([14],[14]),([14],[14]),([15,14,0,1,2,3,4,5,6,7,8,9,10,11,12,13,14,15,16],[15]),([16,17,0,1,2,3,4,5,6,7,8,9,10,11,12,13,14,15,16,17],[16])])
def call_Give.B1:List Nat:=[0,0,0,4,0,28,0,124,252,0,0,1276,3324,0,16383,32767,32767,131071,262143]
theorem call_Give.Kr:rtab .any (opsOf Try.f51 1)=call_Give.T1:=by kernel_rfl
theorem call_Give.Y6:Zk call_Give.T1.2 call_Give.B1=true:=by kernel_rfl
set_option maxHeartbeats 8000000 in
set_option maxRecDepth 100000 in
theorem call_Give.calls (k:Nat) (B:Int) (J:Int) (ι :Option Addr) (η :Nat) (O:List (S36)) (κ :Option Addr) (θ :Nat) (X:List (S86)) (Y:Int) (γ:Int) (ρ:Int) (r1:List (S36)) (r2:List (S86)) (r3:Int) (w:World) (ag:Kd.C k36 w ι O.length O) (ai:O.length ≤ η) (an:Kd.C k86 w κ X.length X) (b2:X.length ≤ θ) (h:call_Give.f k B J O X Y γ ρ=some (r1,r2,r3)):
 Calls Try.prog 51 #[.agg #[.int .i64 B,.int .i64 J],.agg #[.slice ι O.length η,.slice κ X.length θ],.agg #[.int .i64 Y,.int .i64 γ,.int .i64 ρ]] w fun e w'=>∃ b8 dv:Value,e = .returned (.tuple #[.agg #[b8,dv],.int .i64 r3])∧Kd.R k36 36 w' w.heap.size (fun _=>True) b8 r1∧Kd.R k86 86 w' w.heap.size (fun _=>True) dv r2∧Below w.heap.size w w':=by
 have dw:=Try.underlying59
 have dc:=Try.underlying50
 have ch:=Try.underlying36
 have cu:=Try.underlying86
 have a0:=aK ag
 have b3:=aK ai
 clear ag ai
 have a1:=aK an
 have b4:=aK b2
 clear an b2
 have HB:=aK (Below.refl w.heap.size w)
 have H:((hallP.f Y γ ρ B J).bind fun a3=>((call_change.f (setP_H.f Y γ ρ O) (woP_I.f (-2) 0 X) k B J O X a3 0 Y γ ρ 0 (-2) 0).bind fun χ =>(some (χ.1,χ.2.1,χ.2.2))))=some (r1,r2,r3):=h
 clear h
 obtain⟨a3,ab,H⟩:=qO H
 have A4:=aK ab
 clear ab
 obtain⟨⟨bg,a5,ψ⟩,bc,H⟩:=qO H
 replace H:(some (bg,a5,ψ))=some (r1,r2,r3):=H
 have A5:=aK bc
 clear bc
 simp only[Option.some.injEq,Prod.mk.injEq] at H
 obtain⟨rfl,rfl,rfl⟩:=H
 go_enter Try.func51,Try.ntmps51
 try go_wp2_with (first|((with_reducible refine Qe (N:=3) rfl ?_);refine qE 3 #[.int .i64 B,.int .i64 J] 59 ?_;intro ν hg w6 hbox hb;have ζ :=aK hbox;have bn:=sGe hg;have bh:=sGe hg;replace HB:=sHb hb;clear hb hbox hg)|((with_reducible refine Qe (N:=4) rfl ?_);refine qE 4 #[.slice ι O.length η,.slice κ X.length θ] 50 ?_;intro ε hg w7 hbox hb;have Z:=aK hbox;have a8:=sGe hg;have az:=sGe hg;have b1:=sNl ζ hg;have b5:=sNg ζ hg;replace ζ :=sBk ζ hb;replace HB:=sHb hb;clear hb hbox hg)|((with_reducible refine Qe (N:=5) rfl ?_);refine qE 5 #[.int .i64 Y,.int .i64 γ,.int .i64 ρ] 36 ?_;intro aa hg w8 hbox hb;have δ :=aK hbox;have bw:=sGe hg;have bz:=sGe hg;have b6:=sNl ζ hg;have b7:=sNg ζ hg;have b9:=sNl Z hg;have ba:=sNg Z hg;replace ζ :=sBk ζ hb;replace Z:=sBk Z hb;replace HB:=sHb hb;clear hb hbox hg)|((with_reducible refine Qe (N:=6) rfl ?_);refine qE 6 #[.slice none 0 0,.slice none 0 0] 50 ?_;intro ξ hg w9 hbox hb;have μ :=aK hbox;have ca:=sGe hg;have cb:=sGe hg;have τ :=sNl ζ hg;have ω :=sNg ζ hg;have φ :=sNl Z hg;have a7:=sNg Z hg;have σ:=sNl δ hg;have a9:=sNg δ hg;replace ζ :=sBk ζ hb;replace Z:=sBk Z hb;replace δ :=sBk δ hb;replace HB:=sHb hb;clear hb hbox hg))
 replace ζ :=aK (Qd ζ.out)
 replace Z:=aK (Qd Z.out)
 replace δ :=aK (Qd δ.out)
 replace μ :=aK (Qd μ.out)
 replace HB:=aK (Qg HB.out)
 refine Ze (n:=19) (S:=fun w'=>w'.cell? ⟨ν,0,none⟩=some (.int .i64 B)∧w'.cell? ⟨ν,1,none⟩=some (.int .i64 J)∧w'.cell? ⟨ε,0,none⟩=some (.slice ι O.length η)∧w'.cell? ⟨ε,1,none⟩=some (.slice κ X.length θ)∧w'.cell? ⟨aa,0,none⟩=some (.int .i64 Y)∧w'.cell? ⟨aa,1,none⟩=some (.int .i64 γ)∧w'.cell? ⟨aa,2,none⟩=some (.int .i64 ρ)) (ds:=[]) #[false,false,false,false,false,false,false,false,false,false,false,false,false,false,false,false,false,false,false] kr rfl rfl ⟨(Qa ζ.out 0).trans rfl,(Qa ζ.out 1).trans rfl,(Qa Z.out 0).trans rfl,(Qa Z.out 1).trans rfl,(Qa δ.out 0).trans rfl,(Qa δ.out 1).trans rfl,(Qa δ.out 2).trans rfl⟩ (fun hHeld=>?_);refine Q5 call_Give.Kr call_Give.Y6 (fun HT_ HW_=>?_)
 generalize w9.drew=fj at ζ Z δ μ HB hHeld ⊢
 refine qP 13 (some 21) (bN 19 8192) HT_ ?_
 refine qT 0 (some 8) (bN 19 8193) HT_ HW_ hHeld ?_
 refine qT 1 (some 9) (bN 19 8195) HT_ HW_ hHeld ?_
 refine qT 2 (some 10) (bN 19 8199) HT_ HW_ hHeld ?_
 refine qT 4 (some 12) (bN 19 8215) HT_ HW_ hHeld ?_
 refine qT 6 (some 14) (bN 19 8279) HT_ HW_ hHeld ?_
 refine qT 9 (some 17) (bN 19 8791) HT_ HW_ hHeld ?_
 refine qT 10 (some 18) (bN 19 9815) HT_ HW_ hHeld ?_
 refine Zf (i:=3) (N:=some 11) (bN 19 9823) rfl rfl (Q3 HT_.out kr) (by decide) (fun K hK=>?_)
 refine Zd Try.func65 kr rfl #[.agg #[.int .i64 B,.int .i64 J]] (by rfl) rfl rfl qM ?_
 refine(Jx B J _).mono ?_
 rintro e bb ⟨ae,rfl,hgp,hgw,hb⟩
 have al:=aK hgp
 clear hgp hgw
 refine⟨_,rfl, ?_⟩
 replace ζ :=sBk ζ hb
 replace Z:=sBk Z hb
 replace δ :=sBk δ hb
 replace μ :=sBk μ hb
 replace HB:=sHb hb
 (try clear hb)
 (try clear a4)
 (try clear hk)
 (try clear hi)
 refine hK.out _ _ ⟨qc ζ,qc ζ,qc Z,qc Z,qc δ,qc δ,qc δ⟩ (fun hHeld=>?_)
 clear hK K
 refine qN (some 11) ?_
 refine Zf (i:=5) (N:=some 13) (bN 19 9855) rfl rfl (Q3 HT_.out kr) (by decide) (fun K hK=>?_)
 refine X6 Try.func82 kr rfl #[] #[.pointer (some ⟨ae,0,none⟩)] #[.agg #[.int .i64 Y,.int .i64 γ,.int .i64 ρ]] #[.agg #[.int .i64 Y,.int .i64 γ,.int .i64 ρ],.pointer (some ⟨ae,0,none⟩)] rfl (by rfl) rfl rfl rfl qM ?_
 refine(G5 B J Y γ ρ a3 _ (Option.some.inj A4.out) ae al.out).mono ?_
 rintro e d4 ⟨rfl,hb⟩
 refine⟨_,rfl, ?_⟩
 replace ζ :=sBk ζ hb
 replace Z:=sBk Z hb
 replace δ :=sBk δ hb
 replace μ :=sBk μ hb
 replace HB:=sHb hb
 (try clear hb)
 (try clear a4)
 (try clear hk)
 (try clear hi)
 refine hK.out _ _ ⟨qc ζ,qc ζ,qc Z,qc Z,qc δ,qc δ,qc δ⟩ (fun hHeld=>?_)
 clear hK K
 refine qN (some 13) ?_
 refine Zf (i:=7) (N:=some 15) (bN 19 9983) rfl rfl (Q3 HT_.out kr) (by decide) (fun K hK=>?_)
 refine Zd Try.func63 kr rfl #[.agg #[.slice ι O.length η,.slice κ X.length θ]] (by rfl) rfl rfl qM ?_
 refine(Kj ι κ O.length X.length η θ _).mono ?_
 rintro e bd ⟨rfl,hb⟩
 refine⟨_,rfl, ?_⟩
 replace ζ :=sBk ζ hb
 replace Z:=sBk Z hb
 replace δ :=sBk δ hb
 replace μ :=sBk μ hb
 replace HB:=sHb hb
 (try clear hb)
 (try clear a4)
 (try clear hk)
 (try clear hi)
 refine hK.out _ _ ⟨qc ζ,qc ζ,qc Z,qc Z,qc δ,qc δ,qc δ⟩ (fun hHeld=>?_)
 clear hK K
 refine qN (some 15) ?_
 refine qP 8 (some 16) (bN 19 10239) HT_ ?_
 refine Zf (i:=11) (N:=some 19) (bN 19 12287) rfl rfl (Q3 HT_.out kr) (by decide) (fun K hK=>?_)
 refine Zd Try.func66 kr rfl #[.agg #[.slice ι O.length η,.slice κ X.length θ]] (by rfl) rfl rfl qM ?_
 refine(Gy ι κ O.length X.length η θ _).mono ?_
 rintro e bf ⟨rfl,hb⟩
 refine⟨_,rfl, ?_⟩
 replace ζ :=sBk ζ hb
 replace Z:=sBk Z hb
 replace δ :=sBk δ hb
 replace μ :=sBk μ hb
 replace HB:=sHb hb
 (try clear hb)
 (try clear a4)
 (try clear hk)
 (try clear hi)
 refine hK.out _ _ ⟨qc ζ,qc ζ,qc Z,qc Z,qc δ,qc δ,qc δ⟩ (fun hHeld=>?_)
 clear hK K
 refine qN (some 19) ?_
 refine qP 12 (some 20) (bN 19 16383) HT_ ?_
 refine Zf (i:=14) (N:=some 22) (bN 19 32767) rfl rfl (Q3 HT_.out kr) (by decide) (fun K hK=>?_)
 refine Zd Try.func73 kr rfl #[.agg #[.int .i64 B,.int .i64 J],.agg #[.slice ι O.length η,.slice κ X.length θ],.bool a3,.func (.func 74) #[.agg #[.slice ι O.length η,.func (.func 79) #[] #[]]] #[],.agg #[.int .i64 Y,.int .i64 γ,.int .i64 ρ],.func (.func 75) #[.agg #[.slice κ X.length θ,.func (.func 83) #[] #[]]] #[],.agg #[.int .i64 (-2),.int .i64 0]] (by rfl) rfl rfl qM ?_
 refine(call_change.calls _ _ k B J ι η O κ θ X a3 0 Y γ ρ 0 (-2) 0 bg a5 ψ _ ?side1 ?side2 ?side3 ?side4 A5.out 74 Try.f74 (.agg #[.slice ι O.length η,.func (.func 79) #[] #[]]) Try.func74 kr rfl (fun W t ht hb=>V6 ι η O _ _ _ t W (Kd.Qs (Kd.Qs a0.out (by repeat(first|(with_reducible first|exact HB.out|apply Qo|apply Qi|apply Qg)|exact HB.out|(refine Qr ?_ (Aside0.out (by assumption)))))) hb) b3.out ht) 75 Try.f75 (.agg #[.slice κ X.length θ,.func (.func 83) #[] #[]]) Try.func75 kr rfl (fun W t ht hb=>Uv κ θ X _ _ t W (Kd.Qs (Kd.Qs a1.out (by repeat(first|(with_reducible first|exact HB.out|apply Qo|apply Qi|apply Qg)|exact HB.out|(refine Qr ?_ (Aside0.out (by assumption)))))) hb) b4.out ht)).mono ?_
 (case side1=>exact(Kd.Qs a0.out HB.out))
 (case side2=>exact b3.out)
 (case side3=>exact(Kd.Qs a1.out HB.out))
 (case side4=>exact b4.out)
 rintro e e7 ⟨cg,ce,rfl,af,ah,hb⟩
 refine⟨_,rfl, ?_⟩
 have bj:=aK (Kd.Q8 (Kd.Jn af (g:=aa) (o:=.cells #[.int .i64 Y,.int .i64 γ,.int .i64 ρ] 36 (0,0)) δ.out) (Qn HB.out))
 have a2:=aK (Kd.Q8 ah (Qn HB.out))
 replace ζ :=sBk ζ hb
 replace Z:=sBk Z hb
 replace δ :=sBk δ hb
 replace μ :=sBk μ hb
 replace HB:=sHb hb
 (try clear hb)
 (try clear a4)
 (try clear hk)
 (try clear hi)
 (try clear af)
 (try clear ah)
 obtain⟨ar,ac,au⟩:=Kd.Q7 bj.out
 (first|subst au|(injection au with aj aw ak;have ax:=aj.symm;have ay:=ak.symm;clear aj aw ak;subst ax;subst ay))
 obtain⟨am,ap,a6⟩:=Kd.Q7 a2.out
 (first|subst a6|(injection a6 with aj aw ak;have ax:=aj.symm;have ay:=ak.symm;clear aj aw ak;subst ax;subst ay))
 refine hK.out _ _ ⟨qc ζ,qc ζ,qc Z,qc Z,qc δ,qc δ,qc δ⟩ (fun hHeld=>?_)
 clear hK K
 refine qN (some 22) ?_
 refine qP 15 (some 23) (bN 19 65535) HT_ ?_
 refine qP 16 (some 24) (bN 19 131071) HT_ ?_
 refine Zf (i:=17) (N:=none) (bN 19 262143) rfl rfl (Q3 HT_.out kr) (by decide) (fun K hK=>?_)
 have cf:e7.cell? ⟨ξ,0,none⟩=some (.slice none 0 0):=(Qa μ.out 0).trans rfl
 have cd:=Qh μ.out 0
 have bi:= τ.out
 have bk:= φ.out
 have bl:=σ.out
 have bo:= ω.out
 have bp:=a7.out
 have bq:=a9.out
 have bm:e7.cell? ⟨ξ,1,none⟩=some (.slice none 0 0):=(Qa μ.out 1).trans rfl
 have b0:=Qh μ.out 1
 have ao:= τ.out
 have br:= φ.out
 have bs:=σ.out
 have av:= ω.out
 have bu:=a7.out
 have bv:=a9.out
 refine Gx (w1:=?_) (by rfl) rfl ?_ ?_
 rotate_left
 ·go_simp
  rfl
 refine hK.out _ _ ⟨((cell_far (p:=⟨ξ,_,none⟩) τ.out _).trans (((cell_far (p:=⟨ξ,_,none⟩) τ.out _).trans (hHeld.1)))),((cell_far (p:=⟨ξ,_,none⟩) τ.out _).trans (((cell_far (p:=⟨ξ,_,none⟩) τ.out _).trans (hHeld.2.1)))),((cell_far (p:=⟨ξ,_,none⟩) φ.out _).trans (((cell_far (p:=⟨ξ,_,none⟩) φ.out _).trans (hHeld.2.2.1)))),((cell_far (p:=⟨ξ,_,none⟩) φ.out _).trans (((cell_far (p:=⟨ξ,_,none⟩) φ.out _).trans (hHeld.2.2.2.1)))),((cell_far (p:=⟨ξ,_,none⟩) σ.out _).trans (((cell_far (p:=⟨ξ,_,none⟩) σ.out _).trans (hHeld.2.2.2.2.1)))),((cell_far (p:=⟨ξ,_,none⟩) σ.out _).trans (((cell_far (p:=⟨ξ,_,none⟩) σ.out _).trans (hHeld.2.2.2.2.2.1)))),((cell_far (p:=⟨ξ,_,none⟩) σ.out _).trans (((cell_far (p:=⟨ξ,_,none⟩) σ.out _).trans (hHeld.2.2.2.2.2.2))))⟩ (fun hHeld=>?_)
 clear hK K
 refine qP 18 (some 7) (bN 19 524287) HT_ ?_
 refine Zi (Zc HT_.out kr) ?_
 try go_wp2
 refine bodyPost_ret (Z9 rfl _ _ ξ 50 #[.slice ar bg.length ac,.slice am a5.length ap] (0,0) _ rfl (by refine Qq (cs:=#[.slice ar bg.length ac,.slice none 0 0]) ?_ 1 _ rfl;refine Qq (cs:=#[.slice none 0 0,.slice none 0 0]) ?_ 0 _ rfl;exact μ.out) Try.underlying50 rfl kr) rfl ?_
 exact⟨_,_,by first|rfl|(simp[Qk,Qj] <;> rfl)|(simp[*,Qk,Qj] <;> rfl),by(with_reducible repeat first|apply Kd.Qv|apply Kd.Qu|apply Kd.Qy);exact Kd.Q1 (Kd.Qx (Kd.Qx (Kd.Q4 bj.out μ.out (by decide)) (fun _ hk=>hk.2) _) (fun _ hk=>hk.2) _) (fun _ hk=>trivial),by(with_reducible repeat first|apply Kd.Qv|apply Kd.Qu|apply Kd.Qy);exact Kd.Q1 (Kd.Qx (Kd.Qx (Kd.Q4 a2.out μ.out (by decide)) (fun _ hk=>hk.2) _) (fun _ hk=>hk.2) _) (fun _ hk=>trivial),bel⟩
end Go.Proofs.Ytmfffemidlhcpaa.C
namespace Go.Proofs.Ytmfffemidlhcpaa.Call
open Go.RowKit Go.Proofs.YtmfffemidlhcpaaW.PrintWords Go.Proofs.YtmfffemidlhcpaaW.PrintLast Go.Proofs.YtmfffemidlhcpaaW.PrintMore Go.Proofs.Ytmfffemidlhcpaa.C
set_option linter.unusedVariables false
set_option linter.unusedSimpArgs false
abbrev Hall:=S36
abbrev Ins:=S86
def i64 (x:Int):Prop:= -9223372036854775808≤x∧x≤9223372036854775807
theorem Xj (a lo hi:Int):call_within.f a lo hi=some (decide (lo≤a∧a≤hi)):=by
 unfold call_within.f
 by_cases h:lo≤a <;> simp[h]
def okB (F C:Int) (H:List Hall) (I:List Ins):Bool:=decide (2≤F∧F≤64)&&(decide (1≤C∧C≤8)&&(Zj (fun x=>Xf F C x.f0 x.f1 x.f2) ltH none H&&Zj (fun x=>Y0 F C x.f0 x.f1) ltI none I))
theorem Kt {n:Nat} {C:Int} (h:n<1000000000) (hC:i64 C):small n C=true:=decide_eq_true ⟨h,hC.1,hC.2⟩
theorem Ym (k:Nat) (F C:Int) (H:List Hall) (I:List Ins) (hH:H.length<900000000) (hI:I.length<900000000) (hC:i64 C):call_Check.f (k+1) F C H I=some (if okB F C H I=true then 0 else 190):=by
 unfold call_Check.f rightP_H.f rightP_I.f okB
 rw[Xj,Xj,if_pos (Kt (by omega) hC),if_pos (Kt (by omega) hC)]
 simp only[Option.bind_some]
 cases decide (2≤F∧F≤64) <;> cases decide (1≤C∧C≤8) <;> cases Zj (fun x:Hall=>Xf F C x.f0 x.f1 x.f2) ltH none H <;> cases Zj (fun x:Ins=>Y0 F C x.f0 x.f1) ltI none I <;> simp[call_Check.j0]
theorem My (U:Option (List Hall)) (V:Option (List Ins)) (k:Nat) (F C:Int) (H:List Hall) (I:List Ins) (is:Bool) (a3 B J O a5 X Y:Int) (hH:H.length<900000000) (hI:I.length<900000000) (hC:i64 C):
 call_change.f U V (k+1) F C H I is a3 B J O a5 X Y=if okB F C H I=true then (if is=true then U.bind fun a=>V.bind fun b=>some (a,b,0) else some ([],[],191)) else some ([],[],190):=by
 unfold call_change.f
 rw[Ym k F C H I hH hI hC]
 cases okB F C H I <;> simp
theorem Yl {F C:Int} {H:List Hall} {I:List Ins}:okB F C H I=true↔((2≤F∧F≤64)∧(1≤C∧C≤8)∧((∀ x ∈ H,Xf F C x.f0 x.f1 x.f2=true)∧H.Pairwise (fun x y=>ltH x y=true))∧((∀ x ∈ I,Y0 F C x.f0 x.f1=true)∧I.Pairwise (fun x y=>ltI x y=true))):=by
 unfold okB
 simp only[Bool.and_eq_true,decide_eq_true_eq]
 rw[Js,U4]
theorem Uu (x:Int) (h:1≤x∧x≤64):wrap64 (x-1)=x-1:=by unfold wrap64;omega
theorem G4 {F C:Int} {B J X:Int} (hF:2≤F∧F≤64) (hC:1≤C∧C≤8):Xf F C B J X=true↔((J=1∨J = -1)∧(0≤B∧B≤F-1)∧(0≤B+J∧B+J≤F-1)∧(-1≤X∧X≤C-1)):=by
 unfold Xf
 rw[decide_eq_true_eq,Uu F (by omega),Uu C (by omega)]
 constructor
 ·rintro⟨h1,O,Z,h4⟩
  rw[show wrap64 (B+J)=B+J from by unfold wrap64;omega] at Z
  exact⟨h1,O,Z,h4⟩
 ·rintro⟨h1,O,Z,h4⟩
  rw[show wrap64 (B+J)=B+J from by unfold wrap64;omega]
  exact⟨h1,O,Z,h4⟩
theorem Lr {F C:Int} {B J:Int} (hF:2≤F∧F≤64) (hC:1≤C∧C≤8):Y0 F C B J=true↔((0≤B∧B≤C-1)∧(0≤J∧J≤F-1)):=by
 unfold Y0
 rw[decide_eq_true_eq,Uu F (by omega),Uu C (by omega)]
theorem U2 {F C:Int} {H:List Hall} {I:List Ins} (h:okB F C H I=true):Zj (fun _=>true) ltH none H=true:=(Js _ _).2 ⟨fun _ _=>rfl,(Yl.1 h).2.2.1.2⟩
theorem M4 {F C:Int} {H:List Hall} {I:List Ins} (h:okB F C H I=true) (B J:Int) (hx:B<0):woI B J I=I:=by
 obtain⟨hF,hC,_,h1,_⟩:=Yl.1 h
 unfold woI
 rw[List.filter_eq_self]
 intro y hy
 have:=(Lr hF hC).1 (h1 y hy)
 have hne:¬ Yc B J y.f0 y.f1=0:=by rw[Gp];omega
 simp[hne]
theorem Ca (H:List Hall) (I:List Ins) (hH:H.length<900000000) (hI:I.length<900000000):newellaw19_Own.f H I=some (H,I):=by
 unfold newellaw19_Own.f
 simp only[Option.bind_some,List.length_nil,Nat.zero_add,List.nil_append]
 rw[if_pos (by omega),if_pos (by omega)]
def Lt (F C:Int) (H:List Hall) (I:List Ins) (fl dir car:Int):List Hall×List Ins×Int:=
 if okB F C H I=true then (if Xf F C fl dir car=true then (V5 ⟨fl,dir,car⟩ H,I,0) else ([],[],191)) else ([],[],190)
theorem Db (k:Nat) (F C:Int) (H:List Hall) (I:List Ins) (fl dir car:Int) (hH:H.length<900000000) (hI:I.length<900000000) (hC:i64 C) (hd:i64 dir):
 call_Give.f (k+1) F C H I fl dir car=some (Lt F C H I fl dir car):=by
 unfold call_Give.f hallP.f Lt
 rw[Option.bind_some,My _ _ k F C H I _ _ _ _ _ _ _ _ hH hI hC]
 cases hok:okB F C H I
 ·rfl
 ·cases hb:Xf F C fl dir car
  ·rfl
  ·simp only[eq_self,if_true]
   unfold setP_H.f woP_I.f
   rw[if_pos ⟨Kt (by omega) hd,U2 hok⟩,if_pos (Kt (by omega) (by unfold i64;omega)),M4 hok _ _ (by omega)]
   rfl
theorem Wa (F C:Int):newelref19_House.f F C=some (decide ((2≤F∧F≤64)∧(1≤C∧C≤8))):=by
 unfold newelref19_House.f
 by_cases h1:F≥2
 ·rw[if_pos h1]
  by_cases O:F≤64
  ·rw[if_pos O]
   by_cases Z:C≥1
   ·rw[if_pos Z]
    congr 1
    rw[decide_eq_decide]
    omega
   ·rw[if_neg Z,decide_eq_false (by omega)]
  ·rw[if_neg O,decide_eq_false (by omega)]
 ·rw[if_neg h1,decide_eq_false (by omega)]
theorem Wy (k:Nat) {F C:Int} (B J X:Int) (hF:2≤F∧F≤64) (hC:1≤C∧C≤8):newelref19_Hall.f (k+1) F C B J X=some (Xf F C B J X):=by
 have hb:=G4 (F:=F) (C:=C) (B:=B) (J:=J) (X:=X) hF hC
 have w1:wrap64 (F-2)=F-2:=by unfold wrap64;omega
 have w2:wrap64 (F-1)=F-1:=by unfold wrap64;omega
 have tt:∀ p:Prop,[Decidable p]→(p↔((J=1∨J = -1)∧(0≤B∧B≤F-1)∧(0≤B+J∧B+J≤F-1)∧(-1≤X∧X≤C-1)))→(some (decide p):Option Bool)=some (Xf F C B J X):=by
  intro p _ hp
  congr 1
  cases h:Xf F C B J X
  ·rw[h] at hb
   exact decide_eq_false (fun q=>Bool.noConfusion (hb.2 (hp.1 q)))
  ·exact decide_eq_true (hp.2 (hb.1 h))
 have ff:¬ ((J=1∨J = -1)∧(0≤B∧B≤F-1)∧(0≤B+J∧B+J≤F-1)∧(-1≤X∧X≤C-1))→(some false:Option Bool)=some (Xf F C B J X):=fun h=>tt False ⟨False.elim,h⟩
 have j:∀ b:Bool,b=decide (X < -1∨X≥C)→newelref19_Hall.j0 (k+1) b F C B J X=some (Xf F C B J X):=by
  intro b hbb
  simp only[newelref19_Hall.j0]
  rw[w1,w2]
  by_cases Y:X < -1∨X≥C
  ·rw[hbb,decide_eq_true Y,if_pos rfl]
   exact ff (by omega)
  ·rw[hbb,decide_eq_false Y,if_neg (by decide)]
   by_cases h1:J=1
   ·rw[if_pos h1]
    by_cases O:B≥0
    ·rw[if_pos O]
     exact tt _ (by omega)
    ·rw[if_neg O]
     exact ff (by omega)
   ·rw[if_neg h1]
    by_cases O:J = -1
    ·rw[if_pos O]
     by_cases Z:B≥1
     ·rw[if_pos Z]
      exact tt _ (by omega)
     ·rw[if_neg Z]
      exact ff (by omega)
    ·rw[if_neg O]
     exact ff (by omega)
 unfold newelref19_Hall.f
 by_cases h:X < -1
 ·rw[if_pos h]
  exact j _ (decide_eq_true (.inl h)).symm
 ·rw[if_neg h]
  exact j _ (by rw[decide_eq_decide];omega)
theorem Gg (k:Nat) {F C:Int} (B J X:Int) (hF:2≤F∧F≤64) (hC:1≤C∧C≤8) (hk:0<k):newelref19_Hall.f k F C B J X=some (Xf F C B J X):=by
 obtain⟨k,rfl⟩:∃ m,k=m+1:=⟨k-1,by omega⟩
 exact Wy k B J X hF hC
theorem V8 {F C:Int} (B J:Int) (hF:2≤F∧F≤64) (hC:1≤C∧C≤8):newelref19_Inside.f F C B J=some (Y0 F C B J):=by
 have hb:=Lr (F:=F) (C:=C) (B:=B) (J:=J) hF hC
 have tt:∀ p:Prop,[Decidable p]→(p↔((0≤B∧B≤C-1)∧(0≤J∧J≤F-1)))→(some (decide p):Option Bool)=some (Y0 F C B J):=by
  intro p _ hp
  congr 1
  cases h:Y0 F C B J
  ·rw[h] at hb
   exact decide_eq_false (fun q=>Bool.noConfusion (hb.2 (hp.1 q)))
  ·exact decide_eq_true (hp.2 (hb.1 h))
 have ff:¬ ((0≤B∧B≤C-1)∧(0≤J∧J≤F-1))→(some false:Option Bool)=some (Y0 F C B J):=fun h=>tt False ⟨False.elim,h⟩
 unfold newelref19_Inside.f
 by_cases h1:B≥0
 ·rw[if_pos h1]
  by_cases O:B<C
  ·rw[if_pos O]
   by_cases Z:J≥0
   ·rw[if_pos Z]
    exact tt _ (by omega)
   ·rw[if_neg Z]
    exact ff (by omega)
  ·rw[if_neg O]
   exact ff (by omega)
 ·rw[if_neg h1]
  exact ff (by omega)
theorem Wb (x y:Hall):newelref19_ahead.f x.f0 x.f1 x.f2 y.f0 y.f1 y.f2=some (ltH x y):=by
 unfold newelref19_ahead.f
 by_cases h1:x.f0<y.f0
 ·rw[if_pos h1,(Y5 x y).2 (.inl h1)]
 ·rw[if_neg h1]
  by_cases O:x.f0=y.f0
  ·rw[if_pos O]
   congr 1
   cases h:ltH x y
   ·exact decide_eq_false (fun q=>by rw[(Y5 x y).2 (.inr ⟨O,q⟩)] at h;cases h)
   ·have:=(Y5 x y).1 h
    exact decide_eq_true (by omega)
  ·rw[if_neg O]
   cases h:ltH x y
   ·rfl
   ·have:=(Y5 x y).1 h
    omega
theorem V9 (x y:Ins):newelref19_before.f x.f0 x.f1 y.f0 y.f1=some (ltI x y):=by
 unfold newelref19_before.f
 by_cases h1:x.f0<y.f0
 ·rw[if_pos h1,(Kw x y).2 (.inl h1)]
 ·rw[if_neg h1]
  by_cases O:x.f0=y.f0
  ·rw[if_pos O]
   congr 1
   cases h:ltI x y
   ·exact decide_eq_false (fun q=>by rw[(Kw x y).2 (.inr ⟨O,q⟩)] at h;cases h)
   ·have:=(Kw x y).1 h
    exact decide_eq_true (by omega)
  ·rw[if_neg O]
   cases h:ltI x y
   ·rfl
   ·have:=(Kw x y).1 h
    omega
theorem Cc {F C:Int} (hF:2≤F∧F≤64) (hC:1≤C∧C≤8) (H:List Hall) (I:List Ins) (hm:I.length≤1000000000) (j:Nat):∀ (f i:Nat),i+j=I.length→j+1<f→newelref19_May.l1 f (i:Int) F C H I=some (Zj (fun x=>Y0 F C x.f0 x.f1) ltI (if i=0 then none else I[i-1]?) (I.drop i)):=by
 induction j with
 |zero=>
  intro f i hi hf
  obtain⟨f,rfl⟩:∃ m,f=m+1:=⟨f-1,by omega⟩
  simp only[newelref19_May.l1]
  rw[if_neg (by omega),List.drop_of_length_le (by omega)]
  cases(if i=0 then none else I[i-1]?) <;> rfl
 |succ j ih=>
  intro f i hi hf
  obtain⟨f,rfl⟩:∃ m,f=m+1:=⟨f-1,by omega⟩
  have ha:i<I.length:=by omega
  have ei:wrap64 ((i:Int)+1)=((i+1:Nat):Int):=by unfold wrap64;omega
  have B:=ih f (i+1) (by omega) (by omega)
  rw[if_neg (by omega),Nat.add_sub_cancel,List.getElem?_eq_getElem ha] at B
  simp only[newelref19_May.l1]
  rw[if_pos (by omega),if_pos (by omega),Jv I i ha,V8 _ _ hF hC,List.drop_eq_getElem_cons ha]
  simp only[Option.bind_some]
  cases h1:Y0 F C I[i].f0 I[i].f1
  ·rw[if_neg (by decide)]
   cases(if i=0 then none else I[i-1]?) <;> simp only[Zj,h1,Bool.false_and]
  ·rw[if_pos rfl]
   by_cases Y:i=0
   ·subst Y
    rw[if_neg (by omega),ei,B,if_pos rfl]
    simp only[Zj,h1,Bool.true_and]
   ·have ep:wrap64 ((i:Int)-1)=((i-1:Nat):Int):=by unfold wrap64;omega
    rw[if_pos (by omega),ep,if_pos (by omega),if_pos (by omega),Jv I (i-1) (by omega),V9,if_neg Y,List.getElem?_eq_getElem (by omega)]
    simp only[Option.bind_some,Zj,h1,Bool.true_and]
    cases O:ltI (I[i-1]'(by omega)) I[i]
    ·rw[if_neg (by decide),Bool.false_and]
    ·rw[if_pos rfl,ei,B,Bool.true_and]
theorem Cd {F C:Int} (hF:2≤F∧F≤64) (hC:1≤C∧C≤8) (H:List Hall) (I:List Ins) (hH:H.length≤1000000000) (hm:I.length≤1000000000) (j:Nat):∀ (f i:Nat),i+j=H.length→j+I.length+3<f→newelref19_May.l0 f (i:Int) F C H I=some (Zj (fun x=>Xf F C x.f0 x.f1 x.f2) ltH (if i=0 then none else H[i-1]?) (H.drop i)&&Zj (fun x=>Y0 F C x.f0 x.f1) ltI none I):=by
 induction j with
 |zero=>
  intro f i hi hf
  obtain⟨f,rfl⟩:∃ m,f=m+1:=⟨f-1,by omega⟩
  have h1:=Cc hF hC H I hm I.length f 0 (by omega) (by omega)
  rw[if_pos rfl,List.drop_zero] at h1
  simp only[newelref19_May.l0]
  rw[if_neg (by omega),List.drop_of_length_le (by omega)]
  refine h1.trans ?_
  cases(if i=0 then none else H[i-1]?) <;> rfl
 |succ j ih=>
  intro f i hi hf
  obtain⟨f,rfl⟩:∃ m,f=m+1:=⟨f-1,by omega⟩
  have ha:i<H.length:=by omega
  have ei:wrap64 ((i:Int)+1)=((i+1:Nat):Int):=by unfold wrap64;omega
  have B:=ih f (i+1) (by omega) (by omega)
  rw[if_neg (by omega),Nat.add_sub_cancel,List.getElem?_eq_getElem ha] at B
  simp only[newelref19_May.l0]
  rw[if_pos (by omega),if_pos (by omega),Jw H i ha,Gg _ _ _ _ hF hC (by omega),List.drop_eq_getElem_cons ha]
  simp only[Option.bind_some]
  cases h1:Xf F C H[i].f0 H[i].f1 H[i].f2
  ·rw[if_neg (by decide)]
   cases(if i=0 then none else H[i-1]?) <;> simp only[Zj,h1,Bool.false_and]
  ·rw[if_pos rfl]
   by_cases Y:i=0
   ·subst Y
    rw[if_neg (by omega),ei,B,if_pos rfl]
    simp only[Zj,h1,Bool.true_and]
   ·have ep:wrap64 ((i:Int)-1)=((i-1:Nat):Int):=by unfold wrap64;omega
    rw[if_pos (by omega),ep,if_pos (by omega),if_pos (by omega),Jw H (i-1) (by omega),Wb,if_neg Y,List.getElem?_eq_getElem (by omega)]
    simp only[Option.bind_some,Zj,h1,Bool.true_and]
    cases O:ltH (H[i-1]'(by omega)) H[i]
    ·rw[if_neg (by decide),Bool.false_and,Bool.false_and]
    ·rw[if_pos rfl,ei,B,Bool.true_and]
theorem Mc (k:Nat) (F C:Int) (H:List Hall) (I:List Ins) (hH:H.length≤1000000000) (hI:I.length≤1000000000) (hk:H.length+I.length+3<k):newelref19_May.f k F C H I=some (okB F C H I):=by
 unfold newelref19_May.f
 rw[Wa]
 simp only[Option.bind_some]
 by_cases h:(2≤F∧F≤64)∧(1≤C∧C≤8)
 ·have:=Cd h.1 h.2 H I hH hI H.length k 0 (by omega) hk
  rw[if_pos rfl,List.drop_zero] at this
  rw[decide_eq_true h,if_pos rfl]
  refine this.trans ?_
  unfold okB
  rw[decide_eq_true h.1,decide_eq_true h.2,Bool.true_and,Bool.true_and]
 ·rw[decide_eq_false h,if_neg (by decide)]
  congr 1
  cases hb:okB F C H I
  ·rfl
  ·exact absurd ⟨(Yl.1 hb).1,(Yl.1 hb).2.1⟩ h
end Go.Proofs.Ytmfffemidlhcpaa.Call
namespace Go.Proofs.Ytmfffemidlhcpaa.C
open Go.RowKit Go.Proofs.YtmfffemidlhcpaaW.PrintWords Go.Proofs.YtmfffemidlhcpaaW.PrintLast Go.Proofs.YtmfffemidlhcpaaW.PrintMore
attribute [local go_sem] Z0 Zy Z6 Z5 Zr Zq Zz Zx
set_option linter.unusedVariables false
set_option linter.unusedSimpArgs false
def group_hall.f (k:Nat) (B:Int) (J:Int) (δ :Int) (ε :Int) (ι :Int):Option (Bool):=(call_Give.f k B J ([]:List (S36)) ([]:List (S86)) δ ε ι).bind fun Y=>(some (Y.2.2==0))
theorem group_hall.mono:∀ B X a2 a3 O k,LeO (group_hall.f k B X a2 a3 O) (group_hall.f (k+1) B X a2 a3 O):=by
 intro B X a2 a3 O k
 unfold group_hall.f
 repeat' first|(with_reducible first|apply call_Give.mono|exact LeO.refl _|exact LeO.none _|refine LeO.ite ?_ ?_|refine LeO.bind ?_ (fun _=>?_))|apply call_Give.mono|exact LeO.none _|refine LeO.ite ?_ ?_|refine LeO.bind ?_ (fun _=>?_)
set_option maxHeartbeats 8000000 in
set_option maxRecDepth 100000 in
theorem group_hall.calls (k:Nat) (B:Int) (J:Int) (δ :Int) (ε :Int) (ι :Int) (r:Bool) (w:World) (h:group_hall.f k B J δ ε ι = some r):
 Calls Try.prog 30 #[.agg #[.int .i64 B,.int .i64 J],.agg #[.int .i64 δ,.int .i64 ε,.int .i64 ι]] w fun e w'=>e = .returned (.bool r)∧Below w.heap.size w w':=by
 have dw:=Try.underlying59
 have ch:=Try.underlying36
 have dc:=Try.underlying50
 have HB:=aK (Below.refl w.heap.size w)
 have H:((call_Give.f k B J ([]:List (S36)) ([]:List (S86)) δ ε ι).bind fun Y=>(some (Y.2.2==0)))=some r:=h
 clear h
 obtain⟨⟨τ,φ,ξ⟩,a7,H⟩:=qO H
 replace H:(some (ξ == 0))=some r:=H
 have A3:=aK a7
 clear a7
 obtain rfl:=Option.some.inj H
 go_enter Try.func30,Try.ntmps30
 go_wp2_with (first|((with_reducible refine Qe (N:=2) rfl ?_);refine qE 2 #[.int .i64 B,.int .i64 J] 59 ?_;intro ω hg w4 hbox hb;have O:=aK hbox;have a3:=sGe hg;have a5:=sGe hg;replace HB:=sHb hb;clear hb hbox hg)|((with_reducible refine Qe (N:=3) rfl ?_);refine qE 3 #[.int .i64 δ,.int .i64 ε,.int .i64 ι] 36 ?_;intro ρ hg w5 hbox hb;have X:=aK hbox;have ac:=sGe hg;have ag:=sGe hg;have ζ :=sNl O hg;have η :=sNg O hg;replace O:=sBk O hb;replace HB:=sHb hb;clear hb hbox hg;have cr:= ζ.out;have cv:= η.out;obtain⟨a0,a2,ae,ay⟩:=qD2 O.out;obtain⟨a8,a9,ao,aa,ab,b2⟩:=qD3 X.out)|((with_reducible refine Qf (f:=51) rfl ?_);refine Qt (some 11) rfl rfl Try.func51 kr rfl #[.agg #[.int .i64 B,.int .i64 J],.agg #[.slice none 0 0,.slice none 0 0],.agg #[.int .i64 δ,.int .i64 ε,.int .i64 ι]] rfl qM ?_;(refine(call_Give.calls k B J _ _ ([]:List (S36)) _ _ ([]:List (S86)) δ ε ι τ φ ξ _ ?side1 ?side2 ?side3 ?side4 A3.out).mono ?_);(case side1=>exact Kd.Jp _ _);(case side2=>exact Nat.le_refl _);(case side3=>exact Kd.Jp _ _);(case side4=>exact Nat.le_refl _);rintro e w9 ⟨al,an,rfl,af,ah,hb⟩;refine⟨_,rfl, ?_⟩;have Z:=aK (Kd.Q8 (Kd.Jn af (g:=ρ) (o:=.cells #[.int .i64 δ,.int .i64 ε,.int .i64 ι] 36 (0,0)) X.out) (Qn HB.out));have γ:=aK (Kd.Q8 ah (Qn HB.out));replace O:=sBk O hb;replace X:=sBk X hb;replace HB:=sHb hb;(try clear hb);(try clear a4);(try clear hk);(try clear hi);(try clear af);(try clear ah))|((with_reducible refine Qe (N:=5) rfl ?_);refine qE 5 #[.slice none 0 0,.slice none 0 0] 50 ?_;intro ai hg fj hbox hb;have σ:=aK hbox;have aj:=sGe hg;have ak:=sGe hg;have θ :=sNl O hg;have κ :=sNg O hg;have μ :=sNl X hg;have ν :=sNg X hg;replace Z:=sRb Z hb;replace γ:=sRb γ hb;replace O:=sBk O hb;replace X:=sBk X hb;replace HB:=sHb hb;clear hb hbox hg;obtain⟨ψ,a1,χ⟩:=Kd.Q7 Z.out;subst χ;have ev:= κ.out;have f7:= θ.out;have gp:= ν.out;have gq:= μ.out;obtain⟨bw,bz,ca,cb⟩:=qD2 σ.out;obtain⟨am,ap,a6⟩:=Kd.Q7 γ.out;subst a6))
 go_ret
 exact⟨by first|rfl|(simp[Qk,Qj] <;> rfl)|(simp[*,Qk,Qj] <;> rfl),bel⟩
def group_Cost.f (k:Nat) (B:Int) (J:Int) (O:Int) (X:Int) (Y:Int) (Z:Int) (γ:Int) (ζ :Int) (θ :Int) (η :Int) (δ :Int) (ε :Int) (ι :Int) (μ :Int) (κ :Int) (ν :Int) (ξ :Int) (ψ :Int) (a1:Bool) (a2:Bool) (φ :List Int) (χ :List Int) (a6:List Int) (a7:Int) (a8:Int) (a9:Int):Option (Int×Int):=(group_lift.f k B J O X Y Z γ ζ θ η δ ε ι μ κ ν ξ ψ a1 a2).bind fun dx=>(if dx=true then ((collect_Check.f k B 0 0 false false φ χ a6).bind fun ci=>(if ci=0 then ((group_hall.f k B 8 a7 a8 a9).bind fun dy=>(if dy=true then ((group_cost.f k B J O X Y Z γ ζ θ η δ ε ι μ κ ν ξ ψ a1 a2 φ χ a6 a7 a8 a9).bind fun ej=>(some (ej,0))) else (some (0,210)))) else (some (0,210)))) else (some (0,210)))
theorem group_Cost.mono:∀ B X a2 a3 O a5 Y a7 a8 a9 Z γ δ ζ ε η θ J ι κ μ ν ξ ρ σ τ k,LeO (group_Cost.f k B X a2 a3 O a5 Y a7 a8 a9 Z γ δ ζ ε η θ J ι κ μ ν ξ ρ σ τ) (group_Cost.f (k+1) B X a2 a3 O a5 Y a7 a8 a9 Z γ δ ζ ε η θ J ι κ μ ν ξ ρ σ τ):=by
 intro B X a2 a3 O a5 Y a7 a8 a9 Z γ δ ζ ε η θ J ι κ μ ν ξ ρ σ τ k
 unfold group_Cost.f
 repeat' first|(with_reducible first|apply collect_Check.mono|apply group_cost.mono|apply group_hall.mono|apply group_lift.mono|exact LeO.refl _|exact LeO.none _|refine LeO.ite ?_ ?_|refine LeO.bind ?_ (fun _=>?_))|apply collect_Check.mono|apply group_cost.mono|apply group_hall.mono|apply group_lift.mono|exact LeO.none _|refine LeO.ite ?_ ?_|refine LeO.bind ?_ (fun _=>?_)
set_option maxHeartbeats 8000000 in
set_option maxRecDepth 100000 in
theorem group_Cost.calls (k:Nat) (B:Int) (J:Int) (O:Int) (X:Int) (Y:Int) (Z:Int) (γ:Int) (ζ :Int) (θ :Int) (η :Int) (δ :Int) (ε :Int) (ι :Int) (μ :Int) (κ :Int) (ν :Int) (ξ :Int) (ψ :Int) (a1:Bool) (a2:Bool) (aa:Option Addr) (ab:Nat) (φ :List Int) (ac:Option Addr) (ae:Nat) (χ :List Int) (ak:Option Addr) (am:Nat) (a6:List Int) (a7:Int) (a8:Int) (a9:Int) (r1:Int) (r2:Int) (w:World) (aw:Kd.C (Kd.int .i64) w aa φ.length φ) (ax: φ.length≤ab) (b3:Kd.C (Kd.int .i64) w ac χ.length χ) (b4: χ.length≤ae) (cw:Kd.C (Kd.int .i64) w ak a6.length a6) (cz:a6.length≤am) (h:group_Cost.f k B J O X Y Z γ ζ θ η δ ε ι μ κ ν ξ ψ a1 a2 φ χ a6 a7 a8 a9=some (r1,r2)):
 Calls Try.prog 10 #[.agg #[.int .i64 B,.int .i64 J,.int .i64 O,.int .i64 X,.int .i64 Y,.int .i64 Z,.int .i64 γ,.int .i64 ζ,.int .i64 θ,.int .i64 η],.agg #[.int .i64 δ,.int .i64 ε,.int .i64 ι,.int .i64 μ,.int .i64 κ,.int .i64 ν,.int .i64 ξ,.int .i64 ψ,.bool a1,.bool a2],.agg #[.slice aa φ.length ab,.slice ac χ.length ae,.slice ak a6.length am],.agg #[.int .i64 a7,.int .i64 a8,.int .i64 a9]] w fun e w'=>e = .returned (.tuple #[.int .i64 r1,.int .i64 r2])∧Below w.heap.size w w':=by
 have cg:=Try.underlying25
 have er:=Try.underlying31
 have e9:=Try.underlying34
 have ch:=Try.underlying36
 have lr:=Try.underlying76
 have dw:=Try.underlying59
 have cm:=aK aw
 have cn:=aK ax
 clear aw ax
 have co:=aK b3
 have cp:=aK b4
 clear b3 b4
 have dt:=aK cw
 have du:=aK cz
 clear cw cz
 have HB:=aK (Below.refl w.heap.size w)
 have H:((group_lift.f k B J O X Y Z γ ζ θ η δ ε ι μ κ ν ξ ψ a1 a2).bind fun dx=>(if dx=true then ((collect_Check.f k B 0 0 false false φ χ a6).bind fun ci=>(if ci=0 then ((group_hall.f k B 8 a7 a8 a9).bind fun dy=>(if dy=true then ((group_cost.f k B J O X Y Z γ ζ θ η δ ε ι μ κ ν ξ ψ a1 a2 φ χ a6 a7 a8 a9).bind fun ej=>(some (ej,0))) else (some (0,210)))) else (some (0,210)))) else (some (0,210))))=some (r1,r2):=h
 clear h
 obtain⟨dx,bc,H⟩:=qO H
 have A5:=aK bc
 clear bc
 by_cases c6:dx=true
 ·subst c6
  rw[if_pos rfl] at H
  obtain⟨ci,cr,H⟩:=qO H
  have A7:=aK cr
  clear cr
  by_cases c8:ci=0
  ·rw[if_pos c8] at H
   have c8b0:(ci==0)=true:=beq_iff_eq.mpr c8
   have c8b1:(ci != 0)=false:=bne_eq_false_iff_eq.mpr c8
   clear c8
   obtain⟨dy,bw,H⟩:=qO H
   have A9:=aK bw
   clear bw
   by_cases c10:dy=true
   ·subst c10
    rw[if_pos rfl] at H
    obtain⟨ej,bd,H⟩:=qO H
    have cy:=aK bd
    clear bd
    simp only[Option.some.injEq,Prod.mk.injEq] at H
    obtain⟨rfl,rfl⟩:=H
    go_enter Try.func10,Try.ntmps10
    go_wp2_with (first|((with_reducible refine Qe (N:=4) rfl ?_);refine qE 4 #[.int .i64 B,.int .i64 J,.int .i64 O,.int .i64 X,.int .i64 Y,.int .i64 Z,.int .i64 γ,.int .i64 ζ,.int .i64 θ,.int .i64 η] 25 ?_;intro cx hg e7 hbox hb;have σ:=aK hbox;have ek:=sGe hg;have d4:=sGe hg;replace HB:=sHb hb;clear hb hbox hg)|((with_reducible refine Qe (N:=5) rfl ?_);refine qE 5 #[.int .i64 δ,.int .i64 ε,.int .i64 ι,.int .i64 μ,.int .i64 κ,.int .i64 ν,.int .i64 ξ,.int .i64 ψ,.bool a1,.bool a2] 31 ?_;intro dc hg ba hbox hb;have a0:=aK hbox;have el:=sGe hg;have de:=sGe hg;have ao:=sNl σ hg;have b2:=sNg σ hg;replace σ:=sBk σ hb;replace HB:=sHb hb;clear hb hbox hg)|((with_reducible refine Qe (N:=6) rfl ?_);refine qE 6 #[.slice aa φ.length ab,.slice ac χ.length ae,.slice ak a6.length am] 34 ?_;intro df hg bz hbox hb;have a5:=aK hbox;have em:=sGe hg;have dh:=sGe hg;have b6:=sNl σ hg;have bf:=sNg σ hg;have bg:=sNl a0 hg;have bh:=sNg a0 hg;replace σ:=sBk σ hb;replace a0:=sBk a0 hb;replace HB:=sHb hb;clear hb hbox hg)|((with_reducible refine Qe (N:=7) rfl ?_);refine qE 7 #[.int .i64 a7,.int .i64 a8,.int .i64 a9] 36 ?_;intro dj hg ez hbox hb;have af:=aK hbox;have et:=sGe hg;have dl:=sGe hg;have bi:=sNl σ hg;have bj:=sNg σ hg;have bu:=sNl a0 hg;have bv:=sNg a0 hg;have ca:=sNl a5 hg;have cb:=sNg a5 hg;replace σ:=sBk σ hb;replace a0:=sBk a0 hb;replace a5:=sBk a5 hb;replace HB:=sHb hb;clear hb hbox hg;have ee:=ao.out;have ep:=b2.out;have k7:=b6.out;have k8:=bf.out;have d5:=bi.out;have d6:=bj.out;obtain⟨ag,ah,b5,cq,ct,cu,cv,d8,d9,da,ai,aj,b8,d1,d2,d3,d7,db,dr,dv⟩:=Zg σ.out;have ea:=bg.out;have eu:=bh.out;have gz:=bu.out;have hu:=bv.out;obtain⟨ap,ar,al,bk,bl,bm,bn,dz,e0,e3,au,av,b7,bo,bp,bq,br,e4,e5,e6⟩:=Zg a0.out)|((with_reducible refine Qf (f:=28) rfl ?_);refine Qt (some 12) rfl rfl Try.func28 kr rfl #[.agg #[.int .i64 B,.int .i64 J,.int .i64 O,.int .i64 X,.int .i64 Y,.int .i64 Z,.int .i64 γ,.int .i64 ζ,.int .i64 θ,.int .i64 η],.agg #[.int .i64 δ,.int .i64 ε,.int .i64 ι,.int .i64 μ,.int .i64 κ,.int .i64 ν,.int .i64 ξ,.int .i64 ψ,.bool a1,.bool a2]] rfl qM ?_;(with_reducible refine(group_lift.calls k B J O X Y Z γ ζ θ η δ ε ι μ κ ν ξ ψ a1 a2 true _ A5.out).mono ?_);rintro e bb ⟨rfl,hb⟩;refine⟨_,rfl, ?_⟩;replace σ:=sBk σ hb;replace a0:=sBk a0 hb;replace a5:=sBk a5 hb;replace af:=sBk af hb;replace HB:=sHb hb;(try clear hb);(try clear a4);(try clear hk);(try clear hi);obtain⟨ay,az,cd,fi,fj,fk,fl,gf,h0,h4,b0,b1,ce,fm,fn,fo,fp,h5,h6,h7⟩:=Zg σ.out;have en:=ca.out;have eo:=cb.out;obtain⟨b9,cf,dd,cj,ck,dk⟩:=qD3 a5.out)|(go_at_call 29;(with_reducible refine(collect_Check.calls k B 0 0 false false (fun k_=>k_<w.heap.size) _ _ φ (fun k_=>k_<w.heap.size) _ _ χ (fun k_=>k_<w.heap.size) _ _ a6 ci _ ?side1 ?side2 ?side3 A7.out).mono ?_);(case side1=>exact Kd.Ve cn.out (Kd.Xy (Kd.C_F (Kd.X5 .i64) cm.out) (by repeat(first|(with_reducible first|exact HB.out|apply Qo|apply Qi|apply Qg|refine Qr ?_ d4.out|refine Qr ?_ de.out|refine Qr ?_ dh.out|refine Qr ?_ dl.out)|exact HB.out))));(case side2=>exact Kd.Ve cp.out (Kd.Xy (Kd.C_F (Kd.X5 .i64) co.out) (by repeat(first|(with_reducible first|exact HB.out|apply Qo|apply Qi|apply Qg|refine Qr ?_ d4.out|refine Qr ?_ de.out|refine Qr ?_ dh.out|refine Qr ?_ dl.out)|exact HB.out))));(case side3=>exact Kd.Ve du.out (Kd.Xy (Kd.C_F (Kd.X5 .i64) dt.out) (by repeat(first|(with_reducible first|exact HB.out|apply Qo|apply Qi|apply Qg|refine Qr ?_ d4.out|refine Qr ?_ de.out|refine Qr ?_ dh.out|refine Qr ?_ dl.out)|exact HB.out))));rintro e di ⟨rfl,hb⟩;have ρ:=aK (Qz (g:=cx) (o:=.cells #[.int .i64 B,.int .i64 J,.int .i64 O,.int .i64 X,.int .i64 Y,.int .i64 Z,.int .i64 γ,.int .i64 ζ,.int .i64 θ,.int .i64 η] 25 (0,0)) (by(with_reducible repeat first|refine Qm ?_ _|refine Qd ?_|refine Ql ?_ _);exact σ.out) hb);have τ :=aK (Qz (g:=dc) (o:=.cells #[.int .i64 δ,.int .i64 ε,.int .i64 ι,.int .i64 μ,.int .i64 κ,.int .i64 ν,.int .i64 ξ,.int .i64 ψ,.bool a1,.bool a2] 31 (0,0)) (by(with_reducible repeat first|refine Qm ?_ _|refine Qd ?_|refine Ql ?_ _);exact a0.out) hb);have ω :=aK (Qz (g:=df) (o:=.cells #[.slice aa φ.length ab,.slice ac χ.length ae,.slice ak a6.length am] 34 (0,0)) (by(with_reducible repeat first|refine Qm ?_ _|refine Qd ?_|refine Ql ?_ _);exact a5.out) hb);have a3:=aK (Qz (g:=dj) (o:=.cells #[.int .i64 a7,.int .i64 a8,.int .i64 a9] 36 (0,0)) (by(with_reducible repeat first|refine Qm ?_ _|refine Qd ?_|refine Ql ?_ _);exact af.out) hb);have an:=aK (Q2 (by repeat(first|(with_reducible first|exact HB.out|apply Qo|apply Qi|apply Qg|refine Qr ?_ d4.out|refine Qr ?_ de.out|refine Qr ?_ dh.out|refine Qr ?_ dl.out)|exact HB.out)) hb);clear σ;clear a0;clear a5;clear af;clear HB;have σ:=ρ;have a0:= τ;have a5:= ω;have af:=a3;have HB:=an;clear ρ τ ω a3 an;(try clear hb);(try clear a4);(try clear hk);(try clear hi);obtain⟨fq,gi,gj,jj,jk,jm,jn,kq,l4,l5,fr,gk,gl,jp,jq,jr,js,lh,ll,lm⟩:=Zg σ.out;obtain⟨ff,iz,j4,j5,ja,jl⟩:=qD3 af.out)|(go_at_call 30;(with_reducible refine(group_hall.calls k B 8 a7 a8 a9 true _ A9.out).mono ?_);rintro e e8 ⟨rfl,hb⟩;have ρ:=aK (Qz (g:=cx) (o:=.cells #[.int .i64 B,.int .i64 J,.int .i64 O,.int .i64 X,.int .i64 Y,.int .i64 Z,.int .i64 γ,.int .i64 ζ,.int .i64 θ,.int .i64 η] 25 (0,0)) (by(with_reducible repeat first|refine Qm ?_ _|refine Qd ?_|refine Ql ?_ _);exact σ.out) hb);have τ :=aK (Qz (g:=dc) (o:=.cells #[.int .i64 δ,.int .i64 ε,.int .i64 ι,.int .i64 μ,.int .i64 κ,.int .i64 ν,.int .i64 ξ,.int .i64 ψ,.bool a1,.bool a2] 31 (0,0)) (by(with_reducible repeat first|refine Qm ?_ _|refine Qd ?_|refine Ql ?_ _);exact a0.out) hb);have ω :=aK (Qz (g:=df) (o:=.cells #[.slice aa φ.length ab,.slice ac χ.length ae,.slice ak a6.length am] 34 (0,0)) (by(with_reducible repeat first|refine Qm ?_ _|refine Qd ?_|refine Ql ?_ _);exact a5.out) hb);have a3:=aK (Qz (g:=dj) (o:=.cells #[.int .i64 a7,.int .i64 a8,.int .i64 a9] 36 (0,0)) (by(with_reducible repeat first|refine Qm ?_ _|refine Qd ?_|refine Ql ?_ _);exact af.out) hb);have an:=aK (Q2 (by repeat(first|(with_reducible first|exact HB.out|apply Qo|apply Qi|apply Qg|refine Qr ?_ d4.out|refine Qr ?_ de.out|refine Qr ?_ dh.out|refine Qr ?_ dl.out)|exact HB.out)) hb);clear σ;clear a0;clear a5;clear af;clear HB;have σ:=ρ;have a0:= τ;have a5:= ω;have af:=a3;have HB:=an;clear ρ τ ω a3 an;(try clear hb);(try clear a4);(try clear hk);(try clear hi);obtain⟨dm,dn,ew,i9,ia,ib,iu,fu,fv,fw,dp,dq,ey,iv,iw,ix,iy,fx,fy,fz⟩:=Zg σ.out;obtain⟨gm,gn,gp,ik,il,im,io,jt,ju,jv,gq,gr,gs,ip,iq,ir,it,jw,kb,kc⟩:=Zg a0.out;obtain⟨d0,eb,fh,ec,ed,gg⟩:=qD3 a5.out;obtain⟨gb,gt,gu,ge,gv,gw⟩:=qD3 af.out)|((with_reducible refine Qf (f:=31) rfl ?_);refine Qt (some 34) rfl rfl Try.func31 kr rfl #[.agg #[.int .i64 B,.int .i64 J,.int .i64 O,.int .i64 X,.int .i64 Y,.int .i64 Z,.int .i64 γ,.int .i64 ζ,.int .i64 θ,.int .i64 η],.agg #[.int .i64 δ,.int .i64 ε,.int .i64 ι,.int .i64 μ,.int .i64 κ,.int .i64 ν,.int .i64 ξ,.int .i64 ψ,.bool a1,.bool a2],.agg #[.slice aa φ.length ab,.slice ac χ.length ae,.slice ak a6.length am],.agg #[.int .i64 a7,.int .i64 a8,.int .i64 a9]] rfl qM ?_;(with_reducible refine(group_cost.calls k B J O X Y Z γ ζ θ η δ ε ι μ κ ν ξ ψ a1 a2 _ _ φ _ _ χ _ _ a6 a7 a8 a9 ej _ ?side1 ?side2 ?side3 ?side4 ?side5 ?side6 cy.out).mono ?_);(case side1=>exact(Kd.Qs cm.out HB.out));(case side2=>exact cn.out);(case side3=>exact(Kd.Qs co.out HB.out));(case side4=>exact cp.out);(case side5=>exact(Kd.Qs dt.out HB.out));(case side6=>exact du.out);rintro e jo ⟨rfl,hb⟩;refine⟨_,rfl, ?_⟩;replace σ:=sBk σ hb;replace a0:=sBk a0 hb;replace a5:=sBk a5 hb;replace af:=sBk af hb;replace HB:=sHb hb;(try clear hb);(try clear a4);(try clear hk);(try clear hi)))
    go_ret2
    exact⟨rfl,HB.out⟩
   ·replace c10:=Bool.eq_false_iff.mpr c10
    subst c10
    rw[if_neg nft] at H
    simp only[Option.some.injEq,Prod.mk.injEq] at H
    obtain⟨rfl,rfl⟩:=H
    go_enter Try.func10,Try.ntmps10
    go_wp2_with (first|((with_reducible refine Qe (N:=4) rfl ?_);refine qE 4 #[.int .i64 B,.int .i64 J,.int .i64 O,.int .i64 X,.int .i64 Y,.int .i64 Z,.int .i64 γ,.int .i64 ζ,.int .i64 θ,.int .i64 η] 25 ?_;intro cx hg h9 hbox hb;have σ:=aK hbox;have ek:=sGe hg;have d4:=sGe hg;replace HB:=sHb hb;clear hb hbox hg)|((with_reducible refine Qe (N:=5) rfl ?_);refine qE 5 #[.int .i64 δ,.int .i64 ε,.int .i64 ι,.int .i64 μ,.int .i64 κ,.int .i64 ν,.int .i64 ξ,.int .i64 ψ,.bool a1,.bool a2] 31 ?_;intro dc hg fc hbox hb;have a0:=aK hbox;have el:=sGe hg;have de:=sGe hg;have ao:=sNl σ hg;have b2:=sNg σ hg;replace σ:=sBk σ hb;replace HB:=sHb hb;clear hb hbox hg)|((with_reducible refine Qe (N:=6) rfl ?_);refine qE 6 #[.slice aa φ.length ab,.slice ac χ.length ae,.slice ak a6.length am] 34 ?_;intro df hg ku hbox hb;have a5:=aK hbox;have em:=sGe hg;have dh:=sGe hg;have b6:=sNl σ hg;have bf:=sNg σ hg;have bg:=sNl a0 hg;have bh:=sNg a0 hg;replace σ:=sBk σ hb;replace a0:=sBk a0 hb;replace HB:=sHb hb;clear hb hbox hg)|((with_reducible refine Qe (N:=7) rfl ?_);refine qE 7 #[.int .i64 a7,.int .i64 a8,.int .i64 a9] 36 ?_;intro dj hg gh hbox hb;have af:=aK hbox;have et:=sGe hg;have dl:=sGe hg;have bi:=sNl σ hg;have bj:=sNg σ hg;have bu:=sNl a0 hg;have bv:=sNg a0 hg;have ca:=sNl a5 hg;have cb:=sNg a5 hg;replace σ:=sBk σ hb;replace a0:=sBk a0 hb;replace a5:=sBk a5 hb;replace HB:=sHb hb;clear hb hbox hg;have f8:=ao.out;have fa:=b2.out;have ma:=b6.out;have mb:=bf.out;have ft:=bi.out;have ic:=bj.out;obtain⟨ij,kf,kg,kh,ki,kj,kk,mj,ml,mm,kl,km,kn,ko,kp,ks,kt,mo,mq,mr⟩:=Zg σ.out;have k9:=bg.out;have ka:=bh.out;have gx:=bu.out;have gy:=bv.out;obtain⟨j6,j7,jx,jy,jz,k0,k1,h8,i6,i7,j8,j9,k2,k3,k4,k5,k6,ie,ig,ih⟩:=Zg a0.out)|((with_reducible refine Qf (f:=28) rfl ?_);refine Qt (some 12) rfl rfl Try.func28 kr rfl #[.agg #[.int .i64 B,.int .i64 J,.int .i64 O,.int .i64 X,.int .i64 Y,.int .i64 Z,.int .i64 γ,.int .i64 ζ,.int .i64 θ,.int .i64 η],.agg #[.int .i64 δ,.int .i64 ε,.int .i64 ι,.int .i64 μ,.int .i64 κ,.int .i64 ν,.int .i64 ξ,.int .i64 ψ,.bool a1,.bool a2]] rfl qM ?_;(with_reducible refine(group_lift.calls k B J O X Y Z γ ζ θ η δ ε ι μ κ ν ξ ψ a1 a2 true _ A5.out).mono ?_);rintro e lq ⟨rfl,hb⟩;refine⟨_,rfl, ?_⟩;replace σ:=sBk σ hb;replace a0:=sBk a0 hb;replace a5:=sBk a5 hb;replace af:=sBk af hb;replace HB:=sHb hb;(try clear hb);(try clear a4);(try clear hk);(try clear hi);obtain⟨hh,hj,je,jf,jg,jh,ji,ms,mt,mu,hl,i2,ly,lz,m0,m1,m2,mw,my,nj⟩:=Zg σ.out;have l2:=ca.out;have l3:=cb.out;obtain⟨fg,m3,m4,ii,m5,m6⟩:=qD3 a5.out)|(go_at_call 29;(with_reducible refine(collect_Check.calls k B 0 0 false false (fun k_=>k_<w.heap.size) _ _ φ (fun k_=>k_<w.heap.size) _ _ χ (fun k_=>k_<w.heap.size) _ _ a6 ci _ ?side1 ?side2 ?side3 A7.out).mono ?_);(case side1=>exact Kd.Ve cn.out (Kd.Xy (Kd.C_F (Kd.X5 .i64) cm.out) HB.out));(case side2=>exact Kd.Ve cp.out (Kd.Xy (Kd.C_F (Kd.X5 .i64) co.out) HB.out));(case side3=>exact Kd.Ve du.out (Kd.Xy (Kd.C_F (Kd.X5 .i64) dt.out) HB.out));rintro e qo ⟨rfl,hb⟩;have ρ:=aK (Qz (g:=cx) (o:=.cells #[.int .i64 B,.int .i64 J,.int .i64 O,.int .i64 X,.int .i64 Y,.int .i64 Z,.int .i64 γ,.int .i64 ζ,.int .i64 θ,.int .i64 η] 25 (0,0)) σ.out hb);have τ :=aK (Qz (g:=dc) (o:=.cells #[.int .i64 δ,.int .i64 ε,.int .i64 ι,.int .i64 μ,.int .i64 κ,.int .i64 ν,.int .i64 ξ,.int .i64 ψ,.bool a1,.bool a2] 31 (0,0)) a0.out hb);have ω :=aK (Qz (g:=df) (o:=.cells #[.slice aa φ.length ab,.slice ac χ.length ae,.slice ak a6.length am] 34 (0,0)) a5.out hb);have a3:=aK (Qz (g:=dj) (o:=.cells #[.int .i64 a7,.int .i64 a8,.int .i64 a9] 36 (0,0)) af.out hb);have an:=aK (Q2 HB.out hb);clear σ;clear a0;clear a5;clear af;clear HB;have σ:=ρ;have a0:= τ;have a5:= ω;have af:=a3;have HB:=an;clear ρ τ ω a3 an;(try clear hb);(try clear a4);(try clear hk);(try clear hi);obtain⟨ef,eg,ln,nk,nl,nm,nn,no,np,nq,eh,ei,lp,nr,ns,nt,nu,nv,nw,oo⟩:=Zg σ.out;obtain⟨ga,kd,mz,ke,kv,n0⟩:=qD3 af.out)|(go_at_call 30;(with_reducible refine(group_hall.calls k B 8 a7 a8 a9 false _ A9.out).mono ?_);rintro e mh ⟨rfl,hb⟩;have ρ:=aK (Qz (g:=cx) (o:=.cells #[.int .i64 B,.int .i64 J,.int .i64 O,.int .i64 X,.int .i64 Y,.int .i64 Z,.int .i64 γ,.int .i64 ζ,.int .i64 θ,.int .i64 η] 25 (0,0)) σ.out hb);have τ :=aK (Qz (g:=dc) (o:=.cells #[.int .i64 δ,.int .i64 ε,.int .i64 ι,.int .i64 μ,.int .i64 κ,.int .i64 ν,.int .i64 ξ,.int .i64 ψ,.bool a1,.bool a2] 31 (0,0)) a0.out hb);have ω :=aK (Qz (g:=df) (o:=.cells #[.slice aa φ.length ab,.slice ac χ.length ae,.slice ak a6.length am] 34 (0,0)) a5.out hb);have a3:=aK (Qz (g:=dj) (o:=.cells #[.int .i64 a7,.int .i64 a8,.int .i64 a9] 36 (0,0)) af.out hb);have an:=aK (Q2 HB.out hb);clear σ;clear a0;clear a5;clear af;clear HB;have σ:=ρ;have a0:= τ;have a5:= ω;have af:=a3;have HB:=an;clear ρ τ ω a3 an;(try clear hb);(try clear a4);(try clear hk);(try clear hi)))
    go_ret2
    exact⟨rfl,HB.out⟩
  ·rw[if_neg c8] at H
   have c8b0:(ci==0)=false:=beq_eq_false_iff_ne.mpr c8
   have c8b1:(ci != 0)=true:=bne_iff_ne.mpr c8
   simp only[Option.some.injEq,Prod.mk.injEq] at H
   obtain⟨rfl,rfl⟩:=H
   go_enter Try.func10,Try.ntmps10
   go_wp2_with (first|((with_reducible refine Qe (N:=4) rfl ?_);refine qE 4 #[.int .i64 B,.int .i64 J,.int .i64 O,.int .i64 X,.int .i64 Y,.int .i64 Z,.int .i64 γ,.int .i64 ζ,.int .i64 θ,.int .i64 η] 25 ?_;intro cx hg ev hbox hb;have σ:=aK hbox;have ek:=sGe hg;have d4:=sGe hg;replace HB:=sHb hb;clear hb hbox hg)|((with_reducible refine Qe (N:=5) rfl ?_);refine qE 5 #[.int .i64 δ,.int .i64 ε,.int .i64 ι,.int .i64 μ,.int .i64 κ,.int .i64 ν,.int .i64 ξ,.int .i64 ψ,.bool a1,.bool a2] 31 ?_;intro dc hg bs hbox hb;have a0:=aK hbox;have el:=sGe hg;have de:=sGe hg;have ao:=sNl σ hg;have b2:=sNg σ hg;replace σ:=sBk σ hb;replace HB:=sHb hb;clear hb hbox hg)|((with_reducible refine Qe (N:=6) rfl ?_);refine qE 6 #[.slice aa φ.length ab,.slice ac χ.length ae,.slice ak a6.length am] 34 ?_;intro df hg mi hbox hb;have a5:=aK hbox;have em:=sGe hg;have dh:=sGe hg;have b6:=sNl σ hg;have bf:=sNg σ hg;have bg:=sNl a0 hg;have bh:=sNg a0 hg;replace σ:=sBk σ hb;replace a0:=sBk a0 hb;replace HB:=sHb hb;clear hb hbox hg)|((with_reducible refine Qe (N:=7) rfl ?_);refine qE 7 #[.int .i64 a7,.int .i64 a8,.int .i64 a9] 36 ?_;intro dj hg ql hbox hb;have af:=aK hbox;have et:=sGe hg;have dl:=sGe hg;have bi:=sNl σ hg;have bj:=sNg σ hg;have bu:=sNl a0 hg;have bv:=sNg a0 hg;have ca:=sNl a5 hg;have cb:=sNg a5 hg;replace σ:=sBk σ hb;replace a0:=sBk a0 hb;replace a5:=sBk a5 hb;replace HB:=sHb hb;clear hb hbox hg;have mc:=ao.out;have me:=b2.out;have i0:=b6.out;have i1:=bf.out;have lb:=bi.out;have lc:=bj.out;obtain⟨f7,jb,n2,n3,na,nb,nc,oq,ou,ov,jc,jd,nd,nf,ng,nh,ni,ow,ox,oy⟩:=Zg σ.out;have lf:=bg.out;have lg:=bh.out;have ha:=bu.out;have he:=bv.out;obtain⟨kw,kx,n1,nx,ny,nz,o0,oz,p0,p1,ky,kz,o1,o2,o3,o4,o5,p5,p6,p7⟩:=Zg a0.out)|((with_reducible refine Qf (f:=28) rfl ?_);refine Qt (some 12) rfl rfl Try.func28 kr rfl #[.agg #[.int .i64 B,.int .i64 J,.int .i64 O,.int .i64 X,.int .i64 Y,.int .i64 Z,.int .i64 γ,.int .i64 ζ,.int .i64 θ,.int .i64 η],.agg #[.int .i64 δ,.int .i64 ε,.int .i64 ι,.int .i64 μ,.int .i64 κ,.int .i64 ν,.int .i64 ξ,.int .i64 ψ,.bool a1,.bool a2]] rfl qM ?_;(with_reducible refine(group_lift.calls k B J O X Y Z γ ζ θ η δ ε ι μ κ ν ξ ψ a1 a2 true _ A5.out).mono ?_);rintro e ot ⟨rfl,hb⟩;refine⟨_,rfl, ?_⟩;replace σ:=sBk σ hb;replace a0:=sBk a0 hb;replace a5:=sBk a5 hb;replace af:=sBk af hb;replace HB:=sHb hb;(try clear hb);(try clear a4);(try clear hk);(try clear hi);obtain⟨o6,o7,o8,o9,oa,ob,oc,p8,p9,pa,od,oe,oh,oi,oj,ol,om,pb,pc,pd⟩:=Zg σ.out;have l6:=ca.out;have l7:=cb.out;obtain⟨ho,i3,pe,i4,i5,pf⟩:=qD3 a5.out)|(go_at_call 29;(with_reducible refine(collect_Check.calls k B 0 0 false false (fun k_=>k_<w.heap.size) _ _ φ (fun k_=>k_<w.heap.size) _ _ χ (fun k_=>k_<w.heap.size) _ _ a6 ci _ ?side1 ?side2 ?side3 A7.out).mono ?_);(case side1=>exact Kd.Ve cn.out (Kd.Xy (Kd.C_F (Kd.X5 .i64) cm.out) HB.out));(case side2=>exact Kd.Ve cp.out (Kd.Xy (Kd.C_F (Kd.X5 .i64) co.out) HB.out));(case side3=>exact Kd.Ve du.out (Kd.Xy (Kd.C_F (Kd.X5 .i64) dt.out) HB.out));rintro e qi ⟨rfl,hb⟩;have ρ:=aK (Qz (g:=cx) (o:=.cells #[.int .i64 B,.int .i64 J,.int .i64 O,.int .i64 X,.int .i64 Y,.int .i64 Z,.int .i64 γ,.int .i64 ζ,.int .i64 θ,.int .i64 η] 25 (0,0)) σ.out hb);have τ :=aK (Qz (g:=dc) (o:=.cells #[.int .i64 δ,.int .i64 ε,.int .i64 ι,.int .i64 μ,.int .i64 κ,.int .i64 ν,.int .i64 ξ,.int .i64 ψ,.bool a1,.bool a2] 31 (0,0)) a0.out hb);have ω :=aK (Qz (g:=df) (o:=.cells #[.slice aa φ.length ab,.slice ac χ.length ae,.slice ak a6.length am] 34 (0,0)) a5.out hb);have a3:=aK (Qz (g:=dj) (o:=.cells #[.int .i64 a7,.int .i64 a8,.int .i64 a9] 36 (0,0)) af.out hb);have an:=aK (Q2 HB.out hb);clear σ;clear a0;clear a5;clear af;clear HB;have σ:=ρ;have a0:= τ;have a5:= ω;have af:=a3;have HB:=an;clear ρ τ ω a3 an;(try clear hb);(try clear a4);(try clear hk);(try clear hi)))
   go_ret2
   exact⟨rfl,HB.out⟩
 ·replace c6:=Bool.eq_false_iff.mpr c6
  subst c6
  rw[if_neg nft] at H
  simp only[Option.some.injEq,Prod.mk.injEq] at H
  obtain⟨rfl,rfl⟩:=H
  go_enter Try.func10,Try.ntmps10
  go_wp2_with (first|((with_reducible refine Qe (N:=4) rfl ?_);refine qE 4 #[.int .i64 B,.int .i64 J,.int .i64 O,.int .i64 X,.int .i64 Y,.int .i64 Z,.int .i64 γ,.int .i64 ζ,.int .i64 θ,.int .i64 η] 25 ?_;intro cx hg qj hbox hb;have σ:=aK hbox;have ek:=sGe hg;have d4:=sGe hg;replace HB:=sHb hb;clear hb hbox hg)|((with_reducible refine Qe (N:=5) rfl ?_);refine qE 5 #[.int .i64 δ,.int .i64 ε,.int .i64 ι,.int .i64 μ,.int .i64 κ,.int .i64 ν,.int .i64 ξ,.int .i64 ψ,.bool a1,.bool a2] 31 ?_;intro dc hg qm hbox hb;have a0:=aK hbox;have el:=sGe hg;have de:=sGe hg;have ao:=sNl σ hg;have b2:=sNg σ hg;replace σ:=sBk σ hb;replace HB:=sHb hb;clear hb hbox hg)|((with_reducible refine Qe (N:=6) rfl ?_);refine qE 6 #[.slice aa φ.length ab,.slice ac χ.length ae,.slice ak a6.length am] 34 ?_;intro df hg qn hbox hb;have a5:=aK hbox;have em:=sGe hg;have dh:=sGe hg;have b6:=sNl σ hg;have bf:=sNg σ hg;have bg:=sNl a0 hg;have bh:=sNg a0 hg;replace σ:=sBk σ hb;replace a0:=sBk a0 hb;replace HB:=sHb hb;clear hb hbox hg)|((with_reducible refine Qe (N:=7) rfl ?_);refine qE 7 #[.int .i64 a7,.int .i64 a8,.int .i64 a9] 36 ?_;intro dj hg qk hbox hb;have af:=aK hbox;have et:=sGe hg;have dl:=sGe hg;have bi:=sNl σ hg;have bj:=sNg σ hg;have bu:=sNl a0 hg;have bv:=sNg a0 hg;have ca:=sNl a5 hg;have cb:=sNg a5 hg;replace σ:=sBk σ hb;replace a0:=sBk a0 hb;replace a5:=sBk a5 hb;replace HB:=sHb hb;clear hb hbox hg;have mf:=ao.out;have mg:=b2.out;have fb:=b6.out;have fe:=bf.out;have hx:=bi.out;have hy:=bj.out;obtain⟨lv,lw,lx,pg,pi,pj,pk,pm,pn,po,m7,m8,m9,pp,pq,pr,pt,pu,pv,pw⟩:=Zg σ.out;have ls:=bg.out;have lu:=bh.out;have l8:=bu.out;have l9:=bv.out;obtain⟨px,py,pz,q0,q1,q2,q3,q4,q5,q6,q7,q8,q9,qa,qb,qd,qe,qf,qg,qh⟩:=Zg a0.out)|((with_reducible refine Qf (f:=28) rfl ?_);refine Qt (some 12) rfl rfl Try.func28 kr rfl #[.agg #[.int .i64 B,.int .i64 J,.int .i64 O,.int .i64 X,.int .i64 Y,.int .i64 Z,.int .i64 γ,.int .i64 ζ,.int .i64 θ,.int .i64 η],.agg #[.int .i64 δ,.int .i64 ε,.int .i64 ι,.int .i64 μ,.int .i64 κ,.int .i64 ν,.int .i64 ξ,.int .i64 ψ,.bool a1,.bool a2]] rfl qM ?_;(with_reducible refine(group_lift.calls k B J O X Y Z γ ζ θ η δ ε ι μ κ ν ξ ψ a1 a2 false _ A5.out).mono ?_);rintro e qp ⟨rfl,hb⟩;refine⟨_,rfl, ?_⟩;replace σ:=sBk σ hb;replace a0:=sBk a0 hb;replace a5:=sBk a5 hb;replace af:=sBk af hb;replace HB:=sHb hb;(try clear hb);(try clear a4);(try clear hk);(try clear hi)))
  go_ret2
  exact⟨rfl,HB.out⟩
end Go.Proofs.Ytmfffemidlhcpaa.C
