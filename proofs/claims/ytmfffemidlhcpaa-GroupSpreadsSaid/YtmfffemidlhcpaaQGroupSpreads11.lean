/- What this law's functions come to, walked; what that is, in plain Lean. No conditions of its own. -/
import Derived.Test.YtmfffemidlhcpaaQGroupSpreads10
import Derived.WalkSpells
set_option linter.unusedSimpArgs false
set_option linter.unusedVariables false
set_option maxHeartbeats 8000000
set_option maxRecDepth 100000
namespace Go.Proofs.Ytmfffemidlhcpaa.C
open Go.RowKit Go.Proofs.YtmfffemidlhcpaaW.PrintWords Go.Proofs.YtmfffemidlhcpaaW.PrintLast Go.Proofs.YtmfffemidlhcpaaW.PrintMore
attribute [local go_sem] Z2 Z0 Xb Xa Zt Zs Z1 Zz
def api_Hall_88.f (l0:List S36):Option (List S36):=if l0.length<1000000000 then some l0 else none
theorem api_Hall_88.calls (A0:Option Addr) (c0:Nat) (l0:List S36) (r:List S36) (w:World) (ε :Kd.C k36 w A0 l0.length l0) (Y:l0.length≤c0) (h:api_Hall_88.f l0=some r):
 Calls Try.prog 88 #[.slice A0 l0.length c0] w fun e w'=>∃ b3:Value,e = .returned b3∧Kd.R k36 36 w' w.heap.size (fun _=>True) b3 r∧Below w.heap.size w w':=by
 unfold api_Hall_88.f at h
 split at h
 case isFalse=>cases h
 case isTrue hl=>
 cases h
 have HR:=aK ε
 have HC:=aK Y
 have HL:=aK hl
 have HB:=aK (Below.refl w.heap.size w)
 have hn:A0=none→l0 = []:=by
  intro hA
  rcases Nat.eq_zero_or_pos l0.length with h|h
  ·exact List.eq_nil_of_length_eq_zero h
  ·obtain⟨ad,e,_⟩:= ε.2.2 h
   rw[hA] at e
   cases e
 clear ε Y hl
 have hEq:∀ (W:World),(binOp .eql 47 (.slice A0 l0.length c0) (.slice none 0 0)).run Try.prog W = .ok (.bool A0.isNone) W:=fun W=>Lib.run_eql_slice_nil W _ _ _ _ _ _ _ Try.underlying47
 rcases A0 with _|ad
 ·have Z:=aK (hn rfl)
  clear hn
  go_enter Try.func88,Try.ntmps88
  go_wp2
  go_ret
  rw[Z.out]
  exact⟨_,rfl,Kd.Xy _ _ _ _ _,HB.out⟩
 ·clear hn
  go_enter Try.func88,Try.ntmps88
  go_wp2_with (first|((with_reducible refine Qe (N:=5) rfl ?_);refine Kd.Ue k36 _ 36 ?hg (N:=5) ?hd (xs:=([]:List S36)) (inner:=[]) (ok:=fun _=>True) (okp:=fun _=>True) ?hr ?hp (fun _ hk=>hk) trivial (Below.refl _ _) (Nat.le_refl _) (by simp) ?_;(case hd=>rfl);(case hg=>rfl);(case hr=>first|(go_simp;done)|(go_simp;rfl));(case hp=>exact(Reps.none _ _));intro v1 w1 aj J hg_ hnew_;clear hg_ hnew_;have HO:=aK aj;have O:=aK J;clear aj J)|((with_reducible refine Z3 (b:=.append) (xs:=#[.tmp 5,.tmp 6]) rfl ?_);at_builtin;refine Kd.Kw k36 (w0:=w) w.heap.size rfl (.tmp 5) (.tmp 6) 47 36 (.agg #[(nI 0),(nI 0),(nI 0)]) 24 rfl Try.underlying47 Y7 rfl (by decide) (by omega) v1 [] l0 _ _ _ (fun _=>True) (fun _=>False) rfl rfl ?aO ?aR (fun _ _ h=>h) (fun _ h=>h.elim) ?aF ?aB ?aS ?aL ?_;(case aR=>exact(Kd.Qw HR.out O.out));(case aB=>exact O.out);(case aF=>exact(fun _ _=>trivial));(case aO=>exact HO.out);(case aS=>exact Qm O.out);(case aL=>have:=HL.out;simp only[List.length_nil];omega);intro v2 w2 ho hb hg hat;clear hg hat))
  go_ret
  exact⟨_,rfl,by simpa using ho,hb⟩
def api_Inside_91.f (l0:List S86):Option (List S86):=if l0.length<1000000000 then some l0 else none
theorem api_Inside_91.calls (A0:Option Addr) (c0:Nat) (l0:List S86) (r:List S86) (w:World) (ε :Kd.C k86 w A0 l0.length l0) (Y:l0.length≤c0) (h:api_Inside_91.f l0=some r):
 Calls Try.prog 91 #[.slice A0 l0.length c0] w fun e w'=>∃ b3:Value,e = .returned b3∧Kd.R k86 86 w' w.heap.size (fun _=>True) b3 r∧Below w.heap.size w w':=by
 unfold api_Inside_91.f at h
 split at h
 case isFalse=>cases h
 case isTrue hl=>
 cases h
 have HR:=aK ε
 have HC:=aK Y
 have HL:=aK hl
 have HB:=aK (Below.refl w.heap.size w)
 have hn:A0=none→l0 = []:=by
  intro hA
  rcases Nat.eq_zero_or_pos l0.length with h|h
  ·exact List.eq_nil_of_length_eq_zero h
  ·obtain⟨ad,e,_⟩:= ε.2.2 h
   rw[hA] at e
   cases e
 clear ε Y hl
 have hEq:∀ (W:World),(binOp .eql 48 (.slice A0 l0.length c0) (.slice none 0 0)).run Try.prog W = .ok (.bool A0.isNone) W:=fun W=>Lib.run_eql_slice_nil W _ _ _ _ _ _ _ Try.underlying48
 rcases A0 with _|ad
 ·have Z:=aK (hn rfl)
  clear hn
  go_enter Try.func91,Try.ntmps91
  go_wp2
  go_ret
  rw[Z.out]
  exact⟨_,rfl,Kd.Xy _ _ _ _ _,HB.out⟩
 ·clear hn
  go_enter Try.func91,Try.ntmps91
  go_wp2_with (first|((with_reducible refine Qe (N:=5) rfl ?_);refine Kd.Ue k86 _ 86 ?hg (N:=5) ?hd (xs:=([]:List S86)) (inner:=[]) (ok:=fun _=>True) (okp:=fun _=>True) ?hr ?hp (fun _ hk=>hk) trivial (Below.refl _ _) (Nat.le_refl _) (by simp) ?_;(case hd=>rfl);(case hg=>rfl);(case hr=>first|(go_simp;done)|(go_simp;rfl));(case hp=>exact(Reps.none _ _));intro v1 w1 aj J hg_ hnew_;clear hg_ hnew_;have HO:=aK aj;have O:=aK J;clear aj J)|((with_reducible refine Z3 (b:=.append) (xs:=#[.tmp 5,.tmp 6]) rfl ?_);at_builtin;refine Kd.Kw k86 (w0:=w) w.heap.size rfl (.tmp 5) (.tmp 6) 48 86 (.agg #[(nI 0),(nI 0)]) 16 rfl Try.underlying48 Gt rfl (by decide) (by omega) v1 [] l0 _ _ _ (fun _=>True) (fun _=>False) rfl rfl ?aO ?aR (fun _ _ h=>h) (fun _ h=>h.elim) ?aF ?aB ?aS ?aL ?_;(case aR=>exact(Kd.Qw HR.out O.out));(case aB=>exact O.out);(case aF=>exact(fun _ _=>trivial));(case aO=>exact HO.out);(case aS=>exact Qm O.out);(case aL=>have:=HL.out;simp only[List.length_nil];omega);intro v2 w2 ho hb hg hat;clear hg hat))
  go_ret
  exact⟨_,rfl,by simpa using ho,hb⟩
def woI (B J:Int) (l:List S86):List S86:=l.filter (fun y=> !(Yv B J y.f0 y.f1==0))
theorem Ug (A:Option Addr) (c:Nat) (l:List S86) (B J:Int) (w:World) (hr:Kd.C k86 w A l.length l) (hc:l.length≤c) (hl:l.length<1000000000) (γ: -9223372036854775808≤J∧J≤9223372036854775807):
 Calls Try.prog 75 #[.agg #[.slice A l.length c,.func (.func 83) #[] #[]],.agg #[nI B,nI J]] w fun e w'=>∃ b3:Value,e = .returned b3∧Kd.R k86 86 w' w.heap.size (fun _=>True) b3 (woI B J l)∧Below w.heap.size w w':=by
 have HR:=aK hr
 have HC:=aK hc
 have HF:=aK (show api_Inside_91.f l=some l by unfold api_Inside_91.f;rw[if_pos hl])
 have HB:=aK (Below.refl w.heap.size w)
 have HD:=aK (show api_Inside_90.f (l.length+6) l (tok B J)=some (woI B J l) by
  rw[Call.Cc l (tok B J) (by omega) _ (by omega)]
  show some (l.filter (fun y=> !(Yv (Y4 (tok B J)) (Y3 (tok B J)) y.f0 y.f1==0)))=_
  rw[K6 B J γ,K5 B J γ]
  rfl)
 have T1:=aK (K6 B J γ)
 have T2:=aK (K5 B J γ)
 clear hr hc hl γ
 go_enter Try.func75,Try.ntmps75
 go_wp2_with (first|((with_reducible refine Qe (N:=2) rfl ?_);refine Zj ?hg (N:=2) ?hd (cs:=#[.slice A l.length c,.func (.func 83) #[] #[]]) (t:=116) ?hr ?_;(case hd=>rfl);(case hg=>rfl);(case hr=>first|(go_simp;done)|(go_simp;rfl));intro g2 hg_ w2 hbox hb;have φ :=aK (Q6 HB.out hb);have χ :=aK hbox;clear HB;have HB:= φ;have O:= χ;clear φ χ;clear hb hbox hg_)|((with_reducible refine Qe (N:=3) rfl ?_);refine Zj ?hg (N:=3) ?hd (cs:=#[nI B,nI J]) (t:=86) ?hr ?_;(case hd=>rfl);(case hg=>rfl);(case hr=>first|(go_simp;done)|(go_simp;rfl));intro g3 hg_ w3 hbox hb;have Y:=aK (Q1 (g:=g2) (o:=.cells #[.slice A l.length c,.func (.func 83) #[] #[]] 116 (0,0)) O.out hb);have φ :=aK (Q6 HB.out hb);have χ :=aK hbox;clear HB O;have HB:= φ;have X:= χ;have O:=Y;clear φ χ Y;clear hb hbox hg_;have Z:w3.cell? ⟨g2,0,none⟩=some (.slice A l.length c):=(Qa O.out 0).trans rfl;have δ :w3.cell? ⟨g2,1,none⟩=some (.func (.func 83) #[] #[]):=(Qa O.out 1).trans rfl)|(go_at_call 91;((with_reducible refine(api_Inside_91.calls A c l l _ ?side1 ?side2 HF.out).mono ?_);(case side1=>exact Kd.Qw HR.out HB.out);(case side2=>exact HC.out);rintro e w4 ⟨v4,rfl,ai,hb⟩;have η :=aK (Nat.not_le.2 (Xl O.out));have θ :=aK (Nat.not_le.2 (Xl X.out));have Y:=aK (Kd.Za (Kd.Qv (Kd.X2 ai) (fun k_ hk=>hk.2.1)) HB.out.size);have ε :=aK (Q1 (g:=g2) (o:=.cells #[.slice A l.length c,.func (.func 83) #[] #[]] 116 (0,0)) O.out hb);have ζ :=aK (Q1 (g:=g3) (o:=.cells #[nI B,nI J] 86 (0,0)) X.out hb);have φ :=aK (Q6 HB.out hb);clear HB O X;have HB:= φ;have O:= ε;have X:= ζ;have HO:=Y;clear φ Y ε ζ hb ai))|(go_at_call 90;((with_reducible refine(api_Inside_90.calls (l.length+6) _ v4 l (tok B J) _ w w4 HB.out HO.out HD.out A l.length c g2 g3 0 O.out ?hx η.out θ.out).mono ?_);(case hx=>rw[T1.out,T2.out];exact X.out);rintro e w5 ⟨v5,rfl,ai,hb,hk⟩;have ι :=aK ai;have κ :=aK hb;clear ai hb hk)))
 go_ret
 exact⟨_,rfl,Kd.Qv ι.out (fun _ _=>trivial),κ.out⟩
theorem Ky (A0 A1:Option Addr) (J X c0 c1:Nat) (w:World):
 Calls Try.prog 63 #[.agg #[.slice A0 J c0,.slice A1 X c1]] w fun e w'=>e = .returned (.agg #[.slice A0 J c0,.func (.func 79) #[] #[]])∧Below w.heap.size w w':=by
 have HB:=aK (Below.refl w.heap.size w)
 go_enter Try.func63,Try.ntmps63
 go_wp2_with (first|((with_reducible refine Qe (N:=1) rfl ?_);refine Zj ?hg (N:=1) ?hd (cs:=#[.slice A0 J c0,.slice A1 X c1]) (t:=50) ?hr ?_;(case hd=>rfl);(case hg=>rfl);(case hr=>first|(go_simp;done)|(go_simp;rfl));intro g1 hg_ w1 hbox hb;have φ :=aK (Q6 HB.out hb);have χ :=aK hbox;clear HB;have HB:= φ;have B:= χ;clear φ χ;clear hb hbox hg_)|((with_reducible refine Qe (N:=2) rfl ?_);refine Zj ?hg (N:=2) ?hd (cs:=#[.slice none 0 0,.nilFunc]) (t:=109) ?hr ?_;(case hd=>rfl);(case hg=>rfl);(case hr=>first|(go_simp;done)|(go_simp;rfl));intro g2 hg_ w2 hbox hb;have GEs:=aK HB.out.size;have GEl:=aK (Xl B.out);have Y:=aK (Q1 (g:=g1) (o:=.cells #[.slice A0 J c0,.slice A1 X c1] 50 (0,0)) B.out hb);have φ :=aK (Q6 HB.out hb);have χ :=aK hbox;clear HB B;have HB:= φ;have O:= χ;have B:=Y;clear φ χ Y;have γ:=aK (by rw[hg_];exact GEs.out:w.heap.size≤g2);have NB:=aK (by rw[hg_];exact Nat.ne_of_lt GEl.out:g1≠g2);clear hb hbox hg_;have hnb:=NB.out;have Z:w2.cell? ⟨g1,0,none⟩=some (.slice A0 J c0):=(Qa B.out 0).trans rfl;have δ :w2.cell? ⟨g1,1,none⟩=some (.slice A1 X c1):=(Qa B.out 1).trans rfl;have ε :w2.cell? ⟨g2,0,none⟩=some (.slice none 0 0):=(Qa O.out 0).trans rfl;have ζ :w2.cell? ⟨g2,1,none⟩=some (.nilFunc):=(Qa O.out 1).trans rfl;have η :=Qg O.out 0;have θ :=Qg O.out 1))
 refine bodyPost_ret (results_cell_row rfl _ _ g2 109 #[.slice A0 J c0,.func (.func 79) #[] #[]] (0,0) _ rfl (by refine Qo (cs:=#[.slice A0 J c0,.nilFunc]) ?_ 1 _ rfl;refine Qo (cs:=#[.slice none 0 0,.nilFunc]) ?_ 0 _ rfl;exact O.out) Try.underlying109 rfl kr) rfl ?_
 exact⟨rfl,Qz (Qz HB.out γ.out) γ.out⟩
theorem Ka (F C:Int) (w:World):
 Calls Try.prog 65 #[.agg #[nI F,nI C]] w fun e w'=>∃ g:Nat,e = .returned (.func (.func 82) #[] #[.pointer (some ⟨g,0,none⟩)])∧w'.heap[g]?=some (.cells #[nI F,nI C] 59 (0,0))∧w.heap.size≤g∧Below w.heap.size w w':=by
 have HB:=aK (Below.refl w.heap.size w)
 go_enter Try.func65,Try.ntmps65
 go_wp2_with (first|((with_reducible refine Qe (N:=1) rfl ?_);refine Zj ?hg (N:=1) ?hd (cs:=#[nI F,nI C]) (t:=59) ?hr ?_;(case hd=>rfl);(case hg=>rfl);(case hr=>first|(go_simp;done)|(go_simp;rfl));intro g1 hg_ w1 hbox hb;have GEs:=aK HB.out.size;have φ :=aK (Q6 HB.out hb);have χ :=aK hbox;clear HB;have HB:= φ;have B:= χ;clear φ χ;have J:=aK (by rw[hg_];exact GEs.out:w.heap.size≤g1);clear hb hbox hg_))
 go_ret
 exact⟨_,rfl,B.out,J.out,HB.out⟩
theorem Vj (A0 A1:Option Addr) (J X c0 c1:Nat) (w:World):
 Calls Try.prog 66 #[.agg #[.slice A0 J c0,.slice A1 X c1]] w fun e w'=>e = .returned (.agg #[.slice A1 X c1,.func (.func 83) #[] #[]])∧Below w.heap.size w w':=by
 have HB:=aK (Below.refl w.heap.size w)
 go_enter Try.func66,Try.ntmps66
 go_wp2_with (first|((with_reducible refine Qe (N:=1) rfl ?_);refine Zj ?hg (N:=1) ?hd (cs:=#[.slice A0 J c0,.slice A1 X c1]) (t:=50) ?hr ?_;(case hd=>rfl);(case hg=>rfl);(case hr=>first|(go_simp;done)|(go_simp;rfl));intro g1 hg_ w1 hbox hb;have φ :=aK (Q6 HB.out hb);have χ :=aK hbox;clear HB;have HB:= φ;have B:= χ;clear φ χ;clear hb hbox hg_)|((with_reducible refine Qe (N:=2) rfl ?_);refine Zj ?hg (N:=2) ?hd (cs:=#[.slice none 0 0,.nilFunc]) (t:=116) ?hr ?_;(case hd=>rfl);(case hg=>rfl);(case hr=>first|(go_simp;done)|(go_simp;rfl));intro g2 hg_ w2 hbox hb;have GEs:=aK HB.out.size;have GEl:=aK (Xl B.out);have Y:=aK (Q1 (g:=g1) (o:=.cells #[.slice A0 J c0,.slice A1 X c1] 50 (0,0)) B.out hb);have φ :=aK (Q6 HB.out hb);have χ :=aK hbox;clear HB B;have HB:= φ;have O:= χ;have B:=Y;clear φ χ Y;have γ:=aK (by rw[hg_];exact GEs.out:w.heap.size≤g2);have NB:=aK (by rw[hg_];exact Nat.ne_of_lt GEl.out:g1≠g2);clear hb hbox hg_;have hnb:=NB.out;have Z:w2.cell? ⟨g1,0,none⟩=some (.slice A0 J c0):=(Qa B.out 0).trans rfl;have δ :w2.cell? ⟨g1,1,none⟩=some (.slice A1 X c1):=(Qa B.out 1).trans rfl;have ε :w2.cell? ⟨g2,0,none⟩=some (.slice none 0 0):=(Qa O.out 0).trans rfl;have ζ :w2.cell? ⟨g2,1,none⟩=some (.nilFunc):=(Qa O.out 1).trans rfl;have η :=Qg O.out 0;have θ :=Qg O.out 1))
 refine bodyPost_ret (results_cell_row rfl _ _ g2 116 #[.slice A1 X c1,.func (.func 83) #[] #[]] (0,0) _ rfl (by refine Qo (cs:=#[.slice A1 X c1,.nilFunc]) ?_ 1 _ rfl;refine Qo (cs:=#[.slice none 0 0,.nilFunc]) ?_ 0 _ rfl;exact O.out) Try.underlying116 rfl kr) rfl ?_
 exact⟨rfl,Qz (Qz HB.out γ.out) γ.out⟩
theorem Ww (F C:Int) (w:World):
 Calls Try.prog 68 #[.agg #[nI F,nI C]] w fun e w'=>∃ g:Nat,e = .returned (.func (.func 84) #[] #[.pointer (some ⟨g,0,none⟩)])∧w'.heap[g]?=some (.cells #[nI F,nI C] 59 (0,0))∧w.heap.size≤g∧Below w.heap.size w w':=by
 have HB:=aK (Below.refl w.heap.size w)
 go_enter Try.func68,Try.ntmps68
 go_wp2_with (first|((with_reducible refine Qe (N:=1) rfl ?_);refine Zj ?hg (N:=1) ?hd (cs:=#[nI F,nI C]) (t:=59) ?hr ?_;(case hd=>rfl);(case hg=>rfl);(case hr=>first|(go_simp;done)|(go_simp;rfl));intro g1 hg_ w1 hbox hb;have GEs:=aK HB.out.size;have φ :=aK (Q6 HB.out hb);have χ :=aK hbox;clear HB;have HB:= φ;have B:= χ;clear φ χ;have J:=aK (by rw[hg_];exact GEs.out:w.heap.size≤g1);clear hb hbox hg_))
 go_ret
 exact⟨_,rfl,B.out,J.out,HB.out⟩
end Go.Proofs.Ytmfffemidlhcpaa.C
namespace Go.Proofs.Ytmfffemidlhcpaa.C
open Go.RowKit Go.Proofs.YtmfffemidlhcpaaW.PrintWords Go.Proofs.YtmfffemidlhcpaaW.PrintLast Go.Proofs.YtmfffemidlhcpaaW.PrintMore
def small (n:Nat) (C:Int):Bool:=decide (n<1000000000 ∧ -9223372036854775808≤C∧C≤9223372036854775807)
def rightP_H.f (O:List S36) (X:List S86) (B J:Int):Option Bool:=if small O.length J=true then some (Call.Zm (fun x=>Xz B J x.f0 x.f1 x.f2) Call.ltH none O) else none
theorem rightP_H.calls (ι :Option Addr) (ζ :Nat) (O:List S36) (κ :Option Addr) (η :Nat) (X:List S86) (B J:Int) (r:Bool) (w:World) (b4:Kd.C k36 w ι O.length O) (b9:O.length ≤ ζ) (ba:Kd.C k86 w κ X.length X) (bb:X.length ≤ η) (h:rightP_H.f O X B J=some r) (g:Nat) (hg:w.heap[g]?=some (.cells #[nI B,nI J] 59 (0,0))):
 Calls Try.prog 64 #[.agg #[.slice ι O.length ζ,.func (.func 79) #[] #[]],.func (.func 82) #[] #[.pointer (some ⟨g,0,none⟩)]] w fun e w'=>e = .returned (.bool r)∧Below w.heap.size w w':=by
 unfold rightP_H.f at h
 split at h
 case isFalse=>cases h
 case isTrue hs=>
 cases h
 obtain⟨hl,hb⟩:=of_decide_eq_true hs
 have e1:=K6 B J hb
 have Y:=K5 B J hb
 refine api_Hall_right.calls (2 * O.length+1) ι ζ O 0 (tok B J) _ w b4 b9 ?_ g ?_
 ·rw[Call.M0 O _ 0 (by omega) _ (by omega),e1,Y]
 ·rw[e1,Y];exact hg
def rightP_I.f (O:List S36) (X:List S86) (B J:Int):Option Bool:=if small X.length J=true then some (Call.Zm (fun x=>Jd B J x.f0 x.f1) Call.ltI none X) else none
theorem rightP_I.calls (ι :Option Addr) (ζ :Nat) (O:List S36) (κ :Option Addr) (η :Nat) (X:List S86) (B J:Int) (r:Bool) (w:World) (b4:Kd.C k36 w ι O.length O) (b9:O.length ≤ ζ) (ba:Kd.C k86 w κ X.length X) (bb:X.length ≤ η) (h:rightP_I.f O X B J=some r) (g:Nat) (hg:w.heap[g]?=some (.cells #[nI B,nI J] 59 (0,0))):
 Calls Try.prog 67 #[.agg #[.slice κ X.length η,.func (.func 83) #[] #[]],.func (.func 84) #[] #[.pointer (some ⟨g,0,none⟩)]] w fun e w'=>e = .returned (.bool r)∧Below w.heap.size w w':=by
 unfold rightP_I.f at h
 split at h
 case isFalse=>cases h
 case isTrue hs=>
 cases h
 obtain⟨hl,hb⟩:=of_decide_eq_true hs
 have e1:=K6 B J hb
 have Y:=K5 B J hb
 refine api_Inside_right.calls (2 * X.length+1) κ η X 0 (tok B J) _ w ba bb ?_ g ?_
 ·rw[Call.Mz X _ 0 (by omega) _ (by omega),e1,Y]
 ·rw[e1,Y];exact hg
end Go.Proofs.Ytmfffemidlhcpaa.C
namespace Go.Proofs.Ytmfffemidlhcpaa.C
open Go.RowKit Go.Proofs.YtmfffemidlhcpaaW.PrintWords Go.Proofs.YtmfffemidlhcpaaW.PrintLast Go.Proofs.YtmfffemidlhcpaaW.PrintMore
attribute [local go_sem] Z2 Z0 Xb Xa Zt Zs Z1 Zz
def api_Hall_set.j0:Nat→List (S36)→Option ((List (S36)))
 |0,_=>none
 |k+1,X=>some X
def api_Hall_set.f (k:Nat) (B:List (S36)) (J:Int) (X:Int) (ζ :Int) (ι :Int):Option ((List (S36))):=(api_Hall_88.f B).bind fun γ=>((api_Hall_89.f k γ X ζ ι J).bind fun δ =>(if δ.2=true then (if 0 ≤ δ.1 then (if δ.1<(γ.length:Int) then (api_Hall_set.j0 k (γ.set (δ.1:Int).toNat (⟨X,ζ,ι⟩:S36))) else (none)) else (none)) else (api_Hall_set.j0 k γ)))
theorem api_Hall_set.calls (k:Nat) (ρ:Option Addr) (μ :Nat) (B:List (S36)) (J:Int) (X:Int) (ζ :Int) (ι :Int) (r:List (S36)) (w:World) (ak:Kd.C k36 w ρ B.length B) (au:B.length ≤ μ) (h:api_Hall_set.f k B J X ζ ι = some r):
 Calls Try.prog 74 #[.agg #[.slice ρ B.length μ,.func (.func 79) #[] #[]],.agg #[nI X,nI ζ,nI ι]] w fun e w'=>∃ b3:Value,e = .returned (b3)∧Kd.R k36 36 w' w.heap.size (fun _=>True) b3 r∧Below w.heap.size w w':=by
 have ce:=Try.underlying109
 have cg:=Try.underlying36
 have av:=aK ak
 have bl:=aK au
 clear ak au
 have HB:=aK (Below.refl w.heap.size w)
 have H:((api_Hall_88.f B).bind fun γ=>((api_Hall_89.f k γ X ζ ι J).bind fun δ =>(if δ.2=true then (if 0 ≤ δ.1 then (if δ.1<(γ.length:Int) then (api_Hall_set.j0 k (γ.set (δ.1:Int).toNat (⟨X,ζ,ι⟩:S36))) else (none)) else (none)) else (api_Hall_set.j0 k γ))))=some r:=h
 clear h
 obtain⟨γ,A3,H⟩:=qQ H
 obtain⟨⟨θ,ξ⟩,A4,H⟩:=qQ H
 replace H:(if ξ = true then (if 0 ≤ θ then (if θ < (γ.length:Int) then (api_Hall_set.j0 k (γ.set (θ :Int).toNat (⟨X,ζ,ι⟩:S36))) else (none)) else (none)) else (api_Hall_set.j0 k γ))=some r:=H
 have b2:=aK H
 clear H
 go_enter Try.func74,Try.ntmps74
 go_upto_if 19 with(first|((with_reducible refine Qe (N:=2) rfl ?_);refine qE 2 #[.slice ρ B.length μ,.func (.func 79) #[] #[]] 109 ?_;intro ah hg w6 hbox hb;have Y:=aK hbox;have bn:=sGe hg;have bo:=sGe hg;replace HB:=sHb hb;clear hb hbox hg)|((with_reducible refine Qe (N:=3) rfl ?_);refine qE 3 #[nI X,nI ζ,nI ι] 36 ?_;intro ω hg w7 hbox hb;have Z:=aK hbox;have bp:=sGe hg;have bq:=sGe hg;have φ :=sNl Y hg;have χ :=sNg Y hg;replace Y:=sBk Y hb;replace HB:=sHb hb;clear hb hbox hg;have ft:= φ.out;have fu:= χ.out;obtain⟨b6,bi,bz,ch⟩:=qD2 Y.out)|((with_reducible refine Qf (f:=88) rfl ?_);refine Q0 (some 10) rfl rfl Try.func88 kr rfl #[.slice ρ B.length μ] rfl qM ?_;(with_reducible refine(api_Hall_88.calls _ _ B γ _ ?side1 ?side2 A3.out).mono ?_);(case side1=>exact(Kd.Qw av.out HB.out));(case side2=>exact bl.out);rintro e fj ⟨ck,rfl,ai,hb⟩;refine⟨_,rfl, ?_⟩;have O:=aK (Kd.Za (Kd.J2 ai (g:= ω) (o:=.cells #[nI X,nI ζ,nI ι] 36 (0,0)) Z.out) (Qm HB.out));replace Y:=sBk Y hb;replace Z:=sBk Z hb;replace HB:=sHb hb;(try clear hb);(try clear a4);(try clear hk);(try clear hi);(try clear ai);obtain⟨ci,cp,bg,cq,cr,bh⟩:=qD3 Z.out;obtain⟨a1,a3,af,ar⟩:=qD2 Y.out;obtain⟨aw,ac,ay⟩:=Kd.Q7 O.out;subst ay)|((with_reducible refine Qf (f:=89) rfl ?_);refine Q0 (some 16) rfl rfl Try.func89 kr rfl #[.slice aw γ.length ac,.agg #[nI X,nI ζ,nI ι],.func (.func 79) #[] #[]] rfl qM ?_;(with_reducible refine(api_Hall_89.calls k _ _ γ X ζ ι J θ ξ _ ?side1 ?side2 A4.out).mono ?_);(case side1=>exact(Kd.Qt O.out).2.2);(case side2=>exact(Kd.Qt O.out).2.1);rintro e cb ⟨rfl,hb⟩;refine⟨_,rfl, ?_⟩;replace O:=sRb O hb;replace Y:=sBk Y hb;replace Z:=sBk Z hb;replace HB:=sHb hb;(try clear hb);(try clear a4);(try clear hk);(try clear hi)))
 (try simp only[Act.put,qS])
 go_cut [] (fun wc=>∃ (kq:Nat) (ap:List (S36)) (a5:Int) (ae:Int) (aj:Int),Aside0 (api_Hall_set.j0 kq ap=some r)∧Aside0 (kq≤k)∧Aside0 (Kd.R k36 36 wc w.heap.size (fun k_=>k_ ≠ ω) (.slice aw γ.length ac) ap)∧Aside0 (wc.heap[ah]?=some (.cells #[(.slice ρ B.length μ),.func (.func 79) #[] #[]] 109 (0,0)))∧Aside0 (wc.heap[ω]?=some (.cells #[nI a5,nI ae,nI aj] 36 (0,0)))∧Aside0 (Below w.heap.size w wc))
 case first=>
  have H:=b2.out
  clear b2
  by_cases a8: ξ = true
  ·subst a8
   rw[if_pos rfl] at H
   by_cases ab:0 ≤ θ
   ·rw[if_pos ab] at H
    have c16b0:=decide_eq_true ab
    clear ab
    (first|rw[c16b0]|(simp only[Zy,Z8];rw[c16b0])|skip)
    by_cases ψ : θ < (γ.length:Int)
    ·rw[if_pos ψ] at H
     have c17b0:=decide_eq_true ψ
     clear ψ
     obtain⟨κ,η⟩:∃ y_:List (S36),y_=(γ.set (θ :Int).toNat (⟨X,ζ,ι⟩:S36)):=⟨_,rfl⟩
     replace H:(api_Hall_set.j0 k κ)=some r:=by first|(rw[η];with_reducible exact H)|(have ag:=(Option.bind_some _ _).symm.trans H;rw[η];with_reducible exact ag)|(have ag:=(Option.bind_some _ _).symm.trans H;with_reducible exact ag)|with_reducible exact H|(rw[η];exact H)|exact H
     have a2:=aK η
     clear η
     have H':=aK H
     clear H
     have ca:= χ.out
     have d9:= φ.out
     obtain⟨a7,a9,τ,aa,an,a6⟩:=qD3 Z.out
     have ax:0≤(θ :Int):=of_decide_eq_true (by assumption)
     have b4:(θ :Int)<((γ.length:Int):Int):=of_decide_eq_true (by assumption)
     obtain⟨ε,d3,bm,b7,bk,cx,b9⟩:=Kd.U2 O.out (by omega)
     (first|cases bm|(injection bm with ea_ en_ ec_;(first|subst ea_|(injection ea_ with ea_;subst ea_));subst ec_;clear en_))
     have al:=aK b7
     have cy:=aK b9
     clear b7 bk b9
     obtain⟨cz,bb,ba,ν,σ⟩:=Kd.J3 O.out z36 (θ :Int) ax b4
     obtain rfl:=Yt ba
     have br:cb.cell? ⟨ε,(θ :Int).toNat * 3,none⟩=some (nI ((Qb γ θ).f0)):= ν 0 _ rfl
     have bs:cb.cell? ⟨ε,(θ :Int).toNat * 3+1,none⟩=some (nI ((Qb γ θ).f1)):= ν 1 _ rfl
     have cf:cb.cell? ⟨ε,(θ :Int).toNat * 3+2,none⟩=some (nI ((Qb γ θ).f2)):= ν 2 _ rfl
     have bv:cb.frozen? ⟨ε,(θ :Int).toNat * 3,none⟩=false:=σ 0
     have bw:cb.frozen? ⟨ε,(θ :Int).toNat * 3+1,none⟩=false:=σ 1
     have cj:cb.frozen? ⟨ε,(θ :Int).toNat * 3+2,none⟩=false:=σ 2
     clear bb ν σ ba
     replace ax:=eq_true ax
     replace b4:=eq_true b4
     have n_:=aK (Kd.Qv (ok':=(fun k_=>k_ ≠ ω)) O.out (fun k_ hk=>hk.2))
     clear O
     have O:=n_
     clear n_
     have b5:=aK (show Kd.R k36 36 cb w.heap.size (fun k_=>k_ ≠ ω) (.slice (some ⟨ε,0,none⟩) γ.length ac) γ from O.out)
     obtain⟨cm,b1,b8,a0,am⟩:=Kd.J3 b5.out z36 (θ :Int) (of_decide_eq_true (by assumption)) (by have h_:(θ :Int)<((γ.length:Int):Int):=of_decide_eq_true (by assumption);first|exact h_|(have e_:=(Kd.Qt O.out).1;omega)|simpa using h_)
     obtain rfl:=Yt b8
     have az:=Kd.Mm b5.out (θ :Int) (of_decide_eq_true (by assumption)) (by have h_:(θ :Int)<((γ.length:Int):Int):=of_decide_eq_true (by assumption);first|exact h_|(have e_:=(Kd.Qt O.out).1;omega)|simpa using h_) (seg:=[nI X,nI ζ,nI ι]) (j:=0) b1 a0 (show 3≤3 from by decide) (x':=(⟨X,ζ,ι⟩:S36)) (Jh _ _ _ (⟨X,ζ,ι⟩:S36)) (fun _ hk=>hk)
     have bc:=a0 0 _ rfl
     (try simp only[show(k36).sz=3 from rfl,Nat.mul_one,Nat.add_zero] at bc)
     have bd:=am 0
     (try simp only[show(k36).sz=3 from rfl,Nat.mul_one,Nat.add_zero] at bd)
     have be:=a0 1 _ rfl
     (try simp only[show(k36).sz=3 from rfl,Nat.mul_one,Nat.add_zero] at be)
     have bf:=am 1
     (try simp only[show(k36).sz=3 from rfl,Nat.mul_one,Nat.add_zero] at bf)
     have bu:=a0 2 _ rfl
     (try simp only[show(k36).sz=3 from rfl,Nat.mul_one,Nat.add_zero] at bu)
     have cd:=am 2
     (try simp only[show(k36).sz=3 from rfl,Nat.mul_one,Nat.add_zero] at cd)
     clear b1 a0 am b8
     go_wp2_with (first|((with_reducible refine Y8 (t:=36) (p:=23) rfl ?_);refine Yy (t:=36) (p:=23) (v:=?vo_w22) (w1:=(((cb.setCell ⟨ε,(θ :Int).toNat * 3,none⟩ (nI X)).setCell ⟨ε,(θ :Int).toNat * 3+1,none⟩ (nI ζ)).setCell ⟨ε,(θ :Int).toNat * 3+2,none⟩ (nI ι))) ?hg ?ho ?hn ?hr ?_;(case ho=>rfl);(case hg=>rfl);(case hn=>rfl);(case hr=>go_simp <;> rfl);intro bj hw;have hg:cb.grownBy bj (some ε):=(by rw[hw];exact az.2);have hp_:Kd.R k36 36 bj w.heap.size (fun k_=>k_ ≠ ω) (.slice (some ⟨ε,0,none⟩) γ.length ac) κ :=(by rw[hw,a2.out];exact az.1);clear az;replace Y:=aK (Qy (g:=ah) (o:=.cells #[.slice ρ B.length μ,.func (.func 79) #[] #[]] 109 (0,0)) Y.out hg (Kd.Zo O.out Y.out (by decide)));replace Z:=aK (Qy (g:= ω) (o:=.cells #[nI X,nI ζ,nI ι] 36 (0,0)) Z.out hg (Kd.J4 O.out (fun _ hk=>hk)));replace O:=aK hp_;replace HB:=aK ((by rw[hw];exact Qz (Qz (Qz (HB.out) al.out) al.out) al.out:Below w.heap.size w bj));clear hg hw hp_))
     go_meet
     case rel=>exact⟨_,(κ),(X),(ζ),(ι),H',⟨by first|omega|exact Nat.le_refl _⟩,⟨by(with_reducible repeat first|apply Kd.Qs|apply Kd.Qr|apply Kd.Qu);exact O.out⟩,Y,Z,HB⟩
    ·rw[if_neg ψ] at H
     exact absurd H (by simp)
   ·rw[if_neg ab] at H
    exact absurd H (by simp)
  ·replace a8:=Bool.eq_false_iff.mpr a8
   subst a8
   rw[if_neg nft] at H
   have H':=aK H
   clear H
   go_wp2
   go_meet
   case rel=>exact⟨_,(γ),(X),(ζ),(ι),H',⟨by first|omega|exact Nat.le_refl _⟩,⟨by(with_reducible repeat first|apply Kd.Qs|apply Kd.Qr|apply Kd.Qu);exact Kd.Qv O.out (fun _ hk=>hk.2)⟩,Y,Z,HB⟩
 case rest=>
  clear b2
  try clear ci
  try clear cp
  try clear bg
  try clear a1
  try clear a3
  try clear b6
  try clear bi
  try clear cq
  try clear cr
  try clear bh
  try clear af
  try clear ar
  try clear bz
  try clear ch
  obtain⟨kq,ap,a5,ae,aj,HA,cn,b0,Y,Z,HB⟩:=hcut
  have ao:=(Kd.Qt b0.out).1
  rw[ao] at b0
  (try simp only[ao])
  (try simp only[ao] at Y)
  (try simp only[ao] at Z)
  cases kq with
  |zero=>exact absurd HA.out (by simp[api_Hall_set.j0])
  |succ co=>
   have H:=HA.out
   clear HA
   simp only[api_Hall_set.j0] at H
   obtain rfl:=qJ H
   go_wp2
   go_ret
   exact⟨_,rfl,by(with_reducible repeat first|apply Kd.Qs|apply Kd.Qr|apply Kd.Qu);exact Kd.Qv b0.out (fun _ hk=>trivial),HB.out⟩
end Go.Proofs.Ytmfffemidlhcpaa.C
namespace Go.Proofs.Ytmfffemidlhcpaa.C
open Go.RowKit Go.Proofs.YtmfffemidlhcpaaW.PrintWords Go.Proofs.YtmfffemidlhcpaaW.PrintLast Go.Proofs.YtmfffemidlhcpaaW.PrintMore
def hallP.f (B J Y F C:Int):Option Bool:=some (Xz F C B J Y)
def woP_I.f (B J:Int) (l:List S86):Option (List S86):=if small l.length J=true then some (woI B J l) else none
def Gb (x:S36) (l:List S36):List S36:=l.map (fun y=>if y.f0=x.f0∧y.f1=x.f1 then x else y)
def setP_H.f (B J Y:Int) (l:List S36):Option (List S36):=if small l.length J=true∧Call.Zm (fun _=>true) Call.ltH none l=true then some (Gb ⟨B,J,Y⟩ l) else none
theorem U9 (A0:Option Addr) (c:Nat) (l:List S86) (B J:Int) (t:List S86) (W:World) (hr:Kd.C k86 W A0 l.length l) (hc:l.length≤c) (h:woP_I.f B J l=some t):
 Calls Try.prog 75 #[.agg #[.slice A0 l.length c,.func (.func 83) #[] #[]],.agg #[nI B,nI J]] W fun e w'=>∃ b3:Value,e = .returned b3∧Kd.R k86 86 w' W.heap.size (fun _=>True) b3 t∧Below W.heap.size W w':=by
 unfold woP_I.f at h
 split at h
 case isFalse=>cases h
 case isTrue hs=>
 cases h
 obtain⟨hl,hb⟩:=of_decide_eq_true hs
 exact Ug A0 c l B J W hr hc hl hb
theorem Ga (x:S36) (l:List S36):(Gb x l).length=l.length:=by unfold Gb;simp
theorem Vi (x:S36) (l:List S36) (m:Nat) (h:m<l.length) (O:m<(Gb x l).length):(Gb x l)[m]=if l[m].f0=x.f0∧l[m].f1=x.f1 then x else l[m]:=by
 simp only[Gb,List.getElem_map]
theorem Mx (l:List S36) (x:S36) (p:Nat) (hs:l.Pairwise (fun x y=>Call.ltH x y=true)) (hp:Call.V0 l x.f0 x.f1 p):
 Call.V6 l x.f0 x.f1 p=true→l.set p x=Gb x l:=by
 intro h
 unfold Call.V6 at h
 obtain⟨h1,O,h3⟩:=hp
 rcases Nat.lt_or_ge p l.length with hlt|hge
 case inr=>rw[List.getElem?_eq_none hge] at h;simp at h
 rw[List.getElem?_eq_getElem hlt] at h
 have he:Yv l[p].f0 l[p].f1 x.f0 x.f1=0:=by simpa using h
 rw[Call.Uw] at he
 apply List.ext_getElem
 ·rw[Ga];simp
 intro m B X
 rw[List.length_set] at B
 rw[List.getElem_set,Vi x l m B X]
 by_cases hm:p=m
 ·subst hm
  rw[if_pos rfl,if_pos he]
 ·rw[if_neg hm,if_neg]
  intro hq
  rcases Nat.lt_or_ge m p with J|Y
  ·have:=List.pairwise_iff_getElem.1 hs m p B hlt J
   rw[Call.Yj] at this
   omega
  ·have:=List.pairwise_iff_getElem.1 hs p m hlt B (by omega)
   rw[Call.Yj] at this
   omega
theorem N7 (l:List S36) (x:S36) (p:Nat) (hs:l.Pairwise (fun x y=>Call.ltH x y=true)) (hp:Call.V0 l x.f0 x.f1 p):
 Call.V6 l x.f0 x.f1 p=false→l=Gb x l:=by
 intro h
 unfold Call.V6 at h
 obtain⟨h1,O,h3⟩:=hp
 have key:∀ m:Nat,(hm:m<l.length) → ¬ (l[m].f0=x.f0∧l[m].f1=x.f1):=by
  intro m hm hq
  rw[← Call.Uw] at hq
  rcases Nat.lt_or_ge m p with hlt|hge
  ·have:=O l[m] (List.mem_iff_getElem.2 ⟨m,by rw[List.length_take];omega,by rw[List.getElem_take]⟩)
   omega
  ·rcases Nat.lt_or_ge p m with J|Y
   ·have g1:=List.pairwise_iff_getElem.1 hs p m (by omega) hm J
    have g2:=h3 l[p] (List.mem_iff_getElem.2 ⟨0,by rw[List.length_drop];omega,by rw[List.getElem_drop];simp⟩)
    rw[Call.Yj] at g1
    rw[Call.Uw] at hq
    rw[Call.Gk] at g2
    omega
   ·have hpm:p=m:=by omega
    subst hpm
    rw[List.getElem?_eq_getElem hm] at h
    simp[hq] at h
 apply List.ext_getElem
 ·rw[Ga]
 intro m B X
 rw[Vi x l m B X,if_neg (key m B)]
theorem Uh (A0:Option Addr) (c:Nat) (l:List S36) (B J Y:Int) (t:List S36) (W:World) (hr:Kd.C k36 W A0 l.length l) (hc:l.length≤c) (h:setP_H.f B J Y l=some t):
 Calls Try.prog 74 #[.agg #[.slice A0 l.length c,.func (.func 79) #[] #[]],.agg #[nI B,nI J,nI Y]] W fun e w'=>∃ b3:Value,e = .returned b3∧Kd.R k36 36 w' W.heap.size (fun _=>True) b3 t∧Below W.heap.size W w':=by
 unfold setP_H.f at h
 split at h
 case isFalse=>cases h
 case isTrue hs=>
 cases h
 obtain⟨hl,hb⟩:=of_decide_eq_true hs.1
 have hso:=((Call.Gy (fun _=>true) l).1 hs.2).2
 refine api_Hall_set.calls (l.length+2) A0 c l 0 B J Y _ W hr hc ?_
 unfold api_Hall_set.f api_Hall_88.f
 rw[if_pos hl]
 simp only[Option.bind_some]
 obtain⟨p,hp,e⟩:=Call.Ld l B J Y 0 (by omega) hso (l.length+2) (by omega)
 obtain⟨b,hm⟩:∃ b,Call.V6 l B J p=b:=⟨_,rfl⟩
 rw[hm] at e
 rw[e]
 simp only[Option.bind_some]
 cases b
 ·rw[if_neg (by decide)]
  simp only[api_Hall_set.j0]
  congr 1
  exact N7 l ⟨B,J,Y⟩ p hso hp hm
 ·have hlt:p<l.length:=by
   rcases Nat.lt_or_ge p l.length with h|h
   ·exact h
   ·unfold Call.V6 at hm;rw[List.getElem?_eq_none h] at hm;simp at hm
  rw[if_pos rfl,if_pos (by omega),if_pos (by omega)]
  simp only[api_Hall_set.j0,Int.toNat_natCast]
  congr 1
  exact Mx l ⟨B,J,Y⟩ p hso hp hm
end Go.Proofs.Ytmfffemidlhcpaa.C
namespace Go.Proofs.Ytmfffemidlhcpaa.C
open Go.RowKit Go.Proofs.YtmfffemidlhcpaaW.PrintWords Go.Proofs.YtmfffemidlhcpaaW.PrintLast Go.Proofs.YtmfffemidlhcpaaW.PrintMore
attribute [local go_sem] Z2 Z0 Xb Xa Zt Zs Z1 Zz
def call_Check.j0:Nat→Bool→Option (Int)
 |0,_=>none
 |k+1,O=>if O=true then (some 190) else (some 0)
def call_Check.f (k:Nat) (B:Int) (J:Int) (O:List (S36)) (X:List (S86)):Option (Int):=(call_within.f B 2 64).bind fun γ=>(if γ=true then ((call_within.f J 1 8).bind fun μ =>(if μ = true then ((rightP_H.f O X B J).bind fun ε =>(if ε = true then ((rightP_I.f O X B J).bind fun θ =>(call_Check.j0 k (!θ))) else (call_Check.j0 k true))) else (call_Check.j0 k true))) else (call_Check.j0 k true))
theorem call_Check.Z6:∀ k,(∀ O,LeO (call_Check.j0 k O) (call_Check.j0 (k+1) O))
 |0=>fun _ r h=>by simp[call_Check.j0] at h
 |k+1=>by
  have J:=call_Check.Z6 k
  ·intro O
   unfold call_Check.j0
   repeat' first|(with_reducible first|apply J|exact LeO.refl _|exact LeO.none _|refine LeO.ite ?_ ?_|refine LeO.bind ?_ (fun _=>?_))|apply J|exact LeO.none _|refine LeO.ite ?_ ?_|refine LeO.bind ?_ (fun _=>?_)
theorem call_Check.mono:∀ B Z a2 a3 k,LeO (call_Check.f k B Z a2 a3) (call_Check.f (k+1) B Z a2 a3):=by
 intro B Z a2 a3 k
 have J:=call_Check.Z6 k
 unfold call_Check.f
 repeat' first|(with_reducible first|apply J|exact LeO.refl _|exact LeO.none _|refine LeO.ite ?_ ?_|refine LeO.bind ?_ (fun _=>?_))|apply J|exact LeO.none _|refine LeO.ite ?_ ?_|refine LeO.bind ?_ (fun _=>?_)
def call_Check.T1:Bool×List (List Nat×List Nat):=(true,[([],[]),([0],[0]),([1],[1]),([2],[2]),([3,2],[3]),([4],[4]),([5,4],[4,5]),([6,4,4],[4,6]),([7,4],[4,7]),([4,8],[4,8]),([9,7],[9]),([10],[10]),([11,10,10],[10,11]),([10],[10]),([13,12,10],[10,13]),([12,14,14,10],[10,12,14]),([15,10],[10,15]),([10,16],[10,16]),([17,15],[17]),([18],[18]),([19,18,18],[18,19]),([18],[18]),([21,20,18],[18,21]),([20,22,22,18],[18,20,22]),([23,18],[18,23]),([18,24],[18,24])])
def call_Check.B1:List Nat:=[0,1,3,7,15,31,63,127,255,511,1023,2047,4095,2047,16383,32767,65535,131071,262143,524287,1048575,524287,4194303,8388607,16777215,33554431]
theorem call_Check.K7:rtab .any (opsOf Try.f40 1)=call_Check.T1:=by kernel_rfl
theorem call_Check.Ji:Zq call_Check.T1.2 call_Check.B1=true:=by kernel_rfl
theorem call_Check.calls (k:Nat) (B:Int) (J:Int) (ι :Option Addr) (ζ :Nat) (O:List (S36)) (κ :Option Addr) (η :Nat) (X:List (S86)) (r:Int) (w:World) (b4:Kd.C k36 w ι O.length O) (b9:O.length ≤ ζ) (ba:Kd.C k86 w κ X.length X) (bb:X.length ≤ η) (h:call_Check.f k B J O X=some r):
 Calls Try.prog 40 #[.agg #[nI B,nI J],.agg #[.slice ι O.length ζ,.slice κ X.length η]] w fun e w'=>e = .returned (nI r)∧Below w.heap.size w w':=by
 have dw:=Try.underlying59
 have d0:=Try.underlying50
 have τ :=aK b4
 have bg:=aK b9
 clear b4 b9
 have a0:=aK ba
 have bh:=aK bb
 clear ba bb
 have HB:=aK (Below.refl w.heap.size w)
 have H:((call_within.f B 2 64).bind fun γ=>(if γ=true then ((call_within.f J 1 8).bind fun μ =>(if μ = true then ((rightP_H.f O X B J).bind fun ε =>(if ε = true then ((rightP_I.f O X B J).bind fun θ =>(call_Check.j0 k (!θ))) else (call_Check.j0 k true))) else (call_Check.j0 k true))) else (call_Check.j0 k true)))=some r:=h
 clear h
 have ao:=aK H
 clear H
 go_enter Try.func40,Try.ntmps40
 go_upto_region 1 with(first|((with_reducible refine Qe (N:=2) rfl ?_);refine qE 2 #[nI B,nI J] 59 ?_;intro ah hg w4 hbox hb;have Y:=aK hbox;have bn:=sGe hg;have bo:=sGe hg;replace HB:=sHb hb;clear hb hbox hg)|((with_reducible refine Qe (N:=3) rfl ?_);refine qE 3 #[.slice ι O.length ζ,.slice κ X.length η] 50 ?_;intro ω hg w5 hbox hb;have Z:=aK hbox;have bp:=sGe hg;have bq:=sGe hg;have φ :=sNl Y hg;have χ :=sNg Y hg;replace Y:=sBk Y hb;replace HB:=sHb hb;clear hb hbox hg))
 (try simp only[Act.put,qS])
 go_cut [30] (fun a2 wc=>∃ (kq:Nat) (δ :Bool),a2 = .bool δ ∧ Aside0 (call_Check.j0 kq δ = some r)∧Aside0 (kq≤k)∧Aside0 (wc.heap[ah]?=some (.cells #[nI B,nI J] 59 (0,0)))∧Aside0 (wc.heap[ω]?=some (.cells #[(.slice ι O.length ζ),(.slice κ X.length η)] 50 (0,0)))∧Aside0 (Below w.heap.size w wc))
 case first=>
  have H:=ao.out
  clear ao
  obtain⟨γ,A6,H⟩:=qQ H
  by_cases c7:γ=true
  ·subst c7
   rw[if_pos rfl] at H
   obtain⟨μ,A8,H⟩:=qQ H
   by_cases c9: μ = true
   ·subst c9
    rw[if_pos rfl] at H
    obtain⟨ε,ci,H⟩:=qQ H
    by_cases a5: ε = true
    ·subst a5
     rw[if_pos rfl] at H
     obtain⟨θ,b8,H⟩:=qQ H
     have H':=aK H
     clear H
     try go_wp2
     replace Y:=aK (Qd Y.out)
     replace Z:=aK (Qd Z.out)
     replace HB:=aK (Qj HB.out)
     refine Zg (n:=26) (S:=fun w'=>cI w' ah 0 B∧cI w' ah 1 J∧w'.cell? ⟨ω,0,none⟩=some (.slice ι O.length ζ)∧w'.cell? ⟨ω,1,none⟩=some (.slice κ X.length η)) (ds:=[]) #[false,false,false,false,false,false,false,false,false,false,false,false,false,false,false,false,false,false,false,false,false,false,false,false,false,false] kr rfl rfl ⟨(Qa Y.out 0).trans rfl,(Qa Y.out 1).trans rfl,(Qa Z.out 0).trans rfl,(Qa Z.out 1).trans rfl⟩ (fun hHeld=>?_);refine Zb call_Check.K7 call_Check.Ji (fun HT_ HW_=>?_)
     generalize w5.drew=eh at Y Z HB hHeld ⊢
     refine qP 0 (some 5) (bN 26 1) HT_ ?_
     refine qT 1 (some 6) (bN 26 3) HT_ HW_ hHeld ?_
     refine qK 2 (some 7) (bN 26 7) HT_ fun K hK=>?_
     refine Zd Try.func44 kr rfl #[nI B,nI 2,nI 64] (by rfl) rfl rfl qM ?_
     with_reducible refine(call_within.calls B 2 64 true _ A6.out).mono ?_
     rintro e w' ⟨rfl,⟨nd,rfl⟩⟩
     refine⟨_,rfl, ?_⟩
     refine hK.out _ _ ⟨qc Y,qc Y,qc Z,qc Z⟩ (fun hHeld=>?_)
     clear hK K
     refine qN (some 7) ?_
     refine qP 3 (some 8) (bN 26 15) HT_ ?_
     refine qP 4 (some 9) (bN 26 31) HT_ ?_
     refine qP 5 (some 10) (bN 26 63) HT_ ?_
     refine qT 6 (some 11) (bN 26 127) HT_ HW_ hHeld ?_
     refine qK 7 (some 12) (bN 26 255) HT_ fun K hK=>?_
     refine Zd Try.func44 kr rfl #[nI J,nI 1,nI 8] (by rfl) rfl rfl qM ?_
     with_reducible refine(call_within.calls J 1 8 true _ A8.out).mono ?_
     rintro e w' ⟨rfl,⟨nd,rfl⟩⟩
     refine⟨_,rfl, ?_⟩
     refine hK.out _ _ ⟨qc Y,qc Y,qc Z,qc Z⟩ (fun hHeld=>?_)
     clear hK K
     refine qN (some 12) ?_
     refine qP 8 (some 13) (bN 26 511) HT_ ?_
     refine qP 9 (some 14) (bN 26 1023) HT_ ?_
     refine qP 10 (some 15) (bN 26 2047) HT_ ?_
     refine qT 11 (some 16) (bN 26 4095) HT_ HW_ hHeld ?_
     refine qT 13 (some 18) (bN 26 12287) HT_ HW_ hHeld ?_
     refine qK 12 (some 17) (bN 26 16383) HT_ fun K hK=>?_
     refine Zd Try.func63 kr rfl #[.agg #[.slice ι O.length ζ,.slice κ X.length η]] (by rfl) rfl rfl qM ?_
     refine(Ky ι κ O.length X.length ζ η _).mono ?_
     rintro e b1 ⟨rfl,hb⟩
     refine⟨_,rfl, ?_⟩
     replace Y:=sBk Y hb
     replace Z:=sBk Z hb
     replace HB:=sHb hb
     (try clear hb)
     (try clear a4)
     (try clear hk)
     (try clear hi)
     refine hK.out _ _ ⟨qc Y,qc Y,qc Z,qc Z⟩ (fun hHeld=>?_)
     clear hK K
     refine qN (some 17) ?_
     refine qK 14 (some 19) (bN 26 32767) HT_ fun K hK=>?_
     refine Zd Try.func65 kr rfl #[.agg #[nI B,nI J]] (by rfl) rfl rfl qM ?_
     refine(Ka B J _).mono ?_
     rintro e b2 ⟨ν,rfl,hgp,hgw,hb⟩
     have σ:=aK hgp
     clear hgp hgw
     refine⟨_,rfl, ?_⟩
     replace Y:=sBk Y hb
     replace Z:=sBk Z hb
     replace HB:=sHb hb
     (try clear hb)
     (try clear a4)
     (try clear hk)
     (try clear hi)
     refine hK.out _ _ ⟨qc Y,qc Y,qc Z,qc Z⟩ (fun hHeld=>?_)
     clear hK K
     refine qN (some 19) ?_
     refine qK 15 (some 20) (bN 26 65535) HT_ fun K hK=>?_
     refine Zd Try.func64 kr rfl #[.agg #[.slice ι O.length ζ,.func (.func 79) #[] #[]],.func (.func 82) #[] #[.pointer (some ⟨ν,0,none⟩)]] (by rfl) rfl rfl qM ?_
     with_reducible refine(rightP_H.calls ι ζ O κ η X B J true _ ?side1 ?side2 ?side3 ?side4 ci.out ν σ.out).mono ?_
     (case side1=>exact(Kd.Qw τ.out HB.out))
     (case side2=>exact bg.out)
     (case side3=>exact(Kd.Qw a0.out HB.out))
     (case side4=>exact bh.out)
     rintro e cb ⟨rfl,hb⟩
     refine⟨_,rfl, ?_⟩
     replace Y:=sBk Y hb
     replace Z:=sBk Z hb
     replace HB:=sHb hb
     (try clear hb)
     (try clear a4)
     (try clear hk)
     (try clear hi)
     refine hK.out _ _ ⟨qc Y,qc Y,qc Z,qc Z⟩ (fun hHeld=>?_)
     clear hK K
     refine qN (some 20) ?_
     refine qP 16 (some 21) (bN 26 131071) HT_ ?_
     refine qP 17 (some 22) (bN 26 262143) HT_ ?_
     refine qP 18 (some 23) (bN 26 524287) HT_ ?_
     refine qT 19 (some 24) (bN 26 1048575) HT_ HW_ hHeld ?_
     refine qT 21 (some 26) (bN 26 3145727) HT_ HW_ hHeld ?_
     refine qK 20 (some 25) (bN 26 4194303) HT_ fun K hK=>?_
     refine Zd Try.func66 kr rfl #[.agg #[.slice ι O.length ζ,.slice κ X.length η]] (by rfl) rfl rfl qM ?_
     refine(Vj ι κ O.length X.length ζ η _).mono ?_
     rintro e b5 ⟨rfl,hb⟩
     refine⟨_,rfl, ?_⟩
     replace Y:=sBk Y hb
     replace Z:=sBk Z hb
     replace HB:=sHb hb
     (try clear hb)
     (try clear a4)
     (try clear hk)
     (try clear hi)
     refine hK.out _ _ ⟨qc Y,qc Y,qc Z,qc Z⟩ (fun hHeld=>?_)
     clear hK K
     refine qN (some 25) ?_
     refine qK 22 (some 27) (bN 26 8388607) HT_ fun K hK=>?_
     refine Zd Try.func68 kr rfl #[.agg #[nI B,nI J]] (by rfl) rfl rfl qM ?_
     refine(Ww B J _).mono ?_
     rintro e a3 ⟨ξ,rfl,hgp,hgw,hb⟩
     have ψ :=aK hgp
     clear hgp hgw
     refine⟨_,rfl, ?_⟩
     replace Y:=sBk Y hb
     replace Z:=sBk Z hb
     replace HB:=sHb hb
     (try clear hb)
     (try clear a4)
     (try clear hk)
     (try clear hi)
     refine hK.out _ _ ⟨qc Y,qc Y,qc Z,qc Z⟩ (fun hHeld=>?_)
     clear hK K
     refine qN (some 27) ?_
     refine qK 23 (some 28) (bN 26 16777215) HT_ fun K hK=>?_
     refine Zd Try.func67 kr rfl #[.agg #[.slice κ X.length η,.func (.func 83) #[] #[]],.func (.func 84) #[] #[.pointer (some ⟨ξ,0,none⟩)]] (by rfl) rfl rfl qM ?_
     with_reducible refine(rightP_I.calls ι ζ O κ η X B J θ _ ?side1 ?side2 ?side3 ?side4 b8.out ξ ψ.out).mono ?_
     (case side1=>exact(Kd.Qw τ.out HB.out))
     (case side2=>exact bg.out)
     (case side3=>exact(Kd.Qw a0.out HB.out))
     (case side4=>exact bh.out)
     rintro e fb ⟨rfl,hb⟩
     refine⟨_,rfl, ?_⟩
     replace Y:=sBk Y hb
     replace Z:=sBk Z hb
     replace HB:=sHb hb
     (try clear hb)
     (try clear a4)
     (try clear hk)
     (try clear hi)
     refine hK.out _ _ ⟨qc Y,qc Y,qc Z,qc Z⟩ (fun hHeld=>?_)
     clear hK K
     refine qN (some 28) ?_
     refine qP 24 (some 29) (bN 26 33554431) HT_ ?_
     refine qP 25 (some 30) (bN 26 67108863) HT_ ?_
     refine Zl (Ze HT_.out kr) ?_
     try go_wp2
     go_meet
     case rel=>exact⟨_,(!θ),rfl,H',⟨by first|omega|exact Nat.le_refl _⟩,Y,Z,HB⟩
    ·replace a5:=Bool.eq_false_iff.mpr a5
     subst a5
     rw[if_neg nft] at H
     have H':=aK H
     clear H
     try go_wp2
     replace Y:=aK (Qd Y.out)
     replace Z:=aK (Qd Z.out)
     replace HB:=aK (Qj HB.out)
     refine Zg (n:=26) (S:=fun w'=>cI w' ah 0 B∧cI w' ah 1 J∧w'.cell? ⟨ω,0,none⟩=some (.slice ι O.length ζ)∧w'.cell? ⟨ω,1,none⟩=some (.slice κ X.length η)) (ds:=[]) #[false,false,false,false,false,false,false,false,false,false,false,false,false,false,false,false,false,false,false,false,false,false,false,false,false,false] kr rfl rfl ⟨(Qa Y.out 0).trans rfl,(Qa Y.out 1).trans rfl,(Qa Z.out 0).trans rfl,(Qa Z.out 1).trans rfl⟩ (fun hHeld=>?_);refine Zb call_Check.K7 call_Check.Ji (fun HT_ HW_=>?_)
     generalize w5.drew=cr at Y Z HB hHeld ⊢
     refine qP 0 (some 5) (bN 26 1) HT_ ?_
     refine qT 1 (some 6) (bN 26 3) HT_ HW_ hHeld ?_
     refine qK 2 (some 7) (bN 26 7) HT_ fun K hK=>?_
     refine Zd Try.func44 kr rfl #[nI B,nI 2,nI 64] (by rfl) rfl rfl qM ?_
     with_reducible refine(call_within.calls B 2 64 true _ A6.out).mono ?_
     rintro e w' ⟨rfl,⟨nd,rfl⟩⟩
     refine⟨_,rfl, ?_⟩
     refine hK.out _ _ ⟨qc Y,qc Y,qc Z,qc Z⟩ (fun hHeld=>?_)
     clear hK K
     refine qN (some 7) ?_
     refine qP 3 (some 8) (bN 26 15) HT_ ?_
     refine qP 4 (some 9) (bN 26 31) HT_ ?_
     refine qP 5 (some 10) (bN 26 63) HT_ ?_
     refine qT 6 (some 11) (bN 26 127) HT_ HW_ hHeld ?_
     refine qK 7 (some 12) (bN 26 255) HT_ fun K hK=>?_
     refine Zd Try.func44 kr rfl #[nI J,nI 1,nI 8] (by rfl) rfl rfl qM ?_
     with_reducible refine(call_within.calls J 1 8 true _ A8.out).mono ?_
     rintro e w' ⟨rfl,⟨nd,rfl⟩⟩
     refine⟨_,rfl, ?_⟩
     refine hK.out _ _ ⟨qc Y,qc Y,qc Z,qc Z⟩ (fun hHeld=>?_)
     clear hK K
     refine qN (some 12) ?_
     refine qP 8 (some 13) (bN 26 511) HT_ ?_
     refine qP 9 (some 14) (bN 26 1023) HT_ ?_
     refine qP 10 (some 15) (bN 26 2047) HT_ ?_
     refine qT 11 (some 16) (bN 26 4095) HT_ HW_ hHeld ?_
     refine qT 13 (some 18) (bN 26 12287) HT_ HW_ hHeld ?_
     refine qK 12 (some 17) (bN 26 16383) HT_ fun K hK=>?_
     refine Zd Try.func63 kr rfl #[.agg #[.slice ι O.length ζ,.slice κ X.length η]] (by rfl) rfl rfl qM ?_
     refine(Ky ι κ O.length X.length ζ η _).mono ?_
     rintro e a6 ⟨rfl,hb⟩
     refine⟨_,rfl, ?_⟩
     replace Y:=sBk Y hb
     replace Z:=sBk Z hb
     replace HB:=sHb hb
     (try clear hb)
     (try clear a4)
     (try clear hk)
     (try clear hi)
     refine hK.out _ _ ⟨qc Y,qc Y,qc Z,qc Z⟩ (fun hHeld=>?_)
     clear hK K
     refine qN (some 17) ?_
     refine qK 14 (some 19) (bN 26 32767) HT_ fun K hK=>?_
     refine Zd Try.func65 kr rfl #[.agg #[nI B,nI J]] (by rfl) rfl rfl qM ?_
     refine(Ka B J _).mono ?_
     rintro e a7 ⟨ρ,rfl,hgp,hgw,hb⟩
     have a1:=aK hgp
     clear hgp hgw
     refine⟨_,rfl, ?_⟩
     replace Y:=sBk Y hb
     replace Z:=sBk Z hb
     replace HB:=sHb hb
     (try clear hb)
     (try clear a4)
     (try clear hk)
     (try clear hi)
     refine hK.out _ _ ⟨qc Y,qc Y,qc Z,qc Z⟩ (fun hHeld=>?_)
     clear hK K
     refine qN (some 19) ?_
     refine qK 15 (some 20) (bN 26 65535) HT_ fun K hK=>?_
     refine Zd Try.func64 kr rfl #[.agg #[.slice ι O.length ζ,.func (.func 79) #[] #[]],.func (.func 82) #[] #[.pointer (some ⟨ρ,0,none⟩)]] (by rfl) rfl rfl qM ?_
     with_reducible refine(rightP_H.calls ι ζ O κ η X B J false _ ?side1 ?side2 ?side3 ?side4 ci.out ρ a1.out).mono ?_
     (case side1=>exact(Kd.Qw τ.out HB.out))
     (case side2=>exact bg.out)
     (case side3=>exact(Kd.Qw a0.out HB.out))
     (case side4=>exact bh.out)
     rintro e cv ⟨rfl,hb⟩
     refine⟨_,rfl, ?_⟩
     replace Y:=sBk Y hb
     replace Z:=sBk Z hb
     replace HB:=sHb hb
     (try clear hb)
     (try clear a4)
     (try clear hk)
     (try clear hi)
     refine hK.out _ _ ⟨qc Y,qc Y,qc Z,qc Z⟩ (fun hHeld=>?_)
     clear hK K
     refine qN (some 20) ?_
     refine qP 16 (some 21) (bN 26 131071) HT_ ?_
     refine qP 17 (some 22) (bN 26 262143) HT_ ?_
     refine qP 18 (some 23) (bN 26 524287) HT_ ?_
     refine qU 19 (some 24) (bN 26 1048575) HT_ ?_
     refine qU 20 (some 25) (bN 26 2097151) HT_ ?_
     refine qU 21 (some 26) (bN 26 4194303) HT_ ?_
     refine qU 22 (some 27) (bN 26 8388607) HT_ ?_
     refine qU 23 (some 28) (bN 26 16777215) HT_ ?_
     refine qU 24 (some 29) (bN 26 33554431) HT_ ?_
     refine qP 25 (some 30) (bN 26 67108863) HT_ ?_
     refine Zl (Ze HT_.out kr) ?_
     try go_wp2
     go_meet
     case rel=>exact⟨_,(true),rfl,H',⟨by first|omega|exact Nat.le_refl _⟩,Y,Z,HB⟩
   ·replace c9:=Bool.eq_false_iff.mpr c9
    subst c9
    rw[if_neg nft] at H
    have H':=aK H
    clear H
    try go_wp2
    replace Y:=aK (Qd Y.out)
    replace Z:=aK (Qd Z.out)
    replace HB:=aK (Qj HB.out)
    refine Zg (n:=26) (S:=fun w'=>cI w' ah 0 B∧cI w' ah 1 J) (ds:=[]) #[false,false,false,false,false,false,false,false,false,false,false,false,false,false,false,false,false,false,false,false,false,false,false,false,false,false] kr rfl rfl ⟨(Qa Y.out 0).trans rfl,(Qa Y.out 1).trans rfl⟩ (fun hHeld=>?_);refine Zb call_Check.K7 call_Check.Ji (fun HT_ HW_=>?_)
    generalize w5.drew=bf at Y Z HB hHeld ⊢
    refine qP 0 (some 5) (bN 26 1) HT_ ?_
    refine qT 1 (some 6) (bN 26 3) HT_ HW_ hHeld ?_
    refine qK 2 (some 7) (bN 26 7) HT_ fun K hK=>?_
    refine Zd Try.func44 kr rfl #[nI B,nI 2,nI 64] (by rfl) rfl rfl qM ?_
    with_reducible refine(call_within.calls B 2 64 true _ A6.out).mono ?_
    rintro e w' ⟨rfl,⟨nd,rfl⟩⟩
    refine⟨_,rfl, ?_⟩
    refine hK.out _ _ ⟨qc Y,qc Y⟩ (fun hHeld=>?_)
    clear hK K
    refine qN (some 7) ?_
    refine qP 3 (some 8) (bN 26 15) HT_ ?_
    refine qP 4 (some 9) (bN 26 31) HT_ ?_
    refine qP 5 (some 10) (bN 26 63) HT_ ?_
    refine qT 6 (some 11) (bN 26 127) HT_ HW_ hHeld ?_
    refine qK 7 (some 12) (bN 26 255) HT_ fun K hK=>?_
    refine Zd Try.func44 kr rfl #[nI J,nI 1,nI 8] (by rfl) rfl rfl qM ?_
    with_reducible refine(call_within.calls J 1 8 false _ A8.out).mono ?_
    rintro e w' ⟨rfl,⟨nd,rfl⟩⟩
    refine⟨_,rfl, ?_⟩
    refine hK.out _ _ ⟨qc Y,qc Y⟩ (fun hHeld=>?_)
    clear hK K
    refine qN (some 12) ?_
    refine qP 8 (some 13) (bN 26 511) HT_ ?_
    refine qP 9 (some 14) (bN 26 1023) HT_ ?_
    refine qP 10 (some 15) (bN 26 2047) HT_ ?_
    refine qU 11 (some 16) (bN 26 4095) HT_ ?_
    refine qU 12 (some 17) (bN 26 8191) HT_ ?_
    refine qU 13 (some 18) (bN 26 16383) HT_ ?_
    refine qU 14 (some 19) (bN 26 32767) HT_ ?_
    refine qU 15 (some 20) (bN 26 65535) HT_ ?_
    refine qU 16 (some 21) (bN 26 131071) HT_ ?_
    refine qP 17 (some 22) (bN 26 262143) HT_ ?_
    refine qP 18 (some 23) (bN 26 524287) HT_ ?_
    refine qU 19 (some 24) (bN 26 1048575) HT_ ?_
    refine qU 20 (some 25) (bN 26 2097151) HT_ ?_
    refine qU 21 (some 26) (bN 26 4194303) HT_ ?_
    refine qU 22 (some 27) (bN 26 8388607) HT_ ?_
    refine qU 23 (some 28) (bN 26 16777215) HT_ ?_
    refine qU 24 (some 29) (bN 26 33554431) HT_ ?_
    refine qP 25 (some 30) (bN 26 67108863) HT_ ?_
    refine Zl (Ze HT_.out kr) ?_
    try go_wp2
    go_meet
    case rel=>exact⟨_,(true),qR,H',⟨by first|omega|exact Nat.le_refl _⟩,⟨bka Y⟩,⟨bka Z⟩,⟨bel⟩⟩
  ·replace c7:=Bool.eq_false_iff.mpr c7
   subst c7
   rw[if_neg nft] at H
   have H':=aK H
   clear H
   try go_wp2
   replace Y:=aK (Qd Y.out)
   replace Z:=aK (Qd Z.out)
   replace HB:=aK (Qj HB.out)
   refine Zg (n:=26) (S:=fun w'=>cI w' ah 0 B∧cI w' ah 1 J) (ds:=[]) #[false,false,false,false,false,false,false,false,false,false,false,false,false,false,false,false,false,false,false,false,false,false,false,false,false,false] kr rfl rfl ⟨(Qa Y.out 0).trans rfl,(Qa Y.out 1).trans rfl⟩ (fun hHeld=>?_);refine Zb call_Check.K7 call_Check.Ji (fun HT_ HW_=>?_)
   generalize w5.drew=b6 at Y Z HB hHeld ⊢
   refine qP 0 (some 5) (bN 26 1) HT_ ?_
   refine qT 1 (some 6) (bN 26 3) HT_ HW_ hHeld ?_
   refine qK 2 (some 7) (bN 26 7) HT_ fun K hK=>?_
   refine Zd Try.func44 kr rfl #[nI B,nI 2,nI 64] (by rfl) rfl rfl qM ?_
   with_reducible refine(call_within.calls B 2 64 false _ A6.out).mono ?_
   rintro e w' ⟨rfl,⟨nd,rfl⟩⟩
   refine⟨_,rfl, ?_⟩
   refine hK.out _ _ ⟨qc Y,qc Y⟩ (fun hHeld=>?_)
   clear hK K
   refine qN (some 7) ?_
   refine qP 3 (some 8) (bN 26 15) HT_ ?_
   refine qP 4 (some 9) (bN 26 31) HT_ ?_
   refine qU 5 (some 10) (bN 26 63) HT_ ?_
   refine qU 6 (some 11) (bN 26 127) HT_ ?_
   refine qU 7 (some 12) (bN 26 255) HT_ ?_
   refine qU 8 (some 13) (bN 26 511) HT_ ?_
   refine qP 9 (some 14) (bN 26 1023) HT_ ?_
   refine qP 10 (some 15) (bN 26 2047) HT_ ?_
   refine qU 11 (some 16) (bN 26 4095) HT_ ?_
   refine qU 12 (some 17) (bN 26 8191) HT_ ?_
   refine qU 13 (some 18) (bN 26 16383) HT_ ?_
   refine qU 14 (some 19) (bN 26 32767) HT_ ?_
   refine qU 15 (some 20) (bN 26 65535) HT_ ?_
   refine qU 16 (some 21) (bN 26 131071) HT_ ?_
   refine qP 17 (some 22) (bN 26 262143) HT_ ?_
   refine qP 18 (some 23) (bN 26 524287) HT_ ?_
   refine qU 19 (some 24) (bN 26 1048575) HT_ ?_
   refine qU 20 (some 25) (bN 26 2097151) HT_ ?_
   refine qU 21 (some 26) (bN 26 4194303) HT_ ?_
   refine qU 22 (some 27) (bN 26 8388607) HT_ ?_
   refine qU 23 (some 28) (bN 26 16777215) HT_ ?_
   refine qU 24 (some 29) (bN 26 33554431) HT_ ?_
   refine qP 25 (some 30) (bN 26 67108863) HT_ ?_
   refine Zl (Ze HT_.out kr) ?_
   try go_wp2
   go_meet
   case rel=>exact⟨_,(true),qR,H',⟨by first|omega|exact Nat.le_refl _⟩,⟨bka Y⟩,⟨bka Z⟩,⟨bel⟩⟩
 case rest=>
  clear ao
  obtain⟨kq,δ,rfl,HA,cf,Y,Z,HB⟩:=hcut
  cases kq with
  |zero=>exact absurd HA.out (by simp[call_Check.j0])
  |succ e3=>
   have H:=HA.out
   clear HA
   simp only[call_Check.j0] at H
   by_cases bd: δ = true
   ·subst bd
    rw[if_pos rfl] at H
    obtain rfl:=qJ H
    go_wp2
    go_ret
    exact⟨rfl,HB.out⟩
   ·replace bd:=Bool.eq_false_iff.mpr bd
    subst bd
    rw[if_neg nft] at H
    obtain rfl:=qJ H
    go_wp2
    go_ret
    exact⟨rfl,HB.out⟩
def call_change.f (U_:Option (List S36)) (I_:Option (List S86)) (k:Nat) (B:Int) (J:Int) (O:List (S36)) (X:List (S86)) (a2:Bool) (a3:Int) (ab:Int) (ac:Int) (ae:Int) (a5:Int) (ax:Int) (b5:Int):Option ((List (S36))×(List (S86))×Int):=(call_Check.f k B J O X).bind fun θ =>(if θ = 0 then (if a2=true then ((U_).bind fun ξ =>((I_).bind fun b6=>(some (ξ,b6,0)))) else (some (([]:List (S36)),([]:List (S86)),191))) else (some (([]:List (S36)),([]:List (S86)),θ)))
theorem call_change.mono:∀ U_ I_ B Z a2 a3 O a5 X a7 a8 a9 Y γ k,LeO (call_change.f U_ I_ k B Z a2 a3 O a5 X a7 a8 a9 Y γ) (call_change.f U_ I_ (k+1) B Z a2 a3 O a5 X a7 a8 a9 Y γ):=by
 intro U_ I_ B Z a2 a3 O a5 X a7 a8 a9 Y γ k
 unfold call_change.f
 repeat' first|(with_reducible first|apply call_Check.mono|exact LeO.refl _|exact LeO.none _|refine LeO.ite ?_ ?_|refine LeO.bind ?_ (fun _=>?_))|apply call_Check.mono|exact LeO.none _|refine LeO.ite ?_ ?_|refine LeO.bind ?_ (fun _=>?_)
def call_change.T6:Bool×List (List Nat×List Nat):=(true,[([],[]),([],[]),([0,1],[0,1]),([],[]),([],[]),([3,4,2],[3,4]),([2,5],[2,5]),([6,5,0,1,2,3,4,5,6],[6]),([7,0,1,2,3,4,5,6,7],[])])
def call_change.B6:List Nat:=[0,0,3,0,0,31,63,127,255]
theorem call_change.V4:rtab .any (opsOf Try.f73 6)=call_change.T6:=by kernel_rfl
theorem call_change.Kv:Zq call_change.T6.2 call_change.B6=true:=by kernel_rfl
theorem call_change.calls (U_:Option (List S36)) (I_:Option (List S86)) (k:Nat) (B:Int) (J:Int) (ι :Option Addr) (ζ :Nat) (O:List (S36)) (κ :Option Addr) (η :Nat) (X:List (S86)) (a2:Bool) (a3:Int) (ab:Int) (ac:Int) (ae:Int) (a5:Int) (ax:Int) (b5:Int) (r1:List (S36)) (r2:List (S86)) (r3:Int) (w:World) (b4:Kd.C k36 w ι O.length O) (b9:O.length ≤ ζ) (ba:Kd.C k86 w κ X.length X) (bb:X.length ≤ η) (h:call_change.f U_ I_ k B J O X a2 a3 ab ac ae a5 ax b5=some (r1,r2,r3)) (fu_:FuncId) (fnu_:Func) (ru_:Value) (hfu_:Try.prog.funcs[fu_]?=some fnu_) (hnu_:(fnu_.name == "runtime.NumGoroutine")=false) (hbu_:fnu_.body.isSome=true) (hu_:∀ (W:World) (t:List S36),U_=some t→Below w.heap.size w W→Calls Try.prog fu_ #[ru_,.agg #[nI ab,nI ac,nI ae]] W fun e w'=>∃ b3:Value,e = .returned b3∧Kd.R k36 36 w' W.heap.size (fun _=>True) b3 t∧Below W.heap.size W w') (fi_:FuncId) (fni_:Func) (ri_:Value) (hfi_:Try.prog.funcs[fi_]?=some fni_) (hni_:(fni_.name == "runtime.NumGoroutine")=false) (hbi_:fni_.body.isSome=true) (hi_:∀ (W:World) (t:List S86),I_=some t→Below w.heap.size w W→Calls Try.prog fi_ #[ri_,.agg #[nI ax,nI b5]] W fun e w'=>∃ b3:Value,e = .returned b3∧Kd.R k86 86 w' W.heap.size (fun _=>True) b3 t∧Below W.heap.size W w'):
 Calls Try.prog 73 #[.agg #[nI B,nI J],.agg #[.slice ι O.length ζ,.slice κ X.length η],.bool a2,(.func (.func fu_) #[ru_] #[]),.agg #[nI ab,nI ac,nI ae],(.func (.func fi_) #[ri_] #[]),.agg #[nI ax,nI b5]] w fun e w'=>∃ b3 d7:Value,e = .returned (.tuple #[.agg #[b3,d7],nI r3])∧Kd.R k36 36 w' w.heap.size (fun _=>True) b3 r1∧Kd.R k86 86 w' w.heap.size (fun _=>True) d7 r2∧Below w.heap.size w w':=by
 have HFU:=aK hfu_
 have HNU:=aK hnu_
 have HBU:=aK hbu_
 have HCU:=aK hu_
 have HFI:=aK hfi_
 have HNI:=aK hni_
 have HBI:=aK hbi_
 have HCI:=aK hi_
 clear hfu_ hnu_ hbu_ hu_ hfi_ hni_ hbi_ hi_
 have dw:=Try.underlying59
 have d0:=Try.underlying50
 have cg:=Try.underlying36
 have d8:=Try.underlying86
 have τ :=aK b4
 have bg:=aK b9
 clear b4 b9
 have a0:=aK ba
 have bh:=aK bb
 clear ba bb
 have HB:=aK (Below.refl w.heap.size w)
 have H:((call_Check.f k B J O X).bind fun θ =>(if θ = 0 then (if a2=true then ((U_).bind fun ξ =>((I_).bind fun b6=>(some (ξ,b6,0)))) else (some (([]:List (S36)),([]:List (S86)),191))) else (some (([]:List (S36)),([]:List (S86)),θ))))=some (r1,r2,r3):=h
 clear h
 obtain⟨θ,A8,H⟩:=qQ H
 by_cases c9: θ = 0
 ·rw[if_pos c9] at H
  have c9b0:(θ == 0)=true:=beq_iff_eq.mpr c9
  have c9b1:(θ != 0)=false:=bne_eq_false_iff_eq.mpr c9
  clear c9
  by_cases c10:a2=true
  ·subst c10
   rw[if_pos rfl] at H
   obtain⟨ξ,bu,H⟩:=qQ H
   obtain⟨b6,b8,H⟩:=qQ H
   simp only[Option.some.injEq,Prod.mk.injEq] at H
   obtain⟨rfl,rfl,rfl⟩:=H
   go_enter Try.func73,Try.ntmps73
   try go_wp2_with (first|((with_reducible refine Qe (N:=7) rfl ?_);refine qE 7 #[nI B,nI J] 59 ?_;intro ah hg eh hbox hb;have Y:=aK hbox;have bn:=sGe hg;have bo:=sGe hg;replace HB:=sHb hb;clear hb hbox hg)|((with_reducible refine Qe (N:=8) rfl ?_);refine qE 8 #[.slice ι O.length ζ,.slice κ X.length η] 50 ?_;intro ω hg cb hbox hb;have Z:=aK hbox;have bp:=sGe hg;have bq:=sGe hg;have φ :=sNl Y hg;have χ :=sNg Y hg;replace Y:=sBk Y hb;replace HB:=sHb hb;clear hb hbox hg)|((with_reducible refine Qe (N:=11) rfl ?_);refine qE 11 #[nI ab,nI ac,nI ae] 36 ?_;intro bc hg fb hbox hb;have δ :=aK hbox;have bl:=sGe hg;have bm:=sGe hg;have ag:=sNl Y hg;have ak:=sNg Y hg;have al:=sNl Z hg;have am:=sNg Z hg;replace Y:=sBk Y hb;replace Z:=sBk Z hb;replace HB:=sHb hb;clear hb hbox hg)|((with_reducible refine Qe (N:=13) rfl ?_);refine qE 13 #[nI ax,nI b5] 86 ?_;intro ν hg cr hbox hb;have γ:=aK hbox;have bk:=sGe hg;have aj:=sGe hg;have an:=sNl Y hg;have au:=sNg Y hg;have av:=sNl Z hg;have aw:=sNg Z hg;have be:=sNl δ hg;have bf:=sNg δ hg;replace Y:=sBk Y hb;replace Z:=sBk Z hb;replace δ :=sBk δ hb;replace HB:=sHb hb;clear hb hbox hg)|((with_reducible refine Qe (N:=14) rfl ?_);refine qE 14 #[.slice none 0 0,.slice none 0 0] 50 ?_;intro σ hg cv hbox hb;have ε :=aK hbox;have bi:=sGe hg;have b7:=sGe hg;have a1:=sNl Y hg;have a6:=sNg Y hg;have a7:=sNl Z hg;have a8:=sNg Z hg;have μ :=sNl δ hg;have af:=sNg δ hg;have ρ:=sNl γ hg;have ψ :=sNg γ hg;replace Y:=sBk Y hb;replace Z:=sBk Z hb;replace δ :=sBk δ hb;replace γ:=sBk γ hb;replace HB:=sHb hb;clear hb hbox hg;have db:= φ.out;have dc:= χ.out;have ca:=ag.out;have d9:=ak.out;have eu:=an.out;have ev:=au.out;have em:=a1.out;have en:=a6.out;obtain⟨az,b0,b1,b2⟩:=qD2 Y.out;have d2:=al.out;have dx:=am.out;have dy:=av.out;have dz:=aw.out;have eo:=a7.out;have ep:=a8.out;obtain⟨ay,cu,cw,cx⟩:=qD2 Z.out)|((with_reducible refine Qf (f:=40) rfl ?_);refine Q0 (some 19) rfl rfl Try.func40 kr rfl #[.agg #[nI B,nI J],.agg #[.slice ι O.length ζ,.slice κ X.length η]] rfl qM ?_;(with_reducible refine(call_Check.calls k B J _ _ O _ _ X θ _ ?side1 ?side2 ?side3 ?side4 A8.out).mono ?_);(case side1=>exact(Kd.Qw τ.out HB.out));(case side2=>exact bg.out);(case side3=>exact(Kd.Qw a0.out HB.out));(case side4=>exact bh.out);rintro e dk ⟨rfl,hb⟩;refine⟨_,rfl, ?_⟩;replace Y:=sBk Y hb;replace Z:=sBk Z hb;replace δ :=sBk δ hb;replace γ:=sBk γ hb;replace ε :=sBk ε hb;replace HB:=sHb hb;(try clear hb);(try clear a4);(try clear hk);(try clear hi)))
   replace Y:=aK (Qd Y.out)
   replace Z:=aK (Qd Z.out)
   replace δ :=aK (Qd δ.out)
   replace γ:=aK (Qd γ.out)
   replace ε :=aK (Qd ε.out)
   replace HB:=aK (Qj HB.out)
   refine Zg (n:=9) (S:=fun w'=>cI w' bc 0 ab∧cI w' bc 1 ac∧cI w' bc 2 ae∧cI w' ν 0 ax∧cI w' ν 1 b5) (ds:=[]) #[false,false,false,false,false,false,false,false,false] kr rfl rfl ⟨(Qa δ.out 0).trans rfl,(Qa δ.out 1).trans rfl,(Qa δ.out 2).trans rfl,(Qa γ.out 0).trans rfl,(Qa γ.out 1).trans rfl⟩ (fun hHeld=>?_);refine Zb call_change.V4 call_change.Kv (fun HT_ HW_=>?_)
   generalize dk.drew=ed at Y Z δ γ ε HB hHeld ⊢
   refine qP 0 (some 27) (bN 9 1) HT_ ?_
   refine qP 3 (some 30) (bN 9 9) HT_ ?_
   refine qT 1 (some 28) (bN 9 11) HT_ HW_ hHeld ?_
   refine qT 4 (some 31) (bN 9 27) HT_ HW_ hHeld ?_
   refine qK 2 (some 29) (bN 9 31) HT_ fun K hK=>?_
   refine Yk HFU.out HNU.out HBU.out #[ru_] #[] #[.agg #[nI ab,nI ac,nI ae]] #[ru_,.agg #[nI ab,nI ac,nI ae]] rfl (by rfl) rfl rfl rfl qM ?_
   refine(HCU.out _ ξ bu.out (by repeat(first|(with_reducible first|exact HB.out|apply Qq|apply Qn|apply Qj)|exact HB.out|(refine Qz ?_ (Aside0.out (by assumption)))))).mono ?_
   rintro e gi ⟨dq,rfl,ai,hb⟩
   refine⟨_,rfl, ?_⟩
   have bj:=aK (Kd.Za (Kd.J2 ai (g:=bc) (o:=.cells #[nI ab,nI ac,nI ae] 36 (0,0)) δ.out) (Qm HB.out))
   replace Y:=sBk Y hb
   replace Z:=sBk Z hb
   replace δ :=sBk δ hb
   replace γ:=sBk γ hb
   replace ε :=sBk ε hb
   replace HB:=sHb hb
   (try clear hb)
   (try clear a4)
   (try clear hk)
   (try clear hi)
   (try clear ai)
   refine hK.out _ _ ⟨qc δ,qc δ,qc δ,qc γ,qc γ⟩ (fun hHeld=>?_)
   clear hK K
   refine qN (some 29) ?_
   refine qK 5 (some 32) (bN 9 63) HT_ fun K hK=>?_
   refine Yk HFI.out HNI.out HBI.out #[ri_] #[] #[.agg #[nI ax,nI b5]] #[ri_,.agg #[nI ax,nI b5]] rfl (by rfl) rfl rfl rfl qM ?_
   refine(HCI.out _ b6 b8.out (by repeat(first|(with_reducible first|exact HB.out|apply Qq|apply Qn|apply Qj)|exact HB.out|(refine Qz ?_ (Aside0.out (by assumption)))))).mono ?_
   rintro e eb ⟨bz,rfl,ai,hb⟩
   refine⟨_,rfl, ?_⟩
   have bd:=aK (Kd.Za (Kd.J2 ai (g:= ν) (o:=.cells #[nI ax,nI b5] 86 (0,0)) γ.out) (Qm HB.out))
   replace bj:=sRb bj hb
   replace Y:=sBk Y hb
   replace Z:=sBk Z hb
   replace δ :=sBk δ hb
   replace γ:=sBk γ hb
   replace ε :=sBk ε hb
   replace HB:=sHb hb
   (try clear hb)
   (try clear a4)
   (try clear hk)
   (try clear hi)
   (try clear ai)
   obtain⟨cn,co,br⟩:=Kd.Q7 bd.out
   (first|subst br|(injection br with a9 ao aa;have ap:=a9.symm;have ar:=aa.symm;clear a9 ao aa;subst ap;subst ar))
   obtain⟨ce,cf,bs⟩:=Kd.Q7 bj.out
   (first|subst bs|(injection bs with a9 ao aa;have ap:=a9.symm;have ar:=aa.symm;clear a9 ao aa;subst ap;subst ar))
   refine hK.out _ _ ⟨qc δ,qc δ,qc δ,qc γ,qc γ⟩ (fun hHeld=>?_)
   clear hK K
   refine qN (some 32) ?_
   refine qP 6 (some 33) (bN 9 127) HT_ ?_
   refine qK 7 (none) (bN 9 255) HT_ fun K hK=>?_
   have dr:eb.cell? ⟨σ,0,none⟩=some (.slice none 0 0):=(Qa ε.out 0).trans rfl
   have dn:=Qg ε.out 0
   have ch:=a1.out
   have ci:=a7.out
   have ck:= μ.out
   have cm:=ρ.out
   have cq:=a6.out
   have ct:=a8.out
   have cy:=af.out
   have d3:= ψ.out
   have dt:eb.cell? ⟨σ,1,none⟩=some (.slice none 0 0):=(Qa ε.out 1).trans rfl
   have dp:=Qg ε.out 1
   have d4:=a1.out
   have d5:=a7.out
   have d6:= μ.out
   have da:=ρ.out
   have dd:=a6.out
   have de:=a8.out
   have df:=af.out
   have dh:= ψ.out
   refine K9 (w1:=?_) (by rfl) rfl ?_ ?_
   rotate_left
   ·go_simp
    rfl
   refine hK.out _ _ ⟨(cF μ ((cF μ (hHeld.1)))),(cF μ ((cF μ (hHeld.2.1)))),(cF μ ((cF μ (hHeld.2.2.1)))),(cF ρ ((cF ρ (hHeld.2.2.2.1)))),(cF ρ ((cF ρ (hHeld.2.2.2.2))))⟩ (fun hHeld=>?_)
   clear hK K
   refine qP 8 (some 15) (bN 9 511) HT_ ?_
   refine Zl (Ze HT_.out kr) ?_
   try go_wp2
   refine bodyPost_ret (Xe rfl _ _ σ 50 #[.slice ce ξ.length cf,.slice cn b6.length co] (0,0) _ rfl (by refine Qo (cs:=#[.slice ce ξ.length cf,.slice none 0 0]) ?_ 1 _ rfl;refine Qo (cs:=#[.slice none 0 0,.slice none 0 0]) ?_ 0 _ rfl;exact ε.out) Try.underlying50 rfl kr) rfl ?_
   exact⟨_,_,by first|rfl|(simp[Ql,Qk] <;> rfl)|(simp[*,Ql,Qk] <;> rfl),by(with_reducible repeat first|apply Kd.Qs|apply Kd.Qr|apply Kd.Qu);exact Kd.Qv (Kd.Qx (Kd.Qx (Kd.Q4 bj.out ε.out (by decide)) (fun _ hk=>hk.2) _) (fun _ hk=>hk.2) _) (fun _ hk=>trivial),by(with_reducible repeat first|apply Kd.Qs|apply Kd.Qr|apply Kd.Qu);exact Kd.Qv (Kd.Qx (Kd.Qx (Kd.Q4 bd.out ε.out (by decide)) (fun _ hk=>hk.2) _) (fun _ hk=>hk.2) _) (fun _ hk=>trivial),bel⟩
  ·replace c10:=Bool.eq_false_iff.mpr c10
   subst c10
   rw[if_neg nft] at H
   simp only[Option.some.injEq,Prod.mk.injEq] at H
   obtain⟨rfl,rfl,rfl⟩:=H
   go_enter Try.func73,Try.ntmps73
   go_wp2_with (first|((with_reducible refine Qe (N:=7) rfl ?_);refine qE 7 #[nI B,nI J] 59 ?_;intro ah hg jv hbox hb;have Y:=aK hbox;have bn:=sGe hg;have bo:=sGe hg;replace HB:=sHb hb;clear hb hbox hg)|((with_reducible refine Qe (N:=8) rfl ?_);refine qE 8 #[.slice ι O.length ζ,.slice κ X.length η] 50 ?_;intro ω hg ib hbox hb;have Z:=aK hbox;have bp:=sGe hg;have bq:=sGe hg;have φ :=sNl Y hg;have χ :=sNg Y hg;replace Y:=sBk Y hb;replace HB:=sHb hb;clear hb hbox hg)|((with_reducible refine Qe (N:=11) rfl ?_);refine qE 11 #[nI ab,nI ac,nI ae] 36 ?_;intro bc hg ky hbox hb;have δ :=aK hbox;have bl:=sGe hg;have bm:=sGe hg;have ag:=sNl Y hg;have ak:=sNg Y hg;have al:=sNl Z hg;have am:=sNg Z hg;replace Y:=sBk Y hb;replace Z:=sBk Z hb;replace HB:=sHb hb;clear hb hbox hg)|((with_reducible refine Qe (N:=13) rfl ?_);refine qE 13 #[nI ax,nI b5] 86 ?_;intro ν hg ea hbox hb;have γ:=aK hbox;have bk:=sGe hg;have aj:=sGe hg;have an:=sNl Y hg;have au:=sNg Y hg;have av:=sNl Z hg;have aw:=sNg Z hg;have be:=sNl δ hg;have bf:=sNg δ hg;replace Y:=sBk Y hb;replace Z:=sBk Z hb;replace δ :=sBk δ hb;replace HB:=sHb hb;clear hb hbox hg)|((with_reducible refine Qe (N:=14) rfl ?_);refine qE 14 #[.slice none 0 0,.slice none 0 0] 50 ?_;intro σ hg kz hbox hb;have ε :=aK hbox;have bi:=sGe hg;have b7:=sGe hg;have a1:=sNl Y hg;have a6:=sNg Y hg;have a7:=sNl Z hg;have a8:=sNg Z hg;have μ :=sNl δ hg;have af:=sNg δ hg;have ρ:=sNl γ hg;have ψ :=sNg γ hg;replace Y:=sBk Y hb;replace Z:=sBk Z hb;replace δ :=sBk δ hb;replace γ:=sBk γ hb;replace HB:=sHb hb;clear hb hbox hg;have cz:= φ.out;have fo:= χ.out;have n1:=ag.out;have n2:=ak.out;have ic:=an.out;have ie:=au.out;have ez:=a1.out;have f7:=a6.out;obtain⟨e5,ew,e6,ey⟩:=qD2 Y.out;have gm:=al.out;have gn:=am.out;have gw:=av.out;have gz:=aw.out;have m3:=a7.out;have m4:=a8.out;obtain⟨i5,i6,i7,i9⟩:=qD2 Z.out)|((with_reducible refine Qf (f:=40) rfl ?_);refine Q0 (some 19) rfl rfl Try.func40 kr rfl #[.agg #[nI B,nI J],.agg #[.slice ι O.length ζ,.slice κ X.length η]] rfl qM ?_;(with_reducible refine(call_Check.calls k B J _ _ O _ _ X θ _ ?side1 ?side2 ?side3 ?side4 A8.out).mono ?_);(case side1=>exact(Kd.Qw τ.out HB.out));(case side2=>exact bg.out);(case side3=>exact(Kd.Qw a0.out HB.out));(case side4=>exact bh.out);rintro e dv ⟨rfl,hb⟩;refine⟨_,rfl, ?_⟩;replace Y:=sBk Y hb;replace Z:=sBk Z hb;replace δ :=sBk δ hb;replace γ:=sBk γ hb;replace ε :=sBk ε hb;replace HB:=sHb hb;(try clear hb);(try clear a4);(try clear hk);(try clear hi);have h4:=af.out;have h5:= μ.out;have gg:= ψ.out;have gh:=ρ.out;obtain⟨cp,d1,ei,ej⟩:=qD2 ε.out))
   refine bodyPost_ret (Xe rfl _ _ σ 50 #[.slice none 0 0,.slice none 0 0] (0,0) _ rfl (by refine Qo (cs:=#[.slice none 0 0,.slice none 0 0]) ?_ 1 _ rfl;refine Qo (cs:=#[.slice none 0 0,.slice none 0 0]) ?_ 0 _ rfl;exact ε.out) Try.underlying50 rfl kr) rfl ?_
   exact⟨_,_,by first|rfl|(simp[Ql,Qk] <;> rfl)|(simp[*,Ql,Qk] <;> rfl),by first|exact Kd.Xy _ _ _ _ _|exact Kd.Yr _ _ _ _ _|exact Kd.Yo _ _ _ _ _|exact Kd.Yq _ _ _ _ _|exact Kd.Yp _ _ _ _ _,by first|exact Kd.Xy _ _ _ _ _|exact Kd.Yr _ _ _ _ _|exact Kd.Yo _ _ _ _ _|exact Kd.Yq _ _ _ _ _|exact Kd.Yp _ _ _ _ _,bel⟩
 ·rw[if_neg c9] at H
  have c9b0:(θ == 0)=false:=beq_eq_false_iff_ne.mpr c9
  have c9b1:(θ != 0)=true:=bne_iff_ne.mpr c9
  simp only[Option.some.injEq,Prod.mk.injEq] at H
  obtain⟨rfl,rfl,rfl⟩:=H
  go_enter Try.func73,Try.ntmps73
  go_wp2_with (first|((with_reducible refine Qe (N:=7) rfl ?_);refine qE 7 #[nI B,nI J] 59 ?_;intro ah hg f8 hbox hb;have Y:=aK hbox;have bn:=sGe hg;have bo:=sGe hg;replace HB:=sHb hb;clear hb hbox hg)|((with_reducible refine Qe (N:=8) rfl ?_);refine qE 8 #[.slice ι O.length ζ,.slice κ X.length η] 50 ?_;intro ω hg mz hbox hb;have Z:=aK hbox;have bp:=sGe hg;have bq:=sGe hg;have φ :=sNl Y hg;have χ :=sNg Y hg;replace Y:=sBk Y hb;replace HB:=sHb hb;clear hb hbox hg)|((with_reducible refine Qe (N:=11) rfl ?_);refine qE 11 #[nI ab,nI ac,nI ae] 36 ?_;intro bc hg hy hbox hb;have δ :=aK hbox;have bl:=sGe hg;have bm:=sGe hg;have ag:=sNl Y hg;have ak:=sNg Y hg;have al:=sNl Z hg;have am:=sNg Z hg;replace Y:=sBk Y hb;replace Z:=sBk Z hb;replace HB:=sHb hb;clear hb hbox hg)|((with_reducible refine Qe (N:=13) rfl ?_);refine qE 13 #[nI ax,nI b5] 86 ?_;intro ν hg du hbox hb;have γ:=aK hbox;have bk:=sGe hg;have aj:=sGe hg;have an:=sNl Y hg;have au:=sNg Y hg;have av:=sNl Z hg;have aw:=sNg Z hg;have be:=sNl δ hg;have bf:=sNg δ hg;replace Y:=sBk Y hb;replace Z:=sBk Z hb;replace δ :=sBk δ hb;replace HB:=sHb hb;clear hb hbox hg)|((with_reducible refine Qe (N:=14) rfl ?_);refine qE 14 #[.slice none 0 0,.slice none 0 0] 50 ?_;intro σ hg n3 hbox hb;have ε :=aK hbox;have bi:=sGe hg;have b7:=sGe hg;have a1:=sNl Y hg;have a6:=sNg Y hg;have a7:=sNl Z hg;have a8:=sNg Z hg;have μ :=sNl δ hg;have af:=sNg δ hg;have ρ:=sNl γ hg;have ψ :=sNg γ hg;replace Y:=sBk Y hb;replace Z:=sBk Z hb;replace δ :=sBk δ hb;replace γ:=sBk γ hb;replace HB:=sHb hb;clear hb hbox hg;have er:= φ.out;have et:= χ.out;have l5:=ag.out;have l6:=ak.out;have i4:=an.out;have ia:=au.out;have jm:=a1.out;have jn:=a6.out;obtain⟨kt,ku,kv,kw⟩:=qD2 Y.out;have ji:=al.out;have jj:=am.out;have fi:=av.out;have fj:=aw.out;have fw:=a7.out;have fx:=a8.out;obtain⟨bv,bw,cd,cj⟩:=qD2 Z.out)|((with_reducible refine Qf (f:=40) rfl ?_);refine Q0 (some 19) rfl rfl Try.func40 kr rfl #[.agg #[nI B,nI J],.agg #[.slice ι O.length ζ,.slice κ X.length η]] rfl qM ?_;(with_reducible refine(call_Check.calls k B J _ _ O _ _ X θ _ ?side1 ?side2 ?side3 ?side4 A8.out).mono ?_);(case side1=>exact(Kd.Qw τ.out HB.out));(case side2=>exact bg.out);(case side3=>exact(Kd.Qw a0.out HB.out));(case side4=>exact bh.out);rintro e jb ⟨rfl,hb⟩;refine⟨_,rfl, ?_⟩;replace Y:=sBk Y hb;replace Z:=sBk Z hb;replace δ :=sBk δ hb;replace γ:=sBk γ hb;replace ε :=sBk ε hb;replace HB:=sHb hb;(try clear hb);(try clear a4);(try clear hk);(try clear hi);have io:=af.out;have ip:= μ.out;have lv:= ψ.out;have lw:=ρ.out;obtain⟨di,dj,dl,dm⟩:=qD2 ε.out))
  refine bodyPost_ret (Xe rfl _ _ σ 50 #[.slice none 0 0,.slice none 0 0] (0,0) _ rfl (by refine Qo (cs:=#[.slice none 0 0,.slice none 0 0]) ?_ 1 _ rfl;refine Qo (cs:=#[.slice none 0 0,.slice none 0 0]) ?_ 0 _ rfl;exact ε.out) Try.underlying50 rfl kr) rfl ?_
  exact⟨_,_,by first|rfl|(simp[Ql,Qk] <;> rfl)|(simp[*,Ql,Qk] <;> rfl),by first|exact Kd.Xy _ _ _ _ _|exact Kd.Yr _ _ _ _ _|exact Kd.Yo _ _ _ _ _|exact Kd.Yq _ _ _ _ _|exact Kd.Yp _ _ _ _ _,by first|exact Kd.Xy _ _ _ _ _|exact Kd.Yr _ _ _ _ _|exact Kd.Yo _ _ _ _ _|exact Kd.Yq _ _ _ _ _|exact Kd.Yp _ _ _ _ _,bel⟩
def call_Give.f (k:Nat) (B:Int) (J:Int) (O:List (S36)) (X:List (S86)) (Y:Int) (Z:Int) (γ:Int):Option ((List (S36))×(List (S86))×Int):=(hallP.f Y Z γ B J).bind fun a3=>((call_change.f (setP_H.f Y Z γ O) (woP_I.f (-2) 0 X) k B J O X a3 0 Y Z γ 0 (-2) 0).bind fun χ =>(some (χ.1,χ.2.1,χ.2.2)))
theorem call_Give.mono:∀ B Z a2 a3 O a5 X k,LeO (call_Give.f k B Z a2 a3 O a5 X) (call_Give.f (k+1) B Z a2 a3 O a5 X):=by
 intro B Z a2 a3 O a5 X k
 unfold call_Give.f
 repeat' first|(with_reducible first|apply call_change.mono|exact LeO.refl _|exact LeO.none _|refine LeO.ite ?_ ?_|refine LeO.bind ?_ (fun _=>?_))|apply call_change.mono|exact LeO.none _|refine LeO.ite ?_ ?_|refine LeO.bind ?_ (fun _=>?_)
def call_Give.T1:Bool×List (List Nat×List Nat):=(true,[([],[]),([],[]),([],[]),([2],[2]),([],[]),([3,4,3],[3,4]),([],[]),([6,5],[6]),([7],[7]),([],[]),([],[]),([10,7],[10]),([11],[11]),([],[]),([0,1,5,8,9,12,13,11],[0,1,5,8,9,12,13]),([14],[14]),([14],[14]),([15,14,0,1,2,3,4,5,6,7,8,9,10,11,12,13,14,15,16],[15]),([16,17,0,1,2,3,4,5,6,7,8,9,10,11,12,13,14,15,16,17],[16])])
def call_Give.B1:List Nat:=[0,0,0,4,0,28,0,124,252,0,0,1276,3324,0,16383,32767,32767,131071,262143]
theorem call_Give.K7:rtab .any (opsOf Try.f51 1)=call_Give.T1:=by kernel_rfl
theorem call_Give.Ji:Zq call_Give.T1.2 call_Give.B1=true:=by kernel_rfl
theorem call_Give.calls (k:Nat) (B:Int) (J:Int) (ι :Option Addr) (ζ :Nat) (O:List (S36)) (κ :Option Addr) (η :Nat) (X:List (S86)) (Y:Int) (Z:Int) (γ:Int) (r1:List (S36)) (r2:List (S86)) (r3:Int) (w:World) (b4:Kd.C k36 w ι O.length O) (b9:O.length ≤ ζ) (ba:Kd.C k86 w κ X.length X) (bb:X.length ≤ η) (h:call_Give.f k B J O X Y Z γ=some (r1,r2,r3)):
 Calls Try.prog 51 #[.agg #[nI B,nI J],.agg #[.slice ι O.length ζ,.slice κ X.length η],.agg #[nI Y,nI Z,nI γ]] w fun e w'=>∃ b3 d7:Value,e = .returned (.tuple #[.agg #[b3,d7],nI r3])∧Kd.R k36 36 w' w.heap.size (fun _=>True) b3 r1∧Kd.R k86 86 w' w.heap.size (fun _=>True) d7 r2∧Below w.heap.size w w':=by
 have dw:=Try.underlying59
 have d0:=Try.underlying50
 have cg:=Try.underlying36
 have d8:=Try.underlying86
 have τ :=aK b4
 have bg:=aK b9
 clear b4 b9
 have a0:=aK ba
 have bh:=aK bb
 clear ba bb
 have HB:=aK (Below.refl w.heap.size w)
 have H:((hallP.f Y Z γ B J).bind fun a3=>((call_change.f (setP_H.f Y Z γ O) (woP_I.f (-2) 0 X) k B J O X a3 0 Y Z γ 0 (-2) 0).bind fun χ =>(some (χ.1,χ.2.1,χ.2.2))))=some (r1,r2,r3):=h
 clear h
 obtain⟨a3,A4,H⟩:=qQ H
 obtain⟨⟨b6,a6,ψ⟩,A5,H⟩:=qQ H
 replace H:(some (b6,a6,ψ))=some (r1,r2,r3):=H
 simp only[Option.some.injEq,Prod.mk.injEq] at H
 obtain⟨rfl,rfl,rfl⟩:=H
 go_enter Try.func51,Try.ntmps51
 try go_wp2_with (first|((with_reducible refine Qe (N:=3) rfl ?_);refine qE 3 #[nI B,nI J] 59 ?_;intro σ hg w6 hbox hb;have ε :=aK hbox;have bi:=sGe hg;have b7:=sGe hg;replace HB:=sHb hb;clear hb hbox hg)|((with_reducible refine Qe (N:=4) rfl ?_);refine qE 4 #[.slice ι O.length ζ,.slice κ X.length η] 50 ?_;intro θ hg w7 hbox hb;have δ :=aK hbox;have a8:=sGe hg;have am:=sGe hg;have ag:=sNl ε hg;have ah:=sNg ε hg;replace ε :=sBk ε hb;replace HB:=sHb hb;clear hb hbox hg)|((with_reducible refine Qe (N:=5) rfl ?_);refine qE 5 #[nI Y,nI Z,nI γ] 36 ?_;intro a7 hg w8 hbox hb;have μ :=aK hbox;have bp:=sGe hg;have bq:=sGe hg;have ak:=sNl ε hg;have au:=sNg ε hg;have av:=sNl δ hg;have ax:=sNg δ hg;replace ε :=sBk ε hb;replace δ :=sBk δ hb;replace HB:=sHb hb;clear hb hbox hg)|((with_reducible refine Qe (N:=6) rfl ?_);refine qE 6 #[.slice none 0 0,.slice none 0 0] 50 ?_;intro ab hg w9 hbox hb;have ν :=aK hbox;have br:=sGe hg;have bs:=sGe hg;have ρ:=sNl ε hg;have ω :=sNg ε hg;have φ :=sNl δ hg;have a1:=sNg δ hg;have ξ :=sNl μ hg;have a2:=sNg μ hg;replace ε :=sBk ε hb;replace δ :=sBk δ hb;replace μ :=sBk μ hb;replace HB:=sHb hb;clear hb hbox hg))
 replace ε :=aK (Qd ε.out)
 replace δ :=aK (Qd δ.out)
 replace μ :=aK (Qd μ.out)
 replace ν :=aK (Qd ν.out)
 replace HB:=aK (Qj HB.out)
 refine Zg (n:=19) (S:=fun w'=>cI w' σ 0 B∧cI w' σ 1 J∧w'.cell? ⟨θ,0,none⟩=some (.slice ι O.length ζ)∧w'.cell? ⟨θ,1,none⟩=some (.slice κ X.length η)∧cI w' a7 0 Y∧cI w' a7 1 Z∧cI w' a7 2 γ) (ds:=[]) #[false,false,false,false,false,false,false,false,false,false,false,false,false,false,false,false,false,false,false] kr rfl rfl ⟨(Qa ε.out 0).trans rfl,(Qa ε.out 1).trans rfl,(Qa δ.out 0).trans rfl,(Qa δ.out 1).trans rfl,(Qa μ.out 0).trans rfl,(Qa μ.out 1).trans rfl,(Qa μ.out 2).trans rfl⟩ (fun hHeld=>?_);refine Zb call_Give.K7 call_Give.Ji (fun HT_ HW_=>?_)
 generalize w9.drew=fj at ε δ μ ν HB hHeld ⊢
 refine qP 13 (some 21) (bN 19 8192) HT_ ?_
 refine qT 0 (some 8) (bN 19 8193) HT_ HW_ hHeld ?_
 refine qT 1 (some 9) (bN 19 8195) HT_ HW_ hHeld ?_
 refine qT 2 (some 10) (bN 19 8199) HT_ HW_ hHeld ?_
 refine qT 4 (some 12) (bN 19 8215) HT_ HW_ hHeld ?_
 refine qT 6 (some 14) (bN 19 8279) HT_ HW_ hHeld ?_
 refine qT 9 (some 17) (bN 19 8791) HT_ HW_ hHeld ?_
 refine qT 10 (some 18) (bN 19 9815) HT_ HW_ hHeld ?_
 refine qK 3 (some 11) (bN 19 9823) HT_ fun K hK=>?_
 refine Zd Try.func65 kr rfl #[.agg #[nI B,nI J]] (by rfl) rfl rfl qM ?_
 refine(Ka B J _).mono ?_
 rintro e b1 ⟨ae,rfl,hgp,hgw,hb⟩
 have af:=aK hgp
 clear hgp hgw
 refine⟨_,rfl, ?_⟩
 replace ε :=sBk ε hb
 replace δ :=sBk δ hb
 replace μ :=sBk μ hb
 replace ν :=sBk ν hb
 replace HB:=sHb hb
 (try clear hb)
 (try clear a4)
 (try clear hk)
 (try clear hi)
 refine hK.out _ _ ⟨qc ε,qc ε,qc δ,qc δ,qc μ,qc μ,qc μ⟩ (fun hHeld=>?_)
 clear hK K
 refine qN (some 11) ?_
 refine qK 5 (some 13) (bN 19 9855) HT_ fun K hK=>?_
 refine Yk Try.func82 kr rfl #[] #[.pointer (some ⟨ae,0,none⟩)] #[.agg #[nI Y,nI Z,nI γ]] #[.agg #[nI Y,nI Z,nI γ],.pointer (some ⟨ae,0,none⟩)] rfl (by rfl) rfl rfl rfl qM ?_
 refine(Vs B J Y Z γ a3 _ (Option.some.inj A4.out) ae af.out).mono ?_
 rintro e d1 ⟨rfl,hb⟩
 refine⟨_,rfl, ?_⟩
 replace ε :=sBk ε hb
 replace δ :=sBk δ hb
 replace μ :=sBk μ hb
 replace ν :=sBk ν hb
 replace HB:=sHb hb
 (try clear hb)
 (try clear a4)
 (try clear hk)
 (try clear hi)
 refine hK.out _ _ ⟨qc ε,qc ε,qc δ,qc δ,qc μ,qc μ,qc μ⟩ (fun hHeld=>?_)
 clear hK K
 refine qN (some 13) ?_
 refine qK 7 (some 15) (bN 19 9983) HT_ fun K hK=>?_
 refine Zd Try.func63 kr rfl #[.agg #[.slice ι O.length ζ,.slice κ X.length η]] (by rfl) rfl rfl qM ?_
 refine(Ky ι κ O.length X.length ζ η _).mono ?_
 rintro e b2 ⟨rfl,hb⟩
 refine⟨_,rfl, ?_⟩
 replace ε :=sBk ε hb
 replace δ :=sBk δ hb
 replace μ :=sBk μ hb
 replace ν :=sBk ν hb
 replace HB:=sHb hb
 (try clear hb)
 (try clear a4)
 (try clear hk)
 (try clear hi)
 refine hK.out _ _ ⟨qc ε,qc ε,qc δ,qc δ,qc μ,qc μ,qc μ⟩ (fun hHeld=>?_)
 clear hK K
 refine qN (some 15) ?_
 refine qP 8 (some 16) (bN 19 10239) HT_ ?_
 refine qK 11 (some 19) (bN 19 12287) HT_ fun K hK=>?_
 refine Zd Try.func66 kr rfl #[.agg #[.slice ι O.length ζ,.slice κ X.length η]] (by rfl) rfl rfl qM ?_
 refine(Vj ι κ O.length X.length ζ η _).mono ?_
 rintro e b5 ⟨rfl,hb⟩
 refine⟨_,rfl, ?_⟩
 replace ε :=sBk ε hb
 replace δ :=sBk δ hb
 replace μ :=sBk μ hb
 replace ν :=sBk ν hb
 replace HB:=sHb hb
 (try clear hb)
 (try clear a4)
 (try clear hk)
 (try clear hi)
 refine hK.out _ _ ⟨qc ε,qc ε,qc δ,qc δ,qc μ,qc μ,qc μ⟩ (fun hHeld=>?_)
 clear hK K
 refine qN (some 19) ?_
 refine qP 12 (some 20) (bN 19 16383) HT_ ?_
 refine qK 14 (some 22) (bN 19 32767) HT_ fun K hK=>?_
 refine Zd Try.func73 kr rfl #[.agg #[nI B,nI J],.agg #[.slice ι O.length ζ,.slice κ X.length η],.bool a3,.func (.func 74) #[.agg #[.slice ι O.length ζ,.func (.func 79) #[] #[]]] #[],.agg #[nI Y,nI Z,nI γ],.func (.func 75) #[.agg #[.slice κ X.length η,.func (.func 83) #[] #[]]] #[],.agg #[nI (-2),nI 0]] (by rfl) rfl rfl qM ?_
 refine(call_change.calls _ _ k B J ι ζ O κ η X a3 0 Y Z γ 0 (-2) 0 b6 a6 ψ _ ?side1 ?side2 ?side3 ?side4 A5.out 74 Try.f74 (.agg #[.slice ι O.length ζ,.func (.func 79) #[] #[]]) Try.func74 kr rfl (fun W t ht hb=>Uh ι ζ O _ _ _ t W (Kd.Qw (Kd.Qw τ.out (by repeat(first|(with_reducible first|exact HB.out|apply Qq|apply Qn|apply Qj)|exact HB.out|(refine Qz ?_ (Aside0.out (by assumption)))))) hb) bg.out ht) 75 Try.f75 (.agg #[.slice κ X.length η,.func (.func 83) #[] #[]]) Try.func75 kr rfl (fun W t ht hb=>U9 κ η X _ _ t W (Kd.Qw (Kd.Qw a0.out (by repeat(first|(with_reducible first|exact HB.out|apply Qq|apply Qn|apply Qj)|exact HB.out|(refine Qz ?_ (Aside0.out (by assumption)))))) hb) bh.out ht)).mono ?_
 (case side1=>exact(Kd.Qw τ.out HB.out))
 (case side2=>exact bg.out)
 (case side3=>exact(Kd.Qw a0.out HB.out))
 (case side4=>exact bh.out)
 rintro e dn ⟨bz,bv,rfl,ai,aj,hb⟩
 refine⟨_,rfl, ?_⟩
 have bd:=aK (Kd.Za (Kd.J2 ai (g:=a7) (o:=.cells #[nI Y,nI Z,nI γ] 36 (0,0)) μ.out) (Qm HB.out))
 have a5:=aK (Kd.Za aj (Qm HB.out))
 replace ε :=sBk ε hb
 replace δ :=sBk δ hb
 replace μ :=sBk μ hb
 replace ν :=sBk ν hb
 replace HB:=sHb hb
 (try clear hb)
 (try clear a4)
 (try clear hk)
 (try clear hi)
 (try clear ai)
 (try clear aj)
 obtain⟨aw,ac,ay⟩:=Kd.Q7 bd.out
 (first|subst ay|(injection ay with a9 ao aa;have ap:=a9.symm;have ar:=aa.symm;clear a9 ao aa;subst ap;subst ar))
 obtain⟨ci,cp,ch⟩:=Kd.Q7 a5.out
 (first|subst ch|(injection ch with a9 ao aa;have ap:=a9.symm;have ar:=aa.symm;clear a9 ao aa;subst ap;subst ar))
 refine hK.out _ _ ⟨qc ε,qc ε,qc δ,qc δ,qc μ,qc μ,qc μ⟩ (fun hHeld=>?_)
 clear hK K
 refine qN (some 22) ?_
 refine qP 15 (some 23) (bN 19 65535) HT_ ?_
 refine qP 16 (some 24) (bN 19 131071) HT_ ?_
 refine qK 17 (none) (bN 19 262143) HT_ fun K hK=>?_
 have bw:dn.cell? ⟨ab,0,none⟩=some (.slice none 0 0):=(Qa ν.out 0).trans rfl
 have bu:=Qg ν.out 0
 have b8:=ρ.out
 have bc:= φ.out
 have be:= ξ.out
 have bf:= ω.out
 have bj:=a1.out
 have bk:=a2.out
 have b0:dn.cell? ⟨ab,1,none⟩=some (.slice none 0 0):=(Qa ν.out 1).trans rfl
 have az:=Qg ν.out 1
 have al:=ρ.out
 have bl:= φ.out
 have bm:= ξ.out
 have an:= ω.out
 have bn:=a1.out
 have bo:=a2.out
 refine K9 (w1:=?_) (by rfl) rfl ?_ ?_
 rotate_left
 ·go_simp
  rfl
 refine hK.out _ _ ⟨(cF ρ ((cF ρ (hHeld.1)))),(cF ρ ((cF ρ (hHeld.2.1)))),(cF φ ((cF φ (hHeld.2.2.1)))),(cF φ ((cF φ (hHeld.2.2.2.1)))),(cF ξ ((cF ξ (hHeld.2.2.2.2.1)))),(cF ξ ((cF ξ (hHeld.2.2.2.2.2.1)))),(cF ξ ((cF ξ (hHeld.2.2.2.2.2.2))))⟩ (fun hHeld=>?_)
 clear hK K
 refine qP 18 (some 7) (bN 19 524287) HT_ ?_
 refine Zl (Ze HT_.out kr) ?_
 try go_wp2
 refine bodyPost_ret (Xe rfl _ _ ab 50 #[.slice aw b6.length ac,.slice ci a6.length cp] (0,0) _ rfl (by refine Qo (cs:=#[.slice aw b6.length ac,.slice none 0 0]) ?_ 1 _ rfl;refine Qo (cs:=#[.slice none 0 0,.slice none 0 0]) ?_ 0 _ rfl;exact ν.out) Try.underlying50 rfl kr) rfl ?_
 exact⟨_,_,by first|rfl|(simp[Ql,Qk] <;> rfl)|(simp[*,Ql,Qk] <;> rfl),by(with_reducible repeat first|apply Kd.Qs|apply Kd.Qr|apply Kd.Qu);exact Kd.Qv (Kd.Qx (Kd.Qx (Kd.Q4 bd.out ν.out (by decide)) (fun _ hk=>hk.2) _) (fun _ hk=>hk.2) _) (fun _ hk=>trivial),by(with_reducible repeat first|apply Kd.Qs|apply Kd.Qr|apply Kd.Qu);exact Kd.Qv (Kd.Qx (Kd.Qx (Kd.Q4 a5.out ν.out (by decide)) (fun _ hk=>hk.2) _) (fun _ hk=>hk.2) _) (fun _ hk=>trivial),bel⟩
end Go.Proofs.Ytmfffemidlhcpaa.C
namespace Go.Proofs.Ytmfffemidlhcpaa.Call
open Go.RowKit Go.Proofs.YtmfffemidlhcpaaW.PrintWords Go.Proofs.YtmfffemidlhcpaaW.PrintLast Go.Proofs.YtmfffemidlhcpaaW.PrintMore Go.Proofs.Ytmfffemidlhcpaa.C
abbrev Hall:=S36
abbrev Ins:=S86
def i64 (x:Int):Prop:= -9223372036854775808≤x∧x≤9223372036854775807
theorem Xm (a lo hi:Int):call_within.f a lo hi=some (decide (lo≤a∧a≤hi)):=by
 unfold call_within.f
 by_cases h:lo≤a <;> simp[h]
def okB (F C:Int) (H:List Hall) (I:List Ins):Bool:=decide (2≤F∧F≤64)&&(decide (1≤C∧C≤8)&&(Zm (fun x=>Xz F C x.f0 x.f1 x.f2) ltH none H&&Zm (fun x=>Jd F C x.f0 x.f1) ltI none I))
theorem We {n:Nat} {C:Int} (h:n<1000000000) (hC:i64 C):small n C=true:=decide_eq_true ⟨h,hC.1,hC.2⟩
theorem Ja (k:Nat) (F C:Int) (H:List Hall) (I:List Ins) (hH:H.length<900000000) (hI:I.length<900000000) (hC:i64 C):call_Check.f (k+1) F C H I=some (if okB F C H I=true then 0 else 190):=by
 unfold call_Check.f rightP_H.f rightP_I.f okB
 rw[Xm,Xm,if_pos (We (by omega) hC),if_pos (We (by omega) hC)]
 simp only[Option.bind_some]
 cases decide (2≤F∧F≤64) <;> cases decide (1≤C∧C≤8) <;> cases Zm (fun x:Hall=>Xz F C x.f0 x.f1 x.f2) ltH none H <;> cases Zm (fun x:Ins=>Jd F C x.f0 x.f1) ltI none I <;> simp[call_Check.j0]
theorem Yi {F C:Int} {H:List Hall} {I:List Ins}:okB F C H I=true↔((2≤F∧F≤64)∧(1≤C∧C≤8)∧((∀ x ∈ H,Xz F C x.f0 x.f1 x.f2=true)∧H.Pairwise (fun x y=>ltH x y=true))∧((∀ x ∈ I,Jd F C x.f0 x.f1=true)∧I.Pairwise (fun x y=>ltI x y=true))):=by
 unfold okB
 simp only[Bool.and_eq_true,decide_eq_true_eq]
 rw[Gy,Wj]
theorem U8 (x:Int) (h:1≤x∧x≤64):wrap64 (x-1)=x-1:=by unfold wrap64;omega
theorem Kb {F C:Int} {B J Y:Int} (hF:2≤F∧F≤64) (hC:1≤C∧C≤8):Xz F C B J Y=true↔((J=1∨J = -1)∧(0≤B∧B≤F-1)∧(0≤B+J∧B+J≤F-1)∧(-1≤Y∧Y≤C-1)):=by
 unfold Xz
 rw[decide_eq_true_eq,U8 F (by omega),U8 C (by omega)]
 constructor
 ·rintro⟨h1,O,h3,h4⟩
  rw[show wrap64 (B+J)=B+J from by unfold wrap64;omega] at h3
  exact⟨h1,O,h3,h4⟩
 ·rintro⟨h1,O,h3,h4⟩
  rw[show wrap64 (B+J)=B+J from by unfold wrap64;omega]
  exact⟨h1,O,h3,h4⟩
theorem D7 {F C:Int} {B J:Int} (hF:2≤F∧F≤64) (hC:1≤C∧C≤8):Jd F C B J=true↔((0≤B∧B≤C-1)∧(0≤J∧J≤F-1)):=by
 unfold Jd
 rw[decide_eq_true_eq,U8 F (by omega),U8 C (by omega)]
theorem C4 (H:List Hall) (I:List Ins) (hH:H.length<900000000) (hI:I.length<900000000):newellaw19_Own.f H I=some (H,I):=by
 unfold newellaw19_Own.f
 simp only[Option.bind_some,List.length_nil,Nat.zero_add,List.nil_append]
 rw[if_pos (by omega),if_pos (by omega)]
theorem Wq (F C:Int):newelref19_House.f F C=some (decide ((2≤F∧F≤64)∧(1≤C∧C≤8))):=by
 unfold newelref19_House.f
 by_cases h1:F≥2
 ·rw[if_pos h1]
  by_cases O:F≤64
  ·rw[if_pos O]
   by_cases h3:C≥1
   ·rw[if_pos h3]
    congr 1
    rw[decide_eq_decide]
    omega
   ·rw[if_neg h3,decide_eq_false (by omega)]
  ·rw[if_neg O,decide_eq_false (by omega)]
 ·rw[if_neg h1,decide_eq_false (by omega)]
theorem Lr (k:Nat) {F C:Int} (B J Y:Int) (hF:2≤F∧F≤64) (hC:1≤C∧C≤8):newelref19_Hall.f (k+1) F C B J Y=some (Xz F C B J Y):=by
 have hb:=Kb (F:=F) (C:=C) (B:=B) (J:=J) (Y:=Y) hF hC
 have w1:wrap64 (F-2)=F-2:=by unfold wrap64;omega
 have w2:wrap64 (F-1)=F-1:=by unfold wrap64;omega
 have tt:∀ p:Prop,[Decidable p]→(p↔((J=1∨J = -1)∧(0≤B∧B≤F-1)∧(0≤B+J∧B+J≤F-1)∧(-1≤Y∧Y≤C-1)))→(some (decide p):Option Bool)=some (Xz F C B J Y):=by
  intro p _ hp
  congr 1
  cases h:Xz F C B J Y
  ·rw[h] at hb
   exact decide_eq_false (fun q=>Bool.noConfusion (hb.2 (hp.1 q)))
  ·exact decide_eq_true (hp.2 (hb.1 h))
 have ff:¬ ((J=1∨J = -1)∧(0≤B∧B≤F-1)∧(0≤B+J∧B+J≤F-1)∧(-1≤Y∧Y≤C-1))→(some false:Option Bool)=some (Xz F C B J Y):=fun h=>tt False ⟨False.elim,h⟩
 have j:∀ b:Bool,b=decide (Y < -1∨Y≥C)→newelref19_Hall.j0 (k+1) b F C B J Y=some (Xz F C B J Y):=by
  intro b hbb
  simp only[newelref19_Hall.j0]
  rw[w1,w2]
  by_cases X:Y < -1∨Y≥C
  ·rw[hbb,decide_eq_true X,if_pos rfl]
   exact ff (by omega)
  ·rw[hbb,decide_eq_false X,if_neg (by decide)]
   by_cases h1:J=1
   ·rw[if_pos h1]
    by_cases O:B≥0
    ·rw[if_pos O]
     exact tt _ (by omega)
    ·rw[if_neg O]
     exact ff (by omega)
   ·rw[if_neg h1]
    by_cases O:J = -1
    ·rw[if_pos O]
     by_cases h3:B≥1
     ·rw[if_pos h3]
      exact tt _ (by omega)
     ·rw[if_neg h3]
      exact ff (by omega)
    ·rw[if_neg O]
     exact ff (by omega)
 unfold newelref19_Hall.f
 by_cases h:Y < -1
 ·rw[if_pos h]
  exact j _ (decide_eq_true (.inl h)).symm
 ·rw[if_neg h]
  exact j _ (by rw[decide_eq_decide];omega)
theorem Wr (k:Nat) {F C:Int} (B J Y:Int) (hF:2≤F∧F≤64) (hC:1≤C∧C≤8) (hk:0<k):newelref19_Hall.f k F C B J Y=some (Xz F C B J Y):=by
 obtain⟨k,rfl⟩:∃ m,k=m+1:=⟨k-1,by omega⟩
 exact Lr k B J Y hF hC
theorem Uj {F C:Int} (B J:Int) (hF:2≤F∧F≤64) (hC:1≤C∧C≤8):newelref19_Inside.f F C B J=some (Jd F C B J):=by
 have hb:=D7 (F:=F) (C:=C) (B:=B) (J:=J) hF hC
 have tt:∀ p:Prop,[Decidable p]→(p↔((0≤B∧B≤C-1)∧(0≤J∧J≤F-1)))→(some (decide p):Option Bool)=some (Jd F C B J):=by
  intro p _ hp
  congr 1
  cases h:Jd F C B J
  ·rw[h] at hb
   exact decide_eq_false (fun q=>Bool.noConfusion (hb.2 (hp.1 q)))
  ·exact decide_eq_true (hp.2 (hb.1 h))
 have ff:¬ ((0≤B∧B≤C-1)∧(0≤J∧J≤F-1))→(some false:Option Bool)=some (Jd F C B J):=fun h=>tt False ⟨False.elim,h⟩
 unfold newelref19_Inside.f
 by_cases h1:B≥0
 ·rw[if_pos h1]
  by_cases O:B<C
  ·rw[if_pos O]
   by_cases h3:J≥0
   ·rw[if_pos h3]
    exact tt _ (by omega)
   ·rw[if_neg h3]
    exact ff (by omega)
  ·rw[if_neg O]
   exact ff (by omega)
 ·rw[if_neg h1]
  exact ff (by omega)
theorem Ws (x y:Hall):newelref19_ahead.f x.f0 x.f1 x.f2 y.f0 y.f1 y.f2=some (ltH x y):=by
 unfold newelref19_ahead.f
 by_cases h1:x.f0<y.f0
 ·rw[if_pos h1,(Yj x y).2 (.inl h1)]
 ·rw[if_neg h1]
  by_cases O:x.f0=y.f0
  ·rw[if_pos O]
   congr 1
   cases h:ltH x y
   ·exact decide_eq_false (fun q=>by rw[(Yj x y).2 (.inr ⟨O,q⟩)] at h;cases h)
   ·have:=(Yj x y).1 h
    exact decide_eq_true (by omega)
  ·rw[if_neg O]
   cases h:ltH x y
   ·rfl
   ·have:=(Yj x y).1 h
    omega
theorem Ul (x y:Ins):newelref19_before.f x.f0 x.f1 y.f0 y.f1=some (ltI x y):=by
 unfold newelref19_before.f
 by_cases h1:x.f0<y.f0
 ·rw[if_pos h1,(Gg x y).2 (.inl h1)]
 ·rw[if_neg h1]
  by_cases O:x.f0=y.f0
  ·rw[if_pos O]
   congr 1
   cases h:ltI x y
   ·exact decide_eq_false (fun q=>by rw[(Gg x y).2 (.inr ⟨O,q⟩)] at h;cases h)
   ·have:=(Gg x y).1 h
    exact decide_eq_true (by omega)
  ·rw[if_neg O]
   cases h:ltI x y
   ·rfl
   ·have:=(Gg x y).1 h
    omega
theorem C5 {F C:Int} (hF:2≤F∧F≤64) (hC:1≤C∧C≤8) (H:List Hall) (I:List Ins) (hm:I.length≤1000000000) (j:Nat):∀ (f i:Nat),i+j=I.length→j+1<f→newelref19_May.l1 f (i:Int) F C H I=some (Zm (fun x=>Jd F C x.f0 x.f1) ltI (if i=0 then none else I[i-1]?) (I.drop i)):=by
 induction j with
 |zero=>
  intro f i hi hf
  obtain⟨f,rfl⟩:∃ m,f=m+1:=⟨f-1,by omega⟩
  simp only[newelref19_May.l1]
  rw[if_neg (by omega),List.drop_of_length_le (by omega)]
  cases(if i=0 then none else I[i-1]?) <;> rfl
 |succ j ih=>
  intro f i hi hf
  obtain⟨f,rfl⟩:∃ m,f=m+1:=⟨f-1,by omega⟩
  have ha:i<I.length:=by omega
  have ei:wrap64 ((i:Int)+1)=((i+1:Nat):Int):=by unfold wrap64;omega
  have B:=ih f (i+1) (by omega) (by omega)
  rw[if_neg (by omega),Nat.add_sub_cancel,List.getElem?_eq_getElem ha] at B
  simp only[newelref19_May.l1]
  rw[if_pos (by omega),if_pos (by omega),Jp I i ha,Uj _ _ hF hC,List.drop_eq_getElem_cons ha]
  simp only[Option.bind_some]
  cases h1:Jd F C I[i].f0 I[i].f1
  ·rw[if_neg (by decide)]
   cases(if i=0 then none else I[i-1]?) <;> simp only[Zm,h1,Bool.false_and]
  ·rw[if_pos rfl]
   by_cases X:i=0
   ·subst X
    rw[if_neg (by omega),ei,B,if_pos rfl]
    simp only[Zm,h1,Bool.true_and]
   ·have ep:wrap64 ((i:Int)-1)=((i-1:Nat):Int):=by unfold wrap64;omega
    rw[if_pos (by omega),ep,if_pos (by omega),if_pos (by omega),Jp I (i-1) (by omega),Ul,if_neg X,List.getElem?_eq_getElem (by omega)]
    simp only[Option.bind_some,Zm,h1,Bool.true_and]
    cases O:ltI (I[i-1]'(by omega)) I[i]
    ·rw[if_neg (by decide),Bool.false_and]
    ·rw[if_pos rfl,ei,B,Bool.true_and]
theorem C6 {F C:Int} (hF:2≤F∧F≤64) (hC:1≤C∧C≤8) (H:List Hall) (I:List Ins) (hH:H.length≤1000000000) (hm:I.length≤1000000000) (j:Nat):∀ (f i:Nat),i+j=H.length→j+I.length+3<f→newelref19_May.l0 f (i:Int) F C H I=some (Zm (fun x=>Xz F C x.f0 x.f1 x.f2) ltH (if i=0 then none else H[i-1]?) (H.drop i)&&Zm (fun x=>Jd F C x.f0 x.f1) ltI none I):=by
 induction j with
 |zero=>
  intro f i hi hf
  obtain⟨f,rfl⟩:∃ m,f=m+1:=⟨f-1,by omega⟩
  have h1:=C5 hF hC H I hm I.length f 0 (by omega) (by omega)
  rw[if_pos rfl,List.drop_zero] at h1
  simp only[newelref19_May.l0]
  rw[if_neg (by omega),List.drop_of_length_le (by omega)]
  refine h1.trans ?_
  cases(if i=0 then none else H[i-1]?) <;> rfl
 |succ j ih=>
  intro f i hi hf
  obtain⟨f,rfl⟩:∃ m,f=m+1:=⟨f-1,by omega⟩
  have ha:i<H.length:=by omega
  have ei:wrap64 ((i:Int)+1)=((i+1:Nat):Int):=by unfold wrap64;omega
  have B:=ih f (i+1) (by omega) (by omega)
  rw[if_neg (by omega),Nat.add_sub_cancel,List.getElem?_eq_getElem ha] at B
  simp only[newelref19_May.l0]
  rw[if_pos (by omega),if_pos (by omega),Ya H i ha,Wr _ _ _ _ hF hC (by omega),List.drop_eq_getElem_cons ha]
  simp only[Option.bind_some]
  cases h1:Xz F C H[i].f0 H[i].f1 H[i].f2
  ·rw[if_neg (by decide)]
   cases(if i=0 then none else H[i-1]?) <;> simp only[Zm,h1,Bool.false_and]
  ·rw[if_pos rfl]
   by_cases X:i=0
   ·subst X
    rw[if_neg (by omega),ei,B,if_pos rfl]
    simp only[Zm,h1,Bool.true_and]
   ·have ep:wrap64 ((i:Int)-1)=((i-1:Nat):Int):=by unfold wrap64;omega
    rw[if_pos (by omega),ep,if_pos (by omega),if_pos (by omega),Ya H (i-1) (by omega),Ws,if_neg X,List.getElem?_eq_getElem (by omega)]
    simp only[Option.bind_some,Zm,h1,Bool.true_and]
    cases O:ltH (H[i-1]'(by omega)) H[i]
    ·rw[if_neg (by decide),Bool.false_and,Bool.false_and]
    ·rw[if_pos rfl,ei,B,Bool.true_and]
theorem M3 (k:Nat) (F C:Int) (H:List Hall) (I:List Ins) (hH:H.length≤1000000000) (hI:I.length≤1000000000) (hk:H.length+I.length+3<k):newelref19_May.f k F C H I=some (okB F C H I):=by
 unfold newelref19_May.f
 rw[Wq]
 simp only[Option.bind_some]
 by_cases h:(2≤F∧F≤64)∧(1≤C∧C≤8)
 ·have:=C6 h.1 h.2 H I hH hI H.length k 0 (by omega) hk
  rw[if_pos rfl,List.drop_zero] at this
  rw[decide_eq_true h,if_pos rfl]
  refine this.trans ?_
  unfold okB
  rw[decide_eq_true h.1,decide_eq_true h.2,Bool.true_and,Bool.true_and]
 ·rw[decide_eq_false h,if_neg (by decide)]
  congr 1
  cases hb:okB F C H I
  ·rfl
  ·exact absurd ⟨(Yi.1 hb).1,(Yi.1 hb).2.1⟩ h
theorem G3 (x y:Hall):(!(x.f0==y.f0)||(!(x.f1==y.f1) || !(x.f2==y.f2)))=true ↔ ¬ x=y:=by
 obtain⟨a,b,c⟩:=x
 obtain⟨d,e,f⟩:=y
 simp only[Bool.or_eq_true,Bool.not_eq_true',beq_eq_false_iff_ne,S36.mk.injEq]
 omega
theorem Vr (x y:Ins):(!(x.f0==y.f0)||(!(x.f1==y.f1)))=true ↔ ¬ x=y:=by
 obtain⟨a,b⟩:=x
 obtain⟨d,e⟩:=y
 simp only[Bool.or_eq_true,Bool.not_eq_true',beq_eq_false_iff_ne,S86.mk.injEq]
 omega
theorem Lo (H:List Hall) (I:List Ins) (H':List Hall) (I':List Ins) (hm:I.length≤1000000000) (hl:I.length=I'.length) (j:Nat):∀ (f i:Nat),i+j=I.length→j<f → ∃ b,newelref19_Same.l1 f (i:Int) H I H' I'=some b∧(b=true↔I.drop i=I'.drop i):=by
 induction j with
 |zero=>
  intro f i hi hf
  obtain⟨f,rfl⟩:∃ m,f=m+1:=⟨f-1,by omega⟩
  simp only[newelref19_Same.l1]
  rw[if_neg (by omega),List.drop_of_length_le (by omega),List.drop_of_length_le (by omega)]
  exact⟨true,rfl,by simp⟩
 |succ j ih=>
  intro f i hi hf
  obtain⟨f,rfl⟩:∃ m,f=m+1:=⟨f-1,by omega⟩
  have ha:i<I.length:=by omega
  have hb:i<I'.length:=by omega
  have ei:wrap64 ((i:Int)+1)=((i+1:Nat):Int):=by unfold wrap64;omega
  simp only[newelref19_Same.l1]
  rw[if_pos (by omega),if_pos (by omega),if_pos (by omega),Jp I i ha,Jp I' i hb,List.drop_eq_getElem_cons ha,List.drop_eq_getElem_cons hb,ei]
  by_cases h:I[i]=I'[i]
  ·obtain⟨b,e,a4⟩:=ih f (i+1) (by omega) (by omega)
   rw[if_neg (by rw[Vr];exact fun q=>q h)]
   exact⟨b,e,a4.trans ⟨fun q=>by rw[h,q],fun q=>(List.cons.inj q).2⟩⟩
  ·rw[if_pos ((Vr _ _).2 h)]
   exact⟨false,rfl,⟨fun q=>(by cases q),fun q=>absurd (List.cons.inj q).1 h⟩⟩
theorem Lp (H:List Hall) (I:List Ins) (H':List Hall) (I':List Ins) (hm:H.length≤1000000000) (hI:I.length≤1000000000) (hH:H.length=H'.length) (hl:I.length=I'.length) (j:Nat):∀ (f i:Nat),i+j=H.length→j+I.length+1<f → ∃ b,newelref19_Same.l0 f (i:Int) H I H' I'=some b∧(b=true↔(H.drop i=H'.drop i∧I=I')):=by
 induction j with
 |zero=>
  intro f i hi hf
  obtain⟨f,rfl⟩:∃ m,f=m+1:=⟨f-1,by omega⟩
  obtain⟨b,e,hb⟩:=Lo H I H' I' hI hl I.length f 0 (by omega) (by omega)
  rw[List.drop_zero,List.drop_zero] at hb
  simp only[newelref19_Same.l0]
  rw[if_neg (by omega),List.drop_of_length_le (by omega),List.drop_of_length_le (by omega)]
  exact⟨b,e,hb.trans ⟨fun q=>⟨rfl,q⟩,fun q=>q.2⟩⟩
 |succ j ih=>
  intro f i hi hf
  obtain⟨f,rfl⟩:∃ m,f=m+1:=⟨f-1,by omega⟩
  have ha:i<H.length:=by omega
  have hb:i<H'.length:=by omega
  have ei:wrap64 ((i:Int)+1)=((i+1:Nat):Int):=by unfold wrap64;omega
  simp only[newelref19_Same.l0]
  rw[if_pos (by omega),if_pos (by omega),if_pos (by omega),Ya H i ha,Ya H' i hb,List.drop_eq_getElem_cons ha,List.drop_eq_getElem_cons hb,ei]
  by_cases h:H[i]=H'[i]
  ·obtain⟨b,e,a4⟩:=ih f (i+1) (by omega) (by omega)
   rw[if_neg (by rw[G3];exact fun q=>q h)]
   exact⟨b,e,a4.trans ⟨fun q=>⟨by rw[h,q.1],q.2⟩,fun q=>⟨(List.cons.inj q.1).2,q.2⟩⟩⟩
  ·rw[if_pos ((G3 _ _).2 h)]
   exact⟨false,rfl,⟨fun q=>(by cases q),fun q=>absurd (List.cons.inj q.1).1 h⟩⟩
theorem Lq (k:Nat) (H:List Hall) (I:List Ins) (H':List Hall) (I':List Ins) (hH:H.length≤1000000000) (hI:I.length≤1000000000) (hk:H.length+I.length+3<k):∃ b,newelref19_Same.f k H I H' I'=some b∧(b=true↔(H=H'∧I=I')):=by
 obtain⟨k,rfl⟩:∃ m,k=m+1:=⟨k-1,by omega⟩
 unfold newelref19_Same.f
 by_cases h1:H.length=H'.length
 ·rw[if_pos (by omega)]
  simp only[newelref19_Same.j0]
  by_cases O:I.length=I'.length
  ·obtain⟨b,e,hb⟩:=Lp H I H' I' hH hI h1 O H.length k 0 (by omega) (by omega)
   rw[List.drop_zero,List.drop_zero] at hb
   rw[if_neg (by rw[O];simp)]
   exact⟨b,e,hb⟩
  ·rw[if_pos (by simp;omega)]
   exact⟨false,rfl,⟨fun q=>(by cases q),fun q=>absurd (by rw[q.2]) O⟩⟩
 ·rw[if_neg (by omega)]
  simp only[newelref19_Same.j0]
  rw[if_pos trivial]
  exact⟨false,rfl,⟨fun q=>(by cases q),fun q=>absurd (by rw[q.1]) h1⟩⟩
theorem Gd (k:Nat) (H:List Hall) (I:List Ins) (hk:H.length+I.length+3<k) (hH:H.length≤1000000000:=by omega) (hI:I.length≤1000000000:=by omega):newelref19_Same.f k H I H I=some true:=by
 obtain⟨b,hb,h⟩:=Lq k H I H I hH hI hk
 rw[hb,h.2 ⟨rfl,rfl⟩]
theorem Wp (k:Nat) (hk:3<k):newelref19_Same.f k ([]:List Hall) ([]:List Ins) [] []=some true:=Gd k [] [] (by simpa using hk) (by simp) (by simp)
end Go.Proofs.Ytmfffemidlhcpaa.Call
namespace Go.Proofs.Ytmfffemidlhcpaa.C
open Go.RowKit Go.Proofs.YtmfffemidlhcpaaW.PrintWords Go.Proofs.YtmfffemidlhcpaaW.PrintLast Go.Proofs.YtmfffemidlhcpaaW.PrintMore
attribute [local go_sem] Z2 Z0 Xb Xa Zt Zs Z1 Zz
def group_hall.f (k:Nat) (B:Int) (J:Int) (X:Int) (ζ :Int) (ι :Int):Option (Bool):=(call_Give.f k B J ([]:List (S36)) ([]:List (S86)) X ζ ι).bind fun Z=>(some (Z.2.2==0))
theorem group_hall.mono:∀ B Z a2 a3 O k,LeO (group_hall.f k B Z a2 a3 O) (group_hall.f (k+1) B Z a2 a3 O):=by
 intro B Z a2 a3 O k
 unfold group_hall.f
 repeat' first|(with_reducible first|apply call_Give.mono|exact LeO.refl _|exact LeO.none _|refine LeO.ite ?_ ?_|refine LeO.bind ?_ (fun _=>?_))|apply call_Give.mono|exact LeO.none _|refine LeO.ite ?_ ?_|refine LeO.bind ?_ (fun _=>?_)
theorem group_hall.calls (k:Nat) (B:Int) (J:Int) (X:Int) (ζ :Int) (ι :Int) (r:Bool) (w:World) (h:group_hall.f k B J X ζ ι = some r):
 Calls Try.prog 30 #[.agg #[nI B,nI J],.agg #[nI X,nI ζ,nI ι]] w fun e w'=>e = .returned (.bool r)∧Below w.heap.size w w':=by
 have dw:=Try.underlying59
 have cg:=Try.underlying36
 have d0:=Try.underlying50
 have HB:=aK (Below.refl w.heap.size w)
 have H:((call_Give.f k B J ([]:List (S36)) ([]:List (S86)) X ζ ι).bind fun Z=>(some (Z.2.2==0)))=some r:=h
 clear h
 obtain⟨⟨φ,χ,ρ⟩,A3,H⟩:=qQ H
 replace H:(some (ρ==0))=some r:=H
 obtain rfl:=qJ H
 go_enter Try.func30,Try.ntmps30
 go_wp2_with (first|((with_reducible refine Qe (N:=2) rfl ?_);refine qE 2 #[nI B,nI J] 59 ?_;intro ψ hg w4 hbox hb;have O:=aK hbox;have ω :=sGe hg;have a2:=sGe hg;replace HB:=sHb hb;clear hb hbox hg)|((with_reducible refine Qe (N:=3) rfl ?_);refine qE 3 #[nI X,nI ζ,nI ι] 36 ?_;intro σ hg w5 hbox hb;have Y:=aK hbox;have a5:=sGe hg;have a6:=sGe hg;have ε :=sNl O hg;have η :=sNg O hg;replace O:=sBk O hb;replace HB:=sHb hb;clear hb hbox hg;have dd:= ε.out;have dt:= η.out;obtain⟨a0,av,aw,ax⟩:=qD2 O.out;obtain⟨ac,ae,ab,ah,al,b5⟩:=qD3 Y.out)|((with_reducible refine Qf (f:=51) rfl ?_);refine Q0 (some 11) rfl rfl Try.func51 kr rfl #[.agg #[nI B,nI J],.agg #[.slice none 0 0,.slice none 0 0],.agg #[nI X,nI ζ,nI ι]] rfl qM ?_;(refine(call_Give.calls k B J _ _ ([]:List (S36)) _ _ ([]:List (S86)) X ζ ι φ χ ρ _ ?side1 ?side2 ?side3 ?side4 A3.out).mono ?_);(case side1=>exact Kd.Jl _ _);(case side2=>exact Nat.le_refl _);(case side3=>exact Kd.Jl _ _);(case side4=>exact Nat.le_refl _);rintro e w9 ⟨aa,af,rfl,ai,aj,hb⟩;refine⟨_,rfl, ?_⟩;have γ:=aK (Kd.Za (Kd.J2 ai (g:=σ) (o:=.cells #[nI X,nI ζ,nI ι] 36 (0,0)) Y.out) (Qm HB.out));have δ :=aK (Kd.Za aj (Qm HB.out));replace O:=sBk O hb;replace Y:=sBk Y hb;replace HB:=sHb hb;(try clear hb);(try clear a4);(try clear hk);(try clear hi);(try clear ai);(try clear aj))|((with_reducible refine Qe (N:=5) rfl ?_);refine qE 5 #[.slice none 0 0,.slice none 0 0] 50 ?_;intro a7 hg fj hbox hb;have τ :=aK hbox;have a8:=sGe hg;have a9:=sGe hg;have θ :=sNl O hg;have κ :=sNg O hg;have ν :=sNl Y hg;have ξ :=sNg Y hg;replace γ:=sRb γ hb;replace δ :=sRb δ hb;replace O:=sBk O hb;replace Y:=sBk Y hb;replace HB:=sHb hb;clear hb hbox hg;obtain⟨a1,a3,μ⟩:=Kd.Q7 γ.out;subst μ;have e0:= κ.out;have e3:= θ.out;have ga:= ξ.out;have gb:= ν.out;obtain⟨cb,cd,ce,cf⟩:=qD2 τ.out;obtain⟨ci,cp,ch⟩:=Kd.Q7 δ.out;subst ch))
 go_ret
 exact⟨by first|rfl|(simp[Ql,Qk] <;> rfl)|(simp[*,Ql,Qk] <;> rfl),bel⟩
def group_Cost.f (k:Nat) (B:Int) (J:Int) (O:Int) (Y:Int) (Z:Int) (γ:Int) (δ :Int) (ε :Int) (θ :Int) (η :Int) (X:Int) (ζ :Int) (ι :Int) (ν :Int) (κ :Int) (ξ :Int) (ρ:Int) (ψ :Int) (a2:Bool) (a8:Bool) (σ:List Int) (τ :List Int) (a3:List Int) (a5:Int) (a7:Int) (a9:Int):Option (Int×Int):=(group_lift.f k B J O Y Z γ δ ε θ η X ζ ι ν κ ξ ρ ψ a2 a8).bind fun d2=>(if d2=true then ((collect_Check.f k B 0 0 false false σ τ a3).bind fun bo=>(if bo=0 then ((group_hall.f k B 8 a5 a7 a9).bind fun dv=>(if dv=true then ((group_cost.f k B J O Y Z γ δ ε θ η X ζ ι ν κ ξ ρ ψ a2 a8 σ τ a3 a5 a7 a9).bind fun dx=>(some (dx,0))) else (some (0,210)))) else (some (0,210)))) else (some (0,210)))
theorem group_Cost.mono:∀ B Z a2 a3 O a5 X a7 a8 a9 Y γ δ ζ ε η θ J ι κ μ ν ξ ρ σ τ k,LeO (group_Cost.f k B Z a2 a3 O a5 X a7 a8 a9 Y γ δ ζ ε η θ J ι κ μ ν ξ ρ σ τ) (group_Cost.f (k+1) B Z a2 a3 O a5 X a7 a8 a9 Y γ δ ζ ε η θ J ι κ μ ν ξ ρ σ τ):=by
 intro B Z a2 a3 O a5 X a7 a8 a9 Y γ δ ζ ε η θ J ι κ μ ν ξ ρ σ τ k
 unfold group_Cost.f
 repeat' first|(with_reducible first|apply collect_Check.mono|apply group_cost.mono|apply group_hall.mono|apply group_lift.mono|exact LeO.refl _|exact LeO.none _|refine LeO.ite ?_ ?_|refine LeO.bind ?_ (fun _=>?_))|apply collect_Check.mono|apply group_cost.mono|apply group_hall.mono|apply group_lift.mono|exact LeO.none _|refine LeO.ite ?_ ?_|refine LeO.bind ?_ (fun _=>?_)
theorem group_Cost.calls (k:Nat) (B:Int) (J:Int) (O:Int) (Y:Int) (Z:Int) (γ:Int) (δ :Int) (ε :Int) (θ :Int) (η :Int) (X:Int) (ζ :Int) (ι :Int) (ν :Int) (κ :Int) (ξ :Int) (ρ:Int) (ψ :Int) (a2:Bool) (a8:Bool) (aa:Option Addr) (ab:Nat) (σ:List Int) (ac:Option Addr) (ae:Nat) (τ :List Int) (al:Option Addr) (an:Nat) (a3:List Int) (a5:Int) (a7:Int) (a9:Int) (r1:Int) (r2:Int) (w:World) (ao:Kd.C (Kd.int .i64) w aa σ.length σ) (ap:σ.length≤ab) (ar:Kd.C (Kd.int .i64) w ac τ.length τ) (b5: τ.length≤ae) (br:Kd.C (Kd.int .i64) w al a3.length a3) (bw:a3.length≤an) (h:group_Cost.f k B J O Y Z γ δ ε θ η X ζ ι ν κ ξ ρ ψ a2 a8 σ τ a3 a5 a7 a9=some (r1,r2)):
 Calls Try.prog 10 #[.agg #[nI B,nI J,nI O,nI Y,nI Z,nI γ,nI δ,nI ε,nI θ,nI η],.agg #[nI X,nI ζ,nI ι,nI ν,nI κ,nI ξ,nI ρ,nI ψ,.bool a2,.bool a8],.agg #[.slice aa σ.length ab,.slice ac τ.length ae,.slice al a3.length an],.agg #[nI a5,nI a7,nI a9]] w fun e w'=>e = .returned (.tuple #[nI r1,nI r2])∧Below w.heap.size w w':=by
 have cj:=Try.underlying25
 have gl:=Try.underlying31
 have gq:=Try.underlying34
 have cg:=Try.underlying36
 have nc:=Try.underlying76
 have dw:=Try.underlying59
 have bm:=aK ao
 have bn:=aK ap
 clear ao ap
 have bp:=aK ar
 have bq:=aK b5
 clear ar b5
 have ct:=aK br
 have cy:=aK bw
 clear br bw
 have HB:=aK (Below.refl w.heap.size w)
 have H:((group_lift.f k B J O Y Z γ δ ε θ η X ζ ι ν κ ξ ρ ψ a2 a8).bind fun d2=>(if d2=true then ((collect_Check.f k B 0 0 false false σ τ a3).bind fun bo=>(if bo=0 then ((group_hall.f k B 8 a5 a7 a9).bind fun dv=>(if dv=true then ((group_cost.f k B J O Y Z γ δ ε θ η X ζ ι ν κ ξ ρ ψ a2 a8 σ τ a3 a5 a7 a9).bind fun dx=>(some (dx,0))) else (some (0,210)))) else (some (0,210)))) else (some (0,210))))=some (r1,r2):=h
 clear h
 obtain⟨d2,A5,H⟩:=qQ H
 by_cases c6:d2=true
 ·subst c6
  rw[if_pos rfl] at H
  obtain⟨bo,A7,H⟩:=qQ H
  by_cases c8:bo=0
  ·rw[if_pos c8] at H
   have c8b0:(bo==0)=true:=beq_iff_eq.mpr c8
   have c8b1:(bo != 0)=false:=bne_eq_false_iff_eq.mpr c8
   clear c8
   obtain⟨dv,A9,H⟩:=qQ H
   by_cases c10:dv=true
   ·subst c10
    rw[if_pos rfl] at H
    obtain⟨dx,bu,H⟩:=qQ H
    simp only[Option.some.injEq,Prod.mk.injEq] at H
    obtain⟨rfl,rfl⟩:=H
    go_enter Try.func10,Try.ntmps10
    go_wp2_with (first|((with_reducible refine Qe (N:=4) rfl ?_);refine qE 4 #[nI B,nI J,nI O,nI Y,nI Z,nI γ,nI δ,nI ε,nI θ,nI η] 25 ?_;intro bz hg dn hbox hb;have μ :=aK hbox;have ef:=sGe hg;have ca:=sGe hg;replace HB:=sHb hb;clear hb hbox hg)|((with_reducible refine Qe (N:=5) rfl ?_);refine qE 5 #[nI X,nI ζ,nI ι,nI ν,nI κ,nI ξ,nI ρ,nI ψ,.bool a2,.bool a8] 31 ?_;intro cd hg eh hbox hb;have a0:=aK hbox;have gt:=sGe hg;have ce:=sGe hg;have b6:=sNl μ hg;have b7:=sNg μ hg;replace μ :=sBk μ hb;replace HB:=sHb hb;clear hb hbox hg)|((with_reducible refine Qe (N:=6) rfl ?_);refine qE 6 #[.slice aa σ.length ab,.slice ac τ.length ae,.slice al a3.length an] 34 ?_;intro cf hg cb hbox hb;have a1:=aK hbox;have hj:=sGe hg;have ch:=sGe hg;have b8:=sNl μ hg;have b9:=sNg μ hg;have bc:=sNl a0 hg;have bd:=sNg a0 hg;replace μ :=sBk μ hb;replace a0:=sBk a0 hb;replace HB:=sHb hb;clear hb hbox hg)|((with_reducible refine Qe (N:=7) rfl ?_);refine qE 7 #[nI a5,nI a7,nI a9] 36 ?_;intro ci hg fb hbox hb;have af:=aK hbox;have hx:=sGe hg;have cr:=sGe hg;have be:=sNl μ hg;have bf:=sNg μ hg;have bg:=sNl a0 hg;have bh:=sNg a0 hg;have bk:=sNl a1 hg;have bl:=sNg a1 hg;replace μ :=sBk μ hb;replace a0:=sBk a0 hb;replace a1:=sBk a1 hb;replace HB:=sHb hb;clear hb hbox hg;have j9:=b6.out;have ja:=b7.out;have et:=b8.out;have gk:=b9.out;have db:=be.out;have dc:=bf.out;obtain⟨ag,ai,b3,ba,bb,cv,d7,dy,dz,gg,aj,am,b4,d8,d9,dd,de,gh,gi,gj⟩:=Zi μ.out;have eu:=bc.out;have ev:=bd.out;have em:=bg.out;have en:=bh.out;obtain⟨az,b0,d0,gw,gx,gy,gz,jc,jd,je,b1,b2,da,h0,h4,h5,h6,jf,jg,jh⟩:=Zi a0.out)|((with_reducible refine Qf (f:=28) rfl ?_);refine Q0 (some 12) rfl rfl Try.func28 kr rfl #[.agg #[nI B,nI J,nI O,nI Y,nI Z,nI γ,nI δ,nI ε,nI θ,nI η],.agg #[nI X,nI ζ,nI ι,nI ν,nI κ,nI ξ,nI ρ,nI ψ,.bool a2,.bool a8]] rfl qM ?_;(with_reducible refine(group_lift.calls k B J O Y Z γ δ ε θ η X ζ ι ν κ ξ ρ ψ a2 a8 true _ A5.out).mono ?_);rintro e bi ⟨rfl,hb⟩;refine⟨_,rfl, ?_⟩;replace μ :=sBk μ hb;replace a0:=sBk a0 hb;replace a1:=sBk a1 hb;replace af:=sBk af hb;replace HB:=sHb hb;(try clear hb);(try clear a4);(try clear hk);(try clear hi);obtain⟨au,av,bs,e0,e3,e4,e5,cq,dp,dq,aw,ax,bv,e6,e7,e8,e9,dr,fw,fx⟩:=Zi μ.out;have eo:=bk.out;have ep:=bl.out;obtain⟨ay,cu,df,cw,cx,dj⟩:=qD3 a1.out)|(go_at_call 29;(with_reducible refine(collect_Check.calls k B 0 0 false false (fun k_=>k_<w.heap.size) _ _ σ (fun k_=>k_<w.heap.size) _ _ τ (fun k_=>k_<w.heap.size) _ _ a3 bo _ ?side1 ?side2 ?side3 A7.out).mono ?_);(case side1=>exact Kd.Gw bn.out (Kd.Xw (Kd.C_F (Kd.Xn .i64) bm.out) (by repeat(first|(with_reducible first|exact HB.out|apply Qq|apply Qn|apply Qj|refine Qz ?_ ca.out|refine Qz ?_ ce.out|refine Qz ?_ ch.out|refine Qz ?_ cr.out)|exact HB.out))));(case side2=>exact Kd.Gw bq.out (Kd.Xw (Kd.C_F (Kd.Xn .i64) bp.out) (by repeat(first|(with_reducible first|exact HB.out|apply Qq|apply Qn|apply Qj|refine Qz ?_ ca.out|refine Qz ?_ ce.out|refine Qz ?_ ch.out|refine Qz ?_ cr.out)|exact HB.out))));(case side3=>exact Kd.Gw cy.out (Kd.Xw (Kd.C_F (Kd.Xn .i64) ct.out) (by repeat(first|(with_reducible first|exact HB.out|apply Qq|apply Qn|apply Qj|refine Qz ?_ ca.out|refine Qz ?_ ce.out|refine Qz ?_ ch.out|refine Qz ?_ cr.out)|exact HB.out))));rintro e dk ⟨rfl,hb⟩;have φ :=aK (Q1 (g:=bz) (o:=.cells #[nI B,nI J,nI O,nI Y,nI Z,nI γ,nI δ,nI ε,nI θ,nI η] 25 (0,0)) (by(with_reducible repeat first|refine Qi ?_ _|refine Qd ?_|refine Qh ?_ _);exact μ.out) hb);have χ :=aK (Q1 (g:=cd) (o:=.cells #[nI X,nI ζ,nI ι,nI ν,nI κ,nI ξ,nI ρ,nI ψ,.bool a2,.bool a8] 31 (0,0)) (by(with_reducible repeat first|refine Qi ?_ _|refine Qd ?_|refine Qh ?_ _);exact a0.out) hb);have ω :=aK (Q1 (g:=cf) (o:=.cells #[.slice aa σ.length ab,.slice ac τ.length ae,.slice al a3.length an] 34 (0,0)) (by(with_reducible repeat first|refine Qi ?_ _|refine Qd ?_|refine Qh ?_ _);exact a1.out) hb);have a6:=aK (Q1 (g:=ci) (o:=.cells #[nI a5,nI a7,nI a9] 36 (0,0)) (by(with_reducible repeat first|refine Qi ?_ _|refine Qd ?_|refine Qh ?_ _);exact af.out) hb);have ah:=aK (Q6 (by repeat(first|(with_reducible first|exact HB.out|apply Qq|apply Qn|apply Qj|refine Qz ?_ ca.out|refine Qz ?_ ce.out|refine Qz ?_ ch.out|refine Qz ?_ cr.out)|exact HB.out)) hb);clear μ;clear a0;clear a1;clear af;clear HB;have μ := φ;have a0:= χ;have a1:= ω;have af:=a6;have HB:=ah;clear φ χ ω a6 ah;(try clear hb);(try clear a4);(try clear hk);(try clear hi);obtain⟨ew,fk,fl,hl,jo,jp,jq,kq,l2,l3,ey,fm,fn,jr,jw,jx,jy,l4,l9,lb⟩:=Zi μ.out;obtain⟨fc,fe,ff,fg,fh,jb⟩:=qD3 af.out)|(go_at_call 30;(with_reducible refine(group_hall.calls k B 8 a5 a7 a9 true _ A9.out).mono ?_);rintro e eb ⟨rfl,hb⟩;have φ :=aK (Q1 (g:=bz) (o:=.cells #[nI B,nI J,nI O,nI Y,nI Z,nI γ,nI δ,nI ε,nI θ,nI η] 25 (0,0)) (by(with_reducible repeat first|refine Qi ?_ _|refine Qd ?_|refine Qh ?_ _);exact μ.out) hb);have χ :=aK (Q1 (g:=cd) (o:=.cells #[nI X,nI ζ,nI ι,nI ν,nI κ,nI ξ,nI ρ,nI ψ,.bool a2,.bool a8] 31 (0,0)) (by(with_reducible repeat first|refine Qi ?_ _|refine Qd ?_|refine Qh ?_ _);exact a0.out) hb);have ω :=aK (Q1 (g:=cf) (o:=.cells #[.slice aa σ.length ab,.slice ac τ.length ae,.slice al a3.length an] 34 (0,0)) (by(with_reducible repeat first|refine Qi ?_ _|refine Qd ?_|refine Qh ?_ _);exact a1.out) hb);have a6:=aK (Q1 (g:=ci) (o:=.cells #[nI a5,nI a7,nI a9] 36 (0,0)) (by(with_reducible repeat first|refine Qi ?_ _|refine Qd ?_|refine Qh ?_ _);exact af.out) hb);have ah:=aK (Q6 (by repeat(first|(with_reducible first|exact HB.out|apply Qq|apply Qn|apply Qj|refine Qz ?_ ca.out|refine Qz ?_ ce.out|refine Qz ?_ ch.out|refine Qz ?_ cr.out)|exact HB.out)) hb);clear μ;clear a0;clear a1;clear af;clear HB;have μ := φ;have a0:= χ;have a1:= ω;have af:=a6;have HB:=ah;clear φ χ ω a6 ah;(try clear hb);(try clear a4);(try clear hk);(try clear hi);obtain⟨bj,ck,dl,ii,ij,ik,j4,fp,fq,fr,cn,co,dm,j5,j6,j7,j8,ft,fu,ho⟩:=Zi μ.out;obtain⟨fy,fz,h7,it,iu,iv,iw,k1,k5,k6,ga,gb,h8,ix,iy,iz,j3,k7,k8,k9⟩:=Zi a0.out;obtain⟨d3,d4,dt,d5,d6,er⟩:=qD3 a1.out;obtain⟨cm,f8,ge,ed,fa,gf⟩:=qD3 af.out)|((with_reducible refine Qf (f:=31) rfl ?_);refine Q0 (some 34) rfl rfl Try.func31 kr rfl #[.agg #[nI B,nI J,nI O,nI Y,nI Z,nI γ,nI δ,nI ε,nI θ,nI η],.agg #[nI X,nI ζ,nI ι,nI ν,nI κ,nI ξ,nI ρ,nI ψ,.bool a2,.bool a8],.agg #[.slice aa σ.length ab,.slice ac τ.length ae,.slice al a3.length an],.agg #[nI a5,nI a7,nI a9]] rfl qM ?_;(with_reducible refine(group_cost.calls k B J O Y Z γ δ ε θ η X ζ ι ν κ ξ ρ ψ a2 a8 _ _ σ _ _ τ _ _ a3 a5 a7 a9 dx _ ?side1 ?side2 ?side3 ?side4 ?side5 ?side6 bu.out).mono ?_);(case side1=>exact(Kd.Qw bm.out HB.out));(case side2=>exact bn.out);(case side3=>exact(Kd.Qw bp.out HB.out));(case side4=>exact bq.out);(case side5=>exact(Kd.Qw ct.out HB.out));(case side6=>exact cy.out);rintro e jv ⟨rfl,hb⟩;refine⟨_,rfl, ?_⟩;replace μ :=sBk μ hb;replace a0:=sBk a0 hb;replace a1:=sBk a1 hb;replace af:=sBk af hb;replace HB:=sHb hb;(try clear hb);(try clear a4);(try clear hk);(try clear hi)))
    go_ret2
    exact⟨rfl,HB.out⟩
   ·replace c10:=Bool.eq_false_iff.mpr c10
    subst c10
    rw[if_neg nft] at H
    simp only[Option.some.injEq,Prod.mk.injEq] at H
    obtain⟨rfl,rfl⟩:=H
    go_enter Try.func10,Try.ntmps10
    go_wp2_with (first|((with_reducible refine Qe (N:=4) rfl ?_);refine qE 4 #[nI B,nI J,nI O,nI Y,nI Z,nI γ,nI δ,nI ε,nI θ,nI η] 25 ?_;intro bz hg ib hbox hb;have μ :=aK hbox;have ef:=sGe hg;have ca:=sGe hg;replace HB:=sHb hb;clear hb hbox hg)|((with_reducible refine Qe (N:=5) rfl ?_);refine qE 5 #[nI X,nI ζ,nI ι,nI ν,nI κ,nI ξ,nI ρ,nI ψ,.bool a2,.bool a8] 31 ?_;intro cd hg ky hbox hb;have a0:=aK hbox;have gt:=sGe hg;have ce:=sGe hg;have b6:=sNl μ hg;have b7:=sNg μ hg;replace μ :=sBk μ hb;replace HB:=sHb hb;clear hb hbox hg)|((with_reducible refine Qe (N:=6) rfl ?_);refine qE 6 #[.slice aa σ.length ab,.slice ac τ.length ae,.slice al a3.length an] 34 ?_;intro cf hg ea hbox hb;have a1:=aK hbox;have hj:=sGe hg;have ch:=sGe hg;have b8:=sNl μ hg;have b9:=sNg μ hg;have bc:=sNl a0 hg;have bd:=sNg a0 hg;replace μ :=sBk μ hb;replace a0:=sBk a0 hb;replace HB:=sHb hb;clear hb hbox hg)|((with_reducible refine Qe (N:=7) rfl ?_);refine qE 7 #[nI a5,nI a7,nI a9] 36 ?_;intro ci hg kz hbox hb;have af:=aK hbox;have hx:=sGe hg;have cr:=sGe hg;have be:=sNl μ hg;have bf:=sNg μ hg;have bg:=sNl a0 hg;have bh:=sNg a0 hg;have bk:=sNl a1 hg;have bl:=sNg a1 hg;replace μ :=sBk μ hb;replace a0:=sBk a0 hb;replace a1:=sBk a1 hb;replace HB:=sHb hb;clear hb hbox hg;have cz:=b6.out;have fo:=b7.out;have n1:=b8.out;have n2:=b9.out;have ic:=be.out;have ie:=bf.out;obtain⟨k4,ka,kb,kc,kd,ke,kf,nf,ng,nh,kg,kh,ki,kj,kk,kl,km,ni,nj,nk⟩:=Zi μ.out;have i1:=bc.out;have i2:=bd.out;have gm:=bg.out;have gn:=bh.out;obtain⟨jz,k0,lf,lg,lh,ll,lm,nl,nm,nn,k2,k3,ln,lp,lq,lr,ls,nx,ny,nz⟩:=Zi a0.out)|((with_reducible refine Qf (f:=28) rfl ?_);refine Q0 (some 12) rfl rfl Try.func28 kr rfl #[.agg #[nI B,nI J,nI O,nI Y,nI Z,nI γ,nI δ,nI ε,nI θ,nI η],.agg #[nI X,nI ζ,nI ι,nI ν,nI κ,nI ξ,nI ρ,nI ψ,.bool a2,.bool a8]] rfl qM ?_;(with_reducible refine(group_lift.calls k B J O Y Z γ δ ε θ η X ζ ι ν κ ξ ρ ψ a2 a8 true _ A5.out).mono ?_);rintro e ak ⟨rfl,hb⟩;refine⟨_,rfl, ?_⟩;replace μ :=sBk μ hb;replace a0:=sBk a0 hb;replace a1:=sBk a1 hb;replace af:=sBk af hb;replace HB:=sHb hb;(try clear hb);(try clear a4);(try clear hk);(try clear hi);obtain⟨i5,i6,lc,mg,mh,mi,mj,o0,o1,o2,i7,i9,ml,mm,mo,mq,mr,o3,o4,oh⟩:=Zi μ.out;have gu:=bk.out;have gv:=bl.out;obtain⟨fv,iq,ir,i3,kn,ko⟩:=qD3 a1.out)|(go_at_call 29;(with_reducible refine(collect_Check.calls k B 0 0 false false (fun k_=>k_<w.heap.size) _ _ σ (fun k_=>k_<w.heap.size) _ _ τ (fun k_=>k_<w.heap.size) _ _ a3 bo _ ?side1 ?side2 ?side3 A7.out).mono ?_);(case side1=>exact Kd.Gw bn.out (Kd.Xw (Kd.C_F (Kd.Xn .i64) bm.out) HB.out));(case side2=>exact Kd.Gw bq.out (Kd.Xw (Kd.C_F (Kd.Xn .i64) bp.out) HB.out));(case side3=>exact Kd.Gw cy.out (Kd.Xw (Kd.C_F (Kd.Xn .i64) ct.out) HB.out));rintro e qi ⟨rfl,hb⟩;have φ :=aK (Q1 (g:=bz) (o:=.cells #[nI B,nI J,nI O,nI Y,nI Z,nI γ,nI δ,nI ε,nI θ,nI η] 25 (0,0)) μ.out hb);have χ :=aK (Q1 (g:=cd) (o:=.cells #[nI X,nI ζ,nI ι,nI ν,nI κ,nI ξ,nI ρ,nI ψ,.bool a2,.bool a8] 31 (0,0)) a0.out hb);have ω :=aK (Q1 (g:=cf) (o:=.cells #[.slice aa σ.length ab,.slice ac τ.length ae,.slice al a3.length an] 34 (0,0)) a1.out hb);have a6:=aK (Q1 (g:=ci) (o:=.cells #[nI a5,nI a7,nI a9] 36 (0,0)) af.out hb);have ah:=aK (Q6 HB.out hb);clear μ;clear a0;clear a1;clear af;clear HB;have μ := φ;have a0:= χ;have a1:= ω;have af:=a6;have HB:=ah;clear φ χ ω a6 ah;(try clear hb);(try clear a4);(try clear hk);(try clear hi);obtain⟨cp,d1,ma,oi,oj,ol,om,oo,oq,ot,ei,ej,mb,ou,ov,ow,ox,oy,oz,p0⟩:=Zi μ.out;obtain⟨dh,di,ez,ec,ee,f7⟩:=qD3 af.out)|(go_at_call 30;(with_reducible refine(group_hall.calls k B 8 a5 a7 a9 false _ A9.out).mono ?_);rintro e mz ⟨rfl,hb⟩;have φ :=aK (Q1 (g:=bz) (o:=.cells #[nI B,nI J,nI O,nI Y,nI Z,nI γ,nI δ,nI ε,nI θ,nI η] 25 (0,0)) μ.out hb);have χ :=aK (Q1 (g:=cd) (o:=.cells #[nI X,nI ζ,nI ι,nI ν,nI κ,nI ξ,nI ρ,nI ψ,.bool a2,.bool a8] 31 (0,0)) a0.out hb);have ω :=aK (Q1 (g:=cf) (o:=.cells #[.slice aa σ.length ab,.slice ac τ.length ae,.slice al a3.length an] 34 (0,0)) a1.out hb);have a6:=aK (Q1 (g:=ci) (o:=.cells #[nI a5,nI a7,nI a9] 36 (0,0)) af.out hb);have ah:=aK (Q6 HB.out hb);clear μ;clear a0;clear a1;clear af;clear HB;have μ := φ;have a0:= χ;have a1:= ω;have af:=a6;have HB:=ah;clear φ χ ω a6 ah;(try clear hb);(try clear a4);(try clear hk);(try clear hi)))
    go_ret2
    exact⟨rfl,HB.out⟩
  ·rw[if_neg c8] at H
   have c8b0:(bo==0)=false:=beq_eq_false_iff_ne.mpr c8
   have c8b1:(bo != 0)=true:=bne_iff_ne.mpr c8
   simp only[Option.some.injEq,Prod.mk.injEq] at H
   obtain⟨rfl,rfl⟩:=H
   go_enter Try.func10,Try.ntmps10
   go_wp2_with (first|((with_reducible refine Qe (N:=4) rfl ?_);refine qE 4 #[nI B,nI J,nI O,nI Y,nI Z,nI γ,nI δ,nI ε,nI θ,nI η] 25 ?_;intro bz hg hy hbox hb;have μ :=aK hbox;have ef:=sGe hg;have ca:=sGe hg;replace HB:=sHb hb;clear hb hbox hg)|((with_reducible refine Qe (N:=5) rfl ?_);refine qE 5 #[nI X,nI ζ,nI ι,nI ν,nI κ,nI ξ,nI ρ,nI ψ,.bool a2,.bool a8] 31 ?_;intro cd hg du hbox hb;have a0:=aK hbox;have gt:=sGe hg;have ce:=sGe hg;have b6:=sNl μ hg;have b7:=sNg μ hg;replace μ :=sBk μ hb;replace HB:=sHb hb;clear hb hbox hg)|((with_reducible refine Qe (N:=6) rfl ?_);refine qE 6 #[.slice aa σ.length ab,.slice ac τ.length ae,.slice al a3.length an] 34 ?_;intro cf hg n3 hbox hb;have a1:=aK hbox;have hj:=sGe hg;have ch:=sGe hg;have b8:=sNl μ hg;have b9:=sNg μ hg;have bc:=sNl a0 hg;have bd:=sNg a0 hg;replace μ :=sBk μ hb;replace a0:=sBk a0 hb;replace HB:=sHb hb;clear hb hbox hg)|((with_reducible refine Qe (N:=7) rfl ?_);refine qE 7 #[nI a5,nI a7,nI a9] 36 ?_;intro ci hg na hbox hb;have af:=aK hbox;have hx:=sGe hg;have cr:=sGe hg;have be:=sNl μ hg;have bf:=sNg μ hg;have bg:=sNl a0 hg;have bh:=sNg a0 hg;have bk:=sNl a1 hg;have bl:=sNg a1 hg;replace μ :=sBk μ hb;replace a0:=sBk a0 hb;replace a1:=sBk a1 hb;replace HB:=sHb hb;clear hb hbox hg;have l5:=b6.out;have l6:=b7.out;have i4:=b8.out;have ia:=b9.out;have jm:=be.out;have jn:=bf.out;obtain⟨kt,ku,nd,no,np,nq,nr,p1,p5,p6,kv,kw,ns,nt,nu,nv,nw,p7,p8,p9⟩:=Zi μ.out;have ji:=bc.out;have jj:=bd.out;have fi:=bg.out;have fj:=bh.out;obtain⟨ek,el,lx,ly,lz,m0,m1,mc,me,mf,he,hh,m2,m3,m4,m5,m6,ms,mt,mu⟩:=Zi a0.out)|((with_reducible refine Qf (f:=28) rfl ?_);refine Q0 (some 12) rfl rfl Try.func28 kr rfl #[.agg #[nI B,nI J,nI O,nI Y,nI Z,nI γ,nI δ,nI ε,nI θ,nI η],.agg #[nI X,nI ζ,nI ι,nI ν,nI κ,nI ξ,nI ρ,nI ψ,.bool a2,.bool a8]] rfl qM ?_;(with_reducible refine(group_lift.calls k B J O Y Z γ δ ε θ η X ζ ι ν κ ξ ρ ψ a2 a8 true _ A5.out).mono ?_);rintro e n0 ⟨rfl,hb⟩;refine⟨_,rfl, ?_⟩;replace μ :=sBk μ hb;replace a0:=sBk a0 hb;replace a1:=sBk a1 hb;replace af:=sBk af hb;replace HB:=sHb hb;(try clear hb);(try clear a4);(try clear hk);(try clear hi);obtain⟨eg,js,o5,o6,o7,o8,o9,pa,pb,pc,jt,ju,oa,ob,oc,od,oe,pd,pe,pf⟩:=Zi μ.out;have io:=bk.out;have ip:=bl.out;obtain⟨i0,ig,lu,ih,il,lv⟩:=qD3 a1.out)|(go_at_call 29;(with_reducible refine(collect_Check.calls k B 0 0 false false (fun k_=>k_<w.heap.size) _ _ σ (fun k_=>k_<w.heap.size) _ _ τ (fun k_=>k_<w.heap.size) _ _ a3 bo _ ?side1 ?side2 ?side3 A7.out).mono ?_);(case side1=>exact Kd.Gw bn.out (Kd.Xw (Kd.C_F (Kd.Xn .i64) bm.out) HB.out));(case side2=>exact Kd.Gw bq.out (Kd.Xw (Kd.C_F (Kd.Xn .i64) bp.out) HB.out));(case side3=>exact Kd.Gw cy.out (Kd.Xw (Kd.C_F (Kd.Xn .i64) ct.out) HB.out));rintro e qe ⟨rfl,hb⟩;have φ :=aK (Q1 (g:=bz) (o:=.cells #[nI B,nI J,nI O,nI Y,nI Z,nI γ,nI δ,nI ε,nI θ,nI η] 25 (0,0)) μ.out hb);have χ :=aK (Q1 (g:=cd) (o:=.cells #[nI X,nI ζ,nI ι,nI ν,nI κ,nI ξ,nI ρ,nI ψ,.bool a2,.bool a8] 31 (0,0)) a0.out hb);have ω :=aK (Q1 (g:=cf) (o:=.cells #[.slice aa σ.length ab,.slice ac τ.length ae,.slice al a3.length an] 34 (0,0)) a1.out hb);have a6:=aK (Q1 (g:=ci) (o:=.cells #[nI a5,nI a7,nI a9] 36 (0,0)) af.out hb);have ah:=aK (Q6 HB.out hb);clear μ;clear a0;clear a1;clear af;clear HB;have μ := φ;have a0:= χ;have a1:= ω;have af:=a6;have HB:=ah;clear φ χ ω a6 ah;(try clear hb);(try clear a4);(try clear hk);(try clear hi)))
   go_ret2
   exact⟨rfl,HB.out⟩
 ·replace c6:=Bool.eq_false_iff.mpr c6
  subst c6
  rw[if_neg nft] at H
  simp only[Option.some.injEq,Prod.mk.injEq] at H
  obtain⟨rfl,rfl⟩:=H
  go_enter Try.func10,Try.ntmps10
  go_wp2_with (first|((with_reducible refine Qe (N:=4) rfl ?_);refine qE 4 #[nI B,nI J,nI O,nI Y,nI Z,nI γ,nI δ,nI ε,nI θ,nI η] 25 ?_;intro bz hg qf hbox hb;have μ :=aK hbox;have ef:=sGe hg;have ca:=sGe hg;replace HB:=sHb hb;clear hb hbox hg)|((with_reducible refine Qe (N:=5) rfl ?_);refine qE 5 #[nI X,nI ζ,nI ι,nI ν,nI κ,nI ξ,nI ρ,nI ψ,.bool a2,.bool a8] 31 ?_;intro cd hg nb hbox hb;have a0:=aK hbox;have gt:=sGe hg;have ce:=sGe hg;have b6:=sNl μ hg;have b7:=sNg μ hg;replace μ :=sBk μ hb;replace HB:=sHb hb;clear hb hbox hg)|((with_reducible refine Qe (N:=6) rfl ?_);refine qE 6 #[.slice aa σ.length ab,.slice ac τ.length ae,.slice al a3.length an] 34 ?_;intro cf hg qh hbox hb;have a1:=aK hbox;have hj:=sGe hg;have ch:=sGe hg;have b8:=sNl μ hg;have b9:=sNg μ hg;have bc:=sNl a0 hg;have bd:=sNg a0 hg;replace μ :=sBk μ hb;replace a0:=sBk a0 hb;replace HB:=sHb hb;clear hb hbox hg)|((with_reducible refine Qe (N:=7) rfl ?_);refine qE 7 #[nI a5,nI a7,nI a9] 36 ?_;intro ci hg qg hbox hb;have af:=aK hbox;have hx:=sGe hg;have cr:=sGe hg;have be:=sNl μ hg;have bf:=sNg μ hg;have bg:=sNl a0 hg;have bh:=sNg a0 hg;have bk:=sNl a1 hg;have bl:=sNg a1 hg;replace μ :=sBk μ hb;replace a0:=sBk a0 hb;replace a1:=sBk a1 hb;replace HB:=sHb hb;clear hb hbox hg;have l7:=b6.out;have l8:=b7.out;have gp:=b8.out;have hu:=b9.out;have ks:=be.out;have kx:=bf.out;obtain⟨gr,gs,mw,pg,pi,pj,pk,pm,pn,po,im,kp,my,pp,pq,pr,pt,pu,pv,pw⟩:=Zi μ.out;have jk:=bc.out;have jl:=bd.out;have h9:=bg.out;have ha:=bh.out;obtain⟨lw,m7,px,py,pz,q0,q1,q2,q3,q4,m8,m9,q5,q6,q7,q8,q9,qa,qb,qd⟩:=Zi a0.out)|((with_reducible refine Qf (f:=28) rfl ?_);refine Q0 (some 12) rfl rfl Try.func28 kr rfl #[.agg #[nI B,nI J,nI O,nI Y,nI Z,nI γ,nI δ,nI ε,nI θ,nI η],.agg #[nI X,nI ζ,nI ι,nI ν,nI κ,nI ξ,nI ρ,nI ψ,.bool a2,.bool a8]] rfl qM ?_;(with_reducible refine(group_lift.calls k B J O Y Z γ δ ε θ η X ζ ι ν κ ξ ρ ψ a2 a8 false _ A5.out).mono ?_);rintro e qj ⟨rfl,hb⟩;refine⟨_,rfl, ?_⟩;replace μ :=sBk μ hb;replace a0:=sBk a0 hb;replace a1:=sBk a1 hb;replace af:=sBk af hb;replace HB:=sHb hb;(try clear hb);(try clear a4);(try clear hk);(try clear hi)))
  go_ret2
  exact⟨rfl,HB.out⟩
end Go.Proofs.Ytmfffemidlhcpaa.C
