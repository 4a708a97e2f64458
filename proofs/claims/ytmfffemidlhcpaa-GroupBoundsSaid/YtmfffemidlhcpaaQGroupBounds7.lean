/- Texts of this claim, one behind the other: what the law's functions come to, walked (printed by a program, with the words that the print uses), and what that is, in plain Lean. No conditions of their own. -/
import Derived.Test.YtmfffemidlhcpaaQGroupBounds6
import Derived.WalkSpells
namespace Go.Proofs.Ytmfffemidlhcpaa.C
open Go.RowKit Go.Proofs.YtmfffemidlhcpaaW.PrintWords Go.Proofs.YtmfffemidlhcpaaW.PrintLast Go.Proofs.YtmfffemidlhcpaaW.PrintMore
attribute [local go_sem] Z1 Zz Z9 Z8 Zq Zp Z0 Zy
set_option linter.unusedVariables false
set_option linter.unusedSimpArgs false
def api_Hall_88.f (l0:List S36):Option (List S36):=if l0.length<1000000000 then some l0 else none
set_option maxRecDepth 100000 in
set_option maxHeartbeats 1000000 in
theorem api_Hall_88.calls (A0:Option Addr) (c0:Nat) (l0:List S36) (r:List S36) (w:World) (τ :Kd.C k36 w A0 l0.length l0) (γ:l0.length≤c0) (h:api_Hall_88.f l0=some r):
    Calls Try.prog 88 #[.slice A0 l0.length c0] w fun e w'=>∃ bk:Value,e = .returned bk∧Kd.R k36 36 w' w.heap.size (fun _=>True) bk r∧Below w.heap.size w w':=by
  unfold api_Hall_88.f at h
  split at h
  case isFalse=>cases h
  case isTrue hl=>
  cases h
  have HR:=Aside0.mk τ
  have HC:=Aside0.mk γ
  have HL:=Aside0.mk hl
  have HB:=Aside0.mk (Below.refl w.heap.size w)
  have hn:A0=none→l0 = []:=by
    intro hA
    rcases Nat.eq_zero_or_pos l0.length with h|h
    · exact List.eq_nil_of_length_eq_zero h
    · obtain⟨ad,e,_⟩:= τ.2.2 h
      rw[hA] at e
      cases e
  clear τ γ hl
  have hEq:∀ (W:World),(binOp .eql 47 (.slice A0 l0.length c0) (.slice none 0 0)).run Try.prog W = .ok (.bool A0.isNone) W:=fun W=>Lib.run_eql_slice_nil W _ _ _ _ _ _ _ Try.underlying47
  rcases A0 with _|ad
  · have B:=Aside0.mk (hn rfl)
    clear hn
    go_enter Try.func88,Try.ntmps88
    go_wp2
    go_ret
    rw[B.out]
    exact⟨_,rfl,Kd.Xw _ _ _ _ _,HB.out⟩
  · clear hn
    go_enter Try.func88,Try.ntmps88
    go_wp2_with (first|((with_reducible refine Qr (N:=5) rfl ?_);refine Kd.G6 k36 _ 36 ?hg (N:=5) ?hd (xs:=([]:List S36)) (inner:=[]) (ok:=fun _=>True) (okp:=fun _=>True) ?hr ?hp (fun _ hk=>hk) trivial (Below.refl _ _) (Nat.le_refl _) (by simp) ?_;(case hd=>rfl);(case hg=>rfl);(case hr=>first|(go_simp;done)|(go_simp;rfl));(case hp=>exact(Reps.none _ _));intro v1 w1 ci J hg_ hnew_;clear hg_ hnew_;have HO:=Aside0.mk ci;have L:=Aside0.mk J;clear ci J)|((with_reducible refine Xq (b:=.append) (xs:=#[.tmp 5,.tmp 6]) rfl ?_);at_builtin;refine Kd.Jr k36 (w0:=w) w.heap.size rfl (.tmp 5) (.tmp 6) 47 36 (.agg #[(.int .i64 0),(.int .i64 0),(.int .i64 0)]) 24 rfl Try.underlying47 Ga rfl (by decide) (by omega) v1 [] l0 _ _ _ (fun _=>True) (fun _=>False) rfl rfl ?aO ?aR (fun _ _ h=>h) (fun _ h=>h.elim) ?aF ?aB ?aS ?aL ?_;(case aR=>exact(Kd.Q0 HR.out L.out));(case aB=>exact L.out);(case aF=>exact(fun _ _=>trivial));(case aO=>exact HO.out);(case aS=>exact Qi L.out);(case aL=>have:=HL.out;simp only[List.length_nil];omega);intro v2 w2 ho hb hg hat;clear hg hat))
    go_ret
    exact⟨_,rfl,by simpa using ho,hb⟩
def api_Inside_91.f (l0:List S86):Option (List S86):=if l0.length<1000000000 then some l0 else none
set_option maxRecDepth 100000 in
set_option maxHeartbeats 1000000 in
theorem api_Inside_91.calls (A0:Option Addr) (c0:Nat) (l0:List S86) (r:List S86) (w:World) (τ :Kd.C k86 w A0 l0.length l0) (γ:l0.length≤c0) (h:api_Inside_91.f l0=some r):
    Calls Try.prog 91 #[.slice A0 l0.length c0] w fun e w'=>∃ bk:Value,e = .returned bk∧Kd.R k86 86 w' w.heap.size (fun _=>True) bk r∧Below w.heap.size w w':=by
  unfold api_Inside_91.f at h
  split at h
  case isFalse=>cases h
  case isTrue hl=>
  cases h
  have HR:=Aside0.mk τ
  have HC:=Aside0.mk γ
  have HL:=Aside0.mk hl
  have HB:=Aside0.mk (Below.refl w.heap.size w)
  have hn:A0=none→l0 = []:=by
    intro hA
    rcases Nat.eq_zero_or_pos l0.length with h|h
    · exact List.eq_nil_of_length_eq_zero h
    · obtain⟨ad,e,_⟩:= τ.2.2 h
      rw[hA] at e
      cases e
  clear τ γ hl
  have hEq:∀ (W:World),(binOp .eql 48 (.slice A0 l0.length c0) (.slice none 0 0)).run Try.prog W = .ok (.bool A0.isNone) W:=fun W=>Lib.run_eql_slice_nil W _ _ _ _ _ _ _ Try.underlying48
  rcases A0 with _|ad
  · have B:=Aside0.mk (hn rfl)
    clear hn
    go_enter Try.func91,Try.ntmps91
    go_wp2
    go_ret
    rw[B.out]
    exact⟨_,rfl,Kd.Xw _ _ _ _ _,HB.out⟩
  · clear hn
    go_enter Try.func91,Try.ntmps91
    go_wp2_with (first|((with_reducible refine Qr (N:=5) rfl ?_);refine Kd.G6 k86 _ 86 ?hg (N:=5) ?hd (xs:=([]:List S86)) (inner:=[]) (ok:=fun _=>True) (okp:=fun _=>True) ?hr ?hp (fun _ hk=>hk) trivial (Below.refl _ _) (Nat.le_refl _) (by simp) ?_;(case hd=>rfl);(case hg=>rfl);(case hr=>first|(go_simp;done)|(go_simp;rfl));(case hp=>exact(Reps.none _ _));intro v1 w1 ci J hg_ hnew_;clear hg_ hnew_;have HO:=Aside0.mk ci;have L:=Aside0.mk J;clear ci J)|((with_reducible refine Xq (b:=.append) (xs:=#[.tmp 5,.tmp 6]) rfl ?_);at_builtin;refine Kd.Jr k86 (w0:=w) w.heap.size rfl (.tmp 5) (.tmp 6) 48 86 (.agg #[(.int .i64 0),(.int .i64 0)]) 16 rfl Try.underlying48 K9 rfl (by decide) (by omega) v1 [] l0 _ _ _ (fun _=>True) (fun _=>False) rfl rfl ?aO ?aR (fun _ _ h=>h) (fun _ h=>h.elim) ?aF ?aB ?aS ?aL ?_;(case aR=>exact(Kd.Q0 HR.out L.out));(case aB=>exact L.out);(case aF=>exact(fun _ _=>trivial));(case aO=>exact HO.out);(case aS=>exact Qi L.out);(case aL=>have:=HL.out;simp only[List.length_nil];omega);intro v2 w2 ho hb hg hat;clear hg hat))
    go_ret
    exact⟨_,rfl,by simpa using ho,hb⟩
def woI (B J:Int) (l:List S86):List S86:=l.filter (fun y=> !(X5 B J y.f0 y.f1==0))
set_option maxRecDepth 100000 in
set_option maxHeartbeats 2000000 in
theorem G8 (A:Option Addr) (c:Nat) (l:List S86) (B J:Int) (w:World) (hr:Kd.C k86 w A l.length l) (hc:l.length≤c) (hl:l.length<1000000000) (ar: -9223372036854775808≤J∧J≤9223372036854775807):
    Calls Try.prog 75 #[.agg #[.slice A l.length c,.func (.func 83) #[] #[]],.agg #[.int .i64 B,.int .i64 J]] w fun e w'=>∃ bk:Value,e = .returned bk∧Kd.R k86 86 w' w.heap.size (fun _=>True) bk (woI B J l)∧Below w.heap.size w w':=by
  have HR:=Aside0.mk hr
  have HC:=Aside0.mk hc
  have HF:=Aside0.mk (show api_Inside_91.f l=some l by unfold api_Inside_91.f;rw[if_pos hl])
  have HB:=Aside0.mk (Below.refl w.heap.size w)
  have HD:=Aside0.mk (show api_Inside_90.f (l.length+6) l (tok B J)=some (woI B J l) by
    rw[Call.Nc l (tok B J) (by omega) _ (by omega)]
    show some (l.filter (fun y=> !(X5 (Ya (tok B J)) (X9 (tok B J)) y.f0 y.f1==0)))=_
    rw[J4 B J ar,J3 B J ar]
    rfl)
  have T1:=Aside0.mk (J4 B J ar)
  have T2:=Aside0.mk (J3 B J ar)
  clear hr hc hl ar
  go_enter Try.func75,Try.ntmps75
  go_wp2_with (first|((with_reducible refine Qr (N:=2) rfl ?_);refine Qq ?hg (N:=2) ?hd (cs:=#[.slice A l.length c,.func (.func 83) #[] #[]]) (t:=116) ?hr ?_;(case hd=>rfl);(case hg=>rfl);(case hr=>first|(go_simp;done)|(go_simp;rfl));intro g2 hg_ w2 hbox hb;have L:=Aside0.mk (Qj HB.out hb);have O:=Aside0.mk hbox;clear HB;have HB:=L;have X:=O;clear L O;clear hb hbox hg_)|((with_reducible refine Qr (N:=3) rfl ?_);refine Qq ?hg (N:=3) ?hd (cs:=#[.int .i64 B,.int .i64 J]) (t:=86) ?hr ?_;(case hd=>rfl);(case hg=>rfl);(case hr=>first|(go_simp;done)|(go_simp;rfl));intro g3 hg_ w3 hbox hb;have γ:=Aside0.mk (Qh (g:=g2) (o:=.cells #[.slice A l.length c,.func (.func 83) #[] #[]] 116 (0,0)) X.out hb);have L:=Aside0.mk (Qj HB.out hb);have O:=Aside0.mk hbox;clear HB X;have HB:=L;have Y:=O;have X:=γ;clear L O γ;clear hb hbox hg_;have δ :w3.cell? ⟨g2,0,none⟩=some (.slice A l.length c):=(Qk X.out 0).trans rfl;have ε :w3.cell? ⟨g2,1,none⟩=some (.func (.func 83) #[] #[]):=(Qk X.out 1).trans rfl)|(go_at_call 91;((with_reducible refine(api_Inside_91.calls A c l l _ ?side1 ?side2 HF.out).mono ?_);(case side1=>exact Kd.Q0 HR.out HB.out);(case side2=>exact HC.out);rintro e w4 ⟨v4,rfl,bb,hb⟩;have ζ :=Aside0.mk (Nat.not_le.2 (Qp X.out));have θ :=Aside0.mk (Nat.not_le.2 (Qp Y.out));have γ:=Aside0.mk (Kd.Zg (Kd.Q5 (Kd.Xr bb) (fun k_ hk=>hk.2.1)) HB.out.size);have Z:=Aside0.mk (Qh (g:=g2) (o:=.cells #[.slice A l.length c,.func (.func 83) #[] #[]] 116 (0,0)) X.out hb);have η :=Aside0.mk (Qh (g:=g3) (o:=.cells #[.int .i64 B,.int .i64 J] 86 (0,0)) Y.out hb);have L:=Aside0.mk (Qj HB.out hb);clear HB X Y;have HB:=L;have X:=Z;have Y:= η;have HO:=γ;clear L γ Z η hb bb))|(go_at_call 90;((with_reducible refine(api_Inside_90.calls (l.length+6) _ v4 l (tok B J) _ w w4 HB.out HO.out HD.out A l.length c g2 g3 0 X.out ?hx ζ.out θ.out).mono ?_);(case hx=>rw[T1.out,T2.out];exact Y.out);rintro e w5 ⟨v5,rfl,bb,hb,hk⟩;have ι :=Aside0.mk bb;have κ :=Aside0.mk hb;clear bb hb hk)))
  go_ret
  exact⟨_,rfl,Kd.Q5 ι.out (fun _ _=>trivial),κ.out⟩
set_option maxRecDepth 100000 in
set_option maxHeartbeats 1000000 in
theorem Ju (A0 A1:Option Addr) (J Z c0 c1:Nat) (w:World):
    Calls Try.prog 63 #[.agg #[.slice A0 J c0,.slice A1 Z c1]] w fun e w'=>e = .returned (.agg #[.slice A0 J c0,.func (.func 79) #[] #[]])∧Below w.heap.size w w':=by
  have HB:=Aside0.mk (Below.refl w.heap.size w)
  go_enter Try.func63,Try.ntmps63
  go_wp2_with (first|((with_reducible refine Qr (N:=1) rfl ?_);refine Qq ?hg (N:=1) ?hd (cs:=#[.slice A0 J c0,.slice A1 Z c1]) (t:=50) ?hr ?_;(case hd=>rfl);(case hg=>rfl);(case hr=>first|(go_simp;done)|(go_simp;rfl));intro Y hg_ w1 hbox hb;have L:=Aside0.mk (Qj HB.out hb);have O:=Aside0.mk hbox;clear HB;have HB:=L;have B:=O;clear L O;clear hb hbox hg_)|((with_reducible refine Qr (N:=2) rfl ?_);refine Qq ?hg (N:=2) ?hd (cs:=#[.slice none 0 0,.nilFunc]) (t:=109) ?hr ?_;(case hd=>rfl);(case hg=>rfl);(case hr=>first|(go_simp;done)|(go_simp;rfl));intro g2 hg_ w2 hbox hb;have GEs:=Aside0.mk HB.out.size;have GEl:=Aside0.mk (Qp B.out);have γ:=Aside0.mk (Qh (g:=Y) (o:=.cells #[.slice A0 J c0,.slice A1 Z c1] 50 (0,0)) B.out hb);have L:=Aside0.mk (Qj HB.out hb);have O:=Aside0.mk hbox;clear HB B;have HB:=L;have X:=O;have B:=γ;clear L O γ;have ζ :=Aside0.mk (by rw[hg_];exact GEs.out:w.heap.size≤g2);have NB:=Aside0.mk (by rw[hg_];exact Nat.ne_of_lt GEl.out:Y≠g2);clear hb hbox hg_;have hnb:=NB.out;have δ :w2.cell? ⟨Y,0,none⟩=some (.slice A0 J c0):=(Qk B.out 0).trans rfl;have ε :w2.cell? ⟨Y,1,none⟩=some (.slice A1 Z c1):=(Qk B.out 1).trans rfl;have η :w2.cell? ⟨g2,0,none⟩=some (.slice none 0 0):=(Qk X.out 0).trans rfl;have θ :w2.cell? ⟨g2,1,none⟩=some (.nilFunc):=(Qk X.out 1).trans rfl;have ι :=Qz X.out 0;have κ :=Qz X.out 1))
  refine bodyPost_ret (results_cell_row rfl _ _ g2 109 #[.slice A0 J c0,.func (.func 79) #[] #[]] (0,0) _ rfl (by refine Qu (cs:=#[.slice A0 J c0,.nilFunc]) ?_ 1 _ rfl;refine Qu (cs:=#[.slice none 0 0,.nilFunc]) ?_ 0 _ rfl;exact X.out) Try.underlying109 rfl kr) rfl ?_
  exact⟨rfl,Qa (Qa HB.out ζ.out) ζ.out⟩
set_option maxRecDepth 100000 in
set_option maxHeartbeats 1000000 in
theorem Jf (F C:Int) (w:World):
    Calls Try.prog 65 #[.agg #[.int .i64 F,.int .i64 C]] w fun e w'=>∃ g:Nat,e = .returned (.func (.func 82) #[] #[.pointer (some ⟨g,0,none⟩)])∧w'.heap[g]?=some (.cells #[.int .i64 F,.int .i64 C] 59 (0,0))∧w.heap.size≤g∧Below w.heap.size w w':=by
  have HB:=Aside0.mk (Below.refl w.heap.size w)
  go_enter Try.func65,Try.ntmps65
  go_wp2_with (first|((with_reducible refine Qr (N:=1) rfl ?_);refine Qq ?hg (N:=1) ?hd (cs:=#[.int .i64 F,.int .i64 C]) (t:=59) ?hr ?_;(case hd=>rfl);(case hg=>rfl);(case hr=>first|(go_simp;done)|(go_simp;rfl));intro Y hg_ w1 hbox hb;have GEs:=Aside0.mk HB.out.size;have L:=Aside0.mk (Qj HB.out hb);have O:=Aside0.mk hbox;clear HB;have HB:=L;have B:=O;clear L O;have J:=Aside0.mk (by rw[hg_];exact GEs.out:w.heap.size≤Y);clear hb hbox hg_))
  go_ret
  exact⟨_,rfl,B.out,J.out,HB.out⟩
set_option maxRecDepth 100000 in
set_option maxHeartbeats 1000000 in
theorem K3 (A0 A1:Option Addr) (J Z c0 c1:Nat) (w:World):
    Calls Try.prog 66 #[.agg #[.slice A0 J c0,.slice A1 Z c1]] w fun e w'=>e = .returned (.agg #[.slice A1 Z c1,.func (.func 83) #[] #[]])∧Below w.heap.size w w':=by
  have HB:=Aside0.mk (Below.refl w.heap.size w)
  go_enter Try.func66,Try.ntmps66
  go_wp2_with (first|((with_reducible refine Qr (N:=1) rfl ?_);refine Qq ?hg (N:=1) ?hd (cs:=#[.slice A0 J c0,.slice A1 Z c1]) (t:=50) ?hr ?_;(case hd=>rfl);(case hg=>rfl);(case hr=>first|(go_simp;done)|(go_simp;rfl));intro Y hg_ w1 hbox hb;have L:=Aside0.mk (Qj HB.out hb);have O:=Aside0.mk hbox;clear HB;have HB:=L;have B:=O;clear L O;clear hb hbox hg_)|((with_reducible refine Qr (N:=2) rfl ?_);refine Qq ?hg (N:=2) ?hd (cs:=#[.slice none 0 0,.nilFunc]) (t:=116) ?hr ?_;(case hd=>rfl);(case hg=>rfl);(case hr=>first|(go_simp;done)|(go_simp;rfl));intro g2 hg_ w2 hbox hb;have GEs:=Aside0.mk HB.out.size;have GEl:=Aside0.mk (Qp B.out);have γ:=Aside0.mk (Qh (g:=Y) (o:=.cells #[.slice A0 J c0,.slice A1 Z c1] 50 (0,0)) B.out hb);have L:=Aside0.mk (Qj HB.out hb);have O:=Aside0.mk hbox;clear HB B;have HB:=L;have X:=O;have B:=γ;clear L O γ;have ζ :=Aside0.mk (by rw[hg_];exact GEs.out:w.heap.size≤g2);have NB:=Aside0.mk (by rw[hg_];exact Nat.ne_of_lt GEl.out:Y≠g2);clear hb hbox hg_;have hnb:=NB.out;have δ :w2.cell? ⟨Y,0,none⟩=some (.slice A0 J c0):=(Qk B.out 0).trans rfl;have ε :w2.cell? ⟨Y,1,none⟩=some (.slice A1 Z c1):=(Qk B.out 1).trans rfl;have η :w2.cell? ⟨g2,0,none⟩=some (.slice none 0 0):=(Qk X.out 0).trans rfl;have θ :w2.cell? ⟨g2,1,none⟩=some (.nilFunc):=(Qk X.out 1).trans rfl;have ι :=Qz X.out 0;have κ :=Qz X.out 1))
  refine bodyPost_ret (results_cell_row rfl _ _ g2 116 #[.slice A1 Z c1,.func (.func 83) #[] #[]] (0,0) _ rfl (by refine Qu (cs:=#[.slice A1 Z c1,.nilFunc]) ?_ 1 _ rfl;refine Qu (cs:=#[.slice none 0 0,.nilFunc]) ?_ 0 _ rfl;exact X.out) Try.underlying116 rfl kr) rfl ?_
  exact⟨rfl,Qa (Qa HB.out ζ.out) ζ.out⟩
set_option maxRecDepth 100000 in
set_option maxHeartbeats 1000000 in
theorem Ug (F C:Int) (w:World):
    Calls Try.prog 68 #[.agg #[.int .i64 F,.int .i64 C]] w fun e w'=>∃ g:Nat,e = .returned (.func (.func 84) #[] #[.pointer (some ⟨g,0,none⟩)])∧w'.heap[g]?=some (.cells #[.int .i64 F,.int .i64 C] 59 (0,0))∧w.heap.size≤g∧Below w.heap.size w w':=by
  have HB:=Aside0.mk (Below.refl w.heap.size w)
  go_enter Try.func68,Try.ntmps68
  go_wp2_with (first|((with_reducible refine Qr (N:=1) rfl ?_);refine Qq ?hg (N:=1) ?hd (cs:=#[.int .i64 F,.int .i64 C]) (t:=59) ?hr ?_;(case hd=>rfl);(case hg=>rfl);(case hr=>first|(go_simp;done)|(go_simp;rfl));intro Y hg_ w1 hbox hb;have GEs:=Aside0.mk HB.out.size;have L:=Aside0.mk (Qj HB.out hb);have O:=Aside0.mk hbox;clear HB;have HB:=L;have B:=O;clear L O;have J:=Aside0.mk (by rw[hg_];exact GEs.out:w.heap.size≤Y);clear hb hbox hg_))
  go_ret
  exact⟨_,rfl,B.out,J.out,HB.out⟩
end Go.Proofs.Ytmfffemidlhcpaa.C
namespace Go.Proofs.Ytmfffemidlhcpaa.C
open Go.RowKit Go.Proofs.YtmfffemidlhcpaaW.PrintWords Go.Proofs.YtmfffemidlhcpaaW.PrintLast Go.Proofs.YtmfffemidlhcpaaW.PrintMore
set_option linter.unusedVariables false
def small (n:Nat) (C:Int):Bool:=decide (n<1000000000 ∧ -9223372036854775808≤C∧C≤9223372036854775807)
def rightP_H.f (Y:List S36) (γ:List S86) (J B:Int):Option Bool:=if small Y.length B=true then some (Call.Zo (fun x=>Xo J B x.f0 x.f1 x.f2) Call.ltH none Y) else none
theorem rightP_H.calls (μ :Option Addr) (η :Nat) (Y:List S36) (κ :Option Addr) (θ :Nat) (γ:List S86) (J B:Int) (r:Bool) (w:World) (bm:Kd.C k36 w μ Y.length Y) (bn:Y.length ≤ η) (bv:Kd.C k86 w κ γ.length γ) (bw:γ.length ≤ θ) (h:rightP_H.f Y γ J B=some r) (g:Nat) (hg:w.heap[g]?=some (.cells #[.int .i64 J,.int .i64 B] 59 (0,0))):
    Calls Try.prog 64 #[.agg #[.slice μ Y.length η,.func (.func 79) #[] #[]],.func (.func 82) #[] #[.pointer (some ⟨g,0,none⟩)]] w fun e w'=>e = .returned (.bool r)∧Below w.heap.size w w':=by
  unfold rightP_H.f at h
  split at h
  case isFalse=>cases h
  case isTrue hs=>
  cases h
  obtain⟨hl,hb⟩:=of_decide_eq_true hs
  have e1:=J4 J B hb
  have e2:=J3 J B hb
  refine api_Hall_right.calls (2 * Y.length+1) μ η Y 0 (tok J B) _ w bm bn ?_ g ?_
  · rw[Call.Wu Y _ 0 (by omega) _ (by omega),e1,e2]
  · rw[e1,e2];exact hg
def rightP_I.f (Y:List S36) (γ:List S86) (J B:Int):Option Bool:=if small γ.length B=true then some (Call.Zo (fun x=>Jw J B x.f0 x.f1) Call.ltI none γ) else none
theorem rightP_I.calls (μ :Option Addr) (η :Nat) (Y:List S36) (κ :Option Addr) (θ :Nat) (γ:List S86) (J B:Int) (r:Bool) (w:World) (bm:Kd.C k36 w μ Y.length Y) (bn:Y.length ≤ η) (bv:Kd.C k86 w κ γ.length γ) (bw:γ.length ≤ θ) (h:rightP_I.f Y γ J B=some r) (g:Nat) (hg:w.heap[g]?=some (.cells #[.int .i64 J,.int .i64 B] 59 (0,0))):
    Calls Try.prog 67 #[.agg #[.slice κ γ.length θ,.func (.func 83) #[] #[]],.func (.func 84) #[] #[.pointer (some ⟨g,0,none⟩)]] w fun e w'=>e = .returned (.bool r)∧Below w.heap.size w w':=by
  unfold rightP_I.f at h
  split at h
  case isFalse=>cases h
  case isTrue hs=>
  cases h
  obtain⟨hl,hb⟩:=of_decide_eq_true hs
  have e1:=J4 J B hb
  have e2:=J3 J B hb
  refine api_Inside_right.calls (2 * γ.length+1) κ θ γ 0 (tok J B) _ w bv bw ?_ g ?_
  · rw[Call.Wt γ _ 0 (by omega) _ (by omega),e1,e2]
  · rw[e1,e2];exact hg
end Go.Proofs.Ytmfffemidlhcpaa.C
namespace Go.Proofs.Ytmfffemidlhcpaa.C
open Go.RowKit Go.Proofs.YtmfffemidlhcpaaW.PrintWords Go.Proofs.YtmfffemidlhcpaaW.PrintLast Go.Proofs.YtmfffemidlhcpaaW.PrintMore
attribute [local go_sem] Z1 Zz Z9 Z8 Zq Zp Z0 Zy
set_option linter.unusedVariables false
set_option linter.unusedSimpArgs false
def api_Hall_set.j0:Nat→List (S36)→Option ((List (S36)))
 |0,_=>none
 |k+1,Y=>some Y
def api_Hall_set.f (k:Nat) (J:List (S36)) (B:Int) (μ :Int) (η :Int) (ν :Int):Option ((List (S36))):=(api_Hall_88.f J).bind fun ζ =>((api_Hall_89.f k ζ μ η ν B).bind fun γ=>(if γ.2=true then (if 0≤γ.1 then (if γ.1<(ζ.length:Int) then (api_Hall_set.j0 k (ζ.set (γ.1:Int).toNat (⟨μ,η,ν⟩:S36))) else (none)) else (none)) else (api_Hall_set.j0 k ζ)))
set_option maxHeartbeats 8000000 in
set_option maxRecDepth 100000 in
theorem api_Hall_set.calls (k:Nat) (ρ:Option Addr) (θ :Nat) (J:List (S36)) (B:Int) (μ :Int) (η :Int) (ν :Int) (r:List (S36)) (w:World) (ag:Kd.C k36 w ρ J.length J) (ai:J.length ≤ θ) (h:api_Hall_set.f k J B μ η ν = some r):
  Calls Try.prog 74 #[.agg #[.slice ρ J.length θ,.func (.func 79) #[] #[]],.agg #[.int .i64 μ,.int .i64 η,.int .i64 ν]] w fun e w'=>∃ bk:Value,e = .returned (bk)∧Kd.R k36 36 w' w.heap.size (fun _=>True) bk r∧Below w.heap.size w w':=by
 have cy:=Try.underlying109
 have da:=Try.underlying36
 have aj:=Aside0.mk ag
 have b4:=Aside0.mk ai
 clear ag ai
 have HB:=Aside0.mk (Below.refl w.heap.size w)
 have H:((api_Hall_88.f J).bind fun ζ =>((api_Hall_89.f k ζ μ η ν B).bind fun γ=>(if γ.2=true then (if 0≤γ.1 then (if γ.1<(ζ.length:Int) then (api_Hall_set.j0 k (ζ.set (γ.1:Int).toNat (⟨μ,η,ν⟩:S36))) else (none)) else (none)) else (api_Hall_set.j0 k ζ))))=some r:=h
 clear h
 replace H:=Option.bind_eq_some_iff.mp H
 obtain⟨ζ,ab,H⟩:=H
 replace H:((api_Hall_89.f k ζ μ η ν B).bind fun γ=>(if γ.2=true then (if 0≤γ.1 then (if γ.1<(ζ.length:Int) then (api_Hall_set.j0 k (ζ.set (γ.1:Int).toNat (⟨μ,η,ν⟩:S36))) else (none)) else (none)) else (api_Hall_set.j0 k ζ)))=some r:=H
 have A3:=Aside0.mk ab
 clear ab
 replace H:=Option.bind_eq_some_iff.mp H
 obtain⟨⟨a1,a9⟩,br,H⟩:=H
 replace H:(if a9=true then (if 0≤a1 then (if a1<(ζ.length:Int) then (api_Hall_set.j0 k (ζ.set (a1:Int).toNat (⟨μ,η,ν⟩:S36))) else (none)) else (none)) else (api_Hall_set.j0 k ζ))=some r:=H
 have A4:=Aside0.mk br
 clear br
 have ca:=Aside0.mk H
 clear H
 go_enter Try.func74,Try.ntmps74
 go_upto_if 19 with(first|((with_reducible refine Qr (N:=2) rfl ?_);refine Qq ?hg (N:=2) ?hd (cs:=#[.slice ρ J.length θ,.func (.func 79) #[] #[]]) (t:=109) ?hr ?_;(case hd=>rfl);(case hg=>rfl);(case hr=>first|(go_simp;done)|(go_simp;rfl));intro ι hg w6 hbox hb;have L:=Aside0.mk (Qj (by repeat(first|(with_reducible first|exact HB.out|apply Qg|apply Qd|apply Qf)|exact HB.out)) hb);have O:=Aside0.mk (hbox);have X:=Aside0.mk ((by rw[hg];exact(Qi (by repeat(first|(with_reducible first|exact HB.out|apply Qg|apply Qd|apply Qf)|exact HB.out))):w.heap.size ≤ ι));have δ :=Aside0.mk ((by rw[hg];exact(Qi (by repeat(first|(with_reducible first|exact HB.out|apply Qg|apply Qd|apply Qf)|exact HB.out))):w.heap.size ≤ ι));clear HB;have HB:=L;have Z:=O;have ci:=X;have χ := δ;clear L O X δ;clear hb hbox hg)|((with_reducible refine Qr (N:=3) rfl ?_);refine Qq ?hg (N:=3) ?hd (cs:=#[.int .i64 μ,.int .i64 η,.int .i64 ν]) (t:=36) ?hr ?_;(case hd=>rfl);(case hg=>rfl);(case hr=>first|(go_simp;done)|(go_simp;rfl));intro σ hg w7 hbox hb;have L:=Aside0.mk (Qh (g:= ι) (o:=.cells #[.slice ρ J.length θ,.func (.func 79) #[] #[]] 109 (0,0)) (by(with_reducible repeat first|apply Qb|apply Qe|apply Qc);exact Z.out) hb);have O:=Aside0.mk (Qj (by repeat(first|(with_reducible first|exact HB.out|apply Qg|apply Qd|apply Qf|refine Qa ?_ χ.out)|exact HB.out)) hb);have X:=Aside0.mk (hbox);have δ :=Aside0.mk ((by rw[hg];exact(Qi (by repeat(first|(with_reducible first|exact HB.out|apply Qg|apply Qd|apply Qf|refine Qa ?_ χ.out)|exact HB.out))):w.heap.size≤σ));have ξ :=Aside0.mk ((by rw[hg];exact(Qi (by repeat(first|(with_reducible first|exact HB.out|apply Qg|apply Qd|apply Qf|refine Qa ?_ χ.out)|exact HB.out))):w.heap.size≤σ));have φ :=Aside0.mk ((by rw[hg];exact Nat.ne_of_lt (Qp (g:= ι) (o:=.cells #[.slice ρ J.length θ,.func (.func 79) #[] #[]] 109 (0,0)) (by(with_reducible repeat first|apply Qb|apply Qe|apply Qc);exact Z.out)): ι ≠ σ));have ω :=Aside0.mk ((by rw[hg];exact Nat.ne_of_gt (Qp (g:= ι) (o:=.cells #[.slice ρ J.length θ,.func (.func 79) #[] #[]] 109 (0,0)) (by(with_reducible repeat first|apply Qb|apply Qe|apply Qc);exact Z.out)):σ ≠ ι));clear Z;clear HB;have Z:=L;have HB:=O;have ε :=X;have cj:= δ;have a0:= ξ;have au:= φ;have az:= ω;clear L O X δ ξ φ ω;clear hb hbox hg;have cm:=au.out;have cn:=az.out;obtain⟨al,bc,cp,cq⟩:=qD2 Z.out)|((with_reducible refine Qt (f:=88) rfl ?_);refine Q7 (some 10) rfl rfl Try.func88 kr rfl #[.slice ρ J.length θ] rfl (by(try simp only[List.map_toArray,List.map_cons,List.map_nil]);first|done|rfl|(simp only[List.length_drop,List.length_take];rfl)) ?_;(with_reducible refine(api_Hall_88.calls _ _ J ζ _ ?side1 ?side2 A3.out).mono ?_);(case side1=>repeat(first|exact(Kd.Q0 aj.out HB.out)|(with_reducible refine Kd.Q3 ?_ _)|(with_reducible refine Kd.Q2 ?_ _)|(with_reducible refine Kd.Q9 ?_)));(case side2=>exact b4.out);rintro e ig ⟨d5,rfl,bb,hb⟩;refine⟨_,rfl, ?_⟩;have L:=Aside0.mk (Kd.Zg (Kd.J0 bb (g:=σ) (o:=.cells #[.int .i64 μ,.int .i64 η,.int .i64 ν] 36 (0,0)) (by(with_reducible repeat first|apply Qb|apply Qe|apply Qc);exact ε.out)) (Qi (by repeat(first|(with_reducible first|exact HB.out|apply Qg|apply Qd|apply Qf|refine Qa ?_ χ.out|refine Qa ?_ a0.out)|exact HB.out))));have O:=Aside0.mk (Qh (g:= ι) (o:=.cells #[.slice ρ J.length θ,.func (.func 79) #[] #[]] 109 (0,0)) (by(with_reducible repeat first|apply Qb|apply Qe|apply Qc);exact Z.out) hb);have X:=Aside0.mk (Qh (g:=σ) (o:=.cells #[.int .i64 μ,.int .i64 η,.int .i64 ν] 36 (0,0)) (by(with_reducible repeat first|apply Qb|apply Qe|apply Qc);exact ε.out) hb);have δ :=Aside0.mk (Qj (by repeat(first|(with_reducible first|exact HB.out|apply Qg|apply Qd|apply Qf|refine Qa ?_ χ.out|refine Qa ?_ a0.out)|exact HB.out)) hb);clear Z;clear ε;clear HB;have Y:=L;have Z:=O;have ε :=X;have HB:= δ;clear L O X δ;(try clear hb);(try clear ak);(try clear hk);(try clear hi);(try clear bb);obtain⟨aw,b5,bp,bh,bo,bq⟩:=qD3 ε.out;obtain⟨ac,ae,af,ah⟩:=qD2 Z.out;obtain⟨ao,an,ba⟩:=Kd.Ze Y.out;subst ba)|((with_reducible refine Qt (f:=89) rfl ?_);refine Q7 (some 16) rfl rfl Try.func89 kr rfl #[.slice ao ζ.length an,.agg #[.int .i64 μ,.int .i64 η,.int .i64 ν],.func (.func 79) #[] #[]] rfl (by(try simp only[List.map_toArray,List.map_cons,List.map_nil]);first|done|rfl|(simp only[List.length_drop,List.length_take];rfl)) ?_;(with_reducible refine(api_Hall_89.calls k _ _ ζ μ η ν B a1 a9 _ ?side1 ?side2 A4.out).mono ?_);(case side1=>repeat(first|exact(Kd.Q4 Y.out).2.2|(with_reducible refine Kd.Q3 ?_ _)|(with_reducible refine Kd.Q2 ?_ _)|(with_reducible refine Kd.Q9 ?_)));(case side2=>exact(Kd.Q4 Y.out).2.1);rintro e cf ⟨rfl,hb⟩;refine⟨_,rfl, ?_⟩;have L:=Aside0.mk (Kd.Za (by(with_reducible repeat first|apply Kd.Qx|apply Kd.Qw|apply Kd.Qy);exact Y.out) hb);have O:=Aside0.mk (Qh (g:= ι) (o:=.cells #[.slice ρ J.length θ,.func (.func 79) #[] #[]] 109 (0,0)) (by(with_reducible repeat first|apply Qb|apply Qe|apply Qc);exact Z.out) hb);have X:=Aside0.mk (Qh (g:=σ) (o:=.cells #[.int .i64 μ,.int .i64 η,.int .i64 ν] 36 (0,0)) (by(with_reducible repeat first|apply Qb|apply Qe|apply Qc);exact ε.out) hb);have δ :=Aside0.mk (Qj (by repeat(first|(with_reducible first|exact HB.out|apply Qg|apply Qd|apply Qf|refine Qa ?_ χ.out|refine Qa ?_ a0.out)|exact HB.out)) hb);clear Y;clear Z;clear ε;clear HB;have Y:=L;have Z:=O;have ε :=X;have HB:= δ;clear L O X δ;(try clear hb);(try clear ak);(try clear hk);(try clear hi)))
 (try simp only[Act.put,qS])
 go_cut [] (fun wc=>∃ (kq:Nat) (bn:List (S36)) (ay:Int) (b0:Int) (b1:Int),Aside0 (api_Hall_set.j0 kq bn=some r)∧Aside0 (kq≤k)∧Aside0 (Kd.R k36 36 wc w.heap.size (fun k_=>k_≠σ) (.slice ao ζ.length an) bn)∧Aside0 (wc.heap[ι]?=some (.cells #[(.slice ρ J.length θ),.func (.func 79) #[] #[]] 109 (0,0)))∧Aside0 (wc.heap[σ]?=some (.cells #[.int .i64 ay,.int .i64 b0,.int .i64 b1] 36 (0,0)))∧Aside0 (Below w.heap.size w wc))
 case first=>
  have H:=ca.out
  clear ca
  by_cases am:a9=true
  ·subst am
   have H1:(if 0≤a1 then (if a1<(ζ.length:Int) then (api_Hall_set.j0 k (ζ.set (a1:Int).toNat (⟨μ,η,ν⟩:S36))) else (none)) else (none))=some r:=by rw[if_pos rfl] at H;exact H
   clear H
   have H:=H1
   clear H1
   by_cases aa:0≤a1
   ·rw[if_pos aa] at H
    have c16b0:decide (0≤a1)=true:=decide_eq_true aa
    clear aa
    (first|rw[c16b0]|(simp only[Zi,Zt];rw[c16b0])|skip)
    by_cases a5:a1<(ζ.length:Int)
    ·rw[if_pos a5] at H
     have c17b0:decide (a1<(ζ.length:Int))=true:=decide_eq_true a5
     clear a5
     obtain⟨a3,a2⟩:∃ y_:List (S36),y_=(ζ.set (a1:Int).toNat (⟨μ,η,ν⟩:S36)):=⟨_,rfl⟩
     replace H:(api_Hall_set.j0 k a3)=some r:=by first|(rw[a2];with_reducible exact H)|(have ax:=(Option.bind_some _ _).symm.trans H;rw[a2];with_reducible exact ax)|(have ax:=(Option.bind_some _ _).symm.trans H;with_reducible exact ax)|with_reducible exact H|(rw[a2];exact H)|exact H
     have a4:=Aside0.mk a2
     clear a2
     have H':=Aside0.mk H
     clear H
     have cr:=az.out
     have ct:=au.out
     obtain⟨cb,cd,ch,ce,cg,d8⟩:=qD3 ε.out
     have a6:0≤(a1:Int):=of_decide_eq_true (by first|(with_reducible assumption)|assumption)
     have a7:(a1:Int)<((ζ.length:Int):Int):=of_decide_eq_true (by first|(with_reducible assumption)|assumption)
     obtain⟨κ,cz,b6,b7,bs,d0,b8⟩:=Kd.Vt Y.out (by omega)
     (first|cases b6|(injection b6 with ea_ en_ ec_;(first|subst ea_|(injection ea_ with ea_;subst ea_));subst ec_;clear en_))
     have ap:=Aside0.mk b7
     have d1:=Aside0.mk b8
     clear b7 bs b8
     obtain⟨d2,bd,b9,τ,ψ⟩:=Kd.Y7 Y.out z36 (a1:Int) a6 a7
     obtain rfl:=X7 b9
     have be:cf.cell? ⟨κ,(a1:Int).toNat * 3,none⟩=some (.int .i64 ((Ql ζ a1).f0)):= τ 0 _ rfl
     have bf:cf.cell? ⟨κ,(a1:Int).toNat * 3+1,none⟩=some (.int .i64 ((Ql ζ a1).f1)):= τ 1 _ rfl
     have ck:cf.cell? ⟨κ,(a1:Int).toNat * 3+2,none⟩=some (.int .i64 ((Ql ζ a1).f2)):= τ 2 _ rfl
     have bw:cf.frozen? ⟨κ,(a1:Int).toNat * 3,none⟩=false:= ψ 0
     have bz:cf.frozen? ⟨κ,(a1:Int).toNat * 3+1,none⟩=false:= ψ 1
     have d4:cf.frozen? ⟨κ,(a1:Int).toNat * 3+2,none⟩=false:= ψ 2
     clear bd τ ψ b9
     replace a6:=eq_true a6
     replace a7:=eq_true a7
     have n_:=Aside0.mk (Kd.Q5 (ok':=(fun k_=>k_≠σ)) Y.out (fun k_ hk=>hk.2))
     clear Y
     have Y:=n_
     clear n_
     have co:=Aside0.mk (show Kd.R k36 36 cf w.heap.size (fun k_=>k_≠σ) (.slice (some ⟨κ,0,none⟩) ζ.length an) ζ from(by(with_reducible repeat first|apply Kd.Qx|apply Kd.Qw|apply Kd.Qy);exact Y.out))
     obtain⟨d6,bv,cu,a8,b2⟩:=Kd.Y7 co.out z36 (a1:Int) (of_decide_eq_true (by first|(with_reducible assumption)|assumption)) (by have h_:(a1:Int)<((ζ.length:Int):Int):=of_decide_eq_true (by first|(with_reducible assumption)|assumption);first|exact h_|(have e_:=(Kd.Q4 Y.out).1;omega)|simpa using h_)
     obtain rfl:=X7 cu
     have bu:=Kd.Wl co.out (a1:Int) (of_decide_eq_true (by first|(with_reducible assumption)|assumption)) (by have h_:(a1:Int)<((ζ.length:Int):Int):=of_decide_eq_true (by first|(with_reducible assumption)|assumption);first|exact h_|(have e_:=(Kd.Q4 Y.out).1;omega)|simpa using h_) (seg:=[.int .i64 μ,.int .i64 η,.int .i64 ν]) (j:=0) bv a8 (show 3≤3 from by decide) (x':=(⟨μ,η,ν⟩:S36)) (Ka _ _ _ (⟨μ,η,ν⟩:S36)) (fun _ hk=>hk)
     have bg:=a8 0 _ rfl
     (try simp only[show(k36).sz=3 from rfl,Nat.mul_one,Nat.add_zero] at bg)
     have cv:=b2 0
     (try simp only[show(k36).sz=3 from rfl,Nat.mul_one,Nat.add_zero] at cv)
     have bi:=a8 1 _ rfl
     (try simp only[show(k36).sz=3 from rfl,Nat.mul_one,Nat.add_zero] at bi)
     have cw:=b2 1
     (try simp only[show(k36).sz=3 from rfl,Nat.mul_one,Nat.add_zero] at cw)
     have bj:=a8 2 _ rfl
     (try simp only[show(k36).sz=3 from rfl,Nat.mul_one,Nat.add_zero] at bj)
     have cx:=b2 2
     (try simp only[show(k36).sz=3 from rfl,Nat.mul_one,Nat.add_zero] at cx)
     clear bv a8 b2 cu
     go_wp2_with (first|((with_reducible refine Y3 (t:=36) (p:=23) rfl ?_);refine Yr (t:=36) (p:=23) (v:=?vo_w22) (w1:=(((cf.setCell ⟨κ,(a1:Int).toNat * 3,none⟩ (.int .i64 μ)).setCell ⟨κ,(a1:Int).toNat * 3+1,none⟩ (.int .i64 η)).setCell ⟨κ,(a1:Int).toNat * 3+2,none⟩ (.int .i64 ν))) ?hg ?ho ?hn ?hr ?_;(case ho=>rfl);(case hg=>rfl);(case hn=>rfl);(case hr=>first|(go_simp;done)|(go_simp;rfl));intro bm hw;have hg:cf.grownBy bm (some κ):=(by rw[hw];exact bu.2);have hp_:Kd.R k36 36 bm w.heap.size (fun k_=>k_≠σ) (.slice (some ⟨κ,0,none⟩) ζ.length an) a3:=(by rw[hw,a4.out];exact bu.1);clear bu;have L:=Aside0.mk (Q8 (g:= ι) (o:=.cells #[.slice ρ J.length θ,.func (.func 79) #[] #[]] 109 (0,0)) (by(with_reducible repeat first|apply Qb|apply Qe|apply Qc);exact Z.out) hg (Kd.Xg Y.out Z.out (by decide)));have O:=Aside0.mk (Q8 (g:=σ) (o:=.cells #[.int .i64 μ,.int .i64 η,.int .i64 ν] 36 (0,0)) (by(with_reducible repeat first|apply Qb|apply Qe|apply Qc);exact ε.out) hg (Kd.U2 Y.out (fun _ hk=>hk)));have X:=Aside0.mk (hp_);have δ :=Aside0.mk ((by rw[hw];exact Qa (Qa (Qa (HB.out) ap.out) ap.out) ap.out:Below w.heap.size w bm));clear Z;clear ε;clear Y;clear HB;have Z:=L;have ε :=O;have Y:=X;have HB:= δ;clear L O X δ;clear hg hw hp_))
     go_meet
     case rel=>exact⟨_,(a3),(μ),(η),(ν),H',⟨by first|omega|exact Nat.le_refl _⟩,⟨by(with_reducible repeat first|apply Kd.Qx|apply Kd.Qw|apply Kd.Qy);exact Y.out⟩,⟨by(with_reducible repeat first|apply Qb|apply Qe|apply Qc);exact Z.out⟩,⟨by(with_reducible repeat first|apply Qb|apply Qe|apply Qc);exact ε.out⟩,⟨by repeat(first|(with_reducible first|exact HB.out|apply Qg|apply Qd|apply Qf|refine Qa ?_ χ.out|refine Qa ?_ a0.out)|exact HB.out)⟩⟩
    ·rw[if_neg a5] at H
     exact absurd H (by simp)
   ·rw[if_neg aa] at H
    exact absurd H (by simp)
  ·replace am:=Bool.eq_false_iff.mpr am
   subst am
   have H1:(api_Hall_set.j0 k ζ)=some r:=by rw[if_neg (show ¬ (false=true) by decide)] at H;exact H
   clear H
   have H:=H1
   clear H1
   have H':=Aside0.mk H
   clear H
   go_wp2
   go_meet
   case rel=>exact⟨_,(ζ),(μ),(η),(ν),H',⟨by first|omega|exact Nat.le_refl _⟩,⟨by(with_reducible repeat first|apply Kd.Qx|apply Kd.Qw|apply Kd.Qy);exact Kd.Q5 Y.out (fun _ hk=>hk.2)⟩,⟨by(with_reducible repeat first|apply Qb|apply Qe|apply Qc);exact Z.out⟩,⟨by(with_reducible repeat first|apply Qb|apply Qe|apply Qc);exact ε.out⟩,⟨by repeat(first|(with_reducible first|exact HB.out|apply Qg|apply Qd|apply Qf|refine Qa ?_ χ.out|refine Qa ?_ a0.out)|exact HB.out)⟩⟩
 case rest=>
  clear ca
  try clear c1
  try clear p1
  try clear q1
  try clear ar
  try clear c2
  try clear p2
  try clear qe
  try clear d3
  try clear c7
  try clear c8
  try clear am
  try clear aa
  try clear c16b0
  try clear a5
  try clear c17b0
  try clear bl
  try clear a6
  try clear a7
  try clear d7
  try clear d9
  try clear dd
  try clear av
  try clear db
  try clear dc
  try clear aw
  try clear b5
  try clear bp
  try clear ac
  try clear ae
  try clear cb
  try clear cd
  try clear ch
  try clear al
  try clear bc
  try clear bh
  try clear bo
  try clear bq
  try clear af
  try clear ah
  try clear ce
  try clear cg
  try clear d8
  try clear cp
  try clear cq
  try clear be
  try clear bf
  try clear ck
  try clear bg
  try clear bi
  try clear bj
  try clear a6
  try clear a7
  obtain⟨kq,bn,ay,b0,b1,HA,de,HO_5,Z,ε,HB⟩:=hcut
  have b3:=(Kd.Q4 HO_5.out).1
  rw[b3] at HO_5
  (try simp only[b3])
  (try simp only[b3] at Z)
  (try simp only[b3] at ε)
  cases kq with
  |zero=>exact absurd HA.out (by simp[api_Hall_set.j0])
  |succ df=>
   have H:=HA.out
   clear HA
   simp only[api_Hall_set.j0] at H
   obtain rfl:=Option.some.inj H
   go_wp2
   go_ret
   exact⟨_,by first|rfl|(simp[Qo,Qn] <;> rfl)|(simp[*,Qo,Qn] <;> rfl),by(with_reducible repeat first|apply Kd.Qx|apply Kd.Qw|apply Kd.Qy);exact Kd.Q5 HO_5.out (fun _ hk=>trivial),by repeat(first|(with_reducible first|exact HB.out|apply Qg|apply Qd|apply Qf|refine Qa ?_ χ.out|refine Qa ?_ a0.out)|exact HB.out)⟩
end Go.Proofs.Ytmfffemidlhcpaa.C
namespace Go.Proofs.Ytmfffemidlhcpaa.C
open Go.RowKit Go.Proofs.YtmfffemidlhcpaaW.PrintWords Go.Proofs.YtmfffemidlhcpaaW.PrintLast Go.Proofs.YtmfffemidlhcpaaW.PrintMore
set_option linter.unusedVariables false
def hallP.f (B J X F C:Int):Option Bool:=some (Xo F C B J X)
def woP_I.f (B J:Int) (l:List S86):Option (List S86):=if small l.length J=true then some (woI B J l) else none
def Va (x:S36) (l:List S36):List S36:=l.map (fun y=>if y.f0=x.f0∧y.f1=x.f1 then x else y)
def setP_H.f (B J X:Int) (l:List S36):Option (List S36):=if small l.length J=true∧Call.Zo (fun _=>true) Call.ltH none l=true then some (Va ⟨B,J,X⟩ l) else none
theorem Vy (A0:Option Addr) (c:Nat) (l:List S86) (B J:Int) (t:List S86) (W:World) (hr:Kd.C k86 W A0 l.length l) (hc:l.length≤c) (h:woP_I.f B J l=some t):
    Calls Try.prog 75 #[.agg #[.slice A0 l.length c,.func (.func 83) #[] #[]],.agg #[.int .i64 B,.int .i64 J]] W fun e w'=>∃ bk:Value,e = .returned bk∧Kd.R k86 86 w' W.heap.size (fun _=>True) bk t∧Below W.heap.size W w':=by
  unfold woP_I.f at h
  split at h
  case isFalse=>cases h
  case isTrue hs=>
  cases h
  obtain⟨hl,hb⟩:=of_decide_eq_true hs
  exact G8 A0 c l B J W hr hc hl hb
theorem V3 (x:S36) (l:List S36):(Va x l).length=l.length:=by unfold Va;simp
theorem V4 (x:S36) (l:List S36) (m:Nat) (h:m<l.length) (L:m<(Va x l).length):(Va x l)[m]=if l[m].f0=x.f0∧l[m].f1=x.f1 then x else l[m]:=by
  simp only[Va,List.getElem_map]
theorem Ws (l:List S36) (x:S36) (p:Nat) (hs:l.Pairwise (fun x y=>Call.ltH x y=true)) (hp:Call.Gp l x.f0 x.f1 p):
    Call.Gv l x.f0 x.f1 p=true→l.set p x=Va x l:=by
  intro h
  unfold Call.Gv at h
  obtain⟨h1,L,Z⟩:=hp
  rcases Nat.lt_or_ge p l.length with hlt|hge
  case inr=>rw[List.getElem?_eq_none hge] at h;simp at h
  rw[List.getElem?_eq_getElem hlt] at h
  have he:X5 l[p].f0 l[p].f1 x.f0 x.f1=0:=by simpa using h
  rw[Call.Kt] at he
  apply List.ext_getElem
  · rw[V3];simp
  intro m B O
  rw[List.length_set] at B
  rw[List.getElem_set,V4 x l m B O]
  by_cases hm:p=m
  · subst hm
    rw[if_pos rfl,if_pos he]
  · rw[if_neg hm,if_neg]
    intro hq
    rcases Nat.lt_or_ge m p with J|X
    · have:=List.pairwise_iff_getElem.1 hs m p B hlt J
      rw[Call.Ks] at this
      omega
    · have:=List.pairwise_iff_getElem.1 hs p m hlt B (by omega)
      rw[Call.Ks] at this
      omega
theorem Lu (l:List S36) (x:S36) (p:Nat) (hs:l.Pairwise (fun x y=>Call.ltH x y=true)) (hp:Call.Gp l x.f0 x.f1 p):
    Call.Gv l x.f0 x.f1 p=false→l=Va x l:=by
  intro h
  unfold Call.Gv at h
  obtain⟨h1,L,Z⟩:=hp
  have key:∀ m:Nat,(hm:m<l.length) → ¬ (l[m].f0=x.f0∧l[m].f1=x.f1):=by
    intro m hm hq
    rw[← Call.Kt] at hq
    rcases Nat.lt_or_ge m p with hlt|hge
    · have:=L l[m] (List.mem_iff_getElem.2 ⟨m,by rw[List.length_take];omega,by rw[List.getElem_take]⟩)
      omega
    · rcases Nat.lt_or_ge p m with J|X
      · have Y:=List.pairwise_iff_getElem.1 hs p m (by omega) hm J
        have g2:=Z l[p] (List.mem_iff_getElem.2 ⟨0,by rw[List.length_drop];omega,by rw[List.getElem_drop];simp⟩)
        rw[Call.Ks] at Y
        rw[Call.Kt] at hq
        rw[Call.Kb] at g2
        omega
      · have hpm:p=m:=by omega
        subst hpm
        rw[List.getElem?_eq_getElem hm] at h
        simp[hq] at h
  apply List.ext_getElem
  · rw[V3]
  intro m B O
  rw[V4 x l m B O,if_neg (key m B)]
theorem Vb (A0:Option Addr) (c:Nat) (l:List S36) (B J X:Int) (t:List S36) (W:World) (hr:Kd.C k36 W A0 l.length l) (hc:l.length≤c) (h:setP_H.f B J X l=some t):
    Calls Try.prog 74 #[.agg #[.slice A0 l.length c,.func (.func 79) #[] #[]],.agg #[.int .i64 B,.int .i64 J,.int .i64 X]] W fun e w'=>∃ bk:Value,e = .returned bk∧Kd.R k36 36 w' W.heap.size (fun _=>True) bk t∧Below W.heap.size W w':=by
  unfold setP_H.f at h
  split at h
  case isFalse=>cases h
  case isTrue hs=>
  cases h
  obtain⟨hl,hb⟩:=of_decide_eq_true hs.1
  have hso:=((Call.Jd (fun _=>true) l).1 hs.2).2
  refine api_Hall_set.calls (l.length+2) A0 c l 0 B J X _ W hr hc ?_
  unfold api_Hall_set.f api_Hall_88.f
  rw[if_pos hl]
  simp only[Option.bind_some]
  obtain⟨p,hp,e⟩:=Call.Up l B J X 0 (by omega) hso (l.length+2) (by omega)
  obtain⟨b,hm⟩:∃ b,Call.Gv l B J p=b:=⟨_,rfl⟩
  rw[hm] at e
  rw[e]
  simp only[Option.bind_some]
  cases b
  · rw[if_neg (by decide)]
    simp only[api_Hall_set.j0]
    congr 1
    exact Lu l ⟨B,J,X⟩ p hso hp hm
  · have hlt:p<l.length:=by
      rcases Nat.lt_or_ge p l.length with h|h
      · exact h
      · unfold Call.Gv at hm;rw[List.getElem?_eq_none h] at hm;simp at hm
    rw[if_pos rfl,if_pos (by omega),if_pos (by omega)]
    simp only[api_Hall_set.j0,Int.toNat_natCast]
    congr 1
    exact Ws l ⟨B,J,X⟩ p hso hp hm
end Go.Proofs.Ytmfffemidlhcpaa.C
namespace Go.Proofs.Ytmfffemidlhcpaa.C
open Go.RowKit Go.Proofs.YtmfffemidlhcpaaW.PrintWords Go.Proofs.YtmfffemidlhcpaaW.PrintLast Go.Proofs.YtmfffemidlhcpaaW.PrintMore
attribute [local go_sem] Z1 Zz Z9 Z8 Zq Zp Z0 Zy
set_option linter.unusedVariables false
set_option linter.unusedSimpArgs false
def call_Check.j0:Nat→Bool→Option (Int)
 |0,_=>none
 |k+1,L=>if L=true then (some 190) else (some 0)
def call_Check.f (k:Nat) (J:Int) (B:Int) (Y:List (S36)) (γ:List (S86)):Option (Int):=(call_within.f J 2 64).bind fun ζ =>(if ζ = true then ((call_within.f B 1 8).bind fun ρ=>(if ρ=true then ((rightP_H.f Y γ J B).bind fun ν =>(if ν = true then ((rightP_I.f Y γ J B).bind fun a1=>(call_Check.j0 k (!a1))) else (call_Check.j0 k true))) else (call_Check.j0 k true))) else (call_Check.j0 k true))
theorem call_Check.Zs:∀ k,(∀ O,LeO (call_Check.j0 k O) (call_Check.j0 (k+1) O))
 |0=>fun _ r h=>by simp[call_Check.j0] at h
 |k+1=>by
  have B:=call_Check.Zs k
  ·intro O
   unfold call_Check.j0
   repeat' first
   |(with_reducible exact B _)
   |(with_reducible exact LeO.refl _)
   |(with_reducible exact LeO.none _)
   |(with_reducible refine LeO.ite ?_ ?_)
   |(with_reducible refine LeO.bind ?_ (fun _=>?_))
   |exact B _
   |exact LeO.none _
   |refine LeO.ite ?_ ?_
   |refine LeO.bind ?_ (fun _=>?_)
theorem call_Check.mono:∀ J Z a2 a3 k,LeO (call_Check.f k J Z a2 a3) (call_Check.f (k+1) J Z a2 a3):=by
 intro J Z a2 a3 k
 have B:=call_Check.Zs k
 unfold call_Check.f
 repeat' first
   |(with_reducible exact B _)
   |(with_reducible exact LeO.refl _)
   |(with_reducible exact LeO.none _)
   |(with_reducible refine LeO.ite ?_ ?_)
   |(with_reducible refine LeO.bind ?_ (fun _=>?_))
   |exact B _
   |exact LeO.none _
   |refine LeO.ite ?_ ?_
   |refine LeO.bind ?_ (fun _=>?_)
def call_Check.T1:Bool×List (List Nat×List Nat):=(true,[([],[]),([0],[0]),([1],[1]),([2],[2]),([3,2],[3]),([4],[4]),([5,4],[4,5]),([6,4,4],[4,6]),([7,4],[4,7]),([4,8],[4,8]),([9,7],[9]),([10],[10]),([11,10,10],[10,11]),([10],[10]),([13,12,10],[10,13]),([12,14,14,10],[10,12,14]),([15,10],[10,15]),([10,16],[10,16]),([17,15],[17]),([18],[18]),([19,18,18],[18,19]),([18],[18]),([21,20,18],[18,21]),([20,22,22,18],[18,20,22]),([23,18],[18,23]),([18,24],[18,24])])
def call_Check.B1:List Nat:=[0,1,3,7,15,31,63,127,255,511,1023,2047,4095,2047,16383,32767,65535,131071,262143,524287,1048575,524287,4194303,8388607,16777215,33554431]
theorem call_Check.Kq:rtab .any (opsOf Try.f40 1)=call_Check.T1:=by kernel_rfl
theorem call_Check.Y9:Z3 call_Check.T1.2 call_Check.B1=true:=by kernel_rfl
set_option maxHeartbeats 8000000 in
set_option maxRecDepth 100000 in
theorem call_Check.calls (k:Nat) (J:Int) (B:Int) (μ :Option Addr) (η :Nat) (Y:List (S36)) (κ :Option Addr) (θ :Nat) (γ:List (S86)) (r:Int) (w:World) (bm:Kd.C k36 w μ Y.length Y) (bn:Y.length ≤ η) (bv:Kd.C k86 w κ γ.length γ) (bw:γ.length ≤ θ) (h:call_Check.f k J B Y γ=some r):
  Calls Try.prog 40 #[.agg #[.int .i64 J,.int .i64 B],.agg #[.slice μ Y.length η,.slice κ γ.length θ]] w fun e w'=>e = .returned (.int .i64 r)∧Below w.heap.size w w':=by
 have eb:=Try.underlying59
 have fe:=Try.underlying50
 have be:=Aside0.mk bm
 have bz:=Aside0.mk bn
 clear bm bn
 have bf:=Aside0.mk bv
 have ca:=Aside0.mk bw
 clear bv bw
 have HB:=Aside0.mk (Below.refl w.heap.size w)
 have H:((call_within.f J 2 64).bind fun ζ =>(if ζ = true then ((call_within.f B 1 8).bind fun ρ=>(if ρ=true then ((rightP_H.f Y γ J B).bind fun ν =>(if ν = true then ((rightP_I.f Y γ J B).bind fun a1=>(call_Check.j0 k (!a1))) else (call_Check.j0 k true))) else (call_Check.j0 k true))) else (call_Check.j0 k true)))=some r:=h
 clear h
 have a3:=Aside0.mk H
 clear H
 go_enter Try.func40,Try.ntmps40
 go_upto_region 1 with(first|((with_reducible refine Qr (N:=2) rfl ?_);refine Qq ?hg (N:=2) ?hd (cs:=#[.int .i64 J,.int .i64 B]) (t:=59) ?hr ?_;(case hd=>rfl);(case hg=>rfl);(case hr=>first|(go_simp;done)|(go_simp;rfl));intro ι hg w4 hbox hb;have L:=Aside0.mk (Qj (by repeat(first|(with_reducible first|exact HB.out|apply Qg|apply Qd|apply Qf)|exact HB.out)) hb);have O:=Aside0.mk (hbox);have X:=Aside0.mk ((by rw[hg];exact(Qi (by repeat(first|(with_reducible first|exact HB.out|apply Qg|apply Qd|apply Qf)|exact HB.out))):w.heap.size ≤ ι));have δ :=Aside0.mk ((by rw[hg];exact(Qi (by repeat(first|(with_reducible first|exact HB.out|apply Qg|apply Qd|apply Qf)|exact HB.out))):w.heap.size ≤ ι));clear HB;have HB:=L;have Z:=O;have ci:=X;have χ := δ;clear L O X δ;clear hb hbox hg)|((with_reducible refine Qr (N:=3) rfl ?_);refine Qq ?hg (N:=3) ?hd (cs:=#[.slice μ Y.length η,.slice κ γ.length θ]) (t:=50) ?hr ?_;(case hd=>rfl);(case hg=>rfl);(case hr=>first|(go_simp;done)|(go_simp;rfl));intro σ hg w5 hbox hb;have L:=Aside0.mk (Qh (g:= ι) (o:=.cells #[.int .i64 J,.int .i64 B] 59 (0,0)) (by(with_reducible repeat first|apply Qb|apply Qe|apply Qc);exact Z.out) hb);have O:=Aside0.mk (Qj (by repeat(first|(with_reducible first|exact HB.out|apply Qg|apply Qd|apply Qf|refine Qa ?_ χ.out)|exact HB.out)) hb);have X:=Aside0.mk (hbox);have δ :=Aside0.mk ((by rw[hg];exact(Qi (by repeat(first|(with_reducible first|exact HB.out|apply Qg|apply Qd|apply Qf|refine Qa ?_ χ.out)|exact HB.out))):w.heap.size≤σ));have ξ :=Aside0.mk ((by rw[hg];exact(Qi (by repeat(first|(with_reducible first|exact HB.out|apply Qg|apply Qd|apply Qf|refine Qa ?_ χ.out)|exact HB.out))):w.heap.size≤σ));have φ :=Aside0.mk ((by rw[hg];exact Nat.ne_of_lt (Qp (g:= ι) (o:=.cells #[.int .i64 J,.int .i64 B] 59 (0,0)) (by(with_reducible repeat first|apply Qb|apply Qe|apply Qc);exact Z.out)): ι ≠ σ));have ω :=Aside0.mk ((by rw[hg];exact Nat.ne_of_gt (Qp (g:= ι) (o:=.cells #[.int .i64 J,.int .i64 B] 59 (0,0)) (by(with_reducible repeat first|apply Qb|apply Qe|apply Qc);exact Z.out)):σ ≠ ι));clear Z;clear HB;have Z:=L;have HB:=O;have ε :=X;have cj:= δ;have a0:= ξ;have au:= φ;have az:= ω;clear L O X δ ξ φ ω;clear hb hbox hg))
 (try simp only[Act.put,qS])
 go_cut [30] (fun a8 wc=>∃ (kq:Nat) (τ :Bool),a8 = .bool τ ∧ Aside0 (call_Check.j0 kq τ = some r)∧Aside0 (kq≤k)∧Aside0 (wc.heap[ι]?=some (.cells #[.int .i64 J,.int .i64 B] 59 (0,0)))∧Aside0 (wc.heap[σ]?=some (.cells #[(.slice μ Y.length η),(.slice κ γ.length θ)] 50 (0,0)))∧Aside0 (Below w.heap.size w wc))
 case first=>
  have H:=a3.out
  clear a3
  replace H:=Option.bind_eq_some_iff.mp H
  obtain⟨ζ,bc,H⟩:=H
  replace H:(if ζ = true then ((call_within.f B 1 8).bind fun ρ=>(if ρ=true then ((rightP_H.f Y γ J B).bind fun ν =>(if ν = true then ((rightP_I.f Y γ J B).bind fun a1=>(call_Check.j0 k (!a1))) else (call_Check.j0 k true))) else (call_Check.j0 k true))) else (call_Check.j0 k true))=some r:=H
  have A6:=Aside0.mk bc
  clear bc
  by_cases c7: ζ = true
  ·subst c7
   have H1:((call_within.f B 1 8).bind fun ρ=>(if ρ=true then ((rightP_H.f Y γ J B).bind fun ν =>(if ν = true then ((rightP_I.f Y γ J B).bind fun a1=>(call_Check.j0 k (!a1))) else (call_Check.j0 k true))) else (call_Check.j0 k true)))=some r:=by rw[if_pos rfl] at H;exact H
   clear H
   have H:=H1
   clear H1
   replace H:=Option.bind_eq_some_iff.mp H
   obtain⟨ρ,bj,H⟩:=H
   replace H:(if ρ=true then ((rightP_H.f Y γ J B).bind fun ν =>(if ν = true then ((rightP_I.f Y γ J B).bind fun a1=>(call_Check.j0 k (!a1))) else (call_Check.j0 k true))) else (call_Check.j0 k true))=some r:=H
   have A8:=Aside0.mk bj
   clear bj
   by_cases c9:ρ=true
   ·subst c9
    have H1:((rightP_H.f Y γ J B).bind fun ν =>(if ν = true then ((rightP_I.f Y γ J B).bind fun a1=>(call_Check.j0 k (!a1))) else (call_Check.j0 k true)))=some r:=by rw[if_pos rfl] at H;exact H
    clear H
    have H:=H1
    clear H1
    replace H:=Option.bind_eq_some_iff.mp H
    obtain⟨ν,db,H⟩:=H
    replace H:(if ν = true then ((rightP_I.f Y γ J B).bind fun a1=>(call_Check.j0 k (!a1))) else (call_Check.j0 k true))=some r:=H
    have e3:=Aside0.mk db
    clear db
    by_cases aw: ν = true
    ·subst aw
     have H1:((rightP_I.f Y γ J B).bind fun a1=>(call_Check.j0 k (!a1)))=some r:=by rw[if_pos rfl] at H;exact H
     clear H
     have H:=H1
     clear H1
     replace H:=Option.bind_eq_some_iff.mp H
     obtain⟨a1,av,H⟩:=H
     replace H:(call_Check.j0 k (!a1))=some r:=H
     have bu:=Aside0.mk av
     clear av
     have H':=Aside0.mk H
     clear H
     try go_wp2
     have L:=Aside0.mk (Qe Z.out)
     have O:=Aside0.mk (Qe ε.out)
     have X:=Aside0.mk (Qf HB.out)
     clear Z
     clear ε
     clear HB
     have Z:=L
     have ε :=O
     have HB:=X
     clear L O X
     refine Zv (n:=26) (S:=fun w'=>w'.cell? ⟨ι,0,none⟩=some (.int .i64 J)∧w'.cell? ⟨ι,1,none⟩=some (.int .i64 B)∧w'.cell? ⟨σ,0,none⟩=some (.slice μ Y.length η)∧w'.cell? ⟨σ,1,none⟩=some (.slice κ γ.length θ)) (ds:=[]) #[false,false,false,false,false,false,false,false,false,false,false,false,false,false,false,false,false,false,false,false,false,false,false,false,false,false] kr rfl rfl ⟨(Qk Z.out 0).trans rfl,(Qk Z.out 1).trans rfl,(Qk ε.out 0).trans rfl,(Qk ε.out 1).trans rfl⟩ (fun hHeld=>?_);refine Zf call_Check.Kq call_Check.Y9 (fun HT_ HW_=>?_)
     generalize w5.drew=ew at Z ε HB hHeld ⊢
     refine qP 0 (some 5) (qB 26 1) HT_ ?_
     refine qT 1 (some 6) (qB 26 3) HT_ HW_ hHeld ?_
     refine Zn (i:=2) (N:=some 7) #[true,true,true,false,false,false,false,false,false,false,false,false,false,false,false,false,false,false,false,false,false,false,false,false,false,false] rfl rfl (Zc HT_.out kr) (by decide) (fun K hK=>?_)
     refine Zm Try.func44 kr rfl #[.int .i64 J,.int .i64 2,.int .i64 64] (by rfl) rfl rfl (by(try simp only[List.map_toArray,List.map_cons,List.map_nil]);first|done|rfl|(simp only[List.length_drop,List.length_take];rfl)) ?_
     with_reducible refine(call_within.calls J 2 64 true _ A6.out).mono ?_
     rintro e w' ⟨rfl,⟨nd,rfl⟩⟩
     refine⟨_,rfl, ?_⟩
     refine hK.out _ _ ⟨qc Z,qc Z,qc ε,qc ε⟩ (fun hHeld=>?_)
     clear hK K
     refine qN (some 7) ?_
     refine qP 3 (some 8) (qB 26 15) HT_ ?_
     refine qP 4 (some 9) (qB 26 31) HT_ ?_
     refine qP 5 (some 10) (qB 26 63) HT_ ?_
     refine qT 6 (some 11) (qB 26 127) HT_ HW_ hHeld ?_
     refine Zn (i:=7) (N:=some 12) #[true,true,true,true,true,true,true,true,false,false,false,false,false,false,false,false,false,false,false,false,false,false,false,false,false,false] rfl rfl (Zc HT_.out kr) (by decide) (fun K hK=>?_)
     refine Zm Try.func44 kr rfl #[.int .i64 B,.int .i64 1,.int .i64 8] (by rfl) rfl rfl (by(try simp only[List.map_toArray,List.map_cons,List.map_nil]);first|done|rfl|(simp only[List.length_drop,List.length_take];rfl)) ?_
     with_reducible refine(call_within.calls B 1 8 true _ A8.out).mono ?_
     rintro e w' ⟨rfl,⟨nd,rfl⟩⟩
     refine⟨_,rfl, ?_⟩
     refine hK.out _ _ ⟨qc Z,qc Z,qc ε,qc ε⟩ (fun hHeld=>?_)
     clear hK K
     refine qN (some 12) ?_
     refine qP 8 (some 13) (qB 26 511) HT_ ?_
     refine qP 9 (some 14) (qB 26 1023) HT_ ?_
     refine qP 10 (some 15) (qB 26 2047) HT_ ?_
     refine qT 11 (some 16) (qB 26 4095) HT_ HW_ hHeld ?_
     refine qT 13 (some 18) (qB 26 12287) HT_ HW_ hHeld ?_
     refine Zn (i:=12) (N:=some 17) #[true,true,true,true,true,true,true,true,true,true,true,true,true,true,false,false,false,false,false,false,false,false,false,false,false,false] rfl rfl (Zc HT_.out kr) (by decide) (fun K hK=>?_)
     refine Zm Try.func63 kr rfl #[.agg #[.slice μ Y.length η,.slice κ γ.length θ]] (by rfl) rfl rfl qM ?_
     refine(Ju μ κ Y.length γ.length η θ _).mono ?_
     rintro e b8 ⟨rfl,hb⟩
     refine⟨_,rfl, ?_⟩
     have L:=Aside0.mk (Qh (g:= ι) (o:=.cells #[.int .i64 J,.int .i64 B] 59 (0,0)) (by(with_reducible repeat first|apply Qb|apply Qe|apply Qc);exact Z.out) hb)
     have O:=Aside0.mk (Qh (g:=σ) (o:=.cells #[.slice μ Y.length η,.slice κ γ.length θ] 50 (0,0)) (by(with_reducible repeat first|apply Qb|apply Qe|apply Qc);exact ε.out) hb)
     have X:=Aside0.mk (Qj (by repeat(first|(with_reducible first|exact HB.out|apply Qg|apply Qd|apply Qf|refine Qa ?_ χ.out|refine Qa ?_ a0.out)|exact HB.out)) hb)
     clear Z
     clear ε
     clear HB
     have Z:=L
     have ε :=O
     have HB:=X
     clear L O X
     (try clear hb)
     (try clear ak)
     (try clear hk)
     (try clear hi)
     refine hK.out _ _ ⟨qc Z,qc Z,qc ε,qc ε⟩ (fun hHeld=>?_)
     clear hK K
     refine qN (some 17) ?_
     refine Zn (i:=14) (N:=some 19) #[true,true,true,true,true,true,true,true,true,true,true,true,true,true,true,false,false,false,false,false,false,false,false,false,false,false] rfl rfl (Zc HT_.out kr) (by decide) (fun K hK=>?_)
     refine Zm Try.func65 kr rfl #[.agg #[.int .i64 J,.int .i64 B]] (by rfl) rfl rfl qM ?_
     refine(Jf J B _).mono ?_
     rintro e b9 ⟨ψ,rfl,hgp,hgw,hb⟩
     have a5:=Aside0.mk hgp
     clear hgp hgw
     refine⟨_,rfl, ?_⟩
     have L:=Aside0.mk (Qh (g:= ι) (o:=.cells #[.int .i64 J,.int .i64 B] 59 (0,0)) (by(with_reducible repeat first|apply Qb|apply Qe|apply Qc);exact Z.out) hb)
     have O:=Aside0.mk (Qh (g:=σ) (o:=.cells #[.slice μ Y.length η,.slice κ γ.length θ] 50 (0,0)) (by(with_reducible repeat first|apply Qb|apply Qe|apply Qc);exact ε.out) hb)
     have X:=Aside0.mk (Qj (by repeat(first|(with_reducible first|exact HB.out|apply Qg|apply Qd|apply Qf|refine Qa ?_ χ.out|refine Qa ?_ a0.out)|exact HB.out)) hb)
     clear Z
     clear ε
     clear HB
     have Z:=L
     have ε :=O
     have HB:=X
     clear L O X
     (try clear hb)
     (try clear ak)
     (try clear hk)
     (try clear hi)
     refine hK.out _ _ ⟨qc Z,qc Z,qc ε,qc ε⟩ (fun hHeld=>?_)
     clear hK K
     refine qN (some 19) ?_
     refine Zn (i:=15) (N:=some 20) #[true,true,true,true,true,true,true,true,true,true,true,true,true,true,true,true,false,false,false,false,false,false,false,false,false,false] rfl rfl (Zc HT_.out kr) (by decide) (fun K hK=>?_)
     refine Zm Try.func64 kr rfl #[.agg #[.slice μ Y.length η,.func (.func 79) #[] #[]],.func (.func 82) #[] #[.pointer (some ⟨ψ,0,none⟩)]] (by rfl) rfl rfl (by(try simp only[List.map_toArray,List.map_cons,List.map_nil]);first|done|rfl|(simp only[List.length_drop,List.length_take];rfl)) ?_
     with_reducible refine(rightP_H.calls μ η Y κ θ γ J B true _ ?side1 ?side2 ?side3 ?side4 e3.out ψ a5.out).mono ?_
     (case side1=>repeat(first|exact(Kd.Q0 be.out (by repeat(first|(with_reducible first|exact HB.out|apply Qg|apply Qd|apply Qf|refine Qa ?_ χ.out|refine Qa ?_ a0.out)|exact HB.out)))|(with_reducible refine Kd.Q3 ?_ _)|(with_reducible refine Kd.Q2 ?_ _)|(with_reducible refine Kd.Q9 ?_)))
     (case side2=>exact bz.out)
     (case side3=>repeat(first|exact(Kd.Q0 bf.out (by repeat(first|(with_reducible first|exact HB.out|apply Qg|apply Qd|apply Qf|refine Qa ?_ χ.out|refine Qa ?_ a0.out)|exact HB.out)))|(with_reducible refine Kd.Q3 ?_ _)|(with_reducible refine Kd.Q2 ?_ _)|(with_reducible refine Kd.Q9 ?_)))
     (case side4=>exact ca.out)
     rintro e cf ⟨rfl,hb⟩
     refine⟨_,rfl, ?_⟩
     have L:=Aside0.mk (Qh (g:= ι) (o:=.cells #[.int .i64 J,.int .i64 B] 59 (0,0)) (by(with_reducible repeat first|apply Qb|apply Qe|apply Qc);exact Z.out) hb)
     have O:=Aside0.mk (Qh (g:=σ) (o:=.cells #[.slice μ Y.length η,.slice κ γ.length θ] 50 (0,0)) (by(with_reducible repeat first|apply Qb|apply Qe|apply Qc);exact ε.out) hb)
     have X:=Aside0.mk (Qj (by repeat(first|(with_reducible first|exact HB.out|apply Qg|apply Qd|apply Qf|refine Qa ?_ χ.out|refine Qa ?_ a0.out)|exact HB.out)) hb)
     clear Z
     clear ε
     clear HB
     have Z:=L
     have ε :=O
     have HB:=X
     clear L O X
     (try clear hb)
     (try clear ak)
     (try clear hk)
     (try clear hi)
     refine hK.out _ _ ⟨qc Z,qc Z,qc ε,qc ε⟩ (fun hHeld=>?_)
     clear hK K
     refine qN (some 20) ?_
     refine qP 16 (some 21) (qB 26 131071) HT_ ?_
     refine qP 17 (some 22) (qB 26 262143) HT_ ?_
     refine qP 18 (some 23) (qB 26 524287) HT_ ?_
     refine qT 19 (some 24) (qB 26 1048575) HT_ HW_ hHeld ?_
     refine qT 21 (some 26) (qB 26 3145727) HT_ HW_ hHeld ?_
     refine Zn (i:=20) (N:=some 25) #[true,true,true,true,true,true,true,true,true,true,true,true,true,true,true,true,true,true,true,true,true,true,false,false,false,false] rfl rfl (Zc HT_.out kr) (by decide) (fun K hK=>?_)
     refine Zm Try.func66 kr rfl #[.agg #[.slice μ Y.length η,.slice κ γ.length θ]] (by rfl) rfl rfl qM ?_
     refine(K3 μ κ Y.length γ.length η θ _).mono ?_
     rintro e bd ⟨rfl,hb⟩
     refine⟨_,rfl, ?_⟩
     have L:=Aside0.mk (Qh (g:= ι) (o:=.cells #[.int .i64 J,.int .i64 B] 59 (0,0)) (by(with_reducible repeat first|apply Qb|apply Qe|apply Qc);exact Z.out) hb)
     have O:=Aside0.mk (Qh (g:=σ) (o:=.cells #[.slice μ Y.length η,.slice κ γ.length θ] 50 (0,0)) (by(with_reducible repeat first|apply Qb|apply Qe|apply Qc);exact ε.out) hb)
     have X:=Aside0.mk (Qj (by repeat(first|(with_reducible first|exact HB.out|apply Qg|apply Qd|apply Qf|refine Qa ?_ χ.out|refine Qa ?_ a0.out)|exact HB.out)) hb)
     clear Z
     clear ε
     clear HB
     have Z:=L
     have ε :=O
     have HB:=X
     clear L O X
     (try clear hb)
     (try clear ak)
     (try clear hk)
     (try clear hi)
     refine hK.out _ _ ⟨qc Z,qc Z,qc ε,qc ε⟩ (fun hHeld=>?_)
     clear hK K
     refine qN (some 25) ?_
     refine Zn (i:=22) (N:=some 27) #[true,true,true,true,true,true,true,true,true,true,true,true,true,true,true,true,true,true,true,true,true,true,true,false,false,false] rfl rfl (Zc HT_.out kr) (by decide) (fun K hK=>?_)
     refine Zm Try.func68 kr rfl #[.agg #[.int .i64 J,.int .i64 B]] (by rfl) rfl rfl qM ?_
     refine(Ug J B _).mono ?_
     rintro e a9 ⟨a2,rfl,hgp,hgw,hb⟩
     have a6:=Aside0.mk hgp
     clear hgp hgw
     refine⟨_,rfl, ?_⟩
     have L:=Aside0.mk (Qh (g:= ι) (o:=.cells #[.int .i64 J,.int .i64 B] 59 (0,0)) (by(with_reducible repeat first|apply Qb|apply Qe|apply Qc);exact Z.out) hb)
     have O:=Aside0.mk (Qh (g:=σ) (o:=.cells #[.slice μ Y.length η,.slice κ γ.length θ] 50 (0,0)) (by(with_reducible repeat first|apply Qb|apply Qe|apply Qc);exact ε.out) hb)
     have X:=Aside0.mk (Qj (by repeat(first|(with_reducible first|exact HB.out|apply Qg|apply Qd|apply Qf|refine Qa ?_ χ.out|refine Qa ?_ a0.out)|exact HB.out)) hb)
     clear Z
     clear ε
     clear HB
     have Z:=L
     have ε :=O
     have HB:=X
     clear L O X
     (try clear hb)
     (try clear ak)
     (try clear hk)
     (try clear hi)
     refine hK.out _ _ ⟨qc Z,qc Z,qc ε,qc ε⟩ (fun hHeld=>?_)
     clear hK K
     refine qN (some 27) ?_
     refine Zn (i:=23) (N:=some 28) #[true,true,true,true,true,true,true,true,true,true,true,true,true,true,true,true,true,true,true,true,true,true,true,true,false,false] rfl rfl (Zc HT_.out kr) (by decide) (fun K hK=>?_)
     refine Zm Try.func67 kr rfl #[.agg #[.slice κ γ.length θ,.func (.func 83) #[] #[]],.func (.func 84) #[] #[.pointer (some ⟨a2,0,none⟩)]] (by rfl) rfl rfl (by(try simp only[List.map_toArray,List.map_cons,List.map_nil]);first|done|rfl|(simp only[List.length_drop,List.length_take];rfl)) ?_
     with_reducible refine(rightP_I.calls μ η Y κ θ γ J B a1 _ ?side1 ?side2 ?side3 ?side4 bu.out a2 a6.out).mono ?_
     (case side1=>repeat(first|exact(Kd.Q0 be.out HB.out)|(with_reducible refine Kd.Q3 ?_ _)|(with_reducible refine Kd.Q2 ?_ _)|(with_reducible refine Kd.Q9 ?_)))
     (case side2=>exact bz.out)
     (case side3=>repeat(first|exact(Kd.Q0 bf.out HB.out)|(with_reducible refine Kd.Q3 ?_ _)|(with_reducible refine Kd.Q2 ?_ _)|(with_reducible refine Kd.Q9 ?_)))
     (case side4=>exact ca.out)
     rintro e gf ⟨rfl,hb⟩
     refine⟨_,rfl, ?_⟩
     have L:=Aside0.mk (Qh (g:= ι) (o:=.cells #[.int .i64 J,.int .i64 B] 59 (0,0)) (by(with_reducible repeat first|apply Qb|apply Qe|apply Qc);exact Z.out) hb)
     have O:=Aside0.mk (Qh (g:=σ) (o:=.cells #[.slice μ Y.length η,.slice κ γ.length θ] 50 (0,0)) (by(with_reducible repeat first|apply Qb|apply Qe|apply Qc);exact ε.out) hb)
     have X:=Aside0.mk (Qj (by repeat(first|(with_reducible first|exact HB.out|apply Qg|apply Qd|apply Qf|refine Qa ?_ χ.out|refine Qa ?_ a0.out)|exact HB.out)) hb)
     clear Z
     clear ε
     clear HB
     have Z:=L
     have ε :=O
     have HB:=X
     clear L O X
     (try clear hb)
     (try clear ak)
     (try clear hk)
     (try clear hi)
     refine hK.out _ _ ⟨qc Z,qc Z,qc ε,qc ε⟩ (fun hHeld=>?_)
     clear hK K
     refine qN (some 28) ?_
     refine qP 24 (some 29) (qB 26 33554431) HT_ ?_
     refine qP 25 (some 30) (qB 26 67108863) HT_ ?_
     refine Xd (Zu HT_.out kr) ?_
     try go_wp2
     go_meet
     case rel=>exact⟨_,(!a1),qR,H',⟨by first|omega|exact Nat.le_refl _⟩,⟨by(with_reducible repeat first|apply Qb|apply Qe|apply Qc);exact Z.out⟩,⟨by(with_reducible repeat first|apply Qb|apply Qe|apply Qc);exact ε.out⟩,⟨by repeat(first|(with_reducible first|exact HB.out|apply Qg|apply Qd|apply Qf|refine Qa ?_ χ.out|refine Qa ?_ a0.out)|exact HB.out)⟩⟩
    ·replace aw:=Bool.eq_false_iff.mpr aw
     subst aw
     have H1:(call_Check.j0 k true)=some r:=by rw[if_neg (show ¬ (false=true) by decide)] at H;exact H
     clear H
     have H:=H1
     clear H1
     have H':=Aside0.mk H
     clear H
     try go_wp2
     have L:=Aside0.mk (Qe Z.out)
     have O:=Aside0.mk (Qe ε.out)
     have X:=Aside0.mk (Qf HB.out)
     clear Z
     clear ε
     clear HB
     have Z:=L
     have ε :=O
     have HB:=X
     clear L O X
     refine Zv (n:=26) (S:=fun w'=>w'.cell? ⟨ι,0,none⟩=some (.int .i64 J)∧w'.cell? ⟨ι,1,none⟩=some (.int .i64 B)∧w'.cell? ⟨σ,0,none⟩=some (.slice μ Y.length η)∧w'.cell? ⟨σ,1,none⟩=some (.slice κ γ.length θ)) (ds:=[]) #[false,false,false,false,false,false,false,false,false,false,false,false,false,false,false,false,false,false,false,false,false,false,false,false,false,false] kr rfl rfl ⟨(Qk Z.out 0).trans rfl,(Qk Z.out 1).trans rfl,(Qk ε.out 0).trans rfl,(Qk ε.out 1).trans rfl⟩ (fun hHeld=>?_);refine Zf call_Check.Kq call_Check.Y9 (fun HT_ HW_=>?_)
     generalize w5.drew=df at Z ε HB hHeld ⊢
     refine qP 0 (some 5) (qB 26 1) HT_ ?_
     refine qT 1 (some 6) (qB 26 3) HT_ HW_ hHeld ?_
     refine Zn (i:=2) (N:=some 7) #[true,true,true,false,false,false,false,false,false,false,false,false,false,false,false,false,false,false,false,false,false,false,false,false,false,false] rfl rfl (Zc HT_.out kr) (by decide) (fun K hK=>?_)
     refine Zm Try.func44 kr rfl #[.int .i64 J,.int .i64 2,.int .i64 64] (by rfl) rfl rfl (by(try simp only[List.map_toArray,List.map_cons,List.map_nil]);first|done|rfl|(simp only[List.length_drop,List.length_take];rfl)) ?_
     with_reducible refine(call_within.calls J 2 64 true _ A6.out).mono ?_
     rintro e w' ⟨rfl,⟨nd,rfl⟩⟩
     refine⟨_,rfl, ?_⟩
     refine hK.out _ _ ⟨qc Z,qc Z,qc ε,qc ε⟩ (fun hHeld=>?_)
     clear hK K
     refine qN (some 7) ?_
     refine qP 3 (some 8) (qB 26 15) HT_ ?_
     refine qP 4 (some 9) (qB 26 31) HT_ ?_
     refine qP 5 (some 10) (qB 26 63) HT_ ?_
     refine qT 6 (some 11) (qB 26 127) HT_ HW_ hHeld ?_
     refine Zn (i:=7) (N:=some 12) #[true,true,true,true,true,true,true,true,false,false,false,false,false,false,false,false,false,false,false,false,false,false,false,false,false,false] rfl rfl (Zc HT_.out kr) (by decide) (fun K hK=>?_)
     refine Zm Try.func44 kr rfl #[.int .i64 B,.int .i64 1,.int .i64 8] (by rfl) rfl rfl (by(try simp only[List.map_toArray,List.map_cons,List.map_nil]);first|done|rfl|(simp only[List.length_drop,List.length_take];rfl)) ?_
     with_reducible refine(call_within.calls B 1 8 true _ A8.out).mono ?_
     rintro e w' ⟨rfl,⟨nd,rfl⟩⟩
     refine⟨_,rfl, ?_⟩
     refine hK.out _ _ ⟨qc Z,qc Z,qc ε,qc ε⟩ (fun hHeld=>?_)
     clear hK K
     refine qN (some 12) ?_
     refine qP 8 (some 13) (qB 26 511) HT_ ?_
     refine qP 9 (some 14) (qB 26 1023) HT_ ?_
     refine qP 10 (some 15) (qB 26 2047) HT_ ?_
     refine qT 11 (some 16) (qB 26 4095) HT_ HW_ hHeld ?_
     refine qT 13 (some 18) (qB 26 12287) HT_ HW_ hHeld ?_
     refine Zn (i:=12) (N:=some 17) #[true,true,true,true,true,true,true,true,true,true,true,true,true,true,false,false,false,false,false,false,false,false,false,false,false,false] rfl rfl (Zc HT_.out kr) (by decide) (fun K hK=>?_)
     refine Zm Try.func63 kr rfl #[.agg #[.slice μ Y.length η,.slice κ γ.length θ]] (by rfl) rfl rfl qM ?_
     refine(Ju μ κ Y.length γ.length η θ _).mono ?_
     rintro e aa ⟨rfl,hb⟩
     refine⟨_,rfl, ?_⟩
     have L:=Aside0.mk (Qh (g:= ι) (o:=.cells #[.int .i64 J,.int .i64 B] 59 (0,0)) (by(with_reducible repeat first|apply Qb|apply Qe|apply Qc);exact Z.out) hb)
     have O:=Aside0.mk (Qh (g:=σ) (o:=.cells #[.slice μ Y.length η,.slice κ γ.length θ] 50 (0,0)) (by(with_reducible repeat first|apply Qb|apply Qe|apply Qc);exact ε.out) hb)
     have X:=Aside0.mk (Qj (by repeat(first|(with_reducible first|exact HB.out|apply Qg|apply Qd|apply Qf|refine Qa ?_ χ.out|refine Qa ?_ a0.out)|exact HB.out)) hb)
     clear Z
     clear ε
     clear HB
     have Z:=L
     have ε :=O
     have HB:=X
     clear L O X
     (try clear hb)
     (try clear ak)
     (try clear hk)
     (try clear hi)
     refine hK.out _ _ ⟨qc Z,qc Z,qc ε,qc ε⟩ (fun hHeld=>?_)
     clear hK K
     refine qN (some 17) ?_
     refine Zn (i:=14) (N:=some 19) #[true,true,true,true,true,true,true,true,true,true,true,true,true,true,true,false,false,false,false,false,false,false,false,false,false,false] rfl rfl (Zc HT_.out kr) (by decide) (fun K hK=>?_)
     refine Zm Try.func65 kr rfl #[.agg #[.int .i64 J,.int .i64 B]] (by rfl) rfl rfl qM ?_
     refine(Jf J B _).mono ?_
     rintro e ab ⟨a4,rfl,hgp,hgw,hb⟩
     have a7:=Aside0.mk hgp
     clear hgp hgw
     refine⟨_,rfl, ?_⟩
     have L:=Aside0.mk (Qh (g:= ι) (o:=.cells #[.int .i64 J,.int .i64 B] 59 (0,0)) (by(with_reducible repeat first|apply Qb|apply Qe|apply Qc);exact Z.out) hb)
     have O:=Aside0.mk (Qh (g:=σ) (o:=.cells #[.slice μ Y.length η,.slice κ γ.length θ] 50 (0,0)) (by(with_reducible repeat first|apply Qb|apply Qe|apply Qc);exact ε.out) hb)
     have X:=Aside0.mk (Qj (by repeat(first|(with_reducible first|exact HB.out|apply Qg|apply Qd|apply Qf|refine Qa ?_ χ.out|refine Qa ?_ a0.out)|exact HB.out)) hb)
     clear Z
     clear ε
     clear HB
     have Z:=L
     have ε :=O
     have HB:=X
     clear L O X
     (try clear hb)
     (try clear ak)
     (try clear hk)
     (try clear hi)
     refine hK.out _ _ ⟨qc Z,qc Z,qc ε,qc ε⟩ (fun hHeld=>?_)
     clear hK K
     refine qN (some 19) ?_
     refine Zn (i:=15) (N:=some 20) #[true,true,true,true,true,true,true,true,true,true,true,true,true,true,true,true,false,false,false,false,false,false,false,false,false,false] rfl rfl (Zc HT_.out kr) (by decide) (fun K hK=>?_)
     refine Zm Try.func64 kr rfl #[.agg #[.slice μ Y.length η,.func (.func 79) #[] #[]],.func (.func 82) #[] #[.pointer (some ⟨a4,0,none⟩)]] (by rfl) rfl rfl (by(try simp only[List.map_toArray,List.map_cons,List.map_nil]);first|done|rfl|(simp only[List.length_drop,List.length_take];rfl)) ?_
     with_reducible refine(rightP_H.calls μ η Y κ θ γ J B false _ ?side1 ?side2 ?side3 ?side4 e3.out a4 a7.out).mono ?_
     (case side1=>repeat(first|exact(Kd.Q0 be.out (by repeat(first|(with_reducible first|exact HB.out|apply Qg|apply Qd|apply Qf|refine Qa ?_ χ.out|refine Qa ?_ a0.out)|exact HB.out)))|(with_reducible refine Kd.Q3 ?_ _)|(with_reducible refine Kd.Q2 ?_ _)|(with_reducible refine Kd.Q9 ?_)))
     (case side2=>exact bz.out)
     (case side3=>repeat(first|exact(Kd.Q0 bf.out (by repeat(first|(with_reducible first|exact HB.out|apply Qg|apply Qd|apply Qf|refine Qa ?_ χ.out|refine Qa ?_ a0.out)|exact HB.out)))|(with_reducible refine Kd.Q3 ?_ _)|(with_reducible refine Kd.Q2 ?_ _)|(with_reducible refine Kd.Q9 ?_)))
     (case side4=>exact ca.out)
     rintro e dv ⟨rfl,hb⟩
     refine⟨_,rfl, ?_⟩
     have L:=Aside0.mk (Qh (g:= ι) (o:=.cells #[.int .i64 J,.int .i64 B] 59 (0,0)) (by(with_reducible repeat first|apply Qb|apply Qe|apply Qc);exact Z.out) hb)
     have O:=Aside0.mk (Qh (g:=σ) (o:=.cells #[.slice μ Y.length η,.slice κ γ.length θ] 50 (0,0)) (by(with_reducible repeat first|apply Qb|apply Qe|apply Qc);exact ε.out) hb)
     have X:=Aside0.mk (Qj (by repeat(first|(with_reducible first|exact HB.out|apply Qg|apply Qd|apply Qf|refine Qa ?_ χ.out|refine Qa ?_ a0.out)|exact HB.out)) hb)
     clear Z
     clear ε
     clear HB
     have Z:=L
     have ε :=O
     have HB:=X
     clear L O X
     (try clear hb)
     (try clear ak)
     (try clear hk)
     (try clear hi)
     refine hK.out _ _ ⟨qc Z,qc Z,qc ε,qc ε⟩ (fun hHeld=>?_)
     clear hK K
     refine qN (some 20) ?_
     refine qP 16 (some 21) (qB 26 131071) HT_ ?_
     refine qP 17 (some 22) (qB 26 262143) HT_ ?_
     refine qP 18 (some 23) (qB 26 524287) HT_ ?_
     refine qU 19 (some 24) (qB 26 1048575) HT_ ?_
     refine qU 20 (some 25) (qB 26 2097151) HT_ ?_
     refine qU 21 (some 26) (qB 26 4194303) HT_ ?_
     refine qU 22 (some 27) (qB 26 8388607) HT_ ?_
     refine qU 23 (some 28) (qB 26 16777215) HT_ ?_
     refine qU 24 (some 29) (qB 26 33554431) HT_ ?_
     refine qP 25 (some 30) (qB 26 67108863) HT_ ?_
     refine Xd (Zu HT_.out kr) ?_
     try go_wp2
     go_meet
     case rel=>exact⟨_,(true),qR,H',⟨by first|omega|exact Nat.le_refl _⟩,⟨by(with_reducible repeat first|apply Qb|apply Qe|apply Qc);exact Z.out⟩,⟨by(with_reducible repeat first|apply Qb|apply Qe|apply Qc);exact ε.out⟩,⟨by repeat(first|(with_reducible first|exact HB.out|apply Qg|apply Qd|apply Qf|refine Qa ?_ χ.out|refine Qa ?_ a0.out)|exact HB.out)⟩⟩
   ·replace c9:=Bool.eq_false_iff.mpr c9
    subst c9
    have H1:(call_Check.j0 k true)=some r:=by rw[if_neg (show ¬ (false=true) by decide)] at H;exact H
    clear H
    have H:=H1
    clear H1
    have H':=Aside0.mk H
    clear H
    try go_wp2
    have L:=Aside0.mk (Qe Z.out)
    have O:=Aside0.mk (Qe ε.out)
    have X:=Aside0.mk (Qf HB.out)
    clear Z
    clear ε
    clear HB
    have Z:=L
    have ε :=O
    have HB:=X
    clear L O X
    refine Zv (n:=26) (S:=fun w'=>w'.cell? ⟨ι,0,none⟩=some (.int .i64 J)∧w'.cell? ⟨ι,1,none⟩=some (.int .i64 B)) (ds:=[]) #[false,false,false,false,false,false,false,false,false,false,false,false,false,false,false,false,false,false,false,false,false,false,false,false,false,false] kr rfl rfl ⟨(Qk Z.out 0).trans rfl,(Qk Z.out 1).trans rfl⟩ (fun hHeld=>?_);refine Zf call_Check.Kq call_Check.Y9 (fun HT_ HW_=>?_)
    generalize w5.drew=gt at Z ε HB hHeld ⊢
    refine qP 0 (some 5) (qB 26 1) HT_ ?_
    refine qT 1 (some 6) (qB 26 3) HT_ HW_ hHeld ?_
    refine Zn (i:=2) (N:=some 7) #[true,true,true,false,false,false,false,false,false,false,false,false,false,false,false,false,false,false,false,false,false,false,false,false,false,false] rfl rfl (Zc HT_.out kr) (by decide) (fun K hK=>?_)
    refine Zm Try.func44 kr rfl #[.int .i64 J,.int .i64 2,.int .i64 64] (by rfl) rfl rfl (by(try simp only[List.map_toArray,List.map_cons,List.map_nil]);first|done|rfl|(simp only[List.length_drop,List.length_take];rfl)) ?_
    with_reducible refine(call_within.calls J 2 64 true _ A6.out).mono ?_
    rintro e w' ⟨rfl,⟨nd,rfl⟩⟩
    refine⟨_,rfl, ?_⟩
    refine hK.out _ _ ⟨qc Z,qc Z⟩ (fun hHeld=>?_)
    clear hK K
    refine qN (some 7) ?_
    refine qP 3 (some 8) (qB 26 15) HT_ ?_
    refine qP 4 (some 9) (qB 26 31) HT_ ?_
    refine qP 5 (some 10) (qB 26 63) HT_ ?_
    refine qT 6 (some 11) (qB 26 127) HT_ HW_ hHeld ?_
    refine Zn (i:=7) (N:=some 12) #[true,true,true,true,true,true,true,true,false,false,false,false,false,false,false,false,false,false,false,false,false,false,false,false,false,false] rfl rfl (Zc HT_.out kr) (by decide) (fun K hK=>?_)
    refine Zm Try.func44 kr rfl #[.int .i64 B,.int .i64 1,.int .i64 8] (by rfl) rfl rfl (by(try simp only[List.map_toArray,List.map_cons,List.map_nil]);first|done|rfl|(simp only[List.length_drop,List.length_take];rfl)) ?_
    with_reducible refine(call_within.calls B 1 8 false _ A8.out).mono ?_
    rintro e w' ⟨rfl,⟨nd,rfl⟩⟩
    refine⟨_,rfl, ?_⟩
    refine hK.out _ _ ⟨qc Z,qc Z⟩ (fun hHeld=>?_)
    clear hK K
    refine qN (some 12) ?_
    refine qP 8 (some 13) (qB 26 511) HT_ ?_
    refine qP 9 (some 14) (qB 26 1023) HT_ ?_
    refine qP 10 (some 15) (qB 26 2047) HT_ ?_
    refine qU 11 (some 16) (qB 26 4095) HT_ ?_
    refine qU 12 (some 17) (qB 26 8191) HT_ ?_
    refine qU 13 (some 18) (qB 26 16383) HT_ ?_
    refine qU 14 (some 19) (qB 26 32767) HT_ ?_
    refine qU 15 (some 20) (qB 26 65535) HT_ ?_
    refine qU 16 (some 21) (qB 26 131071) HT_ ?_
    refine qP 17 (some 22) (qB 26 262143) HT_ ?_
    refine qP 18 (some 23) (qB 26 524287) HT_ ?_
    refine qU 19 (some 24) (qB 26 1048575) HT_ ?_
    refine qU 20 (some 25) (qB 26 2097151) HT_ ?_
    refine qU 21 (some 26) (qB 26 4194303) HT_ ?_
    refine qU 22 (some 27) (qB 26 8388607) HT_ ?_
    refine qU 23 (some 28) (qB 26 16777215) HT_ ?_
    refine qU 24 (some 29) (qB 26 33554431) HT_ ?_
    refine qP 25 (some 30) (qB 26 67108863) HT_ ?_
    refine Xd (Zu HT_.out kr) ?_
    try go_wp2
    go_meet
    case rel=>exact⟨_,(true),qR,H',⟨by first|omega|exact Nat.le_refl _⟩,⟨by(with_reducible repeat first|apply Qb|apply Qe|apply Qc);exact Z.out⟩,⟨by(with_reducible repeat first|apply Qb|apply Qe|apply Qc);exact ε.out⟩,⟨by repeat(first|(with_reducible first|exact HB.out|apply Qg|apply Qd|apply Qf|refine Qa ?_ χ.out|refine Qa ?_ a0.out)|exact HB.out)⟩⟩
  ·replace c7:=Bool.eq_false_iff.mpr c7
   subst c7
   have H1:(call_Check.j0 k true)=some r:=by rw[if_neg (show ¬ (false=true) by decide)] at H;exact H
   clear H
   have H:=H1
   clear H1
   have H':=Aside0.mk H
   clear H
   try go_wp2
   have L:=Aside0.mk (Qe Z.out)
   have O:=Aside0.mk (Qe ε.out)
   have X:=Aside0.mk (Qf HB.out)
   clear Z
   clear ε
   clear HB
   have Z:=L
   have ε :=O
   have HB:=X
   clear L O X
   refine Zv (n:=26) (S:=fun w'=>w'.cell? ⟨ι,0,none⟩=some (.int .i64 J)∧w'.cell? ⟨ι,1,none⟩=some (.int .i64 B)) (ds:=[]) #[false,false,false,false,false,false,false,false,false,false,false,false,false,false,false,false,false,false,false,false,false,false,false,false,false,false] kr rfl rfl ⟨(Qk Z.out 0).trans rfl,(Qk Z.out 1).trans rfl⟩ (fun hHeld=>?_);refine Zf call_Check.Kq call_Check.Y9 (fun HT_ HW_=>?_)
   generalize w5.drew=ba at Z ε HB hHeld ⊢
   refine qP 0 (some 5) (qB 26 1) HT_ ?_
   refine qT 1 (some 6) (qB 26 3) HT_ HW_ hHeld ?_
   refine Zn (i:=2) (N:=some 7) #[true,true,true,false,false,false,false,false,false,false,false,false,false,false,false,false,false,false,false,false,false,false,false,false,false,false] rfl rfl (Zc HT_.out kr) (by decide) (fun K hK=>?_)
   refine Zm Try.func44 kr rfl #[.int .i64 J,.int .i64 2,.int .i64 64] (by rfl) rfl rfl (by(try simp only[List.map_toArray,List.map_cons,List.map_nil]);first|done|rfl|(simp only[List.length_drop,List.length_take];rfl)) ?_
   with_reducible refine(call_within.calls J 2 64 false _ A6.out).mono ?_
   rintro e w' ⟨rfl,⟨nd,rfl⟩⟩
   refine⟨_,rfl, ?_⟩
   refine hK.out _ _ ⟨qc Z,qc Z⟩ (fun hHeld=>?_)
   clear hK K
   refine qN (some 7) ?_
   refine qP 3 (some 8) (qB 26 15) HT_ ?_
   refine qP 4 (some 9) (qB 26 31) HT_ ?_
   refine qU 5 (some 10) (qB 26 63) HT_ ?_
   refine qU 6 (some 11) (qB 26 127) HT_ ?_
   refine qU 7 (some 12) (qB 26 255) HT_ ?_
   refine qU 8 (some 13) (qB 26 511) HT_ ?_
   refine qP 9 (some 14) (qB 26 1023) HT_ ?_
   refine qP 10 (some 15) (qB 26 2047) HT_ ?_
   refine qU 11 (some 16) (qB 26 4095) HT_ ?_
   refine qU 12 (some 17) (qB 26 8191) HT_ ?_
   refine qU 13 (some 18) (qB 26 16383) HT_ ?_
   refine qU 14 (some 19) (qB 26 32767) HT_ ?_
   refine qU 15 (some 20) (qB 26 65535) HT_ ?_
   refine qU 16 (some 21) (qB 26 131071) HT_ ?_
   refine qP 17 (some 22) (qB 26 262143) HT_ ?_
   refine qP 18 (some 23) (qB 26 524287) HT_ ?_
   refine qU 19 (some 24) (qB 26 1048575) HT_ ?_
   refine qU 20 (some 25) (qB 26 2097151) HT_ ?_
   refine qU 21 (some 26) (qB 26 4194303) HT_ ?_
   refine qU 22 (some 27) (qB 26 8388607) HT_ ?_
   refine qU 23 (some 28) (qB 26 16777215) HT_ ?_
   refine qU 24 (some 29) (qB 26 33554431) HT_ ?_
   refine qP 25 (some 30) (qB 26 67108863) HT_ ?_
   refine Xd (Zu HT_.out kr) ?_
   try go_wp2
   go_meet
   case rel=>exact⟨_,(true),qR,H',⟨by first|omega|exact Nat.le_refl _⟩,⟨by(with_reducible repeat first|apply Qb|apply Qe|apply Qc);exact Z.out⟩,⟨by(with_reducible repeat first|apply Qb|apply Qe|apply Qc);exact ε.out⟩,⟨by repeat(first|(with_reducible first|exact HB.out|apply Qg|apply Qd|apply Qf|refine Qa ?_ χ.out|refine Qa ?_ a0.out)|exact HB.out)⟩⟩
 case rest=>
  clear a3
  try clear c1
  try clear p2
  try clear c4
  try clear c6
  try clear c7
  try clear c9
  obtain⟨kq,τ,rfl,HA,mw,Z,ε,HB⟩:=hcut
  cases kq with
  |zero=>exact absurd HA.out (by simp[call_Check.j0])
  |succ my=>
   have H:=HA.out
   clear HA
   simp only[call_Check.j0] at H
   by_cases cb: τ = true
   ·subst cb
    have H1:(some 190)=some r:=by rw[if_pos rfl] at H;exact H
    clear H
    have H:=H1
    clear H1
    obtain rfl:=Option.some.inj H
    go_wp2
    go_ret
    exact⟨by first|rfl|(simp[Qo,Qn] <;> rfl)|(simp[*,Qo,Qn] <;> rfl),by repeat(first|(with_reducible first|exact HB.out|apply Qg|apply Qd|apply Qf|refine Qa ?_ χ.out|refine Qa ?_ a0.out)|exact HB.out)⟩
   ·replace cb:=Bool.eq_false_iff.mpr cb
    subst cb
    have H1:(some 0)=some r:=by rw[if_neg (show ¬ (false=true) by decide)] at H;exact H
    clear H
    have H:=H1
    clear H1
    obtain rfl:=Option.some.inj H
    go_wp2
    go_ret
    exact⟨by first|rfl|(simp[Qo,Qn] <;> rfl)|(simp[*,Qo,Qn] <;> rfl),by repeat(first|(with_reducible first|exact HB.out|apply Qg|apply Qd|apply Qf|refine Qa ?_ χ.out|refine Qa ?_ a0.out)|exact HB.out)⟩
def call_change.f (U_:Option (List S36)) (I_:Option (List S86)) (k:Nat) (J:Int) (B:Int) (Y:List (S36)) (γ:List (S86)) (a2:Bool) (a3:Int) (ac:Int) (ae:Int) (af:Int) (a5:Int) (an:Int) (ap:Int):Option ((List (S36))×(List (S86))×Int):=(call_Check.f k J B Y γ).bind fun a1=>(if a1=0 then (if a2=true then ((U_).bind fun a9=>((I_).bind fun ar=>(some (a9,ar,0)))) else (some (([]:List (S36)),([]:List (S86)),191))) else (some (([]:List (S36)),([]:List (S86)),a1)))
theorem call_change.mono:∀ U_ I_ J Z a2 a3 L a5 O a7 a8 a9 X Y k,LeO (call_change.f U_ I_ k J Z a2 a3 L a5 O a7 a8 a9 X Y) (call_change.f U_ I_ (k+1) J Z a2 a3 L a5 O a7 a8 a9 X Y):=by
 intro U_ I_ J Z a2 a3 L a5 O a7 a8 a9 X Y k
 unfold call_change.f
 repeat' first
   |(with_reducible exact call_Check.mono _ _ _ _ _)
   |(with_reducible exact LeO.refl _)
   |(with_reducible exact LeO.none _)
   |(with_reducible refine LeO.ite ?_ ?_)
   |(with_reducible refine LeO.bind ?_ (fun _=>?_))
   |exact call_Check.mono _ _ _ _ _
   |exact LeO.none _
   |refine LeO.ite ?_ ?_
   |refine LeO.bind ?_ (fun _=>?_)
def call_change.T6:Bool×List (List Nat×List Nat):=(true,[([],[]),([],[]),([0,1],[0,1]),([],[]),([],[]),([3,4,2],[3,4]),([2,5],[2,5]),([6,5,0,1,2,3,4,5,6],[6]),([7,0,1,2,3,4,5,6,7],[])])
def call_change.B6:List Nat:=[0,0,3,0,0,31,63,127,255]
theorem call_change.N1:rtab .any (opsOf Try.f73 6)=call_change.T6:=by kernel_rfl
theorem call_change.Me:Z3 call_change.T6.2 call_change.B6=true:=by kernel_rfl
set_option maxHeartbeats 8000000 in
set_option maxRecDepth 100000 in
theorem call_change.calls (U_:Option (List S36)) (I_:Option (List S86)) (k:Nat) (J:Int) (B:Int) (μ :Option Addr) (η :Nat) (Y:List (S36)) (κ :Option Addr) (θ :Nat) (γ:List (S86)) (a2:Bool) (a3:Int) (ac:Int) (ae:Int) (af:Int) (a5:Int) (an:Int) (ap:Int) (r1:List (S36)) (r2:List (S86)) (r3:Int) (w:World) (bm:Kd.C k36 w μ Y.length Y) (bn:Y.length ≤ η) (bv:Kd.C k86 w κ γ.length γ) (bw:γ.length ≤ θ) (h:call_change.f U_ I_ k J B Y γ a2 a3 ac ae af a5 an ap=some (r1,r2,r3)) (fu_:FuncId) (fnu_:Func) (ru_:Value) (hfu_:Try.prog.funcs[fu_]?=some fnu_) (hnu_:(fnu_.name == "runtime.NumGoroutine")=false) (hbu_:fnu_.body.isSome=true) (hu_:∀ (W:World) (t:List S36),U_=some t→Below w.heap.size w W→Calls Try.prog fu_ #[ru_,.agg #[.int .i64 ac,.int .i64 ae,.int .i64 af]] W fun e w'=>∃ bk:Value,e = .returned bk∧Kd.R k36 36 w' W.heap.size (fun _=>True) bk t∧Below W.heap.size W w') (fi_:FuncId) (fni_:Func) (ri_:Value) (hfi_:Try.prog.funcs[fi_]?=some fni_) (hni_:(fni_.name == "runtime.NumGoroutine")=false) (hbi_:fni_.body.isSome=true) (hi_:∀ (W:World) (t:List S86),I_=some t→Below w.heap.size w W→Calls Try.prog fi_ #[ri_,.agg #[.int .i64 an,.int .i64 ap]] W fun e w'=>∃ bk:Value,e = .returned bk∧Kd.R k86 86 w' W.heap.size (fun _=>True) bk t∧Below W.heap.size W w'):
  Calls Try.prog 73 #[.agg #[.int .i64 J,.int .i64 B],.agg #[.slice μ Y.length η,.slice κ γ.length θ],.bool a2,(.func (.func fu_) #[ru_] #[]),.agg #[.int .i64 ac,.int .i64 ae,.int .i64 af],(.func (.func fi_) #[ri_] #[]),.agg #[.int .i64 an,.int .i64 ap]] w fun e w'=>∃ bk fj:Value,e = .returned (.tuple #[.agg #[bk,fj],.int .i64 r3])∧Kd.R k36 36 w' w.heap.size (fun _=>True) bk r1∧Kd.R k86 86 w' w.heap.size (fun _=>True) fj r2∧Below w.heap.size w w':=by
 have HFU:=Aside0.mk hfu_
 have HNU:=Aside0.mk hnu_
 have HBU:=Aside0.mk hbu_
 have HCU:=Aside0.mk hu_
 have HFI:=Aside0.mk hfi_
 have HNI:=Aside0.mk hni_
 have HBI:=Aside0.mk hbi_
 have HCI:=Aside0.mk hi_
 clear hfu_ hnu_ hbu_ hu_ hfi_ hni_ hbi_ hi_
 have eb:=Try.underlying59
 have fe:=Try.underlying50
 have da:=Try.underlying36
 have ea:=Try.underlying86
 have be:=Aside0.mk bm
 have bz:=Aside0.mk bn
 clear bm bn
 have bf:=Aside0.mk bv
 have ca:=Aside0.mk bw
 clear bv bw
 have HB:=Aside0.mk (Below.refl w.heap.size w)
 have H:((call_Check.f k J B Y γ).bind fun a1=>(if a1=0 then (if a2=true then ((U_).bind fun a9=>((I_).bind fun ar=>(some (a9,ar,0)))) else (some (([]:List (S36)),([]:List (S86)),191))) else (some (([]:List (S36)),([]:List (S86)),a1))))=some (r1,r2,r3):=h
 clear h
 replace H:=Option.bind_eq_some_iff.mp H
 obtain⟨a1,bj,H⟩:=H
 replace H:(if a1=0 then (if a2=true then ((U_).bind fun a9=>((I_).bind fun ar=>(some (a9,ar,0)))) else (some (([]:List (S36)),([]:List (S86)),191))) else (some (([]:List (S36)),([]:List (S86)),a1)))=some (r1,r2,r3):=H
 have A8:=Aside0.mk bj
 clear bj
 by_cases c9:a1=0
 ·rw[if_pos c9] at H
  have c9b0:(a1==0)=true:=beq_iff_eq.mpr c9
  have c9b1:(a1 != 0)=false:=bne_eq_false_iff_eq.mpr c9
  clear c9
  by_cases c10:a2=true
  ·subst c10
   have H1:((U_).bind fun a9=>((I_).bind fun ar=>(some (a9,ar,0))))=some (r1,r2,r3):=by rw[if_pos rfl] at H;exact H
   clear H
   have H:=H1
   clear H1
   replace H:=Option.bind_eq_some_iff.mp H
   obtain⟨a9,cp,H⟩:=H
   replace H:((I_).bind fun ar=>(some (a9,ar,0)))=some (r1,r2,r3):=H
   have eg:=Aside0.mk cp
   clear cp
   replace H:=Option.bind_eq_some_iff.mp H
   obtain⟨ar,av,H⟩:=H
   replace H:(some (a9,ar,0))=some (r1,r2,r3):=H
   have bu:=Aside0.mk av
   clear av
   simp only[Option.some.injEq,Prod.mk.injEq] at H
   obtain⟨rfl,rfl,rfl⟩:=H
   go_enter Try.func73,Try.ntmps73
   try go_wp2_with (first|((with_reducible refine Qr (N:=7) rfl ?_);refine Qq ?hg (N:=7) ?hd (cs:=#[.int .i64 J,.int .i64 B]) (t:=59) ?hr ?_;(case hd=>rfl);(case hg=>rfl);(case hr=>first|(go_simp;done)|(go_simp;rfl));intro ι hg ew hbox hb;have L:=Aside0.mk (Qj (by repeat(first|(with_reducible first|exact HB.out|apply Qg|apply Qd|apply Qf)|exact HB.out)) hb);have O:=Aside0.mk (hbox);have X:=Aside0.mk ((by rw[hg];exact(Qi (by repeat(first|(with_reducible first|exact HB.out|apply Qg|apply Qd|apply Qf)|exact HB.out))):w.heap.size ≤ ι));have δ :=Aside0.mk ((by rw[hg];exact(Qi (by repeat(first|(with_reducible first|exact HB.out|apply Qg|apply Qd|apply Qf)|exact HB.out))):w.heap.size ≤ ι));clear HB;have HB:=L;have Z:=O;have ci:=X;have χ := δ;clear L O X δ;clear hb hbox hg)|((with_reducible refine Qr (N:=8) rfl ?_);refine Qq ?hg (N:=8) ?hd (cs:=#[.slice μ Y.length η,.slice κ γ.length θ]) (t:=50) ?hr ?_;(case hd=>rfl);(case hg=>rfl);(case hr=>first|(go_simp;done)|(go_simp;rfl));intro σ hg cf hbox hb;have L:=Aside0.mk (Qh (g:= ι) (o:=.cells #[.int .i64 J,.int .i64 B] 59 (0,0)) (by(with_reducible repeat first|apply Qb|apply Qe|apply Qc);exact Z.out) hb);have O:=Aside0.mk (Qj (by repeat(first|(with_reducible first|exact HB.out|apply Qg|apply Qd|apply Qf|refine Qa ?_ χ.out)|exact HB.out)) hb);have X:=Aside0.mk (hbox);have δ :=Aside0.mk ((by rw[hg];exact(Qi (by repeat(first|(with_reducible first|exact HB.out|apply Qg|apply Qd|apply Qf|refine Qa ?_ χ.out)|exact HB.out))):w.heap.size≤σ));have ξ :=Aside0.mk ((by rw[hg];exact(Qi (by repeat(first|(with_reducible first|exact HB.out|apply Qg|apply Qd|apply Qf|refine Qa ?_ χ.out)|exact HB.out))):w.heap.size≤σ));have φ :=Aside0.mk ((by rw[hg];exact Nat.ne_of_lt (Qp (g:= ι) (o:=.cells #[.int .i64 J,.int .i64 B] 59 (0,0)) (by(with_reducible repeat first|apply Qb|apply Qe|apply Qc);exact Z.out)): ι ≠ σ));have ω :=Aside0.mk ((by rw[hg];exact Nat.ne_of_gt (Qp (g:= ι) (o:=.cells #[.int .i64 J,.int .i64 B] 59 (0,0)) (by(with_reducible repeat first|apply Qb|apply Qe|apply Qc);exact Z.out)):σ ≠ ι));clear Z;clear HB;have Z:=L;have HB:=O;have ε :=X;have cj:= δ;have a0:= ξ;have au:= φ;have az:= ω;clear L O X δ ξ φ ω;clear hb hbox hg)|((with_reducible refine Qr (N:=11) rfl ?_);refine Qq ?hg (N:=11) ?hd (cs:=#[.int .i64 ac,.int .i64 ae,.int .i64 af]) (t:=36) ?hr ?_;(case hd=>rfl);(case hg=>rfl);(case hr=>first|(go_simp;done)|(go_simp;rfl));intro a4 hg gf hbox hb;have L:=Aside0.mk (Qh (g:= ι) (o:=.cells #[.int .i64 J,.int .i64 B] 59 (0,0)) (by(with_reducible repeat first|apply Qb|apply Qe|apply Qc);exact Z.out) hb);have O:=Aside0.mk (Qh (g:=σ) (o:=.cells #[.slice μ Y.length η,.slice κ γ.length θ] 50 (0,0)) (by(with_reducible repeat first|apply Qb|apply Qe|apply Qc);exact ε.out) hb);have X:=Aside0.mk (Qj (by repeat(first|(with_reducible first|exact HB.out|apply Qg|apply Qd|apply Qf|refine Qa ?_ χ.out|refine Qa ?_ a0.out)|exact HB.out)) hb);have δ :=Aside0.mk (hbox);have ξ :=Aside0.mk ((by rw[hg];exact(Qi (by repeat(first|(with_reducible first|exact HB.out|apply Qg|apply Qd|apply Qf|refine Qa ?_ χ.out|refine Qa ?_ a0.out)|exact HB.out))):w.heap.size≤a4));have φ :=Aside0.mk ((by rw[hg];exact(Qi (by repeat(first|(with_reducible first|exact HB.out|apply Qg|apply Qd|apply Qf|refine Qa ?_ χ.out|refine Qa ?_ a0.out)|exact HB.out))):w.heap.size≤a4));have ω :=Aside0.mk ((by rw[hg];exact Nat.ne_of_lt (Qp (g:= ι) (o:=.cells #[.int .i64 J,.int .i64 B] 59 (0,0)) (by(with_reducible repeat first|apply Qb|apply Qe|apply Qc);exact Z.out)): ι ≠ a4));have a6:=Aside0.mk ((by rw[hg];exact Nat.ne_of_gt (Qp (g:= ι) (o:=.cells #[.int .i64 J,.int .i64 B] 59 (0,0)) (by(with_reducible repeat first|apply Qb|apply Qe|apply Qc);exact Z.out)):a4 ≠ ι));have a7:=Aside0.mk ((by rw[hg];exact Nat.ne_of_lt (Qp (g:=σ) (o:=.cells #[.slice μ Y.length η,.slice κ γ.length θ] 50 (0,0)) (by(with_reducible repeat first|apply Qb|apply Qe|apply Qc);exact ε.out)):σ≠a4));have ag:=Aside0.mk ((by rw[hg];exact Nat.ne_of_gt (Qp (g:=σ) (o:=.cells #[.slice μ Y.length η,.slice κ γ.length θ] 50 (0,0)) (by(with_reducible repeat first|apply Qb|apply Qe|apply Qc);exact ε.out)):a4≠σ));clear Z;clear ε;clear HB;have Z:=L;have ε :=O;have HB:=X;have ν := δ;have co:= ξ;have ab:= φ;have b7:= ω;have b8:=a6;have b9:=a7;have ba:=ag;clear L O X δ ξ φ ω a6 a7 ag;clear hb hbox hg)|((with_reducible refine Qr (N:=13) rfl ?_);refine Qq ?hg (N:=13) ?hd (cs:=#[.int .i64 an,.int .i64 ap]) (t:=86) ?hr ?_;(case hd=>rfl);(case hg=>rfl);(case hr=>first|(go_simp;done)|(go_simp;rfl));intro ψ hg df hbox hb;have L:=Aside0.mk (Qh (g:= ι) (o:=.cells #[.int .i64 J,.int .i64 B] 59 (0,0)) (by(with_reducible repeat first|apply Qb|apply Qe|apply Qc);exact Z.out) hb);have O:=Aside0.mk (Qh (g:=σ) (o:=.cells #[.slice μ Y.length η,.slice κ γ.length θ] 50 (0,0)) (by(with_reducible repeat first|apply Qb|apply Qe|apply Qc);exact ε.out) hb);have X:=Aside0.mk (Qh (g:=a4) (o:=.cells #[.int .i64 ac,.int .i64 ae,.int .i64 af] 36 (0,0)) (by(with_reducible repeat first|apply Qb|apply Qe|apply Qc);exact ν.out) hb);have δ :=Aside0.mk (Qj (by repeat(first|(with_reducible first|exact HB.out|apply Qg|apply Qd|apply Qf|refine Qa ?_ χ.out|refine Qa ?_ a0.out|refine Qa ?_ ab.out)|exact HB.out)) hb);have ξ :=Aside0.mk (hbox);have φ :=Aside0.mk ((by rw[hg];exact(Qi (by repeat(first|(with_reducible first|exact HB.out|apply Qg|apply Qd|apply Qf|refine Qa ?_ χ.out|refine Qa ?_ a0.out|refine Qa ?_ ab.out)|exact HB.out))):w.heap.size ≤ ψ));have ω :=Aside0.mk ((by rw[hg];exact(Qi (by repeat(first|(with_reducible first|exact HB.out|apply Qg|apply Qd|apply Qf|refine Qa ?_ χ.out|refine Qa ?_ a0.out|refine Qa ?_ ab.out)|exact HB.out))):w.heap.size ≤ ψ));have a6:=Aside0.mk ((by rw[hg];exact Nat.ne_of_lt (Qp (g:= ι) (o:=.cells #[.int .i64 J,.int .i64 B] 59 (0,0)) (by(with_reducible repeat first|apply Qb|apply Qe|apply Qc);exact Z.out)): ι ≠ ψ));have a7:=Aside0.mk ((by rw[hg];exact Nat.ne_of_gt (Qp (g:= ι) (o:=.cells #[.int .i64 J,.int .i64 B] 59 (0,0)) (by(with_reducible repeat first|apply Qb|apply Qe|apply Qc);exact Z.out)): ψ ≠ ι));have ag:=Aside0.mk ((by rw[hg];exact Nat.ne_of_lt (Qp (g:=σ) (o:=.cells #[.slice μ Y.length η,.slice κ γ.length θ] 50 (0,0)) (by(with_reducible repeat first|apply Qb|apply Qe|apply Qc);exact ε.out)):σ ≠ ψ));have ah:=Aside0.mk ((by rw[hg];exact Nat.ne_of_gt (Qp (g:=σ) (o:=.cells #[.slice μ Y.length η,.slice κ γ.length θ] 50 (0,0)) (by(with_reducible repeat first|apply Qb|apply Qe|apply Qc);exact ε.out)): ψ ≠ σ));have ai:=Aside0.mk ((by rw[hg];exact Nat.ne_of_lt (Qp (g:=a4) (o:=.cells #[.int .i64 ac,.int .i64 ae,.int .i64 af] 36 (0,0)) (by(with_reducible repeat first|apply Qb|apply Qe|apply Qc);exact ν.out)):a4 ≠ ψ));have aj:=Aside0.mk ((by rw[hg];exact Nat.ne_of_gt (Qp (g:=a4) (o:=.cells #[.int .i64 ac,.int .i64 ae,.int .i64 af] 36 (0,0)) (by(with_reducible repeat first|apply Qb|apply Qe|apply Qc);exact ν.out)): ψ ≠ a4));clear Z;clear ε;clear ν;clear HB;have Z:=L;have ε :=O;have ν :=X;have HB:= δ;have ζ := ξ;have cd:= φ;have a8:= ω;have bc:=a6;have bd:=a7;have bg:=ag;have bh:=ah;have br:=ai;have cb:=aj;clear L O X δ ξ φ ω a6 a7 ag ah ai aj;clear hb hbox hg)|((with_reducible refine Qr (N:=14) rfl ?_);refine Qq ?hg (N:=14) ?hd (cs:=#[.slice none 0 0,.slice none 0 0]) (t:=50) ?hr ?_;(case hd=>rfl);(case hg=>rfl);(case hr=>first|(go_simp;done)|(go_simp;rfl));intro τ hg dv hbox hb;have L:=Aside0.mk (Qh (g:= ι) (o:=.cells #[.int .i64 J,.int .i64 B] 59 (0,0)) (by(with_reducible repeat first|apply Qb|apply Qe|apply Qc);exact Z.out) hb);have O:=Aside0.mk (Qh (g:=σ) (o:=.cells #[.slice μ Y.length η,.slice κ γ.length θ] 50 (0,0)) (by(with_reducible repeat first|apply Qb|apply Qe|apply Qc);exact ε.out) hb);have X:=Aside0.mk (Qh (g:=a4) (o:=.cells #[.int .i64 ac,.int .i64 ae,.int .i64 af] 36 (0,0)) (by(with_reducible repeat first|apply Qb|apply Qe|apply Qc);exact ν.out) hb);have δ :=Aside0.mk (Qh (g:= ψ) (o:=.cells #[.int .i64 an,.int .i64 ap] 86 (0,0)) (by(with_reducible repeat first|apply Qb|apply Qe|apply Qc);exact ζ.out) hb);have ξ :=Aside0.mk (Qj (by repeat(first|(with_reducible first|exact HB.out|apply Qg|apply Qd|apply Qf|refine Qa ?_ χ.out|refine Qa ?_ a0.out|refine Qa ?_ ab.out|refine Qa ?_ a8.out)|exact HB.out)) hb);have φ :=Aside0.mk (hbox);have ω :=Aside0.mk ((by rw[hg];exact(Qi (by repeat(first|(with_reducible first|exact HB.out|apply Qg|apply Qd|apply Qf|refine Qa ?_ χ.out|refine Qa ?_ a0.out|refine Qa ?_ ab.out|refine Qa ?_ a8.out)|exact HB.out))):w.heap.size ≤ τ));have a6:=Aside0.mk ((by rw[hg];exact(Qi (by repeat(first|(with_reducible first|exact HB.out|apply Qg|apply Qd|apply Qf|refine Qa ?_ χ.out|refine Qa ?_ a0.out|refine Qa ?_ ab.out|refine Qa ?_ a8.out)|exact HB.out))):w.heap.size ≤ τ));have a7:=Aside0.mk ((by rw[hg];exact Nat.ne_of_lt (Qp (g:= ι) (o:=.cells #[.int .i64 J,.int .i64 B] 59 (0,0)) (by(with_reducible repeat first|apply Qb|apply Qe|apply Qc);exact Z.out)): ι ≠ τ));have ag:=Aside0.mk ((by rw[hg];exact Nat.ne_of_gt (Qp (g:= ι) (o:=.cells #[.int .i64 J,.int .i64 B] 59 (0,0)) (by(with_reducible repeat first|apply Qb|apply Qe|apply Qc);exact Z.out)): τ ≠ ι));have ah:=Aside0.mk ((by rw[hg];exact Nat.ne_of_lt (Qp (g:=σ) (o:=.cells #[.slice μ Y.length η,.slice κ γ.length θ] 50 (0,0)) (by(with_reducible repeat first|apply Qb|apply Qe|apply Qc);exact ε.out)):σ ≠ τ));have ai:=Aside0.mk ((by rw[hg];exact Nat.ne_of_gt (Qp (g:=σ) (o:=.cells #[.slice μ Y.length η,.slice κ γ.length θ] 50 (0,0)) (by(with_reducible repeat first|apply Qb|apply Qe|apply Qc);exact ε.out)): τ ≠ σ));have aj:=Aside0.mk ((by rw[hg];exact Nat.ne_of_lt (Qp (g:=a4) (o:=.cells #[.int .i64 ac,.int .i64 ae,.int .i64 af] 36 (0,0)) (by(with_reducible repeat first|apply Qb|apply Qe|apply Qc);exact ν.out)):a4 ≠ τ));have ay:=Aside0.mk ((by rw[hg];exact Nat.ne_of_gt (Qp (g:=a4) (o:=.cells #[.int .i64 ac,.int .i64 ae,.int .i64 af] 36 (0,0)) (by(with_reducible repeat first|apply Qb|apply Qe|apply Qc);exact ν.out)): τ ≠ a4));have b1:=Aside0.mk ((by rw[hg];exact Nat.ne_of_lt (Qp (g:= ψ) (o:=.cells #[.int .i64 an,.int .i64 ap] 86 (0,0)) (by(with_reducible repeat first|apply Qb|apply Qe|apply Qc);exact ζ.out)): ψ ≠ τ));have ao:=Aside0.mk ((by rw[hg];exact Nat.ne_of_gt (Qp (g:= ψ) (o:=.cells #[.int .i64 an,.int .i64 ap] 86 (0,0)) (by(with_reducible repeat first|apply Qb|apply Qe|apply Qc);exact ζ.out)): τ ≠ ψ));clear Z;clear ε;clear ν;clear ζ;clear HB;have Z:=L;have ε :=O;have ν :=X;have ζ := δ;have HB:= ξ;have ρ:= φ;have ce:= ω;have aa:=a6;have ax:=a7;have b0:=ag;have b2:=ah;have b3:=ai;have al:=aj;have b4:=ay;have am:=b1;have aw:=ao;clear L O X δ ξ φ ω a6 a7 ag ah ai aj ay b1 ao;clear hb hbox hg;have cm:=au.out;have cz:=az.out;have cr:=b7.out;have ct:=b8.out;have gg:=bc.out;have j2:=bd.out;have j3:=ax.out;have jl:=b0.out;obtain⟨cu,cv,cw,cx⟩:=qD2 Z.out;have d0:=b9.out;have d1:=ba.out;have d8:=bg.out;have dd:=bh.out;have fk:=b2.out;have fl:=b3.out;obtain⟨em,ev,ez,f8⟩:=qD2 ε.out)|((with_reducible refine Qt (f:=40) rfl ?_);refine Q7 (some 19) rfl rfl Try.func40 kr rfl #[.agg #[.int .i64 J,.int .i64 B],.agg #[.slice μ Y.length η,.slice κ γ.length θ]] rfl (by(try simp only[List.map_toArray,List.map_cons,List.map_nil]);first|done|rfl|(simp only[List.length_drop,List.length_take];rfl)) ?_;(with_reducible refine(call_Check.calls k J B _ _ Y _ _ γ a1 _ ?side1 ?side2 ?side3 ?side4 A8.out).mono ?_);(case side1=>repeat(first|exact(Kd.Q0 be.out HB.out)|(with_reducible refine Kd.Q3 ?_ _)|(with_reducible refine Kd.Q2 ?_ _)|(with_reducible refine Kd.Q9 ?_)));(case side2=>exact bz.out);(case side3=>repeat(first|exact(Kd.Q0 bf.out HB.out)|(with_reducible refine Kd.Q3 ?_ _)|(with_reducible refine Kd.Q2 ?_ _)|(with_reducible refine Kd.Q9 ?_)));(case side4=>exact ca.out);rintro e dn ⟨rfl,hb⟩;refine⟨_,rfl, ?_⟩;have L:=Aside0.mk (Qh (g:= ι) (o:=.cells #[.int .i64 J,.int .i64 B] 59 (0,0)) (by(with_reducible repeat first|apply Qb|apply Qe|apply Qc);exact Z.out) hb);have O:=Aside0.mk (Qh (g:=σ) (o:=.cells #[.slice μ Y.length η,.slice κ γ.length θ] 50 (0,0)) (by(with_reducible repeat first|apply Qb|apply Qe|apply Qc);exact ε.out) hb);have X:=Aside0.mk (Qh (g:=a4) (o:=.cells #[.int .i64 ac,.int .i64 ae,.int .i64 af] 36 (0,0)) (by(with_reducible repeat first|apply Qb|apply Qe|apply Qc);exact ν.out) hb);have δ :=Aside0.mk (Qh (g:= ψ) (o:=.cells #[.int .i64 an,.int .i64 ap] 86 (0,0)) (by(with_reducible repeat first|apply Qb|apply Qe|apply Qc);exact ζ.out) hb);have ξ :=Aside0.mk (Qh (g:= τ) (o:=.cells #[.slice none 0 0,.slice none 0 0] 50 (0,0)) (by(with_reducible repeat first|apply Qb|apply Qe|apply Qc);exact ρ.out) hb);have φ :=Aside0.mk (Qj (by repeat(first|(with_reducible first|exact HB.out|apply Qg|apply Qd|apply Qf|refine Qa ?_ χ.out|refine Qa ?_ a0.out|refine Qa ?_ ab.out|refine Qa ?_ a8.out|refine Qa ?_ aa.out)|exact HB.out)) hb);clear Z;clear ε;clear ν;clear ζ;clear ρ;clear HB;have Z:=L;have ε :=O;have ν :=X;have ζ := δ;have ρ:= ξ;have HB:= φ;clear L O X δ ξ φ;(try clear hb);(try clear ak);(try clear hk);(try clear hi)))
   have L:=Aside0.mk (Qe Z.out)
   have O:=Aside0.mk (Qe ε.out)
   have X:=Aside0.mk (Qe ν.out)
   have δ :=Aside0.mk (Qe ζ.out)
   have ξ :=Aside0.mk (Qe ρ.out)
   have φ :=Aside0.mk (Qf HB.out)
   clear Z
   clear ε
   clear ν
   clear ζ
   clear ρ
   clear HB
   have Z:=L
   have ε :=O
   have ν :=X
   have ζ := δ
   have ρ:= ξ
   have HB:= φ
   clear L O X δ ξ φ
   refine Zv (n:=9) (S:=fun w'=>w'.cell? ⟨a4,0,none⟩=some (.int .i64 ac)∧w'.cell? ⟨a4,1,none⟩=some (.int .i64 ae)∧w'.cell? ⟨a4,2,none⟩=some (.int .i64 af)∧w'.cell? ⟨ψ,0,none⟩=some (.int .i64 an)∧w'.cell? ⟨ψ,1,none⟩=some (.int .i64 ap)) (ds:=[]) #[false,false,false,false,false,false,false,false,false] kr rfl rfl ⟨(Qk ν.out 0).trans rfl,(Qk ν.out 1).trans rfl,(Qk ν.out 2).trans rfl,(Qk ζ.out 0).trans rfl,(Qk ζ.out 1).trans rfl⟩ (fun hHeld=>?_);refine Zf call_change.N1 call_change.Me (fun HT_ HW_=>?_)
   generalize dn.drew=eh at Z ε ν ζ ρ HB hHeld ⊢
   refine qP 0 (some 27) (qB 9 1) HT_ ?_
   refine qP 3 (some 30) (qB 9 9) HT_ ?_
   refine qT 1 (some 28) (qB 9 11) HT_ HW_ hHeld ?_
   refine qT 4 (some 31) (qB 9 27) HT_ HW_ hHeld ?_
   refine Zn (i:=2) (N:=some 29) #[true,true,true,true,true,false,false,false,false] rfl rfl (Zc HT_.out kr) (by decide) (fun K hK=>?_)
   refine X2 HFU.out HNU.out HBU.out #[ru_] #[] #[.agg #[.int .i64 ac,.int .i64 ae,.int .i64 af]] #[ru_,.agg #[.int .i64 ac,.int .i64 ae,.int .i64 af]] rfl (by rfl) rfl rfl rfl (by(try simp only[List.map_toArray,List.map_cons,List.map_nil]);first|done|rfl|(simp only[List.length_drop,List.length_take];rfl)) ?_
   refine(HCU.out _ a9 eg.out (by repeat(first|(with_reducible first|exact HB.out|apply Qg|apply Qd|apply Qf)|exact HB.out|(refine Qa ?_ (Aside0.out (by assumption)))))).mono ?_
   rintro e d9 ⟨e9,rfl,bb,hb⟩
   refine⟨_,rfl, ?_⟩
   have L:=Aside0.mk (Kd.Zg (Kd.J0 bb (g:=a4) (o:=.cells #[.int .i64 ac,.int .i64 ae,.int .i64 af] 36 (0,0)) (by(with_reducible repeat first|apply Qb|apply Qe|apply Qc);exact ν.out)) (Qi (by repeat(first|(with_reducible first|exact HB.out|apply Qg|apply Qd|apply Qf|refine Qa ?_ χ.out|refine Qa ?_ a0.out|refine Qa ?_ ab.out|refine Qa ?_ a8.out|refine Qa ?_ aa.out)|exact HB.out))))
   have O:=Aside0.mk (Qh (g:= ι) (o:=.cells #[.int .i64 J,.int .i64 B] 59 (0,0)) (by(with_reducible repeat first|apply Qb|apply Qe|apply Qc);exact Z.out) hb)
   have X:=Aside0.mk (Qh (g:=σ) (o:=.cells #[.slice μ Y.length η,.slice κ γ.length θ] 50 (0,0)) (by(with_reducible repeat first|apply Qb|apply Qe|apply Qc);exact ε.out) hb)
   have δ :=Aside0.mk (Qh (g:=a4) (o:=.cells #[.int .i64 ac,.int .i64 ae,.int .i64 af] 36 (0,0)) (by(with_reducible repeat first|apply Qb|apply Qe|apply Qc);exact ν.out) hb)
   have ξ :=Aside0.mk (Qh (g:= ψ) (o:=.cells #[.int .i64 an,.int .i64 ap] 86 (0,0)) (by(with_reducible repeat first|apply Qb|apply Qe|apply Qc);exact ζ.out) hb)
   have φ :=Aside0.mk (Qh (g:= τ) (o:=.cells #[.slice none 0 0,.slice none 0 0] 50 (0,0)) (by(with_reducible repeat first|apply Qb|apply Qe|apply Qc);exact ρ.out) hb)
   have ω :=Aside0.mk (Qj (by repeat(first|(with_reducible first|exact HB.out|apply Qg|apply Qd|apply Qf|refine Qa ?_ χ.out|refine Qa ?_ a0.out|refine Qa ?_ ab.out|refine Qa ?_ a8.out|refine Qa ?_ aa.out)|exact HB.out)) hb)
   clear Z
   clear ε
   clear ν
   clear ζ
   clear ρ
   clear HB
   have bi:=L
   have Z:=O
   have ε :=X
   have ν := δ
   have ζ := ξ
   have ρ:= φ
   have HB:= ω
   clear L O X δ ξ φ ω
   (try clear hb)
   (try clear ak)
   (try clear hk)
   (try clear hi)
   (try clear bb)
   refine hK.out _ _ ⟨qc ν,qc ν,qc ν,qc ζ,qc ζ⟩ (fun hHeld=>?_)
   clear hK K
   refine qN (some 29) ?_
   refine Zn (i:=5) (N:=some 32) #[true,true,true,true,true,true,false,false,false] rfl rfl (Zc HT_.out kr) (by decide) (fun K hK=>?_)
   refine X2 HFI.out HNI.out HBI.out #[ri_] #[] #[.agg #[.int .i64 an,.int .i64 ap]] #[ri_,.agg #[.int .i64 an,.int .i64 ap]] rfl (by rfl) rfl rfl rfl (by(try simp only[List.map_toArray,List.map_cons,List.map_nil]);first|done|rfl|(simp only[List.length_drop,List.length_take];rfl)) ?_
   refine(HCI.out _ ar bu.out (by repeat(first|(with_reducible first|exact HB.out|apply Qg|apply Qd|apply Qf)|exact HB.out|(refine Qa ?_ (Aside0.out (by assumption)))))).mono ?_
   rintro e ep ⟨d2,rfl,bb,hb⟩
   refine⟨_,rfl, ?_⟩
   have L:=Aside0.mk (Kd.Za (by(with_reducible repeat first|apply Kd.Qx|apply Kd.Qw|apply Kd.Qy);exact bi.out) hb)
   have O:=Aside0.mk (Kd.Zg (Kd.J0 bb (g:= ψ) (o:=.cells #[.int .i64 an,.int .i64 ap] 86 (0,0)) (by(with_reducible repeat first|apply Qb|apply Qe|apply Qc);exact ζ.out)) (Qi (by repeat(first|(with_reducible first|exact HB.out|apply Qg|apply Qd|apply Qf|refine Qa ?_ χ.out|refine Qa ?_ a0.out|refine Qa ?_ ab.out|refine Qa ?_ a8.out|refine Qa ?_ aa.out)|exact HB.out))))
   have X:=Aside0.mk (Qh (g:= ι) (o:=.cells #[.int .i64 J,.int .i64 B] 59 (0,0)) (by(with_reducible repeat first|apply Qb|apply Qe|apply Qc);exact Z.out) hb)
   have δ :=Aside0.mk (Qh (g:=σ) (o:=.cells #[.slice μ Y.length η,.slice κ γ.length θ] 50 (0,0)) (by(with_reducible repeat first|apply Qb|apply Qe|apply Qc);exact ε.out) hb)
   have ξ :=Aside0.mk (Qh (g:=a4) (o:=.cells #[.int .i64 ac,.int .i64 ae,.int .i64 af] 36 (0,0)) (by(with_reducible repeat first|apply Qb|apply Qe|apply Qc);exact ν.out) hb)
   have φ :=Aside0.mk (Qh (g:= ψ) (o:=.cells #[.int .i64 an,.int .i64 ap] 86 (0,0)) (by(with_reducible repeat first|apply Qb|apply Qe|apply Qc);exact ζ.out) hb)
   have ω :=Aside0.mk (Qh (g:= τ) (o:=.cells #[.slice none 0 0,.slice none 0 0] 50 (0,0)) (by(with_reducible repeat first|apply Qb|apply Qe|apply Qc);exact ρ.out) hb)
   have a6:=Aside0.mk (Qj (by repeat(first|(with_reducible first|exact HB.out|apply Qg|apply Qd|apply Qf|refine Qa ?_ χ.out|refine Qa ?_ a0.out|refine Qa ?_ ab.out|refine Qa ?_ a8.out|refine Qa ?_ aa.out)|exact HB.out)) hb)
   clear bi
   clear Z
   clear ε
   clear ν
   clear ζ
   clear ρ
   clear HB
   have bi:=L
   have bl:=O
   have Z:=X
   have ε := δ
   have ν := ξ
   have ζ := φ
   have ρ:= ω
   have HB:=a6
   clear L O X δ ξ φ ω a6
   (try clear hb)
   (try clear ak)
   (try clear hk)
   (try clear hi)
   (try clear bb)
   obtain⟨ck,cn,cq⟩:=Kd.Ze bl.out
   (first|subst cq|(injection cq with b5 bo b6;have bp:=b5.symm;have bq:=b6.symm;clear b5 bo b6;subst bp;subst bq))
   obtain⟨cg,ch,cy⟩:=Kd.Ze bi.out
   (first|subst cy|(injection cy with b5 bo b6;have bp:=b5.symm;have bq:=b6.symm;clear b5 bo b6;subst bp;subst bq))
   refine hK.out _ _ ⟨qc ν,qc ν,qc ν,qc ζ,qc ζ⟩ (fun hHeld=>?_)
   clear hK K
   refine qN (some 32) ?_
   refine qP 6 (some 33) (qB 9 127) HT_ ?_
   refine Zn (i:=7) (N:=none) #[true,true,true,true,true,true,true,true,false] rfl rfl (Zc HT_.out kr) (by decide) (fun K hK=>?_)
   have ei:ep.cell? ⟨τ,0,none⟩=some (.slice none 0 0):=(Qk ρ.out 0).trans rfl
   have dz:=Qz ρ.out 0
   have d3:=ax.out
   have d4:=b2.out
   have d5:=al.out
   have d6:=am.out
   have d7:=b0.out
   have db:=b3.out
   have de:=b4.out
   have dh:=aw.out
   have ej:ep.cell? ⟨τ,1,none⟩=some (.slice none 0 0):=(Qk ρ.out 1).trans rfl
   have e0:=Qz ρ.out 1
   have dj:=ax.out
   have dk:=b2.out
   have dl:=al.out
   have dm:=am.out
   have dp:=b0.out
   have dq:=b3.out
   have dr:=b4.out
   have dt:=aw.out
   refine V2 (w1:=?_) (by rfl) rfl ?_ ?_
   rotate_left
   ·go_simp
    rfl
   refine hK.out _ _ ⟨((cell_far (p:=⟨τ,_,none⟩) al.out _).trans (((cell_far (p:=⟨τ,_,none⟩) al.out _).trans (hHeld.1)))),((cell_far (p:=⟨τ,_,none⟩) al.out _).trans (((cell_far (p:=⟨τ,_,none⟩) al.out _).trans (hHeld.2.1)))),((cell_far (p:=⟨τ,_,none⟩) al.out _).trans (((cell_far (p:=⟨τ,_,none⟩) al.out _).trans (hHeld.2.2.1)))),((cell_far (p:=⟨τ,_,none⟩) am.out _).trans (((cell_far (p:=⟨τ,_,none⟩) am.out _).trans (hHeld.2.2.2.1)))),((cell_far (p:=⟨τ,_,none⟩) am.out _).trans (((cell_far (p:=⟨τ,_,none⟩) am.out _).trans (hHeld.2.2.2.2))))⟩ (fun hHeld=>?_)
   clear hK K
   refine qP 8 (some 15) (qB 9 511) HT_ ?_
   refine Xd (Zu HT_.out kr) ?_
   try go_wp2
   refine bodyPost_ret (Xb rfl _ _ τ 50 #[.slice cg a9.length ch,.slice ck ar.length cn] (0,0) _ rfl (by(with_reducible repeat first|apply Qb|apply Qe|apply Qc);refine Qu (cs:=#[.slice cg a9.length ch,.slice none 0 0]) ?_ 1 _ rfl;(with_reducible repeat first|apply Qb|apply Qe|apply Qc);refine Qu (cs:=#[.slice none 0 0,.slice none 0 0]) ?_ 0 _ rfl;(with_reducible repeat first|apply Qb|apply Qe|apply Qc);exact ρ.out) Try.underlying50 rfl kr) rfl ?_
   exact⟨_,_,by first|rfl|(simp[Qo,Qn] <;> rfl)|(simp[*,Qo,Qn] <;> rfl),by(with_reducible repeat first|apply Kd.Qx|apply Kd.Qw|apply Kd.Qy);exact Kd.Q5 (Kd.Q1 (p:=⟨τ,1,none⟩) (Kd.Q1 (p:=⟨τ,0,none⟩) (Kd.Zd bi.out ρ.out (by decide)) (fun _ hk=>hk.2) (.slice cg a9.length ch)) (fun _ hk=>hk.2) (.slice ck ar.length cn)) (fun _ hk=>trivial),by(with_reducible repeat first|apply Kd.Qx|apply Kd.Qw|apply Kd.Qy);exact Kd.Q5 (Kd.Q1 (p:=⟨τ,1,none⟩) (Kd.Q1 (p:=⟨τ,0,none⟩) (Kd.Zd bl.out ρ.out (by decide)) (fun _ hk=>hk.2) (.slice cg a9.length ch)) (fun _ hk=>hk.2) (.slice ck ar.length cn)) (fun _ hk=>trivial),by repeat(first|(with_reducible first|exact HB.out|apply Qg|apply Qd|apply Qf|refine Qa ?_ χ.out|refine Qa ?_ a0.out|refine Qa ?_ ab.out|refine Qa ?_ a8.out|refine Qa ?_ aa.out)|exact HB.out)⟩
  ·replace c10:=Bool.eq_false_iff.mpr c10
   subst c10
   have H1:(some (([]:List (S36)),([]:List (S86)),191))=some (r1,r2,r3):=by rw[if_neg (show ¬ (false=true) by decide)] at H;exact H
   clear H
   have H:=H1
   clear H1
   simp only[Option.some.injEq,Prod.mk.injEq] at H
   obtain⟨rfl,rfl,rfl⟩:=H
   go_enter Try.func73,Try.ntmps73
   go_wp2_with (first|((with_reducible refine Qr (N:=7) rfl ?_);refine Qq ?hg (N:=7) ?hd (cs:=#[.int .i64 J,.int .i64 B]) (t:=59) ?hr ?_;(case hd=>rfl);(case hg=>rfl);(case hr=>first|(go_simp;done)|(go_simp;rfl));intro ι hg lp hbox hb;have L:=Aside0.mk (Qj (by repeat(first|(with_reducible first|exact HB.out|apply Qg|apply Qd|apply Qf)|exact HB.out)) hb);have O:=Aside0.mk (hbox);have X:=Aside0.mk ((by rw[hg];exact(Qi (by repeat(first|(with_reducible first|exact HB.out|apply Qg|apply Qd|apply Qf)|exact HB.out))):w.heap.size ≤ ι));have δ :=Aside0.mk ((by rw[hg];exact(Qi (by repeat(first|(with_reducible first|exact HB.out|apply Qg|apply Qd|apply Qf)|exact HB.out))):w.heap.size ≤ ι));clear HB;have HB:=L;have Z:=O;have ci:=X;have χ := δ;clear L O X δ;clear hb hbox hg)|((with_reducible refine Qr (N:=8) rfl ?_);refine Qq ?hg (N:=8) ?hd (cs:=#[.slice μ Y.length η,.slice κ γ.length θ]) (t:=50) ?hr ?_;(case hd=>rfl);(case hg=>rfl);(case hr=>first|(go_simp;done)|(go_simp;rfl));intro σ hg g8 hbox hb;have L:=Aside0.mk (Qh (g:= ι) (o:=.cells #[.int .i64 J,.int .i64 B] 59 (0,0)) (by(with_reducible repeat first|apply Qb|apply Qe|apply Qc);exact Z.out) hb);have O:=Aside0.mk (Qj (by repeat(first|(with_reducible first|exact HB.out|apply Qg|apply Qd|apply Qf|refine Qa ?_ χ.out)|exact HB.out)) hb);have X:=Aside0.mk (hbox);have δ :=Aside0.mk ((by rw[hg];exact(Qi (by repeat(first|(with_reducible first|exact HB.out|apply Qg|apply Qd|apply Qf|refine Qa ?_ χ.out)|exact HB.out))):w.heap.size≤σ));have ξ :=Aside0.mk ((by rw[hg];exact(Qi (by repeat(first|(with_reducible first|exact HB.out|apply Qg|apply Qd|apply Qf|refine Qa ?_ χ.out)|exact HB.out))):w.heap.size≤σ));have φ :=Aside0.mk ((by rw[hg];exact Nat.ne_of_lt (Qp (g:= ι) (o:=.cells #[.int .i64 J,.int .i64 B] 59 (0,0)) (by(with_reducible repeat first|apply Qb|apply Qe|apply Qc);exact Z.out)): ι ≠ σ));have ω :=Aside0.mk ((by rw[hg];exact Nat.ne_of_gt (Qp (g:= ι) (o:=.cells #[.int .i64 J,.int .i64 B] 59 (0,0)) (by(with_reducible repeat first|apply Qb|apply Qe|apply Qc);exact Z.out)):σ ≠ ι));clear Z;clear HB;have Z:=L;have HB:=O;have ε :=X;have cj:= δ;have a0:= ξ;have au:= φ;have az:= ω;clear L O X δ ξ φ ω;clear hb hbox hg)|((with_reducible refine Qr (N:=11) rfl ?_);refine Qq ?hg (N:=11) ?hd (cs:=#[.int .i64 ac,.int .i64 ae,.int .i64 af]) (t:=36) ?hr ?_;(case hd=>rfl);(case hg=>rfl);(case hr=>first|(go_simp;done)|(go_simp;rfl));intro a4 hg io hbox hb;have L:=Aside0.mk (Qh (g:= ι) (o:=.cells #[.int .i64 J,.int .i64 B] 59 (0,0)) (by(with_reducible repeat first|apply Qb|apply Qe|apply Qc);exact Z.out) hb);have O:=Aside0.mk (Qh (g:=σ) (o:=.cells #[.slice μ Y.length η,.slice κ γ.length θ] 50 (0,0)) (by(with_reducible repeat first|apply Qb|apply Qe|apply Qc);exact ε.out) hb);have X:=Aside0.mk (Qj (by repeat(first|(with_reducible first|exact HB.out|apply Qg|apply Qd|apply Qf|refine Qa ?_ χ.out|refine Qa ?_ a0.out)|exact HB.out)) hb);have δ :=Aside0.mk (hbox);have ξ :=Aside0.mk ((by rw[hg];exact(Qi (by repeat(first|(with_reducible first|exact HB.out|apply Qg|apply Qd|apply Qf|refine Qa ?_ χ.out|refine Qa ?_ a0.out)|exact HB.out))):w.heap.size≤a4));have φ :=Aside0.mk ((by rw[hg];exact(Qi (by repeat(first|(with_reducible first|exact HB.out|apply Qg|apply Qd|apply Qf|refine Qa ?_ χ.out|refine Qa ?_ a0.out)|exact HB.out))):w.heap.size≤a4));have ω :=Aside0.mk ((by rw[hg];exact Nat.ne_of_lt (Qp (g:= ι) (o:=.cells #[.int .i64 J,.int .i64 B] 59 (0,0)) (by(with_reducible repeat first|apply Qb|apply Qe|apply Qc);exact Z.out)): ι ≠ a4));have a6:=Aside0.mk ((by rw[hg];exact Nat.ne_of_gt (Qp (g:= ι) (o:=.cells #[.int .i64 J,.int .i64 B] 59 (0,0)) (by(with_reducible repeat first|apply Qb|apply Qe|apply Qc);exact Z.out)):a4 ≠ ι));have a7:=Aside0.mk ((by rw[hg];exact Nat.ne_of_lt (Qp (g:=σ) (o:=.cells #[.slice μ Y.length η,.slice κ γ.length θ] 50 (0,0)) (by(with_reducible repeat first|apply Qb|apply Qe|apply Qc);exact ε.out)):σ≠a4));have ag:=Aside0.mk ((by rw[hg];exact Nat.ne_of_gt (Qp (g:=σ) (o:=.cells #[.slice μ Y.length η,.slice κ γ.length θ] 50 (0,0)) (by(with_reducible repeat first|apply Qb|apply Qe|apply Qc);exact ε.out)):a4≠σ));clear Z;clear ε;clear HB;have Z:=L;have ε :=O;have HB:=X;have ν := δ;have co:= ξ;have ab:= φ;have b7:= ω;have b8:=a6;have b9:=a7;have ba:=ag;clear L O X δ ξ φ ω a6 a7 ag;clear hb hbox hg)|((with_reducible refine Qr (N:=13) rfl ?_);refine Qq ?hg (N:=13) ?hd (cs:=#[.int .i64 an,.int .i64 ap]) (t:=86) ?hr ?_;(case hd=>rfl);(case hg=>rfl);(case hr=>first|(go_simp;done)|(go_simp;rfl));intro ψ hg kq hbox hb;have L:=Aside0.mk (Qh (g:= ι) (o:=.cells #[.int .i64 J,.int .i64 B] 59 (0,0)) (by(with_reducible repeat first|apply Qb|apply Qe|apply Qc);exact Z.out) hb);have O:=Aside0.mk (Qh (g:=σ) (o:=.cells #[.slice μ Y.length η,.slice κ γ.length θ] 50 (0,0)) (by(with_reducible repeat first|apply Qb|apply Qe|apply Qc);exact ε.out) hb);have X:=Aside0.mk (Qh (g:=a4) (o:=.cells #[.int .i64 ac,.int .i64 ae,.int .i64 af] 36 (0,0)) (by(with_reducible repeat first|apply Qb|apply Qe|apply Qc);exact ν.out) hb);have δ :=Aside0.mk (Qj (by repeat(first|(with_reducible first|exact HB.out|apply Qg|apply Qd|apply Qf|refine Qa ?_ χ.out|refine Qa ?_ a0.out|refine Qa ?_ ab.out)|exact HB.out)) hb);have ξ :=Aside0.mk (hbox);have φ :=Aside0.mk ((by rw[hg];exact(Qi (by repeat(first|(with_reducible first|exact HB.out|apply Qg|apply Qd|apply Qf|refine Qa ?_ χ.out|refine Qa ?_ a0.out|refine Qa ?_ ab.out)|exact HB.out))):w.heap.size ≤ ψ));have ω :=Aside0.mk ((by rw[hg];exact(Qi (by repeat(first|(with_reducible first|exact HB.out|apply Qg|apply Qd|apply Qf|refine Qa ?_ χ.out|refine Qa ?_ a0.out|refine Qa ?_ ab.out)|exact HB.out))):w.heap.size ≤ ψ));have a6:=Aside0.mk ((by rw[hg];exact Nat.ne_of_lt (Qp (g:= ι) (o:=.cells #[.int .i64 J,.int .i64 B] 59 (0,0)) (by(with_reducible repeat first|apply Qb|apply Qe|apply Qc);exact Z.out)): ι ≠ ψ));have a7:=Aside0.mk ((by rw[hg];exact Nat.ne_of_gt (Qp (g:= ι) (o:=.cells #[.int .i64 J,.int .i64 B] 59 (0,0)) (by(with_reducible repeat first|apply Qb|apply Qe|apply Qc);exact Z.out)): ψ ≠ ι));have ag:=Aside0.mk ((by rw[hg];exact Nat.ne_of_lt (Qp (g:=σ) (o:=.cells #[.slice μ Y.length η,.slice κ γ.length θ] 50 (0,0)) (by(with_reducible repeat first|apply Qb|apply Qe|apply Qc);exact ε.out)):σ ≠ ψ));have ah:=Aside0.mk ((by rw[hg];exact Nat.ne_of_gt (Qp (g:=σ) (o:=.cells #[.slice μ Y.length η,.slice κ γ.length θ] 50 (0,0)) (by(with_reducible repeat first|apply Qb|apply Qe|apply Qc);exact ε.out)): ψ ≠ σ));have ai:=Aside0.mk ((by rw[hg];exact Nat.ne_of_lt (Qp (g:=a4) (o:=.cells #[.int .i64 ac,.int .i64 ae,.int .i64 af] 36 (0,0)) (by(with_reducible repeat first|apply Qb|apply Qe|apply Qc);exact ν.out)):a4 ≠ ψ));have aj:=Aside0.mk ((by rw[hg];exact Nat.ne_of_gt (Qp (g:=a4) (o:=.cells #[.int .i64 ac,.int .i64 ae,.int .i64 af] 36 (0,0)) (by(with_reducible repeat first|apply Qb|apply Qe|apply Qc);exact ν.out)): ψ ≠ a4));clear Z;clear ε;clear ν;clear HB;have Z:=L;have ε :=O;have ν :=X;have HB:= δ;have ζ := ξ;have cd:= φ;have a8:= ω;have bc:=a6;have bd:=a7;have bg:=ag;have bh:=ah;have br:=ai;have cb:=aj;clear L O X δ ξ φ ω a6 a7 ag ah ai aj;clear hb hbox hg)|((with_reducible refine Qr (N:=14) rfl ?_);refine Qq ?hg (N:=14) ?hd (cs:=#[.slice none 0 0,.slice none 0 0]) (t:=50) ?hr ?_;(case hd=>rfl);(case hg=>rfl);(case hr=>first|(go_simp;done)|(go_simp;rfl));intro τ hg ii hbox hb;have L:=Aside0.mk (Qh (g:= ι) (o:=.cells #[.int .i64 J,.int .i64 B] 59 (0,0)) (by(with_reducible repeat first|apply Qb|apply Qe|apply Qc);exact Z.out) hb);have O:=Aside0.mk (Qh (g:=σ) (o:=.cells #[.slice μ Y.length η,.slice κ γ.length θ] 50 (0,0)) (by(with_reducible repeat first|apply Qb|apply Qe|apply Qc);exact ε.out) hb);have X:=Aside0.mk (Qh (g:=a4) (o:=.cells #[.int .i64 ac,.int .i64 ae,.int .i64 af] 36 (0,0)) (by(with_reducible repeat first|apply Qb|apply Qe|apply Qc);exact ν.out) hb);have δ :=Aside0.mk (Qh (g:= ψ) (o:=.cells #[.int .i64 an,.int .i64 ap] 86 (0,0)) (by(with_reducible repeat first|apply Qb|apply Qe|apply Qc);exact ζ.out) hb);have ξ :=Aside0.mk (Qj (by repeat(first|(with_reducible first|exact HB.out|apply Qg|apply Qd|apply Qf|refine Qa ?_ χ.out|refine Qa ?_ a0.out|refine Qa ?_ ab.out|refine Qa ?_ a8.out)|exact HB.out)) hb);have φ :=Aside0.mk (hbox);have ω :=Aside0.mk ((by rw[hg];exact(Qi (by repeat(first|(with_reducible first|exact HB.out|apply Qg|apply Qd|apply Qf|refine Qa ?_ χ.out|refine Qa ?_ a0.out|refine Qa ?_ ab.out|refine Qa ?_ a8.out)|exact HB.out))):w.heap.size ≤ τ));have a6:=Aside0.mk ((by rw[hg];exact(Qi (by repeat(first|(with_reducible first|exact HB.out|apply Qg|apply Qd|apply Qf|refine Qa ?_ χ.out|refine Qa ?_ a0.out|refine Qa ?_ ab.out|refine Qa ?_ a8.out)|exact HB.out))):w.heap.size ≤ τ));have a7:=Aside0.mk ((by rw[hg];exact Nat.ne_of_lt (Qp (g:= ι) (o:=.cells #[.int .i64 J,.int .i64 B] 59 (0,0)) (by(with_reducible repeat first|apply Qb|apply Qe|apply Qc);exact Z.out)): ι ≠ τ));have ag:=Aside0.mk ((by rw[hg];exact Nat.ne_of_gt (Qp (g:= ι) (o:=.cells #[.int .i64 J,.int .i64 B] 59 (0,0)) (by(with_reducible repeat first|apply Qb|apply Qe|apply Qc);exact Z.out)): τ ≠ ι));have ah:=Aside0.mk ((by rw[hg];exact Nat.ne_of_lt (Qp (g:=σ) (o:=.cells #[.slice μ Y.length η,.slice κ γ.length θ] 50 (0,0)) (by(with_reducible repeat first|apply Qb|apply Qe|apply Qc);exact ε.out)):σ ≠ τ));have ai:=Aside0.mk ((by rw[hg];exact Nat.ne_of_gt (Qp (g:=σ) (o:=.cells #[.slice μ Y.length η,.slice κ γ.length θ] 50 (0,0)) (by(with_reducible repeat first|apply Qb|apply Qe|apply Qc);exact ε.out)): τ ≠ σ));have aj:=Aside0.mk ((by rw[hg];exact Nat.ne_of_lt (Qp (g:=a4) (o:=.cells #[.int .i64 ac,.int .i64 ae,.int .i64 af] 36 (0,0)) (by(with_reducible repeat first|apply Qb|apply Qe|apply Qc);exact ν.out)):a4 ≠ τ));have ay:=Aside0.mk ((by rw[hg];exact Nat.ne_of_gt (Qp (g:=a4) (o:=.cells #[.int .i64 ac,.int .i64 ae,.int .i64 af] 36 (0,0)) (by(with_reducible repeat first|apply Qb|apply Qe|apply Qc);exact ν.out)): τ ≠ a4));have b1:=Aside0.mk ((by rw[hg];exact Nat.ne_of_lt (Qp (g:= ψ) (o:=.cells #[.int .i64 an,.int .i64 ap] 86 (0,0)) (by(with_reducible repeat first|apply Qb|apply Qe|apply Qc);exact ζ.out)): ψ ≠ τ));have ao:=Aside0.mk ((by rw[hg];exact Nat.ne_of_gt (Qp (g:= ψ) (o:=.cells #[.int .i64 an,.int .i64 ap] 86 (0,0)) (by(with_reducible repeat first|apply Qb|apply Qe|apply Qc);exact ζ.out)): τ ≠ ψ));clear Z;clear ε;clear ν;clear ζ;clear HB;have Z:=L;have ε :=O;have ν :=X;have ζ := δ;have HB:= ξ;have ρ:= φ;have ce:= ω;have aa:=a6;have ax:=a7;have b0:=ag;have b2:=ah;have b3:=ai;have al:=aj;have b4:=ay;have am:=b1;have aw:=ao;clear L O X δ ξ φ ω a6 a7 ag ah ai aj ay b1 ao;clear hb hbox hg;have ix:=au.out;have iy:=az.out;have ij:=b7.out;have ik:=b8.out;have gp:=bc.out;have gq:=bd.out;have hy:=ax.out;have i0:=b0.out;obtain⟨bs,ft,fb,fu⟩:=qD2 Z.out;have he:=b9.out;have hh:=ba.out;have gw:=bg.out;have hj:=bh.out;have j4:=b2.out;have j5:=b3.out;obtain⟨ec,ed,ee,ef⟩:=qD2 ε.out)|((with_reducible refine Qt (f:=40) rfl ?_);refine Q7 (some 19) rfl rfl Try.func40 kr rfl #[.agg #[.int .i64 J,.int .i64 B],.agg #[.slice μ Y.length η,.slice κ γ.length θ]] rfl (by(try simp only[List.map_toArray,List.map_cons,List.map_nil]);first|done|rfl|(simp only[List.length_drop,List.length_take];rfl)) ?_;(with_reducible refine(call_Check.calls k J B _ _ Y _ _ γ a1 _ ?side1 ?side2 ?side3 ?side4 A8.out).mono ?_);(case side1=>repeat(first|exact(Kd.Q0 be.out HB.out)|(with_reducible refine Kd.Q3 ?_ _)|(with_reducible refine Kd.Q2 ?_ _)|(with_reducible refine Kd.Q9 ?_)));(case side2=>exact bz.out);(case side3=>repeat(first|exact(Kd.Q0 bf.out HB.out)|(with_reducible refine Kd.Q3 ?_ _)|(with_reducible refine Kd.Q2 ?_ _)|(with_reducible refine Kd.Q9 ?_)));(case side4=>exact ca.out);rintro e ek ⟨rfl,hb⟩;refine⟨_,rfl, ?_⟩;have L:=Aside0.mk (Qh (g:= ι) (o:=.cells #[.int .i64 J,.int .i64 B] 59 (0,0)) (by(with_reducible repeat first|apply Qb|apply Qe|apply Qc);exact Z.out) hb);have O:=Aside0.mk (Qh (g:=σ) (o:=.cells #[.slice μ Y.length η,.slice κ γ.length θ] 50 (0,0)) (by(with_reducible repeat first|apply Qb|apply Qe|apply Qc);exact ε.out) hb);have X:=Aside0.mk (Qh (g:=a4) (o:=.cells #[.int .i64 ac,.int .i64 ae,.int .i64 af] 36 (0,0)) (by(with_reducible repeat first|apply Qb|apply Qe|apply Qc);exact ν.out) hb);have δ :=Aside0.mk (Qh (g:= ψ) (o:=.cells #[.int .i64 an,.int .i64 ap] 86 (0,0)) (by(with_reducible repeat first|apply Qb|apply Qe|apply Qc);exact ζ.out) hb);have ξ :=Aside0.mk (Qh (g:= τ) (o:=.cells #[.slice none 0 0,.slice none 0 0] 50 (0,0)) (by(with_reducible repeat first|apply Qb|apply Qe|apply Qc);exact ρ.out) hb);have φ :=Aside0.mk (Qj (by repeat(first|(with_reducible first|exact HB.out|apply Qg|apply Qd|apply Qf|refine Qa ?_ χ.out|refine Qa ?_ a0.out|refine Qa ?_ ab.out|refine Qa ?_ a8.out|refine Qa ?_ aa.out)|exact HB.out)) hb);clear Z;clear ε;clear ν;clear ζ;clear ρ;clear HB;have Z:=L;have ε :=O;have ν :=X;have ζ := δ;have ρ:= ξ;have HB:= φ;clear L O X δ ξ φ;(try clear hb);(try clear ak);(try clear hk);(try clear hi);have fx:=b4.out;have fz:=al.out;have j6:=aw.out;have j7:=am.out;obtain⟨e4,e5,e6,e7⟩:=qD2 ρ.out))
   refine bodyPost_ret (Xb rfl _ _ τ 50 #[.slice none 0 0,.slice none 0 0] (0,0) _ rfl (by(with_reducible repeat first|apply Qb|apply Qe|apply Qc);refine Qu (cs:=#[.slice none 0 0,.slice none 0 0]) ?_ 1 _ rfl;(with_reducible repeat first|apply Qb|apply Qe|apply Qc);refine Qu (cs:=#[.slice none 0 0,.slice none 0 0]) ?_ 0 _ rfl;(with_reducible repeat first|apply Qb|apply Qe|apply Qc);exact ρ.out) Try.underlying50 rfl kr) rfl ?_
   exact⟨_,_,by first|rfl|(simp[Qo,Qn] <;> rfl)|(simp[*,Qo,Qn] <;> rfl),by first|exact Kd.Xw _ _ _ _ _|exact Kd.Yp _ _ _ _ _|exact Kd.Yl _ _ _ _ _|exact Kd.Yo _ _ _ _ _|exact Kd.Ym _ _ _ _ _,by first|exact Kd.Xw _ _ _ _ _|exact Kd.Yp _ _ _ _ _|exact Kd.Yl _ _ _ _ _|exact Kd.Yo _ _ _ _ _|exact Kd.Ym _ _ _ _ _,by repeat(first|(with_reducible first|exact HB.out|apply Qg|apply Qd|apply Qf|refine Qa ?_ χ.out|refine Qa ?_ a0.out|refine Qa ?_ ab.out|refine Qa ?_ a8.out|refine Qa ?_ aa.out)|exact HB.out)⟩
 ·rw[if_neg c9] at H
  have c9b0:(a1==0)=false:=beq_eq_false_iff_ne.mpr c9
  have c9b1:(a1 != 0)=true:=bne_iff_ne.mpr c9
  simp only[Option.some.injEq,Prod.mk.injEq] at H
  obtain⟨rfl,rfl,rfl⟩:=H
  go_enter Try.func73,Try.ntmps73
  go_wp2_with (first|((with_reducible refine Qr (N:=7) rfl ?_);refine Qq ?hg (N:=7) ?hd (cs:=#[.int .i64 J,.int .i64 B]) (t:=59) ?hr ?_;(case hd=>rfl);(case hg=>rfl);(case hr=>first|(go_simp;done)|(go_simp;rfl));intro ι hg gm hbox hb;have L:=Aside0.mk (Qj (by repeat(first|(with_reducible first|exact HB.out|apply Qg|apply Qd|apply Qf)|exact HB.out)) hb);have O:=Aside0.mk (hbox);have X:=Aside0.mk ((by rw[hg];exact(Qi (by repeat(first|(with_reducible first|exact HB.out|apply Qg|apply Qd|apply Qf)|exact HB.out))):w.heap.size ≤ ι));have δ :=Aside0.mk ((by rw[hg];exact(Qi (by repeat(first|(with_reducible first|exact HB.out|apply Qg|apply Qd|apply Qf)|exact HB.out))):w.heap.size ≤ ι));clear HB;have HB:=L;have Z:=O;have ci:=X;have χ := δ;clear L O X δ;clear hb hbox hg)|((with_reducible refine Qr (N:=8) rfl ?_);refine Qq ?hg (N:=8) ?hd (cs:=#[.slice μ Y.length η,.slice κ γ.length θ]) (t:=50) ?hr ?_;(case hd=>rfl);(case hg=>rfl);(case hr=>first|(go_simp;done)|(go_simp;rfl));intro σ hg q8 hbox hb;have L:=Aside0.mk (Qh (g:= ι) (o:=.cells #[.int .i64 J,.int .i64 B] 59 (0,0)) (by(with_reducible repeat first|apply Qb|apply Qe|apply Qc);exact Z.out) hb);have O:=Aside0.mk (Qj (by repeat(first|(with_reducible first|exact HB.out|apply Qg|apply Qd|apply Qf|refine Qa ?_ χ.out)|exact HB.out)) hb);have X:=Aside0.mk (hbox);have δ :=Aside0.mk ((by rw[hg];exact(Qi (by repeat(first|(with_reducible first|exact HB.out|apply Qg|apply Qd|apply Qf|refine Qa ?_ χ.out)|exact HB.out))):w.heap.size≤σ));have ξ :=Aside0.mk ((by rw[hg];exact(Qi (by repeat(first|(with_reducible first|exact HB.out|apply Qg|apply Qd|apply Qf|refine Qa ?_ χ.out)|exact HB.out))):w.heap.size≤σ));have φ :=Aside0.mk ((by rw[hg];exact Nat.ne_of_lt (Qp (g:= ι) (o:=.cells #[.int .i64 J,.int .i64 B] 59 (0,0)) (by(with_reducible repeat first|apply Qb|apply Qe|apply Qc);exact Z.out)): ι ≠ σ));have ω :=Aside0.mk ((by rw[hg];exact Nat.ne_of_gt (Qp (g:= ι) (o:=.cells #[.int .i64 J,.int .i64 B] 59 (0,0)) (by(with_reducible repeat first|apply Qb|apply Qe|apply Qc);exact Z.out)):σ ≠ ι));clear Z;clear HB;have Z:=L;have HB:=O;have ε :=X;have cj:= δ;have a0:= ξ;have au:= φ;have az:= ω;clear L O X δ ξ φ ω;clear hb hbox hg)|((with_reducible refine Qr (N:=11) rfl ?_);refine Qq ?hg (N:=11) ?hd (cs:=#[.int .i64 ac,.int .i64 ae,.int .i64 af]) (t:=36) ?hr ?_;(case hd=>rfl);(case hg=>rfl);(case hr=>first|(go_simp;done)|(go_simp;rfl));intro a4 hg q9 hbox hb;have L:=Aside0.mk (Qh (g:= ι) (o:=.cells #[.int .i64 J,.int .i64 B] 59 (0,0)) (by(with_reducible repeat first|apply Qb|apply Qe|apply Qc);exact Z.out) hb);have O:=Aside0.mk (Qh (g:=σ) (o:=.cells #[.slice μ Y.length η,.slice κ γ.length θ] 50 (0,0)) (by(with_reducible repeat first|apply Qb|apply Qe|apply Qc);exact ε.out) hb);have X:=Aside0.mk (Qj (by repeat(first|(with_reducible first|exact HB.out|apply Qg|apply Qd|apply Qf|refine Qa ?_ χ.out|refine Qa ?_ a0.out)|exact HB.out)) hb);have δ :=Aside0.mk (hbox);have ξ :=Aside0.mk ((by rw[hg];exact(Qi (by repeat(first|(with_reducible first|exact HB.out|apply Qg|apply Qd|apply Qf|refine Qa ?_ χ.out|refine Qa ?_ a0.out)|exact HB.out))):w.heap.size≤a4));have φ :=Aside0.mk ((by rw[hg];exact(Qi (by repeat(first|(with_reducible first|exact HB.out|apply Qg|apply Qd|apply Qf|refine Qa ?_ χ.out|refine Qa ?_ a0.out)|exact HB.out))):w.heap.size≤a4));have ω :=Aside0.mk ((by rw[hg];exact Nat.ne_of_lt (Qp (g:= ι) (o:=.cells #[.int .i64 J,.int .i64 B] 59 (0,0)) (by(with_reducible repeat first|apply Qb|apply Qe|apply Qc);exact Z.out)): ι ≠ a4));have a6:=Aside0.mk ((by rw[hg];exact Nat.ne_of_gt (Qp (g:= ι) (o:=.cells #[.int .i64 J,.int .i64 B] 59 (0,0)) (by(with_reducible repeat first|apply Qb|apply Qe|apply Qc);exact Z.out)):a4 ≠ ι));have a7:=Aside0.mk ((by rw[hg];exact Nat.ne_of_lt (Qp (g:=σ) (o:=.cells #[.slice μ Y.length η,.slice κ γ.length θ] 50 (0,0)) (by(with_reducible repeat first|apply Qb|apply Qe|apply Qc);exact ε.out)):σ≠a4));have ag:=Aside0.mk ((by rw[hg];exact Nat.ne_of_gt (Qp (g:=σ) (o:=.cells #[.slice μ Y.length η,.slice κ γ.length θ] 50 (0,0)) (by(with_reducible repeat first|apply Qb|apply Qe|apply Qc);exact ε.out)):a4≠σ));clear Z;clear ε;clear HB;have Z:=L;have ε :=O;have HB:=X;have ν := δ;have co:= ξ;have ab:= φ;have b7:= ω;have b8:=a6;have b9:=a7;have ba:=ag;clear L O X δ ξ φ ω a6 a7 ag;clear hb hbox hg)|((with_reducible refine Qr (N:=13) rfl ?_);refine Qq ?hg (N:=13) ?hd (cs:=#[.int .i64 an,.int .i64 ap]) (t:=86) ?hr ?_;(case hd=>rfl);(case hg=>rfl);(case hr=>first|(go_simp;done)|(go_simp;rfl));intro ψ hg di hbox hb;have L:=Aside0.mk (Qh (g:= ι) (o:=.cells #[.int .i64 J,.int .i64 B] 59 (0,0)) (by(with_reducible repeat first|apply Qb|apply Qe|apply Qc);exact Z.out) hb);have O:=Aside0.mk (Qh (g:=σ) (o:=.cells #[.slice μ Y.length η,.slice κ γ.length θ] 50 (0,0)) (by(with_reducible repeat first|apply Qb|apply Qe|apply Qc);exact ε.out) hb);have X:=Aside0.mk (Qh (g:=a4) (o:=.cells #[.int .i64 ac,.int .i64 ae,.int .i64 af] 36 (0,0)) (by(with_reducible repeat first|apply Qb|apply Qe|apply Qc);exact ν.out) hb);have δ :=Aside0.mk (Qj (by repeat(first|(with_reducible first|exact HB.out|apply Qg|apply Qd|apply Qf|refine Qa ?_ χ.out|refine Qa ?_ a0.out|refine Qa ?_ ab.out)|exact HB.out)) hb);have ξ :=Aside0.mk (hbox);have φ :=Aside0.mk ((by rw[hg];exact(Qi (by repeat(first|(with_reducible first|exact HB.out|apply Qg|apply Qd|apply Qf|refine Qa ?_ χ.out|refine Qa ?_ a0.out|refine Qa ?_ ab.out)|exact HB.out))):w.heap.size ≤ ψ));have ω :=Aside0.mk ((by rw[hg];exact(Qi (by repeat(first|(with_reducible first|exact HB.out|apply Qg|apply Qd|apply Qf|refine Qa ?_ χ.out|refine Qa ?_ a0.out|refine Qa ?_ ab.out)|exact HB.out))):w.heap.size ≤ ψ));have a6:=Aside0.mk ((by rw[hg];exact Nat.ne_of_lt (Qp (g:= ι) (o:=.cells #[.int .i64 J,.int .i64 B] 59 (0,0)) (by(with_reducible repeat first|apply Qb|apply Qe|apply Qc);exact Z.out)): ι ≠ ψ));have a7:=Aside0.mk ((by rw[hg];exact Nat.ne_of_gt (Qp (g:= ι) (o:=.cells #[.int .i64 J,.int .i64 B] 59 (0,0)) (by(with_reducible repeat first|apply Qb|apply Qe|apply Qc);exact Z.out)): ψ ≠ ι));have ag:=Aside0.mk ((by rw[hg];exact Nat.ne_of_lt (Qp (g:=σ) (o:=.cells #[.slice μ Y.length η,.slice κ γ.length θ] 50 (0,0)) (by(with_reducible repeat first|apply Qb|apply Qe|apply Qc);exact ε.out)):σ ≠ ψ));have ah:=Aside0.mk ((by rw[hg];exact Nat.ne_of_gt (Qp (g:=σ) (o:=.cells #[.slice μ Y.length η,.slice κ γ.length θ] 50 (0,0)) (by(with_reducible repeat first|apply Qb|apply Qe|apply Qc);exact ε.out)): ψ ≠ σ));have ai:=Aside0.mk ((by rw[hg];exact Nat.ne_of_lt (Qp (g:=a4) (o:=.cells #[.int .i64 ac,.int .i64 ae,.int .i64 af] 36 (0,0)) (by(with_reducible repeat first|apply Qb|apply Qe|apply Qc);exact ν.out)):a4 ≠ ψ));have aj:=Aside0.mk ((by rw[hg];exact Nat.ne_of_gt (Qp (g:=a4) (o:=.cells #[.int .i64 ac,.int .i64 ae,.int .i64 af] 36 (0,0)) (by(with_reducible repeat first|apply Qb|apply Qe|apply Qc);exact ν.out)): ψ ≠ a4));clear Z;clear ε;clear ν;clear HB;have Z:=L;have ε :=O;have ν :=X;have HB:= δ;have ζ := ξ;have cd:= φ;have a8:= ω;have bc:=a6;have bd:=a7;have bg:=ag;have bh:=ah;have br:=ai;have cb:=aj;clear L O X δ ξ φ ω a6 a7 ag ah ai aj;clear hb hbox hg)|((with_reducible refine Qr (N:=14) rfl ?_);refine Qq ?hg (N:=14) ?hd (cs:=#[.slice none 0 0,.slice none 0 0]) (t:=50) ?hr ?_;(case hd=>rfl);(case hg=>rfl);(case hr=>first|(go_simp;done)|(go_simp;rfl));intro τ hg qa hbox hb;have L:=Aside0.mk (Qh (g:= ι) (o:=.cells #[.int .i64 J,.int .i64 B] 59 (0,0)) (by(with_reducible repeat first|apply Qb|apply Qe|apply Qc);exact Z.out) hb);have O:=Aside0.mk (Qh (g:=σ) (o:=.cells #[.slice μ Y.length η,.slice κ γ.length θ] 50 (0,0)) (by(with_reducible repeat first|apply Qb|apply Qe|apply Qc);exact ε.out) hb);have X:=Aside0.mk (Qh (g:=a4) (o:=.cells #[.int .i64 ac,.int .i64 ae,.int .i64 af] 36 (0,0)) (by(with_reducible repeat first|apply Qb|apply Qe|apply Qc);exact ν.out) hb);have δ :=Aside0.mk (Qh (g:= ψ) (o:=.cells #[.int .i64 an,.int .i64 ap] 86 (0,0)) (by(with_reducible repeat first|apply Qb|apply Qe|apply Qc);exact ζ.out) hb);have ξ :=Aside0.mk (Qj (by repeat(first|(with_reducible first|exact HB.out|apply Qg|apply Qd|apply Qf|refine Qa ?_ χ.out|refine Qa ?_ a0.out|refine Qa ?_ ab.out|refine Qa ?_ a8.out)|exact HB.out)) hb);have φ :=Aside0.mk (hbox);have ω :=Aside0.mk ((by rw[hg];exact(Qi (by repeat(first|(with_reducible first|exact HB.out|apply Qg|apply Qd|apply Qf|refine Qa ?_ χ.out|refine Qa ?_ a0.out|refine Qa ?_ ab.out|refine Qa ?_ a8.out)|exact HB.out))):w.heap.size ≤ τ));have a6:=Aside0.mk ((by rw[hg];exact(Qi (by repeat(first|(with_reducible first|exact HB.out|apply Qg|apply Qd|apply Qf|refine Qa ?_ χ.out|refine Qa ?_ a0.out|refine Qa ?_ ab.out|refine Qa ?_ a8.out)|exact HB.out))):w.heap.size ≤ τ));have a7:=Aside0.mk ((by rw[hg];exact Nat.ne_of_lt (Qp (g:= ι) (o:=.cells #[.int .i64 J,.int .i64 B] 59 (0,0)) (by(with_reducible repeat first|apply Qb|apply Qe|apply Qc);exact Z.out)): ι ≠ τ));have ag:=Aside0.mk ((by rw[hg];exact Nat.ne_of_gt (Qp (g:= ι) (o:=.cells #[.int .i64 J,.int .i64 B] 59 (0,0)) (by(with_reducible repeat first|apply Qb|apply Qe|apply Qc);exact Z.out)): τ ≠ ι));have ah:=Aside0.mk ((by rw[hg];exact Nat.ne_of_lt (Qp (g:=σ) (o:=.cells #[.slice μ Y.length η,.slice κ γ.length θ] 50 (0,0)) (by(with_reducible repeat first|apply Qb|apply Qe|apply Qc);exact ε.out)):σ ≠ τ));have ai:=Aside0.mk ((by rw[hg];exact Nat.ne_of_gt (Qp (g:=σ) (o:=.cells #[.slice μ Y.length η,.slice κ γ.length θ] 50 (0,0)) (by(with_reducible repeat first|apply Qb|apply Qe|apply Qc);exact ε.out)): τ ≠ σ));have aj:=Aside0.mk ((by rw[hg];exact Nat.ne_of_lt (Qp (g:=a4) (o:=.cells #[.int .i64 ac,.int .i64 ae,.int .i64 af] 36 (0,0)) (by(with_reducible repeat first|apply Qb|apply Qe|apply Qc);exact ν.out)):a4 ≠ τ));have ay:=Aside0.mk ((by rw[hg];exact Nat.ne_of_gt (Qp (g:=a4) (o:=.cells #[.int .i64 ac,.int .i64 ae,.int .i64 af] 36 (0,0)) (by(with_reducible repeat first|apply Qb|apply Qe|apply Qc);exact ν.out)): τ ≠ a4));have b1:=Aside0.mk ((by rw[hg];exact Nat.ne_of_lt (Qp (g:= ψ) (o:=.cells #[.int .i64 an,.int .i64 ap] 86 (0,0)) (by(with_reducible repeat first|apply Qb|apply Qe|apply Qc);exact ζ.out)): ψ ≠ τ));have ao:=Aside0.mk ((by rw[hg];exact Nat.ne_of_gt (Qp (g:= ψ) (o:=.cells #[.int .i64 an,.int .i64 ap] 86 (0,0)) (by(with_reducible repeat first|apply Qb|apply Qe|apply Qc);exact ζ.out)): τ ≠ ψ));clear Z;clear ε;clear ν;clear ζ;clear HB;have Z:=L;have ε :=O;have ν :=X;have ζ := δ;have HB:= ξ;have ρ:= φ;have ce:= ω;have aa:=a6;have ax:=a7;have b0:=ag;have b2:=ah;have b3:=ai;have al:=aj;have b4:=ay;have am:=b1;have aw:=ao;clear L O X δ ξ φ ω a6 a7 ag ah ai aj ay b1 ao;clear hb hbox hg;have e3:=au.out;have e8:=az.out;have jw:=b7.out;have jx:=b8.out;have jm:=bc.out;have jn:=bd.out;have j8:=ax.out;have js:=b0.out;obtain⟨fc,jj,jo,jp⟩:=qD2 Z.out;have jt:=b9.out;have ju:=ba.out;have jy:=bg.out;have jz:=bh.out;have ha:=b2.out;have hl:=b3.out;obtain⟨dc,er,fv,m6⟩:=qD2 ε.out)|((with_reducible refine Qt (f:=40) rfl ?_);refine Q7 (some 19) rfl rfl Try.func40 kr rfl #[.agg #[.int .i64 J,.int .i64 B],.agg #[.slice μ Y.length η,.slice κ γ.length θ]] rfl (by(try simp only[List.map_toArray,List.map_cons,List.map_nil]);first|done|rfl|(simp only[List.length_drop,List.length_take];rfl)) ?_;(with_reducible refine(call_Check.calls k J B _ _ Y _ _ γ a1 _ ?side1 ?side2 ?side3 ?side4 A8.out).mono ?_);(case side1=>repeat(first|exact(Kd.Q0 be.out HB.out)|(with_reducible refine Kd.Q3 ?_ _)|(with_reducible refine Kd.Q2 ?_ _)|(with_reducible refine Kd.Q9 ?_)));(case side2=>exact bz.out);(case side3=>repeat(first|exact(Kd.Q0 bf.out HB.out)|(with_reducible refine Kd.Q3 ?_ _)|(with_reducible refine Kd.Q2 ?_ _)|(with_reducible refine Kd.Q9 ?_)));(case side4=>exact ca.out);rintro e el ⟨rfl,hb⟩;refine⟨_,rfl, ?_⟩;have L:=Aside0.mk (Qh (g:= ι) (o:=.cells #[.int .i64 J,.int .i64 B] 59 (0,0)) (by(with_reducible repeat first|apply Qb|apply Qe|apply Qc);exact Z.out) hb);have O:=Aside0.mk (Qh (g:=σ) (o:=.cells #[.slice μ Y.length η,.slice κ γ.length θ] 50 (0,0)) (by(with_reducible repeat first|apply Qb|apply Qe|apply Qc);exact ε.out) hb);have X:=Aside0.mk (Qh (g:=a4) (o:=.cells #[.int .i64 ac,.int .i64 ae,.int .i64 af] 36 (0,0)) (by(with_reducible repeat first|apply Qb|apply Qe|apply Qc);exact ν.out) hb);have δ :=Aside0.mk (Qh (g:= ψ) (o:=.cells #[.int .i64 an,.int .i64 ap] 86 (0,0)) (by(with_reducible repeat first|apply Qb|apply Qe|apply Qc);exact ζ.out) hb);have ξ :=Aside0.mk (Qh (g:= τ) (o:=.cells #[.slice none 0 0,.slice none 0 0] 50 (0,0)) (by(with_reducible repeat first|apply Qb|apply Qe|apply Qc);exact ρ.out) hb);have φ :=Aside0.mk (Qj (by repeat(first|(with_reducible first|exact HB.out|apply Qg|apply Qd|apply Qf|refine Qa ?_ χ.out|refine Qa ?_ a0.out|refine Qa ?_ ab.out|refine Qa ?_ a8.out|refine Qa ?_ aa.out)|exact HB.out)) hb);clear Z;clear ε;clear ν;clear ζ;clear ρ;clear HB;have Z:=L;have ε :=O;have ν :=X;have ζ := δ;have ρ:= ξ;have HB:= φ;clear L O X δ ξ φ;(try clear hb);(try clear ak);(try clear hk);(try clear hi);have kn:=b4.out;have ko:=al.out;have mw:=aw.out;have my:=am.out;obtain⟨du,dw,dx,dy⟩:=qD2 ρ.out))
  refine bodyPost_ret (Xb rfl _ _ τ 50 #[.slice none 0 0,.slice none 0 0] (0,0) _ rfl (by(with_reducible repeat first|apply Qb|apply Qe|apply Qc);refine Qu (cs:=#[.slice none 0 0,.slice none 0 0]) ?_ 1 _ rfl;(with_reducible repeat first|apply Qb|apply Qe|apply Qc);refine Qu (cs:=#[.slice none 0 0,.slice none 0 0]) ?_ 0 _ rfl;(with_reducible repeat first|apply Qb|apply Qe|apply Qc);exact ρ.out) Try.underlying50 rfl kr) rfl ?_
  exact⟨_,_,by first|rfl|(simp[Qo,Qn] <;> rfl)|(simp[*,Qo,Qn] <;> rfl),by first|exact Kd.Xw _ _ _ _ _|exact Kd.Yp _ _ _ _ _|exact Kd.Yl _ _ _ _ _|exact Kd.Yo _ _ _ _ _|exact Kd.Ym _ _ _ _ _,by first|exact Kd.Xw _ _ _ _ _|exact Kd.Yp _ _ _ _ _|exact Kd.Yl _ _ _ _ _|exact Kd.Yo _ _ _ _ _|exact Kd.Ym _ _ _ _ _,by repeat(first|(with_reducible first|exact HB.out|apply Qg|apply Qd|apply Qf|refine Qa ?_ χ.out|refine Qa ?_ a0.out|refine Qa ?_ ab.out|refine Qa ?_ a8.out|refine Qa ?_ aa.out)|exact HB.out)⟩
def call_Give.f (k:Nat) (J:Int) (B:Int) (Y:List (S36)) (γ:List (S86)) (σ:Int) (a3:Int) (a4:Int):Option ((List (S36))×(List (S86))×Int):=(hallP.f σ a3 a4 J B).bind fun a2=>((call_change.f (setP_H.f σ a3 a4 Y) (woP_I.f (-2) 0 γ) k J B Y γ a2 0 σ a3 a4 0 (-2) 0).bind fun a9=>(some (a9.1,a9.2.1,a9.2.2)))
theorem call_Give.mono:∀ J Z a2 a3 L a5 O k,LeO (call_Give.f k J Z a2 a3 L a5 O) (call_Give.f (k+1) J Z a2 a3 L a5 O):=by
 intro J Z a2 a3 L a5 O k
 unfold call_Give.f
 repeat' first
   |(with_reducible exact call_change.mono _ _ _ _ _ _ _ _ _ _ _ _ _ _ _)
   |(with_reducible exact LeO.refl _)
   |(with_reducible exact LeO.none _)
   |(with_reducible refine LeO.ite ?_ ?_)
   |(with_reducible refine LeO.bind ?_ (fun _=>?_))
   |exact call_change.mono _ _ _ _ _ _ _ _ _ _ _ _ _ _ _
   |exact LeO.none _
   |refine LeO.ite ?_ ?_
   |refine LeO.bind ?_ (fun _=>?_)
def call_Give.T1:Bool×List (List Nat×List Nat):=(true,[([],[]),([],[]),([],[]),([2],[2]),([],[]),([3,4,3],[3,4]),([],[]),([6,5],[6]),([7],[7]),([],[]),([],[]),([10,7],[10]),([11],[11]),([],[]),([0,1,5,8,9,12,13,11],[0,1,5,8,9,12,13]),([14],[14]),([14],[14]),([15,14,0,1,2,3,4,5,6,7,8,9,10,11,12,13,14,15,16],[15]),([16,17,0,1,2,3,4,5,6,7,8,9,10,11,12,13,14,15,16,17],[16])])
def call_Give.B1:List Nat:=[0,0,0,4,0,28,0,124,252,0,0,1276,3324,0,16383,32767,32767,131071,262143]
theorem call_Give.Kq:rtab .any (opsOf Try.f51 1)=call_Give.T1:=by kernel_rfl
theorem call_Give.Y9:Z3 call_Give.T1.2 call_Give.B1=true:=by kernel_rfl
set_option maxHeartbeats 8000000 in
set_option maxRecDepth 100000 in
theorem call_Give.calls (k:Nat) (J:Int) (B:Int) (μ :Option Addr) (η :Nat) (Y:List (S36)) (κ :Option Addr) (θ :Nat) (γ:List (S86)) (σ:Int) (a3:Int) (a4:Int) (r1:List (S36)) (r2:List (S86)) (r3:Int) (w:World) (bm:Kd.C k36 w μ Y.length Y) (bn:Y.length ≤ η) (bv:Kd.C k86 w κ γ.length γ) (bw:γ.length ≤ θ) (h:call_Give.f k J B Y γ σ a3 a4=some (r1,r2,r3)):
  Calls Try.prog 51 #[.agg #[.int .i64 J,.int .i64 B],.agg #[.slice μ Y.length η,.slice κ γ.length θ],.agg #[.int .i64 σ,.int .i64 a3,.int .i64 a4]] w fun e w'=>∃ bk fj:Value,e = .returned (.tuple #[.agg #[bk,fj],.int .i64 r3])∧Kd.R k36 36 w' w.heap.size (fun _=>True) bk r1∧Kd.R k86 86 w' w.heap.size (fun _=>True) fj r2∧Below w.heap.size w w':=by
 have eb:=Try.underlying59
 have fe:=Try.underlying50
 have da:=Try.underlying36
 have ea:=Try.underlying86
 have be:=Aside0.mk bm
 have bz:=Aside0.mk bn
 clear bm bn
 have bf:=Aside0.mk bv
 have ca:=Aside0.mk bw
 clear bv bw
 have HB:=Aside0.mk (Below.refl w.heap.size w)
 have H:((hallP.f σ a3 a4 J B).bind fun a2=>((call_change.f (setP_H.f σ a3 a4 Y) (woP_I.f (-2) 0 γ) k J B Y γ a2 0 σ a3 a4 0 (-2) 0).bind fun a9=>(some (a9.1,a9.2.1,a9.2.2))))=some (r1,r2,r3):=h
 clear h
 replace H:=Option.bind_eq_some_iff.mp H
 obtain⟨a2,br,H⟩:=H
 replace H:((call_change.f (setP_H.f σ a3 a4 Y) (woP_I.f (-2) 0 γ) k J B Y γ a2 0 σ a3 a4 0 (-2) 0).bind fun a9=>(some (a9.1,a9.2.1,a9.2.2)))=some (r1,r2,r3):=H
 have A4:=Aside0.mk br
 clear br
 replace H:=Option.bind_eq_some_iff.mp H
 obtain⟨⟨ar,ae,al⟩,bu,H⟩:=H
 replace H:(some (ar,ae,al))=some (r1,r2,r3):=H
 have A5:=Aside0.mk bu
 clear bu
 simp only[Option.some.injEq,Prod.mk.injEq] at H
 obtain⟨rfl,rfl,rfl⟩:=H
 go_enter Try.func51,Try.ntmps51
 try go_wp2_with (first|((with_reducible refine Qr (N:=3) rfl ?_);refine Qq ?hg (N:=3) ?hd (cs:=#[.int .i64 J,.int .i64 B]) (t:=59) ?hr ?_;(case hd=>rfl);(case hg=>rfl);(case hr=>first|(go_simp;done)|(go_simp;rfl));intro τ hg w6 hbox hb;have L:=Aside0.mk (Qj (by repeat(first|(with_reducible first|exact HB.out|apply Qg|apply Qd|apply Qf)|exact HB.out)) hb);have O:=Aside0.mk (hbox);have X:=Aside0.mk ((by rw[hg];exact(Qi (by repeat(first|(with_reducible first|exact HB.out|apply Qg|apply Qd|apply Qf)|exact HB.out))):w.heap.size ≤ τ));have δ :=Aside0.mk ((by rw[hg];exact(Qi (by repeat(first|(with_reducible first|exact HB.out|apply Qg|apply Qd|apply Qf)|exact HB.out))):w.heap.size ≤ τ));clear HB;have HB:=L;have ρ:=O;have ce:=X;have aa:= δ;clear L O X δ;clear hb hbox hg)|((with_reducible refine Qr (N:=4) rfl ?_);refine Qq ?hg (N:=4) ?hd (cs:=#[.slice μ Y.length η,.slice κ γ.length θ]) (t:=50) ?hr ?_;(case hd=>rfl);(case hg=>rfl);(case hr=>first|(go_simp;done)|(go_simp;rfl));intro ι hg w7 hbox hb;have L:=Aside0.mk (Qh (g:= τ) (o:=.cells #[.int .i64 J,.int .i64 B] 59 (0,0)) (by(with_reducible repeat first|apply Qb|apply Qe|apply Qc);exact ρ.out) hb);have O:=Aside0.mk (Qj (by repeat(first|(with_reducible first|exact HB.out|apply Qg|apply Qd|apply Qf|refine Qa ?_ aa.out)|exact HB.out)) hb);have X:=Aside0.mk (hbox);have δ :=Aside0.mk ((by rw[hg];exact(Qi (by repeat(first|(with_reducible first|exact HB.out|apply Qg|apply Qd|apply Qf|refine Qa ?_ aa.out)|exact HB.out))):w.heap.size ≤ ι));have ξ :=Aside0.mk ((by rw[hg];exact(Qi (by repeat(first|(with_reducible first|exact HB.out|apply Qg|apply Qd|apply Qf|refine Qa ?_ aa.out)|exact HB.out))):w.heap.size ≤ ι));have φ :=Aside0.mk ((by rw[hg];exact Nat.ne_of_lt (Qp (g:= τ) (o:=.cells #[.int .i64 J,.int .i64 B] 59 (0,0)) (by(with_reducible repeat first|apply Qb|apply Qe|apply Qc);exact ρ.out)): τ ≠ ι));have ω :=Aside0.mk ((by rw[hg];exact Nat.ne_of_gt (Qp (g:= τ) (o:=.cells #[.int .i64 J,.int .i64 B] 59 (0,0)) (by(with_reducible repeat first|apply Qb|apply Qe|apply Qc);exact ρ.out)): ι ≠ τ));clear ρ;clear HB;have ρ:=L;have HB:=O;have ε :=X;have a0:= δ;have ν := ξ;have b0:= φ;have b1:= ω;clear L O X δ ξ φ ω;clear hb hbox hg)|((with_reducible refine Qr (N:=5) rfl ?_);refine Qq ?hg (N:=5) ?hd (cs:=#[.int .i64 σ,.int .i64 a3,.int .i64 a4]) (t:=36) ?hr ?_;(case hd=>rfl);(case hg=>rfl);(case hr=>first|(go_simp;done)|(go_simp;rfl));intro ψ hg w8 hbox hb;have L:=Aside0.mk (Qh (g:= τ) (o:=.cells #[.int .i64 J,.int .i64 B] 59 (0,0)) (by(with_reducible repeat first|apply Qb|apply Qe|apply Qc);exact ρ.out) hb);have O:=Aside0.mk (Qh (g:= ι) (o:=.cells #[.slice μ Y.length η,.slice κ γ.length θ] 50 (0,0)) (by(with_reducible repeat first|apply Qb|apply Qe|apply Qc);exact ε.out) hb);have X:=Aside0.mk (Qj (by repeat(first|(with_reducible first|exact HB.out|apply Qg|apply Qd|apply Qf|refine Qa ?_ aa.out|refine Qa ?_ ν.out)|exact HB.out)) hb);have δ :=Aside0.mk (hbox);have ξ :=Aside0.mk ((by rw[hg];exact(Qi (by repeat(first|(with_reducible first|exact HB.out|apply Qg|apply Qd|apply Qf|refine Qa ?_ aa.out|refine Qa ?_ ν.out)|exact HB.out))):w.heap.size ≤ ψ));have φ :=Aside0.mk ((by rw[hg];exact(Qi (by repeat(first|(with_reducible first|exact HB.out|apply Qg|apply Qd|apply Qf|refine Qa ?_ aa.out|refine Qa ?_ ν.out)|exact HB.out))):w.heap.size ≤ ψ));have ω :=Aside0.mk ((by rw[hg];exact Nat.ne_of_lt (Qp (g:= τ) (o:=.cells #[.int .i64 J,.int .i64 B] 59 (0,0)) (by(with_reducible repeat first|apply Qb|apply Qe|apply Qc);exact ρ.out)): τ ≠ ψ));have a6:=Aside0.mk ((by rw[hg];exact Nat.ne_of_gt (Qp (g:= τ) (o:=.cells #[.int .i64 J,.int .i64 B] 59 (0,0)) (by(with_reducible repeat first|apply Qb|apply Qe|apply Qc);exact ρ.out)): ψ ≠ τ));have a7:=Aside0.mk ((by rw[hg];exact Nat.ne_of_lt (Qp (g:= ι) (o:=.cells #[.slice μ Y.length η,.slice κ γ.length θ] 50 (0,0)) (by(with_reducible repeat first|apply Qb|apply Qe|apply Qc);exact ε.out)): ι ≠ ψ));have ag:=Aside0.mk ((by rw[hg];exact Nat.ne_of_gt (Qp (g:= ι) (o:=.cells #[.slice μ Y.length η,.slice κ γ.length θ] 50 (0,0)) (by(with_reducible repeat first|apply Qb|apply Qe|apply Qc);exact ε.out)): ψ ≠ ι));clear ρ;clear ε;clear HB;have ρ:=L;have ε :=O;have HB:=X;have Z:= δ;have ck:= ξ;have ab:= φ;have b2:= ω;have b3:=a6;have b4:=a7;have b7:=ag;clear L O X δ ξ φ ω a6 a7 ag;clear hb hbox hg)|((with_reducible refine Qr (N:=6) rfl ?_);refine Qq ?hg (N:=6) ?hd (cs:=#[.slice none 0 0,.slice none 0 0]) (t:=50) ?hr ?_;(case hd=>rfl);(case hg=>rfl);(case hr=>first|(go_simp;done)|(go_simp;rfl));intro ζ hg w9 hbox hb;have L:=Aside0.mk (Qh (g:= τ) (o:=.cells #[.int .i64 J,.int .i64 B] 59 (0,0)) (by(with_reducible repeat first|apply Qb|apply Qe|apply Qc);exact ρ.out) hb);have O:=Aside0.mk (Qh (g:= ι) (o:=.cells #[.slice μ Y.length η,.slice κ γ.length θ] 50 (0,0)) (by(with_reducible repeat first|apply Qb|apply Qe|apply Qc);exact ε.out) hb);have X:=Aside0.mk (Qh (g:= ψ) (o:=.cells #[.int .i64 σ,.int .i64 a3,.int .i64 a4] 36 (0,0)) (by(with_reducible repeat first|apply Qb|apply Qe|apply Qc);exact Z.out) hb);have δ :=Aside0.mk (Qj (by repeat(first|(with_reducible first|exact HB.out|apply Qg|apply Qd|apply Qf|refine Qa ?_ aa.out|refine Qa ?_ ν.out|refine Qa ?_ ab.out)|exact HB.out)) hb);have ξ :=Aside0.mk (hbox);have φ :=Aside0.mk ((by rw[hg];exact(Qi (by repeat(first|(with_reducible first|exact HB.out|apply Qg|apply Qd|apply Qf|refine Qa ?_ aa.out|refine Qa ?_ ν.out|refine Qa ?_ ab.out)|exact HB.out))):w.heap.size ≤ ζ));have ω :=Aside0.mk ((by rw[hg];exact(Qi (by repeat(first|(with_reducible first|exact HB.out|apply Qg|apply Qd|apply Qf|refine Qa ?_ aa.out|refine Qa ?_ ν.out|refine Qa ?_ ab.out)|exact HB.out))):w.heap.size ≤ ζ));have a6:=Aside0.mk ((by rw[hg];exact Nat.ne_of_lt (Qp (g:= τ) (o:=.cells #[.int .i64 J,.int .i64 B] 59 (0,0)) (by(with_reducible repeat first|apply Qb|apply Qe|apply Qc);exact ρ.out)): τ ≠ ζ));have a7:=Aside0.mk ((by rw[hg];exact Nat.ne_of_gt (Qp (g:= τ) (o:=.cells #[.int .i64 J,.int .i64 B] 59 (0,0)) (by(with_reducible repeat first|apply Qb|apply Qe|apply Qc);exact ρ.out)): ζ ≠ τ));have ag:=Aside0.mk ((by rw[hg];exact Nat.ne_of_lt (Qp (g:= ι) (o:=.cells #[.slice μ Y.length η,.slice κ γ.length θ] 50 (0,0)) (by(with_reducible repeat first|apply Qb|apply Qe|apply Qc);exact ε.out)): ι ≠ ζ));have ah:=Aside0.mk ((by rw[hg];exact Nat.ne_of_gt (Qp (g:= ι) (o:=.cells #[.slice μ Y.length η,.slice κ γ.length θ] 50 (0,0)) (by(with_reducible repeat first|apply Qb|apply Qe|apply Qc);exact ε.out)): ζ ≠ ι));have ai:=Aside0.mk ((by rw[hg];exact Nat.ne_of_lt (Qp (g:= ψ) (o:=.cells #[.int .i64 σ,.int .i64 a3,.int .i64 a4] 36 (0,0)) (by(with_reducible repeat first|apply Qb|apply Qe|apply Qc);exact Z.out)): ψ ≠ ζ));have aj:=Aside0.mk ((by rw[hg];exact Nat.ne_of_gt (Qp (g:= ψ) (o:=.cells #[.int .i64 σ,.int .i64 a3,.int .i64 a4] 36 (0,0)) (by(with_reducible repeat first|apply Qb|apply Qe|apply Qc);exact Z.out)): ζ ≠ ψ));clear ρ;clear ε;clear Z;clear HB;have ρ:=L;have ε :=O;have Z:=X;have HB:= δ;have χ := ξ;have cm:= φ;have ac:= ω;have a5:=a6;have af:=a7;have a8:=ag;have ap:=ah;have a1:=ai;have au:=aj;clear L O X δ ξ φ ω a6 a7 ag ah ai aj;clear hb hbox hg))
 have L:=Aside0.mk (Qe ρ.out)
 have O:=Aside0.mk (Qe ε.out)
 have X:=Aside0.mk (Qe Z.out)
 have δ :=Aside0.mk (Qe χ.out)
 have ξ :=Aside0.mk (Qf HB.out)
 clear ρ
 clear ε
 clear Z
 clear χ
 clear HB
 have ρ:=L
 have ε :=O
 have Z:=X
 have χ := δ
 have HB:= ξ
 clear L O X δ ξ
 refine Zv (n:=19) (S:=fun w'=>w'.cell? ⟨τ,0,none⟩=some (.int .i64 J)∧w'.cell? ⟨τ,1,none⟩=some (.int .i64 B)∧w'.cell? ⟨ι,0,none⟩=some (.slice μ Y.length η)∧w'.cell? ⟨ι,1,none⟩=some (.slice κ γ.length θ)∧w'.cell? ⟨ψ,0,none⟩=some (.int .i64 σ)∧w'.cell? ⟨ψ,1,none⟩=some (.int .i64 a3)∧w'.cell? ⟨ψ,2,none⟩=some (.int .i64 a4)) (ds:=[]) #[false,false,false,false,false,false,false,false,false,false,false,false,false,false,false,false,false,false,false] kr rfl rfl ⟨(Qk ρ.out 0).trans rfl,(Qk ρ.out 1).trans rfl,(Qk ε.out 0).trans rfl,(Qk ε.out 1).trans rfl,(Qk Z.out 0).trans rfl,(Qk Z.out 1).trans rfl,(Qk Z.out 2).trans rfl⟩ (fun hHeld=>?_);refine Zf call_Give.Kq call_Give.Y9 (fun HT_ HW_=>?_)
 generalize w9.drew=ig at ρ ε Z χ HB hHeld ⊢
 refine qP 13 (some 21) (qB 19 8192) HT_ ?_
 refine qT 0 (some 8) (qB 19 8193) HT_ HW_ hHeld ?_
 refine qT 1 (some 9) (qB 19 8195) HT_ HW_ hHeld ?_
 refine qT 2 (some 10) (qB 19 8199) HT_ HW_ hHeld ?_
 refine qT 4 (some 12) (qB 19 8215) HT_ HW_ hHeld ?_
 refine qT 6 (some 14) (qB 19 8279) HT_ HW_ hHeld ?_
 refine qT 9 (some 17) (qB 19 8791) HT_ HW_ hHeld ?_
 refine qT 10 (some 18) (qB 19 9815) HT_ HW_ hHeld ?_
 refine Zn (i:=3) (N:=some 11) #[true,true,true,true,true,false,true,false,false,true,true,false,false,true,false,false,false,false,false] rfl rfl (Zc HT_.out kr) (by decide) (fun K hK=>?_)
 refine Zm Try.func65 kr rfl #[.agg #[.int .i64 J,.int .i64 B]] (by rfl) rfl rfl qM ?_
 refine(Jf J B _).mono ?_
 rintro e b8 ⟨av,rfl,hgp,hgw,hb⟩
 have az:=Aside0.mk hgp
 clear hgp hgw
 refine⟨_,rfl, ?_⟩
 have L:=Aside0.mk (Qh (g:= τ) (o:=.cells #[.int .i64 J,.int .i64 B] 59 (0,0)) (by(with_reducible repeat first|apply Qb|apply Qe|apply Qc);exact ρ.out) hb)
 have O:=Aside0.mk (Qh (g:= ι) (o:=.cells #[.slice μ Y.length η,.slice κ γ.length θ] 50 (0,0)) (by(with_reducible repeat first|apply Qb|apply Qe|apply Qc);exact ε.out) hb)
 have X:=Aside0.mk (Qh (g:= ψ) (o:=.cells #[.int .i64 σ,.int .i64 a3,.int .i64 a4] 36 (0,0)) (by(with_reducible repeat first|apply Qb|apply Qe|apply Qc);exact Z.out) hb)
 have δ :=Aside0.mk (Qh (g:= ζ) (o:=.cells #[.slice none 0 0,.slice none 0 0] 50 (0,0)) (by(with_reducible repeat first|apply Qb|apply Qe|apply Qc);exact χ.out) hb)
 have ξ :=Aside0.mk (Qj (by repeat(first|(with_reducible first|exact HB.out|apply Qg|apply Qd|apply Qf|refine Qa ?_ aa.out|refine Qa ?_ ν.out|refine Qa ?_ ab.out|refine Qa ?_ ac.out)|exact HB.out)) hb)
 clear ρ
 clear ε
 clear Z
 clear χ
 clear HB
 have ρ:=L
 have ε :=O
 have Z:=X
 have χ := δ
 have HB:= ξ
 clear L O X δ ξ
 (try clear hb)
 (try clear ak)
 (try clear hk)
 (try clear hi)
 refine hK.out _ _ ⟨qc ρ,qc ρ,qc ε,qc ε,qc Z,qc Z,qc Z⟩ (fun hHeld=>?_)
 clear hK K
 refine qN (some 11) ?_
 refine Zn (i:=5) (N:=some 13) #[true,true,true,true,true,true,true,false,false,true,true,false,false,true,false,false,false,false,false] rfl rfl (Zc HT_.out kr) (by decide) (fun K hK=>?_)
 refine X2 Try.func82 kr rfl #[] #[.pointer (some ⟨av,0,none⟩)] #[.agg #[.int .i64 σ,.int .i64 a3,.int .i64 a4]] #[.agg #[.int .i64 σ,.int .i64 a3,.int .i64 a4],.pointer (some ⟨av,0,none⟩)] rfl (by rfl) rfl rfl rfl (by(try simp only[List.map_toArray,List.map_cons,List.map_nil]);first|done|rfl|(simp only[List.length_drop,List.length_take];rfl)) ?_
 refine(Gb J B σ a3 a4 a2 _ (Option.some.inj A4.out) av az.out).mono ?_
 rintro e em ⟨rfl,hb⟩
 refine⟨_,rfl, ?_⟩
 have L:=Aside0.mk (Qh (g:= τ) (o:=.cells #[.int .i64 J,.int .i64 B] 59 (0,0)) (by(with_reducible repeat first|apply Qb|apply Qe|apply Qc);exact ρ.out) hb)
 have O:=Aside0.mk (Qh (g:= ι) (o:=.cells #[.slice μ Y.length η,.slice κ γ.length θ] 50 (0,0)) (by(with_reducible repeat first|apply Qb|apply Qe|apply Qc);exact ε.out) hb)
 have X:=Aside0.mk (Qh (g:= ψ) (o:=.cells #[.int .i64 σ,.int .i64 a3,.int .i64 a4] 36 (0,0)) (by(with_reducible repeat first|apply Qb|apply Qe|apply Qc);exact Z.out) hb)
 have δ :=Aside0.mk (Qh (g:= ζ) (o:=.cells #[.slice none 0 0,.slice none 0 0] 50 (0,0)) (by(with_reducible repeat first|apply Qb|apply Qe|apply Qc);exact χ.out) hb)
 have ξ :=Aside0.mk (Qj (by repeat(first|(with_reducible first|exact HB.out|apply Qg|apply Qd|apply Qf|refine Qa ?_ aa.out|refine Qa ?_ ν.out|refine Qa ?_ ab.out|refine Qa ?_ ac.out)|exact HB.out)) hb)
 clear ρ
 clear ε
 clear Z
 clear χ
 clear HB
 have ρ:=L
 have ε :=O
 have Z:=X
 have χ := δ
 have HB:= ξ
 clear L O X δ ξ
 (try clear hb)
 (try clear ak)
 (try clear hk)
 (try clear hi)
 refine hK.out _ _ ⟨qc ρ,qc ρ,qc ε,qc ε,qc Z,qc Z,qc Z⟩ (fun hHeld=>?_)
 clear hK K
 refine qN (some 13) ?_
 refine Zn (i:=7) (N:=some 15) #[true,true,true,true,true,true,true,true,false,true,true,false,false,true,false,false,false,false,false] rfl rfl (Zc HT_.out kr) (by decide) (fun K hK=>?_)
 refine Zm Try.func63 kr rfl #[.agg #[.slice μ Y.length η,.slice κ γ.length θ]] (by rfl) rfl rfl qM ?_
 refine(Ju μ κ Y.length γ.length η θ _).mono ?_
 rintro e b9 ⟨rfl,hb⟩
 refine⟨_,rfl, ?_⟩
 have L:=Aside0.mk (Qh (g:= τ) (o:=.cells #[.int .i64 J,.int .i64 B] 59 (0,0)) (by(with_reducible repeat first|apply Qb|apply Qe|apply Qc);exact ρ.out) hb)
 have O:=Aside0.mk (Qh (g:= ι) (o:=.cells #[.slice μ Y.length η,.slice κ γ.length θ] 50 (0,0)) (by(with_reducible repeat first|apply Qb|apply Qe|apply Qc);exact ε.out) hb)
 have X:=Aside0.mk (Qh (g:= ψ) (o:=.cells #[.int .i64 σ,.int .i64 a3,.int .i64 a4] 36 (0,0)) (by(with_reducible repeat first|apply Qb|apply Qe|apply Qc);exact Z.out) hb)
 have δ :=Aside0.mk (Qh (g:= ζ) (o:=.cells #[.slice none 0 0,.slice none 0 0] 50 (0,0)) (by(with_reducible repeat first|apply Qb|apply Qe|apply Qc);exact χ.out) hb)
 have ξ :=Aside0.mk (Qj (by repeat(first|(with_reducible first|exact HB.out|apply Qg|apply Qd|apply Qf|refine Qa ?_ aa.out|refine Qa ?_ ν.out|refine Qa ?_ ab.out|refine Qa ?_ ac.out)|exact HB.out)) hb)
 clear ρ
 clear ε
 clear Z
 clear χ
 clear HB
 have ρ:=L
 have ε :=O
 have Z:=X
 have χ := δ
 have HB:= ξ
 clear L O X δ ξ
 (try clear hb)
 (try clear ak)
 (try clear hk)
 (try clear hi)
 refine hK.out _ _ ⟨qc ρ,qc ρ,qc ε,qc ε,qc Z,qc Z,qc Z⟩ (fun hHeld=>?_)
 clear hK K
 refine qN (some 15) ?_
 refine qP 8 (some 16) (qB 19 10239) HT_ ?_
 refine Zn (i:=11) (N:=some 19) #[true,true,true,true,true,true,true,true,true,true,true,true,false,true,false,false,false,false,false] rfl rfl (Zc HT_.out kr) (by decide) (fun K hK=>?_)
 refine Zm Try.func66 kr rfl #[.agg #[.slice μ Y.length η,.slice κ γ.length θ]] (by rfl) rfl rfl qM ?_
 refine(K3 μ κ Y.length γ.length η θ _).mono ?_
 rintro e bd ⟨rfl,hb⟩
 refine⟨_,rfl, ?_⟩
 have L:=Aside0.mk (Qh (g:= τ) (o:=.cells #[.int .i64 J,.int .i64 B] 59 (0,0)) (by(with_reducible repeat first|apply Qb|apply Qe|apply Qc);exact ρ.out) hb)
 have O:=Aside0.mk (Qh (g:= ι) (o:=.cells #[.slice μ Y.length η,.slice κ γ.length θ] 50 (0,0)) (by(with_reducible repeat first|apply Qb|apply Qe|apply Qc);exact ε.out) hb)
 have X:=Aside0.mk (Qh (g:= ψ) (o:=.cells #[.int .i64 σ,.int .i64 a3,.int .i64 a4] 36 (0,0)) (by(with_reducible repeat first|apply Qb|apply Qe|apply Qc);exact Z.out) hb)
 have δ :=Aside0.mk (Qh (g:= ζ) (o:=.cells #[.slice none 0 0,.slice none 0 0] 50 (0,0)) (by(with_reducible repeat first|apply Qb|apply Qe|apply Qc);exact χ.out) hb)
 have ξ :=Aside0.mk (Qj (by repeat(first|(with_reducible first|exact HB.out|apply Qg|apply Qd|apply Qf|refine Qa ?_ aa.out|refine Qa ?_ ν.out|refine Qa ?_ ab.out|refine Qa ?_ ac.out)|exact HB.out)) hb)
 clear ρ
 clear ε
 clear Z
 clear χ
 clear HB
 have ρ:=L
 have ε :=O
 have Z:=X
 have χ := δ
 have HB:= ξ
 clear L O X δ ξ
 (try clear hb)
 (try clear ak)
 (try clear hk)
 (try clear hi)
 refine hK.out _ _ ⟨qc ρ,qc ρ,qc ε,qc ε,qc Z,qc Z,qc Z⟩ (fun hHeld=>?_)
 clear hK K
 refine qN (some 19) ?_
 refine qP 12 (some 20) (qB 19 16383) HT_ ?_
 refine Zn (i:=14) (N:=some 22) #[true,true,true,true,true,true,true,true,true,true,true,true,true,true,true,false,false,false,false] rfl rfl (Zc HT_.out kr) (by decide) (fun K hK=>?_)
 refine Zm Try.func73 kr rfl #[.agg #[.int .i64 J,.int .i64 B],.agg #[.slice μ Y.length η,.slice κ γ.length θ],.bool a2,.func (.func 74) #[.agg #[.slice μ Y.length η,.func (.func 79) #[] #[]]] #[],.agg #[.int .i64 σ,.int .i64 a3,.int .i64 a4],.func (.func 75) #[.agg #[.slice κ γ.length θ,.func (.func 83) #[] #[]]] #[],.agg #[.int .i64 (-2),.int .i64 0]] (by rfl) rfl rfl (by(try simp only[List.map_toArray,List.map_cons,List.map_nil]);first|done|rfl|(simp only[List.length_drop,List.length_take];rfl)) ?_
 refine(call_change.calls _ _ k J B μ η Y κ θ γ a2 0 σ a3 a4 0 (-2) 0 ar ae al _ ?side1 ?side2 ?side3 ?side4 A5.out 74 Try.f74 (.agg #[.slice μ Y.length η,.func (.func 79) #[] #[]]) Try.func74 kr rfl (fun W t ht hb=>Vb μ η Y _ _ _ t W (Kd.Q0 (Kd.Q0 be.out (by repeat(first|(with_reducible first|exact HB.out|apply Qg|apply Qd|apply Qf)|exact HB.out|(refine Qa ?_ (Aside0.out (by assumption)))))) hb) bz.out ht) 75 Try.f75 (.agg #[.slice κ γ.length θ,.func (.func 83) #[] #[]]) Try.func75 kr rfl (fun W t ht hb=>Vy κ θ γ _ _ t W (Kd.Q0 (Kd.Q0 bf.out (by repeat(first|(with_reducible first|exact HB.out|apply Qg|apply Qd|apply Qf)|exact HB.out|(refine Qa ?_ (Aside0.out (by assumption)))))) hb) ca.out ht)).mono ?_
 (case side1=>repeat(first|exact(Kd.Q0 be.out HB.out)|(with_reducible refine Kd.Q3 ?_ _)|(with_reducible refine Kd.Q2 ?_ _)|(with_reducible refine Kd.Q9 ?_)))
 (case side2=>exact bz.out)
 (case side3=>repeat(first|exact(Kd.Q0 bf.out HB.out)|(with_reducible refine Kd.Q3 ?_ _)|(with_reducible refine Kd.Q2 ?_ _)|(with_reducible refine Kd.Q9 ?_)))
 (case side4=>exact ca.out)
 rintro e fb ⟨d2,cp,rfl,bb,ci,hb⟩
 refine⟨_,rfl, ?_⟩
 have L:=Aside0.mk (Kd.Zg (Kd.J0 bb (g:= ψ) (o:=.cells #[.int .i64 σ,.int .i64 a3,.int .i64 a4] 36 (0,0)) (by(with_reducible repeat first|apply Qb|apply Qe|apply Qc);exact Z.out)) (Qi (by repeat(first|(with_reducible first|exact HB.out|apply Qg|apply Qd|apply Qf|refine Qa ?_ aa.out|refine Qa ?_ ν.out|refine Qa ?_ ab.out|refine Qa ?_ ac.out)|exact HB.out))))
 have O:=Aside0.mk (Kd.Zg ci (Qi (by repeat(first|(with_reducible first|exact HB.out|apply Qg|apply Qd|apply Qf|refine Qa ?_ aa.out|refine Qa ?_ ν.out|refine Qa ?_ ab.out|refine Qa ?_ ac.out)|exact HB.out))))
 have X:=Aside0.mk (Qh (g:= τ) (o:=.cells #[.int .i64 J,.int .i64 B] 59 (0,0)) (by(with_reducible repeat first|apply Qb|apply Qe|apply Qc);exact ρ.out) hb)
 have δ :=Aside0.mk (Qh (g:= ι) (o:=.cells #[.slice μ Y.length η,.slice κ γ.length θ] 50 (0,0)) (by(with_reducible repeat first|apply Qb|apply Qe|apply Qc);exact ε.out) hb)
 have ξ :=Aside0.mk (Qh (g:= ψ) (o:=.cells #[.int .i64 σ,.int .i64 a3,.int .i64 a4] 36 (0,0)) (by(with_reducible repeat first|apply Qb|apply Qe|apply Qc);exact Z.out) hb)
 have φ :=Aside0.mk (Qh (g:= ζ) (o:=.cells #[.slice none 0 0,.slice none 0 0] 50 (0,0)) (by(with_reducible repeat first|apply Qb|apply Qe|apply Qc);exact χ.out) hb)
 have ω :=Aside0.mk (Qj (by repeat(first|(with_reducible first|exact HB.out|apply Qg|apply Qd|apply Qf|refine Qa ?_ aa.out|refine Qa ?_ ν.out|refine Qa ?_ ab.out|refine Qa ?_ ac.out)|exact HB.out)) hb)
 clear ρ
 clear ε
 clear Z
 clear χ
 clear HB
 have bl:=L
 have am:=O
 have ρ:=X
 have ε := δ
 have Z:= ξ
 have χ := φ
 have HB:= ω
 clear L O X δ ξ φ ω
 (try clear hb)
 (try clear ak)
 (try clear hk)
 (try clear hi)
 (try clear bb)
 (try clear ci)
 obtain⟨ao,an,ba⟩:=Kd.Ze bl.out
 (first|subst ba|(injection ba with b5 bo b6;have bp:=b5.symm;have bq:=b6.symm;clear b5 bo b6;subst bp;subst bq))
 obtain⟨aw,ax,ay⟩:=Kd.Ze am.out
 (first|subst ay|(injection ay with b5 bo b6;have bp:=b5.symm;have bq:=b6.symm;clear b5 bo b6;subst bp;subst bq))
 refine hK.out _ _ ⟨qc ρ,qc ρ,qc ε,qc ε,qc Z,qc Z,qc Z⟩ (fun hHeld=>?_)
 clear hK K
 refine qN (some 22) ?_
 refine qP 15 (some 23) (qB 19 65535) HT_ ?_
 refine qP 16 (some 24) (qB 19 131071) HT_ ?_
 refine Zn (i:=17) (N:=none) #[true,true,true,true,true,true,true,true,true,true,true,true,true,true,true,true,true,true,false] rfl rfl (Zc HT_.out kr) (by decide) (fun K hK=>?_)
 have cq:fb.cell? ⟨ζ,0,none⟩=some (.slice none 0 0):=(Qk χ.out 0).trans rfl
 have cn:=Qz χ.out 0
 have bc:=a5.out
 have bg:=a8.out
 have bh:=a1.out
 have bi:=af.out
 have bj:=ap.out
 have bs:=au.out
 have cr:fb.cell? ⟨ζ,1,none⟩=some (.slice none 0 0):=(Qk χ.out 1).trans rfl
 have co:=Qz χ.out 1
 have cb:=a5.out
 have cd:=a8.out
 have cf:=a1.out
 have cg:=af.out
 have ch:=ap.out
 have cj:=au.out
 refine V2 (w1:=?_) (by rfl) rfl ?_ ?_
 rotate_left
 ·go_simp
  rfl
 refine hK.out _ _ ⟨((cell_far (p:=⟨ζ,_,none⟩) a5.out _).trans (((cell_far (p:=⟨ζ,_,none⟩) a5.out _).trans (hHeld.1)))),((cell_far (p:=⟨ζ,_,none⟩) a5.out _).trans (((cell_far (p:=⟨ζ,_,none⟩) a5.out _).trans (hHeld.2.1)))),((cell_far (p:=⟨ζ,_,none⟩) a8.out _).trans (((cell_far (p:=⟨ζ,_,none⟩) a8.out _).trans (hHeld.2.2.1)))),((cell_far (p:=⟨ζ,_,none⟩) a8.out _).trans (((cell_far (p:=⟨ζ,_,none⟩) a8.out _).trans (hHeld.2.2.2.1)))),((cell_far (p:=⟨ζ,_,none⟩) a1.out _).trans (((cell_far (p:=⟨ζ,_,none⟩) a1.out _).trans (hHeld.2.2.2.2.1)))),((cell_far (p:=⟨ζ,_,none⟩) a1.out _).trans (((cell_far (p:=⟨ζ,_,none⟩) a1.out _).trans (hHeld.2.2.2.2.2.1)))),((cell_far (p:=⟨ζ,_,none⟩) a1.out _).trans (((cell_far (p:=⟨ζ,_,none⟩) a1.out _).trans (hHeld.2.2.2.2.2.2))))⟩ (fun hHeld=>?_)
 clear hK K
 refine qP 18 (some 7) (qB 19 524287) HT_ ?_
 refine Xd (Zu HT_.out kr) ?_
 try go_wp2
 refine bodyPost_ret (Xb rfl _ _ ζ 50 #[.slice ao ar.length an,.slice aw ae.length ax] (0,0) _ rfl (by(with_reducible repeat first|apply Qb|apply Qe|apply Qc);refine Qu (cs:=#[.slice ao ar.length an,.slice none 0 0]) ?_ 1 _ rfl;(with_reducible repeat first|apply Qb|apply Qe|apply Qc);refine Qu (cs:=#[.slice none 0 0,.slice none 0 0]) ?_ 0 _ rfl;(with_reducible repeat first|apply Qb|apply Qe|apply Qc);exact χ.out) Try.underlying50 rfl kr) rfl ?_
 exact⟨_,_,by first|rfl|(simp[Qo,Qn] <;> rfl)|(simp[*,Qo,Qn] <;> rfl),by(with_reducible repeat first|apply Kd.Qx|apply Kd.Qw|apply Kd.Qy);exact Kd.Q5 (Kd.Q1 (p:=⟨ζ,1,none⟩) (Kd.Q1 (p:=⟨ζ,0,none⟩) (Kd.Zd bl.out χ.out (by decide)) (fun _ hk=>hk.2) (.slice ao ar.length an)) (fun _ hk=>hk.2) (.slice aw ae.length ax)) (fun _ hk=>trivial),by(with_reducible repeat first|apply Kd.Qx|apply Kd.Qw|apply Kd.Qy);exact Kd.Q5 (Kd.Q1 (p:=⟨ζ,1,none⟩) (Kd.Q1 (p:=⟨ζ,0,none⟩) (Kd.Zd am.out χ.out (by decide)) (fun _ hk=>hk.2) (.slice ao ar.length an)) (fun _ hk=>hk.2) (.slice aw ae.length ax)) (fun _ hk=>trivial),by repeat(first|(with_reducible first|exact HB.out|apply Qg|apply Qd|apply Qf|refine Qa ?_ aa.out|refine Qa ?_ ν.out|refine Qa ?_ ab.out|refine Qa ?_ ac.out)|exact HB.out)⟩
end Go.Proofs.Ytmfffemidlhcpaa.C
namespace Go.Proofs.Ytmfffemidlhcpaa.Call
open Go.RowKit Go.Proofs.YtmfffemidlhcpaaW.PrintWords Go.Proofs.YtmfffemidlhcpaaW.PrintLast Go.Proofs.YtmfffemidlhcpaaW.PrintMore Go.Proofs.Ytmfffemidlhcpaa.C
set_option linter.unusedVariables false
set_option linter.unusedSimpArgs false
abbrev Hall:=S36
abbrev Ins:=S86
def i64 (x:Int):Prop:= -9223372036854775808≤x∧x≤9223372036854775807
theorem Xh (a lo hi:Int):call_within.f a lo hi=some (decide (lo≤a∧a≤hi)):=by
  unfold call_within.f
  by_cases h:lo≤a <;> simp[h]
def okB (F C:Int) (H:List Hall) (I:List Ins):Bool:=decide (2≤F∧F≤64)&&(decide (1≤C∧C≤8)&&(Zo (fun x=>Xo F C x.f0 x.f1 x.f2) ltH none H&&Zo (fun x=>Jw F C x.f0 x.f1) ltI none I))
theorem J5 {n:Nat} {C:Int} (h:n<1000000000) (hC:i64 C):small n C=true:=decide_eq_true ⟨h,hC.1,hC.2⟩
theorem Yj (k:Nat) (F C:Int) (H:List Hall) (I:List Ins) (hH:H.length<900000000) (hI:I.length<900000000) (hC:i64 C):call_Check.f (k+1) F C H I=some (if okB F C H I=true then 0 else 190):=by
  unfold call_Check.f rightP_H.f rightP_I.f okB
  rw[Xh,Xh,if_pos (J5 (by omega) hC),if_pos (J5 (by omega) hC)]
  simp only[Option.bind_some]
  cases decide (2≤F∧F≤64) <;> cases decide (1≤C∧C≤8) <;> cases Zo (fun x:Hall=>Xo F C x.f0 x.f1 x.f2) ltH none H <;> cases Zo (fun x:Ins=>Jw F C x.f0 x.f1) ltI none I <;> simp[call_Check.j0]
theorem Li (U:Option (List Hall)) (V:Option (List Ins)) (k:Nat) (F C:Int) (H:List Hall) (I:List Ins) (is:Bool) (a3 B J L a5 O X:Int) (hH:H.length<900000000) (hI:I.length<900000000) (hC:i64 C):
    call_change.f U V (k+1) F C H I is a3 B J L a5 O X=if okB F C H I=true then (if is=true then U.bind fun a=>V.bind fun b=>some (a,b,0) else some ([],[],191)) else some ([],[],190):=by
  unfold call_change.f
  rw[Yj k F C H I hH hI hC]
  cases okB F C H I <;> simp
theorem K7 {F C:Int} {H:List Hall} {I:List Ins}:okB F C H I=true↔((2≤F∧F≤64)∧(1≤C∧C≤8)∧((∀ x ∈ H,Xo F C x.f0 x.f1 x.f2=true)∧H.Pairwise (fun x y=>ltH x y=true))∧((∀ x ∈ I,Jw F C x.f0 x.f1=true)∧I.Pairwise (fun x y=>ltI x y=true))):=by
  unfold okB
  simp only[Bool.and_eq_true,decide_eq_true_eq]
  rw[Jd,V8]
theorem U6 (x:Int) (h:1≤x∧x≤64):wrap64 (x-1)=x-1:=by unfold wrap64;omega
theorem L6 {F C:Int} {B J X:Int} (hF:2≤F∧F≤64) (hC:1≤C∧C≤8):Xo F C B J X=true↔((J=1∨J = -1)∧(0≤B∧B≤F-1)∧(0≤B+J∧B+J≤F-1)∧(-1≤X∧X≤C-1)):=by
  unfold Xo
  rw[decide_eq_true_eq,U6 F (by omega),U6 C (by omega)]
  constructor
  · rintro⟨h1,L,Z,Y⟩
    rw[show wrap64 (B+J)=B+J from by unfold wrap64;omega] at Z
    exact⟨h1,L,Z,Y⟩
  · rintro⟨h1,L,Z,Y⟩
    rw[show wrap64 (B+J)=B+J from by unfold wrap64;omega]
    exact⟨h1,L,Z,Y⟩
theorem M5 {F C:Int} {B J:Int} (hF:2≤F∧F≤64) (hC:1≤C∧C≤8):Jw F C B J=true↔((0≤B∧B≤C-1)∧(0≤J∧J≤F-1)):=by
  unfold Jw
  rw[decide_eq_true_eq,U6 F (by omega),U6 C (by omega)]
theorem V6 {F C:Int} {H:List Hall} {I:List Ins} (h:okB F C H I=true):Zo (fun _=>true) ltH none H=true:=(Jd _ _).2 ⟨fun _ _=>rfl,(K7.1 h).2.2.1.2⟩
theorem Lo {F C:Int} {H:List Hall} {I:List Ins} (h:okB F C H I=true) (B J:Int) (hx:B<0):woI B J I=I:=by
  obtain⟨hF,hC,_,h1,_⟩:=K7.1 h
  unfold woI
  rw[List.filter_eq_self]
  intro y hy
  have:=(M5 hF hC).1 (h1 y hy)
  have hne:¬ X5 B J y.f0 y.f1=0:=by rw[Kt];omega
  simp[hne]
def Ui (F C:Int) (H:List Hall) (I:List Ins) (fl dir car:Int):List Hall×List Ins×Int:=
  if okB F C H I=true then (if Xo F C fl dir car=true then (Va ⟨fl,dir,car⟩ H,I,0) else ([],[],191)) else ([],[],190)
theorem Na (k:Nat) (F C:Int) (H:List Hall) (I:List Ins) (fl dir car:Int) (hH:H.length<900000000) (hI:I.length<900000000) (hC:i64 C) (hd:i64 dir):
    call_Give.f (k+1) F C H I fl dir car=some (Ui F C H I fl dir car):=by
  unfold call_Give.f hallP.f Ui
  rw[Option.bind_some,Li _ _ k F C H I _ _ _ _ _ _ _ _ hH hI hC]
  cases hok:okB F C H I
  · rfl
  · cases hb:Xo F C fl dir car
    · rfl
    · simp only[eq_self,if_true]
      unfold setP_H.f woP_I.f
      rw[if_pos ⟨J5 (by omega) hd,V6 hok⟩,if_pos (J5 (by omega) (by unfold i64;omega)),Lo hok _ _ (by omega)]
      rfl
end Go.Proofs.Ytmfffemidlhcpaa.Call
