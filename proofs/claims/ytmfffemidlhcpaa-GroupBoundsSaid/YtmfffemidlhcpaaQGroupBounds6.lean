/- Texts of this claim, one behind the other: what the law's functions come to, walked (printed by a program, with the words that the print uses), and what that is, in plain Lean. No conditions of their own. -/
import Derived.Test.YtmfffemidlhcpaaQGroupBounds5
import Derived.WalkSpells
namespace Go.Proofs.Ytmfffemidlhcpaa.C
open Go.RowKit Go.Proofs.YtmfffemidlhcpaaW.PrintWords Go.Proofs.YtmfffemidlhcpaaW.PrintLast Go.Proofs.YtmfffemidlhcpaaW.PrintMore
attribute [local go_sem] Zx Zv Z8 Z7 Zl Zk Zw Zu
set_option linter.unusedVariables false
set_option linter.unusedSimpArgs false
def api_Hall_88.f (l0:List S36):Option (List S36):=if l0.length<1000000000 then some l0 else none
set_option maxRecDepth 100000 in
set_option maxHeartbeats 1000000 in
theorem api_Hall_88.calls (A0:Option Addr) (c0:Nat) (l0:List S36) (r:List S36) (w:World) (μ :Kd.C k36 w A0 l0.length l0) (γ:l0.length≤c0) (h:api_Hall_88.f l0=some r):
    Calls Try.prog 88 #[.slice A0 l0.length c0] w fun e w'=>∃ ba:Value,e = .returned ba∧Kd.R k36 36 w' w.heap.size (fun _=>True) ba r∧Below w.heap.size w w':=by
  unfold api_Hall_88.f at h
  split at h
  case isFalse=>cases h
  case isTrue hl=>
  cases h
  have HR:=Aside0.mk μ
  have HC:=Aside0.mk γ
  have HL:=Aside0.mk hl
  have HB:=Aside0.mk (Below.refl w.heap.size w)
  have hn:A0=none→l0 = []:=by
    intro hA
    rcases Nat.eq_zero_or_pos l0.length with h|h
    · exact List.eq_nil_of_length_eq_zero h
    · obtain⟨ad,e,_⟩:= μ.2.2 h
      rw[hA] at e
      cases e
  clear μ γ hl
  have hEq:∀ (W:World),(binOp .eql 47 (.slice A0 l0.length c0) (.slice none 0 0)).run Try.prog W = .ok (.bool A0.isNone) W:=fun W=>Lib.run_eql_slice_nil W _ _ _ _ _ _ _ Try.underlying47
  rcases A0 with _|ad
  · have B:=Aside0.mk (hn rfl)
    clear hn
    go_enter Try.func88,Try.ntmps88
    go_wp2
    go_ret
    rw[B.out]
    exact⟨_,rfl,Kd.Xs _ _ _ _ _,HB.out⟩
  · clear hn
    go_enter Try.func88,Try.ntmps88
    go_wp2_with (first|((with_reducible refine Qe (N:=5) rfl ?_);refine Kd.G6 k36 _ 36 ?hg (N:=5) ?hd (xs:=([]:List S36)) (inner:=[]) (ok:=fun _=>True) (okp:=fun _=>True) ?hr ?hp (fun _ hk=>hk) trivial (Below.refl _ _) (Nat.le_refl _) (by simp) ?_;(case hd=>rfl);(case hg=>rfl);(case hr=>first|(go_simp;done)|(go_simp;rfl));(case hp=>exact(Reps.none _ _));intro v1 w1 b3 J hg_ hnew_;clear hg_ hnew_;have HO:=Aside0.mk b3;have L:=Aside0.mk J;clear b3 J)|((with_reducible refine Xm (b:=.append) (xs:=#[.tmp 5,.tmp 6]) rfl ?_);at_builtin;refine Kd.Jq k36 (w0:=w) w.heap.size rfl (.tmp 5) (.tmp 6) 47 36 (.agg #[(.int .i64 0),(.int .i64 0),(.int .i64 0)]) 24 rfl Try.underlying47 Ga rfl (by decide) (by omega) v1 [] l0 _ _ _ (fun _=>True) (fun _=>False) rfl rfl ?aO ?aR (fun _ _ h=>h) (fun _ h=>h.elim) ?aF ?aB ?aS ?aL ?_;(case aR=>exact(Kd.Qt HR.out L.out));(case aB=>exact L.out);(case aF=>exact(fun _ _=>trivial));(case aO=>exact HO.out);(case aS=>exact Qr L.out);(case aL=>have:=HL.out;simp only[List.length_nil];omega);intro v2 w2 ho hb hg hat;clear hg hat))
    go_ret
    exact⟨_,rfl,by simpa using ho,hb⟩
def api_Inside_91.f (l0:List S86):Option (List S86):=if l0.length<1000000000 then some l0 else none
set_option maxRecDepth 100000 in
set_option maxHeartbeats 1000000 in
theorem api_Inside_91.calls (A0:Option Addr) (c0:Nat) (l0:List S86) (r:List S86) (w:World) (μ :Kd.C k86 w A0 l0.length l0) (γ:l0.length≤c0) (h:api_Inside_91.f l0=some r):
    Calls Try.prog 91 #[.slice A0 l0.length c0] w fun e w'=>∃ ba:Value,e = .returned ba∧Kd.R k86 86 w' w.heap.size (fun _=>True) ba r∧Below w.heap.size w w':=by
  unfold api_Inside_91.f at h
  split at h
  case isFalse=>cases h
  case isTrue hl=>
  cases h
  have HR:=Aside0.mk μ
  have HC:=Aside0.mk γ
  have HL:=Aside0.mk hl
  have HB:=Aside0.mk (Below.refl w.heap.size w)
  have hn:A0=none→l0 = []:=by
    intro hA
    rcases Nat.eq_zero_or_pos l0.length with h|h
    · exact List.eq_nil_of_length_eq_zero h
    · obtain⟨ad,e,_⟩:= μ.2.2 h
      rw[hA] at e
      cases e
  clear μ γ hl
  have hEq:∀ (W:World),(binOp .eql 48 (.slice A0 l0.length c0) (.slice none 0 0)).run Try.prog W = .ok (.bool A0.isNone) W:=fun W=>Lib.run_eql_slice_nil W _ _ _ _ _ _ _ Try.underlying48
  rcases A0 with _|ad
  · have B:=Aside0.mk (hn rfl)
    clear hn
    go_enter Try.func91,Try.ntmps91
    go_wp2
    go_ret
    rw[B.out]
    exact⟨_,rfl,Kd.Xs _ _ _ _ _,HB.out⟩
  · clear hn
    go_enter Try.func91,Try.ntmps91
    go_wp2_with (first|((with_reducible refine Qe (N:=5) rfl ?_);refine Kd.G6 k86 _ 86 ?hg (N:=5) ?hd (xs:=([]:List S86)) (inner:=[]) (ok:=fun _=>True) (okp:=fun _=>True) ?hr ?hp (fun _ hk=>hk) trivial (Below.refl _ _) (Nat.le_refl _) (by simp) ?_;(case hd=>rfl);(case hg=>rfl);(case hr=>first|(go_simp;done)|(go_simp;rfl));(case hp=>exact(Reps.none _ _));intro v1 w1 b3 J hg_ hnew_;clear hg_ hnew_;have HO:=Aside0.mk b3;have L:=Aside0.mk J;clear b3 J)|((with_reducible refine Xm (b:=.append) (xs:=#[.tmp 5,.tmp 6]) rfl ?_);at_builtin;refine Kd.Jq k86 (w0:=w) w.heap.size rfl (.tmp 5) (.tmp 6) 48 86 (.agg #[(.int .i64 0),(.int .i64 0)]) 16 rfl Try.underlying48 K9 rfl (by decide) (by omega) v1 [] l0 _ _ _ (fun _=>True) (fun _=>False) rfl rfl ?aO ?aR (fun _ _ h=>h) (fun _ h=>h.elim) ?aF ?aB ?aS ?aL ?_;(case aR=>exact(Kd.Qt HR.out L.out));(case aB=>exact L.out);(case aF=>exact(fun _ _=>trivial));(case aO=>exact HO.out);(case aS=>exact Qr L.out);(case aL=>have:=HL.out;simp only[List.length_nil];omega);intro v2 w2 ho hb hg hat;clear hg hat))
    go_ret
    exact⟨_,rfl,by simpa using ho,hb⟩
def woI (B J:Int) (l:List S86):List S86:=l.filter (fun y=> !(X2 B J y.f0 y.f1==0))
set_option maxRecDepth 100000 in
set_option maxHeartbeats 2000000 in
theorem G8 (A:Option Addr) (c:Nat) (l:List S86) (B J:Int) (w:World) (hr:Kd.C k86 w A l.length l) (hc:l.length≤c) (hl:l.length<1000000000) (ax: -9223372036854775808≤J∧J≤9223372036854775807):
    Calls Try.prog 75 #[.agg #[.slice A l.length c,.func (.func 83) #[] #[]],.agg #[.int .i64 B,.int .i64 J]] w fun e w'=>∃ ba:Value,e = .returned ba∧Kd.R k86 86 w' w.heap.size (fun _=>True) ba (woI B J l)∧Below w.heap.size w w':=by
  have HR:=Aside0.mk hr
  have HC:=Aside0.mk hc
  have HF:=Aside0.mk (show api_Inside_91.f l=some l by unfold api_Inside_91.f;rw[if_pos hl])
  have HB:=Aside0.mk (Below.refl w.heap.size w)
  have HD:=Aside0.mk (show api_Inside_90.f (l.length+6) l (tok B J)=some (woI B J l) by
    rw[Call.Nc l (tok B J) (by omega) _ (by omega)]
    show some (l.filter (fun y=> !(X2 (X7 (tok B J)) (X6 (tok B J)) y.f0 y.f1==0)))=_
    rw[J3 B J ax,J2 B J ax]
    rfl)
  have T1:=Aside0.mk (J3 B J ax)
  have T2:=Aside0.mk (J2 B J ax)
  clear hr hc hl ax
  go_enter Try.func75,Try.ntmps75
  go_wp2_with (first|((with_reducible refine Qe (N:=2) rfl ?_);refine Zg ?hg (N:=2) ?hd (cs:=#[.slice A l.length c,.func (.func 83) #[] #[]]) (t:=116) ?hr ?_;(case hd=>rfl);(case hg=>rfl);(case hr=>first|(go_simp;done)|(go_simp;rfl));intro g2 hg_ w2 hbox hb;have ξ :=Aside0.mk (Qx HB.out hb);have φ :=Aside0.mk hbox;clear HB;have HB:= ξ;have L:= φ;clear ξ φ;clear hb hbox hg_)|((with_reducible refine Qe (N:=3) rfl ?_);refine Zg ?hg (N:=3) ?hd (cs:=#[.int .i64 B,.int .i64 J]) (t:=86) ?hr ?_;(case hd=>rfl);(case hg=>rfl);(case hr=>first|(go_simp;done)|(go_simp;rfl));intro g3 hg_ w3 hbox hb;have X:=Aside0.mk (Qs (g:=g2) (o:=.cells #[.slice A l.length c,.func (.func 83) #[] #[]] 116 (0,0)) L.out hb);have ξ :=Aside0.mk (Qx HB.out hb);have φ :=Aside0.mk hbox;clear HB L;have HB:= ξ;have O:= φ;have L:=X;clear ξ φ X;clear hb hbox hg_;have γ:w3.cell? ⟨g2,0,none⟩=some (.slice A l.length c):=(Qa L.out 0).trans rfl;have δ :w3.cell? ⟨g2,1,none⟩=some (.func (.func 83) #[] #[]):=(Qa L.out 1).trans rfl)|(go_at_call 91;((with_reducible refine(api_Inside_91.calls A c l l _ ?side1 ?side2 HF.out).mono ?_);(case side1=>exact Kd.Qt HR.out HB.out);(case side2=>exact HC.out);rintro e w4 ⟨v4,rfl,ai,hb⟩;have ε :=Aside0.mk (Nat.not_le.2 (Xd L.out));have ζ :=Aside0.mk (Nat.not_le.2 (Xd O.out));have X:=Aside0.mk (Kd.Q9 (Kd.Qz (Kd.Xn ai) (fun k_ hk=>hk.2.1)) HB.out.size);have Y:=Aside0.mk (Qs (g:=g2) (o:=.cells #[.slice A l.length c,.func (.func 83) #[] #[]] 116 (0,0)) L.out hb);have Z:=Aside0.mk (Qs (g:=g3) (o:=.cells #[.int .i64 B,.int .i64 J] 86 (0,0)) O.out hb);have ξ :=Aside0.mk (Qx HB.out hb);clear HB L O;have HB:= ξ;have L:=Y;have O:=Z;have HO:=X;clear ξ X Y Z hb ai))|(go_at_call 90;((with_reducible refine(api_Inside_90.calls (l.length+6) _ v4 l (tok B J) _ w w4 HB.out HO.out HD.out A l.length c g2 g3 0 L.out ?hx ε.out ζ.out).mono ?_);(case hx=>rw[T1.out,T2.out];exact O.out);rintro e w5 ⟨v5,rfl,ai,hb,hk⟩;have η :=Aside0.mk ai;have θ :=Aside0.mk hb;clear ai hb hk)))
  go_ret
  exact⟨_,rfl,Kd.Qz η.out (fun _ _=>trivial),θ.out⟩
set_option maxRecDepth 100000 in
set_option maxHeartbeats 1000000 in
theorem Jt (A0 A1:Option Addr) (J O c0 c1:Nat) (w:World):
    Calls Try.prog 63 #[.agg #[.slice A0 J c0,.slice A1 O c1]] w fun e w'=>e = .returned (.agg #[.slice A0 J c0,.func (.func 79) #[] #[]])∧Below w.heap.size w w':=by
  have HB:=Aside0.mk (Below.refl w.heap.size w)
  go_enter Try.func63,Try.ntmps63
  go_wp2_with (first|((with_reducible refine Qe (N:=1) rfl ?_);refine Zg ?hg (N:=1) ?hd (cs:=#[.slice A0 J c0,.slice A1 O c1]) (t:=50) ?hr ?_;(case hd=>rfl);(case hg=>rfl);(case hr=>first|(go_simp;done)|(go_simp;rfl));intro Z hg_ w1 hbox hb;have ξ :=Aside0.mk (Qx HB.out hb);have φ :=Aside0.mk hbox;clear HB;have HB:= ξ;have B:= φ;clear ξ φ;clear hb hbox hg_)|((with_reducible refine Qe (N:=2) rfl ?_);refine Zg ?hg (N:=2) ?hd (cs:=#[.slice none 0 0,.nilFunc]) (t:=109) ?hr ?_;(case hd=>rfl);(case hg=>rfl);(case hr=>first|(go_simp;done)|(go_simp;rfl));intro g2 hg_ w2 hbox hb;have GEs:=Aside0.mk HB.out.size;have GEl:=Aside0.mk (Xd B.out);have X:=Aside0.mk (Qs (g:=Z) (o:=.cells #[.slice A0 J c0,.slice A1 O c1] 50 (0,0)) B.out hb);have ξ :=Aside0.mk (Qx HB.out hb);have φ :=Aside0.mk hbox;clear HB B;have HB:= ξ;have L:= φ;have B:=X;clear ξ φ X;have Y:=Aside0.mk (by rw[hg_];exact GEs.out:w.heap.size≤g2);have NB:=Aside0.mk (by rw[hg_];exact Nat.ne_of_lt GEl.out:Z≠g2);clear hb hbox hg_;have hnb:=NB.out;have γ:w2.cell? ⟨Z,0,none⟩=some (.slice A0 J c0):=(Qa B.out 0).trans rfl;have δ :w2.cell? ⟨Z,1,none⟩=some (.slice A1 O c1):=(Qa B.out 1).trans rfl;have ε :w2.cell? ⟨g2,0,none⟩=some (.slice none 0 0):=(Qa L.out 0).trans rfl;have ζ :w2.cell? ⟨g2,1,none⟩=some (.nilFunc):=(Qa L.out 1).trans rfl;have η :=Qq L.out 0;have θ :=Qq L.out 1))
  refine bodyPost_ret (results_cell_row rfl _ _ g2 109 #[.slice A0 J c0,.func (.func 79) #[] #[]] (0,0) _ rfl (by refine Qm (cs:=#[.slice A0 J c0,.nilFunc]) ?_ 1 _ rfl;refine Qm (cs:=#[.slice none 0 0,.nilFunc]) ?_ 0 _ rfl;exact L.out) Try.underlying109 rfl kr) rfl ?_
  exact⟨rfl,Qp (Qp HB.out Y.out) Y.out⟩
set_option maxRecDepth 100000 in
set_option maxHeartbeats 1000000 in
theorem Jc (F C:Int) (w:World):
    Calls Try.prog 65 #[.agg #[.int .i64 F,.int .i64 C]] w fun e w'=>∃ g:Nat,e = .returned (.func (.func 82) #[] #[.pointer (some ⟨g,0,none⟩)])∧w'.heap[g]?=some (.cells #[.int .i64 F,.int .i64 C] 59 (0,0))∧w.heap.size≤g∧Below w.heap.size w w':=by
  have HB:=Aside0.mk (Below.refl w.heap.size w)
  go_enter Try.func65,Try.ntmps65
  go_wp2_with (first|((with_reducible refine Qe (N:=1) rfl ?_);refine Zg ?hg (N:=1) ?hd (cs:=#[.int .i64 F,.int .i64 C]) (t:=59) ?hr ?_;(case hd=>rfl);(case hg=>rfl);(case hr=>first|(go_simp;done)|(go_simp;rfl));intro Z hg_ w1 hbox hb;have GEs:=Aside0.mk HB.out.size;have ξ :=Aside0.mk (Qx HB.out hb);have φ :=Aside0.mk hbox;clear HB;have HB:= ξ;have B:= φ;clear ξ φ;have J:=Aside0.mk (by rw[hg_];exact GEs.out:w.heap.size≤Z);clear hb hbox hg_))
  go_ret
  exact⟨_,rfl,B.out,J.out,HB.out⟩
set_option maxRecDepth 100000 in
set_option maxHeartbeats 1000000 in
theorem K3 (A0 A1:Option Addr) (J O c0 c1:Nat) (w:World):
    Calls Try.prog 66 #[.agg #[.slice A0 J c0,.slice A1 O c1]] w fun e w'=>e = .returned (.agg #[.slice A1 O c1,.func (.func 83) #[] #[]])∧Below w.heap.size w w':=by
  have HB:=Aside0.mk (Below.refl w.heap.size w)
  go_enter Try.func66,Try.ntmps66
  go_wp2_with (first|((with_reducible refine Qe (N:=1) rfl ?_);refine Zg ?hg (N:=1) ?hd (cs:=#[.slice A0 J c0,.slice A1 O c1]) (t:=50) ?hr ?_;(case hd=>rfl);(case hg=>rfl);(case hr=>first|(go_simp;done)|(go_simp;rfl));intro Z hg_ w1 hbox hb;have ξ :=Aside0.mk (Qx HB.out hb);have φ :=Aside0.mk hbox;clear HB;have HB:= ξ;have B:= φ;clear ξ φ;clear hb hbox hg_)|((with_reducible refine Qe (N:=2) rfl ?_);refine Zg ?hg (N:=2) ?hd (cs:=#[.slice none 0 0,.nilFunc]) (t:=116) ?hr ?_;(case hd=>rfl);(case hg=>rfl);(case hr=>first|(go_simp;done)|(go_simp;rfl));intro g2 hg_ w2 hbox hb;have GEs:=Aside0.mk HB.out.size;have GEl:=Aside0.mk (Xd B.out);have X:=Aside0.mk (Qs (g:=Z) (o:=.cells #[.slice A0 J c0,.slice A1 O c1] 50 (0,0)) B.out hb);have ξ :=Aside0.mk (Qx HB.out hb);have φ :=Aside0.mk hbox;clear HB B;have HB:= ξ;have L:= φ;have B:=X;clear ξ φ X;have Y:=Aside0.mk (by rw[hg_];exact GEs.out:w.heap.size≤g2);have NB:=Aside0.mk (by rw[hg_];exact Nat.ne_of_lt GEl.out:Z≠g2);clear hb hbox hg_;have hnb:=NB.out;have γ:w2.cell? ⟨Z,0,none⟩=some (.slice A0 J c0):=(Qa B.out 0).trans rfl;have δ :w2.cell? ⟨Z,1,none⟩=some (.slice A1 O c1):=(Qa B.out 1).trans rfl;have ε :w2.cell? ⟨g2,0,none⟩=some (.slice none 0 0):=(Qa L.out 0).trans rfl;have ζ :w2.cell? ⟨g2,1,none⟩=some (.nilFunc):=(Qa L.out 1).trans rfl;have η :=Qq L.out 0;have θ :=Qq L.out 1))
  refine bodyPost_ret (results_cell_row rfl _ _ g2 116 #[.slice A1 O c1,.func (.func 83) #[] #[]] (0,0) _ rfl (by refine Qm (cs:=#[.slice A1 O c1,.nilFunc]) ?_ 1 _ rfl;refine Qm (cs:=#[.slice none 0 0,.nilFunc]) ?_ 0 _ rfl;exact L.out) Try.underlying116 rfl kr) rfl ?_
  exact⟨rfl,Qp (Qp HB.out Y.out) Y.out⟩
set_option maxRecDepth 100000 in
set_option maxHeartbeats 1000000 in
theorem Ug (F C:Int) (w:World):
    Calls Try.prog 68 #[.agg #[.int .i64 F,.int .i64 C]] w fun e w'=>∃ g:Nat,e = .returned (.func (.func 84) #[] #[.pointer (some ⟨g,0,none⟩)])∧w'.heap[g]?=some (.cells #[.int .i64 F,.int .i64 C] 59 (0,0))∧w.heap.size≤g∧Below w.heap.size w w':=by
  have HB:=Aside0.mk (Below.refl w.heap.size w)
  go_enter Try.func68,Try.ntmps68
  go_wp2_with (first|((with_reducible refine Qe (N:=1) rfl ?_);refine Zg ?hg (N:=1) ?hd (cs:=#[.int .i64 F,.int .i64 C]) (t:=59) ?hr ?_;(case hd=>rfl);(case hg=>rfl);(case hr=>first|(go_simp;done)|(go_simp;rfl));intro Z hg_ w1 hbox hb;have GEs:=Aside0.mk HB.out.size;have ξ :=Aside0.mk (Qx HB.out hb);have φ :=Aside0.mk hbox;clear HB;have HB:= ξ;have B:= φ;clear ξ φ;have J:=Aside0.mk (by rw[hg_];exact GEs.out:w.heap.size≤Z);clear hb hbox hg_))
  go_ret
  exact⟨_,rfl,B.out,J.out,HB.out⟩
end Go.Proofs.Ytmfffemidlhcpaa.C
namespace Go.Proofs.Ytmfffemidlhcpaa.C
open Go.RowKit Go.Proofs.YtmfffemidlhcpaaW.PrintWords Go.Proofs.YtmfffemidlhcpaaW.PrintLast Go.Proofs.YtmfffemidlhcpaaW.PrintMore
set_option linter.unusedVariables false
def small (n:Nat) (C:Int):Bool:=decide (n<1000000000 ∧ -9223372036854775808≤C∧C≤9223372036854775807)
def rightP_H.f (L:List S36) (Y:List S86) (J B:Int):Option Bool:=if small L.length B=true then some (Call.Zf (fun x=>Xk J B x.f0 x.f1 x.f2) Call.ltH none L) else none
theorem rightP_H.calls (θ :Option Addr) (ε :Nat) (L:List S36) (ι :Option Addr) (η :Nat) (Y:List S86) (J B:Int) (r:Bool) (w:World) (af:Kd.C k36 w θ L.length L) (au:L.length ≤ ε) (av:Kd.C k86 w ι Y.length Y) (b0:Y.length ≤ η) (h:rightP_H.f L Y J B=some r) (g:Nat) (hg:w.heap[g]?=some (.cells #[.int .i64 J,.int .i64 B] 59 (0,0))):
    Calls Try.prog 64 #[.agg #[.slice θ L.length ε,.func (.func 79) #[] #[]],.func (.func 82) #[] #[.pointer (some ⟨g,0,none⟩)]] w fun e w'=>e = .returned (.bool r)∧Below w.heap.size w w':=by
  unfold rightP_H.f at h
  split at h
  case isFalse=>cases h
  case isTrue hs=>
  cases h
  obtain⟨hl,hb⟩:=of_decide_eq_true hs
  have e1:=J3 J B hb
  have e2:=J2 J B hb
  refine api_Hall_right.calls (2 * L.length+1) θ ε L 0 (tok J B) _ w af au ?_ g ?_
  · rw[Call.Wu L _ 0 (by omega) _ (by omega),e1,e2]
  · rw[e1,e2];exact hg
def rightP_I.f (L:List S36) (Y:List S86) (J B:Int):Option Bool:=if small Y.length B=true then some (Call.Zf (fun x=>Jv J B x.f0 x.f1) Call.ltI none Y) else none
theorem rightP_I.calls (θ :Option Addr) (ε :Nat) (L:List S36) (ι :Option Addr) (η :Nat) (Y:List S86) (J B:Int) (r:Bool) (w:World) (af:Kd.C k36 w θ L.length L) (au:L.length ≤ ε) (av:Kd.C k86 w ι Y.length Y) (b0:Y.length ≤ η) (h:rightP_I.f L Y J B=some r) (g:Nat) (hg:w.heap[g]?=some (.cells #[.int .i64 J,.int .i64 B] 59 (0,0))):
    Calls Try.prog 67 #[.agg #[.slice ι Y.length η,.func (.func 83) #[] #[]],.func (.func 84) #[] #[.pointer (some ⟨g,0,none⟩)]] w fun e w'=>e = .returned (.bool r)∧Below w.heap.size w w':=by
  unfold rightP_I.f at h
  split at h
  case isFalse=>cases h
  case isTrue hs=>
  cases h
  obtain⟨hl,hb⟩:=of_decide_eq_true hs
  have e1:=J3 J B hb
  have e2:=J2 J B hb
  refine api_Inside_right.calls (2 * Y.length+1) ι η Y 0 (tok J B) _ w av b0 ?_ g ?_
  · rw[Call.Wt Y _ 0 (by omega) _ (by omega),e1,e2]
  · rw[e1,e2];exact hg
end Go.Proofs.Ytmfffemidlhcpaa.C
namespace Go.Proofs.Ytmfffemidlhcpaa.C
open Go.RowKit Go.Proofs.YtmfffemidlhcpaaW.PrintWords Go.Proofs.YtmfffemidlhcpaaW.PrintLast Go.Proofs.YtmfffemidlhcpaaW.PrintMore
attribute [local go_sem] Zx Zv Z8 Z7 Zl Zk Zw Zu
set_option linter.unusedVariables false
set_option linter.unusedSimpArgs false
def api_Hall_set.j0:Nat→List (S36)→Option ((List (S36)))
 |0,_=>none
 |k+1,x5=>some x5
def api_Hall_set.f (k:Nat) (J:List (S36)) (B:Int) (Z:Int) (Y:Int) (ε :Int):Option ((List (S36))):=(api_Hall_88.f J).bind fun γ=>((api_Hall_89.f k γ Z Y ε B).bind fun δ =>(if δ.2=true then (if 0 ≤ δ.1 then (if δ.1<(γ.length:Int) then (api_Hall_set.j0 k (γ.set (δ.1:Int).toNat (⟨Z,Y,ε⟩:S36))) else (none)) else (none)) else (api_Hall_set.j0 k γ)))
set_option maxHeartbeats 8000000 in
set_option maxRecDepth 100000 in
theorem api_Hall_set.calls (k:Nat) (μ :Option Addr) (η :Nat) (J:List (S36)) (B:Int) (Z:Int) (Y:Int) (ε :Int) (r:List (S36)) (w:World) (ak:Kd.C k36 w μ J.length J) (ao:J.length ≤ η) (h:api_Hall_set.f k J B Z Y ε = some r):
  Calls Try.prog 74 #[.agg #[.slice μ J.length η,.func (.func 79) #[] #[]],.agg #[.int .i64 Z,.int .i64 Y,.int .i64 ε]] w fun e w'=>∃ ba:Value,e = .returned (ba)∧Kd.R k36 36 w' w.heap.size (fun _=>True) ba r∧Below w.heap.size w w':=by
 have cr:=Try.underlying109
 have d9:=Try.underlying36
 have ar:=Aside0.mk ak
 have bf:=Aside0.mk ao
 clear ak ao
 have HB:=Aside0.mk (Below.refl w.heap.size w)
 have H:((api_Hall_88.f J).bind fun γ=>((api_Hall_89.f k γ Z Y ε B).bind fun δ =>(if δ.2=true then (if 0 ≤ δ.1 then (if δ.1<(γ.length:Int) then (api_Hall_set.j0 k (γ.set (δ.1:Int).toNat (⟨Z,Y,ε⟩:S36))) else (none)) else (none)) else (api_Hall_set.j0 k γ))))=some r:=h
 clear h
 replace H:=Option.bind_eq_some_iff.mp H
 obtain⟨γ,ap,H⟩:=H
 replace H:((api_Hall_89.f k γ Z Y ε B).bind fun δ =>(if δ.2=true then (if 0 ≤ δ.1 then (if δ.1<(γ.length:Int) then (api_Hall_set.j0 k (γ.set (δ.1:Int).toNat (⟨Z,Y,ε⟩:S36))) else (none)) else (none)) else (api_Hall_set.j0 k γ)))=some r:=H
 have A3:=Aside0.mk ap
 clear ap
 replace H:=Option.bind_eq_some_iff.mp H
 obtain⟨⟨ζ,κ⟩,ay,H⟩:=H
 replace H:(if κ = true then (if 0 ≤ ζ then (if ζ < (γ.length:Int) then (api_Hall_set.j0 k (γ.set (ζ :Int).toNat (⟨Z,Y,ε⟩:S36))) else (none)) else (none)) else (api_Hall_set.j0 k γ))=some r:=H
 have A4:=Aside0.mk ay
 clear ay
 have ci:=Aside0.mk H
 clear H
 go_enter Try.func74,Try.ntmps74
 go_upto_if 19 with(first|((with_reducible refine Qe (N:=2) rfl ?_);refine qE 2 #[.slice μ J.length η,.func (.func 79) #[] #[]] 109 ?_;intro a1 hg w6 hbox hb;have O:=Aside0.mk hbox;have be:=sGe hg;have bg:=sGe hg;replace HB:=sHb hb;clear hb hbox hg)|((with_reducible refine Qe (N:=3) rfl ?_);refine qE 3 #[.int .i64 Z,.int .i64 Y,.int .i64 ε] 36 ?_;intro ω hg w7 hbox hb;have X:=Aside0.mk hbox;have bk:=sGe hg;have bm:=sGe hg;have τ :=sNl O hg;have φ :=sNg O hg;replace O:=sBk O hb;replace HB:=sHb hb;clear hb hbox hg;have cg:= τ.out;have ch:= φ.out;obtain⟨a6,ac,bb,bc⟩:=qD2 O.out)|((with_reducible refine Ql (f:=88) rfl ?_);refine Q2 (some 10) rfl rfl Try.func88 kr rfl #[.slice μ J.length η] rfl qM ?_;(with_reducible refine(api_Hall_88.calls _ _ J γ _ ?side1 ?side2 A3.out).mono ?_);(case side1=>exact(Kd.Qt ar.out HB.out));(case side2=>exact bf.out);rintro e ig ⟨cx,rfl,ai,hb⟩;refine⟨_,rfl, ?_⟩;have L:=Aside0.mk (Kd.Q9 (Kd.Jz ai (g:= ω) (o:=.cells #[.int .i64 Z,.int .i64 Y,.int .i64 ε] 36 (0,0)) X.out) (Qr HB.out));replace O:=sBk O hb;replace X:=sBk X hb;replace HB:=sHb hb;(try clear hb);(try clear a9);(try clear hk);(try clear hi);(try clear ai);obtain⟨ψ,a0,ae,a7,ab,b5⟩:=qD3 X.out;obtain⟨a2,a3,a4,a5⟩:=qD2 O.out;obtain⟨b8,ah,bl⟩:=Kd.Q7 L.out;subst bl)|((with_reducible refine Ql (f:=89) rfl ?_);refine Q2 (some 16) rfl rfl Try.func89 kr rfl #[.slice b8 γ.length ah,.agg #[.int .i64 Z,.int .i64 Y,.int .i64 ε],.func (.func 79) #[] #[]] rfl qM ?_;(with_reducible refine(api_Hall_89.calls k _ _ γ Z Y ε B ζ κ _ ?side1 ?side2 A4.out).mono ?_);(case side1=>exact(Kd.Qy L.out).2.2);(case side2=>exact(Kd.Qy L.out).2.1);rintro e bq ⟨rfl,hb⟩;refine⟨_,rfl, ?_⟩;replace L:=sRb L hb;replace O:=sBk O hb;replace X:=sBk X hb;replace HB:=sHb hb;(try clear hb);(try clear a9);(try clear hk);(try clear hi)))
 (try simp only[Act.put,qS])
 go_cut [] (fun wc=>∃ (kq:Nat) (bp:List (S36)) (ρ:Int) (al:Int) (an:Int),Aside0 (api_Hall_set.j0 kq bp=some r)∧Aside0 (kq≤k)∧Aside0 (Kd.R k36 36 wc w.heap.size (fun k_=>k_ ≠ ω) (.slice b8 γ.length ah) bp)∧Aside0 (wc.heap[a1]?=some (.cells #[(.slice μ J.length η),.func (.func 79) #[] #[]] 109 (0,0)))∧Aside0 (wc.heap[ω]?=some (.cells #[.int .i64 ρ,.int .i64 al,.int .i64 an] 36 (0,0)))∧Aside0 (Below w.heap.size w wc))
 case first=>
  have H:=ci.out
  clear ci
  by_cases af: κ = true
  ·subst af
   have H1:(if 0 ≤ ζ then (if ζ < (γ.length:Int) then (api_Hall_set.j0 k (γ.set (ζ :Int).toNat (⟨Z,Y,ε⟩:S36))) else (none)) else (none))=some r:=by rw[if_pos rfl] at H;exact H
   clear H
   have H:=H1
   clear H1
   by_cases χ :0 ≤ ζ
   ·rw[if_pos χ] at H
    have c16b0:decide (0 ≤ ζ)=true:=decide_eq_true χ
    clear χ
    (first|rw[c16b0]|(simp only[Zb,Zj];rw[c16b0])|skip)
    by_cases σ: ζ < (γ.length:Int)
    ·rw[if_pos σ] at H
     have c17b0:decide (ζ < (γ.length:Int))=true:=decide_eq_true σ
     clear σ
     obtain⟨a8,ι⟩:∃ y_:List (S36),y_=(γ.set (ζ :Int).toNat (⟨Z,Y,ε⟩:S36)):=⟨_,rfl⟩
     replace H:(api_Hall_set.j0 k a8)=some r:=by first|(rw[ι];with_reducible exact H)|(have am:=(Option.bind_some _ _).symm.trans H;rw[ι];with_reducible exact am)|(have am:=(Option.bind_some _ _).symm.trans H;with_reducible exact am)|with_reducible exact H|(rw[ι];exact H)|exact H
     have au:=Aside0.mk ι
     clear ι
     have H':=Aside0.mk H
     clear H
     have bz:= φ.out
     have ce:= τ.out
     obtain⟨bs,bu,cb,bv,bw,cd⟩:=qD3 X.out
     have aj:0≤(ζ :Int):=of_decide_eq_true (by assumption)
     have av:(ζ :Int)<((γ.length:Int):Int):=of_decide_eq_true (by assumption)
     obtain⟨θ,cv,b1,b2,bo,cw,b3⟩:=Kd.Vt L.out (by omega)
     (first|cases b1|(injection b1 with ea_ en_ ec_;(first|subst ea_|(injection ea_ with ea_;subst ea_));subst ec_;clear en_))
     have aw:=Aside0.mk b2
     have cy:=Aside0.mk b3
     clear b2 bo b3
     obtain⟨cz,b6,b4,ν,aa⟩:=Kd.Y4 L.out z36 (ζ :Int) aj av
     obtain rfl:=X4 b4
     have bh:bq.cell? ⟨θ,(ζ :Int).toNat * 3,none⟩=some (.int .i64 ((Qc γ ζ).f0)):= ν 0 _ rfl
     have bi:bq.cell? ⟨θ,(ζ :Int).toNat * 3+1,none⟩=some (.int .i64 ((Qc γ ζ).f1)):= ν 1 _ rfl
     have cj:bq.cell? ⟨θ,(ζ :Int).toNat * 3+2,none⟩=some (.int .i64 ((Qc γ ζ).f2)):= ν 2 _ rfl
     have cf:bq.frozen? ⟨θ,(ζ :Int).toNat * 3,none⟩=false:=aa 0
     have ck:bq.frozen? ⟨θ,(ζ :Int).toNat * 3+1,none⟩=false:=aa 1
     have cu:bq.frozen? ⟨θ,(ζ :Int).toNat * 3+2,none⟩=false:=aa 2
     clear b6 ν aa b4
     replace aj:=eq_true aj
     replace av:=eq_true av
     have n_:=Aside0.mk (Kd.Qz (ok':=(fun k_=>k_ ≠ ω)) L.out (fun k_ hk=>hk.2))
     clear L
     have L:=n_
     clear n_
     have cm:=Aside0.mk (show Kd.R k36 36 bq w.heap.size (fun k_=>k_ ≠ ω) (.slice (some ⟨θ,0,none⟩) γ.length ah) γ from L.out)
     obtain⟨d0,ca,cn,ξ,az⟩:=Kd.Y4 cm.out z36 (ζ :Int) (of_decide_eq_true (by assumption)) (by have h_:(ζ :Int)<((γ.length:Int):Int):=of_decide_eq_true (by assumption);first|exact h_|(have e_:=(Kd.Qy L.out).1;omega)|simpa using h_)
     obtain rfl:=X4 cn
     have br:=Kd.Wl cm.out (ζ :Int) (of_decide_eq_true (by assumption)) (by have h_:(ζ :Int)<((γ.length:Int):Int):=of_decide_eq_true (by assumption);first|exact h_|(have e_:=(Kd.Qy L.out).1;omega)|simpa using h_) (seg:=[.int .i64 Z,.int .i64 Y,.int .i64 ε]) (j:=0) ca ξ (show 3≤3 from by decide) (x':=(⟨Z,Y,ε⟩:S36)) (J9 _ _ _ (⟨Z,Y,ε⟩:S36)) (fun _ hk=>hk)
     have b7:= ξ 0 _ rfl
     (try simp only[show(k36).sz=3 from rfl,Nat.mul_one,Nat.add_zero] at b7)
     have co:=az 0
     (try simp only[show(k36).sz=3 from rfl,Nat.mul_one,Nat.add_zero] at co)
     have bj:= ξ 1 _ rfl
     (try simp only[show(k36).sz=3 from rfl,Nat.mul_one,Nat.add_zero] at bj)
     have cp:=az 1
     (try simp only[show(k36).sz=3 from rfl,Nat.mul_one,Nat.add_zero] at cp)
     have bn:= ξ 2 _ rfl
     (try simp only[show(k36).sz=3 from rfl,Nat.mul_one,Nat.add_zero] at bn)
     have cq:=az 2
     (try simp only[show(k36).sz=3 from rfl,Nat.mul_one,Nat.add_zero] at cq)
     clear ca ξ az cn
     go_wp2_with (first|((with_reducible refine Y0 (t:=36) (p:=23) rfl ?_);refine Yo (t:=36) (p:=23) (v:=?vo_w22) (w1:=(((bq.setCell ⟨θ,(ζ :Int).toNat * 3,none⟩ (.int .i64 Z)).setCell ⟨θ,(ζ :Int).toNat * 3+1,none⟩ (.int .i64 Y)).setCell ⟨θ,(ζ :Int).toNat * 3+2,none⟩ (.int .i64 ε))) ?hg ?ho ?hn ?hr ?_;(case ho=>rfl);(case hg=>rfl);(case hn=>rfl);(case hr=>go_simp <;> rfl);intro bd hw;have hg:bq.grownBy bd (some θ):=(by rw[hw];exact br.2);have hp_:Kd.R k36 36 bd w.heap.size (fun k_=>k_ ≠ ω) (.slice (some ⟨θ,0,none⟩) γ.length ah) a8:=(by rw[hw,au.out];exact br.1);clear br;replace O:=Aside0.mk (Q3 (g:=a1) (o:=.cells #[.slice μ J.length η,.func (.func 79) #[] #[]] 109 (0,0)) O.out hg (Kd.Xb L.out O.out (by decide)));replace X:=Aside0.mk (Q3 (g:= ω) (o:=.cells #[.int .i64 Z,.int .i64 Y,.int .i64 ε] 36 (0,0)) X.out hg (Kd.U2 L.out (fun _ hk=>hk)));replace L:=Aside0.mk hp_;replace HB:=Aside0.mk ((by rw[hw];exact Qp (Qp (Qp (HB.out) aw.out) aw.out) aw.out:Below w.heap.size w bd));clear hg hw hp_))
     go_meet
     case rel=>exact⟨_,(a8),(Z),(Y),(ε),H',⟨by first|omega|exact Nat.le_refl _⟩,⟨by(with_reducible repeat first|apply Kd.Qw|apply Kd.Qv|apply Kd.Q1);exact L.out⟩,O,X,HB⟩
    ·rw[if_neg σ] at H
     exact absurd H (by simp)
   ·rw[if_neg χ] at H
    exact absurd H (by simp)
  ·replace af:=Bool.eq_false_iff.mpr af
   subst af
   have H1:(api_Hall_set.j0 k γ)=some r:=by rw[if_neg (show ¬ (false=true) by decide)] at H;exact H
   clear H
   have H:=H1
   clear H1
   have H':=Aside0.mk H
   clear H
   go_wp2
   go_meet
   case rel=>exact⟨_,(γ),(Z),(Y),(ε),H',⟨by first|omega|exact Nat.le_refl _⟩,⟨by(with_reducible repeat first|apply Kd.Qw|apply Kd.Qv|apply Kd.Q1);exact Kd.Qz L.out (fun _ hk=>hk.2)⟩,O,X,HB⟩
 case rest=>
  clear ci
  try clear c1
  try clear p1
  try clear q1
  try clear ax
  try clear c2
  try clear p2
  try clear qe
  try clear ct
  try clear c7
  try clear c8
  try clear af
  try clear χ
  try clear c16b0
  try clear σ
  try clear c17b0
  try clear b9
  try clear aj
  try clear av
  try clear d1
  try clear d2
  try clear d5
  try clear ag
  try clear d3
  try clear d4
  try clear ψ
  try clear a0
  try clear ae
  try clear a2
  try clear a3
  try clear bs
  try clear bu
  try clear cb
  try clear a6
  try clear ac
  try clear a7
  try clear ab
  try clear b5
  try clear a4
  try clear a5
  try clear bv
  try clear bw
  try clear cd
  try clear bb
  try clear bc
  try clear bh
  try clear bi
  try clear cj
  try clear b7
  try clear bj
  try clear bn
  try clear aj
  try clear av
  obtain⟨kq,bp,ρ,al,an,HA,d6,HO_5,O,X,HB⟩:=hcut
  have b0:=(Kd.Qy HO_5.out).1
  rw[b0] at HO_5
  (try simp only[b0])
  (try simp only[b0] at O)
  (try simp only[b0] at X)
  cases kq with
  |zero=>exact absurd HA.out (by simp[api_Hall_set.j0])
  |succ d7=>
   have H:=HA.out
   clear HA
   simp only[api_Hall_set.j0] at H
   obtain rfl:=Option.some.inj H
   go_wp2
   go_ret
   exact⟨_,rfl,by(with_reducible repeat first|apply Kd.Qw|apply Kd.Qv|apply Kd.Q1);exact Kd.Qz HO_5.out (fun _ hk=>trivial),HB.out⟩
end Go.Proofs.Ytmfffemidlhcpaa.C
namespace Go.Proofs.Ytmfffemidlhcpaa.C
open Go.RowKit Go.Proofs.YtmfffemidlhcpaaW.PrintWords Go.Proofs.YtmfffemidlhcpaaW.PrintLast Go.Proofs.YtmfffemidlhcpaaW.PrintMore
set_option linter.unusedVariables false
def hallP.f (B J Y F C:Int):Option Bool:=some (Xk F C B J Y)
def woP_I.f (B J:Int) (l:List S86):Option (List S86):=if small l.length J=true then some (woI B J l) else none
def Va (x:S36) (l:List S36):List S36:=l.map (fun y=>if y.f0=x.f0∧y.f1=x.f1 then x else y)
def setP_H.f (B J Y:Int) (l:List S36):Option (List S36):=if small l.length J=true∧Call.Zf (fun _=>true) Call.ltH none l=true then some (Va ⟨B,J,Y⟩ l) else none
theorem Vy (A0:Option Addr) (c:Nat) (l:List S86) (B J:Int) (t:List S86) (W:World) (hr:Kd.C k86 W A0 l.length l) (hc:l.length≤c) (h:woP_I.f B J l=some t):
    Calls Try.prog 75 #[.agg #[.slice A0 l.length c,.func (.func 83) #[] #[]],.agg #[.int .i64 B,.int .i64 J]] W fun e w'=>∃ ba:Value,e = .returned ba∧Kd.R k86 86 w' W.heap.size (fun _=>True) ba t∧Below W.heap.size W w':=by
  unfold woP_I.f at h
  split at h
  case isFalse=>cases h
  case isTrue hs=>
  cases h
  obtain⟨hl,hb⟩:=of_decide_eq_true hs
  exact G8 A0 c l B J W hr hc hl hb
theorem V3 (x:S36) (l:List S36):(Va x l).length=l.length:=by unfold Va;simp
theorem V4 (x:S36) (l:List S36) (m:Nat) (h:m<l.length) (L:m<(Va x l).length):(Va x l)[m]=if l[m].f0=x.f0∧l[m].f1=x.f1 then x else l[m]:=by
  simp only[Va,List.getElem_map]
theorem Ws (l:List S36) (x:S36) (p:Nat) (hs:l.Pairwise (fun x y=>Call.ltH x y=true)) (hp:Call.Gp l x.f0 x.f1 p):
    Call.Gv l x.f0 x.f1 p=true→l.set p x=Va x l:=by
  intro h
  unfold Call.Gv at h
  obtain⟨h1,L,O⟩:=hp
  rcases Nat.lt_or_ge p l.length with hlt|hge
  case inr=>rw[List.getElem?_eq_none hge] at h;simp at h
  rw[List.getElem?_eq_getElem hlt] at h
  have he:X2 l[p].f0 l[p].f1 x.f0 x.f1=0:=by simpa using h
  rw[Call.Kt] at he
  apply List.ext_getElem
  · rw[V3];simp
  intro m B X
  rw[List.length_set] at B
  rw[List.getElem_set,V4 x l m B X]
  by_cases hm:p=m
  · subst hm
    rw[if_pos rfl,if_pos he]
  · rw[if_neg hm,if_neg]
    intro hq
    rcases Nat.lt_or_ge m p with J|Y
    · have:=List.pairwise_iff_getElem.1 hs m p B hlt J
      rw[Call.Ks] at this
      omega
    · have:=List.pairwise_iff_getElem.1 hs p m hlt B (by omega)
      rw[Call.Ks] at this
      omega
theorem Lu (l:List S36) (x:S36) (p:Nat) (hs:l.Pairwise (fun x y=>Call.ltH x y=true)) (hp:Call.Gp l x.f0 x.f1 p):
    Call.Gv l x.f0 x.f1 p=false→l=Va x l:=by
  intro h
  unfold Call.Gv at h
  obtain⟨h1,L,O⟩:=hp
  have key:∀ m:Nat,(hm:m<l.length) → ¬ (l[m].f0=x.f0∧l[m].f1=x.f1):=by
    intro m hm hq
    rw[← Call.Kt] at hq
    rcases Nat.lt_or_ge m p with hlt|hge
    · have:=L l[m] (List.mem_iff_getElem.2 ⟨m,by rw[List.length_take];omega,by rw[List.getElem_take]⟩)
      omega
    · rcases Nat.lt_or_ge p m with J|Y
      · have Z:=List.pairwise_iff_getElem.1 hs p m (by omega) hm J
        have g2:=O l[p] (List.mem_iff_getElem.2 ⟨0,by rw[List.length_drop];omega,by rw[List.getElem_drop];simp⟩)
        rw[Call.Ks] at Z
        rw[Call.Kt] at hq
        rw[Call.Ka] at g2
        omega
      · have hpm:p=m:=by omega
        subst hpm
        rw[List.getElem?_eq_getElem hm] at h
        simp[hq] at h
  apply List.ext_getElem
  · rw[V3]
  intro m B X
  rw[V4 x l m B X,if_neg (key m B)]
theorem Vb (A0:Option Addr) (c:Nat) (l:List S36) (B J Y:Int) (t:List S36) (W:World) (hr:Kd.C k36 W A0 l.length l) (hc:l.length≤c) (h:setP_H.f B J Y l=some t):
    Calls Try.prog 74 #[.agg #[.slice A0 l.length c,.func (.func 79) #[] #[]],.agg #[.int .i64 B,.int .i64 J,.int .i64 Y]] W fun e w'=>∃ ba:Value,e = .returned ba∧Kd.R k36 36 w' W.heap.size (fun _=>True) ba t∧Below W.heap.size W w':=by
  unfold setP_H.f at h
  split at h
  case isFalse=>cases h
  case isTrue hs=>
  cases h
  obtain⟨hl,hb⟩:=of_decide_eq_true hs.1
  have hso:=((Call.Ja (fun _=>true) l).1 hs.2).2
  refine api_Hall_set.calls (l.length+2) A0 c l 0 B J Y _ W hr hc ?_
  unfold api_Hall_set.f api_Hall_88.f
  rw[if_pos hl]
  simp only[Option.bind_some]
  obtain⟨p,hp,e⟩:=Call.Up l B J Y 0 (by omega) hso (l.length+2) (by omega)
  obtain⟨b,hm⟩:∃ b,Call.Gv l B J p=b:=⟨_,rfl⟩
  rw[hm] at e
  rw[e]
  simp only[Option.bind_some]
  cases b
  · rw[if_neg (by decide)]
    simp only[api_Hall_set.j0]
    congr 1
    exact Lu l ⟨B,J,Y⟩ p hso hp hm
  · have hlt:p<l.length:=by
      rcases Nat.lt_or_ge p l.length with h|h
      · exact h
      · unfold Call.Gv at hm;rw[List.getElem?_eq_none h] at hm;simp at hm
    rw[if_pos rfl,if_pos (by omega),if_pos (by omega)]
    simp only[api_Hall_set.j0,Int.toNat_natCast]
    congr 1
    exact Ws l ⟨B,J,Y⟩ p hso hp hm
end Go.Proofs.Ytmfffemidlhcpaa.C
namespace Go.Proofs.Ytmfffemidlhcpaa.C
open Go.RowKit Go.Proofs.YtmfffemidlhcpaaW.PrintWords Go.Proofs.YtmfffemidlhcpaaW.PrintLast Go.Proofs.YtmfffemidlhcpaaW.PrintMore
attribute [local go_sem] Zx Zv Z8 Z7 Zl Zk Zw Zu
set_option linter.unusedVariables false
set_option linter.unusedSimpArgs false
def call_Check.j0:Nat→Bool→Option (Int)
 |0,_=>none
 |k+1,L=>if L=true then (some 190) else (some 0)
def call_Check.f (k:Nat) (J:Int) (B:Int) (L:List (S36)) (Y:List (S86)):Option (Int):=(call_within.f J 2 64).bind fun γ=>(if γ=true then ((call_within.f B 1 8).bind fun δ =>(if δ = true then ((rightP_H.f L Y J B).bind fun Z=>(if Z=true then ((rightP_I.f L Y J B).bind fun ζ =>(call_Check.j0 k (!ζ))) else (call_Check.j0 k true))) else (call_Check.j0 k true))) else (call_Check.j0 k true))
theorem call_Check.Zi:∀ k,(∀ L,LeO (call_Check.j0 k L) (call_Check.j0 (k+1) L))
 |0=>fun _ r h=>by simp[call_Check.j0] at h
 |k+1=>by
  have J:=call_Check.Zi k
  ·intro L
   unfold call_Check.j0
   repeat' first
   |(with_reducible exact J _)
   |(with_reducible exact LeO.refl _)
   |(with_reducible exact LeO.none _)
   |(with_reducible refine LeO.ite ?_ ?_)
   |(with_reducible refine LeO.bind ?_ (fun _=>?_))
   |exact J _
   |exact LeO.none _
   |refine LeO.ite ?_ ?_
   |refine LeO.bind ?_ (fun _=>?_)
theorem call_Check.mono:∀ B O a2 a3 k,LeO (call_Check.f k B O a2 a3) (call_Check.f (k+1) B O a2 a3):=by
 intro B O a2 a3 k
 have J:=call_Check.Zi k
 unfold call_Check.f
 repeat' first
   |(with_reducible exact J _)
   |(with_reducible exact LeO.refl _)
   |(with_reducible exact LeO.none _)
   |(with_reducible refine LeO.ite ?_ ?_)
   |(with_reducible refine LeO.bind ?_ (fun _=>?_))
   |exact J _
   |exact LeO.none _
   |refine LeO.ite ?_ ?_
   |refine LeO.bind ?_ (fun _=>?_)
def call_Check.T1:Bool×List (List Nat×List Nat):=(true,[([],[]),([0],[0]),([1],[1]),([2],[2]),([3,2],[3]),([4],[4]),([5,4],[4,5]),([6,4,4],[4,6]),([7,4],[4,7]),([4,8],[4,8]),([9,7],[9]),([10],[10]),([11,10,10],[10,11]),([10],[10]),([13,12,10],[10,13]),([12,14,14,10],[10,12,14]),([15,10],[10,15]),([10,16],[10,16]),([17,15],[17]),([18],[18]),([19,18,18],[18,19]),([18],[18]),([21,20,18],[18,21]),([20,22,22,18],[18,20,22]),([23,18],[18,23]),([18,24],[18,24])])
def call_Check.B1:List Nat:=[0,1,3,7,15,31,63,127,255,511,1023,2047,4095,2047,16383,32767,65535,131071,262143,524287,1048575,524287,4194303,8388607,16777215,33554431]
theorem call_Check.Kq:rtab .any (opsOf Try.f40 1)=call_Check.T1:=by kernel_rfl
theorem call_Check.Y6:Zs call_Check.T1.2 call_Check.B1=true:=by kernel_rfl
set_option maxHeartbeats 8000000 in
set_option maxRecDepth 100000 in
theorem call_Check.calls (k:Nat) (J:Int) (B:Int) (θ :Option Addr) (ε :Nat) (L:List (S36)) (ι :Option Addr) (η :Nat) (Y:List (S86)) (r:Int) (w:World) (af:Kd.C k36 w θ L.length L) (au:L.length ≤ ε) (av:Kd.C k86 w ι Y.length Y) (b0:Y.length ≤ η) (h:call_Check.f k J B L Y=some r):
  Calls Try.prog 40 #[.agg #[.int .i64 J,.int .i64 B],.agg #[.slice θ L.length ε,.slice ι Y.length η]] w fun e w'=>e = .returned (.int .i64 r)∧Below w.heap.size w w':=by
 have dr:=Try.underlying59
 have fe:=Try.underlying50
 have ψ :=Aside0.mk af
 have b1:=Aside0.mk au
 clear af au
 have a0:=Aside0.mk av
 have b2:=Aside0.mk b0
 clear av b0
 have HB:=Aside0.mk (Below.refl w.heap.size w)
 have H:((call_within.f J 2 64).bind fun γ=>(if γ=true then ((call_within.f B 1 8).bind fun δ =>(if δ = true then ((rightP_H.f L Y J B).bind fun Z=>(if Z=true then ((rightP_I.f L Y J B).bind fun ζ =>(call_Check.j0 k (!ζ))) else (call_Check.j0 k true))) else (call_Check.j0 k true))) else (call_Check.j0 k true)))=some r:=h
 clear h
 have ah:=Aside0.mk H
 clear H
 go_enter Try.func40,Try.ntmps40
 go_upto_region 1 with(first|((with_reducible refine Qe (N:=2) rfl ?_);refine qE 2 #[.int .i64 J,.int .i64 B] 59 ?_;intro a1 hg w4 hbox hb;have O:=Aside0.mk hbox;have be:=sGe hg;have bg:=sGe hg;replace HB:=sHb hb;clear hb hbox hg)|((with_reducible refine Qe (N:=3) rfl ?_);refine qE 3 #[.slice θ L.length ε,.slice ι Y.length η] 50 ?_;intro ω hg w5 hbox hb;have X:=Aside0.mk hbox;have bk:=sGe hg;have bm:=sGe hg;have τ :=sNl O hg;have φ :=sNg O hg;replace O:=sBk O hb;replace HB:=sHb hb;clear hb hbox hg))
 (try simp only[Act.put,qS])
 go_cut [30] (fun a2 wc=>∃ (kq:Nat) (κ :Bool),a2 = .bool κ ∧ Aside0 (call_Check.j0 kq κ = some r)∧Aside0 (kq≤k)∧Aside0 (wc.heap[a1]?=some (.cells #[.int .i64 J,.int .i64 B] 59 (0,0)))∧Aside0 (wc.heap[ω]?=some (.cells #[(.slice θ L.length ε),(.slice ι Y.length η)] 50 (0,0)))∧Aside0 (Below w.heap.size w wc))
 case first=>
  have H:=ah.out
  clear ah
  replace H:=Option.bind_eq_some_iff.mp H
  obtain⟨γ,ao,H⟩:=H
  replace H:(if γ=true then ((call_within.f B 1 8).bind fun δ =>(if δ = true then ((rightP_H.f L Y J B).bind fun Z=>(if Z=true then ((rightP_I.f L Y J B).bind fun ζ =>(call_Check.j0 k (!ζ))) else (call_Check.j0 k true))) else (call_Check.j0 k true))) else (call_Check.j0 k true))=some r:=H
  have A6:=Aside0.mk ao
  clear ao
  by_cases c7:γ=true
  ·subst c7
   have H1:((call_within.f B 1 8).bind fun δ =>(if δ = true then ((rightP_H.f L Y J B).bind fun Z=>(if Z=true then ((rightP_I.f L Y J B).bind fun ζ =>(call_Check.j0 k (!ζ))) else (call_Check.j0 k true))) else (call_Check.j0 k true)))=some r:=by rw[if_pos rfl] at H;exact H
   clear H
   have H:=H1
   clear H1
   replace H:=Option.bind_eq_some_iff.mp H
   obtain⟨δ,bl,H⟩:=H
   replace H:(if δ = true then ((rightP_H.f L Y J B).bind fun Z=>(if Z=true then ((rightP_I.f L Y J B).bind fun ζ =>(call_Check.j0 k (!ζ))) else (call_Check.j0 k true))) else (call_Check.j0 k true))=some r:=H
   have A8:=Aside0.mk bl
   clear bl
   by_cases c9: δ = true
   ·subst c9
    have H1:((rightP_H.f L Y J B).bind fun Z=>(if Z=true then ((rightP_I.f L Y J B).bind fun ζ =>(call_Check.j0 k (!ζ))) else (call_Check.j0 k true)))=some r:=by rw[if_pos rfl] at H;exact H
    clear H
    have H:=H1
    clear H1
    replace H:=Option.bind_eq_some_iff.mp H
    obtain⟨Z,d1,H⟩:=H
    replace H:(if Z=true then ((rightP_I.f L Y J B).bind fun ζ =>(call_Check.j0 k (!ζ))) else (call_Check.j0 k true))=some r:=H
    have dl:=Aside0.mk d1
    clear d1
    by_cases ae:Z=true
    ·subst ae
     have H1:((rightP_I.f L Y J B).bind fun ζ =>(call_Check.j0 k (!ζ)))=some r:=by rw[if_pos rfl] at H;exact H
     clear H
     have H:=H1
     clear H1
     replace H:=Option.bind_eq_some_iff.mp H
     obtain⟨ζ,a4,H⟩:=H
     replace H:(call_Check.j0 k (!ζ))=some r:=H
     have al:=Aside0.mk a4
     clear a4
     have H':=Aside0.mk H
     clear H
     try go_wp2
     replace O:=Aside0.mk (Qd O.out)
     replace X:=Aside0.mk (Qd X.out)
     replace HB:=Aside0.mk (Qf HB.out)
     refine Zn (n:=26) (S:=fun w'=>w'.cell? ⟨a1,0,none⟩=some (.int .i64 J)∧w'.cell? ⟨a1,1,none⟩=some (.int .i64 B)∧w'.cell? ⟨ω,0,none⟩=some (.slice θ L.length ε)∧w'.cell? ⟨ω,1,none⟩=some (.slice ι Y.length η)) (ds:=[]) #[false,false,false,false,false,false,false,false,false,false,false,false,false,false,false,false,false,false,false,false,false,false,false,false,false,false] kr rfl rfl ⟨(Qa O.out 0).trans rfl,(Qa O.out 1).trans rfl,(Qa X.out 0).trans rfl,(Qa X.out 1).trans rfl⟩ (fun hHeld=>?_);refine Q8 call_Check.Kq call_Check.Y6 (fun HT_ HW_=>?_)
     generalize w5.drew=ek at O X HB hHeld ⊢
     refine qP 0 (some 5) (bN 26 1) HT_ ?_
     refine qT 1 (some 6) (bN 26 3) HT_ HW_ hHeld ?_
     refine Ze (i:=2) (N:=some 7) (bN 26 7) rfl rfl (Q5 HT_.out kr) (by decide) (fun K hK=>?_)
     refine Zd Try.func44 kr rfl #[.int .i64 J,.int .i64 2,.int .i64 64] (by rfl) rfl rfl qM ?_
     with_reducible refine(call_within.calls J 2 64 true _ A6.out).mono ?_
     rintro e w' ⟨rfl,⟨nd,rfl⟩⟩
     refine⟨_,rfl, ?_⟩
     refine hK.out _ _ ⟨qc O,qc O,qc X,qc X⟩ (fun hHeld=>?_)
     clear hK K
     refine qN (some 7) ?_
     refine qP 3 (some 8) (bN 26 15) HT_ ?_
     refine qP 4 (some 9) (bN 26 31) HT_ ?_
     refine qP 5 (some 10) (bN 26 63) HT_ ?_
     refine qT 6 (some 11) (bN 26 127) HT_ HW_ hHeld ?_
     refine Ze (i:=7) (N:=some 12) (bN 26 255) rfl rfl (Q5 HT_.out kr) (by decide) (fun K hK=>?_)
     refine Zd Try.func44 kr rfl #[.int .i64 B,.int .i64 1,.int .i64 8] (by rfl) rfl rfl qM ?_
     with_reducible refine(call_within.calls B 1 8 true _ A8.out).mono ?_
     rintro e w' ⟨rfl,⟨nd,rfl⟩⟩
     refine⟨_,rfl, ?_⟩
     refine hK.out _ _ ⟨qc O,qc O,qc X,qc X⟩ (fun hHeld=>?_)
     clear hK K
     refine qN (some 12) ?_
     refine qP 8 (some 13) (bN 26 511) HT_ ?_
     refine qP 9 (some 14) (bN 26 1023) HT_ ?_
     refine qP 10 (some 15) (bN 26 2047) HT_ ?_
     refine qT 11 (some 16) (bN 26 4095) HT_ HW_ hHeld ?_
     refine qT 13 (some 18) (bN 26 12287) HT_ HW_ hHeld ?_
     refine Ze (i:=12) (N:=some 17) (bN 26 16383) rfl rfl (Q5 HT_.out kr) (by decide) (fun K hK=>?_)
     refine Zd Try.func63 kr rfl #[.agg #[.slice θ L.length ε,.slice ι Y.length η]] (by rfl) rfl rfl qM ?_
     refine(Jt θ ι L.length Y.length ε η _).mono ?_
     rintro e ap ⟨rfl,hb⟩
     refine⟨_,rfl, ?_⟩
     replace O:=sBk O hb
     replace X:=sBk X hb
     replace HB:=sHb hb
     (try clear hb)
     (try clear a9)
     (try clear hk)
     (try clear hi)
     refine hK.out _ _ ⟨qc O,qc O,qc X,qc X⟩ (fun hHeld=>?_)
     clear hK K
     refine qN (some 17) ?_
     refine Ze (i:=14) (N:=some 19) (bN 26 32767) rfl rfl (Q5 HT_.out kr) (by decide) (fun K hK=>?_)
     refine Zd Try.func65 kr rfl #[.agg #[.int .i64 J,.int .i64 B]] (by rfl) rfl rfl qM ?_
     refine(Jc J B _).mono ?_
     rintro e ar ⟨μ,rfl,hgp,hgw,hb⟩
     have ρ:=Aside0.mk hgp
     clear hgp hgw
     refine⟨_,rfl, ?_⟩
     replace O:=sBk O hb
     replace X:=sBk X hb
     replace HB:=sHb hb
     (try clear hb)
     (try clear a9)
     (try clear hk)
     (try clear hi)
     refine hK.out _ _ ⟨qc O,qc O,qc X,qc X⟩ (fun hHeld=>?_)
     clear hK K
     refine qN (some 19) ?_
     refine Ze (i:=15) (N:=some 20) (bN 26 65535) rfl rfl (Q5 HT_.out kr) (by decide) (fun K hK=>?_)
     refine Zd Try.func64 kr rfl #[.agg #[.slice θ L.length ε,.func (.func 79) #[] #[]],.func (.func 82) #[] #[.pointer (some ⟨μ,0,none⟩)]] (by rfl) rfl rfl qM ?_
     with_reducible refine(rightP_H.calls θ ε L ι η Y J B true _ ?side1 ?side2 ?side3 ?side4 dl.out μ ρ.out).mono ?_
     (case side1=>exact(Kd.Qt ψ.out HB.out))
     (case side2=>exact b1.out)
     (case side3=>exact(Kd.Qt a0.out HB.out))
     (case side4=>exact b2.out)
     rintro e bq ⟨rfl,hb⟩
     refine⟨_,rfl, ?_⟩
     replace O:=sBk O hb
     replace X:=sBk X hb
     replace HB:=sHb hb
     (try clear hb)
     (try clear a9)
     (try clear hk)
     (try clear hi)
     refine hK.out _ _ ⟨qc O,qc O,qc X,qc X⟩ (fun hHeld=>?_)
     clear hK K
     refine qN (some 20) ?_
     refine qP 16 (some 21) (bN 26 131071) HT_ ?_
     refine qP 17 (some 22) (bN 26 262143) HT_ ?_
     refine qP 18 (some 23) (bN 26 524287) HT_ ?_
     refine qT 19 (some 24) (bN 26 1048575) HT_ HW_ hHeld ?_
     refine qT 21 (some 26) (bN 26 3145727) HT_ HW_ hHeld ?_
     refine Ze (i:=20) (N:=some 25) (bN 26 4194303) rfl rfl (Q5 HT_.out kr) (by decide) (fun K hK=>?_)
     refine Zd Try.func66 kr rfl #[.agg #[.slice θ L.length ε,.slice ι Y.length η]] (by rfl) rfl rfl qM ?_
     refine(K3 θ ι L.length Y.length ε η _).mono ?_
     rintro e b5 ⟨rfl,hb⟩
     refine⟨_,rfl, ?_⟩
     replace O:=sBk O hb
     replace X:=sBk X hb
     replace HB:=sHb hb
     (try clear hb)
     (try clear a9)
     (try clear hk)
     (try clear hi)
     refine hK.out _ _ ⟨qc O,qc O,qc X,qc X⟩ (fun hHeld=>?_)
     clear hK K
     refine qN (some 25) ?_
     refine Ze (i:=22) (N:=some 27) (bN 26 8388607) rfl rfl (Q5 HT_.out kr) (by decide) (fun K hK=>?_)
     refine Zd Try.func68 kr rfl #[.agg #[.int .i64 J,.int .i64 B]] (by rfl) rfl rfl qM ?_
     refine(Ug J B _).mono ?_
     rintro e a3 ⟨ν,rfl,hgp,hgw,hb⟩
     have σ:=Aside0.mk hgp
     clear hgp hgw
     refine⟨_,rfl, ?_⟩
     replace O:=sBk O hb
     replace X:=sBk X hb
     replace HB:=sHb hb
     (try clear hb)
     (try clear a9)
     (try clear hk)
     (try clear hi)
     refine hK.out _ _ ⟨qc O,qc O,qc X,qc X⟩ (fun hHeld=>?_)
     clear hK K
     refine qN (some 27) ?_
     refine Ze (i:=23) (N:=some 28) (bN 26 16777215) rfl rfl (Q5 HT_.out kr) (by decide) (fun K hK=>?_)
     refine Zd Try.func67 kr rfl #[.agg #[.slice ι Y.length η,.func (.func 83) #[] #[]],.func (.func 84) #[] #[.pointer (some ⟨ν,0,none⟩)]] (by rfl) rfl rfl qM ?_
     with_reducible refine(rightP_I.calls θ ε L ι η Y J B ζ _ ?side1 ?side2 ?side3 ?side4 al.out ν σ.out).mono ?_
     (case side1=>exact(Kd.Qt ψ.out HB.out))
     (case side2=>exact b1.out)
     (case side3=>exact(Kd.Qt a0.out HB.out))
     (case side4=>exact b2.out)
     rintro e gs ⟨rfl,hb⟩
     refine⟨_,rfl, ?_⟩
     replace O:=sBk O hb
     replace X:=sBk X hb
     replace HB:=sHb hb
     (try clear hb)
     (try clear a9)
     (try clear hk)
     (try clear hi)
     refine hK.out _ _ ⟨qc O,qc O,qc X,qc X⟩ (fun hHeld=>?_)
     clear hK K
     refine qN (some 28) ?_
     refine qP 24 (some 29) (bN 26 33554431) HT_ ?_
     refine qP 25 (some 30) (bN 26 67108863) HT_ ?_
     refine Z5 (Zm HT_.out kr) ?_
     try go_wp2
     go_meet
     case rel=>exact⟨_,(!ζ),rfl,H',⟨by first|omega|exact Nat.le_refl _⟩,O,X,HB⟩
    ·replace ae:=Bool.eq_false_iff.mpr ae
     subst ae
     have H1:(call_Check.j0 k true)=some r:=by rw[if_neg (show ¬ (false=true) by decide)] at H;exact H
     clear H
     have H:=H1
     clear H1
     have H':=Aside0.mk H
     clear H
     try go_wp2
     replace O:=Aside0.mk (Qd O.out)
     replace X:=Aside0.mk (Qd X.out)
     replace HB:=Aside0.mk (Qf HB.out)
     refine Zn (n:=26) (S:=fun w'=>w'.cell? ⟨a1,0,none⟩=some (.int .i64 J)∧w'.cell? ⟨a1,1,none⟩=some (.int .i64 B)∧w'.cell? ⟨ω,0,none⟩=some (.slice θ L.length ε)∧w'.cell? ⟨ω,1,none⟩=some (.slice ι Y.length η)) (ds:=[]) #[false,false,false,false,false,false,false,false,false,false,false,false,false,false,false,false,false,false,false,false,false,false,false,false,false,false] kr rfl rfl ⟨(Qa O.out 0).trans rfl,(Qa O.out 1).trans rfl,(Qa X.out 0).trans rfl,(Qa X.out 1).trans rfl⟩ (fun hHeld=>?_);refine Q8 call_Check.Kq call_Check.Y6 (fun HT_ HW_=>?_)
     generalize w5.drew=de at O X HB hHeld ⊢
     refine qP 0 (some 5) (bN 26 1) HT_ ?_
     refine qT 1 (some 6) (bN 26 3) HT_ HW_ hHeld ?_
     refine Ze (i:=2) (N:=some 7) (bN 26 7) rfl rfl (Q5 HT_.out kr) (by decide) (fun K hK=>?_)
     refine Zd Try.func44 kr rfl #[.int .i64 J,.int .i64 2,.int .i64 64] (by rfl) rfl rfl qM ?_
     with_reducible refine(call_within.calls J 2 64 true _ A6.out).mono ?_
     rintro e w' ⟨rfl,⟨nd,rfl⟩⟩
     refine⟨_,rfl, ?_⟩
     refine hK.out _ _ ⟨qc O,qc O,qc X,qc X⟩ (fun hHeld=>?_)
     clear hK K
     refine qN (some 7) ?_
     refine qP 3 (some 8) (bN 26 15) HT_ ?_
     refine qP 4 (some 9) (bN 26 31) HT_ ?_
     refine qP 5 (some 10) (bN 26 63) HT_ ?_
     refine qT 6 (some 11) (bN 26 127) HT_ HW_ hHeld ?_
     refine Ze (i:=7) (N:=some 12) (bN 26 255) rfl rfl (Q5 HT_.out kr) (by decide) (fun K hK=>?_)
     refine Zd Try.func44 kr rfl #[.int .i64 B,.int .i64 1,.int .i64 8] (by rfl) rfl rfl qM ?_
     with_reducible refine(call_within.calls B 1 8 true _ A8.out).mono ?_
     rintro e w' ⟨rfl,⟨nd,rfl⟩⟩
     refine⟨_,rfl, ?_⟩
     refine hK.out _ _ ⟨qc O,qc O,qc X,qc X⟩ (fun hHeld=>?_)
     clear hK K
     refine qN (some 12) ?_
     refine qP 8 (some 13) (bN 26 511) HT_ ?_
     refine qP 9 (some 14) (bN 26 1023) HT_ ?_
     refine qP 10 (some 15) (bN 26 2047) HT_ ?_
     refine qT 11 (some 16) (bN 26 4095) HT_ HW_ hHeld ?_
     refine qT 13 (some 18) (bN 26 12287) HT_ HW_ hHeld ?_
     refine Ze (i:=12) (N:=some 17) (bN 26 16383) rfl rfl (Q5 HT_.out kr) (by decide) (fun K hK=>?_)
     refine Zd Try.func63 kr rfl #[.agg #[.slice θ L.length ε,.slice ι Y.length η]] (by rfl) rfl rfl qM ?_
     refine(Jt θ ι L.length Y.length ε η _).mono ?_
     rintro e a5 ⟨rfl,hb⟩
     refine⟨_,rfl, ?_⟩
     replace O:=sBk O hb
     replace X:=sBk X hb
     replace HB:=sHb hb
     (try clear hb)
     (try clear a9)
     (try clear hk)
     (try clear hi)
     refine hK.out _ _ ⟨qc O,qc O,qc X,qc X⟩ (fun hHeld=>?_)
     clear hK K
     refine qN (some 17) ?_
     refine Ze (i:=14) (N:=some 19) (bN 26 32767) rfl rfl (Q5 HT_.out kr) (by decide) (fun K hK=>?_)
     refine Zd Try.func65 kr rfl #[.agg #[.int .i64 J,.int .i64 B]] (by rfl) rfl rfl qM ?_
     refine(Jc J B _).mono ?_
     rintro e a6 ⟨ξ,rfl,hgp,hgw,hb⟩
     have χ :=Aside0.mk hgp
     clear hgp hgw
     refine⟨_,rfl, ?_⟩
     replace O:=sBk O hb
     replace X:=sBk X hb
     replace HB:=sHb hb
     (try clear hb)
     (try clear a9)
     (try clear hk)
     (try clear hi)
     refine hK.out _ _ ⟨qc O,qc O,qc X,qc X⟩ (fun hHeld=>?_)
     clear hK K
     refine qN (some 19) ?_
     refine Ze (i:=15) (N:=some 20) (bN 26 65535) rfl rfl (Q5 HT_.out kr) (by decide) (fun K hK=>?_)
     refine Zd Try.func64 kr rfl #[.agg #[.slice θ L.length ε,.func (.func 79) #[] #[]],.func (.func 82) #[] #[.pointer (some ⟨ξ,0,none⟩)]] (by rfl) rfl rfl qM ?_
     with_reducible refine(rightP_H.calls θ ε L ι η Y J B false _ ?side1 ?side2 ?side3 ?side4 dl.out ξ χ.out).mono ?_
     (case side1=>exact(Kd.Qt ψ.out HB.out))
     (case side2=>exact b1.out)
     (case side3=>exact(Kd.Qt a0.out HB.out))
     (case side4=>exact b2.out)
     rintro e du ⟨rfl,hb⟩
     refine⟨_,rfl, ?_⟩
     replace O:=sBk O hb
     replace X:=sBk X hb
     replace HB:=sHb hb
     (try clear hb)
     (try clear a9)
     (try clear hk)
     (try clear hi)
     refine hK.out _ _ ⟨qc O,qc O,qc X,qc X⟩ (fun hHeld=>?_)
     clear hK K
     refine qN (some 20) ?_
     refine qP 16 (some 21) (bN 26 131071) HT_ ?_
     refine qP 17 (some 22) (bN 26 262143) HT_ ?_
     refine qP 18 (some 23) (bN 26 524287) HT_ ?_
     refine qU 19 (some 24) (bN 26 1048575) HT_ ?_
     refine qU 20 (some 25) (bN 26 2097151) HT_ ?_
     refine qU 21 (some 26) (bN 26 4194303) HT_ ?_
     refine qU 22 (some 27) (bN 26 8388607) HT_ ?_
     refine qU 23 (some 28) (bN 26 16777215) HT_ ?_
     refine qU 24 (some 29) (bN 26 33554431) HT_ ?_
     refine qP 25 (some 30) (bN 26 67108863) HT_ ?_
     refine Z5 (Zm HT_.out kr) ?_
     try go_wp2
     go_meet
     case rel=>exact⟨_,(true),rfl,H',⟨by first|omega|exact Nat.le_refl _⟩,O,X,HB⟩
   ·replace c9:=Bool.eq_false_iff.mpr c9
    subst c9
    have H1:(call_Check.j0 k true)=some r:=by rw[if_neg (show ¬ (false=true) by decide)] at H;exact H
    clear H
    have H:=H1
    clear H1
    have H':=Aside0.mk H
    clear H
    try go_wp2
    replace O:=Aside0.mk (Qd O.out)
    replace X:=Aside0.mk (Qd X.out)
    replace HB:=Aside0.mk (Qf HB.out)
    refine Zn (n:=26) (S:=fun w'=>w'.cell? ⟨a1,0,none⟩=some (.int .i64 J)∧w'.cell? ⟨a1,1,none⟩=some (.int .i64 B)) (ds:=[]) #[false,false,false,false,false,false,false,false,false,false,false,false,false,false,false,false,false,false,false,false,false,false,false,false,false,false] kr rfl rfl ⟨(Qa O.out 0).trans rfl,(Qa O.out 1).trans rfl⟩ (fun hHeld=>?_);refine Q8 call_Check.Kq call_Check.Y6 (fun HT_ HW_=>?_)
    generalize w5.drew=h7 at O X HB hHeld ⊢
    refine qP 0 (some 5) (bN 26 1) HT_ ?_
    refine qT 1 (some 6) (bN 26 3) HT_ HW_ hHeld ?_
    refine Ze (i:=2) (N:=some 7) (bN 26 7) rfl rfl (Q5 HT_.out kr) (by decide) (fun K hK=>?_)
    refine Zd Try.func44 kr rfl #[.int .i64 J,.int .i64 2,.int .i64 64] (by rfl) rfl rfl qM ?_
    with_reducible refine(call_within.calls J 2 64 true _ A6.out).mono ?_
    rintro e w' ⟨rfl,⟨nd,rfl⟩⟩
    refine⟨_,rfl, ?_⟩
    refine hK.out _ _ ⟨qc O,qc O⟩ (fun hHeld=>?_)
    clear hK K
    refine qN (some 7) ?_
    refine qP 3 (some 8) (bN 26 15) HT_ ?_
    refine qP 4 (some 9) (bN 26 31) HT_ ?_
    refine qP 5 (some 10) (bN 26 63) HT_ ?_
    refine qT 6 (some 11) (bN 26 127) HT_ HW_ hHeld ?_
    refine Ze (i:=7) (N:=some 12) (bN 26 255) rfl rfl (Q5 HT_.out kr) (by decide) (fun K hK=>?_)
    refine Zd Try.func44 kr rfl #[.int .i64 B,.int .i64 1,.int .i64 8] (by rfl) rfl rfl qM ?_
    with_reducible refine(call_within.calls B 1 8 false _ A8.out).mono ?_
    rintro e w' ⟨rfl,⟨nd,rfl⟩⟩
    refine⟨_,rfl, ?_⟩
    refine hK.out _ _ ⟨qc O,qc O⟩ (fun hHeld=>?_)
    clear hK K
    refine qN (some 12) ?_
    refine qP 8 (some 13) (bN 26 511) HT_ ?_
    refine qP 9 (some 14) (bN 26 1023) HT_ ?_
    refine qP 10 (some 15) (bN 26 2047) HT_ ?_
    refine qU 11 (some 16) (bN 26 4095) HT_ ?_
    refine qU 12 (some 17) (bN 26 8191) HT_ ?_
    refine qU 13 (some 18) (bN 26 16383) HT_ ?_
    refine qU 14 (some 19) (bN 26 32767) HT_ ?_
    refine qU 15 (some 20) (bN 26 65535) HT_ ?_
    refine qU 16 (some 21) (bN 26 131071) HT_ ?_
    refine qP 17 (some 22) (bN 26 262143) HT_ ?_
    refine qP 18 (some 23) (bN 26 524287) HT_ ?_
    refine qU 19 (some 24) (bN 26 1048575) HT_ ?_
    refine qU 20 (some 25) (bN 26 2097151) HT_ ?_
    refine qU 21 (some 26) (bN 26 4194303) HT_ ?_
    refine qU 22 (some 27) (bN 26 8388607) HT_ ?_
    refine qU 23 (some 28) (bN 26 16777215) HT_ ?_
    refine qU 24 (some 29) (bN 26 33554431) HT_ ?_
    refine qP 25 (some 30) (bN 26 67108863) HT_ ?_
    refine Z5 (Zm HT_.out kr) ?_
    try go_wp2
    go_meet
    case rel=>exact⟨_,(true),qR,H',⟨by first|omega|exact Nat.le_refl _⟩,⟨bka O⟩,⟨bka X⟩,⟨bel⟩⟩
  ·replace c7:=Bool.eq_false_iff.mpr c7
   subst c7
   have H1:(call_Check.j0 k true)=some r:=by rw[if_neg (show ¬ (false=true) by decide)] at H;exact H
   clear H
   have H:=H1
   clear H1
   have H':=Aside0.mk H
   clear H
   try go_wp2
   replace O:=Aside0.mk (Qd O.out)
   replace X:=Aside0.mk (Qd X.out)
   replace HB:=Aside0.mk (Qf HB.out)
   refine Zn (n:=26) (S:=fun w'=>w'.cell? ⟨a1,0,none⟩=some (.int .i64 J)∧w'.cell? ⟨a1,1,none⟩=some (.int .i64 B)) (ds:=[]) #[false,false,false,false,false,false,false,false,false,false,false,false,false,false,false,false,false,false,false,false,false,false,false,false,false,false] kr rfl rfl ⟨(Qa O.out 0).trans rfl,(Qa O.out 1).trans rfl⟩ (fun hHeld=>?_);refine Q8 call_Check.Kq call_Check.Y6 (fun HT_ HW_=>?_)
   generalize w5.drew=az at O X HB hHeld ⊢
   refine qP 0 (some 5) (bN 26 1) HT_ ?_
   refine qT 1 (some 6) (bN 26 3) HT_ HW_ hHeld ?_
   refine Ze (i:=2) (N:=some 7) (bN 26 7) rfl rfl (Q5 HT_.out kr) (by decide) (fun K hK=>?_)
   refine Zd Try.func44 kr rfl #[.int .i64 J,.int .i64 2,.int .i64 64] (by rfl) rfl rfl qM ?_
   with_reducible refine(call_within.calls J 2 64 false _ A6.out).mono ?_
   rintro e w' ⟨rfl,⟨nd,rfl⟩⟩
   refine⟨_,rfl, ?_⟩
   refine hK.out _ _ ⟨qc O,qc O⟩ (fun hHeld=>?_)
   clear hK K
   refine qN (some 7) ?_
   refine qP 3 (some 8) (bN 26 15) HT_ ?_
   refine qP 4 (some 9) (bN 26 31) HT_ ?_
   refine qU 5 (some 10) (bN 26 63) HT_ ?_
   refine qU 6 (some 11) (bN 26 127) HT_ ?_
   refine qU 7 (some 12) (bN 26 255) HT_ ?_
   refine qU 8 (some 13) (bN 26 511) HT_ ?_
   refine qP 9 (some 14) (bN 26 1023) HT_ ?_
   refine qP 10 (some 15) (bN 26 2047) HT_ ?_
   refine qU 11 (some 16) (bN 26 4095) HT_ ?_
   refine qU 12 (some 17) (bN 26 8191) HT_ ?_
   refine qU 13 (some 18) (bN 26 16383) HT_ ?_
   refine qU 14 (some 19) (bN 26 32767) HT_ ?_
   refine qU 15 (some 20) (bN 26 65535) HT_ ?_
   refine qU 16 (some 21) (bN 26 131071) HT_ ?_
   refine qP 17 (some 22) (bN 26 262143) HT_ ?_
   refine qP 18 (some 23) (bN 26 524287) HT_ ?_
   refine qU 19 (some 24) (bN 26 1048575) HT_ ?_
   refine qU 20 (some 25) (bN 26 2097151) HT_ ?_
   refine qU 21 (some 26) (bN 26 4194303) HT_ ?_
   refine qU 22 (some 27) (bN 26 8388607) HT_ ?_
   refine qU 23 (some 28) (bN 26 16777215) HT_ ?_
   refine qU 24 (some 29) (bN 26 33554431) HT_ ?_
   refine qP 25 (some 30) (bN 26 67108863) HT_ ?_
   refine Z5 (Zm HT_.out kr) ?_
   try go_wp2
   go_meet
   case rel=>exact⟨_,(true),qR,H',⟨by first|omega|exact Nat.le_refl _⟩,⟨bka O⟩,⟨bka X⟩,⟨bel⟩⟩
 case rest=>
  clear ah
  try clear c1
  try clear p2
  try clear c4
  try clear c6
  try clear c7
  try clear c9
  obtain⟨kq,κ,rfl,HA,mj,O,X,HB⟩:=hcut
  cases kq with
  |zero=>exact absurd HA.out (by simp[call_Check.j0])
  |succ ml=>
   have H:=HA.out
   clear HA
   simp only[call_Check.j0] at H
   by_cases b4: κ = true
   ·subst b4
    have H1:(some 190)=some r:=by rw[if_pos rfl] at H;exact H
    clear H
    have H:=H1
    clear H1
    obtain rfl:=Option.some.inj H
    go_wp2
    go_ret
    exact⟨rfl,HB.out⟩
   ·replace b4:=Bool.eq_false_iff.mpr b4
    subst b4
    have H1:(some 0)=some r:=by rw[if_neg (show ¬ (false=true) by decide)] at H;exact H
    clear H
    have H:=H1
    clear H1
    obtain rfl:=Option.some.inj H
    go_wp2
    go_ret
    exact⟨rfl,HB.out⟩
def call_change.f (U_:Option (List S36)) (I_:Option (List S86)) (k:Nat) (J:Int) (B:Int) (L:List (S36)) (Y:List (S86)) (a2:Bool) (a3:Int) (a8:Int) (aa:Int) (ab:Int) (a5:Int) (az:Int) (b3:Int):Option ((List (S36))×(List (S86))×Int):=(call_Check.f k J B L Y).bind fun ζ =>(if ζ = 0 then (if a2=true then ((U_).bind fun κ =>((I_).bind fun χ =>(some (κ,χ,0)))) else (some (([]:List (S36)),([]:List (S86)),191))) else (some (([]:List (S36)),([]:List (S86)),ζ)))
theorem call_change.mono:∀ U_ I_ B O a2 a3 L a5 X a7 a8 a9 Y Z k,LeO (call_change.f U_ I_ k B O a2 a3 L a5 X a7 a8 a9 Y Z) (call_change.f U_ I_ (k+1) B O a2 a3 L a5 X a7 a8 a9 Y Z):=by
 intro U_ I_ B O a2 a3 L a5 X a7 a8 a9 Y Z k
 unfold call_change.f
 repeat' first
   |(with_reducible exact call_Check.mono _ _ _ _ _)
   |(with_reducible exact LeO.refl _)
   |(with_reducible exact LeO.none _)
   |(with_reducible refine LeO.ite ?_ ?_)
   |(with_reducible refine LeO.bind ?_ (fun _=>?_))
   |exact call_Check.mono _ _ _ _ _
   |exact LeO.none _
   |refine LeO.ite ?_ ?_
   |refine LeO.bind ?_ (fun _=>?_)
def call_change.T6:Bool×List (List Nat×List Nat):=(true,[([],[]),([],[]),([0,1],[0,1]),([],[]),([],[]),([3,4,2],[3,4]),([2,5],[2,5]),([6,5,0,1,2,3,4,5,6],[6]),([7,0,1,2,3,4,5,6,7],[])])
def call_change.B6:List Nat:=[0,0,3,0,0,31,63,127,255]
theorem call_change.N1:rtab .any (opsOf Try.f73 6)=call_change.T6:=by kernel_rfl
theorem call_change.Me:Zs call_change.T6.2 call_change.B6=true:=by kernel_rfl
set_option maxHeartbeats 8000000 in
set_option maxRecDepth 100000 in
theorem call_change.calls (U_:Option (List S36)) (I_:Option (List S86)) (k:Nat) (J:Int) (B:Int) (θ :Option Addr) (ε :Nat) (L:List (S36)) (ι :Option Addr) (η :Nat) (Y:List (S86)) (a2:Bool) (a3:Int) (a8:Int) (aa:Int) (ab:Int) (a5:Int) (az:Int) (b3:Int) (r1:List (S36)) (r2:List (S86)) (r3:Int) (w:World) (af:Kd.C k36 w θ L.length L) (au:L.length ≤ ε) (av:Kd.C k86 w ι Y.length Y) (b0:Y.length ≤ η) (h:call_change.f U_ I_ k J B L Y a2 a3 a8 aa ab a5 az b3=some (r1,r2,r3)) (fu_:FuncId) (fnu_:Func) (ru_:Value) (hfu_:Try.prog.funcs[fu_]?=some fnu_) (hnu_:(fnu_.name == "runtime.NumGoroutine")=false) (hbu_:fnu_.body.isSome=true) (hu_:∀ (W:World) (t:List S36),U_=some t→Below w.heap.size w W→Calls Try.prog fu_ #[ru_,.agg #[.int .i64 a8,.int .i64 aa,.int .i64 ab]] W fun e w'=>∃ ba:Value,e = .returned ba∧Kd.R k36 36 w' W.heap.size (fun _=>True) ba t∧Below W.heap.size W w') (fi_:FuncId) (fni_:Func) (ri_:Value) (hfi_:Try.prog.funcs[fi_]?=some fni_) (hni_:(fni_.name == "runtime.NumGoroutine")=false) (hbi_:fni_.body.isSome=true) (hi_:∀ (W:World) (t:List S86),I_=some t→Below w.heap.size w W→Calls Try.prog fi_ #[ri_,.agg #[.int .i64 az,.int .i64 b3]] W fun e w'=>∃ ba:Value,e = .returned ba∧Kd.R k86 86 w' W.heap.size (fun _=>True) ba t∧Below W.heap.size W w'):
  Calls Try.prog 73 #[.agg #[.int .i64 J,.int .i64 B],.agg #[.slice θ L.length ε,.slice ι Y.length η],.bool a2,(.func (.func fu_) #[ru_] #[]),.agg #[.int .i64 a8,.int .i64 aa,.int .i64 ab],(.func (.func fi_) #[ri_] #[]),.agg #[.int .i64 az,.int .i64 b3]] w fun e w'=>∃ ba fj:Value,e = .returned (.tuple #[.agg #[ba,fj],.int .i64 r3])∧Kd.R k36 36 w' w.heap.size (fun _=>True) ba r1∧Kd.R k86 86 w' w.heap.size (fun _=>True) fj r2∧Below w.heap.size w w':=by
 have HFU:=Aside0.mk hfu_
 have HNU:=Aside0.mk hnu_
 have HBU:=Aside0.mk hbu_
 have HCU:=Aside0.mk hu_
 have HFI:=Aside0.mk hfi_
 have HNI:=Aside0.mk hni_
 have HBI:=Aside0.mk hbi_
 have HCI:=Aside0.mk hi_
 clear hfu_ hnu_ hbu_ hu_ hfi_ hni_ hbi_ hi_
 have dr:=Try.underlying59
 have fe:=Try.underlying50
 have d9:=Try.underlying36
 have db:=Try.underlying86
 have ψ :=Aside0.mk af
 have b1:=Aside0.mk au
 clear af au
 have a0:=Aside0.mk av
 have b2:=Aside0.mk b0
 clear av b0
 have HB:=Aside0.mk (Below.refl w.heap.size w)
 have H:((call_Check.f k J B L Y).bind fun ζ =>(if ζ = 0 then (if a2=true then ((U_).bind fun κ =>((I_).bind fun χ =>(some (κ,χ,0)))) else (some (([]:List (S36)),([]:List (S86)),191))) else (some (([]:List (S36)),([]:List (S86)),ζ))))=some (r1,r2,r3):=h
 clear h
 replace H:=Option.bind_eq_some_iff.mp H
 obtain⟨ζ,bl,H⟩:=H
 replace H:(if ζ = 0 then (if a2=true then ((U_).bind fun κ =>((I_).bind fun χ =>(some (κ,χ,0)))) else (some (([]:List (S36)),([]:List (S86)),191))) else (some (([]:List (S36)),([]:List (S86)),ζ)))=some (r1,r2,r3):=H
 have A8:=Aside0.mk bl
 clear bl
 by_cases c9: ζ = 0
 ·rw[if_pos c9] at H
  have c9b0:(ζ == 0)=true:=beq_iff_eq.mpr c9
  have c9b1:(ζ != 0)=false:=bne_eq_false_iff_eq.mpr c9
  clear c9
  by_cases c10:a2=true
  ·subst c10
   have H1:((U_).bind fun κ =>((I_).bind fun χ =>(some (κ,χ,0))))=some (r1,r2,r3):=by rw[if_pos rfl] at H;exact H
   clear H
   have H:=H1
   clear H1
   replace H:=Option.bind_eq_some_iff.mp H
   obtain⟨κ,bc,H⟩:=H
   replace H:((I_).bind fun χ =>(some (κ,χ,0)))=some (r1,r2,r3):=H
   have ea:=Aside0.mk bc
   clear bc
   replace H:=Option.bind_eq_some_iff.mp H
   obtain⟨χ,a4,H⟩:=H
   replace H:(some (κ,χ,0))=some (r1,r2,r3):=H
   have al:=Aside0.mk a4
   clear a4
   simp only[Option.some.injEq,Prod.mk.injEq] at H
   obtain⟨rfl,rfl,rfl⟩:=H
   go_enter Try.func73,Try.ntmps73
   try go_wp2_with (first|((with_reducible refine Qe (N:=7) rfl ?_);refine qE 7 #[.int .i64 J,.int .i64 B] 59 ?_;intro a1 hg ek hbox hb;have O:=Aside0.mk hbox;have be:=sGe hg;have bg:=sGe hg;replace HB:=sHb hb;clear hb hbox hg)|((with_reducible refine Qe (N:=8) rfl ?_);refine qE 8 #[.slice θ L.length ε,.slice ι Y.length η] 50 ?_;intro ω hg bq hbox hb;have X:=Aside0.mk hbox;have bk:=sGe hg;have bm:=sGe hg;have τ :=sNl O hg;have φ :=sNg O hg;replace O:=sBk O hb;replace HB:=sHb hb;clear hb hbox hg)|((with_reducible refine Qe (N:=11) rfl ?_);refine qE 11 #[.int .i64 a8,.int .i64 aa,.int .i64 ab] 36 ?_;intro b5 hg gs hbox hb;have Z:=Aside0.mk hbox;have bn:=sGe hg;have bo:=sGe hg;have ah:=sNl O hg;have ak:=sNg O hg;have am:=sNl X hg;have an:=sNg X hg;replace O:=sBk O hb;replace X:=sBk X hb;replace HB:=sHb hb;clear hb hbox hg)|((with_reducible refine Qe (N:=13) rfl ?_);refine qE 13 #[.int .i64 az,.int .i64 b3] 86 ?_;intro ν hg de hbox hb;have γ:=Aside0.mk hbox;have b9:=sGe hg;have aj:=sGe hg;have ao:=sNl O hg;have ap:=sNg O hg;have ar:=sNl X hg;have ay:=sNg X hg;have b7:=sNl Z hg;have b8:=sNg Z hg;replace O:=sBk O hb;replace X:=sBk X hb;replace Z:=sBk Z hb;replace HB:=sHb hb;clear hb hbox hg)|((with_reducible refine Qe (N:=14) rfl ?_);refine qE 14 #[.slice none 0 0,.slice none 0 0] 50 ?_;intro μ hg du hbox hb;have δ :=Aside0.mk hbox;have bb:=sGe hg;have b4:=sGe hg;have a6:=sNl O hg;have a7:=sNg O hg;have ac:=sNl X hg;have ae:=sNg X hg;have ξ :=sNl Z hg;have ag:=sNg Z hg;have ρ:=sNl γ hg;have σ:=sNg γ hg;replace O:=sBk O hb;replace X:=sBk X hb;replace Z:=sBk Z hb;replace γ:=sBk γ hb;replace HB:=sHb hb;clear hb hbox hg;have cj:= τ.out;have d1:= φ.out;have bz:=ah.out;have ce:=ak.out;have ez:=ao.out;have f8:=ap.out;have fl:=a6.out;have fm:=a7.out;obtain⟨bf,cr,ct,cu⟩:=qD2 O.out;have d2:=am.out;have d3:=an.out;have bv:=ar.out;have bw:=ay.out;have en:=ac.out;have et:=ae.out;obtain⟨eg,eh,ei,ej⟩:=qD2 X.out)|((with_reducible refine Ql (f:=40) rfl ?_);refine Q2 (some 19) rfl rfl Try.func40 kr rfl #[.agg #[.int .i64 J,.int .i64 B],.agg #[.slice θ L.length ε,.slice ι Y.length η]] rfl qM ?_;(with_reducible refine(call_Check.calls k J B _ _ L _ _ Y ζ _ ?side1 ?side2 ?side3 ?side4 A8.out).mono ?_);(case side1=>exact(Kd.Qt ψ.out HB.out));(case side2=>exact b1.out);(case side3=>exact(Kd.Qt a0.out HB.out));(case side4=>exact b2.out);rintro e dm ⟨rfl,hb⟩;refine⟨_,rfl, ?_⟩;replace O:=sBk O hb;replace X:=sBk X hb;replace Z:=sBk Z hb;replace γ:=sBk γ hb;replace δ :=sBk δ hb;replace HB:=sHb hb;(try clear hb);(try clear a9);(try clear hk);(try clear hi)))
   replace O:=Aside0.mk (Qd O.out)
   replace X:=Aside0.mk (Qd X.out)
   replace Z:=Aside0.mk (Qd Z.out)
   replace γ:=Aside0.mk (Qd γ.out)
   replace δ :=Aside0.mk (Qd δ.out)
   replace HB:=Aside0.mk (Qf HB.out)
   refine Zn (n:=9) (S:=fun w'=>w'.cell? ⟨b5,0,none⟩=some (.int .i64 a8)∧w'.cell? ⟨b5,1,none⟩=some (.int .i64 aa)∧w'.cell? ⟨b5,2,none⟩=some (.int .i64 ab)∧w'.cell? ⟨ν,0,none⟩=some (.int .i64 az)∧w'.cell? ⟨ν,1,none⟩=some (.int .i64 b3)) (ds:=[]) #[false,false,false,false,false,false,false,false,false] kr rfl rfl ⟨(Qa Z.out 0).trans rfl,(Qa Z.out 1).trans rfl,(Qa Z.out 2).trans rfl,(Qa γ.out 0).trans rfl,(Qa γ.out 1).trans rfl⟩ (fun hHeld=>?_);refine Q8 call_change.N1 call_change.Me (fun HT_ HW_=>?_)
   generalize dm.drew=e9 at O X Z γ δ HB hHeld ⊢
   refine qP 0 (some 27) (bN 9 1) HT_ ?_
   refine qP 3 (some 30) (bN 9 9) HT_ ?_
   refine qT 1 (some 28) (bN 9 11) HT_ HW_ hHeld ?_
   refine qT 4 (some 31) (bN 9 27) HT_ HW_ hHeld ?_
   refine Ze (i:=2) (N:=some 29) (bN 9 31) rfl rfl (Q5 HT_.out kr) (by decide) (fun K hK=>?_)
   refine Xy HFU.out HNU.out HBU.out #[ru_] #[] #[.agg #[.int .i64 a8,.int .i64 aa,.int .i64 ab]] #[ru_,.agg #[.int .i64 a8,.int .i64 aa,.int .i64 ab]] rfl (by rfl) rfl rfl rfl qM ?_
   refine(HCU.out _ κ ea.out (by repeat(first|(with_reducible first|exact HB.out|apply Qo|apply Qi|apply Qf)|exact HB.out|(refine Qp ?_ (Aside0.out (by assumption)))))).mono ?_
   rintro e ch ⟨dq,rfl,ai,hb⟩
   refine⟨_,rfl, ?_⟩
   have bd:=Aside0.mk (Kd.Q9 (Kd.Jz ai (g:=b5) (o:=.cells #[.int .i64 a8,.int .i64 aa,.int .i64 ab] 36 (0,0)) Z.out) (Qr HB.out))
   replace O:=sBk O hb
   replace X:=sBk X hb
   replace Z:=sBk Z hb
   replace γ:=sBk γ hb
   replace δ :=sBk δ hb
   replace HB:=sHb hb
   (try clear hb)
   (try clear a9)
   (try clear hk)
   (try clear hi)
   (try clear ai)
   refine hK.out _ _ ⟨qc Z,qc Z,qc Z,qc γ,qc γ⟩ (fun hHeld=>?_)
   clear hK K
   refine qN (some 29) ?_
   refine Ze (i:=5) (N:=some 32) (bN 9 63) rfl rfl (Q5 HT_.out kr) (by decide) (fun K hK=>?_)
   refine Xy HFI.out HNI.out HBI.out #[ri_] #[] #[.agg #[.int .i64 az,.int .i64 b3]] #[ri_,.agg #[.int .i64 az,.int .i64 b3]] rfl (by rfl) rfl rfl rfl qM ?_
   refine(HCI.out _ χ al.out (by repeat(first|(with_reducible first|exact HB.out|apply Qo|apply Qi|apply Qf)|exact HB.out|(refine Qp ?_ (Aside0.out (by assumption)))))).mono ?_
   rintro e eo ⟨cb,rfl,ai,hb⟩
   refine⟨_,rfl, ?_⟩
   have b6:=Aside0.mk (Kd.Q9 (Kd.Jz ai (g:= ν) (o:=.cells #[.int .i64 az,.int .i64 b3] 86 (0,0)) γ.out) (Qr HB.out))
   replace bd:=sRb bd hb
   replace O:=sBk O hb
   replace X:=sBk X hb
   replace Z:=sBk Z hb
   replace γ:=sBk γ hb
   replace δ :=sBk δ hb
   replace HB:=sHb hb
   (try clear hb)
   (try clear a9)
   (try clear hk)
   (try clear hi)
   (try clear ai)
   obtain⟨cd,cg,bp⟩:=Kd.Q7 b6.out
   (first|subst bp|(injection bp with aw bh ax;have bi:=aw.symm;have bj:=ax.symm;clear aw bh ax;subst bi;subst bj))
   obtain⟨br,bs,bu⟩:=Kd.Q7 bd.out
   (first|subst bu|(injection bu with aw bh ax;have bi:=aw.symm;have bj:=ax.symm;clear aw bh ax;subst bi;subst bj))
   refine hK.out _ _ ⟨qc Z,qc Z,qc Z,qc γ,qc γ⟩ (fun hHeld=>?_)
   clear hK K
   refine qN (some 32) ?_
   refine qP 6 (some 33) (bN 9 127) HT_ ?_
   refine Ze (i:=7) (N:=none) (bN 9 255) rfl rfl (Q5 HT_.out kr) (by decide) (fun K hK=>?_)
   have dt:eo.cell? ⟨μ,0,none⟩=some (.slice none 0 0):=(Qa δ.out 0).trans rfl
   have dk:=Qq δ.out 0
   have ci:=a6.out
   have ck:=ac.out
   have cm:= ξ.out
   have cn:=ρ.out
   have co:=a7.out
   have cp:=ae.out
   have cq:=ag.out
   have cv:=σ.out
   have dv:eo.cell? ⟨μ,1,none⟩=some (.slice none 0 0):=(Qa δ.out 1).trans rfl
   have dl:=Qq δ.out 1
   have cw:=a6.out
   have d4:=ac.out
   have d5:= ξ.out
   have d6:=ρ.out
   have d7:=a7.out
   have d8:=ae.out
   have da:=ag.out
   have dc:=σ.out
   refine V2 (w1:=?_) (by rfl) rfl ?_ ?_
   rotate_left
   ·go_simp
    rfl
   refine hK.out _ _ ⟨((cell_far (p:=⟨μ,_,none⟩) ξ.out _).trans (((cell_far (p:=⟨μ,_,none⟩) ξ.out _).trans (hHeld.1)))),((cell_far (p:=⟨μ,_,none⟩) ξ.out _).trans (((cell_far (p:=⟨μ,_,none⟩) ξ.out _).trans (hHeld.2.1)))),((cell_far (p:=⟨μ,_,none⟩) ξ.out _).trans (((cell_far (p:=⟨μ,_,none⟩) ξ.out _).trans (hHeld.2.2.1)))),((cell_far (p:=⟨μ,_,none⟩) ρ.out _).trans (((cell_far (p:=⟨μ,_,none⟩) ρ.out _).trans (hHeld.2.2.2.1)))),((cell_far (p:=⟨μ,_,none⟩) ρ.out _).trans (((cell_far (p:=⟨μ,_,none⟩) ρ.out _).trans (hHeld.2.2.2.2))))⟩ (fun hHeld=>?_)
   clear hK K
   refine qP 8 (some 15) (bN 9 511) HT_ ?_
   refine Z5 (Zm HT_.out kr) ?_
   try go_wp2
   refine bodyPost_ret (Z3 rfl _ _ μ 50 #[.slice br κ.length bs,.slice cd χ.length cg] (0,0) _ rfl (by refine Qm (cs:=#[.slice br κ.length bs,.slice none 0 0]) ?_ 1 _ rfl;refine Qm (cs:=#[.slice none 0 0,.slice none 0 0]) ?_ 0 _ rfl;exact δ.out) Try.underlying50 rfl kr) rfl ?_
   exact⟨_,_,by first|rfl|(simp[Qh,Qg] <;> rfl)|(simp[*,Qh,Qg] <;> rfl),by(with_reducible repeat first|apply Kd.Qw|apply Kd.Qv|apply Kd.Q1);exact Kd.Qz (Kd.Qu (Kd.Qu (Kd.Q6 bd.out δ.out (by decide)) (fun _ hk=>hk.2) _) (fun _ hk=>hk.2) _) (fun _ hk=>trivial),by(with_reducible repeat first|apply Kd.Qw|apply Kd.Qv|apply Kd.Q1);exact Kd.Qz (Kd.Qu (Kd.Qu (Kd.Q6 b6.out δ.out (by decide)) (fun _ hk=>hk.2) _) (fun _ hk=>hk.2) _) (fun _ hk=>trivial),bel⟩
  ·replace c10:=Bool.eq_false_iff.mpr c10
   subst c10
   have H1:(some (([]:List (S36)),([]:List (S86)),191))=some (r1,r2,r3):=by rw[if_neg (show ¬ (false=true) by decide)] at H;exact H
   clear H
   have H:=H1
   clear H1
   simp only[Option.some.injEq,Prod.mk.injEq] at H
   obtain⟨rfl,rfl,rfl⟩:=H
   go_enter Try.func73,Try.ntmps73
   go_wp2_with (first|((with_reducible refine Qe (N:=7) rfl ?_);refine qE 7 #[.int .i64 J,.int .i64 B] 59 ?_;intro a1 hg l8 hbox hb;have O:=Aside0.mk hbox;have be:=sGe hg;have bg:=sGe hg;replace HB:=sHb hb;clear hb hbox hg)|((with_reducible refine Qe (N:=8) rfl ?_);refine qE 8 #[.slice θ L.length ε,.slice ι Y.length η] 50 ?_;intro ω hg ev hbox hb;have X:=Aside0.mk hbox;have bk:=sGe hg;have bm:=sGe hg;have τ :=sNl O hg;have φ :=sNg O hg;replace O:=sBk O hb;replace HB:=sHb hb;clear hb hbox hg)|((with_reducible refine Qe (N:=11) rfl ?_);refine qE 11 #[.int .i64 a8,.int .i64 aa,.int .i64 ab] 36 ?_;intro b5 hg eu hbox hb;have Z:=Aside0.mk hbox;have bn:=sGe hg;have bo:=sGe hg;have ah:=sNl O hg;have ak:=sNg O hg;have am:=sNl X hg;have an:=sNg X hg;replace O:=sBk O hb;replace X:=sBk X hb;replace HB:=sHb hb;clear hb hbox hg)|((with_reducible refine Qe (N:=13) rfl ?_);refine qE 13 #[.int .i64 az,.int .i64 b3] 86 ?_;intro ν hg kq hbox hb;have γ:=Aside0.mk hbox;have b9:=sGe hg;have aj:=sGe hg;have ao:=sNl O hg;have ap:=sNg O hg;have ar:=sNl X hg;have ay:=sNg X hg;have b7:=sNl Z hg;have b8:=sNg Z hg;replace O:=sBk O hb;replace X:=sBk X hb;replace Z:=sBk Z hb;replace HB:=sHb hb;clear hb hbox hg)|((with_reducible refine Qe (N:=14) rfl ?_);refine qE 14 #[.slice none 0 0,.slice none 0 0] 50 ?_;intro μ hg j8 hbox hb;have δ :=Aside0.mk hbox;have bb:=sGe hg;have b4:=sGe hg;have a6:=sNl O hg;have a7:=sNg O hg;have ac:=sNl X hg;have ae:=sNg X hg;have ξ :=sNl Z hg;have ag:=sNg Z hg;have ρ:=sNl γ hg;have σ:=sNg γ hg;replace O:=sBk O hb;replace X:=sBk X hb;replace Z:=sBk Z hb;replace γ:=sBk γ hb;replace HB:=sHb hb;clear hb hbox hg;have ik:= τ.out;have il:= φ.out;have im:=ah.out;have io:=ak.out;have ew:=ao.out;have ey:=ap.out;have fq:=a6.out;have g2:=a7.out;obtain⟨cf,fa,e8,fb⟩:=qD2 O.out;have ha:=am.out;have he:=an.out;have hh:=ar.out;have hj:=ay.out;have j4:=ac.out;have j5:=ae.out;obtain⟨e3,e4,e5,e6⟩:=qD2 X.out)|((with_reducible refine Ql (f:=40) rfl ?_);refine Q2 (some 19) rfl rfl Try.func40 kr rfl #[.agg #[.int .i64 J,.int .i64 B],.agg #[.slice θ L.length ε,.slice ι Y.length η]] rfl qM ?_;(with_reducible refine(call_Check.calls k J B _ _ L _ _ Y ζ _ ?side1 ?side2 ?side3 ?side4 A8.out).mono ?_);(case side1=>exact(Kd.Qt ψ.out HB.out));(case side2=>exact b1.out);(case side3=>exact(Kd.Qt a0.out HB.out));(case side4=>exact b2.out);rintro e dw ⟨rfl,hb⟩;refine⟨_,rfl, ?_⟩;replace O:=sBk O hb;replace X:=sBk X hb;replace Z:=sBk Z hb;replace γ:=sBk γ hb;replace δ :=sBk δ hb;replace HB:=sHb hb;(try clear hb);(try clear a9);(try clear hk);(try clear hi);have fp:=ag.out;have ft:= ξ.out;have j6:=σ.out;have j7:=ρ.out;obtain⟨cx,cy,cz,d0⟩:=qD2 δ.out))
   refine bodyPost_ret (Z3 rfl _ _ μ 50 #[.slice none 0 0,.slice none 0 0] (0,0) _ rfl (by refine Qm (cs:=#[.slice none 0 0,.slice none 0 0]) ?_ 1 _ rfl;refine Qm (cs:=#[.slice none 0 0,.slice none 0 0]) ?_ 0 _ rfl;exact δ.out) Try.underlying50 rfl kr) rfl ?_
   exact⟨_,_,by first|rfl|(simp[Qh,Qg] <;> rfl)|(simp[*,Qh,Qg] <;> rfl),by first|exact Kd.Xs _ _ _ _ _|exact Kd.Ym _ _ _ _ _|exact Kd.Yi _ _ _ _ _|exact Kd.Yl _ _ _ _ _|exact Kd.Yj _ _ _ _ _,by first|exact Kd.Xs _ _ _ _ _|exact Kd.Ym _ _ _ _ _|exact Kd.Yi _ _ _ _ _|exact Kd.Yl _ _ _ _ _|exact Kd.Yj _ _ _ _ _,bel⟩
 ·rw[if_neg c9] at H
  have c9b0:(ζ == 0)=false:=beq_eq_false_iff_ne.mpr c9
  have c9b1:(ζ != 0)=true:=bne_iff_ne.mpr c9
  simp only[Option.some.injEq,Prod.mk.injEq] at H
  obtain⟨rfl,rfl,rfl⟩:=H
  go_enter Try.func73,Try.ntmps73
  go_wp2_with (first|((with_reducible refine Qe (N:=7) rfl ?_);refine qE 7 #[.int .i64 J,.int .i64 B] 59 ?_;intro a1 hg gt hbox hb;have O:=Aside0.mk hbox;have be:=sGe hg;have bg:=sGe hg;replace HB:=sHb hb;clear hb hbox hg)|((with_reducible refine Qe (N:=8) rfl ?_);refine qE 8 #[.slice θ L.length ε,.slice ι Y.length η] 50 ?_;intro ω hg q0 hbox hb;have X:=Aside0.mk hbox;have bk:=sGe hg;have bm:=sGe hg;have τ :=sNl O hg;have φ :=sNg O hg;replace O:=sBk O hb;replace HB:=sHb hb;clear hb hbox hg)|((with_reducible refine Qe (N:=11) rfl ?_);refine qE 11 #[.int .i64 a8,.int .i64 aa,.int .i64 ab] 36 ?_;intro b5 hg q1 hbox hb;have Z:=Aside0.mk hbox;have bn:=sGe hg;have bo:=sGe hg;have ah:=sNl O hg;have ak:=sNg O hg;have am:=sNl X hg;have an:=sNg X hg;replace O:=sBk O hb;replace X:=sBk X hb;replace HB:=sHb hb;clear hb hbox hg)|((with_reducible refine Qe (N:=13) rfl ?_);refine qE 13 #[.int .i64 az,.int .i64 b3] 86 ?_;intro ν hg dh hbox hb;have γ:=Aside0.mk hbox;have b9:=sGe hg;have aj:=sGe hg;have ao:=sNl O hg;have ap:=sNg O hg;have ar:=sNl X hg;have ay:=sNg X hg;have b7:=sNl Z hg;have b8:=sNg Z hg;replace O:=sBk O hb;replace X:=sBk X hb;replace Z:=sBk Z hb;replace HB:=sHb hb;clear hb hbox hg)|((with_reducible refine Qe (N:=14) rfl ?_);refine qE 14 #[.slice none 0 0,.slice none 0 0] 50 ?_;intro μ hg q2 hbox hb;have δ :=Aside0.mk hbox;have bb:=sGe hg;have b4:=sGe hg;have a6:=sNl O hg;have a7:=sNg O hg;have ac:=sNl X hg;have ae:=sNg X hg;have ξ :=sNl Z hg;have ag:=sNg Z hg;have ρ:=sNl γ hg;have σ:=sNg γ hg;replace O:=sBk O hb;replace X:=sBk X hb;replace Z:=sBk Z hb;replace γ:=sBk γ hb;replace HB:=sHb hb;clear hb hbox hg;have dn:= τ.out;have dp:= φ.out;have jp:=ah.out;have jq:=ak.out;have fn:=ao.out;have fo:=ap.out;have jh:=a6.out;have ji:=a7.out;obtain⟨er,ja,jb,jc⟩:=qD2 O.out;have jj:=am.out;have jk:=an.out;have jr:=ar.out;have js:=ay.out;have g9:=ac.out;have ga:=ae.out;obtain⟨ca,fc,lw,lx⟩:=qD2 X.out)|((with_reducible refine Ql (f:=40) rfl ?_);refine Q2 (some 19) rfl rfl Try.func40 kr rfl #[.agg #[.int .i64 J,.int .i64 B],.agg #[.slice θ L.length ε,.slice ι Y.length η]] rfl qM ?_;(with_reducible refine(call_Check.calls k J B _ _ L _ _ Y ζ _ ?side1 ?side2 ?side3 ?side4 A8.out).mono ?_);(case side1=>exact(Kd.Qt ψ.out HB.out));(case side2=>exact b1.out);(case side3=>exact(Kd.Qt a0.out HB.out));(case side4=>exact b2.out);rintro e dx ⟨rfl,hb⟩;refine⟨_,rfl, ?_⟩;replace O:=sBk O hb;replace X:=sBk X hb;replace Z:=sBk Z hb;replace γ:=sBk γ hb;replace δ :=sBk δ hb;replace HB:=sHb hb;(try clear hb);(try clear a9);(try clear hk);(try clear hi);have kn:=ag.out;have ko:= ξ.out;have mw:=σ.out;have my:=ρ.out;obtain⟨dd,df,di,dj⟩:=qD2 δ.out))
  refine bodyPost_ret (Z3 rfl _ _ μ 50 #[.slice none 0 0,.slice none 0 0] (0,0) _ rfl (by refine Qm (cs:=#[.slice none 0 0,.slice none 0 0]) ?_ 1 _ rfl;refine Qm (cs:=#[.slice none 0 0,.slice none 0 0]) ?_ 0 _ rfl;exact δ.out) Try.underlying50 rfl kr) rfl ?_
  exact⟨_,_,by first|rfl|(simp[Qh,Qg] <;> rfl)|(simp[*,Qh,Qg] <;> rfl),by first|exact Kd.Xs _ _ _ _ _|exact Kd.Ym _ _ _ _ _|exact Kd.Yi _ _ _ _ _|exact Kd.Yl _ _ _ _ _|exact Kd.Yj _ _ _ _ _,by first|exact Kd.Xs _ _ _ _ _|exact Kd.Ym _ _ _ _ _|exact Kd.Yi _ _ _ _ _|exact Kd.Yl _ _ _ _ _|exact Kd.Yj _ _ _ _ _,bel⟩
def call_Give.f (k:Nat) (J:Int) (B:Int) (L:List (S36)) (Y:List (S86)) (ξ :Int) (ρ:Int) (σ:Int):Option ((List (S36))×(List (S86))×Int):=(hallP.f ξ ρ σ J B).bind fun a2=>((call_change.f (setP_H.f ξ ρ σ L) (woP_I.f (-2) 0 Y) k J B L Y a2 0 ξ ρ σ 0 (-2) 0).bind fun ω =>(some (ω.1,ω.2.1,ω.2.2)))
theorem call_Give.mono:∀ B O a2 a3 L a5 X k,LeO (call_Give.f k B O a2 a3 L a5 X) (call_Give.f (k+1) B O a2 a3 L a5 X):=by
 intro B O a2 a3 L a5 X k
 unfold call_Give.f
 repeat' first
   |(with_reducible exact call_change.mono _ _ _ _ _ _ _ _ _ _ _ _ _ _ _)
   |(with_reducible exact LeO.refl _)
   |(with_reducible exact LeO.none _)
   |(with_reducible refine LeO.ite ?_ ?_)
   |(with_reducible refine LeO.bind ?_ (fun _=>?_))
   |exact call_change.mono _ _ _ _ _ _ _ _ _ _ _ _ _ _ _
   |exact LeO.none _
   |refine LeO.ite ?_ ?_
   |refine LeO.bind ?_ (fun _=>?_)
def call_Give.T1:Bool×List (List Nat×List Nat):=(true,[([],[]),([],[]),([],[]),([2],[2]),([],[]),([3,4,3],[3,4]),([],[]),([6,5],[6]),([7],[7]),([],[]),([],[]),([10,7],[10]),([11],[11]),([],[]),([0,1,5,8,9,12,13,11],[0,1,5,8,9,12,13]),([14],[14]),([14],[14]),([15,14,0,1,2,3,4,5,6,7,8,9,10,11,12,13,14,15,16],[15]),([16,17,0,1,2,3,4,5,6,7,8,9,10,11,12,13,14,15,16,17],[16])])
def call_Give.B1:List Nat:=[0,0,0,4,0,28,0,124,252,0,0,1276,3324,0,16383,32767,32767,131071,262143]
theorem call_Give.Kq:rtab .any (opsOf Try.f51 1)=call_Give.T1:=by kernel_rfl
theorem call_Give.Y6:Zs call_Give.T1.2 call_Give.B1=true:=by kernel_rfl
set_option maxHeartbeats 8000000 in
set_option maxRecDepth 100000 in
theorem call_Give.calls (k:Nat) (J:Int) (B:Int) (θ :Option Addr) (ε :Nat) (L:List (S36)) (ι :Option Addr) (η :Nat) (Y:List (S86)) (ξ :Int) (ρ:Int) (σ:Int) (r1:List (S36)) (r2:List (S86)) (r3:Int) (w:World) (af:Kd.C k36 w θ L.length L) (au:L.length ≤ ε) (av:Kd.C k86 w ι Y.length Y) (b0:Y.length ≤ η) (h:call_Give.f k J B L Y ξ ρ σ=some (r1,r2,r3)):
  Calls Try.prog 51 #[.agg #[.int .i64 J,.int .i64 B],.agg #[.slice θ L.length ε,.slice ι Y.length η],.agg #[.int .i64 ξ,.int .i64 ρ,.int .i64 σ]] w fun e w'=>∃ ba fj:Value,e = .returned (.tuple #[.agg #[ba,fj],.int .i64 r3])∧Kd.R k36 36 w' w.heap.size (fun _=>True) ba r1∧Kd.R k86 86 w' w.heap.size (fun _=>True) fj r2∧Below w.heap.size w w':=by
 have dr:=Try.underlying59
 have fe:=Try.underlying50
 have d9:=Try.underlying36
 have db:=Try.underlying86
 have ψ :=Aside0.mk af
 have b1:=Aside0.mk au
 clear af au
 have a0:=Aside0.mk av
 have b2:=Aside0.mk b0
 clear av b0
 have HB:=Aside0.mk (Below.refl w.heap.size w)
 have H:((hallP.f ξ ρ σ J B).bind fun a2=>((call_change.f (setP_H.f ξ ρ σ L) (woP_I.f (-2) 0 Y) k J B L Y a2 0 ξ ρ σ 0 (-2) 0).bind fun ω =>(some (ω.1,ω.2.1,ω.2.2))))=some (r1,r2,r3):=h
 clear h
 replace H:=Option.bind_eq_some_iff.mp H
 obtain⟨a2,ay,H⟩:=H
 replace H:((call_change.f (setP_H.f ξ ρ σ L) (woP_I.f (-2) 0 Y) k J B L Y a2 0 ξ ρ σ 0 (-2) 0).bind fun ω =>(some (ω.1,ω.2.1,ω.2.2)))=some (r1,r2,r3):=H
 have A4:=Aside0.mk ay
 clear ay
 replace H:=Option.bind_eq_some_iff.mp H
 obtain⟨⟨χ,a3,a1⟩,bm,H⟩:=H
 replace H:(some (χ,a3,a1))=some (r1,r2,r3):=H
 have A5:=Aside0.mk bm
 clear bm
 simp only[Option.some.injEq,Prod.mk.injEq] at H
 obtain⟨rfl,rfl,rfl⟩:=H
 go_enter Try.func51,Try.ntmps51
 try go_wp2_with (first|((with_reducible refine Qe (N:=3) rfl ?_);refine qE 3 #[.int .i64 J,.int .i64 B] 59 ?_;intro μ hg w6 hbox hb;have δ :=Aside0.mk hbox;have bb:=sGe hg;have b4:=sGe hg;replace HB:=sHb hb;clear hb hbox hg)|((with_reducible refine Qe (N:=4) rfl ?_);refine qE 4 #[.slice θ L.length ε,.slice ι Y.length η] 50 ?_;intro Z hg w7 hbox hb;have X:=Aside0.mk hbox;have τ :=sGe hg;have b7:=sGe hg;have aj:=sNl δ hg;have ak:=sNg δ hg;replace δ :=sBk δ hb;replace HB:=sHb hb;clear hb hbox hg)|((with_reducible refine Qe (N:=5) rfl ?_);refine qE 5 #[.int .i64 ξ,.int .i64 ρ,.int .i64 σ] 36 ?_;intro a8 hg w8 hbox hb;have O:=Aside0.mk hbox;have br:=sGe hg;have bs:=sGe hg;have al:=sNl δ hg;have am:=sNg δ hg;have an:=sNl X hg;have ao:=sNg X hg;replace δ :=sBk δ hb;replace X:=sBk X hb;replace HB:=sHb hb;clear hb hbox hg)|((with_reducible refine Qe (N:=6) rfl ?_);refine qE 6 #[.slice none 0 0,.slice none 0 0] 50 ?_;intro ζ hg w9 hbox hb;have γ:=Aside0.mk hbox;have bu:=sGe hg;have bv:=sGe hg;have ν :=sNl δ hg;have a5:=sNg δ hg;have φ :=sNl X hg;have a6:=sNg X hg;have κ :=sNl O hg;have a7:=sNg O hg;replace δ :=sBk δ hb;replace X:=sBk X hb;replace O:=sBk O hb;replace HB:=sHb hb;clear hb hbox hg))
 replace δ :=Aside0.mk (Qd δ.out)
 replace X:=Aside0.mk (Qd X.out)
 replace O:=Aside0.mk (Qd O.out)
 replace γ:=Aside0.mk (Qd γ.out)
 replace HB:=Aside0.mk (Qf HB.out)
 refine Zn (n:=19) (S:=fun w'=>w'.cell? ⟨μ,0,none⟩=some (.int .i64 J)∧w'.cell? ⟨μ,1,none⟩=some (.int .i64 B)∧w'.cell? ⟨Z,0,none⟩=some (.slice θ L.length ε)∧w'.cell? ⟨Z,1,none⟩=some (.slice ι Y.length η)∧w'.cell? ⟨a8,0,none⟩=some (.int .i64 ξ)∧w'.cell? ⟨a8,1,none⟩=some (.int .i64 ρ)∧w'.cell? ⟨a8,2,none⟩=some (.int .i64 σ)) (ds:=[]) #[false,false,false,false,false,false,false,false,false,false,false,false,false,false,false,false,false,false,false] kr rfl rfl ⟨(Qa δ.out 0).trans rfl,(Qa δ.out 1).trans rfl,(Qa X.out 0).trans rfl,(Qa X.out 1).trans rfl,(Qa O.out 0).trans rfl,(Qa O.out 1).trans rfl,(Qa O.out 2).trans rfl⟩ (fun hHeld=>?_);refine Q8 call_Give.Kq call_Give.Y6 (fun HT_ HW_=>?_)
 generalize w9.drew=ig at δ X O γ HB hHeld ⊢
 refine qP 13 (some 21) (bN 19 8192) HT_ ?_
 refine qT 0 (some 8) (bN 19 8193) HT_ HW_ hHeld ?_
 refine qT 1 (some 9) (bN 19 8195) HT_ HW_ hHeld ?_
 refine qT 2 (some 10) (bN 19 8199) HT_ HW_ hHeld ?_
 refine qT 4 (some 12) (bN 19 8215) HT_ HW_ hHeld ?_
 refine qT 6 (some 14) (bN 19 8279) HT_ HW_ hHeld ?_
 refine qT 9 (some 17) (bN 19 8791) HT_ HW_ hHeld ?_
 refine qT 10 (some 18) (bN 19 9815) HT_ HW_ hHeld ?_
 refine Ze (i:=3) (N:=some 11) (bN 19 9823) rfl rfl (Q5 HT_.out kr) (by decide) (fun K hK=>?_)
 refine Zd Try.func65 kr rfl #[.agg #[.int .i64 J,.int .i64 B]] (by rfl) rfl rfl qM ?_
 refine(Jc J B _).mono ?_
 rintro e ap ⟨aa,rfl,hgp,hgw,hb⟩
 have ab:=Aside0.mk hgp
 clear hgp hgw
 refine⟨_,rfl, ?_⟩
 replace δ :=sBk δ hb
 replace X:=sBk X hb
 replace O:=sBk O hb
 replace γ:=sBk γ hb
 replace HB:=sHb hb
 (try clear hb)
 (try clear a9)
 (try clear hk)
 (try clear hi)
 refine hK.out _ _ ⟨qc δ,qc δ,qc X,qc X,qc O,qc O,qc O⟩ (fun hHeld=>?_)
 clear hK K
 refine qN (some 11) ?_
 refine Ze (i:=5) (N:=some 13) (bN 19 9855) rfl rfl (Q5 HT_.out kr) (by decide) (fun K hK=>?_)
 refine Xy Try.func82 kr rfl #[] #[.pointer (some ⟨aa,0,none⟩)] #[.agg #[.int .i64 ξ,.int .i64 ρ,.int .i64 σ]] #[.agg #[.int .i64 ξ,.int .i64 ρ,.int .i64 σ],.pointer (some ⟨aa,0,none⟩)] rfl (by rfl) rfl rfl rfl qM ?_
 refine(Gb J B ξ ρ σ a2 _ (Option.some.inj A4.out) aa ab.out).mono ?_
 rintro e el ⟨rfl,hb⟩
 refine⟨_,rfl, ?_⟩
 replace δ :=sBk δ hb
 replace X:=sBk X hb
 replace O:=sBk O hb
 replace γ:=sBk γ hb
 replace HB:=sHb hb
 (try clear hb)
 (try clear a9)
 (try clear hk)
 (try clear hi)
 refine hK.out _ _ ⟨qc δ,qc δ,qc X,qc X,qc O,qc O,qc O⟩ (fun hHeld=>?_)
 clear hK K
 refine qN (some 13) ?_
 refine Ze (i:=7) (N:=some 15) (bN 19 9983) rfl rfl (Q5 HT_.out kr) (by decide) (fun K hK=>?_)
 refine Zd Try.func63 kr rfl #[.agg #[.slice θ L.length ε,.slice ι Y.length η]] (by rfl) rfl rfl qM ?_
 refine(Jt θ ι L.length Y.length ε η _).mono ?_
 rintro e ar ⟨rfl,hb⟩
 refine⟨_,rfl, ?_⟩
 replace δ :=sBk δ hb
 replace X:=sBk X hb
 replace O:=sBk O hb
 replace γ:=sBk γ hb
 replace HB:=sHb hb
 (try clear hb)
 (try clear a9)
 (try clear hk)
 (try clear hi)
 refine hK.out _ _ ⟨qc δ,qc δ,qc X,qc X,qc O,qc O,qc O⟩ (fun hHeld=>?_)
 clear hK K
 refine qN (some 15) ?_
 refine qP 8 (some 16) (bN 19 10239) HT_ ?_
 refine Ze (i:=11) (N:=some 19) (bN 19 12287) rfl rfl (Q5 HT_.out kr) (by decide) (fun K hK=>?_)
 refine Zd Try.func66 kr rfl #[.agg #[.slice θ L.length ε,.slice ι Y.length η]] (by rfl) rfl rfl qM ?_
 refine(K3 θ ι L.length Y.length ε η _).mono ?_
 rintro e b5 ⟨rfl,hb⟩
 refine⟨_,rfl, ?_⟩
 replace δ :=sBk δ hb
 replace X:=sBk X hb
 replace O:=sBk O hb
 replace γ:=sBk γ hb
 replace HB:=sHb hb
 (try clear hb)
 (try clear a9)
 (try clear hk)
 (try clear hi)
 refine hK.out _ _ ⟨qc δ,qc δ,qc X,qc X,qc O,qc O,qc O⟩ (fun hHeld=>?_)
 clear hK K
 refine qN (some 19) ?_
 refine qP 12 (some 20) (bN 19 16383) HT_ ?_
 refine Ze (i:=14) (N:=some 22) (bN 19 32767) rfl rfl (Q5 HT_.out kr) (by decide) (fun K hK=>?_)
 refine Zd Try.func73 kr rfl #[.agg #[.int .i64 J,.int .i64 B],.agg #[.slice θ L.length ε,.slice ι Y.length η],.bool a2,.func (.func 74) #[.agg #[.slice θ L.length ε,.func (.func 79) #[] #[]]] #[],.agg #[.int .i64 ξ,.int .i64 ρ,.int .i64 σ],.func (.func 75) #[.agg #[.slice ι Y.length η,.func (.func 83) #[] #[]]] #[],.agg #[.int .i64 (-2),.int .i64 0]] (by rfl) rfl rfl qM ?_
 refine(call_change.calls _ _ k J B θ ε L ι η Y a2 0 ξ ρ σ 0 (-2) 0 χ a3 a1 _ ?side1 ?side2 ?side3 ?side4 A5.out 74 Try.f74 (.agg #[.slice θ L.length ε,.func (.func 79) #[] #[]]) Try.func74 kr rfl (fun W t ht hb=>Vb θ ε L _ _ _ t W (Kd.Qt (Kd.Qt ψ.out (by repeat(first|(with_reducible first|exact HB.out|apply Qo|apply Qi|apply Qf)|exact HB.out|(refine Qp ?_ (Aside0.out (by assumption)))))) hb) b1.out ht) 75 Try.f75 (.agg #[.slice ι Y.length η,.func (.func 83) #[] #[]]) Try.func75 kr rfl (fun W t ht hb=>Vy ι η Y _ _ t W (Kd.Qt (Kd.Qt a0.out (by repeat(first|(with_reducible first|exact HB.out|apply Qo|apply Qi|apply Qf)|exact HB.out|(refine Qp ?_ (Aside0.out (by assumption)))))) hb) b2.out ht)).mono ?_
 (case side1=>exact(Kd.Qt ψ.out HB.out))
 (case side2=>exact b1.out)
 (case side3=>exact(Kd.Qt a0.out HB.out))
 (case side4=>exact b2.out)
 rintro e ep ⟨cb,ca,rfl,ai,b3,hb⟩
 refine⟨_,rfl, ?_⟩
 have b6:=Aside0.mk (Kd.Q9 (Kd.Jz ai (g:=a8) (o:=.cells #[.int .i64 ξ,.int .i64 ρ,.int .i64 σ] 36 (0,0)) O.out) (Qr HB.out))
 have a4:=Aside0.mk (Kd.Q9 b3 (Qr HB.out))
 replace δ :=sBk δ hb
 replace X:=sBk X hb
 replace O:=sBk O hb
 replace γ:=sBk γ hb
 replace HB:=sHb hb
 (try clear hb)
 (try clear a9)
 (try clear hk)
 (try clear hi)
 (try clear ai)
 (try clear b3)
 obtain⟨b8,ah,bl⟩:=Kd.Q7 b6.out
 (first|subst bl|(injection bl with aw bh ax;have bi:=aw.symm;have bj:=ax.symm;clear aw bh ax;subst bi;subst bj))
 obtain⟨ae,ag,ac⟩:=Kd.Q7 a4.out
 (first|subst ac|(injection ac with aw bh ax;have bi:=aw.symm;have bj:=ax.symm;clear aw bh ax;subst bi;subst bj))
 refine hK.out _ _ ⟨qc δ,qc δ,qc X,qc X,qc O,qc O,qc O⟩ (fun hHeld=>?_)
 clear hK K
 refine qN (some 22) ?_
 refine qP 15 (some 23) (bN 19 65535) HT_ ?_
 refine qP 16 (some 24) (bN 19 131071) HT_ ?_
 refine Ze (i:=17) (N:=none) (bN 19 262143) rfl rfl (Q5 HT_.out kr) (by decide) (fun K hK=>?_)
 have cd:ep.cell? ⟨ζ,0,none⟩=some (.slice none 0 0):=(Qa γ.out 0).trans rfl
 have bw:=Qq γ.out 0
 have az:= ν.out
 have b9:= φ.out
 have bc:= κ.out
 have bd:=a5.out
 have be:=a6.out
 have bf:=a7.out
 have ce:ep.cell? ⟨ζ,1,none⟩=some (.slice none 0 0):=(Qa γ.out 1).trans rfl
 have bz:=Qq γ.out 1
 have bg:= ν.out
 have bk:= φ.out
 have bn:= κ.out
 have bo:=a5.out
 have bp:=a6.out
 have bq:=a7.out
 refine V2 (w1:=?_) (by rfl) rfl ?_ ?_
 rotate_left
 ·go_simp
  rfl
 refine hK.out _ _ ⟨((cell_far (p:=⟨ζ,_,none⟩) ν.out _).trans (((cell_far (p:=⟨ζ,_,none⟩) ν.out _).trans (hHeld.1)))),((cell_far (p:=⟨ζ,_,none⟩) ν.out _).trans (((cell_far (p:=⟨ζ,_,none⟩) ν.out _).trans (hHeld.2.1)))),((cell_far (p:=⟨ζ,_,none⟩) φ.out _).trans (((cell_far (p:=⟨ζ,_,none⟩) φ.out _).trans (hHeld.2.2.1)))),((cell_far (p:=⟨ζ,_,none⟩) φ.out _).trans (((cell_far (p:=⟨ζ,_,none⟩) φ.out _).trans (hHeld.2.2.2.1)))),((cell_far (p:=⟨ζ,_,none⟩) κ.out _).trans (((cell_far (p:=⟨ζ,_,none⟩) κ.out _).trans (hHeld.2.2.2.2.1)))),((cell_far (p:=⟨ζ,_,none⟩) κ.out _).trans (((cell_far (p:=⟨ζ,_,none⟩) κ.out _).trans (hHeld.2.2.2.2.2.1)))),((cell_far (p:=⟨ζ,_,none⟩) κ.out _).trans (((cell_far (p:=⟨ζ,_,none⟩) κ.out _).trans (hHeld.2.2.2.2.2.2))))⟩ (fun hHeld=>?_)
 clear hK K
 refine qP 18 (some 7) (bN 19 524287) HT_ ?_
 refine Z5 (Zm HT_.out kr) ?_
 try go_wp2
 refine bodyPost_ret (Z3 rfl _ _ ζ 50 #[.slice b8 χ.length ah,.slice ae a3.length ag] (0,0) _ rfl (by refine Qm (cs:=#[.slice b8 χ.length ah,.slice none 0 0]) ?_ 1 _ rfl;refine Qm (cs:=#[.slice none 0 0,.slice none 0 0]) ?_ 0 _ rfl;exact γ.out) Try.underlying50 rfl kr) rfl ?_
 exact⟨_,_,by first|rfl|(simp[Qh,Qg] <;> rfl)|(simp[*,Qh,Qg] <;> rfl),by(with_reducible repeat first|apply Kd.Qw|apply Kd.Qv|apply Kd.Q1);exact Kd.Qz (Kd.Qu (Kd.Qu (Kd.Q6 b6.out γ.out (by decide)) (fun _ hk=>hk.2) _) (fun _ hk=>hk.2) _) (fun _ hk=>trivial),by(with_reducible repeat first|apply Kd.Qw|apply Kd.Qv|apply Kd.Q1);exact Kd.Qz (Kd.Qu (Kd.Qu (Kd.Q6 a4.out γ.out (by decide)) (fun _ hk=>hk.2) _) (fun _ hk=>hk.2) _) (fun _ hk=>trivial),bel⟩
end Go.Proofs.Ytmfffemidlhcpaa.C
namespace Go.Proofs.Ytmfffemidlhcpaa.Call
open Go.RowKit Go.Proofs.YtmfffemidlhcpaaW.PrintWords Go.Proofs.YtmfffemidlhcpaaW.PrintLast Go.Proofs.YtmfffemidlhcpaaW.PrintMore Go.Proofs.Ytmfffemidlhcpaa.C
set_option linter.unusedVariables false
set_option linter.unusedSimpArgs false
abbrev Hall:=S36
abbrev Ins:=S86
def i64 (x:Int):Prop:= -9223372036854775808≤x∧x≤9223372036854775807
theorem Xc (a lo hi:Int):call_within.f a lo hi=some (decide (lo≤a∧a≤hi)):=by
  unfold call_within.f
  by_cases h:lo≤a <;> simp[h]
def okB (F C:Int) (H:List Hall) (I:List Ins):Bool:=decide (2≤F∧F≤64)&&(decide (1≤C∧C≤8)&&(Zf (fun x=>Xk F C x.f0 x.f1 x.f2) ltH none H&&Zf (fun x=>Jv F C x.f0 x.f1) ltI none I))
theorem J4 {n:Nat} {C:Int} (h:n<1000000000) (hC:i64 C):small n C=true:=decide_eq_true ⟨h,hC.1,hC.2⟩
theorem Yg (k:Nat) (F C:Int) (H:List Hall) (I:List Ins) (hH:H.length<900000000) (hI:I.length<900000000) (hC:i64 C):call_Check.f (k+1) F C H I=some (if okB F C H I=true then 0 else 190):=by
  unfold call_Check.f rightP_H.f rightP_I.f okB
  rw[Xc,Xc,if_pos (J4 (by omega) hC),if_pos (J4 (by omega) hC)]
  simp only[Option.bind_some]
  cases decide (2≤F∧F≤64) <;> cases decide (1≤C∧C≤8) <;> cases Zf (fun x:Hall=>Xk F C x.f0 x.f1 x.f2) ltH none H <;> cases Zf (fun x:Ins=>Jv F C x.f0 x.f1) ltI none I <;> simp[call_Check.j0]
theorem Li (U:Option (List Hall)) (V:Option (List Ins)) (k:Nat) (F C:Int) (H:List Hall) (I:List Ins) (is:Bool) (a3 B J L a5 O X:Int) (hH:H.length<900000000) (hI:I.length<900000000) (hC:i64 C):
    call_change.f U V (k+1) F C H I is a3 B J L a5 O X=if okB F C H I=true then (if is=true then U.bind fun a=>V.bind fun b=>some (a,b,0) else some ([],[],191)) else some ([],[],190):=by
  unfold call_change.f
  rw[Yg k F C H I hH hI hC]
  cases okB F C H I <;> simp
theorem K7 {F C:Int} {H:List Hall} {I:List Ins}:okB F C H I=true↔((2≤F∧F≤64)∧(1≤C∧C≤8)∧((∀ x ∈ H,Xk F C x.f0 x.f1 x.f2=true)∧H.Pairwise (fun x y=>ltH x y=true))∧((∀ x ∈ I,Jv F C x.f0 x.f1=true)∧I.Pairwise (fun x y=>ltI x y=true))):=by
  unfold okB
  simp only[Bool.and_eq_true,decide_eq_true_eq]
  rw[Ja,V8]
theorem U6 (x:Int) (h:1≤x∧x≤64):wrap64 (x-1)=x-1:=by unfold wrap64;omega
theorem L6 {F C:Int} {B J Y:Int} (hF:2≤F∧F≤64) (hC:1≤C∧C≤8):Xk F C B J Y=true↔((J=1∨J = -1)∧(0≤B∧B≤F-1)∧(0≤B+J∧B+J≤F-1)∧(-1≤Y∧Y≤C-1)):=by
  unfold Xk
  rw[decide_eq_true_eq,U6 F (by omega),U6 C (by omega)]
  constructor
  · rintro⟨h1,L,O,Z⟩
    rw[show wrap64 (B+J)=B+J from by unfold wrap64;omega] at O
    exact⟨h1,L,O,Z⟩
  · rintro⟨h1,L,O,Z⟩
    rw[show wrap64 (B+J)=B+J from by unfold wrap64;omega]
    exact⟨h1,L,O,Z⟩
theorem M5 {F C:Int} {B J:Int} (hF:2≤F∧F≤64) (hC:1≤C∧C≤8):Jv F C B J=true↔((0≤B∧B≤C-1)∧(0≤J∧J≤F-1)):=by
  unfold Jv
  rw[decide_eq_true_eq,U6 F (by omega),U6 C (by omega)]
theorem V6 {F C:Int} {H:List Hall} {I:List Ins} (h:okB F C H I=true):Zf (fun _=>true) ltH none H=true:=(Ja _ _).2 ⟨fun _ _=>rfl,(K7.1 h).2.2.1.2⟩
theorem Lo {F C:Int} {H:List Hall} {I:List Ins} (h:okB F C H I=true) (B J:Int) (hx:B<0):woI B J I=I:=by
  obtain⟨hF,hC,_,h1,_⟩:=K7.1 h
  unfold woI
  rw[List.filter_eq_self]
  intro y hy
  have:=(M5 hF hC).1 (h1 y hy)
  have hne:¬ X2 B J y.f0 y.f1=0:=by rw[Kt];omega
  simp[hne]
def Ui (F C:Int) (H:List Hall) (I:List Ins) (fl dir car:Int):List Hall×List Ins×Int:=
  if okB F C H I=true then (if Xk F C fl dir car=true then (Va ⟨fl,dir,car⟩ H,I,0) else ([],[],191)) else ([],[],190)
theorem Na (k:Nat) (F C:Int) (H:List Hall) (I:List Ins) (fl dir car:Int) (hH:H.length<900000000) (hI:I.length<900000000) (hC:i64 C) (hd:i64 dir):
    call_Give.f (k+1) F C H I fl dir car=some (Ui F C H I fl dir car):=by
  unfold call_Give.f hallP.f Ui
  rw[Option.bind_some,Li _ _ k F C H I _ _ _ _ _ _ _ _ hH hI hC]
  cases hok:okB F C H I
  · rfl
  · cases hb:Xk F C fl dir car
    · rfl
    · simp only[eq_self,if_true]
      unfold setP_H.f woP_I.f
      rw[if_pos ⟨J4 (by omega) hd,V6 hok⟩,if_pos (J4 (by omega) (by unfold i64;omega)),Lo hok _ _ (by omega)]
      rfl
end Go.Proofs.Ytmfffemidlhcpaa.Call
namespace Go.Proofs.Ytmfffemidlhcpaa.C
open Go.RowKit Go.Proofs.YtmfffemidlhcpaaW.PrintWords Go.Proofs.YtmfffemidlhcpaaW.PrintLast Go.Proofs.YtmfffemidlhcpaaW.PrintMore
attribute [local go_sem] Zx Zv Z8 Z7 Zl Zk Zw Zu
set_option linter.unusedVariables false
set_option linter.unusedSimpArgs false
def group_hall.f (k:Nat) (J:Int) (B:Int) (Z:Int) (Y:Int) (ε :Int):Option (Bool):=(call_Give.f k J B ([]:List (S36)) ([]:List (S86)) Z Y ε).bind fun X=>(some (X.2.2==0))
theorem group_hall.mono:∀ B O a2 a3 L k,LeO (group_hall.f k B O a2 a3 L) (group_hall.f (k+1) B O a2 a3 L):=by
 intro B O a2 a3 L k
 unfold group_hall.f
 repeat' first
   |(with_reducible exact call_Give.mono _ _ _ _ _ _ _ _)
   |(with_reducible exact LeO.refl _)
   |(with_reducible exact LeO.none _)
   |(with_reducible refine LeO.ite ?_ ?_)
   |(with_reducible refine LeO.bind ?_ (fun _=>?_))
   |exact call_Give.mono _ _ _ _ _ _ _ _
   |exact LeO.none _
   |refine LeO.ite ?_ ?_
   |refine LeO.bind ?_ (fun _=>?_)
set_option maxHeartbeats 8000000 in
set_option maxRecDepth 100000 in
theorem group_hall.calls (k:Nat) (J:Int) (B:Int) (Z:Int) (Y:Int) (ε :Int) (r:Bool) (w:World) (h:group_hall.f k J B Z Y ε = some r):
  Calls Try.prog 30 #[.agg #[.int .i64 J,.int .i64 B],.agg #[.int .i64 Z,.int .i64 Y,.int .i64 ε]] w fun e w'=>e = .returned (.bool r)∧Below w.heap.size w w':=by
 have dr:=Try.underlying59
 have d9:=Try.underlying36
 have fe:=Try.underlying50
 have HB:=Aside0.mk (Below.refl w.heap.size w)
 have H:((call_Give.f k J B ([]:List (S36)) ([]:List (S86)) Z Y ε).bind fun X=>(some (X.2.2==0)))=some r:=h
 clear h
 replace H:=Option.bind_eq_some_iff.mp H
 obtain⟨⟨σ,τ,ν⟩,ap,H⟩:=H
 replace H:(some (ν == 0))=some r:=H
 have A3:=Aside0.mk ap
 clear ap
 obtain rfl:=Option.some.inj H
 go_enter Try.func30,Try.ntmps30
 go_wp2_with (first|((with_reducible refine Qe (N:=2) rfl ?_);refine qE 2 #[.int .i64 J,.int .i64 B] 59 ?_;intro φ hg w4 hbox hb;have L:=Aside0.mk hbox;have ω :=sGe hg;have a1:=sGe hg;replace HB:=sHb hb;clear hb hbox hg)|((with_reducible refine Qe (N:=3) rfl ?_);refine qE 3 #[.int .i64 Z,.int .i64 Y,.int .i64 ε] 36 ?_;intro ξ hg w5 hbox hb;have O:=Aside0.mk hbox;have a2:=sGe hg;have a3:=sGe hg;have ζ :=sNl L hg;have η :=sNg L hg;replace L:=sBk L hb;replace HB:=sHb hb;clear hb hbox hg;have a8:= ζ.out;have aa:= η.out;obtain⟨au,av,az,b9⟩:=qD2 L.out;obtain⟨a7,ab,bg,cr,ct,cu⟩:=qD3 O.out)|((with_reducible refine Ql (f:=51) rfl ?_);refine Q2 (some 11) rfl rfl Try.func51 kr rfl #[.agg #[.int .i64 J,.int .i64 B],.agg #[.slice none 0 0,.slice none 0 0],.agg #[.int .i64 Z,.int .i64 Y,.int .i64 ε]] rfl qM ?_;(refine(call_Give.calls k J B _ _ ([]:List (S36)) _ _ ([]:List (S86)) Z Y ε σ τ ν _ ?side1 ?side2 ?side3 ?side4 A3.out).mono ?_);(case side1=>exact Kd.Yn _ _);(case side2=>exact Nat.le_refl _);(case side3=>exact Kd.Yn _ _);(case side4=>exact Nat.le_refl _);rintro e w9 ⟨af,ah,rfl,ai,b3,hb⟩;refine⟨_,rfl, ?_⟩;have γ:=Aside0.mk (Kd.Q9 (Kd.Jz ai (g:= ξ) (o:=.cells #[.int .i64 Z,.int .i64 Y,.int .i64 ε] 36 (0,0)) O.out) (Qr HB.out));have δ :=Aside0.mk (Kd.Q9 b3 (Qr HB.out));replace L:=sBk L hb;replace O:=sBk O hb;replace HB:=sHb hb;(try clear hb);(try clear a9);(try clear hk);(try clear hi);(try clear ai);(try clear b3))|((with_reducible refine Qe (N:=5) rfl ?_);refine qE 5 #[.slice none 0 0,.slice none 0 0] 50 ?_;intro a4 hg ig hbox hb;have ρ:=Aside0.mk hbox;have a5:=sGe hg;have a6:=sGe hg;have θ :=sNl L hg;have ι :=sNg L hg;have κ :=sNl O hg;have μ :=sNg O hg;replace γ:=sRb γ hb;replace δ :=sRb δ hb;replace L:=sBk L hb;replace O:=sBk O hb;replace HB:=sHb hb;clear hb hbox hg;obtain⟨ψ,a0,χ⟩:=Kd.Q7 γ.out;subst χ;have gb:= ι.out;have ge:= θ.out;have j2:= μ.out;have j3:= κ.out;obtain⟨cg,ch,ci,cj⟩:=qD2 ρ.out;obtain⟨ae,ag,ac⟩:=Kd.Q7 δ.out;subst ac))
 go_ret
 exact⟨by first|rfl|(simp[Qh,Qg] <;> rfl)|(simp[*,Qh,Qg] <;> rfl),bel⟩
def group_Cost.f (k:Nat) (J:Int) (B:Int) (L:Int) (O:Int) (X:Int) (δ :Int) (γ:Int) (θ :Int) (η :Int) (ζ :Int) (Z:Int) (Y:Int) (ε :Int) (κ :Int) (ι :Int) (μ :Int) (ν :Int) (χ :Int) (ψ :Bool) (a1:Bool) (τ :List Int) (a0:List Int) (a3:List Int) (a4:Int) (a5:Int) (a6:Int):Option (Int×Int):=(group_lift.f k J B L O X δ γ θ η ζ Z Y ε κ ι μ ν χ ψ a1).bind fun cv=>(if cv=true then ((collect_Check.f k J 0 0 false false τ a0 a3).bind fun ai=>(if ai=0 then ((group_hall.f k J 8 a4 a5 a6).bind fun b9=>(if b9=true then ((group_cost.f k J B L O X δ γ θ η ζ Z Y ε κ ι μ ν χ ψ a1 τ a0 a3 a4 a5 a6).bind fun b1=>(some (b1,0))) else (some (0,210)))) else (some (0,210)))) else (some (0,210)))
theorem group_Cost.mono:∀ B O a2 a3 L a5 X a7 a8 a9 Y Z γ ε δ ζ η J θ ι κ μ ν ξ ρ σ k,LeO (group_Cost.f k B O a2 a3 L a5 X a7 a8 a9 Y Z γ ε δ ζ η J θ ι κ μ ν ξ ρ σ) (group_Cost.f (k+1) B O a2 a3 L a5 X a7 a8 a9 Y Z γ ε δ ζ η J θ ι κ μ ν ξ ρ σ):=by
 intro B O a2 a3 L a5 X a7 a8 a9 Y Z γ ε δ ζ η J θ ι κ μ ν ξ ρ σ k
 unfold group_Cost.f
 repeat' first
   |(with_reducible exact collect_Check.mono _ _ _ _ _ _ _ _ _)
   |(with_reducible exact group_cost.mono _ _ _ _ _ _ _ _ _ _ _ _ _ _ _ _ _ _ _ _ _ _ _ _ _ _ _)
   |(with_reducible exact group_hall.mono _ _ _ _ _ _)
   |(with_reducible exact group_lift.mono _ _ _ _ _ _ _ _ _ _ _ _ _ _ _ _ _ _ _ _ _)
   |(with_reducible exact LeO.refl _)
   |(with_reducible exact LeO.none _)
   |(with_reducible refine LeO.ite ?_ ?_)
   |(with_reducible refine LeO.bind ?_ (fun _=>?_))
   |exact collect_Check.mono _ _ _ _ _ _ _ _ _
   |exact group_cost.mono _ _ _ _ _ _ _ _ _ _ _ _ _ _ _ _ _ _ _ _ _ _ _ _ _ _ _
   |exact group_hall.mono _ _ _ _ _ _
   |exact group_lift.mono _ _ _ _ _ _ _ _ _ _ _ _ _ _ _ _ _ _ _ _ _
   |exact LeO.none _
   |refine LeO.ite ?_ ?_
   |refine LeO.bind ?_ (fun _=>?_)
set_option maxHeartbeats 8000000 in
set_option maxRecDepth 100000 in
theorem group_Cost.calls (k:Nat) (J:Int) (B:Int) (L:Int) (O:Int) (X:Int) (δ :Int) (γ:Int) (θ :Int) (η :Int) (ζ :Int) (Z:Int) (Y:Int) (ε :Int) (κ :Int) (ι :Int) (μ :Int) (ν :Int) (χ :Int) (ψ :Bool) (a1:Bool) (aa:Option Addr) (ab:Nat) (τ :List Int) (ac:Option Addr) (af:Nat) (a0:List Int) (ae:Option Addr) (ag:Nat) (a3:List Int) (a4:Int) (a5:Int) (a6:Int) (r1:Int) (r2:Int) (w:World) (bd:Kd.C (Kd.int .i64) w aa τ.length τ) (be: τ.length≤ab) (br:Kd.C (Kd.int .i64) w ac a0.length a0) (bz:a0.length≤af) (de:Kd.C (Kd.int .i64) w ae a3.length a3) (dl:a3.length≤ag) (h:group_Cost.f k J B L O X δ γ θ η ζ Z Y ε κ ι μ ν χ ψ a1 τ a0 a3 a4 a5 a6=some (r1,r2)):
  Calls Try.prog 10 #[.agg #[.int .i64 J,.int .i64 B,.int .i64 L,.int .i64 O,.int .i64 X,.int .i64 δ,.int .i64 γ,.int .i64 θ,.int .i64 η,.int .i64 ζ],.agg #[.int .i64 Z,.int .i64 Y,.int .i64 ε,.int .i64 κ,.int .i64 ι,.int .i64 μ,.int .i64 ν,.int .i64 χ,.bool ψ,.bool a1],.agg #[.slice aa τ.length ab,.slice ac a0.length af,.slice ae a3.length ag],.agg #[.int .i64 a4,.int .i64 a5,.int .i64 a6]] w fun e w'=>e = .returned (.tuple #[.int .i64 r1,.int .i64 r2])∧Below w.heap.size w w':=by
 have db:=Try.underlying25
 have fc:=Try.underlying31
 have dt:=Try.underlying34
 have d9:=Try.underlying36
 have jw:=Try.underlying76
 have dr:=Try.underlying59
 have df:=Aside0.mk bd
 have dj:=Aside0.mk be
 clear bd be
 have dk:=Aside0.mk br
 have dn:=Aside0.mk bz
 clear br bz
 have dp:=Aside0.mk de
 have dq:=Aside0.mk dl
 clear de dl
 have HB:=Aside0.mk (Below.refl w.heap.size w)
 have H:((group_lift.f k J B L O X δ γ θ η ζ Z Y ε κ ι μ ν χ ψ a1).bind fun cv=>(if cv=true then ((collect_Check.f k J 0 0 false false τ a0 a3).bind fun ai=>(if ai=0 then ((group_hall.f k J 8 a4 a5 a6).bind fun b9=>(if b9=true then ((group_cost.f k J B L O X δ γ θ η ζ Z Y ε κ ι μ ν χ ψ a1 τ a0 a3 a4 a5 a6).bind fun b1=>(some (b1,0))) else (some (0,210)))) else (some (0,210)))) else (some (0,210))))=some (r1,r2):=h
 clear h
 replace H:=Option.bind_eq_some_iff.mp H
 obtain⟨cv,bm,H⟩:=H
 replace H:(if cv=true then ((collect_Check.f k J 0 0 false false τ a0 a3).bind fun ai=>(if ai=0 then ((group_hall.f k J 8 a4 a5 a6).bind fun b9=>(if b9=true then ((group_cost.f k J B L O X δ γ θ η ζ Z Y ε κ ι μ ν χ ψ a1 τ a0 a3 a4 a5 a6).bind fun b1=>(some (b1,0))) else (some (0,210)))) else (some (0,210)))) else (some (0,210)))=some (r1,r2):=H
 have A5:=Aside0.mk bm
 clear bm
 by_cases c6:cv=true
 ·subst c6
  have H1:((collect_Check.f k J 0 0 false false τ a0 a3).bind fun ai=>(if ai=0 then ((group_hall.f k J 8 a4 a5 a6).bind fun b9=>(if b9=true then ((group_cost.f k J B L O X δ γ θ η ζ Z Y ε κ ι μ ν χ ψ a1 τ a0 a3 a4 a5 a6).bind fun b1=>(some (b1,0))) else (some (0,210)))) else (some (0,210))))=some (r1,r2):=by rw[if_pos rfl] at H;exact H
  clear H
  have H:=H1
  clear H1
  replace H:=Option.bind_eq_some_iff.mp H
  obtain⟨ai,cw,H⟩:=H
  replace H:(if ai=0 then ((group_hall.f k J 8 a4 a5 a6).bind fun b9=>(if b9=true then ((group_cost.f k J B L O X δ γ θ η ζ Z Y ε κ ι μ ν χ ψ a1 τ a0 a3 a4 a5 a6).bind fun b1=>(some (b1,0))) else (some (0,210)))) else (some (0,210)))=some (r1,r2):=H
  have A7:=Aside0.mk cw
  clear cw
  by_cases c8:ai=0
  ·rw[if_pos c8] at H
   have c8b0:(ai==0)=true:=beq_iff_eq.mpr c8
   have c8b1:(ai != 0)=false:=bne_eq_false_iff_eq.mpr c8
   clear c8
   replace H:=Option.bind_eq_some_iff.mp H
   obtain⟨b9,cg,H⟩:=H
   replace H:(if b9=true then ((group_cost.f k J B L O X δ γ θ η ζ Z Y ε κ ι μ ν χ ψ a1 τ a0 a3 a4 a5 a6).bind fun b1=>(some (b1,0))) else (some (0,210)))=some (r1,r2):=H
   have A9:=Aside0.mk cg
   clear cg
   by_cases c10:b9=true
   ·subst c10
    have H1:((group_cost.f k J B L O X δ γ θ η ζ Z Y ε κ ι μ ν χ ψ a1 τ a0 a3 a4 a5 a6).bind fun b1=>(some (b1,0)))=some (r1,r2):=by rw[if_pos rfl] at H;exact H
    clear H
    have H:=H1
    clear H1
    replace H:=Option.bind_eq_some_iff.mp H
    obtain⟨b1,bc,H⟩:=H
    replace H:(some (b1,0))=some (r1,r2):=H
    have ea:=Aside0.mk bc
    clear bc
    simp only[Option.some.injEq,Prod.mk.injEq] at H
    obtain⟨rfl,rfl⟩:=H
    go_enter Try.func10,Try.ntmps10
    go_wp2_with (first|((with_reducible refine Qe (N:=4) rfl ?_);refine qE 4 #[.int .i64 J,.int .i64 B,.int .i64 L,.int .i64 O,.int .i64 X,.int .i64 δ,.int .i64 γ,.int .i64 θ,.int .i64 η,.int .i64 ζ] 25 ?_;intro ba hg ep hbox hb;have ρ:=Aside0.mk hbox;have d2:=sGe hg;have bg:=sGe hg;replace HB:=sHb hb;clear hb hbox hg)|((with_reducible refine Qe (N:=5) rfl ?_);refine qE 5 #[.int .i64 Z,.int .i64 Y,.int .i64 ε,.int .i64 κ,.int .i64 ι,.int .i64 μ,.int .i64 ν,.int .i64 χ,.bool ψ,.bool a1] 31 ?_;intro bs hg ek hbox hb;have σ:=Aside0.mk hbox;have d3:=sGe hg;have bu:=sGe hg;have aj:=sNl ρ hg;have ak:=sNg ρ hg;replace ρ:=sBk ρ hb;replace HB:=sHb hb;clear hb hbox hg)|((with_reducible refine Qe (N:=6) rfl ?_);refine qE 6 #[.slice aa τ.length ab,.slice ac a0.length af,.slice ae a3.length ag] 34 ?_;intro bv hg bq hbox hb;have a2:=Aside0.mk hbox;have d7:=sGe hg;have bw:=sGe hg;have al:=sNl ρ hg;have ao:=sNg ρ hg;have ap:=sNl σ hg;have ar:=sNg σ hg;replace ρ:=sBk ρ hb;replace σ:=sBk σ hb;replace HB:=sHb hb;clear hb hbox hg)|((with_reducible refine Qe (N:=7) rfl ?_);refine qE 7 #[.int .i64 a4,.int .i64 a5,.int .i64 a6] 36 ?_;intro cb hg gs hbox hb;have a8:=Aside0.mk hbox;have dv:=sGe hg;have cd:=sGe hg;have aw:=sNl ρ hg;have ax:=sNg ρ hg;have ay:=sNl σ hg;have b0:=sNg σ hg;have b2:=sNl a2 hg;have b3:=sNg a2 hg;replace ρ:=sBk ρ hb;replace σ:=sBk σ hb;replace a2:=sBk a2 hb;replace HB:=sHb hb;clear hb hbox hg;have e0:=aj.out;have e7:=ak.out;have ie:=al.out;have ig:=ao.out;have cj:=aw.out;have d1:=ax.out;obtain⟨am,an,az,bh,bi,bj,bk,ce,di,ec,au,av,b4,bl,bn,bo,bp,ed,ee,ef⟩:=Za ρ.out;have ez:=ap.out;have f8:=ar.out;have fl:=ay.out;have fm:=b0.out;obtain⟨bf,cr,d8,h0,h7,h8,h9,fa,fb,fz,ct,cu,da,hh,hj,hl,ho,i9,ih,ii⟩:=Za σ.out)|((with_reducible refine Ql (f:=28) rfl ?_);refine Q2 (some 12) rfl rfl Try.func28 kr rfl #[.agg #[.int .i64 J,.int .i64 B,.int .i64 L,.int .i64 O,.int .i64 X,.int .i64 δ,.int .i64 γ,.int .i64 θ,.int .i64 η,.int .i64 ζ],.agg #[.int .i64 Z,.int .i64 Y,.int .i64 ε,.int .i64 κ,.int .i64 ι,.int .i64 μ,.int .i64 ν,.int .i64 χ,.bool ψ,.bool a1]] rfl qM ?_;(with_reducible refine(group_lift.calls k J B L O X δ γ θ η ζ Z Y ε κ ι μ ν χ ψ a1 true _ A5.out).mono ?_);rintro e bb ⟨rfl,hb⟩;refine⟨_,rfl, ?_⟩;replace ρ:=sBk ρ hb;replace σ:=sBk σ hb;replace a2:=sBk a2 hb;replace a8:=sBk a8 hb;replace HB:=sHb hb;(try clear hb);(try clear a9);(try clear hk);(try clear hi);obtain⟨b5,b6,ca,fr,g0,g1,g5,g6,g7,g8,b7,b8,cf,ga,gi,gj,gl,gm,gn,gp⟩:=Za ρ.out;have en:=b2.out;have et:=b3.out;obtain⟨eg,eh,el,ei,ej,em⟩:=qD3 a2.out)|(go_at_call 29;(with_reducible refine(collect_Check.calls k J 0 0 false false (fun k_=>k_<w.heap.size) _ _ τ (fun k_=>k_<w.heap.size) _ _ a0 (fun k_=>k_<w.heap.size) _ _ a3 ai _ ?side1 ?side2 ?side3 A7.out).mono ?_);(case side1=>exact Kd.Gj dj.out (Kd.Xo (Kd.C_F (Kd.Xx .i64) df.out) (by repeat(first|(with_reducible first|exact HB.out|apply Qo|apply Qi|apply Qf|refine Qp ?_ bg.out|refine Qp ?_ bu.out|refine Qp ?_ bw.out|refine Qp ?_ cd.out)|exact HB.out))));(case side2=>exact Kd.Gj dn.out (Kd.Xo (Kd.C_F (Kd.Xx .i64) dk.out) (by repeat(first|(with_reducible first|exact HB.out|apply Qo|apply Qi|apply Qf|refine Qp ?_ bg.out|refine Qp ?_ bu.out|refine Qp ?_ bw.out|refine Qp ?_ cd.out)|exact HB.out))));(case side3=>exact Kd.Gj dq.out (Kd.Xo (Kd.C_F (Kd.Xx .i64) dp.out) (by repeat(first|(with_reducible first|exact HB.out|apply Qo|apply Qi|apply Qf|refine Qp ?_ bg.out|refine Qp ?_ bu.out|refine Qp ?_ bw.out|refine Qp ?_ cd.out)|exact HB.out))));rintro e dm ⟨rfl,hb⟩;have ξ :=Aside0.mk (Qs (g:=ba) (o:=.cells #[.int .i64 J,.int .i64 B,.int .i64 L,.int .i64 O,.int .i64 X,.int .i64 δ,.int .i64 γ,.int .i64 θ,.int .i64 η,.int .i64 ζ] 25 (0,0)) (by(with_reducible repeat first|refine Qj ?_ _|refine Qd ?_|refine Qk ?_ _);exact ρ.out) hb);have φ :=Aside0.mk (Qs (g:=bs) (o:=.cells #[.int .i64 Z,.int .i64 Y,.int .i64 ε,.int .i64 κ,.int .i64 ι,.int .i64 μ,.int .i64 ν,.int .i64 χ,.bool ψ,.bool a1] 31 (0,0)) (by(with_reducible repeat first|refine Qj ?_ _|refine Qd ?_|refine Qk ?_ _);exact σ.out) hb);have ω :=Aside0.mk (Qs (g:=bv) (o:=.cells #[.slice aa τ.length ab,.slice ac a0.length af,.slice ae a3.length ag] 34 (0,0)) (by(with_reducible repeat first|refine Qj ?_ _|refine Qd ?_|refine Qk ?_ _);exact a2.out) hb);have a7:=Aside0.mk (Qs (g:=cb) (o:=.cells #[.int .i64 a4,.int .i64 a5,.int .i64 a6] 36 (0,0)) (by(with_reducible repeat first|refine Qj ?_ _|refine Qd ?_|refine Qk ?_ _);exact a8.out) hb);have ah:=Aside0.mk (Qx (by repeat(first|(with_reducible first|exact HB.out|apply Qo|apply Qi|apply Qf|refine Qp ?_ bg.out|refine Qp ?_ bu.out|refine Qp ?_ bw.out|refine Qp ?_ cd.out)|exact HB.out)) hb);clear ρ;clear σ;clear a2;clear a8;clear HB;have ρ:= ξ;have σ:= φ;have a2:= ω;have a8:=a7;have HB:=ah;clear ξ φ ω a7 ah;(try clear hb);(try clear a9);(try clear hk);(try clear hi);obtain⟨d4,dw,e8,jx,l3,l4,l5,l6,l7,lw,d5,e9,eb,lx,mc,me,mf,mg,mh,mi⟩:=Za ρ.out;obtain⟨ft,fu,fv,fw,fx,fy⟩:=qD3 a8.out)|(go_at_call 30;(with_reducible refine(group_hall.calls k J 8 a4 a5 a6 true _ A9.out).mono ?_);rintro e eo ⟨rfl,hb⟩;have ξ :=Aside0.mk (Qs (g:=ba) (o:=.cells #[.int .i64 J,.int .i64 B,.int .i64 L,.int .i64 O,.int .i64 X,.int .i64 δ,.int .i64 γ,.int .i64 θ,.int .i64 η,.int .i64 ζ] 25 (0,0)) (by(with_reducible repeat first|refine Qj ?_ _|refine Qd ?_|refine Qk ?_ _);exact ρ.out) hb);have φ :=Aside0.mk (Qs (g:=bs) (o:=.cells #[.int .i64 Z,.int .i64 Y,.int .i64 ε,.int .i64 κ,.int .i64 ι,.int .i64 μ,.int .i64 ν,.int .i64 χ,.bool ψ,.bool a1] 31 (0,0)) (by(with_reducible repeat first|refine Qj ?_ _|refine Qd ?_|refine Qk ?_ _);exact σ.out) hb);have ω :=Aside0.mk (Qs (g:=bv) (o:=.cells #[.slice aa τ.length ab,.slice ac a0.length af,.slice ae a3.length ag] 34 (0,0)) (by(with_reducible repeat first|refine Qj ?_ _|refine Qd ?_|refine Qk ?_ _);exact a2.out) hb);have a7:=Aside0.mk (Qs (g:=cb) (o:=.cells #[.int .i64 a4,.int .i64 a5,.int .i64 a6] 36 (0,0)) (by(with_reducible repeat first|refine Qj ?_ _|refine Qd ?_|refine Qk ?_ _);exact a8.out) hb);have ah:=Aside0.mk (Qx (by repeat(first|(with_reducible first|exact HB.out|apply Qo|apply Qi|apply Qf|refine Qp ?_ bg.out|refine Qp ?_ bu.out|refine Qp ?_ bw.out|refine Qp ?_ cd.out)|exact HB.out)) hb);clear ρ;clear σ;clear a2;clear a8;clear HB;have ρ:= ξ;have σ:= φ;have a2:= ω;have a8:=a7;have HB:=ah;clear ξ φ ω a7 ah;(try clear hb);(try clear a9);(try clear hk);(try clear hi);obtain⟨ck,cm,cn,fe,ff,fg,fh,ij,ip,iq,co,cp,cq,fi,fk,fp,fq,ir,it,iu⟩:=Za ρ.out;obtain⟨fj,hu,hx,jy,jz,k0,k1,mj,ml,mm,hy,i0,i1,k2,k3,k4,k5,mo,mq,mr⟩:=Za σ.out;obtain⟨dc,dd,dy,du,dx,dz⟩:=qD3 a2.out;obtain⟨ch,d6,g2,ci,g3,g4⟩:=qD3 a8.out)|((with_reducible refine Ql (f:=31) rfl ?_);refine Q2 (some 34) rfl rfl Try.func31 kr rfl #[.agg #[.int .i64 J,.int .i64 B,.int .i64 L,.int .i64 O,.int .i64 X,.int .i64 δ,.int .i64 γ,.int .i64 θ,.int .i64 η,.int .i64 ζ],.agg #[.int .i64 Z,.int .i64 Y,.int .i64 ε,.int .i64 κ,.int .i64 ι,.int .i64 μ,.int .i64 ν,.int .i64 χ,.bool ψ,.bool a1],.agg #[.slice aa τ.length ab,.slice ac a0.length af,.slice ae a3.length ag],.agg #[.int .i64 a4,.int .i64 a5,.int .i64 a6]] rfl qM ?_;(with_reducible refine(group_cost.calls k J B L O X δ γ θ η ζ Z Y ε κ ι μ ν χ ψ a1 _ _ τ _ _ a0 _ _ a3 a4 a5 a6 b1 _ ?side1 ?side2 ?side3 ?side4 ?side5 ?side6 ea.out).mono ?_);(case side1=>exact(Kd.Qt df.out HB.out));(case side2=>exact dj.out);(case side3=>exact(Kd.Qt dk.out HB.out));(case side4=>exact dn.out);(case side5=>exact(Kd.Qt dp.out HB.out));(case side6=>exact dq.out);rintro e l8 ⟨rfl,hb⟩;refine⟨_,rfl, ?_⟩;replace ρ:=sBk ρ hb;replace σ:=sBk σ hb;replace a2:=sBk a2 hb;replace a8:=sBk a8 hb;replace HB:=sHb hb;(try clear hb);(try clear a9);(try clear hk);(try clear hi)))
    go_ret2
    exact⟨rfl,HB.out⟩
   ·replace c10:=Bool.eq_false_iff.mpr c10
    subst c10
    have H1:(some (0,210))=some (r1,r2):=by rw[if_neg (show ¬ (false=true) by decide)] at H;exact H
    clear H
    have H:=H1
    clear H1
    simp only[Option.some.injEq,Prod.mk.injEq] at H
    obtain⟨rfl,rfl⟩:=H
    go_enter Try.func10,Try.ntmps10
    go_wp2_with (first|((with_reducible refine Qe (N:=4) rfl ?_);refine qE 4 #[.int .i64 J,.int .i64 B,.int .i64 L,.int .i64 O,.int .i64 X,.int .i64 δ,.int .i64 γ,.int .i64 θ,.int .i64 η,.int .i64 ζ] 25 ?_;intro ba hg ev hbox hb;have ρ:=Aside0.mk hbox;have d2:=sGe hg;have bg:=sGe hg;replace HB:=sHb hb;clear hb hbox hg)|((with_reducible refine Qe (N:=5) rfl ?_);refine qE 5 #[.int .i64 Z,.int .i64 Y,.int .i64 ε,.int .i64 κ,.int .i64 ι,.int .i64 μ,.int .i64 ν,.int .i64 χ,.bool ψ,.bool a1] 31 ?_;intro bs hg eu hbox hb;have σ:=Aside0.mk hbox;have d3:=sGe hg;have bu:=sGe hg;have aj:=sNl ρ hg;have ak:=sNg ρ hg;replace ρ:=sBk ρ hb;replace HB:=sHb hb;clear hb hbox hg)|((with_reducible refine Qe (N:=6) rfl ?_);refine qE 6 #[.slice aa τ.length ab,.slice ac a0.length af,.slice ae a3.length ag] 34 ?_;intro bv hg kq hbox hb;have a2:=Aside0.mk hbox;have d7:=sGe hg;have bw:=sGe hg;have al:=sNl ρ hg;have ao:=sNg ρ hg;have ap:=sNl σ hg;have ar:=sNg σ hg;replace ρ:=sBk ρ hb;replace σ:=sBk σ hb;replace HB:=sHb hb;clear hb hbox hg)|((with_reducible refine Qe (N:=7) rfl ?_);refine qE 7 #[.int .i64 a4,.int .i64 a5,.int .i64 a6] 36 ?_;intro cb hg j8 hbox hb;have a8:=Aside0.mk hbox;have dv:=sGe hg;have cd:=sGe hg;have aw:=sNl ρ hg;have ax:=sNg ρ hg;have ay:=sNl σ hg;have b0:=sNg σ hg;have b2:=sNl a2 hg;have b3:=sNg a2 hg;replace ρ:=sBk ρ hb;replace σ:=sBk σ hb;replace a2:=sBk a2 hb;replace HB:=sHb hb;clear hb hbox hg;have ik:=aj.out;have il:=ak.out;have im:=al.out;have io:=ao.out;have ew:=aw.out;have ey:=ax.out;obtain⟨k6,k7,k8,k9,ka,kb,kc,ms,mt,mu,kd,ke,kf,kg,kh,ki,kj,mw,my,mz⟩:=Za ρ.out;have ib:=ap.out;have ic:=ar.out;have ha:=ay.out;have he:=b0.out;obtain⟨g9,gf,iw,ix,iy,iz,j2,n0,n1,n2,gg,gh,j3,j4,j5,j6,j7,n3,na,nb⟩:=Za σ.out)|((with_reducible refine Ql (f:=28) rfl ?_);refine Q2 (some 12) rfl rfl Try.func28 kr rfl #[.agg #[.int .i64 J,.int .i64 B,.int .i64 L,.int .i64 O,.int .i64 X,.int .i64 δ,.int .i64 γ,.int .i64 θ,.int .i64 η,.int .i64 ζ],.agg #[.int .i64 Z,.int .i64 Y,.int .i64 ε,.int .i64 κ,.int .i64 ι,.int .i64 μ,.int .i64 ν,.int .i64 χ,.bool ψ,.bool a1]] rfl qM ?_;(with_reducible refine(group_lift.calls k J B L O X δ γ θ η ζ Z Y ε κ ι μ ν χ ψ a1 true _ A5.out).mono ?_);rintro e l9 ⟨rfl,hb⟩;refine⟨_,rfl, ?_⟩;replace ρ:=sBk ρ hb;replace σ:=sBk σ hb;replace a2:=sBk a2 hb;replace a8:=sBk a8 hb;replace HB:=sHb hb;(try clear hb);(try clear a9);(try clear hk);(try clear hi);obtain⟨e3,e4,gb,ge,gk,gt,gu,gv,gw,gx,e5,e6,gy,gz,h4,h5,h6,i2,i3,i4⟩:=Za ρ.out;have iv:=b2.out;have j9:=b3.out;obtain⟨gq,i5,i6,gr,i7,ia⟩:=qD3 a2.out)|(go_at_call 29;(with_reducible refine(collect_Check.calls k J 0 0 false false (fun k_=>k_<w.heap.size) _ _ τ (fun k_=>k_<w.heap.size) _ _ a0 (fun k_=>k_<w.heap.size) _ _ a3 ai _ ?side1 ?side2 ?side3 A7.out).mono ?_);(case side1=>exact Kd.Gj dj.out (Kd.Xo (Kd.C_F (Kd.Xx .i64) df.out) HB.out));(case side2=>exact Kd.Gj dn.out (Kd.Xo (Kd.C_F (Kd.Xx .i64) dk.out) HB.out));(case side3=>exact Kd.Gj dq.out (Kd.Xo (Kd.C_F (Kd.Xx .i64) dp.out) HB.out));rintro e q4 ⟨rfl,hb⟩;have ξ :=Aside0.mk (Qs (g:=ba) (o:=.cells #[.int .i64 J,.int .i64 B,.int .i64 L,.int .i64 O,.int .i64 X,.int .i64 δ,.int .i64 γ,.int .i64 θ,.int .i64 η,.int .i64 ζ] 25 (0,0)) ρ.out hb);have φ :=Aside0.mk (Qs (g:=bs) (o:=.cells #[.int .i64 Z,.int .i64 Y,.int .i64 ε,.int .i64 κ,.int .i64 ι,.int .i64 μ,.int .i64 ν,.int .i64 χ,.bool ψ,.bool a1] 31 (0,0)) σ.out hb);have ω :=Aside0.mk (Qs (g:=bv) (o:=.cells #[.slice aa τ.length ab,.slice ac a0.length af,.slice ae a3.length ag] 34 (0,0)) a2.out hb);have a7:=Aside0.mk (Qs (g:=cb) (o:=.cells #[.int .i64 a4,.int .i64 a5,.int .i64 a6] 36 (0,0)) a8.out hb);have ah:=Aside0.mk (Qx HB.out hb);clear ρ;clear σ;clear a2;clear a8;clear HB;have ρ:= ξ;have σ:= φ;have a2:= ω;have a8:=a7;have HB:=ah;clear ξ φ ω a7 ah;(try clear hb);(try clear a9);(try clear hk);(try clear hi);obtain⟨cx,cy,jd,nc,nd,nf,ng,nh,ni,nj,cz,d0,je,nk,nl,nm,nn,no,np,nq⟩:=Za ρ.out;obtain⟨kk,kl,km,kv,kw,kx⟩:=qD3 a8.out)|(go_at_call 30;(with_reducible refine(group_hall.calls k J 8 a4 a5 a6 false _ A9.out).mono ?_);rintro e q0 ⟨rfl,hb⟩;have ξ :=Aside0.mk (Qs (g:=ba) (o:=.cells #[.int .i64 J,.int .i64 B,.int .i64 L,.int .i64 O,.int .i64 X,.int .i64 δ,.int .i64 γ,.int .i64 θ,.int .i64 η,.int .i64 ζ] 25 (0,0)) ρ.out hb);have φ :=Aside0.mk (Qs (g:=bs) (o:=.cells #[.int .i64 Z,.int .i64 Y,.int .i64 ε,.int .i64 κ,.int .i64 ι,.int .i64 μ,.int .i64 ν,.int .i64 χ,.bool ψ,.bool a1] 31 (0,0)) σ.out hb);have ω :=Aside0.mk (Qs (g:=bv) (o:=.cells #[.slice aa τ.length ab,.slice ac a0.length af,.slice ae a3.length ag] 34 (0,0)) a2.out hb);have a7:=Aside0.mk (Qs (g:=cb) (o:=.cells #[.int .i64 a4,.int .i64 a5,.int .i64 a6] 36 (0,0)) a8.out hb);have ah:=Aside0.mk (Qx HB.out hb);clear ρ;clear σ;clear a2;clear a8;clear HB;have ρ:= ξ;have σ:= φ;have a2:= ω;have a8:=a7;have HB:=ah;clear ξ φ ω a7 ah;(try clear hb);(try clear a9);(try clear hk);(try clear hi)))
    go_ret2
    exact⟨rfl,HB.out⟩
  ·rw[if_neg c8] at H
   have c8b0:(ai==0)=false:=beq_eq_false_iff_ne.mpr c8
   have c8b1:(ai != 0)=true:=bne_iff_ne.mpr c8
   simp only[Option.some.injEq,Prod.mk.injEq] at H
   obtain⟨rfl,rfl⟩:=H
   go_enter Try.func10,Try.ntmps10
   go_wp2_with (first|((with_reducible refine Qe (N:=4) rfl ?_);refine qE 4 #[.int .i64 J,.int .i64 B,.int .i64 L,.int .i64 O,.int .i64 X,.int .i64 δ,.int .i64 γ,.int .i64 θ,.int .i64 η,.int .i64 ζ] 25 ?_;intro ba hg q1 hbox hb;have ρ:=Aside0.mk hbox;have d2:=sGe hg;have bg:=sGe hg;replace HB:=sHb hb;clear hb hbox hg)|((with_reducible refine Qe (N:=5) rfl ?_);refine qE 5 #[.int .i64 Z,.int .i64 Y,.int .i64 ε,.int .i64 κ,.int .i64 ι,.int .i64 μ,.int .i64 ν,.int .i64 χ,.bool ψ,.bool a1] 31 ?_;intro bs hg dh hbox hb;have σ:=Aside0.mk hbox;have d3:=sGe hg;have bu:=sGe hg;have aj:=sNl ρ hg;have ak:=sNg ρ hg;replace ρ:=sBk ρ hb;replace HB:=sHb hb;clear hb hbox hg)|((with_reducible refine Qe (N:=6) rfl ?_);refine qE 6 #[.slice aa τ.length ab,.slice ac a0.length af,.slice ae a3.length ag] 34 ?_;intro bv hg q2 hbox hb;have a2:=Aside0.mk hbox;have d7:=sGe hg;have bw:=sGe hg;have al:=sNl ρ hg;have ao:=sNg ρ hg;have ap:=sNl σ hg;have ar:=sNg σ hg;replace ρ:=sBk ρ hb;replace σ:=sBk σ hb;replace HB:=sHb hb;clear hb hbox hg)|((with_reducible refine Qe (N:=7) rfl ?_);refine qE 7 #[.int .i64 a4,.int .i64 a5,.int .i64 a6] 36 ?_;intro cb hg q5 hbox hb;have a8:=Aside0.mk hbox;have dv:=sGe hg;have cd:=sGe hg;have aw:=sNl ρ hg;have ax:=sNg ρ hg;have ay:=sNl σ hg;have b0:=sNg σ hg;have b2:=sNl a2 hg;have b3:=sNg a2 hg;replace ρ:=sBk ρ hb;replace σ:=sBk σ hb;replace a2:=sBk a2 hb;replace HB:=sHb hb;clear hb hbox hg;have jp:=aj.out;have jq:=ak.out;have fn:=al.out;have fo:=ao.out;have jh:=aw.out;have ji:=ax.out;obtain⟨er,ja,nr,ns,nt,nu,nv,nw,nx,ny,jb,jc,nz,o0,o1,o2,o3,o4,o5,o6⟩:=Za ρ.out;have jj:=ap.out;have jk:=ar.out;have jr:=ay.out;have js:=b0.out;obtain⟨lb,lc,lf,lg,lh,ll,lm,o7,o8,o9,ln,lp,lq,lr,ls,lu,lv,oa,ob,oc⟩:=Za σ.out)|((with_reducible refine Ql (f:=28) rfl ?_);refine Q2 (some 12) rfl rfl Try.func28 kr rfl #[.agg #[.int .i64 J,.int .i64 B,.int .i64 L,.int .i64 O,.int .i64 X,.int .i64 δ,.int .i64 γ,.int .i64 θ,.int .i64 η,.int .i64 ζ],.agg #[.int .i64 Z,.int .i64 Y,.int .i64 ε,.int .i64 κ,.int .i64 ι,.int .i64 μ,.int .i64 ν,.int .i64 χ,.bool ψ,.bool a1]] rfl qM ?_;(with_reducible refine(group_lift.calls k J B L O X δ γ θ η ζ Z Y ε κ ι μ ν χ ψ a1 true _ A5.out).mono ?_);rintro e qf ⟨rfl,hb⟩;refine⟨_,rfl, ?_⟩;replace ρ:=sBk ρ hb;replace σ:=sBk σ hb;replace a2:=sBk a2 hb;replace a8:=sBk a8 hb;replace HB:=sHb hb;(try clear hb);(try clear a9);(try clear hk);(try clear hi);obtain⟨ly,lz,m0,m1,m2,m3,m4,od,oe,oh,m5,m6,m7,m8,m9,ma,mb,oi,oj,ol⟩:=Za ρ.out;have kn:=b2.out;have ko:=b3.out;obtain⟨om,oo,oq,ot,ou,ov⟩:=qD3 a2.out)|(go_at_call 29;(with_reducible refine(collect_Check.calls k J 0 0 false false (fun k_=>k_<w.heap.size) _ _ τ (fun k_=>k_<w.heap.size) _ _ a0 (fun k_=>k_<w.heap.size) _ _ a3 ai _ ?side1 ?side2 ?side3 A7.out).mono ?_);(case side1=>exact Kd.Gj dj.out (Kd.Xo (Kd.C_F (Kd.Xx .i64) df.out) HB.out));(case side2=>exact Kd.Gj dn.out (Kd.Xo (Kd.C_F (Kd.Xx .i64) dk.out) HB.out));(case side3=>exact Kd.Gj dq.out (Kd.Xo (Kd.C_F (Kd.Xx .i64) dp.out) HB.out));rintro e q6 ⟨rfl,hb⟩;have ξ :=Aside0.mk (Qs (g:=ba) (o:=.cells #[.int .i64 J,.int .i64 B,.int .i64 L,.int .i64 O,.int .i64 X,.int .i64 δ,.int .i64 γ,.int .i64 θ,.int .i64 η,.int .i64 ζ] 25 (0,0)) ρ.out hb);have φ :=Aside0.mk (Qs (g:=bs) (o:=.cells #[.int .i64 Z,.int .i64 Y,.int .i64 ε,.int .i64 κ,.int .i64 ι,.int .i64 μ,.int .i64 ν,.int .i64 χ,.bool ψ,.bool a1] 31 (0,0)) σ.out hb);have ω :=Aside0.mk (Qs (g:=bv) (o:=.cells #[.slice aa τ.length ab,.slice ac a0.length af,.slice ae a3.length ag] 34 (0,0)) a2.out hb);have a7:=Aside0.mk (Qs (g:=cb) (o:=.cells #[.int .i64 a4,.int .i64 a5,.int .i64 a6] 36 (0,0)) a8.out hb);have ah:=Aside0.mk (Qx HB.out hb);clear ρ;clear σ;clear a2;clear a8;clear HB;have ρ:= ξ;have σ:= φ;have a2:= ω;have a8:=a7;have HB:=ah;clear ξ φ ω a7 ah;(try clear hb);(try clear a9);(try clear hk);(try clear hi)))
   go_ret2
   exact⟨rfl,HB.out⟩
 ·replace c6:=Bool.eq_false_iff.mpr c6
  subst c6
  have H1:(some (0,210))=some (r1,r2):=by rw[if_neg (show ¬ (false=true) by decide)] at H;exact H
  clear H
  have H:=H1
  clear H1
  simp only[Option.some.injEq,Prod.mk.injEq] at H
  obtain⟨rfl,rfl⟩:=H
  go_enter Try.func10,Try.ntmps10
  go_wp2_with (first|((with_reducible refine Qe (N:=4) rfl ?_);refine qE 4 #[.int .i64 J,.int .i64 B,.int .i64 L,.int .i64 O,.int .i64 X,.int .i64 δ,.int .i64 γ,.int .i64 θ,.int .i64 η,.int .i64 ζ] 25 ?_;intro ba hg q7 hbox hb;have ρ:=Aside0.mk hbox;have d2:=sGe hg;have bg:=sGe hg;replace HB:=sHb hb;clear hb hbox hg)|((with_reducible refine Qe (N:=5) rfl ?_);refine qE 5 #[.int .i64 Z,.int .i64 Y,.int .i64 ε,.int .i64 κ,.int .i64 ι,.int .i64 μ,.int .i64 ν,.int .i64 χ,.bool ψ,.bool a1] 31 ?_;intro bs hg q8 hbox hb;have σ:=Aside0.mk hbox;have d3:=sGe hg;have bu:=sGe hg;have aj:=sNl ρ hg;have ak:=sNg ρ hg;replace ρ:=sBk ρ hb;replace HB:=sHb hb;clear hb hbox hg)|((with_reducible refine Qe (N:=6) rfl ?_);refine qE 6 #[.slice aa τ.length ab,.slice ac a0.length af,.slice ae a3.length ag] 34 ?_;intro bv hg q3 hbox hb;have a2:=Aside0.mk hbox;have d7:=sGe hg;have bw:=sGe hg;have al:=sNl ρ hg;have ao:=sNg ρ hg;have ap:=sNl σ hg;have ar:=sNg σ hg;replace ρ:=sBk ρ hb;replace σ:=sBk σ hb;replace HB:=sHb hb;clear hb hbox hg)|((with_reducible refine Qe (N:=7) rfl ?_);refine qE 7 #[.int .i64 a4,.int .i64 a5,.int .i64 a6] 36 ?_;intro cb hg q9 hbox hb;have a8:=Aside0.mk hbox;have dv:=sGe hg;have cd:=sGe hg;have aw:=sNl ρ hg;have ax:=sNg ρ hg;have ay:=sNl σ hg;have b0:=sNg σ hg;have b2:=sNl a2 hg;have b3:=sNg a2 hg;replace ρ:=sBk ρ hb;replace σ:=sBk σ hb;replace a2:=sBk a2 hb;replace HB:=sHb hb;clear hb hbox hg;have jt:=aj.out;have ju:=ak.out;have jv:=al.out;have ky:=ao.out;have kz:=aw.out;have l2:=ax.out;obtain⟨jf,jg,jl,ow,ox,oy,oz,p0,p1,p5,jm,jn,jo,p6,p7,p8,p9,pa,pb,pc⟩:=Za ρ.out;have kp:=ap.out;have ks:=ar.out;have kt:=ay.out;have ku:=b0.out;obtain⟨pd,pe,pf,pg,pi,pj,pk,pm,pn,po,pp,pq,pr,pt,pu,pv,pw,px,py,pz⟩:=Za σ.out)|((with_reducible refine Ql (f:=28) rfl ?_);refine Q2 (some 12) rfl rfl Try.func28 kr rfl #[.agg #[.int .i64 J,.int .i64 B,.int .i64 L,.int .i64 O,.int .i64 X,.int .i64 δ,.int .i64 γ,.int .i64 θ,.int .i64 η,.int .i64 ζ],.agg #[.int .i64 Z,.int .i64 Y,.int .i64 ε,.int .i64 κ,.int .i64 ι,.int .i64 μ,.int .i64 ν,.int .i64 χ,.bool ψ,.bool a1]] rfl qM ?_;(with_reducible refine(group_lift.calls k J B L O X δ γ θ η ζ Z Y ε κ ι μ ν χ ψ a1 false _ A5.out).mono ?_);rintro e qa ⟨rfl,hb⟩;refine⟨_,rfl, ?_⟩;replace ρ:=sBk ρ hb;replace σ:=sBk σ hb;replace a2:=sBk a2 hb;replace a8:=sBk a8 hb;replace HB:=sHb hb;(try clear hb);(try clear a9);(try clear hk);(try clear hi)))
  go_ret2
  exact⟨rfl,HB.out⟩
mutual
def group_Check.j0:Nat→List (S31)→Bool→Int→Int→Int→Int→Int→Int→Int→Int→Int→Int→List (S36)→List (S86)→Option (Int)
 |0,_,_,_,_,_,_,_,_,_,_,_,_,_,_=>none
 |k+1,J,ρ,O,X,Y,Z,γ,δ,ε,ζ,η,θ,ι,κ =>if ρ=true then (some 210) else (group_Check.l0 k J J (J.length:Int) 0 O X Y Z γ δ ε ζ η θ ι κ)
def group_Check.l0:Nat→List (S31)→List (S31)→Int→Int→Int→Int→Int→Int→Int→Int→Int→Int→Int→Int→List (S36)→List (S86)→Option (Int)
 |0,_,_,_,_,_,_,_,_,_,_,_,_,_,_,_,_=>none
 |k+1,J,B,μ,L,O,X,Y,Z,γ,δ,ε,ζ,η,θ,ι,κ =>if L < μ then (if 0≤L then (if L<(B.length:Int) then ((group_lift.f k O X Y Z γ δ ε ζ η θ ((Qb B L).f0.f0) ((Qb B L).f0.f1) ((Qb B L).f0.f2) ((Qb B L).f0.f3) ((Qb B L).f0.f4.f0) ((Qb B L).f0.f4.f1) ((Qb B L).f0.f4.f2) ((Qb B L).f1) ((Qb B L).f2) ((Qb B L).f3)).bind fun ay=>(if ay=true then (group_Check.l0 k J B μ (wrap64 (L+1)) O X Y Z γ δ ε ζ η θ ι κ) else (some 210))) else (none)) else (none)) else ((group_house.f O X Y Z γ δ ε ζ η θ J).bind fun ν =>((call_Check.f k ν.1 ν.2 ι κ).bind fun ao=>(some ao)))
end
def group_Check.f (k:Nat) (J:Int) (B:Int) (L:Int) (O:Int) (X:Int) (δ :Int) (γ:Int) (θ :Int) (η :Int) (ζ :Int) (l1:List (S31)) (τ :List (S36)) (a0:List (S86)):Option (Int):=if (l1.length:Int)<1 then (group_Check.j0 k l1 true J B L O X δ γ θ η ζ τ a0) else (group_Check.j0 k l1 (decide ((l1.length:Int)>8)) J B L O X δ γ θ η ζ τ a0)
theorem group_Check.Zi:∀ k,(∀ L O X B Y Z y6 y7 y8 y9 γ ε ζ η,LeO (group_Check.j0 k L O X B Y Z y6 y7 y8 y9 γ ε ζ η) (group_Check.j0 (k+1) L O X B Y Z y6 y7 y8 y9 γ ε ζ η))∧(∀ L O X B Y Z y6 y7 y8 y9 γ ε ζ η θ ι,LeO (group_Check.l0 k L O X B Y Z y6 y7 y8 y9 γ ε ζ η θ ι) (group_Check.l0 (k+1) L O X B Y Z y6 y7 y8 y9 γ ε ζ η θ ι))
 |0=>⟨fun _ _ _ _ _ _ _ _ _ _ _ _ _ _ r h=>by simp[group_Check.j0] at h,fun _ _ _ _ _ _ _ _ _ _ _ _ _ _ _ _ r h=>by simp[group_Check.l0] at h⟩
 |k+1=>by
  obtain⟨J,δ⟩:=group_Check.Zi k
  refine⟨?_, ?_⟩
  ·intro L O X B Y Z y6 y7 y8 y9 γ ε ζ η
   unfold group_Check.j0
   repeat' first
   |(with_reducible exact J _ _ _ _ _ _ _ _ _ _ _ _ _ _)
   |(with_reducible exact δ _ _ _ _ _ _ _ _ _ _ _ _ _ _ _ _)
   |(with_reducible exact call_Check.mono _ _ _ _ _)
   |(with_reducible exact group_lift.mono _ _ _ _ _ _ _ _ _ _ _ _ _ _ _ _ _ _ _ _ _)
   |(with_reducible exact LeO.refl _)
   |(with_reducible exact LeO.none _)
   |(with_reducible refine LeO.ite ?_ ?_)
   |(with_reducible refine LeO.bind ?_ (fun _=>?_))
   |exact J _ _ _ _ _ _ _ _ _ _ _ _ _ _
   |exact δ _ _ _ _ _ _ _ _ _ _ _ _ _ _ _ _
   |exact call_Check.mono _ _ _ _ _
   |exact group_lift.mono _ _ _ _ _ _ _ _ _ _ _ _ _ _ _ _ _ _ _ _ _
   |exact LeO.none _
   |refine LeO.ite ?_ ?_
   |refine LeO.bind ?_ (fun _=>?_)
  ·intro L O X B Y Z y6 y7 y8 y9 γ ε ζ η θ ι
   unfold group_Check.l0
   repeat' first
   |(with_reducible exact J _ _ _ _ _ _ _ _ _ _ _ _ _ _)
   |(with_reducible exact δ _ _ _ _ _ _ _ _ _ _ _ _ _ _ _ _)
   |(with_reducible exact call_Check.mono _ _ _ _ _)
   |(with_reducible exact group_lift.mono _ _ _ _ _ _ _ _ _ _ _ _ _ _ _ _ _ _ _ _ _)
   |(with_reducible exact LeO.refl _)
   |(with_reducible exact LeO.none _)
   |(with_reducible refine LeO.ite ?_ ?_)
   |(with_reducible refine LeO.bind ?_ (fun _=>?_))
   |exact J _ _ _ _ _ _ _ _ _ _ _ _ _ _
   |exact δ _ _ _ _ _ _ _ _ _ _ _ _ _ _ _ _
   |exact call_Check.mono _ _ _ _ _
   |exact group_lift.mono _ _ _ _ _ _ _ _ _ _ _ _ _ _ _ _ _ _ _ _ _
   |exact LeO.none _
   |refine LeO.ite ?_ ?_
   |refine LeO.bind ?_ (fun _=>?_)
theorem group_Check.mono:∀ B O a2 a3 L a5 X a7 a8 a9 Y Z γ k,LeO (group_Check.f k B O a2 a3 L a5 X a7 a8 a9 Y Z γ) (group_Check.f (k+1) B O a2 a3 L a5 X a7 a8 a9 Y Z γ):=by
 intro B O a2 a3 L a5 X a7 a8 a9 Y Z γ k
 obtain⟨J,δ⟩:=group_Check.Zi k
 unfold group_Check.f
 repeat' first
   |(with_reducible exact J _ _ _ _ _ _ _ _ _ _ _ _ _ _)
   |(with_reducible exact δ _ _ _ _ _ _ _ _ _ _ _ _ _ _ _ _)
   |(with_reducible exact call_Check.mono _ _ _ _ _)
   |(with_reducible exact group_lift.mono _ _ _ _ _ _ _ _ _ _ _ _ _ _ _ _ _ _ _ _ _)
   |(with_reducible exact LeO.refl _)
   |(with_reducible exact LeO.none _)
   |(with_reducible refine LeO.ite ?_ ?_)
   |(with_reducible refine LeO.bind ?_ (fun _=>?_))
   |exact J _ _ _ _ _ _ _ _ _ _ _ _ _ _
   |exact δ _ _ _ _ _ _ _ _ _ _ _ _ _ _ _ _
   |exact call_Check.mono _ _ _ _ _
   |exact group_lift.mono _ _ _ _ _ _ _ _ _ _ _ _ _ _ _ _ _ _ _ _ _
   |exact LeO.none _
   |refine LeO.ite ?_ ?_
   |refine LeO.bind ?_ (fun _=>?_)
set_option maxHeartbeats 8000000 in
set_option maxRecDepth 100000 in
theorem group_Check.calls (k:Nat) (J:Int) (B:Int) (L:Int) (O:Int) (X:Int) (δ :Int) (γ:Int) (θ :Int) (η :Int) (ζ :Int) (A1:Option Addr) (c1:Nat) (l1:List (S31)) (aa:Option Addr) (ab:Nat) (τ :List (S36)) (ac:Option Addr) (af:Nat) (a0:List (S86)) (r:Int) (w:World) (dt:Kd.C k31 w A1 l1.length l1) (dl:l1.length≤c1) (bd:Kd.C k36 w aa τ.length τ) (be: τ.length≤ab) (br:Kd.C k86 w ac a0.length a0) (bz:a0.length≤af) (h:group_Check.f k J B L O X δ γ θ η ζ l1 τ a0=some r):
  Calls Try.prog 17 #[.agg #[.int .i64 J,.int .i64 B,.int .i64 L,.int .i64 O,.int .i64 X,.int .i64 δ,.int .i64 γ,.int .i64 θ,.int .i64 η,.int .i64 ζ],.slice A1 l1.length c1,.agg #[.slice aa τ.length ab,.slice ac a0.length af]] w fun e w'=>e = .returned (.int .i64 r)∧Below w.heap.size w w':=by
 have db:=Try.underlying25
 have fe:=Try.underlying50
 have fc:=Try.underlying31
 have de:=Aside0.mk dt
 have dw:=Aside0.mk dl
 clear dt dl
 have df:=Aside0.mk bd
 have dj:=Aside0.mk be
 clear bd be
 have dk:=Aside0.mk br
 have dn:=Aside0.mk bz
 clear br bz
 have HB:=Aside0.mk (Below.refl w.heap.size w)
 have H:(if (l1.length:Int)<1 then (group_Check.j0 k l1 true J B L O X δ γ θ η ζ τ a0) else (group_Check.j0 k l1 (decide ((l1.length:Int)>8)) J B L O X δ γ θ η ζ τ a0))=some r:=h
 clear h
 have bc:=Aside0.mk H
 clear H
 go_enter Try.func17,Try.ntmps17
 go_upto_region 1 with(first|((with_reducible refine Qe (N:=3) rfl ?_);(try(refine Zy (by rfl) ?_;dsimp only));refine qE 3 #[.int .i64 J,.int .i64 B,.int .i64 L,.int .i64 O,.int .i64 X,.int .i64 δ,.int .i64 γ,.int .i64 θ,.int .i64 η,.int .i64 ζ] 25 ?_;intro ι hg w5 hbox hb;have Z:=Aside0.mk hbox;have cz:=sGe hg;have d0:=sGe hg;replace HB:=sHb hb;clear hb hbox hg)|((with_reducible refine Qe (N:=5) rfl ?_);(try(refine Zy (by rfl) ?_;dsimp only));refine qE 5 #[.slice aa τ.length ab,.slice ac a0.length af] 50 ?_;intro aw hg w6 hbox hb;have ε :=Aside0.mk hbox;have d4:=sGe hg;have d5:=sGe hg;have ap:=sNl Z hg;have ar:=sNg Z hg;replace Z:=sBk Z hb;replace HB:=sHb hb;clear hb hbox hg))
 (try simp only[Act.put,qS])
 go_cut [16] (fun cy wc=>∃ (kq:Nat) (ax:Bool),cy = .bool ax∧Aside0 (group_Check.j0 kq l1 ax J B L O X δ γ θ η ζ τ a0=some r)∧Aside0 (kq≤k)∧Aside0 (wc.heap[ι]?=some (.cells #[.int .i64 J,.int .i64 B,.int .i64 L,.int .i64 O,.int .i64 X,.int .i64 δ,.int .i64 γ,.int .i64 θ,.int .i64 η,.int .i64 ζ] 25 (0,0)))∧Aside0 (wc.heap[aw]?=some (.cells #[(.slice aa τ.length ab),(.slice ac a0.length af)] 50 (0,0)))∧Aside0 (Below w.heap.size w wc))
 case first=>
  have H:=bc.out
  clear bc
  by_cases c7:(l1.length:Int)<1
  ·rw[if_pos c7] at H
   have c7b0:decide ((l1.length:Int)<1)=true:=decide_eq_true c7
   have c7b1:decide (l1.length<1)=true:=decide_eq_true (by omega)
   clear c7
   (first|rw[c7b0]|(simp only[Zb,Zj];rw[c7b0])|skip)
   have H':=Aside0.mk H
   clear H
   go_wp2
   go_meet
   case rel=>exact⟨_,(true),rfl,H',⟨by first|omega|exact Nat.le_refl _⟩,Z,ε,HB⟩
  ·rw[if_neg c7] at H
   have c7b0:decide ((l1.length:Int)<1)=false:=decide_eq_false c7
   have c7b1:decide (l1.length<1)=false:=decide_eq_false (by omega)
   clear c7
   (first|rw[c7b0]|(simp only[Zb,Zj];rw[c7b0])|skip)
   have H':=Aside0.mk H
   clear H
   go_wp2
   go_meet
   case rel=>exact⟨_,(decide ((l1.length:Int)>8)),rfl,H',⟨by first|omega|exact Nat.le_refl _⟩,Z,ε,HB⟩
 case rest=>
  clear bc
  try clear c1
  try clear c2
  try clear p2
  try clear c7
  try clear c7b0
  try clear c7b1
  obtain⟨kq,ax,rfl,HA,ch,Z,ε,HB⟩:=hcut
  cases kq with
  |zero=>exact absurd HA.out (by simp[group_Check.j0])
  |succ dp=>
   have H:=HA.out
   clear HA
   simp only[group_Check.j0] at H
   by_cases c8:ax=true
   ·subst c8
    have H1:(some 210)=some r:=by rw[if_pos rfl] at H;exact H
    clear H
    have H:=H1
    clear H1
    obtain rfl:=Option.some.inj H
    go_wp2
    go_ret
    exact⟨rfl,HB.out⟩
   ·replace c8:=Bool.eq_false_iff.mpr c8
    subst c8
    have H1:(group_Check.l0 dp l1 l1 (l1.length:Int) 0 J B L O X δ γ θ η ζ τ a0)=some r:=by rw[if_neg (show ¬ (false=true) by decide)] at H;exact H
    clear H
    have H:=H1
    clear H1
    have H':=Aside0.mk H
    clear H
    go_wp2
    go_loopg [19] dp (fun kq cd w'=>∃ (Y:Int),cd = .int .i64 Y∧Aside0 (group_Check.l0 kq l1 l1 (l1.length:Int) Y J B L O X δ γ θ η ζ τ a0=some r)∧Aside0 (kq≤dp)∧Aside0 (w'.heap[ι]?=some (.cells #[.int .i64 J,.int .i64 B,.int .i64 L,.int .i64 O,.int .i64 X,.int .i64 δ,.int .i64 γ,.int .i64 θ,.int .i64 η,.int .i64 ζ] 25 (0,0)))∧Aside0 (w'.heap[aw]?=some (.cells #[(.slice aa τ.length ab),(.slice ac a0.length af)] 50 (0,0)))∧Aside0 (Below w.heap.size w w'))
    case atStart=>exact⟨(0),rfl,H',⟨Nat.le_refl _⟩,Z,ε,HB⟩
    case round=>
     clear H'
     try clear c1
     try clear c2
     try clear p2
     try clear c7
     try clear c7b0
     try clear c7b1
     try clear c8
     try clear p2
     obtain⟨Y,rfl,HA,e8,Z,ε,HB⟩:=hrel
     cases gk with
     |zero=>exact absurd HA.out (by simp[group_Check.l0])
     |succ k2=>
      have H:=HA.out
      clear HA
      simp only[group_Check.l0] at H
      by_cases c9:Y<(l1.length:Int)
      ·rw[if_pos c9] at H
       have c9b0:decide (Y<(l1.length:Int))=true:=decide_eq_true c9
       clear c9
       by_cases c10:0≤Y
       ·rw[if_pos c10] at H
        have c10b0:decide (0≤Y)=true:=decide_eq_true c10
        clear c10
        by_cases ae:Y<(l1.length:Int)
        ·rw[if_pos ae] at H
         have c11b0:decide (Y<(l1.length:Int))=true:=decide_eq_true ae
         clear ae
         replace H:=Option.bind_eq_some_iff.mp H
         obtain⟨ay,a4,H⟩:=H
         replace H:(if ay=true then (group_Check.l0 k2 l1 l1 (l1.length:Int) (wrap64 (Y+1)) J B L O X δ γ θ η ζ τ a0) else (some 210))=some r:=H
         have al:=Aside0.mk a4
         clear a4
         by_cases a6:ay=true
         ·subst a6
          have H1:(group_Check.l0 k2 l1 l1 (l1.length:Int) (wrap64 (Y+1)) J B L O X δ γ θ η ζ τ a0)=some r:=by rw[if_pos rfl] at H;exact H
          clear H
          have H:=H1
          clear H1
          have H':=Aside0.mk H
          clear H
          have a8:0≤(Y:Int):=of_decide_eq_true (by assumption)
          have ag:Y<(l1.length:Int):=of_decide_eq_true (by assumption)
          obtain⟨ci,bm,κ,μ,ν,ξ,ρ,σ,φ,χ,ψ,ω⟩:=Gh de.out Y a8 ag
          cases bm
          replace κ :=(HB.out.cell (World.block_lt_of_cell? w _ κ)).trans κ
          replace μ :=(HB.out.cell (World.block_lt_of_cell? w _ μ)).trans μ
          replace ν :=(HB.out.cell (World.block_lt_of_cell? w _ ν)).trans ν
          replace ξ :=(HB.out.cell (World.block_lt_of_cell? w _ ξ)).trans ξ
          replace ρ:=(HB.out.cell (World.block_lt_of_cell? w _ ρ)).trans ρ
          replace σ:=(HB.out.cell (World.block_lt_of_cell? w _ σ)).trans σ
          replace φ :=(HB.out.cell (World.block_lt_of_cell? w _ φ)).trans φ
          replace χ :=(HB.out.cell (World.block_lt_of_cell? w _ χ)).trans χ
          replace ψ :=(HB.out.cell (World.block_lt_of_cell? w _ ψ)).trans ψ
          replace ω :=(HB.out.cell (World.block_lt_of_cell? w _ ω)).trans ω
          replace a8:=eq_true a8
          replace ag:=eq_true ag
          go_wp2_with (first|((with_reducible refine Qe (N:=8) rfl ?_);(try(refine Zy (by rfl) ?_;dsimp only));refine qE 8 #[.int .i64 0,.int .i64 0,.int .i64 0,.int .i64 0,.int .i64 0,.int .i64 0,.int .i64 0,.int .i64 0,.bool false,.bool false] 31 ?_;intro b0 hg bq hbox hb;have a1:=Aside0.mk hbox;have ck:=sGe hg;have cm:=sGe hg;have a2:=sNl Z hg;have a3:=sNg Z hg;have a5:=sNl ε hg;have a7:=sNg ε hg;replace Z:=sBk Z hb;replace ε :=sBk ε hb;replace HB:=sHb hb;clear hb hbox hg;have gf:=a3.out;have gg:=a2.out;have e0:=a7.out;have e7:=a5.out;obtain⟨ah,ai,ba,bs,bu,bv,bw,cb,cr,ct,aj,ak,bf,cu,cv,cw,d7,d8,da,dh⟩:=Za a1.out;have cj:=ap.out;have d1:=ar.out;obtain⟨am,an,az,bh,bi,bj,bk,ce,di,ec,au,av,b4,bl,bn,bo,bp,ed,ee,ef⟩:=Za Z.out)|((with_reducible refine Ql (f:=28) rfl ?_);refine Q2 (some 25) rfl rfl Try.func28 kr rfl #[.agg #[.int .i64 J,.int .i64 B,.int .i64 L,.int .i64 O,.int .i64 X,.int .i64 δ,.int .i64 γ,.int .i64 θ,.int .i64 η,.int .i64 ζ],.agg #[.int .i64 ((Qb l1 Y).f0.f0),.int .i64 ((Qb l1 Y).f0.f1),.int .i64 ((Qb l1 Y).f0.f2),.int .i64 ((Qb l1 Y).f0.f3),.int .i64 ((Qb l1 Y).f0.f4.f0),.int .i64 ((Qb l1 Y).f0.f4.f1),.int .i64 ((Qb l1 Y).f0.f4.f2),.int .i64 ((Qb l1 Y).f1),.bool ((Qb l1 Y).f2),.bool ((Qb l1 Y).f3)]] rfl qM ?_;(with_reducible refine(group_lift.calls k2 J B L O X δ γ θ η ζ ((Qb l1 Y).f0.f0) ((Qb l1 Y).f0.f1) ((Qb l1 Y).f0.f2) ((Qb l1 Y).f0.f3) ((Qb l1 Y).f0.f4.f0) ((Qb l1 Y).f0.f4.f1) ((Qb l1 Y).f0.f4.f2) ((Qb l1 Y).f1) ((Qb l1 Y).f2) ((Qb l1 Y).f3) true _ al.out).mono ?_);rintro e dv ⟨rfl,hb⟩;refine⟨_,rfl, ?_⟩;replace Z:=sBk Z hb;replace ε :=sBk ε hb;replace a1:=Aside0.mk (Qs (g:=b0) (o:=.cells #[.int .i64 ((Qb l1 Y).f0.f0),.int .i64 ((Qb l1 Y).f0.f1),.int .i64 ((Qb l1 Y).f0.f2),.int .i64 ((Qb l1 Y).f0.f3),.int .i64 ((Qb l1 Y).f0.f4.f0),.int .i64 ((Qb l1 Y).f0.f4.f1),.int .i64 ((Qb l1 Y).f0.f4.f2),.int .i64 ((Qb l1 Y).f1),.bool ((Qb l1 Y).f2),.bool ((Qb l1 Y).f3)] 31 (0,0)) (by refine Qm (cs:=#[.int .i64 ((Qb l1 Y).f0.f0),.int .i64 ((Qb l1 Y).f0.f1),.int .i64 ((Qb l1 Y).f0.f2),.int .i64 ((Qb l1 Y).f0.f3),.int .i64 ((Qb l1 Y).f0.f4.f0),.int .i64 ((Qb l1 Y).f0.f4.f1),.int .i64 ((Qb l1 Y).f0.f4.f2),.int .i64 ((Qb l1 Y).f1),.bool ((Qb l1 Y).f2),.bool false]) ?_ 9 _ rfl;refine Qm (cs:=#[.int .i64 ((Qb l1 Y).f0.f0),.int .i64 ((Qb l1 Y).f0.f1),.int .i64 ((Qb l1 Y).f0.f2),.int .i64 ((Qb l1 Y).f0.f3),.int .i64 ((Qb l1 Y).f0.f4.f0),.int .i64 ((Qb l1 Y).f0.f4.f1),.int .i64 ((Qb l1 Y).f0.f4.f2),.int .i64 ((Qb l1 Y).f1),.bool false,.bool false]) ?_ 8 _ rfl;refine Qm (cs:=#[.int .i64 ((Qb l1 Y).f0.f0),.int .i64 ((Qb l1 Y).f0.f1),.int .i64 ((Qb l1 Y).f0.f2),.int .i64 ((Qb l1 Y).f0.f3),.int .i64 ((Qb l1 Y).f0.f4.f0),.int .i64 ((Qb l1 Y).f0.f4.f1),.int .i64 ((Qb l1 Y).f0.f4.f2),.int .i64 0,.bool false,.bool false]) ?_ 7 _ rfl;refine Qm (cs:=#[.int .i64 ((Qb l1 Y).f0.f0),.int .i64 ((Qb l1 Y).f0.f1),.int .i64 ((Qb l1 Y).f0.f2),.int .i64 ((Qb l1 Y).f0.f3),.int .i64 ((Qb l1 Y).f0.f4.f0),.int .i64 ((Qb l1 Y).f0.f4.f1),.int .i64 0,.int .i64 0,.bool false,.bool false]) ?_ 6 _ rfl;refine Qm (cs:=#[.int .i64 ((Qb l1 Y).f0.f0),.int .i64 ((Qb l1 Y).f0.f1),.int .i64 ((Qb l1 Y).f0.f2),.int .i64 ((Qb l1 Y).f0.f3),.int .i64 ((Qb l1 Y).f0.f4.f0),.int .i64 0,.int .i64 0,.int .i64 0,.bool false,.bool false]) ?_ 5 _ rfl;refine Qm (cs:=#[.int .i64 ((Qb l1 Y).f0.f0),.int .i64 ((Qb l1 Y).f0.f1),.int .i64 ((Qb l1 Y).f0.f2),.int .i64 ((Qb l1 Y).f0.f3),.int .i64 0,.int .i64 0,.int .i64 0,.int .i64 0,.bool false,.bool false]) ?_ 4 _ rfl;refine Qm (cs:=#[.int .i64 ((Qb l1 Y).f0.f0),.int .i64 ((Qb l1 Y).f0.f1),.int .i64 ((Qb l1 Y).f0.f2),.int .i64 0,.int .i64 0,.int .i64 0,.int .i64 0,.int .i64 0,.bool false,.bool false]) ?_ 3 _ rfl;refine Qm (cs:=#[.int .i64 ((Qb l1 Y).f0.f0),.int .i64 ((Qb l1 Y).f0.f1),.int .i64 0,.int .i64 0,.int .i64 0,.int .i64 0,.int .i64 0,.int .i64 0,.bool false,.bool false]) ?_ 2 _ rfl;refine Qm (cs:=#[.int .i64 ((Qb l1 Y).f0.f0),.int .i64 0,.int .i64 0,.int .i64 0,.int .i64 0,.int .i64 0,.int .i64 0,.int .i64 0,.bool false,.bool false]) ?_ 1 _ rfl;refine Qm (cs:=#[.int .i64 0,.int .i64 0,.int .i64 0,.int .i64 0,.int .i64 0,.int .i64 0,.int .i64 0,.int .i64 0,.bool false,.bool false]) ?_ 0 _ rfl;exact a1.out) hb);replace HB:=sHb hb;(try clear hb);(try clear a9);(try clear hk);(try clear hi)))
          go_roundg k2
          case measure=>have:=ch.out;have:=e8.out;omega
          case rel=>exact⟨(wrap64 (Y+1)),rfl,H',⟨by have:=ch.out;have:=e8.out;omega⟩,Z,ε,HB⟩
         ·replace a6:=Bool.eq_false_iff.mpr a6
          subst a6
          have H1:(some 210)=some r:=by rw[if_neg (show ¬ (false=true) by decide)] at H;exact H
          clear H
          have H:=H1
          clear H1
          obtain rfl:=Option.some.inj H
          have a8:0≤(Y:Int):=of_decide_eq_true (by assumption)
          have ag:Y<(l1.length:Int):=of_decide_eq_true (by assumption)
          obtain⟨ci,bm,κ,μ,ν,ξ,ρ,σ,φ,χ,ψ,ω⟩:=Gh de.out Y a8 ag
          cases bm
          replace κ :=(HB.out.cell (World.block_lt_of_cell? w _ κ)).trans κ
          replace μ :=(HB.out.cell (World.block_lt_of_cell? w _ μ)).trans μ
          replace ν :=(HB.out.cell (World.block_lt_of_cell? w _ ν)).trans ν
          replace ξ :=(HB.out.cell (World.block_lt_of_cell? w _ ξ)).trans ξ
          replace ρ:=(HB.out.cell (World.block_lt_of_cell? w _ ρ)).trans ρ
          replace σ:=(HB.out.cell (World.block_lt_of_cell? w _ σ)).trans σ
          replace φ :=(HB.out.cell (World.block_lt_of_cell? w _ φ)).trans φ
          replace χ :=(HB.out.cell (World.block_lt_of_cell? w _ χ)).trans χ
          replace ψ :=(HB.out.cell (World.block_lt_of_cell? w _ ψ)).trans ψ
          replace ω :=(HB.out.cell (World.block_lt_of_cell? w _ ω)).trans ω
          replace a8:=eq_true a8
          replace ag:=eq_true ag
          go_wp2_with (first|((with_reducible refine Qe (N:=8) rfl ?_);(try(refine Zy (by rfl) ?_;dsimp only));refine qE 8 #[.int .i64 0,.int .i64 0,.int .i64 0,.int .i64 0,.int .i64 0,.int .i64 0,.int .i64 0,.int .i64 0,.bool false,.bool false] 31 ?_;intro b0 hg bg hbox hb;have a1:=Aside0.mk hbox;have ck:=sGe hg;have cm:=sGe hg;have a2:=sNl Z hg;have a3:=sNg Z hg;have a5:=sNl ε hg;have a7:=sNg ε hg;replace Z:=sBk Z hb;replace ε :=sBk ε hb;replace HB:=sHb hb;clear hb hbox hg;have fh:=a3.out;have fi:=a2.out;have d2:=a7.out;have d3:=a5.out;obtain⟨b5,b6,ca,fr,g0,g1,g5,g6,g7,g8,b7,b8,cf,ga,gi,gj,gl,gm,gn,gp⟩:=Za a1.out;have en:=ap.out;have et:=ar.out;obtain⟨eg,eh,el,fu,fv,fw,fx,fy,cn,co,ei,ej,em,fz,g2,g3,g4,g9,cp,cq⟩:=Za Z.out)|((with_reducible refine Ql (f:=28) rfl ?_);refine Q2 (some 25) rfl rfl Try.func28 kr rfl #[.agg #[.int .i64 J,.int .i64 B,.int .i64 L,.int .i64 O,.int .i64 X,.int .i64 δ,.int .i64 γ,.int .i64 θ,.int .i64 η,.int .i64 ζ],.agg #[.int .i64 ((Qb l1 Y).f0.f0),.int .i64 ((Qb l1 Y).f0.f1),.int .i64 ((Qb l1 Y).f0.f2),.int .i64 ((Qb l1 Y).f0.f3),.int .i64 ((Qb l1 Y).f0.f4.f0),.int .i64 ((Qb l1 Y).f0.f4.f1),.int .i64 ((Qb l1 Y).f0.f4.f2),.int .i64 ((Qb l1 Y).f1),.bool ((Qb l1 Y).f2),.bool ((Qb l1 Y).f3)]] rfl qM ?_;(with_reducible refine(group_lift.calls k2 J B L O X δ γ θ η ζ ((Qb l1 Y).f0.f0) ((Qb l1 Y).f0.f1) ((Qb l1 Y).f0.f2) ((Qb l1 Y).f0.f3) ((Qb l1 Y).f0.f4.f0) ((Qb l1 Y).f0.f4.f1) ((Qb l1 Y).f0.f4.f2) ((Qb l1 Y).f1) ((Qb l1 Y).f2) ((Qb l1 Y).f3) false _ al.out).mono ?_);rintro e dm ⟨rfl,hb⟩;refine⟨_,rfl, ?_⟩;replace Z:=sBk Z hb;replace ε :=sBk ε hb;replace a1:=Aside0.mk (Qs (g:=b0) (o:=.cells #[.int .i64 ((Qb l1 Y).f0.f0),.int .i64 ((Qb l1 Y).f0.f1),.int .i64 ((Qb l1 Y).f0.f2),.int .i64 ((Qb l1 Y).f0.f3),.int .i64 ((Qb l1 Y).f0.f4.f0),.int .i64 ((Qb l1 Y).f0.f4.f1),.int .i64 ((Qb l1 Y).f0.f4.f2),.int .i64 ((Qb l1 Y).f1),.bool ((Qb l1 Y).f2),.bool ((Qb l1 Y).f3)] 31 (0,0)) (by refine Qm (cs:=#[.int .i64 ((Qb l1 Y).f0.f0),.int .i64 ((Qb l1 Y).f0.f1),.int .i64 ((Qb l1 Y).f0.f2),.int .i64 ((Qb l1 Y).f0.f3),.int .i64 ((Qb l1 Y).f0.f4.f0),.int .i64 ((Qb l1 Y).f0.f4.f1),.int .i64 ((Qb l1 Y).f0.f4.f2),.int .i64 ((Qb l1 Y).f1),.bool ((Qb l1 Y).f2),.bool false]) ?_ 9 _ rfl;refine Qm (cs:=#[.int .i64 ((Qb l1 Y).f0.f0),.int .i64 ((Qb l1 Y).f0.f1),.int .i64 ((Qb l1 Y).f0.f2),.int .i64 ((Qb l1 Y).f0.f3),.int .i64 ((Qb l1 Y).f0.f4.f0),.int .i64 ((Qb l1 Y).f0.f4.f1),.int .i64 ((Qb l1 Y).f0.f4.f2),.int .i64 ((Qb l1 Y).f1),.bool false,.bool false]) ?_ 8 _ rfl;refine Qm (cs:=#[.int .i64 ((Qb l1 Y).f0.f0),.int .i64 ((Qb l1 Y).f0.f1),.int .i64 ((Qb l1 Y).f0.f2),.int .i64 ((Qb l1 Y).f0.f3),.int .i64 ((Qb l1 Y).f0.f4.f0),.int .i64 ((Qb l1 Y).f0.f4.f1),.int .i64 ((Qb l1 Y).f0.f4.f2),.int .i64 0,.bool false,.bool false]) ?_ 7 _ rfl;refine Qm (cs:=#[.int .i64 ((Qb l1 Y).f0.f0),.int .i64 ((Qb l1 Y).f0.f1),.int .i64 ((Qb l1 Y).f0.f2),.int .i64 ((Qb l1 Y).f0.f3),.int .i64 ((Qb l1 Y).f0.f4.f0),.int .i64 ((Qb l1 Y).f0.f4.f1),.int .i64 0,.int .i64 0,.bool false,.bool false]) ?_ 6 _ rfl;refine Qm (cs:=#[.int .i64 ((Qb l1 Y).f0.f0),.int .i64 ((Qb l1 Y).f0.f1),.int .i64 ((Qb l1 Y).f0.f2),.int .i64 ((Qb l1 Y).f0.f3),.int .i64 ((Qb l1 Y).f0.f4.f0),.int .i64 0,.int .i64 0,.int .i64 0,.bool false,.bool false]) ?_ 5 _ rfl;refine Qm (cs:=#[.int .i64 ((Qb l1 Y).f0.f0),.int .i64 ((Qb l1 Y).f0.f1),.int .i64 ((Qb l1 Y).f0.f2),.int .i64 ((Qb l1 Y).f0.f3),.int .i64 0,.int .i64 0,.int .i64 0,.int .i64 0,.bool false,.bool false]) ?_ 4 _ rfl;refine Qm (cs:=#[.int .i64 ((Qb l1 Y).f0.f0),.int .i64 ((Qb l1 Y).f0.f1),.int .i64 ((Qb l1 Y).f0.f2),.int .i64 0,.int .i64 0,.int .i64 0,.int .i64 0,.int .i64 0,.bool false,.bool false]) ?_ 3 _ rfl;refine Qm (cs:=#[.int .i64 ((Qb l1 Y).f0.f0),.int .i64 ((Qb l1 Y).f0.f1),.int .i64 0,.int .i64 0,.int .i64 0,.int .i64 0,.int .i64 0,.int .i64 0,.bool false,.bool false]) ?_ 2 _ rfl;refine Qm (cs:=#[.int .i64 ((Qb l1 Y).f0.f0),.int .i64 0,.int .i64 0,.int .i64 0,.int .i64 0,.int .i64 0,.int .i64 0,.int .i64 0,.bool false,.bool false]) ?_ 1 _ rfl;refine Qm (cs:=#[.int .i64 0,.int .i64 0,.int .i64 0,.int .i64 0,.int .i64 0,.int .i64 0,.int .i64 0,.int .i64 0,.bool false,.bool false]) ?_ 0 _ rfl;exact a1.out) hb);replace HB:=sHb hb;(try clear hb);(try clear a9);(try clear hk);(try clear hi)))
          go_ret
          exact⟨rfl,HB.out⟩
        ·rw[if_neg ae] at H
         exact absurd H (by simp)
       ·rw[if_neg c10] at H
        exact absurd H (by simp)
      ·rw[if_neg c9] at H
       have c9b0:decide (Y<(l1.length:Int))=false:=decide_eq_false c9
       clear c9
       replace H:=Option.bind_eq_some_iff.mp H
       obtain⟨⟨b1,b2⟩,bb,H⟩:=H
       replace H:((call_Check.f k2 b1 b2 τ a0).bind fun ao=>(some ao))=some r:=H
       have cx:=Aside0.mk bb
       clear bb
       replace H:=Option.bind_eq_some_iff.mp H
       obtain⟨ao,cg,H⟩:=H
       replace H:(some ao)=some r:=H
       have du:=Aside0.mk cg
       clear cg
       obtain rfl:=Option.some.inj H
       try go_wp2
       replace Z:=Aside0.mk (Qd Z.out)
       replace ε :=Aside0.mk (Qd ε.out)
       replace HB:=Aside0.mk (Qf HB.out)
       refine Zn (n:=6) (S:=fun w'=>w'.cell? ⟨ι,0,none⟩=some (.int .i64 J)∧w'.cell? ⟨ι,1,none⟩=some (.int .i64 B)∧w'.cell? ⟨ι,2,none⟩=some (.int .i64 L)∧w'.cell? ⟨ι,3,none⟩=some (.int .i64 O)∧w'.cell? ⟨ι,4,none⟩=some (.int .i64 X)∧w'.cell? ⟨ι,5,none⟩=some (.int .i64 δ)∧w'.cell? ⟨ι,6,none⟩=some (.int .i64 γ)∧w'.cell? ⟨ι,7,none⟩=some (.int .i64 θ)∧w'.cell? ⟨ι,8,none⟩=some (.int .i64 η)∧w'.cell? ⟨ι,9,none⟩=some (.int .i64 ζ)∧w'.cell? ⟨aw,0,none⟩=some (.slice aa τ.length ab)∧w'.cell? ⟨aw,1,none⟩=some (.slice ac a0.length af)) (ds:=[]) #[false,false,false,false,false,false] kr rfl rfl ⟨(Qa Z.out 0).trans rfl,(Qa Z.out 1).trans rfl,(Qa Z.out 2).trans rfl,(Qa Z.out 3).trans rfl,(Qa Z.out 4).trans rfl,(Qa Z.out 5).trans rfl,(Qa Z.out 6).trans rfl,(Qa Z.out 7).trans rfl,(Qa Z.out 8).trans rfl,(Qa Z.out 9).trans rfl,(Qa ε.out 0).trans rfl,(Qa ε.out 1).trans rfl⟩ (fun hHeld=>?_)
       generalize wr.drew=eo at Z ε HB hHeld ⊢
       refine Xw (i:=1) (N:=some 29) (v:=?_) (a':=?_) (bN 6 2) rfl rfl kr (fun _ _ _ h=>h) (Or.inl ⟨by rfl, ?_⟩) ?_ ?_
       rotate_left
       ·intro w'
        go_simp
        with_reducible rfl
       rotate_left
       ·simp only[Act.put,qS,Zb,Zj]
        rfl
       refine Y5 (i:=0) (N:=some 28) (v:=?_) (a':=?_) (bN 6 3) rfl rfl kr (fun _ _ _ h=>h) (Or.inl ⟨by rfl, ?_⟩) hHeld ?_ ?_
       rotate_left
       ·rintro w' ⟨s0,s1,s2,s3,s4,s5,s6,s7,s8,s9,b3,b9⟩
        go_simp
        with_reducible rfl
       rotate_left
       ·simp only[Act.put,qS,Zb,Zj]
        rfl
       refine Y5 (i:=3) (N:=some 31) (v:=?_) (a':=?_) (bN 6 11) rfl rfl kr (fun _ _ _ h=>h) (Or.inl ⟨by rfl, ?_⟩) hHeld ?_ ?_
       rotate_left
       ·rintro w' ⟨s0,s1,s2,s3,s4,s5,s6,s7,s8,s9,b3,b9⟩
        go_simp
        with_reducible rfl
       rotate_left
       ·simp only[Act.put,qS,Zb,Zj]
        rfl
       refine Ze (i:=2) (N:=some 30) (bN 6 15) rfl rfl kr (by decide) (fun K hK=>?_)
       refine Zd Try.func37 kr rfl #[.agg #[.int .i64 J,.int .i64 B,.int .i64 L,.int .i64 O,.int .i64 X,.int .i64 δ,.int .i64 γ,.int .i64 θ,.int .i64 η,.int .i64 ζ],.slice A1 l1.length c1] (by rfl) rfl rfl qM ?_
       with_reducible refine(group_house.calls J B L O X δ γ θ η ζ _ _ l1 b1 b2 _ ?side1 ?side2 cx.out).mono ?_
       (case side1=>exact(Kd.Qt de.out HB.out))
       (case side2=>exact dw.out)
       rintro e d6 ⟨rfl,hb⟩
       refine⟨_,rfl, ?_⟩
       replace Z:=sBk Z hb
       replace ε :=sBk ε hb
       replace HB:=sHb hb
       (try clear hb)
       (try clear a9)
       (try clear hk)
       (try clear hi)
       refine hK.out _ _ ⟨qc Z,qc Z,qc Z,qc Z,qc Z,qc Z,qc Z,qc Z,qc Z,qc Z,qc ε,qc ε⟩ (fun hHeld=>?_)
       clear hK K
       refine qN (some 30) ?_
       refine Ze (i:=4) (N:=some 32) (bN 6 31) rfl rfl kr (by decide) (fun K hK=>?_)
       refine Zd Try.func40 kr rfl #[.agg #[.int .i64 b1,.int .i64 b2],.agg #[.slice aa τ.length ab,.slice ac a0.length af]] (by rfl) rfl rfl qM ?_
       with_reducible refine(call_Check.calls k2 b1 b2 _ _ τ _ _ a0 ao _ ?side1 ?side2 ?side3 ?side4 du.out).mono ?_
       (case side1=>exact(Kd.Qt df.out HB.out))
       (case side2=>exact dj.out)
       (case side3=>exact(Kd.Qt dk.out HB.out))
       (case side4=>exact dn.out)
       rintro e jm ⟨rfl,hb⟩
       refine⟨_,rfl, ?_⟩
       replace Z:=sBk Z hb
       replace ε :=sBk ε hb
       replace HB:=sHb hb
       (try clear hb)
       (try clear a9)
       (try clear hk)
       (try clear hi)
       refine hK.out _ _ ⟨qc Z,qc Z,qc Z,qc Z,qc Z,qc Z,qc Z,qc Z,qc Z,qc Z,qc ε,qc ε⟩ (fun hHeld=>?_)
       clear hK K
       refine qN (some 32) ?_
       refine Xw (i:=5) (N:=some 6) (v:=?_) (a':=?_) (bN 6 63) rfl rfl kr (fun _ _ _ h=>h) (Or.inl ⟨by rfl, ?_⟩) ?_ ?_
       rotate_left
       ·intro w'
        go_simp
        with_reducible rfl
       rotate_left
       ·simp only[Act.put,qS,Zb,Zj]
        rfl
       refine Z5 kr ?_
       try go_wp2
       go_ret
       exact⟨rfl,HB.out⟩
end Go.Proofs.Ytmfffemidlhcpaa.C
