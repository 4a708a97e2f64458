/- Texts of this claim, one behind the other: what the law's functions come to, walked (printed by a program, with the words that the print uses), and what that is, in plain Lean. No conditions of their own. -/
import Derived.Test.YtmfffemidlhcpaaQGroupAll5
import Derived.WalkSpells
namespace Go.Proofs.Ytmfffemidlhcpaa.C
open Go.RowKit Go.Proofs.YtmfffemidlhcpaaW.PrintWords Go.Proofs.YtmfffemidlhcpaaW.PrintLast Go.Proofs.YtmfffemidlhcpaaW.PrintMore
attribute [local go_sem] Zv Zt Z6 Z5 Zk Zj Zu Zs
set_option linter.unusedVariables false
set_option linter.unusedSimpArgs false
def api_Hall_88.f (l0:List S36):Option (List S36):=if l0.length<1000000000 then some l0 else none
set_option maxRecDepth 100000 in
set_option maxHeartbeats 1000000 in
theorem api_Hall_88.calls (A0:Option Addr) (c0:Nat) (l0:List S36) (r:List S36) (w:World) (ζ :Kd.C k36 w A0 l0.length l0) (Z:l0.length≤c0) (h:api_Hall_88.f l0=some r):
    Calls Try.prog 88 #[.slice A0 l0.length c0] w fun e w'=>∃ bg:Value,e = .returned bg∧Kd.R k36 36 w' w.heap.size (fun _=>True) bg r∧Below w.heap.size w w':=by
  unfold api_Hall_88.f at h
  split at h
  case isFalse=>cases h
  case isTrue hl=>
  cases h
  have HR:=Aside0.mk ζ
  have HC:=Aside0.mk Z
  have HL:=Aside0.mk hl
  have HB:=Aside0.mk (Below.refl w.heap.size w)
  have hn:A0=none→l0 = []:=by
    intro hA
    rcases Nat.eq_zero_or_pos l0.length with h|h
    · exact List.eq_nil_of_length_eq_zero h
    · obtain⟨ad,e,_⟩:= ζ.2.2 h
      rw[hA] at e
      cases e
  clear ζ Z hl
  have hEq:∀ (W:World),(binOp .eql 47 (.slice A0 l0.length c0) (.slice none 0 0)).run Try.prog W = .ok (.bool A0.isNone) W:=fun W=>Lib.run_eql_slice_nil W _ _ _ _ _ _ _ Try.underlying47
  rcases A0 with _|ad
  · have Y:=Aside0.mk (hn rfl)
    clear hn
    go_enter Try.func88,Try.ntmps88
    go_wp2
    go_ret
    rw[Y.out]
    exact⟨_,rfl,Kd.Xx _ _ _ _ _,HB.out⟩
  · clear hn
    go_enter Try.func88,Try.ntmps88
    go_wp2_with (first|((with_reducible refine Qf (N:=5) rfl ?_);refine Kd.Vu k36 _ 36 ?hg (N:=5) ?hd (xs:=([]:List S36)) (inner:=[]) (ok:=fun _=>True) (okp:=fun _=>True) ?hr ?hp (fun _ hk=>hk) trivial (Below.refl _ _) (Nat.le_refl _) (by simp) ?_;(case hd=>rfl);(case hg=>rfl);(case hr=>first|(go_simp;done)|(go_simp;rfl));(case hp=>exact(Reps.none _ _));intro v1 w1 ax J hg_ hnew_;clear hg_ hnew_;have HO:=Aside0.mk ax;have O:=Aside0.mk J;clear ax J)|((with_reducible refine Xq (b:=.append) (xs:=#[.tmp 5,.tmp 6]) rfl ?_);at_builtin;refine Kd.Kb k36 (w0:=w) w.heap.size rfl (.tmp 5) (.tmp 6) 47 36 (.agg #[(.int .i64 0),(.int .i64 0),(.int .i64 0)]) 24 rfl Try.underlying47 Jy rfl (by decide) (by omega) v1 [] l0 _ _ _ (fun _=>True) (fun _=>False) rfl rfl ?aO ?aR (fun _ _ h=>h) (fun _ h=>h.elim) ?aF ?aB ?aS ?aL ?_;(case aR=>exact(Kd.Qv HR.out O.out));(case aB=>exact O.out);(case aF=>exact(fun _ _=>trivial));(case aO=>exact HO.out);(case aS=>exact Qh O.out);(case aL=>have:=HL.out;simp only[List.length_nil];omega);intro v2 w2 ho hb hg hat;clear hg hat))
    go_ret
    exact⟨_,rfl,by simpa using ho,hb⟩
def api_Inside_91.f (l0:List S86):Option (List S86):=if l0.length<1000000000 then some l0 else none
set_option maxRecDepth 100000 in
set_option maxHeartbeats 1000000 in
theorem api_Inside_91.calls (A0:Option Addr) (c0:Nat) (l0:List S86) (r:List S86) (w:World) (ζ :Kd.C k86 w A0 l0.length l0) (Z:l0.length≤c0) (h:api_Inside_91.f l0=some r):
    Calls Try.prog 91 #[.slice A0 l0.length c0] w fun e w'=>∃ bg:Value,e = .returned bg∧Kd.R k86 86 w' w.heap.size (fun _=>True) bg r∧Below w.heap.size w w':=by
  unfold api_Inside_91.f at h
  split at h
  case isFalse=>cases h
  case isTrue hl=>
  cases h
  have HR:=Aside0.mk ζ
  have HC:=Aside0.mk Z
  have HL:=Aside0.mk hl
  have HB:=Aside0.mk (Below.refl w.heap.size w)
  have hn:A0=none→l0 = []:=by
    intro hA
    rcases Nat.eq_zero_or_pos l0.length with h|h
    · exact List.eq_nil_of_length_eq_zero h
    · obtain⟨ad,e,_⟩:= ζ.2.2 h
      rw[hA] at e
      cases e
  clear ζ Z hl
  have hEq:∀ (W:World),(binOp .eql 48 (.slice A0 l0.length c0) (.slice none 0 0)).run Try.prog W = .ok (.bool A0.isNone) W:=fun W=>Lib.run_eql_slice_nil W _ _ _ _ _ _ _ Try.underlying48
  rcases A0 with _|ad
  · have Y:=Aside0.mk (hn rfl)
    clear hn
    go_enter Try.func91,Try.ntmps91
    go_wp2
    go_ret
    rw[Y.out]
    exact⟨_,rfl,Kd.Xx _ _ _ _ _,HB.out⟩
  · clear hn
    go_enter Try.func91,Try.ntmps91
    go_wp2_with (first|((with_reducible refine Qf (N:=5) rfl ?_);refine Kd.Vu k86 _ 86 ?hg (N:=5) ?hd (xs:=([]:List S86)) (inner:=[]) (ok:=fun _=>True) (okp:=fun _=>True) ?hr ?hp (fun _ hk=>hk) trivial (Below.refl _ _) (Nat.le_refl _) (by simp) ?_;(case hd=>rfl);(case hg=>rfl);(case hr=>first|(go_simp;done)|(go_simp;rfl));(case hp=>exact(Reps.none _ _));intro v1 w1 ax J hg_ hnew_;clear hg_ hnew_;have HO:=Aside0.mk ax;have O:=Aside0.mk J;clear ax J)|((with_reducible refine Xq (b:=.append) (xs:=#[.tmp 5,.tmp 6]) rfl ?_);at_builtin;refine Kd.Kb k86 (w0:=w) w.heap.size rfl (.tmp 5) (.tmp 6) 48 86 (.agg #[(.int .i64 0),(.int .i64 0)]) 16 rfl Try.underlying48 K6 rfl (by decide) (by omega) v1 [] l0 _ _ _ (fun _=>True) (fun _=>False) rfl rfl ?aO ?aR (fun _ _ h=>h) (fun _ h=>h.elim) ?aF ?aB ?aS ?aL ?_;(case aR=>exact(Kd.Qv HR.out O.out));(case aB=>exact O.out);(case aF=>exact(fun _ _=>trivial));(case aO=>exact HO.out);(case aS=>exact Qh O.out);(case aL=>have:=HL.out;simp only[List.length_nil];omega);intro v2 w2 ho hb hg hat;clear hg hat))
    go_ret
    exact⟨_,rfl,by simpa using ho,hb⟩
def woI (B J:Int) (l:List S86):List S86:=l.filter (fun y=> !(Yb B J y.f0 y.f1==0))
set_option maxRecDepth 100000 in
set_option maxHeartbeats 2000000 in
theorem Vw (A:Option Addr) (c:Nat) (l:List S86) (B J:Int) (w:World) (hr:Kd.C k86 w A l.length l) (hc:l.length≤c) (hl:l.length<1000000000) (b1: -9223372036854775808≤J∧J≤9223372036854775807):
    Calls Try.prog 75 #[.agg #[.slice A l.length c,.func (.func 83) #[] #[]],.agg #[.int .i64 B,.int .i64 J]] w fun e w'=>∃ bg:Value,e = .returned bg∧Kd.R k86 86 w' w.heap.size (fun _=>True) bg (woI B J l)∧Below w.heap.size w w':=by
  have HR:=Aside0.mk hr
  have HC:=Aside0.mk hc
  have HF:=Aside0.mk (show api_Inside_91.f l=some l by unfold api_Inside_91.f;rw[if_pos hl])
  have HB:=Aside0.mk (Below.refl w.heap.size w)
  have HD:=Aside0.mk (show api_Inside_90.f (l.length+6) l (tok B J)=some (woI B J l) by
    rw[Call.E2 l (tok B J) (by omega) _ (by omega)]
    show some (l.filter (fun y=> !(Yb (Yi (tok B J)) (Yh (tok B J)) y.f0 y.f1==0)))=_
    rw[Ko B J b1,Kn B J b1]
    rfl)
  have T1:=Aside0.mk (Ko B J b1)
  have T2:=Aside0.mk (Kn B J b1)
  clear hr hc hl b1
  go_enter Try.func75,Try.ntmps75
  go_wp2_with (first|((with_reducible refine Qf (N:=2) rfl ?_);refine Zg ?hg (N:=2) ?hd (cs:=#[.slice A l.length c,.func (.func 83) #[] #[]]) (t:=116) ?hr ?_;(case hd=>rfl);(case hg=>rfl);(case hr=>first|(go_simp;done)|(go_simp;rfl));intro g2 hg_ w2 hbox hb;have μ :=Aside0.mk (Q0 HB.out hb);have ξ :=Aside0.mk hbox;clear HB;have HB:= μ;have O:= ξ;clear μ ξ;clear hb hbox hg_)|((with_reducible refine Qf (N:=3) rfl ?_);refine Zg ?hg (N:=3) ?hd (cs:=#[.int .i64 B,.int .i64 J]) (t:=86) ?hr ?_;(case hd=>rfl);(case hg=>rfl);(case hr=>first|(go_simp;done)|(go_simp;rfl));intro g3 hg_ w3 hbox hb;have Y:=Aside0.mk (Qy (g:=g2) (o:=.cells #[.slice A l.length c,.func (.func 83) #[] #[]] 116 (0,0)) O.out hb);have μ :=Aside0.mk (Q0 HB.out hb);have ξ :=Aside0.mk hbox;clear HB O;have HB:= μ;have X:= ξ;have O:=Y;clear μ ξ Y;clear hb hbox hg_;have δ :w3.cell? ⟨g2,0,none⟩=some (.slice A l.length c):=(Qa O.out 0).trans rfl;have ε :w3.cell? ⟨g2,1,none⟩=some (.func (.func 83) #[] #[]):=(Qa O.out 1).trans rfl)|(go_at_call 91;((with_reducible refine(api_Inside_91.calls A c l l _ ?side1 ?side2 HF.out).mono ?_);(case side1=>exact Kd.Qv HR.out HB.out);(case side2=>exact HC.out);rintro e w4 ⟨v4,rfl,ak,hb⟩;have ζ :=Aside0.mk (Nat.not_le.2 (Xi O.out));have η :=Aside0.mk (Nat.not_le.2 (Xi X.out));have Y:=Aside0.mk (Kd.Q3 (Kd.Qw (Kd.Xr ak) (fun k_ hk=>hk.2.1)) HB.out.size);have Z:=Aside0.mk (Qy (g:=g2) (o:=.cells #[.slice A l.length c,.func (.func 83) #[] #[]] 116 (0,0)) O.out hb);have γ:=Aside0.mk (Qy (g:=g3) (o:=.cells #[.int .i64 B,.int .i64 J] 86 (0,0)) X.out hb);have μ :=Aside0.mk (Q0 HB.out hb);clear HB O X;have HB:= μ;have O:=Z;have X:=γ;have HO:=Y;clear μ Y Z γ hb ak))|(go_at_call 90;((with_reducible refine(api_Inside_90.calls (l.length+6) _ v4 l (tok B J) _ w w4 HB.out HO.out HD.out A l.length c g2 g3 0 O.out ?hx ζ.out η.out).mono ?_);(case hx=>rw[T1.out,T2.out];exact X.out);rintro e w5 ⟨v5,rfl,ak,hb,hk⟩;have θ :=Aside0.mk ak;have ι :=Aside0.mk hb;clear ak hb hk)))
  go_ret
  exact⟨_,rfl,Kd.Qw θ.out (fun _ _=>trivial),ι.out⟩
set_option maxRecDepth 100000 in
set_option maxHeartbeats 1000000 in
theorem Kh (A0 A1:Option Addr) (J X c0 c1:Nat) (w:World):
    Calls Try.prog 63 #[.agg #[.slice A0 J c0,.slice A1 X c1]] w fun e w'=>e = .returned (.agg #[.slice A0 J c0,.func (.func 79) #[] #[]])∧Below w.heap.size w w':=by
  have HB:=Aside0.mk (Below.refl w.heap.size w)
  go_enter Try.func63,Try.ntmps63
  go_wp2_with (first|((with_reducible refine Qf (N:=1) rfl ?_);refine Zg ?hg (N:=1) ?hd (cs:=#[.slice A0 J c0,.slice A1 X c1]) (t:=50) ?hr ?_;(case hd=>rfl);(case hg=>rfl);(case hr=>first|(go_simp;done)|(go_simp;rfl));intro g1 hg_ w1 hbox hb;have μ :=Aside0.mk (Q0 HB.out hb);have ξ :=Aside0.mk hbox;clear HB;have HB:= μ;have B:= ξ;clear μ ξ;clear hb hbox hg_)|((with_reducible refine Qf (N:=2) rfl ?_);refine Zg ?hg (N:=2) ?hd (cs:=#[.slice none 0 0,.nilFunc]) (t:=109) ?hr ?_;(case hd=>rfl);(case hg=>rfl);(case hr=>first|(go_simp;done)|(go_simp;rfl));intro g2 hg_ w2 hbox hb;have GEs:=Aside0.mk HB.out.size;have GEl:=Aside0.mk (Xi B.out);have Y:=Aside0.mk (Qy (g:=g1) (o:=.cells #[.slice A0 J c0,.slice A1 X c1] 50 (0,0)) B.out hb);have μ :=Aside0.mk (Q0 HB.out hb);have ξ :=Aside0.mk hbox;clear HB B;have HB:= μ;have O:= ξ;have B:=Y;clear μ ξ Y;have Z:=Aside0.mk (by rw[hg_];exact GEs.out:w.heap.size≤g2);have NB:=Aside0.mk (by rw[hg_];exact Nat.ne_of_lt GEl.out:g1≠g2);clear hb hbox hg_;have hnb:=NB.out;have δ :w2.cell? ⟨g1,0,none⟩=some (.slice A0 J c0):=(Qa B.out 0).trans rfl;have ε :w2.cell? ⟨g1,1,none⟩=some (.slice A1 X c1):=(Qa B.out 1).trans rfl;have ζ :w2.cell? ⟨g2,0,none⟩=some (.slice none 0 0):=(Qa O.out 0).trans rfl;have η :w2.cell? ⟨g2,1,none⟩=some (.nilFunc):=(Qa O.out 1).trans rfl;have γ:=Qb O.out 0;have θ :=Qb O.out 1))
  refine bodyPost_ret (results_cell_row rfl _ _ g2 109 #[.slice A0 J c0,.func (.func 79) #[] #[]] (0,0) _ rfl (by refine Qq (cs:=#[.slice A0 J c0,.nilFunc]) ?_ 1 _ rfl;refine Qq (cs:=#[.slice none 0 0,.nilFunc]) ?_ 0 _ rfl;exact O.out) Try.underlying109 rfl kr) rfl ?_
  exact⟨rfl,Qx (Qx HB.out Z.out) Z.out⟩
set_option maxRecDepth 100000 in
set_option maxHeartbeats 1000000 in
theorem Jw (F C:Int) (w:World):
    Calls Try.prog 65 #[.agg #[.int .i64 F,.int .i64 C]] w fun e w'=>∃ g:Nat,e = .returned (.func (.func 82) #[] #[.pointer (some ⟨g,0,none⟩)])∧w'.heap[g]?=some (.cells #[.int .i64 F,.int .i64 C] 59 (0,0))∧w.heap.size≤g∧Below w.heap.size w w':=by
  have HB:=Aside0.mk (Below.refl w.heap.size w)
  go_enter Try.func65,Try.ntmps65
  go_wp2_with (first|((with_reducible refine Qf (N:=1) rfl ?_);refine Zg ?hg (N:=1) ?hd (cs:=#[.int .i64 F,.int .i64 C]) (t:=59) ?hr ?_;(case hd=>rfl);(case hg=>rfl);(case hr=>first|(go_simp;done)|(go_simp;rfl));intro g1 hg_ w1 hbox hb;have GEs:=Aside0.mk HB.out.size;have μ :=Aside0.mk (Q0 HB.out hb);have ξ :=Aside0.mk hbox;clear HB;have HB:= μ;have B:= ξ;clear μ ξ;have J:=Aside0.mk (by rw[hg_];exact GEs.out:w.heap.size≤g1);clear hb hbox hg_))
  go_ret
  exact⟨_,rfl,B.out,J.out,HB.out⟩
set_option maxRecDepth 100000 in
set_option maxHeartbeats 1000000 in
theorem Gl (A0 A1:Option Addr) (J X c0 c1:Nat) (w:World):
    Calls Try.prog 66 #[.agg #[.slice A0 J c0,.slice A1 X c1]] w fun e w'=>e = .returned (.agg #[.slice A1 X c1,.func (.func 83) #[] #[]])∧Below w.heap.size w w':=by
  have HB:=Aside0.mk (Below.refl w.heap.size w)
  go_enter Try.func66,Try.ntmps66
  go_wp2_with (first|((with_reducible refine Qf (N:=1) rfl ?_);refine Zg ?hg (N:=1) ?hd (cs:=#[.slice A0 J c0,.slice A1 X c1]) (t:=50) ?hr ?_;(case hd=>rfl);(case hg=>rfl);(case hr=>first|(go_simp;done)|(go_simp;rfl));intro g1 hg_ w1 hbox hb;have μ :=Aside0.mk (Q0 HB.out hb);have ξ :=Aside0.mk hbox;clear HB;have HB:= μ;have B:= ξ;clear μ ξ;clear hb hbox hg_)|((with_reducible refine Qf (N:=2) rfl ?_);refine Zg ?hg (N:=2) ?hd (cs:=#[.slice none 0 0,.nilFunc]) (t:=116) ?hr ?_;(case hd=>rfl);(case hg=>rfl);(case hr=>first|(go_simp;done)|(go_simp;rfl));intro g2 hg_ w2 hbox hb;have GEs:=Aside0.mk HB.out.size;have GEl:=Aside0.mk (Xi B.out);have Y:=Aside0.mk (Qy (g:=g1) (o:=.cells #[.slice A0 J c0,.slice A1 X c1] 50 (0,0)) B.out hb);have μ :=Aside0.mk (Q0 HB.out hb);have ξ :=Aside0.mk hbox;clear HB B;have HB:= μ;have O:= ξ;have B:=Y;clear μ ξ Y;have Z:=Aside0.mk (by rw[hg_];exact GEs.out:w.heap.size≤g2);have NB:=Aside0.mk (by rw[hg_];exact Nat.ne_of_lt GEl.out:g1≠g2);clear hb hbox hg_;have hnb:=NB.out;have δ :w2.cell? ⟨g1,0,none⟩=some (.slice A0 J c0):=(Qa B.out 0).trans rfl;have ε :w2.cell? ⟨g1,1,none⟩=some (.slice A1 X c1):=(Qa B.out 1).trans rfl;have ζ :w2.cell? ⟨g2,0,none⟩=some (.slice none 0 0):=(Qa O.out 0).trans rfl;have η :w2.cell? ⟨g2,1,none⟩=some (.nilFunc):=(Qa O.out 1).trans rfl;have γ:=Qb O.out 0;have θ :=Qb O.out 1))
  refine bodyPost_ret (results_cell_row rfl _ _ g2 116 #[.slice A1 X c1,.func (.func 83) #[] #[]] (0,0) _ rfl (by refine Qq (cs:=#[.slice A1 X c1,.nilFunc]) ?_ 1 _ rfl;refine Qq (cs:=#[.slice none 0 0,.nilFunc]) ?_ 0 _ rfl;exact O.out) Try.underlying116 rfl kr) rfl ?_
  exact⟨rfl,Qx (Qx HB.out Z.out) Z.out⟩
set_option maxRecDepth 100000 in
set_option maxHeartbeats 1000000 in
theorem U4 (F C:Int) (w:World):
    Calls Try.prog 68 #[.agg #[.int .i64 F,.int .i64 C]] w fun e w'=>∃ g:Nat,e = .returned (.func (.func 84) #[] #[.pointer (some ⟨g,0,none⟩)])∧w'.heap[g]?=some (.cells #[.int .i64 F,.int .i64 C] 59 (0,0))∧w.heap.size≤g∧Below w.heap.size w w':=by
  have HB:=Aside0.mk (Below.refl w.heap.size w)
  go_enter Try.func68,Try.ntmps68
  go_wp2_with (first|((with_reducible refine Qf (N:=1) rfl ?_);refine Zg ?hg (N:=1) ?hd (cs:=#[.int .i64 F,.int .i64 C]) (t:=59) ?hr ?_;(case hd=>rfl);(case hg=>rfl);(case hr=>first|(go_simp;done)|(go_simp;rfl));intro g1 hg_ w1 hbox hb;have GEs:=Aside0.mk HB.out.size;have μ :=Aside0.mk (Q0 HB.out hb);have ξ :=Aside0.mk hbox;clear HB;have HB:= μ;have B:= ξ;clear μ ξ;have J:=Aside0.mk (by rw[hg_];exact GEs.out:w.heap.size≤g1);clear hb hbox hg_))
  go_ret
  exact⟨_,rfl,B.out,J.out,HB.out⟩
end Go.Proofs.Ytmfffemidlhcpaa.C
namespace Go.Proofs.Ytmfffemidlhcpaa.C
open Go.RowKit Go.Proofs.YtmfffemidlhcpaaW.PrintWords Go.Proofs.YtmfffemidlhcpaaW.PrintLast Go.Proofs.YtmfffemidlhcpaaW.PrintMore
set_option linter.unusedVariables false
def small (n:Nat) (C:Int):Bool:=decide (n<1000000000 ∧ -9223372036854775808≤C∧C≤9223372036854775807)
def rightP_H.f (X:List S36) (Z:List S86) (J O:Int):Option Bool:=if small X.length O=true then some (Call.Zn (fun x=>Yn J O x.f0 x.f1 x.f2) Call.ltH none X) else none
theorem rightP_H.calls (θ :Option Addr) (η :Nat) (X:List S36) (κ :Option Addr) (ι :Nat) (Z:List S86) (J O:Int) (r:Bool) (w:World) (a8:Kd.C k36 w θ X.length X) (a9:X.length ≤ η) (aj:Kd.C k86 w κ Z.length Z) (al:Z.length ≤ ι) (h:rightP_H.f X Z J O=some r) (g:Nat) (hg:w.heap[g]?=some (.cells #[.int .i64 J,.int .i64 O] 59 (0,0))):
    Calls Try.prog 64 #[.agg #[.slice θ X.length η,.func (.func 79) #[] #[]],.func (.func 82) #[] #[.pointer (some ⟨g,0,none⟩)]] w fun e w'=>e = .returned (.bool r)∧Below w.heap.size w w':=by
  unfold rightP_H.f at h
  split at h
  case isFalse=>cases h
  case isTrue hs=>
  cases h
  obtain⟨hl,hb⟩:=of_decide_eq_true hs
  have e1:=Ko J O hb
  have B:=Kn J O hb
  refine api_Hall_right.calls (2 * X.length+1) θ η X 0 (tok J O) _ w a8 a9 ?_ g ?_
  · rw[Call.Ly X _ 0 (by omega) _ (by omega),e1,B]
  · rw[e1,B];exact hg
def rightP_I.f (X:List S36) (Z:List S86) (J O:Int):Option Bool:=if small Z.length O=true then some (Call.Zn (fun x=>K5 J O x.f0 x.f1) Call.ltI none Z) else none
theorem rightP_I.calls (θ :Option Addr) (η :Nat) (X:List S36) (κ :Option Addr) (ι :Nat) (Z:List S86) (J O:Int) (r:Bool) (w:World) (a8:Kd.C k36 w θ X.length X) (a9:X.length ≤ η) (aj:Kd.C k86 w κ Z.length Z) (al:Z.length ≤ ι) (h:rightP_I.f X Z J O=some r) (g:Nat) (hg:w.heap[g]?=some (.cells #[.int .i64 J,.int .i64 O] 59 (0,0))):
    Calls Try.prog 67 #[.agg #[.slice κ Z.length ι,.func (.func 83) #[] #[]],.func (.func 84) #[] #[.pointer (some ⟨g,0,none⟩)]] w fun e w'=>e = .returned (.bool r)∧Below w.heap.size w w':=by
  unfold rightP_I.f at h
  split at h
  case isFalse=>cases h
  case isTrue hs=>
  cases h
  obtain⟨hl,hb⟩:=of_decide_eq_true hs
  have e1:=Ko J O hb
  have B:=Kn J O hb
  refine api_Inside_right.calls (2 * Z.length+1) κ ι Z 0 (tok J O) _ w aj al ?_ g ?_
  · rw[Call.Lx Z _ 0 (by omega) _ (by omega),e1,B]
  · rw[e1,B];exact hg
end Go.Proofs.Ytmfffemidlhcpaa.C
namespace Go.Proofs.Ytmfffemidlhcpaa.C
open Go.RowKit Go.Proofs.YtmfffemidlhcpaaW.PrintWords Go.Proofs.YtmfffemidlhcpaaW.PrintLast Go.Proofs.YtmfffemidlhcpaaW.PrintMore
attribute [local go_sem] Zv Zt Z6 Z5 Zk Zj Zu Zs
set_option linter.unusedVariables false
set_option linter.unusedSimpArgs false
def api_Hall_set.j0:Nat→List (S36)→Option ((List (S36)))
 |0,_=>none
 |k+1,x5=>some x5
def api_Hall_set.f (k:Nat) (B:List (S36)) (O:Int) (ι :Int) (ε :Int) (κ :Int):Option ((List (S36))):=(api_Hall_88.f B).bind fun δ =>((api_Hall_89.f k δ ι ε κ O).bind fun η =>(if η.2=true then (if 0 ≤ η.1 then (if η.1<(δ.length:Int) then (api_Hall_set.j0 k (δ.set (η.1:Int).toNat (⟨ι,ε,κ⟩:S36))) else (none)) else (none)) else (api_Hall_set.j0 k δ)))
set_option maxHeartbeats 8000000 in
set_option maxRecDepth 100000 in
theorem api_Hall_set.calls (k:Nat) (τ :Option Addr) (ν :Nat) (B:List (S36)) (O:Int) (ι :Int) (ε :Int) (κ :Int) (r:List (S36)) (w:World) (χ :Kd.C k36 w τ B.length B) (a0:B.length ≤ ν) (h:api_Hall_set.f k B O ι ε κ = some r):
  Calls Try.prog 74 #[.agg #[.slice τ B.length ν,.func (.func 79) #[] #[]],.agg #[.int .i64 ι,.int .i64 ε,.int .i64 κ]] w fun e w'=>∃ bg:Value,e = .returned (bg)∧Kd.R k36 36 w' w.heap.size (fun _=>True) bg r∧Below w.heap.size w w':=by
 have cn:=Try.underlying109
 have dm:=Try.underlying36
 have ae:=Aside0.mk χ
 have ay:=Aside0.mk a0
 clear χ a0
 have HB:=Aside0.mk (Below.refl w.heap.size w)
 have H:((api_Hall_88.f B).bind fun δ =>((api_Hall_89.f k δ ι ε κ O).bind fun η =>(if η.2=true then (if 0 ≤ η.1 then (if η.1<(δ.length:Int) then (api_Hall_set.j0 k (δ.set (η.1:Int).toNat (⟨ι,ε,κ⟩:S36))) else (none)) else (none)) else (api_Hall_set.j0 k δ))))=some r:=h
 clear h
 replace H:=Option.bind_eq_some_iff.mp H
 obtain⟨δ,a5,H⟩:=H
 replace H:((api_Hall_89.f k δ ι ε κ O).bind fun η =>(if η.2=true then (if 0 ≤ η.1 then (if η.1<(δ.length:Int) then (api_Hall_set.j0 k (δ.set (η.1:Int).toNat (⟨ι,ε,κ⟩:S36))) else (none)) else (none)) else (api_Hall_set.j0 k δ)))=some r:=H
 have A3:=Aside0.mk a5
 clear a5
 replace H:=Option.bind_eq_some_iff.mp H
 obtain⟨⟨ζ,ρ⟩,d4,H⟩:=H
 replace H:(if ρ=true then (if 0 ≤ ζ then (if ζ < (δ.length:Int) then (api_Hall_set.j0 k (δ.set (ζ :Int).toNat (⟨ι,ε,κ⟩:S36))) else (none)) else (none)) else (api_Hall_set.j0 k δ))=some r:=H
 have A4:=Aside0.mk d4
 clear d4
 have bz:=Aside0.mk H
 clear H
 go_enter Try.func74,Try.ntmps74
 go_upto_if 19 with(first|((with_reducible refine Qf (N:=2) rfl ?_);refine qE 2 #[.slice τ B.length ν,.func (.func 79) #[] #[]] 109 ?_;intro ag hg w6 hbox hb;have Y:=Aside0.mk hbox;have bl:=sGe hg;have bm:=sGe hg;replace HB:=sHb hb;clear hb hbox hg)|((with_reducible refine Qf (N:=3) rfl ?_);refine qE 3 #[.int .i64 ι,.int .i64 ε,.int .i64 κ] 36 ?_;intro a4 hg w7 hbox hb;have γ:=Aside0.mk hbox;have bn:=sGe hg;have bo:=sGe hg;have ξ :=sNl Y hg;have a1:=sNg Y hg;replace Y:=sBk Y hb;replace HB:=sHb hb;clear hb hbox hg;have d3:= ξ.out;have eb:=a1.out;obtain⟨b0,bw,cb,cd⟩:=qD2 Y.out)|((with_reducible refine Qp (f:=88) rfl ?_);refine Q4 (some 10) rfl rfl Try.func88 kr rfl #[.slice τ B.length ν] rfl qM ?_;(with_reducible refine(api_Hall_88.calls _ _ B δ _ ?side1 ?side2 A3.out).mono ?_);(case side1=>exact(Kd.Qv ae.out HB.out));(case side2=>exact ay.out);rintro e ni ⟨cq,rfl,ak,hb⟩;refine⟨_,rfl, ?_⟩;have J:=Aside0.mk (Kd.Q3 (Kd.Kl ak (g:=a4) (o:=.cells #[.int .i64 ι,.int .i64 ε,.int .i64 κ] 36 (0,0)) γ.out) (Qh HB.out));replace Y:=sBk Y hb;replace γ:=sBk γ hb;replace HB:=sHb hb;(try clear hb);(try clear a6);(try clear hk);(try clear hi);(try clear ak);obtain⟨ω,ah,bj,b3,bf,bk⟩:=qD3 γ.out;obtain⟨φ,a7,a8,a9⟩:=qD2 Y.out;obtain⟨fv,ea,gw⟩:=Kd.Q5 J.out;subst gw)|((with_reducible refine Qp (f:=89) rfl ?_);refine Q4 (some 16) rfl rfl Try.func89 kr rfl #[.slice fv δ.length ea,.agg #[.int .i64 ι,.int .i64 ε,.int .i64 κ],.func (.func 79) #[] #[]] rfl qM ?_;(with_reducible refine(api_Hall_89.calls k _ _ δ ι ε κ O ζ ρ _ ?side1 ?side2 A4.out).mono ?_);(case side1=>exact(Kd.Qr J.out).2.2);(case side2=>exact(Kd.Qr J.out).2.1);rintro e ft ⟨rfl,hb⟩;refine⟨_,rfl, ?_⟩;replace J:=sRb J hb;replace Y:=sBk Y hb;replace γ:=sBk γ hb;replace HB:=sHb hb;(try clear hb);(try clear a6);(try clear hk);(try clear hi)))
 (try simp only[Act.put,qS])
 go_cut [] (fun wc=>∃ (kq:Nat) (bb:List (S36)) (a3:Int) (aa:Int) (ac:Int),Aside0 (api_Hall_set.j0 kq bb=some r)∧Aside0 (kq≤k)∧Aside0 (Kd.R k36 36 wc w.heap.size (fun k_=>k_≠a4) (.slice fv δ.length ea) bb)∧Aside0 (wc.heap[ag]?=some (.cells #[(.slice τ B.length ν),.func (.func 79) #[] #[]] 109 (0,0)))∧Aside0 (wc.heap[a4]?=some (.cells #[.int .i64 a3,.int .i64 aa,.int .i64 ac] 36 (0,0)))∧Aside0 (Below w.heap.size w wc))
 case first=>
  have H:=bz.out
  clear bz
  by_cases b4:ρ=true
  ·subst b4
   have H1:(if 0 ≤ ζ then (if ζ < (δ.length:Int) then (api_Hall_set.j0 k (δ.set (ζ :Int).toNat (⟨ι,ε,κ⟩:S36))) else (none)) else (none))=some r:=by rw[if_pos rfl] at H;exact H
   clear H
   have H:=H1
   clear H1
   by_cases ψ :0 ≤ ζ
   ·rw[if_pos ψ] at H
    have c16b0:decide (0 ≤ ζ)=true:=decide_eq_true ψ
    clear ψ
    (first|rw[c16b0]|(simp only[Xe,Xh];rw[c16b0])|skip)
    by_cases σ: ζ < (δ.length:Int)
    ·rw[if_pos σ] at H
     have c17b0:decide (ζ < (δ.length:Int))=true:=decide_eq_true σ
     clear σ
     obtain⟨θ,Z⟩:∃ y_:List (S36),y_=(δ.set (ζ :Int).toNat (⟨ι,ε,κ⟩:S36)):=⟨_,rfl⟩
     replace H:(api_Hall_set.j0 k θ)=some r:=by first|(rw[Z];with_reducible exact H)|(have an:=(Option.bind_some _ _).symm.trans H;rw[Z];with_reducible exact an)|(have an:=(Option.bind_some _ _).symm.trans H;with_reducible exact an)|with_reducible exact H|(rw[Z];exact H)|exact H
     have aw:=Aside0.mk Z
     clear Z
     have H':=Aside0.mk H
     clear H
     have ce:=a1.out
     have ci:= ξ.out
     obtain⟨af,al,bh,ar,av,bi⟩:=qD3 γ.out
     have au:0≤(ζ :Int):=of_decide_eq_true (by assumption)
     have ax:(ζ :Int)<((δ.length:Int):Int):=of_decide_eq_true (by assumption)
     obtain⟨X,cw,b5,b6,bq,cx,b7⟩:=Kd.Ui J.out (by omega)
     (first|cases b5|(injection b5 with ea_ en_ ec_;(first|subst ea_|(injection ea_ with ea_;subst ea_));subst ec_;clear en_))
     have az:=Aside0.mk b6
     have cy:=Aside0.mk b7
     clear b6 bq b7
     obtain⟨d0,b9,b8,ab,ap⟩:=Kd.Jr J.out z36 (ζ :Int) au ax
     obtain rfl:=Ya b8
     have bd:ft.cell? ⟨X,(ζ :Int).toNat * 3,none⟩=some (.int .i64 ((Qc δ ζ).f0)):=ab 0 _ rfl
     have bp:ft.cell? ⟨X,(ζ :Int).toNat * 3+1,none⟩=some (.int .i64 ((Qc δ ζ).f1)):=ab 1 _ rfl
     have ca:ft.cell? ⟨X,(ζ :Int).toNat * 3+2,none⟩=some (.int .i64 ((Qc δ ζ).f2)):=ab 2 _ rfl
     have bv:ft.frozen? ⟨X,(ζ :Int).toNat * 3,none⟩=false:=ap 0
     have cf:ft.frozen? ⟨X,(ζ :Int).toNat * 3+1,none⟩=false:=ap 1
     have cp:ft.frozen? ⟨X,(ζ :Int).toNat * 3+2,none⟩=false:=ap 2
     clear b9 ab ap b8
     replace au:=eq_true au
     replace ax:=eq_true ax
     have n_:=Aside0.mk (Kd.Qw (ok':=(fun k_=>k_≠a4)) J.out (fun k_ hk=>hk.2))
     clear J
     have J:=n_
     clear n_
     have cg:=Aside0.mk (show Kd.R k36 36 ft w.heap.size (fun k_=>k_≠a4) (.slice (some ⟨X,0,none⟩) δ.length ea) δ from J.out)
     obtain⟨cr,bu,ch,μ,ai⟩:=Kd.Jr cg.out z36 (ζ :Int) (of_decide_eq_true (by assumption)) (by have h_:(ζ :Int)<((δ.length:Int):Int):=of_decide_eq_true (by assumption);first|exact h_|(have e_:=(Kd.Qr J.out).1;omega)|simpa using h_)
     obtain rfl:=Ya ch
     have bc:=Kd.Lm cg.out (ζ :Int) (of_decide_eq_true (by assumption)) (by have h_:(ζ :Int)<((δ.length:Int):Int):=of_decide_eq_true (by assumption);first|exact h_|(have e_:=(Kd.Qr J.out).1;omega)|simpa using h_) (seg:=[.int .i64 ι,.int .i64 ε,.int .i64 κ]) (j:=0) bu μ (show 3≤3 from by decide) (x':=(⟨ι,ε,κ⟩:S36)) (Kw _ _ _ (⟨ι,ε,κ⟩:S36)) (fun _ hk=>hk)
     have am:= μ 0 _ rfl
     (try simp only[show(k36).sz=3 from rfl,Nat.mul_one,Nat.add_zero] at am)
     have cj:=ai 0
     (try simp only[show(k36).sz=3 from rfl,Nat.mul_one,Nat.add_zero] at cj)
     have ao:= μ 1 _ rfl
     (try simp only[show(k36).sz=3 from rfl,Nat.mul_one,Nat.add_zero] at ao)
     have ck:=ai 1
     (try simp only[show(k36).sz=3 from rfl,Nat.mul_one,Nat.add_zero] at ck)
     have b2:= μ 2 _ rfl
     (try simp only[show(k36).sz=3 from rfl,Nat.mul_one,Nat.add_zero] at b2)
     have cm:=ai 2
     (try simp only[show(k36).sz=3 from rfl,Nat.mul_one,Nat.add_zero] at cm)
     clear bu μ ai ch
     go_wp2_with (first|((with_reducible refine Jm (t:=36) (p:=23) rfl ?_);refine Y3 (t:=36) (p:=23) (v:=?vo_w22) (w1:=(((ft.setCell ⟨X,(ζ :Int).toNat * 3,none⟩ (.int .i64 ι)).setCell ⟨X,(ζ :Int).toNat * 3+1,none⟩ (.int .i64 ε)).setCell ⟨X,(ζ :Int).toNat * 3+2,none⟩ (.int .i64 κ))) ?hg ?ho ?hn ?hr ?_;(case ho=>rfl);(case hg=>rfl);(case hn=>rfl);(case hr=>go_simp <;> rfl);intro br hw;have hg:ft.grownBy br (some X):=(by rw[hw];exact bc.2);have hp_:Kd.R k36 36 br w.heap.size (fun k_=>k_≠a4) (.slice (some ⟨X,0,none⟩) δ.length ea) θ :=(by rw[hw,aw.out];exact bc.1);clear bc;replace Y:=Aside0.mk (Q2 (g:=ag) (o:=.cells #[.slice τ B.length ν,.func (.func 79) #[] #[]] 109 (0,0)) Y.out hg (Kd.Z4 J.out Y.out (by decide)));replace γ:=Aside0.mk (Q2 (g:=a4) (o:=.cells #[.int .i64 ι,.int .i64 ε,.int .i64 κ] 36 (0,0)) γ.out hg (Kd.W4 J.out (fun _ hk=>hk)));replace J:=Aside0.mk hp_;replace HB:=Aside0.mk ((by rw[hw];exact Qx (Qx (Qx (HB.out) az.out) az.out) az.out:Below w.heap.size w br));clear hg hw hp_))
     go_meet
     case rel=>exact⟨_,(θ),(ι),(ε),(κ),H',⟨by first|omega|exact Nat.le_refl _⟩,⟨by(with_reducible repeat first|apply Kd.Qm|apply Kd.Ql|apply Kd.Qs);exact J.out⟩,Y,γ,HB⟩
    ·rw[if_neg σ] at H
     exact absurd H (by simp)
   ·rw[if_neg ψ] at H
    exact absurd H (by simp)
  ·replace b4:=Bool.eq_false_iff.mpr b4
   subst b4
   have H1:(api_Hall_set.j0 k δ)=some r:=by rw[if_neg (show ¬ (false=true) by decide)] at H;exact H
   clear H
   have H:=H1
   clear H1
   have H':=Aside0.mk H
   clear H
   go_wp2
   go_meet
   case rel=>exact⟨_,(δ),(ι),(ε),(κ),H',⟨by first|omega|exact Nat.le_refl _⟩,⟨by(with_reducible repeat first|apply Kd.Qm|apply Kd.Ql|apply Kd.Qs);exact Kd.Qw J.out (fun _ hk=>hk.2)⟩,Y,γ,HB⟩
 case rest=>
  clear bz
  try clear c1
  try clear p1
  try clear q1
  try clear b1
  try clear c2
  try clear p2
  try clear qw
  try clear co
  try clear c7
  try clear c8
  try clear b4
  try clear ψ
  try clear c16b0
  try clear σ
  try clear c17b0
  try clear be
  try clear au
  try clear ax
  try clear ct
  try clear cu
  try clear d1
  try clear ba
  try clear cv
  try clear cz
  try clear ω
  try clear ah
  try clear bj
  try clear φ
  try clear a7
  try clear af
  try clear al
  try clear bh
  try clear b0
  try clear bw
  try clear b3
  try clear bf
  try clear bk
  try clear a8
  try clear a9
  try clear ar
  try clear av
  try clear bi
  try clear cb
  try clear cd
  try clear bd
  try clear bp
  try clear ca
  try clear am
  try clear ao
  try clear b2
  try clear au
  try clear ax
  obtain⟨kq,bb,a3,aa,ac,HA,d2,bs,Y,γ,HB⟩:=hcut
  have aj:=(Kd.Qr bs.out).1
  rw[aj] at bs
  (try simp only[aj])
  (try simp only[aj] at Y)
  (try simp only[aj] at γ)
  cases kq with
  |zero=>exact absurd HA.out (by simp[api_Hall_set.j0])
  |succ d5=>
   have H:=HA.out
   clear HA
   simp only[api_Hall_set.j0] at H
   obtain rfl:=Option.some.inj H
   go_wp2
   go_ret
   exact⟨_,rfl,by(with_reducible repeat first|apply Kd.Qm|apply Kd.Ql|apply Kd.Qs);exact Kd.Qw bs.out (fun _ hk=>trivial),HB.out⟩
end Go.Proofs.Ytmfffemidlhcpaa.C
namespace Go.Proofs.Ytmfffemidlhcpaa.C
open Go.RowKit Go.Proofs.YtmfffemidlhcpaaW.PrintWords Go.Proofs.YtmfffemidlhcpaaW.PrintLast Go.Proofs.YtmfffemidlhcpaaW.PrintMore
set_option linter.unusedVariables false
def hallP.f (B J Z F C:Int):Option Bool:=some (Yn F C B J Z)
def woP_I.f (B J:Int) (l:List S86):Option (List S86):=if small l.length J=true then some (woI B J l) else none
def Ut (x:S36) (l:List S36):List S36:=l.map (fun y=>if y.f0=x.f0∧y.f1=x.f1 then x else y)
def setP_H.f (B J Z:Int) (l:List S36):Option (List S36):=if small l.length J=true∧Call.Zn (fun _=>true) Call.ltH none l=true then some (Ut ⟨B,J,Z⟩ l) else none
theorem Un (A0:Option Addr) (c:Nat) (l:List S86) (B J:Int) (t:List S86) (W:World) (hr:Kd.C k86 W A0 l.length l) (hc:l.length≤c) (h:woP_I.f B J l=some t):
    Calls Try.prog 75 #[.agg #[.slice A0 l.length c,.func (.func 83) #[] #[]],.agg #[.int .i64 B,.int .i64 J]] W fun e w'=>∃ bg:Value,e = .returned bg∧Kd.R k86 86 w' W.heap.size (fun _=>True) bg t∧Below W.heap.size W w':=by
  unfold woP_I.f at h
  split at h
  case isFalse=>cases h
  case isTrue hs=>
  cases h
  obtain⟨hl,hb⟩:=of_decide_eq_true hs
  exact Vw A0 c l B J W hr hc hl hb
theorem Ur (x:S36) (l:List S36):(Ut x l).length=l.length:=by unfold Ut;simp
theorem Us (x:S36) (l:List S36) (m:Nat) (h:m<l.length) (O:m<(Ut x l).length):(Ut x l)[m]=if l[m].f0=x.f0∧l[m].f1=x.f1 then x else l[m]:=by
  simp only[Ut,List.getElem_map]
theorem Lw (l:List S36) (x:S36) (p:Nat) (hs:l.Pairwise (fun x y=>Call.ltH x y=true)) (hp:Call.Va l x.f0 x.f1 p):
    Call.Vh l x.f0 x.f1 p=true→l.set p x=Ut x l:=by
  intro h
  unfold Call.Vh at h
  obtain⟨h1,O,Y⟩:=hp
  rcases Nat.lt_or_ge p l.length with hlt|hge
  case inr=>rw[List.getElem?_eq_none hge] at h;simp at h
  rw[List.getElem?_eq_getElem hlt] at h
  have he:Yb l[p].f0 l[p].f1 x.f0 x.f1=0:=by simpa using h
  rw[Call.Ud] at he
  apply List.ext_getElem
  · rw[Ur];simp
  intro m B X
  rw[List.length_set] at B
  rw[List.getElem_set,Us x l m B X]
  by_cases hm:p=m
  · subst hm
    rw[if_pos rfl,if_pos he]
  · rw[if_neg hm,if_neg]
    intro hq
    rcases Nat.lt_or_ge m p with J|Z
    · have:=List.pairwise_iff_getElem.1 hs m p B hlt J
      rw[Call.Ku] at this
      omega
    · have:=List.pairwise_iff_getElem.1 hs p m hlt B (by omega)
      rw[Call.Ku] at this
      omega
theorem M3 (l:List S36) (x:S36) (p:Nat) (hs:l.Pairwise (fun x y=>Call.ltH x y=true)) (hp:Call.Va l x.f0 x.f1 p):
    Call.Vh l x.f0 x.f1 p=false→l=Ut x l:=by
  intro h
  unfold Call.Vh at h
  obtain⟨h1,O,Y⟩:=hp
  have key:∀ m:Nat,(hm:m<l.length) → ¬ (l[m].f0=x.f0∧l[m].f1=x.f1):=by
    intro m hm hq
    rw[← Call.Ud] at hq
    rcases Nat.lt_or_ge m p with hlt|hge
    · have:=O l[m] (List.mem_iff_getElem.2 ⟨m,by rw[List.length_take];omega,by rw[List.getElem_take]⟩)
      omega
    · rcases Nat.lt_or_ge p m with J|Z
      · have g1:=List.pairwise_iff_getElem.1 hs p m (by omega) hm J
        have g2:=Y l[p] (List.mem_iff_getElem.2 ⟨0,by rw[List.length_drop];omega,by rw[List.getElem_drop];simp⟩)
        rw[Call.Ku] at g1
        rw[Call.Ud] at hq
        rw[Call.Ky] at g2
        omega
      · have hpm:p=m:=by omega
        subst hpm
        rw[List.getElem?_eq_getElem hm] at h
        simp[hq] at h
  apply List.ext_getElem
  · rw[Ur]
  intro m B X
  rw[Us x l m B X,if_neg (key m B)]
theorem V1 (A0:Option Addr) (c:Nat) (l:List S36) (B J Z:Int) (t:List S36) (W:World) (hr:Kd.C k36 W A0 l.length l) (hc:l.length≤c) (h:setP_H.f B J Z l=some t):
    Calls Try.prog 74 #[.agg #[.slice A0 l.length c,.func (.func 79) #[] #[]],.agg #[.int .i64 B,.int .i64 J,.int .i64 Z]] W fun e w'=>∃ bg:Value,e = .returned bg∧Kd.R k36 36 w' W.heap.size (fun _=>True) bg t∧Below W.heap.size W w':=by
  unfold setP_H.f at h
  split at h
  case isFalse=>cases h
  case isTrue hs=>
  cases h
  obtain⟨hl,hb⟩:=of_decide_eq_true hs.1
  have hso:=((Call.Gb (fun _=>true) l).1 hs.2).2
  refine api_Hall_set.calls (l.length+2) A0 c l 0 B J Z _ W hr hc ?_
  unfold api_Hall_set.f api_Hall_88.f
  rw[if_pos hl]
  simp only[Option.bind_some]
  obtain⟨p,hp,e⟩:=Call.Wi l B J Z 0 (by omega) hso (l.length+2) (by omega)
  obtain⟨b,hm⟩:∃ b,Call.Vh l B J p=b:=⟨_,rfl⟩
  rw[hm] at e
  rw[e]
  simp only[Option.bind_some]
  cases b
  · rw[if_neg (by decide)]
    simp only[api_Hall_set.j0]
    congr 1
    exact M3 l ⟨B,J,Z⟩ p hso hp hm
  · have hlt:p<l.length:=by
      rcases Nat.lt_or_ge p l.length with h|h
      · exact h
      · unfold Call.Vh at hm;rw[List.getElem?_eq_none h] at hm;simp at hm
    rw[if_pos rfl,if_pos (by omega),if_pos (by omega)]
    simp only[api_Hall_set.j0,Int.toNat_natCast]
    congr 1
    exact Lw l ⟨B,J,Z⟩ p hso hp hm
end Go.Proofs.Ytmfffemidlhcpaa.C
namespace Go.Proofs.Ytmfffemidlhcpaa.C
open Go.RowKit Go.Proofs.YtmfffemidlhcpaaW.PrintWords Go.Proofs.YtmfffemidlhcpaaW.PrintLast Go.Proofs.YtmfffemidlhcpaaW.PrintMore
attribute [local go_sem] Zv Zt Z6 Z5 Zk Zj Zu Zs
set_option linter.unusedVariables false
set_option linter.unusedSimpArgs false
def call_Check.j0:Nat→Bool→Option (Int)
 |0,_=>none
 |k+1,O=>if O=true then (some 190) else (some 0)
def call_Check.f (k:Nat) (J:Int) (O:Int) (X:List (S36)) (Z:List (S86)):Option (Int):=(call_within.f J 2 64).bind fun δ =>(if δ = true then ((call_within.f O 1 8).bind fun ν =>(if ν = true then ((rightP_H.f X Z J O).bind fun B=>(if B=true then ((rightP_I.f X Z J O).bind fun ζ =>(call_Check.j0 k (!ζ))) else (call_Check.j0 k true))) else (call_Check.j0 k true))) else (call_Check.j0 k true))
theorem call_Check.Zo:∀ k,(∀ O,LeO (call_Check.j0 k O) (call_Check.j0 (k+1) O))
 |0=>fun _ r h=>by simp[call_Check.j0] at h
 |k+1=>by
  have B:=call_Check.Zo k
  ·intro O
   unfold call_Check.j0
   repeat' first
   |(with_reducible exact B _)
   |(with_reducible exact LeO.refl _)
   |(with_reducible exact LeO.none _)
   |(with_reducible refine LeO.ite ?_ ?_)
   |(with_reducible refine LeO.bind ?_ (fun _=>?_))
   |exact B _
   |exact LeO.none _
   |refine LeO.ite ?_ ?_
   |refine LeO.bind ?_ (fun _=>?_)
theorem call_Check.mono:∀ J Y a2 a3 k,LeO (call_Check.f k J Y a2 a3) (call_Check.f (k+1) J Y a2 a3):=by
 intro J Y a2 a3 k
 have B:=call_Check.Zo k
 unfold call_Check.f
 repeat' first
   |(with_reducible exact B _)
   |(with_reducible exact LeO.refl _)
   |(with_reducible exact LeO.none _)
   |(with_reducible refine LeO.ite ?_ ?_)
   |(with_reducible refine LeO.bind ?_ (fun _=>?_))
   |exact B _
   |exact LeO.none _
   |refine LeO.ite ?_ ?_
   |refine LeO.bind ?_ (fun _=>?_)
def call_Check.T1:Bool×List (List Nat×List Nat):=(true,[([],[]),([0],[0]),([1],[1]),([2],[2]),([3,2],[3]),([4],[4]),([5,4],[4,5]),([6,4,4],[4,6]),([7,4],[4,7]),([4,8],[4,8]),([9,7],[9]),([10],[10]),([11,10,10],[10,11]),([10],[10]),([13,12,10],[10,13]),([12,14,14,10],[10,12,14]),([15,10],[10,15]),([10,16],[10,16]),([17,15],[17]),([18],[18]),([19,18,18],[18,19]),([18],[18]),([21,20,18],[18,21]),([20,22,22,18],[18,20,22]),([23,18],[18,23]),([18,24],[18,24])])
def call_Check.B1:List Nat:=[0,1,3,7,15,31,63,127,255,511,1023,2047,4095,2047,16383,32767,65535,131071,262143,524287,1048575,524287,4194303,8388607,16777215,33554431]
theorem call_Check.Kp:rtab .any (opsOf Try.f40 1)=call_Check.T1:=by kernel_rfl
theorem call_Check.Y7:Zq call_Check.T1.2 call_Check.B1=true:=by kernel_rfl
set_option maxHeartbeats 8000000 in
set_option maxRecDepth 100000 in
theorem call_Check.calls (k:Nat) (J:Int) (O:Int) (θ :Option Addr) (η :Nat) (X:List (S36)) (κ :Option Addr) (ι :Nat) (Z:List (S86)) (r:Int) (w:World) (a8:Kd.C k36 w θ X.length X) (a9:X.length ≤ η) (aj:Kd.C k86 w κ Z.length Z) (al:Z.length ≤ ι) (h:call_Check.f k J O X Z=some r):
  Calls Try.prog 40 #[.agg #[.int .i64 J,.int .i64 O],.agg #[.slice θ X.length η,.slice κ Z.length ι]] w fun e w'=>e = .returned (.int .i64 r)∧Below w.heap.size w w':=by
 have dp:=Try.underlying59
 have ey:=Try.underlying50
 have ω :=Aside0.mk a8
 have am:=Aside0.mk a9
 clear a8 a9
 have a7:=Aside0.mk aj
 have av:=Aside0.mk al
 clear aj al
 have HB:=Aside0.mk (Below.refl w.heap.size w)
 have H:((call_within.f J 2 64).bind fun δ =>(if δ = true then ((call_within.f O 1 8).bind fun ν =>(if ν = true then ((rightP_H.f X Z J O).bind fun B=>(if B=true then ((rightP_I.f X Z J O).bind fun ζ =>(call_Check.j0 k (!ζ))) else (call_Check.j0 k true))) else (call_Check.j0 k true))) else (call_Check.j0 k true)))=some r:=h
 clear h
 have a5:=Aside0.mk H
 clear H
 go_enter Try.func40,Try.ntmps40
 go_upto_region 1 with(first|((with_reducible refine Qf (N:=2) rfl ?_);refine qE 2 #[.int .i64 J,.int .i64 O] 59 ?_;intro ag hg w4 hbox hb;have Y:=Aside0.mk hbox;have bl:=sGe hg;have bm:=sGe hg;replace HB:=sHb hb;clear hb hbox hg)|((with_reducible refine Qf (N:=3) rfl ?_);refine qE 3 #[.slice θ X.length η,.slice κ Z.length ι] 50 ?_;intro a4 hg w5 hbox hb;have γ:=Aside0.mk hbox;have bn:=sGe hg;have bo:=sGe hg;have ξ :=sNl Y hg;have a1:=sNg Y hg;replace Y:=sBk Y hb;replace HB:=sHb hb;clear hb hbox hg))
 (try simp only[Act.put,qS])
 go_cut [30] (fun ψ wc=>∃ (kq:Nat) (ε :Bool),ψ = .bool ε ∧ Aside0 (call_Check.j0 kq ε = some r)∧Aside0 (kq≤k)∧Aside0 (wc.heap[ag]?=some (.cells #[.int .i64 J,.int .i64 O] 59 (0,0)))∧Aside0 (wc.heap[a4]?=some (.cells #[(.slice θ X.length η),(.slice κ Z.length ι)] 50 (0,0)))∧Aside0 (Below w.heap.size w wc))
 case first=>
  have H:=a5.out
  clear a5
  replace H:=Option.bind_eq_some_iff.mp H
  obtain⟨δ,b0,H⟩:=H
  replace H:(if δ = true then ((call_within.f O 1 8).bind fun ν =>(if ν = true then ((rightP_H.f X Z J O).bind fun B=>(if B=true then ((rightP_I.f X Z J O).bind fun ζ =>(call_Check.j0 k (!ζ))) else (call_Check.j0 k true))) else (call_Check.j0 k true))) else (call_Check.j0 k true))=some r:=H
  have A6:=Aside0.mk b0
  clear b0
  by_cases c7: δ = true
  ·subst c7
   have H1:((call_within.f O 1 8).bind fun ν =>(if ν = true then ((rightP_H.f X Z J O).bind fun B=>(if B=true then ((rightP_I.f X Z J O).bind fun ζ =>(call_Check.j0 k (!ζ))) else (call_Check.j0 k true))) else (call_Check.j0 k true)))=some r:=by rw[if_pos rfl] at H;exact H
   clear H
   have H:=H1
   clear H1
   replace H:=Option.bind_eq_some_iff.mp H
   obtain⟨ν,gf,H⟩:=H
   replace H:(if ν = true then ((rightP_H.f X Z J O).bind fun B=>(if B=true then ((rightP_I.f X Z J O).bind fun ζ =>(call_Check.j0 k (!ζ))) else (call_Check.j0 k true))) else (call_Check.j0 k true))=some r:=H
   have A8:=Aside0.mk gf
   clear gf
   by_cases c9: ν = true
   ·subst c9
    have H1:((rightP_H.f X Z J O).bind fun B=>(if B=true then ((rightP_I.f X Z J O).bind fun ζ =>(call_Check.j0 k (!ζ))) else (call_Check.j0 k true)))=some r:=by rw[if_pos rfl] at H;exact H
    clear H
    have H:=H1
    clear H1
    replace H:=Option.bind_eq_some_iff.mp H
    obtain⟨B,d6,H⟩:=H
    replace H:(if B=true then ((rightP_I.f X Z J O).bind fun ζ =>(call_Check.j0 k (!ζ))) else (call_Check.j0 k true))=some r:=H
    have bs:=Aside0.mk d6
    clear d6
    by_cases ah:B=true
    ·subst ah
     have H1:((rightP_I.f X Z J O).bind fun ζ =>(call_Check.j0 k (!ζ)))=some r:=by rw[if_pos rfl] at H;exact H
     clear H
     have H:=H1
     clear H1
     replace H:=Option.bind_eq_some_iff.mp H
     obtain⟨ζ,ai,H⟩:=H
     replace H:(call_Check.j0 k (!ζ))=some r:=H
     have aw:=Aside0.mk ai
     clear ai
     have H':=Aside0.mk H
     clear H
     try go_wp2
     replace Y:=Aside0.mk (Qe Y.out)
     replace γ:=Aside0.mk (Qe γ.out)
     replace HB:=Aside0.mk (Qg HB.out)
     refine Zh (n:=26) (S:=fun w'=>w'.cell? ⟨ag,0,none⟩=some (.int .i64 J)∧w'.cell? ⟨ag,1,none⟩=some (.int .i64 O)∧w'.cell? ⟨a4,0,none⟩=some (.slice θ X.length η)∧w'.cell? ⟨a4,1,none⟩=some (.slice κ Z.length ι)) (ds:=[]) #[false,false,false,false,false,false,false,false,false,false,false,false,false,false,false,false,false,false,false,false,false,false,false,false,false,false] kr rfl rfl ⟨(Qa Y.out 0).trans rfl,(Qa Y.out 1).trans rfl,(Qa γ.out 0).trans rfl,(Qa γ.out 1).trans rfl⟩ (fun hHeld=>?_);refine Q8 call_Check.Kp call_Check.Y7 (fun HT_ HW_=>?_)
     generalize w5.drew=ch at Y γ HB hHeld ⊢
     refine qP 0 (some 5) (bN 26 1) HT_ ?_
     refine qT 1 (some 6) (bN 26 3) HT_ HW_ hHeld ?_
     refine qK 2 (some 7) (bN 26 7) HT_ fun K hK=>?_
     refine Q9 Try.func44 kr rfl #[.int .i64 J,.int .i64 2,.int .i64 64] (by rfl) rfl rfl qM ?_
     with_reducible refine(call_within.calls J 2 64 true _ A6.out).mono ?_
     rintro e w' ⟨rfl,⟨nd,rfl⟩⟩
     refine⟨_,rfl, ?_⟩
     refine hK.out _ _ ⟨qc Y,qc Y,qc γ,qc γ⟩ (fun hHeld=>?_)
     clear hK K
     refine qN (some 7) ?_
     refine qP 3 (some 8) (bN 26 15) HT_ ?_
     refine qP 4 (some 9) (bN 26 31) HT_ ?_
     refine qP 5 (some 10) (bN 26 63) HT_ ?_
     refine qT 6 (some 11) (bN 26 127) HT_ HW_ hHeld ?_
     refine qK 7 (some 12) (bN 26 255) HT_ fun K hK=>?_
     refine Q9 Try.func44 kr rfl #[.int .i64 O,.int .i64 1,.int .i64 8] (by rfl) rfl rfl qM ?_
     with_reducible refine(call_within.calls O 1 8 true _ A8.out).mono ?_
     rintro e w' ⟨rfl,⟨nd,rfl⟩⟩
     refine⟨_,rfl, ?_⟩
     refine hK.out _ _ ⟨qc Y,qc Y,qc γ,qc γ⟩ (fun hHeld=>?_)
     clear hK K
     refine qN (some 12) ?_
     refine qP 8 (some 13) (bN 26 511) HT_ ?_
     refine qP 9 (some 14) (bN 26 1023) HT_ ?_
     refine qP 10 (some 15) (bN 26 2047) HT_ ?_
     refine qT 11 (some 16) (bN 26 4095) HT_ HW_ hHeld ?_
     refine qT 13 (some 18) (bN 26 12287) HT_ HW_ hHeld ?_
     refine qK 12 (some 17) (bN 26 16383) HT_ fun K hK=>?_
     refine Q9 Try.func63 kr rfl #[.agg #[.slice θ X.length η,.slice κ Z.length ι]] (by rfl) rfl rfl qM ?_
     refine(Kh θ κ X.length Z.length η ι _).mono ?_
     rintro e b7 ⟨rfl,hb⟩
     refine⟨_,rfl, ?_⟩
     replace Y:=sBk Y hb
     replace γ:=sBk γ hb
     replace HB:=sHb hb
     (try clear hb)
     (try clear a6)
     (try clear hk)
     (try clear hi)
     refine hK.out _ _ ⟨qc Y,qc Y,qc γ,qc γ⟩ (fun hHeld=>?_)
     clear hK K
     refine qN (some 17) ?_
     refine qK 14 (some 19) (bN 26 32767) HT_ fun K hK=>?_
     refine Q9 Try.func65 kr rfl #[.agg #[.int .i64 J,.int .i64 O]] (by rfl) rfl rfl qM ?_
     refine(Jw J O _).mono ?_
     rintro e b9 ⟨μ,rfl,hgp,hgw,hb⟩
     have τ :=Aside0.mk hgp
     clear hgp hgw
     refine⟨_,rfl, ?_⟩
     replace Y:=sBk Y hb
     replace γ:=sBk γ hb
     replace HB:=sHb hb
     (try clear hb)
     (try clear a6)
     (try clear hk)
     (try clear hi)
     refine hK.out _ _ ⟨qc Y,qc Y,qc γ,qc γ⟩ (fun hHeld=>?_)
     clear hK K
     refine qN (some 19) ?_
     refine qK 15 (some 20) (bN 26 65535) HT_ fun K hK=>?_
     refine Q9 Try.func64 kr rfl #[.agg #[.slice θ X.length η,.func (.func 79) #[] #[]],.func (.func 82) #[] #[.pointer (some ⟨μ,0,none⟩)]] (by rfl) rfl rfl qM ?_
     with_reducible refine(rightP_H.calls θ η X κ ι Z J O true _ ?side1 ?side2 ?side3 ?side4 bs.out μ τ.out).mono ?_
     (case side1=>exact(Kd.Qv ω.out HB.out))
     (case side2=>exact am.out)
     (case side3=>exact(Kd.Qv a7.out HB.out))
     (case side4=>exact av.out)
     rintro e ft ⟨rfl,hb⟩
     refine⟨_,rfl, ?_⟩
     replace Y:=sBk Y hb
     replace γ:=sBk γ hb
     replace HB:=sHb hb
     (try clear hb)
     (try clear a6)
     (try clear hk)
     (try clear hi)
     refine hK.out _ _ ⟨qc Y,qc Y,qc γ,qc γ⟩ (fun hHeld=>?_)
     clear hK K
     refine qN (some 20) ?_
     refine qP 16 (some 21) (bN 26 131071) HT_ ?_
     refine qP 17 (some 22) (bN 26 262143) HT_ ?_
     refine qP 18 (some 23) (bN 26 524287) HT_ ?_
     refine qT 19 (some 24) (bN 26 1048575) HT_ HW_ hHeld ?_
     refine qT 21 (some 26) (bN 26 3145727) HT_ HW_ hHeld ?_
     refine qK 20 (some 25) (bN 26 4194303) HT_ fun K hK=>?_
     refine Q9 Try.func66 kr rfl #[.agg #[.slice θ X.length η,.slice κ Z.length ι]] (by rfl) rfl rfl qM ?_
     refine(Gl θ κ X.length Z.length η ι _).mono ?_
     rintro e bd ⟨rfl,hb⟩
     refine⟨_,rfl, ?_⟩
     replace Y:=sBk Y hb
     replace γ:=sBk γ hb
     replace HB:=sHb hb
     (try clear hb)
     (try clear a6)
     (try clear hk)
     (try clear hi)
     refine hK.out _ _ ⟨qc Y,qc Y,qc γ,qc γ⟩ (fun hHeld=>?_)
     clear hK K
     refine qN (some 25) ?_
     refine qK 22 (some 27) (bN 26 8388607) HT_ fun K hK=>?_
     refine Q9 Try.func68 kr rfl #[.agg #[.int .i64 J,.int .i64 O]] (by rfl) rfl rfl qM ?_
     refine(U4 J O _).mono ?_
     rintro e a0 ⟨ρ,rfl,hgp,hgw,hb⟩
     have φ :=Aside0.mk hgp
     clear hgp hgw
     refine⟨_,rfl, ?_⟩
     replace Y:=sBk Y hb
     replace γ:=sBk γ hb
     replace HB:=sHb hb
     (try clear hb)
     (try clear a6)
     (try clear hk)
     (try clear hi)
     refine hK.out _ _ ⟨qc Y,qc Y,qc γ,qc γ⟩ (fun hHeld=>?_)
     clear hK K
     refine qN (some 27) ?_
     refine qK 23 (some 28) (bN 26 16777215) HT_ fun K hK=>?_
     refine Q9 Try.func67 kr rfl #[.agg #[.slice κ Z.length ι,.func (.func 83) #[] #[]],.func (.func 84) #[] #[.pointer (some ⟨ρ,0,none⟩)]] (by rfl) rfl rfl qM ?_
     with_reducible refine(rightP_I.calls θ η X κ ι Z J O ζ _ ?side1 ?side2 ?side3 ?side4 aw.out ρ φ.out).mono ?_
     (case side1=>exact(Kd.Qv ω.out HB.out))
     (case side2=>exact am.out)
     (case side3=>exact(Kd.Qv a7.out HB.out))
     (case side4=>exact av.out)
     rintro e kp ⟨rfl,hb⟩
     refine⟨_,rfl, ?_⟩
     replace Y:=sBk Y hb
     replace γ:=sBk γ hb
     replace HB:=sHb hb
     (try clear hb)
     (try clear a6)
     (try clear hk)
     (try clear hi)
     refine hK.out _ _ ⟨qc Y,qc Y,qc γ,qc γ⟩ (fun hHeld=>?_)
     clear hK K
     refine qN (some 28) ?_
     refine qP 24 (some 29) (bN 26 33554431) HT_ ?_
     refine qP 25 (some 30) (bN 26 67108863) HT_ ?_
     refine Z2 (Zf HT_.out kr) ?_
     try go_wp2
     go_meet
     case rel=>exact⟨_,(!ζ),rfl,H',⟨by first|omega|exact Nat.le_refl _⟩,Y,γ,HB⟩
    ·replace ah:=Bool.eq_false_iff.mpr ah
     subst ah
     have H1:(call_Check.j0 k true)=some r:=by rw[if_neg (show ¬ (false=true) by decide)] at H;exact H
     clear H
     have H:=H1
     clear H1
     have H':=Aside0.mk H
     clear H
     try go_wp2
     replace Y:=Aside0.mk (Qe Y.out)
     replace γ:=Aside0.mk (Qe γ.out)
     replace HB:=Aside0.mk (Qg HB.out)
     refine Zh (n:=26) (S:=fun w'=>w'.cell? ⟨ag,0,none⟩=some (.int .i64 J)∧w'.cell? ⟨ag,1,none⟩=some (.int .i64 O)∧w'.cell? ⟨a4,0,none⟩=some (.slice θ X.length η)∧w'.cell? ⟨a4,1,none⟩=some (.slice κ Z.length ι)) (ds:=[]) #[false,false,false,false,false,false,false,false,false,false,false,false,false,false,false,false,false,false,false,false,false,false,false,false,false,false] kr rfl rfl ⟨(Qa Y.out 0).trans rfl,(Qa Y.out 1).trans rfl,(Qa γ.out 0).trans rfl,(Qa γ.out 1).trans rfl⟩ (fun hHeld=>?_);refine Q8 call_Check.Kp call_Check.Y7 (fun HT_ HW_=>?_)
     generalize w5.drew=bj at Y γ HB hHeld ⊢
     refine qP 0 (some 5) (bN 26 1) HT_ ?_
     refine qT 1 (some 6) (bN 26 3) HT_ HW_ hHeld ?_
     refine qK 2 (some 7) (bN 26 7) HT_ fun K hK=>?_
     refine Q9 Try.func44 kr rfl #[.int .i64 J,.int .i64 2,.int .i64 64] (by rfl) rfl rfl qM ?_
     with_reducible refine(call_within.calls J 2 64 true _ A6.out).mono ?_
     rintro e w' ⟨rfl,⟨nd,rfl⟩⟩
     refine⟨_,rfl, ?_⟩
     refine hK.out _ _ ⟨qc Y,qc Y,qc γ,qc γ⟩ (fun hHeld=>?_)
     clear hK K
     refine qN (some 7) ?_
     refine qP 3 (some 8) (bN 26 15) HT_ ?_
     refine qP 4 (some 9) (bN 26 31) HT_ ?_
     refine qP 5 (some 10) (bN 26 63) HT_ ?_
     refine qT 6 (some 11) (bN 26 127) HT_ HW_ hHeld ?_
     refine qK 7 (some 12) (bN 26 255) HT_ fun K hK=>?_
     refine Q9 Try.func44 kr rfl #[.int .i64 O,.int .i64 1,.int .i64 8] (by rfl) rfl rfl qM ?_
     with_reducible refine(call_within.calls O 1 8 true _ A8.out).mono ?_
     rintro e w' ⟨rfl,⟨nd,rfl⟩⟩
     refine⟨_,rfl, ?_⟩
     refine hK.out _ _ ⟨qc Y,qc Y,qc γ,qc γ⟩ (fun hHeld=>?_)
     clear hK K
     refine qN (some 12) ?_
     refine qP 8 (some 13) (bN 26 511) HT_ ?_
     refine qP 9 (some 14) (bN 26 1023) HT_ ?_
     refine qP 10 (some 15) (bN 26 2047) HT_ ?_
     refine qT 11 (some 16) (bN 26 4095) HT_ HW_ hHeld ?_
     refine qT 13 (some 18) (bN 26 12287) HT_ HW_ hHeld ?_
     refine qK 12 (some 17) (bN 26 16383) HT_ fun K hK=>?_
     refine Q9 Try.func63 kr rfl #[.agg #[.slice θ X.length η,.slice κ Z.length ι]] (by rfl) rfl rfl qM ?_
     refine(Kh θ κ X.length Z.length η ι _).mono ?_
     rintro e a3 ⟨rfl,hb⟩
     refine⟨_,rfl, ?_⟩
     replace Y:=sBk Y hb
     replace γ:=sBk γ hb
     replace HB:=sHb hb
     (try clear hb)
     (try clear a6)
     (try clear hk)
     (try clear hi)
     refine hK.out _ _ ⟨qc Y,qc Y,qc γ,qc γ⟩ (fun hHeld=>?_)
     clear hK K
     refine qN (some 17) ?_
     refine qK 14 (some 19) (bN 26 32767) HT_ fun K hK=>?_
     refine Q9 Try.func65 kr rfl #[.agg #[.int .i64 J,.int .i64 O]] (by rfl) rfl rfl qM ?_
     refine(Jw J O _).mono ?_
     rintro e aa ⟨σ,rfl,hgp,hgw,hb⟩
     have χ :=Aside0.mk hgp
     clear hgp hgw
     refine⟨_,rfl, ?_⟩
     replace Y:=sBk Y hb
     replace γ:=sBk γ hb
     replace HB:=sHb hb
     (try clear hb)
     (try clear a6)
     (try clear hk)
     (try clear hi)
     refine hK.out _ _ ⟨qc Y,qc Y,qc γ,qc γ⟩ (fun hHeld=>?_)
     clear hK K
     refine qN (some 19) ?_
     refine qK 15 (some 20) (bN 26 65535) HT_ fun K hK=>?_
     refine Q9 Try.func64 kr rfl #[.agg #[.slice θ X.length η,.func (.func 79) #[] #[]],.func (.func 82) #[] #[.pointer (some ⟨σ,0,none⟩)]] (by rfl) rfl rfl qM ?_
     with_reducible refine(rightP_H.calls θ η X κ ι Z J O false _ ?side1 ?side2 ?side3 ?side4 bs.out σ χ.out).mono ?_
     (case side1=>exact(Kd.Qv ω.out HB.out))
     (case side2=>exact am.out)
     (case side3=>exact(Kd.Qv a7.out HB.out))
     (case side4=>exact av.out)
     rintro e d3 ⟨rfl,hb⟩
     refine⟨_,rfl, ?_⟩
     replace Y:=sBk Y hb
     replace γ:=sBk γ hb
     replace HB:=sHb hb
     (try clear hb)
     (try clear a6)
     (try clear hk)
     (try clear hi)
     refine hK.out _ _ ⟨qc Y,qc Y,qc γ,qc γ⟩ (fun hHeld=>?_)
     clear hK K
     refine qN (some 20) ?_
     refine qP 16 (some 21) (bN 26 131071) HT_ ?_
     refine qP 17 (some 22) (bN 26 262143) HT_ ?_
     refine qP 18 (some 23) (bN 26 524287) HT_ ?_
     refine qU 19 (some 24) (bN 26 1048575) HT_ ?_
     refine qU 20 (some 25) (bN 26 2097151) HT_ ?_
     refine qU 21 (some 26) (bN 26 4194303) HT_ ?_
     refine qU 22 (some 27) (bN 26 8388607) HT_ ?_
     refine qU 23 (some 28) (bN 26 16777215) HT_ ?_
     refine qU 24 (some 29) (bN 26 33554431) HT_ ?_
     refine qP 25 (some 30) (bN 26 67108863) HT_ ?_
     refine Z2 (Zf HT_.out kr) ?_
     try go_wp2
     go_meet
     case rel=>exact⟨_,(true),rfl,H',⟨by first|omega|exact Nat.le_refl _⟩,Y,γ,HB⟩
   ·replace c9:=Bool.eq_false_iff.mpr c9
    subst c9
    have H1:(call_Check.j0 k true)=some r:=by rw[if_neg (show ¬ (false=true) by decide)] at H;exact H
    clear H
    have H:=H1
    clear H1
    have H':=Aside0.mk H
    clear H
    try go_wp2
    replace Y:=Aside0.mk (Qe Y.out)
    replace γ:=Aside0.mk (Qe γ.out)
    replace HB:=Aside0.mk (Qg HB.out)
    refine Zh (n:=26) (S:=fun w'=>w'.cell? ⟨ag,0,none⟩=some (.int .i64 J)∧w'.cell? ⟨ag,1,none⟩=some (.int .i64 O)) (ds:=[]) #[false,false,false,false,false,false,false,false,false,false,false,false,false,false,false,false,false,false,false,false,false,false,false,false,false,false] kr rfl rfl ⟨(Qa Y.out 0).trans rfl,(Qa Y.out 1).trans rfl⟩ (fun hHeld=>?_);refine Q8 call_Check.Kp call_Check.Y7 (fun HT_ HW_=>?_)
    generalize w5.drew=hh at Y γ HB hHeld ⊢
    refine qP 0 (some 5) (bN 26 1) HT_ ?_
    refine qT 1 (some 6) (bN 26 3) HT_ HW_ hHeld ?_
    refine qK 2 (some 7) (bN 26 7) HT_ fun K hK=>?_
    refine Q9 Try.func44 kr rfl #[.int .i64 J,.int .i64 2,.int .i64 64] (by rfl) rfl rfl qM ?_
    with_reducible refine(call_within.calls J 2 64 true _ A6.out).mono ?_
    rintro e w' ⟨rfl,⟨nd,rfl⟩⟩
    refine⟨_,rfl, ?_⟩
    refine hK.out _ _ ⟨qc Y,qc Y⟩ (fun hHeld=>?_)
    clear hK K
    refine qN (some 7) ?_
    refine qP 3 (some 8) (bN 26 15) HT_ ?_
    refine qP 4 (some 9) (bN 26 31) HT_ ?_
    refine qP 5 (some 10) (bN 26 63) HT_ ?_
    refine qT 6 (some 11) (bN 26 127) HT_ HW_ hHeld ?_
    refine qK 7 (some 12) (bN 26 255) HT_ fun K hK=>?_
    refine Q9 Try.func44 kr rfl #[.int .i64 O,.int .i64 1,.int .i64 8] (by rfl) rfl rfl qM ?_
    with_reducible refine(call_within.calls O 1 8 false _ A8.out).mono ?_
    rintro e w' ⟨rfl,⟨nd,rfl⟩⟩
    refine⟨_,rfl, ?_⟩
    refine hK.out _ _ ⟨qc Y,qc Y⟩ (fun hHeld=>?_)
    clear hK K
    refine qN (some 12) ?_
    refine qP 8 (some 13) (bN 26 511) HT_ ?_
    refine qP 9 (some 14) (bN 26 1023) HT_ ?_
    refine qP 10 (some 15) (bN 26 2047) HT_ ?_
    refine qU 11 (some 16) (bN 26 4095) HT_ ?_
    refine qU 12 (some 17) (bN 26 8191) HT_ ?_
    refine qU 13 (some 18) (bN 26 16383) HT_ ?_
    refine qU 14 (some 19) (bN 26 32767) HT_ ?_
    refine qU 15 (some 20) (bN 26 65535) HT_ ?_
    refine qU 16 (some 21) (bN 26 131071) HT_ ?_
    refine qP 17 (some 22) (bN 26 262143) HT_ ?_
    refine qP 18 (some 23) (bN 26 524287) HT_ ?_
    refine qU 19 (some 24) (bN 26 1048575) HT_ ?_
    refine qU 20 (some 25) (bN 26 2097151) HT_ ?_
    refine qU 21 (some 26) (bN 26 4194303) HT_ ?_
    refine qU 22 (some 27) (bN 26 8388607) HT_ ?_
    refine qU 23 (some 28) (bN 26 16777215) HT_ ?_
    refine qU 24 (some 29) (bN 26 33554431) HT_ ?_
    refine qP 25 (some 30) (bN 26 67108863) HT_ ?_
    refine Z2 (Zf HT_.out kr) ?_
    try go_wp2
    go_meet
    case rel=>exact⟨_,(true),qR,H',⟨by first|omega|exact Nat.le_refl _⟩,⟨bka Y⟩,⟨bka γ⟩,⟨bel⟩⟩
  ·replace c7:=Bool.eq_false_iff.mpr c7
   subst c7
   have H1:(call_Check.j0 k true)=some r:=by rw[if_neg (show ¬ (false=true) by decide)] at H;exact H
   clear H
   have H:=H1
   clear H1
   have H':=Aside0.mk H
   clear H
   try go_wp2
   replace Y:=Aside0.mk (Qe Y.out)
   replace γ:=Aside0.mk (Qe γ.out)
   replace HB:=Aside0.mk (Qg HB.out)
   refine Zh (n:=26) (S:=fun w'=>w'.cell? ⟨ag,0,none⟩=some (.int .i64 J)∧w'.cell? ⟨ag,1,none⟩=some (.int .i64 O)) (ds:=[]) #[false,false,false,false,false,false,false,false,false,false,false,false,false,false,false,false,false,false,false,false,false,false,false,false,false,false] kr rfl rfl ⟨(Qa Y.out 0).trans rfl,(Qa Y.out 1).trans rfl⟩ (fun hHeld=>?_);refine Q8 call_Check.Kp call_Check.Y7 (fun HT_ HW_=>?_)
   generalize w5.drew=bc at Y γ HB hHeld ⊢
   refine qP 0 (some 5) (bN 26 1) HT_ ?_
   refine qT 1 (some 6) (bN 26 3) HT_ HW_ hHeld ?_
   refine qK 2 (some 7) (bN 26 7) HT_ fun K hK=>?_
   refine Q9 Try.func44 kr rfl #[.int .i64 J,.int .i64 2,.int .i64 64] (by rfl) rfl rfl qM ?_
   with_reducible refine(call_within.calls J 2 64 false _ A6.out).mono ?_
   rintro e w' ⟨rfl,⟨nd,rfl⟩⟩
   refine⟨_,rfl, ?_⟩
   refine hK.out _ _ ⟨qc Y,qc Y⟩ (fun hHeld=>?_)
   clear hK K
   refine qN (some 7) ?_
   refine qP 3 (some 8) (bN 26 15) HT_ ?_
   refine qP 4 (some 9) (bN 26 31) HT_ ?_
   refine qU 5 (some 10) (bN 26 63) HT_ ?_
   refine qU 6 (some 11) (bN 26 127) HT_ ?_
   refine qU 7 (some 12) (bN 26 255) HT_ ?_
   refine qU 8 (some 13) (bN 26 511) HT_ ?_
   refine qP 9 (some 14) (bN 26 1023) HT_ ?_
   refine qP 10 (some 15) (bN 26 2047) HT_ ?_
   refine qU 11 (some 16) (bN 26 4095) HT_ ?_
   refine qU 12 (some 17) (bN 26 8191) HT_ ?_
   refine qU 13 (some 18) (bN 26 16383) HT_ ?_
   refine qU 14 (some 19) (bN 26 32767) HT_ ?_
   refine qU 15 (some 20) (bN 26 65535) HT_ ?_
   refine qU 16 (some 21) (bN 26 131071) HT_ ?_
   refine qP 17 (some 22) (bN 26 262143) HT_ ?_
   refine qP 18 (some 23) (bN 26 524287) HT_ ?_
   refine qU 19 (some 24) (bN 26 1048575) HT_ ?_
   refine qU 20 (some 25) (bN 26 2097151) HT_ ?_
   refine qU 21 (some 26) (bN 26 4194303) HT_ ?_
   refine qU 22 (some 27) (bN 26 8388607) HT_ ?_
   refine qU 23 (some 28) (bN 26 16777215) HT_ ?_
   refine qU 24 (some 29) (bN 26 33554431) HT_ ?_
   refine qP 25 (some 30) (bN 26 67108863) HT_ ?_
   refine Z2 (Zf HT_.out kr) ?_
   try go_wp2
   go_meet
   case rel=>exact⟨_,(true),qR,H',⟨by first|omega|exact Nat.le_refl _⟩,⟨bka Y⟩,⟨bka γ⟩,⟨bel⟩⟩
 case rest=>
  clear a5
  try clear c1
  try clear p2
  try clear c4
  try clear c6
  try clear c7
  try clear c9
  obtain⟨kq,ε,rfl,HA,er,Y,γ,HB⟩:=hcut
  cases kq with
  |zero=>exact absurd HA.out (by simp[call_Check.j0])
  |succ ma=>
   have H:=HA.out
   clear HA
   simp only[call_Check.j0] at H
   by_cases cq: ε = true
   ·subst cq
    have H1:(some 190)=some r:=by rw[if_pos rfl] at H;exact H
    clear H
    have H:=H1
    clear H1
    obtain rfl:=Option.some.inj H
    go_wp2
    go_ret
    exact⟨rfl,HB.out⟩
   ·replace cq:=Bool.eq_false_iff.mpr cq
    subst cq
    have H1:(some 0)=some r:=by rw[if_neg (show ¬ (false=true) by decide)] at H;exact H
    clear H
    have H:=H1
    clear H1
    obtain rfl:=Option.some.inj H
    go_wp2
    go_ret
    exact⟨rfl,HB.out⟩
def call_change.f (U_:Option (List S36)) (I_:Option (List S86)) (k:Nat) (J:Int) (O:Int) (X:List (S36)) (Z:List (S86)) (a2:Bool) (a3:Int) (aa:Int) (ae:Int) (af:Int) (a5:Int) (b6:Int) (b7:Int):Option ((List (S36))×(List (S86))×Int):=(call_Check.f k J O X Z).bind fun ζ =>(if ζ = 0 then (if a2=true then ((U_).bind fun ρ=>((I_).bind fun τ =>(some (ρ,τ,0)))) else (some (([]:List (S36)),([]:List (S86)),191))) else (some (([]:List (S36)),([]:List (S86)),ζ)))
theorem call_change.mono:∀ U_ I_ J Y a2 a3 O a5 X a7 a8 a9 Z γ k,LeO (call_change.f U_ I_ k J Y a2 a3 O a5 X a7 a8 a9 Z γ) (call_change.f U_ I_ (k+1) J Y a2 a3 O a5 X a7 a8 a9 Z γ):=by
 intro U_ I_ J Y a2 a3 O a5 X a7 a8 a9 Z γ k
 unfold call_change.f
 repeat' first
   |(with_reducible exact call_Check.mono _ _ _ _ _)
   |(with_reducible exact LeO.refl _)
   |(with_reducible exact LeO.none _)
   |(with_reducible refine LeO.ite ?_ ?_)
   |(with_reducible refine LeO.bind ?_ (fun _=>?_))
   |exact call_Check.mono _ _ _ _ _
   |exact LeO.none _
   |refine LeO.ite ?_ ?_
   |refine LeO.bind ?_ (fun _=>?_)
def call_change.T6:Bool×List (List Nat×List Nat):=(true,[([],[]),([],[]),([0,1],[0,1]),([],[]),([],[]),([3,4,2],[3,4]),([2,5],[2,5]),([6,5,0,1,2,3,4,5,6],[6]),([7,0,1,2,3,4,5,6,7],[])])
def call_change.B6:List Nat:=[0,0,3,0,0,31,63,127,255]
theorem call_change.Dn:rtab .any (opsOf Try.f73 6)=call_change.T6:=by kernel_rfl
theorem call_change.Ny:Zq call_change.T6.2 call_change.B6=true:=by kernel_rfl
set_option maxHeartbeats 8000000 in
set_option maxRecDepth 100000 in
theorem call_change.calls (U_:Option (List S36)) (I_:Option (List S86)) (k:Nat) (J:Int) (O:Int) (θ :Option Addr) (η :Nat) (X:List (S36)) (κ :Option Addr) (ι :Nat) (Z:List (S86)) (a2:Bool) (a3:Int) (aa:Int) (ae:Int) (af:Int) (a5:Int) (b6:Int) (b7:Int) (r1:List (S36)) (r2:List (S86)) (r3:Int) (w:World) (a8:Kd.C k36 w θ X.length X) (a9:X.length ≤ η) (aj:Kd.C k86 w κ Z.length Z) (al:Z.length ≤ ι) (h:call_change.f U_ I_ k J O X Z a2 a3 aa ae af a5 b6 b7=some (r1,r2,r3)) (fu_:FuncId) (fnu_:Func) (ru_:Value) (hfu_:Try.prog.funcs[fu_]?=some fnu_) (hnu_:(fnu_.name == "runtime.NumGoroutine")=false) (hbu_:fnu_.body.isSome=true) (hu_:∀ (W:World) (t:List S36),U_=some t→Below w.heap.size w W→Calls Try.prog fu_ #[ru_,.agg #[.int .i64 aa,.int .i64 ae,.int .i64 af]] W fun e w'=>∃ bg:Value,e = .returned bg∧Kd.R k36 36 w' W.heap.size (fun _=>True) bg t∧Below W.heap.size W w') (fi_:FuncId) (fni_:Func) (ri_:Value) (hfi_:Try.prog.funcs[fi_]?=some fni_) (hni_:(fni_.name == "runtime.NumGoroutine")=false) (hbi_:fni_.body.isSome=true) (hi_:∀ (W:World) (t:List S86),I_=some t→Below w.heap.size w W→Calls Try.prog fi_ #[ri_,.agg #[.int .i64 b6,.int .i64 b7]] W fun e w'=>∃ bg:Value,e = .returned bg∧Kd.R k86 86 w' W.heap.size (fun _=>True) bg t∧Below W.heap.size W w'):
  Calls Try.prog 73 #[.agg #[.int .i64 J,.int .i64 O],.agg #[.slice θ X.length η,.slice κ Z.length ι],.bool a2,(.func (.func fu_) #[ru_] #[]),.agg #[.int .i64 aa,.int .i64 ae,.int .i64 af],(.func (.func fi_) #[ri_] #[]),.agg #[.int .i64 b6,.int .i64 b7]] w fun e w'=>∃ bg e4:Value,e = .returned (.tuple #[.agg #[bg,e4],.int .i64 r3])∧Kd.R k36 36 w' w.heap.size (fun _=>True) bg r1∧Kd.R k86 86 w' w.heap.size (fun _=>True) e4 r2∧Below w.heap.size w w':=by
 have HFU:=Aside0.mk hfu_
 have HNU:=Aside0.mk hnu_
 have HBU:=Aside0.mk hbu_
 have HCU:=Aside0.mk hu_
 have HFI:=Aside0.mk hfi_
 have HNI:=Aside0.mk hni_
 have HBI:=Aside0.mk hbi_
 have HCI:=Aside0.mk hi_
 clear hfu_ hnu_ hbu_ hu_ hfi_ hni_ hbi_ hi_
 have dp:=Try.underlying59
 have ey:=Try.underlying50
 have dm:=Try.underlying36
 have d9:=Try.underlying86
 have ω :=Aside0.mk a8
 have am:=Aside0.mk a9
 clear a8 a9
 have a7:=Aside0.mk aj
 have av:=Aside0.mk al
 clear aj al
 have HB:=Aside0.mk (Below.refl w.heap.size w)
 have H:((call_Check.f k J O X Z).bind fun ζ =>(if ζ = 0 then (if a2=true then ((U_).bind fun ρ=>((I_).bind fun τ =>(some (ρ,τ,0)))) else (some (([]:List (S36)),([]:List (S86)),191))) else (some (([]:List (S36)),([]:List (S86)),ζ))))=some (r1,r2,r3):=h
 clear h
 replace H:=Option.bind_eq_some_iff.mp H
 obtain⟨ζ,gf,H⟩:=H
 replace H:(if ζ = 0 then (if a2=true then ((U_).bind fun ρ=>((I_).bind fun τ =>(some (ρ,τ,0)))) else (some (([]:List (S36)),([]:List (S86)),191))) else (some (([]:List (S36)),([]:List (S86)),ζ)))=some (r1,r2,r3):=H
 have A8:=Aside0.mk gf
 clear gf
 by_cases c9: ζ = 0
 ·rw[if_pos c9] at H
  have c9b0:(ζ == 0)=true:=beq_iff_eq.mpr c9
  have c9b1:(ζ != 0)=false:=bne_eq_false_iff_eq.mpr c9
  clear c9
  by_cases c10:a2=true
  ·subst c10
   have H1:((U_).bind fun ρ=>((I_).bind fun τ =>(some (ρ,τ,0))))=some (r1,r2,r3):=by rw[if_pos rfl] at H;exact H
   clear H
   have H:=H1
   clear H1
   replace H:=Option.bind_eq_some_iff.mp H
   obtain⟨ρ,bh,H⟩:=H
   replace H:((I_).bind fun τ =>(some (ρ,τ,0)))=some (r1,r2,r3):=H
   have da:=Aside0.mk bh
   clear bh
   replace H:=Option.bind_eq_some_iff.mp H
   obtain⟨τ,ai,H⟩:=H
   replace H:(some (ρ,τ,0))=some (r1,r2,r3):=H
   have aw:=Aside0.mk ai
   clear ai
   simp only[Option.some.injEq,Prod.mk.injEq] at H
   obtain⟨rfl,rfl,rfl⟩:=H
   go_enter Try.func73,Try.ntmps73
   try go_wp2_with (first|((with_reducible refine Qf (N:=7) rfl ?_);refine qE 7 #[.int .i64 J,.int .i64 O] 59 ?_;intro ag hg ch hbox hb;have Y:=Aside0.mk hbox;have bl:=sGe hg;have bm:=sGe hg;replace HB:=sHb hb;clear hb hbox hg)|((with_reducible refine Qf (N:=8) rfl ?_);refine qE 8 #[.slice θ X.length η,.slice κ Z.length ι] 50 ?_;intro a4 hg ft hbox hb;have γ:=Aside0.mk hbox;have bn:=sGe hg;have bo:=sGe hg;have ξ :=sNl Y hg;have a1:=sNg Y hg;replace Y:=sBk Y hb;replace HB:=sHb hb;clear hb hbox hg)|((with_reducible refine Qf (N:=11) rfl ?_);refine qE 11 #[.int .i64 aa,.int .i64 ae,.int .i64 af] 36 ?_;intro b9 hg kp hbox hb;have ε :=Aside0.mk hbox;have bi:=sGe hg;have bk:=sGe hg;have ay:=sNl Y hg;have az:=sNg Y hg;have b0:=sNl γ hg;have b1:=sNg γ hg;replace Y:=sBk Y hb;replace γ:=sBk γ hb;replace HB:=sHb hb;clear hb hbox hg)|((with_reducible refine Qf (N:=13) rfl ?_);refine qE 13 #[.int .i64 b6,.int .i64 b7] 86 ?_;intro φ hg bj hbox hb;have δ :=Aside0.mk hbox;have bd:=sGe hg;have ax:=sGe hg;have b2:=sNl Y hg;have b3:=sNg Y hg;have b4:=sNl γ hg;have b5:=sNg γ hg;have bb:=sNl ε hg;have bc:=sNg ε hg;replace Y:=sBk Y hb;replace γ:=sBk γ hb;replace ε :=sBk ε hb;replace HB:=sHb hb;clear hb hbox hg)|((with_reducible refine Qf (N:=14) rfl ?_);refine qE 14 #[.slice none 0 0,.slice none 0 0] 50 ?_;intro ν hg d3 hbox hb;have B:=Aside0.mk hbox;have be:=sGe hg;have b8:=sGe hg;have ψ :=sNl Y hg;have a0:=sNg Y hg;have ah:=sNl γ hg;have an:=sNg γ hg;have μ :=sNl ε hg;have ao:=sNg ε hg;have σ:=sNl δ hg;have χ :=sNg δ hg;replace Y:=sBk Y hb;replace γ:=sBk γ hb;replace ε :=sBk ε hb;replace δ :=sBk δ hb;replace HB:=sHb hb;clear hb hbox hg;have d5:= ξ.out;have ev:=a1.out;have ce:=ay.out;have ci:=az.out;have fq:=b2.out;have gn:=b3.out;have gp:= ψ.out;have gw:=a0.out;obtain⟨bz,ca,cb,cd⟩:=qD2 Y.out;have lb:=b0.out;have lc:=b1.out;have bw:=b4.out;have cj:=b5.out;have fm:=ah.out;have fn:=an.out;obtain⟨cp,cw,ec,eo⟩:=qD2 γ.out)|((with_reducible refine Qp (f:=40) rfl ?_);refine Q4 (some 19) rfl rfl Try.func40 kr rfl #[.agg #[.int .i64 J,.int .i64 O],.agg #[.slice θ X.length η,.slice κ Z.length ι]] rfl qM ?_;(with_reducible refine(call_Check.calls k J O _ _ X _ _ Z ζ _ ?side1 ?side2 ?side3 ?side4 A8.out).mono ?_);(case side1=>exact(Kd.Qv ω.out HB.out));(case side2=>exact am.out);(case side3=>exact(Kd.Qv a7.out HB.out));(case side4=>exact av.out);rintro e df ⟨rfl,hb⟩;refine⟨_,rfl, ?_⟩;replace Y:=sBk Y hb;replace γ:=sBk γ hb;replace ε :=sBk ε hb;replace δ :=sBk δ hb;replace B:=sBk B hb;replace HB:=sHb hb;(try clear hb);(try clear a6);(try clear hk);(try clear hi)))
   replace Y:=Aside0.mk (Qe Y.out)
   replace γ:=Aside0.mk (Qe γ.out)
   replace ε :=Aside0.mk (Qe ε.out)
   replace δ :=Aside0.mk (Qe δ.out)
   replace B:=Aside0.mk (Qe B.out)
   replace HB:=Aside0.mk (Qg HB.out)
   refine Zh (n:=9) (S:=fun w'=>w'.cell? ⟨b9,0,none⟩=some (.int .i64 aa)∧w'.cell? ⟨b9,1,none⟩=some (.int .i64 ae)∧w'.cell? ⟨b9,2,none⟩=some (.int .i64 af)∧w'.cell? ⟨φ,0,none⟩=some (.int .i64 b6)∧w'.cell? ⟨φ,1,none⟩=some (.int .i64 b7)) (ds:=[]) #[false,false,false,false,false,false,false,false,false] kr rfl rfl ⟨(Qa ε.out 0).trans rfl,(Qa ε.out 1).trans rfl,(Qa ε.out 2).trans rfl,(Qa δ.out 0).trans rfl,(Qa δ.out 1).trans rfl⟩ (fun hHeld=>?_);refine Q8 call_change.Dn call_change.Ny (fun HT_ HW_=>?_)
   generalize df.drew=e9 at Y γ ε δ B HB hHeld ⊢
   refine qP 0 (some 27) (bN 9 1) HT_ ?_
   refine qP 3 (some 30) (bN 9 9) HT_ ?_
   refine qT 1 (some 28) (bN 9 11) HT_ HW_ hHeld ?_
   refine qT 4 (some 31) (bN 9 27) HT_ HW_ hHeld ?_
   refine qK 2 (some 29) (bN 9 31) HT_ fun K hK=>?_
   refine X2 HFU.out HNU.out HBU.out #[ru_] #[] #[.agg #[.int .i64 aa,.int .i64 ae,.int .i64 af]] #[ru_,.agg #[.int .i64 aa,.int .i64 ae,.int .i64 af]] rfl (by rfl) rfl rfl rfl qM ?_
   refine(HCU.out _ ρ da.out (by repeat(first|(with_reducible first|exact HB.out|apply Qu|apply Qi|apply Qg)|exact HB.out|(refine Qx ?_ (Aside0.out (by assumption)))))).mono ?_
   rintro e bv ⟨dv,rfl,ak,hb⟩
   refine⟨_,rfl, ?_⟩
   have bf:=Aside0.mk (Kd.Q3 (Kd.Kl ak (g:=b9) (o:=.cells #[.int .i64 aa,.int .i64 ae,.int .i64 af] 36 (0,0)) ε.out) (Qh HB.out))
   replace Y:=sBk Y hb
   replace γ:=sBk γ hb
   replace ε :=sBk ε hb
   replace δ :=sBk δ hb
   replace B:=sBk B hb
   replace HB:=sHb hb
   (try clear hb)
   (try clear a6)
   (try clear hk)
   (try clear hi)
   (try clear ak)
   refine hK.out _ _ ⟨qc ε,qc ε,qc ε,qc δ,qc δ⟩ (fun hHeld=>?_)
   clear hK K
   refine qN (some 29) ?_
   refine qK 5 (some 32) (bN 9 63) HT_ fun K hK=>?_
   refine X2 HFI.out HNI.out HBI.out #[ri_] #[] #[.agg #[.int .i64 b6,.int .i64 b7]] #[ri_,.agg #[.int .i64 b6,.int .i64 b7]] rfl (by rfl) rfl rfl rfl qM ?_
   refine(HCI.out _ τ aw.out (by repeat(first|(with_reducible first|exact HB.out|apply Qu|apply Qi|apply Qg)|exact HB.out|(refine Qx ?_ (Aside0.out (by assumption)))))).mono ?_
   rintro e ej ⟨bu,rfl,ak,hb⟩
   refine⟨_,rfl, ?_⟩
   have ba:=Aside0.mk (Kd.Q3 (Kd.Kl ak (g:= φ) (o:=.cells #[.int .i64 b6,.int .i64 b7] 86 (0,0)) δ.out) (Qh HB.out))
   replace bf:=sRb bf hb
   replace Y:=sBk Y hb
   replace γ:=sBk γ hb
   replace ε :=sBk ε hb
   replace δ :=sBk δ hb
   replace B:=sBk B hb
   replace HB:=sHb hb
   (try clear hb)
   (try clear a6)
   (try clear hk)
   (try clear hi)
   (try clear ak)
   obtain⟨cf,cn,bp⟩:=Kd.Q5 ba.out
   (first|subst bp|(injection bp with ab ap ac;have ar:=ab.symm;have au:=ac.symm;clear ab ap ac;subst ar;subst au))
   obtain⟨bq,br,bs⟩:=Kd.Q5 bf.out
   (first|subst bs|(injection bs with ab ap ac;have ar:=ab.symm;have au:=ac.symm;clear ab ap ac;subst ar;subst au))
   refine hK.out _ _ ⟨qc ε,qc ε,qc ε,qc δ,qc δ⟩ (fun hHeld=>?_)
   clear hK K
   refine qN (some 32) ?_
   refine qP 6 (some 33) (bN 9 127) HT_ ?_
   refine qK 7 (none) (bN 9 255) HT_ fun K hK=>?_
   have dw:ej.cell? ⟨ν,0,none⟩=some (.slice none 0 0):=(Qa B.out 0).trans rfl
   have dn:=Qb B.out 0
   have co:= ψ.out
   have cq:=ah.out
   have cr:= μ.out
   have ct:=σ.out
   have cu:=a0.out
   have cv:=an.out
   have cx:=ao.out
   have d0:= χ.out
   have dx:ej.cell? ⟨ν,1,none⟩=some (.slice none 0 0):=(Qa B.out 1).trans rfl
   have dr:=Qb B.out 1
   have d1:= ψ.out
   have d2:=ah.out
   have d4:= μ.out
   have d8:=σ.out
   have db:=a0.out
   have dc:=an.out
   have de:=ao.out
   have dh:= χ.out
   refine Kq (w1:=?_) (by rfl) rfl ?_ ?_
   rotate_left
   ·go_simp
    rfl
   refine hK.out _ _ ⟨((cell_far (p:=⟨ν,_,none⟩) μ.out _).trans (((cell_far (p:=⟨ν,_,none⟩) μ.out _).trans (hHeld.1)))),((cell_far (p:=⟨ν,_,none⟩) μ.out _).trans (((cell_far (p:=⟨ν,_,none⟩) μ.out _).trans (hHeld.2.1)))),((cell_far (p:=⟨ν,_,none⟩) μ.out _).trans (((cell_far (p:=⟨ν,_,none⟩) μ.out _).trans (hHeld.2.2.1)))),((cell_far (p:=⟨ν,_,none⟩) σ.out _).trans (((cell_far (p:=⟨ν,_,none⟩) σ.out _).trans (hHeld.2.2.2.1)))),((cell_far (p:=⟨ν,_,none⟩) σ.out _).trans (((cell_far (p:=⟨ν,_,none⟩) σ.out _).trans (hHeld.2.2.2.2))))⟩ (fun hHeld=>?_)
   clear hK K
   refine qP 8 (some 15) (bN 9 511) HT_ ?_
   refine Z2 (Zf HT_.out kr) ?_
   try go_wp2
   refine bodyPost_ret (Z8 rfl _ _ ν 50 #[.slice bq ρ.length br,.slice cf τ.length cn] (0,0) _ rfl (by refine Qq (cs:=#[.slice bq ρ.length br,.slice none 0 0]) ?_ 1 _ rfl;refine Qq (cs:=#[.slice none 0 0,.slice none 0 0]) ?_ 0 _ rfl;exact B.out) Try.underlying50 rfl kr) rfl ?_
   exact⟨_,_,by first|rfl|(simp[Qk,Qj] <;> rfl)|(simp[*,Qk,Qj] <;> rfl),by(with_reducible repeat first|apply Kd.Qm|apply Kd.Ql|apply Kd.Qs);exact Kd.Qw (Kd.Qz (Kd.Qz (Kd.Q7 bf.out B.out (by decide)) (fun _ hk=>hk.2) _) (fun _ hk=>hk.2) _) (fun _ hk=>trivial),by(with_reducible repeat first|apply Kd.Qm|apply Kd.Ql|apply Kd.Qs);exact Kd.Qw (Kd.Qz (Kd.Qz (Kd.Q7 ba.out B.out (by decide)) (fun _ hk=>hk.2) _) (fun _ hk=>hk.2) _) (fun _ hk=>trivial),bel⟩
  ·replace c10:=Bool.eq_false_iff.mpr c10
   subst c10
   have H1:(some (([]:List (S36)),([]:List (S86)),191))=some (r1,r2,r3):=by rw[if_neg (show ¬ (false=true) by decide)] at H;exact H
   clear H
   have H:=H1
   clear H1
   simp only[Option.some.injEq,Prod.mk.injEq] at H
   obtain⟨rfl,rfl,rfl⟩:=H
   go_enter Try.func73,Try.ntmps73
   go_wp2_with (first|((with_reducible refine Qf (N:=7) rfl ?_);refine qE 7 #[.int .i64 J,.int .i64 O] 59 ?_;intro ag hg j8 hbox hb;have Y:=Aside0.mk hbox;have bl:=sGe hg;have bm:=sGe hg;replace HB:=sHb hb;clear hb hbox hg)|((with_reducible refine Qf (N:=8) rfl ?_);refine qE 8 #[.slice θ X.length η,.slice κ Z.length ι] 50 ?_;intro a4 hg gq hbox hb;have γ:=Aside0.mk hbox;have bn:=sGe hg;have bo:=sGe hg;have ξ :=sNl Y hg;have a1:=sNg Y hg;replace Y:=sBk Y hb;replace HB:=sHb hb;clear hb hbox hg)|((with_reducible refine Qf (N:=11) rfl ?_);refine qE 11 #[.int .i64 aa,.int .i64 ae,.int .i64 af] 36 ?_;intro b9 hg gg hbox hb;have ε :=Aside0.mk hbox;have bi:=sGe hg;have bk:=sGe hg;have ay:=sNl Y hg;have az:=sNg Y hg;have b0:=sNl γ hg;have b1:=sNg γ hg;replace Y:=sBk Y hb;replace γ:=sBk γ hb;replace HB:=sHb hb;clear hb hbox hg)|((with_reducible refine Qf (N:=13) rfl ?_);refine qE 13 #[.int .i64 b6,.int .i64 b7] 86 ?_;intro φ hg j9 hbox hb;have δ :=Aside0.mk hbox;have bd:=sGe hg;have ax:=sGe hg;have b2:=sNl Y hg;have b3:=sNg Y hg;have b4:=sNl γ hg;have b5:=sNg γ hg;have bb:=sNl ε hg;have bc:=sNg ε hg;replace Y:=sBk Y hb;replace γ:=sBk γ hb;replace ε :=sBk ε hb;replace HB:=sHb hb;clear hb hbox hg)|((with_reducible refine Qf (N:=14) rfl ?_);refine qE 14 #[.slice none 0 0,.slice none 0 0] 50 ?_;intro ν hg sd hbox hb;have B:=Aside0.mk hbox;have be:=sGe hg;have b8:=sGe hg;have ψ :=sNl Y hg;have a0:=sNg Y hg;have ah:=sNl γ hg;have an:=sNg γ hg;have μ :=sNl ε hg;have ao:=sNg ε hg;have σ:=sNl δ hg;have χ :=sNg δ hg;replace Y:=sBk Y hb;replace γ:=sBk γ hb;replace ε :=sBk ε hb;replace δ :=sBk δ hb;replace HB:=sHb hb;clear hb hbox hg;have gr:= ξ.out;have gx:=a1.out;have ja:=ay.out;have jb:=az.out;have gy:=b2.out;have gz:=b3.out;have cg:= ψ.out;have ck:=a0.out;obtain⟨cm,e7,dq,ed⟩:=qD2 Y.out;have ma:=b0.out;have mb:=b1.out;have ju:=b4.out;have jv:=b5.out;have l7:=ah.out;have l8:=an.out;obtain⟨fb,fc,fe,ff⟩:=qD2 γ.out)|((with_reducible refine Qp (f:=40) rfl ?_);refine Q4 (some 19) rfl rfl Try.func40 kr rfl #[.agg #[.int .i64 J,.int .i64 O],.agg #[.slice θ X.length η,.slice κ Z.length ι]] rfl qM ?_;(with_reducible refine(call_Check.calls k J O _ _ X _ _ Z ζ _ ?side1 ?side2 ?side3 ?side4 A8.out).mono ?_);(case side1=>exact(Kd.Qv ω.out HB.out));(case side2=>exact am.out);(case side3=>exact(Kd.Qv a7.out HB.out));(case side4=>exact av.out);rintro e dy ⟨rfl,hb⟩;refine⟨_,rfl, ?_⟩;replace Y:=sBk Y hb;replace γ:=sBk γ hb;replace ε :=sBk ε hb;replace δ :=sBk δ hb;replace B:=sBk B hb;replace HB:=sHb hb;(try clear hb);(try clear a6);(try clear hk);(try clear hi);have ez:=ao.out;have f7:= μ.out;have jw:= χ.out;have jx:=σ.out;obtain⟨cy,cz,d6,dd⟩:=qD2 B.out))
   refine bodyPost_ret (Z8 rfl _ _ ν 50 #[.slice none 0 0,.slice none 0 0] (0,0) _ rfl (by refine Qq (cs:=#[.slice none 0 0,.slice none 0 0]) ?_ 1 _ rfl;refine Qq (cs:=#[.slice none 0 0,.slice none 0 0]) ?_ 0 _ rfl;exact B.out) Try.underlying50 rfl kr) rfl ?_
   exact⟨_,_,by first|rfl|(simp[Qk,Qj] <;> rfl)|(simp[*,Qk,Qj] <;> rfl),by first|exact Kd.Xx _ _ _ _ _|exact Kd.Y0 _ _ _ _ _|exact Kd.Yw _ _ _ _ _|exact Kd.Yz _ _ _ _ _|exact Kd.Yx _ _ _ _ _,by first|exact Kd.Xx _ _ _ _ _|exact Kd.Y0 _ _ _ _ _|exact Kd.Yw _ _ _ _ _|exact Kd.Yz _ _ _ _ _|exact Kd.Yx _ _ _ _ _,bel⟩
 ·rw[if_neg c9] at H
  have c9b0:(ζ == 0)=false:=beq_eq_false_iff_ne.mpr c9
  have c9b1:(ζ != 0)=true:=bne_iff_ne.mpr c9
  simp only[Option.some.injEq,Prod.mk.injEq] at H
  obtain⟨rfl,rfl,rfl⟩:=H
  go_enter Try.func73,Try.ntmps73
  go_wp2_with (first|((with_reducible refine Qf (N:=7) rfl ?_);refine qE 7 #[.int .i64 J,.int .i64 O] 59 ?_;intro ag hg er hbox hb;have Y:=Aside0.mk hbox;have bl:=sGe hg;have bm:=sGe hg;replace HB:=sHb hb;clear hb hbox hg)|((with_reducible refine Qf (N:=8) rfl ?_);refine qE 8 #[.slice θ X.length η,.slice κ Z.length ι] 50 ?_;intro a4 hg qf hbox hb;have γ:=Aside0.mk hbox;have bn:=sGe hg;have bo:=sGe hg;have ξ :=sNl Y hg;have a1:=sNg Y hg;replace Y:=sBk Y hb;replace HB:=sHb hb;clear hb hbox hg)|((with_reducible refine Qf (N:=11) rfl ?_);refine qE 11 #[.int .i64 aa,.int .i64 ae,.int .i64 af] 36 ?_;intro b9 hg qg hbox hb;have ε :=Aside0.mk hbox;have bi:=sGe hg;have bk:=sGe hg;have ay:=sNl Y hg;have az:=sNg Y hg;have b0:=sNl γ hg;have b1:=sNg γ hg;replace Y:=sBk Y hb;replace γ:=sBk γ hb;replace HB:=sHb hb;clear hb hbox hg)|((with_reducible refine Qf (N:=13) rfl ?_);refine qE 13 #[.int .i64 b6,.int .i64 b7] 86 ?_;intro φ hg d7 hbox hb;have δ :=Aside0.mk hbox;have bd:=sGe hg;have ax:=sGe hg;have b2:=sNl Y hg;have b3:=sNg Y hg;have b4:=sNl γ hg;have b5:=sNg γ hg;have bb:=sNl ε hg;have bc:=sNg ε hg;replace Y:=sBk Y hb;replace γ:=sBk γ hb;replace ε :=sBk ε hb;replace HB:=sHb hb;clear hb hbox hg)|((with_reducible refine Qf (N:=14) rfl ?_);refine qE 14 #[.slice none 0 0,.slice none 0 0] 50 ?_;intro ν hg qh hbox hb;have B:=Aside0.mk hbox;have be:=sGe hg;have b8:=sGe hg;have ψ :=sNl Y hg;have a0:=sNg Y hg;have ah:=sNl γ hg;have an:=sNg γ hg;have μ :=sNl ε hg;have ao:=sNg ε hg;have σ:=sNl δ hg;have χ :=sNg δ hg;replace Y:=sBk Y hb;replace γ:=sBk γ hb;replace ε :=sBk ε hb;replace δ :=sBk δ hb;replace HB:=sHb hb;clear hb hbox hg;have dt:= ξ.out;have du:=a1.out;have jg:=ay.out;have jh:=az.out;have h5:=b2.out;have h6:=b3.out;have jy:= ψ.out;have jz:=a0.out;obtain⟨ik,il,im,io⟩:=qD2 Y.out;have nk:=b0.out;have nl:=b1.out;have ji:=b4.out;have jj:=b5.out;have se:=ah.out;have sf:=an.out;obtain⟨mm,mo,mq,mr⟩:=qD2 γ.out)|((with_reducible refine Qp (f:=40) rfl ?_);refine Q4 (some 19) rfl rfl Try.func40 kr rfl #[.agg #[.int .i64 J,.int .i64 O],.agg #[.slice θ X.length η,.slice κ Z.length ι]] rfl qM ?_;(with_reducible refine(call_Check.calls k J O _ _ X _ _ Z ζ _ ?side1 ?side2 ?side3 ?side4 A8.out).mono ?_);(case side1=>exact(Kd.Qv ω.out HB.out));(case side2=>exact am.out);(case side3=>exact(Kd.Qv a7.out HB.out));(case side4=>exact av.out);rintro e dz ⟨rfl,hb⟩;refine⟨_,rfl, ?_⟩;replace Y:=sBk Y hb;replace γ:=sBk γ hb;replace ε :=sBk ε hb;replace δ :=sBk δ hb;replace B:=sBk B hb;replace HB:=sHb hb;(try clear hb);(try clear a6);(try clear hk);(try clear hi);have l9:=ao.out;have lf:= μ.out;have nx:= χ.out;have ny:=σ.out;obtain⟨di,dj,dk,dl⟩:=qD2 B.out))
  refine bodyPost_ret (Z8 rfl _ _ ν 50 #[.slice none 0 0,.slice none 0 0] (0,0) _ rfl (by refine Qq (cs:=#[.slice none 0 0,.slice none 0 0]) ?_ 1 _ rfl;refine Qq (cs:=#[.slice none 0 0,.slice none 0 0]) ?_ 0 _ rfl;exact B.out) Try.underlying50 rfl kr) rfl ?_
  exact⟨_,_,by first|rfl|(simp[Qk,Qj] <;> rfl)|(simp[*,Qk,Qj] <;> rfl),by first|exact Kd.Xx _ _ _ _ _|exact Kd.Y0 _ _ _ _ _|exact Kd.Yw _ _ _ _ _|exact Kd.Yz _ _ _ _ _|exact Kd.Yx _ _ _ _ _,by first|exact Kd.Xx _ _ _ _ _|exact Kd.Y0 _ _ _ _ _|exact Kd.Yw _ _ _ _ _|exact Kd.Yz _ _ _ _ _|exact Kd.Yx _ _ _ _ _,bel⟩
def call_Give.f (k:Nat) (J:Int) (O:Int) (X:List (S36)) (Z:List (S86)) (Y:Int) (ζ :Int) (μ :Int):Option ((List (S36))×(List (S86))×Int):=(hallP.f Y ζ μ J O).bind fun a4=>((call_change.f (setP_H.f Y ζ μ X) (woP_I.f (-2) 0 Z) k J O X Z a4 0 Y ζ μ 0 (-2) 0).bind fun ψ =>(some (ψ.1,ψ.2.1,ψ.2.2)))
theorem call_Give.mono:∀ J Y a2 a3 O a5 X k,LeO (call_Give.f k J Y a2 a3 O a5 X) (call_Give.f (k+1) J Y a2 a3 O a5 X):=by
 intro J Y a2 a3 O a5 X k
 unfold call_Give.f
 repeat' first
   |(with_reducible exact call_change.mono _ _ _ _ _ _ _ _ _ _ _ _ _ _ _)
   |(with_reducible exact LeO.refl _)
   |(with_reducible exact LeO.none _)
   |(with_reducible refine LeO.ite ?_ ?_)
   |(with_reducible refine LeO.bind ?_ (fun _=>?_))
   |exact call_change.mono _ _ _ _ _ _ _ _ _ _ _ _ _ _ _
   |exact LeO.none _
   |refine LeO.ite ?_ ?_
   |refine LeO.bind ?_ (fun _=>?_)
def call_Give.T1:Bool×List (List Nat×List Nat):=(true,[([],[]),([],[]),([],[]),([2],[2]),([],[]),([3,4,3],[3,4]),([],[]),([6,5],[6]),([7],[7]),([],[]),([],[]),([10,7],[10]),([11],[11]),([],[]),([0,1,5,8,9,12,13,11],[0,1,5,8,9,12,13]),([14],[14]),([14],[14]),([15,14,0,1,2,3,4,5,6,7,8,9,10,11,12,13,14,15,16],[15]),([16,17,0,1,2,3,4,5,6,7,8,9,10,11,12,13,14,15,16,17],[16])])
def call_Give.B1:List Nat:=[0,0,0,4,0,28,0,124,252,0,0,1276,3324,0,16383,32767,32767,131071,262143]
theorem call_Give.Kp:rtab .any (opsOf Try.f51 1)=call_Give.T1:=by kernel_rfl
theorem call_Give.Y7:Zq call_Give.T1.2 call_Give.B1=true:=by kernel_rfl
set_option maxHeartbeats 8000000 in
set_option maxRecDepth 100000 in
theorem call_Give.calls (k:Nat) (J:Int) (O:Int) (θ :Option Addr) (η :Nat) (X:List (S36)) (κ :Option Addr) (ι :Nat) (Z:List (S86)) (Y:Int) (ζ :Int) (μ :Int) (r1:List (S36)) (r2:List (S86)) (r3:Int) (w:World) (a8:Kd.C k36 w θ X.length X) (a9:X.length ≤ η) (aj:Kd.C k86 w κ Z.length Z) (al:Z.length ≤ ι) (h:call_Give.f k J O X Z Y ζ μ = some (r1,r2,r3)):
  Calls Try.prog 51 #[.agg #[.int .i64 J,.int .i64 O],.agg #[.slice θ X.length η,.slice κ Z.length ι],.agg #[.int .i64 Y,.int .i64 ζ,.int .i64 μ]] w fun e w'=>∃ bg e4:Value,e = .returned (.tuple #[.agg #[bg,e4],.int .i64 r3])∧Kd.R k36 36 w' w.heap.size (fun _=>True) bg r1∧Kd.R k86 86 w' w.heap.size (fun _=>True) e4 r2∧Below w.heap.size w w':=by
 have dp:=Try.underlying59
 have ey:=Try.underlying50
 have dm:=Try.underlying36
 have d9:=Try.underlying86
 have ω :=Aside0.mk a8
 have am:=Aside0.mk a9
 clear a8 a9
 have a7:=Aside0.mk aj
 have av:=Aside0.mk al
 clear aj al
 have HB:=Aside0.mk (Below.refl w.heap.size w)
 have H:((hallP.f Y ζ μ J O).bind fun a4=>((call_change.f (setP_H.f Y ζ μ X) (woP_I.f (-2) 0 Z) k J O X Z a4 0 Y ζ μ 0 (-2) 0).bind fun ψ =>(some (ψ.1,ψ.2.1,ψ.2.2))))=some (r1,r2,r3):=h
 clear h
 replace H:=Option.bind_eq_some_iff.mp H
 obtain⟨a4,d4,H⟩:=H
 replace H:((call_change.f (setP_H.f Y ζ μ X) (woP_I.f (-2) 0 Z) k J O X Z a4 0 Y ζ μ 0 (-2) 0).bind fun ψ =>(some (ψ.1,ψ.2.1,ψ.2.2)))=some (r1,r2,r3):=H
 have A4:=Aside0.mk d4
 clear d4
 replace H:=Option.bind_eq_some_iff.mp H
 obtain⟨⟨τ,a5,a1⟩,bv,H⟩:=H
 replace H:(some (τ,a5,a1))=some (r1,r2,r3):=H
 have A5:=Aside0.mk bv
 clear bv
 simp only[Option.some.injEq,Prod.mk.injEq] at H
 obtain⟨rfl,rfl,rfl⟩:=H
 go_enter Try.func51,Try.ntmps51
 try go_wp2_with (first|((with_reducible refine Qf (N:=3) rfl ?_);refine qE 3 #[.int .i64 J,.int .i64 O] 59 ?_;intro ν hg w6 hbox hb;have B:=Aside0.mk hbox;have be:=sGe hg;have b8:=sGe hg;replace HB:=sHb hb;clear hb hbox hg)|((with_reducible refine Qf (N:=4) rfl ?_);refine qE 4 #[.slice θ X.length η,.slice κ Z.length ι] 50 ?_;intro ε hg w7 hbox hb;have γ:=Aside0.mk hbox;have aa:=sGe hg;have b0:=sGe hg;have ao:=sNl B hg;have ay:=sNg B hg;replace B:=sBk B hb;replace HB:=sHb hb;clear hb hbox hg)|((with_reducible refine Qf (N:=5) rfl ?_);refine qE 5 #[.int .i64 Y,.int .i64 ζ,.int .i64 μ] 36 ?_;intro ah hg w8 hbox hb;have δ :=Aside0.mk hbox;have bq:=sGe hg;have br:=sGe hg;have b3:=sNl B hg;have b4:=sNg B hg;have b5:=sNl γ hg;have b6:=sNg γ hg;replace B:=sBk B hb;replace γ:=sBk γ hb;replace HB:=sHb hb;clear hb hbox hg)|((with_reducible refine Qf (N:=6) rfl ?_);refine qE 6 #[.slice none 0 0,.slice none 0 0] 50 ?_;intro ρ hg w9 hbox hb;have ξ :=Aside0.mk hbox;have bs:=sGe hg;have bw:=sGe hg;have φ :=sNl B hg;have a3:=sNg B hg;have χ :=sNl γ hg;have ae:=sNg γ hg;have σ:=sNl δ hg;have ag:=sNg δ hg;replace B:=sBk B hb;replace γ:=sBk γ hb;replace δ :=sBk δ hb;replace HB:=sHb hb;clear hb hbox hg))
 replace B:=Aside0.mk (Qe B.out)
 replace γ:=Aside0.mk (Qe γ.out)
 replace δ :=Aside0.mk (Qe δ.out)
 replace ξ :=Aside0.mk (Qe ξ.out)
 replace HB:=Aside0.mk (Qg HB.out)
 refine Zh (n:=19) (S:=fun w'=>w'.cell? ⟨ν,0,none⟩=some (.int .i64 J)∧w'.cell? ⟨ν,1,none⟩=some (.int .i64 O)∧w'.cell? ⟨ε,0,none⟩=some (.slice θ X.length η)∧w'.cell? ⟨ε,1,none⟩=some (.slice κ Z.length ι)∧w'.cell? ⟨ah,0,none⟩=some (.int .i64 Y)∧w'.cell? ⟨ah,1,none⟩=some (.int .i64 ζ)∧w'.cell? ⟨ah,2,none⟩=some (.int .i64 μ)) (ds:=[]) #[false,false,false,false,false,false,false,false,false,false,false,false,false,false,false,false,false,false,false] kr rfl rfl ⟨(Qa B.out 0).trans rfl,(Qa B.out 1).trans rfl,(Qa γ.out 0).trans rfl,(Qa γ.out 1).trans rfl,(Qa δ.out 0).trans rfl,(Qa δ.out 1).trans rfl,(Qa δ.out 2).trans rfl⟩ (fun hHeld=>?_);refine Q8 call_Give.Kp call_Give.Y7 (fun HT_ HW_=>?_)
 generalize w9.drew=ni at B γ δ ξ HB hHeld ⊢
 refine qP 13 (some 21) (bN 19 8192) HT_ ?_
 refine qT 0 (some 8) (bN 19 8193) HT_ HW_ hHeld ?_
 refine qT 1 (some 9) (bN 19 8195) HT_ HW_ hHeld ?_
 refine qT 2 (some 10) (bN 19 8199) HT_ HW_ hHeld ?_
 refine qT 4 (some 12) (bN 19 8215) HT_ HW_ hHeld ?_
 refine qT 6 (some 14) (bN 19 8279) HT_ HW_ hHeld ?_
 refine qT 9 (some 17) (bN 19 8791) HT_ HW_ hHeld ?_
 refine qT 10 (some 18) (bN 19 9815) HT_ HW_ hHeld ?_
 refine qK 3 (some 11) (bN 19 9823) HT_ fun K hK=>?_
 refine Q9 Try.func65 kr rfl #[.agg #[.int .i64 J,.int .i64 O]] (by rfl) rfl rfl qM ?_
 refine(Jw J O _).mono ?_
 rintro e b7 ⟨ai,rfl,hgp,hgw,hb⟩
 have an:=Aside0.mk hgp
 clear hgp hgw
 refine⟨_,rfl, ?_⟩
 replace B:=sBk B hb
 replace γ:=sBk γ hb
 replace δ :=sBk δ hb
 replace ξ :=sBk ξ hb
 replace HB:=sHb hb
 (try clear hb)
 (try clear a6)
 (try clear hk)
 (try clear hi)
 refine hK.out _ _ ⟨qc B,qc B,qc γ,qc γ,qc δ,qc δ,qc δ⟩ (fun hHeld=>?_)
 clear hK K
 refine qN (some 11) ?_
 refine qK 5 (some 13) (bN 19 9855) HT_ fun K hK=>?_
 refine X2 Try.func82 kr rfl #[] #[.pointer (some ⟨ai,0,none⟩)] #[.agg #[.int .i64 Y,.int .i64 ζ,.int .i64 μ]] #[.agg #[.int .i64 Y,.int .i64 ζ,.int .i64 μ],.pointer (some ⟨ai,0,none⟩)] rfl (by rfl) rfl rfl rfl qM ?_
 refine(Gv J O Y ζ μ a4 _ (Option.some.inj A4.out) ai an.out).mono ?_
 rintro e ec ⟨rfl,hb⟩
 refine⟨_,rfl, ?_⟩
 replace B:=sBk B hb
 replace γ:=sBk γ hb
 replace δ :=sBk δ hb
 replace ξ :=sBk ξ hb
 replace HB:=sHb hb
 (try clear hb)
 (try clear a6)
 (try clear hk)
 (try clear hi)
 refine hK.out _ _ ⟨qc B,qc B,qc γ,qc γ,qc δ,qc δ,qc δ⟩ (fun hHeld=>?_)
 clear hK K
 refine qN (some 13) ?_
 refine qK 7 (some 15) (bN 19 9983) HT_ fun K hK=>?_
 refine Q9 Try.func63 kr rfl #[.agg #[.slice θ X.length η,.slice κ Z.length ι]] (by rfl) rfl rfl qM ?_
 refine(Kh θ κ X.length Z.length η ι _).mono ?_
 rintro e b9 ⟨rfl,hb⟩
 refine⟨_,rfl, ?_⟩
 replace B:=sBk B hb
 replace γ:=sBk γ hb
 replace δ :=sBk δ hb
 replace ξ :=sBk ξ hb
 replace HB:=sHb hb
 (try clear hb)
 (try clear a6)
 (try clear hk)
 (try clear hi)
 refine hK.out _ _ ⟨qc B,qc B,qc γ,qc γ,qc δ,qc δ,qc δ⟩ (fun hHeld=>?_)
 clear hK K
 refine qN (some 15) ?_
 refine qP 8 (some 16) (bN 19 10239) HT_ ?_
 refine qK 11 (some 19) (bN 19 12287) HT_ fun K hK=>?_
 refine Q9 Try.func66 kr rfl #[.agg #[.slice θ X.length η,.slice κ Z.length ι]] (by rfl) rfl rfl qM ?_
 refine(Gl θ κ X.length Z.length η ι _).mono ?_
 rintro e bd ⟨rfl,hb⟩
 refine⟨_,rfl, ?_⟩
 replace B:=sBk B hb
 replace γ:=sBk γ hb
 replace δ :=sBk δ hb
 replace ξ :=sBk ξ hb
 replace HB:=sHb hb
 (try clear hb)
 (try clear a6)
 (try clear hk)
 (try clear hi)
 refine hK.out _ _ ⟨qc B,qc B,qc γ,qc γ,qc δ,qc δ,qc δ⟩ (fun hHeld=>?_)
 clear hK K
 refine qN (some 19) ?_
 refine qP 12 (some 20) (bN 19 16383) HT_ ?_
 refine qK 14 (some 22) (bN 19 32767) HT_ fun K hK=>?_
 refine Q9 Try.func73 kr rfl #[.agg #[.int .i64 J,.int .i64 O],.agg #[.slice θ X.length η,.slice κ Z.length ι],.bool a4,.func (.func 74) #[.agg #[.slice θ X.length η,.func (.func 79) #[] #[]]] #[],.agg #[.int .i64 Y,.int .i64 ζ,.int .i64 μ],.func (.func 75) #[.agg #[.slice κ Z.length ι,.func (.func 83) #[] #[]]] #[],.agg #[.int .i64 (-2),.int .i64 0]] (by rfl) rfl rfl qM ?_
 refine(call_change.calls _ _ k J O θ η X κ ι Z a4 0 Y ζ μ 0 (-2) 0 τ a5 a1 _ ?side1 ?side2 ?side3 ?side4 A5.out 74 Try.f74 (.agg #[.slice θ X.length η,.func (.func 79) #[] #[]]) Try.func74 kr rfl (fun W t ht hb=>V1 θ η X _ _ _ t W (Kd.Qv (Kd.Qv ω.out (by repeat(first|(with_reducible first|exact HB.out|apply Qu|apply Qi|apply Qg)|exact HB.out|(refine Qx ?_ (Aside0.out (by assumption)))))) hb) am.out ht) 75 Try.f75 (.agg #[.slice κ Z.length ι,.func (.func 83) #[] #[]]) Try.func75 kr rfl (fun W t ht hb=>Un κ ι Z _ _ t W (Kd.Qv (Kd.Qv a7.out (by repeat(first|(with_reducible first|exact HB.out|apply Qu|apply Qi|apply Qg)|exact HB.out|(refine Qx ?_ (Aside0.out (by assumption)))))) hb) av.out ht)).mono ?_
 (case side1=>exact(Kd.Qv ω.out HB.out))
 (case side2=>exact am.out)
 (case side3=>exact(Kd.Qv a7.out HB.out))
 (case side4=>exact av.out)
 rintro e he ⟨bu,ca,rfl,ak,ax,hb⟩
 refine⟨_,rfl, ?_⟩
 have ba:=Aside0.mk (Kd.Q3 (Kd.Kl ak (g:=ah) (o:=.cells #[.int .i64 Y,.int .i64 ζ,.int .i64 μ] 36 (0,0)) δ.out) (Qh HB.out))
 have a0:=Aside0.mk (Kd.Q3 ax (Qh HB.out))
 replace B:=sBk B hb
 replace γ:=sBk γ hb
 replace δ :=sBk δ hb
 replace ξ :=sBk ξ hb
 replace HB:=sHb hb
 (try clear hb)
 (try clear a6)
 (try clear hk)
 (try clear hi)
 (try clear ak)
 (try clear ax)
 obtain⟨fv,ea,gw⟩:=Kd.Q5 ba.out
 (first|subst gw|(injection gw with ab ap ac;have ar:=ab.symm;have au:=ac.symm;clear ab ap ac;subst ar;subst au))
 obtain⟨aw,az,af⟩:=Kd.Q5 a0.out
 (first|subst af|(injection af with ab ap ac;have ar:=ab.symm;have au:=ac.symm;clear ab ap ac;subst ar;subst au))
 refine hK.out _ _ ⟨qc B,qc B,qc γ,qc γ,qc δ,qc δ,qc δ⟩ (fun hHeld=>?_)
 clear hK K
 refine qN (some 22) ?_
 refine qP 15 (some 23) (bN 19 65535) HT_ ?_
 refine qP 16 (some 24) (bN 19 131071) HT_ ?_
 refine qK 17 (none) (bN 19 262143) HT_ fun K hK=>?_
 have cb:he.cell? ⟨ρ,0,none⟩=some (.slice none 0 0):=(Qa ξ.out 0).trans rfl
 have bz:=Qb ξ.out 0
 have bf:= φ.out
 have bh:= χ.out
 have bi:=σ.out
 have bj:=a3.out
 have bk:=ae.out
 have bl:=ag.out
 have bc:he.cell? ⟨ρ,1,none⟩=some (.slice none 0 0):=(Qa ξ.out 1).trans rfl
 have bb:=Qb ξ.out 1
 have b1:= φ.out
 have bm:= χ.out
 have bn:=σ.out
 have b2:=a3.out
 have bo:=ae.out
 have bp:=ag.out
 refine Kq (w1:=?_) (by rfl) rfl ?_ ?_
 rotate_left
 ·go_simp
  rfl
 refine hK.out _ _ ⟨((cell_far (p:=⟨ρ,_,none⟩) φ.out _).trans (((cell_far (p:=⟨ρ,_,none⟩) φ.out _).trans (hHeld.1)))),((cell_far (p:=⟨ρ,_,none⟩) φ.out _).trans (((cell_far (p:=⟨ρ,_,none⟩) φ.out _).trans (hHeld.2.1)))),((cell_far (p:=⟨ρ,_,none⟩) χ.out _).trans (((cell_far (p:=⟨ρ,_,none⟩) χ.out _).trans (hHeld.2.2.1)))),((cell_far (p:=⟨ρ,_,none⟩) χ.out _).trans (((cell_far (p:=⟨ρ,_,none⟩) χ.out _).trans (hHeld.2.2.2.1)))),((cell_far (p:=⟨ρ,_,none⟩) σ.out _).trans (((cell_far (p:=⟨ρ,_,none⟩) σ.out _).trans (hHeld.2.2.2.2.1)))),((cell_far (p:=⟨ρ,_,none⟩) σ.out _).trans (((cell_far (p:=⟨ρ,_,none⟩) σ.out _).trans (hHeld.2.2.2.2.2.1)))),((cell_far (p:=⟨ρ,_,none⟩) σ.out _).trans (((cell_far (p:=⟨ρ,_,none⟩) σ.out _).trans (hHeld.2.2.2.2.2.2))))⟩ (fun hHeld=>?_)
 clear hK K
 refine qP 18 (some 7) (bN 19 524287) HT_ ?_
 refine Z2 (Zf HT_.out kr) ?_
 try go_wp2
 refine bodyPost_ret (Z8 rfl _ _ ρ 50 #[.slice fv τ.length ea,.slice aw a5.length az] (0,0) _ rfl (by refine Qq (cs:=#[.slice fv τ.length ea,.slice none 0 0]) ?_ 1 _ rfl;refine Qq (cs:=#[.slice none 0 0,.slice none 0 0]) ?_ 0 _ rfl;exact ξ.out) Try.underlying50 rfl kr) rfl ?_
 exact⟨_,_,by first|rfl|(simp[Qk,Qj] <;> rfl)|(simp[*,Qk,Qj] <;> rfl),by(with_reducible repeat first|apply Kd.Qm|apply Kd.Ql|apply Kd.Qs);exact Kd.Qw (Kd.Qz (Kd.Qz (Kd.Q7 ba.out ξ.out (by decide)) (fun _ hk=>hk.2) _) (fun _ hk=>hk.2) _) (fun _ hk=>trivial),by(with_reducible repeat first|apply Kd.Qm|apply Kd.Ql|apply Kd.Qs);exact Kd.Qw (Kd.Qz (Kd.Qz (Kd.Q7 a0.out ξ.out (by decide)) (fun _ hk=>hk.2) _) (fun _ hk=>hk.2) _) (fun _ hk=>trivial),bel⟩
end Go.Proofs.Ytmfffemidlhcpaa.C
namespace Go.Proofs.Ytmfffemidlhcpaa.Call
open Go.RowKit Go.Proofs.YtmfffemidlhcpaaW.PrintWords Go.Proofs.YtmfffemidlhcpaaW.PrintLast Go.Proofs.YtmfffemidlhcpaaW.PrintMore Go.Proofs.Ytmfffemidlhcpaa.C
set_option linter.unusedVariables false
set_option linter.unusedSimpArgs false
abbrev Hall:=S36
abbrev Ins:=S86
def i64 (x:Int):Prop:= -9223372036854775808≤x∧x≤9223372036854775807
theorem Xf (a lo hi:Int):call_within.f a lo hi=some (decide (lo≤a∧a≤hi)):=by
  unfold call_within.f
  by_cases h:lo≤a <;> simp[h]
def okB (F C:Int) (H:List Hall) (I:List Ins):Bool:=decide (2≤F∧F≤64)&&(decide (1≤C∧C≤8)&&(Zn (fun x=>Yn F C x.f0 x.f1 x.f2) ltH none H&&Zn (fun x=>K5 F C x.f0 x.f1) ltI none I))
theorem Uq {n:Nat} {C:Int} (h:n<1000000000) (hC:i64 C):small n C=true:=decide_eq_true ⟨h,hC.1,hC.2⟩
theorem Yu (k:Nat) (F C:Int) (H:List Hall) (I:List Ins) (hH:H.length<900000000) (hI:I.length<900000000) (hC:i64 C):call_Check.f (k+1) F C H I=some (if okB F C H I=true then 0 else 190):=by
  unfold call_Check.f rightP_H.f rightP_I.f okB
  rw[Xf,Xf,if_pos (Uq (by omega) hC),if_pos (Uq (by omega) hC)]
  simp only[Option.bind_some]
  cases decide (2≤F∧F≤64) <;> cases decide (1≤C∧C≤8) <;> cases Zn (fun x:Hall=>Yn F C x.f0 x.f1 x.f2) ltH none H <;> cases Zn (fun x:Ins=>K5 F C x.f0 x.f1) ltI none I <;> simp[call_Check.j0]
theorem Jx {F C:Int} {H:List Hall} {I:List Ins}:okB F C H I=true↔((2≤F∧F≤64)∧(1≤C∧C≤8)∧((∀ x ∈ H,Yn F C x.f0 x.f1 x.f2=true)∧H.Pairwise (fun x y=>ltH x y=true))∧((∀ x ∈ I,K5 F C x.f0 x.f1=true)∧I.Pairwise (fun x y=>ltI x y=true))):=by
  unfold okB
  simp only[Bool.and_eq_true,decide_eq_true_eq]
  rw[Gb,Uw]
theorem Mv (x:Int) (h:1≤x∧x≤64):wrap64 (x-1)=x-1:=by unfold wrap64;omega
theorem Gu {F C:Int} {B J Z:Int} (hF:2≤F∧F≤64) (hC:1≤C∧C≤8):Yn F C B J Z=true↔((J=1∨J = -1)∧(0≤B∧B≤F-1)∧(0≤B+J∧B+J≤F-1)∧(-1≤Z∧Z≤C-1)):=by
  unfold Yn
  rw[decide_eq_true_eq,Mv F (by omega),Mv C (by omega)]
  constructor
  · rintro⟨h1,O,Y,h4⟩
    rw[show wrap64 (B+J)=B+J from by unfold wrap64;omega] at Y
    exact⟨h1,O,Y,h4⟩
  · rintro⟨h1,O,Y,h4⟩
    rw[show wrap64 (B+J)=B+J from by unfold wrap64;omega]
    exact⟨h1,O,Y,h4⟩
theorem M8 (H:List Hall) (I:List Ins) (hH:H.length<900000000) (hI:I.length<900000000):newellaw19_Own.f H I=some (H,I):=by
  unfold newellaw19_Own.f
  simp only[Option.bind_some,List.length_nil,Nat.zero_add,List.nil_append]
  rw[if_pos (by omega),if_pos (by omega)]
end Go.Proofs.Ytmfffemidlhcpaa.Call
namespace Go.Proofs.Ytmfffemidlhcpaa.C
open Go.RowKit Go.Proofs.YtmfffemidlhcpaaW.PrintWords Go.Proofs.YtmfffemidlhcpaaW.PrintLast Go.Proofs.YtmfffemidlhcpaaW.PrintMore
attribute [local go_sem] Zv Zt Z6 Z5 Zk Zj Zu Zs
set_option linter.unusedVariables false
set_option linter.unusedSimpArgs false
def group_hall.f (k:Nat) (J:Int) (O:Int) (ι :Int) (ε :Int) (κ :Int):Option (Bool):=(call_Give.f k J O ([]:List (S36)) ([]:List (S86)) ι ε κ).bind fun Y=>(some (Y.2.2==0))
theorem group_hall.mono:∀ J Y a2 a3 O k,LeO (group_hall.f k J Y a2 a3 O) (group_hall.f (k+1) J Y a2 a3 O):=by
 intro J Y a2 a3 O k
 unfold group_hall.f
 repeat' first
   |(with_reducible exact call_Give.mono _ _ _ _ _ _ _ _)
   |(with_reducible exact LeO.refl _)
   |(with_reducible exact LeO.none _)
   |(with_reducible refine LeO.ite ?_ ?_)
   |(with_reducible refine LeO.bind ?_ (fun _=>?_))
   |exact call_Give.mono _ _ _ _ _ _ _ _
   |exact LeO.none _
   |refine LeO.ite ?_ ?_
   |refine LeO.bind ?_ (fun _=>?_)
set_option maxHeartbeats 8000000 in
set_option maxRecDepth 100000 in
theorem group_hall.calls (k:Nat) (J:Int) (O:Int) (ι :Int) (ε :Int) (κ :Int) (r:Bool) (w:World) (h:group_hall.f k J O ι ε κ = some r):
  Calls Try.prog 30 #[.agg #[.int .i64 J,.int .i64 O],.agg #[.int .i64 ι,.int .i64 ε,.int .i64 κ]] w fun e w'=>e = .returned (.bool r)∧Below w.heap.size w w':=by
 have dp:=Try.underlying59
 have dm:=Try.underlying36
 have ey:=Try.underlying50
 have HB:=Aside0.mk (Below.refl w.heap.size w)
 have H:((call_Give.f k J O ([]:List (S36)) ([]:List (S86)) ι ε κ).bind fun Y=>(some (Y.2.2==0)))=some r:=h
 clear h
 replace H:=Option.bind_eq_some_iff.mp H
 obtain⟨⟨φ,χ,ξ⟩,a5,H⟩:=H
 replace H:(some (ξ == 0))=some r:=H
 have A3:=Aside0.mk a5
 clear a5
 obtain rfl:=Option.some.inj H
 go_enter Try.func30,Try.ntmps30
 go_wp2_with (first|((with_reducible refine Qf (N:=2) rfl ?_);refine qE 2 #[.int .i64 J,.int .i64 O] 59 ?_;intro a0 hg w4 hbox hb;have B:=Aside0.mk hbox;have a1:=sGe hg;have a3:=sGe hg;replace HB:=sHb hb;clear hb hbox hg)|((with_reducible refine Qf (N:=3) rfl ?_);refine qE 3 #[.int .i64 ι,.int .i64 ε,.int .i64 κ] 36 ?_;intro ρ hg w5 hbox hb;have X:=Aside0.mk hbox;have a4:=sGe hg;have a7:=sGe hg;have δ :=sNl B hg;have ζ :=sNg B hg;replace B:=sBk B hb;replace HB:=sHb hb;clear hb hbox hg;have ab:= δ.out;have ac:= ζ.out;obtain⟨ao,ap,ar,av⟩:=qD2 B.out;obtain⟨df,dh,di,dj,dk,dl⟩:=qD3 X.out)|((with_reducible refine Qp (f:=51) rfl ?_);refine Q4 (some 11) rfl rfl Try.func51 kr rfl #[.agg #[.int .i64 J,.int .i64 O],.agg #[.slice none 0 0,.slice none 0 0],.agg #[.int .i64 ι,.int .i64 ε,.int .i64 κ]] rfl qM ?_;(refine(call_Give.calls k J O _ _ ([]:List (S36)) _ _ ([]:List (S86)) ι ε κ φ χ ξ _ ?side1 ?side2 ?side3 ?side4 A3.out).mono ?_);(case side1=>exact Kd.Ja _ _);(case side2=>exact Nat.le_refl _);(case side3=>exact Kd.Ja _ _);(case side4=>exact Nat.le_refl _);rintro e w9 ⟨ae,ag,rfl,ak,ax,hb⟩;refine⟨_,rfl, ?_⟩;have Z:=Aside0.mk (Kd.Q3 (Kd.Kl ak (g:=ρ) (o:=.cells #[.int .i64 ι,.int .i64 ε,.int .i64 κ] 36 (0,0)) X.out) (Qh HB.out));have γ:=Aside0.mk (Kd.Q3 ax (Qh HB.out));replace B:=sBk B hb;replace X:=sBk X hb;replace HB:=sHb hb;(try clear hb);(try clear a6);(try clear hk);(try clear hi);(try clear ak);(try clear ax))|((with_reducible refine Qf (N:=5) rfl ?_);refine qE 5 #[.slice none 0 0,.slice none 0 0] 50 ?_;intro a8 hg ni hbox hb;have σ:=Aside0.mk hbox;have a9:=sGe hg;have aa:=sGe hg;have η :=sNl B hg;have θ :=sNg B hg;have μ :=sNl X hg;have ν :=sNg X hg;replace Z:=sRb Z hb;replace γ:=sRb γ hb;replace B:=sBk B hb;replace X:=sBk X hb;replace HB:=sHb hb;clear hb hbox hg;obtain⟨ψ,ω,τ⟩:=Kd.Q5 Z.out;subst τ;have gl:= θ.out;have gm:= η.out;have js:= ν.out;have jt:= μ.out;obtain⟨cz,d5,d6,dd⟩:=qD2 σ.out;obtain⟨aw,az,af⟩:=Kd.Q5 γ.out;subst af))
 go_ret
 exact⟨by first|rfl|(simp[Qk,Qj] <;> rfl)|(simp[*,Qk,Qj] <;> rfl),bel⟩
def group_Cost.f (k:Nat) (J:Int) (O:Int) (X:Int) (Y:Int) (Z:Int) (δ :Int) (γ:Int) (θ :Int) (η :Int) (ζ :Int) (ι :Int) (ε :Int) (κ :Int) (ν :Int) (B:Int) (τ :Int) (χ :Int) (ψ :Int) (ω :Bool) (a1:Bool) (φ :List Int) (a0:List Int) (a7:List Int) (a8:Int) (a9:Int) (aa:Int):Option (Int×Int):=(group_lift.f k J O X Y Z δ γ θ η ζ ι ε κ ν B τ χ ψ ω a1).bind fun d9=>(if d9=true then ((collect_Check.f k J 0 0 false false φ a0 a7).bind fun ar=>(if ar=0 then ((group_hall.f k J 8 a8 a9 aa).bind fun bf=>(if bf=true then ((group_cost.f k J O X Y Z δ γ θ η ζ ι ε κ ν B τ χ ψ ω a1 φ a0 a7 a8 a9 aa).bind fun b4=>(some (b4,0))) else (some (0,210)))) else (some (0,210)))) else (some (0,210)))
theorem group_Cost.mono:∀ J Y a2 a3 O a5 X a7 a8 a9 Z γ δ ζ ε η θ B ι κ μ ν ξ ρ σ τ k,LeO (group_Cost.f k J Y a2 a3 O a5 X a7 a8 a9 Z γ δ ζ ε η θ B ι κ μ ν ξ ρ σ τ) (group_Cost.f (k+1) J Y a2 a3 O a5 X a7 a8 a9 Z γ δ ζ ε η θ B ι κ μ ν ξ ρ σ τ):=by
 intro J Y a2 a3 O a5 X a7 a8 a9 Z γ δ ζ ε η θ B ι κ μ ν ξ ρ σ τ k
 unfold group_Cost.f
 repeat' first
   |(with_reducible exact collect_Check.mono _ _ _ _ _ _ _ _ _)
   |(with_reducible exact group_cost.mono _ _ _ _ _ _ _ _ _ _ _ _ _ _ _ _ _ _ _ _ _ _ _ _ _ _ _)
   |(with_reducible exact group_hall.mono _ _ _ _ _ _)
   |(with_reducible exact group_lift.mono _ _ _ _ _ _ _ _ _ _ _ _ _ _ _ _ _ _ _ _ _)
   |(with_reducible exact LeO.refl _)
   |(with_reducible exact LeO.none _)
   |(with_reducible refine LeO.ite ?_ ?_)
   |(with_reducible refine LeO.bind ?_ (fun _=>?_))
   |exact collect_Check.mono _ _ _ _ _ _ _ _ _
   |exact group_cost.mono _ _ _ _ _ _ _ _ _ _ _ _ _ _ _ _ _ _ _ _ _ _ _ _ _ _ _
   |exact group_hall.mono _ _ _ _ _ _
   |exact group_lift.mono _ _ _ _ _ _ _ _ _ _ _ _ _ _ _ _ _ _ _ _ _
   |exact LeO.none _
   |refine LeO.ite ?_ ?_
   |refine LeO.bind ?_ (fun _=>?_)
set_option maxHeartbeats 8000000 in
set_option maxRecDepth 100000 in
theorem group_Cost.calls (k:Nat) (J:Int) (O:Int) (X:Int) (Y:Int) (Z:Int) (δ :Int) (γ:Int) (θ :Int) (η :Int) (ζ :Int) (ι :Int) (ε :Int) (κ :Int) (ν :Int) (B:Int) (τ :Int) (χ :Int) (ψ :Int) (ω :Bool) (a1:Bool) (ac:Option Addr) (ae:Nat) (φ :List Int) (af:Option Addr) (ag:Nat) (a0:List Int) (ah:Option Addr) (ai:Nat) (a7:List Int) (a8:Int) (a9:Int) (aa:Int) (r1:Int) (r2:Int) (w:World) (bg:Kd.C (Kd.int .i64) w ac φ.length φ) (bi: φ.length≤ae) (bj:Kd.C (Kd.int .i64) w af a0.length a0) (bk:a0.length≤ag) (ct:Kd.C (Kd.int .i64) w ah a7.length a7) (cu:a7.length≤ai) (h:group_Cost.f k J O X Y Z δ γ θ η ζ ι ε κ ν B τ χ ψ ω a1 φ a0 a7 a8 a9 aa=some (r1,r2)):
  Calls Try.prog 10 #[.agg #[.int .i64 J,.int .i64 O,.int .i64 X,.int .i64 Y,.int .i64 Z,.int .i64 δ,.int .i64 γ,.int .i64 θ,.int .i64 η,.int .i64 ζ],.agg #[.int .i64 ι,.int .i64 ε,.int .i64 κ,.int .i64 ν,.int .i64 B,.int .i64 τ,.int .i64 χ,.int .i64 ψ,.bool ω,.bool a1],.agg #[.slice ac φ.length ae,.slice af a0.length ag,.slice ah a7.length ai],.agg #[.int .i64 a8,.int .i64 a9,.int .i64 aa]] w fun e w'=>e = .returned (.tuple #[.int .i64 r1,.int .i64 r2])∧Below w.heap.size w w':=by
 have ew:=Try.underlying25
 have fo:=Try.underlying31
 have fl:=Try.underlying34
 have dm:=Try.underlying36
 have jk:=Try.underlying76
 have dp:=Try.underlying59
 have cq:=Aside0.mk bg
 have cr:=Aside0.mk bi
 clear bg bi
 have cx:=Aside0.mk bj
 have d8:=Aside0.mk bk
 clear bj bk
 have cv:=Aside0.mk ct
 have d4:=Aside0.mk cu
 clear ct cu
 have HB:=Aside0.mk (Below.refl w.heap.size w)
 have H:((group_lift.f k J O X Y Z δ γ θ η ζ ι ε κ ν B τ χ ψ ω a1).bind fun d9=>(if d9=true then ((collect_Check.f k J 0 0 false false φ a0 a7).bind fun ar=>(if ar=0 then ((group_hall.f k J 8 a8 a9 aa).bind fun bf=>(if bf=true then ((group_cost.f k J O X Y Z δ γ θ η ζ ι ε κ ν B τ χ ψ ω a1 φ a0 a7 a8 a9 aa).bind fun b4=>(some (b4,0))) else (some (0,210)))) else (some (0,210)))) else (some (0,210))))=some (r1,r2):=h
 clear h
 replace H:=Option.bind_eq_some_iff.mp H
 obtain⟨d9,bv,H⟩:=H
 replace H:(if d9=true then ((collect_Check.f k J 0 0 false false φ a0 a7).bind fun ar=>(if ar=0 then ((group_hall.f k J 8 a8 a9 aa).bind fun bf=>(if bf=true then ((group_cost.f k J O X Y Z δ γ θ η ζ ι ε κ ν B τ χ ψ ω a1 φ a0 a7 a8 a9 aa).bind fun b4=>(some (b4,0))) else (some (0,210)))) else (some (0,210)))) else (some (0,210)))=some (r1,r2):=H
 have A5:=Aside0.mk bv
 clear bv
 by_cases c6:d9=true
 ·subst c6
  have H1:((collect_Check.f k J 0 0 false false φ a0 a7).bind fun ar=>(if ar=0 then ((group_hall.f k J 8 a8 a9 aa).bind fun bf=>(if bf=true then ((group_cost.f k J O X Y Z δ γ θ η ζ ι ε κ ν B τ χ ψ ω a1 φ a0 a7 a8 a9 aa).bind fun b4=>(some (b4,0))) else (some (0,210)))) else (some (0,210))))=some (r1,r2):=by rw[if_pos rfl] at H;exact H
  clear H
  have H:=H1
  clear H1
  replace H:=Option.bind_eq_some_iff.mp H
  obtain⟨ar,ce,H⟩:=H
  replace H:(if ar=0 then ((group_hall.f k J 8 a8 a9 aa).bind fun bf=>(if bf=true then ((group_cost.f k J O X Y Z δ γ θ η ζ ι ε κ ν B τ χ ψ ω a1 φ a0 a7 a8 a9 aa).bind fun b4=>(some (b4,0))) else (some (0,210)))) else (some (0,210)))=some (r1,r2):=H
  have A7:=Aside0.mk ce
  clear ce
  by_cases c8:ar=0
  ·rw[if_pos c8] at H
   have c8b0:(ar==0)=true:=beq_iff_eq.mpr c8
   have c8b1:(ar != 0)=false:=bne_eq_false_iff_eq.mpr c8
   clear c8
   replace H:=Option.bind_eq_some_iff.mp H
   obtain⟨bf,bw,H⟩:=H
   replace H:(if bf=true then ((group_cost.f k J O X Y Z δ γ θ η ζ ι ε κ ν B τ χ ψ ω a1 φ a0 a7 a8 a9 aa).bind fun b4=>(some (b4,0))) else (some (0,210)))=some (r1,r2):=H
   have A9:=Aside0.mk bw
   clear bw
   by_cases c10:bf=true
   ·subst c10
    have H1:((group_cost.f k J O X Y Z δ γ θ η ζ ι ε κ ν B τ χ ψ ω a1 φ a0 a7 a8 a9 aa).bind fun b4=>(some (b4,0)))=some (r1,r2):=by rw[if_pos rfl] at H;exact H
    clear H
    have H:=H1
    clear H1
    replace H:=Option.bind_eq_some_iff.mp H
    obtain⟨b4,bh,H⟩:=H
    replace H:(some (b4,0))=some (r1,r2):=H
    have da:=Aside0.mk bh
    clear bh
    simp only[Option.some.injEq,Prod.mk.injEq] at H
    obtain⟨rfl,rfl⟩:=H
    go_enter Try.func10,Try.ntmps10
    go_wp2_with (first|((with_reducible refine Qf (N:=4) rfl ?_);refine qE 4 #[.int .i64 J,.int .i64 O,.int .i64 X,.int .i64 Y,.int .i64 Z,.int .i64 δ,.int .i64 γ,.int .i64 θ,.int .i64 η,.int .i64 ζ] 25 ?_;intro bl hg he hbox hb;have ρ:=Aside0.mk hbox;have dq:=sGe hg;have br:=sGe hg;replace HB:=sHb hb;clear hb hbox hg)|((with_reducible refine Qf (N:=5) rfl ?_);refine qE 5 #[.int .i64 ι,.int .i64 ε,.int .i64 κ,.int .i64 ν,.int .i64 B,.int .i64 τ,.int .i64 χ,.int .i64 ψ,.bool ω,.bool a1] 31 ?_;intro bs hg ch hbox hb;have σ:=Aside0.mk hbox;have ei:=sGe hg;have bu:=sGe hg;have au:=sNl ρ hg;have av:=sNg ρ hg;replace ρ:=sBk ρ hb;replace HB:=sHb hb;clear hb hbox hg)|((with_reducible refine Qf (N:=6) rfl ?_);refine qE 6 #[.slice ac φ.length ae,.slice af a0.length ag,.slice ah a7.length ai] 34 ?_;intro cf hg ft hbox hb;have a5:=Aside0.mk hbox;have fa:=sGe hg;have cg:=sGe hg;have aw:=sNl ρ hg;have ax:=sNg ρ hg;have ay:=sNl σ hg;have az:=sNg σ hg;replace ρ:=sBk ρ hb;replace σ:=sBk σ hb;replace HB:=sHb hb;clear hb hbox hg)|((with_reducible refine Qf (N:=7) rfl ?_);refine qE 7 #[.int .i64 a8,.int .i64 a9,.int .i64 aa] 36 ?_;intro ci hg kp hbox hb;have ab:=Aside0.mk hbox;have fp:=sGe hg;have cj:=sGe hg;have b0:=sNl ρ hg;have b1:=sNg ρ hg;have b2:=sNl σ hg;have b3:=sNg σ hg;have ba:=sNl a5 hg;have be:=sNg a5 hg;replace ρ:=sBk ρ hb;replace σ:=sBk σ hb;replace a5:=sBk a5 hb;replace HB:=sHb hb;clear hb hbox hg;have de:=au.out;have fr:=av.out;have hh:=aw.out;have iw:=ax.out;have d5:=b0.out;have ev:=b1.out;obtain⟨aj,ak,ao,b5,b6,b7,b8,ck,co,e9,am,an,ap,b9,bb,bc,bd,et,eu,ez⟩:=Zl ρ.out;have fq:=ay.out;have gn:=az.out;have gp:=b2.out;have gw:=b3.out;obtain⟨bz,ca,dh,dl,ea,ek,el,gk,gl,gm,cb,cd,di,em,en,fg,fh,h0,h4,hj⟩:=Zl σ.out)|((with_reducible refine Qp (f:=28) rfl ?_);refine Q4 (some 12) rfl rfl Try.func28 kr rfl #[.agg #[.int .i64 J,.int .i64 O,.int .i64 X,.int .i64 Y,.int .i64 Z,.int .i64 δ,.int .i64 γ,.int .i64 θ,.int .i64 η,.int .i64 ζ],.agg #[.int .i64 ι,.int .i64 ε,.int .i64 κ,.int .i64 ν,.int .i64 B,.int .i64 τ,.int .i64 χ,.int .i64 ψ,.bool ω,.bool a1]] rfl qM ?_;(with_reducible refine(group_lift.calls k J O X Y Z δ γ θ η ζ ι ε κ ν B τ χ ψ ω a1 true _ A5.out).mono ?_);rintro e bm ⟨rfl,hb⟩;refine⟨_,rfl, ?_⟩;replace ρ:=sBk ρ hb;replace σ:=sBk σ hb;replace a5:=sBk a5 hb;replace ab:=sBk ab hb;replace HB:=sHb hb;(try clear hb);(try clear a6);(try clear hk);(try clear hi);obtain⟨bn,bo,cm,dr,dt,du,dv,dw,dx,dy,bp,bq,cn,dz,e0,e3,e4,e5,e6,e7⟩:=Zl ρ.out;have fm:=ba.out;have fn:=be.out;obtain⟨cp,cw,ep,ec,eo,er⟩:=qD3 a5.out)|(go_at_call 29;(with_reducible refine(collect_Check.calls k J 0 0 false false (fun k_=>k_<w.heap.size) _ _ φ (fun k_=>k_<w.heap.size) _ _ a0 (fun k_=>k_<w.heap.size) _ _ a7 ar _ ?side1 ?side2 ?side3 A7.out).mono ?_);(case side1=>exact Kd.G5 cr.out (Kd.Xs (Kd.C_F (Kd.X1 .i64) cq.out) (by repeat(first|(with_reducible first|exact HB.out|apply Qu|apply Qi|apply Qg|refine Qx ?_ br.out|refine Qx ?_ bu.out|refine Qx ?_ cg.out|refine Qx ?_ cj.out)|exact HB.out))));(case side2=>exact Kd.G5 d8.out (Kd.Xs (Kd.C_F (Kd.X1 .i64) cx.out) (by repeat(first|(with_reducible first|exact HB.out|apply Qu|apply Qi|apply Qg|refine Qx ?_ br.out|refine Qx ?_ bu.out|refine Qx ?_ cg.out|refine Qx ?_ cj.out)|exact HB.out))));(case side3=>exact Kd.G5 d4.out (Kd.Xs (Kd.C_F (Kd.X1 .i64) cv.out) (by repeat(first|(with_reducible first|exact HB.out|apply Qu|apply Qi|apply Qg|refine Qx ?_ br.out|refine Qx ?_ bu.out|refine Qx ?_ cg.out|refine Qx ?_ cj.out)|exact HB.out))));rintro e df ⟨rfl,hb⟩;have μ :=Aside0.mk (Qy (g:=bl) (o:=.cells #[.int .i64 J,.int .i64 O,.int .i64 X,.int .i64 Y,.int .i64 Z,.int .i64 δ,.int .i64 γ,.int .i64 θ,.int .i64 η,.int .i64 ζ] 25 (0,0)) (by(with_reducible repeat first|refine Qn ?_ _|refine Qe ?_|refine Qo ?_ _);exact ρ.out) hb);have ξ :=Aside0.mk (Qy (g:=bs) (o:=.cells #[.int .i64 ι,.int .i64 ε,.int .i64 κ,.int .i64 ν,.int .i64 B,.int .i64 τ,.int .i64 χ,.int .i64 ψ,.bool ω,.bool a1] 31 (0,0)) (by(with_reducible repeat first|refine Qn ?_ _|refine Qe ?_|refine Qo ?_ _);exact σ.out) hb);have a3:=Aside0.mk (Qy (g:=cf) (o:=.cells #[.slice ac φ.length ae,.slice af a0.length ag,.slice ah a7.length ai] 34 (0,0)) (by(with_reducible repeat first|refine Qn ?_ _|refine Qe ?_|refine Qo ?_ _);exact a5.out) hb);have a4:=Aside0.mk (Qy (g:=ci) (o:=.cells #[.int .i64 a8,.int .i64 a9,.int .i64 aa] 36 (0,0)) (by(with_reducible repeat first|refine Qn ?_ _|refine Qe ?_|refine Qo ?_ _);exact ab.out) hb);have al:=Aside0.mk (Q0 (by repeat(first|(with_reducible first|exact HB.out|apply Qu|apply Qi|apply Qg|refine Qx ?_ br.out|refine Qx ?_ bu.out|refine Qx ?_ cg.out|refine Qx ?_ cj.out)|exact HB.out)) hb);clear ρ;clear σ;clear a5;clear ab;clear HB;have ρ:= μ;have σ:= ξ;have a5:=a3;have ab:=a4;have HB:=al;clear μ ξ a3 a4 al;(try clear hb);(try clear a6);(try clear hk);(try clear hi);obtain⟨eb,eg,eh,jl,jm,jr,js,k5,ki,kj,ed,fj,fk,kl,km,kn,ko,kq,ks,kt⟩:=Zl ρ.out;obtain⟨ic,ie,ig,ih,ii,ij⟩:=qD3 ab.out)|(go_at_call 30;(with_reducible refine(group_hall.calls k J 8 a8 a9 aa true _ A9.out).mono ?_);rintro e ej ⟨rfl,hb⟩;have μ :=Aside0.mk (Qy (g:=bl) (o:=.cells #[.int .i64 J,.int .i64 O,.int .i64 X,.int .i64 Y,.int .i64 Z,.int .i64 δ,.int .i64 γ,.int .i64 θ,.int .i64 η,.int .i64 ζ] 25 (0,0)) (by(with_reducible repeat first|refine Qn ?_ _|refine Qe ?_|refine Qo ?_ _);exact ρ.out) hb);have ξ :=Aside0.mk (Qy (g:=bs) (o:=.cells #[.int .i64 ι,.int .i64 ε,.int .i64 κ,.int .i64 ν,.int .i64 B,.int .i64 τ,.int .i64 χ,.int .i64 ψ,.bool ω,.bool a1] 31 (0,0)) (by(with_reducible repeat first|refine Qn ?_ _|refine Qe ?_|refine Qo ?_ _);exact σ.out) hb);have a3:=Aside0.mk (Qy (g:=cf) (o:=.cells #[.slice ac φ.length ae,.slice af a0.length ag,.slice ah a7.length ai] 34 (0,0)) (by(with_reducible repeat first|refine Qn ?_ _|refine Qe ?_|refine Qo ?_ _);exact a5.out) hb);have a4:=Aside0.mk (Qy (g:=ci) (o:=.cells #[.int .i64 a8,.int .i64 a9,.int .i64 aa] 36 (0,0)) (by(with_reducible repeat first|refine Qn ?_ _|refine Qe ?_|refine Qo ?_ _);exact ab.out) hb);have al:=Aside0.mk (Q0 (by repeat(first|(with_reducible first|exact HB.out|apply Qu|apply Qi|apply Qg|refine Qx ?_ br.out|refine Qx ?_ bu.out|refine Qx ?_ cg.out|refine Qx ?_ cj.out)|exact HB.out)) hb);clear ρ;clear σ;clear a5;clear ab;clear HB;have ρ:= μ;have σ:= ξ;have a5:=a3;have ab:=a4;have HB:=al;clear μ ξ a3 a4 al;(try clear hb);(try clear a6);(try clear hk);(try clear hi);obtain⟨f7,fu,fv,ey,ga,gb,ge,i5,i6,i7,fw,fx,fy,gf,gh,gi,gj,i9,ia,ib⟩:=Zl ρ.out;obtain⟨fi,fz,gs,jt,ju,jv,jw,ku,l3,l4,gt,gu,gv,jx,k0,k1,k2,l5,l6,l7⟩:=Zl σ.out;obtain⟨d0,d1,db,d2,d3,dc⟩:=qD3 a5.out;obtain⟨dn,dj,dk,e8,ee,ef⟩:=qD3 ab.out)|((with_reducible refine Qp (f:=31) rfl ?_);refine Q4 (some 34) rfl rfl Try.func31 kr rfl #[.agg #[.int .i64 J,.int .i64 O,.int .i64 X,.int .i64 Y,.int .i64 Z,.int .i64 δ,.int .i64 γ,.int .i64 θ,.int .i64 η,.int .i64 ζ],.agg #[.int .i64 ι,.int .i64 ε,.int .i64 κ,.int .i64 ν,.int .i64 B,.int .i64 τ,.int .i64 χ,.int .i64 ψ,.bool ω,.bool a1],.agg #[.slice ac φ.length ae,.slice af a0.length ag,.slice ah a7.length ai],.agg #[.int .i64 a8,.int .i64 a9,.int .i64 aa]] rfl qM ?_;(with_reducible refine(group_cost.calls k J O X Y Z δ γ θ η ζ ι ε κ ν B τ χ ψ ω a1 _ _ φ _ _ a0 _ _ a7 a8 a9 aa b4 _ ?side1 ?side2 ?side3 ?side4 ?side5 ?side6 da.out).mono ?_);(case side1=>exact(Kd.Qv cq.out HB.out));(case side2=>exact cr.out);(case side3=>exact(Kd.Qv cx.out HB.out));(case side4=>exact d8.out);(case side5=>exact(Kd.Qv cv.out HB.out));(case side6=>exact d4.out);rintro e j8 ⟨rfl,hb⟩;refine⟨_,rfl, ?_⟩;replace ρ:=sBk ρ hb;replace σ:=sBk σ hb;replace a5:=sBk a5 hb;replace ab:=sBk ab hb;replace HB:=sHb hb;(try clear hb);(try clear a6);(try clear hk);(try clear hi)))
    go_ret2
    exact⟨rfl,HB.out⟩
   ·replace c10:=Bool.eq_false_iff.mpr c10
    subst c10
    have H1:(some (0,210))=some (r1,r2):=by rw[if_neg (show ¬ (false=true) by decide)] at H;exact H
    clear H
    have H:=H1
    clear H1
    simp only[Option.some.injEq,Prod.mk.injEq] at H
    obtain⟨rfl,rfl⟩:=H
    go_enter Try.func10,Try.ntmps10
    go_wp2_with (first|((with_reducible refine Qf (N:=4) rfl ?_);refine qE 4 #[.int .i64 J,.int .i64 O,.int .i64 X,.int .i64 Y,.int .i64 Z,.int .i64 δ,.int .i64 γ,.int .i64 θ,.int .i64 η,.int .i64 ζ] 25 ?_;intro bl hg gq hbox hb;have ρ:=Aside0.mk hbox;have dq:=sGe hg;have br:=sGe hg;replace HB:=sHb hb;clear hb hbox hg)|((with_reducible refine Qf (N:=5) rfl ?_);refine qE 5 #[.int .i64 ι,.int .i64 ε,.int .i64 κ,.int .i64 ν,.int .i64 B,.int .i64 τ,.int .i64 χ,.int .i64 ψ,.bool ω,.bool a1] 31 ?_;intro bs hg gg hbox hb;have σ:=Aside0.mk hbox;have ei:=sGe hg;have bu:=sGe hg;have au:=sNl ρ hg;have av:=sNg ρ hg;replace ρ:=sBk ρ hb;replace HB:=sHb hb;clear hb hbox hg)|((with_reducible refine Qf (N:=6) rfl ?_);refine qE 6 #[.slice ac φ.length ae,.slice af a0.length ag,.slice ah a7.length ai] 34 ?_;intro cf hg j9 hbox hb;have a5:=Aside0.mk hbox;have fa:=sGe hg;have cg:=sGe hg;have aw:=sNl ρ hg;have ax:=sNg ρ hg;have ay:=sNl σ hg;have az:=sNg σ hg;replace ρ:=sBk ρ hb;replace σ:=sBk σ hb;replace HB:=sHb hb;clear hb hbox hg)|((with_reducible refine Qf (N:=7) rfl ?_);refine qE 7 #[.int .i64 a8,.int .i64 a9,.int .i64 aa] 36 ?_;intro ci hg sd hbox hb;have ab:=Aside0.mk hbox;have fp:=sGe hg;have cj:=sGe hg;have b0:=sNl ρ hg;have b1:=sNg ρ hg;have b2:=sNl σ hg;have b3:=sNg σ hg;have ba:=sNl a5 hg;have be:=sNg a5 hg;replace ρ:=sBk ρ hb;replace σ:=sBk σ hb;replace a5:=sBk a5 hb;replace HB:=sHb hb;clear hb hbox hg;have gr:=au.out;have gx:=av.out;have ja:=aw.out;have jb:=ax.out;have gy:=b0.out;have gz:=b1.out;obtain⟨k3,k4,k6,k7,k8,k9,ka,l8,ll,lm,kb,kc,kd,ke,kf,kg,kh,mj,ml,mm⟩:=Zl ρ.out;have h9:=ay.out;have ha:=az.out;have ma:=b2.out;have mb:=b3.out;obtain⟨hl,ho,hy,i0,i1,i2,i3,mo,mq,mr,hu,hx,i4,iq,ir,iu,iv,ms,mt,mu⟩:=Zl σ.out)|((with_reducible refine Qp (f:=28) rfl ?_);refine Q4 (some 12) rfl rfl Try.func28 kr rfl #[.agg #[.int .i64 J,.int .i64 O,.int .i64 X,.int .i64 Y,.int .i64 Z,.int .i64 δ,.int .i64 γ,.int .i64 θ,.int .i64 η,.int .i64 ζ],.agg #[.int .i64 ι,.int .i64 ε,.int .i64 κ,.int .i64 ν,.int .i64 B,.int .i64 τ,.int .i64 χ,.int .i64 ψ,.bool ω,.bool a1]] rfl qM ?_;(with_reducible refine(group_lift.calls k J O X Y Z δ γ θ η ζ ι ε κ ν B τ χ ψ ω a1 true _ A5.out).mono ?_);rintro e kk ⟨rfl,hb⟩;refine⟨_,rfl, ?_⟩;replace ρ:=sBk ρ hb;replace σ:=sBk σ hb;replace a5:=sBk a5 hb;replace ab:=sBk ab hb;replace HB:=sHb hb;(try clear hb);(try clear a6);(try clear hk);(try clear hi);obtain⟨fb,fc,mw,my,mz,n1,n2,n3,na,nb,fe,ff,nc,nd,nf,ng,nh,ni,nj,nm⟩:=Zl ρ.out;have h7:=ba.out;have h8:=be.out;obtain⟨ip,nn,no,ix,np,nq⟩:=qD3 a5.out)|(go_at_call 29;(with_reducible refine(collect_Check.calls k J 0 0 false false (fun k_=>k_<w.heap.size) _ _ φ (fun k_=>k_<w.heap.size) _ _ a0 (fun k_=>k_<w.heap.size) _ _ a7 ar _ ?side1 ?side2 ?side3 A7.out).mono ?_);(case side1=>exact Kd.G5 cr.out (Kd.Xs (Kd.C_F (Kd.X1 .i64) cq.out) HB.out));(case side2=>exact Kd.G5 d8.out (Kd.Xs (Kd.C_F (Kd.X1 .i64) cx.out) HB.out));(case side3=>exact Kd.G5 d4.out (Kd.Xs (Kd.C_F (Kd.X1 .i64) cv.out) HB.out));rintro e qj ⟨rfl,hb⟩;have μ :=Aside0.mk (Qy (g:=bl) (o:=.cells #[.int .i64 J,.int .i64 O,.int .i64 X,.int .i64 Y,.int .i64 Z,.int .i64 δ,.int .i64 γ,.int .i64 θ,.int .i64 η,.int .i64 ζ] 25 (0,0)) ρ.out hb);have ξ :=Aside0.mk (Qy (g:=bs) (o:=.cells #[.int .i64 ι,.int .i64 ε,.int .i64 κ,.int .i64 ν,.int .i64 B,.int .i64 τ,.int .i64 χ,.int .i64 ψ,.bool ω,.bool a1] 31 (0,0)) σ.out hb);have a3:=Aside0.mk (Qy (g:=cf) (o:=.cells #[.slice ac φ.length ae,.slice af a0.length ag,.slice ah a7.length ai] 34 (0,0)) a5.out hb);have a4:=Aside0.mk (Qy (g:=ci) (o:=.cells #[.int .i64 a8,.int .i64 a9,.int .i64 aa] 36 (0,0)) ab.out hb);have al:=Aside0.mk (Q0 HB.out hb);clear ρ;clear σ;clear a5;clear ab;clear HB;have ρ:= μ;have σ:= ξ;have a5:=a3;have ab:=a4;have HB:=al;clear μ ξ a3 a4 al;(try clear hb);(try clear a6);(try clear hk);(try clear hi);obtain⟨cy,cz,iy,nr,ns,nt,nu,nv,nw,nx,d6,dd,iz,ny,nz,o0,o1,o2,o3,o4⟩:=Zl ρ.out;obtain⟨kv,kw,kx,ky,kz,l2⟩:=qD3 ab.out)|(go_at_call 30;(with_reducible refine(group_hall.calls k J 8 a8 a9 aa false _ A9.out).mono ?_);rintro e qf ⟨rfl,hb⟩;have μ :=Aside0.mk (Qy (g:=bl) (o:=.cells #[.int .i64 J,.int .i64 O,.int .i64 X,.int .i64 Y,.int .i64 Z,.int .i64 δ,.int .i64 γ,.int .i64 θ,.int .i64 η,.int .i64 ζ] 25 (0,0)) ρ.out hb);have ξ :=Aside0.mk (Qy (g:=bs) (o:=.cells #[.int .i64 ι,.int .i64 ε,.int .i64 κ,.int .i64 ν,.int .i64 B,.int .i64 τ,.int .i64 χ,.int .i64 ψ,.bool ω,.bool a1] 31 (0,0)) σ.out hb);have a3:=Aside0.mk (Qy (g:=cf) (o:=.cells #[.slice ac φ.length ae,.slice af a0.length ag,.slice ah a7.length ai] 34 (0,0)) a5.out hb);have a4:=Aside0.mk (Qy (g:=ci) (o:=.cells #[.int .i64 a8,.int .i64 a9,.int .i64 aa] 36 (0,0)) ab.out hb);have al:=Aside0.mk (Q0 HB.out hb);clear ρ;clear σ;clear a5;clear ab;clear HB;have ρ:= μ;have σ:= ξ;have a5:=a3;have ab:=a4;have HB:=al;clear μ ξ a3 a4 al;(try clear hb);(try clear a6);(try clear hk);(try clear hi)))
    go_ret2
    exact⟨rfl,HB.out⟩
  ·rw[if_neg c8] at H
   have c8b0:(ar==0)=false:=beq_eq_false_iff_ne.mpr c8
   have c8b1:(ar != 0)=true:=bne_iff_ne.mpr c8
   simp only[Option.some.injEq,Prod.mk.injEq] at H
   obtain⟨rfl,rfl⟩:=H
   go_enter Try.func10,Try.ntmps10
   go_wp2_with (first|((with_reducible refine Qf (N:=4) rfl ?_);refine qE 4 #[.int .i64 J,.int .i64 O,.int .i64 X,.int .i64 Y,.int .i64 Z,.int .i64 δ,.int .i64 γ,.int .i64 θ,.int .i64 η,.int .i64 ζ] 25 ?_;intro bl hg qg hbox hb;have ρ:=Aside0.mk hbox;have dq:=sGe hg;have br:=sGe hg;replace HB:=sHb hb;clear hb hbox hg)|((with_reducible refine Qf (N:=5) rfl ?_);refine qE 5 #[.int .i64 ι,.int .i64 ε,.int .i64 κ,.int .i64 ν,.int .i64 B,.int .i64 τ,.int .i64 χ,.int .i64 ψ,.bool ω,.bool a1] 31 ?_;intro bs hg d7 hbox hb;have σ:=Aside0.mk hbox;have ei:=sGe hg;have bu:=sGe hg;have au:=sNl ρ hg;have av:=sNg ρ hg;replace ρ:=sBk ρ hb;replace HB:=sHb hb;clear hb hbox hg)|((with_reducible refine Qf (N:=6) rfl ?_);refine qE 6 #[.slice ac φ.length ae,.slice af a0.length ag,.slice ah a7.length ai] 34 ?_;intro cf hg qh hbox hb;have a5:=Aside0.mk hbox;have fa:=sGe hg;have cg:=sGe hg;have aw:=sNl ρ hg;have ax:=sNg ρ hg;have ay:=sNl σ hg;have az:=sNg σ hg;replace ρ:=sBk ρ hb;replace σ:=sBk σ hb;replace HB:=sHb hb;clear hb hbox hg)|((with_reducible refine Qf (N:=7) rfl ?_);refine qE 7 #[.int .i64 a8,.int .i64 a9,.int .i64 aa] 36 ?_;intro ci hg qk hbox hb;have ab:=Aside0.mk hbox;have fp:=sGe hg;have cj:=sGe hg;have b0:=sNl ρ hg;have b1:=sNg ρ hg;have b2:=sNl σ hg;have b3:=sNg σ hg;have ba:=sNl a5 hg;have be:=sNg a5 hg;replace ρ:=sBk ρ hb;replace σ:=sBk σ hb;replace a5:=sBk a5 hb;replace HB:=sHb hb;clear hb hbox hg;have jg:=au.out;have jh:=av.out;have h5:=aw.out;have h6:=ax.out;have jy:=b0.out;have jz:=b1.out;obtain⟨ik,il,o5,o6,o7,o8,o9,oa,ob,oc,im,io,od,oe,oh,oi,oj,ol,om,oo⟩:=Zl ρ.out;have nk:=ay.out;have nl:=az.out;have ji:=b2.out;have jj:=b3.out;obtain⟨ln,lp,lq,lr,ls,lu,lv,oq,ot,ou,lw,lx,ly,lz,m0,m1,m2,ov,ow,ox⟩:=Zl σ.out)|((with_reducible refine Qp (f:=28) rfl ?_);refine Q4 (some 12) rfl rfl Try.func28 kr rfl #[.agg #[.int .i64 J,.int .i64 O,.int .i64 X,.int .i64 Y,.int .i64 Z,.int .i64 δ,.int .i64 γ,.int .i64 θ,.int .i64 η,.int .i64 ζ],.agg #[.int .i64 ι,.int .i64 ε,.int .i64 κ,.int .i64 ν,.int .i64 B,.int .i64 τ,.int .i64 χ,.int .i64 ψ,.bool ω,.bool a1]] rfl qM ?_;(with_reducible refine(group_lift.calls k J O X Y Z δ γ θ η ζ ι ε κ ν B τ χ ψ ω a1 true _ A5.out).mono ?_);rintro e qx ⟨rfl,hb⟩;refine⟨_,rfl, ?_⟩;replace ρ:=sBk ρ hb;replace σ:=sBk σ hb;replace a5:=sBk a5 hb;replace ab:=sBk ab hb;replace HB:=sHb hb;(try clear hb);(try clear a6);(try clear hk);(try clear hi);obtain⟨m3,m4,m5,m6,m7,m8,m9,oy,oz,p0,mc,me,mf,mg,mh,mi,n0,p1,p5,p6⟩:=Zl ρ.out;have l9:=ba.out;have lf:=be.out;obtain⟨p7,p8,p9,pa,pb,pc⟩:=qD3 a5.out)|(go_at_call 29;(with_reducible refine(collect_Check.calls k J 0 0 false false (fun k_=>k_<w.heap.size) _ _ φ (fun k_=>k_<w.heap.size) _ _ a0 (fun k_=>k_<w.heap.size) _ _ a7 ar _ ?side1 ?side2 ?side3 A7.out).mono ?_);(case side1=>exact Kd.G5 cr.out (Kd.Xs (Kd.C_F (Kd.X1 .i64) cq.out) HB.out));(case side2=>exact Kd.G5 d8.out (Kd.Xs (Kd.C_F (Kd.X1 .i64) cx.out) HB.out));(case side3=>exact Kd.G5 d4.out (Kd.Xs (Kd.C_F (Kd.X1 .i64) cv.out) HB.out));rintro e ql ⟨rfl,hb⟩;have μ :=Aside0.mk (Qy (g:=bl) (o:=.cells #[.int .i64 J,.int .i64 O,.int .i64 X,.int .i64 Y,.int .i64 Z,.int .i64 δ,.int .i64 γ,.int .i64 θ,.int .i64 η,.int .i64 ζ] 25 (0,0)) ρ.out hb);have ξ :=Aside0.mk (Qy (g:=bs) (o:=.cells #[.int .i64 ι,.int .i64 ε,.int .i64 κ,.int .i64 ν,.int .i64 B,.int .i64 τ,.int .i64 χ,.int .i64 ψ,.bool ω,.bool a1] 31 (0,0)) σ.out hb);have a3:=Aside0.mk (Qy (g:=cf) (o:=.cells #[.slice ac φ.length ae,.slice af a0.length ag,.slice ah a7.length ai] 34 (0,0)) a5.out hb);have a4:=Aside0.mk (Qy (g:=ci) (o:=.cells #[.int .i64 a8,.int .i64 a9,.int .i64 aa] 36 (0,0)) ab.out hb);have al:=Aside0.mk (Q0 HB.out hb);clear ρ;clear σ;clear a5;clear ab;clear HB;have ρ:= μ;have σ:= ξ;have a5:=a3;have ab:=a4;have HB:=al;clear μ ξ a3 a4 al;(try clear hb);(try clear a6);(try clear hk);(try clear hi)))
   go_ret2
   exact⟨rfl,HB.out⟩
 ·replace c6:=Bool.eq_false_iff.mpr c6
  subst c6
  have H1:(some (0,210))=some (r1,r2):=by rw[if_neg (show ¬ (false=true) by decide)] at H;exact H
  clear H
  have H:=H1
  clear H1
  simp only[Option.some.injEq,Prod.mk.injEq] at H
  obtain⟨rfl,rfl⟩:=H
  go_enter Try.func10,Try.ntmps10
  go_wp2_with (first|((with_reducible refine Qf (N:=4) rfl ?_);refine qE 4 #[.int .i64 J,.int .i64 O,.int .i64 X,.int .i64 Y,.int .i64 Z,.int .i64 δ,.int .i64 γ,.int .i64 θ,.int .i64 η,.int .i64 ζ] 25 ?_;intro bl hg qm hbox hb;have ρ:=Aside0.mk hbox;have dq:=sGe hg;have br:=sGe hg;replace HB:=sHb hb;clear hb hbox hg)|((with_reducible refine Qf (N:=5) rfl ?_);refine qE 5 #[.int .i64 ι,.int .i64 ε,.int .i64 κ,.int .i64 ν,.int .i64 B,.int .i64 τ,.int .i64 χ,.int .i64 ψ,.bool ω,.bool a1] 31 ?_;intro bs hg qn hbox hb;have σ:=Aside0.mk hbox;have ei:=sGe hg;have bu:=sGe hg;have au:=sNl ρ hg;have av:=sNg ρ hg;replace ρ:=sBk ρ hb;replace HB:=sHb hb;clear hb hbox hg)|((with_reducible refine Qf (N:=6) rfl ?_);refine qE 6 #[.slice ac φ.length ae,.slice af a0.length ag,.slice ah a7.length ai] 34 ?_;intro cf hg qi hbox hb;have a5:=Aside0.mk hbox;have fa:=sGe hg;have cg:=sGe hg;have aw:=sNl ρ hg;have ax:=sNg ρ hg;have ay:=sNl σ hg;have az:=sNg σ hg;replace ρ:=sBk ρ hb;replace σ:=sBk σ hb;replace HB:=sHb hb;clear hb hbox hg)|((with_reducible refine Qf (N:=7) rfl ?_);refine qE 7 #[.int .i64 a8,.int .i64 a9,.int .i64 aa] 36 ?_;intro ci hg qo hbox hb;have ab:=Aside0.mk hbox;have fp:=sGe hg;have cj:=sGe hg;have b0:=sNl ρ hg;have b1:=sNg ρ hg;have b2:=sNl σ hg;have b3:=sNg σ hg;have ba:=sNl a5 hg;have be:=sNg a5 hg;replace ρ:=sBk ρ hb;replace σ:=sBk σ hb;replace a5:=sBk a5 hb;replace HB:=sHb hb;clear hb hbox hg;have jn:=au.out;have jo:=av.out;have sg:=aw.out;have sh:=ax.out;have jp:=b0.out;have jq:=b1.out;obtain⟨j3,j7,jc,pd,pe,pf,pg,pi,pj,pk,jd,je,jf,pm,pn,po,pp,pq,pr,pt⟩:=Zl ρ.out;have lb:=ay.out;have lc:=az.out;have lg:=b2.out;have lh:=b3.out;obtain⟨pu,pv,pw,px,py,pz,q0,q1,q2,q3,q4,q5,q6,q7,q8,q9,qa,qb,qd,qe⟩:=Zl σ.out)|((with_reducible refine Qp (f:=28) rfl ?_);refine Q4 (some 12) rfl rfl Try.func28 kr rfl #[.agg #[.int .i64 J,.int .i64 O,.int .i64 X,.int .i64 Y,.int .i64 Z,.int .i64 δ,.int .i64 γ,.int .i64 θ,.int .i64 η,.int .i64 ζ],.agg #[.int .i64 ι,.int .i64 ε,.int .i64 κ,.int .i64 ν,.int .i64 B,.int .i64 τ,.int .i64 χ,.int .i64 ψ,.bool ω,.bool a1]] rfl qM ?_;(with_reducible refine(group_lift.calls k J O X Y Z δ γ θ η ζ ι ε κ ν B τ χ ψ ω a1 false _ A5.out).mono ?_);rintro e qp ⟨rfl,hb⟩;refine⟨_,rfl, ?_⟩;replace ρ:=sBk ρ hb;replace σ:=sBk σ hb;replace a5:=sBk a5 hb;replace ab:=sBk ab hb;replace HB:=sHb hb;(try clear hb);(try clear a6);(try clear hk);(try clear hi)))
  go_ret2
  exact⟨rfl,HB.out⟩
mutual
def group_Check.j0:Nat→List (S31)→Bool→Int→Int→Int→Int→Int→Int→Int→Int→Int→Int→List (S36)→List (S86)→Option (Int)
 |0,_,_,_,_,_,_,_,_,_,_,_,_,_,_=>none
 |k+1,J,τ,X,Y,Z,γ,δ,ε,ζ,η,θ,ι,κ,μ =>if τ = true then (some 210) else (group_Check.l0 k J J (J.length:Int) 0 X Y Z γ δ ε ζ η θ ι κ μ)
def group_Check.l0:Nat→List (S31)→List (S31)→Int→Int→Int→Int→Int→Int→Int→Int→Int→Int→Int→Int→List (S36)→List (S86)→Option (Int)
 |0,_,_,_,_,_,_,_,_,_,_,_,_,_,_,_,_=>none
 |k+1,J,B,ξ,O,X,Y,Z,γ,δ,ε,ζ,η,θ,ι,κ,μ =>if O < ξ then (if 0≤O then (if O<(B.length:Int) then ((group_lift.f k X Y Z γ δ ε ζ η θ ι ((Qd B O).f0.f0) ((Qd B O).f0.f1) ((Qd B O).f0.f2) ((Qd B O).f0.f3) ((Qd B O).f0.f4.f0) ((Qd B O).f0.f4.f1) ((Qd B O).f0.f4.f2) ((Qd B O).f1) ((Qd B O).f2) ((Qd B O).f3)).bind fun bh=>(if bh=true then (group_Check.l0 k J B ξ (wrap64 (O+1)) X Y Z γ δ ε ζ η θ ι κ μ) else (some 210))) else (none)) else (none)) else ((group_house.f X Y Z γ δ ε ζ η θ ι J).bind fun ν =>((call_Check.f k ν.1 ν.2 κ μ).bind fun ab=>(some ab)))
end
def group_Check.f (k:Nat) (J:Int) (O:Int) (X:Int) (Y:Int) (Z:Int) (δ :Int) (γ:Int) (θ :Int) (η :Int) (ζ :Int) (l1:List (S31)) (φ :List (S36)) (a0:List (S86)):Option (Int):=if (l1.length:Int)<1 then (group_Check.j0 k l1 true J O X Y Z δ γ θ η ζ φ a0) else (group_Check.j0 k l1 (decide ((l1.length:Int)>8)) J O X Y Z δ γ θ η ζ φ a0)
theorem group_Check.Zo:∀ k,(∀ O X Y J Z y5 y6 y7 y8 y9 γ δ ζ η,LeO (group_Check.j0 k O X Y J Z y5 y6 y7 y8 y9 γ δ ζ η) (group_Check.j0 (k+1) O X Y J Z y5 y6 y7 y8 y9 γ δ ζ η))∧(∀ O X Y J Z y5 y6 y7 y8 y9 γ δ ζ η θ ι,LeO (group_Check.l0 k O X Y J Z y5 y6 y7 y8 y9 γ δ ζ η θ ι) (group_Check.l0 (k+1) O X Y J Z y5 y6 y7 y8 y9 γ δ ζ η θ ι))
 |0=>⟨fun _ _ _ _ _ _ _ _ _ _ _ _ _ _ r h=>by simp[group_Check.j0] at h,fun _ _ _ _ _ _ _ _ _ _ _ _ _ _ _ _ r h=>by simp[group_Check.l0] at h⟩
 |k+1=>by
  obtain⟨B,ε⟩:=group_Check.Zo k
  refine⟨?_, ?_⟩
  ·intro O X Y J Z y5 y6 y7 y8 y9 γ δ ζ η
   unfold group_Check.j0
   repeat' first
   |(with_reducible exact B _ _ _ _ _ _ _ _ _ _ _ _ _ _)
   |(with_reducible exact ε _ _ _ _ _ _ _ _ _ _ _ _ _ _ _ _)
   |(with_reducible exact call_Check.mono _ _ _ _ _)
   |(with_reducible exact group_lift.mono _ _ _ _ _ _ _ _ _ _ _ _ _ _ _ _ _ _ _ _ _)
   |(with_reducible exact LeO.refl _)
   |(with_reducible exact LeO.none _)
   |(with_reducible refine LeO.ite ?_ ?_)
   |(with_reducible refine LeO.bind ?_ (fun _=>?_))
   |exact B _ _ _ _ _ _ _ _ _ _ _ _ _ _
   |exact ε _ _ _ _ _ _ _ _ _ _ _ _ _ _ _ _
   |exact call_Check.mono _ _ _ _ _
   |exact group_lift.mono _ _ _ _ _ _ _ _ _ _ _ _ _ _ _ _ _ _ _ _ _
   |exact LeO.none _
   |refine LeO.ite ?_ ?_
   |refine LeO.bind ?_ (fun _=>?_)
  ·intro O X Y J Z y5 y6 y7 y8 y9 γ δ ζ η θ ι
   unfold group_Check.l0
   repeat' first
   |(with_reducible exact B _ _ _ _ _ _ _ _ _ _ _ _ _ _)
   |(with_reducible exact ε _ _ _ _ _ _ _ _ _ _ _ _ _ _ _ _)
   |(with_reducible exact call_Check.mono _ _ _ _ _)
   |(with_reducible exact group_lift.mono _ _ _ _ _ _ _ _ _ _ _ _ _ _ _ _ _ _ _ _ _)
   |(with_reducible exact LeO.refl _)
   |(with_reducible exact LeO.none _)
   |(with_reducible refine LeO.ite ?_ ?_)
   |(with_reducible refine LeO.bind ?_ (fun _=>?_))
   |exact B _ _ _ _ _ _ _ _ _ _ _ _ _ _
   |exact ε _ _ _ _ _ _ _ _ _ _ _ _ _ _ _ _
   |exact call_Check.mono _ _ _ _ _
   |exact group_lift.mono _ _ _ _ _ _ _ _ _ _ _ _ _ _ _ _ _ _ _ _ _
   |exact LeO.none _
   |refine LeO.ite ?_ ?_
   |refine LeO.bind ?_ (fun _=>?_)
theorem group_Check.mono:∀ J Y a2 a3 O a5 X a7 a8 a9 Z γ δ k,LeO (group_Check.f k J Y a2 a3 O a5 X a7 a8 a9 Z γ δ) (group_Check.f (k+1) J Y a2 a3 O a5 X a7 a8 a9 Z γ δ):=by
 intro J Y a2 a3 O a5 X a7 a8 a9 Z γ δ k
 obtain⟨B,ε⟩:=group_Check.Zo k
 unfold group_Check.f
 repeat' first
   |(with_reducible exact B _ _ _ _ _ _ _ _ _ _ _ _ _ _)
   |(with_reducible exact ε _ _ _ _ _ _ _ _ _ _ _ _ _ _ _ _)
   |(with_reducible exact call_Check.mono _ _ _ _ _)
   |(with_reducible exact group_lift.mono _ _ _ _ _ _ _ _ _ _ _ _ _ _ _ _ _ _ _ _ _)
   |(with_reducible exact LeO.refl _)
   |(with_reducible exact LeO.none _)
   |(with_reducible refine LeO.ite ?_ ?_)
   |(with_reducible refine LeO.bind ?_ (fun _=>?_))
   |exact B _ _ _ _ _ _ _ _ _ _ _ _ _ _
   |exact ε _ _ _ _ _ _ _ _ _ _ _ _ _ _ _ _
   |exact call_Check.mono _ _ _ _ _
   |exact group_lift.mono _ _ _ _ _ _ _ _ _ _ _ _ _ _ _ _ _ _ _ _ _
   |exact LeO.none _
   |refine LeO.ite ?_ ?_
   |refine LeO.bind ?_ (fun _=>?_)
set_option maxHeartbeats 8000000 in
set_option maxRecDepth 100000 in
theorem group_Check.calls (k:Nat) (J:Int) (O:Int) (X:Int) (Y:Int) (Z:Int) (δ :Int) (γ:Int) (θ :Int) (η :Int) (ζ :Int) (A1:Option Addr) (c1:Nat) (l1:List (S31)) (ac:Option Addr) (ae:Nat) (φ :List (S36)) (af:Option Addr) (ag:Nat) (a0:List (S86)) (r:Int) (w:World) (cv:Kd.C k31 w A1 l1.length l1) (ct:l1.length≤c1) (bg:Kd.C k36 w ac φ.length φ) (bi: φ.length≤ae) (bj:Kd.C k86 w af a0.length a0) (bk:a0.length≤ag) (h:group_Check.f k J O X Y Z δ γ θ η ζ l1 φ a0=some r):
  Calls Try.prog 17 #[.agg #[.int .i64 J,.int .i64 O,.int .i64 X,.int .i64 Y,.int .i64 Z,.int .i64 δ,.int .i64 γ,.int .i64 θ,.int .i64 η,.int .i64 ζ],.slice A1 l1.length c1,.agg #[.slice ac φ.length ae,.slice af a0.length ag]] w fun e w'=>e = .returned (.int .i64 r)∧Below w.heap.size w w':=by
 have ew:=Try.underlying25
 have ey:=Try.underlying50
 have fo:=Try.underlying31
 have cu:=Aside0.mk cv
 have d4:=Aside0.mk ct
 clear cv ct
 have cq:=Aside0.mk bg
 have cr:=Aside0.mk bi
 clear bg bi
 have cx:=Aside0.mk bj
 have d8:=Aside0.mk bk
 clear bj bk
 have HB:=Aside0.mk (Below.refl w.heap.size w)
 have H:(if (l1.length:Int)<1 then (group_Check.j0 k l1 true J O X Y Z δ γ θ η ζ φ a0) else (group_Check.j0 k l1 (decide ((l1.length:Int)>8)) J O X Y Z δ γ θ η ζ φ a0))=some r:=h
 clear h
 have bw:=Aside0.mk H
 clear H
 go_enter Try.func17,Try.ntmps17
 go_upto_region 1 with(first|((with_reducible refine Qf (N:=3) rfl ?_);(try(refine Zr (by rfl) ?_;dsimp only));refine qE 3 #[.int .i64 J,.int .i64 O,.int .i64 X,.int .i64 Y,.int .i64 Z,.int .i64 δ,.int .i64 γ,.int .i64 θ,.int .i64 η,.int .i64 ζ] 25 ?_;intro κ hg w5 hbox hb;have ε :=Aside0.mk hbox;have d7:=sGe hg;have d9:=sGe hg;replace HB:=sHb hb;clear hb hbox hg)|((with_reducible refine Qf (N:=5) rfl ?_);(try(refine Zr (by rfl) ?_;dsimp only));refine qE 5 #[.slice ac φ.length ae,.slice af a0.length ag] 50 ?_;intro b3 hg w6 hbox hb;have ι :=Aside0.mk hbox;have da:=sGe hg;have db:=sGe hg;have au:=sNl ε hg;have ax:=sNg ε hg;replace ε :=sBk ε hb;replace HB:=sHb hb;clear hb hbox hg))
 (try simp only[Act.put,qS])
 go_cut [16] (fun d6 wc=>∃ (kq:Nat) (bf:Bool),d6 = .bool bf∧Aside0 (group_Check.j0 kq l1 bf J O X Y Z δ γ θ η ζ φ a0=some r)∧Aside0 (kq≤k)∧Aside0 (wc.heap[κ]?=some (.cells #[.int .i64 J,.int .i64 O,.int .i64 X,.int .i64 Y,.int .i64 Z,.int .i64 δ,.int .i64 γ,.int .i64 θ,.int .i64 η,.int .i64 ζ] 25 (0,0)))∧Aside0 (wc.heap[b3]?=some (.cells #[(.slice ac φ.length ae),(.slice af a0.length ag)] 50 (0,0)))∧Aside0 (Below w.heap.size w wc))
 case first=>
  have H:=bw.out
  clear bw
  by_cases c7:(l1.length:Int)<1
  ·rw[if_pos c7] at H
   have c7b0:decide ((l1.length:Int)<1)=true:=decide_eq_true c7
   have c7b1:decide (l1.length<1)=true:=decide_eq_true (by omega)
   clear c7
   (first|rw[c7b0]|(simp only[Xe,Xh];rw[c7b0])|skip)
   have H':=Aside0.mk H
   clear H
   go_wp2
   go_meet
   case rel=>exact⟨_,(true),rfl,H',⟨by first|omega|exact Nat.le_refl _⟩,ε,ι,HB⟩
  ·rw[if_neg c7] at H
   have c7b0:decide ((l1.length:Int)<1)=false:=decide_eq_false c7
   have c7b1:decide (l1.length<1)=false:=decide_eq_false (by omega)
   clear c7
   (first|rw[c7b0]|(simp only[Xe,Xh];rw[c7b0])|skip)
   have H':=Aside0.mk H
   clear H
   go_wp2
   go_meet
   case rel=>exact⟨_,(decide ((l1.length:Int)>8)),rfl,H',⟨by first|omega|exact Nat.le_refl _⟩,ε,ι,HB⟩
 case rest=>
  clear bw
  try clear c1
  try clear c2
  try clear p2
  try clear c7
  try clear c7b0
  try clear c7b1
  obtain⟨kq,bf,rfl,HA,cd,ε,ι,HB⟩:=hcut
  cases kq with
  |zero=>exact absurd HA.out (by simp[group_Check.j0])
  |succ cz=>
   have H:=HA.out
   clear HA
   simp only[group_Check.j0] at H
   by_cases c8:bf=true
   ·subst c8
    have H1:(some 210)=some r:=by rw[if_pos rfl] at H;exact H
    clear H
    have H:=H1
    clear H1
    obtain rfl:=Option.some.inj H
    go_wp2
    go_ret
    exact⟨rfl,HB.out⟩
   ·replace c8:=Bool.eq_false_iff.mpr c8
    subst c8
    have H1:(group_Check.l0 cz l1 l1 (l1.length:Int) 0 J O X Y Z δ γ θ η ζ φ a0)=some r:=by rw[if_neg (show ¬ (false=true) by decide)] at H;exact H
    clear H
    have H:=H1
    clear H1
    have H':=Aside0.mk H
    clear H
    go_wp2
    go_loopg [19] cz (fun kq ch w'=>∃ (B:Int),ch = .int .i64 B∧Aside0 (group_Check.l0 kq l1 l1 (l1.length:Int) B J O X Y Z δ γ θ η ζ φ a0=some r)∧Aside0 (kq≤cz)∧Aside0 (w'.heap[κ]?=some (.cells #[.int .i64 J,.int .i64 O,.int .i64 X,.int .i64 Y,.int .i64 Z,.int .i64 δ,.int .i64 γ,.int .i64 θ,.int .i64 η,.int .i64 ζ] 25 (0,0)))∧Aside0 (w'.heap[b3]?=some (.cells #[(.slice ac φ.length ae),(.slice af a0.length ag)] 50 (0,0)))∧Aside0 (Below w.heap.size w w'))
    case atStart=>exact⟨(0),rfl,H',⟨Nat.le_refl _⟩,ε,ι,HB⟩
    case round=>
     clear H'
     try clear c1
     try clear c2
     try clear p2
     try clear c7
     try clear c7b0
     try clear c7b1
     try clear c8
     try clear p2
     obtain⟨B,rfl,HA,dq,ε,ι,HB⟩:=hrel
     cases gk with
     |zero=>exact absurd HA.out (by simp[group_Check.l0])
     |succ k2=>
      have H:=HA.out
      clear HA
      simp only[group_Check.l0] at H
      by_cases c9:B<(l1.length:Int)
      ·rw[if_pos c9] at H
       have c9b0:decide (B<(l1.length:Int))=true:=decide_eq_true c9
       clear c9
       by_cases c10:0≤B
       ·rw[if_pos c10] at H
        have c10b0:decide (0≤B)=true:=decide_eq_true c10
        clear c10
        by_cases ah:B<(l1.length:Int)
        ·rw[if_pos ah] at H
         have c11b0:decide (B<(l1.length:Int))=true:=decide_eq_true ah
         clear ah
         replace H:=Option.bind_eq_some_iff.mp H
         obtain⟨bh,ai,H⟩:=H
         replace H:(if bh=true then (group_Check.l0 k2 l1 l1 (l1.length:Int) (wrap64 (B+1)) J O X Y Z δ γ θ η ζ φ a0) else (some 210))=some r:=H
         have aw:=Aside0.mk ai
         clear ai
         by_cases be:bh=true
         ·subst be
          have H1:(group_Check.l0 k2 l1 l1 (l1.length:Int) (wrap64 (B+1)) J O X Y Z δ γ θ η ζ φ a0)=some r:=by rw[if_pos rfl] at H;exact H
          clear H
          have H:=H1
          clear H1
          have H':=Aside0.mk H
          clear H
          have a9:0≤(B:Int):=of_decide_eq_true (by assumption)
          have aa:B<(l1.length:Int):=of_decide_eq_true (by assumption)
          obtain⟨bv,bu,μ,ν,ξ,ρ,σ,τ,χ,ψ,ω,a1⟩:=G3 cu.out B a9 aa
          cases bu
          replace μ :=(HB.out.cell (World.block_lt_of_cell? w _ μ)).trans μ
          replace ν :=(HB.out.cell (World.block_lt_of_cell? w _ ν)).trans ν
          replace ξ :=(HB.out.cell (World.block_lt_of_cell? w _ ξ)).trans ξ
          replace ρ:=(HB.out.cell (World.block_lt_of_cell? w _ ρ)).trans ρ
          replace σ:=(HB.out.cell (World.block_lt_of_cell? w _ σ)).trans σ
          replace τ :=(HB.out.cell (World.block_lt_of_cell? w _ τ)).trans τ
          replace χ :=(HB.out.cell (World.block_lt_of_cell? w _ χ)).trans χ
          replace ψ :=(HB.out.cell (World.block_lt_of_cell? w _ ψ)).trans ψ
          replace ω :=(HB.out.cell (World.block_lt_of_cell? w _ ω)).trans ω
          replace a1:=(HB.out.cell (World.block_lt_of_cell? w _ a1)).trans a1
          replace a9:=eq_true a9
          replace aa:=eq_true aa
          go_wp2_with (first|((with_reducible refine Qf (N:=8) rfl ?_);(try(refine Zr (by rfl) ?_;dsimp only));refine qE 8 #[.int .i64 0,.int .i64 0,.int .i64 0,.int .i64 0,.int .i64 0,.int .i64 0,.int .i64 0,.int .i64 0,.bool false,.bool false] 31 ?_;intro bl hg ft hbox hb;have a3:=Aside0.mk hbox;have cf:=sGe hg;have cg:=sGe hg;have a4:=sNl ε hg;have a5:=sNg ε hg;have a7:=sNl ι hg;have a8:=sNg ι hg;replace ε :=sBk ε hb;replace ι :=sBk ι hb;replace HB:=sHb hb;clear hb hbox hg;have gn:=a5.out;have gp:=a4.out;have de:=a8.out;have fr:=a7.out;obtain⟨ay,az,bz,al,ar,av,b4,ba,ce,ci,b1,b2,ca,cj,en,fa,fb,fc,fe,ff⟩:=Zl a3.out;have d5:=au.out;have ev:=ax.out;obtain⟨aj,ak,ao,b5,b6,b7,b8,ck,co,e9,am,an,ap,b9,bb,bc,bd,et,eu,ez⟩:=Zl ε.out)|((with_reducible refine Qp (f:=28) rfl ?_);refine Q4 (some 25) rfl rfl Try.func28 kr rfl #[.agg #[.int .i64 J,.int .i64 O,.int .i64 X,.int .i64 Y,.int .i64 Z,.int .i64 δ,.int .i64 γ,.int .i64 θ,.int .i64 η,.int .i64 ζ],.agg #[.int .i64 ((Qd l1 B).f0.f0),.int .i64 ((Qd l1 B).f0.f1),.int .i64 ((Qd l1 B).f0.f2),.int .i64 ((Qd l1 B).f0.f3),.int .i64 ((Qd l1 B).f0.f4.f0),.int .i64 ((Qd l1 B).f0.f4.f1),.int .i64 ((Qd l1 B).f0.f4.f2),.int .i64 ((Qd l1 B).f1),.bool ((Qd l1 B).f2),.bool ((Qd l1 B).f3)]] rfl qM ?_;(with_reducible refine(group_lift.calls k2 J O X Y Z δ γ θ η ζ ((Qd l1 B).f0.f0) ((Qd l1 B).f0.f1) ((Qd l1 B).f0.f2) ((Qd l1 B).f0.f3) ((Qd l1 B).f0.f4.f0) ((Qd l1 B).f0.f4.f1) ((Qd l1 B).f0.f4.f2) ((Qd l1 B).f1) ((Qd l1 B).f2) ((Qd l1 B).f3) true _ aw.out).mono ?_);rintro e dl ⟨rfl,hb⟩;refine⟨_,rfl, ?_⟩;replace ε :=sBk ε hb;replace ι :=sBk ι hb;replace a3:=Aside0.mk (Qy (g:=bl) (o:=.cells #[.int .i64 ((Qd l1 B).f0.f0),.int .i64 ((Qd l1 B).f0.f1),.int .i64 ((Qd l1 B).f0.f2),.int .i64 ((Qd l1 B).f0.f3),.int .i64 ((Qd l1 B).f0.f4.f0),.int .i64 ((Qd l1 B).f0.f4.f1),.int .i64 ((Qd l1 B).f0.f4.f2),.int .i64 ((Qd l1 B).f1),.bool ((Qd l1 B).f2),.bool ((Qd l1 B).f3)] 31 (0,0)) (by refine Qq (cs:=#[.int .i64 ((Qd l1 B).f0.f0),.int .i64 ((Qd l1 B).f0.f1),.int .i64 ((Qd l1 B).f0.f2),.int .i64 ((Qd l1 B).f0.f3),.int .i64 ((Qd l1 B).f0.f4.f0),.int .i64 ((Qd l1 B).f0.f4.f1),.int .i64 ((Qd l1 B).f0.f4.f2),.int .i64 ((Qd l1 B).f1),.bool ((Qd l1 B).f2),.bool false]) ?_ 9 _ rfl;refine Qq (cs:=#[.int .i64 ((Qd l1 B).f0.f0),.int .i64 ((Qd l1 B).f0.f1),.int .i64 ((Qd l1 B).f0.f2),.int .i64 ((Qd l1 B).f0.f3),.int .i64 ((Qd l1 B).f0.f4.f0),.int .i64 ((Qd l1 B).f0.f4.f1),.int .i64 ((Qd l1 B).f0.f4.f2),.int .i64 ((Qd l1 B).f1),.bool false,.bool false]) ?_ 8 _ rfl;refine Qq (cs:=#[.int .i64 ((Qd l1 B).f0.f0),.int .i64 ((Qd l1 B).f0.f1),.int .i64 ((Qd l1 B).f0.f2),.int .i64 ((Qd l1 B).f0.f3),.int .i64 ((Qd l1 B).f0.f4.f0),.int .i64 ((Qd l1 B).f0.f4.f1),.int .i64 ((Qd l1 B).f0.f4.f2),.int .i64 0,.bool false,.bool false]) ?_ 7 _ rfl;refine Qq (cs:=#[.int .i64 ((Qd l1 B).f0.f0),.int .i64 ((Qd l1 B).f0.f1),.int .i64 ((Qd l1 B).f0.f2),.int .i64 ((Qd l1 B).f0.f3),.int .i64 ((Qd l1 B).f0.f4.f0),.int .i64 ((Qd l1 B).f0.f4.f1),.int .i64 0,.int .i64 0,.bool false,.bool false]) ?_ 6 _ rfl;refine Qq (cs:=#[.int .i64 ((Qd l1 B).f0.f0),.int .i64 ((Qd l1 B).f0.f1),.int .i64 ((Qd l1 B).f0.f2),.int .i64 ((Qd l1 B).f0.f3),.int .i64 ((Qd l1 B).f0.f4.f0),.int .i64 0,.int .i64 0,.int .i64 0,.bool false,.bool false]) ?_ 5 _ rfl;refine Qq (cs:=#[.int .i64 ((Qd l1 B).f0.f0),.int .i64 ((Qd l1 B).f0.f1),.int .i64 ((Qd l1 B).f0.f2),.int .i64 ((Qd l1 B).f0.f3),.int .i64 0,.int .i64 0,.int .i64 0,.int .i64 0,.bool false,.bool false]) ?_ 4 _ rfl;refine Qq (cs:=#[.int .i64 ((Qd l1 B).f0.f0),.int .i64 ((Qd l1 B).f0.f1),.int .i64 ((Qd l1 B).f0.f2),.int .i64 0,.int .i64 0,.int .i64 0,.int .i64 0,.int .i64 0,.bool false,.bool false]) ?_ 3 _ rfl;refine Qq (cs:=#[.int .i64 ((Qd l1 B).f0.f0),.int .i64 ((Qd l1 B).f0.f1),.int .i64 0,.int .i64 0,.int .i64 0,.int .i64 0,.int .i64 0,.int .i64 0,.bool false,.bool false]) ?_ 2 _ rfl;refine Qq (cs:=#[.int .i64 ((Qd l1 B).f0.f0),.int .i64 0,.int .i64 0,.int .i64 0,.int .i64 0,.int .i64 0,.int .i64 0,.int .i64 0,.bool false,.bool false]) ?_ 1 _ rfl;refine Qq (cs:=#[.int .i64 0,.int .i64 0,.int .i64 0,.int .i64 0,.int .i64 0,.int .i64 0,.int .i64 0,.int .i64 0,.bool false,.bool false]) ?_ 0 _ rfl;exact a3.out) hb);replace HB:=sHb hb;(try clear hb);(try clear a6);(try clear hk);(try clear hi)))
          go_roundg k2
          case measure=>have:=cd.out;have:=dq.out;omega
          case rel=>exact⟨(wrap64 (B+1)),rfl,H',⟨by have:=cd.out;have:=dq.out;omega⟩,ε,ι,HB⟩
         ·replace be:=Bool.eq_false_iff.mpr be
          subst be
          have H1:(some 210)=some r:=by rw[if_neg (show ¬ (false=true) by decide)] at H;exact H
          clear H
          have H:=H1
          clear H1
          obtain rfl:=Option.some.inj H
          have a9:0≤(B:Int):=of_decide_eq_true (by assumption)
          have aa:B<(l1.length:Int):=of_decide_eq_true (by assumption)
          obtain⟨bv,bu,μ,ν,ξ,ρ,σ,τ,χ,ψ,ω,a1⟩:=G3 cu.out B a9 aa
          cases bu
          replace μ :=(HB.out.cell (World.block_lt_of_cell? w _ μ)).trans μ
          replace ν :=(HB.out.cell (World.block_lt_of_cell? w _ ν)).trans ν
          replace ξ :=(HB.out.cell (World.block_lt_of_cell? w _ ξ)).trans ξ
          replace ρ:=(HB.out.cell (World.block_lt_of_cell? w _ ρ)).trans ρ
          replace σ:=(HB.out.cell (World.block_lt_of_cell? w _ σ)).trans σ
          replace τ :=(HB.out.cell (World.block_lt_of_cell? w _ τ)).trans τ
          replace χ :=(HB.out.cell (World.block_lt_of_cell? w _ χ)).trans χ
          replace ψ :=(HB.out.cell (World.block_lt_of_cell? w _ ψ)).trans ψ
          replace ω :=(HB.out.cell (World.block_lt_of_cell? w _ ω)).trans ω
          replace a1:=(HB.out.cell (World.block_lt_of_cell? w _ a1)).trans a1
          replace a9:=eq_true a9
          replace aa:=eq_true aa
          go_wp2_with (first|((with_reducible refine Qf (N:=8) rfl ?_);(try(refine Zr (by rfl) ?_;dsimp only));refine qE 8 #[.int .i64 0,.int .i64 0,.int .i64 0,.int .i64 0,.int .i64 0,.int .i64 0,.int .i64 0,.int .i64 0,.bool false,.bool false] 31 ?_;intro bl hg bs hbox hb;have a3:=Aside0.mk hbox;have cf:=sGe hg;have cg:=sGe hg;have a4:=sNl ε hg;have a5:=sNg ε hg;have a7:=sNl ι hg;have a8:=sNg ι hg;replace ε :=sBk ε hb;replace ι :=sBk ι hb;replace HB:=sHb hb;clear hb hbox hg;have ei:=a5.out;have gf:=a4.out;have lb:=a8.out;have lc:=a7.out;obtain⟨bn,bo,cm,dr,dt,du,dv,dw,dx,dy,bp,bq,cn,dz,e0,e3,e4,e5,e6,e7⟩:=Zl a3.out;have fm:=au.out;have fn:=ax.out;obtain⟨cp,cw,ep,ga,gb,ge,gg,gh,cy,d0,ec,eo,er,gi,gj,gl,gm,gq,d1,d2⟩:=Zl ε.out)|((with_reducible refine Qp (f:=28) rfl ?_);refine Q4 (some 25) rfl rfl Try.func28 kr rfl #[.agg #[.int .i64 J,.int .i64 O,.int .i64 X,.int .i64 Y,.int .i64 Z,.int .i64 δ,.int .i64 γ,.int .i64 θ,.int .i64 η,.int .i64 ζ],.agg #[.int .i64 ((Qd l1 B).f0.f0),.int .i64 ((Qd l1 B).f0.f1),.int .i64 ((Qd l1 B).f0.f2),.int .i64 ((Qd l1 B).f0.f3),.int .i64 ((Qd l1 B).f0.f4.f0),.int .i64 ((Qd l1 B).f0.f4.f1),.int .i64 ((Qd l1 B).f0.f4.f2),.int .i64 ((Qd l1 B).f1),.bool ((Qd l1 B).f2),.bool ((Qd l1 B).f3)]] rfl qM ?_;(with_reducible refine(group_lift.calls k2 J O X Y Z δ γ θ η ζ ((Qd l1 B).f0.f0) ((Qd l1 B).f0.f1) ((Qd l1 B).f0.f2) ((Qd l1 B).f0.f3) ((Qd l1 B).f0.f4.f0) ((Qd l1 B).f0.f4.f1) ((Qd l1 B).f0.f4.f2) ((Qd l1 B).f1) ((Qd l1 B).f2) ((Qd l1 B).f3) false _ aw.out).mono ?_);rintro e df ⟨rfl,hb⟩;refine⟨_,rfl, ?_⟩;replace ε :=sBk ε hb;replace ι :=sBk ι hb;replace a3:=Aside0.mk (Qy (g:=bl) (o:=.cells #[.int .i64 ((Qd l1 B).f0.f0),.int .i64 ((Qd l1 B).f0.f1),.int .i64 ((Qd l1 B).f0.f2),.int .i64 ((Qd l1 B).f0.f3),.int .i64 ((Qd l1 B).f0.f4.f0),.int .i64 ((Qd l1 B).f0.f4.f1),.int .i64 ((Qd l1 B).f0.f4.f2),.int .i64 ((Qd l1 B).f1),.bool ((Qd l1 B).f2),.bool ((Qd l1 B).f3)] 31 (0,0)) (by refine Qq (cs:=#[.int .i64 ((Qd l1 B).f0.f0),.int .i64 ((Qd l1 B).f0.f1),.int .i64 ((Qd l1 B).f0.f2),.int .i64 ((Qd l1 B).f0.f3),.int .i64 ((Qd l1 B).f0.f4.f0),.int .i64 ((Qd l1 B).f0.f4.f1),.int .i64 ((Qd l1 B).f0.f4.f2),.int .i64 ((Qd l1 B).f1),.bool ((Qd l1 B).f2),.bool false]) ?_ 9 _ rfl;refine Qq (cs:=#[.int .i64 ((Qd l1 B).f0.f0),.int .i64 ((Qd l1 B).f0.f1),.int .i64 ((Qd l1 B).f0.f2),.int .i64 ((Qd l1 B).f0.f3),.int .i64 ((Qd l1 B).f0.f4.f0),.int .i64 ((Qd l1 B).f0.f4.f1),.int .i64 ((Qd l1 B).f0.f4.f2),.int .i64 ((Qd l1 B).f1),.bool false,.bool false]) ?_ 8 _ rfl;refine Qq (cs:=#[.int .i64 ((Qd l1 B).f0.f0),.int .i64 ((Qd l1 B).f0.f1),.int .i64 ((Qd l1 B).f0.f2),.int .i64 ((Qd l1 B).f0.f3),.int .i64 ((Qd l1 B).f0.f4.f0),.int .i64 ((Qd l1 B).f0.f4.f1),.int .i64 ((Qd l1 B).f0.f4.f2),.int .i64 0,.bool false,.bool false]) ?_ 7 _ rfl;refine Qq (cs:=#[.int .i64 ((Qd l1 B).f0.f0),.int .i64 ((Qd l1 B).f0.f1),.int .i64 ((Qd l1 B).f0.f2),.int .i64 ((Qd l1 B).f0.f3),.int .i64 ((Qd l1 B).f0.f4.f0),.int .i64 ((Qd l1 B).f0.f4.f1),.int .i64 0,.int .i64 0,.bool false,.bool false]) ?_ 6 _ rfl;refine Qq (cs:=#[.int .i64 ((Qd l1 B).f0.f0),.int .i64 ((Qd l1 B).f0.f1),.int .i64 ((Qd l1 B).f0.f2),.int .i64 ((Qd l1 B).f0.f3),.int .i64 ((Qd l1 B).f0.f4.f0),.int .i64 0,.int .i64 0,.int .i64 0,.bool false,.bool false]) ?_ 5 _ rfl;refine Qq (cs:=#[.int .i64 ((Qd l1 B).f0.f0),.int .i64 ((Qd l1 B).f0.f1),.int .i64 ((Qd l1 B).f0.f2),.int .i64 ((Qd l1 B).f0.f3),.int .i64 0,.int .i64 0,.int .i64 0,.int .i64 0,.bool false,.bool false]) ?_ 4 _ rfl;refine Qq (cs:=#[.int .i64 ((Qd l1 B).f0.f0),.int .i64 ((Qd l1 B).f0.f1),.int .i64 ((Qd l1 B).f0.f2),.int .i64 0,.int .i64 0,.int .i64 0,.int .i64 0,.int .i64 0,.bool false,.bool false]) ?_ 3 _ rfl;refine Qq (cs:=#[.int .i64 ((Qd l1 B).f0.f0),.int .i64 ((Qd l1 B).f0.f1),.int .i64 0,.int .i64 0,.int .i64 0,.int .i64 0,.int .i64 0,.int .i64 0,.bool false,.bool false]) ?_ 2 _ rfl;refine Qq (cs:=#[.int .i64 ((Qd l1 B).f0.f0),.int .i64 0,.int .i64 0,.int .i64 0,.int .i64 0,.int .i64 0,.int .i64 0,.int .i64 0,.bool false,.bool false]) ?_ 1 _ rfl;refine Qq (cs:=#[.int .i64 0,.int .i64 0,.int .i64 0,.int .i64 0,.int .i64 0,.int .i64 0,.int .i64 0,.int .i64 0,.bool false,.bool false]) ?_ 0 _ rfl;exact a3.out) hb);replace HB:=sHb hb;(try clear hb);(try clear a6);(try clear hk);(try clear hi)))
          go_ret
          exact⟨rfl,HB.out⟩
        ·rw[if_neg ah] at H
         exact absurd H (by simp)
       ·rw[if_neg c10] at H
        exact absurd H (by simp)
      ·rw[if_neg c9] at H
       have c9b0:decide (B<(l1.length:Int))=false:=decide_eq_false c9
       clear c9
       replace H:=Option.bind_eq_some_iff.mp H
       obtain⟨⟨bm,br⟩,b0,H⟩:=H
       replace H:((call_Check.f k2 bm br φ a0).bind fun ab=>(some ab))=some r:=H
       have eb:=Aside0.mk b0
       clear b0
       replace H:=Option.bind_eq_some_iff.mp H
       obtain⟨ab,cb,H⟩:=H
       replace H:(some ab)=some r:=H
       have d3:=Aside0.mk cb
       clear cb
       obtain rfl:=Option.some.inj H
       try go_wp2
       replace ε :=Aside0.mk (Qe ε.out)
       replace ι :=Aside0.mk (Qe ι.out)
       replace HB:=Aside0.mk (Qg HB.out)
       refine Zh (n:=6) (S:=fun w'=>w'.cell? ⟨κ,0,none⟩=some (.int .i64 J)∧w'.cell? ⟨κ,1,none⟩=some (.int .i64 O)∧w'.cell? ⟨κ,2,none⟩=some (.int .i64 X)∧w'.cell? ⟨κ,3,none⟩=some (.int .i64 Y)∧w'.cell? ⟨κ,4,none⟩=some (.int .i64 Z)∧w'.cell? ⟨κ,5,none⟩=some (.int .i64 δ)∧w'.cell? ⟨κ,6,none⟩=some (.int .i64 γ)∧w'.cell? ⟨κ,7,none⟩=some (.int .i64 θ)∧w'.cell? ⟨κ,8,none⟩=some (.int .i64 η)∧w'.cell? ⟨κ,9,none⟩=some (.int .i64 ζ)∧w'.cell? ⟨b3,0,none⟩=some (.slice ac φ.length ae)∧w'.cell? ⟨b3,1,none⟩=some (.slice af a0.length ag)) (ds:=[]) #[false,false,false,false,false,false] kr rfl rfl ⟨(Qa ε.out 0).trans rfl,(Qa ε.out 1).trans rfl,(Qa ε.out 2).trans rfl,(Qa ε.out 3).trans rfl,(Qa ε.out 4).trans rfl,(Qa ε.out 5).trans rfl,(Qa ε.out 6).trans rfl,(Qa ε.out 7).trans rfl,(Qa ε.out 8).trans rfl,(Qa ε.out 9).trans rfl,(Qa ι.out 0).trans rfl,(Qa ι.out 1).trans rfl⟩ (fun hHeld=>?_)
       generalize wr.drew=ej at ε ι HB hHeld ⊢
       refine qV 1 (some 29) (bN 6 2) ?_
       refine qW 0 (some 28) (bN 6 3) hHeld ?_
       refine qW 3 (some 31) (bN 6 11) hHeld ?_
       refine Vg (i:=2) (N:=some 30) (bN 6 15) rfl rfl kr (by decide) (fun K hK=>?_)
       refine Q9 Try.func37 kr rfl #[.agg #[.int .i64 J,.int .i64 O,.int .i64 X,.int .i64 Y,.int .i64 Z,.int .i64 δ,.int .i64 γ,.int .i64 θ,.int .i64 η,.int .i64 ζ],.slice A1 l1.length c1] (by rfl) rfl rfl qM ?_
       with_reducible refine(group_house.calls J O X Y Z δ γ θ η ζ _ _ l1 bm br _ ?side1 ?side2 eb.out).mono ?_
       (case side1=>exact(Kd.Qv cu.out HB.out))
       (case side2=>exact d4.out)
       rintro e dc ⟨rfl,hb⟩
       refine⟨_,rfl, ?_⟩
       replace ε :=sBk ε hb
       replace ι :=sBk ι hb
       replace HB:=sHb hb
       (try clear hb)
       (try clear a6)
       (try clear hk)
       (try clear hi)
       refine hK.out _ _ ⟨qc ε,qc ε,qc ε,qc ε,qc ε,qc ε,qc ε,qc ε,qc ε,qc ε,qc ι,qc ι⟩ (fun hHeld=>?_)
       clear hK K
       refine qN (some 30) ?_
       refine Vg (i:=4) (N:=some 32) (bN 6 31) rfl rfl kr (by decide) (fun K hK=>?_)
       refine Q9 Try.func40 kr rfl #[.agg #[.int .i64 bm,.int .i64 br],.agg #[.slice ac φ.length ae,.slice af a0.length ag]] (by rfl) rfl rfl qM ?_
       with_reducible refine(call_Check.calls k2 bm br _ _ φ _ _ a0 ab _ ?side1 ?side2 ?side3 ?side4 d3.out).mono ?_
       (case side1=>exact(Kd.Qv cq.out HB.out))
       (case side2=>exact cr.out)
       (case side3=>exact(Kd.Qv cx.out HB.out))
       (case side4=>exact d8.out)
       rintro e ki ⟨rfl,hb⟩
       refine⟨_,rfl, ?_⟩
       replace ε :=sBk ε hb
       replace ι :=sBk ι hb
       replace HB:=sHb hb
       (try clear hb)
       (try clear a6)
       (try clear hk)
       (try clear hi)
       refine hK.out _ _ ⟨qc ε,qc ε,qc ε,qc ε,qc ε,qc ε,qc ε,qc ε,qc ε,qc ε,qc ι,qc ι⟩ (fun hHeld=>?_)
       clear hK K
       refine qN (some 32) ?_
       refine qV 5 (some 6) (bN 6 63) ?_
       refine Z2 kr ?_
       try go_wp2
       go_ret
       exact⟨rfl,HB.out⟩
end Go.Proofs.Ytmfffemidlhcpaa.C
