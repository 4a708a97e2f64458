/- Texts of this claim, one behind the other: what the law's functions come to, walked (printed by a program, with the words that the print uses), and what that is, in plain Lean. No conditions of their own. -/
import Derived.Test.YtmfffemidlhcpaaQGroupBest5
import Derived.WalkSpells
namespace Go.Proofs.Ytmfffemidlhcpaa.C
open Go.RowKit Go.Proofs.YtmfffemidlhcpaaW.PrintWords Go.Proofs.YtmfffemidlhcpaaW.PrintLast Go.Proofs.YtmfffemidlhcpaaW.PrintMore
attribute [local go_sem] Z3 Z1 Xg Xf Zt Zs Z2 Z0
set_option linter.unusedVariables false
set_option linter.unusedSimpArgs false
def api_Hall_88.f (l0:List S36):Option (List S36):=if l0.length<1000000000 then some l0 else none
set_option maxRecDepth 100000 in
set_option maxHeartbeats 1000000 in
theorem api_Hall_88.calls (Z:Option Addr) (c0:Nat) (l0:List S36) (r:List S36) (w:World) (ρ:Kd.C k36 w Z l0.length l0) (γ:l0.length≤c0) (h:api_Hall_88.f l0=some r):
    Calls Try.prog 88 #[.slice Z l0.length c0] w fun e w'=>∃ bb:Value,e = .returned bb∧Kd.R k36 36 w' w.heap.size (fun _=>True) bb r∧Below w.heap.size w w':=by
  unfold api_Hall_88.f at h
  split at h
  case isFalse=>cases h
  case isTrue hl=>
  cases h
  have HR:=Aside0.mk ρ
  have HC:=Aside0.mk γ
  have HL:=Aside0.mk hl
  have HB:=Aside0.mk (Below.refl w.heap.size w)
  have hn:Z=none→l0 = []:=by
    intro hA
    rcases Nat.eq_zero_or_pos l0.length with h|h
    · exact List.eq_nil_of_length_eq_zero h
    · obtain⟨ad,e,_⟩:=ρ.2.2 h
      rw[hA] at e
      cases e
  clear ρ γ hl
  have hEq:∀ (W:World),(binOp .eql 47 (.slice Z l0.length c0) (.slice none 0 0)).run Try.prog W = .ok (.bool Z.isNone) W:=fun W=>Lib.run_eql_slice_nil W _ _ _ _ _ _ _ Try.underlying47
  rcases Z with _|ad
  · have δ :=Aside0.mk (hn rfl)
    clear hn
    go_enter Try.func88,Try.ntmps88
    go_wp2
    go_ret
    rw[δ.out]
    exact⟨_,rfl,Kd.X0 _ _ _ _ _,HB.out⟩
  · clear hn
    go_enter Try.func88,Try.ntmps88
    go_wp2_with (first|((with_reducible refine Qf (N:=5) rfl ?_);refine Kd.Vr k36 _ 36 ?hg (N:=5) ?hd (xs:=([]:List S36)) (inner:=[]) (ok:=fun _=>True) (okp:=fun _=>True) ?hr ?hp (fun _ hk=>hk) trivial (Below.refl _ _) (Nat.le_refl _) (by simp) ?_;(case hd=>rfl);(case hg=>rfl);(case hr=>first|(go_simp;done)|(go_simp;rfl));(case hp=>exact(Reps.none _ _));intro v1 w1 b7 J hg_ hnew_;clear hg_ hnew_;have HO:=Aside0.mk b7;have O:=Aside0.mk J;clear b7 J)|((with_reducible refine Xs (b:=.append) (xs:=#[.tmp 5,.tmp 6]) rfl ?_);at_builtin;refine Kd.J7 k36 (w0:=w) w.heap.size rfl (.tmp 5) (.tmp 6) 47 36 (.agg #[(.int .i64 0),(.int .i64 0),(.int .i64 0)]) 24 rfl Try.underlying47 Js rfl (by decide) (by omega) v1 [] l0 _ _ _ (fun _=>True) (fun _=>False) rfl rfl ?aO ?aR (fun _ _ h=>h) (fun _ h=>h.elim) ?aF ?aB ?aS ?aL ?_;(case aR=>exact(Kd.Qy HR.out O.out));(case aB=>exact O.out);(case aF=>exact(fun _ _=>trivial));(case aO=>exact HO.out);(case aS=>exact Qi O.out);(case aL=>have:=HL.out;simp only[List.length_nil];omega);intro B w2 ho hb hg hat;clear hg hat))
    go_ret
    exact⟨_,rfl,by simpa using ho,hb⟩
def api_Inside_91.f (l0:List S86):Option (List S86):=if l0.length<1000000000 then some l0 else none
set_option maxRecDepth 100000 in
set_option maxHeartbeats 1000000 in
theorem api_Inside_91.calls (Z:Option Addr) (c0:Nat) (l0:List S86) (r:List S86) (w:World) (ρ:Kd.C k86 w Z l0.length l0) (γ:l0.length≤c0) (h:api_Inside_91.f l0=some r):
    Calls Try.prog 91 #[.slice Z l0.length c0] w fun e w'=>∃ bb:Value,e = .returned bb∧Kd.R k86 86 w' w.heap.size (fun _=>True) bb r∧Below w.heap.size w w':=by
  unfold api_Inside_91.f at h
  split at h
  case isFalse=>cases h
  case isTrue hl=>
  cases h
  have HR:=Aside0.mk ρ
  have HC:=Aside0.mk γ
  have HL:=Aside0.mk hl
  have HB:=Aside0.mk (Below.refl w.heap.size w)
  have hn:Z=none→l0 = []:=by
    intro hA
    rcases Nat.eq_zero_or_pos l0.length with h|h
    · exact List.eq_nil_of_length_eq_zero h
    · obtain⟨ad,e,_⟩:=ρ.2.2 h
      rw[hA] at e
      cases e
  clear ρ γ hl
  have hEq:∀ (W:World),(binOp .eql 48 (.slice Z l0.length c0) (.slice none 0 0)).run Try.prog W = .ok (.bool Z.isNone) W:=fun W=>Lib.run_eql_slice_nil W _ _ _ _ _ _ _ Try.underlying48
  rcases Z with _|ad
  · have δ :=Aside0.mk (hn rfl)
    clear hn
    go_enter Try.func91,Try.ntmps91
    go_wp2
    go_ret
    rw[δ.out]
    exact⟨_,rfl,Kd.X0 _ _ _ _ _,HB.out⟩
  · clear hn
    go_enter Try.func91,Try.ntmps91
    go_wp2_with (first|((with_reducible refine Qf (N:=5) rfl ?_);refine Kd.Vr k86 _ 86 ?hg (N:=5) ?hd (xs:=([]:List S86)) (inner:=[]) (ok:=fun _=>True) (okp:=fun _=>True) ?hr ?hp (fun _ hk=>hk) trivial (Below.refl _ _) (Nat.le_refl _) (by simp) ?_;(case hd=>rfl);(case hg=>rfl);(case hr=>first|(go_simp;done)|(go_simp;rfl));(case hp=>exact(Reps.none _ _));intro v1 w1 b7 J hg_ hnew_;clear hg_ hnew_;have HO:=Aside0.mk b7;have O:=Aside0.mk J;clear b7 J)|((with_reducible refine Xs (b:=.append) (xs:=#[.tmp 5,.tmp 6]) rfl ?_);at_builtin;refine Kd.J7 k86 (w0:=w) w.heap.size rfl (.tmp 5) (.tmp 6) 48 86 (.agg #[(.int .i64 0),(.int .i64 0)]) 16 rfl Try.underlying48 K4 rfl (by decide) (by omega) v1 [] l0 _ _ _ (fun _=>True) (fun _=>False) rfl rfl ?aO ?aR (fun _ _ h=>h) (fun _ h=>h.elim) ?aF ?aB ?aS ?aL ?_;(case aR=>exact(Kd.Qy HR.out O.out));(case aB=>exact O.out);(case aF=>exact(fun _ _=>trivial));(case aO=>exact HO.out);(case aS=>exact Qi O.out);(case aL=>have:=HL.out;simp only[List.length_nil];omega);intro B w2 ho hb hg hat;clear hg hat))
    go_ret
    exact⟨_,rfl,by simpa using ho,hb⟩
def woI (B J:Int) (l:List S86):List S86:=l.filter (fun y=> !(Yc B J y.f0 y.f1==0))
set_option maxRecDepth 100000 in
set_option maxHeartbeats 2000000 in
theorem Vt (A:Option Addr) (c:Nat) (l:List S86) (B J:Int) (w:World) (hr:Kd.C k86 w A l.length l) (hc:l.length≤c) (hl:l.length<1000000000) (au: -9223372036854775808≤J∧J≤9223372036854775807):
    Calls Try.prog 75 #[.agg #[.slice A l.length c,.func (.func 83) #[] #[]],.agg #[.int .i64 B,.int .i64 J]] w fun e w'=>∃ bb:Value,e = .returned bb∧Kd.R k86 86 w' w.heap.size (fun _=>True) bb (woI B J l)∧Below w.heap.size w w':=by
  have HR:=Aside0.mk hr
  have HC:=Aside0.mk hc
  have HF:=Aside0.mk (show api_Inside_91.f l=some l by unfold api_Inside_91.f;rw[if_pos hl])
  have HB:=Aside0.mk (Below.refl w.heap.size w)
  have HD:=Aside0.mk (show api_Inside_90.f (l.length+6) l (tok B J)=some (woI B J l) by
    rw[Call.Es l (tok B J) (by omega) _ (by omega)]
    show some (l.filter (fun y=> !(Yc (Yk (tok B J)) (Yj (tok B J)) y.f0 y.f1==0)))=_
    rw[Kl B J au,Kk B J au]
    rfl)
  have T1:=Aside0.mk (Kl B J au)
  have T2:=Aside0.mk (Kk B J au)
  clear hr hc hl au
  go_enter Try.func75,Try.ntmps75
  go_wp2_with (first|((with_reducible refine Qf (N:=2) rfl ?_);refine Zh ?hg (N:=2) ?hd (cs:=#[.slice A l.length c,.func (.func 83) #[] #[]]) (t:=116) ?hr ?_;(case hd=>rfl);(case hg=>rfl);(case hr=>first|(go_simp;done)|(go_simp;rfl));intro g2 hg_ w2 hbox hb;have ξ :=Aside0.mk (Q0 HB.out hb);have ρ:=Aside0.mk hbox;clear HB;have HB:= ξ;have O:=ρ;clear ξ ρ;clear hb hbox hg_)|((with_reducible refine Qf (N:=3) rfl ?_);refine Zh ?hg (N:=3) ?hd (cs:=#[.int .i64 B,.int .i64 J]) (t:=86) ?hr ?_;(case hd=>rfl);(case hg=>rfl);(case hr=>first|(go_simp;done)|(go_simp;rfl));intro g3 hg_ w3 hbox hb;have Y:=Aside0.mk (Qz (g:=g2) (o:=.cells #[.slice A l.length c,.func (.func 83) #[] #[]] 116 (0,0)) O.out hb);have ξ :=Aside0.mk (Q0 HB.out hb);have ρ:=Aside0.mk hbox;clear HB O;have HB:= ξ;have X:=ρ;have O:=Y;clear ξ ρ Y;clear hb hbox hg_;have γ:w3.cell? ⟨g2,0,none⟩=some (.slice A l.length c):=(Qa O.out 0).trans rfl;have δ :w3.cell? ⟨g2,1,none⟩=some (.func (.func 83) #[] #[]):=(Qa O.out 1).trans rfl)|(go_at_call 91;((with_reducible refine(api_Inside_91.calls A c l l _ ?side1 ?side2 HF.out).mono ?_);(case side1=>exact Kd.Qy HR.out HB.out);(case side2=>exact HC.out);rintro e w4 ⟨v4,rfl,ay,hb⟩;have ζ :=Aside0.mk (Nat.not_le.2 (Xj O.out));have η :=Aside0.mk (Nat.not_le.2 (Xj X.out));have Y:=Aside0.mk (Kd.Q3 (Kd.Qw (Kd.Xp ay) (fun k_ hk=>hk.2.1)) HB.out.size);have Z:=Aside0.mk (Qz (g:=g2) (o:=.cells #[.slice A l.length c,.func (.func 83) #[] #[]] 116 (0,0)) O.out hb);have ε :=Aside0.mk (Qz (g:=g3) (o:=.cells #[.int .i64 B,.int .i64 J] 86 (0,0)) X.out hb);have ξ :=Aside0.mk (Q0 HB.out hb);clear HB O X;have HB:= ξ;have O:=Z;have X:= ε;have HO:=Y;clear ξ Y Z ε hb ay))|(go_at_call 90;((with_reducible refine(api_Inside_90.calls (l.length+6) _ v4 l (tok B J) _ w w4 HB.out HO.out HD.out A l.length c g2 g3 0 O.out ?hx ζ.out η.out).mono ?_);(case hx=>rw[T1.out,T2.out];exact X.out);rintro e w5 ⟨v5,rfl,ay,hb,hk⟩;have θ :=Aside0.mk ay;have ι :=Aside0.mk hb;clear ay hb hk)))
  go_ret
  exact⟨_,rfl,Kd.Qw θ.out (fun _ _=>trivial),ι.out⟩
set_option maxRecDepth 100000 in
set_option maxHeartbeats 1000000 in
theorem Ka (Z A1:Option Addr) (J X c0 c1:Nat) (w:World):
    Calls Try.prog 63 #[.agg #[.slice Z J c0,.slice A1 X c1]] w fun e w'=>e = .returned (.agg #[.slice Z J c0,.func (.func 79) #[] #[]])∧Below w.heap.size w w':=by
  have HB:=Aside0.mk (Below.refl w.heap.size w)
  go_enter Try.func63,Try.ntmps63
  go_wp2_with (first|((with_reducible refine Qf (N:=1) rfl ?_);refine Zh ?hg (N:=1) ?hd (cs:=#[.slice Z J c0,.slice A1 X c1]) (t:=50) ?hr ?_;(case hd=>rfl);(case hg=>rfl);(case hr=>first|(go_simp;done)|(go_simp;rfl));intro g1 hg_ w1 hbox hb;have ξ :=Aside0.mk (Q0 HB.out hb);have ρ:=Aside0.mk hbox;clear HB;have HB:= ξ;have B:=ρ;clear ξ ρ;clear hb hbox hg_)|((with_reducible refine Qf (N:=2) rfl ?_);refine Zh ?hg (N:=2) ?hd (cs:=#[.slice none 0 0,.nilFunc]) (t:=109) ?hr ?_;(case hd=>rfl);(case hg=>rfl);(case hr=>first|(go_simp;done)|(go_simp;rfl));intro g2 hg_ w2 hbox hb;have GEs:=Aside0.mk HB.out.size;have GEl:=Aside0.mk (Xj B.out);have Y:=Aside0.mk (Qz (g:=g1) (o:=.cells #[.slice Z J c0,.slice A1 X c1] 50 (0,0)) B.out hb);have ξ :=Aside0.mk (Q0 HB.out hb);have ρ:=Aside0.mk hbox;clear HB B;have HB:= ξ;have O:=ρ;have B:=Y;clear ξ ρ Y;have ε :=Aside0.mk (by rw[hg_];exact GEs.out:w.heap.size≤g2);have NB:=Aside0.mk (by rw[hg_];exact Nat.ne_of_lt GEl.out:g1≠g2);clear hb hbox hg_;have hnb:=NB.out;have γ:w2.cell? ⟨g1,0,none⟩=some (.slice Z J c0):=(Qa B.out 0).trans rfl;have δ :w2.cell? ⟨g1,1,none⟩=some (.slice A1 X c1):=(Qa B.out 1).trans rfl;have ζ :w2.cell? ⟨g2,0,none⟩=some (.slice none 0 0):=(Qa O.out 0).trans rfl;have η :w2.cell? ⟨g2,1,none⟩=some (.nilFunc):=(Qa O.out 1).trans rfl;have θ :=Qc O.out 0;have ι :=Qc O.out 1))
  refine bodyPost_ret (results_cell_row rfl _ _ g2 109 #[.slice Z J c0,.func (.func 79) #[] #[]] (0,0) _ rfl (by refine Ql (cs:=#[.slice Z J c0,.nilFunc]) ?_ 1 _ rfl;refine Ql (cs:=#[.slice none 0 0,.nilFunc]) ?_ 0 _ rfl;exact O.out) Try.underlying109 rfl kr) rfl ?_
  exact⟨rfl,Qv (Qv HB.out ε.out) ε.out⟩
set_option maxRecDepth 100000 in
set_option maxHeartbeats 1000000 in
theorem Jr (F C:Int) (w:World):
    Calls Try.prog 65 #[.agg #[.int .i64 F,.int .i64 C]] w fun e w'=>∃ g:Nat,e = .returned (.func (.func 82) #[] #[.pointer (some ⟨g,0,none⟩)])∧w'.heap[g]?=some (.cells #[.int .i64 F,.int .i64 C] 59 (0,0))∧w.heap.size≤g∧Below w.heap.size w w':=by
  have HB:=Aside0.mk (Below.refl w.heap.size w)
  go_enter Try.func65,Try.ntmps65
  go_wp2_with (first|((with_reducible refine Qf (N:=1) rfl ?_);refine Zh ?hg (N:=1) ?hd (cs:=#[.int .i64 F,.int .i64 C]) (t:=59) ?hr ?_;(case hd=>rfl);(case hg=>rfl);(case hr=>first|(go_simp;done)|(go_simp;rfl));intro g1 hg_ w1 hbox hb;have GEs:=Aside0.mk HB.out.size;have ξ :=Aside0.mk (Q0 HB.out hb);have ρ:=Aside0.mk hbox;clear HB;have HB:= ξ;have B:=ρ;clear ξ ρ;have J:=Aside0.mk (by rw[hg_];exact GEs.out:w.heap.size≤g1);clear hb hbox hg_))
  go_ret
  exact⟨_,rfl,B.out,J.out,HB.out⟩
set_option maxRecDepth 100000 in
set_option maxHeartbeats 1000000 in
theorem Gm (Z A1:Option Addr) (J X c0 c1:Nat) (w:World):
    Calls Try.prog 66 #[.agg #[.slice Z J c0,.slice A1 X c1]] w fun e w'=>e = .returned (.agg #[.slice A1 X c1,.func (.func 83) #[] #[]])∧Below w.heap.size w w':=by
  have HB:=Aside0.mk (Below.refl w.heap.size w)
  go_enter Try.func66,Try.ntmps66
  go_wp2_with (first|((with_reducible refine Qf (N:=1) rfl ?_);refine Zh ?hg (N:=1) ?hd (cs:=#[.slice Z J c0,.slice A1 X c1]) (t:=50) ?hr ?_;(case hd=>rfl);(case hg=>rfl);(case hr=>first|(go_simp;done)|(go_simp;rfl));intro g1 hg_ w1 hbox hb;have ξ :=Aside0.mk (Q0 HB.out hb);have ρ:=Aside0.mk hbox;clear HB;have HB:= ξ;have B:=ρ;clear ξ ρ;clear hb hbox hg_)|((with_reducible refine Qf (N:=2) rfl ?_);refine Zh ?hg (N:=2) ?hd (cs:=#[.slice none 0 0,.nilFunc]) (t:=116) ?hr ?_;(case hd=>rfl);(case hg=>rfl);(case hr=>first|(go_simp;done)|(go_simp;rfl));intro g2 hg_ w2 hbox hb;have GEs:=Aside0.mk HB.out.size;have GEl:=Aside0.mk (Xj B.out);have Y:=Aside0.mk (Qz (g:=g1) (o:=.cells #[.slice Z J c0,.slice A1 X c1] 50 (0,0)) B.out hb);have ξ :=Aside0.mk (Q0 HB.out hb);have ρ:=Aside0.mk hbox;clear HB B;have HB:= ξ;have O:=ρ;have B:=Y;clear ξ ρ Y;have ε :=Aside0.mk (by rw[hg_];exact GEs.out:w.heap.size≤g2);have NB:=Aside0.mk (by rw[hg_];exact Nat.ne_of_lt GEl.out:g1≠g2);clear hb hbox hg_;have hnb:=NB.out;have γ:w2.cell? ⟨g1,0,none⟩=some (.slice Z J c0):=(Qa B.out 0).trans rfl;have δ :w2.cell? ⟨g1,1,none⟩=some (.slice A1 X c1):=(Qa B.out 1).trans rfl;have ζ :w2.cell? ⟨g2,0,none⟩=some (.slice none 0 0):=(Qa O.out 0).trans rfl;have η :w2.cell? ⟨g2,1,none⟩=some (.nilFunc):=(Qa O.out 1).trans rfl;have θ :=Qc O.out 0;have ι :=Qc O.out 1))
  refine bodyPost_ret (results_cell_row rfl _ _ g2 116 #[.slice A1 X c1,.func (.func 83) #[] #[]] (0,0) _ rfl (by refine Ql (cs:=#[.slice A1 X c1,.nilFunc]) ?_ 1 _ rfl;refine Ql (cs:=#[.slice none 0 0,.nilFunc]) ?_ 0 _ rfl;exact O.out) Try.underlying116 rfl kr) rfl ?_
  exact⟨rfl,Qv (Qv HB.out ε.out) ε.out⟩
set_option maxRecDepth 100000 in
set_option maxHeartbeats 1000000 in
theorem Uy (F C:Int) (w:World):
    Calls Try.prog 68 #[.agg #[.int .i64 F,.int .i64 C]] w fun e w'=>∃ g:Nat,e = .returned (.func (.func 84) #[] #[.pointer (some ⟨g,0,none⟩)])∧w'.heap[g]?=some (.cells #[.int .i64 F,.int .i64 C] 59 (0,0))∧w.heap.size≤g∧Below w.heap.size w w':=by
  have HB:=Aside0.mk (Below.refl w.heap.size w)
  go_enter Try.func68,Try.ntmps68
  go_wp2_with (first|((with_reducible refine Qf (N:=1) rfl ?_);refine Zh ?hg (N:=1) ?hd (cs:=#[.int .i64 F,.int .i64 C]) (t:=59) ?hr ?_;(case hd=>rfl);(case hg=>rfl);(case hr=>first|(go_simp;done)|(go_simp;rfl));intro g1 hg_ w1 hbox hb;have GEs:=Aside0.mk HB.out.size;have ξ :=Aside0.mk (Q0 HB.out hb);have ρ:=Aside0.mk hbox;clear HB;have HB:= ξ;have B:=ρ;clear ξ ρ;have J:=Aside0.mk (by rw[hg_];exact GEs.out:w.heap.size≤g1);clear hb hbox hg_))
  go_ret
  exact⟨_,rfl,B.out,J.out,HB.out⟩
end Go.Proofs.Ytmfffemidlhcpaa.C
namespace Go.Proofs.Ytmfffemidlhcpaa.C
open Go.RowKit Go.Proofs.YtmfffemidlhcpaaW.PrintWords Go.Proofs.YtmfffemidlhcpaaW.PrintLast Go.Proofs.YtmfffemidlhcpaaW.PrintMore
set_option linter.unusedVariables false
def small (n:Nat) (C:Int):Bool:=decide (n<1000000000 ∧ -9223372036854775808≤C∧C≤9223372036854775807)
def rightP_H.f (B:List S36) (Z:List S86) (J O:Int):Option Bool:=if small B.length O=true then some (Call.Zm (fun x=>Xi J O x.f0 x.f1 x.f2) Call.ltH none B) else none
theorem rightP_H.calls (κ :Option Addr) (θ :Nat) (B:List S36) (μ :Option Addr) (ι :Nat) (Z:List S86) (J O:Int) (r:Bool) (w:World) (aj:Kd.C k36 w κ B.length B) (ak:B.length ≤ θ) (al:Kd.C k86 w μ Z.length Z) (am:Z.length ≤ ι) (h:rightP_H.f B Z J O=some r) (g:Nat) (hg:w.heap[g]?=some (.cells #[.int .i64 J,.int .i64 O] 59 (0,0))):
    Calls Try.prog 64 #[.agg #[.slice κ B.length θ,.func (.func 79) #[] #[]],.func (.func 82) #[] #[.pointer (some ⟨g,0,none⟩)]] w fun e w'=>e = .returned (.bool r)∧Below w.heap.size w w':=by
  unfold rightP_H.f at h
  split at h
  case isFalse=>cases h
  case isTrue hs=>
  cases h
  obtain⟨hl,hb⟩:=of_decide_eq_true hs
  have e1:=Kl J O hb
  have e2:=Kk J O hb
  refine api_Hall_right.calls (2 * B.length+1) κ θ B 0 (tok J O) _ w aj ak ?_ g ?_
  · rw[Call.Lt B _ 0 (by omega) _ (by omega),e1,e2]
  · rw[e1,e2];exact hg
def rightP_I.f (B:List S36) (Z:List S86) (J O:Int):Option Bool:=if small Z.length O=true then some (Call.Zm (fun x=>Ke J O x.f0 x.f1) Call.ltI none Z) else none
theorem rightP_I.calls (κ :Option Addr) (θ :Nat) (B:List S36) (μ :Option Addr) (ι :Nat) (Z:List S86) (J O:Int) (r:Bool) (w:World) (aj:Kd.C k36 w κ B.length B) (ak:B.length ≤ θ) (al:Kd.C k86 w μ Z.length Z) (am:Z.length ≤ ι) (h:rightP_I.f B Z J O=some r) (g:Nat) (hg:w.heap[g]?=some (.cells #[.int .i64 J,.int .i64 O] 59 (0,0))):
    Calls Try.prog 67 #[.agg #[.slice μ Z.length ι,.func (.func 83) #[] #[]],.func (.func 84) #[] #[.pointer (some ⟨g,0,none⟩)]] w fun e w'=>e = .returned (.bool r)∧Below w.heap.size w w':=by
  unfold rightP_I.f at h
  split at h
  case isFalse=>cases h
  case isTrue hs=>
  cases h
  obtain⟨hl,hb⟩:=of_decide_eq_true hs
  have e1:=Kl J O hb
  have e2:=Kk J O hb
  refine api_Inside_right.calls (2 * Z.length+1) μ ι Z 0 (tok J O) _ w al am ?_ g ?_
  · rw[Call.Ls Z _ 0 (by omega) _ (by omega),e1,e2]
  · rw[e1,e2];exact hg
end Go.Proofs.Ytmfffemidlhcpaa.C
namespace Go.Proofs.Ytmfffemidlhcpaa.C
open Go.RowKit Go.Proofs.YtmfffemidlhcpaaW.PrintWords Go.Proofs.YtmfffemidlhcpaaW.PrintLast Go.Proofs.YtmfffemidlhcpaaW.PrintMore
attribute [local go_sem] Z3 Z1 Xg Xf Zt Zs Z2 Z0
set_option linter.unusedVariables false
set_option linter.unusedSimpArgs false
def api_Hall_set.j0:Nat→List (S36)→Option ((List (S36)))
 |0,_=>none
 |k+1,X=>some X
def api_Hall_set.f (k:Nat) (B:List (S36)) (O:Int) (ζ :Int) (ε :Int) (κ :Int):Option ((List (S36))):=(api_Hall_88.f B).bind fun γ=>((api_Hall_89.f k γ ζ ε κ O).bind fun Z=>(if Z.2=true then (if 0≤Z.1 then (if Z.1<(γ.length:Int) then (api_Hall_set.j0 k (γ.set (Z.1:Int).toNat (⟨ζ,ε,κ⟩:S36))) else (none)) else (none)) else (api_Hall_set.j0 k γ)))
set_option maxHeartbeats 8000000 in
set_option maxRecDepth 100000 in
theorem api_Hall_set.calls (k:Nat) (ι :Option Addr) (θ :Nat) (B:List (S36)) (O:Int) (ζ :Int) (ε :Int) (κ :Int) (r:List (S36)) (w:World) (a6:Kd.C k36 w ι B.length B) (a8:B.length ≤ θ) (h:api_Hall_set.f k B O ζ ε κ = some r):
  Calls Try.prog 74 #[.agg #[.slice ι B.length θ,.func (.func 79) #[] #[]],.agg #[.int .i64 ζ,.int .i64 ε,.int .i64 κ]] w fun e w'=>∃ bb:Value,e = .returned (bb)∧Kd.R k36 36 w' w.heap.size (fun _=>True) bb r∧Below w.heap.size w w':=by
 have cg:=Try.underlying109
 have e4:=Try.underlying36
 have a9:=Aside0.mk a6
 have ao:=Aside0.mk a8
 clear a6 a8
 have HB:=Aside0.mk (Below.refl w.heap.size w)
 have H:((api_Hall_88.f B).bind fun γ=>((api_Hall_89.f k γ ζ ε κ O).bind fun Z=>(if Z.2=true then (if 0≤Z.1 then (if Z.1<(γ.length:Int) then (api_Hall_set.j0 k (γ.set (Z.1:Int).toNat (⟨ζ,ε,κ⟩:S36))) else (none)) else (none)) else (api_Hall_set.j0 k γ))))=some r:=h
 clear h
 replace H:=Option.bind_eq_some_iff.mp H
 obtain⟨γ,d1,H⟩:=H
 replace H:((api_Hall_89.f k γ ζ ε κ O).bind fun Z=>(if Z.2=true then (if 0≤Z.1 then (if Z.1<(γ.length:Int) then (api_Hall_set.j0 k (γ.set (Z.1:Int).toNat (⟨ζ,ε,κ⟩:S36))) else (none)) else (none)) else (api_Hall_set.j0 k γ)))=some r:=H
 have A3:=Aside0.mk d1
 clear d1
 replace H:=Option.bind_eq_some_iff.mp H
 obtain⟨⟨η,ν⟩,aa,H⟩:=H
 replace H:(if ν = true then (if 0 ≤ η then (if η < (γ.length:Int) then (api_Hall_set.j0 k (γ.set (η :Int).toNat (⟨ζ,ε,κ⟩:S36))) else (none)) else (none)) else (api_Hall_set.j0 k γ))=some r:=H
 have A4:=Aside0.mk aa
 clear aa
 have br:=Aside0.mk H
 clear H
 go_enter Try.func74,Try.ntmps74
 go_upto_if 19 with(first|((with_reducible refine Qf (N:=2) rfl ?_);refine qE 2 #[.slice ι B.length θ,.func (.func 79) #[] #[]] 109 ?_;intro a0 hg w6 hbox hb;have X:=Aside0.mk hbox;have bg:=sGe hg;have bj:=sGe hg;replace HB:=sHb hb;clear hb hbox hg)|((with_reducible refine Qf (N:=3) rfl ?_);refine qE 3 #[.int .i64 ζ,.int .i64 ε,.int .i64 κ] 36 ?_;intro ω hg w7 hbox hb;have Y:=Aside0.mk hbox;have bk:=sGe hg;have bl:=sGe hg;have ξ :=sNl X hg;have ρ:=sNg X hg;replace X:=sBk X hb;replace HB:=sHb hb;clear hb hbox hg;have cu:= ξ.out;have cv:=ρ.out;obtain⟨bp,bq,bu,cd⟩:=qD2 X.out)|((with_reducible refine Qo (f:=88) rfl ?_);refine Q6 (some 10) rfl rfl Try.func88 kr rfl #[.slice ι B.length θ] rfl qM ?_;(with_reducible refine(api_Hall_88.calls _ _ B γ _ ?side1 ?side2 A3.out).mono ?_);(case side1=>exact(Kd.Qy a9.out HB.out));(case side2=>exact ao.out);rintro e ih ⟨ck,rfl,ay,hb⟩;refine⟨_,rfl, ?_⟩;have J:=Aside0.mk (Kd.Q3 (Kd.Yn ay (g:= ω) (o:=.cells #[.int .i64 ζ,.int .i64 ε,.int .i64 κ] 36 (0,0)) Y.out) (Qi HB.out));replace X:=sBk X hb;replace Y:=sBk Y hb;replace HB:=sHb hb;(try clear hb);(try clear ac);(try clear hk);(try clear hi);(try clear ay);obtain⟨dq,dr,e0,dt,du,e3⟩:=qD3 Y.out;obtain⟨φ,a2,a4,a5⟩:=qD2 X.out;obtain⟨b0,a1,b6⟩:=Kd.Q7 J.out;subst b6)|((with_reducible refine Qo (f:=89) rfl ?_);refine Q6 (some 16) rfl rfl Try.func89 kr rfl #[.slice b0 γ.length a1,.agg #[.int .i64 ζ,.int .i64 ε,.int .i64 κ],.func (.func 79) #[] #[]] rfl qM ?_;(with_reducible refine(api_Hall_89.calls k _ _ γ ζ ε κ O η ν _ ?side1 ?side2 A4.out).mono ?_);(case side1=>exact(Kd.Qu J.out).2.2);(case side2=>exact(Kd.Qu J.out).2.1);rintro e ec ⟨rfl,hb⟩;refine⟨_,rfl, ?_⟩;replace J:=sRb J hb;replace X:=sBk X hb;replace Y:=sBk Y hb;replace HB:=sHb hb;(try clear hb);(try clear ac);(try clear hk);(try clear hi)))
 (try simp only[Act.put,qS])
 go_cut [] (fun wc=>∃ (kq:Nat) (b9:List (S36)) (a3:Int) (af:Int) (ah:Int),Aside0 (api_Hall_set.j0 kq b9=some r)∧Aside0 (kq≤k)∧Aside0 (Kd.R k36 36 wc w.heap.size (fun k_=>k_ ≠ ω) (.slice b0 γ.length a1) b9)∧Aside0 (wc.heap[a0]?=some (.cells #[(.slice ι B.length θ),.func (.func 79) #[] #[]] 109 (0,0)))∧Aside0 (wc.heap[ω]?=some (.cells #[.int .i64 a3,.int .i64 af,.int .i64 ah] 36 (0,0)))∧Aside0 (Below w.heap.size w wc))
 case first=>
  have H:=br.out
  clear br
  by_cases ci: ν = true
  ·subst ci
   have H1:(if 0 ≤ η then (if η < (γ.length:Int) then (api_Hall_set.j0 k (γ.set (η :Int).toNat (⟨ζ,ε,κ⟩:S36))) else (none)) else (none))=some r:=by rw[if_pos rfl] at H;exact H
   clear H
   have H:=H1
   clear H1
   by_cases ψ :0 ≤ η
   ·rw[if_pos ψ] at H
    have c16b0:decide (0 ≤ η)=true:=decide_eq_true ψ
    clear ψ
    (first|rw[c16b0]|(simp only[Zg,Zl];rw[c16b0])|skip)
    by_cases σ: η < (γ.length:Int)
    ·rw[if_pos σ] at H
     have c17b0:decide (η < (γ.length:Int))=true:=decide_eq_true σ
     clear σ
     obtain⟨ag,χ⟩:∃ y_:List (S36),y_=(γ.set (η :Int).toNat (⟨ζ,ε,κ⟩:S36)):=⟨_,rfl⟩
     replace H:(api_Hall_set.j0 k ag)=some r:=by first|(rw[χ];with_reducible exact H)|(have an:=(Option.bind_some _ _).symm.trans H;rw[χ];with_reducible exact an)|(have an:=(Option.bind_some _ _).symm.trans H;with_reducible exact an)|with_reducible exact H|(rw[χ];exact H)|exact H
     have aj:=Aside0.mk χ
     clear χ
     have H':=Aside0.mk H
     clear H
     have bm:=ρ.out
     have bo:= ξ.out
     obtain⟨ab,al,a7,ax,b5,bi⟩:=qD3 Y.out
     have ak:0≤(η :Int):=of_decide_eq_true (by assumption)
     have am:(η :Int)<((γ.length:Int):Int):=of_decide_eq_true (by assumption)
     obtain⟨μ,co,aw,az,bd,cp,b2⟩:=Kd.Uc J.out (by omega)
     (first|cases aw|(injection aw with ea_ en_ ec_;(first|subst ea_|(injection ea_ with ea_;subst ea_));subst ec_;clear en_))
     have ap:=Aside0.mk az
     have cq:=Aside0.mk b2
     clear az bd b2
     obtain⟨cr,b4,b3,τ,ai⟩:=Kd.Jl J.out z36 (η :Int) ak am
     obtain rfl:=Ye b3
     have ba:ec.cell? ⟨μ,(η :Int).toNat * 3,none⟩=some (.int .i64 ((Qd γ η).f0)):= τ 0 _ rfl
     have bc:ec.cell? ⟨μ,(η :Int).toNat * 3+1,none⟩=some (.int .i64 ((Qd γ η).f1)):= τ 1 _ rfl
     have bs:ec.cell? ⟨μ,(η :Int).toNat * 3+2,none⟩=some (.int .i64 ((Qd γ η).f2)):= τ 2 _ rfl
     have bv:ec.frozen? ⟨μ,(η :Int).toNat * 3,none⟩=false:=ai 0
     have bw:ec.frozen? ⟨μ,(η :Int).toNat * 3+1,none⟩=false:=ai 1
     have cj:ec.frozen? ⟨μ,(η :Int).toNat * 3+2,none⟩=false:=ai 2
     clear b4 τ ai b3
     replace ak:=eq_true ak
     replace am:=eq_true am
     have n_:=Aside0.mk (Kd.Qw (ok':=(fun k_=>k_ ≠ ω)) J.out (fun k_ hk=>hk.2))
     clear J
     have J:=n_
     clear n_
     have bz:=Aside0.mk (show Kd.R k36 36 ec w.heap.size (fun k_=>k_ ≠ ω) (.slice (some ⟨μ,0,none⟩) γ.length a1) γ from J.out)
     obtain⟨cm,bn,ca,δ,ar⟩:=Kd.Jl bz.out z36 (η :Int) (of_decide_eq_true (by assumption)) (by have h_:(η :Int)<((γ.length:Int):Int):=of_decide_eq_true (by assumption);first|exact h_|(have e_:=(Kd.Qu J.out).1;omega)|simpa using h_)
     obtain rfl:=Ye ca
     have be:=Kd.Lj bz.out (η :Int) (of_decide_eq_true (by assumption)) (by have h_:(η :Int)<((γ.length:Int):Int):=of_decide_eq_true (by assumption);first|exact h_|(have e_:=(Kd.Qu J.out).1;omega)|simpa using h_) (seg:=[.int .i64 ζ,.int .i64 ε,.int .i64 κ]) (j:=0) bn δ (show 3≤3 from by decide) (x':=(⟨ζ,ε,κ⟩:S36)) (Kt _ _ _ (⟨ζ,ε,κ⟩:S36)) (fun _ hk=>hk)
     have b1:= δ 0 _ rfl
     (try simp only[show(k36).sz=3 from rfl,Nat.mul_one,Nat.add_zero] at b1)
     have cb:=ar 0
     (try simp only[show(k36).sz=3 from rfl,Nat.mul_one,Nat.add_zero] at cb)
     have b7:= δ 1 _ rfl
     (try simp only[show(k36).sz=3 from rfl,Nat.mul_one,Nat.add_zero] at b7)
     have ce:=ar 1
     (try simp only[show(k36).sz=3 from rfl,Nat.mul_one,Nat.add_zero] at ce)
     have b8:= δ 2 _ rfl
     (try simp only[show(k36).sz=3 from rfl,Nat.mul_one,Nat.add_zero] at b8)
     have cf:=ar 2
     (try simp only[show(k36).sz=3 from rfl,Nat.mul_one,Nat.add_zero] at cf)
     clear bn δ ar ca
     go_wp2_with (first|((with_reducible refine Jg (t:=36) (p:=23) rfl ?_);refine Yz (t:=36) (p:=23) (v:=?vo_w22) (w1:=(((ec.setCell ⟨μ,(η :Int).toNat * 3,none⟩ (.int .i64 ζ)).setCell ⟨μ,(η :Int).toNat * 3+1,none⟩ (.int .i64 ε)).setCell ⟨μ,(η :Int).toNat * 3+2,none⟩ (.int .i64 κ))) ?hg ?ho ?hn ?hr ?_;(case ho=>rfl);(case hg=>rfl);(case hn=>rfl);(case hr=>go_simp <;> rfl);intro bf hw;have hg:ec.grownBy bf (some μ):=(by rw[hw];exact be.2);have hp_:Kd.R k36 36 bf w.heap.size (fun k_=>k_ ≠ ω) (.slice (some ⟨μ,0,none⟩) γ.length a1) ag:=(by rw[hw,aj.out];exact be.1);clear be;replace X:=Aside0.mk (Q1 (g:=a0) (o:=.cells #[.slice ι B.length θ,.func (.func 79) #[] #[]] 109 (0,0)) X.out hg (Kd.Z6 J.out X.out (by decide)));replace Y:=Aside0.mk (Q1 (g:= ω) (o:=.cells #[.int .i64 ζ,.int .i64 ε,.int .i64 κ] 36 (0,0)) Y.out hg (Kd.Ws J.out (fun _ hk=>hk)));replace J:=Aside0.mk hp_;replace HB:=Aside0.mk ((by rw[hw];exact Qv (Qv (Qv (HB.out) ap.out) ap.out) ap.out:Below w.heap.size w bf));clear hg hw hp_))
     go_meet
     case rel=>exact⟨_,(ag),(ζ),(ε),(κ),H',⟨by first|omega|exact Nat.le_refl _⟩,⟨by(with_reducible repeat first|apply Kd.Qq|apply Kd.Qp|apply Kd.Qr);exact J.out⟩,X,Y,HB⟩
    ·rw[if_neg σ] at H
     exact absurd H (by simp)
   ·rw[if_neg ψ] at H
    exact absurd H (by simp)
  ·replace ci:=Bool.eq_false_iff.mpr ci
   subst ci
   have H1:(api_Hall_set.j0 k γ)=some r:=by rw[if_neg (show ¬ (false=true) by decide)] at H;exact H
   clear H
   have H:=H1
   clear H1
   have H':=Aside0.mk H
   clear H
   go_wp2
   go_meet
   case rel=>exact⟨_,(γ),(ζ),(ε),(κ),H',⟨by first|omega|exact Nat.le_refl _⟩,⟨by(with_reducible repeat first|apply Kd.Qq|apply Kd.Qp|apply Kd.Qr);exact Kd.Qw J.out (fun _ hk=>hk.2)⟩,X,Y,HB⟩
 case rest=>
  clear br
  try clear c1
  try clear p1
  try clear q1
  try clear au
  try clear c2
  try clear p2
  try clear qw
  try clear ch
  try clear c7
  try clear c8
  try clear ci
  try clear ψ
  try clear c16b0
  try clear σ
  try clear c17b0
  try clear dp
  try clear ak
  try clear am
  try clear cn
  try clear ct
  try clear nm
  try clear ae
  try clear cw
  try clear cx
  try clear dq
  try clear dr
  try clear e0
  try clear φ
  try clear a2
  try clear ab
  try clear al
  try clear a7
  try clear bp
  try clear bq
  try clear dt
  try clear du
  try clear e3
  try clear a4
  try clear a5
  try clear ax
  try clear b5
  try clear bi
  try clear bu
  try clear cd
  try clear ba
  try clear bc
  try clear bs
  try clear b1
  try clear b7
  try clear b8
  try clear ak
  try clear am
  obtain⟨kq,b9,a3,af,ah,HA,cy,bh,X,Y,HB⟩:=hcut
  have av:=(Kd.Qu bh.out).1
  rw[av] at bh
  (try simp only[av])
  (try simp only[av] at X)
  (try simp only[av] at Y)
  cases kq with
  |zero=>exact absurd HA.out (by simp[api_Hall_set.j0])
  |succ cz=>
   have H:=HA.out
   clear HA
   simp only[api_Hall_set.j0] at H
   obtain rfl:=Option.some.inj H
   go_wp2
   go_ret
   exact⟨_,rfl,by(with_reducible repeat first|apply Kd.Qq|apply Kd.Qp|apply Kd.Qr);exact Kd.Qw bh.out (fun _ hk=>trivial),HB.out⟩
end Go.Proofs.Ytmfffemidlhcpaa.C
namespace Go.Proofs.Ytmfffemidlhcpaa.C
open Go.RowKit Go.Proofs.YtmfffemidlhcpaaW.PrintWords Go.Proofs.YtmfffemidlhcpaaW.PrintLast Go.Proofs.YtmfffemidlhcpaaW.PrintMore
set_option linter.unusedVariables false
def hallP.f (B J Y F C:Int):Option Bool:=some (Xi F C B J Y)
def woP_I.f (B J:Int) (l:List S86):Option (List S86):=if small l.length J=true then some (woI B J l) else none
def Vv (x:S36) (l:List S36):List S36:=l.map (fun y=>if y.f0=x.f0∧y.f1=x.f1 then x else y)
def setP_H.f (B J Y:Int) (l:List S36):Option (List S36):=if small l.length J=true∧Call.Zm (fun _=>true) Call.ltH none l=true then some (Vv ⟨B,J,Y⟩ l) else none
theorem Ui (Z:Option Addr) (c:Nat) (l:List S86) (B J:Int) (t:List S86) (W:World) (hr:Kd.C k86 W Z l.length l) (hc:l.length≤c) (h:woP_I.f B J l=some t):
    Calls Try.prog 75 #[.agg #[.slice Z l.length c,.func (.func 83) #[] #[]],.agg #[.int .i64 B,.int .i64 J]] W fun e w'=>∃ bb:Value,e = .returned bb∧Kd.R k86 86 w' W.heap.size (fun _=>True) bb t∧Below W.heap.size W w':=by
  unfold woP_I.f at h
  split at h
  case isFalse=>cases h
  case isTrue hs=>
  cases h
  obtain⟨hl,hb⟩:=of_decide_eq_true hs
  exact Vt Z c l B J W hr hc hl hb
theorem Ul (x:S36) (l:List S36):(Vv x l).length=l.length:=by unfold Vv;simp
theorem Um (x:S36) (l:List S36) (m:Nat) (h:m<l.length) (O:m<(Vv x l).length):(Vv x l)[m]=if l[m].f0=x.f0∧l[m].f1=x.f1 then x else l[m]:=by
  simp only[Vv,List.getElem_map]
theorem Lr (l:List S36) (x:S36) (p:Nat) (hs:l.Pairwise (fun x y=>Call.ltH x y=true)) (hp:Call.G9 l x.f0 x.f1 p):
    Call.Vh l x.f0 x.f1 p=true→l.set p x=Vv x l:=by
  intro h
  unfold Call.Vh at h
  obtain⟨h1,O,Z⟩:=hp
  rcases Nat.lt_or_ge p l.length with hlt|hge
  case inr=>rw[List.getElem?_eq_none hge] at h;simp at h
  rw[List.getElem?_eq_getElem hlt] at h
  have he:Yc l[p].f0 l[p].f1 x.f0 x.f1=0:=by simpa using h
  rw[Call.Gg] at he
  apply List.ext_getElem
  · rw[Ul];simp
  intro m B X
  rw[List.length_set] at B
  rw[List.getElem_set,Um x l m B X]
  by_cases hm:p=m
  · subst hm
    rw[if_pos rfl,if_pos he]
  · rw[if_neg hm,if_neg]
    intro hq
    rcases Nat.lt_or_ge m p with J|Y
    · have:=List.pairwise_iff_getElem.1 hs m p B hlt J
      rw[Call.Kq] at this
      omega
    · have:=List.pairwise_iff_getElem.1 hs p m hlt B (by omega)
      rw[Call.Kq] at this
      omega
theorem Mx (l:List S36) (x:S36) (p:Nat) (hs:l.Pairwise (fun x y=>Call.ltH x y=true)) (hp:Call.G9 l x.f0 x.f1 p):
    Call.Vh l x.f0 x.f1 p=false→l=Vv x l:=by
  intro h
  unfold Call.Vh at h
  obtain⟨h1,O,Z⟩:=hp
  have key:∀ m:Nat,(hm:m<l.length) → ¬ (l[m].f0=x.f0∧l[m].f1=x.f1):=by
    intro m hm hq
    rw[← Call.Gg] at hq
    rcases Nat.lt_or_ge m p with hlt|hge
    · have:=O l[m] (List.mem_iff_getElem.2 ⟨m,by rw[List.length_take];omega,by rw[List.getElem_take]⟩)
      omega
    · rcases Nat.lt_or_ge p m with J|Y
      · have g1:=List.pairwise_iff_getElem.1 hs p m (by omega) hm J
        have g2:=Z l[p] (List.mem_iff_getElem.2 ⟨0,by rw[List.length_drop];omega,by rw[List.getElem_drop];simp⟩)
        rw[Call.Kq] at g1
        rw[Call.Gg] at hq
        rw[Call.Kv] at g2
        omega
      · have hpm:p=m:=by omega
        subst hpm
        rw[List.getElem?_eq_getElem hm] at h
        simp[hq] at h
  apply List.ext_getElem
  · rw[Ul]
  intro m B X
  rw[Um x l m B X,if_neg (key m B)]
theorem Vw (Z:Option Addr) (c:Nat) (l:List S36) (B J Y:Int) (t:List S36) (W:World) (hr:Kd.C k36 W Z l.length l) (hc:l.length≤c) (h:setP_H.f B J Y l=some t):
    Calls Try.prog 74 #[.agg #[.slice Z l.length c,.func (.func 79) #[] #[]],.agg #[.int .i64 B,.int .i64 J,.int .i64 Y]] W fun e w'=>∃ bb:Value,e = .returned bb∧Kd.R k36 36 w' W.heap.size (fun _=>True) bb t∧Below W.heap.size W w':=by
  unfold setP_H.f at h
  split at h
  case isFalse=>cases h
  case isTrue hs=>
  cases h
  obtain⟨hl,hb⟩:=of_decide_eq_true hs.1
  have hso:=((Call.Jp (fun _=>true) l).1 hs.2).2
  refine api_Hall_set.calls (l.length+2) Z c l 0 B J Y _ W hr hc ?_
  unfold api_Hall_set.f api_Hall_88.f
  rw[if_pos hl]
  simp only[Option.bind_some]
  obtain⟨p,hp,e⟩:=Call.Wa l B J Y 0 (by omega) hso (l.length+2) (by omega)
  obtain⟨b,hm⟩:∃ b,Call.Vh l B J p=b:=⟨_,rfl⟩
  rw[hm] at e
  rw[e]
  simp only[Option.bind_some]
  cases b
  · rw[if_neg (by decide)]
    simp only[api_Hall_set.j0]
    congr 1
    exact Mx l ⟨B,J,Y⟩ p hso hp hm
  · have hlt:p<l.length:=by
      rcases Nat.lt_or_ge p l.length with h|h
      · exact h
      · unfold Call.Vh at hm;rw[List.getElem?_eq_none h] at hm;simp at hm
    rw[if_pos rfl,if_pos (by omega),if_pos (by omega)]
    simp only[api_Hall_set.j0,Int.toNat_natCast]
    congr 1
    exact Lr l ⟨B,J,Y⟩ p hso hp hm
end Go.Proofs.Ytmfffemidlhcpaa.C
namespace Go.Proofs.Ytmfffemidlhcpaa.C
open Go.RowKit Go.Proofs.YtmfffemidlhcpaaW.PrintWords Go.Proofs.YtmfffemidlhcpaaW.PrintLast Go.Proofs.YtmfffemidlhcpaaW.PrintMore
attribute [local go_sem] Z3 Z1 Xg Xf Zt Zs Z2 Z0
set_option linter.unusedVariables false
set_option linter.unusedSimpArgs false
def call_Check.j0:Nat→Bool→Option (Int)
 |0,_=>none
 |k+1,O=>if O=true then (some 190) else (some 0)
def call_Check.f (k:Nat) (J:Int) (O:Int) (B:List (S36)) (Z:List (S86)):Option (Int):=(call_within.f J 2 64).bind fun γ=>(if γ=true then ((call_within.f O 1 8).bind fun δ =>(if δ = true then ((rightP_H.f B Z J O).bind fun ε =>(if ε = true then ((rightP_I.f B Z J O).bind fun η =>(call_Check.j0 k (!η))) else (call_Check.j0 k true))) else (call_Check.j0 k true))) else (call_Check.j0 k true))
theorem call_Check.Zp:∀ k,(∀ O,LeO (call_Check.j0 k O) (call_Check.j0 (k+1) O))
 |0=>fun _ r h=>by simp[call_Check.j0] at h
 |k+1=>by
  have B:=call_Check.Zp k
  ·intro O
   unfold call_Check.j0
   repeat' first
   |(with_reducible exact B _)
   |(with_reducible exact LeO.refl _)
   |(with_reducible exact LeO.none _)
   |(with_reducible refine LeO.ite ?_ ?_)
   |(with_reducible refine LeO.bind ?_ (fun _=>?_))
   |exact B _
   |exact LeO.none _
   |refine LeO.ite ?_ ?_
   |refine LeO.bind ?_ (fun _=>?_)
theorem call_Check.mono:∀ J Y a2 a3 k,LeO (call_Check.f k J Y a2 a3) (call_Check.f (k+1) J Y a2 a3):=by
 intro J Y a2 a3 k
 have B:=call_Check.Zp k
 unfold call_Check.f
 repeat' first
   |(with_reducible exact B _)
   |(with_reducible exact LeO.refl _)
   |(with_reducible exact LeO.none _)
   |(with_reducible refine LeO.ite ?_ ?_)
   |(with_reducible refine LeO.bind ?_ (fun _=>?_))
   |exact B _
   |exact LeO.none _
   |refine LeO.ite ?_ ?_
   |refine LeO.bind ?_ (fun _=>?_)
def call_Check.T1:Bool×List (List Nat×List Nat):=(true,[([],[]),([0],[0]),([1],[1]),([2],[2]),([3,2],[3]),([4],[4]),([5,4],[4,5]),([6,4,4],[4,6]),([7,4],[4,7]),([4,8],[4,8]),([9,7],[9]),([10],[10]),([11,10,10],[10,11]),([10],[10]),([13,12,10],[10,13]),([12,14,14,10],[10,12,14]),([15,10],[10,15]),([10,16],[10,16]),([17,15],[17]),([18],[18]),([19,18,18],[18,19]),([18],[18]),([21,20,18],[18,21]),([20,22,22,18],[18,20,22]),([23,18],[18,23]),([18,24],[18,24])])
def call_Check.B1:List Nat:=[0,1,3,7,15,31,63,127,255,511,1023,2047,4095,2047,16383,32767,65535,131071,262143,524287,1048575,524287,4194303,8388607,16777215,33554431]
theorem call_Check.Km:rtab .any (opsOf Try.f40 1)=call_Check.T1:=by kernel_rfl
theorem call_Check.Y3:Zk call_Check.T1.2 call_Check.B1=true:=by kernel_rfl
set_option maxHeartbeats 8000000 in
set_option maxRecDepth 100000 in
theorem call_Check.calls (k:Nat) (J:Int) (O:Int) (κ :Option Addr) (θ :Nat) (B:List (S36)) (μ :Option Addr) (ι :Nat) (Z:List (S86)) (r:Int) (w:World) (aj:Kd.C k36 w κ B.length B) (ak:B.length ≤ θ) (al:Kd.C k86 w μ Z.length Z) (am:Z.length ≤ ι) (h:call_Check.f k J O B Z=some r):
  Calls Try.prog 40 #[.agg #[.int .i64 J,.int .i64 O],.agg #[.slice κ B.length θ,.slice μ Z.length ι]] w fun e w'=>e = .returned (.int .i64 r)∧Below w.heap.size w w':=by
 have jf:=Try.underlying59
 have ed:=Try.underlying50
 have a4:=Aside0.mk aj
 have ao:=Aside0.mk ak
 clear aj ak
 have a6:=Aside0.mk al
 have ap:=Aside0.mk am
 clear al am
 have HB:=Aside0.mk (Below.refl w.heap.size w)
 have H:((call_within.f J 2 64).bind fun γ=>(if γ=true then ((call_within.f O 1 8).bind fun δ =>(if δ = true then ((rightP_H.f B Z J O).bind fun ε =>(if ε = true then ((rightP_I.f B Z J O).bind fun η =>(call_Check.j0 k (!η))) else (call_Check.j0 k true))) else (call_Check.j0 k true))) else (call_Check.j0 k true)))=some r:=h
 clear h
 have a1:=Aside0.mk H
 clear H
 go_enter Try.func40,Try.ntmps40
 go_upto_region 1 with(first|((with_reducible refine Qf (N:=2) rfl ?_);refine qE 2 #[.int .i64 J,.int .i64 O] 59 ?_;intro a0 hg w4 hbox hb;have X:=Aside0.mk hbox;have bg:=sGe hg;have bj:=sGe hg;replace HB:=sHb hb;clear hb hbox hg)|((with_reducible refine Qf (N:=3) rfl ?_);refine qE 3 #[.slice κ B.length θ,.slice μ Z.length ι] 50 ?_;intro ω hg w5 hbox hb;have Y:=Aside0.mk hbox;have bk:=sGe hg;have bl:=sGe hg;have ξ :=sNl X hg;have ρ:=sNg X hg;replace X:=sBk X hb;replace HB:=sHb hb;clear hb hbox hg))
 (try simp only[Act.put,qS])
 go_cut [30] (fun a2 wc=>∃ (kq:Nat) (ζ :Bool),a2 = .bool ζ ∧ Aside0 (call_Check.j0 kq ζ = some r)∧Aside0 (kq≤k)∧Aside0 (wc.heap[a0]?=some (.cells #[.int .i64 J,.int .i64 O] 59 (0,0)))∧Aside0 (wc.heap[ω]?=some (.cells #[(.slice κ B.length θ),(.slice μ Z.length ι)] 50 (0,0)))∧Aside0 (Below w.heap.size w wc))
 case first=>
  have H:=a1.out
  clear a1
  replace H:=Option.bind_eq_some_iff.mp H
  obtain⟨γ,d0,H⟩:=H
  replace H:(if γ=true then ((call_within.f O 1 8).bind fun δ =>(if δ = true then ((rightP_H.f B Z J O).bind fun ε =>(if ε = true then ((rightP_I.f B Z J O).bind fun η =>(call_Check.j0 k (!η))) else (call_Check.j0 k true))) else (call_Check.j0 k true))) else (call_Check.j0 k true))=some r:=H
  have A6:=Aside0.mk d0
  clear d0
  by_cases c7:γ=true
  ·subst c7
   have H1:((call_within.f O 1 8).bind fun δ =>(if δ = true then ((rightP_H.f B Z J O).bind fun ε =>(if ε = true then ((rightP_I.f B Z J O).bind fun η =>(call_Check.j0 k (!η))) else (call_Check.j0 k true))) else (call_Check.j0 k true)))=some r:=by rw[if_pos rfl] at H;exact H
   clear H
   have H:=H1
   clear H1
   replace H:=Option.bind_eq_some_iff.mp H
   obtain⟨δ,b8,H⟩:=H
   replace H:(if δ = true then ((rightP_H.f B Z J O).bind fun ε =>(if ε = true then ((rightP_I.f B Z J O).bind fun η =>(call_Check.j0 k (!η))) else (call_Check.j0 k true))) else (call_Check.j0 k true))=some r:=H
   have A8:=Aside0.mk b8
   clear b8
   by_cases c9: δ = true
   ·subst c9
    have H1:((rightP_H.f B Z J O).bind fun ε =>(if ε = true then ((rightP_I.f B Z J O).bind fun η =>(call_Check.j0 k (!η))) else (call_Check.j0 k true)))=some r:=by rw[if_pos rfl] at H;exact H
    clear H
    have H:=H1
    clear H1
    replace H:=Option.bind_eq_some_iff.mp H
    obtain⟨ε,cz,H⟩:=H
    replace H:(if ε = true then ((rightP_I.f B Z J O).bind fun η =>(call_Check.j0 k (!η))) else (call_Check.j0 k true))=some r:=H
    have bq:=Aside0.mk cz
    clear cz
    by_cases ag: ε = true
    ·subst ag
     have H1:((rightP_I.f B Z J O).bind fun η =>(call_Check.j0 k (!η)))=some r:=by rw[if_pos rfl] at H;exact H
     clear H
     have H:=H1
     clear H1
     replace H:=Option.bind_eq_some_iff.mp H
     obtain⟨η,ah,H⟩:=H
     replace H:(call_Check.j0 k (!η))=some r:=H
     have a7:=Aside0.mk ah
     clear ah
     have H':=Aside0.mk H
     clear H
     try go_wp2
     replace X:=Aside0.mk (Qe X.out)
     replace Y:=Aside0.mk (Qe Y.out)
     replace HB:=Aside0.mk (Qg HB.out)
     refine Zi (n:=26) (S:=fun w'=>w'.cell? ⟨a0,0,none⟩=some (.int .i64 J)∧w'.cell? ⟨a0,1,none⟩=some (.int .i64 O)∧w'.cell? ⟨ω,0,none⟩=some (.slice κ B.length θ)∧w'.cell? ⟨ω,1,none⟩=some (.slice μ Z.length ι)) (ds:=[]) #[false,false,false,false,false,false,false,false,false,false,false,false,false,false,false,false,false,false,false,false,false,false,false,false,false,false] kr rfl rfl ⟨(Qa X.out 0).trans rfl,(Qa X.out 1).trans rfl,(Qa Y.out 0).trans rfl,(Qa Y.out 1).trans rfl⟩ (fun hHeld=>?_);refine Q9 call_Check.Km call_Check.Y3 (fun HT_ HW_=>?_)
     generalize w5.drew=fx at X Y HB hHeld ⊢
     refine qP 0 (some 5) (bN 26 1) HT_ ?_
     refine qT 1 (some 6) (bN 26 3) HT_ HW_ hHeld ?_
     refine Zb (i:=2) (N:=some 7) (bN 26 7) rfl rfl (Q4 HT_.out kr) (by decide) (fun K hK=>?_)
     refine Za Try.func44 kr rfl #[.int .i64 J,.int .i64 2,.int .i64 64] (by rfl) rfl rfl qM ?_
     with_reducible refine(call_within.calls J 2 64 true _ A6.out).mono ?_
     rintro e w' ⟨rfl,⟨nd,rfl⟩⟩
     refine⟨_,rfl, ?_⟩
     refine hK.out _ _ ⟨qc X,qc X,qc Y,qc Y⟩ (fun hHeld=>?_)
     clear hK K
     refine qN (some 7) ?_
     refine qP 3 (some 8) (bN 26 15) HT_ ?_
     refine qP 4 (some 9) (bN 26 31) HT_ ?_
     refine qP 5 (some 10) (bN 26 63) HT_ ?_
     refine qT 6 (some 11) (bN 26 127) HT_ HW_ hHeld ?_
     refine Zb (i:=7) (N:=some 12) (bN 26 255) rfl rfl (Q4 HT_.out kr) (by decide) (fun K hK=>?_)
     refine Za Try.func44 kr rfl #[.int .i64 O,.int .i64 1,.int .i64 8] (by rfl) rfl rfl qM ?_
     with_reducible refine(call_within.calls O 1 8 true _ A8.out).mono ?_
     rintro e w' ⟨rfl,⟨nd,rfl⟩⟩
     refine⟨_,rfl, ?_⟩
     refine hK.out _ _ ⟨qc X,qc X,qc Y,qc Y⟩ (fun hHeld=>?_)
     clear hK K
     refine qN (some 12) ?_
     refine qP 8 (some 13) (bN 26 511) HT_ ?_
     refine qP 9 (some 14) (bN 26 1023) HT_ ?_
     refine qP 10 (some 15) (bN 26 2047) HT_ ?_
     refine qT 11 (some 16) (bN 26 4095) HT_ HW_ hHeld ?_
     refine qT 13 (some 18) (bN 26 12287) HT_ HW_ hHeld ?_
     refine Zb (i:=12) (N:=some 17) (bN 26 16383) rfl rfl (Q4 HT_.out kr) (by decide) (fun K hK=>?_)
     refine Za Try.func63 kr rfl #[.agg #[.slice κ B.length θ,.slice μ Z.length ι]] (by rfl) rfl rfl qM ?_
     refine(Ka κ μ B.length Z.length θ ι _).mono ?_
     rintro e ba ⟨rfl,hb⟩
     refine⟨_,rfl, ?_⟩
     replace X:=sBk X hb
     replace Y:=sBk Y hb
     replace HB:=sHb hb
     (try clear hb)
     (try clear ac)
     (try clear hk)
     (try clear hi)
     refine hK.out _ _ ⟨qc X,qc X,qc Y,qc Y⟩ (fun hHeld=>?_)
     clear hK K
     refine qN (some 17) ?_
     refine Zb (i:=14) (N:=some 19) (bN 26 32767) rfl rfl (Q4 HT_.out kr) (by decide) (fun K hK=>?_)
     refine Za Try.func65 kr rfl #[.agg #[.int .i64 J,.int .i64 O]] (by rfl) rfl rfl qM ?_
     refine(Jr J O _).mono ?_
     rintro e bd ⟨ν,rfl,hgp,hgw,hb⟩
     have φ :=Aside0.mk hgp
     clear hgp hgw
     refine⟨_,rfl, ?_⟩
     replace X:=sBk X hb
     replace Y:=sBk Y hb
     replace HB:=sHb hb
     (try clear hb)
     (try clear ac)
     (try clear hk)
     (try clear hi)
     refine hK.out _ _ ⟨qc X,qc X,qc Y,qc Y⟩ (fun hHeld=>?_)
     clear hK K
     refine qN (some 19) ?_
     refine Zb (i:=15) (N:=some 20) (bN 26 65535) rfl rfl (Q4 HT_.out kr) (by decide) (fun K hK=>?_)
     refine Za Try.func64 kr rfl #[.agg #[.slice κ B.length θ,.func (.func 79) #[] #[]],.func (.func 82) #[] #[.pointer (some ⟨ν,0,none⟩)]] (by rfl) rfl rfl qM ?_
     with_reducible refine(rightP_H.calls κ θ B μ ι Z J O true _ ?side1 ?side2 ?side3 ?side4 bq.out ν φ.out).mono ?_
     (case side1=>exact(Kd.Qy a4.out HB.out))
     (case side2=>exact ao.out)
     (case side3=>exact(Kd.Qy a6.out HB.out))
     (case side4=>exact ap.out)
     rintro e ec ⟨rfl,hb⟩
     refine⟨_,rfl, ?_⟩
     replace X:=sBk X hb
     replace Y:=sBk Y hb
     replace HB:=sHb hb
     (try clear hb)
     (try clear ac)
     (try clear hk)
     (try clear hi)
     refine hK.out _ _ ⟨qc X,qc X,qc Y,qc Y⟩ (fun hHeld=>?_)
     clear hK K
     refine qN (some 20) ?_
     refine qP 16 (some 21) (bN 26 131071) HT_ ?_
     refine qP 17 (some 22) (bN 26 262143) HT_ ?_
     refine qP 18 (some 23) (bN 26 524287) HT_ ?_
     refine qT 19 (some 24) (bN 26 1048575) HT_ HW_ hHeld ?_
     refine qT 21 (some 26) (bN 26 3145727) HT_ HW_ hHeld ?_
     refine Zb (i:=20) (N:=some 25) (bN 26 4194303) rfl rfl (Q4 HT_.out kr) (by decide) (fun K hK=>?_)
     refine Za Try.func66 kr rfl #[.agg #[.slice κ B.length θ,.slice μ Z.length ι]] (by rfl) rfl rfl qM ?_
     refine(Gm κ μ B.length Z.length θ ι _).mono ?_
     rintro e be ⟨rfl,hb⟩
     refine⟨_,rfl, ?_⟩
     replace X:=sBk X hb
     replace Y:=sBk Y hb
     replace HB:=sHb hb
     (try clear hb)
     (try clear ac)
     (try clear hk)
     (try clear hi)
     refine hK.out _ _ ⟨qc X,qc X,qc Y,qc Y⟩ (fun hHeld=>?_)
     clear hK K
     refine qN (some 25) ?_
     refine Zb (i:=22) (N:=some 27) (bN 26 8388607) rfl rfl (Q4 HT_.out kr) (by decide) (fun K hK=>?_)
     refine Za Try.func68 kr rfl #[.agg #[.int .i64 J,.int .i64 O]] (by rfl) rfl rfl qM ?_
     refine(Uy J O _).mono ?_
     rintro e a3 ⟨σ,rfl,hgp,hgw,hb⟩
     have χ :=Aside0.mk hgp
     clear hgp hgw
     refine⟨_,rfl, ?_⟩
     replace X:=sBk X hb
     replace Y:=sBk Y hb
     replace HB:=sHb hb
     (try clear hb)
     (try clear ac)
     (try clear hk)
     (try clear hi)
     refine hK.out _ _ ⟨qc X,qc X,qc Y,qc Y⟩ (fun hHeld=>?_)
     clear hK K
     refine qN (some 27) ?_
     refine Zb (i:=23) (N:=some 28) (bN 26 16777215) rfl rfl (Q4 HT_.out kr) (by decide) (fun K hK=>?_)
     refine Za Try.func67 kr rfl #[.agg #[.slice μ Z.length ι,.func (.func 83) #[] #[]],.func (.func 84) #[] #[.pointer (some ⟨σ,0,none⟩)]] (by rfl) rfl rfl qM ?_
     with_reducible refine(rightP_I.calls κ θ B μ ι Z J O η _ ?side1 ?side2 ?side3 ?side4 a7.out σ χ.out).mono ?_
     (case side1=>exact(Kd.Qy a4.out HB.out))
     (case side2=>exact ao.out)
     (case side3=>exact(Kd.Qy a6.out HB.out))
     (case side4=>exact ap.out)
     rintro e ge ⟨rfl,hb⟩
     refine⟨_,rfl, ?_⟩
     replace X:=sBk X hb
     replace Y:=sBk Y hb
     replace HB:=sHb hb
     (try clear hb)
     (try clear ac)
     (try clear hk)
     (try clear hi)
     refine hK.out _ _ ⟨qc X,qc X,qc Y,qc Y⟩ (fun hHeld=>?_)
     clear hK K
     refine qN (some 28) ?_
     refine qP 24 (some 29) (bN 26 33554431) HT_ ?_
     refine qP 25 (some 30) (bN 26 67108863) HT_ ?_
     refine Zx (Ze HT_.out kr) ?_
     try go_wp2
     go_meet
     case rel=>exact⟨_,(!η),rfl,H',⟨by first|omega|exact Nat.le_refl _⟩,X,Y,HB⟩
    ·replace ag:=Bool.eq_false_iff.mpr ag
     subst ag
     have H1:(call_Check.j0 k true)=some r:=by rw[if_neg (show ¬ (false=true) by decide)] at H;exact H
     clear H
     have H:=H1
     clear H1
     have H':=Aside0.mk H
     clear H
     try go_wp2
     replace X:=Aside0.mk (Qe X.out)
     replace Y:=Aside0.mk (Qe Y.out)
     replace HB:=Aside0.mk (Qg HB.out)
     refine Zi (n:=26) (S:=fun w'=>w'.cell? ⟨a0,0,none⟩=some (.int .i64 J)∧w'.cell? ⟨a0,1,none⟩=some (.int .i64 O)∧w'.cell? ⟨ω,0,none⟩=some (.slice κ B.length θ)∧w'.cell? ⟨ω,1,none⟩=some (.slice μ Z.length ι)) (ds:=[]) #[false,false,false,false,false,false,false,false,false,false,false,false,false,false,false,false,false,false,false,false,false,false,false,false,false,false] kr rfl rfl ⟨(Qa X.out 0).trans rfl,(Qa X.out 1).trans rfl,(Qa Y.out 0).trans rfl,(Qa Y.out 1).trans rfl⟩ (fun hHeld=>?_);refine Q9 call_Check.Km call_Check.Y3 (fun HT_ HW_=>?_)
     generalize w5.drew=ct at X Y HB hHeld ⊢
     refine qP 0 (some 5) (bN 26 1) HT_ ?_
     refine qT 1 (some 6) (bN 26 3) HT_ HW_ hHeld ?_
     refine Zb (i:=2) (N:=some 7) (bN 26 7) rfl rfl (Q4 HT_.out kr) (by decide) (fun K hK=>?_)
     refine Za Try.func44 kr rfl #[.int .i64 J,.int .i64 2,.int .i64 64] (by rfl) rfl rfl qM ?_
     with_reducible refine(call_within.calls J 2 64 true _ A6.out).mono ?_
     rintro e w' ⟨rfl,⟨nd,rfl⟩⟩
     refine⟨_,rfl, ?_⟩
     refine hK.out _ _ ⟨qc X,qc X,qc Y,qc Y⟩ (fun hHeld=>?_)
     clear hK K
     refine qN (some 7) ?_
     refine qP 3 (some 8) (bN 26 15) HT_ ?_
     refine qP 4 (some 9) (bN 26 31) HT_ ?_
     refine qP 5 (some 10) (bN 26 63) HT_ ?_
     refine qT 6 (some 11) (bN 26 127) HT_ HW_ hHeld ?_
     refine Zb (i:=7) (N:=some 12) (bN 26 255) rfl rfl (Q4 HT_.out kr) (by decide) (fun K hK=>?_)
     refine Za Try.func44 kr rfl #[.int .i64 O,.int .i64 1,.int .i64 8] (by rfl) rfl rfl qM ?_
     with_reducible refine(call_within.calls O 1 8 true _ A8.out).mono ?_
     rintro e w' ⟨rfl,⟨nd,rfl⟩⟩
     refine⟨_,rfl, ?_⟩
     refine hK.out _ _ ⟨qc X,qc X,qc Y,qc Y⟩ (fun hHeld=>?_)
     clear hK K
     refine qN (some 12) ?_
     refine qP 8 (some 13) (bN 26 511) HT_ ?_
     refine qP 9 (some 14) (bN 26 1023) HT_ ?_
     refine qP 10 (some 15) (bN 26 2047) HT_ ?_
     refine qT 11 (some 16) (bN 26 4095) HT_ HW_ hHeld ?_
     refine qT 13 (some 18) (bN 26 12287) HT_ HW_ hHeld ?_
     refine Zb (i:=12) (N:=some 17) (bN 26 16383) rfl rfl (Q4 HT_.out kr) (by decide) (fun K hK=>?_)
     refine Za Try.func63 kr rfl #[.agg #[.slice κ B.length θ,.slice μ Z.length ι]] (by rfl) rfl rfl qM ?_
     refine(Ka κ μ B.length Z.length θ ι _).mono ?_
     rintro e a5 ⟨rfl,hb⟩
     refine⟨_,rfl, ?_⟩
     replace X:=sBk X hb
     replace Y:=sBk Y hb
     replace HB:=sHb hb
     (try clear hb)
     (try clear ac)
     (try clear hk)
     (try clear hi)
     refine hK.out _ _ ⟨qc X,qc X,qc Y,qc Y⟩ (fun hHeld=>?_)
     clear hK K
     refine qN (some 17) ?_
     refine Zb (i:=14) (N:=some 19) (bN 26 32767) rfl rfl (Q4 HT_.out kr) (by decide) (fun K hK=>?_)
     refine Za Try.func65 kr rfl #[.agg #[.int .i64 J,.int .i64 O]] (by rfl) rfl rfl qM ?_
     refine(Jr J O _).mono ?_
     rintro e a8 ⟨τ,rfl,hgp,hgw,hb⟩
     have ψ :=Aside0.mk hgp
     clear hgp hgw
     refine⟨_,rfl, ?_⟩
     replace X:=sBk X hb
     replace Y:=sBk Y hb
     replace HB:=sHb hb
     (try clear hb)
     (try clear ac)
     (try clear hk)
     (try clear hi)
     refine hK.out _ _ ⟨qc X,qc X,qc Y,qc Y⟩ (fun hHeld=>?_)
     clear hK K
     refine qN (some 19) ?_
     refine Zb (i:=15) (N:=some 20) (bN 26 65535) rfl rfl (Q4 HT_.out kr) (by decide) (fun K hK=>?_)
     refine Za Try.func64 kr rfl #[.agg #[.slice κ B.length θ,.func (.func 79) #[] #[]],.func (.func 82) #[] #[.pointer (some ⟨τ,0,none⟩)]] (by rfl) rfl rfl qM ?_
     with_reducible refine(rightP_H.calls κ θ B μ ι Z J O false _ ?side1 ?side2 ?side3 ?side4 bq.out τ ψ.out).mono ?_
     (case side1=>exact(Kd.Qy a4.out HB.out))
     (case side2=>exact ao.out)
     (case side3=>exact(Kd.Qy a6.out HB.out))
     (case side4=>exact ap.out)
     rintro e eb ⟨rfl,hb⟩
     refine⟨_,rfl, ?_⟩
     replace X:=sBk X hb
     replace Y:=sBk Y hb
     replace HB:=sHb hb
     (try clear hb)
     (try clear ac)
     (try clear hk)
     (try clear hi)
     refine hK.out _ _ ⟨qc X,qc X,qc Y,qc Y⟩ (fun hHeld=>?_)
     clear hK K
     refine qN (some 20) ?_
     refine qP 16 (some 21) (bN 26 131071) HT_ ?_
     refine qP 17 (some 22) (bN 26 262143) HT_ ?_
     refine qP 18 (some 23) (bN 26 524287) HT_ ?_
     refine qU 19 (some 24) (bN 26 1048575) HT_ ?_
     refine qU 20 (some 25) (bN 26 2097151) HT_ ?_
     refine qU 21 (some 26) (bN 26 4194303) HT_ ?_
     refine qU 22 (some 27) (bN 26 8388607) HT_ ?_
     refine qU 23 (some 28) (bN 26 16777215) HT_ ?_
     refine qU 24 (some 29) (bN 26 33554431) HT_ ?_
     refine qP 25 (some 30) (bN 26 67108863) HT_ ?_
     refine Zx (Ze HT_.out kr) ?_
     try go_wp2
     go_meet
     case rel=>exact⟨_,(true),rfl,H',⟨by first|omega|exact Nat.le_refl _⟩,X,Y,HB⟩
   ·replace c9:=Bool.eq_false_iff.mpr c9
    subst c9
    have H1:(call_Check.j0 k true)=some r:=by rw[if_neg (show ¬ (false=true) by decide)] at H;exact H
    clear H
    have H:=H1
    clear H1
    have H':=Aside0.mk H
    clear H
    try go_wp2
    replace X:=Aside0.mk (Qe X.out)
    replace Y:=Aside0.mk (Qe Y.out)
    replace HB:=Aside0.mk (Qg HB.out)
    refine Zi (n:=26) (S:=fun w'=>w'.cell? ⟨a0,0,none⟩=some (.int .i64 J)∧w'.cell? ⟨a0,1,none⟩=some (.int .i64 O)) (ds:=[]) #[false,false,false,false,false,false,false,false,false,false,false,false,false,false,false,false,false,false,false,false,false,false,false,false,false,false] kr rfl rfl ⟨(Qa X.out 0).trans rfl,(Qa X.out 1).trans rfl⟩ (fun hHeld=>?_);refine Q9 call_Check.Km call_Check.Y3 (fun HT_ HW_=>?_)
    generalize w5.drew=i2 at X Y HB hHeld ⊢
    refine qP 0 (some 5) (bN 26 1) HT_ ?_
    refine qT 1 (some 6) (bN 26 3) HT_ HW_ hHeld ?_
    refine Zb (i:=2) (N:=some 7) (bN 26 7) rfl rfl (Q4 HT_.out kr) (by decide) (fun K hK=>?_)
    refine Za Try.func44 kr rfl #[.int .i64 J,.int .i64 2,.int .i64 64] (by rfl) rfl rfl qM ?_
    with_reducible refine(call_within.calls J 2 64 true _ A6.out).mono ?_
    rintro e w' ⟨rfl,⟨nd,rfl⟩⟩
    refine⟨_,rfl, ?_⟩
    refine hK.out _ _ ⟨qc X,qc X⟩ (fun hHeld=>?_)
    clear hK K
    refine qN (some 7) ?_
    refine qP 3 (some 8) (bN 26 15) HT_ ?_
    refine qP 4 (some 9) (bN 26 31) HT_ ?_
    refine qP 5 (some 10) (bN 26 63) HT_ ?_
    refine qT 6 (some 11) (bN 26 127) HT_ HW_ hHeld ?_
    refine Zb (i:=7) (N:=some 12) (bN 26 255) rfl rfl (Q4 HT_.out kr) (by decide) (fun K hK=>?_)
    refine Za Try.func44 kr rfl #[.int .i64 O,.int .i64 1,.int .i64 8] (by rfl) rfl rfl qM ?_
    with_reducible refine(call_within.calls O 1 8 false _ A8.out).mono ?_
    rintro e w' ⟨rfl,⟨nd,rfl⟩⟩
    refine⟨_,rfl, ?_⟩
    refine hK.out _ _ ⟨qc X,qc X⟩ (fun hHeld=>?_)
    clear hK K
    refine qN (some 12) ?_
    refine qP 8 (some 13) (bN 26 511) HT_ ?_
    refine qP 9 (some 14) (bN 26 1023) HT_ ?_
    refine qP 10 (some 15) (bN 26 2047) HT_ ?_
    refine qU 11 (some 16) (bN 26 4095) HT_ ?_
    refine qU 12 (some 17) (bN 26 8191) HT_ ?_
    refine qU 13 (some 18) (bN 26 16383) HT_ ?_
    refine qU 14 (some 19) (bN 26 32767) HT_ ?_
    refine qU 15 (some 20) (bN 26 65535) HT_ ?_
    refine qU 16 (some 21) (bN 26 131071) HT_ ?_
    refine qP 17 (some 22) (bN 26 262143) HT_ ?_
    refine qP 18 (some 23) (bN 26 524287) HT_ ?_
    refine qU 19 (some 24) (bN 26 1048575) HT_ ?_
    refine qU 20 (some 25) (bN 26 2097151) HT_ ?_
    refine qU 21 (some 26) (bN 26 4194303) HT_ ?_
    refine qU 22 (some 27) (bN 26 8388607) HT_ ?_
    refine qU 23 (some 28) (bN 26 16777215) HT_ ?_
    refine qU 24 (some 29) (bN 26 33554431) HT_ ?_
    refine qP 25 (some 30) (bN 26 67108863) HT_ ?_
    refine Zx (Ze HT_.out kr) ?_
    try go_wp2
    go_meet
    case rel=>exact⟨_,(true),qR,H',⟨by first|omega|exact Nat.le_refl _⟩,⟨bka X⟩,⟨bka Y⟩,⟨bel⟩⟩
  ·replace c7:=Bool.eq_false_iff.mpr c7
   subst c7
   have H1:(call_Check.j0 k true)=some r:=by rw[if_neg (show ¬ (false=true) by decide)] at H;exact H
   clear H
   have H:=H1
   clear H1
   have H':=Aside0.mk H
   clear H
   try go_wp2
   replace X:=Aside0.mk (Qe X.out)
   replace Y:=Aside0.mk (Qe Y.out)
   replace HB:=Aside0.mk (Qg HB.out)
   refine Zi (n:=26) (S:=fun w'=>w'.cell? ⟨a0,0,none⟩=some (.int .i64 J)∧w'.cell? ⟨a0,1,none⟩=some (.int .i64 O)) (ds:=[]) #[false,false,false,false,false,false,false,false,false,false,false,false,false,false,false,false,false,false,false,false,false,false,false,false,false,false] kr rfl rfl ⟨(Qa X.out 0).trans rfl,(Qa X.out 1).trans rfl⟩ (fun hHeld=>?_);refine Q9 call_Check.Km call_Check.Y3 (fun HT_ HW_=>?_)
   generalize w5.drew=b6 at X Y HB hHeld ⊢
   refine qP 0 (some 5) (bN 26 1) HT_ ?_
   refine qT 1 (some 6) (bN 26 3) HT_ HW_ hHeld ?_
   refine Zb (i:=2) (N:=some 7) (bN 26 7) rfl rfl (Q4 HT_.out kr) (by decide) (fun K hK=>?_)
   refine Za Try.func44 kr rfl #[.int .i64 J,.int .i64 2,.int .i64 64] (by rfl) rfl rfl qM ?_
   with_reducible refine(call_within.calls J 2 64 false _ A6.out).mono ?_
   rintro e w' ⟨rfl,⟨nd,rfl⟩⟩
   refine⟨_,rfl, ?_⟩
   refine hK.out _ _ ⟨qc X,qc X⟩ (fun hHeld=>?_)
   clear hK K
   refine qN (some 7) ?_
   refine qP 3 (some 8) (bN 26 15) HT_ ?_
   refine qP 4 (some 9) (bN 26 31) HT_ ?_
   refine qU 5 (some 10) (bN 26 63) HT_ ?_
   refine qU 6 (some 11) (bN 26 127) HT_ ?_
   refine qU 7 (some 12) (bN 26 255) HT_ ?_
   refine qU 8 (some 13) (bN 26 511) HT_ ?_
   refine qP 9 (some 14) (bN 26 1023) HT_ ?_
   refine qP 10 (some 15) (bN 26 2047) HT_ ?_
   refine qU 11 (some 16) (bN 26 4095) HT_ ?_
   refine qU 12 (some 17) (bN 26 8191) HT_ ?_
   refine qU 13 (some 18) (bN 26 16383) HT_ ?_
   refine qU 14 (some 19) (bN 26 32767) HT_ ?_
   refine qU 15 (some 20) (bN 26 65535) HT_ ?_
   refine qU 16 (some 21) (bN 26 131071) HT_ ?_
   refine qP 17 (some 22) (bN 26 262143) HT_ ?_
   refine qP 18 (some 23) (bN 26 524287) HT_ ?_
   refine qU 19 (some 24) (bN 26 1048575) HT_ ?_
   refine qU 20 (some 25) (bN 26 2097151) HT_ ?_
   refine qU 21 (some 26) (bN 26 4194303) HT_ ?_
   refine qU 22 (some 27) (bN 26 8388607) HT_ ?_
   refine qU 23 (some 28) (bN 26 16777215) HT_ ?_
   refine qU 24 (some 29) (bN 26 33554431) HT_ ?_
   refine qP 25 (some 30) (bN 26 67108863) HT_ ?_
   refine Zx (Ze HT_.out kr) ?_
   try go_wp2
   go_meet
   case rel=>exact⟨_,(true),qR,H',⟨by first|omega|exact Nat.le_refl _⟩,⟨bka X⟩,⟨bka Y⟩,⟨bel⟩⟩
 case rest=>
  clear a1
  try clear c1
  try clear p2
  try clear c4
  try clear c6
  try clear c7
  try clear c9
  obtain⟨kq,ζ,rfl,HA,en,X,Y,HB⟩:=hcut
  cases kq with
  |zero=>exact absurd HA.out (by simp[call_Check.j0])
  |succ fc=>
   have H:=HA.out
   clear HA
   simp only[call_Check.j0] at H
   by_cases cq: ζ = true
   ·subst cq
    have H1:(some 190)=some r:=by rw[if_pos rfl] at H;exact H
    clear H
    have H:=H1
    clear H1
    obtain rfl:=Option.some.inj H
    go_wp2
    go_ret
    exact⟨rfl,HB.out⟩
   ·replace cq:=Bool.eq_false_iff.mpr cq
    subst cq
    have H1:(some 0)=some r:=by rw[if_neg (show ¬ (false=true) by decide)] at H;exact H
    clear H
    have H:=H1
    clear H1
    obtain rfl:=Option.some.inj H
    go_wp2
    go_ret
    exact⟨rfl,HB.out⟩
def call_change.f (U_:Option (List S36)) (I_:Option (List S86)) (k:Nat) (J:Int) (O:Int) (B:List (S36)) (Z:List (S86)) (a2:Bool) (a3:Int) (a9:Int) (aa:Int) (ab:Int) (a5:Int) (b6:Int) (b7:Int):Option ((List (S36))×(List (S86))×Int):=(call_Check.f k J O B Z).bind fun η =>(if η = 0 then (if a2=true then ((U_).bind fun ν =>((I_).bind fun ψ =>(some (ν,ψ,0)))) else (some (([]:List (S36)),([]:List (S86)),191))) else (some (([]:List (S36)),([]:List (S86)),η)))
theorem call_change.mono:∀ U_ I_ J Y a2 a3 O a5 X a7 a8 a9 Z γ k,LeO (call_change.f U_ I_ k J Y a2 a3 O a5 X a7 a8 a9 Z γ) (call_change.f U_ I_ (k+1) J Y a2 a3 O a5 X a7 a8 a9 Z γ):=by
 intro U_ I_ J Y a2 a3 O a5 X a7 a8 a9 Z γ k
 unfold call_change.f
 repeat' first
   |(with_reducible exact call_Check.mono _ _ _ _ _)
   |(with_reducible exact LeO.refl _)
   |(with_reducible exact LeO.none _)
   |(with_reducible refine LeO.ite ?_ ?_)
   |(with_reducible refine LeO.bind ?_ (fun _=>?_))
   |exact call_Check.mono _ _ _ _ _
   |exact LeO.none _
   |refine LeO.ite ?_ ?_
   |refine LeO.bind ?_ (fun _=>?_)
def call_change.T6:Bool×List (List Nat×List Nat):=(true,[([],[]),([],[]),([0,1],[0,1]),([],[]),([],[]),([3,4,2],[3,4]),([2,5],[2,5]),([6,5,0,1,2,3,4,5,6],[6]),([7,0,1,2,3,4,5,6,7],[])])
def call_change.B6:List Nat:=[0,0,3,0,0,31,63,127,255]
theorem call_change.Dc:rtab .any (opsOf Try.f73 6)=call_change.T6:=by kernel_rfl
theorem call_change.Nr:Zk call_change.T6.2 call_change.B6=true:=by kernel_rfl
set_option maxHeartbeats 8000000 in
set_option maxRecDepth 100000 in
theorem call_change.calls (U_:Option (List S36)) (I_:Option (List S86)) (k:Nat) (J:Int) (O:Int) (κ :Option Addr) (θ :Nat) (B:List (S36)) (μ :Option Addr) (ι :Nat) (Z:List (S86)) (a2:Bool) (a3:Int) (a9:Int) (aa:Int) (ab:Int) (a5:Int) (b6:Int) (b7:Int) (r1:List (S36)) (r2:List (S86)) (r3:Int) (w:World) (aj:Kd.C k36 w κ B.length B) (ak:B.length ≤ θ) (al:Kd.C k86 w μ Z.length Z) (am:Z.length ≤ ι) (h:call_change.f U_ I_ k J O B Z a2 a3 a9 aa ab a5 b6 b7=some (r1,r2,r3)) (fu_:FuncId) (fnu_:Func) (ru_:Value) (hfu_:Try.prog.funcs[fu_]?=some fnu_) (hnu_:(fnu_.name == "runtime.NumGoroutine")=false) (hbu_:fnu_.body.isSome=true) (hu_:∀ (W:World) (t:List S36),U_=some t→Below w.heap.size w W→Calls Try.prog fu_ #[ru_,.agg #[.int .i64 a9,.int .i64 aa,.int .i64 ab]] W fun e w'=>∃ bb:Value,e = .returned bb∧Kd.R k36 36 w' W.heap.size (fun _=>True) bb t∧Below W.heap.size W w') (fi_:FuncId) (fni_:Func) (ri_:Value) (hfi_:Try.prog.funcs[fi_]?=some fni_) (hni_:(fni_.name == "runtime.NumGoroutine")=false) (hbi_:fni_.body.isSome=true) (hi_:∀ (W:World) (t:List S86),I_=some t→Below w.heap.size w W→Calls Try.prog fi_ #[ri_,.agg #[.int .i64 b6,.int .i64 b7]] W fun e w'=>∃ bb:Value,e = .returned bb∧Kd.R k86 86 w' W.heap.size (fun _=>True) bb t∧Below W.heap.size W w'):
  Calls Try.prog 73 #[.agg #[.int .i64 J,.int .i64 O],.agg #[.slice κ B.length θ,.slice μ Z.length ι],.bool a2,(.func (.func fu_) #[ru_] #[]),.agg #[.int .i64 a9,.int .i64 aa,.int .i64 ab],(.func (.func fi_) #[ri_] #[]),.agg #[.int .i64 b6,.int .i64 b7]] w fun e w'=>∃ bb ea:Value,e = .returned (.tuple #[.agg #[bb,ea],.int .i64 r3])∧Kd.R k36 36 w' w.heap.size (fun _=>True) bb r1∧Kd.R k86 86 w' w.heap.size (fun _=>True) ea r2∧Below w.heap.size w w':=by
 have HFU:=Aside0.mk hfu_
 have HNU:=Aside0.mk hnu_
 have HBU:=Aside0.mk hbu_
 have HCU:=Aside0.mk hu_
 have HFI:=Aside0.mk hfi_
 have HNI:=Aside0.mk hni_
 have HBI:=Aside0.mk hbi_
 have HCI:=Aside0.mk hi_
 clear hfu_ hnu_ hbu_ hu_ hfi_ hni_ hbi_ hi_
 have jf:=Try.underlying59
 have ed:=Try.underlying50
 have e4:=Try.underlying36
 have dl:=Try.underlying86
 have a4:=Aside0.mk aj
 have ao:=Aside0.mk ak
 clear aj ak
 have a6:=Aside0.mk al
 have ap:=Aside0.mk am
 clear al am
 have HB:=Aside0.mk (Below.refl w.heap.size w)
 have H:((call_Check.f k J O B Z).bind fun η =>(if η = 0 then (if a2=true then ((U_).bind fun ν =>((I_).bind fun ψ =>(some (ν,ψ,0)))) else (some (([]:List (S36)),([]:List (S86)),191))) else (some (([]:List (S36)),([]:List (S86)),η))))=some (r1,r2,r3):=h
 clear h
 replace H:=Option.bind_eq_some_iff.mp H
 obtain⟨η,b8,H⟩:=H
 replace H:(if η = 0 then (if a2=true then ((U_).bind fun ν =>((I_).bind fun ψ =>(some (ν,ψ,0)))) else (some (([]:List (S36)),([]:List (S86)),191))) else (some (([]:List (S36)),([]:List (S86)),η)))=some (r1,r2,r3):=H
 have A8:=Aside0.mk b8
 clear b8
 by_cases c9: η = 0
 ·rw[if_pos c9] at H
  have c9b0:(η == 0)=true:=beq_iff_eq.mpr c9
  have c9b1:(η != 0)=false:=bne_eq_false_iff_eq.mpr c9
  clear c9
  by_cases c10:a2=true
  ·subst c10
   have H1:((U_).bind fun ν =>((I_).bind fun ψ =>(some (ν,ψ,0))))=some (r1,r2,r3):=by rw[if_pos rfl] at H;exact H
   clear H
   have H:=H1
   clear H1
   replace H:=Option.bind_eq_some_iff.mp H
   obtain⟨ν,bp,H⟩:=H
   replace H:((I_).bind fun ψ =>(some (ν,ψ,0)))=some (r1,r2,r3):=H
   have ep:=Aside0.mk bp
   clear bp
   replace H:=Option.bind_eq_some_iff.mp H
   obtain⟨ψ,ah,H⟩:=H
   replace H:(some (ν,ψ,0))=some (r1,r2,r3):=H
   have a7:=Aside0.mk ah
   clear ah
   simp only[Option.some.injEq,Prod.mk.injEq] at H
   obtain⟨rfl,rfl,rfl⟩:=H
   go_enter Try.func73,Try.ntmps73
   try go_wp2_with (first|((with_reducible refine Qf (N:=7) rfl ?_);refine qE 7 #[.int .i64 J,.int .i64 O] 59 ?_;intro a0 hg fx hbox hb;have X:=Aside0.mk hbox;have bg:=sGe hg;have bj:=sGe hg;replace HB:=sHb hb;clear hb hbox hg)|((with_reducible refine Qf (N:=8) rfl ?_);refine qE 8 #[.slice κ B.length θ,.slice μ Z.length ι] 50 ?_;intro ω hg ec hbox hb;have Y:=Aside0.mk hbox;have bk:=sGe hg;have bl:=sGe hg;have ξ :=sNl X hg;have ρ:=sNg X hg;replace X:=sBk X hb;replace HB:=sHb hb;clear hb hbox hg)|((with_reducible refine Qf (N:=11) rfl ?_);refine qE 11 #[.int .i64 a9,.int .i64 aa,.int .i64 ab] 36 ?_;intro ba hg ge hbox hb;have ε :=Aside0.mk hbox;have bs:=sGe hg;have bv:=sGe hg;have au:=sNl X hg;have az:=sNg X hg;have b0:=sNl Y hg;have b1:=sNg Y hg;replace X:=sBk X hb;replace Y:=sBk Y hb;replace HB:=sHb hb;clear hb hbox hg)|((with_reducible refine Qf (N:=13) rfl ?_);refine qE 13 #[.int .i64 b6,.int .i64 b7] 86 ?_;intro τ hg ct hbox hb;have γ:=Aside0.mk hbox;have bh:=sGe hg;have ar:=sGe hg;have b2:=sNl X hg;have b3:=sNg X hg;have b4:=sNl Y hg;have b5:=sNg Y hg;have bd:=sNl ε hg;have be:=sNg ε hg;replace X:=sBk X hb;replace Y:=sBk Y hb;replace ε :=sBk ε hb;replace HB:=sHb hb;clear hb hbox hg)|((with_reducible refine Qf (N:=14) rfl ?_);refine qE 14 #[.slice none 0 0,.slice none 0 0] 50 ?_;intro σ hg eb hbox hb;have δ :=Aside0.mk hbox;have bf:=sGe hg;have b9:=sGe hg;have χ :=sNl X hg;have a8:=sNg X hg;have ag:=sNl Y hg;have ai:=sNg Y hg;have ζ :=sNl ε hg;have an:=sNg ε hg;have φ :=sNl γ hg;have a1:=sNg γ hg;replace X:=sBk X hb;replace Y:=sBk Y hb;replace ε :=sBk ε hb;replace γ:=sBk γ hb;replace HB:=sHb hb;clear hb hbox hg;have d6:= ξ.out;have dq:=ρ.out;have bm:=au.out;have bo:=az.out;have fv:=b2.out;have fw:=b3.out;have gb:= χ.out;have gg:=a8.out;obtain⟨bn,bq,br,bu⟩:=qD2 X.out;have dr:=b0.out;have dt:=b1.out;have cg:=b4.out;have ch:=b5.out;have f7:=ag.out;have fb:=ai.out;obtain⟨co,cp,cr,cx⟩:=qD2 Y.out)|((with_reducible refine Qo (f:=40) rfl ?_);refine Q6 (some 19) rfl rfl Try.func40 kr rfl #[.agg #[.int .i64 J,.int .i64 O],.agg #[.slice κ B.length θ,.slice μ Z.length ι]] rfl qM ?_;(with_reducible refine(call_Check.calls k J O _ _ B _ _ Z η _ ?side1 ?side2 ?side3 ?side4 A8.out).mono ?_);(case side1=>exact(Kd.Qy a4.out HB.out));(case side2=>exact ao.out);(case side3=>exact(Kd.Qy a6.out HB.out));(case side4=>exact ap.out);rintro e d8 ⟨rfl,hb⟩;refine⟨_,rfl, ?_⟩;replace X:=sBk X hb;replace Y:=sBk Y hb;replace ε :=sBk ε hb;replace γ:=sBk γ hb;replace δ :=sBk δ hb;replace HB:=sHb hb;(try clear hb);(try clear ac);(try clear hk);(try clear hi)))
   replace X:=Aside0.mk (Qe X.out)
   replace Y:=Aside0.mk (Qe Y.out)
   replace ε :=Aside0.mk (Qe ε.out)
   replace γ:=Aside0.mk (Qe γ.out)
   replace δ :=Aside0.mk (Qe δ.out)
   replace HB:=Aside0.mk (Qg HB.out)
   refine Zi (n:=9) (S:=fun w'=>w'.cell? ⟨ba,0,none⟩=some (.int .i64 a9)∧w'.cell? ⟨ba,1,none⟩=some (.int .i64 aa)∧w'.cell? ⟨ba,2,none⟩=some (.int .i64 ab)∧w'.cell? ⟨τ,0,none⟩=some (.int .i64 b6)∧w'.cell? ⟨τ,1,none⟩=some (.int .i64 b7)) (ds:=[]) #[false,false,false,false,false,false,false,false,false] kr rfl rfl ⟨(Qa ε.out 0).trans rfl,(Qa ε.out 1).trans rfl,(Qa ε.out 2).trans rfl,(Qa γ.out 0).trans rfl,(Qa γ.out 1).trans rfl⟩ (fun hHeld=>?_);refine Q9 call_change.Dc call_change.Nr (fun HT_ HW_=>?_)
   generalize d8.drew=dy at X Y ε γ δ HB hHeld ⊢
   refine qP 0 (some 27) (bN 9 1) HT_ ?_
   refine qP 3 (some 30) (bN 9 9) HT_ ?_
   refine qT 1 (some 28) (bN 9 11) HT_ HW_ hHeld ?_
   refine qT 4 (some 31) (bN 9 27) HT_ HW_ hHeld ?_
   refine Zb (i:=2) (N:=some 29) (bN 9 31) rfl rfl (Q4 HT_.out kr) (by decide) (fun K hK=>?_)
   refine X8 HFU.out HNU.out HBU.out #[ru_] #[] #[.agg #[.int .i64 a9,.int .i64 aa,.int .i64 ab]] #[ru_,.agg #[.int .i64 a9,.int .i64 aa,.int .i64 ab]] rfl (by rfl) rfl rfl rfl qM ?_
   refine(HCU.out _ ν ep.out (by repeat(first|(with_reducible first|exact HB.out|apply Qs|apply Qh|apply Qg)|exact HB.out|(refine Qv ?_ (Aside0.out (by assumption)))))).mono ?_
   rintro e e8 ⟨dp,rfl,ay,hb⟩
   refine⟨_,rfl, ?_⟩
   have bi:=Aside0.mk (Kd.Q3 (Kd.Yn ay (g:=ba) (o:=.cells #[.int .i64 a9,.int .i64 aa,.int .i64 ab] 36 (0,0)) ε.out) (Qi HB.out))
   replace X:=sBk X hb
   replace Y:=sBk Y hb
   replace ε :=sBk ε hb
   replace γ:=sBk γ hb
   replace δ :=sBk δ hb
   replace HB:=sHb hb
   (try clear hb)
   (try clear ac)
   (try clear hk)
   (try clear hi)
   (try clear ay)
   refine hK.out _ _ ⟨qc ε,qc ε,qc ε,qc γ,qc γ⟩ (fun hHeld=>?_)
   clear hK K
   refine qN (some 29) ?_
   refine Zb (i:=5) (N:=some 32) (bN 9 63) rfl rfl (Q4 HT_.out kr) (by decide) (fun K hK=>?_)
   refine X8 HFI.out HNI.out HBI.out #[ri_] #[] #[.agg #[.int .i64 b6,.int .i64 b7]] #[ri_,.agg #[.int .i64 b6,.int .i64 b7]] rfl (by rfl) rfl rfl rfl qM ?_
   refine(HCI.out _ ψ a7.out (by repeat(first|(with_reducible first|exact HB.out|apply Qs|apply Qh|apply Qg)|exact HB.out|(refine Qv ?_ (Aside0.out (by assumption)))))).mono ?_
   rintro e eo ⟨cf,rfl,ay,hb⟩
   refine⟨_,rfl, ?_⟩
   have bc:=Aside0.mk (Kd.Q3 (Kd.Yn ay (g:= τ) (o:=.cells #[.int .i64 b6,.int .i64 b7] 86 (0,0)) γ.out) (Qi HB.out))
   replace bi:=sRb bi hb
   replace X:=sBk X hb
   replace Y:=sBk Y hb
   replace ε :=sBk ε hb
   replace γ:=sBk γ hb
   replace δ :=sBk δ hb
   replace HB:=sHb hb
   (try clear hb)
   (try clear ac)
   (try clear hk)
   (try clear hi)
   (try clear ay)
   obtain⟨ci,cj,bw⟩:=Kd.Q7 bc.out
   (first|subst bw|(injection bw with ae av af;have aw:=ae.symm;have ax:=af.symm;clear ae av af;subst aw;subst ax))
   obtain⟨bz,ca,cb⟩:=Kd.Q7 bi.out
   (first|subst cb|(injection cb with ae av af;have aw:=ae.symm;have ax:=af.symm;clear ae av af;subst aw;subst ax))
   refine hK.out _ _ ⟨qc ε,qc ε,qc ε,qc γ,qc γ⟩ (fun hHeld=>?_)
   clear hK K
   refine qN (some 32) ?_
   refine qP 6 (some 33) (bN 9 127) HT_ ?_
   refine Zb (i:=7) (N:=none) (bN 9 255) rfl rfl (Q4 HT_.out kr) (by decide) (fun K hK=>?_)
   have du:eo.cell? ⟨σ,0,none⟩=some (.slice none 0 0):=(Qa δ.out 0).trans rfl
   have dm:=Qc δ.out 0
   have ck:= χ.out
   have cm:=ag.out
   have cn:= ζ.out
   have cq:= φ.out
   have cy:=a8.out
   have d0:=ai.out
   have d1:=an.out
   have d2:=a1.out
   have dv:eo.cell? ⟨σ,1,none⟩=some (.slice none 0 0):=(Qa δ.out 1).trans rfl
   have dn:=Qc δ.out 1
   have d4:= χ.out
   have d5:=ag.out
   have d7:= ζ.out
   have d9:= φ.out
   have da:=a8.out
   have db:=ai.out
   have dd:=an.out
   have df:=a1.out
   refine K8 (w1:=?_) (by rfl) rfl ?_ ?_
   rotate_left
   ·go_simp
    rfl
   refine hK.out _ _ ⟨((cell_far (p:=⟨σ,_,none⟩) ζ.out _).trans (((cell_far (p:=⟨σ,_,none⟩) ζ.out _).trans (hHeld.1)))),((cell_far (p:=⟨σ,_,none⟩) ζ.out _).trans (((cell_far (p:=⟨σ,_,none⟩) ζ.out _).trans (hHeld.2.1)))),((cell_far (p:=⟨σ,_,none⟩) ζ.out _).trans (((cell_far (p:=⟨σ,_,none⟩) ζ.out _).trans (hHeld.2.2.1)))),((cell_far (p:=⟨σ,_,none⟩) φ.out _).trans (((cell_far (p:=⟨σ,_,none⟩) φ.out _).trans (hHeld.2.2.2.1)))),((cell_far (p:=⟨σ,_,none⟩) φ.out _).trans (((cell_far (p:=⟨σ,_,none⟩) φ.out _).trans (hHeld.2.2.2.2))))⟩ (fun hHeld=>?_)
   clear hK K
   refine qP 8 (some 15) (bN 9 511) HT_ ?_
   refine Zx (Ze HT_.out kr) ?_
   try go_wp2
   refine bodyPost_ret (Z9 rfl _ _ σ 50 #[.slice bz ν.length ca,.slice ci ψ.length cj] (0,0) _ rfl (by refine Ql (cs:=#[.slice bz ν.length ca,.slice none 0 0]) ?_ 1 _ rfl;refine Ql (cs:=#[.slice none 0 0,.slice none 0 0]) ?_ 0 _ rfl;exact δ.out) Try.underlying50 rfl kr) rfl ?_
   exact⟨_,_,by first|rfl|(simp[Qk,Qj] <;> rfl)|(simp[*,Qk,Qj] <;> rfl),by(with_reducible repeat first|apply Kd.Qq|apply Kd.Qp|apply Kd.Qr);exact Kd.Qw (Kd.Qx (Kd.Qx (Kd.Q5 bi.out δ.out (by decide)) (fun _ hk=>hk.2) _) (fun _ hk=>hk.2) _) (fun _ hk=>trivial),by(with_reducible repeat first|apply Kd.Qq|apply Kd.Qp|apply Kd.Qr);exact Kd.Qw (Kd.Qx (Kd.Qx (Kd.Q5 bc.out δ.out (by decide)) (fun _ hk=>hk.2) _) (fun _ hk=>hk.2) _) (fun _ hk=>trivial),bel⟩
  ·replace c10:=Bool.eq_false_iff.mpr c10
   subst c10
   have H1:(some (([]:List (S36)),([]:List (S86)),191))=some (r1,r2,r3):=by rw[if_neg (show ¬ (false=true) by decide)] at H;exact H
   clear H
   have H:=H1
   clear H1
   simp only[Option.some.injEq,Prod.mk.injEq] at H
   obtain⟨rfl,rfl,rfl⟩:=H
   go_enter Try.func73,Try.ntmps73
   go_wp2_with (first|((with_reducible refine Qf (N:=7) rfl ?_);refine qE 7 #[.int .i64 J,.int .i64 O] 59 ?_;intro a0 hg ih hbox hb;have X:=Aside0.mk hbox;have bg:=sGe hg;have bj:=sGe hg;replace HB:=sHb hb;clear hb hbox hg)|((with_reducible refine Qf (N:=8) rfl ?_);refine qE 8 #[.slice κ B.length θ,.slice μ Z.length ι] 50 ?_;intro ω hg ln hbox hb;have Y:=Aside0.mk hbox;have bk:=sGe hg;have bl:=sGe hg;have ξ :=sNl X hg;have ρ:=sNg X hg;replace X:=sBk X hb;replace HB:=sHb hb;clear hb hbox hg)|((with_reducible refine Qf (N:=11) rfl ?_);refine qE 11 #[.int .i64 a9,.int .i64 aa,.int .i64 ab] 36 ?_;intro ba hg lw hbox hb;have ε :=Aside0.mk hbox;have bs:=sGe hg;have bv:=sGe hg;have au:=sNl X hg;have az:=sNg X hg;have b0:=sNl Y hg;have b1:=sNg Y hg;replace X:=sBk X hb;replace Y:=sBk Y hb;replace HB:=sHb hb;clear hb hbox hg)|((with_reducible refine Qf (N:=13) rfl ?_);refine qE 13 #[.int .i64 b6,.int .i64 b7] 86 ?_;intro τ hg nn hbox hb;have γ:=Aside0.mk hbox;have bh:=sGe hg;have ar:=sGe hg;have b2:=sNl X hg;have b3:=sNg X hg;have b4:=sNl Y hg;have b5:=sNg Y hg;have bd:=sNl ε hg;have be:=sNg ε hg;replace X:=sBk X hb;replace Y:=sBk Y hb;replace ε :=sBk ε hb;replace HB:=sHb hb;clear hb hbox hg)|((with_reducible refine Qf (N:=14) rfl ?_);refine qE 14 #[.slice none 0 0,.slice none 0 0] 50 ?_;intro σ hg np hbox hb;have δ :=Aside0.mk hbox;have bf:=sGe hg;have b9:=sGe hg;have χ :=sNl X hg;have a8:=sNg X hg;have ag:=sNl Y hg;have ai:=sNg Y hg;have ζ :=sNl ε hg;have an:=sNg ε hg;have φ :=sNl γ hg;have a1:=sNg γ hg;replace X:=sBk X hb;replace Y:=sBk Y hb;replace ε :=sBk ε hb;replace γ:=sBk γ hb;replace HB:=sHb hb;clear hb hbox hg;have gf:= ξ.out;have gh:=ρ.out;have iz:=au.out;have j4:=az.out;have gn:=b2.out;have hh:=b3.out;have cd:= χ.out;have ce:=a8.out;obtain⟨e0,dc,e3,de⟩:=qD2 X.out;have i4:=b0.out;have i5:=b1.out;have jq:=b4.out;have jr:=b5.out;have lc:=ag.out;have lf:=ai.out;obtain⟨fc,fe,ff,fg⟩:=qD2 Y.out)|((with_reducible refine Qo (f:=40) rfl ?_);refine Q6 (some 19) rfl rfl Try.func40 kr rfl #[.agg #[.int .i64 J,.int .i64 O],.agg #[.slice κ B.length θ,.slice μ Z.length ι]] rfl qM ?_;(with_reducible refine(call_Check.calls k J O _ _ B _ _ Z η _ ?side1 ?side2 ?side3 ?side4 A8.out).mono ?_);(case side1=>exact(Kd.Qy a4.out HB.out));(case side2=>exact ao.out);(case side3=>exact(Kd.Qy a6.out HB.out));(case side4=>exact ap.out);rintro e dw ⟨rfl,hb⟩;refine⟨_,rfl, ?_⟩;replace X:=sBk X hb;replace Y:=sBk Y hb;replace ε :=sBk ε hb;replace γ:=sBk γ hb;replace δ :=sBk δ hb;replace HB:=sHb hb;(try clear hb);(try clear ac);(try clear hk);(try clear hi);have fh:=an.out;have fi:= ζ.out;have js:=a1.out;have jt:= φ.out;obtain⟨cu,cv,cw,cz⟩:=qD2 δ.out))
   refine bodyPost_ret (Z9 rfl _ _ σ 50 #[.slice none 0 0,.slice none 0 0] (0,0) _ rfl (by refine Ql (cs:=#[.slice none 0 0,.slice none 0 0]) ?_ 1 _ rfl;refine Ql (cs:=#[.slice none 0 0,.slice none 0 0]) ?_ 0 _ rfl;exact δ.out) Try.underlying50 rfl kr) rfl ?_
   exact⟨_,_,by first|rfl|(simp[Qk,Qj] <;> rfl)|(simp[*,Qk,Qj] <;> rfl),by first|exact Kd.X0 _ _ _ _ _|exact Kd.Yx _ _ _ _ _|exact Kd.Yt _ _ _ _ _|exact Kd.Yw _ _ _ _ _|exact Kd.Yu _ _ _ _ _,by first|exact Kd.X0 _ _ _ _ _|exact Kd.Yx _ _ _ _ _|exact Kd.Yt _ _ _ _ _|exact Kd.Yw _ _ _ _ _|exact Kd.Yu _ _ _ _ _,bel⟩
 ·rw[if_neg c9] at H
  have c9b0:(η == 0)=false:=beq_eq_false_iff_ne.mpr c9
  have c9b1:(η != 0)=true:=bne_iff_ne.mpr c9
  simp only[Option.some.injEq,Prod.mk.injEq] at H
  obtain⟨rfl,rfl,rfl⟩:=H
  go_enter Try.func73,Try.ntmps73
  go_wp2_with (first|((with_reducible refine Qf (N:=7) rfl ?_);refine qE 7 #[.int .i64 J,.int .i64 O] 59 ?_;intro a0 hg fj hbox hb;have X:=Aside0.mk hbox;have bg:=sGe hg;have bj:=sGe hg;replace HB:=sHb hb;clear hb hbox hg)|((with_reducible refine Qf (N:=8) rfl ?_);refine qE 8 #[.slice κ B.length θ,.slice μ Z.length ι] 50 ?_;intro ω hg qd hbox hb;have Y:=Aside0.mk hbox;have bk:=sGe hg;have bl:=sGe hg;have ξ :=sNl X hg;have ρ:=sNg X hg;replace X:=sBk X hb;replace HB:=sHb hb;clear hb hbox hg)|((with_reducible refine Qf (N:=11) rfl ?_);refine qE 11 #[.int .i64 a9,.int .i64 aa,.int .i64 ab] 36 ?_;intro ba hg qe hbox hb;have ε :=Aside0.mk hbox;have bs:=sGe hg;have bv:=sGe hg;have au:=sNl X hg;have az:=sNg X hg;have b0:=sNl Y hg;have b1:=sNg Y hg;replace X:=sBk X hb;replace Y:=sBk Y hb;replace HB:=sHb hb;clear hb hbox hg)|((with_reducible refine Qf (N:=13) rfl ?_);refine qE 13 #[.int .i64 b6,.int .i64 b7] 86 ?_;intro τ hg d3 hbox hb;have γ:=Aside0.mk hbox;have bh:=sGe hg;have ar:=sGe hg;have b2:=sNl X hg;have b3:=sNg X hg;have b4:=sNl Y hg;have b5:=sNg Y hg;have bd:=sNl ε hg;have be:=sNg ε hg;replace X:=sBk X hb;replace Y:=sBk Y hb;replace ε :=sBk ε hb;replace HB:=sHb hb;clear hb hbox hg)|((with_reducible refine Qf (N:=14) rfl ?_);refine qE 14 #[.slice none 0 0,.slice none 0 0] 50 ?_;intro σ hg qf hbox hb;have δ :=Aside0.mk hbox;have bf:=sGe hg;have b9:=sGe hg;have χ :=sNl X hg;have a8:=sNg X hg;have ag:=sNl Y hg;have ai:=sNg Y hg;have ζ :=sNl ε hg;have an:=sNg ε hg;have φ :=sNl γ hg;have a1:=sNg γ hg;replace X:=sBk X hb;replace Y:=sBk Y hb;replace ε :=sBk ε hb;replace γ:=sBk γ hb;replace HB:=sHb hb;clear hb hbox hg;have sc:= ξ.out;have sd:=ρ.out;have q8:=au.out;have q9:=az.out;have my:=b2.out;have mz:=b3.out;have ju:= χ.out;have jv:=a8.out;obtain⟨i2,i3,i6,i7⟩:=qD2 X.out;have jw:=b0.out;have jx:=b1.out;have j5:=b4.out;have j6:=b5.out;have fp:=ag.out;have fq:=ai.out;obtain⟨e5,eg,el,em⟩:=qD2 Y.out)|((with_reducible refine Qo (f:=40) rfl ?_);refine Q6 (some 19) rfl rfl Try.func40 kr rfl #[.agg #[.int .i64 J,.int .i64 O],.agg #[.slice κ B.length θ,.slice μ Z.length ι]] rfl qM ?_;(with_reducible refine(call_Check.calls k J O _ _ B _ _ Z η _ ?side1 ?side2 ?side3 ?side4 A8.out).mono ?_);(case side1=>exact(Kd.Qy a4.out HB.out));(case side2=>exact ao.out);(case side3=>exact(Kd.Qy a6.out HB.out));(case side4=>exact ap.out);rintro e dx ⟨rfl,hb⟩;refine⟨_,rfl, ?_⟩;replace X:=sBk X hb;replace Y:=sBk Y hb;replace ε :=sBk ε hb;replace γ:=sBk γ hb;replace δ :=sBk δ hb;replace HB:=sHb hb;(try clear hb);(try clear ac);(try clear hk);(try clear hi);have lg:=an.out;have lh:= ζ.out;have qa:=a1.out;have qb:= φ.out;obtain⟨dh,di,dj,dk⟩:=qD2 δ.out))
  refine bodyPost_ret (Z9 rfl _ _ σ 50 #[.slice none 0 0,.slice none 0 0] (0,0) _ rfl (by refine Ql (cs:=#[.slice none 0 0,.slice none 0 0]) ?_ 1 _ rfl;refine Ql (cs:=#[.slice none 0 0,.slice none 0 0]) ?_ 0 _ rfl;exact δ.out) Try.underlying50 rfl kr) rfl ?_
  exact⟨_,_,by first|rfl|(simp[Qk,Qj] <;> rfl)|(simp[*,Qk,Qj] <;> rfl),by first|exact Kd.X0 _ _ _ _ _|exact Kd.Yx _ _ _ _ _|exact Kd.Yt _ _ _ _ _|exact Kd.Yw _ _ _ _ _|exact Kd.Yu _ _ _ _ _,by first|exact Kd.X0 _ _ _ _ _|exact Kd.Yx _ _ _ _ _|exact Kd.Yt _ _ _ _ _|exact Kd.Yw _ _ _ _ _|exact Kd.Yu _ _ _ _ _,bel⟩
def call_Give.f (k:Nat) (J:Int) (O:Int) (B:List (S36)) (Z:List (S86)) (Y:Int) (η :Int) (ν :Int):Option ((List (S36))×(List (S86))×Int):=(hallP.f Y η ν J O).bind fun χ =>((call_change.f (setP_H.f Y η ν B) (woP_I.f (-2) 0 Z) k J O B Z χ 0 Y η ν 0 (-2) 0).bind fun a0=>(some (a0.1,a0.2.1,a0.2.2)))
theorem call_Give.mono:∀ J Y a2 a3 O a5 X k,LeO (call_Give.f k J Y a2 a3 O a5 X) (call_Give.f (k+1) J Y a2 a3 O a5 X):=by
 intro J Y a2 a3 O a5 X k
 unfold call_Give.f
 repeat' first
   |(with_reducible exact call_change.mono _ _ _ _ _ _ _ _ _ _ _ _ _ _ _)
   |(with_reducible exact LeO.refl _)
   |(with_reducible exact LeO.none _)
   |(with_reducible refine LeO.ite ?_ ?_)
   |(with_reducible refine LeO.bind ?_ (fun _=>?_))
   |exact call_change.mono _ _ _ _ _ _ _ _ _ _ _ _ _ _ _
   |exact LeO.none _
   |refine LeO.ite ?_ ?_
   |refine LeO.bind ?_ (fun _=>?_)
def call_Give.T1:Bool×List (List Nat×List Nat):=(true,[([],[]),([],[]),([],[]),([2],[2]),([],[]),([3,4,3],[3,4]),([],[]),([6,5],[6]),([7],[7]),([],[]),([],[]),([10,7],[10]),([11],[11]),([],[]),([0,1,5,8,9,12,13,11],[0,1,5,8,9,12,13]),([14],[14]),([14],[14]),([15,14,0,1,2,3,4,5,6,7,8,9,10,11,12,13,14,15,16],[15]),([16,17,0,1,2,3,4,5,6,7,8,9,10,11,12,13,14,15,16,17],[16])])
def call_Give.B1:List Nat:=[0,0,0,4,0,28,0,124,252,0,0,1276,3324,0,16383,32767,32767,131071,262143]
theorem call_Give.Km:rtab .any (opsOf Try.f51 1)=call_Give.T1:=by kernel_rfl
theorem call_Give.Y3:Zk call_Give.T1.2 call_Give.B1=true:=by kernel_rfl
set_option maxHeartbeats 8000000 in
set_option maxRecDepth 100000 in
theorem call_Give.calls (k:Nat) (J:Int) (O:Int) (κ :Option Addr) (θ :Nat) (B:List (S36)) (μ :Option Addr) (ι :Nat) (Z:List (S86)) (Y:Int) (η :Int) (ν :Int) (r1:List (S36)) (r2:List (S86)) (r3:Int) (w:World) (aj:Kd.C k36 w κ B.length B) (ak:B.length ≤ θ) (al:Kd.C k86 w μ Z.length Z) (am:Z.length ≤ ι) (h:call_Give.f k J O B Z Y η ν = some (r1,r2,r3)):
  Calls Try.prog 51 #[.agg #[.int .i64 J,.int .i64 O],.agg #[.slice κ B.length θ,.slice μ Z.length ι],.agg #[.int .i64 Y,.int .i64 η,.int .i64 ν]] w fun e w'=>∃ bb ea:Value,e = .returned (.tuple #[.agg #[bb,ea],.int .i64 r3])∧Kd.R k36 36 w' w.heap.size (fun _=>True) bb r1∧Kd.R k86 86 w' w.heap.size (fun _=>True) ea r2∧Below w.heap.size w w':=by
 have jf:=Try.underlying59
 have ed:=Try.underlying50
 have e4:=Try.underlying36
 have dl:=Try.underlying86
 have a4:=Aside0.mk aj
 have ao:=Aside0.mk ak
 clear aj ak
 have a6:=Aside0.mk al
 have ap:=Aside0.mk am
 clear al am
 have HB:=Aside0.mk (Below.refl w.heap.size w)
 have H:((hallP.f Y η ν J O).bind fun χ =>((call_change.f (setP_H.f Y η ν B) (woP_I.f (-2) 0 Z) k J O B Z χ 0 Y η ν 0 (-2) 0).bind fun a0=>(some (a0.1,a0.2.1,a0.2.2))))=some (r1,r2,r3):=h
 clear h
 replace H:=Option.bind_eq_some_iff.mp H
 obtain⟨χ,aa,H⟩:=H
 replace H:((call_change.f (setP_H.f Y η ν B) (woP_I.f (-2) 0 Z) k J O B Z χ 0 Y η ν 0 (-2) 0).bind fun a0=>(some (a0.1,a0.2.1,a0.2.2)))=some (r1,r2,r3):=H
 have A4:=Aside0.mk aa
 clear aa
 replace H:=Option.bind_eq_some_iff.mp H
 obtain⟨⟨ψ,a2,a7⟩,d7,H⟩:=H
 replace H:(some (ψ,a2,a7))=some (r1,r2,r3):=H
 have A5:=Aside0.mk d7
 clear d7
 simp only[Option.some.injEq,Prod.mk.injEq] at H
 obtain⟨rfl,rfl,rfl⟩:=H
 go_enter Try.func51,Try.ntmps51
 try go_wp2_with (first|((with_reducible refine Qf (N:=3) rfl ?_);refine qE 3 #[.int .i64 J,.int .i64 O] 59 ?_;intro σ hg w6 hbox hb;have δ :=Aside0.mk hbox;have bf:=sGe hg;have b9:=sGe hg;replace HB:=sHb hb;clear hb hbox hg)|((with_reducible refine Qf (N:=4) rfl ?_);refine qE 4 #[.slice κ B.length θ,.slice μ Z.length ι] 50 ?_;intro ε hg w7 hbox hb;have X:=Aside0.mk hbox;have φ :=sGe hg;have b1:=sGe hg;have ai:=sNl δ hg;have an:=sNg δ hg;replace δ :=sBk δ hb;replace HB:=sHb hb;clear hb hbox hg)|((with_reducible refine Qf (N:=5) rfl ?_);refine qE 5 #[.int .i64 Y,.int .i64 η,.int .i64 ν] 36 ?_;intro ab hg w8 hbox hb;have γ:=Aside0.mk hbox;have bq:=sGe hg;have br:=sGe hg;have az:=sNl δ hg;have b3:=sNg δ hg;have b4:=sNl X hg;have b5:=sNg X hg;replace δ :=sBk δ hb;replace X:=sBk X hb;replace HB:=sHb hb;clear hb hbox hg)|((with_reducible refine Qf (N:=6) rfl ?_);refine qE 6 #[.slice none 0 0,.slice none 0 0] 50 ?_;intro ξ hg w9 hbox hb;have ζ :=Aside0.mk hbox;have bs:=sGe hg;have bu:=sGe hg;have τ :=sNl δ hg;have a3:=sNg δ hg;have ω :=sNl X hg;have a8:=sNg X hg;have ρ:=sNl γ hg;have a9:=sNg γ hg;replace δ :=sBk δ hb;replace X:=sBk X hb;replace γ:=sBk γ hb;replace HB:=sHb hb;clear hb hbox hg))
 replace δ :=Aside0.mk (Qe δ.out)
 replace X:=Aside0.mk (Qe X.out)
 replace γ:=Aside0.mk (Qe γ.out)
 replace ζ :=Aside0.mk (Qe ζ.out)
 replace HB:=Aside0.mk (Qg HB.out)
 refine Zi (n:=19) (S:=fun w'=>w'.cell? ⟨σ,0,none⟩=some (.int .i64 J)∧w'.cell? ⟨σ,1,none⟩=some (.int .i64 O)∧w'.cell? ⟨ε,0,none⟩=some (.slice κ B.length θ)∧w'.cell? ⟨ε,1,none⟩=some (.slice μ Z.length ι)∧w'.cell? ⟨ab,0,none⟩=some (.int .i64 Y)∧w'.cell? ⟨ab,1,none⟩=some (.int .i64 η)∧w'.cell? ⟨ab,2,none⟩=some (.int .i64 ν)) (ds:=[]) #[false,false,false,false,false,false,false,false,false,false,false,false,false,false,false,false,false,false,false] kr rfl rfl ⟨(Qa δ.out 0).trans rfl,(Qa δ.out 1).trans rfl,(Qa X.out 0).trans rfl,(Qa X.out 1).trans rfl,(Qa γ.out 0).trans rfl,(Qa γ.out 1).trans rfl,(Qa γ.out 2).trans rfl⟩ (fun hHeld=>?_);refine Q9 call_Give.Km call_Give.Y3 (fun HT_ HW_=>?_)
 generalize w9.drew=ih at δ X γ ζ HB hHeld ⊢
 refine qP 13 (some 21) (bN 19 8192) HT_ ?_
 refine qT 0 (some 8) (bN 19 8193) HT_ HW_ hHeld ?_
 refine qT 1 (some 9) (bN 19 8195) HT_ HW_ hHeld ?_
 refine qT 2 (some 10) (bN 19 8199) HT_ HW_ hHeld ?_
 refine qT 4 (some 12) (bN 19 8215) HT_ HW_ hHeld ?_
 refine qT 6 (some 14) (bN 19 8279) HT_ HW_ hHeld ?_
 refine qT 9 (some 17) (bN 19 8791) HT_ HW_ hHeld ?_
 refine qT 10 (some 18) (bN 19 9815) HT_ HW_ hHeld ?_
 refine Zb (i:=3) (N:=some 11) (bN 19 9823) rfl rfl (Q4 HT_.out kr) (by decide) (fun K hK=>?_)
 refine Za Try.func65 kr rfl #[.agg #[.int .i64 J,.int .i64 O]] (by rfl) rfl rfl qM ?_
 refine(Jr J O _).mono ?_
 rintro e ba ⟨ag,rfl,hgp,hgw,hb⟩
 have ah:=Aside0.mk hgp
 clear hgp hgw
 refine⟨_,rfl, ?_⟩
 replace δ :=sBk δ hb
 replace X:=sBk X hb
 replace γ:=sBk γ hb
 replace ζ :=sBk ζ hb
 replace HB:=sHb hb
 (try clear hb)
 (try clear ac)
 (try clear hk)
 (try clear hi)
 refine hK.out _ _ ⟨qc δ,qc δ,qc X,qc X,qc γ,qc γ,qc γ⟩ (fun hHeld=>?_)
 clear hK K
 refine qN (some 11) ?_
 refine Zb (i:=5) (N:=some 13) (bN 19 9855) rfl rfl (Q4 HT_.out kr) (by decide) (fun K hK=>?_)
 refine X8 Try.func82 kr rfl #[] #[.pointer (some ⟨ag,0,none⟩)] #[.agg #[.int .i64 Y,.int .i64 η,.int .i64 ν]] #[.agg #[.int .i64 Y,.int .i64 η,.int .i64 ν],.pointer (some ⟨ag,0,none⟩)] rfl (by rfl) rfl rfl rfl qM ?_
 refine(Gv J O Y η ν χ _ (Option.some.inj A4.out) ag ah.out).mono ?_
 rintro e di ⟨rfl,hb⟩
 refine⟨_,rfl, ?_⟩
 replace δ :=sBk δ hb
 replace X:=sBk X hb
 replace γ:=sBk γ hb
 replace ζ :=sBk ζ hb
 replace HB:=sHb hb
 (try clear hb)
 (try clear ac)
 (try clear hk)
 (try clear hi)
 refine hK.out _ _ ⟨qc δ,qc δ,qc X,qc X,qc γ,qc γ,qc γ⟩ (fun hHeld=>?_)
 clear hK K
 refine qN (some 13) ?_
 refine Zb (i:=7) (N:=some 15) (bN 19 9983) rfl rfl (Q4 HT_.out kr) (by decide) (fun K hK=>?_)
 refine Za Try.func63 kr rfl #[.agg #[.slice κ B.length θ,.slice μ Z.length ι]] (by rfl) rfl rfl qM ?_
 refine(Ka κ μ B.length Z.length θ ι _).mono ?_
 rintro e bd ⟨rfl,hb⟩
 refine⟨_,rfl, ?_⟩
 replace δ :=sBk δ hb
 replace X:=sBk X hb
 replace γ:=sBk γ hb
 replace ζ :=sBk ζ hb
 replace HB:=sHb hb
 (try clear hb)
 (try clear ac)
 (try clear hk)
 (try clear hi)
 refine hK.out _ _ ⟨qc δ,qc δ,qc X,qc X,qc γ,qc γ,qc γ⟩ (fun hHeld=>?_)
 clear hK K
 refine qN (some 15) ?_
 refine qP 8 (some 16) (bN 19 10239) HT_ ?_
 refine Zb (i:=11) (N:=some 19) (bN 19 12287) rfl rfl (Q4 HT_.out kr) (by decide) (fun K hK=>?_)
 refine Za Try.func66 kr rfl #[.agg #[.slice κ B.length θ,.slice μ Z.length ι]] (by rfl) rfl rfl qM ?_
 refine(Gm κ μ B.length Z.length θ ι _).mono ?_
 rintro e be ⟨rfl,hb⟩
 refine⟨_,rfl, ?_⟩
 replace δ :=sBk δ hb
 replace X:=sBk X hb
 replace γ:=sBk γ hb
 replace ζ :=sBk ζ hb
 replace HB:=sHb hb
 (try clear hb)
 (try clear ac)
 (try clear hk)
 (try clear hi)
 refine hK.out _ _ ⟨qc δ,qc δ,qc X,qc X,qc γ,qc γ,qc γ⟩ (fun hHeld=>?_)
 clear hK K
 refine qN (some 19) ?_
 refine qP 12 (some 20) (bN 19 16383) HT_ ?_
 refine Zb (i:=14) (N:=some 22) (bN 19 32767) rfl rfl (Q4 HT_.out kr) (by decide) (fun K hK=>?_)
 refine Za Try.func73 kr rfl #[.agg #[.int .i64 J,.int .i64 O],.agg #[.slice κ B.length θ,.slice μ Z.length ι],.bool χ,.func (.func 74) #[.agg #[.slice κ B.length θ,.func (.func 79) #[] #[]]] #[],.agg #[.int .i64 Y,.int .i64 η,.int .i64 ν],.func (.func 75) #[.agg #[.slice μ Z.length ι,.func (.func 83) #[] #[]]] #[],.agg #[.int .i64 (-2),.int .i64 0]] (by rfl) rfl rfl qM ?_
 refine(call_change.calls _ _ k J O κ θ B μ ι Z χ 0 Y η ν 0 (-2) 0 ψ a2 a7 _ ?side1 ?side2 ?side3 ?side4 A5.out 74 Try.f74 (.agg #[.slice κ B.length θ,.func (.func 79) #[] #[]]) Try.func74 kr rfl (fun W t ht hb=>Vw κ θ B _ _ _ t W (Kd.Qy (Kd.Qy a4.out (by repeat(first|(with_reducible first|exact HB.out|apply Qs|apply Qh|apply Qg)|exact HB.out|(refine Qv ?_ (Aside0.out (by assumption)))))) hb) ao.out ht) 75 Try.f75 (.agg #[.slice μ Z.length ι,.func (.func 83) #[] #[]]) Try.func75 kr rfl (fun W t ht hb=>Ui μ ι Z _ _ t W (Kd.Qy (Kd.Qy a6.out (by repeat(first|(with_reducible first|exact HB.out|apply Qs|apply Qh|apply Qg)|exact HB.out|(refine Qv ?_ (Aside0.out (by assumption)))))) hb) ap.out ht)).mono ?_
 (case side1=>exact(Kd.Qy a4.out HB.out))
 (case side2=>exact ao.out)
 (case side3=>exact(Kd.Qy a6.out HB.out))
 (case side4=>exact ap.out)
 rintro e fy ⟨cf,bw,rfl,ay,b7,hb⟩
 refine⟨_,rfl, ?_⟩
 have bc:=Aside0.mk (Kd.Q3 (Kd.Yn ay (g:=ab) (o:=.cells #[.int .i64 Y,.int .i64 η,.int .i64 ν] 36 (0,0)) γ.out) (Qi HB.out))
 have a5:=Aside0.mk (Kd.Q3 b7 (Qi HB.out))
 replace δ :=sBk δ hb
 replace X:=sBk X hb
 replace γ:=sBk γ hb
 replace ζ :=sBk ζ hb
 replace HB:=sHb hb
 (try clear hb)
 (try clear ac)
 (try clear hk)
 (try clear hi)
 (try clear ay)
 (try clear b7)
 obtain⟨b0,a1,b6⟩:=Kd.Q7 bc.out
 (first|subst b6|(injection b6 with ae av af;have aw:=ae.symm;have ax:=af.symm;clear ae av af;subst aw;subst ax))
 obtain⟨jd,je,gi⟩:=Kd.Q7 a5.out
 (first|subst gi|(injection gi with ae av af;have aw:=ae.symm;have ax:=af.symm;clear ae av af;subst aw;subst ax))
 refine hK.out _ _ ⟨qc δ,qc δ,qc X,qc X,qc γ,qc γ,qc γ⟩ (fun hHeld=>?_)
 clear hK K
 refine qN (some 22) ?_
 refine qP 15 (some 23) (bN 19 65535) HT_ ?_
 refine qP 16 (some 24) (bN 19 131071) HT_ ?_
 refine Zb (i:=17) (N:=none) (bN 19 262143) rfl rfl (Q4 HT_.out kr) (by decide) (fun K hK=>?_)
 have bz:fy.cell? ⟨ξ,0,none⟩=some (.slice none 0 0):=(Qa ζ.out 0).trans rfl
 have bv:=Qc ζ.out 0
 have bg:= τ.out
 have bh:= ω.out
 have bi:=ρ.out
 have bj:=a3.out
 have bk:=a8.out
 have bl:=a9.out
 have b8:fy.cell? ⟨ξ,1,none⟩=some (.slice none 0 0):=(Qa ζ.out 1).trans rfl
 have b2:=Qc ζ.out 1
 have ar:= τ.out
 have bm:= ω.out
 have bn:=ρ.out
 have au:=a3.out
 have bo:=a8.out
 have bp:=a9.out
 refine K8 (w1:=?_) (by rfl) rfl ?_ ?_
 rotate_left
 ·go_simp
  rfl
 refine hK.out _ _ ⟨((cell_far (p:=⟨ξ,_,none⟩) τ.out _).trans (((cell_far (p:=⟨ξ,_,none⟩) τ.out _).trans (hHeld.1)))),((cell_far (p:=⟨ξ,_,none⟩) τ.out _).trans (((cell_far (p:=⟨ξ,_,none⟩) τ.out _).trans (hHeld.2.1)))),((cell_far (p:=⟨ξ,_,none⟩) ω.out _).trans (((cell_far (p:=⟨ξ,_,none⟩) ω.out _).trans (hHeld.2.2.1)))),((cell_far (p:=⟨ξ,_,none⟩) ω.out _).trans (((cell_far (p:=⟨ξ,_,none⟩) ω.out _).trans (hHeld.2.2.2.1)))),((cell_far (p:=⟨ξ,_,none⟩) ρ.out _).trans (((cell_far (p:=⟨ξ,_,none⟩) ρ.out _).trans (hHeld.2.2.2.2.1)))),((cell_far (p:=⟨ξ,_,none⟩) ρ.out _).trans (((cell_far (p:=⟨ξ,_,none⟩) ρ.out _).trans (hHeld.2.2.2.2.2.1)))),((cell_far (p:=⟨ξ,_,none⟩) ρ.out _).trans (((cell_far (p:=⟨ξ,_,none⟩) ρ.out _).trans (hHeld.2.2.2.2.2.2))))⟩ (fun hHeld=>?_)
 clear hK K
 refine qP 18 (some 7) (bN 19 524287) HT_ ?_
 refine Zx (Ze HT_.out kr) ?_
 try go_wp2
 refine bodyPost_ret (Z9 rfl _ _ ξ 50 #[.slice b0 ψ.length a1,.slice jd a2.length je] (0,0) _ rfl (by refine Ql (cs:=#[.slice b0 ψ.length a1,.slice none 0 0]) ?_ 1 _ rfl;refine Ql (cs:=#[.slice none 0 0,.slice none 0 0]) ?_ 0 _ rfl;exact ζ.out) Try.underlying50 rfl kr) rfl ?_
 exact⟨_,_,by first|rfl|(simp[Qk,Qj] <;> rfl)|(simp[*,Qk,Qj] <;> rfl),by(with_reducible repeat first|apply Kd.Qq|apply Kd.Qp|apply Kd.Qr);exact Kd.Qw (Kd.Qx (Kd.Qx (Kd.Q5 bc.out ζ.out (by decide)) (fun _ hk=>hk.2) _) (fun _ hk=>hk.2) _) (fun _ hk=>trivial),by(with_reducible repeat first|apply Kd.Qq|apply Kd.Qp|apply Kd.Qr);exact Kd.Qw (Kd.Qx (Kd.Qx (Kd.Q5 a5.out ζ.out (by decide)) (fun _ hk=>hk.2) _) (fun _ hk=>hk.2) _) (fun _ hk=>trivial),bel⟩
end Go.Proofs.Ytmfffemidlhcpaa.C
namespace Go.Proofs.Ytmfffemidlhcpaa.Call
open Go.RowKit Go.Proofs.YtmfffemidlhcpaaW.PrintWords Go.Proofs.YtmfffemidlhcpaaW.PrintLast Go.Proofs.YtmfffemidlhcpaaW.PrintMore Go.Proofs.Ytmfffemidlhcpaa.C
set_option linter.unusedVariables false
set_option linter.unusedSimpArgs false
abbrev Hall:=S36
abbrev Ins:=S86
def i64 (x:Int):Prop:= -9223372036854775808≤x∧x≤9223372036854775807
theorem Xh (a lo hi:Int):call_within.f a lo hi=some (decide (lo≤a∧a≤hi)):=by
  unfold call_within.f
  by_cases h:lo≤a <;> simp[h]
def okB (F C:Int) (H:List Hall) (I:List Ins):Bool:=decide (2≤F∧F≤64)&&(decide (1≤C∧C≤8)&&(Zm (fun x=>Xi F C x.f0 x.f1 x.f2) ltH none H&&Zm (fun x=>Ke F C x.f0 x.f1) ltI none I))
theorem Kn {n:Nat} {C:Int} (h:n<1000000000) (hC:i64 C):small n C=true:=decide_eq_true ⟨h,hC.1,hC.2⟩
theorem X9 (k:Nat) (F C:Int) (H:List Hall) (I:List Ins) (hH:H.length<900000000) (hI:I.length<900000000) (hC:i64 C):call_Check.f (k+1) F C H I=some (if okB F C H I=true then 0 else 190):=by
  unfold call_Check.f rightP_H.f rightP_I.f okB
  rw[Xh,Xh,if_pos (Kn (by omega) hC),if_pos (Kn (by omega) hC)]
  simp only[Option.bind_some]
  cases decide (2≤F∧F≤64) <;> cases decide (1≤C∧C≤8) <;> cases Zm (fun x:Hall=>Xi F C x.f0 x.f1 x.f2) ltH none H <;> cases Zm (fun x:Ins=>Ke F C x.f0 x.f1) ltI none I <;> simp[call_Check.j0]
theorem Mj (U:Option (List Hall)) (V:Option (List Ins)) (k:Nat) (F C:Int) (H:List Hall) (I:List Ins) (is:Bool) (a3 B J O a5 X Y:Int) (hH:H.length<900000000) (hI:I.length<900000000) (hC:i64 C):
    call_change.f U V (k+1) F C H I is a3 B J O a5 X Y=if okB F C H I=true then (if is=true then U.bind fun a=>V.bind fun b=>some (a,b,0) else some ([],[],191)) else some ([],[],190):=by
  unfold call_change.f
  rw[X9 k F C H I hH hI hC]
  cases okB F C H I <;> simp
theorem Yh {F C:Int} {H:List Hall} {I:List Ins}:okB F C H I=true↔((2≤F∧F≤64)∧(1≤C∧C≤8)∧((∀ x ∈ H,Xi F C x.f0 x.f1 x.f2=true)∧H.Pairwise (fun x y=>ltH x y=true))∧((∀ x ∈ I,Ke F C x.f0 x.f1=true)∧I.Pairwise (fun x y=>ltI x y=true))):=by
  unfold okB
  simp only[Bool.and_eq_true,decide_eq_true_eq]
  rw[Jp,Uq]
theorem Uh (x:Int) (h:1≤x∧x≤64):wrap64 (x-1)=x-1:=by unfold wrap64;omega
theorem Jb {F C:Int} {B J Y:Int} (hF:2≤F∧F≤64) (hC:1≤C∧C≤8):Xi F C B J Y=true↔((J=1∨J = -1)∧(0≤B∧B≤F-1)∧(0≤B+J∧B+J≤F-1)∧(-1≤Y∧Y≤C-1)):=by
  unfold Xi
  rw[decide_eq_true_eq,Uh F (by omega),Uh C (by omega)]
  constructor
  · rintro⟨h1,O,Z,h4⟩
    rw[show wrap64 (B+J)=B+J from by unfold wrap64;omega] at Z
    exact⟨h1,O,Z,h4⟩
  · rintro⟨h1,O,Z,h4⟩
    rw[show wrap64 (B+J)=B+J from by unfold wrap64;omega]
    exact⟨h1,O,Z,h4⟩
theorem La {F C:Int} {B J:Int} (hF:2≤F∧F≤64) (hC:1≤C∧C≤8):Ke F C B J=true↔((0≤B∧B≤C-1)∧(0≤J∧J≤F-1)):=by
  unfold Ke
  rw[decide_eq_true_eq,Uh F (by omega),Uh C (by omega)]
theorem Uo {F C:Int} {H:List Hall} {I:List Ins} (h:okB F C H I=true):Zm (fun _=>true) ltH none H=true:=(Jp _ _).2 ⟨fun _ _=>rfl,(Yh.1 h).2.2.1.2⟩
theorem Mq {F C:Int} {H:List Hall} {I:List Ins} (h:okB F C H I=true) (B J:Int) (hx:B<0):woI B J I=I:=by
  obtain⟨hF,hC,_,h1,_⟩:=Yh.1 h
  unfold woI
  rw[List.filter_eq_self]
  intro y hy
  have:=(La hF hC).1 (h1 y hy)
  have hne:¬ Yc B J y.f0 y.f1=0:=by rw[Gg];omega
  simp[hne]
theorem Wj (H:List Hall) (I:List Ins) (hH:H.length<900000000) (hI:I.length<900000000):newellaw19_Own.f H I=some (H,I):=by
  unfold newellaw19_Own.f
  simp only[Option.bind_some,List.length_nil,Nat.zero_add,List.nil_append]
  rw[if_pos (by omega),if_pos (by omega)]
def Le (F C:Int) (H:List Hall) (I:List Ins) (fl dir car:Int):List Hall×List Ins×Int:=
  if okB F C H I=true then (if Xi F C fl dir car=true then (Vv ⟨fl,dir,car⟩ H,I,0) else ([],[],191)) else ([],[],190)
theorem Ep (k:Nat) (F C:Int) (H:List Hall) (I:List Ins) (fl dir car:Int) (hH:H.length<900000000) (hI:I.length<900000000) (hC:i64 C) (hd:i64 dir):
    call_Give.f (k+1) F C H I fl dir car=some (Le F C H I fl dir car):=by
  unfold call_Give.f hallP.f Le
  rw[Option.bind_some,Mj _ _ k F C H I _ _ _ _ _ _ _ _ hH hI hC]
  cases hok:okB F C H I
  · rfl
  · cases hb:Xi F C fl dir car
    · rfl
    · simp only[eq_self,if_true]
      unfold setP_H.f woP_I.f
      rw[if_pos ⟨Kn (by omega) hd,Uo hok⟩,if_pos (Kn (by omega) (by unfold i64;omega)),Mq hok _ _ (by omega)]
      rfl
end Go.Proofs.Ytmfffemidlhcpaa.Call
namespace Go.Proofs.Ytmfffemidlhcpaa.C
open Go.RowKit Go.Proofs.YtmfffemidlhcpaaW.PrintWords Go.Proofs.YtmfffemidlhcpaaW.PrintLast Go.Proofs.YtmfffemidlhcpaaW.PrintMore
attribute [local go_sem] Z3 Z1 Xg Xf Zt Zs Z2 Z0
set_option linter.unusedVariables false
set_option linter.unusedSimpArgs false
def group_hall.f (k:Nat) (J:Int) (O:Int) (ζ :Int) (ε :Int) (κ :Int):Option (Bool):=(call_Give.f k J O ([]:List (S36)) ([]:List (S86)) ζ ε κ).bind fun Y=>(some (Y.2.2==0))
theorem group_hall.mono:∀ J Y a2 a3 O k,LeO (group_hall.f k J Y a2 a3 O) (group_hall.f (k+1) J Y a2 a3 O):=by
 intro J Y a2 a3 O k
 unfold group_hall.f
 repeat' first
   |(with_reducible exact call_Give.mono _ _ _ _ _ _ _ _)
   |(with_reducible exact LeO.refl _)
   |(with_reducible exact LeO.none _)
   |(with_reducible refine LeO.ite ?_ ?_)
   |(with_reducible refine LeO.bind ?_ (fun _=>?_))
   |exact call_Give.mono _ _ _ _ _ _ _ _
   |exact LeO.none _
   |refine LeO.ite ?_ ?_
   |refine LeO.bind ?_ (fun _=>?_)
set_option maxHeartbeats 8000000 in
set_option maxRecDepth 100000 in
theorem group_hall.calls (k:Nat) (J:Int) (O:Int) (ζ :Int) (ε :Int) (κ :Int) (r:Bool) (w:World) (h:group_hall.f k J O ζ ε κ = some r):
  Calls Try.prog 30 #[.agg #[.int .i64 J,.int .i64 O],.agg #[.int .i64 ζ,.int .i64 ε,.int .i64 κ]] w fun e w'=>e = .returned (.bool r)∧Below w.heap.size w w':=by
 have jf:=Try.underlying59
 have e4:=Try.underlying36
 have ed:=Try.underlying50
 have HB:=Aside0.mk (Below.refl w.heap.size w)
 have H:((call_Give.f k J O ([]:List (S36)) ([]:List (S86)) ζ ε κ).bind fun Y=>(some (Y.2.2==0)))=some r:=h
 clear h
 replace H:=Option.bind_eq_some_iff.mp H
 obtain⟨⟨φ,χ,ρ⟩,d1,H⟩:=H
 replace H:(some (ρ==0))=some r:=H
 have A3:=Aside0.mk d1
 clear d1
 obtain rfl:=Option.some.inj H
 go_enter Try.func30,Try.ntmps30
 go_wp2_with (first|((with_reducible refine Qf (N:=2) rfl ?_);refine qE 2 #[.int .i64 J,.int .i64 O] 59 ?_;intro a0 hg w4 hbox hb;have B:=Aside0.mk hbox;have a1:=sGe hg;have a2:=sGe hg;replace HB:=sHb hb;clear hb hbox hg)|((with_reducible refine Qf (N:=3) rfl ?_);refine qE 3 #[.int .i64 ζ,.int .i64 ε,.int .i64 κ] 36 ?_;intro σ hg w5 hbox hb;have X:=Aside0.mk hbox;have a3:=sGe hg;have a4:=sGe hg;have δ :=sNl B hg;have η :=sNg B hg;replace B:=sBk B hb;replace HB:=sHb hb;clear hb hbox hg;have aa:= δ.out;have ab:= η.out;obtain⟨am,ao,ap,ar⟩:=qD2 B.out;obtain⟨a5,a6,bq,bu,cd,cf⟩:=qD3 X.out)|((with_reducible refine Qo (f:=51) rfl ?_);refine Q6 (some 11) rfl rfl Try.func51 kr rfl #[.agg #[.int .i64 J,.int .i64 O],.agg #[.slice none 0 0,.slice none 0 0],.agg #[.int .i64 ζ,.int .i64 ε,.int .i64 κ]] rfl qM ?_;(refine(call_Give.calls k J O _ _ ([]:List (S36)) _ _ ([]:List (S86)) ζ ε κ φ χ ρ _ ?side1 ?side2 ?side3 ?side4 A3.out).mono ?_);(case side1=>exact Kd.Jn _ _);(case side2=>exact Nat.le_refl _);(case side3=>exact Kd.Jn _ _);(case side4=>exact Nat.le_refl _);rintro e w9 ⟨ae,af,rfl,ay,b7,hb⟩;refine⟨_,rfl, ?_⟩;have Z:=Aside0.mk (Kd.Q3 (Kd.Yn ay (g:=σ) (o:=.cells #[.int .i64 ζ,.int .i64 ε,.int .i64 κ] 36 (0,0)) X.out) (Qi HB.out));have γ:=Aside0.mk (Kd.Q3 b7 (Qi HB.out));replace B:=sBk B hb;replace X:=sBk X hb;replace HB:=sHb hb;(try clear hb);(try clear ac);(try clear hk);(try clear hi);(try clear ay);(try clear b7))|((with_reducible refine Qf (N:=5) rfl ?_);refine qE 5 #[.slice none 0 0,.slice none 0 0] 50 ?_;intro a7 hg ih hbox hb;have τ :=Aside0.mk hbox;have a8:=sGe hg;have a9:=sGe hg;have θ :=sNl B hg;have μ :=sNg B hg;have ν :=sNl X hg;have ξ :=sNg X hg;replace Z:=sRb Z hb;replace γ:=sRb γ hb;replace B:=sBk B hb;replace X:=sBk X hb;replace HB:=sHb hb;clear hb hbox hg;obtain⟨ψ,ω,ι⟩:=Kd.Q7 Z.out;subst ι;have gp:= μ.out;have gy:= θ.out;have l9:= ξ.out;have lb:= ν.out;obtain⟨ct,cu,cv,cw⟩:=qD2 τ.out;obtain⟨jd,je,gi⟩:=Kd.Q7 γ.out;subst gi))
 go_ret
 exact⟨by first|rfl|(simp[Qk,Qj] <;> rfl)|(simp[*,Qk,Qj] <;> rfl),bel⟩
def group_Cost.f (k:Nat) (J:Int) (O:Int) (X:Int) (Y:Int) (Z:Int) (δ :Int) (γ:Int) (ι :Int) (θ :Int) (η :Int) (ζ :Int) (ε :Int) (κ :Int) (μ :Int) (B:Int) (τ :Int) (χ :Int) (ψ :Int) (ω :Bool) (a1:Bool) (φ :List Int) (a0:List Int) (a4:List Int) (a5:Int) (a6:Int) (a8:Int):Option (Int×Int):=(group_lift.f k J O X Y Z δ γ ι θ η ζ ε κ μ B τ χ ψ ω a1).bind fun ct=>(if ct=true then ((collect_Check.f k J 0 0 false false φ a0 a4).bind fun ai=>(if ai=0 then ((group_hall.f k J 8 a5 a6 a8).bind fun bm=>(if bm=true then ((group_cost.f k J O X Y Z δ γ ι θ η ζ ε κ μ B τ χ ψ ω a1 φ a0 a4 a5 a6 a8).bind fun bg=>(some (bg,0))) else (some (0,210)))) else (some (0,210)))) else (some (0,210)))
theorem group_Cost.mono:∀ J Y a2 a3 O a5 X a7 a8 a9 Z γ δ ζ ε η θ B ι κ μ ν ξ ρ σ τ k,LeO (group_Cost.f k J Y a2 a3 O a5 X a7 a8 a9 Z γ δ ζ ε η θ B ι κ μ ν ξ ρ σ τ) (group_Cost.f (k+1) J Y a2 a3 O a5 X a7 a8 a9 Z γ δ ζ ε η θ B ι κ μ ν ξ ρ σ τ):=by
 intro J Y a2 a3 O a5 X a7 a8 a9 Z γ δ ζ ε η θ B ι κ μ ν ξ ρ σ τ k
 unfold group_Cost.f
 repeat' first
   |(with_reducible exact collect_Check.mono _ _ _ _ _ _ _ _ _)
   |(with_reducible exact group_cost.mono _ _ _ _ _ _ _ _ _ _ _ _ _ _ _ _ _ _ _ _ _ _ _ _ _ _ _)
   |(with_reducible exact group_hall.mono _ _ _ _ _ _)
   |(with_reducible exact group_lift.mono _ _ _ _ _ _ _ _ _ _ _ _ _ _ _ _ _ _ _ _ _)
   |(with_reducible exact LeO.refl _)
   |(with_reducible exact LeO.none _)
   |(with_reducible refine LeO.ite ?_ ?_)
   |(with_reducible refine LeO.bind ?_ (fun _=>?_))
   |exact collect_Check.mono _ _ _ _ _ _ _ _ _
   |exact group_cost.mono _ _ _ _ _ _ _ _ _ _ _ _ _ _ _ _ _ _ _ _ _ _ _ _ _ _ _
   |exact group_hall.mono _ _ _ _ _ _
   |exact group_lift.mono _ _ _ _ _ _ _ _ _ _ _ _ _ _ _ _ _ _ _ _ _
   |exact LeO.none _
   |refine LeO.ite ?_ ?_
   |refine LeO.bind ?_ (fun _=>?_)
set_option maxHeartbeats 8000000 in
set_option maxRecDepth 100000 in
theorem group_Cost.calls (k:Nat) (J:Int) (O:Int) (X:Int) (Y:Int) (Z:Int) (δ :Int) (γ:Int) (ι :Int) (θ :Int) (η :Int) (ζ :Int) (ε :Int) (κ :Int) (μ :Int) (B:Int) (τ :Int) (χ :Int) (ψ :Int) (ω :Bool) (a1:Bool) (aa:Option Addr) (ab:Nat) (φ :List Int) (ae:Option Addr) (af:Nat) (a0:List Int) (ag:Option Addr) (ah:Nat) (a4:List Int) (a5:Int) (a6:Int) (a8:Int) (r1:Int) (r2:Int) (w:World) (bs:Kd.C (Kd.int .i64) w aa φ.length φ) (bv: φ.length≤ab) (cd:Kd.C (Kd.int .i64) w ae a0.length a0) (ce:a0.length≤af) (cy:Kd.C (Kd.int .i64) w ag a4.length a4) (d1:a4.length≤ah) (h:group_Cost.f k J O X Y Z δ γ ι θ η ζ ε κ μ B τ χ ψ ω a1 φ a0 a4 a5 a6 a8=some (r1,r2)):
  Calls Try.prog 10 #[.agg #[.int .i64 J,.int .i64 O,.int .i64 X,.int .i64 Y,.int .i64 Z,.int .i64 δ,.int .i64 γ,.int .i64 ι,.int .i64 θ,.int .i64 η],.agg #[.int .i64 ζ,.int .i64 ε,.int .i64 κ,.int .i64 μ,.int .i64 B,.int .i64 τ,.int .i64 χ,.int .i64 ψ,.bool ω,.bool a1],.agg #[.slice aa φ.length ab,.slice ae a0.length af,.slice ag a4.length ah],.agg #[.int .i64 a5,.int .i64 a6,.int .i64 a8]] w fun e w'=>e = .returned (.tuple #[.int .i64 r1,.int .i64 r2])∧Below w.heap.size w w':=by
 have e5:=Try.underlying25
 have jc:=Try.underlying31
 have ki:=Try.underlying34
 have e4:=Try.underlying36
 have jb:=Try.underlying76
 have jf:=Try.underlying59
 have cq:=Aside0.mk bs
 have d2:=Aside0.mk bv
 clear bs bv
 have d4:=Aside0.mk cd
 have d5:=Aside0.mk ce
 clear cd ce
 have dk:=Aside0.mk cy
 have dp:=Aside0.mk d1
 clear cy d1
 have HB:=Aside0.mk (Below.refl w.heap.size w)
 have H:((group_lift.f k J O X Y Z δ γ ι θ η ζ ε κ μ B τ χ ψ ω a1).bind fun ct=>(if ct=true then ((collect_Check.f k J 0 0 false false φ a0 a4).bind fun ai=>(if ai=0 then ((group_hall.f k J 8 a5 a6 a8).bind fun bm=>(if bm=true then ((group_cost.f k J O X Y Z δ γ ι θ η ζ ε κ μ B τ χ ψ ω a1 φ a0 a4 a5 a6 a8).bind fun bg=>(some (bg,0))) else (some (0,210)))) else (some (0,210)))) else (some (0,210))))=some (r1,r2):=h
 clear h
 replace H:=Option.bind_eq_some_iff.mp H
 obtain⟨ct,d7,H⟩:=H
 replace H:(if ct=true then ((collect_Check.f k J 0 0 false false φ a0 a4).bind fun ai=>(if ai=0 then ((group_hall.f k J 8 a5 a6 a8).bind fun bm=>(if bm=true then ((group_cost.f k J O X Y Z δ γ ι θ η ζ ε κ μ B τ χ ψ ω a1 φ a0 a4 a5 a6 a8).bind fun bg=>(some (bg,0))) else (some (0,210)))) else (some (0,210)))) else (some (0,210)))=some (r1,r2):=H
 have A5:=Aside0.mk d7
 clear d7
 by_cases c6:ct=true
 ·subst c6
  have H1:((collect_Check.f k J 0 0 false false φ a0 a4).bind fun ai=>(if ai=0 then ((group_hall.f k J 8 a5 a6 a8).bind fun bm=>(if bm=true then ((group_cost.f k J O X Y Z δ γ ι θ η ζ ε κ μ B τ χ ψ ω a1 φ a0 a4 a5 a6 a8).bind fun bg=>(some (bg,0))) else (some (0,210)))) else (some (0,210))))=some (r1,r2):=by rw[if_pos rfl] at H;exact H
  clear H
  have H:=H1
  clear H1
  replace H:=Option.bind_eq_some_iff.mp H
  obtain⟨ai,bo,H⟩:=H
  replace H:(if ai=0 then ((group_hall.f k J 8 a5 a6 a8).bind fun bm=>(if bm=true then ((group_cost.f k J O X Y Z δ γ ι θ η ζ ε κ μ B τ χ ψ ω a1 φ a0 a4 a5 a6 a8).bind fun bg=>(some (bg,0))) else (some (0,210)))) else (some (0,210)))=some (r1,r2):=H
  have A7:=Aside0.mk bo
  clear bo
  by_cases c8:ai=0
  ·rw[if_pos c8] at H
   have c8b0:(ai==0)=true:=beq_iff_eq.mpr c8
   have c8b1:(ai != 0)=false:=bne_eq_false_iff_eq.mpr c8
   clear c8
   replace H:=Option.bind_eq_some_iff.mp H
   obtain⟨bm,bl,H⟩:=H
   replace H:(if bm=true then ((group_cost.f k J O X Y Z δ γ ι θ η ζ ε κ μ B τ χ ψ ω a1 φ a0 a4 a5 a6 a8).bind fun bg=>(some (bg,0))) else (some (0,210)))=some (r1,r2):=H
   have A9:=Aside0.mk bl
   clear bl
   by_cases c10:bm=true
   ·subst c10
    have H1:((group_cost.f k J O X Y Z δ γ ι θ η ζ ε κ μ B τ χ ψ ω a1 φ a0 a4 a5 a6 a8).bind fun bg=>(some (bg,0)))=some (r1,r2):=by rw[if_pos rfl] at H;exact H
    clear H
    have H:=H1
    clear H1
    replace H:=Option.bind_eq_some_iff.mp H
    obtain⟨bg,bp,H⟩:=H
    replace H:(some (bg,0))=some (r1,r2):=H
    have ep:=Aside0.mk bp
    clear bp
    simp only[Option.some.injEq,Prod.mk.injEq] at H
    obtain⟨rfl,rfl⟩:=H
    go_enter Try.func10,Try.ntmps10
    go_wp2_with (first|((with_reducible refine Qf (N:=4) rfl ?_);refine qE 4 #[.int .i64 J,.int .i64 O,.int .i64 X,.int .i64 Y,.int .i64 Z,.int .i64 δ,.int .i64 γ,.int .i64 ι,.int .i64 θ,.int .i64 η] 25 ?_;intro cf hg fy hbox hb;have ν :=Aside0.mk hbox;have d0:=sGe hg;have cg:=sGe hg;replace HB:=sHb hb;clear hb hbox hg)|((with_reducible refine Qf (N:=5) rfl ?_);refine qE 5 #[.int .i64 ζ,.int .i64 ε,.int .i64 κ,.int .i64 μ,.int .i64 B,.int .i64 τ,.int .i64 χ,.int .i64 ψ,.bool ω,.bool a1] 31 ?_;intro ch hg fx hbox hb;have σ:=Aside0.mk hbox;have dr:=sGe hg;have ci:=sGe hg;have ax:=sNl ν hg;have ay:=sNg ν hg;replace ν :=sBk ν hb;replace HB:=sHb hb;clear hb hbox hg)|((with_reducible refine Qf (N:=6) rfl ?_);refine qE 6 #[.slice aa φ.length ab,.slice ae a0.length af,.slice ag a4.length ah] 34 ?_;intro cj hg ec hbox hb;have a2:=Aside0.mk hbox;have dt:=sGe hg;have ck:=sGe hg;have az:=sNl ν hg;have b0:=sNg ν hg;have b1:=sNl σ hg;have b2:=sNg σ hg;replace ν :=sBk ν hb;replace σ:=sBk σ hb;replace HB:=sHb hb;clear hb hbox hg)|((with_reducible refine Qf (N:=7) rfl ?_);refine qE 7 #[.int .i64 a5,.int .i64 a6,.int .i64 a8] 36 ?_;intro cm hg ge hbox hb;have a9:=Aside0.mk hbox;have fp:=sGe hg;have cn:=sGe hg;have b3:=sNl ν hg;have b4:=sNg ν hg;have b5:=sNl σ hg;have b6:=sNg σ hg;have bh:=sNl a2 hg;have bi:=sNg a2 hg;replace ν :=sBk ν hb;replace σ:=sBk σ hb;replace a2:=sBk a2 hb;replace HB:=sHb hb;clear hb hbox hg;have dn:=ax.out;have dv:=ay.out;have ha:=az.out;have he:=b0.out;have d6:=b3.out;have dq:=b4.out;obtain⟨aj,ak,ao,b7,b8,b9,ba,d9,da,db,am,an,ap,bb,bc,be,bf,dc,dd,de⟩:=Zn ν.out;have fv:=b1.out;have fw:=b2.out;have gb:=b5.out;have gg:=b6.out;obtain⟨bn,bq,df,et,eu,ev,ew,ga,gl,gq,br,bu,dh,ey,fq,fr,ft,gr,gs,gt⟩:=Zn σ.out)|((with_reducible refine Qo (f:=28) rfl ?_);refine Q6 (some 12) rfl rfl Try.func28 kr rfl #[.agg #[.int .i64 J,.int .i64 O,.int .i64 X,.int .i64 Y,.int .i64 Z,.int .i64 δ,.int .i64 γ,.int .i64 ι,.int .i64 θ,.int .i64 η],.agg #[.int .i64 ζ,.int .i64 ε,.int .i64 κ,.int .i64 μ,.int .i64 B,.int .i64 τ,.int .i64 χ,.int .i64 ψ,.bool ω,.bool a1]] rfl qM ?_;(with_reducible refine(group_lift.calls k J O X Y Z δ γ ι θ η ζ ε κ μ B τ χ ψ ω a1 true _ A5.out).mono ?_);rintro e bd ⟨rfl,hb⟩;refine⟨_,rfl, ?_⟩;replace ν :=sBk ν hb;replace σ:=sBk σ hb;replace a2:=sBk a2 hb;replace a9:=sBk a9 hb;replace HB:=sHb hb;(try clear hb);(try clear ac);(try clear hk);(try clear hi);obtain⟨ar,au,bj,eb,eg,eh,ei,ej,ek,el,av,aw,bk,em,en,fh,fi,fj,fk,fl⟩:=Zn ν.out;have f7:=bh.out;have fb:=bi.out;obtain⟨co,cp,di,cr,cx,e9⟩:=qD3 a2.out)|(go_at_call 29;(with_reducible refine(collect_Check.calls k J 0 0 false false (fun k_=>k_<w.heap.size) _ _ φ (fun k_=>k_<w.heap.size) _ _ a0 (fun k_=>k_<w.heap.size) _ _ a4 ai _ ?side1 ?side2 ?side3 A7.out).mono ?_);(case side1=>exact Kd.G4 d2.out (Kd.Xt (Kd.C_F (Kd.X7 .i64) cq.out) (by repeat(first|(with_reducible first|exact HB.out|apply Qs|apply Qh|apply Qg|refine Qv ?_ cg.out|refine Qv ?_ ci.out|refine Qv ?_ ck.out|refine Qv ?_ cn.out)|exact HB.out))));(case side2=>exact Kd.G4 d5.out (Kd.Xt (Kd.C_F (Kd.X7 .i64) d4.out) (by repeat(first|(with_reducible first|exact HB.out|apply Qs|apply Qh|apply Qg|refine Qv ?_ cg.out|refine Qv ?_ ci.out|refine Qv ?_ ck.out|refine Qv ?_ cn.out)|exact HB.out))));(case side3=>exact Kd.G4 dp.out (Kd.Xt (Kd.C_F (Kd.X7 .i64) dk.out) (by repeat(first|(with_reducible first|exact HB.out|apply Qs|apply Qh|apply Qg|refine Qv ?_ cg.out|refine Qv ?_ ci.out|refine Qv ?_ ck.out|refine Qv ?_ cn.out)|exact HB.out))));rintro e d8 ⟨rfl,hb⟩;have ξ :=Aside0.mk (Qz (g:=cf) (o:=.cells #[.int .i64 J,.int .i64 O,.int .i64 X,.int .i64 Y,.int .i64 Z,.int .i64 δ,.int .i64 γ,.int .i64 ι,.int .i64 θ,.int .i64 η] 25 (0,0)) (by(with_reducible repeat first|refine Qm ?_ _|refine Qe ?_|refine Qn ?_ _);exact ν.out) hb);have ρ:=Aside0.mk (Qz (g:=ch) (o:=.cells #[.int .i64 ζ,.int .i64 ε,.int .i64 κ,.int .i64 μ,.int .i64 B,.int .i64 τ,.int .i64 χ,.int .i64 ψ,.bool ω,.bool a1] 31 (0,0)) (by(with_reducible repeat first|refine Qm ?_ _|refine Qe ?_|refine Qn ?_ _);exact σ.out) hb);have a3:=Aside0.mk (Qz (g:=cj) (o:=.cells #[.slice aa φ.length ab,.slice ae a0.length af,.slice ag a4.length ah] 34 (0,0)) (by(with_reducible repeat first|refine Qm ?_ _|refine Qe ?_|refine Qn ?_ _);exact a2.out) hb);have a7:=Aside0.mk (Qz (g:=cm) (o:=.cells #[.int .i64 a5,.int .i64 a6,.int .i64 a8] 36 (0,0)) (by(with_reducible repeat first|refine Qm ?_ _|refine Qe ?_|refine Qn ?_ _);exact a9.out) hb);have al:=Aside0.mk (Q0 (by repeat(first|(with_reducible first|exact HB.out|apply Qs|apply Qh|apply Qg|refine Qv ?_ cg.out|refine Qv ?_ ci.out|refine Qv ?_ ck.out|refine Qv ?_ cn.out)|exact HB.out)) hb);clear ν;clear σ;clear a2;clear a9;clear HB;have ν := ξ;have σ:=ρ;have a2:=a3;have a9:=a7;have HB:=al;clear ξ ρ a3 a7 al;(try clear hb);(try clear ac);(try clear hk);(try clear hi);obtain⟨du,e0,e3,jd,je,jg,jh,ji,jj,jk,dy,ea,er,kc,kd,ke,kf,kg,kh,kj⟩:=Zn ν.out;obtain⟨gp,gy,hx,hy,i0,i1⟩:=qD3 a9.out)|(go_at_call 30;(with_reducible refine(group_hall.calls k J 8 a5 a6 a8 true _ A9.out).mono ?_);rintro e eo ⟨rfl,hb⟩;have ξ :=Aside0.mk (Qz (g:=cf) (o:=.cells #[.int .i64 J,.int .i64 O,.int .i64 X,.int .i64 Y,.int .i64 Z,.int .i64 δ,.int .i64 γ,.int .i64 ι,.int .i64 θ,.int .i64 η] 25 (0,0)) (by(with_reducible repeat first|refine Qm ?_ _|refine Qe ?_|refine Qn ?_ _);exact ν.out) hb);have ρ:=Aside0.mk (Qz (g:=ch) (o:=.cells #[.int .i64 ζ,.int .i64 ε,.int .i64 κ,.int .i64 μ,.int .i64 B,.int .i64 τ,.int .i64 χ,.int .i64 ψ,.bool ω,.bool a1] 31 (0,0)) (by(with_reducible repeat first|refine Qm ?_ _|refine Qe ?_|refine Qn ?_ _);exact σ.out) hb);have a3:=Aside0.mk (Qz (g:=cj) (o:=.cells #[.slice aa φ.length ab,.slice ae a0.length af,.slice ag a4.length ah] 34 (0,0)) (by(with_reducible repeat first|refine Qm ?_ _|refine Qe ?_|refine Qn ?_ _);exact a2.out) hb);have a7:=Aside0.mk (Qz (g:=cm) (o:=.cells #[.int .i64 a5,.int .i64 a6,.int .i64 a8] 36 (0,0)) (by(with_reducible repeat first|refine Qm ?_ _|refine Qe ?_|refine Qn ?_ _);exact a9.out) hb);have al:=Aside0.mk (Q0 (by repeat(first|(with_reducible first|exact HB.out|apply Qs|apply Qh|apply Qg|refine Qv ?_ cg.out|refine Qv ?_ ci.out|refine Qv ?_ ck.out|refine Qv ?_ cn.out)|exact HB.out)) hb);clear ν;clear σ;clear a2;clear a9;clear HB;have ν := ξ;have σ:=ρ;have a2:=a3;have a9:=a7;have HB:=al;clear ξ ρ a3 a7 al;(try clear hb);(try clear ac);(try clear hk);(try clear hi);obtain⟨dw,dx,dz,dj,ed,ez,f8,gk,h7,hj,e6,e7,e8,fa,fm,fn,fo,hl,ho,hu⟩:=Zn ν.out;obtain⟨fu,fz,h0,jl,jm,jn,jo,kq,ku,kv,h4,h5,h6,jq,jr,js,jt,kw,kx,ky⟩:=Zn σ.out;obtain⟨bw,bz,dl,ca,cb,dm⟩:=qD3 a2.out;obtain⟨gu,i9,ee,gv,ia,ef⟩:=qD3 a9.out)|((with_reducible refine Qo (f:=31) rfl ?_);refine Q6 (some 34) rfl rfl Try.func31 kr rfl #[.agg #[.int .i64 J,.int .i64 O,.int .i64 X,.int .i64 Y,.int .i64 Z,.int .i64 δ,.int .i64 γ,.int .i64 ι,.int .i64 θ,.int .i64 η],.agg #[.int .i64 ζ,.int .i64 ε,.int .i64 κ,.int .i64 μ,.int .i64 B,.int .i64 τ,.int .i64 χ,.int .i64 ψ,.bool ω,.bool a1],.agg #[.slice aa φ.length ab,.slice ae a0.length af,.slice ag a4.length ah],.agg #[.int .i64 a5,.int .i64 a6,.int .i64 a8]] rfl qM ?_;(with_reducible refine(group_cost.calls k J O X Y Z δ γ ι θ η ζ ε κ μ B τ χ ψ ω a1 _ _ φ _ _ a0 _ _ a4 a5 a6 a8 bg _ ?side1 ?side2 ?side3 ?side4 ?side5 ?side6 ep.out).mono ?_);(case side1=>exact(Kd.Qy cq.out HB.out));(case side2=>exact d2.out);(case side3=>exact(Kd.Qy d4.out HB.out));(case side4=>exact d5.out);(case side5=>exact(Kd.Qy dk.out HB.out));(case side6=>exact dp.out);rintro e ih ⟨rfl,hb⟩;refine⟨_,rfl, ?_⟩;replace ν :=sBk ν hb;replace σ:=sBk σ hb;replace a2:=sBk a2 hb;replace a9:=sBk a9 hb;replace HB:=sHb hb;(try clear hb);(try clear ac);(try clear hk);(try clear hi)))
    go_ret2
    exact⟨rfl,HB.out⟩
   ·replace c10:=Bool.eq_false_iff.mpr c10
    subst c10
    have H1:(some (0,210))=some (r1,r2):=by rw[if_neg (show ¬ (false=true) by decide)] at H;exact H
    clear H
    have H:=H1
    clear H1
    simp only[Option.some.injEq,Prod.mk.injEq] at H
    obtain⟨rfl,rfl⟩:=H
    go_enter Try.func10,Try.ntmps10
    go_wp2_with (first|((with_reducible refine Qf (N:=4) rfl ?_);refine qE 4 #[.int .i64 J,.int .i64 O,.int .i64 X,.int .i64 Y,.int .i64 Z,.int .i64 δ,.int .i64 γ,.int .i64 ι,.int .i64 θ,.int .i64 η] 25 ?_;intro cf hg ln hbox hb;have ν :=Aside0.mk hbox;have d0:=sGe hg;have cg:=sGe hg;replace HB:=sHb hb;clear hb hbox hg)|((with_reducible refine Qf (N:=5) rfl ?_);refine qE 5 #[.int .i64 ζ,.int .i64 ε,.int .i64 κ,.int .i64 μ,.int .i64 B,.int .i64 τ,.int .i64 χ,.int .i64 ψ,.bool ω,.bool a1] 31 ?_;intro ch hg lw hbox hb;have σ:=Aside0.mk hbox;have dr:=sGe hg;have ci:=sGe hg;have ax:=sNl ν hg;have ay:=sNg ν hg;replace ν :=sBk ν hb;replace HB:=sHb hb;clear hb hbox hg)|((with_reducible refine Qf (N:=6) rfl ?_);refine qE 6 #[.slice aa φ.length ab,.slice ae a0.length af,.slice ag a4.length ah] 34 ?_;intro cj hg nn hbox hb;have a2:=Aside0.mk hbox;have dt:=sGe hg;have ck:=sGe hg;have az:=sNl ν hg;have b0:=sNg ν hg;have b1:=sNl σ hg;have b2:=sNg σ hg;replace ν :=sBk ν hb;replace σ:=sBk σ hb;replace HB:=sHb hb;clear hb hbox hg)|((with_reducible refine Qf (N:=7) rfl ?_);refine qE 7 #[.int .i64 a5,.int .i64 a6,.int .i64 a8] 36 ?_;intro cm hg np hbox hb;have a9:=Aside0.mk hbox;have fp:=sGe hg;have cn:=sGe hg;have b3:=sNl ν hg;have b4:=sNg ν hg;have b5:=sNl σ hg;have b6:=sNg σ hg;have bh:=sNl a2 hg;have bi:=sNg a2 hg;replace ν :=sBk ν hb;replace σ:=sBk σ hb;replace a2:=sBk a2 hb;replace HB:=sHb hb;clear hb hbox hg;have gf:=ax.out;have gh:=ay.out;have iz:=az.out;have j4:=b0.out;have gn:=b3.out;have hh:=b4.out;obtain⟨jy,jz,k0,k1,k2,k3,k4,kz,l2,l3,k5,k6,k7,k8,k9,ka,kb,l4,l5,l6⟩:=Zn ν.out;have h8:=b1.out;have h9:=b2.out;have i4:=b5.out;have i5:=b6.out;obtain⟨gm,gw,ib,ic,ie,ig,it,l7,l8,mi,gx,gz,iu,iv,iw,ix,iy,mj,ml,mm⟩:=Zn σ.out)|((with_reducible refine Qo (f:=28) rfl ?_);refine Q6 (some 12) rfl rfl Try.func28 kr rfl #[.agg #[.int .i64 J,.int .i64 O,.int .i64 X,.int .i64 Y,.int .i64 Z,.int .i64 δ,.int .i64 γ,.int .i64 ι,.int .i64 θ,.int .i64 η],.agg #[.int .i64 ζ,.int .i64 ε,.int .i64 κ,.int .i64 μ,.int .i64 B,.int .i64 τ,.int .i64 χ,.int .i64 ψ,.bool ω,.bool a1]] rfl qM ?_;(with_reducible refine(group_lift.calls k J O X Y Z δ γ ι θ η ζ ε κ μ B τ χ ψ ω a1 true _ A5.out).mono ?_);rintro e jp ⟨rfl,hb⟩;refine⟨_,rfl, ?_⟩;replace ν :=sBk ν hb;replace σ:=sBk σ hb;replace a2:=sBk a2 hb;replace a9:=sBk a9 hb;replace HB:=sHb hb;(try clear hb);(try clear ac);(try clear hk);(try clear hi);obtain⟨fc,fe,mo,mq,mr,ms,mt,mu,mw,n0,ff,fg,n1,n2,n3,na,nb,nc,nd,nf⟩:=Zn ν.out;have gi:=bh.out;have gj:=bi.out;obtain⟨ij,ng,nh,ik,ni,nj⟩:=qD3 a2.out)|(go_at_call 29;(with_reducible refine(collect_Check.calls k J 0 0 false false (fun k_=>k_<w.heap.size) _ _ φ (fun k_=>k_<w.heap.size) _ _ a0 (fun k_=>k_<w.heap.size) _ _ a4 ai _ ?side1 ?side2 ?side3 A7.out).mono ?_);(case side1=>exact Kd.G4 d2.out (Kd.Xt (Kd.C_F (Kd.X7 .i64) cq.out) HB.out));(case side2=>exact Kd.G4 d5.out (Kd.Xt (Kd.C_F (Kd.X7 .i64) d4.out) HB.out));(case side3=>exact Kd.G4 dp.out (Kd.Xt (Kd.C_F (Kd.X7 .i64) dk.out) HB.out));rintro e y6 ⟨rfl,hb⟩;have ξ :=Aside0.mk (Qz (g:=cf) (o:=.cells #[.int .i64 J,.int .i64 O,.int .i64 X,.int .i64 Y,.int .i64 Z,.int .i64 δ,.int .i64 γ,.int .i64 ι,.int .i64 θ,.int .i64 η] 25 (0,0)) ν.out hb);have ρ:=Aside0.mk (Qz (g:=ch) (o:=.cells #[.int .i64 ζ,.int .i64 ε,.int .i64 κ,.int .i64 μ,.int .i64 B,.int .i64 τ,.int .i64 χ,.int .i64 ψ,.bool ω,.bool a1] 31 (0,0)) σ.out hb);have a3:=Aside0.mk (Qz (g:=cj) (o:=.cells #[.slice aa φ.length ab,.slice ae a0.length af,.slice ag a4.length ah] 34 (0,0)) a2.out hb);have a7:=Aside0.mk (Qz (g:=cm) (o:=.cells #[.int .i64 a5,.int .i64 a6,.int .i64 a8] 36 (0,0)) a9.out hb);have al:=Aside0.mk (Q0 HB.out hb);clear ν;clear σ;clear a2;clear a9;clear HB;have ν := ξ;have σ:=ρ;have a2:=a3;have a9:=a7;have HB:=al;clear ξ ρ a3 a7 al;(try clear hb);(try clear ac);(try clear hk);(try clear hi);obtain⟨cu,cv,il,nk,nl,nm,nq,nr,ns,nt,cw,cz,im,nu,nv,nw,nx,ny,nz,o0⟩:=Zn ν.out;obtain⟨kk,kl,km,kn,ko,kp⟩:=qD3 a9.out)|(go_at_call 30;(with_reducible refine(group_hall.calls k J 8 a5 a6 a8 false _ A9.out).mono ?_);rintro e qd ⟨rfl,hb⟩;have ξ :=Aside0.mk (Qz (g:=cf) (o:=.cells #[.int .i64 J,.int .i64 O,.int .i64 X,.int .i64 Y,.int .i64 Z,.int .i64 δ,.int .i64 γ,.int .i64 ι,.int .i64 θ,.int .i64 η] 25 (0,0)) ν.out hb);have ρ:=Aside0.mk (Qz (g:=ch) (o:=.cells #[.int .i64 ζ,.int .i64 ε,.int .i64 κ,.int .i64 μ,.int .i64 B,.int .i64 τ,.int .i64 χ,.int .i64 ψ,.bool ω,.bool a1] 31 (0,0)) σ.out hb);have a3:=Aside0.mk (Qz (g:=cj) (o:=.cells #[.slice aa φ.length ab,.slice ae a0.length af,.slice ag a4.length ah] 34 (0,0)) a2.out hb);have a7:=Aside0.mk (Qz (g:=cm) (o:=.cells #[.int .i64 a5,.int .i64 a6,.int .i64 a8] 36 (0,0)) a9.out hb);have al:=Aside0.mk (Q0 HB.out hb);clear ν;clear σ;clear a2;clear a9;clear HB;have ν := ξ;have σ:=ρ;have a2:=a3;have a9:=a7;have HB:=al;clear ξ ρ a3 a7 al;(try clear hb);(try clear ac);(try clear hk);(try clear hi)))
    go_ret2
    exact⟨rfl,HB.out⟩
  ·rw[if_neg c8] at H
   have c8b0:(ai==0)=false:=beq_eq_false_iff_ne.mpr c8
   have c8b1:(ai != 0)=true:=bne_iff_ne.mpr c8
   simp only[Option.some.injEq,Prod.mk.injEq] at H
   obtain⟨rfl,rfl⟩:=H
   go_enter Try.func10,Try.ntmps10
   go_wp2_with (first|((with_reducible refine Qf (N:=4) rfl ?_);refine qE 4 #[.int .i64 J,.int .i64 O,.int .i64 X,.int .i64 Y,.int .i64 Z,.int .i64 δ,.int .i64 γ,.int .i64 ι,.int .i64 θ,.int .i64 η] 25 ?_;intro cf hg qe hbox hb;have ν :=Aside0.mk hbox;have d0:=sGe hg;have cg:=sGe hg;replace HB:=sHb hb;clear hb hbox hg)|((with_reducible refine Qf (N:=5) rfl ?_);refine qE 5 #[.int .i64 ζ,.int .i64 ε,.int .i64 κ,.int .i64 μ,.int .i64 B,.int .i64 τ,.int .i64 χ,.int .i64 ψ,.bool ω,.bool a1] 31 ?_;intro ch hg d3 hbox hb;have σ:=Aside0.mk hbox;have dr:=sGe hg;have ci:=sGe hg;have ax:=sNl ν hg;have ay:=sNg ν hg;replace ν :=sBk ν hb;replace HB:=sHb hb;clear hb hbox hg)|((with_reducible refine Qf (N:=6) rfl ?_);refine qE 6 #[.slice aa φ.length ab,.slice ae a0.length af,.slice ag a4.length ah] 34 ?_;intro cj hg qf hbox hb;have a2:=Aside0.mk hbox;have dt:=sGe hg;have ck:=sGe hg;have az:=sNl ν hg;have b0:=sNg ν hg;have b1:=sNl σ hg;have b2:=sNg σ hg;replace ν :=sBk ν hb;replace σ:=sBk σ hb;replace HB:=sHb hb;clear hb hbox hg)|((with_reducible refine Qf (N:=7) rfl ?_);refine qE 7 #[.int .i64 a5,.int .i64 a6,.int .i64 a8] 36 ?_;intro cm hg qg hbox hb;have a9:=Aside0.mk hbox;have fp:=sGe hg;have cn:=sGe hg;have b3:=sNl ν hg;have b4:=sNg ν hg;have b5:=sNl σ hg;have b6:=sNg σ hg;have bh:=sNl a2 hg;have bi:=sNg a2 hg;replace ν :=sBk ν hb;replace σ:=sBk σ hb;replace a2:=sBk a2 hb;replace HB:=sHb hb;clear hb hbox hg;have q8:=ax.out;have q9:=ay.out;have my:=az.out;have mz:=b0.out;have ju:=b3.out;have jv:=b4.out;obtain⟨i2,i3,o1,o2,o3,o4,o5,o6,o7,o8,i6,i7,o9,oa,ob,oc,od,oe,oh,oi⟩:=Zn ν.out;have jw:=b1.out;have jx:=b2.out;have j5:=b5.out;have j6:=b6.out;obtain⟨l9,lb,lc,lf,lr,ls,lu,oj,ol,om,lv,lx,ly,lz,m0,m1,m2,oo,oq,ot⟩:=Zn σ.out)|((with_reducible refine Qo (f:=28) rfl ?_);refine Q6 (some 12) rfl rfl Try.func28 kr rfl #[.agg #[.int .i64 J,.int .i64 O,.int .i64 X,.int .i64 Y,.int .i64 Z,.int .i64 δ,.int .i64 γ,.int .i64 ι,.int .i64 θ,.int .i64 η],.agg #[.int .i64 ζ,.int .i64 ε,.int .i64 κ,.int .i64 μ,.int .i64 B,.int .i64 τ,.int .i64 χ,.int .i64 ψ,.bool ω,.bool a1]] rfl qM ?_;(with_reducible refine(group_lift.calls k J O X Y Z δ γ ι θ η ζ ε κ μ B τ χ ψ ω a1 true _ A5.out).mono ?_);rintro e qx ⟨rfl,hb⟩;refine⟨_,rfl, ?_⟩;replace ν :=sBk ν hb;replace σ:=sBk σ hb;replace a2:=sBk a2 hb;replace a9:=sBk a9 hb;replace HB:=sHb hb;(try clear hb);(try clear ac);(try clear hk);(try clear hi);obtain⟨m3,m4,m5,m6,m7,m8,m9,ou,ov,ow,ma,mb,mc,me,mf,mg,mh,ox,oy,oz⟩:=Zn ν.out;have lg:=bh.out;have lh:=bi.out;obtain⟨p0,p1,p5,p6,p7,p8⟩:=qD3 a2.out)|(go_at_call 29;(with_reducible refine(collect_Check.calls k J 0 0 false false (fun k_=>k_<w.heap.size) _ _ φ (fun k_=>k_<w.heap.size) _ _ a0 (fun k_=>k_<w.heap.size) _ _ a4 ai _ ?side1 ?side2 ?side3 A7.out).mono ?_);(case side1=>exact Kd.G4 d2.out (Kd.Xt (Kd.C_F (Kd.X7 .i64) cq.out) HB.out));(case side2=>exact Kd.G4 d5.out (Kd.Xt (Kd.C_F (Kd.X7 .i64) d4.out) HB.out));(case side3=>exact Kd.G4 dp.out (Kd.Xt (Kd.C_F (Kd.X7 .i64) dk.out) HB.out));rintro e qh ⟨rfl,hb⟩;have ξ :=Aside0.mk (Qz (g:=cf) (o:=.cells #[.int .i64 J,.int .i64 O,.int .i64 X,.int .i64 Y,.int .i64 Z,.int .i64 δ,.int .i64 γ,.int .i64 ι,.int .i64 θ,.int .i64 η] 25 (0,0)) ν.out hb);have ρ:=Aside0.mk (Qz (g:=ch) (o:=.cells #[.int .i64 ζ,.int .i64 ε,.int .i64 κ,.int .i64 μ,.int .i64 B,.int .i64 τ,.int .i64 χ,.int .i64 ψ,.bool ω,.bool a1] 31 (0,0)) σ.out hb);have a3:=Aside0.mk (Qz (g:=cj) (o:=.cells #[.slice aa φ.length ab,.slice ae a0.length af,.slice ag a4.length ah] 34 (0,0)) a2.out hb);have a7:=Aside0.mk (Qz (g:=cm) (o:=.cells #[.int .i64 a5,.int .i64 a6,.int .i64 a8] 36 (0,0)) a9.out hb);have al:=Aside0.mk (Q0 HB.out hb);clear ν;clear σ;clear a2;clear a9;clear HB;have ν := ξ;have σ:=ρ;have a2:=a3;have a9:=a7;have HB:=al;clear ξ ρ a3 a7 al;(try clear hb);(try clear ac);(try clear hk);(try clear hi)))
   go_ret2
   exact⟨rfl,HB.out⟩
 ·replace c6:=Bool.eq_false_iff.mpr c6
  subst c6
  have H1:(some (0,210))=some (r1,r2):=by rw[if_neg (show ¬ (false=true) by decide)] at H;exact H
  clear H
  have H:=H1
  clear H1
  simp only[Option.some.injEq,Prod.mk.injEq] at H
  obtain⟨rfl,rfl⟩:=H
  go_enter Try.func10,Try.ntmps10
  go_wp2_with (first|((with_reducible refine Qf (N:=4) rfl ?_);refine qE 4 #[.int .i64 J,.int .i64 O,.int .i64 X,.int .i64 Y,.int .i64 Z,.int .i64 δ,.int .i64 γ,.int .i64 ι,.int .i64 θ,.int .i64 η] 25 ?_;intro cf hg qi hbox hb;have ν :=Aside0.mk hbox;have d0:=sGe hg;have cg:=sGe hg;replace HB:=sHb hb;clear hb hbox hg)|((with_reducible refine Qf (N:=5) rfl ?_);refine qE 5 #[.int .i64 ζ,.int .i64 ε,.int .i64 κ,.int .i64 μ,.int .i64 B,.int .i64 τ,.int .i64 χ,.int .i64 ψ,.bool ω,.bool a1] 31 ?_;intro ch hg qj hbox hb;have σ:=Aside0.mk hbox;have dr:=sGe hg;have ci:=sGe hg;have ax:=sNl ν hg;have ay:=sNg ν hg;replace ν :=sBk ν hb;replace HB:=sHb hb;clear hb hbox hg)|((with_reducible refine Qf (N:=6) rfl ?_);refine qE 6 #[.slice aa φ.length ab,.slice ae a0.length af,.slice ag a4.length ah] 34 ?_;intro cj hg su hbox hb;have a2:=Aside0.mk hbox;have dt:=sGe hg;have ck:=sGe hg;have az:=sNl ν hg;have b0:=sNg ν hg;have b1:=sNl σ hg;have b2:=sNg σ hg;replace ν :=sBk ν hb;replace σ:=sBk σ hb;replace HB:=sHb hb;clear hb hbox hg)|((with_reducible refine Qf (N:=7) rfl ?_);refine qE 7 #[.int .i64 a5,.int .i64 a6,.int .i64 a8] 36 ?_;intro cm hg sv hbox hb;have a9:=Aside0.mk hbox;have fp:=sGe hg;have cn:=sGe hg;have b3:=sNl ν hg;have b4:=sNg ν hg;have b5:=sNl σ hg;have b6:=sNg σ hg;have bh:=sNl a2 hg;have bi:=sNg a2 hg;replace ν :=sBk ν hb;replace σ:=sBk σ hb;replace a2:=sBk a2 hb;replace HB:=sHb hb;clear hb hbox hg;have j7:=ax.out;have j8:=ay.out;have j9:=az.out;have ja:=b0.out;have ks:=b3.out;have kt:=b4.out;obtain⟨ii,io,ip,p9,pa,pb,pc,pd,pe,pf,iq,ir,j2,pg,pi,pj,pk,pm,pn,po⟩:=Zn ν.out;have ll:=b1.out;have lm:=b2.out;have lp:=b5.out;have lq:=b6.out;obtain⟨pp,pq,pr,pt,pu,pv,pw,px,py,pz,q0,q1,q2,q3,q4,q5,q6,q7,qa,qb⟩:=Zn σ.out)|((with_reducible refine Qo (f:=28) rfl ?_);refine Q6 (some 12) rfl rfl Try.func28 kr rfl #[.agg #[.int .i64 J,.int .i64 O,.int .i64 X,.int .i64 Y,.int .i64 Z,.int .i64 δ,.int .i64 γ,.int .i64 ι,.int .i64 θ,.int .i64 η],.agg #[.int .i64 ζ,.int .i64 ε,.int .i64 κ,.int .i64 μ,.int .i64 B,.int .i64 τ,.int .i64 χ,.int .i64 ψ,.bool ω,.bool a1]] rfl qM ?_;(with_reducible refine(group_lift.calls k J O X Y Z δ γ ι θ η ζ ε κ μ B τ χ ψ ω a1 false _ A5.out).mono ?_);rintro e qk ⟨rfl,hb⟩;refine⟨_,rfl, ?_⟩;replace ν :=sBk ν hb;replace σ:=sBk σ hb;replace a2:=sBk a2 hb;replace a9:=sBk a9 hb;replace HB:=sHb hb;(try clear hb);(try clear ac);(try clear hk);(try clear hi)))
  go_ret2
  exact⟨rfl,HB.out⟩
mutual
def group_Check.j0:Nat→List (S31)→Bool→Int→Int→Int→Int→Int→Int→Int→Int→Int→Int→List (S36)→List (S86)→Option (Int)
 |0,_,_,_,_,_,_,_,_,_,_,_,_,_,_=>none
 |k+1,J,τ,X,Y,Z,γ,δ,ε,ζ,η,θ,ι,κ,μ =>if τ = true then (some 210) else (group_Check.l0 k J J (J.length:Int) 0 X Y Z γ δ ε ζ η θ ι κ μ)
def group_Check.l0:Nat→List (S31)→List (S31)→Int→Int→Int→Int→Int→Int→Int→Int→Int→Int→Int→Int→List (S36)→List (S86)→Option (Int)
 |0,_,_,_,_,_,_,_,_,_,_,_,_,_,_,_,_=>none
 |k+1,J,B,ν,O,X,Y,Z,γ,δ,ε,ζ,η,θ,ι,κ,μ =>if O < ν then (if 0≤O then (if O<(B.length:Int) then ((group_lift.f k X Y Z γ δ ε ζ η θ ι ((Qb B O).f0.f0) ((Qb B O).f0.f1) ((Qb B O).f0.f2) ((Qb B O).f0.f3) ((Qb B O).f0.f4.f0) ((Qb B O).f0.f4.f1) ((Qb B O).f0.f4.f2) ((Qb B O).f1) ((Qb B O).f2) ((Qb B O).f3)).bind fun bg=>(if bg=true then (group_Check.l0 k J B ν (wrap64 (O+1)) X Y Z γ δ ε ζ η θ ι κ μ) else (some 210))) else (none)) else (none)) else ((group_house.f X Y Z γ δ ε ζ η θ ι J).bind fun ξ =>((call_Check.f k ξ.1 ξ.2 κ μ).bind fun ai=>(some ai)))
end
def group_Check.f (k:Nat) (J:Int) (O:Int) (X:Int) (Y:Int) (Z:Int) (δ :Int) (γ:Int) (ι :Int) (θ :Int) (η :Int) (l1:List (S31)) (φ :List (S36)) (a0:List (S86)):Option (Int):=if (l1.length:Int)<1 then (group_Check.j0 k l1 true J O X Y Z δ γ ι θ η φ a0) else (group_Check.j0 k l1 (decide ((l1.length:Int)>8)) J O X Y Z δ γ ι θ η φ a0)
theorem group_Check.Zp:∀ k,(∀ O X Z J Y y5 y6 y7 y8 y9 γ δ ζ η,LeO (group_Check.j0 k O X Z J Y y5 y6 y7 y8 y9 γ δ ζ η) (group_Check.j0 (k+1) O X Z J Y y5 y6 y7 y8 y9 γ δ ζ η))∧(∀ O X Z J Y y5 y6 y7 y8 y9 γ δ ζ η θ ι,LeO (group_Check.l0 k O X Z J Y y5 y6 y7 y8 y9 γ δ ζ η θ ι) (group_Check.l0 (k+1) O X Z J Y y5 y6 y7 y8 y9 γ δ ζ η θ ι))
 |0=>⟨fun _ _ _ _ _ _ _ _ _ _ _ _ _ _ r h=>by simp[group_Check.j0] at h,fun _ _ _ _ _ _ _ _ _ _ _ _ _ _ _ _ r h=>by simp[group_Check.l0] at h⟩
 |k+1=>by
  obtain⟨B,ε⟩:=group_Check.Zp k
  refine⟨?_, ?_⟩
  ·intro O X Z J Y y5 y6 y7 y8 y9 γ δ ζ η
   unfold group_Check.j0
   repeat' first
   |(with_reducible exact B _ _ _ _ _ _ _ _ _ _ _ _ _ _)
   |(with_reducible exact ε _ _ _ _ _ _ _ _ _ _ _ _ _ _ _ _)
   |(with_reducible exact call_Check.mono _ _ _ _ _)
   |(with_reducible exact group_lift.mono _ _ _ _ _ _ _ _ _ _ _ _ _ _ _ _ _ _ _ _ _)
   |(with_reducible exact LeO.refl _)
   |(with_reducible exact LeO.none _)
   |(with_reducible refine LeO.ite ?_ ?_)
   |(with_reducible refine LeO.bind ?_ (fun _=>?_))
   |exact B _ _ _ _ _ _ _ _ _ _ _ _ _ _
   |exact ε _ _ _ _ _ _ _ _ _ _ _ _ _ _ _ _
   |exact call_Check.mono _ _ _ _ _
   |exact group_lift.mono _ _ _ _ _ _ _ _ _ _ _ _ _ _ _ _ _ _ _ _ _
   |exact LeO.none _
   |refine LeO.ite ?_ ?_
   |refine LeO.bind ?_ (fun _=>?_)
  ·intro O X Z J Y y5 y6 y7 y8 y9 γ δ ζ η θ ι
   unfold group_Check.l0
   repeat' first
   |(with_reducible exact B _ _ _ _ _ _ _ _ _ _ _ _ _ _)
   |(with_reducible exact ε _ _ _ _ _ _ _ _ _ _ _ _ _ _ _ _)
   |(with_reducible exact call_Check.mono _ _ _ _ _)
   |(with_reducible exact group_lift.mono _ _ _ _ _ _ _ _ _ _ _ _ _ _ _ _ _ _ _ _ _)
   |(with_reducible exact LeO.refl _)
   |(with_reducible exact LeO.none _)
   |(with_reducible refine LeO.ite ?_ ?_)
   |(with_reducible refine LeO.bind ?_ (fun _=>?_))
   |exact B _ _ _ _ _ _ _ _ _ _ _ _ _ _
   |exact ε _ _ _ _ _ _ _ _ _ _ _ _ _ _ _ _
   |exact call_Check.mono _ _ _ _ _
   |exact group_lift.mono _ _ _ _ _ _ _ _ _ _ _ _ _ _ _ _ _ _ _ _ _
   |exact LeO.none _
   |refine LeO.ite ?_ ?_
   |refine LeO.bind ?_ (fun _=>?_)
theorem group_Check.mono:∀ J Y a2 a3 O a5 X a7 a8 a9 Z γ δ k,LeO (group_Check.f k J Y a2 a3 O a5 X a7 a8 a9 Z γ δ) (group_Check.f (k+1) J Y a2 a3 O a5 X a7 a8 a9 Z γ δ):=by
 intro J Y a2 a3 O a5 X a7 a8 a9 Z γ δ k
 obtain⟨B,ε⟩:=group_Check.Zp k
 unfold group_Check.f
 repeat' first
   |(with_reducible exact B _ _ _ _ _ _ _ _ _ _ _ _ _ _)
   |(with_reducible exact ε _ _ _ _ _ _ _ _ _ _ _ _ _ _ _ _)
   |(with_reducible exact call_Check.mono _ _ _ _ _)
   |(with_reducible exact group_lift.mono _ _ _ _ _ _ _ _ _ _ _ _ _ _ _ _ _ _ _ _ _)
   |(with_reducible exact LeO.refl _)
   |(with_reducible exact LeO.none _)
   |(with_reducible refine LeO.ite ?_ ?_)
   |(with_reducible refine LeO.bind ?_ (fun _=>?_))
   |exact B _ _ _ _ _ _ _ _ _ _ _ _ _ _
   |exact ε _ _ _ _ _ _ _ _ _ _ _ _ _ _ _ _
   |exact call_Check.mono _ _ _ _ _
   |exact group_lift.mono _ _ _ _ _ _ _ _ _ _ _ _ _ _ _ _ _ _ _ _ _
   |exact LeO.none _
   |refine LeO.ite ?_ ?_
   |refine LeO.bind ?_ (fun _=>?_)
set_option maxHeartbeats 8000000 in
set_option maxRecDepth 100000 in
theorem group_Check.calls (k:Nat) (J:Int) (O:Int) (X:Int) (Y:Int) (Z:Int) (δ :Int) (γ:Int) (ι :Int) (θ :Int) (η :Int) (A1:Option Addr) (c1:Nat) (l1:List (S31)) (aa:Option Addr) (ab:Nat) (φ :List (S36)) (ae:Option Addr) (af:Nat) (a0:List (S86)) (r:Int) (w:World) (dh:Kd.C k31 w A1 l1.length l1) (ck:l1.length≤c1) (bs:Kd.C k36 w aa φ.length φ) (bv: φ.length≤ab) (cd:Kd.C k86 w ae a0.length a0) (ce:a0.length≤af) (h:group_Check.f k J O X Y Z δ γ ι θ η l1 φ a0=some r):
  Calls Try.prog 17 #[.agg #[.int .i64 J,.int .i64 O,.int .i64 X,.int .i64 Y,.int .i64 Z,.int .i64 δ,.int .i64 γ,.int .i64 ι,.int .i64 θ,.int .i64 η],.slice A1 l1.length c1,.agg #[.slice aa φ.length ab,.slice ae a0.length af]] w fun e w'=>e = .returned (.int .i64 r)∧Below w.heap.size w w':=by
 have e5:=Try.underlying25
 have ed:=Try.underlying50
 have jc:=Try.underlying31
 have d1:=Aside0.mk dh
 have dk:=Aside0.mk ck
 clear dh ck
 have cq:=Aside0.mk bs
 have d2:=Aside0.mk bv
 clear bs bv
 have d4:=Aside0.mk cd
 have d5:=Aside0.mk ce
 clear cd ce
 have HB:=Aside0.mk (Below.refl w.heap.size w)
 have H:(if (l1.length:Int)<1 then (group_Check.j0 k l1 true J O X Y Z δ γ ι θ η φ a0) else (group_Check.j0 k l1 (decide ((l1.length:Int)>8)) J O X Y Z δ γ ι θ η φ a0))=some r:=h
 clear h
 have cn:=Aside0.mk H
 clear H
 go_enter Try.func17,Try.ntmps17
 go_upto_region 1 with(first|((with_reducible refine Qf (N:=3) rfl ?_);(try(refine Zr (by rfl) ?_;dsimp only));refine qE 3 #[.int .i64 J,.int .i64 O,.int .i64 X,.int .i64 Y,.int .i64 Z,.int .i64 δ,.int .i64 γ,.int .i64 ι,.int .i64 θ,.int .i64 η] 25 ?_;intro κ hg w5 hbox hb;have ε :=Aside0.mk hbox;have cw:=sGe hg;have d3:=sGe hg;replace HB:=sHb hb;clear hb hbox hg)|((with_reducible refine Qf (N:=5) rfl ?_);(try(refine Zr (by rfl) ?_;dsimp only));refine qE 5 #[.slice aa φ.length ab,.slice ae a0.length af] 50 ?_;intro b0 hg w6 hbox hb;have ζ :=Aside0.mk hbox;have d7:=sGe hg;have df:=sGe hg;have ay:=sNl ε hg;have az:=sNg ε hg;replace ε :=sBk ε hb;replace HB:=sHb hb;clear hb hbox hg))
 (try simp only[Act.put,qS])
 go_cut [16] (fun cv wc=>∃ (kq:Nat) (bd:Bool),cv = .bool bd∧Aside0 (group_Check.j0 kq l1 bd J O X Y Z δ γ ι θ η φ a0=some r)∧Aside0 (kq≤k)∧Aside0 (wc.heap[κ]?=some (.cells #[.int .i64 J,.int .i64 O,.int .i64 X,.int .i64 Y,.int .i64 Z,.int .i64 δ,.int .i64 γ,.int .i64 ι,.int .i64 θ,.int .i64 η] 25 (0,0)))∧Aside0 (wc.heap[b0]?=some (.cells #[(.slice aa φ.length ab),(.slice ae a0.length af)] 50 (0,0)))∧Aside0 (Below w.heap.size w wc))
 case first=>
  have H:=cn.out
  clear cn
  by_cases c7:(l1.length:Int)<1
  ·rw[if_pos c7] at H
   have c7b0:decide ((l1.length:Int)<1)=true:=decide_eq_true c7
   have c7b1:decide (l1.length<1)=true:=decide_eq_true (by omega)
   clear c7
   (first|rw[c7b0]|(simp only[Zg,Zl];rw[c7b0])|skip)
   have H':=Aside0.mk H
   clear H
   go_wp2
   go_meet
   case rel=>exact⟨_,(true),rfl,H',⟨by first|omega|exact Nat.le_refl _⟩,ε,ζ,HB⟩
  ·rw[if_neg c7] at H
   have c7b0:decide ((l1.length:Int)<1)=false:=decide_eq_false c7
   have c7b1:decide (l1.length<1)=false:=decide_eq_false (by omega)
   clear c7
   (first|rw[c7b0]|(simp only[Zg,Zl];rw[c7b0])|skip)
   have H':=Aside0.mk H
   clear H
   go_wp2
   go_meet
   case rel=>exact⟨_,(decide ((l1.length:Int)>8)),rfl,H',⟨by first|omega|exact Nat.le_refl _⟩,ε,ζ,HB⟩
 case rest=>
  clear cn
  try clear c1
  try clear c2
  try clear p2
  try clear c7
  try clear c7b0
  try clear c7b1
  obtain⟨kq,bd,rfl,HA,dy,ε,ζ,HB⟩:=hcut
  cases kq with
  |zero=>exact absurd HA.out (by simp[group_Check.j0])
  |succ e0=>
   have H:=HA.out
   clear HA
   simp only[group_Check.j0] at H
   by_cases c8:bd=true
   ·subst c8
    have H1:(some 210)=some r:=by rw[if_pos rfl] at H;exact H
    clear H
    have H:=H1
    clear H1
    obtain rfl:=Option.some.inj H
    go_wp2
    go_ret
    exact⟨rfl,HB.out⟩
   ·replace c8:=Bool.eq_false_iff.mpr c8
    subst c8
    have H1:(group_Check.l0 e0 l1 l1 (l1.length:Int) 0 J O X Y Z δ γ ι θ η φ a0)=some r:=by rw[if_neg (show ¬ (false=true) by decide)] at H;exact H
    clear H
    have H:=H1
    clear H1
    have H':=Aside0.mk H
    clear H
    go_wp2
    go_loopg [19] e0 (fun kq bu w'=>∃ (B:Int),bu = .int .i64 B∧Aside0 (group_Check.l0 kq l1 l1 (l1.length:Int) B J O X Y Z δ γ ι θ η φ a0=some r)∧Aside0 (kq≤e0)∧Aside0 (w'.heap[κ]?=some (.cells #[.int .i64 J,.int .i64 O,.int .i64 X,.int .i64 Y,.int .i64 Z,.int .i64 δ,.int .i64 γ,.int .i64 ι,.int .i64 θ,.int .i64 η] 25 (0,0)))∧Aside0 (w'.heap[b0]?=some (.cells #[(.slice aa φ.length ab),(.slice ae a0.length af)] 50 (0,0)))∧Aside0 (Below w.heap.size w w'))
    case atStart=>exact⟨(0),rfl,H',⟨Nat.le_refl _⟩,ε,ζ,HB⟩
    case round=>
     clear H'
     try clear c1
     try clear c2
     try clear p2
     try clear c7
     try clear c7b0
     try clear c7b1
     try clear c8
     try clear p2
     obtain⟨B,rfl,HA,dp,ε,ζ,HB⟩:=hrel
     cases gk with
     |zero=>exact absurd HA.out (by simp[group_Check.l0])
     |succ k2=>
      have H:=HA.out
      clear HA
      simp only[group_Check.l0] at H
      by_cases c9:B<(l1.length:Int)
      ·rw[if_pos c9] at H
       have c9b0:decide (B<(l1.length:Int))=true:=decide_eq_true c9
       clear c9
       by_cases c10:0≤B
       ·rw[if_pos c10] at H
        have c10b0:decide (0≤B)=true:=decide_eq_true c10
        clear c10
        by_cases ag:B<(l1.length:Int)
        ·rw[if_pos ag] at H
         have c11b0:decide (B<(l1.length:Int))=true:=decide_eq_true ag
         clear ag
         replace H:=Option.bind_eq_some_iff.mp H
         obtain⟨bg,ah,H⟩:=H
         replace H:(if bg=true then (group_Check.l0 k2 l1 l1 (l1.length:Int) (wrap64 (B+1)) J O X Y Z δ γ ι θ η φ a0) else (some 210))=some r:=H
         have a7:=Aside0.mk ah
         clear ah
         by_cases cy:bg=true
         ·subst cy
          have H1:(group_Check.l0 k2 l1 l1 (l1.length:Int) (wrap64 (B+1)) J O X Y Z δ γ ι θ η φ a0)=some r:=by rw[if_pos rfl] at H;exact H
          clear H
          have H:=H1
          clear H1
          have H':=Aside0.mk H
          clear H
          have a8:0≤(B:Int):=of_decide_eq_true (by assumption)
          have a9:B<(l1.length:Int):=of_decide_eq_true (by assumption)
          obtain⟨br,bp,μ,ν,ξ,ρ,σ,τ,χ,ψ,ω,a1⟩:=Kh d1.out B a8 a9
          cases bp
          replace μ :=(HB.out.cell (World.block_lt_of_cell? w _ μ)).trans μ
          replace ν :=(HB.out.cell (World.block_lt_of_cell? w _ ν)).trans ν
          replace ξ :=(HB.out.cell (World.block_lt_of_cell? w _ ξ)).trans ξ
          replace ρ:=(HB.out.cell (World.block_lt_of_cell? w _ ρ)).trans ρ
          replace σ:=(HB.out.cell (World.block_lt_of_cell? w _ σ)).trans σ
          replace τ :=(HB.out.cell (World.block_lt_of_cell? w _ τ)).trans τ
          replace χ :=(HB.out.cell (World.block_lt_of_cell? w _ χ)).trans χ
          replace ψ :=(HB.out.cell (World.block_lt_of_cell? w _ ψ)).trans ψ
          replace ω :=(HB.out.cell (World.block_lt_of_cell? w _ ω)).trans ω
          replace a1:=(HB.out.cell (World.block_lt_of_cell? w _ a1)).trans a1
          replace a8:=eq_true a8
          replace a9:=eq_true a9
          go_wp2_with (first|((with_reducible refine Qf (N:=8) rfl ?_);(try(refine Zr (by rfl) ?_;dsimp only));refine qE 8 #[.int .i64 0,.int .i64 0,.int .i64 0,.int .i64 0,.int .i64 0,.int .i64 0,.int .i64 0,.int .i64 0,.bool false,.bool false] 31 ?_;intro bh hg ec hbox hb;have a2:=Aside0.mk hbox;have bw:=sGe hg;have bz:=sGe hg;have a3:=sNl ε hg;have a4:=sNg ε hg;have a5:=sNl ζ hg;have a6:=sNg ζ hg;replace ε :=sBk ε hb;replace ζ :=sBk ζ hb;replace HB:=sHb hb;clear hb hbox hg;have gq:=a4.out;have gr:=a3.out;have dn:=a6.out;have dv:=a5.out;obtain⟨b1,b2,b6,al,ax,b5,bi,bo,cf,cg,b3,b4,bn,ch,ci,dw,dx,dz,e6,e7⟩:=Zn a2.out;have d6:=ay.out;have dq:=az.out;obtain⟨aj,ak,ao,b7,b8,b9,ba,d9,da,db,am,an,ap,bb,bc,be,bf,dc,dd,de⟩:=Zn ε.out)|((with_reducible refine Qo (f:=28) rfl ?_);refine Q6 (some 25) rfl rfl Try.func28 kr rfl #[.agg #[.int .i64 J,.int .i64 O,.int .i64 X,.int .i64 Y,.int .i64 Z,.int .i64 δ,.int .i64 γ,.int .i64 ι,.int .i64 θ,.int .i64 η],.agg #[.int .i64 ((Qb l1 B).f0.f0),.int .i64 ((Qb l1 B).f0.f1),.int .i64 ((Qb l1 B).f0.f2),.int .i64 ((Qb l1 B).f0.f3),.int .i64 ((Qb l1 B).f0.f4.f0),.int .i64 ((Qb l1 B).f0.f4.f1),.int .i64 ((Qb l1 B).f0.f4.f2),.int .i64 ((Qb l1 B).f1),.bool ((Qb l1 B).f2),.bool ((Qb l1 B).f3)]] rfl qM ?_;(with_reducible refine(group_lift.calls k2 J O X Y Z δ γ ι θ η ((Qb l1 B).f0.f0) ((Qb l1 B).f0.f1) ((Qb l1 B).f0.f2) ((Qb l1 B).f0.f3) ((Qb l1 B).f0.f4.f0) ((Qb l1 B).f0.f4.f1) ((Qb l1 B).f0.f4.f2) ((Qb l1 B).f1) ((Qb l1 B).f2) ((Qb l1 B).f3) true _ a7.out).mono ?_);rintro e dj ⟨rfl,hb⟩;refine⟨_,rfl, ?_⟩;replace ε :=sBk ε hb;replace ζ :=sBk ζ hb;replace a2:=Aside0.mk (Qz (g:=bh) (o:=.cells #[.int .i64 ((Qb l1 B).f0.f0),.int .i64 ((Qb l1 B).f0.f1),.int .i64 ((Qb l1 B).f0.f2),.int .i64 ((Qb l1 B).f0.f3),.int .i64 ((Qb l1 B).f0.f4.f0),.int .i64 ((Qb l1 B).f0.f4.f1),.int .i64 ((Qb l1 B).f0.f4.f2),.int .i64 ((Qb l1 B).f1),.bool ((Qb l1 B).f2),.bool ((Qb l1 B).f3)] 31 (0,0)) (by refine Ql (cs:=#[.int .i64 ((Qb l1 B).f0.f0),.int .i64 ((Qb l1 B).f0.f1),.int .i64 ((Qb l1 B).f0.f2),.int .i64 ((Qb l1 B).f0.f3),.int .i64 ((Qb l1 B).f0.f4.f0),.int .i64 ((Qb l1 B).f0.f4.f1),.int .i64 ((Qb l1 B).f0.f4.f2),.int .i64 ((Qb l1 B).f1),.bool ((Qb l1 B).f2),.bool false]) ?_ 9 _ rfl;refine Ql (cs:=#[.int .i64 ((Qb l1 B).f0.f0),.int .i64 ((Qb l1 B).f0.f1),.int .i64 ((Qb l1 B).f0.f2),.int .i64 ((Qb l1 B).f0.f3),.int .i64 ((Qb l1 B).f0.f4.f0),.int .i64 ((Qb l1 B).f0.f4.f1),.int .i64 ((Qb l1 B).f0.f4.f2),.int .i64 ((Qb l1 B).f1),.bool false,.bool false]) ?_ 8 _ rfl;refine Ql (cs:=#[.int .i64 ((Qb l1 B).f0.f0),.int .i64 ((Qb l1 B).f0.f1),.int .i64 ((Qb l1 B).f0.f2),.int .i64 ((Qb l1 B).f0.f3),.int .i64 ((Qb l1 B).f0.f4.f0),.int .i64 ((Qb l1 B).f0.f4.f1),.int .i64 ((Qb l1 B).f0.f4.f2),.int .i64 0,.bool false,.bool false]) ?_ 7 _ rfl;refine Ql (cs:=#[.int .i64 ((Qb l1 B).f0.f0),.int .i64 ((Qb l1 B).f0.f1),.int .i64 ((Qb l1 B).f0.f2),.int .i64 ((Qb l1 B).f0.f3),.int .i64 ((Qb l1 B).f0.f4.f0),.int .i64 ((Qb l1 B).f0.f4.f1),.int .i64 0,.int .i64 0,.bool false,.bool false]) ?_ 6 _ rfl;refine Ql (cs:=#[.int .i64 ((Qb l1 B).f0.f0),.int .i64 ((Qb l1 B).f0.f1),.int .i64 ((Qb l1 B).f0.f2),.int .i64 ((Qb l1 B).f0.f3),.int .i64 ((Qb l1 B).f0.f4.f0),.int .i64 0,.int .i64 0,.int .i64 0,.bool false,.bool false]) ?_ 5 _ rfl;refine Ql (cs:=#[.int .i64 ((Qb l1 B).f0.f0),.int .i64 ((Qb l1 B).f0.f1),.int .i64 ((Qb l1 B).f0.f2),.int .i64 ((Qb l1 B).f0.f3),.int .i64 0,.int .i64 0,.int .i64 0,.int .i64 0,.bool false,.bool false]) ?_ 4 _ rfl;refine Ql (cs:=#[.int .i64 ((Qb l1 B).f0.f0),.int .i64 ((Qb l1 B).f0.f1),.int .i64 ((Qb l1 B).f0.f2),.int .i64 0,.int .i64 0,.int .i64 0,.int .i64 0,.int .i64 0,.bool false,.bool false]) ?_ 3 _ rfl;refine Ql (cs:=#[.int .i64 ((Qb l1 B).f0.f0),.int .i64 ((Qb l1 B).f0.f1),.int .i64 0,.int .i64 0,.int .i64 0,.int .i64 0,.int .i64 0,.int .i64 0,.bool false,.bool false]) ?_ 2 _ rfl;refine Ql (cs:=#[.int .i64 ((Qb l1 B).f0.f0),.int .i64 0,.int .i64 0,.int .i64 0,.int .i64 0,.int .i64 0,.int .i64 0,.int .i64 0,.bool false,.bool false]) ?_ 1 _ rfl;refine Ql (cs:=#[.int .i64 0,.int .i64 0,.int .i64 0,.int .i64 0,.int .i64 0,.int .i64 0,.int .i64 0,.int .i64 0,.bool false,.bool false]) ?_ 0 _ rfl;exact a2.out) hb);replace HB:=sHb hb;(try clear hb);(try clear ac);(try clear hk);(try clear hi)))
          go_roundg k2
          case measure=>have:=dy.out;have:=dp.out;omega
          case rel=>exact⟨(wrap64 (B+1)),rfl,H',⟨by have:=dy.out;have:=dp.out;omega⟩,ε,ζ,HB⟩
         ·replace cy:=Bool.eq_false_iff.mpr cy
          subst cy
          have H1:(some 210)=some r:=by rw[if_neg (show ¬ (false=true) by decide)] at H;exact H
          clear H
          have H:=H1
          clear H1
          obtain rfl:=Option.some.inj H
          have a8:0≤(B:Int):=of_decide_eq_true (by assumption)
          have a9:B<(l1.length:Int):=of_decide_eq_true (by assumption)
          obtain⟨br,bp,μ,ν,ξ,ρ,σ,τ,χ,ψ,ω,a1⟩:=Kh d1.out B a8 a9
          cases bp
          replace μ :=(HB.out.cell (World.block_lt_of_cell? w _ μ)).trans μ
          replace ν :=(HB.out.cell (World.block_lt_of_cell? w _ ν)).trans ν
          replace ξ :=(HB.out.cell (World.block_lt_of_cell? w _ ξ)).trans ξ
          replace ρ:=(HB.out.cell (World.block_lt_of_cell? w _ ρ)).trans ρ
          replace σ:=(HB.out.cell (World.block_lt_of_cell? w _ σ)).trans σ
          replace τ :=(HB.out.cell (World.block_lt_of_cell? w _ τ)).trans τ
          replace χ :=(HB.out.cell (World.block_lt_of_cell? w _ χ)).trans χ
          replace ψ :=(HB.out.cell (World.block_lt_of_cell? w _ ψ)).trans ψ
          replace ω :=(HB.out.cell (World.block_lt_of_cell? w _ ω)).trans ω
          replace a1:=(HB.out.cell (World.block_lt_of_cell? w _ a1)).trans a1
          replace a8:=eq_true a8
          replace a9:=eq_true a9
          go_wp2_with (first|((with_reducible refine Qf (N:=8) rfl ?_);(try(refine Zr (by rfl) ?_;dsimp only));refine qE 8 #[.int .i64 0,.int .i64 0,.int .i64 0,.int .i64 0,.int .i64 0,.int .i64 0,.int .i64 0,.int .i64 0,.bool false,.bool false] 31 ?_;intro bh hg cz hbox hb;have a2:=Aside0.mk hbox;have bw:=sGe hg;have bz:=sGe hg;have a3:=sNl ε hg;have a4:=sNg ε hg;have a5:=sNl ζ hg;have a6:=sNg ζ hg;replace ε :=sBk ε hb;replace ζ :=sBk ζ hb;replace HB:=sHb hb;clear hb hbox hg;have f8:=a4.out;have fa:=a3.out;have dr:=a6.out;have dt:=a5.out;obtain⟨ar,au,bj,eb,eg,eh,ei,ej,ek,el,av,aw,bk,em,en,fh,fi,fj,fk,fl⟩:=Zn a2.out;have f7:=ay.out;have fb:=az.out;obtain⟨co,cp,di,fv,fw,fx,fy,ga,ca,cb,cr,cx,e9,gb,ge,gf,gg,gh,cj,cm⟩:=Zn ε.out)|((with_reducible refine Qo (f:=28) rfl ?_);refine Q6 (some 25) rfl rfl Try.func28 kr rfl #[.agg #[.int .i64 J,.int .i64 O,.int .i64 X,.int .i64 Y,.int .i64 Z,.int .i64 δ,.int .i64 γ,.int .i64 ι,.int .i64 θ,.int .i64 η],.agg #[.int .i64 ((Qb l1 B).f0.f0),.int .i64 ((Qb l1 B).f0.f1),.int .i64 ((Qb l1 B).f0.f2),.int .i64 ((Qb l1 B).f0.f3),.int .i64 ((Qb l1 B).f0.f4.f0),.int .i64 ((Qb l1 B).f0.f4.f1),.int .i64 ((Qb l1 B).f0.f4.f2),.int .i64 ((Qb l1 B).f1),.bool ((Qb l1 B).f2),.bool ((Qb l1 B).f3)]] rfl qM ?_;(with_reducible refine(group_lift.calls k2 J O X Y Z δ γ ι θ η ((Qb l1 B).f0.f0) ((Qb l1 B).f0.f1) ((Qb l1 B).f0.f2) ((Qb l1 B).f0.f3) ((Qb l1 B).f0.f4.f0) ((Qb l1 B).f0.f4.f1) ((Qb l1 B).f0.f4.f2) ((Qb l1 B).f1) ((Qb l1 B).f2) ((Qb l1 B).f3) false _ a7.out).mono ?_);rintro e d8 ⟨rfl,hb⟩;refine⟨_,rfl, ?_⟩;replace ε :=sBk ε hb;replace ζ :=sBk ζ hb;replace a2:=Aside0.mk (Qz (g:=bh) (o:=.cells #[.int .i64 ((Qb l1 B).f0.f0),.int .i64 ((Qb l1 B).f0.f1),.int .i64 ((Qb l1 B).f0.f2),.int .i64 ((Qb l1 B).f0.f3),.int .i64 ((Qb l1 B).f0.f4.f0),.int .i64 ((Qb l1 B).f0.f4.f1),.int .i64 ((Qb l1 B).f0.f4.f2),.int .i64 ((Qb l1 B).f1),.bool ((Qb l1 B).f2),.bool ((Qb l1 B).f3)] 31 (0,0)) (by refine Ql (cs:=#[.int .i64 ((Qb l1 B).f0.f0),.int .i64 ((Qb l1 B).f0.f1),.int .i64 ((Qb l1 B).f0.f2),.int .i64 ((Qb l1 B).f0.f3),.int .i64 ((Qb l1 B).f0.f4.f0),.int .i64 ((Qb l1 B).f0.f4.f1),.int .i64 ((Qb l1 B).f0.f4.f2),.int .i64 ((Qb l1 B).f1),.bool ((Qb l1 B).f2),.bool false]) ?_ 9 _ rfl;refine Ql (cs:=#[.int .i64 ((Qb l1 B).f0.f0),.int .i64 ((Qb l1 B).f0.f1),.int .i64 ((Qb l1 B).f0.f2),.int .i64 ((Qb l1 B).f0.f3),.int .i64 ((Qb l1 B).f0.f4.f0),.int .i64 ((Qb l1 B).f0.f4.f1),.int .i64 ((Qb l1 B).f0.f4.f2),.int .i64 ((Qb l1 B).f1),.bool false,.bool false]) ?_ 8 _ rfl;refine Ql (cs:=#[.int .i64 ((Qb l1 B).f0.f0),.int .i64 ((Qb l1 B).f0.f1),.int .i64 ((Qb l1 B).f0.f2),.int .i64 ((Qb l1 B).f0.f3),.int .i64 ((Qb l1 B).f0.f4.f0),.int .i64 ((Qb l1 B).f0.f4.f1),.int .i64 ((Qb l1 B).f0.f4.f2),.int .i64 0,.bool false,.bool false]) ?_ 7 _ rfl;refine Ql (cs:=#[.int .i64 ((Qb l1 B).f0.f0),.int .i64 ((Qb l1 B).f0.f1),.int .i64 ((Qb l1 B).f0.f2),.int .i64 ((Qb l1 B).f0.f3),.int .i64 ((Qb l1 B).f0.f4.f0),.int .i64 ((Qb l1 B).f0.f4.f1),.int .i64 0,.int .i64 0,.bool false,.bool false]) ?_ 6 _ rfl;refine Ql (cs:=#[.int .i64 ((Qb l1 B).f0.f0),.int .i64 ((Qb l1 B).f0.f1),.int .i64 ((Qb l1 B).f0.f2),.int .i64 ((Qb l1 B).f0.f3),.int .i64 ((Qb l1 B).f0.f4.f0),.int .i64 0,.int .i64 0,.int .i64 0,.bool false,.bool false]) ?_ 5 _ rfl;refine Ql (cs:=#[.int .i64 ((Qb l1 B).f0.f0),.int .i64 ((Qb l1 B).f0.f1),.int .i64 ((Qb l1 B).f0.f2),.int .i64 ((Qb l1 B).f0.f3),.int .i64 0,.int .i64 0,.int .i64 0,.int .i64 0,.bool false,.bool false]) ?_ 4 _ rfl;refine Ql (cs:=#[.int .i64 ((Qb l1 B).f0.f0),.int .i64 ((Qb l1 B).f0.f1),.int .i64 ((Qb l1 B).f0.f2),.int .i64 0,.int .i64 0,.int .i64 0,.int .i64 0,.int .i64 0,.bool false,.bool false]) ?_ 3 _ rfl;refine Ql (cs:=#[.int .i64 ((Qb l1 B).f0.f0),.int .i64 ((Qb l1 B).f0.f1),.int .i64 0,.int .i64 0,.int .i64 0,.int .i64 0,.int .i64 0,.int .i64 0,.bool false,.bool false]) ?_ 2 _ rfl;refine Ql (cs:=#[.int .i64 ((Qb l1 B).f0.f0),.int .i64 0,.int .i64 0,.int .i64 0,.int .i64 0,.int .i64 0,.int .i64 0,.int .i64 0,.bool false,.bool false]) ?_ 1 _ rfl;refine Ql (cs:=#[.int .i64 0,.int .i64 0,.int .i64 0,.int .i64 0,.int .i64 0,.int .i64 0,.int .i64 0,.int .i64 0,.bool false,.bool false]) ?_ 0 _ rfl;exact a2.out) hb);replace HB:=sHb hb;(try clear hb);(try clear ac);(try clear hk);(try clear hi)))
          go_ret
          exact⟨rfl,HB.out⟩
        ·rw[if_neg ag] at H
         exact absurd H (by simp)
       ·rw[if_neg c10] at H
        exact absurd H (by simp)
      ·rw[if_neg c9] at H
       have c9b0:decide (B<(l1.length:Int))=false:=decide_eq_false c9
       clear c9
       replace H:=Option.bind_eq_some_iff.mp H
       obtain⟨⟨bl,bm⟩,ct,H⟩:=H
       replace H:((call_Check.f k2 bl bm φ a0).bind fun ai=>(some ai))=some r:=H
       have d0:=Aside0.mk ct
       clear ct
       replace H:=Option.bind_eq_some_iff.mp H
       obtain⟨ai,du,H⟩:=H
       replace H:(some ai)=some r:=H
       have et:=Aside0.mk du
       clear du
       obtain rfl:=Option.some.inj H
       try go_wp2
       replace ε :=Aside0.mk (Qe ε.out)
       replace ζ :=Aside0.mk (Qe ζ.out)
       replace HB:=Aside0.mk (Qg HB.out)
       refine Zi (n:=6) (S:=fun w'=>w'.cell? ⟨κ,0,none⟩=some (.int .i64 J)∧w'.cell? ⟨κ,1,none⟩=some (.int .i64 O)∧w'.cell? ⟨κ,2,none⟩=some (.int .i64 X)∧w'.cell? ⟨κ,3,none⟩=some (.int .i64 Y)∧w'.cell? ⟨κ,4,none⟩=some (.int .i64 Z)∧w'.cell? ⟨κ,5,none⟩=some (.int .i64 δ)∧w'.cell? ⟨κ,6,none⟩=some (.int .i64 γ)∧w'.cell? ⟨κ,7,none⟩=some (.int .i64 ι)∧w'.cell? ⟨κ,8,none⟩=some (.int .i64 θ)∧w'.cell? ⟨κ,9,none⟩=some (.int .i64 η)∧w'.cell? ⟨b0,0,none⟩=some (.slice aa φ.length ab)∧w'.cell? ⟨b0,1,none⟩=some (.slice ae a0.length af)) (ds:=[]) #[false,false,false,false,false,false] kr rfl rfl ⟨(Qa ε.out 0).trans rfl,(Qa ε.out 1).trans rfl,(Qa ε.out 2).trans rfl,(Qa ε.out 3).trans rfl,(Qa ε.out 4).trans rfl,(Qa ε.out 5).trans rfl,(Qa ε.out 6).trans rfl,(Qa ε.out 7).trans rfl,(Qa ε.out 8).trans rfl,(Qa ε.out 9).trans rfl,(Qa ζ.out 0).trans rfl,(Qa ζ.out 1).trans rfl⟩ (fun hHeld=>?_)
       generalize wr.drew=eo at ε ζ HB hHeld ⊢
       refine X4 (i:=1) (N:=some 29) (v:=?_) (a':=?_) (bN 6 2) rfl rfl kr (fun _ _ _ h=>h) (Or.inl ⟨by rfl, ?_⟩) ?_ ?_
       rotate_left
       ·intro w'
        go_simp
        with_reducible rfl
       rotate_left
       ·simp only[Act.put,qS,Zg,Zl]
        rfl
       refine Jm (i:=0) (N:=some 28) (v:=?_) (a':=?_) (bN 6 3) rfl rfl kr (fun _ _ _ h=>h) (Or.inl ⟨by rfl, ?_⟩) hHeld ?_ ?_
       rotate_left
       ·rintro w' ⟨s0,s1,s2,s3,s4,s5,s6,s7,s8,s9,bq,cu⟩
        go_simp
        with_reducible rfl
       rotate_left
       ·simp only[Act.put,qS,Zg,Zl]
        rfl
       refine Jm (i:=3) (N:=some 31) (v:=?_) (a':=?_) (bN 6 11) rfl rfl kr (fun _ _ _ h=>h) (Or.inl ⟨by rfl, ?_⟩) hHeld ?_ ?_
       rotate_left
       ·rintro w' ⟨s0,s1,s2,s3,s4,s5,s6,s7,s8,s9,bq,cu⟩
        go_simp
        with_reducible rfl
       rotate_left
       ·simp only[Act.put,qS,Zg,Zl]
        rfl
       refine Zb (i:=2) (N:=some 30) (bN 6 15) rfl rfl kr (by decide) (fun K hK=>?_)
       refine Za Try.func37 kr rfl #[.agg #[.int .i64 J,.int .i64 O,.int .i64 X,.int .i64 Y,.int .i64 Z,.int .i64 δ,.int .i64 γ,.int .i64 ι,.int .i64 θ,.int .i64 η],.slice A1 l1.length c1] (by rfl) rfl rfl qM ?_
       with_reducible refine(group_house.calls J O X Y Z δ γ ι θ η _ _ l1 bl bm _ ?side1 ?side2 d0.out).mono ?_
       (case side1=>exact(Kd.Qy d1.out HB.out))
       (case side2=>exact dk.out)
       rintro e ea ⟨rfl,hb⟩
       refine⟨_,rfl, ?_⟩
       replace ε :=sBk ε hb
       replace ζ :=sBk ζ hb
       replace HB:=sHb hb
       (try clear hb)
       (try clear ac)
       (try clear hk)
       (try clear hi)
       refine hK.out _ _ ⟨qc ε,qc ε,qc ε,qc ε,qc ε,qc ε,qc ε,qc ε,qc ε,qc ε,qc ζ,qc ζ⟩ (fun hHeld=>?_)
       clear hK K
       refine qN (some 30) ?_
       refine Zb (i:=4) (N:=some 32) (bN 6 31) rfl rfl kr (by decide) (fun K hK=>?_)
       refine Za Try.func40 kr rfl #[.agg #[.int .i64 bl,.int .i64 bm],.agg #[.slice aa φ.length ab,.slice ae a0.length af]] (by rfl) rfl rfl qM ?_
       with_reducible refine(call_Check.calls k2 bl bm _ _ φ _ _ a0 ai _ ?side1 ?side2 ?side3 ?side4 et.out).mono ?_
       (case side1=>exact(Kd.Qy cq.out HB.out))
       (case side2=>exact d2.out)
       (case side3=>exact(Kd.Qy d4.out HB.out))
       (case side4=>exact d5.out)
       rintro e jd ⟨rfl,hb⟩
       refine⟨_,rfl, ?_⟩
       replace ε :=sBk ε hb
       replace ζ :=sBk ζ hb
       replace HB:=sHb hb
       (try clear hb)
       (try clear ac)
       (try clear hk)
       (try clear hi)
       refine hK.out _ _ ⟨qc ε,qc ε,qc ε,qc ε,qc ε,qc ε,qc ε,qc ε,qc ε,qc ε,qc ζ,qc ζ⟩ (fun hHeld=>?_)
       clear hK K
       refine qN (some 32) ?_
       refine X4 (i:=5) (N:=some 6) (v:=?_) (a':=?_) (bN 6 63) rfl rfl kr (fun _ _ _ h=>h) (Or.inl ⟨by rfl, ?_⟩) ?_ ?_
       rotate_left
       ·intro w'
        go_simp
        with_reducible rfl
       rotate_left
       ·simp only[Act.put,qS,Zg,Zl]
        rfl
       refine Zx kr ?_
       try go_wp2
       go_ret
       exact⟨rfl,HB.out⟩
end Go.Proofs.Ytmfffemidlhcpaa.C
