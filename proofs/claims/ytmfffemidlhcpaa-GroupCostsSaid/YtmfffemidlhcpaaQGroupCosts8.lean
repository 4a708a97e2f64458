/- Texts of this claim, one behind the other: what the law's functions come to, walked (printed by a program, with the words that the print uses), and what that is, in plain Lean. No conditions of their own. -/
import Derived.Test.YtmfffemidlhcpaaQGroupCosts7
import Derived.WalkSpells
namespace Go.Proofs.Ytmfffemidlhcpaa.C
open Go.RowKit Go.Proofs.YtmfffemidlhcpaaW.PrintWords Go.Proofs.YtmfffemidlhcpaaW.PrintLast Go.Proofs.YtmfffemidlhcpaaW.PrintMore
attribute [local go_sem] Zz Zx Z9 Z8 Zq Zp Zy Zw
set_option linter.unusedVariables false
set_option linter.unusedSimpArgs false
def api_Hall_88.f (l0:List S36):Option (List S36):=if l0.length<1000000000 then some l0 else none
set_option maxRecDepth 100000 in
set_option maxHeartbeats 1000000 in
theorem api_Hall_88.calls (Z:Option Addr) (c0:Nat) (l0:List S36) (r:List S36) (w:World) (ξ :Kd.C k36 w Z l0.length l0) (γ:l0.length≤c0) (h:api_Hall_88.f l0=some r):
    Calls Try.prog 88 #[.slice Z l0.length c0] w fun e w'=>∃ bd:Value,e = .returned bd∧Kd.R k36 36 w' w.heap.size (fun _=>True) bd r∧Below w.heap.size w w':=by
  unfold api_Hall_88.f at h
  split at h
  case isFalse=>cases h
  case isTrue hl=>
  cases h
  have HR:=Aside0.mk ξ
  have HC:=Aside0.mk γ
  have HL:=Aside0.mk hl
  have HB:=Aside0.mk (Below.refl w.heap.size w)
  have hn:Z=none→l0 = []:=by
    intro hA
    rcases Nat.eq_zero_or_pos l0.length with h|h
    · exact List.eq_nil_of_length_eq_zero h
    · obtain⟨ad,e,_⟩:= ξ.2.2 h
      rw[hA] at e
      cases e
  clear ξ γ hl
  have hEq:∀ (W:World),(binOp .eql 47 (.slice Z l0.length c0) (.slice none 0 0)).run Try.prog W = .ok (.bool Z.isNone) W:=fun W=>Lib.run_eql_slice_nil W _ _ _ _ _ _ _ Try.underlying47
  rcases Z with _|ad
  · have B:=Aside0.mk (hn rfl)
    clear hn
    go_enter Try.func88,Try.ntmps88
    go_wp2
    go_ret
    rw[B.out]
    exact⟨_,rfl,Kd.Xw _ _ _ _ _,HB.out⟩
  · clear hn
    go_enter Try.func88,Try.ntmps88
    go_wp2_with (first|((with_reducible refine Qe (N:=5) rfl ?_);refine Kd.Vb k36 _ 36 ?hg (N:=5) ?hd (xs:=([]:List S36)) (inner:=[]) (ok:=fun _=>True) (okp:=fun _=>True) ?hr ?hp (fun _ hk=>hk) trivial (Below.refl _ _) (Nat.le_refl _) (by simp) ?_;(case hd=>rfl);(case hg=>rfl);(case hr=>first|(go_simp;done)|(go_simp;rfl));(case hp=>exact(Reps.none _ _));intro v1 w1 b4 J hg_ hnew_;clear hg_ hnew_;have HO:=Aside0.mk b4;have L:=Aside0.mk J;clear b4 J)|((with_reducible refine Xs (b:=.append) (xs:=#[.tmp 5,.tmp 6]) rfl ?_);at_builtin;refine Kd.Jw k36 (w0:=w) w.heap.size rfl (.tmp 5) (.tmp 6) 47 36 (.agg #[(.int .i64 0),(.int .i64 0),(.int .i64 0)]) 24 rfl Try.underlying47 Gh rfl (by decide) (by omega) v1 [] l0 _ _ _ (fun _=>True) (fun _=>False) rfl rfl ?aO ?aR (fun _ _ h=>h) (fun _ h=>h.elim) ?aF ?aB ?aS ?aL ?_;(case aR=>exact(Kd.Qp HR.out L.out));(case aB=>exact L.out);(case aF=>exact(fun _ _=>trivial));(case aO=>exact HO.out);(case aS=>exact Qu L.out);(case aL=>have:=HL.out;simp only[List.length_nil];omega);intro v2 w2 ho hb hg hat;clear hg hat))
    go_ret
    exact⟨_,rfl,by simpa using ho,hb⟩
def api_Inside_91.f (l0:List S86):Option (List S86):=if l0.length<1000000000 then some l0 else none
set_option maxRecDepth 100000 in
set_option maxHeartbeats 1000000 in
theorem api_Inside_91.calls (Z:Option Addr) (c0:Nat) (l0:List S86) (r:List S86) (w:World) (ξ :Kd.C k86 w Z l0.length l0) (γ:l0.length≤c0) (h:api_Inside_91.f l0=some r):
    Calls Try.prog 91 #[.slice Z l0.length c0] w fun e w'=>∃ bd:Value,e = .returned bd∧Kd.R k86 86 w' w.heap.size (fun _=>True) bd r∧Below w.heap.size w w':=by
  unfold api_Inside_91.f at h
  split at h
  case isFalse=>cases h
  case isTrue hl=>
  cases h
  have HR:=Aside0.mk ξ
  have HC:=Aside0.mk γ
  have HL:=Aside0.mk hl
  have HB:=Aside0.mk (Below.refl w.heap.size w)
  have hn:Z=none→l0 = []:=by
    intro hA
    rcases Nat.eq_zero_or_pos l0.length with h|h
    · exact List.eq_nil_of_length_eq_zero h
    · obtain⟨ad,e,_⟩:= ξ.2.2 h
      rw[hA] at e
      cases e
  clear ξ γ hl
  have hEq:∀ (W:World),(binOp .eql 48 (.slice Z l0.length c0) (.slice none 0 0)).run Try.prog W = .ok (.bool Z.isNone) W:=fun W=>Lib.run_eql_slice_nil W _ _ _ _ _ _ _ Try.underlying48
  rcases Z with _|ad
  · have B:=Aside0.mk (hn rfl)
    clear hn
    go_enter Try.func91,Try.ntmps91
    go_wp2
    go_ret
    rw[B.out]
    exact⟨_,rfl,Kd.Xw _ _ _ _ _,HB.out⟩
  · clear hn
    go_enter Try.func91,Try.ntmps91
    go_wp2_with (first|((with_reducible refine Qe (N:=5) rfl ?_);refine Kd.Vb k86 _ 86 ?hg (N:=5) ?hd (xs:=([]:List S86)) (inner:=[]) (ok:=fun _=>True) (okp:=fun _=>True) ?hr ?hp (fun _ hk=>hk) trivial (Below.refl _ _) (Nat.le_refl _) (by simp) ?_;(case hd=>rfl);(case hg=>rfl);(case hr=>first|(go_simp;done)|(go_simp;rfl));(case hp=>exact(Reps.none _ _));intro v1 w1 b4 J hg_ hnew_;clear hg_ hnew_;have HO:=Aside0.mk b4;have L:=Aside0.mk J;clear b4 J)|((with_reducible refine Xs (b:=.append) (xs:=#[.tmp 5,.tmp 6]) rfl ?_);at_builtin;refine Kd.Jw k86 (w0:=w) w.heap.size rfl (.tmp 5) (.tmp 6) 48 86 (.agg #[(.int .i64 0),(.int .i64 0)]) 16 rfl Try.underlying48 Gg rfl (by decide) (by omega) v1 [] l0 _ _ _ (fun _=>True) (fun _=>False) rfl rfl ?aO ?aR (fun _ _ h=>h) (fun _ h=>h.elim) ?aF ?aB ?aS ?aL ?_;(case aR=>exact(Kd.Qp HR.out L.out));(case aB=>exact L.out);(case aF=>exact(fun _ _=>trivial));(case aO=>exact HO.out);(case aS=>exact Qu L.out);(case aL=>have:=HL.out;simp only[List.length_nil];omega);intro v2 w2 ho hb hg hat;clear hg hat))
    go_ret
    exact⟨_,rfl,by simpa using ho,hb⟩
def woI (B J:Int) (l:List S86):List S86:=l.filter (fun y=> !(Ya B J y.f0 y.f1==0))
set_option maxRecDepth 100000 in
set_option maxHeartbeats 2000000 in
theorem Ve (A:Option Addr) (c:Nat) (l:List S86) (B J:Int) (w:World) (hr:Kd.C k86 w A l.length l) (hc:l.length≤c) (hl:l.length<1000000000) (b2: -9223372036854775808≤J∧J≤9223372036854775807):
    Calls Try.prog 75 #[.agg #[.slice A l.length c,.func (.func 83) #[] #[]],.agg #[.int .i64 B,.int .i64 J]] w fun e w'=>∃ bd:Value,e = .returned bd∧Kd.R k86 86 w' w.heap.size (fun _=>True) bd (woI B J l)∧Below w.heap.size w w':=by
  have HR:=Aside0.mk hr
  have HC:=Aside0.mk hc
  have HF:=Aside0.mk (show api_Inside_91.f l=some l by unfold api_Inside_91.f;rw[if_pos hl])
  have HB:=Aside0.mk (Below.refl w.heap.size w)
  have HD:=Aside0.mk (show api_Inside_90.f (l.length+6) l (tok B J)=some (woI B J l) by
    rw[Call.N8 l (tok B J) (by omega) _ (by omega)]
    show some (l.filter (fun y=> !(Ya (Yf (tok B J)) (Ye (tok B J)) y.f0 y.f1==0)))=_
    rw[J7 B J b2,J6 B J b2]
    rfl)
  have T1:=Aside0.mk (J7 B J b2)
  have T2:=Aside0.mk (J6 B J b2)
  clear hr hc hl b2
  go_enter Try.func75,Try.ntmps75
  go_wp2_with (first|((with_reducible refine Qe (N:=2) rfl ?_);refine Zj ?hg (N:=2) ?hd (cs:=#[.slice A l.length c,.func (.func 83) #[] #[]]) (t:=116) ?hr ?_;(case hd=>rfl);(case hg=>rfl);(case hr=>first|(go_simp;done)|(go_simp;rfl));intro g2 hg_ w2 hbox hb;have ρ:=Aside0.mk (Qy HB.out hb);have χ :=Aside0.mk hbox;clear HB;have HB:=ρ;have L:= χ;clear ρ χ;clear hb hbox hg_)|((with_reducible refine Qe (N:=3) rfl ?_);refine Zj ?hg (N:=3) ?hd (cs:=#[.int .i64 B,.int .i64 J]) (t:=86) ?hr ?_;(case hd=>rfl);(case hg=>rfl);(case hr=>first|(go_simp;done)|(go_simp;rfl));intro Y hg_ w3 hbox hb;have X:=Aside0.mk (Qt (g:=g2) (o:=.cells #[.slice A l.length c,.func (.func 83) #[] #[]] 116 (0,0)) L.out hb);have ρ:=Aside0.mk (Qy HB.out hb);have χ :=Aside0.mk hbox;clear HB L;have HB:=ρ;have O:= χ;have L:=X;clear ρ χ X;clear hb hbox hg_;have γ:w3.cell? ⟨g2,0,none⟩=some (.slice A l.length c):=(Qa L.out 0).trans rfl;have δ :w3.cell? ⟨g2,1,none⟩=some (.func (.func 83) #[] #[]):=(Qa L.out 1).trans rfl)|(go_at_call 91;((with_reducible refine(api_Inside_91.calls A c l l _ ?side1 ?side2 HF.out).mono ?_);(case side1=>exact Kd.Qp HR.out HB.out);(case side2=>exact HC.out);rintro e w4 ⟨v4,rfl,ai,hb⟩;have ε :=Aside0.mk (Nat.not_le.2 (Xg L.out));have η :=Aside0.mk (Nat.not_le.2 (Xg O.out));have X:=Aside0.mk (Kd.Zc (Kd.Q0 (Kd.Xt ai) (fun k_ hk=>hk.2.1)) HB.out.size);have Z:=Aside0.mk (Qt (g:=g2) (o:=.cells #[.slice A l.length c,.func (.func 83) #[] #[]] 116 (0,0)) L.out hb);have ζ :=Aside0.mk (Qt (g:=Y) (o:=.cells #[.int .i64 B,.int .i64 J] 86 (0,0)) O.out hb);have ρ:=Aside0.mk (Qy HB.out hb);clear HB L O;have HB:=ρ;have L:=Z;have O:= ζ;have HO:=X;clear ρ X Z ζ hb ai))|(go_at_call 90;((with_reducible refine(api_Inside_90.calls (l.length+6) _ v4 l (tok B J) _ w w4 HB.out HO.out HD.out A l.length c g2 Y 0 L.out ?hx ε.out η.out).mono ?_);(case hx=>rw[T1.out,T2.out];exact O.out);rintro e w5 ⟨v5,rfl,ai,hb,hk⟩;have θ :=Aside0.mk ai;have ι :=Aside0.mk hb;clear ai hb hk)))
  go_ret
  exact⟨_,rfl,Kd.Q0 θ.out (fun _ _=>trivial),ι.out⟩
set_option maxRecDepth 100000 in
set_option maxHeartbeats 1000000 in
theorem Jy (Z A1:Option Addr) (J O c0 c1:Nat) (w:World):
    Calls Try.prog 63 #[.agg #[.slice Z J c0,.slice A1 O c1]] w fun e w'=>e = .returned (.agg #[.slice Z J c0,.func (.func 79) #[] #[]])∧Below w.heap.size w w':=by
  have HB:=Aside0.mk (Below.refl w.heap.size w)
  go_enter Try.func63,Try.ntmps63
  go_wp2_with (first|((with_reducible refine Qe (N:=1) rfl ?_);refine Zj ?hg (N:=1) ?hd (cs:=#[.slice Z J c0,.slice A1 O c1]) (t:=50) ?hr ?_;(case hd=>rfl);(case hg=>rfl);(case hr=>first|(go_simp;done)|(go_simp;rfl));intro g1 hg_ w1 hbox hb;have ρ:=Aside0.mk (Qy HB.out hb);have χ :=Aside0.mk hbox;clear HB;have HB:=ρ;have B:= χ;clear ρ χ;clear hb hbox hg_)|((with_reducible refine Qe (N:=2) rfl ?_);refine Zj ?hg (N:=2) ?hd (cs:=#[.slice none 0 0,.nilFunc]) (t:=109) ?hr ?_;(case hd=>rfl);(case hg=>rfl);(case hr=>first|(go_simp;done)|(go_simp;rfl));intro g2 hg_ w2 hbox hb;have GEs:=Aside0.mk HB.out.size;have GEl:=Aside0.mk (Xg B.out);have X:=Aside0.mk (Qt (g:=g1) (o:=.cells #[.slice Z J c0,.slice A1 O c1] 50 (0,0)) B.out hb);have ρ:=Aside0.mk (Qy HB.out hb);have χ :=Aside0.mk hbox;clear HB B;have HB:=ρ;have L:= χ;have B:=X;clear ρ χ X;have Y:=Aside0.mk (by rw[hg_];exact GEs.out:w.heap.size≤g2);have NB:=Aside0.mk (by rw[hg_];exact Nat.ne_of_lt GEl.out:g1≠g2);clear hb hbox hg_;have hnb:=NB.out;have γ:w2.cell? ⟨g1,0,none⟩=some (.slice Z J c0):=(Qa B.out 0).trans rfl;have δ :w2.cell? ⟨g1,1,none⟩=some (.slice A1 O c1):=(Qa B.out 1).trans rfl;have ε :w2.cell? ⟨g2,0,none⟩=some (.slice none 0 0):=(Qa L.out 0).trans rfl;have ζ :w2.cell? ⟨g2,1,none⟩=some (.nilFunc):=(Qa L.out 1).trans rfl;have η :=Qr L.out 0;have θ :=Qr L.out 1))
  refine bodyPost_ret (results_cell_row rfl _ _ g2 109 #[.slice Z J c0,.func (.func 79) #[] #[]] (0,0) _ rfl (by refine Qm (cs:=#[.slice Z J c0,.nilFunc]) ?_ 1 _ rfl;refine Qm (cs:=#[.slice none 0 0,.nilFunc]) ?_ 0 _ rfl;exact L.out) Try.underlying109 rfl kr) rfl ?_
  exact⟨rfl,Qs (Qs HB.out Y.out) Y.out⟩
set_option maxRecDepth 100000 in
set_option maxHeartbeats 1000000 in
theorem Jk (F C:Int) (w:World):
    Calls Try.prog 65 #[.agg #[.int .i64 F,.int .i64 C]] w fun e w'=>∃ g:Nat,e = .returned (.func (.func 82) #[] #[.pointer (some ⟨g,0,none⟩)])∧w'.heap[g]?=some (.cells #[.int .i64 F,.int .i64 C] 59 (0,0))∧w.heap.size≤g∧Below w.heap.size w w':=by
  have HB:=Aside0.mk (Below.refl w.heap.size w)
  go_enter Try.func65,Try.ntmps65
  go_wp2_with (first|((with_reducible refine Qe (N:=1) rfl ?_);refine Zj ?hg (N:=1) ?hd (cs:=#[.int .i64 F,.int .i64 C]) (t:=59) ?hr ?_;(case hd=>rfl);(case hg=>rfl);(case hr=>first|(go_simp;done)|(go_simp;rfl));intro g1 hg_ w1 hbox hb;have GEs:=Aside0.mk HB.out.size;have ρ:=Aside0.mk (Qy HB.out hb);have χ :=Aside0.mk hbox;clear HB;have HB:=ρ;have B:= χ;clear ρ χ;have J:=Aside0.mk (by rw[hg_];exact GEs.out:w.heap.size≤g1);clear hb hbox hg_))
  go_ret
  exact⟨_,rfl,B.out,J.out,HB.out⟩
set_option maxRecDepth 100000 in
set_option maxHeartbeats 1000000 in
theorem K9 (Z A1:Option Addr) (J O c0 c1:Nat) (w:World):
    Calls Try.prog 66 #[.agg #[.slice Z J c0,.slice A1 O c1]] w fun e w'=>e = .returned (.agg #[.slice A1 O c1,.func (.func 83) #[] #[]])∧Below w.heap.size w w':=by
  have HB:=Aside0.mk (Below.refl w.heap.size w)
  go_enter Try.func66,Try.ntmps66
  go_wp2_with (first|((with_reducible refine Qe (N:=1) rfl ?_);refine Zj ?hg (N:=1) ?hd (cs:=#[.slice Z J c0,.slice A1 O c1]) (t:=50) ?hr ?_;(case hd=>rfl);(case hg=>rfl);(case hr=>first|(go_simp;done)|(go_simp;rfl));intro g1 hg_ w1 hbox hb;have ρ:=Aside0.mk (Qy HB.out hb);have χ :=Aside0.mk hbox;clear HB;have HB:=ρ;have B:= χ;clear ρ χ;clear hb hbox hg_)|((with_reducible refine Qe (N:=2) rfl ?_);refine Zj ?hg (N:=2) ?hd (cs:=#[.slice none 0 0,.nilFunc]) (t:=116) ?hr ?_;(case hd=>rfl);(case hg=>rfl);(case hr=>first|(go_simp;done)|(go_simp;rfl));intro g2 hg_ w2 hbox hb;have GEs:=Aside0.mk HB.out.size;have GEl:=Aside0.mk (Xg B.out);have X:=Aside0.mk (Qt (g:=g1) (o:=.cells #[.slice Z J c0,.slice A1 O c1] 50 (0,0)) B.out hb);have ρ:=Aside0.mk (Qy HB.out hb);have χ :=Aside0.mk hbox;clear HB B;have HB:=ρ;have L:= χ;have B:=X;clear ρ χ X;have Y:=Aside0.mk (by rw[hg_];exact GEs.out:w.heap.size≤g2);have NB:=Aside0.mk (by rw[hg_];exact Nat.ne_of_lt GEl.out:g1≠g2);clear hb hbox hg_;have hnb:=NB.out;have γ:w2.cell? ⟨g1,0,none⟩=some (.slice Z J c0):=(Qa B.out 0).trans rfl;have δ :w2.cell? ⟨g1,1,none⟩=some (.slice A1 O c1):=(Qa B.out 1).trans rfl;have ε :w2.cell? ⟨g2,0,none⟩=some (.slice none 0 0):=(Qa L.out 0).trans rfl;have ζ :w2.cell? ⟨g2,1,none⟩=some (.nilFunc):=(Qa L.out 1).trans rfl;have η :=Qr L.out 0;have θ :=Qr L.out 1))
  refine bodyPost_ret (results_cell_row rfl _ _ g2 116 #[.slice A1 O c1,.func (.func 83) #[] #[]] (0,0) _ rfl (by refine Qm (cs:=#[.slice A1 O c1,.nilFunc]) ?_ 1 _ rfl;refine Qm (cs:=#[.slice none 0 0,.nilFunc]) ?_ 0 _ rfl;exact L.out) Try.underlying116 rfl kr) rfl ?_
  exact⟨rfl,Qs (Qs HB.out Y.out) Y.out⟩
set_option maxRecDepth 100000 in
set_option maxHeartbeats 1000000 in
theorem Un (F C:Int) (w:World):
    Calls Try.prog 68 #[.agg #[.int .i64 F,.int .i64 C]] w fun e w'=>∃ g:Nat,e = .returned (.func (.func 84) #[] #[.pointer (some ⟨g,0,none⟩)])∧w'.heap[g]?=some (.cells #[.int .i64 F,.int .i64 C] 59 (0,0))∧w.heap.size≤g∧Below w.heap.size w w':=by
  have HB:=Aside0.mk (Below.refl w.heap.size w)
  go_enter Try.func68,Try.ntmps68
  go_wp2_with (first|((with_reducible refine Qe (N:=1) rfl ?_);refine Zj ?hg (N:=1) ?hd (cs:=#[.int .i64 F,.int .i64 C]) (t:=59) ?hr ?_;(case hd=>rfl);(case hg=>rfl);(case hr=>first|(go_simp;done)|(go_simp;rfl));intro g1 hg_ w1 hbox hb;have GEs:=Aside0.mk HB.out.size;have ρ:=Aside0.mk (Qy HB.out hb);have χ :=Aside0.mk hbox;clear HB;have HB:=ρ;have B:= χ;clear ρ χ;have J:=Aside0.mk (by rw[hg_];exact GEs.out:w.heap.size≤g1);clear hb hbox hg_))
  go_ret
  exact⟨_,rfl,B.out,J.out,HB.out⟩
end Go.Proofs.Ytmfffemidlhcpaa.C
namespace Go.Proofs.Ytmfffemidlhcpaa.C
open Go.RowKit Go.Proofs.YtmfffemidlhcpaaW.PrintWords Go.Proofs.YtmfffemidlhcpaaW.PrintLast Go.Proofs.YtmfffemidlhcpaaW.PrintMore
set_option linter.unusedVariables false
def small (n:Nat) (C:Int):Bool:=decide (n<1000000000 ∧ -9223372036854775808≤C∧C≤9223372036854775807)
def rightP_H.f (L:List S36) (O:List S86) (B J:Int):Option Bool:=if small L.length J=true then some (Call.Zi (fun x=>Xe B J x.f0 x.f1 x.f2) Call.ltH none L) else none
theorem rightP_H.calls (θ :Option Addr) (δ :Nat) (L:List S36) (ι :Option Addr) (η :Nat) (O:List S86) (B J:Int) (r:Bool) (w:World) (ac:Kd.C k36 w θ L.length L) (ar:L.length ≤ δ) (au:Kd.C k86 w ι O.length O) (av:O.length ≤ η) (h:rightP_H.f L O B J=some r) (g:Nat) (hg:w.heap[g]?=some (.cells #[.int .i64 B,.int .i64 J] 59 (0,0))):
    Calls Try.prog 64 #[.agg #[.slice θ L.length δ,.func (.func 79) #[] #[]],.func (.func 82) #[] #[.pointer (some ⟨g,0,none⟩)]] w fun e w'=>e = .returned (.bool r)∧Below w.heap.size w w':=by
  unfold rightP_H.f at h
  split at h
  case isFalse=>cases h
  case isTrue hs=>
  cases h
  obtain⟨hl,hb⟩:=of_decide_eq_true hs
  have e1:=J7 B J hb
  have e2:=J6 B J hb
  refine api_Hall_right.calls (2 * L.length+1) θ δ L 0 (tok B J) _ w ac ar ?_ g ?_
  · rw[Call.W8 L _ 0 (by omega) _ (by omega),e1,e2]
  · rw[e1,e2];exact hg
def rightP_I.f (L:List S36) (O:List S86) (B J:Int):Option Bool:=if small O.length J=true then some (Call.Zi (fun x=>J0 B J x.f0 x.f1) Call.ltI none O) else none
theorem rightP_I.calls (θ :Option Addr) (δ :Nat) (L:List S36) (ι :Option Addr) (η :Nat) (O:List S86) (B J:Int) (r:Bool) (w:World) (ac:Kd.C k36 w θ L.length L) (ar:L.length ≤ δ) (au:Kd.C k86 w ι O.length O) (av:O.length ≤ η) (h:rightP_I.f L O B J=some r) (g:Nat) (hg:w.heap[g]?=some (.cells #[.int .i64 B,.int .i64 J] 59 (0,0))):
    Calls Try.prog 67 #[.agg #[.slice ι O.length η,.func (.func 83) #[] #[]],.func (.func 84) #[] #[.pointer (some ⟨g,0,none⟩)]] w fun e w'=>e = .returned (.bool r)∧Below w.heap.size w w':=by
  unfold rightP_I.f at h
  split at h
  case isFalse=>cases h
  case isTrue hs=>
  cases h
  obtain⟨hl,hb⟩:=of_decide_eq_true hs
  have e1:=J7 B J hb
  have e2:=J6 B J hb
  refine api_Inside_right.calls (2 * O.length+1) ι η O 0 (tok B J) _ w au av ?_ g ?_
  · rw[Call.W7 O _ 0 (by omega) _ (by omega),e1,e2]
  · rw[e1,e2];exact hg
end Go.Proofs.Ytmfffemidlhcpaa.C
namespace Go.Proofs.Ytmfffemidlhcpaa.C
open Go.RowKit Go.Proofs.YtmfffemidlhcpaaW.PrintWords Go.Proofs.YtmfffemidlhcpaaW.PrintLast Go.Proofs.YtmfffemidlhcpaaW.PrintMore
attribute [local go_sem] Zz Zx Z9 Z8 Zq Zp Zy Zw
set_option linter.unusedVariables false
set_option linter.unusedSimpArgs false
def api_Hall_set.j0:Nat→List (S36)→Option ((List (S36)))
 |0,_=>none
 |k+1,L=>some L
def api_Hall_set.f (k:Nat) (B:List (S36)) (J:Int) (O:Int) (X:Int) (δ :Int):Option ((List (S36))):=(api_Hall_88.f B).bind fun γ=>((api_Hall_89.f k γ O X δ J).bind fun ι =>(if ι.2=true then (if 0 ≤ ι.1 then (if ι.1<(γ.length:Int) then (api_Hall_set.j0 k (γ.set (ι.1:Int).toNat (⟨O,X,δ⟩:S36))) else (none)) else (none)) else (api_Hall_set.j0 k γ)))
set_option maxHeartbeats 8000000 in
set_option maxRecDepth 100000 in
theorem api_Hall_set.calls (k:Nat) (μ :Option Addr) (ε :Nat) (B:List (S36)) (J:Int) (O:Int) (X:Int) (δ :Int) (r:List (S36)) (w:World) (ae:Kd.C k36 w μ B.length B) (aj:B.length ≤ ε) (h:api_Hall_set.f k B J O X δ = some r):
  Calls Try.prog 74 #[.agg #[.slice μ B.length ε,.func (.func 79) #[] #[]],.agg #[.int .i64 O,.int .i64 X,.int .i64 δ]] w fun e w'=>∃ bd:Value,e = .returned (bd)∧Kd.R k36 36 w' w.heap.size (fun _=>True) bd r∧Below w.heap.size w w':=by
 have cn:=Try.underlying109
 have dh:=Try.underlying36
 have az:=Aside0.mk ae
 have bk:=Aside0.mk aj
 clear ae aj
 have HB:=Aside0.mk (Below.refl w.heap.size w)
 have H:((api_Hall_88.f B).bind fun γ=>((api_Hall_89.f k γ O X δ J).bind fun ι =>(if ι.2=true then (if 0 ≤ ι.1 then (if ι.1<(γ.length:Int) then (api_Hall_set.j0 k (γ.set (ι.1:Int).toNat (⟨O,X,δ⟩:S36))) else (none)) else (none)) else (api_Hall_set.j0 k γ))))=some r:=h
 clear h
 replace H:=Option.bind_eq_some_iff.mp H
 obtain⟨γ,aa,H⟩:=H
 replace H:((api_Hall_89.f k γ O X δ J).bind fun ι =>(if ι.2=true then (if 0 ≤ ι.1 then (if ι.1<(γ.length:Int) then (api_Hall_set.j0 k (γ.set (ι.1:Int).toNat (⟨O,X,δ⟩:S36))) else (none)) else (none)) else (api_Hall_set.j0 k γ)))=some r:=H
 have A3:=Aside0.mk aa
 clear aa
 replace H:=Option.bind_eq_some_iff.mp H
 obtain⟨⟨ζ,κ⟩,cg,H⟩:=H
 replace H:(if κ = true then (if 0 ≤ ζ then (if ζ < (γ.length:Int) then (api_Hall_set.j0 k (γ.set (ζ :Int).toNat (⟨O,X,δ⟩:S36))) else (none)) else (none)) else (api_Hall_set.j0 k γ))=some r:=H
 have A4:=Aside0.mk cg
 clear cg
 have bz:=Aside0.mk H
 clear H
 go_enter Try.func74,Try.ntmps74
 go_upto_if 19 with(first|((with_reducible refine Qe (N:=2) rfl ?_);refine qE 2 #[.slice μ B.length ε,.func (.func 79) #[] #[]] 109 ?_;intro ω hg w6 hbox hb;have Y:=Aside0.mk hbox;have bf:=sGe hg;have bg:=sGe hg;replace HB:=sHb hb;clear hb hbox hg)|((with_reducible refine Qe (N:=3) rfl ?_);refine qE 3 #[.int .i64 O,.int .i64 X,.int .i64 δ] 36 ?_;intro ψ hg w7 hbox hb;have Z:=Aside0.mk hbox;have bi:=sGe hg;have bj:=sGe hg;have ρ:=sNl Y hg;have χ :=sNg Y hg;replace Y:=sBk Y hb;replace HB:=sHb hb;clear hb hbox hg;have d0:=ρ.out;have d1:= χ.out;obtain⟨br,cp,ct,cu⟩:=qD2 Y.out)|((with_reducible refine Qd (f:=88) rfl ?_);refine Qn (some 10) rfl rfl Try.func88 kr rfl #[.slice μ B.length ε] rfl qM ?_;(with_reducible refine(api_Hall_88.calls _ _ B γ _ ?side1 ?side2 A3.out).mono ?_);(case side1=>exact(Kd.Qp az.out HB.out));(case side2=>exact bk.out);rintro e fg ⟨cr,rfl,ai,hb⟩;refine⟨_,rfl, ?_⟩;have L:=Aside0.mk (Kd.Zc (Kd.J4 ai (g:= ψ) (o:=.cells #[.int .i64 O,.int .i64 X,.int .i64 δ] 36 (0,0)) Z.out) (Qu HB.out));replace Y:=sBk Y hb;replace Z:=sBk Z hb;replace HB:=sHb hb;(try clear hb);(try clear a4);(try clear hk);(try clear hi);(try clear ai);obtain⟨ah,ak,aw,ao,ap,ax⟩:=qD3 Z.out;obtain⟨τ,φ,a5,a9⟩:=qD2 Y.out;obtain⟨ba,a3,bl⟩:=Kd.Q9 L.out;subst bl)|((with_reducible refine Qd (f:=89) rfl ?_);refine Qn (some 16) rfl rfl Try.func89 kr rfl #[.slice ba γ.length a3,.agg #[.int .i64 O,.int .i64 X,.int .i64 δ],.func (.func 79) #[] #[]] rfl qM ?_;(with_reducible refine(api_Hall_89.calls k _ _ γ O X δ J ζ κ _ ?side1 ?side2 A4.out).mono ?_);(case side1=>exact(Kd.Qz L.out).2.2);(case side2=>exact(Kd.Qz L.out).2.1);rintro e bh ⟨rfl,hb⟩;refine⟨_,rfl, ?_⟩;replace L:=sRb L hb;replace Y:=sBk Y hb;replace Z:=sBk Z hb;replace HB:=sHb hb;(try clear hb);(try clear a4);(try clear hk);(try clear hi)))
 (try simp only[Act.put,qS])
 go_cut [] (fun wc=>∃ (kq:Nat) (bu:List (S36)) (ab:Int) (an:Int) (ay:Int),Aside0 (api_Hall_set.j0 kq bu=some r)∧Aside0 (kq≤k)∧Aside0 (Kd.R k36 36 wc w.heap.size (fun k_=>k_ ≠ ψ) (.slice ba γ.length a3) bu)∧Aside0 (wc.heap[ω]?=some (.cells #[(.slice μ B.length ε),.func (.func 79) #[] #[]] 109 (0,0)))∧Aside0 (wc.heap[ψ]?=some (.cells #[.int .i64 ab,.int .i64 an,.int .i64 ay] 36 (0,0)))∧Aside0 (Below w.heap.size w wc))
 case first=>
  have H:=bz.out
  clear bz
  by_cases ac: κ = true
  ·subst ac
   have H1:(if 0 ≤ ζ then (if ζ < (γ.length:Int) then (api_Hall_set.j0 k (γ.set (ζ :Int).toNat (⟨O,X,δ⟩:S36))) else (none)) else (none))=some r:=by rw[if_pos rfl] at H;exact H
   clear H
   have H:=H1
   clear H1
   by_cases a6:0 ≤ ζ
   ·rw[if_pos a6] at H
    have c16b0:decide (0 ≤ ζ)=true:=decide_eq_true a6
    clear a6
    (first|rw[c16b0]|(simp only[Za,Zb];rw[c16b0])|skip)
    by_cases af: ζ < (γ.length:Int)
    ·rw[if_pos af] at H
     have c17b0:decide (ζ < (γ.length:Int))=true:=decide_eq_true af
     clear af
     obtain⟨a0,θ⟩:∃ y_:List (S36),y_=(γ.set (ζ :Int).toNat (⟨O,X,δ⟩:S36)):=⟨_,rfl⟩
     replace H:(api_Hall_set.j0 k a0)=some r:=by first|(rw[θ];with_reducible exact H)|(have am:=(Option.bind_some _ _).symm.trans H;rw[θ];with_reducible exact am)|(have am:=(Option.bind_some _ _).symm.trans H;with_reducible exact am)|with_reducible exact H|(rw[θ];exact H)|exact H
     have ag:=Aside0.mk θ
     clear θ
     have H':=Aside0.mk H
     clear H
     have b7:= χ.out
     have ch:=ρ.out
     obtain⟨a7,ar,a1,au,av,a8⟩:=qD3 Z.out
     have al:0≤(ζ :Int):=of_decide_eq_true (by assumption)
     have b0:(ζ :Int)<((γ.length:Int):Int):=of_decide_eq_true (by assumption)
     obtain⟨η,cx,b5,b6,bs,cy,b8⟩:=Kd.Vy L.out (by omega)
     (first|cases b5|(injection b5 with ea_ en_ ec_;(first|subst ea_|(injection ea_ with ea_;subst ea_));subst ec_;clear en_))
     have b1:=Aside0.mk b6
     have cz:=Aside0.mk b8
     clear b6 bs b8
     obtain⟨d2,bb,b9,ν,a2⟩:=Kd.Ja L.out z36 (ζ :Int) al b0
     obtain rfl:=Yb b9
     have bm:bh.cell? ⟨η,(ζ :Int).toNat * 3,none⟩=some (.int .i64 ((Qc γ ζ).f0)):= ν 0 _ rfl
     have bo:bh.cell? ⟨η,(ζ :Int).toNat * 3+1,none⟩=some (.int .i64 ((Qc γ ζ).f1)):= ν 1 _ rfl
     have ca:bh.cell? ⟨η,(ζ :Int).toNat * 3+2,none⟩=some (.int .i64 ((Qc γ ζ).f2)):= ν 2 _ rfl
     have cb:bh.frozen? ⟨η,(ζ :Int).toNat * 3,none⟩=false:=a2 0
     have cd:bh.frozen? ⟨η,(ζ :Int).toNat * 3+1,none⟩=false:=a2 1
     have cq:bh.frozen? ⟨η,(ζ :Int).toNat * 3+2,none⟩=false:=a2 2
     clear bb ν a2 b9
     replace al:=eq_true al
     replace b0:=eq_true b0
     have n_:=Aside0.mk (Kd.Q0 (ok':=(fun k_=>k_ ≠ ψ)) L.out (fun k_ hk=>hk.2))
     clear L
     have L:=n_
     clear n_
     have ce:=Aside0.mk (show Kd.R k36 36 bh w.heap.size (fun k_=>k_ ≠ ψ) (.slice (some ⟨η,0,none⟩) γ.length a3) γ from L.out)
     obtain⟨cv,bw,cf,ξ,b3⟩:=Kd.Ja ce.out z36 (ζ :Int) (of_decide_eq_true (by assumption)) (by have h_:(ζ :Int)<((γ.length:Int):Int):=of_decide_eq_true (by assumption);first|exact h_|(have e_:=(Kd.Qz L.out).1;omega)|simpa using h_)
     obtain rfl:=Yb cf
     have bv:=Kd.Ww ce.out (ζ :Int) (of_decide_eq_true (by assumption)) (by have h_:(ζ :Int)<((γ.length:Int):Int):=of_decide_eq_true (by assumption);first|exact h_|(have e_:=(Kd.Qz L.out).1;omega)|simpa using h_) (seg:=[.int .i64 O,.int .i64 X,.int .i64 δ]) (j:=0) bw ξ (show 3≤3 from by decide) (x':=(⟨O,X,δ⟩:S36)) (Kg _ _ _ (⟨O,X,δ⟩:S36)) (fun _ hk=>hk)
     have bn:= ξ 0 _ rfl
     (try simp only[show(k36).sz=3 from rfl,Nat.mul_one,Nat.add_zero] at bn)
     have cj:=b3 0
     (try simp only[show(k36).sz=3 from rfl,Nat.mul_one,Nat.add_zero] at cj)
     have bp:= ξ 1 _ rfl
     (try simp only[show(k36).sz=3 from rfl,Nat.mul_one,Nat.add_zero] at bp)
     have ck:=b3 1
     (try simp only[show(k36).sz=3 from rfl,Nat.mul_one,Nat.add_zero] at ck)
     have bq:= ξ 2 _ rfl
     (try simp only[show(k36).sz=3 from rfl,Nat.mul_one,Nat.add_zero] at bq)
     have cm:=b3 2
     (try simp only[show(k36).sz=3 from rfl,Nat.mul_one,Nat.add_zero] at cm)
     clear bw ξ b3 cf
     go_wp2_with (first|((with_reducible refine Y6 (t:=36) (p:=23) rfl ?_);refine Ys (t:=36) (p:=23) (v:=?vo_w22) (w1:=(((bh.setCell ⟨η,(ζ :Int).toNat * 3,none⟩ (.int .i64 O)).setCell ⟨η,(ζ :Int).toNat * 3+1,none⟩ (.int .i64 X)).setCell ⟨η,(ζ :Int).toNat * 3+2,none⟩ (.int .i64 δ))) ?hg ?ho ?hn ?hr ?_;(case ho=>rfl);(case hg=>rfl);(case hn=>rfl);(case hr=>go_simp <;> rfl);intro be hw;have hg:bh.grownBy be (some η):=(by rw[hw];exact bv.2);have hp_:Kd.R k36 36 be w.heap.size (fun k_=>k_ ≠ ψ) (.slice (some ⟨η,0,none⟩) γ.length a3) a0:=(by rw[hw,ag.out];exact bv.1);clear bv;replace Y:=Aside0.mk (Q3 (g:= ω) (o:=.cells #[.slice μ B.length ε,.func (.func 79) #[] #[]] 109 (0,0)) Y.out hg (Kd.Xc L.out Y.out (by decide)));replace Z:=Aside0.mk (Q3 (g:= ψ) (o:=.cells #[.int .i64 O,.int .i64 X,.int .i64 δ] 36 (0,0)) Z.out hg (Kd.We L.out (fun _ hk=>hk)));replace L:=Aside0.mk hp_;replace HB:=Aside0.mk ((by rw[hw];exact Qs (Qs (Qs (HB.out) b1.out) b1.out) b1.out:Below w.heap.size w be));clear hg hw hp_))
     go_meet
     case rel=>exact⟨_,(a0),(O),(X),(δ),H',⟨by first|omega|exact Nat.le_refl _⟩,⟨by(with_reducible repeat first|apply Kd.Qx|apply Kd.Qw|apply Kd.Q2);exact L.out⟩,Y,Z,HB⟩
    ·rw[if_neg af] at H
     exact absurd H (by simp)
   ·rw[if_neg a6] at H
    exact absurd H (by simp)
  ·replace ac:=Bool.eq_false_iff.mpr ac
   subst ac
   have H1:(api_Hall_set.j0 k γ)=some r:=by rw[if_neg (show ¬ (false=true) by decide)] at H;exact H
   clear H
   have H:=H1
   clear H1
   have H':=Aside0.mk H
   clear H
   go_wp2
   go_meet
   case rel=>exact⟨_,(γ),(O),(X),(δ),H',⟨by first|omega|exact Nat.le_refl _⟩,⟨by(with_reducible repeat first|apply Kd.Qx|apply Kd.Qw|apply Kd.Q2);exact Kd.Q0 L.out (fun _ hk=>hk.2)⟩,Y,Z,HB⟩
 case rest=>
  clear bz
  try clear c1
  try clear p1
  try clear q1
  try clear b2
  try clear c2
  try clear p2
  try clear o4
  try clear co
  try clear c7
  try clear c8
  try clear ac
  try clear a6
  try clear c16b0
  try clear af
  try clear c17b0
  try clear bc
  try clear al
  try clear b0
  try clear cw
  try clear d3
  try clear ci
  try clear σ
  try clear d4
  try clear d5
  try clear ah
  try clear ak
  try clear aw
  try clear τ
  try clear φ
  try clear a7
  try clear ar
  try clear a1
  try clear br
  try clear cp
  try clear ao
  try clear ap
  try clear ax
  try clear a5
  try clear a9
  try clear au
  try clear av
  try clear a8
  try clear ct
  try clear cu
  try clear bm
  try clear bo
  try clear ca
  try clear bn
  try clear bp
  try clear bq
  try clear al
  try clear b0
  obtain⟨kq,bu,ab,an,ay,HA,d6,HO_5,Y,Z,HB⟩:=hcut
  have b4:=(Kd.Qz HO_5.out).1
  rw[b4] at HO_5
  (try simp only[b4])
  (try simp only[b4] at Y)
  (try simp only[b4] at Z)
  cases kq with
  |zero=>exact absurd HA.out (by simp[api_Hall_set.j0])
  |succ d7=>
   have H:=HA.out
   clear HA
   simp only[api_Hall_set.j0] at H
   obtain rfl:=Option.some.inj H
   go_wp2
   go_ret
   exact⟨_,rfl,by(with_reducible repeat first|apply Kd.Qx|apply Kd.Qw|apply Kd.Q2);exact Kd.Q0 HO_5.out (fun _ hk=>trivial),HB.out⟩
end Go.Proofs.Ytmfffemidlhcpaa.C
namespace Go.Proofs.Ytmfffemidlhcpaa.C
open Go.RowKit Go.Proofs.YtmfffemidlhcpaaW.PrintWords Go.Proofs.YtmfffemidlhcpaaW.PrintLast Go.Proofs.YtmfffemidlhcpaaW.PrintMore
set_option linter.unusedVariables false
def hallP.f (B J O F C:Int):Option Bool:=some (Xe F C B J O)
def woP_I.f (B J:Int) (l:List S86):Option (List S86):=if small l.length J=true then some (woI B J l) else none
def Vg (x:S36) (l:List S36):List S36:=l.map (fun y=>if y.f0=x.f0∧y.f1=x.f1 then x else y)
def setP_H.f (B J O:Int) (l:List S36):Option (List S36):=if small l.length J=true∧Call.Zi (fun _=>true) Call.ltH none l=true then some (Vg ⟨B,J,O⟩ l) else none
theorem V3 (Z:Option Addr) (c:Nat) (l:List S86) (B J:Int) (t:List S86) (W:World) (hr:Kd.C k86 W Z l.length l) (hc:l.length≤c) (h:woP_I.f B J l=some t):
    Calls Try.prog 75 #[.agg #[.slice Z l.length c,.func (.func 83) #[] #[]],.agg #[.int .i64 B,.int .i64 J]] W fun e w'=>∃ bd:Value,e = .returned bd∧Kd.R k86 86 w' W.heap.size (fun _=>True) bd t∧Below W.heap.size W w':=by
  unfold woP_I.f at h
  split at h
  case isFalse=>cases h
  case isTrue hs=>
  cases h
  obtain⟨hl,hb⟩:=of_decide_eq_true hs
  exact Ve Z c l B J W hr hc hl hb
theorem V8 (x:S36) (l:List S36):(Vg x l).length=l.length:=by unfold Vg;simp
theorem V9 (x:S36) (l:List S36) (m:Nat) (h:m<l.length) (L:m<(Vg x l).length):(Vg x l)[m]=if l[m].f0=x.f0∧l[m].f1=x.f1 then x else l[m]:=by
  simp only[Vg,List.getElem_map]
theorem W5 (l:List S36) (x:S36) (p:Nat) (hs:l.Pairwise (fun x y=>Call.ltH x y=true)) (hp:Call.Gx l x.f0 x.f1 p):
    Call.G3 l x.f0 x.f1 p=true→l.set p x=Vg x l:=by
  intro h
  unfold Call.G3 at h
  obtain⟨h1,L,h3⟩:=hp
  rcases Nat.lt_or_ge p l.length with hlt|hge
  case inr=>rw[List.getElem?_eq_none hge] at h;simp at h
  rw[List.getElem?_eq_getElem hlt] at h
  have he:Ya l[p].f0 l[p].f1 x.f0 x.f1=0:=by simpa using h
  rw[Call.Ky] at he
  apply List.ext_getElem
  · rw[V8];simp
  intro m B O
  rw[List.length_set] at B
  rw[List.getElem_set,V9 x l m B O]
  by_cases hm:p=m
  · subst hm
    rw[if_pos rfl,if_pos he]
  · rw[if_neg hm,if_neg]
    intro hq
    rcases Nat.lt_or_ge m p with J|X
    · have:=List.pairwise_iff_getElem.1 hs m p B hlt J
      rw[Call.Kx] at this
      omega
    · have:=List.pairwise_iff_getElem.1 hs p m hlt B (by omega)
      rw[Call.Kx] at this
      omega
theorem Ma (l:List S36) (x:S36) (p:Nat) (hs:l.Pairwise (fun x y=>Call.ltH x y=true)) (hp:Call.Gx l x.f0 x.f1 p):
    Call.G3 l x.f0 x.f1 p=false→l=Vg x l:=by
  intro h
  unfold Call.G3 at h
  obtain⟨h1,L,h3⟩:=hp
  have key:∀ m:Nat,(hm:m<l.length) → ¬ (l[m].f0=x.f0∧l[m].f1=x.f1):=by
    intro m hm hq
    rw[← Call.Ky] at hq
    rcases Nat.lt_or_ge m p with hlt|hge
    · have:=L l[m] (List.mem_iff_getElem.2 ⟨m,by rw[List.length_take];omega,by rw[List.getElem_take]⟩)
      omega
    · rcases Nat.lt_or_ge p m with J|X
      · have g1:=List.pairwise_iff_getElem.1 hs p m (by omega) hm J
        have g2:=h3 l[p] (List.mem_iff_getElem.2 ⟨0,by rw[List.length_drop];omega,by rw[List.getElem_drop];simp⟩)
        rw[Call.Kx] at g1
        rw[Call.Ky] at hq
        rw[Call.Ki] at g2
        omega
      · have hpm:p=m:=by omega
        subst hpm
        rw[List.getElem?_eq_getElem hm] at h
        simp[hq] at h
  apply List.ext_getElem
  · rw[V8]
  intro m B O
  rw[V9 x l m B O,if_neg (key m B)]
theorem Vh (Z:Option Addr) (c:Nat) (l:List S36) (B J O:Int) (t:List S36) (W:World) (hr:Kd.C k36 W Z l.length l) (hc:l.length≤c) (h:setP_H.f B J O l=some t):
    Calls Try.prog 74 #[.agg #[.slice Z l.length c,.func (.func 79) #[] #[]],.agg #[.int .i64 B,.int .i64 J,.int .i64 O]] W fun e w'=>∃ bd:Value,e = .returned bd∧Kd.R k36 36 w' W.heap.size (fun _=>True) bd t∧Below W.heap.size W w':=by
  unfold setP_H.f at h
  split at h
  case isFalse=>cases h
  case isTrue hs=>
  cases h
  obtain⟨hl,hb⟩:=of_decide_eq_true hs.1
  have hso:=((Call.Jh (fun _=>true) l).1 hs.2).2
  refine api_Hall_set.calls (l.length+2) Z c l 0 B J O _ W hr hc ?_
  unfold api_Hall_set.f api_Hall_88.f
  rw[if_pos hl]
  simp only[Option.bind_some]
  obtain⟨p,hp,e⟩:=Call.U0 l B J O 0 (by omega) hso (l.length+2) (by omega)
  obtain⟨b,hm⟩:∃ b,Call.G3 l B J p=b:=⟨_,rfl⟩
  rw[hm] at e
  rw[e]
  simp only[Option.bind_some]
  cases b
  · rw[if_neg (by decide)]
    simp only[api_Hall_set.j0]
    congr 1
    exact Ma l ⟨B,J,O⟩ p hso hp hm
  · have hlt:p<l.length:=by
      rcases Nat.lt_or_ge p l.length with h|h
      · exact h
      · unfold Call.G3 at hm;rw[List.getElem?_eq_none h] at hm;simp at hm
    rw[if_pos rfl,if_pos (by omega),if_pos (by omega)]
    simp only[api_Hall_set.j0,Int.toNat_natCast]
    congr 1
    exact W5 l ⟨B,J,O⟩ p hso hp hm
end Go.Proofs.Ytmfffemidlhcpaa.C
namespace Go.Proofs.Ytmfffemidlhcpaa.C
open Go.RowKit Go.Proofs.YtmfffemidlhcpaaW.PrintWords Go.Proofs.YtmfffemidlhcpaaW.PrintLast Go.Proofs.YtmfffemidlhcpaaW.PrintMore
attribute [local go_sem] Zz Zx Z9 Z8 Zq Zp Zy Zw
set_option linter.unusedVariables false
set_option linter.unusedSimpArgs false
def call_Check.j0:Nat→Bool→Option (Int)
 |0,_=>none
 |k+1,L=>if L=true then (some 190) else (some 0)
def call_Check.f (k:Nat) (B:Int) (J:Int) (L:List (S36)) (O:List (S86)):Option (Int):=(call_within.f B 2 64).bind fun γ=>(if γ=true then ((call_within.f J 1 8).bind fun ε =>(if ε = true then ((rightP_H.f L O B J).bind fun X=>(if X=true then ((rightP_I.f L O B J).bind fun ζ =>(call_Check.j0 k (!ζ))) else (call_Check.j0 k true))) else (call_Check.j0 k true))) else (call_Check.j0 k true))
theorem call_Check.Zn:∀ k,(∀ L,LeO (call_Check.j0 k L) (call_Check.j0 (k+1) L))
 |0=>fun _ r h=>by simp[call_Check.j0] at h
 |k+1=>by
  have J:=call_Check.Zn k
  ·intro L
   unfold call_Check.j0
   repeat' first
   |(with_reducible exact J _)
   |(with_reducible exact LeO.refl _)
   |(with_reducible exact LeO.none _)
   |(with_reducible refine LeO.ite ?_ ?_)
   |(with_reducible refine LeO.bind ?_ (fun _=>?_))
   |exact J _
   |exact LeO.none _
   |refine LeO.ite ?_ ?_
   |refine LeO.bind ?_ (fun _=>?_)
theorem call_Check.mono:∀ B O a2 a3 k,LeO (call_Check.f k B O a2 a3) (call_Check.f (k+1) B O a2 a3):=by
 intro B O a2 a3 k
 have J:=call_Check.Zn k
 unfold call_Check.f
 repeat' first
   |(with_reducible exact J _)
   |(with_reducible exact LeO.refl _)
   |(with_reducible exact LeO.none _)
   |(with_reducible refine LeO.ite ?_ ?_)
   |(with_reducible refine LeO.bind ?_ (fun _=>?_))
   |exact J _
   |exact LeO.none _
   |refine LeO.ite ?_ ?_
   |refine LeO.bind ?_ (fun _=>?_)
def call_Check.T1:Bool×List (List Nat×List Nat):=(true,[([],[]),([0],[0]),([1],[1]),([2],[2]),([3,2],[3]),([4],[4]),([5,4],[4,5]),([6,4,4],[4,6]),([7,4],[4,7]),([4,8],[4,8]),([9,7],[9]),([10],[10]),([11,10,10],[10,11]),([10],[10]),([13,12,10],[10,13]),([12,14,14,10],[10,12,14]),([15,10],[10,15]),([10,16],[10,16]),([17,15],[17]),([18],[18]),([19,18,18],[18,19]),([18],[18]),([21,20,18],[18,21]),([20,22,22,18],[18,20,22]),([23,18],[18,23]),([18,24],[18,24])])
def call_Check.B1:List Nat:=[0,1,3,7,15,31,63,127,255,511,1023,2047,4095,2047,16383,32767,65535,131071,262143,524287,1048575,524287,4194303,8388607,16777215,33554431]
theorem call_Check.Kv:rtab .any (opsOf Try.f40 1)=call_Check.T1:=by kernel_rfl
theorem call_Check.Jc:Zr call_Check.T1.2 call_Check.B1=true:=by kernel_rfl
set_option maxHeartbeats 8000000 in
set_option maxRecDepth 100000 in
theorem call_Check.calls (k:Nat) (B:Int) (J:Int) (θ :Option Addr) (δ :Nat) (L:List (S36)) (ι :Option Addr) (η :Nat) (O:List (S86)) (r:Int) (w:World) (ac:Kd.C k36 w θ L.length L) (ar:L.length ≤ δ) (au:Kd.C k86 w ι O.length O) (av:O.length ≤ η) (h:call_Check.f k B J L O=some r):
  Calls Try.prog 40 #[.agg #[.int .i64 B,.int .i64 J],.agg #[.slice θ L.length δ,.slice ι O.length η]] w fun e w'=>e = .returned (.int .i64 r)∧Below w.heap.size w w':=by
 have d0:=Try.underlying59
 have f8:=Try.underlying50
 have τ :=Aside0.mk ac
 have a1:=Aside0.mk ar
 clear ac ar
 have φ :=Aside0.mk au
 have a7:=Aside0.mk av
 clear au av
 have HB:=Aside0.mk (Below.refl w.heap.size w)
 have H:((call_within.f B 2 64).bind fun γ=>(if γ=true then ((call_within.f J 1 8).bind fun ε =>(if ε = true then ((rightP_H.f L O B J).bind fun X=>(if X=true then ((rightP_I.f L O B J).bind fun ζ =>(call_Check.j0 k (!ζ))) else (call_Check.j0 k true))) else (call_Check.j0 k true))) else (call_Check.j0 k true)))=some r:=h
 clear h
 have ξ :=Aside0.mk H
 clear H
 go_enter Try.func40,Try.ntmps40
 go_upto_region 1 with(first|((with_reducible refine Qe (N:=2) rfl ?_);refine qE 2 #[.int .i64 B,.int .i64 J] 59 ?_;intro ω hg w4 hbox hb;have Y:=Aside0.mk hbox;have bf:=sGe hg;have bg:=sGe hg;replace HB:=sHb hb;clear hb hbox hg)|((with_reducible refine Qe (N:=3) rfl ?_);refine qE 3 #[.slice θ L.length δ,.slice ι O.length η] 50 ?_;intro ψ hg w5 hbox hb;have Z:=Aside0.mk hbox;have bi:=sGe hg;have bj:=sGe hg;have ρ:=sNl Y hg;have χ :=sNg Y hg;replace Y:=sBk Y hb;replace HB:=sHb hb;clear hb hbox hg))
 (try simp only[Act.put,qS])
 go_cut [30] (fun a5 wc=>∃ (kq:Nat) (κ :Bool),a5 = .bool κ ∧ Aside0 (call_Check.j0 kq κ = some r)∧Aside0 (kq≤k)∧Aside0 (wc.heap[ω]?=some (.cells #[.int .i64 B,.int .i64 J] 59 (0,0)))∧Aside0 (wc.heap[ψ]?=some (.cells #[(.slice θ L.length δ),(.slice ι O.length η)] 50 (0,0)))∧Aside0 (Below w.heap.size w wc))
 case first=>
  have H:= ξ.out
  clear ξ
  replace H:=Option.bind_eq_some_iff.mp H
  obtain⟨γ,az,H⟩:=H
  replace H:(if γ=true then ((call_within.f J 1 8).bind fun ε =>(if ε = true then ((rightP_H.f L O B J).bind fun X=>(if X=true then ((rightP_I.f L O B J).bind fun ζ =>(call_Check.j0 k (!ζ))) else (call_Check.j0 k true))) else (call_Check.j0 k true))) else (call_Check.j0 k true))=some r:=H
  have A6:=Aside0.mk az
  clear az
  by_cases c7:γ=true
  ·subst c7
   have H1:((call_within.f J 1 8).bind fun ε =>(if ε = true then ((rightP_H.f L O B J).bind fun X=>(if X=true then ((rightP_I.f L O B J).bind fun ζ =>(call_Check.j0 k (!ζ))) else (call_Check.j0 k true))) else (call_Check.j0 k true)))=some r:=by rw[if_pos rfl] at H;exact H
   clear H
   have H:=H1
   clear H1
   replace H:=Option.bind_eq_some_iff.mp H
   obtain⟨ε,b5,H⟩:=H
   replace H:(if ε = true then ((rightP_H.f L O B J).bind fun X=>(if X=true then ((rightP_I.f L O B J).bind fun ζ =>(call_Check.j0 k (!ζ))) else (call_Check.j0 k true))) else (call_Check.j0 k true))=some r:=H
   have A8:=Aside0.mk b5
   clear b5
   by_cases c9: ε = true
   ·subst c9
    have H1:((rightP_H.f L O B J).bind fun X=>(if X=true then ((rightP_I.f L O B J).bind fun ζ =>(call_Check.j0 k (!ζ))) else (call_Check.j0 k true)))=some r:=by rw[if_pos rfl] at H;exact H
    clear H
    have H:=H1
    clear H1
    replace H:=Option.bind_eq_some_iff.mp H
    obtain⟨X,cv,H⟩:=H
    replace H:(if X=true then ((rightP_I.f L O B J).bind fun ζ =>(call_Check.j0 k (!ζ))) else (call_Check.j0 k true))=some r:=H
    have de:=Aside0.mk cv
    clear cv
    by_cases al:X=true
    ·subst al
     have H1:((rightP_I.f L O B J).bind fun ζ =>(call_Check.j0 k (!ζ)))=some r:=by rw[if_pos rfl] at H;exact H
     clear H
     have H:=H1
     clear H1
     replace H:=Option.bind_eq_some_iff.mp H
     obtain⟨ζ,a8,H⟩:=H
     replace H:(call_Check.j0 k (!ζ))=some r:=H
     have b3:=Aside0.mk a8
     clear a8
     have H':=Aside0.mk H
     clear H
     try go_wp2
     replace Y:=Aside0.mk (Qf Y.out)
     replace Z:=Aside0.mk (Qf Z.out)
     replace HB:=Aside0.mk (Qi HB.out)
     refine Zl (n:=26) (S:=fun w'=>w'.cell? ⟨ω,0,none⟩=some (.int .i64 B)∧w'.cell? ⟨ω,1,none⟩=some (.int .i64 J)∧w'.cell? ⟨ψ,0,none⟩=some (.slice θ L.length δ)∧w'.cell? ⟨ψ,1,none⟩=some (.slice ι O.length η)) (ds:=[]) #[false,false,false,false,false,false,false,false,false,false,false,false,false,false,false,false,false,false,false,false,false,false,false,false,false,false] kr rfl rfl ⟨(Qa Y.out 0).trans rfl,(Qa Y.out 1).trans rfl,(Qa Z.out 0).trans rfl,(Qa Z.out 1).trans rfl⟩ (fun hHeld=>?_);refine Q8 call_Check.Kv call_Check.Jc (fun HT_ HW_=>?_)
     generalize w5.drew=i3 at Y Z HB hHeld ⊢
     refine qP 0 (some 5) (bN 26 1) HT_ ?_
     refine qT 1 (some 6) (bN 26 3) HT_ HW_ hHeld ?_
     refine Zg (i:=2) (N:=some 7) (bN 26 7) rfl rfl (Q4 HT_.out kr) (by decide) (fun K hK=>?_)
     refine Zf Try.func44 kr rfl #[.int .i64 B,.int .i64 2,.int .i64 64] (by rfl) rfl rfl qM ?_
     with_reducible refine(call_within.calls B 2 64 true _ A6.out).mono ?_
     rintro e w' ⟨rfl,⟨nd,rfl⟩⟩
     refine⟨_,rfl, ?_⟩
     refine hK.out _ _ ⟨qc Y,qc Y,qc Z,qc Z⟩ (fun hHeld=>?_)
     clear hK K
     refine qN (some 7) ?_
     refine qP 3 (some 8) (bN 26 15) HT_ ?_
     refine qP 4 (some 9) (bN 26 31) HT_ ?_
     refine qP 5 (some 10) (bN 26 63) HT_ ?_
     refine qT 6 (some 11) (bN 26 127) HT_ HW_ hHeld ?_
     refine Zg (i:=7) (N:=some 12) (bN 26 255) rfl rfl (Q4 HT_.out kr) (by decide) (fun K hK=>?_)
     refine Zf Try.func44 kr rfl #[.int .i64 J,.int .i64 1,.int .i64 8] (by rfl) rfl rfl qM ?_
     with_reducible refine(call_within.calls J 1 8 true _ A8.out).mono ?_
     rintro e w' ⟨rfl,⟨nd,rfl⟩⟩
     refine⟨_,rfl, ?_⟩
     refine hK.out _ _ ⟨qc Y,qc Y,qc Z,qc Z⟩ (fun hHeld=>?_)
     clear hK K
     refine qN (some 12) ?_
     refine qP 8 (some 13) (bN 26 511) HT_ ?_
     refine qP 9 (some 14) (bN 26 1023) HT_ ?_
     refine qP 10 (some 15) (bN 26 2047) HT_ ?_
     refine qT 11 (some 16) (bN 26 4095) HT_ HW_ hHeld ?_
     refine qT 13 (some 18) (bN 26 12287) HT_ HW_ hHeld ?_
     refine Zg (i:=12) (N:=some 17) (bN 26 16383) rfl rfl (Q4 HT_.out kr) (by decide) (fun K hK=>?_)
     refine Zf Try.func63 kr rfl #[.agg #[.slice θ L.length δ,.slice ι O.length η]] (by rfl) rfl rfl qM ?_
     refine(Jy θ ι L.length O.length δ η _).mono ?_
     rintro e b0 ⟨rfl,hb⟩
     refine⟨_,rfl, ?_⟩
     replace Y:=sBk Y hb
     replace Z:=sBk Z hb
     replace HB:=sHb hb
     (try clear hb)
     (try clear a4)
     (try clear hk)
     (try clear hi)
     refine hK.out _ _ ⟨qc Y,qc Y,qc Z,qc Z⟩ (fun hHeld=>?_)
     clear hK K
     refine qN (some 17) ?_
     refine Zg (i:=14) (N:=some 19) (bN 26 32767) rfl rfl (Q4 HT_.out kr) (by decide) (fun K hK=>?_)
     refine Zf Try.func65 kr rfl #[.agg #[.int .i64 B,.int .i64 J]] (by rfl) rfl rfl qM ?_
     refine(Jk B J _).mono ?_
     rintro e b1 ⟨μ,rfl,hgp,hgw,hb⟩
     have a0:=Aside0.mk hgp
     clear hgp hgw
     refine⟨_,rfl, ?_⟩
     replace Y:=sBk Y hb
     replace Z:=sBk Z hb
     replace HB:=sHb hb
     (try clear hb)
     (try clear a4)
     (try clear hk)
     (try clear hi)
     refine hK.out _ _ ⟨qc Y,qc Y,qc Z,qc Z⟩ (fun hHeld=>?_)
     clear hK K
     refine qN (some 19) ?_
     refine Zg (i:=15) (N:=some 20) (bN 26 65535) rfl rfl (Q4 HT_.out kr) (by decide) (fun K hK=>?_)
     refine Zf Try.func64 kr rfl #[.agg #[.slice θ L.length δ,.func (.func 79) #[] #[]],.func (.func 82) #[] #[.pointer (some ⟨μ,0,none⟩)]] (by rfl) rfl rfl qM ?_
     with_reducible refine(rightP_H.calls θ δ L ι η O B J true _ ?side1 ?side2 ?side3 ?side4 de.out μ a0.out).mono ?_
     (case side1=>exact(Kd.Qp τ.out HB.out))
     (case side2=>exact a1.out)
     (case side3=>exact(Kd.Qp φ.out HB.out))
     (case side4=>exact a7.out)
     rintro e bh ⟨rfl,hb⟩
     refine⟨_,rfl, ?_⟩
     replace Y:=sBk Y hb
     replace Z:=sBk Z hb
     replace HB:=sHb hb
     (try clear hb)
     (try clear a4)
     (try clear hk)
     (try clear hi)
     refine hK.out _ _ ⟨qc Y,qc Y,qc Z,qc Z⟩ (fun hHeld=>?_)
     clear hK K
     refine qN (some 20) ?_
     refine qP 16 (some 21) (bN 26 131071) HT_ ?_
     refine qP 17 (some 22) (bN 26 262143) HT_ ?_
     refine qP 18 (some 23) (bN 26 524287) HT_ ?_
     refine qT 19 (some 24) (bN 26 1048575) HT_ HW_ hHeld ?_
     refine qT 21 (some 26) (bN 26 3145727) HT_ HW_ hHeld ?_
     refine Zg (i:=20) (N:=some 25) (bN 26 4194303) rfl rfl (Q4 HT_.out kr) (by decide) (fun K hK=>?_)
     refine Zf Try.func66 kr rfl #[.agg #[.slice θ L.length δ,.slice ι O.length η]] (by rfl) rfl rfl qM ?_
     refine(K9 θ ι L.length O.length δ η _).mono ?_
     rintro e b2 ⟨rfl,hb⟩
     refine⟨_,rfl, ?_⟩
     replace Y:=sBk Y hb
     replace Z:=sBk Z hb
     replace HB:=sHb hb
     (try clear hb)
     (try clear a4)
     (try clear hk)
     (try clear hi)
     refine hK.out _ _ ⟨qc Y,qc Y,qc Z,qc Z⟩ (fun hHeld=>?_)
     clear hK K
     refine qN (some 25) ?_
     refine Zg (i:=22) (N:=some 27) (bN 26 8388607) rfl rfl (Q4 HT_.out kr) (by decide) (fun K hK=>?_)
     refine Zf Try.func68 kr rfl #[.agg #[.int .i64 B,.int .i64 J]] (by rfl) rfl rfl qM ?_
     refine(Un B J _).mono ?_
     rintro e a6 ⟨ν,rfl,hgp,hgw,hb⟩
     have a2:=Aside0.mk hgp
     clear hgp hgw
     refine⟨_,rfl, ?_⟩
     replace Y:=sBk Y hb
     replace Z:=sBk Z hb
     replace HB:=sHb hb
     (try clear hb)
     (try clear a4)
     (try clear hk)
     (try clear hi)
     refine hK.out _ _ ⟨qc Y,qc Y,qc Z,qc Z⟩ (fun hHeld=>?_)
     clear hK K
     refine qN (some 27) ?_
     refine Zg (i:=23) (N:=some 28) (bN 26 16777215) rfl rfl (Q4 HT_.out kr) (by decide) (fun K hK=>?_)
     refine Zf Try.func67 kr rfl #[.agg #[.slice ι O.length η,.func (.func 83) #[] #[]],.func (.func 84) #[] #[.pointer (some ⟨ν,0,none⟩)]] (by rfl) rfl rfl qM ?_
     with_reducible refine(rightP_I.calls θ δ L ι η O B J ζ _ ?side1 ?side2 ?side3 ?side4 b3.out ν a2.out).mono ?_
     (case side1=>exact(Kd.Qp τ.out HB.out))
     (case side2=>exact a1.out)
     (case side3=>exact(Kd.Qp φ.out HB.out))
     (case side4=>exact a7.out)
     rintro e g9 ⟨rfl,hb⟩
     refine⟨_,rfl, ?_⟩
     replace Y:=sBk Y hb
     replace Z:=sBk Z hb
     replace HB:=sHb hb
     (try clear hb)
     (try clear a4)
     (try clear hk)
     (try clear hi)
     refine hK.out _ _ ⟨qc Y,qc Y,qc Z,qc Z⟩ (fun hHeld=>?_)
     clear hK K
     refine qN (some 28) ?_
     refine qP 24 (some 29) (bN 26 33554431) HT_ ?_
     refine qP 25 (some 30) (bN 26 67108863) HT_ ?_
     refine Z2 (Zh HT_.out kr) ?_
     try go_wp2
     go_meet
     case rel=>exact⟨_,(!ζ),rfl,H',⟨by first|omega|exact Nat.le_refl _⟩,Y,Z,HB⟩
    ·replace al:=Bool.eq_false_iff.mpr al
     subst al
     have H1:(call_Check.j0 k true)=some r:=by rw[if_neg (show ¬ (false=true) by decide)] at H;exact H
     clear H
     have H:=H1
     clear H1
     have H':=Aside0.mk H
     clear H
     try go_wp2
     replace Y:=Aside0.mk (Qf Y.out)
     replace Z:=Aside0.mk (Qf Z.out)
     replace HB:=Aside0.mk (Qi HB.out)
     refine Zl (n:=26) (S:=fun w'=>w'.cell? ⟨ω,0,none⟩=some (.int .i64 B)∧w'.cell? ⟨ω,1,none⟩=some (.int .i64 J)∧w'.cell? ⟨ψ,0,none⟩=some (.slice θ L.length δ)∧w'.cell? ⟨ψ,1,none⟩=some (.slice ι O.length η)) (ds:=[]) #[false,false,false,false,false,false,false,false,false,false,false,false,false,false,false,false,false,false,false,false,false,false,false,false,false,false] kr rfl rfl ⟨(Qa Y.out 0).trans rfl,(Qa Y.out 1).trans rfl,(Qa Z.out 0).trans rfl,(Qa Z.out 1).trans rfl⟩ (fun hHeld=>?_);refine Q8 call_Check.Kv call_Check.Jc (fun HT_ HW_=>?_)
     generalize w5.drew=dj at Y Z HB hHeld ⊢
     refine qP 0 (some 5) (bN 26 1) HT_ ?_
     refine qT 1 (some 6) (bN 26 3) HT_ HW_ hHeld ?_
     refine Zg (i:=2) (N:=some 7) (bN 26 7) rfl rfl (Q4 HT_.out kr) (by decide) (fun K hK=>?_)
     refine Zf Try.func44 kr rfl #[.int .i64 B,.int .i64 2,.int .i64 64] (by rfl) rfl rfl qM ?_
     with_reducible refine(call_within.calls B 2 64 true _ A6.out).mono ?_
     rintro e w' ⟨rfl,⟨nd,rfl⟩⟩
     refine⟨_,rfl, ?_⟩
     refine hK.out _ _ ⟨qc Y,qc Y,qc Z,qc Z⟩ (fun hHeld=>?_)
     clear hK K
     refine qN (some 7) ?_
     refine qP 3 (some 8) (bN 26 15) HT_ ?_
     refine qP 4 (some 9) (bN 26 31) HT_ ?_
     refine qP 5 (some 10) (bN 26 63) HT_ ?_
     refine qT 6 (some 11) (bN 26 127) HT_ HW_ hHeld ?_
     refine Zg (i:=7) (N:=some 12) (bN 26 255) rfl rfl (Q4 HT_.out kr) (by decide) (fun K hK=>?_)
     refine Zf Try.func44 kr rfl #[.int .i64 J,.int .i64 1,.int .i64 8] (by rfl) rfl rfl qM ?_
     with_reducible refine(call_within.calls J 1 8 true _ A8.out).mono ?_
     rintro e w' ⟨rfl,⟨nd,rfl⟩⟩
     refine⟨_,rfl, ?_⟩
     refine hK.out _ _ ⟨qc Y,qc Y,qc Z,qc Z⟩ (fun hHeld=>?_)
     clear hK K
     refine qN (some 12) ?_
     refine qP 8 (some 13) (bN 26 511) HT_ ?_
     refine qP 9 (some 14) (bN 26 1023) HT_ ?_
     refine qP 10 (some 15) (bN 26 2047) HT_ ?_
     refine qT 11 (some 16) (bN 26 4095) HT_ HW_ hHeld ?_
     refine qT 13 (some 18) (bN 26 12287) HT_ HW_ hHeld ?_
     refine Zg (i:=12) (N:=some 17) (bN 26 16383) rfl rfl (Q4 HT_.out kr) (by decide) (fun K hK=>?_)
     refine Zf Try.func63 kr rfl #[.agg #[.slice θ L.length δ,.slice ι O.length η]] (by rfl) rfl rfl qM ?_
     refine(Jy θ ι L.length O.length δ η _).mono ?_
     rintro e a9 ⟨rfl,hb⟩
     refine⟨_,rfl, ?_⟩
     replace Y:=sBk Y hb
     replace Z:=sBk Z hb
     replace HB:=sHb hb
     (try clear hb)
     (try clear a4)
     (try clear hk)
     (try clear hi)
     refine hK.out _ _ ⟨qc Y,qc Y,qc Z,qc Z⟩ (fun hHeld=>?_)
     clear hK K
     refine qN (some 17) ?_
     refine Zg (i:=14) (N:=some 19) (bN 26 32767) rfl rfl (Q4 HT_.out kr) (by decide) (fun K hK=>?_)
     refine Zf Try.func65 kr rfl #[.agg #[.int .i64 B,.int .i64 J]] (by rfl) rfl rfl qM ?_
     refine(Jk B J _).mono ?_
     rintro e aa ⟨σ,rfl,hgp,hgw,hb⟩
     have a3:=Aside0.mk hgp
     clear hgp hgw
     refine⟨_,rfl, ?_⟩
     replace Y:=sBk Y hb
     replace Z:=sBk Z hb
     replace HB:=sHb hb
     (try clear hb)
     (try clear a4)
     (try clear hk)
     (try clear hi)
     refine hK.out _ _ ⟨qc Y,qc Y,qc Z,qc Z⟩ (fun hHeld=>?_)
     clear hK K
     refine qN (some 19) ?_
     refine Zg (i:=15) (N:=some 20) (bN 26 65535) rfl rfl (Q4 HT_.out kr) (by decide) (fun K hK=>?_)
     refine Zf Try.func64 kr rfl #[.agg #[.slice θ L.length δ,.func (.func 79) #[] #[]],.func (.func 82) #[] #[.pointer (some ⟨σ,0,none⟩)]] (by rfl) rfl rfl qM ?_
     with_reducible refine(rightP_H.calls θ δ L ι η O B J false _ ?side1 ?side2 ?side3 ?side4 de.out σ a3.out).mono ?_
     (case side1=>exact(Kd.Qp τ.out HB.out))
     (case side2=>exact a1.out)
     (case side3=>exact(Kd.Qp φ.out HB.out))
     (case side4=>exact a7.out)
     rintro e e6 ⟨rfl,hb⟩
     refine⟨_,rfl, ?_⟩
     replace Y:=sBk Y hb
     replace Z:=sBk Z hb
     replace HB:=sHb hb
     (try clear hb)
     (try clear a4)
     (try clear hk)
     (try clear hi)
     refine hK.out _ _ ⟨qc Y,qc Y,qc Z,qc Z⟩ (fun hHeld=>?_)
     clear hK K
     refine qN (some 20) ?_
     refine qP 16 (some 21) (bN 26 131071) HT_ ?_
     refine qP 17 (some 22) (bN 26 262143) HT_ ?_
     refine qP 18 (some 23) (bN 26 524287) HT_ ?_
     refine qU 19 (some 24) (bN 26 1048575) HT_ ?_
     refine qU 20 (some 25) (bN 26 2097151) HT_ ?_
     refine qU 21 (some 26) (bN 26 4194303) HT_ ?_
     refine qU 22 (some 27) (bN 26 8388607) HT_ ?_
     refine qU 23 (some 28) (bN 26 16777215) HT_ ?_
     refine qU 24 (some 29) (bN 26 33554431) HT_ ?_
     refine qP 25 (some 30) (bN 26 67108863) HT_ ?_
     refine Z2 (Zh HT_.out kr) ?_
     try go_wp2
     go_meet
     case rel=>exact⟨_,(true),rfl,H',⟨by first|omega|exact Nat.le_refl _⟩,Y,Z,HB⟩
   ·replace c9:=Bool.eq_false_iff.mpr c9
    subst c9
    have H1:(call_Check.j0 k true)=some r:=by rw[if_neg (show ¬ (false=true) by decide)] at H;exact H
    clear H
    have H:=H1
    clear H1
    have H':=Aside0.mk H
    clear H
    try go_wp2
    replace Y:=Aside0.mk (Qf Y.out)
    replace Z:=Aside0.mk (Qf Z.out)
    replace HB:=Aside0.mk (Qi HB.out)
    refine Zl (n:=26) (S:=fun w'=>w'.cell? ⟨ω,0,none⟩=some (.int .i64 B)∧w'.cell? ⟨ω,1,none⟩=some (.int .i64 J)) (ds:=[]) #[false,false,false,false,false,false,false,false,false,false,false,false,false,false,false,false,false,false,false,false,false,false,false,false,false,false] kr rfl rfl ⟨(Qa Y.out 0).trans rfl,(Qa Y.out 1).trans rfl⟩ (fun hHeld=>?_);refine Q8 call_Check.Kv call_Check.Jc (fun HT_ HW_=>?_)
    generalize w5.drew=ha at Y Z HB hHeld ⊢
    refine qP 0 (some 5) (bN 26 1) HT_ ?_
    refine qT 1 (some 6) (bN 26 3) HT_ HW_ hHeld ?_
    refine Zg (i:=2) (N:=some 7) (bN 26 7) rfl rfl (Q4 HT_.out kr) (by decide) (fun K hK=>?_)
    refine Zf Try.func44 kr rfl #[.int .i64 B,.int .i64 2,.int .i64 64] (by rfl) rfl rfl qM ?_
    with_reducible refine(call_within.calls B 2 64 true _ A6.out).mono ?_
    rintro e w' ⟨rfl,⟨nd,rfl⟩⟩
    refine⟨_,rfl, ?_⟩
    refine hK.out _ _ ⟨qc Y,qc Y⟩ (fun hHeld=>?_)
    clear hK K
    refine qN (some 7) ?_
    refine qP 3 (some 8) (bN 26 15) HT_ ?_
    refine qP 4 (some 9) (bN 26 31) HT_ ?_
    refine qP 5 (some 10) (bN 26 63) HT_ ?_
    refine qT 6 (some 11) (bN 26 127) HT_ HW_ hHeld ?_
    refine Zg (i:=7) (N:=some 12) (bN 26 255) rfl rfl (Q4 HT_.out kr) (by decide) (fun K hK=>?_)
    refine Zf Try.func44 kr rfl #[.int .i64 J,.int .i64 1,.int .i64 8] (by rfl) rfl rfl qM ?_
    with_reducible refine(call_within.calls J 1 8 false _ A8.out).mono ?_
    rintro e w' ⟨rfl,⟨nd,rfl⟩⟩
    refine⟨_,rfl, ?_⟩
    refine hK.out _ _ ⟨qc Y,qc Y⟩ (fun hHeld=>?_)
    clear hK K
    refine qN (some 12) ?_
    refine qP 8 (some 13) (bN 26 511) HT_ ?_
    refine qP 9 (some 14) (bN 26 1023) HT_ ?_
    refine qP 10 (some 15) (bN 26 2047) HT_ ?_
    refine qU 11 (some 16) (bN 26 4095) HT_ ?_
    refine qU 12 (some 17) (bN 26 8191) HT_ ?_
    refine qU 13 (some 18) (bN 26 16383) HT_ ?_
    refine qU 14 (some 19) (bN 26 32767) HT_ ?_
    refine qU 15 (some 20) (bN 26 65535) HT_ ?_
    refine qU 16 (some 21) (bN 26 131071) HT_ ?_
    refine qP 17 (some 22) (bN 26 262143) HT_ ?_
    refine qP 18 (some 23) (bN 26 524287) HT_ ?_
    refine qU 19 (some 24) (bN 26 1048575) HT_ ?_
    refine qU 20 (some 25) (bN 26 2097151) HT_ ?_
    refine qU 21 (some 26) (bN 26 4194303) HT_ ?_
    refine qU 22 (some 27) (bN 26 8388607) HT_ ?_
    refine qU 23 (some 28) (bN 26 16777215) HT_ ?_
    refine qU 24 (some 29) (bN 26 33554431) HT_ ?_
    refine qP 25 (some 30) (bN 26 67108863) HT_ ?_
    refine Z2 (Zh HT_.out kr) ?_
    try go_wp2
    go_meet
    case rel=>exact⟨_,(true),qR,H',⟨by first|omega|exact Nat.le_refl _⟩,⟨bka Y⟩,⟨bka Z⟩,⟨bel⟩⟩
  ·replace c7:=Bool.eq_false_iff.mpr c7
   subst c7
   have H1:(call_Check.j0 k true)=some r:=by rw[if_neg (show ¬ (false=true) by decide)] at H;exact H
   clear H
   have H:=H1
   clear H1
   have H':=Aside0.mk H
   clear H
   try go_wp2
   replace Y:=Aside0.mk (Qf Y.out)
   replace Z:=Aside0.mk (Qf Z.out)
   replace HB:=Aside0.mk (Qi HB.out)
   refine Zl (n:=26) (S:=fun w'=>w'.cell? ⟨ω,0,none⟩=some (.int .i64 B)∧w'.cell? ⟨ω,1,none⟩=some (.int .i64 J)) (ds:=[]) #[false,false,false,false,false,false,false,false,false,false,false,false,false,false,false,false,false,false,false,false,false,false,false,false,false,false] kr rfl rfl ⟨(Qa Y.out 0).trans rfl,(Qa Y.out 1).trans rfl⟩ (fun hHeld=>?_);refine Q8 call_Check.Kv call_Check.Jc (fun HT_ HW_=>?_)
   generalize w5.drew=ay at Y Z HB hHeld ⊢
   refine qP 0 (some 5) (bN 26 1) HT_ ?_
   refine qT 1 (some 6) (bN 26 3) HT_ HW_ hHeld ?_
   refine Zg (i:=2) (N:=some 7) (bN 26 7) rfl rfl (Q4 HT_.out kr) (by decide) (fun K hK=>?_)
   refine Zf Try.func44 kr rfl #[.int .i64 B,.int .i64 2,.int .i64 64] (by rfl) rfl rfl qM ?_
   with_reducible refine(call_within.calls B 2 64 false _ A6.out).mono ?_
   rintro e w' ⟨rfl,⟨nd,rfl⟩⟩
   refine⟨_,rfl, ?_⟩
   refine hK.out _ _ ⟨qc Y,qc Y⟩ (fun hHeld=>?_)
   clear hK K
   refine qN (some 7) ?_
   refine qP 3 (some 8) (bN 26 15) HT_ ?_
   refine qP 4 (some 9) (bN 26 31) HT_ ?_
   refine qU 5 (some 10) (bN 26 63) HT_ ?_
   refine qU 6 (some 11) (bN 26 127) HT_ ?_
   refine qU 7 (some 12) (bN 26 255) HT_ ?_
   refine qU 8 (some 13) (bN 26 511) HT_ ?_
   refine qP 9 (some 14) (bN 26 1023) HT_ ?_
   refine qP 10 (some 15) (bN 26 2047) HT_ ?_
   refine qU 11 (some 16) (bN 26 4095) HT_ ?_
   refine qU 12 (some 17) (bN 26 8191) HT_ ?_
   refine qU 13 (some 18) (bN 26 16383) HT_ ?_
   refine qU 14 (some 19) (bN 26 32767) HT_ ?_
   refine qU 15 (some 20) (bN 26 65535) HT_ ?_
   refine qU 16 (some 21) (bN 26 131071) HT_ ?_
   refine qP 17 (some 22) (bN 26 262143) HT_ ?_
   refine qP 18 (some 23) (bN 26 524287) HT_ ?_
   refine qU 19 (some 24) (bN 26 1048575) HT_ ?_
   refine qU 20 (some 25) (bN 26 2097151) HT_ ?_
   refine qU 21 (some 26) (bN 26 4194303) HT_ ?_
   refine qU 22 (some 27) (bN 26 8388607) HT_ ?_
   refine qU 23 (some 28) (bN 26 16777215) HT_ ?_
   refine qU 24 (some 29) (bN 26 33554431) HT_ ?_
   refine qP 25 (some 30) (bN 26 67108863) HT_ ?_
   refine Z2 (Zh HT_.out kr) ?_
   try go_wp2
   go_meet
   case rel=>exact⟨_,(true),qR,H',⟨by first|omega|exact Nat.le_refl _⟩,⟨bka Y⟩,⟨bka Z⟩,⟨bel⟩⟩
 case rest=>
  clear ξ
  try clear c1
  try clear p2
  try clear c4
  try clear c6
  try clear c7
  try clear c9
  obtain⟨kq,κ,rfl,HA,b6,Y,Z,HB⟩:=hcut
  cases kq with
  |zero=>exact absurd HA.out (by simp[call_Check.j0])
  |succ d5=>
   have H:=HA.out
   clear HA
   simp only[call_Check.j0] at H
   by_cases bc: κ = true
   ·subst bc
    have H1:(some 190)=some r:=by rw[if_pos rfl] at H;exact H
    clear H
    have H:=H1
    clear H1
    obtain rfl:=Option.some.inj H
    go_wp2
    go_ret
    exact⟨rfl,HB.out⟩
   ·replace bc:=Bool.eq_false_iff.mpr bc
    subst bc
    have H1:(some 0)=some r:=by rw[if_neg (show ¬ (false=true) by decide)] at H;exact H
    clear H
    have H:=H1
    clear H1
    obtain rfl:=Option.some.inj H
    go_wp2
    go_ret
    exact⟨rfl,HB.out⟩
def call_change.f (U_:Option (List S36)) (I_:Option (List S86)) (k:Nat) (B:Int) (J:Int) (L:List (S36)) (O:List (S86)) (a2:Bool) (a3:Int) (a9:Int) (aa:Int) (ab:Int) (a5:Int) (b1:Int) (b2:Int):Option ((List (S36))×(List (S86))×Int):=(call_Check.f k B J L O).bind fun ζ =>(if ζ = 0 then (if a2=true then ((U_).bind fun κ =>((I_).bind fun a0=>(some (κ,a0,0)))) else (some (([]:List (S36)),([]:List (S86)),191))) else (some (([]:List (S36)),([]:List (S86)),ζ)))
theorem call_change.mono:∀ U_ I_ B O a2 a3 L a5 X a7 a8 a9 Y Z k,LeO (call_change.f U_ I_ k B O a2 a3 L a5 X a7 a8 a9 Y Z) (call_change.f U_ I_ (k+1) B O a2 a3 L a5 X a7 a8 a9 Y Z):=by
 intro U_ I_ B O a2 a3 L a5 X a7 a8 a9 Y Z k
 unfold call_change.f
 repeat' first
   |(with_reducible exact call_Check.mono _ _ _ _ _)
   |(with_reducible exact LeO.refl _)
   |(with_reducible exact LeO.none _)
   |(with_reducible refine LeO.ite ?_ ?_)
   |(with_reducible refine LeO.bind ?_ (fun _=>?_))
   |exact call_Check.mono _ _ _ _ _
   |exact LeO.none _
   |refine LeO.ite ?_ ?_
   |refine LeO.bind ?_ (fun _=>?_)
def call_change.T6:Bool×List (List Nat×List Nat):=(true,[([],[]),([],[]),([0,1],[0,1]),([],[]),([],[]),([3,4,2],[3,4]),([2,5],[2,5]),([6,5,0,1,2,3,4,5,6],[6]),([7,0,1,2,3,4,5,6,7],[])])
def call_change.B6:List Nat:=[0,0,3,0,0,31,63,127,255]
theorem call_change.Er:rtab .any (opsOf Try.f73 6)=call_change.T6:=by kernel_rfl
theorem call_change.Mw:Zr call_change.T6.2 call_change.B6=true:=by kernel_rfl
set_option maxHeartbeats 8000000 in
set_option maxRecDepth 100000 in
theorem call_change.calls (U_:Option (List S36)) (I_:Option (List S86)) (k:Nat) (B:Int) (J:Int) (θ :Option Addr) (δ :Nat) (L:List (S36)) (ι :Option Addr) (η :Nat) (O:List (S86)) (a2:Bool) (a3:Int) (a9:Int) (aa:Int) (ab:Int) (a5:Int) (b1:Int) (b2:Int) (r1:List (S36)) (r2:List (S86)) (r3:Int) (w:World) (ac:Kd.C k36 w θ L.length L) (ar:L.length ≤ δ) (au:Kd.C k86 w ι O.length O) (av:O.length ≤ η) (h:call_change.f U_ I_ k B J L O a2 a3 a9 aa ab a5 b1 b2=some (r1,r2,r3)) (fu_:FuncId) (fnu_:Func) (ru_:Value) (hfu_:Try.prog.funcs[fu_]?=some fnu_) (hnu_:(fnu_.name == "runtime.NumGoroutine")=false) (hbu_:fnu_.body.isSome=true) (hu_:∀ (W:World) (t:List S36),U_=some t→Below w.heap.size w W→Calls Try.prog fu_ #[ru_,.agg #[.int .i64 a9,.int .i64 aa,.int .i64 ab]] W fun e w'=>∃ bd:Value,e = .returned bd∧Kd.R k36 36 w' W.heap.size (fun _=>True) bd t∧Below W.heap.size W w') (fi_:FuncId) (fni_:Func) (ri_:Value) (hfi_:Try.prog.funcs[fi_]?=some fni_) (hni_:(fni_.name == "runtime.NumGoroutine")=false) (hbi_:fni_.body.isSome=true) (hi_:∀ (W:World) (t:List S86),I_=some t→Below w.heap.size w W→Calls Try.prog fi_ #[ri_,.agg #[.int .i64 b1,.int .i64 b2]] W fun e w'=>∃ bd:Value,e = .returned bd∧Kd.R k86 86 w' W.heap.size (fun _=>True) bd t∧Below W.heap.size W w'):
  Calls Try.prog 73 #[.agg #[.int .i64 B,.int .i64 J],.agg #[.slice θ L.length δ,.slice ι O.length η],.bool a2,(.func (.func fu_) #[ru_] #[]),.agg #[.int .i64 a9,.int .i64 aa,.int .i64 ab],(.func (.func fi_) #[ri_] #[]),.agg #[.int .i64 b1,.int .i64 b2]] w fun e w'=>∃ bd fb:Value,e = .returned (.tuple #[.agg #[bd,fb],.int .i64 r3])∧Kd.R k36 36 w' w.heap.size (fun _=>True) bd r1∧Kd.R k86 86 w' w.heap.size (fun _=>True) fb r2∧Below w.heap.size w w':=by
 have HFU:=Aside0.mk hfu_
 have HNU:=Aside0.mk hnu_
 have HBU:=Aside0.mk hbu_
 have HCU:=Aside0.mk hu_
 have HFI:=Aside0.mk hfi_
 have HNI:=Aside0.mk hni_
 have HBI:=Aside0.mk hbi_
 have HCI:=Aside0.mk hi_
 clear hfu_ hnu_ hbu_ hu_ hfi_ hni_ hbi_ hi_
 have d0:=Try.underlying59
 have f8:=Try.underlying50
 have dh:=Try.underlying36
 have dp:=Try.underlying86
 have τ :=Aside0.mk ac
 have a1:=Aside0.mk ar
 clear ac ar
 have φ :=Aside0.mk au
 have a7:=Aside0.mk av
 clear au av
 have HB:=Aside0.mk (Below.refl w.heap.size w)
 have H:((call_Check.f k B J L O).bind fun ζ =>(if ζ = 0 then (if a2=true then ((U_).bind fun κ =>((I_).bind fun a0=>(some (κ,a0,0)))) else (some (([]:List (S36)),([]:List (S86)),191))) else (some (([]:List (S36)),([]:List (S86)),ζ))))=some (r1,r2,r3):=h
 clear h
 replace H:=Option.bind_eq_some_iff.mp H
 obtain⟨ζ,b5,H⟩:=H
 replace H:(if ζ = 0 then (if a2=true then ((U_).bind fun κ =>((I_).bind fun a0=>(some (κ,a0,0)))) else (some (([]:List (S36)),([]:List (S86)),191))) else (some (([]:List (S36)),([]:List (S86)),ζ)))=some (r1,r2,r3):=H
 have A8:=Aside0.mk b5
 clear b5
 by_cases c9: ζ = 0
 ·rw[if_pos c9] at H
  have c9b0:(ζ == 0)=true:=beq_iff_eq.mpr c9
  have c9b1:(ζ != 0)=false:=bne_eq_false_iff_eq.mpr c9
  clear c9
  by_cases c10:a2=true
  ·subst c10
   have H1:((U_).bind fun κ =>((I_).bind fun a0=>(some (κ,a0,0))))=some (r1,r2,r3):=by rw[if_pos rfl] at H;exact H
   clear H
   have H:=H1
   clear H1
   replace H:=Option.bind_eq_some_iff.mp H
   obtain⟨κ,bk,H⟩:=H
   replace H:((I_).bind fun a0=>(some (κ,a0,0)))=some (r1,r2,r3):=H
   have ca:=Aside0.mk bk
   clear bk
   replace H:=Option.bind_eq_some_iff.mp H
   obtain⟨a0,a8,H⟩:=H
   replace H:(some (κ,a0,0))=some (r1,r2,r3):=H
   have b3:=Aside0.mk a8
   clear a8
   simp only[Option.some.injEq,Prod.mk.injEq] at H
   obtain⟨rfl,rfl,rfl⟩:=H
   go_enter Try.func73,Try.ntmps73
   try go_wp2_with (first|((with_reducible refine Qe (N:=7) rfl ?_);refine qE 7 #[.int .i64 B,.int .i64 J] 59 ?_;intro ω hg i3 hbox hb;have Y:=Aside0.mk hbox;have bf:=sGe hg;have bg:=sGe hg;replace HB:=sHb hb;clear hb hbox hg)|((with_reducible refine Qe (N:=8) rfl ?_);refine qE 8 #[.slice θ L.length δ,.slice ι O.length η] 50 ?_;intro ψ hg bh hbox hb;have Z:=Aside0.mk hbox;have bi:=sGe hg;have bj:=sGe hg;have ρ:=sNl Y hg;have χ :=sNg Y hg;replace Y:=sBk Y hb;replace HB:=sHb hb;clear hb hbox hg)|((with_reducible refine Qe (N:=11) rfl ?_);refine qE 11 #[.int .i64 a9,.int .i64 aa,.int .i64 ab] 36 ?_;intro b4 hg g9 hbox hb;have X:=Aside0.mk hbox;have bl:=sGe hg;have bp:=sGe hg;have ak:=sNl Y hg;have am:=sNg Y hg;have an:=sNl Z hg;have ao:=sNg Z hg;replace Y:=sBk Y hb;replace Z:=sBk Z hb;replace HB:=sHb hb;clear hb hbox hg)|((with_reducible refine Qe (N:=13) rfl ?_);refine qE 13 #[.int .i64 b1,.int .i64 b2] 86 ?_;intro ν hg dj hbox hb;have γ:=Aside0.mk hbox;have bb:=sGe hg;have al:=sGe hg;have ap:=sNl Y hg;have ay:=sNg Y hg;have az:=sNl Z hg;have b0:=sNg Z hg;have b9:=sNl X hg;have ba:=sNg X hg;replace Y:=sBk Y hb;replace Z:=sBk Z hb;replace X:=sBk X hb;replace HB:=sHb hb;clear hb hbox hg)|((with_reducible refine Qe (N:=14) rfl ?_);refine qE 14 #[.slice none 0 0,.slice none 0 0] 50 ?_;intro μ hg e6 hbox hb;have ε :=Aside0.mk hbox;have bc:=sGe hg;have b6:=sGe hg;have ae:=sNl Y hg;have af:=sNg Y hg;have ag:=sNl Z hg;have ah:=sNg Z hg;have ξ :=sNl X hg;have aj:=sNg X hg;have σ:=sNl γ hg;have a6:=sNg γ hg;replace Y:=sBk Y hb;replace Z:=sBk Z hb;replace X:=sBk X hb;replace γ:=sBk γ hb;replace HB:=sHb hb;clear hb hbox hg;have fz:=ρ.out;have gq:= χ.out;have b7:=ak.out;have ch:=am.out;have ft:=ap.out;have fu:=ay.out;have fh:=ae.out;have fr:=af.out;obtain⟨ct,cu,cv,cw⟩:=qD2 Y.out;have di:=an.out;have e5:=ao.out;have bw:=az.out;have ce:=b0.out;have d1:=ag.out;have d2:=ah.out;obtain⟨d9,da,db,dc⟩:=qD2 Z.out)|((with_reducible refine Qd (f:=40) rfl ?_);refine Qn (some 19) rfl rfl Try.func40 kr rfl #[.agg #[.int .i64 B,.int .i64 J],.agg #[.slice θ L.length δ,.slice ι O.length η]] rfl qM ?_;(with_reducible refine(call_Check.calls k B J _ _ L _ _ O ζ _ ?side1 ?side2 ?side3 ?side4 A8.out).mono ?_);(case side1=>exact(Kd.Qp τ.out HB.out));(case side2=>exact a1.out);(case side3=>exact(Kd.Qp φ.out HB.out));(case side4=>exact a7.out);rintro e ey ⟨rfl,hb⟩;refine⟨_,rfl, ?_⟩;replace Y:=sBk Y hb;replace Z:=sBk Z hb;replace X:=sBk X hb;replace γ:=sBk γ hb;replace ε :=sBk ε hb;replace HB:=sHb hb;(try clear hb);(try clear a4);(try clear hk);(try clear hi)))
   replace Y:=Aside0.mk (Qf Y.out)
   replace Z:=Aside0.mk (Qf Z.out)
   replace X:=Aside0.mk (Qf X.out)
   replace γ:=Aside0.mk (Qf γ.out)
   replace ε :=Aside0.mk (Qf ε.out)
   replace HB:=Aside0.mk (Qi HB.out)
   refine Zl (n:=9) (S:=fun w'=>w'.cell? ⟨b4,0,none⟩=some (.int .i64 a9)∧w'.cell? ⟨b4,1,none⟩=some (.int .i64 aa)∧w'.cell? ⟨b4,2,none⟩=some (.int .i64 ab)∧w'.cell? ⟨ν,0,none⟩=some (.int .i64 b1)∧w'.cell? ⟨ν,1,none⟩=some (.int .i64 b2)) (ds:=[]) #[false,false,false,false,false,false,false,false,false] kr rfl rfl ⟨(Qa X.out 0).trans rfl,(Qa X.out 1).trans rfl,(Qa X.out 2).trans rfl,(Qa γ.out 0).trans rfl,(Qa γ.out 1).trans rfl⟩ (fun hHeld=>?_);refine Q8 call_change.Er call_change.Mw (fun HT_ HW_=>?_)
   generalize ey.drew=eh at Y Z X γ ε HB hHeld ⊢
   refine qP 0 (some 27) (bN 9 1) HT_ ?_
   refine qP 3 (some 30) (bN 9 9) HT_ ?_
   refine qT 1 (some 28) (bN 9 11) HT_ HW_ hHeld ?_
   refine qT 4 (some 31) (bN 9 27) HT_ HW_ hHeld ?_
   refine Zg (i:=2) (N:=some 29) (bN 9 31) rfl rfl (Q4 HT_.out kr) (by decide) (fun K hK=>?_)
   refine X5 HFU.out HNU.out HBU.out #[ru_] #[] #[.agg #[.int .i64 a9,.int .i64 aa,.int .i64 ab]] #[ru_,.agg #[.int .i64 a9,.int .i64 aa,.int .i64 ab]] rfl (by rfl) rfl rfl rfl qM ?_
   refine(HCU.out _ κ ca.out (by repeat(first|(with_reducible first|exact HB.out|apply Qq|apply Qj|apply Qi)|exact HB.out|(refine Qs ?_ (Aside0.out (by assumption)))))).mono ?_
   rintro e ci ⟨e4,rfl,ai,hb⟩
   refine⟨_,rfl, ?_⟩
   have be:=Aside0.mk (Kd.Zc (Kd.J4 ai (g:=b4) (o:=.cells #[.int .i64 a9,.int .i64 aa,.int .i64 ab] 36 (0,0)) X.out) (Qu HB.out))
   replace Y:=sBk Y hb
   replace Z:=sBk Z hb
   replace X:=sBk X hb
   replace γ:=sBk γ hb
   replace ε :=sBk ε hb
   replace HB:=sHb hb
   (try clear hb)
   (try clear a4)
   (try clear hk)
   (try clear hi)
   (try clear ai)
   refine hK.out _ _ ⟨qc X,qc X,qc X,qc γ,qc γ⟩ (fun hHeld=>?_)
   clear hK K
   refine qN (some 29) ?_
   refine Zg (i:=5) (N:=some 32) (bN 9 63) rfl rfl (Q4 HT_.out kr) (by decide) (fun K hK=>?_)
   refine X5 HFI.out HNI.out HBI.out #[ri_] #[] #[.agg #[.int .i64 b1,.int .i64 b2]] #[ri_,.agg #[.int .i64 b1,.int .i64 b2]] rfl (by rfl) rfl rfl rfl qM ?_
   refine(HCI.out _ a0 b3.out (by repeat(first|(with_reducible first|exact HB.out|apply Qq|apply Qj|apply Qi)|exact HB.out|(refine Qs ?_ (Aside0.out (by assumption)))))).mono ?_
   rintro e ej ⟨cf,rfl,ai,hb⟩
   refine⟨_,rfl, ?_⟩
   have b8:=Aside0.mk (Kd.Zc (Kd.J4 ai (g:= ν) (o:=.cells #[.int .i64 b1,.int .i64 b2] 86 (0,0)) γ.out) (Qu HB.out))
   replace be:=sRb be hb
   replace Y:=sBk Y hb
   replace Z:=sBk Z hb
   replace X:=sBk X hb
   replace γ:=sBk γ hb
   replace ε :=sBk ε hb
   replace HB:=sHb hb
   (try clear hb)
   (try clear a4)
   (try clear hk)
   (try clear hi)
   (try clear ai)
   obtain⟨cg,cj,br⟩:=Kd.Q9 b8.out
   (first|subst br|(injection br with aw bm ax;have bn:=aw.symm;have bo:=ax.symm;clear aw bm ax;subst bn;subst bo))
   obtain⟨bs,bu,bv⟩:=Kd.Q9 be.out
   (first|subst bv|(injection bv with aw bm ax;have bn:=aw.symm;have bo:=ax.symm;clear aw bm ax;subst bn;subst bo))
   refine hK.out _ _ ⟨qc X,qc X,qc X,qc γ,qc γ⟩ (fun hHeld=>?_)
   clear hK K
   refine qN (some 32) ?_
   refine qP 6 (some 33) (bN 9 127) HT_ ?_
   refine Zg (i:=7) (N:=none) (bN 9 255) rfl rfl (Q4 HT_.out kr) (by decide) (fun K hK=>?_)
   have e7:ej.cell? ⟨μ,0,none⟩=some (.slice none 0 0):=(Qa ε.out 0).trans rfl
   have dw:=Qr ε.out 0
   have ck:=ae.out
   have cm:=ag.out
   have cn:= ξ.out
   have co:=σ.out
   have cp:=af.out
   have cq:=ah.out
   have cr:=aj.out
   have cx:=a6.out
   have e8:ej.cell? ⟨μ,1,none⟩=some (.slice none 0 0):=(Qa ε.out 1).trans rfl
   have dx:=Qr ε.out 1
   have cy:=ae.out
   have cz:=ag.out
   have d3:= ξ.out
   have dd:=σ.out
   have df:=af.out
   have dk:=ah.out
   have dm:=aj.out
   have dn:=a6.out
   refine V7 (w1:=?_) (by rfl) rfl ?_ ?_
   rotate_left
   ·go_simp
    rfl
   refine hK.out _ _ ⟨((cell_far (p:=⟨μ,_,none⟩) ξ.out _).trans (((cell_far (p:=⟨μ,_,none⟩) ξ.out _).trans (hHeld.1)))),((cell_far (p:=⟨μ,_,none⟩) ξ.out _).trans (((cell_far (p:=⟨μ,_,none⟩) ξ.out _).trans (hHeld.2.1)))),((cell_far (p:=⟨μ,_,none⟩) ξ.out _).trans (((cell_far (p:=⟨μ,_,none⟩) ξ.out _).trans (hHeld.2.2.1)))),((cell_far (p:=⟨μ,_,none⟩) σ.out _).trans (((cell_far (p:=⟨μ,_,none⟩) σ.out _).trans (hHeld.2.2.2.1)))),((cell_far (p:=⟨μ,_,none⟩) σ.out _).trans (((cell_far (p:=⟨μ,_,none⟩) σ.out _).trans (hHeld.2.2.2.2))))⟩ (fun hHeld=>?_)
   clear hK K
   refine qP 8 (some 15) (bN 9 511) HT_ ?_
   refine Z2 (Zh HT_.out kr) ?_
   try go_wp2
   refine bodyPost_ret (Z5 rfl _ _ μ 50 #[.slice bs κ.length bu,.slice cg a0.length cj] (0,0) _ rfl (by refine Qm (cs:=#[.slice bs κ.length bu,.slice none 0 0]) ?_ 1 _ rfl;refine Qm (cs:=#[.slice none 0 0,.slice none 0 0]) ?_ 0 _ rfl;exact ε.out) Try.underlying50 rfl kr) rfl ?_
   exact⟨_,_,by first|rfl|(simp[Qh,Qg] <;> rfl)|(simp[*,Qh,Qg] <;> rfl),by(with_reducible repeat first|apply Kd.Qx|apply Kd.Qw|apply Kd.Q2);exact Kd.Q0 (Kd.Qv (Kd.Qv (Kd.Q7 be.out ε.out (by decide)) (fun _ hk=>hk.2) _) (fun _ hk=>hk.2) _) (fun _ hk=>trivial),by(with_reducible repeat first|apply Kd.Qx|apply Kd.Qw|apply Kd.Q2);exact Kd.Q0 (Kd.Qv (Kd.Qv (Kd.Q7 b8.out ε.out (by decide)) (fun _ hk=>hk.2) _) (fun _ hk=>hk.2) _) (fun _ hk=>trivial),bel⟩
  ·replace c10:=Bool.eq_false_iff.mpr c10
   subst c10
   have H1:(some (([]:List (S36)),([]:List (S86)),191))=some (r1,r2,r3):=by rw[if_neg (show ¬ (false=true) by decide)] at H;exact H
   clear H
   have H:=H1
   clear H1
   simp only[Option.some.injEq,Prod.mk.injEq] at H
   obtain⟨rfl,rfl,rfl⟩:=H
   go_enter Try.func73,Try.ntmps73
   go_wp2_with (first|((with_reducible refine Qe (N:=7) rfl ?_);refine qE 7 #[.int .i64 B,.int .i64 J] 59 ?_;intro ω hg ka hbox hb;have Y:=Aside0.mk hbox;have bf:=sGe hg;have bg:=sGe hg;replace HB:=sHb hb;clear hb hbox hg)|((with_reducible refine Qe (N:=8) rfl ?_);refine qE 8 #[.slice θ L.length δ,.slice ι O.length η] 50 ?_;intro ψ hg n3 hbox hb;have Z:=Aside0.mk hbox;have bi:=sGe hg;have bj:=sGe hg;have ρ:=sNl Y hg;have χ :=sNg Y hg;replace Y:=sBk Y hb;replace HB:=sHb hb;clear hb hbox hg)|((with_reducible refine Qe (N:=11) rfl ?_);refine qE 11 #[.int .i64 a9,.int .i64 aa,.int .i64 ab] 36 ?_;intro b4 hg kb hbox hb;have X:=Aside0.mk hbox;have bl:=sGe hg;have bp:=sGe hg;have ak:=sNl Y hg;have am:=sNg Y hg;have an:=sNl Z hg;have ao:=sNg Z hg;replace Y:=sBk Y hb;replace Z:=sBk Z hb;replace HB:=sHb hb;clear hb hbox hg)|((with_reducible refine Qe (N:=13) rfl ?_);refine qE 13 #[.int .i64 b1,.int .i64 b2] 86 ?_;intro ν hg g5 hbox hb;have γ:=Aside0.mk hbox;have bb:=sGe hg;have al:=sGe hg;have ap:=sNl Y hg;have ay:=sNg Y hg;have az:=sNl Z hg;have b0:=sNg Z hg;have b9:=sNl X hg;have ba:=sNg X hg;replace Y:=sBk Y hb;replace Z:=sBk Z hb;replace X:=sBk X hb;replace HB:=sHb hb;clear hb hbox hg)|((with_reducible refine Qe (N:=14) rfl ?_);refine qE 14 #[.slice none 0 0,.slice none 0 0] 50 ?_;intro μ hg iv hbox hb;have ε :=Aside0.mk hbox;have bc:=sGe hg;have b6:=sGe hg;have ae:=sNl Y hg;have af:=sNg Y hg;have ag:=sNl Z hg;have ah:=sNg Z hg;have ξ :=sNl X hg;have aj:=sNg X hg;have σ:=sNl γ hg;have a6:=sNg γ hg;replace Y:=sBk Y hb;replace Z:=sBk Z hb;replace X:=sBk X hb;replace γ:=sBk γ hb;replace HB:=sHb hb;clear hb hbox hg;have e0:=ρ.out;have i6:= χ.out;have d4:=ak.out;have de:=am.out;have lh:=ap.out;have ll:=ay.out;have mw:=ae.out;have my:=af.out;obtain⟨d8,fq,gz,h0⟩:=qD2 Y.out;have i5:=an.out;have ky:=ao.out;have jf:=az.out;have jg:=b0.out;have kl:=ag.out;have km:=ah.out;obtain⟨ek,el,em,en⟩:=qD2 Z.out)|((with_reducible refine Qd (f:=40) rfl ?_);refine Qn (some 19) rfl rfl Try.func40 kr rfl #[.agg #[.int .i64 B,.int .i64 J],.agg #[.slice θ L.length δ,.slice ι O.length η]] rfl qM ?_;(with_reducible refine(call_Check.calls k B J _ _ L _ _ O ζ _ ?side1 ?side2 ?side3 ?side4 A8.out).mono ?_);(case side1=>exact(Kd.Qp τ.out HB.out));(case side2=>exact a1.out);(case side3=>exact(Kd.Qp φ.out HB.out));(case side4=>exact a7.out);rintro e g6 ⟨rfl,hb⟩;refine⟨_,rfl, ?_⟩;replace Y:=sBk Y hb;replace Z:=sBk Z hb;replace X:=sBk X hb;replace γ:=sBk γ hb;replace ε :=sBk ε hb;replace HB:=sHb hb;(try clear hb);(try clear a4);(try clear hk);(try clear hi);have mz:=aj.out;have n0:= ξ.out;have jj:=a6.out;have jk:=σ.out;obtain⟨d5,d6,d7,ez⟩:=qD2 ε.out))
   refine bodyPost_ret (Z5 rfl _ _ μ 50 #[.slice none 0 0,.slice none 0 0] (0,0) _ rfl (by refine Qm (cs:=#[.slice none 0 0,.slice none 0 0]) ?_ 1 _ rfl;refine Qm (cs:=#[.slice none 0 0,.slice none 0 0]) ?_ 0 _ rfl;exact ε.out) Try.underlying50 rfl kr) rfl ?_
   exact⟨_,_,by first|rfl|(simp[Qh,Qg] <;> rfl)|(simp[*,Qh,Qg] <;> rfl),by first|exact Kd.Xw _ _ _ _ _|exact Kd.Yr _ _ _ _ _|exact Kd.Yn _ _ _ _ _|exact Kd.Yq _ _ _ _ _|exact Kd.Yo _ _ _ _ _,by first|exact Kd.Xw _ _ _ _ _|exact Kd.Yr _ _ _ _ _|exact Kd.Yn _ _ _ _ _|exact Kd.Yq _ _ _ _ _|exact Kd.Yo _ _ _ _ _,bel⟩
 ·rw[if_neg c9] at H
  have c9b0:(ζ == 0)=false:=beq_eq_false_iff_ne.mpr c9
  have c9b1:(ζ != 0)=true:=bne_iff_ne.mpr c9
  simp only[Option.some.injEq,Prod.mk.injEq] at H
  obtain⟨rfl,rfl,rfl⟩:=H
  go_enter Try.func73,Try.ntmps73
  go_wp2_with (first|((with_reducible refine Qe (N:=7) rfl ?_);refine qE 7 #[.int .i64 B,.int .i64 J] 59 ?_;intro ω hg dv hbox hb;have Y:=Aside0.mk hbox;have bf:=sGe hg;have bg:=sGe hg;replace HB:=sHb hb;clear hb hbox hg)|((with_reducible refine Qe (N:=8) rfl ?_);refine qE 8 #[.slice θ L.length δ,.slice ι O.length η] 50 ?_;intro ψ hg q2 hbox hb;have Z:=Aside0.mk hbox;have bi:=sGe hg;have bj:=sGe hg;have ρ:=sNl Y hg;have χ :=sNg Y hg;replace Y:=sBk Y hb;replace HB:=sHb hb;clear hb hbox hg)|((with_reducible refine Qe (N:=11) rfl ?_);refine qE 11 #[.int .i64 a9,.int .i64 aa,.int .i64 ab] 36 ?_;intro b4 hg q3 hbox hb;have X:=Aside0.mk hbox;have bl:=sGe hg;have bp:=sGe hg;have ak:=sNl Y hg;have am:=sNg Y hg;have an:=sNl Z hg;have ao:=sNg Z hg;replace Y:=sBk Y hb;replace Z:=sBk Z hb;replace HB:=sHb hb;clear hb hbox hg)|((with_reducible refine Qe (N:=13) rfl ?_);refine qE 13 #[.int .i64 b1,.int .i64 b2] 86 ?_;intro ν hg dl hbox hb;have γ:=Aside0.mk hbox;have bb:=sGe hg;have al:=sGe hg;have ap:=sNl Y hg;have ay:=sNg Y hg;have az:=sNl Z hg;have b0:=sNg Z hg;have b9:=sNl X hg;have ba:=sNg X hg;replace Y:=sBk Y hb;replace Z:=sBk Z hb;replace X:=sBk X hb;replace HB:=sHb hb;clear hb hbox hg)|((with_reducible refine Qe (N:=14) rfl ?_);refine qE 14 #[.slice none 0 0,.slice none 0 0] 50 ?_;intro μ hg q4 hbox hb;have ε :=Aside0.mk hbox;have bc:=sGe hg;have b6:=sGe hg;have ae:=sNl Y hg;have af:=sNg Y hg;have ag:=sNl Z hg;have ah:=sNg Z hg;have ξ :=sNl X hg;have aj:=sNg X hg;have σ:=sNl γ hg;have a6:=sNg γ hg;replace Y:=sBk Y hb;replace Z:=sBk Z hb;replace X:=sBk X hb;replace γ:=sBk γ hb;replace HB:=sHb hb;clear hb hbox hg;have dy:=ρ.out;have e3:= χ.out;have dz:=ak.out;have fe:=am.out;have fv:=ap.out;have fw:=ay.out;have hu:=ae.out;have hx:=af.out;obtain⟨he,hh,hj,hl⟩:=qD2 Y.out;have k8:=an.out;have k9:=ao.out;have ff:=az.out;have fg:=b0.out;have fk:=ag.out;have fl:=ah.out;obtain⟨bq,bz,cb,cd⟩:=qD2 Z.out)|((with_reducible refine Qd (f:=40) rfl ?_);refine Qn (some 19) rfl rfl Try.func40 kr rfl #[.agg #[.int .i64 B,.int .i64 J],.agg #[.slice θ L.length δ,.slice ι O.length η]] rfl qM ?_;(with_reducible refine(call_Check.calls k B J _ _ L _ _ O ζ _ ?side1 ?side2 ?side3 ?side4 A8.out).mono ?_);(case side1=>exact(Kd.Qp τ.out HB.out));(case side2=>exact a1.out);(case side3=>exact(Kd.Qp φ.out HB.out));(case side4=>exact a7.out);rintro e e9 ⟨rfl,hb⟩;refine⟨_,rfl, ?_⟩;replace Y:=sBk Y hb;replace Z:=sBk Z hb;replace X:=sBk X hb;replace γ:=sBk γ hb;replace ε :=sBk ε hb;replace HB:=sHb hb;(try clear hb);(try clear a4);(try clear hk);(try clear hi);have kn:=aj.out;have ko:= ξ.out;have n1:=a6.out;have na:=σ.out;obtain⟨dq,dr,dt,du⟩:=qD2 ε.out))
  refine bodyPost_ret (Z5 rfl _ _ μ 50 #[.slice none 0 0,.slice none 0 0] (0,0) _ rfl (by refine Qm (cs:=#[.slice none 0 0,.slice none 0 0]) ?_ 1 _ rfl;refine Qm (cs:=#[.slice none 0 0,.slice none 0 0]) ?_ 0 _ rfl;exact ε.out) Try.underlying50 rfl kr) rfl ?_
  exact⟨_,_,by first|rfl|(simp[Qh,Qg] <;> rfl)|(simp[*,Qh,Qg] <;> rfl),by first|exact Kd.Xw _ _ _ _ _|exact Kd.Yr _ _ _ _ _|exact Kd.Yn _ _ _ _ _|exact Kd.Yq _ _ _ _ _|exact Kd.Yo _ _ _ _ _,by first|exact Kd.Xw _ _ _ _ _|exact Kd.Yr _ _ _ _ _|exact Kd.Yn _ _ _ _ _|exact Kd.Yq _ _ _ _ _|exact Kd.Yo _ _ _ _ _,bel⟩
def call_Give.f (k:Nat) (B:Int) (J:Int) (L:List (S36)) (O:List (S86)) (Z:Int) (γ:Int) (ζ :Int):Option ((List (S36))×(List (S86))×Int):=(hallP.f Z γ ζ B J).bind fun ψ =>((call_change.f (setP_H.f Z γ ζ L) (woP_I.f (-2) 0 O) k B J L O ψ 0 Z γ ζ 0 (-2) 0).bind fun a2=>(some (a2.1,a2.2.1,a2.2.2)))
theorem call_Give.mono:∀ B O a2 a3 L a5 X k,LeO (call_Give.f k B O a2 a3 L a5 X) (call_Give.f (k+1) B O a2 a3 L a5 X):=by
 intro B O a2 a3 L a5 X k
 unfold call_Give.f
 repeat' first
   |(with_reducible exact call_change.mono _ _ _ _ _ _ _ _ _ _ _ _ _ _ _)
   |(with_reducible exact LeO.refl _)
   |(with_reducible exact LeO.none _)
   |(with_reducible refine LeO.ite ?_ ?_)
   |(with_reducible refine LeO.bind ?_ (fun _=>?_))
   |exact call_change.mono _ _ _ _ _ _ _ _ _ _ _ _ _ _ _
   |exact LeO.none _
   |refine LeO.ite ?_ ?_
   |refine LeO.bind ?_ (fun _=>?_)
def call_Give.T1:Bool×List (List Nat×List Nat):=(true,[([],[]),([],[]),([],[]),([2],[2]),([],[]),([3,4,3],[3,4]),([],[]),([6,5],[6]),([7],[7]),([],[]),([],[]),([10,7],[10]),([11],[11]),([],[]),([0,1,5,8,9,12,13,11],[0,1,5,8,9,12,13]),([14],[14]),([14],[14]),([15,14,0,1,2,3,4,5,6,7,8,9,10,11,12,13,14,15,16],[15]),([16,17,0,1,2,3,4,5,6,7,8,9,10,11,12,13,14,15,16,17],[16])])
def call_Give.B1:List Nat:=[0,0,0,4,0,28,0,124,252,0,0,1276,3324,0,16383,32767,32767,131071,262143]
theorem call_Give.Kv:rtab .any (opsOf Try.f51 1)=call_Give.T1:=by kernel_rfl
theorem call_Give.Jc:Zr call_Give.T1.2 call_Give.B1=true:=by kernel_rfl
set_option maxHeartbeats 8000000 in
set_option maxRecDepth 100000 in
theorem call_Give.calls (k:Nat) (B:Int) (J:Int) (θ :Option Addr) (δ :Nat) (L:List (S36)) (ι :Option Addr) (η :Nat) (O:List (S86)) (Z:Int) (γ:Int) (ζ :Int) (r1:List (S36)) (r2:List (S86)) (r3:Int) (w:World) (ac:Kd.C k36 w θ L.length L) (ar:L.length ≤ δ) (au:Kd.C k86 w ι O.length O) (av:O.length ≤ η) (h:call_Give.f k B J L O Z γ ζ = some (r1,r2,r3)):
  Calls Try.prog 51 #[.agg #[.int .i64 B,.int .i64 J],.agg #[.slice θ L.length δ,.slice ι O.length η],.agg #[.int .i64 Z,.int .i64 γ,.int .i64 ζ]] w fun e w'=>∃ bd fb:Value,e = .returned (.tuple #[.agg #[bd,fb],.int .i64 r3])∧Kd.R k36 36 w' w.heap.size (fun _=>True) bd r1∧Kd.R k86 86 w' w.heap.size (fun _=>True) fb r2∧Below w.heap.size w w':=by
 have d0:=Try.underlying59
 have f8:=Try.underlying50
 have dh:=Try.underlying36
 have dp:=Try.underlying86
 have τ :=Aside0.mk ac
 have a1:=Aside0.mk ar
 clear ac ar
 have φ :=Aside0.mk au
 have a7:=Aside0.mk av
 clear au av
 have HB:=Aside0.mk (Below.refl w.heap.size w)
 have H:((hallP.f Z γ ζ B J).bind fun ψ =>((call_change.f (setP_H.f Z γ ζ L) (woP_I.f (-2) 0 O) k B J L O ψ 0 Z γ ζ 0 (-2) 0).bind fun a2=>(some (a2.1,a2.2.1,a2.2.2))))=some (r1,r2,r3):=h
 clear h
 replace H:=Option.bind_eq_some_iff.mp H
 obtain⟨ψ,cg,H⟩:=H
 replace H:((call_change.f (setP_H.f Z γ ζ L) (woP_I.f (-2) 0 O) k B J L O ψ 0 Z γ ζ 0 (-2) 0).bind fun a2=>(some (a2.1,a2.2.1,a2.2.2)))=some (r1,r2,r3):=H
 have A4:=Aside0.mk cg
 clear cg
 replace H:=Option.bind_eq_some_iff.mp H
 obtain⟨⟨a0,a5,a8⟩,b3,H⟩:=H
 replace H:(some (a0,a5,a8))=some (r1,r2,r3):=H
 have A5:=Aside0.mk b3
 clear b3
 simp only[Option.some.injEq,Prod.mk.injEq] at H
 obtain⟨rfl,rfl,rfl⟩:=H
 go_enter Try.func51,Try.ntmps51
 try go_wp2_with (first|((with_reducible refine Qe (N:=3) rfl ?_);refine qE 3 #[.int .i64 B,.int .i64 J] 59 ?_;intro μ hg w6 hbox hb;have ε :=Aside0.mk hbox;have bc:=sGe hg;have b6:=sGe hg;replace HB:=sHb hb;clear hb hbox hg)|((with_reducible refine Qe (N:=4) rfl ?_);refine qE 4 #[.slice θ L.length δ,.slice ι O.length η] 50 ?_;intro Y hg w7 hbox hb;have X:=Aside0.mk hbox;have σ:=sGe hg;have b7:=sGe hg;have al:=sNl ε hg;have am:=sNg ε hg;replace ε :=sBk ε hb;replace HB:=sHb hb;clear hb hbox hg)|((with_reducible refine Qe (N:=5) rfl ?_);refine qE 5 #[.int .i64 Z,.int .i64 γ,.int .i64 ζ] 36 ?_;intro ab hg w8 hbox hb;have κ :=Aside0.mk hbox;have bq:=sGe hg;have br:=sGe hg;have an:=sNl ε hg;have ao:=sNg ε hg;have ap:=sNl X hg;have ay:=sNg X hg;replace ε :=sBk ε hb;replace X:=sBk X hb;replace HB:=sHb hb;clear hb hbox hg)|((with_reducible refine Qe (N:=6) rfl ?_);refine qE 6 #[.slice none 0 0,.slice none 0 0] 50 ?_;intro ξ hg w9 hbox hb;have ν :=Aside0.mk hbox;have bs:=sGe hg;have bu:=sGe hg;have χ :=sNl ε hg;have a6:=sNg ε hg;have ω :=sNl X hg;have a9:=sNg X hg;have ρ:=sNl κ hg;have aa:=sNg κ hg;replace ε :=sBk ε hb;replace X:=sBk X hb;replace κ :=sBk κ hb;replace HB:=sHb hb;clear hb hbox hg))
 replace ε :=Aside0.mk (Qf ε.out)
 replace X:=Aside0.mk (Qf X.out)
 replace κ :=Aside0.mk (Qf κ.out)
 replace ν :=Aside0.mk (Qf ν.out)
 replace HB:=Aside0.mk (Qi HB.out)
 refine Zl (n:=19) (S:=fun w'=>w'.cell? ⟨μ,0,none⟩=some (.int .i64 B)∧w'.cell? ⟨μ,1,none⟩=some (.int .i64 J)∧w'.cell? ⟨Y,0,none⟩=some (.slice θ L.length δ)∧w'.cell? ⟨Y,1,none⟩=some (.slice ι O.length η)∧w'.cell? ⟨ab,0,none⟩=some (.int .i64 Z)∧w'.cell? ⟨ab,1,none⟩=some (.int .i64 γ)∧w'.cell? ⟨ab,2,none⟩=some (.int .i64 ζ)) (ds:=[]) #[false,false,false,false,false,false,false,false,false,false,false,false,false,false,false,false,false,false,false] kr rfl rfl ⟨(Qa ε.out 0).trans rfl,(Qa ε.out 1).trans rfl,(Qa X.out 0).trans rfl,(Qa X.out 1).trans rfl,(Qa κ.out 0).trans rfl,(Qa κ.out 1).trans rfl,(Qa κ.out 2).trans rfl⟩ (fun hHeld=>?_);refine Q8 call_Give.Kv call_Give.Jc (fun HT_ HW_=>?_)
 generalize w9.drew=fg at ε X κ ν HB hHeld ⊢
 refine qP 13 (some 21) (bN 19 8192) HT_ ?_
 refine qT 0 (some 8) (bN 19 8193) HT_ HW_ hHeld ?_
 refine qT 1 (some 9) (bN 19 8195) HT_ HW_ hHeld ?_
 refine qT 2 (some 10) (bN 19 8199) HT_ HW_ hHeld ?_
 refine qT 4 (some 12) (bN 19 8215) HT_ HW_ hHeld ?_
 refine qT 6 (some 14) (bN 19 8279) HT_ HW_ hHeld ?_
 refine qT 9 (some 17) (bN 19 8791) HT_ HW_ hHeld ?_
 refine qT 10 (some 18) (bN 19 9815) HT_ HW_ hHeld ?_
 refine Zg (i:=3) (N:=some 11) (bN 19 9823) rfl rfl (Q4 HT_.out kr) (by decide) (fun K hK=>?_)
 refine Zf Try.func65 kr rfl #[.agg #[.int .i64 B,.int .i64 J]] (by rfl) rfl rfl qM ?_
 refine(Jk B J _).mono ?_
 rintro e b0 ⟨ae,rfl,hgp,hgw,hb⟩
 have ag:=Aside0.mk hgp
 clear hgp hgw
 refine⟨_,rfl, ?_⟩
 replace ε :=sBk ε hb
 replace X:=sBk X hb
 replace κ :=sBk κ hb
 replace ν :=sBk ν hb
 replace HB:=sHb hb
 (try clear hb)
 (try clear a4)
 (try clear hk)
 (try clear hi)
 refine hK.out _ _ ⟨qc ε,qc ε,qc X,qc X,qc κ,qc κ,qc κ⟩ (fun hHeld=>?_)
 clear hK K
 refine qN (some 11) ?_
 refine Zg (i:=5) (N:=some 13) (bN 19 9855) rfl rfl (Q4 HT_.out kr) (by decide) (fun K hK=>?_)
 refine X5 Try.func82 kr rfl #[] #[.pointer (some ⟨ae,0,none⟩)] #[.agg #[.int .i64 Z,.int .i64 γ,.int .i64 ζ]] #[.agg #[.int .i64 Z,.int .i64 γ,.int .i64 ζ],.pointer (some ⟨ae,0,none⟩)] rfl (by rfl) rfl rfl rfl qM ?_
 refine(Gi B J Z γ ζ ψ _ (Option.some.inj A4.out) ae ag.out).mono ?_
 rintro e ez ⟨rfl,hb⟩
 refine⟨_,rfl, ?_⟩
 replace ε :=sBk ε hb
 replace X:=sBk X hb
 replace κ :=sBk κ hb
 replace ν :=sBk ν hb
 replace HB:=sHb hb
 (try clear hb)
 (try clear a4)
 (try clear hk)
 (try clear hi)
 refine hK.out _ _ ⟨qc ε,qc ε,qc X,qc X,qc κ,qc κ,qc κ⟩ (fun hHeld=>?_)
 clear hK K
 refine qN (some 13) ?_
 refine Zg (i:=7) (N:=some 15) (bN 19 9983) rfl rfl (Q4 HT_.out kr) (by decide) (fun K hK=>?_)
 refine Zf Try.func63 kr rfl #[.agg #[.slice θ L.length δ,.slice ι O.length η]] (by rfl) rfl rfl qM ?_
 refine(Jy θ ι L.length O.length δ η _).mono ?_
 rintro e b1 ⟨rfl,hb⟩
 refine⟨_,rfl, ?_⟩
 replace ε :=sBk ε hb
 replace X:=sBk X hb
 replace κ :=sBk κ hb
 replace ν :=sBk ν hb
 replace HB:=sHb hb
 (try clear hb)
 (try clear a4)
 (try clear hk)
 (try clear hi)
 refine hK.out _ _ ⟨qc ε,qc ε,qc X,qc X,qc κ,qc κ,qc κ⟩ (fun hHeld=>?_)
 clear hK K
 refine qN (some 15) ?_
 refine qP 8 (some 16) (bN 19 10239) HT_ ?_
 refine Zg (i:=11) (N:=some 19) (bN 19 12287) rfl rfl (Q4 HT_.out kr) (by decide) (fun K hK=>?_)
 refine Zf Try.func66 kr rfl #[.agg #[.slice θ L.length δ,.slice ι O.length η]] (by rfl) rfl rfl qM ?_
 refine(K9 θ ι L.length O.length δ η _).mono ?_
 rintro e b2 ⟨rfl,hb⟩
 refine⟨_,rfl, ?_⟩
 replace ε :=sBk ε hb
 replace X:=sBk X hb
 replace κ :=sBk κ hb
 replace ν :=sBk ν hb
 replace HB:=sHb hb
 (try clear hb)
 (try clear a4)
 (try clear hk)
 (try clear hi)
 refine hK.out _ _ ⟨qc ε,qc ε,qc X,qc X,qc κ,qc κ,qc κ⟩ (fun hHeld=>?_)
 clear hK K
 refine qN (some 19) ?_
 refine qP 12 (some 20) (bN 19 16383) HT_ ?_
 refine Zg (i:=14) (N:=some 22) (bN 19 32767) rfl rfl (Q4 HT_.out kr) (by decide) (fun K hK=>?_)
 refine Zf Try.func73 kr rfl #[.agg #[.int .i64 B,.int .i64 J],.agg #[.slice θ L.length δ,.slice ι O.length η],.bool ψ,.func (.func 74) #[.agg #[.slice θ L.length δ,.func (.func 79) #[] #[]]] #[],.agg #[.int .i64 Z,.int .i64 γ,.int .i64 ζ],.func (.func 75) #[.agg #[.slice ι O.length η,.func (.func 83) #[] #[]]] #[],.agg #[.int .i64 (-2),.int .i64 0]] (by rfl) rfl rfl qM ?_
 refine(call_change.calls _ _ k B J θ δ L ι η O ψ 0 Z γ ζ 0 (-2) 0 a0 a5 a8 _ ?side1 ?side2 ?side3 ?side4 A5.out 74 Try.f74 (.agg #[.slice θ L.length δ,.func (.func 79) #[] #[]]) Try.func74 kr rfl (fun W t ht hb=>Vh θ δ L _ _ _ t W (Kd.Qp (Kd.Qp τ.out (by repeat(first|(with_reducible first|exact HB.out|apply Qq|apply Qj|apply Qi)|exact HB.out|(refine Qs ?_ (Aside0.out (by assumption)))))) hb) a1.out ht) 75 Try.f75 (.agg #[.slice ι O.length η,.func (.func 83) #[] #[]]) Try.func75 kr rfl (fun W t ht hb=>V3 ι η O _ _ t W (Kd.Qp (Kd.Qp φ.out (by repeat(first|(with_reducible first|exact HB.out|apply Qq|apply Qj|apply Qi)|exact HB.out|(refine Qs ?_ (Aside0.out (by assumption)))))) hb) a7.out ht)).mono ?_
 (case side1=>exact(Kd.Qp τ.out HB.out))
 (case side2=>exact a1.out)
 (case side3=>exact(Kd.Qp φ.out HB.out))
 (case side4=>exact a7.out)
 rintro e er ⟨cf,bz,rfl,ai,b4,hb⟩
 refine⟨_,rfl, ?_⟩
 have b8:=Aside0.mk (Kd.Zc (Kd.J4 ai (g:=ab) (o:=.cells #[.int .i64 Z,.int .i64 γ,.int .i64 ζ] 36 (0,0)) κ.out) (Qu HB.out))
 have ah:=Aside0.mk (Kd.Zc b4 (Qu HB.out))
 replace ε :=sBk ε hb
 replace X:=sBk X hb
 replace κ :=sBk κ hb
 replace ν :=sBk ν hb
 replace HB:=sHb hb
 (try clear hb)
 (try clear a4)
 (try clear hk)
 (try clear hi)
 (try clear ai)
 (try clear b4)
 obtain⟨ba,a3,bl⟩:=Kd.Q9 b8.out
 (first|subst bl|(injection bl with aw bm ax;have bn:=aw.symm;have bo:=ax.symm;clear aw bm ax;subst bn;subst bo))
 obtain⟨aj,ak,af⟩:=Kd.Q9 ah.out
 (first|subst af|(injection af with aw bm ax;have bn:=aw.symm;have bo:=ax.symm;clear aw bm ax;subst bn;subst bo))
 refine hK.out _ _ ⟨qc ε,qc ε,qc X,qc X,qc κ,qc κ,qc κ⟩ (fun hHeld=>?_)
 clear hK K
 refine qN (some 22) ?_
 refine qP 15 (some 23) (bN 19 65535) HT_ ?_
 refine qP 16 (some 24) (bN 19 131071) HT_ ?_
 refine Zg (i:=17) (N:=none) (bN 19 262143) rfl rfl (Q4 HT_.out kr) (by decide) (fun K hK=>?_)
 have ca:er.cell? ⟨ξ,0,none⟩=some (.slice none 0 0):=(Qa ν.out 0).trans rfl
 have bv:=Qr ν.out 0
 have az:= χ.out
 have b5:= ω.out
 have b9:=ρ.out
 have bb:=a6.out
 have be:=a9.out
 have bf:=aa.out
 have cb:er.cell? ⟨ξ,1,none⟩=some (.slice none 0 0):=(Qa ν.out 1).trans rfl
 have bw:=Qr ν.out 1
 have bg:= χ.out
 have bh:= ω.out
 have bi:=ρ.out
 have bj:=a6.out
 have bk:=a9.out
 have bp:=aa.out
 refine V7 (w1:=?_) (by rfl) rfl ?_ ?_
 rotate_left
 ·go_simp
  rfl
 refine hK.out _ _ ⟨((cell_far (p:=⟨ξ,_,none⟩) χ.out _).trans (((cell_far (p:=⟨ξ,_,none⟩) χ.out _).trans (hHeld.1)))),((cell_far (p:=⟨ξ,_,none⟩) χ.out _).trans (((cell_far (p:=⟨ξ,_,none⟩) χ.out _).trans (hHeld.2.1)))),((cell_far (p:=⟨ξ,_,none⟩) ω.out _).trans (((cell_far (p:=⟨ξ,_,none⟩) ω.out _).trans (hHeld.2.2.1)))),((cell_far (p:=⟨ξ,_,none⟩) ω.out _).trans (((cell_far (p:=⟨ξ,_,none⟩) ω.out _).trans (hHeld.2.2.2.1)))),((cell_far (p:=⟨ξ,_,none⟩) ρ.out _).trans (((cell_far (p:=⟨ξ,_,none⟩) ρ.out _).trans (hHeld.2.2.2.2.1)))),((cell_far (p:=⟨ξ,_,none⟩) ρ.out _).trans (((cell_far (p:=⟨ξ,_,none⟩) ρ.out _).trans (hHeld.2.2.2.2.2.1)))),((cell_far (p:=⟨ξ,_,none⟩) ρ.out _).trans (((cell_far (p:=⟨ξ,_,none⟩) ρ.out _).trans (hHeld.2.2.2.2.2.2))))⟩ (fun hHeld=>?_)
 clear hK K
 refine qP 18 (some 7) (bN 19 524287) HT_ ?_
 refine Z2 (Zh HT_.out kr) ?_
 try go_wp2
 refine bodyPost_ret (Z5 rfl _ _ ξ 50 #[.slice ba a0.length a3,.slice aj a5.length ak] (0,0) _ rfl (by refine Qm (cs:=#[.slice ba a0.length a3,.slice none 0 0]) ?_ 1 _ rfl;refine Qm (cs:=#[.slice none 0 0,.slice none 0 0]) ?_ 0 _ rfl;exact ν.out) Try.underlying50 rfl kr) rfl ?_
 exact⟨_,_,by first|rfl|(simp[Qh,Qg] <;> rfl)|(simp[*,Qh,Qg] <;> rfl),by(with_reducible repeat first|apply Kd.Qx|apply Kd.Qw|apply Kd.Q2);exact Kd.Q0 (Kd.Qv (Kd.Qv (Kd.Q7 b8.out ν.out (by decide)) (fun _ hk=>hk.2) _) (fun _ hk=>hk.2) _) (fun _ hk=>trivial),by(with_reducible repeat first|apply Kd.Qx|apply Kd.Qw|apply Kd.Q2);exact Kd.Q0 (Kd.Qv (Kd.Qv (Kd.Q7 ah.out ν.out (by decide)) (fun _ hk=>hk.2) _) (fun _ hk=>hk.2) _) (fun _ hk=>trivial),bel⟩
end Go.Proofs.Ytmfffemidlhcpaa.C
namespace Go.Proofs.Ytmfffemidlhcpaa.Call
open Go.RowKit Go.Proofs.YtmfffemidlhcpaaW.PrintWords Go.Proofs.YtmfffemidlhcpaaW.PrintLast Go.Proofs.YtmfffemidlhcpaaW.PrintMore Go.Proofs.Ytmfffemidlhcpaa.C
set_option linter.unusedVariables false
set_option linter.unusedSimpArgs false
abbrev Hall:=S36
abbrev Ins:=S86
def i64 (x:Int):Prop:= -9223372036854775808≤x∧x≤9223372036854775807
theorem Xf (a lo hi:Int):call_within.f a lo hi=some (decide (lo≤a∧a≤hi)):=by
  unfold call_within.f
  by_cases h:lo≤a <;> simp[h]
def okB (F C:Int) (H:List Hall) (I:List Ins):Bool:=decide (2≤F∧F≤64)&&(decide (1≤C∧C≤8)&&(Zi (fun x=>Xe F C x.f0 x.f1 x.f2) ltH none H&&Zi (fun x=>J0 F C x.f0 x.f1) ltI none I))
theorem J8 {n:Nat} {C:Int} (h:n<1000000000) (hC:i64 C):small n C=true:=decide_eq_true ⟨h,hC.1,hC.2⟩
theorem Ym (k:Nat) (F C:Int) (H:List Hall) (I:List Ins) (hH:H.length<900000000) (hI:I.length<900000000) (hC:i64 C):call_Check.f (k+1) F C H I=some (if okB F C H I=true then 0 else 190):=by
  unfold call_Check.f rightP_H.f rightP_I.f okB
  rw[Xf,Xf,if_pos (J8 (by omega) hC),if_pos (J8 (by omega) hC)]
  simp only[Option.bind_some]
  cases decide (2≤F∧F≤64) <;> cases decide (1≤C∧C≤8) <;> cases Zi (fun x:Hall=>Xe F C x.f0 x.f1 x.f2) ltH none H <;> cases Zi (fun x:Ins=>J0 F C x.f0 x.f1) ltI none I <;> simp[call_Check.j0]
theorem Lw (U:Option (List Hall)) (V:Option (List Ins)) (k:Nat) (F C:Int) (H:List Hall) (I:List Ins) (is:Bool) (a3 B J L a5 O X:Int) (hH:H.length<900000000) (hI:I.length<900000000) (hC:i64 C):
    call_change.f U V (k+1) F C H I is a3 B J L a5 O X=if okB F C H I=true then (if is=true then U.bind fun a=>V.bind fun b=>some (a,b,0) else some ([],[],191)) else some ([],[],190):=by
  unfold call_change.f
  rw[Ym k F C H I hH hI hC]
  cases okB F C H I <;> simp
theorem Ge {F C:Int} {H:List Hall} {I:List Ins}:okB F C H I=true↔((2≤F∧F≤64)∧(1≤C∧C≤8)∧((∀ x ∈ H,Xe F C x.f0 x.f1 x.f2=true)∧H.Pairwise (fun x y=>ltH x y=true))∧((∀ x ∈ I,J0 F C x.f0 x.f1=true)∧I.Pairwise (fun x y=>ltI x y=true))):=by
  unfold okB
  simp only[Bool.and_eq_true,decide_eq_true_eq]
  rw[Jh,Ue]
theorem Wj (x:Int) (h:1≤x∧x≤64):wrap64 (x-1)=x-1:=by unfold wrap64;omega
theorem Ur {F C:Int} {B J O:Int} (hF:2≤F∧F≤64) (hC:1≤C∧C≤8):Xe F C B J O=true↔((J=1∨J = -1)∧(0≤B∧B≤F-1)∧(0≤B+J∧B+J≤F-1)∧(-1≤O∧O≤C-1)):=by
  unfold Xe
  rw[decide_eq_true_eq,Wj F (by omega),Wj C (by omega)]
  constructor
  · rintro⟨h1,L,h3,Y⟩
    rw[show wrap64 (B+J)=B+J from by unfold wrap64;omega] at h3
    exact⟨h1,L,h3,Y⟩
  · rintro⟨h1,L,h3,Y⟩
    rw[show wrap64 (B+J)=B+J from by unfold wrap64;omega]
    exact⟨h1,L,h3,Y⟩
theorem N1 {F C:Int} {B J:Int} (hF:2≤F∧F≤64) (hC:1≤C∧C≤8):J0 F C B J=true↔((0≤B∧B≤C-1)∧(0≤J∧J≤F-1)):=by
  unfold J0
  rw[decide_eq_true_eq,Wj F (by omega),Wj C (by omega)]
theorem Uc {F C:Int} {H:List Hall} {I:List Ins} (h:okB F C H I=true):Zi (fun _=>true) ltH none H=true:=(Jh _ _).2 ⟨fun _ _=>rfl,(Ge.1 h).2.2.1.2⟩
theorem L2 {F C:Int} {H:List Hall} {I:List Ins} (h:okB F C H I=true) (B J:Int) (hx:B<0):woI B J I=I:=by
  obtain⟨hF,hC,_,h1,_⟩:=Ge.1 h
  unfold woI
  rw[List.filter_eq_self]
  intro y hy
  have:=(N1 hF hC).1 (h1 y hy)
  have hne:¬ Ya B J y.f0 y.f1=0:=by rw[Ky];omega
  simp[hne]
def Us (F C:Int) (H:List Hall) (I:List Ins) (fl dir car:Int):List Hall×List Ins×Int:=
  if okB F C H I=true then (if Xe F C fl dir car=true then (Vg ⟨fl,dir,car⟩ H,I,0) else ([],[],191)) else ([],[],190)
theorem N6 (k:Nat) (F C:Int) (H:List Hall) (I:List Ins) (fl dir car:Int) (hH:H.length<900000000) (hI:I.length<900000000) (hC:i64 C) (hd:i64 dir):
    call_Give.f (k+1) F C H I fl dir car=some (Us F C H I fl dir car):=by
  unfold call_Give.f hallP.f Us
  rw[Option.bind_some,Lw _ _ k F C H I _ _ _ _ _ _ _ _ hH hI hC]
  cases hok:okB F C H I
  · rfl
  · cases hb:Xe F C fl dir car
    · rfl
    · simp only[eq_self,if_true]
      unfold setP_H.f woP_I.f
      rw[if_pos ⟨J8 (by omega) hd,Uc hok⟩,if_pos (J8 (by omega) (by unfold i64;omega)),L2 hok _ _ (by omega)]
      rfl
theorem U3 (k:Nat) {F C:Int} (B J O:Int) (hF:2≤F∧F≤64) (hC:1≤C∧C≤8):newelref19_Hall.f (k+1) F C B J O=some (Xe F C B J O):=by
  have hb:=Ur (F:=F) (C:=C) (B:=B) (J:=J) (O:=O) hF hC
  have w1:wrap64 (F-2)=F-2:=by unfold wrap64;omega
  have w2:wrap64 (F-1)=F-1:=by unfold wrap64;omega
  have tt:∀ p:Prop,[Decidable p]→(p↔((J=1∨J = -1)∧(0≤B∧B≤F-1)∧(0≤B+J∧B+J≤F-1)∧(-1≤O∧O≤C-1)))→(some (decide p):Option Bool)=some (Xe F C B J O):=by
    intro p _ hp
    congr 1
    cases h:Xe F C B J O
    · rw[h] at hb
      exact decide_eq_false (fun q=>Bool.noConfusion (hb.2 (hp.1 q)))
    · exact decide_eq_true (hp.2 (hb.1 h))
  have ff:¬ ((J=1∨J = -1)∧(0≤B∧B≤F-1)∧(0≤B+J∧B+J≤F-1)∧(-1≤O∧O≤C-1))→(some false:Option Bool)=some (Xe F C B J O):=fun h=>tt False ⟨False.elim,h⟩
  have j:∀ b:Bool,b=decide (O < -1∨O≥C)→newelref19_Hall.j0 (k+1) b F C B J O=some (Xe F C B J O):=by
    intro b hbb
    simp only[newelref19_Hall.j0]
    rw[w1,w2]
    by_cases X:O < -1∨O≥C
    · rw[hbb,decide_eq_true X,if_pos rfl]
      exact ff (by omega)
    · rw[hbb,decide_eq_false X,if_neg (by decide)]
      by_cases h1:J=1
      · rw[if_pos h1]
        by_cases L:B≥0
        · rw[if_pos L]
          exact tt _ (by omega)
        · rw[if_neg L]
          exact ff (by omega)
      · rw[if_neg h1]
        by_cases L:J = -1
        · rw[if_pos L]
          by_cases h3:B≥1
          · rw[if_pos h3]
            exact tt _ (by omega)
          · rw[if_neg h3]
            exact ff (by omega)
        · rw[if_neg L]
          exact ff (by omega)
  unfold newelref19_Hall.f
  by_cases h:O < -1
  · rw[if_pos h]
    exact j _ (decide_eq_true (.inl h)).symm
  · rw[if_neg h]
    exact j _ (by rw[decide_eq_decide];omega)
theorem Uk (k:Nat) {F C:Int} (B J O:Int) (hF:2≤F∧F≤64) (hC:1≤C∧C≤8) (hk:0<k):newelref19_Hall.f k F C B J O=some (Xe F C B J O):=by
  obtain⟨k,rfl⟩:∃ m,k=m+1:=⟨k-1,by omega⟩
  exact U3 k B J O hF hC
end Go.Proofs.Ytmfffemidlhcpaa.Call
namespace Go.Proofs.Ytmfffemidlhcpaa.C
open Go.RowKit Go.Proofs.YtmfffemidlhcpaaW.PrintWords Go.Proofs.YtmfffemidlhcpaaW.PrintLast Go.Proofs.YtmfffemidlhcpaaW.PrintMore
attribute [local go_sem] Zz Zx Z9 Z8 Zq Zp Zy Zw
set_option linter.unusedVariables false
set_option linter.unusedSimpArgs false
def group_hall.f (k:Nat) (B:Int) (J:Int) (O:Int) (X:Int) (δ :Int):Option (Bool):=(call_Give.f k B J ([]:List (S36)) ([]:List (S86)) O X δ).bind fun Z=>(some (Z.2.2==0))
theorem group_hall.mono:∀ B O a2 a3 L k,LeO (group_hall.f k B O a2 a3 L) (group_hall.f (k+1) B O a2 a3 L):=by
 intro B O a2 a3 L k
 unfold group_hall.f
 repeat' first
   |(with_reducible exact call_Give.mono _ _ _ _ _ _ _ _)
   |(with_reducible exact LeO.refl _)
   |(with_reducible exact LeO.none _)
   |(with_reducible refine LeO.ite ?_ ?_)
   |(with_reducible refine LeO.bind ?_ (fun _=>?_))
   |exact call_Give.mono _ _ _ _ _ _ _ _
   |exact LeO.none _
   |refine LeO.ite ?_ ?_
   |refine LeO.bind ?_ (fun _=>?_)
set_option maxHeartbeats 8000000 in
set_option maxRecDepth 100000 in
theorem group_hall.calls (k:Nat) (B:Int) (J:Int) (O:Int) (X:Int) (δ :Int) (r:Bool) (w:World) (h:group_hall.f k B J O X δ = some r):
  Calls Try.prog 30 #[.agg #[.int .i64 B,.int .i64 J],.agg #[.int .i64 O,.int .i64 X,.int .i64 δ]] w fun e w'=>e = .returned (.bool r)∧Below w.heap.size w w':=by
 have d0:=Try.underlying59
 have dh:=Try.underlying36
 have f8:=Try.underlying50
 have HB:=Aside0.mk (Below.refl w.heap.size w)
 have H:((call_Give.f k B J ([]:List (S36)) ([]:List (S86)) O X δ).bind fun Z=>(some (Z.2.2==0)))=some r:=h
 clear h
 replace H:=Option.bind_eq_some_iff.mp H
 obtain⟨⟨χ,a1,ν⟩,aa,H⟩:=H
 replace H:(some (ν == 0))=some r:=H
 have A3:=Aside0.mk aa
 clear aa
 obtain rfl:=Option.some.inj H
 go_enter Try.func30,Try.ntmps30
 go_wp2_with (first|((with_reducible refine Qe (N:=2) rfl ?_);refine qE 2 #[.int .i64 B,.int .i64 J] 59 ?_;intro a2 hg w4 hbox hb;have L:=Aside0.mk hbox;have a3:=sGe hg;have a5:=sGe hg;replace HB:=sHb hb;clear hb hbox hg)|((with_reducible refine Qe (N:=3) rfl ?_);refine qE 3 #[.int .i64 O,.int .i64 X,.int .i64 δ] 36 ?_;intro ρ hg w5 hbox hb;have Y:=Aside0.mk hbox;have a6:=sGe hg;have a7:=sGe hg;have ζ :=sNl L hg;have η :=sNg L hg;replace L:=sBk L hb;replace HB:=sHb hb;clear hb hbox hg;have ao:= ζ.out;have ap:= η.out;obtain⟨ψ,ω,a0,bb⟩:=qD2 L.out;obtain⟨br,bv,cp,cu,cv,cw⟩:=qD3 Y.out)|((with_reducible refine Qd (f:=51) rfl ?_);refine Qn (some 11) rfl rfl Try.func51 kr rfl #[.agg #[.int .i64 B,.int .i64 J],.agg #[.slice none 0 0,.slice none 0 0],.agg #[.int .i64 O,.int .i64 X,.int .i64 δ]] rfl qM ?_;(refine(call_Give.calls k B J _ _ ([]:List (S36)) _ _ ([]:List (S86)) O X δ χ a1 ν _ ?side1 ?side2 ?side3 ?side4 A3.out).mono ?_);(case side1=>exact Kd.Jd _ _);(case side2=>exact Nat.le_refl _);(case side3=>exact Kd.Jd _ _);(case side4=>exact Nat.le_refl _);rintro e w9 ⟨ac,ae,rfl,ai,b4,hb⟩;refine⟨_,rfl, ?_⟩;have γ:=Aside0.mk (Kd.Zc (Kd.J4 ai (g:=ρ) (o:=.cells #[.int .i64 O,.int .i64 X,.int .i64 δ] 36 (0,0)) Y.out) (Qu HB.out));have ε :=Aside0.mk (Kd.Zc b4 (Qu HB.out));replace L:=sBk L hb;replace Y:=sBk Y hb;replace HB:=sHb hb;(try clear hb);(try clear a4);(try clear hk);(try clear hi);(try clear ai);(try clear b4))|((with_reducible refine Qe (N:=5) rfl ?_);refine qE 5 #[.slice none 0 0,.slice none 0 0] 50 ?_;intro a8 hg fg hbox hb;have σ:=Aside0.mk hbox;have a9:=sGe hg;have ab:=sGe hg;have θ :=sNl L hg;have ι :=sNg L hg;have κ :=sNl Y hg;have μ :=sNg Y hg;replace γ:=sRb γ hb;replace ε :=sRb ε hb;replace L:=sBk L hb;replace Y:=sBk Y hb;replace HB:=sHb hb;clear hb hbox hg;obtain⟨τ,φ,ξ⟩:=Kd.Q9 γ.out;subst ξ;have fe:= ι.out;have ff:= θ.out;have ip:= μ.out;have iq:= κ.out;obtain⟨bg,bh,bi,bj⟩:=qD2 σ.out;obtain⟨aj,ak,af⟩:=Kd.Q9 ε.out;subst af))
 go_ret
 exact⟨by first|rfl|(simp[Qh,Qg] <;> rfl)|(simp[*,Qh,Qg] <;> rfl),bel⟩
def group_Cost.f (k:Nat) (B:Int) (J:Int) (L:Int) (Y:Int) (Z:Int) (ε :Int) (γ:Int) (θ :Int) (ζ :Int) (η :Int) (O:Int) (X:Int) (δ :Int) (κ :Int) (ι :Int) (μ :Int) (ν :Int) (ξ :Int) (ψ :Bool) (ω :Bool) (σ:List Int) (τ :List Int) (φ :List Int) (a2:Int) (a5:Int) (a6:Int):Option (Int×Int):=(group_lift.f k B J L Y Z ε γ θ ζ η O X δ κ ι μ ν ξ ψ ω).bind fun bq=>(if bq=true then ((collect_Check.f k B 0 0 false false σ τ φ).bind fun af=>(if af=0 then ((group_hall.f k B 8 a2 a5 a6).bind fun b4=>(if b4=true then ((group_cost.f k B J L Y Z ε γ θ ζ η O X δ κ ι μ ν ξ ψ ω σ τ φ a2 a5 a6).bind fun az=>(some (az,0))) else (some (0,210)))) else (some (0,210)))) else (some (0,210)))
theorem group_Cost.mono:∀ B O a2 a3 L a5 X a7 a8 a9 Y Z γ ε δ ζ η J θ ι κ μ ν ξ ρ σ k,LeO (group_Cost.f k B O a2 a3 L a5 X a7 a8 a9 Y Z γ ε δ ζ η J θ ι κ μ ν ξ ρ σ) (group_Cost.f (k+1) B O a2 a3 L a5 X a7 a8 a9 Y Z γ ε δ ζ η J θ ι κ μ ν ξ ρ σ):=by
 intro B O a2 a3 L a5 X a7 a8 a9 Y Z γ ε δ ζ η J θ ι κ μ ν ξ ρ σ k
 unfold group_Cost.f
 repeat' first
   |(with_reducible exact collect_Check.mono _ _ _ _ _ _ _ _ _)
   |(with_reducible exact group_cost.mono _ _ _ _ _ _ _ _ _ _ _ _ _ _ _ _ _ _ _ _ _ _ _ _ _ _ _)
   |(with_reducible exact group_hall.mono _ _ _ _ _ _)
   |(with_reducible exact group_lift.mono _ _ _ _ _ _ _ _ _ _ _ _ _ _ _ _ _ _ _ _ _)
   |(with_reducible exact LeO.refl _)
   |(with_reducible exact LeO.none _)
   |(with_reducible refine LeO.ite ?_ ?_)
   |(with_reducible refine LeO.bind ?_ (fun _=>?_))
   |exact collect_Check.mono _ _ _ _ _ _ _ _ _
   |exact group_cost.mono _ _ _ _ _ _ _ _ _ _ _ _ _ _ _ _ _ _ _ _ _ _ _ _ _ _ _
   |exact group_hall.mono _ _ _ _ _ _
   |exact group_lift.mono _ _ _ _ _ _ _ _ _ _ _ _ _ _ _ _ _ _ _ _ _
   |exact LeO.none _
   |refine LeO.ite ?_ ?_
   |refine LeO.bind ?_ (fun _=>?_)
set_option maxHeartbeats 8000000 in
set_option maxRecDepth 100000 in
theorem group_Cost.calls (k:Nat) (B:Int) (J:Int) (L:Int) (Y:Int) (Z:Int) (ε :Int) (γ:Int) (θ :Int) (ζ :Int) (η :Int) (O:Int) (X:Int) (δ :Int) (κ :Int) (ι :Int) (μ :Int) (ν :Int) (ξ :Int) (ψ :Bool) (ω :Bool) (a9:Option Addr) (aa:Nat) (σ:List Int) (ab:Option Addr) (ac:Nat) (τ :List Int) (ai:Option Addr) (aj:Nat) (φ :List Int) (a2:Int) (a5:Int) (a6:Int) (r1:Int) (r2:Int) (w:World) (cb:Kd.C (Kd.int .i64) w a9 σ.length σ) (cp:σ.length≤aa) (cq:Kd.C (Kd.int .i64) w ab τ.length τ) (cr: τ.length≤ac) (e3:Kd.C (Kd.int .i64) w ai φ.length φ) (e4: φ.length≤aj) (h:group_Cost.f k B J L Y Z ε γ θ ζ η O X δ κ ι μ ν ξ ψ ω σ τ φ a2 a5 a6=some (r1,r2)):
  Calls Try.prog 10 #[.agg #[.int .i64 B,.int .i64 J,.int .i64 L,.int .i64 Y,.int .i64 Z,.int .i64 ε,.int .i64 γ,.int .i64 θ,.int .i64 ζ,.int .i64 η],.agg #[.int .i64 O,.int .i64 X,.int .i64 δ,.int .i64 κ,.int .i64 ι,.int .i64 μ,.int .i64 ν,.int .i64 ξ,.bool ψ,.bool ω],.agg #[.slice a9 σ.length aa,.slice ab τ.length ac,.slice ai φ.length aj],.agg #[.int .i64 a2,.int .i64 a5,.int .i64 a6]] w fun e w'=>e = .returned (.tuple #[.int .i64 r1,.int .i64 r2])∧Below w.heap.size w w':=by
 have cx:=Try.underlying25
 have i4:=Try.underlying31
 have f7:=Try.underlying34
 have dh:=Try.underlying36
 have ga:=Try.underlying76
 have d0:=Try.underlying59
 have b8:=Aside0.mk cb
 have bn:=Aside0.mk cp
 clear cb cp
 have bw:=Aside0.mk cq
 have bz:=Aside0.mk cr
 clear cq cr
 have cy:=Aside0.mk e3
 have cz:=Aside0.mk e4
 clear e3 e4
 have HB:=Aside0.mk (Below.refl w.heap.size w)
 have H:((group_lift.f k B J L Y Z ε γ θ ζ η O X δ κ ι μ ν ξ ψ ω).bind fun bq=>(if bq=true then ((collect_Check.f k B 0 0 false false σ τ φ).bind fun af=>(if af=0 then ((group_hall.f k B 8 a2 a5 a6).bind fun b4=>(if b4=true then ((group_cost.f k B J L Y Z ε γ θ ζ η O X δ κ ι μ ν ξ ψ ω σ τ φ a2 a5 a6).bind fun az=>(some (az,0))) else (some (0,210)))) else (some (0,210)))) else (some (0,210))))=some (r1,r2):=h
 clear h
 replace H:=Option.bind_eq_some_iff.mp H
 obtain⟨bq,b3,H⟩:=H
 replace H:(if bq=true then ((collect_Check.f k B 0 0 false false σ τ φ).bind fun af=>(if af=0 then ((group_hall.f k B 8 a2 a5 a6).bind fun b4=>(if b4=true then ((group_cost.f k B J L Y Z ε γ θ ζ η O X δ κ ι μ ν ξ ψ ω σ τ φ a2 a5 a6).bind fun az=>(some (az,0))) else (some (0,210)))) else (some (0,210)))) else (some (0,210)))=some (r1,r2):=H
 have A5:=Aside0.mk b3
 clear b3
 by_cases c6:bq=true
 ·subst c6
  have H1:((collect_Check.f k B 0 0 false false σ τ φ).bind fun af=>(if af=0 then ((group_hall.f k B 8 a2 a5 a6).bind fun b4=>(if b4=true then ((group_cost.f k B J L Y Z ε γ θ ζ η O X δ κ ι μ ν ξ ψ ω σ τ φ a2 a5 a6).bind fun az=>(some (az,0))) else (some (0,210)))) else (some (0,210))))=some (r1,r2):=by rw[if_pos rfl] at H;exact H
  clear H
  have H:=H1
  clear H1
  replace H:=Option.bind_eq_some_iff.mp H
  obtain⟨af,eg,H⟩:=H
  replace H:(if af=0 then ((group_hall.f k B 8 a2 a5 a6).bind fun b4=>(if b4=true then ((group_cost.f k B J L Y Z ε γ θ ζ η O X δ κ ι μ ν ξ ψ ω σ τ φ a2 a5 a6).bind fun az=>(some (az,0))) else (some (0,210)))) else (some (0,210)))=some (r1,r2):=H
  have A7:=Aside0.mk eg
  clear eg
  by_cases c8:af=0
  ·rw[if_pos c8] at H
   have c8b0:(af==0)=true:=beq_iff_eq.mpr c8
   have c8b1:(af != 0)=false:=bne_eq_false_iff_eq.mpr c8
   clear c8
   replace H:=Option.bind_eq_some_iff.mp H
   obtain⟨b4,bg,H⟩:=H
   replace H:(if b4=true then ((group_cost.f k B J L Y Z ε γ θ ζ η O X δ κ ι μ ν ξ ψ ω σ τ φ a2 a5 a6).bind fun az=>(some (az,0))) else (some (0,210)))=some (r1,r2):=H
   have A9:=Aside0.mk bg
   clear bg
   by_cases c10:b4=true
   ·subst c10
    have H1:((group_cost.f k B J L Y Z ε γ θ ζ η O X δ κ ι μ ν ξ ψ ω σ τ φ a2 a5 a6).bind fun az=>(some (az,0)))=some (r1,r2):=by rw[if_pos rfl] at H;exact H
    clear H
    have H:=H1
    clear H1
    replace H:=Option.bind_eq_some_iff.mp H
    obtain⟨az,bk,H⟩:=H
    replace H:(some (az,0))=some (r1,r2):=H
    have ca:=Aside0.mk bk
    clear bk
    simp only[Option.some.injEq,Prod.mk.injEq] at H
    obtain⟨rfl,rfl⟩:=H
    go_enter Try.func10,Try.ntmps10
    go_wp2_with (first|((with_reducible refine Qe (N:=4) rfl ?_);refine qE 4 #[.int .i64 B,.int .i64 J,.int .i64 L,.int .i64 Y,.int .i64 Z,.int .i64 ε,.int .i64 γ,.int .i64 θ,.int .i64 ζ,.int .i64 η] 25 ?_;intro bc hg er hbox hb;have a0:=Aside0.mk hbox;have bs:=sGe hg;have bd:=sGe hg;replace HB:=sHb hb;clear hb hbox hg)|((with_reducible refine Qe (N:=5) rfl ?_);refine qE 5 #[.int .i64 O,.int .i64 X,.int .i64 δ,.int .i64 κ,.int .i64 ι,.int .i64 μ,.int .i64 ν,.int .i64 ξ,.bool ψ,.bool ω] 31 ?_;intro be hg i3 hbox hb;have a1:=Aside0.mk hbox;have bu:=sGe hg;have bi:=sGe hg;have ag:=sNl a0 hg;have ak:=sNg a0 hg;replace a0:=sBk a0 hb;replace HB:=sHb hb;clear hb hbox hg)|((with_reducible refine Qe (N:=6) rfl ?_);refine qE 6 #[.slice a9 σ.length aa,.slice ab τ.length ac,.slice ai φ.length aj] 34 ?_;intro bj hg bh hbox hb;have a7:=Aside0.mk hbox;have cf:=sGe hg;have bl:=sGe hg;have al:=sNl a0 hg;have ao:=sNg a0 hg;have ap:=sNl a1 hg;have ar:=sNg a1 hg;replace a0:=sBk a0 hb;replace a1:=sBk a1 hb;replace HB:=sHb hb;clear hb hbox hg)|((with_reducible refine Qe (N:=7) rfl ?_);refine qE 7 #[.int .i64 a2,.int .i64 a5,.int .i64 a6] 36 ?_;intro bm hg g9 hbox hb;have ae:=Aside0.mk hbox;have d3:=sGe hg;have bp:=sGe hg;have au:=sNl a0 hg;have av:=sNg a0 hg;have aw:=sNl a1 hg;have ax:=sNg a1 hg;have b1:=sNl a7 hg;have b2:=sNg a7 hg;replace a0:=sBk a0 hb;replace a1:=sBk a1 hb;replace a7:=sBk a7 hb;replace HB:=sHb hb;clear hb hbox hg;have jb:=ag.out;have jc:=ak.out;have mt:=al.out;have mu:=ao.out;have fz:=au.out;have gq:=av.out;obtain⟨am,an,b5,cg,ch,ci,cj,dm,dn,dp,ay,b0,b7,ck,cm,cn,co,dq,dr,dt⟩:=Q5 a0.out;have ft:=ap.out;have fu:=ar.out;have fh:=aw.out;have fr:=ax.out;obtain⟨ct,cu,dv,gr,gs,gt,gu,jd,je,jf,cv,cw,dw,gv,gw,gx,gy,jg,jh,ji⟩:=Q5 a1.out)|((with_reducible refine Qd (f:=28) rfl ?_);refine Qn (some 12) rfl rfl Try.func28 kr rfl #[.agg #[.int .i64 B,.int .i64 J,.int .i64 L,.int .i64 Y,.int .i64 Z,.int .i64 ε,.int .i64 γ,.int .i64 θ,.int .i64 ζ,.int .i64 η],.agg #[.int .i64 O,.int .i64 X,.int .i64 δ,.int .i64 κ,.int .i64 ι,.int .i64 μ,.int .i64 ν,.int .i64 ξ,.bool ψ,.bool ω]] rfl qM ?_;(with_reducible refine(group_lift.calls k B J L Y Z ε γ θ ζ η O X δ κ ι μ ν ξ ψ ω true _ A5.out).mono ?_);rintro e b6 ⟨rfl,hb⟩;refine⟨_,rfl, ?_⟩;replace a0:=sBk a0 hb;replace a1:=sBk a1 hb;replace a7:=sBk a7 hb;replace ae:=sBk ae hb;replace HB:=sHb hb;(try clear hb);(try clear a4);(try clear hk);(try clear hi);obtain⟨b9,ba,bo,gz,h0,h4,h5,hy,i0,jj,bb,bf,d8,h6,h7,h8,h9,jk,jl,jm⟩:=Q5 a0.out;have d1:=b1.out;have d2:=b2.out;obtain⟨d9,da,dx,db,dc,dy⟩:=qD3 a7.out)|(go_at_call 29;(with_reducible refine(collect_Check.calls k B 0 0 false false (fun k_=>k_<w.heap.size) _ _ σ (fun k_=>k_<w.heap.size) _ _ τ (fun k_=>k_<w.heap.size) _ _ φ af _ ?side1 ?side2 ?side3 A7.out).mono ?_);(case side1=>exact Kd.Gs bn.out (Kd.Xu (Kd.C_F (Kd.X4 .i64) b8.out) (by repeat(first|(with_reducible first|exact HB.out|apply Qq|apply Qj|apply Qi|refine Qs ?_ bd.out|refine Qs ?_ bi.out|refine Qs ?_ bl.out|refine Qs ?_ bp.out)|exact HB.out))));(case side2=>exact Kd.Gs bz.out (Kd.Xu (Kd.C_F (Kd.X4 .i64) bw.out) (by repeat(first|(with_reducible first|exact HB.out|apply Qq|apply Qj|apply Qi|refine Qs ?_ bd.out|refine Qs ?_ bi.out|refine Qs ?_ bl.out|refine Qs ?_ bp.out)|exact HB.out))));(case side3=>exact Kd.Gs cz.out (Kd.Xu (Kd.C_F (Kd.X4 .i64) cy.out) (by repeat(first|(with_reducible first|exact HB.out|apply Qq|apply Qj|apply Qi|refine Qs ?_ bd.out|refine Qs ?_ bi.out|refine Qs ?_ bl.out|refine Qs ?_ bp.out)|exact HB.out))));rintro e ey ⟨rfl,hb⟩;have ρ:=Aside0.mk (Qt (g:=bc) (o:=.cells #[.int .i64 B,.int .i64 J,.int .i64 L,.int .i64 Y,.int .i64 Z,.int .i64 ε,.int .i64 γ,.int .i64 θ,.int .i64 ζ,.int .i64 η] 25 (0,0)) (by(with_reducible repeat first|refine Qk ?_ _|refine Qf ?_|refine Ql ?_ _);exact a0.out) hb);have χ :=Aside0.mk (Qt (g:=be) (o:=.cells #[.int .i64 O,.int .i64 X,.int .i64 δ,.int .i64 κ,.int .i64 ι,.int .i64 μ,.int .i64 ν,.int .i64 ξ,.bool ψ,.bool ω] 31 (0,0)) (by(with_reducible repeat first|refine Qk ?_ _|refine Qf ?_|refine Ql ?_ _);exact a1.out) hb);have a3:=Aside0.mk (Qt (g:=bj) (o:=.cells #[.slice a9 σ.length aa,.slice ab τ.length ac,.slice ai φ.length aj] 34 (0,0)) (by(with_reducible repeat first|refine Qk ?_ _|refine Qf ?_|refine Ql ?_ _);exact a7.out) hb);have a8:=Aside0.mk (Qt (g:=bm) (o:=.cells #[.int .i64 a2,.int .i64 a5,.int .i64 a6] 36 (0,0)) (by(with_reducible repeat first|refine Qk ?_ _|refine Qf ?_|refine Ql ?_ _);exact ae.out) hb);have ah:=Aside0.mk (Qy (by repeat(first|(with_reducible first|exact HB.out|apply Qq|apply Qj|apply Qi|refine Qs ?_ bd.out|refine Qs ?_ bi.out|refine Qs ?_ bl.out|refine Qs ?_ bp.out)|exact HB.out)) hb);clear a0;clear a1;clear a7;clear ae;clear HB;have a0:=ρ;have a1:= χ;have a7:=a3;have ae:=a8;have HB:=ah;clear ρ χ a3 a8 ah;(try clear hb);(try clear a4);(try clear hk);(try clear hi);obtain⟨eh,fi,fj,ie,ig,ih,ii,jn,jo,jp,ei,fk,fl,ij,ik,il,im,jq,jr,js⟩:=Q5 a0.out;obtain⟨br,bv,dk,fa,fb,fc⟩:=qD3 ae.out)|(go_at_call 30;(with_reducible refine(group_hall.calls k B 8 a2 a5 a6 true _ A9.out).mono ?_);rintro e ej ⟨rfl,hb⟩;have ρ:=Aside0.mk (Qt (g:=bc) (o:=.cells #[.int .i64 B,.int .i64 J,.int .i64 L,.int .i64 Y,.int .i64 Z,.int .i64 ε,.int .i64 γ,.int .i64 θ,.int .i64 ζ,.int .i64 η] 25 (0,0)) (by(with_reducible repeat first|refine Qk ?_ _|refine Qf ?_|refine Ql ?_ _);exact a0.out) hb);have χ :=Aside0.mk (Qt (g:=be) (o:=.cells #[.int .i64 O,.int .i64 X,.int .i64 δ,.int .i64 κ,.int .i64 ι,.int .i64 μ,.int .i64 ν,.int .i64 ξ,.bool ψ,.bool ω] 31 (0,0)) (by(with_reducible repeat first|refine Qk ?_ _|refine Qf ?_|refine Ql ?_ _);exact a1.out) hb);have a3:=Aside0.mk (Qt (g:=bj) (o:=.cells #[.slice a9 σ.length aa,.slice ab τ.length ac,.slice ai φ.length aj] 34 (0,0)) (by(with_reducible repeat first|refine Qk ?_ _|refine Qf ?_|refine Ql ?_ _);exact a7.out) hb);have a8:=Aside0.mk (Qt (g:=bm) (o:=.cells #[.int .i64 a2,.int .i64 a5,.int .i64 a6] 36 (0,0)) (by(with_reducible repeat first|refine Qk ?_ _|refine Qf ?_|refine Ql ?_ _);exact ae.out) hb);have ah:=Aside0.mk (Qy (by repeat(first|(with_reducible first|exact HB.out|apply Qq|apply Qj|apply Qi|refine Qs ?_ bd.out|refine Qs ?_ bi.out|refine Qs ?_ bl.out|refine Qs ?_ bp.out)|exact HB.out)) hb);clear a0;clear a1;clear a7;clear ae;clear HB;have a0:=ρ;have a1:= χ;have a7:=a3;have ae:=a8;have HB:=ah;clear ρ χ a3 a8 ah;(try clear hb);(try clear a4);(try clear hk);(try clear hi);obtain⟨ea,eb,ec,gf,gg,gh,kf,f8,g0,g1,ed,ee,ef,gi,gj,gk,kg,g2,g3,g4⟩:=Q5 a0.out;obtain⟨io,ip,iq,jt,ju,jv,jw,cd,ce,k4,ir,it,iu,jx,jy,jz,k0,k5,k6,k7⟩:=Q5 a1.out;obtain⟨e6,e7,ev,e8,e9,ew⟩:=qD3 a7.out;obtain⟨et,fm,fn,eu,fo,fp⟩:=qD3 ae.out)|((with_reducible refine Qd (f:=31) rfl ?_);refine Qn (some 34) rfl rfl Try.func31 kr rfl #[.agg #[.int .i64 B,.int .i64 J,.int .i64 L,.int .i64 Y,.int .i64 Z,.int .i64 ε,.int .i64 γ,.int .i64 θ,.int .i64 ζ,.int .i64 η],.agg #[.int .i64 O,.int .i64 X,.int .i64 δ,.int .i64 κ,.int .i64 ι,.int .i64 μ,.int .i64 ν,.int .i64 ξ,.bool ψ,.bool ω],.agg #[.slice a9 σ.length aa,.slice ab τ.length ac,.slice ai φ.length aj],.agg #[.int .i64 a2,.int .i64 a5,.int .i64 a6]] rfl qM ?_;(with_reducible refine(group_cost.calls k B J L Y Z ε γ θ ζ η O X δ κ ι μ ν ξ ψ ω _ _ σ _ _ τ _ _ φ a2 a5 a6 az _ ?side1 ?side2 ?side3 ?side4 ?side5 ?side6 ca.out).mono ?_);(case side1=>exact(Kd.Qp b8.out HB.out));(case side2=>exact bn.out);(case side3=>exact(Kd.Qp bw.out HB.out));(case side4=>exact bz.out);(case side5=>exact(Kd.Qp cy.out HB.out));(case side6=>exact cz.out);rintro e ka ⟨rfl,hb⟩;refine⟨_,rfl, ?_⟩;replace a0:=sBk a0 hb;replace a1:=sBk a1 hb;replace a7:=sBk a7 hb;replace ae:=sBk ae hb;replace HB:=sHb hb;(try clear hb);(try clear a4);(try clear hk);(try clear hi)))
    go_ret2
    exact⟨rfl,HB.out⟩
   ·replace c10:=Bool.eq_false_iff.mpr c10
    subst c10
    have H1:(some (0,210))=some (r1,r2):=by rw[if_neg (show ¬ (false=true) by decide)] at H;exact H
    clear H
    have H:=H1
    clear H1
    simp only[Option.some.injEq,Prod.mk.injEq] at H
    obtain⟨rfl,rfl⟩:=H
    go_enter Try.func10,Try.ntmps10
    go_wp2_with (first|((with_reducible refine Qe (N:=4) rfl ?_);refine qE 4 #[.int .i64 B,.int .i64 J,.int .i64 L,.int .i64 Y,.int .i64 Z,.int .i64 ε,.int .i64 γ,.int .i64 θ,.int .i64 ζ,.int .i64 η] 25 ?_;intro bc hg n3 hbox hb;have a0:=Aside0.mk hbox;have bs:=sGe hg;have bd:=sGe hg;replace HB:=sHb hb;clear hb hbox hg)|((with_reducible refine Qe (N:=5) rfl ?_);refine qE 5 #[.int .i64 O,.int .i64 X,.int .i64 δ,.int .i64 κ,.int .i64 ι,.int .i64 μ,.int .i64 ν,.int .i64 ξ,.bool ψ,.bool ω] 31 ?_;intro be hg kb hbox hb;have a1:=Aside0.mk hbox;have bu:=sGe hg;have bi:=sGe hg;have ag:=sNl a0 hg;have ak:=sNg a0 hg;replace a0:=sBk a0 hb;replace HB:=sHb hb;clear hb hbox hg)|((with_reducible refine Qe (N:=6) rfl ?_);refine qE 6 #[.slice a9 σ.length aa,.slice ab τ.length ac,.slice ai φ.length aj] 34 ?_;intro bj hg g5 hbox hb;have a7:=Aside0.mk hbox;have cf:=sGe hg;have bl:=sGe hg;have al:=sNl a0 hg;have ao:=sNg a0 hg;have ap:=sNl a1 hg;have ar:=sNg a1 hg;replace a0:=sBk a0 hb;replace a1:=sBk a1 hb;replace HB:=sHb hb;clear hb hbox hg)|((with_reducible refine Qe (N:=7) rfl ?_);refine qE 7 #[.int .i64 a2,.int .i64 a5,.int .i64 a6] 36 ?_;intro bm hg iv hbox hb;have ae:=Aside0.mk hbox;have d3:=sGe hg;have bp:=sGe hg;have au:=sNl a0 hg;have av:=sNg a0 hg;have aw:=sNl a1 hg;have ax:=sNg a1 hg;have b1:=sNl a7 hg;have b2:=sNg a7 hg;replace a0:=sBk a0 hb;replace a1:=sBk a1 hb;replace a7:=sBk a7 hb;replace HB:=sHb hb;clear hb hbox hg;have e0:=ag.out;have i6:=ak.out;have d4:=al.out;have de:=ao.out;have lh:=au.out;have ll:=av.out;obtain⟨eo,ep,kz,lm,ln,lp,lq,di,e5,gb,l2,l3,l4,lr,ls,lu,lv,i7,iw,ix⟩:=Q5 a0.out;have ge:=ap.out;have ha:=ar.out;have i5:=aw.out;have ky:=ax.out;obtain⟨gl,gm,i1,ic,j4,j5,j6,du,i9,ia,gn,gp,i2,j7,j8,j9,ja,ib,l5,l6⟩:=Q5 a1.out)|((with_reducible refine Qd (f:=28) rfl ?_);refine Qn (some 12) rfl rfl Try.func28 kr rfl #[.agg #[.int .i64 B,.int .i64 J,.int .i64 L,.int .i64 Y,.int .i64 Z,.int .i64 ε,.int .i64 γ,.int .i64 θ,.int .i64 ζ,.int .i64 η],.agg #[.int .i64 O,.int .i64 X,.int .i64 δ,.int .i64 κ,.int .i64 ι,.int .i64 μ,.int .i64 ν,.int .i64 ξ,.bool ψ,.bool ω]] rfl qM ?_;(with_reducible refine(group_lift.calls k B J L Y Z ε γ θ ζ η O X δ κ ι μ ν ξ ψ ω true _ A5.out).mono ?_);rintro e n1 ⟨rfl,hb⟩;refine⟨_,rfl, ?_⟩;replace a0:=sBk a0 hb;replace a1:=sBk a1 hb;replace a7:=sBk a7 hb;replace ae:=sBk ae hb;replace HB:=sHb hb;(try clear hb);(try clear a4);(try clear hk);(try clear hi);obtain⟨ek,el,km,ks,kt,ku,ma,iy,iz,j3,em,en,mb,mc,me,mf,mg,k1,k2,k3⟩:=Q5 a0.out;have g6:=b1.out;have g7:=b2.out;obtain⟨ho,mh,mi,kk,mw,my⟩:=qD3 a7.out)|(go_at_call 29;(with_reducible refine(collect_Check.calls k B 0 0 false false (fun k_=>k_<w.heap.size) _ _ σ (fun k_=>k_<w.heap.size) _ _ τ (fun k_=>k_<w.heap.size) _ _ φ af _ ?side1 ?side2 ?side3 A7.out).mono ?_);(case side1=>exact Kd.Gs bn.out (Kd.Xu (Kd.C_F (Kd.X4 .i64) b8.out) HB.out));(case side2=>exact Kd.Gs bz.out (Kd.Xu (Kd.C_F (Kd.X4 .i64) bw.out) HB.out));(case side3=>exact Kd.Gs cz.out (Kd.Xu (Kd.C_F (Kd.X4 .i64) cy.out) HB.out));rintro e q1 ⟨rfl,hb⟩;have ρ:=Aside0.mk (Qt (g:=bc) (o:=.cells #[.int .i64 B,.int .i64 J,.int .i64 L,.int .i64 Y,.int .i64 Z,.int .i64 ε,.int .i64 γ,.int .i64 θ,.int .i64 ζ,.int .i64 η] 25 (0,0)) a0.out hb);have χ :=Aside0.mk (Qt (g:=be) (o:=.cells #[.int .i64 O,.int .i64 X,.int .i64 δ,.int .i64 κ,.int .i64 ι,.int .i64 μ,.int .i64 ν,.int .i64 ξ,.bool ψ,.bool ω] 31 (0,0)) a1.out hb);have a3:=Aside0.mk (Qt (g:=bj) (o:=.cells #[.slice a9 σ.length aa,.slice ab τ.length ac,.slice ai φ.length aj] 34 (0,0)) a7.out hb);have a8:=Aside0.mk (Qt (g:=bm) (o:=.cells #[.int .i64 a2,.int .i64 a5,.int .i64 a6] 36 (0,0)) ae.out hb);have ah:=Aside0.mk (Qy HB.out hb);clear a0;clear a1;clear a7;clear ae;clear HB;have a0:=ρ;have a1:= χ;have a7:=a3;have ae:=a8;have HB:=ah;clear ρ χ a3 a8 ah;(try clear hb);(try clear a4);(try clear hk);(try clear hi);obtain⟨d5,d6,l7,l9,lb,lc,lf,lg,lw,m3,d7,ez,l8,mj,ml,mm,mo,mq,mr,ms⟩:=Q5 a0.out;obtain⟨dd,df,m0,m1,m2,ni⟩:=qD3 ae.out)|(go_at_call 30;(with_reducible refine(group_hall.calls k B 8 a2 a5 a6 false _ A9.out).mono ?_);rintro e q2 ⟨rfl,hb⟩;have ρ:=Aside0.mk (Qt (g:=bc) (o:=.cells #[.int .i64 B,.int .i64 J,.int .i64 L,.int .i64 Y,.int .i64 Z,.int .i64 ε,.int .i64 γ,.int .i64 θ,.int .i64 ζ,.int .i64 η] 25 (0,0)) a0.out hb);have χ :=Aside0.mk (Qt (g:=be) (o:=.cells #[.int .i64 O,.int .i64 X,.int .i64 δ,.int .i64 κ,.int .i64 ι,.int .i64 μ,.int .i64 ν,.int .i64 ξ,.bool ψ,.bool ω] 31 (0,0)) a1.out hb);have a3:=Aside0.mk (Qt (g:=bj) (o:=.cells #[.slice a9 σ.length aa,.slice ab τ.length ac,.slice ai φ.length aj] 34 (0,0)) a7.out hb);have a8:=Aside0.mk (Qt (g:=bm) (o:=.cells #[.int .i64 a2,.int .i64 a5,.int .i64 a6] 36 (0,0)) ae.out hb);have ah:=Aside0.mk (Qy HB.out hb);clear a0;clear a1;clear a7;clear ae;clear HB;have a0:=ρ;have a1:= χ;have a7:=a3;have ae:=a8;have HB:=ah;clear ρ χ a3 a8 ah;(try clear hb);(try clear a4);(try clear hk);(try clear hi)))
    go_ret2
    exact⟨rfl,HB.out⟩
  ·rw[if_neg c8] at H
   have c8b0:(af==0)=false:=beq_eq_false_iff_ne.mpr c8
   have c8b1:(af != 0)=true:=bne_iff_ne.mpr c8
   simp only[Option.some.injEq,Prod.mk.injEq] at H
   obtain⟨rfl,rfl⟩:=H
   go_enter Try.func10,Try.ntmps10
   go_wp2_with (first|((with_reducible refine Qe (N:=4) rfl ?_);refine qE 4 #[.int .i64 B,.int .i64 J,.int .i64 L,.int .i64 Y,.int .i64 Z,.int .i64 ε,.int .i64 γ,.int .i64 θ,.int .i64 ζ,.int .i64 η] 25 ?_;intro bc hg q3 hbox hb;have a0:=Aside0.mk hbox;have bs:=sGe hg;have bd:=sGe hg;replace HB:=sHb hb;clear hb hbox hg)|((with_reducible refine Qe (N:=5) rfl ?_);refine qE 5 #[.int .i64 O,.int .i64 X,.int .i64 δ,.int .i64 κ,.int .i64 ι,.int .i64 μ,.int .i64 ν,.int .i64 ξ,.bool ψ,.bool ω] 31 ?_;intro be hg dl hbox hb;have a1:=Aside0.mk hbox;have bu:=sGe hg;have bi:=sGe hg;have ag:=sNl a0 hg;have ak:=sNg a0 hg;replace a0:=sBk a0 hb;replace HB:=sHb hb;clear hb hbox hg)|((with_reducible refine Qe (N:=6) rfl ?_);refine qE 6 #[.slice a9 σ.length aa,.slice ab τ.length ac,.slice ai φ.length aj] 34 ?_;intro bj hg q4 hbox hb;have a7:=Aside0.mk hbox;have cf:=sGe hg;have bl:=sGe hg;have al:=sNl a0 hg;have ao:=sNg a0 hg;have ap:=sNl a1 hg;have ar:=sNg a1 hg;replace a0:=sBk a0 hb;replace a1:=sBk a1 hb;replace HB:=sHb hb;clear hb hbox hg)|((with_reducible refine Qe (N:=7) rfl ?_);refine qE 7 #[.int .i64 a2,.int .i64 a5,.int .i64 a6] 36 ?_;intro bm hg q5 hbox hb;have ae:=Aside0.mk hbox;have d3:=sGe hg;have bp:=sGe hg;have au:=sNl a0 hg;have av:=sNg a0 hg;have aw:=sNl a1 hg;have ax:=sNg a1 hg;have b1:=sNl a7 hg;have b2:=sNg a7 hg;replace a0:=sBk a0 hb;replace a1:=sBk a1 hb;replace a7:=sBk a7 hb;replace HB:=sHb hb;clear hb hbox hg;have dz:=ag.out;have fe:=ak.out;have fv:=al.out;have fw:=ao.out;have hu:=au.out;have hx:=av.out;obtain⟨he,hh,dj,nh,nv,nw,nx,kc,kq,mz,hj,hl,kl,ny,nz,o0,o1,n0,n2,na⟩:=Q5 a0.out;have k8:=ap.out;have k9:=ar.out;have ff:=aw.out;have fg:=ax.out;obtain⟨m4,m5,m6,nj,nk,nl,nm,nb,nc,nd,m7,m8,m9,nn,no,np,nq,nf,ng,o2⟩:=Q5 a1.out)|((with_reducible refine Qd (f:=28) rfl ?_);refine Qn (some 12) rfl rfl Try.func28 kr rfl #[.agg #[.int .i64 B,.int .i64 J,.int .i64 L,.int .i64 Y,.int .i64 Z,.int .i64 ε,.int .i64 γ,.int .i64 θ,.int .i64 ζ,.int .i64 η],.agg #[.int .i64 O,.int .i64 X,.int .i64 δ,.int .i64 κ,.int .i64 ι,.int .i64 μ,.int .i64 ν,.int .i64 ξ,.bool ψ,.bool ω]] rfl qM ?_;(with_reducible refine(group_lift.calls k B J L Y Z ε γ θ ζ η O X δ κ ι μ ν ξ ψ ω true _ A5.out).mono ?_);rintro e o7 ⟨rfl,hb⟩;refine⟨_,rfl, ?_⟩;replace a0:=sBk a0 hb;replace a1:=sBk a1 hb;replace a7:=sBk a7 hb;replace ae:=sBk ae hb;replace HB:=sHb hb;(try clear hb);(try clear a4);(try clear hk);(try clear hi);obtain⟨nr,ns,nt,nu,oi,oj,ol,o3,o4,o5,om,oo,oq,ot,ou,ov,ow,o6,o8,o9⟩:=Q5 a0.out;have kn:=b1.out;have ko:=b2.out;obtain⟨oa,ob,oc,od,oe,oh⟩:=qD3 a7.out)|(go_at_call 29;(with_reducible refine(collect_Check.calls k B 0 0 false false (fun k_=>k_<w.heap.size) _ _ σ (fun k_=>k_<w.heap.size) _ _ τ (fun k_=>k_<w.heap.size) _ _ φ af _ ?side1 ?side2 ?side3 A7.out).mono ?_);(case side1=>exact Kd.Gs bn.out (Kd.Xu (Kd.C_F (Kd.X4 .i64) b8.out) HB.out));(case side2=>exact Kd.Gs bz.out (Kd.Xu (Kd.C_F (Kd.X4 .i64) bw.out) HB.out));(case side3=>exact Kd.Gs cz.out (Kd.Xu (Kd.C_F (Kd.X4 .i64) cy.out) HB.out));rintro e q7 ⟨rfl,hb⟩;have ρ:=Aside0.mk (Qt (g:=bc) (o:=.cells #[.int .i64 B,.int .i64 J,.int .i64 L,.int .i64 Y,.int .i64 Z,.int .i64 ε,.int .i64 γ,.int .i64 θ,.int .i64 ζ,.int .i64 η] 25 (0,0)) a0.out hb);have χ :=Aside0.mk (Qt (g:=be) (o:=.cells #[.int .i64 O,.int .i64 X,.int .i64 δ,.int .i64 κ,.int .i64 ι,.int .i64 μ,.int .i64 ν,.int .i64 ξ,.bool ψ,.bool ω] 31 (0,0)) a1.out hb);have a3:=Aside0.mk (Qt (g:=bj) (o:=.cells #[.slice a9 σ.length aa,.slice ab τ.length ac,.slice ai φ.length aj] 34 (0,0)) a7.out hb);have a8:=Aside0.mk (Qt (g:=bm) (o:=.cells #[.int .i64 a2,.int .i64 a5,.int .i64 a6] 36 (0,0)) ae.out hb);have ah:=Aside0.mk (Qy HB.out hb);clear a0;clear a1;clear a7;clear ae;clear HB;have a0:=ρ;have a1:= χ;have a7:=a3;have ae:=a8;have HB:=ah;clear ρ χ a3 a8 ah;(try clear hb);(try clear a4);(try clear hk);(try clear hi)))
   go_ret2
   exact⟨rfl,HB.out⟩
 ·replace c6:=Bool.eq_false_iff.mpr c6
  subst c6
  have H1:(some (0,210))=some (r1,r2):=by rw[if_neg (show ¬ (false=true) by decide)] at H;exact H
  clear H
  have H:=H1
  clear H1
  simp only[Option.some.injEq,Prod.mk.injEq] at H
  obtain⟨rfl,rfl⟩:=H
  go_enter Try.func10,Try.ntmps10
  go_wp2_with (first|((with_reducible refine Qe (N:=4) rfl ?_);refine qE 4 #[.int .i64 B,.int .i64 J,.int .i64 L,.int .i64 Y,.int .i64 Z,.int .i64 ε,.int .i64 γ,.int .i64 θ,.int .i64 ζ,.int .i64 η] 25 ?_;intro bc hg q8 hbox hb;have a0:=Aside0.mk hbox;have bs:=sGe hg;have bd:=sGe hg;replace HB:=sHb hb;clear hb hbox hg)|((with_reducible refine Qe (N:=5) rfl ?_);refine qE 5 #[.int .i64 O,.int .i64 X,.int .i64 δ,.int .i64 κ,.int .i64 ι,.int .i64 μ,.int .i64 ν,.int .i64 ξ,.bool ψ,.bool ω] 31 ?_;intro be hg q9 hbox hb;have a1:=Aside0.mk hbox;have bu:=sGe hg;have bi:=sGe hg;have ag:=sNl a0 hg;have ak:=sNg a0 hg;replace a0:=sBk a0 hb;replace HB:=sHb hb;clear hb hbox hg)|((with_reducible refine Qe (N:=6) rfl ?_);refine qE 6 #[.slice a9 σ.length aa,.slice ab τ.length ac,.slice ai φ.length aj] 34 ?_;intro bj hg q6 hbox hb;have a7:=Aside0.mk hbox;have cf:=sGe hg;have bl:=sGe hg;have al:=sNl a0 hg;have ao:=sNg a0 hg;have ap:=sNl a1 hg;have ar:=sNg a1 hg;replace a0:=sBk a0 hb;replace a1:=sBk a1 hb;replace HB:=sHb hb;clear hb hbox hg)|((with_reducible refine Qe (N:=7) rfl ?_);refine qE 7 #[.int .i64 a2,.int .i64 a5,.int .i64 a6] 36 ?_;intro bm hg qa hbox hb;have ae:=Aside0.mk hbox;have d3:=sGe hg;have bp:=sGe hg;have au:=sNl a0 hg;have av:=sNg a0 hg;have aw:=sNl a1 hg;have ax:=sNg a1 hg;have b1:=sNl a7 hg;have b2:=sNg a7 hg;replace a0:=sBk a0 hb;replace a1:=sBk a1 hb;replace a7:=sBk a7 hb;replace HB:=sHb hb;clear hb hbox hg;have kh:=ag.out;have ki:=ak.out;have kj:=al.out;have kv:=ao.out;have kw:=au.out;have kx:=av.out;obtain⟨fq,fx,fy,ox,oy,oz,p0,p1,p5,p6,g8,kd,ke,p7,p8,p9,pa,pb,pc,pd⟩:=Q5 a0.out;have kp:=ap.out;have lx:=ar.out;have ly:=aw.out;have lz:=ax.out;obtain⟨pe,pf,pg,pi,pj,pk,pm,pn,po,pp,pq,pr,pt,pu,pv,pw,px,py,pz,q0⟩:=Q5 a1.out)|((with_reducible refine Qd (f:=28) rfl ?_);refine Qn (some 12) rfl rfl Try.func28 kr rfl #[.agg #[.int .i64 B,.int .i64 J,.int .i64 L,.int .i64 Y,.int .i64 Z,.int .i64 ε,.int .i64 γ,.int .i64 θ,.int .i64 ζ,.int .i64 η],.agg #[.int .i64 O,.int .i64 X,.int .i64 δ,.int .i64 κ,.int .i64 ι,.int .i64 μ,.int .i64 ν,.int .i64 ξ,.bool ψ,.bool ω]] rfl qM ?_;(with_reducible refine(group_lift.calls k B J L Y Z ε γ θ ζ η O X δ κ ι μ ν ξ ψ ω false _ A5.out).mono ?_);rintro e qb ⟨rfl,hb⟩;refine⟨_,rfl, ?_⟩;replace a0:=sBk a0 hb;replace a1:=sBk a1 hb;replace a7:=sBk a7 hb;replace ae:=sBk ae hb;replace HB:=sHb hb;(try clear hb);(try clear a4);(try clear hk);(try clear hi)))
  go_ret2
  exact⟨rfl,HB.out⟩
mutual
def group_Check.j0:Nat→List (S31)→Bool→Int→Int→Int→Int→Int→Int→Int→Int→Int→Int→List (S36)→List (S86)→Option (Int)
 |0,_,_,_,_,_,_,_,_,_,_,_,_,_,_=>none
 |k+1,J,σ,O,X,Y,Z,γ,δ,ε,ζ,η,θ,ι,κ =>if σ=true then (some 210) else (group_Check.l0 k J J (J.length:Int) 0 O X Y Z γ δ ε ζ η θ ι κ)
def group_Check.l0:Nat→List (S31)→List (S31)→Int→Int→Int→Int→Int→Int→Int→Int→Int→Int→Int→Int→List (S36)→List (S86)→Option (Int)
 |0,_,_,_,_,_,_,_,_,_,_,_,_,_,_,_,_=>none
 |k+1,J,B,μ,L,O,X,Y,Z,γ,δ,ε,ζ,η,θ,ι,κ =>if L < μ then (if 0≤L then (if L<(B.length:Int) then ((group_lift.f k O X Y Z γ δ ε ζ η θ ((Qb B L).f0.f0) ((Qb B L).f0.f1) ((Qb B L).f0.f2) ((Qb B L).f0.f3) ((Qb B L).f0.f4.f0) ((Qb B L).f0.f4.f1) ((Qb B L).f0.f4.f2) ((Qb B L).f1) ((Qb B L).f2) ((Qb B L).f3)).bind fun au=>(if au=true then (group_Check.l0 k J B μ (wrap64 (L+1)) O X Y Z γ δ ε ζ η θ ι κ) else (some 210))) else (none)) else (none)) else ((group_house.f O X Y Z γ δ ε ζ η θ J).bind fun ν =>((call_Check.f k ν.1 ν.2 ι κ).bind fun aj=>(some aj)))
end
def group_Check.f (k:Nat) (B:Int) (J:Int) (L:Int) (Y:Int) (Z:Int) (ε :Int) (γ:Int) (θ :Int) (ζ :Int) (η :Int) (l1:List (S31)) (σ:List (S36)) (τ :List (S86)):Option (Int):=if (l1.length:Int)<1 then (group_Check.j0 k l1 true B J L Y Z ε γ θ ζ η σ τ) else (group_Check.j0 k l1 (decide ((l1.length:Int)>8)) B J L Y Z ε γ θ ζ η σ τ)
theorem group_Check.Zn:∀ k,(∀ L X Y B O Z y6 y7 y8 y9 γ ε ζ η,LeO (group_Check.j0 k L X Y B O Z y6 y7 y8 y9 γ ε ζ η) (group_Check.j0 (k+1) L X Y B O Z y6 y7 y8 y9 γ ε ζ η))∧(∀ L X Y B O Z y6 y7 y8 y9 γ ε ζ η θ ι,LeO (group_Check.l0 k L X Y B O Z y6 y7 y8 y9 γ ε ζ η θ ι) (group_Check.l0 (k+1) L X Y B O Z y6 y7 y8 y9 γ ε ζ η θ ι))
 |0=>⟨fun _ _ _ _ _ _ _ _ _ _ _ _ _ _ r h=>by simp[group_Check.j0] at h,fun _ _ _ _ _ _ _ _ _ _ _ _ _ _ _ _ r h=>by simp[group_Check.l0] at h⟩
 |k+1=>by
  obtain⟨J,δ⟩:=group_Check.Zn k
  refine⟨?_, ?_⟩
  ·intro L X Y B O Z y6 y7 y8 y9 γ ε ζ η
   unfold group_Check.j0
   repeat' first
   |(with_reducible exact J _ _ _ _ _ _ _ _ _ _ _ _ _ _)
   |(with_reducible exact δ _ _ _ _ _ _ _ _ _ _ _ _ _ _ _ _)
   |(with_reducible exact call_Check.mono _ _ _ _ _)
   |(with_reducible exact group_lift.mono _ _ _ _ _ _ _ _ _ _ _ _ _ _ _ _ _ _ _ _ _)
   |(with_reducible exact LeO.refl _)
   |(with_reducible exact LeO.none _)
   |(with_reducible refine LeO.ite ?_ ?_)
   |(with_reducible refine LeO.bind ?_ (fun _=>?_))
   |exact J _ _ _ _ _ _ _ _ _ _ _ _ _ _
   |exact δ _ _ _ _ _ _ _ _ _ _ _ _ _ _ _ _
   |exact call_Check.mono _ _ _ _ _
   |exact group_lift.mono _ _ _ _ _ _ _ _ _ _ _ _ _ _ _ _ _ _ _ _ _
   |exact LeO.none _
   |refine LeO.ite ?_ ?_
   |refine LeO.bind ?_ (fun _=>?_)
  ·intro L X Y B O Z y6 y7 y8 y9 γ ε ζ η θ ι
   unfold group_Check.l0
   repeat' first
   |(with_reducible exact J _ _ _ _ _ _ _ _ _ _ _ _ _ _)
   |(with_reducible exact δ _ _ _ _ _ _ _ _ _ _ _ _ _ _ _ _)
   |(with_reducible exact call_Check.mono _ _ _ _ _)
   |(with_reducible exact group_lift.mono _ _ _ _ _ _ _ _ _ _ _ _ _ _ _ _ _ _ _ _ _)
   |(with_reducible exact LeO.refl _)
   |(with_reducible exact LeO.none _)
   |(with_reducible refine LeO.ite ?_ ?_)
   |(with_reducible refine LeO.bind ?_ (fun _=>?_))
   |exact J _ _ _ _ _ _ _ _ _ _ _ _ _ _
   |exact δ _ _ _ _ _ _ _ _ _ _ _ _ _ _ _ _
   |exact call_Check.mono _ _ _ _ _
   |exact group_lift.mono _ _ _ _ _ _ _ _ _ _ _ _ _ _ _ _ _ _ _ _ _
   |exact LeO.none _
   |refine LeO.ite ?_ ?_
   |refine LeO.bind ?_ (fun _=>?_)
theorem group_Check.mono:∀ B O a2 a3 L a5 X a7 a8 a9 Y Z γ k,LeO (group_Check.f k B O a2 a3 L a5 X a7 a8 a9 Y Z γ) (group_Check.f (k+1) B O a2 a3 L a5 X a7 a8 a9 Y Z γ):=by
 intro B O a2 a3 L a5 X a7 a8 a9 Y Z γ k
 obtain⟨J,δ⟩:=group_Check.Zn k
 unfold group_Check.f
 repeat' first
   |(with_reducible exact J _ _ _ _ _ _ _ _ _ _ _ _ _ _)
   |(with_reducible exact δ _ _ _ _ _ _ _ _ _ _ _ _ _ _ _ _)
   |(with_reducible exact call_Check.mono _ _ _ _ _)
   |(with_reducible exact group_lift.mono _ _ _ _ _ _ _ _ _ _ _ _ _ _ _ _ _ _ _ _ _)
   |(with_reducible exact LeO.refl _)
   |(with_reducible exact LeO.none _)
   |(with_reducible refine LeO.ite ?_ ?_)
   |(with_reducible refine LeO.bind ?_ (fun _=>?_))
   |exact J _ _ _ _ _ _ _ _ _ _ _ _ _ _
   |exact δ _ _ _ _ _ _ _ _ _ _ _ _ _ _ _ _
   |exact call_Check.mono _ _ _ _ _
   |exact group_lift.mono _ _ _ _ _ _ _ _ _ _ _ _ _ _ _ _ _ _ _ _ _
   |exact LeO.none _
   |refine LeO.ite ?_ ?_
   |refine LeO.bind ?_ (fun _=>?_)
set_option maxHeartbeats 8000000 in
set_option maxRecDepth 100000 in
theorem group_Check.calls (k:Nat) (B:Int) (J:Int) (L:Int) (Y:Int) (Z:Int) (ε :Int) (γ:Int) (θ :Int) (ζ :Int) (η :Int) (A1:Option Addr) (c1:Nat) (l1:List (S31)) (a9:Option Addr) (aa:Nat) (σ:List (S36)) (ab:Option Addr) (ac:Nat) (τ :List (S86)) (r:Int) (w:World) (dw:Kd.C k31 w A1 l1.length l1) (dj:l1.length≤c1) (cb:Kd.C k36 w a9 σ.length σ) (cp:σ.length≤aa) (cq:Kd.C k86 w ab τ.length τ) (cr: τ.length≤ac) (h:group_Check.f k B J L Y Z ε γ θ ζ η l1 σ τ = some r):
  Calls Try.prog 17 #[.agg #[.int .i64 B,.int .i64 J,.int .i64 L,.int .i64 Y,.int .i64 Z,.int .i64 ε,.int .i64 γ,.int .i64 θ,.int .i64 ζ,.int .i64 η],.slice A1 l1.length c1,.agg #[.slice a9 σ.length aa,.slice ab τ.length ac]] w fun e w'=>e = .returned (.int .i64 r)∧Below w.heap.size w w':=by
 have cx:=Try.underlying25
 have f8:=Try.underlying50
 have i4:=Try.underlying31
 have dk:=Aside0.mk dw
 have dz:=Aside0.mk dj
 clear dw dj
 have b8:=Aside0.mk cb
 have bn:=Aside0.mk cp
 clear cb cp
 have bw:=Aside0.mk cq
 have bz:=Aside0.mk cr
 clear cq cr
 have HB:=Aside0.mk (Below.refl w.heap.size w)
 have H:(if (l1.length:Int)<1 then (group_Check.j0 k l1 true B J L Y Z ε γ θ ζ η σ τ) else (group_Check.j0 k l1 (decide ((l1.length:Int)>8)) B J L Y Z ε γ θ ζ η σ τ))=some r:=h
 clear h
 have ct:=Aside0.mk H
 clear H
 go_enter Try.func17,Try.ntmps17
 go_upto_region 1 with(first|((with_reducible refine Qe (N:=3) rfl ?_);(try(refine Zo (by rfl) ?_;dsimp only));refine qE 3 #[.int .i64 B,.int .i64 J,.int .i64 L,.int .i64 Y,.int .i64 Z,.int .i64 ε,.int .i64 γ,.int .i64 θ,.int .i64 ζ,.int .i64 η] 25 ?_;intro ι hg w5 hbox hb;have X:=Aside0.mk hbox;have bl:=sGe hg;have bm:=sGe hg;replace HB:=sHb hb;clear hb hbox hg)|((with_reducible refine Qe (N:=5) rfl ?_);(try(refine Zo (by rfl) ?_;dsimp only));refine qE 5 #[.slice a9 σ.length aa,.slice ab τ.length ac] 50 ?_;intro ap hg w6 hbox hb;have δ :=Aside0.mk hbox;have bp:=sGe hg;have bq:=sGe hg;have ak:=sNl X hg;have ao:=sNg X hg;replace X:=sBk X hb;replace HB:=sHb hb;clear hb hbox hg))
 (try simp only[Act.put,qS])
 go_cut [16] (fun bk wc=>∃ (kq:Nat) (ar:Bool),bk = .bool ar∧Aside0 (group_Check.j0 kq l1 ar B J L Y Z ε γ θ ζ η σ τ = some r)∧Aside0 (kq≤k)∧Aside0 (wc.heap[ι]?=some (.cells #[.int .i64 B,.int .i64 J,.int .i64 L,.int .i64 Y,.int .i64 Z,.int .i64 ε,.int .i64 γ,.int .i64 θ,.int .i64 ζ,.int .i64 η] 25 (0,0)))∧Aside0 (wc.heap[ap]?=some (.cells #[(.slice a9 σ.length aa),(.slice ab τ.length ac)] 50 (0,0)))∧Aside0 (Below w.heap.size w wc))
 case first=>
  have H:=ct.out
  clear ct
  by_cases c7:(l1.length:Int)<1
  ·rw[if_pos c7] at H
   have c7b0:decide ((l1.length:Int)<1)=true:=decide_eq_true c7
   have c7b1:decide (l1.length<1)=true:=decide_eq_true (by omega)
   clear c7
   (first|rw[c7b0]|(simp only[Za,Zb];rw[c7b0])|skip)
   have H':=Aside0.mk H
   clear H
   go_wp2
   go_meet
   case rel=>exact⟨_,(true),rfl,H',⟨by first|omega|exact Nat.le_refl _⟩,X,δ,HB⟩
  ·rw[if_neg c7] at H
   have c7b0:decide ((l1.length:Int)<1)=false:=decide_eq_false c7
   have c7b1:decide (l1.length<1)=false:=decide_eq_false (by omega)
   clear c7
   (first|rw[c7b0]|(simp only[Za,Zb];rw[c7b0])|skip)
   have H':=Aside0.mk H
   clear H
   go_wp2
   go_meet
   case rel=>exact⟨_,(decide ((l1.length:Int)>8)),rfl,H',⟨by first|omega|exact Nat.le_refl _⟩,X,δ,HB⟩
 case rest=>
  clear ct
  try clear c1
  try clear c2
  try clear p2
  try clear c7
  try clear c7b0
  try clear c7b1
  obtain⟨kq,ar,rfl,HA,dv,X,δ,HB⟩:=hcut
  cases kq with
  |zero=>exact absurd HA.out (by simp[group_Check.j0])
  |succ a5=>
   have H:=HA.out
   clear HA
   simp only[group_Check.j0] at H
   by_cases c8:ar=true
   ·subst c8
    have H1:(some 210)=some r:=by rw[if_pos rfl] at H;exact H
    clear H
    have H:=H1
    clear H1
    obtain rfl:=Option.some.inj H
    go_wp2
    go_ret
    exact⟨rfl,HB.out⟩
   ·replace c8:=Bool.eq_false_iff.mpr c8
    subst c8
    have H1:(group_Check.l0 a5 l1 l1 (l1.length:Int) 0 B J L Y Z ε γ θ ζ η σ τ)=some r:=by rw[if_neg (show ¬ (false=true) by decide)] at H;exact H
    clear H
    have H:=H1
    clear H1
    have H':=Aside0.mk H
    clear H
    go_wp2
    go_loopg [19] a5 (fun kq bd w'=>∃ (O:Int),bd = .int .i64 O∧Aside0 (group_Check.l0 kq l1 l1 (l1.length:Int) O B J L Y Z ε γ θ ζ η σ τ = some r)∧Aside0 (kq≤a5)∧Aside0 (w'.heap[ι]?=some (.cells #[.int .i64 B,.int .i64 J,.int .i64 L,.int .i64 Y,.int .i64 Z,.int .i64 ε,.int .i64 γ,.int .i64 θ,.int .i64 ζ,.int .i64 η] 25 (0,0)))∧Aside0 (w'.heap[ap]?=some (.cells #[(.slice a9 σ.length aa),(.slice ab τ.length ac)] 50 (0,0)))∧Aside0 (Below w.heap.size w w'))
    case atStart=>exact⟨(0),rfl,H',⟨Nat.le_refl _⟩,X,δ,HB⟩
    case round=>
     clear H'
     try clear c1
     try clear c2
     try clear p2
     try clear c7
     try clear c7b0
     try clear c7b1
     try clear c8
     try clear p2
     obtain⟨O,rfl,HA,ed,X,δ,HB⟩:=hrel
     cases gk with
     |zero=>exact absurd HA.out (by simp[group_Check.l0])
     |succ k2=>
      have H:=HA.out
      clear HA
      simp only[group_Check.l0] at H
      by_cases c9:O<(l1.length:Int)
      ·rw[if_pos c9] at H
       have c9b0:decide (O<(l1.length:Int))=true:=decide_eq_true c9
       clear c9
       by_cases c10:0≤O
       ·rw[if_pos c10] at H
        have c10b0:decide (0≤O)=true:=decide_eq_true c10
        clear c10
        by_cases al:O<(l1.length:Int)
        ·rw[if_pos al] at H
         have c11b0:decide (O<(l1.length:Int))=true:=decide_eq_true al
         clear al
         replace H:=Option.bind_eq_some_iff.mp H
         obtain⟨au,a8,H⟩:=H
         replace H:(if au=true then (group_Check.l0 k2 l1 l1 (l1.length:Int) (wrap64 (O+1)) B J L Y Z ε γ θ ζ η σ τ) else (some 210))=some r:=H
         have b3:=Aside0.mk a8
         clear a8
         by_cases a2:au=true
         ·subst a2
          have H1:(group_Check.l0 k2 l1 l1 (l1.length:Int) (wrap64 (O+1)) B J L Y Z ε γ θ ζ η σ τ)=some r:=by rw[if_pos rfl] at H;exact H
          clear H
          have H:=H1
          clear H1
          have H':=Aside0.mk H
          clear H
          have ah:0≤(O:Int):=of_decide_eq_true (by assumption)
          have ai:O<(l1.length:Int):=of_decide_eq_true (by assumption)
          obtain⟨be,az,κ,μ,ν,ξ,ρ,φ,χ,ψ,ω,a0⟩:=Gq dk.out O ah ai
          cases az
          replace κ :=(HB.out.cell (World.block_lt_of_cell? w _ κ)).trans κ
          replace μ :=(HB.out.cell (World.block_lt_of_cell? w _ μ)).trans μ
          replace ν :=(HB.out.cell (World.block_lt_of_cell? w _ ν)).trans ν
          replace ξ :=(HB.out.cell (World.block_lt_of_cell? w _ ξ)).trans ξ
          replace ρ:=(HB.out.cell (World.block_lt_of_cell? w _ ρ)).trans ρ
          replace φ :=(HB.out.cell (World.block_lt_of_cell? w _ φ)).trans φ
          replace χ :=(HB.out.cell (World.block_lt_of_cell? w _ χ)).trans χ
          replace ψ :=(HB.out.cell (World.block_lt_of_cell? w _ ψ)).trans ψ
          replace ω :=(HB.out.cell (World.block_lt_of_cell? w _ ω)).trans ω
          replace a0:=(HB.out.cell (World.block_lt_of_cell? w _ a0)).trans a0
          replace ah:=eq_true ah
          replace ai:=eq_true ai
          go_wp2_with (first|((with_reducible refine Qe (N:=8) rfl ?_);(try(refine Zo (by rfl) ?_;dsimp only));refine qE 8 #[.int .i64 0,.int .i64 0,.int .i64 0,.int .i64 0,.int .i64 0,.int .i64 0,.int .i64 0,.int .i64 0,.bool false,.bool false] 31 ?_;intro av hg bh hbox hb;have a1:=Aside0.mk hbox;have bi:=sGe hg;have bj:=sGe hg;have a3:=sNl X hg;have a6:=sNg X hg;have a7:=sNl δ hg;have ae:=sNg δ hg;replace X:=sBk X hb;replace δ :=sBk δ hb;replace HB:=sHb hb;clear hb hbox hg;have fm:=a6.out;have fn:=a3.out;have jb:=ae.out;have jc:=a7.out;obtain⟨af,cd,bs,ag,bv,dd,df,b4,de,ei,ce,cf,bu,e0,ea,eb,ec,ek,el,em⟩:=Q5 a1.out;have fz:=ak.out;have gq:=ao.out;obtain⟨am,an,b5,cg,ch,ci,cj,dm,dn,dp,ay,b0,b7,ck,cm,cn,co,dq,dr,dt⟩:=Q5 X.out)|((with_reducible refine Qd (f:=28) rfl ?_);refine Qn (some 25) rfl rfl Try.func28 kr rfl #[.agg #[.int .i64 B,.int .i64 J,.int .i64 L,.int .i64 Y,.int .i64 Z,.int .i64 ε,.int .i64 γ,.int .i64 θ,.int .i64 ζ,.int .i64 η],.agg #[.int .i64 ((Qb l1 O).f0.f0),.int .i64 ((Qb l1 O).f0.f1),.int .i64 ((Qb l1 O).f0.f2),.int .i64 ((Qb l1 O).f0.f3),.int .i64 ((Qb l1 O).f0.f4.f0),.int .i64 ((Qb l1 O).f0.f4.f1),.int .i64 ((Qb l1 O).f0.f4.f2),.int .i64 ((Qb l1 O).f1),.bool ((Qb l1 O).f2),.bool ((Qb l1 O).f3)]] rfl qM ?_;(with_reducible refine(group_lift.calls k2 B J L Y Z ε γ θ ζ η ((Qb l1 O).f0.f0) ((Qb l1 O).f0.f1) ((Qb l1 O).f0.f2) ((Qb l1 O).f0.f3) ((Qb l1 O).f0.f4.f0) ((Qb l1 O).f0.f4.f1) ((Qb l1 O).f0.f4.f2) ((Qb l1 O).f1) ((Qb l1 O).f2) ((Qb l1 O).f3) true _ b3.out).mono ?_);rintro e fr ⟨rfl,hb⟩;refine⟨_,rfl, ?_⟩;replace X:=sBk X hb;replace δ :=sBk δ hb;replace a1:=Aside0.mk (Qt (g:=av) (o:=.cells #[.int .i64 ((Qb l1 O).f0.f0),.int .i64 ((Qb l1 O).f0.f1),.int .i64 ((Qb l1 O).f0.f2),.int .i64 ((Qb l1 O).f0.f3),.int .i64 ((Qb l1 O).f0.f4.f0),.int .i64 ((Qb l1 O).f0.f4.f1),.int .i64 ((Qb l1 O).f0.f4.f2),.int .i64 ((Qb l1 O).f1),.bool ((Qb l1 O).f2),.bool ((Qb l1 O).f3)] 31 (0,0)) (by refine Qm (cs:=#[.int .i64 ((Qb l1 O).f0.f0),.int .i64 ((Qb l1 O).f0.f1),.int .i64 ((Qb l1 O).f0.f2),.int .i64 ((Qb l1 O).f0.f3),.int .i64 ((Qb l1 O).f0.f4.f0),.int .i64 ((Qb l1 O).f0.f4.f1),.int .i64 ((Qb l1 O).f0.f4.f2),.int .i64 ((Qb l1 O).f1),.bool ((Qb l1 O).f2),.bool false]) ?_ 9 _ rfl;refine Qm (cs:=#[.int .i64 ((Qb l1 O).f0.f0),.int .i64 ((Qb l1 O).f0.f1),.int .i64 ((Qb l1 O).f0.f2),.int .i64 ((Qb l1 O).f0.f3),.int .i64 ((Qb l1 O).f0.f4.f0),.int .i64 ((Qb l1 O).f0.f4.f1),.int .i64 ((Qb l1 O).f0.f4.f2),.int .i64 ((Qb l1 O).f1),.bool false,.bool false]) ?_ 8 _ rfl;refine Qm (cs:=#[.int .i64 ((Qb l1 O).f0.f0),.int .i64 ((Qb l1 O).f0.f1),.int .i64 ((Qb l1 O).f0.f2),.int .i64 ((Qb l1 O).f0.f3),.int .i64 ((Qb l1 O).f0.f4.f0),.int .i64 ((Qb l1 O).f0.f4.f1),.int .i64 ((Qb l1 O).f0.f4.f2),.int .i64 0,.bool false,.bool false]) ?_ 7 _ rfl;refine Qm (cs:=#[.int .i64 ((Qb l1 O).f0.f0),.int .i64 ((Qb l1 O).f0.f1),.int .i64 ((Qb l1 O).f0.f2),.int .i64 ((Qb l1 O).f0.f3),.int .i64 ((Qb l1 O).f0.f4.f0),.int .i64 ((Qb l1 O).f0.f4.f1),.int .i64 0,.int .i64 0,.bool false,.bool false]) ?_ 6 _ rfl;refine Qm (cs:=#[.int .i64 ((Qb l1 O).f0.f0),.int .i64 ((Qb l1 O).f0.f1),.int .i64 ((Qb l1 O).f0.f2),.int .i64 ((Qb l1 O).f0.f3),.int .i64 ((Qb l1 O).f0.f4.f0),.int .i64 0,.int .i64 0,.int .i64 0,.bool false,.bool false]) ?_ 5 _ rfl;refine Qm (cs:=#[.int .i64 ((Qb l1 O).f0.f0),.int .i64 ((Qb l1 O).f0.f1),.int .i64 ((Qb l1 O).f0.f2),.int .i64 ((Qb l1 O).f0.f3),.int .i64 0,.int .i64 0,.int .i64 0,.int .i64 0,.bool false,.bool false]) ?_ 4 _ rfl;refine Qm (cs:=#[.int .i64 ((Qb l1 O).f0.f0),.int .i64 ((Qb l1 O).f0.f1),.int .i64 ((Qb l1 O).f0.f2),.int .i64 0,.int .i64 0,.int .i64 0,.int .i64 0,.int .i64 0,.bool false,.bool false]) ?_ 3 _ rfl;refine Qm (cs:=#[.int .i64 ((Qb l1 O).f0.f0),.int .i64 ((Qb l1 O).f0.f1),.int .i64 0,.int .i64 0,.int .i64 0,.int .i64 0,.int .i64 0,.int .i64 0,.bool false,.bool false]) ?_ 2 _ rfl;refine Qm (cs:=#[.int .i64 ((Qb l1 O).f0.f0),.int .i64 0,.int .i64 0,.int .i64 0,.int .i64 0,.int .i64 0,.int .i64 0,.int .i64 0,.bool false,.bool false]) ?_ 1 _ rfl;refine Qm (cs:=#[.int .i64 0,.int .i64 0,.int .i64 0,.int .i64 0,.int .i64 0,.int .i64 0,.int .i64 0,.int .i64 0,.bool false,.bool false]) ?_ 0 _ rfl;exact a1.out) hb);replace HB:=sHb hb;(try clear hb);(try clear a4);(try clear hk);(try clear hi)))
          go_roundg k2
          case measure=>have:=dv.out;have:=ed.out;omega
          case rel=>exact⟨(wrap64 (O+1)),rfl,H',⟨by have:=dv.out;have:=ed.out;omega⟩,X,δ,HB⟩
         ·replace a2:=Bool.eq_false_iff.mpr a2
          subst a2
          have H1:(some 210)=some r:=by rw[if_neg (show ¬ (false=true) by decide)] at H;exact H
          clear H
          have H:=H1
          clear H1
          obtain rfl:=Option.some.inj H
          have ah:0≤(O:Int):=of_decide_eq_true (by assumption)
          have ai:O<(l1.length:Int):=of_decide_eq_true (by assumption)
          obtain⟨be,az,κ,μ,ν,ξ,ρ,φ,χ,ψ,ω,a0⟩:=Gq dk.out O ah ai
          cases az
          replace κ :=(HB.out.cell (World.block_lt_of_cell? w _ κ)).trans κ
          replace μ :=(HB.out.cell (World.block_lt_of_cell? w _ μ)).trans μ
          replace ν :=(HB.out.cell (World.block_lt_of_cell? w _ ν)).trans ν
          replace ξ :=(HB.out.cell (World.block_lt_of_cell? w _ ξ)).trans ξ
          replace ρ:=(HB.out.cell (World.block_lt_of_cell? w _ ρ)).trans ρ
          replace φ :=(HB.out.cell (World.block_lt_of_cell? w _ φ)).trans φ
          replace χ :=(HB.out.cell (World.block_lt_of_cell? w _ χ)).trans χ
          replace ψ :=(HB.out.cell (World.block_lt_of_cell? w _ ψ)).trans ψ
          replace ω :=(HB.out.cell (World.block_lt_of_cell? w _ ω)).trans ω
          replace a0:=(HB.out.cell (World.block_lt_of_cell? w _ a0)).trans a0
          replace ah:=eq_true ah
          replace ai:=eq_true ai
          go_wp2_with (first|((with_reducible refine Qe (N:=8) rfl ?_);(try(refine Zo (by rfl) ?_;dsimp only));refine qE 8 #[.int .i64 0,.int .i64 0,.int .i64 0,.int .i64 0,.int .i64 0,.int .i64 0,.int .i64 0,.int .i64 0,.bool false,.bool false] 31 ?_;intro av hg bc hbox hb;have a1:=Aside0.mk hbox;have bi:=sGe hg;have bj:=sGe hg;have a3:=sNl X hg;have a6:=sNg X hg;have a7:=sNl δ hg;have ae:=sNg δ hg;replace X:=sBk X hb;replace δ :=sBk δ hb;replace HB:=sHb hb;clear hb hbox hg;have g9:=a6.out;have gt:=a3.out;have di:=ae.out;have e5:=a7.out;obtain⟨b9,ba,bo,gz,h0,h4,h5,hy,i0,jj,bb,bf,d8,h6,h7,h8,h9,jk,jl,jm⟩:=Q5 a1.out;have d1:=ak.out;have d2:=ao.out;obtain⟨d9,da,dx,ee,ef,gf,gg,j4,j6,j7,db,dc,dy,gh,gi,gj,ic,j5,j8,j9⟩:=Q5 X.out)|((with_reducible refine Qd (f:=28) rfl ?_);refine Qn (some 25) rfl rfl Try.func28 kr rfl #[.agg #[.int .i64 B,.int .i64 J,.int .i64 L,.int .i64 Y,.int .i64 Z,.int .i64 ε,.int .i64 γ,.int .i64 θ,.int .i64 ζ,.int .i64 η],.agg #[.int .i64 ((Qb l1 O).f0.f0),.int .i64 ((Qb l1 O).f0.f1),.int .i64 ((Qb l1 O).f0.f2),.int .i64 ((Qb l1 O).f0.f3),.int .i64 ((Qb l1 O).f0.f4.f0),.int .i64 ((Qb l1 O).f0.f4.f1),.int .i64 ((Qb l1 O).f0.f4.f2),.int .i64 ((Qb l1 O).f1),.bool ((Qb l1 O).f2),.bool ((Qb l1 O).f3)]] rfl qM ?_;(with_reducible refine(group_lift.calls k2 B J L Y Z ε γ θ ζ η ((Qb l1 O).f0.f0) ((Qb l1 O).f0.f1) ((Qb l1 O).f0.f2) ((Qb l1 O).f0.f3) ((Qb l1 O).f0.f4.f0) ((Qb l1 O).f0.f4.f1) ((Qb l1 O).f0.f4.f2) ((Qb l1 O).f1) ((Qb l1 O).f2) ((Qb l1 O).f3) false _ b3.out).mono ?_);rintro e ey ⟨rfl,hb⟩;refine⟨_,rfl, ?_⟩;replace X:=sBk X hb;replace δ :=sBk δ hb;replace a1:=Aside0.mk (Qt (g:=av) (o:=.cells #[.int .i64 ((Qb l1 O).f0.f0),.int .i64 ((Qb l1 O).f0.f1),.int .i64 ((Qb l1 O).f0.f2),.int .i64 ((Qb l1 O).f0.f3),.int .i64 ((Qb l1 O).f0.f4.f0),.int .i64 ((Qb l1 O).f0.f4.f1),.int .i64 ((Qb l1 O).f0.f4.f2),.int .i64 ((Qb l1 O).f1),.bool ((Qb l1 O).f2),.bool ((Qb l1 O).f3)] 31 (0,0)) (by refine Qm (cs:=#[.int .i64 ((Qb l1 O).f0.f0),.int .i64 ((Qb l1 O).f0.f1),.int .i64 ((Qb l1 O).f0.f2),.int .i64 ((Qb l1 O).f0.f3),.int .i64 ((Qb l1 O).f0.f4.f0),.int .i64 ((Qb l1 O).f0.f4.f1),.int .i64 ((Qb l1 O).f0.f4.f2),.int .i64 ((Qb l1 O).f1),.bool ((Qb l1 O).f2),.bool false]) ?_ 9 _ rfl;refine Qm (cs:=#[.int .i64 ((Qb l1 O).f0.f0),.int .i64 ((Qb l1 O).f0.f1),.int .i64 ((Qb l1 O).f0.f2),.int .i64 ((Qb l1 O).f0.f3),.int .i64 ((Qb l1 O).f0.f4.f0),.int .i64 ((Qb l1 O).f0.f4.f1),.int .i64 ((Qb l1 O).f0.f4.f2),.int .i64 ((Qb l1 O).f1),.bool false,.bool false]) ?_ 8 _ rfl;refine Qm (cs:=#[.int .i64 ((Qb l1 O).f0.f0),.int .i64 ((Qb l1 O).f0.f1),.int .i64 ((Qb l1 O).f0.f2),.int .i64 ((Qb l1 O).f0.f3),.int .i64 ((Qb l1 O).f0.f4.f0),.int .i64 ((Qb l1 O).f0.f4.f1),.int .i64 ((Qb l1 O).f0.f4.f2),.int .i64 0,.bool false,.bool false]) ?_ 7 _ rfl;refine Qm (cs:=#[.int .i64 ((Qb l1 O).f0.f0),.int .i64 ((Qb l1 O).f0.f1),.int .i64 ((Qb l1 O).f0.f2),.int .i64 ((Qb l1 O).f0.f3),.int .i64 ((Qb l1 O).f0.f4.f0),.int .i64 ((Qb l1 O).f0.f4.f1),.int .i64 0,.int .i64 0,.bool false,.bool false]) ?_ 6 _ rfl;refine Qm (cs:=#[.int .i64 ((Qb l1 O).f0.f0),.int .i64 ((Qb l1 O).f0.f1),.int .i64 ((Qb l1 O).f0.f2),.int .i64 ((Qb l1 O).f0.f3),.int .i64 ((Qb l1 O).f0.f4.f0),.int .i64 0,.int .i64 0,.int .i64 0,.bool false,.bool false]) ?_ 5 _ rfl;refine Qm (cs:=#[.int .i64 ((Qb l1 O).f0.f0),.int .i64 ((Qb l1 O).f0.f1),.int .i64 ((Qb l1 O).f0.f2),.int .i64 ((Qb l1 O).f0.f3),.int .i64 0,.int .i64 0,.int .i64 0,.int .i64 0,.bool false,.bool false]) ?_ 4 _ rfl;refine Qm (cs:=#[.int .i64 ((Qb l1 O).f0.f0),.int .i64 ((Qb l1 O).f0.f1),.int .i64 ((Qb l1 O).f0.f2),.int .i64 0,.int .i64 0,.int .i64 0,.int .i64 0,.int .i64 0,.bool false,.bool false]) ?_ 3 _ rfl;refine Qm (cs:=#[.int .i64 ((Qb l1 O).f0.f0),.int .i64 ((Qb l1 O).f0.f1),.int .i64 0,.int .i64 0,.int .i64 0,.int .i64 0,.int .i64 0,.int .i64 0,.bool false,.bool false]) ?_ 2 _ rfl;refine Qm (cs:=#[.int .i64 ((Qb l1 O).f0.f0),.int .i64 0,.int .i64 0,.int .i64 0,.int .i64 0,.int .i64 0,.int .i64 0,.int .i64 0,.bool false,.bool false]) ?_ 1 _ rfl;refine Qm (cs:=#[.int .i64 0,.int .i64 0,.int .i64 0,.int .i64 0,.int .i64 0,.int .i64 0,.int .i64 0,.int .i64 0,.bool false,.bool false]) ?_ 0 _ rfl;exact a1.out) hb);replace HB:=sHb hb;(try clear hb);(try clear a4);(try clear hk);(try clear hi)))
          go_ret
          exact⟨rfl,HB.out⟩
        ·rw[if_neg al] at H
         exact absurd H (by simp)
       ·rw[if_neg c10] at H
        exact absurd H (by simp)
      ·rw[if_neg c9] at H
       have c9b0:decide (O<(l1.length:Int))=false:=decide_eq_false c9
       clear c9
       replace H:=Option.bind_eq_some_iff.mp H
       obtain⟨⟨aw,ax⟩,eh,H⟩:=H
       replace H:((call_Check.f k2 aw ax σ τ).bind fun aj=>(some aj))=some r:=H
       have i5:=Aside0.mk eh
       clear eh
       replace H:=Option.bind_eq_some_iff.mp H
       obtain⟨aj,b6,H⟩:=H
       replace H:(some aj)=some r:=H
       have bg:=Aside0.mk b6
       clear b6
       obtain rfl:=Option.some.inj H
       try go_wp2
       replace X:=Aside0.mk (Qf X.out)
       replace δ :=Aside0.mk (Qf δ.out)
       replace HB:=Aside0.mk (Qi HB.out)
       refine Zl (n:=6) (S:=fun w'=>w'.cell? ⟨ι,0,none⟩=some (.int .i64 B)∧w'.cell? ⟨ι,1,none⟩=some (.int .i64 J)∧w'.cell? ⟨ι,2,none⟩=some (.int .i64 L)∧w'.cell? ⟨ι,3,none⟩=some (.int .i64 Y)∧w'.cell? ⟨ι,4,none⟩=some (.int .i64 Z)∧w'.cell? ⟨ι,5,none⟩=some (.int .i64 ε)∧w'.cell? ⟨ι,6,none⟩=some (.int .i64 γ)∧w'.cell? ⟨ι,7,none⟩=some (.int .i64 θ)∧w'.cell? ⟨ι,8,none⟩=some (.int .i64 ζ)∧w'.cell? ⟨ι,9,none⟩=some (.int .i64 η)∧w'.cell? ⟨ap,0,none⟩=some (.slice a9 σ.length aa)∧w'.cell? ⟨ap,1,none⟩=some (.slice ab τ.length ac)) (ds:=[]) #[false,false,false,false,false,false] kr rfl rfl ⟨(Qa X.out 0).trans rfl,(Qa X.out 1).trans rfl,(Qa X.out 2).trans rfl,(Qa X.out 3).trans rfl,(Qa X.out 4).trans rfl,(Qa X.out 5).trans rfl,(Qa X.out 6).trans rfl,(Qa X.out 7).trans rfl,(Qa X.out 8).trans rfl,(Qa X.out 9).trans rfl,(Qa δ.out 0).trans rfl,(Qa δ.out 1).trans rfl⟩ (fun hHeld=>?_)
       generalize wr.drew=ej at X δ HB hHeld ⊢
       refine X0 (i:=1) (N:=some 29) (v:=?_) (a':=?_) (bN 6 2) rfl rfl kr (fun _ _ _ h=>h) (Or.inl ⟨by rfl, ?_⟩) ?_ ?_
       rotate_left
       ·intro w'
        go_simp
        with_reducible rfl
       rotate_left
       ·simp only[Act.put,qS,Za,Zb]
        rfl
       refine Jb (i:=0) (N:=some 28) (v:=?_) (a':=?_) (bN 6 3) rfl rfl kr (fun _ _ _ h=>h) (Or.inl ⟨by rfl, ?_⟩) hHeld ?_ ?_
       rotate_left
       ·rintro w' ⟨s0,s1,s2,s3,s4,s5,s6,s7,s8,s9,b1,b2⟩
        go_simp
        with_reducible rfl
       rotate_left
       ·simp only[Act.put,qS,Za,Zb]
        rfl
       refine Jb (i:=3) (N:=some 31) (v:=?_) (a':=?_) (bN 6 11) rfl rfl kr (fun _ _ _ h=>h) (Or.inl ⟨by rfl, ?_⟩) hHeld ?_ ?_
       rotate_left
       ·rintro w' ⟨s0,s1,s2,s3,s4,s5,s6,s7,s8,s9,b1,b2⟩
        go_simp
        with_reducible rfl
       rotate_left
       ·simp only[Act.put,qS,Za,Zb]
        rfl
       refine Zg (i:=2) (N:=some 30) (bN 6 15) rfl rfl kr (by decide) (fun K hK=>?_)
       refine Zf Try.func37 kr rfl #[.agg #[.int .i64 B,.int .i64 J,.int .i64 L,.int .i64 Y,.int .i64 Z,.int .i64 ε,.int .i64 γ,.int .i64 θ,.int .i64 ζ,.int .i64 η],.slice A1 l1.length c1] (by rfl) rfl rfl qM ?_
       with_reducible refine(group_house.calls B J L Y Z ε γ θ ζ η _ _ l1 aw ax _ ?side1 ?side2 i5.out).mono ?_
       (case side1=>exact(Kd.Qp dk.out HB.out))
       (case side2=>exact dz.out)
       rintro e k1 ⟨rfl,hb⟩
       refine⟨_,rfl, ?_⟩
       replace X:=sBk X hb
       replace δ :=sBk δ hb
       replace HB:=sHb hb
       (try clear hb)
       (try clear a4)
       (try clear hk)
       (try clear hi)
       refine hK.out _ _ ⟨qc X,qc X,qc X,qc X,qc X,qc X,qc X,qc X,qc X,qc X,qc δ,qc δ⟩ (fun hHeld=>?_)
       clear hK K
       refine qN (some 30) ?_
       refine Zg (i:=4) (N:=some 32) (bN 6 31) rfl rfl kr (by decide) (fun K hK=>?_)
       refine Zf Try.func40 kr rfl #[.agg #[.int .i64 aw,.int .i64 ax],.agg #[.slice a9 σ.length aa,.slice ab τ.length ac]] (by rfl) rfl rfl qM ?_
       with_reducible refine(call_Check.calls k2 aw ax _ _ σ _ _ τ aj _ ?side1 ?side2 ?side3 ?side4 bg.out).mono ?_
       (case side1=>exact(Kd.Qp b8.out HB.out))
       (case side2=>exact bn.out)
       (case side3=>exact(Kd.Qp bw.out HB.out))
       (case side4=>exact bz.out)
       rintro e nf ⟨rfl,hb⟩
       refine⟨_,rfl, ?_⟩
       replace X:=sBk X hb
       replace δ :=sBk δ hb
       replace HB:=sHb hb
       (try clear hb)
       (try clear a4)
       (try clear hk)
       (try clear hi)
       refine hK.out _ _ ⟨qc X,qc X,qc X,qc X,qc X,qc X,qc X,qc X,qc X,qc X,qc δ,qc δ⟩ (fun hHeld=>?_)
       clear hK K
       refine qN (some 32) ?_
       refine X0 (i:=5) (N:=some 6) (v:=?_) (a':=?_) (bN 6 63) rfl rfl kr (fun _ _ _ h=>h) (Or.inl ⟨by rfl, ?_⟩) ?_ ?_
       rotate_left
       ·intro w'
        go_simp
        with_reducible rfl
       rotate_left
       ·simp only[Act.put,qS,Za,Zb]
        rfl
       refine Z2 kr ?_
       try go_wp2
       go_ret
       exact⟨rfl,HB.out⟩
end Go.Proofs.Ytmfffemidlhcpaa.C
