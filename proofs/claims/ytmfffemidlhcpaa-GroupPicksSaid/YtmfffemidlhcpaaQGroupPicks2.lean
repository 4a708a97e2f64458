/- Texts of this claim, one behind the other: what the law's functions come to, walked (printed by a program, with the words that the print uses), and what that is, in plain Lean. No conditions of their own. -/
import Derived.Test.YtmfffemidlhcpaaQGroupPicks1
import Derived.Test.YtmfffemidlhcpaaProg
namespace Go.Proofs.YtmfffemidlhcpaaW.PrintWords
open Go.RowKit Go.Proofs.YtmfffemidlhcpaaW.PrintLast Go.Proofs.YtmfffemidlhcpaaW.PrintMore
theorem qO {α β:Type} {x:Option α} {f:α→Option β} {b:β} (h:x.bind f=some b):∃ a,x=some a∧f a=some b:=Option.bind_eq_some_iff.mp h
theorem qQ {α β:Type} {x:Option α} {f:α→Option β} {b:β} (h:x.bind f=some b):∃ a,Aside0 (x=some a)∧f a=some b:=(Option.bind_eq_some_iff.mp h).elim fun a h=>⟨a,⟨h.1⟩,h.2⟩
theorem qJ {α:Type} {a b:α} (h:some a=some b):a=b:=Option.some.inj h
theorem nft:¬ (false=true):=fun h=>Bool.noConfusion h
theorem sCl {w w1:World} {n:Nat} (hb:Aside0 (Below n w w1)) {p:Addr} {v:Value} (h:w.cell? p=some v) (hn:n=w.heap.size:=by rfl):w1.cell? p=some v:=by subst hn;exact(hb.out.cell (World.block_lt_of_cell? w _ h)).trans h
theorem aK {p:Prop} (h:p):Aside0 p:=⟨h⟩
def qB (n m:Nat):Array Bool:=((List.range n).map fun i=>m.testBit i).toArray
theorem qP {P:Program} {ops:Array Oper} {Q:Exit→Act→World→Prop} {md:Region.Mode} {S:World→Prop} {ds:List Nat} {oi:Oper} {v:Value} {fuel:Nat} {l:Array Bool} {a:Act} {w:World} {T:Bool×List (List Nat×List Nat)} (i:Nat) (N:Option Tmp) (l':Array Bool) (ht:Aside0 (rtab md ops=T)) {a':Act} (h:Q6 P md ops Q S ds fuel l' a' w) (hi:ops[i]?=some oi:=by rfl) (hN:oi.dst=N:=by rfl) (hc:Df T l.toList l'.toList i=true:=by kernel_rfl) (hQ:∀ c a w,Q (.panic c) (a.put oi.dst v) w→Q (.panic c) a w:=by exact(fun _ _ _ h=>h)) (hy:Yields P ops oi v a:=by(refine Or.inl ⟨by rfl, ?_⟩;intro w';go_simp;with_reducible rfl)) (ha:a.put N v=a':=by(simp only[Act.put,qS,Za,Zb];rfl)):Q6 P md ops Q S ds (fuel+1) l a w:=Xe l' hi hN (Ee ht.out hc) hQ hy ha h
theorem qU {P:Program} {ops:Array Oper} {Q:Exit→Act→World→Prop} {md:Region.Mode} {S:World→Prop} {ds:List Nat} {oi:Oper} {fuel:Nat} {l:Array Bool} {a:Act} {w:World} {T:Bool×List (List Nat×List Nat)} (i:Nat) (N:Option Tmp) (l':Array Bool) (ht:Aside0 (rtab md ops=T)) {a':Act} (h:Q6 P md ops Q S ds fuel l' a' w) (hi:ops[i]?=some oi:=by rfl) (hN:oi.dst=N:=by rfl) (hc:Df T l.toList l'.toList i=true:=by kernel_rfl) (hQ:∀ c a w,Q (.panic c) (a.put oi.dst undef) w→Q (.panic c) a w:=by exact(fun _ _ _ h=>h)) (hy:Yields P ops oi undef a:=by exact(Or.inr ⟨by rfl,rfl⟩)) (ha:a.put N undef=a':=by(simp only[Act.put,qS,Za,Zb];rfl)):Q6 P md ops Q S ds (fuel+1) l a w:=Xe l' hi hN (Ee ht.out hc) hQ hy ha h
theorem qT {P:Program} {ops:Array Oper} {Q:Exit→Act→World→Prop} {md:Region.Mode} {S:World→Prop} {ds:List Nat} {oi:Oper} {v:Value} {fuel:Nat} {l:Array Bool} {a:Act} {w:World} {T:Bool×List (List Nat×List Nat)} {B:List Nat} (i:Nat) (N:Option Tmp) (l':Array Bool) (ht:Aside0 (rtab md ops=T)) (hW:Aside0 (Zk T.snd B=true)) (hS:S w) {a':Act} (h:Q6 P md ops Q S ds fuel l' a' w) (hi:ops[i]?=some oi:=by rfl) (hN:oi.dst=N:=by rfl) (hc:M9 T B ds l.toList l'.toList i=true:=by kernel_rfl) (hQ:∀ c a w,Q (.panic c) (a.put oi.dst v) w→Q (.panic c) a w:=by exact(fun _ _ _ h=>h)) (hy:YieldsIf P ops S oi v a:=by(refine Or.inl ⟨by rfl, ?_⟩;intro w' hs_;(repeat obtain⟨_,hs_⟩:=(hs_:_∧_));go_simp;with_reducible rfl)) (ha:a.put N v=a':=by(simp only[Act.put,qS,Za,Zb];rfl)):Q6 P md ops Q S ds (fuel+1) l a w:=X2 l' hi hN (M8 ht.out hW.out hc) hQ hy hS ha h
theorem qN {P:Program} {ops:Array Oper} {Q:Exit→Act→World→Prop} {md:Region.Mode} {S:World→Prop} {ds:List Nat} {v:Value} {fuel:Nat} {l:Array Bool} {a:Act} {w:World} (N:Option Tmp) {a':Act} (h:Q6 P md ops Q S ds fuel l a' w) (ha:a.put N v=a':=by(simp only[Act.put,qS,Za,Zb];rfl)):Q6 P md ops Q S ds fuel l (a.put N v) w:=Zw ha h
theorem qc {w:World} {g i:Nat} {t:TypeId} {cs:Array Value} {v:Value} (b:Aside0 (w.heap[g]?=some (.cells cs t (0,0)))) (h:cs[i]?=some v:=by exact rfl):w.cell? ⟨g,i,none⟩=some v:=(Qa b.out i).trans h
theorem qM {p:Prop} (h:p:=by((try simp only[List.map_toArray,List.map_cons,List.map_nil]) <;> (first|done|rfl))):p:=h
theorem qE {P:Program} {ops:Array Oper} {Q:Exit→Act→World→Prop} {o:Oper} {rest:List Oper} {a:Act} {W:World} (N:Tmp) (cs:Array Value) (t:TypeId) (h:∀ g,g=W.heap.size → ∀ w1,w1.heap[g]?=some (.cells cs t (0,0))→Below W.heap.size W w1→wpList P ops Q rest (a.put o.dst (.pointer (some ⟨g,0,none⟩))) w1) (hd:o.dst=some N:=by rfl) (hg:o.guard=none:=by rfl) (hr:(execOp a.eval o).run P W = .ok (.value (.pointer (some ⟨W.heap.size,0,none⟩))) (W.alloc (.cells cs t (0,0))):=by(go_simp <;> rfl)):wpList P ops Q (o :: rest) a W:=Zh hg (N:=N) hd (cs:=cs) (t:=t) hr h
theorem qD1 {w:World} {g:Nat} {t:TypeId} {B:Value} (b:w.heap[g]?=some (.cells #[B] t (0,0))):w.cell? ⟨g,0,none⟩=some B∧w.frozen? ⟨g,0,none⟩=false:=⟨(Qa b 0).trans rfl,Qh b 0⟩
theorem qD2 {w:World} {g:Nat} {t:TypeId} {B X:Value} (b:w.heap[g]?=some (.cells #[B,X] t (0,0))):w.cell? ⟨g,0,none⟩=some B∧w.cell? ⟨g,1,none⟩=some X∧w.frozen? ⟨g,0,none⟩=false∧w.frozen? ⟨g,1,none⟩=false:=⟨(Qa b 0).trans rfl,(Qa b 1).trans rfl,Qh b 0,Qh b 1⟩
theorem qD3 {w:World} {g:Nat} {t:TypeId} {B X a2:Value} (b:w.heap[g]?=some (.cells #[B,X,a2] t (0,0))):w.cell? ⟨g,0,none⟩=some B∧w.cell? ⟨g,1,none⟩=some X∧w.cell? ⟨g,2,none⟩=some a2∧w.frozen? ⟨g,0,none⟩=false∧w.frozen? ⟨g,1,none⟩=false∧w.frozen? ⟨g,2,none⟩=false:=⟨(Qa b 0).trans rfl,(Qa b 1).trans rfl,(Qa b 2).trans rfl,Qh b 0,Qh b 1,Qh b 2⟩
theorem qD7 {w:World} {g:Nat} {t:TypeId} {B X a2 a3 O a5 Y:Value} (b:w.heap[g]?=some (.cells #[B,X,a2,a3,O,a5,Y] t (0,0))):w.cell? ⟨g,0,none⟩=some B∧w.cell? ⟨g,1,none⟩=some X∧w.cell? ⟨g,2,none⟩=some a2∧w.cell? ⟨g,3,none⟩=some a3∧w.cell? ⟨g,4,none⟩=some O∧w.cell? ⟨g,5,none⟩=some a5∧w.cell? ⟨g,6,none⟩=some Y∧w.frozen? ⟨g,0,none⟩=false∧w.frozen? ⟨g,1,none⟩=false∧w.frozen? ⟨g,2,none⟩=false∧w.frozen? ⟨g,3,none⟩=false∧w.frozen? ⟨g,4,none⟩=false∧w.frozen? ⟨g,5,none⟩=false∧w.frozen? ⟨g,6,none⟩=false:=⟨(Qa b 0).trans rfl,(Qa b 1).trans rfl,(Qa b 2).trans rfl,(Qa b 3).trans rfl,(Qa b 4).trans rfl,(Qa b 5).trans rfl,(Qa b 6).trans rfl,Qh b 0,Qh b 1,Qh b 2,Qh b 3,Qh b 4,Qh b 5,Qh b 6⟩
theorem qD8 {w:World} {g:Nat} {t:TypeId} {B X a2 a3 O a5 Y a7:Value} (b:w.heap[g]?=some (.cells #[B,X,a2,a3,O,a5,Y,a7] t (0,0))):w.cell? ⟨g,0,none⟩=some B∧w.cell? ⟨g,1,none⟩=some X∧w.cell? ⟨g,2,none⟩=some a2∧w.cell? ⟨g,3,none⟩=some a3∧w.cell? ⟨g,4,none⟩=some O∧w.cell? ⟨g,5,none⟩=some a5∧w.cell? ⟨g,6,none⟩=some Y∧w.cell? ⟨g,7,none⟩=some a7∧w.frozen? ⟨g,0,none⟩=false∧w.frozen? ⟨g,1,none⟩=false∧w.frozen? ⟨g,2,none⟩=false∧w.frozen? ⟨g,3,none⟩=false∧w.frozen? ⟨g,4,none⟩=false∧w.frozen? ⟨g,5,none⟩=false∧w.frozen? ⟨g,6,none⟩=false∧w.frozen? ⟨g,7,none⟩=false:=⟨(Qa b 0).trans rfl,(Qa b 1).trans rfl,(Qa b 2).trans rfl,(Qa b 3).trans rfl,(Qa b 4).trans rfl,(Qa b 5).trans rfl,(Qa b 6).trans rfl,(Qa b 7).trans rfl,Qh b 0,Qh b 1,Qh b 2,Qh b 3,Qh b 4,Qh b 5,Qh b 6,Qh b 7⟩
theorem Zg {w:World} {g:Nat} {t:TypeId} {B X a2 a3 O a5 Y a7 a8 a9:Value} (b:w.heap[g]?=some (.cells #[B,X,a2,a3,O,a5,Y,a7,a8,a9] t (0,0))):w.cell? ⟨g,0,none⟩=some B∧w.cell? ⟨g,1,none⟩=some X∧w.cell? ⟨g,2,none⟩=some a2∧w.cell? ⟨g,3,none⟩=some a3∧w.cell? ⟨g,4,none⟩=some O∧w.cell? ⟨g,5,none⟩=some a5∧w.cell? ⟨g,6,none⟩=some Y∧w.cell? ⟨g,7,none⟩=some a7∧w.cell? ⟨g,8,none⟩=some a8∧w.cell? ⟨g,9,none⟩=some a9∧w.frozen? ⟨g,0,none⟩=false∧w.frozen? ⟨g,1,none⟩=false∧w.frozen? ⟨g,2,none⟩=false∧w.frozen? ⟨g,3,none⟩=false∧w.frozen? ⟨g,4,none⟩=false∧w.frozen? ⟨g,5,none⟩=false∧w.frozen? ⟨g,6,none⟩=false∧w.frozen? ⟨g,7,none⟩=false∧w.frozen? ⟨g,8,none⟩=false∧w.frozen? ⟨g,9,none⟩=false:=⟨(Qa b 0).trans rfl,(Qa b 1).trans rfl,(Qa b 2).trans rfl,(Qa b 3).trans rfl,(Qa b 4).trans rfl,(Qa b 5).trans rfl,(Qa b 6).trans rfl,(Qa b 7).trans rfl,(Qa b 8).trans rfl,(Qa b 9).trans rfl,Qh b 0,Qh b 1,Qh b 2,Qh b 3,Qh b 4,Qh b 5,Qh b 6,Qh b 7,Qh b 8,Qh b 9⟩
end Go.Proofs.YtmfffemidlhcpaaW.PrintWords
namespace Go.Proofs.Ytmfffemidlhcpaa.C
open Go.RowKit Go.Proofs.YtmfffemidlhcpaaW.PrintWords Go.Proofs.YtmfffemidlhcpaaW.PrintLast Go.Proofs.YtmfffemidlhcpaaW.PrintMore
attribute [local go_sem] Z0 Zy Z6 Z5 Zr Zq Zz Zx
set_option linter.unusedVariables false
set_option linter.unusedSimpArgs false
def N4:Option Int→Value
 |none=>.nilIface
 |some c=>.iface 0 (.int .i64 c)
theorem Qk:N4 none = .nilIface:=rfl
theorem Qj (c:Int):N4 (some c) = .iface 0 (.int .i64 c):=rfl
theorem Kf:(Try.prog.info? 3).map (fun i=>(i.zero,i.size,i.bytes))=some (some (.int .i64 0),1,8):=by kernel_rfl
theorem Jy:(Try.prog.info? 36).map (fun i=>(i.zero,i.size,i.bytes))=some (some (.agg #[(.int .i64 0),(.int .i64 0),(.int .i64 0)]),3,24):=by kernel_rfl
theorem Gc:(Try.prog.info? 86).map (fun i=>(i.zero,i.size,i.bytes))=some (some (.agg #[(.int .i64 0),(.int .i64 0)]),2,16):=by kernel_rfl
structure S27 where
 f0:Int
 f1:Int
 f2:Int
def z27:S27:=⟨(0:Int),(0:Int),(0:Int)⟩
def k27:Kd S27:=Kd.iso (Kd.pair (Kd.int .i64) (Kd.pair (Kd.int .i64) (Kd.int .i64))) (fun x:S27=>(x.f0,x.f1,x.f2))
theorem Nx {w:World} {x:S27} {cs:List Value} (h:k27.K w x cs):cs = [.int .i64 x.f0,.int .i64 x.f1,.int .i64 x.f2]:=by
 obtain⟨_,_,rfl,rfl,⟨_,_,rfl,rfl,rfl⟩⟩:=h
 exact rfl
theorem E6 (w:World) (base:Nat) (ok:Nat→Prop) (x:S27):k27.M w base ok x [.int .i64 x.f0,.int .i64 x.f1,.int .i64 x.f2]:=⟨[.int .i64 x.f0],[.int .i64 x.f1,.int .i64 x.f2],rfl,rfl,⟨[.int .i64 x.f1],[.int .i64 x.f2],rfl,rfl,rfl⟩⟩
def Y4 (xs:List (List Int)) (i:Int):(List Int):=xs.getD i.toNat ([]:List Int)
theorem Dy {w:World} {A:Option Addr} {n:Nat} {xs:List (List Int)} (h:Kd.C (Kd.slice 3 (Kd.int .i64)) w A n xs) (i:Int) (Y:0≤i) (h1:i<n):∃ ad Z c0,A=some ad∧w.cell? (ad.add i.toNat)=some (.slice Z (Y4 xs i).length c0)∧(Y4 xs i).length≤c0∧(Kd.int .i64).C w Z (Y4 xs i).length (Y4 xs i):=by
 obtain⟨ad,c,e,_,hK,γ⟩:=Kd.V2 h ([]:List Int) i Y h1
 have hc:∀ j u,c[j]?=some u→w.cell? (ad.add (i.toNat * 1+j))=some u:=γ
 obtain⟨Z,c0,rfl,l0,g0⟩:=hK
 exact⟨ad,Z,c0,e,by have hq:=hc 0 _ rfl;rwa[Nat.mul_one,Nat.add_zero] at hq,l0,g0⟩
structure S36 where
 f0:Int
 f1:Int
 f2:Int
def z36:S36:=⟨(0:Int),(0:Int),(0:Int)⟩
def k36:Kd S36:=Kd.iso (Kd.pair (Kd.int .i64) (Kd.pair (Kd.int .i64) (Kd.int .i64))) (fun x:S36=>(x.f0,x.f1,x.f2))
theorem Kz {w:World} {x:S36} {cs:List Value} (h:k36.K w x cs):cs = [.int .i64 x.f0,.int .i64 x.f1,.int .i64 x.f2]:=by
 obtain⟨_,_,rfl,rfl,⟨_,_,rfl,rfl,rfl⟩⟩:=h
 exact rfl
theorem Yh {w:World} {base:Nat} {ok:Nat→Prop} {x:S36} {cs:List Value} (h:k36.M w base ok x cs):cs = [.int .i64 x.f0,.int .i64 x.f1,.int .i64 x.f2]:=by
 obtain⟨_,_,rfl,rfl,⟨_,_,rfl,rfl,rfl⟩⟩:=h
 exact rfl
theorem K2 (w:World) (base:Nat) (ok:Nat→Prop) (x:S36):k36.M w base ok x [.int .i64 x.f0,.int .i64 x.f1,.int .i64 x.f2]:=⟨[.int .i64 x.f0],[.int .i64 x.f1,.int .i64 x.f2],rfl,rfl,⟨[.int .i64 x.f1],[.int .i64 x.f2],rfl,rfl,rfl⟩⟩
def Qc (xs:List S36) (i:Int):S36:=xs.getD i.toNat z36
theorem Xc {w:World} {A:Option Addr} {n:Nat} {xs:List S36} (h:Kd.C k36 w A n xs) (i:Int) (Y:0≤i) (h1:i<n):∃ ad,A=some ad∧w.cell? (ad.add (i.toNat * 3))=some (.int .i64 (Qc xs i).f0)∧w.cell? ⟨(ad.add (i.toNat * 3)).block,(ad.add (i.toNat * 3)).off+1,none⟩=some (.int .i64 (Qc xs i).f1)∧w.cell? ⟨(ad.add (i.toNat * 3)).block,(ad.add (i.toNat * 3)).off+2,none⟩=some (.int .i64 (Qc xs i).f2):=by
 obtain⟨ad,c,e,_,hK,γ⟩:=Kd.V2 h z36 i Y h1
 have hc:∀ j u,c[j]?=some u→w.cell? (ad.add (i.toNat * 3+j))=some u:=γ
 obtain rfl:=Kz hK
 exact⟨ad,e,hc 0 _ rfl,by rw[← Z4 _ _ 1 (by omega)];exact hc 1 _ rfl,by rw[← Z4 _ _ 2 (by omega)];exact hc 2 _ rfl⟩
structure S86 where
 f0:Int
 f1:Int
def z86:S86:=⟨(0:Int),(0:Int)⟩
def k86:Kd S86:=Kd.iso (Kd.pair (Kd.int .i64) (Kd.int .i64)) (fun x:S86=>(x.f0,x.f1))
theorem Ky {w:World} {x:S86} {cs:List Value} (h:k86.K w x cs):cs = [.int .i64 x.f0,.int .i64 x.f1]:=by
 obtain⟨_,_,rfl,rfl,rfl⟩:=h
 exact rfl
theorem J7 {w:World} {base:Nat} {ok:Nat→Prop} {x:S86} {cs:List Value} (h:k86.M w base ok x cs):cs = [.int .i64 x.f0,.int .i64 x.f1]:=by
 obtain⟨_,_,rfl,rfl,rfl⟩:=h
 exact rfl
theorem Ns (w:World) (x:S86):k86.K w x [.int .i64 x.f0,.int .i64 x.f1]:=⟨[.int .i64 x.f0],[.int .i64 x.f1],rfl,rfl,rfl⟩
theorem Uc (w:World) (base:Nat) (ok:Nat→Prop) (x:S86):k86.M w base ok x [.int .i64 x.f0,.int .i64 x.f1]:=⟨[.int .i64 x.f0],[.int .i64 x.f1],rfl,rfl,rfl⟩
def Qp (xs:List S86) (i:Int):S86:=xs.getD i.toNat z86
theorem Xk {w:World} {A:Option Addr} {n:Nat} {xs:List S86} (h:Kd.C k86 w A n xs) (i:Int) (Y:0≤i) (h1:i<n):∃ ad,A=some ad∧w.cell? (ad.add (i.toNat * 2))=some (.int .i64 (Qp xs i).f0)∧w.cell? ⟨(ad.add (i.toNat * 2)).block,(ad.add (i.toNat * 2)).off+1,none⟩=some (.int .i64 (Qp xs i).f1):=by
 obtain⟨ad,c,e,_,hK,γ⟩:=Kd.V2 h z86 i Y h1
 have hc:∀ j u,c[j]?=some u→w.cell? (ad.add (i.toNat * 2+j))=some u:=γ
 obtain rfl:=Ky hK
 exact⟨ad,e,hc 0 _ rfl,by rw[← Z4 _ _ 1 (by omega)];exact hc 1 _ rfl⟩
structure S50 where
 f0:(List S36)
 f1:(List S86)
def k50:Kd S50:=Kd.iso (Kd.pair (Kd.slice 36 k36) (Kd.slice 86 k86)) (fun x:S50=>(x.f0,x.f1))
theorem Nu {w:World} {x:S50} {cs:List Value} (h:k50.K w x cs):∃ Z c0 A1 c1,cs = [.slice Z x.f0.length c0,.slice A1 x.f1.length c1]∧x.f0.length≤c0∧k36.C w Z x.f0.length x.f0∧x.f1.length≤c1∧k86.C w A1 x.f1.length x.f1:=by
 obtain⟨_,_,rfl,⟨Z,c0,rfl,l0,g0⟩,⟨A1,c1,rfl,l1,g1⟩⟩:=h
 exact⟨Z,c0,A1,c1,rfl,l0,g0,l1,g1⟩
structure S29 where
 f0:Int
 f1:Int
 f2:Int
 f3:Int
 f4:S27
def z29:S29:=⟨(0:Int),(0:Int),(0:Int),(0:Int),z27⟩
def k29:Kd S29:=Kd.iso (Kd.pair (Kd.int .i64) (Kd.pair (Kd.int .i64) (Kd.pair (Kd.int .i64) (Kd.pair (Kd.int .i64) k27)))) (fun x:S29=>(x.f0,x.f1,x.f2,x.f3,x.f4))
theorem Nw {w:World} {x:S29} {cs:List Value} (h:k29.K w x cs):cs = [.int .i64 x.f0,.int .i64 x.f1,.int .i64 x.f2,.int .i64 x.f3,.int .i64 x.f4.f0,.int .i64 x.f4.f1,.int .i64 x.f4.f2]:=by
 obtain⟨_,_,rfl,rfl,⟨_,_,rfl,rfl,⟨_,_,rfl,rfl,⟨_,_,rfl,rfl,s4⟩⟩⟩⟩:=h
 obtain rfl:=Nx s4
 exact rfl
theorem E5 (w:World) (base:Nat) (ok:Nat→Prop) (x:S29):k29.M w base ok x [.int .i64 x.f0,.int .i64 x.f1,.int .i64 x.f2,.int .i64 x.f3,.int .i64 x.f4.f0,.int .i64 x.f4.f1,.int .i64 x.f4.f2]:=⟨[.int .i64 x.f0],[.int .i64 x.f1,.int .i64 x.f2,.int .i64 x.f3,.int .i64 x.f4.f0,.int .i64 x.f4.f1,.int .i64 x.f4.f2],rfl,rfl,⟨[.int .i64 x.f1],[.int .i64 x.f2,.int .i64 x.f3,.int .i64 x.f4.f0,.int .i64 x.f4.f1,.int .i64 x.f4.f2],rfl,rfl,⟨[.int .i64 x.f2],[.int .i64 x.f3,.int .i64 x.f4.f0,.int .i64 x.f4.f1,.int .i64 x.f4.f2],rfl,rfl,⟨[.int .i64 x.f3],[.int .i64 x.f4.f0,.int .i64 x.f4.f1,.int .i64 x.f4.f2],rfl,rfl,(E6 w base ok x.f4)⟩⟩⟩⟩
structure S31 where
 f0:S29
 f1:Int
 f2:Bool
 f3:Bool
def z31:S31:=⟨z29,(0:Int),false,false⟩
def k31:Kd S31:=Kd.iso (Kd.pair k29 (Kd.pair (Kd.int .i64) (Kd.pair Kd.bool Kd.bool))) (fun x:S31=>(x.f0,x.f1,x.f2,x.f3))
theorem Nv {w:World} {x:S31} {cs:List Value} (h:k31.K w x cs):cs = [.int .i64 x.f0.f0,.int .i64 x.f0.f1,.int .i64 x.f0.f2,.int .i64 x.f0.f3,.int .i64 x.f0.f4.f0,.int .i64 x.f0.f4.f1,.int .i64 x.f0.f4.f2,.int .i64 x.f1,.bool x.f2,.bool x.f3]:=by
 obtain⟨_,_,rfl,s0,⟨_,_,rfl,rfl,⟨_,_,rfl,rfl,rfl⟩⟩⟩:=h
 obtain rfl:=Nw s0
 exact rfl
theorem Lq (w:World) (base:Nat) (ok:Nat→Prop) (x:S31):k31.M w base ok x [.int .i64 x.f0.f0,.int .i64 x.f0.f1,.int .i64 x.f0.f2,.int .i64 x.f0.f3,.int .i64 x.f0.f4.f0,.int .i64 x.f0.f4.f1,.int .i64 x.f0.f4.f2,.int .i64 x.f1,.bool x.f2,.bool x.f3]:=⟨[.int .i64 x.f0.f0,.int .i64 x.f0.f1,.int .i64 x.f0.f2,.int .i64 x.f0.f3,.int .i64 x.f0.f4.f0,.int .i64 x.f0.f4.f1,.int .i64 x.f0.f4.f2],[.int .i64 x.f1,.bool x.f2,.bool x.f3],rfl,(E5 w base ok x.f0),⟨[.int .i64 x.f1],[.bool x.f2,.bool x.f3],rfl,rfl,⟨[.bool x.f2],[.bool x.f3],rfl,rfl,rfl⟩⟩⟩
def Qb (xs:List S31) (i:Int):S31:=xs.getD i.toNat z31
theorem Yy {w:World} {A:Option Addr} {n:Nat} {xs:List S31} (h:Kd.C k31 w A n xs) (i:Int) (Y:0≤i) (h1:i<n):∃ ad,A=some ad∧w.cell? (ad.add (i.toNat * 10))=some (.int .i64 (Qb xs i).f0.f0)∧w.cell? ⟨(ad.add (i.toNat * 10)).block,(ad.add (i.toNat * 10)).off+1,none⟩=some (.int .i64 (Qb xs i).f0.f1)∧w.cell? ⟨(ad.add (i.toNat * 10)).block,(ad.add (i.toNat * 10)).off+2,none⟩=some (.int .i64 (Qb xs i).f0.f2)∧w.cell? ⟨(ad.add (i.toNat * 10)).block,(ad.add (i.toNat * 10)).off+3,none⟩=some (.int .i64 (Qb xs i).f0.f3)∧w.cell? ⟨(ad.add (i.toNat * 10)).block,(ad.add (i.toNat * 10)).off+4,none⟩=some (.int .i64 (Qb xs i).f0.f4.f0)∧w.cell? ⟨(ad.add (i.toNat * 10)).block,(ad.add (i.toNat * 10)).off+5,none⟩=some (.int .i64 (Qb xs i).f0.f4.f1)∧w.cell? ⟨(ad.add (i.toNat * 10)).block,(ad.add (i.toNat * 10)).off+6,none⟩=some (.int .i64 (Qb xs i).f0.f4.f2)∧w.cell? ⟨(ad.add (i.toNat * 10)).block,(ad.add (i.toNat * 10)).off+7,none⟩=some (.int .i64 (Qb xs i).f1)∧w.cell? ⟨(ad.add (i.toNat * 10)).block,(ad.add (i.toNat * 10)).off+8,none⟩=some (.bool (Qb xs i).f2)∧w.cell? ⟨(ad.add (i.toNat * 10)).block,(ad.add (i.toNat * 10)).off+9,none⟩=some (.bool (Qb xs i).f3):=by
 obtain⟨ad,c,e,_,hK,γ⟩:=Kd.V2 h z31 i Y h1
 have hc:∀ j u,c[j]?=some u→w.cell? (ad.add (i.toNat * 10+j))=some u:=γ
 obtain rfl:=Nv hK
 exact⟨ad,e,hc 0 _ rfl,by rw[← Z4 _ _ 1 (by omega)];exact hc 1 _ rfl,by rw[← Z4 _ _ 2 (by omega)];exact hc 2 _ rfl,by rw[← Z4 _ _ 3 (by omega)];exact hc 3 _ rfl,by rw[← Z4 _ _ 4 (by omega)];exact hc 4 _ rfl,by rw[← Z4 _ _ 5 (by omega)];exact hc 5 _ rfl,by rw[← Z4 _ _ 6 (by omega)];exact hc 6 _ rfl,by rw[← Z4 _ _ 7 (by omega)];exact hc 7 _ rfl,by rw[← Z4 _ _ 8 (by omega)];exact hc 8 _ rfl,by rw[← Z4 _ _ 9 (by omega)];exact hc 9 _ rfl⟩
structure S23 where
 f0:Int
 f1:Int
 f2:Int
 f3:Int
 f4:Int
 f5:Int
 f6:Int
def k23:Kd S23:=Kd.iso (Kd.pair (Kd.int .i64) (Kd.pair (Kd.int .i64) (Kd.pair (Kd.int .i64) (Kd.pair (Kd.int .i64) (Kd.pair (Kd.int .i64) (Kd.pair (Kd.int .i64) (Kd.int .i64))))))) (fun x:S23=>(x.f0,x.f1,x.f2,x.f3,x.f4,x.f5,x.f6))
theorem Nz {w:World} {x:S23} {cs:List Value} (h:k23.K w x cs):cs = [.int .i64 x.f0,.int .i64 x.f1,.int .i64 x.f2,.int .i64 x.f3,.int .i64 x.f4,.int .i64 x.f5,.int .i64 x.f6]:=by
 obtain⟨_,_,rfl,rfl,⟨_,_,rfl,rfl,⟨_,_,rfl,rfl,⟨_,_,rfl,rfl,⟨_,_,rfl,rfl,⟨_,_,rfl,rfl,rfl⟩⟩⟩⟩⟩⟩:=h
 exact rfl
structure S25 where
 f0:Int
 f1:S23
 f2:Int
 f3:Int
def k25:Kd S25:=Kd.iso (Kd.pair (Kd.int .i64) (Kd.pair k23 (Kd.pair (Kd.int .i64) (Kd.int .i64)))) (fun x:S25=>(x.f0,x.f1,x.f2,x.f3))
theorem Ny {w:World} {x:S25} {cs:List Value} (h:k25.K w x cs):cs = [.int .i64 x.f0,.int .i64 x.f1.f0,.int .i64 x.f1.f1,.int .i64 x.f1.f2,.int .i64 x.f1.f3,.int .i64 x.f1.f4,.int .i64 x.f1.f5,.int .i64 x.f1.f6,.int .i64 x.f2,.int .i64 x.f3]:=by
 obtain⟨_,_,rfl,rfl,⟨_,_,rfl,s1,⟨_,_,rfl,rfl,rfl⟩⟩⟩:=h
 obtain rfl:=Nz s1
 exact rfl
structure S52 where
 f0:S25
 f1:(List S31)
 f2:Int
 f3:S50
def k52:Kd S52:=Kd.iso (Kd.pair k25 (Kd.pair (Kd.slice 31 k31) (Kd.pair (Kd.int .i64) k50))) (fun x:S52=>(x.f0,x.f1,x.f2,x.f3))
theorem Nt {w:World} {x:S52} {cs:List Value} (h:k52.K w x cs):∃ bn c10 b6 a5 br ψ,cs = [.int .i64 x.f0.f0,.int .i64 x.f0.f1.f0,.int .i64 x.f0.f1.f1,.int .i64 x.f0.f1.f2,.int .i64 x.f0.f1.f3,.int .i64 x.f0.f1.f4,.int .i64 x.f0.f1.f5,.int .i64 x.f0.f1.f6,.int .i64 x.f0.f2,.int .i64 x.f0.f3,.slice bn x.f1.length c10,.int .i64 x.f2,.slice b6 x.f3.f0.length a5,.slice br x.f3.f1.length ψ]∧x.f1.length≤c10∧k31.C w bn x.f1.length x.f1∧x.f3.f0.length≤a5∧k36.C w b6 x.f3.f0.length x.f3.f0∧x.f3.f1.length ≤ ψ ∧ k86.C w br x.f3.f1.length x.f3.f1:=by
 obtain⟨_,_,rfl,s0,⟨_,_,rfl,⟨bn,c10,rfl,l10,B⟩,⟨_,_,rfl,rfl,b5⟩⟩⟩:=h
 obtain rfl:=Ny s0
 obtain⟨b6,a5,br,ψ,rfl,J,O,X,Y⟩:=Nu b5
 exact⟨bn,c10,b6,a5,br,ψ,rfl,l10,B,J,O,X,Y⟩
def door_within.f (B:Int) (X:Int) (a2:Int):Option (Bool):=if X≤B then (some (decide (B≤a2))) else (some false)
set_option maxHeartbeats 8000000 in
set_option maxRecDepth 100000 in
theorem door_within.calls (B:Int) (X:Int) (a2:Int) (r:Bool) (w:World) (h:door_within.f B X a2=some r):
 Calls Try.prog 86 #[.int .i64 B,.int .i64 X,.int .i64 a2] w fun e w'=>e = .returned (.bool r)∧Drawn0 w w':=by
 have H:(if X≤B then (some (decide (B≤a2))) else (some false))=some r:=h
 clear h
 by_cases c4:X≤B
 ·rw[if_pos c4] at H
  have c4b0:=decide_eq_true c4
  clear c4
  obtain rfl:=Option.some.inj H
  go_enter Try.func86,Try.ntmps86
  go_wp2
  go_ret
  exact⟨qR,by repeat(first|exact Drawn0.refl _|apply Drawn0.step)⟩
 ·rw[if_neg c4] at H
  have c4b0:=decide_eq_false c4
  clear c4
  obtain rfl:=Option.some.inj H
  go_enter Try.func86,Try.ntmps86
  go_wp2
  go_ret
  exact⟨qR,by repeat(first|exact Drawn0.refl _|apply Drawn0.step)⟩
end Go.Proofs.Ytmfffemidlhcpaa.C
set_option linter.unusedVariables false
namespace Go.Proofs.Ytmfffemidlhcpaa.C
open Go.RowKit Go.Proofs.YtmfffemidlhcpaaW.PrintWords Go.Proofs.YtmfffemidlhcpaaW.PrintLast Go.Proofs.YtmfffemidlhcpaaW.PrintMore
theorem bel {B:Nat} {w W:World} (h:Below B w W:=by repeat(first|(with_reducible first|exact HB.out|apply Qo|apply Qi|apply Qg|refine Qr ?_ (Aside0.out (by assumption)))|exact HB.out|(refine Qr ?_ (Aside0.out (by assumption))))):Below B w W:=h
theorem bka {w W:World} {g:Nat} {o:Obj} (b:Aside0 (w.heap[g]?=some o)) (e:W.heap[g]?=some o:=by(with_reducible repeat(first|refine Qm ?_ _|refine Qd ?_|refine Ql ?_ _|refine X9 ?_ (Aside0.out (by assumption)) _));exact Aside0.out (by assumption)):W.heap[g]?=some o:=e
theorem kra {α:Type} {d:Kd α} {e0:TypeId} {w W:World} {base:Nat} {ok:Nat→Prop} {v:Value} {xs:List α} (b:Aside0 (d.R e0 w base ok v xs)) (e:d.R e0 W base ok v xs:=by(with_reducible repeat first|apply Kd.Qv|apply Kd.Qu|apply Kd.Qy);exact Aside0.out (by assumption)):d.R e0 W base ok v xs:=e
theorem sRb {α:Type} {d:Kd α} {e0:TypeId} {w w1 w2:World} {base:Nat} {ok:Nat→Prop} {v:Value} {xs:List α} (b:Aside0 (d.R e0 w base ok v xs)) (h:Below w1.heap.size w1 w2) (e:d.R e0 w1 base ok v xs:=by(with_reducible repeat first|apply Kd.Qv|apply Kd.Qu|apply Kd.Qy);exact Aside0.out (by assumption)):Aside0 (d.R e0 w2 base ok v xs):=⟨Kd.Z8 e h⟩
theorem sBk {w w1 w2:World} {g:Nat} {o:Obj} (b:Aside0 (w.heap[g]?=some o)) (h:Below w1.heap.size w1 w2) (e:w1.heap[g]?=some o:=by(with_reducible repeat(first|refine Qm ?_ _|refine Qd ?_|refine Ql ?_ _|refine X9 ?_ (Aside0.out (by assumption)) _));exact Aside0.out (by assumption)):Aside0 (w2.heap[g]?=some o):=⟨Qz e h⟩
theorem sHb {w W w2:World} (h:Below W.heap.size W w2) (b:Below w.heap.size w W:=by repeat(first|(with_reducible first|exact HB.out|apply Qo|apply Qi|apply Qg|refine Qr ?_ (Aside0.out (by assumption)))|exact HB.out|(refine Qr ?_ (Aside0.out (by assumption))))):Aside0 (Below w.heap.size w w2):=⟨Q2 b h⟩
theorem sGe {w W:World} {g:Nat} (h:g=W.heap.size) (b:Below w.heap.size w W:=by repeat(first|(with_reducible first|exact HB.out|apply Qo|apply Qi|apply Qg|refine Qr ?_ (Aside0.out (by assumption)))|exact HB.out|(refine Qr ?_ (Aside0.out (by assumption))))):Aside0 (w.heap.size≤g):=⟨by rw[h];exact Qn b⟩
theorem sNl {w W:World} {g k:Nat} {o:Obj} (b:Aside0 (w.heap[g]?=some o)) (h:k=W.heap.size) (e:W.heap[g]?=some o:=by(with_reducible repeat(first|refine Qm ?_ _|refine Qd ?_|refine Ql ?_ _|refine X9 ?_ (Aside0.out (by assumption)) _));exact Aside0.out (by assumption)):Aside0 (g≠k):=⟨by rw[h];exact Nat.ne_of_lt (Xi e)⟩
theorem sNg {w W:World} {g k:Nat} {o:Obj} (b:Aside0 (w.heap[g]?=some o)) (h:k=W.heap.size) (e:W.heap[g]?=some o:=by(with_reducible repeat(first|refine Qm ?_ _|refine Qd ?_|refine Ql ?_ _|refine X9 ?_ (Aside0.out (by assumption)) _));exact Aside0.out (by assumption)):Aside0 (k≠g):=⟨by rw[h];exact Nat.ne_of_gt (Xi e)⟩
def bN (n m:Nat):Array Bool:=((List.range n).map fun i=>m.testBit i).toArray
end Go.Proofs.Ytmfffemidlhcpaa.C
namespace Go.Proofs.Ytmfffemidlhcpaa.C
open Go.RowKit Go.Proofs.YtmfffemidlhcpaaW.PrintWords Go.Proofs.YtmfffemidlhcpaaW.PrintLast Go.Proofs.YtmfffemidlhcpaaW.PrintMore
attribute [local go_sem] Z0 Zy Z6 Z5 Zr Zq Zz Zx
set_option linter.unusedVariables false
set_option linter.unusedSimpArgs false
def door_times.l0:Nat→List Int→Int→Int→Int→Int→Int→Int→Int→Int→Int→Option (Bool)
 |0,_,_,_,_,_,_,_,_,_,_=>none
 |k+1,B,ν,O,X,Y,Z,γ,δ,ε,J=>if O < ν then (if 0≤O then (if O<(B.length:Int) then ((door_within.f (rd B O) 1 60).bind fun θ =>(if θ = true then (door_times.l0 k B ν (wrap64 (O+1)) X Y Z γ δ ε J) else (some false))) else (none)) else (none)) else ((door_within.f J 0 60).bind fun ι =>(some ι))
def door_times.f (k:Nat) (B:Int) (J:Int) (O:Int) (X:Int) (Y:Int) (Z:Int) (γ:Int):Option (Bool):=(some (([B,J,O,X,Y,Z]:List Int):List Int)).bind fun ζ =>(door_times.l0 k ζ (ζ.length:Int) 0 B J O X Y Z γ)
theorem door_times.Zu:∀ k,(∀ O Y Z B X y5 y6 y7 y8 y9,LeO (door_times.l0 k O Y Z B X y5 y6 y7 y8 y9) (door_times.l0 (k+1) O Y Z B X y5 y6 y7 y8 y9))
 |0=>fun _ _ _ _ _ _ _ _ _ _ r h=>by simp[door_times.l0] at h
 |k+1=>by
  have J:=door_times.Zu k
  ·intro O Y Z B X y5 y6 y7 y8 y9
   unfold door_times.l0
   repeat' first|(with_reducible first|apply J|exact LeO.refl _|exact LeO.none _|refine LeO.ite ?_ ?_|refine LeO.bind ?_ (fun _=>?_))|apply J|exact LeO.none _|refine LeO.ite ?_ ?_|refine LeO.bind ?_ (fun _=>?_)
theorem door_times.mono:∀ B X a2 a3 O a5 Y k,LeO (door_times.f k B X a2 a3 O a5 Y) (door_times.f (k+1) B X a2 a3 O a5 Y):=by
 intro B X a2 a3 O a5 Y k
 have J:=door_times.Zu k
 unfold door_times.f
 repeat' first|(with_reducible first|apply J|exact LeO.refl _|exact LeO.none _|refine LeO.ite ?_ ?_|refine LeO.bind ?_ (fun _=>?_))|apply J|exact LeO.none _|refine LeO.ite ?_ ?_|refine LeO.bind ?_ (fun _=>?_)
set_option maxHeartbeats 8000000 in
set_option maxRecDepth 100000 in
theorem door_times.calls (k:Nat) (B:Int) (J:Int) (O:Int) (X:Int) (Y:Int) (Z:Int) (γ:Int) (r:Bool) (w:World) (h:door_times.f k B J O X Y Z γ=some r):
 Calls Try.prog 70 #[.agg #[.int .i64 B,.int .i64 J,.int .i64 O,.int .i64 X,.int .i64 Y,.int .i64 Z,.int .i64 γ]] w fun e w'=>e = .returned (.bool r)∧Below w.heap.size w w':=by
 have ja:=Try.underlying23
 have HB:=aK (Below.refl w.heap.size w)
 have H:((some (([B,J,O,X,Y,Z]:List Int):List Int)).bind fun ζ =>(door_times.l0 k ζ (ζ.length:Int) 0 B J O X Y Z γ))=some r:=h
 clear h
 obtain⟨ζ,κ⟩:∃ y_:List Int,y_=(([B,J,O,X,Y,Z]:List Int)):=⟨_,rfl⟩
 replace H:(door_times.l0 k ζ (ζ.length:Int) 0 B J O X Y Z γ)=some r:=by first|(rw[κ];with_reducible exact H)|(have al:=(Option.bind_some _ _).symm.trans H;rw[κ];with_reducible exact al)|(have al:=(Option.bind_some _ _).symm.trans H;with_reducible exact al)|with_reducible exact H|(rw[κ];exact H)|exact H
 have σ:=aK κ
 clear κ
 have H':=aK H
 clear H
 go_enter Try.func70,Try.ntmps70
 go_wp2_with (first|((with_reducible refine Qe (N:=1) rfl ?_);refine qE 1 #[.int .i64 B,.int .i64 J,.int .i64 O,.int .i64 X,.int .i64 Y,.int .i64 Z,.int .i64 γ] 23 ?_;intro ε hg w2 hbox hb;have δ :=aK hbox;have a0:=sGe hg;have μ :=sGe hg;replace HB:=sHb hb;clear hb hbox hg;obtain⟨ψ,ω,a1,a2,a4,a5,a7,a8,a9,aa,ac,ae,ag,ah⟩:=qD7 δ.out)|((with_reducible refine Qe (N:=17) rfl ?_);refine Kd.V1 (Kd.int .i64) _ 3 ?hg (N:=17) ?hd (xs:=([B,J,O,X,Y,Z]:List Int)) (inner:=[.int .i64 B,.int .i64 J,.int .i64 O,.int .i64 X,.int .i64 Y,.int .i64 Z]) (ok:=fun _=>True) (okp:=fun _=>True) ?hr ?hp (fun _ hk=>hk) trivial (Below.refl _ _) (Nat.le_refl _) (by simp) ?_;(case hd=>rfl);(case hg=>rfl);(case hr=>go_simp <;> rfl);(case hp=>exact(Reps.one (show Kd.M (Kd.int .i64) _ _ _ B [.int .i64 B] from rfl) (Reps.one (show Kd.M (Kd.int .i64) _ _ _ J [.int .i64 J] from rfl) (Reps.one (show Kd.M (Kd.int .i64) _ _ _ O [.int .i64 O] from rfl) (Reps.one (show Kd.M (Kd.int .i64) _ _ _ X [.int .i64 X] from rfl) (Reps.one (show Kd.M (Kd.int .i64) _ _ _ Y [.int .i64 Y] from rfl) (Reps.one (show Kd.M (Kd.int .i64) _ _ _ Z [.int .i64 Z] from rfl) (Reps.none _ _))))))));intro ai w4 χ hb hg_ hnew_;clear hg_ hnew_;(first|rw[← σ.out] at χ |(simp only[Int.reduceToNat] at χ;rw[← σ.out] at χ));have ξ :=aK (Kd.Q8 χ (Qn HB.out));replace δ :=sBk δ hb;replace HB:=sHb hb;clear hb χ;obtain⟨aj,ak,an⟩:=Kd.Q7 ξ.out;subst an))
 go_loopg [19] k (fun kq bw w'=>∃ (η :Int),bw = .int .i64 η ∧ Aside0 (door_times.l0 kq ζ (ζ.length:Int) η B J O X Y Z γ=some r)∧Aside0 (kq≤k)∧Aside0 (Kd.R (Kd.int .i64) 3 w' w.heap.size (fun _=>True) (.slice aj ζ.length ak) ζ)∧Aside0 (w'.heap[ε]?=some (.cells #[.int .i64 B,.int .i64 J,.int .i64 O,.int .i64 X,.int .i64 Y,.int .i64 Z,.int .i64 γ] 23 (0,0)))∧Aside0 (Below w.heap.size w w'))
 case atStart=>exact⟨(0),rfl,H',⟨Nat.le_refl _⟩,⟨by(with_reducible repeat first|apply Kd.Qv|apply Kd.Qu|apply Kd.Qy);exact ξ.out⟩,δ,HB⟩
 case round=>
  clear H'
  try clear ψ
  try clear ω
  try clear a1
  try clear a2
  try clear a4
  try clear a5
  try clear a7
  try clear a8
  try clear a9
  try clear aa
  try clear ac
  try clear ae
  try clear ag
  try clear ah
  obtain⟨η,rfl,HA,am,ν,δ,HB⟩:=hrel
  cases gk with
  |zero=>exact absurd HA.out (by simp[door_times.l0])
  |succ k1=>
   have H:=HA.out
   clear HA
   simp only[door_times.l0] at H
   by_cases c7: η < (ζ.length:Int)
   ·rw[if_pos c7] at H
    have c7b0:=decide_eq_true c7
    clear c7
    by_cases c8:0 ≤ η
    ·rw[if_pos c8] at H
     have c8b0:=decide_eq_true c8
     clear c8
     by_cases c9: η < (ζ.length:Int)
     ·rw[if_pos c9] at H
      have c9b0:=decide_eq_true c9
      clear c9
      obtain⟨θ,cd,H⟩:=qO H
      have bn:=aK cd
      clear cd
      by_cases a6: θ = true
      ·subst a6
       rw[if_pos rfl] at H
       have H':=aK H
       clear H
       have τ :0≤(η :Int):=of_decide_eq_true (by assumption)
       have φ : η < (ζ.length:Int):=of_decide_eq_true (by assumption)
       obtain⟨a3,ab,ρ⟩:=Kd.Yx (Kd.Qw ν.out).2.2 η τ φ
       cases ab
       replace τ :=eq_true τ
       replace φ :=eq_true φ
       go_wp2_with (first|((with_reducible refine Qf (f:=86) rfl ?_);refine Qt (some 24) rfl rfl Try.func86 kr rfl #[.int .i64 (rd ζ η),.int .i64 1,.int .i64 60] rfl qM ?_;(with_reducible refine(door_within.calls (rd ζ η) 1 60 true _ bn.out).mono ?_);rintro e w' ⟨rfl,⟨nd,rfl⟩⟩;refine⟨_,rfl, ?_⟩))
       go_roundg k1
       case measure=>have:=am.out;omega
       case rel=>exact⟨(wrap64 (η + 1)),qR,H',⟨by have:=am.out;omega⟩,⟨by(with_reducible repeat first|apply Kd.Qv|apply Kd.Qu|apply Kd.Qy);exact ν.out⟩,⟨bka δ⟩,⟨bel⟩⟩
      ·replace a6:=Bool.eq_false_iff.mpr a6
       subst a6
       rw[if_neg nft] at H
       obtain rfl:=Option.some.inj H
       have τ :0≤(η :Int):=of_decide_eq_true (by assumption)
       have φ : η < (ζ.length:Int):=of_decide_eq_true (by assumption)
       obtain⟨a3,ab,ρ⟩:=Kd.Yx (Kd.Qw ν.out).2.2 η τ φ
       cases ab
       replace τ :=eq_true τ
       replace φ :=eq_true φ
       go_wp2_with (first|((with_reducible refine Qf (f:=86) rfl ?_);refine Qt (some 24) rfl rfl Try.func86 kr rfl #[.int .i64 (rd ζ η),.int .i64 1,.int .i64 60] rfl qM ?_;(with_reducible refine(door_within.calls (rd ζ η) 1 60 false _ bn.out).mono ?_);rintro e w' ⟨rfl,⟨nd,rfl⟩⟩;refine⟨_,rfl, ?_⟩))
       go_ret
       exact⟨by first|rfl|(simp[Qk,Qj] <;> rfl)|(simp[*,Qk,Qj] <;> rfl),bel⟩
     ·rw[if_neg c9] at H
      exact absurd H (by simp)
    ·rw[if_neg c8] at H
     exact absurd H (by simp)
   ·rw[if_neg c7] at H
    have c7b0:=decide_eq_false c7
    clear c7
    obtain⟨ι,b7,H⟩:=qO H
    have b6:=aK b7
    clear b7
    obtain rfl:=Option.some.inj H
    obtain⟨af,bd,bu,e9,ea,et,f8,ba,bf,bv,fa,fb,fc,fe⟩:=qD7 δ.out
    go_wp2_with (first|((with_reducible refine Qf (f:=86) rfl ?_);refine Qt (some 29) rfl rfl Try.func86 kr rfl #[.int .i64 γ,.int .i64 0,.int .i64 60] rfl qM ?_;(with_reducible refine(door_within.calls γ 0 60 ι _ b6.out).mono ?_);rintro e w' ⟨rfl,⟨nd,rfl⟩⟩;refine⟨_,rfl, ?_⟩))
    go_ret
    exact⟨by first|rfl|(simp[Qk,Qj] <;> rfl)|(simp[*,Qk,Qj] <;> rfl),bel⟩
def door_gear.f (k:Nat) (B:Int) (J:Int) (O:Int) (X:Int) (Y:Int) (Z:Int) (γ:Int) (ζ :Int) (θ :Int) (η :Int):Option (Bool):=(door_times.f k J O X Y Z γ ζ).bind fun ε =>(if ε = true then ((door_within.f B 2 64).bind fun ι =>(if ι = true then ((door_within.f θ 1 300).bind fun κ =>(if κ = true then ((door_within.f η 0 60).bind fun μ =>(some μ)) else (some false))) else (some false))) else (some false))
theorem door_gear.mono:∀ B X a2 a3 O a5 Y a7 a8 a9 k,LeO (door_gear.f k B X a2 a3 O a5 Y a7 a8 a9) (door_gear.f (k+1) B X a2 a3 O a5 Y a7 a8 a9):=by
 intro B X a2 a3 O a5 Y a7 a8 a9 k
 unfold door_gear.f
 repeat' first|(with_reducible first|apply door_times.mono|exact LeO.refl _|exact LeO.none _|refine LeO.ite ?_ ?_|refine LeO.bind ?_ (fun _=>?_))|apply door_times.mono|exact LeO.none _|refine LeO.ite ?_ ?_|refine LeO.bind ?_ (fun _=>?_)
set_option maxHeartbeats 8000000 in
set_option maxRecDepth 100000 in
theorem door_gear.calls (k:Nat) (B:Int) (J:Int) (O:Int) (X:Int) (Y:Int) (Z:Int) (γ:Int) (ζ :Int) (θ :Int) (η :Int) (r:Bool) (w:World) (h:door_gear.f k B J O X Y Z γ ζ θ η = some r):
 Calls Try.prog 72 #[.agg #[.int .i64 B,.int .i64 J,.int .i64 O,.int .i64 X,.int .i64 Y,.int .i64 Z,.int .i64 γ,.int .i64 ζ,.int .i64 θ,.int .i64 η]] w fun e w'=>e = .returned (.bool r)∧Below w.heap.size w w':=by
 have cg:=Try.underlying25
 have ja:=Try.underlying23
 have HB:=aK (Below.refl w.heap.size w)
 have H:((door_times.f k J O X Y Z γ ζ).bind fun ε =>(if ε = true then ((door_within.f B 2 64).bind fun ι =>(if ι = true then ((door_within.f θ 1 300).bind fun κ =>(if κ = true then ((door_within.f η 0 60).bind fun μ =>(some μ)) else (some false))) else (some false))) else (some false)))=some r:=h
 clear h
 obtain⟨ε,bs,H⟩:=qO H
 have A2:=aK bs
 clear bs
 by_cases c3: ε = true
 ·subst c3
  rw[if_pos rfl] at H
  obtain⟨ι,ab,H⟩:=qO H
  have A4:=aK ab
  clear ab
  by_cases c5: ι = true
  ·subst c5
   rw[if_pos rfl] at H
   obtain⟨κ,ao,H⟩:=qO H
   have A6:=aK ao
   clear ao
   by_cases c7: κ = true
   ·subst c7
    rw[if_pos rfl] at H
    obtain⟨μ,cn,H⟩:=qO H
    have A8:=aK cn
    clear cn
    obtain rfl:=Option.some.inj H
    go_enter Try.func72,Try.ntmps72
    go_wp2_with (first|((with_reducible refine Qe (N:=1) rfl ?_);refine qE 1 #[.int .i64 B,.int .i64 J,.int .i64 O,.int .i64 X,.int .i64 Y,.int .i64 Z,.int .i64 γ,.int .i64 ζ,.int .i64 θ,.int .i64 η] 25 ?_;intro ν hg w9 hbox hb;have δ :=aK hbox;have ξ :=sGe hg;have ρ:=sGe hg;replace HB:=sHb hb;clear hb hbox hg;obtain⟨af,bd,du,co,cp,gx,gy,a6,aa,ae,bf,cw,ee,gz,hh,hj,hl,bc,iu,iv⟩:=Zg δ.out)|((with_reducible refine Qf (f:=70) rfl ?_);refine Qt (some 5) rfl rfl Try.func70 kr rfl #[.agg #[.int .i64 J,.int .i64 O,.int .i64 X,.int .i64 Y,.int .i64 Z,.int .i64 γ,.int .i64 ζ]] rfl qM ?_;(with_reducible refine(door_times.calls k J O X Y Z γ ζ true _ A2.out).mono ?_);rintro e d4 ⟨rfl,hb⟩;refine⟨_,rfl, ?_⟩;replace δ :=sBk δ hb;replace HB:=sHb hb;(try clear hb);(try clear a4);(try clear hk);(try clear hi);obtain⟨a5,am,φ,f7,f8,fa,fb,h9,ha,iw,b3,b4,a8,fc,fe,ff,fg,ix,iy,iz⟩:=Zg δ.out)|(go_at_call 86;(with_reducible refine(door_within.calls B 2 64 true _ A4.out).mono ?_);rintro e w' ⟨rfl,⟨nd,rfl⟩⟩)|(go_at_call 86;(with_reducible refine(door_within.calls θ 1 300 true _ A6.out).mono ?_);rintro e w' ⟨rfl,⟨nd,rfl⟩⟩)|(go_at_call 86;(with_reducible refine(door_within.calls η 0 60 μ _ A8.out).mono ?_);rintro e w' ⟨rfl,⟨nd,rfl⟩⟩))
    go_ret
    exact⟨by first|rfl|(simp[Qk,Qj] <;> rfl)|(simp[*,Qk,Qj] <;> rfl),bel⟩
   ·replace c7:=Bool.eq_false_iff.mpr c7
    subst c7
    rw[if_neg nft] at H
    obtain rfl:=Option.some.inj H
    go_enter Try.func72,Try.ntmps72
    go_wp2_with (first|((with_reducible refine Qe (N:=1) rfl ?_);refine qE 1 #[.int .i64 B,.int .i64 J,.int .i64 O,.int .i64 X,.int .i64 Y,.int .i64 Z,.int .i64 γ,.int .i64 ζ,.int .i64 θ,.int .i64 η] 25 ?_;intro ν hg ba hbox hb;have δ :=aK hbox;have ξ :=sGe hg;have ρ:=sGe hg;replace HB:=sHb hb;clear hb hbox hg;obtain⟨bw,bz,d5,ef,eg,eh,ei,gg,he,hu,ca,cb,d6,ej,ek,el,em,gh,hx,hy⟩:=Zg δ.out)|((with_reducible refine Qf (f:=70) rfl ?_);refine Qt (some 5) rfl rfl Try.func70 kr rfl #[.agg #[.int .i64 J,.int .i64 O,.int .i64 X,.int .i64 Y,.int .i64 Z,.int .i64 γ,.int .i64 ζ]] rfl qM ?_;(with_reducible refine(door_times.calls k J O X Y Z γ ζ true _ A2.out).mono ?_);rintro e ez ⟨rfl,hb⟩;refine⟨_,rfl, ?_⟩;replace δ :=sBk δ hb;replace HB:=sHb hb;(try clear hb);(try clear a4);(try clear hk);(try clear hi);obtain⟨cx,cy,χ,ci,cm,eb,ec,cr,ho,i0,cz,d0,ω,ed,en,eo,ep,fh,i1,i2⟩:=Zg δ.out)|(go_at_call 86;(with_reducible refine(door_within.calls B 2 64 true _ A4.out).mono ?_);rintro e w' ⟨rfl,⟨nd,rfl⟩⟩)|(go_at_call 86;(with_reducible refine(door_within.calls θ 1 300 false _ A6.out).mono ?_);rintro e w' ⟨rfl,⟨nd,rfl⟩⟩))
    go_ret
    exact⟨by first|rfl|(simp[Qk,Qj] <;> rfl)|(simp[*,Qk,Qj] <;> rfl),bel⟩
  ·replace c5:=Bool.eq_false_iff.mpr c5
   subst c5
   rw[if_neg nft] at H
   obtain rfl:=Option.some.inj H
   go_enter Try.func72,Try.ntmps72
   go_wp2_with (first|((with_reducible refine Qe (N:=1) rfl ?_);refine qE 1 #[.int .i64 B,.int .i64 J,.int .i64 O,.int .i64 X,.int .i64 Y,.int .i64 Z,.int .i64 γ,.int .i64 ζ,.int .i64 θ,.int .i64 η] 25 ?_;intro ν hg d1 hbox hb;have δ :=aK hbox;have ξ :=sGe hg;have ρ:=sGe hg;replace HB:=sHb hb;clear hb hbox hg;obtain⟨bg,bh,er,bu,bv,d8,d9,σ,τ,ψ,bi,bj,et,da,db,dj,dl,a0,a1,a2⟩:=Zg δ.out)|((with_reducible refine Qf (f:=70) rfl ?_);refine Qt (some 5) rfl rfl Try.func70 kr rfl #[.agg #[.int .i64 J,.int .i64 O,.int .i64 X,.int .i64 Y,.int .i64 Z,.int .i64 γ,.int .i64 ζ]] rfl qM ?_;(with_reducible refine(door_times.calls k J O X Y Z γ ζ true _ A2.out).mono ?_);rintro e b5 ⟨rfl,hb⟩;refine⟨_,rfl, ?_⟩;replace δ :=sBk δ hb;replace HB:=sHb hb;(try clear hb);(try clear a4);(try clear hk);(try clear hi);obtain⟨ak,an,a3,a9,ch,dc,dr,ac,i3,i4,aw,ax,b6,dv,dw,dx,dy,i5,i6,i7⟩:=Zg δ.out)|(go_at_call 86;(with_reducible refine(door_within.calls B 2 64 false _ A4.out).mono ?_);rintro e w' ⟨rfl,⟨nd,rfl⟩⟩))
   go_ret
   exact⟨by first|rfl|(simp[Qk,Qj] <;> rfl)|(simp[*,Qk,Qj] <;> rfl),bel⟩
 ·replace c3:=Bool.eq_false_iff.mpr c3
  subst c3
  rw[if_neg nft] at H
  obtain rfl:=Option.some.inj H
  go_enter Try.func72,Try.ntmps72
  go_wp2_with (first|((with_reducible refine Qe (N:=1) rfl ?_);refine qE 1 #[.int .i64 B,.int .i64 J,.int .i64 O,.int .i64 X,.int .i64 Y,.int .i64 Z,.int .i64 γ,.int .i64 ζ,.int .i64 θ,.int .i64 η] 25 ?_;intro ν hg b2 hbox hb;have δ :=aK hbox;have ξ :=sGe hg;have ρ:=sGe hg;replace HB:=sHb hb;clear hb hbox hg;obtain⟨ap,ar,al,bk,bl,bm,bn,dz,e0,e3,au,av,b7,bo,bp,bq,br,e4,e5,e6⟩:=Zg δ.out)|((with_reducible refine Qf (f:=70) rfl ?_);refine Qt (some 5) rfl rfl Try.func70 kr rfl #[.agg #[.int .i64 J,.int .i64 O,.int .i64 X,.int .i64 Y,.int .i64 Z,.int .i64 γ,.int .i64 ζ]] rfl qM ?_;(with_reducible refine(door_times.calls k J O X Y Z γ ζ false _ A2.out).mono ?_);rintro e bb ⟨rfl,hb⟩;refine⟨_,rfl, ?_⟩;replace δ :=sBk δ hb;replace HB:=sHb hb;(try clear hb);(try clear a4);(try clear hk);(try clear hi)))
  go_ret
  exact⟨rfl,HB.out⟩
def door_on.f (B:Int) (J:Int) (O:Int) (X:Int) (a2:Int):Option (Int×Int×Int):=if (wrap64 (J-1))=0 then (some (X,a2,O)) else (some (B,wrap64 (J-1),O))
def newelref17_tick.f (B:Int):Option (Bool):=if B≥1 then (some (decide (B≤60))) else (some false)
set_option maxHeartbeats 8000000 in
set_option maxRecDepth 100000 in
theorem newelref17_tick.calls (B:Int) (r:Bool) (w:World) (h:newelref17_tick.f B=some r):
 Calls Try.prog 93 #[.int .i64 B] w fun e w'=>e = .returned (.bool r)∧Drawn0 w w':=by
 have H:(if B≥1 then (some (decide (B≤60))) else (some false))=some r:=h
 clear h
 by_cases c2:B≥1
 ·rw[if_pos c2] at H
  have c2b0:decide (1≤B)=true:=decide_eq_true c2
  clear c2
  obtain rfl:=Option.some.inj H
  go_enter Try.func93,Try.ntmps93
  go_wp2
  go_ret
  exact⟨qR,by repeat(first|exact Drawn0.refl _|apply Drawn0.step)⟩
 ·rw[if_neg c2] at H
  have c2b0:decide (1≤B)=false:=decide_eq_false c2
  clear c2
  obtain rfl:=Option.some.inj H
  go_enter Try.func93,Try.ntmps93
  go_wp2
  go_ret
  exact⟨qR,by repeat(first|exact Drawn0.refl _|apply Drawn0.step)⟩
def newelref17_Times.f (B:Int) (J:Int) (O:Int) (X:Int) (Y:Int) (Z:Int) (γ:Int):Option (Bool):=(newelref17_tick.f B).bind fun ξ =>((newelref17_tick.f J).bind fun ν =>((newelref17_tick.f O).bind fun μ =>((newelref17_tick.f X).bind fun κ =>((newelref17_tick.f Y).bind fun ζ =>((newelref17_tick.f Z).bind fun ε =>(if ξ = true then (if ν = true then (if μ = true then (if κ = true then (if ζ = true then (if ε = true then (if γ≥0 then (some (decide (γ≤60))) else (some false)) else (some false)) else (some false)) else (some false)) else (some false)) else (some false)) else (some false)))))))
set_option maxHeartbeats 8000000 in
set_option maxRecDepth 100000 in
theorem newelref17_Times.calls (B:Int) (J:Int) (O:Int) (X:Int) (Y:Int) (Z:Int) (γ:Int) (r:Bool) (w:World) (h:newelref17_Times.f B J O X Y Z γ=some r):
 Calls Try.prog 77 #[.agg #[.int .i64 B,.int .i64 J,.int .i64 O,.int .i64 X,.int .i64 Y,.int .i64 Z,.int .i64 γ]] w fun e w'=>e = .returned (.bool r)∧Below w.heap.size w w':=by
 have ja:=Try.underlying23
 have HB:=aK (Below.refl w.heap.size w)
 have H:((newelref17_tick.f B).bind fun ξ =>((newelref17_tick.f J).bind fun ν =>((newelref17_tick.f O).bind fun μ =>((newelref17_tick.f X).bind fun κ =>((newelref17_tick.f Y).bind fun ζ =>((newelref17_tick.f Z).bind fun ε =>(if ξ = true then (if ν = true then (if μ = true then (if κ = true then (if ζ = true then (if ε = true then (if γ≥0 then (some (decide (γ≤60))) else (some false)) else (some false)) else (some false)) else (some false)) else (some false)) else (some false)) else (some false))))))))=some r:=h
 clear h
 obtain⟨ξ,bs,H⟩:=qO H
 have A2:=aK bs
 clear bs
 obtain⟨ν,a7,H⟩:=qO H
 have A3:=aK a7
 clear a7
 obtain⟨μ,ab,H⟩:=qO H
 have A4:=aK ab
 clear ab
 obtain⟨κ,bc,H⟩:=qO H
 have A5:=aK bc
 clear bc
 obtain⟨ζ,ao,H⟩:=qO H
 have A6:=aK ao
 clear ao
 obtain⟨ε,cr,H⟩:=qO H
 have A7:=aK cr
 clear cr
 by_cases c8: ξ = true
 ·subst c8
  rw[if_pos rfl] at H
  by_cases c9: ν = true
  ·subst c9
   rw[if_pos rfl] at H
   by_cases c10: μ = true
   ·subst c10
    rw[if_pos rfl] at H
    by_cases a6: κ = true
    ·subst a6
     rw[if_pos rfl] at H
     by_cases a5: ζ = true
     ·subst a5
      rw[if_pos rfl] at H
      by_cases ψ : ε = true
      ·subst ψ
       rw[if_pos rfl] at H
       by_cases ae:γ≥0
       ·rw[if_pos ae] at H
        have c14b0:decide (0≤γ)=true:=decide_eq_true ae
        clear ae
        obtain rfl:=Option.some.inj H
        go_enter Try.func77,Try.ntmps77
        go_wp2_with (first|((with_reducible refine Qe (N:=1) rfl ?_);refine qE 1 #[.int .i64 B,.int .i64 J,.int .i64 O,.int .i64 X,.int .i64 Y,.int .i64 Z,.int .i64 γ] 23 ?_;intro η hg ez hbox hb;have δ :=aK hbox;have θ :=sGe hg;have ι :=sGe hg;replace HB:=sHb hb;clear hb hbox hg;obtain⟨cx,cy,χ,ci,cm,eb,ec,cz,d0,ω,ed,en,eo,ep⟩:=qD7 δ.out)|((with_reducible refine Qf (f:=93) rfl ?_);refine Qt (some 11) rfl rfl Try.func93 kr rfl #[.int .i64 B] rfl qM ?_;(with_reducible refine(newelref17_tick.calls B true _ A2.out).mono ?_);rintro e w' ⟨rfl,⟨nd,rfl⟩⟩;refine⟨_,rfl, ?_⟩)|((with_reducible refine Qf (f:=93) rfl ?_);refine Qt (some 14) rfl rfl Try.func93 kr rfl #[.int .i64 J] rfl qM ?_;(with_reducible refine(newelref17_tick.calls J true _ A3.out).mono ?_);rintro e w' ⟨rfl,⟨nd,rfl⟩⟩;refine⟨_,rfl, ?_⟩)|((with_reducible refine Qf (f:=93) rfl ?_);refine Qt (some 17) rfl rfl Try.func93 kr rfl #[.int .i64 O] rfl qM ?_;(with_reducible refine(newelref17_tick.calls O true _ A4.out).mono ?_);rintro e w' ⟨rfl,⟨nd,rfl⟩⟩;refine⟨_,rfl, ?_⟩)|((with_reducible refine Qf (f:=93) rfl ?_);refine Qt (some 20) rfl rfl Try.func93 kr rfl #[.int .i64 X] rfl qM ?_;(with_reducible refine(newelref17_tick.calls X true _ A5.out).mono ?_);rintro e w' ⟨rfl,⟨nd,rfl⟩⟩;refine⟨_,rfl, ?_⟩)|((with_reducible refine Qf (f:=93) rfl ?_);refine Qt (some 23) rfl rfl Try.func93 kr rfl #[.int .i64 Y] rfl qM ?_;(with_reducible refine(newelref17_tick.calls Y true _ A6.out).mono ?_);rintro e w' ⟨rfl,⟨nd,rfl⟩⟩;refine⟨_,rfl, ?_⟩)|((with_reducible refine Qf (f:=93) rfl ?_);refine Qt (some 26) rfl rfl Try.func93 kr rfl #[.int .i64 Z] rfl qM ?_;(with_reducible refine(newelref17_tick.calls Z true _ A7.out).mono ?_);rintro e w' ⟨rfl,⟨nd,rfl⟩⟩;refine⟨_,rfl, ?_⟩))
        go_ret
        exact⟨by first|rfl|(simp[Qk,Qj] <;> rfl)|(simp[*,Qk,Qj] <;> rfl),bel⟩
       ·rw[if_neg ae] at H
        have c14b0:decide (0≤γ)=false:=decide_eq_false ae
        clear ae
        obtain rfl:=Option.some.inj H
        go_enter Try.func77,Try.ntmps77
        go_wp2_with (first|((with_reducible refine Qe (N:=1) rfl ?_);refine qE 1 #[.int .i64 B,.int .i64 J,.int .i64 O,.int .i64 X,.int .i64 Y,.int .i64 Z,.int .i64 γ] 23 ?_;intro η hg d1 hbox hb;have δ :=aK hbox;have θ :=sGe hg;have ι :=sGe hg;replace HB:=sHb hb;clear hb hbox hg;obtain⟨bg,bh,er,bu,bv,d8,d9,bi,bj,et,da,db,dj,dl⟩:=qD7 δ.out)|((with_reducible refine Qf (f:=93) rfl ?_);refine Qt (some 11) rfl rfl Try.func93 kr rfl #[.int .i64 B] rfl qM ?_;(with_reducible refine(newelref17_tick.calls B true _ A2.out).mono ?_);rintro e w' ⟨rfl,⟨nd,rfl⟩⟩;refine⟨_,rfl, ?_⟩)|((with_reducible refine Qf (f:=93) rfl ?_);refine Qt (some 14) rfl rfl Try.func93 kr rfl #[.int .i64 J] rfl qM ?_;(with_reducible refine(newelref17_tick.calls J true _ A3.out).mono ?_);rintro e w' ⟨rfl,⟨nd,rfl⟩⟩;refine⟨_,rfl, ?_⟩)|((with_reducible refine Qf (f:=93) rfl ?_);refine Qt (some 17) rfl rfl Try.func93 kr rfl #[.int .i64 O] rfl qM ?_;(with_reducible refine(newelref17_tick.calls O true _ A4.out).mono ?_);rintro e w' ⟨rfl,⟨nd,rfl⟩⟩;refine⟨_,rfl, ?_⟩)|((with_reducible refine Qf (f:=93) rfl ?_);refine Qt (some 20) rfl rfl Try.func93 kr rfl #[.int .i64 X] rfl qM ?_;(with_reducible refine(newelref17_tick.calls X true _ A5.out).mono ?_);rintro e w' ⟨rfl,⟨nd,rfl⟩⟩;refine⟨_,rfl, ?_⟩)|((with_reducible refine Qf (f:=93) rfl ?_);refine Qt (some 23) rfl rfl Try.func93 kr rfl #[.int .i64 Y] rfl qM ?_;(with_reducible refine(newelref17_tick.calls Y true _ A6.out).mono ?_);rintro e w' ⟨rfl,⟨nd,rfl⟩⟩;refine⟨_,rfl, ?_⟩)|((with_reducible refine Qf (f:=93) rfl ?_);refine Qt (some 26) rfl rfl Try.func93 kr rfl #[.int .i64 Z] rfl qM ?_;(with_reducible refine(newelref17_tick.calls Z true _ A7.out).mono ?_);rintro e w' ⟨rfl,⟨nd,rfl⟩⟩;refine⟨_,rfl, ?_⟩))
        go_ret
        exact⟨by first|rfl|(simp[Qk,Qj] <;> rfl)|(simp[*,Qk,Qj] <;> rfl),bel⟩
      ·replace ψ :=Bool.eq_false_iff.mpr ψ
       subst ψ
       rw[if_neg nft] at H
       obtain rfl:=Option.some.inj H
       go_enter Try.func77,Try.ntmps77
       go_wp2_with (first|((with_reducible refine Qe (N:=1) rfl ?_);refine qE 1 #[.int .i64 B,.int .i64 J,.int .i64 O,.int .i64 X,.int .i64 Y,.int .i64 Z,.int .i64 γ] 23 ?_;intro η hg b5 hbox hb;have δ :=aK hbox;have θ :=sGe hg;have ι :=sGe hg;replace HB:=sHb hb;clear hb hbox hg;obtain⟨ak,an,a3,a9,ch,dc,dr,aw,ax,b6,dv,dw,dx,dy⟩:=qD7 δ.out)|((with_reducible refine Qf (f:=93) rfl ?_);refine Qt (some 11) rfl rfl Try.func93 kr rfl #[.int .i64 B] rfl qM ?_;(with_reducible refine(newelref17_tick.calls B true _ A2.out).mono ?_);rintro e w' ⟨rfl,⟨nd,rfl⟩⟩;refine⟨_,rfl, ?_⟩)|((with_reducible refine Qf (f:=93) rfl ?_);refine Qt (some 14) rfl rfl Try.func93 kr rfl #[.int .i64 J] rfl qM ?_;(with_reducible refine(newelref17_tick.calls J true _ A3.out).mono ?_);rintro e w' ⟨rfl,⟨nd,rfl⟩⟩;refine⟨_,rfl, ?_⟩)|((with_reducible refine Qf (f:=93) rfl ?_);refine Qt (some 17) rfl rfl Try.func93 kr rfl #[.int .i64 O] rfl qM ?_;(with_reducible refine(newelref17_tick.calls O true _ A4.out).mono ?_);rintro e w' ⟨rfl,⟨nd,rfl⟩⟩;refine⟨_,rfl, ?_⟩)|((with_reducible refine Qf (f:=93) rfl ?_);refine Qt (some 20) rfl rfl Try.func93 kr rfl #[.int .i64 X] rfl qM ?_;(with_reducible refine(newelref17_tick.calls X true _ A5.out).mono ?_);rintro e w' ⟨rfl,⟨nd,rfl⟩⟩;refine⟨_,rfl, ?_⟩)|((with_reducible refine Qf (f:=93) rfl ?_);refine Qt (some 23) rfl rfl Try.func93 kr rfl #[.int .i64 Y] rfl qM ?_;(with_reducible refine(newelref17_tick.calls Y true _ A6.out).mono ?_);rintro e w' ⟨rfl,⟨nd,rfl⟩⟩;refine⟨_,rfl, ?_⟩)|((with_reducible refine Qf (f:=93) rfl ?_);refine Qt (some 26) rfl rfl Try.func93 kr rfl #[.int .i64 Z] rfl qM ?_;(with_reducible refine(newelref17_tick.calls Z false _ A7.out).mono ?_);rintro e w' ⟨rfl,⟨nd,rfl⟩⟩;refine⟨_,rfl, ?_⟩))
       go_ret
       exact⟨by first|rfl|(simp[Qk,Qj] <;> rfl)|(simp[*,Qk,Qj] <;> rfl),bel⟩
     ·replace a5:=Bool.eq_false_iff.mpr a5
      subst a5
      rw[if_neg nft] at H
      obtain rfl:=Option.some.inj H
      go_enter Try.func77,Try.ntmps77
      go_wp2_with (first|((with_reducible refine Qe (N:=1) rfl ?_);refine qE 1 #[.int .i64 B,.int .i64 J,.int .i64 O,.int .i64 X,.int .i64 Y,.int .i64 Z,.int .i64 γ] 23 ?_;intro η hg b2 hbox hb;have δ :=aK hbox;have θ :=sGe hg;have ι :=sGe hg;replace HB:=sHb hb;clear hb hbox hg;obtain⟨ap,ar,al,bk,bl,bm,bn,au,av,b7,bo,bp,bq,br⟩:=qD7 δ.out)|((with_reducible refine Qf (f:=93) rfl ?_);refine Qt (some 11) rfl rfl Try.func93 kr rfl #[.int .i64 B] rfl qM ?_;(with_reducible refine(newelref17_tick.calls B true _ A2.out).mono ?_);rintro e w' ⟨rfl,⟨nd,rfl⟩⟩;refine⟨_,rfl, ?_⟩)|((with_reducible refine Qf (f:=93) rfl ?_);refine Qt (some 14) rfl rfl Try.func93 kr rfl #[.int .i64 J] rfl qM ?_;(with_reducible refine(newelref17_tick.calls J true _ A3.out).mono ?_);rintro e w' ⟨rfl,⟨nd,rfl⟩⟩;refine⟨_,rfl, ?_⟩)|((with_reducible refine Qf (f:=93) rfl ?_);refine Qt (some 17) rfl rfl Try.func93 kr rfl #[.int .i64 O] rfl qM ?_;(with_reducible refine(newelref17_tick.calls O true _ A4.out).mono ?_);rintro e w' ⟨rfl,⟨nd,rfl⟩⟩;refine⟨_,rfl, ?_⟩)|((with_reducible refine Qf (f:=93) rfl ?_);refine Qt (some 20) rfl rfl Try.func93 kr rfl #[.int .i64 X] rfl qM ?_;(with_reducible refine(newelref17_tick.calls X true _ A5.out).mono ?_);rintro e w' ⟨rfl,⟨nd,rfl⟩⟩;refine⟨_,rfl, ?_⟩)|((with_reducible refine Qf (f:=93) rfl ?_);refine Qt (some 23) rfl rfl Try.func93 kr rfl #[.int .i64 Y] rfl qM ?_;(with_reducible refine(newelref17_tick.calls Y false _ A6.out).mono ?_);rintro e w' ⟨rfl,⟨nd,rfl⟩⟩;refine⟨_,rfl, ?_⟩)|((with_reducible refine Qf (f:=93) rfl ?_);refine Qt (some 26) rfl rfl Try.func93 kr rfl #[.int .i64 Z] rfl qM ?_;(with_reducible refine(newelref17_tick.calls Z ε _ A7.out).mono ?_);rintro e w' ⟨rfl,⟨nd,rfl⟩⟩;refine⟨_,rfl, ?_⟩))
      go_ret
      exact⟨by first|rfl|(simp[Qk,Qj] <;> rfl)|(simp[*,Qk,Qj] <;> rfl),bel⟩
    ·replace a6:=Bool.eq_false_iff.mpr a6
     subst a6
     rw[if_neg nft] at H
     obtain rfl:=Option.some.inj H
     go_enter Try.func77,Try.ntmps77
     go_wp2_with (first|((with_reducible refine Qe (N:=1) rfl ?_);refine qE 1 #[.int .i64 B,.int .i64 J,.int .i64 O,.int .i64 X,.int .i64 Y,.int .i64 Z,.int .i64 γ] 23 ?_;intro η hg bb hbox hb;have δ :=aK hbox;have θ :=sGe hg;have ι :=sGe hg;replace HB:=sHb hb;clear hb hbox hg;obtain⟨ay,az,cd,fi,fj,fk,fl,b0,b1,ce,fm,fn,fo,fp⟩:=qD7 δ.out)|((with_reducible refine Qf (f:=93) rfl ?_);refine Qt (some 11) rfl rfl Try.func93 kr rfl #[.int .i64 B] rfl qM ?_;(with_reducible refine(newelref17_tick.calls B true _ A2.out).mono ?_);rintro e w' ⟨rfl,⟨nd,rfl⟩⟩;refine⟨_,rfl, ?_⟩)|((with_reducible refine Qf (f:=93) rfl ?_);refine Qt (some 14) rfl rfl Try.func93 kr rfl #[.int .i64 J] rfl qM ?_;(with_reducible refine(newelref17_tick.calls J true _ A3.out).mono ?_);rintro e w' ⟨rfl,⟨nd,rfl⟩⟩;refine⟨_,rfl, ?_⟩)|((with_reducible refine Qf (f:=93) rfl ?_);refine Qt (some 17) rfl rfl Try.func93 kr rfl #[.int .i64 O] rfl qM ?_;(with_reducible refine(newelref17_tick.calls O true _ A4.out).mono ?_);rintro e w' ⟨rfl,⟨nd,rfl⟩⟩;refine⟨_,rfl, ?_⟩)|((with_reducible refine Qf (f:=93) rfl ?_);refine Qt (some 20) rfl rfl Try.func93 kr rfl #[.int .i64 X] rfl qM ?_;(with_reducible refine(newelref17_tick.calls X false _ A5.out).mono ?_);rintro e w' ⟨rfl,⟨nd,rfl⟩⟩;refine⟨_,rfl, ?_⟩)|((with_reducible refine Qf (f:=93) rfl ?_);refine Qt (some 23) rfl rfl Try.func93 kr rfl #[.int .i64 Y] rfl qM ?_;(with_reducible refine(newelref17_tick.calls Y ζ _ A6.out).mono ?_);rintro e w' ⟨rfl,⟨nd,rfl⟩⟩;refine⟨_,rfl, ?_⟩)|((with_reducible refine Qf (f:=93) rfl ?_);refine Qt (some 26) rfl rfl Try.func93 kr rfl #[.int .i64 Z] rfl qM ?_;(with_reducible refine(newelref17_tick.calls Z ε _ A7.out).mono ?_);rintro e w' ⟨rfl,⟨nd,rfl⟩⟩;refine⟨_,rfl, ?_⟩))
     go_ret
     exact⟨by first|rfl|(simp[Qk,Qj] <;> rfl)|(simp[*,Qk,Qj] <;> rfl),bel⟩
   ·replace c10:=Bool.eq_false_iff.mpr c10
    subst c10
    rw[if_neg nft] at H
    obtain rfl:=Option.some.inj H
    go_enter Try.func77,Try.ntmps77
    go_wp2_with (first|((with_reducible refine Qe (N:=1) rfl ?_);refine qE 1 #[.int .i64 B,.int .i64 J,.int .i64 O,.int .i64 X,.int .i64 Y,.int .i64 Z,.int .i64 γ] 23 ?_;intro η hg dt hbox hb;have δ :=aK hbox;have θ :=sGe hg;have ι :=sGe hg;replace HB:=sHb hb;clear hb hbox hg;obtain⟨b9,cf,dd,de,df,dh,ew,cj,ck,dk,ey,i9,ia,ib⟩:=qD7 δ.out)|((with_reducible refine Qf (f:=93) rfl ?_);refine Qt (some 11) rfl rfl Try.func93 kr rfl #[.int .i64 B] rfl qM ?_;(with_reducible refine(newelref17_tick.calls B true _ A2.out).mono ?_);rintro e w' ⟨rfl,⟨nd,rfl⟩⟩;refine⟨_,rfl, ?_⟩)|((with_reducible refine Qf (f:=93) rfl ?_);refine Qt (some 14) rfl rfl Try.func93 kr rfl #[.int .i64 J] rfl qM ?_;(with_reducible refine(newelref17_tick.calls J true _ A3.out).mono ?_);rintro e w' ⟨rfl,⟨nd,rfl⟩⟩;refine⟨_,rfl, ?_⟩)|((with_reducible refine Qf (f:=93) rfl ?_);refine Qt (some 17) rfl rfl Try.func93 kr rfl #[.int .i64 O] rfl qM ?_;(with_reducible refine(newelref17_tick.calls O false _ A4.out).mono ?_);rintro e w' ⟨rfl,⟨nd,rfl⟩⟩;refine⟨_,rfl, ?_⟩)|((with_reducible refine Qf (f:=93) rfl ?_);refine Qt (some 20) rfl rfl Try.func93 kr rfl #[.int .i64 X] rfl qM ?_;(with_reducible refine(newelref17_tick.calls X κ _ A5.out).mono ?_);rintro e w' ⟨rfl,⟨nd,rfl⟩⟩;refine⟨_,rfl, ?_⟩)|((with_reducible refine Qf (f:=93) rfl ?_);refine Qt (some 23) rfl rfl Try.func93 kr rfl #[.int .i64 Y] rfl qM ?_;(with_reducible refine(newelref17_tick.calls Y ζ _ A6.out).mono ?_);rintro e w' ⟨rfl,⟨nd,rfl⟩⟩;refine⟨_,rfl, ?_⟩)|((with_reducible refine Qf (f:=93) rfl ?_);refine Qt (some 26) rfl rfl Try.func93 kr rfl #[.int .i64 Z] rfl qM ?_;(with_reducible refine(newelref17_tick.calls Z ε _ A7.out).mono ?_);rintro e w' ⟨rfl,⟨nd,rfl⟩⟩;refine⟨_,rfl, ?_⟩))
    go_ret
    exact⟨by first|rfl|(simp[Qk,Qj] <;> rfl)|(simp[*,Qk,Qj] <;> rfl),bel⟩
  ·replace c9:=Bool.eq_false_iff.mpr c9
   subst c9
   rw[if_neg nft] at H
   obtain rfl:=Option.some.inj H
   go_enter Try.func77,Try.ntmps77
   go_wp2_with (first|((with_reducible refine Qe (N:=1) rfl ?_);refine qE 1 #[.int .i64 B,.int .i64 J,.int .i64 O,.int .i64 X,.int .i64 Y,.int .i64 Z,.int .i64 γ] 23 ?_;intro η hg di hbox hb;have δ :=aK hbox;have θ :=sGe hg;have ι :=sGe hg;replace HB:=sHb hb;clear hb hbox hg;obtain⟨fq,gi,gj,jj,jk,jm,jn,fr,gk,gl,jp,jq,jr,js⟩:=qD7 δ.out)|((with_reducible refine Qf (f:=93) rfl ?_);refine Qt (some 11) rfl rfl Try.func93 kr rfl #[.int .i64 B] rfl qM ?_;(with_reducible refine(newelref17_tick.calls B true _ A2.out).mono ?_);rintro e w' ⟨rfl,⟨nd,rfl⟩⟩;refine⟨_,rfl, ?_⟩)|((with_reducible refine Qf (f:=93) rfl ?_);refine Qt (some 14) rfl rfl Try.func93 kr rfl #[.int .i64 J] rfl qM ?_;(with_reducible refine(newelref17_tick.calls J false _ A3.out).mono ?_);rintro e w' ⟨rfl,⟨nd,rfl⟩⟩;refine⟨_,rfl, ?_⟩)|((with_reducible refine Qf (f:=93) rfl ?_);refine Qt (some 17) rfl rfl Try.func93 kr rfl #[.int .i64 O] rfl qM ?_;(with_reducible refine(newelref17_tick.calls O μ _ A4.out).mono ?_);rintro e w' ⟨rfl,⟨nd,rfl⟩⟩;refine⟨_,rfl, ?_⟩)|((with_reducible refine Qf (f:=93) rfl ?_);refine Qt (some 20) rfl rfl Try.func93 kr rfl #[.int .i64 X] rfl qM ?_;(with_reducible refine(newelref17_tick.calls X κ _ A5.out).mono ?_);rintro e w' ⟨rfl,⟨nd,rfl⟩⟩;refine⟨_,rfl, ?_⟩)|((with_reducible refine Qf (f:=93) rfl ?_);refine Qt (some 23) rfl rfl Try.func93 kr rfl #[.int .i64 Y] rfl qM ?_;(with_reducible refine(newelref17_tick.calls Y ζ _ A6.out).mono ?_);rintro e w' ⟨rfl,⟨nd,rfl⟩⟩;refine⟨_,rfl, ?_⟩)|((with_reducible refine Qf (f:=93) rfl ?_);refine Qt (some 26) rfl rfl Try.func93 kr rfl #[.int .i64 Z] rfl qM ?_;(with_reducible refine(newelref17_tick.calls Z ε _ A7.out).mono ?_);rintro e w' ⟨rfl,⟨nd,rfl⟩⟩;refine⟨_,rfl, ?_⟩))
   go_ret
   exact⟨by first|rfl|(simp[Qk,Qj] <;> rfl)|(simp[*,Qk,Qj] <;> rfl),bel⟩
 ·replace c8:=Bool.eq_false_iff.mpr c8
  subst c8
  rw[if_neg nft] at H
  obtain rfl:=Option.some.inj H
  go_enter Try.func77,Try.ntmps77
  go_wp2_with (first|((with_reducible refine Qe (N:=1) rfl ?_);refine qE 1 #[.int .i64 B,.int .i64 J,.int .i64 O,.int .i64 X,.int .i64 Y,.int .i64 Z,.int .i64 γ] 23 ?_;intro η hg h8 hbox hb;have δ :=aK hbox;have θ :=sGe hg;have ι :=sGe hg;replace HB:=sHb hb;clear hb hbox hg;obtain⟨e7,e8,eu,ft,fu,fv,fw,e9,ea,ev,fx,fy,fz,ga⟩:=qD7 δ.out)|((with_reducible refine Qf (f:=93) rfl ?_);refine Qt (some 11) rfl rfl Try.func93 kr rfl #[.int .i64 B] rfl qM ?_;(with_reducible refine(newelref17_tick.calls B false _ A2.out).mono ?_);rintro e w' ⟨rfl,⟨nd,rfl⟩⟩;refine⟨_,rfl, ?_⟩)|((with_reducible refine Qf (f:=93) rfl ?_);refine Qt (some 14) rfl rfl Try.func93 kr rfl #[.int .i64 J] rfl qM ?_;(with_reducible refine(newelref17_tick.calls J ν _ A3.out).mono ?_);rintro e w' ⟨rfl,⟨nd,rfl⟩⟩;refine⟨_,rfl, ?_⟩)|((with_reducible refine Qf (f:=93) rfl ?_);refine Qt (some 17) rfl rfl Try.func93 kr rfl #[.int .i64 O] rfl qM ?_;(with_reducible refine(newelref17_tick.calls O μ _ A4.out).mono ?_);rintro e w' ⟨rfl,⟨nd,rfl⟩⟩;refine⟨_,rfl, ?_⟩)|((with_reducible refine Qf (f:=93) rfl ?_);refine Qt (some 20) rfl rfl Try.func93 kr rfl #[.int .i64 X] rfl qM ?_;(with_reducible refine(newelref17_tick.calls X κ _ A5.out).mono ?_);rintro e w' ⟨rfl,⟨nd,rfl⟩⟩;refine⟨_,rfl, ?_⟩)|((with_reducible refine Qf (f:=93) rfl ?_);refine Qt (some 23) rfl rfl Try.func93 kr rfl #[.int .i64 Y] rfl qM ?_;(with_reducible refine(newelref17_tick.calls Y ζ _ A6.out).mono ?_);rintro e w' ⟨rfl,⟨nd,rfl⟩⟩;refine⟨_,rfl, ?_⟩)|((with_reducible refine Qf (f:=93) rfl ?_);refine Qt (some 26) rfl rfl Try.func93 kr rfl #[.int .i64 Z] rfl qM ?_;(with_reducible refine(newelref17_tick.calls Z ε _ A7.out).mono ?_);rintro e w' ⟨rfl,⟨nd,rfl⟩⟩;refine⟨_,rfl, ?_⟩))
  go_ret
  exact⟨by first|rfl|(simp[Qk,Qj] <;> rfl)|(simp[*,Qk,Qj] <;> rfl),bel⟩
def newelref17_Gear.f (B:Int) (J:Int) (O:Int) (X:Int) (Y:Int) (Z:Int) (γ:Int) (ζ :Int) (θ :Int) (η :Int):Option (Bool):=(newelref17_Times.f J O X Y Z γ ζ).bind fun μ =>(if μ = true then (if B≥2 then (if B≤64 then (if θ ≥ 1 then (if θ ≤ 300 then (if η ≥ 0 then (some (decide (η ≤ 60))) else (some false)) else (some false)) else (some false)) else (some false)) else (some false)) else (some false))
set_option maxHeartbeats 8000000 in
set_option maxRecDepth 100000 in
theorem newelref17_Gear.calls (B:Int) (J:Int) (O:Int) (X:Int) (Y:Int) (Z:Int) (γ:Int) (ζ :Int) (θ :Int) (η :Int) (r:Bool) (w:World) (h:newelref17_Gear.f B J O X Y Z γ ζ θ η = some r):
 Calls Try.prog 53 #[.agg #[.int .i64 B,.int .i64 J,.int .i64 O,.int .i64 X,.int .i64 Y,.int .i64 Z,.int .i64 γ,.int .i64 ζ,.int .i64 θ,.int .i64 η]] w fun e w'=>e = .returned (.bool r)∧Below w.heap.size w w':=by
 have cg:=Try.underlying25
 have ja:=Try.underlying23
 have HB:=aK (Below.refl w.heap.size w)
 have H:((newelref17_Times.f J O X Y Z γ ζ).bind fun μ =>(if μ = true then (if B≥2 then (if B≤64 then (if θ ≥ 1 then (if θ ≤ 300 then (if η ≥ 0 then (some (decide (η ≤ 60))) else (some false)) else (some false)) else (some false)) else (some false)) else (some false)) else (some false)))=some r:=h
 clear h
 obtain⟨μ,bs,H⟩:=qO H
 have A2:=aK bs
 clear bs
 by_cases c3: μ = true
 ·subst c3
  rw[if_pos rfl] at H
  by_cases c4:B≥2
  ·rw[if_pos c4] at H
   have c4b0:decide (2≤B)=true:=decide_eq_true c4
   clear c4
   by_cases c5:B≤64
   ·rw[if_pos c5] at H
    have c5b0:=decide_eq_true c5
    clear c5
    by_cases c6: θ ≥ 1
    ·rw[if_pos c6] at H
     have c6b0:decide (1 ≤ θ)=true:=decide_eq_true c6
     clear c6
     by_cases c7: θ ≤ 300
     ·rw[if_pos c7] at H
      have c7b0:=decide_eq_true c7
      clear c7
      by_cases c8: η ≥ 0
      ·rw[if_pos c8] at H
       have c8b0:decide (0 ≤ η)=true:=decide_eq_true c8
       clear c8
       obtain rfl:=Option.some.inj H
       go_enter Try.func53,Try.ntmps53
       go_wp2_with (first|((with_reducible refine Qe (N:=1) rfl ?_);refine qE 1 #[.int .i64 B,.int .i64 J,.int .i64 O,.int .i64 X,.int .i64 Y,.int .i64 Z,.int .i64 γ,.int .i64 ζ,.int .i64 θ,.int .i64 η] 25 ?_;intro ε hg w9 hbox hb;have δ :=aK hbox;have ι :=sGe hg;have κ :=sGe hg;replace HB:=sHb hb;clear hb hbox hg;obtain⟨af,bd,du,co,cp,gx,gy,a6,aa,ae,bf,cw,ee,gz,hh,hj,hl,bc,iu,iv⟩:=Zg δ.out)|((with_reducible refine Qf (f:=77) rfl ?_);refine Qt (some 6) rfl rfl Try.func77 kr rfl #[.agg #[.int .i64 J,.int .i64 O,.int .i64 X,.int .i64 Y,.int .i64 Z,.int .i64 γ,.int .i64 ζ]] rfl qM ?_;(with_reducible refine(newelref17_Times.calls J O X Y Z γ ζ true _ A2.out).mono ?_);rintro e d4 ⟨rfl,hb⟩;refine⟨_,rfl, ?_⟩;replace δ :=sBk δ hb;replace HB:=sHb hb;(try clear hb);(try clear a4);(try clear hk);(try clear hi);obtain⟨a5,am,φ,f7,f8,fa,fb,h9,ha,iw,b3,b4,a8,fc,fe,ff,fg,ix,iy,iz⟩:=Zg δ.out))
       go_ret
       exact⟨rfl,HB.out⟩
      ·rw[if_neg c8] at H
       have c8b0:decide (0 ≤ η)=false:=decide_eq_false c8
       clear c8
       obtain rfl:=Option.some.inj H
       go_enter Try.func53,Try.ntmps53
       go_wp2_with (first|((with_reducible refine Qe (N:=1) rfl ?_);refine qE 1 #[.int .i64 B,.int .i64 J,.int .i64 O,.int .i64 X,.int .i64 Y,.int .i64 Z,.int .i64 γ,.int .i64 ζ,.int .i64 θ,.int .i64 η] 25 ?_;intro ε hg ba hbox hb;have δ :=aK hbox;have ι :=sGe hg;have κ :=sGe hg;replace HB:=sHb hb;clear hb hbox hg;obtain⟨bw,bz,d5,ef,eg,eh,ei,gg,he,hu,ca,cb,d6,ej,ek,el,em,gh,hx,hy⟩:=Zg δ.out)|((with_reducible refine Qf (f:=77) rfl ?_);refine Qt (some 6) rfl rfl Try.func77 kr rfl #[.agg #[.int .i64 J,.int .i64 O,.int .i64 X,.int .i64 Y,.int .i64 Z,.int .i64 γ,.int .i64 ζ]] rfl qM ?_;(with_reducible refine(newelref17_Times.calls J O X Y Z γ ζ true _ A2.out).mono ?_);rintro e ez ⟨rfl,hb⟩;refine⟨_,rfl, ?_⟩;replace δ :=sBk δ hb;replace HB:=sHb hb;(try clear hb);(try clear a4);(try clear hk);(try clear hi);obtain⟨cx,cy,χ,ci,cm,eb,ec,cr,ho,i0,cz,d0,ω,ed,en,eo,ep,fh,i1,i2⟩:=Zg δ.out))
       go_ret
       exact⟨rfl,HB.out⟩
     ·rw[if_neg c7] at H
      have c7b0:=decide_eq_false c7
      clear c7
      obtain rfl:=Option.some.inj H
      go_enter Try.func53,Try.ntmps53
      go_wp2_with (first|((with_reducible refine Qe (N:=1) rfl ?_);refine qE 1 #[.int .i64 B,.int .i64 J,.int .i64 O,.int .i64 X,.int .i64 Y,.int .i64 Z,.int .i64 γ,.int .i64 ζ,.int .i64 θ,.int .i64 η] 25 ?_;intro ε hg d1 hbox hb;have δ :=aK hbox;have ι :=sGe hg;have κ :=sGe hg;replace HB:=sHb hb;clear hb hbox hg;obtain⟨bg,bh,er,bu,bv,d8,d9,σ,τ,ψ,bi,bj,et,da,db,dj,dl,a0,a1,a2⟩:=Zg δ.out)|((with_reducible refine Qf (f:=77) rfl ?_);refine Qt (some 6) rfl rfl Try.func77 kr rfl #[.agg #[.int .i64 J,.int .i64 O,.int .i64 X,.int .i64 Y,.int .i64 Z,.int .i64 γ,.int .i64 ζ]] rfl qM ?_;(with_reducible refine(newelref17_Times.calls J O X Y Z γ ζ true _ A2.out).mono ?_);rintro e b5 ⟨rfl,hb⟩;refine⟨_,rfl, ?_⟩;replace δ :=sBk δ hb;replace HB:=sHb hb;(try clear hb);(try clear a4);(try clear hk);(try clear hi);obtain⟨ak,an,a3,a9,ch,dc,dr,ac,i3,i4,aw,ax,b6,dv,dw,dx,dy,i5,i6,i7⟩:=Zg δ.out))
      go_ret
      exact⟨rfl,HB.out⟩
    ·rw[if_neg c6] at H
     have c6b0:decide (1 ≤ θ)=false:=decide_eq_false c6
     clear c6
     obtain rfl:=Option.some.inj H
     go_enter Try.func53,Try.ntmps53
     go_wp2_with (first|((with_reducible refine Qe (N:=1) rfl ?_);refine qE 1 #[.int .i64 B,.int .i64 J,.int .i64 O,.int .i64 X,.int .i64 Y,.int .i64 Z,.int .i64 γ,.int .i64 ζ,.int .i64 θ,.int .i64 η] 25 ?_;intro ε hg b2 hbox hb;have δ :=aK hbox;have ι :=sGe hg;have κ :=sGe hg;replace HB:=sHb hb;clear hb hbox hg;obtain⟨ap,ar,al,bk,bl,bm,bn,dz,e0,e3,au,av,b7,bo,bp,bq,br,e4,e5,e6⟩:=Zg δ.out)|((with_reducible refine Qf (f:=77) rfl ?_);refine Qt (some 6) rfl rfl Try.func77 kr rfl #[.agg #[.int .i64 J,.int .i64 O,.int .i64 X,.int .i64 Y,.int .i64 Z,.int .i64 γ,.int .i64 ζ]] rfl qM ?_;(with_reducible refine(newelref17_Times.calls J O X Y Z γ ζ true _ A2.out).mono ?_);rintro e bb ⟨rfl,hb⟩;refine⟨_,rfl, ?_⟩;replace δ :=sBk δ hb;replace HB:=sHb hb;(try clear hb);(try clear a4);(try clear hk);(try clear hi);obtain⟨ay,az,cd,fi,fj,fk,fl,gf,h0,h4,b0,b1,ce,fm,fn,fo,fp,h5,h6,h7⟩:=Zg δ.out))
     go_ret
     exact⟨rfl,HB.out⟩
   ·rw[if_neg c5] at H
    have c5b0:=decide_eq_false c5
    clear c5
    obtain rfl:=Option.some.inj H
    go_enter Try.func53,Try.ntmps53
    go_wp2_with (first|((with_reducible refine Qe (N:=1) rfl ?_);refine qE 1 #[.int .i64 B,.int .i64 J,.int .i64 O,.int .i64 X,.int .i64 Y,.int .i64 Z,.int .i64 γ,.int .i64 ζ,.int .i64 θ,.int .i64 η] 25 ?_;intro ε hg dt hbox hb;have δ :=aK hbox;have ι :=sGe hg;have κ :=sGe hg;replace HB:=sHb hb;clear hb hbox hg;obtain⟨b9,cf,dd,de,df,dh,ew,j4,jl,jz,cj,ck,dk,ey,i9,ia,ib,j5,k0,k1⟩:=Zg δ.out)|((with_reducible refine Qf (f:=77) rfl ?_);refine Qt (some 6) rfl rfl Try.func77 kr rfl #[.agg #[.int .i64 J,.int .i64 O,.int .i64 X,.int .i64 Y,.int .i64 Z,.int .i64 γ,.int .i64 ζ]] rfl qM ?_;(with_reducible refine(newelref17_Times.calls J O X Y Z γ ζ true _ A2.out).mono ?_);rintro e di ⟨rfl,hb⟩;refine⟨_,rfl, ?_⟩;replace δ :=sBk δ hb;replace HB:=sHb hb;(try clear hb);(try clear a4);(try clear hk);(try clear hi);obtain⟨fq,gi,gj,jj,jk,jm,jn,kq,l4,l5,fr,gk,gl,jp,jq,jr,js,lh,ll,lm⟩:=Zg δ.out))
    go_ret
    exact⟨rfl,HB.out⟩
  ·rw[if_neg c4] at H
   have c4b0:decide (2≤B)=false:=decide_eq_false c4
   clear c4
   obtain rfl:=Option.some.inj H
   go_enter Try.func53,Try.ntmps53
   go_wp2_with (first|((with_reducible refine Qe (N:=1) rfl ?_);refine qE 1 #[.int .i64 B,.int .i64 J,.int .i64 O,.int .i64 X,.int .i64 Y,.int .i64 Z,.int .i64 γ,.int .i64 ζ,.int .i64 θ,.int .i64 η] 25 ?_;intro ε hg h8 hbox hb;have δ :=aK hbox;have ι :=sGe hg;have κ :=sGe hg;replace HB:=sHb hb;clear hb hbox hg;obtain⟨e7,e8,eu,ft,fu,fv,fw,ic,ie,ig,e9,ea,ev,fx,fy,fz,ga,ih,ii,ij⟩:=Zg δ.out)|((with_reducible refine Qf (f:=77) rfl ?_);refine Qt (some 6) rfl rfl Try.func77 kr rfl #[.agg #[.int .i64 J,.int .i64 O,.int .i64 X,.int .i64 Y,.int .i64 Z,.int .i64 γ,.int .i64 ζ]] rfl qM ?_;(with_reducible refine(newelref17_Times.calls J O X Y Z γ ζ true _ A2.out).mono ?_);rintro e k3 ⟨rfl,hb⟩;refine⟨_,rfl, ?_⟩;replace δ :=sBk δ hb;replace HB:=sHb hb;(try clear hb);(try clear a4);(try clear hk);(try clear hi);obtain⟨gm,gn,gp,ik,il,im,io,jt,ju,jv,gq,gr,gs,ip,iq,ir,it,jw,kb,kc⟩:=Zg δ.out))
   go_ret
   exact⟨rfl,HB.out⟩
 ·replace c3:=Bool.eq_false_iff.mpr c3
  subst c3
  rw[if_neg nft] at H
  obtain rfl:=Option.some.inj H
  go_enter Try.func53,Try.ntmps53
  go_wp2_with (first|((with_reducible refine Qe (N:=1) rfl ?_);refine qE 1 #[.int .i64 B,.int .i64 J,.int .i64 O,.int .i64 X,.int .i64 Y,.int .i64 Z,.int .i64 γ,.int .i64 ζ,.int .i64 θ,.int .i64 η] 25 ?_;intro ε hg k8 hbox hb;have δ :=aK hbox;have ι :=sGe hg;have κ :=sGe hg;replace HB:=sHb hb;clear hb hbox hg;obtain⟨gb,gt,gu,jb,jc,jd,je,j6,j7,j8,ge,gv,gw,jf,jg,jh,ji,j9,jx,jy⟩:=Zg δ.out)|((with_reducible refine Qf (f:=77) rfl ?_);refine Qt (some 6) rfl rfl Try.func77 kr rfl #[.agg #[.int .i64 J,.int .i64 O,.int .i64 X,.int .i64 Y,.int .i64 Z,.int .i64 γ,.int .i64 ζ]] rfl qM ?_;(with_reducible refine(newelref17_Times.calls J O X Y Z γ ζ false _ A2.out).mono ?_);rintro e jo ⟨rfl,hb⟩;refine⟨_,rfl, ?_⟩;replace δ :=sBk δ hb;replace HB:=sHb hb;(try clear hb);(try clear a4);(try clear hk);(try clear hi)))
  go_ret
  exact⟨rfl,HB.out⟩
def newelref17_Rest.j0:Nat→Int→Int→Int→Int→Int→Int→Int→Int→Int→Int→Int→Int→Int→Int→Option (Int)
 |0,_,_,_,_,_,_,_,_,_,_,_,_,_,_=>none
 |k+1,X,δ,ε,ζ,Y,η,θ,B,ι,Z,J,γ,κ,O=>if γ=2 then (if J>O then (some (wrap64 ((wrap64 (X+B))+(wrap64 ((wrap64 (J-O)) * (wrap64 ((wrap64 (Y+Z))+B))))))) else (some (wrap64 (X+B)))) else (if J>O then (some (wrap64 (X+(wrap64 ((wrap64 (J-O)) * (wrap64 ((wrap64 (Y+Z))+B))))))) else (some X))
def newelref17_Rest.f (k:Nat) (B:Int) (J:Int) (O:Int) (X:Int) (Y:Int) (Z:Int) (γ:Int) (ζ :Int) (θ :Int) (η :Int) (δ :Int) (ε :Int) (ι :Int):Option (Int):=if δ = 0 then (some 0) else (if δ = 1 then (newelref17_Rest.j0 k (wrap64 ((wrap64 (ε + θ))+γ)) B J O X Y Z γ ζ θ η δ ε ι) else (newelref17_Rest.j0 k ε B J O X Y Z γ ζ θ η δ ε ι))
set_option maxHeartbeats 8000000 in
set_option maxRecDepth 100000 in
theorem newelref17_Rest.calls (k:Nat) (B:Int) (J:Int) (O:Int) (X:Int) (Y:Int) (Z:Int) (γ:Int) (ζ :Int) (θ :Int) (η :Int) (δ :Int) (ε :Int) (ι :Int) (r:Int) (w:World) (h:newelref17_Rest.f k B J O X Y Z γ ζ θ η δ ε ι = some r):
 Calls Try.prog 56 #[.agg #[.int .i64 B,.int .i64 J,.int .i64 O,.int .i64 X,.int .i64 Y,.int .i64 Z,.int .i64 γ,.int .i64 ζ,.int .i64 θ,.int .i64 η],.agg #[.int .i64 δ,.int .i64 ε,.int .i64 ι]] w fun e w'=>e = .returned (.int .i64 r)∧Below w.heap.size w w':=by
 have cg:=Try.underlying25
 have he:=Try.underlying27
 have HB:=aK (Below.refl w.heap.size w)
 have H:(if δ = 0 then (some 0) else (if δ = 1 then (newelref17_Rest.j0 k (wrap64 ((wrap64 (ε + θ))+γ)) B J O X Y Z γ ζ θ η δ ε ι) else (newelref17_Rest.j0 k ε B J O X Y Z γ ζ θ η δ ε ι)))=some r:=h
 clear h
 by_cases c3: δ = 0
 ·rw[if_pos c3] at H
  have c3b0:(δ == 0)=true:=beq_iff_eq.mpr c3
  have c3b1:(δ != 0)=false:=bne_eq_false_iff_eq.mpr c3
  clear c3
  obtain rfl:=Option.some.inj H
  go_enter Try.func56,Try.ntmps56
  go_wp2_with (first|((with_reducible refine Qe (N:=2) rfl ?_);refine qE 2 #[.int .i64 B,.int .i64 J,.int .i64 O,.int .i64 X,.int .i64 Y,.int .i64 Z,.int .i64 γ,.int .i64 ζ,.int .i64 θ,.int .i64 η] 25 ?_;intro τ hg w4 hbox hb;have κ :=aK hbox;have a1:=sGe hg;have a4:=sGe hg;replace HB:=sHb hb;clear hb hbox hg)|((with_reducible refine Qe (N:=3) rfl ?_);refine qE 3 #[.int .i64 δ,.int .i64 ε,.int .i64 ι] 27 ?_;intro ω hg w5 hbox hb;have ξ :=aK hbox;have aa:=sGe hg;have ab:=sGe hg;have μ :=sNl κ hg;have ν :=sNg κ hg;replace κ :=sBk κ hb;replace HB:=sHb hb;clear hb hbox hg;have cr:= ν.out;have cv:= μ.out;obtain⟨a0,a2,b1,ae,ay,bc⟩:=qD3 ξ.out))
  go_ret
  exact⟨rfl,HB.out⟩
 ·rw[if_neg c3] at H
  have c3b0:(δ == 0)=false:=beq_eq_false_iff_ne.mpr c3
  have c3b1:(δ != 0)=true:=bne_iff_ne.mpr c3
  have a7:=aK H
  clear H
  go_enter Try.func56,Try.ntmps56
  go_upto_if 13 with(first|((with_reducible refine Qe (N:=2) rfl ?_);refine qE 2 #[.int .i64 B,.int .i64 J,.int .i64 O,.int .i64 X,.int .i64 Y,.int .i64 Z,.int .i64 γ,.int .i64 ζ,.int .i64 θ,.int .i64 η] 25 ?_;intro τ hg w9 hbox hb;have κ :=aK hbox;have a1:=sGe hg;have a4:=sGe hg;replace HB:=sHb hb;clear hb hbox hg)|((with_reducible refine Qe (N:=3) rfl ?_);refine qE 3 #[.int .i64 δ,.int .i64 ε,.int .i64 ι] 27 ?_;intro ω hg fj hbox hb;have ξ :=aK hbox;have aa:=sGe hg;have ab:=sGe hg;have μ :=sNl κ hg;have ν :=sNg κ hg;replace κ :=sBk κ hb;replace HB:=sHb hb;clear hb hbox hg;have et:= ν.out;have fi:= μ.out;obtain⟨a5,am,φ,b3,b4,a8⟩:=qD3 ξ.out))
  (try simp only[Act.put,qS])
  go_cut [5] (fun v5 wc=>∃ (kq:Nat) (ρ:Int),v5 = .int .i64 ρ∧Aside0 (newelref17_Rest.j0 kq ρ B J O X Y Z γ ζ θ η δ ε ι = some r)∧Aside0 (kq≤k)∧Aside0 (wc.heap[τ]?=some (.cells #[.int .i64 B,.int .i64 J,.int .i64 O,.int .i64 X,.int .i64 Y,.int .i64 Z,.int .i64 γ,.int .i64 ζ,.int .i64 θ,.int .i64 η] 25 (0,0)))∧Aside0 (wc.heap[ω]?=some (.cells #[.int .i64 δ,.int .i64 ε,.int .i64 ι] 27 (0,0)))∧Aside0 (Below w.heap.size w wc))
  case first=>
   have H:=a7.out
   clear a7
   by_cases ψ : δ = 1
   ·rw[if_pos ψ] at H
    have c13b0:(δ == 1)=true:=beq_iff_eq.mpr ψ
    have c13b1:(δ != 1)=false:=bne_eq_false_iff_eq.mpr ψ
    clear ψ
    (first|rw[c13b0]|(simp only[Za,Zb];rw[c13b0])|skip)
    have H':=aK H
    clear H
    have ej:= μ.out
    have ek:= ν.out
    obtain⟨bu,bv,di,eg,eh,ei,ep,f7,f8,fa,ci,cm,ef,fb,fc,fe,fg,fl,fn,fo⟩:=Zg κ.out
    go_wp2
    go_meet
    case rel=>exact⟨_,(wrap64 ((wrap64 (ε + θ))+γ)),rfl,H',⟨by first|omega|exact Nat.le_refl _⟩,κ,ξ,HB⟩
   ·rw[if_neg ψ] at H
    have c13b0:(δ == 1)=false:=beq_eq_false_iff_ne.mpr ψ
    have c13b1:(δ != 1)=true:=bne_iff_ne.mpr ψ
    (first|rw[c13b0]|(simp only[Za,Zb];rw[c13b0])|skip)
    have H':=aK H
    clear H
    go_wp2
    go_meet
    case rel=>exact⟨_,(ε),rfl,H',⟨by first|omega|exact Nat.le_refl _⟩,κ,ξ,HB⟩
  case rest=>
   clear a7
   try clear c3
   try clear c3b0
   try clear c3b1
   try clear a5
   try clear am
   try clear φ
   try clear b3
   try clear b4
   try clear a8
   obtain⟨kq,ρ,rfl,HA,b0,κ,ξ,HB⟩:=hcut
   cases kq with
   |zero=>exact absurd HA.out (by simp[newelref17_Rest.j0])
   |succ ba=>
    have H:=HA.out
    clear HA
    simp only[newelref17_Rest.j0] at H
    by_cases χ : δ = 2
    ·rw[if_pos χ] at H
     have c16b0:(δ == 2)=true:=beq_iff_eq.mpr χ
     have c16b1:(δ != 2)=false:=bne_eq_false_iff_eq.mpr χ
     clear χ
     by_cases σ: η > ι
     ·rw[if_pos σ] at H
      have c17b0:decide (ι < η)=true:=decide_eq_true σ
      clear σ
      obtain rfl:=Option.some.inj H
      have d5:= ν.out
      have d6:= μ.out
      obtain⟨ag,ah,b5,ai,aj,b8⟩:=qD3 ξ.out
      obtain⟨ak,an,a3,a9,ch,dc,dr,ac,i3,i4,aw,ax,b6,dv,dw,dx,dy,i5,i6,i7⟩:=Zg κ.out
      go_wp2
      go_ret
      exact⟨rfl,HB.out⟩
     ·rw[if_neg σ] at H
      have c17b0:decide (ι < η)=false:=decide_eq_false σ
      clear σ
      obtain rfl:=Option.some.inj H
      have gz:= ν.out
      have hu:= μ.out
      obtain⟨ap,ar,al,au,av,b7⟩:=qD3 ξ.out
      obtain⟨bb,de,df,gb,ge,gv,gw,jb,jc,jd,dh,dj,dl,je,jf,jg,jh,ji,jj,jk⟩:=Zg κ.out
      go_wp2
      go_ret
      exact⟨rfl,HB.out⟩
    ·rw[if_neg χ] at H
     have c16b0:(δ == 2)=false:=beq_eq_false_iff_ne.mpr χ
     have c16b1:(δ != 2)=true:=bne_iff_ne.mpr χ
     by_cases a6: η > ι
     ·rw[if_pos a6] at H
      have c24b0:decide (ι < η)=true:=decide_eq_true a6
      clear a6
      obtain rfl:=Option.some.inj H
      have en:= ν.out
      have eo:= μ.out
      obtain⟨b9,cf,dd,cj,ck,dk⟩:=qD3 ξ.out
      obtain⟨db,dm,af,ao,az,b2,bd,bf,bg,bh,dn,dp,bi,bk,bl,bm,bn,bo,bp,bq⟩:=Zg κ.out
      go_wp2
      go_ret
      exact⟨rfl,HB.out⟩
     ·rw[if_neg a6] at H
      have c24b0:decide (ι < η)=false:=decide_eq_false a6
      clear a6
      obtain rfl:=Option.some.inj H
      have bj:= ν.out
      have cu:= μ.out
      obtain⟨ff,iz,j4,j5,ja,jl⟩:=qD3 ξ.out
      obtain⟨e7,e8,eu,ft,fu,fv,fw,ic,ie,ig,e9,ea,ev,fx,fy,fz,ga,ih,ii,ij⟩:=Zg κ.out
      go_wp2
      go_ret
      exact⟨rfl,HB.out⟩
def newelref17_May.j0:Nat→Bool→Int→Int→Int→Option (Bool)
 |0,_,_,_,_=>none
 |k+1,X,B,J,O=>if X=true then (some false) else (if B=2 then (some (decide (J≤300))) else (if B=1 then (some (decide (J≤60))) else (if B=3 then (some (decide (J≤60))) else (some false))))
def newelref17_May.f (k:Nat) (B:Int) (J:Int) (O:Int):Option (Bool):=if B=0 then (if J=0 then (some (O==0)) else (some false)) else (if O<0 then (newelref17_May.j0 k true B J O) else (if O>60 then (newelref17_May.j0 k true B J O) else (newelref17_May.j0 k (decide (J<1)) B J O)))
set_option maxHeartbeats 8000000 in
set_option maxRecDepth 100000 in
theorem newelref17_May.calls (k:Nat) (B:Int) (J:Int) (O:Int) (r:Bool) (w:World) (h:newelref17_May.f k B J O=some r):
 Calls Try.prog 78 #[.agg #[.int .i64 B,.int .i64 J,.int .i64 O]] w fun e w'=>e = .returned (.bool r)∧Below w.heap.size w w':=by
 have he:=Try.underlying27
 have HB:=aK (Below.refl w.heap.size w)
 have H:(if B=0 then (if J=0 then (some (O==0)) else (some false)) else (if O<0 then (newelref17_May.j0 k true B J O) else (if O>60 then (newelref17_May.j0 k true B J O) else (newelref17_May.j0 k (decide (J<1)) B J O))))=some r:=h
 clear h
 by_cases c2:B=0
 ·rw[if_pos c2] at H
  have c2b0:(B==0)=true:=beq_iff_eq.mpr c2
  have c2b1:(B != 0)=false:=bne_eq_false_iff_eq.mpr c2
  clear c2
  by_cases c3:J=0
  ·rw[if_pos c3] at H
   have c3b0:(J==0)=true:=beq_iff_eq.mpr c3
   have c3b1:(J != 0)=false:=bne_eq_false_iff_eq.mpr c3
   clear c3
   obtain rfl:=Option.some.inj H
   go_enter Try.func78,Try.ntmps78
   go_wp2_with (first|((with_reducible refine Qe (N:=1) rfl ?_);refine qE 1 #[.int .i64 B,.int .i64 J,.int .i64 O] 27 ?_;intro Z hg w4 hbox hb;have X:=aK hbox;have γ:=sGe hg;have δ :=sGe hg;replace HB:=sHb hb;clear hb hbox hg;obtain⟨br,cd,ce,cg,ch,cq⟩:=qD3 X.out))
   go_ret
   exact⟨rfl,HB.out⟩
  ·rw[if_neg c3] at H
   have c3b0:(J==0)=false:=beq_eq_false_iff_ne.mpr c3
   have c3b1:(J != 0)=true:=bne_iff_ne.mpr c3
   obtain rfl:=Option.some.inj H
   go_enter Try.func78,Try.ntmps78
   go_wp2_with (first|((with_reducible refine Qe (N:=1) rfl ?_);refine qE 1 #[.int .i64 B,.int .i64 J,.int .i64 O] 27 ?_;intro Z hg w6 hbox hb;have X:=aK hbox;have γ:=sGe hg;have δ :=sGe hg;replace HB:=sHb hb;clear hb hbox hg;obtain⟨a0,a2,b1,ae,ay,bc⟩:=qD3 X.out))
   go_ret
   exact⟨rfl,HB.out⟩
 ·rw[if_neg c2] at H
  have c2b0:(B==0)=false:=beq_eq_false_iff_ne.mpr c2
  have c2b1:(B != 0)=true:=bne_iff_ne.mpr c2
  have a7:=aK H
  clear H
  go_enter Try.func78,Try.ntmps78
  go_upto_region 3 with(first|((with_reducible refine Qe (N:=1) rfl ?_);refine qE 1 #[.int .i64 B,.int .i64 J,.int .i64 O] 27 ?_;intro Z hg w9 hbox hb;have X:=aK hbox;have γ:=sGe hg;have δ :=sGe hg;replace HB:=sHb hb;clear hb hbox hg;obtain⟨af,bd,du,bf,cw,ee⟩:=qD3 X.out))
  (try simp only[Act.put,qS])
  go_cut [26] (fun ε wc=>∃ (kq:Nat) (Y:Bool),ε = .bool Y∧Aside0 (newelref17_May.j0 kq Y B J O=some r)∧Aside0 (kq≤k)∧Aside0 (wc.heap[Z]?=some (.cells #[.int .i64 B,.int .i64 J,.int .i64 O] 27 (0,0)))∧Aside0 (Below w.heap.size w wc))
  case first=>
   have H:=a7.out
   clear a7
   by_cases a6:O<0
   ·rw[if_pos a6] at H
    have c11b0:=decide_eq_true a6
    clear a6
    (first|rw[c11b0]|(simp only[Za,Zb];rw[c11b0])|skip)
    have H':=aK H
    clear H
    obtain⟨a5,am,φ,b3,b4,a8⟩:=qD3 X.out
    go_wp2
    go_meet
    case rel=>exact⟨_,(true),rfl,H',⟨by first|omega|exact Nat.le_refl _⟩,X,HB⟩
   ·rw[if_neg a6] at H
    have c11b0:=decide_eq_false a6
    clear a6
    (first|rw[c11b0]|(simp only[Za,Zb];rw[c11b0])|skip)
    by_cases ψ :O>60
    ·rw[if_pos ψ] at H
     have c13b0:decide (60<O)=true:=decide_eq_true ψ
     clear ψ
     have H':=aK H
     clear H
     obtain⟨bw,bz,d5,ca,cb,d6⟩:=qD3 X.out
     go_wp2
     go_meet
     case rel=>exact⟨_,(true),rfl,H',⟨by first|omega|exact Nat.le_refl _⟩,X,HB⟩
    ·rw[if_neg ψ] at H
     have c13b0:decide (60<O)=false:=decide_eq_false ψ
     clear ψ
     have H':=aK H
     clear H
     obtain⟨bu,bv,di,ci,cm,ef⟩:=qD3 X.out
     go_wp2
     go_meet
     case rel=>exact⟨_,(decide (J<1)),rfl,H',⟨by first|omega|exact Nat.le_refl _⟩,X,HB⟩
  case rest=>
   clear a7
   try clear c2
   try clear c2b0
   try clear c2b1
   try clear af
   try clear bd
   try clear du
   try clear bf
   try clear cw
   try clear ee
   obtain⟨kq,Y,rfl,HA,b0,X,HB⟩:=hcut
   cases kq with
   |zero=>exact absurd HA.out (by simp[newelref17_May.j0])
   |succ ba=>
    have H:=HA.out
    clear HA
    simp only[newelref17_May.j0] at H
    by_cases χ :Y=true
    ·subst χ
     rw[if_pos rfl] at H
     obtain rfl:=Option.some.inj H
     go_wp2
     go_ret
     exact⟨rfl,HB.out⟩
    ·replace χ :=Bool.eq_false_iff.mpr χ
     subst χ
     rw[if_neg nft] at H
     by_cases σ:B=2
     ·rw[if_pos σ] at H
      have c17b0:(B==2)=true:=beq_iff_eq.mpr σ
      have c17b1:(B != 2)=false:=bne_eq_false_iff_eq.mpr σ
      clear σ
      obtain rfl:=Option.some.inj H
      obtain⟨bg,bh,er,bi,bj,et⟩:=qD3 X.out
      go_wp2
      go_ret
      exact⟨rfl,HB.out⟩
     ·rw[if_neg σ] at H
      have c17b0:(B==2)=false:=beq_eq_false_iff_ne.mpr σ
      have c17b1:(B != 2)=true:=bne_iff_ne.mpr σ
      by_cases bk:B=1
      ·rw[if_pos bk] at H
       have c19b0:(B==1)=true:=beq_iff_eq.mpr bk
       have c19b1:(B != 1)=false:=bne_eq_false_iff_eq.mpr bk
       clear bk
       obtain rfl:=Option.some.inj H
       obtain⟨ak,an,a3,aw,ax,b6⟩:=qD3 X.out
       go_wp2
       go_ret
       exact⟨rfl,HB.out⟩
      ·rw[if_neg bk] at H
       have c19b0:(B==1)=false:=beq_eq_false_iff_ne.mpr bk
       have c19b1:(B != 1)=true:=bne_iff_ne.mpr bk
       by_cases ac:B=3
       ·rw[if_pos ac] at H
        have c21b0:(B==3)=true:=beq_iff_eq.mpr ac
        have c21b1:(B != 3)=false:=bne_eq_false_iff_eq.mpr ac
        clear ac
        obtain rfl:=Option.some.inj H
        obtain⟨ap,ar,al,au,av,b7⟩:=qD3 X.out
        go_wp2
        go_ret
        exact⟨rfl,HB.out⟩
       ·rw[if_neg ac] at H
        have c21b0:(B==3)=false:=beq_eq_false_iff_ne.mpr ac
        have c21b1:(B != 3)=true:=bne_iff_ne.mpr ac
        obtain rfl:=Option.some.inj H
        obtain⟨bb,de,df,dh,dj,dl⟩:=qD3 X.out
        go_wp2
        go_ret
        exact⟨rfl,HB.out⟩
mutual
def newelref18_May.j0:Nat→Int→Bool→Int→Int→Int→Int→Int→Int→Int→Option (Bool)
 |0,_,_,_,_,_,_,_,_,_=>none
 |k+1,B,O,X,J,Y,Z,γ,δ,ε =>if O=true then (some false) else (if Z≥1 then (newelref18_May.j1 k B (γ==0) (decide (Z≤60)) X J Y Z γ δ ε) else (newelref18_May.j1 k B (γ==0) false X J Y Z γ δ ε))
def newelref18_May.j1:Nat→Int→Bool→Bool→Int→Int→Int→Int→Int→Int→Int→Option (Bool)
 |0,_,_,_,_,_,_,_,_,_,_=>none
 |k+1,B,x6,O,X,J,Y,Z,γ,δ,ε =>if Y=0 then (if J=0 then (if Z=0 then (some x6) else (some false)) else (some false)) else (if Y=1 then (if J=1 then (if J=(-1) then (if (wrap64 (X+1))<B then (if O=true then (some x6) else (some false)) else (if X>0 then (if O=true then (some x6) else (some false)) else (some false))) else (if (wrap64 (X+1))<B then (if O=true then (some x6) else (some false)) else (some false))) else (if J=(-1) then (if X>0 then (if O=true then (some x6) else (some false)) else (some false)) else (some false))) else (if Y=2 then (if J=0 then (if O=true then (some x6) else (some false)) else (some false)) else (if Y=3 then (if J=0 then (if Z=0 then (some (!x6)) else (some false)) else (some false)) else (some false))))
end
def newelref18_May.f (k:Nat) (B:Int) (δ :Int) (ε :Int) (ι :Int) (μ :Int) (κ :Int) (ν :Int) (ξ :Int):Option (Bool):=(newelref17_May.f k κ ν ξ).bind fun ζ =>(if B<2 then (newelref18_May.j0 k B true δ ε ι μ κ ν ξ) else (if B>64 then (newelref18_May.j0 k B true δ ε ι μ κ ν ξ) else (if δ < 0 then (newelref18_May.j0 k B true δ ε ι μ κ ν ξ) else (if δ ≥ B then (newelref18_May.j0 k B true δ ε ι μ κ ν ξ) else (newelref18_May.j0 k B (!ζ) δ ε ι μ κ ν ξ)))))
set_option maxHeartbeats 8000000 in
set_option maxRecDepth 100000 in
theorem newelref18_May.calls (k:Nat) (B:Int) (δ :Int) (ε :Int) (ι :Int) (μ :Int) (κ :Int) (ν :Int) (ξ :Int) (r:Bool) (w:World) (h:newelref18_May.f k B δ ε ι μ κ ν ξ = some r):
 Calls Try.prog 54 #[.int .i64 B,.agg #[.int .i64 δ,.int .i64 ε,.int .i64 ι,.int .i64 μ,.int .i64 κ,.int .i64 ν,.int .i64 ξ]] w fun e w'=>e = .returned (.bool r)∧Below w.heap.size w w':=by
 have gk:=Try.underlying29
 have he:=Try.underlying27
 have HB:=aK (Below.refl w.heap.size w)
 have H:((newelref17_May.f k κ ν ξ).bind fun ζ =>(if B<2 then (newelref18_May.j0 k B true δ ε ι μ κ ν ξ) else (if B>64 then (newelref18_May.j0 k B true δ ε ι μ κ ν ξ) else (if δ < 0 then (newelref18_May.j0 k B true δ ε ι μ κ ν ξ) else (if δ ≥ B then (newelref18_May.j0 k B true δ ε ι μ κ ν ξ) else (newelref18_May.j0 k B (!ζ) δ ε ι μ κ ν ξ))))))=some r:=h
 clear h
 obtain⟨ζ,a7,H⟩:=qO H
 have A3:=aK a7
 clear a7
 have al:=aK H
 clear H
 go_enter Try.func54,Try.ntmps54
 go_upto_region 2 with(first|((with_reducible refine Qe (N:=3) rfl ?_);refine qE 3 #[.int .i64 δ,.int .i64 ε,.int .i64 ι,.int .i64 μ,.int .i64 κ,.int .i64 ν,.int .i64 ξ] 29 ?_;intro ω hg w5 hbox hb;have J:=aK hbox;have p5:=sGe hg;have p6:=sGe hg;replace HB:=sHb hb;clear hb hbox hg;obtain⟨σ,a6,φ,χ,a8,ab,am,ao,b2,b4,bb,bk,bn,bo⟩:=qD7 J.out)|((with_reducible refine Qf (f:=78) rfl ?_);refine Qt (some 12) rfl rfl Try.func78 kr rfl #[.agg #[.int .i64 κ,.int .i64 ν,.int .i64 ξ]] rfl qM ?_;(with_reducible refine(newelref17_May.calls k κ ν ξ ζ _ A3.out).mono ?_);rintro e w7 ⟨rfl,hb⟩;refine⟨_,rfl, ?_⟩;replace J:=sBk J hb;replace HB:=sHb hb;(try clear hb);(try clear a4);(try clear hk);(try clear hi)))
 (try simp only[Act.put,qS])
 go_cut [33] (fun p1 wc=>∃ (kq:Nat) (η :Bool),p1 = .bool η ∧ Aside0 (newelref18_May.j0 kq B η δ ε ι μ κ ν ξ = some r)∧Aside0 (kq≤k)∧Aside0 (wc.heap[ω]?=some (.cells #[.int .i64 δ,.int .i64 ε,.int .i64 ι,.int .i64 μ,.int .i64 κ,.int .i64 ν,.int .i64 ξ] 29 (0,0)))∧Aside0 (Below w.heap.size w wc))
 case first=>
  have H:=al.out
  clear al
  by_cases c8:B<2
  ·rw[if_pos c8] at H
   have c8b0:=decide_eq_true c8
   clear c8
   (first|rw[c8b0]|(simp only[Za,Zb];rw[c8b0])|skip)
   have H':=aK H
   clear H
   go_wp2
   go_meet
   case rel=>exact⟨_,(true),rfl,H',⟨by first|omega|exact Nat.le_refl _⟩,J,HB⟩
  ·rw[if_neg c8] at H
   have c8b0:=decide_eq_false c8
   clear c8
   (first|rw[c8b0]|(simp only[Za,Zb];rw[c8b0])|skip)
   by_cases c9:B>64
   ·rw[if_pos c9] at H
    have c9b0:decide (64<B)=true:=decide_eq_true c9
    clear c9
    have H':=aK H
    clear H
    go_wp2
    go_meet
    case rel=>exact⟨_,(true),rfl,H',⟨by first|omega|exact Nat.le_refl _⟩,J,HB⟩
   ·rw[if_neg c9] at H
    have c9b0:decide (64<B)=false:=decide_eq_false c9
    clear c9
    by_cases c10: δ < 0
    ·rw[if_pos c10] at H
     have c10b0:=decide_eq_true c10
     clear c10
     have H':=aK H
     clear H
     obtain⟨bs,cn,cw,fq,fr,gi,gj,co,cp,d4,gl,gx,gy,gz⟩:=qD7 J.out
     go_wp2
     go_meet
     case rel=>exact⟨_,(true),rfl,H',⟨by first|omega|exact Nat.le_refl _⟩,J,HB⟩
    ·rw[if_neg c10] at H
     have c10b0:=decide_eq_false c10
     clear c10
     by_cases a5: δ ≥ B
     ·rw[if_pos a5] at H
      have c12b0:decide (B ≤ δ)=true:=decide_eq_true a5
      clear a5
      have H':=aK H
      clear H
      obtain⟨af,bd,bu,e9,ea,et,f8,ba,bf,bv,fa,fb,fc,fe⟩:=qD7 J.out
      go_wp2
      go_meet
      case rel=>exact⟨_,(true),rfl,H',⟨by first|omega|exact Nat.le_refl _⟩,J,HB⟩
     ·rw[if_neg a5] at H
      have c12b0:decide (B ≤ δ)=false:=decide_eq_false a5
      clear a5
      have H':=aK H
      clear H
      obtain⟨bw,bz,d5,ef,eg,eh,ei,ca,cb,d6,ej,ek,el,em⟩:=qD7 J.out
      go_wp2
      go_meet
      case rel=>exact⟨_,(!ζ),rfl,H',⟨by first|omega|exact Nat.le_refl _⟩,J,HB⟩
 case rest=>
  clear al
  try clear σ
  try clear a6
  try clear φ
  try clear χ
  try clear a8
  try clear ab
  try clear am
  try clear ao
  try clear b2
  try clear b4
  try clear bb
  try clear bk
  try clear bn
  try clear bo
  obtain⟨kq,η,rfl,HA,du,J,HB⟩:=hcut
  cases kq with
  |zero=>exact absurd HA.out (by simp[newelref18_May.j0])
  |succ ff=>
   have H:=HA.out
   clear HA
   simp only[newelref18_May.j0] at H
   by_cases a1: η = true
   ·subst a1
    rw[if_pos rfl] at H
    obtain rfl:=Option.some.inj H
    go_wp2
    go_ret
    exact⟨rfl,HB.out⟩
   ·replace a1:=Bool.eq_false_iff.mpr a1
    subst a1
    rw[if_neg nft] at H
    have τ :=aK H
    clear H
    obtain⟨ap,ar,bg,bl,bm,bp,bq,au,av,bh,br,dm,dn,dp⟩:=qD7 J.out
    go_upto_region 5 with(fail)
    go_cut [7] (fun v7 wc=>∃ (kq:Nat) (X:Bool),v7 = .bool X∧Aside0 (newelref18_May.j1 kq B (κ == 0) X δ ε ι μ κ ν ξ = some r)∧Aside0 (kq≤ff)∧Aside0 (wc.heap[ω]?=some (.cells #[.int .i64 δ,.int .i64 ε,.int .i64 ι,.int .i64 μ,.int .i64 κ,.int .i64 ν,.int .i64 ξ] 29 (0,0)))∧Aside0 (Below w.heap.size w wc))
    case first=>
     have H:= τ.out
     clear τ
     by_cases ψ : μ ≥ 1
     ·rw[if_pos ψ] at H
      have c18b0:decide (1 ≤ μ)=true:=decide_eq_true ψ
      clear ψ
      (first|rw[c18b0]|(simp only[Za,Zb];rw[c18b0])|skip)
      have H':=aK H
      clear H
      obtain⟨ag,ah,b5,cq,ct,cu,cv,ai,aj,b8,d1,d2,d3,d7⟩:=qD7 J.out
      go_wp2
      go_meet
      case rel=>exact⟨_,(decide (μ ≤ 60)),rfl,H',⟨by have:=du.out;omega⟩,J,HB⟩
     ·rw[if_neg ψ] at H
      have c18b0:decide (1 ≤ μ)=false:=decide_eq_false ψ
      clear ψ
      (first|rw[c18b0]|(simp only[Za,Zb];rw[c18b0])|skip)
      have H':=aK H
      clear H
      obtain⟨ak,an,a3,a9,ch,dc,dr,aw,ax,b6,dv,dw,dx,dy⟩:=qD7 J.out
      go_wp2
      go_meet
      case rel=>exact⟨_,(false),rfl,H',⟨by have:=du.out;omega⟩,J,HB⟩
    case rest=>
     clear τ
     try clear a1
     try clear ap
     try clear ar
     try clear bg
     try clear bl
     try clear bm
     try clear bp
     try clear bq
     try clear σ
     try clear a6
     try clear φ
     try clear χ
     try clear a8
     try clear ab
     try clear am
     try clear au
     try clear av
     try clear bh
     try clear br
     try clear dm
     try clear dn
     try clear dp
     try clear ao
     try clear b2
     try clear b4
     try clear bb
     try clear bk
     try clear bn
     try clear bo
     obtain⟨kq,X,rfl,HA,p7,J,HB⟩:=hcut
     cases kq with
     |zero=>exact absurd HA.out (by simp[newelref18_May.j1])
     |succ p8=>
      have H:=HA.out
      clear HA
      simp only[newelref18_May.j1] at H
      by_cases ac: ι = 0
      ·rw[if_pos ac] at H
       have c21b0:(ι == 0)=true:=beq_iff_eq.mpr ac
       have c21b1:(ι != 0)=false:=bne_eq_false_iff_eq.mpr ac
       clear ac
       by_cases b3: ε = 0
       ·rw[if_pos b3] at H
        have c22b0:(ε == 0)=true:=beq_iff_eq.mpr b3
        have c22b1:(ε != 0)=false:=bne_eq_false_iff_eq.mpr b3
        clear b3
        by_cases O: μ = 0
        ·rw[if_pos O] at H
         have c23b0:(μ == 0)=true:=beq_iff_eq.mpr O
         have c23b1:(μ != 0)=false:=bne_eq_false_iff_eq.mpr O
         clear O
         obtain rfl:=Option.some.inj H
         obtain⟨ay,az,cd,fi,fj,fk,fl,b0,b1,ce,fm,fn,fo,fp⟩:=qD7 J.out
         go_wp2
         go_ret
         exact⟨rfl,HB.out⟩
        ·rw[if_neg O] at H
         have c23b0:(μ == 0)=false:=beq_eq_false_iff_ne.mpr O
         have c23b1:(μ != 0)=true:=bne_iff_ne.mpr O
         obtain rfl:=Option.some.inj H
         obtain⟨d8,d9,dt,h0,h4,h5,h6,da,db,gf,h7,h8,h9,ha⟩:=qD7 J.out
         go_wp2
         go_ret
         exact⟨rfl,HB.out⟩
       ·rw[if_neg b3] at H
        have c22b0:(ε == 0)=false:=beq_eq_false_iff_ne.mpr b3
        have c22b1:(ε != 0)=true:=bne_iff_ne.mpr b3
        obtain rfl:=Option.some.inj H
        obtain⟨b9,cf,dd,de,df,dh,ew,cj,ck,dk,ey,i9,ia,ib⟩:=qD7 J.out
        go_wp2
        go_ret
        exact⟨rfl,HB.out⟩
      ·rw[if_neg ac] at H
       have c21b0:(ι == 0)=false:=beq_eq_false_iff_ne.mpr ac
       have c21b1:(ι != 0)=true:=bne_iff_ne.mpr ac
       by_cases cg: ι = 1
       ·rw[if_pos cg] at H
        have c27b0:(ι == 1)=true:=beq_iff_eq.mpr cg
        have c27b1:(ι != 1)=false:=bne_eq_false_iff_eq.mpr cg
        clear cg
        by_cases bc: ε = 1
        ·rw[if_pos bc] at H
         have c28b0:(ε == 1)=true:=beq_iff_eq.mpr bc
         have c28b1:(ε != 1)=false:=bne_eq_false_iff_eq.mpr bc
         clear bc
         by_cases aa: ε = (-1)
         ·rw[if_pos aa] at H
          have c29b0:(ε == (-1))=true:=beq_iff_eq.mpr aa
          have c29b1:(ε != (-1))=false:=bne_eq_false_iff_eq.mpr aa
          clear aa
          by_cases Y:(wrap64 (δ + 1))<B
          ·rw[if_pos Y] at H
           have c30b0:=decide_eq_true Y
           clear Y
           by_cases a2:X=true
           ·subst a2
            rw[if_pos rfl] at H
            obtain rfl:=Option.some.inj H
            obtain⟨gm,gn,gp,ik,il,im,io,gq,gr,gs,ip,iq,ir,it⟩:=qD7 J.out
            go_wp2
            go_ret
            exact⟨rfl,HB.out⟩
           ·replace a2:=Bool.eq_false_iff.mpr a2
            subst a2
            rw[if_neg nft] at H
            obtain rfl:=Option.some.inj H
            obtain⟨d0,eb,fh,cm,cx,ho,hu,ec,ed,gg,hx,hy,i0,i1⟩:=qD7 J.out
            go_wp2
            go_ret
            exact⟨rfl,HB.out⟩
          ·rw[if_neg Y] at H
           have c30b0:=decide_eq_false Y
           clear Y
           by_cases ρ: δ > 0
           ·rw[if_pos ρ] at H
            have c34b0:decide (0 < δ)=true:=decide_eq_true ρ
            clear ρ
            by_cases Z:X=true
            ·subst Z
             rw[if_pos rfl] at H
             obtain rfl:=Option.some.inj H
             obtain⟨ee,en,bj,ae,b7,dj,dl,eo,ep,e5,k1,l8,l9,nx⟩:=qD7 J.out
             go_wp2
             go_ret
             exact⟨rfl,HB.out⟩
            ·replace Z:=Bool.eq_false_iff.mpr Z
             subst Z
             rw[if_neg nft] at H
             obtain rfl:=Option.some.inj H
             obtain⟨gt,gu,kd,j6,j7,j8,j9,jm,jn,ke,jx,jy,jz,k0⟩:=qD7 J.out
             go_wp2
             go_ret
             exact⟨rfl,HB.out⟩
           ·rw[if_neg ρ] at H
            have c34b0:decide (0 < δ)=false:=decide_eq_false ρ
            clear ρ
            obtain rfl:=Option.some.inj H
            obtain⟨kv,kw,kx,ky,kz,l2,l3,l4,l5,lh,ll,lm,ln,lp⟩:=qD7 J.out
            go_wp2
            go_ret
            exact⟨rfl,HB.out⟩
         ·rw[if_neg aa] at H
          have c29b0:(ε == (-1))=false:=beq_eq_false_iff_ne.mpr aa
          have c29b1:(ε != (-1))=true:=bne_iff_ne.mpr aa
          by_cases eu:(wrap64 (δ + 1))<B
          ·rw[if_pos eu] at H
           have c39b0:=decide_eq_true eu
           clear eu
           by_cases e7:X=true
           ·subst e7
            rw[if_pos rfl] at H
            obtain rfl:=Option.some.inj H
            obtain⟨dz,e0,e6,jl,jo,jp,jq,e3,e4,gh,jr,js,jt,ju⟩:=qD7 J.out
            go_wp2
            go_ret
            exact⟨rfl,HB.out⟩
           ·replace e7:=Bool.eq_false_iff.mpr e7
            subst e7
            rw[if_neg nft] at H
            obtain rfl:=Option.some.inj H
            obtain⟨ft,fu,fv,e8,lq,lr,ls,fw,fx,fy,lu,lv,lw,lx⟩:=qD7 J.out
            go_wp2
            go_ret
            exact⟨rfl,HB.out⟩
          ·rw[if_neg eu] at H
           have c39b0:=decide_eq_false eu
           clear eu
           obtain rfl:=Option.some.inj H
           obtain⟨ij,kf,kg,kh,ki,kj,kk,kl,km,kn,ko,kp,ks,kt⟩:=qD7 J.out
           go_wp2
           go_ret
           exact⟨rfl,HB.out⟩
        ·rw[if_neg bc] at H
         have c28b0:(ε == 1)=false:=beq_eq_false_iff_ne.mpr bc
         have c28b1:(ε != 1)=true:=bne_iff_ne.mpr bc
         by_cases θ : ε = (-1)
         ·rw[if_pos θ] at H
          have c44b0:(ε == (-1))=true:=beq_iff_eq.mpr θ
          have c44b1:(ε != (-1))=false:=bne_eq_false_iff_eq.mpr θ
          clear θ
          by_cases ci: δ > 0
          ·rw[if_pos ci] at H
           have c45b0:decide (0 < δ)=true:=decide_eq_true ci
           clear ci
           by_cases bi:X=true
           ·subst bi
            rw[if_pos rfl] at H
            obtain rfl:=Option.some.inj H
            obtain⟨er,fz,ez,ny,nz,o0,o1,ga,gv,gw,o2,o3,o4,o5⟩:=qD7 J.out
            go_wp2
            go_ret
            exact⟨rfl,HB.out⟩
           ·replace bi:=Bool.eq_false_iff.mpr bi
            subst bi
            rw[if_neg nft] at H
            obtain rfl:=Option.some.inj H
            obtain⟨hh,hj,je,jf,jg,jh,ji,hl,i2,ly,lz,m0,m1,m2⟩:=qD7 J.out
            go_wp2
            go_ret
            exact⟨rfl,HB.out⟩
          ·rw[if_neg ci] at H
           have c45b0:decide (0 < δ)=false:=decide_eq_false ci
           clear ci
           obtain rfl:=Option.some.inj H
           obtain⟨iu,iv,iw,ix,iy,iz,j4,j5,jv,jw,k2,k3,k4,k5⟩:=qD7 J.out
           go_wp2
           go_ret
           exact⟨rfl,HB.out⟩
         ·rw[if_neg θ] at H
          have c44b0:(ε == (-1))=false:=beq_eq_false_iff_ne.mpr θ
          have c44b1:(ε != (-1))=true:=bne_iff_ne.mpr θ
          obtain rfl:=Option.some.inj H
          obtain⟨fg,m3,m4,o6,o7,o8,o9,ii,m5,m6,oa,ob,oc,od⟩:=qD7 J.out
          go_wp2
          go_ret
          exact⟨rfl,HB.out⟩
       ·rw[if_neg cg] at H
        have c27b0:(ι == 1)=false:=beq_eq_false_iff_ne.mpr cg
        have c27b1:(ι != 1)=true:=bne_iff_ne.mpr cg
        by_cases cy: ι = 2
        ·rw[if_pos cy] at H
         have c51b0:(ι == 2)=true:=beq_iff_eq.mpr cy
         have c51b1:(ι != 2)=false:=bne_eq_false_iff_eq.mpr cy
         clear cy
         by_cases cz: ε = 0
         ·rw[if_pos cz] at H
          have c52b0:(ε == 0)=true:=beq_iff_eq.mpr cz
          have c52b1:(ε != 0)=false:=bne_eq_false_iff_eq.mpr cz
          clear cz
          by_cases dq:X=true
          ·subst dq
           rw[if_pos rfl] at H
           obtain rfl:=Option.some.inj H
           obtain⟨ev,i3,i4,ja,jj,jk,k7,i5,i6,i7,k8,k9,ka,kb⟩:=qD7 J.out
           go_wp2
           go_ret
           exact⟨rfl,HB.out⟩
          ·replace dq:=Bool.eq_false_iff.mpr dq
           subst dq
           rw[if_neg nft] at H
           obtain rfl:=Option.some.inj H
           obtain⟨ic,ie,kc,m7,m8,m9,ma,ig,ih,ku,mb,mc,me,mf⟩:=qD7 J.out
           go_wp2
           go_ret
           exact⟨rfl,HB.out⟩
         ·rw[if_neg cz] at H
          have c52b0:(ε == 0)=false:=beq_eq_false_iff_ne.mpr cz
          have c52b1:(ε != 0)=true:=bne_iff_ne.mpr cz
          obtain rfl:=Option.some.inj H
          obtain⟨mg,mh,mi,mj,ml,mm,mo,mq,mr,ms,mt,mu,mw,my⟩:=qD7 J.out
          go_wp2
          go_ret
          exact⟨rfl,HB.out⟩
        ·rw[if_neg cy] at H
         have c51b0:(ι == 2)=false:=beq_eq_false_iff_ne.mpr cy
         have c51b1:(ι != 2)=true:=bne_iff_ne.mpr cy
         by_cases cr: ι = 3
         ·rw[if_pos cr] at H
          have c57b0:(ι == 3)=true:=beq_iff_eq.mpr cr
          have c57b1:(ι != 3)=false:=bne_eq_false_iff_eq.mpr cr
          clear cr
          by_cases di: ε = 0
          ·rw[if_pos di] at H
           have c58b0:(ε == 0)=true:=beq_iff_eq.mpr di
           have c58b1:(ε != 0)=false:=bne_eq_false_iff_eq.mpr di
           clear di
           by_cases γ: μ = 0
           ·rw[if_pos γ] at H
            have c59b0:(μ == 0)=true:=beq_iff_eq.mpr γ
            have c59b1:(μ != 0)=false:=bne_eq_false_iff_eq.mpr γ
            clear γ
            obtain rfl:=Option.some.inj H
            obtain⟨gb,ge,k6,oe,oh,oi,oj,l6,l7,lb,ol,om,oo,oq⟩:=qD7 J.out
            go_wp2
            go_ret
            exact⟨rfl,HB.out⟩
           ·rw[if_neg γ] at H
            have c59b0:(μ == 0)=false:=beq_eq_false_iff_ne.mpr γ
            have c59b1:(μ != 0)=true:=bne_iff_ne.mpr γ
            obtain rfl:=Option.some.inj H
            obtain⟨lc,lf,lg,ot,ou,ov,ow,mz,n0,n1,ox,oy,oz,p0⟩:=qD7 J.out
            go_wp2
            go_ret
            exact⟨rfl,HB.out⟩
          ·rw[if_neg di] at H
           have c58b0:(ε == 0)=false:=beq_eq_false_iff_ne.mpr di
           have c58b1:(ε != 0)=true:=bne_iff_ne.mpr di
           obtain rfl:=Option.some.inj H
           obtain⟨f7,jb,n2,n3,na,nb,nc,jc,jd,nd,nf,ng,nh,ni⟩:=qD7 J.out
           go_wp2
           go_ret
           exact⟨rfl,HB.out⟩
         ·rw[if_neg cr] at H
          have c57b0:(ι == 3)=false:=beq_eq_false_iff_ne.mpr cr
          have c57b1:(ι != 3)=true:=bne_iff_ne.mpr cr
          obtain rfl:=Option.some.inj H
          obtain⟨nj,nk,nl,nm,nn,no,np,nq,nr,ns,nt,nu,nv,nw⟩:=qD7 J.out
          go_wp2
          go_ret
          exact⟨rfl,HB.out⟩
def car_within.f (B:Int) (X:Int) (a2:Int):Option (Bool):=if X≤B then (some (decide (B≤a2))) else (some false)
set_option maxHeartbeats 8000000 in
set_option maxRecDepth 100000 in
theorem car_within.calls (B:Int) (X:Int) (a2:Int) (r:Bool) (w:World) (h:car_within.f B X a2=some r):
 Calls Try.prog 85 #[.int .i64 B,.int .i64 X,.int .i64 a2] w fun e w'=>e = .returned (.bool r)∧Drawn0 w w':=by
 have H:(if X≤B then (some (decide (B≤a2))) else (some false))=some r:=h
 clear h
 by_cases c4:X≤B
 ·rw[if_pos c4] at H
  have c4b0:=decide_eq_true c4
  clear c4
  obtain rfl:=Option.some.inj H
  go_enter Try.func85,Try.ntmps85
  go_wp2
  go_ret
  exact⟨qR,by repeat(first|exact Drawn0.refl _|apply Drawn0.step)⟩
 ·rw[if_neg c4] at H
  have c4b0:=decide_eq_false c4
  clear c4
  obtain rfl:=Option.some.inj H
  go_enter Try.func85,Try.ntmps85
  go_wp2
  go_ret
  exact⟨qR,by repeat(first|exact Drawn0.refl _|apply Drawn0.step)⟩
def newelref18_Rest.f (k:Nat) (B:Int) (J:Int) (O:Int) (X:Int) (Y:Int) (Z:Int) (γ:Int) (ζ :Int) (θ :Int) (η :Int) (δ :Int) (ε :Int) (ι :Int) (μ :Int) (κ :Int) (ν :Int) (ξ :Int):Option (Int):=if ι = 1 then (some μ) else (if ι = 2 then ((newelref17_Rest.f k B J O X Y Z γ ζ θ η 1 X 0).bind fun ω =>(some (wrap64 (μ + ω)))) else ((newelref17_Rest.f k B J O X Y Z γ ζ θ η κ ν ξ).bind fun a1=>(some a1)))
def newelref18_Rest.T4:Bool×List (List Nat×List Nat):=(true,[([],[]),([0],[0]),([],[]),([],[]),([3],[3]),([4],[4]),([5],[5]),([2,6],[2,6]),([1,7],[1,7]),([8,7,0,1,2,3,4,5,6,7,8],[8])])
def newelref18_Rest.B4:List Nat:=[0,1,0,0,8,24,56,124,255,511]
theorem newelref18_Rest.Gv:rtab .any (opsOf Try.f34 4)=newelref18_Rest.T4:=by kernel_rfl
theorem newelref18_Rest.Jz:Zk newelref18_Rest.T4.2 newelref18_Rest.B4=true:=by kernel_rfl
set_option maxHeartbeats 8000000 in
set_option maxRecDepth 100000 in
theorem newelref18_Rest.calls (k:Nat) (B:Int) (J:Int) (O:Int) (X:Int) (Y:Int) (Z:Int) (γ:Int) (ζ :Int) (θ :Int) (η :Int) (δ :Int) (ε :Int) (ι :Int) (μ :Int) (κ :Int) (ν :Int) (ξ :Int) (r:Int) (w:World) (h:newelref18_Rest.f k B J O X Y Z γ ζ θ η δ ε ι μ κ ν ξ = some r):
 Calls Try.prog 34 #[.agg #[.int .i64 B,.int .i64 J,.int .i64 O,.int .i64 X,.int .i64 Y,.int .i64 Z,.int .i64 γ,.int .i64 ζ,.int .i64 θ,.int .i64 η],.agg #[.int .i64 δ,.int .i64 ε,.int .i64 ι,.int .i64 μ,.int .i64 κ,.int .i64 ν,.int .i64 ξ]] w fun e w'=>e = .returned (.int .i64 r)∧Below w.heap.size w w':=by
 have cg:=Try.underlying25
 have gk:=Try.underlying29
 have he:=Try.underlying27
 have HB:=aK (Below.refl w.heap.size w)
 have H:(if ι = 1 then (some μ) else (if ι = 2 then ((newelref17_Rest.f k B J O X Y Z γ ζ θ η 1 X 0).bind fun ω =>(some (wrap64 (μ + ω)))) else ((newelref17_Rest.f k B J O X Y Z γ ζ θ η κ ν ξ).bind fun a1=>(some a1))))=some r:=h
 clear h
 by_cases c3: ι = 1
 ·rw[if_pos c3] at H
  have c3b0:(ι == 1)=true:=beq_iff_eq.mpr c3
  have c3b1:(ι != 1)=false:=bne_eq_false_iff_eq.mpr c3
  clear c3
  obtain rfl:=Option.some.inj H
  go_enter Try.func34,Try.ntmps34
  go_wp2_with (first|((with_reducible refine Qe (N:=2) rfl ?_);refine qE 2 #[.int .i64 B,.int .i64 J,.int .i64 O,.int .i64 X,.int .i64 Y,.int .i64 Z,.int .i64 γ,.int .i64 ζ,.int .i64 θ,.int .i64 η] 25 ?_;intro τ hg w4 hbox hb;have ρ:=aK hbox;have a5:=sGe hg;have a6:=sGe hg;replace HB:=sHb hb;clear hb hbox hg)|((with_reducible refine Qe (N:=3) rfl ?_);refine qE 3 #[.int .i64 δ,.int .i64 ε,.int .i64 ι,.int .i64 μ,.int .i64 κ,.int .i64 ν,.int .i64 ξ] 29 ?_;intro ψ hg w5 hbox hb;have σ:=aK hbox;have a7:=sGe hg;have a8:=sGe hg;have φ :=sNl ρ hg;have χ :=sNg ρ hg;replace ρ:=sBk ρ hb;replace HB:=sHb hb;clear hb hbox hg;have cr:= χ.out;have cv:= φ.out;obtain⟨a0,a2,b1,d7,dj,dn,dp,ae,ay,bc,dq,du,dz,e0⟩:=qD7 σ.out))
  go_ret
  exact⟨rfl,HB.out⟩
 ·rw[if_neg c3] at H
  have c3b0:(ι == 1)=false:=beq_eq_false_iff_ne.mpr c3
  have c3b1:(ι != 1)=true:=bne_iff_ne.mpr c3
  by_cases c8: ι = 2
  ·rw[if_pos c8] at H
   have c8b0:(ι == 2)=true:=beq_iff_eq.mpr c8
   have c8b1:(ι != 2)=false:=bne_eq_false_iff_eq.mpr c8
   clear c8
   obtain⟨ω,bw,H⟩:=qO H
   have A9:=aK bw
   clear bw
   obtain rfl:=Option.some.inj H
   go_enter Try.func34,Try.ntmps34
   try go_wp2_with (first|((with_reducible refine Qe (N:=2) rfl ?_);refine qE 2 #[.int .i64 B,.int .i64 J,.int .i64 O,.int .i64 X,.int .i64 Y,.int .i64 Z,.int .i64 γ,.int .i64 ζ,.int .i64 θ,.int .i64 η] 25 ?_;intro τ hg fj hbox hb;have ρ:=aK hbox;have a5:=sGe hg;have a6:=sGe hg;replace HB:=sHb hb;clear hb hbox hg)|((with_reducible refine Qe (N:=3) rfl ?_);refine qE 3 #[.int .i64 δ,.int .i64 ε,.int .i64 ι,.int .i64 μ,.int .i64 κ,.int .i64 ν,.int .i64 ξ] 29 ?_;intro ψ hg d4 hbox hb;have σ:=aK hbox;have a7:=sGe hg;have a8:=sGe hg;have φ :=sNl ρ hg;have χ :=sNg ρ hg;replace ρ:=sBk ρ hb;replace HB:=sHb hb;clear hb hbox hg;have ev:= χ.out;have f7:= φ.out;obtain⟨af,bd,bu,e9,ea,et,f8,ba,bf,bv,fa,fb,fc,fe⟩:=qD7 σ.out))
   replace ρ:=aK (Qd ρ.out)
   replace σ:=aK (Qd σ.out)
   replace HB:=aK (Qg HB.out)
   refine Ze (n:=10) (S:=fun w'=>w'.cell? ⟨ψ,0,none⟩=some (.int .i64 δ)∧w'.cell? ⟨ψ,1,none⟩=some (.int .i64 ε)∧w'.cell? ⟨ψ,2,none⟩=some (.int .i64 ι)∧w'.cell? ⟨ψ,3,none⟩=some (.int .i64 μ)∧w'.cell? ⟨ψ,4,none⟩=some (.int .i64 κ)∧w'.cell? ⟨ψ,5,none⟩=some (.int .i64 ν)∧w'.cell? ⟨ψ,6,none⟩=some (.int .i64 ξ)∧w'.cell? ⟨τ,0,none⟩=some (.int .i64 B)∧w'.cell? ⟨τ,1,none⟩=some (.int .i64 J)∧w'.cell? ⟨τ,2,none⟩=some (.int .i64 O)∧w'.cell? ⟨τ,3,none⟩=some (.int .i64 X)∧w'.cell? ⟨τ,4,none⟩=some (.int .i64 Y)∧w'.cell? ⟨τ,5,none⟩=some (.int .i64 Z)∧w'.cell? ⟨τ,6,none⟩=some (.int .i64 γ)∧w'.cell? ⟨τ,7,none⟩=some (.int .i64 ζ)∧w'.cell? ⟨τ,8,none⟩=some (.int .i64 θ)∧w'.cell? ⟨τ,9,none⟩=some (.int .i64 η)) (ds:=[]) #[false,false,false,false,false,false,false,false,false,false] kr rfl rfl ⟨(Qa σ.out 0).trans rfl,(Qa σ.out 1).trans rfl,(Qa σ.out 2).trans rfl,(Qa σ.out 3).trans rfl,(Qa σ.out 4).trans rfl,(Qa σ.out 5).trans rfl,(Qa σ.out 6).trans rfl,(Qa ρ.out 0).trans rfl,(Qa ρ.out 1).trans rfl,(Qa ρ.out 2).trans rfl,(Qa ρ.out 3).trans rfl,(Qa ρ.out 4).trans rfl,(Qa ρ.out 5).trans rfl,(Qa ρ.out 6).trans rfl,(Qa ρ.out 7).trans rfl,(Qa ρ.out 8).trans rfl,(Qa ρ.out 9).trans rfl⟩ (fun hHeld=>?_);refine Q5 newelref18_Rest.Gv newelref18_Rest.Jz (fun HT_ HW_=>?_)
   generalize d4.drew=bz at ρ σ HB hHeld ⊢
   refine qP 0 (some 13) (bN 10 1) HT_ ?_
   refine qP 3 (some 16) (bN 10 9) HT_ ?_
   refine qP 4 (some 17) (bN 10 25) HT_ ?_
   refine qT 1 (some 14) (bN 10 27) HT_ HW_ hHeld ?_
   refine qT 2 (some 15) (bN 10 31) HT_ HW_ hHeld ?_
   refine qT 5 (some 18) (bN 10 63) HT_ HW_ hHeld ?_
   refine qP 6 (some 19) (bN 10 127) HT_ ?_
   refine Zf (i:=7) (N:=some 20) (bN 10 255) rfl rfl (Q3 HT_.out kr) (by decide) (fun K hK=>?_)
   refine Zd Try.func56 kr rfl #[.agg #[.int .i64 B,.int .i64 J,.int .i64 O,.int .i64 X,.int .i64 Y,.int .i64 Z,.int .i64 γ,.int .i64 ζ,.int .i64 θ,.int .i64 η],.agg #[.int .i64 1,.int .i64 X,.int .i64 0]] (by rfl) rfl rfl qM ?_
   with_reducible refine(newelref17_Rest.calls k B J O X Y Z γ ζ θ η 1 X 0 ω _ A9.out).mono ?_
   rintro e ez ⟨rfl,hb⟩
   refine⟨_,rfl, ?_⟩
   replace ρ:=sBk ρ hb
   replace σ:=sBk σ hb
   replace HB:=sHb hb
   (try clear hb)
   (try clear a4)
   (try clear hk)
   (try clear hi)
   refine hK.out _ _ ⟨qc σ,qc σ,qc σ,qc σ,qc σ,qc σ,qc σ,qc ρ,qc ρ,qc ρ,qc ρ,qc ρ,qc ρ,qc ρ,qc ρ,qc ρ,qc ρ⟩ (fun hHeld=>?_)
   clear hK K
   refine qN (some 20) ?_
   refine qP 8 (some 21) (bN 10 511) HT_ ?_
   refine qP 9 (some 4) (bN 10 1023) HT_ ?_
   refine Zi (Zc HT_.out kr) ?_
   try go_wp2
   go_ret
   exact⟨rfl,HB.out⟩
  ·rw[if_neg c8] at H
   have c8b0:(ι == 2)=false:=beq_eq_false_iff_ne.mpr c8
   have c8b1:(ι != 2)=true:=bne_iff_ne.mpr c8
   obtain⟨a1,aa,H⟩:=qO H
   have ab:=aK aa
   clear aa
   obtain rfl:=Option.some.inj H
   go_enter Try.func34,Try.ntmps34
   go_wp2_with (first|((with_reducible refine Qe (N:=2) rfl ?_);refine qE 2 #[.int .i64 B,.int .i64 J,.int .i64 O,.int .i64 X,.int .i64 Y,.int .i64 Z,.int .i64 γ,.int .i64 ζ,.int .i64 θ,.int .i64 η] 25 ?_;intro τ hg d1 hbox hb;have ρ:=aK hbox;have a5:=sGe hg;have a6:=sGe hg;replace HB:=sHb hb;clear hb hbox hg)|((with_reducible refine Qe (N:=3) rfl ?_);refine qE 3 #[.int .i64 δ,.int .i64 ε,.int .i64 ι,.int .i64 μ,.int .i64 κ,.int .i64 ν,.int .i64 ξ] 29 ?_;intro ψ hg ft hbox hb;have σ:=aK hbox;have a7:=sGe hg;have a8:=sGe hg;have φ :=sNl ρ hg;have χ :=sNg ρ hg;replace ρ:=sBk ρ hb;replace HB:=sHb hb;clear hb hbox hg;have cq:= χ.out;have ct:= φ.out;obtain⟨ak,an,a3,a9,ch,dc,dr,aw,ax,b6,dv,dw,dx,dy⟩:=qD7 σ.out;obtain⟨d6,de,dt,el,em,ep,fi,fz,gi,gj,df,dh,fk,fl,fm,fn,fo,gn,gp,gq⟩:=Zg ρ.out)|((with_reducible refine Qf (f:=56) rfl ?_);refine Qt (some 25) rfl rfl Try.func56 kr rfl #[.agg #[.int .i64 B,.int .i64 J,.int .i64 O,.int .i64 X,.int .i64 Y,.int .i64 Z,.int .i64 γ,.int .i64 ζ,.int .i64 θ,.int .i64 η],.agg #[.int .i64 κ,.int .i64 ν,.int .i64 ξ]] rfl qM ?_;(with_reducible refine(newelref17_Rest.calls k B J O X Y Z γ ζ θ η κ ν ξ a1 _ ab.out).mono ?_);rintro e bj ⟨rfl,hb⟩;refine⟨_,rfl, ?_⟩;replace ρ:=sBk ρ hb;replace σ:=sBk σ hb;replace HB:=sHb hb;(try clear hb);(try clear a4);(try clear hk);(try clear hi)))
   go_ret
   exact⟨rfl,HB.out⟩
def newelref21_Lift.f (k:Nat) (B:Int) (J:Int) (O:Int) (X:Int) (Y:Int) (Z:Int) (γ:Int) (ζ :Int) (θ :Int) (η :Int) (δ :Int) (ε :Int) (ι :Int) (μ :Int) (κ :Int) (ν :Int) (ξ :Int) (ψ :Int) (a1:Bool) (a2:Bool):Option (Bool):=(newelref17_Gear.f B J O X Y Z γ ζ θ η).bind fun a0=>(if a0=true then ((newelref18_May.f k B δ ε ι μ κ ν ξ).bind fun a5=>(if a5=true then (if ψ ≥ (-1) then (some (decide (ψ ≤ 1))) else (some false)) else (some false))) else (some false))
set_option maxHeartbeats 8000000 in
set_option maxRecDepth 100000 in
theorem newelref21_Lift.calls (k:Nat) (B:Int) (J:Int) (O:Int) (X:Int) (Y:Int) (Z:Int) (γ:Int) (ζ :Int) (θ :Int) (η :Int) (δ :Int) (ε :Int) (ι :Int) (μ :Int) (κ :Int) (ν :Int) (ξ :Int) (ψ :Int) (a1:Bool) (a2:Bool) (r:Bool) (w:World) (h:newelref21_Lift.f k B J O X Y Z γ ζ θ η δ ε ι μ κ ν ξ ψ a1 a2=some r):
 Calls Try.prog 32 #[.agg #[.int .i64 B,.int .i64 J,.int .i64 O,.int .i64 X,.int .i64 Y,.int .i64 Z,.int .i64 γ,.int .i64 ζ,.int .i64 θ,.int .i64 η],.agg #[.int .i64 δ,.int .i64 ε,.int .i64 ι,.int .i64 μ,.int .i64 κ,.int .i64 ν,.int .i64 ξ,.int .i64 ψ,.bool a1,.bool a2]] w fun e w'=>e = .returned (.bool r)∧Below w.heap.size w w':=by
 have cg:=Try.underlying25
 have er:=Try.underlying31
 have gk:=Try.underlying29
 have HB:=aK (Below.refl w.heap.size w)
 have H:((newelref17_Gear.f B J O X Y Z γ ζ θ η).bind fun a0=>(if a0=true then ((newelref18_May.f k B δ ε ι μ κ ν ξ).bind fun a5=>(if a5=true then (if ψ ≥ (-1) then (some (decide (ψ ≤ 1))) else (some false)) else (some false))) else (some false)))=some r:=h
 clear h
 obtain⟨a0,a7,H⟩:=qO H
 have A3:=aK a7
 clear a7
 by_cases c4:a0=true
 ·subst c4
  rw[if_pos rfl] at H
  obtain⟨a5,bc,H⟩:=qO H
  have A5:=aK bc
  clear bc
  by_cases c6:a5=true
  ·subst c6
   rw[if_pos rfl] at H
   by_cases c7: ψ ≥ (-1)
   ·rw[if_pos c7] at H
    have c7b0:decide ((-1) ≤ ψ)=true:=decide_eq_true c7
    clear c7
    obtain rfl:=Option.some.inj H
    go_enter Try.func32,Try.ntmps32
    go_wp2_with (first|((with_reducible refine Qe (N:=2) rfl ?_);refine qE 2 #[.int .i64 B,.int .i64 J,.int .i64 O,.int .i64 X,.int .i64 Y,.int .i64 Z,.int .i64 γ,.int .i64 ζ,.int .i64 θ,.int .i64 η] 25 ?_;intro a6 hg w8 hbox hb;have ρ:=aK hbox;have a8:=sGe hg;have aa:=sGe hg;replace HB:=sHb hb;clear hb hbox hg)|((with_reducible refine Qe (N:=3) rfl ?_);refine qE 3 #[.int .i64 δ,.int .i64 ε,.int .i64 ι,.int .i64 μ,.int .i64 κ,.int .i64 ν,.int .i64 ξ,.int .i64 ψ,.bool a1,.bool a2] 31 ?_;intro ab hg w9 hbox hb;have σ:=aK hbox;have ae:=sGe hg;have ag:=sGe hg;have τ :=sNl ρ hg;have φ :=sNg ρ hg;replace ρ:=sBk ρ hb;replace HB:=sHb hb;clear hb hbox hg;have cf:= τ.out;have cj:= φ.out;obtain⟨bs,cn,cw,fq,fr,gi,gj,az,ce,ck,co,cp,d4,gl,gx,gy,gz,b0,dd,dk⟩:=Zg ρ.out)|((with_reducible refine Qf (f:=53) rfl ?_);refine Qt (some 8) rfl rfl Try.func53 kr rfl #[.agg #[.int .i64 B,.int .i64 J,.int .i64 O,.int .i64 X,.int .i64 Y,.int .i64 Z,.int .i64 γ,.int .i64 ζ,.int .i64 θ,.int .i64 η]] rfl qM ?_;(with_reducible refine(newelref17_Gear.calls B J O X Y Z γ ζ θ η true _ A3.out).mono ?_);rintro e e7 ⟨rfl,hb⟩;refine⟨_,rfl, ?_⟩;replace ρ:=sBk ρ hb;replace σ:=sBk σ hb;replace HB:=sHb hb;(try clear hb);(try clear a4);(try clear hk);(try clear hi);obtain⟨af,bd,bu,e9,ea,et,f8,ee,fg,fj,ba,bf,bv,fa,fb,fc,fe,eu,fk,ga⟩:=Zg ρ.out;obtain⟨bw,bz,d5,ef,eg,eh,ei,gg,he,hu,ca,cb,d6,ej,ek,el,em,gh,hx,hy⟩:=Zg σ.out)|((with_reducible refine Qf (f:=54) rfl ?_);refine Qt (some 15) rfl rfl Try.func54 kr rfl #[.int .i64 B,.agg #[.int .i64 δ,.int .i64 ε,.int .i64 ι,.int .i64 μ,.int .i64 κ,.int .i64 ν,.int .i64 ξ]] rfl qM ?_;(with_reducible refine(newelref18_May.calls k B δ ε ι μ κ ν ξ true _ A5.out).mono ?_);rintro e ez ⟨rfl,hb⟩;refine⟨_,rfl, ?_⟩;replace ρ:=sBk ρ hb;replace σ:=sBk σ hb;replace HB:=sHb hb;(try clear hb);(try clear a4);(try clear hk);(try clear hi);obtain⟨cx,cy,χ,ci,cm,eb,ec,cr,ho,i0,cz,d0,ω,ed,en,eo,ep,fh,i1,i2⟩:=Zg σ.out))
    go_ret
    exact⟨rfl,HB.out⟩
   ·rw[if_neg c7] at H
    have c7b0:decide ((-1) ≤ ψ)=false:=decide_eq_false c7
    clear c7
    obtain rfl:=Option.some.inj H
    go_enter Try.func32,Try.ntmps32
    go_wp2_with (first|((with_reducible refine Qe (N:=2) rfl ?_);refine qE 2 #[.int .i64 B,.int .i64 J,.int .i64 O,.int .i64 X,.int .i64 Y,.int .i64 Z,.int .i64 γ,.int .i64 ζ,.int .i64 θ,.int .i64 η] 25 ?_;intro a6 hg d1 hbox hb;have ρ:=aK hbox;have a8:=sGe hg;have aa:=sGe hg;replace HB:=sHb hb;clear hb hbox hg)|((with_reducible refine Qe (N:=3) rfl ?_);refine qE 3 #[.int .i64 δ,.int .i64 ε,.int .i64 ι,.int .i64 μ,.int .i64 κ,.int .i64 ν,.int .i64 ξ,.int .i64 ψ,.bool a1,.bool a2] 31 ?_;intro ab hg ft hbox hb;have σ:=aK hbox;have ae:=sGe hg;have ag:=sGe hg;have τ :=sNl ρ hg;have φ :=sNg ρ hg;replace ρ:=sBk ρ hb;replace HB:=sHb hb;clear hb hbox hg;have cq:= τ.out;have ct:= φ.out;obtain⟨ak,an,a3,a9,ch,dc,dr,ac,i3,i4,aw,ax,b6,dv,dw,dx,dy,i5,i6,i7⟩:=Zg ρ.out)|((with_reducible refine Qf (f:=53) rfl ?_);refine Qt (some 8) rfl rfl Try.func53 kr rfl #[.agg #[.int .i64 B,.int .i64 J,.int .i64 O,.int .i64 X,.int .i64 Y,.int .i64 Z,.int .i64 γ,.int .i64 ζ,.int .i64 θ,.int .i64 η]] rfl qM ?_;(with_reducible refine(newelref17_Gear.calls B J O X Y Z γ ζ θ η true _ A3.out).mono ?_);rintro e b2 ⟨rfl,hb⟩;refine⟨_,rfl, ?_⟩;replace ρ:=sBk ρ hb;replace σ:=sBk σ hb;replace HB:=sHb hb;(try clear hb);(try clear a4);(try clear hk);(try clear hi);obtain⟨ap,ar,al,bk,bl,bm,bn,dz,e0,e3,au,av,b7,bo,bp,bq,br,e4,e5,e6⟩:=Zg ρ.out;obtain⟨bb,de,df,gb,ge,gv,gw,jb,jc,jd,dh,dj,dl,je,jf,jg,jh,ji,jj,jk⟩:=Zg σ.out)|((with_reducible refine Qf (f:=54) rfl ?_);refine Qt (some 15) rfl rfl Try.func54 kr rfl #[.int .i64 B,.agg #[.int .i64 δ,.int .i64 ε,.int .i64 ι,.int .i64 μ,.int .i64 κ,.int .i64 ν,.int .i64 ξ]] rfl qM ?_;(with_reducible refine(newelref18_May.calls k B δ ε ι μ κ ν ξ true _ A5.out).mono ?_);rintro e cd ⟨rfl,hb⟩;refine⟨_,rfl, ?_⟩;replace ρ:=sBk ρ hb;replace σ:=sBk σ hb;replace HB:=sHb hb;(try clear hb);(try clear a4);(try clear hk);(try clear hi);obtain⟨d8,d9,dt,h0,h4,h5,h6,b5,b9,bg,da,db,gf,h7,h8,h9,ha,b8,bh,bi⟩:=Zg σ.out))
    go_ret
    exact⟨rfl,HB.out⟩
  ·replace c6:=Bool.eq_false_iff.mpr c6
   subst c6
   rw[if_neg nft] at H
   obtain rfl:=Option.some.inj H
   go_enter Try.func32,Try.ntmps32
   go_wp2_with (first|((with_reducible refine Qe (N:=2) rfl ?_);refine qE 2 #[.int .i64 B,.int .i64 J,.int .i64 O,.int .i64 X,.int .i64 Y,.int .i64 Z,.int .i64 γ,.int .i64 ζ,.int .i64 θ,.int .i64 η] 25 ?_;intro a6 hg ij hbox hb;have ρ:=aK hbox;have a8:=sGe hg;have aa:=sGe hg;replace HB:=sHb hb;clear hb hbox hg)|((with_reducible refine Qe (N:=3) rfl ?_);refine qE 3 #[.int .i64 δ,.int .i64 ε,.int .i64 ι,.int .i64 μ,.int .i64 κ,.int .i64 ν,.int .i64 ξ,.int .i64 ψ,.bool a1,.bool a2] 31 ?_;intro ab hg di hbox hb;have σ:=aK hbox;have ae:=sGe hg;have ag:=sGe hg;have τ :=sNl ρ hg;have φ :=sNg ρ hg;replace ρ:=sBk ρ hb;replace HB:=sHb hb;clear hb hbox hg;have bj:= τ.out;have cu:= φ.out;obtain⟨ff,iz,j4,ah,ai,aj,am,ao,ay,b1,j5,ja,jl,b3,b4,cv,d2,d3,d7,du⟩:=Zg ρ.out)|((with_reducible refine Qf (f:=53) rfl ?_);refine Qt (some 8) rfl rfl Try.func53 kr rfl #[.agg #[.int .i64 B,.int .i64 J,.int .i64 O,.int .i64 X,.int .i64 Y,.int .i64 Z,.int .i64 γ,.int .i64 ζ,.int .i64 θ,.int .i64 η]] rfl qM ?_;(with_reducible refine(newelref17_Gear.calls B J O X Y Z γ ζ θ η true _ A3.out).mono ?_);rintro e e8 ⟨rfl,hb⟩;refine⟨_,rfl, ?_⟩;replace ρ:=sBk ρ hb;replace σ:=sBk σ hb;replace HB:=sHb hb;(try clear hb);(try clear a4);(try clear hk);(try clear hi);obtain⟨dm,dn,ew,i9,ia,ib,iu,fu,fv,fw,dp,dq,ey,iv,iw,ix,iy,fx,fy,fz⟩:=Zg ρ.out;obtain⟨gm,gn,gp,ik,il,im,io,jt,ju,jv,gq,gr,gs,ip,iq,ir,it,jw,kb,kc⟩:=Zg σ.out)|((with_reducible refine Qf (f:=54) rfl ?_);refine Qt (some 15) rfl rfl Try.func54 kr rfl #[.int .i64 B,.agg #[.int .i64 δ,.int .i64 ε,.int .i64 ι,.int .i64 μ,.int .i64 κ,.int .i64 ν,.int .i64 ξ]] rfl qM ?_;(with_reducible refine(newelref18_May.calls k B δ ε ι μ κ ν ξ false _ A5.out).mono ?_);rintro e k8 ⟨rfl,hb⟩;refine⟨_,rfl, ?_⟩;replace ρ:=sBk ρ hb;replace σ:=sBk σ hb;replace HB:=sHb hb;(try clear hb);(try clear a4);(try clear hk);(try clear hi)))
   go_ret
   exact⟨rfl,HB.out⟩
 ·replace c4:=Bool.eq_false_iff.mpr c4
  subst c4
  rw[if_neg nft] at H
  obtain rfl:=Option.some.inj H
  go_enter Try.func32,Try.ntmps32
  go_wp2_with (first|((with_reducible refine Qe (N:=2) rfl ?_);refine qE 2 #[.int .i64 B,.int .i64 J,.int .i64 O,.int .i64 X,.int .i64 Y,.int .i64 Z,.int .i64 γ,.int .i64 ζ,.int .i64 θ,.int .i64 η] 25 ?_;intro a6 hg fp hbox hb;have ρ:=aK hbox;have a8:=sGe hg;have aa:=sGe hg;replace HB:=sHb hb;clear hb hbox hg)|((with_reducible refine Qe (N:=3) rfl ?_);refine qE 3 #[.int .i64 δ,.int .i64 ε,.int .i64 ι,.int .i64 μ,.int .i64 κ,.int .i64 ν,.int .i64 ξ,.int .i64 ψ,.bool a1,.bool a2] 31 ?_;intro ab hg jo hbox hb;have σ:=aK hbox;have ae:=sGe hg;have ag:=sGe hg;have τ :=sNl ρ hg;have φ :=sNg ρ hg;replace ρ:=sBk ρ hb;replace HB:=sHb hb;clear hb hbox hg;have fn:= τ.out;have fo:= φ.out;obtain⟨gt,gu,kd,j6,j7,j8,j9,ev,f7,fi,jm,jn,ke,jx,jy,jz,k0,fl,fm,hh⟩:=Zg ρ.out)|((with_reducible refine Qf (f:=53) rfl ?_);refine Qt (some 8) rfl rfl Try.func53 kr rfl #[.agg #[.int .i64 B,.int .i64 J,.int .i64 O,.int .i64 X,.int .i64 Y,.int .i64 Z,.int .i64 γ,.int .i64 ζ,.int .i64 θ,.int .i64 η]] rfl qM ?_;(with_reducible refine(newelref17_Gear.calls B J O X Y Z γ ζ θ η false _ A3.out).mono ?_);rintro e ku ⟨rfl,hb⟩;refine⟨_,rfl, ?_⟩;replace ρ:=sBk ρ hb;replace σ:=sBk σ hb;replace HB:=sHb hb;(try clear hb);(try clear a4);(try clear hk);(try clear hi)))
  go_ret
  exact⟨rfl,HB.out⟩
def group_dist.f (B:Int) (X:Int):Option (Int):=some (mx (wrap64 (B-X)) (wrap64 (X-B)))
set_option maxHeartbeats 8000000 in
set_option maxRecDepth 100000 in
theorem group_dist.calls (B:Int) (X:Int) (r:Int) (w:World) (h:group_dist.f B X=some r):
 Calls Try.prog 76 #[.int .i64 B,.int .i64 X] w fun e w'=>e = .returned (.int .i64 r)∧Below w.heap.size w w':=by
 have HB:=aK (Below.refl w.heap.size w)
 have H:(some (mx (wrap64 (B-X)) (wrap64 (X-B))))=some r:=h
 clear h
 obtain⟨O,J⟩:∃ j_:Int,(mx (wrap64 (B-X)) (wrap64 (X-B)))=j_:=⟨_,rfl⟩
 replace H:(some O)=some r:=by first|(rw[J] at H;exact H)|(simp only[J] at H ⊢;exact H)
 have Y:(if (wrap64 (B-X))<(wrap64 (X-B)) then (wrap64 (X-B)) else (wrap64 (B-X)))=O:=J
 obtain rfl:=Option.some.inj H
 go_enter Try.func76,Try.ntmps76
 go_wp2
 go_ret
 exact⟨by first|rfl|(simp[Qk,Qj] <;> rfl)|(simp only[← J];first|rfl|(simp[Qk,Qj] <;> rfl))|(simp[*,Qk,Qj] <;> rfl),by repeat(first|(with_reducible first|exact HB.out|apply Qo|apply Qi|apply Qg)|exact HB.out)⟩
end Go.Proofs.Ytmfffemidlhcpaa.C
