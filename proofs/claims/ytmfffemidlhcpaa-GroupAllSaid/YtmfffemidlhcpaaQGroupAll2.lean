/- Texts of this claim, one behind the other: what the law's functions come to, walked (printed by a program, with the words that the print uses), and what that is, in plain Lean. No conditions of their own. -/
import Derived.Test.YtmfffemidlhcpaaQGroupAll1
import Derived.Test.YtmfffemidlhcpaaProg
namespace Go.Proofs.YtmfffemidlhcpaaW.PrintWords
open Go.RowKit Go.Proofs.YtmfffemidlhcpaaW.PrintLast Go.Proofs.YtmfffemidlhcpaaW.PrintMore
def qB (n m:Nat):Array Bool:=((List.range n).map fun i=>m.testBit i).toArray
theorem qP {P:Program} {ops:Array Oper} {Q:Exit→Act→World→Prop} {md:Region.Mode} {S:World→Prop} {ds:List Nat} {oi:Oper} {v:Value} {fuel:Nat} {l:Array Bool} {a:Act} {w:World} {T:Bool×List (List Nat×List Nat)} (i:Nat) (N:Option Tmp) (l':Array Bool) (ht:Aside0 (rtab md ops=T)) {a':Act} (h:Q1 P md ops Q S ds fuel l' a' w) (hi:ops[i]?=some oi:=by rfl) (hN:oi.dst=N:=by rfl) (hc:E4 T l.toList l'.toList i=true:=by kernel_rfl) (hQ:∀ c a w,Q (.panic c) (a.put oi.dst v) w→Q (.panic c) a w:=by exact(fun _ _ _ h=>h)) (hy:Yields P ops oi v a:=by(refine Or.inl ⟨by rfl, ?_⟩;intro w';go_simp;with_reducible rfl)) (ha:a.put N v=a':=by(simp only[Act.put,qS,Xe,Xh];rfl)):Q1 P md ops Q S ds (fuel+1) l a w:=Vn l' hi hN (N0 ht.out hc) hQ hy ha h
theorem qU {P:Program} {ops:Array Oper} {Q:Exit→Act→World→Prop} {md:Region.Mode} {S:World→Prop} {ds:List Nat} {oi:Oper} {fuel:Nat} {l:Array Bool} {a:Act} {w:World} {T:Bool×List (List Nat×List Nat)} (i:Nat) (N:Option Tmp) (l':Array Bool) (ht:Aside0 (rtab md ops=T)) {a':Act} (h:Q1 P md ops Q S ds fuel l' a' w) (hi:ops[i]?=some oi:=by rfl) (hN:oi.dst=N:=by rfl) (hc:E4 T l.toList l'.toList i=true:=by kernel_rfl) (hQ:∀ c a w,Q (.panic c) (a.put oi.dst undef) w→Q (.panic c) a w:=by exact(fun _ _ _ h=>h)) (hy:Yields P ops oi undef a:=by exact(Or.inr ⟨by rfl,rfl⟩)) (ha:a.put N undef=a':=by(simp only[Act.put,qS,Xe,Xh];rfl)):Q1 P md ops Q S ds (fuel+1) l a w:=Vn l' hi hN (N0 ht.out hc) hQ hy ha h
theorem qT {P:Program} {ops:Array Oper} {Q:Exit→Act→World→Prop} {md:Region.Mode} {S:World→Prop} {ds:List Nat} {oi:Oper} {v:Value} {fuel:Nat} {l:Array Bool} {a:Act} {w:World} {T:Bool×List (List Nat×List Nat)} {B:List Nat} (i:Nat) (N:Option Tmp) (l':Array Bool) (ht:Aside0 (rtab md ops=T)) (hW:Aside0 (Zq T.snd B=true)) (hS:S w) {a':Act} (h:Q1 P md ops Q S ds fuel l' a' w) (hi:ops[i]?=some oi:=by rfl) (hN:oi.dst=N:=by rfl) (hc:M0 T B ds l.toList l'.toList i=true:=by kernel_rfl) (hQ:∀ c a w,Q (.panic c) (a.put oi.dst v) w→Q (.panic c) a w:=by exact(fun _ _ _ h=>h)) (hy:YieldsIf P ops S oi v a:=by(refine Or.inl ⟨by rfl, ?_⟩;intro w' hs_;(repeat obtain⟨_,hs_⟩:=(hs_:_∧_));go_simp;with_reducible rfl)) (ha:a.put N v=a':=by(simp only[Act.put,qS,Xe,Xh];rfl)):Q1 P md ops Q S ds (fuel+1) l a w:=Lb l' hi hN (Mz ht.out hW.out hc) hQ hy hS ha h
theorem qV {P:Program} {ops:Array Oper} {Q:Exit→Act→World→Prop} {md:Region.Mode} {S:World→Prop} {ds:List Nat} {oi:Oper} {v:Value} {fuel:Nat} {l:Array Bool} {a:Act} {w:World} (i:Nat) (N:Option Tmp) (l':Array Bool) {a':Act} (h:Q1 P md ops Q S ds fuel l' a' w) (hi:ops[i]?=some oi:=by rfl) (hN:oi.dst=N:=by rfl) (hc:N1 md ops l l' i=true:=by kernel_rfl) (hQ:∀ c a w,Q (.panic c) (a.put oi.dst v) w→Q (.panic c) a w:=by exact(fun _ _ _ h=>h)) (hy:Yields P ops oi v a:=by(refine Or.inl ⟨by rfl, ?_⟩;intro w';go_simp;with_reducible rfl)) (ha:a.put N v=a':=by(simp only[Act.put,qS,Xe,Xh];rfl)):Q1 P md ops Q S ds (fuel+1) l a w:=Vn l' hi hN hc hQ hy ha h
theorem qW {P:Program} {ops:Array Oper} {Q:Exit→Act→World→Prop} {md:Region.Mode} {S:World→Prop} {ds:List Nat} {oi:Oper} {v:Value} {fuel:Nat} {l:Array Bool} {a:Act} {w:World} (i:Nat) (N:Option Tmp) (l':Array Bool) (hS:S w) {a':Act} (h:Q1 P md ops Q S ds fuel l' a' w) (hi:ops[i]?=some oi:=by rfl) (hN:oi.dst=N:=by rfl) (hc:takeB md ops ds l l' i=true:=by kernel_rfl) (hQ:∀ c a w,Q (.panic c) (a.put oi.dst v) w→Q (.panic c) a w:=by exact(fun _ _ _ h=>h)) (hy:YieldsIf P ops S oi v a:=by(refine Or.inl ⟨by rfl, ?_⟩;intro w' hs_;(repeat obtain⟨_,hs_⟩:=(hs_:_∧_));go_simp;with_reducible rfl)) (ha:a.put N v=a':=by(simp only[Act.put,qS,Xe,Xh];rfl)):Q1 P md ops Q S ds (fuel+1) l a w:=Lb l' hi hN hc hQ hy hS ha h
theorem qK {P:Program} {ops:Array Oper} {Q:Exit→Act→World→Prop} {md:Region.Mode} {S:World→Prop} {ds:List Nat} {oi:Oper} {fuel:Nat} {l:Array Bool} {a:Act} {w:World} {T:Bool×List (List Nat×List Nat)} (i:Nat) (N:Option Tmp) (l':Array Bool) (ht:Aside0 (rtab md ops=T)) (h:∀ K:Act→World→Prop,Shut (∀ a' w',S w'→(S w'→Q1 P md ops Q S ds fuel l' a' w')→K a' w')→if Region.wanted oi (yielded ops a.tmps)=true then Oper.wp P oi a w K Q else K (a.put N undef) w) (hi:ops[i]?=some oi:=by rfl) (hN:oi.dst=N:=by rfl) (hc:(Jv T.2 l.toList == [i]&&l.toList.set i true==l'.toList)=true:=by kernel_rfl) (hd:i ∉ ds:=by decide):Q1 P md ops Q S ds (fuel+1) l a w:=Vg l' hi hN (M9 ht.out hc) hd h
theorem qN {P:Program} {ops:Array Oper} {Q:Exit→Act→World→Prop} {md:Region.Mode} {S:World→Prop} {ds:List Nat} {v:Value} {fuel:Nat} {l:Array Bool} {a:Act} {w:World} (N:Option Tmp) {a':Act} (h:Q1 P md ops Q S ds fuel l a' w) (ha:a.put N v=a':=by(simp only[Act.put,qS,Xe,Xh];rfl)):Q1 P md ops Q S ds fuel l (a.put N v) w:=Ze ha h
theorem qc {w:World} {g i:Nat} {t:TypeId} {cs:Array Value} {v:Value} (b:Aside0 (w.heap[g]?=some (.cells cs t (0,0)))) (h:cs[i]?=some v:=by exact rfl):w.cell? ⟨g,i,none⟩=some v:=(Qa b.out i).trans h
theorem qM {p:Prop} (h:p:=by((try simp only[List.map_toArray,List.map_cons,List.map_nil]) <;> (first|done|rfl))):p:=h
theorem qE {P:Program} {ops:Array Oper} {Q:Exit→Act→World→Prop} {o:Oper} {rest:List Oper} {a:Act} {W:World} (N:Tmp) (cs:Array Value) (t:TypeId) (h:∀ g,g=W.heap.size → ∀ w1,w1.heap[g]?=some (.cells cs t (0,0))→Below W.heap.size W w1→wpList P ops Q rest (a.put o.dst (.pointer (some ⟨g,0,none⟩))) w1) (hd:o.dst=some N:=by rfl) (hg:o.guard=none:=by rfl) (hr:(execOp a.eval o).run P W = .ok (.value (.pointer (some ⟨W.heap.size,0,none⟩))) (W.alloc (.cells cs t (0,0))):=by(go_simp <;> rfl)):wpList P ops Q (o :: rest) a W:=Zg hg (N:=N) hd (cs:=cs) (t:=t) hr h
theorem qD1 {w:World} {g:Nat} {t:TypeId} {J:Value} (b:w.heap[g]?=some (.cells #[J] t (0,0))):w.cell? ⟨g,0,none⟩=some J∧w.frozen? ⟨g,0,none⟩=false:=⟨(Qa b 0).trans rfl,Qb b 0⟩
theorem qD2 {w:World} {g:Nat} {t:TypeId} {J Y:Value} (b:w.heap[g]?=some (.cells #[J,Y] t (0,0))):w.cell? ⟨g,0,none⟩=some J∧w.cell? ⟨g,1,none⟩=some Y∧w.frozen? ⟨g,0,none⟩=false∧w.frozen? ⟨g,1,none⟩=false:=⟨(Qa b 0).trans rfl,(Qa b 1).trans rfl,Qb b 0,Qb b 1⟩
theorem qD3 {w:World} {g:Nat} {t:TypeId} {J Y a2:Value} (b:w.heap[g]?=some (.cells #[J,Y,a2] t (0,0))):w.cell? ⟨g,0,none⟩=some J∧w.cell? ⟨g,1,none⟩=some Y∧w.cell? ⟨g,2,none⟩=some a2∧w.frozen? ⟨g,0,none⟩=false∧w.frozen? ⟨g,1,none⟩=false∧w.frozen? ⟨g,2,none⟩=false:=⟨(Qa b 0).trans rfl,(Qa b 1).trans rfl,(Qa b 2).trans rfl,Qb b 0,Qb b 1,Qb b 2⟩
theorem qD7 {w:World} {g:Nat} {t:TypeId} {J Y a2 a3 O a5 X:Value} (b:w.heap[g]?=some (.cells #[J,Y,a2,a3,O,a5,X] t (0,0))):w.cell? ⟨g,0,none⟩=some J∧w.cell? ⟨g,1,none⟩=some Y∧w.cell? ⟨g,2,none⟩=some a2∧w.cell? ⟨g,3,none⟩=some a3∧w.cell? ⟨g,4,none⟩=some O∧w.cell? ⟨g,5,none⟩=some a5∧w.cell? ⟨g,6,none⟩=some X∧w.frozen? ⟨g,0,none⟩=false∧w.frozen? ⟨g,1,none⟩=false∧w.frozen? ⟨g,2,none⟩=false∧w.frozen? ⟨g,3,none⟩=false∧w.frozen? ⟨g,4,none⟩=false∧w.frozen? ⟨g,5,none⟩=false∧w.frozen? ⟨g,6,none⟩=false:=⟨(Qa b 0).trans rfl,(Qa b 1).trans rfl,(Qa b 2).trans rfl,(Qa b 3).trans rfl,(Qa b 4).trans rfl,(Qa b 5).trans rfl,(Qa b 6).trans rfl,Qb b 0,Qb b 1,Qb b 2,Qb b 3,Qb b 4,Qb b 5,Qb b 6⟩
theorem qD8 {w:World} {g:Nat} {t:TypeId} {J Y a2 a3 O a5 X a7:Value} (b:w.heap[g]?=some (.cells #[J,Y,a2,a3,O,a5,X,a7] t (0,0))):w.cell? ⟨g,0,none⟩=some J∧w.cell? ⟨g,1,none⟩=some Y∧w.cell? ⟨g,2,none⟩=some a2∧w.cell? ⟨g,3,none⟩=some a3∧w.cell? ⟨g,4,none⟩=some O∧w.cell? ⟨g,5,none⟩=some a5∧w.cell? ⟨g,6,none⟩=some X∧w.cell? ⟨g,7,none⟩=some a7∧w.frozen? ⟨g,0,none⟩=false∧w.frozen? ⟨g,1,none⟩=false∧w.frozen? ⟨g,2,none⟩=false∧w.frozen? ⟨g,3,none⟩=false∧w.frozen? ⟨g,4,none⟩=false∧w.frozen? ⟨g,5,none⟩=false∧w.frozen? ⟨g,6,none⟩=false∧w.frozen? ⟨g,7,none⟩=false:=⟨(Qa b 0).trans rfl,(Qa b 1).trans rfl,(Qa b 2).trans rfl,(Qa b 3).trans rfl,(Qa b 4).trans rfl,(Qa b 5).trans rfl,(Qa b 6).trans rfl,(Qa b 7).trans rfl,Qb b 0,Qb b 1,Qb b 2,Qb b 3,Qb b 4,Qb b 5,Qb b 6,Qb b 7⟩
theorem Zl {w:World} {g:Nat} {t:TypeId} {J Y a2 a3 O a5 X a7 a8 a9:Value} (b:w.heap[g]?=some (.cells #[J,Y,a2,a3,O,a5,X,a7,a8,a9] t (0,0))):w.cell? ⟨g,0,none⟩=some J∧w.cell? ⟨g,1,none⟩=some Y∧w.cell? ⟨g,2,none⟩=some a2∧w.cell? ⟨g,3,none⟩=some a3∧w.cell? ⟨g,4,none⟩=some O∧w.cell? ⟨g,5,none⟩=some a5∧w.cell? ⟨g,6,none⟩=some X∧w.cell? ⟨g,7,none⟩=some a7∧w.cell? ⟨g,8,none⟩=some a8∧w.cell? ⟨g,9,none⟩=some a9∧w.frozen? ⟨g,0,none⟩=false∧w.frozen? ⟨g,1,none⟩=false∧w.frozen? ⟨g,2,none⟩=false∧w.frozen? ⟨g,3,none⟩=false∧w.frozen? ⟨g,4,none⟩=false∧w.frozen? ⟨g,5,none⟩=false∧w.frozen? ⟨g,6,none⟩=false∧w.frozen? ⟨g,7,none⟩=false∧w.frozen? ⟨g,8,none⟩=false∧w.frozen? ⟨g,9,none⟩=false:=⟨(Qa b 0).trans rfl,(Qa b 1).trans rfl,(Qa b 2).trans rfl,(Qa b 3).trans rfl,(Qa b 4).trans rfl,(Qa b 5).trans rfl,(Qa b 6).trans rfl,(Qa b 7).trans rfl,(Qa b 8).trans rfl,(Qa b 9).trans rfl,Qb b 0,Qb b 1,Qb b 2,Qb b 3,Qb b 4,Qb b 5,Qb b 6,Qb b 7,Qb b 8,Qb b 9⟩
end Go.Proofs.YtmfffemidlhcpaaW.PrintWords
namespace Go.Proofs.Ytmfffemidlhcpaa.C
open Go.RowKit Go.Proofs.YtmfffemidlhcpaaW.PrintWords Go.Proofs.YtmfffemidlhcpaaW.PrintLast Go.Proofs.YtmfffemidlhcpaaW.PrintMore
attribute [local go_sem] Zv Zt Z6 Z5 Zk Zj Zu Zs
set_option linter.unusedVariables false
set_option linter.unusedSimpArgs false
def Ns:Option Int→Value
 |none=>.nilIface
 |some c=>.iface 0 (.int .i64 c)
theorem Qk:Ns none = .nilIface:=rfl
theorem Qj (c:Int):Ns (some c) = .iface 0 (.int .i64 c):=rfl
theorem Lh:(Try.prog.info? 3).map (fun i=>(i.zero,i.size,i.bytes))=some (some (.int .i64 0),1,8):=by kernel_rfl
theorem Jy:(Try.prog.info? 36).map (fun i=>(i.zero,i.size,i.bytes))=some (some (.agg #[(.int .i64 0),(.int .i64 0),(.int .i64 0)]),3,24):=by kernel_rfl
theorem K6:(Try.prog.info? 86).map (fun i=>(i.zero,i.size,i.bytes))=some (some (.agg #[(.int .i64 0),(.int .i64 0)]),2,16):=by kernel_rfl
structure S27 where
 f0:Int
 f1:Int
 f2:Int
def z27:S27:=⟨(0:Int),(0:Int),(0:Int)⟩
def k27:Kd S27:=Kd.iso (Kd.pair (Kd.int .i64) (Kd.pair (Kd.int .i64) (Kd.int .i64))) (fun x:S27=>(x.f0,x.f1,x.f2))
theorem Nl {w:World} {x:S27} {cs:List Value} (h:k27.K w x cs):cs = [.int .i64 x.f0,.int .i64 x.f1,.int .i64 x.f2]:=by
 obtain⟨_,_,rfl,rfl,⟨_,_,rfl,rfl,rfl⟩⟩:=h
 exact rfl
theorem Eu (w:World) (base:Nat) (ok:Nat→Prop) (x:S27):k27.M w base ok x [.int .i64 x.f0,.int .i64 x.f1,.int .i64 x.f2]:=⟨[.int .i64 x.f0],[.int .i64 x.f1,.int .i64 x.f2],rfl,rfl,⟨[.int .i64 x.f1],[.int .i64 x.f2],rfl,rfl,rfl⟩⟩
def Y6 (xs:List (List Int)) (i:Int):(List Int):=xs.getD i.toNat ([]:List Int)
theorem Dj {w:World} {A:Option Addr} {n:Nat} {xs:List (List Int)} (h:Kd.C (Kd.slice 3 (Kd.int .i64)) w A n xs) (i:Int) (X:0≤i) (h1:i<n):∃ ad A0 c0,A=some ad∧w.cell? (ad.add i.toNat)=some (.slice A0 (Y6 xs i).length c0)∧(Y6 xs i).length≤c0∧(Kd.int .i64).C w A0 (Y6 xs i).length (Y6 xs i):=by
 obtain⟨ad,c,e,_,hK,Z⟩:=Kd.Vv h ([]:List Int) i X h1
 have hc:∀ j u,c[j]?=some u→w.cell? (ad.add (i.toNat * 1+j))=some u:=Z
 obtain⟨A0,c0,rfl,l0,g0⟩:=hK
 exact⟨ad,A0,c0,e,by have hq:=hc 0 _ rfl;rwa[Nat.mul_one,Nat.add_zero] at hq,l0,g0⟩
structure S36 where
 f0:Int
 f1:Int
 f2:Int
def z36:S36:=⟨(0:Int),(0:Int),(0:Int)⟩
def k36:Kd S36:=Kd.iso (Kd.pair (Kd.int .i64) (Kd.pair (Kd.int .i64) (Kd.int .i64))) (fun x:S36=>(x.f0,x.f1,x.f2))
theorem Gt {w:World} {x:S36} {cs:List Value} (h:k36.K w x cs):cs = [.int .i64 x.f0,.int .i64 x.f1,.int .i64 x.f2]:=by
 obtain⟨_,_,rfl,rfl,⟨_,_,rfl,rfl,rfl⟩⟩:=h
 exact rfl
theorem Ya {w:World} {base:Nat} {ok:Nat→Prop} {x:S36} {cs:List Value} (h:k36.M w base ok x cs):cs = [.int .i64 x.f0,.int .i64 x.f1,.int .i64 x.f2]:=by
 obtain⟨_,_,rfl,rfl,⟨_,_,rfl,rfl,rfl⟩⟩:=h
 exact rfl
theorem Kw (w:World) (base:Nat) (ok:Nat→Prop) (x:S36):k36.M w base ok x [.int .i64 x.f0,.int .i64 x.f1,.int .i64 x.f2]:=⟨[.int .i64 x.f0],[.int .i64 x.f1,.int .i64 x.f2],rfl,rfl,⟨[.int .i64 x.f1],[.int .i64 x.f2],rfl,rfl,rfl⟩⟩
def Qc (xs:List S36) (i:Int):S36:=xs.getD i.toNat z36
theorem Z9 {w:World} {A:Option Addr} {n:Nat} {xs:List S36} (h:Kd.C k36 w A n xs) (i:Int) (X:0≤i) (h1:i<n):∃ ad,A=some ad∧w.cell? (ad.add (i.toNat * 3))=some (.int .i64 (Qc xs i).f0)∧w.cell? ⟨(ad.add (i.toNat * 3)).block,(ad.add (i.toNat * 3)).off+1,none⟩=some (.int .i64 (Qc xs i).f1)∧w.cell? ⟨(ad.add (i.toNat * 3)).block,(ad.add (i.toNat * 3)).off+2,none⟩=some (.int .i64 (Qc xs i).f2):=by
 obtain⟨ad,c,e,_,hK,Z⟩:=Kd.Vv h z36 i X h1
 have hc:∀ j u,c[j]?=some u→w.cell? (ad.add (i.toNat * 3+j))=some u:=Z
 obtain rfl:=Gt hK
 exact⟨ad,e,hc 0 _ rfl,by rw[← Z3 _ _ 1 (by omega)];exact hc 1 _ rfl,by rw[← Z3 _ _ 2 (by omega)];exact hc 2 _ rfl⟩
structure S86 where
 f0:Int
 f1:Int
def z86:S86:=⟨(0:Int),(0:Int)⟩
def k86:Kd S86:=Kd.iso (Kd.pair (Kd.int .i64) (Kd.int .i64)) (fun x:S86=>(x.f0,x.f1))
theorem Kv {w:World} {x:S86} {cs:List Value} (h:k86.K w x cs):cs = [.int .i64 x.f0,.int .i64 x.f1]:=by
 obtain⟨_,_,rfl,rfl,rfl⟩:=h
 exact rfl
theorem J5 {w:World} {base:Nat} {ok:Nat→Prop} {x:S86} {cs:List Value} (h:k86.M w base ok x cs):cs = [.int .i64 x.f0,.int .i64 x.f1]:=by
 obtain⟨_,_,rfl,rfl,rfl⟩:=h
 exact rfl
theorem Nb (w:World) (x:S86):k86.K w x [.int .i64 x.f0,.int .i64 x.f1]:=⟨[.int .i64 x.f0],[.int .i64 x.f1],rfl,rfl,rfl⟩
theorem V6 (w:World) (base:Nat) (ok:Nat→Prop) (x:S86):k86.M w base ok x [.int .i64 x.f0,.int .i64 x.f1]:=⟨[.int .i64 x.f0],[.int .i64 x.f1],rfl,rfl,rfl⟩
def Qt (xs:List S86) (i:Int):S86:=xs.getD i.toNat z86
theorem Yc {w:World} {A:Option Addr} {n:Nat} {xs:List S86} (h:Kd.C k86 w A n xs) (i:Int) (X:0≤i) (h1:i<n):∃ ad,A=some ad∧w.cell? (ad.add (i.toNat * 2))=some (.int .i64 (Qt xs i).f0)∧w.cell? ⟨(ad.add (i.toNat * 2)).block,(ad.add (i.toNat * 2)).off+1,none⟩=some (.int .i64 (Qt xs i).f1):=by
 obtain⟨ad,c,e,_,hK,Z⟩:=Kd.Vv h z86 i X h1
 have hc:∀ j u,c[j]?=some u→w.cell? (ad.add (i.toNat * 2+j))=some u:=Z
 obtain rfl:=Kv hK
 exact⟨ad,e,hc 0 _ rfl,by rw[← Z3 _ _ 1 (by omega)];exact hc 1 _ rfl⟩
structure S50 where
 f0:(List S36)
 f1:(List S86)
def k50:Kd S50:=Kd.iso (Kd.pair (Kd.slice 36 k36) (Kd.slice 86 k86)) (fun x:S50=>(x.f0,x.f1))
theorem Nf {w:World} {x:S50} {cs:List Value} (h:k50.K w x cs):∃ A0 c0 A1 c1,cs = [.slice A0 x.f0.length c0,.slice A1 x.f1.length c1]∧x.f0.length≤c0∧k36.C w A0 x.f0.length x.f0∧x.f1.length≤c1∧k86.C w A1 x.f1.length x.f1:=by
 obtain⟨_,_,rfl,⟨A0,c0,rfl,l0,g0⟩,⟨A1,c1,rfl,l1,g1⟩⟩:=h
 exact⟨A0,c0,A1,c1,rfl,l0,g0,l1,g1⟩
structure S29 where
 f0:Int
 f1:Int
 f2:Int
 f3:Int
 f4:S27
def z29:S29:=⟨(0:Int),(0:Int),(0:Int),(0:Int),z27⟩
def k29:Kd S29:=Kd.iso (Kd.pair (Kd.int .i64) (Kd.pair (Kd.int .i64) (Kd.pair (Kd.int .i64) (Kd.pair (Kd.int .i64) k27)))) (fun x:S29=>(x.f0,x.f1,x.f2,x.f3,x.f4))
theorem Nh {w:World} {x:S29} {cs:List Value} (h:k29.K w x cs):cs = [.int .i64 x.f0,.int .i64 x.f1,.int .i64 x.f2,.int .i64 x.f3,.int .i64 x.f4.f0,.int .i64 x.f4.f1,.int .i64 x.f4.f2]:=by
 obtain⟨_,_,rfl,rfl,⟨_,_,rfl,rfl,⟨_,_,rfl,rfl,⟨_,_,rfl,rfl,O⟩⟩⟩⟩:=h
 obtain rfl:=Nl O
 exact rfl
theorem Et (w:World) (base:Nat) (ok:Nat→Prop) (x:S29):k29.M w base ok x [.int .i64 x.f0,.int .i64 x.f1,.int .i64 x.f2,.int .i64 x.f3,.int .i64 x.f4.f0,.int .i64 x.f4.f1,.int .i64 x.f4.f2]:=⟨[.int .i64 x.f0],[.int .i64 x.f1,.int .i64 x.f2,.int .i64 x.f3,.int .i64 x.f4.f0,.int .i64 x.f4.f1,.int .i64 x.f4.f2],rfl,rfl,⟨[.int .i64 x.f1],[.int .i64 x.f2,.int .i64 x.f3,.int .i64 x.f4.f0,.int .i64 x.f4.f1,.int .i64 x.f4.f2],rfl,rfl,⟨[.int .i64 x.f2],[.int .i64 x.f3,.int .i64 x.f4.f0,.int .i64 x.f4.f1,.int .i64 x.f4.f2],rfl,rfl,⟨[.int .i64 x.f3],[.int .i64 x.f4.f0,.int .i64 x.f4.f1,.int .i64 x.f4.f2],rfl,rfl,(Eu w base ok x.f4)⟩⟩⟩⟩
structure S31 where
 f0:S29
 f1:Int
 f2:Bool
 f3:Bool
def z31:S31:=⟨z29,(0:Int),false,false⟩
def k31:Kd S31:=Kd.iso (Kd.pair k29 (Kd.pair (Kd.int .i64) (Kd.pair Kd.bool Kd.bool))) (fun x:S31=>(x.f0,x.f1,x.f2,x.f3))
theorem Ng {w:World} {x:S31} {cs:List Value} (h:k31.K w x cs):cs = [.int .i64 x.f0.f0,.int .i64 x.f0.f1,.int .i64 x.f0.f2,.int .i64 x.f0.f3,.int .i64 x.f0.f4.f0,.int .i64 x.f0.f4.f1,.int .i64 x.f0.f4.f2,.int .i64 x.f1,.bool x.f2,.bool x.f3]:=by
 obtain⟨_,_,rfl,O,⟨_,_,rfl,rfl,⟨_,_,rfl,rfl,rfl⟩⟩⟩:=h
 obtain rfl:=Nh O
 exact rfl
theorem Lg (w:World) (base:Nat) (ok:Nat→Prop) (x:S31):k31.M w base ok x [.int .i64 x.f0.f0,.int .i64 x.f0.f1,.int .i64 x.f0.f2,.int .i64 x.f0.f3,.int .i64 x.f0.f4.f0,.int .i64 x.f0.f4.f1,.int .i64 x.f0.f4.f2,.int .i64 x.f1,.bool x.f2,.bool x.f3]:=⟨[.int .i64 x.f0.f0,.int .i64 x.f0.f1,.int .i64 x.f0.f2,.int .i64 x.f0.f3,.int .i64 x.f0.f4.f0,.int .i64 x.f0.f4.f1,.int .i64 x.f0.f4.f2],[.int .i64 x.f1,.bool x.f2,.bool x.f3],rfl,(Et w base ok x.f0),⟨[.int .i64 x.f1],[.bool x.f2,.bool x.f3],rfl,rfl,⟨[.bool x.f2],[.bool x.f3],rfl,rfl,rfl⟩⟩⟩
def Qd (xs:List S31) (i:Int):S31:=xs.getD i.toNat z31
theorem G3 {w:World} {A:Option Addr} {n:Nat} {xs:List S31} (h:Kd.C k31 w A n xs) (i:Int) (X:0≤i) (h1:i<n):∃ ad,A=some ad∧w.cell? (ad.add (i.toNat * 10))=some (.int .i64 (Qd xs i).f0.f0)∧w.cell? ⟨(ad.add (i.toNat * 10)).block,(ad.add (i.toNat * 10)).off+1,none⟩=some (.int .i64 (Qd xs i).f0.f1)∧w.cell? ⟨(ad.add (i.toNat * 10)).block,(ad.add (i.toNat * 10)).off+2,none⟩=some (.int .i64 (Qd xs i).f0.f2)∧w.cell? ⟨(ad.add (i.toNat * 10)).block,(ad.add (i.toNat * 10)).off+3,none⟩=some (.int .i64 (Qd xs i).f0.f3)∧w.cell? ⟨(ad.add (i.toNat * 10)).block,(ad.add (i.toNat * 10)).off+4,none⟩=some (.int .i64 (Qd xs i).f0.f4.f0)∧w.cell? ⟨(ad.add (i.toNat * 10)).block,(ad.add (i.toNat * 10)).off+5,none⟩=some (.int .i64 (Qd xs i).f0.f4.f1)∧w.cell? ⟨(ad.add (i.toNat * 10)).block,(ad.add (i.toNat * 10)).off+6,none⟩=some (.int .i64 (Qd xs i).f0.f4.f2)∧w.cell? ⟨(ad.add (i.toNat * 10)).block,(ad.add (i.toNat * 10)).off+7,none⟩=some (.int .i64 (Qd xs i).f1)∧w.cell? ⟨(ad.add (i.toNat * 10)).block,(ad.add (i.toNat * 10)).off+8,none⟩=some (.bool (Qd xs i).f2)∧w.cell? ⟨(ad.add (i.toNat * 10)).block,(ad.add (i.toNat * 10)).off+9,none⟩=some (.bool (Qd xs i).f3):=by
 obtain⟨ad,c,e,_,hK,Z⟩:=Kd.Vv h z31 i X h1
 have hc:∀ j u,c[j]?=some u→w.cell? (ad.add (i.toNat * 10+j))=some u:=Z
 obtain rfl:=Ng hK
 exact⟨ad,e,hc 0 _ rfl,by rw[← Z3 _ _ 1 (by omega)];exact hc 1 _ rfl,by rw[← Z3 _ _ 2 (by omega)];exact hc 2 _ rfl,by rw[← Z3 _ _ 3 (by omega)];exact hc 3 _ rfl,by rw[← Z3 _ _ 4 (by omega)];exact hc 4 _ rfl,by rw[← Z3 _ _ 5 (by omega)];exact hc 5 _ rfl,by rw[← Z3 _ _ 6 (by omega)];exact hc 6 _ rfl,by rw[← Z3 _ _ 7 (by omega)];exact hc 7 _ rfl,by rw[← Z3 _ _ 8 (by omega)];exact hc 8 _ rfl,by rw[← Z3 _ _ 9 (by omega)];exact hc 9 _ rfl⟩
structure S23 where
 f0:Int
 f1:Int
 f2:Int
 f3:Int
 f4:Int
 f5:Int
 f6:Int
def k23:Kd S23:=Kd.iso (Kd.pair (Kd.int .i64) (Kd.pair (Kd.int .i64) (Kd.pair (Kd.int .i64) (Kd.pair (Kd.int .i64) (Kd.pair (Kd.int .i64) (Kd.pair (Kd.int .i64) (Kd.int .i64))))))) (fun x:S23=>(x.f0,x.f1,x.f2,x.f3,x.f4,x.f5,x.f6))
theorem Nn {w:World} {x:S23} {cs:List Value} (h:k23.K w x cs):cs = [.int .i64 x.f0,.int .i64 x.f1,.int .i64 x.f2,.int .i64 x.f3,.int .i64 x.f4,.int .i64 x.f5,.int .i64 x.f6]:=by
 obtain⟨_,_,rfl,rfl,⟨_,_,rfl,rfl,⟨_,_,rfl,rfl,⟨_,_,rfl,rfl,⟨_,_,rfl,rfl,⟨_,_,rfl,rfl,rfl⟩⟩⟩⟩⟩⟩:=h
 exact rfl
structure S25 where
 f0:Int
 f1:S23
 f2:Int
 f3:Int
def k25:Kd S25:=Kd.iso (Kd.pair (Kd.int .i64) (Kd.pair k23 (Kd.pair (Kd.int .i64) (Kd.int .i64)))) (fun x:S25=>(x.f0,x.f1,x.f2,x.f3))
theorem Nm {w:World} {x:S25} {cs:List Value} (h:k25.K w x cs):cs = [.int .i64 x.f0,.int .i64 x.f1.f0,.int .i64 x.f1.f1,.int .i64 x.f1.f2,.int .i64 x.f1.f3,.int .i64 x.f1.f4,.int .i64 x.f1.f5,.int .i64 x.f1.f6,.int .i64 x.f2,.int .i64 x.f3]:=by
 obtain⟨_,_,rfl,rfl,⟨_,_,rfl,B,⟨_,_,rfl,rfl,rfl⟩⟩⟩:=h
 obtain rfl:=Nn B
 exact rfl
structure S52 where
 f0:S25
 f1:(List S31)
 f2:Int
 f3:S50
def k52:Kd S52:=Kd.iso (Kd.pair k25 (Kd.pair (Kd.slice 31 k31) (Kd.pair (Kd.int .i64) k50))) (fun x:S52=>(x.f0,x.f1,x.f2,x.f3))
theorem Nc {w:World} {x:S52} {cs:List Value} (h:k52.K w x cs):∃ bs c10 aw ai B be,cs = [.int .i64 x.f0.f0,.int .i64 x.f0.f1.f0,.int .i64 x.f0.f1.f1,.int .i64 x.f0.f1.f2,.int .i64 x.f0.f1.f3,.int .i64 x.f0.f1.f4,.int .i64 x.f0.f1.f5,.int .i64 x.f0.f1.f6,.int .i64 x.f0.f2,.int .i64 x.f0.f3,.slice bs x.f1.length c10,.int .i64 x.f2,.slice aw x.f3.f0.length ai,.slice B x.f3.f1.length be]∧x.f1.length≤c10∧k31.C w bs x.f1.length x.f1∧x.f3.f0.length≤ai∧k36.C w aw x.f3.f0.length x.f3.f0∧x.f3.f1.length≤be∧k86.C w B x.f3.f1.length x.f3.f1:=by
 obtain⟨_,_,rfl,O,⟨_,_,rfl,⟨bs,c10,rfl,l10,J⟩,⟨_,_,rfl,rfl,X⟩⟩⟩:=h
 obtain rfl:=Nm O
 obtain⟨aw,ai,B,be,rfl,Y,Z,γ,δ⟩:=Nf X
 exact⟨bs,c10,aw,ai,B,be,rfl,l10,J,Y,Z,γ,δ⟩
def door_within.f (J:Int) (Y:Int) (a2:Int):Option (Bool):=if Y≤J then (some (decide (J≤a2))) else (some false)
set_option maxHeartbeats 8000000 in
set_option maxRecDepth 100000 in
theorem door_within.calls (J:Int) (Y:Int) (a2:Int) (r:Bool) (w:World) (h:door_within.f J Y a2=some r):
  Calls Try.prog 86 #[.int .i64 J,.int .i64 Y,.int .i64 a2] w fun e w'=>e = .returned (.bool r)∧Drawn0 w w':=by
 have H:(if Y≤J then (some (decide (J≤a2))) else (some false))=some r:=h
 clear h
 by_cases c4:Y≤J
 ·rw[if_pos c4] at H
  have c4b0:decide (Y≤J)=true:=decide_eq_true c4
  clear c4
  obtain rfl:=Option.some.inj H
  go_enter Try.func86,Try.ntmps86
  go_wp2
  go_ret
  exact⟨qR,by repeat(first|exact Drawn0.refl _|apply Drawn0.step)⟩
 ·rw[if_neg c4] at H
  have c4b0:decide (Y≤J)=false:=decide_eq_false c4
  clear c4
  obtain rfl:=Option.some.inj H
  go_enter Try.func86,Try.ntmps86
  go_wp2
  go_ret
  exact⟨qR,by repeat(first|exact Drawn0.refl _|apply Drawn0.step)⟩
end Go.Proofs.Ytmfffemidlhcpaa.C
set_option linter.unusedVariables false
namespace Go.Proofs.Ytmfffemidlhcpaa.C
open Go.RowKit Go.Proofs.YtmfffemidlhcpaaW.PrintWords Go.Proofs.YtmfffemidlhcpaaW.PrintLast Go.Proofs.YtmfffemidlhcpaaW.PrintMore
theorem bel {B:Nat} {w W:World} (h:Below B w W:=by repeat(first|(with_reducible first|exact HB.out|apply Qu|apply Qi|apply Qg|refine Qx ?_ (Aside0.out (by assumption)))|exact HB.out|(refine Qx ?_ (Aside0.out (by assumption))))):Below B w W:=h
theorem bka {w W:World} {g:Nat} {o:Obj} (b:Aside0 (w.heap[g]?=some o)) (e:W.heap[g]?=some o:=by(with_reducible repeat(first|refine Qn ?_ _|refine Qe ?_|refine Qo ?_ _|refine X4 ?_ (Aside0.out (by assumption)) _));exact Aside0.out (by assumption)):W.heap[g]?=some o:=e
theorem kra {α:Type} {d:Kd α} {Y:TypeId} {w W:World} {base:Nat} {ok:Nat→Prop} {v:Value} {xs:List α} (b:Aside0 (d.R Y w base ok v xs)) (e:d.R Y W base ok v xs:=by(with_reducible repeat first|apply Kd.Qm|apply Kd.Ql|apply Kd.Qs);exact Aside0.out (by assumption)):d.R Y W base ok v xs:=e
theorem sRb {α:Type} {d:Kd α} {Y:TypeId} {w w1 w2:World} {base:Nat} {ok:Nat→Prop} {v:Value} {xs:List α} (b:Aside0 (d.R Y w base ok v xs)) (h:Below w1.heap.size w1 w2) (e:d.R Y w1 base ok v xs:=by(with_reducible repeat first|apply Kd.Qm|apply Kd.Ql|apply Kd.Qs);exact Aside0.out (by assumption)):Aside0 (d.R Y w2 base ok v xs):=⟨Kd.Za e h⟩
theorem sBk {w w1 w2:World} {g:Nat} {o:Obj} (b:Aside0 (w.heap[g]?=some o)) (h:Below w1.heap.size w1 w2) (e:w1.heap[g]?=some o:=by(with_reducible repeat(first|refine Qn ?_ _|refine Qe ?_|refine Qo ?_ _|refine X4 ?_ (Aside0.out (by assumption)) _));exact Aside0.out (by assumption)):Aside0 (w2.heap[g]?=some o):=⟨Qy e h⟩
theorem sHb {w W w2:World} (h:Below W.heap.size W w2) (b:Below w.heap.size w W:=by repeat(first|(with_reducible first|exact HB.out|apply Qu|apply Qi|apply Qg|refine Qx ?_ (Aside0.out (by assumption)))|exact HB.out|(refine Qx ?_ (Aside0.out (by assumption))))):Aside0 (Below w.heap.size w w2):=⟨Q0 b h⟩
theorem sGe {w W:World} {g:Nat} (h:g=W.heap.size) (b:Below w.heap.size w W:=by repeat(first|(with_reducible first|exact HB.out|apply Qu|apply Qi|apply Qg|refine Qx ?_ (Aside0.out (by assumption)))|exact HB.out|(refine Qx ?_ (Aside0.out (by assumption))))):Aside0 (w.heap.size≤g):=⟨by rw[h];exact Qh b⟩
theorem sNl {w W:World} {g k:Nat} {o:Obj} (b:Aside0 (w.heap[g]?=some o)) (h:k=W.heap.size) (e:W.heap[g]?=some o:=by(with_reducible repeat(first|refine Qn ?_ _|refine Qe ?_|refine Qo ?_ _|refine X4 ?_ (Aside0.out (by assumption)) _));exact Aside0.out (by assumption)):Aside0 (g≠k):=⟨by rw[h];exact Nat.ne_of_lt (Xi e)⟩
theorem sNg {w W:World} {g k:Nat} {o:Obj} (b:Aside0 (w.heap[g]?=some o)) (h:k=W.heap.size) (e:W.heap[g]?=some o:=by(with_reducible repeat(first|refine Qn ?_ _|refine Qe ?_|refine Qo ?_ _|refine X4 ?_ (Aside0.out (by assumption)) _));exact Aside0.out (by assumption)):Aside0 (k≠g):=⟨by rw[h];exact Nat.ne_of_gt (Xi e)⟩
def bN (n m:Nat):Array Bool:=((List.range n).map fun i=>m.testBit i).toArray
end Go.Proofs.Ytmfffemidlhcpaa.C
namespace Go.Proofs.Ytmfffemidlhcpaa.C
open Go.RowKit Go.Proofs.YtmfffemidlhcpaaW.PrintWords Go.Proofs.YtmfffemidlhcpaaW.PrintLast Go.Proofs.YtmfffemidlhcpaaW.PrintMore
attribute [local go_sem] Zv Zt Z6 Z5 Zk Zj Zu Zs
set_option linter.unusedVariables false
set_option linter.unusedSimpArgs false
def door_times.l0:Nat→List Int→Int→Int→Int→Int→Int→Int→Int→Int→Int→Option (Bool)
 |0,_,_,_,_,_,_,_,_,_,_=>none
 |k+1,B,ξ,O,X,Y,Z,γ,δ,ε,J=>if O < ξ then (if 0≤O then (if O<(B.length:Int) then ((door_within.f (rd B O) 1 60).bind fun ν =>(if ν = true then (door_times.l0 k B ξ (wrap64 (O+1)) X Y Z γ δ ε J) else (some false))) else (none)) else (none)) else ((door_within.f J 0 60).bind fun θ =>(some θ))
def door_times.f (k:Nat) (J:Int) (O:Int) (X:Int) (Y:Int) (Z:Int) (δ :Int) (γ:Int):Option (Bool):=(some (([J,O,X,Y,Z,δ]:List Int):List Int)).bind fun ζ =>(door_times.l0 k ζ (ζ.length:Int) 0 J O X Y Z δ γ)
theorem door_times.Zo:∀ k,(∀ O X Y J Z y5 y6 y7 y8 y9,LeO (door_times.l0 k O X Y J Z y5 y6 y7 y8 y9) (door_times.l0 (k+1) O X Y J Z y5 y6 y7 y8 y9))
 |0=>fun _ _ _ _ _ _ _ _ _ _ r h=>by simp[door_times.l0] at h
 |k+1=>by
  have B:=door_times.Zo k
  ·intro O X Y J Z y5 y6 y7 y8 y9
   unfold door_times.l0
   repeat' first
   |(with_reducible exact B _ _ _ _ _ _ _ _ _ _)
   |(with_reducible exact LeO.refl _)
   |(with_reducible exact LeO.none _)
   |(with_reducible refine LeO.ite ?_ ?_)
   |(with_reducible refine LeO.bind ?_ (fun _=>?_))
   |exact B _ _ _ _ _ _ _ _ _ _
   |exact LeO.none _
   |refine LeO.ite ?_ ?_
   |refine LeO.bind ?_ (fun _=>?_)
theorem door_times.mono:∀ J Y a2 a3 O a5 X k,LeO (door_times.f k J Y a2 a3 O a5 X) (door_times.f (k+1) J Y a2 a3 O a5 X):=by
 intro J Y a2 a3 O a5 X k
 have B:=door_times.Zo k
 unfold door_times.f
 repeat' first
   |(with_reducible exact B _ _ _ _ _ _ _ _ _ _)
   |(with_reducible exact LeO.refl _)
   |(with_reducible exact LeO.none _)
   |(with_reducible refine LeO.ite ?_ ?_)
   |(with_reducible refine LeO.bind ?_ (fun _=>?_))
   |exact B _ _ _ _ _ _ _ _ _ _
   |exact LeO.none _
   |refine LeO.ite ?_ ?_
   |refine LeO.bind ?_ (fun _=>?_)
set_option maxHeartbeats 8000000 in
set_option maxRecDepth 100000 in
theorem door_times.calls (k:Nat) (J:Int) (O:Int) (X:Int) (Y:Int) (Z:Int) (δ :Int) (γ:Int) (r:Bool) (w:World) (h:door_times.f k J O X Y Z δ γ=some r):
  Calls Try.prog 70 #[.agg #[.int .i64 J,.int .i64 O,.int .i64 X,.int .i64 Y,.int .i64 Z,.int .i64 δ,.int .i64 γ]] w fun e w'=>e = .returned (.bool r)∧Below w.heap.size w w':=by
 have h5:=Try.underlying23
 have HB:=Aside0.mk (Below.refl w.heap.size w)
 have H:((some (([J,O,X,Y,Z,δ]:List Int):List Int)).bind fun ζ =>(door_times.l0 k ζ (ζ.length:Int) 0 J O X Y Z δ γ))=some r:=h
 clear h
 obtain⟨ζ,κ⟩:∃ y_:List Int,y_=(([J,O,X,Y,Z,δ]:List Int)):=⟨_,rfl⟩
 replace H:(door_times.l0 k ζ (ζ.length:Int) 0 J O X Y Z δ γ)=some r:=by first|(rw[κ];with_reducible exact H)|(have an:=(Option.bind_some _ _).symm.trans H;rw[κ];with_reducible exact an)|(have an:=(Option.bind_some _ _).symm.trans H;with_reducible exact an)|with_reducible exact H|(rw[κ];exact H)|exact H
 have σ:=Aside0.mk κ
 clear κ
 have H':=Aside0.mk H
 clear H
 go_enter Try.func70,Try.ntmps70
 go_wp2_with (first|((with_reducible refine Qf (N:=1) rfl ?_);refine qE 1 #[.int .i64 J,.int .i64 O,.int .i64 X,.int .i64 Y,.int .i64 Z,.int .i64 δ,.int .i64 γ] 23 ?_;intro ε hg w2 hbox hb;have B:=Aside0.mk hbox;have ψ :=sGe hg;have ι :=sGe hg;replace HB:=sHb hb;clear hb hbox hg;obtain⟨φ,a0,a1,a6,a7,a8,a9,af,ag,aj,ak,al,am,ap⟩:=qD7 B.out)|((with_reducible refine Qf (N:=17) rfl ?_);refine Kd.Vu (Kd.int .i64) _ 3 ?hg (N:=17) ?hd (xs:=([J,O,X,Y,Z,δ]:List Int)) (inner:=[.int .i64 J,.int .i64 O,.int .i64 X,.int .i64 Y,.int .i64 Z,.int .i64 δ]) (ok:=fun _=>True) (okp:=fun _=>True) ?hr ?hp (fun _ hk=>hk) trivial (Below.refl _ _) (Nat.le_refl _) (by simp) ?_;(case hd=>rfl);(case hg=>rfl);(case hr=>go_simp <;> rfl);(case hp=>exact(Reps.one (show Kd.M (Kd.int .i64) _ _ _ J [.int .i64 J] from rfl) (Reps.one (show Kd.M (Kd.int .i64) _ _ _ O [.int .i64 O] from rfl) (Reps.one (show Kd.M (Kd.int .i64) _ _ _ X [.int .i64 X] from rfl) (Reps.one (show Kd.M (Kd.int .i64) _ _ _ Y [.int .i64 Y] from rfl) (Reps.one (show Kd.M (Kd.int .i64) _ _ _ Z [.int .i64 Z] from rfl) (Reps.one (show Kd.M (Kd.int .i64) _ _ _ δ [.int .i64 δ] from rfl) (Reps.none _ _))))))));intro av w4 ξ hb hg_ hnew_;clear hg_ hnew_;(first|rw[← σ.out] at ξ |(simp only[Int.reduceToNat] at ξ;rw[← σ.out] at ξ));have ρ:=Aside0.mk (Kd.Q3 ξ (Qh HB.out));replace B:=sBk B hb;replace HB:=sHb hb;clear hb ξ;obtain⟨ar,ay,az⟩:=Kd.Q5 ρ.out;subst az))
 go_loopg [19] k (fun kq ch w'=>∃ (η :Int),ch = .int .i64 η ∧ Aside0 (door_times.l0 kq ζ (ζ.length:Int) η J O X Y Z δ γ=some r)∧Aside0 (kq≤k)∧Aside0 (Kd.R (Kd.int .i64) 3 w' w.heap.size (fun _=>True) (.slice ar ζ.length ay) ζ)∧Aside0 (w'.heap[ε]?=some (.cells #[.int .i64 J,.int .i64 O,.int .i64 X,.int .i64 Y,.int .i64 Z,.int .i64 δ,.int .i64 γ] 23 (0,0)))∧Aside0 (Below w.heap.size w w'))
 case atStart=>exact⟨(0),rfl,H',⟨Nat.le_refl _⟩,⟨by(with_reducible repeat first|apply Kd.Qm|apply Kd.Ql|apply Kd.Qs);exact ρ.out⟩,B,HB⟩
 case round=>
  clear H'
  try clear p2
  try clear φ
  try clear a0
  try clear a1
  try clear a6
  try clear a7
  try clear a8
  try clear a9
  try clear af
  try clear ag
  try clear aj
  try clear ak
  try clear al
  try clear am
  try clear ap
  obtain⟨η,rfl,HA,ao,μ,B,HB⟩:=hrel
  cases gk with
  |zero=>exact absurd HA.out (by simp[door_times.l0])
  |succ k1=>
   have H:=HA.out
   clear HA
   simp only[door_times.l0] at H
   by_cases c7: η < (ζ.length:Int)
   ·rw[if_pos c7] at H
    have c7b0:decide (η < (ζ.length:Int))=true:=decide_eq_true c7
    clear c7
    by_cases c8:0 ≤ η
    ·rw[if_pos c8] at H
     have c8b0:decide (0 ≤ η)=true:=decide_eq_true c8
     clear c8
     by_cases c9: η < (ζ.length:Int)
     ·rw[if_pos c9] at H
      have c9b0:decide (η < (ζ.length:Int))=true:=decide_eq_true c9
      clear c9
      replace H:=Option.bind_eq_some_iff.mp H
      obtain⟨ν,d6,H⟩:=H
      replace H:(if ν = true then (door_times.l0 k1 ζ (ζ.length:Int) (wrap64 (η + 1)) J O X Y Z δ γ) else (some false))=some r:=H
      have bs:=Aside0.mk d6
      clear d6
      by_cases ah: ν = true
      ·subst ah
       have H1:(door_times.l0 k1 ζ (ζ.length:Int) (wrap64 (η + 1)) J O X Y Z δ γ)=some r:=by rw[if_pos rfl] at H;exact H
       clear H
       have H:=H1
       clear H1
       have H':=Aside0.mk H
       clear H
       have χ :0≤(η :Int):=of_decide_eq_true (by assumption)
       have ω : η < (ζ.length:Int):=of_decide_eq_true (by assumption)
       obtain⟨a5,ae,τ⟩:=Kd.Yv (Kd.Qr μ.out).2.2 η χ ω
       cases ae
       replace χ :=eq_true χ
       replace ω :=eq_true ω
       go_wp2_with (first|((with_reducible refine Qp (f:=86) rfl ?_);refine Q4 (some 24) rfl rfl Try.func86 kr rfl #[.int .i64 (rd ζ η),.int .i64 1,.int .i64 60] rfl qM ?_;(with_reducible refine(door_within.calls (rd ζ η) 1 60 true _ bs.out).mono ?_);rintro e w' ⟨rfl,⟨nd,rfl⟩⟩;refine⟨_,rfl, ?_⟩))
       go_roundg k1
       case measure=>have:=ao.out;omega
       case rel=>exact⟨(wrap64 (η + 1)),qR,H',⟨by have:=ao.out;omega⟩,⟨by(with_reducible repeat first|apply Kd.Qm|apply Kd.Ql|apply Kd.Qs);exact μ.out⟩,⟨bka B⟩,⟨bel⟩⟩
      ·replace ah:=Bool.eq_false_iff.mpr ah
       subst ah
       have H1:(some false)=some r:=by rw[if_neg (show ¬ (false=true) by decide)] at H;exact H
       clear H
       have H:=H1
       clear H1
       obtain rfl:=Option.some.inj H
       have χ :0≤(η :Int):=of_decide_eq_true (by assumption)
       have ω : η < (ζ.length:Int):=of_decide_eq_true (by assumption)
       obtain⟨a5,ae,τ⟩:=Kd.Yv (Kd.Qr μ.out).2.2 η χ ω
       cases ae
       replace χ :=eq_true χ
       replace ω :=eq_true ω
       go_wp2_with (first|((with_reducible refine Qp (f:=86) rfl ?_);refine Q4 (some 24) rfl rfl Try.func86 kr rfl #[.int .i64 (rd ζ η),.int .i64 1,.int .i64 60] rfl qM ?_;(with_reducible refine(door_within.calls (rd ζ η) 1 60 false _ bs.out).mono ?_);rintro e w' ⟨rfl,⟨nd,rfl⟩⟩;refine⟨_,rfl, ?_⟩))
       go_ret
       exact⟨by first|rfl|(simp[Qk,Qj] <;> rfl)|(simp[*,Qk,Qj] <;> rfl),bel⟩
     ·rw[if_neg c9] at H
      exact absurd H (by simp)
    ·rw[if_neg c8] at H
     exact absurd H (by simp)
   ·rw[if_neg c7] at H
    have c7b0:decide (η < (ζ.length:Int))=false:=decide_eq_false c7
    clear c7
    replace H:=Option.bind_eq_some_iff.mp H
    obtain⟨θ,ai,H⟩:=H
    replace H:(some θ)=some r:=H
    have aw:=Aside0.mk ai
    clear ai
    obtain rfl:=Option.some.inj H
    obtain⟨ab,au,a3,aa,bg,bm,bu,ac,ax,a4,bv,ce,cf,cg⟩:=qD7 B.out
    go_wp2_with (first|((with_reducible refine Qp (f:=86) rfl ?_);refine Q4 (some 29) rfl rfl Try.func86 kr rfl #[.int .i64 γ,.int .i64 0,.int .i64 60] rfl qM ?_;(with_reducible refine(door_within.calls γ 0 60 θ _ aw.out).mono ?_);rintro e w' ⟨rfl,⟨nd,rfl⟩⟩;refine⟨_,rfl, ?_⟩))
    go_ret
    exact⟨by first|rfl|(simp[Qk,Qj] <;> rfl)|(simp[*,Qk,Qj] <;> rfl),bel⟩
def door_gear.f (k:Nat) (J:Int) (O:Int) (X:Int) (Y:Int) (Z:Int) (δ :Int) (γ:Int) (θ :Int) (η :Int) (ζ :Int):Option (Bool):=(door_times.f k O X Y Z δ γ θ).bind fun μ =>(if μ = true then ((door_within.f J 2 64).bind fun κ =>(if κ = true then ((door_within.f η 1 300).bind fun ι =>(if ι = true then ((door_within.f ζ 0 60).bind fun ε =>(some ε)) else (some false))) else (some false))) else (some false))
theorem door_gear.mono:∀ J Y a2 a3 O a5 X a7 a8 a9 k,LeO (door_gear.f k J Y a2 a3 O a5 X a7 a8 a9) (door_gear.f (k+1) J Y a2 a3 O a5 X a7 a8 a9):=by
 intro J Y a2 a3 O a5 X a7 a8 a9 k
 unfold door_gear.f
 repeat' first
   |(with_reducible exact door_times.mono _ _ _ _ _ _ _ _)
   |(with_reducible exact LeO.refl _)
   |(with_reducible exact LeO.none _)
   |(with_reducible refine LeO.ite ?_ ?_)
   |(with_reducible refine LeO.bind ?_ (fun _=>?_))
   |exact door_times.mono _ _ _ _ _ _ _ _
   |exact LeO.none _
   |refine LeO.ite ?_ ?_
   |refine LeO.bind ?_ (fun _=>?_)
set_option maxHeartbeats 8000000 in
set_option maxRecDepth 100000 in
theorem door_gear.calls (k:Nat) (J:Int) (O:Int) (X:Int) (Y:Int) (Z:Int) (δ :Int) (γ:Int) (θ :Int) (η :Int) (ζ :Int) (r:Bool) (w:World) (h:door_gear.f k J O X Y Z δ γ θ η ζ = some r):
  Calls Try.prog 72 #[.agg #[.int .i64 J,.int .i64 O,.int .i64 X,.int .i64 Y,.int .i64 Z,.int .i64 δ,.int .i64 γ,.int .i64 θ,.int .i64 η,.int .i64 ζ]] w fun e w'=>e = .returned (.bool r)∧Below w.heap.size w w':=by
 have ew:=Try.underlying25
 have h5:=Try.underlying23
 have HB:=Aside0.mk (Below.refl w.heap.size w)
 have H:((door_times.f k O X Y Z δ γ θ).bind fun μ =>(if μ = true then ((door_within.f J 2 64).bind fun κ =>(if κ = true then ((door_within.f η 1 300).bind fun ι =>(if ι = true then ((door_within.f ζ 0 60).bind fun ε =>(some ε)) else (some false))) else (some false))) else (some false)))=some r:=h
 clear h
 replace H:=Option.bind_eq_some_iff.mp H
 obtain⟨μ,ko,H⟩:=H
 replace H:(if μ = true then ((door_within.f J 2 64).bind fun κ =>(if κ = true then ((door_within.f η 1 300).bind fun ι =>(if ι = true then ((door_within.f ζ 0 60).bind fun ε =>(some ε)) else (some false))) else (some false))) else (some false))=some r:=H
 have A2:=Aside0.mk ko
 clear ko
 by_cases c3: μ = true
 ·subst c3
  have H1:((door_within.f J 2 64).bind fun κ =>(if κ = true then ((door_within.f η 1 300).bind fun ι =>(if ι = true then ((door_within.f ζ 0 60).bind fun ε =>(some ε)) else (some false))) else (some false)))=some r:=by rw[if_pos rfl] at H;exact H
  clear H
  have H:=H1
  clear H1
  replace H:=Option.bind_eq_some_iff.mp H
  obtain⟨κ,d4,H⟩:=H
  replace H:(if κ = true then ((door_within.f η 1 300).bind fun ι =>(if ι = true then ((door_within.f ζ 0 60).bind fun ε =>(some ε)) else (some false))) else (some false))=some r:=H
  have A4:=Aside0.mk d4
  clear d4
  by_cases c5: κ = true
  ·subst c5
   have H1:((door_within.f η 1 300).bind fun ι =>(if ι = true then ((door_within.f ζ 0 60).bind fun ε =>(some ε)) else (some false)))=some r:=by rw[if_pos rfl] at H;exact H
   clear H
   have H:=H1
   clear H1
   replace H:=Option.bind_eq_some_iff.mp H
   obtain⟨ι,b0,H⟩:=H
   replace H:(if ι = true then ((door_within.f ζ 0 60).bind fun ε =>(some ε)) else (some false))=some r:=H
   have A6:=Aside0.mk b0
   clear b0
   by_cases c7: ι = true
   ·subst c7
    have H1:((door_within.f ζ 0 60).bind fun ε =>(some ε))=some r:=by rw[if_pos rfl] at H;exact H
    clear H
    have H:=H1
    clear H1
    replace H:=Option.bind_eq_some_iff.mp H
    obtain⟨ε,gf,H⟩:=H
    replace H:(some ε)=some r:=H
    have A8:=Aside0.mk gf
    clear gf
    obtain rfl:=Option.some.inj H
    go_enter Try.func72,Try.ntmps72
    go_wp2_with (first|((with_reducible refine Qf (N:=1) rfl ?_);refine qE 1 #[.int .i64 J,.int .i64 O,.int .i64 X,.int .i64 Y,.int .i64 Z,.int .i64 δ,.int .i64 γ,.int .i64 θ,.int .i64 η,.int .i64 ζ] 25 ?_;intro ν hg w9 hbox hb;have B:=Aside0.mk hbox;have ξ :=sGe hg;have σ:=sGe hg;replace HB:=sHb hb;clear hb hbox hg;obtain⟨a4,ah,cf,cg,cp,cq,cr,bf,bv,df,b3,bu,ct,cu,cv,cw,cx,fk,fl,fm⟩:=Zl B.out)|((with_reducible refine Qp (f:=70) rfl ?_);refine Q4 (some 5) rfl rfl Try.func70 kr rfl #[.agg #[.int .i64 O,.int .i64 X,.int .i64 Y,.int .i64 Z,.int .i64 δ,.int .i64 γ,.int .i64 θ]] rfl qM ?_;(with_reducible refine(door_times.calls k O X Y Z δ γ θ true _ A2.out).mono ?_);rintro e ec ⟨rfl,hb⟩;refine⟨_,rfl, ?_⟩;replace B:=sBk B hb;replace HB:=sHb hb;(try clear hb);(try clear a6);(try clear hk);(try clear hi);obtain⟨φ,a7,ρ,ab,ac,ae,ai,fp,fq,fr,a8,a9,aa,au,aw,ax,bg,fu,fv,fw⟩:=Zl B.out)|(go_at_call 86;(with_reducible refine(door_within.calls J 2 64 true _ A4.out).mono ?_);rintro e w' ⟨rfl,⟨nd,rfl⟩⟩)|(go_at_call 86;(with_reducible refine(door_within.calls η 1 300 true _ A6.out).mono ?_);rintro e w' ⟨rfl,⟨nd,rfl⟩⟩)|(go_at_call 86;(with_reducible refine(door_within.calls ζ 0 60 ε _ A8.out).mono ?_);rintro e w' ⟨rfl,⟨nd,rfl⟩⟩))
    go_ret
    exact⟨by first|rfl|(simp[Qk,Qj] <;> rfl)|(simp[*,Qk,Qj] <;> rfl),bel⟩
   ·replace c7:=Bool.eq_false_iff.mpr c7
    subst c7
    have H1:(some false)=some r:=by rw[if_neg (show ¬ (false=true) by decide)] at H;exact H
    clear H
    have H:=H1
    clear H1
    obtain rfl:=Option.some.inj H
    go_enter Try.func72,Try.ntmps72
    go_wp2_with (first|((with_reducible refine Qf (N:=1) rfl ?_);refine qE 1 #[.int .i64 J,.int .i64 O,.int .i64 X,.int .i64 Y,.int .i64 Z,.int .i64 δ,.int .i64 γ,.int .i64 θ,.int .i64 η,.int .i64 ζ] 25 ?_;intro ν hg ch hbox hb;have B:=Aside0.mk hbox;have ξ :=sGe hg;have σ:=sGe hg;replace HB:=sHb hb;clear hb hbox hg;obtain⟨cz,d5,e5,e6,e7,eb,ed,ev,ij,ik,d6,dd,ee,ef,eg,eh,ei,f7,il,im⟩:=Zl B.out)|((with_reducible refine Qp (f:=70) rfl ?_);refine Q4 (some 5) rfl rfl Try.func70 kr rfl #[.agg #[.int .i64 O,.int .i64 X,.int .i64 Y,.int .i64 Z,.int .i64 δ,.int .i64 γ,.int .i64 θ]] rfl qM ?_;(with_reducible refine(door_times.calls k O X Y Z δ γ θ true _ A2.out).mono ?_);rintro e kp ⟨rfl,hb⟩;refine⟨_,rfl, ?_⟩;replace B:=sBk B hb;replace HB:=sHb hb;(try clear hb);(try clear a6);(try clear hk);(try clear hi);obtain⟨db,dc,bl,cy,d0,d1,d2,d7,bj,bk,dn,e8,br,d8,d9,da,de,dp,dq,fn⟩:=Zl B.out)|(go_at_call 86;(with_reducible refine(door_within.calls J 2 64 true _ A4.out).mono ?_);rintro e w' ⟨rfl,⟨nd,rfl⟩⟩)|(go_at_call 86;(with_reducible refine(door_within.calls η 1 300 false _ A6.out).mono ?_);rintro e w' ⟨rfl,⟨nd,rfl⟩⟩))
    go_ret
    exact⟨by first|rfl|(simp[Qk,Qj] <;> rfl)|(simp[*,Qk,Qj] <;> rfl),bel⟩
  ·replace c5:=Bool.eq_false_iff.mpr c5
   subst c5
   have H1:(some false)=some r:=by rw[if_neg (show ¬ (false=true) by decide)] at H;exact H
   clear H
   have H:=H1
   clear H1
   obtain rfl:=Option.some.inj H
   go_enter Try.func72,Try.ntmps72
   go_wp2_with (first|((with_reducible refine Qf (N:=1) rfl ?_);refine qE 1 #[.int .i64 J,.int .i64 O,.int .i64 X,.int .i64 Y,.int .i64 Z,.int .i64 δ,.int .i64 γ,.int .i64 θ,.int .i64 η,.int .i64 ζ] 25 ?_;intro ν hg d3 hbox hb;have B:=Aside0.mk hbox;have ξ :=sGe hg;have σ:=sGe hg;replace HB:=sHb hb;clear hb hbox hg;obtain⟨ci,cj,ba,az,b1,b2,bn,τ,χ,ψ,ck,co,dm,bo,bp,bq,cn,ω,a0,a1⟩:=Zl B.out)|((with_reducible refine Qp (f:=70) rfl ?_);refine Q4 (some 5) rfl rfl Try.func70 kr rfl #[.agg #[.int .i64 O,.int .i64 X,.int .i64 Y,.int .i64 Z,.int .i64 δ,.int .i64 γ,.int .i64 θ]] rfl qM ?_;(with_reducible refine(door_times.calls k O X Y Z δ γ θ true _ A2.out).mono ?_);rintro e bc ⟨rfl,hb⟩;refine⟨_,rfl, ?_⟩;replace B:=sBk B hb;replace HB:=sHb hb;(try clear hb);(try clear a6);(try clear hk);(try clear hi);obtain⟨af,al,bh,ej,ft,gn,gp,he,ix,iy,ar,av,bi,gy,h6,h7,h8,iz,j3,j7⟩:=Zl B.out)|(go_at_call 86;(with_reducible refine(door_within.calls J 2 64 false _ A4.out).mono ?_);rintro e w' ⟨rfl,⟨nd,rfl⟩⟩))
   go_ret
   exact⟨by first|rfl|(simp[Qk,Qj] <;> rfl)|(simp[*,Qk,Qj] <;> rfl),bel⟩
 ·replace c3:=Bool.eq_false_iff.mpr c3
  subst c3
  have H1:(some false)=some r:=by rw[if_neg (show ¬ (false=true) by decide)] at H;exact H
  clear H
  have H:=H1
  clear H1
  obtain rfl:=Option.some.inj H
  go_enter Try.func72,Try.ntmps72
  go_wp2_with (first|((with_reducible refine Qf (N:=1) rfl ?_);refine qE 1 #[.int .i64 J,.int .i64 O,.int .i64 X,.int .i64 Y,.int .i64 Z,.int .i64 δ,.int .i64 γ,.int .i64 θ,.int .i64 η,.int .i64 ζ] 25 ?_;intro ν hg bs hbox hb;have B:=Aside0.mk hbox;have ξ :=sGe hg;have σ:=sGe hg;replace HB:=sHb hb;clear hb hbox hg;obtain⟨bz,ca,dh,dl,ea,ek,el,gk,gl,gm,cb,cd,di,em,en,fg,fh,h0,h4,hj⟩:=Zl B.out)|((with_reducible refine Qp (f:=70) rfl ?_);refine Q4 (some 5) rfl rfl Try.func70 kr rfl #[.agg #[.int .i64 O,.int .i64 X,.int .i64 Y,.int .i64 Z,.int .i64 δ,.int .i64 γ,.int .i64 θ]] rfl qM ?_;(with_reducible refine(door_times.calls k O X Y Z δ γ θ false _ A2.out).mono ?_);rintro e bm ⟨rfl,hb⟩;refine⟨_,rfl, ?_⟩;replace B:=sBk B hb;replace HB:=sHb hb;(try clear hb);(try clear a6);(try clear hk);(try clear hi)))
  go_ret
  exact⟨rfl,HB.out⟩
def door_on.f (J:Int) (O:Int) (X:Int) (Y:Int) (a2:Int):Option (Int×Int×Int):=if (wrap64 (O-1))=0 then (some (Y,a2,X)) else (some (J,wrap64 (O-1),X))
def car_within.f (J:Int) (Y:Int) (a2:Int):Option (Bool):=if Y≤J then (some (decide (J≤a2))) else (some false)
set_option maxHeartbeats 8000000 in
set_option maxRecDepth 100000 in
theorem car_within.calls (J:Int) (Y:Int) (a2:Int) (r:Bool) (w:World) (h:car_within.f J Y a2=some r):
  Calls Try.prog 85 #[.int .i64 J,.int .i64 Y,.int .i64 a2] w fun e w'=>e = .returned (.bool r)∧Drawn0 w w':=by
 have H:(if Y≤J then (some (decide (J≤a2))) else (some false))=some r:=h
 clear h
 by_cases c4:Y≤J
 ·rw[if_pos c4] at H
  have c4b0:decide (Y≤J)=true:=decide_eq_true c4
  clear c4
  obtain rfl:=Option.some.inj H
  go_enter Try.func85,Try.ntmps85
  go_wp2
  go_ret
  exact⟨qR,by repeat(first|exact Drawn0.refl _|apply Drawn0.step)⟩
 ·rw[if_neg c4] at H
  have c4b0:decide (Y≤J)=false:=decide_eq_false c4
  clear c4
  obtain rfl:=Option.some.inj H
  go_enter Try.func85,Try.ntmps85
  go_wp2
  go_ret
  exact⟨qR,by repeat(first|exact Drawn0.refl _|apply Drawn0.step)⟩
def group_dist.f (J:Int) (Y:Int):Option (Int):=some (mx (wrap64 (J-Y)) (wrap64 (Y-J)))
set_option maxHeartbeats 8000000 in
set_option maxRecDepth 100000 in
theorem group_dist.calls (J:Int) (Y:Int) (r:Int) (w:World) (h:group_dist.f J Y=some r):
  Calls Try.prog 76 #[.int .i64 J,.int .i64 Y] w fun e w'=>e = .returned (.int .i64 r)∧Below w.heap.size w w':=by
 have HB:=Aside0.mk (Below.refl w.heap.size w)
 have H:(some (mx (wrap64 (J-Y)) (wrap64 (Y-J))))=some r:=h
 clear h
 obtain⟨O,B⟩:∃ j_:Int,(mx (wrap64 (J-Y)) (wrap64 (Y-J)))=j_:=⟨_,rfl⟩
 replace H:(some O)=some r:=by first|(rw[B] at H;exact H)|(simp only[B] at H ⊢;exact H)
 have X:(if (wrap64 (J-Y))<(wrap64 (Y-J)) then (wrap64 (Y-J)) else (wrap64 (J-Y)))=O:=B
 obtain rfl:=Option.some.inj H
 go_enter Try.func76,Try.ntmps76
 go_wp2
 go_ret
 exact⟨by first|rfl|(simp[Qk,Qj] <;> rfl)|(simp only[← B];first|rfl|(simp[Qk,Qj] <;> rfl))|(simp[*,Qk,Qj] <;> rfl),by repeat(first|(with_reducible first|exact HB.out|apply Qu|apply Qi|apply Qg)|exact HB.out)⟩
mutual
def group_way.j0:Nat→Int→Int→Int→Int→Int→Int→Int→Int→Int→Int→Int→Bool→Bool→Int→Int→Int→Option (Int)
 |0,_,_,_,_,_,_,_,_,_,_,_,_,_,_,_,_=>none
 |k+1,x7,x8,x9,X,Y,Z,γ,δ,ε,ζ,B,η,θ,J,O,ι =>if B=0 then (group_way.j1 k x7 x8 x9 true X Y Z γ δ ε ζ B η θ J O ι) else (if B=O then (group_way.j1 k x7 x8 x9 (decide ((wrap64 ((wrap64 (J-x7)) * B))≥0)) X Y Z γ δ ε ζ B η θ J O ι) else (group_way.j1 k x7 x8 x9 false X Y Z γ δ ε ζ B η θ J O ι))
def group_way.j1:Nat→Int→Int→Int→Bool→Int→Int→Int→Int→Int→Int→Int→Int→Bool→Bool→Int→Int→Int→Option (Int)
 |0,_,_,_,_,_,_,_,_,_,_,_,_,_,_,_,_,_=>none
 |k+1,x7,x8,x9,κ,X,Y,Z,γ,δ,ε,ζ,B,η,θ,J,O,ι =>if κ = true then ((group_dist.f x7 J).bind fun a7=>(some a7)) else (if B=O then ((group_dist.f x7 x8).bind fun σ=>((group_dist.f x8 x9).bind fun ρ=>((group_dist.f x9 J).bind fun ξ =>(some (wrap64 ((wrap64 (σ+ρ)) + ξ)))))) else ((group_dist.f x7 x8).bind fun a5=>((group_dist.f x8 J).bind fun φ =>(some (wrap64 (a5 + φ))))))
end
def group_way.f (k:Nat) (J:Int) (ι :Int) (ε :Int) (κ :Int) (ν :Int) (B:Int) (τ :Int) (χ :Int) (ψ :Int) (ω :Bool) (a1:Bool) (Y:Int) (ζ :Int) (μ :Int):Option (Int):=if ψ > 0 then (group_way.j0 k (wrap64 (ι + ε)) (wrap64 (J-1)) 0 ι ε κ ν B τ χ ψ ω a1 Y ζ μ) else (group_way.j0 k (wrap64 (ι + ε)) 0 (wrap64 (J-1)) ι ε κ ν B τ χ ψ ω a1 Y ζ μ)
theorem group_way.Zo:∀ k,(∀ O X Y J Z y5 y6 y7 y8 y9 γ δ ζ η θ ι,LeO (group_way.j0 k O X Y J Z y5 y6 y7 y8 y9 γ δ ζ η θ ι) (group_way.j0 (k+1) O X Y J Z y5 y6 y7 y8 y9 γ δ ζ η θ ι))∧(∀ O X Y J Z y5 y6 y7 y8 y9 γ δ ζ η θ ι κ,LeO (group_way.j1 k O X Y J Z y5 y6 y7 y8 y9 γ δ ζ η θ ι κ) (group_way.j1 (k+1) O X Y J Z y5 y6 y7 y8 y9 γ δ ζ η θ ι κ))
 |0=>⟨fun _ _ _ _ _ _ _ _ _ _ _ _ _ _ _ _ r h=>by simp[group_way.j0] at h,fun _ _ _ _ _ _ _ _ _ _ _ _ _ _ _ _ _ r h=>by simp[group_way.j1] at h⟩
 |k+1=>by
  obtain⟨B,ε⟩:=group_way.Zo k
  refine⟨?_, ?_⟩
  ·intro O X Y J Z y5 y6 y7 y8 y9 γ δ ζ η θ ι
   unfold group_way.j0
   repeat' first
   |(with_reducible exact B _ _ _ _ _ _ _ _ _ _ _ _ _ _ _ _)
   |(with_reducible exact ε _ _ _ _ _ _ _ _ _ _ _ _ _ _ _ _ _)
   |(with_reducible exact LeO.refl _)
   |(with_reducible exact LeO.none _)
   |(with_reducible refine LeO.ite ?_ ?_)
   |(with_reducible refine LeO.bind ?_ (fun _=>?_))
   |exact B _ _ _ _ _ _ _ _ _ _ _ _ _ _ _ _
   |exact ε _ _ _ _ _ _ _ _ _ _ _ _ _ _ _ _ _
   |exact LeO.none _
   |refine LeO.ite ?_ ?_
   |refine LeO.bind ?_ (fun _=>?_)
  ·intro O X Y J Z y5 y6 y7 y8 y9 γ δ ζ η θ ι κ
   unfold group_way.j1
   repeat' first
   |(with_reducible exact B _ _ _ _ _ _ _ _ _ _ _ _ _ _ _ _)
   |(with_reducible exact ε _ _ _ _ _ _ _ _ _ _ _ _ _ _ _ _ _)
   |(with_reducible exact LeO.refl _)
   |(with_reducible exact LeO.none _)
   |(with_reducible refine LeO.ite ?_ ?_)
   |(with_reducible refine LeO.bind ?_ (fun _=>?_))
   |exact B _ _ _ _ _ _ _ _ _ _ _ _ _ _ _ _
   |exact ε _ _ _ _ _ _ _ _ _ _ _ _ _ _ _ _ _
   |exact LeO.none _
   |refine LeO.ite ?_ ?_
   |refine LeO.bind ?_ (fun _=>?_)
theorem group_way.mono:∀ J Y a2 a3 O a5 X a7 a8 a9 Z γ δ ζ k,LeO (group_way.f k J Y a2 a3 O a5 X a7 a8 a9 Z γ δ ζ) (group_way.f (k+1) J Y a2 a3 O a5 X a7 a8 a9 Z γ δ ζ):=by
 intro J Y a2 a3 O a5 X a7 a8 a9 Z γ δ ζ k
 obtain⟨B,ε⟩:=group_way.Zo k
 unfold group_way.f
 repeat' first
   |(with_reducible exact B _ _ _ _ _ _ _ _ _ _ _ _ _ _ _ _)
   |(with_reducible exact ε _ _ _ _ _ _ _ _ _ _ _ _ _ _ _ _ _)
   |(with_reducible exact LeO.refl _)
   |(with_reducible exact LeO.none _)
   |(with_reducible refine LeO.ite ?_ ?_)
   |(with_reducible refine LeO.bind ?_ (fun _=>?_))
   |exact B _ _ _ _ _ _ _ _ _ _ _ _ _ _ _ _
   |exact ε _ _ _ _ _ _ _ _ _ _ _ _ _ _ _ _ _
   |exact LeO.none _
   |refine LeO.ite ?_ ?_
   |refine LeO.bind ?_ (fun _=>?_)
def group_way.T7:Bool×List (List Nat×List Nat):=(true,[([],[]),([],[]),([0,1],[0,1]),([],[]),([],[]),([4],[4]),([3,5,2],[3,5]),([2,6],[2,6]),([7,6,0,1,2,3,4,5,6,7],[7])])
def group_way.B7:List Nat:=[0,0,3,0,0,16,63,127,255]
theorem group_way.tab7:rtab .any (opsOf Try.f52 7)=group_way.T7:=by kernel_rfl
theorem group_way.bits7:Zq group_way.T7.2 group_way.B7=true:=by kernel_rfl
def group_way.T8:Bool×List (List Nat×List Nat):=(true,[([],[]),([],[]),([0,1],[0,1]),([],[]),([],[]),([3,4,2],[3,4]),([2,5],[2,5]),([],[]),([],[]),([8],[8]),([7,9,5],[7,9]),([6,10],[6,10]),([11,10,0,1,2,3,4,5,6,7,8,9,10,11],[11])])
def group_way.B8:List Nat:=[0,0,3,0,0,31,63,0,0,256,959,2047,4095]
theorem group_way.Ea:rtab .any (opsOf Try.f52 8)=group_way.T8:=by kernel_rfl
theorem group_way.Lj:Zq group_way.T8.2 group_way.B8=true:=by kernel_rfl
set_option maxHeartbeats 8000000 in
set_option maxRecDepth 100000 in
theorem group_way.calls (k:Nat) (J:Int) (ι :Int) (ε :Int) (κ :Int) (ν :Int) (B:Int) (τ :Int) (χ :Int) (ψ :Int) (ω :Bool) (a1:Bool) (Y:Int) (ζ :Int) (μ :Int) (r:Int) (w:World) (h:group_way.f k J ι ε κ ν B τ χ ψ ω a1 Y ζ μ = some r):
  Calls Try.prog 52 #[.int .i64 J,.agg #[.int .i64 ι,.int .i64 ε,.int .i64 κ,.int .i64 ν,.int .i64 B,.int .i64 τ,.int .i64 χ,.int .i64 ψ,.bool ω,.bool a1],.agg #[.int .i64 Y,.int .i64 ζ,.int .i64 μ]] w fun e w'=>e = .returned (.int .i64 r)∧Below w.heap.size w w':=by
 have fo:=Try.underlying31
 have dm:=Try.underlying36
 have HB:=Aside0.mk (Below.refl w.heap.size w)
 have H:(if ψ > 0 then (group_way.j0 k (wrap64 (ι + ε)) (wrap64 (J-1)) 0 ι ε κ ν B τ χ ψ ω a1 Y ζ μ) else (group_way.j0 k (wrap64 (ι + ε)) 0 (wrap64 (J-1)) ι ε κ ν B τ χ ψ ω a1 Y ζ μ))=some r:=h
 clear h
 have bw:=Aside0.mk H
 clear H
 go_enter Try.func52,Try.ntmps52
 go_upto_if 21 with(first|((with_reducible refine Qf (N:=4) rfl ?_);refine qE 4 #[.int .i64 ι,.int .i64 ε,.int .i64 κ,.int .i64 ν,.int .i64 B,.int .i64 τ,.int .i64 χ,.int .i64 ψ,.bool ω,.bool a1] 31 ?_;intro b3 hg w5 hbox hb;have X:=Aside0.mk hbox;have dw:=sGe hg;have dx:=sGe hg;replace HB:=sHb hb;clear hb hbox hg)|((with_reducible refine Qf (N:=5) rfl ?_);refine qE 5 #[.int .i64 Y,.int .i64 ζ,.int .i64 μ] 36 ?_;intro θ hg w6 hbox hb;have O:=Aside0.mk hbox;have e0:=sGe hg;have e3:=sGe hg;have γ:=sNl X hg;have δ :=sNg X hg;replace X:=sBk X hb;replace HB:=sHb hb;clear hb hbox hg;have e6:=γ.out;have e7:= δ.out;obtain⟨df,dh,di,ed,ee,ef,eg,eh,ei,ej,dj,dk,dl,ek,el,em,en,eo,ep,er⟩:=Zl X.out))
 (try simp only[Act.put,qS])
 go_cut [8,9] (fun v8 v9 wc=>∃ (kq:Nat) (Z:Int) (η :Int),v8 = .int .i64 Z∧v9 = .int .i64 η ∧ Aside0 (group_way.j0 kq (wrap64 (ι + ε)) Z η ι ε κ ν B τ χ ψ ω a1 Y ζ μ = some r)∧Aside0 (kq≤k)∧Aside0 (wc.heap[b3]?=some (.cells #[.int .i64 ι,.int .i64 ε,.int .i64 κ,.int .i64 ν,.int .i64 B,.int .i64 τ,.int .i64 χ,.int .i64 ψ,.bool ω,.bool a1] 31 (0,0)))∧Aside0 (wc.heap[θ]?=some (.cells #[.int .i64 Y,.int .i64 ζ,.int .i64 μ] 36 (0,0)))∧Aside0 (Below w.heap.size w wc))
 case first=>
  have H:=bw.out
  clear bw
  by_cases c9: ψ > 0
  ·rw[if_pos c9] at H
   have c9b0:decide (0 < ψ)=true:=decide_eq_true c9
   clear c9
   (first|rw[c9b0]|(simp only[Xe,Xh];rw[c9b0])|skip)
   have H':=Aside0.mk H
   clear H
   go_wp2
   go_meet
   case rel=>exact⟨_,(wrap64 (J-1)),(0),rfl,rfl,H',⟨by first|omega|exact Nat.le_refl _⟩,X,O,HB⟩
  ·rw[if_neg c9] at H
   have c9b0:decide (0 < ψ)=false:=decide_eq_false c9
   clear c9
   (first|rw[c9b0]|(simp only[Xe,Xh];rw[c9b0])|skip)
   have H':=Aside0.mk H
   clear H
   go_wp2
   go_meet
   case rel=>exact⟨_,(0),(wrap64 (J-1)),rfl,rfl,H',⟨by first|omega|exact Nat.le_refl _⟩,X,O,HB⟩
 case rest=>
  clear bw
  try clear p2
  try clear c5
  try clear p6
  try clear c7
  try clear c9
  try clear c9b0
  try clear df
  try clear dh
  try clear di
  try clear ed
  try clear ee
  try clear ef
  try clear eg
  try clear eh
  try clear ei
  try clear ej
  try clear dj
  try clear dk
  try clear dl
  try clear ek
  try clear el
  try clear em
  try clear en
  try clear eo
  try clear ep
  try clear er
  obtain⟨kq,Z,η,rfl,rfl,HA,cd,X,O,HB⟩:=hcut
  cases kq with
  |zero=>exact absurd HA.out (by simp[group_way.j0])
  |succ cz=>
   have H:=HA.out
   clear HA
   simp only[group_way.j0] at H
   have a9:=Aside0.mk H
   clear H
   go_upto_region 4 with(fail)
   go_cut [24] (fun cu wc=>∃ (kq:Nat) (a8:Bool),cu = .bool a8∧Aside0 (group_way.j1 kq (wrap64 (ι + ε)) Z η a8 ι ε κ ν B τ χ ψ ω a1 Y ζ μ = some r)∧Aside0 (kq≤cz)∧Aside0 (wc.heap[b3]?=some (.cells #[.int .i64 ι,.int .i64 ε,.int .i64 κ,.int .i64 ν,.int .i64 B,.int .i64 τ,.int .i64 χ,.int .i64 ψ,.bool ω,.bool a1] 31 (0,0)))∧Aside0 (wc.heap[θ]?=some (.cells #[.int .i64 Y,.int .i64 ζ,.int .i64 μ] 36 (0,0)))∧Aside0 (Below w.heap.size w wc))
   case first=>
    have H:=a9.out
    clear a9
    by_cases ah: ψ = 0
    ·rw[if_pos ah] at H
     have c11b0:(ψ == 0)=true:=beq_iff_eq.mpr ah
     have c11b1:(ψ != 0)=false:=bne_eq_false_iff_eq.mpr ah
     clear ah
     (first|rw[c11b0]|(simp only[Xe,Xh];rw[c11b0])|skip)
     have H':=Aside0.mk H
     clear H
     have gl:=γ.out
     have gm:= δ.out
     obtain⟨ab,au,a3,aa,bg,bm,bu,aw,bf,ci,ac,ax,a4,bv,ce,cf,cg,bs,cj,cp⟩:=Zl X.out
     go_wp2
     go_meet
     case rel=>exact⟨_,(true),rfl,H',⟨by have:=cd.out;omega⟩,X,O,HB⟩
    ·rw[if_neg ah] at H
     have c11b0:(ψ == 0)=false:=beq_eq_false_iff_ne.mpr ah
     have c11b1:(ψ != 0)=true:=bne_iff_ne.mpr ah
     (first|rw[c11b0]|(simp only[Xe,Xh];rw[c11b0])|skip)
     by_cases ag: ψ = ζ
     ·rw[if_pos ag] at H
      have c14b0:(ψ == ζ)=true:=beq_iff_eq.mpr ag
      have c14b1:(ψ != ζ)=false:=bne_eq_false_iff_eq.mpr ag
      clear ag
      have H':=Aside0.mk H
      clear H
      have gn:=γ.out
      have gp:= δ.out
      obtain⟨db,dc,bl,cy,d0,d1,d2,d7,bj,bk,dn,e8,br,d8,d9,da,de,dp,dq,fn⟩:=Zl X.out
      obtain⟨ay,az,bz,b1,b2,ca⟩:=qD3 O.out
      go_wp2
      go_meet
      case rel=>exact⟨_,(decide ((wrap64 ((wrap64 (Y - (wrap64 (ι + ε)))) * ψ))≥0)),rfl,H',⟨by have:=cd.out;omega⟩,X,O,HB⟩
     ·rw[if_neg ag] at H
      have c14b0:(ψ == ζ)=false:=beq_eq_false_iff_ne.mpr ag
      have c14b1:(ψ != ζ)=true:=bne_iff_ne.mpr ag
      have H':=Aside0.mk H
      clear H
      have d5:=γ.out
      have ev:= δ.out
      obtain⟨aj,ak,ao,b5,b6,b7,b8,ck,co,e9,am,an,ap,b9,bb,bc,bd,et,eu,ez⟩:=Zl X.out
      obtain⟨af,al,bh,ar,av,bi⟩:=qD3 O.out
      go_wp2
      go_meet
      case rel=>exact⟨_,(false),rfl,H',⟨by have:=cd.out;omega⟩,X,O,HB⟩
   case rest=>
    clear a9
    try clear c1
    try clear p2
    try clear c5
    try clear p6
    try clear c7
    try clear c9
    try clear c9b0
    try clear ah
    try clear c11b0
    try clear c11b1
    try clear ai
    try clear ag
    try clear c14b0
    try clear c14b1
    try clear b4
    try clear be
    try clear ab
    try clear au
    try clear a3
    try clear aa
    try clear bg
    try clear bm
    try clear bu
    try clear aw
    try clear bf
    try clear ci
    try clear db
    try clear dc
    try clear bl
    try clear cy
    try clear d0
    try clear d1
    try clear d2
    try clear d7
    try clear bj
    try clear bk
    try clear ay
    try clear az
    try clear bz
    try clear aj
    try clear ak
    try clear ao
    try clear b5
    try clear b6
    try clear b7
    try clear b8
    try clear ck
    try clear co
    try clear e9
    try clear af
    try clear al
    try clear bh
    try clear df
    try clear dh
    try clear di
    try clear ed
    try clear ee
    try clear ef
    try clear eg
    try clear eh
    try clear ei
    try clear ej
    try clear ac
    try clear ax
    try clear a4
    try clear bv
    try clear ce
    try clear cf
    try clear cg
    try clear bs
    try clear cj
    try clear cp
    try clear dn
    try clear e8
    try clear br
    try clear d8
    try clear d9
    try clear da
    try clear de
    try clear dp
    try clear dq
    try clear fn
    try clear b1
    try clear b2
    try clear ca
    try clear am
    try clear an
    try clear ap
    try clear b9
    try clear bb
    try clear bc
    try clear bd
    try clear et
    try clear eu
    try clear ez
    try clear ar
    try clear av
    try clear bi
    try clear dj
    try clear dk
    try clear dl
    try clear ek
    try clear el
    try clear em
    try clear en
    try clear eo
    try clear ep
    try clear er
    try clear p2
    try clear p6
    obtain⟨kq,a8,rfl,HA,ec,X,O,HB⟩:=hcut
    cases kq with
    |zero=>exact absurd HA.out (by simp[group_way.j1])
    |succ ew=>
     have H:=HA.out
     clear HA
     simp only[group_way.j1] at H
     by_cases ba:a8=true
     ·subst ba
      have H1:((group_dist.f (wrap64 (ι + ε)) Y).bind fun a7=>(some a7))=some r:=by rw[if_pos rfl] at H;exact H
      clear H
      have H:=H1
      clear H1
      replace H:=Option.bind_eq_some_iff.mp H
      obtain⟨a7,cq,H⟩:=H
      replace H:(some a7)=some r:=H
      have cv:=Aside0.mk cq
      clear cq
      obtain rfl:=Option.some.inj H
      have lb:= δ.out
      have lc:=γ.out
      obtain⟨bn,bo,cm,bp,bq,cn⟩:=qD3 O.out
      go_wp2_with (first|((with_reducible refine Qp (f:=76) rfl ?_);refine Q4 (some 48) rfl rfl Try.func76 kr rfl #[.int .i64 (wrap64 (ι + ε)),.int .i64 Y] rfl qM ?_;(with_reducible refine(group_dist.calls (wrap64 (ι + ε)) Y a7 _ cv.out).mono ?_);rintro e ea ⟨rfl,hb⟩;refine⟨_,rfl, ?_⟩;replace X:=sBk X hb;replace O:=sBk O hb;replace HB:=sHb hb;(try clear hb);(try clear a6);(try clear hk);(try clear hi)))
      go_ret
      exact⟨rfl,HB.out⟩
     ·replace ba:=Bool.eq_false_iff.mpr ba
      subst ba
      have H1:(if ψ = ζ then ((group_dist.f (wrap64 (ι + ε)) Z).bind fun σ=>((group_dist.f Z η).bind fun ρ=>((group_dist.f η Y).bind fun ξ =>(some (wrap64 ((wrap64 (σ+ρ)) + ξ)))))) else ((group_dist.f (wrap64 (ι + ε)) Z).bind fun a5=>((group_dist.f Z Y).bind fun φ =>(some (wrap64 (a5 + φ))))))=some r:=by rw[if_neg (show ¬ (false=true) by decide)] at H;exact H
      clear H
      have H:=H1
      clear H1
      by_cases ae: ψ = ζ
      ·rw[if_pos ae] at H
       have c26b0:(ψ == ζ)=true:=beq_iff_eq.mpr ae
       have c26b1:(ψ != ζ)=false:=bne_eq_false_iff_eq.mpr ae
       clear ae
       replace H:=Option.bind_eq_some_iff.mp H
       obtain⟨σ,cr,H⟩:=H
       replace H:((group_dist.f Z η).bind fun ρ=>((group_dist.f η Y).bind fun ξ =>(some (wrap64 ((wrap64 (σ+ρ)) + ξ)))))=some r:=H
       have d4:=Aside0.mk cr
       clear cr
       replace H:=Option.bind_eq_some_iff.mp H
       obtain⟨ρ,b0,H⟩:=H
       replace H:((group_dist.f η Y).bind fun ξ =>(some (wrap64 ((wrap64 (σ+ρ)) + ξ))))=some r:=H
       have eb:=Aside0.mk b0
       clear b0
       replace H:=Option.bind_eq_some_iff.mp H
       obtain⟨ξ,cb,H⟩:=H
       replace H:(some (wrap64 ((wrap64 (σ+ρ)) + ξ)))=some r:=H
       have d3:=Aside0.mk cb
       clear cb
       obtain rfl:=Option.some.inj H
       have e4:=γ.out
       have e5:= δ.out
       obtain⟨f7,fu,fv,ey,ga,gb,ge,i5,i6,i7,fw,fx,fy,gf,gh,gi,gj,i9,ia,ib⟩:=Zl X.out
       obtain⟨fi,fz,gs,gt,gu,gv⟩:=qD3 O.out
       try go_wp2
       replace X:=Aside0.mk (Qe X.out)
       replace O:=Aside0.mk (Qe O.out)
       replace HB:=Aside0.mk (Qg HB.out)
       refine Zh (n:=13) (S:=fun w'=>w'.cell? ⟨θ,0,none⟩=some (.int .i64 Y)∧w'.cell? ⟨θ,1,none⟩=some (.int .i64 ζ)∧w'.cell? ⟨θ,2,none⟩=some (.int .i64 μ)) (ds:=[]) #[false,false,false,false,false,false,false,false,false,false,false,false,false] kr rfl rfl ⟨(Qa O.out 0).trans rfl,(Qa O.out 1).trans rfl,(Qa O.out 2).trans rfl⟩ (fun hHeld=>?_);refine Q8 group_way.Ea group_way.Lj (fun HT_ HW_=>?_)
       generalize wc.drew=fa at X O HB hHeld ⊢
       refine qP 0 (some 63) (bN 13 1) HT_ ?_
       refine qP 1 (some 64) (bN 13 3) HT_ ?_
       refine qP 3 (some 66) (bN 13 11) HT_ ?_
       refine qP 4 (some 67) (bN 13 27) HT_ ?_
       refine qP 7 (some 70) (bN 13 155) HT_ ?_
       refine qP 8 (some 71) (bN 13 411) HT_ ?_
       refine qT 9 (some 72) (bN 13 923) HT_ HW_ hHeld ?_
       refine qK 2 (some 65) (bN 13 927) HT_ fun K hK=>?_
       refine Q9 Try.func76 kr rfl #[.int .i64 (wrap64 (ι + ε)),.int .i64 Z] (by rfl) rfl rfl qM ?_
       with_reducible refine(group_dist.calls (wrap64 (ι + ε)) Z σ _ d4.out).mono ?_
       rintro e kc ⟨rfl,hb⟩
       refine⟨_,rfl, ?_⟩
       replace X:=sBk X hb
       replace O:=sBk O hb
       replace HB:=sHb hb
       (try clear hb)
       (try clear a6)
       (try clear hk)
       (try clear hi)
       refine hK.out _ _ ⟨qc O,qc O,qc O⟩ (fun hHeld=>?_)
       clear hK K
       refine qN (some 65) ?_
       refine qK 5 (some 68) (bN 13 959) HT_ fun K hK=>?_
       refine Q9 Try.func76 kr rfl #[.int .i64 Z,.int .i64 η] (by rfl) rfl rfl qM ?_
       with_reducible refine(group_dist.calls Z η ρ _ eb.out).mono ?_
       rintro e j8 ⟨rfl,hb⟩
       refine⟨_,rfl, ?_⟩
       replace X:=sBk X hb
       replace O:=sBk O hb
       replace HB:=sHb hb
       (try clear hb)
       (try clear a6)
       (try clear hk)
       (try clear hi)
       refine hK.out _ _ ⟨qc O,qc O,qc O⟩ (fun hHeld=>?_)
       clear hK K
       refine qN (some 68) ?_
       refine qP 6 (some 69) (bN 13 1023) HT_ ?_
       refine qK 10 (some 73) (bN 13 2047) HT_ fun K hK=>?_
       refine Q9 Try.func76 kr rfl #[.int .i64 η,.int .i64 Y] (by rfl) rfl rfl qM ?_
       with_reducible refine(group_dist.calls η Y ξ _ d3.out).mono ?_
       rintro e gq ⟨rfl,hb⟩
       refine⟨_,rfl, ?_⟩
       replace X:=sBk X hb
       replace O:=sBk O hb
       replace HB:=sHb hb
       (try clear hb)
       (try clear a6)
       (try clear hk)
       (try clear hi)
       refine hK.out _ _ ⟨qc O,qc O,qc O⟩ (fun hHeld=>?_)
       clear hK K
       refine qN (some 73) ?_
       refine qP 11 (some 74) (bN 13 4095) HT_ ?_
       refine qP 12 (some 6) (bN 13 8191) HT_ ?_
       refine Z2 (Zf HT_.out kr) ?_
       try go_wp2
       go_ret
       exact⟨rfl,HB.out⟩
      ·rw[if_neg ae] at H
       have c26b0:(ψ == ζ)=false:=beq_eq_false_iff_ne.mpr ae
       have c26b1:(ψ != ζ)=true:=bne_iff_ne.mpr ae
       replace H:=Option.bind_eq_some_iff.mp H
       obtain⟨a5,ct,H⟩:=H
       replace H:((group_dist.f Z Y).bind fun φ =>(some (wrap64 (a5 + φ))))=some r:=H
       have dd:=Aside0.mk ct
       clear ct
       replace H:=Option.bind_eq_some_iff.mp H
       obtain⟨φ,ch,H⟩:=H
       replace H:(some (wrap64 (a5 + φ)))=some r:=H
       have d6:=Aside0.mk ch
       clear ch
       obtain rfl:=Option.some.inj H
       have cw:=γ.out
       have cx:= δ.out
       obtain⟨fc,fe,ff,fj,fk,fp,fq,fr,ft,gr,gy,h6,h9,ha,he,hh,hj,hl,ho,hu⟩:=Zl X.out
       obtain⟨dr,dt,dy,du,dv,dz⟩:=qD3 O.out
       try go_wp2
       replace X:=Aside0.mk (Qe X.out)
       replace O:=Aside0.mk (Qe O.out)
       replace HB:=Aside0.mk (Qg HB.out)
       refine Zh (n:=9) (S:=fun w'=>w'.cell? ⟨θ,0,none⟩=some (.int .i64 Y)∧w'.cell? ⟨θ,1,none⟩=some (.int .i64 ζ)∧w'.cell? ⟨θ,2,none⟩=some (.int .i64 μ)) (ds:=[]) #[false,false,false,false,false,false,false,false,false] kr rfl rfl ⟨(Qa O.out 0).trans rfl,(Qa O.out 1).trans rfl,(Qa O.out 2).trans rfl⟩ (fun hHeld=>?_);refine Q8 group_way.tab7 group_way.bits7 (fun HT_ HW_=>?_)
       generalize wc.drew=kh at X O HB hHeld ⊢
       refine qP 0 (some 55) (bN 9 1) HT_ ?_
       refine qP 1 (some 56) (bN 9 3) HT_ ?_
       refine qP 3 (some 58) (bN 9 11) HT_ ?_
       refine qP 4 (some 59) (bN 9 27) HT_ ?_
       refine qT 5 (some 60) (bN 9 59) HT_ HW_ hHeld ?_
       refine qK 2 (some 57) (bN 9 63) HT_ fun K hK=>?_
       refine Q9 Try.func76 kr rfl #[.int .i64 (wrap64 (ι + ε)),.int .i64 Z] (by rfl) rfl rfl qM ?_
       with_reducible refine(group_dist.calls (wrap64 (ι + ε)) Z a5 _ dd.out).mono ?_
       rintro e kv ⟨rfl,hb⟩
       refine⟨_,rfl, ?_⟩
       replace X:=sBk X hb
       replace O:=sBk O hb
       replace HB:=sHb hb
       (try clear hb)
       (try clear a6)
       (try clear hk)
       (try clear hi)
       refine hK.out _ _ ⟨qc O,qc O,qc O⟩ (fun hHeld=>?_)
       clear hK K
       refine qN (some 57) ?_
       refine qK 6 (some 61) (bN 9 127) HT_ fun K hK=>?_
       refine Q9 Try.func76 kr rfl #[.int .i64 Z,.int .i64 Y] (by rfl) rfl rfl qM ?_
       with_reducible refine(group_dist.calls Z Y φ _ d6.out).mono ?_
       rintro e fb ⟨rfl,hb⟩
       refine⟨_,rfl, ?_⟩
       replace X:=sBk X hb
       replace O:=sBk O hb
       replace HB:=sHb hb
       (try clear hb)
       (try clear a6)
       (try clear hk)
       (try clear hi)
       refine hK.out _ _ ⟨qc O,qc O,qc O⟩ (fun hHeld=>?_)
       clear hK K
       refine qN (some 61) ?_
       refine qP 7 (some 62) (bN 9 255) HT_ ?_
       refine qP 8 (some 6) (bN 9 511) HT_ ?_
       refine Z2 (Zf HT_.out kr) ?_
       try go_wp2
       go_ret
       exact⟨rfl,HB.out⟩
def collect_rising.l0:Nat→List Int→Int→List Int→Int→Int→Option (Bool)
 |0,_,_,_,_,_=>none
 |k+1,B,J,x7,x8,x9=>if x9<x8 then (if 0≤x9 then (if x9<(x7.length:Int) then (if (rd x7 x9)<0 then (some false) else (if (rd x7 x9)≥J then (some false) else (if x9>0 then (if 0≤(wrap64 (x9-1)) then (if (wrap64 (x9-1))<(B.length:Int) then (if (rd B (wrap64 (x9-1)))≥(rd x7 x9) then (some false) else (collect_rising.l0 k B J x7 x8 (wrap64 (x9+1)))) else (none)) else (none)) else (collect_rising.l0 k B J x7 x8 (wrap64 (x9+1)))))) else (none)) else (none)) else (some true)
def collect_rising.f (k:Nat) (l0:List Int) (Y:Int):Option (Bool):=collect_rising.l0 k l0 Y l0 (l0.length:Int) 0
theorem collect_rising.Zo:∀ k,(∀ O X Y J Z,LeO (collect_rising.l0 k O X Y J Z) (collect_rising.l0 (k+1) O X Y J Z))
 |0=>fun _ _ _ _ _ r h=>by simp[collect_rising.l0] at h
 |k+1=>by
  have B:=collect_rising.Zo k
  ·intro O X Y J Z
   unfold collect_rising.l0
   repeat' first
   |(with_reducible exact B _ _ _ _ _)
   |(with_reducible exact LeO.refl _)
   |(with_reducible exact LeO.none _)
   |(with_reducible refine LeO.ite ?_ ?_)
   |(with_reducible refine LeO.bind ?_ (fun _=>?_))
   |exact B _ _ _ _ _
   |exact LeO.none _
   |refine LeO.ite ?_ ?_
   |refine LeO.bind ?_ (fun _=>?_)
theorem collect_rising.mono:∀ J Y k,LeO (collect_rising.f k J Y) (collect_rising.f (k+1) J Y):=by
 intro J Y k
 have B:=collect_rising.Zo k
 unfold collect_rising.f
 repeat' first
   |(with_reducible exact B _ _ _ _ _)
   |(with_reducible exact LeO.refl _)
   |(with_reducible exact LeO.none _)
   |(with_reducible refine LeO.ite ?_ ?_)
   |(with_reducible refine LeO.bind ?_ (fun _=>?_))
   |exact B _ _ _ _ _
   |exact LeO.none _
   |refine LeO.ite ?_ ?_
   |refine LeO.bind ?_ (fun _=>?_)
set_option maxHeartbeats 8000000 in
set_option maxRecDepth 100000 in
theorem collect_rising.calls (k:Nat) (A0:Option Addr) (c0:Nat) (l0:List Int) (Y:Int) (r:Bool) (w:World) (ζ :Kd.C (Kd.int .i64) w A0 l0.length l0) (Z:l0.length≤c0) (h:collect_rising.f k l0 Y=some r):
  Calls Try.prog 50 #[.slice A0 l0.length c0,.int .i64 Y] w fun e w'=>e = .returned (.bool r)∧Drawn0 w w':=by
 have η :=Aside0.mk ζ
 have ac:=Aside0.mk Z
 clear ζ Z
 have H:(collect_rising.l0 k l0 Y l0 (l0.length:Int) 0)=some r:=h
 clear h
 have H':=Aside0.mk H
 clear H
 go_enter Try.func50,Try.ntmps50
 go_wp2
 go_loopg [9] k (fun kq v9 w'=>∃ (B:Int),v9 = .int .i64 B∧Aside0 (collect_rising.l0 kq l0 Y l0 (l0.length:Int) B=some r)∧Aside0 (kq≤k)∧Drawn0 w w')
 case atStart=>exact⟨(0),rfl,H',⟨Nat.le_refl _⟩,by repeat(first|exact Drawn0.refl _|apply Drawn0.step)⟩
 case round=>
  clear H'
  try clear p2
  obtain⟨B,rfl,HA,ao,⟨m1,rfl⟩⟩:=hrel
  cases gk with
  |zero=>exact absurd HA.out (by simp[collect_rising.l0])
  |succ k1=>
   have H:=HA.out
   clear HA
   simp only[collect_rising.l0] at H
   by_cases c3:B<(l0.length:Int)
   ·rw[if_pos c3] at H
    have c3b0:decide (B<(l0.length:Int))=true:=decide_eq_true c3
    clear c3
    by_cases c4:0≤B
    ·rw[if_pos c4] at H
     have c4b0:decide (0≤B)=true:=decide_eq_true c4
     clear c4
     by_cases c5:B<(l0.length:Int)
     ·rw[if_pos c5] at H
      have c5b0:decide (B<(l0.length:Int))=true:=decide_eq_true c5
      clear c5
      by_cases c6:(rd l0 B)<0
      ·rw[if_pos c6] at H
       have c6b0:decide ((rd l0 B)<0)=true:=decide_eq_true c6
       clear c6
       obtain rfl:=Option.some.inj H
       have J:0≤(B:Int):=of_decide_eq_true (by assumption)
       have O:B<(l0.length:Int):=of_decide_eq_true (by assumption)
       obtain⟨δ,γ,ε⟩:=Kd.Yv η.out B J O
       cases γ
       replace J:=eq_true J
       replace O:=eq_true O
       go_wp2
       go_ret
       exact⟨qR,by repeat(first|exact Drawn0.refl _|apply Drawn0.step)⟩
      ·rw[if_neg c6] at H
       have c6b0:decide ((rd l0 B)<0)=false:=decide_eq_false c6
       clear c6
       by_cases c7:(rd l0 B)≥Y
       ·rw[if_pos c7] at H
        have c7b0:decide (Y≤(rd l0 B))=true:=decide_eq_true c7
        clear c7
        obtain rfl:=Option.some.inj H
        have J:0≤(B:Int):=of_decide_eq_true (by assumption)
        have O:B<(l0.length:Int):=of_decide_eq_true (by assumption)
        obtain⟨δ,γ,ε⟩:=Kd.Yv η.out B J O
        cases γ
        replace J:=eq_true J
        replace O:=eq_true O
        go_wp2
        go_ret
        exact⟨qR,by repeat(first|exact Drawn0.refl _|apply Drawn0.step)⟩
       ·rw[if_neg c7] at H
        have c7b0:decide (Y≤(rd l0 B))=false:=decide_eq_false c7
        clear c7
        by_cases c8:B>0
        ·rw[if_pos c8] at H
         have c8b0:decide (0<B)=true:=decide_eq_true c8
         clear c8
         obtain⟨X,κ⟩:∃ j_:Int,(wrap64 (B-1))=j_:=⟨_,rfl⟩
         replace H:(if 0≤(X) then (if (X)<(l0.length:Int) then (if (rd l0 (X))≥(rd l0 B) then (some false) else (collect_rising.l0 k1 l0 Y l0 (l0.length:Int) (wrap64 (B+1)))) else (none)) else (none))=some r:=by first|(rw[κ] at H;exact H)|(simp only[κ] at H ⊢;exact H)
         have hji9w:(IntKind.i64.wrap (B-1))=X:=(Xe _).trans κ
         by_cases c10:0≤(X)
         ·rw[if_pos c10] at H
          have c10b0:decide (0≤(X))=true:=decide_eq_true c10
          clear c10
          by_cases ah:(X)<(l0.length:Int)
          ·rw[if_pos ah] at H
           have c11b0:decide ((X)<(l0.length:Int))=true:=decide_eq_true ah
           clear ah
           by_cases ai:(rd l0 (X))≥(rd l0 B)
           ·rw[if_pos ai] at H
            have c12b0:decide ((rd l0 B)≤(rd l0 (X)))=true:=decide_eq_true ai
            clear ai
            obtain rfl:=Option.some.inj H
            have J:0≤(B:Int):=of_decide_eq_true (by assumption)
            have O:B<(l0.length:Int):=of_decide_eq_true (by assumption)
            obtain⟨δ,γ,ε⟩:=Kd.Yv η.out B J O
            cases γ
            replace J:=eq_true J
            replace O:=eq_true O
            have θ :0≤((X):Int):=of_decide_eq_true (by assumption)
            have ι :(X)<(l0.length:Int):=of_decide_eq_true (by assumption)
            obtain⟨μ,ν,ξ⟩:=Kd.Yv η.out (X) θ ι
            obtain rfl: δ = μ :=(by injection ν)
            replace θ :=eq_true θ
            replace ι :=eq_true ι
            go_wp2
            go_ret
            exact⟨by first|rfl|(simp;done)|(simp only[← κ] <;> (first|rfl|simp))|(simp[*];done),by repeat(first|exact Drawn0.refl _|apply Drawn0.step)⟩
           ·rw[if_neg ai] at H
            have c12b0:decide ((rd l0 B)≤(rd l0 (X)))=false:=decide_eq_false ai
            clear ai
            have H':=Aside0.mk H
            clear H
            have J:0≤(B:Int):=of_decide_eq_true (by assumption)
            have O:B<(l0.length:Int):=of_decide_eq_true (by assumption)
            obtain⟨δ,γ,ε⟩:=Kd.Yv η.out B J O
            cases γ
            replace J:=eq_true J
            replace O:=eq_true O
            have θ :0≤((X):Int):=of_decide_eq_true (by assumption)
            have ι :(X)<(l0.length:Int):=of_decide_eq_true (by assumption)
            obtain⟨μ,ν,ξ⟩:=Kd.Yv η.out (X) θ ι
            obtain rfl: δ = μ :=(by injection ν)
            replace θ :=eq_true θ
            replace ι :=eq_true ι
            go_wp2
            go_roundg k1
            case measure=>have:=ao.out;omega
            case rel=>exact⟨(wrap64 (B+1)),rfl,H',⟨by have:=ao.out;omega⟩,by repeat(first|exact Drawn0.refl _|apply Drawn0.step)⟩
          ·rw[if_neg ah] at H
           exact absurd H (by simp)
         ·rw[if_neg c10] at H
          exact absurd H (by simp)
        ·rw[if_neg c8] at H
         have c8b0:decide (0<B)=false:=decide_eq_false c8
         clear c8
         have H':=Aside0.mk H
         clear H
         have J:0≤(B:Int):=of_decide_eq_true (by assumption)
         have O:B<(l0.length:Int):=of_decide_eq_true (by assumption)
         obtain⟨δ,γ,ε⟩:=Kd.Yv η.out B J O
         cases γ
         replace J:=eq_true J
         replace O:=eq_true O
         go_wp2
         go_roundg k1
         case measure=>have:=ao.out;omega
         case rel=>exact⟨(wrap64 (B+1)),rfl,H',⟨by have:=ao.out;omega⟩,by repeat(first|exact Drawn0.refl _|apply Drawn0.step)⟩
     ·rw[if_neg c5] at H
      exact absurd H (by simp)
    ·rw[if_neg c4] at H
     exact absurd H (by simp)
   ·rw[if_neg c3] at H
    have c3b0:decide (B<(l0.length:Int))=false:=decide_eq_false c3
    clear c3
    obtain rfl:=Option.some.inj H
    go_wp2
    go_ret
    exact⟨qR,by repeat(first|exact Drawn0.refl _|apply Drawn0.step)⟩
mutual
def collect_Check.j0:Nat→Bool→Int→Int→Int→Bool→Bool→List Int→List Int→List Int→Option (Int)
 |0,_,_,_,_,_,_,_,_,_=>none
 |k+1,ε,B,Y,Z,γ,δ,J,O,X=>if ε = true then (some 200) else ((some (([J,O,X]:List (List Int)):List (List Int))).bind fun ζ =>(collect_Check.l0 k ζ (ζ.length:Int) 0 B Y Z γ δ J O X))
def collect_Check.l0:Nat→List (List Int)→Int→Int→Int→Int→Int→Bool→Bool→List Int→List Int→List Int→Option (Int)
 |0,_,_,_,_,_,_,_,_,_,_,_=>none
 |k+1,ζ,η,ε,B,Y,Z,γ,δ,J,O,X=>if ε < η then (if 0 ≤ ε then (if ε < (ζ.length:Int) then ((collect_rising.f k (Y6 ζ ε) B).bind fun ew=>(if ew=true then (collect_Check.l0 k ζ η (wrap64 (ε + 1)) B Y Z γ δ J O X) else (some 200))) else (none)) else (none)) else (some 0)
end
def collect_Check.f (k:Nat) (J:Int) (O:Int) (X:Int) (Y:Bool) (Z:Bool) (B:List Int) (γ:List Int) (δ :List Int):Option (Int):=if J<2 then (collect_Check.j0 k true J O X Y Z B γ δ) else (if J>64 then (collect_Check.j0 k true J O X Y Z B γ δ) else (if O<0 then (collect_Check.j0 k true J O X Y Z B γ δ) else (if O≥J then (collect_Check.j0 k true J O X Y Z B γ δ) else (if X<(-1) then (collect_Check.j0 k true J O X Y Z B γ δ) else (collect_Check.j0 k (decide (X>1)) J O X Y Z B γ δ)))))
theorem collect_Check.Zo:∀ k,(∀ O X Y J Z y5 y6 y7 y8,LeO (collect_Check.j0 k O X Y J Z y5 y6 y7 y8) (collect_Check.j0 (k+1) O X Y J Z y5 y6 y7 y8))∧(∀ O X Y J Z y5 y6 y7 y8 y9 γ,LeO (collect_Check.l0 k O X Y J Z y5 y6 y7 y8 y9 γ) (collect_Check.l0 (k+1) O X Y J Z y5 y6 y7 y8 y9 γ))
 |0=>⟨fun _ _ _ _ _ _ _ _ _ r h=>by simp[collect_Check.j0] at h,fun _ _ _ _ _ _ _ _ _ _ _ r h=>by simp[collect_Check.l0] at h⟩
 |k+1=>by
  obtain⟨B,ε⟩:=collect_Check.Zo k
  refine⟨?_, ?_⟩
  ·intro O X Y J Z y5 y6 y7 y8
   unfold collect_Check.j0
   repeat' first
   |(with_reducible exact B _ _ _ _ _ _ _ _ _)
   |(with_reducible exact ε _ _ _ _ _ _ _ _ _ _ _)
   |(with_reducible exact collect_rising.mono _ _ _)
   |(with_reducible exact LeO.refl _)
   |(with_reducible exact LeO.none _)
   |(with_reducible refine LeO.ite ?_ ?_)
   |(with_reducible refine LeO.bind ?_ (fun _=>?_))
   |exact B _ _ _ _ _ _ _ _ _
   |exact ε _ _ _ _ _ _ _ _ _ _ _
   |exact collect_rising.mono _ _ _
   |exact LeO.none _
   |refine LeO.ite ?_ ?_
   |refine LeO.bind ?_ (fun _=>?_)
  ·intro O X Y J Z y5 y6 y7 y8 y9 γ
   unfold collect_Check.l0
   repeat' first
   |(with_reducible exact B _ _ _ _ _ _ _ _ _)
   |(with_reducible exact ε _ _ _ _ _ _ _ _ _ _ _)
   |(with_reducible exact collect_rising.mono _ _ _)
   |(with_reducible exact LeO.refl _)
   |(with_reducible exact LeO.none _)
   |(with_reducible refine LeO.ite ?_ ?_)
   |(with_reducible refine LeO.bind ?_ (fun _=>?_))
   |exact B _ _ _ _ _ _ _ _ _
   |exact ε _ _ _ _ _ _ _ _ _ _ _
   |exact collect_rising.mono _ _ _
   |exact LeO.none _
   |refine LeO.ite ?_ ?_
   |refine LeO.bind ?_ (fun _=>?_)
theorem collect_Check.mono:∀ J Y a2 a3 O a5 X a7 k,LeO (collect_Check.f k J Y a2 a3 O a5 X a7) (collect_Check.f (k+1) J Y a2 a3 O a5 X a7):=by
 intro J Y a2 a3 O a5 X a7 k
 obtain⟨B,ε⟩:=collect_Check.Zo k
 unfold collect_Check.f
 repeat' first
   |(with_reducible exact B _ _ _ _ _ _ _ _ _)
   |(with_reducible exact ε _ _ _ _ _ _ _ _ _ _ _)
   |(with_reducible exact collect_rising.mono _ _ _)
   |(with_reducible exact LeO.refl _)
   |(with_reducible exact LeO.none _)
   |(with_reducible refine LeO.ite ?_ ?_)
   |(with_reducible refine LeO.bind ?_ (fun _=>?_))
   |exact B _ _ _ _ _ _ _ _ _
   |exact ε _ _ _ _ _ _ _ _ _ _ _
   |exact collect_rising.mono _ _ _
   |exact LeO.none _
   |refine LeO.ite ?_ ?_
   |refine LeO.bind ?_ (fun _=>?_)
set_option maxHeartbeats 8000000 in
set_option maxRecDepth 100000 in
theorem collect_Check.calls (k:Nat) (J:Int) (O:Int) (X:Int) (Y:Bool) (Z:Bool) (ι :Nat→Prop) (χ :Option Addr) (ψ :Nat) (B:List Int) (κ :Nat→Prop) (a0:Option Addr) (a1:Nat) (γ:List Int) (μ :Nat→Prop) (a5:Option Addr) (a6:Nat) (δ :List Int) (r:Int) (w:World) (gn:Kd.V (Kd.int .i64) 3 w w.heap.size (fun k_=> ι k_) (.slice χ B.length ψ) B) (gp:Kd.V (Kd.int .i64) 3 w w.heap.size (fun k_=> κ k_) (.slice a0 γ.length a1) γ) (gr:Kd.V (Kd.int .i64) 3 w w.heap.size (fun k_=> μ k_) (.slice a5 δ.length a6) δ) (h:collect_Check.f k J O X Y Z B γ δ = some r):
  Calls Try.prog 29 #[.agg #[.int .i64 J,.int .i64 O,.int .i64 X,.bool Y,.bool Z,.slice χ B.length ψ,.slice a0 γ.length a1,.slice a5 δ.length a6]] w fun e w'=>e = .returned (.int .i64 r)∧Below w.heap.size w w':=by
 have jk:=Try.underlying76
 have a7:=Aside0.mk (show Kd.V (Kd.int .i64) 3 w w.heap.size (fun k_=>((ι k_ ∨ κ k_ ∨ μ k_)∨w.heap.size≤k_)) (.slice χ B.length ψ) B from Kd.Ym gn (fun k_ hk=>.inl (.inl hk)))
 have a8:=Aside0.mk (show Kd.V (Kd.int .i64) 3 w w.heap.size (fun k_=>((ι k_ ∨ κ k_ ∨ μ k_)∨w.heap.size≤k_)) (.slice a0 γ.length a1) γ from Kd.Ym gp (fun k_ hk=>.inl (.inr (.inl hk))))
 have a9:=Aside0.mk (show Kd.V (Kd.int .i64) 3 w w.heap.size (fun k_=>((ι k_ ∨ κ k_ ∨ μ k_)∨w.heap.size≤k_)) (.slice a5 δ.length a6) δ from Kd.Ym gr (fun k_ hk=>.inl (.inr (.inr hk))))
 have HB:=Aside0.mk (Below.refl w.heap.size w)
 have H:(if J<2 then (collect_Check.j0 k true J O X Y Z B γ δ) else (if J>64 then (collect_Check.j0 k true J O X Y Z B γ δ) else (if O<0 then (collect_Check.j0 k true J O X Y Z B γ δ) else (if O≥J then (collect_Check.j0 k true J O X Y Z B γ δ) else (if X<(-1) then (collect_Check.j0 k true J O X Y Z B γ δ) else (collect_Check.j0 k (decide (X>1)) J O X Y Z B γ δ))))))=some r:=h
 clear h
 have dy:=Aside0.mk H
 clear H
 go_enter Try.func29,Try.ntmps29
 go_upto_region 1 with(first|((with_reducible refine Qf (N:=1) rfl ?_);refine qE 1 #[.int .i64 J,.int .i64 O,.int .i64 X,.bool Y,.bool Z,.slice χ B.length ψ,.slice a0 γ.length a1,.slice a5 δ.length a6] 76 ?_;intro η hg w3 hbox hb;have θ :=Aside0.mk hbox;have gy:=sGe hg;have gz:=sGe hg;replace a7:=Aside0.mk (Kd.Ug (Kd.G7 a7.out η (Nat.le_of_eq hg.symm)) hb);replace a8:=Aside0.mk (Kd.Ug (Kd.G7 a8.out η (Nat.le_of_eq hg.symm)) hb);replace a9:=Aside0.mk (Kd.Ug (Kd.G7 a9.out η (Nat.le_of_eq hg.symm)) hb);replace HB:=sHb hb;clear hb hbox hg))
 (try simp only[Act.put,qS])
 go_cut [34] (fun gw wc=>∃ (kq:Nat) (b7:Bool),gw = .bool b7∧Aside0 (collect_Check.j0 kq b7 J O X Y Z B γ δ = some r)∧Aside0 (kq≤k)∧Aside0 (Kd.V (Kd.int .i64) 3 wc w.heap.size (fun k_=>((ι k_ ∨ κ k_ ∨ μ k_)∨w.heap.size≤k_)∧k_ ≠ η) (.slice χ B.length ψ) B)∧Aside0 (Kd.V (Kd.int .i64) 3 wc w.heap.size (fun k_=>((ι k_ ∨ κ k_ ∨ μ k_)∨w.heap.size≤k_)∧k_ ≠ η) (.slice a0 γ.length a1) γ)∧Aside0 (Kd.V (Kd.int .i64) 3 wc w.heap.size (fun k_=>((ι k_ ∨ κ k_ ∨ μ k_)∨w.heap.size≤k_)∧k_ ≠ η) (.slice a5 δ.length a6) δ)∧Aside0 (wc.heap[η]?=some (.cells #[.int .i64 J,.int .i64 O,.int .i64 X,.bool Y,.bool Z,(.slice χ B.length ψ),(.slice a0 γ.length a1),(.slice a5 δ.length a6)] 76 (0,0)))∧Aside0 (Below w.heap.size w wc))
 case first=>
  have H:=dy.out
  clear dy
  by_cases c4:J<2
  ·rw[if_pos c4] at H
   have c4b0:decide (J<2)=true:=decide_eq_true c4
   clear c4
   (first|rw[c4b0]|(simp only[Xe,Xh];rw[c4b0])|skip)
   have H':=Aside0.mk H
   clear H
   obtain⟨b8,b9,bb,bc,bd,bz,ca,ch,ci,cj,ck,co,cv,cx,dr,dt⟩:=qD8 θ.out
   go_wp2
   go_meet
   case rel=>exact⟨_,(true),rfl,H',⟨by first|omega|exact Nat.le_refl _⟩,⟨by(with_reducible repeat first|apply Kd.Zx|apply Kd.Zw|apply Kd.Xc);exact a7.out⟩,⟨by(with_reducible repeat first|apply Kd.Zx|apply Kd.Zw|apply Kd.Xc);exact a8.out⟩,⟨by(with_reducible repeat first|apply Kd.Zx|apply Kd.Zw|apply Kd.Xc);exact a9.out⟩,θ,HB⟩
  ·rw[if_neg c4] at H
   have c4b0:decide (J<2)=false:=decide_eq_false c4
   clear c4
   (first|rw[c4b0]|(simp only[Xe,Xh];rw[c4b0])|skip)
   by_cases c6:J>64
   ·rw[if_pos c6] at H
    have c6b0:decide (64<J)=true:=decide_eq_true c6
    clear c6
    have H':=Aside0.mk H
    clear H
    obtain⟨ao,ap,fa,fb,fc,fe,ff,fk,ar,av,fl,fm,fn,fo,fp,fq⟩:=qD8 θ.out
    go_wp2
    go_meet
    case rel=>exact⟨_,(true),rfl,H',⟨by first|omega|exact Nat.le_refl _⟩,⟨by(with_reducible repeat first|apply Kd.Zx|apply Kd.Zw|apply Kd.Xc);exact a7.out⟩,⟨by(with_reducible repeat first|apply Kd.Zx|apply Kd.Zw|apply Kd.Xc);exact a8.out⟩,⟨by(with_reducible repeat first|apply Kd.Zx|apply Kd.Zw|apply Kd.Xc);exact a9.out⟩,θ,HB⟩
   ·rw[if_neg c6] at H
    have c6b0:decide (64<J)=false:=decide_eq_false c6
    clear c6
    by_cases c8:O<0
    ·rw[if_pos c8] at H
     have c8b0:decide (O<0)=true:=decide_eq_true c8
     clear c8
     have H':=Aside0.mk H
     clear H
     obtain⟨b0,bw,bh,bi,d4,dh,di,dm,cb,cd,ej,ey,fg,fh,fi,fj⟩:=qD8 θ.out
     go_wp2
     go_meet
     case rel=>exact⟨_,(true),rfl,H',⟨by first|omega|exact Nat.le_refl _⟩,⟨by(with_reducible repeat first|apply Kd.Zx|apply Kd.Zw|apply Kd.Xc);exact a7.out⟩,⟨by(with_reducible repeat first|apply Kd.Zx|apply Kd.Zw|apply Kd.Xc);exact a8.out⟩,⟨by(with_reducible repeat first|apply Kd.Zx|apply Kd.Zw|apply Kd.Xc);exact a9.out⟩,θ,HB⟩
    ·rw[if_neg c8] at H
     have c8b0:decide (O<0)=false:=decide_eq_false c8
     clear c8
     by_cases c10:O≥J
     ·rw[if_pos c10] at H
      have c10b0:decide (J≤O)=true:=decide_eq_true c10
      clear c10
      have H':=Aside0.mk H
      clear H
      obtain⟨ω,ah,bj,be,bn,bo,bp,bq,b3,bf,bk,cm,cn,cr,ct,cu⟩:=qD8 θ.out
      go_wp2
      go_meet
      case rel=>exact⟨_,(true),rfl,H',⟨by first|omega|exact Nat.le_refl _⟩,⟨by(with_reducible repeat first|apply Kd.Zx|apply Kd.Zw|apply Kd.Xc);exact a7.out⟩,⟨by(with_reducible repeat first|apply Kd.Zx|apply Kd.Zw|apply Kd.Xc);exact a8.out⟩,⟨by(with_reducible repeat first|apply Kd.Zx|apply Kd.Zw|apply Kd.Xc);exact a9.out⟩,θ,HB⟩
     ·rw[if_neg c10] at H
      have c10b0:decide (J≤O)=false:=decide_eq_false c10
      clear c10
      by_cases ai:X<(-1)
      ·rw[if_pos ai] at H
       have c12b0:decide (X<(-1))=true:=decide_eq_true ai
       clear ai
       have H':=Aside0.mk H
       clear H
       obtain⟨ab,au,a3,aa,bg,bm,bu,aw,ac,ax,a4,bv,ce,cf,cg,bs⟩:=qD8 θ.out
       go_wp2
       go_meet
       case rel=>exact⟨_,(true),rfl,H',⟨by first|omega|exact Nat.le_refl _⟩,⟨by(with_reducible repeat first|apply Kd.Zx|apply Kd.Zw|apply Kd.Xc);exact a7.out⟩,⟨by(with_reducible repeat first|apply Kd.Zx|apply Kd.Zw|apply Kd.Xc);exact a8.out⟩,⟨by(with_reducible repeat first|apply Kd.Zx|apply Kd.Zw|apply Kd.Xc);exact a9.out⟩,θ,HB⟩
      ·rw[if_neg ai] at H
       have c12b0:decide (X<(-1))=false:=decide_eq_false ai
       clear ai
       have H':=Aside0.mk H
       clear H
       obtain⟨cz,d5,e5,e6,e7,eb,ed,ev,d6,dd,ee,ef,eg,eh,ei,f7⟩:=qD8 θ.out
       go_wp2
       go_meet
       case rel=>exact⟨_,(decide (X>1)),rfl,H',⟨by first|omega|exact Nat.le_refl _⟩,⟨by(with_reducible repeat first|apply Kd.Zx|apply Kd.Zw|apply Kd.Xc);exact a7.out⟩,⟨by(with_reducible repeat first|apply Kd.Zx|apply Kd.Zw|apply Kd.Xc);exact a8.out⟩,⟨by(with_reducible repeat first|apply Kd.Zx|apply Kd.Zw|apply Kd.Xc);exact a9.out⟩,θ,HB⟩
 case rest=>
  clear dy
  try clear c1
  try clear c2
  try clear p2
  try clear c4
  try clear c4b0
  try clear c6
  try clear c6b0
  try clear c8
  try clear c8b0
  try clear c10
  try clear c10b0
  try clear ai
  try clear c12b0
  try clear ω
  try clear ah
  try clear bj
  try clear be
  try clear bn
  try clear bo
  try clear bp
  try clear bq
  try clear ab
  try clear au
  try clear a3
  try clear aa
  try clear bg
  try clear bm
  try clear bu
  try clear aw
  try clear cz
  try clear d5
  try clear e5
  try clear e6
  try clear e7
  try clear eb
  try clear ed
  try clear ev
  try clear b8
  try clear b9
  try clear bb
  try clear bc
  try clear bd
  try clear bz
  try clear ca
  try clear ch
  try clear ao
  try clear ap
  try clear fa
  try clear fb
  try clear fc
  try clear fe
  try clear ff
  try clear fk
  try clear b0
  try clear bw
  try clear bh
  try clear bi
  try clear d4
  try clear dh
  try clear di
  try clear dm
  try clear b3
  try clear bf
  try clear bk
  try clear cm
  try clear cn
  try clear cr
  try clear ct
  try clear cu
  try clear ac
  try clear ax
  try clear a4
  try clear bv
  try clear ce
  try clear cf
  try clear cg
  try clear bs
  try clear d6
  try clear dd
  try clear ee
  try clear ef
  try clear eg
  try clear eh
  try clear ei
  try clear f7
  try clear ci
  try clear cj
  try clear ck
  try clear co
  try clear cv
  try clear cx
  try clear dr
  try clear dt
  try clear ar
  try clear av
  try clear fl
  try clear fm
  try clear fn
  try clear fo
  try clear fp
  try clear fq
  try clear cb
  try clear cd
  try clear ej
  try clear ey
  try clear fg
  try clear fh
  try clear fi
  try clear fj
  obtain⟨kq,b7,rfl,HA,gu,ν,ξ,ρ,θ,HB⟩:=hcut
  cases kq with
  |zero=>exact absurd HA.out (by simp[collect_Check.j0])
  |succ fu=>
   have H:=HA.out
   clear HA
   simp only[collect_Check.j0] at H
   by_cases b4:b7=true
   ·subst b4
    have H1:(some 200)=some r:=by rw[if_pos rfl] at H;exact H
    clear H
    have H:=H1
    clear H1
    obtain rfl:=Option.some.inj H
    go_wp2
    go_ret
    exact⟨rfl,HB.out⟩
   ·replace b4:=Bool.eq_false_iff.mpr b4
    subst b4
    have H1:((some (([B,γ,δ]:List (List Int)):List (List Int))).bind fun ζ =>(collect_Check.l0 fu ζ (ζ.length:Int) 0 J O X Y Z B γ δ))=some r:=by rw[if_neg (show ¬ (false=true) by decide)] at H;exact H
    clear H
    have H:=H1
    clear H1
    obtain⟨ζ,ay⟩:∃ y_:List (List Int),y_=(([B,γ,δ]:List (List Int))):=⟨_,rfl⟩
    replace H:(collect_Check.l0 fu ζ (ζ.length:Int) 0 J O X Y Z B γ δ)=some r:=by first|(rw[ay];with_reducible exact H)|(have an:=(Option.bind_some _ _).symm.trans H;rw[ay];with_reducible exact an)|(have an:=(Option.bind_some _ _).symm.trans H;with_reducible exact an)|with_reducible exact H|(rw[ay];exact H)|exact H
    have fv:=Aside0.mk ay
    clear ay
    have H':=Aside0.mk H
    clear H
    obtain⟨db,dc,bl,cy,d0,d1,d2,d7,dn,e8,br,d8,d9,da,de,dp⟩:=qD8 θ.out
    go_wp2_with (first|((with_reducible refine Qf (N:=44) rfl ?_);refine Kd.N_lit (Kd.slice 3 (Kd.int .i64)) _ 32 ?hg (N':=44) ?hd (xs:=([B,γ,δ]:List (List Int))) (inner:=[.slice χ B.length ψ,.slice a0 γ.length a1,.slice a5 δ.length a6]) (ok:=(fun k_=>((ι k_ ∨ κ k_ ∨ μ k_)∨w.heap.size≤k_)∧k_ ≠ η)) (okp:=(fun k_=>((ι k_ ∨ κ k_ ∨ μ k_)∨w.heap.size≤k_)∧k_ ≠ η)) ?hr ?hp (fun _ hk=>hk) ((show ∀ k_,wc.heap.size≤k_→(fun k_=>((ι k_ ∨ κ k_ ∨ μ k_)∨w.heap.size≤k_)∧k_ ≠ η) k_ from fun k_ hk=>⟨(.inr (Nat.le_trans (Qh HB.out) hk)),Kd.Ds (g:= η) (o:=.cells #[.int .i64 J,.int .i64 O,.int .i64 X,.bool Y,.bool Z,.slice χ B.length ψ,.slice a0 γ.length a1,.slice a5 δ.length a6] 76 (0,0)) θ.out k_ hk⟩) _ (Nat.le_refl _)) (Below.refl _ _) (Nat.le_refl _) (by simp) ?_;(case hd=>rfl);(case hg=>rfl);(case hr=>go_simp <;> rfl);(case hp=>exact(Reps.one (show Kd.FK (Kd.slice 3 (Kd.int .i64)) _ _ B [.slice χ B.length ψ] from(Kd.J0 (Kd.G4 (Kd.Ym (ok':=(fun k_=>((ι k_ ∨ κ k_ ∨ μ k_)∨w.heap.size≤k_)∧k_ ≠ η)) (ν.out) (fun k_ hk=>⟨hk.1,hk.2⟩))).2.1 (Kd.V_F (Kd.Ym (ok':=(fun k_=>((ι k_ ∨ κ k_ ∨ μ k_)∨w.heap.size≤k_)∧k_ ≠ η)) (ν.out) (fun k_ hk=>⟨hk.1,hk.2⟩))))) (Reps.one (show Kd.FK (Kd.slice 3 (Kd.int .i64)) _ _ γ [.slice a0 γ.length a1] from(Kd.J0 (Kd.G4 (Kd.Ym (ok':=(fun k_=>((ι k_ ∨ κ k_ ∨ μ k_)∨w.heap.size≤k_)∧k_ ≠ η)) (ξ.out) (fun k_ hk=>⟨hk.1,hk.2⟩))).2.1 (Kd.V_F (Kd.Ym (ok':=(fun k_=>((ι k_ ∨ κ k_ ∨ μ k_)∨w.heap.size≤k_)∧k_ ≠ η)) (ξ.out) (fun k_ hk=>⟨hk.1,hk.2⟩))))) (Reps.one (show Kd.FK (Kd.slice 3 (Kd.int .i64)) _ _ δ [.slice a5 δ.length a6] from(Kd.J0 (Kd.G4 (Kd.Ym (ok':=(fun k_=>((ι k_ ∨ κ k_ ∨ μ k_)∨w.heap.size≤k_)∧k_ ≠ η)) (ρ.out) (fun k_ hk=>⟨hk.1,hk.2⟩))).2.1 (Kd.V_F (Kd.Ym (ok':=(fun k_=>((ι k_ ∨ κ k_ ∨ μ k_)∨w.heap.size≤k_)∧k_ ≠ η)) (ρ.out) (fun k_ hk=>⟨hk.1,hk.2⟩))))) (Reps.none _ _)))));intro h0 d3 al hb hg_ hnew_;clear hg_ hnew_;(first|rw[← fv.out] at al|(simp only[Int.reduceToNat] at al;rw[← fv.out] at al));have fw:=Aside0.mk (Kd.E8 al (Qh HB.out));replace ν :=Aside0.mk (Kd.G8 ν.out (Kd.W6 al) hb);replace ξ :=Aside0.mk (Kd.G8 ξ.out (Kd.W6 al) hb);replace ρ:=Aside0.mk (Kd.G8 ρ.out (Kd.W6 al) hb);replace θ :=sBk θ hb;replace HB:=sHb hb;clear hb al;obtain⟨b1,b2,qk⟩:=Kd.Ln fw.out;subst qk))
    go_loopg [46] fu (fun kq gx w'=>∃ (ε :Int),gx = .int .i64 ε ∧ Aside0 (collect_Check.l0 kq ζ (ζ.length:Int) ε J O X Y Z B γ δ = some r)∧Aside0 (kq≤fu)∧Aside0 (Kd.N (Kd.slice 3 (Kd.int .i64)) 32 w' w.heap.size (fun k_=>((ι k_ ∨ κ k_ ∨ μ k_)∨w.heap.size≤k_)∧k_ ≠ η) (.slice b1 ζ.length b2) ζ)∧Aside0 (Kd.V (Kd.int .i64) 3 w' w.heap.size (fun k_=>((ι k_ ∨ κ k_ ∨ μ k_)∨w.heap.size≤k_)∧some k_≠((.slice b1 ζ.length b2):Value).ownBlock∧k_ ≠ η) (.slice χ B.length ψ) B)∧Aside0 (Kd.V (Kd.int .i64) 3 w' w.heap.size (fun k_=>((ι k_ ∨ κ k_ ∨ μ k_)∨w.heap.size≤k_)∧some k_≠((.slice b1 ζ.length b2):Value).ownBlock∧k_ ≠ η) (.slice a0 γ.length a1) γ)∧Aside0 (Kd.V (Kd.int .i64) 3 w' w.heap.size (fun k_=>((ι k_ ∨ κ k_ ∨ μ k_)∨w.heap.size≤k_)∧some k_≠((.slice b1 ζ.length b2):Value).ownBlock∧k_ ≠ η) (.slice a5 δ.length a6) δ)∧Aside0 (w'.heap[η]?=some (.cells #[.int .i64 J,.int .i64 O,.int .i64 X,.bool Y,.bool Z,(.slice χ B.length ψ),(.slice a0 γ.length a1),(.slice a5 δ.length a6)] 76 (0,0)))∧Aside0 (Below w.heap.size w w'))
    case atStart=>exact⟨(0),rfl,H',⟨Nat.le_refl _⟩,⟨by(with_reducible repeat(first|apply Kd.Lp|apply Kd.Lo|apply Kd.N2));exact fw.out⟩,⟨by(with_reducible repeat first|apply Kd.Zx|apply Kd.Zw|apply Kd.Xc);exact Kd.Ym ν.out (fun _ hk=>⟨hk.1.1,⟨hk.2,hk.1.2⟩⟩)⟩,⟨by(with_reducible repeat first|apply Kd.Zx|apply Kd.Zw|apply Kd.Xc);exact Kd.Ym ξ.out (fun _ hk=>⟨hk.1.1,⟨hk.2,hk.1.2⟩⟩)⟩,⟨by(with_reducible repeat first|apply Kd.Zx|apply Kd.Zw|apply Kd.Xc);exact Kd.Ym ρ.out (fun _ hk=>⟨hk.1.1,⟨hk.2,hk.1.2⟩⟩)⟩,θ,HB⟩
    case round=>
     clear H'
     try clear c1
     try clear c2
     try clear p2
     try clear c4
     try clear c4b0
     try clear c6
     try clear c6b0
     try clear c8
     try clear c8b0
     try clear c10
     try clear c10b0
     try clear ai
     try clear c12b0
     try clear b4
     try clear ω
     try clear ah
     try clear bj
     try clear be
     try clear bn
     try clear bo
     try clear bp
     try clear bq
     try clear ab
     try clear au
     try clear a3
     try clear aa
     try clear bg
     try clear bm
     try clear bu
     try clear aw
     try clear cz
     try clear d5
     try clear e5
     try clear e6
     try clear e7
     try clear eb
     try clear ed
     try clear ev
     try clear db
     try clear dc
     try clear bl
     try clear cy
     try clear d0
     try clear d1
     try clear d2
     try clear d7
     try clear b8
     try clear b9
     try clear bb
     try clear bc
     try clear bd
     try clear bz
     try clear ca
     try clear ch
     try clear ao
     try clear ap
     try clear fa
     try clear fb
     try clear fc
     try clear fe
     try clear ff
     try clear fk
     try clear b0
     try clear bw
     try clear bh
     try clear bi
     try clear d4
     try clear dh
     try clear di
     try clear dm
     try clear b3
     try clear bf
     try clear bk
     try clear cm
     try clear cn
     try clear cr
     try clear ct
     try clear cu
     try clear ac
     try clear ax
     try clear a4
     try clear bv
     try clear ce
     try clear cf
     try clear cg
     try clear bs
     try clear d6
     try clear dd
     try clear ee
     try clear ef
     try clear eg
     try clear eh
     try clear ei
     try clear f7
     try clear dn
     try clear e8
     try clear br
     try clear d8
     try clear d9
     try clear da
     try clear de
     try clear dp
     try clear ci
     try clear cj
     try clear ck
     try clear co
     try clear cv
     try clear cx
     try clear dr
     try clear dt
     try clear ar
     try clear av
     try clear fl
     try clear fm
     try clear fn
     try clear fo
     try clear fp
     try clear fq
     try clear cb
     try clear cd
     try clear ej
     try clear ey
     try clear fg
     try clear fh
     try clear fi
     try clear fj
     try clear p2
     obtain⟨ε,rfl,HA,dq,ag,ν,ξ,ρ,θ,HB⟩:=hrel
     cases gk with
     |zero=>exact absurd HA.out (by simp[collect_Check.l0])
     |succ k2=>
      have H:=HA.out
      clear HA
      simp only[collect_Check.l0] at H
      by_cases cq: ε < (ζ.length:Int)
      ·rw[if_pos cq] at H
       have c20b0:decide (ε < (ζ.length:Int))=true:=decide_eq_true cq
       clear cq
       by_cases ba:0 ≤ ε
       ·rw[if_pos ba] at H
        have c21b0:decide (0 ≤ ε)=true:=decide_eq_true ba
        clear ba
        by_cases dz: ε < (ζ.length:Int)
        ·rw[if_pos dz] at H
         have c22b0:decide (ε < (ζ.length:Int))=true:=decide_eq_true dz
         clear dz
         replace H:=Option.bind_eq_some_iff.mp H
         obtain⟨ew,gf,H⟩:=H
         replace H:(if ew=true then (collect_Check.l0 k2 ζ (ζ.length:Int) (wrap64 (ε + 1)) J O X Y Z B γ δ) else (some 200))=some r:=H
         have gv:=Aside0.mk gf
         clear gf
         by_cases df:ew=true
         ·subst df
          have H1:(collect_Check.l0 k2 ζ (ζ.length:Int) (wrap64 (ε + 1)) J O X Y Z B γ δ)=some r:=by rw[if_pos rfl] at H;exact H
          clear H
          have H:=H1
          clear H1
          have H':=Aside0.mk H
          clear H
          have aj:0≤(ε :Int):=of_decide_eq_true (by assumption)
          have ak: ε < (ζ.length:Int):=of_decide_eq_true (by assumption)
          obtain⟨gs,dj,dk,ft,az,ae,af⟩:=Dj (Kd.Jz ag.out).2.2 ε aj ak
          cases ft
          obtain⟨gt,du,dv,am⟩:=Kd.Dk ag.out [] ε aj (by first|exact ak|exact of_decide_eq_true (by assumption)|(have e_:=(Kd.Jz ag.out).1;omega))
          obtain⟨fx,fy,rfl,τ,φ⟩:=Kd.Ke dv
          have σ:=am 0 _ rfl
          rw[Nat.add_zero,show((Kd.slice 3 (Kd.int .i64))).sz=1 from rfl,Nat.mul_one] at σ
          replace σ:=Option.some.inj (σ.symm.trans az)
          injection σ with hva_ hvn_ hvc_
          rw[hva_] at φ
          rw[hvc_] at τ
          have fz:=Aside0.mk (show Kd.V (Kd.int .i64) 3 _ w.heap.size _ _ (Y6 ζ ε) from Kd.G5 τ φ)
          clear hva_ hvn_ hvc_ φ τ
          clear am du
          have b5:=Aside0.mk af
          have b6:=Aside0.mk ae
          clear af ae
          replace aj:=eq_true aj
          replace ak:=eq_true ak
          obtain⟨ea,ek,dw,dl,e0,e3,e4,e9,el,em,dx,en,et,eu,ez,fr⟩:=qD8 θ.out
          go_wp2_with (first|((with_reducible refine Qp (f:=50) rfl ?_);refine Q4 (some 53) rfl rfl Try.func50 kr rfl #[.slice dj (Y6 ζ ε).length dk,.int .i64 J] rfl qM ?_;(with_reducible refine(collect_rising.calls k2 _ _ (Y6 ζ ε) J true _ ?side1 ?side2 gv.out).mono ?_);(case side1=>exact b5.out);(case side2=>exact b6.out);rintro e w' ⟨rfl,⟨nd,rfl⟩⟩;refine⟨_,rfl, ?_⟩))
          go_roundg k2
          case measure=>have:=gu.out;have:=dq.out;omega
          case rel=>exact⟨(wrap64 (ε + 1)),qR,H',⟨by have:=gu.out;have:=dq.out;omega⟩,⟨by(with_reducible repeat(first|apply Kd.Lp|apply Kd.Lo|apply Kd.N2));exact ag.out⟩,⟨by(with_reducible repeat first|apply Kd.Zx|apply Kd.Zw|apply Kd.Xc);exact ν.out⟩,⟨by(with_reducible repeat first|apply Kd.Zx|apply Kd.Zw|apply Kd.Xc);exact ξ.out⟩,⟨by(with_reducible repeat first|apply Kd.Zx|apply Kd.Zw|apply Kd.Xc);exact ρ.out⟩,⟨bka θ⟩,⟨bel⟩⟩
         ·replace df:=Bool.eq_false_iff.mpr df
          subst df
          have H1:(some 200)=some r:=by rw[if_neg (show ¬ (false=true) by decide)] at H;exact H
          clear H
          have H:=H1
          clear H1
          obtain rfl:=Option.some.inj H
          have aj:0≤(ε :Int):=of_decide_eq_true (by assumption)
          have ak: ε < (ζ.length:Int):=of_decide_eq_true (by assumption)
          obtain⟨gs,dj,dk,ft,az,ae,af⟩:=Dj (Kd.Jz ag.out).2.2 ε aj ak
          cases ft
          obtain⟨gt,du,dv,am⟩:=Kd.Dk ag.out [] ε aj (by first|exact ak|exact of_decide_eq_true (by assumption)|(have e_:=(Kd.Jz ag.out).1;omega))
          obtain⟨fx,fy,rfl,τ,φ⟩:=Kd.Ke dv
          have σ:=am 0 _ rfl
          rw[Nat.add_zero,show((Kd.slice 3 (Kd.int .i64))).sz=1 from rfl,Nat.mul_one] at σ
          replace σ:=Option.some.inj (σ.symm.trans az)
          injection σ with hva_ hvn_ hvc_
          rw[hva_] at φ
          rw[hvc_] at τ
          have fz:=Aside0.mk (show Kd.V (Kd.int .i64) 3 _ w.heap.size _ _ (Y6 ζ ε) from Kd.G5 τ φ)
          clear hva_ hvn_ hvc_ φ τ
          clear am du
          have b5:=Aside0.mk af
          have b6:=Aside0.mk ae
          clear af ae
          replace aj:=eq_true aj
          replace ak:=eq_true ak
          obtain⟨cp,cw,ep,ga,gb,ge,gg,gh,ec,eo,er,gi,gj,gl,gm,gq⟩:=qD8 θ.out
          go_wp2_with (first|((with_reducible refine Qp (f:=50) rfl ?_);refine Q4 (some 53) rfl rfl Try.func50 kr rfl #[.slice dj (Y6 ζ ε).length dk,.int .i64 J] rfl qM ?_;(with_reducible refine(collect_rising.calls k2 _ _ (Y6 ζ ε) J false _ ?side1 ?side2 gv.out).mono ?_);(case side1=>exact b5.out);(case side2=>exact b6.out);rintro e w' ⟨rfl,⟨nd,rfl⟩⟩;refine⟨_,rfl, ?_⟩))
          go_ret
          exact⟨by first|rfl|(simp[Qk,Qj] <;> rfl)|(simp[*,Qk,Qj] <;> rfl),bel⟩
        ·rw[if_neg dz] at H
         exact absurd H (by simp)
       ·rw[if_neg ba] at H
        exact absurd H (by simp)
      ·rw[if_neg cq] at H
       have c20b0:decide (ε < (ζ.length:Int))=false:=decide_eq_false cq
       clear cq
       obtain rfl:=Option.some.inj H
       go_wp2
       go_ret
       exact⟨rfl,HB.out⟩
mutual
def newelref20_rises.l0:Nat→List Int→Int→Int→Option (Bool)
 |0,_,_,_=>none
 |k+1,B,J,x5=>if x5<(B.length:Int) then (if 0≤x5 then (if (rd B x5)<0 then (newelref20_rises.j1 k B J x5 true) else (newelref20_rises.j1 k B J x5 (decide ((rd B x5)≥J)))) else (none)) else (some true)
def newelref20_rises.j1:Nat→List Int→Int→Int→Bool→Option (Bool)
 |0,_,_,_,_=>none
 |k+1,B,J,x5,κ =>if κ = true then (some false) else (if x5>0 then (if 0≤x5 then (if x5<(B.length:Int) then (if 0≤(wrap64 (x5-1)) then (if (wrap64 (x5-1))<(B.length:Int) then (if (rd B x5)≤(rd B (wrap64 (x5-1))) then (some false) else (newelref20_rises.l0 k B J (wrap64 (x5+1)))) else (none)) else (none)) else (none)) else (none)) else (newelref20_rises.l0 k B J (wrap64 (x5+1))))
end
def newelref20_rises.f (k:Nat) (l0:List Int) (Y:Int):Option (Bool):=newelref20_rises.l0 k l0 Y 0
def newelref20_View.f (k:Nat) (J:Int) (X:List Int) (Z:List Int) (B:List Int):Option (Bool):=(newelref20_rises.f k X J).bind fun O=>((newelref20_rises.f k Z J).bind fun Y=>((newelref20_rises.f k B J).bind fun γ=>(if O=true then (if Y=true then (some γ) else (some false)) else (some false))))
end Go.Proofs.Ytmfffemidlhcpaa.C
namespace Go.Proofs.Ytmfffemidlhcpaa.ColPure
open Go.RowKit Go.Proofs.YtmfffemidlhcpaaW.PrintWords Go.Proofs.YtmfffemidlhcpaaW.PrintLast Go.Proofs.YtmfffemidlhcpaaW.PrintMore Go.Proofs.Ytmfffemidlhcpaa.C
set_option linter.unusedVariables false
theorem Ld (l:List Int) (i:Nat) (h:i<l.length):rd l (i:Int)=l[i]:=by
  simp[rd,h]
theorem up1 {i:Nat} (h:i≤1000000):wrap64 ((i:Int)+1)=((i+1:Nat):Int):=by unfold wrap64;omega
theorem w64 {n:Int} (h: -1000000≤n) (O:n≤1000000):wrap64 n=n:=by unfold wrap64;omega
theorem Kx (l:List Int) (i:Nat) (h:i<l.length):l.drop i=l[i] :: l.drop (i+1):=List.drop_eq_getElem_cons h
def Yg (fl:Int):Int→List Int→Bool
  |_,[]=>true
  |p,x :: xs=>decide (p<x∧x<fl)&&Yg fl x xs
def X0 (l:List Int) (i:Nat):Int:=if i=0 then -1 else rd l ((i-1:Nat):Int)
theorem J3 (l:List Int) (i:Nat) (h:i<l.length):X0 l (i+1)=l[i]:=by
  unfold X0
  rw[if_neg (by omega),Nat.add_sub_cancel,Ld l i h]
theorem Uu (l:List Int) (fl:Int) (hm:l.length≤1000) (j:Nat):∀ (f i:Nat),i+j=l.length→j<f → -1≤X0 l i→collect_rising.l0 f l fl l (l.length:Int) (i:Int)=some (Yg fl (X0 l i) (l.drop i)):=by
  induction j with
  |zero=>
    intro f i hi hf hp
    obtain⟨f,rfl⟩:∃ m,f=m+1:=⟨f-1,by omega⟩
    rw[collect_rising.l0,if_neg (by omega),List.drop_of_length_le (by omega)]
    rfl
  |succ j ih=>
    intro f i hi hf hp
    obtain⟨f,rfl⟩:∃ m,f=m+1:=⟨f-1,by omega⟩
    have ha:i<l.length:=by omega
    have go:0≤l[i]→collect_rising.l0 f l fl l (l.length:Int) (wrap64 ((i:Int)+1))=some (Yg fl l[i] (l.drop (i+1))):=by
      intro X
      rw[up1 (by omega),ih f (i+1) (by omega) (by omega) (by rw[J3 l i ha];omega),J3 l i ha]
    rw[collect_rising.l0,if_pos (by omega),if_pos (by omega),if_pos (by omega),Ld l i ha,Kx l i ha,Yg]
    by_cases c1:l[i]<0
    · rw[if_pos c1,decide_eq_false (by omega),Bool.false_and]
    rw[if_neg c1]
    by_cases c2:l[i]≥fl
    · rw[if_pos c2,decide_eq_false (by omega),Bool.false_and]
    rw[if_neg c2]
    by_cases c3:i=0
    · have hv:X0 l i = -1:=by unfold X0;rw[if_pos c3]
      rw[if_neg (by omega),go (by omega),hv,decide_eq_true (by omega),Bool.true_and]
    · have ew:wrap64 ((i:Int)-1)=((i-1:Nat):Int):=by rw[w64 (by omega) (by omega)];omega
      have hv:X0 l i=rd l ((i-1:Nat):Int):=by unfold X0;rw[if_neg c3]
      rw[if_pos (by omega),ew,if_pos (by omega),if_pos (by omega),← hv]
      by_cases c4:X0 l i≥l[i]
      · rw[if_pos c4,decide_eq_false (by omega),Bool.false_and]
      · rw[if_neg c4,go (by omega),decide_eq_true (by omega),Bool.true_and]
theorem K2 (l:List Int) (fl:Int) (hm:l.length≤1000) (f:Nat) (hf:l.length<f):collect_rising.f f l fl=some (Yg fl (-1) l):=by
  have:=Uu l fl hm l.length f 0 (by omega) hf (by unfold X0;rw[if_pos rfl];exact Int.le_refl _)
  rw[List.drop_zero] at this
  exact this
structure Few (I U D:List Int):Prop where
  i:I.length≤600
  u:U.length≤600
  d:D.length≤600
variable {I U D : List Int}
def U8 (fl f d:Int) (I U D:List Int):Bool:=Yg fl (-1) I&&Yg fl (-1) U&&Yg fl (-1) D&&decide (2≤fl∧fl≤64∧0≤f∧f<fl ∧ -1≤d∧d≤1)
theorem Wy (h:Few I U D) (fl f d:Int) (su sd:Bool) (k:Nat) (hk:1500≤k):collect_Check.j0 k false fl f d su sd I U D=some (if Yg fl (-1) I&&Yg fl (-1) U&&Yg fl (-1) D then 0 else 200):=by
  have:=h.i;have:=h.u;have:=h.d
  obtain⟨k,rfl⟩:∃ m,k=m+5:=⟨k-5,by omega⟩
  rw[collect_Check.j0,if_neg (by decide),Option.bind_some]
  have e1:wrap64 (0+1)=1:=w64 (by omega) (by omega)
  have B:wrap64 (1+1)=2:=w64 (by omega) (by omega)
  have Z:wrap64 (2+1)=3:=w64 (by omega) (by omega)
  have el:(([I,U,D]:List (List Int)).length:Int)=3:=rfl
  have r0:Y6 [I,U,D] 0=I:=rfl
  have r1:Y6 [I,U,D] 1=U:=rfl
  have r2:Y6 [I,U,D] 2=D:=rfl
  rw[el]
  rw[collect_Check.l0,if_pos (by decide),if_pos (by decide),el,if_pos (by decide),r0,K2 I fl (by omega) _ (by omega),Option.bind_some]
  cases Yg fl (-1) I
  · rfl
  rw[if_pos rfl,e1,collect_Check.l0,if_pos (by decide),if_pos (by decide),el,if_pos (by decide),r1,K2 U fl (by omega) _ (by omega),Option.bind_some]
  cases Yg fl (-1) U
  · rfl
  rw[if_pos rfl,B,collect_Check.l0,if_pos (by decide),if_pos (by decide),el,if_pos (by decide),r2,K2 D fl (by omega) _ (by omega),Option.bind_some]
  cases Yg fl (-1) D
  · rfl
  rw[if_pos rfl,Z,collect_Check.l0,if_neg (by decide)]
  rfl
theorem Mp (fl f d:Int) (su sd:Bool) (k:Nat) (hk:1500≤k):collect_Check.j0 k true fl f d su sd I U D=some 200:=by
  obtain⟨k,rfl⟩:∃ m,k=m+1:=⟨k-1,by omega⟩
  rw[collect_Check.j0,if_pos rfl]
theorem Yu (h:Few I U D) (fl f d:Int) (su sd:Bool) (k:Nat) (hk:1500≤k):collect_Check.f k fl f d su sd I U D=some (if U8 fl f d I U D then 0 else 200):=by
  unfold collect_Check.f
  have bad:=Mp (I:=I) (U:=U) (D:=D) fl f d su sd k hk
  by_cases c1:fl<2
  · rw[if_pos c1,bad]
    unfold U8
    rw[decide_eq_false (by omega),Bool.and_false]
    rfl
  rw[if_neg c1]
  by_cases c2:fl>64
  · rw[if_pos c2,bad]
    unfold U8
    rw[decide_eq_false (by omega),Bool.and_false]
    rfl
  rw[if_neg c2]
  by_cases c3:f<0
  · rw[if_pos c3,bad]
    unfold U8
    rw[decide_eq_false (by omega),Bool.and_false]
    rfl
  rw[if_neg c3]
  by_cases c4:f≥fl
  · rw[if_pos c4,bad]
    unfold U8
    rw[decide_eq_false (by omega),Bool.and_false]
    rfl
  rw[if_neg c4]
  by_cases c5:d < -1
  · rw[if_pos c5,bad]
    unfold U8
    rw[decide_eq_false (by omega),Bool.and_false]
    rfl
  rw[if_neg c5]
  by_cases c6:d>1
  · rw[decide_eq_true c6,bad]
    unfold U8
    rw[decide_eq_false (by omega),Bool.and_false]
    rfl
  · rw[decide_eq_false c6,Wy h fl f d su sd k hk]
    unfold U8
    rw[decide_eq_true (by omega),Bool.and_true]
theorem Wm (l:List Int) (fl:Int) (hm:l.length≤1000) (j:Nat):∀ (f i:Nat),i+j=l.length→2 * j+1<f → -1≤X0 l i→newelref20_rises.l0 f l fl (i:Int)=some (Yg fl (X0 l i) (l.drop i)):=by
  induction j with
  |zero=>
    intro f i hi hf hp
    obtain⟨f,rfl⟩:∃ m,f=m+1:=⟨f-1,by omega⟩
    rw[newelref20_rises.l0,if_neg (by omega),List.drop_of_length_le (by omega)]
    rfl
  |succ j ih=>
    intro f i hi hf hp
    obtain⟨f,rfl⟩:∃ m,f=m+2:=⟨f-2,by omega⟩
    have ha:i<l.length:=by omega
    have go:0≤l[i]→newelref20_rises.l0 f l fl (wrap64 ((i:Int)+1))=some (Yg fl l[i] (l.drop (i+1))):=by
      intro X
      rw[up1 (by omega),ih f (i+1) (by omega) (by omega) (by rw[J3 l i ha];omega),J3 l i ha]
    have bad:newelref20_rises.j1 (f+1) l fl (i:Int) true=some false:=by
      rw[newelref20_rises.j1,if_pos rfl]
    have good:0≤l[i]→l[i]<fl→newelref20_rises.j1 (f+1) l fl (i:Int) false=some (Yg fl (X0 l i) (l.drop i)):=by
      intro X h1
      rw[newelref20_rises.j1,if_neg (by decide),Kx l i ha,Yg]
      by_cases c3:i=0
      · have hv:X0 l i = -1:=by unfold X0;rw[if_pos c3]
        rw[if_neg (by omega),go (by omega),hv,decide_eq_true (by omega),Bool.true_and]
      · have ew:wrap64 ((i:Int)-1)=((i-1:Nat):Int):=by rw[w64 (by omega) (by omega)];omega
        have hv:X0 l i=rd l ((i-1:Nat):Int):=by unfold X0;rw[if_neg c3]
        rw[if_pos (by omega),if_pos (by omega),if_pos (by omega),ew,if_pos (by omega),if_pos (by omega),← hv,Ld l i ha]
        by_cases c4:l[i]≤X0 l i
        · rw[if_pos c4,decide_eq_false (by omega),Bool.false_and]
        · rw[if_neg c4,go (by omega),decide_eq_true (by omega),Bool.true_and]
    rw[newelref20_rises.l0,if_pos (by omega),if_pos (by omega),Ld l i ha]
    by_cases c1:l[i]<0
    · rw[if_pos c1,bad,Kx l i ha,Yg,decide_eq_false (by omega),Bool.false_and]
    rw[if_neg c1]
    by_cases c2:l[i]≥fl
    · rw[decide_eq_true c2,bad,Kx l i ha,Yg,decide_eq_false (by omega),Bool.false_and]
    · rw[decide_eq_false c2,good (by omega) (by omega)]
theorem Gm (l:List Int) (fl:Int) (hm:l.length≤1000) (f:Nat) (hf:2 * l.length+1<f):newelref20_rises.f f l fl=some (Yg fl (-1) l):=by
  have:=Wm l fl hm l.length f 0 (by omega) hf (by unfold X0;rw[if_pos rfl];exact Int.le_refl _)
  rw[List.drop_zero] at this
  exact this
theorem W9 (h:Few I U D) (fl:Int) (k:Nat) (hk:1500≤k):newelref20_View.f k fl I U D=some (Yg fl (-1) I&&(Yg fl (-1) U&&Yg fl (-1) D)):=by
  have:=h.i;have:=h.u;have:=h.d
  unfold newelref20_View.f
  rw[Gm I fl (by omega) k (by omega),Gm U fl (by omega) k (by omega),Gm D fl (by omega) k (by omega)]
  simp only[Option.bind_some]
  cases Yg fl (-1) I <;> cases Yg fl (-1) U <;> simp
end Go.Proofs.Ytmfffemidlhcpaa.ColPure
namespace Go.Proofs.Ytmfffemidlhcpaa.K
open Go.RowKit Go.Proofs.YtmfffemidlhcpaaW.PrintWords Go.Proofs.YtmfffemidlhcpaaW.PrintLast Go.Proofs.YtmfffemidlhcpaaW.PrintMore
attribute [local go_sem] Zv Zt Z6 Z5 Zk Zj Zu Zs
set_option linter.unusedVariables false
set_option linter.unusedSimpArgs false
def Ns:Option Int→Value
 |none=>.nilIface
 |some c=>.iface 0 (.int .i64 c)
theorem Qk:Ns none = .nilIface:=rfl
theorem Qj (c:Int):Ns (some c) = .iface 0 (.int .i64 c):=rfl
theorem Lh:(Try.prog.info? 3).map (fun i=>(i.zero,i.size,i.bytes))=some (some (.int .i64 0),1,8):=by kernel_rfl
structure S36 where
 f0:Int
 f1:Int
 f2:Int
def z36:S36:=⟨(0:Int),(0:Int),(0:Int)⟩
def k36:Kd S36:=Kd.iso (Kd.pair (Kd.int .i64) (Kd.pair (Kd.int .i64) (Kd.int .i64))) (fun x:S36=>(x.f0,x.f1,x.f2))
theorem Gt {w:World} {x:S36} {cs:List Value} (h:k36.K w x cs):cs = [.int .i64 x.f0,.int .i64 x.f1,.int .i64 x.f2]:=by
 obtain⟨_,_,rfl,rfl,⟨_,_,rfl,rfl,rfl⟩⟩:=h
 exact rfl
theorem Ya {w:World} {base:Nat} {ok:Nat→Prop} {x:S36} {cs:List Value} (h:k36.M w base ok x cs):cs = [.int .i64 x.f0,.int .i64 x.f1,.int .i64 x.f2]:=by
 obtain⟨_,_,rfl,rfl,⟨_,_,rfl,rfl,rfl⟩⟩:=h
 exact rfl
theorem Kw (w:World) (base:Nat) (ok:Nat→Prop) (x:S36):k36.M w base ok x [.int .i64 x.f0,.int .i64 x.f1,.int .i64 x.f2]:=⟨[.int .i64 x.f0],[.int .i64 x.f1,.int .i64 x.f2],rfl,rfl,⟨[.int .i64 x.f1],[.int .i64 x.f2],rfl,rfl,rfl⟩⟩
def Qc (xs:List S36) (i:Int):S36:=xs.getD i.toNat z36
theorem Z9 {w:World} {A:Option Addr} {n:Nat} {xs:List S36} (h:Kd.C k36 w A n xs) (i:Int) (X:0≤i) (h1:i<n):∃ ad,A=some ad∧w.cell? (ad.add (i.toNat * 3))=some (.int .i64 (Qc xs i).f0)∧w.cell? ⟨(ad.add (i.toNat * 3)).block,(ad.add (i.toNat * 3)).off+1,none⟩=some (.int .i64 (Qc xs i).f1)∧w.cell? ⟨(ad.add (i.toNat * 3)).block,(ad.add (i.toNat * 3)).off+2,none⟩=some (.int .i64 (Qc xs i).f2):=by
 obtain⟨ad,c,e,_,hK,Z⟩:=Kd.Vv h z36 i X h1
 have hc:∀ j u,c[j]?=some u→w.cell? (ad.add (i.toNat * 3+j))=some u:=Z
 obtain rfl:=Gt hK
 exact⟨ad,e,hc 0 _ rfl,by rw[← Z3 _ _ 1 (by omega)];exact hc 1 _ rfl,by rw[← Z3 _ _ 2 (by omega)];exact hc 2 _ rfl⟩
structure S86 where
 f0:Int
 f1:Int
def z86:S86:=⟨(0:Int),(0:Int)⟩
def k86:Kd S86:=Kd.iso (Kd.pair (Kd.int .i64) (Kd.int .i64)) (fun x:S86=>(x.f0,x.f1))
theorem Kv {w:World} {x:S86} {cs:List Value} (h:k86.K w x cs):cs = [.int .i64 x.f0,.int .i64 x.f1]:=by
 obtain⟨_,_,rfl,rfl,rfl⟩:=h
 exact rfl
theorem J5 {w:World} {base:Nat} {ok:Nat→Prop} {x:S86} {cs:List Value} (h:k86.M w base ok x cs):cs = [.int .i64 x.f0,.int .i64 x.f1]:=by
 obtain⟨_,_,rfl,rfl,rfl⟩:=h
 exact rfl
theorem Nb (w:World) (x:S86):k86.K w x [.int .i64 x.f0,.int .i64 x.f1]:=⟨[.int .i64 x.f0],[.int .i64 x.f1],rfl,rfl,rfl⟩
theorem V6 (w:World) (base:Nat) (ok:Nat→Prop) (x:S86):k86.M w base ok x [.int .i64 x.f0,.int .i64 x.f1]:=⟨[.int .i64 x.f0],[.int .i64 x.f1],rfl,rfl,rfl⟩
def Qt (xs:List S86) (i:Int):S86:=xs.getD i.toNat z86
theorem Yc {w:World} {A:Option Addr} {n:Nat} {xs:List S86} (h:Kd.C k86 w A n xs) (i:Int) (X:0≤i) (h1:i<n):∃ ad,A=some ad∧w.cell? (ad.add (i.toNat * 2))=some (.int .i64 (Qt xs i).f0)∧w.cell? ⟨(ad.add (i.toNat * 2)).block,(ad.add (i.toNat * 2)).off+1,none⟩=some (.int .i64 (Qt xs i).f1):=by
 obtain⟨ad,c,e,_,hK,Z⟩:=Kd.Vv h z86 i X h1
 have hc:∀ j u,c[j]?=some u→w.cell? (ad.add (i.toNat * 2+j))=some u:=Z
 obtain rfl:=Kv hK
 exact⟨ad,e,hc 0 _ rfl,by rw[← Z3 _ _ 1 (by omega)];exact hc 1 _ rfl⟩
def cmp_Or_int.l0:Nat→Int→List Int→Int→Int→Option (Int)
 |0,_,_,_,_=>none
 |k+1,B,x6,x7,x8=>if x8<x7 then (if 0≤x8 then (if x8<(x6.length:Int) then (if (rd x6 x8)=B then (cmp_Or_int.l0 k B x6 x7 (wrap64 (x8+1))) else (some (rd x6 x8))) else (none)) else (none)) else (some B)
def cmp_Or_int.f (k:Nat) (l0:List Int):Option (Int):=cmp_Or_int.l0 k 0 l0 (l0.length:Int) 0
set_option maxHeartbeats 8000000 in
set_option maxRecDepth 100000 in
theorem cmp_Or_int.calls (k:Nat) (A0:Option Addr) (c0:Nat) (l0:List Int) (r:Int) (w:World) (ζ :Kd.C (Kd.int .i64) w A0 l0.length l0) (Z:l0.length≤c0) (h:cmp_Or_int.f k l0=some r):
  Calls Try.prog 80 #[.slice A0 l0.length c0] w fun e w'=>e = .returned (.int .i64 r)∧Drawn0 w w':=by
 have η :=Aside0.mk ζ
 have ac:=Aside0.mk Z
 clear ζ Z
 have H:(cmp_Or_int.l0 k 0 l0 (l0.length:Int) 0)=some r:=h
 clear h
 have H':=Aside0.mk H
 clear H
 go_enter Try.func80,Try.ntmps80
 go_wp2
 go_loopg [8] k (fun kq v8 w'=>∃ (B:Int),v8 = .int .i64 B∧Aside0 (cmp_Or_int.l0 kq 0 l0 (l0.length:Int) B=some r)∧Aside0 (kq≤k)∧Drawn0 w w')
 case atStart=>exact⟨(0),qR,H',⟨Nat.le_refl _⟩,by repeat(first|exact Drawn0.refl _|apply Drawn0.step)⟩
 case round=>
  clear H'
  obtain⟨B,rfl,HA,ao,⟨m1,rfl⟩⟩:=hrel
  cases gk with
  |zero=>exact absurd HA.out (by simp[cmp_Or_int.l0])
  |succ k1=>
   have H:=HA.out
   clear HA
   simp only[cmp_Or_int.l0] at H
   by_cases c2:B<(l0.length:Int)
   ·rw[if_pos c2] at H
    have c2b0:decide (B<(l0.length:Int))=true:=decide_eq_true c2
    clear c2
    by_cases c3:0≤B
    ·rw[if_pos c3] at H
     have c3b0:decide (0≤B)=true:=decide_eq_true c3
     clear c3
     by_cases c4:B<(l0.length:Int)
     ·rw[if_pos c4] at H
      have c4b0:decide (B<(l0.length:Int))=true:=decide_eq_true c4
      clear c4
      by_cases c5:(rd l0 B)=0
      ·rw[if_pos c5] at H
       have c5b0:((rd l0 B)==0)=true:=beq_iff_eq.mpr c5
       have c5b1:((rd l0 B) != 0)=false:=bne_eq_false_iff_eq.mpr c5
       clear c5
       have H':=Aside0.mk H
       clear H
       have J:0≤(B:Int):=of_decide_eq_true (by first|(with_reducible assumption)|assumption)
       have O:B<(l0.length:Int):=of_decide_eq_true (by first|(with_reducible assumption)|assumption)
       obtain⟨γ,X,Y⟩:=Kd.Yv η.out B J O
       cases X
       replace J:=eq_true J
       replace O:=eq_true O
       go_wp2
       go_roundg k1
       case measure=>have:=ao.out;omega
       case rel=>exact⟨(wrap64 (B+1)),qR,H',⟨by have:=ao.out;omega⟩,by repeat(first|exact Drawn0.refl _|apply Drawn0.step)⟩
      ·rw[if_neg c5] at H
       have c5b0:((rd l0 B)==0)=false:=beq_eq_false_iff_ne.mpr c5
       have c5b1:((rd l0 B) != 0)=true:=bne_iff_ne.mpr c5
       obtain rfl:=Option.some.inj H
       have J:0≤(B:Int):=of_decide_eq_true (by first|(with_reducible assumption)|assumption)
       have O:B<(l0.length:Int):=of_decide_eq_true (by first|(with_reducible assumption)|assumption)
       obtain⟨γ,X,Y⟩:=Kd.Yv η.out B J O
       cases X
       replace J:=eq_true J
       replace O:=eq_true O
       go_wp2
       go_ret
       exact⟨qR,by repeat(first|exact Drawn0.refl _|apply Drawn0.step)⟩
     ·rw[if_neg c4] at H
      exact absurd H (by simp)
    ·rw[if_neg c3] at H
     exact absurd H (by simp)
   ·rw[if_neg c2] at H
    have c2b0:decide (B<(l0.length:Int))=false:=decide_eq_false c2
    clear c2
    obtain rfl:=Option.some.inj H
    go_wp2
    go_ret
    exact⟨qR,by repeat(first|exact Drawn0.refl _|apply Drawn0.step)⟩
def cmp_isNaN_int.f (J:Int):Option (Bool):=some (J != J)
set_option maxHeartbeats 8000000 in
set_option maxRecDepth 100000 in
theorem cmp_isNaN_int.calls (J:Int) (r:Bool) (w:World) (h:cmp_isNaN_int.f J=some r):
  Calls Try.prog 94 #[.int .i64 J] w fun e w'=>e = .returned (.bool r)∧Drawn0 w w':=by
 have H:(some (J != J))=some r:=h
 clear h
 obtain rfl:=Option.some.inj H
 go_enter Try.func94,Try.ntmps94
 go_wp2
 go_ret
 exact⟨qR,by repeat(first|exact Drawn0.refl _|apply Drawn0.step)⟩
def cmp_Compare_int.f (J:Int) (Y:Int):Option (Int):=(cmp_isNaN_int.f J).bind fun B=>((cmp_isNaN_int.f Y).bind fun δ =>(if B=true then (if δ = true then (some 0) else (some (-1))) else (if δ = true then (some 1) else (if J<Y then (some (-1)) else (if J>Y then (some 1) else (some 0))))))
set_option maxHeartbeats 8000000 in
set_option maxRecDepth 100000 in
theorem cmp_Compare_int.calls (J:Int) (Y:Int) (r:Int) (w:World) (h:cmp_Compare_int.f J Y=some r):
  Calls Try.prog 81 #[.int .i64 J,.int .i64 Y] w fun e w'=>e = .returned (.int .i64 r)∧Drawn0 w w':=by
 have H:((cmp_isNaN_int.f J).bind fun B=>((cmp_isNaN_int.f Y).bind fun δ =>(if B=true then (if δ = true then (some 0) else (some (-1))) else (if δ = true then (some 1) else (if J<Y then (some (-1)) else (if J>Y then (some 1) else (some 0)))))))=some r:=h
 clear h
 replace H:=Option.bind_eq_some_iff.mp H
 obtain⟨B,a5,H⟩:=H
 replace H:((cmp_isNaN_int.f Y).bind fun δ =>(if B=true then (if δ = true then (some 0) else (some (-1))) else (if δ = true then (some 1) else (if J<Y then (some (-1)) else (if J>Y then (some 1) else (some 0))))))=some r:=H
 have A3:=Aside0.mk a5
 clear a5
 replace H:=Option.bind_eq_some_iff.mp H
 obtain⟨δ,d4,H⟩:=H
 replace H:(if B=true then (if δ = true then (some 0) else (some (-1))) else (if δ = true then (some 1) else (if J<Y then (some (-1)) else (if J>Y then (some 1) else (some 0)))))=some r:=H
 have A4:=Aside0.mk d4
 clear d4
 by_cases c5:B=true
 ·subst c5
  have H1:(if δ = true then (some 0) else (some (-1)))=some r:=by rw[if_pos rfl] at H;exact H
  clear H
  have H:=H1
  clear H1
  by_cases c6: δ = true
  ·subst c6
   have H1:(some 0)=some r:=by rw[if_pos rfl] at H;exact H
   clear H
   have H:=H1
   clear H1
   obtain rfl:=Option.some.inj H
   go_enter Try.func81,Try.ntmps81
   go_wp2_with (first|((with_reducible refine Qp (f:=94) rfl ?_);refine Q4 (some 8) rfl rfl Try.func94 kr rfl #[.int .i64 J] rfl (by(try simp only[List.map_toArray,List.map_cons,List.map_nil]);first|done|rfl|(simp only[List.length_drop,List.length_take];rfl)) ?_;(with_reducible refine(cmp_isNaN_int.calls J true _ A3.out).mono ?_);rintro e w' ⟨rfl,⟨nd,rfl⟩⟩;refine⟨_,rfl, ?_⟩)|((with_reducible refine Qp (f:=94) rfl ?_);refine Q4 (some 10) rfl rfl Try.func94 kr rfl #[.int .i64 Y] rfl (by(try simp only[List.map_toArray,List.map_cons,List.map_nil]);first|done|rfl|(simp only[List.length_drop,List.length_take];rfl)) ?_;(with_reducible refine(cmp_isNaN_int.calls Y true _ A4.out).mono ?_);rintro e w' ⟨rfl,⟨nd,rfl⟩⟩;refine⟨_,rfl, ?_⟩))
   go_ret
   exact⟨qR,by repeat(first|exact Drawn0.refl _|apply Drawn0.step)⟩
  ·replace c6:=Bool.eq_false_iff.mpr c6
   subst c6
   have H1:(some (-1))=some r:=by rw[if_neg (show ¬ (false=true) by decide)] at H;exact H
   clear H
   have H:=H1
   clear H1
   obtain rfl:=Option.some.inj H
   go_enter Try.func81,Try.ntmps81
   go_wp2_with (first|((with_reducible refine Qp (f:=94) rfl ?_);refine Q4 (some 8) rfl rfl Try.func94 kr rfl #[.int .i64 J] rfl (by(try simp only[List.map_toArray,List.map_cons,List.map_nil]);first|done|rfl|(simp only[List.length_drop,List.length_take];rfl)) ?_;(with_reducible refine(cmp_isNaN_int.calls J true _ A3.out).mono ?_);rintro e w' ⟨rfl,⟨nd,rfl⟩⟩;refine⟨_,rfl, ?_⟩)|((with_reducible refine Qp (f:=94) rfl ?_);refine Q4 (some 10) rfl rfl Try.func94 kr rfl #[.int .i64 Y] rfl (by(try simp only[List.map_toArray,List.map_cons,List.map_nil]);first|done|rfl|(simp only[List.length_drop,List.length_take];rfl)) ?_;(with_reducible refine(cmp_isNaN_int.calls Y false _ A4.out).mono ?_);rintro e w' ⟨rfl,⟨nd,rfl⟩⟩;refine⟨_,rfl, ?_⟩))
   go_ret
   exact⟨qR,by repeat(first|exact Drawn0.refl _|apply Drawn0.step)⟩
 ·replace c5:=Bool.eq_false_iff.mpr c5
  subst c5
  have H1:(if δ = true then (some 1) else (if J<Y then (some (-1)) else (if J>Y then (some 1) else (some 0))))=some r:=by rw[if_neg (show ¬ (false=true) by decide)] at H;exact H
  clear H
  have H:=H1
  clear H1
  by_cases c7: δ = true
  ·subst c7
   have H1:(some 1)=some r:=by rw[if_pos rfl] at H;exact H
   clear H
   have H:=H1
   clear H1
   obtain rfl:=Option.some.inj H
   go_enter Try.func81,Try.ntmps81
   go_wp2_with (first|((with_reducible refine Qp (f:=94) rfl ?_);refine Q4 (some 8) rfl rfl Try.func94 kr rfl #[.int .i64 J] rfl (by(try simp only[List.map_toArray,List.map_cons,List.map_nil]);first|done|rfl|(simp only[List.length_drop,List.length_take];rfl)) ?_;(with_reducible refine(cmp_isNaN_int.calls J false _ A3.out).mono ?_);rintro e w' ⟨rfl,⟨nd,rfl⟩⟩;refine⟨_,rfl, ?_⟩)|((with_reducible refine Qp (f:=94) rfl ?_);refine Q4 (some 10) rfl rfl Try.func94 kr rfl #[.int .i64 Y] rfl (by(try simp only[List.map_toArray,List.map_cons,List.map_nil]);first|done|rfl|(simp only[List.length_drop,List.length_take];rfl)) ?_;(with_reducible refine(cmp_isNaN_int.calls Y true _ A4.out).mono ?_);rintro e w' ⟨rfl,⟨nd,rfl⟩⟩;refine⟨_,rfl, ?_⟩))
   go_ret
   exact⟨qR,by repeat(first|exact Drawn0.refl _|apply Drawn0.step)⟩
  ·replace c7:=Bool.eq_false_iff.mpr c7
   subst c7
   have H1:(if J<Y then (some (-1)) else (if J>Y then (some 1) else (some 0)))=some r:=by rw[if_neg (show ¬ (false=true) by decide)] at H;exact H
   clear H
   have H:=H1
   clear H1
   by_cases c8:J<Y
   ·rw[if_pos c8] at H
    have c8b0:decide (J<Y)=true:=decide_eq_true c8
    clear c8
    obtain rfl:=Option.some.inj H
    go_enter Try.func81,Try.ntmps81
    go_wp2_with (first|((with_reducible refine Qp (f:=94) rfl ?_);refine Q4 (some 8) rfl rfl Try.func94 kr rfl #[.int .i64 J] rfl (by(try simp only[List.map_toArray,List.map_cons,List.map_nil]);first|done|rfl|(simp only[List.length_drop,List.length_take];rfl)) ?_;(with_reducible refine(cmp_isNaN_int.calls J false _ A3.out).mono ?_);rintro e w' ⟨rfl,⟨nd,rfl⟩⟩;refine⟨_,rfl, ?_⟩)|((with_reducible refine Qp (f:=94) rfl ?_);refine Q4 (some 10) rfl rfl Try.func94 kr rfl #[.int .i64 Y] rfl (by(try simp only[List.map_toArray,List.map_cons,List.map_nil]);first|done|rfl|(simp only[List.length_drop,List.length_take];rfl)) ?_;(with_reducible refine(cmp_isNaN_int.calls Y false _ A4.out).mono ?_);rintro e w' ⟨rfl,⟨nd,rfl⟩⟩;refine⟨_,rfl, ?_⟩))
    go_ret
    exact⟨qR,by repeat(first|exact Drawn0.refl _|apply Drawn0.step)⟩
   ·rw[if_neg c8] at H
    have c8b0:decide (J<Y)=false:=decide_eq_false c8
    clear c8
    by_cases c9:J>Y
    ·rw[if_pos c9] at H
     have c9b0:decide (Y<J)=true:=decide_eq_true c9
     clear c9
     obtain rfl:=Option.some.inj H
     go_enter Try.func81,Try.ntmps81
     go_wp2_with (first|((with_reducible refine Qp (f:=94) rfl ?_);refine Q4 (some 8) rfl rfl Try.func94 kr rfl #[.int .i64 J] rfl (by(try simp only[List.map_toArray,List.map_cons,List.map_nil]);first|done|rfl|(simp only[List.length_drop,List.length_take];rfl)) ?_;(with_reducible refine(cmp_isNaN_int.calls J false _ A3.out).mono ?_);rintro e w' ⟨rfl,⟨nd,rfl⟩⟩;refine⟨_,rfl, ?_⟩)|((with_reducible refine Qp (f:=94) rfl ?_);refine Q4 (some 10) rfl rfl Try.func94 kr rfl #[.int .i64 Y] rfl (by(try simp only[List.map_toArray,List.map_cons,List.map_nil]);first|done|rfl|(simp only[List.length_drop,List.length_take];rfl)) ?_;(with_reducible refine(cmp_isNaN_int.calls Y false _ A4.out).mono ?_);rintro e w' ⟨rfl,⟨nd,rfl⟩⟩;refine⟨_,rfl, ?_⟩))
     go_ret
     exact⟨qR,by repeat(first|exact Drawn0.refl _|apply Drawn0.step)⟩
    ·rw[if_neg c9] at H
     have c9b0:decide (Y<J)=false:=decide_eq_false c9
     clear c9
     obtain rfl:=Option.some.inj H
     go_enter Try.func81,Try.ntmps81
     go_wp2_with (first|((with_reducible refine Qp (f:=94) rfl ?_);refine Q4 (some 8) rfl rfl Try.func94 kr rfl #[.int .i64 J] rfl (by(try simp only[List.map_toArray,List.map_cons,List.map_nil]);first|done|rfl|(simp only[List.length_drop,List.length_take];rfl)) ?_;(with_reducible refine(cmp_isNaN_int.calls J false _ A3.out).mono ?_);rintro e w' ⟨rfl,⟨nd,rfl⟩⟩;refine⟨_,rfl, ?_⟩)|((with_reducible refine Qp (f:=94) rfl ?_);refine Q4 (some 10) rfl rfl Try.func94 kr rfl #[.int .i64 Y] rfl (by(try simp only[List.map_toArray,List.map_cons,List.map_nil]);first|done|rfl|(simp only[List.length_drop,List.length_take];rfl)) ?_;(with_reducible refine(cmp_isNaN_int.calls Y false _ A4.out).mono ?_);rintro e w' ⟨rfl,⟨nd,rfl⟩⟩;refine⟨_,rfl, ?_⟩))
     go_ret
     exact⟨qR,by repeat(first|exact Drawn0.refl _|apply Drawn0.step)⟩
def call_halls_1.f (k:Nat) (J:Int) (O:Int) (X:Int) (ι :Int) (ε :Int) (κ :Int):Option (Int):=(cmp_Compare_int.f J ι).bind fun ζ =>((cmp_Compare_int.f O ε).bind fun ρ=>((cmp_Or_int.f k (([ζ,ρ]:List Int))).bind fun γ=>(some γ)))
def call_halls_1.T1:Bool×List (List Nat×List Nat):=(true,[([],[]),([0],[0]),([],[]),([2],[2]),([1,3],[1,3]),([],[]),([5],[5]),([],[]),([7],[7]),([6,8,4],[6,8]),([4,9],[4,9]),([10,9],[10]),([11,11,0,1,2,3,4,5,6,7,8,9,10,11],[11])])
def call_halls_1.B1:List Nat:=[0,1,0,4,15,0,32,0,128,511,1023,2047,4095]
theorem call_halls_1.Kp:rtab .any (opsOf Try.f79 1)=call_halls_1.T1:=by kernel_rfl
theorem call_halls_1.Y7:Zq call_halls_1.T1.2 call_halls_1.B1=true:=by kernel_rfl
set_option maxHeartbeats 8000000 in
set_option maxRecDepth 100000 in
theorem call_halls_1.calls (k:Nat) (J:Int) (O:Int) (X:Int) (ι :Int) (ε :Int) (κ :Int) (r:Int) (w:World) (h:call_halls_1.f k J O X ι ε κ = some r):
  Calls Try.prog 79 #[.agg #[.int .i64 J,.int .i64 O,.int .i64 X],.agg #[.int .i64 ι,.int .i64 ε,.int .i64 κ]] w fun e w'=>e = .returned (.int .i64 r)∧Below w.heap.size w w':=by
 have dm:=Try.underlying36
 have HB:=Aside0.mk (Below.refl w.heap.size w)
 have H:((cmp_Compare_int.f J ι).bind fun ζ =>((cmp_Compare_int.f O ε).bind fun ρ=>((cmp_Or_int.f k (([ζ,ρ]:List Int))).bind fun γ=>(some γ))))=some r:=h
 clear h
 replace H:=Option.bind_eq_some_iff.mp H
 obtain⟨ζ,a5,H⟩:=H
 replace H:((cmp_Compare_int.f O ε).bind fun ρ=>((cmp_Or_int.f k (([ζ,ρ]:List Int))).bind fun γ=>(some γ)))=some r:=H
 have A3:=Aside0.mk a5
 clear a5
 replace H:=Option.bind_eq_some_iff.mp H
 obtain⟨ρ,d4,H⟩:=H
 replace H:((cmp_Or_int.f k (([ζ,ρ]:List Int))).bind fun γ=>(some γ))=some r:=H
 have A4:=Aside0.mk d4
 clear d4
 obtain⟨θ,Z⟩:∃ y_:List Int,y_=(([ζ,ρ]:List Int)):=⟨_,rfl⟩
 replace H:((cmp_Or_int.f k θ).bind fun γ=>(some γ))=some r:=by first|(rw[Z];with_reducible exact H)|(have an:=(Option.bind_some _ _).symm.trans H;rw[Z];with_reducible exact an)|(have an:=(Option.bind_some _ _).symm.trans H;with_reducible exact an)|with_reducible exact H|(rw[Z];exact H)|exact H
 have aw:=Aside0.mk Z
 clear Z
 replace H:=Option.bind_eq_some_iff.mp H
 obtain⟨γ,bv,H⟩:=H
 replace H:(some γ)=some r:=H
 have A5:=Aside0.mk bv
 clear bv
 obtain rfl:=Option.some.inj H
 go_enter Try.func79,Try.ntmps79
 try go_wp2_with (first|((with_reducible refine Qf (N:=2) rfl ?_);refine Zg ?hg (N:=2) ?hd (cs:=#[.int .i64 J,.int .i64 O,.int .i64 X]) (t:=36) ?hr ?_;(case hd=>rfl);(case hg=>rfl);(case hr=>first|(go_simp;done)|(go_simp;rfl));intro φ hg w6 hbox hb;have μ :=Aside0.mk (Q0 (by repeat(first|(with_reducible first|exact HB.out|apply Qu|apply Qi|apply Qg)|exact HB.out)) hb);have ξ :=Aside0.mk (hbox);have a3:=Aside0.mk ((by rw[hg];exact(Qh (by repeat(first|(with_reducible first|exact HB.out|apply Qu|apply Qi|apply Qg)|exact HB.out))):w.heap.size ≤ φ));have a4:=Aside0.mk ((by rw[hg];exact(Qh (by repeat(first|(with_reducible first|exact HB.out|apply Qu|apply Qi|apply Qg)|exact HB.out))):w.heap.size ≤ φ));clear HB;have HB:= μ;have δ := ξ;have bd:=a3;have ax:=a4;clear μ ξ a3 a4;clear hb hbox hg)|((with_reducible refine Qf (N:=3) rfl ?_);refine Zg ?hg (N:=3) ?hd (cs:=#[.int .i64 ι,.int .i64 ε,.int .i64 κ]) (t:=36) ?hr ?_;(case hd=>rfl);(case hg=>rfl);(case hr=>first|(go_simp;done)|(go_simp;rfl));intro ν hg w7 hbox hb;have μ :=Aside0.mk (Qy (g:= φ) (o:=.cells #[.int .i64 J,.int .i64 O,.int .i64 X] 36 (0,0)) (by(with_reducible repeat first|refine Qn ?_ _|refine Qe ?_|refine Qo ?_ _);exact δ.out) hb);have ξ :=Aside0.mk (Q0 (by repeat(first|(with_reducible first|exact HB.out|apply Qu|apply Qi|apply Qg|refine Qx ?_ ax.out)|exact HB.out)) hb);have a3:=Aside0.mk (hbox);have a4:=Aside0.mk ((by rw[hg];exact(Qh (by repeat(first|(with_reducible first|exact HB.out|apply Qu|apply Qi|apply Qg|refine Qx ?_ ax.out)|exact HB.out))):w.heap.size ≤ ν));have al:=Aside0.mk ((by rw[hg];exact(Qh (by repeat(first|(with_reducible first|exact HB.out|apply Qu|apply Qi|apply Qg|refine Qx ?_ ax.out)|exact HB.out))):w.heap.size ≤ ν));have az:=Aside0.mk ((by rw[hg];exact Nat.ne_of_lt (Xi (g:= φ) (o:=.cells #[.int .i64 J,.int .i64 O,.int .i64 X] 36 (0,0)) (by(with_reducible repeat first|refine Qn ?_ _|refine Qe ?_|refine Qo ?_ _);exact δ.out)): φ ≠ ν));have b3:=Aside0.mk ((by rw[hg];exact Nat.ne_of_gt (Xi (g:= φ) (o:=.cells #[.int .i64 J,.int .i64 O,.int .i64 X] 36 (0,0)) (by(with_reducible repeat first|refine Qn ?_ _|refine Qe ?_|refine Qo ?_ _);exact δ.out)): ν ≠ φ));clear δ;clear HB;have δ := μ;have HB:= ξ;have B:=a3;have be:=a4;have b8:=al;have σ:=az;have χ :=b3;clear μ ξ a3 a4 al az b3;clear hb hbox hg))
 have μ :=Aside0.mk (Qe δ.out)
 have ξ :=Aside0.mk (Qe B.out)
 have a3:=Aside0.mk (Qg HB.out)
 clear δ
 clear B
 clear HB
 have δ := μ
 have B:= ξ
 have HB:=a3
 clear μ ξ a3
 refine Zh (n:=13) (S:=fun w'=>w'.cell? ⟨φ,0,none⟩=some (.int .i64 J)∧w'.cell? ⟨φ,1,none⟩=some (.int .i64 O)∧w'.cell? ⟨φ,2,none⟩=some (.int .i64 X)∧w'.cell? ⟨ν,0,none⟩=some (.int .i64 ι)∧w'.cell? ⟨ν,1,none⟩=some (.int .i64 ε)∧w'.cell? ⟨ν,2,none⟩=some (.int .i64 κ)) (ds:=[]) #[false,false,false,false,false,false,false,false,false,false,false,false,false] kr rfl rfl ⟨(Qa δ.out 0).trans rfl,(Qa δ.out 1).trans rfl,(Qa δ.out 2).trans rfl,(Qa B.out 0).trans rfl,(Qa B.out 1).trans rfl,(Qa B.out 2).trans rfl⟩ (fun hHeld=>?_);refine Q8 call_halls_1.Kp call_halls_1.Y7 (fun HT_ HW_=>?_)
 generalize w7.drew=w8 at δ B HB hHeld ⊢
 refine qP 0 (some 5) (qB 13 1) HT_ ?_
 refine qP 2 (some 7) (qB 13 5) HT_ ?_
 refine qP 5 (some 10) (qB 13 37) HT_ ?_
 refine qP 7 (some 12) (qB 13 165) HT_ ?_
 refine qT 1 (some 6) (qB 13 167) HT_ HW_ hHeld ?_
 refine qT 3 (some 8) (qB 13 175) HT_ HW_ hHeld ?_
 refine qT 6 (some 11) (qB 13 239) HT_ HW_ hHeld ?_
 refine qT 8 (some 13) (qB 13 495) HT_ HW_ hHeld ?_
 refine qK 4 (some 9) (qB 13 511) HT_ fun K hK=>?_
 refine Q9 Try.func81 kr rfl #[.int .i64 J,.int .i64 ι] (by rfl) rfl rfl (by(try simp only[List.map_toArray,List.map_cons,List.map_nil]);first|done|rfl|(simp only[List.length_drop,List.length_take];rfl)) ?_
 with_reducible refine(cmp_Compare_int.calls J ι ζ _ A3.out).mono ?_
 rintro e w' ⟨rfl,⟨nd,rfl⟩⟩
 refine⟨_,rfl, ?_⟩
 refine hK.out _ _ ⟨qc δ,qc δ,qc δ,qc B,qc B,qc B⟩ (fun hHeld=>?_)
 clear hK K
 refine qN (some 9) ?_
 refine qK 9 (some 14) (qB 13 1023) HT_ fun K hK=>?_
 refine Q9 Try.func81 kr rfl #[.int .i64 O,.int .i64 ε] (by rfl) rfl rfl (by(try simp only[List.map_toArray,List.map_cons,List.map_nil]);first|done|rfl|(simp only[List.length_drop,List.length_take];rfl)) ?_
 with_reducible refine(cmp_Compare_int.calls O ε ρ _ A4.out).mono ?_
 rintro e w' ⟨rfl,⟨nd,rfl⟩⟩
 refine⟨_,rfl, ?_⟩
 refine hK.out _ _ ⟨qc δ,qc δ,qc δ,qc B,qc B,qc B⟩ (fun hHeld=>?_)
 clear hK K
 refine qN (some 14) ?_
 refine qK 10 (some 15) (qB 13 2047) HT_ fun K hK=>?_
 refine Kd.Zp (Kd.int .i64) _ 3 ?hg (N:=15) ?hd (xs:=([ζ,ρ]:List Int)) (inner:=[.int .i64 ζ,.int .i64 ρ]) (ok:=fun _=>True) (okp:=fun _=>True) ?hr ?hp (fun _ hk=>hk) trivial (Below.refl _ _) (Nat.le_refl _) (by simp) ?_;(case hd=>rfl);(case hg=>rfl);(case hr=>first|(go_simp;done)|(go_simp;rfl));(case hp=>exact(Reps.one (show Kd.M (Kd.int .i64) _ _ _ ζ [.int .i64 ζ] from rfl) (Reps.one (show Kd.M (Kd.int .i64) _ _ _ ρ [.int .i64 ρ] from rfl) (Reps.none _ _))))
 intro a0 w9 Y hb hg_ hnew_
 clear hg_ hnew_
 (first|rw[← aw.out] at Y|(simp only[Int.reduceToNat] at Y;rw[← aw.out] at Y))
 have μ :=Aside0.mk (Kd.Q3 Y (Qh (by repeat(first|(with_reducible first|exact HB.out|apply Qu|apply Qi|apply Qg|refine Qx ?_ ax.out|refine Qx ?_ b8.out)|exact HB.out))))
 have ξ :=Aside0.mk (Qy (g:= φ) (o:=.cells #[.int .i64 J,.int .i64 O,.int .i64 X] 36 (0,0)) (by(with_reducible repeat first|refine Qn ?_ _|refine Qe ?_|refine Qo ?_ _);exact δ.out) hb)
 have a3:=Aside0.mk (Qy (g:= ν) (o:=.cells #[.int .i64 ι,.int .i64 ε,.int .i64 κ] 36 (0,0)) (by(with_reducible repeat first|refine Qn ?_ _|refine Qe ?_|refine Qo ?_ _);exact B.out) hb)
 have a4:=Aside0.mk (Q0 (by repeat(first|(with_reducible first|exact HB.out|apply Qu|apply Qi|apply Qg|refine Qx ?_ ax.out|refine Qx ?_ b8.out)|exact HB.out)) hb)
 clear δ
 clear B
 clear HB
 have η := μ
 have δ := ξ
 have B:=a3
 have HB:=a4
 clear μ ξ a3 a4
 clear hb Y
 obtain⟨ψ,ω,τ⟩:=Kd.Q5 η.out
 (first|subst τ |(injection τ with ab ap ac;have ar:=ab.symm;have au:=ac.symm;clear ab ap ac;subst ar;subst au))
 refine hK.out _ _ ⟨qc δ,qc δ,qc δ,qc B,qc B,qc B⟩ (fun hHeld=>?_)
 clear hK K
 refine qN (some 15) ?_
 refine qK 11 (some 16) (qB 13 4095) HT_ fun K hK=>?_
 refine Q9 Try.func80 kr rfl #[.slice ψ θ.length ω] (by rfl) rfl rfl (by(try simp only[List.map_toArray,List.map_cons,List.map_nil]);first|done|rfl|(simp only[List.length_drop,List.length_take];rfl)) ?_
 with_reducible refine(cmp_Or_int.calls k _ _ θ γ _ ?side1 ?side2 A5.out).mono ?_
 (case side1=>repeat(first|exact(Kd.Qr η.out).2.2|(with_reducible refine Kd.Yf ?_ _)|(with_reducible refine Kd.Ye ?_ _)|(with_reducible refine Kd.Je ?_)))
 (case side2=>exact(Kd.Qr η.out).2.1)
 rintro e w' ⟨rfl,⟨nd,rfl⟩⟩
 refine⟨_,rfl, ?_⟩
 refine hK.out _ _ ⟨qc δ,qc δ,qc δ,qc B,qc B,qc B⟩ (fun hHeld=>?_)
 clear hK K
 refine qN (some 16) ?_
 refine qP 12 (some 4) (qB 13 8191) HT_ ?_
 refine Z2 (Zf HT_.out kr) ?_
 try go_wp2
 go_ret
 exact⟨by first|rfl|(simp[Qk,Qj] <;> rfl)|(simp[*,Qk,Qj] <;> rfl),by repeat(first|(with_reducible first|exact HB.out|apply Qu|apply Qi|apply Qg|refine Qx ?_ ax.out|refine Qx ?_ b8.out)|exact HB.out)⟩
def call_ins_1.f (k:Nat) (J:Int) (O:Int) (ι :Int) (ε :Int):Option (Int):=(cmp_Compare_int.f J ι).bind fun η =>((cmp_Compare_int.f O ε).bind fun δ =>((cmp_Or_int.f k (([η,δ]:List Int))).bind fun γ=>(some γ)))
def call_ins_1.T1:Bool×List (List Nat×List Nat):=(true,[([],[]),([0],[0]),([],[]),([2],[2]),([1,3],[1,3]),([],[]),([5],[5]),([],[]),([7],[7]),([6,8,4],[6,8]),([4,9],[4,9]),([10,9],[10]),([11,11,0,1,2,3,4,5,6,7,8,9,10,11],[11])])
def call_ins_1.B1:List Nat:=[0,1,0,4,15,0,32,0,128,511,1023,2047,4095]
theorem call_ins_1.Kp:rtab .any (opsOf Try.f83 1)=call_ins_1.T1:=by kernel_rfl
theorem call_ins_1.Y7:Zq call_ins_1.T1.2 call_ins_1.B1=true:=by kernel_rfl
set_option maxHeartbeats 8000000 in
set_option maxRecDepth 100000 in
theorem call_ins_1.calls (k:Nat) (J:Int) (O:Int) (ι :Int) (ε :Int) (r:Int) (w:World) (h:call_ins_1.f k J O ι ε = some r):
  Calls Try.prog 83 #[.agg #[.int .i64 J,.int .i64 O],.agg #[.int .i64 ι,.int .i64 ε]] w fun e w'=>e = .returned (.int .i64 r)∧Below w.heap.size w w':=by
 have d9:=Try.underlying86
 have HB:=Aside0.mk (Below.refl w.heap.size w)
 have H:((cmp_Compare_int.f J ι).bind fun η =>((cmp_Compare_int.f O ε).bind fun δ =>((cmp_Or_int.f k (([η,δ]:List Int))).bind fun γ=>(some γ))))=some r:=h
 clear h
 replace H:=Option.bind_eq_some_iff.mp H
 obtain⟨η,a5,H⟩:=H
 replace H:((cmp_Compare_int.f O ε).bind fun δ =>((cmp_Or_int.f k (([η,δ]:List Int))).bind fun γ=>(some γ)))=some r:=H
 have A3:=Aside0.mk a5
 clear a5
 replace H:=Option.bind_eq_some_iff.mp H
 obtain⟨δ,d4,H⟩:=H
 replace H:((cmp_Or_int.f k (([η,δ]:List Int))).bind fun γ=>(some γ))=some r:=H
 have A4:=Aside0.mk d4
 clear d4
 obtain⟨ζ,κ⟩:∃ y_:List Int,y_=(([η,δ]:List Int)):=⟨_,rfl⟩
 replace H:((cmp_Or_int.f k ζ).bind fun γ=>(some γ))=some r:=by first|(rw[κ];with_reducible exact H)|(have an:=(Option.bind_some _ _).symm.trans H;rw[κ];with_reducible exact an)|(have an:=(Option.bind_some _ _).symm.trans H;with_reducible exact an)|with_reducible exact H|(rw[κ];exact H)|exact H
 have σ:=Aside0.mk κ
 clear κ
 replace H:=Option.bind_eq_some_iff.mp H
 obtain⟨γ,bv,H⟩:=H
 replace H:(some γ)=some r:=H
 have A5:=Aside0.mk bv
 clear bv
 obtain rfl:=Option.some.inj H
 go_enter Try.func83,Try.ntmps83
 try go_wp2_with (first|((with_reducible refine Qf (N:=2) rfl ?_);refine Zg ?hg (N:=2) ?hd (cs:=#[.int .i64 J,.int .i64 O]) (t:=86) ?hr ?_;(case hd=>rfl);(case hg=>rfl);(case hr=>first|(go_simp;done)|(go_simp;rfl));intro Z hg w6 hbox hb;have μ :=Aside0.mk (Q0 (by repeat(first|(with_reducible first|exact HB.out|apply Qu|apply Qi|apply Qg)|exact HB.out)) hb);have ξ :=Aside0.mk (hbox);have a3:=Aside0.mk ((by rw[hg];exact(Qh (by repeat(first|(with_reducible first|exact HB.out|apply Qu|apply Qi|apply Qg)|exact HB.out))):w.heap.size≤Z));have a4:=Aside0.mk ((by rw[hg];exact(Qh (by repeat(first|(with_reducible first|exact HB.out|apply Qu|apply Qi|apply Qg)|exact HB.out))):w.heap.size≤Z));clear HB;have HB:= μ;have X:= ξ;have ax:=a3;have a7:=a4;clear μ ξ a3 a4;clear hb hbox hg)|((with_reducible refine Qf (N:=3) rfl ?_);refine Zg ?hg (N:=3) ?hd (cs:=#[.int .i64 ι,.int .i64 ε]) (t:=86) ?hr ?_;(case hd=>rfl);(case hg=>rfl);(case hr=>first|(go_simp;done)|(go_simp;rfl));intro θ hg w7 hbox hb;have μ :=Aside0.mk (Qy (g:=Z) (o:=.cells #[.int .i64 J,.int .i64 O] 86 (0,0)) (by(with_reducible repeat first|refine Qn ?_ _|refine Qe ?_|refine Qo ?_ _);exact X.out) hb);have ξ :=Aside0.mk (Q0 (by repeat(first|(with_reducible first|exact HB.out|apply Qu|apply Qi|apply Qg|refine Qx ?_ a7.out)|exact HB.out)) hb);have a3:=Aside0.mk (hbox);have a4:=Aside0.mk ((by rw[hg];exact(Qh (by repeat(first|(with_reducible first|exact HB.out|apply Qu|apply Qi|apply Qg|refine Qx ?_ a7.out)|exact HB.out))):w.heap.size ≤ θ));have al:=Aside0.mk ((by rw[hg];exact(Qh (by repeat(first|(with_reducible first|exact HB.out|apply Qu|apply Qi|apply Qg|refine Qx ?_ a7.out)|exact HB.out))):w.heap.size ≤ θ));have az:=Aside0.mk ((by rw[hg];exact Nat.ne_of_lt (Xi (g:=Z) (o:=.cells #[.int .i64 J,.int .i64 O] 86 (0,0)) (by(with_reducible repeat first|refine Qn ?_ _|refine Qe ?_|refine Qo ?_ _);exact X.out)):Z ≠ θ));have b3:=Aside0.mk ((by rw[hg];exact Nat.ne_of_gt (Xi (g:=Z) (o:=.cells #[.int .i64 J,.int .i64 O] 86 (0,0)) (by(with_reducible repeat first|refine Qn ?_ _|refine Qe ?_|refine Qo ?_ _);exact X.out)): θ ≠ Z));clear X;clear HB;have X:= μ;have HB:= ξ;have B:=a3;have a0:=a4;have ν :=al;have φ :=az;have χ :=b3;clear μ ξ a3 a4 al az b3;clear hb hbox hg))
 have μ :=Aside0.mk (Qe X.out)
 have ξ :=Aside0.mk (Qe B.out)
 have a3:=Aside0.mk (Qg HB.out)
 clear X
 clear B
 clear HB
 have X:= μ
 have B:= ξ
 have HB:=a3
 clear μ ξ a3
 refine Zh (n:=13) (S:=fun w'=>w'.cell? ⟨Z,0,none⟩=some (.int .i64 J)∧w'.cell? ⟨Z,1,none⟩=some (.int .i64 O)∧w'.cell? ⟨θ,0,none⟩=some (.int .i64 ι)∧w'.cell? ⟨θ,1,none⟩=some (.int .i64 ε)) (ds:=[]) #[false,false,false,false,false,false,false,false,false,false,false,false,false] kr rfl rfl ⟨(Qa X.out 0).trans rfl,(Qa X.out 1).trans rfl,(Qa B.out 0).trans rfl,(Qa B.out 1).trans rfl⟩ (fun hHeld=>?_);refine Q8 call_ins_1.Kp call_ins_1.Y7 (fun HT_ HW_=>?_)
 generalize w7.drew=w8 at X B HB hHeld ⊢
 refine qP 0 (some 5) (qB 13 1) HT_ ?_
 refine qP 2 (some 7) (qB 13 5) HT_ ?_
 refine qP 5 (some 10) (qB 13 37) HT_ ?_
 refine qP 7 (some 12) (qB 13 165) HT_ ?_
 refine qT 1 (some 6) (qB 13 167) HT_ HW_ hHeld ?_
 refine qT 3 (some 8) (qB 13 175) HT_ HW_ hHeld ?_
 refine qT 6 (some 11) (qB 13 239) HT_ HW_ hHeld ?_
 refine qT 8 (some 13) (qB 13 495) HT_ HW_ hHeld ?_
 refine qK 4 (some 9) (qB 13 511) HT_ fun K hK=>?_
 refine Q9 Try.func81 kr rfl #[.int .i64 J,.int .i64 ι] (by rfl) rfl rfl (by(try simp only[List.map_toArray,List.map_cons,List.map_nil]);first|done|rfl|(simp only[List.length_drop,List.length_take];rfl)) ?_
 with_reducible refine(cmp_Compare_int.calls J ι η _ A3.out).mono ?_
 rintro e w' ⟨rfl,⟨nd,rfl⟩⟩
 refine⟨_,rfl, ?_⟩
 refine hK.out _ _ ⟨qc X,qc X,qc B,qc B⟩ (fun hHeld=>?_)
 clear hK K
 refine qN (some 9) ?_
 refine qK 9 (some 14) (qB 13 1023) HT_ fun K hK=>?_
 refine Q9 Try.func81 kr rfl #[.int .i64 O,.int .i64 ε] (by rfl) rfl rfl (by(try simp only[List.map_toArray,List.map_cons,List.map_nil]);first|done|rfl|(simp only[List.length_drop,List.length_take];rfl)) ?_
 with_reducible refine(cmp_Compare_int.calls O ε δ _ A4.out).mono ?_
 rintro e w' ⟨rfl,⟨nd,rfl⟩⟩
 refine⟨_,rfl, ?_⟩
 refine hK.out _ _ ⟨qc X,qc X,qc B,qc B⟩ (fun hHeld=>?_)
 clear hK K
 refine qN (some 14) ?_
 refine qK 10 (some 15) (qB 13 2047) HT_ fun K hK=>?_
 refine Kd.Zp (Kd.int .i64) _ 3 ?hg (N:=15) ?hd (xs:=([η,δ]:List Int)) (inner:=[.int .i64 η,.int .i64 δ]) (ok:=fun _=>True) (okp:=fun _=>True) ?hr ?hp (fun _ hk=>hk) trivial (Below.refl _ _) (Nat.le_refl _) (by simp) ?_;(case hd=>rfl);(case hg=>rfl);(case hr=>first|(go_simp;done)|(go_simp;rfl));(case hp=>exact(Reps.one (show Kd.M (Kd.int .i64) _ _ _ η [.int .i64 η] from rfl) (Reps.one (show Kd.M (Kd.int .i64) _ _ _ δ [.int .i64 δ] from rfl) (Reps.none _ _))))
 intro av w9 Y hb hg_ hnew_
 clear hg_ hnew_
 (first|rw[← σ.out] at Y|(simp only[Int.reduceToNat] at Y;rw[← σ.out] at Y))
 have μ :=Aside0.mk (Kd.Q3 Y (Qh (by repeat(first|(with_reducible first|exact HB.out|apply Qu|apply Qi|apply Qg|refine Qx ?_ a7.out|refine Qx ?_ ν.out)|exact HB.out))))
 have ξ :=Aside0.mk (Qy (g:=Z) (o:=.cells #[.int .i64 J,.int .i64 O] 86 (0,0)) (by(with_reducible repeat first|refine Qn ?_ _|refine Qe ?_|refine Qo ?_ _);exact X.out) hb)
 have a3:=Aside0.mk (Qy (g:= θ) (o:=.cells #[.int .i64 ι,.int .i64 ε] 86 (0,0)) (by(with_reducible repeat first|refine Qn ?_ _|refine Qe ?_|refine Qo ?_ _);exact B.out) hb)
 have a4:=Aside0.mk (Q0 (by repeat(first|(with_reducible first|exact HB.out|apply Qu|apply Qi|apply Qg|refine Qx ?_ a7.out|refine Qx ?_ ν.out)|exact HB.out)) hb)
 clear X
 clear B
 clear HB
 have ρ:= μ
 have X:= ξ
 have B:=a3
 have HB:=a4
 clear μ ξ a3 a4
 clear hb Y
 obtain⟨ψ,ω,τ⟩:=Kd.Q5 ρ.out
 (first|subst τ |(injection τ with ab ap ac;have ar:=ab.symm;have au:=ac.symm;clear ab ap ac;subst ar;subst au))
 refine hK.out _ _ ⟨qc X,qc X,qc B,qc B⟩ (fun hHeld=>?_)
 clear hK K
 refine qN (some 15) ?_
 refine qK 11 (some 16) (qB 13 4095) HT_ fun K hK=>?_
 refine Q9 Try.func80 kr rfl #[.slice ψ ζ.length ω] (by rfl) rfl rfl (by(try simp only[List.map_toArray,List.map_cons,List.map_nil]);first|done|rfl|(simp only[List.length_drop,List.length_take];rfl)) ?_
 with_reducible refine(cmp_Or_int.calls k _ _ ζ γ _ ?side1 ?side2 A5.out).mono ?_
 (case side1=>repeat(first|exact(Kd.Qr ρ.out).2.2|(with_reducible refine Kd.Yf ?_ _)|(with_reducible refine Kd.Ye ?_ _)|(with_reducible refine Kd.Je ?_)))
 (case side2=>exact(Kd.Qr ρ.out).2.1)
 rintro e w' ⟨rfl,⟨nd,rfl⟩⟩
 refine⟨_,rfl, ?_⟩
 refine hK.out _ _ ⟨qc X,qc X,qc B,qc B⟩ (fun hHeld=>?_)
 clear hK K
 refine qN (some 16) ?_
 refine qP 12 (some 4) (qB 13 8191) HT_ ?_
 refine Z2 (Zf HT_.out kr) ?_
 try go_wp2
 go_ret
 exact⟨by first|rfl|(simp[Qk,Qj] <;> rfl)|(simp[*,Qk,Qj] <;> rfl),by repeat(first|(with_reducible first|exact HB.out|apply Qu|apply Qi|apply Qg|refine Qx ?_ a7.out|refine Qx ?_ ν.out)|exact HB.out)⟩
end Go.Proofs.Ytmfffemidlhcpaa.K
namespace Go.Proofs.Ytmfffemidlhcpaa.C
open Go.RowKit Go.Proofs.YtmfffemidlhcpaaW.PrintWords Go.Proofs.YtmfffemidlhcpaaW.PrintLast Go.Proofs.YtmfffemidlhcpaaW.PrintMore
attribute [local go_sem] Zv Zt Z6 Z5 Zk Zj Zu Zs
set_option linter.unusedVariables false
set_option linter.unusedSimpArgs false
def call_within.f (J:Int) (Y:Int) (a2:Int):Option (Bool):=if Y≤J then (some (decide (J≤a2))) else (some false)
set_option maxHeartbeats 8000000 in
set_option maxRecDepth 100000 in
theorem call_within.calls (J:Int) (Y:Int) (a2:Int) (r:Bool) (w:World) (h:call_within.f J Y a2=some r):
  Calls Try.prog 44 #[.int .i64 J,.int .i64 Y,.int .i64 a2] w fun e w'=>e = .returned (.bool r)∧Drawn0 w w':=by
 have H:(if Y≤J then (some (decide (J≤a2))) else (some false))=some r:=h
 clear h
 by_cases c4:Y≤J
 ·rw[if_pos c4] at H
  have c4b0:decide (Y≤J)=true:=decide_eq_true c4
  clear c4
  obtain rfl:=Option.some.inj H
  go_enter Try.func44,Try.ntmps44
  go_wp2
  go_ret
  exact⟨qR,by repeat(first|exact Drawn0.refl _|apply Drawn0.step)⟩
 ·rw[if_neg c4] at H
  have c4b0:decide (Y≤J)=false:=decide_eq_false c4
  clear c4
  obtain rfl:=Option.some.inj H
  go_enter Try.func44,Try.ntmps44
  go_wp2
  go_ret
  exact⟨qR,by repeat(first|exact Drawn0.refl _|apply Drawn0.step)⟩
end Go.Proofs.Ytmfffemidlhcpaa.C
namespace Go.Proofs.Ytmfffemidlhcpaa.C
open Go.RowKit Go.Proofs.YtmfffemidlhcpaaW.PrintWords Go.Proofs.YtmfffemidlhcpaaW.PrintLast Go.Proofs.YtmfffemidlhcpaaW.PrintMore
set_option linter.unusedVariables false
set_option linter.unusedSimpArgs false
section
variable {P : Program} {ops : Array Oper} {Q : Exit → Act → World → Prop}
theorem X2 {oi:Oper} {N:Option Tmp} {a:Act} {w:World} {K:Act→World→Prop} {f:FuncId} {fn:Func} {x:Operand} {xs:Array Operand} {ts:Array TypeId} (hf:P.funcs[f]?=some fn) (hname:(fn.name == "runtime.NumGoroutine")=false) (hb:fn.body.isSome=true) (first cap args all:Array Value) (hall:first ++ args++cap=all)
    (hw:Region.wanted oi (yielded ops a.tmps)=true) (hN:oi.dst=N) (hop:oi.op = .call {callee:=.value x,args:=xs,argTypes:=ts}) (hx:a.eval x = .func (.func f) first cap) (hargs:xs.map a.eval=args)
    (h:Calls P f all w fun e w'=>∃ v,e = .returned v∧K (a.put N v) w'):if Region.wanted oi (yielded ops a.tmps)=true then Oper.wp P oi a w K Q else K (a.put N undef) w:=by
  refine Di f all hw hN ?_ h
  have he:=V8 hf hname hb all w
  unfold execOp
  simp[hop,hx,resolve,Deferred.ofValue,invoke,hargs,hall,he]
end
def tok (a b:Int):Int:=a * 18446744073709551616+(b+9223372036854775808)
def Yi (t:Int):Int:=t / 18446744073709551616
def Yh (t:Int):Int:=t % 18446744073709551616-9223372036854775808
theorem Ko (a b:Int) (h: -9223372036854775808≤b∧b≤9223372036854775807):Yi (tok a b)=a:=by unfold Yi tok;omega
theorem Kn (a b:Int) (h: -9223372036854775808≤b∧b≤9223372036854775807):Yh (tok a b)=b:=by unfold Yh tok;omega
theorem Z7 {w W:World} {g:Nat} {t:TypeId} {cs:Array Value} (h:w.heap[g]?=some (.cells cs t (0,0))) (hb:Below w.heap.size w W):W.heap[g]?=some (.cells cs t (0,0)):=Qy h hb
def Uc (a b:Int):Int:=if a<b then -1 else if a>b then 1 else 0
def Yb (J Y b0 b1:Int):Int:=if Uc J b0≠0 then Uc J b0 else Uc Y b1
theorem cmp_eq (a b:Int):K.cmp_Compare_int.f a b=some (Uc a b):=by
  unfold K.cmp_Compare_int.f K.cmp_isNaN_int.f Uc
  simp only[Option.bind_some,bne_self_eq_false]
  rw[if_neg (by decide),if_neg (by decide)]
  split
  · rfl
  · split <;> rfl
theorem Dd (a b:Int):K.cmp_Or_int.f 5 [a,b]=some (if a≠0 then a else b):=by
  have w1:wrap64 (0+1)=1:=by unfold wrap64;omega
  have w2:wrap64 (1+1)=2:=by unfold wrap64;omega
  have r0:rd [a,b] 0=a:=rfl
  have r1:rd [a,b] 1=b:=rfl
  have l2:(([a,b]:List Int).length:Int)=2:=rfl
  unfold K.cmp_Or_int.f
  rw[l2,K.cmp_Or_int.l0,if_pos (by decide),if_pos (by decide),l2,if_pos (by decide),r0,w1]
  by_cases h:a=0
  · rw[if_pos h,if_neg (fun g=>g h),K.cmp_Or_int.l0,if_pos (by decide),if_pos (by decide),l2,if_pos (by decide),r1,w2]
    by_cases O:b=0
    · rw[if_pos O,K.cmp_Or_int.l0,if_neg (by decide),O]
    · rw[if_neg O]
  · rw[if_neg h,if_pos h]
def call_halls_1.f (J O X ι ε κ :Int):Option Int:=some (Yb J O ι ε)
def call_ins_1.f (J O ι ε :Int):Option Int:=some (Yb J O ι ε)
theorem call_halls_1.calls (J O X ι ε κ r:Int) (w:World) (h:call_halls_1.f J O X ι ε κ = some r):
    Calls Try.prog 79 #[.agg #[.int .i64 J,.int .i64 O,.int .i64 X],.agg #[.int .i64 ι,.int .i64 ε,.int .i64 κ]] w fun e w'=>e = .returned (.int .i64 r)∧Below w.heap.size w w':=by
  refine K.call_halls_1.calls 5 J O X ι ε κ r w ?_
  unfold K.call_halls_1.f
  rw[cmp_eq,cmp_eq]
  simp only[Option.bind_some]
  rw[Dd]
  exact h
theorem call_ins_1.calls (J O ι ε r:Int) (w:World) (h:call_ins_1.f J O ι ε = some r):
    Calls Try.prog 83 #[.agg #[.int .i64 J,.int .i64 O],.agg #[.int .i64 ι,.int .i64 ε]] w fun e w'=>e = .returned (.int .i64 r)∧Below w.heap.size w w':=by
  refine K.call_ins_1.calls 5 J O ι ε r w ?_
  unfold K.call_ins_1.f
  rw[cmp_eq,cmp_eq]
  simp only[Option.bind_some]
  rw[Dd]
  exact h
def Yn (F C:Int) (B J Z:Int):Bool:=decide ((J=1∨J = -1)∧(0≤B∧B≤wrap64 (F-1))∧(0≤wrap64 (B+J)∧wrap64 (B+J)≤wrap64 (F-1))∧(-1≤Z∧Z≤wrap64 (C-1)))
def K5 (F C:Int) (B J:Int):Bool:=decide ((0≤B∧B≤wrap64 (C-1))∧(0≤J∧J≤wrap64 (F-1)))
theorem Jf (a b c:Int) (r:Bool) (h:decide (b≤a∧a≤c)=r):call_within.f a b c=some r:=by
  unfold call_within.f
  subst h
  by_cases h1:b≤a
  · rw[if_pos h1];simp[h1]
  · rw[if_neg h1];simp[h1]
theorem Nq (F C B J Z:Int):Yn F C B J Z=((J==1||J == -1)&&(decide (0≤B∧B≤wrap64 (F-1))&&(decide (0≤wrap64 (B+J)∧wrap64 (B+J)≤wrap64 (F-1))&&decide (-1≤Z∧Z≤wrap64 (C-1))))):=by
  unfold Yn
  rw[Bool.eq_iff_iff]
  simp[and_assoc]
theorem Ew (F C B J:Int):K5 F C B J=(decide (0≤B∧B≤wrap64 (C-1))&&decide (0≤J∧J≤wrap64 (F-1))):=by
  unfold K5
  rw[Bool.eq_iff_iff]
  simp[and_assoc]
def call_hall_1.f (J O X Y:Int):Option Bool:=some (Yn (Yi Y) (Yh Y) J O X)
def call_inside_1.f (J O Y:Int):Option Bool:=some (K5 (Yi Y) (Yh Y) J O)
set_option maxRecDepth 100000 in
set_option maxHeartbeats 4000000 in
theorem Gv (F C B J Z:Int) (r:Bool) (w:World) (h:Yn F C B J Z=r) (g:Nat) (hg:w.heap[g]?=some (.cells #[.int .i64 F,.int .i64 C] 59 (0,0))):
    Calls Try.prog 82 #[.agg #[.int .i64 B,.int .i64 J,.int .i64 Z],.pointer (some ⟨g,0,none⟩)] w fun e w'=>e = .returned (.bool r)∧Below w.heap.size w w':=by
  rw[Nq] at h
  have HG:=Aside0.mk hg
  have HB:=Aside0.mk (Below.refl w.heap.size w)
  clear hg
  have γ:∃ b,decide (0≤B∧B≤wrap64 (F-1))=b:=⟨_,rfl⟩
  have O:∃ b,decide (0≤wrap64 (B+J)∧wrap64 (B+J)≤wrap64 (F-1))=b:=⟨_,rfl⟩
  have Y:∃ b,decide (-1≤Z∧Z≤wrap64 (C-1))=b:=⟨_,rfl⟩
  have θ :∃ b,(J==1)=b:=⟨_,rfl⟩
  have ι :∃ b,(J == -1)=b:=⟨_,rfl⟩
  obtain⟨b1,γ⟩:=γ
  obtain⟨b2,O⟩:=O
  obtain⟨b3,Y⟩:=Y
  obtain⟨d1,θ⟩:= θ
  obtain⟨X,ι⟩:= ι
  rw[γ,O,Y,θ,ι] at h
  have D1:=Aside0.mk γ
  have D2:=Aside0.mk O
  have D3:=Aside0.mk Y
  clear γ O Y
  cases d1 <;> cases X <;> cases b1 <;> cases b2 <;> cases b3 <;> simp only[Bool.or_false,Bool.false_or,Bool.or_true,Bool.true_or,Bool.and_false,Bool.false_and,Bool.and_true,Bool.true_and] at h <;> subst h <;>
  · go_enter Try.func82,Try.ntmps82
    go_wp2_with (first|((with_reducible refine Qf (N:=2) rfl ?_);refine Zg ?hg (N:=2) ?hd (cs:=#[.int .i64 B,.int .i64 J,.int .i64 Z]) (t:=36) ?hr ?_;(case hd=>rfl);(case hg=>rfl);(case hr=>first|(go_simp;done)|(go_simp;rfl));intro gb hgb w1 hbox hb;have μ :=Aside0.mk (Q0 HB.out hb);clear HB;have HB:= μ;clear μ;have hk:=Z7 HG.out HB.out;have δ :w1.cell? ⟨g,0,none⟩=some (.int .i64 F):=(Qa hk 0).trans rfl;have ε :w1.cell? ⟨g,1,none⟩=some (.int .i64 C):=(Qa hk 1).trans rfl;have ζ :w1.cell? ⟨gb,0,none⟩=some (.int .i64 B):=(Qa hbox 0).trans rfl;have η :w1.cell? ⟨gb,1,none⟩=some (.int .i64 J):=(Qa hbox 1).trans rfl;have κ :w1.cell? ⟨gb,2,none⟩=some (.int .i64 Z):=(Qa hbox 2).trans rfl;clear hk hbox hb hgb)|(go_at_call 44;((with_reducible refine(call_within.calls B 0 (wrap64 (F-1)) _ _ (Jf _ _ _ _ D1.out)).mono ?_);rintro e w' ⟨rfl,⟨nd,rfl⟩⟩))|(go_at_call 44;((with_reducible refine(call_within.calls (wrap64 (B+J)) 0 (wrap64 (F-1)) _ _ (Jf _ _ _ _ D2.out)).mono ?_);rintro e w' ⟨rfl,⟨nd,rfl⟩⟩))|(go_at_call 44;((with_reducible refine(call_within.calls Z (-1) (wrap64 (C-1)) _ _ (Jf _ _ _ _ D3.out)).mono ?_);rintro e w' ⟨rfl,⟨nd,rfl⟩⟩)))
    go_ret
    exact⟨rfl,by repeat(first|exact HB.out|apply Qi)⟩
set_option maxRecDepth 100000 in
set_option maxHeartbeats 4000000 in
theorem V7 (F C B J:Int) (r:Bool) (w:World) (h:K5 F C B J=r) (g:Nat) (hg:w.heap[g]?=some (.cells #[.int .i64 F,.int .i64 C] 59 (0,0))):
    Calls Try.prog 84 #[.agg #[.int .i64 B,.int .i64 J],.pointer (some ⟨g,0,none⟩)] w fun e w'=>e = .returned (.bool r)∧Below w.heap.size w w':=by
  rw[Ew] at h
  have HG:=Aside0.mk hg
  have HB:=Aside0.mk (Below.refl w.heap.size w)
  clear hg
  have γ:∃ b,decide (0≤B∧B≤wrap64 (C-1))=b:=⟨_,rfl⟩
  have O:∃ b,decide (0≤J∧J≤wrap64 (F-1))=b:=⟨_,rfl⟩
  obtain⟨b1,γ⟩:=γ
  obtain⟨b2,O⟩:=O
  rw[γ,O] at h
  have D1:=Aside0.mk γ
  have D2:=Aside0.mk O
  clear γ O
  cases b1 <;> cases b2 <;> simp only[Bool.and_false,Bool.false_and,Bool.and_true,Bool.true_and] at h <;> subst h <;>
  · go_enter Try.func84,Try.ntmps84
    go_wp2_with (first|((with_reducible refine Qf (N:=2) rfl ?_);refine Zg ?hg (N:=2) ?hd (cs:=#[.int .i64 B,.int .i64 J]) (t:=86) ?hr ?_;(case hd=>rfl);(case hg=>rfl);(case hr=>first|(go_simp;done)|(go_simp;rfl));intro gb hgb w1 hbox hb;have μ :=Aside0.mk (Q0 HB.out hb);clear HB;have HB:= μ;clear μ;have hk:=Z7 HG.out HB.out;have δ :w1.cell? ⟨g,0,none⟩=some (.int .i64 F):=(Qa hk 0).trans rfl;have ε :w1.cell? ⟨g,1,none⟩=some (.int .i64 C):=(Qa hk 1).trans rfl;have ζ :w1.cell? ⟨gb,0,none⟩=some (.int .i64 B):=(Qa hbox 0).trans rfl;have η :w1.cell? ⟨gb,1,none⟩=some (.int .i64 J):=(Qa hbox 1).trans rfl;clear hk;clear hbox hb hgb)|(go_at_call 44;((with_reducible refine(call_within.calls B 0 (wrap64 (C-1)) _ _ (Jf _ _ _ _ D1.out)).mono ?_);rintro e w' ⟨rfl,⟨nd,rfl⟩⟩))|(go_at_call 44;((with_reducible refine(call_within.calls J 0 (wrap64 (F-1)) _ _ (Jf _ _ _ _ D2.out)).mono ?_);rintro e w' ⟨rfl,⟨nd,rfl⟩⟩)))
    go_ret
    exact⟨rfl,by repeat(first|exact HB.out|apply Qi)⟩
theorem call_hall_1.calls (J O X Y:Int) (r:Bool) (w:World) (h:call_hall_1.f J O X Y=some r) (g:Nat) (hg:w.heap[g]?=some (.cells #[.int .i64 (Yi Y),.int .i64 (Yh Y)] 59 (0,0))):
    Calls Try.prog 82 #[.agg #[.int .i64 J,.int .i64 O,.int .i64 X],.pointer (some ⟨g,0,none⟩)] w fun e w'=>e = .returned (.bool r)∧Below w.heap.size w w':=
  Gv _ _ _ _ _ _ _ (Option.some.inj h) g hg
theorem call_inside_1.calls (J O Y:Int) (r:Bool) (w:World) (h:call_inside_1.f J O Y=some r) (g:Nat) (hg:w.heap[g]?=some (.cells #[.int .i64 (Yi Y),.int .i64 (Yh Y)] 59 (0,0))):
    Calls Try.prog 84 #[.agg #[.int .i64 J,.int .i64 O],.pointer (some ⟨g,0,none⟩)] w fun e w'=>e = .returned (.bool r)∧Below w.heap.size w w':=
  V7 _ _ _ _ _ _ (Option.some.inj h) g hg
def api_Inside_without_1.f (J O Y:Int):Option Bool:=some (Yb (Yi Y) (Yh Y) J O==0)
set_option maxRecDepth 100000 in
set_option maxHeartbeats 4000000 in
theorem J7 (B J O X:Int) (r:Bool) (w:World) (h:(Yb B J O X==0)=r) (A:Option Addr) (n c:Nat) (gr gx:Nat) (hr:w.heap[gr]?=some (.cells #[.slice A n c,.func (.func 83) #[] #[]] 116 (0,0))) (hx:w.heap[gx]?=some (.cells #[.int .i64 B,.int .i64 J] 86 (0,0))):
    Calls Try.prog 92 #[.agg #[.int .i64 O,.int .i64 X],.pointer (some ⟨gr,0,none⟩),.pointer (some ⟨gx,0,none⟩)] w fun e w'=>e = .returned (.bool r)∧Below w.heap.size w w':=by
  have HR:=Aside0.mk hr
  have HX:=Aside0.mk hx
  have HB:=Aside0.mk (Below.refl w.heap.size w)
  clear hr hx
  have hd:∃ z,Yb B J O X=z:=⟨_,rfl⟩
  obtain⟨z,hd⟩:=hd
  rw[hd] at h
  have D1:=Aside0.mk (show call_ins_1.f B J O X=some z from congrArg some hd)
  clear hd
  cases r <;>
  · go_enter Try.func92,Try.ntmps92
    go_wp2_with (first|((with_reducible refine Qf (N:=3) rfl ?_);refine Zg ?hg (N:=3) ?hd (cs:=#[.int .i64 O,.int .i64 X]) (t:=86) ?hr ?_;(case hd=>rfl);(case hg=>rfl);(case hr=>first|(go_simp;done)|(go_simp;rfl));intro gb hgb w1 hbox hb;have μ :=Aside0.mk (Q0 HB.out hb);clear HB;have HB:= μ;clear μ;have hk:=Z7 HR.out HB.out;have hq:=Z7 HX.out HB.out;have δ :w1.cell? ⟨gr,0,none⟩=some (.slice A n c):=(Qa hk 0).trans rfl;have ε :w1.cell? ⟨gr,1,none⟩=some (.func (.func 83) #[] #[]):=(Qa hk 1).trans rfl;have Y:w1.cell? ⟨gx,0,none⟩=some (.int .i64 B):=(Qa hq 0).trans rfl;have Z:w1.cell? ⟨gx,1,none⟩=some (.int .i64 J):=(Qa hq 1).trans rfl;have ζ :w1.cell? ⟨gb,0,none⟩=some (.int .i64 O):=(Qa hbox 0).trans rfl;have η :w1.cell? ⟨gb,1,none⟩=some (.int .i64 X):=(Qa hbox 1).trans rfl;clear hk hq;clear hbox hb hgb)|(go_at_call 83;((with_reducible refine(call_ins_1.calls B J O X z _ D1.out).mono ?_);rintro e w2 ⟨rfl,hb⟩;have μ :=Aside0.mk (Q0 HB.out hb);clear HB;have HB:= μ;clear μ;clear hb)))
    go_ret
    exact⟨rfl,HB.out⟩
theorem api_Inside_without_1.calls (J O Y:Int) (r:Bool) (w:World) (h:api_Inside_without_1.f J O Y=some r) (A:Option Addr) (n c:Nat) (gr gx:Nat) (z:Int) (hr:w.heap[gr]?=some (.cells #[.slice A n c,.func (.func 83) #[] #[]] 116 (0,0))) (hx:w.heap[gx]?=some (.cells #[.int .i64 (Yi Y),.int .i64 (Yh Y)] 86 (0,0))):
    Calls Try.prog 92 #[.agg #[.int .i64 J,.int .i64 O],.pointer (some ⟨gr,0,none⟩),.pointer (some ⟨gx,0,none⟩)] w fun e w'=>e = .returned (.bool r)∧Below w.heap.size w w':=
  J7 (Yi Y) (Yh Y) J O r w (Option.some.inj h) A n c gr gx hr hx
end Go.Proofs.Ytmfffemidlhcpaa.C
namespace Go.Proofs.Ytmfffemidlhcpaa.C
open Go.RowKit Go.Proofs.YtmfffemidlhcpaaW.PrintWords Go.Proofs.YtmfffemidlhcpaaW.PrintLast Go.Proofs.YtmfffemidlhcpaaW.PrintMore
attribute [local go_sem] Zv Zt Z6 Z5 Zk Zj Zu Zs
set_option linter.unusedVariables false
set_option linter.unusedSimpArgs false
def api_Inside_100.l0:Nat→List (S86)→Int→Int→Int→Option (Int)
 |0,_,_,_,_=>none
 |k+1,B,J,x7,x8=>if x8<x7 then (if 0≤x8 then (if x8<(B.length:Int) then ((api_Inside_without_1.f ((Qt B x8).f0) ((Qt B x8).f1) J).bind fun δ =>(if δ = true then (some x8) else (api_Inside_100.l0 k B J x7 (wrap64 (x8+1))))) else (none)) else (none)) else (some (-1))
def api_Inside_100.f (k:Nat) (l0:List (S86)) (Y:Int):Option (Int):=api_Inside_100.l0 k l0 Y (l0.length:Int) 0
set_option maxHeartbeats 8000000 in
set_option maxRecDepth 100000 in
theorem api_Inside_100.calls (k:Nat) (A0:Option Addr) (c0:Nat) (l0:List (S86)) (Y:Int) (r:Int) (w:World) (ζ :Kd.C k86 w A0 l0.length l0) (Z:l0.length≤c0) (h:api_Inside_100.f k l0 Y=some r) (Ar_:Option Addr) (nr_ cr_ gr_ gx_:Nat) (zx_:Int) (hgr_:w.heap[gr_]?=some (.cells #[.slice Ar_ nr_ cr_,.func (.func 83) #[] #[]] 116 (0,0))) (hgx_:w.heap[gx_]?=some (.cells #[.int .i64 (Yi Y),.int .i64 (Yh Y)] 86 (0,0))):
  Calls Try.prog 100 #[.slice A0 l0.length c0,.func (.func 92) #[] #[.pointer (some ⟨gr_,0,none⟩),.pointer (some ⟨gx_,0,none⟩)]] w fun e w'=>e = .returned (.int .i64 r)∧Below w.heap.size w w':=by
 have HCR:=Aside0.mk hgr_
 have HCX:=Aside0.mk hgx_
 clear hgr_ hgx_
 have d9:=Try.underlying86
 have η :=Aside0.mk ζ
 have ac:=Aside0.mk Z
 clear ζ Z
 have HB:=Aside0.mk (Below.refl w.heap.size w)
 have H:(api_Inside_100.l0 k l0 Y (l0.length:Int) 0)=some r:=h
 clear h
 have H':=Aside0.mk H
 clear H
 go_enter Try.func100,Try.ntmps100
 go_wp2
 go_loopg [8] k (fun kq v8 w'=>∃ (B:Int),v8 = .int .i64 B∧Aside0 (api_Inside_100.l0 kq l0 Y (l0.length:Int) B=some r)∧Aside0 (kq≤k)∧Aside0 (Below w.heap.size w w'))
 case atStart=>exact⟨(0),rfl,H',⟨Nat.le_refl _⟩,HB⟩
 case round=>
  clear H'
  try clear c1
  try clear p2
  obtain⟨B,rfl,HA,ao,HB⟩:=hrel
  cases gk with
  |zero=>exact absurd HA.out (by simp[api_Inside_100.l0])
  |succ k1=>
   have H:=HA.out
   clear HA
   simp only[api_Inside_100.l0] at H
   by_cases c3:B<(l0.length:Int)
   ·rw[if_pos c3] at H
    have c3b0:decide (B<(l0.length:Int))=true:=decide_eq_true c3
    clear c3
    by_cases c4:0≤B
    ·rw[if_pos c4] at H
     have c4b0:decide (0≤B)=true:=decide_eq_true c4
     clear c4
     by_cases c5:B<(l0.length:Int)
     ·rw[if_pos c5] at H
      have c5b0:decide (B<(l0.length:Int))=true:=decide_eq_true c5
      clear c5
      replace H:=Option.bind_eq_some_iff.mp H
      obtain⟨δ,b0,H⟩:=H
      replace H:(if δ = true then (some B) else (api_Inside_100.l0 k1 l0 Y (l0.length:Int) (wrap64 (B+1))))=some r:=H
      have A6:=Aside0.mk b0
      clear b0
      by_cases c7: δ = true
      ·subst c7
       have H1:(some B)=some r:=by rw[if_pos rfl] at H;exact H
       clear H
       have H:=H1
       clear H1
       obtain rfl:=Option.some.inj H
       have X:0≤(B:Int):=of_decide_eq_true (by assumption)
       have γ:B<(l0.length:Int):=of_decide_eq_true (by assumption)
       obtain⟨θ,ε,J,O⟩:=Yc η.out B X γ
       cases ε
       replace J:=(HB.out.cell (World.block_lt_of_cell? w _ J)).trans J
       replace O:=(HB.out.cell (World.block_lt_of_cell? w _ O)).trans O
       replace X:=eq_true X
       replace γ:=eq_true γ
       go_wp2_with (first|(go_at_call 92;((with_reducible refine(api_Inside_without_1.calls ((Qt l0 B).f0) ((Qt l0 B).f1) Y true _ A6.out Ar_ nr_ cr_ gr_ gx_ zx_ (Z7 HCR.out (by repeat(first|(with_reducible first|exact HB.out|apply Qu|apply Qi|apply Qg)|exact HB.out|(refine Qx ?_ (Aside0.out (by assumption)))))) (Z7 HCX.out (by repeat(first|(with_reducible first|exact HB.out|apply Qu|apply Qi|apply Qg)|exact HB.out|(refine Qx ?_ (Aside0.out (by assumption))))))).mono ?_);rintro e w8 ⟨rfl,hb⟩;have μ :=Aside0.mk (Q0 HB.out hb);clear HB;have HB:= μ;clear μ;(try clear hb);(try clear a6);(try clear hk);(try clear hi))))
       go_ret
       exact⟨rfl,HB.out⟩
      ·replace c7:=Bool.eq_false_iff.mpr c7
       subst c7
       have H1:(api_Inside_100.l0 k1 l0 Y (l0.length:Int) (wrap64 (B+1)))=some r:=by rw[if_neg (show ¬ (false=true) by decide)] at H;exact H
       clear H
       have H:=H1
       clear H1
       have H':=Aside0.mk H
       clear H
       have X:0≤(B:Int):=of_decide_eq_true (by assumption)
       have γ:B<(l0.length:Int):=of_decide_eq_true (by assumption)
       obtain⟨θ,ε,J,O⟩:=Yc η.out B X γ
       cases ε
       replace J:=(HB.out.cell (World.block_lt_of_cell? w _ J)).trans J
       replace O:=(HB.out.cell (World.block_lt_of_cell? w _ O)).trans O
       replace X:=eq_true X
       replace γ:=eq_true γ
       go_wp2_with (first|(go_at_call 92;((with_reducible refine(api_Inside_without_1.calls ((Qt l0 B).f0) ((Qt l0 B).f1) Y false _ A6.out Ar_ nr_ cr_ gr_ gx_ zx_ (Z7 HCR.out (by repeat(first|(with_reducible first|exact HB.out|apply Qu|apply Qi|apply Qg)|exact HB.out|(refine Qx ?_ (Aside0.out (by assumption)))))) (Z7 HCX.out (by repeat(first|(with_reducible first|exact HB.out|apply Qu|apply Qi|apply Qg)|exact HB.out|(refine Qx ?_ (Aside0.out (by assumption))))))).mono ?_);rintro e w9 ⟨rfl,hb⟩;have μ :=Aside0.mk (Q0 HB.out hb);clear HB;have HB:= μ;clear μ;(try clear hb);(try clear a6);(try clear hk);(try clear hi))))
       go_roundg k1
       case measure=>have:=ao.out;omega
       case rel=>exact⟨(wrap64 (B+1)),rfl,H',⟨by have:=ao.out;omega⟩,HB⟩
     ·rw[if_neg c5] at H
      exact absurd H (by simp)
    ·rw[if_neg c4] at H
     exact absurd H (by simp)
   ·rw[if_neg c3] at H
    have c3b0:decide (B<(l0.length:Int))=false:=decide_eq_false c3
    clear c3
    obtain rfl:=Option.some.inj H
    go_wp2
    go_ret
    exact⟨rfl,HB.out⟩
end Go.Proofs.Ytmfffemidlhcpaa.C
namespace Go.Proofs.Ytmfffemidlhcpaa.C
open Go.RowKit Go.Proofs.YtmfffemidlhcpaaW.PrintWords Go.Proofs.YtmfffemidlhcpaaW.PrintLast Go.Proofs.YtmfffemidlhcpaaW.PrintMore
set_option linter.unusedVariables false
structure Flat {α:Type} (d:Kd α) (enc:α→List Value):Prop where
  len:∀ x,(enc x).length=d.sz
  one:∀ x,∀ u ∈ enc x,u.oneCell'=true
  M:∀ w base ok x cs,d.M w base ok x cs↔cs=enc x
  K:∀ w x cs,d.K w x cs↔cs=enc x
def Ys {α:Type} (enc:α→List Value) (xs:List α):List Value:=xs.flatMap enc
section
variable {α : Type} {d : Kd α} {enc : α → List Value}
theorem Gz (x:α) (xs:List α):Ys enc (x :: xs)=enc x++Ys enc xs:=rfl
theorem V9 (xs ys:List α):Ys enc (xs++ys)=Ys enc xs++Ys enc ys:=List.flatMap_append
theorem Vs (F:Flat d enc) (xs:List α):(Ys enc xs).length=xs.length * d.sz:=by
  induction xs with
  |nil=>simp[Ys]
  |cons x xs ih=>rw[Gz,List.length_append,F.len,ih,List.length_cons,Nat.add_mul,Nat.one_mul,Nat.add_comm]
theorem Wv (F:Flat d enc) (xs:List α) (m:Nat) (h:m≤xs.length):(Ys enc xs).take (m * d.sz)=Ys enc (xs.take m):=by
  have e:Ys enc xs=Ys enc (xs.take m)++Ys enc (xs.drop m):=by rw[← V9,List.take_append_drop]
  have hl:(Ys enc (xs.take m)).length=m * d.sz:=by rw[Vs F,List.length_take,Nat.min_eq_left h]
  rw[e,← hl,List.take_left']
  rfl
theorem Vl (F:Flat d enc) {R:α→List Value→Prop} (hR:∀ p c,R p c↔c=enc p) (xs:List α):∀ inner,Reps R d.sz xs inner↔inner=Ys enc xs:=by
  induction xs with
  |nil=>
    intro inner
    constructor
    · intro h
      have:=h.1
      simp only[List.length_nil,Nat.zero_mul] at this
      exact List.eq_nil_of_length_eq_zero this
    · rintro rfl
      exact Reps.none _ _
  |cons x xs ih=>
    intro inner
    constructor
    · intro h
      have h1:=h.2 0 x rfl
      rw[hR,Nat.zero_mul,List.drop_zero] at h1
      have O:=Kd.L0 (m:=1) h
      rw[List.drop_one,List.tail_cons,ih,Nat.one_mul] at O
      rw[Gz,← h1,← O,List.take_append_drop]
    · rintro rfl
      have h1:Reps R d.sz [x] (enc x):=by
        have:=Reps.snoc (Reps.none R d.sz) ((hR x (enc x)).2 rfl) (F.len x)
        simpa using this
      exact Kd.Ju (ps:=[x]) h1 ((ih _).2 rfl)
theorem Uj (F:Flat d enc) {e:Nat} {w:World} {base:Nat} {ok:Nat→Prop} {v:Value} {xs:List α}:d.R e w base ok v xs↔(∀ k,v.ownBlock=some k→ok k)∧w.ownsRow base e d.sz v xs.length (Ys enc xs):=by
  constructor
  · rintro⟨X,inner,ho,hr⟩
    rw[Vl F (fun p c=>F.M _ _ _ p c)] at hr
    subst hr
    exact⟨X,ho⟩
  · rintro⟨X,ho⟩
    exact⟨X,_,ho,(Vl F (fun p c=>F.M _ _ _ p c) xs _).2 rfl⟩
theorem Wl {P:Program} (w:World) (t e ty:TypeId) (z:Value) (ht:P.underlying t=some (.slice e)) (hv:∀ w,(zeroValue e).run P w = .ok z w) (J:∀ u ∈ z.cells.toList,u.oneCell'=true) (b o n c:Nat) (hn:0<n)
    (hc:∀ j,j<n * z.cells.size→(w.cell? ⟨b,o+j,none⟩).isSome=true) (hf:∀ j,j<n * z.cells.size→w.frozen? ⟨b,o+j,none⟩=false):
    ∃ vs,vs.length=n * z.cells.size∧(Builtin.clear_ #[t] ty #[.slice (some ⟨b,o,none⟩) n c]).run P w = .ok (.tuple #[]) (w.setCells b o vs):=by
  refine⟨(Builtin.zeroCells z.cells n).toList,by simp[Builtin.zeroCells], ?_⟩
  have hl:(Builtin.zeroCells z.cells n).toList.length=n * z.cells.size:=by simp[Builtin.zeroCells]
  have h1:∀ v ∈ (Builtin.zeroCells z.cells n).toList,v.oneCell'=true:=by
    intro v hv'
    simp only[Builtin.zeroCells,Array.mem_toList_iff,Array.mem_map,Array.mem_range] at hv'
    obtain⟨i,hi,rfl⟩:=hv'
    have hs:0<z.cells.size:=by
      rcases Nat.eq_zero_or_pos z.cells.size with h|h
      · rw[h,Nat.mul_zero] at hi;omega
      · exact h
    have hm:i % z.cells.size<z.cells.size:=Nat.mod_lt _ hs
    rw[getElem!_pos z.cells _ hm]
    exact J _ (by simp)
  have hst:=run_storeCells_cells (P:=P) b o (Builtin.zeroCells z.cells n).toList 0 w (by rw[hl];simpa using hc) (by rw[hl];simpa using hf) h1
  simp only[Nat.add_zero] at hst
  obtain⟨m,rfl⟩:∃ m,n=m+1:=⟨n-1,by omega⟩
  simp[Builtin.clear_,run_underlying ht,hv,hst]
theorem Mu (g j:Nat):(⟨g,0,none⟩:Addr).add j=⟨g,j,none⟩:=by unfold Addr.add;split <;> simp_all
theorem Mb {W:World} {g:Nat} {vs:List Value} {o:Nat}:W.grownBy (W.setCells g o vs) (some g):=by
  obtain⟨B,s2,s3,O⟩:=Jb g vs o W
  exact⟨B,s2,s3,by rw[O];exact Nat.le_refl _,fun k _ hk=>Jk _ _ k (fun he=>hk (by rw[he]))⟩
theorem Mn {P:Program} (F:Flat d enc) {W:World} {base:Nat} {ok:Nat→Prop} {e:Nat} (t ty:TypeId) (ht:P.underlying t=some (.slice e)) (z:Value) (hv:∀ w,(zeroValue e).run P w = .ok z w) (J:∀ u ∈ z.cells.toList,u.oneCell'=true) (hzs:z.cells.size=d.sz)
    (A:Option Addr) (c:Nat) (xs:List α) (HO:d.R e W base ok (.slice A xs.length c) xs) (i:Nat) (hi:i≤xs.length):
    ∃ w1,(Builtin.clear_ #[t] ty #[.slice (if c=i then A else A.map (·.add (i * d.sz))) (xs.length-i) (c-i)]).run P W = .ok (.tuple #[]) w1∧d.R e w1 base ok (.slice A i c) (xs.take i)∧W.grownBy w1 (Value.slice A i c).ownBlock:=by
  obtain⟨X,ho⟩:=(Uj F).1 HO
  have hob:(Value.slice A i c).ownBlock=(Value.slice A xs.length c).ownBlock:=by cases A <;> rfl
  rcases ho.2 with⟨O,Y⟩|⟨g,cap,cur,O,hb,hh,hnc,hcm,hcs,htake⟩
  · injection O with e1 B Z
    subst e1 Z
    have γ:i=0:=by omega
    subst γ
    refine⟨W, ?_, ?_,World.grownBy.refl W _⟩
    · rw[Y]
      simp[Builtin.clear_,run_underlying ht]
    · have:xs = []:=List.eq_nil_of_length_eq_zero Y
      subst this
      exact Kd.Xx _ _ _ _ _
  · injection O with e1 B Z
    subst e1 Z
    have own_i:∀ (w1:World) (cur':Array Value),w1.heap[g]?=some (.cells cur' e (0,0))→cur'.size=cur.size→cur'.toList.take (i * d.sz)=cur.toList.take (i * d.sz)→d.R e w1 base ok (.slice (some ⟨g,0,none⟩) i c) (xs.take i):=by
      intro w1 cur' g1 g2 g3
      rw[Uj F]
      have hl:(xs.take i).length=i:=by rw[List.length_take,Nat.min_eq_left hi]
      refine⟨fun k hk=>X k (by simpa[Value.ownBlock] using hk), ?_⟩
      rw[hl]
      refine⟨by rw[Vs F,hl],.inr ⟨g,c,cur',rfl,hb,g1,by omega,hcm,by rw[g2,hcs], ?_⟩⟩
      have hq:cur.toList.take (i * d.sz)=(cur.toList.take (xs.length * d.sz)).take (i * d.sz):=by
        rw[List.take_take,Nat.min_eq_left (Nat.mul_le_mul_right _ hi)]
      rw[g3,hq,htake,Wv F xs i hi]
    rcases Nat.lt_or_ge i xs.length with hlt|hge
    · rw[if_neg (by omega)]
      simp only[Option.map_some,Mu]
      have hsz:(xs.length-i) * z.cells.size+i * d.sz≤cur.size:=by
        rw[hzs,hcs,← Nat.add_mul]
        exact Nat.mul_le_mul_right _ (by omega)
      obtain⟨vs,hvl,hrun⟩:=Wl (P:=P) W t e ty z ht hv J g (i * d.sz) (xs.length-i) (c-i) (by omega)
        (fun j hj=>by rw[cell_of_row W g _ cur e (0,0) hh];simp;omega) (fun j _=>Qb hh _)
      obtain⟨cur',g1,g2,g3⟩:=Jj vs (i * d.sz) W cur hh (by rw[hvl];omega)
      refine⟨_,hrun,own_i _ cur' g1 g2 ?_, ?_⟩
      · rw[g3,List.append_assoc,List.take_append_of_le_length (by rw[List.length_take];simp;omega),List.take_take,Nat.min_self]
      · have:(Value.slice (some ⟨g,0,none⟩) i c).ownBlock=some g:=rfl
        rw[this]
        exact Mb
    · have hie:i=xs.length:=by omega
      refine⟨W, ?_,own_i W cur hh rfl rfl,World.grownBy.refl W _⟩
      rw[hie,Nat.sub_self]
      split <;> simp[Builtin.clear_,run_underlying ht]
theorem Wc {P:Program} {ops:Array Oper} {o:Oper} {rest:List Oper} {a:Act} {Q:Exit→Act→World→Prop} (F:Flat d enc) {W:World} {base:Nat} {ok:Nat→Prop} {e:Nat} (hgd:o.guard=none) (x:Operand) (t:TypeId) (ho:o.op = .call {callee:=.builtin .clear,args:=#[x],argTypes:=#[t]})
    (ht:P.underlying t=some (.slice e)) (z:Value) (hv:∀ w,(zeroValue e).run P w = .ok z w) (J:∀ u ∈ z.cells.toList,u.oneCell'=true) (hzs:z.cells.size=d.sz)
    (A A1:Option Addr) (c c1 X:Nat) (xs:List α) (HO:d.R e W base ok (.slice A xs.length c) xs) (i:Nat) (hi:i≤xs.length) (B:A1=(if c=i then A else A.map (·.add (i * d.sz)))) (O:X=xs.length-i) (ct:c1=c-i) (hx:a.eval x = .slice A1 X c1)
    (h:∀ w1,d.R e w1 base ok (.slice A i c) (xs.take i)→W.grownBy w1 (Value.slice A i c).ownBlock→wpList P ops Q rest (a.put o.dst (.tuple #[])) w1):wpList P ops Q (o :: rest) a W:=by
  subst B O ct
  obtain⟨w1,hr,hR,hg⟩:=Mn F t o.type ht z hv J hzs A c xs HO i hi
  refine Kd.K7 hgd (v:=.tuple #[]) (w1:=w1) ?_ (h w1 hR hg)
  unfold execOp
  simp only[ho,resolve,invoke,builtin,Sem.run_bind,Sem.run_pure,Result.andThen_ok,List.map_toArray,List.map_cons,List.map_nil,hx,hr]
theorem Wx {P:Program} {ops:Array Oper} {o:Oper} {rest:List Oper} {a:Act} {Q:Exit→Act→World→Prop} (F:Flat d enc) {w w0 W:World} {S ok:Nat→Prop} {e:Nat} (hgd:o.guard=none) (x:Operand) (t:TypeId) (ho:o.op = .call {callee:=.builtin .clear,args:=#[x],argTypes:=#[t]})
    (ht:P.underlying t=some (.slice e)) (z:Value) (hv:∀ w,(zeroValue e).run P w = .ok z w) (J:∀ u ∈ z.cells.toList,u.oneCell'=true) (hzs:z.cells.size=d.sz)
    (A A1:Option Addr) (c c1 X:Nat) (xs:List α) (HO:d.R e W w0.heap.size ok (.slice A xs.length c) xs) (i:Nat) (hi:i≤xs.length) (B:A1=(if c=i then A else A.map (·.add (i * d.sz)))) (O:X=xs.length-i) (ct:c1=c-i) (hx:a.eval x = .slice A1 X c1)
    (HB:Below w0.heap.size w0 W) (HK:Kept w W S) (hok:∀ k,ok k→S k∨w.heap.size≤k) (ys:List α) (hys:ys=xs.take i)
    (h:∀ w1,d.R e w1 w0.heap.size ok (.slice A ys.length c) ys→Below w0.heap.size w0 w1→Kept w w1 S→wpList P ops Q rest (a.put o.dst (.tuple #[])) w1):wpList P ops Q (o :: rest) a W:=by
  have hob:(Value.slice A i c).ownBlock=(Value.slice A xs.length c).ownBlock:=by cases A <;> rfl
  have hl:ys.length=i:=by rw[hys,List.length_take,Nat.min_eq_left hi]
  refine Wc F hgd x t ho ht z hv J hzs A A1 c c1 X xs HO i hi B O ct hx ?_
  intro w1 hR hg
  rw[hob] at hg
  refine h w1 (by rw[hl,hys];exact hR) (HB.grown hg HB.size (Yr ((Uj F).1 HO).2)) (Kept.Gs hg HK (fun k hk=>hok k (HO.1 k hk)))
end
theorem flatI:Flat k86 (fun x=>[.int .i64 x.f0,.int .i64 x.f1]) where
  len:=fun _=>rfl
  one:=fun x u hu=>by
    simp only[List.mem_cons,List.not_mem_nil,or_false] at hu
    rcases hu with rfl|rfl <;> rfl
  M:=fun w base ok x cs=>⟨J5,fun h=>by rw[h];exact V6 w base ok x⟩
  K:=fun w x cs=>⟨Kv,fun h=>by rw[h];exact Nb w x⟩
theorem zeroI (w:World):(zeroValue 86).run Try.prog w = .ok (.agg #[.int .i64 0,.int .i64 0]) w:=by kernel_rfl
theorem X3 {w W:World} {S:Nat→Prop} {g:Nat} {o:Obj} (h:w.heap[g]?=some o) (hk:Kept w W S) (hn:¬ S g):W.heap[g]?=some o:=(hk.2 g (Xi h) hn).trans h
end Go.Proofs.Ytmfffemidlhcpaa.C
