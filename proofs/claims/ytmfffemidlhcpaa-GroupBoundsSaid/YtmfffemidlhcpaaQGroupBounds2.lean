/- Texts of this claim, one behind the other: what the law's functions come to, walked (printed by a program, with the words that the print uses), and what that is, in plain Lean. No conditions of their own. -/
import Derived.Test.YtmfffemidlhcpaaQGroupBounds1
import Derived.Test.YtmfffemidlhcpaaProg
namespace Go.Proofs.YtmfffemidlhcpaaW.PrintWords
open Go.RowKit Go.Proofs.YtmfffemidlhcpaaW.PrintLast Go.Proofs.YtmfffemidlhcpaaW.PrintMore
def qB (n m:Nat):Array Bool:=((List.range n).map fun i=>m.testBit i).toArray
theorem qP {P:Program} {ops:Array Oper} {Q:Exit→Act→World→Prop} {md:Region.Mode} {S:World→Prop} {ds:List Nat} {oi:Oper} {v:Value} {fuel:Nat} {l:Array Bool} {a:Act} {w:World} {T:Bool×List (List Nat×List Nat)} (i:Nat) (N:Option Tmp) (l':Array Bool) (ht:Aside0 (rtab md ops=T)) {a':Act} (h:Q6 P md ops Q S ds fuel l' a' w) (hi:ops[i]?=some oi:=by rfl) (hN:oi.dst=N:=by rfl) (hc:Ng T l.toList l'.toList i=true:=by kernel_rfl) (hQ:∀ c a w,Q (.panic c) (a.put oi.dst v) w→Q (.panic c) a w:=by exact(fun _ _ _ h=>h)) (hy:Yields P ops oi v a:=by(refine Or.inl ⟨by rfl, ?_⟩;intro w';go_simp;with_reducible rfl)) (ha:a.put N v=a':=by(simp only[Act.put,qS,Zi,Zt];rfl)):Q6 P md ops Q S ds (fuel+1) l a w:=X0 l' hi hN (Mg ht.out hc) hQ hy ha h
theorem qU {P:Program} {ops:Array Oper} {Q:Exit→Act→World→Prop} {md:Region.Mode} {S:World→Prop} {ds:List Nat} {oi:Oper} {fuel:Nat} {l:Array Bool} {a:Act} {w:World} {T:Bool×List (List Nat×List Nat)} (i:Nat) (N:Option Tmp) (l':Array Bool) (ht:Aside0 (rtab md ops=T)) {a':Act} (h:Q6 P md ops Q S ds fuel l' a' w) (hi:ops[i]?=some oi:=by rfl) (hN:oi.dst=N:=by rfl) (hc:Ng T l.toList l'.toList i=true:=by kernel_rfl) (hQ:∀ c a w,Q (.panic c) (a.put oi.dst undef) w→Q (.panic c) a w:=by exact(fun _ _ _ h=>h)) (hy:Yields P ops oi undef a:=by exact(Or.inr ⟨by rfl,rfl⟩)) (ha:a.put N undef=a':=by(simp only[Act.put,qS,Zi,Zt];rfl)):Q6 P md ops Q S ds (fuel+1) l a w:=X0 l' hi hN (Mg ht.out hc) hQ hy ha h
theorem qT {P:Program} {ops:Array Oper} {Q:Exit→Act→World→Prop} {md:Region.Mode} {S:World→Prop} {ds:List Nat} {oi:Oper} {v:Value} {fuel:Nat} {l:Array Bool} {a:Act} {w:World} {T:Bool×List (List Nat×List Nat)} {B:List Nat} (i:Nat) (N:Option Tmp) (l':Array Bool) (ht:Aside0 (rtab md ops=T)) (hW:Aside0 (Z3 T.snd B=true)) (hS:S w) {a':Act} (h:Q6 P md ops Q S ds fuel l' a' w) (hi:ops[i]?=some oi:=by rfl) (hN:oi.dst=N:=by rfl) (hc:Ls T B ds l.toList l'.toList i=true:=by kernel_rfl) (hQ:∀ c a w,Q (.panic c) (a.put oi.dst v) w→Q (.panic c) a w:=by exact(fun _ _ _ h=>h)) (hy:YieldsIf P ops S oi v a:=by(refine Or.inl ⟨by rfl, ?_⟩;intro w' hs_;(repeat obtain⟨_,hs_⟩:=(hs_:_∧_));go_simp;with_reducible rfl)) (ha:a.put N v=a':=by(simp only[Act.put,qS,Zi,Zt];rfl)):Q6 P md ops Q S ds (fuel+1) l a w:=Y8 l' hi hN (Lr ht.out hW.out hc) hQ hy hS ha h
theorem qN {P:Program} {ops:Array Oper} {Q:Exit→Act→World→Prop} {md:Region.Mode} {S:World→Prop} {ds:List Nat} {v:Value} {fuel:Nat} {l:Array Bool} {a:Act} {w:World} (N:Option Tmp) {a':Act} (h:Q6 P md ops Q S ds fuel l a' w) (ha:a.put N v=a':=by(simp only[Act.put,qS,Zi,Zt];rfl)):Q6 P md ops Q S ds fuel l (a.put N v) w:=Zx ha h
theorem qc {w:World} {g i:Nat} {t:TypeId} {cs:Array Value} {v:Value} (b:Aside0 (w.heap[g]?=some (.cells cs t (0,0)))) (h:cs[i]?=some v:=by exact rfl):w.cell? ⟨g,i,none⟩=some v:=(Qk b.out i).trans h
theorem qM {p:Prop} (h:p:=by((try simp only[List.map_toArray,List.map_cons,List.map_nil]) <;> (first|done|rfl))):p:=h
theorem qE {P:Program} {ops:Array Oper} {Q:Exit→Act→World→Prop} {o:Oper} {rest:List Oper} {a:Act} {W:World} (N:Tmp) (cs:Array Value) (t:TypeId) (h:∀ g,g=W.heap.size → ∀ w1,w1.heap[g]?=some (.cells cs t (0,0))→Below W.heap.size W w1→wpList P ops Q rest (a.put o.dst (.pointer (some ⟨g,0,none⟩))) w1) (hd:o.dst=some N:=by rfl) (hg:o.guard=none:=by rfl) (hr:(execOp a.eval o).run P W = .ok (.value (.pointer (some ⟨W.heap.size,0,none⟩))) (W.alloc (.cells cs t (0,0))):=by(go_simp <;> rfl)):wpList P ops Q (o :: rest) a W:=Qq hg (N:=N) hd (cs:=cs) (t:=t) hr h
theorem qD1 {w:World} {g:Nat} {t:TypeId} {J:Value} (b:w.heap[g]?=some (.cells #[J] t (0,0))):w.cell? ⟨g,0,none⟩=some J∧w.frozen? ⟨g,0,none⟩=false:=⟨(Qk b 0).trans rfl,Qz b 0⟩
theorem qD2 {w:World} {g:Nat} {t:TypeId} {J Z:Value} (b:w.heap[g]?=some (.cells #[J,Z] t (0,0))):w.cell? ⟨g,0,none⟩=some J∧w.cell? ⟨g,1,none⟩=some Z∧w.frozen? ⟨g,0,none⟩=false∧w.frozen? ⟨g,1,none⟩=false:=⟨(Qk b 0).trans rfl,(Qk b 1).trans rfl,Qz b 0,Qz b 1⟩
theorem qD3 {w:World} {g:Nat} {t:TypeId} {J Z a2:Value} (b:w.heap[g]?=some (.cells #[J,Z,a2] t (0,0))):w.cell? ⟨g,0,none⟩=some J∧w.cell? ⟨g,1,none⟩=some Z∧w.cell? ⟨g,2,none⟩=some a2∧w.frozen? ⟨g,0,none⟩=false∧w.frozen? ⟨g,1,none⟩=false∧w.frozen? ⟨g,2,none⟩=false:=⟨(Qk b 0).trans rfl,(Qk b 1).trans rfl,(Qk b 2).trans rfl,Qz b 0,Qz b 1,Qz b 2⟩
theorem qD7 {w:World} {g:Nat} {t:TypeId} {J Z a2 a3 L a5 O:Value} (b:w.heap[g]?=some (.cells #[J,Z,a2,a3,L,a5,O] t (0,0))):w.cell? ⟨g,0,none⟩=some J∧w.cell? ⟨g,1,none⟩=some Z∧w.cell? ⟨g,2,none⟩=some a2∧w.cell? ⟨g,3,none⟩=some a3∧w.cell? ⟨g,4,none⟩=some L∧w.cell? ⟨g,5,none⟩=some a5∧w.cell? ⟨g,6,none⟩=some O∧w.frozen? ⟨g,0,none⟩=false∧w.frozen? ⟨g,1,none⟩=false∧w.frozen? ⟨g,2,none⟩=false∧w.frozen? ⟨g,3,none⟩=false∧w.frozen? ⟨g,4,none⟩=false∧w.frozen? ⟨g,5,none⟩=false∧w.frozen? ⟨g,6,none⟩=false:=⟨(Qk b 0).trans rfl,(Qk b 1).trans rfl,(Qk b 2).trans rfl,(Qk b 3).trans rfl,(Qk b 4).trans rfl,(Qk b 5).trans rfl,(Qk b 6).trans rfl,Qz b 0,Qz b 1,Qz b 2,Qz b 3,Qz b 4,Qz b 5,Qz b 6⟩
theorem qD8 {w:World} {g:Nat} {t:TypeId} {J Z a2 a3 L a5 O a7:Value} (b:w.heap[g]?=some (.cells #[J,Z,a2,a3,L,a5,O,a7] t (0,0))):w.cell? ⟨g,0,none⟩=some J∧w.cell? ⟨g,1,none⟩=some Z∧w.cell? ⟨g,2,none⟩=some a2∧w.cell? ⟨g,3,none⟩=some a3∧w.cell? ⟨g,4,none⟩=some L∧w.cell? ⟨g,5,none⟩=some a5∧w.cell? ⟨g,6,none⟩=some O∧w.cell? ⟨g,7,none⟩=some a7∧w.frozen? ⟨g,0,none⟩=false∧w.frozen? ⟨g,1,none⟩=false∧w.frozen? ⟨g,2,none⟩=false∧w.frozen? ⟨g,3,none⟩=false∧w.frozen? ⟨g,4,none⟩=false∧w.frozen? ⟨g,5,none⟩=false∧w.frozen? ⟨g,6,none⟩=false∧w.frozen? ⟨g,7,none⟩=false:=⟨(Qk b 0).trans rfl,(Qk b 1).trans rfl,(Qk b 2).trans rfl,(Qk b 3).trans rfl,(Qk b 4).trans rfl,(Qk b 5).trans rfl,(Qk b 6).trans rfl,(Qk b 7).trans rfl,Qz b 0,Qz b 1,Qz b 2,Qz b 3,Qz b 4,Qz b 5,Qz b 6,Qz b 7⟩
theorem Zh {w:World} {g:Nat} {t:TypeId} {J Z a2 a3 L a5 O a7 a8 a9:Value} (b:w.heap[g]?=some (.cells #[J,Z,a2,a3,L,a5,O,a7,a8,a9] t (0,0))):w.cell? ⟨g,0,none⟩=some J∧w.cell? ⟨g,1,none⟩=some Z∧w.cell? ⟨g,2,none⟩=some a2∧w.cell? ⟨g,3,none⟩=some a3∧w.cell? ⟨g,4,none⟩=some L∧w.cell? ⟨g,5,none⟩=some a5∧w.cell? ⟨g,6,none⟩=some O∧w.cell? ⟨g,7,none⟩=some a7∧w.cell? ⟨g,8,none⟩=some a8∧w.cell? ⟨g,9,none⟩=some a9∧w.frozen? ⟨g,0,none⟩=false∧w.frozen? ⟨g,1,none⟩=false∧w.frozen? ⟨g,2,none⟩=false∧w.frozen? ⟨g,3,none⟩=false∧w.frozen? ⟨g,4,none⟩=false∧w.frozen? ⟨g,5,none⟩=false∧w.frozen? ⟨g,6,none⟩=false∧w.frozen? ⟨g,7,none⟩=false∧w.frozen? ⟨g,8,none⟩=false∧w.frozen? ⟨g,9,none⟩=false:=⟨(Qk b 0).trans rfl,(Qk b 1).trans rfl,(Qk b 2).trans rfl,(Qk b 3).trans rfl,(Qk b 4).trans rfl,(Qk b 5).trans rfl,(Qk b 6).trans rfl,(Qk b 7).trans rfl,(Qk b 8).trans rfl,(Qk b 9).trans rfl,Qz b 0,Qz b 1,Qz b 2,Qz b 3,Qz b 4,Qz b 5,Qz b 6,Qz b 7,Qz b 8,Qz b 9⟩
end Go.Proofs.YtmfffemidlhcpaaW.PrintWords
namespace Go.Proofs.Ytmfffemidlhcpaa.C
open Go.RowKit Go.Proofs.YtmfffemidlhcpaaW.PrintWords Go.Proofs.YtmfffemidlhcpaaW.PrintLast Go.Proofs.YtmfffemidlhcpaaW.PrintMore
attribute [local go_sem] Z1 Zz Z9 Z8 Zq Zp Z0 Zy
set_option linter.unusedVariables false
set_option linter.unusedSimpArgs false
def L9:Option Int→Value
 |none=>.nilIface
 |some c=>.iface 0 (.int .i64 c)
theorem Qo:L9 none = .nilIface:=rfl
theorem Qn (c:Int):L9 (some c) = .iface 0 (.int .i64 c):=rfl
theorem Wd:(Try.prog.info? 3).map (fun i=>(i.zero,i.size,i.bytes))=some (some (.int .i64 0),1,8):=by kernel_rfl
theorem Ga:(Try.prog.info? 36).map (fun i=>(i.zero,i.size,i.bytes))=some (some (.agg #[(.int .i64 0),(.int .i64 0),(.int .i64 0)]),3,24):=by kernel_rfl
theorem K9:(Try.prog.info? 86).map (fun i=>(i.zero,i.size,i.bytes))=some (some (.agg #[(.int .i64 0),(.int .i64 0)]),2,16):=by kernel_rfl
structure S27 where
 f0:Int
 f1:Int
 f2:Int
def z27:S27:=⟨(0:Int),(0:Int),(0:Int)⟩
def k27:Kd S27:=Kd.iso (Kd.pair (Kd.int .i64) (Kd.pair (Kd.int .i64) (Kd.int .i64))) (fun x:S27=>(x.f0,x.f1,x.f2))
theorem L2 {w:World} {x:S27} {cs:List Value} (h:k27.K w x cs):cs = [.int .i64 x.f0,.int .i64 x.f1,.int .i64 x.f2]:=by
 obtain⟨_,_,rfl,rfl,⟨_,_,rfl,rfl,rfl⟩⟩:=h
 exact rfl
theorem M4 (w:World) (base:Nat) (ok:Nat→Prop) (x:S27):k27.M w base ok x [.int .i64 x.f0,.int .i64 x.f1,.int .i64 x.f2]:=⟨[.int .i64 x.f0],[.int .i64 x.f1,.int .i64 x.f2],rfl,rfl,⟨[.int .i64 x.f1],[.int .i64 x.f2],rfl,rfl,rfl⟩⟩
def Yu (xs:List (List Int)) (i:Int):(List Int):=xs.getD i.toNat ([]:List Int)
theorem Ny {w:World} {A:Option Addr} {n:Nat} {xs:List (List Int)} (h:Kd.C (Kd.slice 3 (Kd.int .i64)) w A n xs) (i:Int) (O:0≤i) (h1:i<n):∃ ad A0 c0,A=some ad∧w.cell? (ad.add i.toNat)=some (.slice A0 (Yu xs i).length c0)∧(Yu xs i).length≤c0∧(Kd.int .i64).C w A0 (Yu xs i).length (Yu xs i):=by
 obtain⟨ad,c,e,_,hK,γ⟩:=Kd.G7 h ([]:List Int) i O h1
 have hc:∀ j u,c[j]?=some u→w.cell? (ad.add (i.toNat * 1+j))=some u:=γ
 obtain⟨A0,c0,rfl,l0,g0⟩:=hK
 exact⟨ad,A0,c0,e,by have hq:=hc 0 _ rfl;rwa[Nat.mul_one,Nat.add_zero] at hq,l0,g0⟩
structure S36 where
 f0:Int
 f1:Int
 f2:Int
def z36:S36:=⟨(0:Int),(0:Int),(0:Int)⟩
def k36:Kd S36:=Kd.iso (Kd.pair (Kd.int .i64) (Kd.pair (Kd.int .i64) (Kd.int .i64))) (fun x:S36=>(x.f0,x.f1,x.f2))
theorem J9 {w:World} {x:S36} {cs:List Value} (h:k36.K w x cs):cs = [.int .i64 x.f0,.int .i64 x.f1,.int .i64 x.f2]:=by
 obtain⟨_,_,rfl,rfl,⟨_,_,rfl,rfl,rfl⟩⟩:=h
 exact rfl
theorem X7 {w:World} {base:Nat} {ok:Nat→Prop} {x:S36} {cs:List Value} (h:k36.M w base ok x cs):cs = [.int .i64 x.f0,.int .i64 x.f1,.int .i64 x.f2]:=by
 obtain⟨_,_,rfl,rfl,⟨_,_,rfl,rfl,rfl⟩⟩:=h
 exact rfl
theorem Ka (w:World) (base:Nat) (ok:Nat→Prop) (x:S36):k36.M w base ok x [.int .i64 x.f0,.int .i64 x.f1,.int .i64 x.f2]:=⟨[.int .i64 x.f0],[.int .i64 x.f1,.int .i64 x.f2],rfl,rfl,⟨[.int .i64 x.f1],[.int .i64 x.f2],rfl,rfl,rfl⟩⟩
def Ql (xs:List S36) (i:Int):S36:=xs.getD i.toNat z36
theorem Xz {w:World} {A:Option Addr} {n:Nat} {xs:List S36} (h:Kd.C k36 w A n xs) (i:Int) (O:0≤i) (h1:i<n):∃ ad,A=some ad∧w.cell? (ad.add (i.toNat * 3))=some (.int .i64 (Ql xs i).f0)∧w.cell? ⟨(ad.add (i.toNat * 3)).block,(ad.add (i.toNat * 3)).off+1,none⟩=some (.int .i64 (Ql xs i).f1)∧w.cell? ⟨(ad.add (i.toNat * 3)).block,(ad.add (i.toNat * 3)).off+2,none⟩=some (.int .i64 (Ql xs i).f2):=by
 obtain⟨ad,c,e,_,hK,γ⟩:=Kd.G7 h z36 i O h1
 have hc:∀ j u,c[j]?=some u→w.cell? (ad.add (i.toNat * 3+j))=some u:=γ
 obtain rfl:=J9 hK
 exact⟨ad,e,hc 0 _ rfl,by rw[← Z6 _ _ 1 (by omega)];exact hc 1 _ rfl,by rw[← Z6 _ _ 2 (by omega)];exact hc 2 _ rfl⟩
structure S86 where
 f0:Int
 f1:Int
def z86:S86:=⟨(0:Int),(0:Int)⟩
def k86:Kd S86:=Kd.iso (Kd.pair (Kd.int .i64) (Kd.int .i64)) (fun x:S86=>(x.f0,x.f1))
theorem J8 {w:World} {x:S86} {cs:List Value} (h:k86.K w x cs):cs = [.int .i64 x.f0,.int .i64 x.f1]:=by
 obtain⟨_,_,rfl,rfl,rfl⟩:=h
 exact rfl
theorem Jm {w:World} {base:Nat} {ok:Nat→Prop} {x:S86} {cs:List Value} (h:k86.M w base ok x cs):cs = [.int .i64 x.f0,.int .i64 x.f1]:=by
 obtain⟨_,_,rfl,rfl,rfl⟩:=h
 exact rfl
theorem L0 (w:World) (x:S86):k86.K w x [.int .i64 x.f0,.int .i64 x.f1]:=⟨[.int .i64 x.f0],[.int .i64 x.f1],rfl,rfl,rfl⟩
theorem Vi (w:World) (base:Nat) (ok:Nat→Prop) (x:S86):k86.M w base ok x [.int .i64 x.f0,.int .i64 x.f1]:=⟨[.int .i64 x.f0],[.int .i64 x.f1],rfl,rfl,rfl⟩
def Qv (xs:List S86) (i:Int):S86:=xs.getD i.toNat z86
theorem Y6 {w:World} {A:Option Addr} {n:Nat} {xs:List S86} (h:Kd.C k86 w A n xs) (i:Int) (O:0≤i) (h1:i<n):∃ ad,A=some ad∧w.cell? (ad.add (i.toNat * 2))=some (.int .i64 (Qv xs i).f0)∧w.cell? ⟨(ad.add (i.toNat * 2)).block,(ad.add (i.toNat * 2)).off+1,none⟩=some (.int .i64 (Qv xs i).f1):=by
 obtain⟨ad,c,e,_,hK,γ⟩:=Kd.G7 h z86 i O h1
 have hc:∀ j u,c[j]?=some u→w.cell? (ad.add (i.toNat * 2+j))=some u:=γ
 obtain rfl:=J8 hK
 exact⟨ad,e,hc 0 _ rfl,by rw[← Z6 _ _ 1 (by omega)];exact hc 1 _ rfl⟩
structure S29 where
 f0:Int
 f1:Int
 f2:Int
 f3:Int
 f4:S27
def z29:S29:=⟨(0:Int),(0:Int),(0:Int),(0:Int),z27⟩
def k29:Kd S29:=Kd.iso (Kd.pair (Kd.int .i64) (Kd.pair (Kd.int .i64) (Kd.pair (Kd.int .i64) (Kd.pair (Kd.int .i64) k27)))) (fun x:S29=>(x.f0,x.f1,x.f2,x.f3,x.f4))
theorem L1 {w:World} {x:S29} {cs:List Value} (h:k29.K w x cs):cs = [.int .i64 x.f0,.int .i64 x.f1,.int .i64 x.f2,.int .i64 x.f3,.int .i64 x.f4.f0,.int .i64 x.f4.f1,.int .i64 x.f4.f2]:=by
 obtain⟨_,_,rfl,rfl,⟨_,_,rfl,rfl,⟨_,_,rfl,rfl,⟨_,_,rfl,rfl,s4⟩⟩⟩⟩:=h
 obtain rfl:=L2 s4
 exact rfl
theorem M3 (w:World) (base:Nat) (ok:Nat→Prop) (x:S29):k29.M w base ok x [.int .i64 x.f0,.int .i64 x.f1,.int .i64 x.f2,.int .i64 x.f3,.int .i64 x.f4.f0,.int .i64 x.f4.f1,.int .i64 x.f4.f2]:=⟨[.int .i64 x.f0],[.int .i64 x.f1,.int .i64 x.f2,.int .i64 x.f3,.int .i64 x.f4.f0,.int .i64 x.f4.f1,.int .i64 x.f4.f2],rfl,rfl,⟨[.int .i64 x.f1],[.int .i64 x.f2,.int .i64 x.f3,.int .i64 x.f4.f0,.int .i64 x.f4.f1,.int .i64 x.f4.f2],rfl,rfl,⟨[.int .i64 x.f2],[.int .i64 x.f3,.int .i64 x.f4.f0,.int .i64 x.f4.f1,.int .i64 x.f4.f2],rfl,rfl,⟨[.int .i64 x.f3],[.int .i64 x.f4.f0,.int .i64 x.f4.f1,.int .i64 x.f4.f2],rfl,rfl,(M4 w base ok x.f4)⟩⟩⟩⟩
structure S31 where
 f0:S29
 f1:Int
 f2:Bool
 f3:Bool
def z31:S31:=⟨z29,(0:Int),false,false⟩
def k31:Kd S31:=Kd.iso (Kd.pair k29 (Kd.pair (Kd.int .i64) (Kd.pair Kd.bool Kd.bool))) (fun x:S31=>(x.f0,x.f1,x.f2,x.f3))
theorem Uh {w:World} {x:S31} {cs:List Value} (h:k31.K w x cs):cs = [.int .i64 x.f0.f0,.int .i64 x.f0.f1,.int .i64 x.f0.f2,.int .i64 x.f0.f3,.int .i64 x.f0.f4.f0,.int .i64 x.f0.f4.f1,.int .i64 x.f0.f4.f2,.int .i64 x.f1,.bool x.f2,.bool x.f3]:=by
 obtain⟨_,_,rfl,s0,⟨_,_,rfl,rfl,⟨_,_,rfl,rfl,rfl⟩⟩⟩:=h
 obtain rfl:=L1 s0
 exact rfl
theorem Wc (w:World) (base:Nat) (ok:Nat→Prop) (x:S31):k31.M w base ok x [.int .i64 x.f0.f0,.int .i64 x.f0.f1,.int .i64 x.f0.f2,.int .i64 x.f0.f3,.int .i64 x.f0.f4.f0,.int .i64 x.f0.f4.f1,.int .i64 x.f0.f4.f2,.int .i64 x.f1,.bool x.f2,.bool x.f3]:=⟨[.int .i64 x.f0.f0,.int .i64 x.f0.f1,.int .i64 x.f0.f2,.int .i64 x.f0.f3,.int .i64 x.f0.f4.f0,.int .i64 x.f0.f4.f1,.int .i64 x.f0.f4.f2],[.int .i64 x.f1,.bool x.f2,.bool x.f3],rfl,(M3 w base ok x.f0),⟨[.int .i64 x.f1],[.bool x.f2,.bool x.f3],rfl,rfl,⟨[.bool x.f2],[.bool x.f3],rfl,rfl,rfl⟩⟩⟩
def Qm (xs:List S31) (i:Int):S31:=xs.getD i.toNat z31
theorem Gh {w:World} {A:Option Addr} {n:Nat} {xs:List S31} (h:Kd.C k31 w A n xs) (i:Int) (O:0≤i) (h1:i<n):∃ ad,A=some ad∧w.cell? (ad.add (i.toNat * 10))=some (.int .i64 (Qm xs i).f0.f0)∧w.cell? ⟨(ad.add (i.toNat * 10)).block,(ad.add (i.toNat * 10)).off+1,none⟩=some (.int .i64 (Qm xs i).f0.f1)∧w.cell? ⟨(ad.add (i.toNat * 10)).block,(ad.add (i.toNat * 10)).off+2,none⟩=some (.int .i64 (Qm xs i).f0.f2)∧w.cell? ⟨(ad.add (i.toNat * 10)).block,(ad.add (i.toNat * 10)).off+3,none⟩=some (.int .i64 (Qm xs i).f0.f3)∧w.cell? ⟨(ad.add (i.toNat * 10)).block,(ad.add (i.toNat * 10)).off+4,none⟩=some (.int .i64 (Qm xs i).f0.f4.f0)∧w.cell? ⟨(ad.add (i.toNat * 10)).block,(ad.add (i.toNat * 10)).off+5,none⟩=some (.int .i64 (Qm xs i).f0.f4.f1)∧w.cell? ⟨(ad.add (i.toNat * 10)).block,(ad.add (i.toNat * 10)).off+6,none⟩=some (.int .i64 (Qm xs i).f0.f4.f2)∧w.cell? ⟨(ad.add (i.toNat * 10)).block,(ad.add (i.toNat * 10)).off+7,none⟩=some (.int .i64 (Qm xs i).f1)∧w.cell? ⟨(ad.add (i.toNat * 10)).block,(ad.add (i.toNat * 10)).off+8,none⟩=some (.bool (Qm xs i).f2)∧w.cell? ⟨(ad.add (i.toNat * 10)).block,(ad.add (i.toNat * 10)).off+9,none⟩=some (.bool (Qm xs i).f3):=by
 obtain⟨ad,c,e,_,hK,γ⟩:=Kd.G7 h z31 i O h1
 have hc:∀ j u,c[j]?=some u→w.cell? (ad.add (i.toNat * 10+j))=some u:=γ
 obtain rfl:=Uh hK
 exact⟨ad,e,hc 0 _ rfl,by rw[← Z6 _ _ 1 (by omega)];exact hc 1 _ rfl,by rw[← Z6 _ _ 2 (by omega)];exact hc 2 _ rfl,by rw[← Z6 _ _ 3 (by omega)];exact hc 3 _ rfl,by rw[← Z6 _ _ 4 (by omega)];exact hc 4 _ rfl,by rw[← Z6 _ _ 5 (by omega)];exact hc 5 _ rfl,by rw[← Z6 _ _ 6 (by omega)];exact hc 6 _ rfl,by rw[← Z6 _ _ 7 (by omega)];exact hc 7 _ rfl,by rw[← Z6 _ _ 8 (by omega)];exact hc 8 _ rfl,by rw[← Z6 _ _ 9 (by omega)];exact hc 9 _ rfl⟩
structure S23 where
 f0:Int
 f1:Int
 f2:Int
 f3:Int
 f4:Int
 f5:Int
 f6:Int
def k23:Kd S23:=Kd.iso (Kd.pair (Kd.int .i64) (Kd.pair (Kd.int .i64) (Kd.pair (Kd.int .i64) (Kd.pair (Kd.int .i64) (Kd.pair (Kd.int .i64) (Kd.pair (Kd.int .i64) (Kd.int .i64))))))) (fun x:S23=>(x.f0,x.f1,x.f2,x.f3,x.f4,x.f5,x.f6))
theorem L4 {w:World} {x:S23} {cs:List Value} (h:k23.K w x cs):cs = [.int .i64 x.f0,.int .i64 x.f1,.int .i64 x.f2,.int .i64 x.f3,.int .i64 x.f4,.int .i64 x.f5,.int .i64 x.f6]:=by
 obtain⟨_,_,rfl,rfl,⟨_,_,rfl,rfl,⟨_,_,rfl,rfl,⟨_,_,rfl,rfl,⟨_,_,rfl,rfl,⟨_,_,rfl,rfl,rfl⟩⟩⟩⟩⟩⟩:=h
 exact rfl
structure S25 where
 f0:Int
 f1:S23
 f2:Int
 f3:Int
def k25:Kd S25:=Kd.iso (Kd.pair (Kd.int .i64) (Kd.pair k23 (Kd.pair (Kd.int .i64) (Kd.int .i64)))) (fun x:S25=>(x.f0,x.f1,x.f2,x.f3))
theorem L3 {w:World} {x:S25} {cs:List Value} (h:k25.K w x cs):cs = [.int .i64 x.f0,.int .i64 x.f1.f0,.int .i64 x.f1.f1,.int .i64 x.f1.f2,.int .i64 x.f1.f3,.int .i64 x.f1.f4,.int .i64 x.f1.f5,.int .i64 x.f1.f6,.int .i64 x.f2,.int .i64 x.f3]:=by
 obtain⟨_,_,rfl,rfl,⟨_,_,rfl,s1,⟨_,_,rfl,rfl,rfl⟩⟩⟩:=h
 obtain rfl:=L4 s1
 exact rfl
def door_within.f (J:Int) (Z:Int) (a2:Int):Option (Bool):=if Z≤J then (some (decide (J≤a2))) else (some false)
set_option maxHeartbeats 8000000 in
set_option maxRecDepth 100000 in
theorem door_within.calls (J:Int) (Z:Int) (a2:Int) (r:Bool) (w:World) (h:door_within.f J Z a2=some r):
  Calls Try.prog 86 #[.int .i64 J,.int .i64 Z,.int .i64 a2] w fun e w'=>e = .returned (.bool r)∧Drawn0 w w':=by
 have H:(if Z≤J then (some (decide (J≤a2))) else (some false))=some r:=h
 clear h
 by_cases c4:Z≤J
 ·rw[if_pos c4] at H
  have c4b0:decide (Z≤J)=true:=decide_eq_true c4
  clear c4
  obtain rfl:=Option.some.inj H
  go_enter Try.func86,Try.ntmps86
  go_wp2
  go_ret
  exact⟨qR,by repeat(first|exact Drawn0.refl _|apply Drawn0.step)⟩
 ·rw[if_neg c4] at H
  have c4b0:decide (Z≤J)=false:=decide_eq_false c4
  clear c4
  obtain rfl:=Option.some.inj H
  go_enter Try.func86,Try.ntmps86
  go_wp2
  go_ret
  exact⟨qR,by repeat(first|exact Drawn0.refl _|apply Drawn0.step)⟩
def door_times.l0:Nat→List Int→Int→Int→Int→Int→Int→Int→Int→Int→Int→Option (Bool)
 |0,_,_,_,_,_,_,_,_,_,_=>none
 |k+1,B,μ,L,O,X,Y,Z,γ,δ,J=>if L < μ then (if 0≤L then (if L<(B.length:Int) then ((door_within.f (rd B L) 1 60).bind fun ξ =>(if ξ = true then (door_times.l0 k B μ (wrap64 (L+1)) O X Y Z γ δ J) else (some false))) else (none)) else (none)) else ((door_within.f J 0 60).bind fun ν =>(some ν))
def door_times.f (k:Nat) (J:Int) (B:Int) (Y:Int) (Z:Int) (γ:Int) (ζ :Int) (ε :Int):Option (Bool):=(some (([J,B,Y,Z,γ,ζ]:List Int):List Int)).bind fun ι =>(door_times.l0 k ι (ι.length:Int) 0 J B Y Z γ ζ ε)
theorem door_times.Zs:∀ k,(∀ O Y L J X Z y6 y7 y8 y9,LeO (door_times.l0 k O Y L J X Z y6 y7 y8 y9) (door_times.l0 (k+1) O Y L J X Z y6 y7 y8 y9))
 |0=>fun _ _ _ _ _ _ _ _ _ _ r h=>by simp[door_times.l0] at h
 |k+1=>by
  have B:=door_times.Zs k
  ·intro O Y L J X Z y6 y7 y8 y9
   unfold door_times.l0
   repeat' first
   |(with_reducible exact B _ _ _ _ _ _ _ _ _ _)
   |(with_reducible exact LeO.refl _)
   |(with_reducible exact LeO.none _)
   |(with_reducible refine LeO.ite ?_ ?_)
   |(with_reducible refine LeO.bind ?_ (fun _=>?_))
   |exact B _ _ _ _ _ _ _ _ _ _
   |exact LeO.none _
   |refine LeO.ite ?_ ?_
   |refine LeO.bind ?_ (fun _=>?_)
theorem door_times.mono:∀ J Z a2 a3 L a5 O k,LeO (door_times.f k J Z a2 a3 L a5 O) (door_times.f (k+1) J Z a2 a3 L a5 O):=by
 intro J Z a2 a3 L a5 O k
 have B:=door_times.Zs k
 unfold door_times.f
 repeat' first
   |(with_reducible exact B _ _ _ _ _ _ _ _ _ _)
   |(with_reducible exact LeO.refl _)
   |(with_reducible exact LeO.none _)
   |(with_reducible refine LeO.ite ?_ ?_)
   |(with_reducible refine LeO.bind ?_ (fun _=>?_))
   |exact B _ _ _ _ _ _ _ _ _ _
   |exact LeO.none _
   |refine LeO.ite ?_ ?_
   |refine LeO.bind ?_ (fun _=>?_)
set_option maxHeartbeats 8000000 in
set_option maxRecDepth 100000 in
theorem door_times.calls (k:Nat) (J:Int) (B:Int) (Y:Int) (Z:Int) (γ:Int) (ζ :Int) (ε :Int) (r:Bool) (w:World) (h:door_times.f k J B Y Z γ ζ ε = some r):
  Calls Try.prog 70 #[.agg #[.int .i64 J,.int .i64 B,.int .i64 Y,.int .i64 Z,.int .i64 γ,.int .i64 ζ,.int .i64 ε]] w fun e w'=>e = .returned (.bool r)∧Below w.heap.size w w':=by
 have h4:=Try.underlying23
 have HB:=Aside0.mk (Below.refl w.heap.size w)
 have H:((some (([J,B,Y,Z,γ,ζ]:List Int):List Int)).bind fun ι =>(door_times.l0 k ι (ι.length:Int) 0 J B Y Z γ ζ ε))=some r:=h
 clear h
 obtain⟨ι,ρ⟩:∃ y_:List Int,y_=(([J,B,Y,Z,γ,ζ]:List Int)):=⟨_,rfl⟩
 replace H:(door_times.l0 k ι (ι.length:Int) 0 J B Y Z γ ζ ε)=some r:=by first|(rw[ρ];with_reducible exact H)|(have ax:=(Option.bind_some _ _).symm.trans H;rw[ρ];with_reducible exact ax)|(have ax:=(Option.bind_some _ _).symm.trans H;with_reducible exact ax)|with_reducible exact H|(rw[ρ];exact H)|exact H
 have ψ :=Aside0.mk ρ
 clear ρ
 have H':=Aside0.mk H
 clear H
 go_enter Try.func70,Try.ntmps70
 go_wp2_with (first|((with_reducible refine Qr (N:=1) rfl ?_);refine Qq ?hg (N:=1) ?hd (cs:=#[.int .i64 J,.int .i64 B,.int .i64 Y,.int .i64 Z,.int .i64 γ,.int .i64 ζ,.int .i64 ε]) (t:=23) ?hr ?_;(case hd=>rfl);(case hg=>rfl);(case hr=>first|(go_simp;done)|(go_simp;rfl));intro θ hg w2 hbox hb;have L:=Aside0.mk (Qj (by repeat(first|(with_reducible first|exact HB.out|apply Qg|apply Qd|apply Qf)|exact HB.out)) hb);have O:=Aside0.mk (hbox);have X:=Aside0.mk ((by rw[hg];exact(Qi (by repeat(first|(with_reducible first|exact HB.out|apply Qg|apply Qd|apply Qf)|exact HB.out))):w.heap.size ≤ θ));have δ :=Aside0.mk ((by rw[hg];exact(Qi (by repeat(first|(with_reducible first|exact HB.out|apply Qg|apply Qd|apply Qf)|exact HB.out))):w.heap.size ≤ θ));clear HB;have HB:=L;have η :=O;have σ:=X;have μ := δ;clear L O X δ;clear hb hbox hg;obtain⟨a1,a2,a3,a4,a5,a6,a8,a9,ai,ak,al,am,ar,au⟩:=qD7 η.out)|((with_reducible refine Qr (N:=17) rfl ?_);refine Kd.G6 (Kd.int .i64) _ 3 ?hg (N:=17) ?hd (xs:=([J,B,Y,Z,γ,ζ]:List Int)) (inner:=[.int .i64 J,.int .i64 B,.int .i64 Y,.int .i64 Z,.int .i64 γ,.int .i64 ζ]) (ok:=fun _=>True) (okp:=fun _=>True) ?hr ?hp (fun _ hk=>hk) trivial (Below.refl _ _) (Nat.le_refl _) (by simp) ?_;(case hd=>rfl);(case hg=>rfl);(case hr=>first|(go_simp;done)|(go_simp;rfl));(case hp=>exact(Reps.one (show Kd.M (Kd.int .i64) _ _ _ J [.int .i64 J] from rfl) (Reps.one (show Kd.M (Kd.int .i64) _ _ _ B [.int .i64 B] from rfl) (Reps.one (show Kd.M (Kd.int .i64) _ _ _ Y [.int .i64 Y] from rfl) (Reps.one (show Kd.M (Kd.int .i64) _ _ _ Z [.int .i64 Z] from rfl) (Reps.one (show Kd.M (Kd.int .i64) _ _ _ γ [.int .i64 γ] from rfl) (Reps.one (show Kd.M (Kd.int .i64) _ _ _ ζ [.int .i64 ζ] from rfl) (Reps.none _ _))))))));intro ay w4 φ hb hg_ hnew_;clear hg_ hnew_;(first|rw[← ψ.out] at φ |(simp only[Int.reduceToNat] at φ;rw[← ψ.out] at φ));have L:=Aside0.mk (Kd.Zg φ (Qi (by repeat(first|(with_reducible first|exact HB.out|apply Qg|apply Qd|apply Qf|refine Qa ?_ μ.out)|exact HB.out))));have O:=Aside0.mk (Qh (g:= θ) (o:=.cells #[.int .i64 J,.int .i64 B,.int .i64 Y,.int .i64 Z,.int .i64 γ,.int .i64 ζ,.int .i64 ε] 23 (0,0)) (by(with_reducible repeat first|apply Qb|apply Qe|apply Qc);exact η.out) hb);have X:=Aside0.mk (Qj (by repeat(first|(with_reducible first|exact HB.out|apply Qg|apply Qd|apply Qf|refine Qa ?_ μ.out)|exact HB.out)) hb);clear η;clear HB;have τ :=L;have η :=O;have HB:=X;clear L O X;clear hb φ;obtain⟨b0,b1,b2⟩:=Kd.Ze τ.out;subst b2))
 go_loopg [19] k (fun kq cx w'=>∃ (κ :Int),cx = .int .i64 κ ∧ Aside0 (door_times.l0 kq ι (ι.length:Int) κ J B Y Z γ ζ ε = some r)∧Aside0 (kq≤k)∧Aside0 (Kd.R (Kd.int .i64) 3 w' w.heap.size (fun _=>True) (.slice b0 ι.length b1) ι)∧Aside0 (w'.heap[θ]?=some (.cells #[.int .i64 J,.int .i64 B,.int .i64 Y,.int .i64 Z,.int .i64 γ,.int .i64 ζ,.int .i64 ε] 23 (0,0)))∧Aside0 (Below w.heap.size w w'))
 case atStart=>exact⟨(0),qR,H',⟨Nat.le_refl _⟩,⟨by(with_reducible repeat first|apply Kd.Qx|apply Kd.Qw|apply Kd.Qy);exact τ.out⟩,⟨by(with_reducible repeat first|apply Qb|apply Qe|apply Qc);exact η.out⟩,⟨by repeat(first|(with_reducible first|exact HB.out|apply Qg|apply Qd|apply Qf|refine Qa ?_ μ.out)|exact HB.out)⟩⟩
 case round=>
  clear H'
  try clear p2
  try clear a1
  try clear a2
  try clear a3
  try clear a4
  try clear a5
  try clear a6
  try clear a8
  try clear a9
  try clear ai
  try clear ak
  try clear al
  try clear am
  try clear ar
  try clear au
  obtain⟨κ,rfl,HA,az,HO_17,η,HB⟩:=hrel
  cases gk with
  |zero=>exact absurd HA.out (by simp[door_times.l0])
  |succ k1=>
   have H:=HA.out
   clear HA
   simp only[door_times.l0] at H
   by_cases c7: κ < (ι.length:Int)
   ·rw[if_pos c7] at H
    have c7b0:decide (κ < (ι.length:Int))=true:=decide_eq_true c7
    clear c7
    by_cases c8:0 ≤ κ
    ·rw[if_pos c8] at H
     have c8b0:decide (0 ≤ κ)=true:=decide_eq_true c8
     clear c8
     by_cases c9: κ < (ι.length:Int)
     ·rw[if_pos c9] at H
      have c9b0:decide (κ < (ι.length:Int))=true:=decide_eq_true c9
      clear c9
      replace H:=Option.bind_eq_some_iff.mp H
      obtain⟨ξ,db,H⟩:=H
      replace H:(if ξ = true then (door_times.l0 k1 ι (ι.length:Int) (wrap64 (κ + 1)) J B Y Z γ ζ ε) else (some false))=some r:=H
      have e3:=Aside0.mk db
      clear db
      by_cases aw: ξ = true
      ·subst aw
       have H1:(door_times.l0 k1 ι (ι.length:Int) (wrap64 (κ + 1)) J B Y Z γ ζ ε)=some r:=by rw[if_pos rfl] at H;exact H
       clear H
       have H:=H1
       clear H1
       have H':=Aside0.mk H
       clear H
       have ω :0≤(κ :Int):=of_decide_eq_true (by first|(with_reducible assumption)|assumption)
       have a0: κ < (ι.length:Int):=of_decide_eq_true (by first|(with_reducible assumption)|assumption)
       obtain⟨a7,ag,χ⟩:=Kd.Yk (Kd.Q4 HO_17.out).2.2 κ ω a0
       cases ag
       replace ω :=eq_true ω
       replace a0:=eq_true a0
       go_wp2_with (first|((with_reducible refine Qt (f:=86) rfl ?_);refine Q7 (some 24) rfl rfl Try.func86 kr rfl #[.int .i64 (rd ι κ),.int .i64 1,.int .i64 60] rfl (by(try simp only[List.map_toArray,List.map_cons,List.map_nil]);first|done|rfl|(simp only[List.length_drop,List.length_take];rfl)) ?_;(with_reducible refine(door_within.calls (rd ι κ) 1 60 true _ e3.out).mono ?_);rintro e w' ⟨rfl,⟨nd,rfl⟩⟩;refine⟨_,rfl, ?_⟩))
       go_roundg k1
       case measure=>have:=az.out;omega
       case rel=>exact⟨(wrap64 (κ + 1)),qR,H',⟨by have:=az.out;omega⟩,⟨by(with_reducible repeat first|apply Kd.Qx|apply Kd.Qw|apply Kd.Qy);exact HO_17.out⟩,⟨by(with_reducible repeat first|apply Qb|apply Qe|apply Qc);exact η.out⟩,⟨by repeat(first|(with_reducible first|exact HB.out|apply Qg|apply Qd|apply Qf|refine Qa ?_ μ.out)|exact HB.out)⟩⟩
      ·replace aw:=Bool.eq_false_iff.mpr aw
       subst aw
       have H1:(some false)=some r:=by rw[if_neg (show ¬ (false=true) by decide)] at H;exact H
       clear H
       have H:=H1
       clear H1
       obtain rfl:=Option.some.inj H
       have ω :0≤(κ :Int):=of_decide_eq_true (by first|(with_reducible assumption)|assumption)
       have a0: κ < (ι.length:Int):=of_decide_eq_true (by first|(with_reducible assumption)|assumption)
       obtain⟨a7,ag,χ⟩:=Kd.Yk (Kd.Q4 HO_17.out).2.2 κ ω a0
       cases ag
       replace ω :=eq_true ω
       replace a0:=eq_true a0
       go_wp2_with (first|((with_reducible refine Qt (f:=86) rfl ?_);refine Q7 (some 24) rfl rfl Try.func86 kr rfl #[.int .i64 (rd ι κ),.int .i64 1,.int .i64 60] rfl (by(try simp only[List.map_toArray,List.map_cons,List.map_nil]);first|done|rfl|(simp only[List.length_drop,List.length_take];rfl)) ?_;(with_reducible refine(door_within.calls (rd ι κ) 1 60 false _ e3.out).mono ?_);rintro e w' ⟨rfl,⟨nd,rfl⟩⟩;refine⟨_,rfl, ?_⟩))
       go_ret
       exact⟨by first|rfl|(simp[Qo,Qn] <;> rfl)|(simp[*,Qo,Qn] <;> rfl),by repeat(first|(with_reducible first|exact HB.out|apply Qg|apply Qd|apply Qf|refine Qa ?_ μ.out)|exact HB.out)⟩
     ·rw[if_neg c9] at H
      exact absurd H (by simp)
    ·rw[if_neg c8] at H
     exact absurd H (by simp)
   ·rw[if_neg c7] at H
    have c7b0:decide (κ < (ι.length:Int))=false:=decide_eq_false c7
    clear c7
    replace H:=Option.bind_eq_some_iff.mp H
    obtain⟨ν,av,H⟩:=H
    replace H:(some ν)=some r:=H
    have bu:=Aside0.mk av
    clear av
    obtain rfl:=Option.some.inj H
    obtain⟨bb,ci,aa,ac,ae,af,ah,bg,co,ab,aj,an,ao,ap⟩:=qD7 η.out
    go_wp2_with (first|((with_reducible refine Qt (f:=86) rfl ?_);refine Q7 (some 29) rfl rfl Try.func86 kr rfl #[.int .i64 ε,.int .i64 0,.int .i64 60] rfl (by(try simp only[List.map_toArray,List.map_cons,List.map_nil]);first|done|rfl|(simp only[List.length_drop,List.length_take];rfl)) ?_;(with_reducible refine(door_within.calls ε 0 60 ν _ bu.out).mono ?_);rintro e w' ⟨rfl,⟨nd,rfl⟩⟩;refine⟨_,rfl, ?_⟩))
    go_ret
    exact⟨by first|rfl|(simp[Qo,Qn] <;> rfl)|(simp[*,Qo,Qn] <;> rfl),by repeat(first|(with_reducible first|exact HB.out|apply Qg|apply Qd|apply Qf|refine Qa ?_ μ.out)|exact HB.out)⟩
def door_gear.f (k:Nat) (J:Int) (B:Int) (Y:Int) (Z:Int) (γ:Int) (ζ :Int) (ε :Int) (κ :Int) (ι :Int) (θ :Int):Option (Bool):=(door_times.f k B Y Z γ ζ ε κ).bind fun τ =>(if τ = true then ((door_within.f J 2 64).bind fun σ=>(if σ=true then ((door_within.f ι 1 300).bind fun ξ =>(if ξ = true then ((door_within.f θ 0 60).bind fun ν =>(some ν)) else (some false))) else (some false))) else (some false))
theorem door_gear.mono:∀ J Z a2 a3 L a5 O a7 a8 a9 k,LeO (door_gear.f k J Z a2 a3 L a5 O a7 a8 a9) (door_gear.f (k+1) J Z a2 a3 L a5 O a7 a8 a9):=by
 intro J Z a2 a3 L a5 O a7 a8 a9 k
 unfold door_gear.f
 repeat' first
   |(with_reducible exact door_times.mono _ _ _ _ _ _ _ _)
   |(with_reducible exact LeO.refl _)
   |(with_reducible exact LeO.none _)
   |(with_reducible refine LeO.ite ?_ ?_)
   |(with_reducible refine LeO.bind ?_ (fun _=>?_))
   |exact door_times.mono _ _ _ _ _ _ _ _
   |exact LeO.none _
   |refine LeO.ite ?_ ?_
   |refine LeO.bind ?_ (fun _=>?_)
set_option maxHeartbeats 8000000 in
set_option maxRecDepth 100000 in
theorem door_gear.calls (k:Nat) (J:Int) (B:Int) (Y:Int) (Z:Int) (γ:Int) (ζ :Int) (ε :Int) (κ :Int) (ι :Int) (θ :Int) (r:Bool) (w:World) (h:door_gear.f k J B Y Z γ ζ ε κ ι θ = some r):
  Calls Try.prog 72 #[.agg #[.int .i64 J,.int .i64 B,.int .i64 Y,.int .i64 Z,.int .i64 γ,.int .i64 ζ,.int .i64 ε,.int .i64 κ,.int .i64 ι,.int .i64 θ]] w fun e w'=>e = .returned (.bool r)∧Below w.heap.size w w':=by
 have dc:=Try.underlying25
 have h4:=Try.underlying23
 have HB:=Aside0.mk (Below.refl w.heap.size w)
 have H:((door_times.f k B Y Z γ ζ ε κ).bind fun τ =>(if τ = true then ((door_within.f J 2 64).bind fun σ=>(if σ=true then ((door_within.f ι 1 300).bind fun ξ =>(if ξ = true then ((door_within.f θ 0 60).bind fun ν =>(some ν)) else (some false))) else (some false))) else (some false)))=some r:=h
 clear h
 replace H:=Option.bind_eq_some_iff.mp H
 obtain⟨τ,b7,H⟩:=H
 replace H:(if τ = true then ((door_within.f J 2 64).bind fun σ=>(if σ=true then ((door_within.f ι 1 300).bind fun ξ =>(if ξ = true then ((door_within.f θ 0 60).bind fun ν =>(some ν)) else (some false))) else (some false))) else (some false))=some r:=H
 have A2:=Aside0.mk b7
 clear b7
 by_cases c3: τ = true
 ·subst c3
  have H1:((door_within.f J 2 64).bind fun σ=>(if σ=true then ((door_within.f ι 1 300).bind fun ξ =>(if ξ = true then ((door_within.f θ 0 60).bind fun ν =>(some ν)) else (some false))) else (some false)))=some r:=by rw[if_pos rfl] at H;exact H
  clear H
  have H:=H1
  clear H1
  replace H:=Option.bind_eq_some_iff.mp H
  obtain⟨σ,br,H⟩:=H
  replace H:(if σ=true then ((door_within.f ι 1 300).bind fun ξ =>(if ξ = true then ((door_within.f θ 0 60).bind fun ν =>(some ν)) else (some false))) else (some false))=some r:=H
  have A4:=Aside0.mk br
  clear br
  by_cases c5:σ=true
  ·subst c5
   have H1:((door_within.f ι 1 300).bind fun ξ =>(if ξ = true then ((door_within.f θ 0 60).bind fun ν =>(some ν)) else (some false)))=some r:=by rw[if_pos rfl] at H;exact H
   clear H
   have H:=H1
   clear H1
   replace H:=Option.bind_eq_some_iff.mp H
   obtain⟨ξ,bc,H⟩:=H
   replace H:(if ξ = true then ((door_within.f θ 0 60).bind fun ν =>(some ν)) else (some false))=some r:=H
   have A6:=Aside0.mk bc
   clear bc
   by_cases c7: ξ = true
   ·subst c7
    have H1:((door_within.f θ 0 60).bind fun ν =>(some ν))=some r:=by rw[if_pos rfl] at H;exact H
    clear H
    have H:=H1
    clear H1
    replace H:=Option.bind_eq_some_iff.mp H
    obtain⟨ν,bj,H⟩:=H
    replace H:(some ν)=some r:=H
    have A8:=Aside0.mk bj
    clear bj
    obtain rfl:=Option.some.inj H
    go_enter Try.func72,Try.ntmps72
    go_wp2_with (first|((with_reducible refine Qr (N:=1) rfl ?_);refine Qq ?hg (N:=1) ?hd (cs:=#[.int .i64 J,.int .i64 B,.int .i64 Y,.int .i64 Z,.int .i64 γ,.int .i64 ζ,.int .i64 ε,.int .i64 κ,.int .i64 ι,.int .i64 θ]) (t:=25) ?hr ?_;(case hd=>rfl);(case hg=>rfl);(case hr=>first|(go_simp;done)|(go_simp;rfl));intro μ hg w9 hbox hb;have L:=Aside0.mk (Qj (by repeat(first|(with_reducible first|exact HB.out|apply Qg|apply Qd|apply Qf)|exact HB.out)) hb);have O:=Aside0.mk (hbox);have X:=Aside0.mk ((by rw[hg];exact(Qi (by repeat(first|(with_reducible first|exact HB.out|apply Qg|apply Qd|apply Qf)|exact HB.out))):w.heap.size ≤ μ));have δ :=Aside0.mk ((by rw[hg];exact(Qi (by repeat(first|(with_reducible first|exact HB.out|apply Qg|apply Qd|apply Qf)|exact HB.out))):w.heap.size ≤ μ));clear HB;have HB:=L;have η :=O;have φ :=X;have ρ:= δ;clear L O X δ;clear hb hbox hg;obtain⟨aw,bb,da,dq,dr,dt,du,am,ap,b5,dx,ec,ed,ee,ef,eg,eh,ev,fa,ft⟩:=Zh η.out)|((with_reducible refine Qt (f:=70) rfl ?_);refine Q7 (some 5) rfl rfl Try.func70 kr rfl #[.agg #[.int .i64 B,.int .i64 Y,.int .i64 Z,.int .i64 γ,.int .i64 ζ,.int .i64 ε,.int .i64 κ]] rfl (by(try simp only[List.map_toArray,List.map_cons,List.map_nil]);first|done|rfl|(simp only[List.length_drop,List.length_take];rfl)) ?_;(with_reducible refine(door_times.calls k B Y Z γ ζ ε κ true _ A2.out).mono ?_);rintro e em ⟨rfl,hb⟩;refine⟨_,rfl, ?_⟩;have L:=Aside0.mk (Qh (g:= μ) (o:=.cells #[.int .i64 J,.int .i64 B,.int .i64 Y,.int .i64 Z,.int .i64 γ,.int .i64 ζ,.int .i64 ε,.int .i64 κ,.int .i64 ι,.int .i64 θ] 25 (0,0)) (by(with_reducible repeat first|apply Qb|apply Qe|apply Qc);exact η.out) hb);have O:=Aside0.mk (Qj (by repeat(first|(with_reducible first|exact HB.out|apply Qg|apply Qd|apply Qf|refine Qa ?_ ρ.out)|exact HB.out)) hb);clear η;clear HB;have η :=L;have HB:=O;clear L O;(try clear hb);(try clear ak);(try clear hk);(try clear hi);obtain⟨ac,ae,aj,ao,ar,au,ax,ey,ez,f8,af,ah,an,ay,az,b0,b4,fc,fe,fj⟩:=Zh η.out)|(go_at_call 86;(with_reducible refine(door_within.calls J 2 64 true _ A4.out).mono ?_);rintro e w' ⟨rfl,⟨nd,rfl⟩⟩)|(go_at_call 86;(with_reducible refine(door_within.calls ι 1 300 true _ A6.out).mono ?_);rintro e w' ⟨rfl,⟨nd,rfl⟩⟩)|(go_at_call 86;(with_reducible refine(door_within.calls θ 0 60 ν _ A8.out).mono ?_);rintro e w' ⟨rfl,⟨nd,rfl⟩⟩))
    go_ret
    exact⟨by first|rfl|(simp[Qo,Qn] <;> rfl)|(simp[*,Qo,Qn] <;> rfl),by repeat(first|(with_reducible first|exact HB.out|apply Qg|apply Qd|apply Qf|refine Qa ?_ ρ.out)|exact HB.out)⟩
   ·replace c7:=Bool.eq_false_iff.mpr c7
    subst c7
    have H1:(some false)=some r:=by rw[if_neg (show ¬ (false=true) by decide)] at H;exact H
    clear H
    have H:=H1
    clear H1
    obtain rfl:=Option.some.inj H
    go_enter Try.func72,Try.ntmps72
    go_wp2_with (first|((with_reducible refine Qr (N:=1) rfl ?_);refine Qq ?hg (N:=1) ?hd (cs:=#[.int .i64 J,.int .i64 B,.int .i64 Y,.int .i64 Z,.int .i64 γ,.int .i64 ζ,.int .i64 ε,.int .i64 κ,.int .i64 ι,.int .i64 θ]) (t:=25) ?hr ?_;(case hd=>rfl);(case hg=>rfl);(case hr=>first|(go_simp;done)|(go_simp;rfl));intro μ hg ew hbox hb;have L:=Aside0.mk (Qj (by repeat(first|(with_reducible first|exact HB.out|apply Qg|apply Qd|apply Qf)|exact HB.out)) hb);have O:=Aside0.mk (hbox);have X:=Aside0.mk ((by rw[hg];exact(Qi (by repeat(first|(with_reducible first|exact HB.out|apply Qg|apply Qd|apply Qf)|exact HB.out))):w.heap.size ≤ μ));have δ :=Aside0.mk ((by rw[hg];exact(Qi (by repeat(first|(with_reducible first|exact HB.out|apply Qg|apply Qd|apply Qf)|exact HB.out))):w.heap.size ≤ μ));clear HB;have HB:=L;have η :=O;have φ :=X;have ρ:= δ;clear L O X δ;clear hb hbox hg;obtain⟨cj,ck,cy,cz,d0,d1,d2,dd,ff,fg,cm,cn,d3,d4,d5,d6,d7,de,fh,fi⟩:=Zh η.out)|((with_reducible refine Qt (f:=70) rfl ?_);refine Q7 (some 5) rfl rfl Try.func70 kr rfl #[.agg #[.int .i64 B,.int .i64 Y,.int .i64 Z,.int .i64 γ,.int .i64 ζ,.int .i64 ε,.int .i64 κ]] rfl (by(try simp only[List.map_toArray,List.map_cons,List.map_nil]);first|done|rfl|(simp only[List.length_drop,List.length_take];rfl)) ?_;(with_reducible refine(door_times.calls k B Y Z γ ζ ε κ true _ A2.out).mono ?_);rintro e gf ⟨rfl,hb⟩;refine⟨_,rfl, ?_⟩;have L:=Aside0.mk (Qh (g:= μ) (o:=.cells #[.int .i64 J,.int .i64 B,.int .i64 Y,.int .i64 Z,.int .i64 γ,.int .i64 ζ,.int .i64 ε,.int .i64 κ,.int .i64 ι,.int .i64 θ] 25 (0,0)) (by(with_reducible repeat first|apply Qb|apply Qe|apply Qc);exact η.out) hb);have O:=Aside0.mk (Qj (by repeat(first|(with_reducible first|exact HB.out|apply Qg|apply Qd|apply Qf|refine Qa ?_ ρ.out)|exact HB.out)) hb);clear η;clear HB;have η :=L;have HB:=O;clear L O;(try clear hb);(try clear ak);(try clear hk);(try clear hi);obtain⟨dy,dz,ag,bu,df,dh,dn,ei,fu,fw,e0,e3,ai,ej,ek,el,eo,ep,fx,fy⟩:=Zh η.out)|(go_at_call 86;(with_reducible refine(door_within.calls J 2 64 true _ A4.out).mono ?_);rintro e w' ⟨rfl,⟨nd,rfl⟩⟩)|(go_at_call 86;(with_reducible refine(door_within.calls ι 1 300 false _ A6.out).mono ?_);rintro e w' ⟨rfl,⟨nd,rfl⟩⟩))
    go_ret
    exact⟨by first|rfl|(simp[Qo,Qn] <;> rfl)|(simp[*,Qo,Qn] <;> rfl),by repeat(first|(with_reducible first|exact HB.out|apply Qg|apply Qd|apply Qf|refine Qa ?_ ρ.out)|exact HB.out)⟩
  ·replace c5:=Bool.eq_false_iff.mpr c5
   subst c5
   have H1:(some false)=some r:=by rw[if_neg (show ¬ (false=true) by decide)] at H;exact H
   clear H
   have H:=H1
   clear H1
   obtain rfl:=Option.some.inj H
   go_enter Try.func72,Try.ntmps72
   go_wp2_with (first|((with_reducible refine Qr (N:=1) rfl ?_);refine Qq ?hg (N:=1) ?hd (cs:=#[.int .i64 J,.int .i64 B,.int .i64 Y,.int .i64 Z,.int .i64 γ,.int .i64 ζ,.int .i64 ε,.int .i64 κ,.int .i64 ι,.int .i64 θ]) (t:=25) ?hr ?_;(case hd=>rfl);(case hg=>rfl);(case hr=>first|(go_simp;done)|(go_simp;rfl));intro μ hg dv hbox hb;have L:=Aside0.mk (Qj (by repeat(first|(with_reducible first|exact HB.out|apply Qg|apply Qd|apply Qf)|exact HB.out)) hb);have O:=Aside0.mk (hbox);have X:=Aside0.mk ((by rw[hg];exact(Qi (by repeat(first|(with_reducible first|exact HB.out|apply Qg|apply Qd|apply Qf)|exact HB.out))):w.heap.size ≤ μ));have δ :=Aside0.mk ((by rw[hg];exact(Qi (by repeat(first|(with_reducible first|exact HB.out|apply Qg|apply Qd|apply Qf)|exact HB.out))):w.heap.size ≤ μ));clear HB;have HB:=L;have η :=O;have φ :=X;have ρ:= δ;clear L O X δ;clear hb hbox hg;obtain⟨cp,cq,dm,fk,fl,fm,fn,bz,ca,dw,cr,ct,dp,fo,fp,fq,fr,fz,g0,g1⟩:=Zh η.out)|((with_reducible refine Qt (f:=70) rfl ?_);refine Q7 (some 5) rfl rfl Try.func70 kr rfl #[.agg #[.int .i64 B,.int .i64 Y,.int .i64 Z,.int .i64 γ,.int .i64 ζ,.int .i64 ε,.int .i64 κ]] rfl (by(try simp only[List.map_toArray,List.map_cons,List.map_nil]);first|done|rfl|(simp only[List.length_drop,List.length_take];rfl)) ?_;(with_reducible refine(door_times.calls k B Y Z γ ζ ε κ true _ A2.out).mono ?_);rintro e ba ⟨rfl,hb⟩;refine⟨_,rfl, ?_⟩;have L:=Aside0.mk (Qh (g:= μ) (o:=.cells #[.int .i64 J,.int .i64 B,.int .i64 Y,.int .i64 Z,.int .i64 γ,.int .i64 ζ,.int .i64 ε,.int .i64 κ,.int .i64 ι,.int .i64 θ] 25 (0,0)) (by(with_reducible repeat first|apply Qb|apply Qe|apply Qc);exact η.out) hb);have O:=Aside0.mk (Qj (by repeat(first|(with_reducible first|exact HB.out|apply Qg|apply Qd|apply Qf|refine Qa ?_ ρ.out)|exact HB.out)) hb);clear η;clear HB;have η :=L;have HB:=O;clear L O;(try clear hb);(try clear ak);(try clear hk);(try clear hi);obtain⟨cb,cd,ch,e6,e7,he,hh,g6,gx,h5,ce,cg,d8,hj,hl,ho,hu,h6,h7,h8⟩:=Zh η.out)|(go_at_call 86;(with_reducible refine(door_within.calls J 2 64 false _ A4.out).mono ?_);rintro e w' ⟨rfl,⟨nd,rfl⟩⟩))
   go_ret
   exact⟨by first|rfl|(simp[Qo,Qn] <;> rfl)|(simp[*,Qo,Qn] <;> rfl),by repeat(first|(with_reducible first|exact HB.out|apply Qg|apply Qd|apply Qf|refine Qa ?_ ρ.out)|exact HB.out)⟩
 ·replace c3:=Bool.eq_false_iff.mpr c3
  subst c3
  have H1:(some false)=some r:=by rw[if_neg (show ¬ (false=true) by decide)] at H;exact H
  clear H
  have H:=H1
  clear H1
  obtain rfl:=Option.some.inj H
  go_enter Try.func72,Try.ntmps72
  go_wp2_with (first|((with_reducible refine Qr (N:=1) rfl ?_);refine Qq ?hg (N:=1) ?hd (cs:=#[.int .i64 J,.int .i64 B,.int .i64 Y,.int .i64 Z,.int .i64 γ,.int .i64 ζ,.int .i64 ε,.int .i64 κ,.int .i64 ι,.int .i64 θ]) (t:=25) ?hr ?_;(case hd=>rfl);(case hg=>rfl);(case hr=>first|(go_simp;done)|(go_simp;rfl));intro μ hg bn hbox hb;have L:=Aside0.mk (Qj (by repeat(first|(with_reducible first|exact HB.out|apply Qg|apply Qd|apply Qf)|exact HB.out)) hb);have O:=Aside0.mk (hbox);have X:=Aside0.mk ((by rw[hg];exact(Qi (by repeat(first|(with_reducible first|exact HB.out|apply Qg|apply Qd|apply Qf)|exact HB.out))):w.heap.size ≤ μ));have δ :=Aside0.mk ((by rw[hg];exact(Qi (by repeat(first|(with_reducible first|exact HB.out|apply Qg|apply Qd|apply Qf)|exact HB.out))):w.heap.size ≤ μ));clear HB;have HB:=L;have η :=O;have φ :=X;have ρ:= δ;clear L O X δ;clear hb hbox hg;obtain⟨cu,cv,e8,hx,hy,i0,i1,gk,gn,gs,cw,cx,e9,i2,i3,i4,i5,il,im,iq⟩:=Zh η.out)|((with_reducible refine Qt (f:=70) rfl ?_);refine Q7 (some 5) rfl rfl Try.func70 kr rfl #[.agg #[.int .i64 B,.int .i64 Y,.int .i64 Z,.int .i64 γ,.int .i64 ζ,.int .i64 ε,.int .i64 κ]] rfl (by(try simp only[List.map_toArray,List.map_cons,List.map_nil]);first|done|rfl|(simp only[List.length_drop,List.length_take];rfl)) ?_;(with_reducible refine(door_times.calls k B Y Z γ ζ ε κ false _ A2.out).mono ?_);rintro e bl ⟨rfl,hb⟩;refine⟨_,rfl, ?_⟩;have L:=Aside0.mk (Qh (g:= μ) (o:=.cells #[.int .i64 J,.int .i64 B,.int .i64 Y,.int .i64 Z,.int .i64 γ,.int .i64 ζ,.int .i64 ε,.int .i64 κ,.int .i64 ι,.int .i64 θ] 25 (0,0)) (by(with_reducible repeat first|apply Qb|apply Qe|apply Qc);exact η.out) hb);have O:=Aside0.mk (Qj (by repeat(first|(with_reducible first|exact HB.out|apply Qg|apply Qd|apply Qf|refine Qa ?_ ρ.out)|exact HB.out)) hb);clear η;clear HB;have η :=L;have HB:=O;clear L O;(try clear hb);(try clear ak);(try clear hk);(try clear hi)))
  go_ret
  exact⟨by first|rfl|(simp[Qo,Qn] <;> rfl)|(simp[*,Qo,Qn] <;> rfl),by repeat(first|(with_reducible first|exact HB.out|apply Qg|apply Qd|apply Qf|refine Qa ?_ ρ.out)|exact HB.out)⟩
def door_on.f (J:Int) (B:Int) (Y:Int) (Z:Int) (a2:Int):Option (Int×Int×Int):=if (wrap64 (B-1))=0 then (some (Z,a2,Y)) else (some (J,wrap64 (B-1),Y))
def car_within.f (J:Int) (Z:Int) (a2:Int):Option (Bool):=if Z≤J then (some (decide (J≤a2))) else (some false)
set_option maxHeartbeats 8000000 in
set_option maxRecDepth 100000 in
theorem car_within.calls (J:Int) (Z:Int) (a2:Int) (r:Bool) (w:World) (h:car_within.f J Z a2=some r):
  Calls Try.prog 85 #[.int .i64 J,.int .i64 Z,.int .i64 a2] w fun e w'=>e = .returned (.bool r)∧Drawn0 w w':=by
 have H:(if Z≤J then (some (decide (J≤a2))) else (some false))=some r:=h
 clear h
 by_cases c4:Z≤J
 ·rw[if_pos c4] at H
  have c4b0:decide (Z≤J)=true:=decide_eq_true c4
  clear c4
  obtain rfl:=Option.some.inj H
  go_enter Try.func85,Try.ntmps85
  go_wp2
  go_ret
  exact⟨qR,by repeat(first|exact Drawn0.refl _|apply Drawn0.step)⟩
 ·rw[if_neg c4] at H
  have c4b0:decide (Z≤J)=false:=decide_eq_false c4
  clear c4
  obtain rfl:=Option.some.inj H
  go_enter Try.func85,Try.ntmps85
  go_wp2
  go_ret
  exact⟨qR,by repeat(first|exact Drawn0.refl _|apply Drawn0.step)⟩
def group_dist.f (J:Int) (Z:Int):Option (Int):=some (mx (wrap64 (J-Z)) (wrap64 (Z-J)))
set_option maxHeartbeats 8000000 in
set_option maxRecDepth 100000 in
theorem group_dist.calls (J:Int) (Z:Int) (r:Int) (w:World) (h:group_dist.f J Z=some r):
  Calls Try.prog 76 #[.int .i64 J,.int .i64 Z] w fun e w'=>e = .returned (.int .i64 r)∧Below w.heap.size w w':=by
 have HB:=Aside0.mk (Below.refl w.heap.size w)
 have H:(some (mx (wrap64 (J-Z)) (wrap64 (Z-J))))=some r:=h
 clear h
 obtain⟨L,B⟩:∃ j_:Int,(mx (wrap64 (J-Z)) (wrap64 (Z-J)))=j_:=⟨_,rfl⟩
 replace H:(some L)=some r:=by first|(rw[B] at H;exact H)|(simp only[B] at H ⊢;exact H)
 have O:(if (wrap64 (J-Z))<(wrap64 (Z-J)) then (wrap64 (Z-J)) else (wrap64 (J-Z)))=L:=B
 obtain rfl:=Option.some.inj H
 go_enter Try.func76,Try.ntmps76
 go_wp2
 go_ret
 exact⟨by first|rfl|(simp[Qo,Qn] <;> rfl)|(simp only[← B];first|rfl|(simp[Qo,Qn] <;> rfl))|(simp[*,Qo,Qn] <;> rfl),by repeat(first|(with_reducible first|exact HB.out|apply Qg|apply Qd|apply Qf)|exact HB.out)⟩
mutual
def group_way.j0:Nat→Int→Int→Int→Int→Int→Int→Int→Int→Int→Int→Int→Bool→Bool→Int→Int→Int→Option (Int)
 |0,_,_,_,_,_,_,_,_,_,_,_,_,_,_,_,_=>none
 |k+1,L,X,O,Z,γ,δ,ε,ζ,η,θ,B,ι,κ,J,Y,μ =>if B=0 then (group_way.j1 k L X O true Z γ δ ε ζ η θ B ι κ J Y μ) else (if B=Y then (group_way.j1 k L X O (decide ((wrap64 ((wrap64 (J-L)) * B))≥0)) Z γ δ ε ζ η θ B ι κ J Y μ) else (group_way.j1 k L X O false Z γ δ ε ζ η θ B ι κ J Y μ))
def group_way.j1:Nat→Int→Int→Int→Bool→Int→Int→Int→Int→Int→Int→Int→Int→Bool→Bool→Int→Int→Int→Option (Int)
 |0,_,_,_,_,_,_,_,_,_,_,_,_,_,_,_,_,_=>none
 |k+1,L,X,O,ν,Z,γ,δ,ε,ζ,η,θ,B,ι,κ,J,Y,μ =>if ν = true then ((group_dist.f L J).bind fun ax=>(some ax)) else (if B=Y then ((group_dist.f L X).bind fun a9=>((group_dist.f X O).bind fun a8=>((group_dist.f O J).bind fun a7=>(some (wrap64 ((wrap64 (a9+a8))+a7)))))) else ((group_dist.f L X).bind fun au=>((group_dist.f X J).bind fun ar=>(some (wrap64 (au+ar))))))
end
def group_way.f (k:Nat) (J:Int) (μ :Int) (η :Int) (ν :Int) (τ :Int) (ρ:Int) (χ :Int) (ψ :Int) (a1:Int) (a2:Bool) (a5:Bool) (σ:Int) (a3:Int) (a4:Int):Option (Int):=if a1>0 then (group_way.j0 k (wrap64 (μ + η)) (wrap64 (J-1)) 0 μ η ν τ ρ χ ψ a1 a2 a5 σ a3 a4) else (group_way.j0 k (wrap64 (μ + η)) 0 (wrap64 (J-1)) μ η ν τ ρ χ ψ a1 a2 a5 σ a3 a4)
theorem group_way.Zs:∀ k,(∀ O Y L J X Z y6 y7 y8 y9 γ ε ζ η θ ι,LeO (group_way.j0 k O Y L J X Z y6 y7 y8 y9 γ ε ζ η θ ι) (group_way.j0 (k+1) O Y L J X Z y6 y7 y8 y9 γ ε ζ η θ ι))∧(∀ O Y L J X Z y6 y7 y8 y9 γ ε ζ η θ ι κ,LeO (group_way.j1 k O Y L J X Z y6 y7 y8 y9 γ ε ζ η θ ι κ) (group_way.j1 (k+1) O Y L J X Z y6 y7 y8 y9 γ ε ζ η θ ι κ))
 |0=>⟨fun _ _ _ _ _ _ _ _ _ _ _ _ _ _ _ _ r h=>by simp[group_way.j0] at h,fun _ _ _ _ _ _ _ _ _ _ _ _ _ _ _ _ _ r h=>by simp[group_way.j1] at h⟩
 |k+1=>by
  obtain⟨B,δ⟩:=group_way.Zs k
  refine⟨?_, ?_⟩
  ·intro O Y L J X Z y6 y7 y8 y9 γ ε ζ η θ ι
   unfold group_way.j0
   repeat' first
   |(with_reducible exact B _ _ _ _ _ _ _ _ _ _ _ _ _ _ _ _)
   |(with_reducible exact δ _ _ _ _ _ _ _ _ _ _ _ _ _ _ _ _ _)
   |(with_reducible exact LeO.refl _)
   |(with_reducible exact LeO.none _)
   |(with_reducible refine LeO.ite ?_ ?_)
   |(with_reducible refine LeO.bind ?_ (fun _=>?_))
   |exact B _ _ _ _ _ _ _ _ _ _ _ _ _ _ _ _
   |exact δ _ _ _ _ _ _ _ _ _ _ _ _ _ _ _ _ _
   |exact LeO.none _
   |refine LeO.ite ?_ ?_
   |refine LeO.bind ?_ (fun _=>?_)
  ·intro O Y L J X Z y6 y7 y8 y9 γ ε ζ η θ ι κ
   unfold group_way.j1
   repeat' first
   |(with_reducible exact B _ _ _ _ _ _ _ _ _ _ _ _ _ _ _ _)
   |(with_reducible exact δ _ _ _ _ _ _ _ _ _ _ _ _ _ _ _ _ _)
   |(with_reducible exact LeO.refl _)
   |(with_reducible exact LeO.none _)
   |(with_reducible refine LeO.ite ?_ ?_)
   |(with_reducible refine LeO.bind ?_ (fun _=>?_))
   |exact B _ _ _ _ _ _ _ _ _ _ _ _ _ _ _ _
   |exact δ _ _ _ _ _ _ _ _ _ _ _ _ _ _ _ _ _
   |exact LeO.none _
   |refine LeO.ite ?_ ?_
   |refine LeO.bind ?_ (fun _=>?_)
theorem group_way.mono:∀ J Z a2 a3 L a5 O a7 a8 a9 X Y γ ε k,LeO (group_way.f k J Z a2 a3 L a5 O a7 a8 a9 X Y γ ε) (group_way.f (k+1) J Z a2 a3 L a5 O a7 a8 a9 X Y γ ε):=by
 intro J Z a2 a3 L a5 O a7 a8 a9 X Y γ ε k
 obtain⟨B,δ⟩:=group_way.Zs k
 unfold group_way.f
 repeat' first
   |(with_reducible exact B _ _ _ _ _ _ _ _ _ _ _ _ _ _ _ _)
   |(with_reducible exact δ _ _ _ _ _ _ _ _ _ _ _ _ _ _ _ _ _)
   |(with_reducible exact LeO.refl _)
   |(with_reducible exact LeO.none _)
   |(with_reducible refine LeO.ite ?_ ?_)
   |(with_reducible refine LeO.bind ?_ (fun _=>?_))
   |exact B _ _ _ _ _ _ _ _ _ _ _ _ _ _ _ _
   |exact δ _ _ _ _ _ _ _ _ _ _ _ _ _ _ _ _ _
   |exact LeO.none _
   |refine LeO.ite ?_ ?_
   |refine LeO.bind ?_ (fun _=>?_)
def group_way.T7:Bool×List (List Nat×List Nat):=(true,[([],[]),([],[]),([0,1],[0,1]),([],[]),([],[]),([4],[4]),([3,5,2],[3,5]),([2,6],[2,6]),([7,6,0,1,2,3,4,5,6,7],[7])])
def group_way.B7:List Nat:=[0,0,3,0,0,16,63,127,255]
theorem group_way.tab7:rtab .any (opsOf Try.f52 7)=group_way.T7:=by kernel_rfl
theorem group_way.bits7:Z3 group_way.T7.2 group_way.B7=true:=by kernel_rfl
def group_way.T8:Bool×List (List Nat×List Nat):=(true,[([],[]),([],[]),([0,1],[0,1]),([],[]),([],[]),([3,4,2],[3,4]),([2,5],[2,5]),([],[]),([],[]),([8],[8]),([7,9,5],[7,9]),([6,10],[6,10]),([11,10,0,1,2,3,4,5,6,7,8,9,10,11],[11])])
def group_way.B8:List Nat:=[0,0,3,0,0,31,63,0,0,256,959,2047,4095]
theorem group_way.Mq:rtab .any (opsOf Try.f52 8)=group_way.T8:=by kernel_rfl
theorem group_way.Wi:Z3 group_way.T8.2 group_way.B8=true:=by kernel_rfl
set_option maxHeartbeats 8000000 in
set_option maxRecDepth 100000 in
theorem group_way.calls (k:Nat) (J:Int) (μ :Int) (η :Int) (ν :Int) (τ :Int) (ρ:Int) (χ :Int) (ψ :Int) (a1:Int) (a2:Bool) (a5:Bool) (σ:Int) (a3:Int) (a4:Int) (r:Int) (w:World) (h:group_way.f k J μ η ν τ ρ χ ψ a1 a2 a5 σ a3 a4=some r):
  Calls Try.prog 52 #[.int .i64 J,.agg #[.int .i64 μ,.int .i64 η,.int .i64 ν,.int .i64 τ,.int .i64 ρ,.int .i64 χ,.int .i64 ψ,.int .i64 a1,.bool a2,.bool a5],.agg #[.int .i64 σ,.int .i64 a3,.int .i64 a4]] w fun e w'=>e = .returned (.int .i64 r)∧Below w.heap.size w w':=by
 have fv:=Try.underlying31
 have da:=Try.underlying36
 have HB:=Aside0.mk (Below.refl w.heap.size w)
 have H:(if a1>0 then (group_way.j0 k (wrap64 (μ + η)) (wrap64 (J-1)) 0 μ η ν τ ρ χ ψ a1 a2 a5 σ a3 a4) else (group_way.j0 k (wrap64 (μ + η)) 0 (wrap64 (J-1)) μ η ν τ ρ χ ψ a1 a2 a5 σ a3 a4))=some r:=h
 clear h
 have cn:=Aside0.mk H
 clear H
 go_enter Try.func52,Try.ntmps52
 go_upto_if 21 with(first|((with_reducible refine Qr (N:=4) rfl ?_);refine Qq ?hg (N:=4) ?hd (cs:=#[.int .i64 μ,.int .i64 η,.int .i64 ν,.int .i64 τ,.int .i64 ρ,.int .i64 χ,.int .i64 ψ,.int .i64 a1,.bool a2,.bool a5]) (t:=31) ?hr ?_;(case hd=>rfl);(case hg=>rfl);(case hr=>first|(go_simp;done)|(go_simp;rfl));intro ε hg w5 hbox hb;have L:=Aside0.mk (Qj (by repeat(first|(with_reducible first|exact HB.out|apply Qg|apply Qd|apply Qf)|exact HB.out)) hb);have O:=Aside0.mk (hbox);have X:=Aside0.mk ((by rw[hg];exact(Qi (by repeat(first|(with_reducible first|exact HB.out|apply Qg|apply Qd|apply Qf)|exact HB.out))):w.heap.size ≤ ε));have δ :=Aside0.mk ((by rw[hg];exact(Qi (by repeat(first|(with_reducible first|exact HB.out|apply Qg|apply Qd|apply Qf)|exact HB.out))):w.heap.size ≤ ε));clear HB;have HB:=L;have Y:=O;have em:=X;have γ:= δ;clear L O X δ;clear hb hbox hg)|((with_reducible refine Qr (N:=5) rfl ?_);refine Qq ?hg (N:=5) ?hd (cs:=#[.int .i64 σ,.int .i64 a3,.int .i64 a4]) (t:=36) ?hr ?_;(case hd=>rfl);(case hg=>rfl);(case hr=>first|(go_simp;done)|(go_simp;rfl));intro Z hg w6 hbox hb;have L:=Aside0.mk (Qh (g:= ε) (o:=.cells #[.int .i64 μ,.int .i64 η,.int .i64 ν,.int .i64 τ,.int .i64 ρ,.int .i64 χ,.int .i64 ψ,.int .i64 a1,.bool a2,.bool a5] 31 (0,0)) (by(with_reducible repeat first|apply Qb|apply Qe|apply Qc);exact Y.out) hb);have O:=Aside0.mk (Qj (by repeat(first|(with_reducible first|exact HB.out|apply Qg|apply Qd|apply Qf|refine Qa ?_ γ.out)|exact HB.out)) hb);have X:=Aside0.mk (hbox);have δ :=Aside0.mk ((by rw[hg];exact(Qi (by repeat(first|(with_reducible first|exact HB.out|apply Qg|apply Qd|apply Qf|refine Qa ?_ γ.out)|exact HB.out))):w.heap.size≤Z));have ξ :=Aside0.mk ((by rw[hg];exact(Qi (by repeat(first|(with_reducible first|exact HB.out|apply Qg|apply Qd|apply Qf|refine Qa ?_ γ.out)|exact HB.out))):w.heap.size≤Z));have φ :=Aside0.mk ((by rw[hg];exact Nat.ne_of_lt (Qp (g:= ε) (o:=.cells #[.int .i64 μ,.int .i64 η,.int .i64 ν,.int .i64 τ,.int .i64 ρ,.int .i64 χ,.int .i64 ψ,.int .i64 a1,.bool a2,.bool a5] 31 (0,0)) (by(with_reducible repeat first|apply Qb|apply Qe|apply Qc);exact Y.out)): ε ≠ Z));have ω :=Aside0.mk ((by rw[hg];exact Nat.ne_of_gt (Qp (g:= ε) (o:=.cells #[.int .i64 μ,.int .i64 η,.int .i64 ν,.int .i64 τ,.int .i64 ρ,.int .i64 χ,.int .i64 ψ,.int .i64 a1,.bool a2,.bool a5] 31 (0,0)) (by(with_reducible repeat first|apply Qb|apply Qe|apply Qc);exact Y.out)):Z ≠ ε));clear Y;clear HB;have Y:=L;have HB:=O;have B:=X;have f8:= δ;have θ := ξ;have ι := φ;have κ := ω;clear L O X δ ξ φ ω;clear hb hbox hg;have fa:= ι.out;have fb:= κ.out;obtain⟨az,b0,b5,cx,d3,d4,d5,d6,d7,dc,cp,cq,cu,dd,de,dm,dq,dt,du,dw⟩:=Zh Y.out))
 (try simp only[Act.put,qS])
 go_cut [8,9] (fun v8 v9 wc=>∃ (kq:Nat) (ζ :Int) (a6:Int),v8 = .int .i64 ζ ∧ v9 = .int .i64 a6∧Aside0 (group_way.j0 kq (wrap64 (μ + η)) ζ a6 μ η ν τ ρ χ ψ a1 a2 a5 σ a3 a4=some r)∧Aside0 (kq≤k)∧Aside0 (wc.heap[ε]?=some (.cells #[.int .i64 μ,.int .i64 η,.int .i64 ν,.int .i64 τ,.int .i64 ρ,.int .i64 χ,.int .i64 ψ,.int .i64 a1,.bool a2,.bool a5] 31 (0,0)))∧Aside0 (wc.heap[Z]?=some (.cells #[.int .i64 σ,.int .i64 a3,.int .i64 a4] 36 (0,0)))∧Aside0 (Below w.heap.size w wc))
 case first=>
  have H:=cn.out
  clear cn
  by_cases c9:a1>0
  ·rw[if_pos c9] at H
   have c9b0:decide (0<a1)=true:=decide_eq_true c9
   clear c9
   (first|rw[c9b0]|(simp only[Zi,Zt];rw[c9b0])|skip)
   have H':=Aside0.mk H
   clear H
   go_wp2
   go_meet
   case rel=>exact⟨_,(wrap64 (J-1)),(0),qR,qR,H',⟨by first|omega|exact Nat.le_refl _⟩,⟨by(with_reducible repeat first|apply Qb|apply Qe|apply Qc);exact Y.out⟩,⟨by(with_reducible repeat first|apply Qb|apply Qe|apply Qc);exact B.out⟩,⟨by repeat(first|(with_reducible first|exact HB.out|apply Qg|apply Qd|apply Qf|refine Qa ?_ γ.out|refine Qa ?_ θ.out)|exact HB.out)⟩⟩
  ·rw[if_neg c9] at H
   have c9b0:decide (0<a1)=false:=decide_eq_false c9
   clear c9
   (first|rw[c9b0]|(simp only[Zi,Zt];rw[c9b0])|skip)
   have H':=Aside0.mk H
   clear H
   go_wp2
   go_meet
   case rel=>exact⟨_,(0),(wrap64 (J-1)),qR,qR,H',⟨by first|omega|exact Nat.le_refl _⟩,⟨by(with_reducible repeat first|apply Qb|apply Qe|apply Qc);exact Y.out⟩,⟨by(with_reducible repeat first|apply Qb|apply Qe|apply Qc);exact B.out⟩,⟨by repeat(first|(with_reducible first|exact HB.out|apply Qg|apply Qd|apply Qf|refine Qa ?_ γ.out|refine Qa ?_ θ.out)|exact HB.out)⟩⟩
 case rest=>
  clear cn
  try clear p2
  try clear c5
  try clear p6
  try clear c7
  try clear c9
  try clear c9b0
  try clear az
  try clear b0
  try clear b5
  try clear cx
  try clear d3
  try clear d4
  try clear d5
  try clear d6
  try clear d7
  try clear dc
  try clear cp
  try clear cq
  try clear cu
  try clear dd
  try clear de
  try clear dm
  try clear dq
  try clear dt
  try clear du
  try clear dw
  obtain⟨kq,ζ,a6,rfl,rfl,HA,cw,Y,B,HB⟩:=hcut
  cases kq with
  |zero=>exact absurd HA.out (by simp[group_way.j0])
  |succ ec=>
   have H:=HA.out
   clear HA
   simp only[group_way.j0] at H
   have dx:=Aside0.mk H
   clear H
   go_upto_region 4 with(fail)
   go_cut [24] (fun ef wc=>∃ (kq:Nat) (ay:Bool),ef = .bool ay∧Aside0 (group_way.j1 kq (wrap64 (μ + η)) ζ a6 ay μ η ν τ ρ χ ψ a1 a2 a5 σ a3 a4=some r)∧Aside0 (kq≤ec)∧Aside0 (wc.heap[ε]?=some (.cells #[.int .i64 μ,.int .i64 η,.int .i64 ν,.int .i64 τ,.int .i64 ρ,.int .i64 χ,.int .i64 ψ,.int .i64 a1,.bool a2,.bool a5] 31 (0,0)))∧Aside0 (wc.heap[Z]?=some (.cells #[.int .i64 σ,.int .i64 a3,.int .i64 a4] 36 (0,0)))∧Aside0 (Below w.heap.size w wc))
   case first=>
    have H:=dx.out
    clear dx
    by_cases aw:a1=0
    ·rw[if_pos aw] at H
     have c11b0:(a1==0)=true:=beq_iff_eq.mpr aw
     have c11b1:(a1 != 0)=false:=bne_eq_false_iff_eq.mpr aw
     clear aw
     (first|rw[c11b0]|(simp only[Zi,Zt];rw[c11b0])|skip)
     have H':=Aside0.mk H
     clear H
     have gb:= ι.out
     have ge:= κ.out
     obtain⟨bb,ci,aa,ac,ae,af,ah,bn,e5,e6,bg,co,ab,aj,an,ao,ap,cf,e7,e8⟩:=Zh Y.out
     go_wp2
     go_meet
     case rel=>exact⟨_,(true),qR,H',⟨by have:=cw.out;first|omega|exact Nat.le_refl _⟩,⟨by(with_reducible repeat first|apply Qb|apply Qe|apply Qc);exact Y.out⟩,⟨by(with_reducible repeat first|apply Qb|apply Qe|apply Qc);exact B.out⟩,⟨by repeat(first|(with_reducible first|exact HB.out|apply Qg|apply Qd|apply Qf|refine Qa ?_ γ.out|refine Qa ?_ θ.out)|exact HB.out)⟩⟩
    ·rw[if_neg aw] at H
     have c11b0:(a1==0)=false:=beq_eq_false_iff_ne.mpr aw
     have c11b1:(a1 != 0)=true:=bne_iff_ne.mpr aw
     (first|rw[c11b0]|(simp only[Zi,Zt];rw[c11b0])|skip)
     by_cases al:a1=a3
     ·rw[if_pos al] at H
      have c14b0:(a1==a3)=true:=beq_iff_eq.mpr al
      have c14b1:(a1 != a3)=false:=bne_eq_false_iff_eq.mpr al
      clear al
      have H':=Aside0.mk H
      clear H
      have gf:= ι.out
      have gg:= κ.out
      obtain⟨dy,dz,ag,bu,df,dh,dn,ei,fu,fw,e0,e3,ai,ej,ek,el,eo,ep,fx,fy⟩:=Zh Y.out
      obtain⟨b6,b7,bf,b8,b9,bi⟩:=qD3 B.out
      go_wp2
      go_meet
      case rel=>exact⟨_,(decide ((wrap64 ((wrap64 (σ - (wrap64 (μ + η)))) * a1))≥0)),qR,H',⟨by have:=cw.out;first|omega|exact Nat.le_refl _⟩,⟨by(with_reducible repeat first|apply Qb|apply Qe|apply Qc);exact Y.out⟩,⟨by(with_reducible repeat first|apply Qb|apply Qe|apply Qc);exact B.out⟩,⟨by repeat(first|(with_reducible first|exact HB.out|apply Qg|apply Qd|apply Qf|refine Qa ?_ γ.out|refine Qa ?_ θ.out)|exact HB.out)⟩⟩
     ·rw[if_neg al] at H
      have c14b0:(a1==a3)=false:=beq_eq_false_iff_ne.mpr al
      have c14b1:(a1 != a3)=true:=bne_iff_ne.mpr al
      have H':=Aside0.mk H
      clear H
      have cm:= ι.out
      have cz:= κ.out
      obtain⟨b1,b2,bd,bj,bk,bm,br,cr,ct,dp,b3,ba,be,bv,bw,bz,ca,er,et,eu⟩:=Zh Y.out
      obtain⟨cb,cd,ch,ce,cg,d8⟩:=qD3 B.out
      go_wp2
      go_meet
      case rel=>exact⟨_,(false),qR,H',⟨by have:=cw.out;first|omega|exact Nat.le_refl _⟩,⟨by(with_reducible repeat first|apply Qb|apply Qe|apply Qc);exact Y.out⟩,⟨by(with_reducible repeat first|apply Qb|apply Qe|apply Qc);exact B.out⟩,⟨by repeat(first|(with_reducible first|exact HB.out|apply Qg|apply Qd|apply Qf|refine Qa ?_ γ.out|refine Qa ?_ θ.out)|exact HB.out)⟩⟩
   case rest=>
    clear dx
    try clear c1
    try clear p2
    try clear c5
    try clear p6
    try clear c7
    try clear c9
    try clear c9b0
    try clear aw
    try clear c11b0
    try clear c11b1
    try clear b4
    try clear al
    try clear c14b0
    try clear c14b1
    try clear am
    try clear bl
    try clear bb
    try clear ci
    try clear aa
    try clear ac
    try clear ae
    try clear af
    try clear ah
    try clear bn
    try clear e5
    try clear e6
    try clear dy
    try clear dz
    try clear ag
    try clear bu
    try clear df
    try clear dh
    try clear dn
    try clear ei
    try clear fu
    try clear fw
    try clear b6
    try clear b7
    try clear bf
    try clear b1
    try clear b2
    try clear bd
    try clear bj
    try clear bk
    try clear bm
    try clear br
    try clear cr
    try clear ct
    try clear dp
    try clear cb
    try clear cd
    try clear ch
    try clear az
    try clear b0
    try clear b5
    try clear cx
    try clear d3
    try clear d4
    try clear d5
    try clear d6
    try clear d7
    try clear dc
    try clear bg
    try clear co
    try clear ab
    try clear aj
    try clear an
    try clear ao
    try clear ap
    try clear cf
    try clear e7
    try clear e8
    try clear e0
    try clear e3
    try clear ai
    try clear ej
    try clear ek
    try clear el
    try clear eo
    try clear ep
    try clear fx
    try clear fy
    try clear b8
    try clear b9
    try clear bi
    try clear b3
    try clear ba
    try clear be
    try clear bv
    try clear bw
    try clear bz
    try clear ca
    try clear er
    try clear et
    try clear eu
    try clear ce
    try clear cg
    try clear d8
    try clear cp
    try clear cq
    try clear cu
    try clear dd
    try clear de
    try clear dm
    try clear dq
    try clear dt
    try clear du
    try clear dw
    try clear p2
    try clear p6
    obtain⟨kq,ay,rfl,HA,fg,Y,B,HB⟩:=hcut
    cases kq with
    |zero=>exact absurd HA.out (by simp[group_way.j1])
    |succ fh=>
     have H:=HA.out
     clear HA
     simp only[group_way.j1] at H
     by_cases av:ay=true
     ·subst av
      have H1:((group_dist.f (wrap64 (μ + η)) σ).bind fun ax=>(some ax))=some r:=by rw[if_pos rfl] at H;exact H
      clear H
      have H:=H1
      clear H1
      replace H:=Option.bind_eq_some_iff.mp H
      obtain⟨ax,dr,H⟩:=H
      replace H:(some ax)=some r:=H
      have jr:=Aside0.mk dr
      clear dr
      obtain rfl:=Option.some.inj H
      have d0:= κ.out
      have d1:= ι.out
      obtain⟨bo,bp,cj,bq,bs,ck⟩:=qD3 B.out
      go_wp2_with (first|((with_reducible refine Qt (f:=76) rfl ?_);refine Q7 (some 48) rfl rfl Try.func76 kr rfl #[.int .i64 (wrap64 (μ + η)),.int .i64 σ] rfl (by(try simp only[List.map_toArray,List.map_cons,List.map_nil]);first|done|rfl|(simp only[List.length_drop,List.length_take];rfl)) ?_;(with_reducible refine(group_dist.calls (wrap64 (μ + η)) σ ax _ jr.out).mono ?_);rintro e en ⟨rfl,hb⟩;refine⟨_,rfl, ?_⟩;have L:=Aside0.mk (Qh (g:= ε) (o:=.cells #[.int .i64 μ,.int .i64 η,.int .i64 ν,.int .i64 τ,.int .i64 ρ,.int .i64 χ,.int .i64 ψ,.int .i64 a1,.bool a2,.bool a5] 31 (0,0)) (by(with_reducible repeat first|apply Qb|apply Qe|apply Qc);exact Y.out) hb);have O:=Aside0.mk (Qh (g:=Z) (o:=.cells #[.int .i64 σ,.int .i64 a3,.int .i64 a4] 36 (0,0)) (by(with_reducible repeat first|apply Qb|apply Qe|apply Qc);exact B.out) hb);have X:=Aside0.mk (Qj (by repeat(first|(with_reducible first|exact HB.out|apply Qg|apply Qd|apply Qf|refine Qa ?_ γ.out|refine Qa ?_ θ.out)|exact HB.out)) hb);clear Y;clear B;clear HB;have Y:=L;have B:=O;have HB:=X;clear L O X;(try clear hb);(try clear ak);(try clear hk);(try clear hi)))
      go_ret
      exact⟨by first|rfl|(simp[Qo,Qn] <;> rfl)|(simp[*,Qo,Qn] <;> rfl),by repeat(first|(with_reducible first|exact HB.out|apply Qg|apply Qd|apply Qf|refine Qa ?_ γ.out|refine Qa ?_ θ.out)|exact HB.out)⟩
     ·replace av:=Bool.eq_false_iff.mpr av
      subst av
      have H1:(if a1=a3 then ((group_dist.f (wrap64 (μ + η)) ζ).bind fun a9=>((group_dist.f ζ a6).bind fun a8=>((group_dist.f a6 σ).bind fun a7=>(some (wrap64 ((wrap64 (a9+a8))+a7)))))) else ((group_dist.f (wrap64 (μ + η)) ζ).bind fun au=>((group_dist.f ζ σ).bind fun ar=>(some (wrap64 (au+ar))))))=some r:=by rw[if_neg (show ¬ (false=true) by decide)] at H;exact H
      clear H
      have H:=H1
      clear H1
      by_cases bh:a1=a3
      ·rw[if_pos bh] at H
       have c26b0:(a1==a3)=true:=beq_iff_eq.mpr bh
       have c26b1:(a1 != a3)=false:=bne_eq_false_iff_eq.mpr bh
       clear bh
       replace H:=Option.bind_eq_some_iff.mp H
       obtain⟨a9,e9,H⟩:=H
       replace H:((group_dist.f ζ a6).bind fun a8=>((group_dist.f a6 σ).bind fun a7=>(some (wrap64 ((wrap64 (a9+a8))+a7)))))=some r:=H
       have eg:=Aside0.mk e9
       clear e9
       replace H:=Option.bind_eq_some_iff.mp H
       obtain⟨a8,bc,H⟩:=H
       replace H:((group_dist.f a6 σ).bind fun a7=>(some (wrap64 ((wrap64 (a9+a8))+a7))))=some r:=H
       have cy:=Aside0.mk bc
       clear bc
       replace H:=Option.bind_eq_some_iff.mp H
       obtain⟨a7,cv,H⟩:=H
       replace H:(some (wrap64 ((wrap64 (a9+a8))+a7)))=some r:=H
       have ed:=Aside0.mk cv
       clear cv
       obtain rfl:=Option.some.inj H
       have jv:= ι.out
       have jw:= κ.out
       obtain⟨d9,db,dj,ey,fe,fj,fz,gx,hj,ir,dk,dl,dv,g0,g1,g2,g3,it,iu,j4⟩:=Zh Y.out
       obtain⟨fi,i6,i7,i9,ia,ib⟩:=qD3 B.out
       try go_wp2
       have L:=Aside0.mk (Qe Y.out)
       have O:=Aside0.mk (Qe B.out)
       have X:=Aside0.mk (Qf HB.out)
       clear Y
       clear B
       clear HB
       have Y:=L
       have B:=O
       have HB:=X
       clear L O X
       refine Zv (n:=13) (S:=fun w'=>w'.cell? ⟨Z,0,none⟩=some (.int .i64 σ)∧w'.cell? ⟨Z,1,none⟩=some (.int .i64 a3)∧w'.cell? ⟨Z,2,none⟩=some (.int .i64 a4)) (ds:=[]) #[false,false,false,false,false,false,false,false,false,false,false,false,false] kr rfl rfl ⟨(Qk B.out 0).trans rfl,(Qk B.out 1).trans rfl,(Qk B.out 2).trans rfl⟩ (fun hHeld=>?_);refine Zf group_way.Mq group_way.Wi (fun HT_ HW_=>?_)
       generalize wc.drew=fk at Y B HB hHeld ⊢
       refine qP 0 (some 63) (qB 13 1) HT_ ?_
       refine qP 1 (some 64) (qB 13 3) HT_ ?_
       refine qP 3 (some 66) (qB 13 11) HT_ ?_
       refine qP 4 (some 67) (qB 13 27) HT_ ?_
       refine qP 7 (some 70) (qB 13 155) HT_ ?_
       refine qP 8 (some 71) (qB 13 411) HT_ ?_
       refine qT 9 (some 72) (qB 13 923) HT_ HW_ hHeld ?_
       refine Zn (i:=2) (N:=some 65) #[true,true,true,true,true,false,false,true,true,true,false,false,false] rfl rfl (Zc HT_.out kr) (by decide) (fun K hK=>?_)
       refine Zm Try.func76 kr rfl #[.int .i64 (wrap64 (μ + η)),.int .i64 ζ] (by rfl) rfl rfl (by(try simp only[List.map_toArray,List.map_cons,List.map_nil]);first|done|rfl|(simp only[List.length_drop,List.length_take];rfl)) ?_
       with_reducible refine(group_dist.calls (wrap64 (μ + η)) ζ a9 _ eg.out).mono ?_
       rintro e js ⟨rfl,hb⟩
       refine⟨_,rfl, ?_⟩
       have L:=Aside0.mk (Qh (g:= ε) (o:=.cells #[.int .i64 μ,.int .i64 η,.int .i64 ν,.int .i64 τ,.int .i64 ρ,.int .i64 χ,.int .i64 ψ,.int .i64 a1,.bool a2,.bool a5] 31 (0,0)) (by(with_reducible repeat first|apply Qb|apply Qe|apply Qc);exact Y.out) hb)
       have O:=Aside0.mk (Qh (g:=Z) (o:=.cells #[.int .i64 σ,.int .i64 a3,.int .i64 a4] 36 (0,0)) (by(with_reducible repeat first|apply Qb|apply Qe|apply Qc);exact B.out) hb)
       have X:=Aside0.mk (Qj (by repeat(first|(with_reducible first|exact HB.out|apply Qg|apply Qd|apply Qf|refine Qa ?_ γ.out|refine Qa ?_ θ.out)|exact HB.out)) hb)
       clear Y
       clear B
       clear HB
       have Y:=L
       have B:=O
       have HB:=X
       clear L O X
       (try clear hb)
       (try clear ak)
       (try clear hk)
       (try clear hi)
       refine hK.out _ _ ⟨qc B,qc B,qc B⟩ (fun hHeld=>?_)
       clear hK K
       refine qN (some 65) ?_
       refine Zn (i:=5) (N:=some 68) #[true,true,true,true,true,true,false,true,true,true,false,false,false] rfl rfl (Zc HT_.out kr) (by decide) (fun K hK=>?_)
       refine Zm Try.func76 kr rfl #[.int .i64 ζ,.int .i64 a6] (by rfl) rfl rfl (by(try simp only[List.map_toArray,List.map_cons,List.map_nil]);first|done|rfl|(simp only[List.length_drop,List.length_take];rfl)) ?_
       with_reducible refine(group_dist.calls ζ a6 a8 _ cy.out).mono ?_
       rintro e lp ⟨rfl,hb⟩
       refine⟨_,rfl, ?_⟩
       have L:=Aside0.mk (Qh (g:= ε) (o:=.cells #[.int .i64 μ,.int .i64 η,.int .i64 ν,.int .i64 τ,.int .i64 ρ,.int .i64 χ,.int .i64 ψ,.int .i64 a1,.bool a2,.bool a5] 31 (0,0)) (by(with_reducible repeat first|apply Qb|apply Qe|apply Qc);exact Y.out) hb)
       have O:=Aside0.mk (Qh (g:=Z) (o:=.cells #[.int .i64 σ,.int .i64 a3,.int .i64 a4] 36 (0,0)) (by(with_reducible repeat first|apply Qb|apply Qe|apply Qc);exact B.out) hb)
       have X:=Aside0.mk (Qj (by repeat(first|(with_reducible first|exact HB.out|apply Qg|apply Qd|apply Qf|refine Qa ?_ γ.out|refine Qa ?_ θ.out)|exact HB.out)) hb)
       clear Y
       clear B
       clear HB
       have Y:=L
       have B:=O
       have HB:=X
       clear L O X
       (try clear hb)
       (try clear ak)
       (try clear hk)
       (try clear hi)
       refine hK.out _ _ ⟨qc B,qc B,qc B⟩ (fun hHeld=>?_)
       clear hK K
       refine qN (some 68) ?_
       refine qP 6 (some 69) (qB 13 1023) HT_ ?_
       refine Zn (i:=10) (N:=some 73) #[true,true,true,true,true,true,true,true,true,true,true,false,false] rfl rfl (Zc HT_.out kr) (by decide) (fun K hK=>?_)
       refine Zm Try.func76 kr rfl #[.int .i64 a6,.int .i64 σ] (by rfl) rfl rfl (by(try simp only[List.map_toArray,List.map_cons,List.map_nil]);first|done|rfl|(simp only[List.length_drop,List.length_take];rfl)) ?_
       with_reducible refine(group_dist.calls a6 σ a7 _ ed.out).mono ?_
       rintro e g8 ⟨rfl,hb⟩
       refine⟨_,rfl, ?_⟩
       have L:=Aside0.mk (Qh (g:= ε) (o:=.cells #[.int .i64 μ,.int .i64 η,.int .i64 ν,.int .i64 τ,.int .i64 ρ,.int .i64 χ,.int .i64 ψ,.int .i64 a1,.bool a2,.bool a5] 31 (0,0)) (by(with_reducible repeat first|apply Qb|apply Qe|apply Qc);exact Y.out) hb)
       have O:=Aside0.mk (Qh (g:=Z) (o:=.cells #[.int .i64 σ,.int .i64 a3,.int .i64 a4] 36 (0,0)) (by(with_reducible repeat first|apply Qb|apply Qe|apply Qc);exact B.out) hb)
       have X:=Aside0.mk (Qj (by repeat(first|(with_reducible first|exact HB.out|apply Qg|apply Qd|apply Qf|refine Qa ?_ γ.out|refine Qa ?_ θ.out)|exact HB.out)) hb)
       clear Y
       clear B
       clear HB
       have Y:=L
       have B:=O
       have HB:=X
       clear L O X
       (try clear hb)
       (try clear ak)
       (try clear hk)
       (try clear hi)
       refine hK.out _ _ ⟨qc B,qc B,qc B⟩ (fun hHeld=>?_)
       clear hK K
       refine qN (some 73) ?_
       refine qP 11 (some 74) (qB 13 4095) HT_ ?_
       refine qP 12 (some 6) (qB 13 8191) HT_ ?_
       refine Xd (Zu HT_.out kr) ?_
       try go_wp2
       go_ret
       exact⟨by first|rfl|(simp[Qo,Qn] <;> rfl)|(simp[*,Qo,Qn] <;> rfl),by repeat(first|(with_reducible first|exact HB.out|apply Qg|apply Qd|apply Qf|refine Qa ?_ γ.out|refine Qa ?_ θ.out)|exact HB.out)⟩
      ·rw[if_neg bh] at H
       have c26b0:(a1==a3)=false:=beq_eq_false_iff_ne.mpr bh
       have c26b1:(a1 != a3)=true:=bne_iff_ne.mpr bh
       replace H:=Option.bind_eq_some_iff.mp H
       obtain⟨au,ee,H⟩:=H
       replace H:((group_dist.f ζ σ).bind fun ar=>(some (wrap64 (au+ar))))=some r:=H
       have eh:=Aside0.mk ee
       clear ee
       replace H:=Option.bind_eq_some_iff.mp H
       obtain⟨ar,d2,H⟩:=H
       replace H:(some (wrap64 (au+ar)))=some r:=H
       have e4:=Aside0.mk d2
       clear d2
       obtain rfl:=Option.some.inj H
       have ev:= ι.out
       have ew:= κ.out
       obtain⟨fp,fq,fr,g4,g5,g6,g7,gh,gi,gu,gv,gw,h4,h5,h6,h7,ha,hh,hl,ho⟩:=Zh Y.out
       obtain⟨ea,eb,di,fc,ff,ez⟩:=qD3 B.out
       try go_wp2
       have L:=Aside0.mk (Qe Y.out)
       have O:=Aside0.mk (Qe B.out)
       have X:=Aside0.mk (Qf HB.out)
       clear Y
       clear B
       clear HB
       have Y:=L
       have B:=O
       have HB:=X
       clear L O X
       refine Zv (n:=9) (S:=fun w'=>w'.cell? ⟨Z,0,none⟩=some (.int .i64 σ)∧w'.cell? ⟨Z,1,none⟩=some (.int .i64 a3)∧w'.cell? ⟨Z,2,none⟩=some (.int .i64 a4)) (ds:=[]) #[false,false,false,false,false,false,false,false,false] kr rfl rfl ⟨(Qk B.out 0).trans rfl,(Qk B.out 1).trans rfl,(Qk B.out 2).trans rfl⟩ (fun hHeld=>?_);refine Zf group_way.tab7 group_way.bits7 (fun HT_ HW_=>?_)
       generalize wc.drew=jx at Y B HB hHeld ⊢
       refine qP 0 (some 55) (qB 9 1) HT_ ?_
       refine qP 1 (some 56) (qB 9 3) HT_ ?_
       refine qP 3 (some 58) (qB 9 11) HT_ ?_
       refine qP 4 (some 59) (qB 9 27) HT_ ?_
       refine qT 5 (some 60) (qB 9 59) HT_ HW_ hHeld ?_
       refine Zn (i:=2) (N:=some 57) #[true,true,true,true,true,true,false,false,false] rfl rfl (Zc HT_.out kr) (by decide) (fun K hK=>?_)
       refine Zm Try.func76 kr rfl #[.int .i64 (wrap64 (μ + η)),.int .i64 ζ] (by rfl) rfl rfl (by(try simp only[List.map_toArray,List.map_cons,List.map_nil]);first|done|rfl|(simp only[List.length_drop,List.length_take];rfl)) ?_
       with_reducible refine(group_dist.calls (wrap64 (μ + η)) ζ au _ eh.out).mono ?_
       rintro e ka ⟨rfl,hb⟩
       refine⟨_,rfl, ?_⟩
       have L:=Aside0.mk (Qh (g:= ε) (o:=.cells #[.int .i64 μ,.int .i64 η,.int .i64 ν,.int .i64 τ,.int .i64 ρ,.int .i64 χ,.int .i64 ψ,.int .i64 a1,.bool a2,.bool a5] 31 (0,0)) (by(with_reducible repeat first|apply Qb|apply Qe|apply Qc);exact Y.out) hb)
       have O:=Aside0.mk (Qh (g:=Z) (o:=.cells #[.int .i64 σ,.int .i64 a3,.int .i64 a4] 36 (0,0)) (by(with_reducible repeat first|apply Qb|apply Qe|apply Qc);exact B.out) hb)
       have X:=Aside0.mk (Qj (by repeat(first|(with_reducible first|exact HB.out|apply Qg|apply Qd|apply Qf|refine Qa ?_ γ.out|refine Qa ?_ θ.out)|exact HB.out)) hb)
       clear Y
       clear B
       clear HB
       have Y:=L
       have B:=O
       have HB:=X
       clear L O X
       (try clear hb)
       (try clear ak)
       (try clear hk)
       (try clear hi)
       refine hK.out _ _ ⟨qc B,qc B,qc B⟩ (fun hHeld=>?_)
       clear hK K
       refine qN (some 57) ?_
       refine Zn (i:=6) (N:=some 61) #[true,true,true,true,true,true,true,false,false] rfl rfl (Zc HT_.out kr) (by decide) (fun K hK=>?_)
       refine Zm Try.func76 kr rfl #[.int .i64 ζ,.int .i64 σ] (by rfl) rfl rfl (by(try simp only[List.map_toArray,List.map_cons,List.map_nil]);first|done|rfl|(simp only[List.length_drop,List.length_take];rfl)) ?_
       with_reducible refine(group_dist.calls ζ σ ar _ e4.out).mono ?_
       rintro e fl ⟨rfl,hb⟩
       refine⟨_,rfl, ?_⟩
       have L:=Aside0.mk (Qh (g:= ε) (o:=.cells #[.int .i64 μ,.int .i64 η,.int .i64 ν,.int .i64 τ,.int .i64 ρ,.int .i64 χ,.int .i64 ψ,.int .i64 a1,.bool a2,.bool a5] 31 (0,0)) (by(with_reducible repeat first|apply Qb|apply Qe|apply Qc);exact Y.out) hb)
       have O:=Aside0.mk (Qh (g:=Z) (o:=.cells #[.int .i64 σ,.int .i64 a3,.int .i64 a4] 36 (0,0)) (by(with_reducible repeat first|apply Qb|apply Qe|apply Qc);exact B.out) hb)
       have X:=Aside0.mk (Qj (by repeat(first|(with_reducible first|exact HB.out|apply Qg|apply Qd|apply Qf|refine Qa ?_ γ.out|refine Qa ?_ θ.out)|exact HB.out)) hb)
       clear Y
       clear B
       clear HB
       have Y:=L
       have B:=O
       have HB:=X
       clear L O X
       (try clear hb)
       (try clear ak)
       (try clear hk)
       (try clear hi)
       refine hK.out _ _ ⟨qc B,qc B,qc B⟩ (fun hHeld=>?_)
       clear hK K
       refine qN (some 61) ?_
       refine qP 7 (some 62) (qB 9 255) HT_ ?_
       refine qP 8 (some 6) (qB 9 511) HT_ ?_
       refine Xd (Zu HT_.out kr) ?_
       try go_wp2
       go_ret
       exact⟨by first|rfl|(simp[Qo,Qn] <;> rfl)|(simp[*,Qo,Qn] <;> rfl),by repeat(first|(with_reducible first|exact HB.out|apply Qg|apply Qd|apply Qf|refine Qa ?_ γ.out|refine Qa ?_ θ.out)|exact HB.out)⟩
def collect_rising.l0:Nat→List Int→Int→List Int→Int→Int→Option (Bool)
 |0,_,_,_,_,_=>none
 |k+1,B,J,L,X,O=>if O<X then (if 0≤O then (if O<(L.length:Int) then (if (rd L O)<0 then (some false) else (if (rd L O)≥J then (some false) else (if O>0 then (if 0≤(wrap64 (O-1)) then (if (wrap64 (O-1))<(B.length:Int) then (if (rd B (wrap64 (O-1)))≥(rd L O) then (some false) else (collect_rising.l0 k B J L X (wrap64 (O+1)))) else (none)) else (none)) else (collect_rising.l0 k B J L X (wrap64 (O+1)))))) else (none)) else (none)) else (some true)
def collect_rising.f (k:Nat) (l0:List Int) (Z:Int):Option (Bool):=collect_rising.l0 k l0 Z l0 (l0.length:Int) 0
theorem collect_rising.Zs:∀ k,(∀ O Y L J X,LeO (collect_rising.l0 k O Y L J X) (collect_rising.l0 (k+1) O Y L J X))
 |0=>fun _ _ _ _ _ r h=>by simp[collect_rising.l0] at h
 |k+1=>by
  have B:=collect_rising.Zs k
  ·intro O Y L J X
   unfold collect_rising.l0
   repeat' first
   |(with_reducible exact B _ _ _ _ _)
   |(with_reducible exact LeO.refl _)
   |(with_reducible exact LeO.none _)
   |(with_reducible refine LeO.ite ?_ ?_)
   |(with_reducible refine LeO.bind ?_ (fun _=>?_))
   |exact B _ _ _ _ _
   |exact LeO.none _
   |refine LeO.ite ?_ ?_
   |refine LeO.bind ?_ (fun _=>?_)
theorem collect_rising.mono:∀ J Z k,LeO (collect_rising.f k J Z) (collect_rising.f (k+1) J Z):=by
 intro J Z k
 have B:=collect_rising.Zs k
 unfold collect_rising.f
 repeat' first
   |(with_reducible exact B _ _ _ _ _)
   |(with_reducible exact LeO.refl _)
   |(with_reducible exact LeO.none _)
   |(with_reducible refine LeO.ite ?_ ?_)
   |(with_reducible refine LeO.bind ?_ (fun _=>?_))
   |exact B _ _ _ _ _
   |exact LeO.none _
   |refine LeO.ite ?_ ?_
   |refine LeO.bind ?_ (fun _=>?_)
set_option maxHeartbeats 8000000 in
set_option maxRecDepth 100000 in
theorem collect_rising.calls (k:Nat) (A0:Option Addr) (c0:Nat) (l0:List Int) (Z:Int) (r:Bool) (w:World) (τ :Kd.C (Kd.int .i64) w A0 l0.length l0) (γ:l0.length≤c0) (h:collect_rising.f k l0 Z=some r):
  Calls Try.prog 50 #[.slice A0 l0.length c0,.int .i64 Z] w fun e w'=>e = .returned (.bool r)∧Drawn0 w w':=by
 have ψ :=Aside0.mk τ
 have ai:=Aside0.mk γ
 clear τ γ
 have H:(collect_rising.l0 k l0 Z l0 (l0.length:Int) 0)=some r:=h
 clear h
 have H':=Aside0.mk H
 clear H
 go_enter Try.func50,Try.ntmps50
 go_wp2
 go_loopg [9] k (fun kq v9 w'=>∃ (B:Int),v9 = .int .i64 B∧Aside0 (collect_rising.l0 kq l0 Z l0 (l0.length:Int) B=some r)∧Aside0 (kq≤k)∧Drawn0 w w')
 case atStart=>exact⟨(0),qR,H',⟨Nat.le_refl _⟩,by repeat(first|exact Drawn0.refl _|apply Drawn0.step)⟩
 case round=>
  clear H'
  try clear p2
  obtain⟨B,rfl,HA,az,⟨m1,rfl⟩⟩:=hrel
  cases gk with
  |zero=>exact absurd HA.out (by simp[collect_rising.l0])
  |succ k1=>
   have H:=HA.out
   clear HA
   simp only[collect_rising.l0] at H
   by_cases c3:B<(l0.length:Int)
   ·rw[if_pos c3] at H
    have c3b0:decide (B<(l0.length:Int))=true:=decide_eq_true c3
    clear c3
    by_cases c4:0≤B
    ·rw[if_pos c4] at H
     have c4b0:decide (0≤B)=true:=decide_eq_true c4
     clear c4
     by_cases c5:B<(l0.length:Int)
     ·rw[if_pos c5] at H
      have c5b0:decide (B<(l0.length:Int))=true:=decide_eq_true c5
      clear c5
      by_cases c6:(rd l0 B)<0
      ·rw[if_pos c6] at H
       have c6b0:decide ((rd l0 B)<0)=true:=decide_eq_true c6
       clear c6
       obtain rfl:=Option.some.inj H
       have J:0≤(B:Int):=of_decide_eq_true (by first|(with_reducible assumption)|assumption)
       have L:B<(l0.length:Int):=of_decide_eq_true (by first|(with_reducible assumption)|assumption)
       obtain⟨Y,X,δ⟩:=Kd.Yk ψ.out B J L
       cases X
       replace J:=eq_true J
       replace L:=eq_true L
       go_wp2
       go_ret
       exact⟨qR,by repeat(first|exact Drawn0.refl _|apply Drawn0.step)⟩
      ·rw[if_neg c6] at H
       have c6b0:decide ((rd l0 B)<0)=false:=decide_eq_false c6
       clear c6
       by_cases c7:(rd l0 B)≥Z
       ·rw[if_pos c7] at H
        have c7b0:decide (Z≤(rd l0 B))=true:=decide_eq_true c7
        clear c7
        obtain rfl:=Option.some.inj H
        have J:0≤(B:Int):=of_decide_eq_true (by first|(with_reducible assumption)|assumption)
        have L:B<(l0.length:Int):=of_decide_eq_true (by first|(with_reducible assumption)|assumption)
        obtain⟨Y,X,δ⟩:=Kd.Yk ψ.out B J L
        cases X
        replace J:=eq_true J
        replace L:=eq_true L
        go_wp2
        go_ret
        exact⟨qR,by repeat(first|exact Drawn0.refl _|apply Drawn0.step)⟩
       ·rw[if_neg c7] at H
        have c7b0:decide (Z≤(rd l0 B))=false:=decide_eq_false c7
        clear c7
        by_cases c8:B>0
        ·rw[if_pos c8] at H
         have c8b0:decide (0<B)=true:=decide_eq_true c8
         clear c8
         obtain⟨O,η⟩:∃ j_:Int,(wrap64 (B-1))=j_:=⟨_,rfl⟩
         replace H:(if 0≤(O) then (if (O)<(l0.length:Int) then (if (rd l0 (O))≥(rd l0 B) then (some false) else (collect_rising.l0 k1 l0 Z l0 (l0.length:Int) (wrap64 (B+1)))) else (none)) else (none))=some r:=by first|(rw[η] at H;exact H)|(simp only[η] at H ⊢;exact H)
         have hji9w:(IntKind.i64.wrap (B-1))=O:=(Zi _).trans η
         by_cases c10:0≤(O)
         ·rw[if_pos c10] at H
          have c10b0:decide (0≤(O))=true:=decide_eq_true c10
          clear c10
          by_cases aw:(O)<(l0.length:Int)
          ·rw[if_pos aw] at H
           have c11b0:decide ((O)<(l0.length:Int))=true:=decide_eq_true aw
           clear aw
           by_cases b4:(rd l0 (O))≥(rd l0 B)
           ·rw[if_pos b4] at H
            have c12b0:decide ((rd l0 B)≤(rd l0 (O)))=true:=decide_eq_true b4
            clear b4
            obtain rfl:=Option.some.inj H
            have J:0≤(B:Int):=of_decide_eq_true (by first|(with_reducible assumption)|assumption)
            have L:B<(l0.length:Int):=of_decide_eq_true (by first|(with_reducible assumption)|assumption)
            obtain⟨Y,X,δ⟩:=Kd.Yk ψ.out B J L
            cases X
            replace J:=eq_true J
            replace L:=eq_true L
            have ε :0≤((O):Int):=of_decide_eq_true (by first|(with_reducible assumption)|assumption)
            have ζ :(O)<(l0.length:Int):=of_decide_eq_true (by first|(with_reducible assumption)|assumption)
            obtain⟨θ,ι,κ⟩:=Kd.Yk ψ.out (O) ε ζ
            obtain rfl:Y = θ :=(by injection ι)
            replace ε :=eq_true ε
            replace ζ :=eq_true ζ
            go_wp2
            go_ret
            exact⟨by first|rfl|(simp;done)|(simp only[← η] <;> (first|rfl|simp))|(simp[*];done),by repeat(first|exact Drawn0.refl _|apply Drawn0.step)⟩
           ·rw[if_neg b4] at H
            have c12b0:decide ((rd l0 B)≤(rd l0 (O)))=false:=decide_eq_false b4
            clear b4
            have H':=Aside0.mk H
            clear H
            have J:0≤(B:Int):=of_decide_eq_true (by first|(with_reducible assumption)|assumption)
            have L:B<(l0.length:Int):=of_decide_eq_true (by first|(with_reducible assumption)|assumption)
            obtain⟨Y,X,δ⟩:=Kd.Yk ψ.out B J L
            cases X
            replace J:=eq_true J
            replace L:=eq_true L
            have ε :0≤((O):Int):=of_decide_eq_true (by first|(with_reducible assumption)|assumption)
            have ζ :(O)<(l0.length:Int):=of_decide_eq_true (by first|(with_reducible assumption)|assumption)
            obtain⟨θ,ι,κ⟩:=Kd.Yk ψ.out (O) ε ζ
            obtain rfl:Y = θ :=(by injection ι)
            replace ε :=eq_true ε
            replace ζ :=eq_true ζ
            go_wp2
            go_roundg k1
            case measure=>have:=az.out;omega
            case rel=>exact⟨(wrap64 (B+1)),qR,H',⟨by have:=az.out;omega⟩,by repeat(first|exact Drawn0.refl _|apply Drawn0.step)⟩
          ·rw[if_neg aw] at H
           exact absurd H (by simp)
         ·rw[if_neg c10] at H
          exact absurd H (by simp)
        ·rw[if_neg c8] at H
         have c8b0:decide (0<B)=false:=decide_eq_false c8
         clear c8
         have H':=Aside0.mk H
         clear H
         have J:0≤(B:Int):=of_decide_eq_true (by first|(with_reducible assumption)|assumption)
         have L:B<(l0.length:Int):=of_decide_eq_true (by first|(with_reducible assumption)|assumption)
         obtain⟨Y,X,δ⟩:=Kd.Yk ψ.out B J L
         cases X
         replace J:=eq_true J
         replace L:=eq_true L
         go_wp2
         go_roundg k1
         case measure=>have:=az.out;omega
         case rel=>exact⟨(wrap64 (B+1)),qR,H',⟨by have:=az.out;omega⟩,by repeat(first|exact Drawn0.refl _|apply Drawn0.step)⟩
     ·rw[if_neg c5] at H
      exact absurd H (by simp)
    ·rw[if_neg c4] at H
     exact absurd H (by simp)
   ·rw[if_neg c3] at H
    have c3b0:decide (B<(l0.length:Int))=false:=decide_eq_false c3
    clear c3
    obtain rfl:=Option.some.inj H
    go_wp2
    go_ret
    exact⟨qR,by repeat(first|exact Drawn0.refl _|apply Drawn0.step)⟩
mutual
def collect_Check.j0:Nat→Bool→Int→Int→Int→Bool→Bool→List Int→List Int→List Int→Option (Int)
 |0,_,_,_,_,_,_,_,_,_=>none
 |k+1,δ,B,X,Y,Z,γ,J,L,O=>if δ = true then (some 200) else ((some (([J,L,O]:List (List Int)):List (List Int))).bind fun ι =>(collect_Check.l0 k ι (ι.length:Int) 0 B X Y Z γ J L O))
def collect_Check.l0:Nat→List (List Int)→Int→Int→Int→Int→Int→Bool→Bool→List Int→List Int→List Int→Option (Int)
 |0,_,_,_,_,_,_,_,_,_,_,_=>none
 |k+1,ε,ζ,δ,B,X,Y,Z,γ,J,L,O=>if δ < ζ then (if 0 ≤ δ then (if δ < (ε.length:Int) then ((collect_rising.f k (Yu ε δ) B).bind fun br=>(if br=true then (collect_Check.l0 k ε ζ (wrap64 (δ + 1)) B X Y Z γ J L O) else (some 200))) else (none)) else (none)) else (some 0)
end
def collect_Check.f (k:Nat) (J:Int) (B:Int) (Y:Int) (Z:Bool) (γ:Bool) (ε :List Int) (ζ :List Int) (η :List Int):Option (Int):=if J<2 then (collect_Check.j0 k true J B Y Z γ ε ζ η) else (if J>64 then (collect_Check.j0 k true J B Y Z γ ε ζ η) else (if B<0 then (collect_Check.j0 k true J B Y Z γ ε ζ η) else (if B≥J then (collect_Check.j0 k true J B Y Z γ ε ζ η) else (if Y<(-1) then (collect_Check.j0 k true J B Y Z γ ε ζ η) else (collect_Check.j0 k (decide (Y>1)) J B Y Z γ ε ζ η)))))
theorem collect_Check.Zs:∀ k,(∀ O Y L J X Z y6 y7 y8,LeO (collect_Check.j0 k O Y L J X Z y6 y7 y8) (collect_Check.j0 (k+1) O Y L J X Z y6 y7 y8))∧(∀ O Y L J X Z y6 y7 y8 y9 γ,LeO (collect_Check.l0 k O Y L J X Z y6 y7 y8 y9 γ) (collect_Check.l0 (k+1) O Y L J X Z y6 y7 y8 y9 γ))
 |0=>⟨fun _ _ _ _ _ _ _ _ _ r h=>by simp[collect_Check.j0] at h,fun _ _ _ _ _ _ _ _ _ _ _ r h=>by simp[collect_Check.l0] at h⟩
 |k+1=>by
  obtain⟨B,δ⟩:=collect_Check.Zs k
  refine⟨?_, ?_⟩
  ·intro O Y L J X Z y6 y7 y8
   unfold collect_Check.j0
   repeat' first
   |(with_reducible exact B _ _ _ _ _ _ _ _ _)
   |(with_reducible exact δ _ _ _ _ _ _ _ _ _ _ _)
   |(with_reducible exact collect_rising.mono _ _ _)
   |(with_reducible exact LeO.refl _)
   |(with_reducible exact LeO.none _)
   |(with_reducible refine LeO.ite ?_ ?_)
   |(with_reducible refine LeO.bind ?_ (fun _=>?_))
   |exact B _ _ _ _ _ _ _ _ _
   |exact δ _ _ _ _ _ _ _ _ _ _ _
   |exact collect_rising.mono _ _ _
   |exact LeO.none _
   |refine LeO.ite ?_ ?_
   |refine LeO.bind ?_ (fun _=>?_)
  ·intro O Y L J X Z y6 y7 y8 y9 γ
   unfold collect_Check.l0
   repeat' first
   |(with_reducible exact B _ _ _ _ _ _ _ _ _)
   |(with_reducible exact δ _ _ _ _ _ _ _ _ _ _ _)
   |(with_reducible exact collect_rising.mono _ _ _)
   |(with_reducible exact LeO.refl _)
   |(with_reducible exact LeO.none _)
   |(with_reducible refine LeO.ite ?_ ?_)
   |(with_reducible refine LeO.bind ?_ (fun _=>?_))
   |exact B _ _ _ _ _ _ _ _ _
   |exact δ _ _ _ _ _ _ _ _ _ _ _
   |exact collect_rising.mono _ _ _
   |exact LeO.none _
   |refine LeO.ite ?_ ?_
   |refine LeO.bind ?_ (fun _=>?_)
theorem collect_Check.mono:∀ J Z a2 a3 L a5 O a7 k,LeO (collect_Check.f k J Z a2 a3 L a5 O a7) (collect_Check.f (k+1) J Z a2 a3 L a5 O a7):=by
 intro J Z a2 a3 L a5 O a7 k
 obtain⟨B,δ⟩:=collect_Check.Zs k
 unfold collect_Check.f
 repeat' first
   |(with_reducible exact B _ _ _ _ _ _ _ _ _)
   |(with_reducible exact δ _ _ _ _ _ _ _ _ _ _ _)
   |(with_reducible exact collect_rising.mono _ _ _)
   |(with_reducible exact LeO.refl _)
   |(with_reducible exact LeO.none _)
   |(with_reducible refine LeO.ite ?_ ?_)
   |(with_reducible refine LeO.bind ?_ (fun _=>?_))
   |exact B _ _ _ _ _ _ _ _ _
   |exact δ _ _ _ _ _ _ _ _ _ _ _
   |exact collect_rising.mono _ _ _
   |exact LeO.none _
   |refine LeO.ite ?_ ?_
   |refine LeO.bind ?_ (fun _=>?_)
set_option maxHeartbeats 8000000 in
set_option maxRecDepth 100000 in
theorem collect_Check.calls (k:Nat) (J:Int) (B:Int) (Y:Int) (Z:Bool) (γ:Bool) (ν :Nat→Prop) (a1:Option Addr) (a2:Nat) (ε :List Int) (ρ:Nat→Prop) (a3:Option Addr) (a4:Nat) (ζ :List Int) (σ:Nat→Prop) (a5:Option Addr) (a6:Nat) (η :List Int) (r:Int) (w:World) (g7:Kd.V (Kd.int .i64) 3 w w.heap.size (fun k_=> ν k_) (.slice a1 ε.length a2) ε) (gb:Kd.V (Kd.int .i64) 3 w w.heap.size (fun k_=>ρ k_) (.slice a3 ζ.length a4) ζ) (ge:Kd.V (Kd.int .i64) 3 w w.heap.size (fun k_=>σ k_) (.slice a5 η.length a6) η) (h:collect_Check.f k J B Y Z γ ε ζ η = some r):
  Calls Try.prog 29 #[.agg #[.int .i64 J,.int .i64 B,.int .i64 Y,.bool Z,.bool γ,.slice a1 ε.length a2,.slice a3 ζ.length a4,.slice a5 η.length a6]] w fun e w'=>e = .returned (.int .i64 r)∧Below w.heap.size w w':=by
 have j7:=Try.underlying76
 have a7:=Aside0.mk (show Kd.V (Kd.int .i64) 3 w w.heap.size (fun k_=>((ν k_∨ρ k_∨σ k_)∨w.heap.size≤k_)) (.slice a1 ε.length a2) ε from Kd.Yc g7 (fun k_ hk=>.inl (.inl hk)))
 have a8:=Aside0.mk (show Kd.V (Kd.int .i64) 3 w w.heap.size (fun k_=>((ν k_∨ρ k_∨σ k_)∨w.heap.size≤k_)) (.slice a3 ζ.length a4) ζ from Kd.Yc gb (fun k_ hk=>.inl (.inr (.inl hk))))
 have a9:=Aside0.mk (show Kd.V (Kd.int .i64) 3 w w.heap.size (fun k_=>((ν k_∨ρ k_∨σ k_)∨w.heap.size≤k_)) (.slice a5 η.length a6) η from Kd.Yc ge (fun k_ hk=>.inl (.inr (.inr hk))))
 have HB:=Aside0.mk (Below.refl w.heap.size w)
 have H:(if J<2 then (collect_Check.j0 k true J B Y Z γ ε ζ η) else (if J>64 then (collect_Check.j0 k true J B Y Z γ ε ζ η) else (if B<0 then (collect_Check.j0 k true J B Y Z γ ε ζ η) else (if B≥J then (collect_Check.j0 k true J B Y Z γ ε ζ η) else (if Y<(-1) then (collect_Check.j0 k true J B Y Z γ ε ζ η) else (collect_Check.j0 k (decide (Y>1)) J B Y Z γ ε ζ η))))))=some r:=h
 clear h
 have e4:=Aside0.mk H
 clear H
 go_enter Try.func29,Try.ntmps29
 go_upto_region 1 with(first|((with_reducible refine Qr (N:=1) rfl ?_);refine Qq ?hg (N:=1) ?hd (cs:=#[.int .i64 J,.int .i64 B,.int .i64 Y,.bool Z,.bool γ,.slice a1 ε.length a2,.slice a3 ζ.length a4,.slice a5 η.length a6]) (t:=76) ?hr ?_;(case hd=>rfl);(case hg=>rfl);(case hr=>first|(go_simp;done)|(go_simp;rfl));intro κ hg w3 hbox hb;have L:=Aside0.mk (Kd.Vr (Kd.Gl (by(with_reducible repeat first|apply Kd.Zk|apply Kd.Zj|apply Kd.Z2);exact a7.out) κ (Nat.le_of_eq hg.symm)) hb);have O:=Aside0.mk (Kd.Vr (Kd.Gl (by(with_reducible repeat first|apply Kd.Zk|apply Kd.Zj|apply Kd.Z2);exact a8.out) κ (Nat.le_of_eq hg.symm)) hb);have X:=Aside0.mk (Kd.Vr (Kd.Gl (by(with_reducible repeat first|apply Kd.Zk|apply Kd.Zj|apply Kd.Z2);exact a9.out) κ (Nat.le_of_eq hg.symm)) hb);have δ :=Aside0.mk (Qj (by repeat(first|(with_reducible first|exact HB.out|apply Qg|apply Qd|apply Qf)|exact HB.out)) hb);have ξ :=Aside0.mk (hbox);have φ :=Aside0.mk ((by rw[hg];exact(Qi (by repeat(first|(with_reducible first|exact HB.out|apply Qg|apply Qd|apply Qf)|exact HB.out))):w.heap.size ≤ κ));have ω :=Aside0.mk ((by rw[hg];exact(Qi (by repeat(first|(with_reducible first|exact HB.out|apply Qg|apply Qd|apply Qf)|exact HB.out))):w.heap.size ≤ κ));clear a7;clear a8;clear a9;clear HB;have a7:=L;have a8:=O;have a9:=X;have HB:= δ;have μ := ξ;have gq:= φ;have τ := ω;clear L O X δ ξ φ ω;clear hb hbox hg))
 (try simp only[Act.put,qS])
 go_cut [34] (fun js wc=>∃ (kq:Nat) (bf:Bool),js = .bool bf∧Aside0 (collect_Check.j0 kq bf J B Y Z γ ε ζ η = some r)∧Aside0 (kq≤k)∧Aside0 (Kd.V (Kd.int .i64) 3 wc w.heap.size (fun k_=>((ν k_∨ρ k_∨σ k_)∨w.heap.size≤k_)∧k_ ≠ κ) (.slice a1 ε.length a2) ε)∧Aside0 (Kd.V (Kd.int .i64) 3 wc w.heap.size (fun k_=>((ν k_∨ρ k_∨σ k_)∨w.heap.size≤k_)∧k_ ≠ κ) (.slice a3 ζ.length a4) ζ)∧Aside0 (Kd.V (Kd.int .i64) 3 wc w.heap.size (fun k_=>((ν k_∨ρ k_∨σ k_)∨w.heap.size≤k_)∧k_ ≠ κ) (.slice a5 η.length a6) η)∧Aside0 (wc.heap[κ]?=some (.cells #[.int .i64 J,.int .i64 B,.int .i64 Y,.bool Z,.bool γ,(.slice a1 ε.length a2),(.slice a3 ζ.length a4),(.slice a5 η.length a6)] 76 (0,0)))∧Aside0 (Below w.heap.size w wc))
 case first=>
  have H:=e4.out
  clear e4
  by_cases c4:J<2
  ·rw[if_pos c4] at H
   have c4b0:decide (J<2)=true:=decide_eq_true c4
   clear c4
   (first|rw[c4b0]|(simp only[Zi,Zt];rw[c4b0])|skip)
   have H':=Aside0.mk H
   clear H
   obtain⟨cd,cr,ct,d8,dc,di,dm,dp,e5,e6,e7,e8,e9,ea,eb,ee⟩:=qD8 μ.out
   go_wp2
   go_meet
   case rel=>exact⟨_,(true),qR,H',⟨by first|omega|exact Nat.le_refl _⟩,⟨by(with_reducible repeat first|apply Kd.Zk|apply Kd.Zj|apply Kd.Z2);exact a7.out⟩,⟨by(with_reducible repeat first|apply Kd.Zk|apply Kd.Zj|apply Kd.Z2);exact a8.out⟩,⟨by(with_reducible repeat first|apply Kd.Zk|apply Kd.Zj|apply Kd.Z2);exact a9.out⟩,⟨by(with_reducible repeat first|apply Qb|apply Qe|apply Qc);exact μ.out⟩,⟨by repeat(first|(with_reducible first|exact HB.out|apply Qg|apply Qd|apply Qf|refine Qa ?_ τ.out)|exact HB.out)⟩⟩
  ·rw[if_neg c4] at H
   have c4b0:decide (J<2)=false:=decide_eq_false c4
   clear c4
   (first|rw[c4b0]|(simp only[Zi,Zt];rw[c4b0])|skip)
   by_cases c6:J>64
   ·rw[if_pos c6] at H
    have c6b0:decide (64<J)=true:=decide_eq_true c6
    clear c6
    have H':=Aside0.mk H
    clear H
    obtain⟨b2,b3,ef,eh,ew,ey,fa,fb,b6,b7,fc,fe,ff,fi,fj,fk⟩:=qD8 μ.out
    go_wp2
    go_meet
    case rel=>exact⟨_,(true),qR,H',⟨by first|omega|exact Nat.le_refl _⟩,⟨by(with_reducible repeat first|apply Kd.Zk|apply Kd.Zj|apply Kd.Z2);exact a7.out⟩,⟨by(with_reducible repeat first|apply Kd.Zk|apply Kd.Zj|apply Kd.Z2);exact a8.out⟩,⟨by(with_reducible repeat first|apply Kd.Zk|apply Kd.Zj|apply Kd.Z2);exact a9.out⟩,⟨by(with_reducible repeat first|apply Qb|apply Qe|apply Qc);exact μ.out⟩,⟨by repeat(first|(with_reducible first|exact HB.out|apply Qg|apply Qd|apply Qf|refine Qa ?_ τ.out)|exact HB.out)⟩⟩
   ·rw[if_neg c6] at H
    have c6b0:decide (64<J)=false:=decide_eq_false c6
    clear c6
    by_cases c8:B<0
    ·rw[if_pos c8] at H
     have c8b0:decide (B<0)=true:=decide_eq_true c8
     clear c8
     have H':=Aside0.mk H
     clear H
     obtain⟨al,bc,ce,cg,ch,cu,cv,cw,cp,cq,cx,d9,db,dj,dk,dl⟩:=qD8 μ.out
     go_wp2
     go_meet
     case rel=>exact⟨_,(true),qR,H',⟨by first|omega|exact Nat.le_refl _⟩,⟨by(with_reducible repeat first|apply Kd.Zk|apply Kd.Zj|apply Kd.Z2);exact a7.out⟩,⟨by(with_reducible repeat first|apply Kd.Zk|apply Kd.Zj|apply Kd.Z2);exact a8.out⟩,⟨by(with_reducible repeat first|apply Kd.Zk|apply Kd.Zj|apply Kd.Z2);exact a9.out⟩,⟨by(with_reducible repeat first|apply Qb|apply Qe|apply Qc);exact μ.out⟩,⟨by repeat(first|(with_reducible first|exact HB.out|apply Qg|apply Qd|apply Qf|refine Qa ?_ τ.out)|exact HB.out)⟩⟩
    ·rw[if_neg c8] at H
     have c8b0:decide (B<0)=false:=decide_eq_false c8
     clear c8
     by_cases c10:B≥J
     ·rw[if_pos c10] at H
      have c10b0:decide (J≤B)=true:=decide_eq_true c10
      clear c10
      have H':=Aside0.mk H
      clear H
      obtain⟨aw,b5,bp,bl,bs,da,dq,dr,bh,bo,bq,dt,du,dx,ec,ed⟩:=qD8 μ.out
      go_wp2
      go_meet
      case rel=>exact⟨_,(true),qR,H',⟨by first|omega|exact Nat.le_refl _⟩,⟨by(with_reducible repeat first|apply Kd.Zk|apply Kd.Zj|apply Kd.Z2);exact a7.out⟩,⟨by(with_reducible repeat first|apply Kd.Zk|apply Kd.Zj|apply Kd.Z2);exact a8.out⟩,⟨by(with_reducible repeat first|apply Kd.Zk|apply Kd.Zj|apply Kd.Z2);exact a9.out⟩,⟨by(with_reducible repeat first|apply Qb|apply Qe|apply Qc);exact μ.out⟩,⟨by repeat(first|(with_reducible first|exact HB.out|apply Qg|apply Qd|apply Qf|refine Qa ?_ τ.out)|exact HB.out)⟩⟩
     ·rw[if_neg c10] at H
      have c10b0:decide (J≤B)=false:=decide_eq_false c10
      clear c10
      by_cases b4:Y<(-1)
      ·rw[if_pos b4] at H
       have c12b0:decide (Y<(-1))=true:=decide_eq_true b4
       clear b4
       have H':=Aside0.mk H
       clear H
       obtain⟨bb,ci,aa,ac,ae,af,ah,bn,bg,co,ab,aj,an,ao,ap,cf⟩:=qD8 μ.out
       go_wp2
       go_meet
       case rel=>exact⟨_,(true),qR,H',⟨by first|omega|exact Nat.le_refl _⟩,⟨by(with_reducible repeat first|apply Kd.Zk|apply Kd.Zj|apply Kd.Z2);exact a7.out⟩,⟨by(with_reducible repeat first|apply Kd.Zk|apply Kd.Zj|apply Kd.Z2);exact a8.out⟩,⟨by(with_reducible repeat first|apply Kd.Zk|apply Kd.Zj|apply Kd.Z2);exact a9.out⟩,⟨by(with_reducible repeat first|apply Qb|apply Qe|apply Qc);exact μ.out⟩,⟨by repeat(first|(with_reducible first|exact HB.out|apply Qg|apply Qd|apply Qf|refine Qa ?_ τ.out)|exact HB.out)⟩⟩
      ·rw[if_neg b4] at H
       have c12b0:decide (Y<(-1))=false:=decide_eq_false b4
       clear b4
       have H':=Aside0.mk H
       clear H
       obtain⟨cj,ck,cy,cz,d0,d1,d2,dd,cm,cn,d3,d4,d5,d6,d7,de⟩:=qD8 μ.out
       go_wp2
       go_meet
       case rel=>exact⟨_,(decide (Y>1)),qR,H',⟨by first|omega|exact Nat.le_refl _⟩,⟨by(with_reducible repeat first|apply Kd.Zk|apply Kd.Zj|apply Kd.Z2);exact a7.out⟩,⟨by(with_reducible repeat first|apply Kd.Zk|apply Kd.Zj|apply Kd.Z2);exact a8.out⟩,⟨by(with_reducible repeat first|apply Kd.Zk|apply Kd.Zj|apply Kd.Z2);exact a9.out⟩,⟨by(with_reducible repeat first|apply Qb|apply Qe|apply Qc);exact μ.out⟩,⟨by repeat(first|(with_reducible first|exact HB.out|apply Qg|apply Qd|apply Qf|refine Qa ?_ τ.out)|exact HB.out)⟩⟩
 case rest=>
  clear e4
  try clear c1
  try clear c2
  try clear p2
  try clear c4
  try clear c4b0
  try clear c6
  try clear c6b0
  try clear c8
  try clear c8b0
  try clear c10
  try clear c10b0
  try clear b4
  try clear c12b0
  try clear aw
  try clear b5
  try clear bp
  try clear bl
  try clear bs
  try clear da
  try clear dq
  try clear dr
  try clear bb
  try clear ci
  try clear aa
  try clear ac
  try clear ae
  try clear af
  try clear ah
  try clear bn
  try clear cj
  try clear ck
  try clear cy
  try clear cz
  try clear d0
  try clear d1
  try clear d2
  try clear dd
  try clear cd
  try clear cr
  try clear ct
  try clear d8
  try clear dc
  try clear di
  try clear dm
  try clear dp
  try clear b2
  try clear b3
  try clear ef
  try clear eh
  try clear ew
  try clear ey
  try clear fa
  try clear fb
  try clear al
  try clear bc
  try clear ce
  try clear cg
  try clear ch
  try clear cu
  try clear cv
  try clear cw
  try clear bh
  try clear bo
  try clear bq
  try clear dt
  try clear du
  try clear dx
  try clear ec
  try clear ed
  try clear bg
  try clear co
  try clear ab
  try clear aj
  try clear an
  try clear ao
  try clear ap
  try clear cf
  try clear cm
  try clear cn
  try clear d3
  try clear d4
  try clear d5
  try clear d6
  try clear d7
  try clear de
  try clear e5
  try clear e6
  try clear e7
  try clear e8
  try clear e9
  try clear ea
  try clear eb
  try clear ee
  try clear b6
  try clear b7
  try clear fc
  try clear fe
  try clear ff
  try clear fi
  try clear fj
  try clear fk
  try clear cp
  try clear cq
  try clear cx
  try clear d9
  try clear db
  try clear dj
  try clear dk
  try clear dl
  obtain⟨kq,bf,rfl,HA,gj,HO_169005,HO_169006,HO_169007,μ,HB⟩:=hcut
  cases kq with
  |zero=>exact absurd HA.out (by simp[collect_Check.j0])
  |succ ft=>
   have H:=HA.out
   clear HA
   simp only[collect_Check.j0] at H
   by_cases am:bf=true
   ·subst am
    have H1:(some 200)=some r:=by rw[if_pos rfl] at H;exact H
    clear H
    have H:=H1
    clear H1
    obtain rfl:=Option.some.inj H
    go_wp2
    go_ret
    exact⟨by first|rfl|(simp[Qo,Qn] <;> rfl)|(simp[*,Qo,Qn] <;> rfl),by repeat(first|(with_reducible first|exact HB.out|apply Qg|apply Qd|apply Qf|refine Qa ?_ τ.out)|exact HB.out)⟩
   ·replace am:=Bool.eq_false_iff.mpr am
    subst am
    have H1:((some (([ε,ζ,η]:List (List Int)):List (List Int))).bind fun ι =>(collect_Check.l0 ft ι (ι.length:Int) 0 J B Y Z γ ε ζ η))=some r:=by rw[if_neg (show ¬ (false=true) by decide)] at H;exact H
    clear H
    have H:=H1
    clear H1
    obtain⟨ι,ba⟩:∃ y_:List (List Int),y_=(([ε,ζ,η]:List (List Int))):=⟨_,rfl⟩
    replace H:(collect_Check.l0 ft ι (ι.length:Int) 0 J B Y Z γ ε ζ η)=some r:=by first|(rw[ba];with_reducible exact H)|(have ax:=(Option.bind_some _ _).symm.trans H;rw[ba];with_reducible exact ax)|(have ax:=(Option.bind_some _ _).symm.trans H;with_reducible exact ax)|with_reducible exact H|(rw[ba];exact H)|exact H
    have fx:=Aside0.mk ba
    clear ba
    have H':=Aside0.mk H
    clear H
    obtain⟨dy,dz,ag,bu,df,dh,dn,ei,e0,e3,ai,ej,ek,el,eo,ep⟩:=qD8 μ.out
    go_wp2_with (first|((with_reducible refine Qr (N:=44) rfl ?_);refine Kd.N_lit (Kd.slice 3 (Kd.int .i64)) _ 32 ?hg (N':=44) ?hd (xs:=([ε,ζ,η]:List (List Int))) (inner:=[.slice a1 ε.length a2,.slice a3 ζ.length a4,.slice a5 η.length a6]) (ok:=(fun k_=>((ν k_∨ρ k_∨σ k_)∨w.heap.size≤k_)∧k_ ≠ κ)) (okp:=(fun k_=>((ν k_∨ρ k_∨σ k_)∨w.heap.size≤k_)∧k_ ≠ κ)) ?hr ?hp (fun _ hk=>hk) ((show ∀ k_,wc.heap.size≤k_→(fun k_=>((ν k_∨ρ k_∨σ k_)∨w.heap.size≤k_)∧k_ ≠ κ) k_ from fun k_ hk=>⟨(.inr (Nat.le_trans (Qi (by repeat(first|(with_reducible first|exact HB.out|apply Qg|apply Qd|apply Qf|refine Qa ?_ τ.out)|exact HB.out))) hk)),Kd.N6 (g:= κ) (o:=.cells #[.int .i64 J,.int .i64 B,.int .i64 Y,.bool Z,.bool γ,.slice a1 ε.length a2,.slice a3 ζ.length a4,.slice a5 η.length a6] 76 (0,0)) (by(with_reducible repeat first|apply Qb|apply Qe|apply Qc);exact μ.out) k_ hk⟩) _ (Nat.le_refl _)) (Below.refl _ _) (Nat.le_refl _) (by simp) ?_;(case hd=>rfl);(case hg=>rfl);(case hr=>first|(go_simp;done)|(go_simp;rfl));(case hp=>exact(Reps.one (show Kd.FK (Kd.slice 3 (Kd.int .i64)) _ _ ε [.slice a1 ε.length a2] from(Kd.Ji (Kd.Gi (Kd.Yc (ok':=(fun k_=>((ν k_∨ρ k_∨σ k_)∨w.heap.size≤k_)∧k_ ≠ κ)) (HO_169005.out) (fun k_ hk=>⟨hk.1,hk.2⟩))).2.1 (Kd.V_F (Kd.Yc (ok':=(fun k_=>((ν k_∨ρ k_∨σ k_)∨w.heap.size≤k_)∧k_ ≠ κ)) (HO_169005.out) (fun k_ hk=>⟨hk.1,hk.2⟩))))) (Reps.one (show Kd.FK (Kd.slice 3 (Kd.int .i64)) _ _ ζ [.slice a3 ζ.length a4] from(Kd.Ji (Kd.Gi (Kd.Yc (ok':=(fun k_=>((ν k_∨ρ k_∨σ k_)∨w.heap.size≤k_)∧k_ ≠ κ)) (HO_169006.out) (fun k_ hk=>⟨hk.1,hk.2⟩))).2.1 (Kd.V_F (Kd.Yc (ok':=(fun k_=>((ν k_∨ρ k_∨σ k_)∨w.heap.size≤k_)∧k_ ≠ κ)) (HO_169006.out) (fun k_ hk=>⟨hk.1,hk.2⟩))))) (Reps.one (show Kd.FK (Kd.slice 3 (Kd.int .i64)) _ _ η [.slice a5 η.length a6] from(Kd.Ji (Kd.Gi (Kd.Yc (ok':=(fun k_=>((ν k_∨ρ k_∨σ k_)∨w.heap.size≤k_)∧k_ ≠ κ)) (HO_169007.out) (fun k_ hk=>⟨hk.1,hk.2⟩))).2.1 (Kd.V_F (Kd.Yc (ok':=(fun k_=>((ν k_∨ρ k_∨σ k_)∨w.heap.size≤k_)∧k_ ≠ κ)) (HO_169007.out) (fun k_ hk=>⟨hk.1,hk.2⟩))))) (Reps.none _ _)))));intro gr dv b0 hb hg_ hnew_;clear hg_ hnew_;(first|rw[← fx.out] at b0|(simp only[Int.reduceToNat] at b0;rw[← fx.out] at b0));have L:=Aside0.mk (Kd.Gm (by(with_reducible repeat first|apply Kd.Zk|apply Kd.Zj|apply Kd.Z2);exact HO_169005.out) (Kd.U4 b0) hb);have O:=Aside0.mk (Kd.Gm (by(with_reducible repeat first|apply Kd.Zk|apply Kd.Zj|apply Kd.Z2);exact HO_169006.out) (Kd.U4 b0) hb);have X:=Aside0.mk (Kd.Gm (by(with_reducible repeat first|apply Kd.Zk|apply Kd.Zj|apply Kd.Z2);exact HO_169007.out) (Kd.U4 b0) hb);have δ :=Aside0.mk (Kd.Nn b0 (Qi (by repeat(first|(with_reducible first|exact HB.out|apply Qg|apply Qd|apply Qf|refine Qa ?_ τ.out)|exact HB.out))));have ξ :=Aside0.mk (Qh (g:= κ) (o:=.cells #[.int .i64 J,.int .i64 B,.int .i64 Y,.bool Z,.bool γ,.slice a1 ε.length a2,.slice a3 ζ.length a4,.slice a5 η.length a6] 76 (0,0)) (by(with_reducible repeat first|apply Qb|apply Qe|apply Qc);exact μ.out) hb);have φ :=Aside0.mk (Qj (by repeat(first|(with_reducible first|exact HB.out|apply Qg|apply Qd|apply Qf|refine Qa ?_ τ.out)|exact HB.out)) hb);clear HO_169005;clear HO_169006;clear HO_169007;clear μ;clear HB;have HO_169005:=L;have HO_169006:=O;have HO_169007:=X;have fy:= δ;have μ := ξ;have HB:= φ;clear L O X δ ξ φ;clear hb b0;obtain⟨bz,ca,gm⟩:=Kd.Wm fy.out;subst gm))
    go_loopg [46] ft (fun kq gn w'=>∃ (θ :Int),gn = .int .i64 θ ∧ Aside0 (collect_Check.l0 kq ι (ι.length:Int) θ J B Y Z γ ε ζ η = some r)∧Aside0 (kq≤ft)∧Aside0 (Kd.N (Kd.slice 3 (Kd.int .i64)) 32 w' w.heap.size (fun k_=>((ν k_∨ρ k_∨σ k_)∨w.heap.size≤k_)∧k_ ≠ κ) (.slice bz ι.length ca) ι)∧Aside0 (Kd.V (Kd.int .i64) 3 w' w.heap.size (fun k_=>((ν k_∨ρ k_∨σ k_)∨w.heap.size≤k_)∧some k_≠((.slice bz ι.length ca):Value).ownBlock∧k_ ≠ κ) (.slice a1 ε.length a2) ε)∧Aside0 (Kd.V (Kd.int .i64) 3 w' w.heap.size (fun k_=>((ν k_∨ρ k_∨σ k_)∨w.heap.size≤k_)∧some k_≠((.slice bz ι.length ca):Value).ownBlock∧k_ ≠ κ) (.slice a3 ζ.length a4) ζ)∧Aside0 (Kd.V (Kd.int .i64) 3 w' w.heap.size (fun k_=>((ν k_∨ρ k_∨σ k_)∨w.heap.size≤k_)∧some k_≠((.slice bz ι.length ca):Value).ownBlock∧k_ ≠ κ) (.slice a5 η.length a6) η)∧Aside0 (w'.heap[κ]?=some (.cells #[.int .i64 J,.int .i64 B,.int .i64 Y,.bool Z,.bool γ,(.slice a1 ε.length a2),(.slice a3 ζ.length a4),(.slice a5 η.length a6)] 76 (0,0)))∧Aside0 (Below w.heap.size w w'))
    case atStart=>exact⟨(0),qR,H',⟨Nat.le_refl _⟩,⟨by(with_reducible repeat(first|apply Kd.Wo|apply Kd.Wn|apply Kd.Mk));exact fy.out⟩,⟨by(with_reducible repeat first|apply Kd.Zk|apply Kd.Zj|apply Kd.Z2);exact Kd.Yc HO_169005.out (fun _ hk=>⟨hk.1.1,⟨hk.2,hk.1.2⟩⟩)⟩,⟨by(with_reducible repeat first|apply Kd.Zk|apply Kd.Zj|apply Kd.Z2);exact Kd.Yc HO_169006.out (fun _ hk=>⟨hk.1.1,⟨hk.2,hk.1.2⟩⟩)⟩,⟨by(with_reducible repeat first|apply Kd.Zk|apply Kd.Zj|apply Kd.Z2);exact Kd.Yc HO_169007.out (fun _ hk=>⟨hk.1.1,⟨hk.2,hk.1.2⟩⟩)⟩,⟨by(with_reducible repeat first|apply Qb|apply Qe|apply Qc);exact μ.out⟩,⟨by repeat(first|(with_reducible first|exact HB.out|apply Qg|apply Qd|apply Qf|refine Qa ?_ τ.out)|exact HB.out)⟩⟩
    case round=>
     clear H'
     try clear c1
     try clear c2
     try clear p2
     try clear c4
     try clear c4b0
     try clear c6
     try clear c6b0
     try clear c8
     try clear c8b0
     try clear c10
     try clear c10b0
     try clear b4
     try clear c12b0
     try clear am
     try clear aw
     try clear b5
     try clear bp
     try clear bl
     try clear bs
     try clear da
     try clear dq
     try clear dr
     try clear bb
     try clear ci
     try clear aa
     try clear ac
     try clear ae
     try clear af
     try clear ah
     try clear bn
     try clear cj
     try clear ck
     try clear cy
     try clear cz
     try clear d0
     try clear d1
     try clear d2
     try clear dd
     try clear dy
     try clear dz
     try clear ag
     try clear bu
     try clear df
     try clear dh
     try clear dn
     try clear ei
     try clear cd
     try clear cr
     try clear ct
     try clear d8
     try clear dc
     try clear di
     try clear dm
     try clear dp
     try clear b2
     try clear b3
     try clear ef
     try clear eh
     try clear ew
     try clear ey
     try clear fa
     try clear fb
     try clear al
     try clear bc
     try clear ce
     try clear cg
     try clear ch
     try clear cu
     try clear cv
     try clear cw
     try clear bh
     try clear bo
     try clear bq
     try clear dt
     try clear du
     try clear dx
     try clear ec
     try clear ed
     try clear bg
     try clear co
     try clear ab
     try clear aj
     try clear an
     try clear ao
     try clear ap
     try clear cf
     try clear cm
     try clear cn
     try clear d3
     try clear d4
     try clear d5
     try clear d6
     try clear d7
     try clear de
     try clear e0
     try clear e3
     try clear ai
     try clear ej
     try clear ek
     try clear el
     try clear eo
     try clear ep
     try clear e5
     try clear e6
     try clear e7
     try clear e8
     try clear e9
     try clear ea
     try clear eb
     try clear ee
     try clear b6
     try clear b7
     try clear fc
     try clear fe
     try clear ff
     try clear fi
     try clear fj
     try clear fk
     try clear cp
     try clear cq
     try clear cx
     try clear d9
     try clear db
     try clear dj
     try clear dk
     try clear dl
     try clear p2
     obtain⟨θ,rfl,HA,eg,HO_44,HO_169005,HO_169006,HO_169007,μ,HB⟩:=hrel
     cases gk with
     |zero=>exact absurd HA.out (by simp[collect_Check.l0])
     |succ k2=>
      have H:=HA.out
      clear HA
      simp only[collect_Check.l0] at H
      by_cases cb: θ < (ι.length:Int)
      ·rw[if_pos cb] at H
       have c20b0:decide (θ < (ι.length:Int))=true:=decide_eq_true cb
       clear cb
       by_cases av:0 ≤ θ
       ·rw[if_pos av] at H
        have c21b0:decide (0 ≤ θ)=true:=decide_eq_true av
        clear av
        by_cases fw: θ < (ι.length:Int)
        ·rw[if_pos fw] at H
         have c22b0:decide (θ < (ι.length:Int))=true:=decide_eq_true fw
         clear fw
         replace H:=Option.bind_eq_some_iff.mp H
         obtain⟨br,g6,H⟩:=H
         replace H:(if br=true then (collect_Check.l0 k2 ι (ι.length:Int) (wrap64 (θ + 1)) J B Y Z γ ε ζ η) else (some 200))=some r:=H
         have gl:=Aside0.mk g6
         clear g6
         by_cases dw:br=true
         ·subst dw
          have H1:(collect_Check.l0 k2 ι (ι.length:Int) (wrap64 (θ + 1)) J B Y Z γ ε ζ η)=some r:=by rw[if_pos rfl] at H;exact H
          clear H
          have H:=H1
          clear H1
          have H':=Aside0.mk H
          clear H
          have ay:0≤(θ :Int):=of_decide_eq_true (by first|(with_reducible assumption)|assumption)
          have az: θ < (ι.length:Int):=of_decide_eq_true (by first|(with_reducible assumption)|assumption)
          obtain⟨gf,bi,bj,fl,bd,ak,ar⟩:=Ny (Kd.Jh HO_44.out).2.2 θ ay az
          cases fl
          obtain⟨gg,bk,bm,b1⟩:=Kd.Nz HO_44.out [] θ ay (by first|exact az|exact of_decide_eq_true (by first|(with_reducible assumption)|assumption)|(have e_:=(Kd.Jh HO_44.out).1;omega))
          obtain⟨fz,g0,rfl,ψ,a0⟩:=Kd.Js bm
          have χ :=b1 0 _ rfl
          rw[Nat.add_zero,show((Kd.slice 3 (Kd.int .i64))).sz=1 from rfl,Nat.mul_one] at χ
          replace χ :=Option.some.inj (χ.symm.trans bd)
          injection χ with hva_ hvn_ hvc_
          rw[hva_] at a0
          rw[hvc_] at ψ
          have g1:=Aside0.mk (show Kd.V (Kd.int .i64) 3 _ w.heap.size _ _ (Yu ι θ) from Kd.Gj ψ a0)
          clear hva_ hvn_ hvc_ a0 ψ
          clear b1 bk
          have au:=Aside0.mk ar
          have be:=Aside0.mk ak
          clear ar ak
          replace ay:=eq_true ay
          replace az:=eq_true az
          obtain⟨en,er,b8,fm,fn,fo,fp,bv,et,eu,b9,fq,fr,fu,fv,bw⟩:=qD8 μ.out
          go_wp2_with (first|((with_reducible refine Qt (f:=50) rfl ?_);refine Q7 (some 53) rfl rfl Try.func50 kr rfl #[.slice bi (Yu ι θ).length bj,.int .i64 J] rfl (by(try simp only[List.map_toArray,List.map_cons,List.map_nil]);first|done|rfl|(simp only[List.length_drop,List.length_take];rfl)) ?_;(with_reducible refine(collect_rising.calls k2 _ _ (Yu ι θ) J true _ ?side1 ?side2 gl.out).mono ?_);(case side1=>repeat(first|exact(by repeat(first|(with_reducible exact au.out)|(with_reducible refine Kd.Q3 ?_ _)|(with_reducible refine Kd.Q2 ?_ _)|(with_reducible refine Kd.Q9 ?_)|exact au.out))|(with_reducible refine Kd.Q3 ?_ _)|(with_reducible refine Kd.Q2 ?_ _)|(with_reducible refine Kd.Q9 ?_)));(case side2=>exact be.out);rintro e w' ⟨rfl,⟨nd,rfl⟩⟩;refine⟨_,rfl, ?_⟩))
          go_roundg k2
          case measure=>have:=gj.out;have:=eg.out;omega
          case rel=>exact⟨(wrap64 (θ + 1)),qR,H',⟨by have:=gj.out;have:=eg.out;omega⟩,⟨by(with_reducible repeat(first|apply Kd.Wo|apply Kd.Wn|apply Kd.Mk));exact HO_44.out⟩,⟨by(with_reducible repeat first|apply Kd.Zk|apply Kd.Zj|apply Kd.Z2);exact HO_169005.out⟩,⟨by(with_reducible repeat first|apply Kd.Zk|apply Kd.Zj|apply Kd.Z2);exact HO_169006.out⟩,⟨by(with_reducible repeat first|apply Kd.Zk|apply Kd.Zj|apply Kd.Z2);exact HO_169007.out⟩,⟨by(with_reducible repeat first|apply Qb|apply Qe|apply Qc);exact μ.out⟩,⟨by repeat(first|(with_reducible first|exact HB.out|apply Qg|apply Qd|apply Qf|refine Qa ?_ τ.out)|exact HB.out)⟩⟩
         ·replace dw:=Bool.eq_false_iff.mpr dw
          subst dw
          have H1:(some 200)=some r:=by rw[if_neg (show ¬ (false=true) by decide)] at H;exact H
          clear H
          have H:=H1
          clear H1
          obtain rfl:=Option.some.inj H
          have ay:0≤(θ :Int):=of_decide_eq_true (by first|(with_reducible assumption)|assumption)
          have az: θ < (ι.length:Int):=of_decide_eq_true (by first|(with_reducible assumption)|assumption)
          obtain⟨gf,bi,bj,fl,bd,ak,ar⟩:=Ny (Kd.Jh HO_44.out).2.2 θ ay az
          cases fl
          obtain⟨gg,bk,bm,b1⟩:=Kd.Nz HO_44.out [] θ ay (by first|exact az|exact of_decide_eq_true (by first|(with_reducible assumption)|assumption)|(have e_:=(Kd.Jh HO_44.out).1;omega))
          obtain⟨fz,g0,rfl,ψ,a0⟩:=Kd.Js bm
          have χ :=b1 0 _ rfl
          rw[Nat.add_zero,show((Kd.slice 3 (Kd.int .i64))).sz=1 from rfl,Nat.mul_one] at χ
          replace χ :=Option.some.inj (χ.symm.trans bd)
          injection χ with hva_ hvn_ hvc_
          rw[hva_] at a0
          rw[hvc_] at ψ
          have g1:=Aside0.mk (show Kd.V (Kd.int .i64) 3 _ w.heap.size _ _ (Yu ι θ) from Kd.Gj ψ a0)
          clear hva_ hvn_ hvc_ a0 ψ
          clear b1 bk
          have au:=Aside0.mk ar
          have be:=Aside0.mk ak
          clear ar ak
          replace ay:=eq_true ay
          replace az:=eq_true az
          obtain⟨em,ev,fg,g2,g3,g4,g5,g8,ez,f8,fh,g9,ga,gh,gi,gp⟩:=qD8 μ.out
          go_wp2_with (first|((with_reducible refine Qt (f:=50) rfl ?_);refine Q7 (some 53) rfl rfl Try.func50 kr rfl #[.slice bi (Yu ι θ).length bj,.int .i64 J] rfl (by(try simp only[List.map_toArray,List.map_cons,List.map_nil]);first|done|rfl|(simp only[List.length_drop,List.length_take];rfl)) ?_;(with_reducible refine(collect_rising.calls k2 _ _ (Yu ι θ) J false _ ?side1 ?side2 gl.out).mono ?_);(case side1=>repeat(first|exact(by repeat(first|(with_reducible exact au.out)|(with_reducible refine Kd.Q3 ?_ _)|(with_reducible refine Kd.Q2 ?_ _)|(with_reducible refine Kd.Q9 ?_)|exact au.out))|(with_reducible refine Kd.Q3 ?_ _)|(with_reducible refine Kd.Q2 ?_ _)|(with_reducible refine Kd.Q9 ?_)));(case side2=>exact be.out);rintro e w' ⟨rfl,⟨nd,rfl⟩⟩;refine⟨_,rfl, ?_⟩))
          go_ret
          exact⟨by first|rfl|(simp[Qo,Qn] <;> rfl)|(simp[*,Qo,Qn] <;> rfl),by repeat(first|(with_reducible first|exact HB.out|apply Qg|apply Qd|apply Qf|refine Qa ?_ τ.out)|exact HB.out)⟩
        ·rw[if_neg fw] at H
         exact absurd H (by simp)
       ·rw[if_neg av] at H
        exact absurd H (by simp)
      ·rw[if_neg cb] at H
       have c20b0:decide (θ < (ι.length:Int))=false:=decide_eq_false cb
       clear cb
       obtain rfl:=Option.some.inj H
       go_wp2
       go_ret
       exact⟨by first|rfl|(simp[Qo,Qn] <;> rfl)|(simp[*,Qo,Qn] <;> rfl),by repeat(first|(with_reducible first|exact HB.out|apply Qg|apply Qd|apply Qf|refine Qa ?_ τ.out)|exact HB.out)⟩
end Go.Proofs.Ytmfffemidlhcpaa.C
namespace Go.Proofs.Ytmfffemidlhcpaa.ColPure
open Go.RowKit Go.Proofs.YtmfffemidlhcpaaW.PrintWords Go.Proofs.YtmfffemidlhcpaaW.PrintLast Go.Proofs.YtmfffemidlhcpaaW.PrintMore Go.Proofs.Ytmfffemidlhcpaa.C
set_option linter.unusedVariables false
theorem Nu (l:List Int) (i:Nat) (h:i<l.length):rd l (i:Int)=l[i]:=by
  simp[rd,h]
theorem up1 {i:Nat} (h:i≤1000000):wrap64 ((i:Int)+1)=((i+1:Nat):Int):=by unfold wrap64;omega
theorem w64 {n:Int} (h: -1000000≤n) (L:n≤1000000):wrap64 n=n:=by unfold wrap64;omega
theorem Mb (l:List Int) (i:Nat) (h:i<l.length):l.drop i=l[i] :: l.drop (i+1):=List.drop_eq_getElem_cons h
def Jc (fl:Int):Int→List Int→Bool
  |_,[]=>true
  |p,x :: xs=>decide (p<x∧x<fl)&&Jc fl x xs
def Jp (l:List Int) (i:Nat):Int:=if i=0 then -1 else rd l ((i-1:Nat):Int)
theorem G1 (l:List Int) (i:Nat) (h:i<l.length):Jp l (i+1)=l[i]:=by
  unfold Jp
  rw[if_neg (by omega),Nat.add_sub_cancel,Nu l i h]
theorem V5 (l:List Int) (fl:Int) (hm:l.length≤1000) (j:Nat):∀ (f i:Nat),i+j=l.length→j<f → -1≤Jp l i→collect_rising.l0 f l fl l (l.length:Int) (i:Int)=some (Jc fl (Jp l i) (l.drop i)):=by
  induction j with
  |zero=>
    intro f i hi hf hp
    obtain⟨f,rfl⟩:∃ m,f=m+1:=⟨f-1,by omega⟩
    rw[collect_rising.l0,if_neg (by omega),List.drop_of_length_le (by omega)]
    rfl
  |succ j ih=>
    intro f i hi hf hp
    obtain⟨f,rfl⟩:∃ m,f=m+1:=⟨f-1,by omega⟩
    have ha:i<l.length:=by omega
    have go:0≤l[i]→collect_rising.l0 f l fl l (l.length:Int) (wrap64 ((i:Int)+1))=some (Jc fl l[i] (l.drop (i+1))):=by
      intro O
      rw[up1 (by omega),ih f (i+1) (by omega) (by omega) (by rw[G1 l i ha];omega),G1 l i ha]
    rw[collect_rising.l0,if_pos (by omega),if_pos (by omega),if_pos (by omega),Nu l i ha,Mb l i ha,Jc]
    by_cases c1:l[i]<0
    · rw[if_pos c1,decide_eq_false (by omega),Bool.false_and]
    rw[if_neg c1]
    by_cases c2:l[i]≥fl
    · rw[if_pos c2,decide_eq_false (by omega),Bool.false_and]
    rw[if_neg c2]
    by_cases c3:i=0
    · have hv:Jp l i = -1:=by unfold Jp;rw[if_pos c3]
      rw[if_neg (by omega),go (by omega),hv,decide_eq_true (by omega),Bool.true_and]
    · have ew:wrap64 ((i:Int)-1)=((i-1:Nat):Int):=by rw[w64 (by omega) (by omega)];omega
      have hv:Jp l i=rd l ((i-1:Nat):Int):=by unfold Jp;rw[if_neg c3]
      rw[if_pos (by omega),ew,if_pos (by omega),if_pos (by omega),← hv]
      by_cases c4:Jp l i≥l[i]
      · rw[if_pos c4,decide_eq_false (by omega),Bool.false_and]
      · rw[if_neg c4,go (by omega),decide_eq_true (by omega),Bool.true_and]
theorem Ki (l:List Int) (fl:Int) (hm:l.length≤1000) (f:Nat) (hf:l.length<f):collect_rising.f f l fl=some (Jc fl (-1) l):=by
  have:=V5 l fl hm l.length f 0 (by omega) hf (by unfold Jp;rw[if_pos rfl];exact Int.le_refl _)
  rw[List.drop_zero] at this
  exact this
structure Few (I U D:List Int):Prop where
  i:I.length≤600
  u:U.length≤600
  d:D.length≤600
variable {I U D : List Int}
def Gu (fl f d:Int) (I U D:List Int):Bool:=Jc fl (-1) I&&Jc fl (-1) U&&Jc fl (-1) D&&decide (2≤fl∧fl≤64∧0≤f∧f<fl ∧ -1≤d∧d≤1)
theorem Uy (h:Few I U D) (fl f d:Int) (su sd:Bool) (k:Nat) (hk:1500≤k):collect_Check.j0 k false fl f d su sd I U D=some (if Jc fl (-1) I&&Jc fl (-1) U&&Jc fl (-1) D then 0 else 200):=by
  have:=h.i;have:=h.u;have:=h.d
  obtain⟨k,rfl⟩:∃ m,k=m+5:=⟨k-5,by omega⟩
  rw[collect_Check.j0,if_neg (by decide),Option.bind_some]
  have e1:wrap64 (0+1)=1:=w64 (by omega) (by omega)
  have e2:wrap64 (1+1)=2:=w64 (by omega) (by omega)
  have B:wrap64 (2+1)=3:=w64 (by omega) (by omega)
  have el:(([I,U,D]:List (List Int)).length:Int)=3:=rfl
  have r0:Yu [I,U,D] 0=I:=rfl
  have r1:Yu [I,U,D] 1=U:=rfl
  have r2:Yu [I,U,D] 2=D:=rfl
  rw[el]
  rw[collect_Check.l0,if_pos (by decide),if_pos (by decide),el,if_pos (by decide),r0,Ki I fl (by omega) _ (by omega),Option.bind_some]
  cases Jc fl (-1) I
  · rfl
  rw[if_pos rfl,e1,collect_Check.l0,if_pos (by decide),if_pos (by decide),el,if_pos (by decide),r1,Ki U fl (by omega) _ (by omega),Option.bind_some]
  cases Jc fl (-1) U
  · rfl
  rw[if_pos rfl,e2,collect_Check.l0,if_pos (by decide),if_pos (by decide),el,if_pos (by decide),r2,Ki D fl (by omega) _ (by omega),Option.bind_some]
  cases Jc fl (-1) D
  · rfl
  rw[if_pos rfl,B,collect_Check.l0,if_neg (by decide)]
  rfl
theorem Lh (fl f d:Int) (su sd:Bool) (k:Nat) (hk:1500≤k):collect_Check.j0 k true fl f d su sd I U D=some 200:=by
  obtain⟨k,rfl⟩:∃ m,k=m+1:=⟨k-1,by omega⟩
  rw[collect_Check.j0,if_pos rfl]
theorem Yj (h:Few I U D) (fl f d:Int) (su sd:Bool) (k:Nat) (hk:1500≤k):collect_Check.f k fl f d su sd I U D=some (if Gu fl f d I U D then 0 else 200):=by
  unfold collect_Check.f
  have bad:=Lh (I:=I) (U:=U) (D:=D) fl f d su sd k hk
  by_cases c1:fl<2
  · rw[if_pos c1,bad]
    unfold Gu
    rw[decide_eq_false (by omega),Bool.and_false]
    rfl
  rw[if_neg c1]
  by_cases c2:fl>64
  · rw[if_pos c2,bad]
    unfold Gu
    rw[decide_eq_false (by omega),Bool.and_false]
    rfl
  rw[if_neg c2]
  by_cases c3:f<0
  · rw[if_pos c3,bad]
    unfold Gu
    rw[decide_eq_false (by omega),Bool.and_false]
    rfl
  rw[if_neg c3]
  by_cases c4:f≥fl
  · rw[if_pos c4,bad]
    unfold Gu
    rw[decide_eq_false (by omega),Bool.and_false]
    rfl
  rw[if_neg c4]
  by_cases c5:d < -1
  · rw[if_pos c5,bad]
    unfold Gu
    rw[decide_eq_false (by omega),Bool.and_false]
    rfl
  rw[if_neg c5]
  by_cases c6:d>1
  · rw[decide_eq_true c6,bad]
    unfold Gu
    rw[decide_eq_false (by omega),Bool.and_false]
    rfl
  · rw[decide_eq_false c6,Uy h fl f d su sd k hk]
    unfold Gu
    rw[decide_eq_true (by omega),Bool.and_true]
end Go.Proofs.Ytmfffemidlhcpaa.ColPure
namespace Go.Proofs.Ytmfffemidlhcpaa.K
open Go.RowKit Go.Proofs.YtmfffemidlhcpaaW.PrintWords Go.Proofs.YtmfffemidlhcpaaW.PrintLast Go.Proofs.YtmfffemidlhcpaaW.PrintMore
attribute [local go_sem] Z1 Zz Z9 Z8 Zq Zp Z0 Zy
set_option linter.unusedVariables false
set_option linter.unusedSimpArgs false
def L9:Option Int→Value
 |none=>.nilIface
 |some c=>.iface 0 (.int .i64 c)
theorem Qo:L9 none = .nilIface:=rfl
theorem Qn (c:Int):L9 (some c) = .iface 0 (.int .i64 c):=rfl
theorem Wd:(Try.prog.info? 3).map (fun i=>(i.zero,i.size,i.bytes))=some (some (.int .i64 0),1,8):=by kernel_rfl
structure S36 where
 f0:Int
 f1:Int
 f2:Int
def z36:S36:=⟨(0:Int),(0:Int),(0:Int)⟩
def k36:Kd S36:=Kd.iso (Kd.pair (Kd.int .i64) (Kd.pair (Kd.int .i64) (Kd.int .i64))) (fun x:S36=>(x.f0,x.f1,x.f2))
theorem J9 {w:World} {x:S36} {cs:List Value} (h:k36.K w x cs):cs = [.int .i64 x.f0,.int .i64 x.f1,.int .i64 x.f2]:=by
 obtain⟨_,_,rfl,rfl,⟨_,_,rfl,rfl,rfl⟩⟩:=h
 exact rfl
theorem X7 {w:World} {base:Nat} {ok:Nat→Prop} {x:S36} {cs:List Value} (h:k36.M w base ok x cs):cs = [.int .i64 x.f0,.int .i64 x.f1,.int .i64 x.f2]:=by
 obtain⟨_,_,rfl,rfl,⟨_,_,rfl,rfl,rfl⟩⟩:=h
 exact rfl
theorem Ka (w:World) (base:Nat) (ok:Nat→Prop) (x:S36):k36.M w base ok x [.int .i64 x.f0,.int .i64 x.f1,.int .i64 x.f2]:=⟨[.int .i64 x.f0],[.int .i64 x.f1,.int .i64 x.f2],rfl,rfl,⟨[.int .i64 x.f1],[.int .i64 x.f2],rfl,rfl,rfl⟩⟩
def Ql (xs:List S36) (i:Int):S36:=xs.getD i.toNat z36
theorem Xz {w:World} {A:Option Addr} {n:Nat} {xs:List S36} (h:Kd.C k36 w A n xs) (i:Int) (O:0≤i) (h1:i<n):∃ ad,A=some ad∧w.cell? (ad.add (i.toNat * 3))=some (.int .i64 (Ql xs i).f0)∧w.cell? ⟨(ad.add (i.toNat * 3)).block,(ad.add (i.toNat * 3)).off+1,none⟩=some (.int .i64 (Ql xs i).f1)∧w.cell? ⟨(ad.add (i.toNat * 3)).block,(ad.add (i.toNat * 3)).off+2,none⟩=some (.int .i64 (Ql xs i).f2):=by
 obtain⟨ad,c,e,_,hK,γ⟩:=Kd.G7 h z36 i O h1
 have hc:∀ j u,c[j]?=some u→w.cell? (ad.add (i.toNat * 3+j))=some u:=γ
 obtain rfl:=J9 hK
 exact⟨ad,e,hc 0 _ rfl,by rw[← Z6 _ _ 1 (by omega)];exact hc 1 _ rfl,by rw[← Z6 _ _ 2 (by omega)];exact hc 2 _ rfl⟩
structure S86 where
 f0:Int
 f1:Int
def z86:S86:=⟨(0:Int),(0:Int)⟩
def k86:Kd S86:=Kd.iso (Kd.pair (Kd.int .i64) (Kd.int .i64)) (fun x:S86=>(x.f0,x.f1))
theorem J8 {w:World} {x:S86} {cs:List Value} (h:k86.K w x cs):cs = [.int .i64 x.f0,.int .i64 x.f1]:=by
 obtain⟨_,_,rfl,rfl,rfl⟩:=h
 exact rfl
theorem Jm {w:World} {base:Nat} {ok:Nat→Prop} {x:S86} {cs:List Value} (h:k86.M w base ok x cs):cs = [.int .i64 x.f0,.int .i64 x.f1]:=by
 obtain⟨_,_,rfl,rfl,rfl⟩:=h
 exact rfl
theorem L0 (w:World) (x:S86):k86.K w x [.int .i64 x.f0,.int .i64 x.f1]:=⟨[.int .i64 x.f0],[.int .i64 x.f1],rfl,rfl,rfl⟩
theorem Vi (w:World) (base:Nat) (ok:Nat→Prop) (x:S86):k86.M w base ok x [.int .i64 x.f0,.int .i64 x.f1]:=⟨[.int .i64 x.f0],[.int .i64 x.f1],rfl,rfl,rfl⟩
def Qv (xs:List S86) (i:Int):S86:=xs.getD i.toNat z86
theorem Y6 {w:World} {A:Option Addr} {n:Nat} {xs:List S86} (h:Kd.C k86 w A n xs) (i:Int) (O:0≤i) (h1:i<n):∃ ad,A=some ad∧w.cell? (ad.add (i.toNat * 2))=some (.int .i64 (Qv xs i).f0)∧w.cell? ⟨(ad.add (i.toNat * 2)).block,(ad.add (i.toNat * 2)).off+1,none⟩=some (.int .i64 (Qv xs i).f1):=by
 obtain⟨ad,c,e,_,hK,γ⟩:=Kd.G7 h z86 i O h1
 have hc:∀ j u,c[j]?=some u→w.cell? (ad.add (i.toNat * 2+j))=some u:=γ
 obtain rfl:=J8 hK
 exact⟨ad,e,hc 0 _ rfl,by rw[← Z6 _ _ 1 (by omega)];exact hc 1 _ rfl⟩
def cmp_Or_int.l0:Nat→Int→List Int→Int→Int→Option (Int)
 |0,_,_,_,_=>none
 |k+1,B,O,L,X=>if X<L then (if 0≤X then (if X<(O.length:Int) then (if (rd O X)=B then (cmp_Or_int.l0 k B O L (wrap64 (X+1))) else (some (rd O X))) else (none)) else (none)) else (some B)
def cmp_Or_int.f (k:Nat) (l0:List Int):Option (Int):=cmp_Or_int.l0 k 0 l0 (l0.length:Int) 0
set_option maxHeartbeats 8000000 in
set_option maxRecDepth 100000 in
theorem cmp_Or_int.calls (k:Nat) (A0:Option Addr) (c0:Nat) (l0:List Int) (r:Int) (w:World) (τ :Kd.C (Kd.int .i64) w A0 l0.length l0) (γ:l0.length≤c0) (h:cmp_Or_int.f k l0=some r):
  Calls Try.prog 80 #[.slice A0 l0.length c0] w fun e w'=>e = .returned (.int .i64 r)∧Drawn0 w w':=by
 have ψ :=Aside0.mk τ
 have ai:=Aside0.mk γ
 clear τ γ
 have H:(cmp_Or_int.l0 k 0 l0 (l0.length:Int) 0)=some r:=h
 clear h
 have H':=Aside0.mk H
 clear H
 go_enter Try.func80,Try.ntmps80
 go_wp2
 go_loopg [8] k (fun kq v8 w'=>∃ (B:Int),v8 = .int .i64 B∧Aside0 (cmp_Or_int.l0 kq 0 l0 (l0.length:Int) B=some r)∧Aside0 (kq≤k)∧Drawn0 w w')
 case atStart=>exact⟨(0),qR,H',⟨Nat.le_refl _⟩,by repeat(first|exact Drawn0.refl _|apply Drawn0.step)⟩
 case round=>
  clear H'
  obtain⟨B,rfl,HA,az,⟨m1,rfl⟩⟩:=hrel
  cases gk with
  |zero=>exact absurd HA.out (by simp[cmp_Or_int.l0])
  |succ k1=>
   have H:=HA.out
   clear HA
   simp only[cmp_Or_int.l0] at H
   by_cases c2:B<(l0.length:Int)
   ·rw[if_pos c2] at H
    have c2b0:decide (B<(l0.length:Int))=true:=decide_eq_true c2
    clear c2
    by_cases c3:0≤B
    ·rw[if_pos c3] at H
     have c3b0:decide (0≤B)=true:=decide_eq_true c3
     clear c3
     by_cases c4:B<(l0.length:Int)
     ·rw[if_pos c4] at H
      have c4b0:decide (B<(l0.length:Int))=true:=decide_eq_true c4
      clear c4
      by_cases c5:(rd l0 B)=0
      ·rw[if_pos c5] at H
       have c5b0:((rd l0 B)==0)=true:=beq_iff_eq.mpr c5
       have c5b1:((rd l0 B) != 0)=false:=bne_eq_false_iff_eq.mpr c5
       clear c5
       have H':=Aside0.mk H
       clear H
       have J:0≤(B:Int):=of_decide_eq_true (by first|(with_reducible assumption)|assumption)
       have L:B<(l0.length:Int):=of_decide_eq_true (by first|(with_reducible assumption)|assumption)
       obtain⟨Y,O,X⟩:=Kd.Yk ψ.out B J L
       cases O
       replace J:=eq_true J
       replace L:=eq_true L
       go_wp2
       go_roundg k1
       case measure=>have:=az.out;omega
       case rel=>exact⟨(wrap64 (B+1)),qR,H',⟨by have:=az.out;omega⟩,by repeat(first|exact Drawn0.refl _|apply Drawn0.step)⟩
      ·rw[if_neg c5] at H
       have c5b0:((rd l0 B)==0)=false:=beq_eq_false_iff_ne.mpr c5
       have c5b1:((rd l0 B) != 0)=true:=bne_iff_ne.mpr c5
       obtain rfl:=Option.some.inj H
       have J:0≤(B:Int):=of_decide_eq_true (by first|(with_reducible assumption)|assumption)
       have L:B<(l0.length:Int):=of_decide_eq_true (by first|(with_reducible assumption)|assumption)
       obtain⟨Y,O,X⟩:=Kd.Yk ψ.out B J L
       cases O
       replace J:=eq_true J
       replace L:=eq_true L
       go_wp2
       go_ret
       exact⟨qR,by repeat(first|exact Drawn0.refl _|apply Drawn0.step)⟩
     ·rw[if_neg c4] at H
      exact absurd H (by simp)
    ·rw[if_neg c3] at H
     exact absurd H (by simp)
   ·rw[if_neg c2] at H
    have c2b0:decide (B<(l0.length:Int))=false:=decide_eq_false c2
    clear c2
    obtain rfl:=Option.some.inj H
    go_wp2
    go_ret
    exact⟨qR,by repeat(first|exact Drawn0.refl _|apply Drawn0.step)⟩
def cmp_isNaN_int.f (J:Int):Option (Bool):=some (J != J)
set_option maxHeartbeats 8000000 in
set_option maxRecDepth 100000 in
theorem cmp_isNaN_int.calls (J:Int) (r:Bool) (w:World) (h:cmp_isNaN_int.f J=some r):
  Calls Try.prog 94 #[.int .i64 J] w fun e w'=>e = .returned (.bool r)∧Drawn0 w w':=by
 have H:(some (J != J))=some r:=h
 clear h
 obtain rfl:=Option.some.inj H
 go_enter Try.func94,Try.ntmps94
 go_wp2
 go_ret
 exact⟨qR,by repeat(first|exact Drawn0.refl _|apply Drawn0.step)⟩
def cmp_Compare_int.f (J:Int) (Z:Int):Option (Int):=(cmp_isNaN_int.f J).bind fun B=>((cmp_isNaN_int.f Z).bind fun ζ =>(if B=true then (if ζ = true then (some 0) else (some (-1))) else (if ζ = true then (some 1) else (if J<Z then (some (-1)) else (if J>Z then (some 1) else (some 0))))))
set_option maxHeartbeats 8000000 in
set_option maxRecDepth 100000 in
theorem cmp_Compare_int.calls (J:Int) (Z:Int) (r:Int) (w:World) (h:cmp_Compare_int.f J Z=some r):
  Calls Try.prog 81 #[.int .i64 J,.int .i64 Z] w fun e w'=>e = .returned (.int .i64 r)∧Drawn0 w w':=by
 have H:((cmp_isNaN_int.f J).bind fun B=>((cmp_isNaN_int.f Z).bind fun ζ =>(if B=true then (if ζ = true then (some 0) else (some (-1))) else (if ζ = true then (some 1) else (if J<Z then (some (-1)) else (if J>Z then (some 1) else (some 0)))))))=some r:=h
 clear h
 replace H:=Option.bind_eq_some_iff.mp H
 obtain⟨B,ab,H⟩:=H
 replace H:((cmp_isNaN_int.f Z).bind fun ζ =>(if B=true then (if ζ = true then (some 0) else (some (-1))) else (if ζ = true then (some 1) else (if J<Z then (some (-1)) else (if J>Z then (some 1) else (some 0))))))=some r:=H
 have A3:=Aside0.mk ab
 clear ab
 replace H:=Option.bind_eq_some_iff.mp H
 obtain⟨ζ,br,H⟩:=H
 replace H:(if B=true then (if ζ = true then (some 0) else (some (-1))) else (if ζ = true then (some 1) else (if J<Z then (some (-1)) else (if J>Z then (some 1) else (some 0)))))=some r:=H
 have A4:=Aside0.mk br
 clear br
 by_cases c5:B=true
 ·subst c5
  have H1:(if ζ = true then (some 0) else (some (-1)))=some r:=by rw[if_pos rfl] at H;exact H
  clear H
  have H:=H1
  clear H1
  by_cases c6: ζ = true
  ·subst c6
   have H1:(some 0)=some r:=by rw[if_pos rfl] at H;exact H
   clear H
   have H:=H1
   clear H1
   obtain rfl:=Option.some.inj H
   go_enter Try.func81,Try.ntmps81
   go_wp2_with (first|((with_reducible refine Qt (f:=94) rfl ?_);refine Q7 (some 8) rfl rfl Try.func94 kr rfl #[.int .i64 J] rfl (by(try simp only[List.map_toArray,List.map_cons,List.map_nil]);first|done|rfl|(simp only[List.length_drop,List.length_take];rfl)) ?_;(with_reducible refine(cmp_isNaN_int.calls J true _ A3.out).mono ?_);rintro e w' ⟨rfl,⟨nd,rfl⟩⟩;refine⟨_,rfl, ?_⟩)|((with_reducible refine Qt (f:=94) rfl ?_);refine Q7 (some 10) rfl rfl Try.func94 kr rfl #[.int .i64 Z] rfl (by(try simp only[List.map_toArray,List.map_cons,List.map_nil]);first|done|rfl|(simp only[List.length_drop,List.length_take];rfl)) ?_;(with_reducible refine(cmp_isNaN_int.calls Z true _ A4.out).mono ?_);rintro e w' ⟨rfl,⟨nd,rfl⟩⟩;refine⟨_,rfl, ?_⟩))
   go_ret
   exact⟨qR,by repeat(first|exact Drawn0.refl _|apply Drawn0.step)⟩
  ·replace c6:=Bool.eq_false_iff.mpr c6
   subst c6
   have H1:(some (-1))=some r:=by rw[if_neg (show ¬ (false=true) by decide)] at H;exact H
   clear H
   have H:=H1
   clear H1
   obtain rfl:=Option.some.inj H
   go_enter Try.func81,Try.ntmps81
   go_wp2_with (first|((with_reducible refine Qt (f:=94) rfl ?_);refine Q7 (some 8) rfl rfl Try.func94 kr rfl #[.int .i64 J] rfl (by(try simp only[List.map_toArray,List.map_cons,List.map_nil]);first|done|rfl|(simp only[List.length_drop,List.length_take];rfl)) ?_;(with_reducible refine(cmp_isNaN_int.calls J true _ A3.out).mono ?_);rintro e w' ⟨rfl,⟨nd,rfl⟩⟩;refine⟨_,rfl, ?_⟩)|((with_reducible refine Qt (f:=94) rfl ?_);refine Q7 (some 10) rfl rfl Try.func94 kr rfl #[.int .i64 Z] rfl (by(try simp only[List.map_toArray,List.map_cons,List.map_nil]);first|done|rfl|(simp only[List.length_drop,List.length_take];rfl)) ?_;(with_reducible refine(cmp_isNaN_int.calls Z false _ A4.out).mono ?_);rintro e w' ⟨rfl,⟨nd,rfl⟩⟩;refine⟨_,rfl, ?_⟩))
   go_ret
   exact⟨qR,by repeat(first|exact Drawn0.refl _|apply Drawn0.step)⟩
 ·replace c5:=Bool.eq_false_iff.mpr c5
  subst c5
  have H1:(if ζ = true then (some 1) else (if J<Z then (some (-1)) else (if J>Z then (some 1) else (some 0))))=some r:=by rw[if_neg (show ¬ (false=true) by decide)] at H;exact H
  clear H
  have H:=H1
  clear H1
  by_cases c7: ζ = true
  ·subst c7
   have H1:(some 1)=some r:=by rw[if_pos rfl] at H;exact H
   clear H
   have H:=H1
   clear H1
   obtain rfl:=Option.some.inj H
   go_enter Try.func81,Try.ntmps81
   go_wp2_with (first|((with_reducible refine Qt (f:=94) rfl ?_);refine Q7 (some 8) rfl rfl Try.func94 kr rfl #[.int .i64 J] rfl (by(try simp only[List.map_toArray,List.map_cons,List.map_nil]);first|done|rfl|(simp only[List.length_drop,List.length_take];rfl)) ?_;(with_reducible refine(cmp_isNaN_int.calls J false _ A3.out).mono ?_);rintro e w' ⟨rfl,⟨nd,rfl⟩⟩;refine⟨_,rfl, ?_⟩)|((with_reducible refine Qt (f:=94) rfl ?_);refine Q7 (some 10) rfl rfl Try.func94 kr rfl #[.int .i64 Z] rfl (by(try simp only[List.map_toArray,List.map_cons,List.map_nil]);first|done|rfl|(simp only[List.length_drop,List.length_take];rfl)) ?_;(with_reducible refine(cmp_isNaN_int.calls Z true _ A4.out).mono ?_);rintro e w' ⟨rfl,⟨nd,rfl⟩⟩;refine⟨_,rfl, ?_⟩))
   go_ret
   exact⟨qR,by repeat(first|exact Drawn0.refl _|apply Drawn0.step)⟩
  ·replace c7:=Bool.eq_false_iff.mpr c7
   subst c7
   have H1:(if J<Z then (some (-1)) else (if J>Z then (some 1) else (some 0)))=some r:=by rw[if_neg (show ¬ (false=true) by decide)] at H;exact H
   clear H
   have H:=H1
   clear H1
   by_cases c8:J<Z
   ·rw[if_pos c8] at H
    have c8b0:decide (J<Z)=true:=decide_eq_true c8
    clear c8
    obtain rfl:=Option.some.inj H
    go_enter Try.func81,Try.ntmps81
    go_wp2_with (first|((with_reducible refine Qt (f:=94) rfl ?_);refine Q7 (some 8) rfl rfl Try.func94 kr rfl #[.int .i64 J] rfl (by(try simp only[List.map_toArray,List.map_cons,List.map_nil]);first|done|rfl|(simp only[List.length_drop,List.length_take];rfl)) ?_;(with_reducible refine(cmp_isNaN_int.calls J false _ A3.out).mono ?_);rintro e w' ⟨rfl,⟨nd,rfl⟩⟩;refine⟨_,rfl, ?_⟩)|((with_reducible refine Qt (f:=94) rfl ?_);refine Q7 (some 10) rfl rfl Try.func94 kr rfl #[.int .i64 Z] rfl (by(try simp only[List.map_toArray,List.map_cons,List.map_nil]);first|done|rfl|(simp only[List.length_drop,List.length_take];rfl)) ?_;(with_reducible refine(cmp_isNaN_int.calls Z false _ A4.out).mono ?_);rintro e w' ⟨rfl,⟨nd,rfl⟩⟩;refine⟨_,rfl, ?_⟩))
    go_ret
    exact⟨qR,by repeat(first|exact Drawn0.refl _|apply Drawn0.step)⟩
   ·rw[if_neg c8] at H
    have c8b0:decide (J<Z)=false:=decide_eq_false c8
    clear c8
    by_cases c9:J>Z
    ·rw[if_pos c9] at H
     have c9b0:decide (Z<J)=true:=decide_eq_true c9
     clear c9
     obtain rfl:=Option.some.inj H
     go_enter Try.func81,Try.ntmps81
     go_wp2_with (first|((with_reducible refine Qt (f:=94) rfl ?_);refine Q7 (some 8) rfl rfl Try.func94 kr rfl #[.int .i64 J] rfl (by(try simp only[List.map_toArray,List.map_cons,List.map_nil]);first|done|rfl|(simp only[List.length_drop,List.length_take];rfl)) ?_;(with_reducible refine(cmp_isNaN_int.calls J false _ A3.out).mono ?_);rintro e w' ⟨rfl,⟨nd,rfl⟩⟩;refine⟨_,rfl, ?_⟩)|((with_reducible refine Qt (f:=94) rfl ?_);refine Q7 (some 10) rfl rfl Try.func94 kr rfl #[.int .i64 Z] rfl (by(try simp only[List.map_toArray,List.map_cons,List.map_nil]);first|done|rfl|(simp only[List.length_drop,List.length_take];rfl)) ?_;(with_reducible refine(cmp_isNaN_int.calls Z false _ A4.out).mono ?_);rintro e w' ⟨rfl,⟨nd,rfl⟩⟩;refine⟨_,rfl, ?_⟩))
     go_ret
     exact⟨qR,by repeat(first|exact Drawn0.refl _|apply Drawn0.step)⟩
    ·rw[if_neg c9] at H
     have c9b0:decide (Z<J)=false:=decide_eq_false c9
     clear c9
     obtain rfl:=Option.some.inj H
     go_enter Try.func81,Try.ntmps81
     go_wp2_with (first|((with_reducible refine Qt (f:=94) rfl ?_);refine Q7 (some 8) rfl rfl Try.func94 kr rfl #[.int .i64 J] rfl (by(try simp only[List.map_toArray,List.map_cons,List.map_nil]);first|done|rfl|(simp only[List.length_drop,List.length_take];rfl)) ?_;(with_reducible refine(cmp_isNaN_int.calls J false _ A3.out).mono ?_);rintro e w' ⟨rfl,⟨nd,rfl⟩⟩;refine⟨_,rfl, ?_⟩)|((with_reducible refine Qt (f:=94) rfl ?_);refine Q7 (some 10) rfl rfl Try.func94 kr rfl #[.int .i64 Z] rfl (by(try simp only[List.map_toArray,List.map_cons,List.map_nil]);first|done|rfl|(simp only[List.length_drop,List.length_take];rfl)) ?_;(with_reducible refine(cmp_isNaN_int.calls Z false _ A4.out).mono ?_);rintro e w' ⟨rfl,⟨nd,rfl⟩⟩;refine⟨_,rfl, ?_⟩))
     go_ret
     exact⟨qR,by repeat(first|exact Drawn0.refl _|apply Drawn0.step)⟩
def call_halls_1.f (k:Nat) (J:Int) (B:Int) (Y:Int) (μ :Int) (η :Int) (ν :Int):Option (Int):=(cmp_Compare_int.f J μ).bind fun a1=>((cmp_Compare_int.f B η).bind fun a9=>((cmp_Or_int.f k (([a1,a9]:List Int))).bind fun Z=>(some Z)))
def call_halls_1.T1:Bool×List (List Nat×List Nat):=(true,[([],[]),([0],[0]),([],[]),([2],[2]),([1,3],[1,3]),([],[]),([5],[5]),([],[]),([7],[7]),([6,8,4],[6,8]),([4,9],[4,9]),([10,9],[10]),([11,11,0,1,2,3,4,5,6,7,8,9,10,11],[11])])
def call_halls_1.B1:List Nat:=[0,1,0,4,15,0,32,0,128,511,1023,2047,4095]
theorem call_halls_1.Kq:rtab .any (opsOf Try.f79 1)=call_halls_1.T1:=by kernel_rfl
theorem call_halls_1.Y9:Z3 call_halls_1.T1.2 call_halls_1.B1=true:=by kernel_rfl
set_option maxHeartbeats 8000000 in
set_option maxRecDepth 100000 in
theorem call_halls_1.calls (k:Nat) (J:Int) (B:Int) (Y:Int) (μ :Int) (η :Int) (ν :Int) (r:Int) (w:World) (h:call_halls_1.f k J B Y μ η ν = some r):
  Calls Try.prog 79 #[.agg #[.int .i64 J,.int .i64 B,.int .i64 Y],.agg #[.int .i64 μ,.int .i64 η,.int .i64 ν]] w fun e w'=>e = .returned (.int .i64 r)∧Below w.heap.size w w':=by
 have da:=Try.underlying36
 have HB:=Aside0.mk (Below.refl w.heap.size w)
 have H:((cmp_Compare_int.f J μ).bind fun a1=>((cmp_Compare_int.f B η).bind fun a9=>((cmp_Or_int.f k (([a1,a9]:List Int))).bind fun Z=>(some Z))))=some r:=h
 clear h
 replace H:=Option.bind_eq_some_iff.mp H
 obtain⟨a1,ab,H⟩:=H
 replace H:((cmp_Compare_int.f B η).bind fun a9=>((cmp_Or_int.f k (([a1,a9]:List Int))).bind fun Z=>(some Z)))=some r:=H
 have A3:=Aside0.mk ab
 clear ab
 replace H:=Option.bind_eq_some_iff.mp H
 obtain⟨a9,br,H⟩:=H
 replace H:((cmp_Or_int.f k (([a1,a9]:List Int))).bind fun Z=>(some Z))=some r:=H
 have A4:=Aside0.mk br
 clear br
 obtain⟨a3,a2⟩:∃ y_:List Int,y_=(([a1,a9]:List Int)):=⟨_,rfl⟩
 replace H:((cmp_Or_int.f k a3).bind fun Z=>(some Z))=some r:=by first|(rw[a2];with_reducible exact H)|(have ax:=(Option.bind_some _ _).symm.trans H;rw[a2];with_reducible exact ax)|(have ax:=(Option.bind_some _ _).symm.trans H;with_reducible exact ax)|with_reducible exact H|(rw[a2];exact H)|exact H
 have a4:=Aside0.mk a2
 clear a2
 replace H:=Option.bind_eq_some_iff.mp H
 obtain⟨Z,bu,H⟩:=H
 replace H:(some Z)=some r:=H
 have A5:=Aside0.mk bu
 clear bu
 obtain rfl:=Option.some.inj H
 go_enter Try.func79,Try.ntmps79
 try go_wp2_with (first|((with_reducible refine Qr (N:=2) rfl ?_);refine Qq ?hg (N:=2) ?hd (cs:=#[.int .i64 J,.int .i64 B,.int .i64 Y]) (t:=36) ?hr ?_;(case hd=>rfl);(case hg=>rfl);(case hr=>first|(go_simp;done)|(go_simp;rfl));intro ψ hg w6 hbox hb;have L:=Aside0.mk (Qj (by repeat(first|(with_reducible first|exact HB.out|apply Qg|apply Qd|apply Qf)|exact HB.out)) hb);have O:=Aside0.mk (hbox);have X:=Aside0.mk ((by rw[hg];exact(Qi (by repeat(first|(with_reducible first|exact HB.out|apply Qg|apply Qd|apply Qf)|exact HB.out))):w.heap.size ≤ ψ));have δ :=Aside0.mk ((by rw[hg];exact(Qi (by repeat(first|(with_reducible first|exact HB.out|apply Qg|apply Qd|apply Qf)|exact HB.out))):w.heap.size ≤ ψ));clear HB;have HB:=L;have ζ :=O;have cd:=X;have a8:= δ;clear L O X δ;clear hb hbox hg)|((with_reducible refine Qr (N:=3) rfl ?_);refine Qq ?hg (N:=3) ?hd (cs:=#[.int .i64 μ,.int .i64 η,.int .i64 ν]) (t:=36) ?hr ?_;(case hd=>rfl);(case hg=>rfl);(case hr=>first|(go_simp;done)|(go_simp;rfl));intro τ hg w7 hbox hb;have L:=Aside0.mk (Qh (g:= ψ) (o:=.cells #[.int .i64 J,.int .i64 B,.int .i64 Y] 36 (0,0)) (by(with_reducible repeat first|apply Qb|apply Qe|apply Qc);exact ζ.out) hb);have O:=Aside0.mk (Qj (by repeat(first|(with_reducible first|exact HB.out|apply Qg|apply Qd|apply Qf|refine Qa ?_ a8.out)|exact HB.out)) hb);have X:=Aside0.mk (hbox);have δ :=Aside0.mk ((by rw[hg];exact(Qi (by repeat(first|(with_reducible first|exact HB.out|apply Qg|apply Qd|apply Qf|refine Qa ?_ a8.out)|exact HB.out))):w.heap.size ≤ τ));have ξ :=Aside0.mk ((by rw[hg];exact(Qi (by repeat(first|(with_reducible first|exact HB.out|apply Qg|apply Qd|apply Qf|refine Qa ?_ a8.out)|exact HB.out))):w.heap.size ≤ τ));have φ :=Aside0.mk ((by rw[hg];exact Nat.ne_of_lt (Qp (g:= ψ) (o:=.cells #[.int .i64 J,.int .i64 B,.int .i64 Y] 36 (0,0)) (by(with_reducible repeat first|apply Qb|apply Qe|apply Qc);exact ζ.out)): ψ ≠ τ));have ω :=Aside0.mk ((by rw[hg];exact Nat.ne_of_gt (Qp (g:= ψ) (o:=.cells #[.int .i64 J,.int .i64 B,.int .i64 Y] 36 (0,0)) (by(with_reducible repeat first|apply Qb|apply Qe|apply Qc);exact ζ.out)): τ ≠ ψ));clear ζ;clear HB;have ζ :=L;have HB:=O;have ρ:=X;have ce:= δ;have aa:= ξ;have am:= φ;have aw:= ω;clear L O X δ ξ φ ω;clear hb hbox hg))
 have L:=Aside0.mk (Qe ζ.out)
 have O:=Aside0.mk (Qe ρ.out)
 have X:=Aside0.mk (Qf HB.out)
 clear ζ
 clear ρ
 clear HB
 have ζ :=L
 have ρ:=O
 have HB:=X
 clear L O X
 refine Zv (n:=13) (S:=fun w'=>w'.cell? ⟨ψ,0,none⟩=some (.int .i64 J)∧w'.cell? ⟨ψ,1,none⟩=some (.int .i64 B)∧w'.cell? ⟨ψ,2,none⟩=some (.int .i64 Y)∧w'.cell? ⟨τ,0,none⟩=some (.int .i64 μ)∧w'.cell? ⟨τ,1,none⟩=some (.int .i64 η)∧w'.cell? ⟨τ,2,none⟩=some (.int .i64 ν)) (ds:=[]) #[false,false,false,false,false,false,false,false,false,false,false,false,false] kr rfl rfl ⟨(Qk ζ.out 0).trans rfl,(Qk ζ.out 1).trans rfl,(Qk ζ.out 2).trans rfl,(Qk ρ.out 0).trans rfl,(Qk ρ.out 1).trans rfl,(Qk ρ.out 2).trans rfl⟩ (fun hHeld=>?_);refine Zf call_halls_1.Kq call_halls_1.Y9 (fun HT_ HW_=>?_)
 generalize w7.drew=w8 at ζ ρ HB hHeld ⊢
 refine qP 0 (some 5) (qB 13 1) HT_ ?_
 refine qP 2 (some 7) (qB 13 5) HT_ ?_
 refine qP 5 (some 10) (qB 13 37) HT_ ?_
 refine qP 7 (some 12) (qB 13 165) HT_ ?_
 refine qT 1 (some 6) (qB 13 167) HT_ HW_ hHeld ?_
 refine qT 3 (some 8) (qB 13 175) HT_ HW_ hHeld ?_
 refine qT 6 (some 11) (qB 13 239) HT_ HW_ hHeld ?_
 refine qT 8 (some 13) (qB 13 495) HT_ HW_ hHeld ?_
 refine Zn (i:=4) (N:=some 9) #[true,true,true,true,true,true,true,true,true,false,false,false,false] rfl rfl (Zc HT_.out kr) (by decide) (fun K hK=>?_)
 refine Zm Try.func81 kr rfl #[.int .i64 J,.int .i64 μ] (by rfl) rfl rfl (by(try simp only[List.map_toArray,List.map_cons,List.map_nil]);first|done|rfl|(simp only[List.length_drop,List.length_take];rfl)) ?_
 with_reducible refine(cmp_Compare_int.calls J μ a1 _ A3.out).mono ?_
 rintro e w' ⟨rfl,⟨nd,rfl⟩⟩
 refine⟨_,rfl, ?_⟩
 refine hK.out _ _ ⟨qc ζ,qc ζ,qc ζ,qc ρ,qc ρ,qc ρ⟩ (fun hHeld=>?_)
 clear hK K
 refine qN (some 9) ?_
 refine Zn (i:=9) (N:=some 14) #[true,true,true,true,true,true,true,true,true,true,false,false,false] rfl rfl (Zc HT_.out kr) (by decide) (fun K hK=>?_)
 refine Zm Try.func81 kr rfl #[.int .i64 B,.int .i64 η] (by rfl) rfl rfl (by(try simp only[List.map_toArray,List.map_cons,List.map_nil]);first|done|rfl|(simp only[List.length_drop,List.length_take];rfl)) ?_
 with_reducible refine(cmp_Compare_int.calls B η a9 _ A4.out).mono ?_
 rintro e w' ⟨rfl,⟨nd,rfl⟩⟩
 refine⟨_,rfl, ?_⟩
 refine hK.out _ _ ⟨qc ζ,qc ζ,qc ζ,qc ρ,qc ρ,qc ρ⟩ (fun hHeld=>?_)
 clear hK K
 refine qN (some 14) ?_
 refine Zn (i:=10) (N:=some 15) #[true,true,true,true,true,true,true,true,true,true,true,false,false] rfl rfl (Zc HT_.out kr) (by decide) (fun K hK=>?_)
 refine Kd.Xc (Kd.int .i64) _ 3 ?hg (N:=15) ?hd (xs:=([a1,a9]:List Int)) (inner:=[.int .i64 a1,.int .i64 a9]) (ok:=fun _=>True) (okp:=fun _=>True) ?hr ?hp (fun _ hk=>hk) trivial (Below.refl _ _) (Nat.le_refl _) (by simp) ?_;(case hd=>rfl);(case hg=>rfl);(case hr=>first|(go_simp;done)|(go_simp;rfl));(case hp=>exact(Reps.one (show Kd.M (Kd.int .i64) _ _ _ a1 [.int .i64 a1] from rfl) (Reps.one (show Kd.M (Kd.int .i64) _ _ _ a9 [.int .i64 a9] from rfl) (Reps.none _ _))))
 intro ε w9 θ hb hg_ hnew_
 clear hg_ hnew_
 (first|rw[← a4.out] at θ |(simp only[Int.reduceToNat] at θ;rw[← a4.out] at θ))
 have L:=Aside0.mk (Kd.Zg θ (Qi (by repeat(first|(with_reducible first|exact HB.out|apply Qg|apply Qd|apply Qf|refine Qa ?_ a8.out|refine Qa ?_ aa.out)|exact HB.out))))
 have O:=Aside0.mk (Qh (g:= ψ) (o:=.cells #[.int .i64 J,.int .i64 B,.int .i64 Y] 36 (0,0)) (by(with_reducible repeat first|apply Qb|apply Qe|apply Qc);exact ζ.out) hb)
 have X:=Aside0.mk (Qh (g:= τ) (o:=.cells #[.int .i64 μ,.int .i64 η,.int .i64 ν] 36 (0,0)) (by(with_reducible repeat first|apply Qb|apply Qe|apply Qc);exact ρ.out) hb)
 have δ :=Aside0.mk (Qj (by repeat(first|(with_reducible first|exact HB.out|apply Qg|apply Qd|apply Qf|refine Qa ?_ a8.out|refine Qa ?_ aa.out)|exact HB.out)) hb)
 clear ζ
 clear ρ
 clear HB
 have γ:=L
 have ζ :=O
 have ρ:=X
 have HB:= δ
 clear L O X δ
 clear hb θ
 obtain⟨a0,a5,χ⟩:=Kd.Ze γ.out
 (first|subst χ |(injection χ with b5 bo b6;have bp:=b5.symm;have bq:=b6.symm;clear b5 bo b6;subst bp;subst bq))
 refine hK.out _ _ ⟨qc ζ,qc ζ,qc ζ,qc ρ,qc ρ,qc ρ⟩ (fun hHeld=>?_)
 clear hK K
 refine qN (some 15) ?_
 refine Zn (i:=11) (N:=some 16) #[true,true,true,true,true,true,true,true,true,true,true,true,false] rfl rfl (Zc HT_.out kr) (by decide) (fun K hK=>?_)
 refine Zm Try.func80 kr rfl #[.slice a0 a3.length a5] (by rfl) rfl rfl (by(try simp only[List.map_toArray,List.map_cons,List.map_nil]);first|done|rfl|(simp only[List.length_drop,List.length_take];rfl)) ?_
 with_reducible refine(cmp_Or_int.calls k _ _ a3 Z _ ?side1 ?side2 A5.out).mono ?_
 (case side1=>repeat(first|exact(Kd.Q4 γ.out).2.2|(with_reducible refine Kd.Q3 ?_ _)|(with_reducible refine Kd.Q2 ?_ _)|(with_reducible refine Kd.Q9 ?_)))
 (case side2=>exact(Kd.Q4 γ.out).2.1)
 rintro e w' ⟨rfl,⟨nd,rfl⟩⟩
 refine⟨_,rfl, ?_⟩
 refine hK.out _ _ ⟨qc ζ,qc ζ,qc ζ,qc ρ,qc ρ,qc ρ⟩ (fun hHeld=>?_)
 clear hK K
 refine qN (some 16) ?_
 refine qP 12 (some 4) (qB 13 8191) HT_ ?_
 refine Xd (Zu HT_.out kr) ?_
 try go_wp2
 go_ret
 exact⟨by first|rfl|(simp[Qo,Qn] <;> rfl)|(simp[*,Qo,Qn] <;> rfl),by repeat(first|(with_reducible first|exact HB.out|apply Qg|apply Qd|apply Qf|refine Qa ?_ a8.out|refine Qa ?_ aa.out)|exact HB.out)⟩
def call_ins_1.f (k:Nat) (J:Int) (B:Int) (μ :Int) (η :Int):Option (Int):=(cmp_Compare_int.f J μ).bind fun ζ =>((cmp_Compare_int.f B η).bind fun κ =>((cmp_Or_int.f k (([ζ,κ]:List Int))).bind fun Z=>(some Z)))
def call_ins_1.T1:Bool×List (List Nat×List Nat):=(true,[([],[]),([0],[0]),([],[]),([2],[2]),([1,3],[1,3]),([],[]),([5],[5]),([],[]),([7],[7]),([6,8,4],[6,8]),([4,9],[4,9]),([10,9],[10]),([11,11,0,1,2,3,4,5,6,7,8,9,10,11],[11])])
def call_ins_1.B1:List Nat:=[0,1,0,4,15,0,32,0,128,511,1023,2047,4095]
theorem call_ins_1.Kq:rtab .any (opsOf Try.f83 1)=call_ins_1.T1:=by kernel_rfl
theorem call_ins_1.Y9:Z3 call_ins_1.T1.2 call_ins_1.B1=true:=by kernel_rfl
set_option maxHeartbeats 8000000 in
set_option maxRecDepth 100000 in
theorem call_ins_1.calls (k:Nat) (J:Int) (B:Int) (μ :Int) (η :Int) (r:Int) (w:World) (h:call_ins_1.f k J B μ η = some r):
  Calls Try.prog 83 #[.agg #[.int .i64 J,.int .i64 B],.agg #[.int .i64 μ,.int .i64 η]] w fun e w'=>e = .returned (.int .i64 r)∧Below w.heap.size w w':=by
 have ea:=Try.underlying86
 have HB:=Aside0.mk (Below.refl w.heap.size w)
 have H:((cmp_Compare_int.f J μ).bind fun ζ =>((cmp_Compare_int.f B η).bind fun κ =>((cmp_Or_int.f k (([ζ,κ]:List Int))).bind fun Z=>(some Z))))=some r:=h
 clear h
 replace H:=Option.bind_eq_some_iff.mp H
 obtain⟨ζ,ab,H⟩:=H
 replace H:((cmp_Compare_int.f B η).bind fun κ =>((cmp_Or_int.f k (([ζ,κ]:List Int))).bind fun Z=>(some Z)))=some r:=H
 have A3:=Aside0.mk ab
 clear ab
 replace H:=Option.bind_eq_some_iff.mp H
 obtain⟨κ,br,H⟩:=H
 replace H:((cmp_Or_int.f k (([ζ,κ]:List Int))).bind fun Z=>(some Z))=some r:=H
 have A4:=Aside0.mk br
 clear br
 obtain⟨ι,ρ⟩:∃ y_:List Int,y_=(([ζ,κ]:List Int)):=⟨_,rfl⟩
 replace H:((cmp_Or_int.f k ι).bind fun Z=>(some Z))=some r:=by first|(rw[ρ];with_reducible exact H)|(have ax:=(Option.bind_some _ _).symm.trans H;rw[ρ];with_reducible exact ax)|(have ax:=(Option.bind_some _ _).symm.trans H;with_reducible exact ax)|with_reducible exact H|(rw[ρ];exact H)|exact H
 have ψ :=Aside0.mk ρ
 clear ρ
 replace H:=Option.bind_eq_some_iff.mp H
 obtain⟨Z,bu,H⟩:=H
 replace H:(some Z)=some r:=H
 have A5:=Aside0.mk bu
 clear bu
 obtain rfl:=Option.some.inj H
 go_enter Try.func83,Try.ntmps83
 try go_wp2_with (first|((with_reducible refine Qr (N:=2) rfl ?_);refine Qq ?hg (N:=2) ?hd (cs:=#[.int .i64 J,.int .i64 B]) (t:=86) ?hr ?_;(case hd=>rfl);(case hg=>rfl);(case hr=>first|(go_simp;done)|(go_simp;rfl));intro ε hg w6 hbox hb;have L:=Aside0.mk (Qj (by repeat(first|(with_reducible first|exact HB.out|apply Qg|apply Qd|apply Qf)|exact HB.out)) hb);have O:=Aside0.mk (hbox);have X:=Aside0.mk ((by rw[hg];exact(Qi (by repeat(first|(with_reducible first|exact HB.out|apply Qg|apply Qd|apply Qf)|exact HB.out))):w.heap.size ≤ ε));have δ :=Aside0.mk ((by rw[hg];exact(Qi (by repeat(first|(with_reducible first|exact HB.out|apply Qg|apply Qd|apply Qf)|exact HB.out))):w.heap.size ≤ ε));clear HB;have HB:=L;have γ:=O;have ah:=X;have ν := δ;clear L O X δ;clear hb hbox hg)|((with_reducible refine Qr (N:=3) rfl ?_);refine Qq ?hg (N:=3) ?hd (cs:=#[.int .i64 μ,.int .i64 η]) (t:=86) ?hr ?_;(case hd=>rfl);(case hg=>rfl);(case hr=>first|(go_simp;done)|(go_simp;rfl));intro σ hg w7 hbox hb;have L:=Aside0.mk (Qh (g:= ε) (o:=.cells #[.int .i64 J,.int .i64 B] 86 (0,0)) (by(with_reducible repeat first|apply Qb|apply Qe|apply Qc);exact γ.out) hb);have O:=Aside0.mk (Qj (by repeat(first|(with_reducible first|exact HB.out|apply Qg|apply Qd|apply Qf|refine Qa ?_ ν.out)|exact HB.out)) hb);have X:=Aside0.mk (hbox);have δ :=Aside0.mk ((by rw[hg];exact(Qi (by repeat(first|(with_reducible first|exact HB.out|apply Qg|apply Qd|apply Qf|refine Qa ?_ ν.out)|exact HB.out))):w.heap.size≤σ));have ξ :=Aside0.mk ((by rw[hg];exact(Qi (by repeat(first|(with_reducible first|exact HB.out|apply Qg|apply Qd|apply Qf|refine Qa ?_ ν.out)|exact HB.out))):w.heap.size≤σ));have φ :=Aside0.mk ((by rw[hg];exact Nat.ne_of_lt (Qp (g:= ε) (o:=.cells #[.int .i64 J,.int .i64 B] 86 (0,0)) (by(with_reducible repeat first|apply Qb|apply Qe|apply Qc);exact γ.out)): ε ≠ σ));have ω :=Aside0.mk ((by rw[hg];exact Nat.ne_of_gt (Qp (g:= ε) (o:=.cells #[.int .i64 J,.int .i64 B] 86 (0,0)) (by(with_reducible repeat first|apply Qb|apply Qe|apply Qc);exact γ.out)):σ ≠ ε));clear γ;clear HB;have γ:=L;have HB:=O;have Y:=X;have a4:= δ;have a1:= ξ;have a2:= φ;have a3:= ω;clear L O X δ ξ φ ω;clear hb hbox hg))
 have L:=Aside0.mk (Qe γ.out)
 have O:=Aside0.mk (Qe Y.out)
 have X:=Aside0.mk (Qf HB.out)
 clear γ
 clear Y
 clear HB
 have γ:=L
 have Y:=O
 have HB:=X
 clear L O X
 refine Zv (n:=13) (S:=fun w'=>w'.cell? ⟨ε,0,none⟩=some (.int .i64 J)∧w'.cell? ⟨ε,1,none⟩=some (.int .i64 B)∧w'.cell? ⟨σ,0,none⟩=some (.int .i64 μ)∧w'.cell? ⟨σ,1,none⟩=some (.int .i64 η)) (ds:=[]) #[false,false,false,false,false,false,false,false,false,false,false,false,false] kr rfl rfl ⟨(Qk γ.out 0).trans rfl,(Qk γ.out 1).trans rfl,(Qk Y.out 0).trans rfl,(Qk Y.out 1).trans rfl⟩ (fun hHeld=>?_);refine Zf call_ins_1.Kq call_ins_1.Y9 (fun HT_ HW_=>?_)
 generalize w7.drew=w8 at γ Y HB hHeld ⊢
 refine qP 0 (some 5) (qB 13 1) HT_ ?_
 refine qP 2 (some 7) (qB 13 5) HT_ ?_
 refine qP 5 (some 10) (qB 13 37) HT_ ?_
 refine qP 7 (some 12) (qB 13 165) HT_ ?_
 refine qT 1 (some 6) (qB 13 167) HT_ HW_ hHeld ?_
 refine qT 3 (some 8) (qB 13 175) HT_ HW_ hHeld ?_
 refine qT 6 (some 11) (qB 13 239) HT_ HW_ hHeld ?_
 refine qT 8 (some 13) (qB 13 495) HT_ HW_ hHeld ?_
 refine Zn (i:=4) (N:=some 9) #[true,true,true,true,true,true,true,true,true,false,false,false,false] rfl rfl (Zc HT_.out kr) (by decide) (fun K hK=>?_)
 refine Zm Try.func81 kr rfl #[.int .i64 J,.int .i64 μ] (by rfl) rfl rfl (by(try simp only[List.map_toArray,List.map_cons,List.map_nil]);first|done|rfl|(simp only[List.length_drop,List.length_take];rfl)) ?_
 with_reducible refine(cmp_Compare_int.calls J μ ζ _ A3.out).mono ?_
 rintro e w' ⟨rfl,⟨nd,rfl⟩⟩
 refine⟨_,rfl, ?_⟩
 refine hK.out _ _ ⟨qc γ,qc γ,qc Y,qc Y⟩ (fun hHeld=>?_)
 clear hK K
 refine qN (some 9) ?_
 refine Zn (i:=9) (N:=some 14) #[true,true,true,true,true,true,true,true,true,true,false,false,false] rfl rfl (Zc HT_.out kr) (by decide) (fun K hK=>?_)
 refine Zm Try.func81 kr rfl #[.int .i64 B,.int .i64 η] (by rfl) rfl rfl (by(try simp only[List.map_toArray,List.map_cons,List.map_nil]);first|done|rfl|(simp only[List.length_drop,List.length_take];rfl)) ?_
 with_reducible refine(cmp_Compare_int.calls B η κ _ A4.out).mono ?_
 rintro e w' ⟨rfl,⟨nd,rfl⟩⟩
 refine⟨_,rfl, ?_⟩
 refine hK.out _ _ ⟨qc γ,qc γ,qc Y,qc Y⟩ (fun hHeld=>?_)
 clear hK K
 refine qN (some 14) ?_
 refine Zn (i:=10) (N:=some 15) #[true,true,true,true,true,true,true,true,true,true,true,false,false] rfl rfl (Zc HT_.out kr) (by decide) (fun K hK=>?_)
 refine Kd.Xc (Kd.int .i64) _ 3 ?hg (N:=15) ?hd (xs:=([ζ,κ]:List Int)) (inner:=[.int .i64 ζ,.int .i64 κ]) (ok:=fun _=>True) (okp:=fun _=>True) ?hr ?hp (fun _ hk=>hk) trivial (Below.refl _ _) (Nat.le_refl _) (by simp) ?_;(case hd=>rfl);(case hg=>rfl);(case hr=>first|(go_simp;done)|(go_simp;rfl));(case hp=>exact(Reps.one (show Kd.M (Kd.int .i64) _ _ _ ζ [.int .i64 ζ] from rfl) (Reps.one (show Kd.M (Kd.int .i64) _ _ _ κ [.int .i64 κ] from rfl) (Reps.none _ _))))
 intro ay w9 θ hb hg_ hnew_
 clear hg_ hnew_
 (first|rw[← ψ.out] at θ |(simp only[Int.reduceToNat] at θ;rw[← ψ.out] at θ))
 have L:=Aside0.mk (Kd.Zg θ (Qi (by repeat(first|(with_reducible first|exact HB.out|apply Qg|apply Qd|apply Qf|refine Qa ?_ ν.out|refine Qa ?_ a1.out)|exact HB.out))))
 have O:=Aside0.mk (Qh (g:= ε) (o:=.cells #[.int .i64 J,.int .i64 B] 86 (0,0)) (by(with_reducible repeat first|apply Qb|apply Qe|apply Qc);exact γ.out) hb)
 have X:=Aside0.mk (Qh (g:=σ) (o:=.cells #[.int .i64 μ,.int .i64 η] 86 (0,0)) (by(with_reducible repeat first|apply Qb|apply Qe|apply Qc);exact Y.out) hb)
 have δ :=Aside0.mk (Qj (by repeat(first|(with_reducible first|exact HB.out|apply Qg|apply Qd|apply Qf|refine Qa ?_ ν.out|refine Qa ?_ a1.out)|exact HB.out)) hb)
 clear γ
 clear Y
 clear HB
 have τ :=L
 have γ:=O
 have Y:=X
 have HB:= δ
 clear L O X δ
 clear hb θ
 obtain⟨a0,a5,χ⟩:=Kd.Ze τ.out
 (first|subst χ |(injection χ with b5 bo b6;have bp:=b5.symm;have bq:=b6.symm;clear b5 bo b6;subst bp;subst bq))
 refine hK.out _ _ ⟨qc γ,qc γ,qc Y,qc Y⟩ (fun hHeld=>?_)
 clear hK K
 refine qN (some 15) ?_
 refine Zn (i:=11) (N:=some 16) #[true,true,true,true,true,true,true,true,true,true,true,true,false] rfl rfl (Zc HT_.out kr) (by decide) (fun K hK=>?_)
 refine Zm Try.func80 kr rfl #[.slice a0 ι.length a5] (by rfl) rfl rfl (by(try simp only[List.map_toArray,List.map_cons,List.map_nil]);first|done|rfl|(simp only[List.length_drop,List.length_take];rfl)) ?_
 with_reducible refine(cmp_Or_int.calls k _ _ ι Z _ ?side1 ?side2 A5.out).mono ?_
 (case side1=>repeat(first|exact(Kd.Q4 τ.out).2.2|(with_reducible refine Kd.Q3 ?_ _)|(with_reducible refine Kd.Q2 ?_ _)|(with_reducible refine Kd.Q9 ?_)))
 (case side2=>exact(Kd.Q4 τ.out).2.1)
 rintro e w' ⟨rfl,⟨nd,rfl⟩⟩
 refine⟨_,rfl, ?_⟩
 refine hK.out _ _ ⟨qc γ,qc γ,qc Y,qc Y⟩ (fun hHeld=>?_)
 clear hK K
 refine qN (some 16) ?_
 refine qP 12 (some 4) (qB 13 8191) HT_ ?_
 refine Xd (Zu HT_.out kr) ?_
 try go_wp2
 go_ret
 exact⟨by first|rfl|(simp[Qo,Qn] <;> rfl)|(simp[*,Qo,Qn] <;> rfl),by repeat(first|(with_reducible first|exact HB.out|apply Qg|apply Qd|apply Qf|refine Qa ?_ ν.out|refine Qa ?_ a1.out)|exact HB.out)⟩
end Go.Proofs.Ytmfffemidlhcpaa.K
namespace Go.Proofs.Ytmfffemidlhcpaa.C
open Go.RowKit Go.Proofs.YtmfffemidlhcpaaW.PrintWords Go.Proofs.YtmfffemidlhcpaaW.PrintLast Go.Proofs.YtmfffemidlhcpaaW.PrintMore
attribute [local go_sem] Z1 Zz Z9 Z8 Zq Zp Z0 Zy
set_option linter.unusedVariables false
set_option linter.unusedSimpArgs false
def call_within.f (J:Int) (Z:Int) (a2:Int):Option (Bool):=if Z≤J then (some (decide (J≤a2))) else (some false)
set_option maxHeartbeats 8000000 in
set_option maxRecDepth 100000 in
theorem call_within.calls (J:Int) (Z:Int) (a2:Int) (r:Bool) (w:World) (h:call_within.f J Z a2=some r):
  Calls Try.prog 44 #[.int .i64 J,.int .i64 Z,.int .i64 a2] w fun e w'=>e = .returned (.bool r)∧Drawn0 w w':=by
 have H:(if Z≤J then (some (decide (J≤a2))) else (some false))=some r:=h
 clear h
 by_cases c4:Z≤J
 ·rw[if_pos c4] at H
  have c4b0:decide (Z≤J)=true:=decide_eq_true c4
  clear c4
  obtain rfl:=Option.some.inj H
  go_enter Try.func44,Try.ntmps44
  go_wp2
  go_ret
  exact⟨qR,by repeat(first|exact Drawn0.refl _|apply Drawn0.step)⟩
 ·rw[if_neg c4] at H
  have c4b0:decide (Z≤J)=false:=decide_eq_false c4
  clear c4
  obtain rfl:=Option.some.inj H
  go_enter Try.func44,Try.ntmps44
  go_wp2
  go_ret
  exact⟨qR,by repeat(first|exact Drawn0.refl _|apply Drawn0.step)⟩
end Go.Proofs.Ytmfffemidlhcpaa.C
namespace Go.Proofs.Ytmfffemidlhcpaa.C
open Go.RowKit Go.Proofs.YtmfffemidlhcpaaW.PrintWords Go.Proofs.YtmfffemidlhcpaaW.PrintLast Go.Proofs.YtmfffemidlhcpaaW.PrintMore
set_option linter.unusedVariables false
set_option linter.unusedSimpArgs false
section
variable {P : Program} {ops : Array Oper} {Q : Exit → Act → World → Prop}
theorem X2 {oi:Oper} {N:Option Tmp} {a:Act} {w:World} {K:Act→World→Prop} {f:FuncId} {fn:Func} {x:Operand} {xs:Array Operand} {ts:Array TypeId} (hf:P.funcs[f]?=some fn) (hname:(fn.name == "runtime.NumGoroutine")=false) (hb:fn.body.isSome=true) (first cap args all:Array Value) (hall:first ++ args++cap=all)
    (hw:Region.wanted oi (yielded ops a.tmps)=true) (hN:oi.dst=N) (hop:oi.op = .call {callee:=.value x,args:=xs,argTypes:=ts}) (hx:a.eval x = .func (.func f) first cap) (hargs:xs.map a.eval=args)
    (h:Calls P f all w fun e w'=>∃ v,e = .returned v∧K (a.put N v) w'):if Region.wanted oi (yielded ops a.tmps)=true then Oper.wp P oi a w K Q else K (a.put N undef) w:=by
  refine Nx f all hw hN ?_ h
  have he:=Vk hf hname hb all w
  unfold execOp
  simp[hop,hx,resolve,Deferred.ofValue,invoke,hargs,hall,he]
end
def tok (a b:Int):Int:=a * 18446744073709551616+(b+9223372036854775808)
def Ya (t:Int):Int:=t / 18446744073709551616
def X9 (t:Int):Int:=t % 18446744073709551616-9223372036854775808
theorem J4 (a b:Int) (h: -9223372036854775808≤b∧b≤9223372036854775807):Ya (tok a b)=a:=by unfold Ya tok;omega
theorem J3 (a b:Int) (h: -9223372036854775808≤b∧b≤9223372036854775807):X9 (tok a b)=b:=by unfold X9 tok;omega
theorem Xa {w W:World} {g:Nat} {t:TypeId} {cs:Array Value} (h:w.heap[g]?=some (.cells cs t (0,0))) (hb:Below w.heap.size w W):W.heap[g]?=some (.cells cs t (0,0)):=Qh h hb
def Vo (a b:Int):Int:=if a<b then -1 else if a>b then 1 else 0
def X5 (J Z X b1:Int):Int:=if Vo J X≠0 then Vo J X else Vo Z b1
theorem cmp_eq (a b:Int):K.cmp_Compare_int.f a b=some (Vo a b):=by
  unfold K.cmp_Compare_int.f K.cmp_isNaN_int.f Vo
  simp only[Option.bind_some,bne_self_eq_false]
  rw[if_neg (by decide),if_neg (by decide)]
  split
  · rfl
  · split <;> rfl
theorem Nv (a b:Int):K.cmp_Or_int.f 5 [a,b]=some (if a≠0 then a else b):=by
  have w1:wrap64 (0+1)=1:=by unfold wrap64;omega
  have w2:wrap64 (1+1)=2:=by unfold wrap64;omega
  have r0:rd [a,b] 0=a:=rfl
  have r1:rd [a,b] 1=b:=rfl
  have l2:(([a,b]:List Int).length:Int)=2:=rfl
  unfold K.cmp_Or_int.f
  rw[l2,K.cmp_Or_int.l0,if_pos (by decide),if_pos (by decide),l2,if_pos (by decide),r0,w1]
  by_cases h:a=0
  · rw[if_pos h,if_neg (fun g=>g h),K.cmp_Or_int.l0,if_pos (by decide),if_pos (by decide),l2,if_pos (by decide),r1,w2]
    by_cases L:b=0
    · rw[if_pos L,K.cmp_Or_int.l0,if_neg (by decide),L]
    · rw[if_neg L]
  · rw[if_neg h,if_pos h]
def call_halls_1.f (J B Y μ η ν :Int):Option Int:=some (X5 J B μ η)
def call_ins_1.f (J B μ η :Int):Option Int:=some (X5 J B μ η)
theorem call_halls_1.calls (J B Y μ η ν r:Int) (w:World) (h:call_halls_1.f J B Y μ η ν = some r):
    Calls Try.prog 79 #[.agg #[.int .i64 J,.int .i64 B,.int .i64 Y],.agg #[.int .i64 μ,.int .i64 η,.int .i64 ν]] w fun e w'=>e = .returned (.int .i64 r)∧Below w.heap.size w w':=by
  refine K.call_halls_1.calls 5 J B Y μ η ν r w ?_
  unfold K.call_halls_1.f
  rw[cmp_eq,cmp_eq]
  simp only[Option.bind_some]
  rw[Nv]
  exact h
theorem call_ins_1.calls (J B μ η r:Int) (w:World) (h:call_ins_1.f J B μ η = some r):
    Calls Try.prog 83 #[.agg #[.int .i64 J,.int .i64 B],.agg #[.int .i64 μ,.int .i64 η]] w fun e w'=>e = .returned (.int .i64 r)∧Below w.heap.size w w':=by
  refine K.call_ins_1.calls 5 J B μ η r w ?_
  unfold K.call_ins_1.f
  rw[cmp_eq,cmp_eq]
  simp only[Option.bind_some]
  rw[Nv]
  exact h
def Xo (F C:Int) (B J X:Int):Bool:=decide ((J=1∨J = -1)∧(0≤B∧B≤wrap64 (F-1))∧(0≤wrap64 (B+J)∧wrap64 (B+J)≤wrap64 (F-1))∧(-1≤X∧X≤wrap64 (C-1)))
def Jw (F C:Int) (B J:Int):Bool:=decide ((0≤B∧B≤wrap64 (C-1))∧(0≤J∧J≤wrap64 (F-1)))
theorem Yy (a b c:Int) (r:Bool) (h:decide (b≤a∧a≤c)=r):call_within.f a b c=some r:=by
  unfold call_within.f
  subst h
  by_cases h1:b≤a
  · rw[if_pos h1];simp[h1]
  · rw[if_neg h1];simp[h1]
theorem L8 (F C B J X:Int):Xo F C B J X=((J==1||J == -1)&&(decide (0≤B∧B≤wrap64 (F-1))&&(decide (0≤wrap64 (B+J)∧wrap64 (B+J)≤wrap64 (F-1))&&decide (-1≤X∧X≤wrap64 (C-1))))):=by
  unfold Xo
  rw[Bool.eq_iff_iff]
  simp[and_assoc]
theorem M6 (F C B J:Int):Jw F C B J=(decide (0≤B∧B≤wrap64 (C-1))&&decide (0≤J∧J≤wrap64 (F-1))):=by
  unfold Jw
  rw[Bool.eq_iff_iff]
  simp[and_assoc]
def call_hall_1.f (J B Y Z:Int):Option Bool:=some (Xo (Ya Z) (X9 Z) J B Y)
def call_inside_1.f (J B Z:Int):Option Bool:=some (Jw (Ya Z) (X9 Z) J B)
set_option maxRecDepth 100000 in
set_option maxHeartbeats 4000000 in
theorem Gb (F C B J X:Int) (r:Bool) (w:World) (h:Xo F C B J X=r) (g:Nat) (hg:w.heap[g]?=some (.cells #[.int .i64 F,.int .i64 C] 59 (0,0))):
    Calls Try.prog 82 #[.agg #[.int .i64 B,.int .i64 J,.int .i64 X],.pointer (some ⟨g,0,none⟩)] w fun e w'=>e = .returned (.bool r)∧Below w.heap.size w w':=by
  rw[L8] at h
  have HG:=Aside0.mk hg
  have HB:=Aside0.mk (Below.refl w.heap.size w)
  clear hg
  have O:∃ b,decide (0≤B∧B≤wrap64 (F-1))=b:=⟨_,rfl⟩
  have Y:∃ b,decide (0≤wrap64 (B+J)∧wrap64 (B+J)≤wrap64 (F-1))=b:=⟨_,rfl⟩
  have Z:∃ b,decide (-1≤X∧X≤wrap64 (C-1))=b:=⟨_,rfl⟩
  have γ:∃ b,(J==1)=b:=⟨_,rfl⟩
  have ζ :∃ b,(J == -1)=b:=⟨_,rfl⟩
  obtain⟨b1,O⟩:=O
  obtain⟨b2,Y⟩:=Y
  obtain⟨b3,Z⟩:=Z
  obtain⟨d1,γ⟩:=γ
  obtain⟨d2,ζ⟩:= ζ
  rw[O,Y,Z,γ,ζ] at h
  have D1:=Aside0.mk O
  have D2:=Aside0.mk Y
  have D3:=Aside0.mk Z
  clear O Y Z
  cases d1 <;> cases d2 <;> cases b1 <;> cases b2 <;> cases b3 <;> simp only[Bool.or_false,Bool.false_or,Bool.or_true,Bool.true_or,Bool.and_false,Bool.false_and,Bool.and_true,Bool.true_and] at h <;> subst h <;>
  · go_enter Try.func82,Try.ntmps82
    go_wp2_with (first|((with_reducible refine Qr (N:=2) rfl ?_);refine Qq ?hg (N:=2) ?hd (cs:=#[.int .i64 B,.int .i64 J,.int .i64 X]) (t:=36) ?hr ?_;(case hd=>rfl);(case hg=>rfl);(case hr=>first|(go_simp;done)|(go_simp;rfl));intro gb hgb w1 hbox hb;have L:=Aside0.mk (Qj HB.out hb);clear HB;have HB:=L;clear L;have hk:=Xa HG.out HB.out;have δ :w1.cell? ⟨g,0,none⟩=some (.int .i64 F):=(Qk hk 0).trans rfl;have ε :w1.cell? ⟨g,1,none⟩=some (.int .i64 C):=(Qk hk 1).trans rfl;have η :w1.cell? ⟨gb,0,none⟩=some (.int .i64 B):=(Qk hbox 0).trans rfl;have θ :w1.cell? ⟨gb,1,none⟩=some (.int .i64 J):=(Qk hbox 1).trans rfl;have ι :w1.cell? ⟨gb,2,none⟩=some (.int .i64 X):=(Qk hbox 2).trans rfl;clear hk hbox hb hgb)|(go_at_call 44;((with_reducible refine(call_within.calls B 0 (wrap64 (F-1)) _ _ (Yy _ _ _ _ D1.out)).mono ?_);rintro e w' ⟨rfl,⟨nd,rfl⟩⟩))|(go_at_call 44;((with_reducible refine(call_within.calls (wrap64 (B+J)) 0 (wrap64 (F-1)) _ _ (Yy _ _ _ _ D2.out)).mono ?_);rintro e w' ⟨rfl,⟨nd,rfl⟩⟩))|(go_at_call 44;((with_reducible refine(call_within.calls X (-1) (wrap64 (C-1)) _ _ (Yy _ _ _ _ D3.out)).mono ?_);rintro e w' ⟨rfl,⟨nd,rfl⟩⟩)))
    go_ret
    exact⟨rfl,by repeat(first|exact HB.out|apply Qd)⟩
set_option maxRecDepth 100000 in
set_option maxHeartbeats 4000000 in
theorem Vj (F C B J:Int) (r:Bool) (w:World) (h:Jw F C B J=r) (g:Nat) (hg:w.heap[g]?=some (.cells #[.int .i64 F,.int .i64 C] 59 (0,0))):
    Calls Try.prog 84 #[.agg #[.int .i64 B,.int .i64 J],.pointer (some ⟨g,0,none⟩)] w fun e w'=>e = .returned (.bool r)∧Below w.heap.size w w':=by
  rw[M6] at h
  have HG:=Aside0.mk hg
  have HB:=Aside0.mk (Below.refl w.heap.size w)
  clear hg
  have O:∃ b,decide (0≤B∧B≤wrap64 (C-1))=b:=⟨_,rfl⟩
  have Y:∃ b,decide (0≤J∧J≤wrap64 (F-1))=b:=⟨_,rfl⟩
  obtain⟨b1,O⟩:=O
  obtain⟨b2,Y⟩:=Y
  rw[O,Y] at h
  have D1:=Aside0.mk O
  have D2:=Aside0.mk Y
  clear O Y
  cases b1 <;> cases b2 <;> simp only[Bool.and_false,Bool.false_and,Bool.and_true,Bool.true_and] at h <;> subst h <;>
  · go_enter Try.func84,Try.ntmps84
    go_wp2_with (first|((with_reducible refine Qr (N:=2) rfl ?_);refine Qq ?hg (N:=2) ?hd (cs:=#[.int .i64 B,.int .i64 J]) (t:=86) ?hr ?_;(case hd=>rfl);(case hg=>rfl);(case hr=>first|(go_simp;done)|(go_simp;rfl));intro gb hgb w1 hbox hb;have L:=Aside0.mk (Qj HB.out hb);clear HB;have HB:=L;clear L;have hk:=Xa HG.out HB.out;have δ :w1.cell? ⟨g,0,none⟩=some (.int .i64 F):=(Qk hk 0).trans rfl;have ε :w1.cell? ⟨g,1,none⟩=some (.int .i64 C):=(Qk hk 1).trans rfl;have η :w1.cell? ⟨gb,0,none⟩=some (.int .i64 B):=(Qk hbox 0).trans rfl;have θ :w1.cell? ⟨gb,1,none⟩=some (.int .i64 J):=(Qk hbox 1).trans rfl;clear hk;clear hbox hb hgb)|(go_at_call 44;((with_reducible refine(call_within.calls B 0 (wrap64 (C-1)) _ _ (Yy _ _ _ _ D1.out)).mono ?_);rintro e w' ⟨rfl,⟨nd,rfl⟩⟩))|(go_at_call 44;((with_reducible refine(call_within.calls J 0 (wrap64 (F-1)) _ _ (Yy _ _ _ _ D2.out)).mono ?_);rintro e w' ⟨rfl,⟨nd,rfl⟩⟩)))
    go_ret
    exact⟨rfl,by repeat(first|exact HB.out|apply Qd)⟩
theorem call_hall_1.calls (J B Y Z:Int) (r:Bool) (w:World) (h:call_hall_1.f J B Y Z=some r) (g:Nat) (hg:w.heap[g]?=some (.cells #[.int .i64 (Ya Z),.int .i64 (X9 Z)] 59 (0,0))):
    Calls Try.prog 82 #[.agg #[.int .i64 J,.int .i64 B,.int .i64 Y],.pointer (some ⟨g,0,none⟩)] w fun e w'=>e = .returned (.bool r)∧Below w.heap.size w w':=
  Gb _ _ _ _ _ _ _ (Option.some.inj h) g hg
theorem call_inside_1.calls (J B Z:Int) (r:Bool) (w:World) (h:call_inside_1.f J B Z=some r) (g:Nat) (hg:w.heap[g]?=some (.cells #[.int .i64 (Ya Z),.int .i64 (X9 Z)] 59 (0,0))):
    Calls Try.prog 84 #[.agg #[.int .i64 J,.int .i64 B],.pointer (some ⟨g,0,none⟩)] w fun e w'=>e = .returned (.bool r)∧Below w.heap.size w w':=
  Vj _ _ _ _ _ _ (Option.some.inj h) g hg
def api_Inside_without_1.f (J B Z:Int):Option Bool:=some (X5 (Ya Z) (X9 Z) J B==0)
set_option maxRecDepth 100000 in
set_option maxHeartbeats 4000000 in
theorem Jn (B J O Y:Int) (r:Bool) (w:World) (h:(X5 B J O Y==0)=r) (A:Option Addr) (n c:Nat) (gr gx:Nat) (hr:w.heap[gr]?=some (.cells #[.slice A n c,.func (.func 83) #[] #[]] 116 (0,0))) (hx:w.heap[gx]?=some (.cells #[.int .i64 B,.int .i64 J] 86 (0,0))):
    Calls Try.prog 92 #[.agg #[.int .i64 O,.int .i64 Y],.pointer (some ⟨gr,0,none⟩),.pointer (some ⟨gx,0,none⟩)] w fun e w'=>e = .returned (.bool r)∧Below w.heap.size w w':=by
  have HR:=Aside0.mk hr
  have HX:=Aside0.mk hx
  have HB:=Aside0.mk (Below.refl w.heap.size w)
  clear hr hx
  have hd:∃ z,X5 B J O Y=z:=⟨_,rfl⟩
  obtain⟨z,hd⟩:=hd
  rw[hd] at h
  have D1:=Aside0.mk (show call_ins_1.f B J O Y=some z from congrArg some hd)
  clear hd
  cases r <;>
  · go_enter Try.func92,Try.ntmps92
    go_wp2_with (first|((with_reducible refine Qr (N:=3) rfl ?_);refine Qq ?hg (N:=3) ?hd (cs:=#[.int .i64 O,.int .i64 Y]) (t:=86) ?hr ?_;(case hd=>rfl);(case hg=>rfl);(case hr=>first|(go_simp;done)|(go_simp;rfl));intro gb hgb w1 hbox hb;have L:=Aside0.mk (Qj HB.out hb);clear HB;have HB:=L;clear L;have hk:=Xa HR.out HB.out;have hq:=Xa HX.out HB.out;have δ :w1.cell? ⟨gr,0,none⟩=some (.slice A n c):=(Qk hk 0).trans rfl;have ε :w1.cell? ⟨gr,1,none⟩=some (.func (.func 83) #[] #[]):=(Qk hk 1).trans rfl;have X:w1.cell? ⟨gx,0,none⟩=some (.int .i64 B):=(Qk hq 0).trans rfl;have Z:w1.cell? ⟨gx,1,none⟩=some (.int .i64 J):=(Qk hq 1).trans rfl;have η :w1.cell? ⟨gb,0,none⟩=some (.int .i64 O):=(Qk hbox 0).trans rfl;have θ :w1.cell? ⟨gb,1,none⟩=some (.int .i64 Y):=(Qk hbox 1).trans rfl;clear hk hq;clear hbox hb hgb)|(go_at_call 83;((with_reducible refine(call_ins_1.calls B J O Y z _ D1.out).mono ?_);rintro e w2 ⟨rfl,hb⟩;have L:=Aside0.mk (Qj HB.out hb);clear HB;have HB:=L;clear L;clear hb)))
    go_ret
    exact⟨rfl,HB.out⟩
theorem api_Inside_without_1.calls (J B Z:Int) (r:Bool) (w:World) (h:api_Inside_without_1.f J B Z=some r) (A:Option Addr) (n c:Nat) (gr gx:Nat) (z:Int) (hr:w.heap[gr]?=some (.cells #[.slice A n c,.func (.func 83) #[] #[]] 116 (0,0))) (hx:w.heap[gx]?=some (.cells #[.int .i64 (Ya Z),.int .i64 (X9 Z)] 86 (0,0))):
    Calls Try.prog 92 #[.agg #[.int .i64 J,.int .i64 B],.pointer (some ⟨gr,0,none⟩),.pointer (some ⟨gx,0,none⟩)] w fun e w'=>e = .returned (.bool r)∧Below w.heap.size w w':=
  Jn (Ya Z) (X9 Z) J B r w (Option.some.inj h) A n c gr gx hr hx
end Go.Proofs.Ytmfffemidlhcpaa.C
namespace Go.Proofs.Ytmfffemidlhcpaa.C
open Go.RowKit Go.Proofs.YtmfffemidlhcpaaW.PrintWords Go.Proofs.YtmfffemidlhcpaaW.PrintLast Go.Proofs.YtmfffemidlhcpaaW.PrintMore
attribute [local go_sem] Z1 Zz Z9 Z8 Zq Zp Z0 Zy
set_option linter.unusedVariables false
set_option linter.unusedSimpArgs false
def api_Inside_100.l0:Nat→List (S86)→Int→Int→Int→Option (Int)
 |0,_,_,_,_=>none
 |k+1,B,J,L,X=>if X<L then (if 0≤X then (if X<(B.length:Int) then ((api_Inside_without_1.f ((Qv B X).f0) ((Qv B X).f1) J).bind fun δ =>(if δ = true then (some X) else (api_Inside_100.l0 k B J L (wrap64 (X+1))))) else (none)) else (none)) else (some (-1))
def api_Inside_100.f (k:Nat) (l0:List (S86)) (Z:Int):Option (Int):=api_Inside_100.l0 k l0 Z (l0.length:Int) 0
set_option maxHeartbeats 8000000 in
set_option maxRecDepth 100000 in
theorem api_Inside_100.calls (k:Nat) (A0:Option Addr) (c0:Nat) (l0:List (S86)) (Z:Int) (r:Int) (w:World) (τ :Kd.C k86 w A0 l0.length l0) (γ:l0.length≤c0) (h:api_Inside_100.f k l0 Z=some r) (Ar_:Option Addr) (nr_ cr_ gr_ gx_:Nat) (zx_:Int) (hgr_:w.heap[gr_]?=some (.cells #[.slice Ar_ nr_ cr_,.func (.func 83) #[] #[]] 116 (0,0))) (hgx_:w.heap[gx_]?=some (.cells #[.int .i64 (Ya Z),.int .i64 (X9 Z)] 86 (0,0))):
  Calls Try.prog 100 #[.slice A0 l0.length c0,.func (.func 92) #[] #[.pointer (some ⟨gr_,0,none⟩),.pointer (some ⟨gx_,0,none⟩)]] w fun e w'=>e = .returned (.int .i64 r)∧Below w.heap.size w w':=by
 have HCR:=Aside0.mk hgr_
 have HCX:=Aside0.mk hgx_
 clear hgr_ hgx_
 have ea:=Try.underlying86
 have ψ :=Aside0.mk τ
 have ai:=Aside0.mk γ
 clear τ γ
 have HB:=Aside0.mk (Below.refl w.heap.size w)
 have H:(api_Inside_100.l0 k l0 Z (l0.length:Int) 0)=some r:=h
 clear h
 have H':=Aside0.mk H
 clear H
 go_enter Try.func100,Try.ntmps100
 go_wp2
 go_loopg [8] k (fun kq v8 w'=>∃ (B:Int),v8 = .int .i64 B∧Aside0 (api_Inside_100.l0 kq l0 Z (l0.length:Int) B=some r)∧Aside0 (kq≤k)∧Aside0 (Below w.heap.size w w'))
 case atStart=>exact⟨(0),qR,H',⟨Nat.le_refl _⟩,⟨by repeat(first|(with_reducible first|exact HB.out|apply Qg|apply Qd|apply Qf)|exact HB.out)⟩⟩
 case round=>
  clear H'
  try clear c1
  try clear p2
  obtain⟨B,rfl,HA,az,HB⟩:=hrel
  cases gk with
  |zero=>exact absurd HA.out (by simp[api_Inside_100.l0])
  |succ k1=>
   have H:=HA.out
   clear HA
   simp only[api_Inside_100.l0] at H
   by_cases c3:B<(l0.length:Int)
   ·rw[if_pos c3] at H
    have c3b0:decide (B<(l0.length:Int))=true:=decide_eq_true c3
    clear c3
    by_cases c4:0≤B
    ·rw[if_pos c4] at H
     have c4b0:decide (0≤B)=true:=decide_eq_true c4
     clear c4
     by_cases c5:B<(l0.length:Int)
     ·rw[if_pos c5] at H
      have c5b0:decide (B<(l0.length:Int))=true:=decide_eq_true c5
      clear c5
      replace H:=Option.bind_eq_some_iff.mp H
      obtain⟨δ,bc,H⟩:=H
      replace H:(if δ = true then (some B) else (api_Inside_100.l0 k1 l0 Z (l0.length:Int) (wrap64 (B+1))))=some r:=H
      have A6:=Aside0.mk bc
      clear bc
      by_cases c7: δ = true
      ·subst c7
       have H1:(some B)=some r:=by rw[if_pos rfl] at H;exact H
       clear H
       have H:=H1
       clear H1
       obtain rfl:=Option.some.inj H
       have X:0≤(B:Int):=of_decide_eq_true (by first|(with_reducible assumption)|assumption)
       have Y:B<(l0.length:Int):=of_decide_eq_true (by first|(with_reducible assumption)|assumption)
       obtain⟨ζ,ε,J,O⟩:=Y6 ψ.out B X Y
       cases ε
       replace J:=(HB.out.cell (World.block_lt_of_cell? w _ J)).trans J
       replace O:=(HB.out.cell (World.block_lt_of_cell? w _ O)).trans O
       replace X:=eq_true X
       replace Y:=eq_true Y
       go_wp2_with (first|(go_at_call 92;((with_reducible refine(api_Inside_without_1.calls ((Qv l0 B).f0) ((Qv l0 B).f1) Z true _ A6.out Ar_ nr_ cr_ gr_ gx_ zx_ (Xa HCR.out (by repeat(first|(with_reducible first|exact HB.out|apply Qg|apply Qd|apply Qf)|exact HB.out|(refine Qa ?_ (Aside0.out (by assumption)))))) (Xa HCX.out (by repeat(first|(with_reducible first|exact HB.out|apply Qg|apply Qd|apply Qf)|exact HB.out|(refine Qa ?_ (Aside0.out (by assumption))))))).mono ?_);rintro e w8 ⟨rfl,hb⟩;have L:=Aside0.mk (Qj (by repeat(first|(with_reducible first|exact HB.out|apply Qg|apply Qd|apply Qf)|exact HB.out)) hb);clear HB;have HB:=L;clear L;(try clear hb);(try clear ak);(try clear hk);(try clear hi))))
       go_ret
       exact⟨by first|rfl|(simp[Qo,Qn] <;> rfl)|(simp[*,Qo,Qn] <;> rfl),by repeat(first|(with_reducible first|exact HB.out|apply Qg|apply Qd|apply Qf)|exact HB.out)⟩
      ·replace c7:=Bool.eq_false_iff.mpr c7
       subst c7
       have H1:(api_Inside_100.l0 k1 l0 Z (l0.length:Int) (wrap64 (B+1)))=some r:=by rw[if_neg (show ¬ (false=true) by decide)] at H;exact H
       clear H
       have H:=H1
       clear H1
       have H':=Aside0.mk H
       clear H
       have X:0≤(B:Int):=of_decide_eq_true (by first|(with_reducible assumption)|assumption)
       have Y:B<(l0.length:Int):=of_decide_eq_true (by first|(with_reducible assumption)|assumption)
       obtain⟨ζ,ε,J,O⟩:=Y6 ψ.out B X Y
       cases ε
       replace J:=(HB.out.cell (World.block_lt_of_cell? w _ J)).trans J
       replace O:=(HB.out.cell (World.block_lt_of_cell? w _ O)).trans O
       replace X:=eq_true X
       replace Y:=eq_true Y
       go_wp2_with (first|(go_at_call 92;((with_reducible refine(api_Inside_without_1.calls ((Qv l0 B).f0) ((Qv l0 B).f1) Z false _ A6.out Ar_ nr_ cr_ gr_ gx_ zx_ (Xa HCR.out (by repeat(first|(with_reducible first|exact HB.out|apply Qg|apply Qd|apply Qf)|exact HB.out|(refine Qa ?_ (Aside0.out (by assumption)))))) (Xa HCX.out (by repeat(first|(with_reducible first|exact HB.out|apply Qg|apply Qd|apply Qf)|exact HB.out|(refine Qa ?_ (Aside0.out (by assumption))))))).mono ?_);rintro e w9 ⟨rfl,hb⟩;have L:=Aside0.mk (Qj (by repeat(first|(with_reducible first|exact HB.out|apply Qg|apply Qd|apply Qf)|exact HB.out)) hb);clear HB;have HB:=L;clear L;(try clear hb);(try clear ak);(try clear hk);(try clear hi))))
       go_roundg k1
       case measure=>have:=az.out;omega
       case rel=>exact⟨(wrap64 (B+1)),qR,H',⟨by have:=az.out;omega⟩,⟨by repeat(first|(with_reducible first|exact HB.out|apply Qg|apply Qd|apply Qf)|exact HB.out)⟩⟩
     ·rw[if_neg c5] at H
      exact absurd H (by simp)
    ·rw[if_neg c4] at H
     exact absurd H (by simp)
   ·rw[if_neg c3] at H
    have c3b0:decide (B<(l0.length:Int))=false:=decide_eq_false c3
    clear c3
    obtain rfl:=Option.some.inj H
    go_wp2
    go_ret
    exact⟨by first|rfl|(simp[Qo,Qn] <;> rfl)|(simp[*,Qo,Qn] <;> rfl),by repeat(first|(with_reducible first|exact HB.out|apply Qg|apply Qd|apply Qf)|exact HB.out)⟩
end Go.Proofs.Ytmfffemidlhcpaa.C
namespace Go.Proofs.Ytmfffemidlhcpaa.C
open Go.RowKit Go.Proofs.YtmfffemidlhcpaaW.PrintWords Go.Proofs.YtmfffemidlhcpaaW.PrintLast Go.Proofs.YtmfffemidlhcpaaW.PrintMore
set_option linter.unusedVariables false
structure Flat {α:Type} (d:Kd α) (enc:α→List Value):Prop where
  len:∀ x,(enc x).length=d.sz
  one:∀ x,∀ u ∈ enc x,u.oneCell'=true
  M:∀ w base ok x cs,d.M w base ok x cs↔cs=enc x
  K:∀ w x cs,d.K w x cs↔cs=enc x
def Yh {α:Type} (enc:α→List Value) (xs:List α):List Value:=xs.flatMap enc
section
variable {α : Type} {d : Kd α} {enc : α → List Value}
theorem Gf (x:α) (xs:List α):Yh enc (x :: xs)=enc x++Yh enc xs:=rfl
theorem Vl (xs ys:List α):Yh enc (xs++ys)=Yh enc xs++Yh enc ys:=List.flatMap_append
theorem G4 (F:Flat d enc) (xs:List α):(Yh enc xs).length=xs.length * d.sz:=by
  induction xs with
  |nil=>simp[Yh]
  |cons x xs ih=>rw[Gf,List.length_append,F.len,ih,List.length_cons,Nat.add_mul,Nat.one_mul,Nat.add_comm]
theorem Uw (F:Flat d enc) (xs:List α) (m:Nat) (h:m≤xs.length):(Yh enc xs).take (m * d.sz)=Yh enc (xs.take m):=by
  have e:Yh enc xs=Yh enc (xs.take m)++Yh enc (xs.drop m):=by rw[← Vl,List.take_append_drop]
  have hl:(Yh enc (xs.take m)).length=m * d.sz:=by rw[G4 F,List.length_take,Nat.min_eq_left h]
  rw[e,← hl,List.take_left']
  rfl
theorem Gz (F:Flat d enc) {R:α→List Value→Prop} (hR:∀ p c,R p c↔c=enc p) (xs:List α):∀ inner,Reps R d.sz xs inner↔inner=Yh enc xs:=by
  induction xs with
  |nil=>
    intro inner
    constructor
    · intro h
      have:=h.1
      simp only[List.length_nil,Nat.zero_mul] at this
      exact List.eq_nil_of_length_eq_zero this
    · rintro rfl
      exact Reps.none _ _
  |cons x xs ih=>
    intro inner
    constructor
    · intro h
      have h1:=h.2 0 x rfl
      rw[hR,Nat.zero_mul,List.drop_zero] at h1
      have L:=Kd.Ww (m:=1) h
      rw[List.drop_one,List.tail_cons,ih,Nat.one_mul] at L
      rw[Gf,← h1,← L,List.take_append_drop]
    · rintro rfl
      have h1:Reps R d.sz [x] (enc x):=by
        have:=Reps.snoc (Reps.none R d.sz) ((hR x (enc x)).2 rfl) (F.len x)
        simpa using this
      exact Kd.Je (ps:=[x]) h1 ((ih _).2 rfl)
theorem Vu (F:Flat d enc) {e:Nat} {w:World} {base:Nat} {ok:Nat→Prop} {v:Value} {xs:List α}:d.R e w base ok v xs↔(∀ k,v.ownBlock=some k→ok k)∧w.ownsRow base e d.sz v xs.length (Yh enc xs):=by
  constructor
  · rintro⟨O,inner,ho,hr⟩
    rw[Gz F (fun p c=>F.M _ _ _ p c)] at hr
    subst hr
    exact⟨O,ho⟩
  · rintro⟨O,ho⟩
    exact⟨O,_,ho,(Gz F (fun p c=>F.M _ _ _ p c) xs _).2 rfl⟩
theorem Uq {P:Program} (w:World) (t e ty:TypeId) (z:Value) (ht:P.underlying t=some (.slice e)) (hv:∀ w,(zeroValue e).run P w = .ok z w) (J:∀ u ∈ z.cells.toList,u.oneCell'=true) (b o n c:Nat) (hn:0<n)
    (hc:∀ j,j<n * z.cells.size→(w.cell? ⟨b,o+j,none⟩).isSome=true) (hf:∀ j,j<n * z.cells.size→w.frozen? ⟨b,o+j,none⟩=false):
    ∃ vs,vs.length=n * z.cells.size∧(Builtin.clear_ #[t] ty #[.slice (some ⟨b,o,none⟩) n c]).run P w = .ok (.tuple #[]) (w.setCells b o vs):=by
  refine⟨(Builtin.zeroCells z.cells n).toList,by simp[Builtin.zeroCells], ?_⟩
  have hl:(Builtin.zeroCells z.cells n).toList.length=n * z.cells.size:=by simp[Builtin.zeroCells]
  have h1:∀ v ∈ (Builtin.zeroCells z.cells n).toList,v.oneCell'=true:=by
    intro v hv'
    simp only[Builtin.zeroCells,Array.mem_toList_iff,Array.mem_map,Array.mem_range] at hv'
    obtain⟨i,hi,rfl⟩:=hv'
    have hs:0<z.cells.size:=by
      rcases Nat.eq_zero_or_pos z.cells.size with h|h
      · rw[h,Nat.mul_zero] at hi;omega
      · exact h
    have hm:i % z.cells.size<z.cells.size:=Nat.mod_lt _ hs
    rw[getElem!_pos z.cells _ hm]
    exact J _ (by simp)
  have hst:=run_storeCells_cells (P:=P) b o (Builtin.zeroCells z.cells n).toList 0 w (by rw[hl];simpa using hc) (by rw[hl];simpa using hf) h1
  simp only[Nat.add_zero] at hst
  obtain⟨m,rfl⟩:∃ m,n=m+1:=⟨n-1,by omega⟩
  simp[Builtin.clear_,run_underlying ht,hv,hst]
theorem Ln (g j:Nat):(⟨g,0,none⟩:Addr).add j=⟨g,j,none⟩:=by unfold Addr.add;split <;> simp_all
theorem W6 {W:World} {g:Nat} {vs:List Value} {o:Nat}:W.grownBy (W.setCells g o vs) (some g):=by
  obtain⟨s1,s2,s3,s4⟩:=Yw g vs o W
  exact⟨s1,s2,s3,by rw[s4];exact Nat.le_refl _,fun k _ hk=>Y2 _ _ k (fun he=>hk (by rw[he]))⟩
theorem Lf {P:Program} (F:Flat d enc) {W:World} {base:Nat} {ok:Nat→Prop} {e:Nat} (t ty:TypeId) (ht:P.underlying t=some (.slice e)) (z:Value) (hv:∀ w,(zeroValue e).run P w = .ok z w) (J:∀ u ∈ z.cells.toList,u.oneCell'=true) (hzs:z.cells.size=d.sz)
    (A:Option Addr) (c:Nat) (xs:List α) (HO:d.R e W base ok (.slice A xs.length c) xs) (i:Nat) (hi:i≤xs.length):
    ∃ w1,(Builtin.clear_ #[t] ty #[.slice (if c=i then A else A.map (·.add (i * d.sz))) (xs.length-i) (c-i)]).run P W = .ok (.tuple #[]) w1∧d.R e w1 base ok (.slice A i c) (xs.take i)∧W.grownBy w1 (Value.slice A i c).ownBlock:=by
  obtain⟨O,ho⟩:=(Vu F).1 HO
  have hob:(Value.slice A i c).ownBlock=(Value.slice A xs.length c).ownBlock:=by cases A <;> rfl
  rcases ho.2 with⟨L,X⟩|⟨g,cap,cur,L,hb,hh,hnc,hcm,hcs,htake⟩
  · injection L with e1 e2 B
    subst e1 B
    have Z:i=0:=by omega
    subst Z
    refine⟨W, ?_, ?_,World.grownBy.refl W _⟩
    · rw[X]
      simp[Builtin.clear_,run_underlying ht]
    · have:xs = []:=List.eq_nil_of_length_eq_zero X
      subst this
      exact Kd.Xw _ _ _ _ _
  · injection L with e1 e2 B
    subst e1 B
    have own_i:∀ (w1:World) (cur':Array Value),w1.heap[g]?=some (.cells cur' e (0,0))→cur'.size=cur.size→cur'.toList.take (i * d.sz)=cur.toList.take (i * d.sz)→d.R e w1 base ok (.slice (some ⟨g,0,none⟩) i c) (xs.take i):=by
      intro w1 cur' Y g2 g3
      rw[Vu F]
      have hl:(xs.take i).length=i:=by rw[List.length_take,Nat.min_eq_left hi]
      refine⟨fun k hk=>O k (by simpa[Value.ownBlock] using hk), ?_⟩
      rw[hl]
      refine⟨by rw[G4 F,hl],.inr ⟨g,c,cur',rfl,hb,Y,by omega,hcm,by rw[g2,hcs], ?_⟩⟩
      have hq:cur.toList.take (i * d.sz)=(cur.toList.take (xs.length * d.sz)).take (i * d.sz):=by
        rw[List.take_take,Nat.min_eq_left (Nat.mul_le_mul_right _ hi)]
      rw[g3,hq,htake,Uw F xs i hi]
    rcases Nat.lt_or_ge i xs.length with hlt|hge
    · rw[if_neg (by omega)]
      simp only[Option.map_some,Ln]
      have hsz:(xs.length-i) * z.cells.size+i * d.sz≤cur.size:=by
        rw[hzs,hcs,← Nat.add_mul]
        exact Nat.mul_le_mul_right _ (by omega)
      obtain⟨vs,hvl,hrun⟩:=Uq (P:=P) W t e ty z ht hv J g (i * d.sz) (xs.length-i) (c-i) (by omega)
        (fun j hj=>by rw[cell_of_row W g _ cur e (0,0) hh];simp;omega) (fun j _=>Qz hh _)
      obtain⟨cur',Y,g2,g3⟩:=Y1 vs (i * d.sz) W cur hh (by rw[hvl];omega)
      refine⟨_,hrun,own_i _ cur' Y g2 ?_, ?_⟩
      · rw[g3,List.append_assoc,List.take_append_of_le_length (by rw[List.length_take];simp;omega),List.take_take,Nat.min_self]
      · have:(Value.slice (some ⟨g,0,none⟩) i c).ownBlock=some g:=rfl
        rw[this]
        exact W6
    · have hie:i=xs.length:=by omega
      refine⟨W, ?_,own_i W cur hh rfl rfl,World.grownBy.refl W _⟩
      rw[hie,Nat.sub_self]
      split <;> simp[Builtin.clear_,run_underlying ht]
theorem Ul {P:Program} {ops:Array Oper} {o:Oper} {rest:List Oper} {a:Act} {Q:Exit→Act→World→Prop} (F:Flat d enc) {W:World} {base:Nat} {ok:Nat→Prop} {e:Nat} (hgd:o.guard=none) (x:Operand) (t:TypeId) (ho:o.op = .call {callee:=.builtin .clear,args:=#[x],argTypes:=#[t]})
    (ht:P.underlying t=some (.slice e)) (z:Value) (hv:∀ w,(zeroValue e).run P w = .ok z w) (J:∀ u ∈ z.cells.toList,u.oneCell'=true) (hzs:z.cells.size=d.sz)
    (A A1:Option Addr) (c c1 Z:Nat) (xs:List α) (HO:d.R e W base ok (.slice A xs.length c) xs) (i:Nat) (hi:i≤xs.length) (B:A1=(if c=i then A else A.map (·.add (i * d.sz)))) (L:Z=xs.length-i) (dm:c1=c-i) (hx:a.eval x = .slice A1 Z c1)
    (h:∀ w1,d.R e w1 base ok (.slice A i c) (xs.take i)→W.grownBy w1 (Value.slice A i c).ownBlock→wpList P ops Q rest (a.put o.dst (.tuple #[])) w1):wpList P ops Q (o :: rest) a W:=by
  subst B L dm
  obtain⟨w1,hr,hR,hg⟩:=Lf F t o.type ht z hv J hzs A c xs HO i hi
  refine Kd.Kl hgd (v:=.tuple #[]) (w1:=w1) ?_ (h w1 hR hg)
  unfold execOp
  simp only[ho,resolve,invoke,builtin,Sem.run_bind,Sem.run_pure,Result.andThen_ok,List.map_toArray,List.map_cons,List.map_nil,hx,hr]
theorem Ux {P:Program} {ops:Array Oper} {o:Oper} {rest:List Oper} {a:Act} {Q:Exit→Act→World→Prop} (F:Flat d enc) {w w0 W:World} {S ok:Nat→Prop} {e:Nat} (hgd:o.guard=none) (x:Operand) (t:TypeId) (ho:o.op = .call {callee:=.builtin .clear,args:=#[x],argTypes:=#[t]})
    (ht:P.underlying t=some (.slice e)) (z:Value) (hv:∀ w,(zeroValue e).run P w = .ok z w) (J:∀ u ∈ z.cells.toList,u.oneCell'=true) (hzs:z.cells.size=d.sz)
    (A A1:Option Addr) (c c1 Z:Nat) (xs:List α) (HO:d.R e W w0.heap.size ok (.slice A xs.length c) xs) (i:Nat) (hi:i≤xs.length) (B:A1=(if c=i then A else A.map (·.add (i * d.sz)))) (L:Z=xs.length-i) (dm:c1=c-i) (hx:a.eval x = .slice A1 Z c1)
    (HB:Below w0.heap.size w0 W) (HK:Kept w W S) (hok:∀ k,ok k→S k∨w.heap.size≤k) (ys:List α) (hys:ys=xs.take i)
    (h:∀ w1,d.R e w1 w0.heap.size ok (.slice A ys.length c) ys→Below w0.heap.size w0 w1→Kept w w1 S→wpList P ops Q rest (a.put o.dst (.tuple #[])) w1):wpList P ops Q (o :: rest) a W:=by
  have hob:(Value.slice A i c).ownBlock=(Value.slice A xs.length c).ownBlock:=by cases A <;> rfl
  have hl:ys.length=i:=by rw[hys,List.length_take,Nat.min_eq_left hi]
  refine Ul F hgd x t ho ht z hv J hzs A A1 c c1 Z xs HO i hi B L dm hx ?_
  intro w1 hR hg
  rw[hob] at hg
  refine h w1 (by rw[hl,hys];exact hR) (HB.grown hg HB.size (Yg ((Vu F).1 HO).2)) (Kept.K8 hg HK (fun k hk=>hok k (HO.1 k hk)))
end
theorem flatI:Flat k86 (fun x=>[.int .i64 x.f0,.int .i64 x.f1]) where
  len:=fun _=>rfl
  one:=fun x u hu=>by
    simp only[List.mem_cons,List.not_mem_nil,or_false] at hu
    rcases hu with rfl|rfl <;> rfl
  M:=fun w base ok x cs=>⟨Jm,fun h=>by rw[h];exact Vi w base ok x⟩
  K:=fun w x cs=>⟨J8,fun h=>by rw[h];exact L0 w x⟩
theorem zeroI (w:World):(zeroValue 86).run Try.prog w = .ok (.agg #[.int .i64 0,.int .i64 0]) w:=by kernel_rfl
theorem X4 {w W:World} {S:Nat→Prop} {g:Nat} {o:Obj} (h:w.heap[g]?=some o) (hk:Kept w W S) (hn:¬ S g):W.heap[g]?=some o:=(hk.2 g (Qp h) hn).trans h
end Go.Proofs.Ytmfffemidlhcpaa.C
