/- Texts of this claim, one behind the other: what the law's functions come to, walked (printed by a program, with the words that the print uses), and what that is, in plain Lean. No conditions of their own. -/
import Derived.Test.YtmfffemidlhcpaaQGroupBounds1
import Derived.Test.YtmfffemidlhcpaaProg
namespace Go.Proofs.YtmfffemidlhcpaaW.PrintWords
open Go.RowKit Go.Proofs.YtmfffemidlhcpaaW.PrintLast Go.Proofs.YtmfffemidlhcpaaW.PrintMore
def qB (n m:Nat):Array Bool:=((List.range n).map fun i=>m.testBit i).toArray
theorem qP {P:Program} {ops:Array Oper} {Q:Exit→Act→World→Prop} {md:Region.Mode} {S:World→Prop} {ds:List Nat} {oi:Oper} {v:Value} {fuel:Nat} {l:Array Bool} {a:Act} {w:World} {T:Bool×List (List Nat×List Nat)} (i:Nat) (N:Option Tmp) (l':Array Bool) (ht:Aside0 (rtab md ops=T)) {a':Act} (h:Q0 P md ops Q S ds fuel l' a' w) (hi:ops[i]?=some oi:=by rfl) (hN:oi.dst=N:=by rfl) (hc:Ng T l.toList l'.toList i=true:=by kernel_rfl) (hQ:∀ c a w,Q (.panic c) (a.put oi.dst v) w→Q (.panic c) a w:=by exact(fun _ _ _ h=>h)) (hy:Yields P ops oi v a:=by(refine Or.inl ⟨by rfl, ?_⟩;intro w';go_simp;with_reducible rfl)) (ha:a.put N v=a':=by(simp only[Act.put,qS,Zb,Zj];rfl)):Q0 P md ops Q S ds (fuel+1) l a w:=Xw l' hi hN (Mg ht.out hc) hQ hy ha h
theorem qU {P:Program} {ops:Array Oper} {Q:Exit→Act→World→Prop} {md:Region.Mode} {S:World→Prop} {ds:List Nat} {oi:Oper} {fuel:Nat} {l:Array Bool} {a:Act} {w:World} {T:Bool×List (List Nat×List Nat)} (i:Nat) (N:Option Tmp) (l':Array Bool) (ht:Aside0 (rtab md ops=T)) {a':Act} (h:Q0 P md ops Q S ds fuel l' a' w) (hi:ops[i]?=some oi:=by rfl) (hN:oi.dst=N:=by rfl) (hc:Ng T l.toList l'.toList i=true:=by kernel_rfl) (hQ:∀ c a w,Q (.panic c) (a.put oi.dst undef) w→Q (.panic c) a w:=by exact(fun _ _ _ h=>h)) (hy:Yields P ops oi undef a:=by exact(Or.inr ⟨by rfl,rfl⟩)) (ha:a.put N undef=a':=by(simp only[Act.put,qS,Zb,Zj];rfl)):Q0 P md ops Q S ds (fuel+1) l a w:=Xw l' hi hN (Mg ht.out hc) hQ hy ha h
theorem qT {P:Program} {ops:Array Oper} {Q:Exit→Act→World→Prop} {md:Region.Mode} {S:World→Prop} {ds:List Nat} {oi:Oper} {v:Value} {fuel:Nat} {l:Array Bool} {a:Act} {w:World} {T:Bool×List (List Nat×List Nat)} {B:List Nat} (i:Nat) (N:Option Tmp) (l':Array Bool) (ht:Aside0 (rtab md ops=T)) (hW:Aside0 (Zs T.snd B=true)) (hS:S w) {a':Act} (h:Q0 P md ops Q S ds fuel l' a' w) (hi:ops[i]?=some oi:=by rfl) (hN:oi.dst=N:=by rfl) (hc:Ls T B ds l.toList l'.toList i=true:=by kernel_rfl) (hQ:∀ c a w,Q (.panic c) (a.put oi.dst v) w→Q (.panic c) a w:=by exact(fun _ _ _ h=>h)) (hy:YieldsIf P ops S oi v a:=by(refine Or.inl ⟨by rfl, ?_⟩;intro w' hs_;(repeat obtain⟨_,hs_⟩:=(hs_:_∧_));go_simp;with_reducible rfl)) (ha:a.put N v=a':=by(simp only[Act.put,qS,Zb,Zj];rfl)):Q0 P md ops Q S ds (fuel+1) l a w:=Y5 l' hi hN (Lr ht.out hW.out hc) hQ hy hS ha h
theorem qN {P:Program} {ops:Array Oper} {Q:Exit→Act→World→Prop} {md:Region.Mode} {S:World→Prop} {ds:List Nat} {v:Value} {fuel:Nat} {l:Array Bool} {a:Act} {w:World} (N:Option Tmp) {a':Act} (h:Q0 P md ops Q S ds fuel l a' w) (ha:a.put N v=a':=by(simp only[Act.put,qS,Zb,Zj];rfl)):Q0 P md ops Q S ds fuel l (a.put N v) w:=Zp ha h
theorem qc {w:World} {g i:Nat} {t:TypeId} {cs:Array Value} {v:Value} (b:Aside0 (w.heap[g]?=some (.cells cs t (0,0)))) (h:cs[i]?=some v:=by exact rfl):w.cell? ⟨g,i,none⟩=some v:=(Qa b.out i).trans h
theorem qM {p:Prop} (h:p:=by((try simp only[List.map_toArray,List.map_cons,List.map_nil]) <;> (first|done|rfl))):p:=h
theorem qE {P:Program} {ops:Array Oper} {Q:Exit→Act→World→Prop} {o:Oper} {rest:List Oper} {a:Act} {W:World} (N:Tmp) (cs:Array Value) (t:TypeId) (h:∀ g,g=W.heap.size → ∀ w1,w1.heap[g]?=some (.cells cs t (0,0))→Below W.heap.size W w1→wpList P ops Q rest (a.put o.dst (.pointer (some ⟨g,0,none⟩))) w1) (hd:o.dst=some N:=by rfl) (hg:o.guard=none:=by rfl) (hr:(execOp a.eval o).run P W = .ok (.value (.pointer (some ⟨W.heap.size,0,none⟩))) (W.alloc (.cells cs t (0,0))):=by(go_simp <;> rfl)):wpList P ops Q (o :: rest) a W:=Zg hg (N:=N) hd (cs:=cs) (t:=t) hr h
theorem qD1 {w:World} {g:Nat} {t:TypeId} {B:Value} (b:w.heap[g]?=some (.cells #[B] t (0,0))):w.cell? ⟨g,0,none⟩=some B∧w.frozen? ⟨g,0,none⟩=false:=⟨(Qa b 0).trans rfl,Qq b 0⟩
theorem qD2 {w:World} {g:Nat} {t:TypeId} {B O:Value} (b:w.heap[g]?=some (.cells #[B,O] t (0,0))):w.cell? ⟨g,0,none⟩=some B∧w.cell? ⟨g,1,none⟩=some O∧w.frozen? ⟨g,0,none⟩=false∧w.frozen? ⟨g,1,none⟩=false:=⟨(Qa b 0).trans rfl,(Qa b 1).trans rfl,Qq b 0,Qq b 1⟩
theorem qD3 {w:World} {g:Nat} {t:TypeId} {B O a2:Value} (b:w.heap[g]?=some (.cells #[B,O,a2] t (0,0))):w.cell? ⟨g,0,none⟩=some B∧w.cell? ⟨g,1,none⟩=some O∧w.cell? ⟨g,2,none⟩=some a2∧w.frozen? ⟨g,0,none⟩=false∧w.frozen? ⟨g,1,none⟩=false∧w.frozen? ⟨g,2,none⟩=false:=⟨(Qa b 0).trans rfl,(Qa b 1).trans rfl,(Qa b 2).trans rfl,Qq b 0,Qq b 1,Qq b 2⟩
theorem qD7 {w:World} {g:Nat} {t:TypeId} {B O a2 a3 L a5 X:Value} (b:w.heap[g]?=some (.cells #[B,O,a2,a3,L,a5,X] t (0,0))):w.cell? ⟨g,0,none⟩=some B∧w.cell? ⟨g,1,none⟩=some O∧w.cell? ⟨g,2,none⟩=some a2∧w.cell? ⟨g,3,none⟩=some a3∧w.cell? ⟨g,4,none⟩=some L∧w.cell? ⟨g,5,none⟩=some a5∧w.cell? ⟨g,6,none⟩=some X∧w.frozen? ⟨g,0,none⟩=false∧w.frozen? ⟨g,1,none⟩=false∧w.frozen? ⟨g,2,none⟩=false∧w.frozen? ⟨g,3,none⟩=false∧w.frozen? ⟨g,4,none⟩=false∧w.frozen? ⟨g,5,none⟩=false∧w.frozen? ⟨g,6,none⟩=false:=⟨(Qa b 0).trans rfl,(Qa b 1).trans rfl,(Qa b 2).trans rfl,(Qa b 3).trans rfl,(Qa b 4).trans rfl,(Qa b 5).trans rfl,(Qa b 6).trans rfl,Qq b 0,Qq b 1,Qq b 2,Qq b 3,Qq b 4,Qq b 5,Qq b 6⟩
theorem qD8 {w:World} {g:Nat} {t:TypeId} {B O a2 a3 L a5 X a7:Value} (b:w.heap[g]?=some (.cells #[B,O,a2,a3,L,a5,X,a7] t (0,0))):w.cell? ⟨g,0,none⟩=some B∧w.cell? ⟨g,1,none⟩=some O∧w.cell? ⟨g,2,none⟩=some a2∧w.cell? ⟨g,3,none⟩=some a3∧w.cell? ⟨g,4,none⟩=some L∧w.cell? ⟨g,5,none⟩=some a5∧w.cell? ⟨g,6,none⟩=some X∧w.cell? ⟨g,7,none⟩=some a7∧w.frozen? ⟨g,0,none⟩=false∧w.frozen? ⟨g,1,none⟩=false∧w.frozen? ⟨g,2,none⟩=false∧w.frozen? ⟨g,3,none⟩=false∧w.frozen? ⟨g,4,none⟩=false∧w.frozen? ⟨g,5,none⟩=false∧w.frozen? ⟨g,6,none⟩=false∧w.frozen? ⟨g,7,none⟩=false:=⟨(Qa b 0).trans rfl,(Qa b 1).trans rfl,(Qa b 2).trans rfl,(Qa b 3).trans rfl,(Qa b 4).trans rfl,(Qa b 5).trans rfl,(Qa b 6).trans rfl,(Qa b 7).trans rfl,Qq b 0,Qq b 1,Qq b 2,Qq b 3,Qq b 4,Qq b 5,Qq b 6,Qq b 7⟩
theorem Za {w:World} {g:Nat} {t:TypeId} {B O a2 a3 L a5 X a7 a8 a9:Value} (b:w.heap[g]?=some (.cells #[B,O,a2,a3,L,a5,X,a7,a8,a9] t (0,0))):w.cell? ⟨g,0,none⟩=some B∧w.cell? ⟨g,1,none⟩=some O∧w.cell? ⟨g,2,none⟩=some a2∧w.cell? ⟨g,3,none⟩=some a3∧w.cell? ⟨g,4,none⟩=some L∧w.cell? ⟨g,5,none⟩=some a5∧w.cell? ⟨g,6,none⟩=some X∧w.cell? ⟨g,7,none⟩=some a7∧w.cell? ⟨g,8,none⟩=some a8∧w.cell? ⟨g,9,none⟩=some a9∧w.frozen? ⟨g,0,none⟩=false∧w.frozen? ⟨g,1,none⟩=false∧w.frozen? ⟨g,2,none⟩=false∧w.frozen? ⟨g,3,none⟩=false∧w.frozen? ⟨g,4,none⟩=false∧w.frozen? ⟨g,5,none⟩=false∧w.frozen? ⟨g,6,none⟩=false∧w.frozen? ⟨g,7,none⟩=false∧w.frozen? ⟨g,8,none⟩=false∧w.frozen? ⟨g,9,none⟩=false:=⟨(Qa b 0).trans rfl,(Qa b 1).trans rfl,(Qa b 2).trans rfl,(Qa b 3).trans rfl,(Qa b 4).trans rfl,(Qa b 5).trans rfl,(Qa b 6).trans rfl,(Qa b 7).trans rfl,(Qa b 8).trans rfl,(Qa b 9).trans rfl,Qq b 0,Qq b 1,Qq b 2,Qq b 3,Qq b 4,Qq b 5,Qq b 6,Qq b 7,Qq b 8,Qq b 9⟩
end Go.Proofs.YtmfffemidlhcpaaW.PrintWords
namespace Go.Proofs.Ytmfffemidlhcpaa.C
open Go.RowKit Go.Proofs.YtmfffemidlhcpaaW.PrintWords Go.Proofs.YtmfffemidlhcpaaW.PrintLast Go.Proofs.YtmfffemidlhcpaaW.PrintMore
attribute [local go_sem] Zx Zv Z8 Z7 Zl Zk Zw Zu
set_option linter.unusedVariables false
set_option linter.unusedSimpArgs false
def L9:Option Int→Value
 |none=>.nilIface
 |some c=>.iface 0 (.int .i64 c)
theorem Qh:L9 none = .nilIface:=rfl
theorem Qg (c:Int):L9 (some c) = .iface 0 (.int .i64 c):=rfl
theorem Wd:(Try.prog.info? 3).map (fun i=>(i.zero,i.size,i.bytes))=some (some (.int .i64 0),1,8):=by kernel_rfl
theorem Ga:(Try.prog.info? 36).map (fun i=>(i.zero,i.size,i.bytes))=some (some (.agg #[(.int .i64 0),(.int .i64 0),(.int .i64 0)]),3,24):=by kernel_rfl
theorem K9:(Try.prog.info? 86).map (fun i=>(i.zero,i.size,i.bytes))=some (some (.agg #[(.int .i64 0),(.int .i64 0)]),2,16):=by kernel_rfl
structure S27 where
 f0:Int
 f1:Int
 f2:Int
def z27:S27:=⟨(0:Int),(0:Int),(0:Int)⟩
def k27:Kd S27:=Kd.iso (Kd.pair (Kd.int .i64) (Kd.pair (Kd.int .i64) (Kd.int .i64))) (fun x:S27=>(x.f0,x.f1,x.f2))
theorem L2 {w:World} {x:S27} {cs:List Value} (h:k27.K w x cs):cs = [.int .i64 x.f0,.int .i64 x.f1,.int .i64 x.f2]:=by
 obtain⟨_,_,rfl,rfl,⟨_,_,rfl,rfl,rfl⟩⟩:=h
 exact rfl
theorem M4 (w:World) (base:Nat) (ok:Nat→Prop) (x:S27):k27.M w base ok x [.int .i64 x.f0,.int .i64 x.f1,.int .i64 x.f2]:=⟨[.int .i64 x.f0],[.int .i64 x.f1,.int .i64 x.f2],rfl,rfl,⟨[.int .i64 x.f1],[.int .i64 x.f2],rfl,rfl,rfl⟩⟩
def Yr (xs:List (List Int)) (i:Int):(List Int):=xs.getD i.toNat ([]:List Int)
theorem Ny {w:World} {A:Option Addr} {n:Nat} {xs:List (List Int)} (h:Kd.C (Kd.slice 3 (Kd.int .i64)) w A n xs) (i:Int) (X:0≤i) (h1:i<n):∃ ad A0 c0,A=some ad∧w.cell? (ad.add i.toNat)=some (.slice A0 (Yr xs i).length c0)∧(Yr xs i).length≤c0∧(Kd.int .i64).C w A0 (Yr xs i).length (Yr xs i):=by
 obtain⟨ad,c,e,_,hK,γ⟩:=Kd.G7 h ([]:List Int) i X h1
 have hc:∀ j u,c[j]?=some u→w.cell? (ad.add (i.toNat * 1+j))=some u:=γ
 obtain⟨A0,c0,rfl,l0,g0⟩:=hK
 exact⟨ad,A0,c0,e,by have hq:=hc 0 _ rfl;rwa[Nat.mul_one,Nat.add_zero] at hq,l0,g0⟩
structure S36 where
 f0:Int
 f1:Int
 f2:Int
def z36:S36:=⟨(0:Int),(0:Int),(0:Int)⟩
def k36:Kd S36:=Kd.iso (Kd.pair (Kd.int .i64) (Kd.pair (Kd.int .i64) (Kd.int .i64))) (fun x:S36=>(x.f0,x.f1,x.f2))
theorem J8 {w:World} {x:S36} {cs:List Value} (h:k36.K w x cs):cs = [.int .i64 x.f0,.int .i64 x.f1,.int .i64 x.f2]:=by
 obtain⟨_,_,rfl,rfl,⟨_,_,rfl,rfl,rfl⟩⟩:=h
 exact rfl
theorem X4 {w:World} {base:Nat} {ok:Nat→Prop} {x:S36} {cs:List Value} (h:k36.M w base ok x cs):cs = [.int .i64 x.f0,.int .i64 x.f1,.int .i64 x.f2]:=by
 obtain⟨_,_,rfl,rfl,⟨_,_,rfl,rfl,rfl⟩⟩:=h
 exact rfl
theorem J9 (w:World) (base:Nat) (ok:Nat→Prop) (x:S36):k36.M w base ok x [.int .i64 x.f0,.int .i64 x.f1,.int .i64 x.f2]:=⟨[.int .i64 x.f0],[.int .i64 x.f1,.int .i64 x.f2],rfl,rfl,⟨[.int .i64 x.f1],[.int .i64 x.f2],rfl,rfl,rfl⟩⟩
def Qc (xs:List S36) (i:Int):S36:=xs.getD i.toNat z36
theorem Xv {w:World} {A:Option Addr} {n:Nat} {xs:List S36} (h:Kd.C k36 w A n xs) (i:Int) (X:0≤i) (h1:i<n):∃ ad,A=some ad∧w.cell? (ad.add (i.toNat * 3))=some (.int .i64 (Qc xs i).f0)∧w.cell? ⟨(ad.add (i.toNat * 3)).block,(ad.add (i.toNat * 3)).off+1,none⟩=some (.int .i64 (Qc xs i).f1)∧w.cell? ⟨(ad.add (i.toNat * 3)).block,(ad.add (i.toNat * 3)).off+2,none⟩=some (.int .i64 (Qc xs i).f2):=by
 obtain⟨ad,c,e,_,hK,γ⟩:=Kd.G7 h z36 i X h1
 have hc:∀ j u,c[j]?=some u→w.cell? (ad.add (i.toNat * 3+j))=some u:=γ
 obtain rfl:=J8 hK
 exact⟨ad,e,hc 0 _ rfl,by rw[← Zz _ _ 1 (by omega)];exact hc 1 _ rfl,by rw[← Zz _ _ 2 (by omega)];exact hc 2 _ rfl⟩
structure S86 where
 f0:Int
 f1:Int
def z86:S86:=⟨(0:Int),(0:Int)⟩
def k86:Kd S86:=Kd.iso (Kd.pair (Kd.int .i64) (Kd.int .i64)) (fun x:S86=>(x.f0,x.f1))
theorem J7 {w:World} {x:S86} {cs:List Value} (h:k86.K w x cs):cs = [.int .i64 x.f0,.int .i64 x.f1]:=by
 obtain⟨_,_,rfl,rfl,rfl⟩:=h
 exact rfl
theorem Jj {w:World} {base:Nat} {ok:Nat→Prop} {x:S86} {cs:List Value} (h:k86.M w base ok x cs):cs = [.int .i64 x.f0,.int .i64 x.f1]:=by
 obtain⟨_,_,rfl,rfl,rfl⟩:=h
 exact rfl
theorem L0 (w:World) (x:S86):k86.K w x [.int .i64 x.f0,.int .i64 x.f1]:=⟨[.int .i64 x.f0],[.int .i64 x.f1],rfl,rfl,rfl⟩
theorem Vi (w:World) (base:Nat) (ok:Nat→Prop) (x:S86):k86.M w base ok x [.int .i64 x.f0,.int .i64 x.f1]:=⟨[.int .i64 x.f0],[.int .i64 x.f1],rfl,rfl,rfl⟩
def Qn (xs:List S86) (i:Int):S86:=xs.getD i.toNat z86
theorem Y3 {w:World} {A:Option Addr} {n:Nat} {xs:List S86} (h:Kd.C k86 w A n xs) (i:Int) (X:0≤i) (h1:i<n):∃ ad,A=some ad∧w.cell? (ad.add (i.toNat * 2))=some (.int .i64 (Qn xs i).f0)∧w.cell? ⟨(ad.add (i.toNat * 2)).block,(ad.add (i.toNat * 2)).off+1,none⟩=some (.int .i64 (Qn xs i).f1):=by
 obtain⟨ad,c,e,_,hK,γ⟩:=Kd.G7 h z86 i X h1
 have hc:∀ j u,c[j]?=some u→w.cell? (ad.add (i.toNat * 2+j))=some u:=γ
 obtain rfl:=J7 hK
 exact⟨ad,e,hc 0 _ rfl,by rw[← Zz _ _ 1 (by omega)];exact hc 1 _ rfl⟩
structure S29 where
 f0:Int
 f1:Int
 f2:Int
 f3:Int
 f4:S27
def z29:S29:=⟨(0:Int),(0:Int),(0:Int),(0:Int),z27⟩
def k29:Kd S29:=Kd.iso (Kd.pair (Kd.int .i64) (Kd.pair (Kd.int .i64) (Kd.pair (Kd.int .i64) (Kd.pair (Kd.int .i64) k27)))) (fun x:S29=>(x.f0,x.f1,x.f2,x.f3,x.f4))
theorem L1 {w:World} {x:S29} {cs:List Value} (h:k29.K w x cs):cs = [.int .i64 x.f0,.int .i64 x.f1,.int .i64 x.f2,.int .i64 x.f3,.int .i64 x.f4.f0,.int .i64 x.f4.f1,.int .i64 x.f4.f2]:=by
 obtain⟨_,_,rfl,rfl,⟨_,_,rfl,rfl,⟨_,_,rfl,rfl,⟨_,_,rfl,rfl,s4⟩⟩⟩⟩:=h
 obtain rfl:=L2 s4
 exact rfl
theorem M3 (w:World) (base:Nat) (ok:Nat→Prop) (x:S29):k29.M w base ok x [.int .i64 x.f0,.int .i64 x.f1,.int .i64 x.f2,.int .i64 x.f3,.int .i64 x.f4.f0,.int .i64 x.f4.f1,.int .i64 x.f4.f2]:=⟨[.int .i64 x.f0],[.int .i64 x.f1,.int .i64 x.f2,.int .i64 x.f3,.int .i64 x.f4.f0,.int .i64 x.f4.f1,.int .i64 x.f4.f2],rfl,rfl,⟨[.int .i64 x.f1],[.int .i64 x.f2,.int .i64 x.f3,.int .i64 x.f4.f0,.int .i64 x.f4.f1,.int .i64 x.f4.f2],rfl,rfl,⟨[.int .i64 x.f2],[.int .i64 x.f3,.int .i64 x.f4.f0,.int .i64 x.f4.f1,.int .i64 x.f4.f2],rfl,rfl,⟨[.int .i64 x.f3],[.int .i64 x.f4.f0,.int .i64 x.f4.f1,.int .i64 x.f4.f2],rfl,rfl,(M4 w base ok x.f4)⟩⟩⟩⟩
structure S31 where
 f0:S29
 f1:Int
 f2:Bool
 f3:Bool
def z31:S31:=⟨z29,(0:Int),false,false⟩
def k31:Kd S31:=Kd.iso (Kd.pair k29 (Kd.pair (Kd.int .i64) (Kd.pair Kd.bool Kd.bool))) (fun x:S31=>(x.f0,x.f1,x.f2,x.f3))
theorem Uh {w:World} {x:S31} {cs:List Value} (h:k31.K w x cs):cs = [.int .i64 x.f0.f0,.int .i64 x.f0.f1,.int .i64 x.f0.f2,.int .i64 x.f0.f3,.int .i64 x.f0.f4.f0,.int .i64 x.f0.f4.f1,.int .i64 x.f0.f4.f2,.int .i64 x.f1,.bool x.f2,.bool x.f3]:=by
 obtain⟨_,_,rfl,s0,⟨_,_,rfl,rfl,⟨_,_,rfl,rfl,rfl⟩⟩⟩:=h
 obtain rfl:=L1 s0
 exact rfl
theorem Wc (w:World) (base:Nat) (ok:Nat→Prop) (x:S31):k31.M w base ok x [.int .i64 x.f0.f0,.int .i64 x.f0.f1,.int .i64 x.f0.f2,.int .i64 x.f0.f3,.int .i64 x.f0.f4.f0,.int .i64 x.f0.f4.f1,.int .i64 x.f0.f4.f2,.int .i64 x.f1,.bool x.f2,.bool x.f3]:=⟨[.int .i64 x.f0.f0,.int .i64 x.f0.f1,.int .i64 x.f0.f2,.int .i64 x.f0.f3,.int .i64 x.f0.f4.f0,.int .i64 x.f0.f4.f1,.int .i64 x.f0.f4.f2],[.int .i64 x.f1,.bool x.f2,.bool x.f3],rfl,(M3 w base ok x.f0),⟨[.int .i64 x.f1],[.bool x.f2,.bool x.f3],rfl,rfl,⟨[.bool x.f2],[.bool x.f3],rfl,rfl,rfl⟩⟩⟩
def Qb (xs:List S31) (i:Int):S31:=xs.getD i.toNat z31
theorem Gh {w:World} {A:Option Addr} {n:Nat} {xs:List S31} (h:Kd.C k31 w A n xs) (i:Int) (X:0≤i) (h1:i<n):∃ ad,A=some ad∧w.cell? (ad.add (i.toNat * 10))=some (.int .i64 (Qb xs i).f0.f0)∧w.cell? ⟨(ad.add (i.toNat * 10)).block,(ad.add (i.toNat * 10)).off+1,none⟩=some (.int .i64 (Qb xs i).f0.f1)∧w.cell? ⟨(ad.add (i.toNat * 10)).block,(ad.add (i.toNat * 10)).off+2,none⟩=some (.int .i64 (Qb xs i).f0.f2)∧w.cell? ⟨(ad.add (i.toNat * 10)).block,(ad.add (i.toNat * 10)).off+3,none⟩=some (.int .i64 (Qb xs i).f0.f3)∧w.cell? ⟨(ad.add (i.toNat * 10)).block,(ad.add (i.toNat * 10)).off+4,none⟩=some (.int .i64 (Qb xs i).f0.f4.f0)∧w.cell? ⟨(ad.add (i.toNat * 10)).block,(ad.add (i.toNat * 10)).off+5,none⟩=some (.int .i64 (Qb xs i).f0.f4.f1)∧w.cell? ⟨(ad.add (i.toNat * 10)).block,(ad.add (i.toNat * 10)).off+6,none⟩=some (.int .i64 (Qb xs i).f0.f4.f2)∧w.cell? ⟨(ad.add (i.toNat * 10)).block,(ad.add (i.toNat * 10)).off+7,none⟩=some (.int .i64 (Qb xs i).f1)∧w.cell? ⟨(ad.add (i.toNat * 10)).block,(ad.add (i.toNat * 10)).off+8,none⟩=some (.bool (Qb xs i).f2)∧w.cell? ⟨(ad.add (i.toNat * 10)).block,(ad.add (i.toNat * 10)).off+9,none⟩=some (.bool (Qb xs i).f3):=by
 obtain⟨ad,c,e,_,hK,γ⟩:=Kd.G7 h z31 i X h1
 have hc:∀ j u,c[j]?=some u→w.cell? (ad.add (i.toNat * 10+j))=some u:=γ
 obtain rfl:=Uh hK
 exact⟨ad,e,hc 0 _ rfl,by rw[← Zz _ _ 1 (by omega)];exact hc 1 _ rfl,by rw[← Zz _ _ 2 (by omega)];exact hc 2 _ rfl,by rw[← Zz _ _ 3 (by omega)];exact hc 3 _ rfl,by rw[← Zz _ _ 4 (by omega)];exact hc 4 _ rfl,by rw[← Zz _ _ 5 (by omega)];exact hc 5 _ rfl,by rw[← Zz _ _ 6 (by omega)];exact hc 6 _ rfl,by rw[← Zz _ _ 7 (by omega)];exact hc 7 _ rfl,by rw[← Zz _ _ 8 (by omega)];exact hc 8 _ rfl,by rw[← Zz _ _ 9 (by omega)];exact hc 9 _ rfl⟩
structure S23 where
 f0:Int
 f1:Int
 f2:Int
 f3:Int
 f4:Int
 f5:Int
 f6:Int
def k23:Kd S23:=Kd.iso (Kd.pair (Kd.int .i64) (Kd.pair (Kd.int .i64) (Kd.pair (Kd.int .i64) (Kd.pair (Kd.int .i64) (Kd.pair (Kd.int .i64) (Kd.pair (Kd.int .i64) (Kd.int .i64))))))) (fun x:S23=>(x.f0,x.f1,x.f2,x.f3,x.f4,x.f5,x.f6))
theorem L4 {w:World} {x:S23} {cs:List Value} (h:k23.K w x cs):cs = [.int .i64 x.f0,.int .i64 x.f1,.int .i64 x.f2,.int .i64 x.f3,.int .i64 x.f4,.int .i64 x.f5,.int .i64 x.f6]:=by
 obtain⟨_,_,rfl,rfl,⟨_,_,rfl,rfl,⟨_,_,rfl,rfl,⟨_,_,rfl,rfl,⟨_,_,rfl,rfl,⟨_,_,rfl,rfl,rfl⟩⟩⟩⟩⟩⟩:=h
 exact rfl
structure S25 where
 f0:Int
 f1:S23
 f2:Int
 f3:Int
def k25:Kd S25:=Kd.iso (Kd.pair (Kd.int .i64) (Kd.pair k23 (Kd.pair (Kd.int .i64) (Kd.int .i64)))) (fun x:S25=>(x.f0,x.f1,x.f2,x.f3))
theorem L3 {w:World} {x:S25} {cs:List Value} (h:k25.K w x cs):cs = [.int .i64 x.f0,.int .i64 x.f1.f0,.int .i64 x.f1.f1,.int .i64 x.f1.f2,.int .i64 x.f1.f3,.int .i64 x.f1.f4,.int .i64 x.f1.f5,.int .i64 x.f1.f6,.int .i64 x.f2,.int .i64 x.f3]:=by
 obtain⟨_,_,rfl,rfl,⟨_,_,rfl,s1,⟨_,_,rfl,rfl,rfl⟩⟩⟩:=h
 obtain rfl:=L4 s1
 exact rfl
def door_within.f (B:Int) (O:Int) (a2:Int):Option (Bool):=if O≤B then (some (decide (B≤a2))) else (some false)
set_option maxHeartbeats 8000000 in
set_option maxRecDepth 100000 in
theorem door_within.calls (B:Int) (O:Int) (a2:Int) (r:Bool) (w:World) (h:door_within.f B O a2=some r):
  Calls Try.prog 86 #[.int .i64 B,.int .i64 O,.int .i64 a2] w fun e w'=>e = .returned (.bool r)∧Drawn0 w w':=by
 have H:(if O≤B then (some (decide (B≤a2))) else (some false))=some r:=h
 clear h
 by_cases c4:O≤B
 ·rw[if_pos c4] at H
  have c4b0:decide (O≤B)=true:=decide_eq_true c4
  clear c4
  obtain rfl:=Option.some.inj H
  go_enter Try.func86,Try.ntmps86
  go_wp2
  go_ret
  exact⟨qR,by repeat(first|exact Drawn0.refl _|apply Drawn0.step)⟩
 ·rw[if_neg c4] at H
  have c4b0:decide (O≤B)=false:=decide_eq_false c4
  clear c4
  obtain rfl:=Option.some.inj H
  go_enter Try.func86,Try.ntmps86
  go_wp2
  go_ret
  exact⟨qR,by repeat(first|exact Drawn0.refl _|apply Drawn0.step)⟩
end Go.Proofs.Ytmfffemidlhcpaa.C
set_option linter.unusedVariables false
namespace Go.Proofs.Ytmfffemidlhcpaa.C
open Go.RowKit Go.Proofs.YtmfffemidlhcpaaW.PrintWords Go.Proofs.YtmfffemidlhcpaaW.PrintLast Go.Proofs.YtmfffemidlhcpaaW.PrintMore
theorem bel {B:Nat} {w W:World} (h:Below B w W:=by repeat(first|(with_reducible first|exact HB.out|apply Qo|apply Qi|apply Qf|refine Qp ?_ (Aside0.out (by assumption)))|exact HB.out|(refine Qp ?_ (Aside0.out (by assumption))))):Below B w W:=h
theorem bka {w W:World} {g:Nat} {o:Obj} (b:Aside0 (w.heap[g]?=some o)) (e:W.heap[g]?=some o:=by(with_reducible repeat(first|refine Qj ?_ _|refine Qd ?_|refine Qk ?_ _|refine X1 ?_ (Aside0.out (by assumption)) _));exact Aside0.out (by assumption)):W.heap[g]?=some o:=e
theorem kra {α:Type} {d:Kd α} {O:TypeId} {w W:World} {base:Nat} {ok:Nat→Prop} {v:Value} {xs:List α} (b:Aside0 (d.R O w base ok v xs)) (e:d.R O W base ok v xs:=by(with_reducible repeat first|apply Kd.Qw|apply Kd.Qv|apply Kd.Q1);exact Aside0.out (by assumption)):d.R O W base ok v xs:=e
theorem sRb {α:Type} {d:Kd α} {O:TypeId} {w w1 w2:World} {base:Nat} {ok:Nat→Prop} {v:Value} {xs:List α} (b:Aside0 (d.R O w base ok v xs)) (h:Below w1.heap.size w1 w2) (e:d.R O w1 base ok v xs:=by(with_reducible repeat first|apply Kd.Qw|apply Kd.Qv|apply Kd.Q1);exact Aside0.out (by assumption)):Aside0 (d.R O w2 base ok v xs):=⟨Kd.Z2 e h⟩
theorem sBk {w w1 w2:World} {g:Nat} {o:Obj} (b:Aside0 (w.heap[g]?=some o)) (h:Below w1.heap.size w1 w2) (e:w1.heap[g]?=some o:=by(with_reducible repeat(first|refine Qj ?_ _|refine Qd ?_|refine Qk ?_ _|refine X1 ?_ (Aside0.out (by assumption)) _));exact Aside0.out (by assumption)):Aside0 (w2.heap[g]?=some o):=⟨Qs e h⟩
theorem sHb {w W w2:World} (h:Below W.heap.size W w2) (b:Below w.heap.size w W:=by repeat(first|(with_reducible first|exact HB.out|apply Qo|apply Qi|apply Qf|refine Qp ?_ (Aside0.out (by assumption)))|exact HB.out|(refine Qp ?_ (Aside0.out (by assumption))))):Aside0 (Below w.heap.size w w2):=⟨Qx b h⟩
theorem sGe {w W:World} {g:Nat} (h:g=W.heap.size) (b:Below w.heap.size w W:=by repeat(first|(with_reducible first|exact HB.out|apply Qo|apply Qi|apply Qf|refine Qp ?_ (Aside0.out (by assumption)))|exact HB.out|(refine Qp ?_ (Aside0.out (by assumption))))):Aside0 (w.heap.size≤g):=⟨by rw[h];exact Qr b⟩
theorem sNl {w W:World} {g k:Nat} {o:Obj} (b:Aside0 (w.heap[g]?=some o)) (h:k=W.heap.size) (e:W.heap[g]?=some o:=by(with_reducible repeat(first|refine Qj ?_ _|refine Qd ?_|refine Qk ?_ _|refine X1 ?_ (Aside0.out (by assumption)) _));exact Aside0.out (by assumption)):Aside0 (g≠k):=⟨by rw[h];exact Nat.ne_of_lt (Xd e)⟩
theorem sNg {w W:World} {g k:Nat} {o:Obj} (b:Aside0 (w.heap[g]?=some o)) (h:k=W.heap.size) (e:W.heap[g]?=some o:=by(with_reducible repeat(first|refine Qj ?_ _|refine Qd ?_|refine Qk ?_ _|refine X1 ?_ (Aside0.out (by assumption)) _));exact Aside0.out (by assumption)):Aside0 (k≠g):=⟨by rw[h];exact Nat.ne_of_gt (Xd e)⟩
def bN (n m:Nat):Array Bool:=((List.range n).map fun i=>m.testBit i).toArray
end Go.Proofs.Ytmfffemidlhcpaa.C
namespace Go.Proofs.Ytmfffemidlhcpaa.C
open Go.RowKit Go.Proofs.YtmfffemidlhcpaaW.PrintWords Go.Proofs.YtmfffemidlhcpaaW.PrintLast Go.Proofs.YtmfffemidlhcpaaW.PrintMore
attribute [local go_sem] Zx Zv Z8 Z7 Zl Zk Zw Zu
set_option linter.unusedVariables false
set_option linter.unusedSimpArgs false
def door_times.l0:Nat→List Int→Int→Int→Int→Int→Int→Int→Int→Int→Int→Option (Bool)
 |0,_,_,_,_,_,_,_,_,_,_=>none
 |k+1,B,μ,L,O,X,Y,Z,γ,δ,J=>if L < μ then (if 0≤L then (if L<(B.length:Int) then ((door_within.f (rd B L) 1 60).bind fun θ =>(if θ = true then (door_times.l0 k B μ (wrap64 (L+1)) O X Y Z γ δ J) else (some false))) else (none)) else (none)) else ((door_within.f J 0 60).bind fun η =>(some η))
def door_times.f (k:Nat) (J:Int) (B:Int) (L:Int) (O:Int) (X:Int) (δ :Int) (γ:Int):Option (Bool):=(some (([J,B,L,O,X,δ]:List Int):List Int)).bind fun ε =>(door_times.l0 k ε (ε.length:Int) 0 J B L O X δ γ)
theorem door_times.Zi:∀ k,(∀ L O X B Y Z y6 y7 y8 y9,LeO (door_times.l0 k L O X B Y Z y6 y7 y8 y9) (door_times.l0 (k+1) L O X B Y Z y6 y7 y8 y9))
 |0=>fun _ _ _ _ _ _ _ _ _ _ r h=>by simp[door_times.l0] at h
 |k+1=>by
  have J:=door_times.Zi k
  ·intro L O X B Y Z y6 y7 y8 y9
   unfold door_times.l0
   repeat' first
   |(with_reducible exact J _ _ _ _ _ _ _ _ _ _)
   |(with_reducible exact LeO.refl _)
   |(with_reducible exact LeO.none _)
   |(with_reducible refine LeO.ite ?_ ?_)
   |(with_reducible refine LeO.bind ?_ (fun _=>?_))
   |exact J _ _ _ _ _ _ _ _ _ _
   |exact LeO.none _
   |refine LeO.ite ?_ ?_
   |refine LeO.bind ?_ (fun _=>?_)
theorem door_times.mono:∀ B O a2 a3 L a5 X k,LeO (door_times.f k B O a2 a3 L a5 X) (door_times.f (k+1) B O a2 a3 L a5 X):=by
 intro B O a2 a3 L a5 X k
 have J:=door_times.Zi k
 unfold door_times.f
 repeat' first
   |(with_reducible exact J _ _ _ _ _ _ _ _ _ _)
   |(with_reducible exact LeO.refl _)
   |(with_reducible exact LeO.none _)
   |(with_reducible refine LeO.ite ?_ ?_)
   |(with_reducible refine LeO.bind ?_ (fun _=>?_))
   |exact J _ _ _ _ _ _ _ _ _ _
   |exact LeO.none _
   |refine LeO.ite ?_ ?_
   |refine LeO.bind ?_ (fun _=>?_)
set_option maxHeartbeats 8000000 in
set_option maxRecDepth 100000 in
theorem door_times.calls (k:Nat) (J:Int) (B:Int) (L:Int) (O:Int) (X:Int) (δ :Int) (γ:Int) (r:Bool) (w:World) (h:door_times.f k J B L O X δ γ=some r):
  Calls Try.prog 70 #[.agg #[.int .i64 J,.int .i64 B,.int .i64 L,.int .i64 O,.int .i64 X,.int .i64 δ,.int .i64 γ]] w fun e w'=>e = .returned (.bool r)∧Below w.heap.size w w':=by
 have g7:=Try.underlying23
 have HB:=Aside0.mk (Below.refl w.heap.size w)
 have H:((some (([J,B,L,O,X,δ]:List Int):List Int)).bind fun ε =>(door_times.l0 k ε (ε.length:Int) 0 J B L O X δ γ))=some r:=h
 clear h
 obtain⟨ε,ι⟩:∃ y_:List Int,y_=(([J,B,L,O,X,δ]:List Int)):=⟨_,rfl⟩
 replace H:(door_times.l0 k ε (ε.length:Int) 0 J B L O X δ γ)=some r:=by first|(rw[ι];with_reducible exact H)|(have am:=(Option.bind_some _ _).symm.trans H;rw[ι];with_reducible exact am)|(have am:=(Option.bind_some _ _).symm.trans H;with_reducible exact am)|with_reducible exact H|(rw[ι];exact H)|exact H
 have ν :=Aside0.mk ι
 clear ι
 have H':=Aside0.mk H
 clear H
 go_enter Try.func70,Try.ntmps70
 go_wp2_with (first|((with_reducible refine Qe (N:=1) rfl ?_);refine qE 1 #[.int .i64 J,.int .i64 B,.int .i64 L,.int .i64 O,.int .i64 X,.int .i64 δ,.int .i64 γ] 23 ?_;intro Z hg w2 hbox hb;have Y:=Aside0.mk hbox;have ρ:=sGe hg;have κ :=sGe hg;replace HB:=sHb hb;clear hb hbox hg;obtain⟨χ,a0,a1,a2,a5,a6,a7,a9,ac,af,ag,ah,ai,aj⟩:=qD7 Y.out)|((with_reducible refine Qe (N:=17) rfl ?_);refine Kd.G6 (Kd.int .i64) _ 3 ?hg (N:=17) ?hd (xs:=([J,B,L,O,X,δ]:List Int)) (inner:=[.int .i64 J,.int .i64 B,.int .i64 L,.int .i64 O,.int .i64 X,.int .i64 δ]) (ok:=fun _=>True) (okp:=fun _=>True) ?hr ?hp (fun _ hk=>hk) trivial (Below.refl _ _) (Nat.le_refl _) (by simp) ?_;(case hd=>rfl);(case hg=>rfl);(case hr=>go_simp <;> rfl);(case hp=>exact(Reps.one (show Kd.M (Kd.int .i64) _ _ _ J [.int .i64 J] from rfl) (Reps.one (show Kd.M (Kd.int .i64) _ _ _ B [.int .i64 B] from rfl) (Reps.one (show Kd.M (Kd.int .i64) _ _ _ L [.int .i64 L] from rfl) (Reps.one (show Kd.M (Kd.int .i64) _ _ _ O [.int .i64 O] from rfl) (Reps.one (show Kd.M (Kd.int .i64) _ _ _ X [.int .i64 X] from rfl) (Reps.one (show Kd.M (Kd.int .i64) _ _ _ δ [.int .i64 δ] from rfl) (Reps.none _ _))))))));intro ak w4 σ hb hg_ hnew_;clear hg_ hnew_;(first|rw[← ν.out] at σ|(simp only[Int.reduceToNat] at σ;rw[← ν.out] at σ));have μ :=Aside0.mk (Kd.Q9 σ (Qr HB.out));replace Y:=sBk Y hb;replace HB:=sHb hb;clear hb σ;obtain⟨au,av,az⟩:=Kd.Q7 μ.out;subst az))
 go_loopg [19] k (fun kq cd w'=>∃ (ζ :Int),cd = .int .i64 ζ ∧ Aside0 (door_times.l0 kq ε (ε.length:Int) ζ J B L O X δ γ=some r)∧Aside0 (kq≤k)∧Aside0 (Kd.R (Kd.int .i64) 3 w' w.heap.size (fun _=>True) (.slice au ε.length av) ε)∧Aside0 (w'.heap[Z]?=some (.cells #[.int .i64 J,.int .i64 B,.int .i64 L,.int .i64 O,.int .i64 X,.int .i64 δ,.int .i64 γ] 23 (0,0)))∧Aside0 (Below w.heap.size w w'))
 case atStart=>exact⟨(0),rfl,H',⟨Nat.le_refl _⟩,⟨by(with_reducible repeat first|apply Kd.Qw|apply Kd.Qv|apply Kd.Q1);exact μ.out⟩,Y,HB⟩
 case round=>
  clear H'
  try clear p2
  try clear χ
  try clear a0
  try clear a1
  try clear a2
  try clear a5
  try clear a6
  try clear a7
  try clear a9
  try clear ac
  try clear af
  try clear ag
  try clear ah
  try clear ai
  try clear aj
  obtain⟨ζ,rfl,HA,an,HO_17,Y,HB⟩:=hrel
  cases gk with
  |zero=>exact absurd HA.out (by simp[door_times.l0])
  |succ k1=>
   have H:=HA.out
   clear HA
   simp only[door_times.l0] at H
   by_cases c7: ζ < (ε.length:Int)
   ·rw[if_pos c7] at H
    have c7b0:decide (ζ < (ε.length:Int))=true:=decide_eq_true c7
    clear c7
    by_cases c8:0 ≤ ζ
    ·rw[if_pos c8] at H
     have c8b0:decide (0 ≤ ζ)=true:=decide_eq_true c8
     clear c8
     by_cases c9: ζ < (ε.length:Int)
     ·rw[if_pos c9] at H
      have c9b0:decide (ζ < (ε.length:Int))=true:=decide_eq_true c9
      clear c9
      replace H:=Option.bind_eq_some_iff.mp H
      obtain⟨θ,d1,H⟩:=H
      replace H:(if θ = true then (door_times.l0 k1 ε (ε.length:Int) (wrap64 (ζ + 1)) J B L O X δ γ) else (some false))=some r:=H
      have dl:=Aside0.mk d1
      clear d1
      by_cases ae: θ = true
      ·subst ae
       have H1:(door_times.l0 k1 ε (ε.length:Int) (wrap64 (ζ + 1)) J B L O X δ γ)=some r:=by rw[if_pos rfl] at H;exact H
       clear H
       have H:=H1
       clear H1
       have H':=Aside0.mk H
       clear H
       have φ :0≤(ζ :Int):=of_decide_eq_true (by assumption)
       have ψ : ζ < (ε.length:Int):=of_decide_eq_true (by assumption)
       obtain⟨a3,ab,ξ⟩:=Kd.Yh (Kd.Qy HO_17.out).2.2 ζ φ ψ
       cases ab
       replace φ :=eq_true φ
       replace ψ :=eq_true ψ
       go_wp2_with (first|((with_reducible refine Ql (f:=86) rfl ?_);refine Q2 (some 24) rfl rfl Try.func86 kr rfl #[.int .i64 (rd ε ζ),.int .i64 1,.int .i64 60] rfl qM ?_;(with_reducible refine(door_within.calls (rd ε ζ) 1 60 true _ dl.out).mono ?_);rintro e w' ⟨rfl,⟨nd,rfl⟩⟩;refine⟨_,rfl, ?_⟩))
       go_roundg k1
       case measure=>have:=an.out;omega
       case rel=>exact⟨(wrap64 (ζ + 1)),qR,H',⟨by have:=an.out;omega⟩,⟨by(with_reducible repeat first|apply Kd.Qw|apply Kd.Qv|apply Kd.Q1);exact HO_17.out⟩,⟨bka Y⟩,⟨bel⟩⟩
      ·replace ae:=Bool.eq_false_iff.mpr ae
       subst ae
       have H1:(some false)=some r:=by rw[if_neg (show ¬ (false=true) by decide)] at H;exact H
       clear H
       have H:=H1
       clear H1
       obtain rfl:=Option.some.inj H
       have φ :0≤(ζ :Int):=of_decide_eq_true (by assumption)
       have ψ : ζ < (ε.length:Int):=of_decide_eq_true (by assumption)
       obtain⟨a3,ab,ξ⟩:=Kd.Yh (Kd.Qy HO_17.out).2.2 ζ φ ψ
       cases ab
       replace φ :=eq_true φ
       replace ψ :=eq_true ψ
       go_wp2_with (first|((with_reducible refine Ql (f:=86) rfl ?_);refine Q2 (some 24) rfl rfl Try.func86 kr rfl #[.int .i64 (rd ε ζ),.int .i64 1,.int .i64 60] rfl qM ?_;(with_reducible refine(door_within.calls (rd ε ζ) 1 60 false _ dl.out).mono ?_);rintro e w' ⟨rfl,⟨nd,rfl⟩⟩;refine⟨_,rfl, ?_⟩))
       go_ret
       exact⟨by first|rfl|(simp[Qh,Qg] <;> rfl)|(simp[*,Qh,Qg] <;> rfl),bel⟩
     ·rw[if_neg c9] at H
      exact absurd H (by simp)
    ·rw[if_neg c8] at H
     exact absurd H (by simp)
   ·rw[if_neg c7] at H
    have c7b0:decide (ζ < (ε.length:Int))=false:=decide_eq_false c7
    clear c7
    replace H:=Option.bind_eq_some_iff.mp H
    obtain⟨η,a4,H⟩:=H
    replace H:(some η)=some r:=H
    have al:=Aside0.mk a4
    clear a4
    obtain rfl:=Option.some.inj H
    obtain⟨ap,aw,τ,a8,aa,ao,ay,ar,ax,ω,b0,b1,b2,b3⟩:=qD7 Y.out
    go_wp2_with (first|((with_reducible refine Ql (f:=86) rfl ?_);refine Q2 (some 29) rfl rfl Try.func86 kr rfl #[.int .i64 γ,.int .i64 0,.int .i64 60] rfl qM ?_;(with_reducible refine(door_within.calls γ 0 60 η _ al.out).mono ?_);rintro e w' ⟨rfl,⟨nd,rfl⟩⟩;refine⟨_,rfl, ?_⟩))
    go_ret
    exact⟨by first|rfl|(simp[Qh,Qg] <;> rfl)|(simp[*,Qh,Qg] <;> rfl),bel⟩
def door_gear.f (k:Nat) (J:Int) (B:Int) (L:Int) (O:Int) (X:Int) (δ :Int) (γ:Int) (θ :Int) (η :Int) (ζ :Int):Option (Bool):=(door_times.f k B L O X δ γ θ).bind fun κ =>(if κ = true then ((door_within.f J 2 64).bind fun ι =>(if ι = true then ((door_within.f η 1 300).bind fun ε =>(if ε = true then ((door_within.f ζ 0 60).bind fun Z=>(some Z)) else (some false))) else (some false))) else (some false))
theorem door_gear.mono:∀ B O a2 a3 L a5 X a7 a8 a9 k,LeO (door_gear.f k B O a2 a3 L a5 X a7 a8 a9) (door_gear.f (k+1) B O a2 a3 L a5 X a7 a8 a9):=by
 intro B O a2 a3 L a5 X a7 a8 a9 k
 unfold door_gear.f
 repeat' first
   |(with_reducible exact door_times.mono _ _ _ _ _ _ _ _)
   |(with_reducible exact LeO.refl _)
   |(with_reducible exact LeO.none _)
   |(with_reducible refine LeO.ite ?_ ?_)
   |(with_reducible refine LeO.bind ?_ (fun _=>?_))
   |exact door_times.mono _ _ _ _ _ _ _ _
   |exact LeO.none _
   |refine LeO.ite ?_ ?_
   |refine LeO.bind ?_ (fun _=>?_)
set_option maxHeartbeats 8000000 in
set_option maxRecDepth 100000 in
theorem door_gear.calls (k:Nat) (J:Int) (B:Int) (L:Int) (O:Int) (X:Int) (δ :Int) (γ:Int) (θ :Int) (η :Int) (ζ :Int) (r:Bool) (w:World) (h:door_gear.f k J B L O X δ γ θ η ζ = some r):
  Calls Try.prog 72 #[.agg #[.int .i64 J,.int .i64 B,.int .i64 L,.int .i64 O,.int .i64 X,.int .i64 δ,.int .i64 γ,.int .i64 θ,.int .i64 η,.int .i64 ζ]] w fun e w'=>e = .returned (.bool r)∧Below w.heap.size w w':=by
 have db:=Try.underlying25
 have g7:=Try.underlying23
 have HB:=Aside0.mk (Below.refl w.heap.size w)
 have H:((door_times.f k B L O X δ γ θ).bind fun κ =>(if κ = true then ((door_within.f J 2 64).bind fun ι =>(if ι = true then ((door_within.f η 1 300).bind fun ε =>(if ε = true then ((door_within.f ζ 0 60).bind fun Z=>(some Z)) else (some false))) else (some false))) else (some false)))=some r:=h
 clear h
 replace H:=Option.bind_eq_some_iff.mp H
 obtain⟨κ,bh,H⟩:=H
 replace H:(if κ = true then ((door_within.f J 2 64).bind fun ι =>(if ι = true then ((door_within.f η 1 300).bind fun ε =>(if ε = true then ((door_within.f ζ 0 60).bind fun Z=>(some Z)) else (some false))) else (some false))) else (some false))=some r:=H
 have A2:=Aside0.mk bh
 clear bh
 by_cases c3: κ = true
 ·subst c3
  have H1:((door_within.f J 2 64).bind fun ι =>(if ι = true then ((door_within.f η 1 300).bind fun ε =>(if ε = true then ((door_within.f ζ 0 60).bind fun Z=>(some Z)) else (some false))) else (some false)))=some r:=by rw[if_pos rfl] at H;exact H
  clear H
  have H:=H1
  clear H1
  replace H:=Option.bind_eq_some_iff.mp H
  obtain⟨ι,ay,H⟩:=H
  replace H:(if ι = true then ((door_within.f η 1 300).bind fun ε =>(if ε = true then ((door_within.f ζ 0 60).bind fun Z=>(some Z)) else (some false))) else (some false))=some r:=H
  have A4:=Aside0.mk ay
  clear ay
  by_cases c5: ι = true
  ·subst c5
   have H1:((door_within.f η 1 300).bind fun ε =>(if ε = true then ((door_within.f ζ 0 60).bind fun Z=>(some Z)) else (some false)))=some r:=by rw[if_pos rfl] at H;exact H
   clear H
   have H:=H1
   clear H1
   replace H:=Option.bind_eq_some_iff.mp H
   obtain⟨ε,ao,H⟩:=H
   replace H:(if ε = true then ((door_within.f ζ 0 60).bind fun Z=>(some Z)) else (some false))=some r:=H
   have A6:=Aside0.mk ao
   clear ao
   by_cases c7: ε = true
   ·subst c7
    have H1:((door_within.f ζ 0 60).bind fun Z=>(some Z))=some r:=by rw[if_pos rfl] at H;exact H
    clear H
    have H:=H1
    clear H1
    replace H:=Option.bind_eq_some_iff.mp H
    obtain⟨Z,bl,H⟩:=H
    replace H:(some Z)=some r:=H
    have A8:=Aside0.mk bl
    clear bl
    obtain rfl:=Option.some.inj H
    go_enter Try.func72,Try.ntmps72
    go_wp2_with (first|((with_reducible refine Qe (N:=1) rfl ?_);refine qE 1 #[.int .i64 J,.int .i64 B,.int .i64 L,.int .i64 O,.int .i64 X,.int .i64 δ,.int .i64 γ,.int .i64 θ,.int .i64 η,.int .i64 ζ] 25 ?_;intro μ hg w9 hbox hb;have Y:=Aside0.mk hbox;have ν :=sGe hg;have ξ :=sGe hg;replace HB:=sHb hb;clear hb hbox hg;obtain⟨a7,ae,d9,dj,dk,dl,dm,a0,ab,e8,dn,dp,dq,dr,dt,dw,e3,fe,fj,fk⟩:=Za Y.out)|((with_reducible refine Ql (f:=70) rfl ?_);refine Q2 (some 5) rfl rfl Try.func70 kr rfl #[.agg #[.int .i64 B,.int .i64 L,.int .i64 O,.int .i64 X,.int .i64 δ,.int .i64 γ,.int .i64 θ]] rfl qM ?_;(with_reducible refine(door_times.calls k B L O X δ γ θ true _ A2.out).mono ?_);rintro e el ⟨rfl,hb⟩;refine⟨_,rfl, ?_⟩;replace Y:=sBk Y hb;replace HB:=sHb hb;(try clear hb);(try clear a9);(try clear hk);(try clear hi);obtain⟨a2,a3,a8,al,ar,aw,ax,eg,eh,ei,a4,a5,aa,b0,b1,b2,b3,ej,eo,er⟩:=Za Y.out)|(go_at_call 86;(with_reducible refine(door_within.calls J 2 64 true _ A4.out).mono ?_);rintro e w' ⟨rfl,⟨nd,rfl⟩⟩)|(go_at_call 86;(with_reducible refine(door_within.calls η 1 300 true _ A6.out).mono ?_);rintro e w' ⟨rfl,⟨nd,rfl⟩⟩)|(go_at_call 86;(with_reducible refine(door_within.calls ζ 0 60 Z _ A8.out).mono ?_);rintro e w' ⟨rfl,⟨nd,rfl⟩⟩))
    go_ret
    exact⟨by first|rfl|(simp[Qh,Qg] <;> rfl)|(simp[*,Qh,Qg] <;> rfl),bel⟩
   ·replace c7:=Bool.eq_false_iff.mpr c7
    subst c7
    have H1:(some false)=some r:=by rw[if_neg (show ¬ (false=true) by decide)] at H;exact H
    clear H
    have H:=H1
    clear H1
    obtain rfl:=Option.some.inj H
    go_enter Try.func72,Try.ntmps72
    go_wp2_with (first|((with_reducible refine Qe (N:=1) rfl ?_);refine qE 1 #[.int .i64 J,.int .i64 B,.int .i64 L,.int .i64 O,.int .i64 X,.int .i64 δ,.int .i64 γ,.int .i64 θ,.int .i64 η,.int .i64 ζ] 25 ?_;intro μ hg ek hbox hb;have Y:=Aside0.mk hbox;have ν :=sGe hg;have ξ :=sGe hg;replace HB:=sHb hb;clear hb hbox hg;obtain⟨cg,ch,cx,cy,cz,d0,d1,dc,ff,fg,ci,cj,d2,d3,d4,d5,d6,dd,fh,fi⟩:=Za Y.out)|((with_reducible refine Ql (f:=70) rfl ?_);refine Q2 (some 5) rfl rfl Try.func70 kr rfl #[.agg #[.int .i64 B,.int .i64 L,.int .i64 O,.int .i64 X,.int .i64 δ,.int .i64 γ,.int .i64 θ]] rfl qM ?_;(with_reducible refine(door_times.calls k B L O X δ γ θ true _ A2.out).mono ?_);rintro e gs ⟨rfl,hb⟩;refine⟨_,rfl, ?_⟩;replace Y:=sBk Y hb;replace HB:=sHb hb;(try clear hb);(try clear a9);(try clear hk);(try clear hi);obtain⟨dx,dy,bm,bz,de,df,e4,e5,fl,fm,dz,e0,br,e6,e7,e9,ea,eb,fn,fo⟩:=Za Y.out)|(go_at_call 86;(with_reducible refine(door_within.calls J 2 64 true _ A4.out).mono ?_);rintro e w' ⟨rfl,⟨nd,rfl⟩⟩)|(go_at_call 86;(with_reducible refine(door_within.calls η 1 300 false _ A6.out).mono ?_);rintro e w' ⟨rfl,⟨nd,rfl⟩⟩))
    go_ret
    exact⟨by first|rfl|(simp[Qh,Qg] <;> rfl)|(simp[*,Qh,Qg] <;> rfl),bel⟩
  ·replace c5:=Bool.eq_false_iff.mpr c5
   subst c5
   have H1:(some false)=some r:=by rw[if_neg (show ¬ (false=true) by decide)] at H;exact H
   clear H
   have H:=H1
   clear H1
   obtain rfl:=Option.some.inj H
   go_enter Try.func72,Try.ntmps72
   go_wp2_with (first|((with_reducible refine Qe (N:=1) rfl ?_);refine qE 1 #[.int .i64 J,.int .i64 B,.int .i64 L,.int .i64 O,.int .i64 X,.int .i64 δ,.int .i64 γ,.int .i64 θ,.int .i64 η,.int .i64 ζ] 25 ?_;intro μ hg du hbox hb;have Y:=Aside0.mk hbox;have ν :=sGe hg;have ξ :=sGe hg;replace HB:=sHb hb;clear hb hbox hg;obtain⟨b9,bc,ce,ee,ef,em,et,bn,bo,bp,bd,be,di,eu,ev,ew,ey,ez,f8,fp⟩:=Za Y.out)|((with_reducible refine Ql (f:=70) rfl ?_);refine Q2 (some 5) rfl rfl Try.func70 kr rfl #[.agg #[.int .i64 B,.int .i64 L,.int .i64 O,.int .i64 X,.int .i64 δ,.int .i64 γ,.int .i64 θ]] rfl qM ?_;(with_reducible refine(door_times.calls k B L O X δ γ θ true _ A2.out).mono ?_);rintro e az ⟨rfl,hb⟩;refine⟨_,rfl, ?_⟩;replace Y:=sBk Y hb;replace HB:=sHb hb;(try clear hb);(try clear a9);(try clear hk);(try clear hi);obtain⟨bs,bu,cb,gj,gk,gl,gm,gi,gt,gu,bv,bw,cd,gn,gp,gq,gr,gv,gw,gx⟩:=Za Y.out)|(go_at_call 86;(with_reducible refine(door_within.calls J 2 64 false _ A4.out).mono ?_);rintro e w' ⟨rfl,⟨nd,rfl⟩⟩))
   go_ret
   exact⟨by first|rfl|(simp[Qh,Qg] <;> rfl)|(simp[*,Qh,Qg] <;> rfl),bel⟩
 ·replace c3:=Bool.eq_false_iff.mpr c3
  subst c3
  have H1:(some false)=some r:=by rw[if_neg (show ¬ (false=true) by decide)] at H;exact H
  clear H
  have H:=H1
  clear H1
  obtain rfl:=Option.some.inj H
  go_enter Try.func72,Try.ntmps72
  go_wp2_with (first|((with_reducible refine Qe (N:=1) rfl ?_);refine qE 1 #[.int .i64 J,.int .i64 B,.int .i64 L,.int .i64 O,.int .i64 X,.int .i64 δ,.int .i64 γ,.int .i64 θ,.int .i64 η,.int .i64 ζ] 25 ?_;intro μ hg bg hbox hb;have Y:=Aside0.mk hbox;have ν :=sGe hg;have ξ :=sGe hg;replace HB:=sHb hb;clear hb hbox hg;obtain⟨bf,cr,d8,h0,h7,h8,h9,fa,fb,fz,ct,cu,da,hh,hj,hl,ho,i9,ih,ii⟩:=Za Y.out)|((with_reducible refine Ql (f:=70) rfl ?_);refine Q2 (some 5) rfl rfl Try.func70 kr rfl #[.agg #[.int .i64 B,.int .i64 L,.int .i64 O,.int .i64 X,.int .i64 δ,.int .i64 γ,.int .i64 θ]] rfl qM ?_;(with_reducible refine(door_times.calls k B L O X δ γ θ false _ A2.out).mono ?_);rintro e bb ⟨rfl,hb⟩;refine⟨_,rfl, ?_⟩;replace Y:=sBk Y hb;replace HB:=sHb hb;(try clear hb);(try clear a9);(try clear hk);(try clear hi)))
  go_ret
  exact⟨rfl,HB.out⟩
def door_on.f (J:Int) (B:Int) (L:Int) (O:Int) (a2:Int):Option (Int×Int×Int):=if (wrap64 (B-1))=0 then (some (O,a2,L)) else (some (J,wrap64 (B-1),L))
def car_within.f (B:Int) (O:Int) (a2:Int):Option (Bool):=if O≤B then (some (decide (B≤a2))) else (some false)
set_option maxHeartbeats 8000000 in
set_option maxRecDepth 100000 in
theorem car_within.calls (B:Int) (O:Int) (a2:Int) (r:Bool) (w:World) (h:car_within.f B O a2=some r):
  Calls Try.prog 85 #[.int .i64 B,.int .i64 O,.int .i64 a2] w fun e w'=>e = .returned (.bool r)∧Drawn0 w w':=by
 have H:(if O≤B then (some (decide (B≤a2))) else (some false))=some r:=h
 clear h
 by_cases c4:O≤B
 ·rw[if_pos c4] at H
  have c4b0:decide (O≤B)=true:=decide_eq_true c4
  clear c4
  obtain rfl:=Option.some.inj H
  go_enter Try.func85,Try.ntmps85
  go_wp2
  go_ret
  exact⟨qR,by repeat(first|exact Drawn0.refl _|apply Drawn0.step)⟩
 ·rw[if_neg c4] at H
  have c4b0:decide (O≤B)=false:=decide_eq_false c4
  clear c4
  obtain rfl:=Option.some.inj H
  go_enter Try.func85,Try.ntmps85
  go_wp2
  go_ret
  exact⟨qR,by repeat(first|exact Drawn0.refl _|apply Drawn0.step)⟩
def group_dist.f (B:Int) (O:Int):Option (Int):=some (mx (wrap64 (B-O)) (wrap64 (O-B)))
set_option maxHeartbeats 8000000 in
set_option maxRecDepth 100000 in
theorem group_dist.calls (B:Int) (O:Int) (r:Int) (w:World) (h:group_dist.f B O=some r):
  Calls Try.prog 76 #[.int .i64 B,.int .i64 O] w fun e w'=>e = .returned (.int .i64 r)∧Below w.heap.size w w':=by
 have HB:=Aside0.mk (Below.refl w.heap.size w)
 have H:(some (mx (wrap64 (B-O)) (wrap64 (O-B))))=some r:=h
 clear h
 obtain⟨L,J⟩:∃ j_:Int,(mx (wrap64 (B-O)) (wrap64 (O-B)))=j_:=⟨_,rfl⟩
 replace H:(some L)=some r:=by first|(rw[J] at H;exact H)|(simp only[J] at H ⊢;exact H)
 have X:(if (wrap64 (B-O))<(wrap64 (O-B)) then (wrap64 (O-B)) else (wrap64 (B-O)))=L:=J
 obtain rfl:=Option.some.inj H
 go_enter Try.func76,Try.ntmps76
 go_wp2
 go_ret
 exact⟨by first|rfl|(simp[Qh,Qg] <;> rfl)|(simp only[← J];first|rfl|(simp[Qh,Qg] <;> rfl))|(simp[*,Qh,Qg] <;> rfl),by repeat(first|(with_reducible first|exact HB.out|apply Qo|apply Qi|apply Qf)|exact HB.out)⟩
mutual
def group_way.j0:Nat→Int→Int→Int→Int→Int→Int→Int→Int→Int→Int→Int→Bool→Bool→Int→Int→Int→Option (Int)
 |0,_,_,_,_,_,_,_,_,_,_,_,_,_,_,_,_=>none
 |k+1,L,X,O,Z,γ,δ,ε,ζ,ι,κ,B,μ,ν,J,Y,ξ =>if B=0 then (group_way.j1 k L X O true Z γ δ ε ζ ι κ B μ ν J Y ξ) else (if B=Y then (group_way.j1 k L X O (decide ((wrap64 ((wrap64 (J-L)) * B))≥0)) Z γ δ ε ζ ι κ B μ ν J Y ξ) else (group_way.j1 k L X O false Z γ δ ε ζ ι κ B μ ν J Y ξ))
def group_way.j1:Nat→Int→Int→Int→Bool→Int→Int→Int→Int→Int→Int→Int→Int→Bool→Bool→Int→Int→Int→Option (Int)
 |0,_,_,_,_,_,_,_,_,_,_,_,_,_,_,_,_,_=>none
 |k+1,L,X,O,ρ,Z,γ,δ,ε,ζ,ι,κ,B,μ,ν,J,Y,ξ =>if ρ=true then ((group_dist.f L J).bind fun a4=>(some a4)) else (if B=Y then ((group_dist.f L X).bind fun φ =>((group_dist.f X O).bind fun θ =>((group_dist.f O J).bind fun η =>(some (wrap64 ((wrap64 (φ + θ)) + η)))))) else ((group_dist.f L X).bind fun a3=>((group_dist.f X J).bind fun a2=>(some (wrap64 (a3+a2))))))
end
def group_way.f (k:Nat) (B:Int) (Z:Int) (Y:Int) (ε :Int) (κ :Int) (ι :Int) (μ :Int) (ν :Int) (χ :Int) (ψ :Bool) (a1:Bool) (ξ :Int) (ρ:Int) (σ:Int):Option (Int):=if χ > 0 then (group_way.j0 k (wrap64 (Z+Y)) (wrap64 (B-1)) 0 Z Y ε κ ι μ ν χ ψ a1 ξ ρ σ) else (group_way.j0 k (wrap64 (Z+Y)) 0 (wrap64 (B-1)) Z Y ε κ ι μ ν χ ψ a1 ξ ρ σ)
theorem group_way.Zi:∀ k,(∀ L O X B Y Z y6 y7 y8 y9 γ ε ζ η θ ι,LeO (group_way.j0 k L O X B Y Z y6 y7 y8 y9 γ ε ζ η θ ι) (group_way.j0 (k+1) L O X B Y Z y6 y7 y8 y9 γ ε ζ η θ ι))∧(∀ L O X B Y Z y6 y7 y8 y9 γ ε ζ η θ ι κ,LeO (group_way.j1 k L O X B Y Z y6 y7 y8 y9 γ ε ζ η θ ι κ) (group_way.j1 (k+1) L O X B Y Z y6 y7 y8 y9 γ ε ζ η θ ι κ))
 |0=>⟨fun _ _ _ _ _ _ _ _ _ _ _ _ _ _ _ _ r h=>by simp[group_way.j0] at h,fun _ _ _ _ _ _ _ _ _ _ _ _ _ _ _ _ _ r h=>by simp[group_way.j1] at h⟩
 |k+1=>by
  obtain⟨J,δ⟩:=group_way.Zi k
  refine⟨?_, ?_⟩
  ·intro L O X B Y Z y6 y7 y8 y9 γ ε ζ η θ ι
   unfold group_way.j0
   repeat' first
   |(with_reducible exact J _ _ _ _ _ _ _ _ _ _ _ _ _ _ _ _)
   |(with_reducible exact δ _ _ _ _ _ _ _ _ _ _ _ _ _ _ _ _ _)
   |(with_reducible exact LeO.refl _)
   |(with_reducible exact LeO.none _)
   |(with_reducible refine LeO.ite ?_ ?_)
   |(with_reducible refine LeO.bind ?_ (fun _=>?_))
   |exact J _ _ _ _ _ _ _ _ _ _ _ _ _ _ _ _
   |exact δ _ _ _ _ _ _ _ _ _ _ _ _ _ _ _ _ _
   |exact LeO.none _
   |refine LeO.ite ?_ ?_
   |refine LeO.bind ?_ (fun _=>?_)
  ·intro L O X B Y Z y6 y7 y8 y9 γ ε ζ η θ ι κ
   unfold group_way.j1
   repeat' first
   |(with_reducible exact J _ _ _ _ _ _ _ _ _ _ _ _ _ _ _ _)
   |(with_reducible exact δ _ _ _ _ _ _ _ _ _ _ _ _ _ _ _ _ _)
   |(with_reducible exact LeO.refl _)
   |(with_reducible exact LeO.none _)
   |(with_reducible refine LeO.ite ?_ ?_)
   |(with_reducible refine LeO.bind ?_ (fun _=>?_))
   |exact J _ _ _ _ _ _ _ _ _ _ _ _ _ _ _ _
   |exact δ _ _ _ _ _ _ _ _ _ _ _ _ _ _ _ _ _
   |exact LeO.none _
   |refine LeO.ite ?_ ?_
   |refine LeO.bind ?_ (fun _=>?_)
theorem group_way.mono:∀ B O a2 a3 L a5 X a7 a8 a9 Y Z γ ε k,LeO (group_way.f k B O a2 a3 L a5 X a7 a8 a9 Y Z γ ε) (group_way.f (k+1) B O a2 a3 L a5 X a7 a8 a9 Y Z γ ε):=by
 intro B O a2 a3 L a5 X a7 a8 a9 Y Z γ ε k
 obtain⟨J,δ⟩:=group_way.Zi k
 unfold group_way.f
 repeat' first
   |(with_reducible exact J _ _ _ _ _ _ _ _ _ _ _ _ _ _ _ _)
   |(with_reducible exact δ _ _ _ _ _ _ _ _ _ _ _ _ _ _ _ _ _)
   |(with_reducible exact LeO.refl _)
   |(with_reducible exact LeO.none _)
   |(with_reducible refine LeO.ite ?_ ?_)
   |(with_reducible refine LeO.bind ?_ (fun _=>?_))
   |exact J _ _ _ _ _ _ _ _ _ _ _ _ _ _ _ _
   |exact δ _ _ _ _ _ _ _ _ _ _ _ _ _ _ _ _ _
   |exact LeO.none _
   |refine LeO.ite ?_ ?_
   |refine LeO.bind ?_ (fun _=>?_)
def group_way.T7:Bool×List (List Nat×List Nat):=(true,[([],[]),([],[]),([0,1],[0,1]),([],[]),([],[]),([4],[4]),([3,5,2],[3,5]),([2,6],[2,6]),([7,6,0,1,2,3,4,5,6,7],[7])])
def group_way.B7:List Nat:=[0,0,3,0,0,16,63,127,255]
theorem group_way.tab7:rtab .any (opsOf Try.f52 7)=group_way.T7:=by kernel_rfl
theorem group_way.bits7:Zs group_way.T7.2 group_way.B7=true:=by kernel_rfl
def group_way.T8:Bool×List (List Nat×List Nat):=(true,[([],[]),([],[]),([0,1],[0,1]),([],[]),([],[]),([3,4,2],[3,4]),([2,5],[2,5]),([],[]),([],[]),([8],[8]),([7,9,5],[7,9]),([6,10],[6,10]),([11,10,0,1,2,3,4,5,6,7,8,9,10,11],[11])])
def group_way.B8:List Nat:=[0,0,3,0,0,31,63,0,0,256,959,2047,4095]
theorem group_way.Mq:rtab .any (opsOf Try.f52 8)=group_way.T8:=by kernel_rfl
theorem group_way.Wi:Zs group_way.T8.2 group_way.B8=true:=by kernel_rfl
set_option maxHeartbeats 8000000 in
set_option maxRecDepth 100000 in
theorem group_way.calls (k:Nat) (B:Int) (Z:Int) (Y:Int) (ε :Int) (κ :Int) (ι :Int) (μ :Int) (ν :Int) (χ :Int) (ψ :Bool) (a1:Bool) (ξ :Int) (ρ:Int) (σ:Int) (r:Int) (w:World) (h:group_way.f k B Z Y ε κ ι μ ν χ ψ a1 ξ ρ σ=some r):
  Calls Try.prog 52 #[.int .i64 B,.agg #[.int .i64 Z,.int .i64 Y,.int .i64 ε,.int .i64 κ,.int .i64 ι,.int .i64 μ,.int .i64 ν,.int .i64 χ,.bool ψ,.bool a1],.agg #[.int .i64 ξ,.int .i64 ρ,.int .i64 σ]] w fun e w'=>e = .returned (.int .i64 r)∧Below w.heap.size w w':=by
 have fc:=Try.underlying31
 have d9:=Try.underlying36
 have HB:=Aside0.mk (Below.refl w.heap.size w)
 have H:(if χ > 0 then (group_way.j0 k (wrap64 (Z+Y)) (wrap64 (B-1)) 0 Z Y ε κ ι μ ν χ ψ a1 ξ ρ σ) else (group_way.j0 k (wrap64 (Z+Y)) 0 (wrap64 (B-1)) Z Y ε κ ι μ ν χ ψ a1 ξ ρ σ))=some r:=h
 clear h
 have bc:=Aside0.mk H
 clear H
 go_enter Try.func52,Try.ntmps52
 go_upto_if 21 with(first|((with_reducible refine Qe (N:=4) rfl ?_);refine qE 4 #[.int .i64 Z,.int .i64 Y,.int .i64 ε,.int .i64 κ,.int .i64 ι,.int .i64 μ,.int .i64 ν,.int .i64 χ,.bool ψ,.bool a1] 31 ?_;intro dl hg w5 hbox hb;have L:=Aside0.mk hbox;have ej:=sGe hg;have ek:=sGe hg;replace HB:=sHb hb;clear hb hbox hg)|((with_reducible refine Qe (N:=5) rfl ?_);refine qE 5 #[.int .i64 ξ,.int .i64 ρ,.int .i64 σ] 36 ?_;intro ζ hg w6 hbox hb;have J:=Aside0.mk hbox;have el:=sGe hg;have en:=sGe hg;have X:=sNl L hg;have γ:=sNg L hg;replace L:=sBk L hb;replace HB:=sHb hb;clear hb hbox hg;have eo:=X.out;have et:=γ.out;obtain⟨a7,ab,bg,ci,cv,cw,cz,d0,d4,d5,cr,ct,cu,d6,d7,d8,da,db,dc,dd⟩:=Za L.out))
 (try simp only[Act.put,qS])
 go_cut [8,9] (fun v8 v9 wc=>∃ (kq:Nat) (O:Int) (δ :Int),v8 = .int .i64 O∧v9 = .int .i64 δ ∧ Aside0 (group_way.j0 kq (wrap64 (Z+Y)) O δ Z Y ε κ ι μ ν χ ψ a1 ξ ρ σ=some r)∧Aside0 (kq≤k)∧Aside0 (wc.heap[dl]?=some (.cells #[.int .i64 Z,.int .i64 Y,.int .i64 ε,.int .i64 κ,.int .i64 ι,.int .i64 μ,.int .i64 ν,.int .i64 χ,.bool ψ,.bool a1] 31 (0,0)))∧Aside0 (wc.heap[ζ]?=some (.cells #[.int .i64 ξ,.int .i64 ρ,.int .i64 σ] 36 (0,0)))∧Aside0 (Below w.heap.size w wc))
 case first=>
  have H:=bc.out
  clear bc
  by_cases c9: χ > 0
  ·rw[if_pos c9] at H
   have c9b0:decide (0 < χ)=true:=decide_eq_true c9
   clear c9
   (first|rw[c9b0]|(simp only[Zb,Zj];rw[c9b0])|skip)
   have H':=Aside0.mk H
   clear H
   go_wp2
   go_meet
   case rel=>exact⟨_,(wrap64 (B-1)),(0),rfl,rfl,H',⟨by first|omega|exact Nat.le_refl _⟩,L,J,HB⟩
  ·rw[if_neg c9] at H
   have c9b0:decide (0 < χ)=false:=decide_eq_false c9
   clear c9
   (first|rw[c9b0]|(simp only[Zb,Zj];rw[c9b0])|skip)
   have H':=Aside0.mk H
   clear H
   go_wp2
   go_meet
   case rel=>exact⟨_,(0),(wrap64 (B-1)),rfl,rfl,H',⟨by first|omega|exact Nat.le_refl _⟩,L,J,HB⟩
 case rest=>
  clear bc
  try clear p2
  try clear c5
  try clear p6
  try clear c7
  try clear c9
  try clear c9b0
  try clear a7
  try clear ab
  try clear bg
  try clear ci
  try clear cv
  try clear cw
  try clear cz
  try clear d0
  try clear d4
  try clear d5
  try clear cr
  try clear ct
  try clear cu
  try clear d6
  try clear d7
  try clear d8
  try clear da
  try clear db
  try clear dc
  try clear dd
  obtain⟨kq,O,δ,rfl,rfl,HA,ch,L,J,HB⟩:=hcut
  cases kq with
  |zero=>exact absurd HA.out (by simp[group_way.j0])
  |succ dp=>
   have H:=HA.out
   clear HA
   simp only[group_way.j0] at H
   have dj:=Aside0.mk H
   clear H
   go_upto_region 4 with(fail)
   go_cut [24] (fun dw wc=>∃ (kq:Nat) (a5:Bool),dw = .bool a5∧Aside0 (group_way.j1 kq (wrap64 (Z+Y)) O δ a5 Z Y ε κ ι μ ν χ ψ a1 ξ ρ σ=some r)∧Aside0 (kq≤dp)∧Aside0 (wc.heap[dl]?=some (.cells #[.int .i64 Z,.int .i64 Y,.int .i64 ε,.int .i64 κ,.int .i64 ι,.int .i64 μ,.int .i64 ν,.int .i64 χ,.bool ψ,.bool a1] 31 (0,0)))∧Aside0 (wc.heap[ζ]?=some (.cells #[.int .i64 ξ,.int .i64 ρ,.int .i64 σ] 36 (0,0)))∧Aside0 (Below w.heap.size w wc))
   case first=>
    have H:=dj.out
    clear dj
    by_cases ae: χ = 0
    ·rw[if_pos ae] at H
     have c11b0:(χ == 0)=true:=beq_iff_eq.mpr ae
     have c11b1:(χ != 0)=false:=bne_eq_false_iff_eq.mpr ae
     clear ae
     (first|rw[c11b0]|(simp only[Zb,Zj];rw[c11b0])|skip)
     have H':=Aside0.mk H
     clear H
     have gb:=X.out
     have ge:=γ.out
     obtain⟨ap,aw,τ,a8,aa,ao,ay,bd,dm,dn,ar,ax,ω,b0,b1,b2,b3,be,dq,dr⟩:=Za L.out
     go_wp2
     go_meet
     case rel=>exact⟨_,(true),rfl,H',⟨by have:=ch.out;omega⟩,L,J,HB⟩
    ·rw[if_neg ae] at H
     have c11b0:(χ == 0)=false:=beq_eq_false_iff_ne.mpr ae
     have c11b1:(χ != 0)=true:=bne_iff_ne.mpr ae
     (first|rw[c11b0]|(simp only[Zb,Zj];rw[c11b0])|skip)
     by_cases ac: χ = ρ
     ·rw[if_pos ac] at H
      have c14b0:(χ == ρ)=true:=beq_iff_eq.mpr ac
      have c14b1:(χ != ρ)=false:=bne_eq_false_iff_eq.mpr ac
      clear ac
      have H':=Aside0.mk H
      clear H
      have gf:=X.out
      have gg:=γ.out
      obtain⟨dx,dy,bm,bz,de,df,e4,e5,fl,fm,dz,e0,br,e6,e7,e9,ea,eb,fn,fo⟩:=Za L.out
      obtain⟨ah,ai,ba,aj,ak,bf⟩:=qD3 J.out
      go_wp2
      go_meet
      case rel=>exact⟨_,(decide ((wrap64 ((wrap64 (ξ - (wrap64 (Z+Y)))) * χ))≥0)),rfl,H',⟨by have:=ch.out;omega⟩,L,J,HB⟩
     ·rw[if_neg ac] at H
      have c14b0:(χ == ρ)=false:=beq_eq_false_iff_ne.mpr ac
      have c14b1:(χ != ρ)=true:=bne_iff_ne.mpr ac
      have H':=Aside0.mk H
      clear H
      have cj:=X.out
      have d1:=γ.out
      obtain⟨am,an,az,bh,bi,bj,bk,ce,di,ec,au,av,b4,bl,bn,bo,bp,ed,ee,ef⟩:=Za L.out
      obtain⟨bs,bu,cb,bv,bw,cd⟩:=qD3 J.out
      go_wp2
      go_meet
      case rel=>exact⟨_,(false),rfl,H',⟨by have:=ch.out;omega⟩,L,J,HB⟩
   case rest=>
    clear dj
    try clear c1
    try clear p2
    try clear c5
    try clear p6
    try clear c7
    try clear c9
    try clear c9b0
    try clear ae
    try clear c11b0
    try clear c11b1
    try clear al
    try clear ac
    try clear c14b0
    try clear c14b1
    try clear af
    try clear b9
    try clear ap
    try clear aw
    try clear τ
    try clear a8
    try clear aa
    try clear ao
    try clear ay
    try clear bd
    try clear dm
    try clear dn
    try clear dx
    try clear dy
    try clear bm
    try clear bz
    try clear de
    try clear df
    try clear e4
    try clear e5
    try clear fl
    try clear fm
    try clear ah
    try clear ai
    try clear ba
    try clear am
    try clear an
    try clear az
    try clear bh
    try clear bi
    try clear bj
    try clear bk
    try clear ce
    try clear di
    try clear ec
    try clear bs
    try clear bu
    try clear cb
    try clear a7
    try clear ab
    try clear bg
    try clear ci
    try clear cv
    try clear cw
    try clear cz
    try clear d0
    try clear d4
    try clear d5
    try clear ar
    try clear ax
    try clear ω
    try clear b0
    try clear b1
    try clear b2
    try clear b3
    try clear be
    try clear dq
    try clear dr
    try clear dz
    try clear e0
    try clear br
    try clear e6
    try clear e7
    try clear e9
    try clear ea
    try clear eb
    try clear fn
    try clear fo
    try clear aj
    try clear ak
    try clear bf
    try clear au
    try clear av
    try clear b4
    try clear bl
    try clear bn
    try clear bo
    try clear bp
    try clear ed
    try clear ee
    try clear ef
    try clear bv
    try clear bw
    try clear cd
    try clear cr
    try clear ct
    try clear cu
    try clear d6
    try clear d7
    try clear d8
    try clear da
    try clear db
    try clear dc
    try clear dd
    try clear p2
    try clear p6
    obtain⟨kq,a5,rfl,HA,eu,L,J,HB⟩:=hcut
    cases kq with
    |zero=>exact absurd HA.out (by simp[group_way.j1])
    |succ ew=>
     have H:=HA.out
     clear HA
     simp only[group_way.j1] at H
     by_cases ag:a5=true
     ·subst ag
      have H1:((group_dist.f (wrap64 (Z+Y)) ξ).bind fun a4=>(some a4))=some r:=by rw[if_pos rfl] at H;exact H
      clear H
      have H:=H1
      clear H1
      replace H:=Option.bind_eq_some_iff.mp H
      obtain⟨a4,dk,H⟩:=H
      replace H:(some a4)=some r:=H
      have je:=Aside0.mk dk
      clear dk
      obtain rfl:=Option.some.inj H
      have d2:=γ.out
      have d3:=X.out
      obtain⟨b5,b6,ca,b7,b8,cf⟩:=qD3 J.out
      go_wp2_with (first|((with_reducible refine Ql (f:=76) rfl ?_);refine Q2 (some 48) rfl rfl Try.func76 kr rfl #[.int .i64 (wrap64 (Z+Y)),.int .i64 ξ] rfl qM ?_;(with_reducible refine(group_dist.calls (wrap64 (Z+Y)) ξ a4 _ je.out).mono ?_);rintro e em ⟨rfl,hb⟩;refine⟨_,rfl, ?_⟩;replace L:=sBk L hb;replace J:=sBk J hb;replace HB:=sHb hb;(try clear hb);(try clear a9);(try clear hk);(try clear hi)))
      go_ret
      exact⟨rfl,HB.out⟩
     ·replace ag:=Bool.eq_false_iff.mpr ag
      subst ag
      have H1:(if χ = ρ then ((group_dist.f (wrap64 (Z+Y)) O).bind fun φ =>((group_dist.f O δ).bind fun θ =>((group_dist.f δ ξ).bind fun η =>(some (wrap64 ((wrap64 (φ + θ)) + η)))))) else ((group_dist.f (wrap64 (Z+Y)) O).bind fun a3=>((group_dist.f O ξ).bind fun a2=>(some (wrap64 (a3+a2))))))=some r:=by rw[if_neg (show ¬ (false=true) by decide)] at H;exact H
      clear H
      have H:=H1
      clear H1
      by_cases a6: χ = ρ
      ·rw[if_pos a6] at H
       have c26b0:(χ == ρ)=true:=beq_iff_eq.mpr a6
       have c26b1:(χ != ρ)=false:=bne_eq_false_iff_eq.mpr a6
       clear a6
       replace H:=Option.bind_eq_some_iff.mp H
       obtain⟨φ,dt,H⟩:=H
       replace H:((group_dist.f O δ).bind fun θ =>((group_dist.f δ ξ).bind fun η =>(some (wrap64 ((wrap64 (φ + θ)) + η)))))=some r:=H
       have e3:=Aside0.mk dt
       clear dt
       replace H:=Option.bind_eq_some_iff.mp H
       obtain⟨θ,bb,H⟩:=H
       replace H:((group_dist.f δ ξ).bind fun η =>(some (wrap64 ((wrap64 (φ + θ)) + η))))=some r:=H
       have cx:=Aside0.mk bb
       clear bb
       replace H:=Option.bind_eq_some_iff.mp H
       obtain⟨η,cg,H⟩:=H
       replace H:(some (wrap64 ((wrap64 (φ + θ)) + η)))=some r:=H
       have du:=Aside0.mk cg
       clear cg
       obtain rfl:=Option.some.inj H
       have ji:=X.out
       have jj:=γ.out
       obtain⟨ck,cm,cn,fe,ff,fg,fh,ij,ip,iq,co,cp,cq,fi,fk,fp,fq,ir,it,iu⟩:=Za L.out
       obtain⟨fj,hu,hx,hy,i0,i1⟩:=qD3 J.out
       try go_wp2
       replace L:=Aside0.mk (Qd L.out)
       replace J:=Aside0.mk (Qd J.out)
       replace HB:=Aside0.mk (Qf HB.out)
       refine Zn (n:=13) (S:=fun w'=>w'.cell? ⟨ζ,0,none⟩=some (.int .i64 ξ)∧w'.cell? ⟨ζ,1,none⟩=some (.int .i64 ρ)∧w'.cell? ⟨ζ,2,none⟩=some (.int .i64 σ)) (ds:=[]) #[false,false,false,false,false,false,false,false,false,false,false,false,false] kr rfl rfl ⟨(Qa J.out 0).trans rfl,(Qa J.out 1).trans rfl,(Qa J.out 2).trans rfl⟩ (fun hHeld=>?_);refine Q8 group_way.Mq group_way.Wi (fun HT_ HW_=>?_)
       generalize wc.drew=ey at L J HB hHeld ⊢
       refine qP 0 (some 63) (bN 13 1) HT_ ?_
       refine qP 1 (some 64) (bN 13 3) HT_ ?_
       refine qP 3 (some 66) (bN 13 11) HT_ ?_
       refine qP 4 (some 67) (bN 13 27) HT_ ?_
       refine qP 7 (some 70) (bN 13 155) HT_ ?_
       refine qP 8 (some 71) (bN 13 411) HT_ ?_
       refine qT 9 (some 72) (bN 13 923) HT_ HW_ hHeld ?_
       refine Ze (i:=2) (N:=some 65) (bN 13 927) rfl rfl (Q5 HT_.out kr) (by decide) (fun K hK=>?_)
       refine Zd Try.func76 kr rfl #[.int .i64 (wrap64 (Z+Y)),.int .i64 O] (by rfl) rfl rfl qM ?_
       with_reducible refine(group_dist.calls (wrap64 (Z+Y)) O φ _ e3.out).mono ?_
       rintro e jg ⟨rfl,hb⟩
       refine⟨_,rfl, ?_⟩
       replace L:=sBk L hb
       replace J:=sBk J hb
       replace HB:=sHb hb
       (try clear hb)
       (try clear a9)
       (try clear hk)
       (try clear hi)
       refine hK.out _ _ ⟨qc J,qc J,qc J⟩ (fun hHeld=>?_)
       clear hK K
       refine qN (some 65) ?_
       refine Ze (i:=5) (N:=some 68) (bN 13 959) rfl rfl (Q5 HT_.out kr) (by decide) (fun K hK=>?_)
       refine Zd Try.func76 kr rfl #[.int .i64 O,.int .i64 δ] (by rfl) rfl rfl qM ?_
       with_reducible refine(group_dist.calls O δ θ _ cx.out).mono ?_
       rintro e l8 ⟨rfl,hb⟩
       refine⟨_,rfl, ?_⟩
       replace L:=sBk L hb
       replace J:=sBk J hb
       replace HB:=sHb hb
       (try clear hb)
       (try clear a9)
       (try clear hk)
       (try clear hi)
       refine hK.out _ _ ⟨qc J,qc J,qc J⟩ (fun hHeld=>?_)
       clear hK K
       refine qN (some 68) ?_
       refine qP 6 (some 69) (bN 13 1023) HT_ ?_
       refine Ze (i:=10) (N:=some 73) (bN 13 2047) rfl rfl (Q5 HT_.out kr) (by decide) (fun K hK=>?_)
       refine Zd Try.func76 kr rfl #[.int .i64 δ,.int .i64 ξ] (by rfl) rfl rfl qM ?_
       with_reducible refine(group_dist.calls δ ξ η _ du.out).mono ?_
       rintro e ev ⟨rfl,hb⟩
       refine⟨_,rfl, ?_⟩
       replace L:=sBk L hb
       replace J:=sBk J hb
       replace HB:=sHb hb
       (try clear hb)
       (try clear a9)
       (try clear hk)
       (try clear hi)
       refine hK.out _ _ ⟨qc J,qc J,qc J⟩ (fun hHeld=>?_)
       clear hK K
       refine qN (some 73) ?_
       refine qP 11 (some 74) (bN 13 4095) HT_ ?_
       refine qP 12 (some 6) (bN 13 8191) HT_ ?_
       refine Z5 (Zm HT_.out kr) ?_
       try go_wp2
       go_ret
       exact⟨rfl,HB.out⟩
      ·rw[if_neg a6] at H
       have c26b0:(χ == ρ)=false:=beq_eq_false_iff_ne.mpr a6
       have c26b1:(χ != ρ)=true:=bne_iff_ne.mpr a6
       replace H:=Option.bind_eq_some_iff.mp H
       obtain⟨a3,dv,H⟩:=H
       replace H:((group_dist.f O ξ).bind fun a2=>(some (wrap64 (a3+a2))))=some r:=H
       have e8:=Aside0.mk dv
       clear dv
       replace H:=Option.bind_eq_some_iff.mp H
       obtain⟨a2,cy,H⟩:=H
       replace H:(some (wrap64 (a3+a2)))=some r:=H
       have dh:=Aside0.mk cy
       clear cy
       obtain rfl:=Option.some.inj H
       have eh:=X.out
       have ei:=γ.out
       obtain⟨fu,fv,fw,g2,g3,g4,g6,g7,gi,gj,gk,gl,gm,gn,gp,gr,gw,gx,gy,gz⟩:=Za L.out
       obtain⟨ep,er,bq,ez,f8,eg⟩:=qD3 J.out
       try go_wp2
       replace L:=Aside0.mk (Qd L.out)
       replace J:=Aside0.mk (Qd J.out)
       replace HB:=Aside0.mk (Qf HB.out)
       refine Zn (n:=9) (S:=fun w'=>w'.cell? ⟨ζ,0,none⟩=some (.int .i64 ξ)∧w'.cell? ⟨ζ,1,none⟩=some (.int .i64 ρ)∧w'.cell? ⟨ζ,2,none⟩=some (.int .i64 σ)) (ds:=[]) #[false,false,false,false,false,false,false,false,false] kr rfl rfl ⟨(Qa J.out 0).trans rfl,(Qa J.out 1).trans rfl,(Qa J.out 2).trans rfl⟩ (fun hHeld=>?_);refine Q8 group_way.tab7 group_way.bits7 (fun HT_ HW_=>?_)
       generalize wc.drew=jl at L J HB hHeld ⊢
       refine qP 0 (some 55) (bN 9 1) HT_ ?_
       refine qP 1 (some 56) (bN 9 3) HT_ ?_
       refine qP 3 (some 58) (bN 9 11) HT_ ?_
       refine qP 4 (some 59) (bN 9 27) HT_ ?_
       refine qT 5 (some 60) (bN 9 59) HT_ HW_ hHeld ?_
       refine Ze (i:=2) (N:=some 57) (bN 9 63) rfl rfl (Q5 HT_.out kr) (by decide) (fun K hK=>?_)
       refine Zd Try.func76 kr rfl #[.int .i64 (wrap64 (Z+Y)),.int .i64 O] (by rfl) rfl rfl qM ?_
       with_reducible refine(group_dist.calls (wrap64 (Z+Y)) O a3 _ e8.out).mono ?_
       rintro e ka ⟨rfl,hb⟩
       refine⟨_,rfl, ?_⟩
       replace L:=sBk L hb
       replace J:=sBk J hb
       replace HB:=sHb hb
       (try clear hb)
       (try clear a9)
       (try clear hk)
       (try clear hi)
       refine hK.out _ _ ⟨qc J,qc J,qc J⟩ (fun hHeld=>?_)
       clear hK K
       refine qN (some 57) ?_
       refine Ze (i:=6) (N:=some 61) (bN 9 127) rfl rfl (Q5 HT_.out kr) (by decide) (fun K hK=>?_)
       refine Zd Try.func76 kr rfl #[.int .i64 O,.int .i64 ξ] (by rfl) rfl rfl qM ?_
       with_reducible refine(group_dist.calls O ξ a2 _ dh.out).mono ?_
       rintro e fa ⟨rfl,hb⟩
       refine⟨_,rfl, ?_⟩
       replace L:=sBk L hb
       replace J:=sBk J hb
       replace HB:=sHb hb
       (try clear hb)
       (try clear a9)
       (try clear hk)
       (try clear hi)
       refine hK.out _ _ ⟨qc J,qc J,qc J⟩ (fun hHeld=>?_)
       clear hK K
       refine qN (some 61) ?_
       refine qP 7 (some 62) (bN 9 255) HT_ ?_
       refine qP 8 (some 6) (bN 9 511) HT_ ?_
       refine Z5 (Zm HT_.out kr) ?_
       try go_wp2
       go_ret
       exact⟨rfl,HB.out⟩
def collect_rising.l0:Nat→List Int→Int→List Int→Int→Int→Option (Bool)
 |0,_,_,_,_,_=>none
 |k+1,B,J,L,X,O=>if O<X then (if 0≤O then (if O<(L.length:Int) then (if (rd L O)<0 then (some false) else (if (rd L O)≥J then (some false) else (if O>0 then (if 0≤(wrap64 (O-1)) then (if (wrap64 (O-1))<(B.length:Int) then (if (rd B (wrap64 (O-1)))≥(rd L O) then (some false) else (collect_rising.l0 k B J L X (wrap64 (O+1)))) else (none)) else (none)) else (collect_rising.l0 k B J L X (wrap64 (O+1)))))) else (none)) else (none)) else (some true)
def collect_rising.f (k:Nat) (l0:List Int) (O:Int):Option (Bool):=collect_rising.l0 k l0 O l0 (l0.length:Int) 0
theorem collect_rising.Zi:∀ k,(∀ L O X B Y,LeO (collect_rising.l0 k L O X B Y) (collect_rising.l0 (k+1) L O X B Y))
 |0=>fun _ _ _ _ _ r h=>by simp[collect_rising.l0] at h
 |k+1=>by
  have J:=collect_rising.Zi k
  ·intro L O X B Y
   unfold collect_rising.l0
   repeat' first
   |(with_reducible exact J _ _ _ _ _)
   |(with_reducible exact LeO.refl _)
   |(with_reducible exact LeO.none _)
   |(with_reducible refine LeO.ite ?_ ?_)
   |(with_reducible refine LeO.bind ?_ (fun _=>?_))
   |exact J _ _ _ _ _
   |exact LeO.none _
   |refine LeO.ite ?_ ?_
   |refine LeO.bind ?_ (fun _=>?_)
theorem collect_rising.mono:∀ B O k,LeO (collect_rising.f k B O) (collect_rising.f (k+1) B O):=by
 intro B O k
 have J:=collect_rising.Zi k
 unfold collect_rising.f
 repeat' first
   |(with_reducible exact J _ _ _ _ _)
   |(with_reducible exact LeO.refl _)
   |(with_reducible exact LeO.none _)
   |(with_reducible refine LeO.ite ?_ ?_)
   |(with_reducible refine LeO.bind ?_ (fun _=>?_))
   |exact J _ _ _ _ _
   |exact LeO.none _
   |refine LeO.ite ?_ ?_
   |refine LeO.bind ?_ (fun _=>?_)
set_option maxHeartbeats 8000000 in
set_option maxRecDepth 100000 in
theorem collect_rising.calls (k:Nat) (A0:Option Addr) (c0:Nat) (l0:List Int) (O:Int) (r:Bool) (w:World) (μ :Kd.C (Kd.int .i64) w A0 l0.length l0) (γ:l0.length≤c0) (h:collect_rising.f k l0 O=some r):
  Calls Try.prog 50 #[.slice A0 l0.length c0,.int .i64 O] w fun e w'=>e = .returned (.bool r)∧Drawn0 w w':=by
 have τ :=Aside0.mk μ
 have ag:=Aside0.mk γ
 clear μ γ
 have H:(collect_rising.l0 k l0 O l0 (l0.length:Int) 0)=some r:=h
 clear h
 have H':=Aside0.mk H
 clear H
 go_enter Try.func50,Try.ntmps50
 go_wp2
 go_loopg [9] k (fun kq v9 w'=>∃ (B:Int),v9 = .int .i64 B∧Aside0 (collect_rising.l0 kq l0 O l0 (l0.length:Int) B=some r)∧Aside0 (kq≤k)∧Drawn0 w w')
 case atStart=>exact⟨(0),rfl,H',⟨Nat.le_refl _⟩,by repeat(first|exact Drawn0.refl _|apply Drawn0.step)⟩
 case round=>
  clear H'
  try clear p2
  obtain⟨B,rfl,HA,an,⟨m1,rfl⟩⟩:=hrel
  cases gk with
  |zero=>exact absurd HA.out (by simp[collect_rising.l0])
  |succ k1=>
   have H:=HA.out
   clear HA
   simp only[collect_rising.l0] at H
   by_cases c3:B<(l0.length:Int)
   ·rw[if_pos c3] at H
    have c3b0:decide (B<(l0.length:Int))=true:=decide_eq_true c3
    clear c3
    by_cases c4:0≤B
    ·rw[if_pos c4] at H
     have c4b0:decide (0≤B)=true:=decide_eq_true c4
     clear c4
     by_cases c5:B<(l0.length:Int)
     ·rw[if_pos c5] at H
      have c5b0:decide (B<(l0.length:Int))=true:=decide_eq_true c5
      clear c5
      by_cases c6:(rd l0 B)<0
      ·rw[if_pos c6] at H
       have c6b0:decide ((rd l0 B)<0)=true:=decide_eq_true c6
       clear c6
       obtain rfl:=Option.some.inj H
       have J:0≤(B:Int):=of_decide_eq_true (by assumption)
       have L:B<(l0.length:Int):=of_decide_eq_true (by assumption)
       obtain⟨Z,Y,δ⟩:=Kd.Yh τ.out B J L
       cases Y
       replace J:=eq_true J
       replace L:=eq_true L
       go_wp2
       go_ret
       exact⟨qR,by repeat(first|exact Drawn0.refl _|apply Drawn0.step)⟩
      ·rw[if_neg c6] at H
       have c6b0:decide ((rd l0 B)<0)=false:=decide_eq_false c6
       clear c6
       by_cases c7:(rd l0 B)≥O
       ·rw[if_pos c7] at H
        have c7b0:decide (O≤(rd l0 B))=true:=decide_eq_true c7
        clear c7
        obtain rfl:=Option.some.inj H
        have J:0≤(B:Int):=of_decide_eq_true (by assumption)
        have L:B<(l0.length:Int):=of_decide_eq_true (by assumption)
        obtain⟨Z,Y,δ⟩:=Kd.Yh τ.out B J L
        cases Y
        replace J:=eq_true J
        replace L:=eq_true L
        go_wp2
        go_ret
        exact⟨qR,by repeat(first|exact Drawn0.refl _|apply Drawn0.step)⟩
       ·rw[if_neg c7] at H
        have c7b0:decide (O≤(rd l0 B))=false:=decide_eq_false c7
        clear c7
        by_cases c8:B>0
        ·rw[if_pos c8] at H
         have c8b0:decide (0<B)=true:=decide_eq_true c8
         clear c8
         obtain⟨X,η⟩:∃ j_:Int,(wrap64 (B-1))=j_:=⟨_,rfl⟩
         replace H:(if 0≤(X) then (if (X)<(l0.length:Int) then (if (rd l0 (X))≥(rd l0 B) then (some false) else (collect_rising.l0 k1 l0 O l0 (l0.length:Int) (wrap64 (B+1)))) else (none)) else (none))=some r:=by first|(rw[η] at H;exact H)|(simp only[η] at H ⊢;exact H)
         have hji9w:(IntKind.i64.wrap (B-1))=X:=(Zb _).trans η
         by_cases c10:0≤(X)
         ·rw[if_pos c10] at H
          have c10b0:decide (0≤(X))=true:=decide_eq_true c10
          clear c10
          by_cases ae:(X)<(l0.length:Int)
          ·rw[if_pos ae] at H
           have c11b0:decide ((X)<(l0.length:Int))=true:=decide_eq_true ae
           clear ae
           by_cases al:(rd l0 (X))≥(rd l0 B)
           ·rw[if_pos al] at H
            have c12b0:decide ((rd l0 B)≤(rd l0 (X)))=true:=decide_eq_true al
            clear al
            obtain rfl:=Option.some.inj H
            have J:0≤(B:Int):=of_decide_eq_true (by assumption)
            have L:B<(l0.length:Int):=of_decide_eq_true (by assumption)
            obtain⟨Z,Y,δ⟩:=Kd.Yh τ.out B J L
            cases Y
            replace J:=eq_true J
            replace L:=eq_true L
            have ε :0≤((X):Int):=of_decide_eq_true (by assumption)
            have ζ :(X)<(l0.length:Int):=of_decide_eq_true (by assumption)
            obtain⟨θ,ι,κ⟩:=Kd.Yh τ.out (X) ε ζ
            obtain rfl:Z = θ :=(by injection ι)
            replace ε :=eq_true ε
            replace ζ :=eq_true ζ
            go_wp2
            go_ret
            exact⟨by first|rfl|(simp;done)|(simp only[← η] <;> (first|rfl|simp))|(simp[*];done),by repeat(first|exact Drawn0.refl _|apply Drawn0.step)⟩
           ·rw[if_neg al] at H
            have c12b0:decide ((rd l0 B)≤(rd l0 (X)))=false:=decide_eq_false al
            clear al
            have H':=Aside0.mk H
            clear H
            have J:0≤(B:Int):=of_decide_eq_true (by assumption)
            have L:B<(l0.length:Int):=of_decide_eq_true (by assumption)
            obtain⟨Z,Y,δ⟩:=Kd.Yh τ.out B J L
            cases Y
            replace J:=eq_true J
            replace L:=eq_true L
            have ε :0≤((X):Int):=of_decide_eq_true (by assumption)
            have ζ :(X)<(l0.length:Int):=of_decide_eq_true (by assumption)
            obtain⟨θ,ι,κ⟩:=Kd.Yh τ.out (X) ε ζ
            obtain rfl:Z = θ :=(by injection ι)
            replace ε :=eq_true ε
            replace ζ :=eq_true ζ
            go_wp2
            go_roundg k1
            case measure=>have:=an.out;omega
            case rel=>exact⟨(wrap64 (B+1)),rfl,H',⟨by have:=an.out;omega⟩,by repeat(first|exact Drawn0.refl _|apply Drawn0.step)⟩
          ·rw[if_neg ae] at H
           exact absurd H (by simp)
         ·rw[if_neg c10] at H
          exact absurd H (by simp)
        ·rw[if_neg c8] at H
         have c8b0:decide (0<B)=false:=decide_eq_false c8
         clear c8
         have H':=Aside0.mk H
         clear H
         have J:0≤(B:Int):=of_decide_eq_true (by assumption)
         have L:B<(l0.length:Int):=of_decide_eq_true (by assumption)
         obtain⟨Z,Y,δ⟩:=Kd.Yh τ.out B J L
         cases Y
         replace J:=eq_true J
         replace L:=eq_true L
         go_wp2
         go_roundg k1
         case measure=>have:=an.out;omega
         case rel=>exact⟨(wrap64 (B+1)),rfl,H',⟨by have:=an.out;omega⟩,by repeat(first|exact Drawn0.refl _|apply Drawn0.step)⟩
     ·rw[if_neg c5] at H
      exact absurd H (by simp)
    ·rw[if_neg c4] at H
     exact absurd H (by simp)
   ·rw[if_neg c3] at H
    have c3b0:decide (B<(l0.length:Int))=false:=decide_eq_false c3
    clear c3
    obtain rfl:=Option.some.inj H
    go_wp2
    go_ret
    exact⟨qR,by repeat(first|exact Drawn0.refl _|apply Drawn0.step)⟩
mutual
def collect_Check.j0:Nat→Bool→Int→Int→Int→Bool→Bool→List Int→List Int→List Int→Option (Int)
 |0,_,_,_,_,_,_,_,_,_=>none
 |k+1,δ,B,X,Y,Z,γ,J,L,O=>if δ = true then (some 200) else ((some (([J,L,O]:List (List Int)):List (List Int))).bind fun ε =>(collect_Check.l0 k ε (ε.length:Int) 0 B X Y Z γ J L O))
def collect_Check.l0:Nat→List (List Int)→Int→Int→Int→Int→Int→Bool→Bool→List Int→List Int→List Int→Option (Int)
 |0,_,_,_,_,_,_,_,_,_,_,_=>none
 |k+1,ε,ζ,δ,B,X,Y,Z,γ,J,L,O=>if δ < ζ then (if 0 ≤ δ then (if δ < (ε.length:Int) then ((collect_rising.f k (Yr ε δ) B).bind fun bq=>(if bq=true then (collect_Check.l0 k ε ζ (wrap64 (δ + 1)) B X Y Z γ J L O) else (some 200))) else (none)) else (none)) else (some 0)
end
def collect_Check.f (k:Nat) (J:Int) (B:Int) (L:Int) (O:Bool) (X:Bool) (Y:List Int) (Z:List Int) (γ:List Int):Option (Int):=if J<2 then (collect_Check.j0 k true J B L O X Y Z γ) else (if J>64 then (collect_Check.j0 k true J B L O X Y Z γ) else (if B<0 then (collect_Check.j0 k true J B L O X Y Z γ) else (if B≥J then (collect_Check.j0 k true J B L O X Y Z γ) else (if L<(-1) then (collect_Check.j0 k true J B L O X Y Z γ) else (collect_Check.j0 k (decide (L>1)) J B L O X Y Z γ)))))
theorem collect_Check.Zi:∀ k,(∀ L O X B Y Z y6 y7 y8,LeO (collect_Check.j0 k L O X B Y Z y6 y7 y8) (collect_Check.j0 (k+1) L O X B Y Z y6 y7 y8))∧(∀ L O X B Y Z y6 y7 y8 y9 γ,LeO (collect_Check.l0 k L O X B Y Z y6 y7 y8 y9 γ) (collect_Check.l0 (k+1) L O X B Y Z y6 y7 y8 y9 γ))
 |0=>⟨fun _ _ _ _ _ _ _ _ _ r h=>by simp[collect_Check.j0] at h,fun _ _ _ _ _ _ _ _ _ _ _ r h=>by simp[collect_Check.l0] at h⟩
 |k+1=>by
  obtain⟨J,δ⟩:=collect_Check.Zi k
  refine⟨?_, ?_⟩
  ·intro L O X B Y Z y6 y7 y8
   unfold collect_Check.j0
   repeat' first
   |(with_reducible exact J _ _ _ _ _ _ _ _ _)
   |(with_reducible exact δ _ _ _ _ _ _ _ _ _ _ _)
   |(with_reducible exact collect_rising.mono _ _ _)
   |(with_reducible exact LeO.refl _)
   |(with_reducible exact LeO.none _)
   |(with_reducible refine LeO.ite ?_ ?_)
   |(with_reducible refine LeO.bind ?_ (fun _=>?_))
   |exact J _ _ _ _ _ _ _ _ _
   |exact δ _ _ _ _ _ _ _ _ _ _ _
   |exact collect_rising.mono _ _ _
   |exact LeO.none _
   |refine LeO.ite ?_ ?_
   |refine LeO.bind ?_ (fun _=>?_)
  ·intro L O X B Y Z y6 y7 y8 y9 γ
   unfold collect_Check.l0
   repeat' first
   |(with_reducible exact J _ _ _ _ _ _ _ _ _)
   |(with_reducible exact δ _ _ _ _ _ _ _ _ _ _ _)
   |(with_reducible exact collect_rising.mono _ _ _)
   |(with_reducible exact LeO.refl _)
   |(with_reducible exact LeO.none _)
   |(with_reducible refine LeO.ite ?_ ?_)
   |(with_reducible refine LeO.bind ?_ (fun _=>?_))
   |exact J _ _ _ _ _ _ _ _ _
   |exact δ _ _ _ _ _ _ _ _ _ _ _
   |exact collect_rising.mono _ _ _
   |exact LeO.none _
   |refine LeO.ite ?_ ?_
   |refine LeO.bind ?_ (fun _=>?_)
theorem collect_Check.mono:∀ B O a2 a3 L a5 X a7 k,LeO (collect_Check.f k B O a2 a3 L a5 X a7) (collect_Check.f (k+1) B O a2 a3 L a5 X a7):=by
 intro B O a2 a3 L a5 X a7 k
 obtain⟨J,δ⟩:=collect_Check.Zi k
 unfold collect_Check.f
 repeat' first
   |(with_reducible exact J _ _ _ _ _ _ _ _ _)
   |(with_reducible exact δ _ _ _ _ _ _ _ _ _ _ _)
   |(with_reducible exact collect_rising.mono _ _ _)
   |(with_reducible exact LeO.refl _)
   |(with_reducible exact LeO.none _)
   |(with_reducible refine LeO.ite ?_ ?_)
   |(with_reducible refine LeO.bind ?_ (fun _=>?_))
   |exact J _ _ _ _ _ _ _ _ _
   |exact δ _ _ _ _ _ _ _ _ _ _ _
   |exact collect_rising.mono _ _ _
   |exact LeO.none _
   |refine LeO.ite ?_ ?_
   |refine LeO.bind ?_ (fun _=>?_)
set_option maxHeartbeats 8000000 in
set_option maxRecDepth 100000 in
theorem collect_Check.calls (k:Nat) (J:Int) (B:Int) (L:Int) (O:Bool) (X:Bool) (θ :Nat→Prop) (ρ:Option Addr) (σ:Nat) (Y:List Int) (ι :Nat→Prop) (φ :Option Addr) (χ :Nat) (Z:List Int) (κ :Nat→Prop) (a1:Option Addr) (a2:Nat) (γ:List Int) (r:Int) (w:World) (g1:Kd.V (Kd.int .i64) 3 w w.heap.size (fun k_=> θ k_) (.slice ρ Y.length σ) Y) (g5:Kd.V (Kd.int .i64) 3 w w.heap.size (fun k_=> ι k_) (.slice φ Z.length χ) Z) (g6:Kd.V (Kd.int .i64) 3 w w.heap.size (fun k_=> κ k_) (.slice a1 γ.length a2) γ) (h:collect_Check.f k J B L O X Y Z γ=some r):
  Calls Try.prog 29 #[.agg #[.int .i64 J,.int .i64 B,.int .i64 L,.bool O,.bool X,.slice ρ Y.length σ,.slice φ Z.length χ,.slice a1 γ.length a2]] w fun e w'=>e = .returned (.int .i64 r)∧Below w.heap.size w w':=by
 have jw:=Try.underlying76
 have a3:=Aside0.mk (show Kd.V (Kd.int .i64) 3 w w.heap.size (fun k_=>((θ k_ ∨ ι k_ ∨ κ k_)∨w.heap.size≤k_)) (.slice ρ Y.length σ) Y from Kd.X9 g1 (fun k_ hk=>.inl (.inl hk)))
 have a4:=Aside0.mk (show Kd.V (Kd.int .i64) 3 w w.heap.size (fun k_=>((θ k_ ∨ ι k_ ∨ κ k_)∨w.heap.size≤k_)) (.slice φ Z.length χ) Z from Kd.X9 g5 (fun k_ hk=>.inl (.inr (.inl hk))))
 have a5:=Aside0.mk (show Kd.V (Kd.int .i64) 3 w w.heap.size (fun k_=>((θ k_ ∨ ι k_ ∨ κ k_)∨w.heap.size≤k_)) (.slice a1 γ.length a2) γ from Kd.X9 g6 (fun k_ hk=>.inl (.inr (.inr hk))))
 have HB:=Aside0.mk (Below.refl w.heap.size w)
 have H:(if J<2 then (collect_Check.j0 k true J B L O X Y Z γ) else (if J>64 then (collect_Check.j0 k true J B L O X Y Z γ) else (if B<0 then (collect_Check.j0 k true J B L O X Y Z γ) else (if B≥J then (collect_Check.j0 k true J B L O X Y Z γ) else (if L<(-1) then (collect_Check.j0 k true J B L O X Y Z γ) else (collect_Check.j0 k (decide (L>1)) J B L O X Y Z γ))))))=some r:=h
 clear h
 have dw:=Aside0.mk H
 clear H
 go_enter Try.func29,Try.ntmps29
 go_upto_region 1 with(first|((with_reducible refine Qe (N:=1) rfl ?_);refine qE 1 #[.int .i64 J,.int .i64 B,.int .i64 L,.bool O,.bool X,.slice ρ Y.length σ,.slice φ Z.length χ,.slice a1 γ.length a2] 76 ?_;intro ζ hg w3 hbox hb;have η :=Aside0.mk hbox;have gg:=sGe hg;have gh:=sGe hg;replace a3:=Aside0.mk (Kd.Vr (Kd.Gl a3.out ζ (Nat.le_of_eq hg.symm)) hb);replace a4:=Aside0.mk (Kd.Vr (Kd.Gl a4.out ζ (Nat.le_of_eq hg.symm)) hb);replace a5:=Aside0.mk (Kd.Vr (Kd.Gl a5.out ζ (Nat.le_of_eq hg.symm)) hb);replace HB:=sHb hb;clear hb hbox hg))
 (try simp only[Act.put,qS])
 go_cut [34] (fun jf wc=>∃ (kq:Nat) (bj:Bool),jf = .bool bj∧Aside0 (collect_Check.j0 kq bj J B L O X Y Z γ=some r)∧Aside0 (kq≤k)∧Aside0 (Kd.V (Kd.int .i64) 3 wc w.heap.size (fun k_=>((θ k_ ∨ ι k_ ∨ κ k_)∨w.heap.size≤k_)∧k_ ≠ ζ) (.slice ρ Y.length σ) Y)∧Aside0 (Kd.V (Kd.int .i64) 3 wc w.heap.size (fun k_=>((θ k_ ∨ ι k_ ∨ κ k_)∨w.heap.size≤k_)∧k_ ≠ ζ) (.slice φ Z.length χ) Z)∧Aside0 (Kd.V (Kd.int .i64) 3 wc w.heap.size (fun k_=>((θ k_ ∨ ι k_ ∨ κ k_)∨w.heap.size≤k_)∧k_ ≠ ζ) (.slice a1 γ.length a2) γ)∧Aside0 (wc.heap[ζ]?=some (.cells #[.int .i64 J,.int .i64 B,.int .i64 L,.bool O,.bool X,(.slice ρ Y.length σ),(.slice φ Z.length χ),(.slice a1 γ.length a2)] 76 (0,0)))∧Aside0 (Below w.heap.size w wc))
 case first=>
  have H:=dw.out
  clear dw
  by_cases c4:J<2
  ·rw[if_pos c4] at H
   have c4b0:decide (J<2)=true:=decide_eq_true c4
   clear c4
   (first|rw[c4b0]|(simp only[Zb,Zj];rw[c4b0])|skip)
   have H':=Aside0.mk H
   clear H
   obtain⟨bv,bw,ca,cb,ce,ct,cu,cw,d8,da,db,dh,di,dm,dr,dt⟩:=qD8 η.out
   go_wp2
   go_meet
   case rel=>exact⟨_,(true),rfl,H',⟨by first|omega|exact Nat.le_refl _⟩,⟨by(with_reducible repeat first|apply Kd.Zr|apply Kd.Zq|apply Kd.Z9);exact a3.out⟩,⟨by(with_reducible repeat first|apply Kd.Zr|apply Kd.Zq|apply Kd.Z9);exact a4.out⟩,⟨by(with_reducible repeat first|apply Kd.Zr|apply Kd.Zq|apply Kd.Z9);exact a5.out⟩,η,HB⟩
  ·rw[if_neg c4] at H
   have c4b0:decide (J<2)=false:=decide_eq_false c4
   clear c4
   (first|rw[c4b0]|(simp only[Zb,Zj];rw[c4b0])|skip)
   by_cases c6:J>64
   ·rw[if_pos c6] at H
    have c6b0:decide (64<J)=true:=decide_eq_true c6
    clear c6
    have H':=Aside0.mk H
    clear H
    obtain⟨au,av,e3,ek,en,er,et,eu,az,b9,ev,ew,ey,fe,ff,fg⟩:=qD8 η.out
    go_wp2
    go_meet
    case rel=>exact⟨_,(true),rfl,H',⟨by first|omega|exact Nat.le_refl _⟩,⟨by(with_reducible repeat first|apply Kd.Zr|apply Kd.Zq|apply Kd.Z9);exact a3.out⟩,⟨by(with_reducible repeat first|apply Kd.Zr|apply Kd.Zq|apply Kd.Z9);exact a4.out⟩,⟨by(with_reducible repeat first|apply Kd.Zr|apply Kd.Zq|apply Kd.Z9);exact a5.out⟩,η,HB⟩
   ·rw[if_neg c6] at H
    have c6b0:decide (64<J)=false:=decide_eq_false c6
    clear c6
    by_cases c8:B<0
    ·rw[if_pos c8] at H
     have c8b0:decide (B<0)=true:=decide_eq_true c8
     clear c8
     have H':=Aside0.mk H
     clear H
     obtain⟨a6,ac,cd,ck,cm,cn,co,cp,bb,bc,cq,ep,ez,f8,fa,fb⟩:=qD8 η.out
     go_wp2
     go_meet
     case rel=>exact⟨_,(true),rfl,H',⟨by first|omega|exact Nat.le_refl _⟩,⟨by(with_reducible repeat first|apply Kd.Zr|apply Kd.Zq|apply Kd.Z9);exact a3.out⟩,⟨by(with_reducible repeat first|apply Kd.Zr|apply Kd.Zq|apply Kd.Z9);exact a4.out⟩,⟨by(with_reducible repeat first|apply Kd.Zr|apply Kd.Zq|apply Kd.Z9);exact a5.out⟩,η,HB⟩
    ·rw[if_neg c8] at H
     have c8b0:decide (B<0)=false:=decide_eq_false c8
     clear c8
     by_cases c10:B≥J
     ·rw[if_pos c10] at H
      have c10b0:decide (J≤B)=true:=decide_eq_true c10
      clear c10
      have H':=Aside0.mk H
      clear H
      obtain⟨ψ,a0,ae,b6,b7,b8,cf,d9,a7,ab,b5,dj,dk,dl,dn,dp⟩:=qD8 η.out
      go_wp2
      go_meet
      case rel=>exact⟨_,(true),rfl,H',⟨by first|omega|exact Nat.le_refl _⟩,⟨by(with_reducible repeat first|apply Kd.Zr|apply Kd.Zq|apply Kd.Z9);exact a3.out⟩,⟨by(with_reducible repeat first|apply Kd.Zr|apply Kd.Zq|apply Kd.Z9);exact a4.out⟩,⟨by(with_reducible repeat first|apply Kd.Zr|apply Kd.Zq|apply Kd.Z9);exact a5.out⟩,η,HB⟩
     ·rw[if_neg c10] at H
      have c10b0:decide (J≤B)=false:=decide_eq_false c10
      clear c10
      by_cases al:L<(-1)
      ·rw[if_pos al] at H
       have c12b0:decide (L<(-1))=true:=decide_eq_true al
       clear al
       have H':=Aside0.mk H
       clear H
       obtain⟨ap,aw,τ,a8,aa,ao,ay,bd,ar,ax,ω,b0,b1,b2,b3,be⟩:=qD8 η.out
       go_wp2
       go_meet
       case rel=>exact⟨_,(true),rfl,H',⟨by first|omega|exact Nat.le_refl _⟩,⟨by(with_reducible repeat first|apply Kd.Zr|apply Kd.Zq|apply Kd.Z9);exact a3.out⟩,⟨by(with_reducible repeat first|apply Kd.Zr|apply Kd.Zq|apply Kd.Z9);exact a4.out⟩,⟨by(with_reducible repeat first|apply Kd.Zr|apply Kd.Zq|apply Kd.Z9);exact a5.out⟩,η,HB⟩
      ·rw[if_neg al] at H
       have c12b0:decide (L<(-1))=false:=decide_eq_false al
       clear al
       have H':=Aside0.mk H
       clear H
       obtain⟨cg,ch,cx,cy,cz,d0,d1,dc,ci,cj,d2,d3,d4,d5,d6,dd⟩:=qD8 η.out
       go_wp2
       go_meet
       case rel=>exact⟨_,(decide (L>1)),rfl,H',⟨by first|omega|exact Nat.le_refl _⟩,⟨by(with_reducible repeat first|apply Kd.Zr|apply Kd.Zq|apply Kd.Z9);exact a3.out⟩,⟨by(with_reducible repeat first|apply Kd.Zr|apply Kd.Zq|apply Kd.Z9);exact a4.out⟩,⟨by(with_reducible repeat first|apply Kd.Zr|apply Kd.Zq|apply Kd.Z9);exact a5.out⟩,η,HB⟩
 case rest=>
  clear dw
  try clear c1
  try clear c2
  try clear p2
  try clear c4
  try clear c4b0
  try clear c6
  try clear c6b0
  try clear c8
  try clear c8b0
  try clear c10
  try clear c10b0
  try clear al
  try clear c12b0
  try clear ψ
  try clear a0
  try clear ae
  try clear b6
  try clear b7
  try clear b8
  try clear cf
  try clear d9
  try clear ap
  try clear aw
  try clear τ
  try clear a8
  try clear aa
  try clear ao
  try clear ay
  try clear bd
  try clear cg
  try clear ch
  try clear cx
  try clear cy
  try clear cz
  try clear d0
  try clear d1
  try clear dc
  try clear bv
  try clear bw
  try clear ca
  try clear cb
  try clear ce
  try clear ct
  try clear cu
  try clear cw
  try clear au
  try clear av
  try clear e3
  try clear ek
  try clear en
  try clear er
  try clear et
  try clear eu
  try clear a6
  try clear ac
  try clear cd
  try clear ck
  try clear cm
  try clear cn
  try clear co
  try clear cp
  try clear a7
  try clear ab
  try clear b5
  try clear dj
  try clear dk
  try clear dl
  try clear dn
  try clear dp
  try clear ar
  try clear ax
  try clear ω
  try clear b0
  try clear b1
  try clear b2
  try clear b3
  try clear be
  try clear ci
  try clear cj
  try clear d2
  try clear d3
  try clear d4
  try clear d5
  try clear d6
  try clear dd
  try clear d8
  try clear da
  try clear db
  try clear dh
  try clear di
  try clear dm
  try clear dr
  try clear dt
  try clear az
  try clear b9
  try clear ev
  try clear ew
  try clear ey
  try clear fe
  try clear ff
  try clear fg
  try clear bb
  try clear bc
  try clear cq
  try clear ep
  try clear ez
  try clear f8
  try clear fa
  try clear fb
  obtain⟨kq,bj,rfl,HA,ga,HO_169005,HO_169006,HO_169007,η,HB⟩:=hcut
  cases kq with
  |zero=>exact absurd HA.out (by simp[collect_Check.j0])
  |succ fi=>
   have H:=HA.out
   clear HA
   simp only[collect_Check.j0] at H
   by_cases af:bj=true
   ·subst af
    have H1:(some 200)=some r:=by rw[if_pos rfl] at H;exact H
    clear H
    have H:=H1
    clear H1
    obtain rfl:=Option.some.inj H
    go_wp2
    go_ret
    exact⟨rfl,HB.out⟩
   ·replace af:=Bool.eq_false_iff.mpr af
    subst af
    have H1:((some (([Y,Z,γ]:List (List Int)):List (List Int))).bind fun ε =>(collect_Check.l0 fi ε (ε.length:Int) 0 J B L O X Y Z γ))=some r:=by rw[if_neg (show ¬ (false=true) by decide)] at H;exact H
    clear H
    have H:=H1
    clear H1
    obtain⟨ε,bf⟩:∃ y_:List (List Int),y_=(([Y,Z,γ]:List (List Int))):=⟨_,rfl⟩
    replace H:(collect_Check.l0 fi ε (ε.length:Int) 0 J B L O X Y Z γ)=some r:=by first|(rw[bf];with_reducible exact H)|(have am:=(Option.bind_some _ _).symm.trans H;rw[bf];with_reducible exact am)|(have am:=(Option.bind_some _ _).symm.trans H;with_reducible exact am)|with_reducible exact H|(rw[bf];exact H)|exact H
    have fj:=Aside0.mk bf
    clear bf
    have H':=Aside0.mk H
    clear H
    obtain⟨dx,dy,bm,bz,de,df,e4,e5,dz,e0,br,e6,e7,e9,ea,eb⟩:=qD8 η.out
    go_wp2_with (first|((with_reducible refine Qe (N:=44) rfl ?_);refine Kd.N_lit (Kd.slice 3 (Kd.int .i64)) _ 32 ?hg (N':=44) ?hd (xs:=([Y,Z,γ]:List (List Int))) (inner:=[.slice ρ Y.length σ,.slice φ Z.length χ,.slice a1 γ.length a2]) (ok:=(fun k_=>((θ k_ ∨ ι k_ ∨ κ k_)∨w.heap.size≤k_)∧k_ ≠ ζ)) (okp:=(fun k_=>((θ k_ ∨ ι k_ ∨ κ k_)∨w.heap.size≤k_)∧k_ ≠ ζ)) ?hr ?hp (fun _ hk=>hk) ((show ∀ k_,wc.heap.size≤k_→(fun k_=>((θ k_ ∨ ι k_ ∨ κ k_)∨w.heap.size≤k_)∧k_ ≠ ζ) k_ from fun k_ hk=>⟨(.inr (Nat.le_trans (Qr HB.out) hk)),Kd.N6 (g:= ζ) (o:=.cells #[.int .i64 J,.int .i64 B,.int .i64 L,.bool O,.bool X,.slice ρ Y.length σ,.slice φ Z.length χ,.slice a1 γ.length a2] 76 (0,0)) η.out k_ hk⟩) _ (Nat.le_refl _)) (Below.refl _ _) (Nat.le_refl _) (by simp) ?_;(case hd=>rfl);(case hg=>rfl);(case hr=>go_simp <;> rfl);(case hp=>exact(Reps.one (show Kd.FK (Kd.slice 3 (Kd.int .i64)) _ _ Y [.slice ρ Y.length σ] from(Kd.Jf (Kd.Gi (Kd.X9 (ok':=(fun k_=>((θ k_ ∨ ι k_ ∨ κ k_)∨w.heap.size≤k_)∧k_ ≠ ζ)) (HO_169005.out) (fun k_ hk=>⟨hk.1,hk.2⟩))).2.1 (Kd.V_F (Kd.X9 (ok':=(fun k_=>((θ k_ ∨ ι k_ ∨ κ k_)∨w.heap.size≤k_)∧k_ ≠ ζ)) (HO_169005.out) (fun k_ hk=>⟨hk.1,hk.2⟩))))) (Reps.one (show Kd.FK (Kd.slice 3 (Kd.int .i64)) _ _ Z [.slice φ Z.length χ] from(Kd.Jf (Kd.Gi (Kd.X9 (ok':=(fun k_=>((θ k_ ∨ ι k_ ∨ κ k_)∨w.heap.size≤k_)∧k_ ≠ ζ)) (HO_169006.out) (fun k_ hk=>⟨hk.1,hk.2⟩))).2.1 (Kd.V_F (Kd.X9 (ok':=(fun k_=>((θ k_ ∨ ι k_ ∨ κ k_)∨w.heap.size≤k_)∧k_ ≠ ζ)) (HO_169006.out) (fun k_ hk=>⟨hk.1,hk.2⟩))))) (Reps.one (show Kd.FK (Kd.slice 3 (Kd.int .i64)) _ _ γ [.slice a1 γ.length a2] from(Kd.Jf (Kd.Gi (Kd.X9 (ok':=(fun k_=>((θ k_ ∨ ι k_ ∨ κ k_)∨w.heap.size≤k_)∧k_ ≠ ζ)) (HO_169007.out) (fun k_ hk=>⟨hk.1,hk.2⟩))).2.1 (Kd.V_F (Kd.X9 (ok':=(fun k_=>((θ k_ ∨ ι k_ ∨ κ k_)∨w.heap.size≤k_)∧k_ ≠ ζ)) (HO_169007.out) (fun k_ hk=>⟨hk.1,hk.2⟩))))) (Reps.none _ _)))));intro gi du ak hb hg_ hnew_;clear hg_ hnew_;(first|rw[← fj.out] at ak|(simp only[Int.reduceToNat] at ak;rw[← fj.out] at ak));have fk:=Aside0.mk (Kd.Nn ak (Qr HB.out));replace HO_169005:=Aside0.mk (Kd.Gm HO_169005.out (Kd.U4 ak) hb);replace HO_169006:=Aside0.mk (Kd.Gm HO_169006.out (Kd.U4 ak) hb);replace HO_169007:=Aside0.mk (Kd.Gm HO_169007.out (Kd.U4 ak) hb);replace η :=sBk η hb;replace HB:=sHb hb;clear hb ak;obtain⟨bs,bu,ge⟩:=Kd.Wm fk.out;subst ge))
    go_loopg [46] fi (fun kq gf w'=>∃ (δ :Int),gf = .int .i64 δ ∧ Aside0 (collect_Check.l0 kq ε (ε.length:Int) δ J B L O X Y Z γ=some r)∧Aside0 (kq≤fi)∧Aside0 (Kd.N (Kd.slice 3 (Kd.int .i64)) 32 w' w.heap.size (fun k_=>((θ k_ ∨ ι k_ ∨ κ k_)∨w.heap.size≤k_)∧k_ ≠ ζ) (.slice bs ε.length bu) ε)∧Aside0 (Kd.V (Kd.int .i64) 3 w' w.heap.size (fun k_=>((θ k_ ∨ ι k_ ∨ κ k_)∨w.heap.size≤k_)∧some k_≠((.slice bs ε.length bu):Value).ownBlock∧k_ ≠ ζ) (.slice ρ Y.length σ) Y)∧Aside0 (Kd.V (Kd.int .i64) 3 w' w.heap.size (fun k_=>((θ k_ ∨ ι k_ ∨ κ k_)∨w.heap.size≤k_)∧some k_≠((.slice bs ε.length bu):Value).ownBlock∧k_ ≠ ζ) (.slice φ Z.length χ) Z)∧Aside0 (Kd.V (Kd.int .i64) 3 w' w.heap.size (fun k_=>((θ k_ ∨ ι k_ ∨ κ k_)∨w.heap.size≤k_)∧some k_≠((.slice bs ε.length bu):Value).ownBlock∧k_ ≠ ζ) (.slice a1 γ.length a2) γ)∧Aside0 (w'.heap[ζ]?=some (.cells #[.int .i64 J,.int .i64 B,.int .i64 L,.bool O,.bool X,(.slice ρ Y.length σ),(.slice φ Z.length χ),(.slice a1 γ.length a2)] 76 (0,0)))∧Aside0 (Below w.heap.size w w'))
    case atStart=>exact⟨(0),rfl,H',⟨Nat.le_refl _⟩,⟨by(with_reducible repeat(first|apply Kd.Wo|apply Kd.Wn|apply Kd.Mk));exact fk.out⟩,⟨by(with_reducible repeat first|apply Kd.Zr|apply Kd.Zq|apply Kd.Z9);exact Kd.X9 HO_169005.out (fun _ hk=>⟨hk.1.1,⟨hk.2,hk.1.2⟩⟩)⟩,⟨by(with_reducible repeat first|apply Kd.Zr|apply Kd.Zq|apply Kd.Z9);exact Kd.X9 HO_169006.out (fun _ hk=>⟨hk.1.1,⟨hk.2,hk.1.2⟩⟩)⟩,⟨by(with_reducible repeat first|apply Kd.Zr|apply Kd.Zq|apply Kd.Z9);exact Kd.X9 HO_169007.out (fun _ hk=>⟨hk.1.1,⟨hk.2,hk.1.2⟩⟩)⟩,η,HB⟩
    case round=>
     clear H'
     try clear c1
     try clear c2
     try clear p2
     try clear c4
     try clear c4b0
     try clear c6
     try clear c6b0
     try clear c8
     try clear c8b0
     try clear c10
     try clear c10b0
     try clear al
     try clear c12b0
     try clear af
     try clear ψ
     try clear a0
     try clear ae
     try clear b6
     try clear b7
     try clear b8
     try clear cf
     try clear d9
     try clear ap
     try clear aw
     try clear τ
     try clear a8
     try clear aa
     try clear ao
     try clear ay
     try clear bd
     try clear cg
     try clear ch
     try clear cx
     try clear cy
     try clear cz
     try clear d0
     try clear d1
     try clear dc
     try clear dx
     try clear dy
     try clear bm
     try clear bz
     try clear de
     try clear df
     try clear e4
     try clear e5
     try clear bv
     try clear bw
     try clear ca
     try clear cb
     try clear ce
     try clear ct
     try clear cu
     try clear cw
     try clear au
     try clear av
     try clear e3
     try clear ek
     try clear en
     try clear er
     try clear et
     try clear eu
     try clear a6
     try clear ac
     try clear cd
     try clear ck
     try clear cm
     try clear cn
     try clear co
     try clear cp
     try clear a7
     try clear ab
     try clear b5
     try clear dj
     try clear dk
     try clear dl
     try clear dn
     try clear dp
     try clear ar
     try clear ax
     try clear ω
     try clear b0
     try clear b1
     try clear b2
     try clear b3
     try clear be
     try clear ci
     try clear cj
     try clear d2
     try clear d3
     try clear d4
     try clear d5
     try clear d6
     try clear dd
     try clear dz
     try clear e0
     try clear br
     try clear e6
     try clear e7
     try clear e9
     try clear ea
     try clear eb
     try clear d8
     try clear da
     try clear db
     try clear dh
     try clear di
     try clear dm
     try clear dr
     try clear dt
     try clear az
     try clear b9
     try clear ev
     try clear ew
     try clear ey
     try clear fe
     try clear ff
     try clear fg
     try clear bb
     try clear bc
     try clear cq
     try clear ep
     try clear ez
     try clear f8
     try clear fa
     try clear fb
     try clear p2
     obtain⟨δ,rfl,HA,e8,HO_44,HO_169005,HO_169006,HO_169007,η,HB⟩:=hrel
     cases gk with
     |zero=>exact absurd HA.out (by simp[collect_Check.l0])
     |succ k2=>
      have H:=HA.out
      clear HA
      simp only[collect_Check.l0] at H
      by_cases b4: δ < (ε.length:Int)
      ·rw[if_pos b4] at H
       have c20b0:decide (δ < (ε.length:Int))=true:=decide_eq_true b4
       clear b4
       by_cases ag:0 ≤ δ
       ·rw[if_pos ag] at H
        have c21b0:decide (0 ≤ δ)=true:=decide_eq_true ag
        clear ag
        by_cases dq: δ < (ε.length:Int)
        ·rw[if_pos dq] at H
         have c22b0:decide (δ < (ε.length:Int))=true:=decide_eq_true dq
         clear dq
         replace H:=Option.bind_eq_some_iff.mp H
         obtain⟨bq,g0,H⟩:=H
         replace H:(if bq=true then (collect_Check.l0 k2 ε (ε.length:Int) (wrap64 (δ + 1)) J B L O X Y Z γ) else (some 200))=some r:=H
         have gb:=Aside0.mk g0
         clear g0
         by_cases d7:bq=true
         ·subst d7
          have H1:(collect_Check.l0 k2 ε (ε.length:Int) (wrap64 (δ + 1)) J B L O X Y Z γ)=some r:=by rw[if_pos rfl] at H;exact H
          clear H
          have H:=H1
          clear H1
          have H':=Aside0.mk H
          clear H
          have ai:0≤(δ :Int):=of_decide_eq_true (by assumption)
          have aj: δ < (ε.length:Int):=of_decide_eq_true (by assumption)
          obtain⟨g7,bk,bl,fh,bg,a9,ah⟩:=Ny (Kd.Je HO_44.out).2.2 δ ai aj
          cases fh
          obtain⟨g8,bn,bo,an⟩:=Kd.Nz HO_44.out [] δ ai (by first|exact aj|exact of_decide_eq_true (by assumption)|(have e_:=(Kd.Je HO_44.out).1;omega))
          obtain⟨fp,fq,rfl,ν,ξ⟩:=Kd.Jr bo
          have μ :=an 0 _ rfl
          rw[Nat.add_zero,show((Kd.slice 3 (Kd.int .i64))).sz=1 from rfl,Nat.mul_one] at μ
          replace μ :=Option.some.inj (μ.symm.trans bg)
          injection μ with hva_ hvn_ hvc_
          rw[hva_] at ξ
          rw[hvc_] at ν
          have ft:=Aside0.mk (show Kd.V (Kd.int .i64) 3 _ w.heap.size _ _ (Yr ε δ) from Kd.Gj ν ξ)
          clear hva_ hvn_ hvc_ ξ ν
          clear an bn
          have bh:=Aside0.mk ah
          have bi:=Aside0.mk a9
          clear ah a9
          replace ai:=eq_true ai
          replace aj:=eq_true aj
          obtain⟨ec,ed,ba,dv,eo,fc,fl,bp,ee,ef,cv,fm,fn,fo,fr,cr⟩:=qD8 η.out
          go_wp2_with (first|((with_reducible refine Ql (f:=50) rfl ?_);refine Q2 (some 53) rfl rfl Try.func50 kr rfl #[.slice bk (Yr ε δ).length bl,.int .i64 J] rfl qM ?_;(with_reducible refine(collect_rising.calls k2 _ _ (Yr ε δ) J true _ ?side1 ?side2 gb.out).mono ?_);(case side1=>exact bh.out);(case side2=>exact bi.out);rintro e w' ⟨rfl,⟨nd,rfl⟩⟩;refine⟨_,rfl, ?_⟩))
          go_roundg k2
          case measure=>have:=ga.out;have:=e8.out;omega
          case rel=>exact⟨(wrap64 (δ + 1)),qR,H',⟨by have:=ga.out;have:=e8.out;omega⟩,⟨by(with_reducible repeat(first|apply Kd.Wo|apply Kd.Wn|apply Kd.Mk));exact HO_44.out⟩,⟨by(with_reducible repeat first|apply Kd.Zr|apply Kd.Zq|apply Kd.Z9);exact HO_169005.out⟩,⟨by(with_reducible repeat first|apply Kd.Zr|apply Kd.Zq|apply Kd.Z9);exact HO_169006.out⟩,⟨by(with_reducible repeat first|apply Kd.Zr|apply Kd.Zq|apply Kd.Z9);exact HO_169007.out⟩,⟨bka η⟩,⟨bel⟩⟩
         ·replace d7:=Bool.eq_false_iff.mpr d7
          subst d7
          have H1:(some 200)=some r:=by rw[if_neg (show ¬ (false=true) by decide)] at H;exact H
          clear H
          have H:=H1
          clear H1
          obtain rfl:=Option.some.inj H
          have ai:0≤(δ :Int):=of_decide_eq_true (by assumption)
          have aj: δ < (ε.length:Int):=of_decide_eq_true (by assumption)
          obtain⟨g7,bk,bl,fh,bg,a9,ah⟩:=Ny (Kd.Je HO_44.out).2.2 δ ai aj
          cases fh
          obtain⟨g8,bn,bo,an⟩:=Kd.Nz HO_44.out [] δ ai (by first|exact aj|exact of_decide_eq_true (by assumption)|(have e_:=(Kd.Je HO_44.out).1;omega))
          obtain⟨fp,fq,rfl,ν,ξ⟩:=Kd.Jr bo
          have μ :=an 0 _ rfl
          rw[Nat.add_zero,show((Kd.slice 3 (Kd.int .i64))).sz=1 from rfl,Nat.mul_one] at μ
          replace μ :=Option.some.inj (μ.symm.trans bg)
          injection μ with hva_ hvn_ hvc_
          rw[hva_] at ξ
          rw[hvc_] at ν
          have ft:=Aside0.mk (show Kd.V (Kd.int .i64) 3 _ w.heap.size _ _ (Yr ε δ) from Kd.Gj ν ξ)
          clear hva_ hvn_ hvc_ ξ ν
          clear an bn
          have bh:=Aside0.mk ah
          have bi:=Aside0.mk a9
          clear ah a9
          replace ai:=eq_true ai
          replace aj:=eq_true aj
          obtain⟨eg,eh,el,fu,fv,fw,fx,fy,ei,ej,em,fz,g2,g3,g4,g9⟩:=qD8 η.out
          go_wp2_with (first|((with_reducible refine Ql (f:=50) rfl ?_);refine Q2 (some 53) rfl rfl Try.func50 kr rfl #[.slice bk (Yr ε δ).length bl,.int .i64 J] rfl qM ?_;(with_reducible refine(collect_rising.calls k2 _ _ (Yr ε δ) J false _ ?side1 ?side2 gb.out).mono ?_);(case side1=>exact bh.out);(case side2=>exact bi.out);rintro e w' ⟨rfl,⟨nd,rfl⟩⟩;refine⟨_,rfl, ?_⟩))
          go_ret
          exact⟨by first|rfl|(simp[Qh,Qg] <;> rfl)|(simp[*,Qh,Qg] <;> rfl),bel⟩
        ·rw[if_neg dq] at H
         exact absurd H (by simp)
       ·rw[if_neg ag] at H
        exact absurd H (by simp)
      ·rw[if_neg b4] at H
       have c20b0:decide (δ < (ε.length:Int))=false:=decide_eq_false b4
       clear b4
       obtain rfl:=Option.some.inj H
       go_wp2
       go_ret
       exact⟨rfl,HB.out⟩
end Go.Proofs.Ytmfffemidlhcpaa.C
namespace Go.Proofs.Ytmfffemidlhcpaa.ColPure
open Go.RowKit Go.Proofs.YtmfffemidlhcpaaW.PrintWords Go.Proofs.YtmfffemidlhcpaaW.PrintLast Go.Proofs.YtmfffemidlhcpaaW.PrintMore Go.Proofs.Ytmfffemidlhcpaa.C
set_option linter.unusedVariables false
theorem Nu (l:List Int) (i:Nat) (h:i<l.length):rd l (i:Int)=l[i]:=by
  simp[rd,h]
theorem up1 {i:Nat} (h:i≤1000000):wrap64 ((i:Int)+1)=((i+1:Nat):Int):=by unfold wrap64;omega
theorem w64 {n:Int} (h: -1000000≤n) (L:n≤1000000):wrap64 n=n:=by unfold wrap64;omega
theorem Mb (l:List Int) (i:Nat) (h:i<l.length):l.drop i=l[i] :: l.drop (i+1):=List.drop_eq_getElem_cons h
def Y9 (fl:Int):Int→List Int→Bool
  |_,[]=>true
  |p,x :: xs=>decide (p<x∧x<fl)&&Y9 fl x xs
def Jo (l:List Int) (i:Nat):Int:=if i=0 then -1 else rd l ((i-1:Nat):Int)
theorem G1 (l:List Int) (i:Nat) (h:i<l.length):Jo l (i+1)=l[i]:=by
  unfold Jo
  rw[if_neg (by omega),Nat.add_sub_cancel,Nu l i h]
theorem V5 (l:List Int) (fl:Int) (hm:l.length≤1000) (j:Nat):∀ (f i:Nat),i+j=l.length→j<f → -1≤Jo l i→collect_rising.l0 f l fl l (l.length:Int) (i:Int)=some (Y9 fl (Jo l i) (l.drop i)):=by
  induction j with
  |zero=>
    intro f i hi hf hp
    obtain⟨f,rfl⟩:∃ m,f=m+1:=⟨f-1,by omega⟩
    rw[collect_rising.l0,if_neg (by omega),List.drop_of_length_le (by omega)]
    rfl
  |succ j ih=>
    intro f i hi hf hp
    obtain⟨f,rfl⟩:∃ m,f=m+1:=⟨f-1,by omega⟩
    have ha:i<l.length:=by omega
    have go:0≤l[i]→collect_rising.l0 f l fl l (l.length:Int) (wrap64 ((i:Int)+1))=some (Y9 fl l[i] (l.drop (i+1))):=by
      intro X
      rw[up1 (by omega),ih f (i+1) (by omega) (by omega) (by rw[G1 l i ha];omega),G1 l i ha]
    rw[collect_rising.l0,if_pos (by omega),if_pos (by omega),if_pos (by omega),Nu l i ha,Mb l i ha,Y9]
    by_cases c1:l[i]<0
    · rw[if_pos c1,decide_eq_false (by omega),Bool.false_and]
    rw[if_neg c1]
    by_cases c2:l[i]≥fl
    · rw[if_pos c2,decide_eq_false (by omega),Bool.false_and]
    rw[if_neg c2]
    by_cases c3:i=0
    · have hv:Jo l i = -1:=by unfold Jo;rw[if_pos c3]
      rw[if_neg (by omega),go (by omega),hv,decide_eq_true (by omega),Bool.true_and]
    · have ew:wrap64 ((i:Int)-1)=((i-1:Nat):Int):=by rw[w64 (by omega) (by omega)];omega
      have hv:Jo l i=rd l ((i-1:Nat):Int):=by unfold Jo;rw[if_neg c3]
      rw[if_pos (by omega),ew,if_pos (by omega),if_pos (by omega),← hv]
      by_cases c4:Jo l i≥l[i]
      · rw[if_pos c4,decide_eq_false (by omega),Bool.false_and]
      · rw[if_neg c4,go (by omega),decide_eq_true (by omega),Bool.true_and]
theorem Kh (l:List Int) (fl:Int) (hm:l.length≤1000) (f:Nat) (hf:l.length<f):collect_rising.f f l fl=some (Y9 fl (-1) l):=by
  have:=V5 l fl hm l.length f 0 (by omega) hf (by unfold Jo;rw[if_pos rfl];exact Int.le_refl _)
  rw[List.drop_zero] at this
  exact this
structure Few (I U D:List Int):Prop where
  i:I.length≤600
  u:U.length≤600
  d:D.length≤600
variable {I U D : List Int}
def Gu (fl f d:Int) (I U D:List Int):Bool:=Y9 fl (-1) I&&Y9 fl (-1) U&&Y9 fl (-1) D&&decide (2≤fl∧fl≤64∧0≤f∧f<fl ∧ -1≤d∧d≤1)
theorem Uy (h:Few I U D) (fl f d:Int) (su sd:Bool) (k:Nat) (hk:1500≤k):collect_Check.j0 k false fl f d su sd I U D=some (if Y9 fl (-1) I&&Y9 fl (-1) U&&Y9 fl (-1) D then 0 else 200):=by
  have:=h.i;have:=h.u;have:=h.d
  obtain⟨k,rfl⟩:∃ m,k=m+5:=⟨k-5,by omega⟩
  rw[collect_Check.j0,if_neg (by decide),Option.bind_some]
  have e1:wrap64 (0+1)=1:=w64 (by omega) (by omega)
  have e2:wrap64 (1+1)=2:=w64 (by omega) (by omega)
  have Y:wrap64 (2+1)=3:=w64 (by omega) (by omega)
  have el:(([I,U,D]:List (List Int)).length:Int)=3:=rfl
  have r0:Yr [I,U,D] 0=I:=rfl
  have r1:Yr [I,U,D] 1=U:=rfl
  have r2:Yr [I,U,D] 2=D:=rfl
  rw[el]
  rw[collect_Check.l0,if_pos (by decide),if_pos (by decide),el,if_pos (by decide),r0,Kh I fl (by omega) _ (by omega),Option.bind_some]
  cases Y9 fl (-1) I
  · rfl
  rw[if_pos rfl,e1,collect_Check.l0,if_pos (by decide),if_pos (by decide),el,if_pos (by decide),r1,Kh U fl (by omega) _ (by omega),Option.bind_some]
  cases Y9 fl (-1) U
  · rfl
  rw[if_pos rfl,e2,collect_Check.l0,if_pos (by decide),if_pos (by decide),el,if_pos (by decide),r2,Kh D fl (by omega) _ (by omega),Option.bind_some]
  cases Y9 fl (-1) D
  · rfl
  rw[if_pos rfl,Y,collect_Check.l0,if_neg (by decide)]
  rfl
theorem Lh (fl f d:Int) (su sd:Bool) (k:Nat) (hk:1500≤k):collect_Check.j0 k true fl f d su sd I U D=some 200:=by
  obtain⟨k,rfl⟩:∃ m,k=m+1:=⟨k-1,by omega⟩
  rw[collect_Check.j0,if_pos rfl]
theorem Yg (h:Few I U D) (fl f d:Int) (su sd:Bool) (k:Nat) (hk:1500≤k):collect_Check.f k fl f d su sd I U D=some (if Gu fl f d I U D then 0 else 200):=by
  unfold collect_Check.f
  have bad:=Lh (I:=I) (U:=U) (D:=D) fl f d su sd k hk
  by_cases c1:fl<2
  · rw[if_pos c1,bad]
    unfold Gu
    rw[decide_eq_false (by omega),Bool.and_false]
    rfl
  rw[if_neg c1]
  by_cases c2:fl>64
  · rw[if_pos c2,bad]
    unfold Gu
    rw[decide_eq_false (by omega),Bool.and_false]
    rfl
  rw[if_neg c2]
  by_cases c3:f<0
  · rw[if_pos c3,bad]
    unfold Gu
    rw[decide_eq_false (by omega),Bool.and_false]
    rfl
  rw[if_neg c3]
  by_cases c4:f≥fl
  · rw[if_pos c4,bad]
    unfold Gu
    rw[decide_eq_false (by omega),Bool.and_false]
    rfl
  rw[if_neg c4]
  by_cases c5:d < -1
  · rw[if_pos c5,bad]
    unfold Gu
    rw[decide_eq_false (by omega),Bool.and_false]
    rfl
  rw[if_neg c5]
  by_cases c6:d>1
  · rw[decide_eq_true c6,bad]
    unfold Gu
    rw[decide_eq_false (by omega),Bool.and_false]
    rfl
  · rw[decide_eq_false c6,Uy h fl f d su sd k hk]
    unfold Gu
    rw[decide_eq_true (by omega),Bool.and_true]
end Go.Proofs.Ytmfffemidlhcpaa.ColPure
namespace Go.Proofs.Ytmfffemidlhcpaa.K
open Go.RowKit Go.Proofs.YtmfffemidlhcpaaW.PrintWords Go.Proofs.YtmfffemidlhcpaaW.PrintLast Go.Proofs.YtmfffemidlhcpaaW.PrintMore
attribute [local go_sem] Zx Zv Z8 Z7 Zl Zk Zw Zu
set_option linter.unusedVariables false
set_option linter.unusedSimpArgs false
def L9:Option Int→Value
 |none=>.nilIface
 |some c=>.iface 0 (.int .i64 c)
theorem Qh:L9 none = .nilIface:=rfl
theorem Qg (c:Int):L9 (some c) = .iface 0 (.int .i64 c):=rfl
theorem Wd:(Try.prog.info? 3).map (fun i=>(i.zero,i.size,i.bytes))=some (some (.int .i64 0),1,8):=by kernel_rfl
structure S36 where
 f0:Int
 f1:Int
 f2:Int
def z36:S36:=⟨(0:Int),(0:Int),(0:Int)⟩
def k36:Kd S36:=Kd.iso (Kd.pair (Kd.int .i64) (Kd.pair (Kd.int .i64) (Kd.int .i64))) (fun x:S36=>(x.f0,x.f1,x.f2))
theorem J8 {w:World} {x:S36} {cs:List Value} (h:k36.K w x cs):cs = [.int .i64 x.f0,.int .i64 x.f1,.int .i64 x.f2]:=by
 obtain⟨_,_,rfl,rfl,⟨_,_,rfl,rfl,rfl⟩⟩:=h
 exact rfl
theorem X4 {w:World} {base:Nat} {ok:Nat→Prop} {x:S36} {cs:List Value} (h:k36.M w base ok x cs):cs = [.int .i64 x.f0,.int .i64 x.f1,.int .i64 x.f2]:=by
 obtain⟨_,_,rfl,rfl,⟨_,_,rfl,rfl,rfl⟩⟩:=h
 exact rfl
theorem J9 (w:World) (base:Nat) (ok:Nat→Prop) (x:S36):k36.M w base ok x [.int .i64 x.f0,.int .i64 x.f1,.int .i64 x.f2]:=⟨[.int .i64 x.f0],[.int .i64 x.f1,.int .i64 x.f2],rfl,rfl,⟨[.int .i64 x.f1],[.int .i64 x.f2],rfl,rfl,rfl⟩⟩
def Qc (xs:List S36) (i:Int):S36:=xs.getD i.toNat z36
theorem Xv {w:World} {A:Option Addr} {n:Nat} {xs:List S36} (h:Kd.C k36 w A n xs) (i:Int) (X:0≤i) (h1:i<n):∃ ad,A=some ad∧w.cell? (ad.add (i.toNat * 3))=some (.int .i64 (Qc xs i).f0)∧w.cell? ⟨(ad.add (i.toNat * 3)).block,(ad.add (i.toNat * 3)).off+1,none⟩=some (.int .i64 (Qc xs i).f1)∧w.cell? ⟨(ad.add (i.toNat * 3)).block,(ad.add (i.toNat * 3)).off+2,none⟩=some (.int .i64 (Qc xs i).f2):=by
 obtain⟨ad,c,e,_,hK,γ⟩:=Kd.G7 h z36 i X h1
 have hc:∀ j u,c[j]?=some u→w.cell? (ad.add (i.toNat * 3+j))=some u:=γ
 obtain rfl:=J8 hK
 exact⟨ad,e,hc 0 _ rfl,by rw[← Zz _ _ 1 (by omega)];exact hc 1 _ rfl,by rw[← Zz _ _ 2 (by omega)];exact hc 2 _ rfl⟩
structure S86 where
 f0:Int
 f1:Int
def z86:S86:=⟨(0:Int),(0:Int)⟩
def k86:Kd S86:=Kd.iso (Kd.pair (Kd.int .i64) (Kd.int .i64)) (fun x:S86=>(x.f0,x.f1))
theorem J7 {w:World} {x:S86} {cs:List Value} (h:k86.K w x cs):cs = [.int .i64 x.f0,.int .i64 x.f1]:=by
 obtain⟨_,_,rfl,rfl,rfl⟩:=h
 exact rfl
theorem Jj {w:World} {base:Nat} {ok:Nat→Prop} {x:S86} {cs:List Value} (h:k86.M w base ok x cs):cs = [.int .i64 x.f0,.int .i64 x.f1]:=by
 obtain⟨_,_,rfl,rfl,rfl⟩:=h
 exact rfl
theorem L0 (w:World) (x:S86):k86.K w x [.int .i64 x.f0,.int .i64 x.f1]:=⟨[.int .i64 x.f0],[.int .i64 x.f1],rfl,rfl,rfl⟩
theorem Vi (w:World) (base:Nat) (ok:Nat→Prop) (x:S86):k86.M w base ok x [.int .i64 x.f0,.int .i64 x.f1]:=⟨[.int .i64 x.f0],[.int .i64 x.f1],rfl,rfl,rfl⟩
def Qn (xs:List S86) (i:Int):S86:=xs.getD i.toNat z86
theorem Y3 {w:World} {A:Option Addr} {n:Nat} {xs:List S86} (h:Kd.C k86 w A n xs) (i:Int) (X:0≤i) (h1:i<n):∃ ad,A=some ad∧w.cell? (ad.add (i.toNat * 2))=some (.int .i64 (Qn xs i).f0)∧w.cell? ⟨(ad.add (i.toNat * 2)).block,(ad.add (i.toNat * 2)).off+1,none⟩=some (.int .i64 (Qn xs i).f1):=by
 obtain⟨ad,c,e,_,hK,γ⟩:=Kd.G7 h z86 i X h1
 have hc:∀ j u,c[j]?=some u→w.cell? (ad.add (i.toNat * 2+j))=some u:=γ
 obtain rfl:=J7 hK
 exact⟨ad,e,hc 0 _ rfl,by rw[← Zz _ _ 1 (by omega)];exact hc 1 _ rfl⟩
def cmp_Or_int.l0:Nat→Int→List Int→Int→Int→Option (Int)
 |0,_,_,_,_=>none
 |k+1,B,O,L,X=>if X<L then (if 0≤X then (if X<(O.length:Int) then (if (rd O X)=B then (cmp_Or_int.l0 k B O L (wrap64 (X+1))) else (some (rd O X))) else (none)) else (none)) else (some B)
def cmp_Or_int.f (k:Nat) (l0:List Int):Option (Int):=cmp_Or_int.l0 k 0 l0 (l0.length:Int) 0
set_option maxHeartbeats 8000000 in
set_option maxRecDepth 100000 in
theorem cmp_Or_int.calls (k:Nat) (A0:Option Addr) (c0:Nat) (l0:List Int) (r:Int) (w:World) (μ :Kd.C (Kd.int .i64) w A0 l0.length l0) (γ:l0.length≤c0) (h:cmp_Or_int.f k l0=some r):
  Calls Try.prog 80 #[.slice A0 l0.length c0] w fun e w'=>e = .returned (.int .i64 r)∧Drawn0 w w':=by
 have τ :=Aside0.mk μ
 have ag:=Aside0.mk γ
 clear μ γ
 have H:(cmp_Or_int.l0 k 0 l0 (l0.length:Int) 0)=some r:=h
 clear h
 have H':=Aside0.mk H
 clear H
 go_enter Try.func80,Try.ntmps80
 go_wp2
 go_loopg [8] k (fun kq v8 w'=>∃ (B:Int),v8 = .int .i64 B∧Aside0 (cmp_Or_int.l0 kq 0 l0 (l0.length:Int) B=some r)∧Aside0 (kq≤k)∧Drawn0 w w')
 case atStart=>exact⟨(0),qR,H',⟨Nat.le_refl _⟩,by repeat(first|exact Drawn0.refl _|apply Drawn0.step)⟩
 case round=>
  clear H'
  obtain⟨B,rfl,HA,an,⟨m1,rfl⟩⟩:=hrel
  cases gk with
  |zero=>exact absurd HA.out (by simp[cmp_Or_int.l0])
  |succ k1=>
   have H:=HA.out
   clear HA
   simp only[cmp_Or_int.l0] at H
   by_cases c2:B<(l0.length:Int)
   ·rw[if_pos c2] at H
    have c2b0:decide (B<(l0.length:Int))=true:=decide_eq_true c2
    clear c2
    by_cases c3:0≤B
    ·rw[if_pos c3] at H
     have c3b0:decide (0≤B)=true:=decide_eq_true c3
     clear c3
     by_cases c4:B<(l0.length:Int)
     ·rw[if_pos c4] at H
      have c4b0:decide (B<(l0.length:Int))=true:=decide_eq_true c4
      clear c4
      by_cases c5:(rd l0 B)=0
      ·rw[if_pos c5] at H
       have c5b0:((rd l0 B)==0)=true:=beq_iff_eq.mpr c5
       have c5b1:((rd l0 B) != 0)=false:=bne_eq_false_iff_eq.mpr c5
       clear c5
       have H':=Aside0.mk H
       clear H
       have J:0≤(B:Int):=of_decide_eq_true (by first|(with_reducible assumption)|assumption)
       have L:B<(l0.length:Int):=of_decide_eq_true (by first|(with_reducible assumption)|assumption)
       obtain⟨Y,O,X⟩:=Kd.Yh τ.out B J L
       cases O
       replace J:=eq_true J
       replace L:=eq_true L
       go_wp2
       go_roundg k1
       case measure=>have:=an.out;omega
       case rel=>exact⟨(wrap64 (B+1)),qR,H',⟨by have:=an.out;omega⟩,by repeat(first|exact Drawn0.refl _|apply Drawn0.step)⟩
      ·rw[if_neg c5] at H
       have c5b0:((rd l0 B)==0)=false:=beq_eq_false_iff_ne.mpr c5
       have c5b1:((rd l0 B) != 0)=true:=bne_iff_ne.mpr c5
       obtain rfl:=Option.some.inj H
       have J:0≤(B:Int):=of_decide_eq_true (by first|(with_reducible assumption)|assumption)
       have L:B<(l0.length:Int):=of_decide_eq_true (by first|(with_reducible assumption)|assumption)
       obtain⟨Y,O,X⟩:=Kd.Yh τ.out B J L
       cases O
       replace J:=eq_true J
       replace L:=eq_true L
       go_wp2
       go_ret
       exact⟨qR,by repeat(first|exact Drawn0.refl _|apply Drawn0.step)⟩
     ·rw[if_neg c4] at H
      exact absurd H (by simp)
    ·rw[if_neg c3] at H
     exact absurd H (by simp)
   ·rw[if_neg c2] at H
    have c2b0:decide (B<(l0.length:Int))=false:=decide_eq_false c2
    clear c2
    obtain rfl:=Option.some.inj H
    go_wp2
    go_ret
    exact⟨qR,by repeat(first|exact Drawn0.refl _|apply Drawn0.step)⟩
def cmp_isNaN_int.f (B:Int):Option (Bool):=some (B != B)
set_option maxHeartbeats 8000000 in
set_option maxRecDepth 100000 in
theorem cmp_isNaN_int.calls (B:Int) (r:Bool) (w:World) (h:cmp_isNaN_int.f B=some r):
  Calls Try.prog 94 #[.int .i64 B] w fun e w'=>e = .returned (.bool r)∧Drawn0 w w':=by
 have H:(some (B != B))=some r:=h
 clear h
 obtain rfl:=Option.some.inj H
 go_enter Try.func94,Try.ntmps94
 go_wp2
 go_ret
 exact⟨qR,by repeat(first|exact Drawn0.refl _|apply Drawn0.step)⟩
def cmp_Compare_int.f (B:Int) (O:Int):Option (Int):=(cmp_isNaN_int.f B).bind fun J=>((cmp_isNaN_int.f O).bind fun γ=>(if J=true then (if γ=true then (some 0) else (some (-1))) else (if γ=true then (some 1) else (if B<O then (some (-1)) else (if B>O then (some 1) else (some 0))))))
set_option maxHeartbeats 8000000 in
set_option maxRecDepth 100000 in
theorem cmp_Compare_int.calls (B:Int) (O:Int) (r:Int) (w:World) (h:cmp_Compare_int.f B O=some r):
  Calls Try.prog 81 #[.int .i64 B,.int .i64 O] w fun e w'=>e = .returned (.int .i64 r)∧Drawn0 w w':=by
 have H:((cmp_isNaN_int.f B).bind fun J=>((cmp_isNaN_int.f O).bind fun γ=>(if J=true then (if γ=true then (some 0) else (some (-1))) else (if γ=true then (some 1) else (if B<O then (some (-1)) else (if B>O then (some 1) else (some 0)))))))=some r:=h
 clear h
 replace H:=Option.bind_eq_some_iff.mp H
 obtain⟨J,ap,H⟩:=H
 replace H:((cmp_isNaN_int.f O).bind fun γ=>(if J=true then (if γ=true then (some 0) else (some (-1))) else (if γ=true then (some 1) else (if B<O then (some (-1)) else (if B>O then (some 1) else (some 0))))))=some r:=H
 have A3:=Aside0.mk ap
 clear ap
 replace H:=Option.bind_eq_some_iff.mp H
 obtain⟨γ,ay,H⟩:=H
 replace H:(if J=true then (if γ=true then (some 0) else (some (-1))) else (if γ=true then (some 1) else (if B<O then (some (-1)) else (if B>O then (some 1) else (some 0)))))=some r:=H
 have A4:=Aside0.mk ay
 clear ay
 by_cases c5:J=true
 ·subst c5
  have H1:(if γ=true then (some 0) else (some (-1)))=some r:=by rw[if_pos rfl] at H;exact H
  clear H
  have H:=H1
  clear H1
  by_cases c6:γ=true
  ·subst c6
   have H1:(some 0)=some r:=by rw[if_pos rfl] at H;exact H
   clear H
   have H:=H1
   clear H1
   obtain rfl:=Option.some.inj H
   go_enter Try.func81,Try.ntmps81
   go_wp2_with (first|((with_reducible refine Ql (f:=94) rfl ?_);refine Q2 (some 8) rfl rfl Try.func94 kr rfl #[.int .i64 B] rfl (by(try simp only[List.map_toArray,List.map_cons,List.map_nil]);first|done|rfl|(simp only[List.length_drop,List.length_take];rfl)) ?_;(with_reducible refine(cmp_isNaN_int.calls B true _ A3.out).mono ?_);rintro e w' ⟨rfl,⟨nd,rfl⟩⟩;refine⟨_,rfl, ?_⟩)|((with_reducible refine Ql (f:=94) rfl ?_);refine Q2 (some 10) rfl rfl Try.func94 kr rfl #[.int .i64 O] rfl (by(try simp only[List.map_toArray,List.map_cons,List.map_nil]);first|done|rfl|(simp only[List.length_drop,List.length_take];rfl)) ?_;(with_reducible refine(cmp_isNaN_int.calls O true _ A4.out).mono ?_);rintro e w' ⟨rfl,⟨nd,rfl⟩⟩;refine⟨_,rfl, ?_⟩))
   go_ret
   exact⟨qR,by repeat(first|exact Drawn0.refl _|apply Drawn0.step)⟩
  ·replace c6:=Bool.eq_false_iff.mpr c6
   subst c6
   have H1:(some (-1))=some r:=by rw[if_neg (show ¬ (false=true) by decide)] at H;exact H
   clear H
   have H:=H1
   clear H1
   obtain rfl:=Option.some.inj H
   go_enter Try.func81,Try.ntmps81
   go_wp2_with (first|((with_reducible refine Ql (f:=94) rfl ?_);refine Q2 (some 8) rfl rfl Try.func94 kr rfl #[.int .i64 B] rfl (by(try simp only[List.map_toArray,List.map_cons,List.map_nil]);first|done|rfl|(simp only[List.length_drop,List.length_take];rfl)) ?_;(with_reducible refine(cmp_isNaN_int.calls B true _ A3.out).mono ?_);rintro e w' ⟨rfl,⟨nd,rfl⟩⟩;refine⟨_,rfl, ?_⟩)|((with_reducible refine Ql (f:=94) rfl ?_);refine Q2 (some 10) rfl rfl Try.func94 kr rfl #[.int .i64 O] rfl (by(try simp only[List.map_toArray,List.map_cons,List.map_nil]);first|done|rfl|(simp only[List.length_drop,List.length_take];rfl)) ?_;(with_reducible refine(cmp_isNaN_int.calls O false _ A4.out).mono ?_);rintro e w' ⟨rfl,⟨nd,rfl⟩⟩;refine⟨_,rfl, ?_⟩))
   go_ret
   exact⟨qR,by repeat(first|exact Drawn0.refl _|apply Drawn0.step)⟩
 ·replace c5:=Bool.eq_false_iff.mpr c5
  subst c5
  have H1:(if γ=true then (some 1) else (if B<O then (some (-1)) else (if B>O then (some 1) else (some 0))))=some r:=by rw[if_neg (show ¬ (false=true) by decide)] at H;exact H
  clear H
  have H:=H1
  clear H1
  by_cases c7:γ=true
  ·subst c7
   have H1:(some 1)=some r:=by rw[if_pos rfl] at H;exact H
   clear H
   have H:=H1
   clear H1
   obtain rfl:=Option.some.inj H
   go_enter Try.func81,Try.ntmps81
   go_wp2_with (first|((with_reducible refine Ql (f:=94) rfl ?_);refine Q2 (some 8) rfl rfl Try.func94 kr rfl #[.int .i64 B] rfl (by(try simp only[List.map_toArray,List.map_cons,List.map_nil]);first|done|rfl|(simp only[List.length_drop,List.length_take];rfl)) ?_;(with_reducible refine(cmp_isNaN_int.calls B false _ A3.out).mono ?_);rintro e w' ⟨rfl,⟨nd,rfl⟩⟩;refine⟨_,rfl, ?_⟩)|((with_reducible refine Ql (f:=94) rfl ?_);refine Q2 (some 10) rfl rfl Try.func94 kr rfl #[.int .i64 O] rfl (by(try simp only[List.map_toArray,List.map_cons,List.map_nil]);first|done|rfl|(simp only[List.length_drop,List.length_take];rfl)) ?_;(with_reducible refine(cmp_isNaN_int.calls O true _ A4.out).mono ?_);rintro e w' ⟨rfl,⟨nd,rfl⟩⟩;refine⟨_,rfl, ?_⟩))
   go_ret
   exact⟨qR,by repeat(first|exact Drawn0.refl _|apply Drawn0.step)⟩
  ·replace c7:=Bool.eq_false_iff.mpr c7
   subst c7
   have H1:(if B<O then (some (-1)) else (if B>O then (some 1) else (some 0)))=some r:=by rw[if_neg (show ¬ (false=true) by decide)] at H;exact H
   clear H
   have H:=H1
   clear H1
   by_cases c8:B<O
   ·rw[if_pos c8] at H
    have c8b0:decide (B<O)=true:=decide_eq_true c8
    clear c8
    obtain rfl:=Option.some.inj H
    go_enter Try.func81,Try.ntmps81
    go_wp2_with (first|((with_reducible refine Ql (f:=94) rfl ?_);refine Q2 (some 8) rfl rfl Try.func94 kr rfl #[.int .i64 B] rfl (by(try simp only[List.map_toArray,List.map_cons,List.map_nil]);first|done|rfl|(simp only[List.length_drop,List.length_take];rfl)) ?_;(with_reducible refine(cmp_isNaN_int.calls B false _ A3.out).mono ?_);rintro e w' ⟨rfl,⟨nd,rfl⟩⟩;refine⟨_,rfl, ?_⟩)|((with_reducible refine Ql (f:=94) rfl ?_);refine Q2 (some 10) rfl rfl Try.func94 kr rfl #[.int .i64 O] rfl (by(try simp only[List.map_toArray,List.map_cons,List.map_nil]);first|done|rfl|(simp only[List.length_drop,List.length_take];rfl)) ?_;(with_reducible refine(cmp_isNaN_int.calls O false _ A4.out).mono ?_);rintro e w' ⟨rfl,⟨nd,rfl⟩⟩;refine⟨_,rfl, ?_⟩))
    go_ret
    exact⟨qR,by repeat(first|exact Drawn0.refl _|apply Drawn0.step)⟩
   ·rw[if_neg c8] at H
    have c8b0:decide (B<O)=false:=decide_eq_false c8
    clear c8
    by_cases c9:B>O
    ·rw[if_pos c9] at H
     have c9b0:decide (O<B)=true:=decide_eq_true c9
     clear c9
     obtain rfl:=Option.some.inj H
     go_enter Try.func81,Try.ntmps81
     go_wp2_with (first|((with_reducible refine Ql (f:=94) rfl ?_);refine Q2 (some 8) rfl rfl Try.func94 kr rfl #[.int .i64 B] rfl (by(try simp only[List.map_toArray,List.map_cons,List.map_nil]);first|done|rfl|(simp only[List.length_drop,List.length_take];rfl)) ?_;(with_reducible refine(cmp_isNaN_int.calls B false _ A3.out).mono ?_);rintro e w' ⟨rfl,⟨nd,rfl⟩⟩;refine⟨_,rfl, ?_⟩)|((with_reducible refine Ql (f:=94) rfl ?_);refine Q2 (some 10) rfl rfl Try.func94 kr rfl #[.int .i64 O] rfl (by(try simp only[List.map_toArray,List.map_cons,List.map_nil]);first|done|rfl|(simp only[List.length_drop,List.length_take];rfl)) ?_;(with_reducible refine(cmp_isNaN_int.calls O false _ A4.out).mono ?_);rintro e w' ⟨rfl,⟨nd,rfl⟩⟩;refine⟨_,rfl, ?_⟩))
     go_ret
     exact⟨qR,by repeat(first|exact Drawn0.refl _|apply Drawn0.step)⟩
    ·rw[if_neg c9] at H
     have c9b0:decide (O<B)=false:=decide_eq_false c9
     clear c9
     obtain rfl:=Option.some.inj H
     go_enter Try.func81,Try.ntmps81
     go_wp2_with (first|((with_reducible refine Ql (f:=94) rfl ?_);refine Q2 (some 8) rfl rfl Try.func94 kr rfl #[.int .i64 B] rfl (by(try simp only[List.map_toArray,List.map_cons,List.map_nil]);first|done|rfl|(simp only[List.length_drop,List.length_take];rfl)) ?_;(with_reducible refine(cmp_isNaN_int.calls B false _ A3.out).mono ?_);rintro e w' ⟨rfl,⟨nd,rfl⟩⟩;refine⟨_,rfl, ?_⟩)|((with_reducible refine Ql (f:=94) rfl ?_);refine Q2 (some 10) rfl rfl Try.func94 kr rfl #[.int .i64 O] rfl (by(try simp only[List.map_toArray,List.map_cons,List.map_nil]);first|done|rfl|(simp only[List.length_drop,List.length_take];rfl)) ?_;(with_reducible refine(cmp_isNaN_int.calls O false _ A4.out).mono ?_);rintro e w' ⟨rfl,⟨nd,rfl⟩⟩;refine⟨_,rfl, ?_⟩))
     go_ret
     exact⟨qR,by repeat(first|exact Drawn0.refl _|apply Drawn0.step)⟩
def call_halls_1.f (k:Nat) (J:Int) (B:Int) (L:Int) (Z:Int) (Y:Int) (ε :Int):Option (Int):=(cmp_Compare_int.f J Z).bind fun ζ =>((cmp_Compare_int.f B Y).bind fun κ =>((cmp_Or_int.f k (([ζ,κ]:List Int))).bind fun O=>(some O)))
def call_halls_1.T1:Bool×List (List Nat×List Nat):=(true,[([],[]),([0],[0]),([],[]),([2],[2]),([1,3],[1,3]),([],[]),([5],[5]),([],[]),([7],[7]),([6,8,4],[6,8]),([4,9],[4,9]),([10,9],[10]),([11,11,0,1,2,3,4,5,6,7,8,9,10,11],[11])])
def call_halls_1.B1:List Nat:=[0,1,0,4,15,0,32,0,128,511,1023,2047,4095]
theorem call_halls_1.Kq:rtab .any (opsOf Try.f79 1)=call_halls_1.T1:=by kernel_rfl
theorem call_halls_1.Y6:Zs call_halls_1.T1.2 call_halls_1.B1=true:=by kernel_rfl
set_option maxHeartbeats 8000000 in
set_option maxRecDepth 100000 in
theorem call_halls_1.calls (k:Nat) (J:Int) (B:Int) (L:Int) (Z:Int) (Y:Int) (ε :Int) (r:Int) (w:World) (h:call_halls_1.f k J B L Z Y ε = some r):
  Calls Try.prog 79 #[.agg #[.int .i64 J,.int .i64 B,.int .i64 L],.agg #[.int .i64 Z,.int .i64 Y,.int .i64 ε]] w fun e w'=>e = .returned (.int .i64 r)∧Below w.heap.size w w':=by
 have d9:=Try.underlying36
 have HB:=Aside0.mk (Below.refl w.heap.size w)
 have H:((cmp_Compare_int.f J Z).bind fun ζ =>((cmp_Compare_int.f B Y).bind fun κ =>((cmp_Or_int.f k (([ζ,κ]:List Int))).bind fun O=>(some O))))=some r:=h
 clear h
 replace H:=Option.bind_eq_some_iff.mp H
 obtain⟨ζ,ap,H⟩:=H
 replace H:((cmp_Compare_int.f B Y).bind fun κ =>((cmp_Or_int.f k (([ζ,κ]:List Int))).bind fun O=>(some O)))=some r:=H
 have A3:=Aside0.mk ap
 clear ap
 replace H:=Option.bind_eq_some_iff.mp H
 obtain⟨κ,ay,H⟩:=H
 replace H:((cmp_Or_int.f k (([ζ,κ]:List Int))).bind fun O=>(some O))=some r:=H
 have A4:=Aside0.mk ay
 clear ay
 obtain⟨a8,ι⟩:∃ y_:List Int,y_=(([ζ,κ]:List Int)):=⟨_,rfl⟩
 replace H:((cmp_Or_int.f k a8).bind fun O=>(some O))=some r:=by first|(rw[ι];with_reducible exact H)|(have am:=(Option.bind_some _ _).symm.trans H;rw[ι];with_reducible exact am)|(have am:=(Option.bind_some _ _).symm.trans H;with_reducible exact am)|with_reducible exact H|(rw[ι];exact H)|exact H
 have au:=Aside0.mk ι
 clear ι
 replace H:=Option.bind_eq_some_iff.mp H
 obtain⟨O,bm,H⟩:=H
 replace H:(some O)=some r:=H
 have A5:=Aside0.mk bm
 clear bm
 obtain rfl:=Option.some.inj H
 go_enter Try.func79,Try.ntmps79
 try go_wp2_with (first|((with_reducible refine Qe (N:=2) rfl ?_);refine Zg ?hg (N:=2) ?hd (cs:=#[.int .i64 J,.int .i64 B,.int .i64 L]) (t:=36) ?hr ?_;(case hd=>rfl);(case hg=>rfl);(case hr=>first|(go_simp;done)|(go_simp;rfl));intro ν hg w6 hbox hb;have ξ :=Aside0.mk (Qx (by repeat(first|(with_reducible first|exact HB.out|apply Qo|apply Qi|apply Qf)|exact HB.out)) hb);have φ :=Aside0.mk (hbox);have ω :=Aside0.mk ((by rw[hg];exact(Qr (by repeat(first|(with_reducible first|exact HB.out|apply Qo|apply Qi|apply Qf)|exact HB.out))):w.heap.size ≤ ν));have a7:=Aside0.mk ((by rw[hg];exact(Qr (by repeat(first|(with_reducible first|exact HB.out|apply Qo|apply Qi|apply Qf)|exact HB.out))):w.heap.size ≤ ν));clear HB;have HB:= ξ;have γ:= φ;have b9:= ω;have aj:=a7;clear ξ φ ω a7;clear hb hbox hg)|((with_reducible refine Qe (N:=3) rfl ?_);refine Zg ?hg (N:=3) ?hd (cs:=#[.int .i64 Z,.int .i64 Y,.int .i64 ε]) (t:=36) ?hr ?_;(case hd=>rfl);(case hg=>rfl);(case hr=>first|(go_simp;done)|(go_simp;rfl));intro μ hg w7 hbox hb;have ξ :=Aside0.mk (Qs (g:= ν) (o:=.cells #[.int .i64 J,.int .i64 B,.int .i64 L] 36 (0,0)) (by(with_reducible repeat first|refine Qj ?_ _|refine Qd ?_|refine Qk ?_ _);exact γ.out) hb);have φ :=Aside0.mk (Qx (by repeat(first|(with_reducible first|exact HB.out|apply Qo|apply Qi|apply Qf|refine Qp ?_ aj.out)|exact HB.out)) hb);have ω :=Aside0.mk (hbox);have a7:=Aside0.mk ((by rw[hg];exact(Qr (by repeat(first|(with_reducible first|exact HB.out|apply Qo|apply Qi|apply Qf|refine Qp ?_ aj.out)|exact HB.out))):w.heap.size ≤ μ));have ah:=Aside0.mk ((by rw[hg];exact(Qr (by repeat(first|(with_reducible first|exact HB.out|apply Qo|apply Qi|apply Qf|refine Qp ?_ aj.out)|exact HB.out))):w.heap.size ≤ μ));have ar:=Aside0.mk ((by rw[hg];exact Nat.ne_of_lt (Xd (g:= ν) (o:=.cells #[.int .i64 J,.int .i64 B,.int .i64 L] 36 (0,0)) (by(with_reducible repeat first|refine Qj ?_ _|refine Qd ?_|refine Qk ?_ _);exact γ.out)): ν ≠ μ));have b2:=Aside0.mk ((by rw[hg];exact Nat.ne_of_gt (Xd (g:= ν) (o:=.cells #[.int .i64 J,.int .i64 B,.int .i64 L] 36 (0,0)) (by(with_reducible repeat first|refine Qj ?_ _|refine Qd ?_|refine Qk ?_ _);exact γ.out)): μ ≠ ν));clear γ;clear HB;have γ:= ξ;have HB:= φ;have δ := ω;have bb:=a7;have b4:=ah;have ρ:=ar;have σ:=b2;clear ξ φ ω a7 ah ar b2;clear hb hbox hg))
 have ξ :=Aside0.mk (Qd γ.out)
 have φ :=Aside0.mk (Qd δ.out)
 have ω :=Aside0.mk (Qf HB.out)
 clear γ
 clear δ
 clear HB
 have γ:= ξ
 have δ := φ
 have HB:= ω
 clear ξ φ ω
 refine Zn (n:=13) (S:=fun w'=>w'.cell? ⟨ν,0,none⟩=some (.int .i64 J)∧w'.cell? ⟨ν,1,none⟩=some (.int .i64 B)∧w'.cell? ⟨ν,2,none⟩=some (.int .i64 L)∧w'.cell? ⟨μ,0,none⟩=some (.int .i64 Z)∧w'.cell? ⟨μ,1,none⟩=some (.int .i64 Y)∧w'.cell? ⟨μ,2,none⟩=some (.int .i64 ε)) (ds:=[]) #[false,false,false,false,false,false,false,false,false,false,false,false,false] kr rfl rfl ⟨(Qa γ.out 0).trans rfl,(Qa γ.out 1).trans rfl,(Qa γ.out 2).trans rfl,(Qa δ.out 0).trans rfl,(Qa δ.out 1).trans rfl,(Qa δ.out 2).trans rfl⟩ (fun hHeld=>?_);refine Q8 call_halls_1.Kq call_halls_1.Y6 (fun HT_ HW_=>?_)
 generalize w7.drew=w8 at γ δ HB hHeld ⊢
 refine qP 0 (some 5) (qB 13 1) HT_ ?_
 refine qP 2 (some 7) (qB 13 5) HT_ ?_
 refine qP 5 (some 10) (qB 13 37) HT_ ?_
 refine qP 7 (some 12) (qB 13 165) HT_ ?_
 refine qT 1 (some 6) (qB 13 167) HT_ HW_ hHeld ?_
 refine qT 3 (some 8) (qB 13 175) HT_ HW_ hHeld ?_
 refine qT 6 (some 11) (qB 13 239) HT_ HW_ hHeld ?_
 refine qT 8 (some 13) (qB 13 495) HT_ HW_ hHeld ?_
 refine Ze (i:=4) (N:=some 9) #[true,true,true,true,true,true,true,true,true,false,false,false,false] rfl rfl (Q5 HT_.out kr) (by decide) (fun K hK=>?_)
 refine Zd Try.func81 kr rfl #[.int .i64 J,.int .i64 Z] (by rfl) rfl rfl (by(try simp only[List.map_toArray,List.map_cons,List.map_nil]);first|done|rfl|(simp only[List.length_drop,List.length_take];rfl)) ?_
 with_reducible refine(cmp_Compare_int.calls J Z ζ _ A3.out).mono ?_
 rintro e w' ⟨rfl,⟨nd,rfl⟩⟩
 refine⟨_,rfl, ?_⟩
 refine hK.out _ _ ⟨qc γ,qc γ,qc γ,qc δ,qc δ,qc δ⟩ (fun hHeld=>?_)
 clear hK K
 refine qN (some 9) ?_
 refine Ze (i:=9) (N:=some 14) #[true,true,true,true,true,true,true,true,true,true,false,false,false] rfl rfl (Q5 HT_.out kr) (by decide) (fun K hK=>?_)
 refine Zd Try.func81 kr rfl #[.int .i64 B,.int .i64 Y] (by rfl) rfl rfl (by(try simp only[List.map_toArray,List.map_cons,List.map_nil]);first|done|rfl|(simp only[List.length_drop,List.length_take];rfl)) ?_
 with_reducible refine(cmp_Compare_int.calls B Y κ _ A4.out).mono ?_
 rintro e w' ⟨rfl,⟨nd,rfl⟩⟩
 refine⟨_,rfl, ?_⟩
 refine hK.out _ _ ⟨qc γ,qc γ,qc γ,qc δ,qc δ,qc δ⟩ (fun hHeld=>?_)
 clear hK K
 refine qN (some 14) ?_
 refine Ze (i:=10) (N:=some 15) #[true,true,true,true,true,true,true,true,true,true,true,false,false] rfl rfl (Q5 HT_.out kr) (by decide) (fun K hK=>?_)
 refine Kd.Z4 (Kd.int .i64) _ 3 ?hg (N:=15) ?hd (xs:=([ζ,κ]:List Int)) (inner:=[.int .i64 ζ,.int .i64 κ]) (ok:=fun _=>True) (okp:=fun _=>True) ?hr ?hp (fun _ hk=>hk) trivial (Below.refl _ _) (Nat.le_refl _) (by simp) ?_;(case hd=>rfl);(case hg=>rfl);(case hr=>first|(go_simp;done)|(go_simp;rfl));(case hp=>exact(Reps.one (show Kd.M (Kd.int .i64) _ _ _ ζ [.int .i64 ζ] from rfl) (Reps.one (show Kd.M (Kd.int .i64) _ _ _ κ [.int .i64 κ] from rfl) (Reps.none _ _))))
 intro θ w9 η hb hg_ hnew_
 clear hg_ hnew_
 (first|rw[← au.out] at η |(simp only[Int.reduceToNat] at η;rw[← au.out] at η))
 have ξ :=Aside0.mk (Kd.Q9 η (Qr (by repeat(first|(with_reducible first|exact HB.out|apply Qo|apply Qi|apply Qf|refine Qp ?_ aj.out|refine Qp ?_ b4.out)|exact HB.out))))
 have φ :=Aside0.mk (Qs (g:= ν) (o:=.cells #[.int .i64 J,.int .i64 B,.int .i64 L] 36 (0,0)) (by(with_reducible repeat first|refine Qj ?_ _|refine Qd ?_|refine Qk ?_ _);exact γ.out) hb)
 have ω :=Aside0.mk (Qs (g:= μ) (o:=.cells #[.int .i64 Z,.int .i64 Y,.int .i64 ε] 36 (0,0)) (by(with_reducible repeat first|refine Qj ?_ _|refine Qd ?_|refine Qk ?_ _);exact δ.out) hb)
 have a7:=Aside0.mk (Qx (by repeat(first|(with_reducible first|exact HB.out|apply Qo|apply Qi|apply Qf|refine Qp ?_ aj.out|refine Qp ?_ b4.out)|exact HB.out)) hb)
 clear γ
 clear δ
 clear HB
 have X:= ξ
 have γ:= φ
 have δ := ω
 have HB:=a7
 clear ξ φ ω a7
 clear hb η
 obtain⟨ψ,a0,χ⟩:=Kd.Q7 X.out
 (first|subst χ |(injection χ with aw bh ax;have bi:=aw.symm;have bj:=ax.symm;clear aw bh ax;subst bi;subst bj))
 refine hK.out _ _ ⟨qc γ,qc γ,qc γ,qc δ,qc δ,qc δ⟩ (fun hHeld=>?_)
 clear hK K
 refine qN (some 15) ?_
 refine Ze (i:=11) (N:=some 16) #[true,true,true,true,true,true,true,true,true,true,true,true,false] rfl rfl (Q5 HT_.out kr) (by decide) (fun K hK=>?_)
 refine Zd Try.func80 kr rfl #[.slice ψ a8.length a0] (by rfl) rfl rfl (by(try simp only[List.map_toArray,List.map_cons,List.map_nil]);first|done|rfl|(simp only[List.length_drop,List.length_take];rfl)) ?_
 with_reducible refine(cmp_Or_int.calls k _ _ a8 O _ ?side1 ?side2 A5.out).mono ?_
 (case side1=>repeat(first|exact(Kd.Qy X.out).2.2|(with_reducible refine Kd.Jl ?_ _)|(with_reducible refine Kd.Jk ?_ _)|(with_reducible refine Kd.Kl ?_)))
 (case side2=>exact(Kd.Qy X.out).2.1)
 rintro e w' ⟨rfl,⟨nd,rfl⟩⟩
 refine⟨_,rfl, ?_⟩
 refine hK.out _ _ ⟨qc γ,qc γ,qc γ,qc δ,qc δ,qc δ⟩ (fun hHeld=>?_)
 clear hK K
 refine qN (some 16) ?_
 refine qP 12 (some 4) (qB 13 8191) HT_ ?_
 refine Z5 (Zm HT_.out kr) ?_
 try go_wp2
 go_ret
 exact⟨by first|rfl|(simp[Qh,Qg] <;> rfl)|(simp[*,Qh,Qg] <;> rfl),by repeat(first|(with_reducible first|exact HB.out|apply Qo|apply Qi|apply Qf|refine Qp ?_ aj.out|refine Qp ?_ b4.out)|exact HB.out)⟩
def call_ins_1.f (k:Nat) (J:Int) (B:Int) (Z:Int) (Y:Int):Option (Int):=(cmp_Compare_int.f J Z).bind fun δ =>((cmp_Compare_int.f B Y).bind fun ζ =>((cmp_Or_int.f k (([δ,ζ]:List Int))).bind fun O=>(some O)))
def call_ins_1.T1:Bool×List (List Nat×List Nat):=(true,[([],[]),([0],[0]),([],[]),([2],[2]),([1,3],[1,3]),([],[]),([5],[5]),([],[]),([7],[7]),([6,8,4],[6,8]),([4,9],[4,9]),([10,9],[10]),([11,11,0,1,2,3,4,5,6,7,8,9,10,11],[11])])
def call_ins_1.B1:List Nat:=[0,1,0,4,15,0,32,0,128,511,1023,2047,4095]
theorem call_ins_1.Kq:rtab .any (opsOf Try.f83 1)=call_ins_1.T1:=by kernel_rfl
theorem call_ins_1.Y6:Zs call_ins_1.T1.2 call_ins_1.B1=true:=by kernel_rfl
set_option maxHeartbeats 8000000 in
set_option maxRecDepth 100000 in
theorem call_ins_1.calls (k:Nat) (J:Int) (B:Int) (Z:Int) (Y:Int) (r:Int) (w:World) (h:call_ins_1.f k J B Z Y=some r):
  Calls Try.prog 83 #[.agg #[.int .i64 J,.int .i64 B],.agg #[.int .i64 Z,.int .i64 Y]] w fun e w'=>e = .returned (.int .i64 r)∧Below w.heap.size w w':=by
 have db:=Try.underlying86
 have HB:=Aside0.mk (Below.refl w.heap.size w)
 have H:((cmp_Compare_int.f J Z).bind fun δ =>((cmp_Compare_int.f B Y).bind fun ζ =>((cmp_Or_int.f k (([δ,ζ]:List Int))).bind fun O=>(some O))))=some r:=h
 clear h
 replace H:=Option.bind_eq_some_iff.mp H
 obtain⟨δ,ap,H⟩:=H
 replace H:((cmp_Compare_int.f B Y).bind fun ζ =>((cmp_Or_int.f k (([δ,ζ]:List Int))).bind fun O=>(some O)))=some r:=H
 have A3:=Aside0.mk ap
 clear ap
 replace H:=Option.bind_eq_some_iff.mp H
 obtain⟨ζ,ay,H⟩:=H
 replace H:((cmp_Or_int.f k (([δ,ζ]:List Int))).bind fun O=>(some O))=some r:=H
 have A4:=Aside0.mk ay
 clear ay
 obtain⟨ε,ι⟩:∃ y_:List Int,y_=(([δ,ζ]:List Int)):=⟨_,rfl⟩
 replace H:((cmp_Or_int.f k ε).bind fun O=>(some O))=some r:=by first|(rw[ι];with_reducible exact H)|(have am:=(Option.bind_some _ _).symm.trans H;rw[ι];with_reducible exact am)|(have am:=(Option.bind_some _ _).symm.trans H;with_reducible exact am)|with_reducible exact H|(rw[ι];exact H)|exact H
 have ν :=Aside0.mk ι
 clear ι
 replace H:=Option.bind_eq_some_iff.mp H
 obtain⟨O,bm,H⟩:=H
 replace H:(some O)=some r:=H
 have A5:=Aside0.mk bm
 clear bm
 obtain rfl:=Option.some.inj H
 go_enter Try.func83,Try.ntmps83
 try go_wp2_with (first|((with_reducible refine Qe (N:=2) rfl ?_);refine Zg ?hg (N:=2) ?hd (cs:=#[.int .i64 J,.int .i64 B]) (t:=86) ?hr ?_;(case hd=>rfl);(case hg=>rfl);(case hr=>first|(go_simp;done)|(go_simp;rfl));intro γ hg w6 hbox hb;have ξ :=Aside0.mk (Qx (by repeat(first|(with_reducible first|exact HB.out|apply Qo|apply Qi|apply Qf)|exact HB.out)) hb);have φ :=Aside0.mk (hbox);have ω :=Aside0.mk ((by rw[hg];exact(Qr (by repeat(first|(with_reducible first|exact HB.out|apply Qo|apply Qi|apply Qf)|exact HB.out))):w.heap.size≤γ));have a7:=Aside0.mk ((by rw[hg];exact(Qr (by repeat(first|(with_reducible first|exact HB.out|apply Qo|apply Qi|apply Qf)|exact HB.out))):w.heap.size≤γ));clear HB;have HB:= ξ;have X:= φ;have aj:= ω;have τ :=a7;clear ξ φ ω a7;clear hb hbox hg)|((with_reducible refine Qe (N:=3) rfl ?_);refine Zg ?hg (N:=3) ?hd (cs:=#[.int .i64 Z,.int .i64 Y]) (t:=86) ?hr ?_;(case hd=>rfl);(case hg=>rfl);(case hr=>first|(go_simp;done)|(go_simp;rfl));intro θ hg w7 hbox hb;have ξ :=Aside0.mk (Qs (g:=γ) (o:=.cells #[.int .i64 J,.int .i64 B] 86 (0,0)) (by(with_reducible repeat first|refine Qj ?_ _|refine Qd ?_|refine Qk ?_ _);exact X.out) hb);have φ :=Aside0.mk (Qx (by repeat(first|(with_reducible first|exact HB.out|apply Qo|apply Qi|apply Qf|refine Qp ?_ τ.out)|exact HB.out)) hb);have ω :=Aside0.mk (hbox);have a7:=Aside0.mk ((by rw[hg];exact(Qr (by repeat(first|(with_reducible first|exact HB.out|apply Qo|apply Qi|apply Qf|refine Qp ?_ τ.out)|exact HB.out))):w.heap.size ≤ θ));have ah:=Aside0.mk ((by rw[hg];exact(Qr (by repeat(first|(with_reducible first|exact HB.out|apply Qo|apply Qi|apply Qf|refine Qp ?_ τ.out)|exact HB.out))):w.heap.size ≤ θ));have ar:=Aside0.mk ((by rw[hg];exact Nat.ne_of_lt (Xd (g:=γ) (o:=.cells #[.int .i64 J,.int .i64 B] 86 (0,0)) (by(with_reducible repeat first|refine Qj ?_ _|refine Qd ?_|refine Qk ?_ _);exact X.out)):γ ≠ θ));have b2:=Aside0.mk ((by rw[hg];exact Nat.ne_of_gt (Xd (g:=γ) (o:=.cells #[.int .i64 J,.int .i64 B] 86 (0,0)) (by(with_reducible repeat first|refine Qj ?_ _|refine Qd ?_|refine Qk ?_ _);exact X.out)): θ ≠ γ));clear X;clear HB;have X:= ξ;have HB:= φ;have L:= ω;have a1:=a7;have κ :=ah;have ρ:=ar;have σ:=b2;clear ξ φ ω a7 ah ar b2;clear hb hbox hg))
 have ξ :=Aside0.mk (Qd X.out)
 have φ :=Aside0.mk (Qd L.out)
 have ω :=Aside0.mk (Qf HB.out)
 clear X
 clear L
 clear HB
 have X:= ξ
 have L:= φ
 have HB:= ω
 clear ξ φ ω
 refine Zn (n:=13) (S:=fun w'=>w'.cell? ⟨γ,0,none⟩=some (.int .i64 J)∧w'.cell? ⟨γ,1,none⟩=some (.int .i64 B)∧w'.cell? ⟨θ,0,none⟩=some (.int .i64 Z)∧w'.cell? ⟨θ,1,none⟩=some (.int .i64 Y)) (ds:=[]) #[false,false,false,false,false,false,false,false,false,false,false,false,false] kr rfl rfl ⟨(Qa X.out 0).trans rfl,(Qa X.out 1).trans rfl,(Qa L.out 0).trans rfl,(Qa L.out 1).trans rfl⟩ (fun hHeld=>?_);refine Q8 call_ins_1.Kq call_ins_1.Y6 (fun HT_ HW_=>?_)
 generalize w7.drew=w8 at X L HB hHeld ⊢
 refine qP 0 (some 5) (qB 13 1) HT_ ?_
 refine qP 2 (some 7) (qB 13 5) HT_ ?_
 refine qP 5 (some 10) (qB 13 37) HT_ ?_
 refine qP 7 (some 12) (qB 13 165) HT_ ?_
 refine qT 1 (some 6) (qB 13 167) HT_ HW_ hHeld ?_
 refine qT 3 (some 8) (qB 13 175) HT_ HW_ hHeld ?_
 refine qT 6 (some 11) (qB 13 239) HT_ HW_ hHeld ?_
 refine qT 8 (some 13) (qB 13 495) HT_ HW_ hHeld ?_
 refine Ze (i:=4) (N:=some 9) #[true,true,true,true,true,true,true,true,true,false,false,false,false] rfl rfl (Q5 HT_.out kr) (by decide) (fun K hK=>?_)
 refine Zd Try.func81 kr rfl #[.int .i64 J,.int .i64 Z] (by rfl) rfl rfl (by(try simp only[List.map_toArray,List.map_cons,List.map_nil]);first|done|rfl|(simp only[List.length_drop,List.length_take];rfl)) ?_
 with_reducible refine(cmp_Compare_int.calls J Z δ _ A3.out).mono ?_
 rintro e w' ⟨rfl,⟨nd,rfl⟩⟩
 refine⟨_,rfl, ?_⟩
 refine hK.out _ _ ⟨qc X,qc X,qc L,qc L⟩ (fun hHeld=>?_)
 clear hK K
 refine qN (some 9) ?_
 refine Ze (i:=9) (N:=some 14) #[true,true,true,true,true,true,true,true,true,true,false,false,false] rfl rfl (Q5 HT_.out kr) (by decide) (fun K hK=>?_)
 refine Zd Try.func81 kr rfl #[.int .i64 B,.int .i64 Y] (by rfl) rfl rfl (by(try simp only[List.map_toArray,List.map_cons,List.map_nil]);first|done|rfl|(simp only[List.length_drop,List.length_take];rfl)) ?_
 with_reducible refine(cmp_Compare_int.calls B Y ζ _ A4.out).mono ?_
 rintro e w' ⟨rfl,⟨nd,rfl⟩⟩
 refine⟨_,rfl, ?_⟩
 refine hK.out _ _ ⟨qc X,qc X,qc L,qc L⟩ (fun hHeld=>?_)
 clear hK K
 refine qN (some 14) ?_
 refine Ze (i:=10) (N:=some 15) #[true,true,true,true,true,true,true,true,true,true,true,false,false] rfl rfl (Q5 HT_.out kr) (by decide) (fun K hK=>?_)
 refine Kd.Z4 (Kd.int .i64) _ 3 ?hg (N:=15) ?hd (xs:=([δ,ζ]:List Int)) (inner:=[.int .i64 δ,.int .i64 ζ]) (ok:=fun _=>True) (okp:=fun _=>True) ?hr ?hp (fun _ hk=>hk) trivial (Below.refl _ _) (Nat.le_refl _) (by simp) ?_;(case hd=>rfl);(case hg=>rfl);(case hr=>first|(go_simp;done)|(go_simp;rfl));(case hp=>exact(Reps.one (show Kd.M (Kd.int .i64) _ _ _ δ [.int .i64 δ] from rfl) (Reps.one (show Kd.M (Kd.int .i64) _ _ _ ζ [.int .i64 ζ] from rfl) (Reps.none _ _))))
 intro ak w9 η hb hg_ hnew_
 clear hg_ hnew_
 (first|rw[← ν.out] at η |(simp only[Int.reduceToNat] at η;rw[← ν.out] at η))
 have ξ :=Aside0.mk (Kd.Q9 η (Qr (by repeat(first|(with_reducible first|exact HB.out|apply Qo|apply Qi|apply Qf|refine Qp ?_ τ.out|refine Qp ?_ κ.out)|exact HB.out))))
 have φ :=Aside0.mk (Qs (g:=γ) (o:=.cells #[.int .i64 J,.int .i64 B] 86 (0,0)) (by(with_reducible repeat first|refine Qj ?_ _|refine Qd ?_|refine Qk ?_ _);exact X.out) hb)
 have ω :=Aside0.mk (Qs (g:= θ) (o:=.cells #[.int .i64 Z,.int .i64 Y] 86 (0,0)) (by(with_reducible repeat first|refine Qj ?_ _|refine Qd ?_|refine Qk ?_ _);exact L.out) hb)
 have a7:=Aside0.mk (Qx (by repeat(first|(with_reducible first|exact HB.out|apply Qo|apply Qi|apply Qf|refine Qp ?_ τ.out|refine Qp ?_ κ.out)|exact HB.out)) hb)
 clear X
 clear L
 clear HB
 have μ := ξ
 have X:= φ
 have L:= ω
 have HB:=a7
 clear ξ φ ω a7
 clear hb η
 obtain⟨ψ,a0,χ⟩:=Kd.Q7 μ.out
 (first|subst χ |(injection χ with aw bh ax;have bi:=aw.symm;have bj:=ax.symm;clear aw bh ax;subst bi;subst bj))
 refine hK.out _ _ ⟨qc X,qc X,qc L,qc L⟩ (fun hHeld=>?_)
 clear hK K
 refine qN (some 15) ?_
 refine Ze (i:=11) (N:=some 16) #[true,true,true,true,true,true,true,true,true,true,true,true,false] rfl rfl (Q5 HT_.out kr) (by decide) (fun K hK=>?_)
 refine Zd Try.func80 kr rfl #[.slice ψ ε.length a0] (by rfl) rfl rfl (by(try simp only[List.map_toArray,List.map_cons,List.map_nil]);first|done|rfl|(simp only[List.length_drop,List.length_take];rfl)) ?_
 with_reducible refine(cmp_Or_int.calls k _ _ ε O _ ?side1 ?side2 A5.out).mono ?_
 (case side1=>repeat(first|exact(Kd.Qy μ.out).2.2|(with_reducible refine Kd.Jl ?_ _)|(with_reducible refine Kd.Jk ?_ _)|(with_reducible refine Kd.Kl ?_)))
 (case side2=>exact(Kd.Qy μ.out).2.1)
 rintro e w' ⟨rfl,⟨nd,rfl⟩⟩
 refine⟨_,rfl, ?_⟩
 refine hK.out _ _ ⟨qc X,qc X,qc L,qc L⟩ (fun hHeld=>?_)
 clear hK K
 refine qN (some 16) ?_
 refine qP 12 (some 4) (qB 13 8191) HT_ ?_
 refine Z5 (Zm HT_.out kr) ?_
 try go_wp2
 go_ret
 exact⟨by first|rfl|(simp[Qh,Qg] <;> rfl)|(simp[*,Qh,Qg] <;> rfl),by repeat(first|(with_reducible first|exact HB.out|apply Qo|apply Qi|apply Qf|refine Qp ?_ τ.out|refine Qp ?_ κ.out)|exact HB.out)⟩
end Go.Proofs.Ytmfffemidlhcpaa.K
namespace Go.Proofs.Ytmfffemidlhcpaa.C
open Go.RowKit Go.Proofs.YtmfffemidlhcpaaW.PrintWords Go.Proofs.YtmfffemidlhcpaaW.PrintLast Go.Proofs.YtmfffemidlhcpaaW.PrintMore
attribute [local go_sem] Zx Zv Z8 Z7 Zl Zk Zw Zu
set_option linter.unusedVariables false
set_option linter.unusedSimpArgs false
def call_within.f (B:Int) (O:Int) (a2:Int):Option (Bool):=if O≤B then (some (decide (B≤a2))) else (some false)
set_option maxHeartbeats 8000000 in
set_option maxRecDepth 100000 in
theorem call_within.calls (B:Int) (O:Int) (a2:Int) (r:Bool) (w:World) (h:call_within.f B O a2=some r):
  Calls Try.prog 44 #[.int .i64 B,.int .i64 O,.int .i64 a2] w fun e w'=>e = .returned (.bool r)∧Drawn0 w w':=by
 have H:(if O≤B then (some (decide (B≤a2))) else (some false))=some r:=h
 clear h
 by_cases c4:O≤B
 ·rw[if_pos c4] at H
  have c4b0:decide (O≤B)=true:=decide_eq_true c4
  clear c4
  obtain rfl:=Option.some.inj H
  go_enter Try.func44,Try.ntmps44
  go_wp2
  go_ret
  exact⟨qR,by repeat(first|exact Drawn0.refl _|apply Drawn0.step)⟩
 ·rw[if_neg c4] at H
  have c4b0:decide (O≤B)=false:=decide_eq_false c4
  clear c4
  obtain rfl:=Option.some.inj H
  go_enter Try.func44,Try.ntmps44
  go_wp2
  go_ret
  exact⟨qR,by repeat(first|exact Drawn0.refl _|apply Drawn0.step)⟩
end Go.Proofs.Ytmfffemidlhcpaa.C
namespace Go.Proofs.Ytmfffemidlhcpaa.C
open Go.RowKit Go.Proofs.YtmfffemidlhcpaaW.PrintWords Go.Proofs.YtmfffemidlhcpaaW.PrintLast Go.Proofs.YtmfffemidlhcpaaW.PrintMore
set_option linter.unusedVariables false
set_option linter.unusedSimpArgs false
section
variable {P : Program} {ops : Array Oper} {Q : Exit → Act → World → Prop}
theorem Xy {oi:Oper} {N:Option Tmp} {a:Act} {w:World} {K:Act→World→Prop} {f:FuncId} {fn:Func} {x:Operand} {xs:Array Operand} {ts:Array TypeId} (hf:P.funcs[f]?=some fn) (hname:(fn.name == "runtime.NumGoroutine")=false) (hb:fn.body.isSome=true) (first cap args all:Array Value) (hall:first ++ args++cap=all)
    (hw:Region.wanted oi (yielded ops a.tmps)=true) (hN:oi.dst=N) (hop:oi.op = .call {callee:=.value x,args:=xs,argTypes:=ts}) (hx:a.eval x = .func (.func f) first cap) (hargs:xs.map a.eval=args)
    (h:Calls P f all w fun e w'=>∃ v,e = .returned v∧K (a.put N v) w'):if Region.wanted oi (yielded ops a.tmps)=true then Oper.wp P oi a w K Q else K (a.put N undef) w:=by
  refine Nx f all hw hN ?_ h
  have he:=Vk hf hname hb all w
  unfold execOp
  simp[hop,hx,resolve,Deferred.ofValue,invoke,hargs,hall,he]
end
def tok (a b:Int):Int:=a * 18446744073709551616+(b+9223372036854775808)
def X7 (t:Int):Int:=t / 18446744073709551616
def X6 (t:Int):Int:=t % 18446744073709551616-9223372036854775808
theorem J3 (a b:Int) (h: -9223372036854775808≤b∧b≤9223372036854775807):X7 (tok a b)=a:=by unfold X7 tok;omega
theorem J2 (a b:Int) (h: -9223372036854775808≤b∧b≤9223372036854775807):X6 (tok a b)=b:=by unfold X6 tok;omega
theorem Z1 {w W:World} {g:Nat} {t:TypeId} {cs:Array Value} (h:w.heap[g]?=some (.cells cs t (0,0))) (hb:Below w.heap.size w W):W.heap[g]?=some (.cells cs t (0,0)):=Qs h hb
def Vo (a b:Int):Int:=if a<b then -1 else if a>b then 1 else 0
def X2 (B O X b1:Int):Int:=if Vo B X≠0 then Vo B X else Vo O b1
theorem cmp_eq (a b:Int):K.cmp_Compare_int.f a b=some (Vo a b):=by
  unfold K.cmp_Compare_int.f K.cmp_isNaN_int.f Vo
  simp only[Option.bind_some,bne_self_eq_false]
  rw[if_neg (by decide),if_neg (by decide)]
  split
  · rfl
  · split <;> rfl
theorem Nv (a b:Int):K.cmp_Or_int.f 5 [a,b]=some (if a≠0 then a else b):=by
  have w1:wrap64 (0+1)=1:=by unfold wrap64;omega
  have w2:wrap64 (1+1)=2:=by unfold wrap64;omega
  have r0:rd [a,b] 0=a:=rfl
  have r1:rd [a,b] 1=b:=rfl
  have l2:(([a,b]:List Int).length:Int)=2:=rfl
  unfold K.cmp_Or_int.f
  rw[l2,K.cmp_Or_int.l0,if_pos (by decide),if_pos (by decide),l2,if_pos (by decide),r0,w1]
  by_cases h:a=0
  · rw[if_pos h,if_neg (fun g=>g h),K.cmp_Or_int.l0,if_pos (by decide),if_pos (by decide),l2,if_pos (by decide),r1,w2]
    by_cases L:b=0
    · rw[if_pos L,K.cmp_Or_int.l0,if_neg (by decide),L]
    · rw[if_neg L]
  · rw[if_neg h,if_pos h]
def call_halls_1.f (J B L Z Y ε :Int):Option Int:=some (X2 J B Z Y)
def call_ins_1.f (J B Z Y:Int):Option Int:=some (X2 J B Z Y)
theorem call_halls_1.calls (J B L Z Y ε r:Int) (w:World) (h:call_halls_1.f J B L Z Y ε = some r):
    Calls Try.prog 79 #[.agg #[.int .i64 J,.int .i64 B,.int .i64 L],.agg #[.int .i64 Z,.int .i64 Y,.int .i64 ε]] w fun e w'=>e = .returned (.int .i64 r)∧Below w.heap.size w w':=by
  refine K.call_halls_1.calls 5 J B L Z Y ε r w ?_
  unfold K.call_halls_1.f
  rw[cmp_eq,cmp_eq]
  simp only[Option.bind_some]
  rw[Nv]
  exact h
theorem call_ins_1.calls (J B Z Y r:Int) (w:World) (h:call_ins_1.f J B Z Y=some r):
    Calls Try.prog 83 #[.agg #[.int .i64 J,.int .i64 B],.agg #[.int .i64 Z,.int .i64 Y]] w fun e w'=>e = .returned (.int .i64 r)∧Below w.heap.size w w':=by
  refine K.call_ins_1.calls 5 J B Z Y r w ?_
  unfold K.call_ins_1.f
  rw[cmp_eq,cmp_eq]
  simp only[Option.bind_some]
  rw[Nv]
  exact h
def Xk (F C:Int) (B J Y:Int):Bool:=decide ((J=1∨J = -1)∧(0≤B∧B≤wrap64 (F-1))∧(0≤wrap64 (B+J)∧wrap64 (B+J)≤wrap64 (F-1))∧(-1≤Y∧Y≤wrap64 (C-1)))
def Jv (F C:Int) (B J:Int):Bool:=decide ((0≤B∧B≤wrap64 (C-1))∧(0≤J∧J≤wrap64 (F-1)))
theorem Yv (a b c:Int) (r:Bool) (h:decide (b≤a∧a≤c)=r):call_within.f a b c=some r:=by
  unfold call_within.f
  subst h
  by_cases h1:b≤a
  · rw[if_pos h1];simp[h1]
  · rw[if_neg h1];simp[h1]
theorem L8 (F C B J Y:Int):Xk F C B J Y=((J==1||J == -1)&&(decide (0≤B∧B≤wrap64 (F-1))&&(decide (0≤wrap64 (B+J)∧wrap64 (B+J)≤wrap64 (F-1))&&decide (-1≤Y∧Y≤wrap64 (C-1))))):=by
  unfold Xk
  rw[Bool.eq_iff_iff]
  simp[and_assoc]
theorem M6 (F C B J:Int):Jv F C B J=(decide (0≤B∧B≤wrap64 (C-1))&&decide (0≤J∧J≤wrap64 (F-1))):=by
  unfold Jv
  rw[Bool.eq_iff_iff]
  simp[and_assoc]
def call_hall_1.f (J B L O:Int):Option Bool:=some (Xk (X7 O) (X6 O) J B L)
def call_inside_1.f (J B O:Int):Option Bool:=some (Jv (X7 O) (X6 O) J B)
set_option maxRecDepth 100000 in
set_option maxHeartbeats 4000000 in
theorem Gb (F C B J Y:Int) (r:Bool) (w:World) (h:Xk F C B J Y=r) (g:Nat) (hg:w.heap[g]?=some (.cells #[.int .i64 F,.int .i64 C] 59 (0,0))):
    Calls Try.prog 82 #[.agg #[.int .i64 B,.int .i64 J,.int .i64 Y],.pointer (some ⟨g,0,none⟩)] w fun e w'=>e = .returned (.bool r)∧Below w.heap.size w w':=by
  rw[L8] at h
  have HG:=Aside0.mk hg
  have HB:=Aside0.mk (Below.refl w.heap.size w)
  clear hg
  have X:∃ b,decide (0≤B∧B≤wrap64 (F-1))=b:=⟨_,rfl⟩
  have L:∃ b,decide (0≤wrap64 (B+J)∧wrap64 (B+J)≤wrap64 (F-1))=b:=⟨_,rfl⟩
  have O:∃ b,decide (-1≤Y∧Y≤wrap64 (C-1))=b:=⟨_,rfl⟩
  have Z:∃ b,(J==1)=b:=⟨_,rfl⟩
  have η :∃ b,(J == -1)=b:=⟨_,rfl⟩
  obtain⟨b1,X⟩:=X
  obtain⟨b2,L⟩:=L
  obtain⟨b3,O⟩:=O
  obtain⟨d1,Z⟩:=Z
  obtain⟨d2,η⟩:= η
  rw[X,L,O,Z,η] at h
  have D1:=Aside0.mk X
  have D2:=Aside0.mk L
  have D3:=Aside0.mk O
  clear X L O
  cases d1 <;> cases d2 <;> cases b1 <;> cases b2 <;> cases b3 <;> simp only[Bool.or_false,Bool.false_or,Bool.or_true,Bool.true_or,Bool.and_false,Bool.false_and,Bool.and_true,Bool.true_and] at h <;> subst h <;>
  · go_enter Try.func82,Try.ntmps82
    go_wp2_with (first|((with_reducible refine Qe (N:=2) rfl ?_);refine Zg ?hg (N:=2) ?hd (cs:=#[.int .i64 B,.int .i64 J,.int .i64 Y]) (t:=36) ?hr ?_;(case hd=>rfl);(case hg=>rfl);(case hr=>first|(go_simp;done)|(go_simp;rfl));intro gb hgb w1 hbox hb;have ξ :=Aside0.mk (Qx HB.out hb);clear HB;have HB:= ξ;clear ξ;have hk:=Z1 HG.out HB.out;have γ:w1.cell? ⟨g,0,none⟩=some (.int .i64 F):=(Qa hk 0).trans rfl;have δ :w1.cell? ⟨g,1,none⟩=some (.int .i64 C):=(Qa hk 1).trans rfl;have ε :w1.cell? ⟨gb,0,none⟩=some (.int .i64 B):=(Qa hbox 0).trans rfl;have ζ :w1.cell? ⟨gb,1,none⟩=some (.int .i64 J):=(Qa hbox 1).trans rfl;have θ :w1.cell? ⟨gb,2,none⟩=some (.int .i64 Y):=(Qa hbox 2).trans rfl;clear hk hbox hb hgb)|(go_at_call 44;((with_reducible refine(call_within.calls B 0 (wrap64 (F-1)) _ _ (Yv _ _ _ _ D1.out)).mono ?_);rintro e w' ⟨rfl,⟨nd,rfl⟩⟩))|(go_at_call 44;((with_reducible refine(call_within.calls (wrap64 (B+J)) 0 (wrap64 (F-1)) _ _ (Yv _ _ _ _ D2.out)).mono ?_);rintro e w' ⟨rfl,⟨nd,rfl⟩⟩))|(go_at_call 44;((with_reducible refine(call_within.calls Y (-1) (wrap64 (C-1)) _ _ (Yv _ _ _ _ D3.out)).mono ?_);rintro e w' ⟨rfl,⟨nd,rfl⟩⟩)))
    go_ret
    exact⟨rfl,by repeat(first|exact HB.out|apply Qi)⟩
set_option maxRecDepth 100000 in
set_option maxHeartbeats 4000000 in
theorem Vj (F C B J:Int) (r:Bool) (w:World) (h:Jv F C B J=r) (g:Nat) (hg:w.heap[g]?=some (.cells #[.int .i64 F,.int .i64 C] 59 (0,0))):
    Calls Try.prog 84 #[.agg #[.int .i64 B,.int .i64 J],.pointer (some ⟨g,0,none⟩)] w fun e w'=>e = .returned (.bool r)∧Below w.heap.size w w':=by
  rw[M6] at h
  have HG:=Aside0.mk hg
  have HB:=Aside0.mk (Below.refl w.heap.size w)
  clear hg
  have X:∃ b,decide (0≤B∧B≤wrap64 (C-1))=b:=⟨_,rfl⟩
  have L:∃ b,decide (0≤J∧J≤wrap64 (F-1))=b:=⟨_,rfl⟩
  obtain⟨b1,X⟩:=X
  obtain⟨b2,L⟩:=L
  rw[X,L] at h
  have D1:=Aside0.mk X
  have D2:=Aside0.mk L
  clear X L
  cases b1 <;> cases b2 <;> simp only[Bool.and_false,Bool.false_and,Bool.and_true,Bool.true_and] at h <;> subst h <;>
  · go_enter Try.func84,Try.ntmps84
    go_wp2_with (first|((with_reducible refine Qe (N:=2) rfl ?_);refine Zg ?hg (N:=2) ?hd (cs:=#[.int .i64 B,.int .i64 J]) (t:=86) ?hr ?_;(case hd=>rfl);(case hg=>rfl);(case hr=>first|(go_simp;done)|(go_simp;rfl));intro gb hgb w1 hbox hb;have ξ :=Aside0.mk (Qx HB.out hb);clear HB;have HB:= ξ;clear ξ;have hk:=Z1 HG.out HB.out;have γ:w1.cell? ⟨g,0,none⟩=some (.int .i64 F):=(Qa hk 0).trans rfl;have δ :w1.cell? ⟨g,1,none⟩=some (.int .i64 C):=(Qa hk 1).trans rfl;have ε :w1.cell? ⟨gb,0,none⟩=some (.int .i64 B):=(Qa hbox 0).trans rfl;have ζ :w1.cell? ⟨gb,1,none⟩=some (.int .i64 J):=(Qa hbox 1).trans rfl;clear hk;clear hbox hb hgb)|(go_at_call 44;((with_reducible refine(call_within.calls B 0 (wrap64 (C-1)) _ _ (Yv _ _ _ _ D1.out)).mono ?_);rintro e w' ⟨rfl,⟨nd,rfl⟩⟩))|(go_at_call 44;((with_reducible refine(call_within.calls J 0 (wrap64 (F-1)) _ _ (Yv _ _ _ _ D2.out)).mono ?_);rintro e w' ⟨rfl,⟨nd,rfl⟩⟩)))
    go_ret
    exact⟨rfl,by repeat(first|exact HB.out|apply Qi)⟩
theorem call_hall_1.calls (J B L O:Int) (r:Bool) (w:World) (h:call_hall_1.f J B L O=some r) (g:Nat) (hg:w.heap[g]?=some (.cells #[.int .i64 (X7 O),.int .i64 (X6 O)] 59 (0,0))):
    Calls Try.prog 82 #[.agg #[.int .i64 J,.int .i64 B,.int .i64 L],.pointer (some ⟨g,0,none⟩)] w fun e w'=>e = .returned (.bool r)∧Below w.heap.size w w':=
  Gb _ _ _ _ _ _ _ (Option.some.inj h) g hg
theorem call_inside_1.calls (J B O:Int) (r:Bool) (w:World) (h:call_inside_1.f J B O=some r) (g:Nat) (hg:w.heap[g]?=some (.cells #[.int .i64 (X7 O),.int .i64 (X6 O)] 59 (0,0))):
    Calls Try.prog 84 #[.agg #[.int .i64 J,.int .i64 B],.pointer (some ⟨g,0,none⟩)] w fun e w'=>e = .returned (.bool r)∧Below w.heap.size w w':=
  Vj _ _ _ _ _ _ (Option.some.inj h) g hg
def api_Inside_without_1.f (J B O:Int):Option Bool:=some (X2 (X7 O) (X6 O) J B==0)
set_option maxRecDepth 100000 in
set_option maxHeartbeats 4000000 in
theorem Jm (B J L O:Int) (r:Bool) (w:World) (h:(X2 B J L O==0)=r) (A:Option Addr) (n c:Nat) (gr gx:Nat) (hr:w.heap[gr]?=some (.cells #[.slice A n c,.func (.func 83) #[] #[]] 116 (0,0))) (hx:w.heap[gx]?=some (.cells #[.int .i64 B,.int .i64 J] 86 (0,0))):
    Calls Try.prog 92 #[.agg #[.int .i64 L,.int .i64 O],.pointer (some ⟨gr,0,none⟩),.pointer (some ⟨gx,0,none⟩)] w fun e w'=>e = .returned (.bool r)∧Below w.heap.size w w':=by
  have HR:=Aside0.mk hr
  have HX:=Aside0.mk hx
  have HB:=Aside0.mk (Below.refl w.heap.size w)
  clear hr hx
  have hd:∃ z,X2 B J L O=z:=⟨_,rfl⟩
  obtain⟨z,hd⟩:=hd
  rw[hd] at h
  have D1:=Aside0.mk (show call_ins_1.f B J L O=some z from congrArg some hd)
  clear hd
  cases r <;>
  · go_enter Try.func92,Try.ntmps92
    go_wp2_with (first|((with_reducible refine Qe (N:=3) rfl ?_);refine Zg ?hg (N:=3) ?hd (cs:=#[.int .i64 L,.int .i64 O]) (t:=86) ?hr ?_;(case hd=>rfl);(case hg=>rfl);(case hr=>first|(go_simp;done)|(go_simp;rfl));intro gb hgb w1 hbox hb;have ξ :=Aside0.mk (Qx HB.out hb);clear HB;have HB:= ξ;clear ξ;have hk:=Z1 HR.out HB.out;have hq:=Z1 HX.out HB.out;have γ:w1.cell? ⟨gr,0,none⟩=some (.slice A n c):=(Qa hk 0).trans rfl;have δ :w1.cell? ⟨gr,1,none⟩=some (.func (.func 83) #[] #[]):=(Qa hk 1).trans rfl;have X:w1.cell? ⟨gx,0,none⟩=some (.int .i64 B):=(Qa hq 0).trans rfl;have Y:w1.cell? ⟨gx,1,none⟩=some (.int .i64 J):=(Qa hq 1).trans rfl;have ε :w1.cell? ⟨gb,0,none⟩=some (.int .i64 L):=(Qa hbox 0).trans rfl;have ζ :w1.cell? ⟨gb,1,none⟩=some (.int .i64 O):=(Qa hbox 1).trans rfl;clear hk hq;clear hbox hb hgb)|(go_at_call 83;((with_reducible refine(call_ins_1.calls B J L O z _ D1.out).mono ?_);rintro e w2 ⟨rfl,hb⟩;have ξ :=Aside0.mk (Qx HB.out hb);clear HB;have HB:= ξ;clear ξ;clear hb)))
    go_ret
    exact⟨rfl,HB.out⟩
theorem api_Inside_without_1.calls (J B O:Int) (r:Bool) (w:World) (h:api_Inside_without_1.f J B O=some r) (A:Option Addr) (n c:Nat) (gr gx:Nat) (z:Int) (hr:w.heap[gr]?=some (.cells #[.slice A n c,.func (.func 83) #[] #[]] 116 (0,0))) (hx:w.heap[gx]?=some (.cells #[.int .i64 (X7 O),.int .i64 (X6 O)] 86 (0,0))):
    Calls Try.prog 92 #[.agg #[.int .i64 J,.int .i64 B],.pointer (some ⟨gr,0,none⟩),.pointer (some ⟨gx,0,none⟩)] w fun e w'=>e = .returned (.bool r)∧Below w.heap.size w w':=
  Jm (X7 O) (X6 O) J B r w (Option.some.inj h) A n c gr gx hr hx
end Go.Proofs.Ytmfffemidlhcpaa.C
namespace Go.Proofs.Ytmfffemidlhcpaa.C
open Go.RowKit Go.Proofs.YtmfffemidlhcpaaW.PrintWords Go.Proofs.YtmfffemidlhcpaaW.PrintLast Go.Proofs.YtmfffemidlhcpaaW.PrintMore
attribute [local go_sem] Zx Zv Z8 Z7 Zl Zk Zw Zu
set_option linter.unusedVariables false
set_option linter.unusedSimpArgs false
def api_Inside_100.l0:Nat→List (S86)→Int→Int→Int→Option (Int)
 |0,_,_,_,_=>none
 |k+1,B,J,L,X=>if X<L then (if 0≤X then (if X<(B.length:Int) then ((api_Inside_without_1.f ((Qn B X).f0) ((Qn B X).f1) J).bind fun Z=>(if Z=true then (some X) else (api_Inside_100.l0 k B J L (wrap64 (X+1))))) else (none)) else (none)) else (some (-1))
def api_Inside_100.f (k:Nat) (l0:List (S86)) (O:Int):Option (Int):=api_Inside_100.l0 k l0 O (l0.length:Int) 0
set_option maxHeartbeats 8000000 in
set_option maxRecDepth 100000 in
theorem api_Inside_100.calls (k:Nat) (A0:Option Addr) (c0:Nat) (l0:List (S86)) (O:Int) (r:Int) (w:World) (μ :Kd.C k86 w A0 l0.length l0) (γ:l0.length≤c0) (h:api_Inside_100.f k l0 O=some r) (Ar_:Option Addr) (nr_ cr_ gr_ gx_:Nat) (zx_:Int) (hgr_:w.heap[gr_]?=some (.cells #[.slice Ar_ nr_ cr_,.func (.func 83) #[] #[]] 116 (0,0))) (hgx_:w.heap[gx_]?=some (.cells #[.int .i64 (X7 O),.int .i64 (X6 O)] 86 (0,0))):
  Calls Try.prog 100 #[.slice A0 l0.length c0,.func (.func 92) #[] #[.pointer (some ⟨gr_,0,none⟩),.pointer (some ⟨gx_,0,none⟩)]] w fun e w'=>e = .returned (.int .i64 r)∧Below w.heap.size w w':=by
 have HCR:=Aside0.mk hgr_
 have HCX:=Aside0.mk hgx_
 clear hgr_ hgx_
 have db:=Try.underlying86
 have τ :=Aside0.mk μ
 have ag:=Aside0.mk γ
 clear μ γ
 have HB:=Aside0.mk (Below.refl w.heap.size w)
 have H:(api_Inside_100.l0 k l0 O (l0.length:Int) 0)=some r:=h
 clear h
 have H':=Aside0.mk H
 clear H
 go_enter Try.func100,Try.ntmps100
 go_wp2
 go_loopg [8] k (fun kq v8 w'=>∃ (B:Int),v8 = .int .i64 B∧Aside0 (api_Inside_100.l0 kq l0 O (l0.length:Int) B=some r)∧Aside0 (kq≤k)∧Aside0 (Below w.heap.size w w'))
 case atStart=>exact⟨(0),rfl,H',⟨Nat.le_refl _⟩,HB⟩
 case round=>
  clear H'
  try clear c1
  try clear p2
  obtain⟨B,rfl,HA,an,HB⟩:=hrel
  cases gk with
  |zero=>exact absurd HA.out (by simp[api_Inside_100.l0])
  |succ k1=>
   have H:=HA.out
   clear HA
   simp only[api_Inside_100.l0] at H
   by_cases c3:B<(l0.length:Int)
   ·rw[if_pos c3] at H
    have c3b0:decide (B<(l0.length:Int))=true:=decide_eq_true c3
    clear c3
    by_cases c4:0≤B
    ·rw[if_pos c4] at H
     have c4b0:decide (0≤B)=true:=decide_eq_true c4
     clear c4
     by_cases c5:B<(l0.length:Int)
     ·rw[if_pos c5] at H
      have c5b0:decide (B<(l0.length:Int))=true:=decide_eq_true c5
      clear c5
      replace H:=Option.bind_eq_some_iff.mp H
      obtain⟨Z,ao,H⟩:=H
      replace H:(if Z=true then (some B) else (api_Inside_100.l0 k1 l0 O (l0.length:Int) (wrap64 (B+1))))=some r:=H
      have A6:=Aside0.mk ao
      clear ao
      by_cases c7:Z=true
      ·subst c7
       have H1:(some B)=some r:=by rw[if_pos rfl] at H;exact H
       clear H
       have H:=H1
       clear H1
       obtain rfl:=Option.some.inj H
       have X:0≤(B:Int):=of_decide_eq_true (by assumption)
       have Y:B<(l0.length:Int):=of_decide_eq_true (by assumption)
       obtain⟨ε,δ,J,L⟩:=Y3 τ.out B X Y
       cases δ
       replace J:=(HB.out.cell (World.block_lt_of_cell? w _ J)).trans J
       replace L:=(HB.out.cell (World.block_lt_of_cell? w _ L)).trans L
       replace X:=eq_true X
       replace Y:=eq_true Y
       go_wp2_with (first|(go_at_call 92;((with_reducible refine(api_Inside_without_1.calls ((Qn l0 B).f0) ((Qn l0 B).f1) O true _ A6.out Ar_ nr_ cr_ gr_ gx_ zx_ (Z1 HCR.out (by repeat(first|(with_reducible first|exact HB.out|apply Qo|apply Qi|apply Qf)|exact HB.out|(refine Qp ?_ (Aside0.out (by assumption)))))) (Z1 HCX.out (by repeat(first|(with_reducible first|exact HB.out|apply Qo|apply Qi|apply Qf)|exact HB.out|(refine Qp ?_ (Aside0.out (by assumption))))))).mono ?_);rintro e w8 ⟨rfl,hb⟩;have ξ :=Aside0.mk (Qx HB.out hb);clear HB;have HB:= ξ;clear ξ;(try clear hb);(try clear a9);(try clear hk);(try clear hi))))
       go_ret
       exact⟨rfl,HB.out⟩
      ·replace c7:=Bool.eq_false_iff.mpr c7
       subst c7
       have H1:(api_Inside_100.l0 k1 l0 O (l0.length:Int) (wrap64 (B+1)))=some r:=by rw[if_neg (show ¬ (false=true) by decide)] at H;exact H
       clear H
       have H:=H1
       clear H1
       have H':=Aside0.mk H
       clear H
       have X:0≤(B:Int):=of_decide_eq_true (by assumption)
       have Y:B<(l0.length:Int):=of_decide_eq_true (by assumption)
       obtain⟨ε,δ,J,L⟩:=Y3 τ.out B X Y
       cases δ
       replace J:=(HB.out.cell (World.block_lt_of_cell? w _ J)).trans J
       replace L:=(HB.out.cell (World.block_lt_of_cell? w _ L)).trans L
       replace X:=eq_true X
       replace Y:=eq_true Y
       go_wp2_with (first|(go_at_call 92;((with_reducible refine(api_Inside_without_1.calls ((Qn l0 B).f0) ((Qn l0 B).f1) O false _ A6.out Ar_ nr_ cr_ gr_ gx_ zx_ (Z1 HCR.out (by repeat(first|(with_reducible first|exact HB.out|apply Qo|apply Qi|apply Qf)|exact HB.out|(refine Qp ?_ (Aside0.out (by assumption)))))) (Z1 HCX.out (by repeat(first|(with_reducible first|exact HB.out|apply Qo|apply Qi|apply Qf)|exact HB.out|(refine Qp ?_ (Aside0.out (by assumption))))))).mono ?_);rintro e w9 ⟨rfl,hb⟩;have ξ :=Aside0.mk (Qx HB.out hb);clear HB;have HB:= ξ;clear ξ;(try clear hb);(try clear a9);(try clear hk);(try clear hi))))
       go_roundg k1
       case measure=>have:=an.out;omega
       case rel=>exact⟨(wrap64 (B+1)),rfl,H',⟨by have:=an.out;omega⟩,HB⟩
     ·rw[if_neg c5] at H
      exact absurd H (by simp)
    ·rw[if_neg c4] at H
     exact absurd H (by simp)
   ·rw[if_neg c3] at H
    have c3b0:decide (B<(l0.length:Int))=false:=decide_eq_false c3
    clear c3
    obtain rfl:=Option.some.inj H
    go_wp2
    go_ret
    exact⟨rfl,HB.out⟩
end Go.Proofs.Ytmfffemidlhcpaa.C
namespace Go.Proofs.Ytmfffemidlhcpaa.C
open Go.RowKit Go.Proofs.YtmfffemidlhcpaaW.PrintWords Go.Proofs.YtmfffemidlhcpaaW.PrintLast Go.Proofs.YtmfffemidlhcpaaW.PrintMore
set_option linter.unusedVariables false
structure Flat {α:Type} (d:Kd α) (enc:α→List Value):Prop where
  len:∀ x,(enc x).length=d.sz
  one:∀ x,∀ u ∈ enc x,u.oneCell'=true
  M:∀ w base ok x cs,d.M w base ok x cs↔cs=enc x
  K:∀ w x cs,d.K w x cs↔cs=enc x
def Ye {α:Type} (enc:α→List Value) (xs:List α):List Value:=xs.flatMap enc
section
variable {α : Type} {d : Kd α} {enc : α → List Value}
theorem Gf (x:α) (xs:List α):Ye enc (x :: xs)=enc x++Ye enc xs:=rfl
theorem Vl (xs ys:List α):Ye enc (xs++ys)=Ye enc xs++Ye enc ys:=List.flatMap_append
theorem G4 (F:Flat d enc) (xs:List α):(Ye enc xs).length=xs.length * d.sz:=by
  induction xs with
  |nil=>simp[Ye]
  |cons x xs ih=>rw[Gf,List.length_append,F.len,ih,List.length_cons,Nat.add_mul,Nat.one_mul,Nat.add_comm]
theorem Uw (F:Flat d enc) (xs:List α) (m:Nat) (h:m≤xs.length):(Ye enc xs).take (m * d.sz)=Ye enc (xs.take m):=by
  have e:Ye enc xs=Ye enc (xs.take m)++Ye enc (xs.drop m):=by rw[← Vl,List.take_append_drop]
  have hl:(Ye enc (xs.take m)).length=m * d.sz:=by rw[G4 F,List.length_take,Nat.min_eq_left h]
  rw[e,← hl,List.take_left']
  rfl
theorem Gz (F:Flat d enc) {R:α→List Value→Prop} (hR:∀ p c,R p c↔c=enc p) (xs:List α):∀ inner,Reps R d.sz xs inner↔inner=Ye enc xs:=by
  induction xs with
  |nil=>
    intro inner
    constructor
    · intro h
      have:=h.1
      simp only[List.length_nil,Nat.zero_mul] at this
      exact List.eq_nil_of_length_eq_zero this
    · rintro rfl
      exact Reps.none _ _
  |cons x xs ih=>
    intro inner
    constructor
    · intro h
      have h1:=h.2 0 x rfl
      rw[hR,Nat.zero_mul,List.drop_zero] at h1
      have L:=Kd.Ww (m:=1) h
      rw[List.drop_one,List.tail_cons,ih,Nat.one_mul] at L
      rw[Gf,← h1,← L,List.take_append_drop]
    · rintro rfl
      have h1:Reps R d.sz [x] (enc x):=by
        have:=Reps.snoc (Reps.none R d.sz) ((hR x (enc x)).2 rfl) (F.len x)
        simpa using this
      exact Kd.Jb (ps:=[x]) h1 ((ih _).2 rfl)
theorem Vu (F:Flat d enc) {e:Nat} {w:World} {base:Nat} {ok:Nat→Prop} {v:Value} {xs:List α}:d.R e w base ok v xs↔(∀ k,v.ownBlock=some k→ok k)∧w.ownsRow base e d.sz v xs.length (Ye enc xs):=by
  constructor
  · rintro⟨X,inner,ho,hr⟩
    rw[Gz F (fun p c=>F.M _ _ _ p c)] at hr
    subst hr
    exact⟨X,ho⟩
  · rintro⟨X,ho⟩
    exact⟨X,_,ho,(Gz F (fun p c=>F.M _ _ _ p c) xs _).2 rfl⟩
theorem Uq {P:Program} (w:World) (t e ty:TypeId) (z:Value) (ht:P.underlying t=some (.slice e)) (hv:∀ w,(zeroValue e).run P w = .ok z w) (J:∀ u ∈ z.cells.toList,u.oneCell'=true) (b o n c:Nat) (hn:0<n)
    (hc:∀ j,j<n * z.cells.size→(w.cell? ⟨b,o+j,none⟩).isSome=true) (hf:∀ j,j<n * z.cells.size→w.frozen? ⟨b,o+j,none⟩=false):
    ∃ vs,vs.length=n * z.cells.size∧(Builtin.clear_ #[t] ty #[.slice (some ⟨b,o,none⟩) n c]).run P w = .ok (.tuple #[]) (w.setCells b o vs):=by
  refine⟨(Builtin.zeroCells z.cells n).toList,by simp[Builtin.zeroCells], ?_⟩
  have hl:(Builtin.zeroCells z.cells n).toList.length=n * z.cells.size:=by simp[Builtin.zeroCells]
  have h1:∀ v ∈ (Builtin.zeroCells z.cells n).toList,v.oneCell'=true:=by
    intro v hv'
    simp only[Builtin.zeroCells,Array.mem_toList_iff,Array.mem_map,Array.mem_range] at hv'
    obtain⟨i,hi,rfl⟩:=hv'
    have hs:0<z.cells.size:=by
      rcases Nat.eq_zero_or_pos z.cells.size with h|h
      · rw[h,Nat.mul_zero] at hi;omega
      · exact h
    have hm:i % z.cells.size<z.cells.size:=Nat.mod_lt _ hs
    rw[getElem!_pos z.cells _ hm]
    exact J _ (by simp)
  have hst:=run_storeCells_cells (P:=P) b o (Builtin.zeroCells z.cells n).toList 0 w (by rw[hl];simpa using hc) (by rw[hl];simpa using hf) h1
  simp only[Nat.add_zero] at hst
  obtain⟨m,rfl⟩:∃ m,n=m+1:=⟨n-1,by omega⟩
  simp[Builtin.clear_,run_underlying ht,hv,hst]
theorem Ln (g j:Nat):(⟨g,0,none⟩:Addr).add j=⟨g,j,none⟩:=by unfold Addr.add;split <;> simp_all
theorem W6 {W:World} {g:Nat} {vs:List Value} {o:Nat}:W.grownBy (W.setCells g o vs) (some g):=by
  obtain⟨s1,s2,s3,s4⟩:=Yt g vs o W
  exact⟨s1,s2,s3,by rw[s4];exact Nat.le_refl _,fun k _ hk=>Yz _ _ k (fun he=>hk (by rw[he]))⟩
theorem Lf {P:Program} (F:Flat d enc) {W:World} {base:Nat} {ok:Nat→Prop} {e:Nat} (t ty:TypeId) (ht:P.underlying t=some (.slice e)) (z:Value) (hv:∀ w,(zeroValue e).run P w = .ok z w) (J:∀ u ∈ z.cells.toList,u.oneCell'=true) (hzs:z.cells.size=d.sz)
    (A:Option Addr) (c:Nat) (xs:List α) (HO:d.R e W base ok (.slice A xs.length c) xs) (i:Nat) (hi:i≤xs.length):
    ∃ w1,(Builtin.clear_ #[t] ty #[.slice (if c=i then A else A.map (·.add (i * d.sz))) (xs.length-i) (c-i)]).run P W = .ok (.tuple #[]) w1∧d.R e w1 base ok (.slice A i c) (xs.take i)∧W.grownBy w1 (Value.slice A i c).ownBlock:=by
  obtain⟨X,ho⟩:=(Vu F).1 HO
  have hob:(Value.slice A i c).ownBlock=(Value.slice A xs.length c).ownBlock:=by cases A <;> rfl
  rcases ho.2 with⟨B,L⟩|⟨g,cap,cur,B,hb,hh,hnc,hcm,hcs,htake⟩
  · injection B with e1 e2 Y
    subst e1 Y
    have O:i=0:=by omega
    subst O
    refine⟨W, ?_, ?_,World.grownBy.refl W _⟩
    · rw[L]
      simp[Builtin.clear_,run_underlying ht]
    · have:xs = []:=List.eq_nil_of_length_eq_zero L
      subst this
      exact Kd.Xs _ _ _ _ _
  · injection B with e1 e2 Y
    subst e1 Y
    have own_i:∀ (w1:World) (cur':Array Value),w1.heap[g]?=some (.cells cur' e (0,0))→cur'.size=cur.size→cur'.toList.take (i * d.sz)=cur.toList.take (i * d.sz)→d.R e w1 base ok (.slice (some ⟨g,0,none⟩) i c) (xs.take i):=by
      intro w1 cur' Z g2 g3
      rw[Vu F]
      have hl:(xs.take i).length=i:=by rw[List.length_take,Nat.min_eq_left hi]
      refine⟨fun k hk=>X k (by simpa[Value.ownBlock] using hk), ?_⟩
      rw[hl]
      refine⟨by rw[G4 F,hl],.inr ⟨g,c,cur',rfl,hb,Z,by omega,hcm,by rw[g2,hcs], ?_⟩⟩
      have hq:cur.toList.take (i * d.sz)=(cur.toList.take (xs.length * d.sz)).take (i * d.sz):=by
        rw[List.take_take,Nat.min_eq_left (Nat.mul_le_mul_right _ hi)]
      rw[g3,hq,htake,Uw F xs i hi]
    rcases Nat.lt_or_ge i xs.length with hlt|hge
    · rw[if_neg (by omega)]
      simp only[Option.map_some,Ln]
      have hsz:(xs.length-i) * z.cells.size+i * d.sz≤cur.size:=by
        rw[hzs,hcs,← Nat.add_mul]
        exact Nat.mul_le_mul_right _ (by omega)
      obtain⟨vs,hvl,hrun⟩:=Uq (P:=P) W t e ty z ht hv J g (i * d.sz) (xs.length-i) (c-i) (by omega)
        (fun j hj=>by rw[cell_of_row W g _ cur e (0,0) hh];simp;omega) (fun j _=>Qq hh _)
      obtain⟨cur',Z,g2,g3⟩:=Yy vs (i * d.sz) W cur hh (by rw[hvl];omega)
      refine⟨_,hrun,own_i _ cur' Z g2 ?_, ?_⟩
      · rw[g3,List.append_assoc,List.take_append_of_le_length (by rw[List.length_take];simp;omega),List.take_take,Nat.min_self]
      · have:(Value.slice (some ⟨g,0,none⟩) i c).ownBlock=some g:=rfl
        rw[this]
        exact W6
    · have hie:i=xs.length:=by omega
      refine⟨W, ?_,own_i W cur hh rfl rfl,World.grownBy.refl W _⟩
      rw[hie,Nat.sub_self]
      split <;> simp[Builtin.clear_,run_underlying ht]
theorem Ul {P:Program} {ops:Array Oper} {o:Oper} {rest:List Oper} {a:Act} {Q:Exit→Act→World→Prop} (F:Flat d enc) {W:World} {base:Nat} {ok:Nat→Prop} {e:Nat} (hgd:o.guard=none) (x:Operand) (t:TypeId) (ho:o.op = .call {callee:=.builtin .clear,args:=#[x],argTypes:=#[t]})
    (ht:P.underlying t=some (.slice e)) (z:Value) (hv:∀ w,(zeroValue e).run P w = .ok z w) (J:∀ u ∈ z.cells.toList,u.oneCell'=true) (hzs:z.cells.size=d.sz)
    (A A1:Option Addr) (c c1 O:Nat) (xs:List α) (HO:d.R e W base ok (.slice A xs.length c) xs) (i:Nat) (hi:i≤xs.length) (B:A1=(if c=i then A else A.map (·.add (i * d.sz)))) (L:O=xs.length-i) (dl:c1=c-i) (hx:a.eval x = .slice A1 O c1)
    (h:∀ w1,d.R e w1 base ok (.slice A i c) (xs.take i)→W.grownBy w1 (Value.slice A i c).ownBlock→wpList P ops Q rest (a.put o.dst (.tuple #[])) w1):wpList P ops Q (o :: rest) a W:=by
  subst B L dl
  obtain⟨w1,hr,hR,hg⟩:=Lf F t o.type ht z hv J hzs A c xs HO i hi
  refine Kd.Kk hgd (v:=.tuple #[]) (w1:=w1) ?_ (h w1 hR hg)
  unfold execOp
  simp only[ho,resolve,invoke,builtin,Sem.run_bind,Sem.run_pure,Result.andThen_ok,List.map_toArray,List.map_cons,List.map_nil,hx,hr]
theorem Ux {P:Program} {ops:Array Oper} {o:Oper} {rest:List Oper} {a:Act} {Q:Exit→Act→World→Prop} (F:Flat d enc) {w w0 W:World} {S ok:Nat→Prop} {e:Nat} (hgd:o.guard=none) (x:Operand) (t:TypeId) (ho:o.op = .call {callee:=.builtin .clear,args:=#[x],argTypes:=#[t]})
    (ht:P.underlying t=some (.slice e)) (z:Value) (hv:∀ w,(zeroValue e).run P w = .ok z w) (J:∀ u ∈ z.cells.toList,u.oneCell'=true) (hzs:z.cells.size=d.sz)
    (A A1:Option Addr) (c c1 O:Nat) (xs:List α) (HO:d.R e W w0.heap.size ok (.slice A xs.length c) xs) (i:Nat) (hi:i≤xs.length) (B:A1=(if c=i then A else A.map (·.add (i * d.sz)))) (L:O=xs.length-i) (dl:c1=c-i) (hx:a.eval x = .slice A1 O c1)
    (HB:Below w0.heap.size w0 W) (HK:Kept w W S) (hok:∀ k,ok k→S k∨w.heap.size≤k) (ys:List α) (hys:ys=xs.take i)
    (h:∀ w1,d.R e w1 w0.heap.size ok (.slice A ys.length c) ys→Below w0.heap.size w0 w1→Kept w w1 S→wpList P ops Q rest (a.put o.dst (.tuple #[])) w1):wpList P ops Q (o :: rest) a W:=by
  have hob:(Value.slice A i c).ownBlock=(Value.slice A xs.length c).ownBlock:=by cases A <;> rfl
  have hl:ys.length=i:=by rw[hys,List.length_take,Nat.min_eq_left hi]
  refine Ul F hgd x t ho ht z hv J hzs A A1 c c1 O xs HO i hi B L dl hx ?_
  intro w1 hR hg
  rw[hob] at hg
  refine h w1 (by rw[hl,hys];exact hR) (HB.grown hg HB.size (Yd ((Vu F).1 HO).2)) (Kept.K8 hg HK (fun k hk=>hok k (HO.1 k hk)))
end
theorem flatI:Flat k86 (fun x=>[.int .i64 x.f0,.int .i64 x.f1]) where
  len:=fun _=>rfl
  one:=fun x u hu=>by
    simp only[List.mem_cons,List.not_mem_nil,or_false] at hu
    rcases hu with rfl|rfl <;> rfl
  M:=fun w base ok x cs=>⟨Jj,fun h=>by rw[h];exact Vi w base ok x⟩
  K:=fun w x cs=>⟨J7,fun h=>by rw[h];exact L0 w x⟩
theorem zeroI (w:World):(zeroValue 86).run Try.prog w = .ok (.agg #[.int .i64 0,.int .i64 0]) w:=by kernel_rfl
theorem X0 {w W:World} {S:Nat→Prop} {g:Nat} {o:Obj} (h:w.heap[g]?=some o) (hk:Kept w W S) (hn:¬ S g):W.heap[g]?=some o:=(hk.2 g (Xd h) hn).trans h
end Go.Proofs.Ytmfffemidlhcpaa.C
namespace Go.Proofs.Ytmfffemidlhcpaa.C
open Go.RowKit Go.Proofs.YtmfffemidlhcpaaW.PrintWords Go.Proofs.YtmfffemidlhcpaaW.PrintLast Go.Proofs.YtmfffemidlhcpaaW.PrintMore
attribute [local go_sem] Zx Zv Z8 Z7 Zl Zk Zw Zu
set_option linter.unusedVariables false
set_option linter.unusedSimpArgs false
def api_Inside_90.l0:Nat→List (S86)→Int→Int→Int→Option ((List (S86)))
 |0,_,_,_,_=>none
 |k+1,B,J,x5,O=>if O<(B.length:Int) then (if 0≤O then ((api_Inside_without_1.f ((Qn B O).f0) ((Qn B O).f1) J).bind fun κ =>(if κ = true then (api_Inside_90.l0 k B J x5 (wrap64 (O+1))) else (if 0≤x5 then (if x5<(B.length:Int) then (api_Inside_90.l0 k (B.set (x5:Int).toNat (⟨(Qn B O).f0,(Qn B O).f1⟩:S86)) J (wrap64 (x5+1)) (wrap64 (O+1))) else (none)) else (none)))) else (none)) else (if 0≤x5 then (if x5≤(B.length:Int) then (some (B.take (x5:Int).toNat)) else (none)) else (none))
def api_Inside_90.f (k:Nat) (l0:List (S86)) (O:Int):Option ((List (S86))):=(api_Inside_100.f k l0 O).bind fun δ =>(if δ = (-1) then (some l0) else (api_Inside_90.l0 k l0 O δ (wrap64 (δ + 1))))
set_option maxHeartbeats 8000000 in
set_option maxRecDepth 100000 in
theorem api_Inside_90.calls (k:Nat) (γ:Nat→Prop) (a5:Value) (l0:List (S86)) (O:Int) (r:List (S86)) (w0 w:World) (hB:Below w0.heap.size w0 w) (ai:Kd.R k86 86 w w0.heap.size γ a5 l0) (h:api_Inside_90.f k l0 O=some r) (Ar_:Option Addr) (nr_ cr_ gr_ gx_:Nat) (zx_:Int) (hgr_:w.heap[gr_]?=some (.cells #[.slice Ar_ nr_ cr_,.func (.func 83) #[] #[]] 116 (0,0))) (hgx_:w.heap[gx_]?=some (.cells #[.int .i64 (X7 O),.int .i64 (X6 O)] 86 (0,0))) (hnr_:¬ γ gr_) (hnx_:¬ γ gx_):
  Calls Try.prog 90 #[a5,.func (.func 92) #[] #[.pointer (some ⟨gr_,0,none⟩),.pointer (some ⟨gx_,0,none⟩)]] w fun e w'=>∃ ba:Value,e = .returned (ba)∧Kd.R k86 86 w' w0.heap.size (fun k_=>(γ k_∨w.heap.size≤k_)) ba r∧Below w0.heap.size w0 w'∧Kept w w' (fun k_=>γ k_):=by
 have HCR:=Aside0.mk hgr_
 have HCX:=Aside0.mk hgx_
 have HNR:=Aside0.mk hnr_
 have HNX:=Aside0.mk hnx_
 clear hgr_ hgx_ hnr_ hnx_
 have db:=Try.underlying86
 have ε :=Aside0.mk (show Kd.R k86 86 w w0.heap.size (fun k_=>(γ k_∨w.heap.size≤k_)) a5 l0 from Kd.Qz ai (fun k_ hk=>(.inl hk)))
 have HK:=Aside0.mk (Kept.refl w (fun k_=>γ k_))
 have df:=Aside0.mk hB.size
 have HB:=Aside0.mk hB
 clear hB
 have H:((api_Inside_100.f k l0 O).bind fun δ =>(if δ = (-1) then (some l0) else (api_Inside_90.l0 k l0 O δ (wrap64 (δ + 1)))))=some r:=h
 clear h
 replace H:=Option.bind_eq_some_iff.mp H
 obtain⟨δ,ap,H⟩:=H
 replace H:(if δ = (-1) then (some l0) else (api_Inside_90.l0 k l0 O δ (wrap64 (δ + 1))))=some r:=H
 have A3:=Aside0.mk ap
 clear ap
 by_cases c4: δ = (-1)
 ·rw[if_pos c4] at H
  have c4b0:(δ == (-1))=true:=beq_iff_eq.mpr c4
  have c4b1:(δ != (-1))=false:=bne_eq_false_iff_eq.mpr c4
  clear c4
  obtain rfl:=Option.some.inj H
  obtain⟨dh,di,d5⟩:=Kd.Q7 ε.out
  subst d5
  go_enter Try.func90,Try.ntmps90
  go_wp2_with (first|(go_at_call 100;((with_reducible refine(api_Inside_100.calls k _ _ l0 O δ _ ?side1 ?side2 A3.out Ar_ nr_ cr_ gr_ gx_ zx_ (X0 HCR.out (by repeat(first|(with_reducible first|exact HK.out|apply Kept.alloc|apply Kept.drewN|apply Kept.drew|refine Kept.setCell ?_ (.inr τ.out) _)|exact HK.out)) HNR.out) (X0 HCX.out (by repeat(first|(with_reducible first|exact HK.out|apply Kept.alloc|apply Kept.drewN|apply Kept.drew|refine Kept.setCell ?_ (.inr τ.out) _)|exact HK.out)) HNX.out)).mono ?_);(case side1=>exact(Kd.Qy ε.out).2.2);(case side2=>exact(Kd.Qy ε.out).2.1);rintro e w6 ⟨rfl,hb⟩;have ξ :=Aside0.mk (Kd.Z2 ε.out hb);have φ :=Aside0.mk (Kept.below (S:=(fun k_=>γ k_)) (by repeat(first|(with_reducible first|exact HK.out|apply Kept.alloc|apply Kept.drewN|apply Kept.drew)|exact HK.out)) hb);have ω :=Aside0.mk (Qx HB.out hb);clear ε;clear HK;clear HB;have ε := ξ;have HK:= φ;have HB:= ω;clear ξ φ ω;(try clear hb);(try clear a9);(try clear hk);(try clear hi))))
  go_ret
  exact⟨_,rfl,by(with_reducible repeat first|apply Kd.Qw|apply Kd.Qv|apply Kd.Q1);exact ε.out,HB.out,by repeat(first|(with_reducible first|exact HK.out|apply Kept.alloc|apply Kept.drewN|apply Kept.drew)|exact HK.out)⟩
 ·rw[if_neg c4] at H
  have c4b0:(δ == (-1))=false:=beq_eq_false_iff_ne.mpr c4
  have c4b1:(δ != (-1))=true:=bne_iff_ne.mpr c4
  have H':=Aside0.mk H
  clear H
  obtain⟨ac,μ,d6⟩:=Kd.Q7 ε.out
  subst d6
  go_enter Try.func90,Try.ntmps90
  go_wp2_with (first|(go_at_call 100;((with_reducible refine(api_Inside_100.calls k _ _ l0 O δ _ ?side1 ?side2 A3.out Ar_ nr_ cr_ gr_ gx_ zx_ (X0 HCR.out (by repeat(first|(with_reducible first|exact HK.out|apply Kept.alloc|apply Kept.drewN|apply Kept.drew|refine Kept.setCell ?_ (.inr τ.out) _)|exact HK.out)) HNR.out) (X0 HCX.out (by repeat(first|(with_reducible first|exact HK.out|apply Kept.alloc|apply Kept.drewN|apply Kept.drew|refine Kept.setCell ?_ (.inr τ.out) _)|exact HK.out)) HNX.out)).mono ?_);(case side1=>exact(Kd.Qy ε.out).2.2);(case side2=>exact(Kd.Qy ε.out).2.1);rintro e w8 ⟨rfl,hb⟩;have ξ :=Aside0.mk (Kd.Z2 ε.out hb);have φ :=Aside0.mk (Kept.below (S:=(fun k_=>γ k_)) (by repeat(first|(with_reducible first|exact HK.out|apply Kept.alloc|apply Kept.drewN|apply Kept.drew)|exact HK.out)) hb);have ω :=Aside0.mk (Qx HB.out hb);clear ε;clear HK;clear HB;have ε := ξ;have HK:= φ;have HB:= ω;clear ξ φ ω;(try clear hb);(try clear a9);(try clear hk);(try clear hi))))
  go_loopg [5,6] k (fun kq v5 v6 w'=>∃ (B:List (S86)) (J:Int) (L:Int),v5 = .int .i64 J∧v6 = .int .i64 L∧Aside0 (api_Inside_90.l0 kq B O J L=some r)∧Aside0 (kq≤k)∧Aside0 (Kd.R k86 86 w' w0.heap.size (fun k_=>(γ k_∨w.heap.size≤k_)) (.slice ac l0.length μ) B)∧Aside0 (Kept w w' (fun k_=>γ k_))∧Aside0 (Below w0.heap.size w0 w'))
  case atStart=>exact⟨(l0),(δ),(wrap64 (δ + 1)),rfl,rfl,H',⟨Nat.le_refl _⟩,⟨by(with_reducible repeat first|apply Kd.Qw|apply Kd.Qv|apply Kd.Q1);exact ε.out⟩,⟨by repeat(first|(with_reducible first|exact HK.out|apply Kept.alloc|apply Kept.drewN|apply Kept.drew)|exact HK.out)⟩,HB⟩
  case round=>
   clear H'
   try clear c1
   try clear p2
   try clear c4
   try clear c4b0
   try clear c4b1
   try clear p6
   obtain⟨B,J,L,rfl,rfl,HA,an,HO_0,HK,HB⟩:=hrel
   have η :=(Kd.Qy HO_0.out).1
   rw[η] at HO_0
   (try simp only[η])
   cases gk with
   |zero=>exact absurd HA.out (by simp[api_Inside_90.l0])
   |succ k1=>
    have H:=HA.out
    clear HA
    simp only[api_Inside_90.l0] at H
    by_cases c9:L<(B.length:Int)
    ·rw[if_pos c9] at H
     have c9b0:decide (L<(B.length:Int))=true:=decide_eq_true c9
     clear c9
     by_cases c10:0≤L
     ·rw[if_pos c10] at H
      have c10b0:decide (0≤L)=true:=decide_eq_true c10
      clear c10
      replace H:=Option.bind_eq_some_iff.mp H
      obtain⟨κ,bc,H⟩:=H
      replace H:(if κ = true then (api_Inside_90.l0 k1 B O J (wrap64 (L+1))) else (if 0≤J then (if J<(B.length:Int) then (api_Inside_90.l0 k1 (B.set (J:Int).toNat (⟨(Qn B L).f0,(Qn B L).f1⟩:S86)) O (wrap64 (J+1)) (wrap64 (L+1))) else (none)) else (none)))=some r:=H
      have ea:=Aside0.mk bc
      clear bc
      by_cases al: κ = true
      ·subst al
       have H1:(api_Inside_90.l0 k1 B O J (wrap64 (L+1)))=some r:=by rw[if_pos rfl] at H;exact H
       clear H
       have H:=H1
       clear H1
       have H':=Aside0.mk H
       clear H
       have ag:0≤(L:Int):=of_decide_eq_true (by assumption)
       have ah:L<(B.length:Int):=of_decide_eq_true (by assumption)
       obtain⟨Y,ay,ζ,ρ⟩:=Y3 (Kd.Qy HO_0.out).2.2 L ag ah
       cases ay
       replace ag:=eq_true ag
       replace ah:=eq_true ah
       go_wp2_with (first|((with_reducible refine Qe (N:=7) rfl ?_);refine qE 7 #[.int .i64 0,.int .i64 0] 86 ?_;intro Z hg ek hbox hb;have X:=Aside0.mk hbox;have τ :=Aside0.mk ((by rw[hg];exact(by first|exact HK.out.1|exact(show Kept w _ (fun k_=>γ k_) from by repeat(first|(with_reducible first|exact HK.out|apply Kept.alloc|apply Kept.drewN|apply Kept.drew)|exact HK.out)).1):w.heap.size≤Z));have b7:=Aside0.mk ((by rw[hg];exact(Qr bel):w0.heap.size≤Z));replace HO_0:=Aside0.mk (Kd.Z2 (Kd.Yk (kra HO_0) Z (Nat.le_of_eq hg.symm)) hb);replace HK:=Aside0.mk (Kept.below (S:=(fun k_=>γ k_)) (by repeat(first|(with_reducible first|exact HK.out|apply Kept.alloc|apply Kept.drewN|apply Kept.drew)|exact HK.out)) hb);replace HB:=sHb hb;clear hb hbox hg;obtain⟨cg,ch,ci,cj⟩:=qD2 X.out)|(go_at_call 92;((with_reducible refine(api_Inside_without_1.calls ((Qn B L).f0) ((Qn B L).f1) O true _ ea.out Ar_ nr_ cr_ gr_ gx_ zx_ (X0 HCR.out (by repeat(first|(with_reducible first|exact HK.out|apply Kept.alloc|apply Kept.drewN|apply Kept.drew|refine Kept.setCell ?_ (.inr τ.out) _)|exact HK.out)) HNR.out) (X0 HCX.out (by repeat(first|(with_reducible first|exact HK.out|apply Kept.alloc|apply Kept.drewN|apply Kept.drew|refine Kept.setCell ?_ (.inr τ.out) _)|exact HK.out)) HNX.out)).mono ?_);rintro e gs ⟨rfl,hb⟩;have ξ :=Aside0.mk (Kd.Z2 (by(with_reducible repeat first|apply Kd.Qw|apply Kd.Qv|apply Kd.Q1);exact(Kd.Qz (Kd.Qu (Kd.Qu (Kd.Qz HO_0.out (fun k_ hk=>(⟨hk,hk.2⟩:_∧k_≠Z))) (fun _ hk=>hk.2) (.int .i64 ((Qn B L).f0))) (fun _ hk=>hk.2) (.int .i64 ((Qn B L).f1))) (fun _ h_=>h_.1))) hb);have φ :=Aside0.mk (Qs (g:=Z) (o:=.cells #[.int .i64 ((Qn B L).f0),.int .i64 ((Qn B L).f1)] 86 (0,0)) (by(with_reducible repeat first|refine Qj ?_ _|refine Qd ?_|refine Qk ?_ _);refine Qm (cs:=#[.int .i64 ((Qn B L).f0),.int .i64 0]) ?_ 1 _ rfl;(with_reducible repeat first|refine Qj ?_ _|refine Qd ?_|refine Qk ?_ _);refine Qm (cs:=#[.int .i64 0,.int .i64 0]) ?_ 0 _ rfl;(with_reducible repeat first|refine Qj ?_ _|refine Qd ?_|refine Qk ?_ _);exact X.out) hb);have ω :=Aside0.mk (Kept.below (S:=(fun k_=>γ k_)) (by repeat(first|(with_reducible first|exact HK.out|apply Kept.alloc|apply Kept.drewN|apply Kept.drew|refine Kept.setCell ?_ (.inr τ.out) _)|exact HK.out)) hb);have a7:=Aside0.mk (Qx bel hb);clear HO_0;clear X;clear HK;clear HB;have HO_0:= ξ;have X:= φ;have HK:= ω;have HB:=a7;clear ξ φ ω a7;(try clear hb);(try clear a9);(try clear hk);(try clear hi))))
       (try simp only[← η])
       go_roundg k1
       case measure=>have:=an.out;omega
       case rel=>exact⟨(B),(J),(wrap64 (L+1)),rfl,rfl,H',⟨by have:=an.out;omega⟩,⟨by(try simp only[η]);(with_reducible repeat first|apply Kd.Qw|apply Kd.Qv|apply Kd.Q1);exact Kd.Qz HO_0.out (fun _ hk=>hk.1)⟩,⟨by repeat(first|(with_reducible first|exact HK.out|apply Kept.alloc|apply Kept.drewN|apply Kept.drew|refine Kept.setCell ?_ (.inr τ.out) _)|exact HK.out)⟩,HB⟩
      ·replace al:=Bool.eq_false_iff.mpr al
       subst al
       have H1:(if 0≤J then (if J<(B.length:Int) then (api_Inside_90.l0 k1 (B.set (J:Int).toNat (⟨(Qn B L).f0,(Qn B L).f1⟩:S86)) O (wrap64 (J+1)) (wrap64 (L+1))) else (none)) else (none))=some r:=by rw[if_neg (show ¬ (false=true) by decide)] at H;exact H
       clear H
       have H:=H1
       clear H1
       by_cases χ :0≤J
       ·rw[if_pos χ] at H
        have c16b0:decide (0≤J)=true:=decide_eq_true χ
        clear χ
        by_cases σ:J<(B.length:Int)
        ·rw[if_pos σ] at H
         have c17b0:decide (J<(B.length:Int))=true:=decide_eq_true σ
         clear σ
         obtain⟨a8,ι⟩:∃ y_:List (S86),y_=(B.set (J:Int).toNat (⟨(Qn B L).f0,(Qn B L).f1⟩:S86)):=⟨_,rfl⟩
         replace H:(api_Inside_90.l0 k1 a8 O (wrap64 (J+1)) (wrap64 (L+1)))=some r:=by first|(rw[ι];with_reducible exact H)|(have am:=(Option.bind_some _ _).symm.trans H;rw[ι];with_reducible exact am)|(have am:=(Option.bind_some _ _).symm.trans H;with_reducible exact am)|with_reducible exact H|(rw[ι];exact H)|exact H
         have au:=Aside0.mk ι
         clear ι
         have H':=Aside0.mk H
         clear H
         have ag:0≤(L:Int):=of_decide_eq_true (by assumption)
         have ah:L<(B.length:Int):=of_decide_eq_true (by assumption)
         obtain⟨Y,ay,ζ,ρ⟩:=Y3 (Kd.Qy HO_0.out).2.2 L ag ah
         cases ay
         replace ag:=eq_true ag
         replace ah:=eq_true ah
         go_wp2_with (first|((with_reducible refine Qe (N:=7) rfl ?_);refine qE 7 #[.int .i64 0,.int .i64 0] 86 ?_;intro Z hg az hbox hb;have X:=Aside0.mk hbox;have τ :=Aside0.mk ((by rw[hg];exact(by first|exact HK.out.1|exact(show Kept w _ (fun k_=>γ k_) from by repeat(first|(with_reducible first|exact HK.out|apply Kept.alloc|apply Kept.drewN|apply Kept.drew)|exact HK.out)).1):w.heap.size≤Z));have b7:=Aside0.mk ((by rw[hg];exact(Qr HB.out):w0.heap.size≤Z));replace HO_0:=Aside0.mk (Kd.Z2 (Kd.Yk HO_0.out Z (Nat.le_of_eq hg.symm)) hb);replace HK:=Aside0.mk (Kept.below (S:=(fun k_=>γ k_)) (by repeat(first|(with_reducible first|exact HK.out|apply Kept.alloc|apply Kept.drewN|apply Kept.drew)|exact HK.out)) hb);replace HB:=sHb hb;clear hb hbox hg;obtain⟨bs,bu,bv,bw⟩:=qD2 X.out)|(go_at_call 92;((with_reducible refine(api_Inside_without_1.calls ((Qn B L).f0) ((Qn B L).f1) O false _ ea.out Ar_ nr_ cr_ gr_ gx_ zx_ (X0 HCR.out (by repeat(first|(with_reducible first|exact HK.out|apply Kept.alloc|apply Kept.drewN|apply Kept.drew|refine Kept.setCell ?_ (.inr τ.out) _)|exact HK.out)) HNR.out) (X0 HCX.out (by repeat(first|(with_reducible first|exact HK.out|apply Kept.alloc|apply Kept.drewN|apply Kept.drew|refine Kept.setCell ?_ (.inr τ.out) _)|exact HK.out)) HNX.out)).mono ?_);rintro e bg ⟨rfl,hb⟩;have ξ :=Aside0.mk (Kd.Z2 (by(with_reducible repeat first|apply Kd.Qw|apply Kd.Qv|apply Kd.Q1);exact(Kd.Qz (Kd.Qu (p:=⟨Z,1,none⟩) (Kd.Qu (p:=⟨Z,0,none⟩) (Kd.Qz HO_0.out (fun k_ hk=>(⟨hk,hk.2⟩:_∧k_≠Z))) (fun _ hk=>hk.2) (.int .i64 ((Qn B L).f0))) (fun _ hk=>hk.2) (.int .i64 ((Qn B L).f1))) (fun _ h_=>h_.1))) hb);have φ :=Aside0.mk (Qs (g:=Z) (o:=.cells #[.int .i64 ((Qn B L).f0),.int .i64 ((Qn B L).f1)] 86 (0,0)) (by(with_reducible repeat first|refine Qj ?_ _|refine Qd ?_|refine Qk ?_ _);refine Qm (cs:=#[.int .i64 ((Qn B L).f0),.int .i64 0]) ?_ 1 _ rfl;(with_reducible repeat first|refine Qj ?_ _|refine Qd ?_|refine Qk ?_ _);refine Qm (cs:=#[.int .i64 0,.int .i64 0]) ?_ 0 _ rfl;(with_reducible repeat first|refine Qj ?_ _|refine Qd ?_|refine Qk ?_ _);exact X.out) hb);have ω :=Aside0.mk (Kept.below (S:=(fun k_=>γ k_)) (by repeat(first|(with_reducible first|exact HK.out|apply Kept.alloc|apply Kept.drewN|apply Kept.drew|refine Kept.setCell ?_ (.inr τ.out) _)|exact HK.out)) hb);have a7:=Aside0.mk (Qx (by repeat(first|(with_reducible first|exact HB.out|apply Qo|apply Qi|apply Qf|refine Qp ?_ b7.out)|exact HB.out)) hb);clear HO_0;clear X;clear HK;clear HB;have HO_0:= ξ;have X:= φ;have HK:= ω;have HB:=a7;clear ξ φ ω a7;(try clear hb);(try clear a9);(try clear hk);(try clear hi);obtain⟨bf,cr,ct,cu⟩:=qD2 X.out;have aj:0≤(J:Int):=of_decide_eq_true (by first|(with_reducible assumption)|assumption);have av:(J:Int)<((B.length:Int):Int):=of_decide_eq_true (by first|(with_reducible assumption)|assumption);obtain⟨θ,cv,b1,b2,bo,cw,b3⟩:=Kd.Vt HO_0.out (by omega);(first|cases b1|(injection b1 with ea_ en_ ec_;(first|subst ea_|(injection ea_ with ea_;subst ea_));subst ec_;clear en_));have aw:=Aside0.mk b2;have cy:=Aside0.mk b3;clear b2 bo b3;have d7:=Aside0.mk (show(γ θ ∨ w.heap.size ≤ θ) from(HO_0.out.1 _ rfl).1);(first|simp only[add_plain] at ζ |skip);(first|simp only[add_plain] at ρ|skip);obtain⟨cz,b6,b4,ν,aa⟩:=Kd.Y4 HO_0.out z86 (J:Int) aj av;obtain rfl:=Jj b4;have bh:bg.cell? ⟨θ,(J:Int).toNat * 2,none⟩=some (.int .i64 ((Qn B J).f0)):= ν 0 _ rfl;have bi:bg.cell? ⟨θ,(J:Int).toNat * 2+1,none⟩=some (.int .i64 ((Qn B J).f1)):= ν 1 _ rfl;have cf:bg.frozen? ⟨θ,(J:Int).toNat * 2,none⟩=false:=aa 0;have ck:bg.frozen? ⟨θ,(J:Int).toNat * 2+1,none⟩=false:=aa 1;clear b6 ν aa b4;replace aj:=eq_true aj;replace av:=eq_true av;have bk:=Aside0.mk (show Kd.R k86 86 bg w0.heap.size (fun k_=>(γ k_∨w.heap.size≤k_)∧k_≠Z) (.slice (some ⟨θ,0,none⟩) B.length μ) B from(by(with_reducible repeat first|apply Kd.Qw|apply Kd.Qv|apply Kd.Q1);exact HO_0.out));obtain⟨da,b9,bl,a3,af⟩:=Kd.Y4 bk.out z86 (J:Int) (of_decide_eq_true (by first|(with_reducible assumption)|assumption)) (by have h_:(J:Int)<((B.length:Int):Int):=of_decide_eq_true (by first|(with_reducible assumption)|assumption);first|exact h_|(have e_:=(Kd.Qy HO_0.out).1;omega)|simpa using h_);obtain rfl:=Jj bl;have b5:=Kd.Wl bk.out (J:Int) (of_decide_eq_true (by first|(with_reducible assumption)|assumption)) (by have h_:(J:Int)<((B.length:Int):Int):=of_decide_eq_true (by first|(with_reducible assumption)|assumption);first|exact h_|(have e_:=(Kd.Qy HO_0.out).1;omega)|simpa using h_) (seg:=[.int .i64 ((Qn B L).f0),.int .i64 ((Qn B L).f1)]) (j:=0) b9 a3 (show 2≤2 from by decide) (x':=(⟨(Qn B L).f0,(Qn B L).f1⟩:S86)) (Vi _ _ _ (⟨(Qn B L).f0,(Qn B L).f1⟩:S86)) (fun _ hk=>hk);have bm:=a3 0 _ rfl;(try simp only[show(k86).sz=2 from rfl,Nat.mul_one,Nat.add_zero] at bm);have bn:=af 0;(try simp only[show(k86).sz=2 from rfl,Nat.mul_one,Nat.add_zero] at bn);have bp:=a3 1 _ rfl;(try simp only[show(k86).sz=2 from rfl,Nat.mul_one,Nat.add_zero] at bp);have bq:=af 1;(try simp only[show(k86).sz=2 from rfl,Nat.mul_one,Nat.add_zero] at bq);clear b9 a3 af bl))|((with_reducible refine Y0 (t:=86) (p:=33) rfl ?_);refine Yo (t:=86) (p:=33) (v:=?vo_w24) (w1:=((bg.setCell ⟨θ,(J:Int).toNat * 2,none⟩ (.int .i64 ((Qn B L).f0))).setCell ⟨θ,(J:Int).toNat * 2+1,none⟩ (.int .i64 ((Qn B L).f1)))) ?hg ?ho ?hn ?hr ?_;(case ho=>rfl);(case hg=>rfl);(case hn=>rfl);(case hr=>go_simp <;> rfl);intro ca hw;have hg:bg.grownBy ca (some θ):=(by rw[hw];exact b5.2);have hp_:Kd.R k86 86 ca w0.heap.size (fun k_=>(γ k_∨w.heap.size≤k_)∧k_≠Z) (.slice (some ⟨θ,0,none⟩) B.length μ) a8:=(by rw[hw,au.out];exact b5.1);clear b5;replace X:=Aside0.mk (Q3 (g:=Z) (o:=.cells #[.int .i64 ((Qn B L).f0),.int .i64 ((Qn B L).f1)] 86 (0,0)) X.out hg (Kd.U2 HO_0.out (fun _ hk=>hk.2)));replace HB:=Aside0.mk ((by rw[hw];exact Qp (Qp (HB.out) aw.out) aw.out:Below w0.heap.size w0 ca));replace HK:=Aside0.mk (Kept.K8 (S:=(fun k_=>γ k_)) hg (by repeat(first|(with_reducible first|exact HK.out|apply Kept.alloc|apply Kept.drewN|apply Kept.drew|refine Kept.setCell ?_ (.inr τ.out) _)|exact HK.out)) (fun k_ e_=>(HO_0.out.1 k_ e_).1));replace HO_0:=Aside0.mk hp_;clear hg hw hp_))
         (try simp only[← η])
         go_roundg k1
         case measure=>have:=an.out;omega
         case rel=>exact⟨(a8),(wrap64 (J+1)),(wrap64 (L+1)),rfl,rfl,H',⟨by have:=an.out;omega⟩,⟨by(try simp only[η]);(with_reducible repeat first|apply Kd.Qw|apply Kd.Qv|apply Kd.Q1);exact Kd.Qz HO_0.out (fun _ hk=>hk.1)⟩,⟨by repeat(first|(with_reducible first|exact HK.out|apply Kept.alloc|apply Kept.drewN|apply Kept.drew|refine Kept.setCell ?_ (.inr τ.out) _)|exact HK.out)⟩,HB⟩
        ·rw[if_neg σ] at H
         exact absurd H (by simp)
       ·rw[if_neg χ] at H
        exact absurd H (by simp)
     ·rw[if_neg c10] at H
      exact absurd H (by simp)
    ·rw[if_neg c9] at H
     have c9b0:decide (L<(B.length:Int))=false:=decide_eq_false c9
     clear c9
     by_cases ab:0≤J
     ·rw[if_pos ab] at H
      have c25b0:=eq_true ab
      have c25b1:decide (0≤J)=true:=decide_eq_true ab
      clear ab
      by_cases a6:J≤(B.length:Int)
      ·rw[if_pos a6] at H
       have c26b0:=eq_true a6
       have c26b1:decide (J≤(B.length:Int))=true:=decide_eq_true a6
       clear a6
       obtain⟨a2,ψ⟩:∃ y_:List (S86),y_=(B.drop (J:Int).toNat):=⟨_,rfl⟩
       replace H:(some (B.take (J:Int).toNat))=some r:=by first|(rw[ψ];with_reducible exact H)|(have am:=(Option.bind_some _ _).symm.trans H;rw[ψ];with_reducible exact am)|(have am:=(Option.bind_some _ _).symm.trans H;with_reducible exact am)|with_reducible exact H|(rw[ψ];exact H)|exact H
       have bb:=Aside0.mk ψ
       clear ψ
       have c27b0:=eq_true (of_decide_eq_true (by assumption):J≤(B.length:Int))
       obtain⟨b8,a0⟩:∃ y_:List (S86),y_=(B.take (J:Int).toNat):=⟨_,rfl⟩
       replace H:(some b8)=some r:=by first|(rw[a0];with_reducible exact H)|(have am:=(Option.bind_some _ _).symm.trans H;rw[a0];with_reducible exact am)|(have am:=(Option.bind_some _ _).symm.trans H;with_reducible exact am)|with_reducible exact H|(rw[a0];exact H)|exact H
       have ak:=Aside0.mk a0
       clear a0
       obtain rfl:=Option.some.inj H
       have br:(J:Int)≤((B.length:Int):Int):=of_decide_eq_true (by assumption)
       obtain⟨dc,bd,_,be,_⟩:=info_parts K9
       have hroom28:B.length ≤ μ :=(Kd.Qy HO_0.out).2.1
       have bz:Kd.C k86 _ ac B.length B:=(Kd.Qy HO_0.out).2.2
       have d0:(0:Int)≤(J:Int):=of_decide_eq_true (by assumption)
       have cb:=Mc (P:=Try.prog) 48 86 .i64 Try.underlying48 bd 2 be ac B.length μ J d0 br
       have ae:=Kd.Ek (m:=(J:Int).toNat) (c:= μ) bz (by omega) hroom28
       obtain⟨cx,ao⟩:∃ A1,A1=(if μ = (J:Int).toNat then ac else (ac:Option Addr).map (·.add ((J:Int).toNat * 2))):=⟨_,rfl⟩
       obtain⟨dj,ar⟩:∃ c1,c1 = μ - (J:Int).toNat:=⟨_,rfl⟩
       have ax:a2.length=B.length - (J:Int).toNat:=(by rw[bb.out,List.length_drop] <;> omega)
       rw[show(B).drop (J:Int).toNat=a2 from bb.out.symm] at ae
       replace ae:Kd.C k86 _ cx a2.length a2:=(by rw[ao];exact ae)
       rw[← ax,← ao,← ar] at cb
       have d8:=Aside0.mk ae
       have d9:=Aside0.mk (show a2.length≤dj from by rw[ax,ar];exact Nat.sub_le_sub_right hroom28 _)
       have d1:=Aside0.mk ar
       clear ae bz hroom28 bd be ar
       have d2:=Aside0.mk ax
       have d3:=Aside0.mk ao
       clear ax ao
       have d4:=Aside0.mk (show(J:Int).toNat≤B.length from by omega)
       replace br:=eq_true br
       have cd:(J:Int)≤((B.length:Int):Int):=of_decide_eq_true (by assumption)
       obtain⟨dd,bj,_,cn,_⟩:=info_parts K9
       have ce:=N7 (P:=Try.prog) 48 86 .i64 Try.underlying48 bj ac B.length μ J (of_decide_eq_true (by assumption)) cd (Kd.Qy HO_0.out).2.1
       have b0:=Kd.Eb (m:=(J:Int).toNat) HO_0.out (by omega)
       have cm:b8.length=(J:Int).toNat:=(by rw[ak.out,List.length_take];omega)
       rw[← ak.out] at b0
       rw[← cm] at b0 ce
       clear cm bj cn
       have a4:=Aside0.mk b0
       clear b0
       replace cd:=eq_true cd
       go_wp2_with (first|((with_reducible refine Xm (b:=.clear) (xs:=#[.tmp 38]) rfl ?_);refine Ux flatI (w:=w) (S:=fun k_=>γ k_) rfl (.tmp 38) 48 rfl Try.underlying48 (.agg #[.int .i64 0,.int .i64 0]) zeroI (by decide) rfl ac cx μ dj a2.length B HO_0.out (J:Int).toNat d4.out d3.out d2.out d1.out rfl HB.out HK.out (fun _ hk=>hk) b8 (ak.out) ?_;intro de co cp cq;have ξ :=Aside0.mk co;have φ :=Aside0.mk cp;have ω :=Aside0.mk cq;clear co cp cq HO_0 a4 HB HK;have a4:= ξ;have HB:= φ;have HK:= ω;clear ξ φ ω))
       go_ret
       exact⟨_,rfl,by(with_reducible repeat first|apply Kd.Qw|apply Kd.Qv|apply Kd.Q1);exact a4.out,HB.out,by repeat(first|(with_reducible first|exact HK.out|apply Kept.alloc|apply Kept.drewN|apply Kept.drew)|exact HK.out)⟩
      ·rw[if_neg a6] at H
       exact absurd H (by simp)
     ·rw[if_neg ab] at H
      exact absurd H (by simp)
end Go.Proofs.Ytmfffemidlhcpaa.C
