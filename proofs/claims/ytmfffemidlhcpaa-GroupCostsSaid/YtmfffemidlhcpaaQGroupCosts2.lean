/- Texts of this claim, one behind the other: what the law's functions come to, walked (printed by a program, with the words that the print uses), and what that is, in plain Lean. No conditions of their own. -/
import Derived.Test.YtmfffemidlhcpaaQGroupCosts1
import Derived.Test.YtmfffemidlhcpaaProg
namespace Go.Proofs.YtmfffemidlhcpaaW.PrintWords
open Go.RowKit Go.Proofs.YtmfffemidlhcpaaW.PrintLast Go.Proofs.YtmfffemidlhcpaaW.PrintMore
def qB (n m:Nat):Array Bool:=((List.range n).map fun i=>m.testBit i).toArray
theorem qP {P:Program} {ops:Array Oper} {Q:Exit→Act→World→Prop} {md:Region.Mode} {S:World→Prop} {ds:List Nat} {oi:Oper} {v:Value} {fuel:Nat} {l:Array Bool} {a:Act} {w:World} {T:Bool×List (List Nat×List Nat)} (i:Nat) (N:Option Tmp) (l':Array Bool) (ht:Aside0 (rtab md ops=T)) {a':Act} (h:Q1 P md ops Q S ds fuel l' a' w) (hi:ops[i]?=some oi:=by rfl) (hN:oi.dst=N:=by rfl) (hc:Ea T l.toList l'.toList i=true:=by kernel_rfl) (hQ:∀ c a w,Q (.panic c) (a.put oi.dst v) w→Q (.panic c) a w:=by exact(fun _ _ _ h=>h)) (hy:Yields P ops oi v a:=by(refine Or.inl ⟨by rfl, ?_⟩;intro w';go_simp;with_reducible rfl)) (ha:a.put N v=a':=by(simp only[Act.put,qS,Za,Zb];rfl)):Q1 P md ops Q S ds (fuel+1) l a w:=X0 l' hi hN (M0 ht.out hc) hQ hy ha h
theorem qU {P:Program} {ops:Array Oper} {Q:Exit→Act→World→Prop} {md:Region.Mode} {S:World→Prop} {ds:List Nat} {oi:Oper} {fuel:Nat} {l:Array Bool} {a:Act} {w:World} {T:Bool×List (List Nat×List Nat)} (i:Nat) (N:Option Tmp) (l':Array Bool) (ht:Aside0 (rtab md ops=T)) {a':Act} (h:Q1 P md ops Q S ds fuel l' a' w) (hi:ops[i]?=some oi:=by rfl) (hN:oi.dst=N:=by rfl) (hc:Ea T l.toList l'.toList i=true:=by kernel_rfl) (hQ:∀ c a w,Q (.panic c) (a.put oi.dst undef) w→Q (.panic c) a w:=by exact(fun _ _ _ h=>h)) (hy:Yields P ops oi undef a:=by exact(Or.inr ⟨by rfl,rfl⟩)) (ha:a.put N undef=a':=by(simp only[Act.put,qS,Za,Zb];rfl)):Q1 P md ops Q S ds (fuel+1) l a w:=X0 l' hi hN (M0 ht.out hc) hQ hy ha h
theorem qT {P:Program} {ops:Array Oper} {Q:Exit→Act→World→Prop} {md:Region.Mode} {S:World→Prop} {ds:List Nat} {oi:Oper} {v:Value} {fuel:Nat} {l:Array Bool} {a:Act} {w:World} {T:Bool×List (List Nat×List Nat)} {B:List Nat} (i:Nat) (N:Option Tmp) (l':Array Bool) (ht:Aside0 (rtab md ops=T)) (hW:Aside0 (Zr T.snd B=true)) (hS:S w) {a':Act} (h:Q1 P md ops Q S ds fuel l' a' w) (hi:ops[i]?=some oi:=by rfl) (hN:oi.dst=N:=by rfl) (hc:L8 T B ds l.toList l'.toList i=true:=by kernel_rfl) (hQ:∀ c a w,Q (.panic c) (a.put oi.dst v) w→Q (.panic c) a w:=by exact(fun _ _ _ h=>h)) (hy:YieldsIf P ops S oi v a:=by(refine Or.inl ⟨by rfl, ?_⟩;intro w' hs_;(repeat obtain⟨_,hs_⟩:=(hs_:_∧_));go_simp;with_reducible rfl)) (ha:a.put N v=a':=by(simp only[Act.put,qS,Za,Zb];rfl)):Q1 P md ops Q S ds (fuel+1) l a w:=Jb l' hi hN (L6 ht.out hW.out hc) hQ hy hS ha h
theorem qN {P:Program} {ops:Array Oper} {Q:Exit→Act→World→Prop} {md:Region.Mode} {S:World→Prop} {ds:List Nat} {v:Value} {fuel:Nat} {l:Array Bool} {a:Act} {w:World} (N:Option Tmp) {a':Act} (h:Q1 P md ops Q S ds fuel l a' w) (ha:a.put N v=a':=by(simp only[Act.put,qS,Za,Zb];rfl)):Q1 P md ops Q S ds fuel l (a.put N v) w:=Zs ha h
theorem qc {w:World} {g i:Nat} {t:TypeId} {cs:Array Value} {v:Value} (b:Aside0 (w.heap[g]?=some (.cells cs t (0,0)))) (h:cs[i]?=some v:=by exact rfl):w.cell? ⟨g,i,none⟩=some v:=(Qa b.out i).trans h
theorem qM {p:Prop} (h:p:=by((try simp only[List.map_toArray,List.map_cons,List.map_nil]) <;> (first|done|rfl))):p:=h
theorem qE {P:Program} {ops:Array Oper} {Q:Exit→Act→World→Prop} {o:Oper} {rest:List Oper} {a:Act} {W:World} (N:Tmp) (cs:Array Value) (t:TypeId) (h:∀ g,g=W.heap.size → ∀ w1,w1.heap[g]?=some (.cells cs t (0,0))→Below W.heap.size W w1→wpList P ops Q rest (a.put o.dst (.pointer (some ⟨g,0,none⟩))) w1) (hd:o.dst=some N:=by rfl) (hg:o.guard=none:=by rfl) (hr:(execOp a.eval o).run P W = .ok (.value (.pointer (some ⟨W.heap.size,0,none⟩))) (W.alloc (.cells cs t (0,0))):=by(go_simp <;> rfl)):wpList P ops Q (o :: rest) a W:=Zj hg (N:=N) hd (cs:=cs) (t:=t) hr h
theorem qD1 {w:World} {g:Nat} {t:TypeId} {B:Value} (b:w.heap[g]?=some (.cells #[B] t (0,0))):w.cell? ⟨g,0,none⟩=some B∧w.frozen? ⟨g,0,none⟩=false:=⟨(Qa b 0).trans rfl,Qr b 0⟩
theorem qD2 {w:World} {g:Nat} {t:TypeId} {B O:Value} (b:w.heap[g]?=some (.cells #[B,O] t (0,0))):w.cell? ⟨g,0,none⟩=some B∧w.cell? ⟨g,1,none⟩=some O∧w.frozen? ⟨g,0,none⟩=false∧w.frozen? ⟨g,1,none⟩=false:=⟨(Qa b 0).trans rfl,(Qa b 1).trans rfl,Qr b 0,Qr b 1⟩
theorem qD3 {w:World} {g:Nat} {t:TypeId} {B O a2:Value} (b:w.heap[g]?=some (.cells #[B,O,a2] t (0,0))):w.cell? ⟨g,0,none⟩=some B∧w.cell? ⟨g,1,none⟩=some O∧w.cell? ⟨g,2,none⟩=some a2∧w.frozen? ⟨g,0,none⟩=false∧w.frozen? ⟨g,1,none⟩=false∧w.frozen? ⟨g,2,none⟩=false:=⟨(Qa b 0).trans rfl,(Qa b 1).trans rfl,(Qa b 2).trans rfl,Qr b 0,Qr b 1,Qr b 2⟩
theorem qD6 {w:World} {g:Nat} {t:TypeId} {B O a2 a3 L a5:Value} (b:w.heap[g]?=some (.cells #[B,O,a2,a3,L,a5] t (0,0))):w.cell? ⟨g,0,none⟩=some B∧w.cell? ⟨g,1,none⟩=some O∧w.cell? ⟨g,2,none⟩=some a2∧w.cell? ⟨g,3,none⟩=some a3∧w.cell? ⟨g,4,none⟩=some L∧w.cell? ⟨g,5,none⟩=some a5∧w.frozen? ⟨g,0,none⟩=false∧w.frozen? ⟨g,1,none⟩=false∧w.frozen? ⟨g,2,none⟩=false∧w.frozen? ⟨g,3,none⟩=false∧w.frozen? ⟨g,4,none⟩=false∧w.frozen? ⟨g,5,none⟩=false:=⟨(Qa b 0).trans rfl,(Qa b 1).trans rfl,(Qa b 2).trans rfl,(Qa b 3).trans rfl,(Qa b 4).trans rfl,(Qa b 5).trans rfl,Qr b 0,Qr b 1,Qr b 2,Qr b 3,Qr b 4,Qr b 5⟩
theorem qD7 {w:World} {g:Nat} {t:TypeId} {B O a2 a3 L a5 X:Value} (b:w.heap[g]?=some (.cells #[B,O,a2,a3,L,a5,X] t (0,0))):w.cell? ⟨g,0,none⟩=some B∧w.cell? ⟨g,1,none⟩=some O∧w.cell? ⟨g,2,none⟩=some a2∧w.cell? ⟨g,3,none⟩=some a3∧w.cell? ⟨g,4,none⟩=some L∧w.cell? ⟨g,5,none⟩=some a5∧w.cell? ⟨g,6,none⟩=some X∧w.frozen? ⟨g,0,none⟩=false∧w.frozen? ⟨g,1,none⟩=false∧w.frozen? ⟨g,2,none⟩=false∧w.frozen? ⟨g,3,none⟩=false∧w.frozen? ⟨g,4,none⟩=false∧w.frozen? ⟨g,5,none⟩=false∧w.frozen? ⟨g,6,none⟩=false:=⟨(Qa b 0).trans rfl,(Qa b 1).trans rfl,(Qa b 2).trans rfl,(Qa b 3).trans rfl,(Qa b 4).trans rfl,(Qa b 5).trans rfl,(Qa b 6).trans rfl,Qr b 0,Qr b 1,Qr b 2,Qr b 3,Qr b 4,Qr b 5,Qr b 6⟩
theorem qD8 {w:World} {g:Nat} {t:TypeId} {B O a2 a3 L a5 X a7:Value} (b:w.heap[g]?=some (.cells #[B,O,a2,a3,L,a5,X,a7] t (0,0))):w.cell? ⟨g,0,none⟩=some B∧w.cell? ⟨g,1,none⟩=some O∧w.cell? ⟨g,2,none⟩=some a2∧w.cell? ⟨g,3,none⟩=some a3∧w.cell? ⟨g,4,none⟩=some L∧w.cell? ⟨g,5,none⟩=some a5∧w.cell? ⟨g,6,none⟩=some X∧w.cell? ⟨g,7,none⟩=some a7∧w.frozen? ⟨g,0,none⟩=false∧w.frozen? ⟨g,1,none⟩=false∧w.frozen? ⟨g,2,none⟩=false∧w.frozen? ⟨g,3,none⟩=false∧w.frozen? ⟨g,4,none⟩=false∧w.frozen? ⟨g,5,none⟩=false∧w.frozen? ⟨g,6,none⟩=false∧w.frozen? ⟨g,7,none⟩=false:=⟨(Qa b 0).trans rfl,(Qa b 1).trans rfl,(Qa b 2).trans rfl,(Qa b 3).trans rfl,(Qa b 4).trans rfl,(Qa b 5).trans rfl,(Qa b 6).trans rfl,(Qa b 7).trans rfl,Qr b 0,Qr b 1,Qr b 2,Qr b 3,Qr b 4,Qr b 5,Qr b 6,Qr b 7⟩
theorem Q5 {w:World} {g:Nat} {t:TypeId} {B O a2 a3 L a5 X a7 a8 a9:Value} (b:w.heap[g]?=some (.cells #[B,O,a2,a3,L,a5,X,a7,a8,a9] t (0,0))):w.cell? ⟨g,0,none⟩=some B∧w.cell? ⟨g,1,none⟩=some O∧w.cell? ⟨g,2,none⟩=some a2∧w.cell? ⟨g,3,none⟩=some a3∧w.cell? ⟨g,4,none⟩=some L∧w.cell? ⟨g,5,none⟩=some a5∧w.cell? ⟨g,6,none⟩=some X∧w.cell? ⟨g,7,none⟩=some a7∧w.cell? ⟨g,8,none⟩=some a8∧w.cell? ⟨g,9,none⟩=some a9∧w.frozen? ⟨g,0,none⟩=false∧w.frozen? ⟨g,1,none⟩=false∧w.frozen? ⟨g,2,none⟩=false∧w.frozen? ⟨g,3,none⟩=false∧w.frozen? ⟨g,4,none⟩=false∧w.frozen? ⟨g,5,none⟩=false∧w.frozen? ⟨g,6,none⟩=false∧w.frozen? ⟨g,7,none⟩=false∧w.frozen? ⟨g,8,none⟩=false∧w.frozen? ⟨g,9,none⟩=false:=⟨(Qa b 0).trans rfl,(Qa b 1).trans rfl,(Qa b 2).trans rfl,(Qa b 3).trans rfl,(Qa b 4).trans rfl,(Qa b 5).trans rfl,(Qa b 6).trans rfl,(Qa b 7).trans rfl,(Qa b 8).trans rfl,(Qa b 9).trans rfl,Qr b 0,Qr b 1,Qr b 2,Qr b 3,Qr b 4,Qr b 5,Qr b 6,Qr b 7,Qr b 8,Qr b 9⟩
end Go.Proofs.YtmfffemidlhcpaaW.PrintWords
namespace Go.Proofs.Ytmfffemidlhcpaa.C
open Go.RowKit Go.Proofs.YtmfffemidlhcpaaW.PrintWords Go.Proofs.YtmfffemidlhcpaaW.PrintLast Go.Proofs.YtmfffemidlhcpaaW.PrintMore
attribute [local go_sem] Zz Zx Z9 Z8 Zq Zp Zy Zw
set_option linter.unusedVariables false
set_option linter.unusedSimpArgs false
def Ms:Option Int→Value
 |none=>.nilIface
 |some c=>.iface 0 (.int .i64 c)
theorem Qh:Ms none = .nilIface:=rfl
theorem Qg (c:Int):Ms (some c) = .iface 0 (.int .i64 c):=rfl
theorem Wq:(Try.prog.info? 3).map (fun i=>(i.zero,i.size,i.bytes))=some (some (.int .i64 0),1,8):=by kernel_rfl
theorem Gh:(Try.prog.info? 36).map (fun i=>(i.zero,i.size,i.bytes))=some (some (.agg #[(.int .i64 0),(.int .i64 0),(.int .i64 0)]),3,24):=by kernel_rfl
theorem Gg:(Try.prog.info? 86).map (fun i=>(i.zero,i.size,i.bytes))=some (some (.agg #[(.int .i64 0),(.int .i64 0)]),2,16):=by kernel_rfl
structure S27 where
 f0:Int
 f1:Int
 f2:Int
def z27:S27:=⟨(0:Int),(0:Int),(0:Int)⟩
def k27:Kd S27:=Kd.iso (Kd.pair (Kd.int .i64) (Kd.pair (Kd.int .i64) (Kd.int .i64))) (fun x:S27=>(x.f0,x.f1,x.f2))
theorem Mn {w:World} {x:S27} {cs:List Value} (h:k27.K w x cs):cs = [.int .i64 x.f0,.int .i64 x.f1,.int .i64 x.f2]:=by
 obtain⟨_,_,rfl,rfl,⟨_,_,rfl,rfl,rfl⟩⟩:=h
 exact rfl
theorem N0 (w:World) (base:Nat) (ok:Nat→Prop) (x:S27):k27.M w base ok x [.int .i64 x.f0,.int .i64 x.f1,.int .i64 x.f2]:=⟨[.int .i64 x.f0],[.int .i64 x.f1,.int .i64 x.f2],rfl,rfl,⟨[.int .i64 x.f1],[.int .i64 x.f2],rfl,rfl,rfl⟩⟩
def Yv (xs:List (List Int)) (i:Int):(List Int):=xs.getD i.toNat ([]:List Int)
theorem En {w:World} {A:Option Addr} {n:Nat} {xs:List (List Int)} (h:Kd.C (Kd.slice 3 (Kd.int .i64)) w A n xs) (i:Int) (X:0≤i) (h1:i<n):∃ ad Z c0,A=some ad∧w.cell? (ad.add i.toNat)=some (.slice Z (Yv xs i).length c0)∧(Yv xs i).length≤c0∧(Kd.int .i64).C w Z (Yv xs i).length (Yv xs i):=by
 obtain⟨ad,c,e,_,hK,γ⟩:=Kd.Vd h ([]:List Int) i X h1
 have hc:∀ j u,c[j]?=some u→w.cell? (ad.add (i.toNat * 1+j))=some u:=γ
 obtain⟨Z,c0,rfl,l0,g0⟩:=hK
 exact⟨ad,Z,c0,e,by have hq:=hc 0 _ rfl;rwa[Nat.mul_one,Nat.add_zero] at hq,l0,g0⟩
structure S36 where
 f0:Int
 f1:Int
 f2:Int
def z36:S36:=⟨(0:Int),(0:Int),(0:Int)⟩
def k36:Kd S36:=Kd.iso (Kd.pair (Kd.int .i64) (Kd.pair (Kd.int .i64) (Kd.int .i64))) (fun x:S36=>(x.f0,x.f1,x.f2))
theorem Kf {w:World} {x:S36} {cs:List Value} (h:k36.K w x cs):cs = [.int .i64 x.f0,.int .i64 x.f1,.int .i64 x.f2]:=by
 obtain⟨_,_,rfl,rfl,⟨_,_,rfl,rfl,rfl⟩⟩:=h
 exact rfl
theorem Yb {w:World} {base:Nat} {ok:Nat→Prop} {x:S36} {cs:List Value} (h:k36.M w base ok x cs):cs = [.int .i64 x.f0,.int .i64 x.f1,.int .i64 x.f2]:=by
 obtain⟨_,_,rfl,rfl,⟨_,_,rfl,rfl,rfl⟩⟩:=h
 exact rfl
theorem Kg (w:World) (base:Nat) (ok:Nat→Prop) (x:S36):k36.M w base ok x [.int .i64 x.f0,.int .i64 x.f1,.int .i64 x.f2]:=⟨[.int .i64 x.f0],[.int .i64 x.f1,.int .i64 x.f2],rfl,rfl,⟨[.int .i64 x.f1],[.int .i64 x.f2],rfl,rfl,rfl⟩⟩
def Qc (xs:List S36) (i:Int):S36:=xs.getD i.toNat z36
theorem Xy {w:World} {A:Option Addr} {n:Nat} {xs:List S36} (h:Kd.C k36 w A n xs) (i:Int) (X:0≤i) (h1:i<n):∃ ad,A=some ad∧w.cell? (ad.add (i.toNat * 3))=some (.int .i64 (Qc xs i).f0)∧w.cell? ⟨(ad.add (i.toNat * 3)).block,(ad.add (i.toNat * 3)).off+1,none⟩=some (.int .i64 (Qc xs i).f1)∧w.cell? ⟨(ad.add (i.toNat * 3)).block,(ad.add (i.toNat * 3)).off+2,none⟩=some (.int .i64 (Qc xs i).f2):=by
 obtain⟨ad,c,e,_,hK,γ⟩:=Kd.Vd h z36 i X h1
 have hc:∀ j u,c[j]?=some u→w.cell? (ad.add (i.toNat * 3+j))=some u:=γ
 obtain rfl:=Kf hK
 exact⟨ad,e,hc 0 _ rfl,by rw[← Z0 _ _ 1 (by omega)];exact hc 1 _ rfl,by rw[← Z0 _ _ 2 (by omega)];exact hc 2 _ rfl⟩
structure S86 where
 f0:Int
 f1:Int
def z86:S86:=⟨(0:Int),(0:Int)⟩
def k86:Kd S86:=Kd.iso (Kd.pair (Kd.int .i64) (Kd.int .i64)) (fun x:S86=>(x.f0,x.f1))
theorem Ke {w:World} {x:S86} {cs:List Value} (h:k86.K w x cs):cs = [.int .i64 x.f0,.int .i64 x.f1]:=by
 obtain⟨_,_,rfl,rfl,rfl⟩:=h
 exact rfl
theorem Js {w:World} {base:Nat} {ok:Nat→Prop} {x:S86} {cs:List Value} (h:k86.M w base ok x cs):cs = [.int .i64 x.f0,.int .i64 x.f1]:=by
 obtain⟨_,_,rfl,rfl,rfl⟩:=h
 exact rfl
theorem Mj (w:World) (x:S86):k86.K w x [.int .i64 x.f0,.int .i64 x.f1]:=⟨[.int .i64 x.f0],[.int .i64 x.f1],rfl,rfl,rfl⟩
theorem Vn (w:World) (base:Nat) (ok:Nat→Prop) (x:S86):k86.M w base ok x [.int .i64 x.f0,.int .i64 x.f1]:=⟨[.int .i64 x.f0],[.int .i64 x.f1],rfl,rfl,rfl⟩
def Qo (xs:List S86) (i:Int):S86:=xs.getD i.toNat z86
theorem Y9 {w:World} {A:Option Addr} {n:Nat} {xs:List S86} (h:Kd.C k86 w A n xs) (i:Int) (X:0≤i) (h1:i<n):∃ ad,A=some ad∧w.cell? (ad.add (i.toNat * 2))=some (.int .i64 (Qo xs i).f0)∧w.cell? ⟨(ad.add (i.toNat * 2)).block,(ad.add (i.toNat * 2)).off+1,none⟩=some (.int .i64 (Qo xs i).f1):=by
 obtain⟨ad,c,e,_,hK,γ⟩:=Kd.Vd h z86 i X h1
 have hc:∀ j u,c[j]?=some u→w.cell? (ad.add (i.toNat * 2+j))=some u:=γ
 obtain rfl:=Ke hK
 exact⟨ad,e,hc 0 _ rfl,by rw[← Z0 _ _ 1 (by omega)];exact hc 1 _ rfl⟩
structure S29 where
 f0:Int
 f1:Int
 f2:Int
 f3:Int
 f4:S27
def z29:S29:=⟨(0:Int),(0:Int),(0:Int),(0:Int),z27⟩
def k29:Kd S29:=Kd.iso (Kd.pair (Kd.int .i64) (Kd.pair (Kd.int .i64) (Kd.pair (Kd.int .i64) (Kd.pair (Kd.int .i64) k27)))) (fun x:S29=>(x.f0,x.f1,x.f2,x.f3,x.f4))
theorem Mm {w:World} {x:S29} {cs:List Value} (h:k29.K w x cs):cs = [.int .i64 x.f0,.int .i64 x.f1,.int .i64 x.f2,.int .i64 x.f3,.int .i64 x.f4.f0,.int .i64 x.f4.f1,.int .i64 x.f4.f2]:=by
 obtain⟨_,_,rfl,rfl,⟨_,_,rfl,rfl,⟨_,_,rfl,rfl,⟨_,_,rfl,rfl,s4⟩⟩⟩⟩:=h
 obtain rfl:=Mn s4
 exact rfl
theorem Nz (w:World) (base:Nat) (ok:Nat→Prop) (x:S29):k29.M w base ok x [.int .i64 x.f0,.int .i64 x.f1,.int .i64 x.f2,.int .i64 x.f3,.int .i64 x.f4.f0,.int .i64 x.f4.f1,.int .i64 x.f4.f2]:=⟨[.int .i64 x.f0],[.int .i64 x.f1,.int .i64 x.f2,.int .i64 x.f3,.int .i64 x.f4.f0,.int .i64 x.f4.f1,.int .i64 x.f4.f2],rfl,rfl,⟨[.int .i64 x.f1],[.int .i64 x.f2,.int .i64 x.f3,.int .i64 x.f4.f0,.int .i64 x.f4.f1,.int .i64 x.f4.f2],rfl,rfl,⟨[.int .i64 x.f2],[.int .i64 x.f3,.int .i64 x.f4.f0,.int .i64 x.f4.f1,.int .i64 x.f4.f2],rfl,rfl,⟨[.int .i64 x.f3],[.int .i64 x.f4.f0,.int .i64 x.f4.f1,.int .i64 x.f4.f2],rfl,rfl,(N0 w base ok x.f4)⟩⟩⟩⟩
structure S31 where
 f0:S29
 f1:Int
 f2:Bool
 f3:Bool
def z31:S31:=⟨z29,(0:Int),false,false⟩
def k31:Kd S31:=Kd.iso (Kd.pair k29 (Kd.pair (Kd.int .i64) (Kd.pair Kd.bool Kd.bool))) (fun x:S31=>(x.f0,x.f1,x.f2,x.f3))
theorem Uq {w:World} {x:S31} {cs:List Value} (h:k31.K w x cs):cs = [.int .i64 x.f0.f0,.int .i64 x.f0.f1,.int .i64 x.f0.f2,.int .i64 x.f0.f3,.int .i64 x.f0.f4.f0,.int .i64 x.f0.f4.f1,.int .i64 x.f0.f4.f2,.int .i64 x.f1,.bool x.f2,.bool x.f3]:=by
 obtain⟨_,_,rfl,s0,⟨_,_,rfl,rfl,⟨_,_,rfl,rfl,rfl⟩⟩⟩:=h
 obtain rfl:=Mm s0
 exact rfl
theorem Wp (w:World) (base:Nat) (ok:Nat→Prop) (x:S31):k31.M w base ok x [.int .i64 x.f0.f0,.int .i64 x.f0.f1,.int .i64 x.f0.f2,.int .i64 x.f0.f3,.int .i64 x.f0.f4.f0,.int .i64 x.f0.f4.f1,.int .i64 x.f0.f4.f2,.int .i64 x.f1,.bool x.f2,.bool x.f3]:=⟨[.int .i64 x.f0.f0,.int .i64 x.f0.f1,.int .i64 x.f0.f2,.int .i64 x.f0.f3,.int .i64 x.f0.f4.f0,.int .i64 x.f0.f4.f1,.int .i64 x.f0.f4.f2],[.int .i64 x.f1,.bool x.f2,.bool x.f3],rfl,(Nz w base ok x.f0),⟨[.int .i64 x.f1],[.bool x.f2,.bool x.f3],rfl,rfl,⟨[.bool x.f2],[.bool x.f3],rfl,rfl,rfl⟩⟩⟩
def Qb (xs:List S31) (i:Int):S31:=xs.getD i.toNat z31
theorem Gq {w:World} {A:Option Addr} {n:Nat} {xs:List S31} (h:Kd.C k31 w A n xs) (i:Int) (X:0≤i) (h1:i<n):∃ ad,A=some ad∧w.cell? (ad.add (i.toNat * 10))=some (.int .i64 (Qb xs i).f0.f0)∧w.cell? ⟨(ad.add (i.toNat * 10)).block,(ad.add (i.toNat * 10)).off+1,none⟩=some (.int .i64 (Qb xs i).f0.f1)∧w.cell? ⟨(ad.add (i.toNat * 10)).block,(ad.add (i.toNat * 10)).off+2,none⟩=some (.int .i64 (Qb xs i).f0.f2)∧w.cell? ⟨(ad.add (i.toNat * 10)).block,(ad.add (i.toNat * 10)).off+3,none⟩=some (.int .i64 (Qb xs i).f0.f3)∧w.cell? ⟨(ad.add (i.toNat * 10)).block,(ad.add (i.toNat * 10)).off+4,none⟩=some (.int .i64 (Qb xs i).f0.f4.f0)∧w.cell? ⟨(ad.add (i.toNat * 10)).block,(ad.add (i.toNat * 10)).off+5,none⟩=some (.int .i64 (Qb xs i).f0.f4.f1)∧w.cell? ⟨(ad.add (i.toNat * 10)).block,(ad.add (i.toNat * 10)).off+6,none⟩=some (.int .i64 (Qb xs i).f0.f4.f2)∧w.cell? ⟨(ad.add (i.toNat * 10)).block,(ad.add (i.toNat * 10)).off+7,none⟩=some (.int .i64 (Qb xs i).f1)∧w.cell? ⟨(ad.add (i.toNat * 10)).block,(ad.add (i.toNat * 10)).off+8,none⟩=some (.bool (Qb xs i).f2)∧w.cell? ⟨(ad.add (i.toNat * 10)).block,(ad.add (i.toNat * 10)).off+9,none⟩=some (.bool (Qb xs i).f3):=by
 obtain⟨ad,c,e,_,hK,γ⟩:=Kd.Vd h z31 i X h1
 have hc:∀ j u,c[j]?=some u→w.cell? (ad.add (i.toNat * 10+j))=some u:=γ
 obtain rfl:=Uq hK
 exact⟨ad,e,hc 0 _ rfl,by rw[← Z0 _ _ 1 (by omega)];exact hc 1 _ rfl,by rw[← Z0 _ _ 2 (by omega)];exact hc 2 _ rfl,by rw[← Z0 _ _ 3 (by omega)];exact hc 3 _ rfl,by rw[← Z0 _ _ 4 (by omega)];exact hc 4 _ rfl,by rw[← Z0 _ _ 5 (by omega)];exact hc 5 _ rfl,by rw[← Z0 _ _ 6 (by omega)];exact hc 6 _ rfl,by rw[← Z0 _ _ 7 (by omega)];exact hc 7 _ rfl,by rw[← Z0 _ _ 8 (by omega)];exact hc 8 _ rfl,by rw[← Z0 _ _ 9 (by omega)];exact hc 9 _ rfl⟩
structure S23 where
 f0:Int
 f1:Int
 f2:Int
 f3:Int
 f4:Int
 f5:Int
 f6:Int
def k23:Kd S23:=Kd.iso (Kd.pair (Kd.int .i64) (Kd.pair (Kd.int .i64) (Kd.pair (Kd.int .i64) (Kd.pair (Kd.int .i64) (Kd.pair (Kd.int .i64) (Kd.pair (Kd.int .i64) (Kd.int .i64))))))) (fun x:S23=>(x.f0,x.f1,x.f2,x.f3,x.f4,x.f5,x.f6))
theorem Mp {w:World} {x:S23} {cs:List Value} (h:k23.K w x cs):cs = [.int .i64 x.f0,.int .i64 x.f1,.int .i64 x.f2,.int .i64 x.f3,.int .i64 x.f4,.int .i64 x.f5,.int .i64 x.f6]:=by
 obtain⟨_,_,rfl,rfl,⟨_,_,rfl,rfl,⟨_,_,rfl,rfl,⟨_,_,rfl,rfl,⟨_,_,rfl,rfl,⟨_,_,rfl,rfl,rfl⟩⟩⟩⟩⟩⟩:=h
 exact rfl
structure S25 where
 f0:Int
 f1:S23
 f2:Int
 f3:Int
def k25:Kd S25:=Kd.iso (Kd.pair (Kd.int .i64) (Kd.pair k23 (Kd.pair (Kd.int .i64) (Kd.int .i64)))) (fun x:S25=>(x.f0,x.f1,x.f2,x.f3))
theorem Mo {w:World} {x:S25} {cs:List Value} (h:k25.K w x cs):cs = [.int .i64 x.f0,.int .i64 x.f1.f0,.int .i64 x.f1.f1,.int .i64 x.f1.f2,.int .i64 x.f1.f3,.int .i64 x.f1.f4,.int .i64 x.f1.f5,.int .i64 x.f1.f6,.int .i64 x.f2,.int .i64 x.f3]:=by
 obtain⟨_,_,rfl,rfl,⟨_,_,rfl,s1,⟨_,_,rfl,rfl,rfl⟩⟩⟩:=h
 obtain rfl:=Mp s1
 exact rfl
structure S34 where
 f0:(List Int)
 f1:(List Int)
 f2:(List Int)
def k34:Kd S34:=Kd.iso (Kd.pair (Kd.slice 3 (Kd.int .i64)) (Kd.pair (Kd.slice 3 (Kd.int .i64)) (Kd.slice 3 (Kd.int .i64)))) (fun x:S34=>(x.f0,x.f1,x.f2))
theorem Ml {w:World} {x:S34} {cs:List Value} (h:k34.K w x cs):∃ Z c0 A1 c1 A2 c2,cs = [.slice Z x.f0.length c0,.slice A1 x.f1.length c1,.slice A2 x.f2.length c2]∧x.f0.length≤c0∧(Kd.int .i64).C w Z x.f0.length x.f0∧x.f1.length≤c1∧(Kd.int .i64).C w A1 x.f1.length x.f1∧x.f2.length≤c2∧(Kd.int .i64).C w A2 x.f2.length x.f2:=by
 obtain⟨_,_,rfl,⟨Z,c0,rfl,l0,g0⟩,⟨_,_,rfl,⟨A1,c1,rfl,l1,g1⟩,⟨A2,c2,rfl,l2,g2⟩⟩⟩:=h
 exact⟨Z,c0,A1,c1,A2,c2,rfl,l0,g0,l1,g1,l2,g2⟩
structure S38 where
 f0:S34
 f1:S36
def k38:Kd S38:=Kd.iso (Kd.pair k34 k36) (fun x:S38=>(x.f0,x.f1))
theorem Mk {w:World} {x:S38} {cs:List Value} (h:k38.K w x cs):∃ Z c0 A1 c1 A2 c2,cs = [.slice Z x.f0.f0.length c0,.slice A1 x.f0.f1.length c1,.slice A2 x.f0.f2.length c2,.int .i64 x.f1.f0,.int .i64 x.f1.f1,.int .i64 x.f1.f2]∧x.f0.f0.length≤c0∧(Kd.int .i64).C w Z x.f0.f0.length x.f0.f0∧x.f0.f1.length≤c1∧(Kd.int .i64).C w A1 x.f0.f1.length x.f0.f1∧x.f0.f2.length≤c2∧(Kd.int .i64).C w A2 x.f0.f2.length x.f0.f2:=by
 obtain⟨_,_,rfl,s0,s3⟩:=h
 obtain⟨Z,c0,A1,c1,A2,c2,rfl,l0,g0,l1,g1,l2,g2⟩:=Ml s0
 obtain rfl:=Kf s3
 exact⟨Z,c0,A1,c1,A2,c2,rfl,l0,g0,l1,g1,l2,g2⟩
def door_within.f (B:Int) (O:Int) (a2:Int):Option (Bool):=if O≤B then (some (decide (B≤a2))) else (some false)
set_option maxHeartbeats 8000000 in
set_option maxRecDepth 100000 in
theorem door_within.calls (B:Int) (O:Int) (a2:Int) (r:Bool) (w:World) (h:door_within.f B O a2=some r):
  Calls Try.prog 86 #[.int .i64 B,.int .i64 O,.int .i64 a2] w fun e w'=>e = .returned (.bool r)∧Drawn0 w w':=by
 have H:(if O≤B then (some (decide (B≤a2))) else (some false))=some r:=h
 clear h
 by_cases c4:O≤B
 ·rw[if_pos c4] at H
  have c4b0:decide (O≤B)=true:=decide_eq_true c4
  clear c4
  obtain rfl:=Option.some.inj H
  go_enter Try.func86,Try.ntmps86
  go_wp2
  go_ret
  exact⟨qR,by repeat(first|exact Drawn0.refl _|apply Drawn0.step)⟩
 ·rw[if_neg c4] at H
  have c4b0:decide (O≤B)=false:=decide_eq_false c4
  clear c4
  obtain rfl:=Option.some.inj H
  go_enter Try.func86,Try.ntmps86
  go_wp2
  go_ret
  exact⟨qR,by repeat(first|exact Drawn0.refl _|apply Drawn0.step)⟩
end Go.Proofs.Ytmfffemidlhcpaa.C
set_option linter.unusedVariables false
namespace Go.Proofs.Ytmfffemidlhcpaa.C
open Go.RowKit Go.Proofs.YtmfffemidlhcpaaW.PrintWords Go.Proofs.YtmfffemidlhcpaaW.PrintLast Go.Proofs.YtmfffemidlhcpaaW.PrintMore
theorem bel {B:Nat} {w W:World} (h:Below B w W:=by repeat(first|(with_reducible first|exact HB.out|apply Qq|apply Qj|apply Qi|refine Qs ?_ (Aside0.out (by assumption)))|exact HB.out|(refine Qs ?_ (Aside0.out (by assumption))))):Below B w W:=h
theorem bka {w W:World} {g:Nat} {o:Obj} (b:Aside0 (w.heap[g]?=some o)) (e:W.heap[g]?=some o:=by(with_reducible repeat(first|refine Qk ?_ _|refine Qf ?_|refine Ql ?_ _|refine X7 ?_ (Aside0.out (by assumption)) _));exact Aside0.out (by assumption)):W.heap[g]?=some o:=e
theorem kra {α:Type} {d:Kd α} {e0:TypeId} {w W:World} {base:Nat} {ok:Nat→Prop} {v:Value} {xs:List α} (b:Aside0 (d.R e0 w base ok v xs)) (e:d.R e0 W base ok v xs:=by(with_reducible repeat first|apply Kd.Qx|apply Kd.Qw|apply Kd.Q2);exact Aside0.out (by assumption)):d.R e0 W base ok v xs:=e
theorem sRb {α:Type} {d:Kd α} {e0:TypeId} {w w1 w2:World} {base:Nat} {ok:Nat→Prop} {v:Value} {xs:List α} (b:Aside0 (d.R e0 w base ok v xs)) (h:Below w1.heap.size w1 w2) (e:d.R e0 w1 base ok v xs:=by(with_reducible repeat first|apply Kd.Qx|apply Kd.Qw|apply Kd.Q2);exact Aside0.out (by assumption)):Aside0 (d.R e0 w2 base ok v xs):=⟨Kd.Z4 e h⟩
theorem sBk {w w1 w2:World} {g:Nat} {o:Obj} (b:Aside0 (w.heap[g]?=some o)) (h:Below w1.heap.size w1 w2) (e:w1.heap[g]?=some o:=by(with_reducible repeat(first|refine Qk ?_ _|refine Qf ?_|refine Ql ?_ _|refine X7 ?_ (Aside0.out (by assumption)) _));exact Aside0.out (by assumption)):Aside0 (w2.heap[g]?=some o):=⟨Qt e h⟩
theorem sHb {w W w2:World} (h:Below W.heap.size W w2) (b:Below w.heap.size w W:=by repeat(first|(with_reducible first|exact HB.out|apply Qq|apply Qj|apply Qi|refine Qs ?_ (Aside0.out (by assumption)))|exact HB.out|(refine Qs ?_ (Aside0.out (by assumption))))):Aside0 (Below w.heap.size w w2):=⟨Qy b h⟩
theorem sGe {w W:World} {g:Nat} (h:g=W.heap.size) (b:Below w.heap.size w W:=by repeat(first|(with_reducible first|exact HB.out|apply Qq|apply Qj|apply Qi|refine Qs ?_ (Aside0.out (by assumption)))|exact HB.out|(refine Qs ?_ (Aside0.out (by assumption))))):Aside0 (w.heap.size≤g):=⟨by rw[h];exact Qu b⟩
theorem sNl {w W:World} {g k:Nat} {o:Obj} (b:Aside0 (w.heap[g]?=some o)) (h:k=W.heap.size) (e:W.heap[g]?=some o:=by(with_reducible repeat(first|refine Qk ?_ _|refine Qf ?_|refine Ql ?_ _|refine X7 ?_ (Aside0.out (by assumption)) _));exact Aside0.out (by assumption)):Aside0 (g≠k):=⟨by rw[h];exact Nat.ne_of_lt (Xg e)⟩
theorem sNg {w W:World} {g k:Nat} {o:Obj} (b:Aside0 (w.heap[g]?=some o)) (h:k=W.heap.size) (e:W.heap[g]?=some o:=by(with_reducible repeat(first|refine Qk ?_ _|refine Qf ?_|refine Ql ?_ _|refine X7 ?_ (Aside0.out (by assumption)) _));exact Aside0.out (by assumption)):Aside0 (k≠g):=⟨by rw[h];exact Nat.ne_of_gt (Xg e)⟩
def bN (n m:Nat):Array Bool:=((List.range n).map fun i=>m.testBit i).toArray
end Go.Proofs.Ytmfffemidlhcpaa.C
namespace Go.Proofs.Ytmfffemidlhcpaa.C
open Go.RowKit Go.Proofs.YtmfffemidlhcpaaW.PrintWords Go.Proofs.YtmfffemidlhcpaaW.PrintLast Go.Proofs.YtmfffemidlhcpaaW.PrintMore
attribute [local go_sem] Zz Zx Z9 Z8 Zq Zp Zy Zw
set_option linter.unusedVariables false
set_option linter.unusedSimpArgs false
def door_times.l0:Nat→List Int→Int→Int→Int→Int→Int→Int→Int→Int→Int→Option (Bool)
 |0,_,_,_,_,_,_,_,_,_,_=>none
 |k+1,B,μ,L,O,X,Y,Z,γ,δ,J=>if L < μ then (if 0≤L then (if L<(B.length:Int) then ((door_within.f (rd B L) 1 60).bind fun θ =>(if θ = true then (door_times.l0 k B μ (wrap64 (L+1)) O X Y Z γ δ J) else (some false))) else (none)) else (none)) else ((door_within.f J 0 60).bind fun η =>(some η))
def door_times.f (k:Nat) (B:Int) (J:Int) (L:Int) (Y:Int) (Z:Int) (ε :Int) (γ:Int):Option (Bool):=(some (([B,J,L,Y,Z,ε]:List Int):List Int)).bind fun δ =>(door_times.l0 k δ (δ.length:Int) 0 B J L Y Z ε γ)
theorem door_times.Zn:∀ k,(∀ L X Y B O Z y6 y7 y8 y9,LeO (door_times.l0 k L X Y B O Z y6 y7 y8 y9) (door_times.l0 (k+1) L X Y B O Z y6 y7 y8 y9))
 |0=>fun _ _ _ _ _ _ _ _ _ _ r h=>by simp[door_times.l0] at h
 |k+1=>by
  have J:=door_times.Zn k
  ·intro L X Y B O Z y6 y7 y8 y9
   unfold door_times.l0
   repeat' first
   |(with_reducible exact J _ _ _ _ _ _ _ _ _ _)
   |(with_reducible exact LeO.refl _)
   |(with_reducible exact LeO.none _)
   |(with_reducible refine LeO.ite ?_ ?_)
   |(with_reducible refine LeO.bind ?_ (fun _=>?_))
   |exact J _ _ _ _ _ _ _ _ _ _
   |exact LeO.none _
   |refine LeO.ite ?_ ?_
   |refine LeO.bind ?_ (fun _=>?_)
theorem door_times.mono:∀ B O a2 a3 L a5 X k,LeO (door_times.f k B O a2 a3 L a5 X) (door_times.f (k+1) B O a2 a3 L a5 X):=by
 intro B O a2 a3 L a5 X k
 have J:=door_times.Zn k
 unfold door_times.f
 repeat' first
   |(with_reducible exact J _ _ _ _ _ _ _ _ _ _)
   |(with_reducible exact LeO.refl _)
   |(with_reducible exact LeO.none _)
   |(with_reducible refine LeO.ite ?_ ?_)
   |(with_reducible refine LeO.bind ?_ (fun _=>?_))
   |exact J _ _ _ _ _ _ _ _ _ _
   |exact LeO.none _
   |refine LeO.ite ?_ ?_
   |refine LeO.bind ?_ (fun _=>?_)
set_option maxHeartbeats 8000000 in
set_option maxRecDepth 100000 in
theorem door_times.calls (k:Nat) (B:Int) (J:Int) (L:Int) (Y:Int) (Z:Int) (ε :Int) (γ:Int) (r:Bool) (w:World) (h:door_times.f k B J L Y Z ε γ=some r):
  Calls Try.prog 70 #[.agg #[.int .i64 B,.int .i64 J,.int .i64 L,.int .i64 Y,.int .i64 Z,.int .i64 ε,.int .i64 γ]] w fun e w'=>e = .returned (.bool r)∧Below w.heap.size w w':=by
 have k2:=Try.underlying23
 have HB:=Aside0.mk (Below.refl w.heap.size w)
 have H:((some (([B,J,L,Y,Z,ε]:List Int):List Int)).bind fun δ =>(door_times.l0 k δ (δ.length:Int) 0 B J L Y Z ε γ))=some r:=h
 clear h
 obtain⟨δ,ι⟩:∃ y_:List Int,y_=(([B,J,L,Y,Z,ε]:List Int)):=⟨_,rfl⟩
 replace H:(door_times.l0 k δ (δ.length:Int) 0 B J L Y Z ε γ)=some r:=by first|(rw[ι];with_reducible exact H)|(have am:=(Option.bind_some _ _).symm.trans H;rw[ι];with_reducible exact am)|(have am:=(Option.bind_some _ _).symm.trans H;with_reducible exact am)|with_reducible exact H|(rw[ι];exact H)|exact H
 have ν :=Aside0.mk ι
 clear ι
 have H':=Aside0.mk H
 clear H
 go_enter Try.func70,Try.ntmps70
 go_wp2_with (first|((with_reducible refine Qe (N:=1) rfl ?_);refine qE 1 #[.int .i64 B,.int .i64 J,.int .i64 L,.int .i64 Y,.int .i64 Z,.int .i64 ε,.int .i64 γ] 23 ?_;intro X hg w2 hbox hb;have O:=Aside0.mk hbox;have ξ :=sGe hg;have κ :=sGe hg;replace HB:=sHb hb;clear hb hbox hg;obtain⟨ω,a0,a4,a5,a7,aa,ac,af,ag,ah,ak,ao,ap,ar⟩:=qD7 O.out)|((with_reducible refine Qe (N:=17) rfl ?_);refine Kd.Vb (Kd.int .i64) _ 3 ?hg (N:=17) ?hd (xs:=([B,J,L,Y,Z,ε]:List Int)) (inner:=[.int .i64 B,.int .i64 J,.int .i64 L,.int .i64 Y,.int .i64 Z,.int .i64 ε]) (ok:=fun _=>True) (okp:=fun _=>True) ?hr ?hp (fun _ hk=>hk) trivial (Below.refl _ _) (Nat.le_refl _) (by simp) ?_;(case hd=>rfl);(case hg=>rfl);(case hr=>go_simp <;> rfl);(case hp=>exact(Reps.one (show Kd.M (Kd.int .i64) _ _ _ B [.int .i64 B] from rfl) (Reps.one (show Kd.M (Kd.int .i64) _ _ _ J [.int .i64 J] from rfl) (Reps.one (show Kd.M (Kd.int .i64) _ _ _ L [.int .i64 L] from rfl) (Reps.one (show Kd.M (Kd.int .i64) _ _ _ Y [.int .i64 Y] from rfl) (Reps.one (show Kd.M (Kd.int .i64) _ _ _ Z [.int .i64 Z] from rfl) (Reps.one (show Kd.M (Kd.int .i64) _ _ _ ε [.int .i64 ε] from rfl) (Reps.none _ _))))))));intro av w4 ρ hb hg_ hnew_;clear hg_ hnew_;(first|rw[← ν.out] at ρ|(simp only[Int.reduceToNat] at ρ;rw[← ν.out] at ρ));have μ :=Aside0.mk (Kd.Zc ρ (Qu HB.out));replace O:=sBk O hb;replace HB:=sHb hb;clear hb ρ;obtain⟨au,aw,ax⟩:=Kd.Q9 μ.out;subst ax))
 go_loopg [19] k (fun kq bd w'=>∃ (ζ :Int),bd = .int .i64 ζ ∧ Aside0 (door_times.l0 kq δ (δ.length:Int) ζ B J L Y Z ε γ=some r)∧Aside0 (kq≤k)∧Aside0 (Kd.R (Kd.int .i64) 3 w' w.heap.size (fun _=>True) (.slice au δ.length aw) δ)∧Aside0 (w'.heap[X]?=some (.cells #[.int .i64 B,.int .i64 J,.int .i64 L,.int .i64 Y,.int .i64 Z,.int .i64 ε,.int .i64 γ] 23 (0,0)))∧Aside0 (Below w.heap.size w w'))
 case atStart=>exact⟨(0),rfl,H',⟨Nat.le_refl _⟩,⟨by(with_reducible repeat first|apply Kd.Qx|apply Kd.Qw|apply Kd.Q2);exact μ.out⟩,O,HB⟩
 case round=>
  clear H'
  try clear p2
  try clear ω
  try clear a0
  try clear a4
  try clear a5
  try clear a7
  try clear aa
  try clear ac
  try clear af
  try clear ag
  try clear ah
  try clear ak
  try clear ao
  try clear ap
  try clear ar
  obtain⟨ζ,rfl,HA,an,HO_17,O,HB⟩:=hrel
  cases gk with
  |zero=>exact absurd HA.out (by simp[door_times.l0])
  |succ k1=>
   have H:=HA.out
   clear HA
   simp only[door_times.l0] at H
   by_cases c7: ζ < (δ.length:Int)
   ·rw[if_pos c7] at H
    have c7b0:decide (ζ < (δ.length:Int))=true:=decide_eq_true c7
    clear c7
    by_cases c8:0 ≤ ζ
    ·rw[if_pos c8] at H
     have c8b0:decide (0 ≤ ζ)=true:=decide_eq_true c8
     clear c8
     by_cases c9: ζ < (δ.length:Int)
     ·rw[if_pos c9] at H
      have c9b0:decide (ζ < (δ.length:Int))=true:=decide_eq_true c9
      clear c9
      replace H:=Option.bind_eq_some_iff.mp H
      obtain⟨θ,cv,H⟩:=H
      replace H:(if θ = true then (door_times.l0 k1 δ (δ.length:Int) (wrap64 (ζ + 1)) B J L Y Z ε γ) else (some false))=some r:=H
      have de:=Aside0.mk cv
      clear cv
      by_cases al: θ = true
      ·subst al
       have H1:(door_times.l0 k1 δ (δ.length:Int) (wrap64 (ζ + 1)) B J L Y Z ε γ)=some r:=by rw[if_pos rfl] at H;exact H
       clear H
       have H:=H1
       clear H1
       have H':=Aside0.mk H
       clear H
       have χ :0≤(ζ :Int):=of_decide_eq_true (by assumption)
       have ψ : ζ < (δ.length:Int):=of_decide_eq_true (by assumption)
       obtain⟨a1,ae,σ⟩:=Kd.Xo (Kd.Qz HO_17.out).2.2 ζ χ ψ
       cases ae
       replace χ :=eq_true χ
       replace ψ :=eq_true ψ
       go_wp2_with (first|((with_reducible refine Qd (f:=86) rfl ?_);refine Qn (some 24) rfl rfl Try.func86 kr rfl #[.int .i64 (rd δ ζ),.int .i64 1,.int .i64 60] rfl qM ?_;(with_reducible refine(door_within.calls (rd δ ζ) 1 60 true _ de.out).mono ?_);rintro e w' ⟨rfl,⟨nd,rfl⟩⟩;refine⟨_,rfl, ?_⟩))
       go_roundg k1
       case measure=>have:=an.out;omega
       case rel=>exact⟨(wrap64 (ζ + 1)),qR,H',⟨by have:=an.out;omega⟩,⟨by(with_reducible repeat first|apply Kd.Qx|apply Kd.Qw|apply Kd.Q2);exact HO_17.out⟩,⟨bka O⟩,⟨bel⟩⟩
      ·replace al:=Bool.eq_false_iff.mpr al
       subst al
       have H1:(some false)=some r:=by rw[if_neg (show ¬ (false=true) by decide)] at H;exact H
       clear H
       have H:=H1
       clear H1
       obtain rfl:=Option.some.inj H
       have χ :0≤(ζ :Int):=of_decide_eq_true (by assumption)
       have ψ : ζ < (δ.length:Int):=of_decide_eq_true (by assumption)
       obtain⟨a1,ae,σ⟩:=Kd.Xo (Kd.Qz HO_17.out).2.2 ζ χ ψ
       cases ae
       replace χ :=eq_true χ
       replace ψ :=eq_true ψ
       go_wp2_with (first|((with_reducible refine Qd (f:=86) rfl ?_);refine Qn (some 24) rfl rfl Try.func86 kr rfl #[.int .i64 (rd δ ζ),.int .i64 1,.int .i64 60] rfl qM ?_;(with_reducible refine(door_within.calls (rd δ ζ) 1 60 false _ de.out).mono ?_);rintro e w' ⟨rfl,⟨nd,rfl⟩⟩;refine⟨_,rfl, ?_⟩))
       go_ret
       exact⟨by first|rfl|(simp[Qh,Qg] <;> rfl)|(simp[*,Qh,Qg] <;> rfl),bel⟩
     ·rw[if_neg c9] at H
      exact absurd H (by simp)
    ·rw[if_neg c8] at H
     exact absurd H (by simp)
   ·rw[if_neg c7] at H
    have c7b0:decide (ζ < (δ.length:Int))=false:=decide_eq_false c7
    clear c7
    replace H:=Option.bind_eq_some_iff.mp H
    obtain⟨η,a8,H⟩:=H
    replace H:(some η)=some r:=H
    have b3:=Aside0.mk a8
    clear a8
    obtain rfl:=Option.some.inj H
    obtain⟨ai,a6,a2,τ,φ,a9,az,aj,ab,a3,b1,b2,b4,b8⟩:=qD7 O.out
    go_wp2_with (first|((with_reducible refine Qd (f:=86) rfl ?_);refine Qn (some 29) rfl rfl Try.func86 kr rfl #[.int .i64 γ,.int .i64 0,.int .i64 60] rfl qM ?_;(with_reducible refine(door_within.calls γ 0 60 η _ b3.out).mono ?_);rintro e w' ⟨rfl,⟨nd,rfl⟩⟩;refine⟨_,rfl, ?_⟩))
    go_ret
    exact⟨by first|rfl|(simp[Qh,Qg] <;> rfl)|(simp[*,Qh,Qg] <;> rfl),bel⟩
def door_gear.f (k:Nat) (B:Int) (J:Int) (L:Int) (Y:Int) (Z:Int) (ε :Int) (γ:Int) (θ :Int) (ζ :Int) (η :Int):Option (Bool):=(door_times.f k J L Y Z ε γ θ).bind fun κ =>(if κ = true then ((door_within.f B 2 64).bind fun ι =>(if ι = true then ((door_within.f ζ 1 300).bind fun δ =>(if δ = true then ((door_within.f η 0 60).bind fun X=>(some X)) else (some false))) else (some false))) else (some false))
theorem door_gear.mono:∀ B O a2 a3 L a5 X a7 a8 a9 k,LeO (door_gear.f k B O a2 a3 L a5 X a7 a8 a9) (door_gear.f (k+1) B O a2 a3 L a5 X a7 a8 a9):=by
 intro B O a2 a3 L a5 X a7 a8 a9 k
 unfold door_gear.f
 repeat' first
   |(with_reducible exact door_times.mono _ _ _ _ _ _ _ _)
   |(with_reducible exact LeO.refl _)
   |(with_reducible exact LeO.none _)
   |(with_reducible refine LeO.ite ?_ ?_)
   |(with_reducible refine LeO.bind ?_ (fun _=>?_))
   |exact door_times.mono _ _ _ _ _ _ _ _
   |exact LeO.none _
   |refine LeO.ite ?_ ?_
   |refine LeO.bind ?_ (fun _=>?_)
set_option maxHeartbeats 8000000 in
set_option maxRecDepth 100000 in
theorem door_gear.calls (k:Nat) (B:Int) (J:Int) (L:Int) (Y:Int) (Z:Int) (ε :Int) (γ:Int) (θ :Int) (ζ :Int) (η :Int) (r:Bool) (w:World) (h:door_gear.f k B J L Y Z ε γ θ ζ η = some r):
  Calls Try.prog 72 #[.agg #[.int .i64 B,.int .i64 J,.int .i64 L,.int .i64 Y,.int .i64 Z,.int .i64 ε,.int .i64 γ,.int .i64 θ,.int .i64 ζ,.int .i64 η]] w fun e w'=>e = .returned (.bool r)∧Below w.heap.size w w':=by
 have cx:=Try.underlying25
 have k2:=Try.underlying23
 have HB:=Aside0.mk (Below.refl w.heap.size w)
 have H:((door_times.f k J L Y Z ε γ θ).bind fun κ =>(if κ = true then ((door_within.f B 2 64).bind fun ι =>(if ι = true then ((door_within.f ζ 1 300).bind fun δ =>(if δ = true then ((door_within.f η 0 60).bind fun X=>(some X)) else (some false))) else (some false))) else (some false)))=some r:=h
 clear h
 replace H:=Option.bind_eq_some_iff.mp H
 obtain⟨κ,ch,H⟩:=H
 replace H:(if κ = true then ((door_within.f B 2 64).bind fun ι =>(if ι = true then ((door_within.f ζ 1 300).bind fun δ =>(if δ = true then ((door_within.f η 0 60).bind fun X=>(some X)) else (some false))) else (some false))) else (some false))=some r:=H
 have A2:=Aside0.mk ch
 clear ch
 by_cases c3: κ = true
 ·subst c3
  have H1:((door_within.f B 2 64).bind fun ι =>(if ι = true then ((door_within.f ζ 1 300).bind fun δ =>(if δ = true then ((door_within.f η 0 60).bind fun X=>(some X)) else (some false))) else (some false)))=some r:=by rw[if_pos rfl] at H;exact H
  clear H
  have H:=H1
  clear H1
  replace H:=Option.bind_eq_some_iff.mp H
  obtain⟨ι,cg,H⟩:=H
  replace H:(if ι = true then ((door_within.f ζ 1 300).bind fun δ =>(if δ = true then ((door_within.f η 0 60).bind fun X=>(some X)) else (some false))) else (some false))=some r:=H
  have A4:=Aside0.mk cg
  clear cg
  by_cases c5: ι = true
  ·subst c5
   have H1:((door_within.f ζ 1 300).bind fun δ =>(if δ = true then ((door_within.f η 0 60).bind fun X=>(some X)) else (some false)))=some r:=by rw[if_pos rfl] at H;exact H
   clear H
   have H:=H1
   clear H1
   replace H:=Option.bind_eq_some_iff.mp H
   obtain⟨δ,az,H⟩:=H
   replace H:(if δ = true then ((door_within.f η 0 60).bind fun X=>(some X)) else (some false))=some r:=H
   have A6:=Aside0.mk az
   clear az
   by_cases c7: δ = true
   ·subst c7
    have H1:((door_within.f η 0 60).bind fun X=>(some X))=some r:=by rw[if_pos rfl] at H;exact H
    clear H
    have H:=H1
    clear H1
    replace H:=Option.bind_eq_some_iff.mp H
    obtain⟨X,b5,H⟩:=H
    replace H:(some X)=some r:=H
    have A8:=Aside0.mk b5
    clear b5
    obtain rfl:=Option.some.inj H
    go_enter Try.func72,Try.ntmps72
    go_wp2_with (first|((with_reducible refine Qe (N:=1) rfl ?_);refine qE 1 #[.int .i64 B,.int .i64 J,.int .i64 L,.int .i64 Y,.int .i64 Z,.int .i64 ε,.int .i64 γ,.int .i64 θ,.int .i64 ζ,.int .i64 η] 25 ?_;intro μ hg w9 hbox hb;have O:=Aside0.mk hbox;have ν :=sGe hg;have ξ :=sGe hg;replace HB:=sHb hb;clear hb hbox hg;obtain⟨ab,ai,aj,ah,ak,al,ao,a2,a6,bm,aw,ax,bd,ap,be,bk,bl,ed,gb,ge⟩:=Q5 O.out)|((with_reducible refine Qd (f:=70) rfl ?_);refine Qn (some 5) rfl rfl Try.func70 kr rfl #[.agg #[.int .i64 J,.int .i64 L,.int .i64 Y,.int .i64 Z,.int .i64 ε,.int .i64 γ,.int .i64 θ]] rfl qM ?_;(with_reducible refine(door_times.calls k J L Y Z ε γ θ true _ A2.out).mono ?_);rintro e ez ⟨rfl,hb⟩;refine⟨_,rfl, ?_⟩;replace O:=sBk O hb;replace HB:=sHb hb;(try clear hb);(try clear a4);(try clear hk);(try clear hi);obtain⟨τ,φ,ae,dh,f7,f8,fa,a3,ac,b1,a5,a9,b8,fb,fc,fe,ff,b2,b3,gk⟩:=Q5 O.out)|(go_at_call 86;(with_reducible refine(door_within.calls B 2 64 true _ A4.out).mono ?_);rintro e w' ⟨rfl,⟨nd,rfl⟩⟩)|(go_at_call 86;(with_reducible refine(door_within.calls ζ 1 300 true _ A6.out).mono ?_);rintro e w' ⟨rfl,⟨nd,rfl⟩⟩)|(go_at_call 86;(with_reducible refine(door_within.calls η 0 60 X _ A8.out).mono ?_);rintro e w' ⟨rfl,⟨nd,rfl⟩⟩))
    go_ret
    exact⟨by first|rfl|(simp[Qh,Qg] <;> rfl)|(simp[*,Qh,Qg] <;> rfl),bel⟩
   ·replace c7:=Bool.eq_false_iff.mpr c7
    subst c7
    have H1:(some false)=some r:=by rw[if_neg (show ¬ (false=true) by decide)] at H;exact H
    clear H
    have H:=H1
    clear H1
    obtain rfl:=Option.some.inj H
    go_enter Try.func72,Try.ntmps72
    go_wp2_with (first|((with_reducible refine Qe (N:=1) rfl ?_);refine qE 1 #[.int .i64 B,.int .i64 J,.int .i64 L,.int .i64 Y,.int .i64 Z,.int .i64 ε,.int .i64 γ,.int .i64 θ,.int .i64 ζ,.int .i64 η] 25 ?_;intro μ hg i3 hbox hb;have O:=Aside0.mk hbox;have ν :=sGe hg;have ξ :=sGe hg;replace HB:=sHb hb;clear hb hbox hg;obtain⟨bg,bh,bp,d0,d1,d2,d3,eg,gl,gm,bi,bj,bq,d4,d5,d6,d7,ft,gn,gp⟩:=Q5 O.out)|((with_reducible refine Qd (f:=70) rfl ?_);refine Qn (some 5) rfl rfl Try.func70 kr rfl #[.agg #[.int .i64 J,.int .i64 L,.int .i64 Y,.int .i64 Z,.int .i64 ε,.int .i64 γ,.int .i64 θ]] rfl qM ?_;(with_reducible refine(door_times.calls k J L Y Z ε γ θ true _ A2.out).mono ?_);rintro e g9 ⟨rfl,hb⟩;refine⟨_,rfl, ?_⟩;replace O:=sBk O hb;replace HB:=sHb hb;(try clear hb);(try clear a4);(try clear hk);(try clear hi);obtain⟨bw,bz,cq,bn,e7,e8,e9,fu,g6,g7,ca,cb,cr,ev,ew,fg,fh,fv,g8,ga⟩:=Q5 O.out)|(go_at_call 86;(with_reducible refine(door_within.calls B 2 64 true _ A4.out).mono ?_);rintro e w' ⟨rfl,⟨nd,rfl⟩⟩)|(go_at_call 86;(with_reducible refine(door_within.calls ζ 1 300 false _ A6.out).mono ?_);rintro e w' ⟨rfl,⟨nd,rfl⟩⟩))
    go_ret
    exact⟨by first|rfl|(simp[Qh,Qg] <;> rfl)|(simp[*,Qh,Qg] <;> rfl),bel⟩
  ·replace c5:=Bool.eq_false_iff.mpr c5
   subst c5
   have H1:(some false)=some r:=by rw[if_neg (show ¬ (false=true) by decide)] at H;exact H
   clear H
   have H:=H1
   clear H1
   obtain rfl:=Option.some.inj H
   go_enter Try.func72,Try.ntmps72
   go_wp2_with (first|((with_reducible refine Qe (N:=1) rfl ?_);refine qE 1 #[.int .i64 B,.int .i64 J,.int .i64 L,.int .i64 Y,.int .i64 Z,.int .i64 ε,.int .i64 γ,.int .i64 θ,.int .i64 ζ,.int .i64 η] 25 ?_;intro μ hg e6 hbox hb;have O:=Aside0.mk hbox;have ν :=sGe hg;have ξ :=sGe hg;replace HB:=sHb hb;clear hb hbox hg;obtain⟨br,bs,dj,e5,fr,fw,σ,ρ,χ,ω,bu,bv,dk,fx,fy,fz,ψ,a0,aa,af⟩:=Q5 O.out)|((with_reducible refine Qd (f:=70) rfl ?_);refine Qn (some 5) rfl rfl Try.func70 kr rfl #[.agg #[.int .i64 J,.int .i64 L,.int .i64 Y,.int .i64 Z,.int .i64 ε,.int .i64 γ,.int .i64 θ]] rfl qM ?_;(with_reducible refine(door_times.calls k J L Y Z ε γ θ true _ A2.out).mono ?_);rintro e ay ⟨rfl,hb⟩;refine⟨_,rfl, ?_⟩;replace O:=sBk O hb;replace HB:=sHb hb;(try clear hb);(try clear a4);(try clear hk);(try clear hi);obtain⟨a7,ar,a1,dl,dm,dn,dp,i5,i6,i7,au,av,a8,dq,dr,dt,du,i9,ia,ib⟩:=Q5 O.out)|(go_at_call 86;(with_reducible refine(door_within.calls B 2 64 false _ A4.out).mono ?_);rintro e w' ⟨rfl,⟨nd,rfl⟩⟩))
   go_ret
   exact⟨by first|rfl|(simp[Qh,Qg] <;> rfl)|(simp[*,Qh,Qg] <;> rfl),bel⟩
 ·replace c3:=Bool.eq_false_iff.mpr c3
  subst c3
  have H1:(some false)=some r:=by rw[if_neg (show ¬ (false=true) by decide)] at H;exact H
  clear H
  have H:=H1
  clear H1
  obtain rfl:=Option.some.inj H
  go_enter Try.func72,Try.ntmps72
  go_wp2_with (first|((with_reducible refine Qe (N:=1) rfl ?_);refine qE 1 #[.int .i64 B,.int .i64 J,.int .i64 L,.int .i64 Y,.int .i64 Z,.int .i64 ε,.int .i64 γ,.int .i64 θ,.int .i64 ζ,.int .i64 η] 25 ?_;intro μ hg bc hbox hb;have O:=Aside0.mk hbox;have ν :=sGe hg;have ξ :=sGe hg;replace HB:=sHb hb;clear hb hbox hg;obtain⟨ct,cu,dv,gr,gs,gt,gu,jd,je,jf,cv,cw,dw,gv,gw,gx,gy,jg,jh,ji⟩:=Q5 O.out)|((with_reducible refine Qd (f:=70) rfl ?_);refine Qn (some 5) rfl rfl Try.func70 kr rfl #[.agg #[.int .i64 J,.int .i64 L,.int .i64 Y,.int .i64 Z,.int .i64 ε,.int .i64 γ,.int .i64 θ]] rfl qM ?_;(with_reducible refine(door_times.calls k J L Y Z ε γ θ false _ A2.out).mono ?_);rintro e b6 ⟨rfl,hb⟩;refine⟨_,rfl, ?_⟩;replace O:=sBk O hb;replace HB:=sHb hb;(try clear hb);(try clear a4);(try clear hk);(try clear hi)))
  go_ret
  exact⟨rfl,HB.out⟩
def door_on.f (B:Int) (J:Int) (L:Int) (O:Int) (a2:Int):Option (Int×Int×Int):=if (wrap64 (J-1))=0 then (some (O,a2,L)) else (some (B,wrap64 (J-1),L))
def newelref17_tick.f (B:Int):Option (Bool):=if B≥1 then (some (decide (B≤60))) else (some false)
set_option maxHeartbeats 8000000 in
set_option maxRecDepth 100000 in
theorem newelref17_tick.calls (B:Int) (r:Bool) (w:World) (h:newelref17_tick.f B=some r):
  Calls Try.prog 93 #[.int .i64 B] w fun e w'=>e = .returned (.bool r)∧Drawn0 w w':=by
 have H:(if B≥1 then (some (decide (B≤60))) else (some false))=some r:=h
 clear h
 by_cases c2:B≥1
 ·rw[if_pos c2] at H
  have c2b0:decide (1≤B)=true:=decide_eq_true c2
  clear c2
  obtain rfl:=Option.some.inj H
  go_enter Try.func93,Try.ntmps93
  go_wp2
  go_ret
  exact⟨qR,by repeat(first|exact Drawn0.refl _|apply Drawn0.step)⟩
 ·rw[if_neg c2] at H
  have c2b0:decide (1≤B)=false:=decide_eq_false c2
  clear c2
  obtain rfl:=Option.some.inj H
  go_enter Try.func93,Try.ntmps93
  go_wp2
  go_ret
  exact⟨qR,by repeat(first|exact Drawn0.refl _|apply Drawn0.step)⟩
def newelref17_Times.f (B:Int) (J:Int) (L:Int) (Y:Int) (Z:Int) (ε :Int) (γ:Int):Option (Bool):=(newelref17_tick.f B).bind fun ι =>((newelref17_tick.f J).bind fun θ =>((newelref17_tick.f L).bind fun η =>((newelref17_tick.f Y).bind fun δ =>((newelref17_tick.f Z).bind fun X=>((newelref17_tick.f ε).bind fun O=>(if ι = true then (if θ = true then (if η = true then (if δ = true then (if X=true then (if O=true then (if γ≥0 then (some (decide (γ≤60))) else (some false)) else (some false)) else (some false)) else (some false)) else (some false)) else (some false)) else (some false)))))))
set_option maxHeartbeats 8000000 in
set_option maxRecDepth 100000 in
theorem newelref17_Times.calls (B:Int) (J:Int) (L:Int) (Y:Int) (Z:Int) (ε :Int) (γ:Int) (r:Bool) (w:World) (h:newelref17_Times.f B J L Y Z ε γ=some r):
  Calls Try.prog 77 #[.agg #[.int .i64 B,.int .i64 J,.int .i64 L,.int .i64 Y,.int .i64 Z,.int .i64 ε,.int .i64 γ]] w fun e w'=>e = .returned (.bool r)∧Below w.heap.size w w':=by
 have k2:=Try.underlying23
 have HB:=Aside0.mk (Below.refl w.heap.size w)
 have H:((newelref17_tick.f B).bind fun ι =>((newelref17_tick.f J).bind fun θ =>((newelref17_tick.f L).bind fun η =>((newelref17_tick.f Y).bind fun δ =>((newelref17_tick.f Z).bind fun X=>((newelref17_tick.f ε).bind fun O=>(if ι = true then (if θ = true then (if η = true then (if δ = true then (if X=true then (if O=true then (if γ≥0 then (some (decide (γ≤60))) else (some false)) else (some false)) else (some false)) else (some false)) else (some false)) else (some false)) else (some false))))))))=some r:=h
 clear h
 replace H:=Option.bind_eq_some_iff.mp H
 obtain⟨ι,ch,H⟩:=H
 replace H:((newelref17_tick.f J).bind fun θ =>((newelref17_tick.f L).bind fun η =>((newelref17_tick.f Y).bind fun δ =>((newelref17_tick.f Z).bind fun X=>((newelref17_tick.f ε).bind fun O=>(if ι = true then (if θ = true then (if η = true then (if δ = true then (if X=true then (if O=true then (if γ≥0 then (some (decide (γ≤60))) else (some false)) else (some false)) else (some false)) else (some false)) else (some false)) else (some false)) else (some false)))))))=some r:=H
 have A2:=Aside0.mk ch
 clear ch
 replace H:=Option.bind_eq_some_iff.mp H
 obtain⟨θ,aa,H⟩:=H
 replace H:((newelref17_tick.f L).bind fun η =>((newelref17_tick.f Y).bind fun δ =>((newelref17_tick.f Z).bind fun X=>((newelref17_tick.f ε).bind fun O=>(if ι = true then (if θ = true then (if η = true then (if δ = true then (if X=true then (if O=true then (if γ≥0 then (some (decide (γ≤60))) else (some false)) else (some false)) else (some false)) else (some false)) else (some false)) else (some false)) else (some false))))))=some r:=H
 have A3:=Aside0.mk aa
 clear aa
 replace H:=Option.bind_eq_some_iff.mp H
 obtain⟨η,cg,H⟩:=H
 replace H:((newelref17_tick.f Y).bind fun δ =>((newelref17_tick.f Z).bind fun X=>((newelref17_tick.f ε).bind fun O=>(if ι = true then (if θ = true then (if η = true then (if δ = true then (if X=true then (if O=true then (if γ≥0 then (some (decide (γ≤60))) else (some false)) else (some false)) else (some false)) else (some false)) else (some false)) else (some false)) else (some false)))))=some r:=H
 have A4:=Aside0.mk cg
 clear cg
 replace H:=Option.bind_eq_some_iff.mp H
 obtain⟨δ,b3,H⟩:=H
 replace H:((newelref17_tick.f Z).bind fun X=>((newelref17_tick.f ε).bind fun O=>(if ι = true then (if θ = true then (if η = true then (if δ = true then (if X=true then (if O=true then (if γ≥0 then (some (decide (γ≤60))) else (some false)) else (some false)) else (some false)) else (some false)) else (some false)) else (some false)) else (some false))))=some r:=H
 have A5:=Aside0.mk b3
 clear b3
 replace H:=Option.bind_eq_some_iff.mp H
 obtain⟨X,az,H⟩:=H
 replace H:((newelref17_tick.f ε).bind fun O=>(if ι = true then (if θ = true then (if η = true then (if δ = true then (if X=true then (if O=true then (if γ≥0 then (some (decide (γ≤60))) else (some false)) else (some false)) else (some false)) else (some false)) else (some false)) else (some false)) else (some false)))=some r:=H
 have A6:=Aside0.mk az
 clear az
 replace H:=Option.bind_eq_some_iff.mp H
 obtain⟨O,eg,H⟩:=H
 replace H:(if ι = true then (if θ = true then (if η = true then (if δ = true then (if X=true then (if O=true then (if γ≥0 then (some (decide (γ≤60))) else (some false)) else (some false)) else (some false)) else (some false)) else (some false)) else (some false)) else (some false))=some r:=H
 have A7:=Aside0.mk eg
 clear eg
 by_cases c8: ι = true
 ·subst c8
  have H1:(if θ = true then (if η = true then (if δ = true then (if X=true then (if O=true then (if γ≥0 then (some (decide (γ≤60))) else (some false)) else (some false)) else (some false)) else (some false)) else (some false)) else (some false))=some r:=by rw[if_pos rfl] at H;exact H
  clear H
  have H:=H1
  clear H1
  by_cases c9: θ = true
  ·subst c9
   have H1:(if η = true then (if δ = true then (if X=true then (if O=true then (if γ≥0 then (some (decide (γ≤60))) else (some false)) else (some false)) else (some false)) else (some false)) else (some false))=some r:=by rw[if_pos rfl] at H;exact H
   clear H
   have H:=H1
   clear H1
   by_cases c10: η = true
   ·subst c10
    have H1:(if δ = true then (if X=true then (if O=true then (if γ≥0 then (some (decide (γ≤60))) else (some false)) else (some false)) else (some false)) else (some false))=some r:=by rw[if_pos rfl] at H;exact H
    clear H
    have H:=H1
    clear H1
    by_cases al: δ = true
    ·subst al
     have H1:(if X=true then (if O=true then (if γ≥0 then (some (decide (γ≤60))) else (some false)) else (some false)) else (some false))=some r:=by rw[if_pos rfl] at H;exact H
     clear H
     have H:=H1
     clear H1
     by_cases ae:X=true
     ·subst ae
      have H1:(if O=true then (if γ≥0 then (some (decide (γ≤60))) else (some false)) else (some false))=some r:=by rw[if_pos rfl] at H;exact H
      clear H
      have H:=H1
      clear H1
      by_cases a2:O=true
      ·subst a2
       have H1:(if γ≥0 then (some (decide (γ≤60))) else (some false))=some r:=by rw[if_pos rfl] at H;exact H
       clear H
       have H:=H1
       clear H1
       by_cases ag:γ≥0
       ·rw[if_pos ag] at H
        have c14b0:decide (0≤γ)=true:=decide_eq_true ag
        clear ag
        obtain rfl:=Option.some.inj H
        go_enter Try.func77,Try.ntmps77
        go_wp2_with (first|((with_reducible refine Qe (N:=1) rfl ?_);refine qE 1 #[.int .i64 B,.int .i64 J,.int .i64 L,.int .i64 Y,.int .i64 Z,.int .i64 ε,.int .i64 γ] 23 ?_;intro κ hg g9 hbox hb;have ζ :=Aside0.mk hbox;have μ :=sGe hg;have ν :=sGe hg;replace HB:=sHb hb;clear hb hbox hg;obtain⟨bw,bz,cq,bn,e7,e8,e9,ca,cb,cr,ev,ew,fg,fh⟩:=qD7 ζ.out)|((with_reducible refine Qd (f:=93) rfl ?_);refine Qn (some 11) rfl rfl Try.func93 kr rfl #[.int .i64 B] rfl qM ?_;(with_reducible refine(newelref17_tick.calls B true _ A2.out).mono ?_);rintro e w' ⟨rfl,⟨nd,rfl⟩⟩;refine⟨_,rfl, ?_⟩)|((with_reducible refine Qd (f:=93) rfl ?_);refine Qn (some 14) rfl rfl Try.func93 kr rfl #[.int .i64 J] rfl qM ?_;(with_reducible refine(newelref17_tick.calls J true _ A3.out).mono ?_);rintro e w' ⟨rfl,⟨nd,rfl⟩⟩;refine⟨_,rfl, ?_⟩)|((with_reducible refine Qd (f:=93) rfl ?_);refine Qn (some 17) rfl rfl Try.func93 kr rfl #[.int .i64 L] rfl qM ?_;(with_reducible refine(newelref17_tick.calls L true _ A4.out).mono ?_);rintro e w' ⟨rfl,⟨nd,rfl⟩⟩;refine⟨_,rfl, ?_⟩)|((with_reducible refine Qd (f:=93) rfl ?_);refine Qn (some 20) rfl rfl Try.func93 kr rfl #[.int .i64 Y] rfl qM ?_;(with_reducible refine(newelref17_tick.calls Y true _ A5.out).mono ?_);rintro e w' ⟨rfl,⟨nd,rfl⟩⟩;refine⟨_,rfl, ?_⟩)|((with_reducible refine Qd (f:=93) rfl ?_);refine Qn (some 23) rfl rfl Try.func93 kr rfl #[.int .i64 Z] rfl qM ?_;(with_reducible refine(newelref17_tick.calls Z true _ A6.out).mono ?_);rintro e w' ⟨rfl,⟨nd,rfl⟩⟩;refine⟨_,rfl, ?_⟩)|((with_reducible refine Qd (f:=93) rfl ?_);refine Qn (some 26) rfl rfl Try.func93 kr rfl #[.int .i64 ε] rfl qM ?_;(with_reducible refine(newelref17_tick.calls ε true _ A7.out).mono ?_);rintro e w' ⟨rfl,⟨nd,rfl⟩⟩;refine⟨_,rfl, ?_⟩))
        go_ret
        exact⟨by first|rfl|(simp[Qh,Qg] <;> rfl)|(simp[*,Qh,Qg] <;> rfl),bel⟩
       ·rw[if_neg ag] at H
        have c14b0:decide (0≤γ)=false:=decide_eq_false ag
        clear ag
        obtain rfl:=Option.some.inj H
        go_enter Try.func77,Try.ntmps77
        go_wp2_with (first|((with_reducible refine Qe (N:=1) rfl ?_);refine qE 1 #[.int .i64 B,.int .i64 J,.int .i64 L,.int .i64 Y,.int .i64 Z,.int .i64 ε,.int .i64 γ] 23 ?_;intro κ hg e6 hbox hb;have ζ :=Aside0.mk hbox;have μ :=sGe hg;have ν :=sGe hg;replace HB:=sHb hb;clear hb hbox hg;obtain⟨br,bs,dj,e5,fr,fw,σ,bu,bv,dk,fx,fy,fz,ψ⟩:=qD7 ζ.out)|((with_reducible refine Qd (f:=93) rfl ?_);refine Qn (some 11) rfl rfl Try.func93 kr rfl #[.int .i64 B] rfl qM ?_;(with_reducible refine(newelref17_tick.calls B true _ A2.out).mono ?_);rintro e w' ⟨rfl,⟨nd,rfl⟩⟩;refine⟨_,rfl, ?_⟩)|((with_reducible refine Qd (f:=93) rfl ?_);refine Qn (some 14) rfl rfl Try.func93 kr rfl #[.int .i64 J] rfl qM ?_;(with_reducible refine(newelref17_tick.calls J true _ A3.out).mono ?_);rintro e w' ⟨rfl,⟨nd,rfl⟩⟩;refine⟨_,rfl, ?_⟩)|((with_reducible refine Qd (f:=93) rfl ?_);refine Qn (some 17) rfl rfl Try.func93 kr rfl #[.int .i64 L] rfl qM ?_;(with_reducible refine(newelref17_tick.calls L true _ A4.out).mono ?_);rintro e w' ⟨rfl,⟨nd,rfl⟩⟩;refine⟨_,rfl, ?_⟩)|((with_reducible refine Qd (f:=93) rfl ?_);refine Qn (some 20) rfl rfl Try.func93 kr rfl #[.int .i64 Y] rfl qM ?_;(with_reducible refine(newelref17_tick.calls Y true _ A5.out).mono ?_);rintro e w' ⟨rfl,⟨nd,rfl⟩⟩;refine⟨_,rfl, ?_⟩)|((with_reducible refine Qd (f:=93) rfl ?_);refine Qn (some 23) rfl rfl Try.func93 kr rfl #[.int .i64 Z] rfl qM ?_;(with_reducible refine(newelref17_tick.calls Z true _ A6.out).mono ?_);rintro e w' ⟨rfl,⟨nd,rfl⟩⟩;refine⟨_,rfl, ?_⟩)|((with_reducible refine Qd (f:=93) rfl ?_);refine Qn (some 26) rfl rfl Try.func93 kr rfl #[.int .i64 ε] rfl qM ?_;(with_reducible refine(newelref17_tick.calls ε true _ A7.out).mono ?_);rintro e w' ⟨rfl,⟨nd,rfl⟩⟩;refine⟨_,rfl, ?_⟩))
        go_ret
        exact⟨by first|rfl|(simp[Qh,Qg] <;> rfl)|(simp[*,Qh,Qg] <;> rfl),bel⟩
      ·replace a2:=Bool.eq_false_iff.mpr a2
       subst a2
       have H1:(some false)=some r:=by rw[if_neg (show ¬ (false=true) by decide)] at H;exact H
       clear H
       have H:=H1
       clear H1
       obtain rfl:=Option.some.inj H
       go_enter Try.func77,Try.ntmps77
       go_wp2_with (first|((with_reducible refine Qe (N:=1) rfl ?_);refine qE 1 #[.int .i64 B,.int .i64 J,.int .i64 L,.int .i64 Y,.int .i64 Z,.int .i64 ε,.int .i64 γ] 23 ?_;intro κ hg ay hbox hb;have ζ :=Aside0.mk hbox;have μ :=sGe hg;have ν :=sGe hg;replace HB:=sHb hb;clear hb hbox hg;obtain⟨a7,ar,a1,dl,dm,dn,dp,au,av,a8,dq,dr,dt,du⟩:=qD7 ζ.out)|((with_reducible refine Qd (f:=93) rfl ?_);refine Qn (some 11) rfl rfl Try.func93 kr rfl #[.int .i64 B] rfl qM ?_;(with_reducible refine(newelref17_tick.calls B true _ A2.out).mono ?_);rintro e w' ⟨rfl,⟨nd,rfl⟩⟩;refine⟨_,rfl, ?_⟩)|((with_reducible refine Qd (f:=93) rfl ?_);refine Qn (some 14) rfl rfl Try.func93 kr rfl #[.int .i64 J] rfl qM ?_;(with_reducible refine(newelref17_tick.calls J true _ A3.out).mono ?_);rintro e w' ⟨rfl,⟨nd,rfl⟩⟩;refine⟨_,rfl, ?_⟩)|((with_reducible refine Qd (f:=93) rfl ?_);refine Qn (some 17) rfl rfl Try.func93 kr rfl #[.int .i64 L] rfl qM ?_;(with_reducible refine(newelref17_tick.calls L true _ A4.out).mono ?_);rintro e w' ⟨rfl,⟨nd,rfl⟩⟩;refine⟨_,rfl, ?_⟩)|((with_reducible refine Qd (f:=93) rfl ?_);refine Qn (some 20) rfl rfl Try.func93 kr rfl #[.int .i64 Y] rfl qM ?_;(with_reducible refine(newelref17_tick.calls Y true _ A5.out).mono ?_);rintro e w' ⟨rfl,⟨nd,rfl⟩⟩;refine⟨_,rfl, ?_⟩)|((with_reducible refine Qd (f:=93) rfl ?_);refine Qn (some 23) rfl rfl Try.func93 kr rfl #[.int .i64 Z] rfl qM ?_;(with_reducible refine(newelref17_tick.calls Z true _ A6.out).mono ?_);rintro e w' ⟨rfl,⟨nd,rfl⟩⟩;refine⟨_,rfl, ?_⟩)|((with_reducible refine Qd (f:=93) rfl ?_);refine Qn (some 26) rfl rfl Try.func93 kr rfl #[.int .i64 ε] rfl qM ?_;(with_reducible refine(newelref17_tick.calls ε false _ A7.out).mono ?_);rintro e w' ⟨rfl,⟨nd,rfl⟩⟩;refine⟨_,rfl, ?_⟩))
       go_ret
       exact⟨by first|rfl|(simp[Qh,Qg] <;> rfl)|(simp[*,Qh,Qg] <;> rfl),bel⟩
     ·replace ae:=Bool.eq_false_iff.mpr ae
      subst ae
      have H1:(some false)=some r:=by rw[if_neg (show ¬ (false=true) by decide)] at H;exact H
      clear H
      have H:=H1
      clear H1
      obtain rfl:=Option.some.inj H
      go_enter Try.func77,Try.ntmps77
      go_wp2_with (first|((with_reducible refine Qe (N:=1) rfl ?_);refine qE 1 #[.int .i64 B,.int .i64 J,.int .i64 L,.int .i64 Y,.int .i64 Z,.int .i64 ε,.int .i64 γ] 23 ?_;intro κ hg bc hbox hb;have ζ :=Aside0.mk hbox;have μ :=sGe hg;have ν :=sGe hg;replace HB:=sHb hb;clear hb hbox hg;obtain⟨ct,cu,dv,gr,gs,gt,gu,cv,cw,dw,gv,gw,gx,gy⟩:=qD7 ζ.out)|((with_reducible refine Qd (f:=93) rfl ?_);refine Qn (some 11) rfl rfl Try.func93 kr rfl #[.int .i64 B] rfl qM ?_;(with_reducible refine(newelref17_tick.calls B true _ A2.out).mono ?_);rintro e w' ⟨rfl,⟨nd,rfl⟩⟩;refine⟨_,rfl, ?_⟩)|((with_reducible refine Qd (f:=93) rfl ?_);refine Qn (some 14) rfl rfl Try.func93 kr rfl #[.int .i64 J] rfl qM ?_;(with_reducible refine(newelref17_tick.calls J true _ A3.out).mono ?_);rintro e w' ⟨rfl,⟨nd,rfl⟩⟩;refine⟨_,rfl, ?_⟩)|((with_reducible refine Qd (f:=93) rfl ?_);refine Qn (some 17) rfl rfl Try.func93 kr rfl #[.int .i64 L] rfl qM ?_;(with_reducible refine(newelref17_tick.calls L true _ A4.out).mono ?_);rintro e w' ⟨rfl,⟨nd,rfl⟩⟩;refine⟨_,rfl, ?_⟩)|((with_reducible refine Qd (f:=93) rfl ?_);refine Qn (some 20) rfl rfl Try.func93 kr rfl #[.int .i64 Y] rfl qM ?_;(with_reducible refine(newelref17_tick.calls Y true _ A5.out).mono ?_);rintro e w' ⟨rfl,⟨nd,rfl⟩⟩;refine⟨_,rfl, ?_⟩)|((with_reducible refine Qd (f:=93) rfl ?_);refine Qn (some 23) rfl rfl Try.func93 kr rfl #[.int .i64 Z] rfl qM ?_;(with_reducible refine(newelref17_tick.calls Z false _ A6.out).mono ?_);rintro e w' ⟨rfl,⟨nd,rfl⟩⟩;refine⟨_,rfl, ?_⟩)|((with_reducible refine Qd (f:=93) rfl ?_);refine Qn (some 26) rfl rfl Try.func93 kr rfl #[.int .i64 ε] rfl qM ?_;(with_reducible refine(newelref17_tick.calls ε O _ A7.out).mono ?_);rintro e w' ⟨rfl,⟨nd,rfl⟩⟩;refine⟨_,rfl, ?_⟩))
      go_ret
      exact⟨by first|rfl|(simp[Qh,Qg] <;> rfl)|(simp[*,Qh,Qg] <;> rfl),bel⟩
    ·replace al:=Bool.eq_false_iff.mpr al
     subst al
     have H1:(some false)=some r:=by rw[if_neg (show ¬ (false=true) by decide)] at H;exact H
     clear H
     have H:=H1
     clear H1
     obtain rfl:=Option.some.inj H
     go_enter Try.func77,Try.ntmps77
     go_wp2_with (first|((with_reducible refine Qe (N:=1) rfl ?_);refine qE 1 #[.int .i64 B,.int .i64 J,.int .i64 L,.int .i64 Y,.int .i64 Z,.int .i64 ε,.int .i64 γ] 23 ?_;intro κ hg b6 hbox hb;have ζ :=Aside0.mk hbox;have μ :=sGe hg;have ν :=sGe hg;replace HB:=sHb hb;clear hb hbox hg;obtain⟨b9,ba,bo,gz,h0,h4,h5,bb,bf,d8,h6,h7,h8,h9⟩:=qD7 ζ.out)|((with_reducible refine Qd (f:=93) rfl ?_);refine Qn (some 11) rfl rfl Try.func93 kr rfl #[.int .i64 B] rfl qM ?_;(with_reducible refine(newelref17_tick.calls B true _ A2.out).mono ?_);rintro e w' ⟨rfl,⟨nd,rfl⟩⟩;refine⟨_,rfl, ?_⟩)|((with_reducible refine Qd (f:=93) rfl ?_);refine Qn (some 14) rfl rfl Try.func93 kr rfl #[.int .i64 J] rfl qM ?_;(with_reducible refine(newelref17_tick.calls J true _ A3.out).mono ?_);rintro e w' ⟨rfl,⟨nd,rfl⟩⟩;refine⟨_,rfl, ?_⟩)|((with_reducible refine Qd (f:=93) rfl ?_);refine Qn (some 17) rfl rfl Try.func93 kr rfl #[.int .i64 L] rfl qM ?_;(with_reducible refine(newelref17_tick.calls L true _ A4.out).mono ?_);rintro e w' ⟨rfl,⟨nd,rfl⟩⟩;refine⟨_,rfl, ?_⟩)|((with_reducible refine Qd (f:=93) rfl ?_);refine Qn (some 20) rfl rfl Try.func93 kr rfl #[.int .i64 Y] rfl qM ?_;(with_reducible refine(newelref17_tick.calls Y false _ A5.out).mono ?_);rintro e w' ⟨rfl,⟨nd,rfl⟩⟩;refine⟨_,rfl, ?_⟩)|((with_reducible refine Qd (f:=93) rfl ?_);refine Qn (some 23) rfl rfl Try.func93 kr rfl #[.int .i64 Z] rfl qM ?_;(with_reducible refine(newelref17_tick.calls Z X _ A6.out).mono ?_);rintro e w' ⟨rfl,⟨nd,rfl⟩⟩;refine⟨_,rfl, ?_⟩)|((with_reducible refine Qd (f:=93) rfl ?_);refine Qn (some 26) rfl rfl Try.func93 kr rfl #[.int .i64 ε] rfl qM ?_;(with_reducible refine(newelref17_tick.calls ε O _ A7.out).mono ?_);rintro e w' ⟨rfl,⟨nd,rfl⟩⟩;refine⟨_,rfl, ?_⟩))
     go_ret
     exact⟨by first|rfl|(simp[Qh,Qg] <;> rfl)|(simp[*,Qh,Qg] <;> rfl),bel⟩
   ·replace c10:=Bool.eq_false_iff.mpr c10
    subst c10
    have H1:(some false)=some r:=by rw[if_neg (show ¬ (false=true) by decide)] at H;exact H
    clear H
    have H:=H1
    clear H1
    obtain rfl:=Option.some.inj H
    go_enter Try.func77,Try.ntmps77
    go_wp2_with (first|((with_reducible refine Qe (N:=1) rfl ?_);refine qE 1 #[.int .i64 B,.int .i64 J,.int .i64 L,.int .i64 Y,.int .i64 Z,.int .i64 ε,.int .i64 γ] 23 ?_;intro κ hg fq hbox hb;have ζ :=Aside0.mk hbox;have μ :=sGe hg;have ν :=sGe hg;replace HB:=sHb hb;clear hb hbox hg;obtain⟨d9,da,dx,ee,ef,gf,gg,db,dc,dy,gh,gi,gj,ic⟩:=qD7 ζ.out)|((with_reducible refine Qd (f:=93) rfl ?_);refine Qn (some 11) rfl rfl Try.func93 kr rfl #[.int .i64 B] rfl qM ?_;(with_reducible refine(newelref17_tick.calls B true _ A2.out).mono ?_);rintro e w' ⟨rfl,⟨nd,rfl⟩⟩;refine⟨_,rfl, ?_⟩)|((with_reducible refine Qd (f:=93) rfl ?_);refine Qn (some 14) rfl rfl Try.func93 kr rfl #[.int .i64 J] rfl qM ?_;(with_reducible refine(newelref17_tick.calls J true _ A3.out).mono ?_);rintro e w' ⟨rfl,⟨nd,rfl⟩⟩;refine⟨_,rfl, ?_⟩)|((with_reducible refine Qd (f:=93) rfl ?_);refine Qn (some 17) rfl rfl Try.func93 kr rfl #[.int .i64 L] rfl qM ?_;(with_reducible refine(newelref17_tick.calls L false _ A4.out).mono ?_);rintro e w' ⟨rfl,⟨nd,rfl⟩⟩;refine⟨_,rfl, ?_⟩)|((with_reducible refine Qd (f:=93) rfl ?_);refine Qn (some 20) rfl rfl Try.func93 kr rfl #[.int .i64 Y] rfl qM ?_;(with_reducible refine(newelref17_tick.calls Y δ _ A5.out).mono ?_);rintro e w' ⟨rfl,⟨nd,rfl⟩⟩;refine⟨_,rfl, ?_⟩)|((with_reducible refine Qd (f:=93) rfl ?_);refine Qn (some 23) rfl rfl Try.func93 kr rfl #[.int .i64 Z] rfl qM ?_;(with_reducible refine(newelref17_tick.calls Z X _ A6.out).mono ?_);rintro e w' ⟨rfl,⟨nd,rfl⟩⟩;refine⟨_,rfl, ?_⟩)|((with_reducible refine Qd (f:=93) rfl ?_);refine Qn (some 26) rfl rfl Try.func93 kr rfl #[.int .i64 ε] rfl qM ?_;(with_reducible refine(newelref17_tick.calls ε O _ A7.out).mono ?_);rintro e w' ⟨rfl,⟨nd,rfl⟩⟩;refine⟨_,rfl, ?_⟩))
    go_ret
    exact⟨by first|rfl|(simp[Qh,Qg] <;> rfl)|(simp[*,Qh,Qg] <;> rfl),bel⟩
  ·replace c9:=Bool.eq_false_iff.mpr c9
   subst c9
   have H1:(some false)=some r:=by rw[if_neg (show ¬ (false=true) by decide)] at H;exact H
   clear H
   have H:=H1
   clear H1
   obtain rfl:=Option.some.inj H
   go_enter Try.func77,Try.ntmps77
   go_wp2_with (first|((with_reducible refine Qe (N:=1) rfl ?_);refine qE 1 #[.int .i64 B,.int .i64 J,.int .i64 L,.int .i64 Y,.int .i64 Z,.int .i64 ε,.int .i64 γ] 23 ?_;intro κ hg ey hbox hb;have ζ :=Aside0.mk hbox;have μ :=sGe hg;have ν :=sGe hg;replace HB:=sHb hb;clear hb hbox hg;obtain⟨eh,fi,fj,ie,ig,ih,ii,ei,fk,fl,ij,ik,il,im⟩:=qD7 ζ.out)|((with_reducible refine Qd (f:=93) rfl ?_);refine Qn (some 11) rfl rfl Try.func93 kr rfl #[.int .i64 B] rfl qM ?_;(with_reducible refine(newelref17_tick.calls B true _ A2.out).mono ?_);rintro e w' ⟨rfl,⟨nd,rfl⟩⟩;refine⟨_,rfl, ?_⟩)|((with_reducible refine Qd (f:=93) rfl ?_);refine Qn (some 14) rfl rfl Try.func93 kr rfl #[.int .i64 J] rfl qM ?_;(with_reducible refine(newelref17_tick.calls J false _ A3.out).mono ?_);rintro e w' ⟨rfl,⟨nd,rfl⟩⟩;refine⟨_,rfl, ?_⟩)|((with_reducible refine Qd (f:=93) rfl ?_);refine Qn (some 17) rfl rfl Try.func93 kr rfl #[.int .i64 L] rfl qM ?_;(with_reducible refine(newelref17_tick.calls L η _ A4.out).mono ?_);rintro e w' ⟨rfl,⟨nd,rfl⟩⟩;refine⟨_,rfl, ?_⟩)|((with_reducible refine Qd (f:=93) rfl ?_);refine Qn (some 20) rfl rfl Try.func93 kr rfl #[.int .i64 Y] rfl qM ?_;(with_reducible refine(newelref17_tick.calls Y δ _ A5.out).mono ?_);rintro e w' ⟨rfl,⟨nd,rfl⟩⟩;refine⟨_,rfl, ?_⟩)|((with_reducible refine Qd (f:=93) rfl ?_);refine Qn (some 23) rfl rfl Try.func93 kr rfl #[.int .i64 Z] rfl qM ?_;(with_reducible refine(newelref17_tick.calls Z X _ A6.out).mono ?_);rintro e w' ⟨rfl,⟨nd,rfl⟩⟩;refine⟨_,rfl, ?_⟩)|((with_reducible refine Qd (f:=93) rfl ?_);refine Qn (some 26) rfl rfl Try.func93 kr rfl #[.int .i64 ε] rfl qM ?_;(with_reducible refine(newelref17_tick.calls ε O _ A7.out).mono ?_);rintro e w' ⟨rfl,⟨nd,rfl⟩⟩;refine⟨_,rfl, ?_⟩))
   go_ret
   exact⟨by first|rfl|(simp[Qh,Qg] <;> rfl)|(simp[*,Qh,Qg] <;> rfl),bel⟩
 ·replace c8:=Bool.eq_false_iff.mpr c8
  subst c8
  have H1:(some false)=some r:=by rw[if_neg (show ¬ (false=true) by decide)] at H;exact H
  clear H
  have H:=H1
  clear H1
  obtain rfl:=Option.some.inj H
  go_enter Try.func77,Try.ntmps77
  go_wp2_with (first|((with_reducible refine Qe (N:=1) rfl ?_);refine qE 1 #[.int .i64 B,.int .i64 J,.int .i64 L,.int .i64 Y,.int .i64 Z,.int .i64 ε,.int .i64 γ] 23 ?_;intro κ hg ci hbox hb;have ζ :=Aside0.mk hbox;have μ :=sGe hg;have ν :=sGe hg;replace HB:=sHb hb;clear hb hbox hg;obtain⟨cf,dd,dz,ej,ek,el,em,de,df,e0,en,eo,ep,er⟩:=qD7 ζ.out)|((with_reducible refine Qd (f:=93) rfl ?_);refine Qn (some 11) rfl rfl Try.func93 kr rfl #[.int .i64 B] rfl qM ?_;(with_reducible refine(newelref17_tick.calls B false _ A2.out).mono ?_);rintro e w' ⟨rfl,⟨nd,rfl⟩⟩;refine⟨_,rfl, ?_⟩)|((with_reducible refine Qd (f:=93) rfl ?_);refine Qn (some 14) rfl rfl Try.func93 kr rfl #[.int .i64 J] rfl qM ?_;(with_reducible refine(newelref17_tick.calls J θ _ A3.out).mono ?_);rintro e w' ⟨rfl,⟨nd,rfl⟩⟩;refine⟨_,rfl, ?_⟩)|((with_reducible refine Qd (f:=93) rfl ?_);refine Qn (some 17) rfl rfl Try.func93 kr rfl #[.int .i64 L] rfl qM ?_;(with_reducible refine(newelref17_tick.calls L η _ A4.out).mono ?_);rintro e w' ⟨rfl,⟨nd,rfl⟩⟩;refine⟨_,rfl, ?_⟩)|((with_reducible refine Qd (f:=93) rfl ?_);refine Qn (some 20) rfl rfl Try.func93 kr rfl #[.int .i64 Y] rfl qM ?_;(with_reducible refine(newelref17_tick.calls Y δ _ A5.out).mono ?_);rintro e w' ⟨rfl,⟨nd,rfl⟩⟩;refine⟨_,rfl, ?_⟩)|((with_reducible refine Qd (f:=93) rfl ?_);refine Qn (some 23) rfl rfl Try.func93 kr rfl #[.int .i64 Z] rfl qM ?_;(with_reducible refine(newelref17_tick.calls Z X _ A6.out).mono ?_);rintro e w' ⟨rfl,⟨nd,rfl⟩⟩;refine⟨_,rfl, ?_⟩)|((with_reducible refine Qd (f:=93) rfl ?_);refine Qn (some 26) rfl rfl Try.func93 kr rfl #[.int .i64 ε] rfl qM ?_;(with_reducible refine(newelref17_tick.calls ε O _ A7.out).mono ?_);rintro e w' ⟨rfl,⟨nd,rfl⟩⟩;refine⟨_,rfl, ?_⟩))
  go_ret
  exact⟨by first|rfl|(simp[Qh,Qg] <;> rfl)|(simp[*,Qh,Qg] <;> rfl),bel⟩
def newelref17_Gear.f (B:Int) (J:Int) (L:Int) (Y:Int) (Z:Int) (ε :Int) (γ:Int) (θ :Int) (ζ :Int) (η :Int):Option (Bool):=(newelref17_Times.f J L Y Z ε γ θ).bind fun κ =>(if κ = true then (if B≥2 then (if B≤64 then (if ζ ≥ 1 then (if ζ ≤ 300 then (if η ≥ 0 then (some (decide (η ≤ 60))) else (some false)) else (some false)) else (some false)) else (some false)) else (some false)) else (some false))
set_option maxHeartbeats 8000000 in
set_option maxRecDepth 100000 in
theorem newelref17_Gear.calls (B:Int) (J:Int) (L:Int) (Y:Int) (Z:Int) (ε :Int) (γ:Int) (θ :Int) (ζ :Int) (η :Int) (r:Bool) (w:World) (h:newelref17_Gear.f B J L Y Z ε γ θ ζ η = some r):
  Calls Try.prog 53 #[.agg #[.int .i64 B,.int .i64 J,.int .i64 L,.int .i64 Y,.int .i64 Z,.int .i64 ε,.int .i64 γ,.int .i64 θ,.int .i64 ζ,.int .i64 η]] w fun e w'=>e = .returned (.bool r)∧Below w.heap.size w w':=by
 have cx:=Try.underlying25
 have k2:=Try.underlying23
 have HB:=Aside0.mk (Below.refl w.heap.size w)
 have H:((newelref17_Times.f J L Y Z ε γ θ).bind fun κ =>(if κ = true then (if B≥2 then (if B≤64 then (if ζ ≥ 1 then (if ζ ≤ 300 then (if η ≥ 0 then (some (decide (η ≤ 60))) else (some false)) else (some false)) else (some false)) else (some false)) else (some false)) else (some false)))=some r:=h
 clear h
 replace H:=Option.bind_eq_some_iff.mp H
 obtain⟨κ,ch,H⟩:=H
 replace H:(if κ = true then (if B≥2 then (if B≤64 then (if ζ ≥ 1 then (if ζ ≤ 300 then (if η ≥ 0 then (some (decide (η ≤ 60))) else (some false)) else (some false)) else (some false)) else (some false)) else (some false)) else (some false))=some r:=H
 have A2:=Aside0.mk ch
 clear ch
 by_cases c3: κ = true
 ·subst c3
  have H1:(if B≥2 then (if B≤64 then (if ζ ≥ 1 then (if ζ ≤ 300 then (if η ≥ 0 then (some (decide (η ≤ 60))) else (some false)) else (some false)) else (some false)) else (some false)) else (some false))=some r:=by rw[if_pos rfl] at H;exact H
  clear H
  have H:=H1
  clear H1
  by_cases c4:B≥2
  ·rw[if_pos c4] at H
   have c4b0:decide (2≤B)=true:=decide_eq_true c4
   clear c4
   by_cases c5:B≤64
   ·rw[if_pos c5] at H
    have c5b0:decide (B≤64)=true:=decide_eq_true c5
    clear c5
    by_cases c6: ζ ≥ 1
    ·rw[if_pos c6] at H
     have c6b0:decide (1 ≤ ζ)=true:=decide_eq_true c6
     clear c6
     by_cases c7: ζ ≤ 300
     ·rw[if_pos c7] at H
      have c7b0:decide (ζ ≤ 300)=true:=decide_eq_true c7
      clear c7
      by_cases c8: η ≥ 0
      ·rw[if_pos c8] at H
       have c8b0:decide (0 ≤ η)=true:=decide_eq_true c8
       clear c8
       obtain rfl:=Option.some.inj H
       go_enter Try.func53,Try.ntmps53
       go_wp2_with (first|((with_reducible refine Qe (N:=1) rfl ?_);refine qE 1 #[.int .i64 B,.int .i64 J,.int .i64 L,.int .i64 Y,.int .i64 Z,.int .i64 ε,.int .i64 γ,.int .i64 θ,.int .i64 ζ,.int .i64 η] 25 ?_;intro X hg w9 hbox hb;have O:=Aside0.mk hbox;have δ :=sGe hg;have ι :=sGe hg;replace HB:=sHb hb;clear hb hbox hg;obtain⟨ab,ai,aj,ah,ak,al,ao,a2,a6,bm,aw,ax,bd,ap,be,bk,bl,ed,gb,ge⟩:=Q5 O.out)|((with_reducible refine Qd (f:=77) rfl ?_);refine Qn (some 6) rfl rfl Try.func77 kr rfl #[.agg #[.int .i64 J,.int .i64 L,.int .i64 Y,.int .i64 Z,.int .i64 ε,.int .i64 γ,.int .i64 θ]] rfl qM ?_;(with_reducible refine(newelref17_Times.calls J L Y Z ε γ θ true _ A2.out).mono ?_);rintro e ez ⟨rfl,hb⟩;refine⟨_,rfl, ?_⟩;replace O:=sBk O hb;replace HB:=sHb hb;(try clear hb);(try clear a4);(try clear hk);(try clear hi);obtain⟨τ,φ,ae,dh,f7,f8,fa,a3,ac,b1,a5,a9,b8,fb,fc,fe,ff,b2,b3,gk⟩:=Q5 O.out))
       go_ret
       exact⟨rfl,HB.out⟩
      ·rw[if_neg c8] at H
       have c8b0:decide (0 ≤ η)=false:=decide_eq_false c8
       clear c8
       obtain rfl:=Option.some.inj H
       go_enter Try.func53,Try.ntmps53
       go_wp2_with (first|((with_reducible refine Qe (N:=1) rfl ?_);refine qE 1 #[.int .i64 B,.int .i64 J,.int .i64 L,.int .i64 Y,.int .i64 Z,.int .i64 ε,.int .i64 γ,.int .i64 θ,.int .i64 ζ,.int .i64 η] 25 ?_;intro X hg i3 hbox hb;have O:=Aside0.mk hbox;have δ :=sGe hg;have ι :=sGe hg;replace HB:=sHb hb;clear hb hbox hg;obtain⟨bg,bh,bp,d0,d1,d2,d3,eg,gl,gm,bi,bj,bq,d4,d5,d6,d7,ft,gn,gp⟩:=Q5 O.out)|((with_reducible refine Qd (f:=77) rfl ?_);refine Qn (some 6) rfl rfl Try.func77 kr rfl #[.agg #[.int .i64 J,.int .i64 L,.int .i64 Y,.int .i64 Z,.int .i64 ε,.int .i64 γ,.int .i64 θ]] rfl qM ?_;(with_reducible refine(newelref17_Times.calls J L Y Z ε γ θ true _ A2.out).mono ?_);rintro e g9 ⟨rfl,hb⟩;refine⟨_,rfl, ?_⟩;replace O:=sBk O hb;replace HB:=sHb hb;(try clear hb);(try clear a4);(try clear hk);(try clear hi);obtain⟨bw,bz,cq,bn,e7,e8,e9,fu,g6,g7,ca,cb,cr,ev,ew,fg,fh,fv,g8,ga⟩:=Q5 O.out))
       go_ret
       exact⟨rfl,HB.out⟩
     ·rw[if_neg c7] at H
      have c7b0:decide (ζ ≤ 300)=false:=decide_eq_false c7
      clear c7
      obtain rfl:=Option.some.inj H
      go_enter Try.func53,Try.ntmps53
      go_wp2_with (first|((with_reducible refine Qe (N:=1) rfl ?_);refine qE 1 #[.int .i64 B,.int .i64 J,.int .i64 L,.int .i64 Y,.int .i64 Z,.int .i64 ε,.int .i64 γ,.int .i64 θ,.int .i64 ζ,.int .i64 η] 25 ?_;intro X hg e6 hbox hb;have O:=Aside0.mk hbox;have δ :=sGe hg;have ι :=sGe hg;replace HB:=sHb hb;clear hb hbox hg;obtain⟨br,bs,dj,e5,fr,fw,σ,ρ,χ,ω,bu,bv,dk,fx,fy,fz,ψ,a0,aa,af⟩:=Q5 O.out)|((with_reducible refine Qd (f:=77) rfl ?_);refine Qn (some 6) rfl rfl Try.func77 kr rfl #[.agg #[.int .i64 J,.int .i64 L,.int .i64 Y,.int .i64 Z,.int .i64 ε,.int .i64 γ,.int .i64 θ]] rfl qM ?_;(with_reducible refine(newelref17_Times.calls J L Y Z ε γ θ true _ A2.out).mono ?_);rintro e ay ⟨rfl,hb⟩;refine⟨_,rfl, ?_⟩;replace O:=sBk O hb;replace HB:=sHb hb;(try clear hb);(try clear a4);(try clear hk);(try clear hi);obtain⟨a7,ar,a1,dl,dm,dn,dp,i5,i6,i7,au,av,a8,dq,dr,dt,du,i9,ia,ib⟩:=Q5 O.out))
      go_ret
      exact⟨rfl,HB.out⟩
    ·rw[if_neg c6] at H
     have c6b0:decide (1 ≤ ζ)=false:=decide_eq_false c6
     clear c6
     obtain rfl:=Option.some.inj H
     go_enter Try.func53,Try.ntmps53
     go_wp2_with (first|((with_reducible refine Qe (N:=1) rfl ?_);refine qE 1 #[.int .i64 B,.int .i64 J,.int .i64 L,.int .i64 Y,.int .i64 Z,.int .i64 ε,.int .i64 γ,.int .i64 θ,.int .i64 ζ,.int .i64 η] 25 ?_;intro X hg bc hbox hb;have O:=Aside0.mk hbox;have δ :=sGe hg;have ι :=sGe hg;replace HB:=sHb hb;clear hb hbox hg;obtain⟨ct,cu,dv,gr,gs,gt,gu,jd,je,jf,cv,cw,dw,gv,gw,gx,gy,jg,jh,ji⟩:=Q5 O.out)|((with_reducible refine Qd (f:=77) rfl ?_);refine Qn (some 6) rfl rfl Try.func77 kr rfl #[.agg #[.int .i64 J,.int .i64 L,.int .i64 Y,.int .i64 Z,.int .i64 ε,.int .i64 γ,.int .i64 θ]] rfl qM ?_;(with_reducible refine(newelref17_Times.calls J L Y Z ε γ θ true _ A2.out).mono ?_);rintro e b6 ⟨rfl,hb⟩;refine⟨_,rfl, ?_⟩;replace O:=sBk O hb;replace HB:=sHb hb;(try clear hb);(try clear a4);(try clear hk);(try clear hi);obtain⟨b9,ba,bo,gz,h0,h4,h5,hy,i0,jj,bb,bf,d8,h6,h7,h8,h9,jk,jl,jm⟩:=Q5 O.out))
     go_ret
     exact⟨rfl,HB.out⟩
   ·rw[if_neg c5] at H
    have c5b0:decide (B≤64)=false:=decide_eq_false c5
    clear c5
    obtain rfl:=Option.some.inj H
    go_enter Try.func53,Try.ntmps53
    go_wp2_with (first|((with_reducible refine Qe (N:=1) rfl ?_);refine qE 1 #[.int .i64 B,.int .i64 J,.int .i64 L,.int .i64 Y,.int .i64 Z,.int .i64 ε,.int .i64 γ,.int .i64 θ,.int .i64 ζ,.int .i64 η] 25 ?_;intro X hg fq hbox hb;have O:=Aside0.mk hbox;have δ :=sGe hg;have ι :=sGe hg;replace HB:=sHb hb;clear hb hbox hg;obtain⟨d9,da,dx,ee,ef,gf,gg,j4,j6,j7,db,dc,dy,gh,gi,gj,ic,j5,j8,j9⟩:=Q5 O.out)|((with_reducible refine Qd (f:=77) rfl ?_);refine Qn (some 6) rfl rfl Try.func77 kr rfl #[.agg #[.int .i64 J,.int .i64 L,.int .i64 Y,.int .i64 Z,.int .i64 ε,.int .i64 γ,.int .i64 θ]] rfl qM ?_;(with_reducible refine(newelref17_Times.calls J L Y Z ε γ θ true _ A2.out).mono ?_);rintro e ey ⟨rfl,hb⟩;refine⟨_,rfl, ?_⟩;replace O:=sBk O hb;replace HB:=sHb hb;(try clear hb);(try clear a4);(try clear hk);(try clear hi);obtain⟨eh,fi,fj,ie,ig,ih,ii,jn,jo,jp,ei,fk,fl,ij,ik,il,im,jq,jr,js⟩:=Q5 O.out))
    go_ret
    exact⟨rfl,HB.out⟩
  ·rw[if_neg c4] at H
   have c4b0:decide (2≤B)=false:=decide_eq_false c4
   clear c4
   obtain rfl:=Option.some.inj H
   go_enter Try.func53,Try.ntmps53
   go_wp2_with (first|((with_reducible refine Qe (N:=1) rfl ?_);refine qE 1 #[.int .i64 B,.int .i64 J,.int .i64 L,.int .i64 Y,.int .i64 Z,.int .i64 ε,.int .i64 γ,.int .i64 θ,.int .i64 ζ,.int .i64 η] 25 ?_;intro X hg ci hbox hb;have O:=Aside0.mk hbox;have δ :=sGe hg;have ι :=sGe hg;replace HB:=sHb hb;clear hb hbox hg;obtain⟨cf,dd,dz,ej,ek,el,em,g0,g1,g2,de,df,e0,en,eo,ep,er,g3,g4,g5⟩:=Q5 O.out)|((with_reducible refine Qd (f:=77) rfl ?_);refine Qn (some 6) rfl rfl Try.func77 kr rfl #[.agg #[.int .i64 J,.int .i64 L,.int .i64 Y,.int .i64 Z,.int .i64 ε,.int .i64 γ,.int .i64 θ]] rfl qM ?_;(with_reducible refine(newelref17_Times.calls J L Y Z ε γ θ true _ A2.out).mono ?_);rintro e k1 ⟨rfl,hb⟩;refine⟨_,rfl, ?_⟩;replace O:=sBk O hb;replace HB:=sHb hb;(try clear hb);(try clear a4);(try clear hk);(try clear hi);obtain⟨io,ip,iq,jt,ju,jv,jw,cd,ce,k4,ir,it,iu,jx,jy,jz,k0,k5,k6,k7⟩:=Q5 O.out))
   go_ret
   exact⟨rfl,HB.out⟩
 ·replace c3:=Bool.eq_false_iff.mpr c3
  subst c3
  have H1:(some false)=some r:=by rw[if_neg (show ¬ (false=true) by decide)] at H;exact H
  clear H
  have H:=H1
  clear H1
  obtain rfl:=Option.some.inj H
  go_enter Try.func53,Try.ntmps53
  go_wp2_with (first|((with_reducible refine Qe (N:=1) rfl ?_);refine qE 1 #[.int .i64 B,.int .i64 J,.int .i64 L,.int .i64 Y,.int .i64 Z,.int .i64 ε,.int .i64 γ,.int .i64 θ,.int .i64 ζ,.int .i64 η] 25 ?_;intro X hg ja hbox hb;have O:=Aside0.mk hbox;have δ :=sGe hg;have ι :=sGe hg;replace HB:=sHb hb;clear hb hbox hg;obtain⟨et,fm,fn,ha,he,hh,hj,iv,iw,ix,eu,fo,fp,hl,ho,hu,hx,iy,iz,j3⟩:=Q5 O.out)|((with_reducible refine Qd (f:=77) rfl ?_);refine Qn (some 6) rfl rfl Try.func77 kr rfl #[.agg #[.int .i64 J,.int .i64 L,.int .i64 Y,.int .i64 Z,.int .i64 ε,.int .i64 γ,.int .i64 θ]] rfl qM ?_;(with_reducible refine(newelref17_Times.calls J L Y Z ε γ θ false _ A2.out).mono ?_);rintro e ka ⟨rfl,hb⟩;refine⟨_,rfl, ?_⟩;replace O:=sBk O hb;replace HB:=sHb hb;(try clear hb);(try clear a4);(try clear hk);(try clear hi)))
  go_ret
  exact⟨rfl,HB.out⟩
def newelref17_Rest.j0:Nat→Int→Int→Int→Int→Int→Int→Int→Int→Int→Int→Int→Int→Int→Int→Option (Int)
 |0,_,_,_,_,_,_,_,_,_,_,_,_,_,_=>none
 |k+1,L,γ,δ,ε,X,ζ,η,B,θ,Y,J,Z,ι,O=>if Z=2 then (if J>O then (some (wrap64 ((wrap64 (L+B))+(wrap64 ((wrap64 (J-O)) * (wrap64 ((wrap64 (X+Y))+B))))))) else (some (wrap64 (L+B)))) else (if J>O then (some (wrap64 (L+(wrap64 ((wrap64 (J-O)) * (wrap64 ((wrap64 (X+Y))+B))))))) else (some L))
def newelref17_Rest.f (k:Nat) (B:Int) (J:Int) (L:Int) (Y:Int) (Z:Int) (ε :Int) (γ:Int) (θ :Int) (ζ :Int) (η :Int) (O:Int) (X:Int) (δ :Int):Option (Int):=if O=0 then (some 0) else (if O=1 then (newelref17_Rest.j0 k (wrap64 ((wrap64 (X + ζ))+γ)) B J L Y Z ε γ θ ζ η O X δ) else (newelref17_Rest.j0 k X B J L Y Z ε γ θ ζ η O X δ))
set_option maxHeartbeats 8000000 in
set_option maxRecDepth 100000 in
theorem newelref17_Rest.calls (k:Nat) (B:Int) (J:Int) (L:Int) (Y:Int) (Z:Int) (ε :Int) (γ:Int) (θ :Int) (ζ :Int) (η :Int) (O:Int) (X:Int) (δ :Int) (r:Int) (w:World) (h:newelref17_Rest.f k B J L Y Z ε γ θ ζ η O X δ = some r):
  Calls Try.prog 56 #[.agg #[.int .i64 B,.int .i64 J,.int .i64 L,.int .i64 Y,.int .i64 Z,.int .i64 ε,.int .i64 γ,.int .i64 θ,.int .i64 ζ,.int .i64 η],.agg #[.int .i64 O,.int .i64 X,.int .i64 δ]] w fun e w'=>e = .returned (.int .i64 r)∧Below w.heap.size w w':=by
 have cx:=Try.underlying25
 have i4:=Try.underlying27
 have HB:=Aside0.mk (Below.refl w.heap.size w)
 have H:(if O=0 then (some 0) else (if O=1 then (newelref17_Rest.j0 k (wrap64 ((wrap64 (X + ζ))+γ)) B J L Y Z ε γ θ ζ η O X δ) else (newelref17_Rest.j0 k X B J L Y Z ε γ θ ζ η O X δ)))=some r:=h
 clear h
 by_cases c3:O=0
 ·rw[if_pos c3] at H
  have c3b0:(O==0)=true:=beq_iff_eq.mpr c3
  have c3b1:(O != 0)=false:=bne_eq_false_iff_eq.mpr c3
  clear c3
  obtain rfl:=Option.some.inj H
  go_enter Try.func56,Try.ntmps56
  go_wp2_with (first|((with_reducible refine Qe (N:=2) rfl ?_);refine qE 2 #[.int .i64 B,.int .i64 J,.int .i64 L,.int .i64 Y,.int .i64 Z,.int .i64 ε,.int .i64 γ,.int .i64 θ,.int .i64 ζ,.int .i64 η] 25 ?_;intro ρ hg w4 hbox hb;have ι :=Aside0.mk hbox;have χ :=sGe hg;have a3:=sGe hg;replace HB:=sHb hb;clear hb hbox hg)|((with_reducible refine Qe (N:=3) rfl ?_);refine qE 3 #[.int .i64 O,.int .i64 X,.int .i64 δ] 27 ?_;intro σ hg w5 hbox hb;have ν :=Aside0.mk hbox;have a4:=sGe hg;have ab:=sGe hg;have κ :=sNl ι hg;have μ :=sNg ι hg;replace ι :=sBk ι hb;replace HB:=sHb hb;clear hb hbox hg;have ao:= μ.out;have ap:= κ.out;obtain⟨ψ,ω,bf,a0,bb,cg⟩:=qD3 ν.out))
  go_ret
  exact⟨rfl,HB.out⟩
 ·rw[if_neg c3] at H
  have c3b0:(O==0)=false:=beq_eq_false_iff_ne.mpr c3
  have c3b1:(O != 0)=true:=bne_iff_ne.mpr c3
  have aa:=Aside0.mk H
  clear H
  go_enter Try.func56,Try.ntmps56
  go_upto_if 13 with(first|((with_reducible refine Qe (N:=2) rfl ?_);refine qE 2 #[.int .i64 B,.int .i64 J,.int .i64 L,.int .i64 Y,.int .i64 Z,.int .i64 ε,.int .i64 γ,.int .i64 θ,.int .i64 ζ,.int .i64 η] 25 ?_;intro ρ hg w9 hbox hb;have ι :=Aside0.mk hbox;have χ :=sGe hg;have a3:=sGe hg;replace HB:=sHb hb;clear hb hbox hg)|((with_reducible refine Qe (N:=3) rfl ?_);refine qE 3 #[.int .i64 O,.int .i64 X,.int .i64 δ] 27 ?_;intro σ hg fg hbox hb;have ν :=Aside0.mk hbox;have a4:=sGe hg;have ab:=sGe hg;have κ :=sNl ι hg;have μ :=sNg ι hg;replace ι :=sBk ι hb;replace HB:=sHb hb;clear hb hbox hg;have ga:= μ.out;have gb:= κ.out;obtain⟨τ,φ,ae,a5,a9,b8⟩:=qD3 ν.out))
  (try simp only[Act.put,qS])
  go_cut [5] (fun v5 wc=>∃ (kq:Nat) (ξ :Int),v5 = .int .i64 ξ ∧ Aside0 (newelref17_Rest.j0 kq ξ B J L Y Z ε γ θ ζ η O X δ = some r)∧Aside0 (kq≤k)∧Aside0 (wc.heap[ρ]?=some (.cells #[.int .i64 B,.int .i64 J,.int .i64 L,.int .i64 Y,.int .i64 Z,.int .i64 ε,.int .i64 γ,.int .i64 θ,.int .i64 ζ,.int .i64 η] 25 (0,0)))∧Aside0 (wc.heap[σ]?=some (.cells #[.int .i64 O,.int .i64 X,.int .i64 δ] 27 (0,0)))∧Aside0 (Below w.heap.size w wc))
  case first=>
   have H:=aa.out
   clear aa
   by_cases a2:O=1
   ·rw[if_pos a2] at H
    have c13b0:(O==1)=true:=beq_iff_eq.mpr a2
    have c13b1:(O != 1)=false:=bne_eq_false_iff_eq.mpr a2
    clear a2
    (first|rw[c13b0]|(simp only[Za,Zb];rw[c13b0])|skip)
    have H':=Aside0.mk H
    clear H
    have h7:= κ.out
    have h8:= μ.out
    obtain⟨b1,b2,cd,bg,bh,bi,ac,bs,bu,eg,b3,b4,ce,bj,bq,d0,ei,ey,f7,f8⟩:=Q5 ι.out
    go_wp2
    go_meet
    case rel=>exact⟨_,(wrap64 ((wrap64 (X + ζ))+γ)),rfl,H',⟨by first|omega|exact Nat.le_refl _⟩,ι,ν,HB⟩
   ·rw[if_neg a2] at H
    have c13b0:(O==1)=false:=beq_eq_false_iff_ne.mpr a2
    have c13b1:(O != 1)=true:=bne_iff_ne.mpr a2
    (first|rw[c13b0]|(simp only[Za,Zb];rw[c13b0])|skip)
    have H':=Aside0.mk H
    clear H
    go_wp2
    go_meet
    case rel=>exact⟨_,(X),rfl,H',⟨by first|omega|exact Nat.le_refl _⟩,ι,ν,HB⟩
  case rest=>
   clear aa
   try clear c1
   try clear p2
   try clear c3
   try clear c3b0
   try clear c3b1
   try clear c5
   try clear c6
   try clear p6
   try clear al
   try clear a2
   try clear c13b0
   try clear c13b1
   try clear ag
   try clear τ
   try clear φ
   try clear ae
   try clear b1
   try clear b2
   try clear cd
   try clear bg
   try clear bh
   try clear bi
   try clear ac
   try clear bs
   try clear bu
   try clear eg
   try clear ψ
   try clear ω
   try clear bf
   try clear a5
   try clear a9
   try clear b8
   try clear b3
   try clear b4
   try clear ce
   try clear bj
   try clear bq
   try clear d0
   try clear ei
   try clear ey
   try clear f7
   try clear f8
   try clear a0
   try clear bb
   try clear cg
   obtain⟨kq,ξ,rfl,HA,b9,ι,ν,HB⟩:=hcut
   cases kq with
   |zero=>exact absurd HA.out (by simp[newelref17_Rest.j0])
   |succ ba=>
    have H:=HA.out
    clear HA
    simp only[newelref17_Rest.j0] at H
    by_cases a6:O=2
    ·rw[if_pos a6] at H
     have c16b0:(O==2)=true:=beq_iff_eq.mpr a6
     have c16b1:(O != 2)=false:=bne_eq_false_iff_eq.mpr a6
     clear a6
     by_cases af: η > δ
     ·rw[if_pos af] at H
      have c17b0:decide (δ < η)=true:=decide_eq_true af
      clear af
      obtain rfl:=Option.some.inj H
      have fz:= μ.out
      have gq:= κ.out
      obtain⟨am,an,b5,ay,b0,b7⟩:=qD3 ν.out
      obtain⟨a7,ar,a1,dl,dm,dn,dp,i5,i6,i7,au,av,a8,dq,dr,dt,du,i9,ia,ib⟩:=Q5 ι.out
      go_wp2
      go_ret
      exact⟨rfl,HB.out⟩
     ·rw[if_neg af] at H
      have c17b0:decide (δ < η)=false:=decide_eq_false af
      clear af
      obtain rfl:=Option.some.inj H
      have fh:= μ.out
      have fr:= κ.out
      obtain⟨ct,cu,dv,cv,cw,dw⟩:=qD3 ν.out
      obtain⟨cy,cz,di,et,eu,fo,fp,he,hh,hj,e3,e4,e5,hl,ho,hu,hx,js,k1,k3⟩:=Q5 ι.out
      go_wp2
      go_ret
      exact⟨rfl,HB.out⟩
    ·rw[if_neg a6] at H
     have c16b0:(O==2)=false:=beq_eq_false_iff_ne.mpr a6
     have c16b1:(O != 2)=true:=bne_iff_ne.mpr a6
     by_cases bo: η > δ
     ·rw[if_pos bo] at H
      have c24b0:decide (δ < η)=true:=decide_eq_true bo
      clear bo
      obtain rfl:=Option.some.inj H
      have d1:= μ.out
      have d2:= κ.out
      obtain⟨d9,da,dx,db,dc,dy⟩:=qD3 ν.out
      obtain⟨ca,cj,cn,ah,ai,aj,ak,aw,ax,az,co,d3,d4,b6,bc,bd,be,bk,bl,bm⟩:=Q5 ι.out
      go_wp2
      go_ret
      exact⟨rfl,HB.out⟩
     ·rw[if_neg bo] at H
      have c24b0:decide (δ < η)=false:=decide_eq_false bo
      clear bo
      obtain rfl:=Option.some.inj H
      have ck:= μ.out
      have cm:= κ.out
      obtain⟨br,bv,dk,fa,fb,fc⟩:=qD3 ν.out
      obtain⟨cf,dd,dz,ej,ek,el,em,g0,g1,g2,de,df,e0,en,eo,ep,er,g3,g4,g5⟩:=Q5 ι.out
      go_wp2
      go_ret
      exact⟨rfl,HB.out⟩
def newelref17_May.j0:Nat→Bool→Int→Int→Int→Option (Bool)
 |0,_,_,_,_=>none
 |k+1,O,B,J,L=>if O=true then (some false) else (if B=2 then (some (decide (J≤300))) else (if B=1 then (some (decide (J≤60))) else (if B=3 then (some (decide (J≤60))) else (some false))))
def newelref17_May.f (k:Nat) (B:Int) (J:Int) (L:Int):Option (Bool):=if B=0 then (if J=0 then (some (L==0)) else (some false)) else (if L<0 then (newelref17_May.j0 k true B J L) else (if L>60 then (newelref17_May.j0 k true B J L) else (newelref17_May.j0 k (decide (J<1)) B J L)))
set_option maxHeartbeats 8000000 in
set_option maxRecDepth 100000 in
theorem newelref17_May.calls (k:Nat) (B:Int) (J:Int) (L:Int) (r:Bool) (w:World) (h:newelref17_May.f k B J L=some r):
  Calls Try.prog 78 #[.agg #[.int .i64 B,.int .i64 J,.int .i64 L]] w fun e w'=>e = .returned (.bool r)∧Below w.heap.size w w':=by
 have i4:=Try.underlying27
 have HB:=Aside0.mk (Below.refl w.heap.size w)
 have H:(if B=0 then (if J=0 then (some (L==0)) else (some false)) else (if L<0 then (newelref17_May.j0 k true B J L) else (if L>60 then (newelref17_May.j0 k true B J L) else (newelref17_May.j0 k (decide (J<1)) B J L))))=some r:=h
 clear h
 by_cases c2:B=0
 ·rw[if_pos c2] at H
  have c2b0:(B==0)=true:=beq_iff_eq.mpr c2
  have c2b1:(B != 0)=false:=bne_eq_false_iff_eq.mpr c2
  clear c2
  by_cases c3:J=0
  ·rw[if_pos c3] at H
   have c3b0:(J==0)=true:=beq_iff_eq.mpr c3
   have c3b1:(J != 0)=false:=bne_eq_false_iff_eq.mpr c3
   clear c3
   obtain rfl:=Option.some.inj H
   go_enter Try.func78,Try.ntmps78
   go_wp2_with (first|((with_reducible refine Qe (N:=1) rfl ?_);refine qE 1 #[.int .i64 B,.int .i64 J,.int .i64 L] 27 ?_;intro Y hg w4 hbox hb;have O:=Aside0.mk hbox;have Z:=sGe hg;have γ:=sGe hg;replace HB:=sHb hb;clear hb hbox hg;obtain⟨b5,b7,cf,ch,cj,ck⟩:=qD3 O.out))
   go_ret
   exact⟨rfl,HB.out⟩
  ·rw[if_neg c3] at H
   have c3b0:(J==0)=false:=beq_eq_false_iff_ne.mpr c3
   have c3b1:(J != 0)=true:=bne_iff_ne.mpr c3
   obtain rfl:=Option.some.inj H
   go_enter Try.func78,Try.ntmps78
   go_wp2_with (first|((with_reducible refine Qe (N:=1) rfl ?_);refine qE 1 #[.int .i64 B,.int .i64 J,.int .i64 L] 27 ?_;intro Y hg w6 hbox hb;have O:=Aside0.mk hbox;have Z:=sGe hg;have γ:=sGe hg;replace HB:=sHb hb;clear hb hbox hg;obtain⟨ψ,ω,bf,a0,bb,cg⟩:=qD3 O.out))
   go_ret
   exact⟨rfl,HB.out⟩
 ·rw[if_neg c2] at H
  have c2b0:(B==0)=false:=beq_eq_false_iff_ne.mpr c2
  have c2b1:(B != 0)=true:=bne_iff_ne.mpr c2
  have aa:=Aside0.mk H
  clear H
  go_enter Try.func78,Try.ntmps78
  go_upto_region 3 with(first|((with_reducible refine Qe (N:=1) rfl ?_);refine qE 1 #[.int .i64 B,.int .i64 J,.int .i64 L] 27 ?_;intro Y hg w9 hbox hb;have O:=Aside0.mk hbox;have Z:=sGe hg;have γ:=sGe hg;replace HB:=sHb hb;clear hb hbox hg;obtain⟨ab,ai,aj,aw,ax,bd⟩:=qD3 O.out))
  (try simp only[Act.put,qS])
  go_cut [26] (fun δ wc=>∃ (kq:Nat) (X:Bool),δ = .bool X∧Aside0 (newelref17_May.j0 kq X B J L=some r)∧Aside0 (kq≤k)∧Aside0 (wc.heap[Y]?=some (.cells #[.int .i64 B,.int .i64 J,.int .i64 L] 27 (0,0)))∧Aside0 (Below w.heap.size w wc))
  case first=>
   have H:=aa.out
   clear aa
   by_cases al:L<0
   ·rw[if_pos al] at H
    have c11b0:decide (L<0)=true:=decide_eq_true al
    clear al
    (first|rw[c11b0]|(simp only[Za,Zb];rw[c11b0])|skip)
    have H':=Aside0.mk H
    clear H
    obtain⟨τ,φ,ae,a5,a9,b8⟩:=qD3 O.out
    go_wp2
    go_meet
    case rel=>exact⟨_,(true),rfl,H',⟨by first|omega|exact Nat.le_refl _⟩,O,HB⟩
   ·rw[if_neg al] at H
    have c11b0:decide (L<0)=false:=decide_eq_false al
    clear al
    (first|rw[c11b0]|(simp only[Za,Zb];rw[c11b0])|skip)
    by_cases a2:L>60
    ·rw[if_pos a2] at H
     have c13b0:decide (60<L)=true:=decide_eq_true a2
     clear a2
     have H':=Aside0.mk H
     clear H
     obtain⟨bg,bh,bp,bi,bj,bq⟩:=qD3 O.out
     go_wp2
     go_meet
     case rel=>exact⟨_,(true),rfl,H',⟨by first|omega|exact Nat.le_refl _⟩,O,HB⟩
    ·rw[if_neg a2] at H
     have c13b0:decide (60<L)=false:=decide_eq_false a2
     clear a2
     have H':=Aside0.mk H
     clear H
     obtain⟨b1,b2,cd,b3,b4,ce⟩:=qD3 O.out
     go_wp2
     go_meet
     case rel=>exact⟨_,(decide (J<1)),rfl,H',⟨by first|omega|exact Nat.le_refl _⟩,O,HB⟩
  case rest=>
   clear aa
   try clear c1
   try clear c2
   try clear c2b0
   try clear c2b1
   try clear p2
   try clear c3
   try clear c3b0
   try clear c3b1
   try clear c7
   try clear al
   try clear c11b0
   try clear a2
   try clear c13b0
   try clear ab
   try clear ai
   try clear aj
   try clear τ
   try clear φ
   try clear ae
   try clear bg
   try clear bh
   try clear bp
   try clear b1
   try clear b2
   try clear cd
   try clear b5
   try clear b7
   try clear cf
   try clear ψ
   try clear ω
   try clear bf
   try clear aw
   try clear ax
   try clear bd
   try clear a5
   try clear a9
   try clear b8
   try clear bi
   try clear bj
   try clear bq
   try clear b3
   try clear b4
   try clear ce
   try clear ch
   try clear cj
   try clear ck
   try clear a0
   try clear bb
   try clear cg
   obtain⟨kq,X,rfl,HA,b9,O,HB⟩:=hcut
   cases kq with
   |zero=>exact absurd HA.out (by simp[newelref17_May.j0])
   |succ ba=>
    have H:=HA.out
    clear HA
    simp only[newelref17_May.j0] at H
    by_cases a6:X=true
    ·subst a6
     have H1:(some false)=some r:=by rw[if_pos rfl] at H;exact H
     clear H
     have H:=H1
     clear H1
     obtain rfl:=Option.some.inj H
     go_wp2
     go_ret
     exact⟨rfl,HB.out⟩
    ·replace a6:=Bool.eq_false_iff.mpr a6
     subst a6
     have H1:(if B=2 then (some (decide (J≤300))) else (if B=1 then (some (decide (J≤60))) else (if B=3 then (some (decide (J≤60))) else (some false))))=some r:=by rw[if_neg (show ¬ (false=true) by decide)] at H;exact H
     clear H
     have H:=H1
     clear H1
     by_cases af:B=2
     ·rw[if_pos af] at H
      have c17b0:(B==2)=true:=beq_iff_eq.mpr af
      have c17b1:(B != 2)=false:=bne_eq_false_iff_eq.mpr af
      clear af
      obtain rfl:=Option.some.inj H
      obtain⟨br,bs,dj,bu,bv,dk⟩:=qD3 O.out
      go_wp2
      go_ret
      exact⟨rfl,HB.out⟩
     ·rw[if_neg af] at H
      have c17b0:(B==2)=false:=beq_eq_false_iff_ne.mpr af
      have c17b1:(B != 2)=true:=bne_iff_ne.mpr af
      by_cases ci:B=1
      ·rw[if_pos ci] at H
       have c19b0:(B==1)=true:=beq_iff_eq.mpr ci
       have c19b1:(B != 1)=false:=bne_eq_false_iff_eq.mpr ci
       clear ci
       obtain rfl:=Option.some.inj H
       obtain⟨a7,ar,a1,au,av,a8⟩:=qD3 O.out
       go_wp2
       go_ret
       exact⟨rfl,HB.out⟩
      ·rw[if_neg ci] at H
       have c19b0:(B==1)=false:=beq_eq_false_iff_ne.mpr ci
       have c19b1:(B != 1)=true:=bne_iff_ne.mpr ci
       by_cases σ:B=3
       ·rw[if_pos σ] at H
        have c21b0:(B==3)=true:=beq_iff_eq.mpr σ
        have c21b1:(B != 3)=false:=bne_eq_false_iff_eq.mpr σ
        clear σ
        obtain rfl:=Option.some.inj H
        obtain⟨ct,cu,dv,cv,cw,dw⟩:=qD3 O.out
        go_wp2
        go_ret
        exact⟨rfl,HB.out⟩
       ·rw[if_neg σ] at H
        have c21b0:(B==3)=false:=beq_eq_false_iff_ne.mpr σ
        have c21b1:(B != 3)=true:=bne_iff_ne.mpr σ
        obtain rfl:=Option.some.inj H
        obtain⟨cy,cz,di,e3,e4,e5⟩:=qD3 O.out
        go_wp2
        go_ret
        exact⟨rfl,HB.out⟩
mutual
def newelref18_May.j0:Nat→Int→Bool→Int→Int→Int→Int→Int→Int→Int→Option (Bool)
 |0,_,_,_,_,_,_,_,_,_=>none
 |k+1,B,Y,L,J,O,X,γ,δ,ε =>if Y=true then (some false) else (if X≥1 then (newelref18_May.j1 k B (γ==0) (decide (X≤60)) L J O X γ δ ε) else (newelref18_May.j1 k B (γ==0) false L J O X γ δ ε))
def newelref18_May.j1:Nat→Int→Bool→Bool→Int→Int→Int→Int→Int→Int→Int→Option (Bool)
 |0,_,_,_,_,_,_,_,_,_,_=>none
 |k+1,B,Z,Y,L,J,O,X,γ,δ,ε =>if O=0 then (if J=0 then (if X=0 then (some Z) else (some false)) else (some false)) else (if O=1 then (if J=1 then (if J=(-1) then (if (wrap64 (L+1))<B then (if Y=true then (some Z) else (some false)) else (if L>0 then (if Y=true then (some Z) else (some false)) else (some false))) else (if (wrap64 (L+1))<B then (if Y=true then (some Z) else (some false)) else (some false))) else (if J=(-1) then (if L>0 then (if Y=true then (some Z) else (some false)) else (some false)) else (some false))) else (if O=2 then (if J=0 then (if Y=true then (some Z) else (some false)) else (some false)) else (if O=3 then (if J=0 then (if X=0 then (some (!Z)) else (some false)) else (some false)) else (some false))))
end
def newelref18_May.f (k:Nat) (B:Int) (O:Int) (X:Int) (δ :Int) (κ :Int) (ι :Int) (μ :Int) (ν :Int):Option (Bool):=(newelref17_May.f k ι μ ν).bind fun γ=>(if B<2 then (newelref18_May.j0 k B true O X δ κ ι μ ν) else (if B>64 then (newelref18_May.j0 k B true O X δ κ ι μ ν) else (if O<0 then (newelref18_May.j0 k B true O X δ κ ι μ ν) else (if O≥B then (newelref18_May.j0 k B true O X δ κ ι μ ν) else (newelref18_May.j0 k B (!γ) O X δ κ ι μ ν)))))
set_option maxHeartbeats 8000000 in
set_option maxRecDepth 100000 in
theorem newelref18_May.calls (k:Nat) (B:Int) (O:Int) (X:Int) (δ :Int) (κ :Int) (ι :Int) (μ :Int) (ν :Int) (r:Bool) (w:World) (h:newelref18_May.f k B O X δ κ ι μ ν = some r):
  Calls Try.prog 54 #[.int .i64 B,.agg #[.int .i64 O,.int .i64 X,.int .i64 δ,.int .i64 κ,.int .i64 ι,.int .i64 μ,.int .i64 ν]] w fun e w'=>e = .returned (.bool r)∧Below w.heap.size w w':=by
 have iw:=Try.underlying29
 have i4:=Try.underlying27
 have HB:=Aside0.mk (Below.refl w.heap.size w)
 have H:((newelref17_May.f k ι μ ν).bind fun γ=>(if B<2 then (newelref18_May.j0 k B true O X δ κ ι μ ν) else (if B>64 then (newelref18_May.j0 k B true O X δ κ ι μ ν) else (if O<0 then (newelref18_May.j0 k B true O X δ κ ι μ ν) else (if O≥B then (newelref18_May.j0 k B true O X δ κ ι μ ν) else (newelref18_May.j0 k B (!γ) O X δ κ ι μ ν))))))=some r:=h
 clear h
 replace H:=Option.bind_eq_some_iff.mp H
 obtain⟨γ,aa,H⟩:=H
 replace H:(if B<2 then (newelref18_May.j0 k B true O X δ κ ι μ ν) else (if B>64 then (newelref18_May.j0 k B true O X δ κ ι μ ν) else (if O<0 then (newelref18_May.j0 k B true O X δ κ ι μ ν) else (if O≥B then (newelref18_May.j0 k B true O X δ κ ι μ ν) else (newelref18_May.j0 k B (!γ) O X δ κ ι μ ν)))))=some r:=H
 have A3:=Aside0.mk aa
 clear aa
 have ct:=Aside0.mk H
 clear H
 go_enter Try.func54,Try.ntmps54
 go_upto_region 2 with(first|((with_reducible refine Qe (N:=3) rfl ?_);refine qE 3 #[.int .i64 O,.int .i64 X,.int .i64 δ,.int .i64 κ,.int .i64 ι,.int .i64 μ,.int .i64 ν] 29 ?_;intro η hg w5 hbox hb;have J:=Aside0.mk hbox;have ol:=sGe hg;have om:=sGe hg;replace HB:=sHb hb;clear hb hbox hg;obtain⟨ξ,b3,bn,br,cb,cq,cr,cy,cz,dh,e3,e4,e5,ed⟩:=qD7 J.out)|((with_reducible refine Qd (f:=78) rfl ?_);refine Qn (some 12) rfl rfl Try.func78 kr rfl #[.agg #[.int .i64 ι,.int .i64 μ,.int .i64 ν]] rfl qM ?_;(with_reducible refine(newelref17_May.calls k ι μ ν γ _ A3.out).mono ?_);rintro e w7 ⟨rfl,hb⟩;refine⟨_,rfl, ?_⟩;replace J:=sBk J hb;replace HB:=sHb hb;(try clear hb);(try clear a4);(try clear hk);(try clear hi)))
 (try simp only[Act.put,qS])
 go_cut [33] (fun oj wc=>∃ (kq:Nat) (ε :Bool),oj = .bool ε ∧ Aside0 (newelref18_May.j0 kq B ε O X δ κ ι μ ν = some r)∧Aside0 (kq≤k)∧Aside0 (wc.heap[η]?=some (.cells #[.int .i64 O,.int .i64 X,.int .i64 δ,.int .i64 κ,.int .i64 ι,.int .i64 μ,.int .i64 ν] 29 (0,0)))∧Aside0 (Below w.heap.size w wc))
 case first=>
  have H:=ct.out
  clear ct
  by_cases c8:B<2
  ·rw[if_pos c8] at H
   have c8b0:decide (B<2)=true:=decide_eq_true c8
   clear c8
   (first|rw[c8b0]|(simp only[Za,Zb];rw[c8b0])|skip)
   have H':=Aside0.mk H
   clear H
   go_wp2
   go_meet
   case rel=>exact⟨_,(true),rfl,H',⟨by first|omega|exact Nat.le_refl _⟩,J,HB⟩
  ·rw[if_neg c8] at H
   have c8b0:decide (B<2)=false:=decide_eq_false c8
   clear c8
   (first|rw[c8b0]|(simp only[Za,Zb];rw[c8b0])|skip)
   by_cases c9:B>64
   ·rw[if_pos c9] at H
    have c9b0:decide (64<B)=true:=decide_eq_true c9
    clear c9
    have H':=Aside0.mk H
    clear H
    go_wp2
    go_meet
    case rel=>exact⟨_,(true),rfl,H',⟨by first|omega|exact Nat.le_refl _⟩,J,HB⟩
   ·rw[if_neg c9] at H
    have c9b0:decide (64<B)=false:=decide_eq_false c9
    clear c9
    by_cases c10:O<0
    ·rw[if_pos c10] at H
     have c10b0:decide (O<0)=true:=decide_eq_true c10
     clear c10
     have H':=Aside0.mk H
     clear H
     obtain⟨ah,ak,aw,b6,bd,be,χ,ao,ap,ax,bk,bl,bm,al⟩:=qD7 J.out
     go_wp2
     go_meet
     case rel=>exact⟨_,(true),rfl,H',⟨by first|omega|exact Nat.le_refl _⟩,J,HB⟩
    ·rw[if_neg c10] at H
     have c10b0:decide (O<0)=false:=decide_eq_false c10
     clear c10
     by_cases ae:O≥B
     ·rw[if_pos ae] at H
      have c12b0:decide (B≤O)=true:=decide_eq_true ae
      clear ae
      have H':=Aside0.mk H
      clear H
      obtain⟨ai,a6,a2,τ,φ,a9,az,aj,ab,a3,b1,b2,b4,b8⟩:=qD7 J.out
      go_wp2
      go_meet
      case rel=>exact⟨_,(true),rfl,H',⟨by first|omega|exact Nat.le_refl _⟩,J,HB⟩
     ·rw[if_neg ae] at H
      have c12b0:decide (B≤O)=false:=decide_eq_false ae
      clear ae
      have H':=Aside0.mk H
      clear H
      obtain⟨bg,bh,bp,d0,d1,d2,d3,bi,bj,bq,d4,d5,d6,d7⟩:=qD7 J.out
      go_wp2
      go_meet
      case rel=>exact⟨_,(!γ),rfl,H',⟨by first|omega|exact Nat.le_refl _⟩,J,HB⟩
 case rest=>
  clear ct
  try clear c1
  try clear p2
  try clear c5
  try clear c7
  try clear c8
  try clear c8b0
  try clear c9
  try clear c9b0
  try clear c10
  try clear c10b0
  try clear ae
  try clear c12b0
  try clear ah
  try clear ak
  try clear aw
  try clear b6
  try clear bd
  try clear be
  try clear χ
  try clear ai
  try clear a6
  try clear a2
  try clear τ
  try clear φ
  try clear a9
  try clear az
  try clear bg
  try clear bh
  try clear bp
  try clear d0
  try clear d1
  try clear d2
  try clear d3
  try clear ξ
  try clear b3
  try clear bn
  try clear br
  try clear cb
  try clear cq
  try clear cr
  try clear ao
  try clear ap
  try clear ax
  try clear bk
  try clear bl
  try clear bm
  try clear al
  try clear aj
  try clear ab
  try clear a3
  try clear b1
  try clear b2
  try clear b4
  try clear b8
  try clear bi
  try clear bj
  try clear bq
  try clear d4
  try clear d5
  try clear d6
  try clear d7
  try clear cy
  try clear cz
  try clear dh
  try clear e3
  try clear e4
  try clear e5
  try clear ed
  obtain⟨kq,ε,rfl,HA,dv,J,HB⟩:=hcut
  cases kq with
  |zero=>exact absurd HA.out (by simp[newelref18_May.j0])
  |succ a5=>
   have H:=HA.out
   clear HA
   simp only[newelref18_May.j0] at H
   by_cases ac: ε = true
   ·subst ac
    have H1:(some false)=some r:=by rw[if_pos rfl] at H;exact H
    clear H
    have H:=H1
    clear H1
    obtain rfl:=Option.some.inj H
    go_wp2
    go_ret
    exact⟨rfl,HB.out⟩
   ·replace ac:=Bool.eq_false_iff.mpr ac
    subst ac
    have H1:(if κ ≥ 1 then (newelref18_May.j1 a5 B (ι == 0) (decide (κ ≤ 60)) O X δ κ ι μ ν) else (newelref18_May.j1 a5 B (ι == 0) false O X δ κ ι μ ν))=some r:=by rw[if_neg (show ¬ (false=true) by decide)] at H;exact H
    clear H
    have H:=H1
    clear H1
    have ζ :=Aside0.mk H
    clear H
    obtain⟨af,cd,bs,ag,bv,dd,df,ce,cf,bu,e0,ea,eb,ec⟩:=qD7 J.out
    go_upto_region 5 with(fail)
    go_cut [7] (fun v7 wc=>∃ (kq:Nat) (L:Bool),v7 = .bool L∧Aside0 (newelref18_May.j1 kq B (ι == 0) L O X δ κ ι μ ν = some r)∧Aside0 (kq≤a5)∧Aside0 (wc.heap[η]?=some (.cells #[.int .i64 O,.int .i64 X,.int .i64 δ,.int .i64 κ,.int .i64 ι,.int .i64 μ,.int .i64 ν] 29 (0,0)))∧Aside0 (Below w.heap.size w wc))
    case first=>
     have H:= ζ.out
     clear ζ
     by_cases bc: κ ≥ 1
     ·rw[if_pos bc] at H
      have c18b0:decide (1 ≤ κ)=true:=decide_eq_true bc
      clear bc
      (first|rw[c18b0]|(simp only[Za,Zb];rw[c18b0])|skip)
      have H':=Aside0.mk H
      clear H
      obtain⟨am,an,b5,cg,ch,ci,cj,ay,b0,b7,ck,cm,cn,co⟩:=qD7 J.out
      go_wp2
      go_meet
      case rel=>exact⟨_,(decide (κ ≤ 60)),rfl,H',⟨by have:=dv.out;omega⟩,J,HB⟩
     ·rw[if_neg bc] at H
      have c18b0:decide (1 ≤ κ)=false:=decide_eq_false bc
      clear bc
      (first|rw[c18b0]|(simp only[Za,Zb];rw[c18b0])|skip)
      have H':=Aside0.mk H
      clear H
      obtain⟨a7,ar,a1,dl,dm,dn,dp,au,av,a8,dq,dr,dt,du⟩:=qD7 J.out
      go_wp2
      go_meet
      case rel=>exact⟨_,(false),rfl,H',⟨by have:=dv.out;omega⟩,J,HB⟩
    case rest=>
     clear ζ
     try clear c1
     try clear p2
     try clear c5
     try clear c7
     try clear c8
     try clear c8b0
     try clear c9
     try clear c9b0
     try clear c10
     try clear c10b0
     try clear ae
     try clear c12b0
     try clear ac
     try clear bc
     try clear c18b0
     try clear ah
     try clear ak
     try clear aw
     try clear b6
     try clear bd
     try clear be
     try clear χ
     try clear ai
     try clear a6
     try clear a2
     try clear τ
     try clear φ
     try clear a9
     try clear az
     try clear bg
     try clear bh
     try clear bp
     try clear d0
     try clear d1
     try clear d2
     try clear d3
     try clear af
     try clear cd
     try clear bs
     try clear ag
     try clear bv
     try clear dd
     try clear df
     try clear am
     try clear an
     try clear b5
     try clear cg
     try clear ch
     try clear ci
     try clear cj
     try clear a7
     try clear ar
     try clear a1
     try clear dl
     try clear dm
     try clear dn
     try clear dp
     try clear ξ
     try clear b3
     try clear bn
     try clear br
     try clear cb
     try clear cq
     try clear cr
     try clear ao
     try clear ap
     try clear ax
     try clear bk
     try clear bl
     try clear bm
     try clear al
     try clear aj
     try clear ab
     try clear a3
     try clear b1
     try clear b2
     try clear b4
     try clear b8
     try clear bi
     try clear bj
     try clear bq
     try clear d4
     try clear d5
     try clear d6
     try clear d7
     try clear ce
     try clear cf
     try clear bu
     try clear e0
     try clear ea
     try clear eb
     try clear ec
     try clear ay
     try clear b0
     try clear b7
     try clear ck
     try clear cm
     try clear cn
     try clear co
     try clear au
     try clear av
     try clear a8
     try clear dq
     try clear dr
     try clear dt
     try clear du
     try clear cy
     try clear cz
     try clear dh
     try clear e3
     try clear e4
     try clear e5
     try clear ed
     try clear p2
     obtain⟨kq,L,rfl,HA,oo,J,HB⟩:=hcut
     cases kq with
     |zero=>exact absurd HA.out (by simp[newelref18_May.j1])
     |succ oq=>
      have H:=HA.out
      clear HA
      simp only[newelref18_May.j1] at H
      by_cases σ: δ = 0
      ·rw[if_pos σ] at H
       have c21b0:(δ == 0)=true:=beq_iff_eq.mpr σ
       have c21b1:(δ != 0)=false:=bne_eq_false_iff_eq.mpr σ
       clear σ
       by_cases cx:X=0
       ·rw[if_pos cx] at H
        have c22b0:(X==0)=true:=beq_iff_eq.mpr cx
        have c22b1:(X != 0)=false:=bne_eq_false_iff_eq.mpr cx
        clear cx
        by_cases Y: κ = 0
        ·rw[if_pos Y] at H
         have c23b0:(κ == 0)=true:=beq_iff_eq.mpr Y
         have c23b1:(κ != 0)=false:=bne_eq_false_iff_eq.mpr Y
         clear Y
         obtain rfl:=Option.some.inj H
         obtain⟨b9,ba,bo,gz,h0,h4,h5,bb,bf,d8,h6,h7,h8,h9⟩:=qD7 J.out
         go_wp2
         go_ret
         exact⟨rfl,HB.out⟩
        ·rw[if_neg Y] at H
         have c23b0:(κ == 0)=false:=beq_eq_false_iff_ne.mpr Y
         have c23b1:(κ != 0)=true:=bne_iff_ne.mpr Y
         obtain rfl:=Option.some.inj H
         obtain⟨fq,fw,fz,fr,ie,ig,ih,fx,fy,gq,ii,ij,ik,il⟩:=qD7 J.out
         go_wp2
         go_ret
         exact⟨rfl,HB.out⟩
       ·rw[if_neg cx] at H
        have c22b0:(X==0)=false:=beq_eq_false_iff_ne.mpr cx
        have c22b1:(X != 0)=true:=bne_iff_ne.mpr cx
        obtain rfl:=Option.some.inj H
        obtain⟨d9,da,dx,ee,ef,gf,gg,db,dc,dy,gh,gi,gj,ic⟩:=qD7 J.out
        go_wp2
        go_ret
        exact⟨rfl,HB.out⟩
      ·rw[if_neg σ] at H
       have c21b0:(δ == 0)=false:=beq_eq_false_iff_ne.mpr σ
       have c21b1:(δ != 0)=true:=bne_iff_ne.mpr σ
       by_cases ey: δ = 1
       ·rw[if_pos ey] at H
        have c27b0:(δ == 1)=true:=beq_iff_eq.mpr ey
        have c27b1:(δ != 1)=false:=bne_eq_false_iff_eq.mpr ey
        clear ey
        by_cases bz:X=1
        ·rw[if_pos bz] at H
         have c28b0:(X==1)=true:=beq_iff_eq.mpr bz
         have c28b1:(X != 1)=false:=bne_eq_false_iff_eq.mpr bz
         clear bz
         by_cases ca:X=(-1)
         ·rw[if_pos ca] at H
          have c29b0:(X==(-1))=true:=beq_iff_eq.mpr ca
          have c29b1:(X != (-1))=false:=bne_eq_false_iff_eq.mpr ca
          clear ca
          by_cases Z:(wrap64 (O+1))<B
          ·rw[if_pos Z] at H
           have c30b0:decide ((wrap64 (O+1))<B)=true:=decide_eq_true Z
           clear Z
           by_cases eh:L=true
           ·subst eh
            have H1:(some (ι == 0))=some r:=by rw[if_pos rfl] at H;exact H
            clear H
            have H:=H1
            clear H1
            obtain rfl:=Option.some.inj H
            obtain⟨io,ip,iq,jt,ju,jv,jw,ir,it,iu,jx,jy,jz,k0⟩:=qD7 J.out
            go_wp2
            go_ret
            exact⟨rfl,HB.out⟩
           ·replace eh:=Bool.eq_false_iff.mpr eh
            subst eh
            have H1:(some false)=some r:=by rw[if_neg (show ¬ (false=true) by decide)] at H;exact H
            clear H
            have H:=H1
            clear H1
            obtain rfl:=Option.some.inj H
            obtain⟨e6,e7,ev,fg,fh,ft,fu,e8,e9,ew,fv,g6,g7,g8⟩:=qD7 J.out
            go_wp2
            go_ret
            exact⟨rfl,HB.out⟩
          ·rw[if_neg Z] at H
           have c30b0:decide ((wrap64 (O+1))<B)=false:=decide_eq_false Z
           clear Z
           by_cases gu:O>0
           ·rw[if_pos gu] at H
            have c34b0:decide (0<O)=true:=decide_eq_true gu
            clear gu
            by_cases er:L=true
            ·subst er
             have H1:(some (ι == 0))=some r:=by rw[if_pos rfl] at H;exact H
             clear H
             have H:=H1
             clear H1
             obtain rfl:=Option.some.inj H
             obtain⟨g0,g1,g5,dk,et,eu,fb,g2,g3,ha,fc,fo,fp,gk⟩:=qD7 J.out
             go_wp2
             go_ret
             exact⟨rfl,HB.out⟩
            ·replace er:=Bool.eq_false_iff.mpr er
             subst er
             have H1:(some false)=some r:=by rw[if_neg (show ¬ (false=true) by decide)] at H;exact H
             clear H
             have H:=H1
             clear H1
             obtain rfl:=Option.some.inj H
             obtain⟨ez,fm,fn,f7,i1,i2,j5,kh,ki,kj,j6,j7,j8,j9⟩:=qD7 J.out
             go_wp2
             go_ret
             exact⟨rfl,HB.out⟩
           ·rw[if_neg gu] at H
            have c34b0:decide (0<O)=false:=decide_eq_false gu
            clear gu
            obtain rfl:=Option.some.inj H
            obtain⟨gt,kv,kw,kx,lh,ll,lx,ly,lz,m0,m1,m2,m3,m4⟩:=qD7 J.out
            go_wp2
            go_ret
            exact⟨rfl,HB.out⟩
         ·rw[if_neg ca] at H
          have c29b0:(X==(-1))=false:=beq_eq_false_iff_ne.mpr ca
          have c29b1:(X != (-1))=true:=bne_iff_ne.mpr ca
          by_cases di:(wrap64 (O+1))<B
          ·rw[if_pos di] at H
           have c39b0:decide ((wrap64 (O+1))<B)=true:=decide_eq_true di
           clear di
           by_cases de:L=true
           ·subst de
            have H1:(some (ι == 0))=some r:=by rw[if_pos rfl] at H;exact H
            clear H
            have H:=H1
            clear H1
            obtain rfl:=Option.some.inj H
            obtain⟨fi,fj,im,ix,iy,iz,j3,fk,fl,iv,jj,jk,jl,jm⟩:=qD7 J.out
            go_wp2
            go_ret
            exact⟨rfl,HB.out⟩
           ·replace de:=Bool.eq_false_iff.mpr de
            subst de
            have H1:(some false)=some r:=by rw[if_neg (show ¬ (false=true) by decide)] at H;exact H
            clear H
            have H:=H1
            clear H1
            obtain rfl:=Option.some.inj H
            obtain⟨dz,i6,i7,ej,jb,jc,mj,i9,ia,ib,ml,mm,mo,mq⟩:=qD7 J.out
            go_wp2
            go_ret
            exact⟨rfl,HB.out⟩
          ·rw[if_neg di] at H
           have c39b0:decide ((wrap64 (O+1))<B)=false:=decide_eq_false di
           clear di
           obtain rfl:=Option.some.inj H
           obtain⟨eo,ep,kz,lm,ln,lp,lq,l2,l3,l4,lr,ls,lu,lv⟩:=qD7 J.out
           go_wp2
           go_ret
           exact⟨rfl,HB.out⟩
        ·rw[if_neg bz] at H
         have c28b0:(X==1)=false:=beq_eq_false_iff_ne.mpr bz
         have c28b1:(X != 1)=true:=bne_iff_ne.mpr bz
         by_cases gv:X=(-1)
         ·rw[if_pos gv] at H
          have c44b0:(X==(-1))=true:=beq_iff_eq.mpr gv
          have c44b1:(X != (-1))=false:=bne_eq_false_iff_eq.mpr gv
          clear gv
          by_cases gw:O>0
          ·rw[if_pos gw] at H
           have c45b0:decide (0<O)=true:=decide_eq_true gw
           clear gw
           by_cases j4:L=true
           ·subst j4
            have H1:(some (ι == 0))=some r:=by rw[if_pos rfl] at H;exact H
            clear H
            have H:=H1
            clear H1
            obtain rfl:=Option.some.inj H
            obtain⟨cu,cv,gr,dw,f8,fe,θ,cw,eg,gs,ff,gx,gy,ρ⟩:=qD7 J.out
            go_wp2
            go_ret
            exact⟨rfl,HB.out⟩
           ·replace j4:=Bool.eq_false_iff.mpr j4
            subst j4
            have H1:(some false)=some r:=by rw[if_neg (show ¬ (false=true) by decide)] at H;exact H
            clear H
            have H:=H1
            clear H1
            obtain rfl:=Option.some.inj H
            obtain⟨ek,el,km,ks,kt,ku,ma,em,en,mb,mc,me,mf,mg⟩:=qD7 J.out
            go_wp2
            go_ret
            exact⟨rfl,HB.out⟩
          ·rw[if_neg gw] at H
           have c45b0:decide (0<O)=false:=decide_eq_false gw
           clear gw
           obtain rfl:=Option.some.inj H
           obtain⟨hu,hx,jn,jo,jp,jq,jr,kf,kg,kn,ko,kp,l5,l6⟩:=qD7 J.out
           go_wp2
           go_ret
           exact⟨rfl,HB.out⟩
         ·rw[if_neg gv] at H
          have c44b0:(X==(-1))=false:=beq_eq_false_iff_ne.mpr gv
          have c44b1:(X != (-1))=true:=bne_iff_ne.mpr gv
          obtain rfl:=Option.some.inj H
          obtain⟨ho,mh,mi,ψ,ω,gl,gm,kk,mw,my,gn,gp,i5,ja⟩:=qD7 J.out
          go_wp2
          go_ret
          exact⟨rfl,HB.out⟩
       ·rw[if_neg ey] at H
        have c27b0:(δ == 1)=false:=beq_eq_false_iff_ne.mpr ey
        have c27b1:(δ != 1)=true:=bne_iff_ne.mpr ey
        by_cases i3: δ = 2
        ·rw[if_pos i3] at H
         have c51b0:(δ == 2)=true:=beq_iff_eq.mpr i3
         have c51b1:(δ != 2)=false:=bne_eq_false_iff_eq.mpr i3
         clear i3
         by_cases ei:X=0
         ·rw[if_pos ei] at H
          have c52b0:(X==0)=true:=beq_iff_eq.mpr ei
          have c52b1:(X != 0)=false:=bne_eq_false_iff_eq.mpr ei
          clear ei
          by_cases fa:L=true
          ·subst fa
           have H1:(some (ι == 0))=some r:=by rw[if_pos rfl] at H;exact H
           clear H
           have H:=H1
           clear H1
           obtain rfl:=Option.some.inj H
           obtain⟨jd,je,jf,jg,jh,ji,k1,k2,k3,k4,k5,k6,k7,k8⟩:=qD7 J.out
           go_wp2
           go_ret
           exact⟨rfl,HB.out⟩
          ·replace fa:=Bool.eq_false_iff.mpr fa
           subst fa
           have H1:(some false)=some r:=by rw[if_neg (show ¬ (false=true) by decide)] at H;exact H
           clear H
           have H:=H1
           clear H1
           obtain rfl:=Option.some.inj H
           obtain⟨g9,ga,hy,k9,ka,kb,js,gb,ge,i0,kc,kd,ke,lw⟩:=qD7 J.out
           go_wp2
           go_ret
           exact⟨rfl,HB.out⟩
         ·rw[if_neg ei] at H
          have c52b0:(X==0)=false:=beq_eq_false_iff_ne.mpr ei
          have c52b1:(X != 0)=true:=bne_iff_ne.mpr ei
          obtain rfl:=Option.some.inj H
          obtain⟨mr,ms,mt,mu,mz,n0,n1,n2,n3,na,nb,nc,nf,ng⟩:=qD7 J.out
          go_wp2
          go_ret
          exact⟨rfl,HB.out⟩
        ·rw[if_neg i3] at H
         have c51b0:(δ == 2)=false:=beq_eq_false_iff_ne.mpr i3
         have c51b1:(δ != 2)=true:=bne_iff_ne.mpr i3
         by_cases cp: δ = 3
         ·rw[if_pos cp] at H
          have c57b0:(δ == 3)=true:=beq_iff_eq.mpr cp
          have c57b1:(δ != 3)=false:=bne_eq_false_iff_eq.mpr cp
          clear cp
          by_cases bw:X=0
          ·rw[if_pos bw] at H
           have c58b0:(X==0)=true:=beq_iff_eq.mpr bw
           have c58b1:(X != 0)=false:=bne_eq_false_iff_eq.mpr bw
           clear bw
           by_cases g4: κ = 0
           ·rw[if_pos g4] at H
            have c59b0:(κ == 0)=true:=beq_iff_eq.mpr g4
            have c59b1:(κ != 0)=false:=bne_eq_false_iff_eq.mpr g4
            clear g4
            obtain rfl:=Option.some.inj H
            obtain⟨nd,ni,nj,nk,nl,nm,nn,no,np,nq,nr,ns,nt,nu⟩:=qD7 J.out
            go_wp2
            go_ret
            exact⟨rfl,HB.out⟩
           ·rw[if_neg g4] at H
            have c59b0:(κ == 0)=false:=beq_eq_false_iff_ne.mpr g4
            have c59b1:(κ != 0)=true:=bne_iff_ne.mpr g4
            obtain rfl:=Option.some.inj H
            obtain⟨ky,l7,l8,l9,lb,lc,lf,lg,m5,m6,m7,m8,m9,oi⟩:=qD7 J.out
            go_wp2
            go_ret
            exact⟨rfl,HB.out⟩
          ·rw[if_neg bw] at H
           have c58b0:(X==0)=false:=beq_eq_false_iff_ne.mpr bw
           have c58b1:(X != 0)=true:=bne_iff_ne.mpr bw
           obtain rfl:=Option.some.inj H
           obtain⟨he,hh,dj,nh,nv,nw,nx,hj,hl,kl,ny,nz,o0,o1⟩:=qD7 J.out
           go_wp2
           go_ret
           exact⟨rfl,HB.out⟩
         ·rw[if_neg cp] at H
          have c57b0:(δ == 3)=false:=beq_eq_false_iff_ne.mpr cp
          have c57b1:(δ != 3)=true:=bne_iff_ne.mpr cp
          obtain rfl:=Option.some.inj H
          obtain⟨o2,o3,o4,o5,o6,o7,o8,o9,oa,ob,oc,od,oe,oh⟩:=qD7 J.out
          go_wp2
          go_ret
          exact⟨rfl,HB.out⟩
def car_within.f (B:Int) (O:Int) (a2:Int):Option (Bool):=if O≤B then (some (decide (B≤a2))) else (some false)
set_option maxHeartbeats 8000000 in
set_option maxRecDepth 100000 in
theorem car_within.calls (B:Int) (O:Int) (a2:Int) (r:Bool) (w:World) (h:car_within.f B O a2=some r):
  Calls Try.prog 85 #[.int .i64 B,.int .i64 O,.int .i64 a2] w fun e w'=>e = .returned (.bool r)∧Drawn0 w w':=by
 have H:(if O≤B then (some (decide (B≤a2))) else (some false))=some r:=h
 clear h
 by_cases c4:O≤B
 ·rw[if_pos c4] at H
  have c4b0:decide (O≤B)=true:=decide_eq_true c4
  clear c4
  obtain rfl:=Option.some.inj H
  go_enter Try.func85,Try.ntmps85
  go_wp2
  go_ret
  exact⟨qR,by repeat(first|exact Drawn0.refl _|apply Drawn0.step)⟩
 ·rw[if_neg c4] at H
  have c4b0:decide (O≤B)=false:=decide_eq_false c4
  clear c4
  obtain rfl:=Option.some.inj H
  go_enter Try.func85,Try.ntmps85
  go_wp2
  go_ret
  exact⟨qR,by repeat(first|exact Drawn0.refl _|apply Drawn0.step)⟩
def newelref18_Rest.f (k:Nat) (B:Int) (J:Int) (L:Int) (Y:Int) (Z:Int) (ε :Int) (γ:Int) (θ :Int) (ζ :Int) (η :Int) (O:Int) (X:Int) (δ :Int) (κ :Int) (ι :Int) (μ :Int) (ν :Int):Option (Int):=if δ = 1 then (some κ) else (if δ = 2 then ((newelref17_Rest.f k B J L Y Z ε γ θ ζ η 1 Y 0).bind fun ac=>(some (wrap64 (κ + ac)))) else ((newelref17_Rest.f k B J L Y Z ε γ θ ζ η ι μ ν).bind fun ae=>(some ae)))
def newelref18_Rest.T4:Bool×List (List Nat×List Nat):=(true,[([],[]),([0],[0]),([],[]),([],[]),([3],[3]),([4],[4]),([5],[5]),([2,6],[2,6]),([1,7],[1,7]),([8,7,0,1,2,3,4,5,6,7,8],[8])])
def newelref18_Rest.B4:List Nat:=[0,1,0,0,8,24,56,124,255,511]
theorem newelref18_Rest.K8:rtab .any (opsOf Try.f34 4)=newelref18_Rest.T4:=by kernel_rfl
theorem newelref18_Rest.Jl:Zr newelref18_Rest.T4.2 newelref18_Rest.B4=true:=by kernel_rfl
set_option maxHeartbeats 8000000 in
set_option maxRecDepth 100000 in
theorem newelref18_Rest.calls (k:Nat) (B:Int) (J:Int) (L:Int) (Y:Int) (Z:Int) (ε :Int) (γ:Int) (θ :Int) (ζ :Int) (η :Int) (O:Int) (X:Int) (δ :Int) (κ :Int) (ι :Int) (μ :Int) (ν :Int) (r:Int) (w:World) (h:newelref18_Rest.f k B J L Y Z ε γ θ ζ η O X δ κ ι μ ν = some r):
  Calls Try.prog 34 #[.agg #[.int .i64 B,.int .i64 J,.int .i64 L,.int .i64 Y,.int .i64 Z,.int .i64 ε,.int .i64 γ,.int .i64 θ,.int .i64 ζ,.int .i64 η],.agg #[.int .i64 O,.int .i64 X,.int .i64 δ,.int .i64 κ,.int .i64 ι,.int .i64 μ,.int .i64 ν]] w fun e w'=>e = .returned (.int .i64 r)∧Below w.heap.size w w':=by
 have cx:=Try.underlying25
 have iw:=Try.underlying29
 have i4:=Try.underlying27
 have HB:=Aside0.mk (Below.refl w.heap.size w)
 have H:(if δ = 1 then (some κ) else (if δ = 2 then ((newelref17_Rest.f k B J L Y Z ε γ θ ζ η 1 Y 0).bind fun ac=>(some (wrap64 (κ + ac)))) else ((newelref17_Rest.f k B J L Y Z ε γ θ ζ η ι μ ν).bind fun ae=>(some ae))))=some r:=h
 clear h
 by_cases c3: δ = 1
 ·rw[if_pos c3] at H
  have c3b0:(δ == 1)=true:=beq_iff_eq.mpr c3
  have c3b1:(δ != 1)=false:=bne_eq_false_iff_eq.mpr c3
  clear c3
  obtain rfl:=Option.some.inj H
  go_enter Try.func34,Try.ntmps34
  go_wp2_with (first|((with_reducible refine Qe (N:=2) rfl ?_);refine qE 2 #[.int .i64 B,.int .i64 J,.int .i64 L,.int .i64 Y,.int .i64 Z,.int .i64 ε,.int .i64 γ,.int .i64 θ,.int .i64 ζ,.int .i64 η] 25 ?_;intro σ hg w4 hbox hb;have ξ :=Aside0.mk hbox;have af:=sGe hg;have ag:=sGe hg;replace HB:=sHb hb;clear hb hbox hg)|((with_reducible refine Qe (N:=3) rfl ?_);refine qE 3 #[.int .i64 O,.int .i64 X,.int .i64 δ,.int .i64 κ,.int .i64 ι,.int .i64 μ,.int .i64 ν] 29 ?_;intro aa hg w5 hbox hb;have ρ:=Aside0.mk hbox;have ah:=sGe hg;have ak:=sGe hg;have χ :=sNl ξ hg;have a5:=sNg ξ hg;replace ξ :=sBk ξ hb;replace HB:=sHb hb;clear hb hbox hg;have ao:=a5.out;have ap:= χ.out;obtain⟨ψ,ω,bf,ce,cm,cn,co,a0,bb,cg,cy,cz,d8,df⟩:=qD7 ρ.out))
  go_ret
  exact⟨rfl,HB.out⟩
 ·rw[if_neg c3] at H
  have c3b0:(δ == 1)=false:=beq_eq_false_iff_ne.mpr c3
  have c3b1:(δ != 1)=true:=bne_iff_ne.mpr c3
  by_cases c8: δ = 2
  ·rw[if_pos c8] at H
   have c8b0:(δ == 2)=true:=beq_iff_eq.mpr c8
   have c8b1:(δ != 2)=false:=bne_eq_false_iff_eq.mpr c8
   clear c8
   replace H:=Option.bind_eq_some_iff.mp H
   obtain⟨ac,bg,H⟩:=H
   replace H:(some (wrap64 (κ + ac)))=some r:=H
   have A9:=Aside0.mk bg
   clear bg
   obtain rfl:=Option.some.inj H
   go_enter Try.func34,Try.ntmps34
   try go_wp2_with (first|((with_reducible refine Qe (N:=2) rfl ?_);refine qE 2 #[.int .i64 B,.int .i64 J,.int .i64 L,.int .i64 Y,.int .i64 Z,.int .i64 ε,.int .i64 γ,.int .i64 θ,.int .i64 ζ,.int .i64 η] 25 ?_;intro σ hg fg hbox hb;have ξ :=Aside0.mk hbox;have af:=sGe hg;have ag:=sGe hg;replace HB:=sHb hb;clear hb hbox hg)|((with_reducible refine Qe (N:=3) rfl ?_);refine qE 3 #[.int .i64 O,.int .i64 X,.int .i64 δ,.int .i64 κ,.int .i64 ι,.int .i64 μ,.int .i64 ν] 29 ?_;intro aa hg ez hbox hb;have ρ:=Aside0.mk hbox;have ah:=sGe hg;have ak:=sGe hg;have χ :=sNl ξ hg;have a5:=sNg ξ hg;replace ξ :=sBk ξ hb;replace HB:=sHb hb;clear hb hbox hg;have fe:=a5.out;have ff:= χ.out;obtain⟨ai,a6,a2,τ,φ,a9,az,aj,ab,a3,b1,b2,b4,b8⟩:=qD7 ρ.out))
   replace ξ :=Aside0.mk (Qf ξ.out)
   replace ρ:=Aside0.mk (Qf ρ.out)
   replace HB:=Aside0.mk (Qi HB.out)
   refine Zl (n:=10) (S:=fun w'=>w'.cell? ⟨aa,0,none⟩=some (.int .i64 O)∧w'.cell? ⟨aa,1,none⟩=some (.int .i64 X)∧w'.cell? ⟨aa,2,none⟩=some (.int .i64 δ)∧w'.cell? ⟨aa,3,none⟩=some (.int .i64 κ)∧w'.cell? ⟨aa,4,none⟩=some (.int .i64 ι)∧w'.cell? ⟨aa,5,none⟩=some (.int .i64 μ)∧w'.cell? ⟨aa,6,none⟩=some (.int .i64 ν)∧w'.cell? ⟨σ,0,none⟩=some (.int .i64 B)∧w'.cell? ⟨σ,1,none⟩=some (.int .i64 J)∧w'.cell? ⟨σ,2,none⟩=some (.int .i64 L)∧w'.cell? ⟨σ,3,none⟩=some (.int .i64 Y)∧w'.cell? ⟨σ,4,none⟩=some (.int .i64 Z)∧w'.cell? ⟨σ,5,none⟩=some (.int .i64 ε)∧w'.cell? ⟨σ,6,none⟩=some (.int .i64 γ)∧w'.cell? ⟨σ,7,none⟩=some (.int .i64 θ)∧w'.cell? ⟨σ,8,none⟩=some (.int .i64 ζ)∧w'.cell? ⟨σ,9,none⟩=some (.int .i64 η)) (ds:=[]) #[false,false,false,false,false,false,false,false,false,false] kr rfl rfl ⟨(Qa ρ.out 0).trans rfl,(Qa ρ.out 1).trans rfl,(Qa ρ.out 2).trans rfl,(Qa ρ.out 3).trans rfl,(Qa ρ.out 4).trans rfl,(Qa ρ.out 5).trans rfl,(Qa ρ.out 6).trans rfl,(Qa ξ.out 0).trans rfl,(Qa ξ.out 1).trans rfl,(Qa ξ.out 2).trans rfl,(Qa ξ.out 3).trans rfl,(Qa ξ.out 4).trans rfl,(Qa ξ.out 5).trans rfl,(Qa ξ.out 6).trans rfl,(Qa ξ.out 7).trans rfl,(Qa ξ.out 8).trans rfl,(Qa ξ.out 9).trans rfl⟩ (fun hHeld=>?_);refine Q8 newelref18_Rest.K8 newelref18_Rest.Jl (fun HT_ HW_=>?_)
   generalize ez.drew=bh at ξ ρ HB hHeld ⊢
   refine qP 0 (some 13) (bN 10 1) HT_ ?_
   refine qP 3 (some 16) (bN 10 9) HT_ ?_
   refine qP 4 (some 17) (bN 10 25) HT_ ?_
   refine qT 1 (some 14) (bN 10 27) HT_ HW_ hHeld ?_
   refine qT 2 (some 15) (bN 10 31) HT_ HW_ hHeld ?_
   refine qT 5 (some 18) (bN 10 63) HT_ HW_ hHeld ?_
   refine qP 6 (some 19) (bN 10 127) HT_ ?_
   refine Zg (i:=7) (N:=some 20) (bN 10 255) rfl rfl (Q4 HT_.out kr) (by decide) (fun K hK=>?_)
   refine Zf Try.func56 kr rfl #[.agg #[.int .i64 B,.int .i64 J,.int .i64 L,.int .i64 Y,.int .i64 Z,.int .i64 ε,.int .i64 γ,.int .i64 θ,.int .i64 ζ,.int .i64 η],.agg #[.int .i64 1,.int .i64 Y,.int .i64 0]] (by rfl) rfl rfl qM ?_
   with_reducible refine(newelref17_Rest.calls k B J L Y Z ε γ θ ζ η 1 Y 0 ac _ A9.out).mono ?_
   rintro e g9 ⟨rfl,hb⟩
   refine⟨_,rfl, ?_⟩
   replace ξ :=sBk ξ hb
   replace ρ:=sBk ρ hb
   replace HB:=sHb hb
   (try clear hb)
   (try clear a4)
   (try clear hk)
   (try clear hi)
   refine hK.out _ _ ⟨qc ρ,qc ρ,qc ρ,qc ρ,qc ρ,qc ρ,qc ρ,qc ξ,qc ξ,qc ξ,qc ξ,qc ξ,qc ξ,qc ξ,qc ξ,qc ξ,qc ξ⟩ (fun hHeld=>?_)
   clear hK K
   refine qN (some 20) ?_
   refine qP 8 (some 21) (bN 10 511) HT_ ?_
   refine qP 9 (some 4) (bN 10 1023) HT_ ?_
   refine Z2 (Zh HT_.out kr) ?_
   try go_wp2
   go_ret
   exact⟨rfl,HB.out⟩
  ·rw[if_neg c8] at H
   have c8b0:(δ == 2)=false:=beq_eq_false_iff_ne.mpr c8
   have c8b1:(δ != 2)=true:=bne_iff_ne.mpr c8
   replace H:=Option.bind_eq_some_iff.mp H
   obtain⟨ae,al,H⟩:=H
   replace H:(some ae)=some r:=H
   have am:=Aside0.mk al
   clear al
   obtain rfl:=Option.some.inj H
   go_enter Try.func34,Try.ntmps34
   go_wp2_with (first|((with_reducible refine Qe (N:=2) rfl ?_);refine qE 2 #[.int .i64 B,.int .i64 J,.int .i64 L,.int .i64 Y,.int .i64 Z,.int .i64 ε,.int .i64 γ,.int .i64 θ,.int .i64 ζ,.int .i64 η] 25 ?_;intro σ hg e6 hbox hb;have ξ :=Aside0.mk hbox;have af:=sGe hg;have ag:=sGe hg;replace HB:=sHb hb;clear hb hbox hg)|((with_reducible refine Qe (N:=3) rfl ?_);refine qE 3 #[.int .i64 O,.int .i64 X,.int .i64 δ,.int .i64 κ,.int .i64 ι,.int .i64 μ,.int .i64 ν] 29 ?_;intro aa hg ha hbox hb;have ρ:=Aside0.mk hbox;have ah:=sGe hg;have ak:=sGe hg;have χ :=sNl ξ hg;have a5:=sNg ξ hg;replace ξ :=sBk ξ hb;replace HB:=sHb hb;clear hb hbox hg;have b7:=a5.out;have ch:= χ.out;obtain⟨a7,ar,a1,dl,dm,dn,dp,au,av,a8,dq,dr,dt,du⟩:=qD7 ρ.out;obtain⟨cq,cr,d0,d3,d4,e0,e3,fm,fn,fu,e4,ek,el,em,en,g0,g1,fv,fz,g2⟩:=Q5 ξ.out)|((with_reducible refine Qd (f:=56) rfl ?_);refine Qn (some 25) rfl rfl Try.func56 kr rfl #[.agg #[.int .i64 B,.int .i64 J,.int .i64 L,.int .i64 Y,.int .i64 Z,.int .i64 ε,.int .i64 γ,.int .i64 θ,.int .i64 ζ,.int .i64 η],.agg #[.int .i64 ι,.int .i64 μ,.int .i64 ν]] rfl qM ?_;(with_reducible refine(newelref17_Rest.calls k B J L Y Z ε γ θ ζ η ι μ ν ae _ am.out).mono ?_);rintro e be ⟨rfl,hb⟩;refine⟨_,rfl, ?_⟩;replace ξ :=sBk ξ hb;replace ρ:=sBk ρ hb;replace HB:=sHb hb;(try clear hb);(try clear a4);(try clear hk);(try clear hi)))
   go_ret
   exact⟨rfl,HB.out⟩
def newelref21_Lift.f (k:Nat) (B:Int) (J:Int) (L:Int) (Y:Int) (Z:Int) (ε :Int) (γ:Int) (θ :Int) (ζ :Int) (η :Int) (O:Int) (X:Int) (δ :Int) (κ :Int) (ι :Int) (μ :Int) (ν :Int) (ξ :Int) (ψ :Bool) (ω :Bool):Option (Bool):=(newelref17_Gear.f B J L Y Z ε γ θ ζ η).bind fun ae=>(if ae=true then ((newelref18_May.f k B O X δ κ ι μ ν).bind fun ac=>(if ac=true then (if ξ ≥ (-1) then (some (decide (ξ ≤ 1))) else (some false)) else (some false))) else (some false))
set_option maxHeartbeats 8000000 in
set_option maxRecDepth 100000 in
theorem newelref21_Lift.calls (k:Nat) (B:Int) (J:Int) (L:Int) (Y:Int) (Z:Int) (ε :Int) (γ:Int) (θ :Int) (ζ :Int) (η :Int) (O:Int) (X:Int) (δ :Int) (κ :Int) (ι :Int) (μ :Int) (ν :Int) (ξ :Int) (ψ :Bool) (ω :Bool) (r:Bool) (w:World) (h:newelref21_Lift.f k B J L Y Z ε γ θ ζ η O X δ κ ι μ ν ξ ψ ω = some r):
  Calls Try.prog 32 #[.agg #[.int .i64 B,.int .i64 J,.int .i64 L,.int .i64 Y,.int .i64 Z,.int .i64 ε,.int .i64 γ,.int .i64 θ,.int .i64 ζ,.int .i64 η],.agg #[.int .i64 O,.int .i64 X,.int .i64 δ,.int .i64 κ,.int .i64 ι,.int .i64 μ,.int .i64 ν,.int .i64 ξ,.bool ψ,.bool ω]] w fun e w'=>e = .returned (.bool r)∧Below w.heap.size w w':=by
 have cx:=Try.underlying25
 have i4:=Try.underlying31
 have iw:=Try.underlying29
 have HB:=Aside0.mk (Below.refl w.heap.size w)
 have H:((newelref17_Gear.f B J L Y Z ε γ θ ζ η).bind fun ae=>(if ae=true then ((newelref18_May.f k B O X δ κ ι μ ν).bind fun ac=>(if ac=true then (if ξ ≥ (-1) then (some (decide (ξ ≤ 1))) else (some false)) else (some false))) else (some false)))=some r:=h
 clear h
 replace H:=Option.bind_eq_some_iff.mp H
 obtain⟨ae,aa,H⟩:=H
 replace H:(if ae=true then ((newelref18_May.f k B O X δ κ ι μ ν).bind fun ac=>(if ac=true then (if ξ ≥ (-1) then (some (decide (ξ ≤ 1))) else (some false)) else (some false))) else (some false))=some r:=H
 have A3:=Aside0.mk aa
 clear aa
 by_cases c4:ae=true
 ·subst c4
  have H1:((newelref18_May.f k B O X δ κ ι μ ν).bind fun ac=>(if ac=true then (if ξ ≥ (-1) then (some (decide (ξ ≤ 1))) else (some false)) else (some false)))=some r:=by rw[if_pos rfl] at H;exact H
  clear H
  have H:=H1
  clear H1
  replace H:=Option.bind_eq_some_iff.mp H
  obtain⟨ac,b3,H⟩:=H
  replace H:(if ac=true then (if ξ ≥ (-1) then (some (decide (ξ ≤ 1))) else (some false)) else (some false))=some r:=H
  have A5:=Aside0.mk b3
  clear b3
  by_cases c6:ac=true
  ·subst c6
   have H1:(if ξ ≥ (-1) then (some (decide (ξ ≤ 1))) else (some false))=some r:=by rw[if_pos rfl] at H;exact H
   clear H
   have H:=H1
   clear H1
   by_cases c7: ξ ≥ (-1)
   ·rw[if_pos c7] at H
    have c7b0:decide ((-1) ≤ ξ)=true:=decide_eq_true c7
    clear c7
    obtain rfl:=Option.some.inj H
    go_enter Try.func32,Try.ntmps32
    go_wp2_with (first|((with_reducible refine Qe (N:=2) rfl ?_);refine qE 2 #[.int .i64 B,.int .i64 J,.int .i64 L,.int .i64 Y,.int .i64 Z,.int .i64 ε,.int .i64 γ,.int .i64 θ,.int .i64 ζ,.int .i64 η] 25 ?_;intro af hg w8 hbox hb;have ρ:=Aside0.mk hbox;have ag:=sGe hg;have am:=sGe hg;replace HB:=sHb hb;clear hb hbox hg)|((with_reducible refine Qe (N:=3) rfl ?_);refine qE 3 #[.int .i64 O,.int .i64 X,.int .i64 δ,.int .i64 κ,.int .i64 ι,.int .i64 μ,.int .i64 ν,.int .i64 ξ,.bool ψ,.bool ω] 31 ?_;intro an hg w9 hbox hb;have σ:=Aside0.mk hbox;have ay:=sGe hg;have b0:=sGe hg;have a0:=sNl ρ hg;have a5:=sNg ρ hg;replace ρ:=sBk ρ hb;replace HB:=sHb hb;clear hb hbox hg;have h4:=a0.out;have h5:=a5.out;obtain⟨ah,ak,aw,b6,bd,be,χ,b9,bb,bf,ao,ap,ax,bk,bl,bm,al,ba,d8,dy⟩:=Q5 ρ.out)|((with_reducible refine Qd (f:=53) rfl ?_);refine Qn (some 8) rfl rfl Try.func53 kr rfl #[.agg #[.int .i64 B,.int .i64 J,.int .i64 L,.int .i64 Y,.int .i64 Z,.int .i64 ε,.int .i64 γ,.int .i64 θ,.int .i64 ζ,.int .i64 η]] rfl qM ?_;(with_reducible refine(newelref17_Gear.calls B J L Y Z ε γ θ ζ η true _ A3.out).mono ?_);rintro e er ⟨rfl,hb⟩;refine⟨_,rfl, ?_⟩;replace ρ:=sBk ρ hb;replace σ:=sBk σ hb;replace HB:=sHb hb;(try clear hb);(try clear a4);(try clear hk);(try clear hi);obtain⟨ai,a6,a2,τ,φ,a9,az,dd,df,dz,aj,ab,a3,b1,b2,b4,b8,de,e0,ei⟩:=Q5 ρ.out;obtain⟨bg,bh,bp,d0,d1,d2,d3,eg,gl,gm,bi,bj,bq,d4,d5,d6,d7,ft,gn,gp⟩:=Q5 σ.out)|((with_reducible refine Qd (f:=54) rfl ?_);refine Qn (some 15) rfl rfl Try.func54 kr rfl #[.int .i64 B,.agg #[.int .i64 O,.int .i64 X,.int .i64 δ,.int .i64 κ,.int .i64 ι,.int .i64 μ,.int .i64 ν]] rfl qM ?_;(with_reducible refine(newelref18_May.calls k B O X δ κ ι μ ν true _ A5.out).mono ?_);rintro e g9 ⟨rfl,hb⟩;refine⟨_,rfl, ?_⟩;replace ρ:=sBk ρ hb;replace σ:=sBk σ hb;replace HB:=sHb hb;(try clear hb);(try clear a4);(try clear hk);(try clear hi);obtain⟨bw,bz,cq,bn,e7,e8,e9,fu,g6,g7,ca,cb,cr,ev,ew,fg,fh,fv,g8,ga⟩:=Q5 σ.out))
    go_ret
    exact⟨rfl,HB.out⟩
   ·rw[if_neg c7] at H
    have c7b0:decide ((-1) ≤ ξ)=false:=decide_eq_false c7
    clear c7
    obtain rfl:=Option.some.inj H
    go_enter Try.func32,Try.ntmps32
    go_wp2_with (first|((with_reducible refine Qe (N:=2) rfl ?_);refine qE 2 #[.int .i64 B,.int .i64 J,.int .i64 L,.int .i64 Y,.int .i64 Z,.int .i64 ε,.int .i64 γ,.int .i64 θ,.int .i64 ζ,.int .i64 η] 25 ?_;intro af hg e6 hbox hb;have ρ:=Aside0.mk hbox;have ag:=sGe hg;have am:=sGe hg;replace HB:=sHb hb;clear hb hbox hg)|((with_reducible refine Qe (N:=3) rfl ?_);refine qE 3 #[.int .i64 O,.int .i64 X,.int .i64 δ,.int .i64 κ,.int .i64 ι,.int .i64 μ,.int .i64 ν,.int .i64 ξ,.bool ψ,.bool ω] 31 ?_;intro an hg ha hbox hb;have σ:=Aside0.mk hbox;have ay:=sGe hg;have b0:=sGe hg;have a0:=sNl ρ hg;have a5:=sNg ρ hg;replace ρ:=sBk ρ hb;replace HB:=sHb hb;clear hb hbox hg;have b7:=a0.out;have ch:=a5.out;obtain⟨a7,ar,a1,dl,dm,dn,dp,i5,i6,i7,au,av,a8,dq,dr,dt,du,i9,ia,ib⟩:=Q5 ρ.out)|((with_reducible refine Qd (f:=53) rfl ?_);refine Qn (some 8) rfl rfl Try.func53 kr rfl #[.agg #[.int .i64 B,.int .i64 J,.int .i64 L,.int .i64 Y,.int .i64 Z,.int .i64 ε,.int .i64 γ,.int .i64 θ,.int .i64 ζ,.int .i64 η]] rfl qM ?_;(with_reducible refine(newelref17_Gear.calls B J L Y Z ε γ θ ζ η true _ A3.out).mono ?_);rintro e bc ⟨rfl,hb⟩;refine⟨_,rfl, ?_⟩;replace ρ:=sBk ρ hb;replace σ:=sBk σ hb;replace HB:=sHb hb;(try clear hb);(try clear a4);(try clear hk);(try clear hi);obtain⟨ct,cu,dv,gr,gs,gt,gu,jd,je,jf,cv,cw,dw,gv,gw,gx,gy,jg,jh,ji⟩:=Q5 ρ.out;obtain⟨cy,cz,di,et,eu,fo,fp,he,hh,hj,e3,e4,e5,hl,ho,hu,hx,js,k1,k3⟩:=Q5 σ.out)|((with_reducible refine Qd (f:=54) rfl ?_);refine Qn (some 15) rfl rfl Try.func54 kr rfl #[.int .i64 B,.agg #[.int .i64 O,.int .i64 X,.int .i64 δ,.int .i64 κ,.int .i64 ι,.int .i64 μ,.int .i64 ν]] rfl qM ?_;(with_reducible refine(newelref18_May.calls k B O X δ κ ι μ ν true _ A5.out).mono ?_);rintro e cp ⟨rfl,hb⟩;refine⟨_,rfl, ?_⟩;replace ρ:=sBk ρ hb;replace σ:=sBk σ hb;replace HB:=sHb hb;(try clear hb);(try clear a4);(try clear hk);(try clear hi);obtain⟨fq,fw,fz,fr,ie,ig,ih,ci,cg,cj,fx,fy,gq,ii,ij,ik,il,h0,d9,da⟩:=Q5 σ.out))
    go_ret
    exact⟨rfl,HB.out⟩
  ·replace c6:=Bool.eq_false_iff.mpr c6
   subst c6
   have H1:(some false)=some r:=by rw[if_neg (show ¬ (false=true) by decide)] at H;exact H
   clear H
   have H:=H1
   clear H1
   obtain rfl:=Option.some.inj H
   go_enter Try.func32,Try.ntmps32
   go_wp2_with (first|((with_reducible refine Qe (N:=2) rfl ?_);refine qE 2 #[.int .i64 B,.int .i64 J,.int .i64 L,.int .i64 Y,.int .i64 Z,.int .i64 ε,.int .i64 γ,.int .i64 θ,.int .i64 ζ,.int .i64 η] 25 ?_;intro af hg h9 hbox hb;have ρ:=Aside0.mk hbox;have ag:=sGe hg;have am:=sGe hg;replace HB:=sHb hb;clear hb hbox hg)|((with_reducible refine Qe (N:=3) rfl ?_);refine qE 3 #[.int .i64 O,.int .i64 X,.int .i64 δ,.int .i64 κ,.int .i64 ι,.int .i64 μ,.int .i64 ν,.int .i64 ξ,.bool ψ,.bool ω] 31 ?_;intro an hg ey hbox hb;have σ:=Aside0.mk hbox;have ay:=sGe hg;have b0:=sGe hg;have a0:=sNl ρ hg;have a5:=sNg ρ hg;replace ρ:=sBk ρ hb;replace HB:=sHb hb;clear hb hbox hg;have ck:=a0.out;have cm:=a5.out;obtain⟨br,bv,dk,b5,bo,bs,bu,cf,cn,co,fa,fb,fc,db,dc,dh,dj,dx,eh,ek⟩:=Q5 ρ.out)|((with_reducible refine Qd (f:=53) rfl ?_);refine Qn (some 8) rfl rfl Try.func53 kr rfl #[.agg #[.int .i64 B,.int .i64 J,.int .i64 L,.int .i64 Y,.int .i64 Z,.int .i64 ε,.int .i64 γ,.int .i64 θ,.int .i64 ζ,.int .i64 η]] rfl qM ?_;(with_reducible refine(newelref17_Gear.calls B J L Y Z ε γ θ ζ η true _ A3.out).mono ?_);rintro e ej ⟨rfl,hb⟩;refine⟨_,rfl, ?_⟩;replace ρ:=sBk ρ hb;replace σ:=sBk σ hb;replace HB:=sHb hb;(try clear hb);(try clear a4);(try clear hk);(try clear hi);obtain⟨ea,eb,ec,gf,gg,gh,kf,f8,g0,g1,ed,ee,ef,gi,gj,gk,kg,g2,g3,g4⟩:=Q5 ρ.out;obtain⟨io,ip,iq,jt,ju,jv,jw,cd,ce,k4,ir,it,iu,jx,jy,jz,k0,k5,k6,k7⟩:=Q5 σ.out)|((with_reducible refine Qd (f:=54) rfl ?_);refine Qn (some 15) rfl rfl Try.func54 kr rfl #[.int .i64 B,.agg #[.int .i64 O,.int .i64 X,.int .i64 δ,.int .i64 κ,.int .i64 ι,.int .i64 μ,.int .i64 ν]] rfl qM ?_;(with_reducible refine(newelref18_May.calls k B O X δ κ ι μ ν false _ A5.out).mono ?_);rintro e ja ⟨rfl,hb⟩;refine⟨_,rfl, ?_⟩;replace ρ:=sBk ρ hb;replace σ:=sBk σ hb;replace HB:=sHb hb;(try clear hb);(try clear a4);(try clear hk);(try clear hi)))
   go_ret
   exact⟨rfl,HB.out⟩
 ·replace c4:=Bool.eq_false_iff.mpr c4
  subst c4
  have H1:(some false)=some r:=by rw[if_neg (show ¬ (false=true) by decide)] at H;exact H
  clear H
  have H:=H1
  clear H1
  obtain rfl:=Option.some.inj H
  go_enter Try.func32,Try.ntmps32
  go_wp2_with (first|((with_reducible refine Qe (N:=2) rfl ?_);refine qE 2 #[.int .i64 B,.int .i64 J,.int .i64 L,.int .i64 Y,.int .i64 Z,.int .i64 ε,.int .i64 γ,.int .i64 θ,.int .i64 ζ,.int .i64 η] 25 ?_;intro af hg h7 hbox hb;have ρ:=Aside0.mk hbox;have ag:=sGe hg;have am:=sGe hg;replace HB:=sHb hb;clear hb hbox hg)|((with_reducible refine Qe (N:=3) rfl ?_);refine qE 3 #[.int .i64 O,.int .i64 X,.int .i64 δ,.int .i64 κ,.int .i64 ι,.int .i64 μ,.int .i64 ν,.int .i64 ξ,.bool ψ,.bool ω] 31 ?_;intro an hg ka hbox hb;have σ:=Aside0.mk hbox;have ay:=sGe hg;have b0:=sGe hg;have a0:=sNl ρ hg;have a5:=sNg ρ hg;replace ρ:=sBk ρ hb;replace HB:=sHb hb;clear hb hbox hg;have hy:=a0.out;have i0:=a5.out;obtain⟨ez,fm,fn,f7,i1,i2,j5,el,em,en,kh,ki,kj,j6,j7,j8,j9,eo,ep,fe⟩:=Q5 ρ.out)|((with_reducible refine Qd (f:=53) rfl ?_);refine Qn (some 8) rfl rfl Try.func53 kr rfl #[.agg #[.int .i64 B,.int .i64 J,.int .i64 L,.int .i64 Y,.int .i64 Z,.int .i64 ε,.int .i64 γ,.int .i64 θ,.int .i64 ζ,.int .i64 η]] rfl qM ?_;(with_reducible refine(newelref17_Gear.calls B J L Y Z ε γ θ ζ η false _ A3.out).mono ?_);rintro e g5 ⟨rfl,hb⟩;refine⟨_,rfl, ?_⟩;replace ρ:=sBk ρ hb;replace σ:=sBk σ hb;replace HB:=sHb hb;(try clear hb);(try clear a4);(try clear hk);(try clear hi)))
  go_ret
  exact⟨rfl,HB.out⟩
def group_dist.f (B:Int) (O:Int):Option (Int):=some (mx (wrap64 (B-O)) (wrap64 (O-B)))
set_option maxHeartbeats 8000000 in
set_option maxRecDepth 100000 in
theorem group_dist.calls (B:Int) (O:Int) (r:Int) (w:World) (h:group_dist.f B O=some r):
  Calls Try.prog 76 #[.int .i64 B,.int .i64 O] w fun e w'=>e = .returned (.int .i64 r)∧Below w.heap.size w w':=by
 have HB:=Aside0.mk (Below.refl w.heap.size w)
 have H:(some (mx (wrap64 (B-O)) (wrap64 (O-B))))=some r:=h
 clear h
 obtain⟨L,J⟩:∃ j_:Int,(mx (wrap64 (B-O)) (wrap64 (O-B)))=j_:=⟨_,rfl⟩
 replace H:(some L)=some r:=by first|(rw[J] at H;exact H)|(simp only[J] at H ⊢;exact H)
 have X:(if (wrap64 (B-O))<(wrap64 (O-B)) then (wrap64 (O-B)) else (wrap64 (B-O)))=L:=J
 obtain rfl:=Option.some.inj H
 go_enter Try.func76,Try.ntmps76
 go_wp2
 go_ret
 exact⟨by first|rfl|(simp[Qh,Qg] <;> rfl)|(simp only[← J];first|rfl|(simp[Qh,Qg] <;> rfl))|(simp[*,Qh,Qg] <;> rfl),by repeat(first|(with_reducible first|exact HB.out|apply Qq|apply Qj|apply Qi)|exact HB.out)⟩
end Go.Proofs.Ytmfffemidlhcpaa.C
