/- What this law's functions come to, walked; what that is, in plain Lean. No conditions of its own. -/
import Derived.Test.YtmfffemidlhcpaaQGroupSpreads1
import Derived.Test.YtmfffemidlhcpaaProg
set_option linter.unusedSimpArgs false
set_option linter.unusedVariables false
set_option maxHeartbeats 8000000
set_option maxRecDepth 100000
namespace Go.Proofs.YtmfffemidlhcpaaW.PrintWords
open Go.RowKit Go.Proofs.YtmfffemidlhcpaaW.PrintLast Go.Proofs.YtmfffemidlhcpaaW.PrintMore
theorem qO {α β:Type} {x:Option α} {f:α→Option β} {b:β} (h:x.bind f=some b):∃ a,x=some a∧f a=some b:=Option.bind_eq_some_iff.mp h
theorem qQ {α β:Type} {x:Option α} {f:α→Option β} {b:β} (h:x.bind f=some b):∃ a,Aside0 (x=some a)∧f a=some b:=(Option.bind_eq_some_iff.mp h).elim fun a h=>⟨a,⟨h.1⟩,h.2⟩
theorem qJ {α:Type} {a b:α} (h:some a=some b):a=b:=Option.some.inj h
theorem nft:¬ (false=true):=fun h=>Bool.noConfusion h
theorem sCl {w w1:World} {n:Nat} (hb:Aside0 (Below n w w1)) {p:Addr} {v:Value} (h:w.cell? p=some v) (hn:n=w.heap.size:=by rfl):w1.cell? p=some v:=by subst hn;exact(hb.out.cell (World.block_lt_of_cell? w _ h)).trans h
theorem aK {p:Prop} (h:p):Aside0 p:=⟨h⟩
def qB (n m:Nat):Array Bool:=((List.range n).map fun i=>m.testBit i).toArray
theorem qP {P:Program} {ops:Array Oper} {Q:Exit→Act→World→Prop} {md:Region.Mode} {S:World→Prop} {ds:List Nat} {oi:Oper} {v:Value} {fuel:Nat} {l:Array Bool} {a:Act} {w:World} {T:Bool×List (List Nat×List Nat)} (i:Nat) (N:Option Tmp) (l':Array Bool) (ht:Aside0 (rtab md ops=T)) {a':Act} (h:Q9 P md ops Q S ds fuel l' a' w) (hi:ops[i]?=some oi:=by rfl) (hN:oi.dst=N:=by rfl) (hc:Ce T l.toList l'.toList i=true:=by kernel_rfl) (hQ:∀ c a w,Q (.panic c) (a.put oi.dst v) w→Q (.panic c) a w:=by exact(fun _ _ _ h=>h)) (hy:Yields P ops oi v a:=by(refine Or.inl ⟨by rfl, ?_⟩;intro w';go_simp;with_reducible rfl)) (ha:a.put N v=a':=by(simp only[Act.put,qS,Zy,Z8];rfl)):Q9 P md ops Q S ds (fuel+1) l a w:=Ua l' hi hN (E5 ht.out hc) hQ hy ha h
theorem qU {P:Program} {ops:Array Oper} {Q:Exit→Act→World→Prop} {md:Region.Mode} {S:World→Prop} {ds:List Nat} {oi:Oper} {fuel:Nat} {l:Array Bool} {a:Act} {w:World} {T:Bool×List (List Nat×List Nat)} (i:Nat) (N:Option Tmp) (l':Array Bool) (ht:Aside0 (rtab md ops=T)) {a':Act} (h:Q9 P md ops Q S ds fuel l' a' w) (hi:ops[i]?=some oi:=by rfl) (hN:oi.dst=N:=by rfl) (hc:Ce T l.toList l'.toList i=true:=by kernel_rfl) (hQ:∀ c a w,Q (.panic c) (a.put oi.dst undef) w→Q (.panic c) a w:=by exact(fun _ _ _ h=>h)) (hy:Yields P ops oi undef a:=by exact(Or.inr ⟨by rfl,rfl⟩)) (ha:a.put N undef=a':=by(simp only[Act.put,qS,Zy,Z8];rfl)):Q9 P md ops Q S ds (fuel+1) l a w:=Ua l' hi hN (E5 ht.out hc) hQ hy ha h
theorem qT {P:Program} {ops:Array Oper} {Q:Exit→Act→World→Prop} {md:Region.Mode} {S:World→Prop} {ds:List Nat} {oi:Oper} {v:Value} {fuel:Nat} {l:Array Bool} {a:Act} {w:World} {T:Bool×List (List Nat×List Nat)} {B:List Nat} (i:Nat) (N:Option Tmp) (l':Array Bool) (ht:Aside0 (rtab md ops=T)) (hW:Aside0 (Zq T.snd B=true)) (hS:S w) {a':Act} (h:Q9 P md ops Q S ds fuel l' a' w) (hi:ops[i]?=some oi:=by rfl) (hN:oi.dst=N:=by rfl) (hc:N5 T B ds l.toList l'.toList i=true:=by kernel_rfl) (hQ:∀ c a w,Q (.panic c) (a.put oi.dst v) w→Q (.panic c) a w:=by exact(fun _ _ _ h=>h)) (hy:YieldsIf P ops S oi v a:=by(refine Or.inl ⟨by rfl, ?_⟩;intro w' hs_;(repeat obtain⟨_,hs_⟩:=(hs_:_∧_));go_simp;with_reducible rfl)) (ha:a.put N v=a':=by(simp only[Act.put,qS,Zy,Z8];rfl)):Q9 P md ops Q S ds (fuel+1) l a w:=L9 l' hi hN (N4 ht.out hW.out hc) hQ hy hS ha h
theorem qV {P:Program} {ops:Array Oper} {Q:Exit→Act→World→Prop} {md:Region.Mode} {S:World→Prop} {ds:List Nat} {oi:Oper} {v:Value} {fuel:Nat} {l:Array Bool} {a:Act} {w:World} (i:Nat) (N:Option Tmp) (l':Array Bool) {a':Act} (h:Q9 P md ops Q S ds fuel l' a' w) (hi:ops[i]?=some oi:=by rfl) (hN:oi.dst=N:=by rfl) (hc:E6 md ops l l' i=true:=by kernel_rfl) (hQ:∀ c a w,Q (.panic c) (a.put oi.dst v) w→Q (.panic c) a w:=by exact(fun _ _ _ h=>h)) (hy:Yields P ops oi v a:=by(refine Or.inl ⟨by rfl, ?_⟩;intro w';go_simp;with_reducible rfl)) (ha:a.put N v=a':=by(simp only[Act.put,qS,Zy,Z8];rfl)):Q9 P md ops Q S ds (fuel+1) l a w:=Ua l' hi hN hc hQ hy ha h
theorem qW {P:Program} {ops:Array Oper} {Q:Exit→Act→World→Prop} {md:Region.Mode} {S:World→Prop} {ds:List Nat} {oi:Oper} {v:Value} {fuel:Nat} {l:Array Bool} {a:Act} {w:World} (i:Nat) (N:Option Tmp) (l':Array Bool) (hS:S w) {a':Act} (h:Q9 P md ops Q S ds fuel l' a' w) (hi:ops[i]?=some oi:=by rfl) (hN:oi.dst=N:=by rfl) (hc:takeB md ops ds l l' i=true:=by kernel_rfl) (hQ:∀ c a w,Q (.panic c) (a.put oi.dst v) w→Q (.panic c) a w:=by exact(fun _ _ _ h=>h)) (hy:YieldsIf P ops S oi v a:=by(refine Or.inl ⟨by rfl, ?_⟩;intro w' hs_;(repeat obtain⟨_,hs_⟩:=(hs_:_∧_));go_simp;with_reducible rfl)) (ha:a.put N v=a':=by(simp only[Act.put,qS,Zy,Z8];rfl)):Q9 P md ops Q S ds (fuel+1) l a w:=L9 l' hi hN hc hQ hy hS ha h
theorem qK {P:Program} {ops:Array Oper} {Q:Exit→Act→World→Prop} {md:Region.Mode} {S:World→Prop} {ds:List Nat} {oi:Oper} {fuel:Nat} {l:Array Bool} {a:Act} {w:World} {T:Bool×List (List Nat×List Nat)} (i:Nat) (N:Option Tmp) (l':Array Bool) (ht:Aside0 (rtab md ops=T)) (h:∀ K:Act→World→Prop,Shut (∀ a' w',S w'→(S w'→Q9 P md ops Q S ds fuel l' a' w')→K a' w')→if Region.wanted oi (yielded ops a.tmps)=true then Oper.wp P oi a w K Q else K (a.put N undef) w) (hi:ops[i]?=some oi:=by rfl) (hN:oi.dst=N:=by rfl) (hc:(J9 T.2 l.toList == [i]&&l.toList.set i true==l'.toList)=true:=by kernel_rfl) (hd:i ∉ ds:=by decide):Q9 P md ops Q S ds (fuel+1) l a w:=Kp l' hi hN (Lx ht.out hc) hd h
theorem qN {P:Program} {ops:Array Oper} {Q:Exit→Act→World→Prop} {md:Region.Mode} {S:World→Prop} {ds:List Nat} {v:Value} {fuel:Nat} {l:Array Bool} {a:Act} {w:World} (N:Option Tmp) {a':Act} (h:Q9 P md ops Q S ds fuel l a' w) (ha:a.put N v=a':=by(simp only[Act.put,qS,Zy,Z8];rfl)):Q9 P md ops Q S ds fuel l (a.put N v) w:=Zv ha h
theorem qc {w:World} {g i:Nat} {t:TypeId} {cs:Array Value} {v:Value} (b:Aside0 (w.heap[g]?=some (.cells cs t (0,0)))) (h:cs[i]?=some v:=by exact rfl):w.cell? ⟨g,i,none⟩=some v:=(Qa b.out i).trans h
theorem qM {p:Prop} (h:p:=by((try simp only[List.map_toArray,List.map_cons,List.map_nil]) <;> (first|done|rfl))):p:=h
theorem qE {P:Program} {ops:Array Oper} {Q:Exit→Act→World→Prop} {o:Oper} {rest:List Oper} {a:Act} {W:World} (N:Tmp) (cs:Array Value) (t:TypeId) (h:∀ g,g=W.heap.size → ∀ w1,w1.heap[g]?=some (.cells cs t (0,0))→Below W.heap.size W w1→wpList P ops Q rest (a.put o.dst (.pointer (some ⟨g,0,none⟩))) w1) (hd:o.dst=some N:=by rfl) (hg:o.guard=none:=by rfl) (hr:(execOp a.eval o).run P W = .ok (.value (.pointer (some ⟨W.heap.size,0,none⟩))) (W.alloc (.cells cs t (0,0))):=by(go_simp <;> rfl)):wpList P ops Q (o :: rest) a W:=Zj hg (N:=N) hd (cs:=cs) (t:=t) hr h
theorem qD1 {w:World} {g:Nat} {t:TypeId} {B:Value} (b:w.heap[g]?=some (.cells #[B] t (0,0))):w.cell? ⟨g,0,none⟩=some B∧w.frozen? ⟨g,0,none⟩=false:=⟨(Qa b 0).trans rfl,Qg b 0⟩
theorem qD2 {w:World} {g:Nat} {t:TypeId} {B Z:Value} (b:w.heap[g]?=some (.cells #[B,Z] t (0,0))):w.cell? ⟨g,0,none⟩=some B∧w.cell? ⟨g,1,none⟩=some Z∧w.frozen? ⟨g,0,none⟩=false∧w.frozen? ⟨g,1,none⟩=false:=⟨(Qa b 0).trans rfl,(Qa b 1).trans rfl,Qg b 0,Qg b 1⟩
theorem qD3 {w:World} {g:Nat} {t:TypeId} {B Z a2:Value} (b:w.heap[g]?=some (.cells #[B,Z,a2] t (0,0))):w.cell? ⟨g,0,none⟩=some B∧w.cell? ⟨g,1,none⟩=some Z∧w.cell? ⟨g,2,none⟩=some a2∧w.frozen? ⟨g,0,none⟩=false∧w.frozen? ⟨g,1,none⟩=false∧w.frozen? ⟨g,2,none⟩=false:=⟨(Qa b 0).trans rfl,(Qa b 1).trans rfl,(Qa b 2).trans rfl,Qg b 0,Qg b 1,Qg b 2⟩
theorem qD7 {w:World} {g:Nat} {t:TypeId} {B Z a2 a3 O a5 X:Value} (b:w.heap[g]?=some (.cells #[B,Z,a2,a3,O,a5,X] t (0,0))):w.cell? ⟨g,0,none⟩=some B∧w.cell? ⟨g,1,none⟩=some Z∧w.cell? ⟨g,2,none⟩=some a2∧w.cell? ⟨g,3,none⟩=some a3∧w.cell? ⟨g,4,none⟩=some O∧w.cell? ⟨g,5,none⟩=some a5∧w.cell? ⟨g,6,none⟩=some X∧w.frozen? ⟨g,0,none⟩=false∧w.frozen? ⟨g,1,none⟩=false∧w.frozen? ⟨g,2,none⟩=false∧w.frozen? ⟨g,3,none⟩=false∧w.frozen? ⟨g,4,none⟩=false∧w.frozen? ⟨g,5,none⟩=false∧w.frozen? ⟨g,6,none⟩=false:=⟨(Qa b 0).trans rfl,(Qa b 1).trans rfl,(Qa b 2).trans rfl,(Qa b 3).trans rfl,(Qa b 4).trans rfl,(Qa b 5).trans rfl,(Qa b 6).trans rfl,Qg b 0,Qg b 1,Qg b 2,Qg b 3,Qg b 4,Qg b 5,Qg b 6⟩
theorem qD8 {w:World} {g:Nat} {t:TypeId} {B Z a2 a3 O a5 X a7:Value} (b:w.heap[g]?=some (.cells #[B,Z,a2,a3,O,a5,X,a7] t (0,0))):w.cell? ⟨g,0,none⟩=some B∧w.cell? ⟨g,1,none⟩=some Z∧w.cell? ⟨g,2,none⟩=some a2∧w.cell? ⟨g,3,none⟩=some a3∧w.cell? ⟨g,4,none⟩=some O∧w.cell? ⟨g,5,none⟩=some a5∧w.cell? ⟨g,6,none⟩=some X∧w.cell? ⟨g,7,none⟩=some a7∧w.frozen? ⟨g,0,none⟩=false∧w.frozen? ⟨g,1,none⟩=false∧w.frozen? ⟨g,2,none⟩=false∧w.frozen? ⟨g,3,none⟩=false∧w.frozen? ⟨g,4,none⟩=false∧w.frozen? ⟨g,5,none⟩=false∧w.frozen? ⟨g,6,none⟩=false∧w.frozen? ⟨g,7,none⟩=false:=⟨(Qa b 0).trans rfl,(Qa b 1).trans rfl,(Qa b 2).trans rfl,(Qa b 3).trans rfl,(Qa b 4).trans rfl,(Qa b 5).trans rfl,(Qa b 6).trans rfl,(Qa b 7).trans rfl,Qg b 0,Qg b 1,Qg b 2,Qg b 3,Qg b 4,Qg b 5,Qg b 6,Qg b 7⟩
theorem Zi {w:World} {g:Nat} {t:TypeId} {B Z a2 a3 O a5 X a7 a8 a9:Value} (b:w.heap[g]?=some (.cells #[B,Z,a2,a3,O,a5,X,a7,a8,a9] t (0,0))):w.cell? ⟨g,0,none⟩=some B∧w.cell? ⟨g,1,none⟩=some Z∧w.cell? ⟨g,2,none⟩=some a2∧w.cell? ⟨g,3,none⟩=some a3∧w.cell? ⟨g,4,none⟩=some O∧w.cell? ⟨g,5,none⟩=some a5∧w.cell? ⟨g,6,none⟩=some X∧w.cell? ⟨g,7,none⟩=some a7∧w.cell? ⟨g,8,none⟩=some a8∧w.cell? ⟨g,9,none⟩=some a9∧w.frozen? ⟨g,0,none⟩=false∧w.frozen? ⟨g,1,none⟩=false∧w.frozen? ⟨g,2,none⟩=false∧w.frozen? ⟨g,3,none⟩=false∧w.frozen? ⟨g,4,none⟩=false∧w.frozen? ⟨g,5,none⟩=false∧w.frozen? ⟨g,6,none⟩=false∧w.frozen? ⟨g,7,none⟩=false∧w.frozen? ⟨g,8,none⟩=false∧w.frozen? ⟨g,9,none⟩=false:=⟨(Qa b 0).trans rfl,(Qa b 1).trans rfl,(Qa b 2).trans rfl,(Qa b 3).trans rfl,(Qa b 4).trans rfl,(Qa b 5).trans rfl,(Qa b 6).trans rfl,(Qa b 7).trans rfl,(Qa b 8).trans rfl,(Qa b 9).trans rfl,Qg b 0,Qg b 1,Qg b 2,Qg b 3,Qg b 4,Qg b 5,Qg b 6,Qg b 7,Qg b 8,Qg b 9⟩
end Go.Proofs.YtmfffemidlhcpaaW.PrintWords
namespace Go.Proofs.YtmfffemidlhcpaaW.PrintWords
open Go.RowKit Go.Proofs.YtmfffemidlhcpaaW.PrintLast Go.Proofs.YtmfffemidlhcpaaW.PrintMore
abbrev nI (x:Int):Value:=.int .i64 x
abbrev cI (w:World) (g i:Nat) (x:Int):Prop:=w.cell? ⟨g,i,none⟩=some (.int .i64 x)
theorem Kd.fV {α:Type} {d:Kd α} {e:Nat} {w:World} {base:Nat} {ok:Nat→Prop} {v:Value} {xs:List α} {g j:Nat} {u:Value} (h:Kd.V d e w base (fun k=>ok k∧k≠g) v xs):Kd.V d e (w.setCell ⟨g,j,none⟩ u) base (fun k=>ok k∧k≠g) v xs:=Kd.V_far h (fun _ hk=>hk.2) u
theorem Kd.fR {α:Type} {d:Kd α} {e:Nat} {w:World} {base:Nat} {ok:Nat→Prop} {v:Value} {xs:List α} {g j:Nat} {u:Value} (h:d.R e w base (fun k=>ok k∧k≠g) v xs):d.R e (w.setCell ⟨g,j,none⟩ u) base (fun k=>ok k∧k≠g) v xs:=Kd.Qx h (fun _ hk=>hk.2) u
theorem cF {w:World} {g j:Nat} {q:Addr} {u:Value} {v:Option Value} (h:Aside0 (q.block≠g)) (e:w.cell? q=v):(w.setCell ⟨g,j,none⟩ u).cell? q=v:=(cell_far h.out _).trans e
end Go.Proofs.YtmfffemidlhcpaaW.PrintWords
namespace Go.Proofs.Ytmfffemidlhcpaa.C
open Go.RowKit Go.Proofs.YtmfffemidlhcpaaW.PrintWords Go.Proofs.YtmfffemidlhcpaaW.PrintLast Go.Proofs.YtmfffemidlhcpaaW.PrintMore
attribute [local go_sem] Z2 Z0 Xb Xa Zt Zs Z1 Zz
def Ew:Option Int→Value
 |none=>.nilIface
 |some c=>.iface 0 (nI c)
theorem Ql:Ew none = .nilIface:=rfl
theorem Qk (c:Int):Ew (some c) = .iface 0 (nI c):=rfl
theorem Kt:(Try.prog.info? 3).map (fun i=>(i.zero,i.size,i.bytes))=some (some (nI 0),1,8):=by kernel_rfl
theorem Y7:(Try.prog.info? 36).map (fun i=>(i.zero,i.size,i.bytes))=some (some (.agg #[(nI 0),(nI 0),(nI 0)]),3,24):=by kernel_rfl
theorem Gt:(Try.prog.info? 86).map (fun i=>(i.zero,i.size,i.bytes))=some (some (.agg #[(nI 0),(nI 0)]),2,16):=by kernel_rfl
structure S27 where
 f0:Int
 f1:Int
 f2:Int
def z27:S27:=⟨(0:Int),(0:Int),(0:Int)⟩
def k27:Kd S27:=Kd.iso (Kd.pair (Kd.int .i64) (Kd.pair (Kd.int .i64) (Kd.int .i64))) (fun x:S27=>(x.f0,x.f1,x.f2))
theorem Eo {w:World} {x:S27} {cs:List Value} (h:k27.K w x cs):cs = [nI x.f0,nI x.f1,nI x.f2]:=by
 obtain⟨_,_,rfl,rfl,⟨_,_,rfl,rfl,rfl⟩⟩:=h
 exact rfl
theorem D6 (w:World) (base:Nat) (ok:Nat→Prop) (x:S27):k27.M w base ok x [nI x.f0,nI x.f1,nI x.f2]:=⟨[nI x.f0],[nI x.f1,nI x.f2],rfl,rfl,⟨[nI x.f1],[nI x.f2],rfl,rfl,rfl⟩⟩
def Jg (xs:List (List Int)) (i:Int):(List Int):=xs.getD i.toNat ([]:List Int)
theorem Cw {w:World} {A:Option Addr} {n:Nat} {xs:List (List Int)} (h:Kd.C (Kd.slice 3 (Kd.int .i64)) w A n xs) (i:Int) (X:0≤i) (h1:i<n):∃ ad A0 c0,A=some ad∧w.cell? (ad.add i.toNat)=some (.slice A0 (Jg xs i).length c0)∧(Jg xs i).length≤c0∧(Kd.int .i64).C w A0 (Jg xs i).length (Jg xs i):=by
 obtain⟨ad,c,e,_,hK,Y⟩:=Kd.Uf h ([]:List Int) i X h1
 have hc:∀ j u,c[j]?=some u→w.cell? (ad.add (i.toNat * 1+j))=some u:=Y
 obtain⟨A0,c0,rfl,l0,g0⟩:=hK
 exact⟨ad,A0,c0,e,by have hq:=hc 0 _ rfl;rwa[Nat.mul_one,Nat.add_zero] at hq,l0,g0⟩
structure S36 where
 f0:Int
 f1:Int
 f2:Int
def z36:S36:=⟨(0:Int),(0:Int),(0:Int)⟩
def k36:Kd S36:=Kd.iso (Kd.pair (Kd.int .i64) (Kd.pair (Kd.int .i64) (Kd.int .i64))) (fun x:S36=>(x.f0,x.f1,x.f2))
theorem El:Kd.Heap k36:=Kd.W4 _ (Kd.Gu (Kd.Xn .i64) (Kd.Gu (Kd.Xn .i64) (Kd.Xn .i64)))
theorem Vq {w:World} {x:S36} {cs:List Value} (h:k36.K w x cs):cs = [nI x.f0,nI x.f1,nI x.f2]:=by
 obtain⟨_,_,rfl,rfl,⟨_,_,rfl,rfl,rfl⟩⟩:=h
 exact rfl
theorem Yt {w:World} {base:Nat} {ok:Nat→Prop} {x:S36} {cs:List Value} (h:k36.M w base ok x cs):cs = [nI x.f0,nI x.f1,nI x.f2]:=by
 obtain⟨_,_,rfl,rfl,⟨_,_,rfl,rfl,rfl⟩⟩:=h
 exact rfl
theorem Jh (w:World) (base:Nat) (ok:Nat→Prop) (x:S36):k36.M w base ok x [nI x.f0,nI x.f1,nI x.f2]:=⟨[nI x.f0],[nI x.f1,nI x.f2],rfl,rfl,⟨[nI x.f1],[nI x.f2],rfl,rfl,rfl⟩⟩
def Qb (xs:List S36) (i:Int):S36:=xs.getD i.toNat z36
theorem Z4 {w:World} {A:Option Addr} {n:Nat} {xs:List S36} (h:Kd.C k36 w A n xs) (i:Int) (X:0≤i) (h1:i<n):∃ ad,A=some ad∧w.cell? (ad.add (i.toNat * 3))=some (nI (Qb xs i).f0)∧w.cell? ⟨(ad.add (i.toNat * 3)).block,(ad.add (i.toNat * 3)).off+1,none⟩=some (nI (Qb xs i).f1)∧w.cell? ⟨(ad.add (i.toNat * 3)).block,(ad.add (i.toNat * 3)).off+2,none⟩=some (nI (Qb xs i).f2):=by
 obtain⟨ad,c,e,_,hK,Y⟩:=Kd.Uf h z36 i X h1
 have hc:∀ j u,c[j]?=some u→w.cell? (ad.add (i.toNat * 3+j))=some u:=Y
 obtain rfl:=Vq hK
 exact⟨ad,e,hc 0 _ rfl,by rw[← Xc _ _ 1 (by omega)];exact hc 1 _ rfl,by rw[← Xc _ _ 2 (by omega)];exact hc 2 _ rfl⟩
structure S86 where
 f0:Int
 f1:Int
def z86:S86:=⟨(0:Int),(0:Int)⟩
def k86:Kd S86:=Kd.iso (Kd.pair (Kd.int .i64) (Kd.int .i64)) (fun x:S86=>(x.f0,x.f1))
theorem Ei:Kd.Heap k86:=Kd.W4 _ (Kd.Gu (Kd.Xn .i64) (Kd.Xn .i64))
theorem Gi {w:World} {x:S86} {cs:List Value} (h:k86.K w x cs):cs = [nI x.f0,nI x.f1]:=by
 obtain⟨_,_,rfl,rfl,rfl⟩:=h
 exact rfl
theorem Kn {w:World} {base:Nat} {ok:Nat→Prop} {x:S86} {cs:List Value} (h:k86.M w base ok x cs):cs = [nI x.f0,nI x.f1]:=by
 obtain⟨_,_,rfl,rfl,rfl⟩:=h
 exact rfl
theorem Eh (w:World) (x:S86):k86.K w x [nI x.f0,nI x.f1]:=⟨[nI x.f0],[nI x.f1],rfl,rfl,rfl⟩
theorem Up (w:World) (base:Nat) (ok:Nat→Prop) (x:S86):k86.M w base ok x [nI x.f0,nI x.f1]:=⟨[nI x.f0],[nI x.f1],rfl,rfl,rfl⟩
def Qp (xs:List S86) (i:Int):S86:=xs.getD i.toNat z86
theorem Xi {w:World} {A:Option Addr} {n:Nat} {xs:List S86} (h:Kd.C k86 w A n xs) (i:Int) (X:0≤i) (h1:i<n):∃ ad,A=some ad∧w.cell? (ad.add (i.toNat * 2))=some (nI (Qp xs i).f0)∧w.cell? ⟨(ad.add (i.toNat * 2)).block,(ad.add (i.toNat * 2)).off+1,none⟩=some (nI (Qp xs i).f1):=by
 obtain⟨ad,c,e,_,hK,Y⟩:=Kd.Uf h z86 i X h1
 have hc:∀ j u,c[j]?=some u→w.cell? (ad.add (i.toNat * 2+j))=some u:=Y
 obtain rfl:=Gi hK
 exact⟨ad,e,hc 0 _ rfl,by rw[← Xc _ _ 1 (by omega)];exact hc 1 _ rfl⟩
structure S50 where
 f0:(List S36)
 f1:(List S86)
def k50:Kd S50:=Kd.iso (Kd.pair (Kd.slice 36 k36) (Kd.slice 86 k86)) (fun x:S50=>(x.f0,x.f1))
theorem Ek {w:World} {x:S50} {cs:List Value} (h:k50.K w x cs):∃ A0 c0 A1 c1,cs = [.slice A0 x.f0.length c0,.slice A1 x.f1.length c1]∧x.f0.length≤c0∧k36.C w A0 x.f0.length x.f0∧x.f1.length≤c1∧k86.C w A1 x.f1.length x.f1:=by
 obtain⟨_,_,rfl,⟨A0,c0,rfl,l0,g0⟩,⟨A1,c1,rfl,l1,g1⟩⟩:=h
 exact⟨A0,c0,A1,c1,rfl,l0,g0,l1,g1⟩
structure S29 where
 f0:Int
 f1:Int
 f2:Int
 f3:Int
 f4:S27
def z29:S29:=⟨(0:Int),(0:Int),(0:Int),(0:Int),z27⟩
def k29:Kd S29:=Kd.iso (Kd.pair (Kd.int .i64) (Kd.pair (Kd.int .i64) (Kd.pair (Kd.int .i64) (Kd.pair (Kd.int .i64) k27)))) (fun x:S29=>(x.f0,x.f1,x.f2,x.f3,x.f4))
theorem En {w:World} {x:S29} {cs:List Value} (h:k29.K w x cs):cs = [nI x.f0,nI x.f1,nI x.f2,nI x.f3,nI x.f4.f0,nI x.f4.f1,nI x.f4.f2]:=by
 obtain⟨_,_,rfl,rfl,⟨_,_,rfl,rfl,⟨_,_,rfl,rfl,⟨_,_,rfl,rfl,O⟩⟩⟩⟩:=h
 obtain rfl:=Eo O
 exact rfl
theorem D5 (w:World) (base:Nat) (ok:Nat→Prop) (x:S29):k29.M w base ok x [nI x.f0,nI x.f1,nI x.f2,nI x.f3,nI x.f4.f0,nI x.f4.f1,nI x.f4.f2]:=⟨[nI x.f0],[nI x.f1,nI x.f2,nI x.f3,nI x.f4.f0,nI x.f4.f1,nI x.f4.f2],rfl,rfl,⟨[nI x.f1],[nI x.f2,nI x.f3,nI x.f4.f0,nI x.f4.f1,nI x.f4.f2],rfl,rfl,⟨[nI x.f2],[nI x.f3,nI x.f4.f0,nI x.f4.f1,nI x.f4.f2],rfl,rfl,⟨[nI x.f3],[nI x.f4.f0,nI x.f4.f1,nI x.f4.f2],rfl,rfl,(D6 w base ok x.f4)⟩⟩⟩⟩
structure S31 where
 f0:S29
 f1:Int
 f2:Bool
 f3:Bool
def z31:S31:=⟨z29,(0:Int),false,false⟩
def k31:Kd S31:=Kd.iso (Kd.pair k29 (Kd.pair (Kd.int .i64) (Kd.pair Kd.bool Kd.bool))) (fun x:S31=>(x.f0,x.f1,x.f2,x.f3))
theorem Em {w:World} {x:S31} {cs:List Value} (h:k31.K w x cs):cs = [nI x.f0.f0,nI x.f0.f1,nI x.f0.f2,nI x.f0.f3,nI x.f0.f4.f0,nI x.f0.f4.f1,nI x.f0.f4.f2,nI x.f1,.bool x.f2,.bool x.f3]:=by
 obtain⟨_,_,rfl,B,⟨_,_,rfl,rfl,⟨_,_,rfl,rfl,rfl⟩⟩⟩:=h
 obtain rfl:=En B
 exact rfl
theorem Mg (w:World) (base:Nat) (ok:Nat→Prop) (x:S31):k31.M w base ok x [nI x.f0.f0,nI x.f0.f1,nI x.f0.f2,nI x.f0.f3,nI x.f0.f4.f0,nI x.f0.f4.f1,nI x.f0.f4.f2,nI x.f1,.bool x.f2,.bool x.f3]:=⟨[nI x.f0.f0,nI x.f0.f1,nI x.f0.f2,nI x.f0.f3,nI x.f0.f4.f0,nI x.f0.f4.f1,nI x.f0.f4.f2],[nI x.f1,.bool x.f2,.bool x.f3],rfl,(D5 w base ok x.f0),⟨[nI x.f1],[.bool x.f2,.bool x.f3],rfl,rfl,⟨[.bool x.f2],[.bool x.f3],rfl,rfl,rfl⟩⟩⟩
def Qc (xs:List S31) (i:Int):S31:=xs.getD i.toNat z31
theorem Jc {w:World} {A:Option Addr} {n:Nat} {xs:List S31} (h:Kd.C k31 w A n xs) (i:Int) (X:0≤i) (h1:i<n):∃ ad,A=some ad∧w.cell? (ad.add (i.toNat * 10))=some (nI (Qc xs i).f0.f0)∧w.cell? ⟨(ad.add (i.toNat * 10)).block,(ad.add (i.toNat * 10)).off+1,none⟩=some (nI (Qc xs i).f0.f1)∧w.cell? ⟨(ad.add (i.toNat * 10)).block,(ad.add (i.toNat * 10)).off+2,none⟩=some (nI (Qc xs i).f0.f2)∧w.cell? ⟨(ad.add (i.toNat * 10)).block,(ad.add (i.toNat * 10)).off+3,none⟩=some (nI (Qc xs i).f0.f3)∧w.cell? ⟨(ad.add (i.toNat * 10)).block,(ad.add (i.toNat * 10)).off+4,none⟩=some (nI (Qc xs i).f0.f4.f0)∧w.cell? ⟨(ad.add (i.toNat * 10)).block,(ad.add (i.toNat * 10)).off+5,none⟩=some (nI (Qc xs i).f0.f4.f1)∧w.cell? ⟨(ad.add (i.toNat * 10)).block,(ad.add (i.toNat * 10)).off+6,none⟩=some (nI (Qc xs i).f0.f4.f2)∧w.cell? ⟨(ad.add (i.toNat * 10)).block,(ad.add (i.toNat * 10)).off+7,none⟩=some (nI (Qc xs i).f1)∧w.cell? ⟨(ad.add (i.toNat * 10)).block,(ad.add (i.toNat * 10)).off+8,none⟩=some (.bool (Qc xs i).f2)∧w.cell? ⟨(ad.add (i.toNat * 10)).block,(ad.add (i.toNat * 10)).off+9,none⟩=some (.bool (Qc xs i).f3):=by
 obtain⟨ad,c,e,_,hK,Y⟩:=Kd.Uf h z31 i X h1
 have hc:∀ j u,c[j]?=some u→w.cell? (ad.add (i.toNat * 10+j))=some u:=Y
 obtain rfl:=Em hK
 exact⟨ad,e,hc 0 _ rfl,by rw[← Xc _ _ 1 (by omega)];exact hc 1 _ rfl,by rw[← Xc _ _ 2 (by omega)];exact hc 2 _ rfl,by rw[← Xc _ _ 3 (by omega)];exact hc 3 _ rfl,by rw[← Xc _ _ 4 (by omega)];exact hc 4 _ rfl,by rw[← Xc _ _ 5 (by omega)];exact hc 5 _ rfl,by rw[← Xc _ _ 6 (by omega)];exact hc 6 _ rfl,by rw[← Xc _ _ 7 (by omega)];exact hc 7 _ rfl,by rw[← Xc _ _ 8 (by omega)];exact hc 8 _ rfl,by rw[← Xc _ _ 9 (by omega)];exact hc 9 _ rfl⟩
structure S23 where
 f0:Int
 f1:Int
 f2:Int
 f3:Int
 f4:Int
 f5:Int
 f6:Int
def k23:Kd S23:=Kd.iso (Kd.pair (Kd.int .i64) (Kd.pair (Kd.int .i64) (Kd.pair (Kd.int .i64) (Kd.pair (Kd.int .i64) (Kd.pair (Kd.int .i64) (Kd.pair (Kd.int .i64) (Kd.int .i64))))))) (fun x:S23=>(x.f0,x.f1,x.f2,x.f3,x.f4,x.f5,x.f6))
theorem Er {w:World} {x:S23} {cs:List Value} (h:k23.K w x cs):cs = [nI x.f0,nI x.f1,nI x.f2,nI x.f3,nI x.f4,nI x.f5,nI x.f6]:=by
 obtain⟨_,_,rfl,rfl,⟨_,_,rfl,rfl,⟨_,_,rfl,rfl,⟨_,_,rfl,rfl,⟨_,_,rfl,rfl,⟨_,_,rfl,rfl,rfl⟩⟩⟩⟩⟩⟩:=h
 exact rfl
structure S25 where
 f0:Int
 f1:S23
 f2:Int
 f3:Int
def k25:Kd S25:=Kd.iso (Kd.pair (Kd.int .i64) (Kd.pair k23 (Kd.pair (Kd.int .i64) (Kd.int .i64)))) (fun x:S25=>(x.f0,x.f1,x.f2,x.f3))
theorem Ep {w:World} {x:S25} {cs:List Value} (h:k25.K w x cs):cs = [nI x.f0,nI x.f1.f0,nI x.f1.f1,nI x.f1.f2,nI x.f1.f3,nI x.f1.f4,nI x.f1.f5,nI x.f1.f6,nI x.f2,nI x.f3]:=by
 obtain⟨_,_,rfl,rfl,⟨_,_,rfl,B,⟨_,_,rfl,rfl,rfl⟩⟩⟩:=h
 obtain rfl:=Er B
 exact rfl
structure S52 where
 f0:S25
 f1:(List S31)
 f2:Int
 f3:S50
def k52:Kd S52:=Kd.iso (Kd.pair k25 (Kd.pair (Kd.slice 31 k31) (Kd.pair (Kd.int .i64) k50))) (fun x:S52=>(x.f0,x.f1,x.f2,x.f3))
theorem Ej {w:World} {x:S52} {cs:List Value} (h:k52.K w x cs):∃ ci c10 b8 a3 bn a2,cs = [nI x.f0.f0,nI x.f0.f1.f0,nI x.f0.f1.f1,nI x.f0.f1.f2,nI x.f0.f1.f3,nI x.f0.f1.f4,nI x.f0.f1.f5,nI x.f0.f1.f6,nI x.f0.f2,nI x.f0.f3,.slice ci x.f1.length c10,nI x.f2,.slice b8 x.f3.f0.length a3,.slice bn x.f3.f1.length a2]∧x.f1.length≤c10∧k31.C w ci x.f1.length x.f1∧x.f3.f0.length≤a3∧k36.C w b8 x.f3.f0.length x.f3.f0∧x.f3.f1.length≤a2∧k86.C w bn x.f3.f1.length x.f3.f1:=by
 obtain⟨_,_,rfl,B,⟨_,_,rfl,⟨ci,c10,rfl,l10,J⟩,⟨_,_,rfl,rfl,O⟩⟩⟩:=h
 obtain rfl:=Ep B
 obtain⟨b8,a3,bn,a2,rfl,X,Y,Z,γ⟩:=Ek O
 exact⟨ci,c10,b8,a3,bn,a2,rfl,l10,J,X,Y,Z,γ⟩
def door_within.f (B:Int) (Z:Int) (a2:Int):Option (Bool):=if Z≤B then (some (decide (B≤a2))) else (some false)
theorem door_within.calls (B:Int) (Z:Int) (a2:Int) (r:Bool) (w:World) (h:door_within.f B Z a2=some r):
 Calls Try.prog 86 #[nI B,nI Z,nI a2] w fun e w'=>e = .returned (.bool r)∧Drawn0 w w':=by
 have H:(if Z≤B then (some (decide (B≤a2))) else (some false))=some r:=h
 clear h
 by_cases c4:Z≤B
 ·rw[if_pos c4] at H
  have c4b0:=decide_eq_true c4
  clear c4
  obtain rfl:=qJ H
  go_enter Try.func86,Try.ntmps86
  go_wp2
  go_ret
  exact⟨qR,by repeat(first|exact Drawn0.refl _|apply Drawn0.step)⟩
 ·rw[if_neg c4] at H
  have c4b0:=decide_eq_false c4
  clear c4
  obtain rfl:=qJ H
  go_enter Try.func86,Try.ntmps86
  go_wp2
  go_ret
  exact⟨qR,by repeat(first|exact Drawn0.refl _|apply Drawn0.step)⟩
end Go.Proofs.Ytmfffemidlhcpaa.C
namespace Go.Proofs.Ytmfffemidlhcpaa.C
open Go.RowKit Go.Proofs.YtmfffemidlhcpaaW.PrintWords Go.Proofs.YtmfffemidlhcpaaW.PrintLast Go.Proofs.YtmfffemidlhcpaaW.PrintMore
theorem bel {B:Nat} {w W:World} (h:Below B w W:=by repeat(first|(with_reducible first|exact HB.out|apply Qq|apply Qn|apply Qj|refine Qz ?_ (Aside0.out (by assumption)))|exact HB.out|(refine Qz ?_ (Aside0.out (by assumption))))):Below B w W:=h
theorem bka {w W:World} {g:Nat} {o:Obj} (b:Aside0 (w.heap[g]?=some o)) (e:W.heap[g]?=some o:=by(with_reducible repeat(first|refine Qi ?_ _|refine Qd ?_|refine Qh ?_ _|refine Ym ?_ (Aside0.out (by assumption)) _));exact Aside0.out (by assumption)):W.heap[g]?=some o:=e
theorem kra {α:Type} {d:Kd α} {e0:TypeId} {w W:World} {base:Nat} {ok:Nat→Prop} {v:Value} {xs:List α} (b:Aside0 (d.R e0 w base ok v xs)) (e:d.R e0 W base ok v xs:=by(with_reducible repeat first|apply Kd.Qs|apply Kd.Qr|apply Kd.Qu);exact Aside0.out (by assumption)):d.R e0 W base ok v xs:=e
theorem sRb {α:Type} {d:Kd α} {e0:TypeId} {w w1 w2:World} {base:Nat} {ok:Nat→Prop} {v:Value} {xs:List α} (b:Aside0 (d.R e0 w base ok v xs)) (h:Below w1.heap.size w1 w2) (e:d.R e0 w1 base ok v xs:=by(with_reducible repeat first|apply Kd.Qs|apply Kd.Qr|apply Kd.Qu);exact Aside0.out (by assumption)):Aside0 (d.R e0 w2 base ok v xs):=⟨Kd.Zn e h⟩
theorem sBk {w w1 w2:World} {g:Nat} {o:Obj} (b:Aside0 (w.heap[g]?=some o)) (h:Below w1.heap.size w1 w2) (e:w1.heap[g]?=some o:=by(with_reducible repeat(first|refine Qi ?_ _|refine Qd ?_|refine Qh ?_ _|refine Ym ?_ (Aside0.out (by assumption)) _));exact Aside0.out (by assumption)):Aside0 (w2.heap[g]?=some o):=⟨Q1 e h⟩
theorem sHb {w W w2:World} (h:Below W.heap.size W w2) (b:Below w.heap.size w W:=by repeat(first|(with_reducible first|exact HB.out|apply Qq|apply Qn|apply Qj|refine Qz ?_ (Aside0.out (by assumption)))|exact HB.out|(refine Qz ?_ (Aside0.out (by assumption))))):Aside0 (Below w.heap.size w w2):=⟨Q6 b h⟩
theorem sGe {w W:World} {g:Nat} (h:g=W.heap.size) (b:Below w.heap.size w W:=by repeat(first|(with_reducible first|exact HB.out|apply Qq|apply Qn|apply Qj|refine Qz ?_ (Aside0.out (by assumption)))|exact HB.out|(refine Qz ?_ (Aside0.out (by assumption))))):Aside0 (w.heap.size≤g):=⟨by rw[h];exact Qm b⟩
theorem sNl {w W:World} {g k:Nat} {o:Obj} (b:Aside0 (w.heap[g]?=some o)) (h:k=W.heap.size) (e:W.heap[g]?=some o:=by(with_reducible repeat(first|refine Qi ?_ _|refine Qd ?_|refine Qh ?_ _|refine Ym ?_ (Aside0.out (by assumption)) _));exact Aside0.out (by assumption)):Aside0 (g≠k):=⟨by rw[h];exact Nat.ne_of_lt (Xl e)⟩
theorem sNg {w W:World} {g k:Nat} {o:Obj} (b:Aside0 (w.heap[g]?=some o)) (h:k=W.heap.size) (e:W.heap[g]?=some o:=by(with_reducible repeat(first|refine Qi ?_ _|refine Qd ?_|refine Qh ?_ _|refine Ym ?_ (Aside0.out (by assumption)) _));exact Aside0.out (by assumption)):Aside0 (k≠g):=⟨by rw[h];exact Nat.ne_of_gt (Xl e)⟩
def bN (n m:Nat):Array Bool:=((List.range n).map fun i=>m.testBit i).toArray
end Go.Proofs.Ytmfffemidlhcpaa.C
namespace Go.Proofs.Ytmfffemidlhcpaa.C
open Go.RowKit Go.Proofs.YtmfffemidlhcpaaW.PrintWords Go.Proofs.YtmfffemidlhcpaaW.PrintLast Go.Proofs.YtmfffemidlhcpaaW.PrintMore
attribute [local go_sem] Z2 Z0 Xb Xa Zt Zs Z1 Zz
def door_times.l0:Nat→List Int→Int→Int→Int→Int→Int→Int→Int→Int→Int→Option (Bool)
 |0,_,_,_,_,_,_,_,_,_,_=>none
 |k+1,B,ν,O,X,Y,Z,γ,δ,ε,J=>if O < ν then (if 0≤O then (if O<(B.length:Int) then ((door_within.f (rd B O) 1 60).bind fun θ =>(if θ = true then (door_times.l0 k B ν (wrap64 (O+1)) X Y Z γ δ ε J) else (some false))) else (none)) else (none)) else ((door_within.f J 0 60).bind fun ι =>(some ι))
def door_times.f (k:Nat) (B:Int) (J:Int) (O:Int) (Y:Int) (Z:Int) (γ:Int) (δ :Int):Option (Bool):=(some (([B,J,O,Y,Z,γ]:List Int):List Int)).bind fun η =>(door_times.l0 k η (η.length:Int) 0 B J O Y Z γ δ)
theorem door_times.Z6:∀ k,(∀ O X Z B Y y5 y6 y7 y8 y9,LeO (door_times.l0 k O X Z B Y y5 y6 y7 y8 y9) (door_times.l0 (k+1) O X Z B Y y5 y6 y7 y8 y9))
 |0=>fun _ _ _ _ _ _ _ _ _ _ r h=>by simp[door_times.l0] at h
 |k+1=>by
  have J:=door_times.Z6 k
  ·intro O X Z B Y y5 y6 y7 y8 y9
   unfold door_times.l0
   repeat' first|(with_reducible first|apply J|exact LeO.refl _|exact LeO.none _|refine LeO.ite ?_ ?_|refine LeO.bind ?_ (fun _=>?_))|apply J|exact LeO.none _|refine LeO.ite ?_ ?_|refine LeO.bind ?_ (fun _=>?_)
theorem door_times.mono:∀ B Z a2 a3 O a5 X k,LeO (door_times.f k B Z a2 a3 O a5 X) (door_times.f (k+1) B Z a2 a3 O a5 X):=by
 intro B Z a2 a3 O a5 X k
 have J:=door_times.Z6 k
 unfold door_times.f
 repeat' first|(with_reducible first|apply J|exact LeO.refl _|exact LeO.none _|refine LeO.ite ?_ ?_|refine LeO.bind ?_ (fun _=>?_))|apply J|exact LeO.none _|refine LeO.ite ?_ ?_|refine LeO.bind ?_ (fun _=>?_)
theorem door_times.calls (k:Nat) (B:Int) (J:Int) (O:Int) (Y:Int) (Z:Int) (γ:Int) (δ :Int) (r:Bool) (w:World) (h:door_times.f k B J O Y Z γ δ = some r):
 Calls Try.prog 70 #[.agg #[nI B,nI J,nI O,nI Y,nI Z,nI γ,nI δ]] w fun e w'=>e = .returned (.bool r)∧Below w.heap.size w w':=by
 have jb:=Try.underlying23
 have HB:=aK (Below.refl w.heap.size w)
 have H:((some (([B,J,O,Y,Z,γ]:List Int):List Int)).bind fun η =>(door_times.l0 k η (η.length:Int) 0 B J O Y Z γ δ))=some r:=h
 clear h
 obtain⟨η,κ⟩:∃ y_:List Int,y_=(([B,J,O,Y,Z,γ]:List Int)):=⟨_,rfl⟩
 replace H:(door_times.l0 k η (η.length:Int) 0 B J O Y Z γ δ)=some r:=by first|(rw[κ];with_reducible exact H)|(have ag:=(Option.bind_some _ _).symm.trans H;rw[κ];with_reducible exact ag)|(have ag:=(Option.bind_some _ _).symm.trans H;with_reducible exact ag)|with_reducible exact H|(rw[κ];exact H)|exact H
 have ψ :=aK κ
 clear κ
 have H':=aK H
 clear H
 go_enter Try.func70,Try.ntmps70
 go_wp2_with (first|((with_reducible refine Qe (N:=1) rfl ?_);refine qE 1 #[nI B,nI J,nI O,nI Y,nI Z,nI γ,nI δ] 23 ?_;intro ε hg w2 hbox hb;have X:=aK hbox;have a2:=sGe hg;have μ :=sGe hg;replace HB:=sHb hb;clear hb hbox hg;obtain⟨χ,a0,a1,a3,a4,a6,a7,a8,aa,ab,ac,ae,ah,ai⟩:=qD7 X.out)|((with_reducible refine Qe (N:=17) rfl ?_);refine Kd.Ue (Kd.int .i64) _ 3 ?hg (N:=17) ?hd (xs:=([B,J,O,Y,Z,γ]:List Int)) (inner:=[nI B,nI J,nI O,nI Y,nI Z,nI γ]) (ok:=fun _=>True) (okp:=fun _=>True) ?hr ?hp (fun _ hk=>hk) trivial (Below.refl _ _) (Nat.le_refl _) (by simp) ?_;(case hd=>rfl);(case hg=>rfl);(case hr=>go_simp <;> rfl);(case hp=>exact(Reps.one (show Kd.M (Kd.int .i64) _ _ _ B [nI B] from rfl) (Reps.one (show Kd.M (Kd.int .i64) _ _ _ J [nI J] from rfl) (Reps.one (show Kd.M (Kd.int .i64) _ _ _ O [nI O] from rfl) (Reps.one (show Kd.M (Kd.int .i64) _ _ _ Y [nI Y] from rfl) (Reps.one (show Kd.M (Kd.int .i64) _ _ _ Z [nI Z] from rfl) (Reps.one (show Kd.M (Kd.int .i64) _ _ _ γ [nI γ] from rfl) (Reps.none _ _))))))));intro aj w4 φ hb hg_ hnew_;clear hg_ hnew_;(first|rw[← ψ.out] at φ |(simp only[Int.reduceToNat] at φ;rw[← ψ.out] at φ));have τ :=aK (Kd.Za φ (Qm HB.out));replace X:=sBk X hb;replace HB:=sHb hb;clear hb φ;obtain⟨ak,al,am⟩:=Kd.Q7 τ.out;subst am))
 go_loopg [19] k (fun kq bw w'=>∃ (ζ :Int),bw=nI ζ ∧ Aside0 (door_times.l0 kq η (η.length:Int) ζ B J O Y Z γ δ = some r)∧Aside0 (kq≤k)∧Aside0 (Kd.R (Kd.int .i64) 3 w' w.heap.size (fun _=>True) (.slice ak η.length al) η)∧Aside0 (w'.heap[ε]?=some (.cells #[nI B,nI J,nI O,nI Y,nI Z,nI γ,nI δ] 23 (0,0)))∧Aside0 (Below w.heap.size w w'))
 case atStart=>exact⟨(0),rfl,H',⟨Nat.le_refl _⟩,⟨by(with_reducible repeat first|apply Kd.Qs|apply Kd.Qr|apply Kd.Qu);exact τ.out⟩,X,HB⟩
 case round=>
  clear H'
  try clear χ
  try clear a0
  try clear a1
  try clear a3
  try clear a4
  try clear a6
  try clear a7
  try clear a8
  try clear aa
  try clear ab
  try clear ac
  try clear ae
  try clear ah
  try clear ai
  obtain⟨ζ,rfl,HA,af,ν,X,HB⟩:=hrel
  cases gk with
  |zero=>exact absurd HA.out (by simp[door_times.l0])
  |succ k1=>
   have H:=HA.out
   clear HA
   simp only[door_times.l0] at H
   by_cases c7: ζ < (η.length:Int)
   ·rw[if_pos c7] at H
    have c7b0:=decide_eq_true c7
    clear c7
    by_cases c8:0 ≤ ζ
    ·rw[if_pos c8] at H
     have c8b0:=decide_eq_true c8
     clear c8
     by_cases c9: ζ < (η.length:Int)
     ·rw[if_pos c9] at H
      have c9b0:=decide_eq_true c9
      clear c9
      obtain⟨θ,ci,H⟩:=qQ H
      by_cases a5: θ = true
      ·subst a5
       rw[if_pos rfl] at H
       have H':=aK H
       clear H
       have ρ:0≤(ζ :Int):=of_decide_eq_true (by assumption)
       have σ: ζ < (η.length:Int):=of_decide_eq_true (by assumption)
       obtain⟨ω,a9,ξ⟩:=Kd.Jb (Kd.Qt ν.out).2.2 ζ ρ σ
       cases a9
       replace ρ:=eq_true ρ
       replace σ:=eq_true σ
       go_wp2_with (first|((with_reducible refine Qf (f:=86) rfl ?_);refine Q0 (some 24) rfl rfl Try.func86 kr rfl #[nI (rd η ζ),nI 1,nI 60] rfl qM ?_;(with_reducible refine(door_within.calls (rd η ζ) 1 60 true _ ci.out).mono ?_);rintro e w' ⟨rfl,⟨nd,rfl⟩⟩;refine⟨_,rfl, ?_⟩))
       go_roundg k1
       case measure=>have:=af.out;omega
       case rel=>exact⟨(wrap64 (ζ + 1)),qR,H',⟨by have:=af.out;omega⟩,⟨by(with_reducible repeat first|apply Kd.Qs|apply Kd.Qr|apply Kd.Qu);exact ν.out⟩,⟨bka X⟩,⟨bel⟩⟩
      ·replace a5:=Bool.eq_false_iff.mpr a5
       subst a5
       rw[if_neg nft] at H
       obtain rfl:=qJ H
       have ρ:0≤(ζ :Int):=of_decide_eq_true (by assumption)
       have σ: ζ < (η.length:Int):=of_decide_eq_true (by assumption)
       obtain⟨ω,a9,ξ⟩:=Kd.Jb (Kd.Qt ν.out).2.2 ζ ρ σ
       cases a9
       replace ρ:=eq_true ρ
       replace σ:=eq_true σ
       go_wp2_with (first|((with_reducible refine Qf (f:=86) rfl ?_);refine Q0 (some 24) rfl rfl Try.func86 kr rfl #[nI (rd η ζ),nI 1,nI 60] rfl qM ?_;(with_reducible refine(door_within.calls (rd η ζ) 1 60 false _ ci.out).mono ?_);rintro e w' ⟨rfl,⟨nd,rfl⟩⟩;refine⟨_,rfl, ?_⟩))
       go_ret
       exact⟨by first|rfl|(simp[Ql,Qk] <;> rfl)|(simp[*,Ql,Qk] <;> rfl),bel⟩
     ·rw[if_neg c9] at H
      exact absurd H (by simp)
    ·rw[if_neg c8] at H
     exact absurd H (by simp)
   ·rw[if_neg c7] at H
    have c7b0:=decide_eq_false c7
    clear c7
    obtain⟨ι,b8,H⟩:=qQ H
    obtain rfl:=qJ H
    obtain⟨ao,bc,bk,du,ed,eh,ew,ap,be,bm,ey,ez,f7,f8⟩:=qD7 X.out
    go_wp2_with (first|((with_reducible refine Qf (f:=86) rfl ?_);refine Q0 (some 29) rfl rfl Try.func86 kr rfl #[nI δ,nI 0,nI 60] rfl qM ?_;(with_reducible refine(door_within.calls δ 0 60 ι _ b8.out).mono ?_);rintro e w' ⟨rfl,⟨nd,rfl⟩⟩;refine⟨_,rfl, ?_⟩))
    go_ret
    exact⟨by first|rfl|(simp[Ql,Qk] <;> rfl)|(simp[*,Ql,Qk] <;> rfl),bel⟩
def door_gear.f (k:Nat) (B:Int) (J:Int) (O:Int) (Y:Int) (Z:Int) (γ:Int) (δ :Int) (ε :Int) (θ :Int) (η :Int):Option (Bool):=(door_times.f k J O Y Z γ δ ε).bind fun ζ =>(if ζ = true then ((door_within.f B 2 64).bind fun ι =>(if ι = true then ((door_within.f θ 1 300).bind fun κ =>(if κ = true then ((door_within.f η 0 60).bind fun μ =>(some μ)) else (some false))) else (some false))) else (some false))
theorem door_gear.mono:∀ B Z a2 a3 O a5 X a7 a8 a9 k,LeO (door_gear.f k B Z a2 a3 O a5 X a7 a8 a9) (door_gear.f (k+1) B Z a2 a3 O a5 X a7 a8 a9):=by
 intro B Z a2 a3 O a5 X a7 a8 a9 k
 unfold door_gear.f
 repeat' first|(with_reducible first|apply door_times.mono|exact LeO.refl _|exact LeO.none _|refine LeO.ite ?_ ?_|refine LeO.bind ?_ (fun _=>?_))|apply door_times.mono|exact LeO.none _|refine LeO.ite ?_ ?_|refine LeO.bind ?_ (fun _=>?_)
theorem door_gear.calls (k:Nat) (B:Int) (J:Int) (O:Int) (Y:Int) (Z:Int) (γ:Int) (δ :Int) (ε :Int) (θ :Int) (η :Int) (r:Bool) (w:World) (h:door_gear.f k B J O Y Z γ δ ε θ η = some r):
 Calls Try.prog 72 #[.agg #[nI B,nI J,nI O,nI Y,nI Z,nI γ,nI δ,nI ε,nI θ,nI η]] w fun e w'=>e = .returned (.bool r)∧Below w.heap.size w w':=by
 have cj:=Try.underlying25
 have jb:=Try.underlying23
 have HB:=aK (Below.refl w.heap.size w)
 have H:((door_times.f k J O Y Z γ δ ε).bind fun ζ =>(if ζ = true then ((door_within.f B 2 64).bind fun ι =>(if ι = true then ((door_within.f θ 1 300).bind fun κ =>(if κ = true then ((door_within.f η 0 60).bind fun μ =>(some μ)) else (some false))) else (some false))) else (some false)))=some r:=h
 clear h
 obtain⟨ζ,A2,H⟩:=qQ H
 by_cases c3: ζ = true
 ·subst c3
  rw[if_pos rfl] at H
  obtain⟨ι,A4,H⟩:=qQ H
  by_cases c5: ι = true
  ·subst c5
   rw[if_pos rfl] at H
   obtain⟨κ,A6,H⟩:=qQ H
   by_cases c7: κ = true
   ·subst c7
    rw[if_pos rfl] at H
    obtain⟨μ,A8,H⟩:=qQ H
    obtain rfl:=qJ H
    go_enter Try.func72,Try.ntmps72
    go_wp2_with (first|((with_reducible refine Qe (N:=1) rfl ?_);refine qE 1 #[nI B,nI J,nI O,nI Y,nI Z,nI γ,nI δ,nI ε,nI θ,nI η] 25 ?_;intro ν hg w9 hbox hb;have X:=aK hbox;have ξ :=sGe hg;have ρ:=sGe hg;replace HB:=sHb hb;clear hb hbox hg;obtain⟨bg,bh,du,gk,gm,gn,gp,hj,ho,hu,bk,bm,dv,gq,gr,gs,gt,hx,hy,i0⟩:=Zi X.out)|((with_reducible refine Qf (f:=70) rfl ?_);refine Q0 (some 5) rfl rfl Try.func70 kr rfl #[.agg #[nI J,nI O,nI Y,nI Z,nI γ,nI δ,nI ε]] rfl qM ?_;(with_reducible refine(door_times.calls k J O Y Z γ δ ε true _ A2.out).mono ?_);rintro e d1 ⟨rfl,hb⟩;refine⟨_,rfl, ?_⟩;replace X:=sBk X hb;replace HB:=sHb hb;(try clear hb);(try clear a4);(try clear hk);(try clear hi);obtain⟨a1,a3,ae,ap,b5,be,fc,a0,a5,ab,af,ar,ah,fe,ff,fg,fh,ao,b8,dn⟩:=Zi X.out)|(go_at_call 86;(with_reducible refine(door_within.calls B 2 64 true _ A4.out).mono ?_);rintro e w' ⟨rfl,⟨nd,rfl⟩⟩)|(go_at_call 86;(with_reducible refine(door_within.calls θ 1 300 true _ A6.out).mono ?_);rintro e w' ⟨rfl,⟨nd,rfl⟩⟩)|(go_at_call 86;(with_reducible refine(door_within.calls η 0 60 μ _ A8.out).mono ?_);rintro e w' ⟨rfl,⟨nd,rfl⟩⟩))
    go_ret
    exact⟨by first|rfl|(simp[Ql,Qk] <;> rfl)|(simp[*,Ql,Qk] <;> rfl),bel⟩
   ·replace c7:=Bool.eq_false_iff.mpr c7
    subst c7
    rw[if_neg nft] at H
    obtain rfl:=qJ H
    go_enter Try.func72,Try.ntmps72
    go_wp2_with (first|((with_reducible refine Qe (N:=1) rfl ?_);refine qE 1 #[nI B,nI J,nI O,nI Y,nI Z,nI γ,nI δ,nI ε,nI θ,nI η] 25 ?_;intro ν hg eh hbox hb;have X:=aK hbox;have ξ :=sGe hg;have ρ:=sGe hg;replace HB:=sHb hb;clear hb hbox hg;obtain⟨cb,cd,db,ei,ej,ek,el,gu,i1,i2,ce,cf,dc,em,en,eo,ep,gv,i3,i4⟩:=Zi X.out)|((with_reducible refine Qf (f:=70) rfl ?_);refine Q0 (some 5) rfl rfl Try.func70 kr rfl #[.agg #[nI J,nI O,nI Y,nI Z,nI γ,nI δ,nI ε]] rfl qM ?_;(with_reducible refine(door_times.calls k J O Y Z γ δ ε true _ A2.out).mono ?_);rintro e fb ⟨rfl,hb⟩;refine⟨_,rfl, ?_⟩;replace X:=sBk X hb;replace HB:=sHb hb;(try clear hb);(try clear a4);(try clear hk);(try clear hi);obtain⟨d3,d4,ω,bp,bu,bw,ee,fi,i5,i6,d5,d6,b9,ef,eg,er,et,fj,i7,i9⟩:=Zi X.out)|(go_at_call 86;(with_reducible refine(door_within.calls B 2 64 true _ A4.out).mono ?_);rintro e w' ⟨rfl,⟨nd,rfl⟩⟩)|(go_at_call 86;(with_reducible refine(door_within.calls θ 1 300 false _ A6.out).mono ?_);rintro e w' ⟨rfl,⟨nd,rfl⟩⟩))
    go_ret
    exact⟨by first|rfl|(simp[Ql,Qk] <;> rfl)|(simp[*,Ql,Qk] <;> rfl),bel⟩
  ·replace c5:=Bool.eq_false_iff.mpr c5
   subst c5
   rw[if_neg nft] at H
   obtain rfl:=qJ H
   go_enter Try.func72,Try.ntmps72
   go_wp2_with (first|((with_reducible refine Qe (N:=1) rfl ?_);refine qE 1 #[nI B,nI J,nI O,nI Y,nI Z,nI γ,nI δ,nI ε,nI θ,nI η] 25 ?_;intro ν hg cv hbox hb;have X:=aK hbox;have ξ :=sGe hg;have ρ:=sGe hg;replace HB:=sHb hb;clear hb hbox hg;obtain⟨bl,bz,eu,ak,bn,bq,br,σ,φ,χ,ca,ch,ev,ci,cp,cr,ct,ψ,a2,a8⟩:=Zi X.out)|((with_reducible refine Qf (f:=70) rfl ?_);refine Q0 (some 5) rfl rfl Try.func70 kr rfl #[.agg #[nI J,nI O,nI Y,nI Z,nI γ,nI δ,nI ε]] rfl qM ?_;(with_reducible refine(door_times.calls k J O Y Z γ δ ε true _ A2.out).mono ?_);rintro e b6 ⟨rfl,hb⟩;refine⟨_,rfl, ?_⟩;replace X:=sBk X hb;replace HB:=sHb hb;(try clear hb);(try clear a4);(try clear hk);(try clear hi);obtain⟨a7,a9,τ,ac,al,b7,cg,ia,ib,ic,aa,an,a6,dw,dx,dy,dz,ie,ig,ih⟩:=Zi X.out)|(go_at_call 86;(with_reducible refine(door_within.calls B 2 64 false _ A4.out).mono ?_);rintro e w' ⟨rfl,⟨nd,rfl⟩⟩))
   go_ret
   exact⟨by first|rfl|(simp[Ql,Qk] <;> rfl)|(simp[*,Ql,Qk] <;> rfl),bel⟩
 ·replace c3:=Bool.eq_false_iff.mpr c3
  subst c3
  rw[if_neg nft] at H
  obtain rfl:=qJ H
  go_enter Try.func72,Try.ntmps72
  go_wp2_with (first|((with_reducible refine Qe (N:=1) rfl ?_);refine qE 1 #[nI B,nI J,nI O,nI Y,nI Z,nI γ,nI δ,nI ε,nI θ,nI η] 25 ?_;intro ν hg bo hbox hb;have X:=aK hbox;have ξ :=sGe hg;have ρ:=sGe hg;replace HB:=sHb hb;clear hb hbox hg;obtain⟨az,b0,d0,gw,gx,gy,gz,jc,jd,je,b1,b2,da,h0,h4,h5,h6,jf,jg,jh⟩:=Zi X.out)|((with_reducible refine Qf (f:=70) rfl ?_);refine Q0 (some 5) rfl rfl Try.func70 kr rfl #[.agg #[nI J,nI O,nI Y,nI Z,nI γ,nI δ,nI ε]] rfl qM ?_;(with_reducible refine(door_times.calls k J O Y Z γ δ ε false _ A2.out).mono ?_);rintro e bi ⟨rfl,hb⟩;refine⟨_,rfl, ?_⟩;replace X:=sBk X hb;replace HB:=sHb hb;(try clear hb);(try clear a4);(try clear hk);(try clear hi)))
  go_ret
  exact⟨rfl,HB.out⟩
def door_on.f (B:Int) (J:Int) (O:Int) (Z:Int) (a2:Int):Option (Int×Int×Int):=if (wrap64 (J-1))=0 then (some (Z,a2,O)) else (some (B,wrap64 (J-1),O))
def newelref17_tick.f (B:Int):Option (Bool):=if B≥1 then (some (decide (B≤60))) else (some false)
theorem newelref17_tick.calls (B:Int) (r:Bool) (w:World) (h:newelref17_tick.f B=some r):
 Calls Try.prog 93 #[nI B] w fun e w'=>e = .returned (.bool r)∧Drawn0 w w':=by
 have H:(if B≥1 then (some (decide (B≤60))) else (some false))=some r:=h
 clear h
 by_cases c2:B≥1
 ·rw[if_pos c2] at H
  have c2b0:decide (1≤B)=true:=decide_eq_true c2
  clear c2
  obtain rfl:=qJ H
  go_enter Try.func93,Try.ntmps93
  go_wp2
  go_ret
  exact⟨qR,by repeat(first|exact Drawn0.refl _|apply Drawn0.step)⟩
 ·rw[if_neg c2] at H
  have c2b0:decide (1≤B)=false:=decide_eq_false c2
  clear c2
  obtain rfl:=qJ H
  go_enter Try.func93,Try.ntmps93
  go_wp2
  go_ret
  exact⟨qR,by repeat(first|exact Drawn0.refl _|apply Drawn0.step)⟩
def newelref17_Times.f (B:Int) (J:Int) (O:Int) (Y:Int) (Z:Int) (γ:Int) (δ :Int):Option (Bool):=(newelref17_tick.f B).bind fun ξ =>((newelref17_tick.f J).bind fun ν =>((newelref17_tick.f O).bind fun μ =>((newelref17_tick.f Y).bind fun κ =>((newelref17_tick.f Z).bind fun ζ =>((newelref17_tick.f γ).bind fun ε =>(if ξ = true then (if ν = true then (if μ = true then (if κ = true then (if ζ = true then (if ε = true then (if δ ≥ 0 then (some (decide (δ ≤ 60))) else (some false)) else (some false)) else (some false)) else (some false)) else (some false)) else (some false)) else (some false)))))))
theorem newelref17_Times.calls (B:Int) (J:Int) (O:Int) (Y:Int) (Z:Int) (γ:Int) (δ :Int) (r:Bool) (w:World) (h:newelref17_Times.f B J O Y Z γ δ = some r):
 Calls Try.prog 77 #[.agg #[nI B,nI J,nI O,nI Y,nI Z,nI γ,nI δ]] w fun e w'=>e = .returned (.bool r)∧Below w.heap.size w w':=by
 have jb:=Try.underlying23
 have HB:=aK (Below.refl w.heap.size w)
 have H:((newelref17_tick.f B).bind fun ξ =>((newelref17_tick.f J).bind fun ν =>((newelref17_tick.f O).bind fun μ =>((newelref17_tick.f Y).bind fun κ =>((newelref17_tick.f Z).bind fun ζ =>((newelref17_tick.f γ).bind fun ε =>(if ξ = true then (if ν = true then (if μ = true then (if κ = true then (if ζ = true then (if ε = true then (if δ ≥ 0 then (some (decide (δ ≤ 60))) else (some false)) else (some false)) else (some false)) else (some false)) else (some false)) else (some false)) else (some false))))))))=some r:=h
 clear h
 obtain⟨ξ,A2,H⟩:=qQ H
 obtain⟨ν,A3,H⟩:=qQ H
 obtain⟨μ,A4,H⟩:=qQ H
 obtain⟨κ,A5,H⟩:=qQ H
 obtain⟨ζ,A6,H⟩:=qQ H
 obtain⟨ε,A7,H⟩:=qQ H
 by_cases c8: ξ = true
 ·subst c8
  rw[if_pos rfl] at H
  by_cases c9: ν = true
  ·subst c9
   rw[if_pos rfl] at H
   by_cases c10: μ = true
   ·subst c10
    rw[if_pos rfl] at H
    by_cases a5: κ = true
    ·subst a5
     rw[if_pos rfl] at H
     by_cases a3: ζ = true
     ·subst a3
      rw[if_pos rfl] at H
      by_cases a2: ε = true
      ·subst a2
       rw[if_pos rfl] at H
       by_cases σ: δ ≥ 0
       ·rw[if_pos σ] at H
        have c14b0:decide (0 ≤ δ)=true:=decide_eq_true σ
        clear σ
        obtain rfl:=qJ H
        go_enter Try.func77,Try.ntmps77
        go_wp2_with (first|((with_reducible refine Qe (N:=1) rfl ?_);refine qE 1 #[nI B,nI J,nI O,nI Y,nI Z,nI γ,nI δ] 23 ?_;intro η hg fb hbox hb;have X:=aK hbox;have θ :=sGe hg;have ι :=sGe hg;replace HB:=sHb hb;clear hb hbox hg;obtain⟨d3,d4,ω,bp,bu,bw,ee,d5,d6,b9,ef,eg,er,et⟩:=qD7 X.out)|((with_reducible refine Qf (f:=93) rfl ?_);refine Q0 (some 11) rfl rfl Try.func93 kr rfl #[nI B] rfl qM ?_;(with_reducible refine(newelref17_tick.calls B true _ A2.out).mono ?_);rintro e w' ⟨rfl,⟨nd,rfl⟩⟩;refine⟨_,rfl, ?_⟩)|((with_reducible refine Qf (f:=93) rfl ?_);refine Q0 (some 14) rfl rfl Try.func93 kr rfl #[nI J] rfl qM ?_;(with_reducible refine(newelref17_tick.calls J true _ A3.out).mono ?_);rintro e w' ⟨rfl,⟨nd,rfl⟩⟩;refine⟨_,rfl, ?_⟩)|((with_reducible refine Qf (f:=93) rfl ?_);refine Q0 (some 17) rfl rfl Try.func93 kr rfl #[nI O] rfl qM ?_;(with_reducible refine(newelref17_tick.calls O true _ A4.out).mono ?_);rintro e w' ⟨rfl,⟨nd,rfl⟩⟩;refine⟨_,rfl, ?_⟩)|((with_reducible refine Qf (f:=93) rfl ?_);refine Q0 (some 20) rfl rfl Try.func93 kr rfl #[nI Y] rfl qM ?_;(with_reducible refine(newelref17_tick.calls Y true _ A5.out).mono ?_);rintro e w' ⟨rfl,⟨nd,rfl⟩⟩;refine⟨_,rfl, ?_⟩)|((with_reducible refine Qf (f:=93) rfl ?_);refine Q0 (some 23) rfl rfl Try.func93 kr rfl #[nI Z] rfl qM ?_;(with_reducible refine(newelref17_tick.calls Z true _ A6.out).mono ?_);rintro e w' ⟨rfl,⟨nd,rfl⟩⟩;refine⟨_,rfl, ?_⟩)|((with_reducible refine Qf (f:=93) rfl ?_);refine Q0 (some 26) rfl rfl Try.func93 kr rfl #[nI γ] rfl qM ?_;(with_reducible refine(newelref17_tick.calls γ true _ A7.out).mono ?_);rintro e w' ⟨rfl,⟨nd,rfl⟩⟩;refine⟨_,rfl, ?_⟩))
        go_ret
        exact⟨by first|rfl|(simp[Ql,Qk] <;> rfl)|(simp[*,Ql,Qk] <;> rfl),bel⟩
       ·rw[if_neg σ] at H
        have c14b0:decide (0 ≤ δ)=false:=decide_eq_false σ
        clear σ
        obtain rfl:=qJ H
        go_enter Try.func77,Try.ntmps77
        go_wp2_with (first|((with_reducible refine Qe (N:=1) rfl ?_);refine qE 1 #[nI B,nI J,nI O,nI Y,nI Z,nI γ,nI δ] 23 ?_;intro η hg cv hbox hb;have X:=aK hbox;have θ :=sGe hg;have ι :=sGe hg;replace HB:=sHb hb;clear hb hbox hg;obtain⟨bl,bz,eu,ak,bn,bq,br,ca,ch,ev,ci,cp,cr,ct⟩:=qD7 X.out)|((with_reducible refine Qf (f:=93) rfl ?_);refine Q0 (some 11) rfl rfl Try.func93 kr rfl #[nI B] rfl qM ?_;(with_reducible refine(newelref17_tick.calls B true _ A2.out).mono ?_);rintro e w' ⟨rfl,⟨nd,rfl⟩⟩;refine⟨_,rfl, ?_⟩)|((with_reducible refine Qf (f:=93) rfl ?_);refine Q0 (some 14) rfl rfl Try.func93 kr rfl #[nI J] rfl qM ?_;(with_reducible refine(newelref17_tick.calls J true _ A3.out).mono ?_);rintro e w' ⟨rfl,⟨nd,rfl⟩⟩;refine⟨_,rfl, ?_⟩)|((with_reducible refine Qf (f:=93) rfl ?_);refine Q0 (some 17) rfl rfl Try.func93 kr rfl #[nI O] rfl qM ?_;(with_reducible refine(newelref17_tick.calls O true _ A4.out).mono ?_);rintro e w' ⟨rfl,⟨nd,rfl⟩⟩;refine⟨_,rfl, ?_⟩)|((with_reducible refine Qf (f:=93) rfl ?_);refine Q0 (some 20) rfl rfl Try.func93 kr rfl #[nI Y] rfl qM ?_;(with_reducible refine(newelref17_tick.calls Y true _ A5.out).mono ?_);rintro e w' ⟨rfl,⟨nd,rfl⟩⟩;refine⟨_,rfl, ?_⟩)|((with_reducible refine Qf (f:=93) rfl ?_);refine Q0 (some 23) rfl rfl Try.func93 kr rfl #[nI Z] rfl qM ?_;(with_reducible refine(newelref17_tick.calls Z true _ A6.out).mono ?_);rintro e w' ⟨rfl,⟨nd,rfl⟩⟩;refine⟨_,rfl, ?_⟩)|((with_reducible refine Qf (f:=93) rfl ?_);refine Q0 (some 26) rfl rfl Try.func93 kr rfl #[nI γ] rfl qM ?_;(with_reducible refine(newelref17_tick.calls γ true _ A7.out).mono ?_);rintro e w' ⟨rfl,⟨nd,rfl⟩⟩;refine⟨_,rfl, ?_⟩))
        go_ret
        exact⟨by first|rfl|(simp[Ql,Qk] <;> rfl)|(simp[*,Ql,Qk] <;> rfl),bel⟩
      ·replace a2:=Bool.eq_false_iff.mpr a2
       subst a2
       rw[if_neg nft] at H
       obtain rfl:=qJ H
       go_enter Try.func77,Try.ntmps77
       go_wp2_with (first|((with_reducible refine Qe (N:=1) rfl ?_);refine qE 1 #[nI B,nI J,nI O,nI Y,nI Z,nI γ,nI δ] 23 ?_;intro η hg b6 hbox hb;have X:=aK hbox;have θ :=sGe hg;have ι :=sGe hg;replace HB:=sHb hb;clear hb hbox hg;obtain⟨a7,a9,τ,ac,al,b7,cg,aa,an,a6,dw,dx,dy,dz⟩:=qD7 X.out)|((with_reducible refine Qf (f:=93) rfl ?_);refine Q0 (some 11) rfl rfl Try.func93 kr rfl #[nI B] rfl qM ?_;(with_reducible refine(newelref17_tick.calls B true _ A2.out).mono ?_);rintro e w' ⟨rfl,⟨nd,rfl⟩⟩;refine⟨_,rfl, ?_⟩)|((with_reducible refine Qf (f:=93) rfl ?_);refine Q0 (some 14) rfl rfl Try.func93 kr rfl #[nI J] rfl qM ?_;(with_reducible refine(newelref17_tick.calls J true _ A3.out).mono ?_);rintro e w' ⟨rfl,⟨nd,rfl⟩⟩;refine⟨_,rfl, ?_⟩)|((with_reducible refine Qf (f:=93) rfl ?_);refine Q0 (some 17) rfl rfl Try.func93 kr rfl #[nI O] rfl qM ?_;(with_reducible refine(newelref17_tick.calls O true _ A4.out).mono ?_);rintro e w' ⟨rfl,⟨nd,rfl⟩⟩;refine⟨_,rfl, ?_⟩)|((with_reducible refine Qf (f:=93) rfl ?_);refine Q0 (some 20) rfl rfl Try.func93 kr rfl #[nI Y] rfl qM ?_;(with_reducible refine(newelref17_tick.calls Y true _ A5.out).mono ?_);rintro e w' ⟨rfl,⟨nd,rfl⟩⟩;refine⟨_,rfl, ?_⟩)|((with_reducible refine Qf (f:=93) rfl ?_);refine Q0 (some 23) rfl rfl Try.func93 kr rfl #[nI Z] rfl qM ?_;(with_reducible refine(newelref17_tick.calls Z true _ A6.out).mono ?_);rintro e w' ⟨rfl,⟨nd,rfl⟩⟩;refine⟨_,rfl, ?_⟩)|((with_reducible refine Qf (f:=93) rfl ?_);refine Q0 (some 26) rfl rfl Try.func93 kr rfl #[nI γ] rfl qM ?_;(with_reducible refine(newelref17_tick.calls γ false _ A7.out).mono ?_);rintro e w' ⟨rfl,⟨nd,rfl⟩⟩;refine⟨_,rfl, ?_⟩))
       go_ret
       exact⟨by first|rfl|(simp[Ql,Qk] <;> rfl)|(simp[*,Ql,Qk] <;> rfl),bel⟩
     ·replace a3:=Bool.eq_false_iff.mpr a3
      subst a3
      rw[if_neg nft] at H
      obtain rfl:=qJ H
      go_enter Try.func77,Try.ntmps77
      go_wp2_with (first|((with_reducible refine Qe (N:=1) rfl ?_);refine qE 1 #[nI B,nI J,nI O,nI Y,nI Z,nI γ,nI δ] 23 ?_;intro η hg bo hbox hb;have X:=aK hbox;have θ :=sGe hg;have ι :=sGe hg;replace HB:=sHb hb;clear hb hbox hg;obtain⟨az,b0,d0,gw,gx,gy,gz,b1,b2,da,h0,h4,h5,h6⟩:=qD7 X.out)|((with_reducible refine Qf (f:=93) rfl ?_);refine Q0 (some 11) rfl rfl Try.func93 kr rfl #[nI B] rfl qM ?_;(with_reducible refine(newelref17_tick.calls B true _ A2.out).mono ?_);rintro e w' ⟨rfl,⟨nd,rfl⟩⟩;refine⟨_,rfl, ?_⟩)|((with_reducible refine Qf (f:=93) rfl ?_);refine Q0 (some 14) rfl rfl Try.func93 kr rfl #[nI J] rfl qM ?_;(with_reducible refine(newelref17_tick.calls J true _ A3.out).mono ?_);rintro e w' ⟨rfl,⟨nd,rfl⟩⟩;refine⟨_,rfl, ?_⟩)|((with_reducible refine Qf (f:=93) rfl ?_);refine Q0 (some 17) rfl rfl Try.func93 kr rfl #[nI O] rfl qM ?_;(with_reducible refine(newelref17_tick.calls O true _ A4.out).mono ?_);rintro e w' ⟨rfl,⟨nd,rfl⟩⟩;refine⟨_,rfl, ?_⟩)|((with_reducible refine Qf (f:=93) rfl ?_);refine Q0 (some 20) rfl rfl Try.func93 kr rfl #[nI Y] rfl qM ?_;(with_reducible refine(newelref17_tick.calls Y true _ A5.out).mono ?_);rintro e w' ⟨rfl,⟨nd,rfl⟩⟩;refine⟨_,rfl, ?_⟩)|((with_reducible refine Qf (f:=93) rfl ?_);refine Q0 (some 23) rfl rfl Try.func93 kr rfl #[nI Z] rfl qM ?_;(with_reducible refine(newelref17_tick.calls Z false _ A6.out).mono ?_);rintro e w' ⟨rfl,⟨nd,rfl⟩⟩;refine⟨_,rfl, ?_⟩)|((with_reducible refine Qf (f:=93) rfl ?_);refine Q0 (some 26) rfl rfl Try.func93 kr rfl #[nI γ] rfl qM ?_;(with_reducible refine(newelref17_tick.calls γ ε _ A7.out).mono ?_);rintro e w' ⟨rfl,⟨nd,rfl⟩⟩;refine⟨_,rfl, ?_⟩))
      go_ret
      exact⟨by first|rfl|(simp[Ql,Qk] <;> rfl)|(simp[*,Ql,Qk] <;> rfl),bel⟩
    ·replace a5:=Bool.eq_false_iff.mpr a5
     subst a5
     rw[if_neg nft] at H
     obtain rfl:=qJ H
     go_enter Try.func77,Try.ntmps77
     go_wp2_with (first|((with_reducible refine Qe (N:=1) rfl ?_);refine qE 1 #[nI B,nI J,nI O,nI Y,nI Z,nI γ,nI δ] 23 ?_;intro η hg bi hbox hb;have X:=aK hbox;have θ :=sGe hg;have ι :=sGe hg;replace HB:=sHb hb;clear hb hbox hg;obtain⟨au,av,bs,e0,e3,e4,e5,aw,ax,bv,e6,e7,e8,e9⟩:=qD7 X.out)|((with_reducible refine Qf (f:=93) rfl ?_);refine Q0 (some 11) rfl rfl Try.func93 kr rfl #[nI B] rfl qM ?_;(with_reducible refine(newelref17_tick.calls B true _ A2.out).mono ?_);rintro e w' ⟨rfl,⟨nd,rfl⟩⟩;refine⟨_,rfl, ?_⟩)|((with_reducible refine Qf (f:=93) rfl ?_);refine Q0 (some 14) rfl rfl Try.func93 kr rfl #[nI J] rfl qM ?_;(with_reducible refine(newelref17_tick.calls J true _ A3.out).mono ?_);rintro e w' ⟨rfl,⟨nd,rfl⟩⟩;refine⟨_,rfl, ?_⟩)|((with_reducible refine Qf (f:=93) rfl ?_);refine Q0 (some 17) rfl rfl Try.func93 kr rfl #[nI O] rfl qM ?_;(with_reducible refine(newelref17_tick.calls O true _ A4.out).mono ?_);rintro e w' ⟨rfl,⟨nd,rfl⟩⟩;refine⟨_,rfl, ?_⟩)|((with_reducible refine Qf (f:=93) rfl ?_);refine Q0 (some 20) rfl rfl Try.func93 kr rfl #[nI Y] rfl qM ?_;(with_reducible refine(newelref17_tick.calls Y false _ A5.out).mono ?_);rintro e w' ⟨rfl,⟨nd,rfl⟩⟩;refine⟨_,rfl, ?_⟩)|((with_reducible refine Qf (f:=93) rfl ?_);refine Q0 (some 23) rfl rfl Try.func93 kr rfl #[nI Z] rfl qM ?_;(with_reducible refine(newelref17_tick.calls Z ζ _ A6.out).mono ?_);rintro e w' ⟨rfl,⟨nd,rfl⟩⟩;refine⟨_,rfl, ?_⟩)|((with_reducible refine Qf (f:=93) rfl ?_);refine Q0 (some 26) rfl rfl Try.func93 kr rfl #[nI γ] rfl qM ?_;(with_reducible refine(newelref17_tick.calls γ ε _ A7.out).mono ?_);rintro e w' ⟨rfl,⟨nd,rfl⟩⟩;refine⟨_,rfl, ?_⟩))
     go_ret
     exact⟨by first|rfl|(simp[Ql,Qk] <;> rfl)|(simp[*,Ql,Qk] <;> rfl),bel⟩
   ·replace c10:=Bool.eq_false_iff.mpr c10
    subst c10
    rw[if_neg nft] at H
    obtain rfl:=qJ H
    go_enter Try.func77,Try.ntmps77
    go_wp2_with (first|((with_reducible refine Qe (N:=1) rfl ?_);refine qE 1 #[nI B,nI J,nI O,nI Y,nI Z,nI γ,nI δ] 23 ?_;intro η hg dt hbox hb;have X:=aK hbox;have θ :=sGe hg;have ι :=sGe hg;replace HB:=sHb hb;clear hb hbox hg;obtain⟨ay,cu,df,bj,cy,cz,dh,cw,cx,dj,di,ii,ij,ik⟩:=qD7 X.out)|((with_reducible refine Qf (f:=93) rfl ?_);refine Q0 (some 11) rfl rfl Try.func93 kr rfl #[nI B] rfl qM ?_;(with_reducible refine(newelref17_tick.calls B true _ A2.out).mono ?_);rintro e w' ⟨rfl,⟨nd,rfl⟩⟩;refine⟨_,rfl, ?_⟩)|((with_reducible refine Qf (f:=93) rfl ?_);refine Q0 (some 14) rfl rfl Try.func93 kr rfl #[nI J] rfl qM ?_;(with_reducible refine(newelref17_tick.calls J true _ A3.out).mono ?_);rintro e w' ⟨rfl,⟨nd,rfl⟩⟩;refine⟨_,rfl, ?_⟩)|((with_reducible refine Qf (f:=93) rfl ?_);refine Q0 (some 17) rfl rfl Try.func93 kr rfl #[nI O] rfl qM ?_;(with_reducible refine(newelref17_tick.calls O false _ A4.out).mono ?_);rintro e w' ⟨rfl,⟨nd,rfl⟩⟩;refine⟨_,rfl, ?_⟩)|((with_reducible refine Qf (f:=93) rfl ?_);refine Q0 (some 20) rfl rfl Try.func93 kr rfl #[nI Y] rfl qM ?_;(with_reducible refine(newelref17_tick.calls Y κ _ A5.out).mono ?_);rintro e w' ⟨rfl,⟨nd,rfl⟩⟩;refine⟨_,rfl, ?_⟩)|((with_reducible refine Qf (f:=93) rfl ?_);refine Q0 (some 23) rfl rfl Try.func93 kr rfl #[nI Z] rfl qM ?_;(with_reducible refine(newelref17_tick.calls Z ζ _ A6.out).mono ?_);rintro e w' ⟨rfl,⟨nd,rfl⟩⟩;refine⟨_,rfl, ?_⟩)|((with_reducible refine Qf (f:=93) rfl ?_);refine Q0 (some 26) rfl rfl Try.func93 kr rfl #[nI γ] rfl qM ?_;(with_reducible refine(newelref17_tick.calls γ ε _ A7.out).mono ?_);rintro e w' ⟨rfl,⟨nd,rfl⟩⟩;refine⟨_,rfl, ?_⟩))
    go_ret
    exact⟨by first|rfl|(simp[Ql,Qk] <;> rfl)|(simp[*,Ql,Qk] <;> rfl),bel⟩
  ·replace c9:=Bool.eq_false_iff.mpr c9
   subst c9
   rw[if_neg nft] at H
   obtain rfl:=qJ H
   go_enter Try.func77,Try.ntmps77
   go_wp2_with (first|((with_reducible refine Qe (N:=1) rfl ?_);refine qE 1 #[nI B,nI J,nI O,nI Y,nI Z,nI γ,nI δ] 23 ?_;intro η hg dk hbox hb;have X:=aK hbox;have θ :=sGe hg;have ι :=sGe hg;replace HB:=sHb hb;clear hb hbox hg;obtain⟨ew,fk,fl,hl,jo,jp,jq,ey,fm,fn,jr,jw,jx,jy⟩:=qD7 X.out)|((with_reducible refine Qf (f:=93) rfl ?_);refine Q0 (some 11) rfl rfl Try.func93 kr rfl #[nI B] rfl qM ?_;(with_reducible refine(newelref17_tick.calls B true _ A2.out).mono ?_);rintro e w' ⟨rfl,⟨nd,rfl⟩⟩;refine⟨_,rfl, ?_⟩)|((with_reducible refine Qf (f:=93) rfl ?_);refine Q0 (some 14) rfl rfl Try.func93 kr rfl #[nI J] rfl qM ?_;(with_reducible refine(newelref17_tick.calls J false _ A3.out).mono ?_);rintro e w' ⟨rfl,⟨nd,rfl⟩⟩;refine⟨_,rfl, ?_⟩)|((with_reducible refine Qf (f:=93) rfl ?_);refine Q0 (some 17) rfl rfl Try.func93 kr rfl #[nI O] rfl qM ?_;(with_reducible refine(newelref17_tick.calls O μ _ A4.out).mono ?_);rintro e w' ⟨rfl,⟨nd,rfl⟩⟩;refine⟨_,rfl, ?_⟩)|((with_reducible refine Qf (f:=93) rfl ?_);refine Q0 (some 20) rfl rfl Try.func93 kr rfl #[nI Y] rfl qM ?_;(with_reducible refine(newelref17_tick.calls Y κ _ A5.out).mono ?_);rintro e w' ⟨rfl,⟨nd,rfl⟩⟩;refine⟨_,rfl, ?_⟩)|((with_reducible refine Qf (f:=93) rfl ?_);refine Q0 (some 23) rfl rfl Try.func93 kr rfl #[nI Z] rfl qM ?_;(with_reducible refine(newelref17_tick.calls Z ζ _ A6.out).mono ?_);rintro e w' ⟨rfl,⟨nd,rfl⟩⟩;refine⟨_,rfl, ?_⟩)|((with_reducible refine Qf (f:=93) rfl ?_);refine Q0 (some 26) rfl rfl Try.func93 kr rfl #[nI γ] rfl qM ?_;(with_reducible refine(newelref17_tick.calls γ ε _ A7.out).mono ?_);rintro e w' ⟨rfl,⟨nd,rfl⟩⟩;refine⟨_,rfl, ?_⟩))
   go_ret
   exact⟨by first|rfl|(simp[Ql,Qk] <;> rfl)|(simp[*,Ql,Qk] <;> rfl),bel⟩
 ·replace c8:=Bool.eq_false_iff.mpr c8
  subst c8
  rw[if_neg nft] at H
  obtain rfl:=qJ H
  go_enter Try.func77,Try.ntmps77
  go_wp2_with (first|((with_reducible refine Qe (N:=1) rfl ?_);refine qE 1 #[nI B,nI J,nI O,nI Y,nI Z,nI γ,nI δ] 23 ?_;intro η hg gi hbox hb;have X:=aK hbox;have θ :=sGe hg;have ι :=sGe hg;replace HB:=sHb hb;clear hb hbox hg;obtain⟨bd,ea,ez,bc,fo,fp,fq,eb,ec,f7,fr,ft,fu,fv⟩:=qD7 X.out)|((with_reducible refine Qf (f:=93) rfl ?_);refine Q0 (some 11) rfl rfl Try.func93 kr rfl #[nI B] rfl qM ?_;(with_reducible refine(newelref17_tick.calls B false _ A2.out).mono ?_);rintro e w' ⟨rfl,⟨nd,rfl⟩⟩;refine⟨_,rfl, ?_⟩)|((with_reducible refine Qf (f:=93) rfl ?_);refine Q0 (some 14) rfl rfl Try.func93 kr rfl #[nI J] rfl qM ?_;(with_reducible refine(newelref17_tick.calls J ν _ A3.out).mono ?_);rintro e w' ⟨rfl,⟨nd,rfl⟩⟩;refine⟨_,rfl, ?_⟩)|((with_reducible refine Qf (f:=93) rfl ?_);refine Q0 (some 17) rfl rfl Try.func93 kr rfl #[nI O] rfl qM ?_;(with_reducible refine(newelref17_tick.calls O μ _ A4.out).mono ?_);rintro e w' ⟨rfl,⟨nd,rfl⟩⟩;refine⟨_,rfl, ?_⟩)|((with_reducible refine Qf (f:=93) rfl ?_);refine Q0 (some 20) rfl rfl Try.func93 kr rfl #[nI Y] rfl qM ?_;(with_reducible refine(newelref17_tick.calls Y κ _ A5.out).mono ?_);rintro e w' ⟨rfl,⟨nd,rfl⟩⟩;refine⟨_,rfl, ?_⟩)|((with_reducible refine Qf (f:=93) rfl ?_);refine Q0 (some 23) rfl rfl Try.func93 kr rfl #[nI Z] rfl qM ?_;(with_reducible refine(newelref17_tick.calls Z ζ _ A6.out).mono ?_);rintro e w' ⟨rfl,⟨nd,rfl⟩⟩;refine⟨_,rfl, ?_⟩)|((with_reducible refine Qf (f:=93) rfl ?_);refine Q0 (some 26) rfl rfl Try.func93 kr rfl #[nI γ] rfl qM ?_;(with_reducible refine(newelref17_tick.calls γ ε _ A7.out).mono ?_);rintro e w' ⟨rfl,⟨nd,rfl⟩⟩;refine⟨_,rfl, ?_⟩))
  go_ret
  exact⟨by first|rfl|(simp[Ql,Qk] <;> rfl)|(simp[*,Ql,Qk] <;> rfl),bel⟩
def newelref17_Gear.f (B:Int) (J:Int) (O:Int) (Y:Int) (Z:Int) (γ:Int) (δ :Int) (ε :Int) (θ :Int) (η :Int):Option (Bool):=(newelref17_Times.f J O Y Z γ δ ε).bind fun μ =>(if μ = true then (if B≥2 then (if B≤64 then (if θ ≥ 1 then (if θ ≤ 300 then (if η ≥ 0 then (some (decide (η ≤ 60))) else (some false)) else (some false)) else (some false)) else (some false)) else (some false)) else (some false))
theorem newelref17_Gear.calls (B:Int) (J:Int) (O:Int) (Y:Int) (Z:Int) (γ:Int) (δ :Int) (ε :Int) (θ :Int) (η :Int) (r:Bool) (w:World) (h:newelref17_Gear.f B J O Y Z γ δ ε θ η = some r):
 Calls Try.prog 53 #[.agg #[nI B,nI J,nI O,nI Y,nI Z,nI γ,nI δ,nI ε,nI θ,nI η]] w fun e w'=>e = .returned (.bool r)∧Below w.heap.size w w':=by
 have cj:=Try.underlying25
 have jb:=Try.underlying23
 have HB:=aK (Below.refl w.heap.size w)
 have H:((newelref17_Times.f J O Y Z γ δ ε).bind fun μ =>(if μ = true then (if B≥2 then (if B≤64 then (if θ ≥ 1 then (if θ ≤ 300 then (if η ≥ 0 then (some (decide (η ≤ 60))) else (some false)) else (some false)) else (some false)) else (some false)) else (some false)) else (some false)))=some r:=h
 clear h
 obtain⟨μ,A2,H⟩:=qQ H
 by_cases c3: μ = true
 ·subst c3
  rw[if_pos rfl] at H
  by_cases c4:B≥2
  ·rw[if_pos c4] at H
   have c4b0:decide (2≤B)=true:=decide_eq_true c4
   clear c4
   by_cases c5:B≤64
   ·rw[if_pos c5] at H
    have c5b0:=decide_eq_true c5
    clear c5
    by_cases c6: θ ≥ 1
    ·rw[if_pos c6] at H
     have c6b0:decide (1 ≤ θ)=true:=decide_eq_true c6
     clear c6
     by_cases c7: θ ≤ 300
     ·rw[if_pos c7] at H
      have c7b0:=decide_eq_true c7
      clear c7
      by_cases c8: η ≥ 0
      ·rw[if_pos c8] at H
       have c8b0:decide (0 ≤ η)=true:=decide_eq_true c8
       clear c8
       obtain rfl:=qJ H
       go_enter Try.func53,Try.ntmps53
       go_wp2_with (first|((with_reducible refine Qe (N:=1) rfl ?_);refine qE 1 #[nI B,nI J,nI O,nI Y,nI Z,nI γ,nI δ,nI ε,nI θ,nI η] 25 ?_;intro ζ hg w9 hbox hb;have X:=aK hbox;have ι :=sGe hg;have κ :=sGe hg;replace HB:=sHb hb;clear hb hbox hg;obtain⟨bg,bh,du,gk,gm,gn,gp,hj,ho,hu,bk,bm,dv,gq,gr,gs,gt,hx,hy,i0⟩:=Zi X.out)|((with_reducible refine Qf (f:=77) rfl ?_);refine Q0 (some 6) rfl rfl Try.func77 kr rfl #[.agg #[nI J,nI O,nI Y,nI Z,nI γ,nI δ,nI ε]] rfl qM ?_;(with_reducible refine(newelref17_Times.calls J O Y Z γ δ ε true _ A2.out).mono ?_);rintro e d1 ⟨rfl,hb⟩;refine⟨_,rfl, ?_⟩;replace X:=sBk X hb;replace HB:=sHb hb;(try clear hb);(try clear a4);(try clear hk);(try clear hi);obtain⟨a1,a3,ae,ap,b5,be,fc,a0,a5,ab,af,ar,ah,fe,ff,fg,fh,ao,b8,dn⟩:=Zi X.out))
       go_ret
       exact⟨rfl,HB.out⟩
      ·rw[if_neg c8] at H
       have c8b0:decide (0 ≤ η)=false:=decide_eq_false c8
       clear c8
       obtain rfl:=qJ H
       go_enter Try.func53,Try.ntmps53
       go_wp2_with (first|((with_reducible refine Qe (N:=1) rfl ?_);refine qE 1 #[nI B,nI J,nI O,nI Y,nI Z,nI γ,nI δ,nI ε,nI θ,nI η] 25 ?_;intro ζ hg eh hbox hb;have X:=aK hbox;have ι :=sGe hg;have κ :=sGe hg;replace HB:=sHb hb;clear hb hbox hg;obtain⟨cb,cd,db,ei,ej,ek,el,gu,i1,i2,ce,cf,dc,em,en,eo,ep,gv,i3,i4⟩:=Zi X.out)|((with_reducible refine Qf (f:=77) rfl ?_);refine Q0 (some 6) rfl rfl Try.func77 kr rfl #[.agg #[nI J,nI O,nI Y,nI Z,nI γ,nI δ,nI ε]] rfl qM ?_;(with_reducible refine(newelref17_Times.calls J O Y Z γ δ ε true _ A2.out).mono ?_);rintro e fb ⟨rfl,hb⟩;refine⟨_,rfl, ?_⟩;replace X:=sBk X hb;replace HB:=sHb hb;(try clear hb);(try clear a4);(try clear hk);(try clear hi);obtain⟨d3,d4,ω,bp,bu,bw,ee,fi,i5,i6,d5,d6,b9,ef,eg,er,et,fj,i7,i9⟩:=Zi X.out))
       go_ret
       exact⟨rfl,HB.out⟩
     ·rw[if_neg c7] at H
      have c7b0:=decide_eq_false c7
      clear c7
      obtain rfl:=qJ H
      go_enter Try.func53,Try.ntmps53
      go_wp2_with (first|((with_reducible refine Qe (N:=1) rfl ?_);refine qE 1 #[nI B,nI J,nI O,nI Y,nI Z,nI γ,nI δ,nI ε,nI θ,nI η] 25 ?_;intro ζ hg cv hbox hb;have X:=aK hbox;have ι :=sGe hg;have κ :=sGe hg;replace HB:=sHb hb;clear hb hbox hg;obtain⟨bl,bz,eu,ak,bn,bq,br,σ,φ,χ,ca,ch,ev,ci,cp,cr,ct,ψ,a2,a8⟩:=Zi X.out)|((with_reducible refine Qf (f:=77) rfl ?_);refine Q0 (some 6) rfl rfl Try.func77 kr rfl #[.agg #[nI J,nI O,nI Y,nI Z,nI γ,nI δ,nI ε]] rfl qM ?_;(with_reducible refine(newelref17_Times.calls J O Y Z γ δ ε true _ A2.out).mono ?_);rintro e b6 ⟨rfl,hb⟩;refine⟨_,rfl, ?_⟩;replace X:=sBk X hb;replace HB:=sHb hb;(try clear hb);(try clear a4);(try clear hk);(try clear hi);obtain⟨a7,a9,τ,ac,al,b7,cg,ia,ib,ic,aa,an,a6,dw,dx,dy,dz,ie,ig,ih⟩:=Zi X.out))
      go_ret
      exact⟨rfl,HB.out⟩
    ·rw[if_neg c6] at H
     have c6b0:decide (1 ≤ θ)=false:=decide_eq_false c6
     clear c6
     obtain rfl:=qJ H
     go_enter Try.func53,Try.ntmps53
     go_wp2_with (first|((with_reducible refine Qe (N:=1) rfl ?_);refine qE 1 #[nI B,nI J,nI O,nI Y,nI Z,nI γ,nI δ,nI ε,nI θ,nI η] 25 ?_;intro ζ hg bo hbox hb;have X:=aK hbox;have ι :=sGe hg;have κ :=sGe hg;replace HB:=sHb hb;clear hb hbox hg;obtain⟨az,b0,d0,gw,gx,gy,gz,jc,jd,je,b1,b2,da,h0,h4,h5,h6,jf,jg,jh⟩:=Zi X.out)|((with_reducible refine Qf (f:=77) rfl ?_);refine Q0 (some 6) rfl rfl Try.func77 kr rfl #[.agg #[nI J,nI O,nI Y,nI Z,nI γ,nI δ,nI ε]] rfl qM ?_;(with_reducible refine(newelref17_Times.calls J O Y Z γ δ ε true _ A2.out).mono ?_);rintro e bi ⟨rfl,hb⟩;refine⟨_,rfl, ?_⟩;replace X:=sBk X hb;replace HB:=sHb hb;(try clear hb);(try clear a4);(try clear hk);(try clear hi);obtain⟨au,av,bs,e0,e3,e4,e5,cq,dp,dq,aw,ax,bv,e6,e7,e8,e9,dr,fw,fx⟩:=Zi X.out))
     go_ret
     exact⟨rfl,HB.out⟩
   ·rw[if_neg c5] at H
    have c5b0:=decide_eq_false c5
    clear c5
    obtain rfl:=qJ H
    go_enter Try.func53,Try.ntmps53
    go_wp2_with (first|((with_reducible refine Qe (N:=1) rfl ?_);refine qE 1 #[nI B,nI J,nI O,nI Y,nI Z,nI γ,nI δ,nI ε,nI θ,nI η] 25 ?_;intro ζ hg dt hbox hb;have X:=aK hbox;have ι :=sGe hg;have κ :=sGe hg;replace HB:=sHb hb;clear hb hbox hg;obtain⟨ay,cu,df,bj,cy,cz,dh,j4,h9,ha,cw,cx,dj,di,ii,ij,ik,j5,he,hh⟩:=Zi X.out)|((with_reducible refine Qf (f:=77) rfl ?_);refine Q0 (some 6) rfl rfl Try.func77 kr rfl #[.agg #[nI J,nI O,nI Y,nI Z,nI γ,nI δ,nI ε]] rfl qM ?_;(with_reducible refine(newelref17_Times.calls J O Y Z γ δ ε true _ A2.out).mono ?_);rintro e dk ⟨rfl,hb⟩;refine⟨_,rfl, ?_⟩;replace X:=sBk X hb;replace HB:=sHb hb;(try clear hb);(try clear a4);(try clear hk);(try clear hi);obtain⟨ew,fk,fl,hl,jo,jp,jq,kq,l2,l3,ey,fm,fn,jr,jw,jx,jy,l4,l9,lb⟩:=Zi X.out))
    go_ret
    exact⟨rfl,HB.out⟩
  ·rw[if_neg c4] at H
   have c4b0:decide (2≤B)=false:=decide_eq_false c4
   clear c4
   obtain rfl:=qJ H
   go_enter Try.func53,Try.ntmps53
   go_wp2_with (first|((with_reducible refine Qe (N:=1) rfl ?_);refine qE 1 #[nI B,nI J,nI O,nI Y,nI Z,nI γ,nI δ,nI ε,nI θ,nI η] 25 ?_;intro ζ hg gi hbox hb;have X:=aK hbox;have ι :=sGe hg;have κ :=sGe hg;replace HB:=sHb hb;clear hb hbox hg;obtain⟨bd,ea,ez,bc,fo,fp,fq,il,im,io,eb,ec,f7,fr,ft,fu,fv,ip,iq,ir⟩:=Zi X.out)|((with_reducible refine Qf (f:=77) rfl ?_);refine Q0 (some 6) rfl rfl Try.func77 kr rfl #[.agg #[nI J,nI O,nI Y,nI Z,nI γ,nI δ,nI ε]] rfl qM ?_;(with_reducible refine(newelref17_Times.calls J O Y Z γ δ ε true _ A2.out).mono ?_);rintro e jz ⟨rfl,hb⟩;refine⟨_,rfl, ?_⟩;replace X:=sBk X hb;replace HB:=sHb hb;(try clear hb);(try clear a4);(try clear hk);(try clear hi);obtain⟨fy,fz,h7,it,iu,iv,iw,k1,k5,k6,ga,gb,h8,ix,iy,iz,j3,k7,k8,k9⟩:=Zi X.out))
   go_ret
   exact⟨rfl,HB.out⟩
 ·replace c3:=Bool.eq_false_iff.mpr c3
  subst c3
  rw[if_neg nft] at H
  obtain rfl:=qJ H
  go_enter Try.func53,Try.ntmps53
  go_wp2_with (first|((with_reducible refine Qe (N:=1) rfl ?_);refine qE 1 #[nI B,nI J,nI O,nI Y,nI Z,nI γ,nI δ,nI ε,nI θ,nI η] 25 ?_;intro ζ hg ka hbox hb;have X:=aK hbox;have ι :=sGe hg;have κ :=sGe hg;replace HB:=sHb hb;clear hb hbox hg;obtain⟨cm,f8,ge,j9,ja,ji,jj,j6,j7,j8,ed,fa,gf,jk,jl,jm,jn,js,jt,ju⟩:=Zi X.out)|((with_reducible refine Qf (f:=77) rfl ?_);refine Q0 (some 6) rfl rfl Try.func77 kr rfl #[.agg #[nI J,nI O,nI Y,nI Z,nI γ,nI δ,nI ε]] rfl qM ?_;(with_reducible refine(newelref17_Times.calls J O Y Z γ δ ε false _ A2.out).mono ?_);rintro e jv ⟨rfl,hb⟩;refine⟨_,rfl, ?_⟩;replace X:=sBk X hb;replace HB:=sHb hb;(try clear hb);(try clear a4);(try clear hk);(try clear hi)))
  go_ret
  exact⟨rfl,HB.out⟩
def newelref17_Rest.j0:Nat→Int→Int→Int→Int→Int→Int→Int→Int→Int→Int→Int→Int→Int→Int→Option (Int)
 |0,_,_,_,_,_,_,_,_,_,_,_,_,_,_=>none
 |k+1,X,δ,ε,ζ,Y,η,θ,B,ι,Z,J,γ,κ,O=>if γ=2 then (if J>O then (some (wrap64 ((wrap64 (X+B))+(wrap64 ((wrap64 (J-O)) * (wrap64 ((wrap64 (Y+Z))+B))))))) else (some (wrap64 (X+B)))) else (if J>O then (some (wrap64 (X+(wrap64 ((wrap64 (J-O)) * (wrap64 ((wrap64 (Y+Z))+B))))))) else (some X))
def newelref17_Rest.f (k:Nat) (B:Int) (J:Int) (O:Int) (Y:Int) (Z:Int) (γ:Int) (δ :Int) (ε :Int) (θ :Int) (η :Int) (X:Int) (ζ :Int) (ι :Int):Option (Int):=if X=0 then (some 0) else (if X=1 then (newelref17_Rest.j0 k (wrap64 ((wrap64 (ζ + θ)) + δ)) B J O Y Z γ δ ε θ η X ζ ι) else (newelref17_Rest.j0 k ζ B J O Y Z γ δ ε θ η X ζ ι))
theorem newelref17_Rest.calls (k:Nat) (B:Int) (J:Int) (O:Int) (Y:Int) (Z:Int) (γ:Int) (δ :Int) (ε :Int) (θ :Int) (η :Int) (X:Int) (ζ :Int) (ι :Int) (r:Int) (w:World) (h:newelref17_Rest.f k B J O Y Z γ δ ε θ η X ζ ι = some r):
 Calls Try.prog 56 #[.agg #[nI B,nI J,nI O,nI Y,nI Z,nI γ,nI δ,nI ε,nI θ,nI η],.agg #[nI X,nI ζ,nI ι]] w fun e w'=>e = .returned (nI r)∧Below w.heap.size w w':=by
 have cj:=Try.underlying25
 have fi:=Try.underlying27
 have HB:=aK (Below.refl w.heap.size w)
 have H:(if X=0 then (some 0) else (if X=1 then (newelref17_Rest.j0 k (wrap64 ((wrap64 (ζ + θ)) + δ)) B J O Y Z γ δ ε θ η X ζ ι) else (newelref17_Rest.j0 k ζ B J O Y Z γ δ ε θ η X ζ ι)))=some r:=h
 clear h
 by_cases c3:X=0
 ·rw[if_pos c3] at H
  have c3b0:(X==0)=true:=beq_iff_eq.mpr c3
  have c3b1:(X != 0)=false:=bne_eq_false_iff_eq.mpr c3
  clear c3
  obtain rfl:=qJ H
  go_enter Try.func56,Try.ntmps56
  go_wp2_with (first|((with_reducible refine Qe (N:=2) rfl ?_);refine qE 2 #[nI B,nI J,nI O,nI Y,nI Z,nI γ,nI δ,nI ε,nI θ,nI η] 25 ?_;intro σ hg w4 hbox hb;have κ :=aK hbox;have χ :=sGe hg;have ω :=sGe hg;replace HB:=sHb hb;clear hb hbox hg)|((with_reducible refine Qe (N:=3) rfl ?_);refine qE 3 #[nI X,nI ζ,nI ι] 27 ?_;intro φ hg w5 hbox hb;have ξ :=aK hbox;have a4:=sGe hg;have a5:=sGe hg;have μ :=sNl κ hg;have ν :=sNg κ hg;replace κ :=sBk κ hb;replace HB:=sHb hb;clear hb hbox hg;have dd:= ν.out;have dt:= μ.out;obtain⟨a0,av,ba,aw,ax,bb⟩:=qD3 ξ.out))
  go_ret
  exact⟨rfl,HB.out⟩
 ·rw[if_neg c3] at H
  have c3b0:(X==0)=false:=beq_eq_false_iff_ne.mpr c3
  have c3b1:(X != 0)=true:=bne_iff_ne.mpr c3
  have co:=aK H
  clear H
  go_enter Try.func56,Try.ntmps56
  go_upto_if 13 with(first|((with_reducible refine Qe (N:=2) rfl ?_);refine qE 2 #[nI B,nI J,nI O,nI Y,nI Z,nI γ,nI δ,nI ε,nI θ,nI η] 25 ?_;intro σ hg w9 hbox hb;have κ :=aK hbox;have χ :=sGe hg;have ω :=sGe hg;replace HB:=sHb hb;clear hb hbox hg)|((with_reducible refine Qe (N:=3) rfl ?_);refine qE 3 #[nI X,nI ζ,nI ι] 27 ?_;intro φ hg fj hbox hb;have ξ :=aK hbox;have a4:=sGe hg;have a5:=sGe hg;have μ :=sNl κ hg;have ν :=sNg κ hg;replace κ :=sBk κ hb;replace HB:=sHb hb;clear hb hbox hg;have du:= ν.out;have e4:= μ.out;obtain⟨a1,a3,ae,af,ar,ah⟩:=qD3 ξ.out))
  (try simp only[Act.put,qS])
  go_cut [5] (fun v5 wc=>∃ (kq:Nat) (ρ:Int),v5=nI ρ∧Aside0 (newelref17_Rest.j0 kq ρ B J O Y Z γ δ ε θ η X ζ ι = some r)∧Aside0 (kq≤k)∧Aside0 (wc.heap[σ]?=some (.cells #[nI B,nI J,nI O,nI Y,nI Z,nI γ,nI δ,nI ε,nI θ,nI η] 25 (0,0)))∧Aside0 (wc.heap[φ]?=some (.cells #[nI X,nI ζ,nI ι] 27 (0,0)))∧Aside0 (Below w.heap.size w wc))
  case first=>
   have H:=co.out
   clear co
   by_cases a2:X=1
   ·rw[if_pos a2] at H
    have c13b0:(X==1)=true:=beq_iff_eq.mpr a2
    have c13b1:(X != 1)=false:=bne_eq_false_iff_eq.mpr a2
    clear a2
    (first|rw[c13b0]|(simp only[Zy,Z8];rw[c13b0])|skip)
    have H':=aK H
    clear H
    have e5:= μ.out
    have e6:= ν.out
    obtain⟨bf,bp,dn,be,bl,dr,e9,ee,ej,eu,bu,bw,dp,ev,fb,gu,gv,hl,i1,i2⟩:=Zi κ.out
    go_wp2
    go_meet
    case rel=>exact⟨_,(wrap64 ((wrap64 (ζ + θ)) + δ)),rfl,H',⟨by first|omega|exact Nat.le_refl _⟩,κ,ξ,HB⟩
   ·rw[if_neg a2] at H
    have c13b0:(X==1)=false:=beq_eq_false_iff_ne.mpr a2
    have c13b1:(X != 1)=true:=bne_iff_ne.mpr a2
    (first|rw[c13b0]|(simp only[Zy,Z8];rw[c13b0])|skip)
    have H':=aK H
    clear H
    go_wp2
    go_meet
    case rel=>exact⟨_,(ζ),rfl,H',⟨by first|omega|exact Nat.le_refl _⟩,κ,ξ,HB⟩
  case rest=>
   clear co
   try clear c3
   try clear c3b0
   try clear c3b1
   try clear a1
   try clear a3
   try clear ae
   try clear af
   try clear ar
   try clear ah
   obtain⟨kq,ρ,rfl,HA,ei,κ,ξ,HB⟩:=hcut
   cases kq with
   |zero=>exact absurd HA.out (by simp[newelref17_Rest.j0])
   |succ er=>
    have H:=HA.out
    clear HA
    simp only[newelref17_Rest.j0] at H
    by_cases ab:X=2
    ·rw[if_pos ab] at H
     have c16b0:(X==2)=true:=beq_iff_eq.mpr ab
     have c16b1:(X != 2)=false:=bne_eq_false_iff_eq.mpr ab
     clear ab
     by_cases ψ : η > ι
     ·rw[if_pos ψ] at H
      have c17b0:decide (ι < η)=true:=decide_eq_true ψ
      clear ψ
      obtain rfl:=qJ H
      have db:= ν.out
      have dc:= μ.out
      obtain⟨ag,ai,b3,aj,am,b4⟩:=qD3 ξ.out
      obtain⟨a7,a9,τ,ac,al,b7,cg,ia,ib,ic,aa,an,a6,dw,dx,dy,dz,ie,ig,ih⟩:=Zi κ.out
      go_wp2
      go_ret
      exact⟨rfl,HB.out⟩
     ·rw[if_neg ψ] at H
      have c17b0:decide (ι < η)=false:=decide_eq_false ψ
      clear ψ
      obtain rfl:=qJ H
      have em:= ν.out
      have en:= μ.out
      obtain⟨az,b0,d0,b1,b2,da⟩:=qD3 ξ.out
      obtain⟨ct,cy,dh,fa,ji,jj,jk,jl,jm,jn,cz,d2,di,jo,jp,jq,jr,js,jt,ju⟩:=Zi κ.out
      go_wp2
      go_ret
      exact⟨rfl,HB.out⟩
    ·rw[if_neg ab] at H
     have c16b0:(X==2)=false:=beq_eq_false_iff_ne.mpr ab
     have c16b1:(X != 2)=true:=bne_iff_ne.mpr ab
     by_cases au: η > ι
     ·rw[if_pos au] at H
      have c24b0:decide (ι < η)=true:=decide_eq_true au
      clear au
      obtain rfl:=qJ H
      have eo:= ν.out
      have ep:= μ.out
      obtain⟨ay,cu,df,cw,cx,dj⟩:=qD3 ξ.out
      obtain⟨dl,dm,a8,ak,ao,ap,b5,b6,b8,b9,e0,e3,bg,bh,bi,bj,bk,bm,bn,bo⟩:=Zi κ.out
      go_wp2
      go_ret
      exact⟨rfl,HB.out⟩
     ·rw[if_neg au] at H
      have c24b0:decide (ι < η)=false:=decide_eq_false au
      clear au
      obtain rfl:=qJ H
      have jw:= ν.out
      have jx:= μ.out
      obtain⟨fc,fe,ff,fg,fh,jb⟩:=qD3 ξ.out
      obtain⟨bd,ea,ez,bc,fo,fp,fq,il,im,io,eb,ec,f7,fr,ft,fu,fv,ip,iq,ir⟩:=Zi κ.out
      go_wp2
      go_ret
      exact⟨rfl,HB.out⟩
def newelref17_May.j0:Nat→Bool→Int→Int→Int→Option (Bool)
 |0,_,_,_,_=>none
 |k+1,X,B,J,O=>if X=true then (some false) else (if B=2 then (some (decide (J≤300))) else (if B=1 then (some (decide (J≤60))) else (if B=3 then (some (decide (J≤60))) else (some false))))
def newelref17_May.f (k:Nat) (B:Int) (J:Int) (O:Int):Option (Bool):=if B=0 then (if J=0 then (some (O==0)) else (some false)) else (if O<0 then (newelref17_May.j0 k true B J O) else (if O>60 then (newelref17_May.j0 k true B J O) else (newelref17_May.j0 k (decide (J<1)) B J O)))
theorem newelref17_May.calls (k:Nat) (B:Int) (J:Int) (O:Int) (r:Bool) (w:World) (h:newelref17_May.f k B J O=some r):
 Calls Try.prog 78 #[.agg #[nI B,nI J,nI O]] w fun e w'=>e = .returned (.bool r)∧Below w.heap.size w w':=by
 have fi:=Try.underlying27
 have HB:=aK (Below.refl w.heap.size w)
 have H:(if B=0 then (if J=0 then (some (O==0)) else (some false)) else (if O<0 then (newelref17_May.j0 k true B J O) else (if O>60 then (newelref17_May.j0 k true B J O) else (newelref17_May.j0 k (decide (J<1)) B J O))))=some r:=h
 clear h
 by_cases c2:B=0
 ·rw[if_pos c2] at H
  have c2b0:(B==0)=true:=beq_iff_eq.mpr c2
  have c2b1:(B != 0)=false:=bne_eq_false_iff_eq.mpr c2
  clear c2
  by_cases c3:J=0
  ·rw[if_pos c3] at H
   have c3b0:(J==0)=true:=beq_iff_eq.mpr c3
   have c3b1:(J != 0)=false:=bne_eq_false_iff_eq.mpr c3
   clear c3
   obtain rfl:=qJ H
   go_enter Try.func78,Try.ntmps78
   go_wp2_with (first|((with_reducible refine Qe (N:=1) rfl ?_);refine qE 1 #[nI B,nI J,nI O] 27 ?_;intro Z hg w4 hbox hb;have X:=aK hbox;have γ:=sGe hg;have δ :=sGe hg;replace HB:=sHb hb;clear hb hbox hg;obtain⟨cg,cn,d1,dd,de,dk⟩:=qD3 X.out))
   go_ret
   exact⟨rfl,HB.out⟩
  ·rw[if_neg c3] at H
   have c3b0:(J==0)=false:=beq_eq_false_iff_ne.mpr c3
   have c3b1:(J != 0)=true:=bne_iff_ne.mpr c3
   obtain rfl:=qJ H
   go_enter Try.func78,Try.ntmps78
   go_wp2_with (first|((with_reducible refine Qe (N:=1) rfl ?_);refine qE 1 #[nI B,nI J,nI O] 27 ?_;intro Z hg w6 hbox hb;have X:=aK hbox;have γ:=sGe hg;have δ :=sGe hg;replace HB:=sHb hb;clear hb hbox hg;obtain⟨a0,av,ba,aw,ax,bb⟩:=qD3 X.out))
   go_ret
   exact⟨rfl,HB.out⟩
 ·rw[if_neg c2] at H
  have c2b0:(B==0)=false:=beq_eq_false_iff_ne.mpr c2
  have c2b1:(B != 0)=true:=bne_iff_ne.mpr c2
  have co:=aK H
  clear H
  go_enter Try.func78,Try.ntmps78
  go_upto_region 3 with(first|((with_reducible refine Qe (N:=1) rfl ?_);refine qE 1 #[nI B,nI J,nI O] 27 ?_;intro Z hg w9 hbox hb;have X:=aK hbox;have γ:=sGe hg;have δ :=sGe hg;replace HB:=sHb hb;clear hb hbox hg;obtain⟨bg,bh,du,bk,bm,dv⟩:=qD3 X.out))
  (try simp only[Act.put,qS])
  go_cut [26] (fun ε wc=>∃ (kq:Nat) (Y:Bool),ε = .bool Y∧Aside0 (newelref17_May.j0 kq Y B J O=some r)∧Aside0 (kq≤k)∧Aside0 (wc.heap[Z]?=some (.cells #[nI B,nI J,nI O] 27 (0,0)))∧Aside0 (Below w.heap.size w wc))
  case first=>
   have H:=co.out
   clear co
   by_cases a5:O<0
   ·rw[if_pos a5] at H
    have c11b0:=decide_eq_true a5
    clear a5
    (first|rw[c11b0]|(simp only[Zy,Z8];rw[c11b0])|skip)
    have H':=aK H
    clear H
    obtain⟨a1,a3,ae,af,ar,ah⟩:=qD3 X.out
    go_wp2
    go_meet
    case rel=>exact⟨_,(true),rfl,H',⟨by first|omega|exact Nat.le_refl _⟩,X,HB⟩
   ·rw[if_neg a5] at H
    have c11b0:=decide_eq_false a5
    clear a5
    (first|rw[c11b0]|(simp only[Zy,Z8];rw[c11b0])|skip)
    by_cases a2:O>60
    ·rw[if_pos a2] at H
     have c13b0:decide (60<O)=true:=decide_eq_true a2
     clear a2
     have H':=aK H
     clear H
     obtain⟨cb,cd,db,ce,cf,dc⟩:=qD3 X.out
     go_wp2
     go_meet
     case rel=>exact⟨_,(true),rfl,H',⟨by first|omega|exact Nat.le_refl _⟩,X,HB⟩
    ·rw[if_neg a2] at H
     have c13b0:decide (60<O)=false:=decide_eq_false a2
     clear a2
     have H':=aK H
     clear H
     obtain⟨bf,bp,dn,bu,bw,dp⟩:=qD3 X.out
     go_wp2
     go_meet
     case rel=>exact⟨_,(decide (J<1)),rfl,H',⟨by first|omega|exact Nat.le_refl _⟩,X,HB⟩
  case rest=>
   clear co
   try clear c2
   try clear c2b0
   try clear c2b1
   try clear bg
   try clear bh
   try clear du
   try clear bk
   try clear bm
   try clear dv
   obtain⟨kq,Y,rfl,HA,ei,X,HB⟩:=hcut
   cases kq with
   |zero=>exact absurd HA.out (by simp[newelref17_May.j0])
   |succ er=>
    have H:=HA.out
    clear HA
    simp only[newelref17_May.j0] at H
    by_cases ab:Y=true
    ·subst ab
     rw[if_pos rfl] at H
     obtain rfl:=qJ H
     go_wp2
     go_ret
     exact⟨rfl,HB.out⟩
    ·replace ab:=Bool.eq_false_iff.mpr ab
     subst ab
     rw[if_neg nft] at H
     by_cases ψ :B=2
     ·rw[if_pos ψ] at H
      have c17b0:(B==2)=true:=beq_iff_eq.mpr ψ
      have c17b1:(B != 2)=false:=bne_eq_false_iff_eq.mpr ψ
      clear ψ
      obtain rfl:=qJ H
      obtain⟨bl,bz,eu,ca,ch,ev⟩:=qD3 X.out
      go_wp2
      go_ret
      exact⟨rfl,HB.out⟩
     ·rw[if_neg ψ] at H
      have c17b0:(B==2)=false:=beq_eq_false_iff_ne.mpr ψ
      have c17b1:(B != 2)=true:=bne_iff_ne.mpr ψ
      by_cases b3:B=1
      ·rw[if_pos b3] at H
       have c19b0:(B==1)=true:=beq_iff_eq.mpr b3
       have c19b1:(B != 1)=false:=bne_eq_false_iff_eq.mpr b3
       clear b3
       obtain rfl:=qJ H
       obtain⟨a7,a9,τ,aa,an,a6⟩:=qD3 X.out
       go_wp2
       go_ret
       exact⟨rfl,HB.out⟩
      ·rw[if_neg b3] at H
       have c19b0:(B==1)=false:=beq_eq_false_iff_ne.mpr b3
       have c19b1:(B != 1)=true:=bne_iff_ne.mpr b3
       by_cases ak:B=3
       ·rw[if_pos ak] at H
        have c21b0:(B==3)=true:=beq_iff_eq.mpr ak
        have c21b1:(B != 3)=false:=bne_eq_false_iff_eq.mpr ak
        clear ak
        obtain rfl:=qJ H
        obtain⟨az,b0,d0,b1,b2,da⟩:=qD3 X.out
        go_wp2
        go_ret
        exact⟨rfl,HB.out⟩
       ·rw[if_neg ak] at H
        have c21b0:(B==3)=false:=beq_eq_false_iff_ne.mpr ak
        have c21b1:(B != 3)=true:=bne_iff_ne.mpr ak
        obtain rfl:=qJ H
        obtain⟨ct,cy,dh,cz,d2,di⟩:=qD3 X.out
        go_wp2
        go_ret
        exact⟨rfl,HB.out⟩
mutual
def newelref18_May.j0:Nat→Int→Bool→Int→Int→Int→Int→Int→Int→Int→Option (Bool)
 |0,_,_,_,_,_,_,_,_,_=>none
 |k+1,B,O,Y,J,Z,γ,δ,ε,ζ =>if O=true then (some false) else (if γ≥1 then (newelref18_May.j1 k B (δ == 0) (decide (γ≤60)) Y J Z γ δ ε ζ) else (newelref18_May.j1 k B (δ == 0) false Y J Z γ δ ε ζ))
def newelref18_May.j1:Nat→Int→Bool→Bool→Int→Int→Int→Int→Int→Int→Int→Option (Bool)
 |0,_,_,_,_,_,_,_,_,_,_=>none
 |k+1,B,O,X,Y,J,Z,γ,δ,ε,ζ =>if Z=0 then (if J=0 then (if γ=0 then (some O) else (some false)) else (some false)) else (if Z=1 then (if J=1 then (if J=(-1) then (if (wrap64 (Y+1))<B then (if X=true then (some O) else (some false)) else (if Y>0 then (if X=true then (some O) else (some false)) else (some false))) else (if (wrap64 (Y+1))<B then (if X=true then (some O) else (some false)) else (some false))) else (if J=(-1) then (if Y>0 then (if X=true then (some O) else (some false)) else (some false)) else (some false))) else (if Z=2 then (if J=0 then (if X=true then (some O) else (some false)) else (some false)) else (if Z=3 then (if J=0 then (if γ=0 then (some (!O)) else (some false)) else (some false)) else (some false))))
end
def newelref18_May.f (k:Nat) (B:Int) (X:Int) (ζ :Int) (ι :Int) (ν :Int) (κ :Int) (ξ :Int) (ρ:Int):Option (Bool):=(newelref17_May.f k κ ξ ρ).bind fun γ=>(if B<2 then (newelref18_May.j0 k B true X ζ ι ν κ ξ ρ) else (if B>64 then (newelref18_May.j0 k B true X ζ ι ν κ ξ ρ) else (if X<0 then (newelref18_May.j0 k B true X ζ ι ν κ ξ ρ) else (if X≥B then (newelref18_May.j0 k B true X ζ ι ν κ ξ ρ) else (newelref18_May.j0 k B (!γ) X ζ ι ν κ ξ ρ)))))
theorem newelref18_May.calls (k:Nat) (B:Int) (X:Int) (ζ :Int) (ι :Int) (ν :Int) (κ :Int) (ξ :Int) (ρ:Int) (r:Bool) (w:World) (h:newelref18_May.f k B X ζ ι ν κ ξ ρ=some r):
 Calls Try.prog 54 #[nI B,.agg #[nI X,nI ζ,nI ι,nI ν,nI κ,nI ξ,nI ρ]] w fun e w'=>e = .returned (.bool r)∧Below w.heap.size w w':=by
 have hl:=Try.underlying29
 have fi:=Try.underlying27
 have HB:=aK (Below.refl w.heap.size w)
 have H:((newelref17_May.f k κ ξ ρ).bind fun γ=>(if B<2 then (newelref18_May.j0 k B true X ζ ι ν κ ξ ρ) else (if B>64 then (newelref18_May.j0 k B true X ζ ι ν κ ξ ρ) else (if X<0 then (newelref18_May.j0 k B true X ζ ι ν κ ξ ρ) else (if X≥B then (newelref18_May.j0 k B true X ζ ι ν κ ξ ρ) else (newelref18_May.j0 k B (!γ) X ζ ι ν κ ξ ρ))))))=some r:=h
 clear h
 obtain⟨γ,A3,H⟩:=qQ H
 have af:=aK H
 clear H
 go_enter Try.func54,Try.ntmps54
 go_upto_region 2 with(first|((with_reducible refine Qe (N:=3) rfl ?_);refine qE 3 #[nI X,nI ζ,nI ι,nI ν,nI κ,nI ξ,nI ρ] 29 ?_;intro ch hg w5 hbox hb;have J:=aK hbox;have oz:=sGe hg;have p0:=sGe hg;replace HB:=sHb hb;clear hb hbox hg;obtain⟨σ,ψ,μ,a1,ae,ar,bp,a2,ab,bw,bz,d0,d2,dk⟩:=qD7 J.out)|((with_reducible refine Qf (f:=78) rfl ?_);refine Q0 (some 12) rfl rfl Try.func78 kr rfl #[.agg #[nI κ,nI ξ,nI ρ]] rfl qM ?_;(with_reducible refine(newelref17_May.calls k κ ξ ρ γ _ A3.out).mono ?_);rintro e w7 ⟨rfl,hb⟩;refine⟨_,rfl, ?_⟩;replace J:=sBk J hb;replace HB:=sHb hb;(try clear hb);(try clear a4);(try clear hk);(try clear hi)))
 (try simp only[Act.put,qS])
 go_cut [33] (fun oy wc=>∃ (kq:Nat) (θ :Bool),oy = .bool θ ∧ Aside0 (newelref18_May.j0 kq B θ X ζ ι ν κ ξ ρ=some r)∧Aside0 (kq≤k)∧Aside0 (wc.heap[ch]?=some (.cells #[nI X,nI ζ,nI ι,nI ν,nI κ,nI ξ,nI ρ] 29 (0,0)))∧Aside0 (Below w.heap.size w wc))
 case first=>
  have H:=af.out
  clear af
  by_cases c8:B<2
  ·rw[if_pos c8] at H
   have c8b0:=decide_eq_true c8
   clear c8
   (first|rw[c8b0]|(simp only[Zy,Z8];rw[c8b0])|skip)
   have H':=aK H
   clear H
   go_wp2
   go_meet
   case rel=>exact⟨_,(true),rfl,H',⟨by first|omega|exact Nat.le_refl _⟩,J,HB⟩
  ·rw[if_neg c8] at H
   have c8b0:=decide_eq_false c8
   clear c8
   (first|rw[c8b0]|(simp only[Zy,Z8];rw[c8b0])|skip)
   by_cases c9:B>64
   ·rw[if_pos c9] at H
    have c9b0:decide (64<B)=true:=decide_eq_true c9
    clear c9
    have H':=aK H
    clear H
    go_wp2
    go_meet
    case rel=>exact⟨_,(true),rfl,H',⟨by first|omega|exact Nat.le_refl _⟩,J,HB⟩
   ·rw[if_neg c9] at H
    have c9b0:decide (64<B)=false:=decide_eq_false c9
    clear c9
    by_cases c10:X<0
    ·rw[if_pos c10] at H
     have c10b0:=decide_eq_true c10
     clear c10
     have H':=aK H
     clear H
     obtain⟨ci,cp,bg,fk,fl,fm,fn,cq,cr,bh,gm,gn,gp,gq⟩:=qD7 J.out
     go_wp2
     go_meet
     case rel=>exact⟨_,(true),rfl,H',⟨by first|omega|exact Nat.le_refl _⟩,J,HB⟩
    ·rw[if_neg c10] at H
     have c10b0:=decide_eq_false c10
     clear c10
     by_cases a3:X≥B
     ·rw[if_pos a3] at H
      have c12b0:decide (B≤X)=true:=decide_eq_true a3
      clear a3
      have H':=aK H
      clear H
      obtain⟨ao,bc,bk,du,ed,eh,ew,ap,be,bm,ey,ez,f7,f8⟩:=qD7 J.out
      go_wp2
      go_meet
      case rel=>exact⟨_,(true),rfl,H',⟨by first|omega|exact Nat.le_refl _⟩,J,HB⟩
     ·rw[if_neg a3] at H
      have c12b0:decide (B≤X)=false:=decide_eq_false a3
      clear a3
      have H':=aK H
      clear H
      obtain⟨cb,cd,db,ei,ej,ek,el,ce,cf,dc,em,en,eo,ep⟩:=qD7 J.out
      go_wp2
      go_meet
      case rel=>exact⟨_,(!γ),rfl,H',⟨by first|omega|exact Nat.le_refl _⟩,J,HB⟩
 case rest=>
  clear af
  try clear σ
  try clear ψ
  try clear μ
  try clear a1
  try clear ae
  try clear ar
  try clear bp
  try clear a2
  try clear ab
  try clear bw
  try clear bz
  try clear d0
  try clear d2
  try clear dk
  obtain⟨kq,θ,rfl,HA,d1,J,HB⟩:=hcut
  cases kq with
  |zero=>exact absurd HA.out (by simp[newelref18_May.j0])
  |succ fc=>
   have H:=HA.out
   clear HA
   simp only[newelref18_May.j0] at H
   by_cases a8: θ = true
   ·subst a8
    rw[if_pos rfl] at H
    obtain rfl:=qJ H
    go_wp2
    go_ret
    exact⟨rfl,HB.out⟩
   ·replace a8:=Bool.eq_false_iff.mpr a8
    subst a8
    rw[if_neg nft] at H
    have ω :=aK H
    clear H
    obtain⟨az,b0,bl,ck,cm,co,dl,b1,b2,ca,dm,ec,eu,ev⟩:=qD7 J.out
    go_upto_region 5 with(fail)
    go_cut [7] (fun v7 wc=>∃ (kq:Nat) (Z:Bool),v7 = .bool Z∧Aside0 (newelref18_May.j1 kq B (κ == 0) Z X ζ ι ν κ ξ ρ=some r)∧Aside0 (kq≤fc)∧Aside0 (wc.heap[ch]?=some (.cells #[nI X,nI ζ,nI ι,nI ν,nI κ,nI ξ,nI ρ] 29 (0,0)))∧Aside0 (Below w.heap.size w wc))
    case first=>
     have H:= ω.out
     clear ω
     by_cases b6: ν ≥ 1
     ·rw[if_pos b6] at H
      have c18b0:decide (1 ≤ ν)=true:=decide_eq_true b6
      clear b6
      (first|rw[c18b0]|(simp only[Zy,Z8];rw[c18b0])|skip)
      have H':=aK H
      clear H
      obtain⟨ag,ai,b3,ba,bb,cv,d7,aj,am,b4,d8,d9,dd,de⟩:=qD7 J.out
      go_wp2
      go_meet
      case rel=>exact⟨_,(decide (ν ≤ 60)),rfl,H',⟨by have:=d1.out;omega⟩,J,HB⟩
     ·rw[if_neg b6] at H
      have c18b0:decide (1 ≤ ν)=false:=decide_eq_false b6
      clear b6
      (first|rw[c18b0]|(simp only[Zy,Z8];rw[c18b0])|skip)
      have H':=aK H
      clear H
      obtain⟨a7,a9,τ,ac,al,b7,cg,aa,an,a6,dw,dx,dy,dz⟩:=qD7 J.out
      go_wp2
      go_meet
      case rel=>exact⟨_,(false),rfl,H',⟨by have:=d1.out;omega⟩,J,HB⟩
    case rest=>
     clear ω
     try clear a8
     try clear az
     try clear b0
     try clear bl
     try clear ck
     try clear cm
     try clear co
     try clear dl
     try clear σ
     try clear ψ
     try clear μ
     try clear a1
     try clear ae
     try clear ar
     try clear bp
     try clear b1
     try clear b2
     try clear ca
     try clear dm
     try clear ec
     try clear eu
     try clear ev
     try clear a2
     try clear ab
     try clear bw
     try clear bz
     try clear d0
     try clear d2
     try clear dk
     obtain⟨kq,Z,rfl,HA,p1,J,HB⟩:=hcut
     cases kq with
     |zero=>exact absurd HA.out (by simp[newelref18_May.j1])
     |succ p5=>
      have H:=HA.out
      clear HA
      simp only[newelref18_May.j1] at H
      by_cases ak: ι = 0
      ·rw[if_pos ak] at H
       have c21b0:(ι == 0)=true:=beq_iff_eq.mpr ak
       have c21b1:(ι != 0)=false:=bne_eq_false_iff_eq.mpr ak
       clear ak
       by_cases ah: ζ = 0
       ·rw[if_pos ah] at H
        have c22b0:(ζ == 0)=true:=beq_iff_eq.mpr ah
        have c22b1:(ζ != 0)=false:=bne_eq_false_iff_eq.mpr ah
        clear ah
        by_cases O: ν = 0
        ·rw[if_pos O] at H
         have c23b0:(ν == 0)=true:=beq_iff_eq.mpr O
         have c23b1:(ν != 0)=false:=bne_eq_false_iff_eq.mpr O
         clear O
         obtain rfl:=qJ H
         obtain⟨au,av,bs,e0,e3,e4,e5,aw,ax,bv,e6,e7,e8,e9⟩:=qD7 J.out
         go_wp2
         go_ret
         exact⟨rfl,HB.out⟩
        ·rw[if_neg O] at H
         have c23b0:(ν == 0)=false:=beq_eq_false_iff_ne.mpr O
         have c23b1:(ν != 0)=true:=bne_iff_ne.mpr O
         obtain rfl:=qJ H
         obtain⟨b8,bn,fw,gg,gh,gi,gj,bq,br,fx,h9,ha,he,hh⟩:=qD7 J.out
         go_wp2
         go_ret
         exact⟨rfl,HB.out⟩
       ·rw[if_neg ah] at H
        have c22b0:(ζ == 0)=false:=beq_eq_false_iff_ne.mpr ah
        have c22b1:(ζ != 0)=true:=bne_iff_ne.mpr ah
        obtain rfl:=qJ H
        obtain⟨ay,cu,df,bj,cy,cz,dh,cw,cx,dj,di,ii,ij,ik⟩:=qD7 J.out
        go_wp2
        go_ret
        exact⟨rfl,HB.out⟩
      ·rw[if_neg ak] at H
       have c21b0:(ι == 0)=false:=beq_eq_false_iff_ne.mpr ak
       have c21b1:(ι != 0)=true:=bne_iff_ne.mpr ak
       by_cases bd: ι = 1
       ·rw[if_pos bd] at H
        have c27b0:(ι == 1)=true:=beq_iff_eq.mpr bd
        have c27b1:(ι != 1)=false:=bne_eq_false_iff_eq.mpr bd
        clear bd
        by_cases b5: ζ = 1
        ·rw[if_pos b5] at H
         have c28b0:(ζ == 1)=true:=beq_iff_eq.mpr b5
         have c28b1:(ζ != 1)=false:=bne_eq_false_iff_eq.mpr b5
         clear b5
         by_cases a5: ζ = (-1)
         ·rw[if_pos a5] at H
          have c29b0:(ζ == (-1))=true:=beq_iff_eq.mpr a5
          have c29b1:(ζ != (-1))=false:=bne_eq_false_iff_eq.mpr a5
          clear a5
          by_cases δ :(wrap64 (X+1))<B
          ·rw[if_pos δ] at H
           have c30b0:=decide_eq_true δ
           clear δ
           by_cases cj:Z=true
           ·subst cj
            rw[if_pos rfl] at H
            obtain rfl:=qJ H
            obtain⟨fy,fz,h7,it,iu,iv,iw,ga,gb,h8,ix,iy,iz,j3⟩:=qD7 J.out
            go_wp2
            go_ret
            exact⟨rfl,HB.out⟩
           ·replace cj:=Bool.eq_false_iff.mpr cj
            subst cj
            rw[if_neg nft] at H
            obtain rfl:=qJ H
            obtain⟨d3,d4,dt,b9,fj,gl,ho,d5,d6,er,hu,hx,hy,i0⟩:=qD7 J.out
            go_wp2
            go_ret
            exact⟨rfl,HB.out⟩
          ·rw[if_neg δ] at H
           have c30b0:=decide_eq_false δ
           clear δ
           by_cases χ :X>0
           ·rw[if_pos χ] at H
            have c34b0:decide (0<X)=true:=decide_eq_true χ
            clear χ
            by_cases ε :Z=true
            ·subst ε
             rw[if_pos rfl] at H
             obtain rfl:=qJ H
             obtain⟨dv,ee,fb,ct,gy,ju,jx,ef,eg,gw,l7,l8,l9,lb⟩:=qD7 J.out
             go_wp2
             go_ret
             exact⟨rfl,HB.out⟩
            ·replace ε :=Bool.eq_false_iff.mpr ε
             subst ε
             rw[if_neg nft] at H
             obtain rfl:=qJ H
             obtain⟨gr,gs,ge,gk,j9,ja,jy,gt,hj,gf,jz,k0,k2,k3⟩:=qD7 J.out
             go_wp2
             go_ret
             exact⟨rfl,HB.out⟩
           ·rw[if_neg χ] at H
            have c34b0:decide (0<X)=false:=decide_eq_false χ
            clear χ
            obtain rfl:=qJ H
            obtain⟨lu,lv,lw,lx,ly,lz,m0,m1,m2,m3,m4,m5,m6,m7⟩:=qD7 J.out
            go_wp2
            go_ret
            exact⟨rfl,HB.out⟩
         ·rw[if_neg a5] at H
          have c29b0:(ζ == (-1))=false:=beq_eq_false_iff_ne.mpr a5
          have c29b1:(ζ != (-1))=true:=bne_iff_ne.mpr a5
          by_cases et:(wrap64 (X+1))<B
          ·rw[if_pos et] at H
           have c39b0:=decide_eq_true et
           clear et
           by_cases ea:Z=true
           ·subst ea
            rw[if_pos rfl] at H
            obtain rfl:=qJ H
            obtain⟨dn,dp,gu,jc,jd,je,jf,dq,dr,gv,jg,jh,jv,jw⟩:=qD7 J.out
            go_wp2
            go_ret
            exact⟨rfl,HB.out⟩
           ·replace ea:=Bool.eq_false_iff.mpr ea
            subst ea
            rw[if_neg nft] at H
            obtain rfl:=qJ H
            obtain⟨fo,fp,ft,eb,m8,m9,ma,fq,fr,fu,mb,mc,me,mf⟩:=qD7 J.out
            go_wp2
            go_ret
            exact⟨rfl,HB.out⟩
          ·rw[if_neg et] at H
           have c39b0:=decide_eq_false et
           clear et
           obtain rfl:=qJ H
           obtain⟨k4,ka,kb,kc,kd,ke,kf,kg,kh,ki,kj,kk,kl,km⟩:=qD7 J.out
           go_wp2
           go_ret
           exact⟨rfl,HB.out⟩
        ·rw[if_neg b5] at H
         have c28b0:(ζ == 1)=false:=beq_eq_false_iff_ne.mpr b5
         have c28b1:(ζ != 1)=true:=bne_iff_ne.mpr b5
         by_cases φ : ζ = (-1)
         ·rw[if_pos φ] at H
          have c44b0:(ζ == (-1))=true:=beq_iff_eq.mpr φ
          have c44b1:(ζ != (-1))=false:=bne_eq_false_iff_eq.mpr φ
          clear φ
          by_cases bu:X>0
          ·rw[if_pos bu] at H
           have c45b0:decide (0<X)=true:=decide_eq_true bu
           clear bu
           by_cases bo:Z=true
           ·subst bo
            rw[if_pos rfl] at H
            obtain rfl:=qJ H
            obtain⟨fe,ff,fa,lf,lg,lh,ll,fg,fh,gx,lm,ln,lp,lq⟩:=qD7 J.out
            go_wp2
            go_ret
            exact⟨rfl,HB.out⟩
           ·replace bo:=Bool.eq_false_iff.mpr bo
            subst bo
            rw[if_neg nft] at H
            obtain rfl:=qJ H
            obtain⟨i5,i6,lc,mg,mh,mi,mj,i7,i9,ml,mm,mo,mq,mr⟩:=qD7 J.out
            go_wp2
            go_ret
            exact⟨rfl,HB.out⟩
          ·rw[if_neg bu] at H
           have c45b0:decide (0<X)=false:=decide_eq_false bu
           clear bu
           obtain rfl:=qJ H
           obtain⟨gz,i4,j7,j8,jb,jj,jk,jl,jm,jn,jo,jp,jq,jr⟩:=qD7 J.out
           go_wp2
           go_ret
           exact⟨rfl,HB.out⟩
         ·rw[if_neg φ] at H
          have c44b0:(ζ == (-1))=false:=beq_eq_false_iff_ne.mpr φ
          have c44b1:(ζ != (-1))=true:=bne_iff_ne.mpr φ
          obtain rfl:=qJ H
          obtain⟨fv,iq,ir,lr,ls,o5,o6,i3,kn,ko,o7,o8,o9,oa⟩:=qD7 J.out
          go_wp2
          go_ret
          exact⟨rfl,HB.out⟩
       ·rw[if_neg bd] at H
        have c27b0:(ι == 1)=false:=beq_eq_false_iff_ne.mpr bd
        have c27b1:(ι != 1)=true:=bne_iff_ne.mpr bd
        by_cases bf: ι = 2
        ·rw[if_pos bf] at H
         have c51b0:(ι == 2)=true:=beq_iff_eq.mpr bf
         have c51b1:(ι != 2)=false:=bne_eq_false_iff_eq.mpr bf
         clear bf
         by_cases Y: ζ = 0
         ·rw[if_pos Y] at H
          have c52b0:(ζ == 0)=true:=beq_iff_eq.mpr Y
          have c52b1:(ζ != 0)=false:=bne_eq_false_iff_eq.mpr Y
          clear Y
          by_cases da:Z=true
          ·subst da
           rw[if_pos rfl] at H
           obtain rfl:=qJ H
           obtain⟨ig,ih,il,i1,i2,k1,k5,im,io,ip,k6,k7,k8,k9⟩:=qD7 J.out
           go_wp2
           go_ret
           exact⟨rfl,HB.out⟩
          ·replace da:=Bool.eq_false_iff.mpr da
           subst da
           rw[if_neg nft] at H
           obtain rfl:=qJ H
           obtain⟨ia,ib,kp,ms,mt,mu,mw,ic,ie,ks,my,mz,n0,n1⟩:=qD7 J.out
           go_wp2
           go_ret
           exact⟨rfl,HB.out⟩
         ·rw[if_neg Y] at H
          have c52b0:(ζ == 0)=false:=beq_eq_false_iff_ne.mpr Y
          have c52b1:(ζ != 0)=true:=bne_iff_ne.mpr Y
          obtain rfl:=qJ H
          obtain⟨n2,n3,na,nb,nc,nf,ng,nh,ni,nj,nk,nl,nm,nn⟩:=qD7 J.out
          go_wp2
          go_ret
          exact⟨rfl,HB.out⟩
        ·rw[if_neg bf] at H
         have c51b0:(ι == 2)=false:=beq_eq_false_iff_ne.mpr bf
         have c51b1:(ι != 2)=true:=bne_iff_ne.mpr bf
         by_cases cn: ι = 3
         ·rw[if_pos cn] at H
          have c57b0:(ι == 3)=true:=beq_iff_eq.mpr cn
          have c57b1:(ι != 3)=false:=bne_eq_false_iff_eq.mpr cn
          clear cn
          by_cases bi: ζ = 0
          ·rw[if_pos bi] at H
           have c58b0:(ζ == 0)=true:=beq_iff_eq.mpr bi
           have c58b1:(ζ != 0)=false:=bne_eq_false_iff_eq.mpr bi
           clear bi
           by_cases η : ν = 0
           ·rw[if_pos η] at H
            have c59b0:(ν == 0)=true:=beq_iff_eq.mpr η
            have c59b1:(ν != 0)=false:=bne_eq_false_iff_eq.mpr η
            clear η
            obtain rfl:=qJ H
            obtain⟨h0,h4,js,ob,oc,od,oe,h5,h6,jt,oh,oi,oj,ol⟩:=qD7 J.out
            go_wp2
            go_ret
            exact⟨rfl,HB.out⟩
           ·rw[if_neg η] at H
            have c59b0:(ν == 0)=false:=beq_eq_false_iff_ne.mpr η
            have c59b1:(ν != 0)=true:=bne_iff_ne.mpr η
            obtain rfl:=qJ H
            obtain⟨j4,j5,l5,om,oo,oq,ot,j6,ji,l6,ou,ov,ow,ox⟩:=qD7 J.out
            go_wp2
            go_ret
            exact⟨rfl,HB.out⟩
          ·rw[if_neg bi] at H
           have c58b0:(ζ == 0)=false:=beq_eq_false_iff_ne.mpr bi
           have c58b1:(ζ != 0)=true:=bne_iff_ne.mpr bi
           obtain rfl:=qJ H
           obtain⟨kt,ku,nd,no,np,nq,nr,kv,kw,ns,nt,nu,nv,nw⟩:=qD7 J.out
           go_wp2
           go_ret
           exact⟨rfl,HB.out⟩
         ·rw[if_neg cn] at H
          have c57b0:(ι == 3)=false:=beq_eq_false_iff_ne.mpr cn
          have c57b1:(ι != 3)=true:=bne_iff_ne.mpr cn
          obtain rfl:=qJ H
          obtain⟨kx,ky,kz,nx,ny,nz,o0,l2,l3,l4,o1,o2,o3,o4⟩:=qD7 J.out
          go_wp2
          go_ret
          exact⟨rfl,HB.out⟩
def car_within.f (B:Int) (Z:Int) (a2:Int):Option (Bool):=if Z≤B then (some (decide (B≤a2))) else (some false)
theorem car_within.calls (B:Int) (Z:Int) (a2:Int) (r:Bool) (w:World) (h:car_within.f B Z a2=some r):
 Calls Try.prog 85 #[nI B,nI Z,nI a2] w fun e w'=>e = .returned (.bool r)∧Drawn0 w w':=by
 have H:(if Z≤B then (some (decide (B≤a2))) else (some false))=some r:=h
 clear h
 by_cases c4:Z≤B
 ·rw[if_pos c4] at H
  have c4b0:=decide_eq_true c4
  clear c4
  obtain rfl:=qJ H
  go_enter Try.func85,Try.ntmps85
  go_wp2
  go_ret
  exact⟨qR,by repeat(first|exact Drawn0.refl _|apply Drawn0.step)⟩
 ·rw[if_neg c4] at H
  have c4b0:=decide_eq_false c4
  clear c4
  obtain rfl:=qJ H
  go_enter Try.func85,Try.ntmps85
  go_wp2
  go_ret
  exact⟨qR,by repeat(first|exact Drawn0.refl _|apply Drawn0.step)⟩
def newelref18_Rest.f (k:Nat) (B:Int) (J:Int) (O:Int) (Y:Int) (Z:Int) (γ:Int) (δ :Int) (ε :Int) (θ :Int) (η :Int) (X:Int) (ζ :Int) (ι :Int) (ν :Int) (κ :Int) (ξ :Int) (ρ:Int):Option (Int):=if ι = 1 then (some ν) else (if ι = 2 then ((newelref17_Rest.f k B J O Y Z γ δ ε θ η 1 Y 0).bind fun a1=>(some (wrap64 (ν + a1)))) else ((newelref17_Rest.f k B J O Y Z γ δ ε θ η κ ξ ρ).bind fun a2=>(some a2)))
def newelref18_Rest.T4:Bool×List (List Nat×List Nat):=(true,[([],[]),([0],[0]),([],[]),([],[]),([3],[3]),([4],[4]),([5],[5]),([2,6],[2,6]),([1,7],[1,7]),([8,7,0,1,2,3,4,5,6,7,8],[8])])
def newelref18_Rest.B4:List Nat:=[0,1,0,0,8,24,56,124,255,511]
theorem newelref18_Rest.Vf:rtab .any (opsOf Try.f34 4)=newelref18_Rest.T4:=by kernel_rfl
theorem newelref18_Rest.Kf:Zq newelref18_Rest.T4.2 newelref18_Rest.B4=true:=by kernel_rfl
theorem newelref18_Rest.calls (k:Nat) (B:Int) (J:Int) (O:Int) (Y:Int) (Z:Int) (γ:Int) (δ :Int) (ε :Int) (θ :Int) (η :Int) (X:Int) (ζ :Int) (ι :Int) (ν :Int) (κ :Int) (ξ :Int) (ρ:Int) (r:Int) (w:World) (h:newelref18_Rest.f k B J O Y Z γ δ ε θ η X ζ ι ν κ ξ ρ=some r):
 Calls Try.prog 34 #[.agg #[nI B,nI J,nI O,nI Y,nI Z,nI γ,nI δ,nI ε,nI θ,nI η],.agg #[nI X,nI ζ,nI ι,nI ν,nI κ,nI ξ,nI ρ]] w fun e w'=>e = .returned (nI r)∧Below w.heap.size w w':=by
 have cj:=Try.underlying25
 have hl:=Try.underlying29
 have fi:=Try.underlying27
 have HB:=aK (Below.refl w.heap.size w)
 have H:(if ι = 1 then (some ν) else (if ι = 2 then ((newelref17_Rest.f k B J O Y Z γ δ ε θ η 1 Y 0).bind fun a1=>(some (wrap64 (ν + a1)))) else ((newelref17_Rest.f k B J O Y Z γ δ ε θ η κ ξ ρ).bind fun a2=>(some a2))))=some r:=h
 clear h
 by_cases c3: ι = 1
 ·rw[if_pos c3] at H
  have c3b0:(ι == 1)=true:=beq_iff_eq.mpr c3
  have c3b1:(ι != 1)=false:=bne_eq_false_iff_eq.mpr c3
  clear c3
  obtain rfl:=qJ H
  go_enter Try.func34,Try.ntmps34
  go_wp2_with (first|((with_reducible refine Qe (N:=2) rfl ?_);refine qE 2 #[nI B,nI J,nI O,nI Y,nI Z,nI γ,nI δ,nI ε,nI θ,nI η] 25 ?_;intro φ hg w4 hbox hb;have μ :=aK hbox;have a3:=sGe hg;have a5:=sGe hg;replace HB:=sHb hb;clear hb hbox hg)|((with_reducible refine Qe (N:=3) rfl ?_);refine qE 3 #[nI X,nI ζ,nI ι,nI ν,nI κ,nI ξ,nI ρ] 29 ?_;intro ω hg w5 hbox hb;have σ:=aK hbox;have a8:=sGe hg;have ab:=sGe hg;have χ :=sNl μ hg;have ψ :=sNg μ hg;replace μ :=sBk μ hb;replace HB:=sHb hb;clear hb hbox hg;have dd:= ψ.out;have dt:= χ.out;obtain⟨a0,av,ba,d7,d8,dn,dp,aw,ax,bb,dq,dr,dv,e6⟩:=qD7 σ.out))
  go_ret
  exact⟨rfl,HB.out⟩
 ·rw[if_neg c3] at H
  have c3b0:(ι == 1)=false:=beq_eq_false_iff_ne.mpr c3
  have c3b1:(ι != 1)=true:=bne_iff_ne.mpr c3
  by_cases c8: ι = 2
  ·rw[if_pos c8] at H
   have c8b0:(ι == 2)=true:=beq_iff_eq.mpr c8
   have c8b1:(ι != 2)=false:=bne_eq_false_iff_eq.mpr c8
   clear c8
   obtain⟨a1,A9,H⟩:=qQ H
   obtain rfl:=qJ H
   go_enter Try.func34,Try.ntmps34
   try go_wp2_with (first|((with_reducible refine Qe (N:=2) rfl ?_);refine qE 2 #[nI B,nI J,nI O,nI Y,nI Z,nI γ,nI δ,nI ε,nI θ,nI η] 25 ?_;intro φ hg fj hbox hb;have μ :=aK hbox;have a3:=sGe hg;have a5:=sGe hg;replace HB:=sHb hb;clear hb hbox hg)|((with_reducible refine Qe (N:=3) rfl ?_);refine qE 3 #[nI X,nI ζ,nI ι,nI ν,nI κ,nI ξ,nI ρ] 29 ?_;intro ω hg d1 hbox hb;have σ:=aK hbox;have a8:=sGe hg;have ab:=sGe hg;have χ :=sNl μ hg;have ψ :=sNg μ hg;replace μ :=sBk μ hb;replace HB:=sHb hb;clear hb hbox hg;have e0:= ψ.out;have e3:= χ.out;obtain⟨ao,bc,bk,du,ed,eh,ew,ap,be,bm,ey,ez,f7,f8⟩:=qD7 σ.out))
   replace μ :=aK (Qd μ.out)
   replace σ:=aK (Qd σ.out)
   replace HB:=aK (Qj HB.out)
   refine Zg (n:=10) (S:=fun w'=>cI w' ω 0 X∧cI w' ω 1 ζ ∧ cI w' ω 2 ι ∧ cI w' ω 3 ν ∧ cI w' ω 4 κ ∧ cI w' ω 5 ξ ∧ cI w' ω 6 ρ∧cI w' φ 0 B∧cI w' φ 1 J∧cI w' φ 2 O∧cI w' φ 3 Y∧cI w' φ 4 Z∧cI w' φ 5 γ∧cI w' φ 6 δ ∧ cI w' φ 7 ε ∧ cI w' φ 8 θ ∧ cI w' φ 9 η) (ds:=[]) #[false,false,false,false,false,false,false,false,false,false] kr rfl rfl ⟨(Qa σ.out 0).trans rfl,(Qa σ.out 1).trans rfl,(Qa σ.out 2).trans rfl,(Qa σ.out 3).trans rfl,(Qa σ.out 4).trans rfl,(Qa σ.out 5).trans rfl,(Qa σ.out 6).trans rfl,(Qa μ.out 0).trans rfl,(Qa μ.out 1).trans rfl,(Qa μ.out 2).trans rfl,(Qa μ.out 3).trans rfl,(Qa μ.out 4).trans rfl,(Qa μ.out 5).trans rfl,(Qa μ.out 6).trans rfl,(Qa μ.out 7).trans rfl,(Qa μ.out 8).trans rfl,(Qa μ.out 9).trans rfl⟩ (fun hHeld=>?_);refine Zb newelref18_Rest.Vf newelref18_Rest.Kf (fun HT_ HW_=>?_)
   generalize d1.drew=cb at μ σ HB hHeld ⊢
   refine qP 0 (some 13) (bN 10 1) HT_ ?_
   refine qP 3 (some 16) (bN 10 9) HT_ ?_
   refine qP 4 (some 17) (bN 10 25) HT_ ?_
   refine qT 1 (some 14) (bN 10 27) HT_ HW_ hHeld ?_
   refine qT 2 (some 15) (bN 10 31) HT_ HW_ hHeld ?_
   refine qT 5 (some 18) (bN 10 63) HT_ HW_ hHeld ?_
   refine qP 6 (some 19) (bN 10 127) HT_ ?_
   refine qK 7 (some 20) (bN 10 255) HT_ fun K hK=>?_
   refine Zd Try.func56 kr rfl #[.agg #[nI B,nI J,nI O,nI Y,nI Z,nI γ,nI δ,nI ε,nI θ,nI η],.agg #[nI 1,nI Y,nI 0]] (by rfl) rfl rfl qM ?_
   with_reducible refine(newelref17_Rest.calls k B J O Y Z γ δ ε θ η 1 Y 0 a1 _ A9.out).mono ?_
   rintro e fb ⟨rfl,hb⟩
   refine⟨_,rfl, ?_⟩
   replace μ :=sBk μ hb
   replace σ:=sBk σ hb
   replace HB:=sHb hb
   (try clear hb)
   (try clear a4)
   (try clear hk)
   (try clear hi)
   refine hK.out _ _ ⟨qc σ,qc σ,qc σ,qc σ,qc σ,qc σ,qc σ,qc μ,qc μ,qc μ,qc μ,qc μ,qc μ,qc μ,qc μ,qc μ,qc μ⟩ (fun hHeld=>?_)
   clear hK K
   refine qN (some 20) ?_
   refine qP 8 (some 21) (bN 10 511) HT_ ?_
   refine qP 9 (some 4) (bN 10 1023) HT_ ?_
   refine Zl (Ze HT_.out kr) ?_
   try go_wp2
   go_ret
   exact⟨rfl,HB.out⟩
  ·rw[if_neg c8] at H
   have c8b0:(ι == 2)=false:=beq_eq_false_iff_ne.mpr c8
   have c8b1:(ι != 2)=true:=bne_iff_ne.mpr c8
   obtain⟨a2,ae,H⟩:=qQ H
   obtain rfl:=qJ H
   go_enter Try.func34,Try.ntmps34
   go_wp2_with (first|((with_reducible refine Qe (N:=2) rfl ?_);refine qE 2 #[nI B,nI J,nI O,nI Y,nI Z,nI γ,nI δ,nI ε,nI θ,nI η] 25 ?_;intro φ hg cv hbox hb;have μ :=aK hbox;have a3:=sGe hg;have a5:=sGe hg;replace HB:=sHb hb;clear hb hbox hg)|((with_reducible refine Qe (N:=3) rfl ?_);refine qE 3 #[nI X,nI ζ,nI ι,nI ν,nI κ,nI ξ,nI ρ] 29 ?_;intro ω hg bf hbox hb;have σ:=aK hbox;have a8:=sGe hg;have ab:=sGe hg;have χ :=sNl μ hg;have ψ :=sNg μ hg;replace μ :=sBk μ hb;replace HB:=sHb hb;clear hb hbox hg;have ca:= ψ.out;have d9:= χ.out;obtain⟨a7,a9,τ,ac,al,b7,cg,aa,an,a6,dw,dx,dy,dz⟩:=qD7 σ.out;obtain⟨cq,cy,cz,dc,e4,e7,e8,fm,fn,fv,d2,db,e9,em,en,fk,fl,fx,fy,fz⟩:=Zi μ.out)|((with_reducible refine Qf (f:=56) rfl ?_);refine Q0 (some 25) rfl rfl Try.func56 kr rfl #[.agg #[nI B,nI J,nI O,nI Y,nI Z,nI γ,nI δ,nI ε,nI θ,nI η],.agg #[nI κ,nI ξ,nI ρ]] rfl qM ?_;(with_reducible refine(newelref17_Rest.calls k B J O Y Z γ δ ε θ η κ ξ ρ a2 _ ae.out).mono ?_);rintro e bj ⟨rfl,hb⟩;refine⟨_,rfl, ?_⟩;replace μ :=sBk μ hb;replace σ:=sBk σ hb;replace HB:=sHb hb;(try clear hb);(try clear a4);(try clear hk);(try clear hi)))
   go_ret
   exact⟨rfl,HB.out⟩
def newelref21_Lift.f (k:Nat) (B:Int) (J:Int) (O:Int) (Y:Int) (Z:Int) (γ:Int) (δ :Int) (ε :Int) (θ :Int) (η :Int) (X:Int) (ζ :Int) (ι :Int) (ν :Int) (κ :Int) (ξ :Int) (ρ:Int) (ψ :Int) (a2:Bool) (a8:Bool):Option (Bool):=(newelref17_Gear.f B J O Y Z γ δ ε θ η).bind fun a0=>(if a0=true then ((newelref18_May.f k B X ζ ι ν κ ξ ρ).bind fun a1=>(if a1=true then (if ψ ≥ (-1) then (some (decide (ψ ≤ 1))) else (some false)) else (some false))) else (some false))
theorem newelref21_Lift.calls (k:Nat) (B:Int) (J:Int) (O:Int) (Y:Int) (Z:Int) (γ:Int) (δ :Int) (ε :Int) (θ :Int) (η :Int) (X:Int) (ζ :Int) (ι :Int) (ν :Int) (κ :Int) (ξ :Int) (ρ:Int) (ψ :Int) (a2:Bool) (a8:Bool) (r:Bool) (w:World) (h:newelref21_Lift.f k B J O Y Z γ δ ε θ η X ζ ι ν κ ξ ρ ψ a2 a8=some r):
 Calls Try.prog 32 #[.agg #[nI B,nI J,nI O,nI Y,nI Z,nI γ,nI δ,nI ε,nI θ,nI η],.agg #[nI X,nI ζ,nI ι,nI ν,nI κ,nI ξ,nI ρ,nI ψ,.bool a2,.bool a8]] w fun e w'=>e = .returned (.bool r)∧Below w.heap.size w w':=by
 have cj:=Try.underlying25
 have gl:=Try.underlying31
 have hl:=Try.underlying29
 have HB:=aK (Below.refl w.heap.size w)
 have H:((newelref17_Gear.f B J O Y Z γ δ ε θ η).bind fun a0=>(if a0=true then ((newelref18_May.f k B X ζ ι ν κ ξ ρ).bind fun a1=>(if a1=true then (if ψ ≥ (-1) then (some (decide (ψ ≤ 1))) else (some false)) else (some false))) else (some false)))=some r:=h
 clear h
 obtain⟨a0,A3,H⟩:=qQ H
 by_cases c4:a0=true
 ·subst c4
  rw[if_pos rfl] at H
  obtain⟨a1,A5,H⟩:=qQ H
  by_cases c6:a1=true
  ·subst c6
   rw[if_pos rfl] at H
   by_cases c7: ψ ≥ (-1)
   ·rw[if_pos c7] at H
    have c7b0:decide ((-1) ≤ ψ)=true:=decide_eq_true c7
    clear c7
    obtain rfl:=qJ H
    go_enter Try.func32,Try.ntmps32
    go_wp2_with (first|((with_reducible refine Qe (N:=2) rfl ?_);refine qE 2 #[nI B,nI J,nI O,nI Y,nI Z,nI γ,nI δ,nI ε,nI θ,nI η] 25 ?_;intro a3 hg w8 hbox hb;have μ :=aK hbox;have a5:=sGe hg;have ab:=sGe hg;replace HB:=sHb hb;clear hb hbox hg)|((with_reducible refine Qe (N:=3) rfl ?_);refine qE 3 #[nI X,nI ζ,nI ι,nI ν,nI κ,nI ξ,nI ρ,nI ψ,.bool a2,.bool a8] 31 ?_;intro ae hg w9 hbox hb;have σ:=aK hbox;have af:=sGe hg;have ag:=sGe hg;have φ :=sNl μ hg;have χ :=sNg μ hg;replace μ :=sBk μ hb;replace HB:=sHb hb;clear hb hbox hg;have cx:= φ.out;have dj:= χ.out;obtain⟨ci,cp,bg,fk,fl,fm,fn,bs,av,aw,cq,cr,bh,gm,gn,gp,gq,bv,ax,ay⟩:=Zi μ.out)|((with_reducible refine Qf (f:=53) rfl ?_);refine Q0 (some 8) rfl rfl Try.func53 kr rfl #[.agg #[nI B,nI J,nI O,nI Y,nI Z,nI γ,nI δ,nI ε,nI θ,nI η]] rfl qM ?_;(with_reducible refine(newelref17_Gear.calls B J O Y Z γ δ ε θ η true _ A3.out).mono ?_);rintro e dn ⟨rfl,hb⟩;refine⟨_,rfl, ?_⟩;replace μ :=sBk μ hb;replace σ:=sBk σ hb;replace HB:=sHb hb;(try clear hb);(try clear a4);(try clear hk);(try clear hi);obtain⟨ao,bc,bk,du,ed,eh,ew,e4,df,e6,ap,be,bm,ey,ez,f7,f8,e5,e7,e8⟩:=Zi μ.out;obtain⟨cb,cd,db,ei,ej,ek,el,gu,i1,i2,ce,cf,dc,em,en,eo,ep,gv,i3,i4⟩:=Zi σ.out)|((with_reducible refine Qf (f:=54) rfl ?_);refine Q0 (some 15) rfl rfl Try.func54 kr rfl #[nI B,.agg #[nI X,nI ζ,nI ι,nI ν,nI κ,nI ξ,nI ρ]] rfl qM ?_;(with_reducible refine(newelref18_May.calls k B X ζ ι ν κ ξ ρ true _ A5.out).mono ?_);rintro e fb ⟨rfl,hb⟩;refine⟨_,rfl, ?_⟩;replace μ :=sBk μ hb;replace σ:=sBk σ hb;replace HB:=sHb hb;(try clear hb);(try clear a4);(try clear hk);(try clear hi);obtain⟨d3,d4,ω,bp,bu,bw,ee,fi,i5,i6,d5,d6,b9,ef,eg,er,et,fj,i7,i9⟩:=Zi σ.out))
    go_ret
    exact⟨rfl,HB.out⟩
   ·rw[if_neg c7] at H
    have c7b0:decide ((-1) ≤ ψ)=false:=decide_eq_false c7
    clear c7
    obtain rfl:=qJ H
    go_enter Try.func32,Try.ntmps32
    go_wp2_with (first|((with_reducible refine Qe (N:=2) rfl ?_);refine qE 2 #[nI B,nI J,nI O,nI Y,nI Z,nI γ,nI δ,nI ε,nI θ,nI η] 25 ?_;intro a3 hg cv hbox hb;have μ :=aK hbox;have a5:=sGe hg;have ab:=sGe hg;replace HB:=sHb hb;clear hb hbox hg)|((with_reducible refine Qe (N:=3) rfl ?_);refine qE 3 #[nI X,nI ζ,nI ι,nI ν,nI κ,nI ξ,nI ρ,nI ψ,.bool a2,.bool a8] 31 ?_;intro ae hg bf hbox hb;have σ:=aK hbox;have af:=sGe hg;have ag:=sGe hg;have φ :=sNl μ hg;have χ :=sNg μ hg;replace μ :=sBk μ hb;replace HB:=sHb hb;clear hb hbox hg;have ca:= φ.out;have d9:= χ.out;obtain⟨a7,a9,τ,ac,al,b7,cg,ia,ib,ic,aa,an,a6,dw,dx,dy,dz,ie,ig,ih⟩:=Zi μ.out)|((with_reducible refine Qf (f:=53) rfl ?_);refine Q0 (some 8) rfl rfl Try.func53 kr rfl #[.agg #[nI B,nI J,nI O,nI Y,nI Z,nI γ,nI δ,nI ε,nI θ,nI η]] rfl qM ?_;(with_reducible refine(newelref17_Gear.calls B J O Y Z γ δ ε θ η true _ A3.out).mono ?_);rintro e bo ⟨rfl,hb⟩;refine⟨_,rfl, ?_⟩;replace μ :=sBk μ hb;replace σ:=sBk σ hb;replace HB:=sHb hb;(try clear hb);(try clear a4);(try clear hk);(try clear hi);obtain⟨az,b0,d0,gw,gx,gy,gz,jc,jd,je,b1,b2,da,h0,h4,h5,h6,jf,jg,jh⟩:=Zi μ.out;obtain⟨ct,cy,dh,fa,ji,jj,jk,jl,jm,jn,cz,d2,di,jo,jp,jq,jr,js,jt,ju⟩:=Zi σ.out)|((with_reducible refine Qf (f:=54) rfl ?_);refine Q0 (some 15) rfl rfl Try.func54 kr rfl #[nI B,.agg #[nI X,nI ζ,nI ι,nI ν,nI κ,nI ξ,nI ρ]] rfl qM ?_;(with_reducible refine(newelref18_May.calls k B X ζ ι ν κ ξ ρ true _ A5.out).mono ?_);rintro e cm ⟨rfl,hb⟩;refine⟨_,rfl, ?_⟩;replace μ :=sBk μ hb;replace σ:=sBk σ hb;replace HB:=sHb hb;(try clear hb);(try clear a4);(try clear hk);(try clear hi);obtain⟨b8,bn,fw,gg,gh,gi,gj,b3,b5,ba,bq,br,fx,h9,ha,he,hh,b4,bb,cu⟩:=Zi σ.out))
    go_ret
    exact⟨rfl,HB.out⟩
  ·replace c6:=Bool.eq_false_iff.mpr c6
   subst c6
   rw[if_neg nft] at H
   obtain rfl:=qJ H
   go_enter Try.func32,Try.ntmps32
   go_wp2_with (first|((with_reducible refine Qe (N:=2) rfl ?_);refine qE 2 #[nI B,nI J,nI O,nI Y,nI Z,nI γ,nI δ,nI ε,nI θ,nI η] 25 ?_;intro a3 hg hu hbox hb;have μ :=aK hbox;have a5:=sGe hg;have ab:=sGe hg;replace HB:=sHb hb;clear hb hbox hg)|((with_reducible refine Qe (N:=3) rfl ?_);refine qE 3 #[nI X,nI ζ,nI ι,nI ν,nI κ,nI ξ,nI ρ,nI ψ,.bool a2,.bool a8] 31 ?_;intro ae hg dk hbox hb;have σ:=aK hbox;have af:=sGe hg;have ag:=sGe hg;have φ :=sNl μ hg;have χ :=sNg μ hg;replace μ :=sBk μ hb;replace HB:=sHb hb;clear hb hbox hg;have jw:= φ.out;have jx:= χ.out;obtain⟨fc,fe,ff,ah,ai,aj,ak,am,ar,au,fg,fh,jb,b6,bd,bi,bl,bz,ch,cw⟩:=Zi μ.out)|((with_reducible refine Qf (f:=53) rfl ?_);refine Q0 (some 8) rfl rfl Try.func53 kr rfl #[.agg #[nI B,nI J,nI O,nI Y,nI Z,nI γ,nI δ,nI ε,nI θ,nI η]] rfl qM ?_;(with_reducible refine(newelref17_Gear.calls B J O Y Z γ δ ε θ η true _ A3.out).mono ?_);rintro e eb ⟨rfl,hb⟩;refine⟨_,rfl, ?_⟩;replace μ :=sBk μ hb;replace σ:=sBk σ hb;replace HB:=sHb hb;(try clear hb);(try clear a4);(try clear hk);(try clear hi);obtain⟨bj,ck,dl,ii,ij,ik,j4,fp,fq,fr,cn,co,dm,j5,j6,j7,j8,ft,fu,ho⟩:=Zi μ.out;obtain⟨fy,fz,h7,it,iu,iv,iw,k1,k5,k6,ga,gb,h8,ix,iy,iz,j3,k7,k8,k9⟩:=Zi σ.out)|((with_reducible refine Qf (f:=54) rfl ?_);refine Q0 (some 15) rfl rfl Try.func54 kr rfl #[nI B,.agg #[nI X,nI ζ,nI ι,nI ν,nI κ,nI ξ,nI ρ]] rfl qM ?_;(with_reducible refine(newelref18_May.calls k B X ζ ι ν κ ξ ρ false _ A5.out).mono ?_);rintro e ka ⟨rfl,hb⟩;refine⟨_,rfl, ?_⟩;replace μ :=sBk μ hb;replace σ:=sBk σ hb;replace HB:=sHb hb;(try clear hb);(try clear a4);(try clear hk);(try clear hi)))
   go_ret
   exact⟨rfl,HB.out⟩
 ·replace c4:=Bool.eq_false_iff.mpr c4
  subst c4
  rw[if_neg nft] at H
  obtain rfl:=qJ H
  go_enter Try.func32,Try.ntmps32
  go_wp2_with (first|((with_reducible refine Qe (N:=2) rfl ?_);refine qE 2 #[nI B,nI J,nI O,nI Y,nI Z,nI γ,nI δ,nI ε,nI θ,nI η] 25 ?_;intro a3 hg k4 hbox hb;have μ :=aK hbox;have a5:=sGe hg;have ab:=sGe hg;replace HB:=sHb hb;clear hb hbox hg)|((with_reducible refine Qe (N:=3) rfl ?_);refine qE 3 #[nI X,nI ζ,nI ι,nI ν,nI κ,nI ξ,nI ρ,nI ψ,.bool a2,.bool a8] 31 ?_;intro ae hg jv hbox hb;have σ:=aK hbox;have af:=sGe hg;have ag:=sGe hg;have φ :=sNl μ hg;have χ :=sNg μ hg;replace μ :=sBk μ hb;replace HB:=sHb hb;clear hb hbox hg;have dv:= φ.out;have e9:= χ.out;obtain⟨gr,gs,ge,gk,j9,ja,jy,d1,d7,d8,gt,hj,gf,jz,k0,k2,k3,dd,de,dp⟩:=Zi μ.out)|((with_reducible refine Qf (f:=53) rfl ?_);refine Q0 (some 8) rfl rfl Try.func53 kr rfl #[.agg #[nI B,nI J,nI O,nI Y,nI Z,nI γ,nI δ,nI ε,nI θ,nI η]] rfl qM ?_;(with_reducible refine(newelref17_Gear.calls B J O Y Z γ δ ε θ η false _ A3.out).mono ?_);rintro e ea ⟨rfl,hb⟩;refine⟨_,rfl, ?_⟩;replace μ :=sBk μ hb;replace σ:=sBk σ hb;replace HB:=sHb hb;(try clear hb);(try clear a4);(try clear hk);(try clear hi)))
  go_ret
  exact⟨rfl,HB.out⟩
def group_dist.f (B:Int) (Z:Int):Option (Int):=some (mx (wrap64 (B-Z)) (wrap64 (Z-B)))
theorem group_dist.calls (B:Int) (Z:Int) (r:Int) (w:World) (h:group_dist.f B Z=some r):
 Calls Try.prog 76 #[nI B,nI Z] w fun e w'=>e = .returned (nI r)∧Below w.heap.size w w':=by
 have HB:=aK (Below.refl w.heap.size w)
 have H:(some (mx (wrap64 (B-Z)) (wrap64 (Z-B))))=some r:=h
 clear h
 obtain⟨O,J⟩:∃ j_:Int,(mx (wrap64 (B-Z)) (wrap64 (Z-B)))=j_:=⟨_,rfl⟩
 replace H:(some O)=some r:=by first|(rw[J] at H;exact H)|(simp only[J] at H ⊢;exact H)
 have X:(if (wrap64 (B-Z))<(wrap64 (Z-B)) then (wrap64 (Z-B)) else (wrap64 (B-Z)))=O:=J
 obtain rfl:=qJ H
 go_enter Try.func76,Try.ntmps76
 go_wp2
 go_ret
 exact⟨by first|rfl|(simp[Ql,Qk] <;> rfl)|(simp only[← J];first|rfl|(simp[Ql,Qk] <;> rfl))|(simp[*,Ql,Qk] <;> rfl),by repeat(first|(with_reducible first|exact HB.out|apply Qq|apply Qn|apply Qj)|exact HB.out)⟩
end Go.Proofs.Ytmfffemidlhcpaa.C
