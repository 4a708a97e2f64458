/- Texts of this claim, one behind the other: what the law's functions come to, walked (printed by a program, with the words that the print uses), and what that is, in plain Lean. No conditions of their own. -/
import Derived.Test.YtjehhhlhalkieaaQCallServes1
import Derived.Test.YtjehhhlhalkieaaProg
namespace Go.Proofs.YtjehhhlhalkieaaW.PrintWords
open Go.RowKit Go.Proofs.YtjehhhlhalkieaaW.PrintLast Go.Proofs.YtjehhhlhalkieaaW.PrintMore
def qB (n m:Nat):Array Bool:=((List.range n).map fun i=>m.testBit i).toArray
theorem qP {P:Program} {ops:Array Oper} {Q:Exit→Act→World→Prop} {md:Region.Mode} {S:World→Prop} {ds:List Nat} {oi:Oper} {v:Value} {fuel:Nat} {l:Array Bool} {a:Act} {w:World} {T:Bool×List (List Nat×List Nat)} (i:Nat) (N:Option Tmp) (l':Array Bool) (ht:Aside0 (rtab md ops=T)) {a':Act} (h:Zd P md ops Q S ds fuel l' a' w) (hi:ops[i]?=some oi:=by rfl) (hN:oi.dst=N:=by rfl) (hc:Nb T l.toList l'.toList i=true:=by kernel_rfl) (hQ:∀ c a w,Q (.panic c) (a.put oi.dst v) w→Q (.panic c) a w:=by exact(fun _ _ _ h=>h)) (hy:Yields P ops oi v a:=by(refine Or.inl ⟨by rfl, ?_⟩;intro w';go_simp;with_reducible rfl)) (ha:a.put N v=a':=by(simp only[Act.put,qS,Xm,Ya];rfl)):Zd P md ops Q S ds (fuel+1) l a w:=Nl l' hi hN (Ml ht.out hc) hQ hy ha h
theorem qU {P:Program} {ops:Array Oper} {Q:Exit→Act→World→Prop} {md:Region.Mode} {S:World→Prop} {ds:List Nat} {oi:Oper} {fuel:Nat} {l:Array Bool} {a:Act} {w:World} {T:Bool×List (List Nat×List Nat)} (i:Nat) (N:Option Tmp) (l':Array Bool) (ht:Aside0 (rtab md ops=T)) {a':Act} (h:Zd P md ops Q S ds fuel l' a' w) (hi:ops[i]?=some oi:=by rfl) (hN:oi.dst=N:=by rfl) (hc:Nb T l.toList l'.toList i=true:=by kernel_rfl) (hQ:∀ c a w,Q (.panic c) (a.put oi.dst undef) w→Q (.panic c) a w:=by exact(fun _ _ _ h=>h)) (hy:Yields P ops oi undef a:=by exact(Or.inr ⟨by rfl,rfl⟩)) (ha:a.put N undef=a':=by(simp only[Act.put,qS,Xm,Ya];rfl)):Zd P md ops Q S ds (fuel+1) l a w:=Nl l' hi hN (Ml ht.out hc) hQ hy ha h
theorem qT {P:Program} {ops:Array Oper} {Q:Exit→Act→World→Prop} {md:Region.Mode} {S:World→Prop} {ds:List Nat} {oi:Oper} {v:Value} {fuel:Nat} {l:Array Bool} {a:Act} {w:World} {T:Bool×List (List Nat×List Nat)} {B:List Nat} (i:Nat) (N:Option Tmp) (l':Array Bool) (ht:Aside0 (rtab md ops=T)) (hW:Aside0 (Zp T.snd B=true)) (hS:S w) {a':Act} (h:Zd P md ops Q S ds fuel l' a' w) (hi:ops[i]?=some oi:=by rfl) (hN:oi.dst=N:=by rfl) (hc:Lr T B ds l.toList l'.toList i=true:=by kernel_rfl) (hQ:∀ c a w,Q (.panic c) (a.put oi.dst v) w→Q (.panic c) a w:=by exact(fun _ _ _ h=>h)) (hy:YieldsIf P ops S oi v a:=by(refine Or.inl ⟨by rfl, ?_⟩;intro w' hs_;(repeat obtain⟨_,hs_⟩:=(hs_:_∧_));go_simp;with_reducible rfl)) (ha:a.put N v=a':=by(simp only[Act.put,qS,Xm,Ya];rfl)):Zd P md ops Q S ds (fuel+1) l a w:=Lq l' hi hN (Lp ht.out hW.out hc) hQ hy hS ha h
theorem qN {P:Program} {ops:Array Oper} {Q:Exit→Act→World→Prop} {md:Region.Mode} {S:World→Prop} {ds:List Nat} {v:Value} {fuel:Nat} {l:Array Bool} {a:Act} {w:World} (N:Option Tmp) {a':Act} (h:Zd P md ops Q S ds fuel l a' w) (ha:a.put N v=a':=by(simp only[Act.put,qS,Xm,Ya];rfl)):Zd P md ops Q S ds fuel l (a.put N v) w:=Xe ha h
theorem qc {w:World} {g i:Nat} {t:TypeId} {cs:Array Value} {v:Value} (b:Aside0 (w.heap[g]?=some (.cells cs t (0,0)))) (h:cs[i]?=some v:=by exact rfl):w.cell? ⟨g,i,none⟩=some v:=(Qi b.out i).trans h
theorem qM {p:Prop} (h:p:=by((try simp only[List.map_toArray,List.map_cons,List.map_nil]) <;> (first|done|rfl))):p:=h
theorem qE {P:Program} {ops:Array Oper} {Q:Exit→Act→World→Prop} {o:Oper} {rest:List Oper} {a:Act} {W:World} (N:Tmp) (cs:Array Value) (t:TypeId) (h:∀ g,g=W.heap.size → ∀ w1,w1.heap[g]?=some (.cells cs t (0,0))→Below W.heap.size W w1→wpList P ops Q rest (a.put o.dst (.pointer (some ⟨g,0,none⟩))) w1) (hd:o.dst=some N:=by rfl) (hg:o.guard=none:=by rfl) (hr:(execOp a.eval o).run P W = .ok (.value (.pointer (some ⟨W.heap.size,0,none⟩))) (W.alloc (.cells cs t (0,0))):=by(go_simp <;> rfl)):wpList P ops Q (o :: rest) a W:=Zb hg (N:=N) hd (cs:=cs) (t:=t) hr h
theorem qD2 {w:World} {g:Nat} {t:TypeId} {D J:Value} (b:w.heap[g]?=some (.cells #[D,J] t (0,0))):w.cell? ⟨g,0,none⟩=some D∧w.cell? ⟨g,1,none⟩=some J∧w.frozen? ⟨g,0,none⟩=false∧w.frozen? ⟨g,1,none⟩=false:=⟨(Qi b 0).trans rfl,(Qi b 1).trans rfl,Q6 b 0,Q6 b 1⟩
theorem qD3 {w:World} {g:Nat} {t:TypeId} {D J a2:Value} (b:w.heap[g]?=some (.cells #[D,J,a2] t (0,0))):w.cell? ⟨g,0,none⟩=some D∧w.cell? ⟨g,1,none⟩=some J∧w.cell? ⟨g,2,none⟩=some a2∧w.frozen? ⟨g,0,none⟩=false∧w.frozen? ⟨g,1,none⟩=false∧w.frozen? ⟨g,2,none⟩=false:=⟨(Qi b 0).trans rfl,(Qi b 1).trans rfl,(Qi b 2).trans rfl,Q6 b 0,Q6 b 1,Q6 b 2⟩
end Go.Proofs.YtjehhhlhalkieaaW.PrintWords
namespace Go.Proofs.Ytjehhhlhalkieaa.C
open Go.RowKit Go.Proofs.YtjehhhlhalkieaaW.PrintWords Go.Proofs.YtjehhhlhalkieaaW.PrintLast Go.Proofs.YtjehhhlhalkieaaW.PrintMore
attribute [local go_sem] Z3 Z1 Xb Xa Zt Zs Z2 Z0
set_option linter.unusedVariables false
set_option linter.unusedSimpArgs false
def Me:Option Int→Value
 |none=>.nilIface
 |some c=>.iface 0 (.int .i64 c)
theorem Qz:Me none = .nilIface:=rfl
theorem Qy (c:Int):Me (some c) = .iface 0 (.int .i64 c):=rfl
theorem Kb:(Try.prog.info? 3).map (fun i=>(i.zero,i.size,i.bytes))=some (some (.int .i64 0),1,8):=by kernel_rfl
theorem Y0:(Try.prog.info? 56).map (fun i=>(i.zero,i.size,i.bytes))=some (some (.agg #[(.int .i64 0),(.int .i64 0),(.int .i64 0)]),3,24):=by kernel_rfl
theorem Ji:(Try.prog.info? 62).map (fun i=>(i.zero,i.size,i.bytes))=some (some (.agg #[(.int .i64 0),(.int .i64 0)]),2,16):=by kernel_rfl
structure S56 where
 f0:Int
 f1:Int
 f2:Int
def z56:S56:=⟨(0:Int),(0:Int),(0:Int)⟩
def k56:Kd S56:=Kd.iso (Kd.pair (Kd.int .i64) (Kd.pair (Kd.int .i64) (Kd.int .i64))) (fun x:S56=>(x.f0,x.f1,x.f2))
theorem Kt {w:World} {x:S56} {cs:List Value} (h:k56.K w x cs):cs = [.int .i64 x.f0,.int .i64 x.f1,.int .i64 x.f2]:=by
 obtain⟨_,_,rfl,rfl,⟨_,_,rfl,rfl,rfl⟩⟩:=h
 exact rfl
theorem Y4 {w:World} {base:Nat} {ok:Nat→Prop} {x:S56} {cs:List Value} (h:k56.M w base ok x cs):cs = [.int .i64 x.f0,.int .i64 x.f1,.int .i64 x.f2]:=by
 obtain⟨_,_,rfl,rfl,⟨_,_,rfl,rfl,rfl⟩⟩:=h
 exact rfl
theorem L4 (w:World) (x:S56):k56.K w x [.int .i64 x.f0,.int .i64 x.f1,.int .i64 x.f2]:=⟨[.int .i64 x.f0],[.int .i64 x.f1,.int .i64 x.f2],rfl,rfl,⟨[.int .i64 x.f1],[.int .i64 x.f2],rfl,rfl,rfl⟩⟩
theorem Yu (w:World) (base:Nat) (ok:Nat→Prop) (x:S56):k56.M w base ok x [.int .i64 x.f0,.int .i64 x.f1,.int .i64 x.f2]:=⟨[.int .i64 x.f0],[.int .i64 x.f1,.int .i64 x.f2],rfl,rfl,⟨[.int .i64 x.f1],[.int .i64 x.f2],rfl,rfl,rfl⟩⟩
def Qg (xs:List S56) (i:Int):S56:=xs.getD i.toNat z56
theorem Zw {w:World} {A:Option Addr} {n:Nat} {xs:List S56} (h:Kd.C k56 w A n xs) (i:Int) (O:0≤i) (h1:i<n):∃ ad,A=some ad∧w.cell? (ad.add (i.toNat * 3))=some (.int .i64 (Qg xs i).f0)∧w.cell? ⟨(ad.add (i.toNat * 3)).block,(ad.add (i.toNat * 3)).off+1,none⟩=some (.int .i64 (Qg xs i).f1)∧w.cell? ⟨(ad.add (i.toNat * 3)).block,(ad.add (i.toNat * 3)).off+2,none⟩=some (.int .i64 (Qg xs i).f2):=by
 obtain⟨ad,c,e,_,hK,L⟩:=Kd.Wu h z56 i O h1
 have hc:∀ j u,c[j]?=some u→w.cell? (ad.add (i.toNat * 3+j))=some u:=L
 obtain rfl:=Kt hK
 exact⟨ad,e,hc 0 _ rfl,by rw[← Y5 _ _ 1 (by omega)];exact hc 1 _ rfl,by rw[← Y5 _ _ 2 (by omega)];exact hc 2 _ rfl⟩
structure S62 where
 f0:Int
 f1:Int
def z62:S62:=⟨(0:Int),(0:Int)⟩
def k62:Kd S62:=Kd.iso (Kd.pair (Kd.int .i64) (Kd.int .i64)) (fun x:S62=>(x.f0,x.f1))
theorem Ks {w:World} {x:S62} {cs:List Value} (h:k62.K w x cs):cs = [.int .i64 x.f0,.int .i64 x.f1]:=by
 obtain⟨_,_,rfl,rfl,rfl⟩:=h
 exact rfl
theorem J5 {w:World} {base:Nat} {ok:Nat→Prop} {x:S62} {cs:List Value} (h:k62.M w base ok x cs):cs = [.int .i64 x.f0,.int .i64 x.f1]:=by
 obtain⟨_,_,rfl,rfl,rfl⟩:=h
 exact rfl
theorem L3 (w:World) (x:S62):k62.K w x [.int .i64 x.f0,.int .i64 x.f1]:=⟨[.int .i64 x.f0],[.int .i64 x.f1],rfl,rfl,rfl⟩
theorem Jp (w:World) (base:Nat) (ok:Nat→Prop) (x:S62):k62.M w base ok x [.int .i64 x.f0,.int .i64 x.f1]:=⟨[.int .i64 x.f0],[.int .i64 x.f1],rfl,rfl,rfl⟩
def Qo (xs:List S62) (i:Int):S62:=xs.getD i.toNat z62
theorem Zu {w:World} {A:Option Addr} {n:Nat} {xs:List S62} (h:Kd.C k62 w A n xs) (i:Int) (O:0≤i) (h1:i<n):∃ ad,A=some ad∧w.cell? (ad.add (i.toNat * 2))=some (.int .i64 (Qo xs i).f0)∧w.cell? ⟨(ad.add (i.toNat * 2)).block,(ad.add (i.toNat * 2)).off+1,none⟩=some (.int .i64 (Qo xs i).f1):=by
 obtain⟨ad,c,e,_,hK,L⟩:=Kd.Wu h z62 i O h1
 have hc:∀ j u,c[j]?=some u→w.cell? (ad.add (i.toNat * 2+j))=some u:=L
 obtain rfl:=Ks hK
 exact⟨ad,e,hc 0 _ rfl,by rw[← Y5 _ _ 1 (by omega)];exact hc 1 _ rfl⟩
structure S23 where
 f0:Int
 f1:Int
def k23:Kd S23:=Kd.iso (Kd.pair (Kd.int .i64) (Kd.int .i64)) (fun x:S23=>(x.f0,x.f1))
theorem L8 {w:World} {x:S23} {cs:List Value} (h:k23.K w x cs):cs = [.int .i64 x.f0,.int .i64 x.f1]:=by
 obtain⟨_,_,rfl,rfl,rfl⟩:=h
 exact rfl
structure S27 where
 f0:(List S56)
 f1:(List S62)
def k27:Kd S27:=Kd.iso (Kd.pair (Kd.slice 56 k56) (Kd.slice 62 k62)) (fun x:S27=>(x.f0,x.f1))
theorem L6 {w:World} {x:S27} {cs:List Value} (h:k27.K w x cs):∃ Y c0 A1 c1,cs = [.slice Y x.f0.length c0,.slice A1 x.f1.length c1]∧x.f0.length≤c0∧k56.C w Y x.f0.length x.f0∧x.f1.length≤c1∧k62.C w A1 x.f1.length x.f1:=by
 obtain⟨_,_,rfl,⟨Y,c0,rfl,l0,B⟩,⟨A1,c1,rfl,l1,g1⟩⟩:=h
 exact⟨Y,c0,A1,c1,rfl,l0,B,l1,g1⟩
structure S43 where
 f0:Int
 f1:Int
 f2:Int
def k43:Kd S43:=Kd.iso (Kd.pair (Kd.int .i64) (Kd.pair (Kd.int .i64) (Kd.int .i64))) (fun x:S43=>(x.f0,x.f1,x.f2))
theorem L5 {w:World} {x:S43} {cs:List Value} (h:k43.K w x cs):cs = [.int .i64 x.f0,.int .i64 x.f1,.int .i64 x.f2]:=by
 obtain⟨_,_,rfl,rfl,⟨_,_,rfl,rfl,rfl⟩⟩:=h
 exact rfl
end Go.Proofs.Ytjehhhlhalkieaa.C
namespace Go.Proofs.Ytjehhhlhalkieaa.K
open Go.RowKit Go.Proofs.YtjehhhlhalkieaaW.PrintWords Go.Proofs.YtjehhhlhalkieaaW.PrintLast Go.Proofs.YtjehhhlhalkieaaW.PrintMore
attribute [local go_sem] Z3 Z1 Xb Xa Zt Zs Z2 Z0
set_option linter.unusedVariables false
set_option linter.unusedSimpArgs false
def Me:Option Int→Value
 |none=>.nilIface
 |some c=>.iface 0 (.int .i64 c)
theorem Qz:Me none = .nilIface:=rfl
theorem Qy (c:Int):Me (some c) = .iface 0 (.int .i64 c):=rfl
theorem Kb:(Try.prog.info? 3).map (fun i=>(i.zero,i.size,i.bytes))=some (some (.int .i64 0),1,8):=by kernel_rfl
structure S56 where
 f0:Int
 f1:Int
 f2:Int
def z56:S56:=⟨(0:Int),(0:Int),(0:Int)⟩
def k56:Kd S56:=Kd.iso (Kd.pair (Kd.int .i64) (Kd.pair (Kd.int .i64) (Kd.int .i64))) (fun x:S56=>(x.f0,x.f1,x.f2))
theorem Kt {w:World} {x:S56} {cs:List Value} (h:k56.K w x cs):cs = [.int .i64 x.f0,.int .i64 x.f1,.int .i64 x.f2]:=by
 obtain⟨_,_,rfl,rfl,⟨_,_,rfl,rfl,rfl⟩⟩:=h
 exact rfl
theorem Y4 {w:World} {base:Nat} {ok:Nat→Prop} {x:S56} {cs:List Value} (h:k56.M w base ok x cs):cs = [.int .i64 x.f0,.int .i64 x.f1,.int .i64 x.f2]:=by
 obtain⟨_,_,rfl,rfl,⟨_,_,rfl,rfl,rfl⟩⟩:=h
 exact rfl
theorem L4 (w:World) (x:S56):k56.K w x [.int .i64 x.f0,.int .i64 x.f1,.int .i64 x.f2]:=⟨[.int .i64 x.f0],[.int .i64 x.f1,.int .i64 x.f2],rfl,rfl,⟨[.int .i64 x.f1],[.int .i64 x.f2],rfl,rfl,rfl⟩⟩
theorem Yu (w:World) (base:Nat) (ok:Nat→Prop) (x:S56):k56.M w base ok x [.int .i64 x.f0,.int .i64 x.f1,.int .i64 x.f2]:=⟨[.int .i64 x.f0],[.int .i64 x.f1,.int .i64 x.f2],rfl,rfl,⟨[.int .i64 x.f1],[.int .i64 x.f2],rfl,rfl,rfl⟩⟩
def Qg (xs:List S56) (i:Int):S56:=xs.getD i.toNat z56
theorem Zw {w:World} {A:Option Addr} {n:Nat} {xs:List S56} (h:Kd.C k56 w A n xs) (i:Int) (O:0≤i) (h1:i<n):∃ ad,A=some ad∧w.cell? (ad.add (i.toNat * 3))=some (.int .i64 (Qg xs i).f0)∧w.cell? ⟨(ad.add (i.toNat * 3)).block,(ad.add (i.toNat * 3)).off+1,none⟩=some (.int .i64 (Qg xs i).f1)∧w.cell? ⟨(ad.add (i.toNat * 3)).block,(ad.add (i.toNat * 3)).off+2,none⟩=some (.int .i64 (Qg xs i).f2):=by
 obtain⟨ad,c,e,_,hK,L⟩:=Kd.Wu h z56 i O h1
 have hc:∀ j u,c[j]?=some u→w.cell? (ad.add (i.toNat * 3+j))=some u:=L
 obtain rfl:=Kt hK
 exact⟨ad,e,hc 0 _ rfl,by rw[← Y5 _ _ 1 (by omega)];exact hc 1 _ rfl,by rw[← Y5 _ _ 2 (by omega)];exact hc 2 _ rfl⟩
structure S62 where
 f0:Int
 f1:Int
def z62:S62:=⟨(0:Int),(0:Int)⟩
def k62:Kd S62:=Kd.iso (Kd.pair (Kd.int .i64) (Kd.int .i64)) (fun x:S62=>(x.f0,x.f1))
theorem Ks {w:World} {x:S62} {cs:List Value} (h:k62.K w x cs):cs = [.int .i64 x.f0,.int .i64 x.f1]:=by
 obtain⟨_,_,rfl,rfl,rfl⟩:=h
 exact rfl
theorem J5 {w:World} {base:Nat} {ok:Nat→Prop} {x:S62} {cs:List Value} (h:k62.M w base ok x cs):cs = [.int .i64 x.f0,.int .i64 x.f1]:=by
 obtain⟨_,_,rfl,rfl,rfl⟩:=h
 exact rfl
theorem L3 (w:World) (x:S62):k62.K w x [.int .i64 x.f0,.int .i64 x.f1]:=⟨[.int .i64 x.f0],[.int .i64 x.f1],rfl,rfl,rfl⟩
theorem Jp (w:World) (base:Nat) (ok:Nat→Prop) (x:S62):k62.M w base ok x [.int .i64 x.f0,.int .i64 x.f1]:=⟨[.int .i64 x.f0],[.int .i64 x.f1],rfl,rfl,rfl⟩
def Qo (xs:List S62) (i:Int):S62:=xs.getD i.toNat z62
theorem Zu {w:World} {A:Option Addr} {n:Nat} {xs:List S62} (h:Kd.C k62 w A n xs) (i:Int) (O:0≤i) (h1:i<n):∃ ad,A=some ad∧w.cell? (ad.add (i.toNat * 2))=some (.int .i64 (Qo xs i).f0)∧w.cell? ⟨(ad.add (i.toNat * 2)).block,(ad.add (i.toNat * 2)).off+1,none⟩=some (.int .i64 (Qo xs i).f1):=by
 obtain⟨ad,c,e,_,hK,L⟩:=Kd.Wu h z62 i O h1
 have hc:∀ j u,c[j]?=some u→w.cell? (ad.add (i.toNat * 2+j))=some u:=L
 obtain rfl:=Ks hK
 exact⟨ad,e,hc 0 _ rfl,by rw[← Y5 _ _ 1 (by omega)];exact hc 1 _ rfl⟩
def cmp_Or_int.l0:Nat→Int→List Int→Int→Int→Option (Int)
 |0,_,_,_,_=>none
 |k+1,B,J,U,O=>if O<U then (if 0≤O then (if O<(J.length:Int) then (if (rd J O)=B then (cmp_Or_int.l0 k B J U (wrap64 (O+1))) else (some (rd J O))) else (none)) else (none)) else (some B)
def cmp_Or_int.f (k:Nat) (l0:List Int):Option (Int):=cmp_Or_int.l0 k 0 l0 (l0.length:Int) 0
theorem cmp_Or_int.Zk:∀ k,(∀ J L O D,LeO (cmp_Or_int.l0 k J L O D) (cmp_Or_int.l0 (k+1) J L O D))
 |0=>fun _ _ _ _ r h=>by simp[cmp_Or_int.l0] at h
 |k+1=>by
  have B:=cmp_Or_int.Zk k
  ·intro J L O D
   unfold cmp_Or_int.l0
   repeat' first
   |(with_reducible exact B _ _ _ _)
   |(with_reducible exact LeO.refl _)
   |(with_reducible exact LeO.none _)
   |(with_reducible refine LeO.ite ?_ ?_)
   |(with_reducible refine LeO.bind ?_ (fun _=>?_))
   |exact B _ _ _ _
   |exact LeO.none _
   |refine LeO.ite ?_ ?_
   |refine LeO.bind ?_ (fun _=>?_)
theorem cmp_Or_int.mono:∀ D k,LeO (cmp_Or_int.f k D) (cmp_Or_int.f (k+1) D):=by
 intro D k
 have B:=cmp_Or_int.Zk k
 unfold cmp_Or_int.f
 repeat' first
   |(with_reducible exact B _ _ _ _)
   |(with_reducible exact LeO.refl _)
   |(with_reducible exact LeO.none _)
   |(with_reducible refine LeO.ite ?_ ?_)
   |(with_reducible refine LeO.bind ?_ (fun _=>?_))
   |exact B _ _ _ _
   |exact LeO.none _
   |refine LeO.ite ?_ ?_
   |refine LeO.bind ?_ (fun _=>?_)
set_option maxHeartbeats 8000000 in
set_option maxRecDepth 100000 in
theorem cmp_Or_int.calls (k:Nat) (Y:Option Addr) (c0:Nat) (l0:List Int) (r:Int) (w:World) (ε :Kd.C (Kd.int .i64) w Y l0.length l0) (L:l0.length≤c0) (h:cmp_Or_int.f k l0=some r):
  Calls Try.prog 52 #[.slice Y l0.length c0] w fun e w'=>e = .returned (.int .i64 r)∧Drawn0 w w':=by
 have θ :=Aside0.mk ε
 have a6:=Aside0.mk L
 clear ε L
 have H:(cmp_Or_int.l0 k 0 l0 (l0.length:Int) 0)=some r:=h
 clear h
 have H':=Aside0.mk H
 clear H
 go_enter Try.func52,Try.ntmps52
 go_wp2
 go_loopg [8] k (fun kq v8 w'=>∃ (B:Int),v8 = .int .i64 B∧Aside0 (cmp_Or_int.l0 kq 0 l0 (l0.length:Int) B=some r)∧Aside0 (kq≤k)∧Drawn0 w w')
 case atStart=>exact⟨(0),qR,H',⟨Nat.le_refl _⟩,by repeat(first|exact Drawn0.refl _|apply Drawn0.step)⟩
 case round=>
  clear H'
  obtain⟨B,rfl,HA,σ,⟨m1,rfl⟩⟩:=hrel
  cases gk with
  |zero=>exact absurd HA.out (by simp[cmp_Or_int.l0])
  |succ k1=>
   have H:=HA.out
   clear HA
   simp only[cmp_Or_int.l0] at H
   by_cases c2:B<(l0.length:Int)
   ·rw[if_pos c2] at H
    have c2b0:decide (B<(l0.length:Int))=true:=decide_eq_true c2
    clear c2
    by_cases c3:0≤B
    ·rw[if_pos c3] at H
     have c3b0:decide (0≤B)=true:=decide_eq_true c3
     clear c3
     by_cases c4:B<(l0.length:Int)
     ·rw[if_pos c4] at H
      have c4b0:decide (B<(l0.length:Int))=true:=decide_eq_true c4
      clear c4
      by_cases c5:(rd l0 B)=0
      ·rw[if_pos c5] at H
       have c5b0:((rd l0 B)==0)=true:=beq_iff_eq.mpr c5
       have c5b1:((rd l0 B) != 0)=false:=bne_eq_false_iff_eq.mpr c5
       clear c5
       have H':=Aside0.mk H
       clear H
       have D:0≤(B:Int):=of_decide_eq_true (by first|(with_reducible assumption)|assumption)
       have I:B<(l0.length:Int):=of_decide_eq_true (by first|(with_reducible assumption)|assumption)
       obtain⟨U,J,O⟩:=Kd.K9 θ.out B D I
       cases J
       replace D:=eq_true D
       replace I:=eq_true I
       go_wp2
       go_roundg k1
       case measure=>have:=σ.out;omega
       case rel=>exact⟨(wrap64 (B+1)),qR,H',⟨by have:=σ.out;omega⟩,by repeat(first|exact Drawn0.refl _|apply Drawn0.step)⟩
      ·rw[if_neg c5] at H
       have c5b0:((rd l0 B)==0)=false:=beq_eq_false_iff_ne.mpr c5
       have c5b1:((rd l0 B) != 0)=true:=bne_iff_ne.mpr c5
       obtain rfl:=Option.some.inj H
       have D:0≤(B:Int):=of_decide_eq_true (by first|(with_reducible assumption)|assumption)
       have I:B<(l0.length:Int):=of_decide_eq_true (by first|(with_reducible assumption)|assumption)
       obtain⟨U,J,O⟩:=Kd.K9 θ.out B D I
       cases J
       replace D:=eq_true D
       replace I:=eq_true I
       go_wp2
       go_ret
       exact⟨qR,by repeat(first|exact Drawn0.refl _|apply Drawn0.step)⟩
     ·rw[if_neg c4] at H
      exact absurd H (by simp)
    ·rw[if_neg c3] at H
     exact absurd H (by simp)
   ·rw[if_neg c2] at H
    have c2b0:decide (B<(l0.length:Int))=false:=decide_eq_false c2
    clear c2
    obtain rfl:=Option.some.inj H
    go_wp2
    go_ret
    exact⟨qR,by repeat(first|exact Drawn0.refl _|apply Drawn0.step)⟩
def cmp_isNaN_int.f (D:Int):Option (Bool):=some (D != D)
set_option maxHeartbeats 8000000 in
set_option maxRecDepth 100000 in
theorem cmp_isNaN_int.calls (D:Int) (r:Bool) (w:World) (h:cmp_isNaN_int.f D=some r):
  Calls Try.prog 66 #[.int .i64 D] w fun e w'=>e = .returned (.bool r)∧Drawn0 w w':=by
 have H:(some (D != D))=some r:=h
 clear h
 obtain rfl:=Option.some.inj H
 go_enter Try.func66,Try.ntmps66
 go_wp2
 go_ret
 exact⟨qR,by repeat(first|exact Drawn0.refl _|apply Drawn0.step)⟩
def cmp_Compare_int.f (D:Int) (J:Int):Option (Int):=(cmp_isNaN_int.f D).bind fun B=>((cmp_isNaN_int.f J).bind fun Z=>(if B=true then (if Z=true then (some 0) else (some (-1))) else (if Z=true then (some 1) else (if D<J then (some (-1)) else (if D>J then (some 1) else (some 0))))))
set_option maxHeartbeats 8000000 in
set_option maxRecDepth 100000 in
theorem cmp_Compare_int.calls (D:Int) (J:Int) (r:Int) (w:World) (h:cmp_Compare_int.f D J=some r):
  Calls Try.prog 53 #[.int .i64 D,.int .i64 J] w fun e w'=>e = .returned (.int .i64 r)∧Drawn0 w w':=by
 have H:((cmp_isNaN_int.f D).bind fun B=>((cmp_isNaN_int.f J).bind fun Z=>(if B=true then (if Z=true then (some 0) else (some (-1))) else (if Z=true then (some 1) else (if D<J then (some (-1)) else (if D>J then (some 1) else (some 0)))))))=some r:=h
 clear h
 replace H:=Option.bind_eq_some_iff.mp H
 obtain⟨B,ae,H⟩:=H
 replace H:((cmp_isNaN_int.f J).bind fun Z=>(if B=true then (if Z=true then (some 0) else (some (-1))) else (if Z=true then (some 1) else (if D<J then (some (-1)) else (if D>J then (some 1) else (some 0))))))=some r:=H
 have A3:=Aside0.mk ae
 clear ae
 replace H:=Option.bind_eq_some_iff.mp H
 obtain⟨Z,cy,H⟩:=H
 replace H:(if B=true then (if Z=true then (some 0) else (some (-1))) else (if Z=true then (some 1) else (if D<J then (some (-1)) else (if D>J then (some 1) else (some 0)))))=some r:=H
 have A4:=Aside0.mk cy
 clear cy
 by_cases c5:B=true
 ·subst c5
  have H1:(if Z=true then (some 0) else (some (-1)))=some r:=by rw[if_pos rfl] at H;exact H
  clear H
  have H:=H1
  clear H1
  by_cases c6:Z=true
  ·subst c6
   have H1:(some 0)=some r:=by rw[if_pos rfl] at H;exact H
   clear H
   have H:=H1
   clear H1
   obtain rfl:=Option.some.inj H
   go_enter Try.func53,Try.ntmps53
   go_wp2_with (first|((with_reducible refine Q0 (f:=66) rfl ?_);refine Zl (some 8) rfl rfl Try.func66 kr rfl #[.int .i64 D] rfl (by(try simp only[List.map_toArray,List.map_cons,List.map_nil]);first|done|rfl|(simp only[List.length_drop,List.length_take];rfl)) ?_;(with_reducible refine(cmp_isNaN_int.calls D true _ A3.out).mono ?_);rintro e w' ⟨rfl,⟨nd,rfl⟩⟩;refine⟨_,rfl, ?_⟩)|((with_reducible refine Q0 (f:=66) rfl ?_);refine Zl (some 10) rfl rfl Try.func66 kr rfl #[.int .i64 J] rfl (by(try simp only[List.map_toArray,List.map_cons,List.map_nil]);first|done|rfl|(simp only[List.length_drop,List.length_take];rfl)) ?_;(with_reducible refine(cmp_isNaN_int.calls J true _ A4.out).mono ?_);rintro e w' ⟨rfl,⟨nd,rfl⟩⟩;refine⟨_,rfl, ?_⟩))
   go_ret
   exact⟨qR,by repeat(first|exact Drawn0.refl _|apply Drawn0.step)⟩
  ·replace c6:=Bool.eq_false_iff.mpr c6
   subst c6
   have H1:(some (-1))=some r:=by rw[if_neg (show ¬ (false=true) by decide)] at H;exact H
   clear H
   have H:=H1
   clear H1
   obtain rfl:=Option.some.inj H
   go_enter Try.func53,Try.ntmps53
   go_wp2_with (first|((with_reducible refine Q0 (f:=66) rfl ?_);refine Zl (some 8) rfl rfl Try.func66 kr rfl #[.int .i64 D] rfl (by(try simp only[List.map_toArray,List.map_cons,List.map_nil]);first|done|rfl|(simp only[List.length_drop,List.length_take];rfl)) ?_;(with_reducible refine(cmp_isNaN_int.calls D true _ A3.out).mono ?_);rintro e w' ⟨rfl,⟨nd,rfl⟩⟩;refine⟨_,rfl, ?_⟩)|((with_reducible refine Q0 (f:=66) rfl ?_);refine Zl (some 10) rfl rfl Try.func66 kr rfl #[.int .i64 J] rfl (by(try simp only[List.map_toArray,List.map_cons,List.map_nil]);first|done|rfl|(simp only[List.length_drop,List.length_take];rfl)) ?_;(with_reducible refine(cmp_isNaN_int.calls J false _ A4.out).mono ?_);rintro e w' ⟨rfl,⟨nd,rfl⟩⟩;refine⟨_,rfl, ?_⟩))
   go_ret
   exact⟨qR,by repeat(first|exact Drawn0.refl _|apply Drawn0.step)⟩
 ·replace c5:=Bool.eq_false_iff.mpr c5
  subst c5
  have H1:(if Z=true then (some 1) else (if D<J then (some (-1)) else (if D>J then (some 1) else (some 0))))=some r:=by rw[if_neg (show ¬ (false=true) by decide)] at H;exact H
  clear H
  have H:=H1
  clear H1
  by_cases c7:Z=true
  ·subst c7
   have H1:(some 1)=some r:=by rw[if_pos rfl] at H;exact H
   clear H
   have H:=H1
   clear H1
   obtain rfl:=Option.some.inj H
   go_enter Try.func53,Try.ntmps53
   go_wp2_with (first|((with_reducible refine Q0 (f:=66) rfl ?_);refine Zl (some 8) rfl rfl Try.func66 kr rfl #[.int .i64 D] rfl (by(try simp only[List.map_toArray,List.map_cons,List.map_nil]);first|done|rfl|(simp only[List.length_drop,List.length_take];rfl)) ?_;(with_reducible refine(cmp_isNaN_int.calls D false _ A3.out).mono ?_);rintro e w' ⟨rfl,⟨nd,rfl⟩⟩;refine⟨_,rfl, ?_⟩)|((with_reducible refine Q0 (f:=66) rfl ?_);refine Zl (some 10) rfl rfl Try.func66 kr rfl #[.int .i64 J] rfl (by(try simp only[List.map_toArray,List.map_cons,List.map_nil]);first|done|rfl|(simp only[List.length_drop,List.length_take];rfl)) ?_;(with_reducible refine(cmp_isNaN_int.calls J true _ A4.out).mono ?_);rintro e w' ⟨rfl,⟨nd,rfl⟩⟩;refine⟨_,rfl, ?_⟩))
   go_ret
   exact⟨qR,by repeat(first|exact Drawn0.refl _|apply Drawn0.step)⟩
  ·replace c7:=Bool.eq_false_iff.mpr c7
   subst c7
   have H1:(if D<J then (some (-1)) else (if D>J then (some 1) else (some 0)))=some r:=by rw[if_neg (show ¬ (false=true) by decide)] at H;exact H
   clear H
   have H:=H1
   clear H1
   by_cases c8:D<J
   ·rw[if_pos c8] at H
    have c8b0:decide (D<J)=true:=decide_eq_true c8
    clear c8
    obtain rfl:=Option.some.inj H
    go_enter Try.func53,Try.ntmps53
    go_wp2_with (first|((with_reducible refine Q0 (f:=66) rfl ?_);refine Zl (some 8) rfl rfl Try.func66 kr rfl #[.int .i64 D] rfl (by(try simp only[List.map_toArray,List.map_cons,List.map_nil]);first|done|rfl|(simp only[List.length_drop,List.length_take];rfl)) ?_;(with_reducible refine(cmp_isNaN_int.calls D false _ A3.out).mono ?_);rintro e w' ⟨rfl,⟨nd,rfl⟩⟩;refine⟨_,rfl, ?_⟩)|((with_reducible refine Q0 (f:=66) rfl ?_);refine Zl (some 10) rfl rfl Try.func66 kr rfl #[.int .i64 J] rfl (by(try simp only[List.map_toArray,List.map_cons,List.map_nil]);first|done|rfl|(simp only[List.length_drop,List.length_take];rfl)) ?_;(with_reducible refine(cmp_isNaN_int.calls J false _ A4.out).mono ?_);rintro e w' ⟨rfl,⟨nd,rfl⟩⟩;refine⟨_,rfl, ?_⟩))
    go_ret
    exact⟨qR,by repeat(first|exact Drawn0.refl _|apply Drawn0.step)⟩
   ·rw[if_neg c8] at H
    have c8b0:decide (D<J)=false:=decide_eq_false c8
    clear c8
    by_cases c9:D>J
    ·rw[if_pos c9] at H
     have c9b0:decide (J<D)=true:=decide_eq_true c9
     clear c9
     obtain rfl:=Option.some.inj H
     go_enter Try.func53,Try.ntmps53
     go_wp2_with (first|((with_reducible refine Q0 (f:=66) rfl ?_);refine Zl (some 8) rfl rfl Try.func66 kr rfl #[.int .i64 D] rfl (by(try simp only[List.map_toArray,List.map_cons,List.map_nil]);first|done|rfl|(simp only[List.length_drop,List.length_take];rfl)) ?_;(with_reducible refine(cmp_isNaN_int.calls D false _ A3.out).mono ?_);rintro e w' ⟨rfl,⟨nd,rfl⟩⟩;refine⟨_,rfl, ?_⟩)|((with_reducible refine Q0 (f:=66) rfl ?_);refine Zl (some 10) rfl rfl Try.func66 kr rfl #[.int .i64 J] rfl (by(try simp only[List.map_toArray,List.map_cons,List.map_nil]);first|done|rfl|(simp only[List.length_drop,List.length_take];rfl)) ?_;(with_reducible refine(cmp_isNaN_int.calls J false _ A4.out).mono ?_);rintro e w' ⟨rfl,⟨nd,rfl⟩⟩;refine⟨_,rfl, ?_⟩))
     go_ret
     exact⟨qR,by repeat(first|exact Drawn0.refl _|apply Drawn0.step)⟩
    ·rw[if_neg c9] at H
     have c9b0:decide (J<D)=false:=decide_eq_false c9
     clear c9
     obtain rfl:=Option.some.inj H
     go_enter Try.func53,Try.ntmps53
     go_wp2_with (first|((with_reducible refine Q0 (f:=66) rfl ?_);refine Zl (some 8) rfl rfl Try.func66 kr rfl #[.int .i64 D] rfl (by(try simp only[List.map_toArray,List.map_cons,List.map_nil]);first|done|rfl|(simp only[List.length_drop,List.length_take];rfl)) ?_;(with_reducible refine(cmp_isNaN_int.calls D false _ A3.out).mono ?_);rintro e w' ⟨rfl,⟨nd,rfl⟩⟩;refine⟨_,rfl, ?_⟩)|((with_reducible refine Q0 (f:=66) rfl ?_);refine Zl (some 10) rfl rfl Try.func66 kr rfl #[.int .i64 J] rfl (by(try simp only[List.map_toArray,List.map_cons,List.map_nil]);first|done|rfl|(simp only[List.length_drop,List.length_take];rfl)) ?_;(with_reducible refine(cmp_isNaN_int.calls J false _ A4.out).mono ?_);rintro e w' ⟨rfl,⟨nd,rfl⟩⟩;refine⟨_,rfl, ?_⟩))
     go_ret
     exact⟨qR,by repeat(first|exact Drawn0.refl _|apply Drawn0.step)⟩
def call_halls_1.f (k:Nat) (D:Int) (I:Int) (B:Int) (J:Int) (O:Int) (X:Int):Option (Int):=(cmp_Compare_int.f D J).bind fun ρ=>((cmp_Compare_int.f I O).bind fun a0=>((cmp_Or_int.f k (([ρ,a0]:List Int))).bind fun a5=>(some a5)))
theorem call_halls_1.mono:∀ D J a2 X L a5 k,LeO (call_halls_1.f k D J a2 X L a5) (call_halls_1.f (k+1) D J a2 X L a5):=by
 intro D J a2 X L a5 k
 unfold call_halls_1.f
 repeat' first
   |(with_reducible exact cmp_Or_int.mono _ _)
   |(with_reducible exact LeO.refl _)
   |(with_reducible exact LeO.none _)
   |(with_reducible refine LeO.ite ?_ ?_)
   |(with_reducible refine LeO.bind ?_ (fun _=>?_))
   |exact cmp_Or_int.mono _ _
   |exact LeO.none _
   |refine LeO.ite ?_ ?_
   |refine LeO.bind ?_ (fun _=>?_)
def call_halls_1.T1:Bool×List (List Nat×List Nat):=(true,[([],[]),([0],[0]),([],[]),([2],[2]),([1,3],[1,3]),([],[]),([5],[5]),([],[]),([7],[7]),([6,8,4],[6,8]),([4,9],[4,9]),([10,9],[10]),([11,11,0,1,2,3,4,5,6,7,8,9,10,11],[11])])
def call_halls_1.B1:List Nat:=[0,1,0,4,15,0,32,0,128,511,1023,2047,4095]
theorem call_halls_1.Gk:rtab .any (opsOf Try.f51 1)=call_halls_1.T1:=by kernel_rfl
theorem call_halls_1.Ju:Zp call_halls_1.T1.2 call_halls_1.B1=true:=by kernel_rfl
set_option maxHeartbeats 8000000 in
set_option maxRecDepth 100000 in
theorem call_halls_1.calls (k:Nat) (D:Int) (I:Int) (B:Int) (J:Int) (O:Int) (X:Int) (r:Int) (w:World) (h:call_halls_1.f k D I B J O X=some r):
  Calls Try.prog 51 #[.agg #[.int .i64 D,.int .i64 I,.int .i64 B],.agg #[.int .i64 J,.int .i64 O,.int .i64 X]] w fun e w'=>e = .returned (.int .i64 r)∧Below w.heap.size w w':=by
 have b2:=Try.underlying56
 have HB:=Aside0.mk (Below.refl w.heap.size w)
 have H:((cmp_Compare_int.f D J).bind fun ρ=>((cmp_Compare_int.f I O).bind fun a0=>((cmp_Or_int.f k (([ρ,a0]:List Int))).bind fun a5=>(some a5))))=some r:=h
 clear h
 replace H:=Option.bind_eq_some_iff.mp H
 obtain⟨ρ,ae,H⟩:=H
 replace H:((cmp_Compare_int.f I O).bind fun a0=>((cmp_Or_int.f k (([ρ,a0]:List Int))).bind fun a5=>(some a5)))=some r:=H
 have A3:=Aside0.mk ae
 clear ae
 replace H:=Option.bind_eq_some_iff.mp H
 obtain⟨a0,cy,H⟩:=H
 replace H:((cmp_Or_int.f k (([ρ,a0]:List Int))).bind fun a5=>(some a5))=some r:=H
 have A4:=Aside0.mk cy
 clear cy
 obtain⟨ag,ζ⟩:∃ y_:List Int,y_=(([ρ,a0]:List Int)):=⟨_,rfl⟩
 replace H:((cmp_Or_int.f k ag).bind fun a5=>(some a5))=some r:=by first|(rw[ζ];with_reducible exact H)|(have τ :=(Option.bind_some _ _).symm.trans H;rw[ζ];with_reducible exact τ)|(have τ :=(Option.bind_some _ _).symm.trans H;with_reducible exact τ)|with_reducible exact H|(rw[ζ];exact H)|exact H
 have ar:=Aside0.mk ζ
 clear ζ
 replace H:=Option.bind_eq_some_iff.mp H
 obtain⟨a5,bv,H⟩:=H
 replace H:(some a5)=some r:=H
 have A5:=Aside0.mk bv
 clear bv
 obtain rfl:=Option.some.inj H
 go_enter Try.func51,Try.ntmps51
 try go_wp2_with (first|((with_reducible refine Qs (N:=2) rfl ?_);refine Zb ?hg (N:=2) ?hd (cs:=#[.int .i64 D,.int .i64 I,.int .i64 B]) (t:=56) ?hr ?_;(case hd=>rfl);(case hg=>rfl);(case hr=>first|(go_simp;done)|(go_simp;rfl));intro ac hg w6 hbox hb;have Z:=Aside0.mk (Qv (by repeat(first|(with_reducible first|exact HB.out|apply Qh|apply Qc|apply Qf)|exact HB.out)) hb);have ε :=Aside0.mk (hbox);have ι :=Aside0.mk ((by rw[hg];exact(Ql (by repeat(first|(with_reducible first|exact HB.out|apply Qh|apply Qc|apply Qf)|exact HB.out))):w.heap.size≤ac));have κ :=Aside0.mk ((by rw[hg];exact(Ql (by repeat(first|(with_reducible first|exact HB.out|apply Qh|apply Qc|apply Qf)|exact HB.out))):w.heap.size≤ac));clear HB;have HB:=Z;have θ := ε;have bh:= ι;have ah:= κ;clear Z ε ι κ;clear hb hbox hg)|((with_reducible refine Qs (N:=3) rfl ?_);refine Zb ?hg (N:=3) ?hd (cs:=#[.int .i64 J,.int .i64 O,.int .i64 X]) (t:=56) ?hr ?_;(case hd=>rfl);(case hg=>rfl);(case hr=>first|(go_simp;done)|(go_simp;rfl));intro σ hg w7 hbox hb;have Z:=Aside0.mk (Qn (g:=ac) (o:=.cells #[.int .i64 D,.int .i64 I,.int .i64 B] 56 (0,0)) (by(with_reducible repeat first|apply Qe|apply Qa|apply Qb);exact θ.out) hb);have ε :=Aside0.mk (Qv (by repeat(first|(with_reducible first|exact HB.out|apply Qh|apply Qc|apply Qf|refine Qd ?_ ah.out)|exact HB.out)) hb);have ι :=Aside0.mk (hbox);have κ :=Aside0.mk ((by rw[hg];exact(Ql (by repeat(first|(with_reducible first|exact HB.out|apply Qh|apply Qc|apply Qf|refine Qd ?_ ah.out)|exact HB.out))):w.heap.size≤σ));have χ :=Aside0.mk ((by rw[hg];exact(Ql (by repeat(first|(with_reducible first|exact HB.out|apply Qh|apply Qc|apply Qf|refine Qd ?_ ah.out)|exact HB.out))):w.heap.size≤σ));have ω :=Aside0.mk ((by rw[hg];exact Nat.ne_of_lt (Q5 (g:=ac) (o:=.cells #[.int .i64 D,.int .i64 I,.int .i64 B] 56 (0,0)) (by(with_reducible repeat first|apply Qe|apply Qa|apply Qb);exact θ.out)):ac≠σ));have a1:=Aside0.mk ((by rw[hg];exact Nat.ne_of_gt (Q5 (g:=ac) (o:=.cells #[.int .i64 D,.int .i64 I,.int .i64 B] 56 (0,0)) (by(with_reducible repeat first|apply Qe|apply Qa|apply Qb);exact θ.out)):σ≠ac));clear θ;clear HB;have θ :=Z;have HB:= ε;have μ := ι;have bi:= κ;have b6:= χ;have φ := ω;have aa:=a1;clear Z ε ι κ χ ω a1;clear hb hbox hg))
 have Z:=Aside0.mk (Qa θ.out)
 have ε :=Aside0.mk (Qa μ.out)
 have ι :=Aside0.mk (Qf HB.out)
 clear θ
 clear μ
 clear HB
 have θ :=Z
 have μ := ε
 have HB:= ι
 clear Z ε ι
 refine Zm (n:=13) (S:=fun w'=>w'.cell? ⟨ac,0,none⟩=some (.int .i64 D)∧w'.cell? ⟨ac,1,none⟩=some (.int .i64 I)∧w'.cell? ⟨ac,2,none⟩=some (.int .i64 B)∧w'.cell? ⟨σ,0,none⟩=some (.int .i64 J)∧w'.cell? ⟨σ,1,none⟩=some (.int .i64 O)∧w'.cell? ⟨σ,2,none⟩=some (.int .i64 X)) (ds:=[]) #[false,false,false,false,false,false,false,false,false,false,false,false,false] kr rfl rfl ⟨(Qi θ.out 0).trans rfl,(Qi θ.out 1).trans rfl,(Qi θ.out 2).trans rfl,(Qi μ.out 0).trans rfl,(Qi μ.out 1).trans rfl,(Qi μ.out 2).trans rfl⟩ (fun hHeld=>?_);refine Q7 call_halls_1.Gk call_halls_1.Ju (fun HT_ HW_=>?_)
 generalize w7.drew=w8 at θ μ HB hHeld ⊢
 refine qP 0 (some 5) (qB 13 1) HT_ ?_
 refine qP 2 (some 7) (qB 13 5) HT_ ?_
 refine qP 5 (some 10) (qB 13 37) HT_ ?_
 refine qP 7 (some 12) (qB 13 165) HT_ ?_
 refine qT 1 (some 6) (qB 13 167) HT_ HW_ hHeld ?_
 refine qT 3 (some 8) (qB 13 175) HT_ HW_ hHeld ?_
 refine qT 6 (some 11) (qB 13 239) HT_ HW_ hHeld ?_
 refine qT 8 (some 13) (qB 13 495) HT_ HW_ hHeld ?_
 refine Zi (i:=4) (N:=some 9) #[true,true,true,true,true,true,true,true,true,false,false,false,false] rfl rfl (Q2 HT_.out kr) (by decide) (fun K hK=>?_)
 refine Zh Try.func53 kr rfl #[.int .i64 D,.int .i64 J] (by rfl) rfl rfl (by(try simp only[List.map_toArray,List.map_cons,List.map_nil]);first|done|rfl|(simp only[List.length_drop,List.length_take];rfl)) ?_
 with_reducible refine(cmp_Compare_int.calls D J ρ _ A3.out).mono ?_
 rintro e w' ⟨rfl,⟨nd,rfl⟩⟩
 refine⟨_,rfl, ?_⟩
 refine hK.out _ _ ⟨qc θ,qc θ,qc θ,qc μ,qc μ,qc μ⟩ (fun hHeld=>?_)
 clear hK K
 refine qN (some 9) ?_
 refine Zi (i:=9) (N:=some 14) #[true,true,true,true,true,true,true,true,true,true,false,false,false] rfl rfl (Q2 HT_.out kr) (by decide) (fun K hK=>?_)
 refine Zh Try.func53 kr rfl #[.int .i64 I,.int .i64 O] (by rfl) rfl rfl (by(try simp only[List.map_toArray,List.map_cons,List.map_nil]);first|done|rfl|(simp only[List.length_drop,List.length_take];rfl)) ?_
 with_reducible refine(cmp_Compare_int.calls I O a0 _ A4.out).mono ?_
 rintro e w' ⟨rfl,⟨nd,rfl⟩⟩
 refine⟨_,rfl, ?_⟩
 refine hK.out _ _ ⟨qc θ,qc θ,qc θ,qc μ,qc μ,qc μ⟩ (fun hHeld=>?_)
 clear hK K
 refine qN (some 14) ?_
 refine Zi (i:=10) (N:=some 15) #[true,true,true,true,true,true,true,true,true,true,true,false,false] rfl rfl (Q2 HT_.out kr) (by decide) (fun K hK=>?_)
 refine Kd.Xi (Kd.int .i64) _ 3 ?hg (N:=15) ?hd (xs:=([ρ,a0]:List Int)) (inner:=[.int .i64 ρ,.int .i64 a0]) (ok:=fun _=>True) (okp:=fun _=>True) ?hr ?hp (fun _ hk=>hk) trivial (Below.refl _ _) (Nat.le_refl _) (by simp) ?_;(case hd=>rfl);(case hg=>rfl);(case hr=>first|(go_simp;done)|(go_simp;rfl));(case hp=>exact(Reps.one (show Kd.M (Kd.int .i64) _ _ _ ρ [.int .i64 ρ] from rfl) (Reps.one (show Kd.M (Kd.int .i64) _ _ _ a0 [.int .i64 a0] from rfl) (Reps.none _ _))))
 intro U w9 γ hb hg_ hnew_
 clear hg_ hnew_
 (first|rw[← ar.out] at γ|(simp only[Int.reduceToNat] at γ;rw[← ar.out] at γ))
 have Z:=Aside0.mk (Kd.Q1 γ (Ql (by repeat(first|(with_reducible first|exact HB.out|apply Qh|apply Qc|apply Qf|refine Qd ?_ ah.out|refine Qd ?_ b6.out)|exact HB.out))))
 have ε :=Aside0.mk (Qn (g:=ac) (o:=.cells #[.int .i64 D,.int .i64 I,.int .i64 B] 56 (0,0)) (by(with_reducible repeat first|apply Qe|apply Qa|apply Qb);exact θ.out) hb)
 have ι :=Aside0.mk (Qn (g:=σ) (o:=.cells #[.int .i64 J,.int .i64 O,.int .i64 X] 56 (0,0)) (by(with_reducible repeat first|apply Qe|apply Qa|apply Qb);exact μ.out) hb)
 have κ :=Aside0.mk (Qv (by repeat(first|(with_reducible first|exact HB.out|apply Qh|apply Qc|apply Qf|refine Qd ?_ ah.out|refine Qd ?_ b6.out)|exact HB.out)) hb)
 clear θ
 clear μ
 clear HB
 have L:=Z
 have θ := ε
 have μ := ι
 have HB:= κ
 clear Z ε ι κ
 clear hb γ
 obtain⟨ψ,a2,δ⟩:=Kd.Q3 L.out
 (first|subst δ |(injection δ with ν a7 ξ;have a8:= ν.symm;have a9:= ξ.symm;clear ν a7 ξ;subst a8;subst a9))
 refine hK.out _ _ ⟨qc θ,qc θ,qc θ,qc μ,qc μ,qc μ⟩ (fun hHeld=>?_)
 clear hK K
 refine qN (some 15) ?_
 refine Zi (i:=11) (N:=some 16) #[true,true,true,true,true,true,true,true,true,true,true,true,false] rfl rfl (Q2 HT_.out kr) (by decide) (fun K hK=>?_)
 refine Zh Try.func52 kr rfl #[.slice ψ ag.length a2] (by rfl) rfl rfl (by(try simp only[List.map_toArray,List.map_cons,List.map_nil]);first|done|rfl|(simp only[List.length_drop,List.length_take];rfl)) ?_
 with_reducible refine(cmp_Or_int.calls k _ _ ag a5 _ ?side1 ?side2 A5.out).mono ?_
 (case side1=>repeat(first|exact(Kd.Qp L.out).2.2|(with_reducible refine Kd.Q9 ?_ _)|(with_reducible refine Kd.Q8 ?_ _)|(with_reducible refine Kd.Zc ?_)))
 (case side2=>exact(Kd.Qp L.out).2.1)
 rintro e w' ⟨rfl,⟨nd,rfl⟩⟩
 refine⟨_,rfl, ?_⟩
 refine hK.out _ _ ⟨qc θ,qc θ,qc θ,qc μ,qc μ,qc μ⟩ (fun hHeld=>?_)
 clear hK K
 refine qN (some 16) ?_
 refine qP 12 (some 4) (qB 13 8191) HT_ ?_
 refine Zr (Ze HT_.out kr) ?_
 try go_wp2
 go_ret
 exact⟨by first|rfl|(simp[Qz,Qy] <;> rfl)|(simp[*,Qz,Qy] <;> rfl),by repeat(first|(with_reducible first|exact HB.out|apply Qh|apply Qc|apply Qf|refine Qd ?_ ah.out|refine Qd ?_ b6.out)|exact HB.out)⟩
def call_ins_1.f (k:Nat) (D:Int) (I:Int) (J:Int) (O:Int):Option (Int):=(cmp_Compare_int.f D J).bind fun B=>((cmp_Compare_int.f I O).bind fun X=>((cmp_Or_int.f k (([B,X]:List Int))).bind fun η =>(some η)))
theorem call_ins_1.mono:∀ D J a2 X k,LeO (call_ins_1.f k D J a2 X) (call_ins_1.f (k+1) D J a2 X):=by
 intro D J a2 X k
 unfold call_ins_1.f
 repeat' first
   |(with_reducible exact cmp_Or_int.mono _ _)
   |(with_reducible exact LeO.refl _)
   |(with_reducible exact LeO.none _)
   |(with_reducible refine LeO.ite ?_ ?_)
   |(with_reducible refine LeO.bind ?_ (fun _=>?_))
   |exact cmp_Or_int.mono _ _
   |exact LeO.none _
   |refine LeO.ite ?_ ?_
   |refine LeO.bind ?_ (fun _=>?_)
def call_ins_1.T1:Bool×List (List Nat×List Nat):=(true,[([],[]),([0],[0]),([],[]),([2],[2]),([1,3],[1,3]),([],[]),([5],[5]),([],[]),([7],[7]),([6,8,4],[6,8]),([4,9],[4,9]),([10,9],[10]),([11,11,0,1,2,3,4,5,6,7,8,9,10,11],[11])])
def call_ins_1.B1:List Nat:=[0,1,0,4,15,0,32,0,128,511,1023,2047,4095]
theorem call_ins_1.Gk:rtab .any (opsOf Try.f57 1)=call_ins_1.T1:=by kernel_rfl
theorem call_ins_1.Ju:Zp call_ins_1.T1.2 call_ins_1.B1=true:=by kernel_rfl
set_option maxHeartbeats 8000000 in
set_option maxRecDepth 100000 in
theorem call_ins_1.calls (k:Nat) (D:Int) (I:Int) (J:Int) (O:Int) (r:Int) (w:World) (h:call_ins_1.f k D I J O=some r):
  Calls Try.prog 57 #[.agg #[.int .i64 D,.int .i64 I],.agg #[.int .i64 J,.int .i64 O]] w fun e w'=>e = .returned (.int .i64 r)∧Below w.heap.size w w':=by
 have b9:=Try.underlying62
 have HB:=Aside0.mk (Below.refl w.heap.size w)
 have H:((cmp_Compare_int.f D J).bind fun B=>((cmp_Compare_int.f I O).bind fun X=>((cmp_Or_int.f k (([B,X]:List Int))).bind fun η =>(some η))))=some r:=h
 clear h
 replace H:=Option.bind_eq_some_iff.mp H
 obtain⟨B,ae,H⟩:=H
 replace H:((cmp_Compare_int.f I O).bind fun X=>((cmp_Or_int.f k (([B,X]:List Int))).bind fun η =>(some η)))=some r:=H
 have A3:=Aside0.mk ae
 clear ae
 replace H:=Option.bind_eq_some_iff.mp H
 obtain⟨X,cy,H⟩:=H
 replace H:((cmp_Or_int.f k (([B,X]:List Int))).bind fun η =>(some η))=some r:=H
 have A4:=Aside0.mk cy
 clear cy
 obtain⟨d8,av⟩:∃ y_:List Int,y_=(([B,X]:List Int)):=⟨_,rfl⟩
 replace H:((cmp_Or_int.f k d8).bind fun η =>(some η))=some r:=by first|(rw[av];with_reducible exact H)|(have τ :=(Option.bind_some _ _).symm.trans H;rw[av];with_reducible exact τ)|(have τ :=(Option.bind_some _ _).symm.trans H;with_reducible exact τ)|with_reducible exact H|(rw[av];exact H)|exact H
 have dm:=Aside0.mk av
 clear av
 replace H:=Option.bind_eq_some_iff.mp H
 obtain⟨η,bv,H⟩:=H
 replace H:(some η)=some r:=H
 have A5:=Aside0.mk bv
 clear bv
 obtain rfl:=Option.some.inj H
 go_enter Try.func57,Try.ntmps57
 try go_wp2_with (first|((with_reducible refine Qs (N:=2) rfl ?_);refine Zb ?hg (N:=2) ?hd (cs:=#[.int .i64 D,.int .i64 I]) (t:=62) ?hr ?_;(case hd=>rfl);(case hg=>rfl);(case hr=>first|(go_simp;done)|(go_simp;rfl));intro U hg w6 hbox hb;have Z:=Aside0.mk (Qv (by repeat(first|(with_reducible first|exact HB.out|apply Qh|apply Qc|apply Qf)|exact HB.out)) hb);have ε :=Aside0.mk (hbox);have ι :=Aside0.mk ((by rw[hg];exact(Ql (by repeat(first|(with_reducible first|exact HB.out|apply Qh|apply Qc|apply Qf)|exact HB.out))):w.heap.size≤U));have κ :=Aside0.mk ((by rw[hg];exact(Ql (by repeat(first|(with_reducible first|exact HB.out|apply Qh|apply Qc|apply Qf)|exact HB.out))):w.heap.size≤U));clear HB;have HB:=Z;have L:= ε;have al:= ι;have θ := κ;clear Z ε ι κ;clear hb hbox hg)|((with_reducible refine Qs (N:=3) rfl ?_);refine Zb ?hg (N:=3) ?hd (cs:=#[.int .i64 J,.int .i64 O]) (t:=62) ?hr ?_;(case hd=>rfl);(case hg=>rfl);(case hr=>first|(go_simp;done)|(go_simp;rfl));intro ah hg w7 hbox hb;have Z:=Aside0.mk (Qn (g:=U) (o:=.cells #[.int .i64 D,.int .i64 I] 62 (0,0)) (by(with_reducible repeat first|apply Qe|apply Qa|apply Qb);exact L.out) hb);have ε :=Aside0.mk (Qv (by repeat(first|(with_reducible first|exact HB.out|apply Qh|apply Qc|apply Qf|refine Qd ?_ θ.out)|exact HB.out)) hb);have ι :=Aside0.mk (hbox);have κ :=Aside0.mk ((by rw[hg];exact(Ql (by repeat(first|(with_reducible first|exact HB.out|apply Qh|apply Qc|apply Qf|refine Qd ?_ θ.out)|exact HB.out))):w.heap.size≤ah));have χ :=Aside0.mk ((by rw[hg];exact(Ql (by repeat(first|(with_reducible first|exact HB.out|apply Qh|apply Qc|apply Qf|refine Qd ?_ θ.out)|exact HB.out))):w.heap.size≤ah));have ω :=Aside0.mk ((by rw[hg];exact Nat.ne_of_lt (Q5 (g:=U) (o:=.cells #[.int .i64 D,.int .i64 I] 62 (0,0)) (by(with_reducible repeat first|apply Qe|apply Qa|apply Qb);exact L.out)):U≠ah));have a1:=Aside0.mk ((by rw[hg];exact Nat.ne_of_gt (Q5 (g:=U) (o:=.cells #[.int .i64 D,.int .i64 I] 62 (0,0)) (by(with_reducible repeat first|apply Qe|apply Qa|apply Qb);exact L.out)):ah≠U));clear L;clear HB;have L:=Z;have HB:= ε;have Y:= ι;have jw:= κ;have dp:= χ;have ζ := ω;have μ :=a1;clear Z ε ι κ χ ω a1;clear hb hbox hg))
 have Z:=Aside0.mk (Qa L.out)
 have ε :=Aside0.mk (Qa Y.out)
 have ι :=Aside0.mk (Qf HB.out)
 clear L
 clear Y
 clear HB
 have L:=Z
 have Y:= ε
 have HB:= ι
 clear Z ε ι
 refine Zm (n:=13) (S:=fun w'=>w'.cell? ⟨U,0,none⟩=some (.int .i64 D)∧w'.cell? ⟨U,1,none⟩=some (.int .i64 I)∧w'.cell? ⟨ah,0,none⟩=some (.int .i64 J)∧w'.cell? ⟨ah,1,none⟩=some (.int .i64 O)) (ds:=[]) #[false,false,false,false,false,false,false,false,false,false,false,false,false] kr rfl rfl ⟨(Qi L.out 0).trans rfl,(Qi L.out 1).trans rfl,(Qi Y.out 0).trans rfl,(Qi Y.out 1).trans rfl⟩ (fun hHeld=>?_);refine Q7 call_ins_1.Gk call_ins_1.Ju (fun HT_ HW_=>?_)
 generalize w7.drew=w8 at L Y HB hHeld ⊢
 refine qP 0 (some 5) (qB 13 1) HT_ ?_
 refine qP 2 (some 7) (qB 13 5) HT_ ?_
 refine qP 5 (some 10) (qB 13 37) HT_ ?_
 refine qP 7 (some 12) (qB 13 165) HT_ ?_
 refine qT 1 (some 6) (qB 13 167) HT_ HW_ hHeld ?_
 refine qT 3 (some 8) (qB 13 175) HT_ HW_ hHeld ?_
 refine qT 6 (some 11) (qB 13 239) HT_ HW_ hHeld ?_
 refine qT 8 (some 13) (qB 13 495) HT_ HW_ hHeld ?_
 refine Zi (i:=4) (N:=some 9) #[true,true,true,true,true,true,true,true,true,false,false,false,false] rfl rfl (Q2 HT_.out kr) (by decide) (fun K hK=>?_)
 refine Zh Try.func53 kr rfl #[.int .i64 D,.int .i64 J] (by rfl) rfl rfl (by(try simp only[List.map_toArray,List.map_cons,List.map_nil]);first|done|rfl|(simp only[List.length_drop,List.length_take];rfl)) ?_
 with_reducible refine(cmp_Compare_int.calls D J B _ A3.out).mono ?_
 rintro e w' ⟨rfl,⟨nd,rfl⟩⟩
 refine⟨_,rfl, ?_⟩
 refine hK.out _ _ ⟨qc L,qc L,qc Y,qc Y⟩ (fun hHeld=>?_)
 clear hK K
 refine qN (some 9) ?_
 refine Zi (i:=9) (N:=some 14) #[true,true,true,true,true,true,true,true,true,true,false,false,false] rfl rfl (Q2 HT_.out kr) (by decide) (fun K hK=>?_)
 refine Zh Try.func53 kr rfl #[.int .i64 I,.int .i64 O] (by rfl) rfl rfl (by(try simp only[List.map_toArray,List.map_cons,List.map_nil]);first|done|rfl|(simp only[List.length_drop,List.length_take];rfl)) ?_
 with_reducible refine(cmp_Compare_int.calls I O X _ A4.out).mono ?_
 rintro e w' ⟨rfl,⟨nd,rfl⟩⟩
 refine⟨_,rfl, ?_⟩
 refine hK.out _ _ ⟨qc L,qc L,qc Y,qc Y⟩ (fun hHeld=>?_)
 clear hK K
 refine qN (some 14) ?_
 refine Zi (i:=10) (N:=some 15) #[true,true,true,true,true,true,true,true,true,true,true,false,false] rfl rfl (Q2 HT_.out kr) (by decide) (fun K hK=>?_)
 refine Kd.Xi (Kd.int .i64) _ 3 ?hg (N:=15) ?hd (xs:=([B,X]:List Int)) (inner:=[.int .i64 B,.int .i64 X]) (ok:=fun _=>True) (okp:=fun _=>True) ?hr ?hp (fun _ hk=>hk) trivial (Below.refl _ _) (Nat.le_refl _) (by simp) ?_;(case hd=>rfl);(case hg=>rfl);(case hr=>first|(go_simp;done)|(go_simp;rfl));(case hp=>exact(Reps.one (show Kd.M (Kd.int .i64) _ _ _ B [.int .i64 B] from rfl) (Reps.one (show Kd.M (Kd.int .i64) _ _ _ X [.int .i64 X] from rfl) (Reps.none _ _))))
 intro lh w9 γ hb hg_ hnew_
 clear hg_ hnew_
 (first|rw[← dm.out] at γ|(simp only[Int.reduceToNat] at γ;rw[← dm.out] at γ))
 have Z:=Aside0.mk (Kd.Q1 γ (Ql (by repeat(first|(with_reducible first|exact HB.out|apply Qh|apply Qc|apply Qf|refine Qd ?_ θ.out|refine Qd ?_ dp.out)|exact HB.out))))
 have ε :=Aside0.mk (Qn (g:=U) (o:=.cells #[.int .i64 D,.int .i64 I] 62 (0,0)) (by(with_reducible repeat first|apply Qe|apply Qa|apply Qb);exact L.out) hb)
 have ι :=Aside0.mk (Qn (g:=ah) (o:=.cells #[.int .i64 J,.int .i64 O] 62 (0,0)) (by(with_reducible repeat first|apply Qe|apply Qa|apply Qb);exact Y.out) hb)
 have κ :=Aside0.mk (Qv (by repeat(first|(with_reducible first|exact HB.out|apply Qh|apply Qc|apply Qf|refine Qd ?_ θ.out|refine Qd ?_ dp.out)|exact HB.out)) hb)
 clear L
 clear Y
 clear HB
 have d1:=Z
 have L:= ε
 have Y:= ι
 have HB:= κ
 clear Z ε ι κ
 clear hb γ
 obtain⟨ψ,a2,δ⟩:=Kd.Q3 d1.out
 (first|subst δ |(injection δ with ν a7 ξ;have a8:= ν.symm;have a9:= ξ.symm;clear ν a7 ξ;subst a8;subst a9))
 refine hK.out _ _ ⟨qc L,qc L,qc Y,qc Y⟩ (fun hHeld=>?_)
 clear hK K
 refine qN (some 15) ?_
 refine Zi (i:=11) (N:=some 16) #[true,true,true,true,true,true,true,true,true,true,true,true,false] rfl rfl (Q2 HT_.out kr) (by decide) (fun K hK=>?_)
 refine Zh Try.func52 kr rfl #[.slice ψ d8.length a2] (by rfl) rfl rfl (by(try simp only[List.map_toArray,List.map_cons,List.map_nil]);first|done|rfl|(simp only[List.length_drop,List.length_take];rfl)) ?_
 with_reducible refine(cmp_Or_int.calls k _ _ d8 η _ ?side1 ?side2 A5.out).mono ?_
 (case side1=>repeat(first|exact(Kd.Qp d1.out).2.2|(with_reducible refine Kd.Q9 ?_ _)|(with_reducible refine Kd.Q8 ?_ _)|(with_reducible refine Kd.Zc ?_)))
 (case side2=>exact(Kd.Qp d1.out).2.1)
 rintro e w' ⟨rfl,⟨nd,rfl⟩⟩
 refine⟨_,rfl, ?_⟩
 refine hK.out _ _ ⟨qc L,qc L,qc Y,qc Y⟩ (fun hHeld=>?_)
 clear hK K
 refine qN (some 16) ?_
 refine qP 12 (some 4) (qB 13 8191) HT_ ?_
 refine Zr (Ze HT_.out kr) ?_
 try go_wp2
 go_ret
 exact⟨by first|rfl|(simp[Qz,Qy] <;> rfl)|(simp[*,Qz,Qy] <;> rfl),by repeat(first|(with_reducible first|exact HB.out|apply Qh|apply Qc|apply Qf|refine Qd ?_ θ.out|refine Qd ?_ dp.out)|exact HB.out)⟩
end Go.Proofs.Ytjehhhlhalkieaa.K
namespace Go.Proofs.Ytjehhhlhalkieaa.C
open Go.RowKit Go.Proofs.YtjehhhlhalkieaaW.PrintWords Go.Proofs.YtjehhhlhalkieaaW.PrintLast Go.Proofs.YtjehhhlhalkieaaW.PrintMore
attribute [local go_sem] Z3 Z1 Xb Xa Zt Zs Z2 Z0
set_option linter.unusedVariables false
set_option linter.unusedSimpArgs false
def call_within.f (D:Int) (J:Int) (a2:Int):Option (Bool):=if J≤D then (some (decide (D≤a2))) else (some false)
set_option maxHeartbeats 8000000 in
set_option maxRecDepth 100000 in
theorem call_within.calls (D:Int) (J:Int) (a2:Int) (r:Bool) (w:World) (h:call_within.f D J a2=some r):
  Calls Try.prog 41 #[.int .i64 D,.int .i64 J,.int .i64 a2] w fun e w'=>e = .returned (.bool r)∧Drawn0 w w':=by
 have H:(if J≤D then (some (decide (D≤a2))) else (some false))=some r:=h
 clear h
 by_cases c4:J≤D
 ·rw[if_pos c4] at H
  have c4b0:decide (J≤D)=true:=decide_eq_true c4
  clear c4
  obtain rfl:=Option.some.inj H
  go_enter Try.func41,Try.ntmps41
  go_wp2
  go_ret
  exact⟨qR,by repeat(first|exact Drawn0.refl _|apply Drawn0.step)⟩
 ·rw[if_neg c4] at H
  have c4b0:decide (J≤D)=false:=decide_eq_false c4
  clear c4
  obtain rfl:=Option.some.inj H
  go_enter Try.func41,Try.ntmps41
  go_wp2
  go_ret
  exact⟨qR,by repeat(first|exact Drawn0.refl _|apply Drawn0.step)⟩
end Go.Proofs.Ytjehhhlhalkieaa.C
namespace Go.Proofs.Ytjehhhlhalkieaa.C
open Go.RowKit Go.Proofs.YtjehhhlhalkieaaW.PrintWords Go.Proofs.YtjehhhlhalkieaaW.PrintLast Go.Proofs.YtjehhhlhalkieaaW.PrintMore
set_option linter.unusedVariables false
set_option linter.unusedSimpArgs false
section
variable {P : Program} {ops : Array Oper} {Q : Exit → Act → World → Prop}
theorem Xj {oi:Oper} {N:Option Tmp} {a:Act} {w:World} {K:Act→World→Prop} {f:FuncId} {fn:Func} {x:Operand} {xs:Array Operand} {ts:Array TypeId} (hf:P.funcs[f]?=some fn) (hname:(fn.name == "runtime.NumGoroutine")=false) (hb:fn.body.isSome=true) (first cap args all:Array Value) (hall:first ++ args++cap=all)
    (hw:Region.wanted oi (yielded ops a.tmps)=true) (hN:oi.dst=N) (hop:oi.op = .call {callee:=.value x,args:=xs,argTypes:=ts}) (hx:a.eval x = .func (.func f) first cap) (hargs:xs.map a.eval=args)
    (h:Calls P f all w fun e w'=>∃ v,e = .returned v∧K (a.put N v) w'):if Region.wanted oi (yielded ops a.tmps)=true then Oper.wp P oi a w K Q else K (a.put N undef) w:=by
  refine Nr f all hw hN ?_ h
  have he:=Vw hf hname hb all w
  unfold execOp
  simp[hop,hx,resolve,Deferred.ofValue,invoke,hargs,hall,he]
end
def tok (a b:Int):Int:=a * 18446744073709551616+(b+9223372036854775808)
def X8 (t:Int):Int:=t / 18446744073709551616
def X7 (t:Int):Int:=t % 18446744073709551616-9223372036854775808
theorem Jl (a b:Int) (h: -9223372036854775808≤b∧b≤9223372036854775807):X8 (tok a b)=a:=by unfold X8 tok;omega
theorem Jk (a b:Int) (h: -9223372036854775808≤b∧b≤9223372036854775807):X7 (tok a b)=b:=by unfold X7 tok;omega
theorem Zx {w W:World} {g:Nat} {t:TypeId} {cs:Array Value} (h:w.heap[g]?=some (.cells cs t (0,0))) (hb:Below w.heap.size w W):W.heap[g]?=some (.cells cs t (0,0)):=Qn h hb
def Vz (a b:Int):Int:=if a<b then -1 else if a>b then 1 else 0
def Z7 (D J B L:Int):Int:=if Vz D B≠0 then Vz D B else Vz J L
theorem cmp_eq (a b:Int):K.cmp_Compare_int.f a b=some (Vz a b):=by
  unfold K.cmp_Compare_int.f K.cmp_isNaN_int.f Vz
  simp only[Option.bind_some,bne_self_eq_false]
  rw[if_neg (by decide),if_neg (by decide)]
  split
  · rfl
  · split <;> rfl
theorem Nm (a b:Int):K.cmp_Or_int.f 5 [a,b]=some (if a≠0 then a else b):=by
  have w1:wrap64 (0+1)=1:=by unfold wrap64;omega
  have X:wrap64 (1+1)=2:=by unfold wrap64;omega
  have r0:rd [a,b] 0=a:=rfl
  have r1:rd [a,b] 1=b:=rfl
  have B:(([a,b]:List Int).length:Int)=2:=rfl
  unfold K.cmp_Or_int.f
  rw[B,K.cmp_Or_int.l0,if_pos (by decide),if_pos (by decide),B,if_pos (by decide),r0,w1]
  by_cases h:a=0
  · rw[if_pos h,if_neg (fun g=>g h),K.cmp_Or_int.l0,if_pos (by decide),if_pos (by decide),B,if_pos (by decide),r1,X]
    by_cases L:b=0
    · rw[if_pos L,K.cmp_Or_int.l0,if_neg (by decide),L]
    · rw[if_neg L]
  · rw[if_neg h,if_pos h]
def call_halls_1.f (D I B J O X:Int):Option Int:=some (Z7 D I J O)
def call_ins_1.f (D I J O:Int):Option Int:=some (Z7 D I J O)
theorem call_halls_1.calls (D I B J O X r:Int) (w:World) (h:call_halls_1.f D I B J O X=some r):
    Calls Try.prog 51 #[.agg #[.int .i64 D,.int .i64 I,.int .i64 B],.agg #[.int .i64 J,.int .i64 O,.int .i64 X]] w fun e w'=>e = .returned (.int .i64 r)∧Below w.heap.size w w':=by
  refine K.call_halls_1.calls 5 D I B J O X r w ?_
  unfold K.call_halls_1.f
  rw[cmp_eq,cmp_eq]
  simp only[Option.bind_some]
  rw[Nm]
  exact h
theorem call_ins_1.calls (D I J O r:Int) (w:World) (h:call_ins_1.f D I J O=some r):
    Calls Try.prog 57 #[.agg #[.int .i64 D,.int .i64 I],.agg #[.int .i64 J,.int .i64 O]] w fun e w'=>e = .returned (.int .i64 r)∧Below w.heap.size w w':=by
  refine K.call_ins_1.calls 5 D I J O r w ?_
  unfold K.call_ins_1.f
  rw[cmp_eq,cmp_eq]
  simp only[Option.bind_some]
  rw[Nm]
  exact h
def Xy (F C:Int) (I D U:Int):Bool:=decide ((D=1∨D = -1)∧(0≤I∧I≤wrap64 (F-1))∧(0≤wrap64 (I+D)∧wrap64 (I+D)≤wrap64 (F-1))∧(-1≤U∧U≤wrap64 (C-1)))
def X1 (F C:Int) (I D:Int):Bool:=decide ((0≤I∧I≤wrap64 (C-1))∧(0≤D∧D≤wrap64 (F-1)))
theorem Jj (a b c:Int) (r:Bool) (h:decide (b≤a∧a≤c)=r):call_within.f a b c=some r:=by
  unfold call_within.f
  subst h
  by_cases h1:b≤a
  · rw[if_pos h1];simp[h1]
  · rw[if_neg h1];simp[h1]
theorem Mc (F C I D U:Int):Xy F C I D U=((D==1||D == -1)&&(decide (0≤I∧I≤wrap64 (F-1))&&(decide (0≤wrap64 (I+D)∧wrap64 (I+D)≤wrap64 (F-1))&&decide (-1≤U∧U≤wrap64 (C-1))))):=by
  unfold Xy
  rw[Bool.eq_iff_iff]
  simp[and_assoc]
theorem M5 (F C I D:Int):X1 F C I D=(decide (0≤I∧I≤wrap64 (C-1))&&decide (0≤D∧D≤wrap64 (F-1))):=by
  unfold X1
  rw[Bool.eq_iff_iff]
  simp[and_assoc]
def call_hall_1.f (D I B J:Int):Option Bool:=some (Xy (X8 J) (X7 J) D I B)
def call_inside_1.f (D I J:Int):Option Bool:=some (X1 (X8 J) (X7 J) D I)
set_option maxRecDepth 100000 in
set_option maxHeartbeats 4000000 in
theorem Kf (F C I D U:Int) (r:Bool) (w:World) (h:Xy F C I D U=r) (g:Nat) (hg:w.heap[g]?=some (.cells #[.int .i64 F,.int .i64 C] 23 (0,0))):
    Calls Try.prog 61 #[.agg #[.int .i64 I,.int .i64 D,.int .i64 U],.pointer (some ⟨g,0,none⟩)] w fun e w'=>e = .returned (.bool r)∧Below w.heap.size w w':=by
  rw[Mc] at h
  have HG:=Aside0.mk hg
  have HB:=Aside0.mk (Below.refl w.heap.size w)
  clear hg
  have B:∃ b,decide (0≤I∧I≤wrap64 (F-1))=b:=⟨_,rfl⟩
  have J:∃ b,decide (0≤wrap64 (I+D)∧wrap64 (I+D)≤wrap64 (F-1))=b:=⟨_,rfl⟩
  have O:∃ b,decide (-1≤U∧U≤wrap64 (C-1))=b:=⟨_,rfl⟩
  have X:∃ b,(D==1)=b:=⟨_,rfl⟩
  have ε :∃ b,(D == -1)=b:=⟨_,rfl⟩
  obtain⟨L,B⟩:=B
  obtain⟨b2,J⟩:=J
  obtain⟨b3,O⟩:=O
  obtain⟨d1,X⟩:=X
  obtain⟨d2,ε⟩:= ε
  rw[B,J,O,X,ε] at h
  have Y:=Aside0.mk B
  have D2:=Aside0.mk J
  have D3:=Aside0.mk O
  clear B J O
  cases d1 <;> cases d2 <;> cases L <;> cases b2 <;> cases b3 <;> simp only[Bool.or_false,Bool.false_or,Bool.or_true,Bool.true_or,Bool.and_false,Bool.false_and,Bool.and_true,Bool.true_and] at h <;> subst h <;>
  · go_enter Try.func61,Try.ntmps61
    go_wp2_with (first|((with_reducible refine Qs (N:=2) rfl ?_);refine Zb ?hg (N:=2) ?hd (cs:=#[.int .i64 I,.int .i64 D,.int .i64 U]) (t:=56) ?hr ?_;(case hd=>rfl);(case hg=>rfl);(case hr=>first|(go_simp;done)|(go_simp;rfl));intro gb hgb w1 hbox hb;have Z:=Aside0.mk (Qv HB.out hb);clear HB;have HB:=Z;clear Z;have hk:=Zx HG.out HB.out;have γ:w1.cell? ⟨g,0,none⟩=some (.int .i64 F):=(Qi hk 0).trans rfl;have δ :w1.cell? ⟨g,1,none⟩=some (.int .i64 C):=(Qi hk 1).trans rfl;have ζ :w1.cell? ⟨gb,0,none⟩=some (.int .i64 I):=(Qi hbox 0).trans rfl;have η :w1.cell? ⟨gb,1,none⟩=some (.int .i64 D):=(Qi hbox 1).trans rfl;have θ :w1.cell? ⟨gb,2,none⟩=some (.int .i64 U):=(Qi hbox 2).trans rfl;clear hk hbox hb hgb)|(go_at_call 41;((with_reducible refine(call_within.calls I 0 (wrap64 (F-1)) _ _ (Jj _ _ _ _ Y.out)).mono ?_);rintro e w' ⟨rfl,⟨nd,rfl⟩⟩))|(go_at_call 41;((with_reducible refine(call_within.calls (wrap64 (I+D)) 0 (wrap64 (F-1)) _ _ (Jj _ _ _ _ D2.out)).mono ?_);rintro e w' ⟨rfl,⟨nd,rfl⟩⟩))|(go_at_call 41;((with_reducible refine(call_within.calls U (-1) (wrap64 (C-1)) _ _ (Jj _ _ _ _ D3.out)).mono ?_);rintro e w' ⟨rfl,⟨nd,rfl⟩⟩)))
    go_ret
    exact⟨rfl,by repeat(first|exact HB.out|apply Qc)⟩
set_option maxRecDepth 100000 in
set_option maxHeartbeats 4000000 in
theorem Y3 (F C I D:Int) (r:Bool) (w:World) (h:X1 F C I D=r) (g:Nat) (hg:w.heap[g]?=some (.cells #[.int .i64 F,.int .i64 C] 23 (0,0))):
    Calls Try.prog 50 #[.agg #[.int .i64 I,.int .i64 D],.pointer (some ⟨g,0,none⟩)] w fun e w'=>e = .returned (.bool r)∧Below w.heap.size w w':=by
  rw[M5] at h
  have HG:=Aside0.mk hg
  have HB:=Aside0.mk (Below.refl w.heap.size w)
  clear hg
  have B:∃ b,decide (0≤I∧I≤wrap64 (C-1))=b:=⟨_,rfl⟩
  have J:∃ b,decide (0≤D∧D≤wrap64 (F-1))=b:=⟨_,rfl⟩
  obtain⟨L,B⟩:=B
  obtain⟨b2,J⟩:=J
  rw[B,J] at h
  have Y:=Aside0.mk B
  have D2:=Aside0.mk J
  clear B J
  cases L <;> cases b2 <;> simp only[Bool.and_false,Bool.false_and,Bool.and_true,Bool.true_and] at h <;> subst h <;>
  · go_enter Try.func50,Try.ntmps50
    go_wp2_with (first|((with_reducible refine Qs (N:=2) rfl ?_);refine Zb ?hg (N:=2) ?hd (cs:=#[.int .i64 I,.int .i64 D]) (t:=62) ?hr ?_;(case hd=>rfl);(case hg=>rfl);(case hr=>first|(go_simp;done)|(go_simp;rfl));intro gb hgb w1 hbox hb;have Z:=Aside0.mk (Qv HB.out hb);clear HB;have HB:=Z;clear Z;have hk:=Zx HG.out HB.out;have γ:w1.cell? ⟨g,0,none⟩=some (.int .i64 F):=(Qi hk 0).trans rfl;have δ :w1.cell? ⟨g,1,none⟩=some (.int .i64 C):=(Qi hk 1).trans rfl;have ζ :w1.cell? ⟨gb,0,none⟩=some (.int .i64 I):=(Qi hbox 0).trans rfl;have η :w1.cell? ⟨gb,1,none⟩=some (.int .i64 D):=(Qi hbox 1).trans rfl;clear hk;clear hbox hb hgb)|(go_at_call 41;((with_reducible refine(call_within.calls I 0 (wrap64 (C-1)) _ _ (Jj _ _ _ _ Y.out)).mono ?_);rintro e w' ⟨rfl,⟨nd,rfl⟩⟩))|(go_at_call 41;((with_reducible refine(call_within.calls D 0 (wrap64 (F-1)) _ _ (Jj _ _ _ _ D2.out)).mono ?_);rintro e w' ⟨rfl,⟨nd,rfl⟩⟩)))
    go_ret
    exact⟨rfl,by repeat(first|exact HB.out|apply Qc)⟩
theorem call_hall_1.calls (D I B J:Int) (r:Bool) (w:World) (h:call_hall_1.f D I B J=some r) (g:Nat) (hg:w.heap[g]?=some (.cells #[.int .i64 (X8 J),.int .i64 (X7 J)] 23 (0,0))):
    Calls Try.prog 61 #[.agg #[.int .i64 D,.int .i64 I,.int .i64 B],.pointer (some ⟨g,0,none⟩)] w fun e w'=>e = .returned (.bool r)∧Below w.heap.size w w':=
  Kf _ _ _ _ _ _ _ (Option.some.inj h) g hg
theorem call_inside_1.calls (D I J:Int) (r:Bool) (w:World) (h:call_inside_1.f D I J=some r) (g:Nat) (hg:w.heap[g]?=some (.cells #[.int .i64 (X8 J),.int .i64 (X7 J)] 23 (0,0))):
    Calls Try.prog 50 #[.agg #[.int .i64 D,.int .i64 I],.pointer (some ⟨g,0,none⟩)] w fun e w'=>e = .returned (.bool r)∧Below w.heap.size w w':=
  Y3 _ _ _ _ _ _ (Option.some.inj h) g hg
def api_Hall_without_1.f (D I B J:Int):Option Bool:=some (Z7 (X8 J) (X7 J) D I==0)
set_option maxRecDepth 100000 in
set_option maxHeartbeats 4000000 in
theorem Ki (I D U J L O:Int) (r:Bool) (w:World) (h:(Z7 I D J L==0)=r) (A:Option Addr) (n c:Nat) (gr gx:Nat) (hr:w.heap[gr]?=some (.cells #[.slice A n c,.func (.func 51) #[] #[]] 69 (0,0))) (hx:w.heap[gx]?=some (.cells #[.int .i64 I,.int .i64 D,.int .i64 U] 56 (0,0))):
    Calls Try.prog 56 #[.agg #[.int .i64 J,.int .i64 L,.int .i64 O],.pointer (some ⟨gr,0,none⟩),.pointer (some ⟨gx,0,none⟩)] w fun e w'=>e = .returned (.bool r)∧Below w.heap.size w w':=by
  have HR:=Aside0.mk hr
  have HX:=Aside0.mk hx
  have HB:=Aside0.mk (Below.refl w.heap.size w)
  clear hr hx
  have hd:∃ z,Z7 I D J L=z:=⟨_,rfl⟩
  obtain⟨z,hd⟩:=hd
  rw[hd] at h
  have Y:=Aside0.mk (show call_halls_1.f I D U J L O=some z from congrArg some hd)
  clear hd
  cases r <;>
  · go_enter Try.func56,Try.ntmps56
    go_wp2_with (first|((with_reducible refine Qs (N:=3) rfl ?_);refine Zb ?hg (N:=3) ?hd (cs:=#[.int .i64 J,.int .i64 L,.int .i64 O]) (t:=56) ?hr ?_;(case hd=>rfl);(case hg=>rfl);(case hr=>first|(go_simp;done)|(go_simp;rfl));intro gb hgb w1 hbox hb;have Z:=Aside0.mk (Qv HB.out hb);clear HB;have HB:=Z;clear Z;have hk:=Zx HR.out HB.out;have hq:=Zx HX.out HB.out;have γ:w1.cell? ⟨gr,0,none⟩=some (.slice A n c):=(Qi hk 0).trans rfl;have δ :w1.cell? ⟨gr,1,none⟩=some (.func (.func 51) #[] #[]):=(Qi hk 1).trans rfl;have B:w1.cell? ⟨gx,0,none⟩=some (.int .i64 I):=(Qi hq 0).trans rfl;have ε :w1.cell? ⟨gx,1,none⟩=some (.int .i64 D):=(Qi hq 1).trans rfl;have ι :w1.cell? ⟨gx,2,none⟩=some (.int .i64 U):=(Qi hq 2).trans rfl;have ζ :w1.cell? ⟨gb,0,none⟩=some (.int .i64 J):=(Qi hbox 0).trans rfl;have η :w1.cell? ⟨gb,1,none⟩=some (.int .i64 L):=(Qi hbox 1).trans rfl;have θ :w1.cell? ⟨gb,2,none⟩=some (.int .i64 O):=(Qi hbox 2).trans rfl;clear hk hq;clear hbox hb hgb)|(go_at_call 51;((with_reducible refine(call_halls_1.calls I D U J L O z _ Y.out).mono ?_);rintro e X ⟨rfl,hb⟩;have Z:=Aside0.mk (Qv HB.out hb);clear HB;have HB:=Z;clear Z;clear hb)))
    go_ret
    exact⟨rfl,HB.out⟩
theorem api_Hall_without_1.calls (D I B J:Int) (r:Bool) (w:World) (h:api_Hall_without_1.f D I B J=some r) (A:Option Addr) (n c:Nat) (gr gx:Nat) (z:Int) (hr:w.heap[gr]?=some (.cells #[.slice A n c,.func (.func 51) #[] #[]] 69 (0,0))) (hx:w.heap[gx]?=some (.cells #[.int .i64 (X8 J),.int .i64 (X7 J),.int .i64 z] 56 (0,0))):
    Calls Try.prog 56 #[.agg #[.int .i64 D,.int .i64 I,.int .i64 B],.pointer (some ⟨gr,0,none⟩),.pointer (some ⟨gx,0,none⟩)] w fun e w'=>e = .returned (.bool r)∧Below w.heap.size w w':=
  Ki (X8 J) (X7 J) z D I B r w (Option.some.inj h) A n c gr gx hr hx
def api_Inside_without_1.f (D I J:Int):Option Bool:=some (Z7 (X8 J) (X7 J) D I==0)
set_option maxRecDepth 100000 in
set_option maxHeartbeats 4000000 in
theorem J7 (I D J L:Int) (r:Bool) (w:World) (h:(Z7 I D J L==0)=r) (A:Option Addr) (n c:Nat) (gr gx:Nat) (hr:w.heap[gr]?=some (.cells #[.slice A n c,.func (.func 57) #[] #[]] 74 (0,0))) (hx:w.heap[gx]?=some (.cells #[.int .i64 I,.int .i64 D] 62 (0,0))):
    Calls Try.prog 65 #[.agg #[.int .i64 J,.int .i64 L],.pointer (some ⟨gr,0,none⟩),.pointer (some ⟨gx,0,none⟩)] w fun e w'=>e = .returned (.bool r)∧Below w.heap.size w w':=by
  have HR:=Aside0.mk hr
  have HX:=Aside0.mk hx
  have HB:=Aside0.mk (Below.refl w.heap.size w)
  clear hr hx
  have hd:∃ z,Z7 I D J L=z:=⟨_,rfl⟩
  obtain⟨z,hd⟩:=hd
  rw[hd] at h
  have Y:=Aside0.mk (show call_ins_1.f I D J L=some z from congrArg some hd)
  clear hd
  cases r <;>
  · go_enter Try.func65,Try.ntmps65
    go_wp2_with (first|((with_reducible refine Qs (N:=3) rfl ?_);refine Zb ?hg (N:=3) ?hd (cs:=#[.int .i64 J,.int .i64 L]) (t:=62) ?hr ?_;(case hd=>rfl);(case hg=>rfl);(case hr=>first|(go_simp;done)|(go_simp;rfl));intro gb hgb w1 hbox hb;have Z:=Aside0.mk (Qv HB.out hb);clear HB;have HB:=Z;clear Z;have hk:=Zx HR.out HB.out;have hq:=Zx HX.out HB.out;have γ:w1.cell? ⟨gr,0,none⟩=some (.slice A n c):=(Qi hk 0).trans rfl;have δ :w1.cell? ⟨gr,1,none⟩=some (.func (.func 57) #[] #[]):=(Qi hk 1).trans rfl;have B:w1.cell? ⟨gx,0,none⟩=some (.int .i64 I):=(Qi hq 0).trans rfl;have ε :w1.cell? ⟨gx,1,none⟩=some (.int .i64 D):=(Qi hq 1).trans rfl;have ζ :w1.cell? ⟨gb,0,none⟩=some (.int .i64 J):=(Qi hbox 0).trans rfl;have η :w1.cell? ⟨gb,1,none⟩=some (.int .i64 L):=(Qi hbox 1).trans rfl;clear hk hq;clear hbox hb hgb)|(go_at_call 57;((with_reducible refine(call_ins_1.calls I D J L z _ Y.out).mono ?_);rintro e X ⟨rfl,hb⟩;have Z:=Aside0.mk (Qv HB.out hb);clear HB;have HB:=Z;clear Z;clear hb)))
    go_ret
    exact⟨rfl,HB.out⟩
theorem api_Inside_without_1.calls (D I J:Int) (r:Bool) (w:World) (h:api_Inside_without_1.f D I J=some r) (A:Option Addr) (n c:Nat) (gr gx:Nat) (z:Int) (hr:w.heap[gr]?=some (.cells #[.slice A n c,.func (.func 57) #[] #[]] 74 (0,0))) (hx:w.heap[gx]?=some (.cells #[.int .i64 (X8 J),.int .i64 (X7 J)] 62 (0,0))):
    Calls Try.prog 65 #[.agg #[.int .i64 D,.int .i64 I],.pointer (some ⟨gr,0,none⟩),.pointer (some ⟨gx,0,none⟩)] w fun e w'=>e = .returned (.bool r)∧Below w.heap.size w w':=
  J7 (X8 J) (X7 J) D I r w (Option.some.inj h) A n c gr gx hr hx
end Go.Proofs.Ytjehhhlhalkieaa.C
set_option linter.unusedVariables false
namespace Go.Proofs.Ytjehhhlhalkieaa.C
open Go.RowKit Go.Proofs.YtjehhhlhalkieaaW.PrintWords Go.Proofs.YtjehhhlhalkieaaW.PrintLast Go.Proofs.YtjehhhlhalkieaaW.PrintMore
theorem bel {B:Nat} {w W:World} (h:Below B w W:=by repeat(first|(with_reducible first|exact HB.out|apply Qh|apply Qc|apply Qf|refine Qd ?_ (Aside0.out (by assumption)))|exact HB.out|(refine Qd ?_ (Aside0.out (by assumption))))):Below B w W:=h
theorem bka {w W:World} {g:Nat} {o:Obj} (b:Aside0 (w.heap[g]?=some o)) (e:W.heap[g]?=some o:=by(with_reducible repeat(first|refine Qe ?_ _|refine Qa ?_|refine Qb ?_ _|refine Zn ?_ (Aside0.out (by assumption)) _));exact Aside0.out (by assumption)):W.heap[g]?=some o:=e
theorem kra {α:Type} {d:Kd α} {e0:TypeId} {w W:World} {base:Nat} {ok:Nat→Prop} {v:Value} {xs:List α} (b:Aside0 (d.R e0 w base ok v xs)) (e:d.R e0 W base ok v xs:=by(with_reducible repeat first|apply Kd.Qk|apply Kd.Qj|apply Kd.Qm);exact Aside0.out (by assumption)):d.R e0 W base ok v xs:=e
theorem sRb {α:Type} {d:Kd α} {e0:TypeId} {w w1 X:World} {base:Nat} {ok:Nat→Prop} {v:Value} {xs:List α} (b:Aside0 (d.R e0 w base ok v xs)) (h:Below w1.heap.size w1 X) (e:d.R e0 w1 base ok v xs:=by(with_reducible repeat first|apply Kd.Qk|apply Kd.Qj|apply Kd.Qm);exact Aside0.out (by assumption)):Aside0 (d.R e0 X base ok v xs):=⟨Kd.Qt e h⟩
theorem sBk {w w1 X:World} {g:Nat} {o:Obj} (b:Aside0 (w.heap[g]?=some o)) (h:Below w1.heap.size w1 X) (e:w1.heap[g]?=some o:=by(with_reducible repeat(first|refine Qe ?_ _|refine Qa ?_|refine Qb ?_ _|refine Zn ?_ (Aside0.out (by assumption)) _));exact Aside0.out (by assumption)):Aside0 (X.heap[g]?=some o):=⟨Qn e h⟩
theorem sHb {w W X:World} (h:Below W.heap.size W X) (b:Below w.heap.size w W:=by repeat(first|(with_reducible first|exact HB.out|apply Qh|apply Qc|apply Qf|refine Qd ?_ (Aside0.out (by assumption)))|exact HB.out|(refine Qd ?_ (Aside0.out (by assumption))))):Aside0 (Below w.heap.size w X):=⟨Qv b h⟩
theorem sGe {w W:World} {g:Nat} (h:g=W.heap.size) (b:Below w.heap.size w W:=by repeat(first|(with_reducible first|exact HB.out|apply Qh|apply Qc|apply Qf|refine Qd ?_ (Aside0.out (by assumption)))|exact HB.out|(refine Qd ?_ (Aside0.out (by assumption))))):Aside0 (w.heap.size≤g):=⟨by rw[h];exact Ql b⟩
theorem sNl {w W:World} {g k:Nat} {o:Obj} (b:Aside0 (w.heap[g]?=some o)) (h:k=W.heap.size) (e:W.heap[g]?=some o:=by(with_reducible repeat(first|refine Qe ?_ _|refine Qa ?_|refine Qb ?_ _|refine Zn ?_ (Aside0.out (by assumption)) _));exact Aside0.out (by assumption)):Aside0 (g≠k):=⟨by rw[h];exact Nat.ne_of_lt (Q5 e)⟩
theorem sNg {w W:World} {g k:Nat} {o:Obj} (b:Aside0 (w.heap[g]?=some o)) (h:k=W.heap.size) (e:W.heap[g]?=some o:=by(with_reducible repeat(first|refine Qe ?_ _|refine Qa ?_|refine Qb ?_ _|refine Zn ?_ (Aside0.out (by assumption)) _));exact Aside0.out (by assumption)):Aside0 (k≠g):=⟨by rw[h];exact Nat.ne_of_gt (Q5 e)⟩
def bN (n m:Nat):Array Bool:=((List.range n).map fun i=>m.testBit i).toArray
end Go.Proofs.Ytjehhhlhalkieaa.C
namespace Go.Proofs.Ytjehhhlhalkieaa.C
open Go.RowKit Go.Proofs.YtjehhhlhalkieaaW.PrintWords Go.Proofs.YtjehhhlhalkieaaW.PrintLast Go.Proofs.YtjehhhlhalkieaaW.PrintMore
attribute [local go_sem] Z3 Z1 Xb Xa Zt Zs Z2 Z0
set_option linter.unusedVariables false
set_option linter.unusedSimpArgs false
def api_Hall_67.l0:Nat→List (S56)→Int→Int→Int→Option (Int)
 |0,_,_,_,_=>none
 |k+1,I,D,U,O=>if O<U then (if 0≤O then (if O<(I.length:Int) then ((api_Hall_without_1.f ((Qg I O).f0) ((Qg I O).f1) ((Qg I O).f2) D).bind fun ao=>(if ao=true then (some O) else (api_Hall_67.l0 k I D U (wrap64 (O+1))))) else (none)) else (none)) else (some (-1))
def api_Hall_67.f (k:Nat) (l0:List (S56)) (J:Int):Option (Int):=api_Hall_67.l0 k l0 J (l0.length:Int) 0
theorem api_Hall_67.Zk:∀ k,(∀ J L O D,LeO (api_Hall_67.l0 k J L O D) (api_Hall_67.l0 (k+1) J L O D))
 |0=>fun _ _ _ _ r h=>by simp[api_Hall_67.l0] at h
 |k+1=>by
  have B:=api_Hall_67.Zk k
  ·intro J L O D
   unfold api_Hall_67.l0
   repeat' first
   |(with_reducible exact B _ _ _ _)
   |(with_reducible exact LeO.refl _)
   |(with_reducible exact LeO.none _)
   |(with_reducible refine LeO.ite ?_ ?_)
   |(with_reducible refine LeO.bind ?_ (fun _=>?_))
   |exact B _ _ _ _
   |exact LeO.none _
   |refine LeO.ite ?_ ?_
   |refine LeO.bind ?_ (fun _=>?_)
theorem api_Hall_67.mono:∀ D J k,LeO (api_Hall_67.f k D J) (api_Hall_67.f (k+1) D J):=by
 intro D J k
 have B:=api_Hall_67.Zk k
 unfold api_Hall_67.f
 repeat' first
   |(with_reducible exact B _ _ _ _)
   |(with_reducible exact LeO.refl _)
   |(with_reducible exact LeO.none _)
   |(with_reducible refine LeO.ite ?_ ?_)
   |(with_reducible refine LeO.bind ?_ (fun _=>?_))
   |exact B _ _ _ _
   |exact LeO.none _
   |refine LeO.ite ?_ ?_
   |refine LeO.bind ?_ (fun _=>?_)
set_option maxHeartbeats 8000000 in
set_option maxRecDepth 100000 in
theorem api_Hall_67.calls (k:Nat) (Y:Option Addr) (c0:Nat) (l0:List (S56)) (J:Int) (r:Int) (w:World) (ε :Kd.C k56 w Y l0.length l0) (L:l0.length≤c0) (h:api_Hall_67.f k l0 J=some r) (Ar_:Option Addr) (nr_ cr_ gr_ gx_:Nat) (zx_:Int) (hgr_:w.heap[gr_]?=some (.cells #[.slice Ar_ nr_ cr_,.func (.func 51) #[] #[]] 69 (0,0))) (hgx_:w.heap[gx_]?=some (.cells #[.int .i64 (X8 J),.int .i64 (X7 J),.int .i64 zx_] 56 (0,0))):
  Calls Try.prog 67 #[.slice Y l0.length c0,.func (.func 56) #[] #[.pointer (some ⟨gr_,0,none⟩),.pointer (some ⟨gx_,0,none⟩)]] w fun e w'=>e = .returned (.int .i64 r)∧Below w.heap.size w w':=by
 have HCR:=Aside0.mk hgr_
 have HCX:=Aside0.mk hgx_
 clear hgr_ hgx_
 have b2:=Try.underlying56
 have θ :=Aside0.mk ε
 have a6:=Aside0.mk L
 clear ε L
 have HB:=Aside0.mk (Below.refl w.heap.size w)
 have H:(api_Hall_67.l0 k l0 J (l0.length:Int) 0)=some r:=h
 clear h
 have H':=Aside0.mk H
 clear H
 go_enter Try.func67,Try.ntmps67
 go_wp2
 go_loopg [8] k (fun kq v8 w'=>∃ (B:Int),v8 = .int .i64 B∧Aside0 (api_Hall_67.l0 kq l0 J (l0.length:Int) B=some r)∧Aside0 (kq≤k)∧Aside0 (Below w.heap.size w w'))
 case atStart=>exact⟨(0),rfl,H',⟨Nat.le_refl _⟩,HB⟩
 case round=>
  clear H'
  try clear p2
  obtain⟨B,rfl,HA,σ,HB⟩:=hrel
  cases gk with
  |zero=>exact absurd HA.out (by simp[api_Hall_67.l0])
  |succ k1=>
   have H:=HA.out
   clear HA
   simp only[api_Hall_67.l0] at H
   by_cases c3:B<(l0.length:Int)
   ·rw[if_pos c3] at H
    have c3b0:decide (B<(l0.length:Int))=true:=decide_eq_true c3
    clear c3
    by_cases c4:0≤B
    ·rw[if_pos c4] at H
     have c4b0:decide (0≤B)=true:=decide_eq_true c4
     clear c4
     by_cases c5:B<(l0.length:Int)
     ·rw[if_pos c5] at H
      have c5b0:decide (B<(l0.length:Int))=true:=decide_eq_true c5
      clear c5
      replace H:=Option.bind_eq_some_iff.mp H
      obtain⟨ao,ei,H⟩:=H
      replace H:(if ao=true then (some B) else (api_Hall_67.l0 k1 l0 J (l0.length:Int) (wrap64 (B+1))))=some r:=H
      have A6:=Aside0.mk ei
      clear ei
      by_cases c7:ao=true
      ·subst c7
       have H1:(some B)=some r:=by rw[if_pos rfl] at H;exact H
       clear H
       have H:=H1
       clear H1
       obtain rfl:=Option.some.inj H
       have U:0≤(B:Int):=of_decide_eq_true (by assumption)
       have X:B<(l0.length:Int):=of_decide_eq_true (by assumption)
       obtain⟨δ,γ,D,I,O⟩:=Zw θ.out B U X
       cases γ
       replace D:=(HB.out.cell (World.block_lt_of_cell? w _ D)).trans D
       replace I:=(HB.out.cell (World.block_lt_of_cell? w _ I)).trans I
       replace O:=(HB.out.cell (World.block_lt_of_cell? w _ O)).trans O
       replace U:=eq_true U
       replace X:=eq_true X
       go_wp2_with (first|(go_at_call 56;((with_reducible refine(api_Hall_without_1.calls ((Qg l0 B).f0) ((Qg l0 B).f1) ((Qg l0 B).f2) J true _ A6.out Ar_ nr_ cr_ gr_ gx_ zx_ (Zx HCR.out (by repeat(first|(with_reducible first|exact HB.out|apply Qh|apply Qc|apply Qf)|exact HB.out|(refine Qd ?_ (Aside0.out (by assumption)))))) (Zx HCX.out (by repeat(first|(with_reducible first|exact HB.out|apply Qh|apply Qc|apply Qf)|exact HB.out|(refine Qd ?_ (Aside0.out (by assumption))))))).mono ?_);rintro e w8 ⟨rfl,hb⟩;have Z:=Aside0.mk (Qv HB.out hb);clear HB;have HB:=Z;clear Z;(try clear hb);(try clear a4);(try clear hk);(try clear hi))))
       go_ret
       exact⟨rfl,HB.out⟩
      ·replace c7:=Bool.eq_false_iff.mpr c7
       subst c7
       have H1:(api_Hall_67.l0 k1 l0 J (l0.length:Int) (wrap64 (B+1)))=some r:=by rw[if_neg (show ¬ (false=true) by decide)] at H;exact H
       clear H
       have H:=H1
       clear H1
       have H':=Aside0.mk H
       clear H
       have U:0≤(B:Int):=of_decide_eq_true (by assumption)
       have X:B<(l0.length:Int):=of_decide_eq_true (by assumption)
       obtain⟨δ,γ,D,I,O⟩:=Zw θ.out B U X
       cases γ
       replace D:=(HB.out.cell (World.block_lt_of_cell? w _ D)).trans D
       replace I:=(HB.out.cell (World.block_lt_of_cell? w _ I)).trans I
       replace O:=(HB.out.cell (World.block_lt_of_cell? w _ O)).trans O
       replace U:=eq_true U
       replace X:=eq_true X
       go_wp2_with (first|(go_at_call 56;((with_reducible refine(api_Hall_without_1.calls ((Qg l0 B).f0) ((Qg l0 B).f1) ((Qg l0 B).f2) J false _ A6.out Ar_ nr_ cr_ gr_ gx_ zx_ (Zx HCR.out (by repeat(first|(with_reducible first|exact HB.out|apply Qh|apply Qc|apply Qf)|exact HB.out|(refine Qd ?_ (Aside0.out (by assumption)))))) (Zx HCX.out (by repeat(first|(with_reducible first|exact HB.out|apply Qh|apply Qc|apply Qf)|exact HB.out|(refine Qd ?_ (Aside0.out (by assumption))))))).mono ?_);rintro e w9 ⟨rfl,hb⟩;have Z:=Aside0.mk (Qv HB.out hb);clear HB;have HB:=Z;clear Z;(try clear hb);(try clear a4);(try clear hk);(try clear hi))))
       go_roundg k1
       case measure=>have:=σ.out;omega
       case rel=>exact⟨(wrap64 (B+1)),rfl,H',⟨by have:=σ.out;omega⟩,HB⟩
     ·rw[if_neg c5] at H
      exact absurd H (by simp)
    ·rw[if_neg c4] at H
     exact absurd H (by simp)
   ·rw[if_neg c3] at H
    have c3b0:decide (B<(l0.length:Int))=false:=decide_eq_false c3
    clear c3
    obtain rfl:=Option.some.inj H
    go_wp2
    go_ret
    exact⟨rfl,HB.out⟩
def api_Inside_72.l0:Nat→List (S62)→Int→Int→Int→Option (Int)
 |0,_,_,_,_=>none
 |k+1,I,D,U,O=>if O<U then (if 0≤O then (if O<(I.length:Int) then ((api_Inside_without_1.f ((Qo I O).f0) ((Qo I O).f1) D).bind fun X=>(if X=true then (some O) else (api_Inside_72.l0 k I D U (wrap64 (O+1))))) else (none)) else (none)) else (some (-1))
def api_Inside_72.f (k:Nat) (l0:List (S62)) (J:Int):Option (Int):=api_Inside_72.l0 k l0 J (l0.length:Int) 0
theorem api_Inside_72.Zk:∀ k,(∀ J L O D,LeO (api_Inside_72.l0 k J L O D) (api_Inside_72.l0 (k+1) J L O D))
 |0=>fun _ _ _ _ r h=>by simp[api_Inside_72.l0] at h
 |k+1=>by
  have B:=api_Inside_72.Zk k
  ·intro J L O D
   unfold api_Inside_72.l0
   repeat' first
   |(with_reducible exact B _ _ _ _)
   |(with_reducible exact LeO.refl _)
   |(with_reducible exact LeO.none _)
   |(with_reducible refine LeO.ite ?_ ?_)
   |(with_reducible refine LeO.bind ?_ (fun _=>?_))
   |exact B _ _ _ _
   |exact LeO.none _
   |refine LeO.ite ?_ ?_
   |refine LeO.bind ?_ (fun _=>?_)
theorem api_Inside_72.mono:∀ D J k,LeO (api_Inside_72.f k D J) (api_Inside_72.f (k+1) D J):=by
 intro D J k
 have B:=api_Inside_72.Zk k
 unfold api_Inside_72.f
 repeat' first
   |(with_reducible exact B _ _ _ _)
   |(with_reducible exact LeO.refl _)
   |(with_reducible exact LeO.none _)
   |(with_reducible refine LeO.ite ?_ ?_)
   |(with_reducible refine LeO.bind ?_ (fun _=>?_))
   |exact B _ _ _ _
   |exact LeO.none _
   |refine LeO.ite ?_ ?_
   |refine LeO.bind ?_ (fun _=>?_)
set_option maxHeartbeats 8000000 in
set_option maxRecDepth 100000 in
theorem api_Inside_72.calls (k:Nat) (Y:Option Addr) (c0:Nat) (l0:List (S62)) (J:Int) (r:Int) (w:World) (ε :Kd.C k62 w Y l0.length l0) (L:l0.length≤c0) (h:api_Inside_72.f k l0 J=some r) (Ar_:Option Addr) (nr_ cr_ gr_ gx_:Nat) (zx_:Int) (hgr_:w.heap[gr_]?=some (.cells #[.slice Ar_ nr_ cr_,.func (.func 57) #[] #[]] 74 (0,0))) (hgx_:w.heap[gx_]?=some (.cells #[.int .i64 (X8 J),.int .i64 (X7 J)] 62 (0,0))):
  Calls Try.prog 72 #[.slice Y l0.length c0,.func (.func 65) #[] #[.pointer (some ⟨gr_,0,none⟩),.pointer (some ⟨gx_,0,none⟩)]] w fun e w'=>e = .returned (.int .i64 r)∧Below w.heap.size w w':=by
 have HCR:=Aside0.mk hgr_
 have HCX:=Aside0.mk hgx_
 clear hgr_ hgx_
 have b9:=Try.underlying62
 have θ :=Aside0.mk ε
 have a6:=Aside0.mk L
 clear ε L
 have HB:=Aside0.mk (Below.refl w.heap.size w)
 have H:(api_Inside_72.l0 k l0 J (l0.length:Int) 0)=some r:=h
 clear h
 have H':=Aside0.mk H
 clear H
 go_enter Try.func72,Try.ntmps72
 go_wp2
 go_loopg [8] k (fun kq v8 w'=>∃ (B:Int),v8 = .int .i64 B∧Aside0 (api_Inside_72.l0 kq l0 J (l0.length:Int) B=some r)∧Aside0 (kq≤k)∧Aside0 (Below w.heap.size w w'))
 case atStart=>exact⟨(0),rfl,H',⟨Nat.le_refl _⟩,HB⟩
 case round=>
  clear H'
  try clear p2
  obtain⟨B,rfl,HA,σ,HB⟩:=hrel
  cases gk with
  |zero=>exact absurd HA.out (by simp[api_Inside_72.l0])
  |succ k1=>
   have H:=HA.out
   clear HA
   simp only[api_Inside_72.l0] at H
   by_cases c3:B<(l0.length:Int)
   ·rw[if_pos c3] at H
    have c3b0:decide (B<(l0.length:Int))=true:=decide_eq_true c3
    clear c3
    by_cases c4:0≤B
    ·rw[if_pos c4] at H
     have c4b0:decide (0≤B)=true:=decide_eq_true c4
     clear c4
     by_cases c5:B<(l0.length:Int)
     ·rw[if_pos c5] at H
      have c5b0:decide (B<(l0.length:Int))=true:=decide_eq_true c5
      clear c5
      replace H:=Option.bind_eq_some_iff.mp H
      obtain⟨X,ei,H⟩:=H
      replace H:(if X=true then (some B) else (api_Inside_72.l0 k1 l0 J (l0.length:Int) (wrap64 (B+1))))=some r:=H
      have A6:=Aside0.mk ei
      clear ei
      by_cases c7:X=true
      ·subst c7
       have H1:(some B)=some r:=by rw[if_pos rfl] at H;exact H
       clear H
       have H:=H1
       clear H1
       obtain rfl:=Option.some.inj H
       have O:0≤(B:Int):=of_decide_eq_true (by assumption)
       have U:B<(l0.length:Int):=of_decide_eq_true (by assumption)
       obtain⟨η,γ,D,I⟩:=Zu θ.out B O U
       cases γ
       replace D:=(HB.out.cell (World.block_lt_of_cell? w _ D)).trans D
       replace I:=(HB.out.cell (World.block_lt_of_cell? w _ I)).trans I
       replace O:=eq_true O
       replace U:=eq_true U
       go_wp2_with (first|(go_at_call 65;((with_reducible refine(api_Inside_without_1.calls ((Qo l0 B).f0) ((Qo l0 B).f1) J true _ A6.out Ar_ nr_ cr_ gr_ gx_ zx_ (Zx HCR.out (by repeat(first|(with_reducible first|exact HB.out|apply Qh|apply Qc|apply Qf)|exact HB.out|(refine Qd ?_ (Aside0.out (by assumption)))))) (Zx HCX.out (by repeat(first|(with_reducible first|exact HB.out|apply Qh|apply Qc|apply Qf)|exact HB.out|(refine Qd ?_ (Aside0.out (by assumption))))))).mono ?_);rintro e w8 ⟨rfl,hb⟩;have Z:=Aside0.mk (Qv HB.out hb);clear HB;have HB:=Z;clear Z;(try clear hb);(try clear a4);(try clear hk);(try clear hi))))
       go_ret
       exact⟨rfl,HB.out⟩
      ·replace c7:=Bool.eq_false_iff.mpr c7
       subst c7
       have H1:(api_Inside_72.l0 k1 l0 J (l0.length:Int) (wrap64 (B+1)))=some r:=by rw[if_neg (show ¬ (false=true) by decide)] at H;exact H
       clear H
       have H:=H1
       clear H1
       have H':=Aside0.mk H
       clear H
       have O:0≤(B:Int):=of_decide_eq_true (by assumption)
       have U:B<(l0.length:Int):=of_decide_eq_true (by assumption)
       obtain⟨η,γ,D,I⟩:=Zu θ.out B O U
       cases γ
       replace D:=(HB.out.cell (World.block_lt_of_cell? w _ D)).trans D
       replace I:=(HB.out.cell (World.block_lt_of_cell? w _ I)).trans I
       replace O:=eq_true O
       replace U:=eq_true U
       go_wp2_with (first|(go_at_call 65;((with_reducible refine(api_Inside_without_1.calls ((Qo l0 B).f0) ((Qo l0 B).f1) J false _ A6.out Ar_ nr_ cr_ gr_ gx_ zx_ (Zx HCR.out (by repeat(first|(with_reducible first|exact HB.out|apply Qh|apply Qc|apply Qf)|exact HB.out|(refine Qd ?_ (Aside0.out (by assumption)))))) (Zx HCX.out (by repeat(first|(with_reducible first|exact HB.out|apply Qh|apply Qc|apply Qf)|exact HB.out|(refine Qd ?_ (Aside0.out (by assumption))))))).mono ?_);rintro e w9 ⟨rfl,hb⟩;have Z:=Aside0.mk (Qv HB.out hb);clear HB;have HB:=Z;clear Z;(try clear hb);(try clear a4);(try clear hk);(try clear hi))))
       go_roundg k1
       case measure=>have:=σ.out;omega
       case rel=>exact⟨(wrap64 (B+1)),rfl,H',⟨by have:=σ.out;omega⟩,HB⟩
     ·rw[if_neg c5] at H
      exact absurd H (by simp)
    ·rw[if_neg c4] at H
     exact absurd H (by simp)
   ·rw[if_neg c3] at H
    have c3b0:decide (B<(l0.length:Int))=false:=decide_eq_false c3
    clear c3
    obtain rfl:=Option.some.inj H
    go_wp2
    go_ret
    exact⟨rfl,HB.out⟩
end Go.Proofs.Ytjehhhlhalkieaa.C
namespace Go.Proofs.Ytjehhhlhalkieaa.C
open Go.RowKit Go.Proofs.YtjehhhlhalkieaaW.PrintWords Go.Proofs.YtjehhhlhalkieaaW.PrintLast Go.Proofs.YtjehhhlhalkieaaW.PrintMore
set_option linter.unusedVariables false
structure Flat {α:Type} (d:Kd α) (enc:α→List Value):Prop where
  len:∀ x,(enc x).length=d.sz
  one:∀ x,∀ u ∈ enc x,u.oneCell'=true
  M:∀ w base ok x cs,d.M w base ok x cs↔cs=enc x
  K:∀ w x cs,d.K w x cs↔cs=enc x
def Zj {α:Type} (enc:α→List Value) (xs:List α):List Value:=xs.flatMap enc
section
variable {α : Type} {d : Kd α} {enc : α → List Value}
theorem Gy (x:α) (xs:List α):Zj enc (x :: xs)=enc x++Zj enc xs:=rfl
theorem X4 (xs ys:List α):Zj enc (xs++ys)=Zj enc xs++Zj enc ys:=List.flatMap_append
theorem Zy (F:Flat d enc) (xs:List α):(Zj enc xs).length=xs.length * d.sz:=by
  induction xs with
  |nil=>simp[Zj]
  |cons x xs ih=>rw[Gy,List.length_append,F.len,ih,List.length_cons,Nat.add_mul,Nat.one_mul,Nat.add_comm]
theorem J6 (F:Flat d enc) (xs:List α):∀ u ∈ Zj enc xs,u.oneCell'=true:=by
  intro u hu
  obtain⟨x,_,hx⟩:=List.mem_flatMap.1 hu
  exact F.one x u hx
theorem Y9 (F:Flat d enc) (xs:List α) (m:Nat) (h:m≤xs.length):(Zj enc xs).take (m * d.sz)=Zj enc (xs.take m):=by
  have e:Zj enc xs=Zj enc (xs.take m)++Zj enc (xs.drop m):=by rw[← X4,List.take_append_drop]
  have hl:(Zj enc (xs.take m)).length=m * d.sz:=by rw[Zy F,List.length_take,Nat.min_eq_left h]
  rw[e,← hl,List.take_left']
  rfl
theorem Jr (F:Flat d enc) (xs:List α) (m:Nat) (h:m≤xs.length):(Zj enc xs).drop (m * d.sz)=Zj enc (xs.drop m):=by
  have e:Zj enc xs=Zj enc (xs.take m)++Zj enc (xs.drop m):=by rw[← X4,List.take_append_drop]
  have hl:(Zj enc (xs.take m)).length=m * d.sz:=by rw[Zy F,List.length_take,Nat.min_eq_left h]
  rw[e,← hl,List.drop_left']
  rfl
theorem Vi (F:Flat d enc) {R:α→List Value→Prop} (hR:∀ p c,R p c↔c=enc p) (xs:List α):∀ inner,Reps R d.sz xs inner↔inner=Zj enc xs:=by
  induction xs with
  |nil=>
    intro inner
    constructor
    · intro h
      have:=h.1
      simp only[List.length_nil,Nat.zero_mul] at this
      exact List.eq_nil_of_length_eq_zero this
    · rintro rfl
      exact Reps.none _ _
  |cons x xs ih=>
    intro inner
    constructor
    · intro h
      have h1:=h.2 0 x rfl
      rw[hR,Nat.zero_mul,List.drop_zero] at h1
      have L:=Kd.W3 (m:=1) h
      rw[List.drop_one,List.tail_cons,ih,Nat.one_mul] at L
      rw[Gy,← h1,← L,List.take_append_drop]
    · rintro rfl
      have h1:Reps R d.sz [x] (enc x):=by
        have:=Reps.snoc (Reps.none R d.sz) ((hR x (enc x)).2 rfl) (F.len x)
        simpa using this
      exact Kd.Jy (ps:=[x]) h1 ((ih _).2 rfl)
theorem Yk (F:Flat d enc) {e:Nat} {w:World} {base:Nat} {ok:Nat→Prop} {v:Value} {xs:List α}:d.R e w base ok v xs↔(∀ k,v.ownBlock=some k→ok k)∧w.ownsRow base e d.sz v xs.length (Zj enc xs):=by
  constructor
  · rintro⟨O,inner,ho,hr⟩
    rw[Vi F (fun p c=>F.M _ _ _ p c)] at hr
    subst hr
    exact⟨O,ho⟩
  · rintro⟨O,ho⟩
    exact⟨O,_,ho,(Vi F (fun p c=>F.M _ _ _ p c) xs _).2 rfl⟩
theorem Uy {P:Program} (w:World) (t e ty:TypeId) (z:Value) (ht:P.underlying t=some (.slice e)) (hv:∀ w,(zeroValue e).run P w = .ok z w) (D:∀ u ∈ z.cells.toList,u.oneCell'=true) (b o n c:Nat) (hn:0<n)
    (hc:∀ j,j<n * z.cells.size→(w.cell? ⟨b,o+j,none⟩).isSome=true) (hf:∀ j,j<n * z.cells.size→w.frozen? ⟨b,o+j,none⟩=false):
    ∃ vs,vs.length=n * z.cells.size∧(Builtin.clear_ #[t] ty #[.slice (some ⟨b,o,none⟩) n c]).run P w = .ok (.tuple #[]) (w.setCells b o vs):=by
  refine⟨(Builtin.zeroCells z.cells n).toList,by simp[Builtin.zeroCells], ?_⟩
  have hl:(Builtin.zeroCells z.cells n).toList.length=n * z.cells.size:=by simp[Builtin.zeroCells]
  have h1:∀ v ∈ (Builtin.zeroCells z.cells n).toList,v.oneCell'=true:=by
    intro v hv'
    simp only[Builtin.zeroCells,Array.mem_toList_iff,Array.mem_map,Array.mem_range] at hv'
    obtain⟨i,hi,rfl⟩:=hv'
    have hs:0<z.cells.size:=by
      rcases Nat.eq_zero_or_pos z.cells.size with h|h
      · rw[h,Nat.mul_zero] at hi;omega
      · exact h
    have hm:i % z.cells.size<z.cells.size:=Nat.mod_lt _ hs
    rw[getElem!_pos z.cells _ hm]
    exact D _ (by simp)
  have hst:=run_storeCells_cells (P:=P) b o (Builtin.zeroCells z.cells n).toList 0 w (by rw[hl];simpa using hc) (by rw[hl];simpa using hf) h1
  simp only[Nat.add_zero] at hst
  obtain⟨m,rfl⟩:∃ m,n=m+1:=⟨n-1,by omega⟩
  simp[Builtin.clear_,run_underlying ht,hv,hst]
theorem Yf {P:Program} (w:World) (dT sT ty elem:TypeId) (size b o dLen dCap:Nat) (a:Addr) (sLen sCap:Nat) (cs:List Value)
    (hu:P.underlying dT=some (.slice elem)) (hs:(P.info? elem).map (·.size)=some size) (hn:cs.length=min sLen dLen * size)
    (hsrc:∀ j v,cs[j]?=some v→w.cell? (a.add j)=some v) (hc:∀ j,j<cs.length→(w.cell? ⟨b,o+j,none⟩).isSome=true) (hf:∀ j,j<cs.length→w.frozen? ⟨b,o+j,none⟩=false) (h1:∀ v ∈ cs,v.oneCell'=true):
    (Builtin.copy_ #[dT,sT] ty #[.slice (some ⟨b,o,none⟩) dLen dCap,.slice (some a) sLen sCap]).run P w = .ok (goInt (min sLen dLen:Nat)) (w.setCells b o cs):=by
  have hl:=run_loadCells_list (P:=P) w a cs hsrc
  have hst:=run_storeCells_cells (P:=P) b o cs 0 w (by simpa using hc) (by simpa using hf) h1
  cases hq:P.info? elem with
  |none=>simp[hq] at hs
  |some i=>
    have hi:i.size=size:=by simpa[hq] using hs
    have hn':Nat.min sLen dLen * size=cs.length:=hn.symm
    simp[Builtin.copy_,run_underlying hu,Builtin.lenOf,Builtin.firstCells,sizeOf,typeInfo,hq,hi,hn',hl,hst]
theorem Zz (g j:Nat):(⟨g,0,none⟩:Addr).add j=⟨g,j,none⟩:=by unfold Addr.add;split <;> simp_all
theorem W6 {W:World} {g:Nat} {vs:List Value} {o:Nat}:W.grownBy (W.setCells g o vs) (some g):=by
  obtain⟨I,L,U,Y⟩:=X9 g vs o W
  exact⟨I,L,U,by rw[Y];exact Nat.le_refl _,fun k _ hk=>Yg _ _ k (fun he=>hk (by rw[he]))⟩
theorem Li {P:Program} (F:Flat d enc) {W:World} {base:Nat} {ok:Nat→Prop} {e:Nat} (t ty:TypeId) (ht:P.underlying t=some (.slice e)) (z:Value) (hv:∀ w,(zeroValue e).run P w = .ok z w) (D:∀ u ∈ z.cells.toList,u.oneCell'=true) (hzs:z.cells.size=d.sz)
    (A:Option Addr) (c:Nat) (xs:List α) (HO:d.R e W base ok (.slice A xs.length c) xs) (i:Nat) (hi:i≤xs.length):
    ∃ w1,(Builtin.clear_ #[t] ty #[.slice (if c=i then A else A.map (·.add (i * d.sz))) (xs.length-i) (c-i)]).run P W = .ok (.tuple #[]) w1∧d.R e w1 base ok (.slice A i c) (xs.take i)∧W.grownBy w1 (Value.slice A i c).ownBlock:=by
  obtain⟨O,ho⟩:=(Yk F).1 HO
  have hob:(Value.slice A i c).ownBlock=(Value.slice A xs.length c).ownBlock:=by cases A <;> rfl
  rcases ho.2 with⟨J,L⟩|⟨g,cap,cur,J,hb,hh,hnc,hcm,hcs,htake⟩
  · injection J with Y Z I
    subst Y I
    have B:i=0:=by omega
    subst B
    refine⟨W, ?_, ?_,World.grownBy.refl W _⟩
    · rw[L]
      simp[Builtin.clear_,run_underlying ht]
    · have:xs = []:=List.eq_nil_of_length_eq_zero L
      subst this
      exact Kd.Xz _ _ _ _ _
  · injection J with Y Z I
    subst Y I
    have own_i:∀ (w1:World) (cur':Array Value),w1.heap[g]?=some (.cells cur' e (0,0))→cur'.size=cur.size→cur'.toList.take (i * d.sz)=cur.toList.take (i * d.sz)→d.R e w1 base ok (.slice (some ⟨g,0,none⟩) i c) (xs.take i):=by
      intro w1 cur' g1 g2 g3
      rw[Yk F]
      have hl:(xs.take i).length=i:=by rw[List.length_take,Nat.min_eq_left hi]
      refine⟨fun k hk=>O k (by simpa[Value.ownBlock] using hk), ?_⟩
      rw[hl]
      refine⟨by rw[Zy F,hl],.inr ⟨g,c,cur',rfl,hb,g1,by omega,hcm,by rw[g2,hcs], ?_⟩⟩
      have hq:cur.toList.take (i * d.sz)=(cur.toList.take (xs.length * d.sz)).take (i * d.sz):=by
        rw[List.take_take,Nat.min_eq_left (Nat.mul_le_mul_right _ hi)]
      rw[g3,hq,htake,Y9 F xs i hi]
    rcases Nat.lt_or_ge i xs.length with hlt|hge
    · rw[if_neg (by omega)]
      simp only[Option.map_some,Zz]
      have hsz:(xs.length-i) * z.cells.size+i * d.sz≤cur.size:=by
        rw[hzs,hcs,← Nat.add_mul]
        exact Nat.mul_le_mul_right _ (by omega)
      obtain⟨vs,hvl,hrun⟩:=Uy (P:=P) W t e ty z ht hv D g (i * d.sz) (xs.length-i) (c-i) (by omega)
        (fun j hj=>by rw[cell_of_row W g _ cur e (0,0) hh];simp;omega) (fun j _=>Q6 hh _)
      obtain⟨cur',g1,g2,g3⟩:=Xr vs (i * d.sz) W cur hh (by rw[hvl];omega)
      refine⟨_,hrun,own_i _ cur' g1 g2 ?_, ?_⟩
      · rw[g3,List.append_assoc,List.take_append_of_le_length (by rw[List.length_take];simp;omega),List.take_take,Nat.min_self]
      · have:(Value.slice (some ⟨g,0,none⟩) i c).ownBlock=some g:=rfl
        rw[this]
        exact W6
    · have hie:i=xs.length:=by omega
      refine⟨W, ?_,own_i W cur hh rfl rfl,World.grownBy.refl W _⟩
      rw[hie,Nat.sub_self]
      split <;> simp[Builtin.clear_,run_underlying ht]
theorem Ur {P:Program} {ops:Array Oper} {o:Oper} {rest:List Oper} {a:Act} {Q:Exit→Act→World→Prop} (F:Flat d enc) {W:World} {base:Nat} {ok:Nat→Prop} {e:Nat} (hgd:o.guard=none) (x:Operand) (t:TypeId) (ho:o.op = .call {callee:=.builtin .clear,args:=#[x],argTypes:=#[t]})
    (ht:P.underlying t=some (.slice e)) (z:Value) (hv:∀ w,(zeroValue e).run P w = .ok z w) (D:∀ u ∈ z.cells.toList,u.oneCell'=true) (hzs:z.cells.size=d.sz)
    (A A1:Option Addr) (c c1 I:Nat) (xs:List α) (HO:d.R e W base ok (.slice A xs.length c) xs) (i:Nat) (hi:i≤xs.length) (B:A1=(if c=i then A else A.map (·.add (i * d.sz)))) (J:I=xs.length-i) (X:c1=c-i) (hx:a.eval x = .slice A1 I c1)
    (h:∀ w1,d.R e w1 base ok (.slice A i c) (xs.take i)→W.grownBy w1 (Value.slice A i c).ownBlock→wpList P ops Q rest (a.put o.dst (.tuple #[])) w1):wpList P ops Q (o :: rest) a W:=by
  subst B J X
  obtain⟨w1,hr,hR,hg⟩:=Li F t o.type ht z hv D hzs A c xs HO i hi
  refine Kd.K8 hgd (v:=.tuple #[]) (w1:=w1) ?_ (h w1 hR hg)
  unfold execOp
  simp only[ho,resolve,invoke,builtin,Sem.run_bind,Sem.run_pure,Result.andThen_ok,List.map_toArray,List.map_cons,List.map_nil,hx,hr]
theorem G0 {P:Program} {ops:Array Oper} {o:Oper} {rest:List Oper} {a:Act} {Q:Exit→Act→World→Prop} (F:Flat d enc) {w w0 W:World} {S ok:Nat→Prop} {e:Nat} (hgd:o.guard=none) (x:Operand) (t:TypeId) (ho:o.op = .call {callee:=.builtin .clear,args:=#[x],argTypes:=#[t]})
    (ht:P.underlying t=some (.slice e)) (z:Value) (hv:∀ w,(zeroValue e).run P w = .ok z w) (D:∀ u ∈ z.cells.toList,u.oneCell'=true) (hzs:z.cells.size=d.sz)
    (A A1:Option Addr) (c c1 I:Nat) (xs:List α) (HO:d.R e W w0.heap.size ok (.slice A xs.length c) xs) (i:Nat) (hi:i≤xs.length) (B:A1=(if c=i then A else A.map (·.add (i * d.sz)))) (J:I=xs.length-i) (X:c1=c-i) (hx:a.eval x = .slice A1 I c1)
    (HB:Below w0.heap.size w0 W) (HK:Kept w W S) (hok:∀ k,ok k→S k∨w.heap.size≤k) (ys:List α) (hys:ys=xs.take i)
    (h:∀ w1,d.R e w1 w0.heap.size ok (.slice A ys.length c) ys→Below w0.heap.size w0 w1→Kept w w1 S→wpList P ops Q rest (a.put o.dst (.tuple #[])) w1):wpList P ops Q (o :: rest) a W:=by
  have hob:(Value.slice A i c).ownBlock=(Value.slice A xs.length c).ownBlock:=by cases A <;> rfl
  have hl:ys.length=i:=by rw[hys,List.length_take,Nat.min_eq_left hi]
  refine Ur F hgd x t ho ht z hv D hzs A A1 c c1 I xs HO i hi B J X hx ?_
  intro w1 hR hg
  rw[hob] at hg
  refine h w1 (by rw[hl,hys];exact hR) (HB.grown hg HB.size (Yw ((Yk F).1 HO).2)) (Kept.Kr hg HK (fun k hk=>hok k (HO.1 k hk)))
end
theorem X3:Flat k56 (fun x=>[.int .i64 x.f0,.int .i64 x.f1,.int .i64 x.f2]) where
  len:=fun _=>rfl
  one:=fun x u hu=>by
    simp only[List.mem_cons,List.not_mem_nil,or_false] at hu
    rcases hu with rfl|rfl|rfl <;> rfl
  M:=fun w base ok x cs=>⟨Y4,fun h=>by rw[h];exact Yu w base ok x⟩
  K:=fun w x cs=>⟨Kt,fun h=>by rw[h];exact L4 w x⟩
theorem X2:Flat k62 (fun x=>[.int .i64 x.f0,.int .i64 x.f1]) where
  len:=fun _=>rfl
  one:=fun x u hu=>by
    simp only[List.mem_cons,List.not_mem_nil,or_false] at hu
    rcases hu with rfl|rfl <;> rfl
  M:=fun w base ok x cs=>⟨J5,fun h=>by rw[h];exact Jp w base ok x⟩
  K:=fun w x cs=>⟨Ks,fun h=>by rw[h];exact L3 w x⟩
theorem zeroH (w:World):(zeroValue 56).run Try.prog w = .ok (.agg #[.int .i64 0,.int .i64 0,.int .i64 0]) w:=by kernel_rfl
theorem zeroI (w:World):(zeroValue 62).run Try.prog w = .ok (.agg #[.int .i64 0,.int .i64 0]) w:=by kernel_rfl
theorem Xf {w W:World} {S:Nat→Prop} {g:Nat} {o:Obj} (h:w.heap[g]?=some o) (hk:Kept w W S) (hn:¬ S g):W.heap[g]?=some o:=(hk.2 g (Q5 h) hn).trans h
end Go.Proofs.Ytjehhhlhalkieaa.C
namespace Go.Proofs.Ytjehhhlhalkieaa.C
open Go.RowKit Go.Proofs.YtjehhhlhalkieaaW.PrintWords Go.Proofs.YtjehhhlhalkieaaW.PrintLast Go.Proofs.YtjehhhlhalkieaaW.PrintMore
attribute [local go_sem] Z3 Z1 Xb Xa Zt Zs Z2 Z0
set_option linter.unusedVariables false
set_option linter.unusedSimpArgs false
def api_Hall_54.l0:Nat→List (S56)→Int→Int→Int→Option ((List (S56)))
 |0,_,_,_,_=>none
 |k+1,I,D,L,J=>if J<(I.length:Int) then (if 0≤J then ((api_Hall_without_1.f ((Qg I J).f0) ((Qg I J).f1) ((Qg I J).f2) D).bind fun a0=>(if a0=true then (api_Hall_54.l0 k I D L (wrap64 (J+1))) else (if 0≤L then (if L<(I.length:Int) then (api_Hall_54.l0 k (I.set (L:Int).toNat (⟨(Qg I J).f0,(Qg I J).f1,(Qg I J).f2⟩:S56)) D (wrap64 (L+1)) (wrap64 (J+1))) else (none)) else (none)))) else (none)) else (if 0≤L then (if L≤(I.length:Int) then (some (I.take (L:Int).toNat)) else (none)) else (none))
def api_Hall_54.f (k:Nat) (l0:List (S56)) (J:Int):Option ((List (S56))):=(api_Hall_67.f k l0 J).bind fun Y=>(if Y=(-1) then (some l0) else (api_Hall_54.l0 k l0 J Y (wrap64 (Y+1))))
theorem api_Hall_54.Zk:∀ k,(∀ J L O D,LeO (api_Hall_54.l0 k J L O D) (api_Hall_54.l0 (k+1) J L O D))
 |0=>fun _ _ _ _ r h=>by simp[api_Hall_54.l0] at h
 |k+1=>by
  have B:=api_Hall_54.Zk k
  ·intro J L O D
   unfold api_Hall_54.l0
   repeat' first
   |(with_reducible exact B _ _ _ _)
   |(with_reducible exact api_Hall_67.mono _ _ _)
   |(with_reducible exact LeO.refl _)
   |(with_reducible exact LeO.none _)
   |(with_reducible refine LeO.ite ?_ ?_)
   |(with_reducible refine LeO.bind ?_ (fun _=>?_))
   |exact B _ _ _ _
   |exact api_Hall_67.mono _ _ _
   |exact LeO.none _
   |refine LeO.ite ?_ ?_
   |refine LeO.bind ?_ (fun _=>?_)
theorem api_Hall_54.mono:∀ D J k,LeO (api_Hall_54.f k D J) (api_Hall_54.f (k+1) D J):=by
 intro D J k
 have B:=api_Hall_54.Zk k
 unfold api_Hall_54.f
 repeat' first
   |(with_reducible exact B _ _ _ _)
   |(with_reducible exact api_Hall_67.mono _ _ _)
   |(with_reducible exact LeO.refl _)
   |(with_reducible exact LeO.none _)
   |(with_reducible refine LeO.ite ?_ ?_)
   |(with_reducible refine LeO.bind ?_ (fun _=>?_))
   |exact B _ _ _ _
   |exact api_Hall_67.mono _ _ _
   |exact LeO.none _
   |refine LeO.ite ?_ ?_
   |refine LeO.bind ?_ (fun _=>?_)
set_option maxHeartbeats 8000000 in
set_option maxRecDepth 100000 in
theorem api_Hall_54.calls (k:Nat) (X:Nat→Prop) (ω :Value) (l0:List (S56)) (J:Int) (r:List (S56)) (w0 w:World) (hB:Below w0.heap.size w0 w) (ψ :Kd.R k56 56 w w0.heap.size X ω l0) (h:api_Hall_54.f k l0 J=some r) (Ar_:Option Addr) (nr_ cr_ gr_ gx_:Nat) (zx_:Int) (hgr_:w.heap[gr_]?=some (.cells #[.slice Ar_ nr_ cr_,.func (.func 51) #[] #[]] 69 (0,0))) (hgx_:w.heap[gx_]?=some (.cells #[.int .i64 (X8 J),.int .i64 (X7 J),.int .i64 zx_] 56 (0,0))) (hnr_:¬ X gr_) (hnx_:¬ X gx_):
  Calls Try.prog 54 #[ω,.func (.func 56) #[] #[.pointer (some ⟨gr_,0,none⟩),.pointer (some ⟨gx_,0,none⟩)]] w fun e w'=>∃ a6:Value,e = .returned (a6)∧Kd.R k56 56 w' w0.heap.size (fun k_=>(X k_∨w.heap.size≤k_)) a6 r∧Below w0.heap.size w0 w'∧Kept w w' (fun k_=>X k_):=by
 have HCR:=Aside0.mk hgr_
 have HCX:=Aside0.mk hgx_
 have HNR:=Aside0.mk hnr_
 have HNX:=Aside0.mk hnx_
 clear hgr_ hgx_ hnr_ hnx_
 have b2:=Try.underlying56
 have η :=Aside0.mk (show Kd.R k56 56 w w0.heap.size (fun k_=>(X k_∨w.heap.size≤k_)) ω l0 from Kd.Qq ψ (fun k_ hk=>(.inl hk)))
 have HK:=Aside0.mk (Kept.refl w (fun k_=>X k_))
 have dn:=Aside0.mk hB.size
 have HB:=Aside0.mk hB
 clear hB
 have H:((api_Hall_67.f k l0 J).bind fun Y=>(if Y=(-1) then (some l0) else (api_Hall_54.l0 k l0 J Y (wrap64 (Y+1)))))=some r:=h
 clear h
 replace H:=Option.bind_eq_some_iff.mp H
 obtain⟨Y,ae,H⟩:=H
 replace H:(if Y=(-1) then (some l0) else (api_Hall_54.l0 k l0 J Y (wrap64 (Y+1))))=some r:=H
 have A3:=Aside0.mk ae
 clear ae
 by_cases c4:Y=(-1)
 ·rw[if_pos c4] at H
  have c4b0:(Y==(-1))=true:=beq_iff_eq.mpr c4
  have c4b1:(Y != (-1))=false:=bne_eq_false_iff_eq.mpr c4
  clear c4
  obtain rfl:=Option.some.inj H
  obtain⟨dp,dq,d9⟩:=Kd.Q3 η.out
  subst d9
  go_enter Try.func54,Try.ntmps54
  go_wp2_with (first|(go_at_call 67;((with_reducible refine(api_Hall_67.calls k _ _ l0 J Y _ ?side1 ?side2 A3.out Ar_ nr_ cr_ gr_ gx_ zx_ (Xf HCR.out (by repeat(first|(with_reducible first|exact HK.out|apply Kept.alloc|apply Kept.drewN|apply Kept.drew|refine Kept.setCell ?_ (.inr ρ.out) _)|exact HK.out)) HNR.out) (Xf HCX.out (by repeat(first|(with_reducible first|exact HK.out|apply Kept.alloc|apply Kept.drewN|apply Kept.drew|refine Kept.setCell ?_ (.inr ρ.out) _)|exact HK.out)) HNX.out)).mono ?_);(case side1=>exact(Kd.Qp η.out).2.2);(case side2=>exact(Kd.Qp η.out).2.1);rintro e w6 ⟨rfl,hb⟩;have Z:=Aside0.mk (Kd.Qt η.out hb);have ε :=Aside0.mk (Kept.below (S:=(fun k_=>X k_)) (by repeat(first|(with_reducible first|exact HK.out|apply Kept.alloc|apply Kept.drewN|apply Kept.drew)|exact HK.out)) hb);have ι :=Aside0.mk (Qv HB.out hb);clear η;clear HK;clear HB;have η :=Z;have HK:= ε;have HB:= ι;clear Z ε ι;(try clear hb);(try clear a4);(try clear hk);(try clear hi))))
  go_ret
  exact⟨_,rfl,by(with_reducible repeat first|apply Kd.Qk|apply Kd.Qj|apply Kd.Qm);exact η.out,HB.out,by repeat(first|(with_reducible first|exact HK.out|apply Kept.alloc|apply Kept.drewN|apply Kept.drew)|exact HK.out)⟩
 ·rw[if_neg c4] at H
  have c4b0:(Y==(-1))=false:=beq_eq_false_iff_ne.mpr c4
  have c4b1:(Y != (-1))=true:=bne_iff_ne.mpr c4
  have H':=Aside0.mk H
  clear H
  obtain⟨a2,μ,db⟩:=Kd.Q3 η.out
  subst db
  go_enter Try.func54,Try.ntmps54
  go_wp2_with (first|(go_at_call 67;((with_reducible refine(api_Hall_67.calls k _ _ l0 J Y _ ?side1 ?side2 A3.out Ar_ nr_ cr_ gr_ gx_ zx_ (Xf HCR.out (by repeat(first|(with_reducible first|exact HK.out|apply Kept.alloc|apply Kept.drewN|apply Kept.drew|refine Kept.setCell ?_ (.inr ρ.out) _)|exact HK.out)) HNR.out) (Xf HCX.out (by repeat(first|(with_reducible first|exact HK.out|apply Kept.alloc|apply Kept.drewN|apply Kept.drew|refine Kept.setCell ?_ (.inr ρ.out) _)|exact HK.out)) HNX.out)).mono ?_);(case side1=>exact(Kd.Qp η.out).2.2);(case side2=>exact(Kd.Qp η.out).2.1);rintro e w8 ⟨rfl,hb⟩;have Z:=Aside0.mk (Kd.Qt η.out hb);have ε :=Aside0.mk (Kept.below (S:=(fun k_=>X k_)) (by repeat(first|(with_reducible first|exact HK.out|apply Kept.alloc|apply Kept.drewN|apply Kept.drew)|exact HK.out)) hb);have ι :=Aside0.mk (Qv HB.out hb);clear η;clear HK;clear HB;have η :=Z;have HK:= ε;have HB:= ι;clear Z ε ι;(try clear hb);(try clear a4);(try clear hk);(try clear hi))))
  go_loopg [5,6] k (fun kq v5 v6 w'=>∃ (B:List (S56)) (D:Int) (L:Int),v5 = .int .i64 D∧v6 = .int .i64 L∧Aside0 (api_Hall_54.l0 kq B J D L=some r)∧Aside0 (kq≤k)∧Aside0 (Kd.R k56 56 w' w0.heap.size (fun k_=>(X k_∨w.heap.size≤k_)) (.slice a2 l0.length μ) B)∧Aside0 (Kept w w' (fun k_=>X k_))∧Aside0 (Below w0.heap.size w0 w'))
  case atStart=>exact⟨(l0),(Y),(wrap64 (Y+1)),rfl,rfl,H',⟨Nat.le_refl _⟩,⟨by(with_reducible repeat first|apply Kd.Qk|apply Kd.Qj|apply Kd.Qm);exact η.out⟩,⟨by repeat(first|(with_reducible first|exact HK.out|apply Kept.alloc|apply Kept.drewN|apply Kept.drew)|exact HK.out)⟩,HB⟩
  case round=>
   clear H'
   try clear p2
   try clear c4
   try clear c4b0
   try clear c4b1
   try clear c5
   try clear c6
   try clear p6
   obtain⟨B,D,L,rfl,rfl,HA,σ,HO_0,HK,HB⟩:=hrel
   have θ :=(Kd.Qp HO_0.out).1
   rw[θ] at HO_0
   (try simp only[θ])
   cases gk with
   |zero=>exact absurd HA.out (by simp[api_Hall_54.l0])
   |succ k1=>
    have H:=HA.out
    clear HA
    simp only[api_Hall_54.l0] at H
    by_cases c9:L<(B.length:Int)
    ·rw[if_pos c9] at H
     have c9b0:decide (L<(B.length:Int))=true:=decide_eq_true c9
     clear c9
     by_cases c10:0≤L
     ·rw[if_pos c10] at H
      have c10b0:decide (0≤L)=true:=decide_eq_true c10
      clear c10
      replace H:=Option.bind_eq_some_iff.mp H
      obtain⟨a0,b7,H⟩:=H
      replace H:(if a0=true then (api_Hall_54.l0 k1 B J D (wrap64 (L+1))) else (if 0≤D then (if D<(B.length:Int) then (api_Hall_54.l0 k1 (B.set (D:Int).toNat (⟨(Qg B L).f0,(Qg B L).f1,(Qg B L).f2⟩:S56)) J (wrap64 (D+1)) (wrap64 (L+1))) else (none)) else (none)))=some r:=H
      have bv:=Aside0.mk b7
      clear b7
      by_cases cj:a0=true
      ·subst cj
       have H1:(api_Hall_54.l0 k1 B J D (wrap64 (L+1)))=some r:=by rw[if_pos rfl] at H;exact H
       clear H
       have H:=H1
       clear H1
       have H':=Aside0.mk H
       clear H
       have a7:0≤(L:Int):=of_decide_eq_true (by assumption)
       have a8:L<(B.length:Int):=of_decide_eq_true (by assumption)
       obtain⟨a9,bu,ν,ξ,χ⟩:=Zw (Kd.Qp HO_0.out).2.2 L a7 a8
       cases bu
       replace a7:=eq_true a7
       replace a8:=eq_true a8
       go_wp2_with (first|((with_reducible refine Qs (N:=7) rfl ?_);refine qE 7 #[.int .i64 0,.int .i64 0,.int .i64 0] 56 ?_;intro U hg fa hbox hb;have O:=Aside0.mk hbox;have ρ:=Aside0.mk ((by rw[hg];exact(by first|exact HK.out.1|exact(show Kept w _ (fun k_=>X k_) from by repeat(first|(with_reducible first|exact HK.out|apply Kept.alloc|apply Kept.drewN|apply Kept.drew)|exact HK.out)).1):w.heap.size≤U));have ca:=Aside0.mk ((by rw[hg];exact(Ql bel):w0.heap.size≤U));replace HO_0:=Aside0.mk (Kd.Qt (Kd.K3 (kra HO_0) U (Nat.le_of_eq hg.symm)) hb);replace HK:=Aside0.mk (Kept.below (S:=(fun k_=>X k_)) (by repeat(first|(with_reducible first|exact HK.out|apply Kept.alloc|apply Kept.drewN|apply Kept.drew)|exact HK.out)) hb);replace HB:=sHb hb;clear hb hbox hg;obtain⟨am,an,d7,ao,ap,d8⟩:=qD3 O.out)|(go_at_call 56;((with_reducible refine(api_Hall_without_1.calls ((Qg B L).f0) ((Qg B L).f1) ((Qg B L).f2) J true _ bv.out Ar_ nr_ cr_ gr_ gx_ zx_ (Xf HCR.out (by repeat(first|(with_reducible first|exact HK.out|apply Kept.alloc|apply Kept.drewN|apply Kept.drew|refine Kept.setCell ?_ (.inr ρ.out) _)|exact HK.out)) HNR.out) (Xf HCX.out (by repeat(first|(with_reducible first|exact HK.out|apply Kept.alloc|apply Kept.drewN|apply Kept.drew|refine Kept.setCell ?_ (.inr ρ.out) _)|exact HK.out)) HNX.out)).mono ?_);rintro e jc ⟨rfl,hb⟩;have Z:=Aside0.mk (Kd.Qt (by(with_reducible repeat first|apply Kd.Qk|apply Kd.Qj|apply Kd.Qm);exact(Kd.Qq (Kd.Qr (Kd.Qr (Kd.Qr (Kd.Qq HO_0.out (fun k_ hk=>(⟨hk,hk.2⟩:_∧k_≠U))) (fun _ hk=>hk.2) (.int .i64 ((Qg B L).f0))) (fun _ hk=>hk.2) (.int .i64 ((Qg B L).f1))) (fun _ hk=>hk.2) (.int .i64 ((Qg B L).f2))) (fun _ h_=>h_.1))) hb);have ε :=Aside0.mk (Qn (g:=U) (o:=.cells #[.int .i64 ((Qg B L).f0),.int .i64 ((Qg B L).f1),.int .i64 ((Qg B L).f2)] 56 (0,0)) (by(with_reducible repeat first|apply Qe|apply Qa|apply Qb);refine Qw (cs:=#[.int .i64 ((Qg B L).f0),.int .i64 ((Qg B L).f1),.int .i64 0]) ?_ 2 _ rfl;(with_reducible repeat first|apply Qe|apply Qa|apply Qb);refine Qw (cs:=#[.int .i64 ((Qg B L).f0),.int .i64 0,.int .i64 0]) ?_ 1 _ rfl;(with_reducible repeat first|apply Qe|apply Qa|apply Qb);refine Qw (cs:=#[.int .i64 0,.int .i64 0,.int .i64 0]) ?_ 0 _ rfl;(with_reducible repeat first|apply Qe|apply Qa|apply Qb);exact O.out) hb);have ι :=Aside0.mk (Kept.below (S:=(fun k_=>X k_)) (by repeat(first|(with_reducible first|exact HK.out|apply Kept.alloc|apply Kept.drewN|apply Kept.drew|refine Kept.setCell ?_ (.inr ρ.out) _)|exact HK.out)) hb);have κ :=Aside0.mk (Qv bel hb);clear HO_0;clear O;clear HK;clear HB;have HO_0:=Z;have O:= ε;have HK:= ι;have HB:= κ;clear Z ε ι κ;(try clear hb);(try clear a4);(try clear hk);(try clear hi))))
       (try simp only[← θ])
       go_roundg k1
       case measure=>have:=σ.out;omega
       case rel=>exact⟨(B),(D),(wrap64 (L+1)),rfl,rfl,H',⟨by have:=σ.out;omega⟩,⟨by(try simp only[θ]);(with_reducible repeat first|apply Kd.Qk|apply Kd.Qj|apply Kd.Qm);exact Kd.Qq HO_0.out (fun _ hk=>hk.1)⟩,⟨by repeat(first|(with_reducible first|exact HK.out|apply Kept.alloc|apply Kept.drewN|apply Kept.drew|refine Kept.setCell ?_ (.inr ρ.out) _)|exact HK.out)⟩,HB⟩
      ·replace cj:=Bool.eq_false_iff.mpr cj
       subst cj
       have H1:(if 0≤D then (if D<(B.length:Int) then (api_Hall_54.l0 k1 (B.set (D:Int).toNat (⟨(Qg B L).f0,(Qg B L).f1,(Qg B L).f2⟩:S56)) J (wrap64 (D+1)) (wrap64 (L+1))) else (none)) else (none))=some r:=by rw[if_neg (show ¬ (false=true) by decide)] at H;exact H
       clear H
       have H:=H1
       clear H1
       by_cases a5:0≤D
       ·rw[if_pos a5] at H
        have c16b0:decide (0≤D)=true:=decide_eq_true a5
        clear a5
        by_cases aa:D<(B.length:Int)
        ·rw[if_pos aa] at H
         have c17b0:decide (D<(B.length:Int))=true:=decide_eq_true aa
         clear aa
         obtain⟨ag,ζ⟩:∃ y_:List (S56),y_=(B.set (D:Int).toNat (⟨(Qg B L).f0,(Qg B L).f1,(Qg B L).f2⟩:S56)):=⟨_,rfl⟩
         replace H:(api_Hall_54.l0 k1 ag J (wrap64 (D+1)) (wrap64 (L+1)))=some r:=by first|(rw[ζ];with_reducible exact H)|(have τ :=(Option.bind_some _ _).symm.trans H;rw[ζ];with_reducible exact τ)|(have τ :=(Option.bind_some _ _).symm.trans H;with_reducible exact τ)|with_reducible exact H|(rw[ζ];exact H)|exact H
         have ar:=Aside0.mk ζ
         clear ζ
         have H':=Aside0.mk H
         clear H
         have a7:0≤(L:Int):=of_decide_eq_true (by assumption)
         have a8:L<(B.length:Int):=of_decide_eq_true (by assumption)
         obtain⟨a9,bu,ν,ξ,χ⟩:=Zw (Kd.Qp HO_0.out).2.2 L a7 a8
         cases bu
         replace a7:=eq_true a7
         replace a8:=eq_true a8
         go_wp2_with (first|((with_reducible refine Qs (N:=7) rfl ?_);refine qE 7 #[.int .i64 0,.int .i64 0,.int .i64 0] 56 ?_;intro U hg fb hbox hb;have O:=Aside0.mk hbox;have ρ:=Aside0.mk ((by rw[hg];exact(by first|exact HK.out.1|exact(show Kept w _ (fun k_=>X k_) from by repeat(first|(with_reducible first|exact HK.out|apply Kept.alloc|apply Kept.drewN|apply Kept.drew)|exact HK.out)).1):w.heap.size≤U));have ca:=Aside0.mk ((by rw[hg];exact(Ql HB.out):w0.heap.size≤U));replace HO_0:=Aside0.mk (Kd.Qt (Kd.K3 HO_0.out U (Nat.le_of_eq hg.symm)) hb);replace HK:=Aside0.mk (Kept.below (S:=(fun k_=>X k_)) (by repeat(first|(with_reducible first|exact HK.out|apply Kept.alloc|apply Kept.drewN|apply Kept.drew)|exact HK.out)) hb);replace HB:=sHb hb;clear hb hbox hg;obtain⟨bh,bi,b9,bn,bo,bk⟩:=qD3 O.out)|(go_at_call 56;((with_reducible refine(api_Hall_without_1.calls ((Qg B L).f0) ((Qg B L).f1) ((Qg B L).f2) J false _ bv.out Ar_ nr_ cr_ gr_ gx_ zx_ (Xf HCR.out (by repeat(first|(with_reducible first|exact HK.out|apply Kept.alloc|apply Kept.drewN|apply Kept.drew|refine Kept.setCell ?_ (.inr ρ.out) _)|exact HK.out)) HNR.out) (Xf HCX.out (by repeat(first|(with_reducible first|exact HK.out|apply Kept.alloc|apply Kept.drewN|apply Kept.drew|refine Kept.setCell ?_ (.inr ρ.out) _)|exact HK.out)) HNX.out)).mono ?_);rintro e d1 ⟨rfl,hb⟩;have Z:=Aside0.mk (Kd.Qt (by(with_reducible repeat first|apply Kd.Qk|apply Kd.Qj|apply Kd.Qm);exact(Kd.Qq (Kd.Qr (p:=⟨U,2,none⟩) (Kd.Qr (p:=⟨U,1,none⟩) (Kd.Qr (p:=⟨U,0,none⟩) (Kd.Qq HO_0.out (fun k_ hk=>(⟨hk,hk.2⟩:_∧k_≠U))) (fun _ hk=>hk.2) (.int .i64 ((Qg B L).f0))) (fun _ hk=>hk.2) (.int .i64 ((Qg B L).f1))) (fun _ hk=>hk.2) (.int .i64 ((Qg B L).f2))) (fun _ h_=>h_.1))) hb);have ε :=Aside0.mk (Qn (g:=U) (o:=.cells #[.int .i64 ((Qg B L).f0),.int .i64 ((Qg B L).f1),.int .i64 ((Qg B L).f2)] 56 (0,0)) (by(with_reducible repeat first|apply Qe|apply Qa|apply Qb);refine Qw (cs:=#[.int .i64 ((Qg B L).f0),.int .i64 ((Qg B L).f1),.int .i64 0]) ?_ 2 _ rfl;(with_reducible repeat first|apply Qe|apply Qa|apply Qb);refine Qw (cs:=#[.int .i64 ((Qg B L).f0),.int .i64 0,.int .i64 0]) ?_ 1 _ rfl;(with_reducible repeat first|apply Qe|apply Qa|apply Qb);refine Qw (cs:=#[.int .i64 0,.int .i64 0,.int .i64 0]) ?_ 0 _ rfl;(with_reducible repeat first|apply Qe|apply Qa|apply Qb);exact O.out) hb);have ι :=Aside0.mk (Kept.below (S:=(fun k_=>X k_)) (by repeat(first|(with_reducible first|exact HK.out|apply Kept.alloc|apply Kept.drewN|apply Kept.drew|refine Kept.setCell ?_ (.inr ρ.out) _)|exact HK.out)) hb);have κ :=Aside0.mk (Qv (by repeat(first|(with_reducible first|exact HB.out|apply Qh|apply Qc|apply Qf|refine Qd ?_ ca.out)|exact HB.out)) hb);clear HO_0;clear O;clear HK;clear HB;have HO_0:=Z;have O:= ε;have HK:= ι;have HB:= κ;clear Z ε ι κ;(try clear hb);(try clear a4);(try clear hk);(try clear hi);obtain⟨bc,bp,d5,bq,bs,d6⟩:=qD3 O.out;have ak:0≤(D:Int):=of_decide_eq_true (by first|(with_reducible assumption)|assumption);have al:(D:Int)<((B.length:Int):Int):=of_decide_eq_true (by first|(with_reducible assumption)|assumption);obtain⟨δ,d2,bj,az,bl,dc,b6⟩:=Kd.Wj HO_0.out (by omega);(first|cases bj|(injection bj with ea_ en_ ec_;(first|subst ea_|(injection ea_ with ea_;subst ea_));subst ec_;clear en_));have aj:=Aside0.mk az;have dd:=Aside0.mk b6;clear az bl b6;have de:=Aside0.mk (show(X δ ∨ w.heap.size ≤ δ) from(HO_0.out.1 _ rfl).1);(first|simp only[add_plain] at ν |skip);(first|simp only[add_plain] at ξ |skip);(first|simp only[add_plain] at χ |skip);obtain⟨df,ba,b8,a3,af⟩:=Kd.Ga HO_0.out z56 (D:Int) ak al;obtain rfl:=Y4 b8;have bm:d1.cell? ⟨δ,(D:Int).toNat * 3,none⟩=some (.int .i64 ((Qg B D).f0)):=a3 0 _ rfl;have bw:d1.cell? ⟨δ,(D:Int).toNat * 3+1,none⟩=some (.int .i64 ((Qg B D).f1)):=a3 1 _ rfl;have cn:d1.cell? ⟨δ,(D:Int).toNat * 3+2,none⟩=some (.int .i64 ((Qg B D).f2)):=a3 2 _ rfl;have co:d1.frozen? ⟨δ,(D:Int).toNat * 3,none⟩=false:=af 0;have cp:d1.frozen? ⟨δ,(D:Int).toNat * 3+1,none⟩=false:=af 1;have dh:d1.frozen? ⟨δ,(D:Int).toNat * 3+2,none⟩=false:=af 2;clear ba a3 af b8;replace ak:=eq_true ak;replace al:=eq_true al;have be:=Aside0.mk (show Kd.R k56 56 d1 w0.heap.size (fun k_=>(X k_∨w.heap.size≤k_)∧k_≠U) (.slice (some ⟨δ,0,none⟩) B.length μ) B from(by(with_reducible repeat first|apply Kd.Qk|apply Kd.Qj|apply Kd.Qm);exact HO_0.out));obtain⟨dj,b1,bf,φ,ai⟩:=Kd.Ga be.out z56 (D:Int) (of_decide_eq_true (by first|(with_reducible assumption)|assumption)) (by have h_:(D:Int)<((B.length:Int):Int):=of_decide_eq_true (by first|(with_reducible assumption)|assumption);first|exact h_|(have e_:=(Kd.Qp HO_0.out).1;omega)|simpa using h_);obtain rfl:=Y4 bf;have b0:=Kd.Mo be.out (D:Int) (of_decide_eq_true (by first|(with_reducible assumption)|assumption)) (by have h_:(D:Int)<((B.length:Int):Int):=of_decide_eq_true (by first|(with_reducible assumption)|assumption);first|exact h_|(have e_:=(Kd.Qp HO_0.out).1;omega)|simpa using h_) (seg:=[.int .i64 ((Qg B L).f0),.int .i64 ((Qg B L).f1),.int .i64 ((Qg B L).f2)]) (j:=0) b1 φ (show 3≤3 from by decide) (x':=(⟨(Qg B L).f0,(Qg B L).f1,(Qg B L).f2⟩:S56)) (Yu _ _ _ (⟨(Qg B L).f0,(Qg B L).f1,(Qg B L).f2⟩:S56)) (fun _ hk=>hk);have bg:= φ 0 _ rfl;(try simp only[show(k56).sz=3 from rfl,Nat.mul_one,Nat.add_zero] at bg);have br:=ai 0;(try simp only[show(k56).sz=3 from rfl,Nat.mul_one,Nat.add_zero] at br);have bz:= φ 1 _ rfl;(try simp only[show(k56).sz=3 from rfl,Nat.mul_one,Nat.add_zero] at bz);have cb:=ai 1;(try simp only[show(k56).sz=3 from rfl,Nat.mul_one,Nat.add_zero] at cb);have da:= φ 2 _ rfl;(try simp only[show(k56).sz=3 from rfl,Nat.mul_one,Nat.add_zero] at da);have di:=ai 2;(try simp only[show(k56).sz=3 from rfl,Nat.mul_one,Nat.add_zero] at di);clear b1 φ ai bf))|((with_reducible refine Kg (t:=56) (p:=33) rfl ?_);refine Jw (t:=56) (p:=33) (v:=?vo_w24) (w1:=(((d1.setCell ⟨δ,(D:Int).toNat * 3,none⟩ (.int .i64 ((Qg B L).f0))).setCell ⟨δ,(D:Int).toNat * 3+1,none⟩ (.int .i64 ((Qg B L).f1))).setCell ⟨δ,(D:Int).toNat * 3+2,none⟩ (.int .i64 ((Qg B L).f2)))) ?hg ?ho ?hn ?hr ?_;(case ho=>rfl);(case hg=>rfl);(case hn=>rfl);(case hr=>go_simp <;> rfl);intro cx hw;have hg:d1.grownBy cx (some δ):=(by rw[hw];exact b0.2);have hp_:Kd.R k56 56 cx w0.heap.size (fun k_=>(X k_∨w.heap.size≤k_)∧k_≠U) (.slice (some ⟨δ,0,none⟩) B.length μ) ag:=(by rw[hw,ar.out];exact b0.1);clear b0;replace O:=Aside0.mk (Q4 (g:=U) (o:=.cells #[.int .i64 ((Qg B L).f0),.int .i64 ((Qg B L).f1),.int .i64 ((Qg B L).f2)] 56 (0,0)) O.out hg (Kd.G6 HO_0.out (fun _ hk=>hk.2)));replace HB:=Aside0.mk ((by rw[hw];exact Qd (Qd (Qd (HB.out) aj.out) aj.out) aj.out:Below w0.heap.size w0 cx));replace HK:=Aside0.mk (Kept.Kr (S:=(fun k_=>X k_)) hg (by repeat(first|(with_reducible first|exact HK.out|apply Kept.alloc|apply Kept.drewN|apply Kept.drew|refine Kept.setCell ?_ (.inr ρ.out) _)|exact HK.out)) (fun k_ e_=>(HO_0.out.1 k_ e_).1));replace HO_0:=Aside0.mk hp_;clear hg hw hp_))
         (try simp only[← θ])
         go_roundg k1
         case measure=>have:=σ.out;omega
         case rel=>exact⟨(ag),(wrap64 (D+1)),(wrap64 (L+1)),rfl,rfl,H',⟨by have:=σ.out;omega⟩,⟨by(try simp only[θ]);(with_reducible repeat first|apply Kd.Qk|apply Kd.Qj|apply Kd.Qm);exact Kd.Qq HO_0.out (fun _ hk=>hk.1)⟩,⟨by repeat(first|(with_reducible first|exact HK.out|apply Kept.alloc|apply Kept.drewN|apply Kept.drew|refine Kept.setCell ?_ (.inr ρ.out) _)|exact HK.out)⟩,HB⟩
        ·rw[if_neg aa] at H
         exact absurd H (by simp)
       ·rw[if_neg a5] at H
        exact absurd H (by simp)
     ·rw[if_neg c10] at H
      exact absurd H (by simp)
    ·rw[if_neg c9] at H
     have c9b0:decide (L<(B.length:Int))=false:=decide_eq_false c9
     clear c9
     by_cases bb:0≤D
     ·rw[if_pos bb] at H
      have c25b0:=eq_true bb
      have c25b1:decide (0≤D)=true:=decide_eq_true bb
      clear bb
      by_cases ac:D≤(B.length:Int)
      ·rw[if_pos ac] at H
       have c26b0:=eq_true ac
       have c26b1:decide (D≤(B.length:Int))=true:=decide_eq_true ac
       clear ac
       obtain⟨bd,I⟩:∃ y_:List (S56),y_=(B.drop (D:Int).toNat):=⟨_,rfl⟩
       replace H:(some (B.take (D:Int).toNat))=some r:=by first|(rw[I];with_reducible exact H)|(have τ :=(Option.bind_some _ _).symm.trans H;rw[I];with_reducible exact τ)|(have τ :=(Option.bind_some _ _).symm.trans H;with_reducible exact τ)|with_reducible exact H|(rw[I];exact H)|exact H
       have d4:=Aside0.mk I
       clear I
       have c27b0:=eq_true (of_decide_eq_true (by assumption):D≤(B.length:Int))
       obtain⟨cv,γ⟩:∃ y_:List (S56),y_=(B.take (D:Int).toNat):=⟨_,rfl⟩
       replace H:(some cv)=some r:=by first|(rw[γ];with_reducible exact H)|(have τ :=(Option.bind_some _ _).symm.trans H;rw[γ];with_reducible exact τ)|(have τ :=(Option.bind_some _ _).symm.trans H;with_reducible exact τ)|with_reducible exact H|(rw[γ];exact H)|exact H
       have ci:=Aside0.mk γ
       clear γ
       obtain rfl:=Option.some.inj H
       have cd:(D:Int)≤((B.length:Int):Int):=of_decide_eq_true (by assumption)
       obtain⟨dk,b3,_,b4,_⟩:=info_parts Y0
       have hroom28:B.length ≤ μ :=(Kd.Qp HO_0.out).2.1
       have ce:Kd.C k56 _ a2 B.length B:=(Kd.Qp HO_0.out).2.2
       have cw:(0:Int)≤(D:Int):=of_decide_eq_true (by assumption)
       have cf:=Xg (P:=Try.prog) 24 56 .i64 Try.underlying24 b3 3 b4 a2 B.length μ D cw cd
       have ah:=Kd.Ms (m:=(D:Int).toNat) (c:= μ) ce (by omega) hroom28
       obtain⟨cq,au⟩:∃ A1,A1=(if μ = (D:Int).toNat then a2 else (a2:Option Addr).map (·.add ((D:Int).toNat * 3))):=⟨_,rfl⟩
       obtain⟨ax,av⟩:∃ c1,c1 = μ - (D:Int).toNat:=⟨_,rfl⟩
       have aw:bd.length=B.length - (D:Int).toNat:=(by rw[d4.out,List.length_drop] <;> omega)
       rw[show(B).drop (D:Int).toNat=bd from d4.out.symm] at ah
       replace ah:Kd.C k56 _ cq bd.length bd:=(by rw[au];exact ah)
       rw[← aw,← au,← av] at cf
       have dr:=Aside0.mk ah
       have dt:=Aside0.mk (show bd.length≤ax from by rw[aw,av];exact Nat.sub_le_sub_right hroom28 _)
       have cy:=Aside0.mk av
       clear ah ce hroom28 b3 b4 av
       have cz:=Aside0.mk aw
       have d0:=Aside0.mk au
       clear aw au
       have d3:=Aside0.mk (show(D:Int).toNat≤B.length from by omega)
       replace cd:=eq_true cd
       have cg:(D:Int)≤((B.length:Int):Int):=of_decide_eq_true (by assumption)
       obtain⟨dl,b5,_,cm,_⟩:=info_parts Y0
       have ch:=Mg (P:=Try.prog) 24 56 .i64 Try.underlying24 b5 a2 B.length μ D (of_decide_eq_true (by assumption)) cg (Kd.Qp HO_0.out).2.1
       have ay:=Kd.Mm (m:=(D:Int).toNat) HO_0.out (by omega)
       have ck:cv.length=(D:Int).toNat:=(by rw[ci.out,List.length_take];omega)
       rw[← ci.out] at ay
       rw[← ck] at ay ch
       clear ck b5 cm
       have ab:=Aside0.mk ay
       clear ay
       replace cg:=eq_true cg
       go_wp2_with (first|((with_reducible refine Z5 (b:=.clear) (xs:=#[.tmp 38]) rfl ?_);refine G0 X3 (w:=w) (S:=fun k_=>X k_) rfl (.tmp 38) 24 rfl Try.underlying24 (.agg #[.int .i64 0,.int .i64 0,.int .i64 0]) zeroH (by decide) rfl a2 cq μ ax bd.length B HO_0.out (D:Int).toNat d3.out d0.out cz.out cy.out rfl HB.out HK.out (fun _ hk=>hk) cv (ci.out) ?_;intro dm cr ct cu;have Z:=Aside0.mk cr;have ε :=Aside0.mk ct;have ι :=Aside0.mk cu;clear cr ct cu HO_0 ab HB HK;have ab:=Z;have HB:= ε;have HK:= ι;clear Z ε ι))
       go_ret
       exact⟨_,rfl,by(with_reducible repeat first|apply Kd.Qk|apply Kd.Qj|apply Kd.Qm);exact ab.out,HB.out,by repeat(first|(with_reducible first|exact HK.out|apply Kept.alloc|apply Kept.drewN|apply Kept.drew)|exact HK.out)⟩
      ·rw[if_neg ac] at H
       exact absurd H (by simp)
     ·rw[if_neg bb] at H
      exact absurd H (by simp)
def api_Inside_64.l0:Nat→List (S62)→Int→Int→Int→Option ((List (S62)))
 |0,_,_,_,_=>none
 |k+1,I,D,L,J=>if J<(I.length:Int) then (if 0≤J then ((api_Inside_without_1.f ((Qo I J).f0) ((Qo I J).f1) D).bind fun γ=>(if γ=true then (api_Inside_64.l0 k I D L (wrap64 (J+1))) else (if 0≤L then (if L<(I.length:Int) then (api_Inside_64.l0 k (I.set (L:Int).toNat (⟨(Qo I J).f0,(Qo I J).f1⟩:S62)) D (wrap64 (L+1)) (wrap64 (J+1))) else (none)) else (none)))) else (none)) else (if 0≤L then (if L≤(I.length:Int) then (some (I.take (L:Int).toNat)) else (none)) else (none))
def api_Inside_64.f (k:Nat) (l0:List (S62)) (J:Int):Option ((List (S62))):=(api_Inside_72.f k l0 J).bind fun I=>(if I=(-1) then (some l0) else (api_Inside_64.l0 k l0 J I (wrap64 (I+1))))
theorem api_Inside_64.Zk:∀ k,(∀ J L O D,LeO (api_Inside_64.l0 k J L O D) (api_Inside_64.l0 (k+1) J L O D))
 |0=>fun _ _ _ _ r h=>by simp[api_Inside_64.l0] at h
 |k+1=>by
  have B:=api_Inside_64.Zk k
  ·intro J L O D
   unfold api_Inside_64.l0
   repeat' first
   |(with_reducible exact B _ _ _ _)
   |(with_reducible exact api_Inside_72.mono _ _ _)
   |(with_reducible exact LeO.refl _)
   |(with_reducible exact LeO.none _)
   |(with_reducible refine LeO.ite ?_ ?_)
   |(with_reducible refine LeO.bind ?_ (fun _=>?_))
   |exact B _ _ _ _
   |exact api_Inside_72.mono _ _ _
   |exact LeO.none _
   |refine LeO.ite ?_ ?_
   |refine LeO.bind ?_ (fun _=>?_)
theorem api_Inside_64.mono:∀ D J k,LeO (api_Inside_64.f k D J) (api_Inside_64.f (k+1) D J):=by
 intro D J k
 have B:=api_Inside_64.Zk k
 unfold api_Inside_64.f
 repeat' first
   |(with_reducible exact B _ _ _ _)
   |(with_reducible exact api_Inside_72.mono _ _ _)
   |(with_reducible exact LeO.refl _)
   |(with_reducible exact LeO.none _)
   |(with_reducible refine LeO.ite ?_ ?_)
   |(with_reducible refine LeO.bind ?_ (fun _=>?_))
   |exact B _ _ _ _
   |exact api_Inside_72.mono _ _ _
   |exact LeO.none _
   |refine LeO.ite ?_ ?_
   |refine LeO.bind ?_ (fun _=>?_)
set_option maxHeartbeats 8000000 in
set_option maxRecDepth 100000 in
theorem api_Inside_64.calls (k:Nat) (X:Nat→Prop) (ω :Value) (l0:List (S62)) (J:Int) (r:List (S62)) (w0 w:World) (hB:Below w0.heap.size w0 w) (ψ :Kd.R k62 62 w w0.heap.size X ω l0) (h:api_Inside_64.f k l0 J=some r) (Ar_:Option Addr) (nr_ cr_ gr_ gx_:Nat) (zx_:Int) (hgr_:w.heap[gr_]?=some (.cells #[.slice Ar_ nr_ cr_,.func (.func 57) #[] #[]] 74 (0,0))) (hgx_:w.heap[gx_]?=some (.cells #[.int .i64 (X8 J),.int .i64 (X7 J)] 62 (0,0))) (hnr_:¬ X gr_) (hnx_:¬ X gx_):
  Calls Try.prog 64 #[ω,.func (.func 65) #[] #[.pointer (some ⟨gr_,0,none⟩),.pointer (some ⟨gx_,0,none⟩)]] w fun e w'=>∃ a6:Value,e = .returned (a6)∧Kd.R k62 62 w' w0.heap.size (fun k_=>(X k_∨w.heap.size≤k_)) a6 r∧Below w0.heap.size w0 w'∧Kept w w' (fun k_=>X k_):=by
 have HCR:=Aside0.mk hgr_
 have HCX:=Aside0.mk hgx_
 have HNR:=Aside0.mk hnr_
 have HNX:=Aside0.mk hnx_
 clear hgr_ hgx_ hnr_ hnx_
 have b9:=Try.underlying62
 have η :=Aside0.mk (show Kd.R k62 62 w w0.heap.size (fun k_=>(X k_∨w.heap.size≤k_)) ω l0 from Kd.Qq ψ (fun k_ hk=>(.inl hk)))
 have HK:=Aside0.mk (Kept.refl w (fun k_=>X k_))
 have dn:=Aside0.mk hB.size
 have HB:=Aside0.mk hB
 clear hB
 have H:((api_Inside_72.f k l0 J).bind fun I=>(if I=(-1) then (some l0) else (api_Inside_64.l0 k l0 J I (wrap64 (I+1)))))=some r:=h
 clear h
 replace H:=Option.bind_eq_some_iff.mp H
 obtain⟨I,ae,H⟩:=H
 replace H:(if I=(-1) then (some l0) else (api_Inside_64.l0 k l0 J I (wrap64 (I+1))))=some r:=H
 have A3:=Aside0.mk ae
 clear ae
 by_cases c4:I=(-1)
 ·rw[if_pos c4] at H
  have c4b0:(I==(-1))=true:=beq_iff_eq.mpr c4
  have c4b1:(I != (-1))=false:=bne_eq_false_iff_eq.mpr c4
  clear c4
  obtain rfl:=Option.some.inj H
  obtain⟨dp,dq,d9⟩:=Kd.Q3 η.out
  subst d9
  go_enter Try.func64,Try.ntmps64
  go_wp2_with (first|(go_at_call 72;((with_reducible refine(api_Inside_72.calls k _ _ l0 J I _ ?side1 ?side2 A3.out Ar_ nr_ cr_ gr_ gx_ zx_ (Xf HCR.out (by repeat(first|(with_reducible first|exact HK.out|apply Kept.alloc|apply Kept.drewN|apply Kept.drew|refine Kept.setCell ?_ (.inr ar.out) _)|exact HK.out)) HNR.out) (Xf HCX.out (by repeat(first|(with_reducible first|exact HK.out|apply Kept.alloc|apply Kept.drewN|apply Kept.drew|refine Kept.setCell ?_ (.inr ar.out) _)|exact HK.out)) HNX.out)).mono ?_);(case side1=>exact(Kd.Qp η.out).2.2);(case side2=>exact(Kd.Qp η.out).2.1);rintro e w6 ⟨rfl,hb⟩;have Z:=Aside0.mk (Kd.Qt η.out hb);have ε :=Aside0.mk (Kept.below (S:=(fun k_=>X k_)) (by repeat(first|(with_reducible first|exact HK.out|apply Kept.alloc|apply Kept.drewN|apply Kept.drew)|exact HK.out)) hb);have ι :=Aside0.mk (Qv HB.out hb);clear η;clear HK;clear HB;have η :=Z;have HK:= ε;have HB:= ι;clear Z ε ι;(try clear hb);(try clear a4);(try clear hk);(try clear hi))))
  go_ret
  exact⟨_,rfl,by(with_reducible repeat first|apply Kd.Qk|apply Kd.Qj|apply Kd.Qm);exact η.out,HB.out,by repeat(first|(with_reducible first|exact HK.out|apply Kept.alloc|apply Kept.drewN|apply Kept.drew)|exact HK.out)⟩
 ·rw[if_neg c4] at H
  have c4b0:(I==(-1))=false:=beq_eq_false_iff_ne.mpr c4
  have c4b1:(I != (-1))=true:=bne_iff_ne.mpr c4
  have H':=Aside0.mk H
  clear H
  obtain⟨a2,μ,db⟩:=Kd.Q3 η.out
  subst db
  go_enter Try.func64,Try.ntmps64
  go_wp2_with (first|(go_at_call 72;((with_reducible refine(api_Inside_72.calls k _ _ l0 J I _ ?side1 ?side2 A3.out Ar_ nr_ cr_ gr_ gx_ zx_ (Xf HCR.out (by repeat(first|(with_reducible first|exact HK.out|apply Kept.alloc|apply Kept.drewN|apply Kept.drew|refine Kept.setCell ?_ (.inr ar.out) _)|exact HK.out)) HNR.out) (Xf HCX.out (by repeat(first|(with_reducible first|exact HK.out|apply Kept.alloc|apply Kept.drewN|apply Kept.drew|refine Kept.setCell ?_ (.inr ar.out) _)|exact HK.out)) HNX.out)).mono ?_);(case side1=>exact(Kd.Qp η.out).2.2);(case side2=>exact(Kd.Qp η.out).2.1);rintro e w8 ⟨rfl,hb⟩;have Z:=Aside0.mk (Kd.Qt η.out hb);have ε :=Aside0.mk (Kept.below (S:=(fun k_=>X k_)) (by repeat(first|(with_reducible first|exact HK.out|apply Kept.alloc|apply Kept.drewN|apply Kept.drew)|exact HK.out)) hb);have ι :=Aside0.mk (Qv HB.out hb);clear η;clear HK;clear HB;have η :=Z;have HK:= ε;have HB:= ι;clear Z ε ι;(try clear hb);(try clear a4);(try clear hk);(try clear hi))))
  go_loopg [5,6] k (fun kq v5 v6 w'=>∃ (B:List (S62)) (D:Int) (L:Int),v5 = .int .i64 D∧v6 = .int .i64 L∧Aside0 (api_Inside_64.l0 kq B J D L=some r)∧Aside0 (kq≤k)∧Aside0 (Kd.R k62 62 w' w0.heap.size (fun k_=>(X k_∨w.heap.size≤k_)) (.slice a2 l0.length μ) B)∧Aside0 (Kept w w' (fun k_=>X k_))∧Aside0 (Below w0.heap.size w0 w'))
  case atStart=>exact⟨(l0),(I),(wrap64 (I+1)),rfl,rfl,H',⟨Nat.le_refl _⟩,⟨by(with_reducible repeat first|apply Kd.Qk|apply Kd.Qj|apply Kd.Qm);exact η.out⟩,⟨by repeat(first|(with_reducible first|exact HK.out|apply Kept.alloc|apply Kept.drewN|apply Kept.drew)|exact HK.out)⟩,HB⟩
  case round=>
   clear H'
   try clear p2
   try clear c4
   try clear c4b0
   try clear c4b1
   try clear c6
   try clear p6
   try clear c7
   obtain⟨B,D,L,rfl,rfl,HA,σ,HO_0,HK,HB⟩:=hrel
   have θ :=(Kd.Qp HO_0.out).1
   rw[θ] at HO_0
   (try simp only[θ])
   cases gk with
   |zero=>exact absurd HA.out (by simp[api_Inside_64.l0])
   |succ k1=>
    have H:=HA.out
    clear HA
    simp only[api_Inside_64.l0] at H
    by_cases c9:L<(B.length:Int)
    ·rw[if_pos c9] at H
     have c9b0:decide (L<(B.length:Int))=true:=decide_eq_true c9
     clear c9
     by_cases c10:0≤L
     ·rw[if_pos c10] at H
      have c10b0:decide (0≤L)=true:=decide_eq_true c10
      clear c10
      replace H:=Option.bind_eq_some_iff.mp H
      obtain⟨γ,b7,H⟩:=H
      replace H:(if γ=true then (api_Inside_64.l0 k1 B J D (wrap64 (L+1))) else (if 0≤D then (if D<(B.length:Int) then (api_Inside_64.l0 k1 (B.set (D:Int).toNat (⟨(Qo B L).f0,(Qo B L).f1⟩:S62)) J (wrap64 (D+1)) (wrap64 (L+1))) else (none)) else (none)))=some r:=H
      have bv:=Aside0.mk b7
      clear b7
      by_cases cj:γ=true
      ·subst cj
       have H1:(api_Inside_64.l0 k1 B J D (wrap64 (L+1)))=some r:=by rw[if_pos rfl] at H;exact H
       clear H
       have H:=H1
       clear H1
       have H':=Aside0.mk H
       clear H
       have U:0≤(L:Int):=of_decide_eq_true (by assumption)
       have Y:L<(B.length:Int):=of_decide_eq_true (by assumption)
       obtain⟨bd,a8,χ,a0⟩:=Zu (Kd.Qp HO_0.out).2.2 L U Y
       cases a8
       replace U:=eq_true U
       replace Y:=eq_true Y
       go_wp2_with (first|((with_reducible refine Qs (N:=7) rfl ?_);refine qE 7 #[.int .i64 0,.int .i64 0] 62 ?_;intro ab hg fa hbox hb;have O:=Aside0.mk hbox;have ar:=Aside0.mk ((by rw[hg];exact(by first|exact HK.out.1|exact(show Kept w _ (fun k_=>X k_) from by repeat(first|(with_reducible first|exact HK.out|apply Kept.alloc|apply Kept.drewN|apply Kept.drew)|exact HK.out)).1):w.heap.size≤ab));have da:=Aside0.mk ((by rw[hg];exact(Ql bel):w0.heap.size≤ab));replace HO_0:=Aside0.mk (Kd.Qt (Kd.K3 (kra HO_0) ab (Nat.le_of_eq hg.symm)) hb);replace HK:=Aside0.mk (Kept.below (S:=(fun k_=>X k_)) (by repeat(first|(with_reducible first|exact HK.out|apply Kept.alloc|apply Kept.drewN|apply Kept.drew)|exact HK.out)) hb);replace HB:=sHb hb;clear hb hbox hg;obtain⟨am,an,ao,ap⟩:=qD2 O.out)|(go_at_call 65;((with_reducible refine(api_Inside_without_1.calls ((Qo B L).f0) ((Qo B L).f1) J true _ bv.out Ar_ nr_ cr_ gr_ gx_ zx_ (Xf HCR.out (by repeat(first|(with_reducible first|exact HK.out|apply Kept.alloc|apply Kept.drewN|apply Kept.drew|refine Kept.setCell ?_ (.inr ar.out) _)|exact HK.out)) HNR.out) (Xf HCX.out (by repeat(first|(with_reducible first|exact HK.out|apply Kept.alloc|apply Kept.drewN|apply Kept.drew|refine Kept.setCell ?_ (.inr ar.out) _)|exact HK.out)) HNX.out)).mono ?_);rintro e jc ⟨rfl,hb⟩;have Z:=Aside0.mk (Kd.Qt (by(with_reducible repeat first|apply Kd.Qk|apply Kd.Qj|apply Kd.Qm);exact(Kd.Qq (Kd.Qr (Kd.Qr (Kd.Qq HO_0.out (fun k_ hk=>(⟨hk,hk.2⟩:_∧k_≠ab))) (fun _ hk=>hk.2) (.int .i64 ((Qo B L).f0))) (fun _ hk=>hk.2) (.int .i64 ((Qo B L).f1))) (fun _ h_=>h_.1))) hb);have ε :=Aside0.mk (Qn (g:=ab) (o:=.cells #[.int .i64 ((Qo B L).f0),.int .i64 ((Qo B L).f1)] 62 (0,0)) (by(with_reducible repeat first|apply Qe|apply Qa|apply Qb);refine Qw (cs:=#[.int .i64 ((Qo B L).f0),.int .i64 0]) ?_ 1 _ rfl;(with_reducible repeat first|apply Qe|apply Qa|apply Qb);refine Qw (cs:=#[.int .i64 0,.int .i64 0]) ?_ 0 _ rfl;(with_reducible repeat first|apply Qe|apply Qa|apply Qb);exact O.out) hb);have ι :=Aside0.mk (Kept.below (S:=(fun k_=>X k_)) (by repeat(first|(with_reducible first|exact HK.out|apply Kept.alloc|apply Kept.drewN|apply Kept.drew|refine Kept.setCell ?_ (.inr ar.out) _)|exact HK.out)) hb);have κ :=Aside0.mk (Qv bel hb);clear HO_0;clear O;clear HK;clear HB;have HO_0:=Z;have O:= ε;have HK:= ι;have HB:= κ;clear Z ε ι κ;(try clear hb);(try clear a4);(try clear hk);(try clear hi))))
       (try simp only[← θ])
       go_roundg k1
       case measure=>have:=σ.out;omega
       case rel=>exact⟨(B),(D),(wrap64 (L+1)),rfl,rfl,H',⟨by have:=σ.out;omega⟩,⟨by(try simp only[θ]);(with_reducible repeat first|apply Kd.Qk|apply Kd.Qj|apply Kd.Qm);exact Kd.Qq HO_0.out (fun _ hk=>hk.1)⟩,⟨by repeat(first|(with_reducible first|exact HK.out|apply Kept.alloc|apply Kept.drewN|apply Kept.drew|refine Kept.setCell ?_ (.inr ar.out) _)|exact HK.out)⟩,HB⟩
      ·replace cj:=Bool.eq_false_iff.mpr cj
       subst cj
       have H1:(if 0≤D then (if D<(B.length:Int) then (api_Inside_64.l0 k1 (B.set (D:Int).toNat (⟨(Qo B L).f0,(Qo B L).f1⟩:S62)) J (wrap64 (D+1)) (wrap64 (L+1))) else (none)) else (none))=some r:=by rw[if_neg (show ¬ (false=true) by decide)] at H;exact H
       clear H
       have H:=H1
       clear H1
       by_cases a5:0≤D
       ·rw[if_pos a5] at H
        have c16b0:decide (0≤D)=true:=decide_eq_true a5
        clear a5
        by_cases aa:D<(B.length:Int)
        ·rw[if_pos aa] at H
         have c17b0:decide (D<(B.length:Int))=true:=decide_eq_true aa
         clear aa
         obtain⟨a9,ζ⟩:∃ y_:List (S62),y_=(B.set (D:Int).toNat (⟨(Qo B L).f0,(Qo B L).f1⟩:S62)):=⟨_,rfl⟩
         replace H:(api_Inside_64.l0 k1 a9 J (wrap64 (D+1)) (wrap64 (L+1)))=some r:=by first|(rw[ζ];with_reducible exact H)|(have τ :=(Option.bind_some _ _).symm.trans H;rw[ζ];with_reducible exact τ)|(have τ :=(Option.bind_some _ _).symm.trans H;with_reducible exact τ)|with_reducible exact H|(rw[ζ];exact H)|exact H
         have bk:=Aside0.mk ζ
         clear ζ
         have H':=Aside0.mk H
         clear H
         have U:0≤(L:Int):=of_decide_eq_true (by assumption)
         have Y:L<(B.length:Int):=of_decide_eq_true (by assumption)
         obtain⟨bd,a8,χ,a0⟩:=Zu (Kd.Qp HO_0.out).2.2 L U Y
         cases a8
         replace U:=eq_true U
         replace Y:=eq_true Y
         go_wp2_with (first|((with_reducible refine Qs (N:=7) rfl ?_);refine qE 7 #[.int .i64 0,.int .i64 0] 62 ?_;intro ab hg fb hbox hb;have O:=Aside0.mk hbox;have ar:=Aside0.mk ((by rw[hg];exact(by first|exact HK.out.1|exact(show Kept w _ (fun k_=>X k_) from by repeat(first|(with_reducible first|exact HK.out|apply Kept.alloc|apply Kept.drewN|apply Kept.drew)|exact HK.out)).1):w.heap.size≤ab));have da:=Aside0.mk ((by rw[hg];exact(Ql HB.out):w0.heap.size≤ab));replace HO_0:=Aside0.mk (Kd.Qt (Kd.K3 HO_0.out ab (Nat.le_of_eq hg.symm)) hb);replace HK:=Aside0.mk (Kept.below (S:=(fun k_=>X k_)) (by repeat(first|(with_reducible first|exact HK.out|apply Kept.alloc|apply Kept.drewN|apply Kept.drew)|exact HK.out)) hb);replace HB:=sHb hb;clear hb hbox hg;obtain⟨bh,bi,bn,bo⟩:=qD2 O.out)|(go_at_call 65;((with_reducible refine(api_Inside_without_1.calls ((Qo B L).f0) ((Qo B L).f1) J false _ bv.out Ar_ nr_ cr_ gr_ gx_ zx_ (Xf HCR.out (by repeat(first|(with_reducible first|exact HK.out|apply Kept.alloc|apply Kept.drewN|apply Kept.drew|refine Kept.setCell ?_ (.inr ar.out) _)|exact HK.out)) HNR.out) (Xf HCX.out (by repeat(first|(with_reducible first|exact HK.out|apply Kept.alloc|apply Kept.drewN|apply Kept.drew|refine Kept.setCell ?_ (.inr ar.out) _)|exact HK.out)) HNX.out)).mono ?_);rintro e d1 ⟨rfl,hb⟩;have Z:=Aside0.mk (Kd.Qt (by(with_reducible repeat first|apply Kd.Qk|apply Kd.Qj|apply Kd.Qm);exact(Kd.Qq (Kd.Qr (p:=⟨ab,1,none⟩) (Kd.Qr (p:=⟨ab,0,none⟩) (Kd.Qq HO_0.out (fun k_ hk=>(⟨hk,hk.2⟩:_∧k_≠ab))) (fun _ hk=>hk.2) (.int .i64 ((Qo B L).f0))) (fun _ hk=>hk.2) (.int .i64 ((Qo B L).f1))) (fun _ h_=>h_.1))) hb);have ε :=Aside0.mk (Qn (g:=ab) (o:=.cells #[.int .i64 ((Qo B L).f0),.int .i64 ((Qo B L).f1)] 62 (0,0)) (by(with_reducible repeat first|apply Qe|apply Qa|apply Qb);refine Qw (cs:=#[.int .i64 ((Qo B L).f0),.int .i64 0]) ?_ 1 _ rfl;(with_reducible repeat first|apply Qe|apply Qa|apply Qb);refine Qw (cs:=#[.int .i64 0,.int .i64 0]) ?_ 0 _ rfl;(with_reducible repeat first|apply Qe|apply Qa|apply Qb);exact O.out) hb);have ι :=Aside0.mk (Kept.below (S:=(fun k_=>X k_)) (by repeat(first|(with_reducible first|exact HK.out|apply Kept.alloc|apply Kept.drewN|apply Kept.drew|refine Kept.setCell ?_ (.inr ar.out) _)|exact HK.out)) hb);have κ :=Aside0.mk (Qv (by repeat(first|(with_reducible first|exact HB.out|apply Qh|apply Qc|apply Qf|refine Qd ?_ da.out)|exact HB.out)) hb);clear HO_0;clear O;clear HK;clear HB;have HO_0:=Z;have O:= ε;have HK:= ι;have HB:= κ;clear Z ε ι κ;(try clear hb);(try clear a4);(try clear hk);(try clear hi);obtain⟨bc,bp,bq,bs⟩:=qD2 O.out;have ak:0≤(D:Int):=of_decide_eq_true (by first|(with_reducible assumption)|assumption);have al:(D:Int)<((B.length:Int):Int):=of_decide_eq_true (by first|(with_reducible assumption)|assumption);obtain⟨δ,d2,bj,az,bl,dc,b6⟩:=Kd.Wj HO_0.out (by omega);(first|cases bj|(injection bj with ea_ en_ ec_;(first|subst ea_|(injection ea_ with ea_;subst ea_));subst ec_;clear en_));have aj:=Aside0.mk az;have dd:=Aside0.mk b6;clear az bl b6;have de:=Aside0.mk (show(X δ ∨ w.heap.size ≤ δ) from(HO_0.out.1 _ rfl).1);(first|simp only[add_plain] at χ |skip);(first|simp only[add_plain] at a0|skip);obtain⟨df,ba,b8,a3,af⟩:=Kd.Ga HO_0.out z62 (D:Int) ak al;obtain rfl:=J5 b8;have bm:d1.cell? ⟨δ,(D:Int).toNat * 2,none⟩=some (.int .i64 ((Qo B D).f0)):=a3 0 _ rfl;have bw:d1.cell? ⟨δ,(D:Int).toNat * 2+1,none⟩=some (.int .i64 ((Qo B D).f1)):=a3 1 _ rfl;have co:d1.frozen? ⟨δ,(D:Int).toNat * 2,none⟩=false:=af 0;have cp:d1.frozen? ⟨δ,(D:Int).toNat * 2+1,none⟩=false:=af 1;clear ba a3 af b8;replace ak:=eq_true ak;replace al:=eq_true al;have be:=Aside0.mk (show Kd.R k62 62 d1 w0.heap.size (fun k_=>(X k_∨w.heap.size≤k_)∧k_≠ab) (.slice (some ⟨δ,0,none⟩) B.length μ) B from(by(with_reducible repeat first|apply Kd.Qk|apply Kd.Qj|apply Kd.Qm);exact HO_0.out));obtain⟨dj,b1,bf,φ,ai⟩:=Kd.Ga be.out z62 (D:Int) (of_decide_eq_true (by first|(with_reducible assumption)|assumption)) (by have h_:(D:Int)<((B.length:Int):Int):=of_decide_eq_true (by first|(with_reducible assumption)|assumption);first|exact h_|(have e_:=(Kd.Qp HO_0.out).1;omega)|simpa using h_);obtain rfl:=J5 bf;have b0:=Kd.Mo be.out (D:Int) (of_decide_eq_true (by first|(with_reducible assumption)|assumption)) (by have h_:(D:Int)<((B.length:Int):Int):=of_decide_eq_true (by first|(with_reducible assumption)|assumption);first|exact h_|(have e_:=(Kd.Qp HO_0.out).1;omega)|simpa using h_) (seg:=[.int .i64 ((Qo B L).f0),.int .i64 ((Qo B L).f1)]) (j:=0) b1 φ (show 2≤2 from by decide) (x':=(⟨(Qo B L).f0,(Qo B L).f1⟩:S62)) (Jp _ _ _ (⟨(Qo B L).f0,(Qo B L).f1⟩:S62)) (fun _ hk=>hk);have bg:= φ 0 _ rfl;(try simp only[show(k62).sz=2 from rfl,Nat.mul_one,Nat.add_zero] at bg);have br:=ai 0;(try simp only[show(k62).sz=2 from rfl,Nat.mul_one,Nat.add_zero] at br);have bz:= φ 1 _ rfl;(try simp only[show(k62).sz=2 from rfl,Nat.mul_one,Nat.add_zero] at bz);have cb:=ai 1;(try simp only[show(k62).sz=2 from rfl,Nat.mul_one,Nat.add_zero] at cb);clear b1 φ ai bf))|((with_reducible refine Kg (t:=62) (p:=33) rfl ?_);refine Jw (t:=62) (p:=33) (v:=?vo_w24) (w1:=((d1.setCell ⟨δ,(D:Int).toNat * 2,none⟩ (.int .i64 ((Qo B L).f0))).setCell ⟨δ,(D:Int).toNat * 2+1,none⟩ (.int .i64 ((Qo B L).f1)))) ?hg ?ho ?hn ?hr ?_;(case ho=>rfl);(case hg=>rfl);(case hn=>rfl);(case hr=>go_simp <;> rfl);intro cx hw;have hg:d1.grownBy cx (some δ):=(by rw[hw];exact b0.2);have hp_:Kd.R k62 62 cx w0.heap.size (fun k_=>(X k_∨w.heap.size≤k_)∧k_≠ab) (.slice (some ⟨δ,0,none⟩) B.length μ) a9:=(by rw[hw,bk.out];exact b0.1);clear b0;replace O:=Aside0.mk (Q4 (g:=ab) (o:=.cells #[.int .i64 ((Qo B L).f0),.int .i64 ((Qo B L).f1)] 62 (0,0)) O.out hg (Kd.G6 HO_0.out (fun _ hk=>hk.2)));replace HB:=Aside0.mk ((by rw[hw];exact Qd (Qd (HB.out) aj.out) aj.out:Below w0.heap.size w0 cx));replace HK:=Aside0.mk (Kept.Kr (S:=(fun k_=>X k_)) hg (by repeat(first|(with_reducible first|exact HK.out|apply Kept.alloc|apply Kept.drewN|apply Kept.drew|refine Kept.setCell ?_ (.inr ar.out) _)|exact HK.out)) (fun k_ e_=>(HO_0.out.1 k_ e_).1));replace HO_0:=Aside0.mk hp_;clear hg hw hp_))
         (try simp only[← θ])
         go_roundg k1
         case measure=>have:=σ.out;omega
         case rel=>exact⟨(a9),(wrap64 (D+1)),(wrap64 (L+1)),rfl,rfl,H',⟨by have:=σ.out;omega⟩,⟨by(try simp only[θ]);(with_reducible repeat first|apply Kd.Qk|apply Kd.Qj|apply Kd.Qm);exact Kd.Qq HO_0.out (fun _ hk=>hk.1)⟩,⟨by repeat(first|(with_reducible first|exact HK.out|apply Kept.alloc|apply Kept.drewN|apply Kept.drew|refine Kept.setCell ?_ (.inr ar.out) _)|exact HK.out)⟩,HB⟩
        ·rw[if_neg aa] at H
         exact absurd H (by simp)
       ·rw[if_neg a5] at H
        exact absurd H (by simp)
     ·rw[if_neg c10] at H
      exact absurd H (by simp)
    ·rw[if_neg c9] at H
     have c9b0:decide (L<(B.length:Int))=false:=decide_eq_false c9
     clear c9
     by_cases bb:0≤D
     ·rw[if_pos bb] at H
      have c25b0:=eq_true bb
      have c25b1:decide (0≤D)=true:=decide_eq_true bb
      clear bb
      by_cases ac:D≤(B.length:Int)
      ·rw[if_pos ac] at H
       have c26b0:=eq_true ac
       have c26b1:decide (D≤(B.length:Int))=true:=decide_eq_true ac
       clear ac
       obtain⟨ρ,ν⟩:∃ y_:List (S62),y_=(B.drop (D:Int).toNat):=⟨_,rfl⟩
       replace H:(some (B.take (D:Int).toNat))=some r:=by first|(rw[ν];with_reducible exact H)|(have τ :=(Option.bind_some _ _).symm.trans H;rw[ν];with_reducible exact τ)|(have τ :=(Option.bind_some _ _).symm.trans H;with_reducible exact τ)|with_reducible exact H|(rw[ν];exact H)|exact H
       have b2:=Aside0.mk ν
       clear ν
       have c27b0:=eq_true (of_decide_eq_true (by assumption):D≤(B.length:Int))
       obtain⟨ag,ξ⟩:∃ y_:List (S62),y_=(B.take (D:Int).toNat):=⟨_,rfl⟩
       replace H:(some ag)=some r:=by first|(rw[ξ];with_reducible exact H)|(have τ :=(Option.bind_some _ _).symm.trans H;rw[ξ];with_reducible exact τ)|(have τ :=(Option.bind_some _ _).symm.trans H;with_reducible exact τ)|with_reducible exact H|(rw[ξ];exact H)|exact H
       have a7:=Aside0.mk ξ
       clear ξ
       obtain rfl:=Option.some.inj H
       have cd:(D:Int)≤((B.length:Int):Int):=of_decide_eq_true (by assumption)
       obtain⟨dk,b3,_,b4,_⟩:=info_parts Ji
       have hroom28:B.length ≤ μ :=(Kd.Qp HO_0.out).2.1
       have ce:Kd.C k62 _ a2 B.length B:=(Kd.Qp HO_0.out).2.2
       have cw:(0:Int)≤(D:Int):=of_decide_eq_true (by assumption)
       have cf:=Xg (P:=Try.prog) 25 62 .i64 Try.underlying25 b3 2 b4 a2 B.length μ D cw cd
       have ah:=Kd.Ms (m:=(D:Int).toNat) (c:= μ) ce (by omega) hroom28
       obtain⟨cq,au⟩:∃ A1,A1=(if μ = (D:Int).toNat then a2 else (a2:Option Addr).map (·.add ((D:Int).toNat * 2))):=⟨_,rfl⟩
       obtain⟨ax,av⟩:∃ c1,c1 = μ - (D:Int).toNat:=⟨_,rfl⟩
       have aw:ρ.length=B.length - (D:Int).toNat:=(by rw[b2.out,List.length_drop] <;> omega)
       rw[show(B).drop (D:Int).toNat=ρ from b2.out.symm] at ah
       replace ah:Kd.C k62 _ cq ρ.length ρ:=(by rw[au];exact ah)
       rw[← aw,← au,← av] at cf
       have bu:=Aside0.mk ah
       have ca:=Aside0.mk (show ρ.length≤ax from by rw[aw,av];exact Nat.sub_le_sub_right hroom28 _)
       have cy:=Aside0.mk av
       clear ah ce hroom28 b3 b4 av
       have cz:=Aside0.mk aw
       have d0:=Aside0.mk au
       clear aw au
       have d3:=Aside0.mk (show(D:Int).toNat≤B.length from by omega)
       replace cd:=eq_true cd
       have cg:(D:Int)≤((B.length:Int):Int):=of_decide_eq_true (by assumption)
       obtain⟨dl,b5,_,cm,_⟩:=info_parts Ji
       have ch:=Mg (P:=Try.prog) 25 62 .i64 Try.underlying25 b5 a2 B.length μ D (of_decide_eq_true (by assumption)) cg (Kd.Qp HO_0.out).2.1
       have ay:=Kd.Mm (m:=(D:Int).toNat) HO_0.out (by omega)
       have ck:ag.length=(D:Int).toNat:=(by rw[a7.out,List.length_take];omega)
       rw[← a7.out] at ay
       rw[← ck] at ay ch
       clear ck b5 cm
       have ci:=Aside0.mk ay
       clear ay
       replace cg:=eq_true cg
       go_wp2_with (first|((with_reducible refine Z5 (b:=.clear) (xs:=#[.tmp 38]) rfl ?_);refine G0 X2 (w:=w) (S:=fun k_=>X k_) rfl (.tmp 38) 25 rfl Try.underlying25 (.agg #[.int .i64 0,.int .i64 0]) zeroI (by decide) rfl a2 cq μ ax ρ.length B HO_0.out (D:Int).toNat d3.out d0.out cz.out cy.out rfl HB.out HK.out (fun _ hk=>hk) ag (a7.out) ?_;intro dm cr ct cu;have Z:=Aside0.mk cr;have ε :=Aside0.mk ct;have ι :=Aside0.mk cu;clear cr ct cu HO_0 ci HB HK;have ci:=Z;have HB:= ε;have HK:= ι;clear Z ε ι))
       go_ret
       exact⟨_,rfl,by(with_reducible repeat first|apply Kd.Qk|apply Kd.Qj|apply Kd.Qm);exact ci.out,HB.out,by repeat(first|(with_reducible first|exact HK.out|apply Kept.alloc|apply Kept.drewN|apply Kept.drew)|exact HK.out)⟩
      ·rw[if_neg ac] at H
       exact absurd H (by simp)
     ·rw[if_neg bb] at H
      exact absurd H (by simp)
def api_Hall_62.l0:Nat→List (S56)→Int→Int→Int→Int→Int→Int→Option (Int×Bool)
 |0,_,_,_,_,_,_,_=>none
 |k+1,I,O,L,J,B,D,U=>if L<J then (if 0≤(wrap64 ((IntKind.u64.wrap (wrap64 (L+J))) / 2)) then (if (wrap64 ((IntKind.u64.wrap (wrap64 (L+J))) / 2))<(I.length:Int) then ((call_halls_1.f ((Qg I (wrap64 ((IntKind.u64.wrap (wrap64 (L+J))) / 2))).f0) ((Qg I (wrap64 ((IntKind.u64.wrap (wrap64 (L+J))) / 2))).f1) ((Qg I (wrap64 ((IntKind.u64.wrap (wrap64 (L+J))) / 2))).f2) B D U).bind fun γ=>(if γ<0 then (api_Hall_62.l0 k I O (wrap64 ((wrap64 ((IntKind.u64.wrap (wrap64 (L+J))) / 2))+1)) J B D U) else (api_Hall_62.l0 k I O L (wrap64 ((IntKind.u64.wrap (wrap64 (L+J))) / 2)) B D U))) else (none)) else (none)) else (if L<O then (if 0≤L then (if L<(I.length:Int) then ((call_halls_1.f ((Qg I L).f0) ((Qg I L).f1) ((Qg I L).f2) B D U).bind fun ρ=>(some (L,(ρ==0)))) else (none)) else (none)) else (some (L,false)))
def api_Hall_62.f (k:Nat) (l0:List (S56)) (J:Int) (O:Int) (X:Int) (a2:Int):Option (Int×Bool):=api_Hall_62.l0 k l0 (l0.length:Int) 0 (l0.length:Int) J O X
theorem api_Hall_62.Zk:∀ k,(∀ J L O D U X Y,LeO (api_Hall_62.l0 k J L O D U X Y) (api_Hall_62.l0 (k+1) J L O D U X Y))
 |0=>fun _ _ _ _ _ _ _ r h=>by simp[api_Hall_62.l0] at h
 |k+1=>by
  have B:=api_Hall_62.Zk k
  ·intro J L O D U X Y
   unfold api_Hall_62.l0
   repeat' first
   |(with_reducible exact B _ _ _ _ _ _ _)
   |(with_reducible exact LeO.refl _)
   |(with_reducible exact LeO.none _)
   |(with_reducible refine LeO.ite ?_ ?_)
   |(with_reducible refine LeO.bind ?_ (fun _=>?_))
   |exact B _ _ _ _ _ _ _
   |exact LeO.none _
   |refine LeO.ite ?_ ?_
   |refine LeO.bind ?_ (fun _=>?_)
theorem api_Hall_62.mono:∀ D J a2 X L k,LeO (api_Hall_62.f k D J a2 X L) (api_Hall_62.f (k+1) D J a2 X L):=by
 intro D J a2 X L k
 have B:=api_Hall_62.Zk k
 unfold api_Hall_62.f
 repeat' first
   |(with_reducible exact B _ _ _ _ _ _ _)
   |(with_reducible exact LeO.refl _)
   |(with_reducible exact LeO.none _)
   |(with_reducible refine LeO.ite ?_ ?_)
   |(with_reducible refine LeO.bind ?_ (fun _=>?_))
   |exact B _ _ _ _ _ _ _
   |exact LeO.none _
   |refine LeO.ite ?_ ?_
   |refine LeO.bind ?_ (fun _=>?_)
def api_Hall_62.T5:Bool×List (List Nat×List Nat):=(true,[([],[]),([],[]),([],[]),([1,2],[1,2]),([3],[3]),([],[]),([0,4,5],[0,4,5]),([6],[6])])
def api_Hall_62.B5:List Nat:=[0,0,0,6,14,0,63,127]
theorem api_Hall_62.Vq:rtab .any (opsOf Try.f62 5)=api_Hall_62.T5:=by kernel_rfl
theorem api_Hall_62.Kx:Zp api_Hall_62.T5.2 api_Hall_62.B5=true:=by kernel_rfl
def api_Hall_62.T8:Bool×List (List Nat×List Nat):=(true,[([],[]),([],[]),([],[]),([1,2],[1,2]),([3],[3]),([4],[4]),([4],[4]),([4],[4]),([6,7,4],[4,6,7]),([8,4],[4,8]),([4],[4]),([5,9,10,4,4],[4,5,9,10]),([11,4],[4,11]),([4,12],[4,12]),([0,11,0],[0]),([13,14,0,1,2,3,4,5,6,7,8,9,10,11,12,13,14],[13])])
def api_Hall_62.B8:List Nat:=[0,0,0,6,14,30,30,30,222,478,30,2046,4094,8190,4095,32767]
theorem api_Hall_62.Lt:rtab .any (opsOf Try.f62 8)=api_Hall_62.T8:=by kernel_rfl
theorem api_Hall_62.Uu:Zp api_Hall_62.T8.2 api_Hall_62.B8=true:=by kernel_rfl
set_option maxHeartbeats 8000000 in
set_option maxRecDepth 100000 in
theorem api_Hall_62.calls (k:Nat) (Y:Option Addr) (c0:Nat) (l0:List (S56)) (J:Int) (O:Int) (X:Int) (a2:Int) (r1:Int) (r2:Bool) (w:World) (ε :Kd.C k56 w Y l0.length l0) (L:l0.length≤c0) (h:api_Hall_62.f k l0 J O X a2=some (r1,r2)):
  Calls Try.prog 62 #[.slice Y l0.length c0,.agg #[.int .i64 J,.int .i64 O,.int .i64 X],.func (.func 51) #[] #[]] w fun e w'=>e = .returned (.tuple #[.int .i64 r1,.bool r2])∧Below w.heap.size w w':=by
 have b2:=Try.underlying56
 have θ :=Aside0.mk ε
 have a6:=Aside0.mk L
 clear ε L
 have HB:=Aside0.mk (Below.refl w.heap.size w)
 have H:(api_Hall_62.l0 k l0 (l0.length:Int) 0 (l0.length:Int) J O X)=some (r1,r2):=h
 clear h
 have H':=Aside0.mk H
 clear H
 go_enter Try.func62,Try.ntmps62
 go_wp2_with (first|((with_reducible refine Qs (N:=4) rfl ?_);refine qE 4 #[.int .i64 J,.int .i64 O,.int .i64 X] 56 ?_;intro δ hg w4 hbox hb;have U:=Aside0.mk hbox;have av:=sGe hg;have b3:=sGe hg;replace HB:=sHb hb;clear hb hbox hg))
 go_loopg [9,10] k (fun kq v9 af w'=>∃ (I:Int) (B:Int),v9 = .int .i64 I∧af = .int .i64 B∧Aside0 (api_Hall_62.l0 kq l0 (l0.length:Int) I B J O X=some (r1,r2))∧Aside0 (kq≤k)∧Aside0 (w'.heap[δ]?=some (.cells #[.int .i64 J,.int .i64 O,.int .i64 X] 56 (0,0)))∧Aside0 (Below w.heap.size w w'))
 case atStart=>exact⟨(0),((l0.length:Int)),rfl,rfl,H',⟨Nat.le_refl _⟩,U,HB⟩
 case round=>
  clear H'
  try clear p2
  obtain⟨I,B,rfl,rfl,HA,σ,U,HB⟩:=hrel
  cases gk with
  |zero=>exact absurd HA.out (by simp[api_Hall_62.l0])
  |succ k1=>
   have H:=HA.out
   clear HA
   simp only[api_Hall_62.l0] at H
   by_cases c5:I<B
   ·rw[if_pos c5] at H
    have c5b0:decide (I<B)=true:=decide_eq_true c5
    clear c5
    obtain⟨D,ν⟩:∃ j_:Int,(wrap64 ((IntKind.u64.wrap (wrap64 (I+B))) / 2))=j_:=⟨_,rfl⟩
    replace H:(if 0≤(D) then (if (D)<(l0.length:Int) then ((call_halls_1.f ((Qg l0 (D)).f0) ((Qg l0 (D)).f1) ((Qg l0 (D)).f2) J O X).bind fun γ=>(if γ<0 then (api_Hall_62.l0 k1 l0 (l0.length:Int) (wrap64 ((D)+1)) B J O X) else (api_Hall_62.l0 k1 l0 (l0.length:Int) I D J O X))) else (none)) else (none))=some (r1,r2):=by first|(rw[ν] at H;exact H)|(simp only[ν] at H ⊢;exact H)
    have hji6w:(IntKind.i64.wrap ((IntKind.u64.wrap (wrap64 (I+B))) / 2))=D:=(Xm _).trans ν
    by_cases c7:0≤(D)
    ·rw[if_pos c7] at H
     have c7b0:decide (0≤(D))=true:=decide_eq_true c7
     clear c7
     by_cases c8:(D)<(l0.length:Int)
     ·rw[if_pos c8] at H
      have c8b0:decide ((D)<(l0.length:Int))=true:=decide_eq_true c8
      clear c8
      replace H:=Option.bind_eq_some_iff.mp H
      obtain⟨γ,ft,H⟩:=H
      replace H:(if γ<0 then (api_Hall_62.l0 k1 l0 (l0.length:Int) (wrap64 ((D)+1)) B J O X) else (api_Hall_62.l0 k1 l0 (l0.length:Int) I D J O X))=some (r1,r2):=H
      have A9:=Aside0.mk ft
      clear ft
      by_cases c10:γ<0
      ·rw[if_pos c10] at H
       have c10b0:decide (γ<0)=true:=decide_eq_true c10
       clear c10
       have H':=Aside0.mk H
       clear H
       try go_wp2
       replace U:=Aside0.mk (Qa U.out)
       replace HB:=Aside0.mk (Qf HB.out)
       have a1:0≤((D):Int):=of_decide_eq_true (by assumption)
       have a3:(D)<(l0.length:Int):=of_decide_eq_true (by assumption)
       obtain⟨τ,a7,Z,ζ,η⟩:=Zw θ.out (D) a1 a3
       have ι := η
       have κ := ζ
       have μ :=Z
       cases a7
       replace Z:=(HB.out.cell (World.block_lt_of_cell? w _ Z)).trans Z
       replace ζ :=(HB.out.cell (World.block_lt_of_cell? w _ ζ)).trans ζ
       replace η :=(HB.out.cell (World.block_lt_of_cell? w _ η)).trans η
       replace a1:=eq_true a1
       replace a3:=eq_true a3
       refine Zm (n:=8) (S:=fun w'=>w'.cell? ⟨δ,0,none⟩=some (.int .i64 J)∧w'.cell? ⟨δ,1,none⟩=some (.int .i64 O)∧w'.cell? ⟨δ,2,none⟩=some (.int .i64 X)∧w'.cell? (τ.add (((D)).toNat * 3))=some (.int .i64 ((Qg l0 (D)).f0))∧w'.cell? ⟨(τ.add (((D)).toNat * 3)).block,(τ.add (((D)).toNat * 3)).off+1,none⟩=some (.int .i64 ((Qg l0 (D)).f1))∧w'.cell? ⟨(τ.add (((D)).toNat * 3)).block,(τ.add (((D)).toNat * 3)).off+2,none⟩=some (.int .i64 ((Qg l0 (D)).f2))) (ds:=[]) #[false,false,false,false,false,false,false,false] kr rfl rfl ⟨(Qi U.out 0).trans rfl,(Qi U.out 1).trans rfl,(Qi U.out 2).trans rfl,((HB.out.cell (World.block_lt_of_cell? w _ μ)).trans μ),((HB.out.cell (World.block_lt_of_cell? w _ κ)).trans κ),((HB.out.cell (World.block_lt_of_cell? w _ ι)).trans ι)⟩ (fun hHeld=>?_);refine Q7 api_Hall_62.Vq api_Hall_62.Kx (fun HT_ HW_=>?_)
       generalize wr.drew=d6 at U HB Z ζ η hHeld ⊢
       refine qP 0 (some 24) (bN 8 1) HT_ ?_
       refine qP 1 (some 25) (bN 8 3) HT_ ?_
       refine qP 2 (some 26) (bN 8 7) HT_ ?_
       refine qP 3 (some 27) (bN 8 15) HT_ ?_
       refine qT 4 (some 28) (bN 8 31) HT_ HW_ hHeld ?_
       refine qT 5 (some 29) (bN 8 63) HT_ HW_ hHeld ?_
       refine Zi (i:=6) (N:=some 30) (bN 8 127) rfl rfl (Q2 HT_.out kr) (by decide) (fun K hK=>?_)
       refine Xj Try.func51 kr rfl #[] #[] #[.agg #[.int .i64 ((Qg l0 (D)).f0),.int .i64 ((Qg l0 (D)).f1),.int .i64 ((Qg l0 (D)).f2)],.agg #[.int .i64 J,.int .i64 O,.int .i64 X]] #[.agg #[.int .i64 ((Qg l0 (D)).f0),.int .i64 ((Qg l0 (D)).f1),.int .i64 ((Qg l0 (D)).f2)],.agg #[.int .i64 J,.int .i64 O,.int .i64 X]] rfl (by rfl) rfl rfl rfl (by(try simp only[List.map_toArray,List.map_cons,List.map_nil]);first|done|(simp only[ν];rfl)|rfl|(simp only[List.length_drop,List.length_take];rfl)) ?_
       with_reducible refine(call_halls_1.calls ((Qg l0 (D)).f0) ((Qg l0 (D)).f1) ((Qg l0 (D)).f2) J O X γ _ A9.out).mono ?_
       rintro e d5 ⟨rfl,hb⟩
       refine⟨_,rfl, ?_⟩
       replace U:=sBk U hb
       replace HB:=sHb hb
       (try clear hb)
       (try clear a4)
       (try clear hk)
       (try clear hi)
       refine hK.out _ _ ⟨qc U,qc U,qc U,((HB.out.cell (World.block_lt_of_cell? w _ μ)).trans μ),((HB.out.cell (World.block_lt_of_cell? w _ κ)).trans κ),((HB.out.cell (World.block_lt_of_cell? w _ ι)).trans ι)⟩ (fun hHeld=>?_)
       clear hK K
       refine qN (some 30) ?_
       refine qP 7 (some 31) (bN 8 255) HT_ ?_
       refine Zr (Ze HT_.out kr) ?_
       try go_wp2
       go_roundg k1
       case measure=>have:=σ.out;omega
       case rel=>exact⟨(wrap64 ((D)+1)),(B),(by first|rfl|(simp;done)|(simp only[← ν] <;> (first|rfl|simp))|(simp[*];done)),rfl,H',⟨by have:=σ.out;omega⟩,U,HB⟩
      ·rw[if_neg c10] at H
       have c10b0:decide (γ<0)=false:=decide_eq_false c10
       clear c10
       have H':=Aside0.mk H
       clear H
       try go_wp2
       replace U:=Aside0.mk (Qa U.out)
       replace HB:=Aside0.mk (Qf HB.out)
       have a1:0≤((D):Int):=of_decide_eq_true (by assumption)
       have a3:(D)<(l0.length:Int):=of_decide_eq_true (by assumption)
       obtain⟨τ,a7,Z,ζ,η⟩:=Zw θ.out (D) a1 a3
       have ι := η
       have κ := ζ
       have μ :=Z
       cases a7
       replace Z:=(HB.out.cell (World.block_lt_of_cell? w _ Z)).trans Z
       replace ζ :=(HB.out.cell (World.block_lt_of_cell? w _ ζ)).trans ζ
       replace η :=(HB.out.cell (World.block_lt_of_cell? w _ η)).trans η
       replace a1:=eq_true a1
       replace a3:=eq_true a3
       refine Zm (n:=8) (S:=fun w'=>w'.cell? ⟨δ,0,none⟩=some (.int .i64 J)∧w'.cell? ⟨δ,1,none⟩=some (.int .i64 O)∧w'.cell? ⟨δ,2,none⟩=some (.int .i64 X)∧w'.cell? (τ.add (((D)).toNat * 3))=some (.int .i64 ((Qg l0 (D)).f0))∧w'.cell? ⟨(τ.add (((D)).toNat * 3)).block,(τ.add (((D)).toNat * 3)).off+1,none⟩=some (.int .i64 ((Qg l0 (D)).f1))∧w'.cell? ⟨(τ.add (((D)).toNat * 3)).block,(τ.add (((D)).toNat * 3)).off+2,none⟩=some (.int .i64 ((Qg l0 (D)).f2))) (ds:=[]) #[false,false,false,false,false,false,false,false] kr rfl rfl ⟨(Qi U.out 0).trans rfl,(Qi U.out 1).trans rfl,(Qi U.out 2).trans rfl,((HB.out.cell (World.block_lt_of_cell? w _ μ)).trans μ),((HB.out.cell (World.block_lt_of_cell? w _ κ)).trans κ),((HB.out.cell (World.block_lt_of_cell? w _ ι)).trans ι)⟩ (fun hHeld=>?_);refine Q7 api_Hall_62.Vq api_Hall_62.Kx (fun HT_ HW_=>?_)
       generalize wr.drew=fa at U HB Z ζ η hHeld ⊢
       refine qP 0 (some 24) (bN 8 1) HT_ ?_
       refine qP 1 (some 25) (bN 8 3) HT_ ?_
       refine qP 2 (some 26) (bN 8 7) HT_ ?_
       refine qP 3 (some 27) (bN 8 15) HT_ ?_
       refine qT 4 (some 28) (bN 8 31) HT_ HW_ hHeld ?_
       refine qT 5 (some 29) (bN 8 63) HT_ HW_ hHeld ?_
       refine Zi (i:=6) (N:=some 30) (bN 8 127) rfl rfl (Q2 HT_.out kr) (by decide) (fun K hK=>?_)
       refine Xj Try.func51 kr rfl #[] #[] #[.agg #[.int .i64 ((Qg l0 (D)).f0),.int .i64 ((Qg l0 (D)).f1),.int .i64 ((Qg l0 (D)).f2)],.agg #[.int .i64 J,.int .i64 O,.int .i64 X]] #[.agg #[.int .i64 ((Qg l0 (D)).f0),.int .i64 ((Qg l0 (D)).f1),.int .i64 ((Qg l0 (D)).f2)],.agg #[.int .i64 J,.int .i64 O,.int .i64 X]] rfl (by rfl) rfl rfl rfl (by(try simp only[List.map_toArray,List.map_cons,List.map_nil]);first|done|(simp only[ν];rfl)|rfl|(simp only[List.length_drop,List.length_take];rfl)) ?_
       with_reducible refine(call_halls_1.calls ((Qg l0 (D)).f0) ((Qg l0 (D)).f1) ((Qg l0 (D)).f2) J O X γ _ A9.out).mono ?_
       rintro e f9 ⟨rfl,hb⟩
       refine⟨_,rfl, ?_⟩
       replace U:=sBk U hb
       replace HB:=sHb hb
       (try clear hb)
       (try clear a4)
       (try clear hk)
       (try clear hi)
       refine hK.out _ _ ⟨qc U,qc U,qc U,((HB.out.cell (World.block_lt_of_cell? w _ μ)).trans μ),((HB.out.cell (World.block_lt_of_cell? w _ κ)).trans κ),((HB.out.cell (World.block_lt_of_cell? w _ ι)).trans ι)⟩ (fun hHeld=>?_)
       clear hK K
       refine qN (some 30) ?_
       refine qP 7 (some 31) (bN 8 255) HT_ ?_
       refine Zr (Ze HT_.out kr) ?_
       try go_wp2
       go_roundg k1
       case measure=>have:=σ.out;omega
       case rel=>exact⟨(I),(D),rfl,(by first|rfl|(simp;done)|(simp only[← ν] <;> (first|rfl|simp))|(simp[*];done)),H',⟨by have:=σ.out;omega⟩,U,HB⟩
     ·rw[if_neg c8] at H
      exact absurd H (by simp)
    ·rw[if_neg c7] at H
     exact absurd H (by simp)
   ·rw[if_neg c5] at H
    have c5b0:decide (I<B)=false:=decide_eq_false c5
    clear c5
    by_cases ah:I<(l0.length:Int)
    ·rw[if_pos ah] at H
     have c15b0:decide (I<(l0.length:Int))=true:=decide_eq_true ah
     clear ah
     by_cases a5:0≤I
     ·rw[if_pos a5] at H
      have c16b0:decide (0≤I)=true:=decide_eq_true a5
      clear a5
      by_cases aa:I<(l0.length:Int)
      ·rw[if_pos aa] at H
       have c17b0:decide (I<(l0.length:Int))=true:=decide_eq_true aa
       clear aa
       replace H:=Option.bind_eq_some_iff.mp H
       obtain⟨ρ,be,H⟩:=H
       replace H:(some (I,(ρ==0)))=some (r1,r2):=H
       have bz:=Aside0.mk be
       clear be
       simp only[Option.some.injEq,Prod.mk.injEq] at H
       obtain⟨rfl,rfl⟩:=H
       try go_wp2
       replace U:=Aside0.mk (Qa U.out)
       replace HB:=Aside0.mk (Qf HB.out)
       have aj:0≤(I:Int):=of_decide_eq_true (by assumption)
       have al:I<(l0.length:Int):=of_decide_eq_true (by assumption)
       obtain⟨b6,d9,ξ,ψ,ω⟩:=Zw θ.out I aj al
       have φ := ω
       have χ := ψ
       have a0:= ξ
       cases d9
       replace ξ :=(HB.out.cell (World.block_lt_of_cell? w _ ξ)).trans ξ
       replace ψ :=(HB.out.cell (World.block_lt_of_cell? w _ ψ)).trans ψ
       replace ω :=(HB.out.cell (World.block_lt_of_cell? w _ ω)).trans ω
       replace aj:=eq_true aj
       replace al:=eq_true al
       refine Zm (n:=16) (S:=fun w'=>w'.cell? ⟨δ,0,none⟩=some (.int .i64 J)∧w'.cell? ⟨δ,1,none⟩=some (.int .i64 O)∧w'.cell? ⟨δ,2,none⟩=some (.int .i64 X)∧w'.cell? (b6.add ((I).toNat * 3))=some (.int .i64 ((Qg l0 I).f0))∧w'.cell? ⟨(b6.add ((I).toNat * 3)).block,(b6.add ((I).toNat * 3)).off+1,none⟩=some (.int .i64 ((Qg l0 I).f1))∧w'.cell? ⟨(b6.add ((I).toNat * 3)).block,(b6.add ((I).toNat * 3)).off+2,none⟩=some (.int .i64 ((Qg l0 I).f2))) (ds:=[]) #[false,false,false,false,false,false,false,false,false,false,false,false,false,false,false,false] kr rfl rfl ⟨(Qi U.out 0).trans rfl,(Qi U.out 1).trans rfl,(Qi U.out 2).trans rfl,((HB.out.cell (World.block_lt_of_cell? w _ a0)).trans a0),((HB.out.cell (World.block_lt_of_cell? w _ χ)).trans χ),((HB.out.cell (World.block_lt_of_cell? w _ φ)).trans φ)⟩ (fun hHeld=>?_);refine Q7 api_Hall_62.Lt api_Hall_62.Uu (fun HT_ HW_=>?_)
       generalize wr.drew=fb at U HB ξ ψ ω hHeld ⊢
       refine qP 0 (some 35) (bN 16 1) HT_ ?_
       refine qP 1 (some 36) (bN 16 3) HT_ ?_
       refine qP 2 (some 37) (bN 16 7) HT_ ?_
       refine qP 3 (some 38) (bN 16 15) HT_ ?_
       refine qP 4 (some 39) (bN 16 31) HT_ ?_
       refine qP 5 (some 40) (bN 16 63) HT_ ?_
       refine qP 6 (some 41) (bN 16 127) HT_ ?_
       refine qP 7 (some 42) (bN 16 255) HT_ ?_
       refine qP 8 (some 43) (bN 16 511) HT_ ?_
       refine qT 9 (some 44) (bN 16 1023) HT_ HW_ hHeld ?_
       refine qT 10 (some 45) (bN 16 2047) HT_ HW_ hHeld ?_
       refine Zi (i:=11) (N:=some 46) (bN 16 4095) rfl rfl (Q2 HT_.out kr) (by decide) (fun K hK=>?_)
       refine Xj Try.func51 kr rfl #[] #[] #[.agg #[.int .i64 ((Qg l0 I).f0),.int .i64 ((Qg l0 I).f1),.int .i64 ((Qg l0 I).f2)],.agg #[.int .i64 J,.int .i64 O,.int .i64 X]] #[.agg #[.int .i64 ((Qg l0 I).f0),.int .i64 ((Qg l0 I).f1),.int .i64 ((Qg l0 I).f2)],.agg #[.int .i64 J,.int .i64 O,.int .i64 X]] rfl (by rfl) rfl rfl rfl qM ?_
       with_reducible refine(call_halls_1.calls ((Qg l0 I).f0) ((Qg l0 I).f1) ((Qg l0 I).f2) J O X ρ _ bz.out).mono ?_
       rintro e eu ⟨rfl,hb⟩
       refine⟨_,rfl, ?_⟩
       replace U:=sBk U hb
       replace HB:=sHb hb
       (try clear hb)
       (try clear a4)
       (try clear hk)
       (try clear hi)
       refine hK.out _ _ ⟨qc U,qc U,qc U,((HB.out.cell (World.block_lt_of_cell? w _ a0)).trans a0),((HB.out.cell (World.block_lt_of_cell? w _ χ)).trans χ),((HB.out.cell (World.block_lt_of_cell? w _ φ)).trans φ)⟩ (fun hHeld=>?_)
       clear hK K
       refine qN (some 46) ?_
       refine qP 12 (some 47) (bN 16 8191) HT_ ?_
       refine qP 13 (some 48) (bN 16 16383) HT_ ?_
       refine qP 14 (some 6) (bN 16 32767) HT_ ?_
       refine qP 15 (some 7) (bN 16 65535) HT_ ?_
       refine Zr (Ze HT_.out kr) ?_
       try go_wp2
       go_ret2
       exact⟨rfl,HB.out⟩
      ·rw[if_neg aa] at H
       exact absurd H (by simp)
     ·rw[if_neg a5] at H
      exact absurd H (by simp)
    ·rw[if_neg ah] at H
     have c15b0:decide (I<(l0.length:Int))=false:=decide_eq_false ah
     clear ah
     simp only[Option.some.injEq,Prod.mk.injEq] at H
     obtain⟨rfl,rfl⟩:=H
     try go_wp2
     replace U:=Aside0.mk (Qa U.out)
     replace HB:=Aside0.mk (Qf HB.out)
     refine Zm (n:=16) (S:=fun w'=>True) (ds:=[]) #[false,false,false,false,false,false,false,false,false,false,false,false,false,false,false,false] kr rfl rfl trivial (fun hHeld=>?_);refine Q7 api_Hall_62.Lt api_Hall_62.Uu (fun HT_ HW_=>?_)
     generalize wr.drew=d1 at U HB hHeld ⊢
     refine qP 0 (some 35) (bN 16 1) HT_ ?_
     refine qP 1 (some 36) (bN 16 3) HT_ ?_
     refine qP 2 (some 37) (bN 16 7) HT_ ?_
     refine qP 3 (some 38) (bN 16 15) HT_ ?_
     refine qP 4 (some 39) (bN 16 31) HT_ ?_
     refine qU 5 (some 40) (bN 16 63) HT_ ?_
     refine qU 6 (some 41) (bN 16 127) HT_ ?_
     refine qU 7 (some 42) (bN 16 255) HT_ ?_
     refine qU 8 (some 43) (bN 16 511) HT_ ?_
     refine qU 9 (some 44) (bN 16 1023) HT_ ?_
     refine qU 10 (some 45) (bN 16 2047) HT_ ?_
     refine qU 11 (some 46) (bN 16 4095) HT_ ?_
     refine qU 12 (some 47) (bN 16 8191) HT_ ?_
     refine qP 13 (some 48) (bN 16 16383) HT_ ?_
     refine qP 14 (some 6) (bN 16 32767) HT_ ?_
     refine qP 15 (some 7) (bN 16 65535) HT_ ?_
     refine Zr (Ze HT_.out kr) ?_
     try go_wp2
     go_ret2
     exact⟨rfl,HB.out⟩
def api_Inside_58.l0:Nat→List (S62)→Int→Int→Int→Int→Int→Option (Int×Bool)
 |0,_,_,_,_,_,_=>none
 |k+1,I,O,L,J,B,D=>if L<J then (if 0≤(wrap64 ((IntKind.u64.wrap (wrap64 (L+J))) / 2)) then (if (wrap64 ((IntKind.u64.wrap (wrap64 (L+J))) / 2))<(I.length:Int) then ((call_ins_1.f ((Qo I (wrap64 ((IntKind.u64.wrap (wrap64 (L+J))) / 2))).f0) ((Qo I (wrap64 ((IntKind.u64.wrap (wrap64 (L+J))) / 2))).f1) B D).bind fun a0=>(if a0<0 then (api_Inside_58.l0 k I O (wrap64 ((wrap64 ((IntKind.u64.wrap (wrap64 (L+J))) / 2))+1)) J B D) else (api_Inside_58.l0 k I O L (wrap64 ((IntKind.u64.wrap (wrap64 (L+J))) / 2)) B D))) else (none)) else (none)) else (if L<O then (if 0≤L then (if L<(I.length:Int) then ((call_ins_1.f ((Qo I L).f0) ((Qo I L).f1) B D).bind fun φ =>(some (L,(φ == 0)))) else (none)) else (none)) else (some (L,false)))
def api_Inside_58.f (k:Nat) (l0:List (S62)) (J:Int) (O:Int) (a2:Int):Option (Int×Bool):=api_Inside_58.l0 k l0 (l0.length:Int) 0 (l0.length:Int) J O
theorem api_Inside_58.Zk:∀ k,(∀ J L O D U X,LeO (api_Inside_58.l0 k J L O D U X) (api_Inside_58.l0 (k+1) J L O D U X))
 |0=>fun _ _ _ _ _ _ r h=>by simp[api_Inside_58.l0] at h
 |k+1=>by
  have B:=api_Inside_58.Zk k
  ·intro J L O D U X
   unfold api_Inside_58.l0
   repeat' first
   |(with_reducible exact B _ _ _ _ _ _)
   |(with_reducible exact LeO.refl _)
   |(with_reducible exact LeO.none _)
   |(with_reducible refine LeO.ite ?_ ?_)
   |(with_reducible refine LeO.bind ?_ (fun _=>?_))
   |exact B _ _ _ _ _ _
   |exact LeO.none _
   |refine LeO.ite ?_ ?_
   |refine LeO.bind ?_ (fun _=>?_)
theorem api_Inside_58.mono:∀ D J a2 X k,LeO (api_Inside_58.f k D J a2 X) (api_Inside_58.f (k+1) D J a2 X):=by
 intro D J a2 X k
 have B:=api_Inside_58.Zk k
 unfold api_Inside_58.f
 repeat' first
   |(with_reducible exact B _ _ _ _ _ _)
   |(with_reducible exact LeO.refl _)
   |(with_reducible exact LeO.none _)
   |(with_reducible refine LeO.ite ?_ ?_)
   |(with_reducible refine LeO.bind ?_ (fun _=>?_))
   |exact B _ _ _ _ _ _
   |exact LeO.none _
   |refine LeO.ite ?_ ?_
   |refine LeO.bind ?_ (fun _=>?_)
def api_Inside_58.T5:Bool×List (List Nat×List Nat):=(true,[([],[]),([],[]),([],[]),([1,2],[1,2]),([3],[3]),([],[]),([0,4,5],[0,4,5]),([6],[6])])
def api_Inside_58.B5:List Nat:=[0,0,0,6,14,0,63,127]
theorem api_Inside_58.Vq:rtab .any (opsOf Try.f58 5)=api_Inside_58.T5:=by kernel_rfl
theorem api_Inside_58.Kx:Zp api_Inside_58.T5.2 api_Inside_58.B5=true:=by kernel_rfl
def api_Inside_58.T8:Bool×List (List Nat×List Nat):=(true,[([],[]),([],[]),([],[]),([1,2],[1,2]),([3],[3]),([4],[4]),([4],[4]),([4],[4]),([6,7,4],[4,6,7]),([8,4],[4,8]),([4],[4]),([5,9,10,4,4],[4,5,9,10]),([11,4],[4,11]),([4,12],[4,12]),([0,11,0],[0]),([13,14,0,1,2,3,4,5,6,7,8,9,10,11,12,13,14],[13])])
def api_Inside_58.B8:List Nat:=[0,0,0,6,14,30,30,30,222,478,30,2046,4094,8190,4095,32767]
theorem api_Inside_58.Lt:rtab .any (opsOf Try.f58 8)=api_Inside_58.T8:=by kernel_rfl
theorem api_Inside_58.Uu:Zp api_Inside_58.T8.2 api_Inside_58.B8=true:=by kernel_rfl
set_option maxHeartbeats 8000000 in
set_option maxRecDepth 100000 in
theorem api_Inside_58.calls (k:Nat) (Y:Option Addr) (c0:Nat) (l0:List (S62)) (J:Int) (O:Int) (a2:Int) (r1:Int) (r2:Bool) (w:World) (ε :Kd.C k62 w Y l0.length l0) (L:l0.length≤c0) (h:api_Inside_58.f k l0 J O a2=some (r1,r2)):
  Calls Try.prog 58 #[.slice Y l0.length c0,.agg #[.int .i64 J,.int .i64 O],.func (.func 57) #[] #[]] w fun e w'=>e = .returned (.tuple #[.int .i64 r1,.bool r2])∧Below w.heap.size w w':=by
 have b9:=Try.underlying62
 have θ :=Aside0.mk ε
 have a6:=Aside0.mk L
 clear ε L
 have HB:=Aside0.mk (Below.refl w.heap.size w)
 have H:(api_Inside_58.l0 k l0 (l0.length:Int) 0 (l0.length:Int) J O)=some (r1,r2):=h
 clear h
 have H':=Aside0.mk H
 clear H
 go_enter Try.func58,Try.ntmps58
 go_wp2_with (first|((with_reducible refine Qs (N:=4) rfl ?_);refine qE 4 #[.int .i64 J,.int .i64 O] 62 ?_;intro τ hg w4 hbox hb;have U:=Aside0.mk hbox;have bh:=sGe hg;have bi:=sGe hg;replace HB:=sHb hb;clear hb hbox hg))
 go_loopg [9,10] k (fun kq v9 af w'=>∃ (I:Int) (B:Int),v9 = .int .i64 I∧af = .int .i64 B∧Aside0 (api_Inside_58.l0 kq l0 (l0.length:Int) I B J O=some (r1,r2))∧Aside0 (kq≤k)∧Aside0 (w'.heap[τ]?=some (.cells #[.int .i64 J,.int .i64 O] 62 (0,0)))∧Aside0 (Below w.heap.size w w'))
 case atStart=>exact⟨(0),((l0.length:Int)),rfl,rfl,H',⟨Nat.le_refl _⟩,U,HB⟩
 case round=>
  clear H'
  try clear p2
  obtain⟨I,B,rfl,rfl,HA,σ,U,HB⟩:=hrel
  cases gk with
  |zero=>exact absurd HA.out (by simp[api_Inside_58.l0])
  |succ k1=>
   have H:=HA.out
   clear HA
   simp only[api_Inside_58.l0] at H
   by_cases c5:I<B
   ·rw[if_pos c5] at H
    have c5b0:decide (I<B)=true:=decide_eq_true c5
    clear c5
    obtain⟨D,ν⟩:∃ j_:Int,(wrap64 ((IntKind.u64.wrap (wrap64 (I+B))) / 2))=j_:=⟨_,rfl⟩
    replace H:(if 0≤(D) then (if (D)<(l0.length:Int) then ((call_ins_1.f ((Qo l0 (D)).f0) ((Qo l0 (D)).f1) J O).bind fun a0=>(if a0<0 then (api_Inside_58.l0 k1 l0 (l0.length:Int) (wrap64 ((D)+1)) B J O) else (api_Inside_58.l0 k1 l0 (l0.length:Int) I D J O))) else (none)) else (none))=some (r1,r2):=by first|(rw[ν] at H;exact H)|(simp only[ν] at H ⊢;exact H)
    have hji6w:(IntKind.i64.wrap ((IntKind.u64.wrap (wrap64 (I+B))) / 2))=D:=(Xm _).trans ν
    by_cases c7:0≤(D)
    ·rw[if_pos c7] at H
     have c7b0:decide (0≤(D))=true:=decide_eq_true c7
     clear c7
     by_cases c8:(D)<(l0.length:Int)
     ·rw[if_pos c8] at H
      have c8b0:decide ((D)<(l0.length:Int))=true:=decide_eq_true c8
      clear c8
      replace H:=Option.bind_eq_some_iff.mp H
      obtain⟨a0,ft,H⟩:=H
      replace H:(if a0<0 then (api_Inside_58.l0 k1 l0 (l0.length:Int) (wrap64 ((D)+1)) B J O) else (api_Inside_58.l0 k1 l0 (l0.length:Int) I D J O))=some (r1,r2):=H
      have A9:=Aside0.mk ft
      clear ft
      by_cases c10:a0<0
      ·rw[if_pos c10] at H
       have c10b0:decide (a0<0)=true:=decide_eq_true c10
       clear c10
       have H':=Aside0.mk H
       clear H
       try go_wp2
       replace U:=Aside0.mk (Qa U.out)
       replace HB:=Aside0.mk (Qf HB.out)
       have ξ :0≤((D):Int):=of_decide_eq_true (by assumption)
       have ρ:(D)<(l0.length:Int):=of_decide_eq_true (by assumption)
       obtain⟨ι,ψ,X,Z⟩:=Zu θ.out (D) ξ ρ
       have γ:=Z
       have δ :=X
       cases ψ
       replace X:=(HB.out.cell (World.block_lt_of_cell? w _ X)).trans X
       replace Z:=(HB.out.cell (World.block_lt_of_cell? w _ Z)).trans Z
       replace ξ :=eq_true ξ
       replace ρ:=eq_true ρ
       refine Zm (n:=8) (S:=fun w'=>w'.cell? ⟨τ,0,none⟩=some (.int .i64 J)∧w'.cell? ⟨τ,1,none⟩=some (.int .i64 O)∧w'.cell? (ι.add (((D)).toNat * 2))=some (.int .i64 ((Qo l0 (D)).f0))∧w'.cell? ⟨(ι.add (((D)).toNat * 2)).block,(ι.add (((D)).toNat * 2)).off+1,none⟩=some (.int .i64 ((Qo l0 (D)).f1))) (ds:=[]) #[false,false,false,false,false,false,false,false] kr rfl rfl ⟨(Qi U.out 0).trans rfl,(Qi U.out 1).trans rfl,((HB.out.cell (World.block_lt_of_cell? w _ δ)).trans δ),((HB.out.cell (World.block_lt_of_cell? w _ γ)).trans γ)⟩ (fun hHeld=>?_);refine Q7 api_Inside_58.Vq api_Inside_58.Kx (fun HT_ HW_=>?_)
       generalize wr.drew=d6 at U HB X Z hHeld ⊢
       refine qP 0 (some 24) (bN 8 1) HT_ ?_
       refine qP 1 (some 25) (bN 8 3) HT_ ?_
       refine qP 2 (some 26) (bN 8 7) HT_ ?_
       refine qP 3 (some 27) (bN 8 15) HT_ ?_
       refine qT 4 (some 28) (bN 8 31) HT_ HW_ hHeld ?_
       refine qT 5 (some 29) (bN 8 63) HT_ HW_ hHeld ?_
       refine Zi (i:=6) (N:=some 30) (bN 8 127) rfl rfl (Q2 HT_.out kr) (by decide) (fun K hK=>?_)
       refine Xj Try.func57 kr rfl #[] #[] #[.agg #[.int .i64 ((Qo l0 (D)).f0),.int .i64 ((Qo l0 (D)).f1)],.agg #[.int .i64 J,.int .i64 O]] #[.agg #[.int .i64 ((Qo l0 (D)).f0),.int .i64 ((Qo l0 (D)).f1)],.agg #[.int .i64 J,.int .i64 O]] rfl (by rfl) rfl rfl rfl (by(try simp only[List.map_toArray,List.map_cons,List.map_nil]);first|done|(simp only[ν];rfl)|rfl|(simp only[List.length_drop,List.length_take];rfl)) ?_
       with_reducible refine(call_ins_1.calls ((Qo l0 (D)).f0) ((Qo l0 (D)).f1) J O a0 _ A9.out).mono ?_
       rintro e d5 ⟨rfl,hb⟩
       refine⟨_,rfl, ?_⟩
       replace U:=sBk U hb
       replace HB:=sHb hb
       (try clear hb)
       (try clear a4)
       (try clear hk)
       (try clear hi)
       refine hK.out _ _ ⟨qc U,qc U,((HB.out.cell (World.block_lt_of_cell? w _ δ)).trans δ),((HB.out.cell (World.block_lt_of_cell? w _ γ)).trans γ)⟩ (fun hHeld=>?_)
       clear hK K
       refine qN (some 30) ?_
       refine qP 7 (some 31) (bN 8 255) HT_ ?_
       refine Zr (Ze HT_.out kr) ?_
       try go_wp2
       go_roundg k1
       case measure=>have:=σ.out;omega
       case rel=>exact⟨(wrap64 ((D)+1)),(B),(by first|rfl|(simp;done)|(simp only[← ν] <;> (first|rfl|simp))|(simp[*];done)),rfl,H',⟨by have:=σ.out;omega⟩,U,HB⟩
      ·rw[if_neg c10] at H
       have c10b0:decide (a0<0)=false:=decide_eq_false c10
       clear c10
       have H':=Aside0.mk H
       clear H
       try go_wp2
       replace U:=Aside0.mk (Qa U.out)
       replace HB:=Aside0.mk (Qf HB.out)
       have ξ :0≤((D):Int):=of_decide_eq_true (by assumption)
       have ρ:(D)<(l0.length:Int):=of_decide_eq_true (by assumption)
       obtain⟨ι,ψ,X,Z⟩:=Zu θ.out (D) ξ ρ
       have γ:=Z
       have δ :=X
       cases ψ
       replace X:=(HB.out.cell (World.block_lt_of_cell? w _ X)).trans X
       replace Z:=(HB.out.cell (World.block_lt_of_cell? w _ Z)).trans Z
       replace ξ :=eq_true ξ
       replace ρ:=eq_true ρ
       refine Zm (n:=8) (S:=fun w'=>w'.cell? ⟨τ,0,none⟩=some (.int .i64 J)∧w'.cell? ⟨τ,1,none⟩=some (.int .i64 O)∧w'.cell? (ι.add (((D)).toNat * 2))=some (.int .i64 ((Qo l0 (D)).f0))∧w'.cell? ⟨(ι.add (((D)).toNat * 2)).block,(ι.add (((D)).toNat * 2)).off+1,none⟩=some (.int .i64 ((Qo l0 (D)).f1))) (ds:=[]) #[false,false,false,false,false,false,false,false] kr rfl rfl ⟨(Qi U.out 0).trans rfl,(Qi U.out 1).trans rfl,((HB.out.cell (World.block_lt_of_cell? w _ δ)).trans δ),((HB.out.cell (World.block_lt_of_cell? w _ γ)).trans γ)⟩ (fun hHeld=>?_);refine Q7 api_Inside_58.Vq api_Inside_58.Kx (fun HT_ HW_=>?_)
       generalize wr.drew=fa at U HB X Z hHeld ⊢
       refine qP 0 (some 24) (bN 8 1) HT_ ?_
       refine qP 1 (some 25) (bN 8 3) HT_ ?_
       refine qP 2 (some 26) (bN 8 7) HT_ ?_
       refine qP 3 (some 27) (bN 8 15) HT_ ?_
       refine qT 4 (some 28) (bN 8 31) HT_ HW_ hHeld ?_
       refine qT 5 (some 29) (bN 8 63) HT_ HW_ hHeld ?_
       refine Zi (i:=6) (N:=some 30) (bN 8 127) rfl rfl (Q2 HT_.out kr) (by decide) (fun K hK=>?_)
       refine Xj Try.func57 kr rfl #[] #[] #[.agg #[.int .i64 ((Qo l0 (D)).f0),.int .i64 ((Qo l0 (D)).f1)],.agg #[.int .i64 J,.int .i64 O]] #[.agg #[.int .i64 ((Qo l0 (D)).f0),.int .i64 ((Qo l0 (D)).f1)],.agg #[.int .i64 J,.int .i64 O]] rfl (by rfl) rfl rfl rfl (by(try simp only[List.map_toArray,List.map_cons,List.map_nil]);first|done|(simp only[ν];rfl)|rfl|(simp only[List.length_drop,List.length_take];rfl)) ?_
       with_reducible refine(call_ins_1.calls ((Qo l0 (D)).f0) ((Qo l0 (D)).f1) J O a0 _ A9.out).mono ?_
       rintro e f9 ⟨rfl,hb⟩
       refine⟨_,rfl, ?_⟩
       replace U:=sBk U hb
       replace HB:=sHb hb
       (try clear hb)
       (try clear a4)
       (try clear hk)
       (try clear hi)
       refine hK.out _ _ ⟨qc U,qc U,((HB.out.cell (World.block_lt_of_cell? w _ δ)).trans δ),((HB.out.cell (World.block_lt_of_cell? w _ γ)).trans γ)⟩ (fun hHeld=>?_)
       clear hK K
       refine qN (some 30) ?_
       refine qP 7 (some 31) (bN 8 255) HT_ ?_
       refine Zr (Ze HT_.out kr) ?_
       try go_wp2
       go_roundg k1
       case measure=>have:=σ.out;omega
       case rel=>exact⟨(I),(D),rfl,(by first|rfl|(simp;done)|(simp only[← ν] <;> (first|rfl|simp))|(simp[*];done)),H',⟨by have:=σ.out;omega⟩,U,HB⟩
     ·rw[if_neg c8] at H
      exact absurd H (by simp)
    ·rw[if_neg c7] at H
     exact absurd H (by simp)
   ·rw[if_neg c5] at H
    have c5b0:decide (I<B)=false:=decide_eq_false c5
    clear c5
    by_cases ah:I<(l0.length:Int)
    ·rw[if_pos ah] at H
     have c15b0:decide (I<(l0.length:Int))=true:=decide_eq_true ah
     clear ah
     by_cases a5:0≤I
     ·rw[if_pos a5] at H
      have c16b0:decide (0≤I)=true:=decide_eq_true a5
      clear a5
      by_cases aa:I<(l0.length:Int)
      ·rw[if_pos aa] at H
       have c17b0:decide (I<(l0.length:Int))=true:=decide_eq_true aa
       clear aa
       replace H:=Option.bind_eq_some_iff.mp H
       obtain⟨φ,be,H⟩:=H
       replace H:(some (I,(φ == 0)))=some (r1,r2):=H
       have bz:=Aside0.mk be
       clear be
       simp only[Option.some.injEq,Prod.mk.injEq] at H
       obtain⟨rfl,rfl⟩:=H
       try go_wp2
       replace U:=Aside0.mk (Qa U.out)
       replace HB:=Aside0.mk (Qf HB.out)
       have ω :0≤(I:Int):=of_decide_eq_true (by assumption)
       have a1:I<(l0.length:Int):=of_decide_eq_true (by assumption)
       obtain⟨χ,a3,ζ,η⟩:=Zu θ.out I ω a1
       have κ := η
       have μ := ζ
       cases a3
       replace ζ :=(HB.out.cell (World.block_lt_of_cell? w _ ζ)).trans ζ
       replace η :=(HB.out.cell (World.block_lt_of_cell? w _ η)).trans η
       replace ω :=eq_true ω
       replace a1:=eq_true a1
       refine Zm (n:=16) (S:=fun w'=>w'.cell? ⟨τ,0,none⟩=some (.int .i64 J)∧w'.cell? ⟨τ,1,none⟩=some (.int .i64 O)∧w'.cell? (χ.add ((I).toNat * 2))=some (.int .i64 ((Qo l0 I).f0))∧w'.cell? ⟨(χ.add ((I).toNat * 2)).block,(χ.add ((I).toNat * 2)).off+1,none⟩=some (.int .i64 ((Qo l0 I).f1))) (ds:=[]) #[false,false,false,false,false,false,false,false,false,false,false,false,false,false,false,false] kr rfl rfl ⟨(Qi U.out 0).trans rfl,(Qi U.out 1).trans rfl,((HB.out.cell (World.block_lt_of_cell? w _ μ)).trans μ),((HB.out.cell (World.block_lt_of_cell? w _ κ)).trans κ)⟩ (fun hHeld=>?_);refine Q7 api_Inside_58.Lt api_Inside_58.Uu (fun HT_ HW_=>?_)
       generalize wr.drew=fb at U HB ζ η hHeld ⊢
       refine qP 0 (some 35) (bN 16 1) HT_ ?_
       refine qP 1 (some 36) (bN 16 3) HT_ ?_
       refine qP 2 (some 37) (bN 16 7) HT_ ?_
       refine qP 3 (some 38) (bN 16 15) HT_ ?_
       refine qP 4 (some 39) (bN 16 31) HT_ ?_
       refine qP 5 (some 40) (bN 16 63) HT_ ?_
       refine qP 6 (some 41) (bN 16 127) HT_ ?_
       refine qP 7 (some 42) (bN 16 255) HT_ ?_
       refine qP 8 (some 43) (bN 16 511) HT_ ?_
       refine qT 9 (some 44) (bN 16 1023) HT_ HW_ hHeld ?_
       refine qT 10 (some 45) (bN 16 2047) HT_ HW_ hHeld ?_
       refine Zi (i:=11) (N:=some 46) (bN 16 4095) rfl rfl (Q2 HT_.out kr) (by decide) (fun K hK=>?_)
       refine Xj Try.func57 kr rfl #[] #[] #[.agg #[.int .i64 ((Qo l0 I).f0),.int .i64 ((Qo l0 I).f1)],.agg #[.int .i64 J,.int .i64 O]] #[.agg #[.int .i64 ((Qo l0 I).f0),.int .i64 ((Qo l0 I).f1)],.agg #[.int .i64 J,.int .i64 O]] rfl (by rfl) rfl rfl rfl qM ?_
       with_reducible refine(call_ins_1.calls ((Qo l0 I).f0) ((Qo l0 I).f1) J O φ _ bz.out).mono ?_
       rintro e eu ⟨rfl,hb⟩
       refine⟨_,rfl, ?_⟩
       replace U:=sBk U hb
       replace HB:=sHb hb
       (try clear hb)
       (try clear a4)
       (try clear hk)
       (try clear hi)
       refine hK.out _ _ ⟨qc U,qc U,((HB.out.cell (World.block_lt_of_cell? w _ μ)).trans μ),((HB.out.cell (World.block_lt_of_cell? w _ κ)).trans κ)⟩ (fun hHeld=>?_)
       clear hK K
       refine qN (some 46) ?_
       refine qP 12 (some 47) (bN 16 8191) HT_ ?_
       refine qP 13 (some 48) (bN 16 16383) HT_ ?_
       refine qP 14 (some 6) (bN 16 32767) HT_ ?_
       refine qP 15 (some 7) (bN 16 65535) HT_ ?_
       refine Zr (Ze HT_.out kr) ?_
       try go_wp2
       go_ret2
       exact⟨rfl,HB.out⟩
      ·rw[if_neg aa] at H
       exact absurd H (by simp)
     ·rw[if_neg a5] at H
      exact absurd H (by simp)
    ·rw[if_neg ah] at H
     have c15b0:decide (I<(l0.length:Int))=false:=decide_eq_false ah
     clear ah
     simp only[Option.some.injEq,Prod.mk.injEq] at H
     obtain⟨rfl,rfl⟩:=H
     try go_wp2
     replace U:=Aside0.mk (Qa U.out)
     replace HB:=Aside0.mk (Qf HB.out)
     refine Zm (n:=16) (S:=fun w'=>True) (ds:=[]) #[false,false,false,false,false,false,false,false,false,false,false,false,false,false,false,false] kr rfl rfl trivial (fun hHeld=>?_);refine Q7 api_Inside_58.Lt api_Inside_58.Uu (fun HT_ HW_=>?_)
     generalize wr.drew=d1 at U HB hHeld ⊢
     refine qP 0 (some 35) (bN 16 1) HT_ ?_
     refine qP 1 (some 36) (bN 16 3) HT_ ?_
     refine qP 2 (some 37) (bN 16 7) HT_ ?_
     refine qP 3 (some 38) (bN 16 15) HT_ ?_
     refine qP 4 (some 39) (bN 16 31) HT_ ?_
     refine qU 5 (some 40) (bN 16 63) HT_ ?_
     refine qU 6 (some 41) (bN 16 127) HT_ ?_
     refine qU 7 (some 42) (bN 16 255) HT_ ?_
     refine qU 8 (some 43) (bN 16 511) HT_ ?_
     refine qU 9 (some 44) (bN 16 1023) HT_ ?_
     refine qU 10 (some 45) (bN 16 2047) HT_ ?_
     refine qU 11 (some 46) (bN 16 4095) HT_ ?_
     refine qU 12 (some 47) (bN 16 8191) HT_ ?_
     refine qP 13 (some 48) (bN 16 16383) HT_ ?_
     refine qP 14 (some 6) (bN 16 32767) HT_ ?_
     refine qP 15 (some 7) (bN 16 65535) HT_ ?_
     refine Zr (Ze HT_.out kr) ?_
     try go_wp2
     go_ret2
     exact⟨rfl,HB.out⟩
end Go.Proofs.Ytjehhhlhalkieaa.C
