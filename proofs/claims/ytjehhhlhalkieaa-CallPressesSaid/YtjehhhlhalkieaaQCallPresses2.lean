/- Texts of this claim, one behind the other: what the law's functions come to, walked (printed by a program, with the words that the print uses), and what that is, in plain Lean. No conditions of their own. -/
import Derived.Test.YtjehhhlhalkieaaQCallPresses1
import Derived.Test.YtjehhhlhalkieaaProg
namespace Go.Proofs.YtjehhhlhalkieaaW.PrintWords
open Go.RowKit Go.Proofs.YtjehhhlhalkieaaW.PrintLast Go.Proofs.YtjehhhlhalkieaaW.PrintMore
def qB (n m:Nat):Array Bool:=((List.range n).map fun i=>m.testBit i).toArray
theorem qP {P:Program} {ops:Array Oper} {Q:Exit→Act→World→Prop} {md:Region.Mode} {S:World→Prop} {ds:List Nat} {oi:Oper} {v:Value} {fuel:Nat} {l:Array Bool} {a:Act} {w:World} {T:Bool×List (List Nat×List Nat)} (i:Nat) (N:Option Tmp) (l':Array Bool) (ht:Aside0 (rtab md ops=T)) {a':Act} (h:Zh P md ops Q S ds fuel l' a' w) (hi:ops[i]?=some oi:=by rfl) (hN:oi.dst=N:=by rfl) (hc:N4 T l.toList l'.toList i=true:=by kernel_rfl) (hQ:∀ c a w,Q (.panic c) (a.put oi.dst v) w→Q (.panic c) a w:=by exact(fun _ _ _ h=>h)) (hy:Yields P ops oi v a:=by(refine Or.inl ⟨by rfl, ?_⟩;intro w';go_simp;with_reducible rfl)) (ha:a.put N v=a':=by(simp only[Act.put,qS,Zg,Zj];rfl)):Zh P md ops Q S ds (fuel+1) l a w:=Zy l' hi hN (Na ht.out hc) hQ hy ha h
theorem qU {P:Program} {ops:Array Oper} {Q:Exit→Act→World→Prop} {md:Region.Mode} {S:World→Prop} {ds:List Nat} {oi:Oper} {fuel:Nat} {l:Array Bool} {a:Act} {w:World} {T:Bool×List (List Nat×List Nat)} (i:Nat) (N:Option Tmp) (l':Array Bool) (ht:Aside0 (rtab md ops=T)) {a':Act} (h:Zh P md ops Q S ds fuel l' a' w) (hi:ops[i]?=some oi:=by rfl) (hN:oi.dst=N:=by rfl) (hc:N4 T l.toList l'.toList i=true:=by kernel_rfl) (hQ:∀ c a w,Q (.panic c) (a.put oi.dst undef) w→Q (.panic c) a w:=by exact(fun _ _ _ h=>h)) (hy:Yields P ops oi undef a:=by exact(Or.inr ⟨by rfl,rfl⟩)) (ha:a.put N undef=a':=by(simp only[Act.put,qS,Zg,Zj];rfl)):Zh P md ops Q S ds (fuel+1) l a w:=Zy l' hi hN (Na ht.out hc) hQ hy ha h
theorem qT {P:Program} {ops:Array Oper} {Q:Exit→Act→World→Prop} {md:Region.Mode} {S:World→Prop} {ds:List Nat} {oi:Oper} {v:Value} {fuel:Nat} {l:Array Bool} {a:Act} {w:World} {T:Bool×List (List Nat×List Nat)} {B:List Nat} (i:Nat) (N:Option Tmp) (l':Array Bool) (ht:Aside0 (rtab md ops=T)) (hW:Aside0 (Zv T.snd B=true)) (hS:S w) {a':Act} (h:Zh P md ops Q S ds fuel l' a' w) (hi:ops[i]?=some oi:=by rfl) (hN:oi.dst=N:=by rfl) (hc:Mc T B ds l.toList l'.toList i=true:=by kernel_rfl) (hQ:∀ c a w,Q (.panic c) (a.put oi.dst v) w→Q (.panic c) a w:=by exact(fun _ _ _ h=>h)) (hy:YieldsIf P ops S oi v a:=by(refine Or.inl ⟨by rfl, ?_⟩;intro w' hs_;(repeat obtain⟨_,hs_⟩:=(hs_:_∧_));go_simp;with_reducible rfl)) (ha:a.put N v=a':=by(simp only[Act.put,qS,Zg,Zj];rfl)):Zh P md ops Q S ds (fuel+1) l a w:=Xs l' hi hN (Mb ht.out hW.out hc) hQ hy hS ha h
theorem qN {P:Program} {ops:Array Oper} {Q:Exit→Act→World→Prop} {md:Region.Mode} {S:World→Prop} {ds:List Nat} {v:Value} {fuel:Nat} {l:Array Bool} {a:Act} {w:World} (N:Option Tmp) {a':Act} (h:Zh P md ops Q S ds fuel l a' w) (ha:a.put N v=a':=by(simp only[Act.put,qS,Zg,Zj];rfl)):Zh P md ops Q S ds fuel l (a.put N v) w:=Xn ha h
theorem qc {w:World} {g i:Nat} {t:TypeId} {cs:Array Value} {v:Value} (b:Aside0 (w.heap[g]?=some (.cells cs t (0,0)))) (h:cs[i]?=some v:=by exact rfl):w.cell? ⟨g,i,none⟩=some v:=(Qi b.out i).trans h
theorem qM {p:Prop} (h:p:=by((try simp only[List.map_toArray,List.map_cons,List.map_nil]) <;> (first|done|rfl))):p:=h
theorem qE {P:Program} {ops:Array Oper} {Q:Exit→Act→World→Prop} {o:Oper} {rest:List Oper} {a:Act} {W:World} (N:Tmp) (cs:Array Value) (t:TypeId) (h:∀ g,g=W.heap.size → ∀ w1,w1.heap[g]?=some (.cells cs t (0,0))→Below W.heap.size W w1→wpList P ops Q rest (a.put o.dst (.pointer (some ⟨g,0,none⟩))) w1) (hd:o.dst=some N:=by rfl) (hg:o.guard=none:=by rfl) (hr:(execOp a.eval o).run P W = .ok (.value (.pointer (some ⟨W.heap.size,0,none⟩))) (W.alloc (.cells cs t (0,0))):=by(go_simp <;> rfl)):wpList P ops Q (o :: rest) a W:=Q7 hg (N:=N) hd (cs:=cs) (t:=t) hr h
theorem qD2 {w:World} {g:Nat} {t:TypeId} {D L:Value} (b:w.heap[g]?=some (.cells #[D,L] t (0,0))):w.cell? ⟨g,0,none⟩=some D∧w.cell? ⟨g,1,none⟩=some L∧w.frozen? ⟨g,0,none⟩=false∧w.frozen? ⟨g,1,none⟩=false:=⟨(Qi b 0).trans rfl,(Qi b 1).trans rfl,Q6 b 0,Q6 b 1⟩
theorem qD3 {w:World} {g:Nat} {t:TypeId} {D L a2:Value} (b:w.heap[g]?=some (.cells #[D,L,a2] t (0,0))):w.cell? ⟨g,0,none⟩=some D∧w.cell? ⟨g,1,none⟩=some L∧w.cell? ⟨g,2,none⟩=some a2∧w.frozen? ⟨g,0,none⟩=false∧w.frozen? ⟨g,1,none⟩=false∧w.frozen? ⟨g,2,none⟩=false:=⟨(Qi b 0).trans rfl,(Qi b 1).trans rfl,(Qi b 2).trans rfl,Q6 b 0,Q6 b 1,Q6 b 2⟩
end Go.Proofs.YtjehhhlhalkieaaW.PrintWords
namespace Go.Proofs.Ytjehhhlhalkieaa.C
open Go.RowKit Go.Proofs.YtjehhhlhalkieaaW.PrintWords Go.Proofs.YtjehhhlhalkieaaW.PrintLast Go.Proofs.YtjehhhlhalkieaaW.PrintMore
attribute [local go_sem] Z4 Z2 Xe Xd Zx Zw Z3 Z1
set_option linter.unusedVariables false
set_option linter.unusedSimpArgs false
def M0:Option Int→Value
 |none=>.nilIface
 |some c=>.iface 0 (.int .i64 c)
theorem Qy:M0 none = .nilIface:=rfl
theorem Qx (c:Int):M0 (some c) = .iface 0 (.int .i64 c):=rfl
theorem W5:(Try.prog.info? 3).map (fun i=>(i.zero,i.size,i.bytes))=some (some (.int .i64 0),1,8):=by kernel_rfl
theorem Xr:(Try.prog.info? 56).map (fun i=>(i.zero,i.size,i.bytes))=some (some (.agg #[(.int .i64 0),(.int .i64 0),(.int .i64 0)]),3,24):=by kernel_rfl
theorem Yd:(Try.prog.info? 62).map (fun i=>(i.zero,i.size,i.bytes))=some (some (.agg #[(.int .i64 0),(.int .i64 0)]),2,16):=by kernel_rfl
structure S56 where
 f0:Int
 f1:Int
 f2:Int
def z56:S56:=⟨(0:Int),(0:Int),(0:Int)⟩
def k56:Kd S56:=Kd.iso (Kd.pair (Kd.int .i64) (Kd.pair (Kd.int .i64) (Kd.int .i64))) (fun x:S56=>(x.f0,x.f1,x.f2))
theorem Mq:Kd.Heap k56:=Kd.Uy _ (Kd.Gb (Kd.J7 .i64) (Kd.Gb (Kd.J7 .i64) (Kd.J7 .i64)))
theorem K3 {w:World} {x:S56} {cs:List Value} (h:k56.K w x cs):cs = [.int .i64 x.f0,.int .i64 x.f1,.int .i64 x.f2]:=by
 obtain⟨_,_,rfl,rfl,⟨_,_,rfl,rfl,rfl⟩⟩:=h
 exact rfl
theorem Y2 {w:World} {base:Nat} {ok:Nat→Prop} {x:S56} {cs:List Value} (h:k56.M w base ok x cs):cs = [.int .i64 x.f0,.int .i64 x.f1,.int .i64 x.f2]:=by
 obtain⟨_,_,rfl,rfl,⟨_,_,rfl,rfl,rfl⟩⟩:=h
 exact rfl
theorem Mp (w:World) (x:S56):k56.K w x [.int .i64 x.f0,.int .i64 x.f1,.int .i64 x.f2]:=⟨[.int .i64 x.f0],[.int .i64 x.f1,.int .i64 x.f2],rfl,rfl,⟨[.int .i64 x.f1],[.int .i64 x.f2],rfl,rfl,rfl⟩⟩
theorem Xi (w:World) (base:Nat) (ok:Nat→Prop) (x:S56):k56.M w base ok x [.int .i64 x.f0,.int .i64 x.f1,.int .i64 x.f2]:=⟨[.int .i64 x.f0],[.int .i64 x.f1,.int .i64 x.f2],rfl,rfl,⟨[.int .i64 x.f1],[.int .i64 x.f2],rfl,rfl,rfl⟩⟩
def Qa (xs:List S56) (i:Int):S56:=xs.getD i.toNat z56
theorem Zo {w:World} {A:Option Addr} {n:Nat} {xs:List S56} (h:Kd.C k56 w A n xs) (i:Int) (U:0≤i) (h1:i<n):∃ ad,A=some ad∧w.cell? (ad.add (i.toNat * 3))=some (.int .i64 (Qa xs i).f0)∧w.cell? ⟨(ad.add (i.toNat * 3)).block,(ad.add (i.toNat * 3)).off+1,none⟩=some (.int .i64 (Qa xs i).f1)∧w.cell? ⟨(ad.add (i.toNat * 3)).block,(ad.add (i.toNat * 3)).off+2,none⟩=some (.int .i64 (Qa xs i).f2):=by
 obtain⟨ad,c,e,_,hK,a9⟩:=Kd.Ld h z56 i U h1
 have hc:∀ j u,c[j]?=some u→w.cell? (ad.add (i.toNat * 3+j))=some u:=a9
 obtain rfl:=K3 hK
 exact⟨ad,e,hc 0 _ rfl,by rw[← Y3 _ _ 1 (by omega)];exact hc 1 _ rfl,by rw[← Y3 _ _ 2 (by omega)];exact hc 2 _ rfl⟩
structure S62 where
 f0:Int
 f1:Int
def z62:S62:=⟨(0:Int),(0:Int)⟩
def k62:Kd S62:=Kd.iso (Kd.pair (Kd.int .i64) (Kd.int .i64)) (fun x:S62=>(x.f0,x.f1))
theorem Mo:Kd.Heap k62:=Kd.Uy _ (Kd.Gb (Kd.J7 .i64) (Kd.J7 .i64))
theorem Kz {w:World} {x:S62} {cs:List Value} (h:k62.K w x cs):cs = [.int .i64 x.f0,.int .i64 x.f1]:=by
 obtain⟨_,_,rfl,rfl,rfl⟩:=h
 exact rfl
theorem Kf {w:World} {base:Nat} {ok:Nat→Prop} {x:S62} {cs:List Value} (h:k62.M w base ok x cs):cs = [.int .i64 x.f0,.int .i64 x.f1]:=by
 obtain⟨_,_,rfl,rfl,rfl⟩:=h
 exact rfl
theorem Mn (w:World) (x:S62):k62.K w x [.int .i64 x.f0,.int .i64 x.f1]:=⟨[.int .i64 x.f0],[.int .i64 x.f1],rfl,rfl,rfl⟩
theorem Yb (w:World) (base:Nat) (ok:Nat→Prop) (x:S62):k62.M w base ok x [.int .i64 x.f0,.int .i64 x.f1]:=⟨[.int .i64 x.f0],[.int .i64 x.f1],rfl,rfl,rfl⟩
def Qk (xs:List S62) (i:Int):S62:=xs.getD i.toNat z62
theorem Zu {w:World} {A:Option Addr} {n:Nat} {xs:List S62} (h:Kd.C k62 w A n xs) (i:Int) (U:0≤i) (h1:i<n):∃ ad,A=some ad∧w.cell? (ad.add (i.toNat * 2))=some (.int .i64 (Qk xs i).f0)∧w.cell? ⟨(ad.add (i.toNat * 2)).block,(ad.add (i.toNat * 2)).off+1,none⟩=some (.int .i64 (Qk xs i).f1):=by
 obtain⟨ad,c,e,_,hK,a9⟩:=Kd.Ld h z62 i U h1
 have hc:∀ j u,c[j]?=some u→w.cell? (ad.add (i.toNat * 2+j))=some u:=a9
 obtain rfl:=Kz hK
 exact⟨ad,e,hc 0 _ rfl,by rw[← Y3 _ _ 1 (by omega)];exact hc 1 _ rfl⟩
structure S23 where
 f0:Int
 f1:Int
def k23:Kd S23:=Kd.iso (Kd.pair (Kd.int .i64) (Kd.int .i64)) (fun x:S23=>(x.f0,x.f1))
theorem Mt {w:World} {x:S23} {cs:List Value} (h:k23.K w x cs):cs = [.int .i64 x.f0,.int .i64 x.f1]:=by
 obtain⟨_,_,rfl,rfl,rfl⟩:=h
 exact rfl
structure S27 where
 f0:(List S56)
 f1:(List S62)
def k27:Kd S27:=Kd.iso (Kd.pair (Kd.slice 56 k56) (Kd.slice 62 k62)) (fun x:S27=>(x.f0,x.f1))
theorem Ms {w:World} {x:S27} {cs:List Value} (h:k27.K w x cs):∃ A0 c0 A1 c1,cs = [.slice A0 x.f0.length c0,.slice A1 x.f1.length c1]∧x.f0.length≤c0∧k56.C w A0 x.f0.length x.f0∧x.f1.length≤c1∧k62.C w A1 x.f1.length x.f1:=by
 obtain⟨_,_,rfl,⟨A0,c0,rfl,l0,B⟩,⟨A1,c1,rfl,l1,g1⟩⟩:=h
 exact⟨A0,c0,A1,c1,rfl,l0,B,l1,g1⟩
structure S29 where
 f0:Int
 f1:Int
 f2:Int
def k29:Kd S29:=Kd.iso (Kd.pair (Kd.int .i64) (Kd.pair (Kd.int .i64) (Kd.int .i64))) (fun x:S29=>(x.f0,x.f1,x.f2))
theorem Mr {w:World} {x:S29} {cs:List Value} (h:k29.K w x cs):cs = [.int .i64 x.f0,.int .i64 x.f1,.int .i64 x.f2]:=by
 obtain⟨_,_,rfl,rfl,⟨_,_,rfl,rfl,rfl⟩⟩:=h
 exact rfl
end Go.Proofs.Ytjehhhlhalkieaa.C
namespace Go.Proofs.Ytjehhhlhalkieaa.K
open Go.RowKit Go.Proofs.YtjehhhlhalkieaaW.PrintWords Go.Proofs.YtjehhhlhalkieaaW.PrintLast Go.Proofs.YtjehhhlhalkieaaW.PrintMore
attribute [local go_sem] Z4 Z2 Xe Xd Zx Zw Z3 Z1
set_option linter.unusedVariables false
set_option linter.unusedSimpArgs false
def M0:Option Int→Value
 |none=>.nilIface
 |some c=>.iface 0 (.int .i64 c)
theorem Qy:M0 none = .nilIface:=rfl
theorem Qx (c:Int):M0 (some c) = .iface 0 (.int .i64 c):=rfl
theorem W5:(Try.prog.info? 3).map (fun i=>(i.zero,i.size,i.bytes))=some (some (.int .i64 0),1,8):=by kernel_rfl
structure S56 where
 f0:Int
 f1:Int
 f2:Int
def z56:S56:=⟨(0:Int),(0:Int),(0:Int)⟩
def k56:Kd S56:=Kd.iso (Kd.pair (Kd.int .i64) (Kd.pair (Kd.int .i64) (Kd.int .i64))) (fun x:S56=>(x.f0,x.f1,x.f2))
theorem K3 {w:World} {x:S56} {cs:List Value} (h:k56.K w x cs):cs = [.int .i64 x.f0,.int .i64 x.f1,.int .i64 x.f2]:=by
 obtain⟨_,_,rfl,rfl,⟨_,_,rfl,rfl,rfl⟩⟩:=h
 exact rfl
theorem Y2 {w:World} {base:Nat} {ok:Nat→Prop} {x:S56} {cs:List Value} (h:k56.M w base ok x cs):cs = [.int .i64 x.f0,.int .i64 x.f1,.int .i64 x.f2]:=by
 obtain⟨_,_,rfl,rfl,⟨_,_,rfl,rfl,rfl⟩⟩:=h
 exact rfl
theorem Mp (w:World) (x:S56):k56.K w x [.int .i64 x.f0,.int .i64 x.f1,.int .i64 x.f2]:=⟨[.int .i64 x.f0],[.int .i64 x.f1,.int .i64 x.f2],rfl,rfl,⟨[.int .i64 x.f1],[.int .i64 x.f2],rfl,rfl,rfl⟩⟩
theorem Xi (w:World) (base:Nat) (ok:Nat→Prop) (x:S56):k56.M w base ok x [.int .i64 x.f0,.int .i64 x.f1,.int .i64 x.f2]:=⟨[.int .i64 x.f0],[.int .i64 x.f1,.int .i64 x.f2],rfl,rfl,⟨[.int .i64 x.f1],[.int .i64 x.f2],rfl,rfl,rfl⟩⟩
def Qa (xs:List S56) (i:Int):S56:=xs.getD i.toNat z56
theorem Zo {w:World} {A:Option Addr} {n:Nat} {xs:List S56} (h:Kd.C k56 w A n xs) (i:Int) (U:0≤i) (h1:i<n):∃ ad,A=some ad∧w.cell? (ad.add (i.toNat * 3))=some (.int .i64 (Qa xs i).f0)∧w.cell? ⟨(ad.add (i.toNat * 3)).block,(ad.add (i.toNat * 3)).off+1,none⟩=some (.int .i64 (Qa xs i).f1)∧w.cell? ⟨(ad.add (i.toNat * 3)).block,(ad.add (i.toNat * 3)).off+2,none⟩=some (.int .i64 (Qa xs i).f2):=by
 obtain⟨ad,c,e,_,hK,a9⟩:=Kd.Ld h z56 i U h1
 have hc:∀ j u,c[j]?=some u→w.cell? (ad.add (i.toNat * 3+j))=some u:=a9
 obtain rfl:=K3 hK
 exact⟨ad,e,hc 0 _ rfl,by rw[← Y3 _ _ 1 (by omega)];exact hc 1 _ rfl,by rw[← Y3 _ _ 2 (by omega)];exact hc 2 _ rfl⟩
structure S62 where
 f0:Int
 f1:Int
def z62:S62:=⟨(0:Int),(0:Int)⟩
def k62:Kd S62:=Kd.iso (Kd.pair (Kd.int .i64) (Kd.int .i64)) (fun x:S62=>(x.f0,x.f1))
theorem Kz {w:World} {x:S62} {cs:List Value} (h:k62.K w x cs):cs = [.int .i64 x.f0,.int .i64 x.f1]:=by
 obtain⟨_,_,rfl,rfl,rfl⟩:=h
 exact rfl
theorem Kf {w:World} {base:Nat} {ok:Nat→Prop} {x:S62} {cs:List Value} (h:k62.M w base ok x cs):cs = [.int .i64 x.f0,.int .i64 x.f1]:=by
 obtain⟨_,_,rfl,rfl,rfl⟩:=h
 exact rfl
theorem Mn (w:World) (x:S62):k62.K w x [.int .i64 x.f0,.int .i64 x.f1]:=⟨[.int .i64 x.f0],[.int .i64 x.f1],rfl,rfl,rfl⟩
theorem Yb (w:World) (base:Nat) (ok:Nat→Prop) (x:S62):k62.M w base ok x [.int .i64 x.f0,.int .i64 x.f1]:=⟨[.int .i64 x.f0],[.int .i64 x.f1],rfl,rfl,rfl⟩
def Qk (xs:List S62) (i:Int):S62:=xs.getD i.toNat z62
theorem Zu {w:World} {A:Option Addr} {n:Nat} {xs:List S62} (h:Kd.C k62 w A n xs) (i:Int) (U:0≤i) (h1:i<n):∃ ad,A=some ad∧w.cell? (ad.add (i.toNat * 2))=some (.int .i64 (Qk xs i).f0)∧w.cell? ⟨(ad.add (i.toNat * 2)).block,(ad.add (i.toNat * 2)).off+1,none⟩=some (.int .i64 (Qk xs i).f1):=by
 obtain⟨ad,c,e,_,hK,a9⟩:=Kd.Ld h z62 i U h1
 have hc:∀ j u,c[j]?=some u→w.cell? (ad.add (i.toNat * 2+j))=some u:=a9
 obtain rfl:=Kz hK
 exact⟨ad,e,hc 0 _ rfl,by rw[← Y3 _ _ 1 (by omega)];exact hc 1 _ rfl⟩
def cmp_Or_int.l0:Nat→Int→List Int→Int→Int→Option (Int)
 |0,_,_,_,_=>none
 |k+1,D,L,B,O=>if O<B then (if 0≤O then (if O<(L.length:Int) then (if (rd L O)=D then (cmp_Or_int.l0 k D L B (wrap64 (O+1))) else (some (rd L O))) else (none)) else (none)) else (some D)
def cmp_Or_int.f (k:Nat) (l0:List Int):Option (Int):=cmp_Or_int.l0 k 0 l0 (l0.length:Int) 0
theorem cmp_Or_int.Zn:∀ k,(∀ I L U D,LeO (cmp_Or_int.l0 k I L U D) (cmp_Or_int.l0 (k+1) I L U D))
 |0=>fun _ _ _ _ r h=>by simp[cmp_Or_int.l0] at h
 |k+1=>by
  have B:=cmp_Or_int.Zn k
  ·intro I L U D
   unfold cmp_Or_int.l0
   repeat' first
   |(with_reducible exact B _ _ _ _)
   |(with_reducible exact LeO.refl _)
   |(with_reducible exact LeO.none _)
   |(with_reducible refine LeO.ite ?_ ?_)
   |(with_reducible refine LeO.bind ?_ (fun _=>?_))
   |exact B _ _ _ _
   |exact LeO.none _
   |refine LeO.ite ?_ ?_
   |refine LeO.bind ?_ (fun _=>?_)
theorem cmp_Or_int.mono:∀ D k,LeO (cmp_Or_int.f k D) (cmp_Or_int.f (k+1) D):=by
 intro D k
 have B:=cmp_Or_int.Zn k
 unfold cmp_Or_int.f
 repeat' first
   |(with_reducible exact B _ _ _ _)
   |(with_reducible exact LeO.refl _)
   |(with_reducible exact LeO.none _)
   |(with_reducible refine LeO.ite ?_ ?_)
   |(with_reducible refine LeO.bind ?_ (fun _=>?_))
   |exact B _ _ _ _
   |exact LeO.none _
   |refine LeO.ite ?_ ?_
   |refine LeO.bind ?_ (fun _=>?_)
set_option maxHeartbeats 8000000 in
set_option maxRecDepth 100000 in
theorem cmp_Or_int.calls (k:Nat) (A0:Option Addr) (c0:Nat) (l0:List Int) (r:Int) (w:World) (aa:Kd.C (Kd.int .i64) w A0 l0.length l0) (a9:l0.length≤c0) (h:cmp_Or_int.f k l0=some r):
  Calls Try.prog 52 #[.slice A0 l0.length c0] w fun e w'=>e = .returned (.int .i64 r)∧Drawn0 w w':=by
 have ν :=Aside0.mk aa
 have cn:=Aside0.mk a9
 clear aa a9
 have H:(cmp_Or_int.l0 k 0 l0 (l0.length:Int) 0)=some r:=h
 clear h
 have H':=Aside0.mk H
 clear H
 go_enter Try.func52,Try.ntmps52
 go_wp2
 go_loopg [8] k (fun kq v8 w'=>∃ (B:Int),v8 = .int .i64 B∧Aside0 (cmp_Or_int.l0 kq 0 l0 (l0.length:Int) B=some r)∧Aside0 (kq≤k)∧Drawn0 w w')
 case atStart=>exact⟨(0),qR,H',⟨Nat.le_refl _⟩,by repeat(first|exact Drawn0.refl _|apply Drawn0.step)⟩
 case round=>
  clear H'
  obtain⟨B,rfl,HA,ξ,⟨m1,rfl⟩⟩:=hrel
  cases gk with
  |zero=>exact absurd HA.out (by simp[cmp_Or_int.l0])
  |succ k1=>
   have H:=HA.out
   clear HA
   simp only[cmp_Or_int.l0] at H
   by_cases c2:B<(l0.length:Int)
   ·rw[if_pos c2] at H
    have c2b0:decide (B<(l0.length:Int))=true:=decide_eq_true c2
    clear c2
    by_cases c3:0≤B
    ·rw[if_pos c3] at H
     have c3b0:decide (0≤B)=true:=decide_eq_true c3
     clear c3
     by_cases c4:B<(l0.length:Int)
     ·rw[if_pos c4] at H
      have c4b0:decide (B<(l0.length:Int))=true:=decide_eq_true c4
      clear c4
      by_cases c5:(rd l0 B)=0
      ·rw[if_pos c5] at H
       have c5b0:((rd l0 B)==0)=true:=beq_iff_eq.mpr c5
       have c5b1:((rd l0 B) != 0)=false:=bne_eq_false_iff_eq.mpr c5
       clear c5
       have H':=Aside0.mk H
       clear H
       have D:0≤(B:Int):=of_decide_eq_true (by first|(with_reducible assumption)|assumption)
       have I:B<(l0.length:Int):=of_decide_eq_true (by first|(with_reducible assumption)|assumption)
       obtain⟨O,J,L⟩:=Kd.M9 ν.out B D I
       cases J
       replace D:=eq_true D
       replace I:=eq_true I
       go_wp2
       go_roundg k1
       case measure=>have:= ξ.out;omega
       case rel=>exact⟨(wrap64 (B+1)),qR,H',⟨by have:= ξ.out;omega⟩,by repeat(first|exact Drawn0.refl _|apply Drawn0.step)⟩
      ·rw[if_neg c5] at H
       have c5b0:((rd l0 B)==0)=false:=beq_eq_false_iff_ne.mpr c5
       have c5b1:((rd l0 B) != 0)=true:=bne_iff_ne.mpr c5
       obtain rfl:=Option.some.inj H
       have D:0≤(B:Int):=of_decide_eq_true (by first|(with_reducible assumption)|assumption)
       have I:B<(l0.length:Int):=of_decide_eq_true (by first|(with_reducible assumption)|assumption)
       obtain⟨O,J,L⟩:=Kd.M9 ν.out B D I
       cases J
       replace D:=eq_true D
       replace I:=eq_true I
       go_wp2
       go_ret
       exact⟨qR,by repeat(first|exact Drawn0.refl _|apply Drawn0.step)⟩
     ·rw[if_neg c4] at H
      exact absurd H (by simp)
    ·rw[if_neg c3] at H
     exact absurd H (by simp)
   ·rw[if_neg c2] at H
    have c2b0:decide (B<(l0.length:Int))=false:=decide_eq_false c2
    clear c2
    obtain rfl:=Option.some.inj H
    go_wp2
    go_ret
    exact⟨qR,by repeat(first|exact Drawn0.refl _|apply Drawn0.step)⟩
def cmp_isNaN_int.f (D:Int):Option (Bool):=some (D != D)
set_option maxHeartbeats 8000000 in
set_option maxRecDepth 100000 in
theorem cmp_isNaN_int.calls (D:Int) (r:Bool) (w:World) (h:cmp_isNaN_int.f D=some r):
  Calls Try.prog 66 #[.int .i64 D] w fun e w'=>e = .returned (.bool r)∧Drawn0 w w':=by
 have H:(some (D != D))=some r:=h
 clear h
 obtain rfl:=Option.some.inj H
 go_enter Try.func66,Try.ntmps66
 go_wp2
 go_ret
 exact⟨qR,by repeat(first|exact Drawn0.refl _|apply Drawn0.step)⟩
def cmp_Compare_int.f (D:Int) (L:Int):Option (Int):=(cmp_isNaN_int.f D).bind fun B=>((cmp_isNaN_int.f L).bind fun Y=>(if B=true then (if Y=true then (some 0) else (some (-1))) else (if Y=true then (some 1) else (if D<L then (some (-1)) else (if D>L then (some 1) else (some 0))))))
set_option maxHeartbeats 8000000 in
set_option maxRecDepth 100000 in
theorem cmp_Compare_int.calls (D:Int) (L:Int) (r:Int) (w:World) (h:cmp_Compare_int.f D L=some r):
  Calls Try.prog 53 #[.int .i64 D,.int .i64 L] w fun e w'=>e = .returned (.int .i64 r)∧Drawn0 w w':=by
 have H:((cmp_isNaN_int.f D).bind fun B=>((cmp_isNaN_int.f L).bind fun Y=>(if B=true then (if Y=true then (some 0) else (some (-1))) else (if Y=true then (some 1) else (if D<L then (some (-1)) else (if D>L then (some 1) else (some 0)))))))=some r:=h
 clear h
 replace H:=Option.bind_eq_some_iff.mp H
 obtain⟨B,ac,H⟩:=H
 replace H:((cmp_isNaN_int.f L).bind fun Y=>(if B=true then (if Y=true then (some 0) else (some (-1))) else (if Y=true then (some 1) else (if D<L then (some (-1)) else (if D>L then (some 1) else (some 0))))))=some r:=H
 have A3:=Aside0.mk ac
 clear ac
 replace H:=Option.bind_eq_some_iff.mp H
 obtain⟨Y,bv,H⟩:=H
 replace H:(if B=true then (if Y=true then (some 0) else (some (-1))) else (if Y=true then (some 1) else (if D<L then (some (-1)) else (if D>L then (some 1) else (some 0)))))=some r:=H
 have A4:=Aside0.mk bv
 clear bv
 by_cases c5:B=true
 ·subst c5
  have H1:(if Y=true then (some 0) else (some (-1)))=some r:=by rw[if_pos rfl] at H;exact H
  clear H
  have H:=H1
  clear H1
  by_cases c6:Y=true
  ·subst c6
   have H1:(some 0)=some r:=by rw[if_pos rfl] at H;exact H
   clear H
   have H:=H1
   clear H1
   obtain rfl:=Option.some.inj H
   go_enter Try.func53,Try.ntmps53
   go_wp2_with (first|((with_reducible refine Q1 (f:=66) rfl ?_);refine Zp (some 8) rfl rfl Try.func66 kr rfl #[.int .i64 D] rfl (by(try simp only[List.map_toArray,List.map_cons,List.map_nil]);first|done|rfl|(simp only[List.length_drop,List.length_take];rfl)) ?_;(with_reducible refine(cmp_isNaN_int.calls D true _ A3.out).mono ?_);rintro e w' ⟨rfl,⟨nd,rfl⟩⟩;refine⟨_,rfl, ?_⟩)|((with_reducible refine Q1 (f:=66) rfl ?_);refine Zp (some 10) rfl rfl Try.func66 kr rfl #[.int .i64 L] rfl (by(try simp only[List.map_toArray,List.map_cons,List.map_nil]);first|done|rfl|(simp only[List.length_drop,List.length_take];rfl)) ?_;(with_reducible refine(cmp_isNaN_int.calls L true _ A4.out).mono ?_);rintro e w' ⟨rfl,⟨nd,rfl⟩⟩;refine⟨_,rfl, ?_⟩))
   go_ret
   exact⟨qR,by repeat(first|exact Drawn0.refl _|apply Drawn0.step)⟩
  ·replace c6:=Bool.eq_false_iff.mpr c6
   subst c6
   have H1:(some (-1))=some r:=by rw[if_neg (show ¬ (false=true) by decide)] at H;exact H
   clear H
   have H:=H1
   clear H1
   obtain rfl:=Option.some.inj H
   go_enter Try.func53,Try.ntmps53
   go_wp2_with (first|((with_reducible refine Q1 (f:=66) rfl ?_);refine Zp (some 8) rfl rfl Try.func66 kr rfl #[.int .i64 D] rfl (by(try simp only[List.map_toArray,List.map_cons,List.map_nil]);first|done|rfl|(simp only[List.length_drop,List.length_take];rfl)) ?_;(with_reducible refine(cmp_isNaN_int.calls D true _ A3.out).mono ?_);rintro e w' ⟨rfl,⟨nd,rfl⟩⟩;refine⟨_,rfl, ?_⟩)|((with_reducible refine Q1 (f:=66) rfl ?_);refine Zp (some 10) rfl rfl Try.func66 kr rfl #[.int .i64 L] rfl (by(try simp only[List.map_toArray,List.map_cons,List.map_nil]);first|done|rfl|(simp only[List.length_drop,List.length_take];rfl)) ?_;(with_reducible refine(cmp_isNaN_int.calls L false _ A4.out).mono ?_);rintro e w' ⟨rfl,⟨nd,rfl⟩⟩;refine⟨_,rfl, ?_⟩))
   go_ret
   exact⟨qR,by repeat(first|exact Drawn0.refl _|apply Drawn0.step)⟩
 ·replace c5:=Bool.eq_false_iff.mpr c5
  subst c5
  have H1:(if Y=true then (some 1) else (if D<L then (some (-1)) else (if D>L then (some 1) else (some 0))))=some r:=by rw[if_neg (show ¬ (false=true) by decide)] at H;exact H
  clear H
  have H:=H1
  clear H1
  by_cases c7:Y=true
  ·subst c7
   have H1:(some 1)=some r:=by rw[if_pos rfl] at H;exact H
   clear H
   have H:=H1
   clear H1
   obtain rfl:=Option.some.inj H
   go_enter Try.func53,Try.ntmps53
   go_wp2_with (first|((with_reducible refine Q1 (f:=66) rfl ?_);refine Zp (some 8) rfl rfl Try.func66 kr rfl #[.int .i64 D] rfl (by(try simp only[List.map_toArray,List.map_cons,List.map_nil]);first|done|rfl|(simp only[List.length_drop,List.length_take];rfl)) ?_;(with_reducible refine(cmp_isNaN_int.calls D false _ A3.out).mono ?_);rintro e w' ⟨rfl,⟨nd,rfl⟩⟩;refine⟨_,rfl, ?_⟩)|((with_reducible refine Q1 (f:=66) rfl ?_);refine Zp (some 10) rfl rfl Try.func66 kr rfl #[.int .i64 L] rfl (by(try simp only[List.map_toArray,List.map_cons,List.map_nil]);first|done|rfl|(simp only[List.length_drop,List.length_take];rfl)) ?_;(with_reducible refine(cmp_isNaN_int.calls L true _ A4.out).mono ?_);rintro e w' ⟨rfl,⟨nd,rfl⟩⟩;refine⟨_,rfl, ?_⟩))
   go_ret
   exact⟨qR,by repeat(first|exact Drawn0.refl _|apply Drawn0.step)⟩
  ·replace c7:=Bool.eq_false_iff.mpr c7
   subst c7
   have H1:(if D<L then (some (-1)) else (if D>L then (some 1) else (some 0)))=some r:=by rw[if_neg (show ¬ (false=true) by decide)] at H;exact H
   clear H
   have H:=H1
   clear H1
   by_cases c8:D<L
   ·rw[if_pos c8] at H
    have c8b0:decide (D<L)=true:=decide_eq_true c8
    clear c8
    obtain rfl:=Option.some.inj H
    go_enter Try.func53,Try.ntmps53
    go_wp2_with (first|((with_reducible refine Q1 (f:=66) rfl ?_);refine Zp (some 8) rfl rfl Try.func66 kr rfl #[.int .i64 D] rfl (by(try simp only[List.map_toArray,List.map_cons,List.map_nil]);first|done|rfl|(simp only[List.length_drop,List.length_take];rfl)) ?_;(with_reducible refine(cmp_isNaN_int.calls D false _ A3.out).mono ?_);rintro e w' ⟨rfl,⟨nd,rfl⟩⟩;refine⟨_,rfl, ?_⟩)|((with_reducible refine Q1 (f:=66) rfl ?_);refine Zp (some 10) rfl rfl Try.func66 kr rfl #[.int .i64 L] rfl (by(try simp only[List.map_toArray,List.map_cons,List.map_nil]);first|done|rfl|(simp only[List.length_drop,List.length_take];rfl)) ?_;(with_reducible refine(cmp_isNaN_int.calls L false _ A4.out).mono ?_);rintro e w' ⟨rfl,⟨nd,rfl⟩⟩;refine⟨_,rfl, ?_⟩))
    go_ret
    exact⟨qR,by repeat(first|exact Drawn0.refl _|apply Drawn0.step)⟩
   ·rw[if_neg c8] at H
    have c8b0:decide (D<L)=false:=decide_eq_false c8
    clear c8
    by_cases c9:D>L
    ·rw[if_pos c9] at H
     have c9b0:decide (L<D)=true:=decide_eq_true c9
     clear c9
     obtain rfl:=Option.some.inj H
     go_enter Try.func53,Try.ntmps53
     go_wp2_with (first|((with_reducible refine Q1 (f:=66) rfl ?_);refine Zp (some 8) rfl rfl Try.func66 kr rfl #[.int .i64 D] rfl (by(try simp only[List.map_toArray,List.map_cons,List.map_nil]);first|done|rfl|(simp only[List.length_drop,List.length_take];rfl)) ?_;(with_reducible refine(cmp_isNaN_int.calls D false _ A3.out).mono ?_);rintro e w' ⟨rfl,⟨nd,rfl⟩⟩;refine⟨_,rfl, ?_⟩)|((with_reducible refine Q1 (f:=66) rfl ?_);refine Zp (some 10) rfl rfl Try.func66 kr rfl #[.int .i64 L] rfl (by(try simp only[List.map_toArray,List.map_cons,List.map_nil]);first|done|rfl|(simp only[List.length_drop,List.length_take];rfl)) ?_;(with_reducible refine(cmp_isNaN_int.calls L false _ A4.out).mono ?_);rintro e w' ⟨rfl,⟨nd,rfl⟩⟩;refine⟨_,rfl, ?_⟩))
     go_ret
     exact⟨qR,by repeat(first|exact Drawn0.refl _|apply Drawn0.step)⟩
    ·rw[if_neg c9] at H
     have c9b0:decide (L<D)=false:=decide_eq_false c9
     clear c9
     obtain rfl:=Option.some.inj H
     go_enter Try.func53,Try.ntmps53
     go_wp2_with (first|((with_reducible refine Q1 (f:=66) rfl ?_);refine Zp (some 8) rfl rfl Try.func66 kr rfl #[.int .i64 D] rfl (by(try simp only[List.map_toArray,List.map_cons,List.map_nil]);first|done|rfl|(simp only[List.length_drop,List.length_take];rfl)) ?_;(with_reducible refine(cmp_isNaN_int.calls D false _ A3.out).mono ?_);rintro e w' ⟨rfl,⟨nd,rfl⟩⟩;refine⟨_,rfl, ?_⟩)|((with_reducible refine Q1 (f:=66) rfl ?_);refine Zp (some 10) rfl rfl Try.func66 kr rfl #[.int .i64 L] rfl (by(try simp only[List.map_toArray,List.map_cons,List.map_nil]);first|done|rfl|(simp only[List.length_drop,List.length_take];rfl)) ?_;(with_reducible refine(cmp_isNaN_int.calls L false _ A4.out).mono ?_);rintro e w' ⟨rfl,⟨nd,rfl⟩⟩;refine⟨_,rfl, ?_⟩))
     go_ret
     exact⟨qR,by repeat(first|exact Drawn0.refl _|apply Drawn0.step)⟩
def call_halls_1.f (k:Nat) (J:Int) (D:Int) (B:Int) (I:Int) (L:Int) (X:Int):Option (Int):=(cmp_Compare_int.f J I).bind fun ν =>((cmp_Compare_int.f D L).bind fun σ=>((cmp_Or_int.f k (([ν,σ]:List Int))).bind fun a3=>(some a3)))
theorem call_halls_1.mono:∀ D L a2 X I a5 k,LeO (call_halls_1.f k D L a2 X I a5) (call_halls_1.f (k+1) D L a2 X I a5):=by
 intro D L a2 X I a5 k
 unfold call_halls_1.f
 repeat' first
   |(with_reducible exact cmp_Or_int.mono _ _)
   |(with_reducible exact LeO.refl _)
   |(with_reducible exact LeO.none _)
   |(with_reducible refine LeO.ite ?_ ?_)
   |(with_reducible refine LeO.bind ?_ (fun _=>?_))
   |exact cmp_Or_int.mono _ _
   |exact LeO.none _
   |refine LeO.ite ?_ ?_
   |refine LeO.bind ?_ (fun _=>?_)
def call_halls_1.T1:Bool×List (List Nat×List Nat):=(true,[([],[]),([0],[0]),([],[]),([2],[2]),([1,3],[1,3]),([],[]),([5],[5]),([],[]),([7],[7]),([6,8,4],[6,8]),([4,9],[4,9]),([10,9],[10]),([11,11,0,1,2,3,4,5,6,7,8,9,10,11],[11])])
def call_halls_1.B1:List Nat:=[0,1,0,4,15,0,32,0,128,511,1023,2047,4095]
theorem call_halls_1.Gu:rtab .any (opsOf Try.f51 1)=call_halls_1.T1:=by kernel_rfl
theorem call_halls_1.J2:Zv call_halls_1.T1.2 call_halls_1.B1=true:=by kernel_rfl
set_option maxHeartbeats 8000000 in
set_option maxRecDepth 100000 in
theorem call_halls_1.calls (k:Nat) (J:Int) (D:Int) (B:Int) (I:Int) (L:Int) (X:Int) (r:Int) (w:World) (h:call_halls_1.f k J D B I L X=some r):
  Calls Try.prog 51 #[.agg #[.int .i64 J,.int .i64 D,.int .i64 B],.agg #[.int .i64 I,.int .i64 L,.int .i64 X]] w fun e w'=>e = .returned (.int .i64 r)∧Below w.heap.size w w':=by
 have ay:=Try.underlying56
 have HB:=Aside0.mk (Below.refl w.heap.size w)
 have H:((cmp_Compare_int.f J I).bind fun ν =>((cmp_Compare_int.f D L).bind fun σ=>((cmp_Or_int.f k (([ν,σ]:List Int))).bind fun a3=>(some a3))))=some r:=h
 clear h
 replace H:=Option.bind_eq_some_iff.mp H
 obtain⟨ν,ac,H⟩:=H
 replace H:((cmp_Compare_int.f D L).bind fun σ=>((cmp_Or_int.f k (([ν,σ]:List Int))).bind fun a3=>(some a3)))=some r:=H
 have A3:=Aside0.mk ac
 clear ac
 replace H:=Option.bind_eq_some_iff.mp H
 obtain⟨σ,bv,H⟩:=H
 replace H:((cmp_Or_int.f k (([ν,σ]:List Int))).bind fun a3=>(some a3))=some r:=H
 have A4:=Aside0.mk bv
 clear bv
 obtain⟨ag,ζ⟩:∃ y_:List Int,y_=(([ν,σ]:List Int)):=⟨_,rfl⟩
 replace H:((cmp_Or_int.f k ag).bind fun a3=>(some a3))=some r:=by first|(rw[ζ];with_reducible exact H)|(have δ :=(Option.bind_some _ _).symm.trans H;rw[ζ];with_reducible exact δ)|(have δ :=(Option.bind_some _ _).symm.trans H;with_reducible exact δ)|with_reducible exact H|(rw[ζ];exact H)|exact H
 have aw:=Aside0.mk ζ
 clear ζ
 replace H:=Option.bind_eq_some_iff.mp H
 obtain⟨a3,bz,H⟩:=H
 replace H:(some a3)=some r:=H
 have A5:=Aside0.mk bz
 clear bz
 obtain rfl:=Option.some.inj H
 go_enter Try.func51,Try.ntmps51
 try go_wp2_with (first|((with_reducible refine Qp (N:=2) rfl ?_);refine Q7 ?hg (N:=2) ?hd (cs:=#[.int .i64 J,.int .i64 D,.int .i64 B]) (t:=56) ?hr ?_;(case hd=>rfl);(case hg=>rfl);(case hr=>first|(go_simp;done)|(go_simp;rfl));intro τ hg w6 hbox hb;have O:=Aside0.mk (Qt (by repeat(first|(with_reducible first|exact HB.out|apply Qh|apply Qc|apply Qe)|exact HB.out)) hb);have Z:=Aside0.mk (hbox);have ι :=Aside0.mk ((by rw[hg];exact(Qj (by repeat(first|(with_reducible first|exact HB.out|apply Qh|apply Qc|apply Qe)|exact HB.out))):w.heap.size ≤ τ));have κ :=Aside0.mk ((by rw[hg];exact(Qj (by repeat(first|(with_reducible first|exact HB.out|apply Qh|apply Qc|apply Qe)|exact HB.out))):w.heap.size ≤ τ));clear HB;have HB:=O;have Y:=Z;have bh:= ι;have ak:= κ;clear O Z ι κ;clear hb hbox hg)|((with_reducible refine Qp (N:=3) rfl ?_);refine Q7 ?hg (N:=3) ?hd (cs:=#[.int .i64 I,.int .i64 L,.int .i64 X]) (t:=56) ?hr ?_;(case hd=>rfl);(case hg=>rfl);(case hr=>first|(go_simp;done)|(go_simp;rfl));intro a4 hg w7 hbox hb;have O:=Aside0.mk (Qo (g:= τ) (o:=.cells #[.int .i64 J,.int .i64 D,.int .i64 B] 56 (0,0)) (by(with_reducible repeat first|apply Qf|apply Qb|apply Qg);exact Y.out) hb);have Z:=Aside0.mk (Qt (by repeat(first|(with_reducible first|exact HB.out|apply Qh|apply Qc|apply Qe|refine Qd ?_ ak.out)|exact HB.out)) hb);have ι :=Aside0.mk (hbox);have κ :=Aside0.mk ((by rw[hg];exact(Qj (by repeat(first|(with_reducible first|exact HB.out|apply Qh|apply Qc|apply Qe|refine Qd ?_ ak.out)|exact HB.out))):w.heap.size≤a4));have ξ :=Aside0.mk ((by rw[hg];exact(Qj (by repeat(first|(with_reducible first|exact HB.out|apply Qh|apply Qc|apply Qe|refine Qd ?_ ak.out)|exact HB.out))):w.heap.size≤a4));have ψ :=Aside0.mk ((by rw[hg];exact Nat.ne_of_lt (Q3 (g:= τ) (o:=.cells #[.int .i64 J,.int .i64 D,.int .i64 B] 56 (0,0)) (by(with_reducible repeat first|apply Qf|apply Qb|apply Qg);exact Y.out)): τ ≠ a4));have a1:=Aside0.mk ((by rw[hg];exact Nat.ne_of_gt (Q3 (g:= τ) (o:=.cells #[.int .i64 J,.int .i64 D,.int .i64 B] 56 (0,0)) (by(with_reducible repeat first|apply Qf|apply Qb|apply Qg);exact Y.out)):a4 ≠ τ));clear Y;clear HB;have Y:=O;have HB:=Z;have μ := ι;have bi:= κ;have bd:= ξ;have a6:= ψ;have a7:=a1;clear O Z ι κ ξ ψ a1;clear hb hbox hg))
 have O:=Aside0.mk (Qb Y.out)
 have Z:=Aside0.mk (Qb μ.out)
 have ι :=Aside0.mk (Qe HB.out)
 clear Y
 clear μ
 clear HB
 have Y:=O
 have μ :=Z
 have HB:= ι
 clear O Z ι
 refine Ze (n:=13) (S:=fun w'=>w'.cell? ⟨τ,0,none⟩=some (.int .i64 J)∧w'.cell? ⟨τ,1,none⟩=some (.int .i64 D)∧w'.cell? ⟨τ,2,none⟩=some (.int .i64 B)∧w'.cell? ⟨a4,0,none⟩=some (.int .i64 I)∧w'.cell? ⟨a4,1,none⟩=some (.int .i64 L)∧w'.cell? ⟨a4,2,none⟩=some (.int .i64 X)) (ds:=[]) #[false,false,false,false,false,false,false,false,false,false,false,false,false] kr rfl rfl ⟨(Qi Y.out 0).trans rfl,(Qi Y.out 1).trans rfl,(Qi Y.out 2).trans rfl,(Qi μ.out 0).trans rfl,(Qi μ.out 1).trans rfl,(Qi μ.out 2).trans rfl⟩ (fun hHeld=>?_);refine Q4 call_halls_1.Gu call_halls_1.J2 (fun HT_ HW_=>?_)
 generalize w7.drew=w8 at Y μ HB hHeld ⊢
 refine qP 0 (some 5) (qB 13 1) HT_ ?_
 refine qP 2 (some 7) (qB 13 5) HT_ ?_
 refine qP 5 (some 10) (qB 13 37) HT_ ?_
 refine qP 7 (some 12) (qB 13 165) HT_ ?_
 refine qT 1 (some 6) (qB 13 167) HT_ HW_ hHeld ?_
 refine qT 3 (some 8) (qB 13 175) HT_ HW_ hHeld ?_
 refine qT 6 (some 11) (qB 13 239) HT_ HW_ hHeld ?_
 refine qT 8 (some 13) (qB 13 495) HT_ HW_ hHeld ?_
 refine Zi (i:=4) (N:=some 9) #[true,true,true,true,true,true,true,true,true,false,false,false,false] rfl rfl (Q0 HT_.out kr) (by decide) (fun K hK=>?_)
 refine Zc Try.func53 kr rfl #[.int .i64 J,.int .i64 I] (by rfl) rfl rfl (by(try simp only[List.map_toArray,List.map_cons,List.map_nil]);first|done|rfl|(simp only[List.length_drop,List.length_take];rfl)) ?_
 with_reducible refine(cmp_Compare_int.calls J I ν _ A3.out).mono ?_
 rintro e w' ⟨rfl,⟨nd,rfl⟩⟩
 refine⟨_,rfl, ?_⟩
 refine hK.out _ _ ⟨qc Y,qc Y,qc Y,qc μ,qc μ,qc μ⟩ (fun hHeld=>?_)
 clear hK K
 refine qN (some 9) ?_
 refine Zi (i:=9) (N:=some 14) #[true,true,true,true,true,true,true,true,true,true,false,false,false] rfl rfl (Q0 HT_.out kr) (by decide) (fun K hK=>?_)
 refine Zc Try.func53 kr rfl #[.int .i64 D,.int .i64 L] (by rfl) rfl rfl (by(try simp only[List.map_toArray,List.map_cons,List.map_nil]);first|done|rfl|(simp only[List.length_drop,List.length_take];rfl)) ?_
 with_reducible refine(cmp_Compare_int.calls D L σ _ A4.out).mono ?_
 rintro e w' ⟨rfl,⟨nd,rfl⟩⟩
 refine⟨_,rfl, ?_⟩
 refine hK.out _ _ ⟨qc Y,qc Y,qc Y,qc μ,qc μ,qc μ⟩ (fun hHeld=>?_)
 clear hK K
 refine qN (some 14) ?_
 refine Zi (i:=10) (N:=some 15) #[true,true,true,true,true,true,true,true,true,true,true,false,false] rfl rfl (Q0 HT_.out kr) (by decide) (fun K hK=>?_)
 refine Kd.Xp (Kd.int .i64) _ 3 ?hg (N:=15) ?hd (xs:=([ν,σ]:List Int)) (inner:=[.int .i64 ν,.int .i64 σ]) (ok:=fun _=>True) (okp:=fun _=>True) ?hr ?hp (fun _ hk=>hk) trivial (Below.refl _ _) (Nat.le_refl _) (by simp) ?_;(case hd=>rfl);(case hg=>rfl);(case hr=>first|(go_simp;done)|(go_simp;rfl));(case hp=>exact(Reps.one (show Kd.M (Kd.int .i64) _ _ _ ν [.int .i64 ν] from rfl) (Reps.one (show Kd.M (Kd.int .i64) _ _ _ σ [.int .i64 σ] from rfl) (Reps.none _ _))))
 intro γ w9 ε hb hg_ hnew_
 clear hg_ hnew_
 (first|rw[← aw.out] at ε |(simp only[Int.reduceToNat] at ε;rw[← aw.out] at ε))
 have O:=Aside0.mk (Kd.Q2 ε (Qj (by repeat(first|(with_reducible first|exact HB.out|apply Qh|apply Qc|apply Qe|refine Qd ?_ ak.out|refine Qd ?_ bd.out)|exact HB.out))))
 have Z:=Aside0.mk (Qo (g:= τ) (o:=.cells #[.int .i64 J,.int .i64 D,.int .i64 B] 56 (0,0)) (by(with_reducible repeat first|apply Qf|apply Qb|apply Qg);exact Y.out) hb)
 have ι :=Aside0.mk (Qo (g:=a4) (o:=.cells #[.int .i64 I,.int .i64 L,.int .i64 X] 56 (0,0)) (by(with_reducible repeat first|apply Qf|apply Qb|apply Qg);exact μ.out) hb)
 have κ :=Aside0.mk (Qt (by repeat(first|(with_reducible first|exact HB.out|apply Qh|apply Qc|apply Qe|refine Qd ?_ ak.out|refine Qd ?_ bd.out)|exact HB.out)) hb)
 clear Y
 clear μ
 clear HB
 have U:=O
 have Y:=Z
 have μ := ι
 have HB:= κ
 clear O Z ι κ
 clear hb ε
 obtain⟨ω,a0,ρ⟩:=Kd.Q5 U.out
 (first|subst ρ|(injection ρ with φ a9 χ;have aa:= φ.symm;have ab:= χ.symm;clear φ a9 χ;subst aa;subst ab))
 refine hK.out _ _ ⟨qc Y,qc Y,qc Y,qc μ,qc μ,qc μ⟩ (fun hHeld=>?_)
 clear hK K
 refine qN (some 15) ?_
 refine Zi (i:=11) (N:=some 16) #[true,true,true,true,true,true,true,true,true,true,true,true,false] rfl rfl (Q0 HT_.out kr) (by decide) (fun K hK=>?_)
 refine Zc Try.func52 kr rfl #[.slice ω ag.length a0] (by rfl) rfl rfl (by(try simp only[List.map_toArray,List.map_cons,List.map_nil]);first|done|rfl|(simp only[List.length_drop,List.length_take];rfl)) ?_
 with_reducible refine(cmp_Or_int.calls k _ _ ag a3 _ ?side1 ?side2 A5.out).mono ?_
 (case side1=>repeat(first|exact(Kd.Qq U.out).2.2|(with_reducible refine Kd.Za ?_ _)|(with_reducible refine Kd.Q9 ?_ _)|(with_reducible refine Kd.Zm ?_)))
 (case side2=>exact(Kd.Qq U.out).2.1)
 rintro e w' ⟨rfl,⟨nd,rfl⟩⟩
 refine⟨_,rfl, ?_⟩
 refine hK.out _ _ ⟨qc Y,qc Y,qc Y,qc μ,qc μ,qc μ⟩ (fun hHeld=>?_)
 clear hK K
 refine qN (some 16) ?_
 refine qP 12 (some 4) (qB 13 8191) HT_ ?_
 refine Zq (Zd HT_.out kr) ?_
 try go_wp2
 go_ret
 exact⟨by first|rfl|(simp[Qy,Qx] <;> rfl)|(simp[*,Qy,Qx] <;> rfl),by repeat(first|(with_reducible first|exact HB.out|apply Qh|apply Qc|apply Qe|refine Qd ?_ ak.out|refine Qd ?_ bd.out)|exact HB.out)⟩
def call_ins_1.f (k:Nat) (J:Int) (D:Int) (I:Int) (L:Int):Option (Int):=(cmp_Compare_int.f J I).bind fun B=>((cmp_Compare_int.f D L).bind fun γ=>((cmp_Or_int.f k (([B,γ]:List Int))).bind fun η =>(some η)))
theorem call_ins_1.mono:∀ D L a2 X k,LeO (call_ins_1.f k D L a2 X) (call_ins_1.f (k+1) D L a2 X):=by
 intro D L a2 X k
 unfold call_ins_1.f
 repeat' first
   |(with_reducible exact cmp_Or_int.mono _ _)
   |(with_reducible exact LeO.refl _)
   |(with_reducible exact LeO.none _)
   |(with_reducible refine LeO.ite ?_ ?_)
   |(with_reducible refine LeO.bind ?_ (fun _=>?_))
   |exact cmp_Or_int.mono _ _
   |exact LeO.none _
   |refine LeO.ite ?_ ?_
   |refine LeO.bind ?_ (fun _=>?_)
def call_ins_1.T1:Bool×List (List Nat×List Nat):=(true,[([],[]),([0],[0]),([],[]),([2],[2]),([1,3],[1,3]),([],[]),([5],[5]),([],[]),([7],[7]),([6,8,4],[6,8]),([4,9],[4,9]),([10,9],[10]),([11,11,0,1,2,3,4,5,6,7,8,9,10,11],[11])])
def call_ins_1.B1:List Nat:=[0,1,0,4,15,0,32,0,128,511,1023,2047,4095]
theorem call_ins_1.Gu:rtab .any (opsOf Try.f57 1)=call_ins_1.T1:=by kernel_rfl
theorem call_ins_1.J2:Zv call_ins_1.T1.2 call_ins_1.B1=true:=by kernel_rfl
set_option maxHeartbeats 8000000 in
set_option maxRecDepth 100000 in
theorem call_ins_1.calls (k:Nat) (J:Int) (D:Int) (I:Int) (L:Int) (r:Int) (w:World) (h:call_ins_1.f k J D I L=some r):
  Calls Try.prog 57 #[.agg #[.int .i64 J,.int .i64 D],.agg #[.int .i64 I,.int .i64 L]] w fun e w'=>e = .returned (.int .i64 r)∧Below w.heap.size w w':=by
 have b8:=Try.underlying62
 have HB:=Aside0.mk (Below.refl w.heap.size w)
 have H:((cmp_Compare_int.f J I).bind fun B=>((cmp_Compare_int.f D L).bind fun γ=>((cmp_Or_int.f k (([B,γ]:List Int))).bind fun η =>(some η))))=some r:=h
 clear h
 replace H:=Option.bind_eq_some_iff.mp H
 obtain⟨B,ac,H⟩:=H
 replace H:((cmp_Compare_int.f D L).bind fun γ=>((cmp_Or_int.f k (([B,γ]:List Int))).bind fun η =>(some η)))=some r:=H
 have A3:=Aside0.mk ac
 clear ac
 replace H:=Option.bind_eq_some_iff.mp H
 obtain⟨γ,bv,H⟩:=H
 replace H:((cmp_Or_int.f k (([B,γ]:List Int))).bind fun η =>(some η))=some r:=H
 have A4:=Aside0.mk bv
 clear bv
 obtain⟨df,b0⟩:∃ y_:List Int,y_=(([B,γ]:List Int)):=⟨_,rfl⟩
 replace H:((cmp_Or_int.f k df).bind fun η =>(some η))=some r:=by first|(rw[b0];with_reducible exact H)|(have δ :=(Option.bind_some _ _).symm.trans H;rw[b0];with_reducible exact δ)|(have δ :=(Option.bind_some _ _).symm.trans H;with_reducible exact δ)|with_reducible exact H|(rw[b0];exact H)|exact H
 have e3:=Aside0.mk b0
 clear b0
 replace H:=Option.bind_eq_some_iff.mp H
 obtain⟨η,bz,H⟩:=H
 replace H:(some η)=some r:=H
 have A5:=Aside0.mk bz
 clear bz
 obtain rfl:=Option.some.inj H
 go_enter Try.func57,Try.ntmps57
 try go_wp2_with (first|((with_reducible refine Qp (N:=2) rfl ?_);refine Q7 ?hg (N:=2) ?hd (cs:=#[.int .i64 J,.int .i64 D]) (t:=62) ?hr ?_;(case hd=>rfl);(case hg=>rfl);(case hr=>first|(go_simp;done)|(go_simp;rfl));intro Y hg w6 hbox hb;have O:=Aside0.mk (Qt (by repeat(first|(with_reducible first|exact HB.out|apply Qh|apply Qc|apply Qe)|exact HB.out)) hb);have Z:=Aside0.mk (hbox);have ι :=Aside0.mk ((by rw[hg];exact(Qj (by repeat(first|(with_reducible first|exact HB.out|apply Qh|apply Qc|apply Qe)|exact HB.out))):w.heap.size≤Y));have κ :=Aside0.mk ((by rw[hg];exact(Qj (by repeat(first|(with_reducible first|exact HB.out|apply Qh|apply Qc|apply Qe)|exact HB.out))):w.heap.size≤Y));clear HB;have HB:=O;have U:=Z;have ak:= ι;have ν := κ;clear O Z ι κ;clear hb hbox hg)|((with_reducible refine Qp (N:=3) rfl ?_);refine Q7 ?hg (N:=3) ?hd (cs:=#[.int .i64 I,.int .i64 L]) (t:=62) ?hr ?_;(case hd=>rfl);(case hg=>rfl);(case hr=>first|(go_simp;done)|(go_simp;rfl));intro ae hg w7 hbox hb;have O:=Aside0.mk (Qo (g:=Y) (o:=.cells #[.int .i64 J,.int .i64 D] 62 (0,0)) (by(with_reducible repeat first|apply Qf|apply Qb|apply Qg);exact U.out) hb);have Z:=Aside0.mk (Qt (by repeat(first|(with_reducible first|exact HB.out|apply Qh|apply Qc|apply Qe|refine Qd ?_ ν.out)|exact HB.out)) hb);have ι :=Aside0.mk (hbox);have κ :=Aside0.mk ((by rw[hg];exact(Qj (by repeat(first|(with_reducible first|exact HB.out|apply Qh|apply Qc|apply Qe|refine Qd ?_ ν.out)|exact HB.out))):w.heap.size≤ae));have ξ :=Aside0.mk ((by rw[hg];exact(Qj (by repeat(first|(with_reducible first|exact HB.out|apply Qh|apply Qc|apply Qe|refine Qd ?_ ν.out)|exact HB.out))):w.heap.size≤ae));have ψ :=Aside0.mk ((by rw[hg];exact Nat.ne_of_lt (Q3 (g:=Y) (o:=.cells #[.int .i64 J,.int .i64 D] 62 (0,0)) (by(with_reducible repeat first|apply Qf|apply Qb|apply Qg);exact U.out)):Y≠ae));have a1:=Aside0.mk ((by rw[hg];exact Nat.ne_of_gt (Q3 (g:=Y) (o:=.cells #[.int .i64 J,.int .i64 D] 62 (0,0)) (by(with_reducible repeat first|apply Qf|apply Qb|apply Qg);exact U.out)):ae≠Y));clear U;clear HB;have U:=O;have HB:=Z;have θ := ι;have i5:= κ;have e4:= ξ;have X:= ψ;have ζ :=a1;clear O Z ι κ ξ ψ a1;clear hb hbox hg))
 have O:=Aside0.mk (Qb U.out)
 have Z:=Aside0.mk (Qb θ.out)
 have ι :=Aside0.mk (Qe HB.out)
 clear U
 clear θ
 clear HB
 have U:=O
 have θ :=Z
 have HB:= ι
 clear O Z ι
 refine Ze (n:=13) (S:=fun w'=>w'.cell? ⟨Y,0,none⟩=some (.int .i64 J)∧w'.cell? ⟨Y,1,none⟩=some (.int .i64 D)∧w'.cell? ⟨ae,0,none⟩=some (.int .i64 I)∧w'.cell? ⟨ae,1,none⟩=some (.int .i64 L)) (ds:=[]) #[false,false,false,false,false,false,false,false,false,false,false,false,false] kr rfl rfl ⟨(Qi U.out 0).trans rfl,(Qi U.out 1).trans rfl,(Qi θ.out 0).trans rfl,(Qi θ.out 1).trans rfl⟩ (fun hHeld=>?_);refine Q4 call_ins_1.Gu call_ins_1.J2 (fun HT_ HW_=>?_)
 generalize w7.drew=w8 at U θ HB hHeld ⊢
 refine qP 0 (some 5) (qB 13 1) HT_ ?_
 refine qP 2 (some 7) (qB 13 5) HT_ ?_
 refine qP 5 (some 10) (qB 13 37) HT_ ?_
 refine qP 7 (some 12) (qB 13 165) HT_ ?_
 refine qT 1 (some 6) (qB 13 167) HT_ HW_ hHeld ?_
 refine qT 3 (some 8) (qB 13 175) HT_ HW_ hHeld ?_
 refine qT 6 (some 11) (qB 13 239) HT_ HW_ hHeld ?_
 refine qT 8 (some 13) (qB 13 495) HT_ HW_ hHeld ?_
 refine Zi (i:=4) (N:=some 9) #[true,true,true,true,true,true,true,true,true,false,false,false,false] rfl rfl (Q0 HT_.out kr) (by decide) (fun K hK=>?_)
 refine Zc Try.func53 kr rfl #[.int .i64 J,.int .i64 I] (by rfl) rfl rfl (by(try simp only[List.map_toArray,List.map_cons,List.map_nil]);first|done|rfl|(simp only[List.length_drop,List.length_take];rfl)) ?_
 with_reducible refine(cmp_Compare_int.calls J I B _ A3.out).mono ?_
 rintro e w' ⟨rfl,⟨nd,rfl⟩⟩
 refine⟨_,rfl, ?_⟩
 refine hK.out _ _ ⟨qc U,qc U,qc θ,qc θ⟩ (fun hHeld=>?_)
 clear hK K
 refine qN (some 9) ?_
 refine Zi (i:=9) (N:=some 14) #[true,true,true,true,true,true,true,true,true,true,false,false,false] rfl rfl (Q0 HT_.out kr) (by decide) (fun K hK=>?_)
 refine Zc Try.func53 kr rfl #[.int .i64 D,.int .i64 L] (by rfl) rfl rfl (by(try simp only[List.map_toArray,List.map_cons,List.map_nil]);first|done|rfl|(simp only[List.length_drop,List.length_take];rfl)) ?_
 with_reducible refine(cmp_Compare_int.calls D L γ _ A4.out).mono ?_
 rintro e w' ⟨rfl,⟨nd,rfl⟩⟩
 refine⟨_,rfl, ?_⟩
 refine hK.out _ _ ⟨qc U,qc U,qc θ,qc θ⟩ (fun hHeld=>?_)
 clear hK K
 refine qN (some 14) ?_
 refine Zi (i:=10) (N:=some 15) #[true,true,true,true,true,true,true,true,true,true,true,false,false] rfl rfl (Q0 HT_.out kr) (by decide) (fun K hK=>?_)
 refine Kd.Xp (Kd.int .i64) _ 3 ?hg (N:=15) ?hd (xs:=([B,γ]:List Int)) (inner:=[.int .i64 B,.int .i64 γ]) (ok:=fun _=>True) (okp:=fun _=>True) ?hr ?hp (fun _ hk=>hk) trivial (Below.refl _ _) (Nat.le_refl _) (by simp) ?_;(case hd=>rfl);(case hg=>rfl);(case hr=>first|(go_simp;done)|(go_simp;rfl));(case hp=>exact(Reps.one (show Kd.M (Kd.int .i64) _ _ _ B [.int .i64 B] from rfl) (Reps.one (show Kd.M (Kd.int .i64) _ _ _ γ [.int .i64 γ] from rfl) (Reps.none _ _))))
 intro js w9 ε hb hg_ hnew_
 clear hg_ hnew_
 (first|rw[← e3.out] at ε |(simp only[Int.reduceToNat] at ε;rw[← e3.out] at ε))
 have O:=Aside0.mk (Kd.Q2 ε (Qj (by repeat(first|(with_reducible first|exact HB.out|apply Qh|apply Qc|apply Qe|refine Qd ?_ ν.out|refine Qd ?_ e4.out)|exact HB.out))))
 have Z:=Aside0.mk (Qo (g:=Y) (o:=.cells #[.int .i64 J,.int .i64 D] 62 (0,0)) (by(with_reducible repeat first|apply Qf|apply Qb|apply Qg);exact U.out) hb)
 have ι :=Aside0.mk (Qo (g:=ae) (o:=.cells #[.int .i64 I,.int .i64 L] 62 (0,0)) (by(with_reducible repeat first|apply Qf|apply Qb|apply Qg);exact θ.out) hb)
 have κ :=Aside0.mk (Qt (by repeat(first|(with_reducible first|exact HB.out|apply Qh|apply Qc|apply Qe|refine Qd ?_ ν.out|refine Qd ?_ e4.out)|exact HB.out)) hb)
 clear U
 clear θ
 clear HB
 have db:=O
 have U:=Z
 have θ := ι
 have HB:= κ
 clear O Z ι κ
 clear hb ε
 obtain⟨ω,a0,ρ⟩:=Kd.Q5 db.out
 (first|subst ρ|(injection ρ with φ a9 χ;have aa:= φ.symm;have ab:= χ.symm;clear φ a9 χ;subst aa;subst ab))
 refine hK.out _ _ ⟨qc U,qc U,qc θ,qc θ⟩ (fun hHeld=>?_)
 clear hK K
 refine qN (some 15) ?_
 refine Zi (i:=11) (N:=some 16) #[true,true,true,true,true,true,true,true,true,true,true,true,false] rfl rfl (Q0 HT_.out kr) (by decide) (fun K hK=>?_)
 refine Zc Try.func52 kr rfl #[.slice ω df.length a0] (by rfl) rfl rfl (by(try simp only[List.map_toArray,List.map_cons,List.map_nil]);first|done|rfl|(simp only[List.length_drop,List.length_take];rfl)) ?_
 with_reducible refine(cmp_Or_int.calls k _ _ df η _ ?side1 ?side2 A5.out).mono ?_
 (case side1=>repeat(first|exact(Kd.Qq db.out).2.2|(with_reducible refine Kd.Za ?_ _)|(with_reducible refine Kd.Q9 ?_ _)|(with_reducible refine Kd.Zm ?_)))
 (case side2=>exact(Kd.Qq db.out).2.1)
 rintro e w' ⟨rfl,⟨nd,rfl⟩⟩
 refine⟨_,rfl, ?_⟩
 refine hK.out _ _ ⟨qc U,qc U,qc θ,qc θ⟩ (fun hHeld=>?_)
 clear hK K
 refine qN (some 16) ?_
 refine qP 12 (some 4) (qB 13 8191) HT_ ?_
 refine Zq (Zd HT_.out kr) ?_
 try go_wp2
 go_ret
 exact⟨by first|rfl|(simp[Qy,Qx] <;> rfl)|(simp[*,Qy,Qx] <;> rfl),by repeat(first|(with_reducible first|exact HB.out|apply Qh|apply Qc|apply Qe|refine Qd ?_ ν.out|refine Qd ?_ e4.out)|exact HB.out)⟩
end Go.Proofs.Ytjehhhlhalkieaa.K
namespace Go.Proofs.Ytjehhhlhalkieaa.C
open Go.RowKit Go.Proofs.YtjehhhlhalkieaaW.PrintWords Go.Proofs.YtjehhhlhalkieaaW.PrintLast Go.Proofs.YtjehhhlhalkieaaW.PrintMore
attribute [local go_sem] Z4 Z2 Xe Xd Zx Zw Z3 Z1
set_option linter.unusedVariables false
set_option linter.unusedSimpArgs false
def call_within.f (D:Int) (L:Int) (a2:Int):Option (Bool):=if L≤D then (some (decide (D≤a2))) else (some false)
set_option maxHeartbeats 8000000 in
set_option maxRecDepth 100000 in
theorem call_within.calls (D:Int) (L:Int) (a2:Int) (r:Bool) (w:World) (h:call_within.f D L a2=some r):
  Calls Try.prog 41 #[.int .i64 D,.int .i64 L,.int .i64 a2] w fun e w'=>e = .returned (.bool r)∧Drawn0 w w':=by
 have H:(if L≤D then (some (decide (D≤a2))) else (some false))=some r:=h
 clear h
 by_cases c4:L≤D
 ·rw[if_pos c4] at H
  have c4b0:decide (L≤D)=true:=decide_eq_true c4
  clear c4
  obtain rfl:=Option.some.inj H
  go_enter Try.func41,Try.ntmps41
  go_wp2
  go_ret
  exact⟨qR,by repeat(first|exact Drawn0.refl _|apply Drawn0.step)⟩
 ·rw[if_neg c4] at H
  have c4b0:decide (L≤D)=false:=decide_eq_false c4
  clear c4
  obtain rfl:=Option.some.inj H
  go_enter Try.func41,Try.ntmps41
  go_wp2
  go_ret
  exact⟨qR,by repeat(first|exact Drawn0.refl _|apply Drawn0.step)⟩
end Go.Proofs.Ytjehhhlhalkieaa.C
namespace Go.Proofs.Ytjehhhlhalkieaa.C
open Go.RowKit Go.Proofs.YtjehhhlhalkieaaW.PrintWords Go.Proofs.YtjehhhlhalkieaaW.PrintLast Go.Proofs.YtjehhhlhalkieaaW.PrintMore
set_option linter.unusedVariables false
set_option linter.unusedSimpArgs false
section
variable {P : Program} {ops : Array Oper} {Q : Exit → Act → World → Prop}
theorem Xu {oi:Oper} {N:Option Tmp} {a:Act} {w:World} {K:Act→World→Prop} {f:FuncId} {fn:Func} {x:Operand} {xs:Array Operand} {ts:Array TypeId} (hf:P.funcs[f]?=some fn) (hname:(fn.name == "runtime.NumGoroutine")=false) (hb:fn.body.isSome=true) (first cap args all:Array Value) (hall:first ++ args++cap=all)
    (hw:Region.wanted oi (yielded ops a.tmps)=true) (hN:oi.dst=N) (hop:oi.op = .call {callee:=.value x,args:=xs,argTypes:=ts}) (hx:a.eval x = .func (.func f) first cap) (hargs:xs.map a.eval=args)
    (h:Calls P f all w fun e w'=>∃ v,e = .returned v∧K (a.put N v) w'):if Region.wanted oi (yielded ops a.tmps)=true then Oper.wp P oi a w K Q else K (a.put N undef) w:=by
  refine Ef f all hw hN ?_ h
  have he:=V6 hf hname hb all w
  unfold execOp
  simp[hop,hx,resolve,Deferred.ofValue,invoke,hargs,hall,he]
end
def tok (a b:Int):Int:=a * 18446744073709551616+(b+9223372036854775808)
def Yf (t:Int):Int:=t / 18446744073709551616
def Ye (t:Int):Int:=t % 18446744073709551616-9223372036854775808
theorem Jp (a b:Int) (h: -9223372036854775808≤b∧b≤9223372036854775807):Yf (tok a b)=a:=by unfold Yf tok;omega
theorem Jo (a b:Int) (h: -9223372036854775808≤b∧b≤9223372036854775807):Ye (tok a b)=b:=by unfold Ye tok;omega
theorem Z0 {w W:World} {g:Nat} {t:TypeId} {cs:Array Value} (h:w.heap[g]?=some (.cells cs t (0,0))) (hb:Below w.heap.size w W):W.heap[g]?=some (.cells cs t (0,0)):=Qo h hb
def V9 (a b:Int):Int:=if a<b then -1 else if a>b then 1 else 0
def Zz (D L B U:Int):Int:=if V9 D B≠0 then V9 D B else V9 L U
theorem cmp_eq (a b:Int):K.cmp_Compare_int.f a b=some (V9 a b):=by
  unfold K.cmp_Compare_int.f K.cmp_isNaN_int.f V9
  simp only[Option.bind_some,bne_self_eq_false]
  rw[if_neg (by decide),if_neg (by decide)]
  split
  · rfl
  · split <;> rfl
theorem Ec (a b:Int):K.cmp_Or_int.f 5 [a,b]=some (if a≠0 then a else b):=by
  have w1:wrap64 (0+1)=1:=by unfold wrap64;omega
  have Y:wrap64 (1+1)=2:=by unfold wrap64;omega
  have r0:rd [a,b] 0=a:=rfl
  have r1:rd [a,b] 1=b:=rfl
  have B:(([a,b]:List Int).length:Int)=2:=rfl
  unfold K.cmp_Or_int.f
  rw[B,K.cmp_Or_int.l0,if_pos (by decide),if_pos (by decide),B,if_pos (by decide),r0,w1]
  by_cases h:a=0
  · rw[if_pos h,if_neg (fun g=>g h),K.cmp_Or_int.l0,if_pos (by decide),if_pos (by decide),B,if_pos (by decide),r1,Y]
    by_cases O:b=0
    · rw[if_pos O,K.cmp_Or_int.l0,if_neg (by decide),O]
    · rw[if_neg O]
  · rw[if_neg h,if_pos h]
def call_halls_1.f (J D B I L X:Int):Option Int:=some (Zz J D I L)
def call_ins_1.f (J D I L:Int):Option Int:=some (Zz J D I L)
theorem call_halls_1.calls (J D B I L X r:Int) (w:World) (h:call_halls_1.f J D B I L X=some r):
    Calls Try.prog 51 #[.agg #[.int .i64 J,.int .i64 D,.int .i64 B],.agg #[.int .i64 I,.int .i64 L,.int .i64 X]] w fun e w'=>e = .returned (.int .i64 r)∧Below w.heap.size w w':=by
  refine K.call_halls_1.calls 5 J D B I L X r w ?_
  unfold K.call_halls_1.f
  rw[cmp_eq,cmp_eq]
  simp only[Option.bind_some]
  rw[Ec]
  exact h
theorem call_ins_1.calls (J D I L r:Int) (w:World) (h:call_ins_1.f J D I L=some r):
    Calls Try.prog 57 #[.agg #[.int .i64 J,.int .i64 D],.agg #[.int .i64 I,.int .i64 L]] w fun e w'=>e = .returned (.int .i64 r)∧Below w.heap.size w w':=by
  refine K.call_ins_1.calls 5 J D I L r w ?_
  unfold K.call_ins_1.f
  rw[cmp_eq,cmp_eq]
  simp only[Option.bind_some]
  rw[Ec]
  exact h
def Xq (F C:Int) (D J X:Int):Bool:=decide ((J=1∨J = -1)∧(0≤D∧D≤wrap64 (F-1))∧(0≤wrap64 (D+J)∧wrap64 (D+J)≤wrap64 (F-1))∧(-1≤X∧X≤wrap64 (C-1)))
def Yw (F C:Int) (D J:Int):Bool:=decide ((0≤D∧D≤wrap64 (C-1))∧(0≤J∧J≤wrap64 (F-1)))
theorem Jn (a b c:Int) (r:Bool) (h:decide (b≤a∧a≤c)=r):call_within.f a b c=some r:=by
  unfold call_within.f
  subst h
  by_cases h1:b≤a
  · rw[if_pos h1];simp[h1]
  · rw[if_neg h1];simp[h1]
theorem Mz (F C D J X:Int):Xq F C D J X=((J==1||J == -1)&&(decide (0≤D∧D≤wrap64 (F-1))&&(decide (0≤wrap64 (D+J)∧wrap64 (D+J)≤wrap64 (F-1))&&decide (-1≤X∧X≤wrap64 (C-1))))):=by
  unfold Xq
  rw[Bool.eq_iff_iff]
  simp[and_assoc]
theorem Ny (F C D J:Int):Yw F C D J=(decide (0≤D∧D≤wrap64 (C-1))&&decide (0≤J∧J≤wrap64 (F-1))):=by
  unfold Yw
  rw[Bool.eq_iff_iff]
  simp[and_assoc]
def call_hall_1.f (J D B L:Int):Option Bool:=some (Xq (Yf L) (Ye L) J D B)
def call_inside_1.f (J D L:Int):Option Bool:=some (Yw (Yf L) (Ye L) J D)
set_option maxRecDepth 100000 in
set_option maxHeartbeats 4000000 in
theorem Kn (F C D J X:Int) (r:Bool) (w:World) (h:Xq F C D J X=r) (g:Nat) (hg:w.heap[g]?=some (.cells #[.int .i64 F,.int .i64 C] 23 (0,0))):
    Calls Try.prog 61 #[.agg #[.int .i64 D,.int .i64 J,.int .i64 X],.pointer (some ⟨g,0,none⟩)] w fun e w'=>e = .returned (.bool r)∧Below w.heap.size w w':=by
  rw[Mz] at h
  have HG:=Aside0.mk hg
  have HB:=Aside0.mk (Below.refl w.heap.size w)
  clear hg
  have B:∃ b,decide (0≤D∧D≤wrap64 (F-1))=b:=⟨_,rfl⟩
  have I:∃ b,decide (0≤wrap64 (D+J)∧wrap64 (D+J)≤wrap64 (F-1))=b:=⟨_,rfl⟩
  have L:∃ b,decide (-1≤X∧X≤wrap64 (C-1))=b:=⟨_,rfl⟩
  have η :∃ b,(J==1)=b:=⟨_,rfl⟩
  have θ :∃ b,(J == -1)=b:=⟨_,rfl⟩
  obtain⟨U,B⟩:=B
  obtain⟨Y,I⟩:=I
  obtain⟨b3,L⟩:=L
  obtain⟨d1,η⟩:= η
  obtain⟨d2,θ⟩:= θ
  rw[B,I,L,η,θ] at h
  have Z:=Aside0.mk B
  have D2:=Aside0.mk I
  have D3:=Aside0.mk L
  clear B I L
  cases d1 <;> cases d2 <;> cases U <;> cases Y <;> cases b3 <;> simp only[Bool.or_false,Bool.false_or,Bool.or_true,Bool.true_or,Bool.and_false,Bool.false_and,Bool.and_true,Bool.true_and] at h <;> subst h <;>
  · go_enter Try.func61,Try.ntmps61
    go_wp2_with (first|((with_reducible refine Qp (N:=2) rfl ?_);refine Q7 ?hg (N:=2) ?hd (cs:=#[.int .i64 D,.int .i64 J,.int .i64 X]) (t:=56) ?hr ?_;(case hd=>rfl);(case hg=>rfl);(case hr=>first|(go_simp;done)|(go_simp;rfl));intro gb hgb w1 hbox hb;have O:=Aside0.mk (Qt HB.out hb);clear HB;have HB:=O;clear O;have hk:=Z0 HG.out HB.out;have γ:w1.cell? ⟨g,0,none⟩=some (.int .i64 F):=(Qi hk 0).trans rfl;have δ :w1.cell? ⟨g,1,none⟩=some (.int .i64 C):=(Qi hk 1).trans rfl;have ε :w1.cell? ⟨gb,0,none⟩=some (.int .i64 D):=(Qi hbox 0).trans rfl;have ζ :w1.cell? ⟨gb,1,none⟩=some (.int .i64 J):=(Qi hbox 1).trans rfl;have ι :w1.cell? ⟨gb,2,none⟩=some (.int .i64 X):=(Qi hbox 2).trans rfl;clear hk hbox hb hgb)|(go_at_call 41;((with_reducible refine(call_within.calls D 0 (wrap64 (F-1)) _ _ (Jn _ _ _ _ Z.out)).mono ?_);rintro e w' ⟨rfl,⟨nd,rfl⟩⟩))|(go_at_call 41;((with_reducible refine(call_within.calls (wrap64 (D+J)) 0 (wrap64 (F-1)) _ _ (Jn _ _ _ _ D2.out)).mono ?_);rintro e w' ⟨rfl,⟨nd,rfl⟩⟩))|(go_at_call 41;((with_reducible refine(call_within.calls X (-1) (wrap64 (C-1)) _ _ (Jn _ _ _ _ D3.out)).mono ?_);rintro e w' ⟨rfl,⟨nd,rfl⟩⟩)))
    go_ret
    exact⟨rfl,by repeat(first|exact HB.out|apply Qc)⟩
set_option maxRecDepth 100000 in
set_option maxHeartbeats 4000000 in
theorem Y1 (F C D J:Int) (r:Bool) (w:World) (h:Yw F C D J=r) (g:Nat) (hg:w.heap[g]?=some (.cells #[.int .i64 F,.int .i64 C] 23 (0,0))):
    Calls Try.prog 50 #[.agg #[.int .i64 D,.int .i64 J],.pointer (some ⟨g,0,none⟩)] w fun e w'=>e = .returned (.bool r)∧Below w.heap.size w w':=by
  rw[Ny] at h
  have HG:=Aside0.mk hg
  have HB:=Aside0.mk (Below.refl w.heap.size w)
  clear hg
  have B:∃ b,decide (0≤D∧D≤wrap64 (C-1))=b:=⟨_,rfl⟩
  have I:∃ b,decide (0≤J∧J≤wrap64 (F-1))=b:=⟨_,rfl⟩
  obtain⟨U,B⟩:=B
  obtain⟨Y,I⟩:=I
  rw[B,I] at h
  have Z:=Aside0.mk B
  have D2:=Aside0.mk I
  clear B I
  cases U <;> cases Y <;> simp only[Bool.and_false,Bool.false_and,Bool.and_true,Bool.true_and] at h <;> subst h <;>
  · go_enter Try.func50,Try.ntmps50
    go_wp2_with (first|((with_reducible refine Qp (N:=2) rfl ?_);refine Q7 ?hg (N:=2) ?hd (cs:=#[.int .i64 D,.int .i64 J]) (t:=62) ?hr ?_;(case hd=>rfl);(case hg=>rfl);(case hr=>first|(go_simp;done)|(go_simp;rfl));intro gb hgb w1 hbox hb;have O:=Aside0.mk (Qt HB.out hb);clear HB;have HB:=O;clear O;have hk:=Z0 HG.out HB.out;have γ:w1.cell? ⟨g,0,none⟩=some (.int .i64 F):=(Qi hk 0).trans rfl;have δ :w1.cell? ⟨g,1,none⟩=some (.int .i64 C):=(Qi hk 1).trans rfl;have ε :w1.cell? ⟨gb,0,none⟩=some (.int .i64 D):=(Qi hbox 0).trans rfl;have ζ :w1.cell? ⟨gb,1,none⟩=some (.int .i64 J):=(Qi hbox 1).trans rfl;clear hk;clear hbox hb hgb)|(go_at_call 41;((with_reducible refine(call_within.calls D 0 (wrap64 (C-1)) _ _ (Jn _ _ _ _ Z.out)).mono ?_);rintro e w' ⟨rfl,⟨nd,rfl⟩⟩))|(go_at_call 41;((with_reducible refine(call_within.calls J 0 (wrap64 (F-1)) _ _ (Jn _ _ _ _ D2.out)).mono ?_);rintro e w' ⟨rfl,⟨nd,rfl⟩⟩)))
    go_ret
    exact⟨rfl,by repeat(first|exact HB.out|apply Qc)⟩
theorem call_hall_1.calls (J D B L:Int) (r:Bool) (w:World) (h:call_hall_1.f J D B L=some r) (g:Nat) (hg:w.heap[g]?=some (.cells #[.int .i64 (Yf L),.int .i64 (Ye L)] 23 (0,0))):
    Calls Try.prog 61 #[.agg #[.int .i64 J,.int .i64 D,.int .i64 B],.pointer (some ⟨g,0,none⟩)] w fun e w'=>e = .returned (.bool r)∧Below w.heap.size w w':=
  Kn _ _ _ _ _ _ _ (Option.some.inj h) g hg
theorem call_inside_1.calls (J D L:Int) (r:Bool) (w:World) (h:call_inside_1.f J D L=some r) (g:Nat) (hg:w.heap[g]?=some (.cells #[.int .i64 (Yf L),.int .i64 (Ye L)] 23 (0,0))):
    Calls Try.prog 50 #[.agg #[.int .i64 J,.int .i64 D],.pointer (some ⟨g,0,none⟩)] w fun e w'=>e = .returned (.bool r)∧Below w.heap.size w w':=
  Y1 _ _ _ _ _ _ (Option.some.inj h) g hg
def api_Hall_without_1.f (J D B L:Int):Option Bool:=some (Zz (Yf L) (Ye L) J D==0)
set_option maxRecDepth 100000 in
set_option maxHeartbeats 4000000 in
theorem Kr (D J X I L U:Int) (r:Bool) (w:World) (h:(Zz D J I L==0)=r) (A:Option Addr) (n c:Nat) (gr gx:Nat) (hr:w.heap[gr]?=some (.cells #[.slice A n c,.func (.func 51) #[] #[]] 69 (0,0))) (hx:w.heap[gx]?=some (.cells #[.int .i64 D,.int .i64 J,.int .i64 X] 56 (0,0))):
    Calls Try.prog 56 #[.agg #[.int .i64 I,.int .i64 L,.int .i64 U],.pointer (some ⟨gr,0,none⟩),.pointer (some ⟨gx,0,none⟩)] w fun e w'=>e = .returned (.bool r)∧Below w.heap.size w w':=by
  have HR:=Aside0.mk hr
  have HX:=Aside0.mk hx
  have HB:=Aside0.mk (Below.refl w.heap.size w)
  clear hr hx
  have hd:∃ z,Zz D J I L=z:=⟨_,rfl⟩
  obtain⟨z,hd⟩:=hd
  rw[hd] at h
  have Z:=Aside0.mk (show call_halls_1.f D J X I L U=some z from congrArg some hd)
  clear hd
  cases r <;>
  · go_enter Try.func56,Try.ntmps56
    go_wp2_with (first|((with_reducible refine Qp (N:=3) rfl ?_);refine Q7 ?hg (N:=3) ?hd (cs:=#[.int .i64 I,.int .i64 L,.int .i64 U]) (t:=56) ?hr ?_;(case hd=>rfl);(case hg=>rfl);(case hr=>first|(go_simp;done)|(go_simp;rfl));intro gb hgb w1 hbox hb;have O:=Aside0.mk (Qt HB.out hb);clear HB;have HB:=O;clear O;have hk:=Z0 HR.out HB.out;have hq:=Z0 HX.out HB.out;have γ:w1.cell? ⟨gr,0,none⟩=some (.slice A n c):=(Qi hk 0).trans rfl;have δ :w1.cell? ⟨gr,1,none⟩=some (.func (.func 51) #[] #[]):=(Qi hk 1).trans rfl;have B:w1.cell? ⟨gx,0,none⟩=some (.int .i64 D):=(Qi hq 0).trans rfl;have η :w1.cell? ⟨gx,1,none⟩=some (.int .i64 J):=(Qi hq 1).trans rfl;have θ :w1.cell? ⟨gx,2,none⟩=some (.int .i64 X):=(Qi hq 2).trans rfl;have ε :w1.cell? ⟨gb,0,none⟩=some (.int .i64 I):=(Qi hbox 0).trans rfl;have ζ :w1.cell? ⟨gb,1,none⟩=some (.int .i64 L):=(Qi hbox 1).trans rfl;have ι :w1.cell? ⟨gb,2,none⟩=some (.int .i64 U):=(Qi hbox 2).trans rfl;clear hk hq;clear hbox hb hgb)|(go_at_call 51;((with_reducible refine(call_halls_1.calls D J X I L U z _ Z.out).mono ?_);rintro e Y ⟨rfl,hb⟩;have O:=Aside0.mk (Qt HB.out hb);clear HB;have HB:=O;clear O;clear hb)))
    go_ret
    exact⟨rfl,HB.out⟩
theorem api_Hall_without_1.calls (J D B L:Int) (r:Bool) (w:World) (h:api_Hall_without_1.f J D B L=some r) (A:Option Addr) (n c:Nat) (gr gx:Nat) (z:Int) (hr:w.heap[gr]?=some (.cells #[.slice A n c,.func (.func 51) #[] #[]] 69 (0,0))) (hx:w.heap[gx]?=some (.cells #[.int .i64 (Yf L),.int .i64 (Ye L),.int .i64 z] 56 (0,0))):
    Calls Try.prog 56 #[.agg #[.int .i64 J,.int .i64 D,.int .i64 B],.pointer (some ⟨gr,0,none⟩),.pointer (some ⟨gx,0,none⟩)] w fun e w'=>e = .returned (.bool r)∧Below w.heap.size w w':=
  Kr (Yf L) (Ye L) z J D B r w (Option.some.inj h) A n c gr gx hr hx
def api_Inside_without_1.f (J D L:Int):Option Bool:=some (Zz (Yf L) (Ye L) J D==0)
set_option maxRecDepth 100000 in
set_option maxHeartbeats 4000000 in
theorem Kj (D J I L:Int) (r:Bool) (w:World) (h:(Zz D J I L==0)=r) (A:Option Addr) (n c:Nat) (gr gx:Nat) (hr:w.heap[gr]?=some (.cells #[.slice A n c,.func (.func 57) #[] #[]] 74 (0,0))) (hx:w.heap[gx]?=some (.cells #[.int .i64 D,.int .i64 J] 62 (0,0))):
    Calls Try.prog 65 #[.agg #[.int .i64 I,.int .i64 L],.pointer (some ⟨gr,0,none⟩),.pointer (some ⟨gx,0,none⟩)] w fun e w'=>e = .returned (.bool r)∧Below w.heap.size w w':=by
  have HR:=Aside0.mk hr
  have HX:=Aside0.mk hx
  have HB:=Aside0.mk (Below.refl w.heap.size w)
  clear hr hx
  have hd:∃ z,Zz D J I L=z:=⟨_,rfl⟩
  obtain⟨z,hd⟩:=hd
  rw[hd] at h
  have Z:=Aside0.mk (show call_ins_1.f D J I L=some z from congrArg some hd)
  clear hd
  cases r <;>
  · go_enter Try.func65,Try.ntmps65
    go_wp2_with (first|((with_reducible refine Qp (N:=3) rfl ?_);refine Q7 ?hg (N:=3) ?hd (cs:=#[.int .i64 I,.int .i64 L]) (t:=62) ?hr ?_;(case hd=>rfl);(case hg=>rfl);(case hr=>first|(go_simp;done)|(go_simp;rfl));intro gb hgb w1 hbox hb;have O:=Aside0.mk (Qt HB.out hb);clear HB;have HB:=O;clear O;have hk:=Z0 HR.out HB.out;have hq:=Z0 HX.out HB.out;have γ:w1.cell? ⟨gr,0,none⟩=some (.slice A n c):=(Qi hk 0).trans rfl;have δ :w1.cell? ⟨gr,1,none⟩=some (.func (.func 57) #[] #[]):=(Qi hk 1).trans rfl;have B:w1.cell? ⟨gx,0,none⟩=some (.int .i64 D):=(Qi hq 0).trans rfl;have η :w1.cell? ⟨gx,1,none⟩=some (.int .i64 J):=(Qi hq 1).trans rfl;have ε :w1.cell? ⟨gb,0,none⟩=some (.int .i64 I):=(Qi hbox 0).trans rfl;have ζ :w1.cell? ⟨gb,1,none⟩=some (.int .i64 L):=(Qi hbox 1).trans rfl;clear hk hq;clear hbox hb hgb)|(go_at_call 57;((with_reducible refine(call_ins_1.calls D J I L z _ Z.out).mono ?_);rintro e Y ⟨rfl,hb⟩;have O:=Aside0.mk (Qt HB.out hb);clear HB;have HB:=O;clear O;clear hb)))
    go_ret
    exact⟨rfl,HB.out⟩
theorem api_Inside_without_1.calls (J D L:Int) (r:Bool) (w:World) (h:api_Inside_without_1.f J D L=some r) (A:Option Addr) (n c:Nat) (gr gx:Nat) (z:Int) (hr:w.heap[gr]?=some (.cells #[.slice A n c,.func (.func 57) #[] #[]] 74 (0,0))) (hx:w.heap[gx]?=some (.cells #[.int .i64 (Yf L),.int .i64 (Ye L)] 62 (0,0))):
    Calls Try.prog 65 #[.agg #[.int .i64 J,.int .i64 D],.pointer (some ⟨gr,0,none⟩),.pointer (some ⟨gx,0,none⟩)] w fun e w'=>e = .returned (.bool r)∧Below w.heap.size w w':=
  Kj (Yf L) (Ye L) J D r w (Option.some.inj h) A n c gr gx hr hx
end Go.Proofs.Ytjehhhlhalkieaa.C
set_option linter.unusedVariables false
namespace Go.Proofs.Ytjehhhlhalkieaa.C
open Go.RowKit Go.Proofs.YtjehhhlhalkieaaW.PrintWords Go.Proofs.YtjehhhlhalkieaaW.PrintLast Go.Proofs.YtjehhhlhalkieaaW.PrintMore
theorem bel {B:Nat} {w W:World} (h:Below B w W:=by repeat(first|(with_reducible first|exact HB.out|apply Qh|apply Qc|apply Qe|refine Qd ?_ (Aside0.out (by assumption)))|exact HB.out|(refine Qd ?_ (Aside0.out (by assumption))))):Below B w W:=h
theorem bka {w W:World} {g:Nat} {o:Obj} (b:Aside0 (w.heap[g]?=some o)) (e:W.heap[g]?=some o:=by(with_reducible repeat(first|refine Qf ?_ _|refine Qb ?_|refine Qg ?_ _|refine Zt ?_ (Aside0.out (by assumption)) _));exact Aside0.out (by assumption)):W.heap[g]?=some o:=e
theorem kra {α:Type} {d:Kd α} {L:TypeId} {w W:World} {base:Nat} {ok:Nat→Prop} {v:Value} {xs:List α} (b:Aside0 (d.R L w base ok v xs)) (e:d.R L W base ok v xs:=by(with_reducible repeat first|apply Kd.Qm|apply Kd.Ql|apply Kd.Qn);exact Aside0.out (by assumption)):d.R L W base ok v xs:=e
theorem sRb {α:Type} {d:Kd α} {L:TypeId} {w w1 Y:World} {base:Nat} {ok:Nat→Prop} {v:Value} {xs:List α} (b:Aside0 (d.R L w base ok v xs)) (h:Below w1.heap.size w1 Y) (e:d.R L w1 base ok v xs:=by(with_reducible repeat first|apply Kd.Qm|apply Kd.Ql|apply Kd.Qn);exact Aside0.out (by assumption)):Aside0 (d.R L Y base ok v xs):=⟨Kd.Qu e h⟩
theorem sBk {w w1 Y:World} {g:Nat} {o:Obj} (b:Aside0 (w.heap[g]?=some o)) (h:Below w1.heap.size w1 Y) (e:w1.heap[g]?=some o:=by(with_reducible repeat(first|refine Qf ?_ _|refine Qb ?_|refine Qg ?_ _|refine Zt ?_ (Aside0.out (by assumption)) _));exact Aside0.out (by assumption)):Aside0 (Y.heap[g]?=some o):=⟨Qo e h⟩
theorem sHb {w W Y:World} (h:Below W.heap.size W Y) (b:Below w.heap.size w W:=by repeat(first|(with_reducible first|exact HB.out|apply Qh|apply Qc|apply Qe|refine Qd ?_ (Aside0.out (by assumption)))|exact HB.out|(refine Qd ?_ (Aside0.out (by assumption))))):Aside0 (Below w.heap.size w Y):=⟨Qt b h⟩
theorem sGe {w W:World} {g:Nat} (h:g=W.heap.size) (b:Below w.heap.size w W:=by repeat(first|(with_reducible first|exact HB.out|apply Qh|apply Qc|apply Qe|refine Qd ?_ (Aside0.out (by assumption)))|exact HB.out|(refine Qd ?_ (Aside0.out (by assumption))))):Aside0 (w.heap.size≤g):=⟨by rw[h];exact Qj b⟩
theorem sNl {w W:World} {g k:Nat} {o:Obj} (b:Aside0 (w.heap[g]?=some o)) (h:k=W.heap.size) (e:W.heap[g]?=some o:=by(with_reducible repeat(first|refine Qf ?_ _|refine Qb ?_|refine Qg ?_ _|refine Zt ?_ (Aside0.out (by assumption)) _));exact Aside0.out (by assumption)):Aside0 (g≠k):=⟨by rw[h];exact Nat.ne_of_lt (Q3 e)⟩
theorem sNg {w W:World} {g k:Nat} {o:Obj} (b:Aside0 (w.heap[g]?=some o)) (h:k=W.heap.size) (e:W.heap[g]?=some o:=by(with_reducible repeat(first|refine Qf ?_ _|refine Qb ?_|refine Qg ?_ _|refine Zt ?_ (Aside0.out (by assumption)) _));exact Aside0.out (by assumption)):Aside0 (k≠g):=⟨by rw[h];exact Nat.ne_of_gt (Q3 e)⟩
def bN (n m:Nat):Array Bool:=((List.range n).map fun i=>m.testBit i).toArray
end Go.Proofs.Ytjehhhlhalkieaa.C
namespace Go.Proofs.Ytjehhhlhalkieaa.C
open Go.RowKit Go.Proofs.YtjehhhlhalkieaaW.PrintWords Go.Proofs.YtjehhhlhalkieaaW.PrintLast Go.Proofs.YtjehhhlhalkieaaW.PrintMore
attribute [local go_sem] Z4 Z2 Xe Xd Zx Zw Z3 Z1
set_option linter.unusedVariables false
set_option linter.unusedSimpArgs false
def api_Hall_67.l0:Nat→List (S56)→Int→Int→Int→Option (Int)
 |0,_,_,_,_=>none
 |k+1,D,J,B,O=>if O<B then (if 0≤O then (if O<(D.length:Int) then ((api_Hall_without_1.f ((Qa D O).f0) ((Qa D O).f1) ((Qa D O).f2) J).bind fun ap=>(if ap=true then (some O) else (api_Hall_67.l0 k D J B (wrap64 (O+1))))) else (none)) else (none)) else (some (-1))
def api_Hall_67.f (k:Nat) (l0:List (S56)) (L:Int):Option (Int):=api_Hall_67.l0 k l0 L (l0.length:Int) 0
theorem api_Hall_67.Zn:∀ k,(∀ I L U D,LeO (api_Hall_67.l0 k I L U D) (api_Hall_67.l0 (k+1) I L U D))
 |0=>fun _ _ _ _ r h=>by simp[api_Hall_67.l0] at h
 |k+1=>by
  have B:=api_Hall_67.Zn k
  ·intro I L U D
   unfold api_Hall_67.l0
   repeat' first
   |(with_reducible exact B _ _ _ _)
   |(with_reducible exact LeO.refl _)
   |(with_reducible exact LeO.none _)
   |(with_reducible refine LeO.ite ?_ ?_)
   |(with_reducible refine LeO.bind ?_ (fun _=>?_))
   |exact B _ _ _ _
   |exact LeO.none _
   |refine LeO.ite ?_ ?_
   |refine LeO.bind ?_ (fun _=>?_)
theorem api_Hall_67.mono:∀ D L k,LeO (api_Hall_67.f k D L) (api_Hall_67.f (k+1) D L):=by
 intro D L k
 have B:=api_Hall_67.Zn k
 unfold api_Hall_67.f
 repeat' first
   |(with_reducible exact B _ _ _ _)
   |(with_reducible exact LeO.refl _)
   |(with_reducible exact LeO.none _)
   |(with_reducible refine LeO.ite ?_ ?_)
   |(with_reducible refine LeO.bind ?_ (fun _=>?_))
   |exact B _ _ _ _
   |exact LeO.none _
   |refine LeO.ite ?_ ?_
   |refine LeO.bind ?_ (fun _=>?_)
set_option maxHeartbeats 8000000 in
set_option maxRecDepth 100000 in
theorem api_Hall_67.calls (k:Nat) (A0:Option Addr) (c0:Nat) (l0:List (S56)) (L:Int) (r:Int) (w:World) (aa:Kd.C k56 w A0 l0.length l0) (a9:l0.length≤c0) (h:api_Hall_67.f k l0 L=some r) (Ar_:Option Addr) (nr_ cr_ gr_ gx_:Nat) (zx_:Int) (hgr_:w.heap[gr_]?=some (.cells #[.slice Ar_ nr_ cr_,.func (.func 51) #[] #[]] 69 (0,0))) (hgx_:w.heap[gx_]?=some (.cells #[.int .i64 (Yf L),.int .i64 (Ye L),.int .i64 zx_] 56 (0,0))):
  Calls Try.prog 67 #[.slice A0 l0.length c0,.func (.func 56) #[] #[.pointer (some ⟨gr_,0,none⟩),.pointer (some ⟨gx_,0,none⟩)]] w fun e w'=>e = .returned (.int .i64 r)∧Below w.heap.size w w':=by
 have HCR:=Aside0.mk hgr_
 have HCX:=Aside0.mk hgx_
 clear hgr_ hgx_
 have ay:=Try.underlying56
 have ν :=Aside0.mk aa
 have cn:=Aside0.mk a9
 clear aa a9
 have HB:=Aside0.mk (Below.refl w.heap.size w)
 have H:(api_Hall_67.l0 k l0 L (l0.length:Int) 0)=some r:=h
 clear h
 have H':=Aside0.mk H
 clear H
 go_enter Try.func67,Try.ntmps67
 go_wp2
 go_loopg [8] k (fun kq v8 w'=>∃ (B:Int),v8 = .int .i64 B∧Aside0 (api_Hall_67.l0 kq l0 L (l0.length:Int) B=some r)∧Aside0 (kq≤k)∧Aside0 (Below w.heap.size w w'))
 case atStart=>exact⟨(0),rfl,H',⟨Nat.le_refl _⟩,HB⟩
 case round=>
  clear H'
  try clear p2
  obtain⟨B,rfl,HA,ξ,HB⟩:=hrel
  cases gk with
  |zero=>exact absurd HA.out (by simp[api_Hall_67.l0])
  |succ k1=>
   have H:=HA.out
   clear HA
   simp only[api_Hall_67.l0] at H
   by_cases c3:B<(l0.length:Int)
   ·rw[if_pos c3] at H
    have c3b0:decide (B<(l0.length:Int))=true:=decide_eq_true c3
    clear c3
    by_cases c4:0≤B
    ·rw[if_pos c4] at H
     have c4b0:decide (0≤B)=true:=decide_eq_true c4
     clear c4
     by_cases c5:B<(l0.length:Int)
     ·rw[if_pos c5] at H
      have c5b0:decide (B<(l0.length:Int))=true:=decide_eq_true c5
      clear c5
      replace H:=Option.bind_eq_some_iff.mp H
      obtain⟨ap,ch,H⟩:=H
      replace H:(if ap=true then (some B) else (api_Hall_67.l0 k1 l0 L (l0.length:Int) (wrap64 (B+1))))=some r:=H
      have A6:=Aside0.mk ch
      clear ch
      by_cases c7:ap=true
      ·subst c7
       have H1:(some B)=some r:=by rw[if_pos rfl] at H;exact H
       clear H
       have H:=H1
       clear H1
       obtain rfl:=Option.some.inj H
       have U:0≤(B:Int):=of_decide_eq_true (by assumption)
       have X:B<(l0.length:Int):=of_decide_eq_true (by assumption)
       obtain⟨Z,Y,D,I,J⟩:=Zo ν.out B U X
       cases Y
       replace D:=(HB.out.cell (World.block_lt_of_cell? w _ D)).trans D
       replace I:=(HB.out.cell (World.block_lt_of_cell? w _ I)).trans I
       replace J:=(HB.out.cell (World.block_lt_of_cell? w _ J)).trans J
       replace U:=eq_true U
       replace X:=eq_true X
       go_wp2_with (first|(go_at_call 56;((with_reducible refine(api_Hall_without_1.calls ((Qa l0 B).f0) ((Qa l0 B).f1) ((Qa l0 B).f2) L true _ A6.out Ar_ nr_ cr_ gr_ gx_ zx_ (Z0 HCR.out (by repeat(first|(with_reducible first|exact HB.out|apply Qh|apply Qc|apply Qe)|exact HB.out|(refine Qd ?_ (Aside0.out (by assumption)))))) (Z0 HCX.out (by repeat(first|(with_reducible first|exact HB.out|apply Qh|apply Qc|apply Qe)|exact HB.out|(refine Qd ?_ (Aside0.out (by assumption))))))).mono ?_);rintro e w8 ⟨rfl,hb⟩;have O:=Aside0.mk (Qt HB.out hb);clear HB;have HB:=O;clear O;(try clear hb);(try clear a0);(try clear hk);(try clear hi))))
       go_ret
       exact⟨rfl,HB.out⟩
      ·replace c7:=Bool.eq_false_iff.mpr c7
       subst c7
       have H1:(api_Hall_67.l0 k1 l0 L (l0.length:Int) (wrap64 (B+1)))=some r:=by rw[if_neg (show ¬ (false=true) by decide)] at H;exact H
       clear H
       have H:=H1
       clear H1
       have H':=Aside0.mk H
       clear H
       have U:0≤(B:Int):=of_decide_eq_true (by assumption)
       have X:B<(l0.length:Int):=of_decide_eq_true (by assumption)
       obtain⟨Z,Y,D,I,J⟩:=Zo ν.out B U X
       cases Y
       replace D:=(HB.out.cell (World.block_lt_of_cell? w _ D)).trans D
       replace I:=(HB.out.cell (World.block_lt_of_cell? w _ I)).trans I
       replace J:=(HB.out.cell (World.block_lt_of_cell? w _ J)).trans J
       replace U:=eq_true U
       replace X:=eq_true X
       go_wp2_with (first|(go_at_call 56;((with_reducible refine(api_Hall_without_1.calls ((Qa l0 B).f0) ((Qa l0 B).f1) ((Qa l0 B).f2) L false _ A6.out Ar_ nr_ cr_ gr_ gx_ zx_ (Z0 HCR.out (by repeat(first|(with_reducible first|exact HB.out|apply Qh|apply Qc|apply Qe)|exact HB.out|(refine Qd ?_ (Aside0.out (by assumption)))))) (Z0 HCX.out (by repeat(first|(with_reducible first|exact HB.out|apply Qh|apply Qc|apply Qe)|exact HB.out|(refine Qd ?_ (Aside0.out (by assumption))))))).mono ?_);rintro e w9 ⟨rfl,hb⟩;have O:=Aside0.mk (Qt HB.out hb);clear HB;have HB:=O;clear O;(try clear hb);(try clear a0);(try clear hk);(try clear hi))))
       go_roundg k1
       case measure=>have:= ξ.out;omega
       case rel=>exact⟨(wrap64 (B+1)),rfl,H',⟨by have:= ξ.out;omega⟩,HB⟩
     ·rw[if_neg c5] at H
      exact absurd H (by simp)
    ·rw[if_neg c4] at H
     exact absurd H (by simp)
   ·rw[if_neg c3] at H
    have c3b0:decide (B<(l0.length:Int))=false:=decide_eq_false c3
    clear c3
    obtain rfl:=Option.some.inj H
    go_wp2
    go_ret
    exact⟨rfl,HB.out⟩
def api_Inside_72.l0:Nat→List (S62)→Int→Int→Int→Option (Int)
 |0,_,_,_,_=>none
 |k+1,D,J,B,O=>if O<B then (if 0≤O then (if O<(D.length:Int) then ((api_Inside_without_1.f ((Qk D O).f0) ((Qk D O).f1) J).bind fun X=>(if X=true then (some O) else (api_Inside_72.l0 k D J B (wrap64 (O+1))))) else (none)) else (none)) else (some (-1))
def api_Inside_72.f (k:Nat) (l0:List (S62)) (L:Int):Option (Int):=api_Inside_72.l0 k l0 L (l0.length:Int) 0
theorem api_Inside_72.Zn:∀ k,(∀ I L U D,LeO (api_Inside_72.l0 k I L U D) (api_Inside_72.l0 (k+1) I L U D))
 |0=>fun _ _ _ _ r h=>by simp[api_Inside_72.l0] at h
 |k+1=>by
  have B:=api_Inside_72.Zn k
  ·intro I L U D
   unfold api_Inside_72.l0
   repeat' first
   |(with_reducible exact B _ _ _ _)
   |(with_reducible exact LeO.refl _)
   |(with_reducible exact LeO.none _)
   |(with_reducible refine LeO.ite ?_ ?_)
   |(with_reducible refine LeO.bind ?_ (fun _=>?_))
   |exact B _ _ _ _
   |exact LeO.none _
   |refine LeO.ite ?_ ?_
   |refine LeO.bind ?_ (fun _=>?_)
theorem api_Inside_72.mono:∀ D L k,LeO (api_Inside_72.f k D L) (api_Inside_72.f (k+1) D L):=by
 intro D L k
 have B:=api_Inside_72.Zn k
 unfold api_Inside_72.f
 repeat' first
   |(with_reducible exact B _ _ _ _)
   |(with_reducible exact LeO.refl _)
   |(with_reducible exact LeO.none _)
   |(with_reducible refine LeO.ite ?_ ?_)
   |(with_reducible refine LeO.bind ?_ (fun _=>?_))
   |exact B _ _ _ _
   |exact LeO.none _
   |refine LeO.ite ?_ ?_
   |refine LeO.bind ?_ (fun _=>?_)
set_option maxHeartbeats 8000000 in
set_option maxRecDepth 100000 in
theorem api_Inside_72.calls (k:Nat) (A0:Option Addr) (c0:Nat) (l0:List (S62)) (L:Int) (r:Int) (w:World) (aa:Kd.C k62 w A0 l0.length l0) (a9:l0.length≤c0) (h:api_Inside_72.f k l0 L=some r) (Ar_:Option Addr) (nr_ cr_ gr_ gx_:Nat) (zx_:Int) (hgr_:w.heap[gr_]?=some (.cells #[.slice Ar_ nr_ cr_,.func (.func 57) #[] #[]] 74 (0,0))) (hgx_:w.heap[gx_]?=some (.cells #[.int .i64 (Yf L),.int .i64 (Ye L)] 62 (0,0))):
  Calls Try.prog 72 #[.slice A0 l0.length c0,.func (.func 65) #[] #[.pointer (some ⟨gr_,0,none⟩),.pointer (some ⟨gx_,0,none⟩)]] w fun e w'=>e = .returned (.int .i64 r)∧Below w.heap.size w w':=by
 have HCR:=Aside0.mk hgr_
 have HCX:=Aside0.mk hgx_
 clear hgr_ hgx_
 have b8:=Try.underlying62
 have ν :=Aside0.mk aa
 have cn:=Aside0.mk a9
 clear aa a9
 have HB:=Aside0.mk (Below.refl w.heap.size w)
 have H:(api_Inside_72.l0 k l0 L (l0.length:Int) 0)=some r:=h
 clear h
 have H':=Aside0.mk H
 clear H
 go_enter Try.func72,Try.ntmps72
 go_wp2
 go_loopg [8] k (fun kq v8 w'=>∃ (B:Int),v8 = .int .i64 B∧Aside0 (api_Inside_72.l0 kq l0 L (l0.length:Int) B=some r)∧Aside0 (kq≤k)∧Aside0 (Below w.heap.size w w'))
 case atStart=>exact⟨(0),rfl,H',⟨Nat.le_refl _⟩,HB⟩
 case round=>
  clear H'
  try clear p2
  obtain⟨B,rfl,HA,ξ,HB⟩:=hrel
  cases gk with
  |zero=>exact absurd HA.out (by simp[api_Inside_72.l0])
  |succ k1=>
   have H:=HA.out
   clear HA
   simp only[api_Inside_72.l0] at H
   by_cases c3:B<(l0.length:Int)
   ·rw[if_pos c3] at H
    have c3b0:decide (B<(l0.length:Int))=true:=decide_eq_true c3
    clear c3
    by_cases c4:0≤B
    ·rw[if_pos c4] at H
     have c4b0:decide (0≤B)=true:=decide_eq_true c4
     clear c4
     by_cases c5:B<(l0.length:Int)
     ·rw[if_pos c5] at H
      have c5b0:decide (B<(l0.length:Int))=true:=decide_eq_true c5
      clear c5
      replace H:=Option.bind_eq_some_iff.mp H
      obtain⟨X,ch,H⟩:=H
      replace H:(if X=true then (some B) else (api_Inside_72.l0 k1 l0 L (l0.length:Int) (wrap64 (B+1))))=some r:=H
      have A6:=Aside0.mk ch
      clear ch
      by_cases c7:X=true
      ·subst c7
       have H1:(some B)=some r:=by rw[if_pos rfl] at H;exact H
       clear H
       have H:=H1
       clear H1
       obtain rfl:=Option.some.inj H
       have J:0≤(B:Int):=of_decide_eq_true (by assumption)
       have U:B<(l0.length:Int):=of_decide_eq_true (by assumption)
       obtain⟨Z,Y,D,I⟩:=Zu ν.out B J U
       cases Y
       replace D:=(HB.out.cell (World.block_lt_of_cell? w _ D)).trans D
       replace I:=(HB.out.cell (World.block_lt_of_cell? w _ I)).trans I
       replace J:=eq_true J
       replace U:=eq_true U
       go_wp2_with (first|(go_at_call 65;((with_reducible refine(api_Inside_without_1.calls ((Qk l0 B).f0) ((Qk l0 B).f1) L true _ A6.out Ar_ nr_ cr_ gr_ gx_ zx_ (Z0 HCR.out (by repeat(first|(with_reducible first|exact HB.out|apply Qh|apply Qc|apply Qe)|exact HB.out|(refine Qd ?_ (Aside0.out (by assumption)))))) (Z0 HCX.out (by repeat(first|(with_reducible first|exact HB.out|apply Qh|apply Qc|apply Qe)|exact HB.out|(refine Qd ?_ (Aside0.out (by assumption))))))).mono ?_);rintro e w8 ⟨rfl,hb⟩;have O:=Aside0.mk (Qt HB.out hb);clear HB;have HB:=O;clear O;(try clear hb);(try clear a0);(try clear hk);(try clear hi))))
       go_ret
       exact⟨rfl,HB.out⟩
      ·replace c7:=Bool.eq_false_iff.mpr c7
       subst c7
       have H1:(api_Inside_72.l0 k1 l0 L (l0.length:Int) (wrap64 (B+1)))=some r:=by rw[if_neg (show ¬ (false=true) by decide)] at H;exact H
       clear H
       have H:=H1
       clear H1
       have H':=Aside0.mk H
       clear H
       have J:0≤(B:Int):=of_decide_eq_true (by assumption)
       have U:B<(l0.length:Int):=of_decide_eq_true (by assumption)
       obtain⟨Z,Y,D,I⟩:=Zu ν.out B J U
       cases Y
       replace D:=(HB.out.cell (World.block_lt_of_cell? w _ D)).trans D
       replace I:=(HB.out.cell (World.block_lt_of_cell? w _ I)).trans I
       replace J:=eq_true J
       replace U:=eq_true U
       go_wp2_with (first|(go_at_call 65;((with_reducible refine(api_Inside_without_1.calls ((Qk l0 B).f0) ((Qk l0 B).f1) L false _ A6.out Ar_ nr_ cr_ gr_ gx_ zx_ (Z0 HCR.out (by repeat(first|(with_reducible first|exact HB.out|apply Qh|apply Qc|apply Qe)|exact HB.out|(refine Qd ?_ (Aside0.out (by assumption)))))) (Z0 HCX.out (by repeat(first|(with_reducible first|exact HB.out|apply Qh|apply Qc|apply Qe)|exact HB.out|(refine Qd ?_ (Aside0.out (by assumption))))))).mono ?_);rintro e w9 ⟨rfl,hb⟩;have O:=Aside0.mk (Qt HB.out hb);clear HB;have HB:=O;clear O;(try clear hb);(try clear a0);(try clear hk);(try clear hi))))
       go_roundg k1
       case measure=>have:= ξ.out;omega
       case rel=>exact⟨(wrap64 (B+1)),rfl,H',⟨by have:= ξ.out;omega⟩,HB⟩
     ·rw[if_neg c5] at H
      exact absurd H (by simp)
    ·rw[if_neg c4] at H
     exact absurd H (by simp)
   ·rw[if_neg c3] at H
    have c3b0:decide (B<(l0.length:Int))=false:=decide_eq_false c3
    clear c3
    obtain rfl:=Option.some.inj H
    go_wp2
    go_ret
    exact⟨rfl,HB.out⟩
end Go.Proofs.Ytjehhhlhalkieaa.C
namespace Go.Proofs.Ytjehhhlhalkieaa.C
open Go.RowKit Go.Proofs.YtjehhhlhalkieaaW.PrintWords Go.Proofs.YtjehhhlhalkieaaW.PrintLast Go.Proofs.YtjehhhlhalkieaaW.PrintMore
set_option linter.unusedVariables false
structure Flat {α:Type} (d:Kd α) (enc:α→List Value):Prop where
  len:∀ x,(enc x).length=d.sz
  one:∀ x,∀ u ∈ enc x,u.oneCell'=true
  M:∀ w base ok x cs,d.M w base ok x cs↔cs=enc x
  K:∀ w x cs,d.K w x cs↔cs=enc x
def Zk {α:Type} (enc:α→List Value) (xs:List α):List Value:=xs.flatMap enc
section
variable {α : Type} {d : Kd α} {enc : α → List Value}
theorem G7 (x:α) (xs:List α):Zk enc (x :: xs)=enc x++Zk enc xs:=rfl
theorem Yc (xs ys:List α):Zk enc (xs++ys)=Zk enc xs++Zk enc ys:=List.flatMap_append
theorem Z6 (F:Flat d enc) (xs:List α):(Zk enc xs).length=xs.length * d.sz:=by
  induction xs with
  |nil=>simp[Zk]
  |cons x xs ih=>rw[G7,List.length_append,F.len,ih,List.length_cons,Nat.add_mul,Nat.one_mul,Nat.add_comm]
theorem Kg (F:Flat d enc) (xs:List α):∀ u ∈ Zk enc xs,u.oneCell'=true:=by
  intro u hu
  obtain⟨x,_,hx⟩:=List.mem_flatMap.1 hu
  exact F.one x u hx
theorem Jb (F:Flat d enc) (xs:List α) (m:Nat) (h:m≤xs.length):(Zk enc xs).take (m * d.sz)=Zk enc (xs.take m):=by
  have e:Zk enc xs=Zk enc (xs.take m)++Zk enc (xs.drop m):=by rw[← Yc,List.take_append_drop]
  have hl:(Zk enc (xs.take m)).length=m * d.sz:=by rw[Z6 F,List.length_take,Nat.min_eq_left h]
  rw[e,← hl,List.take_left']
  rfl
theorem Jy (F:Flat d enc) (xs:List α) (m:Nat) (h:m≤xs.length):(Zk enc xs).drop (m * d.sz)=Zk enc (xs.drop m):=by
  have e:Zk enc xs=Zk enc (xs.take m)++Zk enc (xs.drop m):=by rw[← Yc,List.take_append_drop]
  have hl:(Zk enc (xs.take m)).length=m * d.sz:=by rw[Z6 F,List.length_take,Nat.min_eq_left h]
  rw[e,← hl,List.drop_left']
  rfl
theorem Vo (F:Flat d enc) {R:α→List Value→Prop} (hR:∀ p c,R p c↔c=enc p) (xs:List α):∀ inner,Reps R d.sz xs inner↔inner=Zk enc xs:=by
  induction xs with
  |nil=>
    intro inner
    constructor
    · intro h
      have:=h.1
      simp only[List.length_nil,Nat.zero_mul] at this
      exact List.eq_nil_of_length_eq_zero this
    · rintro rfl
      exact Reps.none _ _
  |cons x xs ih=>
    intro inner
    constructor
    · intro h
      have h1:=h.2 0 x rfl
      rw[hR,Nat.zero_mul,List.drop_zero] at h1
      have O:=Kd.Ll (m:=1) h
      rw[List.drop_one,List.tail_cons,ih,Nat.one_mul] at O
      rw[G7,← h1,← O,List.take_append_drop]
    · rintro rfl
      have h1:Reps R d.sz [x] (enc x):=by
        have:=Reps.snoc (Reps.none R d.sz) ((hR x (enc x)).2 rfl) (F.len x)
        simpa using this
      exact Kd.J6 (ps:=[x]) h1 ((ih _).2 rfl)
theorem Yr (F:Flat d enc) {e:Nat} {w:World} {base:Nat} {ok:Nat→Prop} {v:Value} {xs:List α}:d.R e w base ok v xs↔(∀ k,v.ownBlock=some k→ok k)∧w.ownsRow base e d.sz v xs.length (Zk enc xs):=by
  constructor
  · rintro⟨U,inner,ho,hr⟩
    rw[Vo F (fun p c=>F.M _ _ _ p c)] at hr
    subst hr
    exact⟨U,ho⟩
  · rintro⟨U,ho⟩
    exact⟨U,_,ho,(Vo F (fun p c=>F.M _ _ _ p c) xs _).2 rfl⟩
theorem Wa {P:Program} (w:World) (t e ty:TypeId) (z:Value) (ht:P.underlying t=some (.slice e)) (hv:∀ w,(zeroValue e).run P w = .ok z w) (D:∀ u ∈ z.cells.toList,u.oneCell'=true) (b o n c:Nat) (hn:0<n)
    (hc:∀ j,j<n * z.cells.size→(w.cell? ⟨b,o+j,none⟩).isSome=true) (hf:∀ j,j<n * z.cells.size→w.frozen? ⟨b,o+j,none⟩=false):
    ∃ vs,vs.length=n * z.cells.size∧(Builtin.clear_ #[t] ty #[.slice (some ⟨b,o,none⟩) n c]).run P w = .ok (.tuple #[]) (w.setCells b o vs):=by
  refine⟨(Builtin.zeroCells z.cells n).toList,by simp[Builtin.zeroCells], ?_⟩
  have hl:(Builtin.zeroCells z.cells n).toList.length=n * z.cells.size:=by simp[Builtin.zeroCells]
  have h1:∀ v ∈ (Builtin.zeroCells z.cells n).toList,v.oneCell'=true:=by
    intro v hv'
    simp only[Builtin.zeroCells,Array.mem_toList_iff,Array.mem_map,Array.mem_range] at hv'
    obtain⟨i,hi,rfl⟩:=hv'
    have hs:0<z.cells.size:=by
      rcases Nat.eq_zero_or_pos z.cells.size with h|h
      · rw[h,Nat.mul_zero] at hi;omega
      · exact h
    have hm:i % z.cells.size<z.cells.size:=Nat.mod_lt _ hs
    rw[getElem!_pos z.cells _ hm]
    exact D _ (by simp)
  have hst:=run_storeCells_cells (P:=P) b o (Builtin.zeroCells z.cells n).toList 0 w (by rw[hl];simpa using hc) (by rw[hl];simpa using hf) h1
  simp only[Nat.add_zero] at hst
  obtain⟨m,rfl⟩:∃ m,n=m+1:=⟨n-1,by omega⟩
  simp[Builtin.clear_,run_underlying ht,hv,hst]
theorem Ym {P:Program} (w:World) (dT sT ty elem:TypeId) (size b o dLen dCap:Nat) (a:Addr) (sLen sCap:Nat) (cs:List Value)
    (hu:P.underlying dT=some (.slice elem)) (hs:(P.info? elem).map (·.size)=some size) (hn:cs.length=min sLen dLen * size)
    (hsrc:∀ j v,cs[j]?=some v→w.cell? (a.add j)=some v) (hc:∀ j,j<cs.length→(w.cell? ⟨b,o+j,none⟩).isSome=true) (hf:∀ j,j<cs.length→w.frozen? ⟨b,o+j,none⟩=false) (h1:∀ v ∈ cs,v.oneCell'=true):
    (Builtin.copy_ #[dT,sT] ty #[.slice (some ⟨b,o,none⟩) dLen dCap,.slice (some a) sLen sCap]).run P w = .ok (goInt (min sLen dLen:Nat)) (w.setCells b o cs):=by
  have hl:=run_loadCells_list (P:=P) w a cs hsrc
  have hst:=run_storeCells_cells (P:=P) b o cs 0 w (by simpa using hc) (by simpa using hf) h1
  cases hq:P.info? elem with
  |none=>simp[hq] at hs
  |some i=>
    have hi:i.size=size:=by simpa[hq] using hs
    have hn':Nat.min sLen dLen * size=cs.length:=hn.symm
    simp[Builtin.copy_,run_underlying hu,Builtin.lenOf,Builtin.firstCells,sizeOf,typeInfo,hq,hi,hn',hl,hst]
theorem Z7 (g j:Nat):(⟨g,0,none⟩:Addr).add j=⟨g,j,none⟩:=by unfold Addr.add;split <;> simp_all
theorem Lr {W:World} {g:Nat} {vs:List Value} {o:Nat}:W.grownBy (W.setCells g o vs) (some g):=by
  obtain⟨s1,s2,s3,s4⟩:=Yg g vs o W
  exact⟨s1,s2,s3,by rw[s4];exact Nat.le_refl _,fun k _ hk=>Yo _ _ k (fun he=>hk (by rw[he]))⟩
theorem L3 {P:Program} (F:Flat d enc) {W:World} {base:Nat} {ok:Nat→Prop} {e:Nat} (t ty:TypeId) (ht:P.underlying t=some (.slice e)) (z:Value) (hv:∀ w,(zeroValue e).run P w = .ok z w) (D:∀ u ∈ z.cells.toList,u.oneCell'=true) (hzs:z.cells.size=d.sz)
    (A:Option Addr) (c:Nat) (xs:List α) (HO:d.R e W base ok (.slice A xs.length c) xs) (i:Nat) (hi:i≤xs.length):
    ∃ w1,(Builtin.clear_ #[t] ty #[.slice (if c=i then A else A.map (·.add (i * d.sz))) (xs.length-i) (c-i)]).run P W = .ok (.tuple #[]) w1∧d.R e w1 base ok (.slice A i c) (xs.take i)∧W.grownBy w1 (Value.slice A i c).ownBlock:=by
  obtain⟨U,ho⟩:=(Yr F).1 HO
  have hob:(Value.slice A i c).ownBlock=(Value.slice A xs.length c).ownBlock:=by cases A <;> rfl
  rcases ho.2 with⟨L,O⟩|⟨g,cap,cur,L,hb,hh,hnc,hcm,hcs,htake⟩
  · injection L with Z e2 J
    subst Z J
    have B:i=0:=by omega
    subst B
    refine⟨W, ?_, ?_,World.grownBy.refl W _⟩
    · rw[O]
      simp[Builtin.clear_,run_underlying ht]
    · have:xs = []:=List.eq_nil_of_length_eq_zero O
      subst this
      exact Kd.Yj _ _ _ _ _
  · injection L with Z e2 J
    subst Z J
    have own_i:∀ (w1:World) (cur':Array Value),w1.heap[g]?=some (.cells cur' e (0,0))→cur'.size=cur.size→cur'.toList.take (i * d.sz)=cur.toList.take (i * d.sz)→d.R e w1 base ok (.slice (some ⟨g,0,none⟩) i c) (xs.take i):=by
      intro w1 cur' g1 I g3
      rw[Yr F]
      have hl:(xs.take i).length=i:=by rw[List.length_take,Nat.min_eq_left hi]
      refine⟨fun k hk=>U k (by simpa[Value.ownBlock] using hk), ?_⟩
      rw[hl]
      refine⟨by rw[Z6 F,hl],.inr ⟨g,c,cur',rfl,hb,g1,by omega,hcm,by rw[I,hcs], ?_⟩⟩
      have hq:cur.toList.take (i * d.sz)=(cur.toList.take (xs.length * d.sz)).take (i * d.sz):=by
        rw[List.take_take,Nat.min_eq_left (Nat.mul_le_mul_right _ hi)]
      rw[g3,hq,htake,Jb F xs i hi]
    rcases Nat.lt_or_ge i xs.length with hlt|hge
    · rw[if_neg (by omega)]
      simp only[Option.map_some,Z7]
      have hsz:(xs.length-i) * z.cells.size+i * d.sz≤cur.size:=by
        rw[hzs,hcs,← Nat.add_mul]
        exact Nat.mul_le_mul_right _ (by omega)
      obtain⟨vs,hvl,hrun⟩:=Wa (P:=P) W t e ty z ht hv D g (i * d.sz) (xs.length-i) (c-i) (by omega)
        (fun j hj=>by rw[cell_of_row W g _ cur e (0,0) hh];simp;omega) (fun j _=>Q6 hh _)
      obtain⟨cur',g1,I,g3⟩:=Xz vs (i * d.sz) W cur hh (by rw[hvl];omega)
      refine⟨_,hrun,own_i _ cur' g1 I ?_, ?_⟩
      · rw[g3,List.append_assoc,List.take_append_of_le_length (by rw[List.length_take];simp;omega),List.take_take,Nat.min_self]
      · have:(Value.slice (some ⟨g,0,none⟩) i c).ownBlock=some g:=rfl
        rw[this]
        exact Lr
    · have hie:i=xs.length:=by omega
      refine⟨W, ?_,own_i W cur hh rfl rfl,World.grownBy.refl W _⟩
      rw[hie,Nat.sub_self]
      split <;> simp[Builtin.clear_,run_underlying ht]
theorem U1 {P:Program} {ops:Array Oper} {o:Oper} {rest:List Oper} {a:Act} {Q:Exit→Act→World→Prop} (F:Flat d enc) {W:World} {base:Nat} {ok:Nat→Prop} {e:Nat} (hgd:o.guard=none) (x:Operand) (t:TypeId) (ho:o.op = .call {callee:=.builtin .clear,args:=#[x],argTypes:=#[t]})
    (ht:P.underlying t=some (.slice e)) (z:Value) (hv:∀ w,(zeroValue e).run P w = .ok z w) (D:∀ u ∈ z.cells.toList,u.oneCell'=true) (hzs:z.cells.size=d.sz)
    (A A1:Option Addr) (c c1 J:Nat) (xs:List α) (HO:d.R e W base ok (.slice A xs.length c) xs) (i:Nat) (hi:i≤xs.length) (B:A1=(if c=i then A else A.map (·.add (i * d.sz)))) (I:J=xs.length-i) (X:c1=c-i) (hx:a.eval x = .slice A1 J c1)
    (h:∀ w1,d.R e w1 base ok (.slice A i c) (xs.take i)→W.grownBy w1 (Value.slice A i c).ownBlock→wpList P ops Q rest (a.put o.dst (.tuple #[])) w1):wpList P ops Q (o :: rest) a W:=by
  subst B I X
  obtain⟨w1,hr,hR,hg⟩:=L3 F t o.type ht z hv D hzs A c xs HO i hi
  refine Kd.Gd hgd (v:=.tuple #[]) (w1:=w1) ?_ (h w1 hR hg)
  unfold execOp
  simp only[ho,resolve,invoke,builtin,Sem.run_bind,Sem.run_pure,Result.andThen_ok,List.map_toArray,List.map_cons,List.map_nil,hx,hr]
theorem G9 {P:Program} {ops:Array Oper} {o:Oper} {rest:List Oper} {a:Act} {Q:Exit→Act→World→Prop} (F:Flat d enc) {w w0 W:World} {S ok:Nat→Prop} {e:Nat} (hgd:o.guard=none) (x:Operand) (t:TypeId) (ho:o.op = .call {callee:=.builtin .clear,args:=#[x],argTypes:=#[t]})
    (ht:P.underlying t=some (.slice e)) (z:Value) (hv:∀ w,(zeroValue e).run P w = .ok z w) (D:∀ u ∈ z.cells.toList,u.oneCell'=true) (hzs:z.cells.size=d.sz)
    (A A1:Option Addr) (c c1 J:Nat) (xs:List α) (HO:d.R e W w0.heap.size ok (.slice A xs.length c) xs) (i:Nat) (hi:i≤xs.length) (B:A1=(if c=i then A else A.map (·.add (i * d.sz)))) (I:J=xs.length-i) (X:c1=c-i) (hx:a.eval x = .slice A1 J c1)
    (HB:Below w0.heap.size w0 W) (HK:Kept w W S) (hok:∀ k,ok k→S k∨w.heap.size≤k) (ys:List α) (hys:ys=xs.take i)
    (h:∀ w1,d.R e w1 w0.heap.size ok (.slice A ys.length c) ys→Below w0.heap.size w0 w1→Kept w w1 S→wpList P ops Q rest (a.put o.dst (.tuple #[])) w1):wpList P ops Q (o :: rest) a W:=by
  have hob:(Value.slice A i c).ownBlock=(Value.slice A xs.length c).ownBlock:=by cases A <;> rfl
  have hl:ys.length=i:=by rw[hys,List.length_take,Nat.min_eq_left hi]
  refine U1 F hgd x t ho ht z hv D hzs A A1 c c1 J xs HO i hi B I X hx ?_
  intro w1 hR hg
  rw[hob] at hg
  refine h w1 (by rw[hl,hys];exact hR) (HB.grown hg HB.size (Y9 ((Yr F).1 HO).2)) (Kept.Ky hg HK (fun k hk=>hok k (HO.1 k hk)))
end
theorem X9:Flat k56 (fun x=>[.int .i64 x.f0,.int .i64 x.f1,.int .i64 x.f2]) where
  len:=fun _=>rfl
  one:=fun x u hu=>by
    simp only[List.mem_cons,List.not_mem_nil,or_false] at hu
    rcases hu with rfl|rfl|rfl <;> rfl
  M:=fun w base ok x cs=>⟨Y2,fun h=>by rw[h];exact Xi w base ok x⟩
  K:=fun w x cs=>⟨K3,fun h=>by rw[h];exact Mp w x⟩
theorem X8:Flat k62 (fun x=>[.int .i64 x.f0,.int .i64 x.f1]) where
  len:=fun _=>rfl
  one:=fun x u hu=>by
    simp only[List.mem_cons,List.not_mem_nil,or_false] at hu
    rcases hu with rfl|rfl <;> rfl
  M:=fun w base ok x cs=>⟨Kf,fun h=>by rw[h];exact Yb w base ok x⟩
  K:=fun w x cs=>⟨Kz,fun h=>by rw[h];exact Mn w x⟩
theorem zeroH (w:World):(zeroValue 56).run Try.prog w = .ok (.agg #[.int .i64 0,.int .i64 0,.int .i64 0]) w:=by kernel_rfl
theorem zeroI (w:World):(zeroValue 62).run Try.prog w = .ok (.agg #[.int .i64 0,.int .i64 0]) w:=by kernel_rfl
theorem Xh {w W:World} {S:Nat→Prop} {g:Nat} {o:Obj} (h:w.heap[g]?=some o) (hk:Kept w W S) (hn:¬ S g):W.heap[g]?=some o:=(hk.2 g (Q3 h) hn).trans h
end Go.Proofs.Ytjehhhlhalkieaa.C
namespace Go.Proofs.Ytjehhhlhalkieaa.C
open Go.RowKit Go.Proofs.YtjehhhlhalkieaaW.PrintWords Go.Proofs.YtjehhhlhalkieaaW.PrintLast Go.Proofs.YtjehhhlhalkieaaW.PrintMore
attribute [local go_sem] Z4 Z2 Xe Xd Zx Zw Z3 Z1
set_option linter.unusedVariables false
set_option linter.unusedSimpArgs false
def api_Hall_54.l0:Nat→List (S56)→Int→Int→Int→Option ((List (S56)))
 |0,_,_,_,_=>none
 |k+1,D,J,I,L=>if L<(D.length:Int) then (if 0≤L then ((api_Hall_without_1.f ((Qa D L).f0) ((Qa D L).f1) ((Qa D L).f2) J).bind fun σ=>(if σ=true then (api_Hall_54.l0 k D J I (wrap64 (L+1))) else (if 0≤I then (if I<(D.length:Int) then (api_Hall_54.l0 k (D.set (I:Int).toNat (⟨(Qa D L).f0,(Qa D L).f1,(Qa D L).f2⟩:S56)) J (wrap64 (I+1)) (wrap64 (L+1))) else (none)) else (none)))) else (none)) else (if 0≤I then (if I≤(D.length:Int) then (some (D.take (I:Int).toNat)) else (none)) else (none))
def api_Hall_54.f (k:Nat) (l0:List (S56)) (L:Int):Option ((List (S56))):=(api_Hall_67.f k l0 L).bind fun θ =>(if θ = (-1) then (some l0) else (api_Hall_54.l0 k l0 L θ (wrap64 (θ + 1))))
theorem api_Hall_54.Zn:∀ k,(∀ I L U D,LeO (api_Hall_54.l0 k I L U D) (api_Hall_54.l0 (k+1) I L U D))
 |0=>fun _ _ _ _ r h=>by simp[api_Hall_54.l0] at h
 |k+1=>by
  have B:=api_Hall_54.Zn k
  ·intro I L U D
   unfold api_Hall_54.l0
   repeat' first
   |(with_reducible exact B _ _ _ _)
   |(with_reducible exact api_Hall_67.mono _ _ _)
   |(with_reducible exact LeO.refl _)
   |(with_reducible exact LeO.none _)
   |(with_reducible refine LeO.ite ?_ ?_)
   |(with_reducible refine LeO.bind ?_ (fun _=>?_))
   |exact B _ _ _ _
   |exact api_Hall_67.mono _ _ _
   |exact LeO.none _
   |refine LeO.ite ?_ ?_
   |refine LeO.bind ?_ (fun _=>?_)
theorem api_Hall_54.mono:∀ D L k,LeO (api_Hall_54.f k D L) (api_Hall_54.f (k+1) D L):=by
 intro D L k
 have B:=api_Hall_54.Zn k
 unfold api_Hall_54.f
 repeat' first
   |(with_reducible exact B _ _ _ _)
   |(with_reducible exact api_Hall_67.mono _ _ _)
   |(with_reducible exact LeO.refl _)
   |(with_reducible exact LeO.none _)
   |(with_reducible refine LeO.ite ?_ ?_)
   |(with_reducible refine LeO.bind ?_ (fun _=>?_))
   |exact B _ _ _ _
   |exact api_Hall_67.mono _ _ _
   |exact LeO.none _
   |refine LeO.ite ?_ ?_
   |refine LeO.bind ?_ (fun _=>?_)
set_option maxHeartbeats 8000000 in
set_option maxRecDepth 100000 in
theorem api_Hall_54.calls (k:Nat) (J:Nat→Prop) (a2:Value) (l0:List (S56)) (L:Int) (r:List (S56)) (w0 w:World) (hB:Below w0.heap.size w0 w) (ρ:Kd.R k56 56 w w0.heap.size J a2 l0) (h:api_Hall_54.f k l0 L=some r) (Ar_:Option Addr) (nr_ cr_ gr_ gx_:Nat) (zx_:Int) (hgr_:w.heap[gr_]?=some (.cells #[.slice Ar_ nr_ cr_,.func (.func 51) #[] #[]] 69 (0,0))) (hgx_:w.heap[gx_]?=some (.cells #[.int .i64 (Yf L),.int .i64 (Ye L),.int .i64 zx_] 56 (0,0))) (hnr_:¬ J gr_) (hnx_:¬ J gx_):
  Calls Try.prog 54 #[a2,.func (.func 56) #[] #[.pointer (some ⟨gr_,0,none⟩),.pointer (some ⟨gx_,0,none⟩)]] w fun e w'=>∃ ω :Value,e = .returned (ω)∧Kd.R k56 56 w' w0.heap.size (fun k_=>(J k_∨w.heap.size≤k_)) ω r∧Below w0.heap.size w0 w'∧Kept w w' (fun k_=>J k_):=by
 have HCR:=Aside0.mk hgr_
 have HCX:=Aside0.mk hgx_
 have HNR:=Aside0.mk hnr_
 have HNX:=Aside0.mk hnx_
 clear hgr_ hgx_ hnr_ hnx_
 have ay:=Try.underlying56
 have Y:=Aside0.mk (show Kd.R k56 56 w w0.heap.size (fun k_=>(J k_∨w.heap.size≤k_)) a2 l0 from Kd.Qr ρ (fun k_ hk=>(.inl hk)))
 have HK:=Aside0.mk (Kept.refl w (fun k_=>J k_))
 have dp:=Aside0.mk hB.size
 have HB:=Aside0.mk hB
 clear hB
 have H:((api_Hall_67.f k l0 L).bind fun θ =>(if θ = (-1) then (some l0) else (api_Hall_54.l0 k l0 L θ (wrap64 (θ + 1)))))=some r:=h
 clear h
 replace H:=Option.bind_eq_some_iff.mp H
 obtain⟨θ,ac,H⟩:=H
 replace H:(if θ = (-1) then (some l0) else (api_Hall_54.l0 k l0 L θ (wrap64 (θ + 1))))=some r:=H
 have A3:=Aside0.mk ac
 clear ac
 by_cases c4: θ = (-1)
 ·rw[if_pos c4] at H
  have c4b0:(θ == (-1))=true:=beq_iff_eq.mpr c4
  have c4b1:(θ != (-1))=false:=bne_eq_false_iff_eq.mpr c4
  clear c4
  obtain rfl:=Option.some.inj H
  obtain⟨dq,dr,d7⟩:=Kd.Q5 Y.out
  subst d7
  go_enter Try.func54,Try.ntmps54
  go_wp2_with (first|(go_at_call 67;((with_reducible refine(api_Hall_67.calls k _ _ l0 L θ _ ?side1 ?side2 A3.out Ar_ nr_ cr_ gr_ gx_ zx_ (Xh HCR.out (by repeat(first|(with_reducible first|exact HK.out|apply Kept.alloc|apply Kept.drewN|apply Kept.drew|refine Kept.setCell ?_ (.inr ae.out) _)|exact HK.out)) HNR.out) (Xh HCX.out (by repeat(first|(with_reducible first|exact HK.out|apply Kept.alloc|apply Kept.drewN|apply Kept.drew|refine Kept.setCell ?_ (.inr ae.out) _)|exact HK.out)) HNX.out)).mono ?_);(case side1=>exact(Kd.Qq Y.out).2.2);(case side2=>exact(Kd.Qq Y.out).2.1);rintro e w6 ⟨rfl,hb⟩;have O:=Aside0.mk (Kd.Qu Y.out hb);have Z:=Aside0.mk (Kept.below (S:=(fun k_=>J k_)) (by repeat(first|(with_reducible first|exact HK.out|apply Kept.alloc|apply Kept.drewN|apply Kept.drew)|exact HK.out)) hb);have ι :=Aside0.mk (Qt HB.out hb);clear Y;clear HK;clear HB;have Y:=O;have HK:=Z;have HB:= ι;clear O Z ι;(try clear hb);(try clear a0);(try clear hk);(try clear hi))))
  go_ret
  exact⟨_,rfl,by(with_reducible repeat first|apply Kd.Qm|apply Kd.Ql|apply Kd.Qn);exact Y.out,HB.out,by repeat(first|(with_reducible first|exact HK.out|apply Kept.alloc|apply Kept.drewN|apply Kept.drew)|exact HK.out)⟩
 ·rw[if_neg c4] at H
  have c4b0:(θ == (-1))=false:=beq_eq_false_iff_ne.mpr c4
  have c4b1:(θ != (-1))=true:=bne_iff_ne.mpr c4
  have H':=Aside0.mk H
  clear H
  obtain⟨a4,μ,d8⟩:=Kd.Q5 Y.out
  subst d8
  go_enter Try.func54,Try.ntmps54
  go_wp2_with (first|(go_at_call 67;((with_reducible refine(api_Hall_67.calls k _ _ l0 L θ _ ?side1 ?side2 A3.out Ar_ nr_ cr_ gr_ gx_ zx_ (Xh HCR.out (by repeat(first|(with_reducible first|exact HK.out|apply Kept.alloc|apply Kept.drewN|apply Kept.drew|refine Kept.setCell ?_ (.inr ae.out) _)|exact HK.out)) HNR.out) (Xh HCX.out (by repeat(first|(with_reducible first|exact HK.out|apply Kept.alloc|apply Kept.drewN|apply Kept.drew|refine Kept.setCell ?_ (.inr ae.out) _)|exact HK.out)) HNX.out)).mono ?_);(case side1=>exact(Kd.Qq Y.out).2.2);(case side2=>exact(Kd.Qq Y.out).2.1);rintro e w8 ⟨rfl,hb⟩;have O:=Aside0.mk (Kd.Qu Y.out hb);have Z:=Aside0.mk (Kept.below (S:=(fun k_=>J k_)) (by repeat(first|(with_reducible first|exact HK.out|apply Kept.alloc|apply Kept.drewN|apply Kept.drew)|exact HK.out)) hb);have ι :=Aside0.mk (Qt HB.out hb);clear Y;clear HK;clear HB;have Y:=O;have HK:=Z;have HB:= ι;clear O Z ι;(try clear hb);(try clear a0);(try clear hk);(try clear hi))))
  go_loopg [5,6] k (fun kq v5 v6 w'=>∃ (B:List (S56)) (D:Int) (U:Int),v5 = .int .i64 D∧v6 = .int .i64 U∧Aside0 (api_Hall_54.l0 kq B L D U=some r)∧Aside0 (kq≤k)∧Aside0 (Kd.R k56 56 w' w0.heap.size (fun k_=>(J k_∨w.heap.size≤k_)) (.slice a4 l0.length μ) B)∧Aside0 (Kept w w' (fun k_=>J k_))∧Aside0 (Below w0.heap.size w0 w'))
  case atStart=>exact⟨(l0),(θ),(wrap64 (θ + 1)),rfl,rfl,H',⟨Nat.le_refl _⟩,⟨by(with_reducible repeat first|apply Kd.Qm|apply Kd.Ql|apply Kd.Qn);exact Y.out⟩,⟨by repeat(first|(with_reducible first|exact HK.out|apply Kept.alloc|apply Kept.drewN|apply Kept.drew)|exact HK.out)⟩,HB⟩
  case round=>
   clear H'
   try clear p2
   try clear c4
   try clear c4b0
   try clear c4b1
   try clear c5
   try clear c6
   try clear p6
   obtain⟨B,D,U,rfl,rfl,HA,ξ,HO_0,HK,HB⟩:=hrel
   have η :=(Kd.Qq HO_0.out).1
   rw[η] at HO_0
   (try simp only[η])
   cases gk with
   |zero=>exact absurd HA.out (by simp[api_Hall_54.l0])
   |succ k1=>
    have H:=HA.out
    clear HA
    simp only[api_Hall_54.l0] at H
    by_cases c9:U<(B.length:Int)
    ·rw[if_pos c9] at H
     have c9b0:decide (U<(B.length:Int))=true:=decide_eq_true c9
     clear c9
     by_cases c10:0≤U
     ·rw[if_pos c10] at H
      have c10b0:decide (0≤U)=true:=decide_eq_true c10
      clear c10
      replace H:=Option.bind_eq_some_iff.mp H
      obtain⟨σ,bc,H⟩:=H
      replace H:(if σ=true then (api_Hall_54.l0 k1 B L D (wrap64 (U+1))) else (if 0≤D then (if D<(B.length:Int) then (api_Hall_54.l0 k1 (B.set (D:Int).toNat (⟨(Qa B U).f0,(Qa B U).f1,(Qa B U).f2⟩:S56)) L (wrap64 (D+1)) (wrap64 (U+1))) else (none)) else (none)))=some r:=H
      have bm:=Aside0.mk bc
      clear bc
      by_cases ci:σ=true
      ·subst ci
       have H1:(api_Hall_54.l0 k1 B L D (wrap64 (U+1)))=some r:=by rw[if_pos rfl] at H;exact H
       clear H
       have H:=H1
       clear H1
       have H':=Aside0.mk H
       clear H
       have a7:0≤(U:Int):=of_decide_eq_true (by assumption)
       have a9:U<(B.length:Int):=of_decide_eq_true (by assumption)
       obtain⟨ab,bl,φ,χ,a3⟩:=Zo (Kd.Qq HO_0.out).2.2 U a7 a9
       cases bl
       replace a7:=eq_true a7
       replace a9:=eq_true a9
       go_wp2_with (first|((with_reducible refine Qp (N:=7) rfl ?_);refine qE 7 #[.int .i64 0,.int .i64 0,.int .i64 0] 56 ?_;intro ν hg eb hbox hb;have X:=Aside0.mk hbox;have ae:=Aside0.mk ((by rw[hg];exact(by first|exact HK.out.1|exact(show Kept w _ (fun k_=>J k_) from by repeat(first|(with_reducible first|exact HK.out|apply Kept.alloc|apply Kept.drewN|apply Kept.drew)|exact HK.out)).1):w.heap.size ≤ ν));have bj:=Aside0.mk ((by rw[hg];exact(Qj bel):w0.heap.size ≤ ν));replace HO_0:=Aside0.mk (Kd.Qu (Kd.K7 (kra HO_0) ν (Nat.le_of_eq hg.symm)) hb);replace HK:=Aside0.mk (Kept.below (S:=(fun k_=>J k_)) (by repeat(first|(with_reducible first|exact HK.out|apply Kept.alloc|apply Kept.drewN|apply Kept.drew)|exact HK.out)) hb);replace HB:=sHb hb;clear hb hbox hg;obtain⟨az,b0,d5,b1,b2,d6⟩:=qD3 X.out)|(go_at_call 56;((with_reducible refine(api_Hall_without_1.calls ((Qa B U).f0) ((Qa B U).f1) ((Qa B U).f2) L true _ bm.out Ar_ nr_ cr_ gr_ gx_ zx_ (Xh HCR.out (by repeat(first|(with_reducible first|exact HK.out|apply Kept.alloc|apply Kept.drewN|apply Kept.drew|refine Kept.setCell ?_ (.inr ae.out) _)|exact HK.out)) HNR.out) (Xh HCX.out (by repeat(first|(with_reducible first|exact HK.out|apply Kept.alloc|apply Kept.drewN|apply Kept.drew|refine Kept.setCell ?_ (.inr ae.out) _)|exact HK.out)) HNX.out)).mono ?_);rintro e cv ⟨rfl,hb⟩;have O:=Aside0.mk (Kd.Qu (by(with_reducible repeat first|apply Kd.Qm|apply Kd.Ql|apply Kd.Qn);exact(Kd.Qr (Kd.Qs (Kd.Qs (Kd.Qs (Kd.Qr HO_0.out (fun k_ hk=>(⟨hk,hk.2⟩:_∧k_ ≠ ν))) (fun _ hk=>hk.2) (.int .i64 ((Qa B U).f0))) (fun _ hk=>hk.2) (.int .i64 ((Qa B U).f1))) (fun _ hk=>hk.2) (.int .i64 ((Qa B U).f2))) (fun _ h_=>h_.1))) hb);have Z:=Aside0.mk (Qo (g:= ν) (o:=.cells #[.int .i64 ((Qa B U).f0),.int .i64 ((Qa B U).f1),.int .i64 ((Qa B U).f2)] 56 (0,0)) (by(with_reducible repeat first|apply Qf|apply Qb|apply Qg);refine Qw (cs:=#[.int .i64 ((Qa B U).f0),.int .i64 ((Qa B U).f1),.int .i64 0]) ?_ 2 _ rfl;(with_reducible repeat first|apply Qf|apply Qb|apply Qg);refine Qw (cs:=#[.int .i64 ((Qa B U).f0),.int .i64 0,.int .i64 0]) ?_ 1 _ rfl;(with_reducible repeat first|apply Qf|apply Qb|apply Qg);refine Qw (cs:=#[.int .i64 0,.int .i64 0,.int .i64 0]) ?_ 0 _ rfl;(with_reducible repeat first|apply Qf|apply Qb|apply Qg);exact X.out) hb);have ι :=Aside0.mk (Kept.below (S:=(fun k_=>J k_)) (by repeat(first|(with_reducible first|exact HK.out|apply Kept.alloc|apply Kept.drewN|apply Kept.drew|refine Kept.setCell ?_ (.inr ae.out) _)|exact HK.out)) hb);have κ :=Aside0.mk (Qt bel hb);clear HO_0;clear X;clear HK;clear HB;have HO_0:=O;have X:=Z;have HK:= ι;have HB:= κ;clear O Z ι κ;(try clear hb);(try clear a0);(try clear hk);(try clear hi))))
       (try simp only[← η])
       go_roundg k1
       case measure=>have:= ξ.out;omega
       case rel=>exact⟨(B),(D),(wrap64 (U+1)),rfl,rfl,H',⟨by have:= ξ.out;omega⟩,⟨by(try simp only[η]);(with_reducible repeat first|apply Kd.Qm|apply Kd.Ql|apply Kd.Qn);exact Kd.Qr HO_0.out (fun _ hk=>hk.1)⟩,⟨by repeat(first|(with_reducible first|exact HK.out|apply Kept.alloc|apply Kept.drewN|apply Kept.drew|refine Kept.setCell ?_ (.inr ae.out) _)|exact HK.out)⟩,HB⟩
      ·replace ci:=Bool.eq_false_iff.mpr ci
       subst ci
       have H1:(if 0≤D then (if D<(B.length:Int) then (api_Hall_54.l0 k1 (B.set (D:Int).toNat (⟨(Qa B U).f0,(Qa B U).f1,(Qa B U).f2⟩:S56)) L (wrap64 (D+1)) (wrap64 (U+1))) else (none)) else (none))=some r:=by rw[if_neg (show ¬ (false=true) by decide)] at H;exact H
       clear H
       have H:=H1
       clear H1
       by_cases an:0≤D
       ·rw[if_pos an] at H
        have c16b0:decide (0≤D)=true:=decide_eq_true an
        clear an
        by_cases a5:D<(B.length:Int)
        ·rw[if_pos a5] at H
         have c17b0:decide (D<(B.length:Int))=true:=decide_eq_true a5
         clear a5
         obtain⟨ag,ζ⟩:∃ y_:List (S56),y_=(B.set (D:Int).toNat (⟨(Qa B U).f0,(Qa B U).f1,(Qa B U).f2⟩:S56)):=⟨_,rfl⟩
         replace H:(api_Hall_54.l0 k1 ag L (wrap64 (D+1)) (wrap64 (U+1)))=some r:=by first|(rw[ζ];with_reducible exact H)|(have δ :=(Option.bind_some _ _).symm.trans H;rw[ζ];with_reducible exact δ)|(have δ :=(Option.bind_some _ _).symm.trans H;with_reducible exact δ)|with_reducible exact H|(rw[ζ];exact H)|exact H
         have aw:=Aside0.mk ζ
         clear ζ
         have H':=Aside0.mk H
         clear H
         have a7:0≤(U:Int):=of_decide_eq_true (by assumption)
         have a9:U<(B.length:Int):=of_decide_eq_true (by assumption)
         obtain⟨ab,bl,φ,χ,a3⟩:=Zo (Kd.Qq HO_0.out).2.2 U a7 a9
         cases bl
         replace a7:=eq_true a7
         replace a9:=eq_true a9
         go_wp2_with (first|((with_reducible refine Qp (N:=7) rfl ?_);refine qE 7 #[.int .i64 0,.int .i64 0,.int .i64 0] 56 ?_;intro ν hg dw hbox hb;have X:=Aside0.mk hbox;have ae:=Aside0.mk ((by rw[hg];exact(by first|exact HK.out.1|exact(show Kept w _ (fun k_=>J k_) from by repeat(first|(with_reducible first|exact HK.out|apply Kept.alloc|apply Kept.drewN|apply Kept.drew)|exact HK.out)).1):w.heap.size ≤ ν));have bj:=Aside0.mk ((by rw[hg];exact(Qj HB.out):w0.heap.size ≤ ν));replace HO_0:=Aside0.mk (Kd.Qu (Kd.K7 HO_0.out ν (Nat.le_of_eq hg.symm)) hb);replace HK:=Aside0.mk (Kept.below (S:=(fun k_=>J k_)) (by repeat(first|(with_reducible first|exact HK.out|apply Kept.alloc|apply Kept.drewN|apply Kept.drew)|exact HK.out)) hb);replace HB:=sHb hb;clear hb hbox hg;obtain⟨ah,ak,b8,bd,be,bn⟩:=qD3 X.out)|(go_at_call 56;((with_reducible refine(api_Hall_without_1.calls ((Qa B U).f0) ((Qa B U).f1) ((Qa B U).f2) L false _ bm.out Ar_ nr_ cr_ gr_ gx_ zx_ (Xh HCR.out (by repeat(first|(with_reducible first|exact HK.out|apply Kept.alloc|apply Kept.drewN|apply Kept.drew|refine Kept.setCell ?_ (.inr ae.out) _)|exact HK.out)) HNR.out) (Xh HCX.out (by repeat(first|(with_reducible first|exact HK.out|apply Kept.alloc|apply Kept.drewN|apply Kept.drew|refine Kept.setCell ?_ (.inr ae.out) _)|exact HK.out)) HNX.out)).mono ?_);rintro e bp ⟨rfl,hb⟩;have O:=Aside0.mk (Kd.Qu (by(with_reducible repeat first|apply Kd.Qm|apply Kd.Ql|apply Kd.Qn);exact(Kd.Qr (Kd.Qs (p:=⟨ν,2,none⟩) (Kd.Qs (p:=⟨ν,1,none⟩) (Kd.Qs (p:=⟨ν,0,none⟩) (Kd.Qr HO_0.out (fun k_ hk=>(⟨hk,hk.2⟩:_∧k_ ≠ ν))) (fun _ hk=>hk.2) (.int .i64 ((Qa B U).f0))) (fun _ hk=>hk.2) (.int .i64 ((Qa B U).f1))) (fun _ hk=>hk.2) (.int .i64 ((Qa B U).f2))) (fun _ h_=>h_.1))) hb);have Z:=Aside0.mk (Qo (g:= ν) (o:=.cells #[.int .i64 ((Qa B U).f0),.int .i64 ((Qa B U).f1),.int .i64 ((Qa B U).f2)] 56 (0,0)) (by(with_reducible repeat first|apply Qf|apply Qb|apply Qg);refine Qw (cs:=#[.int .i64 ((Qa B U).f0),.int .i64 ((Qa B U).f1),.int .i64 0]) ?_ 2 _ rfl;(with_reducible repeat first|apply Qf|apply Qb|apply Qg);refine Qw (cs:=#[.int .i64 ((Qa B U).f0),.int .i64 0,.int .i64 0]) ?_ 1 _ rfl;(with_reducible repeat first|apply Qf|apply Qb|apply Qg);refine Qw (cs:=#[.int .i64 0,.int .i64 0,.int .i64 0]) ?_ 0 _ rfl;(with_reducible repeat first|apply Qf|apply Qb|apply Qg);exact X.out) hb);have ι :=Aside0.mk (Kept.below (S:=(fun k_=>J k_)) (by repeat(first|(with_reducible first|exact HK.out|apply Kept.alloc|apply Kept.drewN|apply Kept.drew|refine Kept.setCell ?_ (.inr ae.out) _)|exact HK.out)) hb);have κ :=Aside0.mk (Qt (by repeat(first|(with_reducible first|exact HB.out|apply Qh|apply Qc|apply Qe|refine Qd ?_ bj.out)|exact HB.out)) hb);clear HO_0;clear X;clear HK;clear HB;have HO_0:=O;have X:=Z;have HK:= ι;have HB:= κ;clear O Z ι κ;(try clear hb);(try clear a0);(try clear hk);(try clear hi);obtain⟨cf,ch,dm,ck,cm,dn⟩:=qD3 X.out;have am:0≤(D:Int):=of_decide_eq_true (by first|(with_reducible assumption)|assumption);have ao:(D:Int)<((B.length:Int):Int):=of_decide_eq_true (by first|(with_reducible assumption)|assumption);obtain⟨γ,d9,b4,b5,bk,da,b6⟩:=Kd.Wt HO_0.out (by omega);(first|cases b4|(injection b4 with ea_ en_ ec_;(first|subst ea_|(injection ea_ with ea_;subst ea_));subst ec_;clear en_));have ai:=Aside0.mk b5;have db:=Aside0.mk b6;clear b5 bk b6;have dc:=Aside0.mk (show(J γ∨w.heap.size≤γ) from(HO_0.out.1 _ rfl).1);(first|simp only[add_plain] at φ |skip);(first|simp only[add_plain] at χ |skip);(first|simp only[add_plain] at a3|skip);obtain⟨dd,ba,b7,τ,aa⟩:=Kd.Ge HO_0.out z56 (D:Int) am ao;obtain rfl:=Y2 b7;have bo:bp.cell? ⟨γ,(D:Int).toNat * 3,none⟩=some (.int .i64 ((Qa B D).f0)):= τ 0 _ rfl;have bq:bp.cell? ⟨γ,(D:Int).toNat * 3+1,none⟩=some (.int .i64 ((Qa B D).f1)):= τ 1 _ rfl;have co:bp.cell? ⟨γ,(D:Int).toNat * 3+2,none⟩=some (.int .i64 ((Qa B D).f2)):= τ 2 _ rfl;have cq:bp.frozen? ⟨γ,(D:Int).toNat * 3,none⟩=false:=aa 0;have ct:bp.frozen? ⟨γ,(D:Int).toNat * 3+1,none⟩=false:=aa 1;have de:bp.frozen? ⟨γ,(D:Int).toNat * 3+2,none⟩=false:=aa 2;clear ba τ aa b7;replace am:=eq_true am;replace ao:=eq_true ao;have bi:=Aside0.mk (show Kd.R k56 56 bp w0.heap.size (fun k_=>(J k_∨w.heap.size≤k_)∧k_ ≠ ν) (.slice (some ⟨γ,0,none⟩) B.length μ) B from(by(with_reducible repeat first|apply Kd.Qm|apply Kd.Ql|apply Kd.Qn);exact HO_0.out));obtain⟨di,b9,br,ψ,af⟩:=Kd.Ge bi.out z56 (D:Int) (of_decide_eq_true (by first|(with_reducible assumption)|assumption)) (by have h_:(D:Int)<((B.length:Int):Int):=of_decide_eq_true (by first|(with_reducible assumption)|assumption);first|exact h_|(have e_:=(Kd.Qq HO_0.out).1;omega)|simpa using h_);obtain rfl:=Y2 br;have b3:=Kd.Nc bi.out (D:Int) (of_decide_eq_true (by first|(with_reducible assumption)|assumption)) (by have h_:(D:Int)<((B.length:Int):Int):=of_decide_eq_true (by first|(with_reducible assumption)|assumption);first|exact h_|(have e_:=(Kd.Qq HO_0.out).1;omega)|simpa using h_) (seg:=[.int .i64 ((Qa B U).f0),.int .i64 ((Qa B U).f1),.int .i64 ((Qa B U).f2)]) (j:=0) b9 ψ (show 3≤3 from by decide) (x':=(⟨(Qa B U).f0,(Qa B U).f1,(Qa B U).f2⟩:S56)) (Xi _ _ _ (⟨(Qa B U).f0,(Qa B U).f1,(Qa B U).f2⟩:S56)) (fun _ hk=>hk);have bs:= ψ 0 _ rfl;(try simp only[show(k56).sz=3 from rfl,Nat.mul_one,Nat.add_zero] at bs);have bv:=af 0;(try simp only[show(k56).sz=3 from rfl,Nat.mul_one,Nat.add_zero] at bv);have bw:= ψ 1 _ rfl;(try simp only[show(k56).sz=3 from rfl,Nat.mul_one,Nat.add_zero] at bw);have bz:=af 1;(try simp only[show(k56).sz=3 from rfl,Nat.mul_one,Nat.add_zero] at bz);have df:= ψ 2 _ rfl;(try simp only[show(k56).sz=3 from rfl,Nat.mul_one,Nat.add_zero] at df);have dh:=af 2;(try simp only[show(k56).sz=3 from rfl,Nat.mul_one,Nat.add_zero] at dh);clear b9 ψ af br))|((with_reducible refine Ko (t:=56) (p:=33) rfl ?_);refine J4 (t:=56) (p:=33) (v:=?vo_w24) (w1:=(((bp.setCell ⟨γ,(D:Int).toNat * 3,none⟩ (.int .i64 ((Qa B U).f0))).setCell ⟨γ,(D:Int).toNat * 3+1,none⟩ (.int .i64 ((Qa B U).f1))).setCell ⟨γ,(D:Int).toNat * 3+2,none⟩ (.int .i64 ((Qa B U).f2)))) ?hg ?ho ?hn ?hr ?_;(case ho=>rfl);(case hg=>rfl);(case hn=>rfl);(case hr=>go_simp <;> rfl);intro bu hw;have hg:bp.grownBy bu (some γ):=(by rw[hw];exact b3.2);have hp_:Kd.R k56 56 bu w0.heap.size (fun k_=>(J k_∨w.heap.size≤k_)∧k_ ≠ ν) (.slice (some ⟨γ,0,none⟩) B.length μ) ag:=(by rw[hw,aw.out];exact b3.1);clear b3;replace X:=Aside0.mk (Q8 (g:= ν) (o:=.cells #[.int .i64 ((Qa B U).f0),.int .i64 ((Qa B U).f1),.int .i64 ((Qa B U).f2)] 56 (0,0)) X.out hg (Kd.Xk HO_0.out (fun _ hk=>hk.2)));replace HB:=Aside0.mk ((by rw[hw];exact Qd (Qd (Qd (HB.out) ai.out) ai.out) ai.out:Below w0.heap.size w0 bu));replace HK:=Aside0.mk (Kept.Ky (S:=(fun k_=>J k_)) hg (by repeat(first|(with_reducible first|exact HK.out|apply Kept.alloc|apply Kept.drewN|apply Kept.drew|refine Kept.setCell ?_ (.inr ae.out) _)|exact HK.out)) (fun k_ e_=>(HO_0.out.1 k_ e_).1));replace HO_0:=Aside0.mk hp_;clear hg hw hp_))
         (try simp only[← η])
         go_roundg k1
         case measure=>have:= ξ.out;omega
         case rel=>exact⟨(ag),(wrap64 (D+1)),(wrap64 (U+1)),rfl,rfl,H',⟨by have:= ξ.out;omega⟩,⟨by(try simp only[η]);(with_reducible repeat first|apply Kd.Qm|apply Kd.Ql|apply Kd.Qn);exact Kd.Qr HO_0.out (fun _ hk=>hk.1)⟩,⟨by repeat(first|(with_reducible first|exact HK.out|apply Kept.alloc|apply Kept.drewN|apply Kept.drew|refine Kept.setCell ?_ (.inr ae.out) _)|exact HK.out)⟩,HB⟩
        ·rw[if_neg a5] at H
         exact absurd H (by simp)
       ·rw[if_neg an] at H
        exact absurd H (by simp)
     ·rw[if_neg c10] at H
      exact absurd H (by simp)
    ·rw[if_neg c9] at H
     have c9b0:decide (U<(B.length:Int))=false:=decide_eq_false c9
     clear c9
     by_cases aj:0≤D
     ·rw[if_pos aj] at H
      have c25b0:=eq_true aj
      have c25b1:decide (0≤D)=true:=decide_eq_true aj
      clear aj
      by_cases ax:D≤(B.length:Int)
      ·rw[if_pos ax] at H
       have c26b0:=eq_true ax
       have c26b1:decide (D≤(B.length:Int))=true:=decide_eq_true ax
       clear ax
       obtain⟨bh,I⟩:∃ y_:List (S56),y_=(B.drop (D:Int).toNat):=⟨_,rfl⟩
       replace H:(some (B.take (D:Int).toNat))=some r:=by first|(rw[I];with_reducible exact H)|(have δ :=(Option.bind_some _ _).symm.trans H;rw[I];with_reducible exact δ)|(have δ :=(Option.bind_some _ _).symm.trans H;with_reducible exact δ)|with_reducible exact H|(rw[I];exact H)|exact H
       have d4:=Aside0.mk I
       clear I
       have c27b0:=eq_true (of_decide_eq_true (by assumption):D≤(B.length:Int))
       obtain⟨cr,ε⟩:∃ y_:List (S56),y_=(B.take (D:Int).toNat):=⟨_,rfl⟩
       replace H:(some cr)=some r:=by first|(rw[ε];with_reducible exact H)|(have δ :=(Option.bind_some _ _).symm.trans H;rw[ε];with_reducible exact δ)|(have δ :=(Option.bind_some _ _).symm.trans H;with_reducible exact δ)|with_reducible exact H|(rw[ε];exact H)|exact H
       have cn:=Aside0.mk ε
       clear ε
       obtain rfl:=Option.some.inj H
       have ca:(D:Int)≤((B.length:Int):Int):=of_decide_eq_true (by assumption)
       obtain⟨dj,bb,_,bf,_⟩:=info_parts Xr
       have hroom28:B.length ≤ μ :=(Kd.Qq HO_0.out).2.1
       have cb:Kd.C k56 _ a4 B.length B:=(Kd.Qq HO_0.out).2.2
       have cz:(0:Int)≤(D:Int):=of_decide_eq_true (by assumption)
       have cd:=Xl (P:=Try.prog) 24 56 .i64 Try.underlying24 bb 3 bf a4 B.length μ D cz ca
       have a8:=Kd.Nm (m:=(D:Int).toNat) (c:= μ) cb (by omega) hroom28
       obtain⟨cu,ap⟩:∃ A1,A1=(if μ = (D:Int).toNat then a4 else (a4:Option Addr).map (·.add ((D:Int).toNat * 3))):=⟨_,rfl⟩
       obtain⟨al,ar⟩:∃ c1,c1 = μ - (D:Int).toNat:=⟨_,rfl⟩
       have au:bh.length=B.length - (D:Int).toNat:=(by rw[d4.out,List.length_drop] <;> omega)
       rw[show(B).drop (D:Int).toNat=bh from d4.out.symm] at a8
       replace a8:Kd.C k56 _ cu bh.length bh:=(by rw[ap];exact a8)
       rw[← au,← ap,← ar] at cd
       have dt:=Aside0.mk a8
       have du:=Aside0.mk (show bh.length≤al from by rw[au,ar];exact Nat.sub_le_sub_right hroom28 _)
       have d0:=Aside0.mk ar
       clear a8 cb hroom28 bb bf ar
       have d1:=Aside0.mk au
       have d2:=Aside0.mk ap
       clear au ap
       have d3:=Aside0.mk (show(D:Int).toNat≤B.length from by omega)
       replace ca:=eq_true ca
       have ce:(D:Int)≤((B.length:Int):Int):=of_decide_eq_true (by assumption)
       obtain⟨dk,bg,_,cp,_⟩:=info_parts Xr
       have cg:=M3 (P:=Try.prog) 24 56 .i64 Try.underlying24 bg a4 B.length μ D (of_decide_eq_true (by assumption)) ce (Kd.Qq HO_0.out).2.1
       have av:=Kd.Nb (m:=(D:Int).toNat) HO_0.out (by omega)
       have cj:cr.length=(D:Int).toNat:=(by rw[cn.out,List.length_take];omega)
       rw[← cn.out] at av
       rw[← cj] at av cg
       clear cj bg cp
       have a6:=Aside0.mk av
       clear av
       replace ce:=eq_true ce
       go_wp2_with (first|((with_reducible refine Zl (b:=.clear) (xs:=#[.tmp 38]) rfl ?_);refine G9 X9 (w:=w) (S:=fun k_=>J k_) rfl (.tmp 38) 24 rfl Try.underlying24 (.agg #[.int .i64 0,.int .i64 0,.int .i64 0]) zeroH (by decide) rfl a4 cu μ al bh.length B HO_0.out (D:Int).toNat d3.out d2.out d1.out d0.out rfl HB.out HK.out (fun _ hk=>hk) cr (cn.out) ?_;intro dl cw cx cy;have O:=Aside0.mk cw;have Z:=Aside0.mk cx;have ι :=Aside0.mk cy;clear cw cx cy HO_0 a6 HB HK;have a6:=O;have HB:=Z;have HK:= ι;clear O Z ι))
       go_ret
       exact⟨_,rfl,by(with_reducible repeat first|apply Kd.Qm|apply Kd.Ql|apply Kd.Qn);exact a6.out,HB.out,by repeat(first|(with_reducible first|exact HK.out|apply Kept.alloc|apply Kept.drewN|apply Kept.drew)|exact HK.out)⟩
      ·rw[if_neg ax] at H
       exact absurd H (by simp)
     ·rw[if_neg aj] at H
      exact absurd H (by simp)
def api_Inside_64.l0:Nat→List (S62)→Int→Int→Int→Option ((List (S62)))
 |0,_,_,_,_=>none
 |k+1,D,J,I,L=>if L<(D.length:Int) then (if 0≤L then ((api_Inside_without_1.f ((Qk D L).f0) ((Qk D L).f1) J).bind fun ε =>(if ε = true then (api_Inside_64.l0 k D J I (wrap64 (L+1))) else (if 0≤I then (if I<(D.length:Int) then (api_Inside_64.l0 k (D.set (I:Int).toNat (⟨(Qk D L).f0,(Qk D L).f1⟩:S62)) J (wrap64 (I+1)) (wrap64 (L+1))) else (none)) else (none)))) else (none)) else (if 0≤I then (if I≤(D.length:Int) then (some (D.take (I:Int).toNat)) else (none)) else (none))
def api_Inside_64.f (k:Nat) (l0:List (S62)) (L:Int):Option ((List (S62))):=(api_Inside_72.f k l0 L).bind fun I=>(if I=(-1) then (some l0) else (api_Inside_64.l0 k l0 L I (wrap64 (I+1))))
theorem api_Inside_64.Zn:∀ k,(∀ I L U D,LeO (api_Inside_64.l0 k I L U D) (api_Inside_64.l0 (k+1) I L U D))
 |0=>fun _ _ _ _ r h=>by simp[api_Inside_64.l0] at h
 |k+1=>by
  have B:=api_Inside_64.Zn k
  ·intro I L U D
   unfold api_Inside_64.l0
   repeat' first
   |(with_reducible exact B _ _ _ _)
   |(with_reducible exact api_Inside_72.mono _ _ _)
   |(with_reducible exact LeO.refl _)
   |(with_reducible exact LeO.none _)
   |(with_reducible refine LeO.ite ?_ ?_)
   |(with_reducible refine LeO.bind ?_ (fun _=>?_))
   |exact B _ _ _ _
   |exact api_Inside_72.mono _ _ _
   |exact LeO.none _
   |refine LeO.ite ?_ ?_
   |refine LeO.bind ?_ (fun _=>?_)
theorem api_Inside_64.mono:∀ D L k,LeO (api_Inside_64.f k D L) (api_Inside_64.f (k+1) D L):=by
 intro D L k
 have B:=api_Inside_64.Zn k
 unfold api_Inside_64.f
 repeat' first
   |(with_reducible exact B _ _ _ _)
   |(with_reducible exact api_Inside_72.mono _ _ _)
   |(with_reducible exact LeO.refl _)
   |(with_reducible exact LeO.none _)
   |(with_reducible refine LeO.ite ?_ ?_)
   |(with_reducible refine LeO.bind ?_ (fun _=>?_))
   |exact B _ _ _ _
   |exact api_Inside_72.mono _ _ _
   |exact LeO.none _
   |refine LeO.ite ?_ ?_
   |refine LeO.bind ?_ (fun _=>?_)
set_option maxHeartbeats 8000000 in
set_option maxRecDepth 100000 in
theorem api_Inside_64.calls (k:Nat) (J:Nat→Prop) (a2:Value) (l0:List (S62)) (L:Int) (r:List (S62)) (w0 w:World) (hB:Below w0.heap.size w0 w) (ρ:Kd.R k62 62 w w0.heap.size J a2 l0) (h:api_Inside_64.f k l0 L=some r) (Ar_:Option Addr) (nr_ cr_ gr_ gx_:Nat) (zx_:Int) (hgr_:w.heap[gr_]?=some (.cells #[.slice Ar_ nr_ cr_,.func (.func 57) #[] #[]] 74 (0,0))) (hgx_:w.heap[gx_]?=some (.cells #[.int .i64 (Yf L),.int .i64 (Ye L)] 62 (0,0))) (hnr_:¬ J gr_) (hnx_:¬ J gx_):
  Calls Try.prog 64 #[a2,.func (.func 65) #[] #[.pointer (some ⟨gr_,0,none⟩),.pointer (some ⟨gx_,0,none⟩)]] w fun e w'=>∃ ω :Value,e = .returned (ω)∧Kd.R k62 62 w' w0.heap.size (fun k_=>(J k_∨w.heap.size≤k_)) ω r∧Below w0.heap.size w0 w'∧Kept w w' (fun k_=>J k_):=by
 have HCR:=Aside0.mk hgr_
 have HCX:=Aside0.mk hgx_
 have HNR:=Aside0.mk hnr_
 have HNX:=Aside0.mk hnx_
 clear hgr_ hgx_ hnr_ hnx_
 have b8:=Try.underlying62
 have Y:=Aside0.mk (show Kd.R k62 62 w w0.heap.size (fun k_=>(J k_∨w.heap.size≤k_)) a2 l0 from Kd.Qr ρ (fun k_ hk=>(.inl hk)))
 have HK:=Aside0.mk (Kept.refl w (fun k_=>J k_))
 have dp:=Aside0.mk hB.size
 have HB:=Aside0.mk hB
 clear hB
 have H:((api_Inside_72.f k l0 L).bind fun I=>(if I=(-1) then (some l0) else (api_Inside_64.l0 k l0 L I (wrap64 (I+1)))))=some r:=h
 clear h
 replace H:=Option.bind_eq_some_iff.mp H
 obtain⟨I,ac,H⟩:=H
 replace H:(if I=(-1) then (some l0) else (api_Inside_64.l0 k l0 L I (wrap64 (I+1))))=some r:=H
 have A3:=Aside0.mk ac
 clear ac
 by_cases c4:I=(-1)
 ·rw[if_pos c4] at H
  have c4b0:(I==(-1))=true:=beq_iff_eq.mpr c4
  have c4b1:(I != (-1))=false:=bne_eq_false_iff_eq.mpr c4
  clear c4
  obtain rfl:=Option.some.inj H
  obtain⟨dq,dr,d7⟩:=Kd.Q5 Y.out
  subst d7
  go_enter Try.func64,Try.ntmps64
  go_wp2_with (first|(go_at_call 72;((with_reducible refine(api_Inside_72.calls k _ _ l0 L I _ ?side1 ?side2 A3.out Ar_ nr_ cr_ gr_ gx_ zx_ (Xh HCR.out (by repeat(first|(with_reducible first|exact HK.out|apply Kept.alloc|apply Kept.drewN|apply Kept.drew|refine Kept.setCell ?_ (.inr aw.out) _)|exact HK.out)) HNR.out) (Xh HCX.out (by repeat(first|(with_reducible first|exact HK.out|apply Kept.alloc|apply Kept.drewN|apply Kept.drew|refine Kept.setCell ?_ (.inr aw.out) _)|exact HK.out)) HNX.out)).mono ?_);(case side1=>exact(Kd.Qq Y.out).2.2);(case side2=>exact(Kd.Qq Y.out).2.1);rintro e w6 ⟨rfl,hb⟩;have O:=Aside0.mk (Kd.Qu Y.out hb);have Z:=Aside0.mk (Kept.below (S:=(fun k_=>J k_)) (by repeat(first|(with_reducible first|exact HK.out|apply Kept.alloc|apply Kept.drewN|apply Kept.drew)|exact HK.out)) hb);have ι :=Aside0.mk (Qt HB.out hb);clear Y;clear HK;clear HB;have Y:=O;have HK:=Z;have HB:= ι;clear O Z ι;(try clear hb);(try clear a0);(try clear hk);(try clear hi))))
  go_ret
  exact⟨_,rfl,by(with_reducible repeat first|apply Kd.Qm|apply Kd.Ql|apply Kd.Qn);exact Y.out,HB.out,by repeat(first|(with_reducible first|exact HK.out|apply Kept.alloc|apply Kept.drewN|apply Kept.drew)|exact HK.out)⟩
 ·rw[if_neg c4] at H
  have c4b0:(I==(-1))=false:=beq_eq_false_iff_ne.mpr c4
  have c4b1:(I != (-1))=true:=bne_iff_ne.mpr c4
  have H':=Aside0.mk H
  clear H
  obtain⟨a4,μ,d8⟩:=Kd.Q5 Y.out
  subst d8
  go_enter Try.func64,Try.ntmps64
  go_wp2_with (first|(go_at_call 72;((with_reducible refine(api_Inside_72.calls k _ _ l0 L I _ ?side1 ?side2 A3.out Ar_ nr_ cr_ gr_ gx_ zx_ (Xh HCR.out (by repeat(first|(with_reducible first|exact HK.out|apply Kept.alloc|apply Kept.drewN|apply Kept.drew|refine Kept.setCell ?_ (.inr aw.out) _)|exact HK.out)) HNR.out) (Xh HCX.out (by repeat(first|(with_reducible first|exact HK.out|apply Kept.alloc|apply Kept.drewN|apply Kept.drew|refine Kept.setCell ?_ (.inr aw.out) _)|exact HK.out)) HNX.out)).mono ?_);(case side1=>exact(Kd.Qq Y.out).2.2);(case side2=>exact(Kd.Qq Y.out).2.1);rintro e w8 ⟨rfl,hb⟩;have O:=Aside0.mk (Kd.Qu Y.out hb);have Z:=Aside0.mk (Kept.below (S:=(fun k_=>J k_)) (by repeat(first|(with_reducible first|exact HK.out|apply Kept.alloc|apply Kept.drewN|apply Kept.drew)|exact HK.out)) hb);have ι :=Aside0.mk (Qt HB.out hb);clear Y;clear HK;clear HB;have Y:=O;have HK:=Z;have HB:= ι;clear O Z ι;(try clear hb);(try clear a0);(try clear hk);(try clear hi))))
  go_loopg [5,6] k (fun kq v5 v6 w'=>∃ (B:List (S62)) (D:Int) (U:Int),v5 = .int .i64 D∧v6 = .int .i64 U∧Aside0 (api_Inside_64.l0 kq B L D U=some r)∧Aside0 (kq≤k)∧Aside0 (Kd.R k62 62 w' w0.heap.size (fun k_=>(J k_∨w.heap.size≤k_)) (.slice a4 l0.length μ) B)∧Aside0 (Kept w w' (fun k_=>J k_))∧Aside0 (Below w0.heap.size w0 w'))
  case atStart=>exact⟨(l0),(I),(wrap64 (I+1)),rfl,rfl,H',⟨Nat.le_refl _⟩,⟨by(with_reducible repeat first|apply Kd.Qm|apply Kd.Ql|apply Kd.Qn);exact Y.out⟩,⟨by repeat(first|(with_reducible first|exact HK.out|apply Kept.alloc|apply Kept.drewN|apply Kept.drew)|exact HK.out)⟩,HB⟩
  case round=>
   clear H'
   try clear p2
   try clear c4
   try clear c4b0
   try clear c4b1
   try clear c6
   try clear p6
   try clear c7
   obtain⟨B,D,U,rfl,rfl,HA,ξ,HO_0,HK,HB⟩:=hrel
   have η :=(Kd.Qq HO_0.out).1
   rw[η] at HO_0
   (try simp only[η])
   cases gk with
   |zero=>exact absurd HA.out (by simp[api_Inside_64.l0])
   |succ k1=>
    have H:=HA.out
    clear HA
    simp only[api_Inside_64.l0] at H
    by_cases c9:U<(B.length:Int)
    ·rw[if_pos c9] at H
     have c9b0:decide (U<(B.length:Int))=true:=decide_eq_true c9
     clear c9
     by_cases c10:0≤U
     ·rw[if_pos c10] at H
      have c10b0:decide (0≤U)=true:=decide_eq_true c10
      clear c10
      replace H:=Option.bind_eq_some_iff.mp H
      obtain⟨ε,bc,H⟩:=H
      replace H:(if ε = true then (api_Inside_64.l0 k1 B L D (wrap64 (U+1))) else (if 0≤D then (if D<(B.length:Int) then (api_Inside_64.l0 k1 (B.set (D:Int).toNat (⟨(Qk B U).f0,(Qk B U).f1⟩:S62)) L (wrap64 (D+1)) (wrap64 (U+1))) else (none)) else (none)))=some r:=H
      have bm:=Aside0.mk bc
      clear bc
      by_cases ci: ε = true
      ·subst ci
       have H1:(api_Inside_64.l0 k1 B L D (wrap64 (U+1)))=some r:=by rw[if_pos rfl] at H;exact H
       clear H
       have H:=H1
       clear H1
       have H':=Aside0.mk H
       clear H
       have ζ :0≤(U:Int):=of_decide_eq_true (by assumption)
       have θ :U<(B.length:Int):=of_decide_eq_true (by assumption)
       obtain⟨bh,ab,a3,a7⟩:=Zu (Kd.Qq HO_0.out).2.2 U ζ θ
       cases ab
       replace ζ :=eq_true ζ
       replace θ :=eq_true θ
       go_wp2_with (first|((with_reducible refine Qp (N:=7) rfl ?_);refine qE 7 #[.int .i64 0,.int .i64 0] 62 ?_;intro a6 hg eb hbox hb;have X:=Aside0.mk hbox;have aw:=Aside0.mk ((by rw[hg];exact(by first|exact HK.out.1|exact(show Kept w _ (fun k_=>J k_) from by repeat(first|(with_reducible first|exact HK.out|apply Kept.alloc|apply Kept.drewN|apply Kept.drew)|exact HK.out)).1):w.heap.size≤a6));have cr:=Aside0.mk ((by rw[hg];exact(Qj bel):w0.heap.size≤a6));replace HO_0:=Aside0.mk (Kd.Qu (Kd.K7 (kra HO_0) a6 (Nat.le_of_eq hg.symm)) hb);replace HK:=Aside0.mk (Kept.below (S:=(fun k_=>J k_)) (by repeat(first|(with_reducible first|exact HK.out|apply Kept.alloc|apply Kept.drewN|apply Kept.drew)|exact HK.out)) hb);replace HB:=sHb hb;clear hb hbox hg;obtain⟨az,b0,b1,b2⟩:=qD2 X.out)|(go_at_call 65;((with_reducible refine(api_Inside_without_1.calls ((Qk B U).f0) ((Qk B U).f1) L true _ bm.out Ar_ nr_ cr_ gr_ gx_ zx_ (Xh HCR.out (by repeat(first|(with_reducible first|exact HK.out|apply Kept.alloc|apply Kept.drewN|apply Kept.drew|refine Kept.setCell ?_ (.inr aw.out) _)|exact HK.out)) HNR.out) (Xh HCX.out (by repeat(first|(with_reducible first|exact HK.out|apply Kept.alloc|apply Kept.drewN|apply Kept.drew|refine Kept.setCell ?_ (.inr aw.out) _)|exact HK.out)) HNX.out)).mono ?_);rintro e cv ⟨rfl,hb⟩;have O:=Aside0.mk (Kd.Qu (by(with_reducible repeat first|apply Kd.Qm|apply Kd.Ql|apply Kd.Qn);exact(Kd.Qr (Kd.Qs (Kd.Qs (Kd.Qr HO_0.out (fun k_ hk=>(⟨hk,hk.2⟩:_∧k_≠a6))) (fun _ hk=>hk.2) (.int .i64 ((Qk B U).f0))) (fun _ hk=>hk.2) (.int .i64 ((Qk B U).f1))) (fun _ h_=>h_.1))) hb);have Z:=Aside0.mk (Qo (g:=a6) (o:=.cells #[.int .i64 ((Qk B U).f0),.int .i64 ((Qk B U).f1)] 62 (0,0)) (by(with_reducible repeat first|apply Qf|apply Qb|apply Qg);refine Qw (cs:=#[.int .i64 ((Qk B U).f0),.int .i64 0]) ?_ 1 _ rfl;(with_reducible repeat first|apply Qf|apply Qb|apply Qg);refine Qw (cs:=#[.int .i64 0,.int .i64 0]) ?_ 0 _ rfl;(with_reducible repeat first|apply Qf|apply Qb|apply Qg);exact X.out) hb);have ι :=Aside0.mk (Kept.below (S:=(fun k_=>J k_)) (by repeat(first|(with_reducible first|exact HK.out|apply Kept.alloc|apply Kept.drewN|apply Kept.drew|refine Kept.setCell ?_ (.inr aw.out) _)|exact HK.out)) hb);have κ :=Aside0.mk (Qt bel hb);clear HO_0;clear X;clear HK;clear HB;have HO_0:=O;have X:=Z;have HK:= ι;have HB:= κ;clear O Z ι κ;(try clear hb);(try clear a0);(try clear hk);(try clear hi))))
       (try simp only[← η])
       go_roundg k1
       case measure=>have:= ξ.out;omega
       case rel=>exact⟨(B),(D),(wrap64 (U+1)),rfl,rfl,H',⟨by have:= ξ.out;omega⟩,⟨by(try simp only[η]);(with_reducible repeat first|apply Kd.Qm|apply Kd.Ql|apply Kd.Qn);exact Kd.Qr HO_0.out (fun _ hk=>hk.1)⟩,⟨by repeat(first|(with_reducible first|exact HK.out|apply Kept.alloc|apply Kept.drewN|apply Kept.drew|refine Kept.setCell ?_ (.inr aw.out) _)|exact HK.out)⟩,HB⟩
      ·replace ci:=Bool.eq_false_iff.mpr ci
       subst ci
       have H1:(if 0≤D then (if D<(B.length:Int) then (api_Inside_64.l0 k1 (B.set (D:Int).toNat (⟨(Qk B U).f0,(Qk B U).f1⟩:S62)) L (wrap64 (D+1)) (wrap64 (U+1))) else (none)) else (none))=some r:=by rw[if_neg (show ¬ (false=true) by decide)] at H;exact H
       clear H
       have H:=H1
       clear H1
       by_cases an:0≤D
       ·rw[if_pos an] at H
        have c16b0:decide (0≤D)=true:=decide_eq_true an
        clear an
        by_cases a5:D<(B.length:Int)
        ·rw[if_pos a5] at H
         have c17b0:decide (D<(B.length:Int))=true:=decide_eq_true a5
         clear a5
         obtain⟨ae,ν⟩:∃ y_:List (S62),y_=(B.set (D:Int).toNat (⟨(Qk B U).f0,(Qk B U).f1⟩:S62)):=⟨_,rfl⟩
         replace H:(api_Inside_64.l0 k1 ae L (wrap64 (D+1)) (wrap64 (U+1)))=some r:=by first|(rw[ν];with_reducible exact H)|(have δ :=(Option.bind_some _ _).symm.trans H;rw[ν];with_reducible exact δ)|(have δ :=(Option.bind_some _ _).symm.trans H;with_reducible exact δ)|with_reducible exact H|(rw[ν];exact H)|exact H
         have bj:=Aside0.mk ν
         clear ν
         have H':=Aside0.mk H
         clear H
         have ζ :0≤(U:Int):=of_decide_eq_true (by assumption)
         have θ :U<(B.length:Int):=of_decide_eq_true (by assumption)
         obtain⟨bh,ab,a3,a7⟩:=Zu (Kd.Qq HO_0.out).2.2 U ζ θ
         cases ab
         replace ζ :=eq_true ζ
         replace θ :=eq_true θ
         go_wp2_with (first|((with_reducible refine Qp (N:=7) rfl ?_);refine qE 7 #[.int .i64 0,.int .i64 0] 62 ?_;intro a6 hg dw hbox hb;have X:=Aside0.mk hbox;have aw:=Aside0.mk ((by rw[hg];exact(by first|exact HK.out.1|exact(show Kept w _ (fun k_=>J k_) from by repeat(first|(with_reducible first|exact HK.out|apply Kept.alloc|apply Kept.drewN|apply Kept.drew)|exact HK.out)).1):w.heap.size≤a6));have cr:=Aside0.mk ((by rw[hg];exact(Qj HB.out):w0.heap.size≤a6));replace HO_0:=Aside0.mk (Kd.Qu (Kd.K7 HO_0.out a6 (Nat.le_of_eq hg.symm)) hb);replace HK:=Aside0.mk (Kept.below (S:=(fun k_=>J k_)) (by repeat(first|(with_reducible first|exact HK.out|apply Kept.alloc|apply Kept.drewN|apply Kept.drew)|exact HK.out)) hb);replace HB:=sHb hb;clear hb hbox hg;obtain⟨ah,ak,bd,be⟩:=qD2 X.out)|(go_at_call 65;((with_reducible refine(api_Inside_without_1.calls ((Qk B U).f0) ((Qk B U).f1) L false _ bm.out Ar_ nr_ cr_ gr_ gx_ zx_ (Xh HCR.out (by repeat(first|(with_reducible first|exact HK.out|apply Kept.alloc|apply Kept.drewN|apply Kept.drew|refine Kept.setCell ?_ (.inr aw.out) _)|exact HK.out)) HNR.out) (Xh HCX.out (by repeat(first|(with_reducible first|exact HK.out|apply Kept.alloc|apply Kept.drewN|apply Kept.drew|refine Kept.setCell ?_ (.inr aw.out) _)|exact HK.out)) HNX.out)).mono ?_);rintro e bp ⟨rfl,hb⟩;have O:=Aside0.mk (Kd.Qu (by(with_reducible repeat first|apply Kd.Qm|apply Kd.Ql|apply Kd.Qn);exact(Kd.Qr (Kd.Qs (p:=⟨a6,1,none⟩) (Kd.Qs (p:=⟨a6,0,none⟩) (Kd.Qr HO_0.out (fun k_ hk=>(⟨hk,hk.2⟩:_∧k_≠a6))) (fun _ hk=>hk.2) (.int .i64 ((Qk B U).f0))) (fun _ hk=>hk.2) (.int .i64 ((Qk B U).f1))) (fun _ h_=>h_.1))) hb);have Z:=Aside0.mk (Qo (g:=a6) (o:=.cells #[.int .i64 ((Qk B U).f0),.int .i64 ((Qk B U).f1)] 62 (0,0)) (by(with_reducible repeat first|apply Qf|apply Qb|apply Qg);refine Qw (cs:=#[.int .i64 ((Qk B U).f0),.int .i64 0]) ?_ 1 _ rfl;(with_reducible repeat first|apply Qf|apply Qb|apply Qg);refine Qw (cs:=#[.int .i64 0,.int .i64 0]) ?_ 0 _ rfl;(with_reducible repeat first|apply Qf|apply Qb|apply Qg);exact X.out) hb);have ι :=Aside0.mk (Kept.below (S:=(fun k_=>J k_)) (by repeat(first|(with_reducible first|exact HK.out|apply Kept.alloc|apply Kept.drewN|apply Kept.drew|refine Kept.setCell ?_ (.inr aw.out) _)|exact HK.out)) hb);have κ :=Aside0.mk (Qt (by repeat(first|(with_reducible first|exact HB.out|apply Qh|apply Qc|apply Qe|refine Qd ?_ cr.out)|exact HB.out)) hb);clear HO_0;clear X;clear HK;clear HB;have HO_0:=O;have X:=Z;have HK:= ι;have HB:= κ;clear O Z ι κ;(try clear hb);(try clear a0);(try clear hk);(try clear hi);obtain⟨cf,ch,ck,cm⟩:=qD2 X.out;have am:0≤(D:Int):=of_decide_eq_true (by first|(with_reducible assumption)|assumption);have ao:(D:Int)<((B.length:Int):Int):=of_decide_eq_true (by first|(with_reducible assumption)|assumption);obtain⟨γ,d9,b4,b5,bk,da,b6⟩:=Kd.Wt HO_0.out (by omega);(first|cases b4|(injection b4 with ea_ en_ ec_;(first|subst ea_|(injection ea_ with ea_;subst ea_));subst ec_;clear en_));have ai:=Aside0.mk b5;have db:=Aside0.mk b6;clear b5 bk b6;have dc:=Aside0.mk (show(J γ∨w.heap.size≤γ) from(HO_0.out.1 _ rfl).1);(first|simp only[add_plain] at a3|skip);(first|simp only[add_plain] at a7|skip);obtain⟨dd,ba,b7,τ,aa⟩:=Kd.Ge HO_0.out z62 (D:Int) am ao;obtain rfl:=Kf b7;have bo:bp.cell? ⟨γ,(D:Int).toNat * 2,none⟩=some (.int .i64 ((Qk B D).f0)):= τ 0 _ rfl;have bq:bp.cell? ⟨γ,(D:Int).toNat * 2+1,none⟩=some (.int .i64 ((Qk B D).f1)):= τ 1 _ rfl;have cq:bp.frozen? ⟨γ,(D:Int).toNat * 2,none⟩=false:=aa 0;have ct:bp.frozen? ⟨γ,(D:Int).toNat * 2+1,none⟩=false:=aa 1;clear ba τ aa b7;replace am:=eq_true am;replace ao:=eq_true ao;have bi:=Aside0.mk (show Kd.R k62 62 bp w0.heap.size (fun k_=>(J k_∨w.heap.size≤k_)∧k_≠a6) (.slice (some ⟨γ,0,none⟩) B.length μ) B from(by(with_reducible repeat first|apply Kd.Qm|apply Kd.Ql|apply Kd.Qn);exact HO_0.out));obtain⟨di,b9,br,ψ,af⟩:=Kd.Ge bi.out z62 (D:Int) (of_decide_eq_true (by first|(with_reducible assumption)|assumption)) (by have h_:(D:Int)<((B.length:Int):Int):=of_decide_eq_true (by first|(with_reducible assumption)|assumption);first|exact h_|(have e_:=(Kd.Qq HO_0.out).1;omega)|simpa using h_);obtain rfl:=Kf br;have b3:=Kd.Nc bi.out (D:Int) (of_decide_eq_true (by first|(with_reducible assumption)|assumption)) (by have h_:(D:Int)<((B.length:Int):Int):=of_decide_eq_true (by first|(with_reducible assumption)|assumption);first|exact h_|(have e_:=(Kd.Qq HO_0.out).1;omega)|simpa using h_) (seg:=[.int .i64 ((Qk B U).f0),.int .i64 ((Qk B U).f1)]) (j:=0) b9 ψ (show 2≤2 from by decide) (x':=(⟨(Qk B U).f0,(Qk B U).f1⟩:S62)) (Yb _ _ _ (⟨(Qk B U).f0,(Qk B U).f1⟩:S62)) (fun _ hk=>hk);have bs:= ψ 0 _ rfl;(try simp only[show(k62).sz=2 from rfl,Nat.mul_one,Nat.add_zero] at bs);have bv:=af 0;(try simp only[show(k62).sz=2 from rfl,Nat.mul_one,Nat.add_zero] at bv);have bw:= ψ 1 _ rfl;(try simp only[show(k62).sz=2 from rfl,Nat.mul_one,Nat.add_zero] at bw);have bz:=af 1;(try simp only[show(k62).sz=2 from rfl,Nat.mul_one,Nat.add_zero] at bz);clear b9 ψ af br))|((with_reducible refine Ko (t:=62) (p:=33) rfl ?_);refine J4 (t:=62) (p:=33) (v:=?vo_w24) (w1:=((bp.setCell ⟨γ,(D:Int).toNat * 2,none⟩ (.int .i64 ((Qk B U).f0))).setCell ⟨γ,(D:Int).toNat * 2+1,none⟩ (.int .i64 ((Qk B U).f1)))) ?hg ?ho ?hn ?hr ?_;(case ho=>rfl);(case hg=>rfl);(case hn=>rfl);(case hr=>go_simp <;> rfl);intro bu hw;have hg:bp.grownBy bu (some γ):=(by rw[hw];exact b3.2);have hp_:Kd.R k62 62 bu w0.heap.size (fun k_=>(J k_∨w.heap.size≤k_)∧k_≠a6) (.slice (some ⟨γ,0,none⟩) B.length μ) ae:=(by rw[hw,bj.out];exact b3.1);clear b3;replace X:=Aside0.mk (Q8 (g:=a6) (o:=.cells #[.int .i64 ((Qk B U).f0),.int .i64 ((Qk B U).f1)] 62 (0,0)) X.out hg (Kd.Xk HO_0.out (fun _ hk=>hk.2)));replace HB:=Aside0.mk ((by rw[hw];exact Qd (Qd (HB.out) ai.out) ai.out:Below w0.heap.size w0 bu));replace HK:=Aside0.mk (Kept.Ky (S:=(fun k_=>J k_)) hg (by repeat(first|(with_reducible first|exact HK.out|apply Kept.alloc|apply Kept.drewN|apply Kept.drew|refine Kept.setCell ?_ (.inr aw.out) _)|exact HK.out)) (fun k_ e_=>(HO_0.out.1 k_ e_).1));replace HO_0:=Aside0.mk hp_;clear hg hw hp_))
         (try simp only[← η])
         go_roundg k1
         case measure=>have:= ξ.out;omega
         case rel=>exact⟨(ae),(wrap64 (D+1)),(wrap64 (U+1)),rfl,rfl,H',⟨by have:= ξ.out;omega⟩,⟨by(try simp only[η]);(with_reducible repeat first|apply Kd.Qm|apply Kd.Ql|apply Kd.Qn);exact Kd.Qr HO_0.out (fun _ hk=>hk.1)⟩,⟨by repeat(first|(with_reducible first|exact HK.out|apply Kept.alloc|apply Kept.drewN|apply Kept.drew|refine Kept.setCell ?_ (.inr aw.out) _)|exact HK.out)⟩,HB⟩
        ·rw[if_neg a5] at H
         exact absurd H (by simp)
       ·rw[if_neg an] at H
        exact absurd H (by simp)
     ·rw[if_neg c10] at H
      exact absurd H (by simp)
    ·rw[if_neg c9] at H
     have c9b0:decide (U<(B.length:Int))=false:=decide_eq_false c9
     clear c9
     by_cases aj:0≤D
     ·rw[if_pos aj] at H
      have c25b0:=eq_true aj
      have c25b1:decide (0≤D)=true:=decide_eq_true aj
      clear aj
      by_cases ax:D≤(B.length:Int)
      ·rw[if_pos ax] at H
       have c26b0:=eq_true ax
       have c26b1:decide (D≤(B.length:Int))=true:=decide_eq_true ax
       clear ax
       obtain⟨χ,σ⟩:∃ y_:List (S62),y_=(B.drop (D:Int).toNat):=⟨_,rfl⟩
       replace H:(some (B.take (D:Int).toNat))=some r:=by first|(rw[σ];with_reducible exact H)|(have δ :=(Option.bind_some _ _).symm.trans H;rw[σ];with_reducible exact δ)|(have δ :=(Option.bind_some _ _).symm.trans H;with_reducible exact δ)|with_reducible exact H|(rw[σ];exact H)|exact H
       have ay:=Aside0.mk σ
       clear σ
       have c27b0:=eq_true (of_decide_eq_true (by assumption):D≤(B.length:Int))
       obtain⟨ag,φ⟩:∃ y_:List (S62),y_=(B.take (D:Int).toNat):=⟨_,rfl⟩
       replace H:(some ag)=some r:=by first|(rw[φ];with_reducible exact H)|(have δ :=(Option.bind_some _ _).symm.trans H;rw[φ];with_reducible exact δ)|(have δ :=(Option.bind_some _ _).symm.trans H;with_reducible exact δ)|with_reducible exact H|(rw[φ];exact H)|exact H
       have a9:=Aside0.mk φ
       clear φ
       obtain rfl:=Option.some.inj H
       have ca:(D:Int)≤((B.length:Int):Int):=of_decide_eq_true (by assumption)
       obtain⟨dj,bb,_,bf,_⟩:=info_parts Yd
       have hroom28:B.length ≤ μ :=(Kd.Qq HO_0.out).2.1
       have cb:Kd.C k62 _ a4 B.length B:=(Kd.Qq HO_0.out).2.2
       have cz:(0:Int)≤(D:Int):=of_decide_eq_true (by assumption)
       have cd:=Xl (P:=Try.prog) 25 62 .i64 Try.underlying25 bb 2 bf a4 B.length μ D cz ca
       have a8:=Kd.Nm (m:=(D:Int).toNat) (c:= μ) cb (by omega) hroom28
       obtain⟨cu,ap⟩:∃ A1,A1=(if μ = (D:Int).toNat then a4 else (a4:Option Addr).map (·.add ((D:Int).toNat * 2))):=⟨_,rfl⟩
       obtain⟨al,ar⟩:∃ c1,c1 = μ - (D:Int).toNat:=⟨_,rfl⟩
       have au: χ.length=B.length - (D:Int).toNat:=(by rw[ay.out,List.length_drop] <;> omega)
       rw[show(B).drop (D:Int).toNat = χ from ay.out.symm] at a8
       replace a8:Kd.C k62 _ cu χ.length χ :=(by rw[ap];exact a8)
       rw[← au,← ap,← ar] at cd
       have bl:=Aside0.mk a8
       have bn:=Aside0.mk (show χ.length≤al from by rw[au,ar];exact Nat.sub_le_sub_right hroom28 _)
       have d0:=Aside0.mk ar
       clear a8 cb hroom28 bb bf ar
       have d1:=Aside0.mk au
       have d2:=Aside0.mk ap
       clear au ap
       have d3:=Aside0.mk (show(D:Int).toNat≤B.length from by omega)
       replace ca:=eq_true ca
       have ce:(D:Int)≤((B.length:Int):Int):=of_decide_eq_true (by assumption)
       obtain⟨dk,bg,_,cp,_⟩:=info_parts Yd
       have cg:=M3 (P:=Try.prog) 25 62 .i64 Try.underlying25 bg a4 B.length μ D (of_decide_eq_true (by assumption)) ce (Kd.Qq HO_0.out).2.1
       have av:=Kd.Nb (m:=(D:Int).toNat) HO_0.out (by omega)
       have cj:ag.length=(D:Int).toNat:=(by rw[a9.out,List.length_take];omega)
       rw[← a9.out] at av
       rw[← cj] at av cg
       clear cj bg cp
       have co:=Aside0.mk av
       clear av
       replace ce:=eq_true ce
       go_wp2_with (first|((with_reducible refine Zl (b:=.clear) (xs:=#[.tmp 38]) rfl ?_);refine G9 X8 (w:=w) (S:=fun k_=>J k_) rfl (.tmp 38) 25 rfl Try.underlying25 (.agg #[.int .i64 0,.int .i64 0]) zeroI (by decide) rfl a4 cu μ al χ.length B HO_0.out (D:Int).toNat d3.out d2.out d1.out d0.out rfl HB.out HK.out (fun _ hk=>hk) ag (a9.out) ?_;intro dl cw cx cy;have O:=Aside0.mk cw;have Z:=Aside0.mk cx;have ι :=Aside0.mk cy;clear cw cx cy HO_0 co HB HK;have co:=O;have HB:=Z;have HK:= ι;clear O Z ι))
       go_ret
       exact⟨_,rfl,by(with_reducible repeat first|apply Kd.Qm|apply Kd.Ql|apply Kd.Qn);exact co.out,HB.out,by repeat(first|(with_reducible first|exact HK.out|apply Kept.alloc|apply Kept.drewN|apply Kept.drew)|exact HK.out)⟩
      ·rw[if_neg ax] at H
       exact absurd H (by simp)
     ·rw[if_neg aj] at H
      exact absurd H (by simp)
def api_Hall_62.l0:Nat→List (S56)→Int→Int→Int→Int→Int→Int→Option (Int×Bool)
 |0,_,_,_,_,_,_,_=>none
 |k+1,D,O,I,B,J,L,U=>if I<B then (if 0≤(wrap64 ((IntKind.u64.wrap (wrap64 (I+B))) / 2)) then (if (wrap64 ((IntKind.u64.wrap (wrap64 (I+B))) / 2))<(D.length:Int) then ((call_halls_1.f ((Qa D (wrap64 ((IntKind.u64.wrap (wrap64 (I+B))) / 2))).f0) ((Qa D (wrap64 ((IntKind.u64.wrap (wrap64 (I+B))) / 2))).f1) ((Qa D (wrap64 ((IntKind.u64.wrap (wrap64 (I+B))) / 2))).f2) J L U).bind fun γ=>(if γ<0 then (api_Hall_62.l0 k D O (wrap64 ((wrap64 ((IntKind.u64.wrap (wrap64 (I+B))) / 2))+1)) B J L U) else (api_Hall_62.l0 k D O I (wrap64 ((IntKind.u64.wrap (wrap64 (I+B))) / 2)) J L U))) else (none)) else (none)) else (if I<O then (if 0≤I then (if I<(D.length:Int) then ((call_halls_1.f ((Qa D I).f0) ((Qa D I).f1) ((Qa D I).f2) J L U).bind fun a7=>(some (I,(a7==0)))) else (none)) else (none)) else (some (I,false)))
def api_Hall_62.f (k:Nat) (l0:List (S56)) (I:Int) (L:Int) (X:Int) (a2:Int):Option (Int×Bool):=api_Hall_62.l0 k l0 (l0.length:Int) 0 (l0.length:Int) I L X
theorem api_Hall_62.Zn:∀ k,(∀ I L U D J X Y,LeO (api_Hall_62.l0 k I L U D J X Y) (api_Hall_62.l0 (k+1) I L U D J X Y))
 |0=>fun _ _ _ _ _ _ _ r h=>by simp[api_Hall_62.l0] at h
 |k+1=>by
  have B:=api_Hall_62.Zn k
  ·intro I L U D J X Y
   unfold api_Hall_62.l0
   repeat' first
   |(with_reducible exact B _ _ _ _ _ _ _)
   |(with_reducible exact LeO.refl _)
   |(with_reducible exact LeO.none _)
   |(with_reducible refine LeO.ite ?_ ?_)
   |(with_reducible refine LeO.bind ?_ (fun _=>?_))
   |exact B _ _ _ _ _ _ _
   |exact LeO.none _
   |refine LeO.ite ?_ ?_
   |refine LeO.bind ?_ (fun _=>?_)
theorem api_Hall_62.mono:∀ D L a2 X I k,LeO (api_Hall_62.f k D L a2 X I) (api_Hall_62.f (k+1) D L a2 X I):=by
 intro D L a2 X I k
 have B:=api_Hall_62.Zn k
 unfold api_Hall_62.f
 repeat' first
   |(with_reducible exact B _ _ _ _ _ _ _)
   |(with_reducible exact LeO.refl _)
   |(with_reducible exact LeO.none _)
   |(with_reducible refine LeO.ite ?_ ?_)
   |(with_reducible refine LeO.bind ?_ (fun _=>?_))
   |exact B _ _ _ _ _ _ _
   |exact LeO.none _
   |refine LeO.ite ?_ ?_
   |refine LeO.bind ?_ (fun _=>?_)
def api_Hall_62.T5:Bool×List (List Nat×List Nat):=(true,[([],[]),([],[]),([],[]),([1,2],[1,2]),([3],[3]),([],[]),([0,4,5],[0,4,5]),([6],[6])])
def api_Hall_62.B5:List Nat:=[0,0,0,6,14,0,63,127]
theorem api_Hall_62.Me:rtab .any (opsOf Try.f62 5)=api_Hall_62.T5:=by kernel_rfl
theorem api_Hall_62.U4:Zv api_Hall_62.T5.2 api_Hall_62.B5=true:=by kernel_rfl
def api_Hall_62.T8:Bool×List (List Nat×List Nat):=(true,[([],[]),([],[]),([],[]),([1,2],[1,2]),([3],[3]),([4],[4]),([4],[4]),([4],[4]),([6,7,4],[4,6,7]),([8,4],[4,8]),([4],[4]),([5,9,10,4,4],[4,5,9,10]),([11,4],[4,11]),([4,12],[4,12]),([0,11,0],[0]),([13,14,0,1,2,3,4,5,6,7,8,9,10,11,12,13,14],[13])])
def api_Hall_62.B8:List Nat:=[0,0,0,6,14,30,30,30,222,478,30,2046,4094,8190,4095,32767]
theorem api_Hall_62.U8:rtab .any (opsOf Try.f62 8)=api_Hall_62.T8:=by kernel_rfl
theorem api_Hall_62.Vd:Zv api_Hall_62.T8.2 api_Hall_62.B8=true:=by kernel_rfl
set_option maxHeartbeats 8000000 in
set_option maxRecDepth 100000 in
theorem api_Hall_62.calls (k:Nat) (A0:Option Addr) (c0:Nat) (l0:List (S56)) (I:Int) (L:Int) (X:Int) (a2:Int) (r1:Int) (r2:Bool) (w:World) (aa:Kd.C k56 w A0 l0.length l0) (a9:l0.length≤c0) (h:api_Hall_62.f k l0 I L X a2=some (r1,r2)):
  Calls Try.prog 62 #[.slice A0 l0.length c0,.agg #[.int .i64 I,.int .i64 L,.int .i64 X],.func (.func 51) #[] #[]] w fun e w'=>e = .returned (.tuple #[.int .i64 r1,.bool r2])∧Below w.heap.size w w':=by
 have ay:=Try.underlying56
 have ν :=Aside0.mk aa
 have cn:=Aside0.mk a9
 clear aa a9
 have HB:=Aside0.mk (Below.refl w.heap.size w)
 have H:(api_Hall_62.l0 k l0 (l0.length:Int) 0 (l0.length:Int) I L X)=some (r1,r2):=h
 clear h
 have H':=Aside0.mk H
 clear H
 go_enter Try.func62,Try.ntmps62
 go_wp2_with (first|((with_reducible refine Qp (N:=4) rfl ?_);refine qE 4 #[.int .i64 I,.int .i64 L,.int .i64 X] 56 ?_;intro ε hg w4 hbox hb;have Y:=Aside0.mk hbox;have bf:=sGe hg;have bg:=sGe hg;replace HB:=sHb hb;clear hb hbox hg))
 go_loopg [9,10] k (fun kq v9 ai w'=>∃ (J:Int) (B:Int),v9 = .int .i64 J∧ai = .int .i64 B∧Aside0 (api_Hall_62.l0 kq l0 (l0.length:Int) J B I L X=some (r1,r2))∧Aside0 (kq≤k)∧Aside0 (w'.heap[ε]?=some (.cells #[.int .i64 I,.int .i64 L,.int .i64 X] 56 (0,0)))∧Aside0 (Below w.heap.size w w'))
 case atStart=>exact⟨(0),((l0.length:Int)),rfl,rfl,H',⟨Nat.le_refl _⟩,Y,HB⟩
 case round=>
  clear H'
  try clear p2
  obtain⟨J,B,rfl,rfl,HA,ξ,Y,HB⟩:=hrel
  cases gk with
  |zero=>exact absurd HA.out (by simp[api_Hall_62.l0])
  |succ k1=>
   have H:=HA.out
   clear HA
   simp only[api_Hall_62.l0] at H
   by_cases c5:J<B
   ·rw[if_pos c5] at H
    have c5b0:decide (J<B)=true:=decide_eq_true c5
    clear c5
    obtain⟨D,θ⟩:∃ j_:Int,(wrap64 ((IntKind.u64.wrap (wrap64 (J+B))) / 2))=j_:=⟨_,rfl⟩
    replace H:(if 0≤(D) then (if (D)<(l0.length:Int) then ((call_halls_1.f ((Qa l0 (D)).f0) ((Qa l0 (D)).f1) ((Qa l0 (D)).f2) I L X).bind fun γ=>(if γ<0 then (api_Hall_62.l0 k1 l0 (l0.length:Int) (wrap64 ((D)+1)) B I L X) else (api_Hall_62.l0 k1 l0 (l0.length:Int) J D I L X))) else (none)) else (none))=some (r1,r2):=by first|(rw[θ] at H;exact H)|(simp only[θ] at H ⊢;exact H)
    have hji6w:(IntKind.i64.wrap ((IntKind.u64.wrap (wrap64 (J+B))) / 2))=D:=(Zg _).trans θ
    by_cases c7:0≤(D)
    ·rw[if_pos c7] at H
     have c7b0:decide (0≤(D))=true:=decide_eq_true c7
     clear c7
     by_cases c8:(D)<(l0.length:Int)
     ·rw[if_pos c8] at H
      have c8b0:decide ((D)<(l0.length:Int))=true:=decide_eq_true c8
      clear c8
      replace H:=Option.bind_eq_some_iff.mp H
      obtain⟨γ,g5,H⟩:=H
      replace H:(if γ<0 then (api_Hall_62.l0 k1 l0 (l0.length:Int) (wrap64 ((D)+1)) B I L X) else (api_Hall_62.l0 k1 l0 (l0.length:Int) J D I L X))=some (r1,r2):=H
      have A9:=Aside0.mk g5
      clear g5
      by_cases c10:γ<0
      ·rw[if_pos c10] at H
       have c10b0:decide (γ<0)=true:=decide_eq_true c10
       clear c10
       have H':=Aside0.mk H
       clear H
       try go_wp2
       replace Y:=Aside0.mk (Qb Y.out)
       replace HB:=Aside0.mk (Qe HB.out)
       have σ:0≤((D):Int):=of_decide_eq_true (by assumption)
       have τ :(D)<(l0.length:Int):=of_decide_eq_true (by assumption)
       obtain⟨ι,φ,O,U,Z⟩:=Zo ν.out (D) σ τ
       have δ :=Z
       have ζ :=U
       have η :=O
       cases φ
       replace O:=(HB.out.cell (World.block_lt_of_cell? w _ O)).trans O
       replace U:=(HB.out.cell (World.block_lt_of_cell? w _ U)).trans U
       replace Z:=(HB.out.cell (World.block_lt_of_cell? w _ Z)).trans Z
       replace σ:=eq_true σ
       replace τ :=eq_true τ
       refine Ze (n:=8) (S:=fun w'=>w'.cell? ⟨ε,0,none⟩=some (.int .i64 I)∧w'.cell? ⟨ε,1,none⟩=some (.int .i64 L)∧w'.cell? ⟨ε,2,none⟩=some (.int .i64 X)∧w'.cell? (ι.add (((D)).toNat * 3))=some (.int .i64 ((Qa l0 (D)).f0))∧w'.cell? ⟨(ι.add (((D)).toNat * 3)).block,(ι.add (((D)).toNat * 3)).off+1,none⟩=some (.int .i64 ((Qa l0 (D)).f1))∧w'.cell? ⟨(ι.add (((D)).toNat * 3)).block,(ι.add (((D)).toNat * 3)).off+2,none⟩=some (.int .i64 ((Qa l0 (D)).f2))) (ds:=[]) #[false,false,false,false,false,false,false,false] kr rfl rfl ⟨(Qi Y.out 0).trans rfl,(Qi Y.out 1).trans rfl,(Qi Y.out 2).trans rfl,((HB.out.cell (World.block_lt_of_cell? w _ η)).trans η),((HB.out.cell (World.block_lt_of_cell? w _ ζ)).trans ζ),((HB.out.cell (World.block_lt_of_cell? w _ δ)).trans δ)⟩ (fun hHeld=>?_);refine Q4 api_Hall_62.Me api_Hall_62.U4 (fun HT_ HW_=>?_)
       generalize wr.drew=dm at Y HB O U Z hHeld ⊢
       refine qP 0 (some 24) (bN 8 1) HT_ ?_
       refine qP 1 (some 25) (bN 8 3) HT_ ?_
       refine qP 2 (some 26) (bN 8 7) HT_ ?_
       refine qP 3 (some 27) (bN 8 15) HT_ ?_
       refine qT 4 (some 28) (bN 8 31) HT_ HW_ hHeld ?_
       refine qT 5 (some 29) (bN 8 63) HT_ HW_ hHeld ?_
       refine Zi (i:=6) (N:=some 30) (bN 8 127) rfl rfl (Q0 HT_.out kr) (by decide) (fun K hK=>?_)
       refine Xu Try.func51 kr rfl #[] #[] #[.agg #[.int .i64 ((Qa l0 (D)).f0),.int .i64 ((Qa l0 (D)).f1),.int .i64 ((Qa l0 (D)).f2)],.agg #[.int .i64 I,.int .i64 L,.int .i64 X]] #[.agg #[.int .i64 ((Qa l0 (D)).f0),.int .i64 ((Qa l0 (D)).f1),.int .i64 ((Qa l0 (D)).f2)],.agg #[.int .i64 I,.int .i64 L,.int .i64 X]] rfl (by rfl) rfl rfl rfl (by(try simp only[List.map_toArray,List.map_cons,List.map_nil]);first|done|(simp only[θ];rfl)|rfl|(simp only[List.length_drop,List.length_take];rfl)) ?_
       with_reducible refine(call_halls_1.calls ((Qa l0 (D)).f0) ((Qa l0 (D)).f1) ((Qa l0 (D)).f2) I L X γ _ A9.out).mono ?_
       rintro e d2 ⟨rfl,hb⟩
       refine⟨_,rfl, ?_⟩
       replace Y:=sBk Y hb
       replace HB:=sHb hb
       (try clear hb)
       (try clear a0)
       (try clear hk)
       (try clear hi)
       refine hK.out _ _ ⟨qc Y,qc Y,qc Y,((HB.out.cell (World.block_lt_of_cell? w _ η)).trans η),((HB.out.cell (World.block_lt_of_cell? w _ ζ)).trans ζ),((HB.out.cell (World.block_lt_of_cell? w _ δ)).trans δ)⟩ (fun hHeld=>?_)
       clear hK K
       refine qN (some 30) ?_
       refine qP 7 (some 31) (bN 8 255) HT_ ?_
       refine Zq (Zd HT_.out kr) ?_
       try go_wp2
       go_roundg k1
       case measure=>have:= ξ.out;omega
       case rel=>exact⟨(wrap64 ((D)+1)),(B),(by first|rfl|(simp;done)|(simp only[← θ] <;> (first|rfl|simp))|(simp[*];done)),rfl,H',⟨by have:= ξ.out;omega⟩,Y,HB⟩
      ·rw[if_neg c10] at H
       have c10b0:decide (γ<0)=false:=decide_eq_false c10
       clear c10
       have H':=Aside0.mk H
       clear H
       try go_wp2
       replace Y:=Aside0.mk (Qb Y.out)
       replace HB:=Aside0.mk (Qe HB.out)
       have σ:0≤((D):Int):=of_decide_eq_true (by assumption)
       have τ :(D)<(l0.length:Int):=of_decide_eq_true (by assumption)
       obtain⟨ι,φ,O,U,Z⟩:=Zo ν.out (D) σ τ
       have δ :=Z
       have ζ :=U
       have η :=O
       cases φ
       replace O:=(HB.out.cell (World.block_lt_of_cell? w _ O)).trans O
       replace U:=(HB.out.cell (World.block_lt_of_cell? w _ U)).trans U
       replace Z:=(HB.out.cell (World.block_lt_of_cell? w _ Z)).trans Z
       replace σ:=eq_true σ
       replace τ :=eq_true τ
       refine Ze (n:=8) (S:=fun w'=>w'.cell? ⟨ε,0,none⟩=some (.int .i64 I)∧w'.cell? ⟨ε,1,none⟩=some (.int .i64 L)∧w'.cell? ⟨ε,2,none⟩=some (.int .i64 X)∧w'.cell? (ι.add (((D)).toNat * 3))=some (.int .i64 ((Qa l0 (D)).f0))∧w'.cell? ⟨(ι.add (((D)).toNat * 3)).block,(ι.add (((D)).toNat * 3)).off+1,none⟩=some (.int .i64 ((Qa l0 (D)).f1))∧w'.cell? ⟨(ι.add (((D)).toNat * 3)).block,(ι.add (((D)).toNat * 3)).off+2,none⟩=some (.int .i64 ((Qa l0 (D)).f2))) (ds:=[]) #[false,false,false,false,false,false,false,false] kr rfl rfl ⟨(Qi Y.out 0).trans rfl,(Qi Y.out 1).trans rfl,(Qi Y.out 2).trans rfl,((HB.out.cell (World.block_lt_of_cell? w _ η)).trans η),((HB.out.cell (World.block_lt_of_cell? w _ ζ)).trans ζ),((HB.out.cell (World.block_lt_of_cell? w _ δ)).trans δ)⟩ (fun hHeld=>?_);refine Q4 api_Hall_62.Me api_Hall_62.U4 (fun HT_ HW_=>?_)
       generalize wr.drew=eb at Y HB O U Z hHeld ⊢
       refine qP 0 (some 24) (bN 8 1) HT_ ?_
       refine qP 1 (some 25) (bN 8 3) HT_ ?_
       refine qP 2 (some 26) (bN 8 7) HT_ ?_
       refine qP 3 (some 27) (bN 8 15) HT_ ?_
       refine qT 4 (some 28) (bN 8 31) HT_ HW_ hHeld ?_
       refine qT 5 (some 29) (bN 8 63) HT_ HW_ hHeld ?_
       refine Zi (i:=6) (N:=some 30) (bN 8 127) rfl rfl (Q0 HT_.out kr) (by decide) (fun K hK=>?_)
       refine Xu Try.func51 kr rfl #[] #[] #[.agg #[.int .i64 ((Qa l0 (D)).f0),.int .i64 ((Qa l0 (D)).f1),.int .i64 ((Qa l0 (D)).f2)],.agg #[.int .i64 I,.int .i64 L,.int .i64 X]] #[.agg #[.int .i64 ((Qa l0 (D)).f0),.int .i64 ((Qa l0 (D)).f1),.int .i64 ((Qa l0 (D)).f2)],.agg #[.int .i64 I,.int .i64 L,.int .i64 X]] rfl (by rfl) rfl rfl rfl (by(try simp only[List.map_toArray,List.map_cons,List.map_nil]);first|done|(simp only[θ];rfl)|rfl|(simp only[List.length_drop,List.length_take];rfl)) ?_
       with_reducible refine(call_halls_1.calls ((Qa l0 (D)).f0) ((Qa l0 (D)).f1) ((Qa l0 (D)).f2) I L X γ _ A9.out).mono ?_
       rintro e bb ⟨rfl,hb⟩
       refine⟨_,rfl, ?_⟩
       replace Y:=sBk Y hb
       replace HB:=sHb hb
       (try clear hb)
       (try clear a0)
       (try clear hk)
       (try clear hi)
       refine hK.out _ _ ⟨qc Y,qc Y,qc Y,((HB.out.cell (World.block_lt_of_cell? w _ η)).trans η),((HB.out.cell (World.block_lt_of_cell? w _ ζ)).trans ζ),((HB.out.cell (World.block_lt_of_cell? w _ δ)).trans δ)⟩ (fun hHeld=>?_)
       clear hK K
       refine qN (some 30) ?_
       refine qP 7 (some 31) (bN 8 255) HT_ ?_
       refine Zq (Zd HT_.out kr) ?_
       try go_wp2
       go_roundg k1
       case measure=>have:= ξ.out;omega
       case rel=>exact⟨(J),(D),rfl,(by first|rfl|(simp;done)|(simp only[← θ] <;> (first|rfl|simp))|(simp[*];done)),H',⟨by have:= ξ.out;omega⟩,Y,HB⟩
     ·rw[if_neg c8] at H
      exact absurd H (by simp)
    ·rw[if_neg c7] at H
     exact absurd H (by simp)
   ·rw[if_neg c5] at H
    have c5b0:decide (J<B)=false:=decide_eq_false c5
    clear c5
    by_cases a4:J<(l0.length:Int)
    ·rw[if_pos a4] at H
     have c15b0:decide (J<(l0.length:Int))=true:=decide_eq_true a4
     clear a4
     by_cases an:0≤J
     ·rw[if_pos an] at H
      have c16b0:decide (0≤J)=true:=decide_eq_true an
      clear an
      by_cases a5:J<(l0.length:Int)
      ·rw[if_pos a5] at H
       have c17b0:decide (J<(l0.length:Int))=true:=decide_eq_true a5
       clear a5
       replace H:=Option.bind_eq_some_iff.mp H
       obtain⟨a7,bw,H⟩:=H
       replace H:(some (J,(a7==0)))=some (r1,r2):=H
       have e5:=Aside0.mk bw
       clear bw
       simp only[Option.some.injEq,Prod.mk.injEq] at H
       obtain⟨rfl,rfl⟩:=H
       try go_wp2
       replace Y:=Aside0.mk (Qb Y.out)
       replace HB:=Aside0.mk (Qe HB.out)
       have ah:0≤(J:Int):=of_decide_eq_true (by assumption)
       have ak:J<(l0.length:Int):=of_decide_eq_true (by assumption)
       obtain⟨b3,dh,χ,ψ,a1⟩:=Zo ν.out J ah ak
       have κ :=a1
       have μ := ψ
       have ρ:= χ
       cases dh
       replace χ :=(HB.out.cell (World.block_lt_of_cell? w _ χ)).trans χ
       replace ψ :=(HB.out.cell (World.block_lt_of_cell? w _ ψ)).trans ψ
       replace a1:=(HB.out.cell (World.block_lt_of_cell? w _ a1)).trans a1
       replace ah:=eq_true ah
       replace ak:=eq_true ak
       refine Ze (n:=16) (S:=fun w'=>w'.cell? ⟨ε,0,none⟩=some (.int .i64 I)∧w'.cell? ⟨ε,1,none⟩=some (.int .i64 L)∧w'.cell? ⟨ε,2,none⟩=some (.int .i64 X)∧w'.cell? (b3.add ((J).toNat * 3))=some (.int .i64 ((Qa l0 J).f0))∧w'.cell? ⟨(b3.add ((J).toNat * 3)).block,(b3.add ((J).toNat * 3)).off+1,none⟩=some (.int .i64 ((Qa l0 J).f1))∧w'.cell? ⟨(b3.add ((J).toNat * 3)).block,(b3.add ((J).toNat * 3)).off+2,none⟩=some (.int .i64 ((Qa l0 J).f2))) (ds:=[]) #[false,false,false,false,false,false,false,false,false,false,false,false,false,false,false,false] kr rfl rfl ⟨(Qi Y.out 0).trans rfl,(Qi Y.out 1).trans rfl,(Qi Y.out 2).trans rfl,((HB.out.cell (World.block_lt_of_cell? w _ ρ)).trans ρ),((HB.out.cell (World.block_lt_of_cell? w _ μ)).trans μ),((HB.out.cell (World.block_lt_of_cell? w _ κ)).trans κ)⟩ (fun hHeld=>?_);refine Q4 api_Hall_62.U8 api_Hall_62.Vd (fun HT_ HW_=>?_)
       generalize wr.drew=dw at Y HB χ ψ a1 hHeld ⊢
       refine qP 0 (some 35) (bN 16 1) HT_ ?_
       refine qP 1 (some 36) (bN 16 3) HT_ ?_
       refine qP 2 (some 37) (bN 16 7) HT_ ?_
       refine qP 3 (some 38) (bN 16 15) HT_ ?_
       refine qP 4 (some 39) (bN 16 31) HT_ ?_
       refine qP 5 (some 40) (bN 16 63) HT_ ?_
       refine qP 6 (some 41) (bN 16 127) HT_ ?_
       refine qP 7 (some 42) (bN 16 255) HT_ ?_
       refine qP 8 (some 43) (bN 16 511) HT_ ?_
       refine qT 9 (some 44) (bN 16 1023) HT_ HW_ hHeld ?_
       refine qT 10 (some 45) (bN 16 2047) HT_ HW_ hHeld ?_
       refine Zi (i:=11) (N:=some 46) (bN 16 4095) rfl rfl (Q0 HT_.out kr) (by decide) (fun K hK=>?_)
       refine Xu Try.func51 kr rfl #[] #[] #[.agg #[.int .i64 ((Qa l0 J).f0),.int .i64 ((Qa l0 J).f1),.int .i64 ((Qa l0 J).f2)],.agg #[.int .i64 I,.int .i64 L,.int .i64 X]] #[.agg #[.int .i64 ((Qa l0 J).f0),.int .i64 ((Qa l0 J).f1),.int .i64 ((Qa l0 J).f2)],.agg #[.int .i64 I,.int .i64 L,.int .i64 X]] rfl (by rfl) rfl rfl rfl qM ?_
       with_reducible refine(call_halls_1.calls ((Qa l0 J).f0) ((Qa l0 J).f1) ((Qa l0 J).f2) I L X a7 _ e5.out).mono ?_
       rintro e d0 ⟨rfl,hb⟩
       refine⟨_,rfl, ?_⟩
       replace Y:=sBk Y hb
       replace HB:=sHb hb
       (try clear hb)
       (try clear a0)
       (try clear hk)
       (try clear hi)
       refine hK.out _ _ ⟨qc Y,qc Y,qc Y,((HB.out.cell (World.block_lt_of_cell? w _ ρ)).trans ρ),((HB.out.cell (World.block_lt_of_cell? w _ μ)).trans μ),((HB.out.cell (World.block_lt_of_cell? w _ κ)).trans κ)⟩ (fun hHeld=>?_)
       clear hK K
       refine qN (some 46) ?_
       refine qP 12 (some 47) (bN 16 8191) HT_ ?_
       refine qP 13 (some 48) (bN 16 16383) HT_ ?_
       refine qP 14 (some 6) (bN 16 32767) HT_ ?_
       refine qP 15 (some 7) (bN 16 65535) HT_ ?_
       refine Zq (Zd HT_.out kr) ?_
       try go_wp2
       go_ret2
       exact⟨rfl,HB.out⟩
      ·rw[if_neg a5] at H
       exact absurd H (by simp)
     ·rw[if_neg an] at H
      exact absurd H (by simp)
    ·rw[if_neg a4] at H
     have c15b0:decide (J<(l0.length:Int))=false:=decide_eq_false a4
     clear a4
     simp only[Option.some.injEq,Prod.mk.injEq] at H
     obtain⟨rfl,rfl⟩:=H
     try go_wp2
     replace Y:=Aside0.mk (Qb Y.out)
     replace HB:=Aside0.mk (Qe HB.out)
     refine Ze (n:=16) (S:=fun w'=>True) (ds:=[]) #[false,false,false,false,false,false,false,false,false,false,false,false,false,false,false,false] kr rfl rfl trivial (fun hHeld=>?_);refine Q4 api_Hall_62.U8 api_Hall_62.Vd (fun HT_ HW_=>?_)
     generalize wr.drew=bp at Y HB hHeld ⊢
     refine qP 0 (some 35) (bN 16 1) HT_ ?_
     refine qP 1 (some 36) (bN 16 3) HT_ ?_
     refine qP 2 (some 37) (bN 16 7) HT_ ?_
     refine qP 3 (some 38) (bN 16 15) HT_ ?_
     refine qP 4 (some 39) (bN 16 31) HT_ ?_
     refine qU 5 (some 40) (bN 16 63) HT_ ?_
     refine qU 6 (some 41) (bN 16 127) HT_ ?_
     refine qU 7 (some 42) (bN 16 255) HT_ ?_
     refine qU 8 (some 43) (bN 16 511) HT_ ?_
     refine qU 9 (some 44) (bN 16 1023) HT_ ?_
     refine qU 10 (some 45) (bN 16 2047) HT_ ?_
     refine qU 11 (some 46) (bN 16 4095) HT_ ?_
     refine qU 12 (some 47) (bN 16 8191) HT_ ?_
     refine qP 13 (some 48) (bN 16 16383) HT_ ?_
     refine qP 14 (some 6) (bN 16 32767) HT_ ?_
     refine qP 15 (some 7) (bN 16 65535) HT_ ?_
     refine Zq (Zd HT_.out kr) ?_
     try go_wp2
     go_ret2
     exact⟨rfl,HB.out⟩
def api_Inside_58.l0:Nat→List (S62)→Int→Int→Int→Int→Int→Option (Int×Bool)
 |0,_,_,_,_,_,_=>none
 |k+1,D,O,I,B,J,L=>if I<B then (if 0≤(wrap64 ((IntKind.u64.wrap (wrap64 (I+B))) / 2)) then (if (wrap64 ((IntKind.u64.wrap (wrap64 (I+B))) / 2))<(D.length:Int) then ((call_ins_1.f ((Qk D (wrap64 ((IntKind.u64.wrap (wrap64 (I+B))) / 2))).f0) ((Qk D (wrap64 ((IntKind.u64.wrap (wrap64 (I+B))) / 2))).f1) J L).bind fun τ =>(if τ < 0 then (api_Inside_58.l0 k D O (wrap64 ((wrap64 ((IntKind.u64.wrap (wrap64 (I+B))) / 2))+1)) B J L) else (api_Inside_58.l0 k D O I (wrap64 ((IntKind.u64.wrap (wrap64 (I+B))) / 2)) J L))) else (none)) else (none)) else (if I<O then (if 0≤I then (if I<(D.length:Int) then ((call_ins_1.f ((Qk D I).f0) ((Qk D I).f1) J L).bind fun μ =>(some (I,(μ == 0)))) else (none)) else (none)) else (some (I,false)))
def api_Inside_58.f (k:Nat) (l0:List (S62)) (I:Int) (L:Int) (a2:Int):Option (Int×Bool):=api_Inside_58.l0 k l0 (l0.length:Int) 0 (l0.length:Int) I L
theorem api_Inside_58.Zn:∀ k,(∀ I L U D J X,LeO (api_Inside_58.l0 k I L U D J X) (api_Inside_58.l0 (k+1) I L U D J X))
 |0=>fun _ _ _ _ _ _ r h=>by simp[api_Inside_58.l0] at h
 |k+1=>by
  have B:=api_Inside_58.Zn k
  ·intro I L U D J X
   unfold api_Inside_58.l0
   repeat' first
   |(with_reducible exact B _ _ _ _ _ _)
   |(with_reducible exact LeO.refl _)
   |(with_reducible exact LeO.none _)
   |(with_reducible refine LeO.ite ?_ ?_)
   |(with_reducible refine LeO.bind ?_ (fun _=>?_))
   |exact B _ _ _ _ _ _
   |exact LeO.none _
   |refine LeO.ite ?_ ?_
   |refine LeO.bind ?_ (fun _=>?_)
theorem api_Inside_58.mono:∀ D L a2 X k,LeO (api_Inside_58.f k D L a2 X) (api_Inside_58.f (k+1) D L a2 X):=by
 intro D L a2 X k
 have B:=api_Inside_58.Zn k
 unfold api_Inside_58.f
 repeat' first
   |(with_reducible exact B _ _ _ _ _ _)
   |(with_reducible exact LeO.refl _)
   |(with_reducible exact LeO.none _)
   |(with_reducible refine LeO.ite ?_ ?_)
   |(with_reducible refine LeO.bind ?_ (fun _=>?_))
   |exact B _ _ _ _ _ _
   |exact LeO.none _
   |refine LeO.ite ?_ ?_
   |refine LeO.bind ?_ (fun _=>?_)
def api_Inside_58.T5:Bool×List (List Nat×List Nat):=(true,[([],[]),([],[]),([],[]),([1,2],[1,2]),([3],[3]),([],[]),([0,4,5],[0,4,5]),([6],[6])])
def api_Inside_58.B5:List Nat:=[0,0,0,6,14,0,63,127]
theorem api_Inside_58.Me:rtab .any (opsOf Try.f58 5)=api_Inside_58.T5:=by kernel_rfl
theorem api_Inside_58.U4:Zv api_Inside_58.T5.2 api_Inside_58.B5=true:=by kernel_rfl
def api_Inside_58.T8:Bool×List (List Nat×List Nat):=(true,[([],[]),([],[]),([],[]),([1,2],[1,2]),([3],[3]),([4],[4]),([4],[4]),([4],[4]),([6,7,4],[4,6,7]),([8,4],[4,8]),([4],[4]),([5,9,10,4,4],[4,5,9,10]),([11,4],[4,11]),([4,12],[4,12]),([0,11,0],[0]),([13,14,0,1,2,3,4,5,6,7,8,9,10,11,12,13,14],[13])])
def api_Inside_58.B8:List Nat:=[0,0,0,6,14,30,30,30,222,478,30,2046,4094,8190,4095,32767]
theorem api_Inside_58.U8:rtab .any (opsOf Try.f58 8)=api_Inside_58.T8:=by kernel_rfl
theorem api_Inside_58.Vd:Zv api_Inside_58.T8.2 api_Inside_58.B8=true:=by kernel_rfl
set_option maxHeartbeats 8000000 in
set_option maxRecDepth 100000 in
theorem api_Inside_58.calls (k:Nat) (A0:Option Addr) (c0:Nat) (l0:List (S62)) (I:Int) (L:Int) (a2:Int) (r1:Int) (r2:Bool) (w:World) (aa:Kd.C k62 w A0 l0.length l0) (a9:l0.length≤c0) (h:api_Inside_58.f k l0 I L a2=some (r1,r2)):
  Calls Try.prog 58 #[.slice A0 l0.length c0,.agg #[.int .i64 I,.int .i64 L],.func (.func 57) #[] #[]] w fun e w'=>e = .returned (.tuple #[.int .i64 r1,.bool r2])∧Below w.heap.size w w':=by
 have b8:=Try.underlying62
 have ν :=Aside0.mk aa
 have cn:=Aside0.mk a9
 clear aa a9
 have HB:=Aside0.mk (Below.refl w.heap.size w)
 have H:(api_Inside_58.l0 k l0 (l0.length:Int) 0 (l0.length:Int) I L)=some (r1,r2):=h
 clear h
 have H':=Aside0.mk H
 clear H
 go_enter Try.func58,Try.ntmps58
 go_wp2_with (first|((with_reducible refine Qp (N:=4) rfl ?_);refine qE 4 #[.int .i64 I,.int .i64 L] 62 ?_;intro a1 hg w4 hbox hb;have X:=Aside0.mk hbox;have bn:=sGe hg;have cd:=sGe hg;replace HB:=sHb hb;clear hb hbox hg))
 go_loopg [9,10] k (fun kq v9 ai w'=>∃ (J:Int) (B:Int),v9 = .int .i64 J∧ai = .int .i64 B∧Aside0 (api_Inside_58.l0 kq l0 (l0.length:Int) J B I L=some (r1,r2))∧Aside0 (kq≤k)∧Aside0 (w'.heap[a1]?=some (.cells #[.int .i64 I,.int .i64 L] 62 (0,0)))∧Aside0 (Below w.heap.size w w'))
 case atStart=>exact⟨(0),((l0.length:Int)),rfl,rfl,H',⟨Nat.le_refl _⟩,X,HB⟩
 case round=>
  clear H'
  try clear p2
  obtain⟨J,B,rfl,rfl,HA,ξ,X,HB⟩:=hrel
  cases gk with
  |zero=>exact absurd HA.out (by simp[api_Inside_58.l0])
  |succ k1=>
   have H:=HA.out
   clear HA
   simp only[api_Inside_58.l0] at H
   by_cases c5:J<B
   ·rw[if_pos c5] at H
    have c5b0:decide (J<B)=true:=decide_eq_true c5
    clear c5
    obtain⟨D,θ⟩:∃ j_:Int,(wrap64 ((IntKind.u64.wrap (wrap64 (J+B))) / 2))=j_:=⟨_,rfl⟩
    replace H:(if 0≤(D) then (if (D)<(l0.length:Int) then ((call_ins_1.f ((Qk l0 (D)).f0) ((Qk l0 (D)).f1) I L).bind fun τ =>(if τ < 0 then (api_Inside_58.l0 k1 l0 (l0.length:Int) (wrap64 ((D)+1)) B I L) else (api_Inside_58.l0 k1 l0 (l0.length:Int) J D I L))) else (none)) else (none))=some (r1,r2):=by first|(rw[θ] at H;exact H)|(simp only[θ] at H ⊢;exact H)
    have hji6w:(IntKind.i64.wrap ((IntKind.u64.wrap (wrap64 (J+B))) / 2))=D:=(Zg _).trans θ
    by_cases c7:0≤(D)
    ·rw[if_pos c7] at H
     have c7b0:decide (0≤(D))=true:=decide_eq_true c7
     clear c7
     by_cases c8:(D)<(l0.length:Int)
     ·rw[if_pos c8] at H
      have c8b0:decide ((D)<(l0.length:Int))=true:=decide_eq_true c8
      clear c8
      replace H:=Option.bind_eq_some_iff.mp H
      obtain⟨τ,g5,H⟩:=H
      replace H:(if τ < 0 then (api_Inside_58.l0 k1 l0 (l0.length:Int) (wrap64 ((D)+1)) B I L) else (api_Inside_58.l0 k1 l0 (l0.length:Int) J D I L))=some (r1,r2):=H
      have A9:=Aside0.mk g5
      clear g5
      by_cases c10: τ < 0
      ·rw[if_pos c10] at H
       have c10b0:decide (τ < 0)=true:=decide_eq_true c10
       clear c10
       have H':=Aside0.mk H
       clear H
       try go_wp2
       replace X:=Aside0.mk (Qb X.out)
       replace HB:=Aside0.mk (Qe HB.out)
       have ι :0≤((D):Int):=of_decide_eq_true (by assumption)
       have κ :(D)<(l0.length:Int):=of_decide_eq_true (by assumption)
       obtain⟨ε,σ,O,U⟩:=Zu ν.out (D) ι κ
       have Y:=U
       have Z:=O
       cases σ
       replace O:=(HB.out.cell (World.block_lt_of_cell? w _ O)).trans O
       replace U:=(HB.out.cell (World.block_lt_of_cell? w _ U)).trans U
       replace ι :=eq_true ι
       replace κ :=eq_true κ
       refine Ze (n:=8) (S:=fun w'=>w'.cell? ⟨a1,0,none⟩=some (.int .i64 I)∧w'.cell? ⟨a1,1,none⟩=some (.int .i64 L)∧w'.cell? (ε.add (((D)).toNat * 2))=some (.int .i64 ((Qk l0 (D)).f0))∧w'.cell? ⟨(ε.add (((D)).toNat * 2)).block,(ε.add (((D)).toNat * 2)).off+1,none⟩=some (.int .i64 ((Qk l0 (D)).f1))) (ds:=[]) #[false,false,false,false,false,false,false,false] kr rfl rfl ⟨(Qi X.out 0).trans rfl,(Qi X.out 1).trans rfl,((HB.out.cell (World.block_lt_of_cell? w _ Z)).trans Z),((HB.out.cell (World.block_lt_of_cell? w _ Y)).trans Y)⟩ (fun hHeld=>?_);refine Q4 api_Inside_58.Me api_Inside_58.U4 (fun HT_ HW_=>?_)
       generalize wr.drew=dm at X HB O U hHeld ⊢
       refine qP 0 (some 24) (bN 8 1) HT_ ?_
       refine qP 1 (some 25) (bN 8 3) HT_ ?_
       refine qP 2 (some 26) (bN 8 7) HT_ ?_
       refine qP 3 (some 27) (bN 8 15) HT_ ?_
       refine qT 4 (some 28) (bN 8 31) HT_ HW_ hHeld ?_
       refine qT 5 (some 29) (bN 8 63) HT_ HW_ hHeld ?_
       refine Zi (i:=6) (N:=some 30) (bN 8 127) rfl rfl (Q0 HT_.out kr) (by decide) (fun K hK=>?_)
       refine Xu Try.func57 kr rfl #[] #[] #[.agg #[.int .i64 ((Qk l0 (D)).f0),.int .i64 ((Qk l0 (D)).f1)],.agg #[.int .i64 I,.int .i64 L]] #[.agg #[.int .i64 ((Qk l0 (D)).f0),.int .i64 ((Qk l0 (D)).f1)],.agg #[.int .i64 I,.int .i64 L]] rfl (by rfl) rfl rfl rfl (by(try simp only[List.map_toArray,List.map_cons,List.map_nil]);first|done|(simp only[θ];rfl)|rfl|(simp only[List.length_drop,List.length_take];rfl)) ?_
       with_reducible refine(call_ins_1.calls ((Qk l0 (D)).f0) ((Qk l0 (D)).f1) I L τ _ A9.out).mono ?_
       rintro e d2 ⟨rfl,hb⟩
       refine⟨_,rfl, ?_⟩
       replace X:=sBk X hb
       replace HB:=sHb hb
       (try clear hb)
       (try clear a0)
       (try clear hk)
       (try clear hi)
       refine hK.out _ _ ⟨qc X,qc X,((HB.out.cell (World.block_lt_of_cell? w _ Z)).trans Z),((HB.out.cell (World.block_lt_of_cell? w _ Y)).trans Y)⟩ (fun hHeld=>?_)
       clear hK K
       refine qN (some 30) ?_
       refine qP 7 (some 31) (bN 8 255) HT_ ?_
       refine Zq (Zd HT_.out kr) ?_
       try go_wp2
       go_roundg k1
       case measure=>have:= ξ.out;omega
       case rel=>exact⟨(wrap64 ((D)+1)),(B),(by first|rfl|(simp;done)|(simp only[← θ] <;> (first|rfl|simp))|(simp[*];done)),rfl,H',⟨by have:= ξ.out;omega⟩,X,HB⟩
      ·rw[if_neg c10] at H
       have c10b0:decide (τ < 0)=false:=decide_eq_false c10
       clear c10
       have H':=Aside0.mk H
       clear H
       try go_wp2
       replace X:=Aside0.mk (Qb X.out)
       replace HB:=Aside0.mk (Qe HB.out)
       have ι :0≤((D):Int):=of_decide_eq_true (by assumption)
       have κ :(D)<(l0.length:Int):=of_decide_eq_true (by assumption)
       obtain⟨ε,σ,O,U⟩:=Zu ν.out (D) ι κ
       have Y:=U
       have Z:=O
       cases σ
       replace O:=(HB.out.cell (World.block_lt_of_cell? w _ O)).trans O
       replace U:=(HB.out.cell (World.block_lt_of_cell? w _ U)).trans U
       replace ι :=eq_true ι
       replace κ :=eq_true κ
       refine Ze (n:=8) (S:=fun w'=>w'.cell? ⟨a1,0,none⟩=some (.int .i64 I)∧w'.cell? ⟨a1,1,none⟩=some (.int .i64 L)∧w'.cell? (ε.add (((D)).toNat * 2))=some (.int .i64 ((Qk l0 (D)).f0))∧w'.cell? ⟨(ε.add (((D)).toNat * 2)).block,(ε.add (((D)).toNat * 2)).off+1,none⟩=some (.int .i64 ((Qk l0 (D)).f1))) (ds:=[]) #[false,false,false,false,false,false,false,false] kr rfl rfl ⟨(Qi X.out 0).trans rfl,(Qi X.out 1).trans rfl,((HB.out.cell (World.block_lt_of_cell? w _ Z)).trans Z),((HB.out.cell (World.block_lt_of_cell? w _ Y)).trans Y)⟩ (fun hHeld=>?_);refine Q4 api_Inside_58.Me api_Inside_58.U4 (fun HT_ HW_=>?_)
       generalize wr.drew=eb at X HB O U hHeld ⊢
       refine qP 0 (some 24) (bN 8 1) HT_ ?_
       refine qP 1 (some 25) (bN 8 3) HT_ ?_
       refine qP 2 (some 26) (bN 8 7) HT_ ?_
       refine qP 3 (some 27) (bN 8 15) HT_ ?_
       refine qT 4 (some 28) (bN 8 31) HT_ HW_ hHeld ?_
       refine qT 5 (some 29) (bN 8 63) HT_ HW_ hHeld ?_
       refine Zi (i:=6) (N:=some 30) (bN 8 127) rfl rfl (Q0 HT_.out kr) (by decide) (fun K hK=>?_)
       refine Xu Try.func57 kr rfl #[] #[] #[.agg #[.int .i64 ((Qk l0 (D)).f0),.int .i64 ((Qk l0 (D)).f1)],.agg #[.int .i64 I,.int .i64 L]] #[.agg #[.int .i64 ((Qk l0 (D)).f0),.int .i64 ((Qk l0 (D)).f1)],.agg #[.int .i64 I,.int .i64 L]] rfl (by rfl) rfl rfl rfl (by(try simp only[List.map_toArray,List.map_cons,List.map_nil]);first|done|(simp only[θ];rfl)|rfl|(simp only[List.length_drop,List.length_take];rfl)) ?_
       with_reducible refine(call_ins_1.calls ((Qk l0 (D)).f0) ((Qk l0 (D)).f1) I L τ _ A9.out).mono ?_
       rintro e bb ⟨rfl,hb⟩
       refine⟨_,rfl, ?_⟩
       replace X:=sBk X hb
       replace HB:=sHb hb
       (try clear hb)
       (try clear a0)
       (try clear hk)
       (try clear hi)
       refine hK.out _ _ ⟨qc X,qc X,((HB.out.cell (World.block_lt_of_cell? w _ Z)).trans Z),((HB.out.cell (World.block_lt_of_cell? w _ Y)).trans Y)⟩ (fun hHeld=>?_)
       clear hK K
       refine qN (some 30) ?_
       refine qP 7 (some 31) (bN 8 255) HT_ ?_
       refine Zq (Zd HT_.out kr) ?_
       try go_wp2
       go_roundg k1
       case measure=>have:= ξ.out;omega
       case rel=>exact⟨(J),(D),rfl,(by first|rfl|(simp;done)|(simp only[← θ] <;> (first|rfl|simp))|(simp[*];done)),H',⟨by have:= ξ.out;omega⟩,X,HB⟩
     ·rw[if_neg c8] at H
      exact absurd H (by simp)
    ·rw[if_neg c7] at H
     exact absurd H (by simp)
   ·rw[if_neg c5] at H
    have c5b0:decide (J<B)=false:=decide_eq_false c5
    clear c5
    by_cases a4:J<(l0.length:Int)
    ·rw[if_pos a4] at H
     have c15b0:decide (J<(l0.length:Int))=true:=decide_eq_true a4
     clear a4
     by_cases an:0≤J
     ·rw[if_pos an] at H
      have c16b0:decide (0≤J)=true:=decide_eq_true an
      clear an
      by_cases a5:J<(l0.length:Int)
      ·rw[if_pos a5] at H
       have c17b0:decide (J<(l0.length:Int))=true:=decide_eq_true a5
       clear a5
       replace H:=Option.bind_eq_some_iff.mp H
       obtain⟨μ,bw,H⟩:=H
       replace H:(some (J,(μ == 0)))=some (r1,r2):=H
       have e5:=Aside0.mk bw
       clear bw
       simp only[Option.some.injEq,Prod.mk.injEq] at H
       obtain⟨rfl,rfl⟩:=H
       try go_wp2
       replace X:=Aside0.mk (Qb X.out)
       replace HB:=Aside0.mk (Qe HB.out)
       have φ :0≤(J:Int):=of_decide_eq_true (by assumption)
       have χ :J<(l0.length:Int):=of_decide_eq_true (by assumption)
       obtain⟨ρ,ψ,γ,δ⟩:=Zu ν.out J φ χ
       have ζ := δ
       have η :=γ
       cases ψ
       replace γ:=(HB.out.cell (World.block_lt_of_cell? w _ γ)).trans γ
       replace δ :=(HB.out.cell (World.block_lt_of_cell? w _ δ)).trans δ
       replace φ :=eq_true φ
       replace χ :=eq_true χ
       refine Ze (n:=16) (S:=fun w'=>w'.cell? ⟨a1,0,none⟩=some (.int .i64 I)∧w'.cell? ⟨a1,1,none⟩=some (.int .i64 L)∧w'.cell? (ρ.add ((J).toNat * 2))=some (.int .i64 ((Qk l0 J).f0))∧w'.cell? ⟨(ρ.add ((J).toNat * 2)).block,(ρ.add ((J).toNat * 2)).off+1,none⟩=some (.int .i64 ((Qk l0 J).f1))) (ds:=[]) #[false,false,false,false,false,false,false,false,false,false,false,false,false,false,false,false] kr rfl rfl ⟨(Qi X.out 0).trans rfl,(Qi X.out 1).trans rfl,((HB.out.cell (World.block_lt_of_cell? w _ η)).trans η),((HB.out.cell (World.block_lt_of_cell? w _ ζ)).trans ζ)⟩ (fun hHeld=>?_);refine Q4 api_Inside_58.U8 api_Inside_58.Vd (fun HT_ HW_=>?_)
       generalize wr.drew=dw at X HB γ δ hHeld ⊢
       refine qP 0 (some 35) (bN 16 1) HT_ ?_
       refine qP 1 (some 36) (bN 16 3) HT_ ?_
       refine qP 2 (some 37) (bN 16 7) HT_ ?_
       refine qP 3 (some 38) (bN 16 15) HT_ ?_
       refine qP 4 (some 39) (bN 16 31) HT_ ?_
       refine qP 5 (some 40) (bN 16 63) HT_ ?_
       refine qP 6 (some 41) (bN 16 127) HT_ ?_
       refine qP 7 (some 42) (bN 16 255) HT_ ?_
       refine qP 8 (some 43) (bN 16 511) HT_ ?_
       refine qT 9 (some 44) (bN 16 1023) HT_ HW_ hHeld ?_
       refine qT 10 (some 45) (bN 16 2047) HT_ HW_ hHeld ?_
       refine Zi (i:=11) (N:=some 46) (bN 16 4095) rfl rfl (Q0 HT_.out kr) (by decide) (fun K hK=>?_)
       refine Xu Try.func57 kr rfl #[] #[] #[.agg #[.int .i64 ((Qk l0 J).f0),.int .i64 ((Qk l0 J).f1)],.agg #[.int .i64 I,.int .i64 L]] #[.agg #[.int .i64 ((Qk l0 J).f0),.int .i64 ((Qk l0 J).f1)],.agg #[.int .i64 I,.int .i64 L]] rfl (by rfl) rfl rfl rfl qM ?_
       with_reducible refine(call_ins_1.calls ((Qk l0 J).f0) ((Qk l0 J).f1) I L μ _ e5.out).mono ?_
       rintro e d0 ⟨rfl,hb⟩
       refine⟨_,rfl, ?_⟩
       replace X:=sBk X hb
       replace HB:=sHb hb
       (try clear hb)
       (try clear a0)
       (try clear hk)
       (try clear hi)
       refine hK.out _ _ ⟨qc X,qc X,((HB.out.cell (World.block_lt_of_cell? w _ η)).trans η),((HB.out.cell (World.block_lt_of_cell? w _ ζ)).trans ζ)⟩ (fun hHeld=>?_)
       clear hK K
       refine qN (some 46) ?_
       refine qP 12 (some 47) (bN 16 8191) HT_ ?_
       refine qP 13 (some 48) (bN 16 16383) HT_ ?_
       refine qP 14 (some 6) (bN 16 32767) HT_ ?_
       refine qP 15 (some 7) (bN 16 65535) HT_ ?_
       refine Zq (Zd HT_.out kr) ?_
       try go_wp2
       go_ret2
       exact⟨rfl,HB.out⟩
      ·rw[if_neg a5] at H
       exact absurd H (by simp)
     ·rw[if_neg an] at H
      exact absurd H (by simp)
    ·rw[if_neg a4] at H
     have c15b0:decide (J<(l0.length:Int))=false:=decide_eq_false a4
     clear a4
     simp only[Option.some.injEq,Prod.mk.injEq] at H
     obtain⟨rfl,rfl⟩:=H
     try go_wp2
     replace X:=Aside0.mk (Qb X.out)
     replace HB:=Aside0.mk (Qe HB.out)
     refine Ze (n:=16) (S:=fun w'=>True) (ds:=[]) #[false,false,false,false,false,false,false,false,false,false,false,false,false,false,false,false] kr rfl rfl trivial (fun hHeld=>?_);refine Q4 api_Inside_58.U8 api_Inside_58.Vd (fun HT_ HW_=>?_)
     generalize wr.drew=bp at X HB hHeld ⊢
     refine qP 0 (some 35) (bN 16 1) HT_ ?_
     refine qP 1 (some 36) (bN 16 3) HT_ ?_
     refine qP 2 (some 37) (bN 16 7) HT_ ?_
     refine qP 3 (some 38) (bN 16 15) HT_ ?_
     refine qP 4 (some 39) (bN 16 31) HT_ ?_
     refine qU 5 (some 40) (bN 16 63) HT_ ?_
     refine qU 6 (some 41) (bN 16 127) HT_ ?_
     refine qU 7 (some 42) (bN 16 255) HT_ ?_
     refine qU 8 (some 43) (bN 16 511) HT_ ?_
     refine qU 9 (some 44) (bN 16 1023) HT_ ?_
     refine qU 10 (some 45) (bN 16 2047) HT_ ?_
     refine qU 11 (some 46) (bN 16 4095) HT_ ?_
     refine qU 12 (some 47) (bN 16 8191) HT_ ?_
     refine qP 13 (some 48) (bN 16 16383) HT_ ?_
     refine qP 14 (some 6) (bN 16 32767) HT_ ?_
     refine qP 15 (some 7) (bN 16 65535) HT_ ?_
     refine Zq (Zd HT_.out kr) ?_
     try go_wp2
     go_ret2
     exact⟨rfl,HB.out⟩
end Go.Proofs.Ytjehhhlhalkieaa.C
