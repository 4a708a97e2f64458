/- Texts of this claim, one behind the other: what the law's functions come to, walked (printed by a program, with the words that the print uses), and what that is, in plain Lean. No conditions of their own. -/
import Derived.Test.YtjehhhlhalkieaaQCallGives1
import Derived.Test.YtjehhhlhalkieaaProg
namespace Go.Proofs.YtjehhhlhalkieaaW.PrintWords
open Go.RowKit Go.Proofs.YtjehhhlhalkieaaW.PrintLast Go.Proofs.YtjehhhlhalkieaaW.PrintMore
def qB (n m:Nat):Array Bool:=((List.range n).map fun i=>m.testBit i).toArray
theorem qP {P:Program} {ops:Array Oper} {Q:Exit→Act→World→Prop} {md:Region.Mode} {S:World→Prop} {ds:List Nat} {oi:Oper} {v:Value} {fuel:Nat} {l:Array Bool} {a:Act} {w:World} {T:Bool×List (List Nat×List Nat)} (i:Nat) (N:Option Tmp) (l':Array Bool) (ht:Aside0 (rtab md ops=T)) {a':Act} (h:Zc P md ops Q S ds fuel l' a' w) (hi:ops[i]?=some oi:=by rfl) (hN:oi.dst=N:=by rfl) (hc:M4 T l.toList l'.toList i=true:=by kernel_rfl) (hQ:∀ c a w,Q (.panic c) (a.put oi.dst v) w→Q (.panic c) a w:=by exact(fun _ _ _ h=>h)) (hy:Yields P ops oi v a:=by(refine Or.inl ⟨by rfl, ?_⟩;intro w';go_simp;with_reducible rfl)) (ha:a.put N v=a':=by(simp only[Act.put,qS,X5,Ys];rfl)):Zc P md ops Q S ds (fuel+1) l a w:=Nl l' hi hN (Mg ht.out hc) hQ hy ha h
theorem qU {P:Program} {ops:Array Oper} {Q:Exit→Act→World→Prop} {md:Region.Mode} {S:World→Prop} {ds:List Nat} {oi:Oper} {fuel:Nat} {l:Array Bool} {a:Act} {w:World} {T:Bool×List (List Nat×List Nat)} (i:Nat) (N:Option Tmp) (l':Array Bool) (ht:Aside0 (rtab md ops=T)) {a':Act} (h:Zc P md ops Q S ds fuel l' a' w) (hi:ops[i]?=some oi:=by rfl) (hN:oi.dst=N:=by rfl) (hc:M4 T l.toList l'.toList i=true:=by kernel_rfl) (hQ:∀ c a w,Q (.panic c) (a.put oi.dst undef) w→Q (.panic c) a w:=by exact(fun _ _ _ h=>h)) (hy:Yields P ops oi undef a:=by exact(Or.inr ⟨by rfl,rfl⟩)) (ha:a.put N undef=a':=by(simp only[Act.put,qS,X5,Ys];rfl)):Zc P md ops Q S ds (fuel+1) l a w:=Nl l' hi hN (Mg ht.out hc) hQ hy ha h
theorem qT {P:Program} {ops:Array Oper} {Q:Exit→Act→World→Prop} {md:Region.Mode} {S:World→Prop} {ds:List Nat} {oi:Oper} {v:Value} {fuel:Nat} {l:Array Bool} {a:Act} {w:World} {T:Bool×List (List Nat×List Nat)} {B:List Nat} (i:Nat) (N:Option Tmp) (l':Array Bool) (ht:Aside0 (rtab md ops=T)) (hW:Aside0 (Zr T.snd B=true)) (hS:S w) {a':Act} (h:Zc P md ops Q S ds fuel l' a' w) (hi:ops[i]?=some oi:=by rfl) (hN:oi.dst=N:=by rfl) (hc:Li T B ds l.toList l'.toList i=true:=by kernel_rfl) (hQ:∀ c a w,Q (.panic c) (a.put oi.dst v) w→Q (.panic c) a w:=by exact(fun _ _ _ h=>h)) (hy:YieldsIf P ops S oi v a:=by(refine Or.inl ⟨by rfl, ?_⟩;intro w' hs_;(repeat obtain⟨_,hs_⟩:=(hs_:_∧_));go_simp;with_reducible rfl)) (ha:a.put N v=a':=by(simp only[Act.put,qS,X5,Ys];rfl)):Zc P md ops Q S ds (fuel+1) l a w:=Lh l' hi hN (Lg ht.out hW.out hc) hQ hy hS ha h
theorem qN {P:Program} {ops:Array Oper} {Q:Exit→Act→World→Prop} {md:Region.Mode} {S:World→Prop} {ds:List Nat} {v:Value} {fuel:Nat} {l:Array Bool} {a:Act} {w:World} (N:Option Tmp) {a':Act} (h:Zc P md ops Q S ds fuel l a' w) (ha:a.put N v=a':=by(simp only[Act.put,qS,X5,Ys];rfl)):Zc P md ops Q S ds fuel l (a.put N v) w:=Xj ha h
theorem qc {w:World} {g i:Nat} {t:TypeId} {cs:Array Value} {v:Value} (b:Aside0 (w.heap[g]?=some (.cells cs t (0,0)))) (h:cs[i]?=some v:=by exact rfl):w.cell? ⟨g,i,none⟩=some v:=(Ql b.out i).trans h
theorem qM {p:Prop} (h:p:=by((try simp only[List.map_toArray,List.map_cons,List.map_nil]) <;> (first|done|rfl))):p:=h
theorem qE {P:Program} {ops:Array Oper} {Q:Exit→Act→World→Prop} {o:Oper} {rest:List Oper} {a:Act} {W:World} (N:Tmp) (cs:Array Value) (t:TypeId) (h:∀ g,g=W.heap.size → ∀ w1,w1.heap[g]?=some (.cells cs t (0,0))→Below W.heap.size W w1→wpList P ops Q rest (a.put o.dst (.pointer (some ⟨g,0,none⟩))) w1) (hd:o.dst=some N:=by rfl) (hg:o.guard=none:=by rfl) (hr:(execOp a.eval o).run P W = .ok (.value (.pointer (some ⟨W.heap.size,0,none⟩))) (W.alloc (.cells cs t (0,0))):=by(go_simp <;> rfl)):wpList P ops Q (o :: rest) a W:=Q5 hg (N:=N) hd (cs:=cs) (t:=t) hr h
theorem qD2 {w:World} {g:Nat} {t:TypeId} {I D:Value} (b:w.heap[g]?=some (.cells #[I,D] t (0,0))):w.cell? ⟨g,0,none⟩=some I∧w.cell? ⟨g,1,none⟩=some D∧w.frozen? ⟨g,0,none⟩=false∧w.frozen? ⟨g,1,none⟩=false:=⟨(Ql b 0).trans rfl,(Ql b 1).trans rfl,Q6 b 0,Q6 b 1⟩
theorem qD3 {w:World} {g:Nat} {t:TypeId} {I D a2:Value} (b:w.heap[g]?=some (.cells #[I,D,a2] t (0,0))):w.cell? ⟨g,0,none⟩=some I∧w.cell? ⟨g,1,none⟩=some D∧w.cell? ⟨g,2,none⟩=some a2∧w.frozen? ⟨g,0,none⟩=false∧w.frozen? ⟨g,1,none⟩=false∧w.frozen? ⟨g,2,none⟩=false:=⟨(Ql b 0).trans rfl,(Ql b 1).trans rfl,(Ql b 2).trans rfl,Q6 b 0,Q6 b 1,Q6 b 2⟩
end Go.Proofs.YtjehhhlhalkieaaW.PrintWords
namespace Go.Proofs.Ytjehhhlhalkieaa.C
open Go.RowKit Go.Proofs.YtjehhhlhalkieaaW.PrintWords Go.Proofs.YtjehhhlhalkieaaW.PrintLast Go.Proofs.YtjehhhlhalkieaaW.PrintMore
attribute [local go_sem] Z2 Z0 Xb Xa Zq Zp Z1 Zz
set_option linter.unusedVariables false
set_option linter.unusedSimpArgs false
def L5:Option Int→Value
 |none=>.nilIface
 |some c=>.iface 0 (.int .i64 c)
theorem Qz:L5 none = .nilIface:=rfl
theorem Qy (c:Int):L5 (some c) = .iface 0 (.int .i64 c):=rfl
theorem Wg:(Try.prog.info? 3).map (fun i=>(i.zero,i.size,i.bytes))=some (some (.int .i64 0),1,8):=by kernel_rfl
theorem Yl:(Try.prog.info? 56).map (fun i=>(i.zero,i.size,i.bytes))=some (some (.agg #[(.int .i64 0),(.int .i64 0),(.int .i64 0)]),3,24):=by kernel_rfl
theorem J0:(Try.prog.info? 62).map (fun i=>(i.zero,i.size,i.bytes))=some (some (.agg #[(.int .i64 0),(.int .i64 0)]),2,16):=by kernel_rfl
structure S56 where
 f0:Int
 f1:Int
 f2:Int
def z56:S56:=⟨(0:Int),(0:Int),(0:Int)⟩
def k56:Kd S56:=Kd.iso (Kd.pair (Kd.int .i64) (Kd.pair (Kd.int .i64) (Kd.int .i64))) (fun x:S56=>(x.f0,x.f1,x.f2))
theorem Jz {w:World} {x:S56} {cs:List Value} (h:k56.K w x cs):cs = [.int .i64 x.f0,.int .i64 x.f1,.int .i64 x.f2]:=by
 obtain⟨_,_,rfl,rfl,⟨_,_,rfl,rfl,rfl⟩⟩:=h
 exact rfl
theorem Yw {w:World} {base:Nat} {ok:Nat→Prop} {x:S56} {cs:List Value} (h:k56.M w base ok x cs):cs = [.int .i64 x.f0,.int .i64 x.f1,.int .i64 x.f2]:=by
 obtain⟨_,_,rfl,rfl,⟨_,_,rfl,rfl,rfl⟩⟩:=h
 exact rfl
theorem Lu (w:World) (x:S56):k56.K w x [.int .i64 x.f0,.int .i64 x.f1,.int .i64 x.f2]:=⟨[.int .i64 x.f0],[.int .i64 x.f1,.int .i64 x.f2],rfl,rfl,⟨[.int .i64 x.f1],[.int .i64 x.f2],rfl,rfl,rfl⟩⟩
theorem Yg (w:World) (base:Nat) (ok:Nat→Prop) (x:S56):k56.M w base ok x [.int .i64 x.f0,.int .i64 x.f1,.int .i64 x.f2]:=⟨[.int .i64 x.f0],[.int .i64 x.f1,.int .i64 x.f2],rfl,rfl,⟨[.int .i64 x.f1],[.int .i64 x.f2],rfl,rfl,rfl⟩⟩
def Qg (xs:List S56) (i:Int):S56:=xs.getD i.toNat z56
theorem Z3 {w:World} {A:Option Addr} {n:Nat} {xs:List S56} (h:Kd.C k56 w A n xs) (i:Int) (U:0≤i) (h1:i<n):∃ ad,A=some ad∧w.cell? (ad.add (i.toNat * 3))=some (.int .i64 (Qg xs i).f0)∧w.cell? ⟨(ad.add (i.toNat * 3)).block,(ad.add (i.toNat * 3)).off+1,none⟩=some (.int .i64 (Qg xs i).f1)∧w.cell? ⟨(ad.add (i.toNat * 3)).block,(ad.add (i.toNat * 3)).off+2,none⟩=some (.int .i64 (Qg xs i).f2):=by
 obtain⟨ad,c,e,_,hK,γ⟩:=Kd.Wm h z56 i U h1
 have hc:∀ j u,c[j]?=some u→w.cell? (ad.add (i.toNat * 3+j))=some u:=γ
 obtain rfl:=Jz hK
 exact⟨ad,e,hc 0 _ rfl,by rw[← Yx _ _ 1 (by omega)];exact hc 1 _ rfl,by rw[← Yx _ _ 2 (by omega)];exact hc 2 _ rfl⟩
structure S62 where
 f0:Int
 f1:Int
def z62:S62:=⟨(0:Int),(0:Int)⟩
def k62:Kd S62:=Kd.iso (Kd.pair (Kd.int .i64) (Kd.int .i64)) (fun x:S62=>(x.f0,x.f1))
theorem Lt:Kd.Heap k62:=Kd.L1 _ (Kd.W5 (Kd.Uf .i64) (Kd.Uf .i64))
theorem Kq {w:World} {x:S62} {cs:List Value} (h:k62.K w x cs):cs = [.int .i64 x.f0,.int .i64 x.f1]:=by
 obtain⟨_,_,rfl,rfl,rfl⟩:=h
 exact rfl
theorem J6 {w:World} {base:Nat} {ok:Nat→Prop} {x:S62} {cs:List Value} (h:k62.M w base ok x cs):cs = [.int .i64 x.f0,.int .i64 x.f1]:=by
 obtain⟨_,_,rfl,rfl,rfl⟩:=h
 exact rfl
theorem Ls (w:World) (x:S62):k62.K w x [.int .i64 x.f0,.int .i64 x.f1]:=⟨[.int .i64 x.f0],[.int .i64 x.f1],rfl,rfl,rfl⟩
theorem Kr (w:World) (base:Nat) (ok:Nat→Prop) (x:S62):k62.M w base ok x [.int .i64 x.f0,.int .i64 x.f1]:=⟨[.int .i64 x.f0],[.int .i64 x.f1],rfl,rfl,rfl⟩
def Qp (xs:List S62) (i:Int):S62:=xs.getD i.toNat z62
theorem Z8 {w:World} {A:Option Addr} {n:Nat} {xs:List S62} (h:Kd.C k62 w A n xs) (i:Int) (U:0≤i) (h1:i<n):∃ ad,A=some ad∧w.cell? (ad.add (i.toNat * 2))=some (.int .i64 (Qp xs i).f0)∧w.cell? ⟨(ad.add (i.toNat * 2)).block,(ad.add (i.toNat * 2)).off+1,none⟩=some (.int .i64 (Qp xs i).f1):=by
 obtain⟨ad,c,e,_,hK,γ⟩:=Kd.Wm h z62 i U h1
 have hc:∀ j u,c[j]?=some u→w.cell? (ad.add (i.toNat * 2+j))=some u:=γ
 obtain rfl:=Kq hK
 exact⟨ad,e,hc 0 _ rfl,by rw[← Yx _ _ 1 (by omega)];exact hc 1 _ rfl⟩
structure S23 where
 f0:Int
 f1:Int
def k23:Kd S23:=Kd.iso (Kd.pair (Kd.int .i64) (Kd.int .i64)) (fun x:S23=>(x.f0,x.f1))
theorem Lw {w:World} {x:S23} {cs:List Value} (h:k23.K w x cs):cs = [.int .i64 x.f0,.int .i64 x.f1]:=by
 obtain⟨_,_,rfl,rfl,rfl⟩:=h
 exact rfl
structure S27 where
 f0:(List S56)
 f1:(List S62)
def k27:Kd S27:=Kd.iso (Kd.pair (Kd.slice 56 k56) (Kd.slice 62 k62)) (fun x:S27=>(x.f0,x.f1))
theorem Lv {w:World} {x:S27} {cs:List Value} (h:k27.K w x cs):∃ Y c0 A1 c1,cs = [.slice Y x.f0.length c0,.slice A1 x.f1.length c1]∧x.f0.length≤c0∧k56.C w Y x.f0.length x.f0∧x.f1.length≤c1∧k62.C w A1 x.f1.length x.f1:=by
 obtain⟨_,_,rfl,⟨Y,c0,rfl,l0,B⟩,⟨A1,c1,rfl,l1,X⟩⟩:=h
 exact⟨Y,c0,A1,c1,rfl,l0,B,l1,X⟩
end Go.Proofs.Ytjehhhlhalkieaa.C
namespace Go.Proofs.Ytjehhhlhalkieaa.K
open Go.RowKit Go.Proofs.YtjehhhlhalkieaaW.PrintWords Go.Proofs.YtjehhhlhalkieaaW.PrintLast Go.Proofs.YtjehhhlhalkieaaW.PrintMore
attribute [local go_sem] Z2 Z0 Xb Xa Zq Zp Z1 Zz
set_option linter.unusedVariables false
set_option linter.unusedSimpArgs false
def L5:Option Int→Value
 |none=>.nilIface
 |some c=>.iface 0 (.int .i64 c)
theorem Qz:L5 none = .nilIface:=rfl
theorem Qy (c:Int):L5 (some c) = .iface 0 (.int .i64 c):=rfl
theorem Wg:(Try.prog.info? 3).map (fun i=>(i.zero,i.size,i.bytes))=some (some (.int .i64 0),1,8):=by kernel_rfl
structure S56 where
 f0:Int
 f1:Int
 f2:Int
def z56:S56:=⟨(0:Int),(0:Int),(0:Int)⟩
def k56:Kd S56:=Kd.iso (Kd.pair (Kd.int .i64) (Kd.pair (Kd.int .i64) (Kd.int .i64))) (fun x:S56=>(x.f0,x.f1,x.f2))
theorem Jz {w:World} {x:S56} {cs:List Value} (h:k56.K w x cs):cs = [.int .i64 x.f0,.int .i64 x.f1,.int .i64 x.f2]:=by
 obtain⟨_,_,rfl,rfl,⟨_,_,rfl,rfl,rfl⟩⟩:=h
 exact rfl
theorem Yw {w:World} {base:Nat} {ok:Nat→Prop} {x:S56} {cs:List Value} (h:k56.M w base ok x cs):cs = [.int .i64 x.f0,.int .i64 x.f1,.int .i64 x.f2]:=by
 obtain⟨_,_,rfl,rfl,⟨_,_,rfl,rfl,rfl⟩⟩:=h
 exact rfl
theorem Lu (w:World) (x:S56):k56.K w x [.int .i64 x.f0,.int .i64 x.f1,.int .i64 x.f2]:=⟨[.int .i64 x.f0],[.int .i64 x.f1,.int .i64 x.f2],rfl,rfl,⟨[.int .i64 x.f1],[.int .i64 x.f2],rfl,rfl,rfl⟩⟩
theorem Yg (w:World) (base:Nat) (ok:Nat→Prop) (x:S56):k56.M w base ok x [.int .i64 x.f0,.int .i64 x.f1,.int .i64 x.f2]:=⟨[.int .i64 x.f0],[.int .i64 x.f1,.int .i64 x.f2],rfl,rfl,⟨[.int .i64 x.f1],[.int .i64 x.f2],rfl,rfl,rfl⟩⟩
def Qg (xs:List S56) (i:Int):S56:=xs.getD i.toNat z56
theorem Z3 {w:World} {A:Option Addr} {n:Nat} {xs:List S56} (h:Kd.C k56 w A n xs) (i:Int) (U:0≤i) (h1:i<n):∃ ad,A=some ad∧w.cell? (ad.add (i.toNat * 3))=some (.int .i64 (Qg xs i).f0)∧w.cell? ⟨(ad.add (i.toNat * 3)).block,(ad.add (i.toNat * 3)).off+1,none⟩=some (.int .i64 (Qg xs i).f1)∧w.cell? ⟨(ad.add (i.toNat * 3)).block,(ad.add (i.toNat * 3)).off+2,none⟩=some (.int .i64 (Qg xs i).f2):=by
 obtain⟨ad,c,e,_,hK,γ⟩:=Kd.Wm h z56 i U h1
 have hc:∀ j u,c[j]?=some u→w.cell? (ad.add (i.toNat * 3+j))=some u:=γ
 obtain rfl:=Jz hK
 exact⟨ad,e,hc 0 _ rfl,by rw[← Yx _ _ 1 (by omega)];exact hc 1 _ rfl,by rw[← Yx _ _ 2 (by omega)];exact hc 2 _ rfl⟩
structure S62 where
 f0:Int
 f1:Int
def z62:S62:=⟨(0:Int),(0:Int)⟩
def k62:Kd S62:=Kd.iso (Kd.pair (Kd.int .i64) (Kd.int .i64)) (fun x:S62=>(x.f0,x.f1))
theorem Kq {w:World} {x:S62} {cs:List Value} (h:k62.K w x cs):cs = [.int .i64 x.f0,.int .i64 x.f1]:=by
 obtain⟨_,_,rfl,rfl,rfl⟩:=h
 exact rfl
theorem J6 {w:World} {base:Nat} {ok:Nat→Prop} {x:S62} {cs:List Value} (h:k62.M w base ok x cs):cs = [.int .i64 x.f0,.int .i64 x.f1]:=by
 obtain⟨_,_,rfl,rfl,rfl⟩:=h
 exact rfl
theorem Ls (w:World) (x:S62):k62.K w x [.int .i64 x.f0,.int .i64 x.f1]:=⟨[.int .i64 x.f0],[.int .i64 x.f1],rfl,rfl,rfl⟩
theorem Kr (w:World) (base:Nat) (ok:Nat→Prop) (x:S62):k62.M w base ok x [.int .i64 x.f0,.int .i64 x.f1]:=⟨[.int .i64 x.f0],[.int .i64 x.f1],rfl,rfl,rfl⟩
def Qp (xs:List S62) (i:Int):S62:=xs.getD i.toNat z62
theorem Z8 {w:World} {A:Option Addr} {n:Nat} {xs:List S62} (h:Kd.C k62 w A n xs) (i:Int) (U:0≤i) (h1:i<n):∃ ad,A=some ad∧w.cell? (ad.add (i.toNat * 2))=some (.int .i64 (Qp xs i).f0)∧w.cell? ⟨(ad.add (i.toNat * 2)).block,(ad.add (i.toNat * 2)).off+1,none⟩=some (.int .i64 (Qp xs i).f1):=by
 obtain⟨ad,c,e,_,hK,γ⟩:=Kd.Wm h z62 i U h1
 have hc:∀ j u,c[j]?=some u→w.cell? (ad.add (i.toNat * 2+j))=some u:=γ
 obtain rfl:=Kq hK
 exact⟨ad,e,hc 0 _ rfl,by rw[← Yx _ _ 1 (by omega)];exact hc 1 _ rfl⟩
def cmp_Or_int.l0:Nat→Int→List Int→Int→Int→Option (Int)
 |0,_,_,_,_=>none
 |k+1,J,B,I,D=>if D<I then (if 0≤D then (if D<(B.length:Int) then (if (rd B D)=J then (cmp_Or_int.l0 k J B I (wrap64 (D+1))) else (some (rd B D))) else (none)) else (none)) else (some J)
def cmp_Or_int.f (k:Nat) (l0:List Int):Option (Int):=cmp_Or_int.l0 k 0 l0 (l0.length:Int) 0
theorem cmp_Or_int.Zi:∀ k,(∀ D I O J,LeO (cmp_Or_int.l0 k D I O J) (cmp_Or_int.l0 (k+1) D I O J))
 |0=>fun _ _ _ _ r h=>by simp[cmp_Or_int.l0] at h
 |k+1=>by
  have B:=cmp_Or_int.Zi k
  ·intro D I O J
   unfold cmp_Or_int.l0
   repeat' first
   |(with_reducible exact B _ _ _ _)
   |(with_reducible exact LeO.refl _)
   |(with_reducible exact LeO.none _)
   |(with_reducible refine LeO.ite ?_ ?_)
   |(with_reducible refine LeO.bind ?_ (fun _=>?_))
   |exact B _ _ _ _
   |exact LeO.none _
   |refine LeO.ite ?_ ?_
   |refine LeO.bind ?_ (fun _=>?_)
theorem cmp_Or_int.mono:∀ I k,LeO (cmp_Or_int.f k I) (cmp_Or_int.f (k+1) I):=by
 intro I k
 have B:=cmp_Or_int.Zi k
 unfold cmp_Or_int.f
 repeat' first
   |(with_reducible exact B _ _ _ _)
   |(with_reducible exact LeO.refl _)
   |(with_reducible exact LeO.none _)
   |(with_reducible refine LeO.ite ?_ ?_)
   |(with_reducible refine LeO.bind ?_ (fun _=>?_))
   |exact B _ _ _ _
   |exact LeO.none _
   |refine LeO.ite ?_ ?_
   |refine LeO.bind ?_ (fun _=>?_)
set_option maxHeartbeats 8000000 in
set_option maxRecDepth 100000 in
theorem cmp_Or_int.calls (k:Nat) (Y:Option Addr) (c0:Nat) (l0:List Int) (r:Int) (w:World) (ε :Kd.C (Kd.int .i64) w Y l0.length l0) (γ:l0.length≤c0) (h:cmp_Or_int.f k l0=some r):
  Calls Try.prog 52 #[.slice Y l0.length c0] w fun e w'=>e = .returned (.int .i64 r)∧Drawn0 w w':=by
 have μ :=Aside0.mk ε
 have a6:=Aside0.mk γ
 clear ε γ
 have H:(cmp_Or_int.l0 k 0 l0 (l0.length:Int) 0)=some r:=h
 clear h
 have H':=Aside0.mk H
 clear H
 go_enter Try.func52,Try.ntmps52
 go_wp2
 go_loopg [8] k (fun kq v8 w'=>∃ (B:Int),v8 = .int .i64 B∧Aside0 (cmp_Or_int.l0 kq 0 l0 (l0.length:Int) B=some r)∧Aside0 (kq≤k)∧Drawn0 w w')
 case atStart=>exact⟨(0),qR,H',⟨Nat.le_refl _⟩,by repeat(first|exact Drawn0.refl _|apply Drawn0.step)⟩
 case round=>
  clear H'
  obtain⟨B,rfl,HA,ξ,⟨m1,rfl⟩⟩:=hrel
  cases gk with
  |zero=>exact absurd HA.out (by simp[cmp_Or_int.l0])
  |succ k1=>
   have H:=HA.out
   clear HA
   simp only[cmp_Or_int.l0] at H
   by_cases c2:B<(l0.length:Int)
   ·rw[if_pos c2] at H
    have c2b0:decide (B<(l0.length:Int))=true:=decide_eq_true c2
    clear c2
    by_cases c3:0≤B
    ·rw[if_pos c3] at H
     have c3b0:decide (0≤B)=true:=decide_eq_true c3
     clear c3
     by_cases c4:B<(l0.length:Int)
     ·rw[if_pos c4] at H
      have c4b0:decide (B<(l0.length:Int))=true:=decide_eq_true c4
      clear c4
      by_cases c5:(rd l0 B)=0
      ·rw[if_pos c5] at H
       have c5b0:((rd l0 B)==0)=true:=beq_iff_eq.mpr c5
       have c5b1:((rd l0 B) != 0)=false:=bne_eq_false_iff_eq.mpr c5
       clear c5
       have H':=Aside0.mk H
       clear H
       have D:0≤(B:Int):=of_decide_eq_true (by first|(with_reducible assumption)|assumption)
       have I:B<(l0.length:Int):=of_decide_eq_true (by first|(with_reducible assumption)|assumption)
       obtain⟨O,J,L⟩:=Kd.Mf μ.out B D I
       cases J
       replace D:=eq_true D
       replace I:=eq_true I
       go_wp2
       go_roundg k1
       case measure=>have:= ξ.out;omega
       case rel=>exact⟨(wrap64 (B+1)),qR,H',⟨by have:= ξ.out;omega⟩,by repeat(first|exact Drawn0.refl _|apply Drawn0.step)⟩
      ·rw[if_neg c5] at H
       have c5b0:((rd l0 B)==0)=false:=beq_eq_false_iff_ne.mpr c5
       have c5b1:((rd l0 B) != 0)=true:=bne_iff_ne.mpr c5
       obtain rfl:=Option.some.inj H
       have D:0≤(B:Int):=of_decide_eq_true (by first|(with_reducible assumption)|assumption)
       have I:B<(l0.length:Int):=of_decide_eq_true (by first|(with_reducible assumption)|assumption)
       obtain⟨O,J,L⟩:=Kd.Mf μ.out B D I
       cases J
       replace D:=eq_true D
       replace I:=eq_true I
       go_wp2
       go_ret
       exact⟨qR,by repeat(first|exact Drawn0.refl _|apply Drawn0.step)⟩
     ·rw[if_neg c4] at H
      exact absurd H (by simp)
    ·rw[if_neg c3] at H
     exact absurd H (by simp)
   ·rw[if_neg c2] at H
    have c2b0:decide (B<(l0.length:Int))=false:=decide_eq_false c2
    clear c2
    obtain rfl:=Option.some.inj H
    go_wp2
    go_ret
    exact⟨qR,by repeat(first|exact Drawn0.refl _|apply Drawn0.step)⟩
def cmp_isNaN_int.f (I:Int):Option (Bool):=some (I != I)
set_option maxHeartbeats 8000000 in
set_option maxRecDepth 100000 in
theorem cmp_isNaN_int.calls (I:Int) (r:Bool) (w:World) (h:cmp_isNaN_int.f I=some r):
  Calls Try.prog 66 #[.int .i64 I] w fun e w'=>e = .returned (.bool r)∧Drawn0 w w':=by
 have H:(some (I != I))=some r:=h
 clear h
 obtain rfl:=Option.some.inj H
 go_enter Try.func66,Try.ntmps66
 go_wp2
 go_ret
 exact⟨qR,by repeat(first|exact Drawn0.refl _|apply Drawn0.step)⟩
def cmp_Compare_int.f (I:Int) (D:Int):Option (Int):=(cmp_isNaN_int.f I).bind fun B=>((cmp_isNaN_int.f D).bind fun Y=>(if B=true then (if Y=true then (some 0) else (some (-1))) else (if Y=true then (some 1) else (if I<D then (some (-1)) else (if I>D then (some 1) else (some 0))))))
set_option maxHeartbeats 8000000 in
set_option maxRecDepth 100000 in
theorem cmp_Compare_int.calls (I:Int) (D:Int) (r:Int) (w:World) (h:cmp_Compare_int.f I D=some r):
  Calls Try.prog 53 #[.int .i64 I,.int .i64 D] w fun e w'=>e = .returned (.int .i64 r)∧Drawn0 w w':=by
 have H:((cmp_isNaN_int.f I).bind fun B=>((cmp_isNaN_int.f D).bind fun Y=>(if B=true then (if Y=true then (some 0) else (some (-1))) else (if Y=true then (some 1) else (if I<D then (some (-1)) else (if I>D then (some 1) else (some 0)))))))=some r:=h
 clear h
 replace H:=Option.bind_eq_some_iff.mp H
 obtain⟨B,ae,H⟩:=H
 replace H:((cmp_isNaN_int.f D).bind fun Y=>(if B=true then (if Y=true then (some 0) else (some (-1))) else (if Y=true then (some 1) else (if I<D then (some (-1)) else (if I>D then (some 1) else (some 0))))))=some r:=H
 have A3:=Aside0.mk ae
 clear ae
 replace H:=Option.bind_eq_some_iff.mp H
 obtain⟨Y,bv,H⟩:=H
 replace H:(if B=true then (if Y=true then (some 0) else (some (-1))) else (if Y=true then (some 1) else (if I<D then (some (-1)) else (if I>D then (some 1) else (some 0)))))=some r:=H
 have A4:=Aside0.mk bv
 clear bv
 by_cases c5:B=true
 ·subst c5
  have H1:(if Y=true then (some 0) else (some (-1)))=some r:=by rw[if_pos rfl] at H;exact H
  clear H
  have H:=H1
  clear H1
  by_cases c6:Y=true
  ·subst c6
   have H1:(some 0)=some r:=by rw[if_pos rfl] at H;exact H
   clear H
   have H:=H1
   clear H1
   obtain rfl:=Option.some.inj H
   go_enter Try.func53,Try.ntmps53
   go_wp2_with (first|((with_reducible refine Q0 (f:=66) rfl ?_);refine Zk (some 8) rfl rfl Try.func66 kr rfl #[.int .i64 I] rfl (by(try simp only[List.map_toArray,List.map_cons,List.map_nil]);first|done|rfl|(simp only[List.length_drop,List.length_take];rfl)) ?_;(with_reducible refine(cmp_isNaN_int.calls I true _ A3.out).mono ?_);rintro e w' ⟨rfl,⟨nd,rfl⟩⟩;refine⟨_,rfl, ?_⟩)|((with_reducible refine Q0 (f:=66) rfl ?_);refine Zk (some 10) rfl rfl Try.func66 kr rfl #[.int .i64 D] rfl (by(try simp only[List.map_toArray,List.map_cons,List.map_nil]);first|done|rfl|(simp only[List.length_drop,List.length_take];rfl)) ?_;(with_reducible refine(cmp_isNaN_int.calls D true _ A4.out).mono ?_);rintro e w' ⟨rfl,⟨nd,rfl⟩⟩;refine⟨_,rfl, ?_⟩))
   go_ret
   exact⟨qR,by repeat(first|exact Drawn0.refl _|apply Drawn0.step)⟩
  ·replace c6:=Bool.eq_false_iff.mpr c6
   subst c6
   have H1:(some (-1))=some r:=by rw[if_neg (show ¬ (false=true) by decide)] at H;exact H
   clear H
   have H:=H1
   clear H1
   obtain rfl:=Option.some.inj H
   go_enter Try.func53,Try.ntmps53
   go_wp2_with (first|((with_reducible refine Q0 (f:=66) rfl ?_);refine Zk (some 8) rfl rfl Try.func66 kr rfl #[.int .i64 I] rfl (by(try simp only[List.map_toArray,List.map_cons,List.map_nil]);first|done|rfl|(simp only[List.length_drop,List.length_take];rfl)) ?_;(with_reducible refine(cmp_isNaN_int.calls I true _ A3.out).mono ?_);rintro e w' ⟨rfl,⟨nd,rfl⟩⟩;refine⟨_,rfl, ?_⟩)|((with_reducible refine Q0 (f:=66) rfl ?_);refine Zk (some 10) rfl rfl Try.func66 kr rfl #[.int .i64 D] rfl (by(try simp only[List.map_toArray,List.map_cons,List.map_nil]);first|done|rfl|(simp only[List.length_drop,List.length_take];rfl)) ?_;(with_reducible refine(cmp_isNaN_int.calls D false _ A4.out).mono ?_);rintro e w' ⟨rfl,⟨nd,rfl⟩⟩;refine⟨_,rfl, ?_⟩))
   go_ret
   exact⟨qR,by repeat(first|exact Drawn0.refl _|apply Drawn0.step)⟩
 ·replace c5:=Bool.eq_false_iff.mpr c5
  subst c5
  have H1:(if Y=true then (some 1) else (if I<D then (some (-1)) else (if I>D then (some 1) else (some 0))))=some r:=by rw[if_neg (show ¬ (false=true) by decide)] at H;exact H
  clear H
  have H:=H1
  clear H1
  by_cases c7:Y=true
  ·subst c7
   have H1:(some 1)=some r:=by rw[if_pos rfl] at H;exact H
   clear H
   have H:=H1
   clear H1
   obtain rfl:=Option.some.inj H
   go_enter Try.func53,Try.ntmps53
   go_wp2_with (first|((with_reducible refine Q0 (f:=66) rfl ?_);refine Zk (some 8) rfl rfl Try.func66 kr rfl #[.int .i64 I] rfl (by(try simp only[List.map_toArray,List.map_cons,List.map_nil]);first|done|rfl|(simp only[List.length_drop,List.length_take];rfl)) ?_;(with_reducible refine(cmp_isNaN_int.calls I false _ A3.out).mono ?_);rintro e w' ⟨rfl,⟨nd,rfl⟩⟩;refine⟨_,rfl, ?_⟩)|((with_reducible refine Q0 (f:=66) rfl ?_);refine Zk (some 10) rfl rfl Try.func66 kr rfl #[.int .i64 D] rfl (by(try simp only[List.map_toArray,List.map_cons,List.map_nil]);first|done|rfl|(simp only[List.length_drop,List.length_take];rfl)) ?_;(with_reducible refine(cmp_isNaN_int.calls D true _ A4.out).mono ?_);rintro e w' ⟨rfl,⟨nd,rfl⟩⟩;refine⟨_,rfl, ?_⟩))
   go_ret
   exact⟨qR,by repeat(first|exact Drawn0.refl _|apply Drawn0.step)⟩
  ·replace c7:=Bool.eq_false_iff.mpr c7
   subst c7
   have H1:(if I<D then (some (-1)) else (if I>D then (some 1) else (some 0)))=some r:=by rw[if_neg (show ¬ (false=true) by decide)] at H;exact H
   clear H
   have H:=H1
   clear H1
   by_cases c8:I<D
   ·rw[if_pos c8] at H
    have c8b0:decide (I<D)=true:=decide_eq_true c8
    clear c8
    obtain rfl:=Option.some.inj H
    go_enter Try.func53,Try.ntmps53
    go_wp2_with (first|((with_reducible refine Q0 (f:=66) rfl ?_);refine Zk (some 8) rfl rfl Try.func66 kr rfl #[.int .i64 I] rfl (by(try simp only[List.map_toArray,List.map_cons,List.map_nil]);first|done|rfl|(simp only[List.length_drop,List.length_take];rfl)) ?_;(with_reducible refine(cmp_isNaN_int.calls I false _ A3.out).mono ?_);rintro e w' ⟨rfl,⟨nd,rfl⟩⟩;refine⟨_,rfl, ?_⟩)|((with_reducible refine Q0 (f:=66) rfl ?_);refine Zk (some 10) rfl rfl Try.func66 kr rfl #[.int .i64 D] rfl (by(try simp only[List.map_toArray,List.map_cons,List.map_nil]);first|done|rfl|(simp only[List.length_drop,List.length_take];rfl)) ?_;(with_reducible refine(cmp_isNaN_int.calls D false _ A4.out).mono ?_);rintro e w' ⟨rfl,⟨nd,rfl⟩⟩;refine⟨_,rfl, ?_⟩))
    go_ret
    exact⟨qR,by repeat(first|exact Drawn0.refl _|apply Drawn0.step)⟩
   ·rw[if_neg c8] at H
    have c8b0:decide (I<D)=false:=decide_eq_false c8
    clear c8
    by_cases c9:I>D
    ·rw[if_pos c9] at H
     have c9b0:decide (D<I)=true:=decide_eq_true c9
     clear c9
     obtain rfl:=Option.some.inj H
     go_enter Try.func53,Try.ntmps53
     go_wp2_with (first|((with_reducible refine Q0 (f:=66) rfl ?_);refine Zk (some 8) rfl rfl Try.func66 kr rfl #[.int .i64 I] rfl (by(try simp only[List.map_toArray,List.map_cons,List.map_nil]);first|done|rfl|(simp only[List.length_drop,List.length_take];rfl)) ?_;(with_reducible refine(cmp_isNaN_int.calls I false _ A3.out).mono ?_);rintro e w' ⟨rfl,⟨nd,rfl⟩⟩;refine⟨_,rfl, ?_⟩)|((with_reducible refine Q0 (f:=66) rfl ?_);refine Zk (some 10) rfl rfl Try.func66 kr rfl #[.int .i64 D] rfl (by(try simp only[List.map_toArray,List.map_cons,List.map_nil]);first|done|rfl|(simp only[List.length_drop,List.length_take];rfl)) ?_;(with_reducible refine(cmp_isNaN_int.calls D false _ A4.out).mono ?_);rintro e w' ⟨rfl,⟨nd,rfl⟩⟩;refine⟨_,rfl, ?_⟩))
     go_ret
     exact⟨qR,by repeat(first|exact Drawn0.refl _|apply Drawn0.step)⟩
    ·rw[if_neg c9] at H
     have c9b0:decide (D<I)=false:=decide_eq_false c9
     clear c9
     obtain rfl:=Option.some.inj H
     go_enter Try.func53,Try.ntmps53
     go_wp2_with (first|((with_reducible refine Q0 (f:=66) rfl ?_);refine Zk (some 8) rfl rfl Try.func66 kr rfl #[.int .i64 I] rfl (by(try simp only[List.map_toArray,List.map_cons,List.map_nil]);first|done|rfl|(simp only[List.length_drop,List.length_take];rfl)) ?_;(with_reducible refine(cmp_isNaN_int.calls I false _ A3.out).mono ?_);rintro e w' ⟨rfl,⟨nd,rfl⟩⟩;refine⟨_,rfl, ?_⟩)|((with_reducible refine Q0 (f:=66) rfl ?_);refine Zk (some 10) rfl rfl Try.func66 kr rfl #[.int .i64 D] rfl (by(try simp only[List.map_toArray,List.map_cons,List.map_nil]);first|done|rfl|(simp only[List.length_drop,List.length_take];rfl)) ?_;(with_reducible refine(cmp_isNaN_int.calls D false _ A4.out).mono ?_);rintro e w' ⟨rfl,⟨nd,rfl⟩⟩;refine⟨_,rfl, ?_⟩))
     go_ret
     exact⟨qR,by repeat(first|exact Drawn0.refl _|apply Drawn0.step)⟩
def call_halls_1.f (k:Nat) (I:Int) (J:Int) (B:Int) (D:Int) (O:Int) (X:Int):Option (Int):=(cmp_Compare_int.f I D).bind fun Z=>((cmp_Compare_int.f J O).bind fun σ=>((cmp_Or_int.f k (([Z,σ]:List Int))).bind fun a3=>(some a3)))
theorem call_halls_1.mono:∀ I D a2 X J a5 k,LeO (call_halls_1.f k I D a2 X J a5) (call_halls_1.f (k+1) I D a2 X J a5):=by
 intro I D a2 X J a5 k
 unfold call_halls_1.f
 repeat' first
   |(with_reducible exact cmp_Or_int.mono _ _)
   |(with_reducible exact LeO.refl _)
   |(with_reducible exact LeO.none _)
   |(with_reducible refine LeO.ite ?_ ?_)
   |(with_reducible refine LeO.bind ?_ (fun _=>?_))
   |exact cmp_Or_int.mono _ _
   |exact LeO.none _
   |refine LeO.ite ?_ ?_
   |refine LeO.bind ?_ (fun _=>?_)
def call_halls_1.T1:Bool×List (List Nat×List Nat):=(true,[([],[]),([0],[0]),([],[]),([2],[2]),([1,3],[1,3]),([],[]),([5],[5]),([],[]),([7],[7]),([6,8,4],[6,8]),([4,9],[4,9]),([10,9],[10]),([11,11,0,1,2,3,4,5,6,7,8,9,10,11],[11])])
def call_halls_1.B1:List Nat:=[0,1,0,4,15,0,32,0,128,511,1023,2047,4095]
theorem call_halls_1.Gh:rtab .any (opsOf Try.f51 1)=call_halls_1.T1:=by kernel_rfl
theorem call_halls_1.Jt:Zr call_halls_1.T1.2 call_halls_1.B1=true:=by kernel_rfl
set_option maxHeartbeats 8000000 in
set_option maxRecDepth 100000 in
theorem call_halls_1.calls (k:Nat) (I:Int) (J:Int) (B:Int) (D:Int) (O:Int) (X:Int) (r:Int) (w:World) (h:call_halls_1.f k I J B D O X=some r):
  Calls Try.prog 51 #[.agg #[.int .i64 I,.int .i64 J,.int .i64 B],.agg #[.int .i64 D,.int .i64 O,.int .i64 X]] w fun e w'=>e = .returned (.int .i64 r)∧Below w.heap.size w w':=by
 have bq:=Try.underlying56
 have HB:=Aside0.mk (Below.refl w.heap.size w)
 have H:((cmp_Compare_int.f I D).bind fun Z=>((cmp_Compare_int.f J O).bind fun σ=>((cmp_Or_int.f k (([Z,σ]:List Int))).bind fun a3=>(some a3))))=some r:=h
 clear h
 replace H:=Option.bind_eq_some_iff.mp H
 obtain⟨Z,ae,H⟩:=H
 replace H:((cmp_Compare_int.f J O).bind fun σ=>((cmp_Or_int.f k (([Z,σ]:List Int))).bind fun a3=>(some a3)))=some r:=H
 have A3:=Aside0.mk ae
 clear ae
 replace H:=Option.bind_eq_some_iff.mp H
 obtain⟨σ,bv,H⟩:=H
 replace H:((cmp_Or_int.f k (([Z,σ]:List Int))).bind fun a3=>(some a3))=some r:=H
 have A4:=Aside0.mk bv
 clear bv
 obtain⟨ag,δ⟩:∃ y_:List Int,y_=(([Z,σ]:List Int)):=⟨_,rfl⟩
 replace H:((cmp_Or_int.f k ag).bind fun a3=>(some a3))=some r:=by first|(rw[δ];with_reducible exact H)|(have ρ:=(Option.bind_some _ _).symm.trans H;rw[δ];with_reducible exact ρ)|(have ρ:=(Option.bind_some _ _).symm.trans H;with_reducible exact ρ)|with_reducible exact H|(rw[δ];exact H)|exact H
 have al:=Aside0.mk δ
 clear δ
 replace H:=Option.bind_eq_some_iff.mp H
 obtain⟨a3,ca,H⟩:=H
 replace H:(some a3)=some r:=H
 have A5:=Aside0.mk ca
 clear ca
 obtain rfl:=Option.some.inj H
 go_enter Try.func51,Try.ntmps51
 try go_wp2_with (first|((with_reducible refine Qr (N:=2) rfl ?_);refine Q5 ?hg (N:=2) ?hd (cs:=#[.int .i64 I,.int .i64 J,.int .i64 B]) (t:=56) ?hr ?_;(case hd=>rfl);(case hg=>rfl);(case hr=>first|(go_simp;done)|(go_simp;rfl));intro τ hg w6 hbox hb;have U:=Aside0.mk (Qt (by repeat(first|(with_reducible first|exact HB.out|apply Qh|apply Qb|apply Qf)|exact HB.out)) hb);have γ:=Aside0.mk (hbox);have ι :=Aside0.mk ((by rw[hg];exact(Qi (by repeat(first|(with_reducible first|exact HB.out|apply Qh|apply Qb|apply Qf)|exact HB.out))):w.heap.size ≤ τ));have κ :=Aside0.mk ((by rw[hg];exact(Qi (by repeat(first|(with_reducible first|exact HB.out|apply Qh|apply Qb|apply Qf)|exact HB.out))):w.heap.size ≤ τ));clear HB;have HB:=U;have Y:=γ;have bf:= ι;have ak:= κ;clear U γ ι κ;clear hb hbox hg)|((with_reducible refine Qr (N:=3) rfl ?_);refine Q5 ?hg (N:=3) ?hd (cs:=#[.int .i64 D,.int .i64 O,.int .i64 X]) (t:=56) ?hr ?_;(case hd=>rfl);(case hg=>rfl);(case hr=>first|(go_simp;done)|(go_simp;rfl));intro a6 hg w7 hbox hb;have U:=Aside0.mk (Qm (g:= τ) (o:=.cells #[.int .i64 I,.int .i64 J,.int .i64 B] 56 (0,0)) (by(with_reducible repeat first|apply Qd|apply Qa|apply Qe);exact Y.out) hb);have γ:=Aside0.mk (Qt (by repeat(first|(with_reducible first|exact HB.out|apply Qh|apply Qb|apply Qf|refine Qc ?_ ak.out)|exact HB.out)) hb);have ι :=Aside0.mk (hbox);have κ :=Aside0.mk ((by rw[hg];exact(Qi (by repeat(first|(with_reducible first|exact HB.out|apply Qh|apply Qb|apply Qf|refine Qc ?_ ak.out)|exact HB.out))):w.heap.size≤a6));have ξ :=Aside0.mk ((by rw[hg];exact(Qi (by repeat(first|(with_reducible first|exact HB.out|apply Qh|apply Qb|apply Qf|refine Qc ?_ ak.out)|exact HB.out))):w.heap.size≤a6));have χ :=Aside0.mk ((by rw[hg];exact Nat.ne_of_lt (Q3 (g:= τ) (o:=.cells #[.int .i64 I,.int .i64 J,.int .i64 B] 56 (0,0)) (by(with_reducible repeat first|apply Qd|apply Qa|apply Qe);exact Y.out)): τ ≠ a6));have a1:=Aside0.mk ((by rw[hg];exact Nat.ne_of_gt (Q3 (g:= τ) (o:=.cells #[.int .i64 I,.int .i64 J,.int .i64 B] 56 (0,0)) (by(with_reducible repeat first|apply Qd|apply Qa|apply Qe);exact Y.out)):a6 ≠ τ));clear Y;clear HB;have Y:=U;have HB:=γ;have μ := ι;have bh:= κ;have b3:= ξ;have a7:= χ;have a8:=a1;clear U γ ι κ ξ χ a1;clear hb hbox hg))
 have U:=Aside0.mk (Qa Y.out)
 have γ:=Aside0.mk (Qa μ.out)
 have ι :=Aside0.mk (Qf HB.out)
 clear Y
 clear μ
 clear HB
 have Y:=U
 have μ :=γ
 have HB:= ι
 clear U γ ι
 refine Zn (n:=13) (S:=fun w'=>w'.cell? ⟨τ,0,none⟩=some (.int .i64 I)∧w'.cell? ⟨τ,1,none⟩=some (.int .i64 J)∧w'.cell? ⟨τ,2,none⟩=some (.int .i64 B)∧w'.cell? ⟨a6,0,none⟩=some (.int .i64 D)∧w'.cell? ⟨a6,1,none⟩=some (.int .i64 O)∧w'.cell? ⟨a6,2,none⟩=some (.int .i64 X)) (ds:=[]) #[false,false,false,false,false,false,false,false,false,false,false,false,false] kr rfl rfl ⟨(Ql Y.out 0).trans rfl,(Ql Y.out 1).trans rfl,(Ql Y.out 2).trans rfl,(Ql μ.out 0).trans rfl,(Ql μ.out 1).trans rfl,(Ql μ.out 2).trans rfl⟩ (fun hHeld=>?_);refine Q8 call_halls_1.Gh call_halls_1.Jt (fun HT_ HW_=>?_)
 generalize w7.drew=w8 at Y μ HB hHeld ⊢
 refine qP 0 (some 5) (qB 13 1) HT_ ?_
 refine qP 2 (some 7) (qB 13 5) HT_ ?_
 refine qP 5 (some 10) (qB 13 37) HT_ ?_
 refine qP 7 (some 12) (qB 13 165) HT_ ?_
 refine qT 1 (some 6) (qB 13 167) HT_ HW_ hHeld ?_
 refine qT 3 (some 8) (qB 13 175) HT_ HW_ hHeld ?_
 refine qT 6 (some 11) (qB 13 239) HT_ HW_ hHeld ?_
 refine qT 8 (some 13) (qB 13 495) HT_ HW_ hHeld ?_
 refine Zg (i:=4) (N:=some 9) #[true,true,true,true,true,true,true,true,true,false,false,false,false] rfl rfl (Q1 HT_.out kr) (by decide) (fun K hK=>?_)
 refine Ze Try.func53 kr rfl #[.int .i64 I,.int .i64 D] (by rfl) rfl rfl (by(try simp only[List.map_toArray,List.map_cons,List.map_nil]);first|done|rfl|(simp only[List.length_drop,List.length_take];rfl)) ?_
 with_reducible refine(cmp_Compare_int.calls I D Z _ A3.out).mono ?_
 rintro e w' ⟨rfl,⟨nd,rfl⟩⟩
 refine⟨_,rfl, ?_⟩
 refine hK.out _ _ ⟨qc Y,qc Y,qc Y,qc μ,qc μ,qc μ⟩ (fun hHeld=>?_)
 clear hK K
 refine qN (some 9) ?_
 refine Zg (i:=9) (N:=some 14) #[true,true,true,true,true,true,true,true,true,true,false,false,false] rfl rfl (Q1 HT_.out kr) (by decide) (fun K hK=>?_)
 refine Ze Try.func53 kr rfl #[.int .i64 J,.int .i64 O] (by rfl) rfl rfl (by(try simp only[List.map_toArray,List.map_cons,List.map_nil]);first|done|rfl|(simp only[List.length_drop,List.length_take];rfl)) ?_
 with_reducible refine(cmp_Compare_int.calls J O σ _ A4.out).mono ?_
 rintro e w' ⟨rfl,⟨nd,rfl⟩⟩
 refine⟨_,rfl, ?_⟩
 refine hK.out _ _ ⟨qc Y,qc Y,qc Y,qc μ,qc μ,qc μ⟩ (fun hHeld=>?_)
 clear hK K
 refine qN (some 14) ?_
 refine Zg (i:=10) (N:=some 15) #[true,true,true,true,true,true,true,true,true,true,true,false,false] rfl rfl (Q1 HT_.out kr) (by decide) (fun K hK=>?_)
 refine Kd.Xl (Kd.int .i64) _ 3 ?hg (N:=15) ?hd (xs:=([Z,σ]:List Int)) (inner:=[.int .i64 Z,.int .i64 σ]) (ok:=fun _=>True) (okp:=fun _=>True) ?hr ?hp (fun _ hk=>hk) trivial (Below.refl _ _) (Nat.le_refl _) (by simp) ?_;(case hd=>rfl);(case hg=>rfl);(case hr=>first|(go_simp;done)|(go_simp;rfl));(case hp=>exact(Reps.one (show Kd.M (Kd.int .i64) _ _ _ Z [.int .i64 Z] from rfl) (Reps.one (show Kd.M (Kd.int .i64) _ _ _ σ [.int .i64 σ] from rfl) (Reps.none _ _))))
 intro η w9 L hb hg_ hnew_
 clear hg_ hnew_
 (first|rw[← al.out] at L|(simp only[Int.reduceToNat] at L;rw[← al.out] at L))
 have U:=Aside0.mk (Kd.Q2 L (Qi (by repeat(first|(with_reducible first|exact HB.out|apply Qh|apply Qb|apply Qf|refine Qc ?_ ak.out|refine Qc ?_ b3.out)|exact HB.out))))
 have γ:=Aside0.mk (Qm (g:= τ) (o:=.cells #[.int .i64 I,.int .i64 J,.int .i64 B] 56 (0,0)) (by(with_reducible repeat first|apply Qd|apply Qa|apply Qe);exact Y.out) hb)
 have ι :=Aside0.mk (Qm (g:=a6) (o:=.cells #[.int .i64 D,.int .i64 O,.int .i64 X] 56 (0,0)) (by(with_reducible repeat first|apply Qd|apply Qa|apply Qe);exact μ.out) hb)
 have κ :=Aside0.mk (Qt (by repeat(first|(with_reducible first|exact HB.out|apply Qh|apply Qb|apply Qf|refine Qc ?_ ak.out|refine Qc ?_ b3.out)|exact HB.out)) hb)
 clear Y
 clear μ
 clear HB
 have ζ :=U
 have Y:=γ
 have μ := ι
 have HB:= κ
 clear U γ ι κ
 clear hb L
 obtain⟨ν,φ,ε⟩:=Kd.Q4 ζ.out
 (first|subst ε |(injection ε with ψ aa ω;have ab:= ψ.symm;have ac:= ω.symm;clear ψ aa ω;subst ab;subst ac))
 refine hK.out _ _ ⟨qc Y,qc Y,qc Y,qc μ,qc μ,qc μ⟩ (fun hHeld=>?_)
 clear hK K
 refine qN (some 15) ?_
 refine Zg (i:=11) (N:=some 16) #[true,true,true,true,true,true,true,true,true,true,true,true,false] rfl rfl (Q1 HT_.out kr) (by decide) (fun K hK=>?_)
 refine Ze Try.func52 kr rfl #[.slice ν ag.length φ] (by rfl) rfl rfl (by(try simp only[List.map_toArray,List.map_cons,List.map_nil]);first|done|rfl|(simp only[List.length_drop,List.length_take];rfl)) ?_
 with_reducible refine(cmp_Or_int.calls k _ _ ag a3 _ ?side1 ?side2 A5.out).mono ?_
 (case side1=>repeat(first|exact(Kd.Qo ζ.out).2.2|(with_reducible refine Kd.Za ?_ _)|(with_reducible refine Kd.Q9 ?_ _)|(with_reducible refine Kd.Zf ?_)))
 (case side2=>exact(Kd.Qo ζ.out).2.1)
 rintro e w' ⟨rfl,⟨nd,rfl⟩⟩
 refine⟨_,rfl, ?_⟩
 refine hK.out _ _ ⟨qc Y,qc Y,qc Y,qc μ,qc μ,qc μ⟩ (fun hHeld=>?_)
 clear hK K
 refine qN (some 16) ?_
 refine qP 12 (some 4) (qB 13 8191) HT_ ?_
 refine Zu (Zj HT_.out kr) ?_
 try go_wp2
 go_ret
 exact⟨by first|rfl|(simp[Qz,Qy] <;> rfl)|(simp[*,Qz,Qy] <;> rfl),by repeat(first|(with_reducible first|exact HB.out|apply Qh|apply Qb|apply Qf|refine Qc ?_ ak.out|refine Qc ?_ b3.out)|exact HB.out)⟩
def call_ins_1.f (k:Nat) (I:Int) (J:Int) (D:Int) (O:Int):Option (Int):=(cmp_Compare_int.f I D).bind fun B=>((cmp_Compare_int.f J O).bind fun δ =>((cmp_Or_int.f k (([B,δ]:List Int))).bind fun η =>(some η)))
theorem call_ins_1.mono:∀ I D a2 X k,LeO (call_ins_1.f k I D a2 X) (call_ins_1.f (k+1) I D a2 X):=by
 intro I D a2 X k
 unfold call_ins_1.f
 repeat' first
   |(with_reducible exact cmp_Or_int.mono _ _)
   |(with_reducible exact LeO.refl _)
   |(with_reducible exact LeO.none _)
   |(with_reducible refine LeO.ite ?_ ?_)
   |(with_reducible refine LeO.bind ?_ (fun _=>?_))
   |exact cmp_Or_int.mono _ _
   |exact LeO.none _
   |refine LeO.ite ?_ ?_
   |refine LeO.bind ?_ (fun _=>?_)
def call_ins_1.T1:Bool×List (List Nat×List Nat):=(true,[([],[]),([0],[0]),([],[]),([2],[2]),([1,3],[1,3]),([],[]),([5],[5]),([],[]),([7],[7]),([6,8,4],[6,8]),([4,9],[4,9]),([10,9],[10]),([11,11,0,1,2,3,4,5,6,7,8,9,10,11],[11])])
def call_ins_1.B1:List Nat:=[0,1,0,4,15,0,32,0,128,511,1023,2047,4095]
theorem call_ins_1.Gh:rtab .any (opsOf Try.f57 1)=call_ins_1.T1:=by kernel_rfl
theorem call_ins_1.Jt:Zr call_ins_1.T1.2 call_ins_1.B1=true:=by kernel_rfl
set_option maxHeartbeats 8000000 in
set_option maxRecDepth 100000 in
theorem call_ins_1.calls (k:Nat) (I:Int) (J:Int) (D:Int) (O:Int) (r:Int) (w:World) (h:call_ins_1.f k I J D O=some r):
  Calls Try.prog 57 #[.agg #[.int .i64 I,.int .i64 J],.agg #[.int .i64 D,.int .i64 O]] w fun e w'=>e = .returned (.int .i64 r)∧Below w.heap.size w w':=by
 have bd:=Try.underlying62
 have HB:=Aside0.mk (Below.refl w.heap.size w)
 have H:((cmp_Compare_int.f I D).bind fun B=>((cmp_Compare_int.f J O).bind fun δ =>((cmp_Or_int.f k (([B,δ]:List Int))).bind fun η =>(some η))))=some r:=h
 clear h
 replace H:=Option.bind_eq_some_iff.mp H
 obtain⟨B,ae,H⟩:=H
 replace H:((cmp_Compare_int.f J O).bind fun δ =>((cmp_Or_int.f k (([B,δ]:List Int))).bind fun η =>(some η)))=some r:=H
 have A3:=Aside0.mk ae
 clear ae
 replace H:=Option.bind_eq_some_iff.mp H
 obtain⟨δ,bv,H⟩:=H
 replace H:((cmp_Or_int.f k (([B,δ]:List Int))).bind fun η =>(some η))=some r:=H
 have A4:=Aside0.mk bv
 clear bv
 obtain⟨dd,ax⟩:∃ y_:List Int,y_=(([B,δ]:List Int)):=⟨_,rfl⟩
 replace H:((cmp_Or_int.f k dd).bind fun η =>(some η))=some r:=by first|(rw[ax];with_reducible exact H)|(have ρ:=(Option.bind_some _ _).symm.trans H;rw[ax];with_reducible exact ρ)|(have ρ:=(Option.bind_some _ _).symm.trans H;with_reducible exact ρ)|with_reducible exact H|(rw[ax];exact H)|exact H
 have dy:=Aside0.mk ax
 clear ax
 replace H:=Option.bind_eq_some_iff.mp H
 obtain⟨η,ca,H⟩:=H
 replace H:(some η)=some r:=H
 have A5:=Aside0.mk ca
 clear ca
 obtain rfl:=Option.some.inj H
 go_enter Try.func57,Try.ntmps57
 try go_wp2_with (first|((with_reducible refine Qr (N:=2) rfl ?_);refine Q5 ?hg (N:=2) ?hd (cs:=#[.int .i64 I,.int .i64 J]) (t:=62) ?hr ?_;(case hd=>rfl);(case hg=>rfl);(case hr=>first|(go_simp;done)|(go_simp;rfl));intro Y hg w6 hbox hb;have U:=Aside0.mk (Qt (by repeat(first|(with_reducible first|exact HB.out|apply Qh|apply Qb|apply Qf)|exact HB.out)) hb);have γ:=Aside0.mk (hbox);have ι :=Aside0.mk ((by rw[hg];exact(Qi (by repeat(first|(with_reducible first|exact HB.out|apply Qh|apply Qb|apply Qf)|exact HB.out))):w.heap.size≤Y));have κ :=Aside0.mk ((by rw[hg];exact(Qi (by repeat(first|(with_reducible first|exact HB.out|apply Qh|apply Qb|apply Qf)|exact HB.out))):w.heap.size≤Y));clear HB;have HB:=U;have X:=γ;have ak:= ι;have θ := κ;clear U γ ι κ;clear hb hbox hg)|((with_reducible refine Qr (N:=3) rfl ?_);refine Q5 ?hg (N:=3) ?hd (cs:=#[.int .i64 D,.int .i64 O]) (t:=62) ?hr ?_;(case hd=>rfl);(case hg=>rfl);(case hr=>first|(go_simp;done)|(go_simp;rfl));intro ai hg w7 hbox hb;have U:=Aside0.mk (Qm (g:=Y) (o:=.cells #[.int .i64 I,.int .i64 J] 62 (0,0)) (by(with_reducible repeat first|apply Qd|apply Qa|apply Qe);exact X.out) hb);have γ:=Aside0.mk (Qt (by repeat(first|(with_reducible first|exact HB.out|apply Qh|apply Qb|apply Qf|refine Qc ?_ θ.out)|exact HB.out)) hb);have ι :=Aside0.mk (hbox);have κ :=Aside0.mk ((by rw[hg];exact(Qi (by repeat(first|(with_reducible first|exact HB.out|apply Qh|apply Qb|apply Qf|refine Qc ?_ θ.out)|exact HB.out))):w.heap.size≤ai));have ξ :=Aside0.mk ((by rw[hg];exact(Qi (by repeat(first|(with_reducible first|exact HB.out|apply Qh|apply Qb|apply Qf|refine Qc ?_ θ.out)|exact HB.out))):w.heap.size≤ai));have χ :=Aside0.mk ((by rw[hg];exact Nat.ne_of_lt (Q3 (g:=Y) (o:=.cells #[.int .i64 I,.int .i64 J] 62 (0,0)) (by(with_reducible repeat first|apply Qd|apply Qa|apply Qe);exact X.out)):Y≠ai));have a1:=Aside0.mk ((by rw[hg];exact Nat.ne_of_gt (Q3 (g:=Y) (o:=.cells #[.int .i64 I,.int .i64 J] 62 (0,0)) (by(with_reducible repeat first|apply Qd|apply Qa|apply Qe);exact X.out)):ai≠Y));clear X;clear HB;have X:=U;have HB:=γ;have Z:= ι;have iu:= κ;have dz:= ξ;have ζ := χ;have μ :=a1;clear U γ ι κ ξ χ a1;clear hb hbox hg))
 have U:=Aside0.mk (Qa X.out)
 have γ:=Aside0.mk (Qa Z.out)
 have ι :=Aside0.mk (Qf HB.out)
 clear X
 clear Z
 clear HB
 have X:=U
 have Z:=γ
 have HB:= ι
 clear U γ ι
 refine Zn (n:=13) (S:=fun w'=>w'.cell? ⟨Y,0,none⟩=some (.int .i64 I)∧w'.cell? ⟨Y,1,none⟩=some (.int .i64 J)∧w'.cell? ⟨ai,0,none⟩=some (.int .i64 D)∧w'.cell? ⟨ai,1,none⟩=some (.int .i64 O)) (ds:=[]) #[false,false,false,false,false,false,false,false,false,false,false,false,false] kr rfl rfl ⟨(Ql X.out 0).trans rfl,(Ql X.out 1).trans rfl,(Ql Z.out 0).trans rfl,(Ql Z.out 1).trans rfl⟩ (fun hHeld=>?_);refine Q8 call_ins_1.Gh call_ins_1.Jt (fun HT_ HW_=>?_)
 generalize w7.drew=w8 at X Z HB hHeld ⊢
 refine qP 0 (some 5) (qB 13 1) HT_ ?_
 refine qP 2 (some 7) (qB 13 5) HT_ ?_
 refine qP 5 (some 10) (qB 13 37) HT_ ?_
 refine qP 7 (some 12) (qB 13 165) HT_ ?_
 refine qT 1 (some 6) (qB 13 167) HT_ HW_ hHeld ?_
 refine qT 3 (some 8) (qB 13 175) HT_ HW_ hHeld ?_
 refine qT 6 (some 11) (qB 13 239) HT_ HW_ hHeld ?_
 refine qT 8 (some 13) (qB 13 495) HT_ HW_ hHeld ?_
 refine Zg (i:=4) (N:=some 9) #[true,true,true,true,true,true,true,true,true,false,false,false,false] rfl rfl (Q1 HT_.out kr) (by decide) (fun K hK=>?_)
 refine Ze Try.func53 kr rfl #[.int .i64 I,.int .i64 D] (by rfl) rfl rfl (by(try simp only[List.map_toArray,List.map_cons,List.map_nil]);first|done|rfl|(simp only[List.length_drop,List.length_take];rfl)) ?_
 with_reducible refine(cmp_Compare_int.calls I D B _ A3.out).mono ?_
 rintro e w' ⟨rfl,⟨nd,rfl⟩⟩
 refine⟨_,rfl, ?_⟩
 refine hK.out _ _ ⟨qc X,qc X,qc Z,qc Z⟩ (fun hHeld=>?_)
 clear hK K
 refine qN (some 9) ?_
 refine Zg (i:=9) (N:=some 14) #[true,true,true,true,true,true,true,true,true,true,false,false,false] rfl rfl (Q1 HT_.out kr) (by decide) (fun K hK=>?_)
 refine Ze Try.func53 kr rfl #[.int .i64 J,.int .i64 O] (by rfl) rfl rfl (by(try simp only[List.map_toArray,List.map_cons,List.map_nil]);first|done|rfl|(simp only[List.length_drop,List.length_take];rfl)) ?_
 with_reducible refine(cmp_Compare_int.calls J O δ _ A4.out).mono ?_
 rintro e w' ⟨rfl,⟨nd,rfl⟩⟩
 refine⟨_,rfl, ?_⟩
 refine hK.out _ _ ⟨qc X,qc X,qc Z,qc Z⟩ (fun hHeld=>?_)
 clear hK K
 refine qN (some 14) ?_
 refine Zg (i:=10) (N:=some 15) #[true,true,true,true,true,true,true,true,true,true,true,false,false] rfl rfl (Q1 HT_.out kr) (by decide) (fun K hK=>?_)
 refine Kd.Xl (Kd.int .i64) _ 3 ?hg (N:=15) ?hd (xs:=([B,δ]:List Int)) (inner:=[.int .i64 B,.int .i64 δ]) (ok:=fun _=>True) (okp:=fun _=>True) ?hr ?hp (fun _ hk=>hk) trivial (Below.refl _ _) (Nat.le_refl _) (by simp) ?_;(case hd=>rfl);(case hg=>rfl);(case hr=>first|(go_simp;done)|(go_simp;rfl));(case hp=>exact(Reps.one (show Kd.M (Kd.int .i64) _ _ _ B [.int .i64 B] from rfl) (Reps.one (show Kd.M (Kd.int .i64) _ _ _ δ [.int .i64 δ] from rfl) (Reps.none _ _))))
 intro ka w9 L hb hg_ hnew_
 clear hg_ hnew_
 (first|rw[← dy.out] at L|(simp only[Int.reduceToNat] at L;rw[← dy.out] at L))
 have U:=Aside0.mk (Kd.Q2 L (Qi (by repeat(first|(with_reducible first|exact HB.out|apply Qh|apply Qb|apply Qf|refine Qc ?_ θ.out|refine Qc ?_ dz.out)|exact HB.out))))
 have γ:=Aside0.mk (Qm (g:=Y) (o:=.cells #[.int .i64 I,.int .i64 J] 62 (0,0)) (by(with_reducible repeat first|apply Qd|apply Qa|apply Qe);exact X.out) hb)
 have ι :=Aside0.mk (Qm (g:=ai) (o:=.cells #[.int .i64 D,.int .i64 O] 62 (0,0)) (by(with_reducible repeat first|apply Qd|apply Qa|apply Qe);exact Z.out) hb)
 have κ :=Aside0.mk (Qt (by repeat(first|(with_reducible first|exact HB.out|apply Qh|apply Qb|apply Qf|refine Qc ?_ θ.out|refine Qc ?_ dz.out)|exact HB.out)) hb)
 clear X
 clear Z
 clear HB
 have d5:=U
 have X:=γ
 have Z:= ι
 have HB:= κ
 clear U γ ι κ
 clear hb L
 obtain⟨ν,φ,ε⟩:=Kd.Q4 d5.out
 (first|subst ε |(injection ε with ψ aa ω;have ab:= ψ.symm;have ac:= ω.symm;clear ψ aa ω;subst ab;subst ac))
 refine hK.out _ _ ⟨qc X,qc X,qc Z,qc Z⟩ (fun hHeld=>?_)
 clear hK K
 refine qN (some 15) ?_
 refine Zg (i:=11) (N:=some 16) #[true,true,true,true,true,true,true,true,true,true,true,true,false] rfl rfl (Q1 HT_.out kr) (by decide) (fun K hK=>?_)
 refine Ze Try.func52 kr rfl #[.slice ν dd.length φ] (by rfl) rfl rfl (by(try simp only[List.map_toArray,List.map_cons,List.map_nil]);first|done|rfl|(simp only[List.length_drop,List.length_take];rfl)) ?_
 with_reducible refine(cmp_Or_int.calls k _ _ dd η _ ?side1 ?side2 A5.out).mono ?_
 (case side1=>repeat(first|exact(Kd.Qo d5.out).2.2|(with_reducible refine Kd.Za ?_ _)|(with_reducible refine Kd.Q9 ?_ _)|(with_reducible refine Kd.Zf ?_)))
 (case side2=>exact(Kd.Qo d5.out).2.1)
 rintro e w' ⟨rfl,⟨nd,rfl⟩⟩
 refine⟨_,rfl, ?_⟩
 refine hK.out _ _ ⟨qc X,qc X,qc Z,qc Z⟩ (fun hHeld=>?_)
 clear hK K
 refine qN (some 16) ?_
 refine qP 12 (some 4) (qB 13 8191) HT_ ?_
 refine Zu (Zj HT_.out kr) ?_
 try go_wp2
 go_ret
 exact⟨by first|rfl|(simp[Qz,Qy] <;> rfl)|(simp[*,Qz,Qy] <;> rfl),by repeat(first|(with_reducible first|exact HB.out|apply Qh|apply Qb|apply Qf|refine Qc ?_ θ.out|refine Qc ?_ dz.out)|exact HB.out)⟩
end Go.Proofs.Ytjehhhlhalkieaa.K
namespace Go.Proofs.Ytjehhhlhalkieaa.C
open Go.RowKit Go.Proofs.YtjehhhlhalkieaaW.PrintWords Go.Proofs.YtjehhhlhalkieaaW.PrintLast Go.Proofs.YtjehhhlhalkieaaW.PrintMore
attribute [local go_sem] Z2 Z0 Xb Xa Zq Zp Z1 Zz
set_option linter.unusedVariables false
set_option linter.unusedSimpArgs false
def call_within.f (I:Int) (D:Int) (a2:Int):Option (Bool):=if D≤I then (some (decide (I≤a2))) else (some false)
set_option maxHeartbeats 8000000 in
set_option maxRecDepth 100000 in
theorem call_within.calls (I:Int) (D:Int) (a2:Int) (r:Bool) (w:World) (h:call_within.f I D a2=some r):
  Calls Try.prog 41 #[.int .i64 I,.int .i64 D,.int .i64 a2] w fun e w'=>e = .returned (.bool r)∧Drawn0 w w':=by
 have H:(if D≤I then (some (decide (I≤a2))) else (some false))=some r:=h
 clear h
 by_cases c4:D≤I
 ·rw[if_pos c4] at H
  have c4b0:decide (D≤I)=true:=decide_eq_true c4
  clear c4
  obtain rfl:=Option.some.inj H
  go_enter Try.func41,Try.ntmps41
  go_wp2
  go_ret
  exact⟨qR,by repeat(first|exact Drawn0.refl _|apply Drawn0.step)⟩
 ·rw[if_neg c4] at H
  have c4b0:decide (D≤I)=false:=decide_eq_false c4
  clear c4
  obtain rfl:=Option.some.inj H
  go_enter Try.func41,Try.ntmps41
  go_wp2
  go_ret
  exact⟨qR,by repeat(first|exact Drawn0.refl _|apply Drawn0.step)⟩
end Go.Proofs.Ytjehhhlhalkieaa.C
namespace Go.Proofs.Ytjehhhlhalkieaa.C
open Go.RowKit Go.Proofs.YtjehhhlhalkieaaW.PrintWords Go.Proofs.YtjehhhlhalkieaaW.PrintLast Go.Proofs.YtjehhhlhalkieaaW.PrintMore
set_option linter.unusedVariables false
set_option linter.unusedSimpArgs false
section
variable {P : Program} {ops : Array Oper} {Q : Exit → Act → World → Prop}
theorem Xm {oi:Oper} {N:Option Tmp} {a:Act} {w:World} {K:Act→World→Prop} {f:FuncId} {fn:Func} {x:Operand} {xs:Array Operand} {ts:Array TypeId} (hf:P.funcs[f]?=some fn) (hname:(fn.name == "runtime.NumGoroutine")=false) (hb:fn.body.isSome=true) (first cap args all:Array Value) (hall:first ++ args++cap=all)
    (hw:Region.wanted oi (yielded ops a.tmps)=true) (hN:oi.dst=N) (hop:oi.op = .call {callee:=.value x,args:=xs,argTypes:=ts}) (hx:a.eval x = .func (.func f) first cap) (hargs:xs.map a.eval=args)
    (h:Calls P f all w fun e w'=>∃ v,e = .returned v∧K (a.put N v) w'):if Region.wanted oi (yielded ops a.tmps)=true then Oper.wp P oi a w K Q else K (a.put N undef) w:=by
  refine Nr f all hw hN ?_ h
  have he:=Vt hf hname hb all w
  unfold execOp
  simp[hop,hx,resolve,Deferred.ofValue,invoke,hargs,hall,he]
end
def tok (a b:Int):Int:=a * 18446744073709551616+(b+9223372036854775808)
def X7 (t:Int):Int:=t / 18446744073709551616
def X6 (t:Int):Int:=t % 18446744073709551616-9223372036854775808
theorem Ji (a b:Int) (h: -9223372036854775808≤b∧b≤9223372036854775807):X7 (tok a b)=a:=by unfold X7 tok;omega
theorem Jh (a b:Int) (h: -9223372036854775808≤b∧b≤9223372036854775807):X6 (tok a b)=b:=by unfold X6 tok;omega
theorem Zt {w W:World} {g:Nat} {t:TypeId} {cs:Array Value} (h:w.heap[g]?=some (.cells cs t (0,0))) (hb:Below w.heap.size w W):W.heap[g]?=some (.cells cs t (0,0)):=Qm h hb
def Vw (a b:Int):Int:=if a<b then -1 else if a>b then 1 else 0
def Z7 (I D B Z:Int):Int:=if Vw I B≠0 then Vw I B else Vw D Z
theorem cmp_eq (a b:Int):K.cmp_Compare_int.f a b=some (Vw a b):=by
  unfold K.cmp_Compare_int.f K.cmp_isNaN_int.f Vw
  simp only[Option.bind_some,bne_self_eq_false]
  rw[if_neg (by decide),if_neg (by decide)]
  split
  · rfl
  · split <;> rfl
theorem Nm (a b:Int):K.cmp_Or_int.f 5 [a,b]=some (if a≠0 then a else b):=by
  have w1:wrap64 (0+1)=1:=by unfold wrap64;omega
  have Z:wrap64 (1+1)=2:=by unfold wrap64;omega
  have r0:rd [a,b] 0=a:=rfl
  have r1:rd [a,b] 1=b:=rfl
  have B:(([a,b]:List Int).length:Int)=2:=rfl
  unfold K.cmp_Or_int.f
  rw[B,K.cmp_Or_int.l0,if_pos (by decide),if_pos (by decide),B,if_pos (by decide),r0,w1]
  by_cases h:a=0
  · rw[if_pos h,if_neg (fun g=>g h),K.cmp_Or_int.l0,if_pos (by decide),if_pos (by decide),B,if_pos (by decide),r1,Z]
    by_cases O:b=0
    · rw[if_pos O,K.cmp_Or_int.l0,if_neg (by decide),O]
    · rw[if_neg O]
  · rw[if_neg h,if_pos h]
def call_halls_1.f (I J B D O X:Int):Option Int:=some (Z7 I J D O)
def call_ins_1.f (I J D O:Int):Option Int:=some (Z7 I J D O)
theorem call_halls_1.calls (I J B D O X r:Int) (w:World) (h:call_halls_1.f I J B D O X=some r):
    Calls Try.prog 51 #[.agg #[.int .i64 I,.int .i64 J,.int .i64 B],.agg #[.int .i64 D,.int .i64 O,.int .i64 X]] w fun e w'=>e = .returned (.int .i64 r)∧Below w.heap.size w w':=by
  refine K.call_halls_1.calls 5 I J B D O X r w ?_
  unfold K.call_halls_1.f
  rw[cmp_eq,cmp_eq]
  simp only[Option.bind_some]
  rw[Nm]
  exact h
theorem call_ins_1.calls (I J D O r:Int) (w:World) (h:call_ins_1.f I J D O=some r):
    Calls Try.prog 57 #[.agg #[.int .i64 I,.int .i64 J],.agg #[.int .i64 D,.int .i64 O]] w fun e w'=>e = .returned (.int .i64 r)∧Below w.heap.size w w':=by
  refine K.call_ins_1.calls 5 I J D O r w ?_
  unfold K.call_ins_1.f
  rw[cmp_eq,cmp_eq]
  simp only[Option.bind_some]
  rw[Nm]
  exact h
def Xp (F C:Int) (J L X:Int):Bool:=decide ((L=1∨L = -1)∧(0≤J∧J≤wrap64 (F-1))∧(0≤wrap64 (J+L)∧wrap64 (J+L)≤wrap64 (F-1))∧(-1≤X∧X≤wrap64 (C-1)))
def Y0 (F C:Int) (J L:Int):Bool:=decide ((0≤J∧J≤wrap64 (C-1))∧(0≤L∧L≤wrap64 (F-1)))
theorem Jg (a b c:Int) (r:Bool) (h:decide (b≤a∧a≤c)=r):call_within.f a b c=some r:=by
  unfold call_within.f
  subst h
  by_cases h1:b≤a
  · rw[if_pos h1];simp[h1]
  · rw[if_neg h1];simp[h1]
theorem L3 (F C J L X:Int):Xp F C J L X=((L==1||L == -1)&&(decide (0≤J∧J≤wrap64 (F-1))&&(decide (0≤wrap64 (J+L)∧wrap64 (J+L)≤wrap64 (F-1))&&decide (-1≤X∧X≤wrap64 (C-1))))):=by
  unfold Xp
  rw[Bool.eq_iff_iff]
  simp[and_assoc]
theorem Mx (F C J L:Int):Y0 F C J L=(decide (0≤J∧J≤wrap64 (C-1))&&decide (0≤L∧L≤wrap64 (F-1))):=by
  unfold Y0
  rw[Bool.eq_iff_iff]
  simp[and_assoc]
def call_hall_1.f (I J B D:Int):Option Bool:=some (Xp (X7 D) (X6 D) I J B)
def call_inside_1.f (I J D:Int):Option Bool:=some (Y0 (X7 D) (X6 D) I J)
set_option maxRecDepth 100000 in
set_option maxHeartbeats 4000000 in
theorem Ke (F C J L X:Int) (r:Bool) (w:World) (h:Xp F C J L X=r) (g:Nat) (hg:w.heap[g]?=some (.cells #[.int .i64 F,.int .i64 C] 23 (0,0))):
    Calls Try.prog 61 #[.agg #[.int .i64 J,.int .i64 L,.int .i64 X],.pointer (some ⟨g,0,none⟩)] w fun e w'=>e = .returned (.bool r)∧Below w.heap.size w w':=by
  rw[L3] at h
  have HG:=Aside0.mk hg
  have HB:=Aside0.mk (Below.refl w.heap.size w)
  clear hg
  have B:∃ b,decide (0≤J∧J≤wrap64 (F-1))=b:=⟨_,rfl⟩
  have D:∃ b,decide (0≤wrap64 (J+L)∧wrap64 (J+L)≤wrap64 (F-1))=b:=⟨_,rfl⟩
  have I:∃ b,decide (-1≤X∧X≤wrap64 (C-1))=b:=⟨_,rfl⟩
  have O:∃ b,(L==1)=b:=⟨_,rfl⟩
  have γ:∃ b,(L == -1)=b:=⟨_,rfl⟩
  obtain⟨Z,B⟩:=B
  obtain⟨b2,D⟩:=D
  obtain⟨b3,I⟩:=I
  obtain⟨d1,O⟩:=O
  obtain⟨d2,γ⟩:=γ
  rw[B,D,I,O,γ] at h
  have Y:=Aside0.mk B
  have D2:=Aside0.mk D
  have D3:=Aside0.mk I
  clear B D I
  cases d1 <;> cases d2 <;> cases Z <;> cases b2 <;> cases b3 <;> simp only[Bool.or_false,Bool.false_or,Bool.or_true,Bool.true_or,Bool.and_false,Bool.false_and,Bool.and_true,Bool.true_and] at h <;> subst h <;>
  · go_enter Try.func61,Try.ntmps61
    go_wp2_with (first|((with_reducible refine Qr (N:=2) rfl ?_);refine Q5 ?hg (N:=2) ?hd (cs:=#[.int .i64 J,.int .i64 L,.int .i64 X]) (t:=56) ?hr ?_;(case hd=>rfl);(case hg=>rfl);(case hr=>first|(go_simp;done)|(go_simp;rfl));intro gb hgb w1 hbox hb;have U:=Aside0.mk (Qt HB.out hb);clear HB;have HB:=U;clear U;have hk:=Zt HG.out HB.out;have δ :w1.cell? ⟨g,0,none⟩=some (.int .i64 F):=(Ql hk 0).trans rfl;have ε :w1.cell? ⟨g,1,none⟩=some (.int .i64 C):=(Ql hk 1).trans rfl;have ζ :w1.cell? ⟨gb,0,none⟩=some (.int .i64 J):=(Ql hbox 0).trans rfl;have η :w1.cell? ⟨gb,1,none⟩=some (.int .i64 L):=(Ql hbox 1).trans rfl;have θ :w1.cell? ⟨gb,2,none⟩=some (.int .i64 X):=(Ql hbox 2).trans rfl;clear hk hbox hb hgb)|(go_at_call 41;((with_reducible refine(call_within.calls J 0 (wrap64 (F-1)) _ _ (Jg _ _ _ _ Y.out)).mono ?_);rintro e w' ⟨rfl,⟨nd,rfl⟩⟩))|(go_at_call 41;((with_reducible refine(call_within.calls (wrap64 (J+L)) 0 (wrap64 (F-1)) _ _ (Jg _ _ _ _ D2.out)).mono ?_);rintro e w' ⟨rfl,⟨nd,rfl⟩⟩))|(go_at_call 41;((with_reducible refine(call_within.calls X (-1) (wrap64 (C-1)) _ _ (Jg _ _ _ _ D3.out)).mono ?_);rintro e w' ⟨rfl,⟨nd,rfl⟩⟩)))
    go_ret
    exact⟨rfl,by repeat(first|exact HB.out|apply Qb)⟩
set_option maxRecDepth 100000 in
set_option maxHeartbeats 4000000 in
theorem Yv (F C J L:Int) (r:Bool) (w:World) (h:Y0 F C J L=r) (g:Nat) (hg:w.heap[g]?=some (.cells #[.int .i64 F,.int .i64 C] 23 (0,0))):
    Calls Try.prog 50 #[.agg #[.int .i64 J,.int .i64 L],.pointer (some ⟨g,0,none⟩)] w fun e w'=>e = .returned (.bool r)∧Below w.heap.size w w':=by
  rw[Mx] at h
  have HG:=Aside0.mk hg
  have HB:=Aside0.mk (Below.refl w.heap.size w)
  clear hg
  have B:∃ b,decide (0≤J∧J≤wrap64 (C-1))=b:=⟨_,rfl⟩
  have D:∃ b,decide (0≤L∧L≤wrap64 (F-1))=b:=⟨_,rfl⟩
  obtain⟨Z,B⟩:=B
  obtain⟨b2,D⟩:=D
  rw[B,D] at h
  have Y:=Aside0.mk B
  have D2:=Aside0.mk D
  clear B D
  cases Z <;> cases b2 <;> simp only[Bool.and_false,Bool.false_and,Bool.and_true,Bool.true_and] at h <;> subst h <;>
  · go_enter Try.func50,Try.ntmps50
    go_wp2_with (first|((with_reducible refine Qr (N:=2) rfl ?_);refine Q5 ?hg (N:=2) ?hd (cs:=#[.int .i64 J,.int .i64 L]) (t:=62) ?hr ?_;(case hd=>rfl);(case hg=>rfl);(case hr=>first|(go_simp;done)|(go_simp;rfl));intro gb hgb w1 hbox hb;have U:=Aside0.mk (Qt HB.out hb);clear HB;have HB:=U;clear U;have hk:=Zt HG.out HB.out;have δ :w1.cell? ⟨g,0,none⟩=some (.int .i64 F):=(Ql hk 0).trans rfl;have ε :w1.cell? ⟨g,1,none⟩=some (.int .i64 C):=(Ql hk 1).trans rfl;have ζ :w1.cell? ⟨gb,0,none⟩=some (.int .i64 J):=(Ql hbox 0).trans rfl;have η :w1.cell? ⟨gb,1,none⟩=some (.int .i64 L):=(Ql hbox 1).trans rfl;clear hk;clear hbox hb hgb)|(go_at_call 41;((with_reducible refine(call_within.calls J 0 (wrap64 (C-1)) _ _ (Jg _ _ _ _ Y.out)).mono ?_);rintro e w' ⟨rfl,⟨nd,rfl⟩⟩))|(go_at_call 41;((with_reducible refine(call_within.calls L 0 (wrap64 (F-1)) _ _ (Jg _ _ _ _ D2.out)).mono ?_);rintro e w' ⟨rfl,⟨nd,rfl⟩⟩)))
    go_ret
    exact⟨rfl,by repeat(first|exact HB.out|apply Qb)⟩
theorem call_hall_1.calls (I J B D:Int) (r:Bool) (w:World) (h:call_hall_1.f I J B D=some r) (g:Nat) (hg:w.heap[g]?=some (.cells #[.int .i64 (X7 D),.int .i64 (X6 D)] 23 (0,0))):
    Calls Try.prog 61 #[.agg #[.int .i64 I,.int .i64 J,.int .i64 B],.pointer (some ⟨g,0,none⟩)] w fun e w'=>e = .returned (.bool r)∧Below w.heap.size w w':=
  Ke _ _ _ _ _ _ _ (Option.some.inj h) g hg
theorem call_inside_1.calls (I J D:Int) (r:Bool) (w:World) (h:call_inside_1.f I J D=some r) (g:Nat) (hg:w.heap[g]?=some (.cells #[.int .i64 (X7 D),.int .i64 (X6 D)] 23 (0,0))):
    Calls Try.prog 50 #[.agg #[.int .i64 I,.int .i64 J],.pointer (some ⟨g,0,none⟩)] w fun e w'=>e = .returned (.bool r)∧Below w.heap.size w w':=
  Yv _ _ _ _ _ _ (Option.some.inj h) g hg
def api_Hall_without_1.f (I J B D:Int):Option Bool:=some (Z7 (X7 D) (X6 D) I J==0)
set_option maxRecDepth 100000 in
set_option maxHeartbeats 4000000 in
theorem Ki (J L X D I O:Int) (r:Bool) (w:World) (h:(Z7 J L D I==0)=r) (A:Option Addr) (n c:Nat) (gr gx:Nat) (hr:w.heap[gr]?=some (.cells #[.slice A n c,.func (.func 51) #[] #[]] 69 (0,0))) (hx:w.heap[gx]?=some (.cells #[.int .i64 J,.int .i64 L,.int .i64 X] 56 (0,0))):
    Calls Try.prog 56 #[.agg #[.int .i64 D,.int .i64 I,.int .i64 O],.pointer (some ⟨gr,0,none⟩),.pointer (some ⟨gx,0,none⟩)] w fun e w'=>e = .returned (.bool r)∧Below w.heap.size w w':=by
  have HR:=Aside0.mk hr
  have HX:=Aside0.mk hx
  have HB:=Aside0.mk (Below.refl w.heap.size w)
  clear hr hx
  have hd:∃ z,Z7 J L D I=z:=⟨_,rfl⟩
  obtain⟨z,hd⟩:=hd
  rw[hd] at h
  have Y:=Aside0.mk (show call_halls_1.f J L X D I O=some z from congrArg some hd)
  clear hd
  cases r <;>
  · go_enter Try.func56,Try.ntmps56
    go_wp2_with (first|((with_reducible refine Qr (N:=3) rfl ?_);refine Q5 ?hg (N:=3) ?hd (cs:=#[.int .i64 D,.int .i64 I,.int .i64 O]) (t:=56) ?hr ?_;(case hd=>rfl);(case hg=>rfl);(case hr=>first|(go_simp;done)|(go_simp;rfl));intro gb hgb w1 hbox hb;have U:=Aside0.mk (Qt HB.out hb);clear HB;have HB:=U;clear U;have hk:=Zt HR.out HB.out;have hq:=Zt HX.out HB.out;have δ :w1.cell? ⟨gr,0,none⟩=some (.slice A n c):=(Ql hk 0).trans rfl;have ε :w1.cell? ⟨gr,1,none⟩=some (.func (.func 51) #[] #[]):=(Ql hk 1).trans rfl;have B:w1.cell? ⟨gx,0,none⟩=some (.int .i64 J):=(Ql hq 0).trans rfl;have γ:w1.cell? ⟨gx,1,none⟩=some (.int .i64 L):=(Ql hq 1).trans rfl;have ι :w1.cell? ⟨gx,2,none⟩=some (.int .i64 X):=(Ql hq 2).trans rfl;have ζ :w1.cell? ⟨gb,0,none⟩=some (.int .i64 D):=(Ql hbox 0).trans rfl;have η :w1.cell? ⟨gb,1,none⟩=some (.int .i64 I):=(Ql hbox 1).trans rfl;have θ :w1.cell? ⟨gb,2,none⟩=some (.int .i64 O):=(Ql hbox 2).trans rfl;clear hk hq;clear hbox hb hgb)|(go_at_call 51;((with_reducible refine(call_halls_1.calls J L X D I O z _ Y.out).mono ?_);rintro e Z ⟨rfl,hb⟩;have U:=Aside0.mk (Qt HB.out hb);clear HB;have HB:=U;clear U;clear hb)))
    go_ret
    exact⟨rfl,HB.out⟩
theorem api_Hall_without_1.calls (I J B D:Int) (r:Bool) (w:World) (h:api_Hall_without_1.f I J B D=some r) (A:Option Addr) (n c:Nat) (gr gx:Nat) (z:Int) (hr:w.heap[gr]?=some (.cells #[.slice A n c,.func (.func 51) #[] #[]] 69 (0,0))) (hx:w.heap[gx]?=some (.cells #[.int .i64 (X7 D),.int .i64 (X6 D),.int .i64 z] 56 (0,0))):
    Calls Try.prog 56 #[.agg #[.int .i64 I,.int .i64 J,.int .i64 B],.pointer (some ⟨gr,0,none⟩),.pointer (some ⟨gx,0,none⟩)] w fun e w'=>e = .returned (.bool r)∧Below w.heap.size w w':=
  Ki (X7 D) (X6 D) z I J B r w (Option.some.inj h) A n c gr gx hr hx
def api_Inside_without_1.f (I J D:Int):Option Bool:=some (Z7 (X7 D) (X6 D) I J==0)
set_option maxRecDepth 100000 in
set_option maxHeartbeats 4000000 in
theorem J9 (J L D I:Int) (r:Bool) (w:World) (h:(Z7 J L D I==0)=r) (A:Option Addr) (n c:Nat) (gr gx:Nat) (hr:w.heap[gr]?=some (.cells #[.slice A n c,.func (.func 57) #[] #[]] 74 (0,0))) (hx:w.heap[gx]?=some (.cells #[.int .i64 J,.int .i64 L] 62 (0,0))):
    Calls Try.prog 65 #[.agg #[.int .i64 D,.int .i64 I],.pointer (some ⟨gr,0,none⟩),.pointer (some ⟨gx,0,none⟩)] w fun e w'=>e = .returned (.bool r)∧Below w.heap.size w w':=by
  have HR:=Aside0.mk hr
  have HX:=Aside0.mk hx
  have HB:=Aside0.mk (Below.refl w.heap.size w)
  clear hr hx
  have hd:∃ z,Z7 J L D I=z:=⟨_,rfl⟩
  obtain⟨z,hd⟩:=hd
  rw[hd] at h
  have Y:=Aside0.mk (show call_ins_1.f J L D I=some z from congrArg some hd)
  clear hd
  cases r <;>
  · go_enter Try.func65,Try.ntmps65
    go_wp2_with (first|((with_reducible refine Qr (N:=3) rfl ?_);refine Q5 ?hg (N:=3) ?hd (cs:=#[.int .i64 D,.int .i64 I]) (t:=62) ?hr ?_;(case hd=>rfl);(case hg=>rfl);(case hr=>first|(go_simp;done)|(go_simp;rfl));intro gb hgb w1 hbox hb;have U:=Aside0.mk (Qt HB.out hb);clear HB;have HB:=U;clear U;have hk:=Zt HR.out HB.out;have hq:=Zt HX.out HB.out;have δ :w1.cell? ⟨gr,0,none⟩=some (.slice A n c):=(Ql hk 0).trans rfl;have ε :w1.cell? ⟨gr,1,none⟩=some (.func (.func 57) #[] #[]):=(Ql hk 1).trans rfl;have B:w1.cell? ⟨gx,0,none⟩=some (.int .i64 J):=(Ql hq 0).trans rfl;have γ:w1.cell? ⟨gx,1,none⟩=some (.int .i64 L):=(Ql hq 1).trans rfl;have ζ :w1.cell? ⟨gb,0,none⟩=some (.int .i64 D):=(Ql hbox 0).trans rfl;have η :w1.cell? ⟨gb,1,none⟩=some (.int .i64 I):=(Ql hbox 1).trans rfl;clear hk hq;clear hbox hb hgb)|(go_at_call 57;((with_reducible refine(call_ins_1.calls J L D I z _ Y.out).mono ?_);rintro e Z ⟨rfl,hb⟩;have U:=Aside0.mk (Qt HB.out hb);clear HB;have HB:=U;clear U;clear hb)))
    go_ret
    exact⟨rfl,HB.out⟩
theorem api_Inside_without_1.calls (I J D:Int) (r:Bool) (w:World) (h:api_Inside_without_1.f I J D=some r) (A:Option Addr) (n c:Nat) (gr gx:Nat) (z:Int) (hr:w.heap[gr]?=some (.cells #[.slice A n c,.func (.func 57) #[] #[]] 74 (0,0))) (hx:w.heap[gx]?=some (.cells #[.int .i64 (X7 D),.int .i64 (X6 D)] 62 (0,0))):
    Calls Try.prog 65 #[.agg #[.int .i64 I,.int .i64 J],.pointer (some ⟨gr,0,none⟩),.pointer (some ⟨gx,0,none⟩)] w fun e w'=>e = .returned (.bool r)∧Below w.heap.size w w':=
  J9 (X7 D) (X6 D) I J r w (Option.some.inj h) A n c gr gx hr hx
end Go.Proofs.Ytjehhhlhalkieaa.C
set_option linter.unusedVariables false
namespace Go.Proofs.Ytjehhhlhalkieaa.C
open Go.RowKit Go.Proofs.YtjehhhlhalkieaaW.PrintWords Go.Proofs.YtjehhhlhalkieaaW.PrintLast Go.Proofs.YtjehhhlhalkieaaW.PrintMore
theorem bel {B:Nat} {w W:World} (h:Below B w W:=by repeat(first|(with_reducible first|exact HB.out|apply Qh|apply Qb|apply Qf|refine Qc ?_ (Aside0.out (by assumption)))|exact HB.out|(refine Qc ?_ (Aside0.out (by assumption))))):Below B w W:=h
theorem bka {w W:World} {g:Nat} {o:Obj} (b:Aside0 (w.heap[g]?=some o)) (e:W.heap[g]?=some o:=by(with_reducible repeat(first|refine Qd ?_ _|refine Qa ?_|refine Qe ?_ _|refine Zm ?_ (Aside0.out (by assumption)) _));exact Aside0.out (by assumption)):W.heap[g]?=some o:=e
theorem kra {α:Type} {d:Kd α} {I:TypeId} {w W:World} {base:Nat} {ok:Nat→Prop} {v:Value} {xs:List α} (b:Aside0 (d.R I w base ok v xs)) (e:d.R I W base ok v xs:=by(with_reducible repeat first|apply Kd.Qk|apply Kd.Qj|apply Kd.Qn);exact Aside0.out (by assumption)):d.R I W base ok v xs:=e
theorem sRb {α:Type} {d:Kd α} {I:TypeId} {w w1 Z:World} {base:Nat} {ok:Nat→Prop} {v:Value} {xs:List α} (b:Aside0 (d.R I w base ok v xs)) (h:Below w1.heap.size w1 Z) (e:d.R I w1 base ok v xs:=by(with_reducible repeat first|apply Kd.Qk|apply Kd.Qj|apply Kd.Qn);exact Aside0.out (by assumption)):Aside0 (d.R I Z base ok v xs):=⟨Kd.Qu e h⟩
theorem sBk {w w1 Z:World} {g:Nat} {o:Obj} (b:Aside0 (w.heap[g]?=some o)) (h:Below w1.heap.size w1 Z) (e:w1.heap[g]?=some o:=by(with_reducible repeat(first|refine Qd ?_ _|refine Qa ?_|refine Qe ?_ _|refine Zm ?_ (Aside0.out (by assumption)) _));exact Aside0.out (by assumption)):Aside0 (Z.heap[g]?=some o):=⟨Qm e h⟩
theorem sHb {w W Z:World} (h:Below W.heap.size W Z) (b:Below w.heap.size w W:=by repeat(first|(with_reducible first|exact HB.out|apply Qh|apply Qb|apply Qf|refine Qc ?_ (Aside0.out (by assumption)))|exact HB.out|(refine Qc ?_ (Aside0.out (by assumption))))):Aside0 (Below w.heap.size w Z):=⟨Qt b h⟩
theorem sGe {w W:World} {g:Nat} (h:g=W.heap.size) (b:Below w.heap.size w W:=by repeat(first|(with_reducible first|exact HB.out|apply Qh|apply Qb|apply Qf|refine Qc ?_ (Aside0.out (by assumption)))|exact HB.out|(refine Qc ?_ (Aside0.out (by assumption))))):Aside0 (w.heap.size≤g):=⟨by rw[h];exact Qi b⟩
theorem sNl {w W:World} {g k:Nat} {o:Obj} (b:Aside0 (w.heap[g]?=some o)) (h:k=W.heap.size) (e:W.heap[g]?=some o:=by(with_reducible repeat(first|refine Qd ?_ _|refine Qa ?_|refine Qe ?_ _|refine Zm ?_ (Aside0.out (by assumption)) _));exact Aside0.out (by assumption)):Aside0 (g≠k):=⟨by rw[h];exact Nat.ne_of_lt (Q3 e)⟩
theorem sNg {w W:World} {g k:Nat} {o:Obj} (b:Aside0 (w.heap[g]?=some o)) (h:k=W.heap.size) (e:W.heap[g]?=some o:=by(with_reducible repeat(first|refine Qd ?_ _|refine Qa ?_|refine Qe ?_ _|refine Zm ?_ (Aside0.out (by assumption)) _));exact Aside0.out (by assumption)):Aside0 (k≠g):=⟨by rw[h];exact Nat.ne_of_gt (Q3 e)⟩
def bN (n m:Nat):Array Bool:=((List.range n).map fun i=>m.testBit i).toArray
end Go.Proofs.Ytjehhhlhalkieaa.C
namespace Go.Proofs.Ytjehhhlhalkieaa.C
open Go.RowKit Go.Proofs.YtjehhhlhalkieaaW.PrintWords Go.Proofs.YtjehhhlhalkieaaW.PrintLast Go.Proofs.YtjehhhlhalkieaaW.PrintMore
attribute [local go_sem] Z2 Z0 Xb Xa Zq Zp Z1 Zz
set_option linter.unusedVariables false
set_option linter.unusedSimpArgs false
def api_Hall_67.l0:Nat→List (S56)→Int→Int→Int→Option (Int)
 |0,_,_,_,_=>none
 |k+1,J,L,I,D=>if D<I then (if 0≤D then (if D<(J.length:Int) then ((api_Hall_without_1.f ((Qg J D).f0) ((Qg J D).f1) ((Qg J D).f2) L).bind fun au=>(if au=true then (some D) else (api_Hall_67.l0 k J L I (wrap64 (D+1))))) else (none)) else (none)) else (some (-1))
def api_Hall_67.f (k:Nat) (l0:List (S56)) (D:Int):Option (Int):=api_Hall_67.l0 k l0 D (l0.length:Int) 0
theorem api_Hall_67.Zi:∀ k,(∀ D I O J,LeO (api_Hall_67.l0 k D I O J) (api_Hall_67.l0 (k+1) D I O J))
 |0=>fun _ _ _ _ r h=>by simp[api_Hall_67.l0] at h
 |k+1=>by
  have B:=api_Hall_67.Zi k
  ·intro D I O J
   unfold api_Hall_67.l0
   repeat' first
   |(with_reducible exact B _ _ _ _)
   |(with_reducible exact LeO.refl _)
   |(with_reducible exact LeO.none _)
   |(with_reducible refine LeO.ite ?_ ?_)
   |(with_reducible refine LeO.bind ?_ (fun _=>?_))
   |exact B _ _ _ _
   |exact LeO.none _
   |refine LeO.ite ?_ ?_
   |refine LeO.bind ?_ (fun _=>?_)
theorem api_Hall_67.mono:∀ I D k,LeO (api_Hall_67.f k I D) (api_Hall_67.f (k+1) I D):=by
 intro I D k
 have B:=api_Hall_67.Zi k
 unfold api_Hall_67.f
 repeat' first
   |(with_reducible exact B _ _ _ _)
   |(with_reducible exact LeO.refl _)
   |(with_reducible exact LeO.none _)
   |(with_reducible refine LeO.ite ?_ ?_)
   |(with_reducible refine LeO.bind ?_ (fun _=>?_))
   |exact B _ _ _ _
   |exact LeO.none _
   |refine LeO.ite ?_ ?_
   |refine LeO.bind ?_ (fun _=>?_)
set_option maxHeartbeats 8000000 in
set_option maxRecDepth 100000 in
theorem api_Hall_67.calls (k:Nat) (Y:Option Addr) (c0:Nat) (l0:List (S56)) (D:Int) (r:Int) (w:World) (ε :Kd.C k56 w Y l0.length l0) (γ:l0.length≤c0) (h:api_Hall_67.f k l0 D=some r) (Ar_:Option Addr) (nr_ cr_ gr_ gx_:Nat) (zx_:Int) (hgr_:w.heap[gr_]?=some (.cells #[.slice Ar_ nr_ cr_,.func (.func 51) #[] #[]] 69 (0,0))) (hgx_:w.heap[gx_]?=some (.cells #[.int .i64 (X7 D),.int .i64 (X6 D),.int .i64 zx_] 56 (0,0))):
  Calls Try.prog 67 #[.slice Y l0.length c0,.func (.func 56) #[] #[.pointer (some ⟨gr_,0,none⟩),.pointer (some ⟨gx_,0,none⟩)]] w fun e w'=>e = .returned (.int .i64 r)∧Below w.heap.size w w':=by
 have HCR:=Aside0.mk hgr_
 have HCX:=Aside0.mk hgx_
 clear hgr_ hgx_
 have bq:=Try.underlying56
 have μ :=Aside0.mk ε
 have a6:=Aside0.mk γ
 clear ε γ
 have HB:=Aside0.mk (Below.refl w.heap.size w)
 have H:(api_Hall_67.l0 k l0 D (l0.length:Int) 0)=some r:=h
 clear h
 have H':=Aside0.mk H
 clear H
 go_enter Try.func67,Try.ntmps67
 go_wp2
 go_loopg [8] k (fun kq v8 w'=>∃ (B:Int),v8 = .int .i64 B∧Aside0 (api_Hall_67.l0 kq l0 D (l0.length:Int) B=some r)∧Aside0 (kq≤k)∧Aside0 (Below w.heap.size w w'))
 case atStart=>exact⟨(0),rfl,H',⟨Nat.le_refl _⟩,HB⟩
 case round=>
  clear H'
  try clear p2
  obtain⟨B,rfl,HA,ξ,HB⟩:=hrel
  cases gk with
  |zero=>exact absurd HA.out (by simp[api_Hall_67.l0])
  |succ k1=>
   have H:=HA.out
   clear HA
   simp only[api_Hall_67.l0] at H
   by_cases c3:B<(l0.length:Int)
   ·rw[if_pos c3] at H
    have c3b0:decide (B<(l0.length:Int))=true:=decide_eq_true c3
    clear c3
    by_cases c4:0≤B
    ·rw[if_pos c4] at H
     have c4b0:decide (0≤B)=true:=decide_eq_true c4
     clear c4
     by_cases c5:B<(l0.length:Int)
     ·rw[if_pos c5] at H
      have c5b0:decide (B<(l0.length:Int))=true:=decide_eq_true c5
      clear c5
      replace H:=Option.bind_eq_some_iff.mp H
      obtain⟨au,d0,H⟩:=H
      replace H:(if au=true then (some B) else (api_Hall_67.l0 k1 l0 D (l0.length:Int) (wrap64 (B+1))))=some r:=H
      have A6:=Aside0.mk d0
      clear d0
      by_cases c7:au=true
      ·subst c7
       have H1:(some B)=some r:=by rw[if_pos rfl] at H;exact H
       clear H
       have H:=H1
       clear H1
       obtain rfl:=Option.some.inj H
       have O:0≤(B:Int):=of_decide_eq_true (by assumption)
       have X:B<(l0.length:Int):=of_decide_eq_true (by assumption)
       obtain⟨δ,Z,I,J,L⟩:=Z3 μ.out B O X
       cases Z
       replace I:=(HB.out.cell (World.block_lt_of_cell? w _ I)).trans I
       replace J:=(HB.out.cell (World.block_lt_of_cell? w _ J)).trans J
       replace L:=(HB.out.cell (World.block_lt_of_cell? w _ L)).trans L
       replace O:=eq_true O
       replace X:=eq_true X
       go_wp2_with (first|(go_at_call 56;((with_reducible refine(api_Hall_without_1.calls ((Qg l0 B).f0) ((Qg l0 B).f1) ((Qg l0 B).f2) D true _ A6.out Ar_ nr_ cr_ gr_ gx_ zx_ (Zt HCR.out (by repeat(first|(with_reducible first|exact HB.out|apply Qh|apply Qb|apply Qf)|exact HB.out|(refine Qc ?_ (Aside0.out (by assumption)))))) (Zt HCX.out (by repeat(first|(with_reducible first|exact HB.out|apply Qh|apply Qb|apply Qf)|exact HB.out|(refine Qc ?_ (Aside0.out (by assumption))))))).mono ?_);rintro e w8 ⟨rfl,hb⟩;have U:=Aside0.mk (Qt HB.out hb);clear HB;have HB:=U;clear U;(try clear hb);(try clear a0);(try clear hk);(try clear hi))))
       go_ret
       exact⟨rfl,HB.out⟩
      ·replace c7:=Bool.eq_false_iff.mpr c7
       subst c7
       have H1:(api_Hall_67.l0 k1 l0 D (l0.length:Int) (wrap64 (B+1)))=some r:=by rw[if_neg (show ¬ (false=true) by decide)] at H;exact H
       clear H
       have H:=H1
       clear H1
       have H':=Aside0.mk H
       clear H
       have O:0≤(B:Int):=of_decide_eq_true (by assumption)
       have X:B<(l0.length:Int):=of_decide_eq_true (by assumption)
       obtain⟨δ,Z,I,J,L⟩:=Z3 μ.out B O X
       cases Z
       replace I:=(HB.out.cell (World.block_lt_of_cell? w _ I)).trans I
       replace J:=(HB.out.cell (World.block_lt_of_cell? w _ J)).trans J
       replace L:=(HB.out.cell (World.block_lt_of_cell? w _ L)).trans L
       replace O:=eq_true O
       replace X:=eq_true X
       go_wp2_with (first|(go_at_call 56;((with_reducible refine(api_Hall_without_1.calls ((Qg l0 B).f0) ((Qg l0 B).f1) ((Qg l0 B).f2) D false _ A6.out Ar_ nr_ cr_ gr_ gx_ zx_ (Zt HCR.out (by repeat(first|(with_reducible first|exact HB.out|apply Qh|apply Qb|apply Qf)|exact HB.out|(refine Qc ?_ (Aside0.out (by assumption)))))) (Zt HCX.out (by repeat(first|(with_reducible first|exact HB.out|apply Qh|apply Qb|apply Qf)|exact HB.out|(refine Qc ?_ (Aside0.out (by assumption))))))).mono ?_);rintro e w9 ⟨rfl,hb⟩;have U:=Aside0.mk (Qt HB.out hb);clear HB;have HB:=U;clear U;(try clear hb);(try clear a0);(try clear hk);(try clear hi))))
       go_roundg k1
       case measure=>have:= ξ.out;omega
       case rel=>exact⟨(wrap64 (B+1)),rfl,H',⟨by have:= ξ.out;omega⟩,HB⟩
     ·rw[if_neg c5] at H
      exact absurd H (by simp)
    ·rw[if_neg c4] at H
     exact absurd H (by simp)
   ·rw[if_neg c3] at H
    have c3b0:decide (B<(l0.length:Int))=false:=decide_eq_false c3
    clear c3
    obtain rfl:=Option.some.inj H
    go_wp2
    go_ret
    exact⟨rfl,HB.out⟩
def api_Inside_72.l0:Nat→List (S62)→Int→Int→Int→Option (Int)
 |0,_,_,_,_=>none
 |k+1,J,L,I,D=>if D<I then (if 0≤D then (if D<(J.length:Int) then ((api_Inside_without_1.f ((Qp J D).f0) ((Qp J D).f1) L).bind fun Z=>(if Z=true then (some D) else (api_Inside_72.l0 k J L I (wrap64 (D+1))))) else (none)) else (none)) else (some (-1))
def api_Inside_72.f (k:Nat) (l0:List (S62)) (D:Int):Option (Int):=api_Inside_72.l0 k l0 D (l0.length:Int) 0
theorem api_Inside_72.Zi:∀ k,(∀ D I O J,LeO (api_Inside_72.l0 k D I O J) (api_Inside_72.l0 (k+1) D I O J))
 |0=>fun _ _ _ _ r h=>by simp[api_Inside_72.l0] at h
 |k+1=>by
  have B:=api_Inside_72.Zi k
  ·intro D I O J
   unfold api_Inside_72.l0
   repeat' first
   |(with_reducible exact B _ _ _ _)
   |(with_reducible exact LeO.refl _)
   |(with_reducible exact LeO.none _)
   |(with_reducible refine LeO.ite ?_ ?_)
   |(with_reducible refine LeO.bind ?_ (fun _=>?_))
   |exact B _ _ _ _
   |exact LeO.none _
   |refine LeO.ite ?_ ?_
   |refine LeO.bind ?_ (fun _=>?_)
theorem api_Inside_72.mono:∀ I D k,LeO (api_Inside_72.f k I D) (api_Inside_72.f (k+1) I D):=by
 intro I D k
 have B:=api_Inside_72.Zi k
 unfold api_Inside_72.f
 repeat' first
   |(with_reducible exact B _ _ _ _)
   |(with_reducible exact LeO.refl _)
   |(with_reducible exact LeO.none _)
   |(with_reducible refine LeO.ite ?_ ?_)
   |(with_reducible refine LeO.bind ?_ (fun _=>?_))
   |exact B _ _ _ _
   |exact LeO.none _
   |refine LeO.ite ?_ ?_
   |refine LeO.bind ?_ (fun _=>?_)
set_option maxHeartbeats 8000000 in
set_option maxRecDepth 100000 in
theorem api_Inside_72.calls (k:Nat) (Y:Option Addr) (c0:Nat) (l0:List (S62)) (D:Int) (r:Int) (w:World) (ε :Kd.C k62 w Y l0.length l0) (γ:l0.length≤c0) (h:api_Inside_72.f k l0 D=some r) (Ar_:Option Addr) (nr_ cr_ gr_ gx_:Nat) (zx_:Int) (hgr_:w.heap[gr_]?=some (.cells #[.slice Ar_ nr_ cr_,.func (.func 57) #[] #[]] 74 (0,0))) (hgx_:w.heap[gx_]?=some (.cells #[.int .i64 (X7 D),.int .i64 (X6 D)] 62 (0,0))):
  Calls Try.prog 72 #[.slice Y l0.length c0,.func (.func 65) #[] #[.pointer (some ⟨gr_,0,none⟩),.pointer (some ⟨gx_,0,none⟩)]] w fun e w'=>e = .returned (.int .i64 r)∧Below w.heap.size w w':=by
 have HCR:=Aside0.mk hgr_
 have HCX:=Aside0.mk hgx_
 clear hgr_ hgx_
 have bd:=Try.underlying62
 have μ :=Aside0.mk ε
 have a6:=Aside0.mk γ
 clear ε γ
 have HB:=Aside0.mk (Below.refl w.heap.size w)
 have H:(api_Inside_72.l0 k l0 D (l0.length:Int) 0)=some r:=h
 clear h
 have H':=Aside0.mk H
 clear H
 go_enter Try.func72,Try.ntmps72
 go_wp2
 go_loopg [8] k (fun kq v8 w'=>∃ (B:Int),v8 = .int .i64 B∧Aside0 (api_Inside_72.l0 kq l0 D (l0.length:Int) B=some r)∧Aside0 (kq≤k)∧Aside0 (Below w.heap.size w w'))
 case atStart=>exact⟨(0),rfl,H',⟨Nat.le_refl _⟩,HB⟩
 case round=>
  clear H'
  try clear p2
  obtain⟨B,rfl,HA,ξ,HB⟩:=hrel
  cases gk with
  |zero=>exact absurd HA.out (by simp[api_Inside_72.l0])
  |succ k1=>
   have H:=HA.out
   clear HA
   simp only[api_Inside_72.l0] at H
   by_cases c3:B<(l0.length:Int)
   ·rw[if_pos c3] at H
    have c3b0:decide (B<(l0.length:Int))=true:=decide_eq_true c3
    clear c3
    by_cases c4:0≤B
    ·rw[if_pos c4] at H
     have c4b0:decide (0≤B)=true:=decide_eq_true c4
     clear c4
     by_cases c5:B<(l0.length:Int)
     ·rw[if_pos c5] at H
      have c5b0:decide (B<(l0.length:Int))=true:=decide_eq_true c5
      clear c5
      replace H:=Option.bind_eq_some_iff.mp H
      obtain⟨Z,d0,H⟩:=H
      replace H:(if Z=true then (some B) else (api_Inside_72.l0 k1 l0 D (l0.length:Int) (wrap64 (B+1))))=some r:=H
      have A6:=Aside0.mk d0
      clear d0
      by_cases c7:Z=true
      ·subst c7
       have H1:(some B)=some r:=by rw[if_pos rfl] at H;exact H
       clear H
       have H:=H1
       clear H1
       obtain rfl:=Option.some.inj H
       have L:0≤(B:Int):=of_decide_eq_true (by assumption)
       have O:B<(l0.length:Int):=of_decide_eq_true (by assumption)
       obtain⟨ζ,X,I,J⟩:=Z8 μ.out B L O
       cases X
       replace I:=(HB.out.cell (World.block_lt_of_cell? w _ I)).trans I
       replace J:=(HB.out.cell (World.block_lt_of_cell? w _ J)).trans J
       replace L:=eq_true L
       replace O:=eq_true O
       go_wp2_with (first|(go_at_call 65;((with_reducible refine(api_Inside_without_1.calls ((Qp l0 B).f0) ((Qp l0 B).f1) D true _ A6.out Ar_ nr_ cr_ gr_ gx_ zx_ (Zt HCR.out (by repeat(first|(with_reducible first|exact HB.out|apply Qh|apply Qb|apply Qf)|exact HB.out|(refine Qc ?_ (Aside0.out (by assumption)))))) (Zt HCX.out (by repeat(first|(with_reducible first|exact HB.out|apply Qh|apply Qb|apply Qf)|exact HB.out|(refine Qc ?_ (Aside0.out (by assumption))))))).mono ?_);rintro e w8 ⟨rfl,hb⟩;have U:=Aside0.mk (Qt HB.out hb);clear HB;have HB:=U;clear U;(try clear hb);(try clear a0);(try clear hk);(try clear hi))))
       go_ret
       exact⟨rfl,HB.out⟩
      ·replace c7:=Bool.eq_false_iff.mpr c7
       subst c7
       have H1:(api_Inside_72.l0 k1 l0 D (l0.length:Int) (wrap64 (B+1)))=some r:=by rw[if_neg (show ¬ (false=true) by decide)] at H;exact H
       clear H
       have H:=H1
       clear H1
       have H':=Aside0.mk H
       clear H
       have L:0≤(B:Int):=of_decide_eq_true (by assumption)
       have O:B<(l0.length:Int):=of_decide_eq_true (by assumption)
       obtain⟨ζ,X,I,J⟩:=Z8 μ.out B L O
       cases X
       replace I:=(HB.out.cell (World.block_lt_of_cell? w _ I)).trans I
       replace J:=(HB.out.cell (World.block_lt_of_cell? w _ J)).trans J
       replace L:=eq_true L
       replace O:=eq_true O
       go_wp2_with (first|(go_at_call 65;((with_reducible refine(api_Inside_without_1.calls ((Qp l0 B).f0) ((Qp l0 B).f1) D false _ A6.out Ar_ nr_ cr_ gr_ gx_ zx_ (Zt HCR.out (by repeat(first|(with_reducible first|exact HB.out|apply Qh|apply Qb|apply Qf)|exact HB.out|(refine Qc ?_ (Aside0.out (by assumption)))))) (Zt HCX.out (by repeat(first|(with_reducible first|exact HB.out|apply Qh|apply Qb|apply Qf)|exact HB.out|(refine Qc ?_ (Aside0.out (by assumption))))))).mono ?_);rintro e w9 ⟨rfl,hb⟩;have U:=Aside0.mk (Qt HB.out hb);clear HB;have HB:=U;clear U;(try clear hb);(try clear a0);(try clear hk);(try clear hi))))
       go_roundg k1
       case measure=>have:= ξ.out;omega
       case rel=>exact⟨(wrap64 (B+1)),rfl,H',⟨by have:= ξ.out;omega⟩,HB⟩
     ·rw[if_neg c5] at H
      exact absurd H (by simp)
    ·rw[if_neg c4] at H
     exact absurd H (by simp)
   ·rw[if_neg c3] at H
    have c3b0:decide (B<(l0.length:Int))=false:=decide_eq_false c3
    clear c3
    obtain rfl:=Option.some.inj H
    go_wp2
    go_ret
    exact⟨rfl,HB.out⟩
end Go.Proofs.Ytjehhhlhalkieaa.C
namespace Go.Proofs.Ytjehhhlhalkieaa.C
open Go.RowKit Go.Proofs.YtjehhhlhalkieaaW.PrintWords Go.Proofs.YtjehhhlhalkieaaW.PrintLast Go.Proofs.YtjehhhlhalkieaaW.PrintMore
set_option linter.unusedVariables false
structure Flat {α:Type} (d:Kd α) (enc:α→List Value):Prop where
  len:∀ x,(enc x).length=d.sz
  one:∀ x,∀ u ∈ enc x,u.oneCell'=true
  M:∀ w base ok x cs,d.M w base ok x cs↔cs=enc x
  K:∀ w x cs,d.K w x cs↔cs=enc x
def Zd {α:Type} (enc:α→List Value) (xs:List α):List Value:=xs.flatMap enc
section
variable {α : Type} {d : Kd α} {enc : α → List Value}
theorem Gw (x:α) (xs:List α):Zd enc (x :: xs)=enc x++Zd enc xs:=rfl
theorem X2 (xs ys:List α):Zd enc (xs++ys)=Zd enc xs++Zd enc ys:=List.flatMap_append
theorem Zv (F:Flat d enc) (xs:List α):(Zd enc xs).length=xs.length * d.sz:=by
  induction xs with
  |nil=>simp[Zd]
  |cons x xs ih=>rw[Gw,List.length_append,F.len,ih,List.length_cons,Nat.add_mul,Nat.one_mul,Nat.add_comm]
theorem J7 (F:Flat d enc) (xs:List α):∀ u ∈ Zd enc xs,u.oneCell'=true:=by
  intro u hu
  obtain⟨x,_,hx⟩:=List.mem_flatMap.1 hu
  exact F.one x u hx
theorem Y2 (F:Flat d enc) (xs:List α) (m:Nat) (h:m≤xs.length):(Zd enc xs).take (m * d.sz)=Zd enc (xs.take m):=by
  have e:Zd enc xs=Zd enc (xs.take m)++Zd enc (xs.drop m):=by rw[← X2,List.take_append_drop]
  have hl:(Zd enc (xs.take m)).length=m * d.sz:=by rw[Zv F,List.length_take,Nat.min_eq_left h]
  rw[e,← hl,List.take_left']
  rfl
theorem Jp (F:Flat d enc) (xs:List α) (m:Nat) (h:m≤xs.length):(Zd enc xs).drop (m * d.sz)=Zd enc (xs.drop m):=by
  have e:Zd enc xs=Zd enc (xs.take m)++Zd enc (xs.drop m):=by rw[← X2,List.take_append_drop]
  have hl:(Zd enc (xs.take m)).length=m * d.sz:=by rw[Zv F,List.length_take,Nat.min_eq_left h]
  rw[e,← hl,List.drop_left']
  rfl
theorem Vd (F:Flat d enc) {R:α→List Value→Prop} (hR:∀ p c,R p c↔c=enc p) (xs:List α):∀ inner,Reps R d.sz xs inner↔inner=Zd enc xs:=by
  induction xs with
  |nil=>
    intro inner
    constructor
    · intro h
      have:=h.1
      simp only[List.length_nil,Nat.zero_mul] at this
      exact List.eq_nil_of_length_eq_zero this
    · rintro rfl
      exact Reps.none _ _
  |cons x xs ih=>
    intro inner
    constructor
    · intro h
      have h1:=h.2 0 x rfl
      rw[hR,Nat.zero_mul,List.drop_zero] at h1
      have O:=Kd.Ws (m:=1) h
      rw[List.drop_one,List.tail_cons,ih,Nat.one_mul] at O
      rw[Gw,← h1,← O,List.take_append_drop]
    · rintro rfl
      have h1:Reps R d.sz [x] (enc x):=by
        have:=Reps.snoc (Reps.none R d.sz) ((hR x (enc x)).2 rfl) (F.len x)
        simpa using this
      exact Kd.Jy (ps:=[x]) h1 ((ih _).2 rfl)
theorem Yh (F:Flat d enc) {e:Nat} {w:World} {base:Nat} {ok:Nat→Prop} {v:Value} {xs:List α}:d.R e w base ok v xs↔(∀ k,v.ownBlock=some k→ok k)∧w.ownsRow base e d.sz v xs.length (Zd enc xs):=by
  constructor
  · rintro⟨U,inner,ho,hr⟩
    rw[Vd F (fun p c=>F.M _ _ _ p c)] at hr
    subst hr
    exact⟨U,ho⟩
  · rintro⟨U,ho⟩
    exact⟨U,_,ho,(Vd F (fun p c=>F.M _ _ _ p c) xs _).2 rfl⟩
theorem Uq {P:Program} (w:World) (t e ty:TypeId) (z:Value) (ht:P.underlying t=some (.slice e)) (hv:∀ w,(zeroValue e).run P w = .ok z w) (D:∀ u ∈ z.cells.toList,u.oneCell'=true) (b o n c:Nat) (hn:0<n)
    (hc:∀ j,j<n * z.cells.size→(w.cell? ⟨b,o+j,none⟩).isSome=true) (hf:∀ j,j<n * z.cells.size→w.frozen? ⟨b,o+j,none⟩=false):
    ∃ vs,vs.length=n * z.cells.size∧(Builtin.clear_ #[t] ty #[.slice (some ⟨b,o,none⟩) n c]).run P w = .ok (.tuple #[]) (w.setCells b o vs):=by
  refine⟨(Builtin.zeroCells z.cells n).toList,by simp[Builtin.zeroCells], ?_⟩
  have hl:(Builtin.zeroCells z.cells n).toList.length=n * z.cells.size:=by simp[Builtin.zeroCells]
  have h1:∀ v ∈ (Builtin.zeroCells z.cells n).toList,v.oneCell'=true:=by
    intro v hv'
    simp only[Builtin.zeroCells,Array.mem_toList_iff,Array.mem_map,Array.mem_range] at hv'
    obtain⟨i,hi,rfl⟩:=hv'
    have hs:0<z.cells.size:=by
      rcases Nat.eq_zero_or_pos z.cells.size with h|h
      · rw[h,Nat.mul_zero] at hi;omega
      · exact h
    have hm:i % z.cells.size<z.cells.size:=Nat.mod_lt _ hs
    rw[getElem!_pos z.cells _ hm]
    exact D _ (by simp)
  have hst:=run_storeCells_cells (P:=P) b o (Builtin.zeroCells z.cells n).toList 0 w (by rw[hl];simpa using hc) (by rw[hl];simpa using hf) h1
  simp only[Nat.add_zero] at hst
  obtain⟨m,rfl⟩:∃ m,n=m+1:=⟨n-1,by omega⟩
  simp[Builtin.clear_,run_underlying ht,hv,hst]
theorem Yc {P:Program} (w:World) (dT sT ty elem:TypeId) (size b o dLen dCap:Nat) (a:Addr) (sLen sCap:Nat) (cs:List Value)
    (hu:P.underlying dT=some (.slice elem)) (hs:(P.info? elem).map (·.size)=some size) (hn:cs.length=min sLen dLen * size)
    (hsrc:∀ j v,cs[j]?=some v→w.cell? (a.add j)=some v) (hc:∀ j,j<cs.length→(w.cell? ⟨b,o+j,none⟩).isSome=true) (hf:∀ j,j<cs.length→w.frozen? ⟨b,o+j,none⟩=false) (h1:∀ v ∈ cs,v.oneCell'=true):
    (Builtin.copy_ #[dT,sT] ty #[.slice (some ⟨b,o,none⟩) dLen dCap,.slice (some a) sLen sCap]).run P w = .ok (goInt (min sLen dLen:Nat)) (w.setCells b o cs):=by
  have hl:=run_loadCells_list (P:=P) w a cs hsrc
  have hst:=run_storeCells_cells (P:=P) b o cs 0 w (by simpa using hc) (by simpa using hf) h1
  cases hq:P.info? elem with
  |none=>simp[hq] at hs
  |some i=>
    have hi:i.size=size:=by simpa[hq] using hs
    have hn':Nat.min sLen dLen * size=cs.length:=hn.symm
    simp[Builtin.copy_,run_underlying hu,Builtin.lenOf,Builtin.firstCells,sizeOf,typeInfo,hq,hi,hn',hl,hst]
theorem Zw (g j:Nat):(⟨g,0,none⟩:Addr).add j=⟨g,j,none⟩:=by unfold Addr.add;split <;> simp_all
theorem Wv {W:World} {g:Nat} {vs:List Value} {o:Nat}:W.grownBy (W.setCells g o vs) (some g):=by
  obtain⟨L,O,X,Y⟩:=X8 g vs o W
  exact⟨L,O,X,by rw[Y];exact Nat.le_refl _,fun k _ hk=>Yf _ _ k (fun he=>hk (by rw[he]))⟩
theorem W9 {P:Program} (F:Flat d enc) {W:World} {base:Nat} {ok:Nat→Prop} {e:Nat} (t ty:TypeId) (ht:P.underlying t=some (.slice e)) (z:Value) (hv:∀ w,(zeroValue e).run P w = .ok z w) (D:∀ u ∈ z.cells.toList,u.oneCell'=true) (hzs:z.cells.size=d.sz)
    (A:Option Addr) (c:Nat) (xs:List α) (HO:d.R e W base ok (.slice A xs.length c) xs) (i:Nat) (hi:i≤xs.length):
    ∃ w1,(Builtin.clear_ #[t] ty #[.slice (if c=i then A else A.map (·.add (i * d.sz))) (xs.length-i) (c-i)]).run P W = .ok (.tuple #[]) w1∧d.R e w1 base ok (.slice A i c) (xs.take i)∧W.grownBy w1 (Value.slice A i c).ownBlock:=by
  obtain⟨U,ho⟩:=(Yh F).1 HO
  have hob:(Value.slice A i c).ownBlock=(Value.slice A xs.length c).ownBlock:=by cases A <;> rfl
  rcases ho.2 with⟨L,O⟩|⟨g,cap,cur,L,hb,hh,hnc,hcm,hcs,htake⟩
  · injection L with Y e2 J
    subst Y J
    have B:i=0:=by omega
    subst B
    refine⟨W, ?_, ?_,World.grownBy.refl W _⟩
    · rw[O]
      simp[Builtin.clear_,run_underlying ht]
    · have:xs = []:=List.eq_nil_of_length_eq_zero O
      subst this
      exact Kd.Yd _ _ _ _ _
  · injection L with Y e2 J
    subst Y J
    have own_i:∀ (w1:World) (cur':Array Value),w1.heap[g]?=some (.cells cur' e (0,0))→cur'.size=cur.size→cur'.toList.take (i * d.sz)=cur.toList.take (i * d.sz)→d.R e w1 base ok (.slice (some ⟨g,0,none⟩) i c) (xs.take i):=by
      intro w1 cur' X I g3
      rw[Yh F]
      have hl:(xs.take i).length=i:=by rw[List.length_take,Nat.min_eq_left hi]
      refine⟨fun k hk=>U k (by simpa[Value.ownBlock] using hk), ?_⟩
      rw[hl]
      refine⟨by rw[Zv F,hl],.inr ⟨g,c,cur',rfl,hb,X,by omega,hcm,by rw[I,hcs], ?_⟩⟩
      have hq:cur.toList.take (i * d.sz)=(cur.toList.take (xs.length * d.sz)).take (i * d.sz):=by
        rw[List.take_take,Nat.min_eq_left (Nat.mul_le_mul_right _ hi)]
      rw[g3,hq,htake,Y2 F xs i hi]
    rcases Nat.lt_or_ge i xs.length with hlt|hge
    · rw[if_neg (by omega)]
      simp only[Option.map_some,Zw]
      have hsz:(xs.length-i) * z.cells.size+i * d.sz≤cur.size:=by
        rw[hzs,hcs,← Nat.add_mul]
        exact Nat.mul_le_mul_right _ (by omega)
      obtain⟨vs,hvl,hrun⟩:=Uq (P:=P) W t e ty z ht hv D g (i * d.sz) (xs.length-i) (c-i) (by omega)
        (fun j hj=>by rw[cell_of_row W g _ cur e (0,0) hh];simp;omega) (fun j _=>Q6 hh _)
      obtain⟨cur',X,I,g3⟩:=Xs vs (i * d.sz) W cur hh (by rw[hvl];omega)
      refine⟨_,hrun,own_i _ cur' X I ?_, ?_⟩
      · rw[g3,List.append_assoc,List.take_append_of_le_length (by rw[List.length_take];simp;omega),List.take_take,Nat.min_self]
      · have:(Value.slice (some ⟨g,0,none⟩) i c).ownBlock=some g:=rfl
        rw[this]
        exact Wv
    · have hie:i=xs.length:=by omega
      refine⟨W, ?_,own_i W cur hh rfl rfl,World.grownBy.refl W _⟩
      rw[hie,Nat.sub_self]
      split <;> simp[Builtin.clear_,run_underlying ht]
theorem Ui {P:Program} {ops:Array Oper} {o:Oper} {rest:List Oper} {a:Act} {Q:Exit→Act→World→Prop} (F:Flat d enc) {W:World} {base:Nat} {ok:Nat→Prop} {e:Nat} (hgd:o.guard=none) (x:Operand) (t:TypeId) (ho:o.op = .call {callee:=.builtin .clear,args:=#[x],argTypes:=#[t]})
    (ht:P.underlying t=some (.slice e)) (z:Value) (hv:∀ w,(zeroValue e).run P w = .ok z w) (D:∀ u ∈ z.cells.toList,u.oneCell'=true) (hzs:z.cells.size=d.sz)
    (A A1:Option Addr) (c c1 J:Nat) (xs:List α) (HO:d.R e W base ok (.slice A xs.length c) xs) (i:Nat) (hi:i≤xs.length) (B:A1=(if c=i then A else A.map (·.add (i * d.sz)))) (I:J=xs.length-i) (U:c1=c-i) (hx:a.eval x = .slice A1 J c1)
    (h:∀ w1,d.R e w1 base ok (.slice A i c) (xs.take i)→W.grownBy w1 (Value.slice A i c).ownBlock→wpList P ops Q rest (a.put o.dst (.tuple #[])) w1):wpList P ops Q (o :: rest) a W:=by
  subst B I U
  obtain⟨w1,hr,hR,hg⟩:=W9 F t o.type ht z hv D hzs A c xs HO i hi
  refine Kd.Ky hgd (v:=.tuple #[]) (w1:=w1) ?_ (h w1 hR hg)
  unfold execOp
  simp only[ho,resolve,invoke,builtin,Sem.run_bind,Sem.run_pure,Result.andThen_ok,List.map_toArray,List.map_cons,List.map_nil,hx,hr]
theorem Gy {P:Program} {ops:Array Oper} {o:Oper} {rest:List Oper} {a:Act} {Q:Exit→Act→World→Prop} (F:Flat d enc) {w w0 W:World} {S ok:Nat→Prop} {e:Nat} (hgd:o.guard=none) (x:Operand) (t:TypeId) (ho:o.op = .call {callee:=.builtin .clear,args:=#[x],argTypes:=#[t]})
    (ht:P.underlying t=some (.slice e)) (z:Value) (hv:∀ w,(zeroValue e).run P w = .ok z w) (D:∀ u ∈ z.cells.toList,u.oneCell'=true) (hzs:z.cells.size=d.sz)
    (A A1:Option Addr) (c c1 J:Nat) (xs:List α) (HO:d.R e W w0.heap.size ok (.slice A xs.length c) xs) (i:Nat) (hi:i≤xs.length) (B:A1=(if c=i then A else A.map (·.add (i * d.sz)))) (I:J=xs.length-i) (U:c1=c-i) (hx:a.eval x = .slice A1 J c1)
    (HB:Below w0.heap.size w0 W) (HK:Kept w W S) (hok:∀ k,ok k→S k∨w.heap.size≤k) (ys:List α) (hys:ys=xs.take i)
    (h:∀ w1,d.R e w1 w0.heap.size ok (.slice A ys.length c) ys→Below w0.heap.size w0 w1→Kept w w1 S→wpList P ops Q rest (a.put o.dst (.tuple #[])) w1):wpList P ops Q (o :: rest) a W:=by
  have hob:(Value.slice A i c).ownBlock=(Value.slice A xs.length c).ownBlock:=by cases A <;> rfl
  have hl:ys.length=i:=by rw[hys,List.length_take,Nat.min_eq_left hi]
  refine Ui F hgd x t ho ht z hv D hzs A A1 c c1 J xs HO i hi B I U hx ?_
  intro w1 hR hg
  rw[hob] at hg
  refine h w1 (by rw[hl,hys];exact hR) (HB.grown hg HB.size (Yz ((Yh F).1 HO).2)) (Kept.Kp hg HK (fun k hk=>hok k (HO.1 k hk)))
end
theorem X0:Flat k56 (fun x=>[.int .i64 x.f0,.int .i64 x.f1,.int .i64 x.f2]) where
  len:=fun _=>rfl
  one:=fun x u hu=>by
    simp only[List.mem_cons,List.not_mem_nil,or_false] at hu
    rcases hu with rfl|rfl|rfl <;> rfl
  M:=fun w base ok x cs=>⟨Yw,fun h=>by rw[h];exact Yg w base ok x⟩
  K:=fun w x cs=>⟨Jz,fun h=>by rw[h];exact Lu w x⟩
theorem Xz:Flat k62 (fun x=>[.int .i64 x.f0,.int .i64 x.f1]) where
  len:=fun _=>rfl
  one:=fun x u hu=>by
    simp only[List.mem_cons,List.not_mem_nil,or_false] at hu
    rcases hu with rfl|rfl <;> rfl
  M:=fun w base ok x cs=>⟨J6,fun h=>by rw[h];exact Kr w base ok x⟩
  K:=fun w x cs=>⟨Kq,fun h=>by rw[h];exact Ls w x⟩
theorem zeroH (w:World):(zeroValue 56).run Try.prog w = .ok (.agg #[.int .i64 0,.int .i64 0,.int .i64 0]) w:=by kernel_rfl
theorem zeroI (w:World):(zeroValue 62).run Try.prog w = .ok (.agg #[.int .i64 0,.int .i64 0]) w:=by kernel_rfl
theorem Xf {w W:World} {S:Nat→Prop} {g:Nat} {o:Obj} (h:w.heap[g]?=some o) (hk:Kept w W S) (hn:¬ S g):W.heap[g]?=some o:=(hk.2 g (Q3 h) hn).trans h
end Go.Proofs.Ytjehhhlhalkieaa.C
namespace Go.Proofs.Ytjehhhlhalkieaa.C
open Go.RowKit Go.Proofs.YtjehhhlhalkieaaW.PrintWords Go.Proofs.YtjehhhlhalkieaaW.PrintLast Go.Proofs.YtjehhhlhalkieaaW.PrintMore
attribute [local go_sem] Z2 Z0 Xb Xa Zq Zp Z1 Zz
set_option linter.unusedVariables false
set_option linter.unusedSimpArgs false
def api_Hall_54.l0:Nat→List (S56)→Int→Int→Int→Option ((List (S56)))
 |0,_,_,_,_=>none
 |k+1,J,L,O,B=>if B<(J.length:Int) then (if 0≤B then ((api_Hall_without_1.f ((Qg J B).f0) ((Qg J B).f1) ((Qg J B).f2) L).bind fun σ=>(if σ=true then (api_Hall_54.l0 k J L O (wrap64 (B+1))) else (if 0≤O then (if O<(J.length:Int) then (api_Hall_54.l0 k (J.set (O:Int).toNat (⟨(Qg J B).f0,(Qg J B).f1,(Qg J B).f2⟩:S56)) L (wrap64 (O+1)) (wrap64 (B+1))) else (none)) else (none)))) else (none)) else (if 0≤O then (if O≤(J.length:Int) then (some (J.take (O:Int).toNat)) else (none)) else (none))
def api_Hall_54.f (k:Nat) (l0:List (S56)) (D:Int):Option ((List (S56))):=(api_Hall_67.f k l0 D).bind fun X=>(if X=(-1) then (some l0) else (api_Hall_54.l0 k l0 D X (wrap64 (X+1))))
theorem api_Hall_54.Zi:∀ k,(∀ D I O J,LeO (api_Hall_54.l0 k D I O J) (api_Hall_54.l0 (k+1) D I O J))
 |0=>fun _ _ _ _ r h=>by simp[api_Hall_54.l0] at h
 |k+1=>by
  have B:=api_Hall_54.Zi k
  ·intro D I O J
   unfold api_Hall_54.l0
   repeat' first
   |(with_reducible exact B _ _ _ _)
   |(with_reducible exact api_Hall_67.mono _ _ _)
   |(with_reducible exact LeO.refl _)
   |(with_reducible exact LeO.none _)
   |(with_reducible refine LeO.ite ?_ ?_)
   |(with_reducible refine LeO.bind ?_ (fun _=>?_))
   |exact B _ _ _ _
   |exact api_Hall_67.mono _ _ _
   |exact LeO.none _
   |refine LeO.ite ?_ ?_
   |refine LeO.bind ?_ (fun _=>?_)
theorem api_Hall_54.mono:∀ I D k,LeO (api_Hall_54.f k I D) (api_Hall_54.f (k+1) I D):=by
 intro I D k
 have B:=api_Hall_54.Zi k
 unfold api_Hall_54.f
 repeat' first
   |(with_reducible exact B _ _ _ _)
   |(with_reducible exact api_Hall_67.mono _ _ _)
   |(with_reducible exact LeO.refl _)
   |(with_reducible exact LeO.none _)
   |(with_reducible refine LeO.ite ?_ ?_)
   |(with_reducible refine LeO.bind ?_ (fun _=>?_))
   |exact B _ _ _ _
   |exact api_Hall_67.mono _ _ _
   |exact LeO.none _
   |refine LeO.ite ?_ ?_
   |refine LeO.bind ?_ (fun _=>?_)
set_option maxHeartbeats 8000000 in
set_option maxRecDepth 100000 in
theorem api_Hall_54.calls (k:Nat) (O:Nat→Prop) (a6:Value) (l0:List (S56)) (D:Int) (r:List (S56)) (w0 w:World) (hB:Below w0.heap.size w0 w) (φ :Kd.R k56 56 w w0.heap.size O a6 l0) (h:api_Hall_54.f k l0 D=some r) (Ar_:Option Addr) (nr_ cr_ gr_ gx_:Nat) (zx_:Int) (hgr_:w.heap[gr_]?=some (.cells #[.slice Ar_ nr_ cr_,.func (.func 51) #[] #[]] 69 (0,0))) (hgx_:w.heap[gx_]?=some (.cells #[.int .i64 (X7 D),.int .i64 (X6 D),.int .i64 zx_] 56 (0,0))) (hnr_:¬ O gr_) (hnx_:¬ O gx_):
  Calls Try.prog 54 #[a6,.func (.func 56) #[] #[.pointer (some ⟨gr_,0,none⟩),.pointer (some ⟨gx_,0,none⟩)]] w fun e w'=>∃ a4:Value,e = .returned (a4)∧Kd.R k56 56 w' w0.heap.size (fun k_=>(O k_∨w.heap.size≤k_)) a4 r∧Below w0.heap.size w0 w'∧Kept w w' (fun k_=>O k_):=by
 have HCR:=Aside0.mk hgr_
 have HCX:=Aside0.mk hgx_
 have HNR:=Aside0.mk hnr_
 have HNX:=Aside0.mk hnx_
 clear hgr_ hgx_ hnr_ hnx_
 have bq:=Try.underlying56
 have ζ :=Aside0.mk (show Kd.R k56 56 w w0.heap.size (fun k_=>(O k_∨w.heap.size≤k_)) a6 l0 from Kd.Qq φ (fun k_ hk=>(.inl hk)))
 have HK:=Aside0.mk (Kept.refl w (fun k_=>O k_))
 have dp:=Aside0.mk hB.size
 have HB:=Aside0.mk hB
 clear hB
 have H:((api_Hall_67.f k l0 D).bind fun X=>(if X=(-1) then (some l0) else (api_Hall_54.l0 k l0 D X (wrap64 (X+1)))))=some r:=h
 clear h
 replace H:=Option.bind_eq_some_iff.mp H
 obtain⟨X,ae,H⟩:=H
 replace H:(if X=(-1) then (some l0) else (api_Hall_54.l0 k l0 D X (wrap64 (X+1))))=some r:=H
 have A3:=Aside0.mk ae
 clear ae
 by_cases c4:X=(-1)
 ·rw[if_pos c4] at H
  have c4b0:(X==(-1))=true:=beq_iff_eq.mpr c4
  have c4b1:(X != (-1))=false:=bne_eq_false_iff_eq.mpr c4
  clear c4
  obtain rfl:=Option.some.inj H
  obtain⟨dq,dr,d7⟩:=Kd.Q4 ζ.out
  subst d7
  go_enter Try.func54,Try.ntmps54
  go_wp2_with (first|(go_at_call 67;((with_reducible refine(api_Hall_67.calls k _ _ l0 D X _ ?side1 ?side2 A3.out Ar_ nr_ cr_ gr_ gx_ zx_ (Xf HCR.out (by repeat(first|(with_reducible first|exact HK.out|apply Kept.alloc|apply Kept.drewN|apply Kept.drew|refine Kept.setCell ?_ (.inr a8.out) _)|exact HK.out)) HNR.out) (Xf HCX.out (by repeat(first|(with_reducible first|exact HK.out|apply Kept.alloc|apply Kept.drewN|apply Kept.drew|refine Kept.setCell ?_ (.inr a8.out) _)|exact HK.out)) HNX.out)).mono ?_);(case side1=>exact(Kd.Qo ζ.out).2.2);(case side2=>exact(Kd.Qo ζ.out).2.1);rintro e w6 ⟨rfl,hb⟩;have U:=Aside0.mk (Kd.Qu ζ.out hb);have γ:=Aside0.mk (Kept.below (S:=(fun k_=>O k_)) (by repeat(first|(with_reducible first|exact HK.out|apply Kept.alloc|apply Kept.drewN|apply Kept.drew)|exact HK.out)) hb);have ι :=Aside0.mk (Qt HB.out hb);clear ζ;clear HK;clear HB;have ζ :=U;have HK:=γ;have HB:= ι;clear U γ ι;(try clear hb);(try clear a0);(try clear hk);(try clear hi))))
  go_ret
  exact⟨_,rfl,by(with_reducible repeat first|apply Kd.Qk|apply Kd.Qj|apply Kd.Qn);exact ζ.out,HB.out,by repeat(first|(with_reducible first|exact HK.out|apply Kept.alloc|apply Kept.drewN|apply Kept.drew)|exact HK.out)⟩
 ·rw[if_neg c4] at H
  have c4b0:(X==(-1))=false:=beq_eq_false_iff_ne.mpr c4
  have c4b1:(X != (-1))=true:=bne_iff_ne.mpr c4
  have H':=Aside0.mk H
  clear H
  obtain⟨a7,μ,d8⟩:=Kd.Q4 ζ.out
  subst d8
  go_enter Try.func54,Try.ntmps54
  go_wp2_with (first|(go_at_call 67;((with_reducible refine(api_Hall_67.calls k _ _ l0 D X _ ?side1 ?side2 A3.out Ar_ nr_ cr_ gr_ gx_ zx_ (Xf HCR.out (by repeat(first|(with_reducible first|exact HK.out|apply Kept.alloc|apply Kept.drewN|apply Kept.drew|refine Kept.setCell ?_ (.inr a8.out) _)|exact HK.out)) HNR.out) (Xf HCX.out (by repeat(first|(with_reducible first|exact HK.out|apply Kept.alloc|apply Kept.drewN|apply Kept.drew|refine Kept.setCell ?_ (.inr a8.out) _)|exact HK.out)) HNX.out)).mono ?_);(case side1=>exact(Kd.Qo ζ.out).2.2);(case side2=>exact(Kd.Qo ζ.out).2.1);rintro e w8 ⟨rfl,hb⟩;have U:=Aside0.mk (Kd.Qu ζ.out hb);have γ:=Aside0.mk (Kept.below (S:=(fun k_=>O k_)) (by repeat(first|(with_reducible first|exact HK.out|apply Kept.alloc|apply Kept.drewN|apply Kept.drew)|exact HK.out)) hb);have ι :=Aside0.mk (Qt HB.out hb);clear ζ;clear HK;clear HB;have ζ :=U;have HK:=γ;have HB:= ι;clear U γ ι;(try clear hb);(try clear a0);(try clear hk);(try clear hi))))
  go_loopg [5,6] k (fun kq v5 v6 w'=>∃ (B:List (S56)) (I:Int) (L:Int),v5 = .int .i64 I∧v6 = .int .i64 L∧Aside0 (api_Hall_54.l0 kq B D I L=some r)∧Aside0 (kq≤k)∧Aside0 (Kd.R k56 56 w' w0.heap.size (fun k_=>(O k_∨w.heap.size≤k_)) (.slice a7 l0.length μ) B)∧Aside0 (Kept w w' (fun k_=>O k_))∧Aside0 (Below w0.heap.size w0 w'))
  case atStart=>exact⟨(l0),(X),(wrap64 (X+1)),rfl,rfl,H',⟨Nat.le_refl _⟩,⟨by(with_reducible repeat first|apply Kd.Qk|apply Kd.Qj|apply Kd.Qn);exact ζ.out⟩,⟨by repeat(first|(with_reducible first|exact HK.out|apply Kept.alloc|apply Kept.drewN|apply Kept.drew)|exact HK.out)⟩,HB⟩
  case round=>
   clear H'
   try clear p2
   try clear c4
   try clear c4b0
   try clear c4b1
   try clear c5
   try clear c6
   try clear p6
   obtain⟨B,I,L,rfl,rfl,HA,ξ,HO_0,HK,HB⟩:=hrel
   have η :=(Kd.Qo HO_0.out).1
   rw[η] at HO_0
   (try simp only[η])
   cases gk with
   |zero=>exact absurd HA.out (by simp[api_Hall_54.l0])
   |succ k1=>
    have H:=HA.out
    clear HA
    simp only[api_Hall_54.l0] at H
    by_cases c9:L<(B.length:Int)
    ·rw[if_pos c9] at H
     have c9b0:decide (L<(B.length:Int))=true:=decide_eq_true c9
     clear c9
     by_cases c10:0≤L
     ·rw[if_pos c10] at H
      have c10b0:decide (0≤L)=true:=decide_eq_true c10
      clear c10
      replace H:=Option.bind_eq_some_iff.mp H
      obtain⟨σ,b8,H⟩:=H
      replace H:(if σ=true then (api_Hall_54.l0 k1 B D I (wrap64 (L+1))) else (if 0≤I then (if I<(B.length:Int) then (api_Hall_54.l0 k1 (B.set (I:Int).toNat (⟨(Qg B L).f0,(Qg B L).f1,(Qg B L).f2⟩:S56)) D (wrap64 (I+1)) (wrap64 (L+1))) else (none)) else (none)))=some r:=H
      have bj:=Aside0.mk b8
      clear b8
      by_cases ce:σ=true
      ·subst ce
       have H1:(api_Hall_54.l0 k1 B D I (wrap64 (L+1)))=some r:=by rw[if_pos rfl] at H;exact H
       clear H
       have H:=H1
       clear H1
       have H':=Aside0.mk H
       clear H
       have a9:0≤(L:Int):=of_decide_eq_true (by assumption)
       have aa:L<(B.length:Int):=of_decide_eq_true (by assumption)
       obtain⟨ab,br,ψ,ω,a2⟩:=Z3 (Kd.Qo HO_0.out).2.2 L a9 aa
       cases br
       replace a9:=eq_true a9
       replace aa:=eq_true aa
       go_wp2_with (first|((with_reducible refine Qr (N:=7) rfl ?_);refine qE 7 #[.int .i64 0,.int .i64 0,.int .i64 0] 56 ?_;intro ν hg ed hbox hb;have Z:=Aside0.mk hbox;have a8:=Aside0.mk ((by rw[hg];exact(by first|exact HK.out.1|exact(show Kept w _ (fun k_=>O k_) from by repeat(first|(with_reducible first|exact HK.out|apply Kept.alloc|apply Kept.drewN|apply Kept.drew)|exact HK.out)).1):w.heap.size ≤ ν));have bi:=Aside0.mk ((by rw[hg];exact(Qi bel):w0.heap.size ≤ ν));replace HO_0:=Aside0.mk (Kd.Qu (Kd.Y3 (kra HO_0) ν (Nat.le_of_eq hg.symm)) hb);replace HK:=Aside0.mk (Kept.below (S:=(fun k_=>O k_)) (by repeat(first|(with_reducible first|exact HK.out|apply Kept.alloc|apply Kept.drewN|apply Kept.drew)|exact HK.out)) hb);replace HB:=sHb hb;clear hb hbox hg;obtain⟨ai,aj,d5,av,ax,d6⟩:=qD3 Z.out)|(go_at_call 56;((with_reducible refine(api_Hall_without_1.calls ((Qg B L).f0) ((Qg B L).f1) ((Qg B L).f2) D true _ bj.out Ar_ nr_ cr_ gr_ gx_ zx_ (Xf HCR.out (by repeat(first|(with_reducible first|exact HK.out|apply Kept.alloc|apply Kept.drewN|apply Kept.drew|refine Kept.setCell ?_ (.inr a8.out) _)|exact HK.out)) HNR.out) (Xf HCX.out (by repeat(first|(with_reducible first|exact HK.out|apply Kept.alloc|apply Kept.drewN|apply Kept.drew|refine Kept.setCell ?_ (.inr a8.out) _)|exact HK.out)) HNX.out)).mono ?_);rintro e cr ⟨rfl,hb⟩;have U:=Aside0.mk (Kd.Qu (by(with_reducible repeat first|apply Kd.Qk|apply Kd.Qj|apply Kd.Qn);exact(Kd.Qq (Kd.Qs (Kd.Qs (Kd.Qs (Kd.Qq HO_0.out (fun k_ hk=>(⟨hk,hk.2⟩:_∧k_ ≠ ν))) (fun _ hk=>hk.2) (.int .i64 ((Qg B L).f0))) (fun _ hk=>hk.2) (.int .i64 ((Qg B L).f1))) (fun _ hk=>hk.2) (.int .i64 ((Qg B L).f2))) (fun _ h_=>h_.1))) hb);have γ:=Aside0.mk (Qm (g:= ν) (o:=.cells #[.int .i64 ((Qg B L).f0),.int .i64 ((Qg B L).f1),.int .i64 ((Qg B L).f2)] 56 (0,0)) (by(with_reducible repeat first|apply Qd|apply Qa|apply Qe);refine Qv (cs:=#[.int .i64 ((Qg B L).f0),.int .i64 ((Qg B L).f1),.int .i64 0]) ?_ 2 _ rfl;(with_reducible repeat first|apply Qd|apply Qa|apply Qe);refine Qv (cs:=#[.int .i64 ((Qg B L).f0),.int .i64 0,.int .i64 0]) ?_ 1 _ rfl;(with_reducible repeat first|apply Qd|apply Qa|apply Qe);refine Qv (cs:=#[.int .i64 0,.int .i64 0,.int .i64 0]) ?_ 0 _ rfl;(with_reducible repeat first|apply Qd|apply Qa|apply Qe);exact Z.out) hb);have ι :=Aside0.mk (Kept.below (S:=(fun k_=>O k_)) (by repeat(first|(with_reducible first|exact HK.out|apply Kept.alloc|apply Kept.drewN|apply Kept.drew|refine Kept.setCell ?_ (.inr a8.out) _)|exact HK.out)) hb);have κ :=Aside0.mk (Qt bel hb);clear HO_0;clear Z;clear HK;clear HB;have HO_0:=U;have Z:=γ;have HK:= ι;have HB:= κ;clear U γ ι κ;(try clear hb);(try clear a0);(try clear hk);(try clear hi))))
       (try simp only[← η])
       go_roundg k1
       case measure=>have:= ξ.out;omega
       case rel=>exact⟨(B),(I),(wrap64 (L+1)),rfl,rfl,H',⟨by have:= ξ.out;omega⟩,⟨by(try simp only[η]);(with_reducible repeat first|apply Kd.Qk|apply Kd.Qj|apply Kd.Qn);exact Kd.Qq HO_0.out (fun _ hk=>hk.1)⟩,⟨by repeat(first|(with_reducible first|exact HK.out|apply Kept.alloc|apply Kept.drewN|apply Kept.drew|refine Kept.setCell ?_ (.inr a8.out) _)|exact HK.out)⟩,HB⟩
      ·replace ce:=Bool.eq_false_iff.mpr ce
       subst ce
       have H1:(if 0≤I then (if I<(B.length:Int) then (api_Hall_54.l0 k1 (B.set (I:Int).toNat (⟨(Qg B L).f0,(Qg B L).f1,(Qg B L).f2⟩:S56)) D (wrap64 (I+1)) (wrap64 (L+1))) else (none)) else (none))=some r:=by rw[if_neg (show ¬ (false=true) by decide)] at H;exact H
       clear H
       have H:=H1
       clear H1
       by_cases a3:0≤I
       ·rw[if_pos a3] at H
        have c16b0:decide (0≤I)=true:=decide_eq_true a3
        clear a3
        by_cases au:I<(B.length:Int)
        ·rw[if_pos au] at H
         have c17b0:decide (I<(B.length:Int))=true:=decide_eq_true au
         clear au
         obtain⟨ag,δ⟩:∃ y_:List (S56),y_=(B.set (I:Int).toNat (⟨(Qg B L).f0,(Qg B L).f1,(Qg B L).f2⟩:S56)):=⟨_,rfl⟩
         replace H:(api_Hall_54.l0 k1 ag D (wrap64 (I+1)) (wrap64 (L+1)))=some r:=by first|(rw[δ];with_reducible exact H)|(have ρ:=(Option.bind_some _ _).symm.trans H;rw[δ];with_reducible exact ρ)|(have ρ:=(Option.bind_some _ _).symm.trans H;with_reducible exact ρ)|with_reducible exact H|(rw[δ];exact H)|exact H
         have al:=Aside0.mk δ
         clear δ
         have H':=Aside0.mk H
         clear H
         have a9:0≤(L:Int):=of_decide_eq_true (by assumption)
         have aa:L<(B.length:Int):=of_decide_eq_true (by assumption)
         obtain⟨ab,br,ψ,ω,a2⟩:=Z3 (Kd.Qo HO_0.out).2.2 L a9 aa
         cases br
         replace a9:=eq_true a9
         replace aa:=eq_true aa
         go_wp2_with (first|((with_reducible refine Qr (N:=7) rfl ?_);refine qE 7 #[.int .i64 0,.int .i64 0,.int .i64 0] 56 ?_;intro ν hg eg hbox hb;have Z:=Aside0.mk hbox;have a8:=Aside0.mk ((by rw[hg];exact(by first|exact HK.out.1|exact(show Kept w _ (fun k_=>O k_) from by repeat(first|(with_reducible first|exact HK.out|apply Kept.alloc|apply Kept.drewN|apply Kept.drew)|exact HK.out)).1):w.heap.size ≤ ν));have bi:=Aside0.mk ((by rw[hg];exact(Qi HB.out):w0.heap.size ≤ ν));replace HO_0:=Aside0.mk (Kd.Qu (Kd.Y3 HO_0.out ν (Nat.le_of_eq hg.symm)) hb);replace HK:=Aside0.mk (Kept.below (S:=(fun k_=>O k_)) (by repeat(first|(with_reducible first|exact HK.out|apply Kept.alloc|apply Kept.drewN|apply Kept.drew)|exact HK.out)) hb);replace HB:=sHb hb;clear hb hbox hg;obtain⟨b9,bb,bd,be,bf,bz⟩:=qD3 Z.out)|(go_at_call 56;((with_reducible refine(api_Hall_without_1.calls ((Qg B L).f0) ((Qg B L).f1) ((Qg B L).f2) D false _ bj.out Ar_ nr_ cr_ gr_ gx_ zx_ (Xf HCR.out (by repeat(first|(with_reducible first|exact HK.out|apply Kept.alloc|apply Kept.drewN|apply Kept.drew|refine Kept.setCell ?_ (.inr a8.out) _)|exact HK.out)) HNR.out) (Xf HCX.out (by repeat(first|(with_reducible first|exact HK.out|apply Kept.alloc|apply Kept.drewN|apply Kept.drew|refine Kept.setCell ?_ (.inr a8.out) _)|exact HK.out)) HNX.out)).mono ?_);rintro e bo ⟨rfl,hb⟩;have U:=Aside0.mk (Kd.Qu (by(with_reducible repeat first|apply Kd.Qk|apply Kd.Qj|apply Kd.Qn);exact(Kd.Qq (Kd.Qs (p:=⟨ν,2,none⟩) (Kd.Qs (p:=⟨ν,1,none⟩) (Kd.Qs (p:=⟨ν,0,none⟩) (Kd.Qq HO_0.out (fun k_ hk=>(⟨hk,hk.2⟩:_∧k_ ≠ ν))) (fun _ hk=>hk.2) (.int .i64 ((Qg B L).f0))) (fun _ hk=>hk.2) (.int .i64 ((Qg B L).f1))) (fun _ hk=>hk.2) (.int .i64 ((Qg B L).f2))) (fun _ h_=>h_.1))) hb);have γ:=Aside0.mk (Qm (g:= ν) (o:=.cells #[.int .i64 ((Qg B L).f0),.int .i64 ((Qg B L).f1),.int .i64 ((Qg B L).f2)] 56 (0,0)) (by(with_reducible repeat first|apply Qd|apply Qa|apply Qe);refine Qv (cs:=#[.int .i64 ((Qg B L).f0),.int .i64 ((Qg B L).f1),.int .i64 0]) ?_ 2 _ rfl;(with_reducible repeat first|apply Qd|apply Qa|apply Qe);refine Qv (cs:=#[.int .i64 ((Qg B L).f0),.int .i64 0,.int .i64 0]) ?_ 1 _ rfl;(with_reducible repeat first|apply Qd|apply Qa|apply Qe);refine Qv (cs:=#[.int .i64 0,.int .i64 0,.int .i64 0]) ?_ 0 _ rfl;(with_reducible repeat first|apply Qd|apply Qa|apply Qe);exact Z.out) hb);have ι :=Aside0.mk (Kept.below (S:=(fun k_=>O k_)) (by repeat(first|(with_reducible first|exact HK.out|apply Kept.alloc|apply Kept.drewN|apply Kept.drew|refine Kept.setCell ?_ (.inr a8.out) _)|exact HK.out)) hb);have κ :=Aside0.mk (Qt (by repeat(first|(with_reducible first|exact HB.out|apply Qh|apply Qb|apply Qf|refine Qc ?_ bi.out)|exact HB.out)) hb);clear HO_0;clear Z;clear HK;clear HB;have HO_0:=U;have Z:=γ;have HK:= ι;have HB:= κ;clear U γ ι κ;(try clear hb);(try clear a0);(try clear hk);(try clear hi);obtain⟨bk,bn,dm,bv,bw,dn⟩:=qD3 Z.out;have an:0≤(I:Int):=of_decide_eq_true (by first|(with_reducible assumption)|assumption);have ao:(I:Int)<((B.length:Int):Int):=of_decide_eq_true (by first|(with_reducible assumption)|assumption);obtain⟨ε,d9,az,b3,bm,da,b4⟩:=Kd.U4 HO_0.out (by omega);(first|cases az|(injection az with ea_ en_ ec_;(first|subst ea_|(injection ea_ with ea_;subst ea_));subst ec_;clear en_));have ah:=Aside0.mk b3;have db:=Aside0.mk b4;clear b3 bm b4;have dc:=Aside0.mk (show(O ε ∨ w.heap.size ≤ ε) from(HO_0.out.1 _ rfl).1);(first|simp only[add_plain] at ψ |skip);(first|simp only[add_plain] at ω |skip);(first|simp only[add_plain] at a2|skip);obtain⟨dd,b6,b5,θ,τ⟩:=Kd.Kz HO_0.out z56 (I:Int) an ao;obtain rfl:=Yw b5;have ca:bo.cell? ⟨ε,(I:Int).toNat * 3,none⟩=some (.int .i64 ((Qg B I).f0)):= θ 0 _ rfl;have cb:bo.cell? ⟨ε,(I:Int).toNat * 3+1,none⟩=some (.int .i64 ((Qg B I).f1)):= θ 1 _ rfl;have cp:bo.cell? ⟨ε,(I:Int).toNat * 3+2,none⟩=some (.int .i64 ((Qg B I).f2)):= θ 2 _ rfl;have cq:bo.frozen? ⟨ε,(I:Int).toNat * 3,none⟩=false:= τ 0;have ct:bo.frozen? ⟨ε,(I:Int).toNat * 3+1,none⟩=false:= τ 1;have de:bo.frozen? ⟨ε,(I:Int).toNat * 3+2,none⟩=false:= τ 2;clear b6 θ τ b5;replace an:=eq_true an;replace ao:=eq_true ao;have bh:=Aside0.mk (show Kd.R k56 56 bo w0.heap.size (fun k_=>(O k_∨w.heap.size≤k_)∧k_ ≠ ν) (.slice (some ⟨ε,0,none⟩) B.length μ) B from(by(with_reducible repeat first|apply Kd.Qk|apply Kd.Qj|apply Kd.Qn);exact HO_0.out));obtain⟨di,b1,bl,χ,af⟩:=Kd.Kz bh.out z56 (I:Int) (of_decide_eq_true (by first|(with_reducible assumption)|assumption)) (by have h_:(I:Int)<((B.length:Int):Int):=of_decide_eq_true (by first|(with_reducible assumption)|assumption);first|exact h_|(have e_:=(Kd.Qo HO_0.out).1;omega)|simpa using h_);obtain rfl:=Yw bl;have b0:=Kd.Mj bh.out (I:Int) (of_decide_eq_true (by first|(with_reducible assumption)|assumption)) (by have h_:(I:Int)<((B.length:Int):Int):=of_decide_eq_true (by first|(with_reducible assumption)|assumption);first|exact h_|(have e_:=(Kd.Qo HO_0.out).1;omega)|simpa using h_) (seg:=[.int .i64 ((Qg B L).f0),.int .i64 ((Qg B L).f1),.int .i64 ((Qg B L).f2)]) (j:=0) b1 χ (show 3≤3 from by decide) (x':=(⟨(Qg B L).f0,(Qg B L).f1,(Qg B L).f2⟩:S56)) (Yg _ _ _ (⟨(Qg B L).f0,(Qg B L).f1,(Qg B L).f2⟩:S56)) (fun _ hk=>hk);have bp:= χ 0 _ rfl;(try simp only[show(k56).sz=3 from rfl,Nat.mul_one,Nat.add_zero] at bp);have bs:=af 0;(try simp only[show(k56).sz=3 from rfl,Nat.mul_one,Nat.add_zero] at bs);have cd:= χ 1 _ rfl;(try simp only[show(k56).sz=3 from rfl,Nat.mul_one,Nat.add_zero] at cd);have cf:=af 1;(try simp only[show(k56).sz=3 from rfl,Nat.mul_one,Nat.add_zero] at cf);have df:= χ 2 _ rfl;(try simp only[show(k56).sz=3 from rfl,Nat.mul_one,Nat.add_zero] at df);have dh:=af 2;(try simp only[show(k56).sz=3 from rfl,Nat.mul_one,Nat.add_zero] at dh);clear b1 χ af bl))|((with_reducible refine Kf (t:=56) (p:=33) rfl ?_);refine Jv (t:=56) (p:=33) (v:=?vo_w24) (w1:=(((bo.setCell ⟨ε,(I:Int).toNat * 3,none⟩ (.int .i64 ((Qg B L).f0))).setCell ⟨ε,(I:Int).toNat * 3+1,none⟩ (.int .i64 ((Qg B L).f1))).setCell ⟨ε,(I:Int).toNat * 3+2,none⟩ (.int .i64 ((Qg B L).f2)))) ?hg ?ho ?hn ?hr ?_;(case ho=>rfl);(case hg=>rfl);(case hn=>rfl);(case hr=>go_simp <;> rfl);intro bu hw;have hg:bo.grownBy bu (some ε):=(by rw[hw];exact b0.2);have hp_:Kd.R k56 56 bu w0.heap.size (fun k_=>(O k_∨w.heap.size≤k_)∧k_ ≠ ν) (.slice (some ⟨ε,0,none⟩) B.length μ) ag:=(by rw[hw,al.out];exact b0.1);clear b0;replace Z:=Aside0.mk (Zb (g:= ν) (o:=.cells #[.int .i64 ((Qg B L).f0),.int .i64 ((Qg B L).f1),.int .i64 ((Qg B L).f2)] 56 (0,0)) Z.out hg (Kd.Y4 HO_0.out (fun _ hk=>hk.2)));replace HB:=Aside0.mk ((by rw[hw];exact Qc (Qc (Qc (HB.out) ah.out) ah.out) ah.out:Below w0.heap.size w0 bu));replace HK:=Aside0.mk (Kept.Kp (S:=(fun k_=>O k_)) hg (by repeat(first|(with_reducible first|exact HK.out|apply Kept.alloc|apply Kept.drewN|apply Kept.drew|refine Kept.setCell ?_ (.inr a8.out) _)|exact HK.out)) (fun k_ e_=>(HO_0.out.1 k_ e_).1));replace HO_0:=Aside0.mk hp_;clear hg hw hp_))
         (try simp only[← η])
         go_roundg k1
         case measure=>have:= ξ.out;omega
         case rel=>exact⟨(ag),(wrap64 (I+1)),(wrap64 (L+1)),rfl,rfl,H',⟨by have:= ξ.out;omega⟩,⟨by(try simp only[η]);(with_reducible repeat first|apply Kd.Qk|apply Kd.Qj|apply Kd.Qn);exact Kd.Qq HO_0.out (fun _ hk=>hk.1)⟩,⟨by repeat(first|(with_reducible first|exact HK.out|apply Kept.alloc|apply Kept.drewN|apply Kept.drew|refine Kept.setCell ?_ (.inr a8.out) _)|exact HK.out)⟩,HB⟩
        ·rw[if_neg au] at H
         exact absurd H (by simp)
       ·rw[if_neg a3] at H
        exact absurd H (by simp)
     ·rw[if_neg c10] at H
      exact absurd H (by simp)
    ·rw[if_neg c9] at H
     have c9b0:decide (L<(B.length:Int))=false:=decide_eq_false c9
     clear c9
     by_cases bc:0≤I
     ·rw[if_pos bc] at H
      have c25b0:=eq_true bc
      have c25b1:decide (0≤I)=true:=decide_eq_true bc
      clear bc
      by_cases am:I≤(B.length:Int)
      ·rw[if_pos am] at H
       have c26b0:=eq_true am
       have c26b1:decide (I≤(B.length:Int))=true:=decide_eq_true am
       clear am
       obtain⟨bg,J⟩:∃ y_:List (S56),y_=(B.drop (I:Int).toNat):=⟨_,rfl⟩
       replace H:(some (B.take (I:Int).toNat))=some r:=by first|(rw[J];with_reducible exact H)|(have ρ:=(Option.bind_some _ _).symm.trans H;rw[J];with_reducible exact ρ)|(have ρ:=(Option.bind_some _ _).symm.trans H;with_reducible exact ρ)|with_reducible exact H|(rw[J];exact H)|exact H
       have d4:=Aside0.mk J
       clear J
       have c27b0:=eq_true (of_decide_eq_true (by assumption):I≤(B.length:Int))
       obtain⟨cy,Y⟩:∃ y_:List (S56),y_=(B.take (I:Int).toNat):=⟨_,rfl⟩
       replace H:(some cy)=some r:=by first|(rw[Y];with_reducible exact H)|(have ρ:=(Option.bind_some _ _).symm.trans H;rw[Y];with_reducible exact ρ)|(have ρ:=(Option.bind_some _ _).symm.trans H;with_reducible exact ρ)|with_reducible exact H|(rw[Y];exact H)|exact H
       have ci:=Aside0.mk Y
       clear Y
       obtain rfl:=Option.some.inj H
       have cg:(I:Int)≤((B.length:Int):Int):=of_decide_eq_true (by assumption)
       obtain⟨dj,b2,_,b7,_⟩:=info_parts Yl
       have hroom28:B.length ≤ μ :=(Kd.Qo HO_0.out).2.1
       have ch:Kd.C k56 _ a7 B.length B:=(Kd.Qo HO_0.out).2.2
       have cz:(0:Int)≤(I:Int):=of_decide_eq_true (by assumption)
       have cj:=Xg (P:=Try.prog) 24 56 .i64 Try.underlying24 b2 3 b7 a7 B.length μ I cz cg
       have ac:=Kd.Mo (m:=(I:Int).toNat) (c:= μ) ch (by omega) hroom28
       obtain⟨cu,ap⟩:∃ A1,A1=(if μ = (I:Int).toNat then a7 else (a7:Option Addr).map (·.add ((I:Int).toNat * 3))):=⟨_,rfl⟩
       obtain⟨ak,ar⟩:∃ c1,c1 = μ - (I:Int).toNat:=⟨_,rfl⟩
       have aw:bg.length=B.length - (I:Int).toNat:=(by rw[d4.out,List.length_drop] <;> omega)
       rw[show(B).drop (I:Int).toNat=bg from d4.out.symm] at ac
       replace ac:Kd.C k56 _ cu bg.length bg:=(by rw[ap];exact ac)
       rw[← aw,← ap,← ar] at cj
       have dt:=Aside0.mk ac
       have du:=Aside0.mk (show bg.length≤ak from by rw[aw,ar];exact Nat.sub_le_sub_right hroom28 _)
       have d0:=Aside0.mk ar
       clear ac ch hroom28 b2 b7 ar
       have d1:=Aside0.mk aw
       have d2:=Aside0.mk ap
       clear aw ap
       have d3:=Aside0.mk (show(I:Int).toNat≤B.length from by omega)
       replace cg:=eq_true cg
       have ck:(I:Int)≤((B.length:Int):Int):=of_decide_eq_true (by assumption)
       obtain⟨dk,ba,_,co,_⟩:=info_parts Yl
       have cm:=L8 (P:=Try.prog) 24 56 .i64 Try.underlying24 ba a7 B.length μ I (of_decide_eq_true (by assumption)) ck (Kd.Qo HO_0.out).2.1
       have ay:=Kd.Mh (m:=(I:Int).toNat) HO_0.out (by omega)
       have cn:cy.length=(I:Int).toNat:=(by rw[ci.out,List.length_take];omega)
       rw[← ci.out] at ay
       rw[← cn] at ay cm
       clear cn ba co
       have a5:=Aside0.mk ay
       clear ay
       replace ck:=eq_true ck
       go_wp2_with (first|((with_reducible refine Xc (b:=.clear) (xs:=#[.tmp 38]) rfl ?_);refine Gy X0 (w:=w) (S:=fun k_=>O k_) rfl (.tmp 38) 24 rfl Try.underlying24 (.agg #[.int .i64 0,.int .i64 0,.int .i64 0]) zeroH (by decide) rfl a7 cu μ ak bg.length B HO_0.out (I:Int).toNat d3.out d2.out d1.out d0.out rfl HB.out HK.out (fun _ hk=>hk) cy (ci.out) ?_;intro dl cv cw cx;have U:=Aside0.mk cv;have γ:=Aside0.mk cw;have ι :=Aside0.mk cx;clear cv cw cx HO_0 a5 HB HK;have a5:=U;have HB:=γ;have HK:= ι;clear U γ ι))
       go_ret
       exact⟨_,rfl,by(with_reducible repeat first|apply Kd.Qk|apply Kd.Qj|apply Kd.Qn);exact a5.out,HB.out,by repeat(first|(with_reducible first|exact HK.out|apply Kept.alloc|apply Kept.drewN|apply Kept.drew)|exact HK.out)⟩
      ·rw[if_neg am] at H
       exact absurd H (by simp)
     ·rw[if_neg bc] at H
      exact absurd H (by simp)
def api_Inside_64.l0:Nat→List (S62)→Int→Int→Int→Option ((List (S62)))
 |0,_,_,_,_=>none
 |k+1,J,L,O,B=>if B<(J.length:Int) then (if 0≤B then ((api_Inside_without_1.f ((Qp J B).f0) ((Qp J B).f1) L).bind fun δ =>(if δ = true then (api_Inside_64.l0 k J L O (wrap64 (B+1))) else (if 0≤O then (if O<(J.length:Int) then (api_Inside_64.l0 k (J.set (O:Int).toNat (⟨(Qp J B).f0,(Qp J B).f1⟩:S62)) L (wrap64 (O+1)) (wrap64 (B+1))) else (none)) else (none)))) else (none)) else (if 0≤O then (if O≤(J.length:Int) then (some (J.take (O:Int).toNat)) else (none)) else (none))
def api_Inside_64.f (k:Nat) (l0:List (S62)) (D:Int):Option ((List (S62))):=(api_Inside_72.f k l0 D).bind fun J=>(if J=(-1) then (some l0) else (api_Inside_64.l0 k l0 D J (wrap64 (J+1))))
theorem api_Inside_64.Zi:∀ k,(∀ D I O J,LeO (api_Inside_64.l0 k D I O J) (api_Inside_64.l0 (k+1) D I O J))
 |0=>fun _ _ _ _ r h=>by simp[api_Inside_64.l0] at h
 |k+1=>by
  have B:=api_Inside_64.Zi k
  ·intro D I O J
   unfold api_Inside_64.l0
   repeat' first
   |(with_reducible exact B _ _ _ _)
   |(with_reducible exact api_Inside_72.mono _ _ _)
   |(with_reducible exact LeO.refl _)
   |(with_reducible exact LeO.none _)
   |(with_reducible refine LeO.ite ?_ ?_)
   |(with_reducible refine LeO.bind ?_ (fun _=>?_))
   |exact B _ _ _ _
   |exact api_Inside_72.mono _ _ _
   |exact LeO.none _
   |refine LeO.ite ?_ ?_
   |refine LeO.bind ?_ (fun _=>?_)
theorem api_Inside_64.mono:∀ I D k,LeO (api_Inside_64.f k I D) (api_Inside_64.f (k+1) I D):=by
 intro I D k
 have B:=api_Inside_64.Zi k
 unfold api_Inside_64.f
 repeat' first
   |(with_reducible exact B _ _ _ _)
   |(with_reducible exact api_Inside_72.mono _ _ _)
   |(with_reducible exact LeO.refl _)
   |(with_reducible exact LeO.none _)
   |(with_reducible refine LeO.ite ?_ ?_)
   |(with_reducible refine LeO.bind ?_ (fun _=>?_))
   |exact B _ _ _ _
   |exact api_Inside_72.mono _ _ _
   |exact LeO.none _
   |refine LeO.ite ?_ ?_
   |refine LeO.bind ?_ (fun _=>?_)
set_option maxHeartbeats 8000000 in
set_option maxRecDepth 100000 in
theorem api_Inside_64.calls (k:Nat) (O:Nat→Prop) (a6:Value) (l0:List (S62)) (D:Int) (r:List (S62)) (w0 w:World) (hB:Below w0.heap.size w0 w) (φ :Kd.R k62 62 w w0.heap.size O a6 l0) (h:api_Inside_64.f k l0 D=some r) (Ar_:Option Addr) (nr_ cr_ gr_ gx_:Nat) (zx_:Int) (hgr_:w.heap[gr_]?=some (.cells #[.slice Ar_ nr_ cr_,.func (.func 57) #[] #[]] 74 (0,0))) (hgx_:w.heap[gx_]?=some (.cells #[.int .i64 (X7 D),.int .i64 (X6 D)] 62 (0,0))) (hnr_:¬ O gr_) (hnx_:¬ O gx_):
  Calls Try.prog 64 #[a6,.func (.func 65) #[] #[.pointer (some ⟨gr_,0,none⟩),.pointer (some ⟨gx_,0,none⟩)]] w fun e w'=>∃ a4:Value,e = .returned (a4)∧Kd.R k62 62 w' w0.heap.size (fun k_=>(O k_∨w.heap.size≤k_)) a4 r∧Below w0.heap.size w0 w'∧Kept w w' (fun k_=>O k_):=by
 have HCR:=Aside0.mk hgr_
 have HCX:=Aside0.mk hgx_
 have HNR:=Aside0.mk hnr_
 have HNX:=Aside0.mk hnx_
 clear hgr_ hgx_ hnr_ hnx_
 have bd:=Try.underlying62
 have ζ :=Aside0.mk (show Kd.R k62 62 w w0.heap.size (fun k_=>(O k_∨w.heap.size≤k_)) a6 l0 from Kd.Qq φ (fun k_ hk=>(.inl hk)))
 have HK:=Aside0.mk (Kept.refl w (fun k_=>O k_))
 have dp:=Aside0.mk hB.size
 have HB:=Aside0.mk hB
 clear hB
 have H:((api_Inside_72.f k l0 D).bind fun J=>(if J=(-1) then (some l0) else (api_Inside_64.l0 k l0 D J (wrap64 (J+1)))))=some r:=h
 clear h
 replace H:=Option.bind_eq_some_iff.mp H
 obtain⟨J,ae,H⟩:=H
 replace H:(if J=(-1) then (some l0) else (api_Inside_64.l0 k l0 D J (wrap64 (J+1))))=some r:=H
 have A3:=Aside0.mk ae
 clear ae
 by_cases c4:J=(-1)
 ·rw[if_pos c4] at H
  have c4b0:(J==(-1))=true:=beq_iff_eq.mpr c4
  have c4b1:(J != (-1))=false:=bne_eq_false_iff_eq.mpr c4
  clear c4
  obtain rfl:=Option.some.inj H
  obtain⟨dq,dr,d7⟩:=Kd.Q4 ζ.out
  subst d7
  go_enter Try.func64,Try.ntmps64
  go_wp2_with (first|(go_at_call 72;((with_reducible refine(api_Inside_72.calls k _ _ l0 D J _ ?side1 ?side2 A3.out Ar_ nr_ cr_ gr_ gx_ zx_ (Xf HCR.out (by repeat(first|(with_reducible first|exact HK.out|apply Kept.alloc|apply Kept.drewN|apply Kept.drew|refine Kept.setCell ?_ (.inr al.out) _)|exact HK.out)) HNR.out) (Xf HCX.out (by repeat(first|(with_reducible first|exact HK.out|apply Kept.alloc|apply Kept.drewN|apply Kept.drew|refine Kept.setCell ?_ (.inr al.out) _)|exact HK.out)) HNX.out)).mono ?_);(case side1=>exact(Kd.Qo ζ.out).2.2);(case side2=>exact(Kd.Qo ζ.out).2.1);rintro e w6 ⟨rfl,hb⟩;have U:=Aside0.mk (Kd.Qu ζ.out hb);have γ:=Aside0.mk (Kept.below (S:=(fun k_=>O k_)) (by repeat(first|(with_reducible first|exact HK.out|apply Kept.alloc|apply Kept.drewN|apply Kept.drew)|exact HK.out)) hb);have ι :=Aside0.mk (Qt HB.out hb);clear ζ;clear HK;clear HB;have ζ :=U;have HK:=γ;have HB:= ι;clear U γ ι;(try clear hb);(try clear a0);(try clear hk);(try clear hi))))
  go_ret
  exact⟨_,rfl,by(with_reducible repeat first|apply Kd.Qk|apply Kd.Qj|apply Kd.Qn);exact ζ.out,HB.out,by repeat(first|(with_reducible first|exact HK.out|apply Kept.alloc|apply Kept.drewN|apply Kept.drew)|exact HK.out)⟩
 ·rw[if_neg c4] at H
  have c4b0:(J==(-1))=false:=beq_eq_false_iff_ne.mpr c4
  have c4b1:(J != (-1))=true:=bne_iff_ne.mpr c4
  have H':=Aside0.mk H
  clear H
  obtain⟨a7,μ,d8⟩:=Kd.Q4 ζ.out
  subst d8
  go_enter Try.func64,Try.ntmps64
  go_wp2_with (first|(go_at_call 72;((with_reducible refine(api_Inside_72.calls k _ _ l0 D J _ ?side1 ?side2 A3.out Ar_ nr_ cr_ gr_ gx_ zx_ (Xf HCR.out (by repeat(first|(with_reducible first|exact HK.out|apply Kept.alloc|apply Kept.drewN|apply Kept.drew|refine Kept.setCell ?_ (.inr al.out) _)|exact HK.out)) HNR.out) (Xf HCX.out (by repeat(first|(with_reducible first|exact HK.out|apply Kept.alloc|apply Kept.drewN|apply Kept.drew|refine Kept.setCell ?_ (.inr al.out) _)|exact HK.out)) HNX.out)).mono ?_);(case side1=>exact(Kd.Qo ζ.out).2.2);(case side2=>exact(Kd.Qo ζ.out).2.1);rintro e w8 ⟨rfl,hb⟩;have U:=Aside0.mk (Kd.Qu ζ.out hb);have γ:=Aside0.mk (Kept.below (S:=(fun k_=>O k_)) (by repeat(first|(with_reducible first|exact HK.out|apply Kept.alloc|apply Kept.drewN|apply Kept.drew)|exact HK.out)) hb);have ι :=Aside0.mk (Qt HB.out hb);clear ζ;clear HK;clear HB;have ζ :=U;have HK:=γ;have HB:= ι;clear U γ ι;(try clear hb);(try clear a0);(try clear hk);(try clear hi))))
  go_loopg [5,6] k (fun kq v5 v6 w'=>∃ (B:List (S62)) (I:Int) (L:Int),v5 = .int .i64 I∧v6 = .int .i64 L∧Aside0 (api_Inside_64.l0 kq B D I L=some r)∧Aside0 (kq≤k)∧Aside0 (Kd.R k62 62 w' w0.heap.size (fun k_=>(O k_∨w.heap.size≤k_)) (.slice a7 l0.length μ) B)∧Aside0 (Kept w w' (fun k_=>O k_))∧Aside0 (Below w0.heap.size w0 w'))
  case atStart=>exact⟨(l0),(J),(wrap64 (J+1)),rfl,rfl,H',⟨Nat.le_refl _⟩,⟨by(with_reducible repeat first|apply Kd.Qk|apply Kd.Qj|apply Kd.Qn);exact ζ.out⟩,⟨by repeat(first|(with_reducible first|exact HK.out|apply Kept.alloc|apply Kept.drewN|apply Kept.drew)|exact HK.out)⟩,HB⟩
  case round=>
   clear H'
   try clear p2
   try clear c4
   try clear c4b0
   try clear c4b1
   try clear c6
   try clear p6
   try clear c7
   obtain⟨B,I,L,rfl,rfl,HA,ξ,HO_0,HK,HB⟩:=hrel
   have η :=(Kd.Qo HO_0.out).1
   rw[η] at HO_0
   (try simp only[η])
   cases gk with
   |zero=>exact absurd HA.out (by simp[api_Inside_64.l0])
   |succ k1=>
    have H:=HA.out
    clear HA
    simp only[api_Inside_64.l0] at H
    by_cases c9:L<(B.length:Int)
    ·rw[if_pos c9] at H
     have c9b0:decide (L<(B.length:Int))=true:=decide_eq_true c9
     clear c9
     by_cases c10:0≤L
     ·rw[if_pos c10] at H
      have c10b0:decide (0≤L)=true:=decide_eq_true c10
      clear c10
      replace H:=Option.bind_eq_some_iff.mp H
      obtain⟨δ,b8,H⟩:=H
      replace H:(if δ = true then (api_Inside_64.l0 k1 B D I (wrap64 (L+1))) else (if 0≤I then (if I<(B.length:Int) then (api_Inside_64.l0 k1 (B.set (I:Int).toNat (⟨(Qp B L).f0,(Qp B L).f1⟩:S62)) D (wrap64 (I+1)) (wrap64 (L+1))) else (none)) else (none)))=some r:=H
      have bj:=Aside0.mk b8
      clear b8
      by_cases ce: δ = true
      ·subst ce
       have H1:(api_Inside_64.l0 k1 B D I (wrap64 (L+1)))=some r:=by rw[if_pos rfl] at H;exact H
       clear H
       have H:=H1
       clear H1
       have H':=Aside0.mk H
       clear H
       have X:0≤(L:Int):=of_decide_eq_true (by assumption)
       have Z:L<(B.length:Int):=of_decide_eq_true (by assumption)
       obtain⟨bi,aa,a2,a8⟩:=Z8 (Kd.Qo HO_0.out).2.2 L X Z
       cases aa
       replace X:=eq_true X
       replace Z:=eq_true Z
       go_wp2_with (first|((with_reducible refine Qr (N:=7) rfl ?_);refine qE 7 #[.int .i64 0,.int .i64 0] 62 ?_;intro a5 hg ed hbox hb;have Y:=Aside0.mk hbox;have al:=Aside0.mk ((by rw[hg];exact(by first|exact HK.out.1|exact(show Kept w _ (fun k_=>O k_) from by repeat(first|(with_reducible first|exact HK.out|apply Kept.alloc|apply Kept.drewN|apply Kept.drew)|exact HK.out)).1):w.heap.size≤a5));have de:=Aside0.mk ((by rw[hg];exact(Qi bel):w0.heap.size≤a5));replace HO_0:=Aside0.mk (Kd.Qu (Kd.Y3 (kra HO_0) a5 (Nat.le_of_eq hg.symm)) hb);replace HK:=Aside0.mk (Kept.below (S:=(fun k_=>O k_)) (by repeat(first|(with_reducible first|exact HK.out|apply Kept.alloc|apply Kept.drewN|apply Kept.drew)|exact HK.out)) hb);replace HB:=sHb hb;clear hb hbox hg;obtain⟨ai,aj,av,ax⟩:=qD2 Y.out)|(go_at_call 65;((with_reducible refine(api_Inside_without_1.calls ((Qp B L).f0) ((Qp B L).f1) D true _ bj.out Ar_ nr_ cr_ gr_ gx_ zx_ (Xf HCR.out (by repeat(first|(with_reducible first|exact HK.out|apply Kept.alloc|apply Kept.drewN|apply Kept.drew|refine Kept.setCell ?_ (.inr al.out) _)|exact HK.out)) HNR.out) (Xf HCX.out (by repeat(first|(with_reducible first|exact HK.out|apply Kept.alloc|apply Kept.drewN|apply Kept.drew|refine Kept.setCell ?_ (.inr al.out) _)|exact HK.out)) HNX.out)).mono ?_);rintro e cr ⟨rfl,hb⟩;have U:=Aside0.mk (Kd.Qu (by(with_reducible repeat first|apply Kd.Qk|apply Kd.Qj|apply Kd.Qn);exact(Kd.Qq (Kd.Qs (Kd.Qs (Kd.Qq HO_0.out (fun k_ hk=>(⟨hk,hk.2⟩:_∧k_≠a5))) (fun _ hk=>hk.2) (.int .i64 ((Qp B L).f0))) (fun _ hk=>hk.2) (.int .i64 ((Qp B L).f1))) (fun _ h_=>h_.1))) hb);have γ:=Aside0.mk (Qm (g:=a5) (o:=.cells #[.int .i64 ((Qp B L).f0),.int .i64 ((Qp B L).f1)] 62 (0,0)) (by(with_reducible repeat first|apply Qd|apply Qa|apply Qe);refine Qv (cs:=#[.int .i64 ((Qp B L).f0),.int .i64 0]) ?_ 1 _ rfl;(with_reducible repeat first|apply Qd|apply Qa|apply Qe);refine Qv (cs:=#[.int .i64 0,.int .i64 0]) ?_ 0 _ rfl;(with_reducible repeat first|apply Qd|apply Qa|apply Qe);exact Y.out) hb);have ι :=Aside0.mk (Kept.below (S:=(fun k_=>O k_)) (by repeat(first|(with_reducible first|exact HK.out|apply Kept.alloc|apply Kept.drewN|apply Kept.drew|refine Kept.setCell ?_ (.inr al.out) _)|exact HK.out)) hb);have κ :=Aside0.mk (Qt bel hb);clear HO_0;clear Y;clear HK;clear HB;have HO_0:=U;have Y:=γ;have HK:= ι;have HB:= κ;clear U γ ι κ;(try clear hb);(try clear a0);(try clear hk);(try clear hi))))
       (try simp only[← η])
       go_roundg k1
       case measure=>have:= ξ.out;omega
       case rel=>exact⟨(B),(I),(wrap64 (L+1)),rfl,rfl,H',⟨by have:= ξ.out;omega⟩,⟨by(try simp only[η]);(with_reducible repeat first|apply Kd.Qk|apply Kd.Qj|apply Kd.Qn);exact Kd.Qq HO_0.out (fun _ hk=>hk.1)⟩,⟨by repeat(first|(with_reducible first|exact HK.out|apply Kept.alloc|apply Kept.drewN|apply Kept.drew|refine Kept.setCell ?_ (.inr al.out) _)|exact HK.out)⟩,HB⟩
      ·replace ce:=Bool.eq_false_iff.mpr ce
       subst ce
       have H1:(if 0≤I then (if I<(B.length:Int) then (api_Inside_64.l0 k1 (B.set (I:Int).toNat (⟨(Qp B L).f0,(Qp B L).f1⟩:S62)) D (wrap64 (I+1)) (wrap64 (L+1))) else (none)) else (none))=some r:=by rw[if_neg (show ¬ (false=true) by decide)] at H;exact H
       clear H
       have H:=H1
       clear H1
       by_cases a3:0≤I
       ·rw[if_pos a3] at H
        have c16b0:decide (0≤I)=true:=decide_eq_true a3
        clear a3
        by_cases au:I<(B.length:Int)
        ·rw[if_pos au] at H
         have c17b0:decide (I<(B.length:Int))=true:=decide_eq_true au
         clear au
         obtain⟨ab,ν⟩:∃ y_:List (S62),y_=(B.set (I:Int).toNat (⟨(Qp B L).f0,(Qp B L).f1⟩:S62)):=⟨_,rfl⟩
         replace H:(api_Inside_64.l0 k1 ab D (wrap64 (I+1)) (wrap64 (L+1)))=some r:=by first|(rw[ν];with_reducible exact H)|(have ρ:=(Option.bind_some _ _).symm.trans H;rw[ν];with_reducible exact ρ)|(have ρ:=(Option.bind_some _ _).symm.trans H;with_reducible exact ρ)|with_reducible exact H|(rw[ν];exact H)|exact H
         have bq:=Aside0.mk ν
         clear ν
         have H':=Aside0.mk H
         clear H
         have X:0≤(L:Int):=of_decide_eq_true (by assumption)
         have Z:L<(B.length:Int):=of_decide_eq_true (by assumption)
         obtain⟨bi,aa,a2,a8⟩:=Z8 (Kd.Qo HO_0.out).2.2 L X Z
         cases aa
         replace X:=eq_true X
         replace Z:=eq_true Z
         go_wp2_with (first|((with_reducible refine Qr (N:=7) rfl ?_);refine qE 7 #[.int .i64 0,.int .i64 0] 62 ?_;intro a5 hg eg hbox hb;have Y:=Aside0.mk hbox;have al:=Aside0.mk ((by rw[hg];exact(by first|exact HK.out.1|exact(show Kept w _ (fun k_=>O k_) from by repeat(first|(with_reducible first|exact HK.out|apply Kept.alloc|apply Kept.drewN|apply Kept.drew)|exact HK.out)).1):w.heap.size≤a5));have de:=Aside0.mk ((by rw[hg];exact(Qi HB.out):w0.heap.size≤a5));replace HO_0:=Aside0.mk (Kd.Qu (Kd.Y3 HO_0.out a5 (Nat.le_of_eq hg.symm)) hb);replace HK:=Aside0.mk (Kept.below (S:=(fun k_=>O k_)) (by repeat(first|(with_reducible first|exact HK.out|apply Kept.alloc|apply Kept.drewN|apply Kept.drew)|exact HK.out)) hb);replace HB:=sHb hb;clear hb hbox hg;obtain⟨b9,bb,be,bf⟩:=qD2 Y.out)|(go_at_call 65;((with_reducible refine(api_Inside_without_1.calls ((Qp B L).f0) ((Qp B L).f1) D false _ bj.out Ar_ nr_ cr_ gr_ gx_ zx_ (Xf HCR.out (by repeat(first|(with_reducible first|exact HK.out|apply Kept.alloc|apply Kept.drewN|apply Kept.drew|refine Kept.setCell ?_ (.inr al.out) _)|exact HK.out)) HNR.out) (Xf HCX.out (by repeat(first|(with_reducible first|exact HK.out|apply Kept.alloc|apply Kept.drewN|apply Kept.drew|refine Kept.setCell ?_ (.inr al.out) _)|exact HK.out)) HNX.out)).mono ?_);rintro e bo ⟨rfl,hb⟩;have U:=Aside0.mk (Kd.Qu (by(with_reducible repeat first|apply Kd.Qk|apply Kd.Qj|apply Kd.Qn);exact(Kd.Qq (Kd.Qs (p:=⟨a5,1,none⟩) (Kd.Qs (p:=⟨a5,0,none⟩) (Kd.Qq HO_0.out (fun k_ hk=>(⟨hk,hk.2⟩:_∧k_≠a5))) (fun _ hk=>hk.2) (.int .i64 ((Qp B L).f0))) (fun _ hk=>hk.2) (.int .i64 ((Qp B L).f1))) (fun _ h_=>h_.1))) hb);have γ:=Aside0.mk (Qm (g:=a5) (o:=.cells #[.int .i64 ((Qp B L).f0),.int .i64 ((Qp B L).f1)] 62 (0,0)) (by(with_reducible repeat first|apply Qd|apply Qa|apply Qe);refine Qv (cs:=#[.int .i64 ((Qp B L).f0),.int .i64 0]) ?_ 1 _ rfl;(with_reducible repeat first|apply Qd|apply Qa|apply Qe);refine Qv (cs:=#[.int .i64 0,.int .i64 0]) ?_ 0 _ rfl;(with_reducible repeat first|apply Qd|apply Qa|apply Qe);exact Y.out) hb);have ι :=Aside0.mk (Kept.below (S:=(fun k_=>O k_)) (by repeat(first|(with_reducible first|exact HK.out|apply Kept.alloc|apply Kept.drewN|apply Kept.drew|refine Kept.setCell ?_ (.inr al.out) _)|exact HK.out)) hb);have κ :=Aside0.mk (Qt (by repeat(first|(with_reducible first|exact HB.out|apply Qh|apply Qb|apply Qf|refine Qc ?_ de.out)|exact HB.out)) hb);clear HO_0;clear Y;clear HK;clear HB;have HO_0:=U;have Y:=γ;have HK:= ι;have HB:= κ;clear U γ ι κ;(try clear hb);(try clear a0);(try clear hk);(try clear hi);obtain⟨bk,bn,bv,bw⟩:=qD2 Y.out;have an:0≤(I:Int):=of_decide_eq_true (by first|(with_reducible assumption)|assumption);have ao:(I:Int)<((B.length:Int):Int):=of_decide_eq_true (by first|(with_reducible assumption)|assumption);obtain⟨ε,d9,az,b3,bm,da,b4⟩:=Kd.U4 HO_0.out (by omega);(first|cases az|(injection az with ea_ en_ ec_;(first|subst ea_|(injection ea_ with ea_;subst ea_));subst ec_;clear en_));have ah:=Aside0.mk b3;have db:=Aside0.mk b4;clear b3 bm b4;have dc:=Aside0.mk (show(O ε ∨ w.heap.size ≤ ε) from(HO_0.out.1 _ rfl).1);(first|simp only[add_plain] at a2|skip);(first|simp only[add_plain] at a8|skip);obtain⟨dd,b6,b5,θ,τ⟩:=Kd.Kz HO_0.out z62 (I:Int) an ao;obtain rfl:=J6 b5;have ca:bo.cell? ⟨ε,(I:Int).toNat * 2,none⟩=some (.int .i64 ((Qp B I).f0)):= θ 0 _ rfl;have cb:bo.cell? ⟨ε,(I:Int).toNat * 2+1,none⟩=some (.int .i64 ((Qp B I).f1)):= θ 1 _ rfl;have cq:bo.frozen? ⟨ε,(I:Int).toNat * 2,none⟩=false:= τ 0;have ct:bo.frozen? ⟨ε,(I:Int).toNat * 2+1,none⟩=false:= τ 1;clear b6 θ τ b5;replace an:=eq_true an;replace ao:=eq_true ao;have bh:=Aside0.mk (show Kd.R k62 62 bo w0.heap.size (fun k_=>(O k_∨w.heap.size≤k_)∧k_≠a5) (.slice (some ⟨ε,0,none⟩) B.length μ) B from(by(with_reducible repeat first|apply Kd.Qk|apply Kd.Qj|apply Kd.Qn);exact HO_0.out));obtain⟨di,b1,bl,χ,af⟩:=Kd.Kz bh.out z62 (I:Int) (of_decide_eq_true (by first|(with_reducible assumption)|assumption)) (by have h_:(I:Int)<((B.length:Int):Int):=of_decide_eq_true (by first|(with_reducible assumption)|assumption);first|exact h_|(have e_:=(Kd.Qo HO_0.out).1;omega)|simpa using h_);obtain rfl:=J6 bl;have b0:=Kd.Mj bh.out (I:Int) (of_decide_eq_true (by first|(with_reducible assumption)|assumption)) (by have h_:(I:Int)<((B.length:Int):Int):=of_decide_eq_true (by first|(with_reducible assumption)|assumption);first|exact h_|(have e_:=(Kd.Qo HO_0.out).1;omega)|simpa using h_) (seg:=[.int .i64 ((Qp B L).f0),.int .i64 ((Qp B L).f1)]) (j:=0) b1 χ (show 2≤2 from by decide) (x':=(⟨(Qp B L).f0,(Qp B L).f1⟩:S62)) (Kr _ _ _ (⟨(Qp B L).f0,(Qp B L).f1⟩:S62)) (fun _ hk=>hk);have bp:= χ 0 _ rfl;(try simp only[show(k62).sz=2 from rfl,Nat.mul_one,Nat.add_zero] at bp);have bs:=af 0;(try simp only[show(k62).sz=2 from rfl,Nat.mul_one,Nat.add_zero] at bs);have cd:= χ 1 _ rfl;(try simp only[show(k62).sz=2 from rfl,Nat.mul_one,Nat.add_zero] at cd);have cf:=af 1;(try simp only[show(k62).sz=2 from rfl,Nat.mul_one,Nat.add_zero] at cf);clear b1 χ af bl))|((with_reducible refine Kf (t:=62) (p:=33) rfl ?_);refine Jv (t:=62) (p:=33) (v:=?vo_w24) (w1:=((bo.setCell ⟨ε,(I:Int).toNat * 2,none⟩ (.int .i64 ((Qp B L).f0))).setCell ⟨ε,(I:Int).toNat * 2+1,none⟩ (.int .i64 ((Qp B L).f1)))) ?hg ?ho ?hn ?hr ?_;(case ho=>rfl);(case hg=>rfl);(case hn=>rfl);(case hr=>go_simp <;> rfl);intro bu hw;have hg:bo.grownBy bu (some ε):=(by rw[hw];exact b0.2);have hp_:Kd.R k62 62 bu w0.heap.size (fun k_=>(O k_∨w.heap.size≤k_)∧k_≠a5) (.slice (some ⟨ε,0,none⟩) B.length μ) ab:=(by rw[hw,bq.out];exact b0.1);clear b0;replace Y:=Aside0.mk (Zb (g:=a5) (o:=.cells #[.int .i64 ((Qp B L).f0),.int .i64 ((Qp B L).f1)] 62 (0,0)) Y.out hg (Kd.Y4 HO_0.out (fun _ hk=>hk.2)));replace HB:=Aside0.mk ((by rw[hw];exact Qc (Qc (HB.out) ah.out) ah.out:Below w0.heap.size w0 bu));replace HK:=Aside0.mk (Kept.Kp (S:=(fun k_=>O k_)) hg (by repeat(first|(with_reducible first|exact HK.out|apply Kept.alloc|apply Kept.drewN|apply Kept.drew|refine Kept.setCell ?_ (.inr al.out) _)|exact HK.out)) (fun k_ e_=>(HO_0.out.1 k_ e_).1));replace HO_0:=Aside0.mk hp_;clear hg hw hp_))
         (try simp only[← η])
         go_roundg k1
         case measure=>have:= ξ.out;omega
         case rel=>exact⟨(ab),(wrap64 (I+1)),(wrap64 (L+1)),rfl,rfl,H',⟨by have:= ξ.out;omega⟩,⟨by(try simp only[η]);(with_reducible repeat first|apply Kd.Qk|apply Kd.Qj|apply Kd.Qn);exact Kd.Qq HO_0.out (fun _ hk=>hk.1)⟩,⟨by repeat(first|(with_reducible first|exact HK.out|apply Kept.alloc|apply Kept.drewN|apply Kept.drew|refine Kept.setCell ?_ (.inr al.out) _)|exact HK.out)⟩,HB⟩
        ·rw[if_neg au] at H
         exact absurd H (by simp)
       ·rw[if_neg a3] at H
        exact absurd H (by simp)
     ·rw[if_neg c10] at H
      exact absurd H (by simp)
    ·rw[if_neg c9] at H
     have c9b0:decide (L<(B.length:Int))=false:=decide_eq_false c9
     clear c9
     by_cases bc:0≤I
     ·rw[if_pos bc] at H
      have c25b0:=eq_true bc
      have c25b1:decide (0≤I)=true:=decide_eq_true bc
      clear bc
      by_cases am:I≤(B.length:Int)
      ·rw[if_pos am] at H
       have c26b0:=eq_true am
       have c26b1:decide (I≤(B.length:Int))=true:=decide_eq_true am
       clear am
       obtain⟨ω,σ⟩:∃ y_:List (S62),y_=(B.drop (I:Int).toNat):=⟨_,rfl⟩
       replace H:(some (B.take (I:Int).toNat))=some r:=by first|(rw[σ];with_reducible exact H)|(have ρ:=(Option.bind_some _ _).symm.trans H;rw[σ];with_reducible exact ρ)|(have ρ:=(Option.bind_some _ _).symm.trans H;with_reducible exact ρ)|with_reducible exact H|(rw[σ];exact H)|exact H
       have bg:=Aside0.mk σ
       clear σ
       have c27b0:=eq_true (of_decide_eq_true (by assumption):I≤(B.length:Int))
       obtain⟨ag,ψ⟩:∃ y_:List (S62),y_=(B.take (I:Int).toNat):=⟨_,rfl⟩
       replace H:(some ag)=some r:=by first|(rw[ψ];with_reducible exact H)|(have ρ:=(Option.bind_some _ _).symm.trans H;rw[ψ];with_reducible exact ρ)|(have ρ:=(Option.bind_some _ _).symm.trans H;with_reducible exact ρ)|with_reducible exact H|(rw[ψ];exact H)|exact H
       have a9:=Aside0.mk ψ
       clear ψ
       obtain rfl:=Option.some.inj H
       have cg:(I:Int)≤((B.length:Int):Int):=of_decide_eq_true (by assumption)
       obtain⟨dj,b2,_,b7,_⟩:=info_parts J0
       have hroom28:B.length ≤ μ :=(Kd.Qo HO_0.out).2.1
       have ch:Kd.C k62 _ a7 B.length B:=(Kd.Qo HO_0.out).2.2
       have cz:(0:Int)≤(I:Int):=of_decide_eq_true (by assumption)
       have cj:=Xg (P:=Try.prog) 25 62 .i64 Try.underlying25 b2 2 b7 a7 B.length μ I cz cg
       have ac:=Kd.Mo (m:=(I:Int).toNat) (c:= μ) ch (by omega) hroom28
       obtain⟨cu,ap⟩:∃ A1,A1=(if μ = (I:Int).toNat then a7 else (a7:Option Addr).map (·.add ((I:Int).toNat * 2))):=⟨_,rfl⟩
       obtain⟨ak,ar⟩:∃ c1,c1 = μ - (I:Int).toNat:=⟨_,rfl⟩
       have aw: ω.length=B.length - (I:Int).toNat:=(by rw[bg.out,List.length_drop] <;> omega)
       rw[show(B).drop (I:Int).toNat = ω from bg.out.symm] at ac
       replace ac:Kd.C k62 _ cu ω.length ω :=(by rw[ap];exact ac)
       rw[← aw,← ap,← ar] at cj
       have br:=Aside0.mk ac
       have bz:=Aside0.mk (show ω.length≤ak from by rw[aw,ar];exact Nat.sub_le_sub_right hroom28 _)
       have d0:=Aside0.mk ar
       clear ac ch hroom28 b2 b7 ar
       have d1:=Aside0.mk aw
       have d2:=Aside0.mk ap
       clear aw ap
       have d3:=Aside0.mk (show(I:Int).toNat≤B.length from by omega)
       replace cg:=eq_true cg
       have ck:(I:Int)≤((B.length:Int):Int):=of_decide_eq_true (by assumption)
       obtain⟨dk,ba,_,co,_⟩:=info_parts J0
       have cm:=L8 (P:=Try.prog) 25 62 .i64 Try.underlying25 ba a7 B.length μ I (of_decide_eq_true (by assumption)) ck (Kd.Qo HO_0.out).2.1
       have ay:=Kd.Mh (m:=(I:Int).toNat) HO_0.out (by omega)
       have cn:ag.length=(I:Int).toNat:=(by rw[a9.out,List.length_take];omega)
       rw[← a9.out] at ay
       rw[← cn] at ay cm
       clear cn ba co
       have ci:=Aside0.mk ay
       clear ay
       replace ck:=eq_true ck
       go_wp2_with (first|((with_reducible refine Xc (b:=.clear) (xs:=#[.tmp 38]) rfl ?_);refine Gy Xz (w:=w) (S:=fun k_=>O k_) rfl (.tmp 38) 25 rfl Try.underlying25 (.agg #[.int .i64 0,.int .i64 0]) zeroI (by decide) rfl a7 cu μ ak ω.length B HO_0.out (I:Int).toNat d3.out d2.out d1.out d0.out rfl HB.out HK.out (fun _ hk=>hk) ag (a9.out) ?_;intro dl cv cw cx;have U:=Aside0.mk cv;have γ:=Aside0.mk cw;have ι :=Aside0.mk cx;clear cv cw cx HO_0 ci HB HK;have ci:=U;have HB:=γ;have HK:= ι;clear U γ ι))
       go_ret
       exact⟨_,rfl,by(with_reducible repeat first|apply Kd.Qk|apply Kd.Qj|apply Kd.Qn);exact ci.out,HB.out,by repeat(first|(with_reducible first|exact HK.out|apply Kept.alloc|apply Kept.drewN|apply Kept.drew)|exact HK.out)⟩
      ·rw[if_neg am] at H
       exact absurd H (by simp)
     ·rw[if_neg bc] at H
      exact absurd H (by simp)
def api_Hall_62.l0:Nat→List (S56)→Int→Int→Int→Int→Int→Int→Option (Int×Bool)
 |0,_,_,_,_,_,_,_=>none
 |k+1,J,D,I,B,L,O,U=>if I<B then (if 0≤(wrap64 ((IntKind.u64.wrap (wrap64 (I+B))) / 2)) then (if (wrap64 ((IntKind.u64.wrap (wrap64 (I+B))) / 2))<(J.length:Int) then ((call_halls_1.f ((Qg J (wrap64 ((IntKind.u64.wrap (wrap64 (I+B))) / 2))).f0) ((Qg J (wrap64 ((IntKind.u64.wrap (wrap64 (I+B))) / 2))).f1) ((Qg J (wrap64 ((IntKind.u64.wrap (wrap64 (I+B))) / 2))).f2) L O U).bind fun Z=>(if Z<0 then (api_Hall_62.l0 k J D (wrap64 ((wrap64 ((IntKind.u64.wrap (wrap64 (I+B))) / 2))+1)) B L O U) else (api_Hall_62.l0 k J D I (wrap64 ((IntKind.u64.wrap (wrap64 (I+B))) / 2)) L O U))) else (none)) else (none)) else (if I<D then (if 0≤I then (if I<(J.length:Int) then ((call_halls_1.f ((Qg J I).f0) ((Qg J I).f1) ((Qg J I).f2) L O U).bind fun ν =>(some (I,(ν == 0)))) else (none)) else (none)) else (some (I,false)))
def api_Hall_62.f (k:Nat) (l0:List (S56)) (D:Int) (O:Int) (X:Int) (a2:Int):Option (Int×Bool):=api_Hall_62.l0 k l0 (l0.length:Int) 0 (l0.length:Int) D O X
theorem api_Hall_62.Zi:∀ k,(∀ D I O J L X Y,LeO (api_Hall_62.l0 k D I O J L X Y) (api_Hall_62.l0 (k+1) D I O J L X Y))
 |0=>fun _ _ _ _ _ _ _ r h=>by simp[api_Hall_62.l0] at h
 |k+1=>by
  have B:=api_Hall_62.Zi k
  ·intro D I O J L X Y
   unfold api_Hall_62.l0
   repeat' first
   |(with_reducible exact B _ _ _ _ _ _ _)
   |(with_reducible exact LeO.refl _)
   |(with_reducible exact LeO.none _)
   |(with_reducible refine LeO.ite ?_ ?_)
   |(with_reducible refine LeO.bind ?_ (fun _=>?_))
   |exact B _ _ _ _ _ _ _
   |exact LeO.none _
   |refine LeO.ite ?_ ?_
   |refine LeO.bind ?_ (fun _=>?_)
theorem api_Hall_62.mono:∀ I D a2 X J k,LeO (api_Hall_62.f k I D a2 X J) (api_Hall_62.f (k+1) I D a2 X J):=by
 intro I D a2 X J k
 have B:=api_Hall_62.Zi k
 unfold api_Hall_62.f
 repeat' first
   |(with_reducible exact B _ _ _ _ _ _ _)
   |(with_reducible exact LeO.refl _)
   |(with_reducible exact LeO.none _)
   |(with_reducible refine LeO.ite ?_ ?_)
   |(with_reducible refine LeO.bind ?_ (fun _=>?_))
   |exact B _ _ _ _ _ _ _
   |exact LeO.none _
   |refine LeO.ite ?_ ?_
   |refine LeO.bind ?_ (fun _=>?_)
def api_Hall_62.T5:Bool×List (List Nat×List Nat):=(true,[([],[]),([],[]),([],[]),([1,2],[1,2]),([3],[3]),([],[]),([0,4,5],[0,4,5]),([6],[6])])
def api_Hall_62.B5:List Nat:=[0,0,0,6,14,0,63,127]
theorem api_Hall_62.Lk:rtab .any (opsOf Try.f62 5)=api_Hall_62.T5:=by kernel_rfl
theorem api_Hall_62.Uk:Zr api_Hall_62.T5.2 api_Hall_62.B5=true:=by kernel_rfl
def api_Hall_62.T8:Bool×List (List Nat×List Nat):=(true,[([],[]),([],[]),([],[]),([1,2],[1,2]),([3],[3]),([4],[4]),([4],[4]),([4],[4]),([6,7,4],[4,6,7]),([8,4],[4,8]),([4],[4]),([5,9,10,4,4],[4,5,9,10]),([11,4],[4,11]),([4,12],[4,12]),([0,11,0],[0]),([13,14,0,1,2,3,4,5,6,7,8,9,10,11,12,13,14],[13])])
def api_Hall_62.B8:List Nat:=[0,0,0,6,14,30,30,30,222,478,30,2046,4094,8190,4095,32767]
theorem api_Hall_62.Um:rtab .any (opsOf Try.f62 8)=api_Hall_62.T8:=by kernel_rfl
theorem api_Hall_62.G0:Zr api_Hall_62.T8.2 api_Hall_62.B8=true:=by kernel_rfl
set_option maxHeartbeats 8000000 in
set_option maxRecDepth 100000 in
theorem api_Hall_62.calls (k:Nat) (Y:Option Addr) (c0:Nat) (l0:List (S56)) (D:Int) (O:Int) (X:Int) (a2:Int) (r1:Int) (r2:Bool) (w:World) (ε :Kd.C k56 w Y l0.length l0) (γ:l0.length≤c0) (h:api_Hall_62.f k l0 D O X a2=some (r1,r2)):
  Calls Try.prog 62 #[.slice Y l0.length c0,.agg #[.int .i64 D,.int .i64 O,.int .i64 X],.func (.func 51) #[] #[]] w fun e w'=>e = .returned (.tuple #[.int .i64 r1,.bool r2])∧Below w.heap.size w w':=by
 have bq:=Try.underlying56
 have μ :=Aside0.mk ε
 have a6:=Aside0.mk γ
 clear ε γ
 have HB:=Aside0.mk (Below.refl w.heap.size w)
 have H:(api_Hall_62.l0 k l0 (l0.length:Int) 0 (l0.length:Int) D O X)=some (r1,r2):=h
 clear h
 have H':=Aside0.mk H
 clear H
 go_enter Try.func62,Try.ntmps62
 go_wp2_with (first|((with_reducible refine Qr (N:=4) rfl ?_);refine qE 4 #[.int .i64 D,.int .i64 O,.int .i64 X] 56 ?_;intro δ hg w4 hbox hb;have L:=Aside0.mk hbox;have b6:=sGe hg;have b7:=sGe hg;replace HB:=sHb hb;clear hb hbox hg))
 go_loopg [9,10] k (fun kq v9 am w'=>∃ (J:Int) (B:Int),v9 = .int .i64 J∧am = .int .i64 B∧Aside0 (api_Hall_62.l0 kq l0 (l0.length:Int) J B D O X=some (r1,r2))∧Aside0 (kq≤k)∧Aside0 (w'.heap[δ]?=some (.cells #[.int .i64 D,.int .i64 O,.int .i64 X] 56 (0,0)))∧Aside0 (Below w.heap.size w w'))
 case atStart=>exact⟨(0),((l0.length:Int)),rfl,rfl,H',⟨Nat.le_refl _⟩,L,HB⟩
 case round=>
  clear H'
  try clear p2
  obtain⟨J,B,rfl,rfl,HA,ξ,L,HB⟩:=hrel
  cases gk with
  |zero=>exact absurd HA.out (by simp[api_Hall_62.l0])
  |succ k1=>
   have H:=HA.out
   clear HA
   simp only[api_Hall_62.l0] at H
   by_cases c5:J<B
   ·rw[if_pos c5] at H
    have c5b0:decide (J<B)=true:=decide_eq_true c5
    clear c5
    obtain⟨I,σ⟩:∃ j_:Int,(wrap64 ((IntKind.u64.wrap (wrap64 (J+B))) / 2))=j_:=⟨_,rfl⟩
    replace H:(if 0≤(I) then (if (I)<(l0.length:Int) then ((call_halls_1.f ((Qg l0 (I)).f0) ((Qg l0 (I)).f1) ((Qg l0 (I)).f2) D O X).bind fun Z=>(if Z<0 then (api_Hall_62.l0 k1 l0 (l0.length:Int) (wrap64 ((I)+1)) B D O X) else (api_Hall_62.l0 k1 l0 (l0.length:Int) J I D O X))) else (none)) else (none))=some (r1,r2):=by first|(rw[σ] at H;exact H)|(simp only[σ] at H ⊢;exact H)
    have hji6w:(IntKind.i64.wrap ((IntKind.u64.wrap (wrap64 (J+B))) / 2))=I:=(X5 _).trans σ
    by_cases c7:0≤(I)
    ·rw[if_pos c7] at H
     have c7b0:decide (0≤(I))=true:=decide_eq_true c7
     clear c7
     by_cases c8:(I)<(l0.length:Int)
     ·rw[if_pos c8] at H
      have c8b0:decide ((I)<(l0.length:Int))=true:=decide_eq_true c8
      clear c8
      replace H:=Option.bind_eq_some_iff.mp H
      obtain⟨Z,g1,H⟩:=H
      replace H:(if Z<0 then (api_Hall_62.l0 k1 l0 (l0.length:Int) (wrap64 ((I)+1)) B D O X) else (api_Hall_62.l0 k1 l0 (l0.length:Int) J I D O X))=some (r1,r2):=H
      have A9:=Aside0.mk g1
      clear g1
      by_cases c10:Z<0
      ·rw[if_pos c10] at H
       have c10b0:decide (Z<0)=true:=decide_eq_true c10
       clear c10
       have H':=Aside0.mk H
       clear H
       try go_wp2
       replace L:=Aside0.mk (Qa L.out)
       replace HB:=Aside0.mk (Qf HB.out)
       have a4:0≤((I):Int):=of_decide_eq_true (by assumption)
       have a5:(I)<(l0.length:Int):=of_decide_eq_true (by assumption)
       obtain⟨ρ,a7,U,ζ,η⟩:=Z3 μ.out (I) a4 a5
       have θ := η
       have ι := ζ
       have κ :=U
       cases a7
       replace U:=(HB.out.cell (World.block_lt_of_cell? w _ U)).trans U
       replace ζ :=(HB.out.cell (World.block_lt_of_cell? w _ ζ)).trans ζ
       replace η :=(HB.out.cell (World.block_lt_of_cell? w _ η)).trans η
       replace a4:=eq_true a4
       replace a5:=eq_true a5
       refine Zn (n:=8) (S:=fun w'=>w'.cell? ⟨δ,0,none⟩=some (.int .i64 D)∧w'.cell? ⟨δ,1,none⟩=some (.int .i64 O)∧w'.cell? ⟨δ,2,none⟩=some (.int .i64 X)∧w'.cell? (ρ.add (((I)).toNat * 3))=some (.int .i64 ((Qg l0 (I)).f0))∧w'.cell? ⟨(ρ.add (((I)).toNat * 3)).block,(ρ.add (((I)).toNat * 3)).off+1,none⟩=some (.int .i64 ((Qg l0 (I)).f1))∧w'.cell? ⟨(ρ.add (((I)).toNat * 3)).block,(ρ.add (((I)).toNat * 3)).off+2,none⟩=some (.int .i64 ((Qg l0 (I)).f2))) (ds:=[]) #[false,false,false,false,false,false,false,false] kr rfl rfl ⟨(Ql L.out 0).trans rfl,(Ql L.out 1).trans rfl,(Ql L.out 2).trans rfl,((HB.out.cell (World.block_lt_of_cell? w _ κ)).trans κ),((HB.out.cell (World.block_lt_of_cell? w _ ι)).trans ι),((HB.out.cell (World.block_lt_of_cell? w _ θ)).trans θ)⟩ (fun hHeld=>?_);refine Q8 api_Hall_62.Lk api_Hall_62.Uk (fun HT_ HW_=>?_)
       generalize wr.drew=e5 at L HB U ζ η hHeld ⊢
       refine qP 0 (some 24) (bN 8 1) HT_ ?_
       refine qP 1 (some 25) (bN 8 3) HT_ ?_
       refine qP 2 (some 26) (bN 8 7) HT_ ?_
       refine qP 3 (some 27) (bN 8 15) HT_ ?_
       refine qT 4 (some 28) (bN 8 31) HT_ HW_ hHeld ?_
       refine qT 5 (some 29) (bN 8 63) HT_ HW_ hHeld ?_
       refine Zg (i:=6) (N:=some 30) (bN 8 127) rfl rfl (Q1 HT_.out kr) (by decide) (fun K hK=>?_)
       refine Xm Try.func51 kr rfl #[] #[] #[.agg #[.int .i64 ((Qg l0 (I)).f0),.int .i64 ((Qg l0 (I)).f1),.int .i64 ((Qg l0 (I)).f2)],.agg #[.int .i64 D,.int .i64 O,.int .i64 X]] #[.agg #[.int .i64 ((Qg l0 (I)).f0),.int .i64 ((Qg l0 (I)).f1),.int .i64 ((Qg l0 (I)).f2)],.agg #[.int .i64 D,.int .i64 O,.int .i64 X]] rfl (by rfl) rfl rfl rfl (by(try simp only[List.map_toArray,List.map_cons,List.map_nil]);first|done|(simp only[σ];rfl)|rfl|(simp only[List.length_drop,List.length_take];rfl)) ?_
       with_reducible refine(call_halls_1.calls ((Qg l0 (I)).f0) ((Qg l0 (I)).f1) ((Qg l0 (I)).f2) D O X Z _ A9.out).mono ?_
       rintro e dt ⟨rfl,hb⟩
       refine⟨_,rfl, ?_⟩
       replace L:=sBk L hb
       replace HB:=sHb hb
       (try clear hb)
       (try clear a0)
       (try clear hk)
       (try clear hi)
       refine hK.out _ _ ⟨qc L,qc L,qc L,((HB.out.cell (World.block_lt_of_cell? w _ κ)).trans κ),((HB.out.cell (World.block_lt_of_cell? w _ ι)).trans ι),((HB.out.cell (World.block_lt_of_cell? w _ θ)).trans θ)⟩ (fun hHeld=>?_)
       clear hK K
       refine qN (some 30) ?_
       refine qP 7 (some 31) (bN 8 255) HT_ ?_
       refine Zu (Zj HT_.out kr) ?_
       try go_wp2
       go_roundg k1
       case measure=>have:= ξ.out;omega
       case rel=>exact⟨(wrap64 ((I)+1)),(B),(by first|rfl|(simp;done)|(simp only[← σ] <;> (first|rfl|simp))|(simp[*];done)),rfl,H',⟨by have:= ξ.out;omega⟩,L,HB⟩
      ·rw[if_neg c10] at H
       have c10b0:decide (Z<0)=false:=decide_eq_false c10
       clear c10
       have H':=Aside0.mk H
       clear H
       try go_wp2
       replace L:=Aside0.mk (Qa L.out)
       replace HB:=Aside0.mk (Qf HB.out)
       have a4:0≤((I):Int):=of_decide_eq_true (by assumption)
       have a5:(I)<(l0.length:Int):=of_decide_eq_true (by assumption)
       obtain⟨ρ,a7,U,ζ,η⟩:=Z3 μ.out (I) a4 a5
       have θ := η
       have ι := ζ
       have κ :=U
       cases a7
       replace U:=(HB.out.cell (World.block_lt_of_cell? w _ U)).trans U
       replace ζ :=(HB.out.cell (World.block_lt_of_cell? w _ ζ)).trans ζ
       replace η :=(HB.out.cell (World.block_lt_of_cell? w _ η)).trans η
       replace a4:=eq_true a4
       replace a5:=eq_true a5
       refine Zn (n:=8) (S:=fun w'=>w'.cell? ⟨δ,0,none⟩=some (.int .i64 D)∧w'.cell? ⟨δ,1,none⟩=some (.int .i64 O)∧w'.cell? ⟨δ,2,none⟩=some (.int .i64 X)∧w'.cell? (ρ.add (((I)).toNat * 3))=some (.int .i64 ((Qg l0 (I)).f0))∧w'.cell? ⟨(ρ.add (((I)).toNat * 3)).block,(ρ.add (((I)).toNat * 3)).off+1,none⟩=some (.int .i64 ((Qg l0 (I)).f1))∧w'.cell? ⟨(ρ.add (((I)).toNat * 3)).block,(ρ.add (((I)).toNat * 3)).off+2,none⟩=some (.int .i64 ((Qg l0 (I)).f2))) (ds:=[]) #[false,false,false,false,false,false,false,false] kr rfl rfl ⟨(Ql L.out 0).trans rfl,(Ql L.out 1).trans rfl,(Ql L.out 2).trans rfl,((HB.out.cell (World.block_lt_of_cell? w _ κ)).trans κ),((HB.out.cell (World.block_lt_of_cell? w _ ι)).trans ι),((HB.out.cell (World.block_lt_of_cell? w _ θ)).trans θ)⟩ (fun hHeld=>?_);refine Q8 api_Hall_62.Lk api_Hall_62.Uk (fun HT_ HW_=>?_)
       generalize wr.drew=ed at L HB U ζ η hHeld ⊢
       refine qP 0 (some 24) (bN 8 1) HT_ ?_
       refine qP 1 (some 25) (bN 8 3) HT_ ?_
       refine qP 2 (some 26) (bN 8 7) HT_ ?_
       refine qP 3 (some 27) (bN 8 15) HT_ ?_
       refine qT 4 (some 28) (bN 8 31) HT_ HW_ hHeld ?_
       refine qT 5 (some 29) (bN 8 63) HT_ HW_ hHeld ?_
       refine Zg (i:=6) (N:=some 30) (bN 8 127) rfl rfl (Q1 HT_.out kr) (by decide) (fun K hK=>?_)
       refine Xm Try.func51 kr rfl #[] #[] #[.agg #[.int .i64 ((Qg l0 (I)).f0),.int .i64 ((Qg l0 (I)).f1),.int .i64 ((Qg l0 (I)).f2)],.agg #[.int .i64 D,.int .i64 O,.int .i64 X]] #[.agg #[.int .i64 ((Qg l0 (I)).f0),.int .i64 ((Qg l0 (I)).f1),.int .i64 ((Qg l0 (I)).f2)],.agg #[.int .i64 D,.int .i64 O,.int .i64 X]] rfl (by rfl) rfl rfl rfl (by(try simp only[List.map_toArray,List.map_cons,List.map_nil]);first|done|(simp only[σ];rfl)|rfl|(simp only[List.length_drop,List.length_take];rfl)) ?_
       with_reducible refine(call_halls_1.calls ((Qg l0 (I)).f0) ((Qg l0 (I)).f1) ((Qg l0 (I)).f2) D O X Z _ A9.out).mono ?_
       rintro e b2 ⟨rfl,hb⟩
       refine⟨_,rfl, ?_⟩
       replace L:=sBk L hb
       replace HB:=sHb hb
       (try clear hb)
       (try clear a0)
       (try clear hk)
       (try clear hi)
       refine hK.out _ _ ⟨qc L,qc L,qc L,((HB.out.cell (World.block_lt_of_cell? w _ κ)).trans κ),((HB.out.cell (World.block_lt_of_cell? w _ ι)).trans ι),((HB.out.cell (World.block_lt_of_cell? w _ θ)).trans θ)⟩ (fun hHeld=>?_)
       clear hK K
       refine qN (some 30) ?_
       refine qP 7 (some 31) (bN 8 255) HT_ ?_
       refine Zu (Zj HT_.out kr) ?_
       try go_wp2
       go_roundg k1
       case measure=>have:= ξ.out;omega
       case rel=>exact⟨(J),(I),rfl,(by first|rfl|(simp;done)|(simp only[← σ] <;> (first|rfl|simp))|(simp[*];done)),H',⟨by have:= ξ.out;omega⟩,L,HB⟩
     ·rw[if_neg c8] at H
      exact absurd H (by simp)
    ·rw[if_neg c7] at H
     exact absurd H (by simp)
   ·rw[if_neg c5] at H
    have c5b0:decide (J<B)=false:=decide_eq_false c5
    clear c5
    by_cases a8:J<(l0.length:Int)
    ·rw[if_pos a8] at H
     have c15b0:decide (J<(l0.length:Int))=true:=decide_eq_true a8
     clear a8
     by_cases a3:0≤J
     ·rw[if_pos a3] at H
      have c16b0:decide (0≤J)=true:=decide_eq_true a3
      clear a3
      by_cases au:J<(l0.length:Int)
      ·rw[if_pos au] at H
       have c17b0:decide (J<(l0.length:Int))=true:=decide_eq_true au
       clear au
       replace H:=Option.bind_eq_some_iff.mp H
       obtain⟨ν,cd,H⟩:=H
       replace H:(some (J,(ν == 0)))=some (r1,r2):=H
       have dm:=Aside0.mk cd
       clear cd
       simp only[Option.some.injEq,Prod.mk.injEq] at H
       obtain⟨rfl,rfl⟩:=H
       try go_wp2
       replace L:=Aside0.mk (Qa L.out)
       replace HB:=Aside0.mk (Qf HB.out)
       have ae:0≤(J:Int):=of_decide_eq_true (by assumption)
       have aj:J<(l0.length:Int):=of_decide_eq_true (by assumption)
       obtain⟨b1,de,χ,ψ,ω⟩:=Z3 μ.out J ae aj
       have τ := ω
       have φ := ψ
       have a1:= χ
       cases de
       replace χ :=(HB.out.cell (World.block_lt_of_cell? w _ χ)).trans χ
       replace ψ :=(HB.out.cell (World.block_lt_of_cell? w _ ψ)).trans ψ
       replace ω :=(HB.out.cell (World.block_lt_of_cell? w _ ω)).trans ω
       replace ae:=eq_true ae
       replace aj:=eq_true aj
       refine Zn (n:=16) (S:=fun w'=>w'.cell? ⟨δ,0,none⟩=some (.int .i64 D)∧w'.cell? ⟨δ,1,none⟩=some (.int .i64 O)∧w'.cell? ⟨δ,2,none⟩=some (.int .i64 X)∧w'.cell? (b1.add ((J).toNat * 3))=some (.int .i64 ((Qg l0 J).f0))∧w'.cell? ⟨(b1.add ((J).toNat * 3)).block,(b1.add ((J).toNat * 3)).off+1,none⟩=some (.int .i64 ((Qg l0 J).f1))∧w'.cell? ⟨(b1.add ((J).toNat * 3)).block,(b1.add ((J).toNat * 3)).off+2,none⟩=some (.int .i64 ((Qg l0 J).f2))) (ds:=[]) #[false,false,false,false,false,false,false,false,false,false,false,false,false,false,false,false] kr rfl rfl ⟨(Ql L.out 0).trans rfl,(Ql L.out 1).trans rfl,(Ql L.out 2).trans rfl,((HB.out.cell (World.block_lt_of_cell? w _ a1)).trans a1),((HB.out.cell (World.block_lt_of_cell? w _ φ)).trans φ),((HB.out.cell (World.block_lt_of_cell? w _ τ)).trans τ)⟩ (fun hHeld=>?_);refine Q8 api_Hall_62.Um api_Hall_62.G0 (fun HT_ HW_=>?_)
       generalize wr.drew=eg at L HB χ ψ ω hHeld ⊢
       refine qP 0 (some 35) (bN 16 1) HT_ ?_
       refine qP 1 (some 36) (bN 16 3) HT_ ?_
       refine qP 2 (some 37) (bN 16 7) HT_ ?_
       refine qP 3 (some 38) (bN 16 15) HT_ ?_
       refine qP 4 (some 39) (bN 16 31) HT_ ?_
       refine qP 5 (some 40) (bN 16 63) HT_ ?_
       refine qP 6 (some 41) (bN 16 127) HT_ ?_
       refine qP 7 (some 42) (bN 16 255) HT_ ?_
       refine qP 8 (some 43) (bN 16 511) HT_ ?_
       refine qT 9 (some 44) (bN 16 1023) HT_ HW_ hHeld ?_
       refine qT 10 (some 45) (bN 16 2047) HT_ HW_ hHeld ?_
       refine Zg (i:=11) (N:=some 46) (bN 16 4095) rfl rfl (Q1 HT_.out kr) (by decide) (fun K hK=>?_)
       refine Xm Try.func51 kr rfl #[] #[] #[.agg #[.int .i64 ((Qg l0 J).f0),.int .i64 ((Qg l0 J).f1),.int .i64 ((Qg l0 J).f2)],.agg #[.int .i64 D,.int .i64 O,.int .i64 X]] #[.agg #[.int .i64 ((Qg l0 J).f0),.int .i64 ((Qg l0 J).f1),.int .i64 ((Qg l0 J).f2)],.agg #[.int .i64 D,.int .i64 O,.int .i64 X]] rfl (by rfl) rfl rfl rfl qM ?_
       with_reducible refine(call_halls_1.calls ((Qg l0 J).f0) ((Qg l0 J).f1) ((Qg l0 J).f2) D O X ν _ dm.out).mono ?_
       rintro e dp ⟨rfl,hb⟩
       refine⟨_,rfl, ?_⟩
       replace L:=sBk L hb
       replace HB:=sHb hb
       (try clear hb)
       (try clear a0)
       (try clear hk)
       (try clear hi)
       refine hK.out _ _ ⟨qc L,qc L,qc L,((HB.out.cell (World.block_lt_of_cell? w _ a1)).trans a1),((HB.out.cell (World.block_lt_of_cell? w _ φ)).trans φ),((HB.out.cell (World.block_lt_of_cell? w _ τ)).trans τ)⟩ (fun hHeld=>?_)
       clear hK K
       refine qN (some 46) ?_
       refine qP 12 (some 47) (bN 16 8191) HT_ ?_
       refine qP 13 (some 48) (bN 16 16383) HT_ ?_
       refine qP 14 (some 6) (bN 16 32767) HT_ ?_
       refine qP 15 (some 7) (bN 16 65535) HT_ ?_
       refine Zu (Zj HT_.out kr) ?_
       try go_wp2
       go_ret2
       exact⟨rfl,HB.out⟩
      ·rw[if_neg au] at H
       exact absurd H (by simp)
     ·rw[if_neg a3] at H
      exact absurd H (by simp)
    ·rw[if_neg a8] at H
     have c15b0:decide (J<(l0.length:Int))=false:=decide_eq_false a8
     clear a8
     simp only[Option.some.injEq,Prod.mk.injEq] at H
     obtain⟨rfl,rfl⟩:=H
     try go_wp2
     replace L:=Aside0.mk (Qa L.out)
     replace HB:=Aside0.mk (Qf HB.out)
     refine Zn (n:=16) (S:=fun w'=>True) (ds:=[]) #[false,false,false,false,false,false,false,false,false,false,false,false,false,false,false,false] kr rfl rfl trivial (fun hHeld=>?_);refine Q8 api_Hall_62.Um api_Hall_62.G0 (fun HT_ HW_=>?_)
     generalize wr.drew=bo at L HB hHeld ⊢
     refine qP 0 (some 35) (bN 16 1) HT_ ?_
     refine qP 1 (some 36) (bN 16 3) HT_ ?_
     refine qP 2 (some 37) (bN 16 7) HT_ ?_
     refine qP 3 (some 38) (bN 16 15) HT_ ?_
     refine qP 4 (some 39) (bN 16 31) HT_ ?_
     refine qU 5 (some 40) (bN 16 63) HT_ ?_
     refine qU 6 (some 41) (bN 16 127) HT_ ?_
     refine qU 7 (some 42) (bN 16 255) HT_ ?_
     refine qU 8 (some 43) (bN 16 511) HT_ ?_
     refine qU 9 (some 44) (bN 16 1023) HT_ ?_
     refine qU 10 (some 45) (bN 16 2047) HT_ ?_
     refine qU 11 (some 46) (bN 16 4095) HT_ ?_
     refine qU 12 (some 47) (bN 16 8191) HT_ ?_
     refine qP 13 (some 48) (bN 16 16383) HT_ ?_
     refine qP 14 (some 6) (bN 16 32767) HT_ ?_
     refine qP 15 (some 7) (bN 16 65535) HT_ ?_
     refine Zu (Zj HT_.out kr) ?_
     try go_wp2
     go_ret2
     exact⟨rfl,HB.out⟩
def api_Inside_58.l0:Nat→List (S62)→Int→Int→Int→Int→Int→Option (Int×Bool)
 |0,_,_,_,_,_,_=>none
 |k+1,J,D,I,B,L,O=>if I<B then (if 0≤(wrap64 ((IntKind.u64.wrap (wrap64 (I+B))) / 2)) then (if (wrap64 ((IntKind.u64.wrap (wrap64 (I+B))) / 2))<(J.length:Int) then ((call_ins_1.f ((Qp J (wrap64 ((IntKind.u64.wrap (wrap64 (I+B))) / 2))).f0) ((Qp J (wrap64 ((IntKind.u64.wrap (wrap64 (I+B))) / 2))).f1) L O).bind fun τ =>(if τ < 0 then (api_Inside_58.l0 k J D (wrap64 ((wrap64 ((IntKind.u64.wrap (wrap64 (I+B))) / 2))+1)) B L O) else (api_Inside_58.l0 k J D I (wrap64 ((IntKind.u64.wrap (wrap64 (I+B))) / 2)) L O))) else (none)) else (none)) else (if I<D then (if 0≤I then (if I<(J.length:Int) then ((call_ins_1.f ((Qp J I).f0) ((Qp J I).f1) L O).bind fun χ =>(some (I,(χ == 0)))) else (none)) else (none)) else (some (I,false)))
def api_Inside_58.f (k:Nat) (l0:List (S62)) (D:Int) (O:Int) (a2:Int):Option (Int×Bool):=api_Inside_58.l0 k l0 (l0.length:Int) 0 (l0.length:Int) D O
theorem api_Inside_58.Zi:∀ k,(∀ D I O J L X,LeO (api_Inside_58.l0 k D I O J L X) (api_Inside_58.l0 (k+1) D I O J L X))
 |0=>fun _ _ _ _ _ _ r h=>by simp[api_Inside_58.l0] at h
 |k+1=>by
  have B:=api_Inside_58.Zi k
  ·intro D I O J L X
   unfold api_Inside_58.l0
   repeat' first
   |(with_reducible exact B _ _ _ _ _ _)
   |(with_reducible exact LeO.refl _)
   |(with_reducible exact LeO.none _)
   |(with_reducible refine LeO.ite ?_ ?_)
   |(with_reducible refine LeO.bind ?_ (fun _=>?_))
   |exact B _ _ _ _ _ _
   |exact LeO.none _
   |refine LeO.ite ?_ ?_
   |refine LeO.bind ?_ (fun _=>?_)
theorem api_Inside_58.mono:∀ I D a2 X k,LeO (api_Inside_58.f k I D a2 X) (api_Inside_58.f (k+1) I D a2 X):=by
 intro I D a2 X k
 have B:=api_Inside_58.Zi k
 unfold api_Inside_58.f
 repeat' first
   |(with_reducible exact B _ _ _ _ _ _)
   |(with_reducible exact LeO.refl _)
   |(with_reducible exact LeO.none _)
   |(with_reducible refine LeO.ite ?_ ?_)
   |(with_reducible refine LeO.bind ?_ (fun _=>?_))
   |exact B _ _ _ _ _ _
   |exact LeO.none _
   |refine LeO.ite ?_ ?_
   |refine LeO.bind ?_ (fun _=>?_)
def api_Inside_58.T5:Bool×List (List Nat×List Nat):=(true,[([],[]),([],[]),([],[]),([1,2],[1,2]),([3],[3]),([],[]),([0,4,5],[0,4,5]),([6],[6])])
def api_Inside_58.B5:List Nat:=[0,0,0,6,14,0,63,127]
theorem api_Inside_58.Lk:rtab .any (opsOf Try.f58 5)=api_Inside_58.T5:=by kernel_rfl
theorem api_Inside_58.Uk:Zr api_Inside_58.T5.2 api_Inside_58.B5=true:=by kernel_rfl
def api_Inside_58.T8:Bool×List (List Nat×List Nat):=(true,[([],[]),([],[]),([],[]),([1,2],[1,2]),([3],[3]),([4],[4]),([4],[4]),([4],[4]),([6,7,4],[4,6,7]),([8,4],[4,8]),([4],[4]),([5,9,10,4,4],[4,5,9,10]),([11,4],[4,11]),([4,12],[4,12]),([0,11,0],[0]),([13,14,0,1,2,3,4,5,6,7,8,9,10,11,12,13,14],[13])])
def api_Inside_58.B8:List Nat:=[0,0,0,6,14,30,30,30,222,478,30,2046,4094,8190,4095,32767]
theorem api_Inside_58.Um:rtab .any (opsOf Try.f58 8)=api_Inside_58.T8:=by kernel_rfl
theorem api_Inside_58.G0:Zr api_Inside_58.T8.2 api_Inside_58.B8=true:=by kernel_rfl
set_option maxHeartbeats 8000000 in
set_option maxRecDepth 100000 in
theorem api_Inside_58.calls (k:Nat) (Y:Option Addr) (c0:Nat) (l0:List (S62)) (D:Int) (O:Int) (a2:Int) (r1:Int) (r2:Bool) (w:World) (ε :Kd.C k62 w Y l0.length l0) (γ:l0.length≤c0) (h:api_Inside_58.f k l0 D O a2=some (r1,r2)):
  Calls Try.prog 58 #[.slice Y l0.length c0,.agg #[.int .i64 D,.int .i64 O],.func (.func 57) #[] #[]] w fun e w'=>e = .returned (.tuple #[.int .i64 r1,.bool r2])∧Below w.heap.size w w':=by
 have bd:=Try.underlying62
 have μ :=Aside0.mk ε
 have a6:=Aside0.mk γ
 clear ε γ
 have HB:=Aside0.mk (Below.refl w.heap.size w)
 have H:(api_Inside_58.l0 k l0 (l0.length:Int) 0 (l0.length:Int) D O)=some (r1,r2):=h
 clear h
 have H':=Aside0.mk H
 clear H
 go_enter Try.func58,Try.ntmps58
 go_wp2_with (first|((with_reducible refine Qr (N:=4) rfl ?_);refine qE 4 #[.int .i64 D,.int .i64 O] 62 ?_;intro ρ hg w4 hbox hb;have Z:=Aside0.mk hbox;have bk:=sGe hg;have bp:=sGe hg;replace HB:=sHb hb;clear hb hbox hg))
 go_loopg [9,10] k (fun kq v9 am w'=>∃ (J:Int) (B:Int),v9 = .int .i64 J∧am = .int .i64 B∧Aside0 (api_Inside_58.l0 kq l0 (l0.length:Int) J B D O=some (r1,r2))∧Aside0 (kq≤k)∧Aside0 (w'.heap[ρ]?=some (.cells #[.int .i64 D,.int .i64 O] 62 (0,0)))∧Aside0 (Below w.heap.size w w'))
 case atStart=>exact⟨(0),((l0.length:Int)),rfl,rfl,H',⟨Nat.le_refl _⟩,Z,HB⟩
 case round=>
  clear H'
  try clear p2
  obtain⟨J,B,rfl,rfl,HA,ξ,Z,HB⟩:=hrel
  cases gk with
  |zero=>exact absurd HA.out (by simp[api_Inside_58.l0])
  |succ k1=>
   have H:=HA.out
   clear HA
   simp only[api_Inside_58.l0] at H
   by_cases c5:J<B
   ·rw[if_pos c5] at H
    have c5b0:decide (J<B)=true:=decide_eq_true c5
    clear c5
    obtain⟨I,σ⟩:∃ j_:Int,(wrap64 ((IntKind.u64.wrap (wrap64 (J+B))) / 2))=j_:=⟨_,rfl⟩
    replace H:(if 0≤(I) then (if (I)<(l0.length:Int) then ((call_ins_1.f ((Qp l0 (I)).f0) ((Qp l0 (I)).f1) D O).bind fun τ =>(if τ < 0 then (api_Inside_58.l0 k1 l0 (l0.length:Int) (wrap64 ((I)+1)) B D O) else (api_Inside_58.l0 k1 l0 (l0.length:Int) J I D O))) else (none)) else (none))=some (r1,r2):=by first|(rw[σ] at H;exact H)|(simp only[σ] at H ⊢;exact H)
    have hji6w:(IntKind.i64.wrap ((IntKind.u64.wrap (wrap64 (J+B))) / 2))=I:=(X5 _).trans σ
    by_cases c7:0≤(I)
    ·rw[if_pos c7] at H
     have c7b0:decide (0≤(I))=true:=decide_eq_true c7
     clear c7
     by_cases c8:(I)<(l0.length:Int)
     ·rw[if_pos c8] at H
      have c8b0:decide ((I)<(l0.length:Int))=true:=decide_eq_true c8
      clear c8
      replace H:=Option.bind_eq_some_iff.mp H
      obtain⟨τ,g1,H⟩:=H
      replace H:(if τ < 0 then (api_Inside_58.l0 k1 l0 (l0.length:Int) (wrap64 ((I)+1)) B D O) else (api_Inside_58.l0 k1 l0 (l0.length:Int) J I D O))=some (r1,r2):=H
      have A9:=Aside0.mk g1
      clear g1
      by_cases c10: τ < 0
      ·rw[if_pos c10] at H
       have c10b0:decide (τ < 0)=true:=decide_eq_true c10
       clear c10
       have H':=Aside0.mk H
       clear H
       try go_wp2
       replace Z:=Aside0.mk (Qa Z.out)
       replace HB:=Aside0.mk (Qf HB.out)
       have ν :0≤((I):Int):=of_decide_eq_true (by assumption)
       have φ :(I)<(l0.length:Int):=of_decide_eq_true (by assumption)
       obtain⟨θ,ω,L,U⟩:=Z8 μ.out (I) ν φ
       have X:=U
       have δ :=L
       cases ω
       replace L:=(HB.out.cell (World.block_lt_of_cell? w _ L)).trans L
       replace U:=(HB.out.cell (World.block_lt_of_cell? w _ U)).trans U
       replace ν :=eq_true ν
       replace φ :=eq_true φ
       refine Zn (n:=8) (S:=fun w'=>w'.cell? ⟨ρ,0,none⟩=some (.int .i64 D)∧w'.cell? ⟨ρ,1,none⟩=some (.int .i64 O)∧w'.cell? (θ.add (((I)).toNat * 2))=some (.int .i64 ((Qp l0 (I)).f0))∧w'.cell? ⟨(θ.add (((I)).toNat * 2)).block,(θ.add (((I)).toNat * 2)).off+1,none⟩=some (.int .i64 ((Qp l0 (I)).f1))) (ds:=[]) #[false,false,false,false,false,false,false,false] kr rfl rfl ⟨(Ql Z.out 0).trans rfl,(Ql Z.out 1).trans rfl,((HB.out.cell (World.block_lt_of_cell? w _ δ)).trans δ),((HB.out.cell (World.block_lt_of_cell? w _ X)).trans X)⟩ (fun hHeld=>?_);refine Q8 api_Inside_58.Lk api_Inside_58.Uk (fun HT_ HW_=>?_)
       generalize wr.drew=e5 at Z HB L U hHeld ⊢
       refine qP 0 (some 24) (bN 8 1) HT_ ?_
       refine qP 1 (some 25) (bN 8 3) HT_ ?_
       refine qP 2 (some 26) (bN 8 7) HT_ ?_
       refine qP 3 (some 27) (bN 8 15) HT_ ?_
       refine qT 4 (some 28) (bN 8 31) HT_ HW_ hHeld ?_
       refine qT 5 (some 29) (bN 8 63) HT_ HW_ hHeld ?_
       refine Zg (i:=6) (N:=some 30) (bN 8 127) rfl rfl (Q1 HT_.out kr) (by decide) (fun K hK=>?_)
       refine Xm Try.func57 kr rfl #[] #[] #[.agg #[.int .i64 ((Qp l0 (I)).f0),.int .i64 ((Qp l0 (I)).f1)],.agg #[.int .i64 D,.int .i64 O]] #[.agg #[.int .i64 ((Qp l0 (I)).f0),.int .i64 ((Qp l0 (I)).f1)],.agg #[.int .i64 D,.int .i64 O]] rfl (by rfl) rfl rfl rfl (by(try simp only[List.map_toArray,List.map_cons,List.map_nil]);first|done|(simp only[σ];rfl)|rfl|(simp only[List.length_drop,List.length_take];rfl)) ?_
       with_reducible refine(call_ins_1.calls ((Qp l0 (I)).f0) ((Qp l0 (I)).f1) D O τ _ A9.out).mono ?_
       rintro e dt ⟨rfl,hb⟩
       refine⟨_,rfl, ?_⟩
       replace Z:=sBk Z hb
       replace HB:=sHb hb
       (try clear hb)
       (try clear a0)
       (try clear hk)
       (try clear hi)
       refine hK.out _ _ ⟨qc Z,qc Z,((HB.out.cell (World.block_lt_of_cell? w _ δ)).trans δ),((HB.out.cell (World.block_lt_of_cell? w _ X)).trans X)⟩ (fun hHeld=>?_)
       clear hK K
       refine qN (some 30) ?_
       refine qP 7 (some 31) (bN 8 255) HT_ ?_
       refine Zu (Zj HT_.out kr) ?_
       try go_wp2
       go_roundg k1
       case measure=>have:= ξ.out;omega
       case rel=>exact⟨(wrap64 ((I)+1)),(B),(by first|rfl|(simp;done)|(simp only[← σ] <;> (first|rfl|simp))|(simp[*];done)),rfl,H',⟨by have:= ξ.out;omega⟩,Z,HB⟩
      ·rw[if_neg c10] at H
       have c10b0:decide (τ < 0)=false:=decide_eq_false c10
       clear c10
       have H':=Aside0.mk H
       clear H
       try go_wp2
       replace Z:=Aside0.mk (Qa Z.out)
       replace HB:=Aside0.mk (Qf HB.out)
       have ν :0≤((I):Int):=of_decide_eq_true (by assumption)
       have φ :(I)<(l0.length:Int):=of_decide_eq_true (by assumption)
       obtain⟨θ,ω,L,U⟩:=Z8 μ.out (I) ν φ
       have X:=U
       have δ :=L
       cases ω
       replace L:=(HB.out.cell (World.block_lt_of_cell? w _ L)).trans L
       replace U:=(HB.out.cell (World.block_lt_of_cell? w _ U)).trans U
       replace ν :=eq_true ν
       replace φ :=eq_true φ
       refine Zn (n:=8) (S:=fun w'=>w'.cell? ⟨ρ,0,none⟩=some (.int .i64 D)∧w'.cell? ⟨ρ,1,none⟩=some (.int .i64 O)∧w'.cell? (θ.add (((I)).toNat * 2))=some (.int .i64 ((Qp l0 (I)).f0))∧w'.cell? ⟨(θ.add (((I)).toNat * 2)).block,(θ.add (((I)).toNat * 2)).off+1,none⟩=some (.int .i64 ((Qp l0 (I)).f1))) (ds:=[]) #[false,false,false,false,false,false,false,false] kr rfl rfl ⟨(Ql Z.out 0).trans rfl,(Ql Z.out 1).trans rfl,((HB.out.cell (World.block_lt_of_cell? w _ δ)).trans δ),((HB.out.cell (World.block_lt_of_cell? w _ X)).trans X)⟩ (fun hHeld=>?_);refine Q8 api_Inside_58.Lk api_Inside_58.Uk (fun HT_ HW_=>?_)
       generalize wr.drew=ed at Z HB L U hHeld ⊢
       refine qP 0 (some 24) (bN 8 1) HT_ ?_
       refine qP 1 (some 25) (bN 8 3) HT_ ?_
       refine qP 2 (some 26) (bN 8 7) HT_ ?_
       refine qP 3 (some 27) (bN 8 15) HT_ ?_
       refine qT 4 (some 28) (bN 8 31) HT_ HW_ hHeld ?_
       refine qT 5 (some 29) (bN 8 63) HT_ HW_ hHeld ?_
       refine Zg (i:=6) (N:=some 30) (bN 8 127) rfl rfl (Q1 HT_.out kr) (by decide) (fun K hK=>?_)
       refine Xm Try.func57 kr rfl #[] #[] #[.agg #[.int .i64 ((Qp l0 (I)).f0),.int .i64 ((Qp l0 (I)).f1)],.agg #[.int .i64 D,.int .i64 O]] #[.agg #[.int .i64 ((Qp l0 (I)).f0),.int .i64 ((Qp l0 (I)).f1)],.agg #[.int .i64 D,.int .i64 O]] rfl (by rfl) rfl rfl rfl (by(try simp only[List.map_toArray,List.map_cons,List.map_nil]);first|done|(simp only[σ];rfl)|rfl|(simp only[List.length_drop,List.length_take];rfl)) ?_
       with_reducible refine(call_ins_1.calls ((Qp l0 (I)).f0) ((Qp l0 (I)).f1) D O τ _ A9.out).mono ?_
       rintro e b2 ⟨rfl,hb⟩
       refine⟨_,rfl, ?_⟩
       replace Z:=sBk Z hb
       replace HB:=sHb hb
       (try clear hb)
       (try clear a0)
       (try clear hk)
       (try clear hi)
       refine hK.out _ _ ⟨qc Z,qc Z,((HB.out.cell (World.block_lt_of_cell? w _ δ)).trans δ),((HB.out.cell (World.block_lt_of_cell? w _ X)).trans X)⟩ (fun hHeld=>?_)
       clear hK K
       refine qN (some 30) ?_
       refine qP 7 (some 31) (bN 8 255) HT_ ?_
       refine Zu (Zj HT_.out kr) ?_
       try go_wp2
       go_roundg k1
       case measure=>have:= ξ.out;omega
       case rel=>exact⟨(J),(I),rfl,(by first|rfl|(simp;done)|(simp only[← σ] <;> (first|rfl|simp))|(simp[*];done)),H',⟨by have:= ξ.out;omega⟩,Z,HB⟩
     ·rw[if_neg c8] at H
      exact absurd H (by simp)
    ·rw[if_neg c7] at H
     exact absurd H (by simp)
   ·rw[if_neg c5] at H
    have c5b0:decide (J<B)=false:=decide_eq_false c5
    clear c5
    by_cases a8:J<(l0.length:Int)
    ·rw[if_pos a8] at H
     have c15b0:decide (J<(l0.length:Int))=true:=decide_eq_true a8
     clear a8
     by_cases a3:0≤J
     ·rw[if_pos a3] at H
      have c16b0:decide (0≤J)=true:=decide_eq_true a3
      clear a3
      by_cases au:J<(l0.length:Int)
      ·rw[if_pos au] at H
       have c17b0:decide (J<(l0.length:Int))=true:=decide_eq_true au
       clear au
       replace H:=Option.bind_eq_some_iff.mp H
       obtain⟨χ,cd,H⟩:=H
       replace H:(some (J,(χ == 0)))=some (r1,r2):=H
       have dm:=Aside0.mk cd
       clear cd
       simp only[Option.some.injEq,Prod.mk.injEq] at H
       obtain⟨rfl,rfl⟩:=H
       try go_wp2
       replace Z:=Aside0.mk (Qa Z.out)
       replace HB:=Aside0.mk (Qf HB.out)
       have a1:0≤(J:Int):=of_decide_eq_true (by assumption)
       have a4:J<(l0.length:Int):=of_decide_eq_true (by assumption)
       obtain⟨ψ,a5,ζ,η⟩:=Z8 μ.out J a1 a4
       have ι := η
       have κ := ζ
       cases a5
       replace ζ :=(HB.out.cell (World.block_lt_of_cell? w _ ζ)).trans ζ
       replace η :=(HB.out.cell (World.block_lt_of_cell? w _ η)).trans η
       replace a1:=eq_true a1
       replace a4:=eq_true a4
       refine Zn (n:=16) (S:=fun w'=>w'.cell? ⟨ρ,0,none⟩=some (.int .i64 D)∧w'.cell? ⟨ρ,1,none⟩=some (.int .i64 O)∧w'.cell? (ψ.add ((J).toNat * 2))=some (.int .i64 ((Qp l0 J).f0))∧w'.cell? ⟨(ψ.add ((J).toNat * 2)).block,(ψ.add ((J).toNat * 2)).off+1,none⟩=some (.int .i64 ((Qp l0 J).f1))) (ds:=[]) #[false,false,false,false,false,false,false,false,false,false,false,false,false,false,false,false] kr rfl rfl ⟨(Ql Z.out 0).trans rfl,(Ql Z.out 1).trans rfl,((HB.out.cell (World.block_lt_of_cell? w _ κ)).trans κ),((HB.out.cell (World.block_lt_of_cell? w _ ι)).trans ι)⟩ (fun hHeld=>?_);refine Q8 api_Inside_58.Um api_Inside_58.G0 (fun HT_ HW_=>?_)
       generalize wr.drew=eg at Z HB ζ η hHeld ⊢
       refine qP 0 (some 35) (bN 16 1) HT_ ?_
       refine qP 1 (some 36) (bN 16 3) HT_ ?_
       refine qP 2 (some 37) (bN 16 7) HT_ ?_
       refine qP 3 (some 38) (bN 16 15) HT_ ?_
       refine qP 4 (some 39) (bN 16 31) HT_ ?_
       refine qP 5 (some 40) (bN 16 63) HT_ ?_
       refine qP 6 (some 41) (bN 16 127) HT_ ?_
       refine qP 7 (some 42) (bN 16 255) HT_ ?_
       refine qP 8 (some 43) (bN 16 511) HT_ ?_
       refine qT 9 (some 44) (bN 16 1023) HT_ HW_ hHeld ?_
       refine qT 10 (some 45) (bN 16 2047) HT_ HW_ hHeld ?_
       refine Zg (i:=11) (N:=some 46) (bN 16 4095) rfl rfl (Q1 HT_.out kr) (by decide) (fun K hK=>?_)
       refine Xm Try.func57 kr rfl #[] #[] #[.agg #[.int .i64 ((Qp l0 J).f0),.int .i64 ((Qp l0 J).f1)],.agg #[.int .i64 D,.int .i64 O]] #[.agg #[.int .i64 ((Qp l0 J).f0),.int .i64 ((Qp l0 J).f1)],.agg #[.int .i64 D,.int .i64 O]] rfl (by rfl) rfl rfl rfl qM ?_
       with_reducible refine(call_ins_1.calls ((Qp l0 J).f0) ((Qp l0 J).f1) D O χ _ dm.out).mono ?_
       rintro e dp ⟨rfl,hb⟩
       refine⟨_,rfl, ?_⟩
       replace Z:=sBk Z hb
       replace HB:=sHb hb
       (try clear hb)
       (try clear a0)
       (try clear hk)
       (try clear hi)
       refine hK.out _ _ ⟨qc Z,qc Z,((HB.out.cell (World.block_lt_of_cell? w _ κ)).trans κ),((HB.out.cell (World.block_lt_of_cell? w _ ι)).trans ι)⟩ (fun hHeld=>?_)
       clear hK K
       refine qN (some 46) ?_
       refine qP 12 (some 47) (bN 16 8191) HT_ ?_
       refine qP 13 (some 48) (bN 16 16383) HT_ ?_
       refine qP 14 (some 6) (bN 16 32767) HT_ ?_
       refine qP 15 (some 7) (bN 16 65535) HT_ ?_
       refine Zu (Zj HT_.out kr) ?_
       try go_wp2
       go_ret2
       exact⟨rfl,HB.out⟩
      ·rw[if_neg au] at H
       exact absurd H (by simp)
     ·rw[if_neg a3] at H
      exact absurd H (by simp)
    ·rw[if_neg a8] at H
     have c15b0:decide (J<(l0.length:Int))=false:=decide_eq_false a8
     clear a8
     simp only[Option.some.injEq,Prod.mk.injEq] at H
     obtain⟨rfl,rfl⟩:=H
     try go_wp2
     replace Z:=Aside0.mk (Qa Z.out)
     replace HB:=Aside0.mk (Qf HB.out)
     refine Zn (n:=16) (S:=fun w'=>True) (ds:=[]) #[false,false,false,false,false,false,false,false,false,false,false,false,false,false,false,false] kr rfl rfl trivial (fun hHeld=>?_);refine Q8 api_Inside_58.Um api_Inside_58.G0 (fun HT_ HW_=>?_)
     generalize wr.drew=bo at Z HB hHeld ⊢
     refine qP 0 (some 35) (bN 16 1) HT_ ?_
     refine qP 1 (some 36) (bN 16 3) HT_ ?_
     refine qP 2 (some 37) (bN 16 7) HT_ ?_
     refine qP 3 (some 38) (bN 16 15) HT_ ?_
     refine qP 4 (some 39) (bN 16 31) HT_ ?_
     refine qU 5 (some 40) (bN 16 63) HT_ ?_
     refine qU 6 (some 41) (bN 16 127) HT_ ?_
     refine qU 7 (some 42) (bN 16 255) HT_ ?_
     refine qU 8 (some 43) (bN 16 511) HT_ ?_
     refine qU 9 (some 44) (bN 16 1023) HT_ ?_
     refine qU 10 (some 45) (bN 16 2047) HT_ ?_
     refine qU 11 (some 46) (bN 16 4095) HT_ ?_
     refine qU 12 (some 47) (bN 16 8191) HT_ ?_
     refine qP 13 (some 48) (bN 16 16383) HT_ ?_
     refine qP 14 (some 6) (bN 16 32767) HT_ ?_
     refine qP 15 (some 7) (bN 16 65535) HT_ ?_
     refine Zu (Zj HT_.out kr) ?_
     try go_wp2
     go_ret2
     exact⟨rfl,HB.out⟩
end Go.Proofs.Ytjehhhlhalkieaa.C
