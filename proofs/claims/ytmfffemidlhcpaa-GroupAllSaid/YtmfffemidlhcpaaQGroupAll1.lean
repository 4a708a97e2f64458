/- Texts of this claim, one behind the other: what the law's functions come to, walked (printed by a program, with the words that the print uses), and what that is, in plain Lean. No conditions of their own. -/
import Derived.ArgAppend
import Derived.Below
import Derived.BigQuiet
import Derived.Deep.AppendLies
import Derived.Deep.CutBlock
import Derived.Deep.DeepCutAuto
import Derived.Deep.Draws
import Derived.Deep.LoopGhost
import Derived.Deep.OwnRows
import Derived.Deep.QuietTactic
import Derived.Deep.RegionHeld3
import Derived.KernelRfl
import Derived.Laws.BitsLemmas
import Derived.Laws.BytesArg
import Derived.Laws.IdiomCopy
import Derived.Laws.MakeOwn
import Derived.Laws.OwnMore
import Derived.Laws.Rows
import Derived.Laws.Slices
import Derived.Laws.StructEq
import Derived.Lib.AppendStr
import Derived.Lib.ConvBytes
import Derived.Maps.AppendAt
import Derived.OrdersHeld
import Derived.OwnWalk
import Derived.RowKit
import Derived.RowKit3
import Derived.Tactics
import Derived.WalkKit
import Derived.WideLaws
set_option linter.unusedVariables false
set_option linter.unusedSimpArgs false
namespace Go.Proofs.YtmfffemidlhcpaaW.PrintWords
open Go.RowKit
theorem qS {α:Type}:(∀ (l:List α) (i:Nat) (a:α),l.toArray.setIfInBounds i a=(l.set i a).toArray)∧(∀ (x:α) (l:List α) (a:α),(x :: l).set 0 a=a :: l)∧(∀ (x:α) (l:List α) (n:Nat) (a:α),(x :: l).set (n+1) a=x :: l.set n a):=
  ⟨fun _ _ _=>List.setIfInBounds_toArray ..,fun _ _ _=>List.set_cons_zero ..,fun _ _ _ _=>List.set_cons_succ ..⟩
theorem kr {p:Prop} (h:p:=by kernel_rfl):p:=h
theorem qR {p:Prop} (h:p:=by(first|rfl|(simp;done)|(simp[*];done))):p:=h
structure Aside0 (p:Prop):Prop where mk :: (out:p)
structure Drawn0 (w w':World):Prop where mk :: (out:∃ n,w'=w.drewN n)
theorem Drawn0.refl (w:World):Drawn0 w w:=⟨⟨0,rfl⟩⟩
theorem Drawn0.step {w w':World} (h:Drawn0 w w') (n:Nat):Drawn0 w (w'.drewN n):=by
  obtain⟨m,rfl⟩:=h
  exact⟨⟨m+n,World.drewN_drewN ..⟩⟩
theorem Drawn0.grown {w w':World} (h:Drawn0 w w'):Grown w w':=by
  obtain⟨n,rfl⟩:=h
  induction n with
  |zero=>exact Grown.refl _
  |succ n ih=>rw[← World.drew_drewN];exact Grown.drew ih
theorem Drawn0.below {w w':World} (h:Drawn0 w w'):Below w.heap.size w w':=by
  obtain⟨n,rfl⟩:=h
  induction n with
  |zero=>exact Below.refl _ _
  |succ n ih=>rw[← World.drew_drewN];exact ih.drew
def rd (xs:List Int) (i:Int):Int:=xs.getD i.toNat 0
theorem Qu {w W:World} (h:Below w.heap.size w W) (o:Obj):Below w.heap.size w (W.alloc o):=h.alloc h.size o
theorem Jq {B:Nat} {w W:World} (h:Below B w W):Below B w W.drew:=⟨h.os,h.tape,h.output,h.size,h.block⟩
theorem Qi {B:Nat} {w W:World} (h:Below B w W) (n:Nat):Below B w (W.drewN n):=⟨h.os,h.tape,h.output,h.size,h.block⟩
theorem W0 {B:Nat} {w w1 w2:World} (h:Below B w w1) (hB:B≤w1.heap.size) (k:Below w1.heap.size w1 w2):Below B w w2:=
  h.trans ⟨k.os,k.tape,k.output,k.size,fun i hi=>k.block i (Nat.lt_of_lt_of_le hi hB)⟩
theorem Gw {w w1:World} (h:Below w.heap.size w w1) (row:Option Nat):w.grownBy w1 row:=⟨h.os,h.tape,h.output,h.size,fun i hi _=>h.block i hi⟩
theorem Jc {w w1:World} (h:Below w.heap.size w w1) {a:Addr} {v:Value} (hc:w.cell? a=some v):w1.cell? a=some v:=(h.cell (World.block_lt_of_cell? w a hc)).trans hc
theorem add_plain (g j:Nat):(⟨g,0,none⟩:Addr).add j=⟨g,j,none⟩:=by unfold Addr.add;split <;> simp_all
def Xj (w:World) (k:IntKind) (A:Option Addr) (n:Nat) (xs:List Int):Prop:=
  xs.length=n∧n≤9223372036854775807∧(0<n → ∃ ad,A=some ad ∧ ∀ j,j<n→w.cell? (ad.add j)=some (.int k (xs.getD j 0)))
theorem Xj.at_ {w:World} {k:IntKind} {A:Option Addr} {n:Nat} {xs:List Int} (h:Xj w k A n xs) (i:Int) (X:0≤i) (h1:i<n):∃ ad,A=some ad∧w.cell? (ad.add i.toNat)=some (.int k (rd xs i)):=by
  obtain⟨ad,e,hc⟩:=h.2.2 (by omega)
  exact⟨ad,e,hc _ (by omega)⟩
theorem Xj.below {w w1:World} {k:IntKind} {A:Option Addr} {n:Nat} {xs:List Int} (h:Xj w k A n xs) (hb:Below w.heap.size w w1):Xj w1 k A n xs:=
  ⟨h.1,h.2.1,fun hn=>by
    obtain⟨ad,e,hc⟩:=h.2.2 hn
    exact⟨ad,e,fun j hj=>Jc hb (hc j hj)⟩⟩
theorem Ef (W:World) (base:Nat) (e:TypeId) (size:Nat):W.ownsRow base e size (.slice none 0 0) 0 []:=⟨by simp,.inl ⟨rfl,rfl⟩⟩
theorem Yr {w:World} {base:Nat} {e:TypeId} {size n:Nat} {v:Value} {xs:List Value} (h:w.ownsRow base e size v n xs) (k:Nat) (hk:v.ownBlock=some k):base≤k:=by
  rcases h.2 with⟨rfl,_⟩|⟨g,cap,cur,rfl,hb,_⟩
  · simp[Value.ownBlock] at hk
  · have:g=k:=by simpa[Value.ownBlock] using hk
    omega
theorem Ws {w:World} {base:Nat} {e:TypeId} {size n:Nat} {v:Value} {xs:List Value} (h:w.ownsRow base e size v n xs) (k:Nat) (hk:v.ownBlock=some k):k<w.heap.size:=by
  rcases h.2 with⟨rfl,_⟩|⟨g,cap,cur,rfl,hb,hh,_⟩
  · simp[Value.ownBlock] at hk
  · have:g=k:=by simpa[Value.ownBlock] using hk
    subst this
    exact(Array.getElem?_eq_some_iff.1 hh).1
theorem V3 {w w1:World} {base:Nat} {e:TypeId} {size n:Nat} {v:Value} {xs:List Value} (h:w.ownsRow base e size v n xs) (hb:Below w.heap.size w w1):w1.ownsRow base e size v n xs:=
  h.kept (Gw hb none) (by cases v.ownBlock <;> simp)
theorem Ma {w:World} {base n:Nat} {e:TypeId} {size:Nat} {v:Value} {xs:List Value} (h:w.ownsRow base e size v n xs):∃ A c,v = .slice A n c:=by
  rcases h.2 with⟨rfl,rfl⟩|⟨g,cap,cur,rfl,_⟩
  · exact⟨none,0,rfl⟩
  · exact⟨_,cap,rfl⟩
section
variable {P : Program} {ops : Array Oper} {rest : List Oper} {o : Oper} {a : Act} {Q : Exit → Act → World → Prop}
end
section
variable {P : Program}
end
section
variable {P : Program} {ops : Array Oper} {rest : List Oper} {o : Oper} {a : Act} {Q : Exit → Act → World → Prop}
end
def bytesOf (s:ByteArray):List Int:=s.data.toList.map fun b=>(b.toNat:Int)
theorem Xj.Lb {w:World} {k:IntKind} {A:Option Addr} {n:Nat} {xs:List Int} (h:Xj w k A n xs) (i:Nat) (hi:i≤n):Xj w k A i (xs.take i):=by
  refine⟨by rw[List.length_take,h.1];omega,by have:=h.2.1;omega,fun hp=>?_⟩
  obtain⟨ad,e,hc⟩:=h.2.2 (by omega)
  refine⟨ad,e,fun j hj=>?_⟩
  rw[hc j (by omega)]
  simp[List.getD_eq_getElem?_getD,hj]
def LeO {α:Type} (a b:Option α):Prop:=∀ r,a=some r→b=some r
theorem LeO.refl {α:Type} (a:Option α):LeO a a:=fun _ h=>h
theorem LeO.none {α:Type} (b:Option α):LeO Option.none b:=fun _ h=>by cases h
theorem LeO.trans {α:Type} {a b c:Option α} (h:LeO a b) (k:LeO b c):LeO a c:=fun r hr=>k r (h r hr)
theorem LeO.ite {α:Type} {c:Prop} [Decidable c] {a a' b b':Option α} (h:LeO a a') (k:LeO b b'):LeO (if c then a else b) (if c then a' else b'):=by
  split
  · exact h
  · exact k
theorem LeO.bind {α β:Type} {a a':Option α} {f f':α→Option β} (h:LeO a a') (k:∀ x,LeO (f x) (f' x)):LeO (a.bind f) (a'.bind f'):=by
  intro r hr
  obtain⟨x,hx,hf⟩:=Option.bind_eq_some_iff.1 hr
  exact Option.bind_eq_some_iff.2 ⟨x,h x hx,k x r hf⟩
theorem LeO.map {α β:Type} {a a':Option α} (f:α→β) (h:LeO a a'):LeO (a.map f) (a'.map f):=by
  intro r hr
  obtain⟨x,hx,hf⟩:=Option.map_eq_some_iff.1 hr
  exact Option.map_eq_some_iff.2 ⟨x,h x hx,hf⟩
theorem Gd {α:Type} {g:Nat→Option α} (h:∀ k,LeO (g k) (g (k+1))) (k:Nat):∀ j,LeO (g k) (g (k+j))
  |0=>LeO.refl _
  |j+1=>(Gd h k j).trans (h (k+j))
theorem Mt {α:Type} {g:Nat→Option α} (h:∀ k,LeO (g k) (g (k+1))) {k k':Nat} (hk:k≤k') {r:α} (hr:g k=some r):g k'=some r:=by
  have:=Gd h k (k'-k) r hr
  rwa[Nat.add_sub_cancel' hk] at this
def Reps {α:Type} (R:α→List Value→Prop) (size:Nat) (ps:List α) (cs:List Value):Prop:=
  cs.length=ps.length * size ∧ ∀ j p,ps[j]?=some p→R p ((cs.drop (j * size)).take size)
theorem Reps.none {α:Type} (R:α→List Value→Prop) (size:Nat):Reps R size [] []:=⟨by simp,fun j p h=>by simp at h⟩
theorem Reps.snoc {α:Type} {R:α→List Value→Prop} {size:Nat} {ps:List α} {cs c:List Value} {p:α} (h:Reps R size ps cs) (hp:R p c) (hc:c.length=size):Reps R size (ps ++ [p]) (cs++c):=by
  refine⟨by rw[List.length_append,h.1,hc,List.length_append,List.length_singleton,Nat.add_mul,Nat.one_mul],fun j q hq=>?_⟩
  rcases Nat.lt_or_ge j ps.length with hj|hj
  · rw[List.getElem?_append_left hj] at hq
    have h1:j * size+size≤cs.length:=by rw[h.1,← Nat.succ_mul];exact Nat.mul_le_mul_right _ hj
    have O:=h.2 j q hq
    rw[List.drop_append_of_le_length (by omega),List.take_append_of_le_length (by rw[List.length_drop];omega)]
    exact O
  · have hj':j=ps.length:=by
      have:=(List.getElem?_eq_some_iff.1 hq).1
      rw[List.length_append,List.length_singleton] at this
      omega
    subst hj'
    have hq':p=q:=by simpa using hq
    subst hq'
    rw[← h.1,List.drop_left,← hc,List.take_length]
    exact hp
theorem Reps.Jh {α:Type} {R R':α→List Value→Prop} {size:Nat} {ps:List α} {cs:List Value} (h:Reps R size ps cs) (hR:∀ p c,R p c→R' p c):Reps R' size ps cs:=⟨h.1,fun j p hj=>hR _ _ (h.2 j p hj)⟩
def Xa {α:Type} (R:α→List Value→Prop) (size:Nat) (w:World) (A:Option Addr) (n:Nat) (ps:List α):Prop:=
  ps.length=n∧n≤9223372036854775807∧(0<n → ∃ ad,A=some ad ∧ ∀ j p,ps[j]?=some p → ∃ c,c.length=size∧R p c ∧ ∀ i u,c[i]?=some u→w.cell? (ad.add (j * size+i))=some u)
theorem Xa.get_ {α:Type} {R:α→List Value→Prop} {size:Nat} {w:World} {A:Option Addr} {n:Nat} {ps:List α} (h:Xa R size w A n ps) (d:α) (i:Int) (X:0≤i) (h1:i<n):
    ∃ ad c,A=some ad∧c.length=size∧R (ps.getD i.toNat d) c ∧ ∀ j u,c[j]?=some u→w.cell? (ad.add (i.toNat * size+j))=some u:=by
  obtain⟨ad,e,hc⟩:=h.2.2 (by omega)
  have hl:i.toNat<ps.length:=by have:=h.1;omega
  obtain⟨c,hs,hr,hcell⟩:=hc i.toNat _ (List.getElem?_eq_getElem hl)
  refine⟨ad,c,e,hs, ?_,hcell⟩
  rw[List.getD_eq_getElem?_getD,List.getElem?_eq_getElem hl]
  exact hr
theorem Xa.Jh {α:Type} {R R':α→List Value→Prop} {size:Nat} {w w1:World} {A:Option Addr} {n:Nat} {ps:List α} (h:Xa R size w A n ps) (hb:Below w.heap.size w w1) (hR:∀ p c,R p c→R' p c):Xa R' size w1 A n ps:=
  ⟨h.1,h.2.1,fun hn=>by
    obtain⟨ad,e,hc⟩:=h.2.2 hn
    refine⟨ad,e,fun j p hj=>?_⟩
    obtain⟨c,hs,hr,hcell⟩:=hc j p hj
    exact⟨c,hs,hR _ _ hr,fun i u hu=>Jc hb (hcell i u hu)⟩⟩
theorem Vf {α:Type} {R:α→List Value→Prop} {w:World} {base n size:Nat} {e:TypeId} {v:Value} {ps:List α} {cs:List Value} (h:w.ownsRow base e size v n cs) (hR:Reps R size ps cs) (hn:ps.length=n):
    ∃ A c,v = .slice A n c∧Xa R size w A n ps:=by
  rcases Nat.eq_zero_or_pos n with X|X
  · rcases h.2 with⟨rfl,rfl⟩|⟨g,cap,cur,rfl,_⟩
    · exact⟨none,0,rfl,hn,by omega,fun hp=>absurd hp (by omega)⟩
    · exact⟨_,cap,rfl,hn,by omega,fun hp=>absurd hp (by omega)⟩
  · obtain⟨g,cap,rfl,_,_⟩:=h.form X
    have hm:n≤9223372036854775807:=by
      rcases h.2 with⟨_,h1⟩|⟨g',cap',cur,he,_,_,h1,O,_⟩
      · omega
      · simp only[maxLen] at O
        omega
    refine⟨_,cap,rfl,hn,hm,fun _=>⟨_,rfl,fun j p hj=>⟨(cs.drop (j * size)).take size, ?_,hR.2 j p hj,fun i u hu=>?_⟩⟩⟩
    · have hjl:=(List.getElem?_eq_some_iff.1 hj).1
      have h1:j * size+size≤cs.length:=by rw[hR.1,← Nat.succ_mul];exact Nat.mul_le_mul_right _ hjl
      rw[List.length_take,List.length_drop]
      omega
    · refine h.cells (g:=g) rfl _ u ?_
      rw[List.getElem?_take] at hu
      split at hu
      · rw[List.getElem?_drop] at hu
        exact hu
      · cases hu
theorem Z3 (ad:Addr) (m j:Nat) (hj:0<j):ad.add (m+j)=⟨(ad.add m).block,(ad.add m).off+j,none⟩:=by
  unfold Addr.add
  by_cases hm:m=0
  · subst hm
    simp[Nat.ne_of_gt hj]
  · simp[hm,Nat.add_assoc]
section
variable {P : Program} {ops : Array Oper} {rest : List Oper} {o : Oper} {a : Act} {Q : Exit → Act → World → Prop}
theorem Yq {w0 W:World} (base:Nat) (hgd:o.guard=none) (s x:Operand) (t e:TypeId) (z:Value) (size bytes:Nat)
    (ho:o.op = .call {callee:=.builtin .append,args:=#[s,x],argTypes:=#[t,t]})
    (ht:P.underlying t=some (.slice e)) (hinfo:(P.info? e).map (fun i=>(i.zero,i.size,i.bytes))=some (some z,size,bytes)) (hz:z.cells.size=size) (B:0<size) (Y:0<bytes)
    (v:Value) (n:Nat) (xs ys:List Value) (hs:a.eval s=v) (hx:a.eval x = .slice (some ⟨W.heap.size,0,none⟩) 1 1) (hys:ys.length=size) (h1:∀ u ∈ ys,u.oneCell'=true)
    (HO:W.ownsRow base e size v n xs) (HB:Below base w0 W) (hbase:base≤W.heap.size) (hl:(n+1) * bytes≤140737488355328)
    (h:∀ v1 w1,w1.ownsRow base e size v1 (n+1) (xs++ys)→Below base w0 w1→W.grownBy w1 v.ownBlock→(v1.ownBlock=v.ownBlock ∨ ∃ b,v1.ownBlock=some b∧W.heap.size≤b)→wpList P ops Q rest (a.put o.dst v1) w1):
    wpList P ops Q (o :: rest) a (W.alloc (.cells ys.toArray e)):=by
  obtain⟨i0,hi,hzz⟩:=Option.map_eq_some_iff.1 hinfo
  simp only[Prod.mk.injEq] at hzz
  obtain⟨Z,J,γ⟩:=hzz
  have hlen:n+1≤140737488355328:=Nat.le_trans (Nat.le_mul_of_pos_right _ Y) hl
  refine wpList_append_own_at (W.alloc (.cells ys.toArray e)) hgd s x t ho base e i0 z size bytes ht hi Z J γ hz B v n xs hs (HO.alloc _) ⟨W.heap.size,0,none⟩ 1 1 ys hx (by rw[hys];simp)
    (by simpa using World.news_of_block (cs:=ys.toArray) (t:=e) (fr:=(0,0)) (heap_alloc_new W (.cells ys.toArray e))) h1 (by simp only[maxLen];omega) hl (by simp;omega) ?_
  intro v1 w1 hown hg _ hat
  refine h v1 w1 hown ((HB.alloc hbase _).grown hg (by simp;omega) (Yr HO)) (World.grownBy.trans (World.grownBy_alloc W _ _) hg) ?_
  rcases hat with hat|hat
  · exact .inl hat
  · exact .inr ⟨_,hat,by simp⟩
end
theorem Dq {w:World} {base:Nat} {e t:TypeId} {size n g:Nat} {v:Value} {xs:List Value} {cs:Array Value} (h:w.ownsRow base e size v n xs) (hg:w.heap[g]?=some (.cells cs t (0,0))) (hne:e≠t):some g≠v.ownBlock:=by
  rcases h.2 with⟨rfl,_⟩|⟨g',cap,cur,rfl,_,hh,_⟩
  · simp[Value.ownBlock]
  · intro he
    have:g=g':=by simpa[Value.ownBlock] using he
    subst this
    rw[hg] at hh
    injection hh with hh
    injection hh with _ ht
    exact hne ht.symm
theorem Yd {w:World} {g:Nat} {t:TypeId} {cs:Array Value} (h:w.heap[g]?=some (.cells cs t (0,0))) (i:Nat) (u:Value):(w.setCell ⟨g,i,none⟩ u).heap[g]?=some (.cells (cs.setIfInBounds i u) t (0,0)):=by
  simp[World.setCell,Array.getElem?_modify,h]
theorem X4 {w:World} {g:Nat} {t:TypeId} {cs:Array Value} (h:w.heap[g]?=some (.cells cs t (0,0))) {p:Addr} (hp:g≠p.block) (u:Value):(w.setCell p u).heap[g]?=some (.cells cs t (0,0)):=(Below.heap_setCell w p u g hp).trans h
theorem Xi {w:World} {g:Nat} {o:Obj} (h:w.heap[g]?=some o):g<w.heap.size:=(Array.getElem?_eq_some_iff.1 h).1
theorem Qa {w:World} {g:Nat} {t:TypeId} {cs:Array Value} (h:w.heap[g]?=some (.cells cs t (0,0))) (i:Nat):w.cell? ⟨g,i,none⟩=cs[i]?:=cell_of_row w g i cs t (0,0) h
theorem Qb {w:World} {g:Nat} {t:TypeId} {cs:Array Value} (h:w.heap[g]?=some (.cells cs t (0,0))) (i:Nat):w.frozen? ⟨g,i,none⟩=false:=by simp[World.frozen?,h]
theorem Q2 {w w1:World} {g:Nat} {o:Obj} {row:Option Nat} (h:w.heap[g]?=some o) (hg:w.grownBy w1 row) (hne:some g≠row):w1.heap[g]?=some o:=(hg.block g (Xi h) hne).trans h
def Xp (w w':World) (g:Nat) (row:Option Nat):Prop:=w.heap.size≤w'.heap.size ∧ ∀ i,i<w.heap.size→i≠g→some i≠row→w'.heap[i]?=w.heap[i]?
theorem Xp.refl (w:World) (g:Nat) (row:Option Nat):Xp w w g row:=⟨Nat.le_refl _,fun _ _ _ _=>rfl⟩
theorem Xp.Gs {w w1:World} {row:Option Nat} (h:w.grownBy w1 row) (g:Nat):Xp w w1 g row:=⟨h.size,fun i hi _ hr=>h.block i hi hr⟩
theorem Xp.of_below {w w1:World} (h:Below w.heap.size w w1) (g:Nat) (row:Option Nat):Xp w w1 g row:=⟨h.size,fun i hi _ _=>h.block i hi⟩
theorem Xp.trans {w w1 w2:World} {g:Nat} {row B:Option Nat} (h:Xp w w1 g row) (k:Xp w1 w2 g B) (hr:B=row ∨ ∃ b,B=some b∧w.heap.size≤b):Xp w w2 g row:=
  ⟨Nat.le_trans h.1 k.1,fun i hi hg hn=>by
    refine(k.2 i (Nat.lt_of_lt_of_le hi h.1) hg ?_).trans (h.2 i hi hg hn)
    rcases hr with rfl|⟨b,rfl,hb⟩
    · exact hn
    · intro e
      injection e with e
      omega⟩
theorem Xp.blk {w w1:World} {g g':Nat} {row:Option Nat} {o:Obj} (h:Xp w w1 g row) (hb:w.heap[g']?=some o) (hg:g'≠g) (hr:some g'≠row):w1.heap[g']?=some o:=(h.2 g' (Xi hb) hg hr).trans hb
theorem Xp.own {w w1:World} {g:Nat} {row:Option Nat} {base:Nat} {e:TypeId} {size n:Nat} {v:Value} {xs:List Value} (h:Xp w w1 g row) (ho:w.ownsRow base e size v n xs) (hg:v.ownBlock≠some g) (hr:v.ownBlock=none∨v.ownBlock≠row):w1.ownsRow base e size v n xs:=by
  obtain⟨h1,O⟩:=ho
  refine⟨h1, ?_⟩
  rcases O with O|⟨b,cap,cur,rfl,hb,hh,r⟩
  · exact .inl O
  · refine .inr ⟨b,cap,cur,rfl,hb,h.blk hh ?_ ?_,r⟩
    · intro e
      exact hg (by rw[← e];rfl)
    · rcases hr with hr|hr
      · simp[Value.ownBlock] at hr
      · exact hr
def Ev {α:Type} (g:Nat→Option α) (r:α):Prop:=∃ K,∀ k,K≤k→g k=some r
theorem Ev.now {α:Type} (r:α):Ev (fun _=>some r) r:=⟨0,fun _ _=>rfl⟩
theorem Ev.bind {α β:Type} {g:Nat→Option α} {f:Nat→α→Option β} {a:α} {r:β} (h:Ev g a) (k:Ev (fun n=>f n a) r):Ev (fun n=>(g n).bind (f n)) r:=by
  obtain⟨K,h⟩:=h
  obtain⟨K',k⟩:=k
  refine⟨max K K',fun n hn=>?_⟩
  have h1:=h n (by omega)
  have O:=k n (by omega)
  simp only[h1,Option.bind_some]
  exact O
theorem Ev.step {α:Type} {g f:Nat→Option α} {r:α} (h:∀ k,g (k+1)=f k) (k:Ev f r):Ev g r:=by
  obtain⟨K,k⟩:=k
  refine⟨K+1,fun n hn=>?_⟩
  obtain⟨m,rfl⟩:∃ m,n=m+1:=⟨n-1,by omega⟩
  rw[h]
  exact k m (by omega)
theorem Ev.congr {α:Type} {g f:Nat→Option α} {r:α} (h:∀ k,g k=f k) (k:Ev f r):Ev g r:=by
  obtain⟨K,k⟩:=k
  exact⟨K,fun n hn=>(h n).trans (k n hn)⟩
section
variable {P : Program} {ops : Array Oper} {o : Oper} {a : Act} {Q : Exit → Act → World → Prop} {K : Act → World → Prop}
end
theorem Wr {w:World} {base base':Nat} {e:TypeId} {size n:Nat} {v:Value} {xs:List Value} (h:w.ownsRow base e size v n xs) (hb:base'≤base):w.ownsRow base' e size v n xs:=by
  obtain⟨h1,O⟩:=h
  refine⟨h1, ?_⟩
  rcases O with O|⟨g,cap,cur,rfl,hg,r⟩
  · exact .inl O
  · exact .inr ⟨g,cap,cur,rfl,Nat.le_trans hb hg,r⟩
section
variable {α : Type} {enc : α → Value} {d : α}
def rdOf (d:α) (xs:List α) (i:Int):α:=xs.getD i.toNat d
def Xm (enc:α→Value) (d:α) (w:World) (A:Option Addr) (n:Nat) (xs:List α):Prop:=
  xs.length=n∧n≤9223372036854775807∧(0<n → ∃ ad,A=some ad ∧ ∀ j,j<n→w.cell? (ad.add j)=some (enc (xs.getD j d)))
theorem Xm.at_ {w:World} {A:Option Addr} {n:Nat} {xs:List α} (h:Xm enc d w A n xs) (i:Int) (X:0≤i) (h1:i<n):∃ ad,A=some ad∧w.cell? (ad.add i.toNat)=some (enc (rdOf d xs i)):=by
  obtain⟨ad,e,hc⟩:=h.2.2 (by omega)
  exact⟨ad,e,hc _ (by omega)⟩
theorem Xm.below {w w1:World} {A:Option Addr} {n:Nat} {xs:List α} (h:Xm enc d w A n xs) (hb:Below w.heap.size w w1):Xm enc d w1 A n xs:=
  ⟨h.1,h.2.1,fun hn=>by
    obtain⟨ad,e,hc⟩:=h.2.2 hn
    exact⟨ad,e,fun j hj=>Jc hb (hc j hj)⟩⟩
theorem Xm.Lb {w:World} {A:Option Addr} {n:Nat} {xs:List α} (h:Xm enc d w A n xs) (i:Nat) (hi:i≤n):Xm enc d w A i (xs.take i):=by
  refine⟨by rw[List.length_take,h.1];omega,by have:=h.2.1;omega,fun hp=>?_⟩
  obtain⟨ad,e,hc⟩:=h.2.2 (by omega)
  refine⟨ad,e,fun j hj=>?_⟩
  rw[hc j (by omega)]
  simp[List.getD_eq_getElem?_getD,hj]
end
section
variable {α : Type} {P : Program} {ops : Array Oper} {rest : List Oper} {o : Oper} {a : Act} {Q : Exit → Act → World → Prop}
end
theorem Qo {w:World} {g:Nat} {o:Obj} (h:w.heap[g]?=some o) (o':Obj):(w.alloc o').heap[g]?=some o:=(Below.heap_alloc w o' g (Xi h)).trans h
theorem Qe {w:World} {g:Nat} {o:Obj} (h:w.heap[g]?=some o):w.drew.heap[g]?=some o:=h
theorem Qn {w:World} {g:Nat} {o:Obj} (h:w.heap[g]?=some o) (n:Nat):(w.drewN n).heap[g]?=some o:=h
theorem Qy {w w1:World} {g:Nat} {o:Obj} (h:w.heap[g]?=some o) (hb:Below w.heap.size w w1):w1.heap[g]?=some o:=(hb.block g (Xi h)).trans h
theorem Li (w:World) (o:Obj):(w.alloc o).heap[w.heap.size]?=some o:=heap_alloc_new w o
section
variable {P : Program}
theorem Z8 {fn:Func} {p u:Tmp} {ty:TypeId} (h:fn.results = #[.cell p ty,.tmp u]) (tmps:Array Value) (w:World) (g:Nat) (t:TypeId) (cs:Array Value) (fr:Nat×Nat) (d:TypeDesc)
    (hp:tmps.getD p undef = .pointer (some ⟨g,0,none⟩)) (hg:w.heap[g]?=some (.cells cs t fr))
    (hu:P.underlying ty=some d) (hd:(match d with| .struct _| .array _ _=>true|_=>false)=true) (hi:(P.info? ty).map (·.size)=some cs.size):
    (results fn tmps).run P w = .ok (.tuple #[.agg cs,tmps.getD u undef]) w:=by
  have hp':tmps[p]?.getD undef = .pointer (some ⟨g,0,none⟩):=by simpa using hp
  simp[results,h,hp',asAddr,run_loadVar_row w g t ty cs fr d hg hu hd hi]
end
theorem Dr {w:World} {base n m c size:Nat} {e:TypeId} {A:Option Addr} {xs:List Value} (h:w.ownsRow base e size (.slice A m c) n xs):m≤c:=by
  rcases h.2 with⟨he,_⟩|⟨g,cap,cur,he,_,_,hnc,_⟩
  · injection he with _ O Y
    omega
  · injection he with _ O Y
    omega
def Xn {α:Type} (R:α→List Value→Prop) (e:TypeId) (size:Nat) (w:World) (base:Nat) (v:Value) (ps:List α):Prop:=
  ∃ inner,w.ownsRow base e size v ps.length inner∧Reps R size ps inner
section
variable {α : Type} {R R' : α → List Value → Prop} {e : TypeId} {size : Nat} {w w1 : World} {base : Nat} {v : Value} {ps : List α}
theorem Xn.none_ (R:α→List Value→Prop) (e:TypeId) (size:Nat) (w:World) (base:Nat):Xn R e size w base (.slice none 0 0) []:=⟨[],Ef _ _ _ _,Reps.none _ _⟩
theorem Xn.Jh (h:Xn R e size w base v ps) (hR:∀ p c,R p c→R' p c):Xn R' e size w base v ps:=by
  obtain⟨inner,ho,hr⟩:=h
  exact⟨inner,ho,hr.Jh hR⟩
theorem Xn.below (h:Xn R e size w base v ps) (hb:Below w.heap.size w w1):Xn R e size w1 base v ps:=by
  obtain⟨inner,ho,hr⟩:=h
  exact⟨inner,V3 ho hb,hr⟩
theorem Xn.reads (h:Xn R e size w base v ps):∃ A c,v = .slice A ps.length c∧ps.length≤c∧Xa R size w A ps.length ps:=by
  obtain⟨inner,ho,hr⟩:=h
  obtain⟨A,c,rfl,hrow⟩:=Vf ho hr rfl
  exact⟨A,c,rfl,Dr ho,hrow⟩
theorem Xn.Na (h:Xn R e size w base v ps) {g:Nat} {t:TypeId} {cells:Array Value} (hb:w.heap[g]?=some (.cells cells t (0,0))) (ht:e≠t):some g≠v.ownBlock:=by
  obtain⟨inner,ho,hr⟩:=h
  exact Dq ho hb ht
end
section
variable {P : Program} {ops : Array Oper} {rest : List Oper} {o : Oper} {a : Act} {Q : Exit → Act → World → Prop} {α : Type} {R : α → List Value → Prop}
theorem Xn.append {w0 W:World} (base:Nat) (hgd:o.guard=none) (s x:Operand) (t e:TypeId) (z:Value) (size bytes:Nat)
    (ho:o.op = .call {callee:=.builtin .append,args:=#[s,x],argTypes:=#[t,t]})
    (ht:P.underlying t=some (.slice e)) (hinfo:(P.info? e).map (fun i=>(i.zero,i.size,i.bytes))=some (some z,size,bytes)) (hz:z.cells.size=size) (B:0<size) (Y:0<bytes)
    (v:Value) (ps:List α) (p:α) (cs:List Value) (hs:a.eval s=v) (hx:a.eval x = .slice (some ⟨W.heap.size,0,none⟩) 1 1) (hp:R p cs) (hcs:cs.length=size) (h1:∀ u ∈ cs,u.oneCell'=true)
    (HO:Xn R e size W base v ps) (HB:Below base w0 W) (hbase:base≤W.heap.size) (hl:(ps.length+1) * bytes≤140737488355328)
    (h:∀ v1 w1,Xn R e size w1 base v1 (ps ++ [p])→Below base w0 w1→W.grownBy w1 v.ownBlock→(v1.ownBlock=v.ownBlock ∨ ∃ b,v1.ownBlock=some b∧W.heap.size≤b)→wpList P ops Q rest (a.put o.dst v1) w1):
    wpList P ops Q (o :: rest) a (W.alloc (.cells cs.toArray e)):=by
  obtain⟨inner,hown,hr⟩:=HO
  refine Yq base hgd s x t e z size bytes ho ht hinfo hz B Y v ps.length inner cs hs hx hcs h1 hown HB hbase hl ?_
  intro v1 w1 O J γ Z
  exact h v1 w1 ⟨inner++cs,by rw[List.length_append,List.length_singleton];exact O,hr.snoc hp hcs⟩ J γ Z
end
section
variable {P : Program} {ops : Array Oper} {o : Oper} {a : Act} {Q : Exit → Act → World → Prop} {K : Act → World → Prop} {α : Type} {R : α → List Value → Prop}
end
theorem Xa.Np {α:Type} {R:α→List Value→Prop} {size:Nat} {w:World} {ad:Addr} {n:Nat} {ps:List α} (h:Xa R size w (some ad) n ps):
    ∃ inner,Reps R size ps inner ∧ ∀ j u,inner[j]?=some u→w.cell? (ad.add j)=some u:=by
  have key:∀ m,m≤ps.length → ∃ inner,Reps R size (ps.take m) inner ∧ ∀ j u,inner[j]?=some u→w.cell? (ad.add j)=some u:=by
    intro m
    induction m with
    |zero=>exact fun _=>⟨[],Reps.none _ _,fun j u hu=>by simp at hu⟩
    |succ m ih=>
      intro hm
      obtain⟨inner,hr,hc⟩:=ih (by omega)
      obtain⟨ad',he,hcell⟩:=h.2.2 (by have:=h.1;omega)
      injection he with he
      subst he
      obtain⟨c,hcl,hp,hcc⟩:=hcell m _ (List.getElem?_eq_getElem (show m<ps.length by omega))
      refine⟨inner++c, ?_,fun j u hu=>?_⟩
      · rw[List.take_succ_eq_append_getElem (show m<ps.length by omega)]
        exact hr.snoc hp hcl
      · have hil:inner.length=m * size:=by rw[hr.1,List.length_take,Nat.min_eq_left (by omega)]
        rcases Nat.lt_or_ge j inner.length with hj|hj
        · rw[List.getElem?_append_left hj] at hu
          exact hc j u hu
        · rw[List.getElem?_append_right hj] at hu
          have:=hcc (j-inner.length) u hu
          rwa[hil,Nat.add_sub_cancel' (by omega)] at this
  obtain⟨inner,hr,hc⟩:=key ps.length (Nat.le_refl _)
  rw[List.take_length] at hr
  exact⟨inner,hr,hc⟩
section
variable {α : Type} {P : Program}
end
section
variable {P : Program} {ops : Array Oper} {rest : List Oper} {o : Oper} {a : Act} {Q : Exit → Act → World → Prop}
end
structure Kd (α:Type) where
  sz:Nat
  E:List Nat
  K:World→α→List Value→Prop
  M:World→Nat→(Nat→Prop)→α→List Value→Prop
  K_len:∀ {w x cs},K w x cs→cs.length=sz
  K_one:∀ {w x cs},K w x cs → ∀ u ∈ cs,u.oneCell'=true
  K_below:∀ {w w1:World} {x cs},Below w.heap.size w w1→K w x cs→K w1 x cs
  K_of_M:∀ {w base ok x cs},M w base ok x cs→K w x cs
  M_mono:∀ {w base ok ok' x cs},(∀ k,ok k→ok' k)→M w base ok x cs→M w base ok' x cs
  M_bound:∀ {w:World} {base ok x cs},M w base ok x cs→M w base (fun k=>ok k∧base≤k∧k<w.heap.size ∧ ∃ q,q ∈ E ∧ ∃ cells,w.heap[k]?=some (.cells cells q (0,0))) x cs
  M_move:∀ {w w1:World} {base ok x cs},(∀ k,ok k→w1.heap[k]?=w.heap[k]?)→M w base ok x cs→M w1 base ok x cs
  M_lower:∀ {w base base' ok x cs},base'≤base→M w base ok x cs→M w base' ok x cs
theorem M7 {w w1:World} {base:Nat} {e:TypeId} {size n:Nat} {v:Value} {xs:List Value} (h:w.ownsRow base e size v n xs) (hm:∀ k,v.ownBlock=some k→w1.heap[k]?=w.heap[k]?):w1.ownsRow base e size v n xs:=by
  obtain⟨h1,O⟩:=h
  refine⟨h1, ?_⟩
  rcases O with O|⟨g,cap,cur,rfl,hg,hh,r⟩
  · exact .inl O
  · exact .inr ⟨g,cap,cur,rfl,hg,(hm g (by simp[Value.ownBlock])).trans hh,r⟩
theorem Jg {w:World} {base:Nat} {e:TypeId} {size n:Nat} {v:Value} {xs:List Value} (h:w.ownsRow base e size v n xs) (k:Nat) (hk:v.ownBlock=some k):∃ cells,w.heap[k]?=some (.cells cells e (0,0)):=by
  rcases h.2 with⟨rfl,_⟩|⟨g,cap,cur,rfl,hg,hh,r⟩
  · simp[Value.ownBlock] at hk
  · have:g=k:=by simpa[Value.ownBlock] using hk
    subst this
    exact⟨cur,hh⟩
namespace Kd
def C {α:Type} (d:Kd α) (w:World) (A:Option Addr) (n:Nat) (xs:List α):Prop:=Xa (d.K w) d.sz w A n xs
def R {α:Type} (d:Kd α) (e:Nat) (w:World) (base:Nat) (ok:Nat→Prop) (v:Value) (xs:List α):Prop:=
  (∀ k,v.ownBlock=some k→ok k)∧Xn (d.M w base (fun k=>ok k∧some k≠v.ownBlock)) e d.sz w base v xs
section
variable {α : Type} {d : Kd α} {e : Nat} {w w1 : World} {base : Nat} {ok ok' : Nat → Prop} {v : Value} {xs : List α}
theorem Qv {A:Option Addr} {n:Nat} (h:d.C w A n xs) (hb:Below w.heap.size w w1):d.C w1 A n xs:=Xa.Jh h hb (fun _ _ hp=>d.K_below hb hp)
theorem Xx (d:Kd α) (e:Nat) (w:World) (base:Nat) (ok:Nat→Prop):d.R e w base ok (.slice none 0 0) []:=⟨fun k hk=>by simp[Value.ownBlock] at hk,Xn.none_ _ _ _ _ _⟩
theorem Qw (h:d.R e w base ok v xs) (hok:∀ k,ok k→ok' k):d.R e w base ok' v xs:=⟨fun k hk=>hok k (h.1 k hk),h.2.Jh (fun _ _ hp=>d.M_mono (fun k hk=>⟨hok k hk.1,hk.2⟩) hp)⟩
theorem Xr (h:d.R e w base ok v xs):d.R e w base (fun k=>ok k∧base≤k∧k<w.heap.size ∧ ∃ q,q ∈ e :: d.E ∧ ∃ cells,w.heap[k]?=some (.cells cells q (0,0))) v xs:=by
  obtain⟨X,inner,ho,hr⟩:=h
  refine⟨fun k hk=>?_,inner,ho,hr.Jh (fun _ _ hp=>d.M_mono (fun k hk=>?_) (d.M_bound hp))⟩
  · obtain⟨cells,hc⟩:=Jg ho k hk
    exact⟨X k hk,Yr ho k hk,Ws ho k hk,e,List.mem_cons_self,cells,hc⟩
  · obtain⟨⟨h1,O⟩,Y,h4,q,hq,hc⟩:=hk
    exact⟨⟨h1,Y,h4,q,List.mem_cons_of_mem _ hq,hc⟩,O⟩
theorem Km (h:d.R e w base ok v xs) (hm:∀ k,ok k→w1.heap[k]?=w.heap[k]?):d.R e w1 base ok v xs:=by
  obtain⟨X,inner,ho,hr⟩:=h
  exact⟨X,inner,M7 ho (fun k hk=>hm k (X k hk)),hr.Jh (fun _ _ hp=>d.M_move (fun k hk=>hm k hk.1) hp)⟩
theorem Q3 {base':Nat} (h:d.R e w base ok v xs) (hb:base'≤base):d.R e w base' ok v xs:=by
  obtain⟨X,inner,ho,hr⟩:=h
  exact⟨X,inner,Wr ho hb,hr.Jh (fun _ _ hp=>d.M_lower hb hp)⟩
theorem W3 (h:d.R e w base ok v xs) (hm:∀ k,ok k→k<w.heap.size→w1.heap[k]?=w.heap[k]?):d.R e w1 base ok v xs:=
  Qw (Km (Xr h) (fun k hk=>hm k hk.1 hk.2.2.1)) (fun _ hk=>hk.1)
theorem N3 {x:α} {cs:List Value} (h:d.M w base ok x cs) (hm:∀ k,ok k→k<w.heap.size→w1.heap[k]?=w.heap[k]?):d.M w1 base ok x cs:=
  d.M_mono (fun _ hk=>hk.1) (d.M_move (fun k hk=>hm k hk.1 hk.2.2.1) (d.M_bound h))
theorem Za (h:d.R e w base ok v xs) (hb:Below w.heap.size w w1):d.R e w1 base ok v xs:=W3 h (fun k _ hk=>hb.block k hk)
theorem Lq {x:α} {cs:List Value} (h:d.M w base ok x cs) (hb:Below w.heap.size w w1):d.M w1 base ok x cs:=N3 h (fun k _ hk=>hb.block k hk)
theorem Qz (h:d.R e w base ok v xs) {p:Addr} (hok:∀ k,ok k→k≠p.block) (u:Value):d.R e (w.setCell p u) base ok v xs:=W3 h (fun k ho _=>Below.heap_setCell w p u k (hok k ho))
theorem Q7 (h:d.R e w base ok v xs) {g t:Nat} {cells:Array Value} (hb:w.heap[g]?=some (.cells cells t (0,0))) (ht:∀ q,q ∈ e :: d.E→q≠t):d.R e w base (fun k=>ok k∧k≠g) v xs:=
  Qw (Xr h) (fun k hk=>⟨hk.1,by
    obtain⟨_,_,_,q,hq,cells',hc⟩:=hk
    rintro rfl
    rw[hc] at hb
    injection hb with hb
    injection hb with _ hb
    exact ht q hq hb⟩)
theorem Uh (h:d.R e w base ok v xs):∃ A c,v = .slice A xs.length c∧xs.length≤c∧d.C w A xs.length xs:=by
  obtain⟨A,c,he,hl,hr⟩:=Xn.reads h.2
  exact⟨A,c,he,hl,hr.Jh (Below.refl _ _) (fun _ _ hp=>d.K_of_M hp)⟩
theorem Q5 (h:d.R e w base ok v xs):∃ A c,v = .slice A xs.length c:=by
  obtain⟨A,c,he,_⟩:=Uh h
  exact⟨A,c,he⟩
theorem Vt (h:d.R e w base ok v xs):∃ inner,w.ownsRow base e d.sz v xs.length inner:=by
  obtain⟨_,inner,ho,_⟩:=h
  exact⟨inner,ho⟩
theorem Z4 (h:d.R e w base ok v xs) {g t:Nat} {cells:Array Value} (hb:w.heap[g]?=some (.cells cells t (0,0))) (ht:e≠t):some g≠v.ownBlock:=Xn.Na h.2 hb ht
theorem R_new {W:World} {b Y O J:Nat} {u:Value} {ys:List Value} (h:d.R e w W.heap.size ok v xs) (ho:W.ownsRow b Y O u J ys):d.R e w W.heap.size (fun k=>ok k∧some k≠u.ownBlock) v xs:=
  Qw (Xr h) (fun k hk=>⟨hk.1,fun e=>by have:=Ws ho k e.symm;omega⟩)
end
def scalar {α:Type} (enc:α→Value) (h1:∀ x,(enc x).oneCell'=true):Kd α where
  sz:=1
  E:=[]
  K:=fun _ x cs=>cs = [enc x]
  M:=fun _ _ _ x cs=>cs = [enc x]
  K_len:=fun h=>by rw[h];rfl
  K_one:=fun h u hu=>by
    rw[h] at hu
    rw[List.mem_singleton.1 hu]
    exact h1 _
  K_below:=fun _ h=>h
  K_of_M:=fun h=>h
  M_mono:=fun _ h=>h
  M_bound:=fun h=>h
  M_move:=fun _ h=>h
  M_lower:=fun _ h=>h
def int (k:IntKind):Kd Int:=scalar (Value.int k) (fun _=>rfl)
def bool:Kd Bool:=scalar Value.bool (fun _=>rfl)
def slice {α:Type} (e:Nat) (d:Kd α):Kd (List α) where
  sz:=1
  E:=e :: d.E
  K:=fun w xs cs=>∃ A c,cs = [.slice A xs.length c]∧xs.length≤c∧d.C w A xs.length xs
  M:=fun w base ok xs cs=>∃ v,cs = [v]∧d.R e w base ok v xs
  K_len:=by
    rintro w x cs ⟨A,c,rfl,_⟩
    rfl
  K_one:=by
    rintro w x cs ⟨A,c,rfl,_⟩ u hu
    rw[List.mem_singleton.1 hu]
    rfl
  K_below:=by
    rintro w w1 x cs hb ⟨A,c,rfl,hl,hr⟩
    exact⟨A,c,rfl,hl,Qv hr hb⟩
  K_of_M:=by
    rintro w base ok x cs ⟨v,rfl,h⟩
    obtain⟨A,c,rfl,hl,hr⟩:=Uh h
    exact⟨A,c,rfl,hl,hr⟩
  M_mono:=by
    rintro w base ok ok' x cs hok ⟨v,rfl,h⟩
    exact⟨v,rfl,Qw h hok⟩
  M_bound:=by
    rintro w base ok x cs ⟨v,rfl,h⟩
    exact⟨v,rfl,Xr h⟩
  M_move:=by
    rintro w w1 base ok x cs hm ⟨v,rfl,h⟩
    exact⟨v,rfl,Km h hm⟩
  M_lower:=by
    rintro w base base' ok x cs hb ⟨v,rfl,h⟩
    exact⟨v,rfl,Q3 h hb⟩
def pair {α β:Type} (a:Kd α) (b:Kd β):Kd (α×β) where
  sz:=a.sz+b.sz
  E:=a.E++b.E
  K:=fun w x cs=>∃ c0 c1,cs=c0++c1∧a.K w x.1 c0∧b.K w x.2 c1
  M:=fun w base ok x cs=>∃ c0 c1,cs=c0++c1∧a.M w base ok x.1 c0∧b.M w base ok x.2 c1
  K_len:=by
    rintro w x cs ⟨c0,c1,rfl,X,h1⟩
    rw[List.length_append,a.K_len X,b.K_len h1]
  K_one:=by
    rintro w x cs ⟨c0,c1,rfl,X,h1⟩ u hu
    rcases List.mem_append.1 hu with hu|hu
    · exact a.K_one X u hu
    · exact b.K_one h1 u hu
  K_below:=by
    rintro w w1 x cs hb ⟨c0,c1,rfl,X,h1⟩
    exact⟨c0,c1,rfl,a.K_below hb X,b.K_below hb h1⟩
  K_of_M:=by
    rintro w base ok x cs ⟨c0,c1,rfl,X,h1⟩
    exact⟨c0,c1,rfl,a.K_of_M X,b.K_of_M h1⟩
  M_mono:=by
    rintro w base ok ok' x cs hok ⟨c0,c1,rfl,X,h1⟩
    exact⟨c0,c1,rfl,a.M_mono hok X,b.M_mono hok h1⟩
  M_bound:=by
    rintro w base ok x cs ⟨c0,c1,rfl,X,h1⟩
    refine⟨c0,c1,rfl,a.M_mono ?_ (a.M_bound X),b.M_mono ?_ (b.M_bound h1)⟩
    · rintro k ⟨O,Y,h4,q,hq,hc⟩
      exact⟨O,Y,h4,q,List.mem_append_left _ hq,hc⟩
    · rintro k ⟨O,Y,h4,q,hq,hc⟩
      exact⟨O,Y,h4,q,List.mem_append_right _ hq,hc⟩
  M_move:=by
    rintro w w1 base ok x cs hm ⟨c0,c1,rfl,X,h1⟩
    exact⟨c0,c1,rfl,a.M_move hm X,b.M_move hm h1⟩
  M_lower:=by
    rintro w base base' ok x cs hb ⟨c0,c1,rfl,X,h1⟩
    exact⟨c0,c1,rfl,a.M_lower hb X,b.M_lower hb h1⟩
def iso {α β:Type} (d:Kd α) (f:β→α):Kd β where
  sz:=d.sz
  E:=d.E
  K:=fun w x cs=>d.K w (f x) cs
  M:=fun w base ok x cs=>d.M w base ok (f x) cs
  K_len:=d.K_len
  K_one:=d.K_one
  K_below:=d.K_below
  K_of_M:=d.K_of_M
  M_mono:=d.M_mono
  M_bound:=d.M_bound
  M_move:=d.M_move
  M_lower:=d.M_lower
def bot {α:Type} (sz:Nat) (E:List Nat):Kd α where
  sz:=sz
  E:=E
  K:=fun _ _ _=>False
  M:=fun _ _ _ _ _=>False
  K_len:=fun h=>h.elim
  K_one:=fun h=>h.elim
  K_below:=fun _ h=>h
  K_of_M:=fun h=>h
  M_mono:=fun _ h=>h
  M_bound:=fun h=>h
  M_move:=fun _ h=>h
  M_lower:=fun _ h=>h
def upto {α:Type} (F:Kd α→Kd α) (sz:Nat) (E:List Nat):Nat→Kd α
  |0=>bot sz E
  |n+1=>F (upto F sz E n)
theorem Vv {α:Type} {d:Kd α} {w:World} {A:Option Addr} {n:Nat} {xs:List α} (h:d.C w A n xs) (z:α) (i:Int) (X:0≤i) (h1:i<n):
    ∃ ad c,A=some ad∧c.length=d.sz∧d.K w (xs.getD i.toNat z) c ∧ ∀ j u,c[j]?=some u→w.cell? (ad.add (i.toNat * d.sz+j))=some u:=Xa.get_ h z i X h1
theorem W5 {α:Type} {d:Kd α} {e base:Nat} {ok okp:Nat→Prop} {W w1:World} {v v1:Value} {xs:List α} {p:α} {inner cs:List Value} (X:∀ k,v.ownBlock=some k→ok k) (hr:Reps (d.M W base (fun k=>ok k∧some k≠v.ownBlock)) d.sz xs inner) (hp:d.M W base okp p cs) (hokp:∀ k,okp k→ok k∧some k≠v.ownBlock) (hfresh:∀ k,W.heap.size≤k→ok k)
    (hown:w1.ownsRow base e d.sz v1 (xs.length+1) (inner++cs)) (hg:W.grownBy w1 v.ownBlock) (hat:v1.ownBlock=v.ownBlock ∨ ∃ b,v1.ownBlock=some b∧W.heap.size≤b):d.R e w1 base ok v1 (xs ++ [p]):=by
  have hne:∀ k,some k≠v.ownBlock→k<W.heap.size→some k≠v1.ownBlock:=by
    intro k hk hlt
    rcases hat with hat|⟨b,hb,hle⟩
    · rw[hat];exact hk
    · rw[hb]
      intro he
      injection he with he
      omega
  have step:∀ {q:α} {c:List Value} {o:Nat→Prop},d.M W base o q c→(∀ k,o k→ok k∧some k≠v.ownBlock)→d.M w1 base (fun k=>ok k∧some k≠v1.ownBlock) q c:=by
    intro q c o hq ho
    have h1:=d.M_move (w1:=w1) (fun k hk=>hg.block k hk.2.2.1 (ho k hk.1).2) (d.M_bound hq)
    exact d.M_mono (fun k hk=>⟨(ho k hk.1).1,hne k (ho k hk.1).2 hk.2.2.1⟩) h1
  refine⟨fun k hk=>?_,inner++cs,by rw[List.length_append,List.length_singleton];exact hown, ?_⟩
  · rcases hat with hat|⟨b,hb,hle⟩
    · exact X k (hat ▸ hk)
    · rw[hb] at hk
      injection hk with hk
      exact hfresh k (by omega)
  · exact(hr.Jh (fun _ _ hq=>step hq (fun _ hk=>hk))).snoc (step hp hokp) (d.K_len (d.K_of_M hp))
section
variable {P : Program} {ops : Array Oper} {rest : List Oper} {o : Oper} {a : Act} {Q : Exit → Act → World → Prop} {α : Type}
theorem G9 (d:Kd α) {w0 W:World} (base:Nat) (hgd:o.guard=none) (s x:Operand) (t e:TypeId) (z:Value) (bytes:Nat)
    (ho:o.op = .call {callee:=.builtin .append,args:=#[s,x],argTypes:=#[t,t]})
    (ht:P.underlying t=some (.slice e)) (hinfo:(P.info? e).map (fun i=>(i.zero,i.size,i.bytes))=some (some z,d.sz,bytes)) (hz:z.cells.size=d.sz) (B:0<d.sz) (Y:0<bytes)
    (v:Value) (xs:List α) (p:α) (cs:List Value) (ok okp:Nat→Prop) (hs:a.eval s=v) (hx:a.eval x = .slice (some ⟨W.heap.size,0,none⟩) 1 1) (hp:d.M W base okp p cs) (hokp:∀ k,okp k→ok k∧some k≠v.ownBlock) (hfresh:∀ k,W.heap.size≤k→ok k)
    (HO:d.R e W base ok v xs) (HB:Below base w0 W) (hbase:base≤W.heap.size) (hl:(xs.length+1) * bytes≤140737488355328)
    (h:∀ v1 w1,d.R e w1 base ok v1 (xs ++ [p])→Below base w0 w1→W.grownBy w1 v.ownBlock→(v1.ownBlock=v.ownBlock ∨ ∃ b,v1.ownBlock=some b∧W.heap.size≤b)→wpList P ops Q rest (a.put o.dst v1) w1):
    wpList P ops Q (o :: rest) a (W.alloc (.cells cs.toArray e)):=by
  obtain⟨X,inner,hown,hr⟩:=HO
  refine Yq base hgd s x t e z d.sz bytes ho ht hinfo hz B Y v xs.length inner cs hs hx (d.K_len (d.K_of_M hp)) (d.K_one (d.K_of_M hp)) hown HB hbase hl ?_
  intro v1 w1 O J γ Z
  exact h v1 w1 (W5 X hr hp hokp hfresh O γ Z) J γ Z
end
section
variable {P : Program} {ops : Array Oper} {o : Oper} {a : Act} {Q : Exit → Act → World → Prop} {Kc : Act → World → Prop} {α : Type}
end
theorem Wo {α:Type} {enc:α→Value} {d:α} {h1:∀ x,(enc x).oneCell'=true} {w:World} {A:Option Addr} {n:Nat} {xs:List α} (h:(scalar enc h1).C w A n xs):Xm enc d w A n xs:=by
  refine⟨h.1,h.2.1,fun hn=>?_⟩
  obtain⟨ad,e,hc⟩:=h.2.2 hn
  refine⟨ad,e,fun j hj=>?_⟩
  have hl:j<xs.length:=by have:=h.1;omega
  obtain⟨c,_,hK,hcell⟩:=hc j _ (List.getElem?_eq_getElem hl)
  have hK':c = [enc xs[j]]:=hK
  subst hK'
  have:=hcell 0 _ rfl
  simpa[scalar,List.getD_eq_getElem?_getD,List.getElem?_eq_getElem hl] using this
section
variable {α : Type} {F : Kd α → Kd α} {sz : Nat} {E : List Nat} {hs : ∀ n, (upto F sz E n).sz = sz} {hE : ∀ n q, q ∈ (upto F sz E n).E → q ∈ E}
end
theorem Gh {α:Type} {d:Kd α} {e base:Nat} {ok:Nat→Prop} {W w1:World} {u v v1:Value} {xs:List α} (h:d.R e W base (fun k=>ok k∧some k≠v.ownBlock) u xs) (hg:W.grownBy w1 v.ownBlock) (hat:v1.ownBlock=v.ownBlock ∨ ∃ b,v1.ownBlock=some b∧W.heap.size≤b):d.R e w1 base (fun k=>ok k∧some k≠v1.ownBlock) u xs:=by
  refine Qw (Km (Xr h) (fun k hk=>hg.block k hk.2.2.1 hk.1.2)) (fun k hk=>⟨hk.1.1, ?_⟩)
  rcases hat with hat|⟨b,hb,hle⟩
  · rw[hat];exact hk.1.2
  · rw[hb]
    intro he
    injection he with he
    have:=hk.2.2.1
    omega
section
variable {α β : Type} {d : Kd α} {d' : Kd β} {e e' : Nat} {w w1 W : World} {base b b' : Nat} {ok ok' okv oku : Nat → Prop} {v u : Value} {xs : List α} {ys : List β}
theorem Qm (h:d.R e w base ok v xs) (o:Obj):d.R e (w.alloc o) base ok v xs:=Za h (Qu (Below.refl _ _) o)
theorem Qs (h:d.R e w base ok v xs):d.R e w.drew base ok v xs:=Za h (Jq (Below.refl _ _))
theorem Ql (h:d.R e w base ok v xs) (m:Nat):d.R e (w.drewN m) base ok v xs:=Za h (Qi (Below.refl _ _) m)
theorem Yf {A:Option Addr} {n:Nat} (h:d.C w A n xs) (o:Obj):d.C (w.alloc o) A n xs:=Qv h (Qu (Below.refl _ _) o)
theorem Je {A:Option Addr} {n:Nat} (h:d.C w A n xs):d.C w.drew A n xs:=Qv h (Jq (Below.refl _ _))
theorem Ye {A:Option Addr} {n:Nat} (h:d.C w A n xs) (m:Nat):d.C (w.drewN m) A n xs:=Qv h (Qi (Below.refl _ _) m)
theorem Ja (d:Kd α) (w:World):d.C w none ([]:List α).length []:=⟨rfl,by simp,fun h=>absurd h (Nat.lt_irrefl 0)⟩
theorem Qr {A:Option Addr} {n c:Nat} (h:d.R e w base ok (.slice A n c) xs):n=xs.length∧n≤c∧d.C w A xs.length xs:=by
  obtain⟨A',c',he,hl,hr⟩:=Uh h
  injection he with h1 O Y
  subst h1
  exact⟨O,by omega,hr⟩
theorem Xu (h:d.R e w base ok v xs):∀ k,v.ownBlock=some k→k<w.heap.size:=by
  obtain⟨inner,ho⟩:=Vt h
  exact Ws ho
theorem Zy (h:d.R e w base ok v xs):∀ k,v.ownBlock=some k→base≤k:=by
  obtain⟨inner,ho⟩:=Vt h
  exact Yr ho
theorem W4 (h:d.R e w base ok v xs) {g:Nat} (hok:∀ k,ok k→k≠g):some g≠v.ownBlock:=fun e=>hok g (h.1 g e.symm) rfl
theorem Ui (h:d.R e w base ok v xs) (hp:0<xs.length):∃ g cap,v = .slice (some ⟨g,0,none⟩) xs.length cap∧base≤g∧g<w.heap.size ∧ ∃ cells,w.heap[g]?=some (.cells cells e (0,0)):=by
  obtain⟨inner,ho⟩:=Vt h
  obtain⟨g,cap,he,hb,hl⟩:=ho.form hp
  obtain⟨cells,hc⟩:=Jg ho g (by rw[he];simp[Value.ownBlock])
  exact⟨g,cap,he,hb,hl,cells,hc⟩
theorem R_over (h:d.R e W b ok u xs) (hv:d'.R e' W b' ok' v ys) (ht:∀ q,q ∈ e :: d.E→q≠e') (hg:W.grownBy w1 v.ownBlock):d.R e w1 b ok u xs:=by
  obtain⟨inner,ho⟩:=Vt hv
  refine Qw (Km (Xr h) (fun k hk=>hg.block k hk.2.2.1 (fun he=>?_))) (fun _ hk=>hk.1)
  obtain⟨_,_,_,q,hq,cells,hc⟩:=hk
  obtain⟨cells',hc'⟩:=Jg ho k he.symm
  rw[hc] at hc'
  injection hc' with hc'
  injection hc' with _ hc'
  exact ht q hq hc'
theorem R_elder (hu:d'.R e' W b oku u ys) (h:d.R e w1 W.heap.size okv v xs) (hb:Below W.heap.size W w1):d'.R e' w1 b (fun k=>oku k∧some k≠v.ownBlock) u ys:=by
  obtain⟨inner,ho⟩:=Vt h
  exact Qw (Km (Xr hu) (fun k hk=>hb.block k hk.2.2.1)) (fun k hk=>⟨hk.1,fun he=>by have:=Yr ho k he.symm;have:=hk.2.2.1;omega⟩)
end
section
variable {w W : World} {A : Option Addr} {n : Nat}
theorem Yv {k:IntKind} {xs:List Int} (h:(Kd.int k).C w A n xs) (i:Int) (X:0≤i) (h1:i<n):∃ ad,A=some ad∧w.cell? (ad.add i.toNat)=some (.int k (rd xs i)):=
  Xm.at_ (Wo (enc:=Value.int k) (d:=(0:Int)) (h1:=fun _=>rfl) h) i X h1
variable {α : Type} {enc : α → Value} {h1 : ∀ x, (enc x).oneCell' = true} {e base g cap : Nat} {ok : Nat → Prop} {xs : List α}
end
section
variable {P : Program} {ops : Array Oper} {rest : List Oper} {o : Oper} {a : Act} {Q : Exit → Act → World → Prop}
theorem K7 {W w1:World} {v:Value} (hgd:o.guard=none) (hrun:(execOp a.eval o).run P W = .ok (.value v) w1) (h:wpList P ops Q rest (a.put o.dst v) w1):wpList P ops Q (o :: rest) a W:=by
  refine wpList_plain hgd fun K hK=>?_
  unfold Oper.wp
  rw[hrun]
  exact hK _ _ h
variable {α : Type}
theorem Vu (d:Kd α) {w0 W:World} (base e:Nat) (hgd:o.guard=none) {N:Tmp} (_hd:o.dst=some N) {xs:List α} {inner:List Value} {ok okp:Nat→Prop}
    (hrun:(execOp a.eval o).run P W = .ok (.value (.slice (some ⟨W.heap.size,0,none⟩) xs.length xs.length)) (W.alloc (.cells inner.toArray e)))
    (hrep:Reps (d.M W base okp) d.sz xs inner) (hok:∀ k,okp k→ok k) (hfresh:ok W.heap.size) (HB:Below base w0 W) (hbase:base≤W.heap.size) (hm:xs.length≤9223372036854775807)
    (h:∀ v1 w1,d.R e w1 base ok v1 xs→Below base w0 w1→W.grownBy w1 none→(∃ b,v1.ownBlock=some b∧W.heap.size≤b)→wpList P ops Q rest (a.put o.dst v1) w1):wpList P ops Q (o :: rest) a W:=by
  refine K7 hgd hrun (h _ _ ⟨fun k hk=>?_,inner, ?_, ?_⟩ (HB.alloc hbase _) (World.grownBy_alloc W _ none) ⟨W.heap.size,by simp[Value.ownBlock],Nat.le_refl _⟩)
  · have:W.heap.size=k:=by simpa[Value.ownBlock] using hk
    subst this
    exact hfresh
  · have O:=World.ownsRow_lit (base:=base) (e:=e) (size:=d.sz) W inner.toArray xs.length hbase (by simpa[maxLen] using hm) (by simpa using hrep.1)
    simpa using O
  · refine hrep.Jh (fun p c hp=>d.M_mono (fun k hk=>⟨hok k hk.1,fun he=>?_⟩) (Lq (d.M_bound hp) (Qu (Below.refl _ _) _)))
    have Y:k=W.heap.size:=by simpa[Value.ownBlock] using he
    have:=hk.2.2.1
    omega
end
end Kd
theorem M6 {w:World} {base n m c size:Nat} {e:TypeId} {A:Option Addr} {xs:List Value} (h:w.ownsRow base e size (.slice A n c) n xs) (hm:m≤n):w.ownsRow base e size (.slice A m c) m (xs.take (m * size)):=by
  obtain⟨h1,O⟩:=h
  refine⟨by rw[List.length_take,h1];exact Nat.min_eq_left (Nat.mul_le_mul_right _ hm), ?_⟩
  rcases O with⟨he,X⟩|⟨g,cap,cur,he,hb,hh,hnc,hcm,hcs,ht⟩
  · injection he with ha _ hc
    subst ha;subst hc
    exact .inl ⟨by rw[show m=0 by omega],by omega⟩
  · injection he with ha _ hc
    subst ha;subst hc
    refine .inr ⟨g,c,cur,rfl,hb,hh,by omega,hcm,hcs, ?_⟩
    rw[← ht,List.take_take,Nat.min_eq_left (Nat.mul_le_mul_right _ hm)]
section
variable {P : Program}
theorem Dt (t e:TypeId) (kh:IntKind) {i:TypeInfo} (ht:P.underlying t=some (.slice e)) (hi:P.info? e=some i) (A:Option Addr) (n c:Nat) (j:Int) (X:0≤j) (hm:j≤n) (hc:n≤c):
    ∀ W:World,(Instr.slice t (.slice A n c) none (some (.int kh j)) none).run P W = .ok (.slice A j.toNat c) W:=by
  intro W
  have hel:P.elem t=e:=by simp[Program.elem,ht]
  have hu:P.underlying t=some (.slice (P.elem t)):=by rw[hel];exact ht
  have ha:(A.map fun x=>x.add 0)=A:=by cases A <;> simp[Addr.add]
  rw[run_slice_h W t A n c hu kh j X (by omega),hel]
  simp[sizeOf,typeInfo,hi,sliced,Result.andThen,ha]
theorem Nu (t e:TypeId) (kl:IntKind) {i:TypeInfo} (ht:P.underlying t=some (.slice e)) (hi:P.info? e=some i) (size:Nat) (hsz:i.size=size) (A:Option Addr) (n c:Nat) (j:Int) (X:0≤j) (hm:j≤n):
    ∀ W:World,(Instr.slice t (.slice A n c) (some (.int kl j)) none none).run P W = .ok (.slice (if c=j.toNat then A else A.map (·.add (j.toNat * size))) (n-j.toNat) (c-j.toNat)) W:=by
  intro W
  have hel:P.elem t=e:=by simp[Program.elem,ht]
  have hu:P.underlying t=some (.slice (P.elem t)):=by rw[hel];exact ht
  rw[run_slice_l W t A n c hu kl j X hm,hel]
  simp[sizeOf,typeInfo,hi,hsz,sliced,Result.andThen]
end
def QRow (w:World) (base:Nat) (e:TypeId) (size:Nat) (v:Value) (n:Nat) (xs:List Value):Prop:=
  xs.length=n * size ∧
  ((n=0 ∧ ∃ A,v = .slice A 0 0 ∧ ∀ a,A=some a→base≤a.block ∧ ∃ cur,w.heap[a.block]?=some (.cells cur e (0,0))) ∨
   ∃ g off cap cur,v = .slice (some ⟨g,off * size,none⟩) n cap∧base≤g∧w.heap[g]?=some (.cells cur e (0,0))∧n≤cap∧off+cap≤maxLen∧cur.size=(off+cap) * size∧(cur.toList.drop (off * size)).take (n * size)=xs)
section
variable {w w1 : World} {base n size : Nat} {e : TypeId} {v : Value} {xs : List Value}
theorem M4 (h:w.ownsRow base e size v n xs):QRow w base e size v n xs:=by
  obtain⟨h1,O⟩:=h
  refine⟨h1, ?_⟩
  rcases O with⟨rfl,X⟩|⟨g,cap,cur,rfl,hb,hh,hnc,hcm,hcs,ht⟩
  · exact .inl ⟨X,none,rfl,fun a ha=>by cases ha⟩
  · exact .inr ⟨g,0,cap,cur,by rw[Nat.zero_mul],hb,hh,hnc,by rw[Nat.zero_add];exact hcm,by rw[Nat.zero_add];exact hcs,by rw[Nat.zero_mul,List.drop_zero];exact ht⟩
theorem D5 (g o j:Nat):(⟨g,o,none⟩:Addr).add j=⟨g,o+j,none⟩:=by unfold Addr.add;split <;> simp_all
theorem Jk {g:Nat}:∀ (vs:List Value) (o:Nat) {w:World} (k:Nat),k≠g→(w.setCells g o vs).heap[k]?=w.heap[k]?
  | [],_,_,_,_=>rfl
  |v :: r,o,w,k,hk=>by
    rw[World.setCells,Jk r (o+1) k hk]
    exact Below.heap_setCell w ⟨g,o,none⟩ v k hk
theorem Jb (g:Nat):∀ (vs:List Value) (o:Nat) (w:World),(w.setCells g o vs).os=w.os∧(w.setCells g o vs).tape=w.tape∧(w.setCells g o vs).output=w.output∧(w.setCells g o vs).heap.size=w.heap.size
  | [],_,_=>⟨rfl,rfl,rfl,rfl⟩
  |v :: r,o,w=>by
    obtain⟨h1,O,Y,h4⟩:=Jb g r (o+1) (w.setCell ⟨g,o,none⟩ v)
    rw[World.setCells]
    exact⟨h1,O,Y,by rw[h4];simp[World.setCell]⟩
theorem Jj {g:Nat} {e:TypeId}:∀ (vs:List Value) (o:Nat) (w:World) (cur:Array Value),w.heap[g]?=some (.cells cur e (0,0))→o+vs.length≤cur.size →
    ∃ cur',(w.setCells g o vs).heap[g]?=some (.cells cur' e (0,0))∧cur'.size=cur.size∧cur'.toList=cur.toList.take o++vs++cur.toList.drop (o+vs.length)
  | [],o,w,cur,h,_=>⟨cur,h,rfl,by simp⟩
  |v :: r,o,w,cur,h,hl=>by
    have O:=Yd h o v
    simp only[List.length_cons] at hl
    obtain⟨cur',Y,h4,J⟩:=Jj r (o+1) (w.setCell ⟨g,o,none⟩ v) _ O (by simp;omega)
    refine⟨cur',Y,by rw[h4];simp, ?_⟩
    rw[J,Array.toList_setIfInBounds]
    have ho:o<cur.toList.length:=by rw[Array.length_toList];omega
    rw[List.take_set,List.drop_set_of_lt (by omega)]
    simp only[List.length_cons]
    rw[show o+1+r.length=o+(r.length+1) by omega]
    congr 1
    rw[List.take_succ_eq_append_getElem ho,List.set_append_right _ _ (by rw[List.length_take];omega)]
    have ho':o<cur.size:=by omega
    simp[Nat.min_eq_left (Nat.le_of_lt ho')]
end
section
variable {P : Program}
end
namespace Kd
theorem Lz {α:Type} {R:α→List Value→Prop} {size m:Nat} {ps:List α} {cs:List Value} (h:Reps R size ps cs) (hm:m≤ps.length):Reps R size (ps.take m) (cs.take (m * size)):=by
  refine⟨by rw[List.length_take,List.length_take,h.1,Nat.min_eq_left hm,Nat.min_eq_left (Nat.mul_le_mul_right _ hm)],fun j p hj=>?_⟩
  rw[List.getElem?_take] at hj
  split at hj
  · rename_i hjm
    have:=h.2 j p hj
    have hle:j * size+size≤m * size:=by rw[← Nat.succ_mul];exact Nat.mul_le_mul_right _ hjm
    rw[List.drop_take,List.take_take,Nat.min_eq_left (by omega)]
    exact this
  · cases hj
theorem L0 {α:Type} {R:α→List Value→Prop} {size m:Nat} {ps:List α} {cs:List Value} (h:Reps R size ps cs):Reps R size (ps.drop m) (cs.drop (m * size)):=by
  refine⟨by rw[List.length_drop,List.length_drop,h.1,Nat.sub_mul],fun j p hj=>?_⟩
  rw[List.getElem?_drop] at hj
  have:=h.2 (m+j) p hj
  rw[List.drop_drop,← Nat.add_mul]
  exact this
theorem D6 {α:Type} {d:Kd α} {e m n c:Nat} {w:World} {base:Nat} {ok:Nat→Prop} {A:Option Addr} {xs:List α} (h:d.R e w base ok (.slice A n c) xs) (hm:m≤xs.length):d.R e w base ok (.slice A m c) (xs.take m):=by
  obtain⟨X,inner,ho,hr⟩:=h
  have hn:n=xs.length:=by
    obtain⟨A',c',he⟩:=Ma ho
    injection he
  subst hn
  have hb:∀ x y:Nat,(Value.slice A x c).ownBlock=(Value.slice A y c).ownBlock:=by
    intro x y
    cases A <;> rfl
  refine⟨fun k hk=>X k (by rw[hb _ m];exact hk),inner.take (m * d.sz), ?_, ?_⟩
  · rw[List.length_take,Nat.min_eq_left hm]
    exact M6 ho hm
  · rw[hb m xs.length]
    exact Lz hr hm
def Q {α:Type} (d:Kd α) (e:Nat) (w:World) (base:Nat) (ok:Nat→Prop) (v:Value) (xs:List α):Prop:=
  (∀ k,v.ownBlock=some k→ok k) ∧ ∃ inner,QRow w base e d.sz v xs.length inner∧Reps (d.M w base (fun k=>ok k∧some k≠v.ownBlock)) d.sz xs inner
section
variable {α : Type} {d : Kd α} {e : Nat} {w w1 W : World} {base : Nat} {ok ok' : Nat → Prop} {v : Value} {xs : List α}
theorem D8 (h:d.R e w base ok v xs):d.Q e w base ok v xs:=by
  obtain⟨X,inner,ho,hr⟩:=h
  exact⟨X,inner,M4 ho,hr⟩
theorem Yz (d:Kd α) (e:Nat) (w:World) (base:Nat) (ok:Nat→Prop):d.Q e w base ok (.slice none 0 0) []:=D8 (Xx d e w base ok)
end
section
variable {P : Program} {ops : Array Oper} {rest : List Oper} {o : Oper} {a : Act} {Q' : Exit → Act → World → Prop} {Kc : Act → World → Prop} {α : Type}
end
section
variable {α : Type} {d : Kd α} {e e' : Nat} {w w1 W : World} {base : Nat} {ok : Nat → Prop} {u v : Value} {xs : List α}
theorem Y8 (h:d.R e w base ok v xs):∀ k,v.ownBlock=some k → ∃ cells,w.heap[k]?=some (.cells cells e (0,0)):=by
  obtain⟨inner,ho⟩:=Vt h
  exact fun k hk=>Jg ho k hk
theorem Y9 (h:d.R e W base ok u xs) (hty:∀ k,v.ownBlock=some k → ∃ cells,W.heap[k]?=some (.cells cells e' (0,0))) (ht:∀ q,q ∈ e :: d.E→q≠e') (hg:W.grownBy w1 v.ownBlock):d.R e w1 base ok u xs:=by
  refine Qw (Km (Xr h) (fun k hk=>hg.block k hk.2.2.1 (fun he=>?_))) (fun _ hk=>hk.1)
  obtain⟨_,_,_,q,hq,cells,hc⟩:=hk
  obtain⟨cells',hc'⟩:=hty k he.symm
  rw[hc] at hc'
  injection hc' with hc'
  injection hc' with _ hc'
  exact ht q hq hc'
theorem Zb (hu:d.R e W base ok u xs) (hbase:∀ k,v.ownBlock=some k→W.heap.size≤k) (hb:Below W.heap.size W w1):d.R e w1 base (fun k=>ok k∧some k≠v.ownBlock) u xs:=
  Qw (Km (Xr hu) (fun k hk=>hb.block k hk.2.2.1)) (fun k hk=>⟨hk.1,fun he=>by have:=hbase k he.symm;have:=hk.2.2.1;omega⟩)
theorem Z1 (h:d.R e w1 W.heap.size ok v xs) (hlt:∀ k,u.ownBlock=some k→k<W.heap.size):d.R e w1 W.heap.size (fun k=>ok k∧some k≠u.ownBlock) v xs:=
  Qw (Xr h) (fun k hk=>⟨hk.1,fun he=>by have:=hlt k he.symm;have:=hk.2.1;omega⟩)
theorem fresh' (hlt:∀ k,u.ownBlock=some k→k<W.heap.size):∀ k,W.heap.size≤k→some k≠u.ownBlock:=fun k hk he=>by have:=hlt k he.symm;omega
end
end Kd
theorem Kr {α:Type} (a seg:List α) (o:Nat) (h:o+seg.length≤a.length) (q:Nat):
    (a.take o++seg++a.drop (o+seg.length))[q]?=if q<o then a[q]? else if q<o+seg.length then seg[q-o]? else a[q]?:=by
  have hl:(a.take o).length=o:=by rw[List.length_take];omega
  rw[List.append_assoc]
  by_cases h1:q<o
  · rw[if_pos h1,List.getElem?_append_left (by omega),List.getElem?_take,if_pos h1]
  · rw[if_neg h1,List.getElem?_append_right (by omega),hl]
    by_cases O:q<o+seg.length
    · rw[if_pos O,List.getElem?_append_left (by omega)]
    · rw[if_neg O,List.getElem?_append_right (by omega),List.getElem?_drop]
      congr 1
      omega
namespace Kd
section
variable {α : Type} {d : Kd α} {e base g n cap : Nat} {ok okp : Nat → Prop} {W : World} {xs : List α}
theorem Jr (h:d.R e W base ok (.slice (some ⟨g,0,none⟩) n cap) xs) (z:α) (i:Int) (X:0≤i) (h1:i<n):
    ∃ c,c.length=d.sz∧d.M W base (fun k=>ok k∧k≠g) (xs.getD i.toNat z) c∧(∀ j u,c[j]?=some u→W.cell? ⟨g,i.toNat * d.sz+j,none⟩=some u) ∧ ∀ j,W.frozen? ⟨g,i.toNat * d.sz+j,none⟩=false:=by
  obtain⟨hn,hnc,hC⟩:=Qr h
  obtain⟨_,inner,ho,hr⟩:=h
  have hil:i.toNat<xs.length:=by omega
  have hseg:i.toNat * d.sz+d.sz≤inner.length:=by rw[hr.1,← Nat.succ_mul];exact Nat.mul_le_mul_right _ hil
  have hM:=hr.2 i.toNat _ (List.getElem?_eq_getElem hil)
  refine⟨(inner.drop (i.toNat * d.sz)).take d.sz,by rw[List.length_take,List.length_drop];omega, ?_,fun j u hu=>?_,fun j=>?_⟩
  · rw[List.getD_eq_getElem?_getD,List.getElem?_eq_getElem hil]
    exact d.M_mono (fun k hk=>⟨hk.1,fun he=>hk.2 (by rw[he];simp[Value.ownBlock])⟩) hM
  · rw[List.getElem?_take] at hu
    split at hu
    · rw[List.getElem?_drop] at hu
      have:=ho.cells (g:=g) (by simp[Value.ownBlock]) _ u hu
      rwa[add_plain] at this
    · cases hu
  · obtain⟨cells,hc⟩:=Jg ho g (by simp[Value.ownBlock])
    exact Qb hc _
theorem Lm (h:d.R e W base ok (.slice (some ⟨g,0,none⟩) n cap) xs) (i:Int) (X:0≤i) (h1:i<n) {c seg:List Value} {j:Nat} (hcl:c.length=d.sz) (hcc:∀ j u,c[j]?=some u→W.cell? ⟨g,i.toNat * d.sz+j,none⟩=some u)
    (hj:j+seg.length≤d.sz) {x':α} (hM:d.M W base okp x' (c.take j++seg++c.drop (j+seg.length))) (hokp:∀ k,okp k→ok k∧k≠g):
    d.R e (W.setCells g (i.toNat * d.sz+j) seg) base ok (.slice (some ⟨g,0,none⟩) n cap) (xs.set i.toNat x')∧W.grownBy (W.setCells g (i.toNat * d.sz+j) seg) (some g):=by
  obtain⟨hn,hnc,_⟩:=Qr h
  obtain⟨hok,inner,ho,hr⟩:=h
  have hil:i.toNat<xs.length:=by omega
  have hseg:i.toNat * d.sz+d.sz≤inner.length:=by rw[hr.1,← Nat.succ_mul];exact Nat.mul_le_mul_right _ hil
  have hin:inner.length=n * d.sz:=by rw[hr.1,hn]
  obtain⟨ax,d5⟩:=ho
  rcases d5 with⟨hv,_⟩|⟨g',cap',cur,hv,hb,hh,hnc',hcm,hcs,ht⟩
  · cases hv
  injection hv with ha _ hc
  injection ha with ha
  injection ha with hg
  subst hg;subst hc
  have hfit:i.toNat * d.sz+j+seg.length≤cur.size:=by
    have:n * d.sz≤cap * d.sz:=Nat.mul_le_mul_right _ hnc
    omega
  obtain⟨cur',Y,h4,J⟩:=Jj seg (i.toNat * d.sz+j) W cur hh hfit
  obtain⟨B,s2,s3,O⟩:=Jb g seg (i.toNat * d.sz+j) W
  have hfar:∀ k,k≠g→(W.setCells g (i.toNat * d.sz+j) seg).heap[k]?=W.heap[k]?:=fun k hk=>Jk seg _ k hk
  have hcin:∀ q,q<d.sz→c[q]?=inner[i.toNat * d.sz+q]?:=by
    intro q hq
    have hq':q<c.length:=by omega
    have Z:=hcc q _ (List.getElem?_eq_getElem hq')
    rw[cell_of_row W g _ cur e (0,0) hh] at Z
    rw[List.getElem?_eq_getElem hq',← Z,← ht,List.getElem?_take,if_pos (by rw[← hn];omega),Array.getElem?_toList]
  refine⟨⟨hok,inner.take (i.toNat * d.sz+j)++seg++inner.drop (i.toNat * d.sz+j+seg.length),⟨?_,.inr ⟨g,cap,cur',by rw[List.length_set,hn],hb,Y,by rw[List.length_set,← hn];exact hnc,hcm,by rw[h4,hcs], ?_⟩⟩, ?_⟩,
    ⟨B,s2,s3,by rw[O];exact Nat.le_refl _,fun k _ hk=>hfar k (fun he=>hk (by rw[he]))⟩⟩
  · rw[List.length_set]
    simp only[List.length_append,List.length_take,List.length_drop]
    rw[hr.1] at hseg ⊢
    omega
  · rw[List.length_set,← hn]
    apply List.ext_getElem?
    intro q
    rw[List.getElem?_take,J]
    rw[Kr cur.toList seg (i.toNat * d.sz+j) (by rw[Array.length_toList];omega) q,Kr inner seg (i.toNat * d.sz+j) (by omega) q]
    have hcur:∀ q,q<n * d.sz→cur.toList[q]?=inner[q]?:=by
      intro q hq
      rw[← ht,List.getElem?_take,if_pos (by rw[← hn];exact hq)]
    by_cases hq:q<n * d.sz
    · rw[if_pos hq,hcur q hq]
    · rw[if_neg hq,if_neg (by omega),if_neg (by omega),List.getElem?_eq_none (by omega)]
  · refine⟨?_,fun m p hm=>?_⟩
    · rw[List.length_set]
      simp only[List.length_append,List.length_take,List.length_drop]
      rw[hr.1] at hseg ⊢
      omega
    · have hml:m<xs.length:=by
        have:=(List.getElem?_eq_some_iff.1 hm).1
        rwa[List.length_set] at this
      have hmfit:m * d.sz+d.sz≤inner.length:=by rw[hr.1,← Nat.succ_mul];exact Nat.mul_le_mul_right _ hml
      have hgo:some g=(Value.slice (some ⟨g,0,none⟩) n cap).ownBlock:=by simp[Value.ownBlock]
      by_cases hmi:m=i.toNat
      · subst hmi
        rw[List.getElem?_set_self (by omega)] at hm
        injection hm with hm
        subst hm
        have hcells:((inner.take (i.toNat * d.sz+j)++seg++inner.drop (i.toNat * d.sz+j+seg.length)).drop (i.toNat * d.sz)).take d.sz=c.take j++seg++c.drop (j+seg.length):=by
          apply List.ext_getElem?
          intro q
          rw[List.getElem?_take,List.getElem?_drop,Kr inner seg _ (by omega),Kr c seg j (by omega) q]
          by_cases hq:q<d.sz
          · rw[if_pos hq,hcin q hq]
            by_cases γ:q<j
            · rw[if_pos (by omega),if_pos γ]
            · rw[if_neg (by omega),if_neg γ]
              by_cases δ :q<j+seg.length
              · rw[if_pos (by omega),if_pos δ]
                congr 1
                omega
              · rw[if_neg (by omega),if_neg δ]
          · rw[if_neg hq,if_neg (by omega),if_neg (by omega),List.getElem?_eq_none (by omega)]
        rw[hcells]
        refine d.M_mono (fun k hk=>?_) (d.M_move (w1:=W.setCells g (i.toNat * d.sz+j) seg) (fun k hk=>hfar k (hokp k hk).2) hM)
        exact⟨(hokp k hk).1,fun he=>(hokp k hk).2 (by rw[← hgo] at he;injection he)⟩
      · rw[List.getElem?_set_ne (by omega)] at hm
        have hold:=hr.2 m p hm
        have hcells:((inner.take (i.toNat * d.sz+j)++seg++inner.drop (i.toNat * d.sz+j+seg.length)).drop (m * d.sz)).take d.sz=(inner.drop (m * d.sz)).take d.sz:=by
          apply List.ext_getElem?
          intro q
          rw[List.getElem?_take,List.getElem?_take,List.getElem?_drop,List.getElem?_drop,Kr inner seg _ (by omega)]
          by_cases hq:q<d.sz
          · rw[if_pos hq,if_pos hq]
            rcases Nat.lt_or_gt_of_ne hmi with hlt|hgt
            · have:m * d.sz+d.sz≤i.toNat * d.sz:=by rw[← Nat.succ_mul];exact Nat.mul_le_mul_right _ hlt
              rw[if_pos (by omega)]
            · have:i.toNat * d.sz+d.sz≤m * d.sz:=by rw[← Nat.succ_mul];exact Nat.mul_le_mul_right _ hgt
              rw[if_neg (by omega),if_neg (by omega)]
          · rw[if_neg hq,if_neg hq]
        rw[hcells]
        refine d.M_move (fun k hk=>hfar k (fun he=>hk.2 (by rw[he];exact hgo))) hold
end
section
variable {α : Type} {F : Kd α → Kd α} {sz : Nat} {E : List Nat} {hs : ∀ n, (upto F sz E n).sz = sz} {hE : ∀ n q, q ∈ (upto F sz E n).E → q ∈ E}
end
theorem Ju {α:Type} {R:α→List Value→Prop} {size:Nat} {ps qs:List α} {cs ds:List Value} (h:Reps R size ps cs) (h':Reps R size qs ds):Reps R size (ps++qs) (cs++ds):=by
  refine⟨by rw[List.length_append,List.length_append,h.1,h'.1,Nat.add_mul],fun j p hj=>?_⟩
  rcases Nat.lt_or_ge j ps.length with hlt|hge
  · rw[List.getElem?_append_left hlt] at hj
    have hle:j * size+size≤cs.length:=by rw[h.1,← Nat.succ_mul];exact Nat.mul_le_mul_right _ hlt
    rw[List.drop_append_of_le_length (by omega),List.take_append_of_le_length (by rw[List.length_drop];omega)]
    exact h.2 j p hj
  · rw[List.getElem?_append_right hge] at hj
    have O:=h'.2 (j-ps.length) p hj
    have hle:ps.length * size≤j * size:=Nat.mul_le_mul_right _ hge
    rw[List.drop_append,List.drop_eq_nil_of_le (by rw[h.1];exact hle),List.nil_append,h.1,← Nat.sub_mul]
    exact O
section
variable {P : Program} {ops : Array Oper} {rest : List Oper} {o : Oper} {a : Act} {Q : Exit → Act → World → Prop} {α : Type}
theorem Kb (d:Kd α) {Rr:α→List Value→Prop} {w0 W:World} (base:Nat) (hgd:o.guard=none) (s x:Operand) (t e:TypeId) (z:Value) (bytes:Nat)
    (ho:o.op = .call {callee:=.builtin .append,args:=#[s,x],argTypes:=#[t,t]})
    (ht:P.underlying t=some (.slice e)) (hinfo:(P.info? e).map (fun i=>(i.zero,i.size,i.bytes))=some (some z,d.sz,bytes)) (hz:z.cells.size=d.sz) (B:0<d.sz) (Y:0<bytes)
    (v:Value) (xs ys:List α) (A:Option Addr) (m c:Nat) (ok okp:Nat→Prop) (hs:a.eval s=v) (hx:a.eval x = .slice A m c)
    (HO:d.R e W base ok v xs) (HR:Xa Rr d.sz W A m ys) (hKM:∀ x cs,Rr x cs→d.M W base okp x cs) (hokp:∀ k,okp k→ok k∧some k≠v.ownBlock) (hfresh:∀ k,W.heap.size≤k→ok k)
    (HB:Below base w0 W) (hbase:base≤W.heap.size) (hl:(xs.length+m) * bytes≤140737488355328)
    (h:∀ v1 w1,d.R e w1 base ok v1 (xs++ys)→Below base w0 w1→W.grownBy w1 v.ownBlock→(v1.ownBlock=v.ownBlock ∨ ∃ b,v1.ownBlock=some b∧W.heap.size≤b)→wpList P ops Q rest (a.put o.dst v1) w1):
    wpList P ops Q (o :: rest) a W:=by
  obtain⟨i0,hi,hzz⟩:=Option.map_eq_some_iff.1 hinfo
  simp only[Prod.mk.injEq] at hzz
  obtain⟨Z,J,γ⟩:=hzz
  have hm:ys.length=m:=HR.1
  have hlen:xs.length+m≤140737488355328:=Nat.le_trans (Nat.le_mul_of_pos_right _ Y) hl
  obtain⟨hok,inner,hown,hr⟩:=HO
  have hrun:∃ v1 w1,(Builtin.append_ #[t,t] o.type #[v,.slice A m c]).run P W = .ok v1 w1∧d.R e w1 base ok v1 (xs++ys)∧W.grownBy w1 v.ownBlock∧(v1.ownBlock=v.ownBlock ∨ ∃ b,v1.ownBlock=some b∧W.heap.size≤b):=by
    rcases A with _|ad
    · have X:m=0:=by
        rcases Nat.eq_zero_or_pos m with X|X
        · exact X
        · obtain⟨ad,h,_⟩:=HR.2.2 X
          cases h
      subst X
      obtain rfl:ys = []:=List.eq_nil_of_length_eq_zero hm
      refine⟨v,W, ?_,by rw[List.append_nil];exact⟨hok,inner,hown,hr⟩,World.grownBy.refl W _,.inl rfl⟩
      rcases hown.2 with⟨rfl,hn⟩|⟨g,cap,cur,rfl,_,_,hnc,_⟩
      · simp[Builtin.append_,run_underlying ht,sizeOf,typeInfo,hi,Builtin.lenOf,Builtin.firstCells]
      · simp[Builtin.append_,run_underlying ht,sizeOf,typeInfo,hi,Builtin.lenOf,Builtin.firstCells,hnc,storeCells]
    · obtain⟨news,hnr,hnc⟩:=Xa.Np HR
      have hnM:Reps (d.M W base okp) d.sz ys news:=hnr.Jh (fun p c hp=>hKM p c hp)
      have hone:∀ u ∈ news,u.oneCell'=true:=by
        intro u hu
        obtain⟨q,hq,rfl⟩:=List.mem_iff_getElem.1 hu
        have hql:q / d.sz<ys.length:=by
          rw[Nat.div_lt_iff_lt_mul B]
          rw[← hnM.1]
          exact hq
        have hc:=hnM.2 (q / d.sz) _ (List.getElem?_eq_getElem hql)
        refine d.K_one (d.K_of_M hc) _ ?_
        rw[List.mem_iff_getElem?]
        refine⟨q % d.sz, ?_⟩
        rw[List.getElem?_take,if_pos (Nat.mod_lt _ B),List.getElem?_drop,Nat.mul_comm,Nat.div_add_mod,List.getElem?_eq_getElem hq]
      obtain⟨v1,w1,hrun,O,hg,_,hat⟩:=run_append_own_at (P:=P) W base t o.type e i0 z d.sz bytes ht hi Z J γ hz B v xs.length inner hown ad m c news (by rw[hnM.1,hm]) hnc hone (by simp only[maxLen];omega) hl hbase
      have hat':v1.ownBlock=v.ownBlock ∨ ∃ b,v1.ownBlock=some b∧W.heap.size≤b:=by
        rcases hat with hat|hat
        · exact .inl hat
        · exact .inr ⟨_,hat,Nat.le_refl _⟩
      have hne:∀ k,some k≠v.ownBlock→k<W.heap.size→some k≠v1.ownBlock:=by
        intro k hk hlt
        rcases hat' with hat|⟨b,hb,hle⟩
        · rw[hat];exact hk
        · rw[hb]
          intro he
          injection he with he
          omega
      have step:∀ {q:α} {c:List Value} {o:Nat→Prop},d.M W base o q c→(∀ k,o k→ok k∧some k≠v.ownBlock)→d.M w1 base (fun k=>ok k∧some k≠v1.ownBlock) q c:=by
        intro q c o hq ho
        have h1:=d.M_move (w1:=w1) (fun k hk=>hg.block k hk.2.2.1 (ho k hk.1).2) (d.M_bound hq)
        exact d.M_mono (fun k hk=>⟨(ho k hk.1).1,hne k (ho k hk.1).2 hk.2.2.1⟩) h1
      refine⟨v1,w1,hrun,⟨fun k hk=>?_,inner++news,by rw[List.length_append,hm];exact O,Ju (hr.Jh (fun _ _ hq=>step hq (fun _ hk=>hk))) (hnM.Jh (fun _ _ hq=>step hq hokp))⟩,hg,hat'⟩
      rcases hat' with hat|⟨b,hb,hle⟩
      · exact hok k (hat ▸ hk)
      · rw[hb] at hk
        injection hk with hk
        exact hfresh k (by omega)
  obtain⟨v1,w1,cv,h1,hg,hat⟩:=hrun
  refine wpList_plain hgd fun K hK=>?_
  unfold Oper.wp execOp
  simp only[ho,resolve,invoke,builtin,Sem.run_bind,Sem.run_pure,Result.andThen_ok,List.map_toArray,List.map_cons,List.map_nil,hs,hx,cv]
  exact hK _ _ (h v1 w1 h1 (HB.grown hg hbase (Yr hown)) hg hat)
end
section
variable {P : Program} {ops : Array Oper} {rest : List Oper} {o : Oper} {a : Act} {Q : Exit → Act → World → Prop} {α : Type}
end
end Kd
theorem add_add (a:Addr) (i j:Nat):(a.add i).add j=a.add (i+j):=by
  unfold Addr.add
  by_cases h1:i=0 <;> by_cases O:j=0 <;> simp[h1,O,Nat.add_assoc]
namespace Kd
section
variable {α : Type} {k : Kd α} {w : World} {A : Option Addr} {xs : List α} {m c : Nat}
theorem Ce (h:k.C w A xs.length xs) (hm:m≤xs.length) (hc:xs.length≤c):k.C w (if c=m then A else A.map (·.add (m * k.sz))) (xs.drop m).length (xs.drop m):=by
  have hl:(xs.drop m).length=xs.length-m:=List.length_drop
  refine⟨rfl,by rw[hl];have:=h.2.1;omega,fun hp=>?_⟩
  rw[hl] at hp
  obtain⟨ad,rfl,hcell⟩:=h.2.2 (by omega)
  rw[if_neg (by omega)]
  refine⟨ad.add (m * k.sz),rfl,fun j p hj=>?_⟩
  rw[List.getElem?_drop] at hj
  obtain⟨cs,h1,O,Y⟩:=hcell (m+j) p hj
  refine⟨cs,h1,O,fun i u hu=>?_⟩
  rw[add_add,show m * k.sz+(j * k.sz+i)=(m+j) * k.sz+i by rw[Nat.add_mul];omega]
  exact Y i u hu
end
end Kd
section
variable {P : Program}
end
theorem Qh {w W:World} (h:Below w.heap.size w W):w.heap.size≤W.heap.size:=h.size
theorem Q0 {w W w2:World} (h:Below w.heap.size w W) (k:Below W.heap.size W w2):Below w.heap.size w w2:=W0 h h.size k
theorem Xj.nil (W:World) (k:IntKind):Xj W k none ([]:List Int).length []:=⟨rfl,by simp,fun h=>absurd h (Nat.lt_irrefl 0)⟩
theorem Xj.drewN {W:World} {k:IntKind} {A:Option Addr} {n:Nat} {xs:List Int} (h:Xj W k A n xs) (m:Nat):Xj (W.drewN m) k A n xs:=h
theorem Qx {w W:World} {g j:Nat} {v:Value} (h:Below w.heap.size w W) (hg:w.heap.size≤g):Below w.heap.size w (W.setCell ⟨g,j,none⟩ v):=h.setCell hg _
theorem add_block (a:Addr) (i:Nat):(a.add i).block=a.block:=by unfold Addr.add;split <;> rfl
theorem Xm.nil {α:Type} (enc:α→Value) (d:α) (W:World):Xm enc d W none ([]:List α).length []:=⟨rfl,by simp,fun h=>absurd h (Nat.lt_irrefl 0)⟩
theorem Xm.drewN {α:Type} {enc:α→Value} {d:α} {W:World} {A:Option Addr} {n:Nat} {xs:List α} (h:Xm enc d W A n xs) (m:Nat):Xm enc d (W.drewN m) A n xs:=h
theorem cell_far {W:World} {p a:Addr} (h:a.block≠p.block) (u:Value):(W.setCell p u).cell? a=W.cell? a:=by
  have:=Below.heap_setCell W p u a.block h
  simp[World.cell?,this]
theorem Qq {w:World} {g:Nat} {t:TypeId} {cs cs':Array Value} (h:w.heap[g]?=some (.cells cs t (0,0))) (i:Nat) (u:Value) (e:cs.setIfInBounds i u=cs'):(w.setCell ⟨g,i,none⟩ u).heap[g]?=some (.cells cs' t (0,0)):=e ▸ Yd h i u
theorem V5 {W:World} {base n c:Nat} {e:TypeId} {size g:Nat} {ad:Addr} {xs:List Value} (_:W.ownsRow base e size (.slice (some ad) n c) n xs) (hne:some g≠(Value.slice (some ad) n c).ownBlock):ad.block≠g:=by
  rintro rfl
  exact hne (by simp[Value.ownBlock])
theorem Qg {base:Nat} {w W:World} (h:Below base w W):Below base w W.drew:=h.drew
namespace Kd
section
variable {α β : Type} {d : Kd α} {d' : Kd β} {e e' base base' n : Nat} {ok ok' : Nat → Prop} {w W w1 W1 : World} {v u : Value} {xs : List α} {ys : List β} {A : Option Addr} {c : Nat}
theorem V5 {ad:Addr} {g:Nat} (hne:some g≠(Value.slice (some ad) n c).ownBlock):ad.block≠g:=by
  rintro rfl
  exact hne (by simp[Value.ownBlock])
end
section
variable {α : Type} {enc : α → Value} {h1 : ∀ x, (enc x).oneCell' = true} {w W : World} {A : Option Addr} {n g : Nat} {xs : List α}
end
section
variable {α : Type} {d : Kd α} {e base g : Nat} {ok : Nat → Prop} {w w1 : World} {v : Value} {xs : List α} {o : Obj}
theorem Yy (h:d.R e w base ok v xs) (a:Nat) (ha:w.heap.size≤a):d.R e w base (fun k=>ok k∧k≠a) v xs:=Qw (Xr h) (fun k hk=>⟨hk.1,by have:=hk.2.2.1;omega⟩)
theorem Kl (h:d.R e w1 w.heap.size ok v xs) (hb:w.heap[g]?=some o):d.R e w1 w.heap.size (fun k=>ok k∧k≠g) v xs:=Qw (Xr h) (fun k hk=>⟨hk.1,by have:=Xi hb;have:=hk.2.1;omega⟩)
theorem Ds (hb:w.heap[g]?=some o):∀ k,w.heap.size≤k→k≠g:=fun k hk=>by have:=Xi hb;omega
end
end Kd
section
variable {P : Program} {ops : Array Oper} {rest : List Oper} {o : Oper} {a : Act} {Q : Exit → Act → World → Prop}
theorem Zg {W:World} (hgd:o.guard=none) {N:Tmp} (_hd:o.dst=some N) {cs:Array Value} {t:TypeId}
    (hrun:(execOp a.eval o).run P W = .ok (.value (.pointer (some ⟨W.heap.size,0,none⟩))) (W.alloc (.cells cs t (0,0))))
    (h:∀ g,g=W.heap.size → ∀ w1,w1.heap[g]?=some (.cells cs t (0,0))→Below W.heap.size W w1→wpList P ops Q rest (a.put o.dst (.pointer (some ⟨g,0,none⟩))) w1):wpList P ops Q (o :: rest) a W:=
  Kd.K7 hgd hrun (h _ rfl _ (Li W _) (Qu (Below.refl _ _) _))
end
namespace Kd
section
variable {α : Type} {enc : α → Value} {h1 : ∀ x, (enc x).oneCell' = true} {e base g n cap : Nat} {ok : Nat → Prop} {W : World} {xs : List α}
end
end Kd
section
variable {P : Program} {ops : Array Oper} {rest : List Oper} {o : Oper} {a : Act} {Q : Exit → Act → World → Prop}
theorem Y3 {W w1:World} (hgd:o.guard=none) {t:TypeId} {p:Tmp} {v:Operand} (_ho:o.op = .store t (.tmp p) v) (hN:o.dst=none)
    (hrun:(execOp a.eval o).run P W = .ok .skip w1) (h:∀ w',w'=w1→wpList P ops Q rest a w'):wpList P ops Q (o :: rest) a W:=by
  refine wpList_plain hgd fun K hK=>?_
  unfold Oper.wp
  rw[hrun]
  show K (a.put o.dst undef) w1
  rw[hN]
  exact hK _ _ (h _ rfl)
end
namespace Kd
section
variable {α : Type} {enc : α → Value} {h1 : ∀ x, (enc x).oneCell' = true} {e base g n cap : Nat} {ok : Nat → Prop} {W : World} {xs : List α}
end
end Kd
section
variable {P : Program} {ops : Array Oper} {rest : List Oper} {o : Oper} {a : Act} {Q : Exit → Act → World → Prop} {W : World}
theorem Qf {N:Tmp} (_hN:o.dst=some N) (h:wpList P ops Q (o :: rest) a W):wpList P ops Q (o :: rest) a W:=h
theorem Jm {t:TypeId} {p:Tmp} {v:Operand} (_ho:o.op = .store t (.tmp p) v) (h:wpList P ops Q (o :: rest) a W):wpList P ops Q (o :: rest) a W:=h
end
section
variable {P : Program} {ops : Array Oper} {o : Oper} {a : Act} {Q : Exit → Act → World → Prop} {Kc : Act → World → Prop}
theorem Gx {W w1:World} {v:Value} (hw:Region.wanted o (yielded ops a.tmps)=true) (hrun:(execOp a.eval o).run P W = .ok (.value v) w1) (h:Kc (a.put o.dst v) w1):if Region.wanted o (yielded ops a.tmps)=true then Oper.wp P o a W Kc Q else Kc (a.put o.dst undef) W:=by
  rw[if_pos hw]
  unfold Oper.wp
  rw[hrun]
  exact h
theorem Z0 {W:World} (hw:Region.wanted o (yielded ops a.tmps)=true) {N:Tmp} (_hd:o.dst=some N) {cs:Array Value} {t:TypeId}
    (hrun:(execOp a.eval o).run P W = .ok (.value (.pointer (some ⟨W.heap.size,0,none⟩))) (W.alloc (.cells cs t (0,0))))
    (h:∀ g,g=W.heap.size → ∀ w1,w1.heap[g]?=some (.cells cs t (0,0))→Below W.heap.size W w1→Kc (a.put o.dst (.pointer (some ⟨g,0,none⟩))) w1):if Region.wanted o (yielded ops a.tmps)=true then Oper.wp P o a W Kc Q else Kc (a.put o.dst undef) W:=
  Gx hw hrun (h _ rfl _ (Li W _) (Qu (Below.refl _ _) _))
namespace Kd
variable {α : Type}
theorem Zp (d:Kd α) {w0 W:World} (base e:Nat) (hw:Region.wanted o (yielded ops a.tmps)=true) {N:Tmp} (_hd:o.dst=some N) {xs:List α} {inner:List Value} {ok okp:Nat→Prop}
    (hrun:(execOp a.eval o).run P W = .ok (.value (.slice (some ⟨W.heap.size,0,none⟩) xs.length xs.length)) (W.alloc (.cells inner.toArray e)))
    (hrep:Reps (d.M W base okp) d.sz xs inner) (hok:∀ k,okp k→ok k) (hfresh:ok W.heap.size) (HB:Below base w0 W) (hbase:base≤W.heap.size) (hm:xs.length≤9223372036854775807)
    (h:∀ v1 w1,d.R e w1 base ok v1 xs→Below base w0 w1→W.grownBy w1 none→(∃ b,v1.ownBlock=some b∧W.heap.size≤b)→Kc (a.put o.dst v1) w1):if Region.wanted o (yielded ops a.tmps)=true then Oper.wp P o a W Kc Q else Kc (a.put o.dst undef) W:=by
  refine Gx hw hrun (h _ _ ⟨fun k hk=>?_,inner, ?_, ?_⟩ (HB.alloc hbase _) (World.grownBy_alloc W _ none) ⟨W.heap.size,by simp[Value.ownBlock],Nat.le_refl _⟩)
  · have:W.heap.size=k:=by simpa[Value.ownBlock] using hk
    subst this
    exact hfresh
  · have O:=World.ownsRow_lit (base:=base) (e:=e) (size:=d.sz) W inner.toArray xs.length hbase (by simpa[maxLen] using hm) (by simpa using hrep.1)
    simpa using O
  · refine hrep.Jh (fun p c hp=>d.M_mono (fun k hk=>⟨hok k hk.1,fun he=>?_⟩) (Lq (d.M_bound hp) (Qu (Below.refl _ _) _)))
    have Y:k=W.heap.size:=by simpa[Value.ownBlock] using he
    have:=hk.2.2.1
    omega
theorem Zc (d:Kd α) {Rr:α→List Value→Prop} {w0 W:World} (base:Nat) (hw:Region.wanted o (yielded ops a.tmps)=true) (s x:Operand) (t e:TypeId) (z:Value) (bytes:Nat)
    (ho:o.op = .call {callee:=.builtin .append,args:=#[s,x],argTypes:=#[t,t]})
    (ht:P.underlying t=some (.slice e)) (hinfo:(P.info? e).map (fun i=>(i.zero,i.size,i.bytes))=some (some z,d.sz,bytes)) (hz:z.cells.size=d.sz) (B:0<d.sz) (Y:0<bytes)
    (v:Value) (xs ys:List α) (A:Option Addr) (m c:Nat) (ok okp:Nat→Prop) (hs:a.eval s=v) (hx:a.eval x = .slice A m c)
    (HO:d.R e W base ok v xs) (HR:Xa Rr d.sz W A m ys) (hKM:∀ x cs,Rr x cs→d.M W base okp x cs) (hokp:∀ k,okp k→ok k∧some k≠v.ownBlock) (hfresh:∀ k,W.heap.size≤k→ok k)
    (HB:Below base w0 W) (hbase:base≤W.heap.size) (hl:(xs.length+m) * bytes≤140737488355328)
    (h:∀ v1 w1,d.R e w1 base ok v1 (xs++ys)→Below base w0 w1→W.grownBy w1 v.ownBlock→(v1.ownBlock=v.ownBlock ∨ ∃ b,v1.ownBlock=some b∧W.heap.size≤b)→Kc (a.put o.dst v1) w1):
    if Region.wanted o (yielded ops a.tmps)=true then Oper.wp P o a W Kc Q else Kc (a.put o.dst undef) W:=by
  obtain⟨i0,hi,hzz⟩:=Option.map_eq_some_iff.1 hinfo
  simp only[Prod.mk.injEq] at hzz
  obtain⟨Z,J,γ⟩:=hzz
  have hm:ys.length=m:=HR.1
  have hlen:xs.length+m≤140737488355328:=Nat.le_trans (Nat.le_mul_of_pos_right _ Y) hl
  obtain⟨hok,inner,hown,hr⟩:=HO
  have hrun:∃ v1 w1,(Builtin.append_ #[t,t] o.type #[v,.slice A m c]).run P W = .ok v1 w1∧d.R e w1 base ok v1 (xs++ys)∧W.grownBy w1 v.ownBlock∧(v1.ownBlock=v.ownBlock ∨ ∃ b,v1.ownBlock=some b∧W.heap.size≤b):=by
    rcases A with _|ad
    · have X:m=0:=by
        rcases Nat.eq_zero_or_pos m with X|X
        · exact X
        · obtain⟨ad,h,_⟩:=HR.2.2 X
          cases h
      subst X
      obtain rfl:ys = []:=List.eq_nil_of_length_eq_zero hm
      refine⟨v,W, ?_,by rw[List.append_nil];exact⟨hok,inner,hown,hr⟩,World.grownBy.refl W _,.inl rfl⟩
      rcases hown.2 with⟨rfl,hn⟩|⟨g,cap,cur,rfl,_,_,hnc,_⟩
      · simp[Builtin.append_,run_underlying ht,sizeOf,typeInfo,hi,Builtin.lenOf,Builtin.firstCells]
      · simp[Builtin.append_,run_underlying ht,sizeOf,typeInfo,hi,Builtin.lenOf,Builtin.firstCells,hnc,storeCells]
    · obtain⟨news,hnr,hnc⟩:=Xa.Np HR
      have hnM:Reps (d.M W base okp) d.sz ys news:=hnr.Jh (fun p c hp=>hKM p c hp)
      have hone:∀ u ∈ news,u.oneCell'=true:=by
        intro u hu
        obtain⟨q,hq,rfl⟩:=List.mem_iff_getElem.1 hu
        have hql:q / d.sz<ys.length:=by
          rw[Nat.div_lt_iff_lt_mul B]
          rw[← hnM.1]
          exact hq
        have hc:=hnM.2 (q / d.sz) _ (List.getElem?_eq_getElem hql)
        refine d.K_one (d.K_of_M hc) _ ?_
        rw[List.mem_iff_getElem?]
        refine⟨q % d.sz, ?_⟩
        rw[List.getElem?_take,if_pos (Nat.mod_lt _ B),List.getElem?_drop,Nat.mul_comm,Nat.div_add_mod,List.getElem?_eq_getElem hq]
      obtain⟨v1,w1,hrun,O,hg,_,hat⟩:=run_append_own_at (P:=P) W base t o.type e i0 z d.sz bytes ht hi Z J γ hz B v xs.length inner hown ad m c news (by rw[hnM.1,hm]) hnc hone (by simp only[maxLen];omega) hl hbase
      have hat':v1.ownBlock=v.ownBlock ∨ ∃ b,v1.ownBlock=some b∧W.heap.size≤b:=by
        rcases hat with hat|hat
        · exact .inl hat
        · exact .inr ⟨_,hat,Nat.le_refl _⟩
      have hne:∀ k,some k≠v.ownBlock→k<W.heap.size→some k≠v1.ownBlock:=by
        intro k hk hlt
        rcases hat' with hat|⟨b,hb,hle⟩
        · rw[hat];exact hk
        · rw[hb]
          intro he
          injection he with he
          omega
      have step:∀ {q:α} {c:List Value} {o:Nat→Prop},d.M W base o q c→(∀ k,o k→ok k∧some k≠v.ownBlock)→d.M w1 base (fun k=>ok k∧some k≠v1.ownBlock) q c:=by
        intro q c o hq ho
        have h1:=d.M_move (w1:=w1) (fun k hk=>hg.block k hk.2.2.1 (ho k hk.1).2) (d.M_bound hq)
        exact d.M_mono (fun k hk=>⟨(ho k hk.1).1,hne k (ho k hk.1).2 hk.2.2.1⟩) h1
      refine⟨v1,w1,hrun,⟨fun k hk=>?_,inner++news,by rw[List.length_append,hm];exact O,Ju (hr.Jh (fun _ _ hq=>step hq (fun _ hk=>hk))) (hnM.Jh (fun _ _ hq=>step hq hokp))⟩,hg,hat'⟩
      rcases hat' with hat|⟨b,hb,hle⟩
      · exact hok k (hat ▸ hk)
      · rw[hb] at hk
        injection hk with hk
        exact hfresh k (by omega)
  obtain⟨v1,w1,cv,h1,hg,hat⟩:=hrun
  rw[if_pos hw]
  unfold Oper.wp execOp
  simp only[ho,resolve,invoke,builtin,Sem.run_bind,Sem.run_pure,Result.andThen_ok,List.map_toArray,List.map_cons,List.map_nil,hs,hx,cv]
  exact h v1 w1 h1 (HB.grown hg hbase (Yr hown)) hg hat
end Kd
end
section
variable {P : Program} {tmps : Array Value} {w : World}
end
namespace Kd
section
variable {P : Program} {α : Type}
end
section
variable {P : Program} {ops : Array Oper} {rest : List Oper} {o : Oper} {a : Act} {Q : Exit → Act → World → Prop} {Kc : Act → World → Prop} {α : Type}
end
end Kd
end Go.Proofs.YtmfffemidlhcpaaW.PrintWords
namespace Go.Proofs.YtmfffemidlhcpaaW.PrintLast
section
variable {P : Program} {ops : Array Oper} {Q : Exit → Act → World → Prop} {md : Region.Mode} {S : World → Prop} {ds : List Nat}
def Region.Yj (md:Region.Mode) (ops:Array Oper) (i:Nat):Nat→Nat→Bool
  |0,_=>false
  |fuel+1,d=>match ops[d]? with
    |some o=>o.after.any fun e=>Region.binds md e&&(e.on==i||Region.Yj md ops i fuel e.on)
    |none=>false
def Region.Kz (md:Region.Mode) (ops:Array Oper) (listed:Array Bool):Bool:=
  (List.range ops.size).all fun j=> !listed.getD j false||match ops[j]? with
    |some o=>o.after.all fun e=> !Region.binds md e||listed.getD e.on false
    |none=>true
def Region.Lf (md:Region.Mode) (ops:Array Oper) (listed:Array Bool) (ds:List Nat) (i:Nat):Bool:=
  ds.all fun d=>listed.getD d true||Region.Yj md ops i ops.size d
def Xo (md:Region.Mode) (ops:Array Oper) (listed:Array Bool):Prop:=
  ∀ j oj,ops[j]?=some oj→listed.getD j false=true → ∀ e ∈ oj.after,Region.binds md e=true→listed.getD e.on false=true
theorem Region.Ue {listed:Array Bool} (h:Region.Kz md ops listed=true):Xo md ops listed:=by
  intro j oj hj hl e he hb
  have hlt:j<ops.size:=(Array.getElem?_eq_some_iff.1 hj).1
  have h1:=List.all_eq_true.1 h j (List.mem_range.2 hlt)
  simp only[hl,hj,Bool.not_true,Bool.false_or] at h1
  have O:=Array.all_eq_true_iff_forall_mem.1 h1 e he
  simpa[hb] using O
theorem Xo.set {listed:Array Bool} {i:Nat} (h:Xo md ops listed) (hi:i ∈ Region.ready md ops listed):Xo md ops (listed.setIfInBounds i true):=by
  obtain⟨_,oi,hoi,hall⟩:=mem_ready.1 hi
  intro j oj hj hl e he hb
  by_cases hij:i=j
  · subst hij
    have:oj=oi:=Option.some.inj (hj.symm.trans hoi)
    subst this
    exact getD_set_true (hall e he hb)
  · rw[getD_set_ne false hij] at hl
    exact getD_set_true (h j oj hj hl e he hb)
theorem Region.Ks {listed:Array Bool} {i:Nat} (hc:Xo md ops listed):∀ (fuel d:Nat),Region.Yj md ops i fuel d=true→listed.getD d false=true→listed.getD i false=true
  |0,_,h,_=>by simp[Region.Yj] at h
  |fuel+1,d,h,hl=>by
    unfold Region.Yj at h
    cases ho:ops[d]? with
    |none=>rw[ho] at h;simp at h
    |some o=>
      rw[ho] at h
      obtain⟨e,he,h1⟩:=Array.any_eq_true'.1 h
      simp only[Bool.and_eq_true,Bool.or_eq_true,beq_iff_eq] at h1
      have hle:=hc d o ho hl e he h1.1
      rcases h1.2 with O|O
      · rw[← O];exact hle
      · exact Region.Ks hc fuel e.on O hle
theorem Region.Gf {listed:Array Bool} {i d fuel:Nat} (hc:Xo md ops listed) (hr:Region.Yj md ops i fuel d=true) (hun:listed.getD i true=false):d ∉ Region.ready md ops listed:=by
  intro hd
  obtain⟨_,o,ho,hall⟩:=mem_ready.1 hd
  have hi:listed.getD i false=true:=by
    cases fuel with
    |zero=>simp[Region.Yj] at hr
    |succ n=>
      unfold Region.Yj at hr
      rw[ho] at hr
      obtain⟨e,he,h1⟩:=Array.any_eq_true'.1 hr
      simp only[Bool.and_eq_true,Bool.or_eq_true,beq_iff_eq] at h1
      have hle:=hall e he h1.1
      rcases h1.2 with O|O
      · rw[← O];exact hle
      · exact Region.Ks hc n e.on O hle
  rcases Nat.lt_or_ge i listed.size with h'|h'
  · simp[h'] at hun hi
    rw[hun] at hi
    cases hi
  · simp[Array.getElem?_eq_none h'] at hun
def Q1 (P:Program) (md:Region.Mode) (ops:Array Oper) (Q:Exit→Act→World→Prop) (S:World→Prop) (ds:List Nat):Nat→Array Bool→Act→World→Prop
  |0,listed,a,w=>Region.ready md ops listed = []∧Q .normal a w
  |fuel+1,listed,a,w=>
    (Region.ready md ops listed = []→Q .normal a w) ∧
    ∀ i ∈ Region.ready md ops listed,wpOp P ops Q i (fun a' w'=>(i ∉ ds→S w→S w')∧Q1 P md ops Q S ds fuel (listed.setIfInBounds i true) a' w') a w
theorem J9:∀ (fuel:Nat) (listed:Array Bool) (a:Act) (w:World),Q1 P md ops Q S ds fuel listed a w→wpAny P md ops Q fuel listed a w
  |0,_,_,_,h=>h
  |fuel+1,_,_,_,h=>⟨h.1,fun i hi=>wpOp_mono (fun a' w' h'=>J9 fuel _ a' w' h'.2) (h.2 i hi)⟩
theorem Ge {i:Nat} {oi:Oper} {v:Value} (hi:ops[i]?=some oi) (hsel:∀ (j:Nat) (o:Oper) cs b,ops[j]?=some o→o.op ≠ .select cs b)
    (hQ:∀ c a w,Q (.panic c) (a.put oi.dst v) w→Q (.panic c) a w) (n:Nat):
    ∀ (fuel:Nat) (listed:Array Bool) (a:Act) (w:World),
      (∀ j oj,ops[j]?=some oj→j≠i→listed.getD j true=false→(∀ e ∈ oj.after,Region.binds md e=true→e.on≠i)→oi.apart ops oj=true) →
      Xo md ops listed→(∀ d ∈ ds,listed.getD d true=false→Region.Yj md ops i n d=true) →
      i ∈ Region.ready md ops listed→YieldsIf P ops S oi v a→S w →
      Q1 P md ops Q S ds fuel (listed.setIfInBounds i true) (a.put oi.dst v) w→Q1 P md ops Q S ds (fuel+1) listed a w:=by
  intro fuel
  induction fuel with
  |zero=>
    intro listed a w _ _ _ hr hy hS H
    refine⟨fun h=>(by rw[h] at hr;cases hr),fun j hj=>?_⟩
    by_cases hji:j=i
    · subst hji;exact hy.wpOp hi hS ⟨fun _ h=>h,H⟩
    · have:=ready_mono hj hji
      rw[H.1] at this
      cases this
  |succ fuel ih=>
    intro listed a w hfree hc hd hr hy hS H
    refine⟨fun h=>(by rw[h] at hr;cases hr),fun j hj=>?_⟩
    by_cases hji:j=i
    · subst hji;exact hy.wpOp hi hS ⟨fun _ h=>h,H⟩
    · have h1:=H.2 j (ready_mono hj hji)
      obtain⟨hjun,oj,hoj,hall⟩:=mem_ready.1 hj
      have hiun:=(mem_ready.1 hr).1
      have hnot:∀ e ∈ oj.after,Region.binds md e=true→e.on≠i:=fun e he hb heq=>by
        have h1:=hall e he hb
        rw[heq] at h1
        rcases Nat.lt_or_ge i listed.size with h'|h'
        · simp[h'] at hiun h1;rw[hiun] at h1;cases h1
        · simp[Array.getElem?_eq_none h'] at h1
      have hjd:j ∉ ds:=fun hm=>Region.Gf hc (hd j hm hjun) hiun hj
      have O:=wpOp_putIf hoj (hfree j oj hoj hji hjun hnot) (fun cs b=>hsel i oi cs b hi) (fun cs b=>hsel j oj cs b hoj) hQ hy h1
      have hfree':∀ k ok,ops[k]?=some ok→k≠i→(listed.setIfInBounds j true).getD k true=false →
          (∀ e ∈ ok.after,Region.binds md e=true→e.on≠i)→oi.apart ops ok=true:=fun k ok hk hki hun hno=>by
        refine hfree k ok hk hki ?_ hno
        by_cases hjk:j=k
        · subst hjk;exact hjun
        · rw[getD_set_ne true hjk] at hun;exact hun
      have hd':∀ d ∈ ds,(listed.setIfInBounds j true).getD d true=false→Region.Yj md ops i n d=true:=fun d hm hun=>by
        refine hd d hm ?_
        by_cases hjk:j=d
        · subst hjk;exact hjun
        · rw[getD_set_ne true hjk] at hun;exact hun
      refine wpOp_mono (fun a' w' Y=>⟨Y.2.1,ih (listed.setIfInBounds j true) a' w' hfree' (hc.set hj) hd' (ready_mono hr (Ne.symm hji)) Y.1 (Y.2.1 hjd hS) ?_⟩) O
      rw[Array.setIfInBounds_comm _ _ hji]
      exact Y.2.2
theorem Vb {i:Nat} {oi:Oper} {v:Value} (hi:ops[i]?=some oi) (hsel:∀ (j:Nat) (o:Oper) cs b,ops[j]?=some o→o.op ≠ .select cs b)
    (hQ:∀ c a w,Q (.panic c) (a.put oi.dst v) w→Q (.panic c) a w):
    ∀ (fuel:Nat) (listed:Array Bool) (a:Act) (w:World),
      (∀ j oj,ops[j]?=some oj→j≠i→listed.getD j true=false→(∀ e ∈ oj.after,Region.binds md e=true→e.on≠i)→oi.apart ops oj=true) →
      i ∈ Region.ready md ops listed→Yields P ops oi v a →
      Q1 P md ops Q S ds fuel (listed.setIfInBounds i true) (a.put oi.dst v) w→Q1 P md ops Q S ds (fuel+1) listed a w:=by
  intro fuel
  induction fuel with
  |zero=>
    intro listed a w _ hr hy H
    refine⟨fun h=>(by rw[h] at hr;cases hr),fun j hj=>?_⟩
    by_cases hji:j=i
    · subst hji;exact(hy.yieldsIf (S:=fun _=>True)).wpOp hi trivial ⟨fun _ h=>h,H⟩
    · have:=ready_mono hj hji
      rw[H.1] at this
      cases this
  |succ fuel ih=>
    intro listed a w hfree hr hy H
    refine⟨fun h=>(by rw[h] at hr;cases hr),fun j hj=>?_⟩
    by_cases hji:j=i
    · subst hji;exact(hy.yieldsIf (S:=fun _=>True)).wpOp hi trivial ⟨fun _ h=>h,H⟩
    · have h1:=H.2 j (ready_mono hj hji)
      obtain⟨hjun,oj,hoj,hall⟩:=mem_ready.1 hj
      have hiun:=(mem_ready.1 hr).1
      have hnot:∀ e ∈ oj.after,Region.binds md e=true→e.on≠i:=fun e he hb heq=>by
        have h1:=hall e he hb
        rw[heq] at h1
        rcases Nat.lt_or_ge i listed.size with h'|h'
        · simp[h'] at hiun h1;rw[hiun] at h1;cases h1
        · simp[Array.getElem?_eq_none h'] at h1
      have O:=wpOp_put hoj (hfree j oj hoj hji hjun hnot) (fun cs b=>hsel i oi cs b hi) (fun cs b=>hsel j oj cs b hoj) hQ hy h1
      have hfree':∀ k ok,ops[k]?=some ok→k≠i→(listed.setIfInBounds j true).getD k true=false →
          (∀ e ∈ ok.after,Region.binds md e=true→e.on≠i)→oi.apart ops ok=true:=fun k ok hk hki hun hno=>by
        refine hfree k ok hk hki ?_ hno
        by_cases hjk:j=k
        · subst hjk;exact hjun
        · rw[getD_set_ne true hjk] at hun;exact hun
      refine wpOp_mono (fun a' w' Y=>⟨Y.2.1,ih (listed.setIfInBounds j true) a' w' hfree' (ready_mono hr (Ne.symm hji)) Y.1 ?_⟩) O
      rw[Array.setIfInBounds_comm _ _ hji]
      exact Y.2.2
theorem Gj {i:Nat} {oi:Oper} {v:Value} {fuel:Nat} {listed:Array Bool} {a:Act} {w:World} (hi:ops[i]?=some oi)
    (hs:Region.noSelect ops=true) (hf:Region.free md ops listed i=true) (hr:(Region.ready md ops listed).contains i=true)
    (hc:Region.Kz md ops listed=true) (hl:Region.Lf md ops listed ds i=true)
    (hQ:∀ c a w,Q (.panic c) (a.put oi.dst v) w→Q (.panic c) a w) (hy:YieldsIf P ops S oi v a) (hS:S w)
    (h:Q1 P md ops Q S ds fuel (listed.setIfInBounds i true) (a.put oi.dst v) w):Q1 P md ops Q S ds (fuel+1) listed a w:=
  Ge hi (Region.noSelect_spec hs) hQ ops.size fuel listed a w (Region.free_spec hi hf) (Region.Ue hc)
    (fun d hm hun=>by have:=List.all_eq_true.1 hl d hm;rw[hun] at this;simpa using this) (by simpa using hr) hy hS h
theorem Vd {rs:List Nat} {fuel:Nat} {listed:Array Bool} {a:Act} {w:World} (hr:Region.ready md ops listed=rs) (hne:rs ≠ [])
    (h:∀ i ∈ rs,wpOp P ops Q i (fun a' w'=>(i ∉ ds→S w→S w')∧Q1 P md ops Q S ds fuel (listed.setIfInBounds i true) a' w') a w):Q1 P md ops Q S ds (fuel+1) listed a w:=
  ⟨fun X=>absurd (hr ▸ X) hne,hr ▸ h⟩
theorem Gk {listed:Array Bool} {a:Act} {w:World} (hr:Region.ready md ops listed = []) (h:Q .normal a w):
    ∀ fuel,Q1 P md ops Q S ds fuel listed a w
  |0=>⟨hr,h⟩
  |_+1=>⟨fun _=>h,by rw[hr];simp⟩
theorem Gi {id:Nat} {a:Act} {w:World} (hm:P.follows .mixedOrders=true)
    (h:Q1 P .any ops Q S ds ops.size (Array.replicate ops.size false) a {w with drawn:=w.drawn+1}):(Code.region id ops true).wp P Q a w:=
  wp_region_any hm (J9 _ _ _ _ h)
end
section
variable {P : Program} {ops : Array Oper} {Q : Exit → Act → World → Prop} {md : Region.Mode} {S : World → Prop} {ds : List Nat}
def Zm (P:Program) (md:Region.Mode) (ops:Array Oper) (Q:Exit→Act→World→Prop) (S:World→Prop) (ds:List Nat) (fuel:Nat) (listed:Array Bool) (a:Act) (w:World) (rs:List Nat):Prop:=
  ∀ i ∈ rs,wpOp P ops Q i (fun a' w'=>(i ∉ ds→S w→S w')∧Q1 P md ops Q S ds fuel (listed.setIfInBounds i true) a' w') a w
theorem Zm.nil {fuel:Nat} {listed:Array Bool} {a:Act} {w:World}:Zm P md ops Q S ds fuel listed a w []:=fun _ h=>by cases h
theorem Zm.cons {fuel:Nat} {listed:Array Bool} {a:Act} {w:World} {i:Nat} {o:Oper} {rs:List Nat} (ho:ops[i]?=some o) (hd:i ∉ ds)
    (h:∀ K':Act→World→Prop,Shut (∀ a w,S w→(S w→Q1 P md ops Q S ds fuel (listed.setIfInBounds i true) a w)→K' a w)→if Region.wanted o (yielded ops a.tmps)=true then Oper.wp P o a w K' Q else K' (a.put o.dst undef) w)
    (hs:Zm P md ops Q S ds fuel listed a w rs):Zm P md ops Q S ds fuel listed a w (i :: rs):=fun j hj=>by
  rcases List.mem_cons.1 hj with rfl|hj
  · exact wpOp_step ho (fun K' hK=>h K' (fun a w hS hW=>hK a w ⟨fun _ _=>hS,hW hS⟩))
  · exact hs j hj
theorem Zm.Ml {fuel:Nat} {listed:Array Bool} {a:Act} {w:World} {i:Nat} {o:Oper} {rs:List Nat} (ho:ops[i]?=some o) (hd:i ∈ ds)
    (h:∀ K':Act→World→Prop,Shut (∀ a w,Q1 P md ops Q S ds fuel (listed.setIfInBounds i true) a w→K' a w)→if Region.wanted o (yielded ops a.tmps)=true then Oper.wp P o a w K' Q else K' (a.put o.dst undef) w)
    (hs:Zm P md ops Q S ds fuel listed a w rs):Zm P md ops Q S ds fuel listed a w (i :: rs):=fun j hj=>by
  rcases List.mem_cons.1 hj with rfl|hj
  · exact wpOp_step ho (fun K' hK=>h K' (fun a w hW=>hK a w ⟨fun hn=>absurd hd hn,hW⟩))
  · exact hs j hj
theorem Xy {rs:List Nat} {fuel:Nat} {listed:Array Bool} {a:Act} {w:World} (hr:Region.ready md ops listed=rs) (hne:rs ≠ [])
    (h:Zm P md ops Q S ds fuel listed a w rs):Q1 P md ops Q S ds (fuel+1) listed a w:=Vd hr hne h
theorem Zh {id n:Nat} {a:Act} {w:World} (l:Array Bool) (hm:P.follows .mixedOrders=true) (hn:ops.size=n) (hl:Array.replicate n false=l) (hS:S w.drew)
    (h:S w.drew→Q1 P .any ops Q S ds n l a w.drew):(Code.region id ops true).wp P Q a w:=by
  subst hn
  subst hl
  exact Gi hm (h hS)
def takeB (md:Region.Mode) (ops:Array Oper) (ds:List Nat) (l l':Array Bool) (i:Nat):Bool:=
  Region.noSelect ops&&Region.free md ops l i&&(Region.ready md ops l).contains i&&Region.Kz md ops l&&Region.Lf md ops l ds i&&(l.setIfInBounds i true==l')
theorem Lb {i:Nat} {N:Option Tmp} {oi:Oper} {v:Value} {fuel:Nat} {l:Array Bool} {a:Act} {w:World} (l':Array Bool) (hi:ops[i]?=some oi) (hN:oi.dst=N) (hc:takeB md ops ds l l' i=true)
    (hQ:∀ c a w,Q (.panic c) (a.put oi.dst v) w→Q (.panic c) a w) (hy:YieldsIf P ops S oi v a) (hS:S w) {a':Act} (ha:a.put N v=a')
    (h:Q1 P md ops Q S ds fuel l' a' w):Q1 P md ops Q S ds (fuel+1) l a w:=by
  subst ha
  subst hN
  simp only[takeB,Bool.and_eq_true,beq_iff_eq] at hc
  obtain⟨⟨⟨⟨⟨h1,O⟩,Y⟩,h4⟩,J⟩,Z⟩:=hc
  subst Z
  exact Gj hi h1 O Y h4 J hQ hy hS h
def N1 (md:Region.Mode) (ops:Array Oper) (l l':Array Bool) (i:Nat):Bool:=
  Region.noSelect ops&&Region.free md ops l i&&(Region.ready md ops l).contains i&&(l.setIfInBounds i true==l')
theorem Vn {i:Nat} {N:Option Tmp} {oi:Oper} {v:Value} {fuel:Nat} {l:Array Bool} {a:Act} {w:World} (l':Array Bool) (hi:ops[i]?=some oi) (hN:oi.dst=N) (hc:N1 md ops l l' i=true)
    (hQ:∀ c a w,Q (.panic c) (a.put oi.dst v) w→Q (.panic c) a w) (hy:Yields P ops oi v a) {a':Act} (ha:a.put N v=a')
    (h:Q1 P md ops Q S ds fuel l' a' w):Q1 P md ops Q S ds (fuel+1) l a w:=by
  subst ha
  subst hN
  simp only[N1,Bool.and_eq_true,beq_iff_eq] at hc
  obtain⟨⟨⟨h1,O⟩,Y⟩,Z⟩:=hc
  subst Z
  exact Vb hi (Region.noSelect_spec h1) hQ fuel l a w (Region.free_spec hi O) (by simpa using Y) hy h
def K3 (md:Region.Mode) (ops:Array Oper) (l l':Array Bool) (i:Nat):Bool:=(Region.ready md ops l == [i])&&(l.setIfInBounds i true==l')
theorem Vg {i:Nat} {N:Option Tmp} {oi:Oper} {fuel:Nat} {l:Array Bool} {a:Act} {w:World} (l':Array Bool) (hi:ops[i]?=some oi) (hN:oi.dst=N) (hc:K3 md ops l l' i=true) (hd:i ∉ ds)
    (h:∀ K:Act→World→Prop,Shut (∀ a' w',S w'→(S w'→Q1 P md ops Q S ds fuel l' a' w')→K a' w')→if Region.wanted oi (yielded ops a.tmps)=true then Oper.wp P oi a w K Q else K (a.put N undef) w):
    Q1 P md ops Q S ds (fuel+1) l a w:=by
  subst hN
  simp only[K3,Bool.and_eq_true,beq_iff_eq] at hc
  obtain⟨h1,O⟩:=hc
  subst O
  exact Xy h1 (by simp) (Zm.cons hi hd (fun K hK=>h K hK) Zm.nil)
theorem last_ {i:Nat} {N:Option Tmp} {oi:Oper} {fuel:Nat} {l:Array Bool} {a:Act} {w:World} (l':Array Bool) (hi:ops[i]?=some oi) (hN:oi.dst=N) (hc:K3 md ops l l' i=true) (hd:i ∈ ds)
    (h:∀ K:Act→World→Prop,Shut (∀ a' w',Q1 P md ops Q S ds fuel l' a' w'→K a' w')→if Region.wanted oi (yielded ops a.tmps)=true then Oper.wp P oi a w K Q else K (a.put N undef) w):
    Q1 P md ops Q S ds (fuel+1) l a w:=by
  subst hN
  simp only[K3,Bool.and_eq_true,beq_iff_eq] at hc
  obtain⟨h1,O⟩:=hc
  subst O
  exact Xy h1 (by simp) (Zm.Ml hi hd (fun K hK=>h K hK) Zm.nil)
theorem Z2 {l:Array Bool} {a:Act} {w:World} {n:Nat} (hr:(Region.ready md ops l == [])=true) (h:Q .normal a w):Q1 P md ops Q S ds n l a w:=Gk (by simpa using hr) h n
theorem J8 {i j:Nat} {Ni Nj:Option Tmp} {oi oj:Oper} {fuel:Nat} {l:Array Bool} {a:Act} {w:World} (li lj:Array Bool) (hi:ops[i]?=some oi) (hj:ops[j]?=some oj) (hNi:oi.dst=Ni) (hNj:oj.dst=Nj)
    (hc:(Region.ready md ops l == [i,j]&&l.setIfInBounds i true==li&&l.setIfInBounds j true==lj)=true) (hdi:i ∉ ds) (hdj:j ∉ ds)
    (h1:∀ K:Act→World→Prop,Shut (∀ a' w',S w'→(S w'→Q1 P md ops Q S ds fuel li a' w')→K a' w')→if Region.wanted oi (yielded ops a.tmps)=true then Oper.wp P oi a w K Q else K (a.put Ni undef) w)
    (O:∀ K:Act→World→Prop,Shut (∀ a' w',S w'→(S w'→Q1 P md ops Q S ds fuel lj a' w')→K a' w')→if Region.wanted oj (yielded ops a.tmps)=true then Oper.wp P oj a w K Q else K (a.put Nj undef) w):
    Q1 P md ops Q S ds (fuel+1) l a w:=by
  subst hNi
  subst hNj
  simp only[Bool.and_eq_true,beq_iff_eq] at hc
  obtain⟨⟨Y,h4⟩,J⟩:=hc
  subst h4
  subst J
  exact Xy Y (by simp) (Zm.cons hi hdi (fun K hK=>h1 K hK) (Zm.cons hj hdj (fun K hK=>O K hK) Zm.nil))
theorem Mx {i j k:Nat} {Ni Nj Nk:Option Tmp} {oi oj ok:Oper} {fuel:Nat} {l:Array Bool} {a:Act} {w:World} (li lj lk:Array Bool) (hi:ops[i]?=some oi) (hj:ops[j]?=some oj) (hk:ops[k]?=some ok) (hNi:oi.dst=Ni) (hNj:oj.dst=Nj) (hNk:ok.dst=Nk)
    (hc:(Region.ready md ops l == [i,j,k]&&l.setIfInBounds i true==li&&l.setIfInBounds j true==lj&&l.setIfInBounds k true==lk)=true) (hdi:i ∉ ds) (hdj:j ∉ ds) (hdk:k ∉ ds)
    (h1:∀ K:Act→World→Prop,Shut (∀ a' w',S w'→(S w'→Q1 P md ops Q S ds fuel li a' w')→K a' w')→if Region.wanted oi (yielded ops a.tmps)=true then Oper.wp P oi a w K Q else K (a.put Ni undef) w)
    (O:∀ K:Act→World→Prop,Shut (∀ a' w',S w'→(S w'→Q1 P md ops Q S ds fuel lj a' w')→K a' w')→if Region.wanted oj (yielded ops a.tmps)=true then Oper.wp P oj a w K Q else K (a.put Nj undef) w)
    (Y:∀ K:Act→World→Prop,Shut (∀ a' w',S w'→(S w'→Q1 P md ops Q S ds fuel lk a' w')→K a' w')→if Region.wanted ok (yielded ops a.tmps)=true then Oper.wp P ok a w K Q else K (a.put Nk undef) w):
    Q1 P md ops Q S ds (fuel+1) l a w:=by
  subst hNi
  subst hNj
  subst hNk
  simp only[Bool.and_eq_true,beq_iff_eq] at hc
  obtain⟨⟨⟨h4,J⟩,Z⟩,X⟩:=hc
  subst J
  subst Z
  subst X
  exact Xy h4 (by simp) (Zm.cons hi hdi (fun K hK=>h1 K hK) (Zm.cons hj hdj (fun K hK=>O K hK) (Zm.cons hk hdk (fun K hK=>Y K hK) Zm.nil)))
def Q6:Act→List (Tmp×Value)→Act
  |a,[]=>a
  |a,(n,v) :: r=>Q6 (a.put (some n) v) r
theorem X7 {σ:Type} {fuel:Nat} {l:Array Bool} {a:Act} {w:World} (fuel':Nat) (l':Array Bool) (ns:σ→List (Tmp×Value)) (F:σ→World→Prop)
    (hcont:∀ s w',F s w'→Q1 P md ops Q S ds fuel' l' (Q6 a (ns s)) w')
    (h:(∀ s w',F s w'→Q1 P md ops Q S ds fuel' l' (Q6 a (ns s)) w')→Q1 P md ops Q S ds fuel l a w):Q1 P md ops Q S ds fuel l a w:=h hcont
theorem Ze {fuel:Nat} {l:Array Bool} {a a':Act} {w:World} (ha:a=a') (h:Q1 P md ops Q S ds fuel l a' w):Q1 P md ops Q S ds fuel l a w:=by
  subst ha
  exact h
theorem Di {oi:Oper} {N:Option Tmp} {a:Act} {w:World} {K:Act→World→Prop} (f:FuncId) (args:Array Value) (hw:Region.wanted oi (yielded ops a.tmps)=true) (hN:oi.dst=N) (hrun:(execOp a.eval oi).run P w = .ok (.enter f args) w)
    (h:Calls P f args w fun e w'=>∃ v,e = .returned v∧K (a.put N v) w'):if Region.wanted oi (yielded ops a.tmps)=true then Oper.wp P oi a w K Q else K (a.put N undef) w:=by
  rw[if_pos hw]
  subst hN
  unfold Oper.wp
  rw[hrun,Oper.upon_enter]
  refine h.mono fun e w'' hh=>?_
  obtain⟨v,rfl,hk⟩:=hh
  exact hk
theorem V8 {f:FuncId} {fn:Func} (hf:P.funcs[f]?=some fn) (hname:(fn.name == "runtime.NumGoroutine")=false) (hb:fn.body.isSome=true) (args:Array Value) (w:World):(callFunc f args).run P w = .ok (.enter f args) w:=by
  have h1:fn.name ≠ "runtime.NumGoroutine" :=by simpa using hname
  obtain⟨c,hc⟩:=Option.isSome_iff_exists.1 hb
  simp[callFunc,hf,h1,hc]
theorem Q9 {oi:Oper} {N:Option Tmp} {a:Act} {w:World} {K:Act→World→Prop} {f:FuncId} {fn:Func} {as:Array Operand} {ts:Array TypeId} (hf:P.funcs[f]?=some fn) (hname:(fn.name == "runtime.NumGoroutine")=false) (hb:fn.body.isSome=true) (args:Array Value)
    (hw:Region.wanted oi (yielded ops a.tmps)=true) (hN:oi.dst=N) (hop:oi.op = .call {callee:=.value (.func f),args:=as,argTypes:=ts}) (hargs:as.map a.eval=args)
    (h:Calls P f args w fun e w'=>∃ v,e = .returned v∧K (a.put N v) w'):if Region.wanted oi (yielded ops a.tmps)=true then Oper.wp P oi a w K Q else K (a.put N undef) w:=by
  refine Di f args hw hN ?_ h
  have he:=V8 hf hname hb args w
  unfold execOp
  simp[hop,resolve,Deferred.ofValue,invoke,Act.eval,hargs,he]
theorem Q4 {rest:List Oper} {oi:Oper} {a:Act} {w:World} (N:Option Tmp) (hd:oi.dst=N) (hg:oi.guard=none) {f:FuncId} {fn:Func} {as:Array Operand} {ts:Array TypeId} (hf:P.funcs[f]?=some fn) (hname:(fn.name == "runtime.NumGoroutine")=false) (hb:fn.body.isSome=true) (args:Array Value)
    (hop:oi.op = .call {callee:=.value (.func f),args:=as,argTypes:=ts}) (hargs:as.map a.eval=args)
    (h:Calls P f args w fun e w'=>∃ v,e = .returned v∧wpList P ops Q rest (a.put N v) w'):wpList P ops Q (oi :: rest) a w:=by
  refine wpList_plain hg fun K hK=>?_
  have he:=V8 hf hname hb args w
  have hrun:(execOp a.eval oi).run P w = .ok (.enter f args) w:=by
    unfold execOp
    simp[hop,resolve,Deferred.ofValue,invoke,Act.eval,hargs,he]
  unfold Oper.wp
  rw[hrun,Oper.upon_enter]
  refine h.mono fun e w'' hh=>?_
  obtain⟨v,rfl,hk⟩:=hh
  subst hd
  exact hK _ _ hk
theorem Kq {oi:Oper} {a:Act} {w w1:World} {K:Act→World→Prop} (hw:Region.wanted oi (yielded ops a.tmps)=true) (hN:oi.dst=none) (hrun:(execOp a.eval oi).run P w = .ok .skip w1)
    (h:K a w1):if Region.wanted oi (yielded ops a.tmps)=true then Oper.wp P oi a w K Q else K (a.put none undef) w:=by
  rw[if_pos hw]
  unfold Oper.wp
  rw[hrun]
  show K (a.put oi.dst undef) w1
  rw[hN]
  exact h
theorem Xe (n:Int):IntKind.i64.wrap n=Go.RowKit.wrap64 n:=by unfold Go.RowKit.wrap64;exact IntKind.wrap_i64 n
theorem Xh (n:Int):IntKind.i32.wrap n=Go.RowKit.wrap32 n:=by unfold Go.RowKit.wrap32;exact IntKind.wrap_i32 n
end
end Go.Proofs.YtmfffemidlhcpaaW.PrintLast
namespace Go.Proofs.YtmfffemidlhcpaaW.PrintLast
open Go.Proofs.YtmfffemidlhcpaaW.PrintWords (Aside0)
def J4 (md:Region.Mode) (o:Oper):List Nat:=(o.after.toList.filter (fun e=>Region.binds md e)).map (fun e=>e.on)
def Uf (md:Region.Mode) (ops:Array Oper) (i:Nat) (oi:Oper):List Nat:=(List.range ops.size).filter fun j=> !(j==i)&&match ops[j]? with
  |some oj=> !(oj.after.any (fun e=>Region.binds md e&&e.on==i)||oi.apart ops oj)
  |none=>false
def rtab (md:Region.Mode) (ops:Array Oper):Bool×List (List Nat×List Nat):=(Region.noSelect ops,(List.range ops.size).map fun i=>match ops[i]? with
  |some o=>(J4 md o,Uf md ops i o)
  |none=>([],[]))
def Y5 (T:List (List Nat×List Nat)) (l:List Bool) (i:Nat):Bool:= !l.getD i true&&match T[i]? with
  |some r=>r.1.all (fun j=>l.getD j false)
  |none=>false
def Jv (T:List (List Nat×List Nat)) (l:List Bool):List Nat:=(List.range T.length).filter (Y5 T l)
def Wa (T:List (List Nat×List Nat)) (l:List Bool) (i:Nat):Bool:=match T[i]? with
  |some r=>r.2.all (fun j=>l.getD j true)
  |none=>false
def Gg (T:List (List Nat×List Nat)) (l:List Bool):Bool:=(List.range T.length).all fun j=> !l.getD j false||match T[j]? with
  |some r=>r.1.all (fun k=>l.getD k false)
  |none=>true
def K4 (T:List (List Nat×List Nat)) (i:Nat):Nat→Nat→Bool
  |0,_=>false
  |fuel+1,d=>match T[d]? with
    |some r=>r.1.any fun j=>j==i||K4 T i fuel j
    |none=>false
def Le (T:List (List Nat×List Nat)) (l:List Bool) (ds:List Nat) (i:Nat):Bool:=ds.all fun d=>l.getD d true||K4 T i T.length d
section
variable {md : Region.Mode} {ops : Array Oper} {T : Bool × List (List Nat × List Nat)} {l l' li lj lk : Array Bool} {ds : List Nat} {i j k : Nat}
theorem gd (l:Array Bool) (j:Nat) (b:Bool):l.getD j b=l.toList.getD j b:=by simp[Array.getD_eq_getD_getElem?,List.getD_eq_getElem?_getD]
theorem Vp (o:Oper) (p:Nat→Bool):o.after.all (fun e=> !Region.binds md e||p e.on)=(J4 md o).all p:=by
  unfold J4
  rw[← Array.all_toList]
  induction o.after.toList with
  |nil=>rfl
  |cons e r ih=>
    rw[List.all_cons,ih,List.filter_cons]
    cases h:Region.binds md e <;> simp
theorem Mc (o:Oper) (p:Nat→Bool):o.after.any (fun e=>Region.binds md e&&p e.on)=(J4 md o).any p:=by
  unfold J4
  rw[← Array.any_toList]
  induction o.after.toList with
  |nil=>rfl
  |cons e r ih=>
    rw[List.any_cons,ih,List.filter_cons]
    cases h:Region.binds md e <;> simp
theorem Y4:(rtab md ops).2.length=ops.size:=by simp[rtab]
theorem J1 {o:Oper} (h:ops[i]?=some o):(rtab md ops).2[i]?=some (J4 md o,Uf md ops i o):=by
  have hi:=(Array.getElem?_eq_some_iff.1 h).1
  unfold rtab
  rw[List.getElem?_map,List.getElem?_range hi,Option.map_some,h]
theorem J2 (h:ops[i]?=none):(rtab md ops).2[i]?=none:=by
  have hi:ops.size≤i:=Array.getElem?_eq_none_iff.1 h
  exact List.getElem?_eq_none (by rw[Y4];exact hi)
theorem Wn:Y5 (rtab md ops).2 l.toList i=(!l.getD i true&&((ops[i]?).map (·.after.all fun e=> !Region.binds md e||l.getD e.on false)).getD false):=by
  unfold Y5
  rw[gd]
  cases h:ops[i]? with
  |none=>rw[J2 h];rfl
  |some o=>
    rw[J1 h]
    simp only[Option.map_some,Option.getD_some]
    rw[← Vp]
    simp only[gd]
theorem ready_eq:Region.ready md ops l=Jv (rtab md ops).2 l.toList:=by
  unfold Region.ready Jv
  rw[Y4]
  refine List.filter_congr (fun i _=>?_)
  rw[Wn]
theorem free_eq:Region.free md ops l i=Wa (rtab md ops).2 l.toList i:=by
  unfold Region.free Wa
  cases h:ops[i]? with
  |none=>rw[J2 h]
  |some oi=>
    rw[J1 h]
    simp only[Uf]
    rw[List.all_filter]
    congr 1
    funext j
    rw[gd]
    cases hj:ops[j]? with
    |none=>cases(j==i) <;> cases(l.toList.getD j true) <;> simp
    |some oj=>
      cases(j==i) <;> cases(l.toList.getD j true) <;> cases(oj.after.any (fun e=>Region.binds md e&&e.on==i)||oi.apart ops oj) <;> simp_all
theorem Mm:Region.Kz md ops l=Gg (rtab md ops).2 l.toList:=by
  unfold Region.Kz Gg
  rw[Y4]
  congr 1
  funext j
  rw[gd]
  cases h:ops[j]? with
  |none=>rw[J2 h]
  |some o=>
    rw[J1 h]
    simp only
    rw[← Vp]
    simp only[gd]
theorem U3:∀ (fuel d:Nat),Region.Yj md ops i fuel d=K4 (rtab md ops).2 i fuel d
  |0,_=>rfl
  |fuel+1,d=>by
    unfold Region.Yj K4
    cases h:ops[d]? with
    |none=>rw[J2 h]
    |some o=>
      rw[J1 h]
      simp only
      rw[← Mc]
      congr 1
      funext e
      rw[U3 fuel]
theorem Es:Region.Lf md ops l ds i=Le (rtab md ops).2 l.toList ds i:=by
  unfold Region.Lf Le
  rw[Y4]
  congr 1
  funext d
  rw[gd,U3]
theorem Gc (h:Y5 T.2 l.toList i=true) (hT:rtab md ops=T):(Region.ready md ops l).contains i=true:=by
  subst hT
  rw[ready_eq]
  unfold Jv
  rw[List.contains_iff_mem,List.mem_filter,List.mem_range]
  refine⟨?_,h⟩
  unfold Y5 at h
  rw[Bool.and_eq_true] at h
  cases hq:(rtab md ops).2[i]? with
  |none=>rw[hq] at h;simp at h
  |some r=>exact(List.getElem?_eq_some_iff.1 hq).1
theorem Jt (h:(l.toList.set i true==l'.toList)=true):(l.setIfInBounds i true==l')=true:=by
  rw[beq_iff_eq] at h ⊢
  apply Array.ext'
  rw[Array.toList_setIfInBounds]
  exact h
def E4 (T:Bool×List (List Nat×List Nat)) (l l':List Bool) (i:Nat):Bool:=T.1&&Wa T.2 l i&&Y5 T.2 l i&&(l.set i true==l')
theorem N0 (hT:rtab md ops=T) (h:E4 T l.toList l'.toList i=true):N1 md ops l l' i=true:=by
  simp only[E4,Bool.and_eq_true] at h
  obtain⟨⟨⟨h1,O⟩,Y⟩,h4⟩:=h
  have J:=Gc Y hT
  have Z:=Jt h4
  subst hT
  simp only[N1,Bool.and_eq_true]
  exact⟨⟨⟨h1,by rw[free_eq];exact O⟩,J⟩,Z⟩
def M1 (T:Bool×List (List Nat×List Nat)) (ds:List Nat) (l l':List Bool) (i:Nat):Bool:=T.1&&Wa T.2 l i&&Y5 T.2 l i&&Gg T.2 l&&Le T.2 l ds i&&(l.set i true==l')
theorem N9 (hT:rtab md ops=T) (h:M1 T ds l.toList l'.toList i=true):takeB md ops ds l l' i=true:=by
  simp only[M1,Bool.and_eq_true] at h
  obtain⟨⟨⟨⟨⟨h1,O⟩,Y⟩,h4⟩,J⟩,Z⟩:=h
  have X:=Gc Y hT
  have h8:=Jt Z
  subst hT
  simp only[takeB,Bool.and_eq_true]
  exact⟨⟨⟨⟨⟨h1,by rw[free_eq];exact O⟩,X⟩,by rw[Mm];exact h4⟩,by rw[Es];exact J⟩,h8⟩
theorem M9 (hT:rtab md ops=T) (h:(Jv T.2 l.toList == [i]&&l.toList.set i true==l'.toList)=true):K3 md ops l l' i=true:=by
  simp only[Bool.and_eq_true] at h
  obtain⟨h1,O⟩:=h
  subst hT
  simp only[K3,Bool.and_eq_true]
  exact⟨by rw[ready_eq];exact h1,Jt O⟩
theorem Xt (hT:rtab md ops=T) (h:(Jv T.2 l.toList == [i,j]&&l.toList.set i true==li.toList&&l.toList.set j true==lj.toList)=true):(Region.ready md ops l == [i,j]&&l.setIfInBounds i true==li&&l.setIfInBounds j true==lj)=true:=by
  simp only[Bool.and_eq_true] at h ⊢
  obtain⟨⟨h1,O⟩,Y⟩:=h
  subst hT
  exact⟨⟨by rw[ready_eq];exact h1,Jt O⟩,Jt Y⟩
theorem Up (hT:rtab md ops=T) (h:(Jv T.2 l.toList == [i,j,k]&&l.toList.set i true==li.toList&&l.toList.set j true==lj.toList&&l.toList.set k true==lk.toList)=true):
    (Region.ready md ops l == [i,j,k]&&l.setIfInBounds i true==li&&l.setIfInBounds j true==lj&&l.setIfInBounds k true==lk)=true:=by
  simp only[Bool.and_eq_true] at h ⊢
  obtain⟨⟨⟨h1,O⟩,Y⟩,h4⟩:=h
  subst hT
  exact⟨⟨⟨by rw[ready_eq];exact h1,Jt O⟩,Jt Y⟩,Jt h4⟩
theorem Zf (hT:rtab md ops=T) (h:(Jv T.2 l.toList == [])=true):(Region.ready md ops l == [])=true:=by
  subst hT
  rw[ready_eq]
  exact h
def upM (B:List Nat) (d:Nat):List Nat→Nat
  | []=>0
  |n :: r=>(2 ^ n ||| (if n<d then B.getD n 0 else 0)) ||| upM B d r
def Zq (T:List (List Nat×List Nat)) (B:List Nat):Bool:=(List.range T.length).all fun d=>match T[d]? with
  |some r=>(B.getD d 0 ||| upM B d r.1)==upM B d r.1
  |none=>false
theorem La {B:List Nat} {d i:Nat}:∀ {ns:List Nat},(upM B d ns).testBit i=true → ∃ n ∈ ns,n=i∨(n<d∧(B.getD n 0).testBit i=true)
  | [],h=>by simp[upM] at h
  |n :: r,h=>by
    unfold upM at h
    rw[Nat.testBit_or,Nat.testBit_or,Bool.or_eq_true,Bool.or_eq_true] at h
    rcases h with(h|h)|h
    · rw[Nat.testBit_two_pow] at h
      exact⟨n,List.mem_cons_self,.inl (by simpa using h)⟩
    · by_cases hn:n<d
      · rw[if_pos hn] at h
        exact⟨n,List.mem_cons_self,.inr ⟨hn,h⟩⟩
      · rw[if_neg hn] at h
        simp at h
    · obtain⟨m,hm,O⟩:=La h
      exact⟨m,List.mem_cons_of_mem _ hm,O⟩
theorem Vm {T:List (List Nat×List Nat)} {B:List Nat} (hB:Zq T B=true):∀ (fuel d:Nat),d<fuel→d<T.length→(B.getD d 0).testBit i=true→K4 T i fuel d=true
  |0,d,h,_,_=>by omega
  |fuel+1,d,h,hd,hb=>by
    have h1:=List.all_eq_true.1 hB d (List.mem_range.2 hd)
    cases hr:T[d]? with
    |none=>rw[hr] at h1;simp at h1
    |some r=>
      rw[hr] at h1
      simp only[beq_iff_eq] at h1
      have O:(upM B d r.1).testBit i=true:=by rw[← h1,Nat.testBit_or,hb,Bool.true_or]
      obtain⟨n,hn,Y⟩:=La O
      unfold K4
      rw[hr]
      simp only
      rw[List.any_eq_true]
      refine⟨n,hn, ?_⟩
      rcases Y with rfl|⟨h4,J⟩
      · simp
      · rw[Vm hB fuel n (by omega) (by omega) J,Bool.or_true]
def Dg (T:List (List Nat×List Nat)) (B:List Nat) (l:List Bool) (ds:List Nat) (i:Nat):Bool:=ds.all fun d=>l.getD d true||(decide (d<T.length)&&(B.getD d 0).testBit i)
def M0 (T:Bool×List (List Nat×List Nat)) (B:List Nat) (ds:List Nat) (l l':List Bool) (i:Nat):Bool:=T.1&&Wa T.2 l i&&Y5 T.2 l i&&Gg T.2 l&&Dg T.2 B l ds i&&(l.set i true==l')
theorem Mz {B:List Nat} (hT:rtab md ops=T) (hB:Zq T.2 B=true) (h:M0 T B ds l.toList l'.toList i=true):takeB md ops ds l l' i=true:=by
  refine N9 hT ?_
  simp only[M0,M1,Bool.and_eq_true] at h ⊢
  obtain⟨⟨⟨⟨⟨h1,O⟩,Y⟩,h4⟩,J⟩,Z⟩:=h
  refine⟨⟨⟨⟨⟨h1,O⟩,Y⟩,h4⟩, ?_⟩,Z⟩
  unfold Dg at J
  unfold Le
  rw[List.all_eq_true] at J ⊢
  intro d hd
  have X:=J d hd
  rw[Bool.or_eq_true,Bool.and_eq_true,decide_eq_true_eq] at X
  rcases X with X|⟨h8,h9⟩
  · rw[X,Bool.true_or]
  · rw[Vm hB _ d h8 h8 h9,Bool.or_true]
theorem Q8 {P:Program} {Q:Exit→Act→World→Prop} {S:World→Prop} {n:Nat} {a:Act} {w:World} {B:List Nat} (hT:rtab md ops=T) (hB:Zq T.2 B=true) (h:Aside0 (rtab md ops=T)→Aside0 (Zq T.2 B=true)→Q1 P md ops Q S ds n l a w):Q1 P md ops Q S ds n l a w:=h ⟨hT⟩ ⟨hB⟩
end
def Ka:Code→Nat→Option (Array Oper)
  | .region id ops _,k=>if id==k then some ops else none
  | .seq a b,k=>match Ka a k with
    |some o=>some o
    |none=>Ka b k
  | .cond _ a b,k=>match Ka a k with
    |some o=>some o
    |none=>Ka b k
  | .block _ c,k=>Ka c k
  | .loop c,k=>Ka c k
  | .scope c,k=>Ka c k
  | .rangeFunc _ _ a b,k=>match Ka a k with
    |some o=>some o
    |none=>Ka b k
  |_,_=>none
def opsOf (f:Func) (k:Nat):Array Oper:=((f.body.bind fun c=>Ka c k)).getD #[]
end Go.Proofs.YtmfffemidlhcpaaW.PrintLast
namespace Go.Proofs.YtmfffemidlhcpaaW.PrintWords
open Go.RowKit
namespace Kd
def tag {α:Type} (f:Nat→Nat) (d:Kd α):Kd (α×Nat) where
  sz:=d.sz
  E:=d.E
  K:=fun w x cs=>d.K w x.1 cs
  M:=fun w base ok x cs=>d.M w base (fun k=>ok k∧f k=x.2) x.1 cs
  K_len:=fun h=>d.K_len h
  K_one:=fun h=>d.K_one h
  K_below:=fun hb h=>d.K_below hb h
  K_of_M:=fun h=>d.K_of_M h
  M_mono:=fun hok h=>d.M_mono (fun k hk=>⟨hok k hk.1,hk.2⟩) h
  M_bound:=fun h=>d.M_mono (fun _ hk=>⟨⟨hk.1.1,hk.2⟩,hk.1.2⟩) (d.M_bound h)
  M_move:=fun hm h=>d.M_move (fun k hk=>hm k hk.1) h
  M_lower:=fun hb h=>d.M_lower hb h
def raw (sz:Nat):Kd (List Value) where
  sz:=sz
  E:=[]
  K:=fun _ x cs=>cs=x∧cs.length=sz ∧ ∀ u ∈ cs,u.oneCell'=true
  M:=fun _ _ _ x cs=>cs=x∧cs.length=sz ∧ ∀ u ∈ cs,u.oneCell'=true
  K_len:=fun h=>h.2.1
  K_one:=fun h=>h.2.2
  K_below:=fun _ h=>h
  K_of_M:=fun h=>h
  M_mono:=fun _ h=>h
  M_bound:=fun h=>h
  M_move:=fun _ h=>h
  M_lower:=fun _ h=>h
def S {α:Type} (d:Kd α) (e:Nat) (w:World) (base:Nat) (ok:Nat→Prop) (v:Value) (xs:List α):Prop:=∃ f,(tag f d).R e w base ok v xs.zipIdx
section
variable {α β : Type} {d : Kd α} {d' : Kd β} {e e' : Nat} {w w1 W : World} {base b : Nat} {ok ok' okv oku : Nat → Prop} {u v : Value} {xs : List α} {ys : List β}
theorem D7 {ad:Addr} {n cap:Nat} (h:d.R e w base ok (.slice (some ad) n cap) xs):∃ g,ad=⟨g,0,none⟩:=by
  obtain⟨_,inner,ho,hr⟩:=h
  rcases ho.2 with⟨hv,_⟩|⟨g,cap',cur,hv,_⟩
  · cases hv
  · injection hv with ha _ _
    injection ha with ha
    exact⟨g,ha⟩
theorem E7 (hE:d.E = []) (h:d.R e w base ok v xs):d.R e w base (fun k=>some k=v.ownBlock) v xs:=by
  obtain⟨X,inner,ho,hr⟩:=h
  refine⟨fun k hk=>hk.symm,inner,ho,hr.Jh (fun p c hp=>d.M_mono (fun k hk=>?_) (d.M_bound hp))⟩
  obtain⟨_,_,_,q,hq,_⟩:=hk
  rw[hE] at hq
  cases hq
theorem Yx (d:Kd α) (e:Nat) (w:World) (base:Nat) (ok:Nat→Prop):S d e w base ok (.slice none 0 0) []:=⟨fun _=>0,Xx _ _ _ _ _⟩
end
section
variable {α β : Type} {d : Kd α} {d' : Kd β} {e e' g : Nat} {w w1 W : World} {base b : Nat} {ok ok' okv oku : Nat → Prop} {u v : Value} {xs : List α} {ys : List β}
end
section
variable {P : Program} {ops : Array Oper} {rest : List Oper} {o : Oper} {a : Act} {Q : Exit → Act → World → Prop} {Kc : Act → World → Prop} {α : Type}
end
def gap {α:Type} (f:Nat→Nat) (d:Kd α) (i:Nat) (c:List Value):Kd (α×Nat) where
  sz:=d.sz
  E:=d.E
  K:=fun w x cs=>(x.2=i→cs=c∧cs.length=d.sz ∧ ∀ u ∈ cs,u.oneCell'=true)∧(x.2≠i→d.K w x.1 cs)
  M:=fun w base ok x cs=>(x.2=i→cs=c∧cs.length=d.sz ∧ ∀ u ∈ cs,u.oneCell'=true)∧(x.2≠i→d.M w base (fun k=>ok k∧f k=x.2) x.1 cs)
  K_len:=fun {w x cs} h=>by
    by_cases hx:x.2=i
    · exact(h.1 hx).2.1
    · exact d.K_len (h.2 hx)
  K_one:=fun {w x cs} h=>by
    by_cases hx:x.2=i
    · exact(h.1 hx).2.2
    · exact d.K_one (h.2 hx)
  K_below:=fun hb h=>⟨h.1,fun hx=>d.K_below hb (h.2 hx)⟩
  K_of_M:=fun h=>⟨h.1,fun hx=>d.K_of_M (h.2 hx)⟩
  M_mono:=fun hok h=>⟨h.1,fun hx=>d.M_mono (fun k hk=>⟨hok k hk.1,hk.2⟩) (h.2 hx)⟩
  M_bound:=fun h=>⟨h.1,fun hx=>d.M_mono (fun _ hk=>⟨⟨hk.1.1,hk.2⟩,hk.1.2⟩) (d.M_bound (h.2 hx))⟩
  M_move:=fun hm h=>⟨h.1,fun hx=>d.M_move (fun k hk=>hm k hk.1) (h.2 hx)⟩
  M_lower:=fun hb h=>⟨h.1,fun hx=>d.M_lower hb (h.2 hx)⟩
def H {α:Type} (d:Kd α) (e:Nat) (w:World) (base:Nat) (ok:Nat→Prop) (v:Value) (xs:List α) (i:Int) (oki:Nat→Prop) (c:List Value):Prop:=
  (∀ k,oki k→ok k) ∧ ∃ f,(gap f d i.toNat c).R e w base (fun k=>ok k ∧ ¬ oki k) v xs.zipIdx
section
variable {α β : Type} {d : Kd α} {e e' g n cap : Nat} {w w1 W : World} {base : Nat} {ok ok' oki okp : Nat → Prop} {u v : Value} {xs : List α} {i : Int} {c : List Value}
end
section
variable {P : Program} {ops : Array Oper} {rest : List Oper} {o : Oper} {a : Act} {Q : Exit → Act → World → Prop} {α : Type}
end
end Kd
end Go.Proofs.YtmfffemidlhcpaaW.PrintWords
namespace Go.Proofs.YtmfffemidlhcpaaW.PrintWords
open Go.RowKit
namespace Kd
structure Heap {α:Type} (d:Kd α):Prop where
  K:∀ {w w1:World} {x:α} {cs:List Value},(∀ k,k<w.heap.size→w1.heap[k]?=w.heap[k]?)→d.K w x cs→d.K w1 x cs
theorem Mq {w w1:World} (hb:∀ k,k<w.heap.size→w1.heap[k]?=w.heap[k]?) {a:Addr} {v:Value} (h:w.cell? a=some v):w1.cell? a=some v:=by
  have:=hb a.block (World.block_lt_of_cell? w a h)
  simpa[World.cell?,this] using h
theorem Heap.C {α:Type} {d:Kd α} (hd:Heap d) {w w1:World} {A:Option Addr} {n:Nat} {xs:List α} (hb:∀ k,k<w.heap.size→w1.heap[k]?=w.heap[k]?) (h:d.C w A n xs):d.C w1 A n xs:=
  ⟨h.1,h.2.1,fun hn=>by
    obtain⟨ad,e,hc⟩:=h.2.2 hn
    refine⟨ad,e,fun j p hj=>?_⟩
    obtain⟨c,hs,hr,hcell⟩:=hc j p hj
    exact⟨c,hs,hd.K hb hr,fun i u hu=>Mq hb (hcell i u hu)⟩⟩
theorem X1 (k:IntKind):Heap (Kd.int k):=⟨fun _ h=>h⟩
section
variable {α : Type} {d : Kd α} {e base g n c : Nat} {ok : Nat → Prop} {w w0 W : World} {A : Option Addr} {xs : List α}
end
end Kd
end Go.Proofs.YtmfffemidlhcpaaW.PrintWords
namespace Go.Proofs.YtmfffemidlhcpaaW.PrintWords
open Go.RowKit
def Kept (w W:World) (S:Nat→Prop):Prop:=w.heap.size≤W.heap.size ∧ ∀ i,i<w.heap.size → ¬ S i→W.heap[i]?=w.heap[i]?
section
variable {w W W2 : World} {S S2 S' : Nat → Prop}
theorem Kept.refl (w:World) (S:Nat→Prop):Kept w w S:=⟨Nat.le_refl _,fun _ _ _=>rfl⟩
theorem Kept.of_below (h:Below w.heap.size w W) (S:Nat→Prop):Kept w W S:=⟨h.size,fun i hi _=>h.block i hi⟩
theorem Kept.mono (h:Kept w W S) (hs:∀ k,S k→S' k):Kept w W S':=⟨h.1,fun i hi hn=>h.2 i hi (fun hk=>hn (hs i hk))⟩
theorem Kept.My (h:Kept w W S) (k:Kept W W2 S2) (hs:∀ k,S2 k→S k∨w.heap.size≤k):Kept w W2 S:=
  ⟨Nat.le_trans h.1 k.1,fun i hi hn=>(k.2 i (Nat.lt_of_lt_of_le hi h.1) (fun O=>(hs i O).elim hn (fun Y=>by omega))).trans (h.2 i hi hn)⟩
theorem Kept.Gs {row:Option Nat} (hg:W.grownBy W2 row) (h:Kept w W S) (hr:∀ k,row=some k→S k∨w.heap.size≤k):Kept w W2 S:=
  h.My (S2:=fun k=>row=some k) ⟨hg.size,fun i hi hn=>hg.block i hi (fun he=>hn he.symm)⟩ hr
theorem Kept.below (h:Kept w W S) (hb:Below W.heap.size W W2):Kept w W2 S:=h.My (Kept.of_below hb (fun _=>False)) (fun _ hk=>hk.elim)
theorem Kept.alloc (h:Kept w W S) (o:Obj):Kept w (W.alloc o) S:=h.below (Qu (Below.refl _ _) o)
theorem Kept.drew (h:Kept w W S):Kept w W.drew S:=h
theorem Kept.drewN (h:Kept w W S) (m:Nat):Kept w (W.drewN m) S:=h
theorem Kept.setCell (h:Kept w W S) {p:Addr} (hp:S p.block∨w.heap.size≤p.block) (u:Value):Kept w (W.setCell p u) S:=
  h.My (S2:=fun k=>k=p.block) ⟨by simp[World.setCell],fun i _ hn=>Below.heap_setCell W p u i hn⟩ (fun k hk=>by rw[hk];exact hp)
theorem X3 {g:Nat} {o:Obj} (hb:W.heap[g]?=some o) (hk:Kept W W2 S) (hne:¬ S g):W2.heap[g]?=some o:=(hk.2 g (Xi hb) hne).trans hb
end
namespace Kd
section
variable {α : Type} {d : Kd α} {e base n c : Nat} {ok oki S S2 : Nat → Prop} {w w0 W W1 W2 : World} {v : Value} {A : Option Addr} {xs : List α} {i : Int} {cs : List Value}
end
end Kd
end Go.Proofs.YtmfffemidlhcpaaW.PrintWords
namespace Go.Proofs.YtmfffemidlhcpaaW.PrintWords
open Go.RowKit
def Foot (P:World→Prop) (W:World) (ok:Nat→Prop):Prop:=∀ W':World,(∀ k,ok k→k<W.heap.size→W'.heap[k]?=W.heap[k]?)→P W'
theorem Ey {W W1:World} {k:Nat} (h:W1.heap[k]?=W.heap[k]?) (hlt:k<W.heap.size):k<W1.heap.size:=by
  rw[Array.getElem?_eq_getElem hlt] at h
  exact(Array.getElem?_eq_some_iff.1 h).1
namespace Foot
variable {P Q : World → Prop} {W W1 : World} {ok ok' : Nat → Prop}
theorem now (h:Foot P W ok):P W:=h W (fun _ _ _=>rfl)
theorem mono (h:Foot P W ok) (hok:∀ k,ok k→ok' k):Foot P W ok':=fun W' hW=>h W' (fun k hk hlt=>hW k (hok k hk) hlt)
theorem bound (h:Foot P W ok):Foot P W (fun k=>ok k∧k<W.heap.size):=fun W' hW=>h W' (fun k hk hlt=>hW k ⟨hk,hlt⟩ hlt)
theorem step (h:Foot P W ok) (hm:∀ k,ok k→k<W.heap.size→W1.heap[k]?=W.heap[k]?):Foot P W1 ok:=fun W' hW=>h W' (fun k hk hlt=>(hW k hk (Ey (hm k hk hlt) hlt)).trans (hm k hk hlt))
theorem old (h:Foot P W ok) (hb:Below W.heap.size W W1):Foot P W1 (fun k=>ok k∧k<W.heap.size):=(h.bound).step (fun k _ hlt=>hb.block k hlt)
end Foot
namespace Kd
def F {α:Type} (d:Kd α) (W:World) (ok:Nat→Prop) (A:Option Addr) (n:Nat) (xs:List α):Prop:=Foot (fun W=>d.C W A n xs) W ok
def FK {α:Type} (d:Kd α) (W:World) (ok:Nat→Prop) (x:α) (c:List Value):Prop:=Foot (fun W=>d.K W x c) W ok
section
variable {α β : Type} {d : Kd α} {e base n n' cc g N : Nat} {ok ok' okp S : Nat → Prop} {w w0 w1 W W1 : World} {A A' : Option Addr} {u v v1 : Value} {xs : List α} {xs' : List β} {d' : Kd β} {x : α} {c : List Value}
theorem F_now (h:F d W ok A n xs):d.C W A n xs:=Foot.now h
theorem W7 (h:F d W ok A n xs) (hok:∀ k,ok k→ok' k):F d W ok' A n xs:=Foot.mono h hok
theorem Da (h:F d W ok A n xs):F d W (fun k=>ok k∧k<W.heap.size) A n xs:=Foot.bound h
theorem Cc (h:F d W ok A n xs) (hm:∀ k,ok k→k<W.heap.size→W1.heap[k]?=W.heap[k]?):F d W1 ok A n xs:=Foot.step h hm
theorem Xs (h:F d W ok A n xs) (hb:Below W.heap.size W W1):F d W1 ok A n xs:=Cc h (fun k _ hlt=>hb.block k hlt)
theorem Db (h:F d W ok A n xs) (o:Obj):F d (W.alloc o) ok A n xs:=Xs h (Qu (Below.refl _ _) o)
theorem Cd (h:F d W ok A n xs):F d W.drew ok A n xs:=Xs h (Jq (Below.refl _ _))
theorem E9 (h:F d W ok A n xs) (m:Nat):F d (W.drewN m) ok A n xs:=Xs h (Qi (Below.refl _ _) m)
theorem F_nil (d:Kd α) (W:World) (ok:Nat→Prop):F d W ok none ([]:List α).length []:=fun W' _=>Ja d W'
theorem N5 (h:F d W ok A n xs) (hbase:∀ k,v.ownBlock=some k→W.heap.size≤k) (hb:Below W.heap.size W W1):F d W1 (fun k=>ok k∧some k≠v.ownBlock) A n xs:=
  W7 (Foot.old h hb) (fun k hk=>⟨hk.1,fun he=>by have:=hbase k he.symm;have:=hk.2;omega⟩)
theorem N4 (h:F d W ok A n xs) (a:Nat) (ha:W.heap.size≤a):F d W (fun k=>ok k∧k≠a) A n xs:=W7 (Da h) (fun k hk=>⟨hk.1,by have:=hk.2;omega⟩)
theorem C_F (hd:Heap d) (h:d.C w A n xs):F d w (fun k=>k<w.heap.size) A n xs:=fun _ hW=>hd.C (fun k hlt=>hW k hlt hlt) h
theorem Ul (h:FK d W ok x c):d.K W x c:=Foot.now h
theorem Um (h:FK d W ok x c) (hok:∀ k,ok k→ok' k):FK d W ok' x c:=Foot.mono h hok
theorem N6 (h:FK d W ok x c):FK d W (fun k=>ok k∧k<W.heap.size) x c:=Foot.bound h
theorem Lr (h:FK d W ok x c) (hm:∀ k,ok k→k<W.heap.size→W1.heap[k]?=W.heap[k]?):FK d W1 ok x c:=Foot.step h hm
theorem Dc (h:d.M W base ok x c):FK d W ok x c:=fun _ hW=>d.K_of_M (N3 h hW)
end
end Kd
end Go.Proofs.YtmfffemidlhcpaaW.PrintWords
namespace Go.Proofs.YtmfffemidlhcpaaW.PrintWords
open Go.RowKit
namespace Kd
def chunks (sz:Nat) (n:Nat) (inner:List Value):List (List Value):=(List.range n).map fun j=>(inner.drop (j * sz)).take sz
theorem Xd (sz n:Nat) (inner:List Value):(chunks sz n inner).length=n:=by simp[chunks]
theorem Mo {sz n:Nat} {inner:List Value} {j:Nat} (hj:j<n):(chunks sz n inner)[j]?=some ((inner.drop (j * sz)).take sz):=by simp[chunks,hj]
theorem Kk {sz n:Nat} {inner:List Value} {j:Nat} {c:List Value} (h:(chunks sz n inner)[j]?=some c):c=(inner.drop (j * sz)).take sz:=by
  have hj:j<n:=by have:=(List.getElem?_eq_some_iff.1 h).1;rwa[Xd] at this
  rw[Mo hj] at h
  injection h with h
  exact h.symm
theorem U2 {α:Type} {Rr:α→List Value→Prop} {sz:Nat} {xs:List α} {inner:List Value} (h:Reps Rr sz xs inner) (hR:∀ x c,Rr x c→c.length=sz ∧ ∀ u ∈ c,u.oneCell'=true):Reps (fun x cs=>cs=x∧cs.length=sz ∧ ∀ u ∈ cs,u.oneCell'=true) sz (chunks sz xs.length inner) inner:=by
  refine⟨by rw[Xd];exact h.1,fun j p hj=>?_⟩
  have hjl:j<xs.length:=by have:=(List.getElem?_eq_some_iff.1 hj).1;rwa[Xd] at this
  have hp:=Kk hj
  exact⟨hp.symm,hR _ _ (h.2 j _ (List.getElem?_eq_getElem hjl))⟩
section
variable {α : Type} {d : Kd α} {e base n cc g : Nat} {ok ok' okp S : Nat → Prop} {w w1 W W1 : World} {A : Option Addr} {u v v1 : Value} {xs : List α} {x : α} {c : List Value}
def N {α:Type} (d:Kd α) (e:Nat) (w:World) (base:Nat) (ok:Nat→Prop) (v:Value) (xs:List α):Prop:=
  (∀ k,v.ownBlock=some k→ok k) ∧ ∃ rows:List (List Value),rows.length=xs.length∧(raw d.sz).R e w base (fun k=>some k=v.ownBlock) v rows ∧ ∀ (j:Nat) (x:α) (c:List Value),xs[j]?=some x→rows[j]?=some c→FK d w (fun k=>ok k∧some k≠v.ownBlock) x c
theorem L1 {sz:Nat} {rows:List (List Value)} (h:(raw sz).R e w base ok v rows):(raw sz).R e w base (fun k=>some k=v.ownBlock) v rows:=E7 rfl h
theorem R_N (h:d.R e w base ok v xs):N d e w base ok v xs:=by
  obtain⟨X,inner,ho,hr⟩:=h
  refine⟨X,chunks d.sz xs.length inner,Xd _ _ _,⟨fun k hk=>hk.symm,inner,by rw[Xd];exact ho,U2 hr (fun x c hp=>⟨d.K_len (d.K_of_M hp),d.K_one (d.K_of_M hp)⟩)⟩,fun j x c hx hc=>?_⟩
  rw[Kk hc]
  exact Dc (hr.2 j x hx)
theorem Y0 (d:Kd α) (e:Nat) (w:World) (base:Nat) (ok:Nat→Prop):N d e w base ok (.slice none 0 0) []:=R_N (Xx _ _ _ _ _)
theorem W6 (h:N d e w base ok v xs):∀ k,v.ownBlock=some k→base≤k:=by
  obtain⟨_,rows,_,hR,_⟩:=h
  exact Zy hR
theorem E8 {base':Nat} (h:N d e w base ok v xs) (hb:base'≤base):N d e w base' ok v xs:=by
  obtain⟨X,rows,hl,hR,hf⟩:=h
  exact⟨X,rows,hl,Q3 hR hb,hf⟩
theorem D9 (h:N d e w base ok v xs) (hm:∀ k,ok k→k<w.heap.size→w1.heap[k]?=w.heap[k]?):N d e w1 base ok v xs:=by
  obtain⟨X,rows,hl,hR,hf⟩:=h
  exact⟨X,rows,hl,W3 hR (fun k hk hlt=>hm k (X k hk.symm) hlt),fun j x c hx hc=>Lr (hf j x c hx hc) (fun k hk hlt=>hm k hk.1 hlt)⟩
theorem Uk (h:N d e w base ok v xs) (hb:Below w.heap.size w w1):N d e w1 base ok v xs:=D9 h (fun k _ hk=>hb.block k hk)
theorem Lp (h:N d e w base ok v xs) (o:Obj):N d e (w.alloc o) base ok v xs:=Uk h (Qu (Below.refl _ _) o)
theorem N2 (h:N d e w base ok v xs):N d e w.drew base ok v xs:=Uk h (Jq (Below.refl _ _))
theorem Lo (h:N d e w base ok v xs) (m:Nat):N d e (w.drewN m) base ok v xs:=Uk h (Qi (Below.refl _ _) m)
theorem Ln (h:N d e w base ok v xs):∃ A c,v = .slice A xs.length c:=by
  obtain⟨_,rows,hl,hR,_⟩:=h
  obtain⟨A,c,he⟩:=Q5 hR
  exact⟨A,c,by rw[he,hl]⟩
theorem Jz {n c:Nat} (h:N d e w base ok (.slice A n c) xs):n=xs.length∧n≤c∧d.C w A xs.length xs:=by
  obtain⟨_,rows,hl,hR,hf⟩:=h
  obtain⟨hn,hc,hC⟩:=Qr hR
  refine⟨by omega,hc, ?_⟩
  rw[hl] at hC
  refine⟨rfl,hC.2.1,fun hp=>?_⟩
  obtain⟨ad,he,hcell⟩:=hC.2.2 hp
  refine⟨ad,he,fun j p hj=>?_⟩
  have hjl:j<rows.length:=by have:=(List.getElem?_eq_some_iff.1 hj).1;omega
  obtain⟨c',hcl,hK,hcc⟩:=hcell j _ (List.getElem?_eq_getElem hjl)
  have hk:=Ul (hf j p _ hj (List.getElem?_eq_getElem hjl))
  refine⟨c',hcl, ?_,hcc⟩
  rw[show c'=rows[j] from hK.1]
  exact hk
theorem N_reads (h:N d e w base ok v xs):∃ A c,v = .slice A xs.length c∧xs.length≤c∧d.C w A xs.length xs:=by
  obtain⟨A,c,rfl⟩:=Ln h
  exact⟨A,c,rfl,(Jz h).2⟩
theorem Cb {n cap:Nat} (h:N d e W base ok (.slice (some ⟨g,0,none⟩) n cap) xs) (z:α) (i:Int) (X:0≤i) (h1:i<n):
    ∃ c,c.length=d.sz∧FK d W (fun k=>ok k∧k≠g) (xs.getD i.toNat z) c∧(∀ j u,c[j]?=some u→W.cell? ⟨g,i.toNat * d.sz+j,none⟩=some u) ∧ ∀ j,W.frozen? ⟨g,i.toNat * d.sz+j,none⟩=false:=by
  obtain⟨_,rows,hl,hR,hf⟩:=h
  have hn:=(Qr hR).1
  obtain⟨c,hcl,hM,hcc,hfr⟩:=Jr hR [] i X h1
  have hil:i.toNat<rows.length:=by omega
  have hil':i.toNat<xs.length:=by omega
  have hc:c=rows[i.toNat]:=by
    have O:=hM.1
    rwa[List.getD_eq_getElem?_getD,List.getElem?_eq_getElem hil] at O
  refine⟨c,hcl, ?_,hcc,hfr⟩
  rw[List.getD_eq_getElem?_getD,List.getElem?_eq_getElem hil']
  exact Um (hf _ _ _ (List.getElem?_eq_getElem hil') (by rw[hc];exact List.getElem?_eq_getElem hil)) (fun k hk=>⟨hk.1,fun he=>hk.2 (by rw[he];simp[Value.ownBlock])⟩)
theorem Dk {ad:Addr} {n cap:Nat} (h:N d e W base ok (.slice (some ad) n cap) xs) (z:α) (i:Int) (X:0≤i) (h1:i<n):
    ∃ c,c.length=d.sz∧FK d W (fun k=>ok k∧some k≠(Value.slice (some ad) n cap).ownBlock) (xs.getD i.toNat z) c ∧ ∀ j u,c[j]?=some u→W.cell? (ad.add (i.toNat * d.sz+j))=some u:=by
  obtain⟨g,rfl⟩:∃ g,ad=⟨g,0,none⟩:=by
    obtain⟨_,rows,_,hR,_⟩:=h
    exact D7 hR
  obtain⟨c,hcl,hM,hcc,_⟩:=Cb h z i X h1
  refine⟨c,hcl,Um hM (fun k hk=>⟨hk.1,fun he=>hk.2 (by simpa[Value.ownBlock] using he)⟩),fun j u hu=>?_⟩
  rw[D5,Nat.zero_add]
  exact hcc j u hu
end
end Kd
end Go.Proofs.YtmfffemidlhcpaaW.PrintWords
namespace Go.Proofs.YtmfffemidlhcpaaW.PrintWords
open Go.RowKit
section
variable {P : Program} {d : Nat} {xs ys : Array Value} {f : Field} {fs : List Field} {a b : Value} {r s : Bool} {w : World}
theorem Wb (hn:(f.name == "_")=false) (ha:(part f.type xs f.offset).run P w = .ok a w) (hb:(part f.type ys f.offset).run P w = .ok b w) (he:(Op.equalIn d f.type a b).run P w = .ok r w):(Op.eqFields d xs ys [f]).run P w = .ok r w:=by
  have hn':f.name ≠ "_" :=by simpa using hn
  simp only[Op.eqFields,if_pos hn',Sem.run_bind,ha,hb,he,Result.andThen_ok]
  cases r <;> simp
theorem Gy (hn:(f.name == "_")=false) (ha:(part f.type xs f.offset).run P w = .ok a w) (hb:(part f.type ys f.offset).run P w = .ok b w) (he:(Op.equalIn d f.type a b).run P w = .ok r w) (hr:(Op.eqFields d xs ys fs).run P w = .ok s w):(Op.eqFields d xs ys (f :: fs)).run P w = .ok (r&&s) w:=by
  have hn':f.name ≠ "_" :=by simpa using hn
  rw[Op.eqFields]
  simp only[if_pos hn',Sem.run_bind,ha,hb,he,Result.andThen_ok]
  cases r
  · simp
  · simpa using hr
theorem Nt {t:TypeId} {fs:Array Field} (hu:P.underlying t=some (.struct fs)) (hp:P.stoodInHeld t=false) (h:(Op.eqFields d xs ys fs.toList).run P w = .ok r w):(Op.equalIn (d+1) t (.agg xs) (.agg ys)).run P w = .ok r w:=by
  have hf:P.fieldsOf t=fs:=by simp[Program.fieldsOf,hu]
  rw[run_equalIn_struct (P:=P) w d t xs ys (by rw[hf];exact hu) hp,hf]
  exact h
end
end Go.Proofs.YtmfffemidlhcpaaW.PrintWords
namespace Go.Proofs.YtmfffemidlhcpaaW.PrintWords
theorem Reps.one {α:Type} {R:α→List Value→Prop} {ps:List α} {cs:List Value} {p:α} {v:Value} (hp:R p [v]) (h:Reps R 1 ps cs):Reps R 1 (p :: ps) (v :: cs):=by
  refine⟨by simp[h.1],fun j q hq=>?_⟩
  cases j with
  |zero=>
    simp only[List.getElem?_cons_zero,Option.some.injEq] at hq
    subst hq
    simpa using hp
  |succ j=>
    simp only[List.getElem?_cons_succ] at hq
    have h1:=h.2 j q hq
    simpa[Nat.mul_one] using h1
theorem Reps.front {α:Type} {R:α→List Value→Prop} {size:Nat} {ps:List α} {cs c all:List Value} {p:α} (hp:R p c) (hc:c.length=size) (h:Reps R size ps cs) (ha:c++cs=all):Reps R size (p :: ps) all:=by
  subst ha
  refine⟨by rw[List.length_append,hc,h.1,List.length_cons,Nat.succ_mul,Nat.add_comm],fun j q hq=>?_⟩
  cases j with
  |zero=>
    simp only[List.getElem?_cons_zero,Option.some.injEq] at hq
    subst hq
    rw[Nat.zero_mul,List.drop_zero,List.take_append_of_le_length (by omega),List.take_of_length_le (by omega)]
    exact hp
  |succ j=>
    simp only[List.getElem?_cons_succ] at hq
    have h1:=h.2 j q hq
    rw[Nat.succ_mul,List.drop_append,List.drop_of_length_le (by rw[hc];exact Nat.le_add_left _ _),List.nil_append,hc,Nat.add_sub_cancel]
    exact h1
theorem Reps.c2 {α:Type} {R:α→List Value→Prop} {ps:List α} {cs:List Value} {p:α} {va vb:Value} (hp:R p [va,vb]) (h:Reps R 2 ps cs):Reps R 2 (p :: ps) (va :: vb :: cs):=Reps.front hp rfl h rfl
theorem Reps.c3 {α:Type} {R:α→List Value→Prop} {ps:List α} {cs:List Value} {p:α} {va vb vc:Value} (hp:R p [va,vb,vc]) (h:Reps R 3 ps cs):Reps R 3 (p :: ps) (va :: vb :: vc :: cs):=Reps.front hp rfl h rfl
theorem Reps.c4 {α:Type} {R:α→List Value→Prop} {ps:List α} {cs:List Value} {p:α} {va vb vc vd:Value} (hp:R p [va,vb,vc,vd]) (h:Reps R 4 ps cs):Reps R 4 (p :: ps) (va :: vb :: vc :: vd :: cs):=Reps.front hp rfl h rfl
theorem Reps.c5 {α:Type} {R:α→List Value→Prop} {ps:List α} {cs:List Value} {p:α} {va vb vc vd ve:Value} (hp:R p [va,vb,vc,vd,ve]) (h:Reps R 5 ps cs):Reps R 5 (p :: ps) (va :: vb :: vc :: vd :: ve :: cs):=Reps.front hp rfl h rfl
theorem Reps.c6 {α:Type} {R:α→List Value→Prop} {ps:List α} {cs:List Value} {p:α} {va vb vc vd ve vf:Value} (hp:R p [va,vb,vc,vd,ve,vf]) (h:Reps R 6 ps cs):Reps R 6 (p :: ps) (va :: vb :: vc :: vd :: ve :: vf :: cs):=Reps.front hp rfl h rfl
theorem Reps.c7 {α:Type} {R:α→List Value→Prop} {ps:List α} {cs:List Value} {p:α} {va vb vc vd ve vf vg:Value} (hp:R p [va,vb,vc,vd,ve,vf,vg]) (h:Reps R 7 ps cs):Reps R 7 (p :: ps) (va :: vb :: vc :: vd :: ve :: vf :: vg :: cs):=Reps.front hp rfl h rfl
theorem Reps.c8 {α:Type} {R:α→List Value→Prop} {ps:List α} {cs:List Value} {p:α} {va vb vc vd ve vf vg vh:Value} (hp:R p [va,vb,vc,vd,ve,vf,vg,vh]) (h:Reps R 8 ps cs):Reps R 8 (p :: ps) (va :: vb :: vc :: vd :: ve :: vf :: vg :: vh :: cs):=Reps.front hp rfl h rfl
theorem Reps.c9 {α:Type} {R:α→List Value→Prop} {ps:List α} {cs:List Value} {p:α} {va vb vc vd ve vf vg vh vi:Value} (hp:R p [va,vb,vc,vd,ve,vf,vg,vh,vi]) (h:Reps R 9 ps cs):Reps R 9 (p :: ps) (va :: vb :: vc :: vd :: ve :: vf :: vg :: vh :: vi :: cs):=Reps.front hp rfl h rfl
theorem Reps.c10 {α:Type} {R:α→List Value→Prop} {ps:List α} {cs:List Value} {p:α} {va vb vc vd ve vf vg vh vi vj:Value} (hp:R p [va,vb,vc,vd,ve,vf,vg,vh,vi,vj]) (h:Reps R 10 ps cs):Reps R 10 (p :: ps) (va :: vb :: vc :: vd :: ve :: vf :: vg :: vh :: vi :: vj :: cs):=Reps.front hp rfl h rfl
end Go.Proofs.YtmfffemidlhcpaaW.PrintWords
namespace Go.Proofs.YtmfffemidlhcpaaW.PrintWords
open Go.RowKit
theorem Kd.Uj {α:Type} {d:Kd α} {e base:Nat} {ok ok':Nat→Prop} {w:World} {v:Value} {xs:List α} (hd:∀ {ok1 B:Nat→Prop} {x:α} {cs:List Value},d.M w base ok1 x cs→d.M w base B x cs) (h:d.R e w base ok v xs) (hok:∀ k,v.ownBlock=some k→ok k→ok' k):d.R e w base ok' v xs:=by
  obtain⟨X,inner,hown,hr⟩:=h
  exact⟨fun k hk=>hok k hk (X k hk),inner,hown,hr.Jh (fun _ _ hm=>hd hm)⟩
end Go.Proofs.YtmfffemidlhcpaaW.PrintWords
namespace Go.Proofs.YtmfffemidlhcpaaW.PrintLast
section
variable {ops : Array Oper} {a : Act} {o og : Oper} {g : Nat} {t : Tmp} {u : Bool}
end
end Go.Proofs.YtmfffemidlhcpaaW.PrintLast
namespace Go.Proofs.YtmfffemidlhcpaaW.PrintWords
open Go.RowKit
section
variable {P : Program} {ops : Array Oper} {rest : List Oper} {o : Oper} {a : Act} {Q : Exit → Act → World → Prop} {W : World}
theorem Zr (hw:Region.wanted o (yielded ops a.tmps)=true) (h:wpList P ops Q ({o with guard:=none} :: rest) a W):wpList P ops Q (o :: rest) a W:=by
  have h1:Region.wanted {o with guard:=none} (yielded ops a.tmps)=true:=rfl
  unfold wpList at h ⊢
  rw[if_pos h1] at h
  rw[if_pos hw]
  exact h
end
namespace Kd
section
variable {α : Type} {d : Kd α} {e base n cap g : Nat} {ok ok' okp : Nat → Prop} {w w1 W : World} {v v1 : Value} {xs ys : List α}
theorem Ca {rows:List (List Value)} (hR:(raw d.sz).R e w1 base (fun k=>k=W.heap.size) v1 rows) (hg:W.grownBy w1 none) (hat:∃ b,v1.ownBlock=some b∧W.heap.size≤b) (hl:rows.length=xs.length) (hf:∀ (j:Nat) (x:α) (c:List Value),xs[j]?=some x→rows[j]?=some c→FK d W okp x c)
    (hok:∀ k,okp k→ok k) (hfresh:ok W.heap.size):N d e w1 base ok v1 xs:=by
  obtain⟨b,hb,hle⟩:=hat
  refine⟨fun k hk=>by rw[hR.1 k hk];exact hfresh,rows,hl,L1 hR,fun j x c hx hc=>?_⟩
  refine Um (Lr (N6 (hf j x c hx hc)) (fun k hk hlt=>hg.block k hlt (by simp))) (fun k hk=>⟨hok k hk.1,fun he=>?_⟩)
  rw[hb] at he
  injection he with he
  have:=hk.2
  omega
end
section
variable {P : Program} {ops : Array Oper} {rest : List Oper} {o : Oper} {a : Act} {Q : Exit → Act → World → Prop} {Kc : Act → World → Prop} {α : Type}
theorem N_lit (d:Kd α) {w0 W:World} (base e:Nat) (hgd:o.guard=none) {N':Tmp} (_hd:o.dst=some N') {xs:List α} {inner:List Value} {ok okp:Nat→Prop}
    (hrun:(execOp a.eval o).run P W = .ok (.value (.slice (some ⟨W.heap.size,0,none⟩) xs.length xs.length)) (W.alloc (.cells inner.toArray e)))
    (hrep:Reps (FK d W okp) d.sz xs inner) (hok:∀ k,okp k→ok k) (hfresh:ok W.heap.size) (HB:Below base w0 W) (hbase:base≤W.heap.size) (hm:xs.length≤9223372036854775807)
    (h:∀ v1 w1,N d e w1 base ok v1 xs→Below base w0 w1→W.grownBy w1 none→(∃ b,v1.ownBlock=some b∧W.heap.size≤b)→wpList P ops Q rest (a.put o.dst v1) w1):
    wpList P ops Q (o :: rest) a W:=by
  refine Vu (raw d.sz) base e hgd _hd (xs:=chunks d.sz xs.length inner) (inner:=inner) (ok:=fun k=>k=W.heap.size) (okp:=fun _=>False) (by rw[Xd];exact hrun) (U2 hrep (fun y c hk=>⟨d.K_len (Ul hk),d.K_one (Ul hk)⟩)) (fun _ hk=>hk.elim) rfl HB hbase (by rw[Xd];exact hm) ?_
  intro v1 w1 hr hb hg hat
  exact h v1 w1 (Ca hr hg hat (Xd _ _ _) (fun j y c hy hc=>by rw[Kk hc];exact hrep.2 j y hy) hok hfresh) hb hg hat
end
end Kd
end Go.Proofs.YtmfffemidlhcpaaW.PrintWords
namespace Go.Proofs.YtmfffemidlhcpaaW.PrintMore
open Go.RowKit Go.Proofs.YtmfffemidlhcpaaW.PrintWords
namespace Kd
open Go.Proofs.YtmfffemidlhcpaaW.PrintWords.Kd
section
variable {α : Type} {d : Kd α} {e base g N : Nat} {ok : Nat → Prop} {W w1 : World} {u v : Value} {xs : List α}
end
end Kd
theorem Zv (k k':IntKind) (x y:Int):Builtin.max2 (.int k x) (.int k' y)=pure (.int k (if x<y then y else x)):=by simp only[Builtin.max2,gt_iff_lt]
theorem Zt (k k':IntKind) (x y:Int):Builtin.min2 (.int k x) (.int k' y)=pure (.int k (if y<x then y else x)):=by simp only[Builtin.min2]
theorem Z6 (ats:Array TypeId) (ty:TypeId) (a b:Value):Builtin.max_ ats ty #[a,b]=(Builtin.max2 a b >>= fun s=>pure s):=by simp only[Builtin.max_,List.foldlM_cons,List.foldlM_nil]
theorem Z5 (ats:Array TypeId) (ty:TypeId) (a b:Value):Builtin.min_ ats ty #[a,b]=(Builtin.min2 a b >>= fun s=>pure s):=by simp only[Builtin.min_,List.foldlM_cons,List.foldlM_nil]
theorem Zk (ats:Array TypeId) (ty:TypeId) (a b c:Value):Builtin.max_ ats ty #[a,b,c]=(Builtin.max2 a b >>= fun s=>Builtin.max2 s c >>= fun s=>pure s):=by simp only[Builtin.max_,List.foldlM_cons,List.foldlM_nil]
theorem Zj (ats:Array TypeId) (ty:TypeId) (a b c:Value):Builtin.min_ ats ty #[a,b,c]=(Builtin.min2 a b >>= fun s=>Builtin.min2 s c >>= fun s=>pure s):=by simp only[Builtin.min_,List.foldlM_cons,List.foldlM_nil]
theorem Zu (ats:Array TypeId) (ty:TypeId) (a b c d:Value):Builtin.max_ ats ty #[a,b,c,d]=(Builtin.max2 a b >>= fun s=>Builtin.max2 s c >>= fun s=>Builtin.max2 s d >>= fun s=>pure s):=by simp only[Builtin.max_,List.foldlM_cons,List.foldlM_nil]
theorem Zs (ats:Array TypeId) (ty:TypeId) (a b c d:Value):Builtin.min_ ats ty #[a,b,c,d]=(Builtin.min2 a b >>= fun s=>Builtin.min2 s c >>= fun s=>Builtin.min2 s d >>= fun s=>pure s):=by simp only[Builtin.min_,List.foldlM_cons,List.foldlM_nil]
end Go.Proofs.YtmfffemidlhcpaaW.PrintMore
namespace Go.Proofs.YtmfffemidlhcpaaW.PrintWords
open Go.RowKit
section
variable {P : Program} {ops : Array Oper} {rest : List Oper} {o : Oper} {a : Act} {Q : Exit → Act → World → Prop} {W : World}
theorem Qp {f:FuncId} {as:Array Operand} {ts:Array TypeId} (_ho:o.op = .call {callee:=.value (.func f),args:=as,argTypes:=ts}) (h:wpList P ops Q (o :: rest) a W):wpList P ops Q (o :: rest) a W:=h
theorem Xq {b:Builtin} {xs:Array Operand} {ts:Array TypeId} (_ho:o.op = .call {callee:=.builtin b,args:=xs,argTypes:=ts}) (h:wpList P ops Q (o :: rest) a W):wpList P ops Q (o :: rest) a W:=h
end
def mx (a b:Int):Int:=if a<b then b else a
def mn (a b:Int):Int:=if b<a then b else a
def shr (k:IntKind) (x y:Int):Int:=x / 2 ^ min y.toNat k.bits
theorem Yp {k:IntKind} {x y j:Int} (h:shr k x y=j) (hy:y≤k.bits):x / 2 ^ y.toNat=j:=by rw[← h];unfold shr;rw[Nat.min_eq_left (by omega)]
theorem Yt (w:World) (n:Nat):w.drewN n=w.drewN n:=rfl
namespace Kd
section
variable {α : Type} {d : Kd α} {e base : Nat} {ok : Nat → Prop} {W w1 : World} {v : Value} {xs : List α}
end
section
variable {α : Type} {d : Kd α} {e base g n cap : Nat} {ok oki okp : Nat → Prop} {W : World} {xs : List α} {i : Int} {c : List Value}
end
section
variable {α : Type} {d : Kd α} {e base b b' g N : Nat} {ok ok1 : Nat → Prop} {W W2 w1 : World} {u v : Value} {xs ys : List α} {S : Nat → Prop}
end
end Kd
end Go.Proofs.YtmfffemidlhcpaaW.PrintWords
namespace Go.Proofs.YtmfffemidlhcpaaW.PrintWords
open Go.RowKit
namespace Kd
def V {α:Type} (d:Kd α) (_e:Nat) (W:World) (_base:Nat) (ok:Nat→Prop) (v:Value) (xs:List α):Prop:=∃ A c,v = .slice A xs.length c∧xs.length≤c∧F d W ok A xs.length xs
section
variable {α β : Type} {d : Kd α} {e base base' n m c g N' lo hi : Nat} {ok ok' S : Nat → Prop} {w W w1 : World} {A : Option Addr} {ad : Addr} {u v v1 : Value} {xs : List α}
theorem G6 (h:V d e W base ok v xs) (hF:∀ A,F d W ok A xs.length xs→F d w1 ok' A xs.length xs):V d e w1 base' ok' v xs:=by
  obtain⟨A,c,hv,hl,hf⟩:=h
  exact⟨A,c,hv,hl,hF A hf⟩
theorem G5 (hl:xs.length≤c) (hf:F d W ok A xs.length xs):V d e W base ok (.slice A xs.length c) xs:=⟨A,c,rfl,hl,hf⟩
theorem E6 (h:V d e W base ok (.slice A n c) xs):n=xs.length∧n≤c∧F d W ok A xs.length xs:=by
  obtain⟨A',c',hv,hl,hf⟩:=h
  injection hv with ha hn hc
  subst ha;subst hc
  exact⟨hn,by rw[hn];exact hl,hf⟩
theorem G4 (h:V d e W base ok (.slice A n c) xs):n=xs.length∧n≤c∧d.C W A xs.length xs:=⟨(E6 h).1,(E6 h).2.1,F_now (E6 h).2.2⟩
theorem V_F (h:V d e W base ok (.slice A n c) xs):F d W ok A n xs:=by
  obtain⟨hn,_,hf⟩:=E6 h
  rw[hn]
  exact hf
theorem Yw (d:Kd α) (e:Nat) (W:World) (base:Nat) (ok:Nat→Prop):V d e W base ok (.slice none 0 0) []:=⟨none,0,rfl,Nat.le_refl _,F_nil d W ok⟩
theorem Ym (h:V d e W base ok v xs) (hok:∀ k,ok k→ok' k):V d e W base ok' v xs:=G6 h (fun _ hf=>W7 hf hok)
theorem Ug (h:V d e W base ok v xs) (hb:Below W.heap.size W w1):V d e w1 base ok v xs:=G6 h (fun _ hf=>Xs hf hb)
theorem Zx (h:V d e W base ok v xs) (o:Obj):V d e (W.alloc o) base ok v xs:=G6 h (fun _ hf=>Db hf o)
theorem Xc (h:V d e W base ok v xs):V d e W.drew base ok v xs:=G6 h (fun _ hf=>Cd hf)
theorem Zw (h:V d e W base ok v xs) (m:Nat):V d e (W.drewN m) base ok v xs:=G6 h (fun _ hf=>E9 hf m)
theorem G8 (h:V d e W base ok v xs) (hbase:∀ k,u.ownBlock=some k→W.heap.size≤k) (hb:Below W.heap.size W w1):V d e w1 base (fun k=>ok k∧some k≠u.ownBlock) v xs:=G6 h (fun _ hf=>N5 hf hbase hb)
theorem G7 (h:V d e W base ok v xs) (a:Nat) (ha:W.heap.size≤a):V d e W base (fun k=>ok k∧k≠a) v xs:=G6 h (fun _ hf=>N4 hf a ha)
theorem Ke {l:List α} {cs:List Value} (h:FK (Kd.slice e d) W ok l cs):∃ A c,cs = [.slice A l.length c]∧l.length≤c∧F d W ok A l.length l:=by
  obtain⟨A,c,rfl,hl,_⟩:=Ul h
  refine⟨A,c,rfl,hl,fun W' hW=>?_⟩
  obtain⟨A',c',he,_,g'⟩:=h W' hW
  injection he with he _
  injection he with ha _ _
  rw[ha]
  exact g'
theorem J0 {l:List α} (hl:l.length≤c) (hf:F d W ok A l.length l):FK (Kd.slice e d) W ok l [.slice A l.length c]:=fun W' hW=>⟨A,c,rfl,hl,hf W' hW⟩
end
end Kd
end Go.Proofs.YtmfffemidlhcpaaW.PrintWords
