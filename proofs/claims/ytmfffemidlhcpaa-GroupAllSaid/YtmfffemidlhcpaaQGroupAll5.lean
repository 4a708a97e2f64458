/- Texts of this claim, one behind the other: what the law's functions come to, walked (printed by a program, with the words that the print uses), and what that is, in plain Lean. No conditions of their own. -/
import Derived.Test.YtmfffemidlhcpaaQGroupAll4
import Derived.ChangeOld
import Derived.ChangeSlices
import Derived.Lib.SmallJoins
import Derived.OpenShut
import Derived.SizedLaws
import Derived.WideShapes
namespace Go.Proofs.Ytmfffemidlhcpaa.Opens
open Go.RowKit Go.Proofs.YtmfffemidlhcpaaW.PrintWords
set_option linter.unusedVariables false
def Opens (P:Program) {α:Type} (d:Kd α) (t:TypeId) (wf:α→Prop):Prop:=
  ∀ (H:Type) (enc:TypeId×Value→H) (w:World) (base:Nat) (spare:Nat→Bool) (held:Bool) (fuel:Nat) (cs:List Value) (x:DataW H×List MemPlace),
    DataW.trod enc P w base spare held fuel t cs=some x→(∀ n ∈ x.1.weights P t,n≤reachBytes) → ∃ a,d.K w a cs∧wf a
theorem Zd {P:Program} {t:TypeId} (k:IntKind) (ht:P.underlying t=some (.int k)):Opens P (Kd.int k) t (fun n=>(Lit.int k n).wf=true):=by
  intro H enc w base spare held fuel cs x h _
  obtain⟨n,rfl,_,hw⟩:=DataW.trod_int ht h
  exact⟨n,rfl,hw⟩
theorem Gr {P:Program} {t:TypeId} (ht:P.underlying t=some .bool):Opens P Kd.bool t (fun _=>True):=by
  intro H enc w base spare held fuel cs x h _
  obtain⟨b,rfl,_⟩:=DataW.trod_bool ht h
  exact⟨b,rfl,trivial⟩
theorem Nx {w:World} {base:Nat} {a:Addr} {n:Nat} {c:List Value} (h:w.cells? base a n=some c):c.length=n ∧ ∀ i u,c[i]?=some u→w.cell? (a.add i)=some u:=by
  unfold World.cells? at h
  split at h
  · refine⟨by simpa using mapM_some_length h,fun i u hu=>?_⟩
    have hi:i<n:=by
      have h1:=(List.getElem?_eq_some_iff.1 hu).1
      have O:=mapM_some_length h
      simp only[List.length_range] at O
      omega
    have:=mapM_some_get h i i (by simp[hi])
    rw[this,hu]
  · cases h
theorem addr_add (a:Addr) (i j:Nat):(a.add i).add j=a.add (i+j):=by
  unfold Addr.add
  split <;> split <;> simp_all <;> omega
theorem Wd {α:Type} (z:α) (n:Nat) (Q:Nat→α→Prop) (h:∀ i,i<n → ∃ a,Q i a):∃ xs:List α,xs.length=n ∧ ∀ i,(hi:i<xs.length)→Q i xs[i]:=by
  induction n with
  |zero=>exact⟨[],rfl,fun i hi=>absurd hi (by simp)⟩
  |succ n ih=>
    obtain⟨xs,hl,hq⟩:=ih (fun i hi=>h i (by omega))
    obtain⟨a,ha⟩:=h n (by omega)
    refine⟨xs ++ [a],by simp[hl],fun i hi=>?_⟩
    by_cases e:i<xs.length
    · rw[List.getElem_append_left e];exact hq i e
    · simp only[List.length_append,List.length_cons,List.length_nil] at hi
      have:i=xs.length:=by omega
      subst this
      rw[List.getElem_append_right (Nat.le_refl _)]
      simp only[Nat.sub_self,List.getElem_cons_zero]
      rw[hl];exact ha
theorem K9 {H:Type} {P:Program} {e:TypeId}:∀ {l:List (DataW H)} {d:DataW H},d ∈ l → ∀ n ∈ d.weights P e,n ∈ DataW.weightsAll P e l
  |J :: l,d,hd,n,hn=>by
    simp only[DataW.weightsAll,List.mem_append]
    rcases List.mem_cons.1 hd with rfl|hd
    · exact .inl hn
    · exact .inr (K9 hd n hn)
theorem U7 {P:Program} {t e:TypeId} {α:Type} {d:Kd α} {wf:α→Prop} (z:α) (ht:P.underlying t=some (.slice e)) (hc:P.cellsOf e=d.sz) (he:Opens P d e wf):
    Opens P (Kd.slice e d) t (fun xs=>(∀ x ∈ xs,wf x)∧xs.length * P.bytesOf e≤reachBytes):=by
  intro H enc w base spare held fuel cs x h hz
  rcases DataW.trod_slice ht h with⟨rfl,rfl⟩|⟨a,len,cap,elems,rest,n,rfl,rfl,rfl,hb,hl,hm,hlen,hel,_,_⟩
  · exact⟨[],⟨none,0,rfl,Nat.le_refl _,rfl,by simp,fun hp=>absurd hp (by simp)⟩,by simp,by simp⟩
  · have hat:∀ i,i<len → ∃ x:α,wf x ∧ ∃ c,c.length=d.sz∧d.K w x c ∧ ∀ j u,c[j]?=some u→w.cell? (a.add (i * d.sz+j))=some u:=by
      intro i hi
      have h1:=hel i hi
      have O:elems[i]?=some elems[i]:=List.getElem?_eq_getElem (by omega)
      rw[O] at h1
      obtain⟨c,ct,du⟩:=Option.bind_eq_some_iff.1 h1
      have hwt:∀ m ∈ (elems[i]).1.weights P e,m≤reachBytes:=fun m hmm=>hz m (by
        simp only[DataW.weights,ht]
        refine List.mem_cons_of_mem _ (List.mem_append_left _ (K9 ?_ m hmm))
        exact List.mem_map.2 ⟨_,List.getElem_mem _,rfl⟩)
      obtain⟨x,hx,hwf⟩:=he H enc w base spare held n c _ du hwt
      obtain⟨g1,g2⟩:=Nx ct
      refine⟨x,hwf,c,d.K_len hx,hx,fun j u hu=>?_⟩
      have:=g2 j u hu
      rwa[addr_add,hc] at this
    obtain⟨xs,hxl,hxs⟩:=Wd z len _ hat
    refine⟨xs,⟨some a,cap,by rw[hxl],by omega,rfl,by unfold maxLen at hm;omega,fun _=>⟨a,rfl,fun j p hp=>?_⟩⟩,fun x hx=>?_, ?_⟩
    · obtain⟨hj,rfl⟩:=List.getElem?_eq_some_iff.1 hp
      obtain⟨_,c,h1,O,Y⟩:=hxs j hj
      exact⟨c,h1,O,Y⟩
    · obtain⟨j,hj,rfl⟩:=List.mem_iff_getElem.1 hx
      exact(hxs j hj).1
    · have h1:=hz ((elems.length+rest.length) * P.bytesOf e) (by simp[DataW.weights,ht])
      refine Nat.le_trans (Nat.mul_le_mul_right _ ?_) h1
      omega
theorem Jl {P:Program} {t e:TypeId} {α:Type} {d:Kd α} {wf:α→Prop} {B:Nat} (z:α) (ht:P.underlying t=some (.slice e)) (hc:P.cellsOf e=d.sz) (hB:P.bytesOf e=B) (he:Opens P d e wf):
    Opens P (Kd.slice e d) t (fun xs=>(∀ x ∈ xs,wf x)∧xs.length * B≤140737488351232):=by
  subst hB
  exact U7 z ht hc he
def Run (P:Program) {α:Type} (d:Kd α) (fs:List Field) (i o:Nat) (wf:α→Prop):Prop:=
  ∀ (H:Type) (enc:TypeId×Value→H) (w:World) (base:Nat) (spare:Nat→Bool) (held:Bool) (n:Nat) (cs:List Value) (xs:List (DataW H×List MemPlace)),
    (∀ (j:Nat) (f:Field),fs[j]?=some f→DataW.trod enc P w base spare held n f.type ((cs.drop f.offset).take (P.cellsOf f.type))=xs[j]?) →
    (∀ (j:Nat) (f:Field) y,fs[j]?=some f→xs[j]?=some y → ∀ m ∈ y.1.weights P f.type,m≤reachBytes)→xs.length=fs.length →
    ∃ a,d.K w a ((cs.drop o).take d.sz)∧wf a
theorem Xv {P:Program} {α:Type} {d:Kd α} {fs:List Field} {i o:Nat} {wf:α→Prop} (f:Field) (hf:fs[i]?=some f) (ho:f.offset=o) (hc:P.cellsOf f.type=d.sz) (h:Opens P d f.type wf):Run P d fs i o wf:=by
  intro H enc w base spare held n cs xs hr hz hl
  have hi:i<xs.length:=by rw[hl];exact(List.getElem?_eq_some_iff.1 hf).1
  have h1:=hr i f hf
  rw[List.getElem?_eq_getElem hi,ho,hc] at h1
  exact h H enc w base spare held n _ _ h1 (hz i f _ hf (List.getElem?_eq_getElem hi))
theorem Zi {P:Program} {α β:Type} {d:Kd α} {X:Kd β} {fs:List Field} {i o J:Nat} {wf:α→Prop} {B:β→Prop} (f:Field) (hf:fs[i]?=some f) (ho:f.offset=o) (hc:P.cellsOf f.type=d.sz) (h:Opens P d f.type wf)
    (d5:o+d.sz=J) (O:Run P X fs (i+1) J B):Run P (Kd.pair d X) fs i o (fun x=>wf x.1∧B x.2):=by
  intro H enc w base spare held n cs xs hr hz hl
  obtain⟨a,ha,wa⟩:=Xv f hf ho hc h H enc w base spare held n cs xs hr hz hl
  obtain⟨b,hb,wb⟩:=O H enc w base spare held n cs xs hr hz hl
  refine⟨(a,b),⟨(cs.drop o).take d.sz,(cs.drop J).take X.sz, ?_,ha,hb⟩,wa,wb⟩
  show(cs.drop o).take (d.sz+X.sz)=_
  rw[← d5,List.take_add,List.drop_drop]
theorem Ve {H:Type} {P:Program}:∀ {fs:List Field} {xs:List (DataW H×List MemPlace)} {j:Nat} {f:Field} {y:DataW H×List MemPlace},fs[j]?=some f→xs[j]?=some y → ∀ m ∈ y.1.weights P f.type,m ∈ DataW.weightsEach P (fs.map (·.type)) (xs.map (·.1)):=by
  intro fs xs j f y hf hy m hm
  exact DataW.weights_mem_each (j:=j) (by simp[hf]) (by simp[hy]) m hm
theorem Xb {P:Program} {t:TypeId} {α β:Type} {d:Kd α} {g:β→α} {mk:α→β} {fs:Array Field} {wf:α→Prop} (ht:P.underlying t=some (.struct fs)) (hc:P.cellsOf t=d.sz) (hg:∀ a,g (mk a)=a) (h:Run P d fs.toList 0 0 wf):
    Opens P (Kd.iso d g) t (fun b=>wf (g b)):=by
  intro H enc w base spare held fuel cs x hx hz
  obtain⟨xs,n,rfl,rfl,hl,hlen,hf⟩:=DataW.trod_struct ht hx
  obtain⟨a,ha,wa⟩:=h H enc w base spare held n cs xs (fun j f hj=>hf j f (by simpa using hj))
    (fun j f y hj hy m hm=>hz m (by simp only[DataW.weights,ht];exact Ve hj hy m hm)) (by simpa using hlen)
  refine⟨mk a, ?_,by show wf (g (mk a));rw[hg];exact wa⟩
  show d.K w (g (mk a)) cs
  rw[hg]
  rw[List.drop_zero,List.take_of_length_le (by omega)] at ha
  exact ha
theorem Opens.arg {P:Program} {α:Type} {d:Kd α} {t:TypeId} {wf:α→Prop} (h:Opens P d t wf) {H:Type} {enc:TypeId×Value→H} {w:World} {base:Nat} {spare:Nat→Bool} {held:Bool} {v:Value} {x:DataW H} {ps:List MemPlace}
    {ts:List TypeId} {ds:List (DataW H)} {j:Nat} (hsz:(DataW.weightsEach P ts ds).all (· ≤ reachBytes)=true) (hj:ts[j]?=some t) (hd:ds[j]?=some x) (hx:DataW.Trod enc P w base spare held t v x ps):∃ a,d.K w a v.cells.toList∧wf a:=by
  obtain⟨fuel,hf⟩:=hx
  exact h H enc w base spare held fuel _ _ hf (fun n hn=>by
    have:=List.all_eq_true.1 hsz n (DataW.weights_mem_each hj hd n hn)
    simpa using this)
end Go.Proofs.Ytmfffemidlhcpaa.Opens
