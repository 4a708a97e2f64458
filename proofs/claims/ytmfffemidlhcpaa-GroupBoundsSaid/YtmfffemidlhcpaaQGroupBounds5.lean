/- Texts of this claim, one behind the other: what the law's functions come to, walked (printed by a program, with the words that the print uses), and what that is, in plain Lean. No conditions of their own. -/
import Derived.Test.YtmfffemidlhcpaaQGroupBounds4
import Derived.ChangeOld
import Derived.ChangeSlices
import Derived.Lib.SmallJoins
import Derived.OpenShut
import Derived.SizedLaws
import Derived.WideShapes
namespace Go.Proofs.Ytmfffemidlhcpaa.Opens
open Go.RowKit Go.Proofs.YtmfffemidlhcpaaW.PrintWords
set_option linter.unusedVariables false
def Opens (P:Program) {α:Type} (d:Kd α) (t:TypeId) (wf:α→Prop):Prop:=
  ∀ (H:Type) (enc:TypeId×Value→H) (w:World) (base:Nat) (spare:Nat→Bool) (held:Bool) (fuel:Nat) (cs:List Value) (x:DataW H×List MemPlace),
    DataW.trod enc P w base spare held fuel t cs=some x→(∀ n ∈ x.1.weights P t,n≤reachBytes) → ∃ a,d.K w a cs∧wf a
theorem Zc {P:Program} {t:TypeId} (k:IntKind) (ht:P.underlying t=some (.int k)):Opens P (Kd.int k) t (fun n=>(Lit.int k n).wf=true):=by
  intro H enc w base spare held fuel cs x h _
  obtain⟨n,rfl,_,hw⟩:=DataW.trod_int ht h
  exact⟨n,rfl,hw⟩
theorem K6 {P:Program} {t:TypeId} (ht:P.underlying t=some .bool):Opens P Kd.bool t (fun _=>True):=by
  intro H enc w base spare held fuel cs x h _
  obtain⟨b,rfl,_⟩:=DataW.trod_bool ht h
  exact⟨b,rfl,trivial⟩
def Run (P:Program) {α:Type} (d:Kd α) (fs:List Field) (i o:Nat) (wf:α→Prop):Prop:=
  ∀ (H:Type) (enc:TypeId×Value→H) (w:World) (base:Nat) (spare:Nat→Bool) (held:Bool) (n:Nat) (cs:List Value) (xs:List (DataW H×List MemPlace)),
    (∀ (j:Nat) (f:Field),fs[j]?=some f→DataW.trod enc P w base spare held n f.type ((cs.drop f.offset).take (P.cellsOf f.type))=xs[j]?) →
    (∀ (j:Nat) (f:Field) y,fs[j]?=some f→xs[j]?=some y → ∀ m ∈ y.1.weights P f.type,m≤reachBytes)→xs.length=fs.length →
    ∃ a,d.K w a ((cs.drop o).take d.sz)∧wf a
theorem Yb {P:Program} {α:Type} {d:Kd α} {fs:List Field} {i o:Nat} {wf:α→Prop} (f:Field) (hf:fs[i]?=some f) (ho:f.offset=o) (hc:P.cellsOf f.type=d.sz) (h:Opens P d f.type wf):Run P d fs i o wf:=by
  intro H enc w base spare held n cs xs hr hz hl
  have hi:i<xs.length:=by rw[hl];exact(List.getElem?_eq_some_iff.1 hf).1
  have h1:=hr i f hf
  rw[List.getElem?_eq_getElem hi,ho,hc] at h1
  exact h H enc w base spare held n _ _ h1 (hz i f _ hf (List.getElem?_eq_getElem hi))
theorem Zo {P:Program} {α β:Type} {d:Kd α} {d2:Kd β} {fs:List Field} {i o J:Nat} {wf:α→Prop} {B:β→Prop} (f:Field) (hf:fs[i]?=some f) (ho:f.offset=o) (hc:P.cellsOf f.type=d.sz) (h:Opens P d f.type wf)
    (d0:o+d.sz=J) (L:Run P d2 fs (i+1) J B):Run P (Kd.pair d d2) fs i o (fun x=>wf x.1∧B x.2):=by
  intro H enc w base spare held n cs xs hr hz hl
  obtain⟨a,ha,wa⟩:=Yb f hf ho hc h H enc w base spare held n cs xs hr hz hl
  obtain⟨b,hb,wb⟩:=L H enc w base spare held n cs xs hr hz hl
  refine⟨(a,b),⟨(cs.drop o).take d.sz,(cs.drop J).take d2.sz, ?_,ha,hb⟩,wa,wb⟩
  show(cs.drop o).take (d.sz+d2.sz)=_
  rw[← d0,List.take_add,List.drop_drop]
theorem Gs {H:Type} {P:Program}:∀ {fs:List Field} {xs:List (DataW H×List MemPlace)} {j:Nat} {f:Field} {y:DataW H×List MemPlace},fs[j]?=some f→xs[j]?=some y → ∀ m ∈ y.1.weights P f.type,m ∈ DataW.weightsEach P (fs.map (·.type)) (xs.map (·.1)):=by
  intro fs xs j f y hf hy m hm
  exact DataW.weights_mem_each (j:=j) (by simp[hf]) (by simp[hy]) m hm
theorem Xl {P:Program} {t:TypeId} {α β:Type} {d:Kd α} {g:β→α} {mk:α→β} {fs:Array Field} {wf:α→Prop} (ht:P.underlying t=some (.struct fs)) (hc:P.cellsOf t=d.sz) (hg:∀ a,g (mk a)=a) (h:Run P d fs.toList 0 0 wf):
    Opens P (Kd.iso d g) t (fun b=>wf (g b)):=by
  intro H enc w base spare held fuel cs x hx hz
  obtain⟨xs,n,rfl,rfl,hl,hlen,hf⟩:=DataW.trod_struct ht hx
  obtain⟨a,ha,wa⟩:=h H enc w base spare held n cs xs (fun j f hj=>hf j f (by simpa using hj))
    (fun j f y hj hy m hm=>hz m (by simp only[DataW.weights,ht];exact Gs hj hy m hm)) (by simpa using hlen)
  refine⟨mk a, ?_,by show wf (g (mk a));rw[hg];exact wa⟩
  show d.K w (g (mk a)) cs
  rw[hg]
  rw[List.drop_zero,List.take_of_length_le (by omega)] at ha
  exact ha
theorem Opens.arg {P:Program} {α:Type} {d:Kd α} {t:TypeId} {wf:α→Prop} (h:Opens P d t wf) {H:Type} {enc:TypeId×Value→H} {w:World} {base:Nat} {spare:Nat→Bool} {held:Bool} {v:Value} {x:DataW H} {ps:List MemPlace}
    {ts:List TypeId} {ds:List (DataW H)} {j:Nat} (hsz:(DataW.weightsEach P ts ds).all (· ≤ reachBytes)=true) (hj:ts[j]?=some t) (hd:ds[j]?=some x) (hx:DataW.Trod enc P w base spare held t v x ps):∃ a,d.K w a v.cells.toList∧wf a:=by
  obtain⟨fuel,hf⟩:=hx
  exact h H enc w base spare held fuel _ _ hf (fun n hn=>by
    have:=List.all_eq_true.1 hsz n (DataW.weights_mem_each hj hd n hn)
    simpa using this)
end Go.Proofs.Ytmfffemidlhcpaa.Opens
