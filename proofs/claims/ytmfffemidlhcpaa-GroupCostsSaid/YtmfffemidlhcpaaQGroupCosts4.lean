/- Texts of this claim, one behind the other: what the law's functions come to, walked (printed by a program, with the words that the print uses), and what that is, in plain Lean. No conditions of their own. -/
import Derived.Test.YtmfffemidlhcpaaQGroupCosts3
namespace Go.Proofs.Ytmfffemidlhcpaa.C
open Go.RowKit Go.Proofs.YtmfffemidlhcpaaW.PrintWords Go.Proofs.YtmfffemidlhcpaaW.PrintLast Go.Proofs.YtmfffemidlhcpaaW.PrintMore
set_option linter.unusedVariables false
structure Flat {α:Type} (d:Kd α) (enc:α→List Value):Prop where
  len:∀ x,(enc x).length=d.sz
  one:∀ x,∀ u ∈ enc x,u.oneCell'=true
  M:∀ w base ok x cs,d.M w base ok x cs↔cs=enc x
  K:∀ w x cs,d.K w x cs↔cs=enc x
def Yk {α:Type} (enc:α→List Value) (xs:List α):List Value:=xs.flatMap enc
section
variable {α : Type} {d : Kd α} {enc : α → List Value}
theorem Gm (x:α) (xs:List α):Yk enc (x :: xs)=enc x++Yk enc xs:=rfl
theorem Vq (xs ys:List α):Yk enc (xs++ys)=Yk enc xs++Yk enc ys:=List.flatMap_append
theorem G9 (F:Flat d enc) (xs:List α):(Yk enc xs).length=xs.length * d.sz:=by
  induction xs with
  |nil=>simp[Yk]
  |cons x xs ih=>rw[Gm,List.length_append,F.len,ih,List.length_cons,Nat.add_mul,Nat.one_mul,Nat.add_comm]
theorem U9 (F:Flat d enc) (xs:List α) (m:Nat) (h:m≤xs.length):(Yk enc xs).take (m * d.sz)=Yk enc (xs.take m):=by
  have e:Yk enc xs=Yk enc (xs.take m)++Yk enc (xs.drop m):=by rw[← Vq,List.take_append_drop]
  have hl:(Yk enc (xs.take m)).length=m * d.sz:=by rw[G9 F,List.length_take,Nat.min_eq_left h]
  rw[e,← hl,List.take_left']
  rfl
theorem G6 (F:Flat d enc) {R:α→List Value→Prop} (hR:∀ p c,R p c↔c=enc p) (xs:List α):∀ inner,Reps R d.sz xs inner↔inner=Yk enc xs:=by
  induction xs with
  |nil=>
    intro inner
    constructor
    · intro h
      have:=h.1
      simp only[List.length_nil,Nat.zero_mul] at this
      exact List.eq_nil_of_length_eq_zero this
    · rintro rfl
      exact Reps.none _ _
  |cons x xs ih=>
    intro inner
    constructor
    · intro h
      have h1:=h.2 0 x rfl
      rw[hR,Nat.zero_mul,List.drop_zero] at h1
      have L:=Kd.La (m:=1) h
      rw[List.drop_one,List.tail_cons,ih,Nat.one_mul] at L
      rw[Gm,← h1,← L,List.take_append_drop]
    · rintro rfl
      have h1:Reps R d.sz [x] (enc x):=by
        have:=Reps.snoc (Reps.none R d.sz) ((hR x (enc x)).2 rfl) (F.len x)
        simpa using this
      exact Kd.Jj (ps:=[x]) h1 ((ih _).2 rfl)
theorem Vz (F:Flat d enc) {e:Nat} {w:World} {base:Nat} {ok:Nat→Prop} {v:Value} {xs:List α}:d.R e w base ok v xs↔(∀ k,v.ownBlock=some k→ok k)∧w.ownsRow base e d.sz v xs.length (Yk enc xs):=by
  constructor
  · rintro⟨X,inner,ho,hr⟩
    rw[G6 F (fun p c=>F.M _ _ _ p c)] at hr
    subst hr
    exact⟨X,ho⟩
  · rintro⟨X,ho⟩
    exact⟨X,_,ho,(G6 F (fun p c=>F.M _ _ _ p c) xs _).2 rfl⟩
theorem U1 {P:Program} (w:World) (t e ty:TypeId) (z:Value) (ht:P.underlying t=some (.slice e)) (hv:∀ w,(zeroValue e).run P w = .ok z w) (J:∀ u ∈ z.cells.toList,u.oneCell'=true) (b o n c:Nat) (hn:0<n)
    (hc:∀ j,j<n * z.cells.size→(w.cell? ⟨b,o+j,none⟩).isSome=true) (hf:∀ j,j<n * z.cells.size→w.frozen? ⟨b,o+j,none⟩=false):
    ∃ vs,vs.length=n * z.cells.size∧(Builtin.clear_ #[t] ty #[.slice (some ⟨b,o,none⟩) n c]).run P w = .ok (.tuple #[]) (w.setCells b o vs):=by
  refine⟨(Builtin.zeroCells z.cells n).toList,by simp[Builtin.zeroCells], ?_⟩
  have hl:(Builtin.zeroCells z.cells n).toList.length=n * z.cells.size:=by simp[Builtin.zeroCells]
  have h1:∀ v ∈ (Builtin.zeroCells z.cells n).toList,v.oneCell'=true:=by
    intro v hv'
    simp only[Builtin.zeroCells,Array.mem_toList_iff,Array.mem_map,Array.mem_range] at hv'
    obtain⟨i,hi,rfl⟩:=hv'
    have hs:0<z.cells.size:=by
      rcases Nat.eq_zero_or_pos z.cells.size with h|h
      · rw[h,Nat.mul_zero] at hi;omega
      · exact h
    have hm:i % z.cells.size<z.cells.size:=Nat.mod_lt _ hs
    rw[getElem!_pos z.cells _ hm]
    exact J _ (by simp)
  have hst:=run_storeCells_cells (P:=P) b o (Builtin.zeroCells z.cells n).toList 0 w (by rw[hl];simpa using hc) (by rw[hl];simpa using hf) h1
  simp only[Nat.add_zero] at hst
  obtain⟨m,rfl⟩:∃ m,n=m+1:=⟨n-1,by omega⟩
  simp[Builtin.clear_,run_underlying ht,hv,hst]
theorem L1 (g j:Nat):(⟨g,0,none⟩:Addr).add j=⟨g,j,none⟩:=by unfold Addr.add;split <;> simp_all
theorem Li {W:World} {g:Nat} {vs:List Value} {o:Nat}:W.grownBy (W.setCells g o vs) (some g):=by
  obtain⟨s1,s2,s3,s4⟩:=Yx g vs o W
  exact⟨s1,s2,s3,by rw[s4];exact Nat.le_refl _,fun k _ hk=>Y4 _ _ k (fun he=>hk (by rw[he]))⟩
theorem Lt {P:Program} (F:Flat d enc) {W:World} {base:Nat} {ok:Nat→Prop} {e:Nat} (t ty:TypeId) (ht:P.underlying t=some (.slice e)) (z:Value) (hv:∀ w,(zeroValue e).run P w = .ok z w) (J:∀ u ∈ z.cells.toList,u.oneCell'=true) (hzs:z.cells.size=d.sz)
    (A:Option Addr) (c:Nat) (xs:List α) (HO:d.R e W base ok (.slice A xs.length c) xs) (i:Nat) (hi:i≤xs.length):
    ∃ w1,(Builtin.clear_ #[t] ty #[.slice (if c=i then A else A.map (·.add (i * d.sz))) (xs.length-i) (c-i)]).run P W = .ok (.tuple #[]) w1∧d.R e w1 base ok (.slice A i c) (xs.take i)∧W.grownBy w1 (Value.slice A i c).ownBlock:=by
  obtain⟨X,ho⟩:=(Vz F).1 HO
  have hob:(Value.slice A i c).ownBlock=(Value.slice A xs.length c).ownBlock:=by cases A <;> rfl
  rcases ho.2 with⟨B,L⟩|⟨g,cap,cur,B,hb,hh,hnc,hcm,hcs,htake⟩
  · injection B with e1 e2 Z
    subst e1 Z
    have O:i=0:=by omega
    subst O
    refine⟨W, ?_, ?_,World.grownBy.refl W _⟩
    · rw[L]
      simp[Builtin.clear_,run_underlying ht]
    · have:xs = []:=List.eq_nil_of_length_eq_zero L
      subst this
      exact Kd.Xw _ _ _ _ _
  · injection B with e1 e2 Z
    subst e1 Z
    have own_i:∀ (w1:World) (cur':Array Value),w1.heap[g]?=some (.cells cur' e (0,0))→cur'.size=cur.size→cur'.toList.take (i * d.sz)=cur.toList.take (i * d.sz)→d.R e w1 base ok (.slice (some ⟨g,0,none⟩) i c) (xs.take i):=by
      intro w1 cur' g1 g2 Y
      rw[Vz F]
      have hl:(xs.take i).length=i:=by rw[List.length_take,Nat.min_eq_left hi]
      refine⟨fun k hk=>X k (by simpa[Value.ownBlock] using hk), ?_⟩
      rw[hl]
      refine⟨by rw[G9 F,hl],.inr ⟨g,c,cur',rfl,hb,g1,by omega,hcm,by rw[g2,hcs], ?_⟩⟩
      have hq:cur.toList.take (i * d.sz)=(cur.toList.take (xs.length * d.sz)).take (i * d.sz):=by
        rw[List.take_take,Nat.min_eq_left (Nat.mul_le_mul_right _ hi)]
      rw[Y,hq,htake,U9 F xs i hi]
    rcases Nat.lt_or_ge i xs.length with hlt|hge
    · rw[if_neg (by omega)]
      simp only[Option.map_some,L1]
      have hsz:(xs.length-i) * z.cells.size+i * d.sz≤cur.size:=by
        rw[hzs,hcs,← Nat.add_mul]
        exact Nat.mul_le_mul_right _ (by omega)
      obtain⟨vs,hvl,hrun⟩:=U1 (P:=P) W t e ty z ht hv J g (i * d.sz) (xs.length-i) (c-i) (by omega)
        (fun j hj=>by rw[cell_of_row W g _ cur e (0,0) hh];simp;omega) (fun j _=>Qr hh _)
      obtain⟨cur',g1,g2,Y⟩:=Y3 vs (i * d.sz) W cur hh (by rw[hvl];omega)
      refine⟨_,hrun,own_i _ cur' g1 g2 ?_, ?_⟩
      · rw[Y,List.append_assoc,List.take_append_of_le_length (by rw[List.length_take];simp;omega),List.take_take,Nat.min_self]
      · have:(Value.slice (some ⟨g,0,none⟩) i c).ownBlock=some g:=rfl
        rw[this]
        exact Li
    · have hie:i=xs.length:=by omega
      refine⟨W, ?_,own_i W cur hh rfl rfl,World.grownBy.refl W _⟩
      rw[hie,Nat.sub_self]
      split <;> simp[Builtin.clear_,run_underlying ht]
theorem Uv {P:Program} {ops:Array Oper} {o:Oper} {rest:List Oper} {a:Act} {Q:Exit→Act→World→Prop} (F:Flat d enc) {W:World} {base:Nat} {ok:Nat→Prop} {e:Nat} (hgd:o.guard=none) (x:Operand) (t:TypeId) (ho:o.op = .call {callee:=.builtin .clear,args:=#[x],argTypes:=#[t]})
    (ht:P.underlying t=some (.slice e)) (z:Value) (hv:∀ w,(zeroValue e).run P w = .ok z w) (J:∀ u ∈ z.cells.toList,u.oneCell'=true) (hzs:z.cells.size=d.sz)
    (A A1:Option Addr) (c c1 O:Nat) (xs:List α) (HO:d.R e W base ok (.slice A xs.length c) xs) (i:Nat) (hi:i≤xs.length) (B:A1=(if c=i then A else A.map (·.add (i * d.sz)))) (L:O=xs.length-i) (dj:c1=c-i) (hx:a.eval x = .slice A1 O c1)
    (h:∀ w1,d.R e w1 base ok (.slice A i c) (xs.take i)→W.grownBy w1 (Value.slice A i c).ownBlock→wpList P ops Q rest (a.put o.dst (.tuple #[])) w1):wpList P ops Q (o :: rest) a W:=by
  subst B L dj
  obtain⟨w1,hr,hR,hg⟩:=Lt F t o.type ht z hv J hzs A c xs HO i hi
  refine Kd.Kp hgd (v:=.tuple #[]) (w1:=w1) ?_ (h w1 hR hg)
  unfold execOp
  simp only[ho,resolve,invoke,builtin,Sem.run_bind,Sem.run_pure,Result.andThen_ok,List.map_toArray,List.map_cons,List.map_nil,hx,hr]
theorem Wa {P:Program} {ops:Array Oper} {o:Oper} {rest:List Oper} {a:Act} {Q:Exit→Act→World→Prop} (F:Flat d enc) {w w0 W:World} {S ok:Nat→Prop} {e:Nat} (hgd:o.guard=none) (x:Operand) (t:TypeId) (ho:o.op = .call {callee:=.builtin .clear,args:=#[x],argTypes:=#[t]})
    (ht:P.underlying t=some (.slice e)) (z:Value) (hv:∀ w,(zeroValue e).run P w = .ok z w) (J:∀ u ∈ z.cells.toList,u.oneCell'=true) (hzs:z.cells.size=d.sz)
    (A A1:Option Addr) (c c1 O:Nat) (xs:List α) (HO:d.R e W w0.heap.size ok (.slice A xs.length c) xs) (i:Nat) (hi:i≤xs.length) (B:A1=(if c=i then A else A.map (·.add (i * d.sz)))) (L:O=xs.length-i) (dj:c1=c-i) (hx:a.eval x = .slice A1 O c1)
    (HB:Below w0.heap.size w0 W) (HK:Kept w W S) (hok:∀ k,ok k→S k∨w.heap.size≤k) (ys:List α) (hys:ys=xs.take i)
    (h:∀ w1,d.R e w1 w0.heap.size ok (.slice A ys.length c) ys→Below w0.heap.size w0 w1→Kept w w1 S→wpList P ops Q rest (a.put o.dst (.tuple #[])) w1):wpList P ops Q (o :: rest) a W:=by
  have hob:(Value.slice A i c).ownBlock=(Value.slice A xs.length c).ownBlock:=by cases A <;> rfl
  have hl:ys.length=i:=by rw[hys,List.length_take,Nat.min_eq_left hi]
  refine Uv F hgd x t ho ht z hv J hzs A A1 c c1 O xs HO i hi B L dj hx ?_
  intro w1 hR hg
  rw[hob] at hg
  refine h w1 (by rw[hl,hys];exact hR) (HB.grown hg HB.size (Yj ((Vz F).1 HO).2)) (Kept.Gf hg HK (fun k hk=>hok k (HO.1 k hk)))
end
theorem flatI:Flat k86 (fun x=>[.int .i64 x.f0,.int .i64 x.f1]) where
  len:=fun _=>rfl
  one:=fun x u hu=>by
    simp only[List.mem_cons,List.not_mem_nil,or_false] at hu
    rcases hu with rfl|rfl <;> rfl
  M:=fun w base ok x cs=>⟨Js,fun h=>by rw[h];exact Vn w base ok x⟩
  K:=fun w x cs=>⟨Ke,fun h=>by rw[h];exact Mj w x⟩
theorem zeroI (w:World):(zeroValue 86).run Try.prog w = .ok (.agg #[.int .i64 0,.int .i64 0]) w:=by kernel_rfl
theorem X6 {w W:World} {S:Nat→Prop} {g:Nat} {o:Obj} (h:w.heap[g]?=some o) (hk:Kept w W S) (hn:¬ S g):W.heap[g]?=some o:=(hk.2 g (Xg h) hn).trans h
end Go.Proofs.Ytmfffemidlhcpaa.C
namespace Go.Proofs.Ytmfffemidlhcpaa.C
open Go.RowKit Go.Proofs.YtmfffemidlhcpaaW.PrintWords Go.Proofs.YtmfffemidlhcpaaW.PrintLast Go.Proofs.YtmfffemidlhcpaaW.PrintMore
attribute [local go_sem] Zz Zx Z9 Z8 Zq Zp Zy Zw
set_option linter.unusedVariables false
set_option linter.unusedSimpArgs false
def api_Inside_90.l0:Nat→List (S86)→Int→Int→Int→Option ((List (S86)))
 |0,_,_,_,_=>none
 |k+1,B,J,L,Z=>if Z<(B.length:Int) then (if 0≤Z then ((api_Inside_without_1.f ((Qo B Z).f0) ((Qo B Z).f1) J).bind fun κ =>(if κ = true then (api_Inside_90.l0 k B J L (wrap64 (Z+1))) else (if 0≤L then (if L<(B.length:Int) then (api_Inside_90.l0 k (B.set (L:Int).toNat (⟨(Qo B Z).f0,(Qo B Z).f1⟩:S86)) J (wrap64 (L+1)) (wrap64 (Z+1))) else (none)) else (none)))) else (none)) else (if 0≤L then (if L≤(B.length:Int) then (some (B.take (L:Int).toNat)) else (none)) else (none))
def api_Inside_90.f (k:Nat) (l0:List (S86)) (O:Int):Option ((List (S86))):=(api_Inside_100.f k l0 O).bind fun ε =>(if ε = (-1) then (some l0) else (api_Inside_90.l0 k l0 O ε (wrap64 (ε + 1))))
set_option maxHeartbeats 8000000 in
set_option maxRecDepth 100000 in
theorem api_Inside_90.calls (k:Nat) (γ:Nat→Prop) (a5:Value) (l0:List (S86)) (O:Int) (r:List (S86)) (w0 w:World) (hB:Below w0.heap.size w0 w) (ai:Kd.R k86 86 w w0.heap.size γ a5 l0) (h:api_Inside_90.f k l0 O=some r) (Ar_:Option Addr) (nr_ cr_ gr_ gx_:Nat) (zx_:Int) (hgr_:w.heap[gr_]?=some (.cells #[.slice Ar_ nr_ cr_,.func (.func 83) #[] #[]] 116 (0,0))) (hgx_:w.heap[gx_]?=some (.cells #[.int .i64 (Yf O),.int .i64 (Ye O)] 86 (0,0))) (hnr_:¬ γ gr_) (hnx_:¬ γ gx_):
  Calls Try.prog 90 #[a5,.func (.func 92) #[] #[.pointer (some ⟨gr_,0,none⟩),.pointer (some ⟨gx_,0,none⟩)]] w fun e w'=>∃ bd:Value,e = .returned (bd)∧Kd.R k86 86 w' w0.heap.size (fun k_=>(γ k_∨w.heap.size≤k_)) bd r∧Below w0.heap.size w0 w'∧Kept w w' (fun k_=>γ k_):=by
 have HCR:=Aside0.mk hgr_
 have HCX:=Aside0.mk hgx_
 have HNR:=Aside0.mk hnr_
 have HNX:=Aside0.mk hnx_
 clear hgr_ hgx_ hnr_ hnx_
 have dp:=Try.underlying86
 have δ :=Aside0.mk (show Kd.R k86 86 w w0.heap.size (fun k_=>(γ k_∨w.heap.size≤k_)) a5 l0 from Kd.Q0 ai (fun k_ hk=>(.inl hk)))
 have HK:=Aside0.mk (Kept.refl w (fun k_=>γ k_))
 have df:=Aside0.mk hB.size
 have HB:=Aside0.mk hB
 clear hB
 have H:((api_Inside_100.f k l0 O).bind fun ε =>(if ε = (-1) then (some l0) else (api_Inside_90.l0 k l0 O ε (wrap64 (ε + 1)))))=some r:=h
 clear h
 replace H:=Option.bind_eq_some_iff.mp H
 obtain⟨ε,aa,H⟩:=H
 replace H:(if ε = (-1) then (some l0) else (api_Inside_90.l0 k l0 O ε (wrap64 (ε + 1))))=some r:=H
 have A3:=Aside0.mk aa
 clear aa
 by_cases c4: ε = (-1)
 ·rw[if_pos c4] at H
  have c4b0:(ε == (-1))=true:=beq_iff_eq.mpr c4
  have c4b1:(ε != (-1))=false:=bne_eq_false_iff_eq.mpr c4
  clear c4
  obtain rfl:=Option.some.inj H
  obtain⟨dh,di,d6⟩:=Kd.Q9 δ.out
  subst d6
  go_enter Try.func90,Try.ntmps90
  go_wp2_with (first|(go_at_call 100;((with_reducible refine(api_Inside_100.calls k _ _ l0 O ε _ ?side1 ?side2 A3.out Ar_ nr_ cr_ gr_ gx_ zx_ (X6 HCR.out (by repeat(first|(with_reducible first|exact HK.out|apply Kept.alloc|apply Kept.drewN|apply Kept.drew|refine Kept.setCell ?_ (.inr σ.out) _)|exact HK.out)) HNR.out) (X6 HCX.out (by repeat(first|(with_reducible first|exact HK.out|apply Kept.alloc|apply Kept.drewN|apply Kept.drew|refine Kept.setCell ?_ (.inr σ.out) _)|exact HK.out)) HNX.out)).mono ?_);(case side1=>exact(Kd.Qz δ.out).2.2);(case side2=>exact(Kd.Qz δ.out).2.1);rintro e w6 ⟨rfl,hb⟩;have ρ:=Aside0.mk (Kd.Z4 δ.out hb);have χ :=Aside0.mk (Kept.below (S:=(fun k_=>γ k_)) (by repeat(first|(with_reducible first|exact HK.out|apply Kept.alloc|apply Kept.drewN|apply Kept.drew)|exact HK.out)) hb);have a3:=Aside0.mk (Qy HB.out hb);clear δ;clear HK;clear HB;have δ :=ρ;have HK:= χ;have HB:=a3;clear ρ χ a3;(try clear hb);(try clear a4);(try clear hk);(try clear hi))))
  go_ret
  exact⟨_,rfl,by(with_reducible repeat first|apply Kd.Qx|apply Kd.Qw|apply Kd.Q2);exact δ.out,HB.out,by repeat(first|(with_reducible first|exact HK.out|apply Kept.alloc|apply Kept.drewN|apply Kept.drew)|exact HK.out)⟩
 ·rw[if_neg c4] at H
  have c4b0:(ε == (-1))=false:=beq_eq_false_iff_ne.mpr c4
  have c4b1:(ε != (-1))=true:=bne_iff_ne.mpr c4
  have H':=Aside0.mk H
  clear H
  obtain⟨ac,μ,d7⟩:=Kd.Q9 δ.out
  subst d7
  go_enter Try.func90,Try.ntmps90
  go_wp2_with (first|(go_at_call 100;((with_reducible refine(api_Inside_100.calls k _ _ l0 O ε _ ?side1 ?side2 A3.out Ar_ nr_ cr_ gr_ gx_ zx_ (X6 HCR.out (by repeat(first|(with_reducible first|exact HK.out|apply Kept.alloc|apply Kept.drewN|apply Kept.drew|refine Kept.setCell ?_ (.inr σ.out) _)|exact HK.out)) HNR.out) (X6 HCX.out (by repeat(first|(with_reducible first|exact HK.out|apply Kept.alloc|apply Kept.drewN|apply Kept.drew|refine Kept.setCell ?_ (.inr σ.out) _)|exact HK.out)) HNX.out)).mono ?_);(case side1=>exact(Kd.Qz δ.out).2.2);(case side2=>exact(Kd.Qz δ.out).2.1);rintro e w8 ⟨rfl,hb⟩;have ρ:=Aside0.mk (Kd.Z4 δ.out hb);have χ :=Aside0.mk (Kept.below (S:=(fun k_=>γ k_)) (by repeat(first|(with_reducible first|exact HK.out|apply Kept.alloc|apply Kept.drewN|apply Kept.drew)|exact HK.out)) hb);have a3:=Aside0.mk (Qy HB.out hb);clear δ;clear HK;clear HB;have δ :=ρ;have HK:= χ;have HB:=a3;clear ρ χ a3;(try clear hb);(try clear a4);(try clear hk);(try clear hi))))
  go_loopg [5,6] k (fun kq v5 v6 w'=>∃ (J:List (S86)) (B:Int) (L:Int),v5 = .int .i64 B∧v6 = .int .i64 L∧Aside0 (api_Inside_90.l0 kq J O B L=some r)∧Aside0 (kq≤k)∧Aside0 (Kd.R k86 86 w' w0.heap.size (fun k_=>(γ k_∨w.heap.size≤k_)) (.slice ac l0.length μ) J)∧Aside0 (Kept w w' (fun k_=>γ k_))∧Aside0 (Below w0.heap.size w0 w'))
  case atStart=>exact⟨(l0),(ε),(wrap64 (ε + 1)),rfl,rfl,H',⟨Nat.le_refl _⟩,⟨by(with_reducible repeat first|apply Kd.Qx|apply Kd.Qw|apply Kd.Q2);exact δ.out⟩,⟨by repeat(first|(with_reducible first|exact HK.out|apply Kept.alloc|apply Kept.drewN|apply Kept.drew)|exact HK.out)⟩,HB⟩
  case round=>
   clear H'
   try clear c1
   try clear p2
   try clear c4
   try clear c4b0
   try clear c4b1
   try clear p6
   obtain⟨J,B,L,rfl,rfl,HA,an,HO_0,HK,HB⟩:=hrel
   have ζ :=(Kd.Qz HO_0.out).1
   rw[ζ] at HO_0
   (try simp only[ζ])
   cases gk with
   |zero=>exact absurd HA.out (by simp[api_Inside_90.l0])
   |succ k1=>
    have H:=HA.out
    clear HA
    simp only[api_Inside_90.l0] at H
    by_cases c9:L<(J.length:Int)
    ·rw[if_pos c9] at H
     have c9b0:decide (L<(J.length:Int))=true:=decide_eq_true c9
     clear c9
     by_cases c10:0≤L
     ·rw[if_pos c10] at H
      have c10b0:decide (0≤L)=true:=decide_eq_true c10
      clear c10
      replace H:=Option.bind_eq_some_iff.mp H
      obtain⟨κ,bk,H⟩:=H
      replace H:(if κ = true then (api_Inside_90.l0 k1 J O B (wrap64 (L+1))) else (if 0≤B then (if B<(J.length:Int) then (api_Inside_90.l0 k1 (J.set (B:Int).toNat (⟨(Qo J L).f0,(Qo J L).f1⟩:S86)) O (wrap64 (B+1)) (wrap64 (L+1))) else (none)) else (none)))=some r:=H
      have ca:=Aside0.mk bk
      clear bk
      by_cases ae: κ = true
      ·subst ae
       have H1:(api_Inside_90.l0 k1 J O B (wrap64 (L+1)))=some r:=by rw[if_pos rfl] at H;exact H
       clear H
       have H:=H1
       clear H1
       have H':=Aside0.mk H
       clear H
       have a9:0≤(L:Int):=of_decide_eq_true (by assumption)
       have ab:L<(J.length:Int):=of_decide_eq_true (by assumption)
       obtain⟨Z,b4,ι,ξ⟩:=Y9 (Kd.Qz HO_0.out).2.2 L a9 ab
       cases b4
       replace a9:=eq_true a9
       replace ab:=eq_true ab
       go_wp2_with (first|((with_reducible refine Qe (N:=7) rfl ?_);refine qE 7 #[.int .i64 0,.int .i64 0] 86 ?_;intro Y hg i3 hbox hb;have X:=Aside0.mk hbox;have σ:=Aside0.mk ((by rw[hg];exact(by first|exact HK.out.1|exact(show Kept w _ (fun k_=>γ k_) from by repeat(first|(with_reducible first|exact HK.out|apply Kept.alloc|apply Kept.drewN|apply Kept.drew)|exact HK.out)).1):w.heap.size≤Y));have b7:=Aside0.mk ((by rw[hg];exact(Qu bel):w0.heap.size≤Y));replace HO_0:=Aside0.mk (Kd.Z4 (Kd.Yp (kra HO_0) Y (Nat.le_of_eq hg.symm)) hb);replace HK:=Aside0.mk (Kept.below (S:=(fun k_=>γ k_)) (by repeat(first|(with_reducible first|exact HK.out|apply Kept.alloc|apply Kept.drewN|apply Kept.drew)|exact HK.out)) hb);replace HB:=sHb hb;clear hb hbox hg;obtain⟨bg,bh,bi,bj⟩:=qD2 X.out)|(go_at_call 92;((with_reducible refine(api_Inside_without_1.calls ((Qo J L).f0) ((Qo J L).f1) O true _ ca.out Ar_ nr_ cr_ gr_ gx_ zx_ (X6 HCR.out (by repeat(first|(with_reducible first|exact HK.out|apply Kept.alloc|apply Kept.drewN|apply Kept.drew|refine Kept.setCell ?_ (.inr σ.out) _)|exact HK.out)) HNR.out) (X6 HCX.out (by repeat(first|(with_reducible first|exact HK.out|apply Kept.alloc|apply Kept.drewN|apply Kept.drew|refine Kept.setCell ?_ (.inr σ.out) _)|exact HK.out)) HNX.out)).mono ?_);rintro e g9 ⟨rfl,hb⟩;have ρ:=Aside0.mk (Kd.Z4 (by(with_reducible repeat first|apply Kd.Qx|apply Kd.Qw|apply Kd.Q2);exact(Kd.Q0 (Kd.Qv (Kd.Qv (Kd.Q0 HO_0.out (fun k_ hk=>(⟨hk,hk.2⟩:_∧k_≠Y))) (fun _ hk=>hk.2) (.int .i64 ((Qo J L).f0))) (fun _ hk=>hk.2) (.int .i64 ((Qo J L).f1))) (fun _ h_=>h_.1))) hb);have χ :=Aside0.mk (Qt (g:=Y) (o:=.cells #[.int .i64 ((Qo J L).f0),.int .i64 ((Qo J L).f1)] 86 (0,0)) (by(with_reducible repeat first|refine Qk ?_ _|refine Qf ?_|refine Ql ?_ _);refine Qm (cs:=#[.int .i64 ((Qo J L).f0),.int .i64 0]) ?_ 1 _ rfl;(with_reducible repeat first|refine Qk ?_ _|refine Qf ?_|refine Ql ?_ _);refine Qm (cs:=#[.int .i64 0,.int .i64 0]) ?_ 0 _ rfl;(with_reducible repeat first|refine Qk ?_ _|refine Qf ?_|refine Ql ?_ _);exact X.out) hb);have a3:=Aside0.mk (Kept.below (S:=(fun k_=>γ k_)) (by repeat(first|(with_reducible first|exact HK.out|apply Kept.alloc|apply Kept.drewN|apply Kept.drew|refine Kept.setCell ?_ (.inr σ.out) _)|exact HK.out)) hb);have a8:=Aside0.mk (Qy bel hb);clear HO_0;clear X;clear HK;clear HB;have HO_0:=ρ;have X:= χ;have HK:=a3;have HB:=a8;clear ρ χ a3 a8;(try clear hb);(try clear a4);(try clear hk);(try clear hi))))
       (try simp only[← ζ])
       go_roundg k1
       case measure=>have:=an.out;omega
       case rel=>exact⟨(J),(B),(wrap64 (L+1)),rfl,rfl,H',⟨by have:=an.out;omega⟩,⟨by(try simp only[ζ]);(with_reducible repeat first|apply Kd.Qx|apply Kd.Qw|apply Kd.Q2);exact Kd.Q0 HO_0.out (fun _ hk=>hk.1)⟩,⟨by repeat(first|(with_reducible first|exact HK.out|apply Kept.alloc|apply Kept.drewN|apply Kept.drew|refine Kept.setCell ?_ (.inr σ.out) _)|exact HK.out)⟩,HB⟩
      ·replace ae:=Bool.eq_false_iff.mpr ae
       subst ae
       have H1:(if 0≤B then (if B<(J.length:Int) then (api_Inside_90.l0 k1 (J.set (B:Int).toNat (⟨(Qo J L).f0,(Qo J L).f1⟩:S86)) O (wrap64 (B+1)) (wrap64 (L+1))) else (none)) else (none))=some r:=by rw[if_neg (show ¬ (false=true) by decide)] at H;exact H
       clear H
       have H:=H1
       clear H1
       by_cases a6:0≤B
       ·rw[if_pos a6] at H
        have c16b0:decide (0≤B)=true:=decide_eq_true a6
        clear a6
        by_cases af:B<(J.length:Int)
        ·rw[if_pos af] at H
         have c17b0:decide (B<(J.length:Int))=true:=decide_eq_true af
         clear af
         obtain⟨a0,θ⟩:∃ y_:List (S86),y_=(J.set (B:Int).toNat (⟨(Qo J L).f0,(Qo J L).f1⟩:S86)):=⟨_,rfl⟩
         replace H:(api_Inside_90.l0 k1 a0 O (wrap64 (B+1)) (wrap64 (L+1)))=some r:=by first|(rw[θ];with_reducible exact H)|(have am:=(Option.bind_some _ _).symm.trans H;rw[θ];with_reducible exact am)|(have am:=(Option.bind_some _ _).symm.trans H;with_reducible exact am)|with_reducible exact H|(rw[θ];exact H)|exact H
         have ag:=Aside0.mk θ
         clear θ
         have H':=Aside0.mk H
         clear H
         have a9:0≤(L:Int):=of_decide_eq_true (by assumption)
         have ab:L<(J.length:Int):=of_decide_eq_true (by assumption)
         obtain⟨Z,b4,ι,ξ⟩:=Y9 (Kd.Qz HO_0.out).2.2 L a9 ab
         cases b4
         replace a9:=eq_true a9
         replace ab:=eq_true ab
         go_wp2_with (first|((with_reducible refine Qe (N:=7) rfl ?_);refine qE 7 #[.int .i64 0,.int .i64 0] 86 ?_;intro Y hg ay hbox hb;have X:=Aside0.mk hbox;have σ:=Aside0.mk ((by rw[hg];exact(by first|exact HK.out.1|exact(show Kept w _ (fun k_=>γ k_) from by repeat(first|(with_reducible first|exact HK.out|apply Kept.alloc|apply Kept.drewN|apply Kept.drew)|exact HK.out)).1):w.heap.size≤Y));have b7:=Aside0.mk ((by rw[hg];exact(Qu HB.out):w0.heap.size≤Y));replace HO_0:=Aside0.mk (Kd.Z4 (Kd.Yp HO_0.out Y (Nat.le_of_eq hg.symm)) hb);replace HK:=Aside0.mk (Kept.below (S:=(fun k_=>γ k_)) (by repeat(first|(with_reducible first|exact HK.out|apply Kept.alloc|apply Kept.drewN|apply Kept.drew)|exact HK.out)) hb);replace HB:=sHb hb;clear hb hbox hg;obtain⟨a7,ar,au,av⟩:=qD2 X.out)|(go_at_call 92;((with_reducible refine(api_Inside_without_1.calls ((Qo J L).f0) ((Qo J L).f1) O false _ ca.out Ar_ nr_ cr_ gr_ gx_ zx_ (X6 HCR.out (by repeat(first|(with_reducible first|exact HK.out|apply Kept.alloc|apply Kept.drewN|apply Kept.drew|refine Kept.setCell ?_ (.inr σ.out) _)|exact HK.out)) HNR.out) (X6 HCX.out (by repeat(first|(with_reducible first|exact HK.out|apply Kept.alloc|apply Kept.drewN|apply Kept.drew|refine Kept.setCell ?_ (.inr σ.out) _)|exact HK.out)) HNX.out)).mono ?_);rintro e bc ⟨rfl,hb⟩;have ρ:=Aside0.mk (Kd.Z4 (by(with_reducible repeat first|apply Kd.Qx|apply Kd.Qw|apply Kd.Q2);exact(Kd.Q0 (Kd.Qv (p:=⟨Y,1,none⟩) (Kd.Qv (p:=⟨Y,0,none⟩) (Kd.Q0 HO_0.out (fun k_ hk=>(⟨hk,hk.2⟩:_∧k_≠Y))) (fun _ hk=>hk.2) (.int .i64 ((Qo J L).f0))) (fun _ hk=>hk.2) (.int .i64 ((Qo J L).f1))) (fun _ h_=>h_.1))) hb);have χ :=Aside0.mk (Qt (g:=Y) (o:=.cells #[.int .i64 ((Qo J L).f0),.int .i64 ((Qo J L).f1)] 86 (0,0)) (by(with_reducible repeat first|refine Qk ?_ _|refine Qf ?_|refine Ql ?_ _);refine Qm (cs:=#[.int .i64 ((Qo J L).f0),.int .i64 0]) ?_ 1 _ rfl;(with_reducible repeat first|refine Qk ?_ _|refine Qf ?_|refine Ql ?_ _);refine Qm (cs:=#[.int .i64 0,.int .i64 0]) ?_ 0 _ rfl;(with_reducible repeat first|refine Qk ?_ _|refine Qf ?_|refine Ql ?_ _);exact X.out) hb);have a3:=Aside0.mk (Kept.below (S:=(fun k_=>γ k_)) (by repeat(first|(with_reducible first|exact HK.out|apply Kept.alloc|apply Kept.drewN|apply Kept.drew|refine Kept.setCell ?_ (.inr σ.out) _)|exact HK.out)) hb);have a8:=Aside0.mk (Qy (by repeat(first|(with_reducible first|exact HB.out|apply Qq|apply Qj|apply Qi|refine Qs ?_ b7.out)|exact HB.out)) hb);clear HO_0;clear X;clear HK;clear HB;have HO_0:=ρ;have X:= χ;have HK:=a3;have HB:=a8;clear ρ χ a3 a8;(try clear hb);(try clear a4);(try clear hk);(try clear hi);obtain⟨ct,cu,cv,cw⟩:=qD2 X.out;have al:0≤(B:Int):=of_decide_eq_true (by first|(with_reducible assumption)|assumption);have b0:(B:Int)<((J.length:Int):Int):=of_decide_eq_true (by first|(with_reducible assumption)|assumption);obtain⟨η,cx,b5,b6,bs,cy,b8⟩:=Kd.Vy HO_0.out (by omega);(first|cases b5|(injection b5 with ea_ en_ ec_;(first|subst ea_|(injection ea_ with ea_;subst ea_));subst ec_;clear en_));have b1:=Aside0.mk b6;have cz:=Aside0.mk b8;clear b6 bs b8;have d8:=Aside0.mk (show(γ η ∨ w.heap.size ≤ η) from(HO_0.out.1 _ rfl).1);(first|simp only[add_plain] at ι |skip);(first|simp only[add_plain] at ξ |skip);obtain⟨d2,bb,b9,ν,a2⟩:=Kd.Ja HO_0.out z86 (B:Int) al b0;obtain rfl:=Js b9;have bm:bc.cell? ⟨η,(B:Int).toNat * 2,none⟩=some (.int .i64 ((Qo J B).f0)):= ν 0 _ rfl;have bo:bc.cell? ⟨η,(B:Int).toNat * 2+1,none⟩=some (.int .i64 ((Qo J B).f1)):= ν 1 _ rfl;have cb:bc.frozen? ⟨η,(B:Int).toNat * 2,none⟩=false:=a2 0;have cd:bc.frozen? ⟨η,(B:Int).toNat * 2+1,none⟩=false:=a2 1;clear bb ν a2 b9;replace al:=eq_true al;replace b0:=eq_true b0;have br:=Aside0.mk (show Kd.R k86 86 bc w0.heap.size (fun k_=>(γ k_∨w.heap.size≤k_)∧k_≠Y) (.slice (some ⟨η,0,none⟩) J.length μ) J from(by(with_reducible repeat first|apply Kd.Qx|apply Kd.Qw|apply Kd.Q2);exact HO_0.out));obtain⟨db,ba,bu,ω,ak⟩:=Kd.Ja br.out z86 (B:Int) (of_decide_eq_true (by first|(with_reducible assumption)|assumption)) (by have h_:(B:Int)<((J.length:Int):Int):=of_decide_eq_true (by first|(with_reducible assumption)|assumption);first|exact h_|(have e_:=(Kd.Qz HO_0.out).1;omega)|simpa using h_);obtain rfl:=Js bu;have b2:=Kd.Ww br.out (B:Int) (of_decide_eq_true (by first|(with_reducible assumption)|assumption)) (by have h_:(B:Int)<((J.length:Int):Int):=of_decide_eq_true (by first|(with_reducible assumption)|assumption);first|exact h_|(have e_:=(Kd.Qz HO_0.out).1;omega)|simpa using h_) (seg:=[.int .i64 ((Qo J L).f0),.int .i64 ((Qo J L).f1)]) (j:=0) ba ω (show 2≤2 from by decide) (x':=(⟨(Qo J L).f0,(Qo J L).f1⟩:S86)) (Vn _ _ _ (⟨(Qo J L).f0,(Qo J L).f1⟩:S86)) (fun _ hk=>hk);have bv:= ω 0 _ rfl;(try simp only[show(k86).sz=2 from rfl,Nat.mul_one,Nat.add_zero] at bv);have bw:=ak 0;(try simp only[show(k86).sz=2 from rfl,Nat.mul_one,Nat.add_zero] at bw);have ce:= ω 1 _ rfl;(try simp only[show(k86).sz=2 from rfl,Nat.mul_one,Nat.add_zero] at ce);have cf:=ak 1;(try simp only[show(k86).sz=2 from rfl,Nat.mul_one,Nat.add_zero] at cf);clear ba ω ak bu))|((with_reducible refine Y6 (t:=86) (p:=33) rfl ?_);refine Ys (t:=86) (p:=33) (v:=?vo_w24) (w1:=((bc.setCell ⟨η,(B:Int).toNat * 2,none⟩ (.int .i64 ((Qo J L).f0))).setCell ⟨η,(B:Int).toNat * 2+1,none⟩ (.int .i64 ((Qo J L).f1)))) ?hg ?ho ?hn ?hr ?_;(case ho=>rfl);(case hg=>rfl);(case hn=>rfl);(case hr=>go_simp <;> rfl);intro cp hw;have hg:bc.grownBy cp (some η):=(by rw[hw];exact b2.2);have hp_:Kd.R k86 86 cp w0.heap.size (fun k_=>(γ k_∨w.heap.size≤k_)∧k_≠Y) (.slice (some ⟨η,0,none⟩) J.length μ) a0:=(by rw[hw,ag.out];exact b2.1);clear b2;replace X:=Aside0.mk (Q3 (g:=Y) (o:=.cells #[.int .i64 ((Qo J L).f0),.int .i64 ((Qo J L).f1)] 86 (0,0)) X.out hg (Kd.We HO_0.out (fun _ hk=>hk.2)));replace HB:=Aside0.mk ((by rw[hw];exact Qs (Qs (HB.out) b1.out) b1.out:Below w0.heap.size w0 cp));replace HK:=Aside0.mk (Kept.Gf (S:=(fun k_=>γ k_)) hg (by repeat(first|(with_reducible first|exact HK.out|apply Kept.alloc|apply Kept.drewN|apply Kept.drew|refine Kept.setCell ?_ (.inr σ.out) _)|exact HK.out)) (fun k_ e_=>(HO_0.out.1 k_ e_).1));replace HO_0:=Aside0.mk hp_;clear hg hw hp_))
         (try simp only[← ζ])
         go_roundg k1
         case measure=>have:=an.out;omega
         case rel=>exact⟨(a0),(wrap64 (B+1)),(wrap64 (L+1)),rfl,rfl,H',⟨by have:=an.out;omega⟩,⟨by(try simp only[ζ]);(with_reducible repeat first|apply Kd.Qx|apply Kd.Qw|apply Kd.Q2);exact Kd.Q0 HO_0.out (fun _ hk=>hk.1)⟩,⟨by repeat(first|(with_reducible first|exact HK.out|apply Kept.alloc|apply Kept.drewN|apply Kept.drew|refine Kept.setCell ?_ (.inr σ.out) _)|exact HK.out)⟩,HB⟩
        ·rw[if_neg af] at H
         exact absurd H (by simp)
       ·rw[if_neg a6] at H
        exact absurd H (by simp)
     ·rw[if_neg c10] at H
      exact absurd H (by simp)
    ·rw[if_neg c9] at H
     have c9b0:decide (L<(J.length:Int))=false:=decide_eq_false c9
     clear c9
     by_cases bn:0≤B
     ·rw[if_pos bn] at H
      have c25b0:=eq_true bn
      have c25b1:decide (0≤B)=true:=decide_eq_true bn
      clear bn
      by_cases bp:B≤(J.length:Int)
      ·rw[if_pos bp] at H
       have c26b0:=eq_true bp
       have c26b1:decide (B≤(J.length:Int))=true:=decide_eq_true bp
       clear bp
       obtain⟨ψ,τ⟩:∃ y_:List (S86),y_=(J.drop (B:Int).toNat):=⟨_,rfl⟩
       replace H:(some (J.take (B:Int).toNat))=some r:=by first|(rw[τ];with_reducible exact H)|(have am:=(Option.bind_some _ _).symm.trans H;rw[τ];with_reducible exact am)|(have am:=(Option.bind_some _ _).symm.trans H;with_reducible exact am)|with_reducible exact H|(rw[τ];exact H)|exact H
       have be:=Aside0.mk τ
       clear τ
       have c27b0:=eq_true (of_decide_eq_true (by assumption):B≤(J.length:Int))
       obtain⟨b3,φ⟩:∃ y_:List (S86),y_=(J.take (B:Int).toNat):=⟨_,rfl⟩
       replace H:(some b3)=some r:=by first|(rw[φ];with_reducible exact H)|(have am:=(Option.bind_some _ _).symm.trans H;rw[φ];with_reducible exact am)|(have am:=(Option.bind_some _ _).symm.trans H;with_reducible exact am)|with_reducible exact H|(rw[φ];exact H)|exact H
       have ao:=Aside0.mk φ
       clear φ
       obtain rfl:=Option.some.inj H
       have cg:(B:Int)≤((J.length:Int):Int):=of_decide_eq_true (by assumption)
       obtain⟨dc,bf,_,bl,_⟩:=info_parts Gg
       have hroom28:J.length ≤ μ :=(Kd.Qz HO_0.out).2.1
       have ch:Kd.C k86 _ ac J.length J:=(Kd.Qz HO_0.out).2.2
       have d0:(0:Int)≤(B:Int):=of_decide_eq_true (by assumption)
       have ci:=Mu (P:=Try.prog) 48 86 .i64 Try.underlying48 bf 2 bl ac J.length μ B d0 cg
       have aj:=Kd.Dd (m:=(B:Int).toNat) (c:= μ) ch (by omega) hroom28
       obtain⟨i5,ap⟩:∃ A1,A1=(if μ = (B:Int).toNat then ac else (ac:Option Addr).map (·.add ((B:Int).toNat * 2))):=⟨_,rfl⟩
       obtain⟨bz,aw⟩:∃ c1,c1 = μ - (B:Int).toNat:=⟨_,rfl⟩
       have ax: ψ.length=J.length - (B:Int).toNat:=(by rw[be.out,List.length_drop] <;> omega)
       rw[show(J).drop (B:Int).toNat = ψ from be.out.symm] at aj
       replace aj:Kd.C k86 _ i5 ψ.length ψ :=(by rw[ap];exact aj)
       rw[← ax,← ap,← aw] at ci
       have d9:=Aside0.mk aj
       have da:=Aside0.mk (show ψ.length≤bz from by rw[ax,aw];exact Nat.sub_le_sub_right hroom28 _)
       have d1:=Aside0.mk aw
       clear aj ch hroom28 bf bl aw
       have d3:=Aside0.mk ax
       have d4:=Aside0.mk ap
       clear ax ap
       have d5:=Aside0.mk (show(B:Int).toNat≤J.length from by omega)
       replace cg:=eq_true cg
       have cj:(B:Int)≤((J.length:Int):Int):=of_decide_eq_true (by assumption)
       obtain⟨dd,bq,_,cn,_⟩:=info_parts Gg
       have ck:=E0 (P:=Try.prog) 48 86 .i64 Try.underlying48 bq ac J.length μ B (of_decide_eq_true (by assumption)) cj (Kd.Qz HO_0.out).2.1
       have az:=Kd.E4 (m:=(B:Int).toNat) HO_0.out (by omega)
       have cm:b3.length=(B:Int).toNat:=(by rw[ao.out,List.length_take];omega)
       rw[← ao.out] at az
       rw[← cm] at az ck
       clear cm bq cn
       have ah:=Aside0.mk az
       clear az
       replace cj:=eq_true cj
       go_wp2_with (first|((with_reducible refine Xs (b:=.clear) (xs:=#[.tmp 38]) rfl ?_);refine Wa flatI (w:=w) (S:=fun k_=>γ k_) rfl (.tmp 38) 48 rfl Try.underlying48 (.agg #[.int .i64 0,.int .i64 0]) zeroI (by decide) rfl ac i5 μ bz ψ.length J HO_0.out (B:Int).toNat d5.out d4.out d3.out d1.out rfl HB.out HK.out (fun _ hk=>hk) b3 (ao.out) ?_;intro de co cq cr;have ρ:=Aside0.mk co;have χ :=Aside0.mk cq;have a3:=Aside0.mk cr;clear co cq cr HO_0 ah HB HK;have ah:=ρ;have HB:= χ;have HK:=a3;clear ρ χ a3))
       go_ret
       exact⟨_,rfl,by(with_reducible repeat first|apply Kd.Qx|apply Kd.Qw|apply Kd.Q2);exact ah.out,HB.out,by repeat(first|(with_reducible first|exact HK.out|apply Kept.alloc|apply Kept.drewN|apply Kept.drew)|exact HK.out)⟩
      ·rw[if_neg bp] at H
       exact absurd H (by simp)
     ·rw[if_neg bn] at H
      exact absurd H (by simp)
def api_Hall_89.l0:Nat→List (S36)→Int→Int→Int→Int→Int→Int→Option (Int×Bool)
 |0,_,_,_,_,_,_,_=>none
 |k+1,B,O,X,L,J,Y,Z=>if X<L then (if 0≤(wrap64 ((IntKind.u64.wrap (wrap64 (X+L))) / 2)) then (if (wrap64 ((IntKind.u64.wrap (wrap64 (X+L))) / 2))<(B.length:Int) then ((call_halls_1.f ((Qc B (wrap64 ((IntKind.u64.wrap (wrap64 (X+L))) / 2))).f0) ((Qc B (wrap64 ((IntKind.u64.wrap (wrap64 (X+L))) / 2))).f1) ((Qc B (wrap64 ((IntKind.u64.wrap (wrap64 (X+L))) / 2))).f2) J Y Z).bind fun ω =>(if ω < 0 then (api_Hall_89.l0 k B O (wrap64 ((wrap64 ((IntKind.u64.wrap (wrap64 (X+L))) / 2))+1)) L J Y Z) else (api_Hall_89.l0 k B O X (wrap64 ((IntKind.u64.wrap (wrap64 (X+L))) / 2)) J Y Z))) else (none)) else (none)) else (if X<O then (if 0≤X then (if X<(B.length:Int) then ((call_halls_1.f ((Qc B X).f0) ((Qc B X).f1) ((Qc B X).f2) J Y Z).bind fun θ =>(some (X,(θ == 0)))) else (none)) else (none)) else (some (X,false)))
def api_Hall_89.f (k:Nat) (l0:List (S36)) (O:Int) (X:Int) (δ :Int) (a2:Int):Option (Int×Bool):=api_Hall_89.l0 k l0 (l0.length:Int) 0 (l0.length:Int) O X δ
def api_Hall_89.T5:Bool×List (List Nat×List Nat):=(true,[([],[]),([],[]),([],[]),([1,2],[1,2]),([3],[3]),([],[]),([0,4,5],[0,4,5]),([6],[6])])
def api_Hall_89.B5:List Nat:=[0,0,0,6,14,0,63,127]
theorem api_Hall_89.Nf:rtab .any (opsOf Try.f89 5)=api_Hall_89.T5:=by kernel_rfl
theorem api_Hall_89.Wv:Zr api_Hall_89.T5.2 api_Hall_89.B5=true:=by kernel_rfl
def api_Hall_89.T8:Bool×List (List Nat×List Nat):=(true,[([],[]),([],[]),([],[]),([1,2],[1,2]),([3],[3]),([4],[4]),([4],[4]),([4],[4]),([6,7,4],[4,6,7]),([8,4],[4,8]),([4],[4]),([5,9,10,4,4],[4,5,9,10]),([11,4],[4,11]),([4,12],[4,12]),([0,11,0],[0]),([13,14,0,1,2,3,4,5,6,7,8,9,10,11,12,13,14],[13])])
def api_Hall_89.B8:List Nat:=[0,0,0,6,14,30,30,30,222,478,30,2046,4094,8190,4095,32767]
theorem api_Hall_89.Nc:rtab .any (opsOf Try.f89 8)=api_Hall_89.T8:=by kernel_rfl
theorem api_Hall_89.Wu:Zr api_Hall_89.T8.2 api_Hall_89.B8=true:=by kernel_rfl
set_option maxHeartbeats 8000000 in
set_option maxRecDepth 100000 in
theorem api_Hall_89.calls (k:Nat) (Z:Option Addr) (c0:Nat) (l0:List (S36)) (O:Int) (X:Int) (δ :Int) (a2:Int) (r1:Int) (r2:Bool) (w:World) (ξ :Kd.C k36 w Z l0.length l0) (γ:l0.length≤c0) (h:api_Hall_89.f k l0 O X δ a2=some (r1,r2)):
  Calls Try.prog 89 #[.slice Z l0.length c0,.agg #[.int .i64 O,.int .i64 X,.int .i64 δ],.func (.func 79) #[] #[]] w fun e w'=>e = .returned (.tuple #[.int .i64 r1,.bool r2])∧Below w.heap.size w w':=by
 have dh:=Try.underlying36
 have ι :=Aside0.mk ξ
 have ah:=Aside0.mk γ
 clear ξ γ
 have HB:=Aside0.mk (Below.refl w.heap.size w)
 have H:(api_Hall_89.l0 k l0 (l0.length:Int) 0 (l0.length:Int) O X δ)=some (r1,r2):=h
 clear h
 have H':=Aside0.mk H
 clear H
 go_enter Try.func89,Try.ntmps89
 go_wp2_with (first|((with_reducible refine Qe (N:=4) rfl ?_);refine qE 4 #[.int .i64 O,.int .i64 X,.int .i64 δ] 36 ?_;intro τ hg w4 hbox hb;have J:=Aside0.mk hbox;have ag:=sGe hg;have ai:=sGe hg;replace HB:=sHb hb;clear hb hbox hg))
 go_loopg [9,10] k (fun kq v9 b8 w'=>∃ (B:Int) (L:Int),v9 = .int .i64 B∧b8 = .int .i64 L∧Aside0 (api_Hall_89.l0 kq l0 (l0.length:Int) B L O X δ = some (r1,r2))∧Aside0 (kq≤k)∧Aside0 (w'.heap[τ]?=some (.cells #[.int .i64 O,.int .i64 X,.int .i64 δ] 36 (0,0)))∧Aside0 (Below w.heap.size w w'))
 case atStart=>exact⟨(0),((l0.length:Int)),rfl,rfl,H',⟨Nat.le_refl _⟩,J,HB⟩
 case round=>
  clear H'
  try clear p2
  obtain⟨B,L,rfl,rfl,HA,an,J,HB⟩:=hrel
  cases gk with
  |zero=>exact absurd HA.out (by simp[api_Hall_89.l0])
  |succ k1=>
   have H:=HA.out
   clear HA
   simp only[api_Hall_89.l0] at H
   by_cases c5:B<L
   ·rw[if_pos c5] at H
    have c5b0:decide (B<L)=true:=decide_eq_true c5
    clear c5
    obtain⟨Y,a8⟩:∃ j_:Int,(wrap64 ((IntKind.u64.wrap (wrap64 (B+L))) / 2))=j_:=⟨_,rfl⟩
    replace H:(if 0≤(Y) then (if (Y)<(l0.length:Int) then ((call_halls_1.f ((Qc l0 (Y)).f0) ((Qc l0 (Y)).f1) ((Qc l0 (Y)).f2) O X δ).bind fun ω =>(if ω < 0 then (api_Hall_89.l0 k1 l0 (l0.length:Int) (wrap64 ((Y)+1)) L O X δ) else (api_Hall_89.l0 k1 l0 (l0.length:Int) B Y O X δ))) else (none)) else (none))=some (r1,r2):=by first|(rw[a8] at H;exact H)|(simp only[a8] at H ⊢;exact H)
    have hji6w:(IntKind.i64.wrap ((IntKind.u64.wrap (wrap64 (B+L))) / 2))=Y:=(Za _).trans a8
    by_cases c7:0≤(Y)
    ·rw[if_pos c7] at H
     have c7b0:decide (0≤(Y))=true:=decide_eq_true c7
     clear c7
     by_cases c8:(Y)<(l0.length:Int)
     ·rw[if_pos c8] at H
      have c8b0:decide ((Y)<(l0.length:Int))=true:=decide_eq_true c8
      clear c8
      replace H:=Option.bind_eq_some_iff.mp H
      obtain⟨ω,bg,H⟩:=H
      replace H:(if ω < 0 then (api_Hall_89.l0 k1 l0 (l0.length:Int) (wrap64 ((Y)+1)) L O X δ) else (api_Hall_89.l0 k1 l0 (l0.length:Int) B Y O X δ))=some (r1,r2):=H
      have A9:=Aside0.mk bg
      clear bg
      by_cases c10: ω < 0
      ·rw[if_pos c10] at H
       have c10b0:decide (ω < 0)=true:=decide_eq_true c10
       clear c10
       have H':=Aside0.mk H
       clear H
       try go_wp2
       replace J:=Aside0.mk (Qf J.out)
       replace HB:=Aside0.mk (Qi HB.out)
       have a9:0≤((Y):Int):=of_decide_eq_true (by assumption)
       have aa:(Y)<(l0.length:Int):=of_decide_eq_true (by assumption)
       obtain⟨ρ,ab,ε,ζ,η⟩:=Xy ι.out (Y) a9 aa
       have κ := η
       have μ := ζ
       have ν := ε
       cases ab
       replace ε :=(HB.out.cell (World.block_lt_of_cell? w _ ε)).trans ε
       replace ζ :=(HB.out.cell (World.block_lt_of_cell? w _ ζ)).trans ζ
       replace η :=(HB.out.cell (World.block_lt_of_cell? w _ η)).trans η
       replace a9:=eq_true a9
       replace aa:=eq_true aa
       refine Zl (n:=8) (S:=fun w'=>w'.cell? ⟨τ,0,none⟩=some (.int .i64 O)∧w'.cell? ⟨τ,1,none⟩=some (.int .i64 X)∧w'.cell? ⟨τ,2,none⟩=some (.int .i64 δ)∧w'.cell? (ρ.add (((Y)).toNat * 3))=some (.int .i64 ((Qc l0 (Y)).f0))∧w'.cell? ⟨(ρ.add (((Y)).toNat * 3)).block,(ρ.add (((Y)).toNat * 3)).off+1,none⟩=some (.int .i64 ((Qc l0 (Y)).f1))∧w'.cell? ⟨(ρ.add (((Y)).toNat * 3)).block,(ρ.add (((Y)).toNat * 3)).off+2,none⟩=some (.int .i64 ((Qc l0 (Y)).f2))) (ds:=[]) #[false,false,false,false,false,false,false,false] kr rfl rfl ⟨(Qa J.out 0).trans rfl,(Qa J.out 1).trans rfl,(Qa J.out 2).trans rfl,((HB.out.cell (World.block_lt_of_cell? w _ ν)).trans ν),((HB.out.cell (World.block_lt_of_cell? w _ μ)).trans μ),((HB.out.cell (World.block_lt_of_cell? w _ κ)).trans κ)⟩ (fun hHeld=>?_);refine Q8 api_Hall_89.Nf api_Hall_89.Wv (fun HT_ HW_=>?_)
       generalize wr.drew=ez at J HB ε ζ η hHeld ⊢
       refine qP 0 (some 24) (bN 8 1) HT_ ?_
       refine qP 1 (some 25) (bN 8 3) HT_ ?_
       refine qP 2 (some 26) (bN 8 7) HT_ ?_
       refine qP 3 (some 27) (bN 8 15) HT_ ?_
       refine qT 4 (some 28) (bN 8 31) HT_ HW_ hHeld ?_
       refine qT 5 (some 29) (bN 8 63) HT_ HW_ hHeld ?_
       refine Zg (i:=6) (N:=some 30) (bN 8 127) rfl rfl (Q4 HT_.out kr) (by decide) (fun K hK=>?_)
       refine X5 Try.func79 kr rfl #[] #[] #[.agg #[.int .i64 ((Qc l0 (Y)).f0),.int .i64 ((Qc l0 (Y)).f1),.int .i64 ((Qc l0 (Y)).f2)],.agg #[.int .i64 O,.int .i64 X,.int .i64 δ]] #[.agg #[.int .i64 ((Qc l0 (Y)).f0),.int .i64 ((Qc l0 (Y)).f1),.int .i64 ((Qc l0 (Y)).f2)],.agg #[.int .i64 O,.int .i64 X,.int .i64 δ]] rfl (by rfl) rfl rfl rfl (by(try simp only[List.map_toArray,List.map_cons,List.map_nil]);first|done|(simp only[a8];rfl)|rfl|(simp only[List.length_drop,List.length_take];rfl)) ?_
       with_reducible refine(call_halls_1.calls ((Qc l0 (Y)).f0) ((Qc l0 (Y)).f1) ((Qc l0 (Y)).f2) O X δ ω _ A9.out).mono ?_
       rintro e er ⟨rfl,hb⟩
       refine⟨_,rfl, ?_⟩
       replace J:=sBk J hb
       replace HB:=sHb hb
       (try clear hb)
       (try clear a4)
       (try clear hk)
       (try clear hi)
       refine hK.out _ _ ⟨qc J,qc J,qc J,((HB.out.cell (World.block_lt_of_cell? w _ ν)).trans ν),((HB.out.cell (World.block_lt_of_cell? w _ μ)).trans μ),((HB.out.cell (World.block_lt_of_cell? w _ κ)).trans κ)⟩ (fun hHeld=>?_)
       clear hK K
       refine qN (some 30) ?_
       refine qP 7 (some 31) (bN 8 255) HT_ ?_
       refine Z2 (Zh HT_.out kr) ?_
       try go_wp2
       go_roundg k1
       case measure=>have:=an.out;omega
       case rel=>exact⟨(wrap64 ((Y)+1)),(L),(by first|rfl|(simp;done)|(simp only[← a8] <;> (first|rfl|simp))|(simp[*];done)),rfl,H',⟨by have:=an.out;omega⟩,J,HB⟩
      ·rw[if_neg c10] at H
       have c10b0:decide (ω < 0)=false:=decide_eq_false c10
       clear c10
       have H':=Aside0.mk H
       clear H
       try go_wp2
       replace J:=Aside0.mk (Qf J.out)
       replace HB:=Aside0.mk (Qi HB.out)
       have a9:0≤((Y):Int):=of_decide_eq_true (by assumption)
       have aa:(Y)<(l0.length:Int):=of_decide_eq_true (by assumption)
       obtain⟨ρ,ab,ε,ζ,η⟩:=Xy ι.out (Y) a9 aa
       have κ := η
       have μ := ζ
       have ν := ε
       cases ab
       replace ε :=(HB.out.cell (World.block_lt_of_cell? w _ ε)).trans ε
       replace ζ :=(HB.out.cell (World.block_lt_of_cell? w _ ζ)).trans ζ
       replace η :=(HB.out.cell (World.block_lt_of_cell? w _ η)).trans η
       replace a9:=eq_true a9
       replace aa:=eq_true aa
       refine Zl (n:=8) (S:=fun w'=>w'.cell? ⟨τ,0,none⟩=some (.int .i64 O)∧w'.cell? ⟨τ,1,none⟩=some (.int .i64 X)∧w'.cell? ⟨τ,2,none⟩=some (.int .i64 δ)∧w'.cell? (ρ.add (((Y)).toNat * 3))=some (.int .i64 ((Qc l0 (Y)).f0))∧w'.cell? ⟨(ρ.add (((Y)).toNat * 3)).block,(ρ.add (((Y)).toNat * 3)).off+1,none⟩=some (.int .i64 ((Qc l0 (Y)).f1))∧w'.cell? ⟨(ρ.add (((Y)).toNat * 3)).block,(ρ.add (((Y)).toNat * 3)).off+2,none⟩=some (.int .i64 ((Qc l0 (Y)).f2))) (ds:=[]) #[false,false,false,false,false,false,false,false] kr rfl rfl ⟨(Qa J.out 0).trans rfl,(Qa J.out 1).trans rfl,(Qa J.out 2).trans rfl,((HB.out.cell (World.block_lt_of_cell? w _ ν)).trans ν),((HB.out.cell (World.block_lt_of_cell? w _ μ)).trans μ),((HB.out.cell (World.block_lt_of_cell? w _ κ)).trans κ)⟩ (fun hHeld=>?_);refine Q8 api_Hall_89.Nf api_Hall_89.Wv (fun HT_ HW_=>?_)
       generalize wr.drew=i3 at J HB ε ζ η hHeld ⊢
       refine qP 0 (some 24) (bN 8 1) HT_ ?_
       refine qP 1 (some 25) (bN 8 3) HT_ ?_
       refine qP 2 (some 26) (bN 8 7) HT_ ?_
       refine qP 3 (some 27) (bN 8 15) HT_ ?_
       refine qT 4 (some 28) (bN 8 31) HT_ HW_ hHeld ?_
       refine qT 5 (some 29) (bN 8 63) HT_ HW_ hHeld ?_
       refine Zg (i:=6) (N:=some 30) (bN 8 127) rfl rfl (Q4 HT_.out kr) (by decide) (fun K hK=>?_)
       refine X5 Try.func79 kr rfl #[] #[] #[.agg #[.int .i64 ((Qc l0 (Y)).f0),.int .i64 ((Qc l0 (Y)).f1),.int .i64 ((Qc l0 (Y)).f2)],.agg #[.int .i64 O,.int .i64 X,.int .i64 δ]] #[.agg #[.int .i64 ((Qc l0 (Y)).f0),.int .i64 ((Qc l0 (Y)).f1),.int .i64 ((Qc l0 (Y)).f2)],.agg #[.int .i64 O,.int .i64 X,.int .i64 δ]] rfl (by rfl) rfl rfl rfl (by(try simp only[List.map_toArray,List.map_cons,List.map_nil]);first|done|(simp only[a8];rfl)|rfl|(simp only[List.length_drop,List.length_take];rfl)) ?_
       with_reducible refine(call_halls_1.calls ((Qc l0 (Y)).f0) ((Qc l0 (Y)).f1) ((Qc l0 (Y)).f2) O X δ ω _ A9.out).mono ?_
       rintro e bh ⟨rfl,hb⟩
       refine⟨_,rfl, ?_⟩
       replace J:=sBk J hb
       replace HB:=sHb hb
       (try clear hb)
       (try clear a4)
       (try clear hk)
       (try clear hi)
       refine hK.out _ _ ⟨qc J,qc J,qc J,((HB.out.cell (World.block_lt_of_cell? w _ ν)).trans ν),((HB.out.cell (World.block_lt_of_cell? w _ μ)).trans μ),((HB.out.cell (World.block_lt_of_cell? w _ κ)).trans κ)⟩ (fun hHeld=>?_)
       clear hK K
       refine qN (some 30) ?_
       refine qP 7 (some 31) (bN 8 255) HT_ ?_
       refine Z2 (Zh HT_.out kr) ?_
       try go_wp2
       go_roundg k1
       case measure=>have:=an.out;omega
       case rel=>exact⟨(B),(Y),rfl,(by first|rfl|(simp;done)|(simp only[← a8] <;> (first|rfl|simp))|(simp[*];done)),H',⟨by have:=an.out;omega⟩,J,HB⟩
     ·rw[if_neg c8] at H
      exact absurd H (by simp)
    ·rw[if_neg c7] at H
     exact absurd H (by simp)
   ·rw[if_neg c5] at H
    have c5b0:decide (B<L)=false:=decide_eq_false c5
    clear c5
    by_cases ac:B<(l0.length:Int)
    ·rw[if_pos ac] at H
     have c15b0:decide (B<(l0.length:Int))=true:=decide_eq_true ac
     clear ac
     by_cases a6:0≤B
     ·rw[if_pos a6] at H
      have c16b0:decide (0≤B)=true:=decide_eq_true a6
      clear a6
      by_cases af:B<(l0.length:Int)
      ·rw[if_pos af] at H
       have c17b0:decide (B<(l0.length:Int))=true:=decide_eq_true af
       clear af
       replace H:=Option.bind_eq_some_iff.mp H
       obtain⟨θ,b5,H⟩:=H
       replace H:(some (B,(θ == 0)))=some (r1,r2):=H
       have cg:=Aside0.mk b5
       clear b5
       simp only[Option.some.injEq,Prod.mk.injEq] at H
       obtain⟨rfl,rfl⟩:=H
       try go_wp2
       replace J:=Aside0.mk (Qf J.out)
       replace HB:=Aside0.mk (Qi HB.out)
       have χ :0≤(B:Int):=of_decide_eq_true (by assumption)
       have ψ :B<(l0.length:Int):=of_decide_eq_true (by assumption)
       obtain⟨a1,ae,σ,φ,a0⟩:=Xy ι.out B χ ψ
       have a3:=a0
       have a5:= φ
       have a7:=σ
       cases ae
       replace σ:=(HB.out.cell (World.block_lt_of_cell? w _ σ)).trans σ
       replace φ :=(HB.out.cell (World.block_lt_of_cell? w _ φ)).trans φ
       replace a0:=(HB.out.cell (World.block_lt_of_cell? w _ a0)).trans a0
       replace χ :=eq_true χ
       replace ψ :=eq_true ψ
       refine Zl (n:=16) (S:=fun w'=>w'.cell? ⟨τ,0,none⟩=some (.int .i64 O)∧w'.cell? ⟨τ,1,none⟩=some (.int .i64 X)∧w'.cell? ⟨τ,2,none⟩=some (.int .i64 δ)∧w'.cell? (a1.add ((B).toNat * 3))=some (.int .i64 ((Qc l0 B).f0))∧w'.cell? ⟨(a1.add ((B).toNat * 3)).block,(a1.add ((B).toNat * 3)).off+1,none⟩=some (.int .i64 ((Qc l0 B).f1))∧w'.cell? ⟨(a1.add ((B).toNat * 3)).block,(a1.add ((B).toNat * 3)).off+2,none⟩=some (.int .i64 ((Qc l0 B).f2))) (ds:=[]) #[false,false,false,false,false,false,false,false,false,false,false,false,false,false,false,false] kr rfl rfl ⟨(Qa J.out 0).trans rfl,(Qa J.out 1).trans rfl,(Qa J.out 2).trans rfl,((HB.out.cell (World.block_lt_of_cell? w _ a7)).trans a7),((HB.out.cell (World.block_lt_of_cell? w _ a5)).trans a5),((HB.out.cell (World.block_lt_of_cell? w _ a3)).trans a3)⟩ (fun hHeld=>?_);refine Q8 api_Hall_89.Nc api_Hall_89.Wu (fun HT_ HW_=>?_)
       generalize wr.drew=ay at J HB σ φ a0 hHeld ⊢
       refine qP 0 (some 35) (bN 16 1) HT_ ?_
       refine qP 1 (some 36) (bN 16 3) HT_ ?_
       refine qP 2 (some 37) (bN 16 7) HT_ ?_
       refine qP 3 (some 38) (bN 16 15) HT_ ?_
       refine qP 4 (some 39) (bN 16 31) HT_ ?_
       refine qP 5 (some 40) (bN 16 63) HT_ ?_
       refine qP 6 (some 41) (bN 16 127) HT_ ?_
       refine qP 7 (some 42) (bN 16 255) HT_ ?_
       refine qP 8 (some 43) (bN 16 511) HT_ ?_
       refine qT 9 (some 44) (bN 16 1023) HT_ HW_ hHeld ?_
       refine qT 10 (some 45) (bN 16 2047) HT_ HW_ hHeld ?_
       refine Zg (i:=11) (N:=some 46) (bN 16 4095) rfl rfl (Q4 HT_.out kr) (by decide) (fun K hK=>?_)
       refine X5 Try.func79 kr rfl #[] #[] #[.agg #[.int .i64 ((Qc l0 B).f0),.int .i64 ((Qc l0 B).f1),.int .i64 ((Qc l0 B).f2)],.agg #[.int .i64 O,.int .i64 X,.int .i64 δ]] #[.agg #[.int .i64 ((Qc l0 B).f0),.int .i64 ((Qc l0 B).f1),.int .i64 ((Qc l0 B).f2)],.agg #[.int .i64 O,.int .i64 X,.int .i64 δ]] rfl (by rfl) rfl rfl rfl qM ?_
       with_reducible refine(call_halls_1.calls ((Qc l0 B).f0) ((Qc l0 B).f1) ((Qc l0 B).f2) O X δ θ _ cg.out).mono ?_
       rintro e fr ⟨rfl,hb⟩
       refine⟨_,rfl, ?_⟩
       replace J:=sBk J hb
       replace HB:=sHb hb
       (try clear hb)
       (try clear a4)
       (try clear hk)
       (try clear hi)
       refine hK.out _ _ ⟨qc J,qc J,qc J,((HB.out.cell (World.block_lt_of_cell? w _ a7)).trans a7),((HB.out.cell (World.block_lt_of_cell? w _ a5)).trans a5),((HB.out.cell (World.block_lt_of_cell? w _ a3)).trans a3)⟩ (fun hHeld=>?_)
       clear hK K
       refine qN (some 46) ?_
       refine qP 12 (some 47) (bN 16 8191) HT_ ?_
       refine qP 13 (some 48) (bN 16 16383) HT_ ?_
       refine qP 14 (some 6) (bN 16 32767) HT_ ?_
       refine qP 15 (some 7) (bN 16 65535) HT_ ?_
       refine Z2 (Zh HT_.out kr) ?_
       try go_wp2
       go_ret2
       exact⟨rfl,HB.out⟩
      ·rw[if_neg af] at H
       exact absurd H (by simp)
     ·rw[if_neg a6] at H
      exact absurd H (by simp)
    ·rw[if_neg ac] at H
     have c15b0:decide (B<(l0.length:Int))=false:=decide_eq_false ac
     clear ac
     simp only[Option.some.injEq,Prod.mk.injEq] at H
     obtain⟨rfl,rfl⟩:=H
     try go_wp2
     replace J:=Aside0.mk (Qf J.out)
     replace HB:=Aside0.mk (Qi HB.out)
     refine Zl (n:=16) (S:=fun w'=>True) (ds:=[]) #[false,false,false,false,false,false,false,false,false,false,false,false,false,false,false,false] kr rfl rfl trivial (fun hHeld=>?_);refine Q8 api_Hall_89.Nc api_Hall_89.Wu (fun HT_ HW_=>?_)
     generalize wr.drew=bc at J HB hHeld ⊢
     refine qP 0 (some 35) (bN 16 1) HT_ ?_
     refine qP 1 (some 36) (bN 16 3) HT_ ?_
     refine qP 2 (some 37) (bN 16 7) HT_ ?_
     refine qP 3 (some 38) (bN 16 15) HT_ ?_
     refine qP 4 (some 39) (bN 16 31) HT_ ?_
     refine qU 5 (some 40) (bN 16 63) HT_ ?_
     refine qU 6 (some 41) (bN 16 127) HT_ ?_
     refine qU 7 (some 42) (bN 16 255) HT_ ?_
     refine qU 8 (some 43) (bN 16 511) HT_ ?_
     refine qU 9 (some 44) (bN 16 1023) HT_ ?_
     refine qU 10 (some 45) (bN 16 2047) HT_ ?_
     refine qU 11 (some 46) (bN 16 4095) HT_ ?_
     refine qU 12 (some 47) (bN 16 8191) HT_ ?_
     refine qP 13 (some 48) (bN 16 16383) HT_ ?_
     refine qP 14 (some 6) (bN 16 32767) HT_ ?_
     refine qP 15 (some 7) (bN 16 65535) HT_ ?_
     refine Z2 (Zh HT_.out kr) ?_
     try go_wp2
     go_ret2
     exact⟨rfl,HB.out⟩
mutual
def api_Hall_right.l0:Nat→Int→List (S36)→Int→Int→List (S36)→Int→Option (Bool)
 |0,_,_,_,_,_,_=>none
 |k+1,J,O,X,L,B,Y=>if L<X then (if 0≤L then (if L<(O.length:Int) then ((call_hall_1.f ((Qc O L).f0) ((Qc O L).f1) ((Qc O L).f2) J).bind fun κ =>(if κ = true then (if L>0 then (if 0≤(wrap64 (L-1)) then (if (wrap64 (L-1))<(B.length:Int) then ((call_halls_1.f ((Qc B (wrap64 (L-1))).f0) ((Qc B (wrap64 (L-1))).f1) ((Qc B (wrap64 (L-1))).f2) ((Qc O L).f0) ((Qc O L).f1) ((Qc O L).f2)).bind fun ψ =>(api_Hall_right.j1 k J O X L (decide (ψ ≥ 0)) B Y)) else (none)) else (none)) else (api_Hall_right.j1 k J O X L false B Y)) else (api_Hall_right.j1 k J O X L true B Y))) else (none)) else (none)) else (some true)
def api_Hall_right.j1:Nat→Int→List (S36)→Int→Int→Bool→List (S36)→Int→Option (Bool)
 |0,_,_,_,_,_,_,_=>none
 |k+1,J,O,X,L,μ,B,Y=>if μ = true then (some false) else (api_Hall_right.l0 k J O X (wrap64 (L+1)) B Y)
end
def api_Hall_right.f (k:Nat) (B:List (S36)) (J:Int) (O:Int):Option (Bool):=api_Hall_right.l0 k O B (B.length:Int) 0 B J
def api_Hall_right.T4:Bool×List (List Nat×List Nat):=(true,[([],[]),([],[]),([0,1],[0,1]),([2],[2]),([3,2],[3]),([4],[4]),([5,4],[4,5]),([6,4,4],[4,6]),([7],[7]),([8,7],[7,8]),([7],[7]),([10,7],[7,10]),([7],[7]),([12,7],[7,12]),([11,13,7],[7,11,13]),([14,7],[7,14]),([7],[7]),([9,15,16,7,7],[7,9,15,16]),([17,7],[7,17]),([7,18,4],[4,7,18]),([4,19],[4,19])])
def api_Hall_right.B4:List Nat:=[0,0,3,7,15,31,63,127,255,511,255,1279,255,4351,15615,31999,255,131071,262143,524287,1048575]
theorem api_Hall_right.K8:rtab .any (opsOf Try.f64 4)=api_Hall_right.T4:=by kernel_rfl
theorem api_Hall_right.Jl:Zr api_Hall_right.T4.2 api_Hall_right.B4=true:=by kernel_rfl
set_option maxHeartbeats 8000000 in
set_option maxRecDepth 100000 in
theorem api_Hall_right.calls (k:Nat) (μ :Option Addr) (ε :Nat) (B:List (S36)) (J:Int) (O:Int) (r:Bool) (w:World) (ae:Kd.C k36 w μ B.length B) (aj:B.length ≤ ε) (h:api_Hall_right.f k B J O=some r) (gh_:Nat) (hgh_:w.heap[gh_]?=some (.cells #[.int .i64 (Yf O),.int .i64 (Ye O)] 59 (0,0))):
  Calls Try.prog 64 #[.agg #[.slice μ B.length ε,.func (.func 79) #[] #[]],.func (.func 82) #[] #[.pointer (some ⟨gh_,0,none⟩)]] w fun e w'=>e = .returned (.bool r)∧Below w.heap.size w w':=by
 have HCH:=Aside0.mk hgh_
 clear hgh_
 have cn:=Try.underlying109
 have dh:=Try.underlying36
 have az:=Aside0.mk ae
 have bk:=Aside0.mk aj
 clear ae aj
 have HB:=Aside0.mk (Below.refl w.heap.size w)
 have H:(api_Hall_right.l0 k O B (B.length:Int) 0 B J)=some r:=h
 clear h
 have H':=Aside0.mk H
 clear H
 go_enter Try.func64,Try.ntmps64
 go_wp2_with (first|((with_reducible refine Qe (N:=2) rfl ?_);refine qE 2 #[.slice μ B.length ε,.func (.func 79) #[] #[]] 109 ?_;intro ν hg w3 hbox hb;have γ:=Aside0.mk hbox;have bb:=sGe hg;have al:=sGe hg;replace HB:=sHb hb;clear hb hbox hg;obtain⟨ac,ai,am,ar⟩:=qD2 γ.out))
 go_loopg [10] k (fun kq b8 w'=>∃ (L:Int),b8 = .int .i64 L∧Aside0 (api_Hall_right.l0 kq O B (B.length:Int) L B J=some r)∧Aside0 (kq≤k)∧Aside0 (w'.heap[ν]?=some (.cells #[(.slice μ B.length ε),.func (.func 79) #[] #[]] 109 (0,0)))∧Aside0 (Below w.heap.size w w'))
 case atStart=>exact⟨(0),rfl,H',⟨Nat.le_refl _⟩,γ,HB⟩
 case round=>
  clear H'
  try clear p2
  try clear ac
  try clear ai
  try clear am
  try clear ar
  obtain⟨L,rfl,HA,an,γ,HB⟩:=hrel
  cases gk with
  |zero=>exact absurd HA.out (by simp[api_Hall_right.l0])
  |succ k1=>
   have H:=HA.out
   clear HA
   simp only[api_Hall_right.l0] at H
   by_cases c5:L<(B.length:Int)
   ·rw[if_pos c5] at H
    have c5b0:decide (L<(B.length:Int))=true:=decide_eq_true c5
    clear c5
    by_cases c6:0≤L
    ·rw[if_pos c6] at H
     have c6b0:decide (0≤L)=true:=decide_eq_true c6
     clear c6
     by_cases c7:L<(B.length:Int)
     ·rw[if_pos c7] at H
      have c7b0:decide (L<(B.length:Int))=true:=decide_eq_true c7
      clear c7
      have aa:=Aside0.mk H
      clear H
      have a9:0≤(L:Int):=of_decide_eq_true (by assumption)
      have ab:L<(B.length:Int):=of_decide_eq_true (by assumption)
      obtain⟨Z,b4,ι,ξ,a7⟩:=Xy az.out L a9 ab
      cases b4
      replace ι :=(HB.out.cell (World.block_lt_of_cell? w _ ι)).trans ι
      replace ξ :=(HB.out.cell (World.block_lt_of_cell? w _ ξ)).trans ξ
      replace a7:=(HB.out.cell (World.block_lt_of_cell? w _ a7)).trans a7
      replace a9:=eq_true a9
      replace ab:=eq_true ab
      go_upto_region 4 with(first|((with_reducible refine Qe (N:=6) rfl ?_);refine qE 6 #[.int .i64 0,.int .i64 0,.int .i64 0] 36 ?_;intro Y hg w9 hbox hb;have X:=Aside0.mk hbox;have σ:=sGe hg;have b7:=sGe hg;have b0:=sNl γ hg;have b1:=sNg γ hg;replace γ:=sBk γ hb;replace HB:=sHb hb;clear hb hbox hg;have h4:=b1.out;have h5:=b0.out;obtain⟨ah,ak,aw,ao,ap,ax⟩:=qD3 X.out))
      (try simp only[Act.put,qS])
      go_cut [35] (fun bd wc=>∃ (kq:Nat) (η :Bool),bd = .bool η ∧ Aside0 (api_Hall_right.j1 kq O B (B.length:Int) L η B J=some r)∧Aside0 (kq≤k1)∧Aside0 (wc.heap[ν]?=some (.cells #[(.slice (some Z) B.length ε),.func (.func 79) #[] #[]] 109 (0,0)))∧Aside0 (wc.heap[Y]?=some (.cells #[.int .i64 ((Qc B L).f0),.int .i64 ((Qc B L).f1),.int .i64 ((Qc B L).f2)] 36 (0,0)))∧Aside0 (Below w.heap.size w wc))
      case first=>
       have H:=aa.out
       clear aa
       replace H:=Option.bind_eq_some_iff.mp H
       obtain⟨κ,a8,H⟩:=H
       replace H:(if κ = true then (if L>0 then (if 0≤(wrap64 (L-1)) then (if (wrap64 (L-1))<(B.length:Int) then ((call_halls_1.f ((Qc B (wrap64 (L-1))).f0) ((Qc B (wrap64 (L-1))).f1) ((Qc B (wrap64 (L-1))).f2) ((Qc B L).f0) ((Qc B L).f1) ((Qc B L).f2)).bind fun ψ =>(api_Hall_right.j1 k1 O B (B.length:Int) L (decide (ψ ≥ 0)) B J)) else (none)) else (none)) else (api_Hall_right.j1 k1 O B (B.length:Int) L false B J)) else (api_Hall_right.j1 k1 O B (B.length:Int) L true B J))=some r:=H
       have b3:=Aside0.mk a8
       clear a8
       by_cases a2: κ = true
       ·subst a2
        have H1:(if L>0 then (if 0≤(wrap64 (L-1)) then (if (wrap64 (L-1))<(B.length:Int) then ((call_halls_1.f ((Qc B (wrap64 (L-1))).f0) ((Qc B (wrap64 (L-1))).f1) ((Qc B (wrap64 (L-1))).f2) ((Qc B L).f0) ((Qc B L).f1) ((Qc B L).f2)).bind fun ψ =>(api_Hall_right.j1 k1 O B (B.length:Int) L (decide (ψ ≥ 0)) B J)) else (none)) else (none)) else (api_Hall_right.j1 k1 O B (B.length:Int) L false B J))=some r:=by rw[if_pos rfl] at H;exact H
        clear H
        have H:=H1
        clear H1
        by_cases ag:L>0
        ·rw[if_pos ag] at H
         have c14b0:decide (0<L)=true:=decide_eq_true ag
         clear ag
         (first|rw[c14b0]|(simp only[Za,Zb];rw[c14b0])|skip)
         obtain⟨δ,ζ⟩:∃ j_:Int,(wrap64 (L-1))=j_:=⟨_,rfl⟩
         replace H:(if 0≤(δ) then (if (δ)<(B.length:Int) then ((call_halls_1.f ((Qc B (δ)).f0) ((Qc B (δ)).f1) ((Qc B (δ)).f2) ((Qc B L).f0) ((Qc B L).f1) ((Qc B L).f2)).bind fun ψ =>(api_Hall_right.j1 k1 O B (B.length:Int) L (decide (ψ ≥ 0)) B J)) else (none)) else (none))=some r:=by first|(rw[ζ] at H;exact H)|(simp only[ζ] at H ⊢;exact H)
         (try rw[ζ] at b3)
         have hji15w:(IntKind.i64.wrap (L-1)) = δ :=(Za _).trans ζ
         by_cases a6:0≤(δ)
         ·rw[if_pos a6] at H
          have c16b0:decide (0≤(δ))=true:=decide_eq_true a6
          clear a6
          by_cases af:(δ)<(B.length:Int)
          ·rw[if_pos af] at H
           have c17b0:decide ((δ)<(B.length:Int))=true:=decide_eq_true af
           clear af
           replace H:=Option.bind_eq_some_iff.mp H
           obtain⟨ψ,b5,H⟩:=H
           replace H:(api_Hall_right.j1 k1 O B (B.length:Int) L (decide (ψ ≥ 0)) B J)=some r:=H
           have cg:=Aside0.mk b5
           clear b5
           have H':=Aside0.mk H
           clear H
           try go_wp2
           have ρ:Aside0 ((((w9.setCell ⟨Y,0,none⟩ (.int .i64 ((Qc B L).f0))).setCell ⟨Y,1,none⟩ (.int .i64 ((Qc B L).f1))).setCell ⟨Y,2,none⟩ (.int .i64 ((Qc B L).f2))).heap[ν]?=some (.cells #[.slice (some Z) B.length ε,.func (.func 79) #[] #[]] 109 (0,0))):=⟨bka γ⟩
           have χ :Aside0 ((((w9.setCell ⟨Y,0,none⟩ (.int .i64 ((Qc B L).f0))).setCell ⟨Y,1,none⟩ (.int .i64 ((Qc B L).f1))).setCell ⟨Y,2,none⟩ (.int .i64 ((Qc B L).f2))).heap[Y]?=some (.cells #[.int .i64 ((Qc B L).f0),.int .i64 ((Qc B L).f1),.int .i64 ((Qc B L).f2)] 36 (0,0))):=⟨by refine Qm (cs:=#[.int .i64 ((Qc B L).f0),.int .i64 ((Qc B L).f1),.int .i64 0]) ?_ 2 _ rfl;refine Qm (cs:=#[.int .i64 ((Qc B L).f0),.int .i64 0,.int .i64 0]) ?_ 1 _ rfl;refine Qm (cs:=#[.int .i64 0,.int .i64 0,.int .i64 0]) ?_ 0 _ rfl;exact X.out⟩
           have a3:Aside0 (Below w.heap.size w (((w9.setCell ⟨Y,0,none⟩ (.int .i64 ((Qc B L).f0))).setCell ⟨Y,1,none⟩ (.int .i64 ((Qc B L).f1))).setCell ⟨Y,2,none⟩ (.int .i64 ((Qc B L).f2)))):=⟨bel⟩
           (try clear γ)
           (try clear X)
           (try clear HB)
           generalize(((w9.setCell ⟨Y,0,none⟩ (.int .i64 ((Qc B L).f0))).setCell ⟨Y,1,none⟩ (.int .i64 ((Qc B L).f1))).setCell ⟨Y,2,none⟩ (.int .i64 ((Qc B L).f2)))=ay at ρ χ a3 ⊢
           have γ:=ρ
           have X:= χ
           have HB:=a3
           clear ρ χ a3
           replace γ:=Aside0.mk (Qf γ.out)
           replace X:=Aside0.mk (Qf X.out)
           replace HB:=Aside0.mk (Qi HB.out)
           have au:0≤((δ):Int):=of_decide_eq_true (by assumption)
           have av:(δ)<(B.length:Int):=of_decide_eq_true (by assumption)
           obtain⟨bf,bg,θ,τ,φ⟩:=Xy az.out (δ) au av
           have ω := φ
           have a0:= τ
           have a5:= θ
           obtain rfl:Z=bf:=(by injection bg)
           replace θ :=(HB.out.cell (World.block_lt_of_cell? w _ θ)).trans θ
           replace τ :=(HB.out.cell (World.block_lt_of_cell? w _ τ)).trans τ
           replace φ :=(HB.out.cell (World.block_lt_of_cell? w _ φ)).trans φ
           replace au:=eq_true au
           replace av:=eq_true av
           refine Zl (n:=21) (S:=fun w'=>w'.cell? ⟨Y,0,none⟩=some (.int .i64 ((Qc B L).f0))∧w'.cell? ⟨Y,1,none⟩=some (.int .i64 ((Qc B L).f1))∧w'.cell? ⟨Y,2,none⟩=some (.int .i64 ((Qc B L).f2))∧w'.cell? ⟨ν,0,none⟩=some (.slice (some Z) B.length ε)∧w'.cell? ⟨ν,1,none⟩=some (.func (.func 79) #[] #[])∧w'.cell? (Z.add (((δ)).toNat * 3))=some (.int .i64 ((Qc B (δ)).f0))∧w'.cell? ⟨(Z.add (((δ)).toNat * 3)).block,(Z.add (((δ)).toNat * 3)).off+1,none⟩=some (.int .i64 ((Qc B (δ)).f1))∧w'.cell? ⟨(Z.add (((δ)).toNat * 3)).block,(Z.add (((δ)).toNat * 3)).off+2,none⟩=some (.int .i64 ((Qc B (δ)).f2))) (ds:=[]) #[false,false,false,false,false,false,false,false,false,false,false,false,false,false,false,false,false,false,false,false,false] kr rfl rfl ⟨(Qa X.out 0).trans rfl,(Qa X.out 1).trans rfl,(Qa X.out 2).trans rfl,(Qa γ.out 0).trans rfl,(Qa γ.out 1).trans rfl,((HB.out.cell (World.block_lt_of_cell? w _ a5)).trans a5),((HB.out.cell (World.block_lt_of_cell? w _ a0)).trans a0),((HB.out.cell (World.block_lt_of_cell? w _ ω)).trans ω)⟩ (fun hHeld=>?_);refine Q8 api_Hall_right.K8 api_Hall_right.Jl (fun HT_ HW_=>?_)
           generalize ay.drew=fr at γ X HB θ τ φ hHeld ⊢
           refine qP 0 (some 15) (bN 21 1) HT_ ?_
           refine qT 1 (some 16) (bN 21 3) HT_ HW_ hHeld ?_
           refine Zg (i:=2) (N:=some 17) (bN 21 7) rfl rfl (Q4 HT_.out kr) (by decide) (fun K hK=>?_)
           refine X5 Try.func82 kr rfl #[] #[.pointer (some ⟨gh_,0,none⟩)] #[.agg #[.int .i64 ((Qc B L).f0),.int .i64 ((Qc B L).f1),.int .i64 ((Qc B L).f2)]] #[.agg #[.int .i64 ((Qc B L).f0),.int .i64 ((Qc B L).f1),.int .i64 ((Qc B L).f2)],.pointer (some ⟨gh_,0,none⟩)] rfl (by rfl) rfl rfl rfl qM ?_
           with_reducible refine(call_hall_1.calls ((Qc B L).f0) ((Qc B L).f1) ((Qc B L).f2) O true _ b3.out gh_ (Z3 HCH.out (by repeat(first|(with_reducible first|exact HB.out|apply Qq|apply Qj|apply Qi)|exact HB.out|(refine Qs ?_ (Aside0.out (by assumption))))))).mono ?_
           rintro e bc ⟨rfl,hb⟩
           refine⟨_,rfl, ?_⟩
           replace γ:=sBk γ hb
           replace X:=sBk X hb
           replace HB:=sHb hb
           (try clear hb)
           (try clear a4)
           (try clear hk)
           (try clear hi)
           refine hK.out _ _ ⟨qc X,qc X,qc X,qc γ,qc γ,((HB.out.cell (World.block_lt_of_cell? w _ a5)).trans a5),((HB.out.cell (World.block_lt_of_cell? w _ a0)).trans a0),((HB.out.cell (World.block_lt_of_cell? w _ ω)).trans ω)⟩ (fun hHeld=>?_)
           clear hK K
           refine qN (some 17) ?_
           refine qP 3 (some 18) (bN 21 15) HT_ ?_
           refine qP 4 (some 19) (bN 21 31) HT_ ?_
           refine qP 5 (some 20) (bN 21 63) HT_ ?_
           refine qP 6 (some 21) (bN 21 127) HT_ ?_
           refine qP 7 (some 22) (bN 21 255) HT_ ?_
           refine qP 8 (some 23) (bN 21 511) HT_ ?_
           refine qP 10 (some 25) (bN 21 1535) HT_ ?_
           refine qP 12 (some 27) (bN 21 5631) HT_ ?_
           refine qP 13 (some 28) (bN 21 13823) HT_ ?_
           refine qT 9 (some 24) (bN 21 14335) HT_ HW_ hHeld ?_
           refine qT 11 (some 26) (bN 21 16383) HT_ HW_ hHeld ?_
           refine qP 14 (some 29) (bN 21 32767) HT_ ?_
           refine qT 15 (some 30) (bN 21 65535) HT_ HW_ hHeld ?_
           refine qT 16 (some 31) (bN 21 131071) HT_ HW_ hHeld ?_
           refine Zg (i:=17) (N:=some 32) (bN 21 262143) rfl rfl (Q4 HT_.out kr) (by decide) (fun K hK=>?_)
           refine X5 Try.func79 kr rfl #[] #[] #[.agg #[.int .i64 ((Qc B (δ)).f0),.int .i64 ((Qc B (δ)).f1),.int .i64 ((Qc B (δ)).f2)],.agg #[.int .i64 ((Qc B L).f0),.int .i64 ((Qc B L).f1),.int .i64 ((Qc B L).f2)]] #[.agg #[.int .i64 ((Qc B (δ)).f0),.int .i64 ((Qc B (δ)).f1),.int .i64 ((Qc B (δ)).f2)],.agg #[.int .i64 ((Qc B L).f0),.int .i64 ((Qc B L).f1),.int .i64 ((Qc B L).f2)]] rfl (by rfl) rfl rfl rfl (by(try simp only[List.map_toArray,List.map_cons,List.map_nil]);first|done|(simp only[ζ];rfl)|rfl|(simp only[List.length_drop,List.length_take];rfl)) ?_
           with_reducible refine(call_halls_1.calls ((Qc B (δ)).f0) ((Qc B (δ)).f1) ((Qc B (δ)).f2) ((Qc B L).f0) ((Qc B L).f1) ((Qc B L).f2) ψ _ cg.out).mono ?_
           rintro e be ⟨rfl,hb⟩
           refine⟨_,rfl, ?_⟩
           replace γ:=sBk γ hb
           replace X:=sBk X hb
           replace HB:=sHb hb
           (try clear hb)
           (try clear a4)
           (try clear hk)
           (try clear hi)
           refine hK.out _ _ ⟨qc X,qc X,qc X,qc γ,qc γ,((HB.out.cell (World.block_lt_of_cell? w _ a5)).trans a5),((HB.out.cell (World.block_lt_of_cell? w _ a0)).trans a0),((HB.out.cell (World.block_lt_of_cell? w _ ω)).trans ω)⟩ (fun hHeld=>?_)
           clear hK K
           refine qN (some 32) ?_
           refine qP 18 (some 33) (bN 21 524287) HT_ ?_
           refine qP 19 (some 34) (bN 21 1048575) HT_ ?_
           refine qP 20 (some 35) (bN 21 2097151) HT_ ?_
           refine Z2 (Zh HT_.out kr) ?_
           try go_wp2
           go_meet
           case rel=>exact⟨_,(decide (ψ ≥ 0)),rfl,H',⟨by have:=an.out;omega⟩,γ,X,HB⟩
          ·rw[if_neg af] at H
           exact absurd H (by simp)
         ·rw[if_neg a6] at H
          exact absurd H (by simp)
        ·rw[if_neg ag] at H
         have c14b0:decide (0<L)=false:=decide_eq_false ag
         clear ag
         (first|rw[c14b0]|(simp only[Za,Zb];rw[c14b0])|skip)
         have H':=Aside0.mk H
         clear H
         try go_wp2
         have ρ:Aside0 ((((w9.setCell ⟨Y,0,none⟩ (.int .i64 ((Qc B L).f0))).setCell ⟨Y,1,none⟩ (.int .i64 ((Qc B L).f1))).setCell ⟨Y,2,none⟩ (.int .i64 ((Qc B L).f2))).heap[ν]?=some (.cells #[.slice (some Z) B.length ε,.func (.func 79) #[] #[]] 109 (0,0))):=⟨bka γ⟩
         have χ :Aside0 ((((w9.setCell ⟨Y,0,none⟩ (.int .i64 ((Qc B L).f0))).setCell ⟨Y,1,none⟩ (.int .i64 ((Qc B L).f1))).setCell ⟨Y,2,none⟩ (.int .i64 ((Qc B L).f2))).heap[Y]?=some (.cells #[.int .i64 ((Qc B L).f0),.int .i64 ((Qc B L).f1),.int .i64 ((Qc B L).f2)] 36 (0,0))):=⟨by refine Qm (cs:=#[.int .i64 ((Qc B L).f0),.int .i64 ((Qc B L).f1),.int .i64 0]) ?_ 2 _ rfl;refine Qm (cs:=#[.int .i64 ((Qc B L).f0),.int .i64 0,.int .i64 0]) ?_ 1 _ rfl;refine Qm (cs:=#[.int .i64 0,.int .i64 0,.int .i64 0]) ?_ 0 _ rfl;exact X.out⟩
         have a3:Aside0 (Below w.heap.size w (((w9.setCell ⟨Y,0,none⟩ (.int .i64 ((Qc B L).f0))).setCell ⟨Y,1,none⟩ (.int .i64 ((Qc B L).f1))).setCell ⟨Y,2,none⟩ (.int .i64 ((Qc B L).f2)))):=⟨bel⟩
         (try clear γ)
         (try clear X)
         (try clear HB)
         generalize(((w9.setCell ⟨Y,0,none⟩ (.int .i64 ((Qc B L).f0))).setCell ⟨Y,1,none⟩ (.int .i64 ((Qc B L).f1))).setCell ⟨Y,2,none⟩ (.int .i64 ((Qc B L).f2)))=b6 at ρ χ a3 ⊢
         have γ:=ρ
         have X:= χ
         have HB:=a3
         clear ρ χ a3
         replace γ:=Aside0.mk (Qf γ.out)
         replace X:=Aside0.mk (Qf X.out)
         replace HB:=Aside0.mk (Qi HB.out)
         refine Zl (n:=21) (S:=fun w'=>w'.cell? ⟨Y,0,none⟩=some (.int .i64 ((Qc B L).f0))∧w'.cell? ⟨Y,1,none⟩=some (.int .i64 ((Qc B L).f1))∧w'.cell? ⟨Y,2,none⟩=some (.int .i64 ((Qc B L).f2))) (ds:=[]) #[false,false,false,false,false,false,false,false,false,false,false,false,false,false,false,false,false,false,false,false,false] kr rfl rfl ⟨(Qa X.out 0).trans rfl,(Qa X.out 1).trans rfl,(Qa X.out 2).trans rfl⟩ (fun hHeld=>?_);refine Q8 api_Hall_right.K8 api_Hall_right.Jl (fun HT_ HW_=>?_)
         generalize b6.drew=cp at γ X HB hHeld ⊢
         refine qP 0 (some 15) (bN 21 1) HT_ ?_
         refine qT 1 (some 16) (bN 21 3) HT_ HW_ hHeld ?_
         refine Zg (i:=2) (N:=some 17) (bN 21 7) rfl rfl (Q4 HT_.out kr) (by decide) (fun K hK=>?_)
         refine X5 Try.func82 kr rfl #[] #[.pointer (some ⟨gh_,0,none⟩)] #[.agg #[.int .i64 ((Qc B L).f0),.int .i64 ((Qc B L).f1),.int .i64 ((Qc B L).f2)]] #[.agg #[.int .i64 ((Qc B L).f0),.int .i64 ((Qc B L).f1),.int .i64 ((Qc B L).f2)],.pointer (some ⟨gh_,0,none⟩)] rfl (by rfl) rfl rfl rfl qM ?_
         with_reducible refine(call_hall_1.calls ((Qc B L).f0) ((Qc B L).f1) ((Qc B L).f2) O true _ b3.out gh_ (Z3 HCH.out (by repeat(first|(with_reducible first|exact HB.out|apply Qq|apply Qj|apply Qi)|exact HB.out|(refine Qs ?_ (Aside0.out (by assumption))))))).mono ?_
         rintro e fq ⟨rfl,hb⟩
         refine⟨_,rfl, ?_⟩
         replace γ:=sBk γ hb
         replace X:=sBk X hb
         replace HB:=sHb hb
         (try clear hb)
         (try clear a4)
         (try clear hk)
         (try clear hi)
         refine hK.out _ _ ⟨qc X,qc X,qc X⟩ (fun hHeld=>?_)
         clear hK K
         refine qN (some 17) ?_
         refine qP 3 (some 18) (bN 21 15) HT_ ?_
         refine qP 4 (some 19) (bN 21 31) HT_ ?_
         refine qP 5 (some 20) (bN 21 63) HT_ ?_
         refine qP 6 (some 21) (bN 21 127) HT_ ?_
         refine qP 7 (some 22) (bN 21 255) HT_ ?_
         refine qU 8 (some 23) (bN 21 511) HT_ ?_
         refine qU 9 (some 24) (bN 21 1023) HT_ ?_
         refine qU 10 (some 25) (bN 21 2047) HT_ ?_
         refine qU 11 (some 26) (bN 21 4095) HT_ ?_
         refine qU 12 (some 27) (bN 21 8191) HT_ ?_
         refine qU 13 (some 28) (bN 21 16383) HT_ ?_
         refine qU 14 (some 29) (bN 21 32767) HT_ ?_
         refine qU 15 (some 30) (bN 21 65535) HT_ ?_
         refine qU 16 (some 31) (bN 21 131071) HT_ ?_
         refine qU 17 (some 32) (bN 21 262143) HT_ ?_
         refine qU 18 (some 33) (bN 21 524287) HT_ ?_
         refine qP 19 (some 34) (bN 21 1048575) HT_ ?_
         refine qP 20 (some 35) (bN 21 2097151) HT_ ?_
         refine Z2 (Zh HT_.out kr) ?_
         try go_wp2
         go_meet
         case rel=>exact⟨_,(false),rfl,H',⟨by have:=an.out;omega⟩,γ,X,HB⟩
       ·replace a2:=Bool.eq_false_iff.mpr a2
        subst a2
        have H1:(api_Hall_right.j1 k1 O B (B.length:Int) L true B J)=some r:=by rw[if_neg (show ¬ (false=true) by decide)] at H;exact H
        clear H
        have H:=H1
        clear H1
        have H':=Aside0.mk H
        clear H
        try go_wp2
        have ρ:Aside0 ((((w9.setCell ⟨Y,0,none⟩ (.int .i64 ((Qc B L).f0))).setCell ⟨Y,1,none⟩ (.int .i64 ((Qc B L).f1))).setCell ⟨Y,2,none⟩ (.int .i64 ((Qc B L).f2))).heap[ν]?=some (.cells #[.slice (some Z) B.length ε,.func (.func 79) #[] #[]] 109 (0,0))):=⟨bka γ⟩
        have χ :Aside0 ((((w9.setCell ⟨Y,0,none⟩ (.int .i64 ((Qc B L).f0))).setCell ⟨Y,1,none⟩ (.int .i64 ((Qc B L).f1))).setCell ⟨Y,2,none⟩ (.int .i64 ((Qc B L).f2))).heap[Y]?=some (.cells #[.int .i64 ((Qc B L).f0),.int .i64 ((Qc B L).f1),.int .i64 ((Qc B L).f2)] 36 (0,0))):=⟨by refine Qm (cs:=#[.int .i64 ((Qc B L).f0),.int .i64 ((Qc B L).f1),.int .i64 0]) ?_ 2 _ rfl;refine Qm (cs:=#[.int .i64 ((Qc B L).f0),.int .i64 0,.int .i64 0]) ?_ 1 _ rfl;refine Qm (cs:=#[.int .i64 0,.int .i64 0,.int .i64 0]) ?_ 0 _ rfl;exact X.out⟩
        have a3:Aside0 (Below w.heap.size w (((w9.setCell ⟨Y,0,none⟩ (.int .i64 ((Qc B L).f0))).setCell ⟨Y,1,none⟩ (.int .i64 ((Qc B L).f1))).setCell ⟨Y,2,none⟩ (.int .i64 ((Qc B L).f2)))):=⟨bel⟩
        (try clear γ)
        (try clear X)
        (try clear HB)
        generalize(((w9.setCell ⟨Y,0,none⟩ (.int .i64 ((Qc B L).f0))).setCell ⟨Y,1,none⟩ (.int .i64 ((Qc B L).f1))).setCell ⟨Y,2,none⟩ (.int .i64 ((Qc B L).f2)))=h9 at ρ χ a3 ⊢
        have γ:=ρ
        have X:= χ
        have HB:=a3
        clear ρ χ a3
        replace γ:=Aside0.mk (Qf γ.out)
        replace X:=Aside0.mk (Qf X.out)
        replace HB:=Aside0.mk (Qi HB.out)
        refine Zl (n:=21) (S:=fun w'=>w'.cell? ⟨Y,0,none⟩=some (.int .i64 ((Qc B L).f0))∧w'.cell? ⟨Y,1,none⟩=some (.int .i64 ((Qc B L).f1))∧w'.cell? ⟨Y,2,none⟩=some (.int .i64 ((Qc B L).f2))) (ds:=[]) #[false,false,false,false,false,false,false,false,false,false,false,false,false,false,false,false,false,false,false,false,false] kr rfl rfl ⟨(Qa X.out 0).trans rfl,(Qa X.out 1).trans rfl,(Qa X.out 2).trans rfl⟩ (fun hHeld=>?_);refine Q8 api_Hall_right.K8 api_Hall_right.Jl (fun HT_ HW_=>?_)
        generalize h9.drew=ey at γ X HB hHeld ⊢
        refine qP 0 (some 15) (bN 21 1) HT_ ?_
        refine qT 1 (some 16) (bN 21 3) HT_ HW_ hHeld ?_
        refine Zg (i:=2) (N:=some 17) (bN 21 7) rfl rfl (Q4 HT_.out kr) (by decide) (fun K hK=>?_)
        refine X5 Try.func82 kr rfl #[] #[.pointer (some ⟨gh_,0,none⟩)] #[.agg #[.int .i64 ((Qc B L).f0),.int .i64 ((Qc B L).f1),.int .i64 ((Qc B L).f2)]] #[.agg #[.int .i64 ((Qc B L).f0),.int .i64 ((Qc B L).f1),.int .i64 ((Qc B L).f2)],.pointer (some ⟨gh_,0,none⟩)] rfl (by rfl) rfl rfl rfl qM ?_
        with_reducible refine(call_hall_1.calls ((Qc B L).f0) ((Qc B L).f1) ((Qc B L).f2) O false _ b3.out gh_ (Z3 HCH.out (by repeat(first|(with_reducible first|exact HB.out|apply Qq|apply Qj|apply Qi)|exact HB.out|(refine Qs ?_ (Aside0.out (by assumption))))))).mono ?_
        rintro e eh ⟨rfl,hb⟩
        refine⟨_,rfl, ?_⟩
        replace γ:=sBk γ hb
        replace X:=sBk X hb
        replace HB:=sHb hb
        (try clear hb)
        (try clear a4)
        (try clear hk)
        (try clear hi)
        refine hK.out _ _ ⟨qc X,qc X,qc X⟩ (fun hHeld=>?_)
        clear hK K
        refine qN (some 17) ?_
        refine qP 3 (some 18) (bN 21 15) HT_ ?_
        refine qP 4 (some 19) (bN 21 31) HT_ ?_
        refine qU 5 (some 20) (bN 21 63) HT_ ?_
        refine qU 6 (some 21) (bN 21 127) HT_ ?_
        refine qU 7 (some 22) (bN 21 255) HT_ ?_
        refine qU 8 (some 23) (bN 21 511) HT_ ?_
        refine qU 9 (some 24) (bN 21 1023) HT_ ?_
        refine qU 10 (some 25) (bN 21 2047) HT_ ?_
        refine qU 11 (some 26) (bN 21 4095) HT_ ?_
        refine qU 12 (some 27) (bN 21 8191) HT_ ?_
        refine qU 13 (some 28) (bN 21 16383) HT_ ?_
        refine qU 14 (some 29) (bN 21 32767) HT_ ?_
        refine qU 15 (some 30) (bN 21 65535) HT_ ?_
        refine qU 16 (some 31) (bN 21 131071) HT_ ?_
        refine qU 17 (some 32) (bN 21 262143) HT_ ?_
        refine qU 18 (some 33) (bN 21 524287) HT_ ?_
        refine qU 19 (some 34) (bN 21 1048575) HT_ ?_
        refine qP 20 (some 35) (bN 21 2097151) HT_ ?_
        refine Z2 (Zh HT_.out kr) ?_
        try go_wp2
        go_meet
        case rel=>exact⟨_,(true),rfl,H',⟨by have:=an.out;omega⟩,γ,X,HB⟩
      case rest=>
       clear aa
       try clear c1
       try clear p1
       try clear q1
       try clear b2
       try clear p2
       try clear c7
       try clear c8
       try clear bi
       try clear bj
       try clear bh
       try clear a2
       try clear ag
       try clear c14b0
       try clear a6
       try clear af
       try clear c17b0
       try clear θ
       try clear τ
       try clear φ
       try clear au
       try clear av
       obtain⟨kq,η,rfl,HA,b9,γ,X,HB⟩:=hcut
       cases kq with
       |zero=>exact absurd HA.out (by simp[api_Hall_right.j1])
       |succ ba=>
        have H:=HA.out
        clear HA
        simp only[api_Hall_right.j1] at H
        by_cases ca: η = true
        ·subst ca
         have H1:(some false)=some r:=by rw[if_pos rfl] at H;exact H
         clear H
         have H:=H1
         clear H1
         obtain rfl:=Option.some.inj H
         go_wp2
         go_ret
         exact⟨rfl,HB.out⟩
        ·replace ca:=Bool.eq_false_iff.mpr ca
         subst ca
         have H1:(api_Hall_right.l0 ba O B (B.length:Int) (wrap64 (L+1)) B J)=some r:=by rw[if_neg (show ¬ (false=true) by decide)] at H;exact H
         clear H
         have H:=H1
         clear H1
         have H':=Aside0.mk H
         clear H
         go_wp2
         go_roundg ba
         case measure=>have:=an.out;have:=b9.out;omega
         case rel=>exact⟨(wrap64 (L+1)),rfl,H',⟨by have:=an.out;have:=b9.out;omega⟩,γ,HB⟩
     ·rw[if_neg c7] at H
      exact absurd H (by simp)
    ·rw[if_neg c6] at H
     exact absurd H (by simp)
   ·rw[if_neg c5] at H
    have c5b0:decide (L<(B.length:Int))=false:=decide_eq_false c5
    clear c5
    obtain rfl:=Option.some.inj H
    go_wp2
    go_ret
    exact⟨rfl,HB.out⟩
mutual
def api_Inside_right.l0:Nat→Int→List (S86)→Int→Int→List (S86)→Int→Option (Bool)
 |0,_,_,_,_,_,_=>none
 |k+1,J,O,X,L,B,Y=>if L<X then (if 0≤L then (if L<(O.length:Int) then ((call_inside_1.f ((Qo O L).f0) ((Qo O L).f1) J).bind fun a5=>(if a5=true then (if L>0 then (if 0≤(wrap64 (L-1)) then (if (wrap64 (L-1))<(B.length:Int) then ((call_ins_1.f ((Qo B (wrap64 (L-1))).f0) ((Qo B (wrap64 (L-1))).f1) ((Qo O L).f0) ((Qo O L).f1)).bind fun γ=>(api_Inside_right.j1 k J O X L (decide (γ≥0)) B Y)) else (none)) else (none)) else (api_Inside_right.j1 k J O X L false B Y)) else (api_Inside_right.j1 k J O X L true B Y))) else (none)) else (none)) else (some true)
def api_Inside_right.j1:Nat→Int→List (S86)→Int→Int→Bool→List (S86)→Int→Option (Bool)
 |0,_,_,_,_,_,_,_=>none
 |k+1,J,O,X,L,μ,B,Y=>if μ = true then (some false) else (api_Inside_right.l0 k J O X (wrap64 (L+1)) B Y)
end
def api_Inside_right.f (k:Nat) (B:List (S86)) (J:Int) (O:Int):Option (Bool):=api_Inside_right.l0 k O B (B.length:Int) 0 B J
def api_Inside_right.T4:Bool×List (List Nat×List Nat):=(true,[([],[]),([],[]),([0,1],[0,1]),([2],[2]),([3,2],[3]),([4],[4]),([5,4],[4,5]),([6,4,4],[4,6]),([7],[7]),([8,7],[7,8]),([7],[7]),([10,7],[7,10]),([7],[7]),([12,7],[7,12]),([11,13,7],[7,11,13]),([14,7],[7,14]),([7],[7]),([9,15,16,7,7],[7,9,15,16]),([17,7],[7,17]),([7,18,4],[4,7,18]),([4,19],[4,19])])
def api_Inside_right.B4:List Nat:=[0,0,3,7,15,31,63,127,255,511,255,1279,255,4351,15615,31999,255,131071,262143,524287,1048575]
theorem api_Inside_right.K8:rtab .any (opsOf Try.f67 4)=api_Inside_right.T4:=by kernel_rfl
theorem api_Inside_right.Jl:Zr api_Inside_right.T4.2 api_Inside_right.B4=true:=by kernel_rfl
set_option maxHeartbeats 8000000 in
set_option maxRecDepth 100000 in
theorem api_Inside_right.calls (k:Nat) (μ :Option Addr) (ε :Nat) (B:List (S86)) (J:Int) (O:Int) (r:Bool) (w:World) (ae:Kd.C k86 w μ B.length B) (aj:B.length ≤ ε) (h:api_Inside_right.f k B J O=some r) (gh_:Nat) (hgh_:w.heap[gh_]?=some (.cells #[.int .i64 (Yf O),.int .i64 (Ye O)] 59 (0,0))):
  Calls Try.prog 67 #[.agg #[.slice μ B.length ε,.func (.func 83) #[] #[]],.func (.func 84) #[] #[.pointer (some ⟨gh_,0,none⟩)]] w fun e w'=>e = .returned (.bool r)∧Below w.heap.size w w':=by
 have HCH:=Aside0.mk hgh_
 clear hgh_
 have b0:=Try.underlying116
 have dp:=Try.underlying86
 have az:=Aside0.mk ae
 have bk:=Aside0.mk aj
 clear ae aj
 have HB:=Aside0.mk (Below.refl w.heap.size w)
 have H:(api_Inside_right.l0 k O B (B.length:Int) 0 B J)=some r:=h
 clear h
 have H':=Aside0.mk H
 clear H
 go_enter Try.func67,Try.ntmps67
 go_wp2_with (first|((with_reducible refine Qe (N:=2) rfl ?_);refine qE 2 #[.slice μ B.length ε,.func (.func 83) #[] #[]] 116 ?_;intro τ hg w3 hbox hb;have X:=Aside0.mk hbox;have b1:=sGe hg;have b4:=sGe hg;replace HB:=sHb hb;clear hb hbox hg;obtain⟨ac,ai,am,ar⟩:=qD2 X.out))
 go_loopg [10] k (fun kq b8 w'=>∃ (L:Int),b8 = .int .i64 L∧Aside0 (api_Inside_right.l0 kq O B (B.length:Int) L B J=some r)∧Aside0 (kq≤k)∧Aside0 (w'.heap[τ]?=some (.cells #[(.slice μ B.length ε),.func (.func 83) #[] #[]] 116 (0,0)))∧Aside0 (Below w.heap.size w w'))
 case atStart=>exact⟨(0),rfl,H',⟨Nat.le_refl _⟩,X,HB⟩
 case round=>
  clear H'
  try clear p2
  try clear ac
  try clear ai
  try clear am
  try clear ar
  obtain⟨L,rfl,HA,an,X,HB⟩:=hrel
  cases gk with
  |zero=>exact absurd HA.out (by simp[api_Inside_right.l0])
  |succ k1=>
   have H:=HA.out
   clear HA
   simp only[api_Inside_right.l0] at H
   by_cases c5:L<(B.length:Int)
   ·rw[if_pos c5] at H
    have c5b0:decide (L<(B.length:Int))=true:=decide_eq_true c5
    clear c5
    by_cases c6:0≤L
    ·rw[if_pos c6] at H
     have c6b0:decide (0≤L)=true:=decide_eq_true c6
     clear c6
     by_cases c7:L<(B.length:Int)
     ·rw[if_pos c7] at H
      have c7b0:decide (L<(B.length:Int))=true:=decide_eq_true c7
      clear c7
      have aa:=Aside0.mk H
      clear H
      have ab:0≤(L:Int):=of_decide_eq_true (by assumption)
      have al:L<(B.length:Int):=of_decide_eq_true (by assumption)
      obtain⟨θ,aw,φ,ψ⟩:=Y9 az.out L ab al
      cases aw
      replace φ :=(HB.out.cell (World.block_lt_of_cell? w _ φ)).trans φ
      replace ψ :=(HB.out.cell (World.block_lt_of_cell? w _ ψ)).trans ψ
      replace ab:=eq_true ab
      replace al:=eq_true al
      go_upto_region 4 with(first|((with_reducible refine Qe (N:=6) rfl ?_);refine qE 6 #[.int .i64 0,.int .i64 0] 86 ?_;intro Z hg w9 hbox hb;have Y:=Aside0.mk hbox;have au:=sGe hg;have σ:=sGe hg;have a7:=sNl X hg;have a9:=sNg X hg;replace X:=sBk X hb;replace HB:=sHb hb;clear hb hbox hg;have h4:=a9.out;have h5:=a7.out;obtain⟨ah,ak,ao,ap⟩:=qD2 Y.out))
      (try simp only[Act.put,qS])
      go_cut [35] (fun bd wc=>∃ (kq:Nat) (η :Bool),bd = .bool η ∧ Aside0 (api_Inside_right.j1 kq O B (B.length:Int) L η B J=some r)∧Aside0 (kq≤k1)∧Aside0 (wc.heap[τ]?=some (.cells #[(.slice (some θ) B.length ε),.func (.func 83) #[] #[]] 116 (0,0)))∧Aside0 (wc.heap[Z]?=some (.cells #[.int .i64 ((Qo B L).f0),.int .i64 ((Qo B L).f1)] 86 (0,0)))∧Aside0 (Below w.heap.size w wc))
      case first=>
       have H:=aa.out
       clear aa
       replace H:=Option.bind_eq_some_iff.mp H
       obtain⟨a5,a8,H⟩:=H
       replace H:(if a5=true then (if L>0 then (if 0≤(wrap64 (L-1)) then (if (wrap64 (L-1))<(B.length:Int) then ((call_ins_1.f ((Qo B (wrap64 (L-1))).f0) ((Qo B (wrap64 (L-1))).f1) ((Qo B L).f0) ((Qo B L).f1)).bind fun γ=>(api_Inside_right.j1 k1 O B (B.length:Int) L (decide (γ≥0)) B J)) else (none)) else (none)) else (api_Inside_right.j1 k1 O B (B.length:Int) L false B J)) else (api_Inside_right.j1 k1 O B (B.length:Int) L true B J))=some r:=H
       have b3:=Aside0.mk a8
       clear a8
       by_cases a2:a5=true
       ·subst a2
        have H1:(if L>0 then (if 0≤(wrap64 (L-1)) then (if (wrap64 (L-1))<(B.length:Int) then ((call_ins_1.f ((Qo B (wrap64 (L-1))).f0) ((Qo B (wrap64 (L-1))).f1) ((Qo B L).f0) ((Qo B L).f1)).bind fun γ=>(api_Inside_right.j1 k1 O B (B.length:Int) L (decide (γ≥0)) B J)) else (none)) else (none)) else (api_Inside_right.j1 k1 O B (B.length:Int) L false B J))=some r:=by rw[if_pos rfl] at H;exact H
        clear H
        have H:=H1
        clear H1
        by_cases ag:L>0
        ·rw[if_pos ag] at H
         have c14b0:decide (0<L)=true:=decide_eq_true ag
         clear ag
         (first|rw[c14b0]|(simp only[Za,Zb];rw[c14b0])|skip)
         obtain⟨δ,ζ⟩:∃ j_:Int,(wrap64 (L-1))=j_:=⟨_,rfl⟩
         replace H:(if 0≤(δ) then (if (δ)<(B.length:Int) then ((call_ins_1.f ((Qo B (δ)).f0) ((Qo B (δ)).f1) ((Qo B L).f0) ((Qo B L).f1)).bind fun γ=>(api_Inside_right.j1 k1 O B (B.length:Int) L (decide (γ≥0)) B J)) else (none)) else (none))=some r:=by first|(rw[ζ] at H;exact H)|(simp only[ζ] at H ⊢;exact H)
         (try rw[ζ] at b3)
         have hji15w:(IntKind.i64.wrap (L-1)) = δ :=(Za _).trans ζ
         by_cases a6:0≤(δ)
         ·rw[if_pos a6] at H
          have c16b0:decide (0≤(δ))=true:=decide_eq_true a6
          clear a6
          by_cases af:(δ)<(B.length:Int)
          ·rw[if_pos af] at H
           have c17b0:decide ((δ)<(B.length:Int))=true:=decide_eq_true af
           clear af
           replace H:=Option.bind_eq_some_iff.mp H
           obtain⟨γ,b5,H⟩:=H
           replace H:(api_Inside_right.j1 k1 O B (B.length:Int) L (decide (γ≥0)) B J)=some r:=H
           have cg:=Aside0.mk b5
           clear b5
           have H':=Aside0.mk H
           clear H
           try go_wp2
           have ρ:Aside0 (((w9.setCell ⟨Z,0,none⟩ (.int .i64 ((Qo B L).f0))).setCell ⟨Z,1,none⟩ (.int .i64 ((Qo B L).f1))).heap[τ]?=some (.cells #[.slice (some θ) B.length ε,.func (.func 83) #[] #[]] 116 (0,0))):=⟨bka X⟩
           have χ :Aside0 (((w9.setCell ⟨Z,0,none⟩ (.int .i64 ((Qo B L).f0))).setCell ⟨Z,1,none⟩ (.int .i64 ((Qo B L).f1))).heap[Z]?=some (.cells #[.int .i64 ((Qo B L).f0),.int .i64 ((Qo B L).f1)] 86 (0,0))):=⟨by refine Qm (cs:=#[.int .i64 ((Qo B L).f0),.int .i64 0]) ?_ 1 _ rfl;refine Qm (cs:=#[.int .i64 0,.int .i64 0]) ?_ 0 _ rfl;exact Y.out⟩
           have a3:Aside0 (Below w.heap.size w ((w9.setCell ⟨Z,0,none⟩ (.int .i64 ((Qo B L).f0))).setCell ⟨Z,1,none⟩ (.int .i64 ((Qo B L).f1)))):=⟨bel⟩
           (try clear X)
           (try clear Y)
           (try clear HB)
           generalize((w9.setCell ⟨Z,0,none⟩ (.int .i64 ((Qo B L).f0))).setCell ⟨Z,1,none⟩ (.int .i64 ((Qo B L).f1)))=ay at ρ χ a3 ⊢
           have X:=ρ
           have Y:= χ
           have HB:=a3
           clear ρ χ a3
           replace X:=Aside0.mk (Qf X.out)
           replace Y:=Aside0.mk (Qf Y.out)
           replace HB:=Aside0.mk (Qi HB.out)
           have ω :0≤((δ):Int):=of_decide_eq_true (by assumption)
           have a0:(δ)<(B.length:Int):=of_decide_eq_true (by assumption)
           obtain⟨av,ax,ι,κ⟩:=Y9 az.out (δ) ω a0
           have ν := κ
           have ξ := ι
           obtain rfl: θ = av:=(by injection ax)
           replace ι :=(HB.out.cell (World.block_lt_of_cell? w _ ι)).trans ι
           replace κ :=(HB.out.cell (World.block_lt_of_cell? w _ κ)).trans κ
           replace ω :=eq_true ω
           replace a0:=eq_true a0
           refine Zl (n:=21) (S:=fun w'=>w'.cell? ⟨Z,0,none⟩=some (.int .i64 ((Qo B L).f0))∧w'.cell? ⟨Z,1,none⟩=some (.int .i64 ((Qo B L).f1))∧w'.cell? ⟨τ,0,none⟩=some (.slice (some θ) B.length ε)∧w'.cell? ⟨τ,1,none⟩=some (.func (.func 83) #[] #[])∧w'.cell? (θ.add (((δ)).toNat * 2))=some (.int .i64 ((Qo B (δ)).f0))∧w'.cell? ⟨(θ.add (((δ)).toNat * 2)).block,(θ.add (((δ)).toNat * 2)).off+1,none⟩=some (.int .i64 ((Qo B (δ)).f1))) (ds:=[]) #[false,false,false,false,false,false,false,false,false,false,false,false,false,false,false,false,false,false,false,false,false] kr rfl rfl ⟨(Qa Y.out 0).trans rfl,(Qa Y.out 1).trans rfl,(Qa X.out 0).trans rfl,(Qa X.out 1).trans rfl,((HB.out.cell (World.block_lt_of_cell? w _ ξ)).trans ξ),((HB.out.cell (World.block_lt_of_cell? w _ ν)).trans ν)⟩ (fun hHeld=>?_);refine Q8 api_Inside_right.K8 api_Inside_right.Jl (fun HT_ HW_=>?_)
           generalize ay.drew=fr at X Y HB ι κ hHeld ⊢
           refine qP 0 (some 15) (bN 21 1) HT_ ?_
           refine qT 1 (some 16) (bN 21 3) HT_ HW_ hHeld ?_
           refine Zg (i:=2) (N:=some 17) (bN 21 7) rfl rfl (Q4 HT_.out kr) (by decide) (fun K hK=>?_)
           refine X5 Try.func84 kr rfl #[] #[.pointer (some ⟨gh_,0,none⟩)] #[.agg #[.int .i64 ((Qo B L).f0),.int .i64 ((Qo B L).f1)]] #[.agg #[.int .i64 ((Qo B L).f0),.int .i64 ((Qo B L).f1)],.pointer (some ⟨gh_,0,none⟩)] rfl (by rfl) rfl rfl rfl qM ?_
           with_reducible refine(call_inside_1.calls ((Qo B L).f0) ((Qo B L).f1) O true _ b3.out gh_ (Z3 HCH.out (by repeat(first|(with_reducible first|exact HB.out|apply Qq|apply Qj|apply Qi)|exact HB.out|(refine Qs ?_ (Aside0.out (by assumption))))))).mono ?_
           rintro e bc ⟨rfl,hb⟩
           refine⟨_,rfl, ?_⟩
           replace X:=sBk X hb
           replace Y:=sBk Y hb
           replace HB:=sHb hb
           (try clear hb)
           (try clear a4)
           (try clear hk)
           (try clear hi)
           refine hK.out _ _ ⟨qc Y,qc Y,qc X,qc X,((HB.out.cell (World.block_lt_of_cell? w _ ξ)).trans ξ),((HB.out.cell (World.block_lt_of_cell? w _ ν)).trans ν)⟩ (fun hHeld=>?_)
           clear hK K
           refine qN (some 17) ?_
           refine qP 3 (some 18) (bN 21 15) HT_ ?_
           refine qP 4 (some 19) (bN 21 31) HT_ ?_
           refine qP 5 (some 20) (bN 21 63) HT_ ?_
           refine qP 6 (some 21) (bN 21 127) HT_ ?_
           refine qP 7 (some 22) (bN 21 255) HT_ ?_
           refine qP 8 (some 23) (bN 21 511) HT_ ?_
           refine qP 10 (some 25) (bN 21 1535) HT_ ?_
           refine qP 12 (some 27) (bN 21 5631) HT_ ?_
           refine qP 13 (some 28) (bN 21 13823) HT_ ?_
           refine qT 9 (some 24) (bN 21 14335) HT_ HW_ hHeld ?_
           refine qT 11 (some 26) (bN 21 16383) HT_ HW_ hHeld ?_
           refine qP 14 (some 29) (bN 21 32767) HT_ ?_
           refine qT 15 (some 30) (bN 21 65535) HT_ HW_ hHeld ?_
           refine qT 16 (some 31) (bN 21 131071) HT_ HW_ hHeld ?_
           refine Zg (i:=17) (N:=some 32) (bN 21 262143) rfl rfl (Q4 HT_.out kr) (by decide) (fun K hK=>?_)
           refine X5 Try.func83 kr rfl #[] #[] #[.agg #[.int .i64 ((Qo B (δ)).f0),.int .i64 ((Qo B (δ)).f1)],.agg #[.int .i64 ((Qo B L).f0),.int .i64 ((Qo B L).f1)]] #[.agg #[.int .i64 ((Qo B (δ)).f0),.int .i64 ((Qo B (δ)).f1)],.agg #[.int .i64 ((Qo B L).f0),.int .i64 ((Qo B L).f1)]] rfl (by rfl) rfl rfl rfl (by(try simp only[List.map_toArray,List.map_cons,List.map_nil]);first|done|(simp only[ζ];rfl)|rfl|(simp only[List.length_drop,List.length_take];rfl)) ?_
           with_reducible refine(call_ins_1.calls ((Qo B (δ)).f0) ((Qo B (δ)).f1) ((Qo B L).f0) ((Qo B L).f1) γ _ cg.out).mono ?_
           rintro e be ⟨rfl,hb⟩
           refine⟨_,rfl, ?_⟩
           replace X:=sBk X hb
           replace Y:=sBk Y hb
           replace HB:=sHb hb
           (try clear hb)
           (try clear a4)
           (try clear hk)
           (try clear hi)
           refine hK.out _ _ ⟨qc Y,qc Y,qc X,qc X,((HB.out.cell (World.block_lt_of_cell? w _ ξ)).trans ξ),((HB.out.cell (World.block_lt_of_cell? w _ ν)).trans ν)⟩ (fun hHeld=>?_)
           clear hK K
           refine qN (some 32) ?_
           refine qP 18 (some 33) (bN 21 524287) HT_ ?_
           refine qP 19 (some 34) (bN 21 1048575) HT_ ?_
           refine qP 20 (some 35) (bN 21 2097151) HT_ ?_
           refine Z2 (Zh HT_.out kr) ?_
           try go_wp2
           go_meet
           case rel=>exact⟨_,(decide (γ≥0)),rfl,H',⟨by have:=an.out;omega⟩,X,Y,HB⟩
          ·rw[if_neg af] at H
           exact absurd H (by simp)
         ·rw[if_neg a6] at H
          exact absurd H (by simp)
        ·rw[if_neg ag] at H
         have c14b0:decide (0<L)=false:=decide_eq_false ag
         clear ag
         (first|rw[c14b0]|(simp only[Za,Zb];rw[c14b0])|skip)
         have H':=Aside0.mk H
         clear H
         try go_wp2
         have ρ:Aside0 (((w9.setCell ⟨Z,0,none⟩ (.int .i64 ((Qo B L).f0))).setCell ⟨Z,1,none⟩ (.int .i64 ((Qo B L).f1))).heap[τ]?=some (.cells #[.slice (some θ) B.length ε,.func (.func 83) #[] #[]] 116 (0,0))):=⟨bka X⟩
         have χ :Aside0 (((w9.setCell ⟨Z,0,none⟩ (.int .i64 ((Qo B L).f0))).setCell ⟨Z,1,none⟩ (.int .i64 ((Qo B L).f1))).heap[Z]?=some (.cells #[.int .i64 ((Qo B L).f0),.int .i64 ((Qo B L).f1)] 86 (0,0))):=⟨by refine Qm (cs:=#[.int .i64 ((Qo B L).f0),.int .i64 0]) ?_ 1 _ rfl;refine Qm (cs:=#[.int .i64 0,.int .i64 0]) ?_ 0 _ rfl;exact Y.out⟩
         have a3:Aside0 (Below w.heap.size w ((w9.setCell ⟨Z,0,none⟩ (.int .i64 ((Qo B L).f0))).setCell ⟨Z,1,none⟩ (.int .i64 ((Qo B L).f1)))):=⟨bel⟩
         (try clear X)
         (try clear Y)
         (try clear HB)
         generalize((w9.setCell ⟨Z,0,none⟩ (.int .i64 ((Qo B L).f0))).setCell ⟨Z,1,none⟩ (.int .i64 ((Qo B L).f1)))=b6 at ρ χ a3 ⊢
         have X:=ρ
         have Y:= χ
         have HB:=a3
         clear ρ χ a3
         replace X:=Aside0.mk (Qf X.out)
         replace Y:=Aside0.mk (Qf Y.out)
         replace HB:=Aside0.mk (Qi HB.out)
         refine Zl (n:=21) (S:=fun w'=>w'.cell? ⟨Z,0,none⟩=some (.int .i64 ((Qo B L).f0))∧w'.cell? ⟨Z,1,none⟩=some (.int .i64 ((Qo B L).f1))) (ds:=[]) #[false,false,false,false,false,false,false,false,false,false,false,false,false,false,false,false,false,false,false,false,false] kr rfl rfl ⟨(Qa Y.out 0).trans rfl,(Qa Y.out 1).trans rfl⟩ (fun hHeld=>?_);refine Q8 api_Inside_right.K8 api_Inside_right.Jl (fun HT_ HW_=>?_)
         generalize b6.drew=cp at X Y HB hHeld ⊢
         refine qP 0 (some 15) (bN 21 1) HT_ ?_
         refine qT 1 (some 16) (bN 21 3) HT_ HW_ hHeld ?_
         refine Zg (i:=2) (N:=some 17) (bN 21 7) rfl rfl (Q4 HT_.out kr) (by decide) (fun K hK=>?_)
         refine X5 Try.func84 kr rfl #[] #[.pointer (some ⟨gh_,0,none⟩)] #[.agg #[.int .i64 ((Qo B L).f0),.int .i64 ((Qo B L).f1)]] #[.agg #[.int .i64 ((Qo B L).f0),.int .i64 ((Qo B L).f1)],.pointer (some ⟨gh_,0,none⟩)] rfl (by rfl) rfl rfl rfl qM ?_
         with_reducible refine(call_inside_1.calls ((Qo B L).f0) ((Qo B L).f1) O true _ b3.out gh_ (Z3 HCH.out (by repeat(first|(with_reducible first|exact HB.out|apply Qq|apply Qj|apply Qi)|exact HB.out|(refine Qs ?_ (Aside0.out (by assumption))))))).mono ?_
         rintro e fq ⟨rfl,hb⟩
         refine⟨_,rfl, ?_⟩
         replace X:=sBk X hb
         replace Y:=sBk Y hb
         replace HB:=sHb hb
         (try clear hb)
         (try clear a4)
         (try clear hk)
         (try clear hi)
         refine hK.out _ _ ⟨qc Y,qc Y⟩ (fun hHeld=>?_)
         clear hK K
         refine qN (some 17) ?_
         refine qP 3 (some 18) (bN 21 15) HT_ ?_
         refine qP 4 (some 19) (bN 21 31) HT_ ?_
         refine qP 5 (some 20) (bN 21 63) HT_ ?_
         refine qP 6 (some 21) (bN 21 127) HT_ ?_
         refine qP 7 (some 22) (bN 21 255) HT_ ?_
         refine qU 8 (some 23) (bN 21 511) HT_ ?_
         refine qU 9 (some 24) (bN 21 1023) HT_ ?_
         refine qU 10 (some 25) (bN 21 2047) HT_ ?_
         refine qU 11 (some 26) (bN 21 4095) HT_ ?_
         refine qU 12 (some 27) (bN 21 8191) HT_ ?_
         refine qU 13 (some 28) (bN 21 16383) HT_ ?_
         refine qU 14 (some 29) (bN 21 32767) HT_ ?_
         refine qU 15 (some 30) (bN 21 65535) HT_ ?_
         refine qU 16 (some 31) (bN 21 131071) HT_ ?_
         refine qU 17 (some 32) (bN 21 262143) HT_ ?_
         refine qU 18 (some 33) (bN 21 524287) HT_ ?_
         refine qP 19 (some 34) (bN 21 1048575) HT_ ?_
         refine qP 20 (some 35) (bN 21 2097151) HT_ ?_
         refine Z2 (Zh HT_.out kr) ?_
         try go_wp2
         go_meet
         case rel=>exact⟨_,(false),rfl,H',⟨by have:=an.out;omega⟩,X,Y,HB⟩
       ·replace a2:=Bool.eq_false_iff.mpr a2
        subst a2
        have H1:(api_Inside_right.j1 k1 O B (B.length:Int) L true B J)=some r:=by rw[if_neg (show ¬ (false=true) by decide)] at H;exact H
        clear H
        have H:=H1
        clear H1
        have H':=Aside0.mk H
        clear H
        try go_wp2
        have ρ:Aside0 (((w9.setCell ⟨Z,0,none⟩ (.int .i64 ((Qo B L).f0))).setCell ⟨Z,1,none⟩ (.int .i64 ((Qo B L).f1))).heap[τ]?=some (.cells #[.slice (some θ) B.length ε,.func (.func 83) #[] #[]] 116 (0,0))):=⟨bka X⟩
        have χ :Aside0 (((w9.setCell ⟨Z,0,none⟩ (.int .i64 ((Qo B L).f0))).setCell ⟨Z,1,none⟩ (.int .i64 ((Qo B L).f1))).heap[Z]?=some (.cells #[.int .i64 ((Qo B L).f0),.int .i64 ((Qo B L).f1)] 86 (0,0))):=⟨by refine Qm (cs:=#[.int .i64 ((Qo B L).f0),.int .i64 0]) ?_ 1 _ rfl;refine Qm (cs:=#[.int .i64 0,.int .i64 0]) ?_ 0 _ rfl;exact Y.out⟩
        have a3:Aside0 (Below w.heap.size w ((w9.setCell ⟨Z,0,none⟩ (.int .i64 ((Qo B L).f0))).setCell ⟨Z,1,none⟩ (.int .i64 ((Qo B L).f1)))):=⟨bel⟩
        (try clear X)
        (try clear Y)
        (try clear HB)
        generalize((w9.setCell ⟨Z,0,none⟩ (.int .i64 ((Qo B L).f0))).setCell ⟨Z,1,none⟩ (.int .i64 ((Qo B L).f1)))=h9 at ρ χ a3 ⊢
        have X:=ρ
        have Y:= χ
        have HB:=a3
        clear ρ χ a3
        replace X:=Aside0.mk (Qf X.out)
        replace Y:=Aside0.mk (Qf Y.out)
        replace HB:=Aside0.mk (Qi HB.out)
        refine Zl (n:=21) (S:=fun w'=>w'.cell? ⟨Z,0,none⟩=some (.int .i64 ((Qo B L).f0))∧w'.cell? ⟨Z,1,none⟩=some (.int .i64 ((Qo B L).f1))) (ds:=[]) #[false,false,false,false,false,false,false,false,false,false,false,false,false,false,false,false,false,false,false,false,false] kr rfl rfl ⟨(Qa Y.out 0).trans rfl,(Qa Y.out 1).trans rfl⟩ (fun hHeld=>?_);refine Q8 api_Inside_right.K8 api_Inside_right.Jl (fun HT_ HW_=>?_)
        generalize h9.drew=ey at X Y HB hHeld ⊢
        refine qP 0 (some 15) (bN 21 1) HT_ ?_
        refine qT 1 (some 16) (bN 21 3) HT_ HW_ hHeld ?_
        refine Zg (i:=2) (N:=some 17) (bN 21 7) rfl rfl (Q4 HT_.out kr) (by decide) (fun K hK=>?_)
        refine X5 Try.func84 kr rfl #[] #[.pointer (some ⟨gh_,0,none⟩)] #[.agg #[.int .i64 ((Qo B L).f0),.int .i64 ((Qo B L).f1)]] #[.agg #[.int .i64 ((Qo B L).f0),.int .i64 ((Qo B L).f1)],.pointer (some ⟨gh_,0,none⟩)] rfl (by rfl) rfl rfl rfl qM ?_
        with_reducible refine(call_inside_1.calls ((Qo B L).f0) ((Qo B L).f1) O false _ b3.out gh_ (Z3 HCH.out (by repeat(first|(with_reducible first|exact HB.out|apply Qq|apply Qj|apply Qi)|exact HB.out|(refine Qs ?_ (Aside0.out (by assumption))))))).mono ?_
        rintro e eh ⟨rfl,hb⟩
        refine⟨_,rfl, ?_⟩
        replace X:=sBk X hb
        replace Y:=sBk Y hb
        replace HB:=sHb hb
        (try clear hb)
        (try clear a4)
        (try clear hk)
        (try clear hi)
        refine hK.out _ _ ⟨qc Y,qc Y⟩ (fun hHeld=>?_)
        clear hK K
        refine qN (some 17) ?_
        refine qP 3 (some 18) (bN 21 15) HT_ ?_
        refine qP 4 (some 19) (bN 21 31) HT_ ?_
        refine qU 5 (some 20) (bN 21 63) HT_ ?_
        refine qU 6 (some 21) (bN 21 127) HT_ ?_
        refine qU 7 (some 22) (bN 21 255) HT_ ?_
        refine qU 8 (some 23) (bN 21 511) HT_ ?_
        refine qU 9 (some 24) (bN 21 1023) HT_ ?_
        refine qU 10 (some 25) (bN 21 2047) HT_ ?_
        refine qU 11 (some 26) (bN 21 4095) HT_ ?_
        refine qU 12 (some 27) (bN 21 8191) HT_ ?_
        refine qU 13 (some 28) (bN 21 16383) HT_ ?_
        refine qU 14 (some 29) (bN 21 32767) HT_ ?_
        refine qU 15 (some 30) (bN 21 65535) HT_ ?_
        refine qU 16 (some 31) (bN 21 131071) HT_ ?_
        refine qU 17 (some 32) (bN 21 262143) HT_ ?_
        refine qU 18 (some 33) (bN 21 524287) HT_ ?_
        refine qU 19 (some 34) (bN 21 1048575) HT_ ?_
        refine qP 20 (some 35) (bN 21 2097151) HT_ ?_
        refine Z2 (Zh HT_.out kr) ?_
        try go_wp2
        go_meet
        case rel=>exact⟨_,(true),rfl,H',⟨by have:=an.out;omega⟩,X,Y,HB⟩
      case rest=>
       clear aa
       try clear c1
       try clear p1
       try clear q1
       try clear b2
       try clear p2
       try clear c8
       try clear bb
       try clear bf
       try clear b7
       try clear a2
       try clear ag
       try clear c14b0
       try clear a6
       try clear c16b0
       try clear af
       try clear c17b0
       try clear ι
       try clear κ
       try clear ω
       try clear a0
       obtain⟨kq,η,rfl,HA,b9,X,Y,HB⟩:=hcut
       cases kq with
       |zero=>exact absurd HA.out (by simp[api_Inside_right.j1])
       |succ ba=>
        have H:=HA.out
        clear HA
        simp only[api_Inside_right.j1] at H
        by_cases ca: η = true
        ·subst ca
         have H1:(some false)=some r:=by rw[if_pos rfl] at H;exact H
         clear H
         have H:=H1
         clear H1
         obtain rfl:=Option.some.inj H
         go_wp2
         go_ret
         exact⟨rfl,HB.out⟩
        ·replace ca:=Bool.eq_false_iff.mpr ca
         subst ca
         have H1:(api_Inside_right.l0 ba O B (B.length:Int) (wrap64 (L+1)) B J)=some r:=by rw[if_neg (show ¬ (false=true) by decide)] at H;exact H
         clear H
         have H:=H1
         clear H1
         have H':=Aside0.mk H
         clear H
         go_wp2
         go_roundg ba
         case measure=>have:=an.out;have:=b9.out;omega
         case rel=>exact⟨(wrap64 (L+1)),rfl,H',⟨by have:=an.out;have:=b9.out;omega⟩,X,HB⟩
     ·rw[if_neg c7] at H
      exact absurd H (by simp)
    ·rw[if_neg c6] at H
     exact absurd H (by simp)
   ·rw[if_neg c5] at H
    have c5b0:decide (L<(B.length:Int))=false:=decide_eq_false c5
    clear c5
    obtain rfl:=Option.some.inj H
    go_wp2
    go_ret
    exact⟨rfl,HB.out⟩
end Go.Proofs.Ytmfffemidlhcpaa.C
namespace Go.Proofs.Ytmfffemidlhcpaa.Call
open Go.RowKit Go.Proofs.YtmfffemidlhcpaaW.PrintWords Go.Proofs.YtmfffemidlhcpaaW.PrintLast Go.Proofs.YtmfffemidlhcpaaW.PrintMore Go.Proofs.Ytmfffemidlhcpaa.C
set_option linter.unusedVariables false
set_option linter.unusedSimpArgs false
theorem Vr (a b:Int):Vt a b<0↔a<b:=by unfold Vt;split <;> (try split) <;> omega
theorem Vs (a b:Int):Vt a b=0↔a=b:=by unfold Vt;split <;> (try split) <;> omega
theorem Ki (a b c d:Int):Ya a b c d<0↔(a<c∨(a=c∧b<d)):=by
  unfold Ya
  have h1:=Vr a c
  have L:=Vs a c
  have h3:=Vr b d
  split <;> omega
theorem Ky (a b c d:Int):Ya a b c d=0↔(a=c∧b=d):=by
  unfold Ya
  have h1:=Vr a c
  have L:=Vs a c
  have h3:=Vs b d
  split <;> omega
def U8 {α:Type} (q:α→Bool):Nat→List α→Int
  |_,[]=> -1
  |i,x :: l=>if q x=true then (i:Int) else U8 q (i+1) l
theorem Lm {α:Type} (q:α→Bool) (l:List α):∀ i:Nat,(U8 q i l = -1 ∧ ∀ x ∈ l,q x=false) ∨ ∃ k:Nat,∃ h:k<l.length,U8 q i l=((i+k:Nat):Int)∧q l[k]=true ∧ ∀ x ∈ l.take k,q x=false:=by
  induction l with
  |nil=>intro i;exact .inl ⟨rfl,by simp⟩
  |cons x l ih=>
    intro i
    simp only[U8]
    by_cases h:q x=true
    · rw[if_pos h]
      exact .inr ⟨0,by simp,by simp,by simpa using h,by simp⟩
    · rw[if_neg h]
      have hf:q x=false:=by simpa using h
      rcases ih (i+1) with⟨e,ha⟩|⟨k,hk,e,ht,ha⟩
      · refine .inl ⟨e,fun y hy=>?_⟩
        rcases List.mem_cons.1 hy with rfl|hy
        · exact hf
        · exact ha y hy
      · refine .inr ⟨k+1,by simpa using hk,by rw[e];congr 1;omega,by simpa using ht,fun y hy=>?_⟩
        rw[List.take_succ_cons] at hy
        rcases List.mem_cons.1 hy with rfl|hy
        · exact hf
        · exact ha y hy
def Zi {α:Type} (may:α→Bool) (lt:α→α→Bool):Option α→List α→Bool
  |_,[]=>true
  |none,x :: l=>may x&&Zi may lt (some x) l
  |some p,x :: l=>(may x&&lt p x)&&Zi may lt (some x) l
def ltH (x y:S36):Bool:=decide (Ya x.f0 x.f1 y.f0 y.f1<0)
theorem Kx (x y:S36):ltH x y=true↔(x.f0<y.f0∨(x.f0=y.f0∧x.f1<y.f1)):=by
  unfold ltH
  rw[decide_eq_true_iff,Ki]
theorem Ll {x y z:S36} (h1:ltH x y=true) (L:ltH y z=true):ltH x z=true:=by
  rw[Kx] at *
  omega
theorem Vk (l:List S36) (i:Nat) (h:i<l.length):Qc l (i:Int)=l[i]:=by
  unfold Qc
  rw[Int.toNat_natCast,List.getD_eq_getElem?_getD,List.getElem?_eq_getElem h]
  rfl
def Gx (l:List S36) (B J:Int) (p:Nat):Prop:=p≤l.length∧(∀ y ∈ l.take p,Ya y.f0 y.f1 B J<0)∧(∀ y ∈ l.drop p,¬ Ya y.f0 y.f1 B J<0)
def G3 (l:List S36) (B J:Int) (p:Nat):Bool:=match l[p]? with|some y=>Ya y.f0 y.f1 B J==0|none=>false
theorem Vi (l:List S36) (B J O:Int) (hm:l.length≤1000000000) (hs:l.Pairwise (fun x y=>ltH x y=true)) (d:Nat):∀ (f i j:Nat),j-i≤d→i≤j→j≤l.length→d<f→(∀ y ∈ l.take i,Ya y.f0 y.f1 B J<0)→(∀ y ∈ l.drop j,¬ Ya y.f0 y.f1 B J<0) →
    ∃ p,Gx l B J p∧api_Hall_89.l0 f l (l.length:Int) (i:Int) (j:Int) B J O=some ((p:Int),G3 l B J p):=by
  have stop:∀ (f i:Nat),0<f→i≤l.length→(∀ y ∈ l.take i,Ya y.f0 y.f1 B J<0)→(∀ y ∈ l.drop i,¬ Ya y.f0 y.f1 B J<0) → ∃ p,Gx l B J p∧api_Hall_89.l0 f l (l.length:Int) (i:Int) (i:Int) B J O=some ((p:Int),G3 l B J p):=by
    intro f i hf hi h1 L
    obtain⟨f,rfl⟩:∃ m,f=m+1:=⟨f-1,by omega⟩
    refine⟨i,⟨hi,h1,L⟩, ?_⟩
    simp only[api_Hall_89.l0]
    unfold G3
    rw[if_neg (by omega)]
    by_cases h:i<l.length
    · rw[if_pos (by omega),if_pos (by omega),if_pos (by omega),Vk l i h,List.getElem?_eq_getElem h]
      rfl
    · rw[if_neg (by omega),List.getElem?_eq_none (by omega)]
  induction d with
  |zero=>
    intro f i j hd hij hj hf h1 L
    obtain rfl:i=j:=by omega
    exact stop f i hf hj h1 L
  |succ d ih=>
    intro f i j hd hij hj hf h1 L
    by_cases he:i=j
    · subst he
      exact stop f i (by omega) hj h1 L
    · obtain⟨f,rfl⟩:∃ m,f=m+1:=⟨f-1,by omega⟩
      have hmid:wrap64 ((IntKind.u64.wrap (wrap64 ((i:Int)+(j:Int)))) / 2)=(((i+j) / 2:Nat):Int):=by
        rw[show wrap64 ((i:Int)+(j:Int))=(i:Int)+(j:Int) from by unfold wrap64;omega,IntKind.wrap_u64]
        unfold wrap64;omega
      have e1:wrap64 ((((i+j) / 2:Nat):Int)+1)=(((i+j) / 2+1:Nat):Int):=by unfold wrap64;omega
      simp only[api_Hall_89.l0]
      rw[if_pos (by omega),hmid]
      have hh:(i+j) / 2<l.length:=by omega
      generalize hg:(i+j) / 2=h at *
      rw[if_pos (by omega),if_pos (by omega),Vk l h hh,e1]
      unfold call_halls_1.f
      simp only[Option.bind_some]
      have hlt:∀ m:Nat,(hm:m<h)→Ya (l[m]'(by omega)).f0 (l[m]'(by omega)).f1 l[h].f0 l[h].f1<0:=by
        intro m hm
        have:=List.pairwise_iff_getElem.1 hs m h (by omega) hh hm
        exact of_decide_eq_true this
      have hgt:∀ m:Nat,h<m→(hm:m<l.length)→Ya l[h].f0 l[h].f1 l[m].f0 l[m].f1<0:=by
        intro m hm hml
        have:=List.pairwise_iff_getElem.1 hs h m hh hml hm
        exact of_decide_eq_true this
      by_cases hc:Ya l[h].f0 l[h].f1 B J<0
      · rw[if_pos hc]
        refine ih f (h+1) j (by omega) (by omega) hj (by omega) ?_ L
        intro y hy
        obtain⟨m,hm,rfl⟩:=List.mem_iff_getElem.1 hy
        rw[List.length_take] at hm
        rw[List.getElem_take]
        by_cases hmh:m=h
        · subst hmh;exact hc
        · have h3:=hlt m (by omega)
          rw[Ki] at *
          omega
      · rw[if_neg hc]
        refine ih f i h (by omega) (by omega) (by omega) (by omega) h1 ?_
        intro y hy
        obtain⟨m,hm,rfl⟩:=List.mem_iff_getElem.1 hy
        rw[List.length_drop] at hm
        rw[List.getElem_drop]
        by_cases hmh:m=0
        · subst hmh;simpa using hc
        · have h3:=hgt (h+m) (by omega) (by omega)
          rw[Ki] at *
          omega
theorem U0 (l:List S36) (B J O:Int) (a2:Int) (hm:l.length≤1000000000) (hs:l.Pairwise (fun x y=>ltH x y=true)) (k:Nat) (hk:l.length<k):
    ∃ p,Gx l B J p∧api_Hall_89.f k l B J O a2=some ((p:Int),G3 l B J p):=by
  unfold api_Hall_89.f
  have:=Vi l B J O hm hs l.length k 0 l.length (by omega) (by omega) (by omega) hk (by simp) (by simp)
  simpa using this
theorem Uh (l:List S36) (O tok_:Int) (hm:l.length≤1000000000) (j:Nat):∀ (f i:Nat),i+j=l.length→2 * j<f→api_Hall_right.l0 f O l (l.length:Int) (i:Int) l tok_=some (Zi (fun x=>Xe (Yf O) (Ye O) x.f0 x.f1 x.f2) ltH (if i=0 then none else l[i-1]?) (l.drop i)):=by
  induction j with
  |zero=>
    intro f i hi hf
    obtain⟨f,rfl⟩:∃ m,f=m+1:=⟨f-1,by omega⟩
    simp only[api_Hall_right.l0]
    rw[if_neg (by omega),List.drop_of_length_le (by omega)]
    cases(if i=0 then none else l[i-1]?) <;> rfl
  |succ j ih=>
    intro f i hi hf
    obtain⟨f,rfl⟩:∃ m,f=m+2:=⟨f-2,by omega⟩
    have ha:i<l.length:=by omega
    have ei:wrap64 ((i:Int)+1)=((i+1:Nat):Int):=by unfold wrap64;omega
    have jt:api_Hall_right.j1 (f+1) O l (l.length:Int) (i:Int) true l tok_=some false:=by simp[api_Hall_right.j1]
    have jf:api_Hall_right.j1 (f+1) O l (l.length:Int) (i:Int) false l tok_=some (Zi (fun x=>Xe (Yf O) (Ye O) x.f0 x.f1 x.f2) ltH (some l[i]) (l.drop (i+1))):=by
      simp only[api_Hall_right.j1]
      rw[if_neg (by decide),ei,ih f (i+1) (by omega) (by omega),if_neg (by omega),Nat.add_sub_cancel,List.getElem?_eq_getElem ha]
    simp only[api_Hall_right.l0]
    rw[if_pos (by omega),if_pos (by omega),if_pos (by omega),Vk l i ha]
    unfold call_hall_1.f
    simp only[Option.bind_some]
    rw[List.drop_eq_getElem_cons ha]
    by_cases h1:Xe (Yf O) (Ye O) l[i].f0 l[i].f1 l[i].f2=true
    · rw[if_pos h1]
      by_cases X:i=0
      · subst X
        rw[if_neg (by omega),if_pos rfl,jf]
        simp only[Zi,h1,Bool.true_and]
      · have ep:wrap64 ((i:Int)-1)=((i-1:Nat):Int):=by unfold wrap64;omega
        rw[if_pos (by omega),ep,if_pos (by omega),if_pos (by omega),Vk l (i-1) (by omega),if_neg X,List.getElem?_eq_getElem (by omega)]
        unfold call_halls_1.f
        simp only[Option.bind_some]
        simp only[Zi,h1,Bool.true_and]
        unfold ltH
        by_cases hc:Ya (l[i-1]'(by omega)).f0 (l[i-1]'(by omega)).f1 l[i].f0 l[i].f1<0
        · rw[decide_eq_false (by omega),decide_eq_true hc,jf,Bool.true_and]
          rfl
        · rw[decide_eq_true (by omega),decide_eq_false hc,jt,Bool.false_and]
    · have h1':Xe (Yf O) (Ye O) l[i].f0 l[i].f1 l[i].f2=false:=by simpa using h1
      rw[if_neg h1,jt]
      by_cases X:i=0
      · rw[if_pos X]
        simp only[Zi,h1',Bool.false_and]
      · rw[if_neg X,List.getElem?_eq_getElem (by omega)]
        simp only[Zi,h1',Bool.false_and]
theorem W8 (l:List S36) (O tok_:Int) (hm:l.length≤1000000000) (k:Nat) (hk:2 * l.length<k):api_Hall_right.f k l tok_ O=some (Zi (fun x=>Xe (Yf O) (Ye O) x.f0 x.f1 x.f2) ltH none l):=by
  unfold api_Hall_right.f
  have:=Uh l O tok_ hm l.length k 0 (by omega) hk
  simpa using this
theorem Ug (may:S36→Bool) (l:List S36):∀ p,Zi may ltH (some p) l=true↔((∀ x ∈ l,may x=true)∧(p :: l).Pairwise (fun x y=>ltH x y=true)):=by
  induction l with
  |nil=>intro p;simp[Zi]
  |cons x l ih=>
    intro p
    simp only[Zi,Bool.and_eq_true]
    rw[ih x]
    simp only[List.pairwise_cons,List.mem_cons,forall_eq_or_imp]
    constructor
    · rintro⟨⟨h1,L⟩,h3,Y,J⟩
      exact⟨⟨h1,h3⟩,⟨L,fun y hy=>Ll L (Y y hy)⟩,Y,J⟩
    · rintro⟨⟨h1,h3⟩,⟨L,_⟩,Y,J⟩
      exact⟨⟨h1,L⟩,h3,Y,J⟩
theorem Jh (may:S36→Bool) (l:List S36):Zi may ltH none l=true↔((∀ x ∈ l,may x=true)∧l.Pairwise (fun x y=>ltH x y=true)):=by
  cases l with
  |nil=>simp[Zi]
  |cons x l=>
    simp only[Zi,Bool.and_eq_true]
    rw[Ug]
    simp only[List.mem_cons,forall_eq_or_imp]
    constructor
    · rintro⟨h1,L,h3⟩
      exact⟨⟨h1,L⟩,h3⟩
    · rintro⟨⟨h1,L⟩,h3⟩
      exact⟨h1,L,h3⟩
abbrev qI (O:Int) (x:S86):Bool:=Ya (Yf O) (Ye O) x.f0 x.f1==0
def ltI (x y:S86):Bool:=decide (Ya x.f0 x.f1 y.f0 y.f1<0)
theorem Nw (x y:S86):ltI x y=true↔(x.f0<y.f0∨(x.f0=y.f0∧x.f1<y.f1)):=by
  unfold ltI
  rw[decide_eq_true_iff,Ki]
theorem Lk {x y z:S86} (h1:ltI x y=true) (L:ltI y z=true):ltI x z=true:=by
  rw[Nw] at *
  omega
theorem Vj (l:List S86) (i:Nat) (h:i<l.length):Qo l (i:Int)=l[i]:=by
  unfold Qo
  rw[Int.toNat_natCast,List.getD_eq_getElem?_getD,List.getElem?_eq_getElem h]
  rfl
theorem Ln (l:List S86) (O:Int) (hm:l.length≤1000000000) (j:Nat):∀ (f i:Nat),i+j=l.length→j<f→api_Inside_100.l0 f l O (l.length:Int) (i:Int)=some (U8 (qI O) i (l.drop i)):=by
  induction j with
  |zero=>
    intro f i hi hf
    obtain⟨f,rfl⟩:∃ m,f=m+1:=⟨f-1,by omega⟩
    simp only[api_Inside_100.l0]
    rw[if_neg (by omega),List.drop_of_length_le (by omega)]
    rfl
  |succ j ih=>
    intro f i hi hf
    obtain⟨f,rfl⟩:∃ m,f=m+1:=⟨f-1,by omega⟩
    have ha:i<l.length:=by omega
    have ei:wrap64 ((i:Int)+1)=((i+1:Nat):Int):=by unfold wrap64;omega
    simp only[api_Inside_100.l0]
    rw[if_pos (by omega),if_pos (by omega),if_pos (by omega),Vj l i ha,ei,ih f (i+1) (by omega) (by omega)]
    unfold api_Inside_without_1.f
    simp only[Option.bind_some]
    rw[List.drop_eq_getElem_cons ha]
    simp only[U8]
    by_cases h:qI O l[i]=true
    · rw[if_pos h,if_pos h]
    · rw[if_neg h,if_neg h]
theorem N3 (l:List S86) (O:Int) (hm:l.length≤1000000000) (k:Nat) (hk:l.length<k):api_Inside_100.f k l O=some (U8 (qI O) 0 l):=by
  unfold api_Inside_100.f
  have:=Ln l O hm l.length k 0 (by omega) hk
  simpa using this
theorem Lo (l:List S86) (O:Int) (hm:l.length≤1000000000) (j:Nat):∀ (f:Nat) (x:List S86) (i m:Nat),x.length=l.length→m+j=l.length→i≤m→j<f→x.drop m=l.drop m→x.take i=(l.take m).filter (fun y=> !qI O y) →
    api_Inside_90.l0 f x O (i:Int) (m:Int)=some (l.filter (fun y=> !qI O y)):=by
  induction j with
  |zero=>
    intro f x i m hx hj him hf hd ht
    obtain⟨f,rfl⟩:∃ m,f=m+1:=⟨f-1,by omega⟩
    simp only[api_Inside_90.l0]
    rw[if_neg (by omega),if_pos (by omega),if_pos (by omega),Int.toNat_natCast,ht,List.take_of_length_le (by omega)]
  |succ j ih=>
    intro f x i m hx hj him hf hd ht
    obtain⟨f,rfl⟩:∃ m,f=m+1:=⟨f-1,by omega⟩
    have ha:m<l.length:=by omega
    have hax:m<x.length:=by omega
    have em:wrap64 ((m:Int)+1)=((m+1:Nat):Int):=by unfold wrap64;omega
    have ei:wrap64 ((i:Int)+1)=((i+1:Nat):Int):=by unfold wrap64;omega
    have hxm:x[m]=l[m]:=by
      have h1:=List.drop_eq_getElem_cons hax
      have L:=List.drop_eq_getElem_cons ha
      rw[hd,L] at h1
      exact(List.cons.inj h1).1.symm
    have X:x.drop (m+1)=l.drop (m+1):=by
      have h1:=List.drop_eq_getElem_cons hax
      have L:=List.drop_eq_getElem_cons ha
      rw[hd,L] at h1
      exact(List.cons.inj h1).2.symm
    have B:(l.take (m+1)).filter (fun y=> !qI O y)=(l.take m).filter (fun y=> !qI O y) ++ [l[m]].filter (fun y=> !qI O y):=by
      rw[List.take_succ_eq_append_getElem ha,List.filter_append]
    simp only[api_Inside_90.l0]
    rw[if_pos (by omega),if_pos (by omega),Vj x m hax,hxm,em,ei]
    unfold api_Inside_without_1.f
    simp only[Option.bind_some]
    by_cases h:qI O l[m]=true
    · rw[if_pos h]
      refine ih f x i (m+1) hx (by omega) (by omega) (by omega) X ?_
      rw[B,ht]
      simp only[List.filter_cons,List.filter_nil]
      rw[if_neg (by rw[h];decide),List.append_nil]
    · have hf':qI O l[m]=false:=by simpa using h
      rw[if_neg h,if_pos (by omega),if_pos (by omega),Int.toNat_natCast]
      refine ih f (x.set i _) (i+1) (m+1) (by rw[List.length_set];exact hx) (by omega) (by omega) (by omega) ?_ ?_
      · rw[List.drop_set_of_lt (by omega)]
        exact X
      · rw[B]
        simp only[List.filter_cons,List.filter_nil]
        rw[if_pos (by rw[hf'];rfl),List.take_succ_eq_append_getElem (by rw[List.length_set];omega),List.getElem_set_self,List.take_set_of_le (by omega),ht]
theorem N8 (l:List S86) (O:Int) (hm:l.length≤1000000000) (k:Nat) (hk:l.length+5<k):api_Inside_90.f k l O=some (l.filter (fun y=> !qI O y)):=by
  unfold api_Inside_90.f
  rw[N3 l O hm k (by omega)]
  simp only[Option.bind_some]
  rcases Lm (qI O) l 0 with⟨e,ha⟩|⟨i,hi,e,ht,ha⟩
  · rw[e,if_pos rfl]
    congr 1
    exact(List.filter_eq_self.2 (fun y hy=>by rw[ha y hy];rfl)).symm
  · rw[e,Nat.zero_add,if_neg (by omega)]
    have ei:wrap64 ((i:Int)+1)=((i+1:Nat):Int):=by unfold wrap64;omega
    rw[ei]
    refine Lo l O hm (l.length - (i+1)) k l i (i+1) rfl (by omega) (by omega) (by omega) rfl ?_
    rw[List.take_succ_eq_append_getElem hi,List.filter_append]
    simp only[List.filter_cons,List.filter_nil]
    rw[if_neg (by rw[ht];decide),List.append_nil]
    exact(List.filter_eq_self.2 (fun y hy=>by rw[ha y hy];rfl)).symm
theorem Uf (l:List S86) (O tok_:Int) (hm:l.length≤1000000000) (j:Nat):∀ (f i:Nat),i+j=l.length→2 * j<f→api_Inside_right.l0 f O l (l.length:Int) (i:Int) l tok_=some (Zi (fun x=>J0 (Yf O) (Ye O) x.f0 x.f1) ltI (if i=0 then none else l[i-1]?) (l.drop i)):=by
  induction j with
  |zero=>
    intro f i hi hf
    obtain⟨f,rfl⟩:∃ m,f=m+1:=⟨f-1,by omega⟩
    simp only[api_Inside_right.l0]
    rw[if_neg (by omega),List.drop_of_length_le (by omega)]
    cases(if i=0 then none else l[i-1]?) <;> rfl
  |succ j ih=>
    intro f i hi hf
    obtain⟨f,rfl⟩:∃ m,f=m+2:=⟨f-2,by omega⟩
    have ha:i<l.length:=by omega
    have ei:wrap64 ((i:Int)+1)=((i+1:Nat):Int):=by unfold wrap64;omega
    have jt:api_Inside_right.j1 (f+1) O l (l.length:Int) (i:Int) true l tok_=some false:=by simp[api_Inside_right.j1]
    have jf:api_Inside_right.j1 (f+1) O l (l.length:Int) (i:Int) false l tok_=some (Zi (fun x=>J0 (Yf O) (Ye O) x.f0 x.f1) ltI (some l[i]) (l.drop (i+1))):=by
      simp only[api_Inside_right.j1]
      rw[if_neg (by decide),ei,ih f (i+1) (by omega) (by omega),if_neg (by omega),Nat.add_sub_cancel,List.getElem?_eq_getElem ha]
    simp only[api_Inside_right.l0]
    rw[if_pos (by omega),if_pos (by omega),if_pos (by omega),Vj l i ha]
    unfold call_inside_1.f
    simp only[Option.bind_some]
    rw[List.drop_eq_getElem_cons ha]
    by_cases h1:J0 (Yf O) (Ye O) l[i].f0 l[i].f1=true
    · rw[if_pos h1]
      by_cases X:i=0
      · subst X
        rw[if_neg (by omega),if_pos rfl,jf]
        simp only[Zi,h1,Bool.true_and]
      · have ep:wrap64 ((i:Int)-1)=((i-1:Nat):Int):=by unfold wrap64;omega
        rw[if_pos (by omega),ep,if_pos (by omega),if_pos (by omega),Vj l (i-1) (by omega),if_neg X,List.getElem?_eq_getElem (by omega)]
        unfold call_ins_1.f
        simp only[Option.bind_some]
        simp only[Zi,h1,Bool.true_and]
        unfold ltI
        by_cases hc:Ya (l[i-1]'(by omega)).f0 (l[i-1]'(by omega)).f1 l[i].f0 l[i].f1<0
        · rw[decide_eq_false (by omega),decide_eq_true hc,jf,Bool.true_and]
          rfl
        · rw[decide_eq_true (by omega),decide_eq_false hc,jt,Bool.false_and]
    · have h1':J0 (Yf O) (Ye O) l[i].f0 l[i].f1=false:=by simpa using h1
      rw[if_neg h1,jt]
      by_cases X:i=0
      · rw[if_pos X]
        simp only[Zi,h1',Bool.false_and]
      · rw[if_neg X,List.getElem?_eq_getElem (by omega)]
        simp only[Zi,h1',Bool.false_and]
theorem W7 (l:List S86) (O tok_:Int) (hm:l.length≤1000000000) (k:Nat) (hk:2 * l.length<k):api_Inside_right.f k l tok_ O=some (Zi (fun x=>J0 (Yf O) (Ye O) x.f0 x.f1) ltI none l):=by
  unfold api_Inside_right.f
  have:=Uf l O tok_ hm l.length k 0 (by omega) hk
  simpa using this
theorem Ud (may:S86→Bool) (l:List S86):∀ p,Zi may ltI (some p) l=true↔((∀ x ∈ l,may x=true)∧(p :: l).Pairwise (fun x y=>ltI x y=true)):=by
  induction l with
  |nil=>intro p;simp[Zi]
  |cons x l ih=>
    intro p
    simp only[Zi,Bool.and_eq_true]
    rw[ih x]
    simp only[List.pairwise_cons,List.mem_cons,forall_eq_or_imp]
    constructor
    · rintro⟨⟨h1,L⟩,h3,Y,J⟩
      exact⟨⟨h1,h3⟩,⟨L,fun y hy=>Lk L (Y y hy)⟩,Y,J⟩
    · rintro⟨⟨h1,h3⟩,⟨L,_⟩,Y,J⟩
      exact⟨⟨h1,L⟩,h3,Y,J⟩
theorem Ue (may:S86→Bool) (l:List S86):Zi may ltI none l=true↔((∀ x ∈ l,may x=true)∧l.Pairwise (fun x y=>ltI x y=true)):=by
  cases l with
  |nil=>simp[Zi]
  |cons x l=>
    simp only[Zi,Bool.and_eq_true]
    rw[Ud]
    simp only[List.mem_cons,forall_eq_or_imp]
    constructor
    · rintro⟨h1,L,h3⟩
      exact⟨⟨h1,L⟩,h3⟩
    · rintro⟨⟨h1,L⟩,h3⟩
      exact⟨h1,L,h3⟩
end Go.Proofs.Ytmfffemidlhcpaa.Call
namespace Go.Proofs.Ytmfffemidlhcpaa.C
open Go.RowKit Go.Proofs.YtmfffemidlhcpaaW.PrintWords Go.Proofs.YtmfffemidlhcpaaW.PrintLast Go.Proofs.YtmfffemidlhcpaaW.PrintMore
attribute [local go_sem] Zz Zx Z9 Z8 Zq Zp Zy Zw
set_option linter.unusedVariables false
set_option linter.unusedSimpArgs false
def newelref19_Hall.j0:Nat→Bool→Int→Int→Int→Int→Int→Option (Bool)
 |0,_,_,_,_,_,_=>none
 |k+1,γ,J,O,B,L,X=>if γ=true then (some false) else (if L=1 then (if B≥0 then (some (decide (B≤(wrap64 (J-2))))) else (some false)) else (if L=(-1) then (if B≥1 then (some (decide (B≤(wrap64 (J-1))))) else (some false)) else (some false)))
def newelref19_Hall.f (k:Nat) (B:Int) (J:Int) (O:Int) (X:Int) (δ :Int):Option (Bool):=if δ < (-1) then (newelref19_Hall.j0 k true B J O X δ) else (newelref19_Hall.j0 k (decide (δ ≥ J)) B J O X δ)
set_option maxHeartbeats 8000000 in
set_option maxRecDepth 100000 in
theorem newelref19_Hall.calls (k:Nat) (B:Int) (J:Int) (O:Int) (X:Int) (δ :Int) (r:Bool) (w:World) (h:newelref19_Hall.f k B J O X δ = some r):
  Calls Try.prog 18 #[.agg #[.int .i64 B,.int .i64 J],.agg #[.int .i64 O,.int .i64 X,.int .i64 δ]] w fun e w'=>e = .returned (.bool r)∧Below w.heap.size w w':=by
 have d0:=Try.underlying59
 have dh:=Try.underlying36
 have HB:=Aside0.mk (Below.refl w.heap.size w)
 have H:(if δ < (-1) then (newelref19_Hall.j0 k true B J O X δ) else (newelref19_Hall.j0 k (decide (δ ≥ J)) B J O X δ))=some r:=h
 clear h
 have ξ :=Aside0.mk H
 clear H
 go_enter Try.func18,Try.ntmps18
 go_upto_region 1 with(first|((with_reducible refine Qe (N:=2) rfl ?_);refine qE 2 #[.int .i64 B,.int .i64 J] 59 ?_;intro ε hg w4 hbox hb;have Z:=Aside0.mk hbox;have η :=sGe hg;have θ :=sGe hg;replace HB:=sHb hb;clear hb hbox hg)|((with_reducible refine Qe (N:=3) rfl ?_);refine qE 3 #[.int .i64 O,.int .i64 X,.int .i64 δ] 36 ?_;intro ζ hg w5 hbox hb;have γ:=Aside0.mk hbox;have ι :=sGe hg;have κ :=sGe hg;have L:=sNl Z hg;have Y:=sNg Z hg;replace Z:=sBk Z hb;replace HB:=sHb hb;clear hb hbox hg))
 (try simp only[Act.put,qS])
 go_cut [14] (fun bn wc=>∃ (kq:Nat) (ψ :Bool),bn = .bool ψ ∧ Aside0 (newelref19_Hall.j0 kq ψ B J O X δ = some r)∧Aside0 (kq≤k)∧Aside0 (wc.heap[ε]?=some (.cells #[.int .i64 B,.int .i64 J] 59 (0,0)))∧Aside0 (wc.heap[ζ]?=some (.cells #[.int .i64 O,.int .i64 X,.int .i64 δ] 36 (0,0)))∧Aside0 (Below w.heap.size w wc))
 case first=>
  have H:= ξ.out
  clear ξ
  by_cases c6: δ < (-1)
  ·rw[if_pos c6] at H
   have c6b0:decide (δ < (-1))=true:=decide_eq_true c6
   clear c6
   (first|rw[c6b0]|(simp only[Za,Zb];rw[c6b0])|skip)
   have H':=Aside0.mk H
   clear H
   have ez:=Y.out
   have fr:=L.out
   obtain⟨br,bv,cp,cu,cv,cw⟩:=qD3 γ.out
   go_wp2
   go_meet
   case rel=>exact⟨_,(true),rfl,H',⟨by first|omega|exact Nat.le_refl _⟩,Z,γ,HB⟩
  ·rw[if_neg c6] at H
   have c6b0:decide (δ < (-1))=false:=decide_eq_false c6
   clear c6
   (first|rw[c6b0]|(simp only[Za,Zb];rw[c6b0])|skip)
   have H':=Aside0.mk H
   clear H
   have o3:=Y.out
   have o4:=L.out
   obtain⟨ab,ai,aj,aw,ax,bd⟩:=qD3 γ.out
   obtain⟨ah,ak,ao,ap⟩:=qD2 Z.out
   go_wp2
   go_meet
   case rel=>exact⟨_,(decide (δ ≥ J)),rfl,H',⟨by first|omega|exact Nat.le_refl _⟩,Z,γ,HB⟩
 case rest=>
  clear ξ
  try clear c1
  try clear p2
  try clear c6
  try clear c6b0
  try clear c7
  try clear c9
  try clear ab
  try clear ai
  try clear aj
  try clear ah
  try clear ak
  try clear br
  try clear bv
  try clear cp
  try clear aw
  try clear ax
  try clear bd
  try clear ao
  try clear ap
  try clear cu
  try clear cv
  try clear cw
  obtain⟨kq,ψ,rfl,HA,b6,Z,γ,HB⟩:=hcut
  cases kq with
  |zero=>exact absurd HA.out (by simp[newelref19_Hall.j0])
  |succ d5=>
   have H:=HA.out
   clear HA
   simp only[newelref19_Hall.j0] at H
   by_cases ae: ψ = true
   ·subst ae
    have H1:(some false)=some r:=by rw[if_pos rfl] at H;exact H
    clear H
    have H:=H1
    clear H1
    obtain rfl:=Option.some.inj H
    go_wp2
    go_ret
    exact⟨rfl,HB.out⟩
   ·replace ae:=Bool.eq_false_iff.mpr ae
    subst ae
    have H1:(if X=1 then (if O≥0 then (some (decide (O≤(wrap64 (B-2))))) else (some false)) else (if X=(-1) then (if O≥1 then (some (decide (O≤(wrap64 (B-1))))) else (some false)) else (some false)))=some r:=by rw[if_neg (show ¬ (false=true) by decide)] at H;exact H
    clear H
    have H:=H1
    clear H1
    by_cases a2:X=1
    ·rw[if_pos a2] at H
     have c13b0:(X==1)=true:=beq_iff_eq.mpr a2
     have c13b1:(X != 1)=false:=bne_eq_false_iff_eq.mpr a2
     clear a2
     by_cases ag:O≥0
     ·rw[if_pos ag] at H
      have c14b0:decide (0≤O)=true:=decide_eq_true ag
      clear ag
      obtain rfl:=Option.some.inj H
      have fm:=Y.out
      have fn:=L.out
      obtain⟨bw,bz,cq,ca,cb,cr⟩:=qD3 γ.out
      obtain⟨af,cd,ce,cf⟩:=qD2 Z.out
      go_wp2
      go_ret
      exact⟨rfl,HB.out⟩
     ·rw[if_neg ag] at H
      have c14b0:decide (0≤O)=false:=decide_eq_false ag
      clear ag
      obtain rfl:=Option.some.inj H
      have fz:=Y.out
      have gq:=L.out
      obtain⟨am,an,b5,ay,b0,b7⟩:=qD3 γ.out
      go_wp2
      go_ret
      exact⟨rfl,HB.out⟩
    ·rw[if_neg a2] at H
     have c13b0:(X==1)=false:=beq_eq_false_iff_ne.mpr a2
     have c13b1:(X != 1)=true:=bne_iff_ne.mpr a2
     by_cases bc:X=(-1)
     ·rw[if_pos bc] at H
      have c20b0:(X==(-1))=true:=beq_iff_eq.mpr bc
      have c20b1:(X != (-1))=false:=bne_eq_false_iff_eq.mpr bc
      clear bc
      by_cases σ:O≥1
      ·rw[if_pos σ] at H
       have c21b0:decide (1≤O)=true:=decide_eq_true σ
       clear σ
       obtain rfl:=Option.some.inj H
       have g9:=Y.out
       have gt:=L.out
       obtain⟨cy,cz,di,e3,e4,e5⟩:=qD3 γ.out
       obtain⟨b9,ba,bb,bf⟩:=qD2 Z.out
       go_wp2
       go_ret
       exact⟨rfl,HB.out⟩
      ·rw[if_neg σ] at H
       have c21b0:decide (1≤O)=false:=decide_eq_false σ
       clear σ
       obtain rfl:=Option.some.inj H
       have d1:=Y.out
       have d2:=L.out
       obtain⟨d9,da,dx,db,dc,dy⟩:=qD3 γ.out
       go_wp2
       go_ret
       exact⟨rfl,HB.out⟩
     ·rw[if_neg bc] at H
      have c20b0:(X==(-1))=false:=beq_eq_false_iff_ne.mpr bc
      have c20b1:(X != (-1))=true:=bne_iff_ne.mpr bc
      obtain rfl:=Option.some.inj H
      have m8:=Y.out
      have m9:=L.out
      obtain⟨eh,fi,fj,ei,fk,fl⟩:=qD3 γ.out
      go_wp2
      go_ret
      exact⟨rfl,HB.out⟩
theorem eqA36 (d:Nat) (w:World) (B L:Int) (J X:Int) (O Y:Int):
  (Op.equalIn (d+2) 36 (.agg #[.int .i64 B,.int .i64 J,.int .i64 O]) (.agg #[.int .i64 L,.int .i64 X,.int .i64 Y])).run Try.prog w = .ok (B==L&&(J==X&&(O==Y))) w:=by
 refine Mt Try.underlying36 kr ?_
 refine Gl (by rfl) (by go_simp;rfl) (by go_simp;rfl) (by go_simp) ?_
 refine Gl (by rfl) (by go_simp;rfl) (by go_simp;rfl) (by go_simp) ?_
 exact Uu (by rfl) (by go_simp;rfl) (by go_simp;rfl) (by go_simp)
theorem eqA86 (d:Nat) (w:World) (B L:Int) (J X:Int):
  (Op.equalIn (d+2) 86 (.agg #[.int .i64 B,.int .i64 J]) (.agg #[.int .i64 L,.int .i64 X])).run Try.prog w = .ok (B==L&&(J==X)) w:=by
 refine Mt Try.underlying86 kr ?_
 refine Gl (by rfl) (by go_simp;rfl) (by go_simp;rfl) (by go_simp) ?_
 exact Uu (by rfl) (by go_simp;rfl) (by go_simp;rfl) (by go_simp)
def newelref21_Costs.f (k:Nat) (B:Int) (J:Int) (L:Int) (Y:Int) (Z:Int) (ε :Int) (γ:Int) (θ :Int) (ζ :Int) (η :Int) (O:Int) (X:Int) (δ :Int) (κ :Int) (ι :Int) (μ :Int) (ν :Int) (ξ :Int) (ψ :Bool) (ω :Bool) (σ:List Int) (τ :List Int) (φ :List Int) (a2:Int) (a5:Int) (a6:Int):Option (Bool):=(newelref21_Lift.f k B J L Y Z ε γ θ ζ η O X δ κ ι μ ν ξ ψ ω).bind fun b5=>((newelref20_View.f k B σ τ φ).bind fun b2=>((newelref19_Hall.f k B 8 a2 a5 a6).bind fun ae=>(if b5=true then (if b2=true then (some ae) else (some false)) else (some false))))
set_option maxHeartbeats 8000000 in
set_option maxRecDepth 100000 in
theorem newelref21_Costs.calls (k:Nat) (B:Int) (J:Int) (L:Int) (Y:Int) (Z:Int) (ε :Int) (γ:Int) (θ :Int) (ζ :Int) (η :Int) (O:Int) (X:Int) (δ :Int) (κ :Int) (ι :Int) (μ :Int) (ν :Int) (ξ :Int) (ψ :Bool) (ω :Bool) (a9:Option Addr) (aa:Nat) (σ:List Int) (ab:Option Addr) (ac:Nat) (τ :List Int) (ai:Option Addr) (aj:Nat) (φ :List Int) (a2:Int) (a5:Int) (a6:Int) (r:Bool) (w:World) (cb:Kd.C (Kd.int .i64) w a9 σ.length σ) (cp:σ.length≤aa) (cq:Kd.C (Kd.int .i64) w ab τ.length τ) (cr: τ.length≤ac) (e3:Kd.C (Kd.int .i64) w ai φ.length φ) (e4: φ.length≤aj) (h:newelref21_Costs.f k B J L Y Z ε γ θ ζ η O X δ κ ι μ ν ξ ψ ω σ τ φ a2 a5 a6=some r):
  Calls Try.prog 11 #[.agg #[.int .i64 B,.int .i64 J,.int .i64 L,.int .i64 Y,.int .i64 Z,.int .i64 ε,.int .i64 γ,.int .i64 θ,.int .i64 ζ,.int .i64 η],.agg #[.int .i64 O,.int .i64 X,.int .i64 δ,.int .i64 κ,.int .i64 ι,.int .i64 μ,.int .i64 ν,.int .i64 ξ,.bool ψ,.bool ω],.agg #[.slice a9 σ.length aa,.slice ab τ.length ac,.slice ai φ.length aj],.agg #[.int .i64 a2,.int .i64 a5,.int .i64 a6]] w fun e w'=>e = .returned (.bool r)∧Below w.heap.size w w':=by
 have cx:=Try.underlying25
 have i4:=Try.underlying31
 have f7:=Try.underlying34
 have dh:=Try.underlying36
 have d0:=Try.underlying59
 have b8:=Aside0.mk cb
 have bn:=Aside0.mk cp
 clear cb cp
 have bw:=Aside0.mk cq
 have bz:=Aside0.mk cr
 clear cq cr
 have cy:=Aside0.mk e3
 have cz:=Aside0.mk e4
 clear e3 e4
 have HB:=Aside0.mk (Below.refl w.heap.size w)
 have H:((newelref21_Lift.f k B J L Y Z ε γ θ ζ η O X δ κ ι μ ν ξ ψ ω).bind fun b5=>((newelref20_View.f k B σ τ φ).bind fun b2=>((newelref19_Hall.f k B 8 a2 a5 a6).bind fun ae=>(if b5=true then (if b2=true then (some ae) else (some false)) else (some false)))))=some r:=h
 clear h
 replace H:=Option.bind_eq_some_iff.mp H
 obtain⟨b5,b3,H⟩:=H
 replace H:((newelref20_View.f k B σ τ φ).bind fun b2=>((newelref19_Hall.f k B 8 a2 a5 a6).bind fun ae=>(if b5=true then (if b2=true then (some ae) else (some false)) else (some false))))=some r:=H
 have A5:=Aside0.mk b3
 clear b3
 replace H:=Option.bind_eq_some_iff.mp H
 obtain⟨b2,az,H⟩:=H
 replace H:((newelref19_Hall.f k B 8 a2 a5 a6).bind fun ae=>(if b5=true then (if b2=true then (some ae) else (some false)) else (some false)))=some r:=H
 have A6:=Aside0.mk az
 clear az
 replace H:=Option.bind_eq_some_iff.mp H
 obtain⟨ae,eg,H⟩:=H
 replace H:(if b5=true then (if b2=true then (some ae) else (some false)) else (some false))=some r:=H
 have A7:=Aside0.mk eg
 clear eg
 by_cases c8:b5=true
 ·subst c8
  have H1:(if b2=true then (some ae) else (some false))=some r:=by rw[if_pos rfl] at H;exact H
  clear H
  have H:=H1
  clear H1
  by_cases c9:b2=true
  ·subst c9
   have H1:(some ae)=some r:=by rw[if_pos rfl] at H;exact H
   clear H
   have H:=H1
   clear H1
   obtain rfl:=Option.some.inj H
   go_enter Try.func11,Try.ntmps11
   go_wp2_with (first|((with_reducible refine Qe (N:=4) rfl ?_);refine qE 4 #[.int .i64 B,.int .i64 J,.int .i64 L,.int .i64 Y,.int .i64 Z,.int .i64 ε,.int .i64 γ,.int .i64 θ,.int .i64 ζ,.int .i64 η] 25 ?_;intro b6 hg fg hbox hb;have ρ:=Aside0.mk hbox;have bd:=sGe hg;have be:=sGe hg;replace HB:=sHb hb;clear hb hbox hg)|((with_reducible refine Qe (N:=5) rfl ?_);refine qE 5 #[.int .i64 O,.int .i64 X,.int .i64 δ,.int .i64 κ,.int .i64 ι,.int .i64 μ,.int .i64 ν,.int .i64 ξ,.bool ψ,.bool ω] 31 ?_;intro bg hg ez hbox hb;have χ :=Aside0.mk hbox;have bh:=sGe hg;have bi:=sGe hg;have ah:=sNl ρ hg;have ak:=sNg ρ hg;replace ρ:=sBk ρ hb;replace HB:=sHb hb;clear hb hbox hg)|((with_reducible refine Qe (N:=6) rfl ?_);refine qE 6 #[.slice a9 σ.length aa,.slice ab τ.length ac,.slice ai φ.length aj] 34 ?_;intro bj hg er hbox hb;have a0:=Aside0.mk hbox;have bk:=sGe hg;have bl:=sGe hg;have al:=sNl ρ hg;have am:=sNg ρ hg;have an:=sNl χ hg;have ao:=sNg χ hg;replace ρ:=sBk ρ hb;replace χ :=sBk χ hb;replace HB:=sHb hb;clear hb hbox hg)|((with_reducible refine Qe (N:=7) rfl ?_);refine qE 7 #[.int .i64 a2,.int .i64 a5,.int .i64 a6] 36 ?_;intro bm hg i3 hbox hb;have a3:=Aside0.mk hbox;have bp:=sGe hg;have bq:=sGe hg;have ap:=sNl ρ hg;have aw:=sNg ρ hg;have ax:=sNl χ hg;have ay:=sNg χ hg;have b0:=sNl a0 hg;have b1:=sNg a0 hg;replace ρ:=sBk ρ hb;replace χ :=sBk χ hb;replace a0:=sBk a0 hb;replace HB:=sHb hb;clear hb hbox hg;have h7:=ah.out;have h8:=ak.out;have fm:=al.out;have fn:=am.out;have jb:=ap.out;have jc:=aw.out;obtain⟨af,cd,bs,ag,bv,dd,df,b4,de,ei,ce,cf,bu,e0,ea,eb,ec,ek,el,em⟩:=Q5 ρ.out;have fz:=an.out;have gq:=ao.out;have b7:=ax.out;have ch:=ay.out;obtain⟨a7,ar,a1,dl,dm,dn,dp,i5,i6,i7,au,av,a8,dq,dr,dt,du,i9,ia,ib⟩:=Q5 χ.out)|((with_reducible refine Qd (f:=32) rfl ?_);refine Qn (some 14) rfl rfl Try.func32 kr rfl #[.agg #[.int .i64 B,.int .i64 J,.int .i64 L,.int .i64 Y,.int .i64 Z,.int .i64 ε,.int .i64 γ,.int .i64 θ,.int .i64 ζ,.int .i64 η],.agg #[.int .i64 O,.int .i64 X,.int .i64 δ,.int .i64 κ,.int .i64 ι,.int .i64 μ,.int .i64 ν,.int .i64 ξ,.bool ψ,.bool ω]] rfl qM ?_;(with_reducible refine(newelref21_Lift.calls k B J L Y Z ε γ θ ζ η O X δ κ ι μ ν ξ ψ ω true _ A5.out).mono ?_);rintro e bc ⟨rfl,hb⟩;refine⟨_,rfl, ?_⟩;replace ρ:=sBk ρ hb;replace χ :=sBk χ hb;replace a0:=sBk a0 hb;replace a3:=sBk a3 hb;replace HB:=sHb hb;(try clear hb);(try clear a4);(try clear hk);(try clear hi);obtain⟨ct,cu,dv,gr,gs,gt,gu,jd,je,jf,cv,cw,dw,gv,gw,gx,gy,jg,jh,ji⟩:=Q5 ρ.out;have di:=b0.out;have e5:=b1.out;obtain⟨b9,ba,bo,bb,bf,d8⟩:=qD3 a0.out)|((with_reducible refine Qd (f:=33) rfl ?_);refine Qn (some 18) rfl rfl Try.func33 kr rfl #[.int .i64 B,.agg #[.slice a9 σ.length aa,.slice ab τ.length ac,.slice ai φ.length aj]] rfl qM ?_;(with_reducible refine(newelref20_View.calls k B _ _ σ _ _ τ _ _ φ true _ ?side1 ?side2 ?side3 ?side4 ?side5 ?side6 A6.out).mono ?_);(case side1=>exact(Kd.Qp b8.out HB.out));(case side2=>exact bn.out);(case side3=>exact(Kd.Qp bw.out HB.out));(case side4=>exact bz.out);(case side5=>exact(Kd.Qp cy.out HB.out));(case side6=>exact cz.out);rintro e fq ⟨rfl,hb⟩;refine⟨_,rfl, ?_⟩;replace ρ:=sBk ρ hb;replace χ :=sBk χ hb;replace a0:=sBk a0 hb;replace a3:=sBk a3 hb;replace HB:=sHb hb;(try clear hb);(try clear a4);(try clear hk);(try clear hi);obtain⟨d9,da,dx,ee,ef,gf,gg,j4,j6,j7,db,dc,dy,gh,gi,gj,ic,j5,j8,j9⟩:=Q5 ρ.out;obtain⟨ca,cj,cn,co,d3,d4⟩:=qD3 a3.out)|((with_reducible refine Qd (f:=18) rfl ?_);refine Qn (some 23) rfl rfl Try.func18 kr rfl #[.agg #[.int .i64 B,.int .i64 8],.agg #[.int .i64 a2,.int .i64 a5,.int .i64 a6]] rfl qM ?_;(with_reducible refine(newelref19_Hall.calls k B 8 a2 a5 a6 ae _ A7.out).mono ?_);rintro e eh ⟨rfl,hb⟩;refine⟨_,rfl, ?_⟩;replace ρ:=sBk ρ hb;replace χ :=sBk χ hb;replace a0:=sBk a0 hb;replace a3:=sBk a3 hb;replace HB:=sHb hb;(try clear hb);(try clear a4);(try clear hk);(try clear hi)))
   go_ret
   exact⟨rfl,HB.out⟩
  ·replace c9:=Bool.eq_false_iff.mpr c9
   subst c9
   have H1:(some false)=some r:=by rw[if_neg (show ¬ (false=true) by decide)] at H;exact H
   clear H
   have H:=H1
   clear H1
   obtain rfl:=Option.some.inj H
   go_enter Try.func11,Try.ntmps11
   go_wp2_with (first|((with_reducible refine Qe (N:=4) rfl ?_);refine qE 4 #[.int .i64 B,.int .i64 J,.int .i64 L,.int .i64 Y,.int .i64 Z,.int .i64 ε,.int .i64 γ,.int .i64 θ,.int .i64 ζ,.int .i64 η] 25 ?_;intro b6 hg ci hbox hb;have ρ:=Aside0.mk hbox;have bd:=sGe hg;have be:=sGe hg;replace HB:=sHb hb;clear hb hbox hg)|((with_reducible refine Qe (N:=5) rfl ?_);refine qE 5 #[.int .i64 O,.int .i64 X,.int .i64 δ,.int .i64 κ,.int .i64 ι,.int .i64 μ,.int .i64 ν,.int .i64 ξ,.bool ψ,.bool ω] 31 ?_;intro bg hg ej hbox hb;have χ :=Aside0.mk hbox;have bh:=sGe hg;have bi:=sGe hg;have ah:=sNl ρ hg;have ak:=sNg ρ hg;replace ρ:=sBk ρ hb;replace HB:=sHb hb;clear hb hbox hg)|((with_reducible refine Qe (N:=6) rfl ?_);refine qE 6 #[.slice a9 σ.length aa,.slice ab τ.length ac,.slice ai φ.length aj] 34 ?_;intro bj hg k1 hbox hb;have a0:=Aside0.mk hbox;have bk:=sGe hg;have bl:=sGe hg;have al:=sNl ρ hg;have am:=sNg ρ hg;have an:=sNl χ hg;have ao:=sNg χ hg;replace ρ:=sBk ρ hb;replace χ :=sBk χ hb;replace HB:=sHb hb;clear hb hbox hg)|((with_reducible refine Qe (N:=7) rfl ?_);refine qE 7 #[.int .i64 a2,.int .i64 a5,.int .i64 a6] 36 ?_;intro bm hg nf hbox hb;have a3:=Aside0.mk hbox;have bp:=sGe hg;have bq:=sGe hg;have ap:=sNl ρ hg;have aw:=sNg ρ hg;have ax:=sNl χ hg;have ay:=sNg χ hg;have b0:=sNl a0 hg;have b1:=sNg a0 hg;replace ρ:=sBk ρ hb;replace χ :=sBk χ hb;replace a0:=sBk a0 hb;replace HB:=sHb hb;clear hb hbox hg;have ij:=ah.out;have ik:=ak.out;have jr:=al.out;have jt:=am.out;have ma:=ap.out;have mb:=aw.out;obtain⟨g0,g1,g5,dk,et,eu,fb,br,cg,ck,g2,g3,ha,fc,fo,fp,gk,cm,d5,dz⟩:=Q5 ρ.out;have ii:=an.out;have ju:=ao.out;have ja:=ax.out;have k3:=ay.out;obtain⟨gz,h0,h9,jv,jw,jx,jy,jz,k0,k4,io,ip,iq,k5,k6,k7,k8,kk,km,kn⟩:=Q5 χ.out)|((with_reducible refine Qd (f:=32) rfl ?_);refine Qn (some 14) rfl rfl Try.func32 kr rfl #[.agg #[.int .i64 B,.int .i64 J,.int .i64 L,.int .i64 Y,.int .i64 Z,.int .i64 ε,.int .i64 γ,.int .i64 θ,.int .i64 ζ,.int .i64 η],.agg #[.int .i64 O,.int .i64 X,.int .i64 δ,.int .i64 κ,.int .i64 ι,.int .i64 μ,.int .i64 ν,.int .i64 ξ,.bool ψ,.bool ω]] rfl qM ?_;(with_reducible refine(newelref21_Lift.calls k B J L Y Z ε γ θ ζ η O X δ κ ι μ ν ξ ψ ω true _ A5.out).mono ?_);rintro e mc ⟨rfl,hb⟩;refine⟨_,rfl, ?_⟩;replace ρ:=sBk ρ hb;replace χ :=sBk χ hb;replace a0:=sBk a0 hb;replace a3:=sBk a3 hb;replace HB:=sHb hb;(try clear hb);(try clear a4);(try clear hk);(try clear hi);obtain⟨fi,fj,im,ix,iy,iz,j3,en,ey,fa,fk,fl,iv,jj,jk,jl,jm,g4,iw,k2⟩:=Q5 ρ.out;have lh:=b0.out;have ll:=b1.out;obtain⟨eo,ep,kz,l2,l3,l4⟩:=qD3 a0.out)|((with_reducible refine Qd (f:=33) rfl ?_);refine Qn (some 18) rfl rfl Try.func33 kr rfl #[.int .i64 B,.agg #[.slice a9 σ.length aa,.slice ab τ.length ac,.slice ai φ.length aj]] rfl qM ?_;(with_reducible refine(newelref20_View.calls k B _ _ σ _ _ τ _ _ φ false _ ?side1 ?side2 ?side3 ?side4 ?side5 ?side6 A6.out).mono ?_);(case side1=>exact(Kd.Qp b8.out HB.out));(case side2=>exact bn.out);(case side3=>exact(Kd.Qp bw.out HB.out));(case side4=>exact bz.out);(case side5=>exact(Kd.Qp cy.out HB.out));(case side6=>exact cz.out);rintro e ho ⟨rfl,hb⟩;refine⟨_,rfl, ?_⟩;replace ρ:=sBk ρ hb;replace χ :=sBk χ hb;replace a0:=sBk a0 hb;replace a3:=sBk a3 hb;replace HB:=sHb hb;(try clear hb);(try clear a4);(try clear hk);(try clear hi);obtain⟨jn,jo,ky,l5,l6,l7,l8,ko,kp,kq,jp,jq,l9,lb,lc,lf,lg,ks,kt,ku⟩:=Q5 ρ.out;obtain⟨gl,gm,i1,gn,gp,i2⟩:=qD3 a3.out)|((with_reducible refine Qd (f:=18) rfl ?_);refine Qn (some 23) rfl rfl Try.func18 kr rfl #[.agg #[.int .i64 B,.int .i64 8],.agg #[.int .i64 a2,.int .i64 a5,.int .i64 a6]] rfl qM ?_;(with_reducible refine(newelref19_Hall.calls k B 8 a2 a5 a6 ae _ A7.out).mono ?_);rintro e n1 ⟨rfl,hb⟩;refine⟨_,rfl, ?_⟩;replace ρ:=sBk ρ hb;replace χ :=sBk χ hb;replace a0:=sBk a0 hb;replace a3:=sBk a3 hb;replace HB:=sHb hb;(try clear hb);(try clear a4);(try clear hk);(try clear hi)))
   go_ret
   exact⟨rfl,HB.out⟩
 ·replace c8:=Bool.eq_false_iff.mpr c8
  subst c8
  have H1:(some false)=some r:=by rw[if_neg (show ¬ (false=true) by decide)] at H;exact H
  clear H
  have H:=H1
  clear H1
  obtain rfl:=Option.some.inj H
  go_enter Try.func11,Try.ntmps11
  go_wp2_with (first|((with_reducible refine Qe (N:=4) rfl ?_);refine qE 4 #[.int .i64 B,.int .i64 J,.int .i64 L,.int .i64 Y,.int .i64 Z,.int .i64 ε,.int .i64 γ,.int .i64 θ,.int .i64 ζ,.int .i64 η] 25 ?_;intro b6 hg o5 hbox hb;have ρ:=Aside0.mk hbox;have bd:=sGe hg;have be:=sGe hg;replace HB:=sHb hb;clear hb hbox hg)|((with_reducible refine Qe (N:=5) rfl ?_);refine qE 5 #[.int .i64 O,.int .i64 X,.int .i64 δ,.int .i64 κ,.int .i64 ι,.int .i64 μ,.int .i64 ν,.int .i64 ξ,.bool ψ,.bool ω] 31 ?_;intro bg hg g6 hbox hb;have χ :=Aside0.mk hbox;have bh:=sGe hg;have bi:=sGe hg;have ah:=sNl ρ hg;have ak:=sNg ρ hg;replace ρ:=sBk ρ hb;replace HB:=sHb hb;clear hb hbox hg)|((with_reducible refine Qe (N:=6) rfl ?_);refine qE 6 #[.slice a9 σ.length aa,.slice ab τ.length ac,.slice ai φ.length aj] 34 ?_;intro bj hg o6 hbox hb;have a0:=Aside0.mk hbox;have bk:=sGe hg;have bl:=sGe hg;have al:=sNl ρ hg;have am:=sNg ρ hg;have an:=sNl χ hg;have ao:=sNg χ hg;replace ρ:=sBk ρ hb;replace χ :=sBk χ hb;replace HB:=sHb hb;clear hb hbox hg)|((with_reducible refine Qe (N:=7) rfl ?_);refine qE 7 #[.int .i64 a2,.int .i64 a5,.int .i64 a6] 36 ?_;intro bm hg q1 hbox hb;have a3:=Aside0.mk hbox;have bp:=sGe hg;have bq:=sGe hg;have ap:=sNl ρ hg;have aw:=sNg ρ hg;have ax:=sNl χ hg;have ay:=sNg χ hg;have b0:=sNl a0 hg;have b1:=sNg a0 hg;replace ρ:=sBk ρ hb;replace χ :=sBk χ hb;replace a0:=sBk a0 hb;replace HB:=sHb hb;clear hb hbox hg;have mz:=ah.out;have n0:=ak.out;have ng:=al.out;have nh:=am.out;have n2:=ap.out;have n3:=aw.out;obtain⟨g9,ga,hy,k9,ka,kb,js,e6,e7,e8,gb,ge,i0,kc,kd,ke,lw,e9,ed,ev⟩:=Q5 ρ.out;have g7:=an.out;have g8:=ao.out;have ih:=ax.out;have kh:=ay.out;obtain⟨h6,ir,kf,kg,lm,ln,lp,lq,lr,ls,it,iu,lu,lv,lx,ly,lz,m0,m1,m2⟩:=Q5 χ.out)|((with_reducible refine Qd (f:=32) rfl ?_);refine Qn (some 14) rfl rfl Try.func32 kr rfl #[.agg #[.int .i64 B,.int .i64 J,.int .i64 L,.int .i64 Y,.int .i64 Z,.int .i64 ε,.int .i64 γ,.int .i64 θ,.int .i64 ζ,.int .i64 η],.agg #[.int .i64 O,.int .i64 X,.int .i64 δ,.int .i64 κ,.int .i64 ι,.int .i64 μ,.int .i64 ν,.int .i64 ξ,.bool ψ,.bool ω]] rfl qM ?_;(with_reducible refine(newelref21_Lift.calls k B J L Y Z ε γ θ ζ η O X δ κ ι μ ν ξ ψ ω false _ A5.out).mono ?_);rintro e me ⟨rfl,hb⟩;refine⟨_,rfl, ?_⟩;replace ρ:=sBk ρ hb;replace χ :=sBk χ hb;replace a0:=sBk a0 hb;replace a3:=sBk a3 hb;replace HB:=sHb hb;(try clear hb);(try clear a4);(try clear hk);(try clear hi);obtain⟨nd,ni,nj,nk,nl,nm,nn,ew,f8,fe,no,np,nq,nr,ns,nt,nu,ff,fh,fr⟩:=Q5 ρ.out;have hu:=b0.out;have hx:=b1.out;obtain⟨he,hh,dj,hj,hl,kl⟩:=qD3 a0.out)|((with_reducible refine Qd (f:=33) rfl ?_);refine Qn (some 18) rfl rfl Try.func33 kr rfl #[.int .i64 B,.agg #[.slice a9 σ.length aa,.slice ab τ.length ac,.slice ai φ.length aj]] rfl qM ?_;(with_reducible refine(newelref20_View.calls k B _ _ σ _ _ τ _ _ φ b2 _ ?side1 ?side2 ?side3 ?side4 ?side5 ?side6 A6.out).mono ?_);(case side1=>exact(Kd.Qp b8.out HB.out));(case side2=>exact bn.out);(case side3=>exact(Kd.Qp bw.out HB.out));(case side4=>exact bz.out);(case side5=>exact(Kd.Qp cy.out HB.out));(case side6=>exact cz.out);rintro e ki ⟨rfl,hb⟩;refine⟨_,rfl, ?_⟩;replace ρ:=sBk ρ hb;replace χ :=sBk χ hb;replace a0:=sBk a0 hb;replace a3:=sBk a3 hb;replace HB:=sHb hb;(try clear hb);(try clear a4);(try clear hk);(try clear hi);obtain⟨h4,h5,il,d1,d2,d6,d7,ft,fu,fv,ie,ig,m3,mw,my,nv,nw,fw,fx,fy⟩:=Q5 ρ.out;obtain⟨m4,m5,m6,m7,m8,m9⟩:=qD3 a3.out)|((with_reducible refine Qd (f:=18) rfl ?_);refine Qn (some 23) rfl rfl Try.func18 kr rfl #[.agg #[.int .i64 B,.int .i64 8],.agg #[.int .i64 a2,.int .i64 a5,.int .i64 a6]] rfl qM ?_;(with_reducible refine(newelref19_Hall.calls k B 8 a2 a5 a6 ae _ A7.out).mono ?_);rintro e o7 ⟨rfl,hb⟩;refine⟨_,rfl, ?_⟩;replace ρ:=sBk ρ hb;replace χ :=sBk χ hb;replace a0:=sBk a0 hb;replace a3:=sBk a3 hb;replace HB:=sHb hb;(try clear hb);(try clear a4);(try clear hk);(try clear hi)))
  go_ret
  exact⟨rfl,HB.out⟩
def group_house.f (B:Int) (J:Int) (L:Int) (Y:Int) (Z:Int) (ε :Int) (γ:Int) (θ :Int) (ζ :Int) (η :Int) (l1:List (S31)):Option (Int×Int):=some (B,(l1.length:Int))
set_option maxHeartbeats 8000000 in
set_option maxRecDepth 100000 in
theorem group_house.calls (B:Int) (J:Int) (L:Int) (Y:Int) (Z:Int) (ε :Int) (γ:Int) (θ :Int) (ζ :Int) (η :Int) (A1:Option Addr) (c1:Nat) (l1:List (S31)) (r1:Int) (r2:Int) (w:World) (dw:Kd.C k31 w A1 l1.length l1) (dj:l1.length≤c1) (h:group_house.f B J L Y Z ε γ θ ζ η l1=some (r1,r2)):
  Calls Try.prog 37 #[.agg #[.int .i64 B,.int .i64 J,.int .i64 L,.int .i64 Y,.int .i64 Z,.int .i64 ε,.int .i64 γ,.int .i64 θ,.int .i64 ζ,.int .i64 η],.slice A1 l1.length c1] w fun e w'=>e = .returned (.agg #[.int .i64 r1,.int .i64 r2])∧Below w.heap.size w w':=by
 have cx:=Try.underlying25
 have d0:=Try.underlying59
 have dk:=Aside0.mk dw
 have dz:=Aside0.mk dj
 clear dw dj
 have HB:=Aside0.mk (Below.refl w.heap.size w)
 have H:(some (B,(l1.length:Int)))=some (r1,r2):=h
 clear h
 simp only[Option.some.injEq,Prod.mk.injEq] at H
 obtain⟨rfl,rfl⟩:=H
 go_enter Try.func37,Try.ntmps37
 go_wp2_with (first|((with_reducible refine Qe (N:=2) rfl ?_);refine Zj ?hg (N:=2) ?hd (cs:=#[.int .i64 B,.int .i64 J,.int .i64 L,.int .i64 Y,.int .i64 Z,.int .i64 ε,.int .i64 γ,.int .i64 θ,.int .i64 ζ,.int .i64 η]) (t:=25) ?hr ?_;(case hd=>rfl);(case hg=>rfl);(case hr=>first|(go_simp;done)|(go_simp;rfl));intro O hg w3 hbox hb;have ρ:=Aside0.mk (Qy (by repeat(first|(with_reducible first|exact HB.out|apply Qq|apply Qj|apply Qi)|exact HB.out)) hb);have χ :=Aside0.mk (hbox);have a3:=Aside0.mk ((by rw[hg];exact(Qu (by repeat(first|(with_reducible first|exact HB.out|apply Qq|apply Qj|apply Qi)|exact HB.out))):w.heap.size≤O));have a8:=Aside0.mk ((by rw[hg];exact(Qu (by repeat(first|(with_reducible first|exact HB.out|apply Qq|apply Qj|apply Qi)|exact HB.out))):w.heap.size≤O));clear HB;have HB:=ρ;have X:= χ;have a6:=a3;have ι :=a8;clear ρ χ a3 a8;clear hb hbox hg)|((with_reducible refine Qe (N:=4) rfl ?_);refine Zj ?hg (N:=4) ?hd (cs:=#[.int .i64 0,.int .i64 0]) (t:=59) ?hr ?_;(case hd=>rfl);(case hg=>rfl);(case hr=>first|(go_simp;done)|(go_simp;rfl));intro δ hg w4 hbox hb;have ρ:=Aside0.mk (Qt (g:=O) (o:=.cells #[.int .i64 B,.int .i64 J,.int .i64 L,.int .i64 Y,.int .i64 Z,.int .i64 ε,.int .i64 γ,.int .i64 θ,.int .i64 ζ,.int .i64 η] 25 (0,0)) (by(with_reducible repeat first|refine Qk ?_ _|refine Qf ?_|refine Ql ?_ _);exact X.out) hb);have χ :=Aside0.mk (Qy (by repeat(first|(with_reducible first|exact HB.out|apply Qq|apply Qj|apply Qi|refine Qs ?_ ι.out)|exact HB.out)) hb);have a3:=Aside0.mk (hbox);have a8:=Aside0.mk ((by rw[hg];exact(Qu (by repeat(first|(with_reducible first|exact HB.out|apply Qq|apply Qj|apply Qi|refine Qs ?_ ι.out)|exact HB.out))):w.heap.size ≤ δ));have ah:=Aside0.mk ((by rw[hg];exact(Qu (by repeat(first|(with_reducible first|exact HB.out|apply Qq|apply Qj|apply Qi|refine Qs ?_ ι.out)|exact HB.out))):w.heap.size ≤ δ));have ar:=Aside0.mk ((by rw[hg];exact Nat.ne_of_lt (Xg (g:=O) (o:=.cells #[.int .i64 B,.int .i64 J,.int .i64 L,.int .i64 Y,.int .i64 Z,.int .i64 ε,.int .i64 γ,.int .i64 θ,.int .i64 ζ,.int .i64 η] 25 (0,0)) (by(with_reducible repeat first|refine Qk ?_ _|refine Qf ?_|refine Ql ?_ _);exact X.out)):O ≠ δ));have b2:=Aside0.mk ((by rw[hg];exact Nat.ne_of_gt (Xg (g:=O) (o:=.cells #[.int .i64 B,.int .i64 J,.int .i64 L,.int .i64 Y,.int .i64 Z,.int .i64 ε,.int .i64 γ,.int .i64 θ,.int .i64 ζ,.int .i64 η] 25 (0,0)) (by(with_reducible repeat first|refine Qk ?_ _|refine Qf ?_|refine Ql ?_ _);exact X.out)): δ ≠ O));clear X;clear HB;have X:=ρ;have HB:= χ;have ν :=a3;have a7:=a8;have σ:=ah;have κ :=ar;have μ :=b2;clear ρ χ a3 a8 ah ar b2;clear hb hbox hg;have a9:= κ.out;have aa:= μ.out;obtain⟨ξ,b3,bn,br,cb,cq,cr,τ,φ,a1,cy,cz,dh,e3,e4,e5,ed,a2,a4,a5⟩:=Q5 X.out;obtain⟨ψ,ω,a0,bb⟩:=qD2 ν.out))
 refine bodyPost_ret (results_cell_row rfl _ _ δ 59 #[.int .i64 B,.int .i64 (l1.length:Int)] (0,0) _ rfl (by(with_reducible repeat first|refine Qk ?_ _|refine Qf ?_|refine Ql ?_ _);refine Qm (cs:=#[.int .i64 B,.int .i64 0]) ?_ 1 _ rfl;(with_reducible repeat first|refine Qk ?_ _|refine Qf ?_|refine Ql ?_ _);refine Qm (cs:=#[.int .i64 0,.int .i64 0]) ?_ 0 _ rfl;(with_reducible repeat first|refine Qk ?_ _|refine Qf ?_|refine Ql ?_ _);exact ν.out) Try.underlying59 rfl kr) rfl ?_
 exact⟨by first|rfl|(simp[Qh,Qg] <;> rfl)|(simp[*,Qh,Qg] <;> rfl),by repeat(first|(with_reducible first|exact HB.out|apply Qq|apply Qj|apply Qi|refine Qs ?_ ι.out|refine Qs ?_ σ.out)|exact HB.out)⟩
def newellaw17_Plain.f:Option (Int×Int×Int×Int×Int×Int×Int×Int×Int×Int):=some (4,2,1,2,4,1,2,3,4,0)
set_option maxHeartbeats 8000000 in
set_option maxRecDepth 100000 in
theorem newellaw17_Plain.calls  (r1:Int) (r2:Int) (r3:Int) (r4:Int) (J:Int) (L:Int) (O:Int) (Y:Int) (Z:Int) (B:Int) (w:World) (h:newellaw17_Plain.f=some (r1,r2,r3,r4,J,L,O,Y,Z,B)):
  Calls Try.prog 27 #[] w fun e w'=>e = .returned (.agg #[.int .i64 r1,.int .i64 r2,.int .i64 r3,.int .i64 r4,.int .i64 J,.int .i64 L,.int .i64 O,.int .i64 Y,.int .i64 Z,.int .i64 B])∧Below w.heap.size w w':=by
 have cx:=Try.underlying25
 have k2:=Try.underlying23
 have HB:=Aside0.mk (Below.refl w.heap.size w)
 have H:(some (4,2,1,2,4,1,2,3,4,0))=some (r1,r2,r3,r4,J,L,O,Y,Z,B):=h
 clear h
 simp only[Option.some.injEq,Prod.mk.injEq] at H
 obtain⟨rfl,rfl,rfl,rfl,rfl,rfl,rfl,rfl,rfl,rfl⟩:=H
 go_enter Try.func27,Try.ntmps27
 go_wp2_with (first|((with_reducible refine Qe (N:=0) rfl ?_);refine Zj ?hg (N:=0) ?hd (cs:=#[.int .i64 0,.int .i64 0,.int .i64 0,.int .i64 0,.int .i64 0,.int .i64 0,.int .i64 0,.int .i64 0,.int .i64 0,.int .i64 0]) (t:=25) ?hr ?_;(case hd=>rfl);(case hg=>rfl);(case hr=>first|(go_simp;done)|(go_simp;rfl));intro a0 hg w1 hbox hb;have ρ:=Aside0.mk (Qy (by repeat(first|(with_reducible first|exact HB.out|apply Qq|apply Qj|apply Qi)|exact HB.out)) hb);have χ :=Aside0.mk (hbox);have a3:=Aside0.mk ((by rw[hg];exact(Qu (by repeat(first|(with_reducible first|exact HB.out|apply Qq|apply Qj|apply Qi)|exact HB.out))):w.heap.size≤a0));have a8:=Aside0.mk ((by rw[hg];exact(Qu (by repeat(first|(with_reducible first|exact HB.out|apply Qq|apply Qj|apply Qi)|exact HB.out))):w.heap.size≤a0));clear HB;have HB:=ρ;have X:= χ;have kk:=a3;have je:=a8;clear ρ χ a3 a8;clear hb hbox hg;obtain⟨γ,δ,ε,ζ,η,θ,ι,κ,μ,ν,ξ,σ,τ,φ,ψ,ω,a1,a2,a4,a5⟩:=Q5 X.out))
 refine bodyPost_ret (results_cell_row rfl _ _ a0 25 #[.int .i64 4,.int .i64 2,.int .i64 1,.int .i64 2,.int .i64 4,.int .i64 1,.int .i64 2,.int .i64 3,.int .i64 4,.int .i64 0] (0,0) _ rfl (by(with_reducible repeat first|refine Qk ?_ _|refine Qf ?_|refine Ql ?_ _);refine Qm (cs:=#[.int .i64 4,.int .i64 2,.int .i64 1,.int .i64 2,.int .i64 4,.int .i64 1,.int .i64 2,.int .i64 3,.int .i64 4,.int .i64 0]) ?_ 9 _ rfl;(with_reducible repeat first|refine Qk ?_ _|refine Qf ?_|refine Ql ?_ _);refine Qm (cs:=#[.int .i64 4,.int .i64 2,.int .i64 1,.int .i64 2,.int .i64 4,.int .i64 1,.int .i64 2,.int .i64 3,.int .i64 0,.int .i64 0]) ?_ 8 _ rfl;(with_reducible repeat first|refine Qk ?_ _|refine Qf ?_|refine Ql ?_ _);refine Qm (cs:=#[.int .i64 4,.int .i64 2,.int .i64 1,.int .i64 2,.int .i64 4,.int .i64 1,.int .i64 2,.int .i64 0,.int .i64 0,.int .i64 0]) ?_ 7 _ rfl;(with_reducible repeat first|refine Qk ?_ _|refine Qf ?_|refine Ql ?_ _);refine Qm (cs:=#[.int .i64 4,.int .i64 2,.int .i64 1,.int .i64 2,.int .i64 4,.int .i64 1,.int .i64 0,.int .i64 0,.int .i64 0,.int .i64 0]) ?_ 6 _ rfl;(with_reducible repeat first|refine Qk ?_ _|refine Qf ?_|refine Ql ?_ _);refine Qm (cs:=#[.int .i64 4,.int .i64 2,.int .i64 1,.int .i64 2,.int .i64 4,.int .i64 0,.int .i64 0,.int .i64 0,.int .i64 0,.int .i64 0]) ?_ 5 _ rfl;(with_reducible repeat first|refine Qk ?_ _|refine Qf ?_|refine Ql ?_ _);refine Qm (cs:=#[.int .i64 4,.int .i64 2,.int .i64 1,.int .i64 2,.int .i64 0,.int .i64 0,.int .i64 0,.int .i64 0,.int .i64 0,.int .i64 0]) ?_ 4 _ rfl;(with_reducible repeat first|refine Qk ?_ _|refine Qf ?_|refine Ql ?_ _);refine Qm (cs:=#[.int .i64 4,.int .i64 2,.int .i64 1,.int .i64 0,.int .i64 0,.int .i64 0,.int .i64 0,.int .i64 0,.int .i64 0,.int .i64 0]) ?_ 3 _ rfl;(with_reducible repeat first|refine Qk ?_ _|refine Qf ?_|refine Ql ?_ _);refine Qm (cs:=#[.int .i64 4,.int .i64 2,.int .i64 0,.int .i64 0,.int .i64 0,.int .i64 0,.int .i64 0,.int .i64 0,.int .i64 0,.int .i64 0]) ?_ 2 _ rfl;(with_reducible repeat first|refine Qk ?_ _|refine Qf ?_|refine Ql ?_ _);refine Qm (cs:=#[.int .i64 4,.int .i64 0,.int .i64 0,.int .i64 0,.int .i64 0,.int .i64 0,.int .i64 0,.int .i64 0,.int .i64 0,.int .i64 0]) ?_ 1 _ rfl;(with_reducible repeat first|refine Qk ?_ _|refine Qf ?_|refine Ql ?_ _);refine Qm (cs:=#[.int .i64 0,.int .i64 0,.int .i64 0,.int .i64 0,.int .i64 0,.int .i64 0,.int .i64 0,.int .i64 0,.int .i64 0,.int .i64 0]) ?_ 0 _ rfl;(with_reducible repeat first|refine Qk ?_ _|refine Qf ?_|refine Ql ?_ _);exact X.out) Try.underlying25 rfl kr) rfl ?_
 exact⟨by first|rfl|(simp[Qh,Qg] <;> rfl)|(simp[*,Qh,Qg] <;> rfl),by repeat(first|(with_reducible first|exact HB.out|apply Qq|apply Qj|apply Qi|refine Qs ?_ je.out)|exact HB.out)⟩
end Go.Proofs.Ytmfffemidlhcpaa.C
