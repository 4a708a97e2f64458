/- Texts of this claim, one behind the other: what the law's functions come to, walked (printed by a program, with the words that the print uses), and what that is, in plain Lean. No conditions of their own. -/
import Derived.Test.YtmfffemidlhcpaaQGroupAll10
namespace Go.Proofs.Ytmfffemidlhcpaa.GrpPure
open Go.RowKit Go.Proofs.YtmfffemidlhcpaaW.PrintWords Go.Proofs.YtmfffemidlhcpaaW.PrintLast Go.Proofs.YtmfffemidlhcpaaW.PrintMore Go.Proofs.Ytmfffemidlhcpaa.C Go.Proofs.Ytmfffemidlhcpaa.DoorPure
set_option linter.unusedVariables false
set_option linter.unusedSimpArgs false
open Go.Proofs.Ytmfffemidlhcpaa.Call (i64 okB Y2 X5 X6 Hall Ins ltH)
def Good (a2:Int) (n:Nat) (p:Int):Prop:=(p = -1 ∧ ∀ m:Nat,m<n→Yl a2 m=true) ∨ ∃ m:Nat,p=m∧m<n∧Yl a2 m=false
theorem Vo (g0 g1 g2 g3 g4 g5 g6 g7 g8 g9:Int) (L:List S31) (a2:Int) (H:List Hall) (I:List Ins) (B J:Int):Good a2 L.length (Gp g0 g1 g2 g3 g4 g5 g6 g7 g8 g9 L a2 H I B J):=by
  rcases L3 g0 g1 g2 g3 g4 g5 g6 g7 g8 g9 L a2 H I B J with⟨e,h⟩|⟨n,e,h1,O,-⟩
  · exact Or.inl ⟨e,h⟩
  · exact Or.inr ⟨n,e,h1,O⟩
theorem K8 (A:List Hall) (i:Nat) (c:Int) (m:Nat) (hm:m<A.length):at_ (put A i c) m=if i=m then ⟨(at_ A i).f0,(at_ A i).f1,c⟩ else at_ A m:=by
  unfold at_ put
  rw[Call.Yk _ m (by rw[List.length_set];exact hm),List.getElem_set,Call.Yk A m hm]
def clr (a2:Int) (y:Hall):Hall:=if y.f2≥0∧Yl a2 y.f2=true then ⟨y.f0,y.f1,-1⟩ else y
theorem Nw (a2:Int) (j:Nat):∀ (i:Nat) (A:List Hall),i+j≤A.length → ∀ m,m<A.length→(m<i→at_ (Xz a2 j i A) m=at_ A m)∧(i≤m→m<i+j→at_ (Xz a2 j i A) m=clr a2 (at_ A m)):=by
  induction j with
  |zero=>intro i A h m hm;exact⟨fun _=>rfl,fun h1 O=>by omega⟩
  |succ j ih=>
    intro i A h m hm
    rw[Xz]
    by_cases hc:(at_ A i).f2≥0∧Yl a2 (at_ A i).f2=true
    · rw[if_pos hc]
      obtain⟨q1,q2⟩:=ih (i+1) (put A i (-1)) (by rw[Xk];omega) m (by rw[Xk];exact hm)
      refine⟨fun h1=>?_,fun h1 O=>?_⟩
      · rw[q1 (by omega),K8 A i _ m hm,if_neg (by omega)]
      · rcases Nat.lt_or_ge i m with q|q
        · rw[q2 (by omega) (by omega),K8 A i _ m hm,if_neg (by omega)]
        · have:m=i:=by omega
          subst this
          rw[q1 (by omega),K8 A m _ m hm,if_pos rfl]
          unfold clr
          rw[if_pos hc]
    · rw[if_neg hc]
      obtain⟨q1,q2⟩:=ih (i+1) A (by omega) m hm
      refine⟨fun h1=>q1 (by omega),fun h1 O=>?_⟩
      rcases Nat.lt_or_ge i m with q|q
      · exact q2 (by omega) (by omega)
      · have:m=i:=by omega
        subst this
        rw[q1 (by omega)]
        unfold clr
        rw[if_neg hc]
theorem E0 (g0 g1 g2 g3 g4 g5 g6 g7 g8 g9:Int) (L:List S31) (a2:Int) (I:List Ins) (j:Nat):∀ (i:Nat) (A:List Hall),i+j≤A.length → ∀ m,m<A.length→(m<i→at_ (X8 g0 g1 g2 g3 g4 g5 g6 g7 g8 g9 L a2 I j i A) m=at_ A m) ∧
    (i≤m→m<i+j→((at_ (X8 g0 g1 g2 g3 g4 g5 g6 g7 g8 g9 L a2 I j i A) m).f0=(at_ A m).f0∧(at_ (X8 g0 g1 g2 g3 g4 g5 g6 g7 g8 g9 L a2 I j i A) m).f1=(at_ A m).f1)∧((at_ A m).f2≥0→(at_ (X8 g0 g1 g2 g3 g4 g5 g6 g7 g8 g9 L a2 I j i A) m).f2=(at_ A m).f2)∧((at_ A m).f2<0→Good a2 L.length (at_ (X8 g0 g1 g2 g3 g4 g5 g6 g7 g8 g9 L a2 I j i A) m).f2)):=by
  induction j with
  |zero=>intro i A h m hm;exact⟨fun _=>rfl,fun h1 O=>by omega⟩
  |succ j ih=>
    intro i A h m hm
    rw[X8]
    by_cases hc:(at_ A i).f2<0
    · rw[if_pos hc]
      have hg:=Vo g0 g1 g2 g3 g4 g5 g6 g7 g8 g9 L a2 A I (at_ A i).f0 (at_ A i).f1
      generalize Gp g0 g1 g2 g3 g4 g5 g6 g7 g8 g9 L a2 A I (at_ A i).f0 (at_ A i).f1=p at hg ⊢
      obtain⟨q1,q2⟩:=ih (i+1) (put A i p) (by rw[Xk];omega) m (by rw[Xk];exact hm)
      refine⟨fun h1=>?_,fun h1 O=>?_⟩
      · rw[q1 (by omega),K8 A i _ m hm,if_neg (by omega)]
      · rcases Nat.lt_or_ge i m with q|q
        · have:=q2 (by omega) (by omega)
          rw[K8 A i _ m hm,if_neg (by omega)] at this
          exact this
        · have:m=i:=by omega
          subst this
          rw[q1 (by omega),K8 A m _ m hm,if_pos rfl]
          exact⟨⟨rfl,rfl⟩,fun Y=>by omega,fun _=>hg⟩
    · rw[if_neg hc]
      obtain⟨q1,q2⟩:=ih (i+1) A (by omega) m hm
      refine⟨fun h1=>q1 (by omega),fun h1 O=>?_⟩
      rcases Nat.lt_or_ge i m with q|q
      · exact q2 (by omega) (by omega)
      · have:m=i:=by omega
        subst this
        rw[q1 (by omega)]
        exact⟨⟨rfl,rfl⟩,fun _=>rfl,fun Y=>absurd Y hc⟩
theorem Nv {g0 g1 g2 g3 g4 g5 g6 g7 g8 g9:Int} {L:List S31} {I:List Ins} (a2:Int) (j:Nat):∀ (i:Nat) (A:List Hall),i+j≤A.length→Ok g0 g1 g2 g3 g4 g5 g6 g7 g8 g9 L A I→Ok g0 g1 g2 g3 g4 g5 g6 g7 g8 g9 L (Xz a2 j i A) I:=by
  induction j with
  |zero=>intro i A _ h;exact h
  |succ j ih=>
    intro i A hi h
    rw[Xz]
    split
    · exact ih (i+1) _ (by rw[Xk];omega) (h.put i (by omega) _ (by have:=h.n;omega))
    · exact ih (i+1) _ (by omega) h
theorem Ez {g0 g1 g2 g3 g4 g5 g6 g7 g8 g9:Int} {L:List S31} {I:List Ins} (a2:Int) (j:Nat):∀ (i:Nat) (A:List Hall),i+j≤A.length→Ok g0 g1 g2 g3 g4 g5 g6 g7 g8 g9 L A I→Ok g0 g1 g2 g3 g4 g5 g6 g7 g8 g9 L (X8 g0 g1 g2 g3 g4 g5 g6 g7 g8 g9 L a2 I j i A) I:=by
  induction j with
  |zero=>intro i A _ h;exact h
  |succ j ih=>
    intro i A hi h
    rw[X8]
    split
    · exact ih (i+1) _ (by rw[Xk];omega) (h.put i (by omega) _ (U5 _ _ L.length L.length 0 (-1) (by omega) (by have:=h.n;omega)))
    · exact ih (i+1) _ (by omega) h
theorem Lt {g0 g1 g2 g3 g4 g5 g6 g7 g8 g9:Int} {L:List S31} {H:List Hall} {I:List Ins} (a2:Int) (h:Ok g0 g1 g2 g3 g4 g5 g6 g7 g8 g9 L H I):Ok g0 g1 g2 g3 g4 g5 g6 g7 g8 g9 L (Xg g0 g1 g2 g3 g4 g5 g6 g7 g8 g9 L a2 H I) I:=by
  unfold Xg
  exact Ez a2 _ 0 _ (by rw[J6];omega) (Nv a2 _ 0 _ (by omega) h)
structure Said (a2:Int) (n:Nat) (y s:Hall):Prop where
  f:s.f0=y.f0∧s.f1=y.f1
  k:y.f2≥0→Yl a2 y.f2=false→s.f2=y.f2
  g:Good a2 n s.f2
theorem Ga {g0 g1 g2 g3 g4 g5 g6 g7 g8 g9:Int} {L:List S31} {H:List Hall} {I:List Ins} (a2:Int) (h:Ok g0 g1 g2 g3 g4 g5 g6 g7 g8 g9 L H I) (m:Nat) (hm:m<H.length):Said a2 L.length (at_ H m) (at_ (Xg g0 g1 g2 g3 g4 g5 g6 g7 g8 g9 L a2 H I) m):=by
  have hh:=h.hall m hm
  obtain⟨-,c⟩:=Nw a2 H.length 0 H (by omega) m hm
  have c:=c (by omega) (by omega)
  obtain⟨-,e⟩:=E0 g0 g1 g2 g3 g4 g5 g6 g7 g8 g9 L a2 I H.length 0 (Xz a2 H.length 0 H) (by rw[J6];omega) m (by rw[J6];exact hm)
  obtain⟨e1,B,Z⟩:=e (by omega) (by omega)
  rw[c] at e1 B Z
  unfold Xg
  generalize at_ (X8 g0 g1 g2 g3 g4 g5 g6 g7 g8 g9 L a2 I H.length 0 (Xz a2 H.length 0 H)) m=s at e1 B Z ⊢
  generalize at_ H m=y at hh e1 B Z ⊢
  unfold clr at e1 B Z
  by_cases hc:y.f2≥0∧Yl a2 y.f2=true
  · simp only[if_pos hc] at e1 B Z
    exact⟨e1,fun _ O=>by rw[hc.2] at O;exact absurd O (by decide),Z (by decide)⟩
  · simp only[if_neg hc] at e1 B Z
    refine⟨e1,fun h1 _=>B h1, ?_⟩
    by_cases X:y.f2≥0
    · rw[B X]
      obtain⟨n,hn⟩:∃ n:Nat,y.f2=(n:Int):=⟨y.f2.toNat,by omega⟩
      refine Or.inr ⟨n,hn,by omega, ?_⟩
      cases hb:Yl a2 (n:Int)
      · rfl
      · rw[← hn] at hb;exact absurd ⟨X,hb⟩ hc
    · exact Z (by omega)
theorem M5 (A:List Hall) (i:Nat) (hi:i<A.length) (c:Int) (h:(at_ A i).f2=c):put A i c=A:=by
  subst h
  unfold put at_
  rw[Call.Yk A i hi]
  exact List.set_getElem_self hi
theorem Ww (a2:Int) (A:List Hall) (h:∀ m,m<A.length → ¬ ((at_ A m).f2≥0∧Yl a2 (at_ A m).f2=true)) (j:Nat):∀ i,i+j≤A.length→Xz a2 j i A=A:=by
  induction j with
  |zero=>intro i _;rfl
  |succ j ih=>
    intro i hi
    rw[Xz,if_neg (h i (by omega))]
    exact ih (i+1) (by omega)
theorem Mi (g0 g1 g2 g3 g4 g5 g6 g7 g8 g9:Int) (L:List S31) (a2:Int) (I:List Ins) (A:List Hall) (h:∀ m,m<A.length→Good a2 L.length (at_ A m).f2) (j:Nat):∀ i,i+j≤A.length→X8 g0 g1 g2 g3 g4 g5 g6 g7 g8 g9 L a2 I j i A=A:=by
  induction j with
  |zero=>intro i _;rfl
  |succ j ih=>
    intro i hi
    rw[X8]
    by_cases hc:(at_ A i).f2<0
    · rw[if_pos hc]
      have e:Gp g0 g1 g2 g3 g4 g5 g6 g7 g8 g9 L a2 A I (at_ A i).f0 (at_ A i).f1=(at_ A i).f2:=by
        rcases h i (by omega) with⟨e,hb⟩|⟨n,e,-,-⟩
        · rw[e]
          rcases Vo g0 g1 g2 g3 g4 g5 g6 g7 g8 g9 L a2 A I (at_ A i).f0 (at_ A i).f1 with⟨q,-⟩|⟨n,-,q1,q2⟩
          · exact q
          · rw[hb n q1] at q2;exact absurd q2 (by decide)
        · omega
      rw[e,M5 A i (by omega) _ rfl]
      exact ih (i+1) (by omega)
    · rw[if_neg hc]
      exact ih (i+1) (by omega)
theorem V0 {g0 g1 g2 g3 g4 g5 g6 g7 g8 g9:Int} {L:List S31} {H:List Hall} {I:List Ins} (a2:Int) (h:Ok g0 g1 g2 g3 g4 g5 g6 g7 g8 g9 L H I):Xg g0 g1 g2 g3 g4 g5 g6 g7 g8 g9 L a2 (Xg g0 g1 g2 g3 g4 g5 g6 g7 g8 g9 L a2 H I) I=Xg g0 g1 g2 g3 g4 g5 g6 g7 g8 g9 L a2 H I:=by
  have hg:∀ m,m<(Xg g0 g1 g2 g3 g4 g5 g6 g7 g8 g9 L a2 H I).length→Good a2 L.length (at_ (Xg g0 g1 g2 g3 g4 g5 g6 g7 g8 g9 L a2 H I) m).f2:=fun m hm=>(Ga a2 h m (by rw[Kg] at hm;exact hm)).g
  generalize Xg g0 g1 g2 g3 g4 g5 g6 g7 g8 g9 L a2 H I=S at hg ⊢
  unfold Xg
  rw[Ww a2 S (fun m hm q=>by
    rcases hg m hm with⟨e,-⟩|⟨n,e,-,hb⟩
    · omega
    · rw[e,hb] at q;exact absurd q.2 (by decide)) S.length 0 (by omega)]
  exact Mi g0 g1 g2 g3 g4 g5 g6 g7 g8 g9 L a2 I S hg S.length 0 (by omega)
def Js (a2:Int):Nat→Nat→Bool→Bool
  |0,_,b=>b
  |j+1,i,b=>Js a2 j (i+1) (if b=true then true else (Go.bits .and .i64 (shr .i64 a2 (i:Int)) 1)==0)
theorem Mw (a2:Int) (j:Nat):∀ (i:Nat) (b:Bool),Js a2 j i b=true↔(b=true ∨ ∃ m:Nat,i≤m∧m<i+j∧Yl a2 m=false):=by
  induction j with
  |zero=>intro i b;exact⟨Or.inl,fun h=>h.elim id (fun⟨m,h1,O,_⟩=>by omega)⟩
  |succ j ih=>
    intro i b
    rw[Js,ih]
    have hb:((Go.bits .and .i64 (shr .i64 a2 (i:Int)) 1)==0)=true↔Yl a2 i=false:=by
      unfold Yl
      rcases Dx (shr .i64 a2 (i:Int)) with q|q <;> rw[q] <;> simp
    constructor
    · rintro(h|⟨m,h1,O,Y⟩)
      · cases b
        · exact Or.inr ⟨i,Nat.le_refl _,by omega,hb.1 (by simpa using h)⟩
        · exact Or.inl rfl
      · exact Or.inr ⟨m,by omega,by omega,Y⟩
    · rintro(h|⟨m,h1,O,Y⟩)
      · exact Or.inl (by rw[if_pos h])
      · rcases Nat.lt_or_ge i m with q|q
        · exact Or.inr ⟨m,by omega,by omega,Y⟩
        · have:m=i:=by omega
          subst this
          left
          cases b
          · simpa using hb.2 Y
          · rfl
theorem Mh {a2:Int} {n:Nat} {p:Int} (h:Good a2 n p):decide (p≥0)=Js a2 n 0 false:=by
  rw[Bool.eq_iff_iff,decide_eq_true_eq,Mw]
  rcases h with⟨rfl,h⟩|⟨m,rfl,h1,O⟩
  · constructor
    · intro q;exact absurd q (by decide)
    · rintro(q|⟨m,-,q1,q2⟩)
      · exact absurd q (by decide)
      · rw[h m (by omega)] at q2;exact absurd q2 (by decide)
  · exact⟨fun _=>Or.inr ⟨m,Nat.zero_le _,by omega,O⟩,fun _=>by omega⟩
theorem Dz {g0 g1 g2 g3 g4 g5 g6 g7 g8 g9:Int} {L:List S31} {H:List Hall} {I:List Ins} (a2:Int) (h:Ok g0 g1 g2 g3 g4 g5 g6 g7 g8 g9 L H I) (hH:H.length≤130) (hI:I.length≤520) (S:List Hall) (eS:S=Xg g0 g1 g2 g3 g4 g5 g6 g7 g8 g9 L a2 H I) (j:Nat):∀ (f i:Nat),i+j=H.length→3 * j+8000<f →
    newellaw21_GroupAll.l1 f (Js a2 L.length 0 false) (i:Int) g0 g1 g2 g3 g4 g5 g6 g7 g8 g9 L a2 H I S I=some true:=by
  have hn:=h.n
  have hS:S.length=H.length:=by rw[eS,Kg]
  have okS:Ok g0 g1 g2 g3 g4 g5 g6 g7 g8 g9 L S I:=by rw[eS];exact Lt a2 h
  induction j with
  |zero=>
    intro f i hi hf
    obtain⟨f,rfl⟩:∃ m,f=m+2:=⟨f-2,by omega⟩
    simp only[newellaw21_GroupAll.l1]
    rw[if_neg (by omega),Call.M8 S I (by omega) (by omega)]
    simp only[Option.bind_some]
    rw[Vj _ _ _ _ _ _ _ _ _ _ L a2 S I (by omega) (by omega) _ (by omega),if_pos okS.check,G2 _ (by omega)]
    simp only[Option.bind_some,if_true]
    have e:Xg g0 g1 g2 g3 g4 g5 g6 g7 g8 g9 L a2 S I=S:=by rw[eS];exact V0 a2 h
    rw[e,Call.Vk (f+1) S I (by omega) (by omega) (by omega)]
    rfl
  |succ j ih=>
    intro f i hi hf
    obtain⟨f,rfl⟩:∃ m,f=m+3:=⟨f-3,by omega⟩
    have hlt:i<H.length:=by omega
    have hy:=h.hall i hlt
    have hs:=okS.hall i (by omega)
    have said:Said a2 L.length (at_ H i) (at_ S i):=by rw[eS];exact Ga a2 h i hlt
    have next:newellaw21_GroupAll.j5 (f+1) (Js a2 L.length 0 false) (i:Int) false g0 g1 g2 g3 g4 g5 g6 g7 g8 g9 L a2 H I S I=some true:=by
      simp only[newellaw21_GroupAll.j5]
      rw[if_neg (by decide),up1 (by omega)]
      exact ih f (i+1) (by omega) (by omega)
    simp only[newellaw21_GroupAll.l1]
    rw[if_pos (by omega),if_pos (by omega),if_pos (by omega),if_pos said.f.1,if_pos said.f.2,show decide ((Qc S (i:Int)).f2≥0)=Js a2 L.length 0 false from Mh said.g]
    simp only[newellaw21_GroupAll.j4]
    rw[if_neg (by simp)]
    have hbit:∀ n:Nat,((Go.bits .and .i64 (shr .i64 a2 (n:Int)) 1)=0→Yl a2 n=false):=fun n q=>decide_eq_false (by rw[q];decide)
    have had:∀ q:(at_ H i).f2≥0,IntKind.u64.wrap (at_ H i).f2=(at_ H i).f2∧(Go.bits .and .i64 (shr .i64 a2 (at_ H i).f2) 1=0→(at_ S i).f2=(at_ H i).f2):=by
      intro q
      obtain⟨n,e⟩:∃ n:Nat,(at_ H i).f2=(n:Int):=⟨(at_ H i).f2.toNat,by omega⟩
      refine⟨by rw[e];exact Vy n (by omega),fun z=>?_⟩
      exact said.k q (by rw[e] at z ⊢;exact hbit n z)
    have tail:∀ r:Option Bool,r=some true→(if (at_ H i).f2≥0 then (if 0≤IntKind.u64.wrap (at_ H i).f2 then (if Go.bits .and .i64 (shr .i64 a2 (IntKind.u64.wrap (at_ H i).f2)) 1=0 then newellaw21_GroupAll.j5 (f+1) (Js a2 L.length 0 false) (i:Int) ((at_ S i).f2 != (at_ H i).f2) g0 g1 g2 g3 g4 g5 g6 g7 g8 g9 L a2 H I S I else r) else none) else r)=some true:=by
      intro r hr
      by_cases q:(at_ H i).f2≥0
      · obtain⟨e1,B⟩:=had q
        rw[if_pos q,e1,if_pos q]
        by_cases z:Go.bits .and .i64 (shr .i64 a2 (at_ H i).f2) 1=0
        · rw[if_pos z,B z]
          simpa using next
        · rw[if_neg z,hr]
      · rw[if_neg q,hr]
    by_cases q:(at_ S i).f2≥0
    · rw[if_pos q]
      obtain⟨n,e,-,hb⟩:∃ m:Nat,(at_ S i).f2=m∧m<L.length∧Yl a2 m=false:=said.g.resolve_left (fun w=>by omega)
      have e1:IntKind.u64.wrap (at_ S i).f2=(at_ S i).f2:=by rw[e];exact Vy n (by omega)
      rw[show IntKind.u64.wrap (Qc S (i:Int)).f2=(Qc S (i:Int)).f2 from e1,if_pos q,if_neg (fun w=>by
        have:Yl a2 (n:Int)=true:=decide_eq_true (by rw[← e];exact w)
        rw[hb] at this;exact absurd this (by decide))]
      exact tail _ next
    · rw[if_neg q]
      exact tail _ next
theorem D4 {g0 g1 g2 g3 g4 g5 g6 g7 g8 g9:Int} {L:List S31} {H:List Hall} {I:List Ins} (a2:Int) (h:Ok g0 g1 g2 g3 g4 g5 g6 g7 g8 g9 L H I) (hH:H.length≤130) (hI:I.length≤520) (S:List Hall) (eS:S=Xg g0 g1 g2 g3 g4 g5 g6 g7 g8 g9 L a2 H I) (j:Nat):∀ (f i:Nat) (b:Bool),i+j=L.length→2 * j+8600<f→Js a2 j i b=Js a2 L.length 0 false →
    newellaw21_GroupAll.l0 f b (i:Int) g0 g1 g2 g3 g4 g5 g6 g7 g8 g9 L a2 H I S I=some true:=by
  have hn:=h.n
  have hS:S.length=H.length:=by rw[eS,Kg]
  induction j with
  |zero=>
    intro f i b hi hf hw
    obtain⟨f,rfl⟩:∃ m,f=m+2:=⟨f-2,by omega⟩
    have hw:b=Js a2 L.length 0 false:=hw
    simp only[newellaw21_GroupAll.l0]
    rw[if_neg (by omega),if_pos (by omega),Call.Vk (f+1) [] I (by simp;omega) (by simp) (by omega)]
    simp only[Option.bind_some,newellaw21_GroupAll.j2]
    rw[Bool.not_true,if_neg (by decide),hw]
    exact Dz a2 h hH hI S eS H.length f 0 (by omega) (by omega)
  |succ j ih=>
    intro f i b hi hf hw
    obtain⟨f,rfl⟩:∃ m,f=m+2:=⟨f-2,by omega⟩
    simp only[newellaw21_GroupAll.l0]
    rw[if_pos (by omega),Vy i (by omega)]
    rw[Js] at hw
    by_cases hb:b=true
    · rw[if_pos hb] at hw ⊢
      simp only[newellaw21_GroupAll.j1]
      rw[up1 (by omega)]
      exact ih f (i+1) true (by omega) (by omega) hw
    · rw[if_neg hb] at hw ⊢
      rw[if_pos (by omega)]
      simp only[newellaw21_GroupAll.j1]
      rw[up1 (by omega)]
      exact ih f (i+1) _ (by omega) (by omega) hw
theorem E5 (g0 g1 g2 g3 g4 g5 g6 g7 g8 g9:Int) (L:List S31) (a2:Int) (H:List Hall) (I:List Ins) (f:Nat) (hf:9000≤f):newellaw21_GroupAll.f f g0 g1 g2 g3 g4 g5 g6 g7 g8 g9 L a2 H I=some true:=by
  unfold newellaw21_GroupAll.f
  rcases Wu g0 g1 g2 g3 g4 g5 g6 g7 g8 g9 L a2 H I with e|⟨e,hL,hH,hI⟩
  · rw[e]
    simp only[Option.bind_some]
    rw[if_neg (by decide),G2 _ (by omega)]
    rfl
  · rw[e]
    simp only[Option.bind_some,if_true]
    rw[Call.M8 H I (by omega) (by omega)]
    simp only[Option.bind_some]
    rw[Vj _ _ _ _ _ _ _ _ _ _ L a2 H I (by omega) (by omega) _ (by omega)]
    simp only[Option.bind_some]
    by_cases h:Jd g0 g1 g2 g3 g4 g5 g6 g7 g8 g9 L H I=0
    · have ok:=De h
      have hn:=ok.n
      rw[if_pos h]
      simp only[if_true]
      exact D4 a2 ok hH hI _ rfl L.length f 0 false (by omega) (by omega) rfl
    · rw[if_neg h]
      simp only
      rw[if_neg h,G2 _ (by omega)]
      rfl
end Go.Proofs.Ytmfffemidlhcpaa.GrpPure
