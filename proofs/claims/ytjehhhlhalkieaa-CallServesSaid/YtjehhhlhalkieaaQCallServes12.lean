/- Texts of this claim, one behind the other: what the law's functions come to, walked (printed by a program, with the words that the print uses), and what that is, in plain Lean. No conditions of their own. -/
import Derived.Test.YtjehhhlhalkieaaQCallServes11
namespace Go.Proofs.Ytjehhhlhalkieaa.Call
open Go.RowKit Go.Proofs.YtjehhhlhalkieaaW.PrintWords Go.Proofs.YtjehhhlhalkieaaW.PrintLast Go.Proofs.YtjehhhlhalkieaaW.PrintMore Go.Proofs.Ytjehhhlhalkieaa.C
set_option linter.unusedVariables false
set_option linter.unusedSimpArgs false
theorem Ux (a b:List Int) (j:Nat):∀ (f i:Nat),i+j=a.length→a.length=b.length→j<f→a.length≤1000000000 → ∃ t,newelref06_Same.l0 f a b (i:Int)=some t∧(t=true↔a.drop i=b.drop i):=by
  have rdat:∀ (l:List Int) (i:Nat) (h:i<l.length),rd l (i:Int)=l[i]:=by
    intro l i h
    unfold rd
    rw[Int.toNat_natCast,List.getD_eq_getElem?_getD,List.getElem?_eq_getElem h]
    rfl
  induction j with
  |zero=>
    intro f i hi hl hf hm
    obtain⟨f,rfl⟩:∃ m,f=m+1:=⟨f-1,by omega⟩
    simp only[newelref06_Same.l0]
    rw[if_neg (by omega),List.drop_of_length_le (by omega),List.drop_of_length_le (by omega)]
    exact⟨true,rfl,by simp⟩
  |succ j ih=>
    intro f i hi hl hf hm
    obtain⟨f,rfl⟩:∃ m,f=m+1:=⟨f-1,by omega⟩
    have ha:i<a.length:=by omega
    have hb:i<b.length:=by omega
    have ei:wrap64 ((i:Int)+1)=((i+1:Nat):Int):=by unfold wrap64;omega
    simp only[newelref06_Same.l0]
    rw[if_pos (by omega),if_pos (by omega),if_pos (by omega),rdat a i ha,rdat b i hb,List.drop_eq_getElem_cons ha,List.drop_eq_getElem_cons hb,ei]
    by_cases h:a[i]=b[i]
    · obtain⟨t,e,q⟩:=ih f (i+1) (by omega) hl (by omega) hm
      rw[if_pos h]
      exact⟨t,e,q.trans ⟨fun z=>by rw[h,z],fun z=>(List.cons.inj z).2⟩⟩
    · rw[if_neg h]
      exact⟨false,rfl,⟨fun z=>(by cases z),fun z=>absurd (List.cons.inj z).1 h⟩⟩
theorem Ke (f:Nat) (a:List Int) (hf:a.length<f) (hm:a.length≤1000000000):newelref06_Same.f f a a=some true:=by
  unfold newelref06_Same.f
  rw[if_pos rfl]
  obtain⟨t,e,q⟩:=Ux a a a.length f 0 (by omega) rfl hf hm
  exact e.trans (by rw[q.2 rfl])
theorem Jg (f:Nat) (a b c:List Int) (ha:a.length<f) (hb:b.length<f) (hc:c.length<f) (hm:f≤1000000000):newelref19_SameView.f f a b c a b c=some true:=by
  unfold newelref19_SameView.f
  rw[Ke f a ha (by omega),Ke f b hb (by omega),Ke f c hc (by omega)]
  rfl
theorem Uz (c:Int) (H:List Hall) (I:List Ins) (V:List Int) (hm:H.length<100000000) (hd:∀ x ∈ H,x.f1=1∨x.f1 = -1) (j:Nat):∀ (f i:Nat) (U D:List Int),i+j=H.length→2 * j<f→U.length≤i→D.length≤i →
    newelref19_View.l1 f c (i:Int) H I V U D=some (V,U++Xp c (H.drop i),D++Xq c (H.drop i)):=by
  induction j with
  |zero=>
    intro f i U D hi hf hU hD
    obtain⟨f,rfl⟩:∃ m,f=m+1:=⟨f-1,by omega⟩
    simp only[newelref19_View.l1]
    rw[if_neg (by omega),List.drop_of_length_le (by omega)]
    simp[Xp,Xq]
  |succ j ih=>
    intro f i U D hi hf hU hD
    obtain⟨f,rfl⟩:∃ m,f=m+2:=⟨f-2,by omega⟩
    have ha:i<H.length:=by omega
    have hy:=hd _ (List.getElem_mem ha)
    have ei:wrap64 ((i:Int)+1)=((i+1:Nat):Int):=by unfold wrap64;omega
    have B:=fun U D h1 L=>ih f (i+1) U D (by omega) (by omega) h1 L
    have step:newelref19_View.l1 (f+2) c (i:Int) H I V U D=if (i:Int)<(H.length:Int) then (if 0≤(i:Int) then (if ((Qg H (i:Int)).f2)=c then (newelref19_View.j2 (f+1) c (i:Int) (((Qg H (i:Int)).f1)==1) H I V U D ((Qg H (i:Int)).f0) ((Qg H (i:Int)).f1) ((Qg H (i:Int)).f2)) else (newelref19_View.j2 (f+1) c (i:Int) false H I V U D ((Qg H (i:Int)).f0) ((Qg H (i:Int)).f1) ((Qg H (i:Int)).f2))) else (none)) else (some (V,U,D)):=by
      conv=>lhs;unfold newelref19_View.l1
    rw[step,if_pos (by omega),if_pos (by omega),Yt H i ha,List.drop_eq_getElem_cons ha]
    generalize H[i]=y at *
    unfold Xp Xq
    by_cases O:y.f2=c
    · rw[if_pos O]
      rcases hy with h1|h1
      · rw[List.filter_cons_of_pos (by simp[O,h1]),List.filter_cons_of_neg (by simp[h1]),h1]
        simp only[newelref19_View.j2,beq_self_eq_true,if_true]
        rw[if_pos (by omega)]
        simp only[Option.bind_some]
        rw[if_pos O,if_neg (by decide),ei,B _ _ (by simp;omega) (by omega)]
        simp[Xp,Xq]
      · rw[List.filter_cons_of_neg (by simp[h1]),List.filter_cons_of_pos (by simp[O,h1]),h1]
        have e:((-1:Int)==1)=false:=by decide
        simp only[newelref19_View.j2,e,Bool.false_eq_true,if_false,eq_self,if_true]
        rw[if_pos O,if_pos (by omega),ei,B _ _ (by omega) (by simp;omega)]
        simp[Xp,Xq]
    · rw[if_neg O,List.filter_cons_of_neg (by simp[O]),List.filter_cons_of_neg (by simp[O])]
      simp only[newelref19_View.j2,Bool.false_eq_true,if_false]
      rw[if_neg O,ei,B _ _ (by omega) (by omega)]
      rfl
theorem U0 (c:Int) (H:List Hall) (I:List Ins) (hm:H.length<100000000) (hI:I.length<100000000) (hd:∀ x ∈ H,x.f1=1∨x.f1 = -1) (j:Nat):∀ (f i:Nat) (V:List Int),i+j=I.length→j+2 * H.length+1<f→V.length≤i →
    newelref19_View.l0 f c (i:Int) H I V=some (V++Ye c (I.drop i),Xp c H,Xq c H):=by
  induction j with
  |zero=>
    intro f i V hi hf hV
    obtain⟨f,rfl⟩:∃ m,f=m+1:=⟨f-1,by omega⟩
    have h1:=Uz c H I V hm hd H.length f 0 [] [] (by omega) (by omega) (by simp) (by simp)
    simp only[List.drop_zero,List.nil_append] at h1
    simp only[newelref19_View.l0]
    rw[if_neg (by omega),List.drop_of_length_le (by omega)]
    refine h1.trans ?_
    simp[Ye]
  |succ j ih=>
    intro f i V hi hf hV
    obtain⟨f,rfl⟩:∃ m,f=m+1:=⟨f-1,by omega⟩
    have ha:i<I.length:=by omega
    have ei:wrap64 ((i:Int)+1)=((i+1:Nat):Int):=by unfold wrap64;omega
    simp only[newelref19_View.l0]
    rw[if_pos (by omega),if_pos (by omega),Ys I i ha,List.drop_eq_getElem_cons ha]
    generalize I[i]=y at *
    unfold Ye
    by_cases O:y.f0=c
    · rw[if_pos O,if_pos (by omega),ei,ih f (i+1) _ (by omega) (by omega) (by simp;omega),List.filter_cons_of_pos (by simp[O])]
      simp[Ye]
    · rw[if_neg O,ei,ih f (i+1) _ (by omega) (by omega) (by omega),List.filter_cons_of_neg (by simp[O])]
      rfl
theorem Ln (c:Int) (H:List Hall) (I:List Ins):(Ye c I).length≤I.length∧(Xp c H).length≤H.length∧(Xq c H).length≤H.length:=by
  unfold Ye Xp Xq
  simp only[List.length_map]
  exact⟨List.length_filter_le _ _,List.length_filter_le _ _,List.length_filter_le _ _⟩
theorem U1 {F C:Int} {H:List Hall} {I:List Ins} (hok:okB F C H I=true) (c:Int) (k:Nat) (hm:H.length<100000000) (hI:I.length<100000000) (hk:I.length+2 * H.length+1<k):newelref19_View.f k H I c=some (Ye c I,Xp c H,Xq c H):=by
  obtain⟨hF,hC,⟨h1,_⟩,_⟩:=Jo.1 hok
  unfold newelref19_View.f
  have:=U0 c H I hm hI (fun x hx=>((Uo hF hC).1 (h1 x hx)).1) I.length k 0 [] (by omega) hk (by simp)
  simpa using this
theorem Ue (car fl dir:Int) (H:List Hall) (I:List Ins) (A:List Hall) (hI:I.length<100000000) (j:Nat):∀ (f i:Nat) (acc:List Ins),i+j=I.length→j<f→acc.length≤i→newelref19_Serve.l1 f (i:Int) H I car fl dir A acc=some (A,acc++woI car fl (I.drop i)):=by
  induction j with
  |zero=>
    intro f i acc hi hf ha
    obtain⟨f,rfl⟩:∃ m,f=m+1:=⟨f-1,by omega⟩
    simp only[newelref19_Serve.l1]
    rw[if_neg (by omega),List.drop_of_length_le (by omega)]
    simp[woI]
  |succ j ih=>
    intro f i acc hi hf ha
    obtain⟨f,rfl⟩:∃ m,f=m+1:=⟨f-1,by omega⟩
    have hlt:i<I.length:=by omega
    have ei:wrap64 ((i:Int)+1)=((i+1:Nat):Int):=by unfold wrap64;omega
    have B:=fun z h=>ih f (i+1) z (by omega) (by omega) h
    simp only[newelref19_Serve.l1]
    rw[if_pos (by omega),if_pos (by omega),Ys I i hlt,ei,List.drop_eq_getElem_cons hlt]
    simp only[show ∀ y:Ins,(⟨y.f0,y.f1⟩:Ins)=y from fun _=>rfl]
    generalize I[i]=y at *
    unfold woI
    have hq:=Yi car fl y.f0 y.f1
    by_cases O:y.f1=fl
    · rw[if_pos O]
      by_cases h1:y.f0=car
      · rw[if_pos h1,B _ (by omega),List.filter_cons_of_neg (by rw[hq.2 ⟨h1.symm,O.symm⟩];decide)]
        rfl
      · have hn:(Z7 car fl y.f0 y.f1==0)=false:=by
          rw[beq_eq_false_iff_ne]
          exact fun q=>h1 (hq.1 q).1.symm
        rw[if_neg h1,if_pos (by omega),B _ (by simp;omega),List.filter_cons_of_pos (by rw[hn];rfl)]
        simp[woI]
    · have hn:(Z7 car fl y.f0 y.f1==0)=false:=by
        rw[beq_eq_false_iff_ne]
        exact fun q=>O (hq.1 q).2.symm
      rw[if_neg O,if_pos (by omega),B _ (by simp;omega),List.filter_cons_of_pos (by rw[hn];rfl)]
      simp[woI]
theorem Uf (car fl dir:Int) (H:List Hall) (I:List Ins) (hH:H.length<100000000) (hI:I.length<100000000) (j:Nat):∀ (f i:Nat) (acc:List Hall),i+j=H.length→j+I.length+1<f→acc.length≤i→newelref19_Serve.l0 f (i:Int) H I car fl dir acc=some (acc++woH fl dir 0 (H.drop i),woI car fl I):=by
  induction j with
  |zero=>
    intro f i acc hi hf ha
    obtain⟨f,rfl⟩:∃ m,f=m+1:=⟨f-1,by omega⟩
    have h1:=Ue car fl dir H I acc hI I.length f 0 [] (by omega) (by omega) (by simp)
    simp only[List.drop_zero,List.nil_append] at h1
    simp only[newelref19_Serve.l0]
    rw[if_neg (by omega),List.drop_of_length_le (by omega)]
    refine h1.trans ?_
    simp[woH]
  |succ j ih=>
    intro f i acc hi hf ha
    obtain⟨f,rfl⟩:∃ m,f=m+1:=⟨f-1,by omega⟩
    have hlt:i<H.length:=by omega
    have ei:wrap64 ((i:Int)+1)=((i+1:Nat):Int):=by unfold wrap64;omega
    have B:=fun z h=>ih f (i+1) z (by omega) (by omega) h
    simp only[newelref19_Serve.l0]
    rw[if_pos (by omega),if_pos (by omega),Yt H i hlt,ei,List.drop_eq_getElem_cons hlt]
    simp only[show ∀ y:Hall,(⟨y.f0,y.f1,y.f2⟩:Hall)=y from fun _=>rfl]
    generalize H[i]=y at *
    unfold woH
    have hq:=Yi fl dir y.f0 y.f1
    by_cases O:y.f0=fl
    · rw[if_pos O]
      by_cases h1:y.f1=dir
      · rw[if_pos h1,B _ (by omega),List.filter_cons_of_neg (by rw[hq.2 ⟨O.symm,h1.symm⟩];decide)]
        rfl
      · have hn:(Z7 fl dir y.f0 y.f1==0)=false:=by
          rw[beq_eq_false_iff_ne]
          exact fun q=>h1 (hq.1 q).2.symm
        rw[if_neg h1,if_pos (by omega),B _ (by simp;omega),List.filter_cons_of_pos (by rw[hn];rfl)]
        simp[woH]
    · have hn:(Z7 fl dir y.f0 y.f1==0)=false:=by
        rw[beq_eq_false_iff_ne]
        exact fun q=>O (hq.1 q).1.symm
      rw[if_neg O,if_pos (by omega),B _ (by simp;omega),List.filter_cons_of_pos (by rw[hn];rfl)]
      simp[woH]
theorem Ug (car fl dir:Int) (H:List Hall) (I:List Ins) (hH:H.length<100000000) (hI:I.length<100000000) (k:Nat) (hk:H.length+I.length+1<k):newelref19_Serve.f k H I car fl dir=some (woH fl dir 0 H,woI car fl I):=by
  unfold newelref19_Serve.f
  have:=Uf car fl dir H I hH hI H.length k 0 [] (by omega) hk (by simp)
  simpa using this
theorem U2 {F C:Int} (car fl dir:Int) (hF:2≤F∧F≤64) (hC:1≤C∧C≤8):newelref19_Stop.f F C car fl dir=some (X1 F C car fl&&decide (-1≤dir∧dir≤1)):=by
  unfold newelref19_Stop.f
  rw[Ko _ _ hF hC]
  simp only[Option.bind_some]
  cases X1 F C car fl
  · rfl
  · rw[if_pos rfl,Bool.true_and]
    by_cases h:dir ≥ -1
    · rw[if_pos h]
      congr 1
      rw[decide_eq_decide]
      omega
    · rw[if_neg h,decide_eq_false (by omega)]
theorem Nt (fl dir car:Int) (H:List Hall) (I:List Ins):(woH fl dir 0 H).length≤H.length∧(woI car fl I).length≤I.length:=⟨List.length_filter_le _ _,List.length_filter_le _ _⟩
theorem Lv (F C:Int) (H:List Hall) (I:List Ins) (car fl dir:Int) (hok:okB F C H I=true) (h1:H.length≤130) (L:I.length≤520) (hf:X1 F C car fl=false∨X1 F C car fl=true) (k:Nat) (hk:2000≤k):
    newellaw19_CallServes.j1 (k+1) (Yq F C H I car fl dir).2.2 false F C H I car fl dir (Yq F C H I car fl dir).1 (Yq F C H I car fl dir).2.1=some true:=by
  obtain⟨hF,D⟩:=Um hok
  have step:∀ O A B,newellaw19_CallServes.j1 (k+1) O false F C H I car fl dir A B=((newelref19_Stop.f F C car fl dir).bind fun gb=>(if gb=true then ((newellaw19_awake.f k).bind fun f7=>(if f7=true then (if O=0 then ((newelref19_Serve.f k H I car fl dir).bind fun cr=>((newelref19_Same.f k A B cr.1 cr.2).bind fun dp=>(some dp))) else (none)) else (none))) else ((newellaw19_awake.f k).bind fun f8=>(if f8=true then (if O=191 then ((newelref19_Same.f k A B ([]:List (S56)) ([]:List (S62))).bind fun eg=>(some eg)) else (none)) else (none))))):=fun O A B=>rfl
  rw[step,U2 car fl dir hF D,G5 k (by omega)]
  have hl:=Nt fl dir car H I
  unfold Yq
  simp only[Option.bind_some,if_pos hok,if_true]
  by_cases hb:X1 F C car fl=true∧(-1≤dir∧dir≤1)
  · rw[if_pos hb,hb.1,decide_eq_true hb.2]
    simp only[Bool.and_self,if_true]
    rw[Ug car fl dir H I (by omega) (by omega) k (by omega)]
    simp only[Option.bind_some,eq_self,if_true]
    rw[Kn _ _ _ (by omega)]
    rfl
  · have e:(X1 F C car fl&&decide (-1≤dir∧dir≤1))=false:=by
      cases h:X1 F C car fl
      · rfl
      · rw[Bool.true_and]
        exact decide_eq_false (fun q=>hb ⟨h,q⟩)
    rw[if_neg hb,e]
    simp only[Bool.false_eq_true,if_false,eq_self,if_true]
    rw[Jz _ (by omega)]
    rfl
theorem Wx (F C:Int) (H:List Hall) (I:List Ins) (car fl dir:Int) (hC:i64 C) (hf:i64 fl) (hd:i64 dir) (K:Nat) (hK:3000≤K) (U:K≤1000000):newellaw19_CallServes.f K F C H I car fl dir=some true:=by
  unfold newellaw19_CallServes.f
  rw[G5 K (by omega)]
  rcases N2 H I with h|⟨h,h1,L⟩
  · rw[h]
    simp only[Option.bind_some]
    rfl
  rw[h,Nx H I (by omega) (by omega)]
  simp only[Option.bind_some]
  obtain⟨k,rfl⟩:∃ k,K=k+2:=⟨K-2,by omega⟩
  have hv:=Ln car H I
  rw[if_pos trivial,Lx (k+1) F C H I car fl dir (by omega) (by omega) hC hf hd,Mv _ F C H I car (by omega) (by omega) hC (by omega),W4 _ F C H I (by omega) (by omega) (by omega)]
  simp only[Option.bind_some]
  cases hok:okB F C H I
  · have hp:Yq F C H I car fl dir=([],[],190):=by unfold Yq;rw[hok];rfl
    rw[hp]
    simp only[Bool.false_eq_true,eq_self,if_true,if_false]
    rw[Jz _ (by omega),Jg _ _ _ _ (by simp) (by simp) (by simp) (by omega)]
    rfl
  · obtain⟨hF,D⟩:=Um hok
    have jt:∀ b:Bool,b=decide (car<0∨car≥C)→newellaw19_CallServes.j0 (k+2) (Yq F C H I car fl dir).2.2 (if 0≤car∧car≤C-1 then (Ye car I,Xp car H,Xq car H,(0:Int)) else ([],[],[],191)).2.2.2 b F C H I car fl dir (Yq F C H I car fl dir).1 (Yq F C H I car fl dir).2.1 (if 0≤car∧car≤C-1 then (Ye car I,Xp car H,Xq car H,(0:Int)) else ([],[],[],191)).1 (if 0≤car∧car≤C-1 then (Ye car I,Xp car H,Xq car H,(0:Int)) else ([],[],[],191)).2.1 (if 0≤car∧car≤C-1 then (Ye car I,Xp car H,Xq car H,(0:Int)) else ([],[],[],191)).2.2.1=some true:=by
      intro b hb
      by_cases hc:car<0∨car≥C
      · have hn:¬ (0≤car∧car≤C-1):=by omega
        have hi:X1 F C car fl=false:=by
          cases hh:X1 F C car fl
          · rfl
          · have:=(Wp hF D).1 hh
            omega
        have hp:Yq F C H I car fl dir=([],[],191):=by
          unfold Yq
          rw[if_pos hok,if_neg (by rw[hi];simp)]
        rw[hb,decide_eq_true hc,if_neg hn,hp]
        show(if (true:Bool)=true then ((newellaw19_awake.f (k+1)).bind fun ga=>(if ga=true then (if (191:Int)=191 then (if (191:Int)=191 then ((newelref19_Same.f (k+1) ([]:List (S56)) ([]:List (S62)) ([]:List (S56)) ([]:List (S62))).bind fun f5=>(if f5=true then ((newelref19_SameView.f (k+1) ([]:List Int) ([]:List Int) ([]:List Int) ([]:List Int) ([]:List Int) ([]:List Int)).bind fun ef=>(some ef)) else (none))) else (none)) else (none)) else (none))) else (none:Option Bool))=some true
        rw[G5 _ (by omega),Jz _ (by omega),Jg _ _ _ _ (by simp) (by simp) (by simp) (by omega)]
        rfl
      · have hn:0≤car∧car≤C-1:=by omega
        rw[hb,decide_eq_false hc,if_pos hn]
        have step:∀ O A B (J:Int) (v u d:List Int),newellaw19_CallServes.j0 (k+2) O J false F C H I car fl dir A B v u d=(if J=0 then ((newelref19_View.f (k+1) H I car).bind fun en=>((newelref19_SameView.f (k+1) v u d en.1 en.2.1 en.2.2).bind fun fg=>(newellaw19_CallServes.j1 (k+1) O (!fg) F C H I car fl dir A B))) else (none)):=fun _ _ _ _ _ _ _=>rfl
        rw[step,if_pos rfl,U1 hok car _ (by omega) (by omega) (by omega)]
        simp only[Option.bind_some]
        rw[Jg _ _ _ _ (by omega) (by omega) (by omega) (by omega)]
        exact Lv F C H I car fl dir hok h1 L (by cases X1 F C car fl <;> simp) k (by omega)
    simp only[eq_self,if_true]
    by_cases hc:car<0
    · rw[if_pos hc]
      exact jt _ (decide_eq_true (.inl hc)).symm
    · rw[if_neg hc]
      exact jt _ (by rw[decide_eq_decide];omega)
end Go.Proofs.Ytjehhhlhalkieaa.Call
