/- Texts of this claim, one behind the other: what the law's functions come to, walked (printed by a program, with the words that the print uses), and what that is, in plain Lean. No conditions of their own. -/
import Derived.Test.YtjehhhlhalkieaaQCallGives7
import Derived.Deep.RegionLaw
import Derived.Laws.NewBlocks
import Derived.Lib.AppendZerosOnto
import Derived.Shelf.Spec.SlicesInsert
namespace Go.Proofs.Ytjehhhlhalkieaa.C
open Go.RowKit Go.Proofs.YtjehhhlhalkieaaW.PrintWords Go.Proofs.YtjehhhlhalkieaaW.PrintLast Go.Proofs.YtjehhhlhalkieaaW.PrintMore
set_option linter.unusedVariables false
set_option linter.unusedSimpArgs false
section
variable {α : Type} {d : Kd α} {enc : α → List Value}
theorem G8 (a b c:List Value) (n:Nat) (h:n=a.length+b.length+c.length) (r:List Value):(a++b++(c++r)).take n=a++b++c:=by
  subst h
  rw[← List.append_assoc,List.take_left' (by simp only[List.length_append])]
theorem K4 (F:Flat d enc) {e:TypeId} (w:World) (b i n:Nat) (cur:Array Value) (l:List α) (x:α) (hh:w.heap[b]?=some (.cells cur e (0,0))) (hl:l.length=n) (hi:i≤n) (hs:(n+1) * d.sz≤cur.size) (ht:cur.toList.take (i * d.sz)=Zd enc (l.take i)):
    ∃ cur',((w.setCells b ((i+1) * d.sz) (Zd enc (l.drop i))).setCells b (i * d.sz) (enc x)).heap[b]?=some (.cells cur' e (0,0))∧cur'.size=cur.size∧cur'.toList.take ((n+1) * d.sz)=Zd enc (l.take i ++ [x]++l.drop i):=by
  have l1:(Zd enc (l.drop i)).length=(n-i) * d.sz:=by rw[Zv F,List.length_drop,hl]
  have l0:(Zd enc (l.take i)).length=i * d.sz:=by rw[Zv F,List.length_take,hl,Nat.min_eq_left hi]
  have Y:(i+1) * d.sz+(n-i) * d.sz=(n+1) * d.sz:=by rw[← Nat.add_mul];congr 1;omega
  have e2:(i+1) * d.sz=i * d.sz+d.sz:=by rw[Nat.add_mul,Nat.one_mul]
  obtain⟨B,D,a2,X⟩:=Xs (Zd enc (l.drop i)) ((i+1) * d.sz) w cur hh (by rw[l1,Y];exact hs)
  obtain⟨I,Z,b2,b3⟩:=Xs (enc x) (i * d.sz) _ B D (by rw[F.len,a2,← e2];omega)
  refine⟨I,Z,by rw[b2,a2], ?_⟩
  have hcl:cur.toList.length=cur.size:=by simp
  have J:B.toList.take (i * d.sz)=Zd enc (l.take i):=by
    rw[X,List.append_assoc,List.take_append_of_le_length (by rw[List.length_take,hcl];omega),List.take_take,Nat.min_eq_left (by omega),ht]
  have d1:B.toList.drop (i * d.sz+d.sz)=Zd enc (l.drop i)++cur.toList.drop ((i+1) * d.sz+(Zd enc (l.drop i)).length):=by
    rw[X,← e2,List.append_assoc,List.drop_left' (by rw[List.length_take,hcl];omega)]
  rw[b3,J,F.len,d1,G8 _ _ _ _ (by rw[l0,l1,F.len,← e2,Y])]
  rw[X2,X2]
  simp[Zd]
end
abbrev Xo:S56→List Value:=(fun x:S56=>[.int .i64 x.f0,.int .i64 x.f1,.int .i64 x.f2])
set_option maxHeartbeats 4000000 in
set_option maxRecDepth 100000 in
theorem U0 (b n c i vb vc:Nat) (l:List S56) (x:S56) (w:World) (cur curv:Array Value) (hi:i<n) (hroom:n+1≤c) (ε :c≤9223372036854775807) (hvb:vb≠b) (hl:l.length=n)
    (hh:w.heap[b]?=some (.cells cur 56 (0,0))) (hcs:cur.size=c * 3) (ht:cur.toList.take (n * 3)=Zd Xo l) (hv:w.heap[vb]?=some (.cells curv 56 (0,0))) (hvs:0<curv.size) (hvt:curv.toList.take 3=Xo x):
    Calls Try.prog 63 #[.slice (some ⟨b,0,none⟩) n c,.int .i64 (i:Int),.slice (some ⟨vb,0,none⟩) 1 vc] w fun e w'=>
      e = .returned (.slice (some ⟨b,0,none⟩) (n+1) c)∧w'=(w.drew.setCells b ((i+1) * 3) (Zd Xo (l.drop i))).setCells b (i * 3) (Xo x):=by
  obtain⟨Z,B,Y,hsz,L⟩:=info_parts Yl
  have J:(Try.prog.info? 56).map (·.size)=some 3:=by rw[B];simp[hsz]
  have hcur:∀ j v,cur[j]?=some v→w.cell? ⟨b,j,none⟩=some v:=fun j v hj=>by rw[cell_of_row w b j cur 56 (0,0) hh];exact hj
  have hsome:∀ j,j<c * 3→(w.cell? ⟨b,j,none⟩).isSome=true:=fun j hj=>by rw[cell_of_row w b j cur 56 (0,0) hh];simp;omega
  have hfz:∀ j,w.frozen? ⟨b,j,none⟩=false:=fun j=>Q6 hh j
  have hsa:w.shape? vb=some (56,curv.size):=by simp[World.shape?,hv]
  have hsb:w.shape? b=some (56,cur.size):=by simp[World.shape?,hh]
  have hsize:∀ w,(sizeOf 56).run Try.prog w = .ok 3 w:=fun w=>by kernel_rfl
  have hov:∀ lb cb,(callFunc 70 #[.slice (some ⟨vb,0,none⟩) 1 vc,.slice (some ⟨b,(i+1) * 3,none⟩) lb cb]).run Try.prog w = .ok (.value (.bool false)) w:=fun lb cb=>by
    rw[run_callFunc_extern Try.func70 kr kr kr (e:=Extern.SlicesOverlaps.overlaps #[24,24] #[4]) kr,
      Lib.run_overlaps_apart w 24 4 56 Try.underlying24 3 hsize ⟨vb,0,none⟩ ⟨b,(i+1) * 3,none⟩ 1 vc lb cb hvb 56 56 curv.size cur.size hsa hsb (by omega) (Q6 hv _) (Q6 hv _)]
    rfl
  have hdl:(Zd Xo (l.drop i)).length=(n-i) * 3:=by rw[Zv X0,List.length_drop,hl];rfl
  have hdr:(Zd Xo (l.drop i))=(cur.toList.take (n * 3)).drop (i * 3):=by rw[ht];exact(Jp X0 l i (by omega)).symm
  have γ:∀ ty la dc lb sc,min lb la=n-i→(Builtin.copy_ #[24,24] ty #[.slice (some ⟨b,(i+1) * 3,none⟩) la dc,.slice (some ⟨b,i * 3,none⟩) lb sc]).run Try.prog w.drew = .ok (goInt (n-i:Nat)) (w.drew.setCells b ((i+1) * 3) (Zd Xo (l.drop i))):=fun ty la dc lb sc hm=>by
    have:=Yc (P:=Try.prog) w.drew 24 24 ty 56 3 b ((i+1) * 3) la dc ⟨b,i * 3,none⟩ lb sc (Zd Xo (l.drop i)) Try.underlying24 J (by rw[hdl,hm])
      (fun j v hj=>by
        have ζ :=(List.getElem?_eq_some_iff.1 hj).1
        rw[hdr,List.getElem?_drop,List.getElem?_take] at hj
        split at hj
        · rw[Addr.add_lit]
          exact hcur (i * 3+j) v (by rw[← Array.getElem?_toList];exact hj)
        · cases hj)
      (fun j hj=>hsome _ (by rw[hdl] at hj;omega)) (fun j hj=>hfz _) (J7 X0 _)
    rw[hm] at this
    exact this
  obtain⟨W1,D⟩:∃ W1,W1=w.drew.setCells b ((i+1) * 3) (Zd Xo (l.drop i)):=⟨_,rfl⟩
  have δ :∀ (W:World),(∀ x,W.cell? x=W1.cell? x)→(∀ x,W.frozen? x=W1.frozen? x) → ∀ ty la dc,1≤la→(Builtin.copy_ #[24,24] ty #[.slice (some ⟨b,i * 3,none⟩) la dc,.slice (some ⟨vb,0,none⟩) 1 vc]).run Try.prog W = .ok (goInt (1:Nat)) (W.setCells b (i * 3) (Xo x)):=fun W hWc hWf ty la dc hla=>by
    have hm:min 1 la=1:=by omega
    have:=Yc (P:=Try.prog) W 24 24 ty 56 3 b (i * 3) la dc ⟨vb,0,none⟩ 1 vc (Xo x) Try.underlying24 J (by rw[hm];rfl)
      (fun j v hj=>by
        rw[Addr.add_lit,hWc,D,World.cell?_setCells_out b _ _ _ _ (fun h _=>absurd h hvb)]
        rw[← hvt,List.getElem?_take] at hj
        split at hj
        · show w.cell? ⟨vb,0+j,none⟩=some v
          rw[Nat.zero_add,cell_of_row w vb j curv 56 (0,0) hv,← Array.getElem?_toList];exact hj
        · cases hj)
      (fun j hj=>by
        rw[hWc,D]
        have η :j<3:=hj
        exact isSome_setCells b _ _ w.drew (fun q hq=>hsome ((i+1) * 3+q) (by rw[hdl] at hq;omega)) _ (hsome (i * 3+j) (by omega)))
      (fun j hj=>by rw[hWf,D,World.frozen?_setCells];exact hfz _) (X0.one x)
    rw[hm] at this
    exact this
  subst D
  have U:= δ _ (fun _=>rfl) (fun _=>rfl) 3 (n+1-i) (c-i) (by omega)
  have X:∀ W:World,(Instr.slice 24 (.slice (some ⟨b,0,none⟩) n c) (some (.int .i64 (i:Int))) none none).run Try.prog W = .ok (.slice (some ⟨b,i * 3,none⟩) (n-i) (c-i)) W:=fun W=>by
    rw[Xg (P:=Try.prog) 24 56 .i64 Try.underlying24 B 3 hsz (some ⟨b,0,none⟩) n c (i:Int) (by omega) (by omega) W,Int.toNat_natCast,if_neg (by omega),Option.map_some,Zw]
  have I:∀ W:World,(Instr.slice 24 (.slice (some ⟨b,0,none⟩) n c) none (some (.int .i64 ((n:Int)+1))) none).run Try.prog W = .ok (.slice (some ⟨b,0,none⟩) (n+1) c) W:=fun W=>by
    have hel:Try.prog.elem 24=56:=by simp[Program.elem,Try.underlying24]
    rw[run_slice_h W 24 (some ⟨b,0,none⟩) n c (by rw[hel];exact Try.underlying24) .i64 ((n:Int)+1) (by omega) (by omega),hel]
    simp[sizeOf,typeInfo,B,sliced,Result.andThen,Addr.add]
  have g3:∀ W:World,(Instr.slice 24 (.slice (some ⟨b,0,none⟩) (n+1) c) (some (.int .i64 ((i:Int)+1))) none none).run Try.prog W = .ok (.slice (some ⟨b,(i+1) * 3,none⟩) (n+1 - (i+1)) (c - (i+1))) W:=fun W=>by
    rw[Xg (P:=Try.prog) 24 56 .i64 Try.underlying24 B 3 hsz (some ⟨b,0,none⟩) (n+1) c ((i:Int)+1) (by omega) (by omega) W,show((i:Int)+1).toNat=i+1 from by omega,if_neg (by omega),Option.map_some,Zw]
  have g4:∀ W:World,(Instr.slice 24 (.slice (some ⟨b,0,none⟩) (n+1) c) (some (.int .i64 (i:Int))) none none).run Try.prog W = .ok (.slice (some ⟨b,i * 3,none⟩) (n+1-i) (c-i)) W:=fun W=>by
    rw[Xg (P:=Try.prog) 24 56 .i64 Try.underlying24 B 3 hsz (some ⟨b,0,none⟩) (n+1) c (i:Int) (by omega) (by omega) W,Int.toNat_natCast,if_neg (by omega),Option.map_some,Zw]
  have hz2':¬ ((i:Int)=(n:Int)):=by omega
  have θ :IntKind.i64.wrap ((i:Int)+1)=(i:Int)+1:=by rw[IntKind.wrap_i64];omega
  have O:(0:Int)≤(i:Int)+1:=by omega
  have ι :((n:Int)+1≤(c:Int)):=by omega
  have κ :¬ ((c:Int)<(n:Int)+1):=by omega
  clear J hcur hsome hfz hsa hsb hsize hdl hdr B Y hsz L hh hcs ht hv hvs hvt
  go_enter Try.func63,Try.ntmps63
  go_wp2_with (simp only[hov])
  go_region_law (refine step_copy_runI rfl _ _ 24 24 rfl (.slice (some ⟨b,(i+1) * 3,none⟩) (n-i) (c - (i+1))) (.slice (some ⟨b,i * 3,none⟩) (n+1-i) (c-i)) (by simp[Act.eval,Act.put]) (by simp[Act.eval,Act.put]) (γ _ _ _ _ _ (by omega)) ?_)
  go_wp2_with (at_builtin;refine wpList_copy_runI _ rfl _ _ 24 24 rfl (.slice (some ⟨b,i * 3,none⟩) (n+1-i) (c-i)) (.slice (some ⟨vb,0,none⟩) 1 vc) rfl rfl U ?_)
  go_ret
  exact⟨rfl,rfl⟩
abbrev encI:S62→List Value:=(fun x:S62=>[.int .i64 x.f0,.int .i64 x.f1])
set_option maxHeartbeats 4000000 in
set_option maxRecDepth 100000 in
theorem Uy (b n c i vb vc:Nat) (l:List S62) (x:S62) (w:World) (cur curv:Array Value) (hi:i<n) (hroom:n+1≤c) (ε :c≤9223372036854775807) (hvb:vb≠b) (hl:l.length=n)
    (hh:w.heap[b]?=some (.cells cur 62 (0,0))) (hcs:cur.size=c * 2) (ht:cur.toList.take (n * 2)=Zd encI l) (hv:w.heap[vb]?=some (.cells curv 62 (0,0))) (hvs:0<curv.size) (hvt:curv.toList.take 2=encI x):
    Calls Try.prog 60 #[.slice (some ⟨b,0,none⟩) n c,.int .i64 (i:Int),.slice (some ⟨vb,0,none⟩) 1 vc] w fun e w'=>
      e = .returned (.slice (some ⟨b,0,none⟩) (n+1) c)∧w'=(w.drew.setCells b ((i+1) * 2) (Zd encI (l.drop i))).setCells b (i * 2) (encI x):=by
  obtain⟨Z,B,Y,hsz,L⟩:=info_parts J0
  have J:(Try.prog.info? 62).map (·.size)=some 2:=by rw[B];simp[hsz]
  have hcur:∀ j v,cur[j]?=some v→w.cell? ⟨b,j,none⟩=some v:=fun j v hj=>by rw[cell_of_row w b j cur 62 (0,0) hh];exact hj
  have hsome:∀ j,j<c * 2→(w.cell? ⟨b,j,none⟩).isSome=true:=fun j hj=>by rw[cell_of_row w b j cur 62 (0,0) hh];simp;omega
  have hfz:∀ j,w.frozen? ⟨b,j,none⟩=false:=fun j=>Q6 hh j
  have hsa:w.shape? vb=some (62,curv.size):=by simp[World.shape?,hv]
  have hsb:w.shape? b=some (62,cur.size):=by simp[World.shape?,hh]
  have hsize:∀ w,(sizeOf 62).run Try.prog w = .ok 2 w:=fun w=>by kernel_rfl
  have hov:∀ lb cb,(callFunc 68 #[.slice (some ⟨vb,0,none⟩) 1 vc,.slice (some ⟨b,(i+1) * 2,none⟩) lb cb]).run Try.prog w = .ok (.value (.bool false)) w:=fun lb cb=>by
    rw[run_callFunc_extern Try.func68 kr kr kr (e:=Extern.SlicesOverlaps.overlaps #[25,25] #[4]) kr,
      Lib.run_overlaps_apart w 25 4 62 Try.underlying25 2 hsize ⟨vb,0,none⟩ ⟨b,(i+1) * 2,none⟩ 1 vc lb cb hvb 62 62 curv.size cur.size hsa hsb (by omega) (Q6 hv _) (Q6 hv _)]
    rfl
  have hdl:(Zd encI (l.drop i)).length=(n-i) * 2:=by rw[Zv Xz,List.length_drop,hl];rfl
  have hdr:(Zd encI (l.drop i))=(cur.toList.take (n * 2)).drop (i * 2):=by rw[ht];exact(Jp Xz l i (by omega)).symm
  have γ:∀ ty la dc lb sc,min lb la=n-i→(Builtin.copy_ #[25,25] ty #[.slice (some ⟨b,(i+1) * 2,none⟩) la dc,.slice (some ⟨b,i * 2,none⟩) lb sc]).run Try.prog w.drew = .ok (goInt (n-i:Nat)) (w.drew.setCells b ((i+1) * 2) (Zd encI (l.drop i))):=fun ty la dc lb sc hm=>by
    have:=Yc (P:=Try.prog) w.drew 25 25 ty 62 2 b ((i+1) * 2) la dc ⟨b,i * 2,none⟩ lb sc (Zd encI (l.drop i)) Try.underlying25 J (by rw[hdl,hm])
      (fun j v hj=>by
        have ζ :=(List.getElem?_eq_some_iff.1 hj).1
        rw[hdr,List.getElem?_drop,List.getElem?_take] at hj
        split at hj
        · rw[Addr.add_lit]
          exact hcur (i * 2+j) v (by rw[← Array.getElem?_toList];exact hj)
        · cases hj)
      (fun j hj=>hsome _ (by rw[hdl] at hj;omega)) (fun j hj=>hfz _) (J7 Xz _)
    rw[hm] at this
    exact this
  obtain⟨W1,D⟩:∃ W1,W1=w.drew.setCells b ((i+1) * 2) (Zd encI (l.drop i)):=⟨_,rfl⟩
  have δ :∀ (W:World),(∀ x,W.cell? x=W1.cell? x)→(∀ x,W.frozen? x=W1.frozen? x) → ∀ ty la dc,1≤la→(Builtin.copy_ #[25,25] ty #[.slice (some ⟨b,i * 2,none⟩) la dc,.slice (some ⟨vb,0,none⟩) 1 vc]).run Try.prog W = .ok (goInt (1:Nat)) (W.setCells b (i * 2) (encI x)):=fun W hWc hWf ty la dc hla=>by
    have hm:min 1 la=1:=by omega
    have:=Yc (P:=Try.prog) W 25 25 ty 62 2 b (i * 2) la dc ⟨vb,0,none⟩ 1 vc (encI x) Try.underlying25 J (by rw[hm];rfl)
      (fun j v hj=>by
        rw[Addr.add_lit,hWc,D,World.cell?_setCells_out b _ _ _ _ (fun h _=>absurd h hvb)]
        rw[← hvt,List.getElem?_take] at hj
        split at hj
        · show w.cell? ⟨vb,0+j,none⟩=some v
          rw[Nat.zero_add,cell_of_row w vb j curv 62 (0,0) hv,← Array.getElem?_toList];exact hj
        · cases hj)
      (fun j hj=>by
        rw[hWc,D]
        have η :j<2:=hj
        exact isSome_setCells b _ _ w.drew (fun q hq=>hsome ((i+1) * 2+q) (by rw[hdl] at hq;omega)) _ (hsome (i * 2+j) (by omega)))
      (fun j hj=>by rw[hWf,D,World.frozen?_setCells];exact hfz _) (Xz.one x)
    rw[hm] at this
    exact this
  subst D
  have U:= δ _ (fun _=>rfl) (fun _=>rfl) 3 (n+1-i) (c-i) (by omega)
  have X:∀ W:World,(Instr.slice 25 (.slice (some ⟨b,0,none⟩) n c) (some (.int .i64 (i:Int))) none none).run Try.prog W = .ok (.slice (some ⟨b,i * 2,none⟩) (n-i) (c-i)) W:=fun W=>by
    rw[Xg (P:=Try.prog) 25 62 .i64 Try.underlying25 B 2 hsz (some ⟨b,0,none⟩) n c (i:Int) (by omega) (by omega) W,Int.toNat_natCast,if_neg (by omega),Option.map_some,Zw]
  have I:∀ W:World,(Instr.slice 25 (.slice (some ⟨b,0,none⟩) n c) none (some (.int .i64 ((n:Int)+1))) none).run Try.prog W = .ok (.slice (some ⟨b,0,none⟩) (n+1) c) W:=fun W=>by
    have hel:Try.prog.elem 25=62:=by simp[Program.elem,Try.underlying25]
    rw[run_slice_h W 25 (some ⟨b,0,none⟩) n c (by rw[hel];exact Try.underlying25) .i64 ((n:Int)+1) (by omega) (by omega),hel]
    simp[sizeOf,typeInfo,B,sliced,Result.andThen,Addr.add]
  have g3:∀ W:World,(Instr.slice 25 (.slice (some ⟨b,0,none⟩) (n+1) c) (some (.int .i64 ((i:Int)+1))) none none).run Try.prog W = .ok (.slice (some ⟨b,(i+1) * 2,none⟩) (n+1 - (i+1)) (c - (i+1))) W:=fun W=>by
    rw[Xg (P:=Try.prog) 25 62 .i64 Try.underlying25 B 2 hsz (some ⟨b,0,none⟩) (n+1) c ((i:Int)+1) (by omega) (by omega) W,show((i:Int)+1).toNat=i+1 from by omega,if_neg (by omega),Option.map_some,Zw]
  have g4:∀ W:World,(Instr.slice 25 (.slice (some ⟨b,0,none⟩) (n+1) c) (some (.int .i64 (i:Int))) none none).run Try.prog W = .ok (.slice (some ⟨b,i * 2,none⟩) (n+1-i) (c-i)) W:=fun W=>by
    rw[Xg (P:=Try.prog) 25 62 .i64 Try.underlying25 B 2 hsz (some ⟨b,0,none⟩) (n+1) c (i:Int) (by omega) (by omega) W,Int.toNat_natCast,if_neg (by omega),Option.map_some,Zw]
  have hz2':¬ ((i:Int)=(n:Int)):=by omega
  have θ :IntKind.i64.wrap ((i:Int)+1)=(i:Int)+1:=by rw[IntKind.wrap_i64];omega
  have O:(0:Int)≤(i:Int)+1:=by omega
  have ι :((n:Int)+1≤(c:Int)):=by omega
  have κ :¬ ((c:Int)<(n:Int)+1):=by omega
  clear J hcur hsome hfz hsa hsb hsize hdl hdr B Y hsz L hh hcs ht hv hvs hvt
  go_enter Try.func60,Try.ntmps60
  go_wp2_with (simp only[hov])
  go_region_law (refine step_copy_runI rfl _ _ 25 25 rfl (.slice (some ⟨b,(i+1) * 2,none⟩) (n-i) (c - (i+1))) (.slice (some ⟨b,i * 2,none⟩) (n+1-i) (c-i)) (by simp[Act.eval,Act.put]) (by simp[Act.eval,Act.put]) (γ _ _ _ _ _ (by omega)) ?_)
  go_wp2_with (at_builtin;refine wpList_copy_runI _ rfl _ _ 25 25 rfl (.slice (some ⟨b,i * 2,none⟩) (n+1-i) (c-i)) (.slice (some ⟨vb,0,none⟩) 1 vc) rfl rfl U ?_)
  go_ret
  exact⟨rfl,rfl⟩
section
variable {α : Type} {d : Kd α} {enc : α → List Value}
theorem Gb (F:Flat d enc) {e:TypeId} (w:World) (b i n:Nat) (cur:Array Value) (l:List α) (x:α) (hh:w.heap[b]?=some (.cells cur e (0,0))) (hl:l.length=n) (hi:i≤n) (hs:(n+1) * d.sz≤cur.size) (ht:cur.toList.take (i * d.sz)=Zd enc (l.take i)):
    ∃ cur',((w.setCells b (i * d.sz) (enc x)).drew.setCells b ((i+1) * d.sz) (Zd enc (l.drop i))).heap[b]?=some (.cells cur' e (0,0))∧cur'.size=cur.size∧cur'.toList.take ((n+1) * d.sz)=Zd enc (l.take i ++ [x]++l.drop i):=by
  have l1:(Zd enc (l.drop i)).length=(n-i) * d.sz:=by rw[Zv F,List.length_drop,hl]
  have l0:(Zd enc (l.take i)).length=i * d.sz:=by rw[Zv F,List.length_take,hl,Nat.min_eq_left hi]
  have Y:(i+1) * d.sz+(n-i) * d.sz=(n+1) * d.sz:=by rw[← Nat.add_mul];congr 1;omega
  have e2:(i+1) * d.sz=i * d.sz+d.sz:=by rw[Nat.add_mul,Nat.one_mul]
  obtain⟨B,D,a2,X⟩:=Xs (enc x) (i * d.sz) w cur hh (by rw[F.len,← e2];omega)
  obtain⟨I,Z,b2,b3⟩:=Xs (Zd enc (l.drop i)) ((i+1) * d.sz) ((w.setCells b (i * d.sz) (enc x)).drew) B D (by rw[l1,Y,a2];exact hs)
  refine⟨I,Z,by rw[b2,a2], ?_⟩
  have hcl:cur.toList.length=cur.size:=by simp
  have J:B.toList.take ((i+1) * d.sz)=Zd enc (l.take i)++enc x:=by
    rw[X,ht,List.take_left' (by rw[List.length_append,l0,F.len,e2])]
  rw[b3,J,List.append_assoc _ (Zd enc (l.drop i)) _,← List.append_assoc,List.append_assoc _ (enc x)]
  rw[List.take_append_of_le_length (by simp only[List.length_append,l0,l1,F.len];rw[← Y,e2];omega),List.take_of_length_le (by simp only[List.length_append,l0,l1,F.len];rw[← Y,e2];omega)]
  rw[X2,X2]
  simp[Zd]
end
set_option maxHeartbeats 4000000 in
set_option maxRecDepth 100000 in
theorem W0 (b n c i vb vc:Nat) (l:List S56) (x:S56) (w:World) (cur curv:Array Value) (hi:i<n) (hnc:n≤c) (hroom:c<n+1) (hbig:n≤1000000000) (hvb:vb≠b) (hl:l.length=n)
    (hh:w.heap[b]?=some (.cells cur 56 (0,0))) (hcs:cur.size=c * 3) (ht:cur.toList.take (n * 3)=Zd Xo l) (hv:w.heap[vb]?=some (.cells curv 56 (0,0))) (hvs:0<curv.size) (hvt:curv.toList.take 3=Xo x):
    Calls Try.prog 63 #[.slice (some ⟨b,0,none⟩) n c,.int .i64 (i:Int),.slice (some ⟨vb,0,none⟩) 1 vc] w fun e w'=>
      e = .returned (.slice (some ⟨w.heap.size,0,none⟩) (n+1) (grownCap w (n+1) c 56)) ∧
      w'=(((w.alloc (.cells ((Zd Xo (l.take i)).toArray++Builtin.zeroCells (Value.agg #[(.int .i64 0),(.int .i64 0),(.int .i64 0)]).cells (n+1-i)++Builtin.zeroCells (Value.agg #[(.int .i64 0),(.int .i64 0),(.int .i64 0)]).cells (grownCap w (n+1) c 56 - (n+1))) 56)).drew.setCells w.heap.size (i * 3) (Xo x)).drew).setCells w.heap.size ((i+1) * 3) (Zd Xo (l.drop i)):=by
  obtain⟨Z,B,Y,hsz,L⟩:=info_parts Yl
  have J:(Try.prog.info? 56).map (·.size)=some 3:=by rw[B];simp[hsz]
  have hcur:∀ j v,cur[j]?=some v→w.cell? ⟨b,j,none⟩=some v:=fun j v hj=>by rw[cell_of_row w b j cur 56 (0,0) hh];exact hj
  have hbw:b<w.heap.size:=Q3 hh
  have hvw:vb<w.heap.size:=Q3 hv
  have hkk:(n:Int)+1 - (i:Int)=((n+1-i:Nat):Int):=by omega
  have hik:i+(n+1-i)=n+1:=by omega
  have htl:(Zd Xo (l.take i)).length=i * 3:=by rw[Zv X0,List.length_take,hl,Nat.min_eq_left (by omega)];rfl
  have hdl:(Zd Xo (l.drop i)).length=(n-i) * 3:=by rw[Zv X0,List.length_drop,hl];rfl
  have htk:Zd Xo (l.take i)=(cur.toList.take (n * 3)).take (i * 3):=by rw[ht];exact(Y2 X0 l i (by omega)).symm
  have hdr:Zd Xo (l.drop i)=(cur.toList.take (n * 3)).drop (i * 3):=by rw[ht];exact(Jp X0 l i (by omega)).symm
  have hold:(Builtin.firstCells Z.size i (.slice (some ⟨b,0,none⟩) i c)).run Try.prog w.drew = .ok (Zd Xo (l.take i)).toArray w.drew:=by
    rw[hsz]
    exact run_firstCells_some (w:=w.drew) 3 i ⟨b,0,none⟩ i c (Zd Xo (l.take i)) htl (fun j v hj=>by
      rw[Zw]
      rw[htk,List.getElem?_take,List.getElem?_take] at hj
      split at hj
      · split at hj
        · exact hcur j v (by rw[← Array.getElem?_toList];exact hj)
        · cases hj
      · cases hj)
  have hrz:∀ ty,(Builtin.append_ #[24,3] ty #[.slice (some ⟨b,0,none⟩) i c,.int .i64 ((n:Int)+1 - (i:Int))]).run Try.prog w =
      .ok (.slice (some ⟨w.heap.size,0,none⟩) (n+1) (grownCap w (n+1) c 56)) (w.drew.alloc (.cells ((Zd Xo (l.take i)).toArray++Builtin.zeroCells (Value.agg #[(.int .i64 0),(.int .i64 0),(.int .i64 0)]).cells (n+1-i)++Builtin.zeroCells (Value.agg #[(.int .i64 0),(.int .i64 0),(.int .i64 0)]).cells (grownCap w (n+1) c 56 - (n+1))) 56)):=fun ty=>by
    have h:=Lib.run_append_grow_zeros (P:=Try.prog) w 24 3 ty 56 Z _ .i64 .i64 Try.underlying24 Try.underlying3 B Y (some ⟨b,0,none⟩) i c (Zd Xo (l.take i)) hold (n+1-i) (by omega) (by rw[hsz];omega) (by omega) (by omega) (by rw[L];omega) (by rw[L,hik];exact growslice_fits (by omega) (by omega))
    rw[hik] at h
    rw[hkk]
    exact h
  obtain⟨G,hG⟩:∃ G,G=grownCap w (n+1) c 56:=⟨_,rfl⟩
  obtain⟨ROW,hROW⟩:∃ ROW:Array Value,ROW=(Zd Xo (l.take i)).toArray++Builtin.zeroCells (Value.agg #[(.int .i64 0),(.int .i64 0),(.int .i64 0)]).cells (n+1-i)++Builtin.zeroCells (Value.agg #[(.int .i64 0),(.int .i64 0),(.int .i64 0)]).cells (G - (n+1)):=⟨_,rfl⟩
  rw[← hG] at hrz ⊢
  rw[← hROW] at hrz ⊢
  have hRl:(n+1) * 3≤ROW.size:=by
    rw[hROW]
    simp only[Array.size_append,size_zeroCells,List.size_toArray,htl]
    show(n+1) * 3≤i * 3+(n+1-i) * 3+(G - (n+1)) * 3
    omega
  obtain⟨W1,D⟩:∃ W1,W1=w.drew.alloc (.cells ROW 56):=⟨_,rfl⟩
  rw[← D] at hrz
  have hN:∀ j,j<(n+1) * 3→(W1.cell? ⟨w.heap.size,j,none⟩).isSome=true:=fun j hj=>by
    rw[D,World.cell?_alloc_at (w:=w.drew) ROW _ w.heap.size j rfl,Array.getElem?_eq_getElem (by omega)];rfl
  have hNf:∀ j,W1.frozen? ⟨w.heap.size,j,none⟩=false:=fun j=>by rw[D];exact World.frozen?_alloc_at (w:=w.drew) ROW _ w.heap.size j rfl
  have hOb:∀ j v,w.cell? ⟨b,j,none⟩=some v→W1.cell? ⟨b,j,none⟩=some v:=fun j v h=>by rw[D,World.cell?_alloc_past (w:=w.drew) _ b j hbw];exact h
  have hOv:∀ j v,w.cell? ⟨vb,j,none⟩=some v→W1.cell? ⟨vb,j,none⟩=some v:=fun j v h=>by rw[D,World.cell?_alloc_past (w:=w.drew) _ vb j hvw];exact h
  have hcpA:∀ (W:World),(∀ x,W.cell? x=W1.cell? x)→(∀ x,W.frozen? x=W1.frozen? x) → ∀ ty la dc,1≤la→(Builtin.copy_ #[24,24] ty #[.slice (some ⟨w.heap.size,i * 3,none⟩) la dc,.slice (some ⟨vb,0,none⟩) 1 vc]).run Try.prog W = .ok (goInt (1:Nat)) (W.setCells w.heap.size (i * 3) (Xo x)):=fun W hWc hWf ty la dc hla=>by
    have hm:min 1 la=1:=by omega
    have:=Yc (P:=Try.prog) W 24 24 ty 56 3 w.heap.size (i * 3) la dc ⟨vb,0,none⟩ 1 vc (Xo x) Try.underlying24 J (by rw[hm];rfl)
      (fun j v hj=>by
        rw[Zw,hWc]
        rw[← hvt,List.getElem?_take] at hj
        split at hj
        · exact hOv j v (by rw[cell_of_row w vb j curv 56 (0,0) hv,← Array.getElem?_toList];exact hj)
        · cases hj)
      (fun j hj=>by
        rw[hWc]
        have η :j<3:=hj
        exact hN (i * 3+j) (by omega))
      (fun j hj=>by rw[hWf];exact hNf _) (X0.one x)
    rw[hm] at this
    exact this
  have γ:n+1≤G:=by rw[hG];exact grownCap_ge w _ _ _
  have ι :G≤9223372036854775807:=by
    have:=grownCap_le_maxLen w (n+1) c 56 (by unfold maxLen;omega)
    rw[← hG] at this
    unfold maxLen at this
    omega
  have hbN:b≠w.heap.size:=by omega
  have hcpB:∀ (W:World),(∀ y,W.cell? y=(W1.setCells w.heap.size (i * 3) (Xo x)).cell? y)→(∀ y,W.frozen? y=(W1.setCells w.heap.size (i * 3) (Xo x)).frozen? y) → ∀ ty la dc lb sc,min lb la=n-i→(Builtin.copy_ #[24,24] ty #[.slice (some ⟨w.heap.size,(i+1) * 3,none⟩) la dc,.slice (some ⟨b,i * 3,none⟩) lb sc]).run Try.prog W = .ok (goInt (n-i:Nat)) (W.setCells w.heap.size ((i+1) * 3) (Zd Xo (l.drop i))):=fun W hWc hWf ty la dc lb sc hm=>by
    have:=Yc (P:=Try.prog) W 24 24 ty 56 3 w.heap.size ((i+1) * 3) la dc ⟨b,i * 3,none⟩ lb sc (Zd Xo (l.drop i)) Try.underlying24 J (by rw[hdl,hm])
      (fun j v hj=>by
        rw[hdr,List.getElem?_drop,List.getElem?_take] at hj
        split at hj
        · rw[Addr.add_lit,hWc,World.cell?_setCells_out _ _ _ _ _ (fun h _=>absurd h hbN)]
          exact hOb _ v (hcur (i * 3+j) v (by rw[← Array.getElem?_toList];exact hj))
        · cases hj)
      (fun j hj=>by
        rw[hWc]
        rw[hdl] at hj
        exact isSome_setCells _ _ _ W1 (fun q hq=>hN (i * 3+q) (by have:q<3:=hq;omega)) ((i+1) * 3+j) (hN ((i+1) * 3+j) (by omega)))
      (fun j hj=>by rw[hWf,World.frozen?_setCells];exact hNf _) (J7 X0 _)
    rw[hm] at this
    exact this
  subst D
  have δ :∀ x,((w.alloc (.cells ROW 56)).drew).cell? x=(w.drew.alloc (.cells ROW 56)).cell? x:=fun x=>rfl
  have ε :∀ x,((w.alloc (.cells ROW 56)).drew).frozen? x=(w.drew.alloc (.cells ROW 56)).frozen? x:=fun x=>rfl
  have U:=hcpA _ δ ε 3 (n+1-i) (G-i) (by omega)
  have ζ :=hcpB ((w.alloc (.cells ROW 56)).drew.setCells w.heap.size (i * 3) (Xo x)).drew (fun x=>rfl) (fun x=>rfl) 3 (n-i) (G - (i+1)) (n-i) (c-i) (by omega)
  have X:∀ W:World,(Instr.slice 24 (.slice (some ⟨b,0,none⟩) n c) (some (.int .i64 (i:Int))) none none).run Try.prog W = .ok (.slice (some ⟨b,i * 3,none⟩) (n-i) (c-i)) W:=fun W=>by
    rw[Xg (P:=Try.prog) 24 56 .i64 Try.underlying24 B 3 hsz (some ⟨b,0,none⟩) n c (i:Int) (by omega) (by omega) W,Int.toNat_natCast,if_neg (by omega),Option.map_some,Zw]
  have I:∀ W:World,(Instr.slice 24 (.slice (some ⟨b,0,none⟩) n c) none (some (.int .i64 (i:Int))) none).run Try.prog W = .ok (.slice (some ⟨b,0,none⟩) i c) W:=fun W=>by
    have hel:Try.prog.elem 24=56:=by simp[Program.elem,Try.underlying24]
    rw[run_slice_h W 24 (some ⟨b,0,none⟩) n c (by rw[hel];exact Try.underlying24) .i64 (i:Int) (by omega) (by omega),hel]
    simp[sizeOf,typeInfo,B,sliced,Result.andThen,Addr.add]
  have g3:∀ W:World,(Instr.slice 24 (.slice (some ⟨w.heap.size,0,none⟩) (n+1) G) (some (.int .i64 (i:Int))) none none).run Try.prog W = .ok (.slice (some ⟨w.heap.size,i * 3,none⟩) (n+1-i) (G-i)) W:=fun W=>by
    rw[Xg (P:=Try.prog) 24 56 .i64 Try.underlying24 B 3 hsz (some ⟨w.heap.size,0,none⟩) (n+1) G (i:Int) (by omega) (by omega) W,Int.toNat_natCast,if_neg (by omega),Option.map_some,Zw]
  have g4:∀ W:World,(Instr.slice 24 (.slice (some ⟨w.heap.size,0,none⟩) (n+1) G) (some (.int .i64 ((i:Int)+1))) none none).run Try.prog W = .ok (.slice (some ⟨w.heap.size,(i+1) * 3,none⟩) (n-i) (G - (i+1))) W:=fun W=>by
    rw[Xg (P:=Try.prog) 24 56 .i64 Try.underlying24 B 3 hsz (some ⟨w.heap.size,0,none⟩) (n+1) G ((i:Int)+1) (by omega) (by omega) W,show((i:Int)+1).toNat=i+1 from by omega,if_neg (by omega),Option.map_some,Zw,show n+1 - (i+1)=n-i from by omega]
  have hz2':¬ ((i:Int)=(n:Int)):=by omega
  have κ :(c:Int)<(n:Int)+1:=by omega
  have θ :IntKind.i64.wrap ((i:Int)+1)=(i:Int)+1:=by rw[IntKind.wrap_i64];omega
  have O:(0:Int)≤(i:Int)+1:=by omega
  clear hcpA hcpB hN hNf hOb hOv δ ε hkk hik hold hROW hG hRl J hcur hdl hdr htl htk B Y hsz L hh hcs ht hv hvs hvt
  go_enter Try.func63,Try.ntmps63
  go_wp2_with (first
    |(at_builtin;refine Lib.wpList_append_run _ rfl _ _ _ _ rfl _ _ rfl rfl _ _ (hrz _) ?_)
    |(at_builtin;refine wpList_copy_runI _ rfl _ _ 24 24 rfl (.slice (some ⟨w.heap.size,i * 3,none⟩) (n+1-i) (G-i)) (.slice (some ⟨vb,0,none⟩) 1 vc) rfl rfl U ?_))
  go_region_law (refine step_copy_runI rfl _ _ 24 24 rfl (.slice (some ⟨w.heap.size,(i+1) * 3,none⟩) (n-i) (G - (i+1))) (.slice (some ⟨b,i * 3,none⟩) (n-i) (c-i)) (by simp[Act.eval,Act.put]) (by simp[Act.eval,Act.put]) ζ ?_)
  go_wp2
  go_ret
  exact⟨rfl,rfl⟩
set_option maxHeartbeats 4000000 in
set_option maxRecDepth 100000 in
theorem Wz (b n c i vb vc:Nat) (l:List S62) (x:S62) (w:World) (cur curv:Array Value) (hi:i<n) (hnc:n≤c) (hroom:c<n+1) (hbig:n≤1000000000) (hvb:vb≠b) (hl:l.length=n)
    (hh:w.heap[b]?=some (.cells cur 62 (0,0))) (hcs:cur.size=c * 2) (ht:cur.toList.take (n * 2)=Zd encI l) (hv:w.heap[vb]?=some (.cells curv 62 (0,0))) (hvs:0<curv.size) (hvt:curv.toList.take 2=encI x):
    Calls Try.prog 60 #[.slice (some ⟨b,0,none⟩) n c,.int .i64 (i:Int),.slice (some ⟨vb,0,none⟩) 1 vc] w fun e w'=>
      e = .returned (.slice (some ⟨w.heap.size,0,none⟩) (n+1) (grownCap w (n+1) c 62)) ∧
      w'=(((w.alloc (.cells ((Zd encI (l.take i)).toArray++Builtin.zeroCells (Value.agg #[(.int .i64 0),(.int .i64 0)]).cells (n+1-i)++Builtin.zeroCells (Value.agg #[(.int .i64 0),(.int .i64 0)]).cells (grownCap w (n+1) c 62 - (n+1))) 62)).drew.setCells w.heap.size (i * 2) (encI x)).drew).setCells w.heap.size ((i+1) * 2) (Zd encI (l.drop i)):=by
  obtain⟨Z,B,Y,hsz,L⟩:=info_parts J0
  have J:(Try.prog.info? 62).map (·.size)=some 2:=by rw[B];simp[hsz]
  have hcur:∀ j v,cur[j]?=some v→w.cell? ⟨b,j,none⟩=some v:=fun j v hj=>by rw[cell_of_row w b j cur 62 (0,0) hh];exact hj
  have hbw:b<w.heap.size:=Q3 hh
  have hvw:vb<w.heap.size:=Q3 hv
  have hkk:(n:Int)+1 - (i:Int)=((n+1-i:Nat):Int):=by omega
  have hik:i+(n+1-i)=n+1:=by omega
  have htl:(Zd encI (l.take i)).length=i * 2:=by rw[Zv Xz,List.length_take,hl,Nat.min_eq_left (by omega)];rfl
  have hdl:(Zd encI (l.drop i)).length=(n-i) * 2:=by rw[Zv Xz,List.length_drop,hl];rfl
  have htk:Zd encI (l.take i)=(cur.toList.take (n * 2)).take (i * 2):=by rw[ht];exact(Y2 Xz l i (by omega)).symm
  have hdr:Zd encI (l.drop i)=(cur.toList.take (n * 2)).drop (i * 2):=by rw[ht];exact(Jp Xz l i (by omega)).symm
  have hold:(Builtin.firstCells Z.size i (.slice (some ⟨b,0,none⟩) i c)).run Try.prog w.drew = .ok (Zd encI (l.take i)).toArray w.drew:=by
    rw[hsz]
    exact run_firstCells_some (w:=w.drew) 2 i ⟨b,0,none⟩ i c (Zd encI (l.take i)) htl (fun j v hj=>by
      rw[Zw]
      rw[htk,List.getElem?_take,List.getElem?_take] at hj
      split at hj
      · split at hj
        · exact hcur j v (by rw[← Array.getElem?_toList];exact hj)
        · cases hj
      · cases hj)
  have hrz:∀ ty,(Builtin.append_ #[25,3] ty #[.slice (some ⟨b,0,none⟩) i c,.int .i64 ((n:Int)+1 - (i:Int))]).run Try.prog w =
      .ok (.slice (some ⟨w.heap.size,0,none⟩) (n+1) (grownCap w (n+1) c 62)) (w.drew.alloc (.cells ((Zd encI (l.take i)).toArray++Builtin.zeroCells (Value.agg #[(.int .i64 0),(.int .i64 0)]).cells (n+1-i)++Builtin.zeroCells (Value.agg #[(.int .i64 0),(.int .i64 0)]).cells (grownCap w (n+1) c 62 - (n+1))) 62)):=fun ty=>by
    have h:=Lib.run_append_grow_zeros (P:=Try.prog) w 25 3 ty 62 Z _ .i64 .i64 Try.underlying25 Try.underlying3 B Y (some ⟨b,0,none⟩) i c (Zd encI (l.take i)) hold (n+1-i) (by omega) (by rw[hsz];omega) (by omega) (by omega) (by rw[L];omega) (by rw[L,hik];exact growslice_fits (by omega) (by omega))
    rw[hik] at h
    rw[hkk]
    exact h
  obtain⟨G,hG⟩:∃ G,G=grownCap w (n+1) c 62:=⟨_,rfl⟩
  obtain⟨ROW,hROW⟩:∃ ROW:Array Value,ROW=(Zd encI (l.take i)).toArray++Builtin.zeroCells (Value.agg #[(.int .i64 0),(.int .i64 0)]).cells (n+1-i)++Builtin.zeroCells (Value.agg #[(.int .i64 0),(.int .i64 0)]).cells (G - (n+1)):=⟨_,rfl⟩
  rw[← hG] at hrz ⊢
  rw[← hROW] at hrz ⊢
  have hRl:(n+1) * 2≤ROW.size:=by
    rw[hROW]
    simp only[Array.size_append,size_zeroCells,List.size_toArray,htl]
    show(n+1) * 2≤i * 2+(n+1-i) * 2+(G - (n+1)) * 2
    omega
  obtain⟨W1,D⟩:∃ W1,W1=w.drew.alloc (.cells ROW 62):=⟨_,rfl⟩
  rw[← D] at hrz
  have hN:∀ j,j<(n+1) * 2→(W1.cell? ⟨w.heap.size,j,none⟩).isSome=true:=fun j hj=>by
    rw[D,World.cell?_alloc_at (w:=w.drew) ROW _ w.heap.size j rfl,Array.getElem?_eq_getElem (by omega)];rfl
  have hNf:∀ j,W1.frozen? ⟨w.heap.size,j,none⟩=false:=fun j=>by rw[D];exact World.frozen?_alloc_at (w:=w.drew) ROW _ w.heap.size j rfl
  have hOb:∀ j v,w.cell? ⟨b,j,none⟩=some v→W1.cell? ⟨b,j,none⟩=some v:=fun j v h=>by rw[D,World.cell?_alloc_past (w:=w.drew) _ b j hbw];exact h
  have hOv:∀ j v,w.cell? ⟨vb,j,none⟩=some v→W1.cell? ⟨vb,j,none⟩=some v:=fun j v h=>by rw[D,World.cell?_alloc_past (w:=w.drew) _ vb j hvw];exact h
  have hcpA:∀ (W:World),(∀ x,W.cell? x=W1.cell? x)→(∀ x,W.frozen? x=W1.frozen? x) → ∀ ty la dc,1≤la→(Builtin.copy_ #[25,25] ty #[.slice (some ⟨w.heap.size,i * 2,none⟩) la dc,.slice (some ⟨vb,0,none⟩) 1 vc]).run Try.prog W = .ok (goInt (1:Nat)) (W.setCells w.heap.size (i * 2) (encI x)):=fun W hWc hWf ty la dc hla=>by
    have hm:min 1 la=1:=by omega
    have:=Yc (P:=Try.prog) W 25 25 ty 62 2 w.heap.size (i * 2) la dc ⟨vb,0,none⟩ 1 vc (encI x) Try.underlying25 J (by rw[hm];rfl)
      (fun j v hj=>by
        rw[Zw,hWc]
        rw[← hvt,List.getElem?_take] at hj
        split at hj
        · exact hOv j v (by rw[cell_of_row w vb j curv 62 (0,0) hv,← Array.getElem?_toList];exact hj)
        · cases hj)
      (fun j hj=>by
        rw[hWc]
        have η :j<2:=hj
        exact hN (i * 2+j) (by omega))
      (fun j hj=>by rw[hWf];exact hNf _) (Xz.one x)
    rw[hm] at this
    exact this
  have γ:n+1≤G:=by rw[hG];exact grownCap_ge w _ _ _
  have ι :G≤9223372036854775807:=by
    have:=grownCap_le_maxLen w (n+1) c 62 (by unfold maxLen;omega)
    rw[← hG] at this
    unfold maxLen at this
    omega
  have hbN:b≠w.heap.size:=by omega
  have hcpB:∀ (W:World),(∀ y,W.cell? y=(W1.setCells w.heap.size (i * 2) (encI x)).cell? y)→(∀ y,W.frozen? y=(W1.setCells w.heap.size (i * 2) (encI x)).frozen? y) → ∀ ty la dc lb sc,min lb la=n-i→(Builtin.copy_ #[25,25] ty #[.slice (some ⟨w.heap.size,(i+1) * 2,none⟩) la dc,.slice (some ⟨b,i * 2,none⟩) lb sc]).run Try.prog W = .ok (goInt (n-i:Nat)) (W.setCells w.heap.size ((i+1) * 2) (Zd encI (l.drop i))):=fun W hWc hWf ty la dc lb sc hm=>by
    have:=Yc (P:=Try.prog) W 25 25 ty 62 2 w.heap.size ((i+1) * 2) la dc ⟨b,i * 2,none⟩ lb sc (Zd encI (l.drop i)) Try.underlying25 J (by rw[hdl,hm])
      (fun j v hj=>by
        rw[hdr,List.getElem?_drop,List.getElem?_take] at hj
        split at hj
        · rw[Addr.add_lit,hWc,World.cell?_setCells_out _ _ _ _ _ (fun h _=>absurd h hbN)]
          exact hOb _ v (hcur (i * 2+j) v (by rw[← Array.getElem?_toList];exact hj))
        · cases hj)
      (fun j hj=>by
        rw[hWc]
        rw[hdl] at hj
        exact isSome_setCells _ _ _ W1 (fun q hq=>hN (i * 2+q) (by have:q<2:=hq;omega)) ((i+1) * 2+j) (hN ((i+1) * 2+j) (by omega)))
      (fun j hj=>by rw[hWf,World.frozen?_setCells];exact hNf _) (J7 Xz _)
    rw[hm] at this
    exact this
  subst D
  have δ :∀ x,((w.alloc (.cells ROW 62)).drew).cell? x=(w.drew.alloc (.cells ROW 62)).cell? x:=fun x=>rfl
  have ε :∀ x,((w.alloc (.cells ROW 62)).drew).frozen? x=(w.drew.alloc (.cells ROW 62)).frozen? x:=fun x=>rfl
  have U:=hcpA _ δ ε 3 (n+1-i) (G-i) (by omega)
  have ζ :=hcpB ((w.alloc (.cells ROW 62)).drew.setCells w.heap.size (i * 2) (encI x)).drew (fun x=>rfl) (fun x=>rfl) 3 (n-i) (G - (i+1)) (n-i) (c-i) (by omega)
  have X:∀ W:World,(Instr.slice 25 (.slice (some ⟨b,0,none⟩) n c) (some (.int .i64 (i:Int))) none none).run Try.prog W = .ok (.slice (some ⟨b,i * 2,none⟩) (n-i) (c-i)) W:=fun W=>by
    rw[Xg (P:=Try.prog) 25 62 .i64 Try.underlying25 B 2 hsz (some ⟨b,0,none⟩) n c (i:Int) (by omega) (by omega) W,Int.toNat_natCast,if_neg (by omega),Option.map_some,Zw]
  have I:∀ W:World,(Instr.slice 25 (.slice (some ⟨b,0,none⟩) n c) none (some (.int .i64 (i:Int))) none).run Try.prog W = .ok (.slice (some ⟨b,0,none⟩) i c) W:=fun W=>by
    have hel:Try.prog.elem 25=62:=by simp[Program.elem,Try.underlying25]
    rw[run_slice_h W 25 (some ⟨b,0,none⟩) n c (by rw[hel];exact Try.underlying25) .i64 (i:Int) (by omega) (by omega),hel]
    simp[sizeOf,typeInfo,B,sliced,Result.andThen,Addr.add]
  have g3:∀ W:World,(Instr.slice 25 (.slice (some ⟨w.heap.size,0,none⟩) (n+1) G) (some (.int .i64 (i:Int))) none none).run Try.prog W = .ok (.slice (some ⟨w.heap.size,i * 2,none⟩) (n+1-i) (G-i)) W:=fun W=>by
    rw[Xg (P:=Try.prog) 25 62 .i64 Try.underlying25 B 2 hsz (some ⟨w.heap.size,0,none⟩) (n+1) G (i:Int) (by omega) (by omega) W,Int.toNat_natCast,if_neg (by omega),Option.map_some,Zw]
  have g4:∀ W:World,(Instr.slice 25 (.slice (some ⟨w.heap.size,0,none⟩) (n+1) G) (some (.int .i64 ((i:Int)+1))) none none).run Try.prog W = .ok (.slice (some ⟨w.heap.size,(i+1) * 2,none⟩) (n-i) (G - (i+1))) W:=fun W=>by
    rw[Xg (P:=Try.prog) 25 62 .i64 Try.underlying25 B 2 hsz (some ⟨w.heap.size,0,none⟩) (n+1) G ((i:Int)+1) (by omega) (by omega) W,show((i:Int)+1).toNat=i+1 from by omega,if_neg (by omega),Option.map_some,Zw,show n+1 - (i+1)=n-i from by omega]
  have hz2':¬ ((i:Int)=(n:Int)):=by omega
  have κ :(c:Int)<(n:Int)+1:=by omega
  have θ :IntKind.i64.wrap ((i:Int)+1)=(i:Int)+1:=by rw[IntKind.wrap_i64];omega
  have O:(0:Int)≤(i:Int)+1:=by omega
  clear hcpA hcpB hN hNf hOb hOv δ ε hkk hik hold hROW hG hRl J hcur hdl hdr htl htk B Y hsz L hh hcs ht hv hvs hvt
  go_enter Try.func60,Try.ntmps60
  go_wp2_with (first
    |(at_builtin;refine Lib.wpList_append_run _ rfl _ _ _ _ rfl _ _ rfl rfl _ _ (hrz _) ?_)
    |(at_builtin;refine wpList_copy_runI _ rfl _ _ 25 25 rfl (.slice (some ⟨w.heap.size,i * 2,none⟩) (n+1-i) (G-i)) (.slice (some ⟨vb,0,none⟩) 1 vc) rfl rfl U ?_))
  go_region_law (refine step_copy_runI rfl _ _ 25 25 rfl (.slice (some ⟨w.heap.size,(i+1) * 2,none⟩) (n-i) (G - (i+1))) (.slice (some ⟨b,i * 2,none⟩) (n-i) (c-i)) (by simp[Act.eval,Act.put]) (by simp[Act.eval,Act.put]) ζ ?_)
  go_wp2
  go_ret
  exact⟨rfl,rfl⟩
theorem Z6 {B g:Nat} {w0 w:World} (hb:Below B w0 w) (hg:B≤g):∀ (vs:List Value) (o:Nat) {w:World},Below B w0 w→Below B w0 (w.setCells g o vs)
  | [],_,_,h=>h
  |v :: r,o,_,h=>Z6 hb hg r (o+1) (h.setCell (p:=⟨g,o,none⟩) hg v)
theorem Gd (w:World) (g D B:Nat) (v1 v2:List Value):w.grownBy ((w.drew.setCells g D v1).setCells g B v2) (some g):=by
  obtain⟨L,O,X,Y⟩:=X8 g v1 D w.drew
  obtain⟨J,I,U,Z⟩:=X8 g v2 B (w.drew.setCells g D v1)
  exact⟨J.trans L,I.trans O,U.trans X,by rw[Z,Y];exact Nat.le_refl _,fun k _ hk=>(Yf _ _ k (fun he=>hk (by rw[he]))).trans (Yf (w:=w.drew) _ _ k (fun he=>hk (by rw[he])))⟩
theorem Jq {B:Nat} {w:World} (hB:B≤w.heap.size) (o:Obj):Below B w (w.alloc o):=(Below.refl B w).alloc hB o
set_option maxHeartbeats 4000000 in
set_option maxRecDepth 100000 in
theorem Ly (w:World) (base:Nat) (ok:Nat→Prop) (A:Option Addr) (c:Nat) (l:List S56) (x:S56) (vb vc:Nat) (curv:Array Value) (hbase:base≤w.heap.size) (hfresh:∀ k,w.heap.size≤k→ok k)
    (HO:Kd.R k56 56 w base ok (.slice A l.length c) l) (hnc:l.length≤c) (hl:l.length≤1000000000)
    (hv:w.heap[vb]?=some (.cells curv 56 (0,0))) (hvs:0<curv.size) (hvt:curv.toList.take 3=Xo x):
    Calls Try.prog 63 #[.slice A l.length c,.int .i64 (l.length:Int),.slice (some ⟨vb,0,none⟩) 1 vc] w fun e w'=>
      ∃ v1:Value,e = .returned v1∧Kd.R k56 56 w' base ok v1 (l ++ [x])∧Below base w w'∧w.grownBy w' (Value.slice A l.length c).ownBlock∧(v1.ownBlock=(Value.slice A l.length c).ownBlock ∨ ∃ b,v1.ownBlock=some b∧w.heap.size≤b):=by
  obtain⟨Z,B,Y,hsz,L⟩:=info_parts Yl
  obtain⟨sv,X⟩:∃ sv,∀ W:World,(Instr.slice 24 (.slice A l.length c) (some (.int .i64 (l.length:Int))) none none).run Try.prog W = .ok sv W:=⟨_,fun W=>Xg (P:=Try.prog) 24 56 .i64 Try.underlying24 B 3 hsz A l.length c (l.length:Int) (by omega) (by omega) W⟩
  have HR:Z9 (fun p cs=>cs=Xo p) 3 w (some ⟨vb,0,none⟩) 1 [x]:=by
    refine⟨rfl,by decide,fun _=>⟨_,rfl,fun j p hj=>⟨Xo p,rfl,rfl,fun q u hu=>?_⟩⟩⟩
    have J:j<1:=(List.getElem?_eq_some_iff.1 hj).1
    obtain rfl:j=0:=by omega
    obtain rfl:x=p:=by simpa using hj
    rw[Zw,Nat.zero_mul,Nat.zero_add,cell_of_row w vb q curv 56 (0,0) hv,← Array.getElem?_toList]
    rw[← hvt,List.getElem?_take] at hu
    split at hu
    · exact hu
    · cases hu
  go_enter Try.func63,Try.ntmps63
  go_wp2_with (at_builtin;refine Kd.Yo k56 (w0:=w) base rfl (.tmp 23) (.tmp 24) 24 56 (Value.agg #[(.int .i64 0),(.int .i64 0),(.int .i64 0)]) 24 rfl Try.underlying24 Yl rfl (by decide) (by decide) (.slice A l.length c) l [x] _ _ _ ok (fun _=>False) rfl rfl HO HR (fun _ _ h=>(X0.M _ _ _ _ _).2 h) (fun _ h=>h.elim) hfresh (Below.refl _ _) hbase (by omega) ?_)
  intro v1 w1 h1 O D I
  go_wp2
  go_ret
  exact⟨_,rfl,h1,O,D,I⟩
theorem U1 (w:World) (base:Nat) (ok:Nat→Prop) (A:Option Addr) (c:Nat) (l:List S56) (x:S56) (i:Int) (vb vc:Nat) (curv:Array Value) (hbase:base≤w.heap.size) (hfresh:∀ k,w.heap.size≤k→ok k)
    (HO:Kd.R k56 56 w base ok (.slice A l.length c) l) (hvb:∀ a,A=some a→vb≠a.block) (hl:l.length≤1000000000)
    (hv:w.heap[vb]?=some (.cells curv 56 (0,0))) (hvs:0<curv.size) (hvt:curv.toList.take 3=Xo x) (U:0≤i) (hi:i≤(l.length:Int)):
    Calls Try.prog 63 #[.slice A l.length c,.int .i64 i,.slice (some ⟨vb,0,none⟩) 1 vc] w fun e w'=>
      ∃ v1:Value,e = .returned v1∧Kd.R k56 56 w' base ok v1 (l.take i.toNat ++ [x]++l.drop i.toNat)∧Below base w w'∧w.grownBy w' (Value.slice A l.length c).ownBlock∧(v1.ownBlock=(Value.slice A l.length c).ownBlock ∨ ∃ b,v1.ownBlock=some b∧w.heap.size≤b):=by
  obtain⟨m,rfl⟩:∃ m:Nat,i=m:=⟨i.toNat,by omega⟩
  rw[Int.toNat_natCast]
  obtain⟨hq,ho⟩:=(Yh X0).1 HO
  have hlen:(l.take m ++ [x]++l.drop m).length=l.length+1:=by simp only[List.length_append,List.length_take,List.length_drop,List.length_cons,List.length_nil];omega
  have B:(k56).sz=3:=rfl
  rcases Nat.lt_or_ge m l.length with hlt|hge
  · rcases ho.2 with⟨_,hn⟩|⟨g,cap,cur,he,hb,hh,hnc,hcm,hcs,htake⟩
    · omega
    injection he with Y e2 J
    subst Y J
    have hne:vb≠g:=hvb _ rfl
    have htk:cur.toList.take (m * 3)=Zd Xo (l.take m):=by
      have:=Y2 X0 l m (by omega)
      rw[B] at this
      rw[← this,← htake,List.take_take,B,Nat.min_eq_left (Nat.mul_le_mul_right _ (by omega))]
    rcases Nat.lt_or_ge l.length c with hr|hr
    · refine(U0 g l.length c m vb vc l x w cur curv hlt (by omega) (by unfold maxLen at hcm;omega) hne rfl hh hcs htake hv hvs hvt).mono ?_
      rintro e w' ⟨he,hw⟩
      obtain⟨cur',c1,c2,c3⟩:=K4 X0 w.drew g m l.length cur l x hh rfl (by omega) (by rw[hcs];exact Nat.mul_le_mul_right _ (by omega)) (by rw[B];exact htk)
      rw[B] at c1 c3
      rw[← hw] at c1
      refine⟨_,he,(Yh X0).2 ⟨hq,by rw[Zv X0],.inr ⟨g,c,cur',by rw[hlen],hb,c1,by omega,hcm,by rw[c2,hcs],by rw[hlen];exact c3⟩⟩, ?_, ?_,.inl rfl⟩ <;> rw[hw]
      · exact Z6 (Below.refl _ w) hb _ _ (Z6 (Below.refl _ w) hb _ _ (Qf (Below.refl _ _)))
      · exact Gd _ _ _ _ _ _
    · have hce:c=l.length:=by omega
      refine(W0 g l.length c m vb vc l x w cur curv hlt (by omega) (by omega) hl hne rfl hh hcs htake hv hvs hvt).mono ?_
      rintro e w' ⟨he,hw⟩
      have γ:=grownCap_ge w (l.length+1) c 56
      have hGm:=grownCap_le_maxLen w (l.length+1) c 56 (by unfold maxLen;omega)
      obtain⟨G,hG⟩:∃ G,G=grownCap w (l.length+1) c 56:=⟨_,rfl⟩
      rw[← hG] at he hw γ hGm
      obtain⟨ROW,hROW⟩:∃ ROW:Array Value,ROW=(Zd Xo (l.take m)).toArray++Builtin.zeroCells (Value.agg #[(.int .i64 0),(.int .i64 0),(.int .i64 0)]).cells (l.length+1-m)++Builtin.zeroCells (Value.agg #[(.int .i64 0),(.int .i64 0),(.int .i64 0)]).cells (G - (l.length+1)):=⟨_,rfl⟩
      have htl:(Zd Xo (l.take m)).length=m * 3:=by rw[Zv X0,List.length_take,Nat.min_eq_left (by omega)];rfl
      have hRs:ROW.size=G * 3:=by
        rw[hROW]
        simp only[Array.size_append,size_zeroCells,List.size_toArray,htl]
        show m * 3+(l.length+1-m) * 3+(G - (l.length+1)) * 3=G * 3
        omega
      have hRt:ROW.toList.take (m * 3)=Zd Xo (l.take m):=by
        rw[hROW,Array.toList_append,Array.toList_append,List.append_assoc]
        exact List.take_left' htl
      rw[← hROW] at hw
      have hblk:(w.alloc (.cells ROW 56)).drew.heap[w.heap.size]?=some (.cells ROW 56 (0,0)):=by
        show(w.heap.push (.cells ROW 56))[w.heap.size]?=_
        exact Array.getElem?_push_size
      obtain⟨cur',c1,c2,c3⟩:=Gb X0 (w.alloc (.cells ROW 56)).drew w.heap.size m l.length ROW l x hblk rfl (by omega) (by rw[hRs];exact Nat.mul_le_mul_right _ γ) (by rw[B];exact hRt)
      rw[B] at c1 c3
      rw[← hw] at c1
      refine⟨_,he,(Yh X0).2 ⟨fun k hk=>hfresh k (by simp[Value.ownBlock] at hk;omega),by rw[Zv X0],.inr ⟨w.heap.size,G,cur',by rw[hlen],hbase,c1,by omega,hGm,by rw[c2,hRs];rfl,by rw[hlen];exact c3⟩⟩, ?_, ?_,.inr ⟨_,rfl,Nat.le_refl _⟩⟩ <;> rw[hw]
      · exact Z6 (Below.refl _ w) hbase _ _ (Qf (Z6 (Below.refl _ w) hbase _ _ (Qf (Jq hbase _))))
      · exact Y1 (Z6 (Below.refl _ w) (Nat.le_refl _) _ _ (Qf (Z6 (Below.refl _ w) (Nat.le_refl _) _ _ (Qf (Jq (Nat.le_refl _) _))))) _
  · have hme:m=l.length:=by omega
    subst hme
    rw[List.take_length,List.drop_length,List.append_nil]
    have hnc:l.length≤c:=by
      rcases ho.2 with⟨he,hn⟩|⟨g,cap,cur,he,hb,hh,hnc,_⟩
      · omega
      · injection he with Y e2 J;omega
    exact Ly w base ok A c l x vb vc curv hbase hfresh HO hnc hl hv hvs hvt
theorem Nz (w:World) (base:Nat) (okA okB:Nat→Prop) (v:Value) (l ys:List S56) (x:S56) (i:Int) (A:Option Addr) (c:Nat) (hys:ys = [x]) (hbase:base≤w.heap.size) (hfresh:∀ k,w.heap.size≤k→okA k)
    (HO:Kd.R k56 56 w base okA v l) (HL:Kd.R k56 56 w base okB (.slice A ys.length c) ys) (hne:∀ k,okA k→some k≠(Value.slice A ys.length c).ownBlock) (hl:l.length≤1000000000) (U:0≤i) (hi:i≤(l.length:Int)):
    Calls Try.prog 63 #[v,.int .i64 i,.slice A ys.length c] w fun e w'=>
      ∃ v1:Value,e = .returned v1∧Kd.R k56 56 w' base okA v1 (l.take i.toNat++ys++l.drop i.toNat)∧Below base w w'∧w.grownBy w' v.ownBlock∧(v1.ownBlock=v.ownBlock ∨ ∃ b,v1.ownBlock=some b∧w.heap.size≤b):=by
  subst hys
  obtain⟨qL,oL⟩:=(Yh X0).1 HL
  obtain⟨qO,oO⟩:=(Yh X0).1 HO
  rcases oL.2 with⟨_,hn⟩|⟨g,cap,cur,he,hb,hh,hnc,hcm,hcs,htake⟩
  · cases hn
  injection he with Y e2 J
  subst Y J
  obtain⟨A2,c2,rfl⟩:∃ A2 c2,v = .slice A2 l.length c2:=by
    rcases oO.2 with⟨he,hn⟩|⟨g,cap,cur,he,_⟩
    · exact⟨none,0,by rw[he,hn]⟩
    · exact⟨_,_,he⟩
  have B:∀ a,A2=some a→g≠a.block:=by
    rintro a rfl hga
    exact hne a.block (qO _ rfl) (by rw[← hga];rfl)
  exact U1 w base okA A2 c2 l x i g c cur hbase hfresh HO B hl hh (by rw[hcs];have h1c:1≤c:=hnc;exact Nat.mul_pos h1c (by decide)) (by rw[← show Zd Xo [x]=Xo x from List.append_nil _];exact htake) U hi
set_option maxHeartbeats 4000000 in
set_option maxRecDepth 100000 in
theorem Lx (w:World) (base:Nat) (ok:Nat→Prop) (A:Option Addr) (c:Nat) (l:List S62) (x:S62) (vb vc:Nat) (curv:Array Value) (hbase:base≤w.heap.size) (hfresh:∀ k,w.heap.size≤k→ok k)
    (HO:Kd.R k62 62 w base ok (.slice A l.length c) l) (hnc:l.length≤c) (hl:l.length≤1000000000)
    (hv:w.heap[vb]?=some (.cells curv 62 (0,0))) (hvs:0<curv.size) (hvt:curv.toList.take 2=encI x):
    Calls Try.prog 60 #[.slice A l.length c,.int .i64 (l.length:Int),.slice (some ⟨vb,0,none⟩) 1 vc] w fun e w'=>
      ∃ v1:Value,e = .returned v1∧Kd.R k62 62 w' base ok v1 (l ++ [x])∧Below base w w'∧w.grownBy w' (Value.slice A l.length c).ownBlock∧(v1.ownBlock=(Value.slice A l.length c).ownBlock ∨ ∃ b,v1.ownBlock=some b∧w.heap.size≤b):=by
  obtain⟨Z,B,Y,hsz,L⟩:=info_parts J0
  obtain⟨sv,X⟩:∃ sv,∀ W:World,(Instr.slice 25 (.slice A l.length c) (some (.int .i64 (l.length:Int))) none none).run Try.prog W = .ok sv W:=⟨_,fun W=>Xg (P:=Try.prog) 25 62 .i64 Try.underlying25 B 2 hsz A l.length c (l.length:Int) (by omega) (by omega) W⟩
  have HR:Z9 (fun p cs=>cs=encI p) 2 w (some ⟨vb,0,none⟩) 1 [x]:=by
    refine⟨rfl,by decide,fun _=>⟨_,rfl,fun j p hj=>⟨encI p,rfl,rfl,fun q u hu=>?_⟩⟩⟩
    have J:j<1:=(List.getElem?_eq_some_iff.1 hj).1
    obtain rfl:j=0:=by omega
    obtain rfl:x=p:=by simpa using hj
    rw[Zw,Nat.zero_mul,Nat.zero_add,cell_of_row w vb q curv 62 (0,0) hv,← Array.getElem?_toList]
    rw[← hvt,List.getElem?_take] at hu
    split at hu
    · exact hu
    · cases hu
  go_enter Try.func60,Try.ntmps60
  go_wp2_with (at_builtin;refine Kd.Yo k62 (w0:=w) base rfl (.tmp 23) (.tmp 24) 25 62 (Value.agg #[(.int .i64 0),(.int .i64 0)]) 16 rfl Try.underlying25 J0 rfl (by decide) (by decide) (.slice A l.length c) l [x] _ _ _ ok (fun _=>False) rfl rfl HO HR (fun _ _ h=>(Xz.M _ _ _ _ _).2 h) (fun _ h=>h.elim) hfresh (Below.refl _ _) hbase (by omega) ?_)
  intro v1 w1 h1 O D I
  go_wp2
  go_ret
  exact⟨_,rfl,h1,O,D,I⟩
theorem Uz (w:World) (base:Nat) (ok:Nat→Prop) (A:Option Addr) (c:Nat) (l:List S62) (x:S62) (i:Int) (vb vc:Nat) (curv:Array Value) (hbase:base≤w.heap.size) (hfresh:∀ k,w.heap.size≤k→ok k)
    (HO:Kd.R k62 62 w base ok (.slice A l.length c) l) (hvb:∀ a,A=some a→vb≠a.block) (hl:l.length≤1000000000)
    (hv:w.heap[vb]?=some (.cells curv 62 (0,0))) (hvs:0<curv.size) (hvt:curv.toList.take 2=encI x) (U:0≤i) (hi:i≤(l.length:Int)):
    Calls Try.prog 60 #[.slice A l.length c,.int .i64 i,.slice (some ⟨vb,0,none⟩) 1 vc] w fun e w'=>
      ∃ v1:Value,e = .returned v1∧Kd.R k62 62 w' base ok v1 (l.take i.toNat ++ [x]++l.drop i.toNat)∧Below base w w'∧w.grownBy w' (Value.slice A l.length c).ownBlock∧(v1.ownBlock=(Value.slice A l.length c).ownBlock ∨ ∃ b,v1.ownBlock=some b∧w.heap.size≤b):=by
  obtain⟨m,rfl⟩:∃ m:Nat,i=m:=⟨i.toNat,by omega⟩
  rw[Int.toNat_natCast]
  obtain⟨hq,ho⟩:=(Yh Xz).1 HO
  have hlen:(l.take m ++ [x]++l.drop m).length=l.length+1:=by simp only[List.length_append,List.length_take,List.length_drop,List.length_cons,List.length_nil];omega
  have B:(k62).sz=2:=rfl
  rcases Nat.lt_or_ge m l.length with hlt|hge
  · rcases ho.2 with⟨_,hn⟩|⟨g,cap,cur,he,hb,hh,hnc,hcm,hcs,htake⟩
    · omega
    injection he with Y e2 J
    subst Y J
    have hne:vb≠g:=hvb _ rfl
    have htk:cur.toList.take (m * 2)=Zd encI (l.take m):=by
      have:=Y2 Xz l m (by omega)
      rw[B] at this
      rw[← this,← htake,List.take_take,B,Nat.min_eq_left (Nat.mul_le_mul_right _ (by omega))]
    rcases Nat.lt_or_ge l.length c with hr|hr
    · refine(Uy g l.length c m vb vc l x w cur curv hlt (by omega) (by unfold maxLen at hcm;omega) hne rfl hh hcs htake hv hvs hvt).mono ?_
      rintro e w' ⟨he,hw⟩
      obtain⟨cur',c1,c2,c3⟩:=K4 Xz w.drew g m l.length cur l x hh rfl (by omega) (by rw[hcs];exact Nat.mul_le_mul_right _ (by omega)) (by rw[B];exact htk)
      rw[B] at c1 c3
      rw[← hw] at c1
      refine⟨_,he,(Yh Xz).2 ⟨hq,by rw[Zv Xz],.inr ⟨g,c,cur',by rw[hlen],hb,c1,by omega,hcm,by rw[c2,hcs],by rw[hlen];exact c3⟩⟩, ?_, ?_,.inl rfl⟩ <;> rw[hw]
      · exact Z6 (Below.refl _ w) hb _ _ (Z6 (Below.refl _ w) hb _ _ (Qf (Below.refl _ _)))
      · exact Gd _ _ _ _ _ _
    · have hce:c=l.length:=by omega
      refine(Wz g l.length c m vb vc l x w cur curv hlt (by omega) (by omega) hl hne rfl hh hcs htake hv hvs hvt).mono ?_
      rintro e w' ⟨he,hw⟩
      have γ:=grownCap_ge w (l.length+1) c 62
      have hGm:=grownCap_le_maxLen w (l.length+1) c 62 (by unfold maxLen;omega)
      obtain⟨G,hG⟩:∃ G,G=grownCap w (l.length+1) c 62:=⟨_,rfl⟩
      rw[← hG] at he hw γ hGm
      obtain⟨ROW,hROW⟩:∃ ROW:Array Value,ROW=(Zd encI (l.take m)).toArray++Builtin.zeroCells (Value.agg #[(.int .i64 0),(.int .i64 0)]).cells (l.length+1-m)++Builtin.zeroCells (Value.agg #[(.int .i64 0),(.int .i64 0)]).cells (G - (l.length+1)):=⟨_,rfl⟩
      have htl:(Zd encI (l.take m)).length=m * 2:=by rw[Zv Xz,List.length_take,Nat.min_eq_left (by omega)];rfl
      have hRs:ROW.size=G * 2:=by
        rw[hROW]
        simp only[Array.size_append,size_zeroCells,List.size_toArray,htl]
        show m * 2+(l.length+1-m) * 2+(G - (l.length+1)) * 2=G * 2
        omega
      have hRt:ROW.toList.take (m * 2)=Zd encI (l.take m):=by
        rw[hROW,Array.toList_append,Array.toList_append,List.append_assoc]
        exact List.take_left' htl
      rw[← hROW] at hw
      have hblk:(w.alloc (.cells ROW 62)).drew.heap[w.heap.size]?=some (.cells ROW 62 (0,0)):=by
        show(w.heap.push (.cells ROW 62))[w.heap.size]?=_
        exact Array.getElem?_push_size
      obtain⟨cur',c1,c2,c3⟩:=Gb Xz (w.alloc (.cells ROW 62)).drew w.heap.size m l.length ROW l x hblk rfl (by omega) (by rw[hRs];exact Nat.mul_le_mul_right _ γ) (by rw[B];exact hRt)
      rw[B] at c1 c3
      rw[← hw] at c1
      refine⟨_,he,(Yh Xz).2 ⟨fun k hk=>hfresh k (by simp[Value.ownBlock] at hk;omega),by rw[Zv Xz],.inr ⟨w.heap.size,G,cur',by rw[hlen],hbase,c1,by omega,hGm,by rw[c2,hRs];rfl,by rw[hlen];exact c3⟩⟩, ?_, ?_,.inr ⟨_,rfl,Nat.le_refl _⟩⟩ <;> rw[hw]
      · exact Z6 (Below.refl _ w) hbase _ _ (Qf (Z6 (Below.refl _ w) hbase _ _ (Qf (Jq hbase _))))
      · exact Y1 (Z6 (Below.refl _ w) (Nat.le_refl _) _ _ (Qf (Z6 (Below.refl _ w) (Nat.le_refl _) _ _ (Qf (Jq (Nat.le_refl _) _))))) _
  · have hme:m=l.length:=by omega
    subst hme
    rw[List.take_length,List.drop_length,List.append_nil]
    have hnc:l.length≤c:=by
      rcases ho.2 with⟨he,hn⟩|⟨g,cap,cur,he,hb,hh,hnc,_⟩
      · omega
      · injection he with Y e2 J;omega
    exact Lx w base ok A c l x vb vc curv hbase hfresh HO hnc hl hv hvs hvt
theorem Ny (w:World) (base:Nat) (okA okB:Nat→Prop) (v:Value) (l ys:List S62) (x:S62) (i:Int) (A:Option Addr) (c:Nat) (hys:ys = [x]) (hbase:base≤w.heap.size) (hfresh:∀ k,w.heap.size≤k→okA k)
    (HO:Kd.R k62 62 w base okA v l) (HL:Kd.R k62 62 w base okB (.slice A ys.length c) ys) (hne:∀ k,okA k→some k≠(Value.slice A ys.length c).ownBlock) (hl:l.length≤1000000000) (U:0≤i) (hi:i≤(l.length:Int)):
    Calls Try.prog 60 #[v,.int .i64 i,.slice A ys.length c] w fun e w'=>
      ∃ v1:Value,e = .returned v1∧Kd.R k62 62 w' base okA v1 (l.take i.toNat++ys++l.drop i.toNat)∧Below base w w'∧w.grownBy w' v.ownBlock∧(v1.ownBlock=v.ownBlock ∨ ∃ b,v1.ownBlock=some b∧w.heap.size≤b):=by
  subst hys
  obtain⟨qL,oL⟩:=(Yh Xz).1 HL
  obtain⟨qO,oO⟩:=(Yh Xz).1 HO
  rcases oL.2 with⟨_,hn⟩|⟨g,cap,cur,he,hb,hh,hnc,hcm,hcs,htake⟩
  · cases hn
  injection he with Y e2 J
  subst Y J
  obtain⟨A2,c2,rfl⟩:∃ A2 c2,v = .slice A2 l.length c2:=by
    rcases oO.2 with⟨he,hn⟩|⟨g,cap,cur,he,_⟩
    · exact⟨none,0,by rw[he,hn]⟩
    · exact⟨_,_,he⟩
  have B:∀ a,A2=some a→g≠a.block:=by
    rintro a rfl hga
    exact hne a.block (qO _ rfl) (by rw[← hga];rfl)
  exact Uz w base okA A2 c2 l x i g c cur hbase hfresh HO B hl hh (by rw[hcs];have h1c:1≤c:=hnc;exact Nat.mul_pos h1c (by decide)) (by rw[← show Zd encI [x]=encI x from List.append_nil _];exact htake) U hi
end Go.Proofs.Ytjehhhlhalkieaa.C
namespace Go.Proofs.Ytjehhhlhalkieaa.C
open Go.RowKit Go.Proofs.YtjehhhlhalkieaaW.PrintWords Go.Proofs.YtjehhhlhalkieaaW.PrintLast Go.Proofs.YtjehhhlhalkieaaW.PrintMore
attribute [local go_sem] Z2 Z0 Xb Xa Zq Zp Z1 Zz
set_option linter.unusedVariables false
set_option linter.unusedSimpArgs false
def api_Hall_with.f (k:Nat) (I:List (S56)) (J:Int) (D:Int) (O:Int) (X:Int):Option ((List (S56))):=(api_Hall_62.f k I D O X J).bind fun θ =>(if θ.2=true then ((api_Hall_55.f I).bind fun ν =>(some ν)) else ((api_Hall_55.f I).bind fun τ =>((some (([(⟨D,O,X⟩:S56)]:List (S56)):List (S56))).bind fun B=>(if (τ.length+B.length<1000000000∧0 ≤ θ.1 ∧ θ.1≤(τ.length:Int)) then (some (τ.take θ.1.toNat++B ++ τ.drop θ.1.toNat)) else (none)))))
theorem api_Hall_with.mono:∀ I D a2 X J k,LeO (api_Hall_with.f k I D a2 X J) (api_Hall_with.f (k+1) I D a2 X J):=by
 intro I D a2 X J k
 unfold api_Hall_with.f
 repeat' first
   |(with_reducible exact api_Hall_62.mono _ _ _ _ _ _)
   |(with_reducible exact LeO.refl _)
   |(with_reducible exact LeO.none _)
   |(with_reducible refine LeO.ite ?_ ?_)
   |(with_reducible refine LeO.bind ?_ (fun _=>?_))
   |exact api_Hall_62.mono _ _ _ _ _ _
   |exact LeO.none _
   |refine LeO.ite ?_ ?_
   |refine LeO.bind ?_ (fun _=>?_)
def api_Hall_with.T4:Bool×List (List Nat×List Nat):=(true,[([],[]),([0],[0]),([1],[1]),([],[]),([],[]),([4],[4]),([2,3,5,2],[2,3,5]),([6,6,0,1,2,3,4,5,6],[6])])
def api_Hall_with.B4:List Nat:=[0,1,3,0,0,16,63,127]
theorem api_Hall_with.Gn:rtab .any (opsOf Try.f35 4)=api_Hall_with.T4:=by kernel_rfl
theorem api_Hall_with.J1:Zr api_Hall_with.T4.2 api_Hall_with.B4=true:=by kernel_rfl
set_option maxHeartbeats 8000000 in
set_option maxRecDepth 100000 in
theorem api_Hall_with.calls (k:Nat) (μ :Option Addr) (ζ :Nat) (I:List (S56)) (J:Int) (D:Int) (O:Int) (X:Int) (r:List (S56)) (w:World) (a5:Kd.C k56 w μ I.length I) (a6:I.length ≤ ζ) (h:api_Hall_with.f k I J D O X=some r):
  Calls Try.prog 35 #[.agg #[.slice μ I.length ζ,.func (.func 51) #[] #[]],.agg #[.int .i64 D,.int .i64 O,.int .i64 X]] w fun e w'=>∃ a4:Value,e = .returned (a4)∧Kd.R k56 56 w' w.heap.size (fun _=>True) a4 r∧Below w.heap.size w w':=by
 have bw:=Try.underlying69
 have bq:=Try.underlying56
 have χ :=Aside0.mk a5
 have a7:=Aside0.mk a6
 clear a5 a6
 have HB:=Aside0.mk (Below.refl w.heap.size w)
 have H:((api_Hall_62.f k I D O X J).bind fun θ =>(if θ.2=true then ((api_Hall_55.f I).bind fun ν =>(some ν)) else ((api_Hall_55.f I).bind fun τ =>((some (([(⟨D,O,X⟩:S56)]:List (S56)):List (S56))).bind fun B=>(if (τ.length+B.length<1000000000∧0 ≤ θ.1 ∧ θ.1≤(τ.length:Int)) then (some (τ.take θ.1.toNat++B ++ τ.drop θ.1.toNat)) else (none))))))=some r:=h
 clear h
 replace H:=Option.bind_eq_some_iff.mp H
 obtain⟨⟨Z,η⟩,ae,H⟩:=H
 replace H:(if η = true then ((api_Hall_55.f I).bind fun ν =>(some ν)) else ((api_Hall_55.f I).bind fun τ =>((some (([(⟨D,O,X⟩:S56)]:List (S56)):List (S56))).bind fun B=>(if (τ.length+B.length<1000000000∧0≤Z∧Z≤(τ.length:Int)) then (some (τ.take Z.toNat++B ++ τ.drop Z.toNat)) else (none)))))=some r:=H
 have A3:=Aside0.mk ae
 clear ae
 by_cases c4: η = true
 ·subst c4
  have H1:((api_Hall_55.f I).bind fun ν =>(some ν))=some r:=by rw[if_pos rfl] at H;exact H
  clear H
  have H:=H1
  clear H1
  replace H:=Option.bind_eq_some_iff.mp H
  obtain⟨ν,ca,H⟩:=H
  replace H:(some ν)=some r:=H
  have A5:=Aside0.mk ca
  clear ca
  obtain rfl:=Option.some.inj H
  go_enter Try.func35,Try.ntmps35
  go_wp2_with (first|((with_reducible refine Qr (N:=2) rfl ?_);refine qE 2 #[.slice μ I.length ζ,.func (.func 51) #[] #[]] 69 ?_;intro δ hg w6 hbox hb;have L:=Aside0.mk hbox;have b6:=sGe hg;have b7:=sGe hg;replace HB:=sHb hb;clear hb hbox hg)|((with_reducible refine Qr (N:=3) rfl ?_);refine qE 3 #[.int .i64 D,.int .i64 O,.int .i64 X] 56 ?_;intro a2 hg w7 hbox hb;have Y:=Aside0.mk hbox;have bg:=sGe hg;have bs:=sGe hg;have a9:=sNl L hg;have ai:=sNg L hg;replace L:=sBk L hb;replace HB:=sHb hb;clear hb hbox hg;have bn:=a9.out;have br:=ai.out;obtain⟨bc,bh,bi,bj⟩:=qD2 L.out;obtain⟨am,au,ar,ba,bk,aw⟩:=qD3 Y.out)|((with_reducible refine Q0 (f:=62) rfl ?_);refine Zk (some 13) rfl rfl Try.func62 kr rfl #[.slice μ I.length ζ,.agg #[.int .i64 D,.int .i64 O,.int .i64 X],.func (.func 51) #[] #[]] rfl qM ?_;(with_reducible refine(api_Hall_62.calls k _ _ I D O X J Z true _ ?side1 ?side2 A3.out).mono ?_);(case side1=>exact(Kd.Qx χ.out HB.out));(case side2=>exact a7.out);rintro e e5 ⟨rfl,hb⟩;refine⟨_,rfl, ?_⟩;replace L:=sBk L hb;replace Y:=sBk Y hb;replace HB:=sHb hb;(try clear hb);(try clear a0);(try clear hk);(try clear hi);obtain⟨av,ax,ay,b0⟩:=qD2 L.out)|((with_reducible refine Q0 (f:=55) rfl ?_);refine Zk (some 19) rfl rfl Try.func55 kr rfl #[.slice μ I.length ζ] rfl qM ?_;(with_reducible refine(api_Hall_55.calls _ _ I ν _ ?side1 ?side2 A5.out).mono ?_);(case side1=>exact(Kd.Qx χ.out HB.out));(case side2=>exact a7.out);rintro e ed ⟨ch,rfl,φ,hb⟩;refine⟨_,rfl, ?_⟩;have bv:=Aside0.mk (Kd.Q2 (Kd.Zs φ (g:=a2) (o:=.cells #[.int .i64 D,.int .i64 O,.int .i64 X] 56 (0,0)) Y.out) (Qi HB.out));replace L:=sBk L hb;replace Y:=sBk Y hb;replace HB:=sHb hb;(try clear hb);(try clear a0);(try clear hk);(try clear hi);(try clear φ)))
  go_ret
  exact⟨_,rfl,by(with_reducible repeat first|apply Kd.Qk|apply Kd.Qj|apply Kd.Qn);exact Kd.Qq bv.out (fun _ hk=>trivial),HB.out⟩
 ·replace c4:=Bool.eq_false_iff.mpr c4
  subst c4
  have H1:((api_Hall_55.f I).bind fun τ =>((some (([(⟨D,O,X⟩:S56)]:List (S56)):List (S56))).bind fun B=>(if (τ.length+B.length<1000000000∧0≤Z∧Z≤(τ.length:Int)) then (some (τ.take Z.toNat++B ++ τ.drop Z.toNat)) else (none))))=some r:=by rw[if_neg (show ¬ (false=true) by decide)] at H;exact H
  clear H
  have H:=H1
  clear H1
  replace H:=Option.bind_eq_some_iff.mp H
  obtain⟨τ,ap,H⟩:=H
  replace H:((some (([(⟨D,O,X⟩:S56)]:List (S56)):List (S56))).bind fun B=>(if (τ.length+B.length<1000000000∧0≤Z∧Z≤(τ.length:Int)) then (some (τ.take Z.toNat++B ++ τ.drop Z.toNat)) else (none)))=some r:=H
  have b4:=Aside0.mk ap
  clear ap
  obtain⟨B,ak⟩:∃ y_:List (S56),y_=(([(⟨D,O,X⟩:S56)]:List (S56))):=⟨_,rfl⟩
  replace H:(if (τ.length+B.length<1000000000∧0≤Z∧Z≤(τ.length:Int)) then (some (τ.take Z.toNat++B ++ τ.drop Z.toNat)) else (none))=some r:=by first|(rw[ak];with_reducible exact H)|(have ρ:=(Option.bind_some _ _).symm.trans H;rw[ak];with_reducible exact ρ)|(have ρ:=(Option.bind_some _ _).symm.trans H;with_reducible exact ρ)|with_reducible exact H|(rw[ak];exact H)|exact H
  have al:=Aside0.mk ak
  clear ak
  by_cases a8:(τ.length+B.length<1000000000∧0≤Z∧Z≤(τ.length:Int))
  ·rw[if_pos a8] at H
   have ah:=Aside0.mk a8
   clear a8
   obtain⟨cf,an⟩:∃ y_:List (S56),y_=(τ.take Z.toNat++B ++ τ.drop Z.toNat):=⟨_,rfl⟩
   replace H:(some cf)=some r:=by first|(rw[an];with_reducible exact H)|(have ρ:=(Option.bind_some _ _).symm.trans H;rw[an];with_reducible exact ρ)|(have ρ:=(Option.bind_some _ _).symm.trans H;with_reducible exact ρ)|with_reducible exact H|(rw[an];exact H)|exact H
   have cd:=Aside0.mk an
   clear an
   obtain rfl:=Option.some.inj H
   go_enter Try.func35,Try.ntmps35
   try go_wp2_with (first|((with_reducible refine Qr (N:=2) rfl ?_);refine qE 2 #[.slice μ I.length ζ,.func (.func 51) #[] #[]] 69 ?_;intro δ hg af hbox hb;have L:=Aside0.mk hbox;have b6:=sGe hg;have b7:=sGe hg;replace HB:=sHb hb;clear hb hbox hg)|((with_reducible refine Qr (N:=3) rfl ?_);refine qE 3 #[.int .i64 D,.int .i64 O,.int .i64 X] 56 ?_;intro a2 hg gb hbox hb;have Y:=Aside0.mk hbox;have bg:=sGe hg;have bs:=sGe hg;have a9:=sNl L hg;have ai:=sNg L hg;replace L:=sBk L hb;replace HB:=sHb hb;clear hb hbox hg;have cb:=a9.out;have cg:=ai.out;obtain⟨b1,b2,b3,b8⟩:=qD2 L.out;obtain⟨b9,bb,bd,be,bf,bz⟩:=qD3 Y.out)|((with_reducible refine Q0 (f:=62) rfl ?_);refine Zk (some 13) rfl rfl Try.func62 kr rfl #[.slice μ I.length ζ,.agg #[.int .i64 D,.int .i64 O,.int .i64 X],.func (.func 51) #[] #[]] rfl qM ?_;(with_reducible refine(api_Hall_62.calls k _ _ I D O X J Z false _ ?side1 ?side2 A3.out).mono ?_);(case side1=>exact(Kd.Qx χ.out HB.out));(case side2=>exact a7.out);rintro e bo ⟨rfl,hb⟩;refine⟨_,rfl, ?_⟩;replace L:=sBk L hb;replace Y:=sBk Y hb;replace HB:=sHb hb;(try clear hb);(try clear a0);(try clear hk);(try clear hi)))
   replace L:=Aside0.mk (Qa L.out)
   replace Y:=Aside0.mk (Qa Y.out)
   replace HB:=Aside0.mk (Qf HB.out)
   refine Zn (n:=8) (S:=fun w'=>w'.cell? ⟨δ,0,none⟩=some (.slice μ I.length ζ)∧w'.cell? ⟨δ,1,none⟩=some (.func (.func 51) #[] #[])∧w'.cell? ⟨a2,0,none⟩=some (.int .i64 D)∧w'.cell? ⟨a2,1,none⟩=some (.int .i64 O)∧w'.cell? ⟨a2,2,none⟩=some (.int .i64 X)) (ds:=[]) #[false,false,false,false,false,false,false,false] kr rfl rfl ⟨(Ql L.out 0).trans rfl,(Ql L.out 1).trans rfl,(Ql Y.out 0).trans rfl,(Ql Y.out 1).trans rfl,(Ql Y.out 2).trans rfl⟩ (fun hHeld=>?_);refine Q8 api_Hall_with.Gn api_Hall_with.J1 (fun HT_ HW_=>?_)
   generalize bo.drew=du at L Y HB hHeld ⊢
   refine qP 0 (some 20) (bN 8 1) HT_ ?_
   refine qP 3 (some 23) (bN 8 9) HT_ ?_
   refine qT 1 (some 21) (bN 8 11) HT_ HW_ hHeld ?_
   refine qT 4 (some 24) (bN 8 27) HT_ HW_ hHeld ?_
   refine K9 (σ:=Value×Value) 2 (bN 8 63) (fun s_=>[(22,s_.1),(25,s_.2)]) (fun s_ w'=>(w'.cell? ⟨δ,0,none⟩=some (.slice μ I.length ζ)∧w'.cell? ⟨δ,1,none⟩=some (.func (.func 51) #[] #[])∧w'.cell? ⟨a2,0,none⟩=some (.int .i64 D)∧w'.cell? ⟨a2,1,none⟩=some (.int .i64 O)∧w'.cell? ⟨a2,2,none⟩=some (.int .i64 X))∧(Kd.R k56 56 w' w.heap.size (fun k_=>some k_≠(s_.2:Value).ownBlock∧k_≠a2) s_.1 τ)∧(Kd.R k56 56 w' w.heap.size (fun k_=>some k_≠(s_.1:Value).ownBlock∧k_≠a2) s_.2 B)∧(w'.heap[δ]?=some (.cells #[.slice μ I.length ζ,.func (.func 51) #[] #[]] 69 (0,0)))∧(w'.heap[a2]?=some (.cells #[.int .i64 D,.int .i64 O,.int .i64 X] 56 (0,0)))∧(Below w.heap.size w w')) ?_ ?_
   rotate_left
   ·intro hCont
    refine Kj (i:=2) (j:=5) (Ni:=some 22) (Nj:=some 25) (bN 8 31) (bN 8 59) rfl rfl rfl rfl (Ye HT_.out kr) (by decide) (by decide) (fun K hK=>?_) (fun K hK=>?_)
    ·skip
     refine Ze Try.func55 kr rfl #[.slice μ I.length ζ] (by rfl) rfl rfl qM ?_
     with_reducible refine(api_Hall_55.calls _ _ I τ _ ?side1 ?side2 b4.out).mono ?_
     (case side1=>exact(Kd.Qx χ.out HB.out))
     (case side2=>exact a7.out)
     rintro e dq ⟨aj,rfl,φ,hb⟩
     refine⟨_,rfl, ?_⟩
     have a1:=Aside0.mk (Kd.Q2 (Kd.Zs φ (g:=a2) (o:=.cells #[.int .i64 D,.int .i64 O,.int .i64 X] 56 (0,0)) Y.out) (Qi HB.out))
     replace L:=sBk L hb
     replace Y:=sBk Y hb
     replace HB:=sHb hb
     (try clear hb)
     (try clear a0)
     (try clear hk)
     (try clear hi)
     (try clear φ)
     refine hK.out _ _ ⟨qc L,qc L,qc Y,qc Y,qc Y⟩ (fun hHeld=>?_)
     clear hK K
     refine qN (some 22) ?_
     refine Zg (i:=5) (N:=some 25) (bN 8 63) rfl rfl (Q1 HT_.out kr) (by decide) (fun K hK=>?_)
     refine Kd.Xl k56 _ 56 ?hg (N:=25) ?hd (xs:=([(⟨D,O,X⟩:S56)]:List (S56))) (inner:=[.int .i64 D,.int .i64 O,.int .i64 X]) (ok:=fun _=>True) (okp:=fun _=>True) ?hr ?hp (fun _ hk=>hk) trivial (Below.refl _ _) (Nat.le_refl _) (by simp) ?_;(case hd=>rfl);(case hg=>rfl);(case hr=>go_simp <;> rfl);(case hp=>exact(Reps.c3 (show Kd.M k56 _ _ _ (⟨D,O,X⟩:S56) [.int .i64 D,.int .i64 O,.int .i64 X] from(Yg _ _ _ (⟨D,O,X⟩:S56))) (Reps.none _ _)))
     intro ao bu a3 hb hg_ hnew_
     clear hg_ hnew_
     (first|rw[← al.out] at a3|(simp only[Int.reduceToNat] at a3;rw[← al.out] at a3))
     have ε :=Aside0.mk (Kd.Q2 (Kd.Zs (Kd.Zl a3 (Kd.Zy a1.out)) (g:=a2) (o:=.cells #[.int .i64 D,.int .i64 O,.int .i64 X] 56 (0,0)) Y.out) (Qi HB.out))
     replace a1:=Aside0.mk (Kd.Q7 a1.out (Kd.Zh a3) hb)
     replace L:=sBk L hb
     replace Y:=sBk Y hb
     replace HB:=sHb hb
     clear hb a3
     refine hK.out _ _ ⟨qc L,qc L,qc Y,qc Y,qc Y⟩ (fun hHeld=>?_)
     clear hK K
     refine qN (some 25) ?_
     exact Xj (by simp only[Zx,Act.put,qS]) (hCont (aj,ao) _ ⟨hHeld,(by(with_reducible repeat first|apply Kd.Qk|apply Kd.Qj|apply Kd.Qn);exact Kd.Qq a1.out (fun _ hk=>⟨hk.2,hk.1.2⟩)),(by(with_reducible repeat first|apply Kd.Qk|apply Kd.Qj|apply Kd.Qn);exact Kd.Qq ε.out (fun _ hk=>⟨hk.1.2,hk.2⟩)),L.out,Y.out,HB.out⟩)
    ·skip
     refine Kd.Xl k56 _ 56 ?hg (N:=25) ?hd (xs:=([(⟨D,O,X⟩:S56)]:List (S56))) (inner:=[.int .i64 D,.int .i64 O,.int .i64 X]) (ok:=fun _=>True) (okp:=fun _=>True) ?hr ?hp (fun _ hk=>hk) trivial (Below.refl _ _) (Nat.le_refl _) (by simp) ?_;(case hd=>rfl);(case hg=>rfl);(case hr=>go_simp <;> rfl);(case hp=>exact(Reps.c3 (show Kd.M k56 _ _ _ (⟨D,O,X⟩:S56) [.int .i64 D,.int .i64 O,.int .i64 X] from(Yg _ _ _ (⟨D,O,X⟩:S56))) (Reps.none _ _)))
     intro ao dq ag hb hg_ hnew_
     clear hg_ hnew_
     (first|rw[← al.out] at ag|(simp only[Int.reduceToNat] at ag;rw[← al.out] at ag))
     have ε :=Aside0.mk (Kd.Q2 (Kd.Zs ag (g:=a2) (o:=.cells #[.int .i64 D,.int .i64 O,.int .i64 X] 56 (0,0)) Y.out) (Qi HB.out))
     replace L:=sBk L hb
     replace Y:=sBk Y hb
     replace HB:=sHb hb
     clear hb ag
     refine hK.out _ _ ⟨qc L,qc L,qc Y,qc Y,qc Y⟩ (fun hHeld=>?_)
     clear hK K
     refine qN (some 25) ?_
     refine Zg (i:=2) (N:=some 22) (bN 8 63) rfl rfl (Q1 HT_.out kr) (by decide) (fun K hK=>?_)
     refine Ze Try.func55 kr rfl #[.slice μ I.length ζ] (by rfl) rfl rfl qM ?_
     with_reducible refine(api_Hall_55.calls _ _ I τ _ ?side1 ?side2 b4.out).mono ?_
     (case side1=>exact(Kd.Qx χ.out HB.out))
     (case side2=>exact a7.out)
     rintro e ci ⟨aj,rfl,φ,hb⟩
     refine⟨_,rfl, ?_⟩
     have a1:=Aside0.mk (Kd.Q2 (Kd.Zs (Kd.Zl φ (Kd.Zy ε.out)) (g:=a2) (o:=.cells #[.int .i64 D,.int .i64 O,.int .i64 X] 56 (0,0)) Y.out) (Qi HB.out))
     replace ε :=Aside0.mk (Kd.Q7 ε.out (Kd.Zh φ) hb)
     replace L:=sBk L hb
     replace Y:=sBk Y hb
     replace HB:=sHb hb
     (try clear hb)
     (try clear a0)
     (try clear hk)
     (try clear hi)
     (try clear φ)
     refine hK.out _ _ ⟨qc L,qc L,qc Y,qc Y,qc Y⟩ (fun hHeld=>?_)
     clear hK K
     refine qN (some 22) ?_
     exact Xj (by simp only[Zx,Act.put,qS]) (hCont (aj,ao) _ ⟨hHeld,(by(with_reducible repeat first|apply Kd.Qk|apply Kd.Qj|apply Kd.Qn);exact Kd.Qq a1.out (fun _ hk=>⟨hk.1.2,hk.2⟩)),(by(with_reducible repeat first|apply Kd.Qk|apply Kd.Qj|apply Kd.Qn);exact Kd.Qq ε.out (fun _ hk=>⟨hk.2,hk.1.2⟩)),L.out,Y.out,HB.out⟩)
   rintro⟨aj,ao⟩ bp ⟨hS_,cj,ck,cm,cn,co⟩
   have U:Aside0 (Kd.R k56 56 bp w.heap.size (fun k_=>some k_≠(ao:Value).ownBlock∧k_≠a2) aj τ):=⟨cj⟩
   have γ:Aside0 (Kd.R k56 56 bp w.heap.size (fun k_=>some k_≠(aj:Value).ownBlock∧k_≠a2) ao B):=⟨ck⟩
   have ι :Aside0 (bp.heap[δ]?=some (.cells #[.slice μ I.length ζ,.func (.func 51) #[] #[]] 69 (0,0))):=⟨cm⟩
   have κ :Aside0 (bp.heap[a2]?=some (.cells #[.int .i64 D,.int .i64 O,.int .i64 X] 56 (0,0))):=⟨cn⟩
   have ξ :Aside0 (Below w.heap.size w bp):=⟨co⟩
   clear L
   clear Y
   clear HB
   clear cj ck cm cn co
   have a1:=U
   have ε :=γ
   have L:= ι
   have Y:= κ
   have HB:= ξ
   clear U γ ι κ ξ
   have hHeld:bp.cell? ⟨δ,0,none⟩=some (.slice μ I.length ζ)∧bp.cell? ⟨δ,1,none⟩=some (.func (.func 51) #[] #[])∧bp.cell? ⟨a2,0,none⟩=some (.int .i64 D)∧bp.cell? ⟨a2,1,none⟩=some (.int .i64 O)∧bp.cell? ⟨a2,2,none⟩=some (.int .i64 X):=hS_
   obtain⟨az,bl,bm⟩:=Kd.Q4 ε.out
   (first|subst bm|(injection bm with ψ aa ω;have ab:= ψ.symm;have ac:= ω.symm;clear ψ aa ω;subst ab;subst ac))
   refine Xj (a':=?_) ?_ ?_
   rotate_left
   ·simp only[Zx,Act.put,qS]
    rfl
   refine Zg (i:=6) (N:=some 26) (bN 8 127) rfl rfl (Q1 HT_.out kr) (by decide) (fun K hK=>?_)
   refine Ze Try.func63 kr rfl #[aj,.int .i64 Z,.slice az B.length bl] (by rfl) rfl rfl qM ?_
   refine(Nz _ w.heap.size (fun k_=>some k_≠(.slice az B.length bl:Value).ownBlock∧k_≠a2) _ aj τ B _ Z az bl al.out ?aS ?aF ?aO ε.out ?aN (by have h_:=ah.out;omega) (by have h_:=ah.out;omega) (by have h_:=ah.out;omega)).mono ?_
   (case aS=>exact(Qi HB.out))
   (case aF=>exact(fun k_ hk=>⟨Kd.fresh' (Kd.Zy ε.out) k_ hk,Kd.Yr (g:=a2) (o:=.cells #[.int .i64 D,.int .i64 O,.int .i64 X] 56 (0,0)) Y.out k_ hk⟩))
   (case aO=>exact a1.out)
   (case aN=>exact fun k_ hk=>hk.1)
   rintro e ez ⟨cp,rfl,ho,b5,hg,hat⟩
   refine⟨_,rfl, ?_⟩
   have hb:=HB.out.trans b5
   rw[← cd.out] at ho
   have ce:=Aside0.mk ho
   replace L:=Aside0.mk (Zb (g:= δ) (o:=.cells #[.slice μ I.length ζ,.func (.func 51) #[] #[]] 69 (0,0)) L.out hg (Kd.X1 a1.out L.out (by decide)))
   replace Y:=Aside0.mk (Zb (g:=a2) (o:=.cells #[.int .i64 D,.int .i64 O,.int .i64 X] 56 (0,0)) Y.out hg (Kd.Y4 a1.out (fun _ hk=>hk.2)))
   replace ε :=Aside0.mk (Kd.J8 (ok:=(fun k_=>k_≠a2)) (by(with_reducible repeat first|apply Kd.Qk|apply Kd.Qj|apply Kd.Qn);exact Kd.Qq ε.out (fun _ hk=>⟨hk.2,hk.1⟩)) hg hat)
   replace HB:=Aside0.mk hb
   clear a1
   clear ho hb hg hat
   refine hK.out _ _ ⟨qc L,qc L,qc Y,qc Y,qc Y⟩ (fun hHeld=>?_)
   clear hK K
   refine qN (some 26) ?_
   refine qP 7 (some 4) (bN 8 255) HT_ ?_
   refine Zu (Zj HT_.out kr) ?_
   try go_wp2
   go_ret
   exact⟨_,rfl,by(with_reducible repeat first|apply Kd.Qk|apply Kd.Qj|apply Kd.Qn);exact Kd.Qq ce.out (fun _ hk=>trivial),HB.out⟩
  ·rw[if_neg a8] at H
   exact absurd H (by simp)
def api_Inside_with.f (k:Nat) (I:List (S62)) (J:Int) (D:Int) (O:Int):Option ((List (S62))):=(api_Inside_58.f k I D O J).bind fun η =>(if η.2=true then ((api_Inside_59.f I).bind fun bg=>(some bg)) else ((api_Inside_59.f I).bind fun X=>((some (([(⟨D,O⟩:S62)]:List (S62)):List (S62))).bind fun Z=>(if (X.length+Z.length<1000000000∧0 ≤ η.1 ∧ η.1≤(X.length:Int)) then (some (X.take η.1.toNat++Z++X.drop η.1.toNat)) else (none)))))
theorem api_Inside_with.mono:∀ I D a2 X k,LeO (api_Inside_with.f k I D a2 X) (api_Inside_with.f (k+1) I D a2 X):=by
 intro I D a2 X k
 unfold api_Inside_with.f
 repeat' first
   |(with_reducible exact api_Inside_58.mono _ _ _ _ _)
   |(with_reducible exact LeO.refl _)
   |(with_reducible exact LeO.none _)
   |(with_reducible refine LeO.ite ?_ ?_)
   |(with_reducible refine LeO.bind ?_ (fun _=>?_))
   |exact api_Inside_58.mono _ _ _ _ _
   |exact LeO.none _
   |refine LeO.ite ?_ ?_
   |refine LeO.bind ?_ (fun _=>?_)
def api_Inside_with.T4:Bool×List (List Nat×List Nat):=(true,[([],[]),([0],[0]),([1],[1]),([],[]),([],[]),([4],[4]),([2,3,5,2],[2,3,5]),([6,6,0,1,2,3,4,5,6],[6])])
def api_Inside_with.B4:List Nat:=[0,1,3,0,0,16,63,127]
theorem api_Inside_with.Gn:rtab .any (opsOf Try.f33 4)=api_Inside_with.T4:=by kernel_rfl
theorem api_Inside_with.J1:Zr api_Inside_with.T4.2 api_Inside_with.B4=true:=by kernel_rfl
set_option maxHeartbeats 8000000 in
set_option maxRecDepth 100000 in
theorem api_Inside_with.calls (k:Nat) (μ :Option Addr) (ζ :Nat) (I:List (S62)) (J:Int) (D:Int) (O:Int) (r:List (S62)) (w:World) (a5:Kd.C k62 w μ I.length I) (a6:I.length ≤ ζ) (h:api_Inside_with.f k I J D O=some r):
  Calls Try.prog 33 #[.agg #[.slice μ I.length ζ,.func (.func 57) #[] #[]],.agg #[.int .i64 D,.int .i64 O]] w fun e w'=>∃ a4:Value,e = .returned (a4)∧Kd.R k62 62 w' w.heap.size (fun _=>True) a4 r∧Below w.heap.size w w':=by
 have bs:=Try.underlying74
 have bd:=Try.underlying62
 have χ :=Aside0.mk a5
 have a7:=Aside0.mk a6
 clear a5 a6
 have HB:=Aside0.mk (Below.refl w.heap.size w)
 have H:((api_Inside_58.f k I D O J).bind fun η =>(if η.2=true then ((api_Inside_59.f I).bind fun bg=>(some bg)) else ((api_Inside_59.f I).bind fun X=>((some (([(⟨D,O⟩:S62)]:List (S62)):List (S62))).bind fun Z=>(if (X.length+Z.length<1000000000∧0 ≤ η.1 ∧ η.1≤(X.length:Int)) then (some (X.take η.1.toNat++Z++X.drop η.1.toNat)) else (none))))))=some r:=h
 clear h
 replace H:=Option.bind_eq_some_iff.mp H
 obtain⟨⟨δ,ao⟩,ae,H⟩:=H
 replace H:(if ao=true then ((api_Inside_59.f I).bind fun bg=>(some bg)) else ((api_Inside_59.f I).bind fun X=>((some (([(⟨D,O⟩:S62)]:List (S62)):List (S62))).bind fun Z=>(if (X.length+Z.length<1000000000∧0 ≤ δ ∧ δ ≤ (X.length:Int)) then (some (X.take δ.toNat++Z++X.drop δ.toNat)) else (none)))))=some r:=H
 have A3:=Aside0.mk ae
 clear ae
 by_cases c4:ao=true
 ·subst c4
  have H1:((api_Inside_59.f I).bind fun bg=>(some bg))=some r:=by rw[if_pos rfl] at H;exact H
  clear H
  have H:=H1
  clear H1
  replace H:=Option.bind_eq_some_iff.mp H
  obtain⟨bg,ca,H⟩:=H
  replace H:(some bg)=some r:=H
  have A5:=Aside0.mk ca
  clear ca
  obtain rfl:=Option.some.inj H
  go_enter Try.func33,Try.ntmps33
  go_wp2_with (first|((with_reducible refine Qr (N:=2) rfl ?_);refine qE 2 #[.slice μ I.length ζ,.func (.func 57) #[] #[]] 74 ?_;intro ν hg w6 hbox hb;have B:=Aside0.mk hbox;have an:=sGe hg;have ar:=sGe hg;replace HB:=sHb hb;clear hb hbox hg)|((with_reducible refine Qr (N:=3) rfl ?_);refine qE 3 #[.int .i64 D,.int .i64 O] 62 ?_;intro Y hg w7 hbox hb;have L:=Aside0.mk hbox;have aw:=sGe hg;have b6:=sGe hg;have τ :=sNl B hg;have a1:=sNg B hg;replace B:=sBk B hb;replace HB:=sHb hb;clear hb hbox hg;have bn:= τ.out;have br:=a1.out;obtain⟨bc,bh,bi,bj⟩:=qD2 B.out;obtain⟨am,au,ba,bk⟩:=qD2 L.out)|((with_reducible refine Q0 (f:=58) rfl ?_);refine Zk (some 13) rfl rfl Try.func58 kr rfl #[.slice μ I.length ζ,.agg #[.int .i64 D,.int .i64 O],.func (.func 57) #[] #[]] rfl qM ?_;(with_reducible refine(api_Inside_58.calls k _ _ I D O J δ true _ ?side1 ?side2 A3.out).mono ?_);(case side1=>exact(Kd.Qx χ.out HB.out));(case side2=>exact a7.out);rintro e e5 ⟨rfl,hb⟩;refine⟨_,rfl, ?_⟩;replace B:=sBk B hb;replace L:=sBk L hb;replace HB:=sHb hb;(try clear hb);(try clear a0);(try clear hk);(try clear hi);obtain⟨av,ax,ay,b0⟩:=qD2 B.out)|((with_reducible refine Q0 (f:=59) rfl ?_);refine Zk (some 19) rfl rfl Try.func59 kr rfl #[.slice μ I.length ζ] rfl qM ?_;(with_reducible refine(api_Inside_59.calls _ _ I bg _ ?side1 ?side2 A5.out).mono ?_);(case side1=>exact(Kd.Qx χ.out HB.out));(case side2=>exact a7.out);rintro e ed ⟨bw,rfl,φ,hb⟩;refine⟨_,rfl, ?_⟩;have b7:=Aside0.mk (Kd.Q2 (Kd.Zs φ (g:=Y) (o:=.cells #[.int .i64 D,.int .i64 O] 62 (0,0)) L.out) (Qi HB.out));replace B:=sBk B hb;replace L:=sBk L hb;replace HB:=sHb hb;(try clear hb);(try clear a0);(try clear hk);(try clear hi);(try clear φ)))
  go_ret
  exact⟨_,rfl,by(with_reducible repeat first|apply Kd.Qk|apply Kd.Qj|apply Kd.Qn);exact Kd.Qq b7.out (fun _ hk=>trivial),HB.out⟩
 ·replace c4:=Bool.eq_false_iff.mpr c4
  subst c4
  have H1:((api_Inside_59.f I).bind fun X=>((some (([(⟨D,O⟩:S62)]:List (S62)):List (S62))).bind fun Z=>(if (X.length+Z.length<1000000000∧0 ≤ δ ∧ δ ≤ (X.length:Int)) then (some (X.take δ.toNat++Z++X.drop δ.toNat)) else (none))))=some r:=by rw[if_neg (show ¬ (false=true) by decide)] at H;exact H
  clear H
  have H:=H1
  clear H1
  replace H:=Option.bind_eq_some_iff.mp H
  obtain⟨X,ap,H⟩:=H
  replace H:((some (([(⟨D,O⟩:S62)]:List (S62)):List (S62))).bind fun Z=>(if (X.length+Z.length<1000000000∧0 ≤ δ ∧ δ ≤ (X.length:Int)) then (some (X.take δ.toNat++Z++X.drop δ.toNat)) else (none)))=some r:=H
  have b4:=Aside0.mk ap
  clear ap
  obtain⟨Z,ai⟩:∃ y_:List (S62),y_=(([(⟨D,O⟩:S62)]:List (S62))):=⟨_,rfl⟩
  replace H:(if (X.length+Z.length<1000000000∧0 ≤ δ ∧ δ ≤ (X.length:Int)) then (some (X.take δ.toNat++Z++X.drop δ.toNat)) else (none))=some r:=by first|(rw[ai];with_reducible exact H)|(have ρ:=(Option.bind_some _ _).symm.trans H;rw[ai];with_reducible exact ρ)|(have ρ:=(Option.bind_some _ _).symm.trans H;with_reducible exact ρ)|with_reducible exact H|(rw[ai];exact H)|exact H
  have aj:=Aside0.mk ai
  clear ai
  by_cases a8:(X.length+Z.length<1000000000∧0 ≤ δ ∧ δ ≤ (X.length:Int))
  ·rw[if_pos a8] at H
   have ah:=Aside0.mk a8
   clear a8
   obtain⟨bv,ak⟩:∃ y_:List (S62),y_=(X.take δ.toNat++Z++X.drop δ.toNat):=⟨_,rfl⟩
   replace H:(some bv)=some r:=by first|(rw[ak];with_reducible exact H)|(have ρ:=(Option.bind_some _ _).symm.trans H;rw[ak];with_reducible exact ρ)|(have ρ:=(Option.bind_some _ _).symm.trans H;with_reducible exact ρ)|with_reducible exact H|(rw[ak];exact H)|exact H
   have bq:=Aside0.mk ak
   clear ak
   obtain rfl:=Option.some.inj H
   go_enter Try.func33,Try.ntmps33
   try go_wp2_with (first|((with_reducible refine Qr (N:=2) rfl ?_);refine qE 2 #[.slice μ I.length ζ,.func (.func 57) #[] #[]] 74 ?_;intro ν hg af hbox hb;have B:=Aside0.mk hbox;have an:=sGe hg;have ar:=sGe hg;replace HB:=sHb hb;clear hb hbox hg)|((with_reducible refine Qr (N:=3) rfl ?_);refine qE 3 #[.int .i64 D,.int .i64 O] 62 ?_;intro Y hg gb hbox hb;have L:=Aside0.mk hbox;have aw:=sGe hg;have b6:=sGe hg;have τ :=sNl B hg;have a1:=sNg B hg;replace B:=sBk B hb;replace HB:=sHb hb;clear hb hbox hg;have cb:= τ.out;have cg:=a1.out;obtain⟨b1,b2,b3,b8⟩:=qD2 B.out;obtain⟨b9,bb,be,bf⟩:=qD2 L.out)|((with_reducible refine Q0 (f:=58) rfl ?_);refine Zk (some 13) rfl rfl Try.func58 kr rfl #[.slice μ I.length ζ,.agg #[.int .i64 D,.int .i64 O],.func (.func 57) #[] #[]] rfl qM ?_;(with_reducible refine(api_Inside_58.calls k _ _ I D O J δ false _ ?side1 ?side2 A3.out).mono ?_);(case side1=>exact(Kd.Qx χ.out HB.out));(case side2=>exact a7.out);rintro e bo ⟨rfl,hb⟩;refine⟨_,rfl, ?_⟩;replace B:=sBk B hb;replace L:=sBk L hb;replace HB:=sHb hb;(try clear hb);(try clear a0);(try clear hk);(try clear hi)))
   replace B:=Aside0.mk (Qa B.out)
   replace L:=Aside0.mk (Qa L.out)
   replace HB:=Aside0.mk (Qf HB.out)
   refine Zn (n:=8) (S:=fun w'=>w'.cell? ⟨ν,0,none⟩=some (.slice μ I.length ζ)∧w'.cell? ⟨ν,1,none⟩=some (.func (.func 57) #[] #[])∧w'.cell? ⟨Y,0,none⟩=some (.int .i64 D)∧w'.cell? ⟨Y,1,none⟩=some (.int .i64 O)) (ds:=[]) #[false,false,false,false,false,false,false,false] kr rfl rfl ⟨(Ql B.out 0).trans rfl,(Ql B.out 1).trans rfl,(Ql L.out 0).trans rfl,(Ql L.out 1).trans rfl⟩ (fun hHeld=>?_);refine Q8 api_Inside_with.Gn api_Inside_with.J1 (fun HT_ HW_=>?_)
   generalize bo.drew=du at B L HB hHeld ⊢
   refine qP 0 (some 20) (bN 8 1) HT_ ?_
   refine qP 3 (some 23) (bN 8 9) HT_ ?_
   refine qT 1 (some 21) (bN 8 11) HT_ HW_ hHeld ?_
   refine qT 4 (some 24) (bN 8 27) HT_ HW_ hHeld ?_
   refine K9 (σ:=Value×Value) 2 (bN 8 63) (fun s_=>[(22,s_.1),(25,s_.2)]) (fun s_ w'=>(w'.cell? ⟨ν,0,none⟩=some (.slice μ I.length ζ)∧w'.cell? ⟨ν,1,none⟩=some (.func (.func 57) #[] #[])∧w'.cell? ⟨Y,0,none⟩=some (.int .i64 D)∧w'.cell? ⟨Y,1,none⟩=some (.int .i64 O))∧(Kd.R k62 62 w' w.heap.size (fun k_=>some k_≠(s_.2:Value).ownBlock∧k_≠Y) s_.1 X)∧(Kd.R k62 62 w' w.heap.size (fun k_=>some k_≠(s_.1:Value).ownBlock∧k_≠Y) s_.2 Z)∧(w'.heap[ν]?=some (.cells #[.slice μ I.length ζ,.func (.func 57) #[] #[]] 74 (0,0)))∧(w'.heap[Y]?=some (.cells #[.int .i64 D,.int .i64 O] 62 (0,0)))∧(Below w.heap.size w w')) ?_ ?_
   rotate_left
   ·intro hCont
    refine Kj (i:=2) (j:=5) (Ni:=some 22) (Nj:=some 25) (bN 8 31) (bN 8 59) rfl rfl rfl rfl (Ye HT_.out kr) (by decide) (by decide) (fun K hK=>?_) (fun K hK=>?_)
    ·skip
     refine Ze Try.func59 kr rfl #[.slice μ I.length ζ] (by rfl) rfl rfl qM ?_
     with_reducible refine(api_Inside_59.calls _ _ I X _ ?side1 ?side2 b4.out).mono ?_
     (case side1=>exact(Kd.Qx χ.out HB.out))
     (case side2=>exact a7.out)
     rintro e dq ⟨a2,rfl,φ,hb⟩
     refine⟨_,rfl, ?_⟩
     have θ :=Aside0.mk (Kd.Q2 (Kd.Zs φ (g:=Y) (o:=.cells #[.int .i64 D,.int .i64 O] 62 (0,0)) L.out) (Qi HB.out))
     replace B:=sBk B hb
     replace L:=sBk L hb
     replace HB:=sHb hb
     (try clear hb)
     (try clear a0)
     (try clear hk)
     (try clear hi)
     (try clear φ)
     refine hK.out _ _ ⟨qc B,qc B,qc L,qc L⟩ (fun hHeld=>?_)
     clear hK K
     refine qN (some 22) ?_
     refine Zg (i:=5) (N:=some 25) (bN 8 63) rfl rfl (Q1 HT_.out kr) (by decide) (fun K hK=>?_)
     refine Kd.Xl k62 _ 62 ?hg (N:=25) ?hd (xs:=([(⟨D,O⟩:S62)]:List (S62))) (inner:=[.int .i64 D,.int .i64 O]) (ok:=fun _=>True) (okp:=fun _=>True) ?hr ?hp (fun _ hk=>hk) trivial (Below.refl _ _) (Nat.le_refl _) (by simp) ?_;(case hd=>rfl);(case hg=>rfl);(case hr=>go_simp <;> rfl);(case hp=>exact(Reps.c2 (show Kd.M k62 _ _ _ (⟨D,O⟩:S62) [.int .i64 D,.int .i64 O] from(Kr _ _ _ (⟨D,O⟩:S62))) (Reps.none _ _)))
     intro al bu a3 hb hg_ hnew_
     clear hg_ hnew_
     (first|rw[← aj.out] at a3|(simp only[Int.reduceToNat] at a3;rw[← aj.out] at a3))
     have ε :=Aside0.mk (Kd.Q2 (Kd.Zs (Kd.Zl a3 (Kd.Zy θ.out)) (g:=Y) (o:=.cells #[.int .i64 D,.int .i64 O] 62 (0,0)) L.out) (Qi HB.out))
     replace θ :=Aside0.mk (Kd.Q7 θ.out (Kd.Zh a3) hb)
     replace B:=sBk B hb
     replace L:=sBk L hb
     replace HB:=sHb hb
     clear hb a3
     refine hK.out _ _ ⟨qc B,qc B,qc L,qc L⟩ (fun hHeld=>?_)
     clear hK K
     refine qN (some 25) ?_
     exact Xj (by simp only[Zx,Act.put,qS]) (hCont (a2,al) _ ⟨hHeld,(by(with_reducible repeat first|apply Kd.Qk|apply Kd.Qj|apply Kd.Qn);exact Kd.Qq θ.out (fun _ hk=>⟨hk.2,hk.1.2⟩)),(by(with_reducible repeat first|apply Kd.Qk|apply Kd.Qj|apply Kd.Qn);exact Kd.Qq ε.out (fun _ hk=>⟨hk.1.2,hk.2⟩)),B.out,L.out,HB.out⟩)
    ·skip
     refine Kd.Xl k62 _ 62 ?hg (N:=25) ?hd (xs:=([(⟨D,O⟩:S62)]:List (S62))) (inner:=[.int .i64 D,.int .i64 O]) (ok:=fun _=>True) (okp:=fun _=>True) ?hr ?hp (fun _ hk=>hk) trivial (Below.refl _ _) (Nat.le_refl _) (by simp) ?_;(case hd=>rfl);(case hg=>rfl);(case hr=>go_simp <;> rfl);(case hp=>exact(Reps.c2 (show Kd.M k62 _ _ _ (⟨D,O⟩:S62) [.int .i64 D,.int .i64 O] from(Kr _ _ _ (⟨D,O⟩:S62))) (Reps.none _ _)))
     intro al dq ag hb hg_ hnew_
     clear hg_ hnew_
     (first|rw[← aj.out] at ag|(simp only[Int.reduceToNat] at ag;rw[← aj.out] at ag))
     have ε :=Aside0.mk (Kd.Q2 (Kd.Zs ag (g:=Y) (o:=.cells #[.int .i64 D,.int .i64 O] 62 (0,0)) L.out) (Qi HB.out))
     replace B:=sBk B hb
     replace L:=sBk L hb
     replace HB:=sHb hb
     clear hb ag
     refine hK.out _ _ ⟨qc B,qc B,qc L,qc L⟩ (fun hHeld=>?_)
     clear hK K
     refine qN (some 25) ?_
     refine Zg (i:=2) (N:=some 22) (bN 8 63) rfl rfl (Q1 HT_.out kr) (by decide) (fun K hK=>?_)
     refine Ze Try.func59 kr rfl #[.slice μ I.length ζ] (by rfl) rfl rfl qM ?_
     with_reducible refine(api_Inside_59.calls _ _ I X _ ?side1 ?side2 b4.out).mono ?_
     (case side1=>exact(Kd.Qx χ.out HB.out))
     (case side2=>exact a7.out)
     rintro e ci ⟨a2,rfl,φ,hb⟩
     refine⟨_,rfl, ?_⟩
     have θ :=Aside0.mk (Kd.Q2 (Kd.Zs (Kd.Zl φ (Kd.Zy ε.out)) (g:=Y) (o:=.cells #[.int .i64 D,.int .i64 O] 62 (0,0)) L.out) (Qi HB.out))
     replace ε :=Aside0.mk (Kd.Q7 ε.out (Kd.Zh φ) hb)
     replace B:=sBk B hb
     replace L:=sBk L hb
     replace HB:=sHb hb
     (try clear hb)
     (try clear a0)
     (try clear hk)
     (try clear hi)
     (try clear φ)
     refine hK.out _ _ ⟨qc B,qc B,qc L,qc L⟩ (fun hHeld=>?_)
     clear hK K
     refine qN (some 22) ?_
     exact Xj (by simp only[Zx,Act.put,qS]) (hCont (a2,al) _ ⟨hHeld,(by(with_reducible repeat first|apply Kd.Qk|apply Kd.Qj|apply Kd.Qn);exact Kd.Qq θ.out (fun _ hk=>⟨hk.1.2,hk.2⟩)),(by(with_reducible repeat first|apply Kd.Qk|apply Kd.Qj|apply Kd.Qn);exact Kd.Qq ε.out (fun _ hk=>⟨hk.2,hk.1.2⟩)),B.out,L.out,HB.out⟩)
   rintro⟨a2,al⟩ bp ⟨hS_,cj,ck,cm,cn,co⟩
   have U:Aside0 (Kd.R k62 62 bp w.heap.size (fun k_=>some k_≠(al:Value).ownBlock∧k_≠Y) a2 X):=⟨cj⟩
   have γ:Aside0 (Kd.R k62 62 bp w.heap.size (fun k_=>some k_≠(a2:Value).ownBlock∧k_≠Y) al Z):=⟨ck⟩
   have ι :Aside0 (bp.heap[ν]?=some (.cells #[.slice μ I.length ζ,.func (.func 57) #[] #[]] 74 (0,0))):=⟨cm⟩
   have κ :Aside0 (bp.heap[Y]?=some (.cells #[.int .i64 D,.int .i64 O] 62 (0,0))):=⟨cn⟩
   have ξ :Aside0 (Below w.heap.size w bp):=⟨co⟩
   clear B
   clear L
   clear HB
   clear cj ck cm cn co
   have θ :=U
   have ε :=γ
   have B:= ι
   have L:= κ
   have HB:= ξ
   clear U γ ι κ ξ
   have hHeld:bp.cell? ⟨ν,0,none⟩=some (.slice μ I.length ζ)∧bp.cell? ⟨ν,1,none⟩=some (.func (.func 57) #[] #[])∧bp.cell? ⟨Y,0,none⟩=some (.int .i64 D)∧bp.cell? ⟨Y,1,none⟩=some (.int .i64 O):=hS_
   obtain⟨az,bl,bm⟩:=Kd.Q4 ε.out
   (first|subst bm|(injection bm with ψ aa ω;have ab:= ψ.symm;have ac:= ω.symm;clear ψ aa ω;subst ab;subst ac))
   refine Xj (a':=?_) ?_ ?_
   rotate_left
   ·simp only[Zx,Act.put,qS]
    rfl
   refine Zg (i:=6) (N:=some 26) (bN 8 127) rfl rfl (Q1 HT_.out kr) (by decide) (fun K hK=>?_)
   refine Ze Try.func60 kr rfl #[a2,.int .i64 δ,.slice az Z.length bl] (by rfl) rfl rfl qM ?_
   refine(Ny _ w.heap.size (fun k_=>some k_≠(.slice az Z.length bl:Value).ownBlock∧k_≠Y) _ a2 X Z _ δ az bl aj.out ?aS ?aF ?aO ε.out ?aN (by have h_:=ah.out;omega) (by have h_:=ah.out;omega) (by have h_:=ah.out;omega)).mono ?_
   (case aS=>exact(Qi HB.out))
   (case aF=>exact(fun k_ hk=>⟨Kd.fresh' (Kd.Zy ε.out) k_ hk,Kd.Yr (g:=Y) (o:=.cells #[.int .i64 D,.int .i64 O] 62 (0,0)) L.out k_ hk⟩))
   (case aO=>exact θ.out)
   (case aN=>exact fun k_ hk=>hk.1)
   rintro e ez ⟨g7,rfl,ho,b5,hg,hat⟩
   refine⟨_,rfl, ?_⟩
   have hb:=HB.out.trans b5
   rw[← bq.out] at ho
   have a9:=Aside0.mk ho
   replace B:=Aside0.mk (Zb (g:= ν) (o:=.cells #[.slice μ I.length ζ,.func (.func 57) #[] #[]] 74 (0,0)) B.out hg (Kd.X1 θ.out B.out (by decide)))
   replace L:=Aside0.mk (Zb (g:=Y) (o:=.cells #[.int .i64 D,.int .i64 O] 62 (0,0)) L.out hg (Kd.Y4 θ.out (fun _ hk=>hk.2)))
   replace ε :=Aside0.mk (Kd.J8 (ok:=(fun k_=>k_≠Y)) (by(with_reducible repeat first|apply Kd.Qk|apply Kd.Qj|apply Kd.Qn);exact Kd.Qq ε.out (fun _ hk=>⟨hk.2,hk.1⟩)) hg hat)
   replace HB:=Aside0.mk hb
   clear θ
   clear ho hb hg hat
   refine hK.out _ _ ⟨qc B,qc B,qc L,qc L⟩ (fun hHeld=>?_)
   clear hK K
   refine qN (some 26) ?_
   refine qP 7 (some 4) (bN 8 255) HT_ ?_
   refine Zu (Zj HT_.out kr) ?_
   try go_wp2
   go_ret
   exact⟨_,rfl,by(with_reducible repeat first|apply Kd.Qk|apply Kd.Qj|apply Kd.Qn);exact Kd.Qq a9.out (fun _ hk=>trivial),HB.out⟩
  ·rw[if_neg a8] at H
   exact absurd H (by simp)
end Go.Proofs.Ytjehhhlhalkieaa.C
namespace Go.Proofs.Ytjehhhlhalkieaa.C
open Go.RowKit Go.Proofs.YtjehhhlhalkieaaW.PrintWords Go.Proofs.YtjehhhlhalkieaaW.PrintLast Go.Proofs.YtjehhhlhalkieaaW.PrintMore
set_option linter.unusedVariables false
theorem Ks {α:Type} (q:α→Bool) (l:List α) (p:Nat) (h1:∀ y ∈ l.take p,q y=true) (O:∀ y ∈ l.drop p,q y=false):l.filter q=l.take p∧l.filter (fun y=> !q y)=l.drop p:=by
  have e:=List.take_append_drop p l
  constructor
  · conv=>lhs;rw[← e]
    rw[List.filter_append,List.filter_eq_self.2 h1,List.filter_eq_nil_iff.2 (fun y hy=>by rw[O y hy];decide),List.append_nil]
  · conv=>lhs;rw[← e]
    rw[List.filter_append,List.filter_eq_nil_iff.2 (fun y hy=>by rw[h1 y hy];decide),List.filter_eq_self.2 (fun y hy=>by rw[O y hy];rfl),List.nil_append]
def Ng (x:S56) (l:List S56):List S56:=if l.any (fun y=>Z7 y.f0 y.f1 x.f0 x.f1==0) then l else l.filter (fun y=>decide (Z7 y.f0 y.f1 x.f0 x.f1<0)) ++ [x]++l.filter (fun y=> !decide (Z7 y.f0 y.f1 x.f0 x.f1<0))
def withP_H.f (J L X:Int) (l:List S56):Option (List S56):=if small (l.length+2) L=true∧Call.Zo (fun _=>true) Call.ltH none l=true then some (Ng ⟨J,L,X⟩ l) else none
set_option maxHeartbeats 1000000 in
theorem G5 (Y:Option Addr) (c:Nat) (l:List S56) (J L X:Int) (t:List S56) (W:World) (hr:Kd.C k56 W Y l.length l) (hc:l.length≤c) (h:withP_H.f J L X l=some t):
    Calls Try.prog 35 #[.agg #[.slice Y l.length c,.func (.func 51) #[] #[]],.agg #[.int .i64 J,.int .i64 L,.int .i64 X]] W fun e w'=>∃ a4:Value,e = .returned a4∧Kd.R k56 56 w' W.heap.size (fun _=>True) a4 t∧Below W.heap.size W w':=by
  unfold withP_H.f at h
  split at h
  case isFalse=>cases h
  case isTrue hs=>
  cases h
  obtain⟨hl,hb⟩:=of_decide_eq_true hs.1
  have hso:=((Call.Y7 (fun _=>true) l).1 hs.2).2
  refine api_Hall_with.calls (l.length+2) Y c l 0 J L X _ W hr hc ?_
  unfold api_Hall_with.f api_Hall_55.f
  have hl':l.length<1000000000:=by omega
  obtain⟨p,hp,e⟩:=Call.Gq l J L X 0 (by omega) hso (l.length+2) (by omega)
  obtain⟨h1,O,D⟩:=hp
  rw[e]
  simp only[Option.bind_some,if_pos hl',Int.toNat_natCast]
  have hany:l.any (fun y=>Z7 y.f0 y.f1 J L==0)=Call.Kx l J L p:=by
    unfold Call.Kx
    rcases Nat.lt_or_ge p l.length with hlt|hge
    · rw[List.getElem?_eq_getElem hlt]
      simp only
      obtain⟨b,hb⟩:∃ b,(Z7 l[p].f0 l[p].f1 J L==0)=b:=⟨_,rfl⟩
      rw[hb]
      cases b
      · rw[List.any_eq_false]
        intro y hy hq
        obtain⟨m,hm,rfl⟩:=List.mem_iff_getElem.1 hy
        have B:Z7 l[m].f0 l[m].f1 J L=0:=by simpa using hq
        rw[Call.Ym] at B
        rcases Nat.lt_trichotomy m p with U|he|hgt
        · have:=O l[m] (List.mem_iff_getElem.2 ⟨m,by rw[List.length_take];omega,by rw[List.getElem_take]⟩)
          rw[Call.X3] at this
          omega
        · subst he
          rw[← Call.Ym] at B
          rw[B] at hb
          cases hb
        · have I:=D l[p] (List.mem_iff_getElem.2 ⟨0,by rw[List.length_drop];omega,by rw[List.getElem_drop];rfl⟩)
          rw[Call.X3] at I
          have Z:=List.pairwise_iff_getElem.1 hso p m hlt hm hgt
          rw[Call.Yu] at Z
          omega
      · exact List.any_eq_true.2 ⟨l[p],List.getElem_mem hlt,hb⟩
    · rw[List.getElem?_eq_none hge]
      simp only
      rw[List.any_eq_false]
      intro y hy hq
      have:=O y (by rw[List.take_of_length_le hge];exact hy)
      rw[Call.X3] at this
      have B:Z7 y.f0 y.f1 J L=0:=by simpa using hq
      rw[Call.Ym] at B
      omega
  have hsp:=Ks (fun y=>decide (Z7 y.f0 y.f1 J L<0)) l p (fun y hy=>decide_eq_true (O y hy)) (fun y hy=>decide_eq_false (D y hy))
  obtain⟨b,hm⟩:∃ b,Call.Kx l J L p=b:=⟨_,rfl⟩
  unfold Ng
  rw[hm] at hany ⊢
  simp only[hany,hsp.1,hsp.2]
  cases b
  · simp only[Bool.false_eq_true,if_false]
    rw[if_pos ⟨by simp only[List.length_cons,List.length_nil];omega,by omega,by omega⟩]
  · simp only[if_true]
def Nf (x:S62) (l:List S62):List S62:=if l.any (fun y=>Z7 y.f0 y.f1 x.f0 x.f1==0) then l else l.filter (fun y=>decide (Z7 y.f0 y.f1 x.f0 x.f1<0)) ++ [x]++l.filter (fun y=> !decide (Z7 y.f0 y.f1 x.f0 x.f1<0))
def withP_I.f (J L:Int) (l:List S62):Option (List S62):=if small (l.length+2) L=true∧Call.Zo (fun _=>true) Call.ltI none l=true then some (Nf ⟨J,L⟩ l) else none
set_option maxHeartbeats 1000000 in
theorem G4 (Y:Option Addr) (c:Nat) (l:List S62) (J L:Int) (t:List S62) (W:World) (hr:Kd.C k62 W Y l.length l) (hc:l.length≤c) (h:withP_I.f J L l=some t):
    Calls Try.prog 33 #[.agg #[.slice Y l.length c,.func (.func 57) #[] #[]],.agg #[.int .i64 J,.int .i64 L]] W fun e w'=>∃ a4:Value,e = .returned a4∧Kd.R k62 62 w' W.heap.size (fun _=>True) a4 t∧Below W.heap.size W w':=by
  unfold withP_I.f at h
  split at h
  case isFalse=>cases h
  case isTrue hs=>
  cases h
  obtain⟨hl,hb⟩:=of_decide_eq_true hs.1
  have hso:=((Call.K5 (fun _=>true) l).1 hs.2).2
  refine api_Inside_with.calls (l.length+2) Y c l 0 J L _ W hr hc ?_
  unfold api_Inside_with.f api_Inside_59.f
  have hl':l.length<1000000000:=by omega
  obtain⟨p,hp,e⟩:=Call.Un l J L 0 (by omega) hso (l.length+2) (by omega)
  obtain⟨h1,O,D⟩:=hp
  rw[e]
  simp only[Option.bind_some,if_pos hl',Int.toNat_natCast]
  have hany:l.any (fun y=>Z7 y.f0 y.f1 J L==0)=Call.U2 l J L p:=by
    unfold Call.U2
    rcases Nat.lt_or_ge p l.length with hlt|hge
    · rw[List.getElem?_eq_getElem hlt]
      simp only
      obtain⟨b,hb⟩:∃ b,(Z7 l[p].f0 l[p].f1 J L==0)=b:=⟨_,rfl⟩
      rw[hb]
      cases b
      · rw[List.any_eq_false]
        intro y hy hq
        obtain⟨m,hm,rfl⟩:=List.mem_iff_getElem.1 hy
        have B:Z7 l[m].f0 l[m].f1 J L=0:=by simpa using hq
        rw[Call.Ym] at B
        rcases Nat.lt_trichotomy m p with U|he|hgt
        · have:=O l[m] (List.mem_iff_getElem.2 ⟨m,by rw[List.length_take];omega,by rw[List.getElem_take]⟩)
          rw[Call.X3] at this
          omega
        · subst he
          rw[← Call.Ym] at B
          rw[B] at hb
          cases hb
        · have I:=D l[p] (List.mem_iff_getElem.2 ⟨0,by rw[List.length_drop];omega,by rw[List.getElem_drop];rfl⟩)
          rw[Call.X3] at I
          have Z:=List.pairwise_iff_getElem.1 hso p m hlt hm hgt
          rw[Call.J5] at Z
          omega
      · exact List.any_eq_true.2 ⟨l[p],List.getElem_mem hlt,hb⟩
    · rw[List.getElem?_eq_none hge]
      simp only
      rw[List.any_eq_false]
      intro y hy hq
      have:=O y (by rw[List.take_of_length_le hge];exact hy)
      rw[Call.X3] at this
      have B:Z7 y.f0 y.f1 J L=0:=by simpa using hq
      rw[Call.Ym] at B
      omega
  have hsp:=Ks (fun y=>decide (Z7 y.f0 y.f1 J L<0)) l p (fun y hy=>decide_eq_true (O y hy)) (fun y hy=>decide_eq_false (D y hy))
  obtain⟨b,hm⟩:∃ b,Call.U2 l J L p=b:=⟨_,rfl⟩
  unfold Nf
  rw[hm] at hany ⊢
  simp only[hany,hsp.1,hsp.2]
  cases b
  · simp only[Bool.false_eq_true,if_false]
    rw[if_pos ⟨by simp only[List.length_cons,List.length_nil];omega,by omega,by omega⟩]
  · simp only[if_true]
end Go.Proofs.Ytjehhhlhalkieaa.C
namespace Go.Proofs.Ytjehhhlhalkieaa.C
open Go.RowKit Go.Proofs.YtjehhhlhalkieaaW.PrintWords Go.Proofs.YtjehhhlhalkieaaW.PrintLast Go.Proofs.YtjehhhlhalkieaaW.PrintMore
attribute [local go_sem] Z2 Z0 Xb Xa Zq Zp Z1 Zz
set_option linter.unusedVariables false
set_option linter.unusedSimpArgs false
def call_Press.j0:Nat→Int→Int→List (S56)→List (S62)→Int→Int→Int→Option ((List (S56))×(List (S62))×Int)
 |0,_,_,_,_,_,_,_=>none
 |k+1,J,L,O,U,B,D,I=>(hallP.f B D I J L).bind fun ai=>((call_change.f (withP_H.f B D I O) (woP_I.f (-2) 0 U) k J L O U ai 0 B D I 0 (-2) 0).bind fun bm=>(some (bm.1,bm.2.1,bm.2.2)))
def call_Press.f (k:Nat) (I:Int) (J:Int) (B:List (S56)) (D:List (S62)) (X:Int) (L:Int) (ζ :Int):Option ((List (S56))×(List (S62))×Int):=if X=0 then (call_Press.j0 k I J B D L 1 (-1)) else (if X=1 then (call_Press.j0 k I J B D L (-1) (-1)) else (if X=2 then ((insP.f ζ L I J).bind fun σ=>((call_change.f (woP_H.f (-2) 0 0 B) (withP_I.f ζ L D) k I J B D σ 0 (-2) 0 0 0 ζ L).bind fun ba=>(some (ba.1,ba.2.1,ba.2.2)))) else (call_Press.j0 k I J B D L 0 (-1))))
theorem call_Press.Zi:∀ k,(∀ D I O J L X Y,LeO (call_Press.j0 k D I O J L X Y) (call_Press.j0 (k+1) D I O J L X Y))
 |0=>fun _ _ _ _ _ _ _ r h=>by simp[call_Press.j0] at h
 |k+1=>by
  have B:=call_Press.Zi k
  ·intro D I O J L X Y
   unfold call_Press.j0
   repeat' first
   |(with_reducible exact B _ _ _ _ _ _ _)
   |(with_reducible exact call_change.mono _ _ _ _ _ _ _ _ _ _ _ _ _ _ _)
   |(with_reducible exact LeO.refl _)
   |(with_reducible exact LeO.none _)
   |(with_reducible refine LeO.ite ?_ ?_)
   |(with_reducible refine LeO.bind ?_ (fun _=>?_))
   |exact B _ _ _ _ _ _ _
   |exact call_change.mono _ _ _ _ _ _ _ _ _ _ _ _ _ _ _
   |exact LeO.none _
   |refine LeO.ite ?_ ?_
   |refine LeO.bind ?_ (fun _=>?_)
theorem call_Press.mono:∀ I D a2 X J a5 L k,LeO (call_Press.f k I D a2 X J a5 L) (call_Press.f (k+1) I D a2 X J a5 L):=by
 intro I D a2 X J a5 L k
 have B:=call_Press.Zi k
 unfold call_Press.f
 repeat' first
   |(with_reducible exact B _ _ _ _ _ _ _)
   |(with_reducible exact call_change.mono _ _ _ _ _ _ _ _ _ _ _ _ _ _ _)
   |(with_reducible exact LeO.refl _)
   |(with_reducible exact LeO.none _)
   |(with_reducible refine LeO.ite ?_ ?_)
   |(with_reducible refine LeO.bind ?_ (fun _=>?_))
   |exact B _ _ _ _ _ _ _
   |exact call_change.mono _ _ _ _ _ _ _ _ _ _ _ _ _ _ _
   |exact LeO.none _
   |refine LeO.ite ?_ ?_
   |refine LeO.bind ?_ (fun _=>?_)
def call_Press.T9:Bool×List (List Nat×List Nat):=(true,[([],[]),([],[]),([],[]),([2],[2]),([],[]),([3,4,3],[3,4]),([],[]),([6,5],[6]),([7],[7]),([],[]),([],[]),([10,7],[10]),([11],[11]),([],[]),([0,1,5,8,9,12,13,11],[0,1,5,8,9,12,13]),([14],[14]),([14],[14]),([15,14,0,1,2,3,4,5,6,7,8,9,10,11,12,13,14,15,16],[15]),([16,17,0,1,2,3,4,5,6,7,8,9,10,11,12,13,14,15,16,17],[16])])
def call_Press.B9:List Nat:=[0,0,0,4,0,28,0,124,252,0,0,1276,3324,0,16383,32767,32767,131071,262143]
theorem call_Press.tab9:rtab .any (opsOf Try.f11 9)=call_Press.T9:=by kernel_rfl
theorem call_Press.bits9:Zr call_Press.T9.2 call_Press.B9=true:=by kernel_rfl
def call_Press.T10:Bool×List (List Nat×List Nat):=(true,[([],[]),([],[]),([],[]),([2],[2]),([],[]),([3,4,3],[3,4]),([],[]),([6,5],[6]),([7],[7]),([],[]),([],[]),([10,7],[10]),([11],[11]),([],[]),([0,1,5,8,9,12,13,11],[0,1,5,8,9,12,13]),([14],[14]),([14],[14]),([15,14,0,1,2,3,4,5,6,7,8,9,10,11,12,13,14,15,16],[15]),([16,17,0,1,2,3,4,5,6,7,8,9,10,11,12,13,14,15,16,17],[16])])
def call_Press.B10:List Nat:=[0,0,0,4,0,28,0,124,252,0,0,1276,3324,0,16383,32767,32767,131071,262143]
theorem call_Press.tab10:rtab .any (opsOf Try.f11 10)=call_Press.T10:=by kernel_rfl
theorem call_Press.N1:Zr call_Press.T10.2 call_Press.B10=true:=by kernel_rfl
set_option maxHeartbeats 8000000 in
set_option maxRecDepth 100000 in
theorem call_Press.calls (k:Nat) (I:Int) (J:Int) (η :Option Addr) (δ :Nat) (B:List (S56)) (θ :Option Addr) (ε :Nat) (D:List (S62)) (X:Int) (L:Int) (ζ :Int) (r1:List (S56)) (r2:List (S62)) (r3:Int) (w:World) (b4:Kd.C k56 w η B.length B) (b5:B.length ≤ δ) (b6:Kd.C k62 w θ D.length D) (b7:D.length ≤ ε) (h:call_Press.f k I J B D X L ζ = some (r1,r2,r3)):
  Calls Try.prog 11 #[.agg #[.int .i64 I,.int .i64 J],.agg #[.slice η B.length δ,.slice θ D.length ε],.agg #[.int .i64 X,.int .i64 L,.int .i64 ζ]] w fun e w'=>∃ a4 b9:Value,e = .returned (.tuple #[.agg #[a4,b9],.int .i64 r3])∧Kd.R k56 56 w' w.heap.size (fun _=>True) a4 r1∧Kd.R k62 62 w' w.heap.size (fun _=>True) b9 r2∧Below w.heap.size w w':=by
 have dn:=Try.underlying23
 have d4:=Try.underlying27
 have k2:=Try.underlying29
 have bq:=Try.underlying56
 have bd:=Try.underlying62
 have ag:=Aside0.mk b4
 have ar:=Aside0.mk b5
 clear b4 b5
 have ah:=Aside0.mk b6
 have aw:=Aside0.mk b7
 clear b6 b7
 have HB:=Aside0.mk (Below.refl w.heap.size w)
 have H:(if X=0 then (call_Press.j0 k I J B D L 1 (-1)) else (if X=1 then (call_Press.j0 k I J B D L (-1) (-1)) else (if X=2 then ((insP.f ζ L I J).bind fun σ=>((call_change.f (woP_H.f (-2) 0 0 B) (withP_I.f ζ L D) k I J B D σ 0 (-2) 0 0 0 ζ L).bind fun ba=>(some (ba.1,ba.2.1,ba.2.2)))) else (call_Press.j0 k I J B D L 0 (-1)))))=some (r1,r2,r3):=h
 clear h
 have fz:=Aside0.mk H
 clear H
 go_enter Try.func11,Try.ntmps11
 go_upto_block 0 with(first|((with_reducible refine Qr (N:=3) rfl ?_);refine qE 3 #[.int .i64 I,.int .i64 J] 23 ?_;intro a5 hg w5 hbox hb;have Y:=Aside0.mk hbox;have al:=sGe hg;have de:=sGe hg;replace HB:=sHb hb;clear hb hbox hg)|((with_reducible refine Qr (N:=4) rfl ?_);refine qE 4 #[.slice η B.length δ,.slice θ D.length ε] 27 ?_;intro be hg w6 hbox hb;have Z:=Aside0.mk hbox;have ik:=sGe hg;have il:=sGe hg;have gk:=sNl Y hg;have gl:=sNg Y hg;replace Y:=sBk Y hb;replace HB:=sHb hb;clear hb hbox hg)|((with_reducible refine Qr (N:=5) rfl ?_);refine qE 5 #[.int .i64 X,.int .i64 L,.int .i64 ζ] 29 ?_;intro ct hg w7 hbox hb;have ρ:=Aside0.mk hbox;have im:=sGe hg;have io:=sGe hg;have dl:=sNl Y hg;have dm:=sNg Y hg;have dq:=sNl Z hg;have du:=sNg Z hg;replace Y:=sBk Y hb;replace Z:=sBk Z hb;replace HB:=sHb hb;clear hb hbox hg)|((with_reducible refine Qr (N:=6) rfl ?_);refine qE 6 #[.slice none 0 0,.slice none 0 0] 27 ?_;intro τ hg w8 hbox hb;have ν :=Aside0.mk hbox;have ip:=sGe hg;have iq:=sGe hg;have a9:=sNl Y hg;have bk:=sNg Y hg;have ae:=sNl Z hg;have bl:=sNg Z hg;have bf:=sNl ρ hg;have bh:=sNg ρ hg;replace Y:=sBk Y hb;replace Z:=sBk Z hb;replace ρ:=sBk ρ hb;replace HB:=sHb hb;clear hb hbox hg;have gn:=dm.out;have gp:=dl.out;have d2:=du.out;have d3:=dq.out;have gt:=bf.out;have gu:=bh.out;obtain⟨av,ax,f7,ay,b0,f8⟩:=qD3 ρ.out)|((with_reducible refine Qr (N:=8) rfl ?_);refine qE 8 #[.int .i64 0,.int .i64 0,.int .i64 0] 56 ?_;intro ao hg ed hbox hb;have μ :=Aside0.mk hbox;have ir:=sGe hg;have it:=sGe hg;have bp:=sNl Y hg;have br:=sNg Y hg;have bs:=sNl Z hg;have bv:=sNg Z hg;have cd:=sNl ρ hg;have ce:=sNg ρ hg;have am:=sNl ν hg;have a6:=sNg ν hg;replace Y:=sBk Y hb;replace Z:=sBk Z hb;replace ρ:=sBk ρ hb;replace ν :=sBk ν hb;replace HB:=sHb hb;clear hb hbox hg;have ie:=br.out;have ig:=bp.out;have iv:=bv.out;have iw:=bs.out;have iu:=ce.out;have iz:=cd.out;have df:=a6.out;have dh:=am.out;obtain⟨bu,bw,db,bz,ca,dd⟩:=qD3 μ.out;obtain⟨b1,b2,cv,b3,b8,cw⟩:=qD3 ρ.out)|((with_reducible refine Qr (N:=9) rfl ?_);refine qE 9 #[.int .i64 0,.int .i64 0] 62 ?_;intro a2 hg dp hbox hb;have O:=Aside0.mk hbox;have gh:=sGe hg;have ha:=sGe hg;have dv:=Aside0.mk ((by rw[hg];exact Nat.ne_of_lt (Q3 (g:=a5) (o:=.cells #[.int .i64 I,.int .i64 J] 23 (0,0)) (bka Y)):a5≠a2));have dw:=Aside0.mk ((by rw[hg];exact Nat.ne_of_gt (Q3 (g:=a5) (o:=.cells #[.int .i64 I,.int .i64 J] 23 (0,0)) (bka Y)):a2≠a5));have dx:=Aside0.mk ((by rw[hg];exact Nat.ne_of_lt (Q3 (g:=be) (o:=.cells #[.slice η B.length δ,.slice θ D.length ε] 27 (0,0)) (bka Z)):be≠a2));have dy:=Aside0.mk ((by rw[hg];exact Nat.ne_of_gt (Q3 (g:=be) (o:=.cells #[.slice η B.length δ,.slice θ D.length ε] 27 (0,0)) (bka Z)):a2≠be));have dz:=Aside0.mk ((by rw[hg];exact Nat.ne_of_lt (Q3 (g:=ct) (o:=.cells #[.int .i64 X,.int .i64 L,.int .i64 ζ] 29 (0,0)) (bka ρ)):ct≠a2));have e0:=Aside0.mk ((by rw[hg];exact Nat.ne_of_gt (Q3 (g:=ct) (o:=.cells #[.int .i64 X,.int .i64 L,.int .i64 ζ] 29 (0,0)) (bka ρ)):a2≠ct));have bi:=Aside0.mk ((by rw[hg];exact Nat.ne_of_lt (Q3 (g:= τ) (o:=.cells #[.slice none 0 0,.slice none 0 0] 27 (0,0)) (bka ν)): τ ≠ a2));have aj:=Aside0.mk ((by rw[hg];exact Nat.ne_of_gt (Q3 (g:= τ) (o:=.cells #[.slice none 0 0,.slice none 0 0] 27 (0,0)) (bka ν)):a2 ≠ τ));have an:=Aside0.mk ((by rw[hg];exact Nat.ne_of_lt (Q3 (g:=ao) (o:=.cells #[.int .i64 L,.int .i64 0,.int .i64 (-1)] 56 (0,0)) (by refine Qv (cs:=#[.int .i64 L,.int .i64 0,.int .i64 0]) ?_ 2 _ rfl;refine Qv (cs:=#[.int .i64 L,.int .i64 0,.int .i64 0]) ?_ 1 _ rfl;refine Qv (cs:=#[.int .i64 0,.int .i64 0,.int .i64 0]) ?_ 0 _ rfl;exact μ.out)):ao≠a2));have bj:=Aside0.mk ((by rw[hg];exact Nat.ne_of_gt (Q3 (g:=ao) (o:=.cells #[.int .i64 L,.int .i64 0,.int .i64 (-1)] 56 (0,0)) (by refine Qv (cs:=#[.int .i64 L,.int .i64 0,.int .i64 0]) ?_ 2 _ rfl;refine Qv (cs:=#[.int .i64 L,.int .i64 0,.int .i64 0]) ?_ 1 _ rfl;refine Qv (cs:=#[.int .i64 0,.int .i64 0,.int .i64 0]) ?_ 0 _ rfl;exact μ.out)):a2≠ao));replace Y:=sBk Y hb;replace Z:=sBk Z hb;replace ρ:=sBk ρ hb;replace ν :=sBk ν hb;replace μ :=Aside0.mk (Qm (g:=ao) (o:=.cells #[.int .i64 L,.int .i64 0,.int .i64 (-1)] 56 (0,0)) (by refine Qv (cs:=#[.int .i64 L,.int .i64 0,.int .i64 0]) ?_ 2 _ rfl;refine Qv (cs:=#[.int .i64 L,.int .i64 0,.int .i64 0]) ?_ 1 _ rfl;refine Qv (cs:=#[.int .i64 0,.int .i64 0,.int .i64 0]) ?_ 0 _ rfl;exact μ.out) hb);replace HB:=sHb hb;clear hb hbox hg;have e3:=dw.out;have e4:=dv.out;have g5:=dy.out;have g6:=dx.out;have fo:=e0.out;have fp:=dz.out;have eg:=aj.out;have ej:=bi.out;have d8:=bj.out;have dc:=an.out;obtain⟨cm,cn,co,cp⟩:=qD2 O.out;obtain⟨cx,cy,f9,cz,d0,fa⟩:=qD3 ρ.out))
 (try simp only[Act.put,qS])
 go_cut [] (fun wc=>∃ (kq:Nat) (af:Int),Aside0 (call_Press.j0 kq I J B D L af (-1)=some (r1,r2,r3))∧Aside0 (kq≤k)∧Aside0 (wc.heap[a5]?=some (.cells #[.int .i64 I,.int .i64 J] 23 (0,0)))∧Aside0 (wc.heap[be]?=some (.cells #[(.slice η B.length δ),(.slice θ D.length ε)] 27 (0,0)))∧Aside0 (wc.heap[ct]?=some (.cells #[.int .i64 X,.int .i64 L,.int .i64 ζ] 29 (0,0)))∧Aside0 (wc.heap[τ]?=some (.cells #[(.slice none 0 0),(.slice none 0 0)] 27 (0,0)))∧Aside0 (wc.heap[ao]?=some (.cells #[.int .i64 L,.int .i64 af,.int .i64 (-1)] 56 (0,0)))∧Aside0 (wc.heap[a2]?=some (.cells #[.int .i64 ζ,.int .i64 L] 62 (0,0)))∧Aside0 (Below w.heap.size w wc))
 case first=>
  have H:=fz.out
  clear fz
  by_cases ak:X=0
  ·rw[if_pos ak] at H
   have c28b0:(X==0)=true:=beq_iff_eq.mpr ak
   have c28b1:(X != 0)=false:=bne_eq_false_iff_eq.mpr ak
   clear ak
   (first|rw[c28b0]|(simp only[X5,Ys];rw[c28b0])|skip)
   have H':=Aside0.mk H
   clear H
   have ix:=br.out
   have iy:=bp.out
   have hu:=bv.out
   have hx:=bs.out
   have jm:=ce.out
   have jn:=cd.out
   have fc:=a6.out
   have fe:=am.out
   have g3:=an.out
   have g4:=bj.out
   obtain⟨e6,e7,fq,e8,e9,fr⟩:=qD3 μ.out
   go_wp2
   go_meet
   case rel=>exact⟨_,(1),H',⟨by first|omega|exact Nat.le_refl _⟩,⟨bka Y⟩,⟨bka Z⟩,⟨bka ρ⟩,⟨bka ν⟩,⟨by(with_reducible repeat first|apply Qd|apply Qa|apply Qe);refine Qv (cs:=#[.int .i64 L,.int .i64 0,.int .i64 (-1)]) ?_ 1 _ rfl;(with_reducible repeat first|apply Qd|apply Qa|apply Qe);refine Zm ?_ an.out _;(with_reducible repeat first|apply Qd|apply Qa|apply Qe);refine Zm ?_ an.out _;(with_reducible repeat first|apply Qd|apply Qa|apply Qe);exact μ.out⟩,⟨by(with_reducible repeat first|apply Qd|apply Qa|apply Qe);refine Zm ?_ bj.out _;(with_reducible repeat first|apply Qd|apply Qa|apply Qe);refine Qv (cs:=#[.int .i64 ζ,.int .i64 0]) ?_ 1 _ rfl;(with_reducible repeat first|apply Qd|apply Qa|apply Qe);refine Qv (cs:=#[.int .i64 0,.int .i64 0]) ?_ 0 _ rfl;(with_reducible repeat first|apply Qd|apply Qa|apply Qe);exact O.out⟩,⟨bel⟩⟩
  ·rw[if_neg ak] at H
   have c28b0:(X==0)=false:=beq_eq_false_iff_ne.mpr ak
   have c28b1:(X != 0)=true:=bne_iff_ne.mpr ak
   (first|rw[c28b0]|(simp only[X5,Ys];rw[c28b0])|skip)
   by_cases d1:X=1
   ·rw[if_pos d1] at H
    have c35b0:(X==1)=true:=beq_iff_eq.mpr d1
    have c35b1:(X != 1)=false:=bne_eq_false_iff_eq.mpr d1
    clear d1
    have H':=Aside0.mk H
    clear H
    have ek:=br.out
    have el:=bp.out
    have h8:=bv.out
    have h9:=bs.out
    have g0:=ce.out
    have g1:=cd.out
    have i3:=a6.out
    have i4:=am.out
    have ew:=an.out
    have ey:=bj.out
    obtain⟨cj,ck,ft,cq,cu,fu⟩:=qD3 μ.out
    go_wp2
    go_meet
    case rel=>exact⟨_,((-1)),H',⟨by first|omega|exact Nat.le_refl _⟩,⟨bka Y⟩,⟨bka Z⟩,⟨bka ρ⟩,⟨bka ν⟩,⟨by(with_reducible repeat first|apply Qd|apply Qa|apply Qe);refine Qv (cs:=#[.int .i64 L,.int .i64 0,.int .i64 (-1)]) ?_ 1 _ rfl;(with_reducible repeat first|apply Qd|apply Qa|apply Qe);refine Zm ?_ an.out _;(with_reducible repeat first|apply Qd|apply Qa|apply Qe);refine Zm ?_ an.out _;(with_reducible repeat first|apply Qd|apply Qa|apply Qe);exact μ.out⟩,⟨by(with_reducible repeat first|apply Qd|apply Qa|apply Qe);refine Zm ?_ bj.out _;(with_reducible repeat first|apply Qd|apply Qa|apply Qe);refine Qv (cs:=#[.int .i64 ζ,.int .i64 0]) ?_ 1 _ rfl;(with_reducible repeat first|apply Qd|apply Qa|apply Qe);refine Qv (cs:=#[.int .i64 0,.int .i64 0]) ?_ 0 _ rfl;(with_reducible repeat first|apply Qd|apply Qa|apply Qe);exact O.out⟩,⟨bel⟩⟩
   ·rw[if_neg d1] at H
    have c35b0:(X==1)=false:=beq_eq_false_iff_ne.mpr d1
    have c35b1:(X != 1)=true:=bne_iff_ne.mpr d1
    by_cases dr:X=2
    ·rw[if_pos dr] at H
     have c42b0:(X==2)=true:=beq_iff_eq.mpr dr
     have c42b1:(X != 2)=false:=bne_eq_false_iff_eq.mpr dr
     clear dr
     replace H:=Option.bind_eq_some_iff.mp H
     obtain⟨σ,g2,H⟩:=H
     replace H:((call_change.f (woP_H.f (-2) 0 0 B) (withP_I.f ζ L D) k I J B D σ 0 (-2) 0 0 0 ζ L).bind fun ba=>(some (ba.1,ba.2.1,ba.2.2)))=some (r1,r2,r3):=H
     have ic:=Aside0.mk g2
     clear g2
     replace H:=Option.bind_eq_some_iff.mp H
     obtain⟨⟨di,e5,bg⟩,d5,H⟩:=H
     replace H:(some (di,e5,bg))=some (r1,r2,r3):=H
     have d6:=Aside0.mk d5
     clear d5
     simp only[Option.some.injEq,Prod.mk.injEq] at H
     obtain⟨rfl,rfl,rfl⟩:=H
     try go_wp2
     have U:Aside0 (((dp.setCell ⟨a2,0,none⟩ (.int .i64 ζ)).setCell ⟨a2,1,none⟩ (.int .i64 L)).heap[a5]?=some (.cells #[.int .i64 I,.int .i64 J] 23 (0,0))):=⟨bka Y⟩
     have γ:Aside0 (((dp.setCell ⟨a2,0,none⟩ (.int .i64 ζ)).setCell ⟨a2,1,none⟩ (.int .i64 L)).heap[be]?=some (.cells #[.slice η B.length δ,.slice θ D.length ε] 27 (0,0))):=⟨bka Z⟩
     have ι :Aside0 (((dp.setCell ⟨a2,0,none⟩ (.int .i64 ζ)).setCell ⟨a2,1,none⟩ (.int .i64 L)).heap[ct]?=some (.cells #[.int .i64 X,.int .i64 L,.int .i64 ζ] 29 (0,0))):=⟨bka ρ⟩
     have κ :Aside0 (((dp.setCell ⟨a2,0,none⟩ (.int .i64 ζ)).setCell ⟨a2,1,none⟩ (.int .i64 L)).heap[τ]?=some (.cells #[.slice none 0 0,.slice none 0 0] 27 (0,0))):=⟨bka ν⟩
     have ξ :Aside0 (((dp.setCell ⟨a2,0,none⟩ (.int .i64 ζ)).setCell ⟨a2,1,none⟩ (.int .i64 L)).heap[ao]?=some (.cells #[.int .i64 L,.int .i64 0,.int .i64 (-1)] 56 (0,0))):=⟨bka μ⟩
     have χ :Aside0 (((dp.setCell ⟨a2,0,none⟩ (.int .i64 ζ)).setCell ⟨a2,1,none⟩ (.int .i64 L)).heap[a2]?=some (.cells #[.int .i64 ζ,.int .i64 L] 62 (0,0))):=⟨by refine Qv (cs:=#[.int .i64 ζ,.int .i64 0]) ?_ 1 _ rfl;refine Qv (cs:=#[.int .i64 0,.int .i64 0]) ?_ 0 _ rfl;exact O.out⟩
     have a1:Aside0 (Below w.heap.size w ((dp.setCell ⟨a2,0,none⟩ (.int .i64 ζ)).setCell ⟨a2,1,none⟩ (.int .i64 L))):=⟨bel⟩
     (try clear Y)
     (try clear Z)
     (try clear ρ)
     (try clear ν)
     (try clear μ)
     (try clear O)
     (try clear HB)
     generalize((dp.setCell ⟨a2,0,none⟩ (.int .i64 ζ)).setCell ⟨a2,1,none⟩ (.int .i64 L))=fy at U γ ι κ ξ χ a1 ⊢
     have Y:=U
     have Z:=γ
     have ρ:= ι
     have ν := κ
     have μ := ξ
     have O:= χ
     have HB:=a1
     clear U γ ι κ ξ χ a1
     replace Y:=Aside0.mk (Qa Y.out)
     replace Z:=Aside0.mk (Qa Z.out)
     replace ρ:=Aside0.mk (Qa ρ.out)
     replace ν :=Aside0.mk (Qa ν.out)
     replace μ :=Aside0.mk (Qa μ.out)
     replace O:=Aside0.mk (Qa O.out)
     replace HB:=Aside0.mk (Qf HB.out)
     refine Zn (n:=19) (S:=fun w'=>w'.cell? ⟨a5,0,none⟩=some (.int .i64 I)∧w'.cell? ⟨a5,1,none⟩=some (.int .i64 J)∧w'.cell? ⟨be,0,none⟩=some (.slice η B.length δ)∧w'.cell? ⟨be,1,none⟩=some (.slice θ D.length ε)∧w'.cell? ⟨a2,0,none⟩=some (.int .i64 ζ)∧w'.cell? ⟨a2,1,none⟩=some (.int .i64 L)) (ds:=[]) #[false,false,false,false,false,false,false,false,false,false,false,false,false,false,false,false,false,false,false] kr rfl rfl ⟨(Ql Y.out 0).trans rfl,(Ql Y.out 1).trans rfl,(Ql Z.out 0).trans rfl,(Ql Z.out 1).trans rfl,(Ql O.out 0).trans rfl,(Ql O.out 1).trans rfl⟩ (fun hHeld=>?_);refine Q8 call_Press.tab9 call_Press.bits9 (fun HT_ HW_=>?_)
     generalize fy.drew=he at Y Z ρ ν μ O HB hHeld ⊢
     refine qP 9 (some 37) (bN 19 512) HT_ ?_
     refine qT 0 (some 28) (bN 19 513) HT_ HW_ hHeld ?_
     refine qT 1 (some 29) (bN 19 515) HT_ HW_ hHeld ?_
     refine qT 2 (some 30) (bN 19 519) HT_ HW_ hHeld ?_
     refine qT 4 (some 32) (bN 19 535) HT_ HW_ hHeld ?_
     refine qT 6 (some 34) (bN 19 599) HT_ HW_ hHeld ?_
     refine qT 10 (some 38) (bN 19 1623) HT_ HW_ hHeld ?_
     refine qT 13 (some 41) (bN 19 9815) HT_ HW_ hHeld ?_
     refine Zg (i:=3) (N:=some 31) (bN 19 9823) rfl rfl (Q1 HT_.out kr) (by decide) (fun K hK=>?_)
     refine Ze Try.func29 kr rfl #[.agg #[.int .i64 I,.int .i64 J]] (by rfl) rfl rfl qM ?_
     refine(Y9 I J _).mono ?_
     rintro e ea ⟨ap,rfl,hgp,hgw,hb⟩
     have bo:=Aside0.mk hgp
     clear hgp hgw
     refine⟨_,rfl, ?_⟩
     replace Y:=sBk Y hb
     replace Z:=sBk Z hb
     replace ρ:=sBk ρ hb
     replace ν :=sBk ν hb
     replace μ :=sBk μ hb
     replace O:=sBk O hb
     replace HB:=sHb hb
     (try clear hb)
     (try clear a0)
     (try clear hk)
     (try clear hi)
     refine hK.out _ _ ⟨qc Y,qc Y,qc Z,qc Z,qc O,qc O⟩ (fun hHeld=>?_)
     clear hK K
     refine qN (some 31) ?_
     refine Zg (i:=5) (N:=some 33) (bN 19 9855) rfl rfl (Q1 HT_.out kr) (by decide) (fun K hK=>?_)
     refine Xm Try.func50 kr rfl #[] #[.pointer (some ⟨ap,0,none⟩)] #[.agg #[.int .i64 ζ,.int .i64 L]] #[.agg #[.int .i64 ζ,.int .i64 L],.pointer (some ⟨ap,0,none⟩)] rfl (by rfl) rfl rfl rfl qM ?_
     refine(Yv I J ζ L σ _ (Option.some.inj ic.out) ap bo.out).mono ?_
     rintro e gj ⟨rfl,hb⟩
     refine⟨_,rfl, ?_⟩
     replace Y:=sBk Y hb
     replace Z:=sBk Z hb
     replace ρ:=sBk ρ hb
     replace ν :=sBk ν hb
     replace μ :=sBk μ hb
     replace O:=sBk O hb
     replace HB:=sHb hb
     (try clear hb)
     (try clear a0)
     (try clear hk)
     (try clear hi)
     refine hK.out _ _ ⟨qc Y,qc Y,qc Z,qc Z,qc O,qc O⟩ (fun hHeld=>?_)
     clear hK K
     refine qN (some 33) ?_
     refine Zg (i:=7) (N:=some 35) (bN 19 9983) rfl rfl (Q1 HT_.out kr) (by decide) (fun K hK=>?_)
     refine Ze Try.func30 kr rfl #[.agg #[.slice η B.length δ,.slice θ D.length ε]] (by rfl) rfl rfl qM ?_
     refine(Yb η θ B.length D.length δ ε _).mono ?_
     rintro e eb ⟨rfl,hb⟩
     refine⟨_,rfl, ?_⟩
     replace Y:=sBk Y hb
     replace Z:=sBk Z hb
     replace ρ:=sBk ρ hb
     replace ν :=sBk ν hb
     replace μ :=sBk μ hb
     replace O:=sBk O hb
     replace HB:=sHb hb
     (try clear hb)
     (try clear a0)
     (try clear hk)
     (try clear hi)
     refine hK.out _ _ ⟨qc Y,qc Y,qc Z,qc Z,qc O,qc O⟩ (fun hHeld=>?_)
     clear hK K
     refine qN (some 35) ?_
     refine qP 8 (some 36) (bN 19 10239) HT_ ?_
     refine Zg (i:=11) (N:=some 39) (bN 19 12287) rfl rfl (Q1 HT_.out kr) (by decide) (fun K hK=>?_)
     refine Ze Try.func32 kr rfl #[.agg #[.slice η B.length δ,.slice θ D.length ε]] (by rfl) rfl rfl qM ?_
     refine(Yi η θ B.length D.length δ ε _).mono ?_
     rintro e ec ⟨rfl,hb⟩
     refine⟨_,rfl, ?_⟩
     replace Y:=sBk Y hb
     replace Z:=sBk Z hb
     replace ρ:=sBk ρ hb
     replace ν :=sBk ν hb
     replace μ :=sBk μ hb
     replace O:=sBk O hb
     replace HB:=sHb hb
     (try clear hb)
     (try clear a0)
     (try clear hk)
     (try clear hi)
     refine hK.out _ _ ⟨qc Y,qc Y,qc Z,qc Z,qc O,qc O⟩ (fun hHeld=>?_)
     clear hK K
     refine qN (some 39) ?_
     refine qP 12 (some 40) (bN 19 16383) HT_ ?_
     refine Zg (i:=14) (N:=some 42) (bN 19 32767) rfl rfl (Q1 HT_.out kr) (by decide) (fun K hK=>?_)
     refine Ze Try.func28 kr rfl #[.agg #[.int .i64 I,.int .i64 J],.agg #[.slice η B.length δ,.slice θ D.length ε],.bool σ,.func (.func 31) #[.agg #[.slice η B.length δ,.func (.func 51) #[] #[]]] #[],.agg #[.int .i64 (-2),.int .i64 0,.int .i64 0],.func (.func 33) #[.agg #[.slice θ D.length ε,.func (.func 57) #[] #[]]] #[],.agg #[.int .i64 ζ,.int .i64 L]] (by rfl) rfl rfl qM ?_
     refine(call_change.calls _ _ k I J η δ B θ ε D σ 0 (-2) 0 0 0 ζ L di e5 bg _ ?side1 ?side2 ?side3 ?side4 d6.out 31 Try.f31 (.agg #[.slice η B.length δ,.func (.func 51) #[] #[]]) Try.func31 kr rfl (fun W t ht hb=>Ju η δ B _ _ _ t W (Kd.Qx (Kd.Qx ag.out (by repeat(first|(with_reducible first|exact HB.out|apply Qh|apply Qb|apply Qf)|exact HB.out|(refine Qc ?_ (Aside0.out (by assumption)))))) hb) ar.out ht) 33 Try.f33 (.agg #[.slice θ D.length ε,.func (.func 57) #[] #[]]) Try.func33 kr rfl (fun W t ht hb=>G4 θ ε D _ _ t W (Kd.Qx (Kd.Qx ah.out (by repeat(first|(with_reducible first|exact HB.out|apply Qh|apply Qb|apply Qf)|exact HB.out|(refine Qc ?_ (Aside0.out (by assumption)))))) hb) aw.out ht)).mono ?_
     (case side1=>exact(Kd.Qx ag.out HB.out))
     (case side2=>exact ar.out)
     (case side3=>exact(Kd.Qx ah.out HB.out))
     (case side4=>exact aw.out)
     rintro e fb ⟨j4,j5,rfl,φ,a7,hb⟩
     refine⟨_,rfl, ?_⟩
     have ci:=Aside0.mk (Kd.Q2 (Kd.Zs φ (g:=ao) (o:=.cells #[.int .i64 L,.int .i64 0,.int .i64 (-1)] 56 (0,0)) μ.out) (Qi HB.out))
     have eh:=Aside0.mk (Kd.Q2 (Kd.Zs a7 (g:=a2) (o:=.cells #[.int .i64 ζ,.int .i64 L] 62 (0,0)) O.out) (Qi HB.out))
     replace Y:=sBk Y hb
     replace Z:=sBk Z hb
     replace ρ:=sBk ρ hb
     replace ν :=sBk ν hb
     replace μ :=sBk μ hb
     replace O:=sBk O hb
     replace HB:=sHb hb
     (try clear hb)
     (try clear a0)
     (try clear hk)
     (try clear hi)
     (try clear φ)
     (try clear a7)
     obtain⟨d7,d9,da⟩:=Kd.Q4 ci.out
     (first|subst da|(injection da with ψ aa ω;have ab:= ψ.symm;have ac:= ω.symm;clear ψ aa ω;subst ab;subst ac))
     obtain⟨er,et,dt⟩:=Kd.Q4 eh.out
     (first|subst dt|(injection dt with ψ aa ω;have ab:= ψ.symm;have ac:= ω.symm;clear ψ aa ω;subst ab;subst ac))
     refine hK.out _ _ ⟨qc Y,qc Y,qc Z,qc Z,qc O,qc O⟩ (fun hHeld=>?_)
     clear hK K
     refine qN (some 42) ?_
     refine qP 15 (some 43) (bN 19 65535) HT_ ?_
     refine qP 16 (some 44) (bN 19 131071) HT_ ?_
     refine Zg (i:=17) (N:=none) (bN 19 262143) rfl rfl (Q1 HT_.out kr) (by decide) (fun K hK=>?_)
     have gq:fb.cell? ⟨τ,0,none⟩=some (.slice none 0 0):=(Ql ν.out 0).trans rfl
     have gf:=Q6 ν.out 0
     have en:=a9.out
     have eo:=ae.out
     have eu:=bf.out
     have ev:=a6.out
     have gr:=aj.out
     have ez:=bk.out
     have f3:=bl.out
     have f4:=bh.out
     have ff:=am.out
     have gv:=bi.out
     have gs:fb.cell? ⟨τ,1,none⟩=some (.slice none 0 0):=(Ql ν.out 1).trans rfl
     have gg:=Q6 ν.out 1
     have fg:=a9.out
     have fh:=ae.out
     have fi:=bf.out
     have fj:=a6.out
     have gw:=aj.out
     have fk:=bk.out
     have fl:=bl.out
     have fm:=bh.out
     have fn:=am.out
     have gx:=bi.out
     refine Js (w1:=?_) (by rfl) rfl ?_ ?_
     rotate_left
     ·go_simp
      rfl
     refine hK.out _ _ ⟨((cell_far (p:=⟨τ,_,none⟩) a9.out _).trans (((cell_far (p:=⟨τ,_,none⟩) a9.out _).trans (hHeld.1)))),((cell_far (p:=⟨τ,_,none⟩) a9.out _).trans (((cell_far (p:=⟨τ,_,none⟩) a9.out _).trans (hHeld.2.1)))),((cell_far (p:=⟨τ,_,none⟩) ae.out _).trans (((cell_far (p:=⟨τ,_,none⟩) ae.out _).trans (hHeld.2.2.1)))),((cell_far (p:=⟨τ,_,none⟩) ae.out _).trans (((cell_far (p:=⟨τ,_,none⟩) ae.out _).trans (hHeld.2.2.2.1)))),((cell_far (p:=⟨τ,_,none⟩) aj.out _).trans (((cell_far (p:=⟨τ,_,none⟩) aj.out _).trans (hHeld.2.2.2.2.1)))),((cell_far (p:=⟨τ,_,none⟩) aj.out _).trans (((cell_far (p:=⟨τ,_,none⟩) aj.out _).trans (hHeld.2.2.2.2.2))))⟩ (fun hHeld=>?_)
     clear hK K
     refine qP 18 (some 7) (bN 19 524287) HT_ ?_
     refine Zu (Zj HT_.out kr) ?_
     try go_wp2
     refine bodyPost_ret (Xi rfl _ _ τ 27 #[.slice d7 di.length d9,.slice er e5.length et] (0,0) _ rfl (by refine Qv (cs:=#[.slice d7 di.length d9,.slice none 0 0]) ?_ 1 _ rfl;refine Qv (cs:=#[.slice none 0 0,.slice none 0 0]) ?_ 0 _ rfl;exact ν.out) Try.underlying27 rfl kr) rfl ?_
     exact⟨_,_,by first|rfl|(simp[Qz,Qy] <;> rfl)|(simp[*,Qz,Qy] <;> rfl),by(with_reducible repeat first|apply Kd.Qk|apply Kd.Qj|apply Kd.Qn);exact Kd.Qq (Kd.Qs (Kd.Qs (Kd.Qw ci.out ν.out (by decide)) (fun _ hk=>hk.2) _) (fun _ hk=>hk.2) _) (fun _ hk=>trivial),by(with_reducible repeat first|apply Kd.Qk|apply Kd.Qj|apply Kd.Qn);exact Kd.Qq (Kd.Qs (Kd.Qs (Kd.Qw eh.out ν.out (by decide)) (fun _ hk=>hk.2) _) (fun _ hk=>hk.2) _) (fun _ hk=>trivial),bel⟩
    ·rw[if_neg dr] at H
     have c42b0:(X==2)=false:=beq_eq_false_iff_ne.mpr dr
     have c42b1:(X != 2)=true:=bne_iff_ne.mpr dr
     have H':=Aside0.mk H
     clear H
     go_wp2
     go_meet
     case rel=>exact⟨_,(0),H',⟨by first|omega|exact Nat.le_refl _⟩,⟨bka Y⟩,⟨bka Z⟩,⟨bka ρ⟩,⟨bka ν⟩,⟨bka μ⟩,⟨by(with_reducible repeat first|apply Qd|apply Qa|apply Qe);refine Qv (cs:=#[.int .i64 ζ,.int .i64 0]) ?_ 1 _ rfl;(with_reducible repeat first|apply Qd|apply Qa|apply Qe);refine Qv (cs:=#[.int .i64 0,.int .i64 0]) ?_ 0 _ rfl;(with_reducible repeat first|apply Qd|apply Qa|apply Qe);exact O.out⟩,⟨bel⟩⟩
 case rest=>
  clear fz
  try clear c1
  try clear c2
  try clear p2
  try clear c3
  try clear c4
  try clear c5
  try clear c9
  try clear c10
  try clear cb
  try clear az
  try clear a8
  try clear a3
  try clear au
  try clear cr
  try clear k9
  try clear ja
  try clear ib
  try clear bc
  try clear ak
  try clear c28b0
  try clear c28b1
  try clear cf
  try clear mb
  try clear n2
  try clear k3
  try clear l2
  try clear d1
  try clear c35b0
  try clear c35b1
  try clear k0
  try clear ep
  try clear k8
  try clear mc
  try clear ky
  try clear dr
  try clear c42b0
  try clear c42b1
  try clear na
  try clear av
  try clear ax
  try clear f7
  try clear bu
  try clear bw
  try clear db
  try clear b1
  try clear b2
  try clear cv
  try clear cm
  try clear cn
  try clear cx
  try clear cy
  try clear f9
  try clear e6
  try clear e7
  try clear fq
  try clear cj
  try clear ck
  try clear ft
  try clear ay
  try clear b0
  try clear f8
  try clear bz
  try clear ca
  try clear dd
  try clear b3
  try clear b8
  try clear cw
  try clear co
  try clear cp
  try clear cz
  try clear d0
  try clear fa
  try clear e8
  try clear e9
  try clear fr
  try clear cq
  try clear cu
  try clear fu
  obtain⟨kq,af,HA,jb,Y,Z,ρ,ν,μ,O,HB⟩:=hcut
  cases kq with
  |zero=>exact absurd HA.out (by simp[call_Press.j0])
  |succ gm=>
   have H:=HA.out
   clear HA
   simp only[call_Press.j0] at H
   replace H:=Option.bind_eq_some_iff.mp H
   obtain⟨ai,g7,H⟩:=H
   replace H:((call_change.f (withP_H.f L af (-1) B) (woP_I.f (-2) 0 D) gm I J B D ai 0 L af (-1) 0 (-2) 0).bind fun bm=>(some (bm.1,bm.2.1,bm.2.2)))=some (r1,r2,r3):=H
   have ih:=Aside0.mk g7
   clear g7
   replace H:=Option.bind_eq_some_iff.mp H
   obtain⟨⟨dj,ee,g8⟩,g9,H⟩:=H
   replace H:(some (dj,ee,g8))=some (r1,r2,r3):=H
   have ii:=Aside0.mk g9
   clear g9
   simp only[Option.some.injEq,Prod.mk.injEq] at H
   obtain⟨rfl,rfl,rfl⟩:=H
   try go_wp2
   replace Y:=Aside0.mk (Qa Y.out)
   replace Z:=Aside0.mk (Qa Z.out)
   replace ρ:=Aside0.mk (Qa ρ.out)
   replace ν :=Aside0.mk (Qa ν.out)
   replace μ :=Aside0.mk (Qa μ.out)
   replace O:=Aside0.mk (Qa O.out)
   replace HB:=Aside0.mk (Qf HB.out)
   refine Zn (n:=19) (S:=fun w'=>w'.cell? ⟨a5,0,none⟩=some (.int .i64 I)∧w'.cell? ⟨a5,1,none⟩=some (.int .i64 J)∧w'.cell? ⟨be,0,none⟩=some (.slice η B.length δ)∧w'.cell? ⟨be,1,none⟩=some (.slice θ D.length ε)∧w'.cell? ⟨ao,0,none⟩=some (.int .i64 L)∧w'.cell? ⟨ao,1,none⟩=some (.int .i64 af)∧w'.cell? ⟨ao,2,none⟩=some (.int .i64 (-1))) (ds:=[]) #[false,false,false,false,false,false,false,false,false,false,false,false,false,false,false,false,false,false,false] kr rfl rfl ⟨(Ql Y.out 0).trans rfl,(Ql Y.out 1).trans rfl,(Ql Z.out 0).trans rfl,(Ql Z.out 1).trans rfl,(Ql μ.out 0).trans rfl,(Ql μ.out 1).trans rfl,(Ql μ.out 2).trans rfl⟩ (fun hHeld=>?_);refine Q8 call_Press.tab10 call_Press.N1 (fun HT_ HW_=>?_)
   generalize wc.drew=ij at Y Z ρ ν μ O HB hHeld ⊢
   refine qP 13 (some 58) (bN 19 8192) HT_ ?_
   refine qT 0 (some 45) (bN 19 8193) HT_ HW_ hHeld ?_
   refine qT 1 (some 46) (bN 19 8195) HT_ HW_ hHeld ?_
   refine qT 2 (some 47) (bN 19 8199) HT_ HW_ hHeld ?_
   refine qT 4 (some 49) (bN 19 8215) HT_ HW_ hHeld ?_
   refine qT 6 (some 51) (bN 19 8279) HT_ HW_ hHeld ?_
   refine qT 9 (some 54) (bN 19 8791) HT_ HW_ hHeld ?_
   refine qT 10 (some 55) (bN 19 9815) HT_ HW_ hHeld ?_
   refine Zg (i:=3) (N:=some 48) (bN 19 9823) rfl rfl (Q1 HT_.out kr) (by decide) (fun K hK=>?_)
   refine Ze Try.func34 kr rfl #[.agg #[.int .i64 I,.int .i64 J]] (by rfl) rfl rfl qM ?_
   refine(Ja I J _).mono ?_
   rintro e fv ⟨bb,rfl,hgp,hgw,hb⟩
   have bn:=Aside0.mk hgp
   clear hgp hgw
   refine⟨_,rfl, ?_⟩
   replace Y:=sBk Y hb
   replace Z:=sBk Z hb
   replace ρ:=sBk ρ hb
   replace ν :=sBk ν hb
   replace μ :=sBk μ hb
   replace O:=sBk O hb
   replace HB:=sHb hb
   (try clear hb)
   (try clear a0)
   (try clear hk)
   (try clear hi)
   refine hK.out _ _ ⟨qc Y,qc Y,qc Z,qc Z,qc μ,qc μ,qc μ⟩ (fun hHeld=>?_)
   clear hK K
   refine qN (some 48) ?_
   refine Zg (i:=5) (N:=some 50) (bN 19 9855) rfl rfl (Q1 HT_.out kr) (by decide) (fun K hK=>?_)
   refine Xm Try.func61 kr rfl #[] #[.pointer (some ⟨bb,0,none⟩)] #[.agg #[.int .i64 L,.int .i64 af,.int .i64 (-1)]] #[.agg #[.int .i64 L,.int .i64 af,.int .i64 (-1)],.pointer (some ⟨bb,0,none⟩)] rfl (by rfl) rfl rfl rfl qM ?_
   refine(Ke I J L af (-1) ai _ (Option.some.inj ih.out) bb bn.out).mono ?_
   rintro e gi ⟨rfl,hb⟩
   refine⟨_,rfl, ?_⟩
   replace Y:=sBk Y hb
   replace Z:=sBk Z hb
   replace ρ:=sBk ρ hb
   replace ν :=sBk ν hb
   replace μ :=sBk μ hb
   replace O:=sBk O hb
   replace HB:=sHb hb
   (try clear hb)
   (try clear a0)
   (try clear hk)
   (try clear hi)
   refine hK.out _ _ ⟨qc Y,qc Y,qc Z,qc Z,qc μ,qc μ,qc μ⟩ (fun hHeld=>?_)
   clear hK K
   refine qN (some 50) ?_
   refine Zg (i:=7) (N:=some 52) (bN 19 9983) rfl rfl (Q1 HT_.out kr) (by decide) (fun K hK=>?_)
   refine Ze Try.func30 kr rfl #[.agg #[.slice η B.length δ,.slice θ D.length ε]] (by rfl) rfl rfl qM ?_
   refine(Yb η θ B.length D.length δ ε _).mono ?_
   rintro e fw ⟨rfl,hb⟩
   refine⟨_,rfl, ?_⟩
   replace Y:=sBk Y hb
   replace Z:=sBk Z hb
   replace ρ:=sBk ρ hb
   replace ν :=sBk ν hb
   replace μ :=sBk μ hb
   replace O:=sBk O hb
   replace HB:=sHb hb
   (try clear hb)
   (try clear a0)
   (try clear hk)
   (try clear hi)
   refine hK.out _ _ ⟨qc Y,qc Y,qc Z,qc Z,qc μ,qc μ,qc μ⟩ (fun hHeld=>?_)
   clear hK K
   refine qN (some 52) ?_
   refine qP 8 (some 53) (bN 19 10239) HT_ ?_
   refine Zg (i:=11) (N:=some 56) (bN 19 12287) rfl rfl (Q1 HT_.out kr) (by decide) (fun K hK=>?_)
   refine Ze Try.func32 kr rfl #[.agg #[.slice η B.length δ,.slice θ D.length ε]] (by rfl) rfl rfl qM ?_
   refine(Yi η θ B.length D.length δ ε _).mono ?_
   rintro e fx ⟨rfl,hb⟩
   refine⟨_,rfl, ?_⟩
   replace Y:=sBk Y hb
   replace Z:=sBk Z hb
   replace ρ:=sBk ρ hb
   replace ν :=sBk ν hb
   replace μ :=sBk μ hb
   replace O:=sBk O hb
   replace HB:=sHb hb
   (try clear hb)
   (try clear a0)
   (try clear hk)
   (try clear hi)
   refine hK.out _ _ ⟨qc Y,qc Y,qc Z,qc Z,qc μ,qc μ,qc μ⟩ (fun hHeld=>?_)
   clear hK K
   refine qN (some 56) ?_
   refine qP 12 (some 57) (bN 19 16383) HT_ ?_
   refine Zg (i:=14) (N:=some 59) (bN 19 32767) rfl rfl (Q1 HT_.out kr) (by decide) (fun K hK=>?_)
   refine Ze Try.func28 kr rfl #[.agg #[.int .i64 I,.int .i64 J],.agg #[.slice η B.length δ,.slice θ D.length ε],.bool ai,.func (.func 35) #[.agg #[.slice η B.length δ,.func (.func 51) #[] #[]]] #[],.agg #[.int .i64 L,.int .i64 af,.int .i64 (-1)],.func (.func 36) #[.agg #[.slice θ D.length ε,.func (.func 57) #[] #[]]] #[],.agg #[.int .i64 (-2),.int .i64 0]] (by rfl) rfl rfl qM ?_
   refine(call_change.calls _ _ gm I J η δ B θ ε D ai 0 L af (-1) 0 (-2) 0 dj ee g8 _ ?side1 ?side2 ?side3 ?side4 ii.out 35 Try.f35 (.agg #[.slice η B.length δ,.func (.func 51) #[] #[]]) Try.func35 kr rfl (fun W t ht hb=>G5 η δ B _ _ _ t W (Kd.Qx (Kd.Qx ag.out (by repeat(first|(with_reducible first|exact HB.out|apply Qh|apply Qb|apply Qf)|exact HB.out|(refine Qc ?_ (Aside0.out (by assumption)))))) hb) ar.out ht) 36 Try.f36 (.agg #[.slice θ D.length ε,.func (.func 57) #[] #[]]) Try.func36 kr rfl (fun W t ht hb=>Y5 θ ε D _ _ t W (Kd.Qx (Kd.Qx ah.out (by repeat(first|(with_reducible first|exact HB.out|apply Qh|apply Qb|apply Qf)|exact HB.out|(refine Qc ?_ (Aside0.out (by assumption)))))) hb) aw.out ht)).mono ?_
   (case side1=>exact(Kd.Qx ag.out HB.out))
   (case side2=>exact ar.out)
   (case side3=>exact(Kd.Qx ah.out HB.out))
   (case side4=>exact aw.out)
   rintro e ef ⟨j6,j7,rfl,φ,a7,hb⟩
   refine⟨_,rfl, ?_⟩
   have ei:=Aside0.mk (Kd.Q2 (Kd.Zs φ (g:=ao) (o:=.cells #[.int .i64 L,.int .i64 af,.int .i64 (-1)] 56 (0,0)) μ.out) (Qi HB.out))
   have em:=Aside0.mk (Kd.Q2 (Kd.Zs a7 (g:=a2) (o:=.cells #[.int .i64 ζ,.int .i64 L] 62 (0,0)) O.out) (Qi HB.out))
   replace Y:=sBk Y hb
   replace Z:=sBk Z hb
   replace ρ:=sBk ρ hb
   replace ν :=sBk ν hb
   replace μ :=sBk μ hb
   replace O:=sBk O hb
   replace HB:=sHb hb
   (try clear hb)
   (try clear a0)
   (try clear hk)
   (try clear hi)
   (try clear φ)
   (try clear a7)
   obtain⟨ga,gb,ge⟩:=Kd.Q4 ei.out
   (first|subst ge|(injection ge with ψ aa ω;have ab:= ψ.symm;have ac:= ω.symm;clear ψ aa ω;subst ab;subst ac))
   obtain⟨cg,ch,dk⟩:=Kd.Q4 em.out
   (first|subst dk|(injection dk with ψ aa ω;have ab:= ψ.symm;have ac:= ω.symm;clear ψ aa ω;subst ab;subst ac))
   refine hK.out _ _ ⟨qc Y,qc Y,qc Z,qc Z,qc μ,qc μ,qc μ⟩ (fun hHeld=>?_)
   clear hK K
   refine qN (some 59) ?_
   refine qP 15 (some 60) (bN 19 65535) HT_ ?_
   refine qP 16 (some 61) (bN 19 131071) HT_ ?_
   refine Zg (i:=17) (N:=none) (bN 19 262143) rfl rfl (Q1 HT_.out kr) (by decide) (fun K hK=>?_)
   have j8:ef.cell? ⟨τ,0,none⟩=some (.slice none 0 0):=(Ql ν.out 0).trans rfl
   have j2:=Q6 ν.out 0
   have gy:=a9.out
   have gz:=ae.out
   have h0:=bf.out
   have h4:=a6.out
   have h5:=aj.out
   have h6:=bk.out
   have h7:=bl.out
   have hh:=bh.out
   have hj:=am.out
   have hl:=bi.out
   have j9:ef.cell? ⟨τ,1,none⟩=some (.slice none 0 0):=(Ql ν.out 1).trans rfl
   have j3:=Q6 ν.out 1
   have ho:=a9.out
   have hy:=ae.out
   have i0:=bf.out
   have i1:=a6.out
   have i2:=aj.out
   have i5:=bk.out
   have i6:=bl.out
   have i7:=bh.out
   have i9:=am.out
   have ia:=bi.out
   refine Js (w1:=?_) (by rfl) rfl ?_ ?_
   rotate_left
   ·go_simp
    rfl
   refine hK.out _ _ ⟨((cell_far (p:=⟨τ,_,none⟩) a9.out _).trans (((cell_far (p:=⟨τ,_,none⟩) a9.out _).trans (hHeld.1)))),((cell_far (p:=⟨τ,_,none⟩) a9.out _).trans (((cell_far (p:=⟨τ,_,none⟩) a9.out _).trans (hHeld.2.1)))),((cell_far (p:=⟨τ,_,none⟩) ae.out _).trans (((cell_far (p:=⟨τ,_,none⟩) ae.out _).trans (hHeld.2.2.1)))),((cell_far (p:=⟨τ,_,none⟩) ae.out _).trans (((cell_far (p:=⟨τ,_,none⟩) ae.out _).trans (hHeld.2.2.2.1)))),((cell_far (p:=⟨τ,_,none⟩) a6.out _).trans (((cell_far (p:=⟨τ,_,none⟩) a6.out _).trans (hHeld.2.2.2.2.1)))),((cell_far (p:=⟨τ,_,none⟩) a6.out _).trans (((cell_far (p:=⟨τ,_,none⟩) a6.out _).trans (hHeld.2.2.2.2.2.1)))),((cell_far (p:=⟨τ,_,none⟩) a6.out _).trans (((cell_far (p:=⟨τ,_,none⟩) a6.out _).trans (hHeld.2.2.2.2.2.2))))⟩ (fun hHeld=>?_)
   clear hK K
   refine qP 18 (some 7) (bN 19 524287) HT_ ?_
   refine Zu (Zj HT_.out kr) ?_
   try go_wp2
   refine bodyPost_ret (Xi rfl _ _ τ 27 #[.slice ga dj.length gb,.slice cg ee.length ch] (0,0) _ rfl (by refine Qv (cs:=#[.slice ga dj.length gb,.slice none 0 0]) ?_ 1 _ rfl;refine Qv (cs:=#[.slice none 0 0,.slice none 0 0]) ?_ 0 _ rfl;exact ν.out) Try.underlying27 rfl kr) rfl ?_
   exact⟨_,_,by first|rfl|(simp[Qz,Qy] <;> rfl)|(simp[*,Qz,Qy] <;> rfl),by(with_reducible repeat first|apply Kd.Qk|apply Kd.Qj|apply Kd.Qn);exact Kd.Qq (Kd.Qs (Kd.Qs (Kd.Qw ei.out ν.out (by decide)) (fun _ hk=>hk.2) _) (fun _ hk=>hk.2) _) (fun _ hk=>trivial),by(with_reducible repeat first|apply Kd.Qk|apply Kd.Qj|apply Kd.Qn);exact Kd.Qq (Kd.Qs (Kd.Qs (Kd.Qw em.out ν.out (by decide)) (fun _ hk=>hk.2) _) (fun _ hk=>hk.2) _) (fun _ hk=>trivial),bel⟩
end Go.Proofs.Ytjehhhlhalkieaa.C
namespace Go.Proofs.Ytjehhhlhalkieaa.Call
open Go.RowKit Go.Proofs.YtjehhhlhalkieaaW.PrintWords Go.Proofs.YtjehhhlhalkieaaW.PrintLast Go.Proofs.YtjehhhlhalkieaaW.PrintMore Go.Proofs.Ytjehhhlhalkieaa.C
set_option linter.unusedVariables false
set_option linter.unusedSimpArgs false
abbrev Hall:=S56
abbrev Ins:=S62
def i64 (x:Int):Prop:= -9223372036854775808≤x∧x≤9223372036854775807
theorem Vb (a lo hi:Int):call_within.f a lo hi=some (decide (lo≤a∧a≤hi)):=by
  unfold call_within.f
  by_cases h:lo≤a <;> simp[h]
def okB (F C:Int) (H:List Hall) (I:List Ins):Bool:=decide (2≤F∧F≤64)&&(decide (1≤C∧C≤8)&&(Zo (fun x=>Xp F C x.f0 x.f1 x.f2) ltH none H&&Zo (fun x=>Y0 F C x.f0 x.f1) ltI none I))
theorem Kk {n:Nat} {C:Int} (h:n<1000000000) (hC:i64 C):small n C=true:=decide_eq_true ⟨h,hC.1,hC.2⟩
theorem L9 (k:Nat) (F C:Int) (H:List Hall) (I:List Ins) (hH:H.length<900000000) (hI:I.length<900000000) (hC:i64 C):call_Check.f (k+1) F C H I=some (if okB F C H I=true then 0 else 190):=by
  unfold call_Check.f rightP_H.f rightP_I.f okB
  rw[Vb,Vb,if_pos (Kk (by omega) hC),if_pos (Kk (by omega) hC)]
  simp only[Option.bind_some]
  cases decide (2≤F∧F≤64) <;> cases decide (1≤C∧C≤8) <;> cases Zo (fun x:Hall=>Xp F C x.f0 x.f1 x.f2) ltH none H <;> cases Zo (fun x:Ins=>Y0 F C x.f0 x.f1) ltI none I <;> simp[call_Check.j0]
theorem Lb (U:Option (List Hall)) (V:Option (List Ins)) (k:Nat) (F C:Int) (H:List Hall) (I:List Ins) (is:Bool) (X B D J a5 L O:Int) (hH:H.length<900000000) (hI:I.length<900000000) (hC:i64 C):
    call_change.f U V (k+1) F C H I is X B D J a5 L O=if okB F C H I=true then (if is=true then U.bind fun a=>V.bind fun b=>some (a,b,0) else some ([],[],191)) else some ([],[],190):=by
  unfold call_change.f
  rw[L9 k F C H I hH hI hC]
  cases okB F C H I <;> simp
theorem Jk {F C:Int} {H:List Hall} {I:List Ins}:okB F C H I=true↔((2≤F∧F≤64)∧(1≤C∧C≤8)∧((∀ x ∈ H,Xp F C x.f0 x.f1 x.f2=true)∧H.Pairwise (fun x y=>ltH x y=true))∧((∀ x ∈ I,Y0 F C x.f0 x.f1=true)∧I.Pairwise (fun x y=>ltI x y=true))):=by
  unfold okB
  simp only[Bool.and_eq_true,decide_eq_true_eq]
  rw[Y7,K5]
theorem U8 (x:Int) (h:1≤x∧x≤64):wrap64 (x-1)=x-1:=by unfold wrap64;omega
theorem L2 {F C:Int} {J L X:Int} (hF:2≤F∧F≤64) (hC:1≤C∧C≤8):Xp F C J L X=true↔((L=1∨L = -1)∧(0≤J∧J≤F-1)∧(0≤J+L∧J+L≤F-1)∧(-1≤X∧X≤C-1)):=by
  unfold Xp
  rw[decide_eq_true_eq,U8 F (by omega),U8 C (by omega)]
  constructor
  · rintro⟨h1,O,D,I⟩
    rw[show wrap64 (J+L)=J+L from by unfold wrap64;omega] at D
    exact⟨h1,O,D,I⟩
  · rintro⟨h1,O,D,I⟩
    rw[show wrap64 (J+L)=J+L from by unfold wrap64;omega]
    exact⟨h1,O,D,I⟩
theorem We {F C:Int} {J L:Int} (hF:2≤F∧F≤64) (hC:1≤C∧C≤8):Y0 F C J L=true↔((0≤J∧J≤C-1)∧(0≤L∧L≤F-1)):=by
  unfold Y0
  rw[decide_eq_true_eq,U8 F (by omega),U8 C (by omega)]
theorem V5 {F C:Int} {H:List Hall} {I:List Ins} (h:okB F C H I=true):Zo (fun _=>true) ltH none H=true:=(Y7 _ _).2 ⟨fun _ _=>rfl,(Jk.1 h).2.2.1.2⟩
theorem Le {F C:Int} {H:List Hall} {I:List Ins} (h:okB F C H I=true) (J L:Int) (hx:J<0):woI J L I=I:=by
  obtain⟨hF,hC,_,h1,_⟩:=Jk.1 h
  unfold woI
  rw[List.filter_eq_self]
  intro y hy
  have:=(We hF hC).1 (h1 y hy)
  have hne:¬ Z7 J L y.f0 y.f1=0:=by rw[Ym];omega
  simp[hne]
theorem Nv (H:List Hall) (I:List Ins) (hH:H.length<900000000) (hI:I.length<900000000):newellaw19_Own.f H I=some (H,I):=by
  unfold newellaw19_Own.f
  simp only[Option.bind_some,List.length_nil,Nat.zero_add,List.nil_append]
  rw[if_pos (by omega),if_pos (by omega)]
end Go.Proofs.Ytjehhhlhalkieaa.Call
namespace Go.Proofs.Ytjehhhlhalkieaa.C
open Go.RowKit Go.Proofs.YtjehhhlhalkieaaW.PrintWords Go.Proofs.YtjehhhlhalkieaaW.PrintLast Go.Proofs.YtjehhhlhalkieaaW.PrintMore
attribute [local go_sem] Z2 Z0 Xb Xa Zq Zp Z1 Zz
set_option linter.unusedVariables false
set_option linter.unusedSimpArgs false
def newellaw19_awake.f (k:Nat):Option (Bool):=(call_Press.f k 4 2 ([]:List (S56)) ([]:List (S62)) 0 2 0).bind fun a6=>((call_Press.f k 4 2 a6.1 a6.2.1 1 2 0).bind fun ν =>((call_Give.f k 4 2 ν.1 ν.2.1 2 1 1).bind fun ψ =>((call_View.f k 4 2 ψ.1 ψ.2.1 1).bind fun ah=>((call_Serve.f k 4 2 ψ.1 ψ.2.1 0 2 1).bind fun ab=>(if a6.2.2=0 then (if ν.2.2=0 then ((newelref19_Same.f k ν.1 ν.2.1 (([(⟨2,(-1),(-1)⟩:S56),(⟨2,1,(-1)⟩:S56)]:List (S56))) ([]:List (S62))).bind fun ag=>(if ag=true then (if ψ.2.2=0 then (if (ah.2.1.length:Int)=1 then (if ah.2.2.2=0 then (if (ab.1.length:Int)=1 then (if ab.2.2=0 then ((call_Same.f k a6.1 a6.2.1 a6.1 a6.2.1).bind fun aa=>(if aa=true then ((call_Same.f k a6.1 a6.2.1 ν.1 ν.2.1).bind fun a5=>(if a5=true then (none) else ((call_Check.f k 4 2 ν.1 ν.2.1).bind fun τ =>(some (τ == 0))))) else (none))) else (none)) else (none)) else (none)) else (none)) else (none)) else (none))) else (none)) else (none))))))
theorem newellaw19_awake.mono:∀ k,LeO (newellaw19_awake.f k) (newellaw19_awake.f (k+1)):=by
 intro  k
 unfold newellaw19_awake.f
 repeat' first
   |(with_reducible exact call_Check.mono _ _ _ _ _)
   |(with_reducible exact call_Give.mono _ _ _ _ _ _ _ _)
   |(with_reducible exact call_Press.mono _ _ _ _ _ _ _ _)
   |(with_reducible exact call_Same.mono _ _ _ _ _)
   |(with_reducible exact call_Serve.mono _ _ _ _ _ _ _ _)
   |(with_reducible exact call_View.mono _ _ _ _ _ _)
   |(with_reducible exact newelref19_Same.mono _ _ _ _ _)
   |(with_reducible exact LeO.refl _)
   |(with_reducible exact LeO.none _)
   |(with_reducible refine LeO.ite ?_ ?_)
   |(with_reducible refine LeO.bind ?_ (fun _=>?_))
   |exact call_Check.mono _ _ _ _ _
   |exact call_Give.mono _ _ _ _ _ _ _ _
   |exact call_Press.mono _ _ _ _ _ _ _ _
   |exact call_Same.mono _ _ _ _ _
   |exact call_Serve.mono _ _ _ _ _ _ _ _
   |exact call_View.mono _ _ _ _ _ _
   |exact newelref19_Same.mono _ _ _ _ _
   |exact LeO.none _
   |refine LeO.ite ?_ ?_
   |refine LeO.bind ?_ (fun _=>?_)
set_option maxHeartbeats 8000000 in
set_option maxRecDepth 100000 in
theorem newellaw19_awake.calls (k:Nat)  (r:Bool) (w:World) (h:newellaw19_awake.f k=some r):
  Calls Try.prog 10 #[] w fun e w'=>e = .returned (.bool r)∧Below w.heap.size w w':=by
 have dn:=Try.underlying23
 have d4:=Try.underlying27
 have k2:=Try.underlying29
 have bq:=Try.underlying56
 have kc:=Try.underlying47
 have fq:=Try.underlying43
 have HB:=Aside0.mk (Below.refl w.heap.size w)
 have H:((call_Press.f k 4 2 ([]:List (S56)) ([]:List (S62)) 0 2 0).bind fun a6=>((call_Press.f k 4 2 a6.1 a6.2.1 1 2 0).bind fun ν =>((call_Give.f k 4 2 ν.1 ν.2.1 2 1 1).bind fun ψ =>((call_View.f k 4 2 ψ.1 ψ.2.1 1).bind fun ah=>((call_Serve.f k 4 2 ψ.1 ψ.2.1 0 2 1).bind fun ab=>(if a6.2.2=0 then (if ν.2.2=0 then ((newelref19_Same.f k ν.1 ν.2.1 (([(⟨2,(-1),(-1)⟩:S56),(⟨2,1,(-1)⟩:S56)]:List (S56))) ([]:List (S62))).bind fun ag=>(if ag=true then (if ψ.2.2=0 then (if (ah.2.1.length:Int)=1 then (if ah.2.2.2=0 then (if (ab.1.length:Int)=1 then (if ab.2.2=0 then ((call_Same.f k a6.1 a6.2.1 a6.1 a6.2.1).bind fun aa=>(if aa=true then ((call_Same.f k a6.1 a6.2.1 ν.1 ν.2.1).bind fun a5=>(if a5=true then (none) else ((call_Check.f k 4 2 ν.1 ν.2.1).bind fun τ =>(some (τ == 0))))) else (none))) else (none)) else (none)) else (none)) else (none)) else (none)) else (none))) else (none)) else (none)))))))=some r:=h
 clear h
 replace H:=Option.bind_eq_some_iff.mp H
 obtain⟨⟨J,δ,b1⟩,eh,H⟩:=H
 replace H:((call_Press.f k 4 2 J δ 1 2 0).bind fun ν =>((call_Give.f k 4 2 ν.1 ν.2.1 2 1 1).bind fun ψ =>((call_View.f k 4 2 ψ.1 ψ.2.1 1).bind fun ah=>((call_Serve.f k 4 2 ψ.1 ψ.2.1 0 2 1).bind fun ab=>(if b1=0 then (if ν.2.2=0 then ((newelref19_Same.f k ν.1 ν.2.1 (([(⟨2,(-1),(-1)⟩:S56),(⟨2,1,(-1)⟩:S56)]:List (S56))) ([]:List (S62))).bind fun ag=>(if ag=true then (if ψ.2.2=0 then (if (ah.2.1.length:Int)=1 then (if ah.2.2.2=0 then (if (ab.1.length:Int)=1 then (if ab.2.2=0 then ((call_Same.f k J δ J δ).bind fun aa=>(if aa=true then ((call_Same.f k J δ ν.1 ν.2.1).bind fun a5=>(if a5=true then (none) else ((call_Check.f k 4 2 ν.1 ν.2.1).bind fun τ =>(some (τ == 0))))) else (none))) else (none)) else (none)) else (none)) else (none)) else (none)) else (none))) else (none)) else (none))))))=some r:=H
 have A1:=Aside0.mk eh
 clear eh
 replace H:=Option.bind_eq_some_iff.mp H
 obtain⟨⟨σ,ζ,ao⟩,fp,H⟩:=H
 replace H:((call_Give.f k 4 2 σ ζ 2 1 1).bind fun ψ =>((call_View.f k 4 2 ψ.1 ψ.2.1 1).bind fun ah=>((call_Serve.f k 4 2 ψ.1 ψ.2.1 0 2 1).bind fun ab=>(if b1=0 then (if ao=0 then ((newelref19_Same.f k σ ζ (([(⟨2,(-1),(-1)⟩:S56),(⟨2,1,(-1)⟩:S56)]:List (S56))) ([]:List (S62))).bind fun ag=>(if ag=true then (if ψ.2.2=0 then (if (ah.2.1.length:Int)=1 then (if ah.2.2.2=0 then (if (ab.1.length:Int)=1 then (if ab.2.2=0 then ((call_Same.f k J δ J δ).bind fun aa=>(if aa=true then ((call_Same.f k J δ σ ζ).bind fun a5=>(if a5=true then (none) else ((call_Check.f k 4 2 σ ζ).bind fun τ =>(some (τ == 0))))) else (none))) else (none)) else (none)) else (none)) else (none)) else (none)) else (none))) else (none)) else (none)))))=some r:=H
 have A2:=Aside0.mk fp
 clear fp
 replace H:=Option.bind_eq_some_iff.mp H
 obtain⟨⟨ai,aj,au⟩,ae,H⟩:=H
 replace H:((call_View.f k 4 2 ai aj 1).bind fun ah=>((call_Serve.f k 4 2 ai aj 0 2 1).bind fun ab=>(if b1=0 then (if ao=0 then ((newelref19_Same.f k σ ζ (([(⟨2,(-1),(-1)⟩:S56),(⟨2,1,(-1)⟩:S56)]:List (S56))) ([]:List (S62))).bind fun ag=>(if ag=true then (if au=0 then (if (ah.2.1.length:Int)=1 then (if ah.2.2.2=0 then (if (ab.1.length:Int)=1 then (if ab.2.2=0 then ((call_Same.f k J δ J δ).bind fun aa=>(if aa=true then ((call_Same.f k J δ σ ζ).bind fun a5=>(if a5=true then (none) else ((call_Check.f k 4 2 σ ζ).bind fun τ =>(some (τ == 0))))) else (none))) else (none)) else (none)) else (none)) else (none)) else (none)) else (none))) else (none)) else (none))))=some r:=H
 have A3:=Aside0.mk ae
 clear ae
 replace H:=Option.bind_eq_some_iff.mp H
 obtain⟨⟨ba,al,bw,b3⟩,bv,H⟩:=H
 replace H:((call_Serve.f k 4 2 ai aj 0 2 1).bind fun ab=>(if b1=0 then (if ao=0 then ((newelref19_Same.f k σ ζ (([(⟨2,(-1),(-1)⟩:S56),(⟨2,1,(-1)⟩:S56)]:List (S56))) ([]:List (S62))).bind fun ag=>(if ag=true then (if au=0 then (if (al.length:Int)=1 then (if b3=0 then (if (ab.1.length:Int)=1 then (if ab.2.2=0 then ((call_Same.f k J δ J δ).bind fun aa=>(if aa=true then ((call_Same.f k J δ σ ζ).bind fun a5=>(if a5=true then (none) else ((call_Check.f k 4 2 σ ζ).bind fun τ =>(some (τ == 0))))) else (none))) else (none)) else (none)) else (none)) else (none)) else (none)) else (none))) else (none)) else (none)))=some r:=H
 have A4:=Aside0.mk bv
 clear bv
 replace H:=Option.bind_eq_some_iff.mp H
 obtain⟨⟨an,bz,bb⟩,ca,H⟩:=H
 replace H:(if b1=0 then (if ao=0 then ((newelref19_Same.f k σ ζ (([(⟨2,(-1),(-1)⟩:S56),(⟨2,1,(-1)⟩:S56)]:List (S56))) ([]:List (S62))).bind fun ag=>(if ag=true then (if au=0 then (if (al.length:Int)=1 then (if b3=0 then (if (an.length:Int)=1 then (if bb=0 then ((call_Same.f k J δ J δ).bind fun aa=>(if aa=true then ((call_Same.f k J δ σ ζ).bind fun a5=>(if a5=true then (none) else ((call_Check.f k 4 2 σ ζ).bind fun τ =>(some (τ == 0))))) else (none))) else (none)) else (none)) else (none)) else (none)) else (none)) else (none))) else (none)) else (none))=some r:=H
 have A5:=Aside0.mk ca
 clear ca
 by_cases c6:b1=0
 ·rw[if_pos c6] at H
  have c6b0:(b1==0)=true:=beq_iff_eq.mpr c6
  have c6b1:(b1 != 0)=false:=bne_eq_false_iff_eq.mpr c6
  clear c6
  by_cases c7:ao=0
  ·rw[if_pos c7] at H
   have c7b0:(ao==0)=true:=beq_iff_eq.mpr c7
   have c7b1:(ao != 0)=false:=bne_eq_false_iff_eq.mpr c7
   clear c7
   obtain⟨fn,bm⟩:∃ y_:List (S56),y_=(([(⟨2,(-1),(-1)⟩:S56),(⟨2,1,(-1)⟩:S56)]:List (S56))):=⟨_,rfl⟩
   replace H:((newelref19_Same.f k σ ζ fn ([]:List (S62))).bind fun ag=>(if ag=true then (if au=0 then (if (al.length:Int)=1 then (if b3=0 then (if (an.length:Int)=1 then (if bb=0 then ((call_Same.f k J δ J δ).bind fun aa=>(if aa=true then ((call_Same.f k J δ σ ζ).bind fun a5=>(if a5=true then (none) else ((call_Check.f k 4 2 σ ζ).bind fun τ =>(some (τ == 0))))) else (none))) else (none)) else (none)) else (none)) else (none)) else (none)) else (none)))=some r:=by first|(rw[bm];with_reducible exact H)|(have ρ:=(Option.bind_some _ _).symm.trans H;rw[bm];with_reducible exact ρ)|(have ρ:=(Option.bind_some _ _).symm.trans H;with_reducible exact ρ)|with_reducible exact H|(rw[bm];exact H)|exact H
   have f8:=Aside0.mk bm
   clear bm
   replace H:=Option.bind_eq_some_iff.mp H
   obtain⟨ag,dr,H⟩:=H
   replace H:(if ag=true then (if au=0 then (if (al.length:Int)=1 then (if b3=0 then (if (an.length:Int)=1 then (if bb=0 then ((call_Same.f k J δ J δ).bind fun aa=>(if aa=true then ((call_Same.f k J δ σ ζ).bind fun a5=>(if a5=true then (none) else ((call_Check.f k 4 2 σ ζ).bind fun τ =>(some (τ == 0))))) else (none))) else (none)) else (none)) else (none)) else (none)) else (none)) else (none))=some r:=H
   have A8:=Aside0.mk dr
   clear dr
   by_cases c9:ag=true
   ·subst c9
    have H1:(if au=0 then (if (al.length:Int)=1 then (if b3=0 then (if (an.length:Int)=1 then (if bb=0 then ((call_Same.f k J δ J δ).bind fun aa=>(if aa=true then ((call_Same.f k J δ σ ζ).bind fun a5=>(if a5=true then (none) else ((call_Check.f k 4 2 σ ζ).bind fun τ =>(some (τ == 0))))) else (none))) else (none)) else (none)) else (none)) else (none)) else (none))=some r:=by rw[if_pos rfl] at H;exact H
    clear H
    have H:=H1
    clear H1
    by_cases c10:au=0
    ·rw[if_pos c10] at H
     have c10b0:(au==0)=true:=beq_iff_eq.mpr c10
     have c10b1:(au != 0)=false:=bne_eq_false_iff_eq.mpr c10
     clear c10
     by_cases cb:(al.length:Int)=1
     ·rw[if_pos cb] at H
      have c11b0:((al.length:Int)==1)=true:=beq_iff_eq.mpr cb
      have c11b1:((al.length:Int) != 1)=false:=bne_eq_false_iff_eq.mpr cb
      clear cb
      by_cases ce:b3=0
      ·rw[if_pos ce] at H
       have c12b0:(b3==0)=true:=beq_iff_eq.mpr ce
       have c12b1:(b3 != 0)=false:=bne_eq_false_iff_eq.mpr ce
       clear ce
       by_cases bg:(an.length:Int)=1
       ·rw[if_pos bg] at H
        have c13b0:((an.length:Int)==1)=true:=beq_iff_eq.mpr bg
        have c13b1:((an.length:Int) != 1)=false:=bne_eq_false_iff_eq.mpr bg
        clear bg
        by_cases az:bb=0
        ·rw[if_pos az] at H
         have c14b0:(bb==0)=true:=beq_iff_eq.mpr az
         have c14b1:(bb != 0)=false:=bne_eq_false_iff_eq.mpr az
         clear az
         replace H:=Option.bind_eq_some_iff.mp H
         obtain⟨aa,eu,H⟩:=H
         replace H:(if aa=true then ((call_Same.f k J δ σ ζ).bind fun a5=>(if a5=true then (none) else ((call_Check.f k 4 2 σ ζ).bind fun τ =>(some (τ == 0))))) else (none))=some r:=H
         have i1:=Aside0.mk eu
         clear eu
         by_cases a3:aa=true
         ·subst a3
          have H1:((call_Same.f k J δ σ ζ).bind fun a5=>(if a5=true then (none) else ((call_Check.f k 4 2 σ ζ).bind fun τ =>(some (τ == 0)))))=some r:=by rw[if_pos rfl] at H;exact H
          clear H
          have H:=H1
          clear H1
          replace H:=Option.bind_eq_some_iff.mp H
          obtain⟨a5,fo,H⟩:=H
          replace H:(if a5=true then (none) else ((call_Check.f k 4 2 σ ζ).bind fun τ =>(some (τ == 0))))=some r:=H
          have iy:=Aside0.mk fo
          clear fo
          by_cases cd:a5=true
          ·subst cd
           have H1:(none)=some r:=by rw[if_pos rfl] at H;exact H
           clear H
           have H:=H1
           clear H1
           exact absurd H (by simp)
          ·replace cd:=Bool.eq_false_iff.mpr cd
           subst cd
           have H1:((call_Check.f k 4 2 σ ζ).bind fun τ =>(some (τ == 0)))=some r:=by rw[if_neg (show ¬ (false=true) by decide)] at H;exact H
           clear H
           have H:=H1
           clear H1
           replace H:=Option.bind_eq_some_iff.mp H
           obtain⟨τ,ev,H⟩:=H
           replace H:(some (τ == 0))=some r:=H
           have i2:=Aside0.mk ev
           clear ev
           obtain rfl:=Option.some.inj H
           go_enter Try.func10,Try.ntmps10
           go_wp2_with (first|((with_reducible refine Qr (N:=1) rfl ?_);(try(refine Z5 (by rfl) ?_;dsimp only));refine qE 1 #[.int .i64 0,.int .i64 0] 23 ?_;intro bn hg dp hbox hb;have B:=Aside0.mk hbox;have iz:=sGe hg;have j2:=sGe hg;replace HB:=sHb hb;clear hb hbox hg;obtain⟨d2,d3,db,dd⟩:=qD2 B.out)|((with_reducible refine Q0 (f:=11) rfl ?_);refine Zk (some 17) rfl rfl Try.func11 kr rfl #[.agg #[.int .i64 4,.int .i64 2],.agg #[.slice none 0 0,.slice none 0 0],.agg #[.int .i64 0,.int .i64 2,.int .i64 0]] rfl qM ?_;(refine(call_Press.calls k 4 2 _ _ ([]:List (S56)) _ _ ([]:List (S62)) 0 2 0 J δ b1 _ ?side1 ?side2 ?side3 ?side4 A1.out).mono ?_);(case side1=>exact Kd.Gf _ _);(case side2=>exact Nat.le_refl _);(case side3=>exact Kd.Gf _ _);(case side4=>exact Nat.le_refl _);rintro e du ⟨jb,jc,rfl,φ,a7,hb⟩;refine⟨_,rfl, ?_⟩;have I:=Aside0.mk (Kd.Q2 φ (Qi bel));have L:=Aside0.mk (Kd.Q2 a7 (Qi bel));replace B:=Aside0.mk (Qm (g:=bn) (o:=.cells #[.int .i64 4,.int .i64 2] 23 (0,0)) (by(with_reducible repeat first|apply Qd|apply Qa|apply Qe);refine Qv (cs:=#[.int .i64 4,.int .i64 0]) ?_ 1 _ rfl;(with_reducible repeat first|apply Qd|apply Qa|apply Qe);refine Qv (cs:=#[.int .i64 0,.int .i64 0]) ?_ 0 _ rfl;(with_reducible repeat first|apply Qd|apply Qa|apply Qe);exact B.out) hb);replace HB:=sHb hb;(try clear hb);(try clear a0);(try clear hk);(try clear hi);(try clear φ);(try clear a7))|((with_reducible refine Qr (N:=2) rfl ?_);(try(refine Z5 (by rfl) ?_;dsimp only));refine qE 2 #[.slice none 0 0,.slice none 0 0] 27 ?_;intro a2 hg dq hbox hb;have O:=Aside0.mk hbox;have gh:=sGe hg;have ha:=sGe hg;have cu:=sNl B hg;have d9:=sNg B hg;replace I:=sRb I hb;replace L:=sRb L hb;replace B:=sBk B hb;replace HB:=sHb hb;clear hb hbox hg;obtain⟨aw,ar,hh⟩:=Kd.Q4 I.out;subst hh;have d8:=d9.out;have dc:=cu.out;obtain⟨cm,cn,co,cp⟩:=qD2 O.out;obtain⟨bd,bc,ii⟩:=Kd.Q4 L.out;subst ii;obtain⟨ct,cy,cz,d0⟩:=qD2 B.out)|((with_reducible refine Q0 (f:=11) rfl ?_);refine Zk (some 24) rfl rfl Try.func11 kr rfl #[.agg #[.int .i64 4,.int .i64 2],.agg #[.slice aw J.length ar,.slice bd δ.length bc],.agg #[.int .i64 1,.int .i64 2,.int .i64 0]] rfl qM ?_;(with_reducible refine(call_Press.calls k 4 2 _ _ J _ _ δ 1 2 0 σ ζ ao _ ?side1 ?side2 ?side3 ?side4 A2.out).mono ?_);(case side1=>refine(Kd.Qo (e:=56) (base:=w.heap.size) (ok:=fun k_=>True) (n:=J.length) (c:=ar) ?_).2.2;exact(by(with_reducible repeat first|apply Kd.Qk|apply Kd.Qj|apply Kd.Qn);exact(Kd.Qq (Kd.Qs (Kd.Qs (Kd.Qw I.out O.out (by decide)) (fun _ hk=>hk.2) _) (fun _ hk=>hk.2) _) (fun _ h_=>h_.1))));(case side2=>exact(Kd.Qo I.out).2.1);(case side3=>refine(Kd.Qo (e:=62) (base:=w.heap.size) (ok:=fun k_=>True) (n:= δ.length) (c:=bc) ?_).2.2;exact(by(with_reducible repeat first|apply Kd.Qk|apply Kd.Qj|apply Kd.Qn);exact(Kd.Qq (Kd.Qs (Kd.Qs (Kd.Qw L.out O.out (by decide)) (fun _ hk=>hk.2) _) (fun _ hk=>hk.2) _) (fun _ h_=>h_.1))));(case side4=>exact(Kd.Qo L.out).2.1);rintro e ge ⟨jd,je,rfl,φ,a7,hb⟩;refine⟨_,rfl, ?_⟩;have X:=Aside0.mk (Kd.Q2 (Kd.Zl φ (Kd.Zy (by(with_reducible repeat first|apply Kd.Qk|apply Kd.Qj|apply Kd.Qn);exact(Kd.Qq (Kd.Qs (Kd.Qs (Kd.Qw I.out O.out (by decide)) (fun _ hk=>hk.2) _) (fun _ hk=>hk.2) _) (fun _ h_=>h_.1))))) (Qi bel));have Y:=Aside0.mk (Kd.Q2 (Kd.Zl a7 (Kd.Zy (by(with_reducible repeat first|apply Kd.Qk|apply Kd.Qj|apply Kd.Qn);exact(Kd.Qq (Kd.Qs (Kd.Qs (Kd.Qw L.out O.out (by decide)) (fun _ hk=>hk.2) _) (fun _ hk=>hk.2) _) (fun _ h_=>h_.1))))) (Qi bel));replace I:=Aside0.mk (Kd.Q7 (by(with_reducible repeat first|apply Kd.Qk|apply Kd.Qj|apply Kd.Qn);exact(Kd.Qq (Kd.Qs (Kd.Qs (Kd.Qw I.out O.out (by decide)) (fun _ hk=>hk.2) _) (fun _ hk=>hk.2) _) (fun _ h_=>h_.1))) (Kd.Zh φ) hb);replace L:=Aside0.mk (Kd.Q7 (by(with_reducible repeat first|apply Kd.Qk|apply Kd.Qj|apply Kd.Qn);exact(Kd.Qq (Kd.Qs (Kd.Qs (Kd.Qw L.out O.out (by decide)) (fun _ hk=>hk.2) _) (fun _ hk=>hk.2) _) (fun _ h_=>h_.1))) (Kd.Zh a7) hb);replace B:=sBk B hb;replace O:=Aside0.mk (Qm (g:=a2) (o:=.cells #[.slice aw J.length ar,.slice bd δ.length bc] 27 (0,0)) (by(with_reducible repeat first|apply Qd|apply Qa|apply Qe);refine Qv (cs:=#[.slice aw J.length ar,.slice none 0 0]) ?_ 1 _ rfl;(with_reducible repeat first|apply Qd|apply Qa|apply Qe);refine Qv (cs:=#[.slice none 0 0,.slice none 0 0]) ?_ 0 _ rfl;(with_reducible repeat first|apply Qd|apply Qa|apply Qe);exact O.out) hb);replace HB:=sHb hb;(try clear hb);(try clear a0);(try clear hk);(try clear hi);(try clear φ);(try clear a7))|((with_reducible refine Qr (N:=4) rfl ?_);(try(refine Z5 (by rfl) ?_;dsimp only));refine qE 4 #[.slice none 0 0,.slice none 0 0] 27 ?_;intro bo hg gf hbox hb;have D:=Aside0.mk hbox;have j3:=sGe hg;have j4:=sGe hg;have da:=sNl B hg;have de:=sNg B hg;have df:=sNl O hg;have dh:=sNg O hg;replace I:=sRb I hb;replace L:=sRb L hb;replace X:=sRb X hb;replace Y:=sRb Y hb;replace B:=sBk B hb;replace O:=sBk O hb;replace HB:=sHb hb;clear hb hbox hg;obtain⟨cf,br,d7⟩:=Kd.Q4 X.out;subst d7;have fc:=de.out;have fe:=da.out;have g3:=dh.out;have g4:=df.out;obtain⟨e6,e7,e8,e9⟩:=qD2 D.out;obtain⟨b5,b2,er⟩:=Kd.Q4 Y.out;subst er;obtain⟨f9,fa,gb,gl⟩:=qD2 B.out)|((with_reducible refine Q0 (f:=24) rfl ?_);refine Zk (some 31) rfl rfl Try.func24 kr rfl #[.agg #[.int .i64 4,.int .i64 2],.agg #[.slice cf σ.length br,.slice b5 ζ.length b2],.agg #[.int .i64 2,.int .i64 1,.int .i64 1]] rfl qM ?_;(with_reducible refine(call_Give.calls k 4 2 _ _ σ _ _ ζ 2 1 1 ai aj au _ ?side1 ?side2 ?side3 ?side4 A3.out).mono ?_);(case side1=>refine(Kd.Qo (e:=56) (base:=w.heap.size) (ok:=fun k_=>(True∧some k_≠(.slice aw J.length ar:Value).ownBlock)) (n:=σ.length) (c:=br) ?_).2.2;exact(by(with_reducible repeat first|apply Kd.Qk|apply Kd.Qj|apply Kd.Qn);exact(Kd.Qq (Kd.Qs (Kd.Qs (Kd.Qw X.out D.out (by decide)) (fun _ hk=>hk.2) _) (fun _ hk=>hk.2) _) (fun _ h_=>h_.1))));(case side2=>exact(Kd.Qo X.out).2.1);(case side3=>refine(Kd.Qo (e:=62) (base:=w.heap.size) (ok:=fun k_=>(True∧some k_≠(.slice bd δ.length bc:Value).ownBlock)) (n:= ζ.length) (c:=b2) ?_).2.2;exact(by(with_reducible repeat first|apply Kd.Qk|apply Kd.Qj|apply Kd.Qn);exact(Kd.Qq (Kd.Qs (Kd.Qs (Kd.Qw Y.out D.out (by decide)) (fun _ hk=>hk.2) _) (fun _ hk=>hk.2) _) (fun _ h_=>h_.1))));(case side4=>exact(Kd.Qo Y.out).2.1);rintro e kz ⟨jf,jg,rfl,φ,a7,hb⟩;refine⟨_,rfl, ?_⟩;have η :=Aside0.mk (Kd.Q2 (Kd.Zl (Kd.Zl φ (Kd.Zy (by(with_reducible repeat first|apply Kd.Qk|apply Kd.Qj|apply Kd.Qn);exact(Kd.Qq (Kd.Qs (Kd.Qs (Kd.Qw I.out D.out (by decide)) (fun _ hk=>hk.2) _) (fun _ hk=>hk.2) _) (fun _ h_=>h_.1))))) (Kd.Zy (by(with_reducible repeat first|apply Kd.Qk|apply Kd.Qj|apply Kd.Qn);exact(Kd.Qq (Kd.Qs (Kd.Qs (Kd.Qw X.out D.out (by decide)) (fun _ hk=>hk.2) _) (fun _ hk=>hk.2) _) (fun _ h_=>h_.1))))) (Qi bel));have μ :=Aside0.mk (Kd.Q2 (Kd.Zl (Kd.Zl a7 (Kd.Zy (by(with_reducible repeat first|apply Kd.Qk|apply Kd.Qj|apply Kd.Qn);exact(Kd.Qq (Kd.Qs (Kd.Qs (Kd.Qw L.out D.out (by decide)) (fun _ hk=>hk.2) _) (fun _ hk=>hk.2) _) (fun _ h_=>h_.1))))) (Kd.Zy (by(with_reducible repeat first|apply Kd.Qk|apply Kd.Qj|apply Kd.Qn);exact(Kd.Qq (Kd.Qs (Kd.Qs (Kd.Qw Y.out D.out (by decide)) (fun _ hk=>hk.2) _) (fun _ hk=>hk.2) _) (fun _ h_=>h_.1))))) (Qi bel));replace I:=Aside0.mk (Kd.Q7 (by(with_reducible repeat first|apply Kd.Qk|apply Kd.Qj|apply Kd.Qn);exact(Kd.Qq (Kd.Qs (Kd.Qs (Kd.Qw I.out D.out (by decide)) (fun _ hk=>hk.2) _) (fun _ hk=>hk.2) _) (fun _ h_=>h_.1))) (Kd.Zh φ) hb);replace L:=Aside0.mk (Kd.Q7 (by(with_reducible repeat first|apply Kd.Qk|apply Kd.Qj|apply Kd.Qn);exact(Kd.Qq (Kd.Qs (Kd.Qs (Kd.Qw L.out D.out (by decide)) (fun _ hk=>hk.2) _) (fun _ hk=>hk.2) _) (fun _ h_=>h_.1))) (Kd.Zh a7) hb);replace X:=Aside0.mk (Kd.Q7 (by(with_reducible repeat first|apply Kd.Qk|apply Kd.Qj|apply Kd.Qn);exact(Kd.Qq (Kd.Qs (Kd.Qs (Kd.Qw X.out D.out (by decide)) (fun _ hk=>hk.2) _) (fun _ hk=>hk.2) _) (fun _ h_=>h_.1))) (Kd.Zh φ) hb);replace Y:=Aside0.mk (Kd.Q7 (by(with_reducible repeat first|apply Kd.Qk|apply Kd.Qj|apply Kd.Qn);exact(Kd.Qq (Kd.Qs (Kd.Qs (Kd.Qw Y.out D.out (by decide)) (fun _ hk=>hk.2) _) (fun _ hk=>hk.2) _) (fun _ h_=>h_.1))) (Kd.Zh a7) hb);replace B:=sBk B hb;replace O:=sBk O hb;replace D:=Aside0.mk (Qm (g:=bo) (o:=.cells #[.slice cf σ.length br,.slice b5 ζ.length b2] 27 (0,0)) (by(with_reducible repeat first|apply Qd|apply Qa|apply Qe);refine Qv (cs:=#[.slice cf σ.length br,.slice none 0 0]) ?_ 1 _ rfl;(with_reducible repeat first|apply Qd|apply Qa|apply Qe);refine Qv (cs:=#[.slice none 0 0,.slice none 0 0]) ?_ 0 _ rfl;(with_reducible repeat first|apply Qd|apply Qa|apply Qe);exact D.out) hb);replace HB:=sHb hb;(try clear hb);(try clear a0);(try clear hk);(try clear hi);(try clear φ);(try clear a7))|((with_reducible refine Qr (N:=6) rfl ?_);(try(refine Z5 (by rfl) ?_;dsimp only));refine qE 6 #[.slice none 0 0,.slice none 0 0] 27 ?_;intro bp hg gg hbox hb;have ε :=Aside0.mk hbox;have j5:=sGe hg;have j6:=sGe hg;have di:=sNl B hg;have dj:=sNg B hg;have dl:=sNl O hg;have dm:=sNg O hg;have dt:=sNl D hg;have dv:=sNg D hg;replace I:=sRb I hb;replace L:=sRb L hb;replace X:=sRb X hb;replace Y:=sRb Y hb;replace η :=sRb η hb;replace μ :=sRb μ hb;replace B:=sBk B hb;replace O:=sBk O hb;replace D:=sBk D hb;replace HB:=sHb hb;clear hb hbox hg;obtain⟨bj,ay,hj⟩:=Kd.Q4 η.out;subst hj;have ew:=dj.out;have ey:=di.out;have g5:=dm.out;have g6:=dl.out;have ho:=dv.out;have ia:=dt.out;obtain⟨gk,gs,gt,gu⟩:=qD2 ε.out;obtain⟨bi,bh,iq⟩:=Kd.Q4 μ.out;subst iq;obtain⟨gv,gw,gx,gy⟩:=qD2 B.out)|((with_reducible refine Q0 (f:=19) rfl ?_);refine Zk (some 37) rfl rfl Try.func19 kr rfl #[.agg #[.int .i64 4,.int .i64 2],.agg #[.slice bj ai.length ay,.slice bi aj.length bh],.int .i64 1] rfl qM ?_;(with_reducible refine(call_View.calls k 4 2 _ _ ai _ _ aj 1 ba al bw b3 _ ?side1 ?side2 ?side3 ?side4 A4.out).mono ?_);(case side1=>refine(Kd.Qo (e:=56) (base:=w.heap.size) (ok:=fun k_=>((True∧some k_≠(.slice aw J.length ar:Value).ownBlock)∧some k_≠(.slice cf σ.length br:Value).ownBlock)) (n:=ai.length) (c:=ay) ?_).2.2;exact(by(with_reducible repeat first|apply Kd.Qk|apply Kd.Qj|apply Kd.Qn);exact(Kd.Qq (Kd.Qs (Kd.Qs (Kd.Qw η.out ε.out (by decide)) (fun _ hk=>hk.2) _) (fun _ hk=>hk.2) _) (fun _ h_=>h_.1))));(case side2=>exact(Kd.Qo η.out).2.1);(case side3=>refine(Kd.Qo (e:=62) (base:=w.heap.size) (ok:=fun k_=>((True∧some k_≠(.slice bd δ.length bc:Value).ownBlock)∧some k_≠(.slice b5 ζ.length b2:Value).ownBlock)) (n:=aj.length) (c:=bh) ?_).2.2;exact(by(with_reducible repeat first|apply Kd.Qk|apply Kd.Qj|apply Kd.Qn);exact(Kd.Qq (Kd.Qs (Kd.Qs (Kd.Qw μ.out ε.out (by decide)) (fun _ hk=>hk.2) _) (fun _ hk=>hk.2) _) (fun _ h_=>h_.1))));(case side4=>exact(Kd.Qo μ.out).2.1);rintro e he ⟨g7,jh,ji,rfl,φ,a7,cr,hb⟩;refine⟨_,rfl, ?_⟩;have a9:=Aside0.mk (Kd.Q2 φ (Qi bel));have ω :=Aside0.mk (Kd.Q2 a7 (Qi bel));have a4:=Aside0.mk (Kd.Q2 cr (Qi bel));replace I:=Aside0.mk (Kd.Qu (by(with_reducible repeat first|apply Kd.Qk|apply Kd.Qj|apply Kd.Qn);exact(Kd.Qq (Kd.Qs (Kd.Qs (Kd.Qw I.out ε.out (by decide)) (fun _ hk=>hk.2) _) (fun _ hk=>hk.2) _) (fun _ h_=>h_.1))) hb);replace L:=Aside0.mk (Kd.Qu (by(with_reducible repeat first|apply Kd.Qk|apply Kd.Qj|apply Kd.Qn);exact(Kd.Qq (Kd.Qs (Kd.Qs (Kd.Qw L.out ε.out (by decide)) (fun _ hk=>hk.2) _) (fun _ hk=>hk.2) _) (fun _ h_=>h_.1))) hb);replace X:=Aside0.mk (Kd.Qu (by(with_reducible repeat first|apply Kd.Qk|apply Kd.Qj|apply Kd.Qn);exact(Kd.Qq (Kd.Qs (Kd.Qs (Kd.Qw X.out ε.out (by decide)) (fun _ hk=>hk.2) _) (fun _ hk=>hk.2) _) (fun _ h_=>h_.1))) hb);replace Y:=Aside0.mk (Kd.Qu (by(with_reducible repeat first|apply Kd.Qk|apply Kd.Qj|apply Kd.Qn);exact(Kd.Qq (Kd.Qs (Kd.Qs (Kd.Qw Y.out ε.out (by decide)) (fun _ hk=>hk.2) _) (fun _ hk=>hk.2) _) (fun _ h_=>h_.1))) hb);replace η :=Aside0.mk (Kd.Qu (by(with_reducible repeat first|apply Kd.Qk|apply Kd.Qj|apply Kd.Qn);exact(Kd.Qq (Kd.Qs (Kd.Qs (Kd.Qw η.out ε.out (by decide)) (fun _ hk=>hk.2) _) (fun _ hk=>hk.2) _) (fun _ h_=>h_.1))) hb);replace μ :=Aside0.mk (Kd.Qu (by(with_reducible repeat first|apply Kd.Qk|apply Kd.Qj|apply Kd.Qn);exact(Kd.Qq (Kd.Qs (Kd.Qs (Kd.Qw μ.out ε.out (by decide)) (fun _ hk=>hk.2) _) (fun _ hk=>hk.2) _) (fun _ h_=>h_.1))) hb);replace B:=sBk B hb;replace O:=sBk O hb;replace D:=sBk D hb;replace ε :=Aside0.mk (Qm (g:=bp) (o:=.cells #[.slice bj ai.length ay,.slice bi aj.length bh] 27 (0,0)) (by(with_reducible repeat first|apply Qd|apply Qa|apply Qe);refine Qv (cs:=#[.slice bj ai.length ay,.slice none 0 0]) ?_ 1 _ rfl;(with_reducible repeat first|apply Qd|apply Qa|apply Qe);refine Qv (cs:=#[.slice none 0 0,.slice none 0 0]) ?_ 0 _ rfl;(with_reducible repeat first|apply Qd|apply Qa|apply Qe);exact ε.out) hb);replace HB:=sHb hb;(try clear hb);(try clear a0);(try clear hk);(try clear hi);(try clear φ);(try clear a7);(try clear cr))|((with_reducible refine Qr (N:=8) rfl ?_);(try(refine Z5 (by rfl) ?_;dsimp only));refine qE 8 #[.slice none 0 0,.slice none 0 0,.slice none 0 0] 47 ?_;intro bs hg gj hbox hb;have Z:=Aside0.mk hbox;have j7:=sGe hg;have j8:=sGe hg;have dw:=sNl B hg;have dx:=sNg B hg;have dy:=sNl O hg;have dz:=sNg O hg;have e0:=sNl D hg;have e3:=sNg D hg;have e4:=sNl ε hg;have e5:=sNg ε hg;replace I:=sRb I hb;replace L:=sRb L hb;replace X:=sRb X hb;replace Y:=sRb Y hb;replace η :=sRb η hb;replace μ :=sRb μ hb;replace a9:=sRb a9 hb;replace ω :=sRb ω hb;replace a4:=sRb a4 hb;replace B:=sBk B hb;replace O:=sBk O hb;replace D:=sBk D hb;replace ε :=sBk ε hb;replace HB:=sHb hb;clear hb hbox hg;obtain⟨bk,bl,hl⟩:=Kd.Q4 a9.out;subst hl;have h0:=dx.out;have h4:=dw.out;have h5:=dz.out;have h6:=dy.out;have g2:=e3.out;have g9:=e0.out;have g1:=e5.out;have g8:=e4.out;obtain⟨fb,fh,i7,fi,fj,i9⟩:=qD3 Z.out;obtain⟨b6,b7,et⟩:=Kd.Q4 ω.out;subst et;obtain⟨ci,cj,i3⟩:=Kd.Q4 a4.out;subst i3;obtain⟨ie,ig,ih,ij⟩:=qD2 B.out;obtain⟨ik,il,im,io⟩:=qD2 ε.out)|((with_reducible refine Q0 (f:=18) rfl ?_);refine Zk (some 44) rfl rfl Try.func18 kr rfl #[.agg #[.int .i64 4,.int .i64 2],.agg #[.slice bj ai.length ay,.slice bi aj.length bh],.agg #[.int .i64 0,.int .i64 2,.int .i64 1]] rfl qM ?_;(with_reducible refine(call_Serve.calls k 4 2 _ _ ai _ _ aj 0 2 1 an bz bb _ ?side1 ?side2 ?side3 ?side4 A5.out).mono ?_);(case side1=>refine(Kd.Qo (e:=56) (base:=w.heap.size) (ok:=fun k_=>((True∧some k_≠(.slice aw J.length ar:Value).ownBlock)∧some k_≠(.slice cf σ.length br:Value).ownBlock)) (n:=ai.length) (c:=ay) ?_).2.2;exact(by(with_reducible repeat first|apply Kd.Qk|apply Kd.Qj|apply Kd.Qn);exact(Kd.Qq (Kd.Qs (Kd.Qs (Kd.Qs (Kd.Qw η.out Z.out (by decide)) (fun _ hk=>hk.2) _) (fun _ hk=>hk.2) _) (fun _ hk=>hk.2) _) (fun _ h_=>h_.1))));(case side2=>exact(Kd.Qo η.out).2.1);(case side3=>refine(Kd.Qo (e:=62) (base:=w.heap.size) (ok:=fun k_=>((True∧some k_≠(.slice bd δ.length bc:Value).ownBlock)∧some k_≠(.slice b5 ζ.length b2:Value).ownBlock)) (n:=aj.length) (c:=bh) ?_).2.2;exact(by(with_reducible repeat first|apply Kd.Qk|apply Kd.Qj|apply Kd.Qn);exact(Kd.Qq (Kd.Qs (Kd.Qs (Kd.Qs (Kd.Qw μ.out Z.out (by decide)) (fun _ hk=>hk.2) _) (fun _ hk=>hk.2) _) (fun _ hk=>hk.2) _) (fun _ h_=>h_.1))));(case side4=>exact(Kd.Qo μ.out).2.1);rintro e jm ⟨jj,jk,rfl,φ,a7,hb⟩;refine⟨_,rfl, ?_⟩;have a8:=Aside0.mk (Kd.Q2 (Kd.Zl (Kd.Zl (Kd.Zl φ (Kd.Zy (by(with_reducible repeat first|apply Kd.Qk|apply Kd.Qj|apply Kd.Qn);exact(Kd.Qq (Kd.Qs (Kd.Qs (Kd.Qs (Kd.Qw I.out Z.out (by decide)) (fun _ hk=>hk.2) _) (fun _ hk=>hk.2) _) (fun _ hk=>hk.2) _) (fun _ h_=>h_.1))))) (Kd.Zy (by(with_reducible repeat first|apply Kd.Qk|apply Kd.Qj|apply Kd.Qn);exact(Kd.Qq (Kd.Qs (Kd.Qs (Kd.Qs (Kd.Qw X.out Z.out (by decide)) (fun _ hk=>hk.2) _) (fun _ hk=>hk.2) _) (fun _ hk=>hk.2) _) (fun _ h_=>h_.1))))) (Kd.Zy (by(with_reducible repeat first|apply Kd.Qk|apply Kd.Qj|apply Kd.Qn);exact(Kd.Qq (Kd.Qs (Kd.Qs (Kd.Qs (Kd.Qw η.out Z.out (by decide)) (fun _ hk=>hk.2) _) (fun _ hk=>hk.2) _) (fun _ hk=>hk.2) _) (fun _ h_=>h_.1))))) (Qi bel));have ac:=Aside0.mk (Kd.Q2 (Kd.Zl (Kd.Zl (Kd.Zl a7 (Kd.Zy (by(with_reducible repeat first|apply Kd.Qk|apply Kd.Qj|apply Kd.Qn);exact(Kd.Qq (Kd.Qs (Kd.Qs (Kd.Qs (Kd.Qw L.out Z.out (by decide)) (fun _ hk=>hk.2) _) (fun _ hk=>hk.2) _) (fun _ hk=>hk.2) _) (fun _ h_=>h_.1))))) (Kd.Zy (by(with_reducible repeat first|apply Kd.Qk|apply Kd.Qj|apply Kd.Qn);exact(Kd.Qq (Kd.Qs (Kd.Qs (Kd.Qs (Kd.Qw Y.out Z.out (by decide)) (fun _ hk=>hk.2) _) (fun _ hk=>hk.2) _) (fun _ hk=>hk.2) _) (fun _ h_=>h_.1))))) (Kd.Zy (by(with_reducible repeat first|apply Kd.Qk|apply Kd.Qj|apply Kd.Qn);exact(Kd.Qq (Kd.Qs (Kd.Qs (Kd.Qs (Kd.Qw μ.out Z.out (by decide)) (fun _ hk=>hk.2) _) (fun _ hk=>hk.2) _) (fun _ hk=>hk.2) _) (fun _ h_=>h_.1))))) (Qi bel));replace I:=Aside0.mk (Kd.Q7 (by(with_reducible repeat first|apply Kd.Qk|apply Kd.Qj|apply Kd.Qn);exact(Kd.Qq (Kd.Qs (Kd.Qs (Kd.Qs (Kd.Qw I.out Z.out (by decide)) (fun _ hk=>hk.2) _) (fun _ hk=>hk.2) _) (fun _ hk=>hk.2) _) (fun _ h_=>h_.1))) (Kd.Zh φ) hb);replace L:=Aside0.mk (Kd.Q7 (by(with_reducible repeat first|apply Kd.Qk|apply Kd.Qj|apply Kd.Qn);exact(Kd.Qq (Kd.Qs (Kd.Qs (Kd.Qs (Kd.Qw L.out Z.out (by decide)) (fun _ hk=>hk.2) _) (fun _ hk=>hk.2) _) (fun _ hk=>hk.2) _) (fun _ h_=>h_.1))) (Kd.Zh a7) hb);replace X:=Aside0.mk (Kd.Q7 (by(with_reducible repeat first|apply Kd.Qk|apply Kd.Qj|apply Kd.Qn);exact(Kd.Qq (Kd.Qs (Kd.Qs (Kd.Qs (Kd.Qw X.out Z.out (by decide)) (fun _ hk=>hk.2) _) (fun _ hk=>hk.2) _) (fun _ hk=>hk.2) _) (fun _ h_=>h_.1))) (Kd.Zh φ) hb);replace Y:=Aside0.mk (Kd.Q7 (by(with_reducible repeat first|apply Kd.Qk|apply Kd.Qj|apply Kd.Qn);exact(Kd.Qq (Kd.Qs (Kd.Qs (Kd.Qs (Kd.Qw Y.out Z.out (by decide)) (fun _ hk=>hk.2) _) (fun _ hk=>hk.2) _) (fun _ hk=>hk.2) _) (fun _ h_=>h_.1))) (Kd.Zh a7) hb);replace η :=Aside0.mk (Kd.Q7 (by(with_reducible repeat first|apply Kd.Qk|apply Kd.Qj|apply Kd.Qn);exact(Kd.Qq (Kd.Qs (Kd.Qs (Kd.Qs (Kd.Qw η.out Z.out (by decide)) (fun _ hk=>hk.2) _) (fun _ hk=>hk.2) _) (fun _ hk=>hk.2) _) (fun _ h_=>h_.1))) (Kd.Zh φ) hb);replace μ :=Aside0.mk (Kd.Q7 (by(with_reducible repeat first|apply Kd.Qk|apply Kd.Qj|apply Kd.Qn);exact(Kd.Qq (Kd.Qs (Kd.Qs (Kd.Qs (Kd.Qw μ.out Z.out (by decide)) (fun _ hk=>hk.2) _) (fun _ hk=>hk.2) _) (fun _ hk=>hk.2) _) (fun _ h_=>h_.1))) (Kd.Zh a7) hb);replace a9:=Aside0.mk (Kd.Qu (by(with_reducible repeat first|apply Kd.Qk|apply Kd.Qj|apply Kd.Qn);exact(Kd.Qq (Kd.Qs (Kd.Qs (Kd.Qs (Kd.Qw a9.out Z.out (by decide)) (fun _ hk=>hk.2) _) (fun _ hk=>hk.2) _) (fun _ hk=>hk.2) _) (fun _ h_=>h_.1))) hb);replace ω :=Aside0.mk (Kd.Qu (by(with_reducible repeat first|apply Kd.Qk|apply Kd.Qj|apply Kd.Qn);exact(Kd.Qq (Kd.Qs (Kd.Qs (Kd.Qs (Kd.Qw ω.out Z.out (by decide)) (fun _ hk=>hk.2) _) (fun _ hk=>hk.2) _) (fun _ hk=>hk.2) _) (fun _ h_=>h_.1))) hb);replace a4:=Aside0.mk (Kd.Qu (by(with_reducible repeat first|apply Kd.Qk|apply Kd.Qj|apply Kd.Qn);exact(Kd.Qq (Kd.Qs (Kd.Qs (Kd.Qs (Kd.Qw a4.out Z.out (by decide)) (fun _ hk=>hk.2) _) (fun _ hk=>hk.2) _) (fun _ hk=>hk.2) _) (fun _ h_=>h_.1))) hb);replace B:=sBk B hb;replace O:=sBk O hb;replace D:=sBk D hb;replace ε :=sBk ε hb;replace Z:=Aside0.mk (Qm (g:=bs) (o:=.cells #[.slice bk ba.length bl,.slice b6 al.length b7,.slice ci bw.length cj] 47 (0,0)) (by(with_reducible repeat first|apply Qd|apply Qa|apply Qe);refine Qv (cs:=#[.slice bk ba.length bl,.slice b6 al.length b7,.slice none 0 0]) ?_ 2 _ rfl;(with_reducible repeat first|apply Qd|apply Qa|apply Qe);refine Qv (cs:=#[.slice bk ba.length bl,.slice none 0 0,.slice none 0 0]) ?_ 1 _ rfl;(with_reducible repeat first|apply Qd|apply Qa|apply Qe);refine Qv (cs:=#[.slice none 0 0,.slice none 0 0,.slice none 0 0]) ?_ 0 _ rfl;(with_reducible repeat first|apply Qd|apply Qa|apply Qe);exact Z.out) hb);replace HB:=sHb hb;(try clear hb);(try clear a0);(try clear hk);(try clear hi);(try clear φ);(try clear a7))|((with_reducible refine Qr (N:=10) rfl ?_);(try(refine Z5 (by rfl) ?_;dsimp only));refine qE 10 #[.slice none 0 0,.slice none 0 0] 27 ?_;intro bu hg nb hbox hb;have θ :=Aside0.mk hbox;have j9:=sGe hg;have ja:=sGe hg;have eb:=sNl B hg;have ee:=sNg B hg;have ef:=sNl O hg;have eg:=sNg O hg;have ei:=sNl D hg;have ej:=sNg D hg;have ek:=sNl ε hg;have el:=sNg ε hg;have eo:=sNl Z hg;have ep:=sNg Z hg;replace I:=sRb I hb;replace L:=sRb L hb;replace X:=sRb X hb;replace Y:=sRb Y hb;replace η :=sRb η hb;replace μ :=sRb μ hb;replace a9:=sRb a9 hb;replace ω :=sRb ω hb;replace a4:=sRb a4 hb;replace a8:=sRb a8 hb;replace ac:=sRb ac hb;replace B:=sBk B hb;replace O:=sBk O hb;replace D:=sBk D hb;replace ε :=sBk ε hb;replace Z:=sBk Z hb;replace HB:=sHb hb;clear hb hbox hg;obtain⟨cg,ch,dk⟩:=Kd.Q4 a8.out;subst dk;have ib:=ee.out;have ic:=eb.out;have i5:=eg.out;have i6:=ef.out;have ff:=ej.out;have fg:=ei.out;have em:=el.out;have en:=ek.out;have ga:=ep.out;have gz:=eo.out;obtain⟨cv,cw,cx,d1⟩:=qD2 θ.out;obtain⟨ck,cq,i4⟩:=Kd.Q4 ac.out;subst i4;obtain⟨fr,ft,fu,fv⟩:=qD2 D.out)|((with_reducible refine Qr (N:=57) rfl ?_);(try(refine Z5 (by rfl) ?_;dsimp only));refine Kd.Mk k56 _ 56 ?hg (N:=57) ?hd (xs:=([(⟨2,(-1),(-1)⟩:S56),(⟨2,1,(-1)⟩:S56)]:List (S56))) (inner:=[.int .i64 2,.int .i64 (-1),.int .i64 (-1),.int .i64 2,.int .i64 1,.int .i64 (-1)]) (ok:=fun _=>True) (okp:=fun _=>True) ?hr ?hp (fun _ hk=>hk) trivial (Below.refl _ _) (Nat.le_refl _) (by simp) ?_;(case hd=>rfl);(case hg=>rfl);(case hr=>go_simp <;> rfl);(case hp=>exact(Reps.c3 (show Kd.M k56 _ _ _ (⟨2,(-1),(-1)⟩:S56) [.int .i64 2,.int .i64 (-1),.int .i64 (-1)] from(Yg _ _ _ (⟨2,(-1),(-1)⟩:S56))) (Reps.c3 (show Kd.M k56 _ _ _ (⟨2,1,(-1)⟩:S56) [.int .i64 2,.int .i64 1,.int .i64 (-1)] from(Yg _ _ _ (⟨2,1,(-1)⟩:S56))) (Reps.none _ _))));intro jl iv b4 hb hg_ hnew_;clear hg_ hnew_;(first|rw[← f8.out] at b4|(simp only[Int.reduceToNat] at b4;rw[← f8.out] at b4));have af:=Aside0.mk (Kd.Q2 (Kd.Zl (Kd.Zl (Kd.Zl (Kd.Zl b4 (Kd.Zy (by(with_reducible repeat first|apply Kd.Qk|apply Kd.Qj|apply Kd.Qn);exact(Kd.Qq (Kd.Qs (Kd.Qs (Kd.Qw I.out θ.out (by decide)) (fun _ hk=>hk.2) _) (fun _ hk=>hk.2) _) (fun _ h_=>h_.1))))) (Kd.Zy (by(with_reducible repeat first|apply Kd.Qk|apply Kd.Qj|apply Kd.Qn);exact(Kd.Qq (Kd.Qs (Kd.Qs (Kd.Qw X.out θ.out (by decide)) (fun _ hk=>hk.2) _) (fun _ hk=>hk.2) _) (fun _ h_=>h_.1))))) (Kd.Zy (by(with_reducible repeat first|apply Kd.Qk|apply Kd.Qj|apply Kd.Qn);exact(Kd.Qq (Kd.Qs (Kd.Qs (Kd.Qw η.out θ.out (by decide)) (fun _ hk=>hk.2) _) (fun _ hk=>hk.2) _) (fun _ h_=>h_.1))))) (Kd.Zy (by(with_reducible repeat first|apply Kd.Qk|apply Kd.Qj|apply Kd.Qn);exact(Kd.Qq (Kd.Qs (Kd.Qs (Kd.Qw a8.out θ.out (by decide)) (fun _ hk=>hk.2) _) (fun _ hk=>hk.2) _) (fun _ h_=>h_.1))))) (Qi bel));replace I:=Aside0.mk (Kd.Q7 (by(with_reducible repeat first|apply Kd.Qk|apply Kd.Qj|apply Kd.Qn);exact(Kd.Qq (Kd.Qs (Kd.Qs (Kd.Qw I.out θ.out (by decide)) (fun _ hk=>hk.2) _) (fun _ hk=>hk.2) _) (fun _ h_=>h_.1))) (Kd.Zh b4) hb);replace L:=Aside0.mk (Kd.Qu (by(with_reducible repeat first|apply Kd.Qk|apply Kd.Qj|apply Kd.Qn);exact(Kd.Qq (Kd.Qs (Kd.Qs (Kd.Qw L.out θ.out (by decide)) (fun _ hk=>hk.2) _) (fun _ hk=>hk.2) _) (fun _ h_=>h_.1))) hb);replace X:=Aside0.mk (Kd.Q7 (by(with_reducible repeat first|apply Kd.Qk|apply Kd.Qj|apply Kd.Qn);exact(Kd.Qq (Kd.Qs (Kd.Qs (Kd.Qw X.out θ.out (by decide)) (fun _ hk=>hk.2) _) (fun _ hk=>hk.2) _) (fun _ h_=>h_.1))) (Kd.Zh b4) hb);replace Y:=Aside0.mk (Kd.Qu (by(with_reducible repeat first|apply Kd.Qk|apply Kd.Qj|apply Kd.Qn);exact(Kd.Qq (Kd.Qs (Kd.Qs (Kd.Qw Y.out θ.out (by decide)) (fun _ hk=>hk.2) _) (fun _ hk=>hk.2) _) (fun _ h_=>h_.1))) hb);replace η :=Aside0.mk (Kd.Q7 (by(with_reducible repeat first|apply Kd.Qk|apply Kd.Qj|apply Kd.Qn);exact(Kd.Qq (Kd.Qs (Kd.Qs (Kd.Qw η.out θ.out (by decide)) (fun _ hk=>hk.2) _) (fun _ hk=>hk.2) _) (fun _ h_=>h_.1))) (Kd.Zh b4) hb);replace μ :=Aside0.mk (Kd.Qu (by(with_reducible repeat first|apply Kd.Qk|apply Kd.Qj|apply Kd.Qn);exact(Kd.Qq (Kd.Qs (Kd.Qs (Kd.Qw μ.out θ.out (by decide)) (fun _ hk=>hk.2) _) (fun _ hk=>hk.2) _) (fun _ h_=>h_.1))) hb);replace a9:=Aside0.mk (Kd.Qu (by(with_reducible repeat first|apply Kd.Qk|apply Kd.Qj|apply Kd.Qn);exact(Kd.Qq (Kd.Qs (Kd.Qs (Kd.Qw a9.out θ.out (by decide)) (fun _ hk=>hk.2) _) (fun _ hk=>hk.2) _) (fun _ h_=>h_.1))) hb);replace ω :=Aside0.mk (Kd.Qu (by(with_reducible repeat first|apply Kd.Qk|apply Kd.Qj|apply Kd.Qn);exact(Kd.Qq (Kd.Qs (Kd.Qs (Kd.Qw ω.out θ.out (by decide)) (fun _ hk=>hk.2) _) (fun _ hk=>hk.2) _) (fun _ h_=>h_.1))) hb);replace a4:=Aside0.mk (Kd.Qu (by(with_reducible repeat first|apply Kd.Qk|apply Kd.Qj|apply Kd.Qn);exact(Kd.Qq (Kd.Qs (Kd.Qs (Kd.Qw a4.out θ.out (by decide)) (fun _ hk=>hk.2) _) (fun _ hk=>hk.2) _) (fun _ h_=>h_.1))) hb);replace a8:=Aside0.mk (Kd.Q7 (by(with_reducible repeat first|apply Kd.Qk|apply Kd.Qj|apply Kd.Qn);exact(Kd.Qq (Kd.Qs (Kd.Qs (Kd.Qw a8.out θ.out (by decide)) (fun _ hk=>hk.2) _) (fun _ hk=>hk.2) _) (fun _ h_=>h_.1))) (Kd.Zh b4) hb);replace ac:=Aside0.mk (Kd.Qu (by(with_reducible repeat first|apply Kd.Qk|apply Kd.Qj|apply Kd.Qn);exact(Kd.Qq (Kd.Qs (Kd.Qs (Kd.Qw ac.out θ.out (by decide)) (fun _ hk=>hk.2) _) (fun _ hk=>hk.2) _) (fun _ h_=>h_.1))) hb);replace B:=sBk B hb;replace O:=sBk O hb;replace D:=sBk D hb;replace ε :=sBk ε hb;replace Z:=sBk Z hb;replace θ :=Aside0.mk (Qm (g:=bu) (o:=.cells #[.slice cg an.length ch,.slice ck bz.length cq] 27 (0,0)) (by(with_reducible repeat first|apply Qd|apply Qa|apply Qe);refine Qv (cs:=#[.slice cg an.length ch,.slice none 0 0]) ?_ 1 _ rfl;(with_reducible repeat first|apply Qd|apply Qa|apply Qe);refine Qv (cs:=#[.slice none 0 0,.slice none 0 0]) ?_ 0 _ rfl;(with_reducible repeat first|apply Qd|apply Qa|apply Qe);exact θ.out) hb);replace HB:=sHb hb;clear hb b4;obtain⟨ec,ed,ea⟩:=Kd.Q4 af.out;subst ea)|(go_at_call 15;(refine(newelref19_Same.calls k _ _ σ _ _ ζ _ _ fn _ _ ([]:List (S62)) true _ ?side1 ?side2 ?side3 ?side4 ?side5 ?side6 ?side7 ?side8 A8.out).mono ?_);(case side1=>repeat(first|exact(Kd.Qo X.out).2.2|(with_reducible refine Kd.Za ?_ _)|(with_reducible refine Kd.Q9 ?_ _)|(with_reducible refine Kd.Zf ?_)));(case side2=>exact(Kd.Qo X.out).2.1);(case side3=>repeat(first|exact(Kd.Qo Y.out).2.2|(with_reducible refine Kd.Za ?_ _)|(with_reducible refine Kd.Q9 ?_ _)|(with_reducible refine Kd.Zf ?_)));(case side4=>exact(Kd.Qo Y.out).2.1);(case side5=>repeat(first|exact(Kd.Qo af.out).2.2|(with_reducible refine Kd.Za ?_ _)|(with_reducible refine Kd.Q9 ?_ _)|(with_reducible refine Kd.Zf ?_)));(case side6=>exact(Kd.Qo af.out).2.1);(case side7=>exact Kd.Gf _ _);(case side8=>exact Nat.le_refl _);rintro e gi ⟨rfl,hb⟩;have U:=Aside0.mk (Kd.Qu (kra I) hb);have γ:=Aside0.mk (Kd.Qu (kra L) hb);have ι :=Aside0.mk (Kd.Qu (kra X) hb);have κ :=Aside0.mk (Kd.Qu (kra Y) hb);have ξ :=Aside0.mk (Kd.Qu (kra η) hb);have χ :=Aside0.mk (Kd.Qu (kra μ) hb);have a1:=Aside0.mk (Kd.Qu (kra a9) hb);have ak:=Aside0.mk (Kd.Qu (kra ω) hb);have am:=Aside0.mk (Kd.Qu (kra a4) hb);have ax:=Aside0.mk (Kd.Qu (kra a8) hb);have ap:=Aside0.mk (Kd.Qu (kra ac) hb);have av:=Aside0.mk (Kd.Qu (kra af) hb);have b0:=Aside0.mk (Qm (g:=bn) (o:=.cells #[.int .i64 4,.int .i64 2] 23 (0,0)) (bka B) hb);have b8:=Aside0.mk (Qm (g:=a2) (o:=.cells #[.slice aw J.length ar,.slice bd δ.length bc] 27 (0,0)) (bka O) hb);have b9:=Aside0.mk (Qm (g:=bo) (o:=.cells #[.slice cf σ.length br,.slice b5 ζ.length b2] 27 (0,0)) (bka D) hb);have be:=Aside0.mk (Qm (g:=bp) (o:=.cells #[.slice bj ai.length ay,.slice bi aj.length bh] 27 (0,0)) (bka ε) hb);have bf:=Aside0.mk (Qm (g:=bs) (o:=.cells #[.slice bk ba.length bl,.slice b6 al.length b7,.slice ci bw.length cj] 47 (0,0)) (bka Z) hb);have d5:=Aside0.mk (Qm (g:=bu) (o:=.cells #[.slice cg an.length ch,.slice ck bz.length cq] 27 (0,0)) (bka θ) hb);have d6:=Aside0.mk (Qt bel hb);clear I;clear L;clear X;clear Y;clear η;clear μ;clear a9;clear ω;clear a4;clear a8;clear ac;clear af;clear B;clear O;clear D;clear ε;clear Z;clear θ;clear HB;have I:=U;have L:=γ;have X:= ι;have Y:= κ;have η := ξ;have μ := χ;have a9:=a1;have ω :=ak;have a4:=am;have a8:=ax;have ac:=ap;have af:=av;have B:=b0;have O:=b8;have D:=b9;have ε :=be;have Z:=bf;have θ :=d5;have HB:=d6;clear U γ ι κ ξ χ a1 ak am ax ap av b0 b8 b9 be bf d5 d6;(try clear hb);(try clear a0);(try clear hk);(try clear hi);obtain⟨fk,fl,ip,fm,fw,ir⟩:=qD3 Z.out;obtain⟨gm,gn,gp,gq⟩:=qD2 θ.out;obtain⟨it,iu,iw,ix⟩:=qD2 O.out)|(go_at_call 27;(with_reducible refine(call_Same.calls k _ _ J _ _ δ _ _ J _ _ δ true _ ?side1 ?side2 ?side3 ?side4 ?side5 ?side6 ?side7 ?side8 i1.out).mono ?_);(case side1=>repeat(first|exact(Kd.Qo I.out).2.2|(with_reducible refine Kd.Za ?_ _)|(with_reducible refine Kd.Q9 ?_ _)|(with_reducible refine Kd.Zf ?_)));(case side2=>exact(Kd.Qo I.out).2.1);(case side3=>repeat(first|exact(Kd.Qo L.out).2.2|(with_reducible refine Kd.Za ?_ _)|(with_reducible refine Kd.Q9 ?_ _)|(with_reducible refine Kd.Zf ?_)));(case side4=>exact(Kd.Qo L.out).2.1);(case side5=>repeat(first|exact(Kd.Qo I.out).2.2|(with_reducible refine Kd.Za ?_ _)|(with_reducible refine Kd.Q9 ?_ _)|(with_reducible refine Kd.Zf ?_)));(case side6=>exact(Kd.Qo I.out).2.1);(case side7=>repeat(first|exact(Kd.Qo L.out).2.2|(with_reducible refine Kd.Za ?_ _)|(with_reducible refine Kd.Q9 ?_ _)|(with_reducible refine Kd.Zf ?_)));(case side8=>exact(Kd.Qo L.out).2.1);rintro e jn ⟨rfl,hb⟩;have U:=Aside0.mk (Kd.Qu (kra I) hb);have γ:=Aside0.mk (Kd.Qu (kra L) hb);have ι :=Aside0.mk (Kd.Qu (kra X) hb);have κ :=Aside0.mk (Kd.Qu (kra Y) hb);have ξ :=Aside0.mk (Kd.Qu (kra η) hb);have χ :=Aside0.mk (Kd.Qu (kra μ) hb);have a1:=Aside0.mk (Kd.Qu (kra a9) hb);have ak:=Aside0.mk (Kd.Qu (kra ω) hb);have am:=Aside0.mk (Kd.Qu (kra a4) hb);have ax:=Aside0.mk (Kd.Qu (kra a8) hb);have ap:=Aside0.mk (Kd.Qu (kra ac) hb);have av:=Aside0.mk (Kd.Qu (kra af) hb);have b0:=Aside0.mk (Qm (g:=bn) (o:=.cells #[.int .i64 4,.int .i64 2] 23 (0,0)) (bka B) hb);have b8:=Aside0.mk (Qm (g:=a2) (o:=.cells #[.slice aw J.length ar,.slice bd δ.length bc] 27 (0,0)) (bka O) hb);have b9:=Aside0.mk (Qm (g:=bo) (o:=.cells #[.slice cf σ.length br,.slice b5 ζ.length b2] 27 (0,0)) (bka D) hb);have be:=Aside0.mk (Qm (g:=bp) (o:=.cells #[.slice bj ai.length ay,.slice bi aj.length bh] 27 (0,0)) (bka ε) hb);have bf:=Aside0.mk (Qm (g:=bs) (o:=.cells #[.slice bk ba.length bl,.slice b6 al.length b7,.slice ci bw.length cj] 47 (0,0)) (bka Z) hb);have d5:=Aside0.mk (Qm (g:=bu) (o:=.cells #[.slice cg an.length ch,.slice ck bz.length cq] 27 (0,0)) (bka θ) hb);have d6:=Aside0.mk (Qt bel hb);clear I;clear L;clear X;clear Y;clear η;clear μ;clear a9;clear ω;clear a4;clear a8;clear ac;clear af;clear B;clear O;clear D;clear ε;clear Z;clear θ;clear HB;have I:=U;have L:=γ;have X:= ι;have Y:= κ;have η := ξ;have μ := χ;have a9:=a1;have ω :=ak;have a4:=am;have a8:=ax;have ac:=ap;have af:=av;have B:=b0;have O:=b8;have D:=b9;have ε :=be;have Z:=bf;have θ :=d5;have HB:=d6;clear U γ ι κ ξ χ a1 ak am ax ap av b0 b8 b9 be bf d5 d6;(try clear hb);(try clear a0);(try clear hk);(try clear hi);obtain⟨fx,fy,fz,g0⟩:=qD2 O.out;obtain⟨ez,f3,f4,f7⟩:=qD2 D.out)|(go_at_call 27;(with_reducible refine(call_Same.calls k _ _ J _ _ δ _ _ σ _ _ ζ false _ ?side1 ?side2 ?side3 ?side4 ?side5 ?side6 ?side7 ?side8 iy.out).mono ?_);(case side1=>repeat(first|exact(Kd.Qo I.out).2.2|(with_reducible refine Kd.Za ?_ _)|(with_reducible refine Kd.Q9 ?_ _)|(with_reducible refine Kd.Zf ?_)));(case side2=>exact(Kd.Qo I.out).2.1);(case side3=>repeat(first|exact(Kd.Qo L.out).2.2|(with_reducible refine Kd.Za ?_ _)|(with_reducible refine Kd.Q9 ?_ _)|(with_reducible refine Kd.Zf ?_)));(case side4=>exact(Kd.Qo L.out).2.1);(case side5=>repeat(first|exact(Kd.Qo X.out).2.2|(with_reducible refine Kd.Za ?_ _)|(with_reducible refine Kd.Q9 ?_ _)|(with_reducible refine Kd.Zf ?_)));(case side6=>exact(Kd.Qo X.out).2.1);(case side7=>repeat(first|exact(Kd.Qo Y.out).2.2|(with_reducible refine Kd.Za ?_ _)|(with_reducible refine Kd.Q9 ?_ _)|(with_reducible refine Kd.Zf ?_)));(case side8=>exact(Kd.Qo Y.out).2.1);rintro e jo ⟨rfl,hb⟩;have U:=Aside0.mk (Kd.Qu (kra I) hb);have γ:=Aside0.mk (Kd.Qu (kra L) hb);have ι :=Aside0.mk (Kd.Qu (kra X) hb);have κ :=Aside0.mk (Kd.Qu (kra Y) hb);have ξ :=Aside0.mk (Kd.Qu (kra η) hb);have χ :=Aside0.mk (Kd.Qu (kra μ) hb);have a1:=Aside0.mk (Kd.Qu (kra a9) hb);have ak:=Aside0.mk (Kd.Qu (kra ω) hb);have am:=Aside0.mk (Kd.Qu (kra a4) hb);have ax:=Aside0.mk (Kd.Qu (kra a8) hb);have ap:=Aside0.mk (Kd.Qu (kra ac) hb);have av:=Aside0.mk (Kd.Qu (kra af) hb);have b0:=Aside0.mk (Qm (g:=bn) (o:=.cells #[.int .i64 4,.int .i64 2] 23 (0,0)) (bka B) hb);have b8:=Aside0.mk (Qm (g:=a2) (o:=.cells #[.slice aw J.length ar,.slice bd δ.length bc] 27 (0,0)) (bka O) hb);have b9:=Aside0.mk (Qm (g:=bo) (o:=.cells #[.slice cf σ.length br,.slice b5 ζ.length b2] 27 (0,0)) (bka D) hb);have be:=Aside0.mk (Qm (g:=bp) (o:=.cells #[.slice bj ai.length ay,.slice bi aj.length bh] 27 (0,0)) (bka ε) hb);have bf:=Aside0.mk (Qm (g:=bs) (o:=.cells #[.slice bk ba.length bl,.slice b6 al.length b7,.slice ci bw.length cj] 47 (0,0)) (bka Z) hb);have d5:=Aside0.mk (Qm (g:=bu) (o:=.cells #[.slice cg an.length ch,.slice ck bz.length cq] 27 (0,0)) (bka θ) hb);have d6:=Aside0.mk (Qt bel hb);clear I;clear L;clear X;clear Y;clear η;clear μ;clear a9;clear ω;clear a4;clear a8;clear ac;clear af;clear B;clear O;clear D;clear ε;clear Z;clear θ;clear HB;have I:=U;have L:=γ;have X:= ι;have Y:= κ;have η := ξ;have μ := χ;have a9:=a1;have ω :=ak;have a4:=am;have a8:=ax;have ac:=ap;have af:=av;have B:=b0;have O:=b8;have D:=b9;have ε :=be;have Z:=bf;have θ :=d5;have HB:=d6;clear U γ ι κ ξ χ a1 ak am ax ap av b0 b8 b9 be bf d5 d6;(try clear hb);(try clear a0);(try clear hk);(try clear hi);obtain⟨hu,hx,hy,i0⟩:=qD2 B.out;obtain⟨gr,h7,h8,h9⟩:=qD2 D.out)|(go_at_call 14;(with_reducible refine(call_Check.calls k 4 2 _ _ σ _ _ ζ τ _ ?side1 ?side2 ?side3 ?side4 i2.out).mono ?_);(case side1=>repeat(first|exact(Kd.Qo X.out).2.2|(with_reducible refine Kd.Za ?_ _)|(with_reducible refine Kd.Q9 ?_ _)|(with_reducible refine Kd.Zf ?_)));(case side2=>exact(Kd.Qo X.out).2.1);(case side3=>repeat(first|exact(Kd.Qo Y.out).2.2|(with_reducible refine Kd.Za ?_ _)|(with_reducible refine Kd.Q9 ?_ _)|(with_reducible refine Kd.Zf ?_)));(case side4=>exact(Kd.Qo Y.out).2.1);rintro e jp ⟨rfl,hb⟩;have U:=Aside0.mk (Kd.Qu (kra I) hb);have γ:=Aside0.mk (Kd.Qu (kra L) hb);have ι :=Aside0.mk (Kd.Qu (kra X) hb);have κ :=Aside0.mk (Kd.Qu (kra Y) hb);have ξ :=Aside0.mk (Kd.Qu (kra η) hb);have χ :=Aside0.mk (Kd.Qu (kra μ) hb);have a1:=Aside0.mk (Kd.Qu (kra a9) hb);have ak:=Aside0.mk (Kd.Qu (kra ω) hb);have am:=Aside0.mk (Kd.Qu (kra a4) hb);have ax:=Aside0.mk (Kd.Qu (kra a8) hb);have ap:=Aside0.mk (Kd.Qu (kra ac) hb);have av:=Aside0.mk (Kd.Qu (kra af) hb);have b0:=Aside0.mk (Qm (g:=bn) (o:=.cells #[.int .i64 4,.int .i64 2] 23 (0,0)) (bka B) hb);have b8:=Aside0.mk (Qm (g:=a2) (o:=.cells #[.slice aw J.length ar,.slice bd δ.length bc] 27 (0,0)) (bka O) hb);have b9:=Aside0.mk (Qm (g:=bo) (o:=.cells #[.slice cf σ.length br,.slice b5 ζ.length b2] 27 (0,0)) (bka D) hb);have be:=Aside0.mk (Qm (g:=bp) (o:=.cells #[.slice bj ai.length ay,.slice bi aj.length bh] 27 (0,0)) (bka ε) hb);have bf:=Aside0.mk (Qm (g:=bs) (o:=.cells #[.slice bk ba.length bl,.slice b6 al.length b7,.slice ci bw.length cj] 47 (0,0)) (bka Z) hb);have d5:=Aside0.mk (Qm (g:=bu) (o:=.cells #[.slice cg an.length ch,.slice ck bz.length cq] 27 (0,0)) (bka θ) hb);have d6:=Aside0.mk (Qt bel hb);clear I;clear L;clear X;clear Y;clear η;clear μ;clear a9;clear ω;clear a4;clear a8;clear ac;clear af;clear B;clear O;clear D;clear ε;clear Z;clear θ;clear HB;have I:=U;have L:=γ;have X:= ι;have Y:= κ;have η := ξ;have μ := χ;have a9:=a1;have ω :=ak;have a4:=am;have a8:=ax;have ac:=ap;have af:=av;have B:=b0;have O:=b8;have D:=b9;have ε :=be;have Z:=bf;have θ :=d5;have HB:=d6;clear U γ ι κ ξ χ a1 ak am ax ap av b0 b8 b9 be bf d5 d6;(try clear hb);(try clear a0);(try clear hk);(try clear hi)))
           go_ret
           exact⟨rfl,HB.out⟩
         ·replace a3:=Bool.eq_false_iff.mpr a3
          subst a3
          have H1:(none)=some r:=by rw[if_neg (show ¬ (false=true) by decide)] at H;exact H
          clear H
          have H:=H1
          clear H1
          exact absurd H (by simp)
        ·rw[if_neg az] at H
         exact absurd H (by simp)
       ·rw[if_neg bg] at H
        exact absurd H (by simp)
      ·rw[if_neg ce] at H
       exact absurd H (by simp)
     ·rw[if_neg cb] at H
      exact absurd H (by simp)
    ·rw[if_neg c10] at H
     exact absurd H (by simp)
   ·replace c9:=Bool.eq_false_iff.mpr c9
    subst c9
    have H1:(none)=some r:=by rw[if_neg (show ¬ (false=true) by decide)] at H;exact H
    clear H
    have H:=H1
    clear H1
    exact absurd H (by simp)
  ·rw[if_neg c7] at H
   exact absurd H (by simp)
 ·rw[if_neg c6] at H
  exact absurd H (by simp)
end Go.Proofs.Ytjehhhlhalkieaa.C
namespace Go.Proofs.Ytjehhhlhalkieaa.Call
open Go.RowKit Go.Proofs.YtjehhhlhalkieaaW.PrintWords Go.Proofs.YtjehhhlhalkieaaW.PrintLast Go.Proofs.YtjehhhlhalkieaaW.PrintMore Go.Proofs.Ytjehhhlhalkieaa.C
set_option linter.unusedVariables false
set_option linter.unusedSimpArgs false
theorem Up (l m:List Hall) (hm:l.length≤1000000000) (hlm:l.length=m.length) (j:Nat):∀ (f i:Nat),i+j=l.length→j<f → ∃ b,api_Hall.l0 f l m (l.length:Int) (i:Int)=some b∧(b=true↔l.drop i=m.drop i):=by
  induction j with
  |zero=>
    intro f i hi hf
    obtain⟨f,rfl⟩:∃ f',f=f'+1:=⟨f-1,by omega⟩
    refine⟨true, ?_, ?_⟩
    · unfold api_Hall.l0
      rw[if_neg (by omega)]
    · rw[List.drop_eq_nil_of_le (by omega),List.drop_eq_nil_of_le (by omega)]
      simp
  |succ j ih=>
    intro f i hi hf
    obtain⟨f,rfl⟩:∃ f',f=f'+1:=⟨f-1,by omega⟩
    have h1:i<l.length:=by omega
    have O:i<m.length:=by omega
    unfold api_Hall.l0
    rw[if_pos (by omega),if_pos (by omega),if_pos (by omega),if_pos (by omega),Yj l i h1,Yj m i O,show wrap64 ((i:Int)+1)=((i+1:Nat):Int) from by unfold wrap64;omega]
    rw[List.drop_eq_getElem_cons h1,List.drop_eq_getElem_cons O]
    by_cases hx:l[i]=m[i]
    · rw[hx,if_neg (by simp)]
      obtain⟨b,hb,a0⟩:=ih f (i+1) (by omega) (by omega)
      exact⟨b,hb,by rw[a0,List.cons.injEq];exact⟨fun h=>⟨rfl,h⟩,fun h=>h.2⟩⟩
    · refine⟨false, ?_, ?_⟩
      · rw[if_pos]
        have hne:¬ (l[i].f0=m[i].f0∧l[i].f1=m[i].f1∧l[i].f2=m[i].f2):=fun h=>hx (by
          have e:=h
          cases hl:l[i];cases hmm:m[i]
          rw[hl,hmm] at e
          obtain⟨Y,e2,J⟩:=e
          simp only at Y e2 J
          subst Y e2 J
          rfl)
        simp only[Bool.or_eq_true,Bool.not_eq_true',beq_eq_false_iff_ne,ne_eq]
        by_cases U:l[i].f0=m[i].f0
        · by_cases h1:l[i].f1=m[i].f1
          · exact .inr (.inr fun h=>hne ⟨U,h1,h⟩)
          · exact .inr (.inl h1)
        · exact .inl U
      · exact⟨fun h=>(by cases h),fun h=>absurd (List.cons.inj h).1 hx⟩
theorem Uo (l m:List Ins) (hm:l.length≤1000000000) (hlm:l.length=m.length) (j:Nat):∀ (f i:Nat),i+j=l.length→j<f → ∃ b,api_Inside.l0 f l m (l.length:Int) (i:Int)=some b∧(b=true↔l.drop i=m.drop i):=by
  induction j with
  |zero=>
    intro f i hi hf
    obtain⟨f,rfl⟩:∃ f',f=f'+1:=⟨f-1,by omega⟩
    refine⟨true, ?_, ?_⟩
    · unfold api_Inside.l0
      rw[if_neg (by omega)]
    · rw[List.drop_eq_nil_of_le (by omega),List.drop_eq_nil_of_le (by omega)]
      simp
  |succ j ih=>
    intro f i hi hf
    obtain⟨f,rfl⟩:∃ f',f=f'+1:=⟨f-1,by omega⟩
    have h1:i<l.length:=by omega
    have O:i<m.length:=by omega
    unfold api_Inside.l0
    rw[if_pos (by omega),if_pos (by omega),if_pos (by omega),if_pos (by omega),Yq l i h1,Yq m i O,show wrap64 ((i:Int)+1)=((i+1:Nat):Int) from by unfold wrap64;omega]
    rw[List.drop_eq_getElem_cons h1,List.drop_eq_getElem_cons O]
    by_cases hx:l[i]=m[i]
    · rw[hx,if_neg (by simp)]
      obtain⟨b,hb,a0⟩:=ih f (i+1) (by omega) (by omega)
      exact⟨b,hb,by rw[a0,List.cons.injEq];exact⟨fun h=>⟨rfl,h⟩,fun h=>h.2⟩⟩
    · refine⟨false, ?_, ?_⟩
      · rw[if_pos]
        have hne:¬ (l[i].f0=m[i].f0∧l[i].f1=m[i].f1):=fun h=>hx (by
          have e:=h
          cases hl:l[i];cases hmm:m[i]
          rw[hl,hmm] at e
          obtain⟨Y,e2⟩:=e
          simp only at Y e2
          subst Y e2
          rfl)
        simp only[Bool.or_eq_true,Bool.not_eq_true',beq_eq_false_iff_ne,ne_eq]
        by_cases U:l[i].f0=m[i].f0
        · exact .inr fun h=>hne ⟨U,h⟩
        · exact .inl U
      · exact⟨fun h=>(by cases h),fun h=>absurd (List.cons.inj h).1 hx⟩
theorem same_eq (k:Nat) (H:List Hall) (I:List Ins) (H':List Hall) (I':List Ins) (hH:H.length<900000000) (hI:I.length<900000000) (hk:H.length+I.length+2<k):∃ b,call_Same.f k H I H' I'=some b∧(b=true↔(H=H'∧I=I')):=by
  unfold call_Same.f api_Hall.f api_Inside.f
  by_cases h1:H.length=H'.length
  · rw[if_pos (by omega)]
    obtain⟨b,hb,a0⟩:=Up H H' (by omega) h1 H.length k 0 (by omega) (by omega)
    rw[List.drop_zero,List.drop_zero] at a0
    rw[show((0:Nat):Int)=0 from rfl] at hb
    rw[hb]
    simp only[Option.bind_some]
    cases b
    · exact⟨false,by simp,by simp only[Bool.false_eq_true,false_iff] at a0 ⊢;exact fun h=>a0 h.1⟩
    · rw[if_pos rfl]
      have he:=a0.1 rfl
      by_cases O:I.length=I'.length
      · rw[if_pos (by omega)]
        obtain⟨c,hc,B⟩:=Uo I I' (by omega) O I.length k 0 (by omega) (by omega)
        rw[List.drop_zero,List.drop_zero] at B
        rw[show((0:Nat):Int)=0 from rfl] at hc
        rw[hc]
        exact⟨c,rfl,by rw[B];exact⟨fun h=>⟨he,h⟩,fun h=>h.2⟩⟩
      · rw[if_neg (by omega)]
        exact⟨false,rfl,by simp only[Bool.false_eq_true,false_iff];rintro⟨_,rfl⟩;exact O rfl⟩
  · rw[if_neg (by omega)]
    exact⟨false,by simp,by simp only[Bool.false_eq_true,false_iff];rintro⟨rfl,_⟩;exact h1 rfl⟩
theorem N0 (H:List Hall) (I:List Ins):newelref19_Few.f H I=some false∨(newelref19_Few.f H I=some true∧H.length≤130∧I.length≤520):=by
  unfold newelref19_Few.f
  by_cases h1:(H.length:Int)≤130
  · rw[if_pos h1]
    by_cases O:(I.length:Int)≤520
    · exact .inr ⟨by rw[decide_eq_true O],by omega,by omega⟩
    · exact .inl (by rw[decide_eq_false O])
  · rw[if_neg h1];exact .inl rfl
theorem Me:newellaw19_awake.f 40=some true:=by kernel_rfl
theorem Md (k:Nat) (hk:40≤k):newellaw19_awake.f k=some true:=Ld (g:=newellaw19_awake.f) newellaw19_awake.mono hk Me
end Go.Proofs.Ytjehhhlhalkieaa.Call
