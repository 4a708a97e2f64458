/- Texts of this claim, one behind the other: what the law's functions come to, walked (printed by a program, with the words that the print uses), and what that is, in plain Lean. No conditions of their own. -/
import Derived.Test.YtjehhhlhalkieaaQCallGives7
import Derived.Deep.RegionLaw
import Derived.Laws.NewBlocks
import Derived.Lib.AppendZerosOnto
import Derived.Shelf.Spec.SlicesInsert
namespace Go.Proofs.Ytjehhhlhalkieaa.C
open Go.RowKit Go.Proofs.YtjehhhlhalkieaaW.PrintWords Go.Proofs.YtjehhhlhalkieaaW.PrintLast Go.Proofs.YtjehhhlhalkieaaW.PrintMore
set_option linter.unusedVariables false
set_option linter.unusedSimpArgs false
section
variable {α : Type} {d : Kd α} {enc : α → List Value}
theorem G8 (a b c:List Value) (n:Nat) (h:n=a.length+b.length+c.length) (r:List Value):(a++b++(c++r)).take n=a++b++c:=by
  subst h
  rw[← List.append_assoc,List.take_left' (by simp only[List.length_append])]
theorem K4 (F:Flat d enc) {e:TypeId} (w:World) (b i n:Nat) (cur:Array Value) (l:List α) (x:α) (hh:w.heap[b]?=some (.cells cur e (0,0))) (hl:l.length=n) (hi:i≤n) (hs:(n+1) * d.sz≤cur.size) (ht:cur.toList.take (i * d.sz)=Zf enc (l.take i)):
    ∃ cur',((w.setCells b ((i+1) * d.sz) (Zf enc (l.drop i))).setCells b (i * d.sz) (enc x)).heap[b]?=some (.cells cur' e (0,0))∧cur'.size=cur.size∧cur'.toList.take ((n+1) * d.sz)=Zf enc (l.take i ++ [x]++l.drop i):=by
  have l1:(Zf enc (l.drop i)).length=(n-i) * d.sz:=by rw[Z1 F,List.length_drop,hl]
  have l0:(Zf enc (l.take i)).length=i * d.sz:=by rw[Z1 F,List.length_take,hl,Nat.min_eq_left hi]
  have e1:(i+1) * d.sz+(n-i) * d.sz=(n+1) * d.sz:=by rw[← Nat.add_mul];congr 1;omega
  have e2:(i+1) * d.sz=i * d.sz+d.sz:=by rw[Nat.add_mul,Nat.one_mul]
  obtain⟨B,D,a2,a3⟩:=Xs (Zf enc (l.drop i)) ((i+1) * d.sz) w cur hh (by rw[l1,e1];exact hs)
  obtain⟨I,U,X,b3⟩:=Xs (enc x) (i * d.sz) _ B D (by rw[F.len,a2,← e2];omega)
  refine⟨I,U,by rw[X,a2], ?_⟩
  have hcl:cur.toList.length=cur.size:=by simp
  have J:B.toList.take (i * d.sz)=Zf enc (l.take i):=by
    rw[a3,List.append_assoc,List.take_append_of_le_length (by rw[List.length_take,hcl];omega),List.take_take,Nat.min_eq_left (by omega),ht]
  have d1:B.toList.drop (i * d.sz+d.sz)=Zf enc (l.drop i)++cur.toList.drop ((i+1) * d.sz+(Zf enc (l.drop i)).length):=by
    rw[a3,← e2,List.append_assoc,List.drop_left' (by rw[List.length_take,hcl];omega)]
  rw[b3,J,F.len,d1,G8 _ _ _ _ (by rw[l0,l1,F.len,← e2,e1])]
  rw[X2,X2]
  simp[Zf]
end
abbrev Xo:S56→List Value:=(fun x:S56=>[.int .i64 x.f0,.int .i64 x.f1,.int .i64 x.f2])
set_option maxHeartbeats 4000000 in
set_option maxRecDepth 100000 in
theorem U0 (b n c i vb vc:Nat) (l:List S56) (x:S56) (w:World) (cur curv:Array Value) (hi:i<n) (hroom:n+1≤c) (ε :c≤9223372036854775807) (hvb:vb≠b) (hl:l.length=n)
    (hh:w.heap[b]?=some (.cells cur 56 (0,0))) (hcs:cur.size=c * 3) (ht:cur.toList.take (n * 3)=Zf Xo l) (hv:w.heap[vb]?=some (.cells curv 56 (0,0))) (hvs:0<curv.size) (hvt:curv.toList.take 3=Xo x):
    Calls Try.prog 63 #[.slice (some ⟨b,0,none⟩) n c,.int .i64 (i:Int),.slice (some ⟨vb,0,none⟩) 1 vc] w fun e w'=>
      e = .returned (.slice (some ⟨b,0,none⟩) (n+1) c)∧w'=(w.drew.setCells b ((i+1) * 3) (Zf Xo (l.drop i))).setCells b (i * 3) (Xo x):=by
  obtain⟨Z,B,X,hsz,L⟩:=info_parts Yl
  have J:(Try.prog.info? 56).map (·.size)=some 3:=by rw[B];simp[hsz]
  have hcur:∀ j v,cur[j]?=some v→w.cell? ⟨b,j,none⟩=some v:=fun j v hj=>by rw[cell_of_row w b j cur 56 (0,0) hh];exact hj
  have hsome:∀ j,j<c * 3→(w.cell? ⟨b,j,none⟩).isSome=true:=fun j hj=>by rw[cell_of_row w b j cur 56 (0,0) hh];simp;omega
  have hfz:∀ j,w.frozen? ⟨b,j,none⟩=false:=fun j=>Qb hh j
  have hsa:w.shape? vb=some (56,curv.size):=by simp[World.shape?,hv]
  have hsb:w.shape? b=some (56,cur.size):=by simp[World.shape?,hh]
  have hsize:∀ w,(sizeOf 56).run Try.prog w = .ok 3 w:=fun w=>by kernel_rfl
  have hov:∀ lb cb,(callFunc 70 #[.slice (some ⟨vb,0,none⟩) 1 vc,.slice (some ⟨b,(i+1) * 3,none⟩) lb cb]).run Try.prog w = .ok (.value (.bool false)) w:=fun lb cb=>by
    rw[run_callFunc_extern Try.func70 kr kr kr (e:=Extern.SlicesOverlaps.overlaps #[24,24] #[4]) kr,
      Lib.run_overlaps_apart w 24 4 56 Try.underlying24 3 hsize ⟨vb,0,none⟩ ⟨b,(i+1) * 3,none⟩ 1 vc lb cb hvb 56 56 curv.size cur.size hsa hsb (by omega) (Qb hv _) (Qb hv _)]
    rfl
  have hdl:(Zf Xo (l.drop i)).length=(n-i) * 3:=by rw[Z1 X0,List.length_drop,hl];rfl
  have hdr:(Zf Xo (l.drop i))=(cur.toList.take (n * 3)).drop (i * 3):=by rw[ht];exact(Jp X0 l i (by omega)).symm
  have γ:∀ ty la dc lb sc,min lb la=n-i→(Builtin.copy_ #[24,24] ty #[.slice (some ⟨b,(i+1) * 3,none⟩) la dc,.slice (some ⟨b,i * 3,none⟩) lb sc]).run Try.prog w.drew = .ok (goInt (n-i:Nat)) (w.drew.setCells b ((i+1) * 3) (Zf Xo (l.drop i))):=fun ty la dc lb sc hm=>by
    have:=Yc (P:=Try.prog) w.drew 24 24 ty 56 3 b ((i+1) * 3) la dc ⟨b,i * 3,none⟩ lb sc (Zf Xo (l.drop i)) Try.underlying24 J (by rw[hdl,hm])
      (fun j v hj=>by
        have ζ :=(List.getElem?_eq_some_iff.1 hj).1
        rw[hdr,List.getElem?_drop,List.getElem?_take] at hj
        split at hj
        · rw[Addr.add_lit]
          exact hcur (i * 3+j) v (by rw[← Array.getElem?_toList];exact hj)
        · cases hj)
      (fun j hj=>hsome _ (by rw[hdl] at hj;omega)) (fun j hj=>hfz _) (J7 X0 _)
    rw[hm] at this
    exact this
  obtain⟨W1,D⟩:∃ W1,W1=w.drew.setCells b ((i+1) * 3) (Zf Xo (l.drop i)):=⟨_,rfl⟩
  have δ :∀ (W:World),(∀ x,W.cell? x=W1.cell? x)→(∀ x,W.frozen? x=W1.frozen? x) → ∀ ty la dc,1≤la→(Builtin.copy_ #[24,24] ty #[.slice (some ⟨b,i * 3,none⟩) la dc,.slice (some ⟨vb,0,none⟩) 1 vc]).run Try.prog W = .ok (goInt (1:Nat)) (W.setCells b (i * 3) (Xo x)):=fun W hWc hWf ty la dc hla=>by
    have hm:min 1 la=1:=by omega
    have:=Yc (P:=Try.prog) W 24 24 ty 56 3 b (i * 3) la dc ⟨vb,0,none⟩ 1 vc (Xo x) Try.underlying24 J (by rw[hm];rfl)
      (fun j v hj=>by
        rw[Addr.add_lit,hWc,D,World.cell?_setCells_out b _ _ _ _ (fun h _=>absurd h hvb)]
        rw[← hvt,List.getElem?_take] at hj
        split at hj
        · show w.cell? ⟨vb,0+j,none⟩=some v
          rw[Nat.zero_add,cell_of_row w vb j curv 56 (0,0) hv,← Array.getElem?_toList];exact hj
        · cases hj)
      (fun j hj=>by
        rw[hWc,D]
        have η :j<3:=hj
        exact isSome_setCells b _ _ w.drew (fun q hq=>hsome ((i+1) * 3+q) (by rw[hdl] at hq;omega)) _ (hsome (i * 3+j) (by omega)))
      (fun j hj=>by rw[hWf,D,World.frozen?_setCells];exact hfz _) (X0.one x)
    rw[hm] at this
    exact this
  subst D
  have Y:= δ _ (fun _=>rfl) (fun _=>rfl) 3 (n+1-i) (c-i) (by omega)
  have U:∀ W:World,(Instr.slice 24 (.slice (some ⟨b,0,none⟩) n c) (some (.int .i64 (i:Int))) none none).run Try.prog W = .ok (.slice (some ⟨b,i * 3,none⟩) (n-i) (c-i)) W:=fun W=>by
    rw[Xg (P:=Try.prog) 24 56 .i64 Try.underlying24 B 3 hsz (some ⟨b,0,none⟩) n c (i:Int) (by omega) (by omega) W,Int.toNat_natCast,if_neg (by omega),Option.map_some,Z2]
  have I:∀ W:World,(Instr.slice 24 (.slice (some ⟨b,0,none⟩) n c) none (some (.int .i64 ((n:Int)+1))) none).run Try.prog W = .ok (.slice (some ⟨b,0,none⟩) (n+1) c) W:=fun W=>by
    have hel:Try.prog.elem 24=56:=by simp[Program.elem,Try.underlying24]
    rw[run_slice_h W 24 (some ⟨b,0,none⟩) n c (by rw[hel];exact Try.underlying24) .i64 ((n:Int)+1) (by omega) (by omega),hel]
    simp[sizeOf,typeInfo,B,sliced,Result.andThen,Addr.add]
  have g3:∀ W:World,(Instr.slice 24 (.slice (some ⟨b,0,none⟩) (n+1) c) (some (.int .i64 ((i:Int)+1))) none none).run Try.prog W = .ok (.slice (some ⟨b,(i+1) * 3,none⟩) (n+1 - (i+1)) (c - (i+1))) W:=fun W=>by
    rw[Xg (P:=Try.prog) 24 56 .i64 Try.underlying24 B 3 hsz (some ⟨b,0,none⟩) (n+1) c ((i:Int)+1) (by omega) (by omega) W,show((i:Int)+1).toNat=i+1 from by omega,if_neg (by omega),Option.map_some,Z2]
  have g4:∀ W:World,(Instr.slice 24 (.slice (some ⟨b,0,none⟩) (n+1) c) (some (.int .i64 (i:Int))) none none).run Try.prog W = .ok (.slice (some ⟨b,i * 3,none⟩) (n+1-i) (c-i)) W:=fun W=>by
    rw[Xg (P:=Try.prog) 24 56 .i64 Try.underlying24 B 3 hsz (some ⟨b,0,none⟩) (n+1) c (i:Int) (by omega) (by omega) W,Int.toNat_natCast,if_neg (by omega),Option.map_some,Z2]
  have hz2':¬ ((i:Int)=(n:Int)):=by omega
  have θ :IntKind.i64.wrap ((i:Int)+1)=(i:Int)+1:=by rw[IntKind.wrap_i64];omega
  have O:(0:Int)≤(i:Int)+1:=by omega
  have ι :((n:Int)+1≤(c:Int)):=by omega
  have κ :¬ ((c:Int)<(n:Int)+1):=by omega
  clear J hcur hsome hfz hsa hsb hsize hdl hdr B X hsz L hh hcs ht hv hvs hvt
  go_enter Try.func63,Try.ntmps63
  go_wp2_with (simp only[hov])
  go_region_law (refine step_copy_runI rfl _ _ 24 24 rfl (.slice (some ⟨b,(i+1) * 3,none⟩) (n-i) (c - (i+1))) (.slice (some ⟨b,i * 3,none⟩) (n+1-i) (c-i)) (by simp[Act.eval,Act.put]) (by simp[Act.eval,Act.put]) (γ _ _ _ _ _ (by omega)) ?_)
  go_wp2_with (at_builtin;refine wpList_copy_runI _ rfl _ _ 24 24 rfl (.slice (some ⟨b,i * 3,none⟩) (n+1-i) (c-i)) (.slice (some ⟨vb,0,none⟩) 1 vc) rfl rfl Y ?_)
  go_ret
  exact⟨rfl,rfl⟩
abbrev encI:S62→List Value:=(fun x:S62=>[.int .i64 x.f0,.int .i64 x.f1])
set_option maxHeartbeats 4000000 in
set_option maxRecDepth 100000 in
theorem Uy (b n c i vb vc:Nat) (l:List S62) (x:S62) (w:World) (cur curv:Array Value) (hi:i<n) (hroom:n+1≤c) (ε :c≤9223372036854775807) (hvb:vb≠b) (hl:l.length=n)
    (hh:w.heap[b]?=some (.cells cur 62 (0,0))) (hcs:cur.size=c * 2) (ht:cur.toList.take (n * 2)=Zf encI l) (hv:w.heap[vb]?=some (.cells curv 62 (0,0))) (hvs:0<curv.size) (hvt:curv.toList.take 2=encI x):
    Calls Try.prog 60 #[.slice (some ⟨b,0,none⟩) n c,.int .i64 (i:Int),.slice (some ⟨vb,0,none⟩) 1 vc] w fun e w'=>
      e = .returned (.slice (some ⟨b,0,none⟩) (n+1) c)∧w'=(w.drew.setCells b ((i+1) * 2) (Zf encI (l.drop i))).setCells b (i * 2) (encI x):=by
  obtain⟨Z,B,X,hsz,L⟩:=info_parts J0
  have J:(Try.prog.info? 62).map (·.size)=some 2:=by rw[B];simp[hsz]
  have hcur:∀ j v,cur[j]?=some v→w.cell? ⟨b,j,none⟩=some v:=fun j v hj=>by rw[cell_of_row w b j cur 62 (0,0) hh];exact hj
  have hsome:∀ j,j<c * 2→(w.cell? ⟨b,j,none⟩).isSome=true:=fun j hj=>by rw[cell_of_row w b j cur 62 (0,0) hh];simp;omega
  have hfz:∀ j,w.frozen? ⟨b,j,none⟩=false:=fun j=>Qb hh j
  have hsa:w.shape? vb=some (62,curv.size):=by simp[World.shape?,hv]
  have hsb:w.shape? b=some (62,cur.size):=by simp[World.shape?,hh]
  have hsize:∀ w,(sizeOf 62).run Try.prog w = .ok 2 w:=fun w=>by kernel_rfl
  have hov:∀ lb cb,(callFunc 68 #[.slice (some ⟨vb,0,none⟩) 1 vc,.slice (some ⟨b,(i+1) * 2,none⟩) lb cb]).run Try.prog w = .ok (.value (.bool false)) w:=fun lb cb=>by
    rw[run_callFunc_extern Try.func68 kr kr kr (e:=Extern.SlicesOverlaps.overlaps #[25,25] #[4]) kr,
      Lib.run_overlaps_apart w 25 4 62 Try.underlying25 2 hsize ⟨vb,0,none⟩ ⟨b,(i+1) * 2,none⟩ 1 vc lb cb hvb 62 62 curv.size cur.size hsa hsb (by omega) (Qb hv _) (Qb hv _)]
    rfl
  have hdl:(Zf encI (l.drop i)).length=(n-i) * 2:=by rw[Z1 Xz,List.length_drop,hl];rfl
  have hdr:(Zf encI (l.drop i))=(cur.toList.take (n * 2)).drop (i * 2):=by rw[ht];exact(Jp Xz l i (by omega)).symm
  have γ:∀ ty la dc lb sc,min lb la=n-i→(Builtin.copy_ #[25,25] ty #[.slice (some ⟨b,(i+1) * 2,none⟩) la dc,.slice (some ⟨b,i * 2,none⟩) lb sc]).run Try.prog w.drew = .ok (goInt (n-i:Nat)) (w.drew.setCells b ((i+1) * 2) (Zf encI (l.drop i))):=fun ty la dc lb sc hm=>by
    have:=Yc (P:=Try.prog) w.drew 25 25 ty 62 2 b ((i+1) * 2) la dc ⟨b,i * 2,none⟩ lb sc (Zf encI (l.drop i)) Try.underlying25 J (by rw[hdl,hm])
      (fun j v hj=>by
        have ζ :=(List.getElem?_eq_some_iff.1 hj).1
        rw[hdr,List.getElem?_drop,List.getElem?_take] at hj
        split at hj
        · rw[Addr.add_lit]
          exact hcur (i * 2+j) v (by rw[← Array.getElem?_toList];exact hj)
        · cases hj)
      (fun j hj=>hsome _ (by rw[hdl] at hj;omega)) (fun j hj=>hfz _) (J7 Xz _)
    rw[hm] at this
    exact this
  obtain⟨W1,D⟩:∃ W1,W1=w.drew.setCells b ((i+1) * 2) (Zf encI (l.drop i)):=⟨_,rfl⟩
  have δ :∀ (W:World),(∀ x,W.cell? x=W1.cell? x)→(∀ x,W.frozen? x=W1.frozen? x) → ∀ ty la dc,1≤la→(Builtin.copy_ #[25,25] ty #[.slice (some ⟨b,i * 2,none⟩) la dc,.slice (some ⟨vb,0,none⟩) 1 vc]).run Try.prog W = .ok (goInt (1:Nat)) (W.setCells b (i * 2) (encI x)):=fun W hWc hWf ty la dc hla=>by
    have hm:min 1 la=1:=by omega
    have:=Yc (P:=Try.prog) W 25 25 ty 62 2 b (i * 2) la dc ⟨vb,0,none⟩ 1 vc (encI x) Try.underlying25 J (by rw[hm];rfl)
      (fun j v hj=>by
        rw[Addr.add_lit,hWc,D,World.cell?_setCells_out b _ _ _ _ (fun h _=>absurd h hvb)]
        rw[← hvt,List.getElem?_take] at hj
        split at hj
        · show w.cell? ⟨vb,0+j,none⟩=some v
          rw[Nat.zero_add,cell_of_row w vb j curv 62 (0,0) hv,← Array.getElem?_toList];exact hj
        · cases hj)
      (fun j hj=>by
        rw[hWc,D]
        have η :j<2:=hj
        exact isSome_setCells b _ _ w.drew (fun q hq=>hsome ((i+1) * 2+q) (by rw[hdl] at hq;omega)) _ (hsome (i * 2+j) (by omega)))
      (fun j hj=>by rw[hWf,D,World.frozen?_setCells];exact hfz _) (Xz.one x)
    rw[hm] at this
    exact this
  subst D
  have Y:= δ _ (fun _=>rfl) (fun _=>rfl) 3 (n+1-i) (c-i) (by omega)
  have U:∀ W:World,(Instr.slice 25 (.slice (some ⟨b,0,none⟩) n c) (some (.int .i64 (i:Int))) none none).run Try.prog W = .ok (.slice (some ⟨b,i * 2,none⟩) (n-i) (c-i)) W:=fun W=>by
    rw[Xg (P:=Try.prog) 25 62 .i64 Try.underlying25 B 2 hsz (some ⟨b,0,none⟩) n c (i:Int) (by omega) (by omega) W,Int.toNat_natCast,if_neg (by omega),Option.map_some,Z2]
  have I:∀ W:World,(Instr.slice 25 (.slice (some ⟨b,0,none⟩) n c) none (some (.int .i64 ((n:Int)+1))) none).run Try.prog W = .ok (.slice (some ⟨b,0,none⟩) (n+1) c) W:=fun W=>by
    have hel:Try.prog.elem 25=62:=by simp[Program.elem,Try.underlying25]
    rw[run_slice_h W 25 (some ⟨b,0,none⟩) n c (by rw[hel];exact Try.underlying25) .i64 ((n:Int)+1) (by omega) (by omega),hel]
    simp[sizeOf,typeInfo,B,sliced,Result.andThen,Addr.add]
  have g3:∀ W:World,(Instr.slice 25 (.slice (some ⟨b,0,none⟩) (n+1) c) (some (.int .i64 ((i:Int)+1))) none none).run Try.prog W = .ok (.slice (some ⟨b,(i+1) * 2,none⟩) (n+1 - (i+1)) (c - (i+1))) W:=fun W=>by
    rw[Xg (P:=Try.prog) 25 62 .i64 Try.underlying25 B 2 hsz (some ⟨b,0,none⟩) (n+1) c ((i:Int)+1) (by omega) (by omega) W,show((i:Int)+1).toNat=i+1 from by omega,if_neg (by omega),Option.map_some,Z2]
  have g4:∀ W:World,(Instr.slice 25 (.slice (some ⟨b,0,none⟩) (n+1) c) (some (.int .i64 (i:Int))) none none).run Try.prog W = .ok (.slice (some ⟨b,i * 2,none⟩) (n+1-i) (c-i)) W:=fun W=>by
    rw[Xg (P:=Try.prog) 25 62 .i64 Try.underlying25 B 2 hsz (some ⟨b,0,none⟩) (n+1) c (i:Int) (by omega) (by omega) W,Int.toNat_natCast,if_neg (by omega),Option.map_some,Z2]
  have hz2':¬ ((i:Int)=(n:Int)):=by omega
  have θ :IntKind.i64.wrap ((i:Int)+1)=(i:Int)+1:=by rw[IntKind.wrap_i64];omega
  have O:(0:Int)≤(i:Int)+1:=by omega
  have ι :((n:Int)+1≤(c:Int)):=by omega
  have κ :¬ ((c:Int)<(n:Int)+1):=by omega
  clear J hcur hsome hfz hsa hsb hsize hdl hdr B X hsz L hh hcs ht hv hvs hvt
  go_enter Try.func60,Try.ntmps60
  go_wp2_with (simp only[hov])
  go_region_law (refine step_copy_runI rfl _ _ 25 25 rfl (.slice (some ⟨b,(i+1) * 2,none⟩) (n-i) (c - (i+1))) (.slice (some ⟨b,i * 2,none⟩) (n+1-i) (c-i)) (by simp[Act.eval,Act.put]) (by simp[Act.eval,Act.put]) (γ _ _ _ _ _ (by omega)) ?_)
  go_wp2_with (at_builtin;refine wpList_copy_runI _ rfl _ _ 25 25 rfl (.slice (some ⟨b,i * 2,none⟩) (n+1-i) (c-i)) (.slice (some ⟨vb,0,none⟩) 1 vc) rfl rfl Y ?_)
  go_ret
  exact⟨rfl,rfl⟩
end Go.Proofs.Ytjehhhlhalkieaa.C
namespace Go.Proofs.Ytjehhhlhalkieaa.C
open Go.RowKit Go.Proofs.YtjehhhlhalkieaaW.PrintWords Go.Proofs.YtjehhhlhalkieaaW.PrintLast Go.Proofs.YtjehhhlhalkieaaW.PrintMore
set_option linter.unusedVariables false
set_option linter.unusedSimpArgs false
section
variable {α : Type} {d : Kd α} {enc : α → List Value}
theorem Gb (F:Flat d enc) {e:TypeId} (w:World) (b i n:Nat) (cur:Array Value) (l:List α) (x:α) (hh:w.heap[b]?=some (.cells cur e (0,0))) (hl:l.length=n) (hi:i≤n) (hs:(n+1) * d.sz≤cur.size) (ht:cur.toList.take (i * d.sz)=Zf enc (l.take i)):
    ∃ cur',((w.setCells b (i * d.sz) (enc x)).drew.setCells b ((i+1) * d.sz) (Zf enc (l.drop i))).heap[b]?=some (.cells cur' e (0,0))∧cur'.size=cur.size∧cur'.toList.take ((n+1) * d.sz)=Zf enc (l.take i ++ [x]++l.drop i):=by
  have l1:(Zf enc (l.drop i)).length=(n-i) * d.sz:=by rw[Z1 F,List.length_drop,hl]
  have l0:(Zf enc (l.take i)).length=i * d.sz:=by rw[Z1 F,List.length_take,hl,Nat.min_eq_left hi]
  have e1:(i+1) * d.sz+(n-i) * d.sz=(n+1) * d.sz:=by rw[← Nat.add_mul];congr 1;omega
  have e2:(i+1) * d.sz=i * d.sz+d.sz:=by rw[Nat.add_mul,Nat.one_mul]
  obtain⟨B,D,a2,a3⟩:=Xs (enc x) (i * d.sz) w cur hh (by rw[F.len,← e2];omega)
  obtain⟨I,U,X,b3⟩:=Xs (Zf enc (l.drop i)) ((i+1) * d.sz) ((w.setCells b (i * d.sz) (enc x)).drew) B D (by rw[l1,e1,a2];exact hs)
  refine⟨I,U,by rw[X,a2], ?_⟩
  have hcl:cur.toList.length=cur.size:=by simp
  have J:B.toList.take ((i+1) * d.sz)=Zf enc (l.take i)++enc x:=by
    rw[a3,ht,List.take_left' (by rw[List.length_append,l0,F.len,e2])]
  rw[b3,J,List.append_assoc _ (Zf enc (l.drop i)) _,← List.append_assoc,List.append_assoc _ (enc x)]
  rw[List.take_append_of_le_length (by simp only[List.length_append,l0,l1,F.len];rw[← e1,e2];omega),List.take_of_length_le (by simp only[List.length_append,l0,l1,F.len];rw[← e1,e2];omega)]
  rw[X2,X2]
  simp[Zf]
end
set_option maxHeartbeats 4000000 in
set_option maxRecDepth 100000 in
theorem W0 (b n c i vb vc:Nat) (l:List S56) (x:S56) (w:World) (cur curv:Array Value) (hi:i<n) (hnc:n≤c) (hroom:c<n+1) (hbig:n≤1000000000) (hvb:vb≠b) (hl:l.length=n)
    (hh:w.heap[b]?=some (.cells cur 56 (0,0))) (hcs:cur.size=c * 3) (ht:cur.toList.take (n * 3)=Zf Xo l) (hv:w.heap[vb]?=some (.cells curv 56 (0,0))) (hvs:0<curv.size) (hvt:curv.toList.take 3=Xo x):
    Calls Try.prog 63 #[.slice (some ⟨b,0,none⟩) n c,.int .i64 (i:Int),.slice (some ⟨vb,0,none⟩) 1 vc] w fun e w'=>
      e = .returned (.slice (some ⟨w.heap.size,0,none⟩) (n+1) (grownCap w (n+1) c 56)) ∧
      w'=(((w.alloc (.cells ((Zf Xo (l.take i)).toArray++Builtin.zeroCells (Value.agg #[(.int .i64 0),(.int .i64 0),(.int .i64 0)]).cells (n+1-i)++Builtin.zeroCells (Value.agg #[(.int .i64 0),(.int .i64 0),(.int .i64 0)]).cells (grownCap w (n+1) c 56 - (n+1))) 56)).drew.setCells w.heap.size (i * 3) (Xo x)).drew).setCells w.heap.size ((i+1) * 3) (Zf Xo (l.drop i)):=by
  obtain⟨Z,B,X,hsz,L⟩:=info_parts Yl
  have J:(Try.prog.info? 56).map (·.size)=some 3:=by rw[B];simp[hsz]
  have hcur:∀ j v,cur[j]?=some v→w.cell? ⟨b,j,none⟩=some v:=fun j v hj=>by rw[cell_of_row w b j cur 56 (0,0) hh];exact hj
  have hbw:b<w.heap.size:=Q5 hh
  have hvw:vb<w.heap.size:=Q5 hv
  have hkk:(n:Int)+1 - (i:Int)=((n+1-i:Nat):Int):=by omega
  have hik:i+(n+1-i)=n+1:=by omega
  have htl:(Zf Xo (l.take i)).length=i * 3:=by rw[Z1 X0,List.length_take,hl,Nat.min_eq_left (by omega)];rfl
  have hdl:(Zf Xo (l.drop i)).length=(n-i) * 3:=by rw[Z1 X0,List.length_drop,hl];rfl
  have htk:Zf Xo (l.take i)=(cur.toList.take (n * 3)).take (i * 3):=by rw[ht];exact(Y2 X0 l i (by omega)).symm
  have hdr:Zf Xo (l.drop i)=(cur.toList.take (n * 3)).drop (i * 3):=by rw[ht];exact(Jp X0 l i (by omega)).symm
  have hold:(Builtin.firstCells Z.size i (.slice (some ⟨b,0,none⟩) i c)).run Try.prog w.drew = .ok (Zf Xo (l.take i)).toArray w.drew:=by
    rw[hsz]
    exact run_firstCells_some (w:=w.drew) 3 i ⟨b,0,none⟩ i c (Zf Xo (l.take i)) htl (fun j v hj=>by
      rw[Z2]
      rw[htk,List.getElem?_take,List.getElem?_take] at hj
      split at hj
      · split at hj
        · exact hcur j v (by rw[← Array.getElem?_toList];exact hj)
        · cases hj
      · cases hj)
  have hrz:∀ ty,(Builtin.append_ #[24,3] ty #[.slice (some ⟨b,0,none⟩) i c,.int .i64 ((n:Int)+1 - (i:Int))]).run Try.prog w =
      .ok (.slice (some ⟨w.heap.size,0,none⟩) (n+1) (grownCap w (n+1) c 56)) (w.drew.alloc (.cells ((Zf Xo (l.take i)).toArray++Builtin.zeroCells (Value.agg #[(.int .i64 0),(.int .i64 0),(.int .i64 0)]).cells (n+1-i)++Builtin.zeroCells (Value.agg #[(.int .i64 0),(.int .i64 0),(.int .i64 0)]).cells (grownCap w (n+1) c 56 - (n+1))) 56)):=fun ty=>by
    have h:=Lib.run_append_grow_zeros (P:=Try.prog) w 24 3 ty 56 Z _ .i64 .i64 Try.underlying24 Try.underlying3 B X (some ⟨b,0,none⟩) i c (Zf Xo (l.take i)) hold (n+1-i) (by omega) (by rw[hsz];omega) (by omega) (by omega) (by rw[L];omega) (by rw[L,hik];exact growslice_fits (by omega) (by omega))
    rw[hik] at h
    rw[hkk]
    exact h
  obtain⟨G,hG⟩:∃ G,G=grownCap w (n+1) c 56:=⟨_,rfl⟩
  obtain⟨ROW,hROW⟩:∃ ROW:Array Value,ROW=(Zf Xo (l.take i)).toArray++Builtin.zeroCells (Value.agg #[(.int .i64 0),(.int .i64 0),(.int .i64 0)]).cells (n+1-i)++Builtin.zeroCells (Value.agg #[(.int .i64 0),(.int .i64 0),(.int .i64 0)]).cells (G - (n+1)):=⟨_,rfl⟩
  rw[← hG] at hrz ⊢
  rw[← hROW] at hrz ⊢
  have hRl:(n+1) * 3≤ROW.size:=by
    rw[hROW]
    simp only[Array.size_append,size_zeroCells,List.size_toArray,htl]
    show(n+1) * 3≤i * 3+(n+1-i) * 3+(G - (n+1)) * 3
    omega
  obtain⟨W1,D⟩:∃ W1,W1=w.drew.alloc (.cells ROW 56):=⟨_,rfl⟩
  rw[← D] at hrz
  have hN:∀ j,j<(n+1) * 3→(W1.cell? ⟨w.heap.size,j,none⟩).isSome=true:=fun j hj=>by
    rw[D,World.cell?_alloc_at (w:=w.drew) ROW _ w.heap.size j rfl,Array.getElem?_eq_getElem (by omega)];rfl
  have hNf:∀ j,W1.frozen? ⟨w.heap.size,j,none⟩=false:=fun j=>by rw[D];exact World.frozen?_alloc_at (w:=w.drew) ROW _ w.heap.size j rfl
  have hOb:∀ j v,w.cell? ⟨b,j,none⟩=some v→W1.cell? ⟨b,j,none⟩=some v:=fun j v h=>by rw[D,World.cell?_alloc_past (w:=w.drew) _ b j hbw];exact h
  have hOv:∀ j v,w.cell? ⟨vb,j,none⟩=some v→W1.cell? ⟨vb,j,none⟩=some v:=fun j v h=>by rw[D,World.cell?_alloc_past (w:=w.drew) _ vb j hvw];exact h
  have hcpA:∀ (W:World),(∀ x,W.cell? x=W1.cell? x)→(∀ x,W.frozen? x=W1.frozen? x) → ∀ ty la dc,1≤la→(Builtin.copy_ #[24,24] ty #[.slice (some ⟨w.heap.size,i * 3,none⟩) la dc,.slice (some ⟨vb,0,none⟩) 1 vc]).run Try.prog W = .ok (goInt (1:Nat)) (W.setCells w.heap.size (i * 3) (Xo x)):=fun W hWc hWf ty la dc hla=>by
    have hm:min 1 la=1:=by omega
    have:=Yc (P:=Try.prog) W 24 24 ty 56 3 w.heap.size (i * 3) la dc ⟨vb,0,none⟩ 1 vc (Xo x) Try.underlying24 J (by rw[hm];rfl)
      (fun j v hj=>by
        rw[Z2,hWc]
        rw[← hvt,List.getElem?_take] at hj
        split at hj
        · exact hOv j v (by rw[cell_of_row w vb j curv 56 (0,0) hv,← Array.getElem?_toList];exact hj)
        · cases hj)
      (fun j hj=>by
        rw[hWc]
        have η :j<3:=hj
        exact hN (i * 3+j) (by omega))
      (fun j hj=>by rw[hWf];exact hNf _) (X0.one x)
    rw[hm] at this
    exact this
  have γ:n+1≤G:=by rw[hG];exact grownCap_ge w _ _ _
  have ι :G≤9223372036854775807:=by
    have:=grownCap_le_maxLen w (n+1) c 56 (by unfold maxLen;omega)
    rw[← hG] at this
    unfold maxLen at this
    omega
  have hbN:b≠w.heap.size:=by omega
  have hcpB:∀ (W:World),(∀ y,W.cell? y=(W1.setCells w.heap.size (i * 3) (Xo x)).cell? y)→(∀ y,W.frozen? y=(W1.setCells w.heap.size (i * 3) (Xo x)).frozen? y) → ∀ ty la dc lb sc,min lb la=n-i→(Builtin.copy_ #[24,24] ty #[.slice (some ⟨w.heap.size,(i+1) * 3,none⟩) la dc,.slice (some ⟨b,i * 3,none⟩) lb sc]).run Try.prog W = .ok (goInt (n-i:Nat)) (W.setCells w.heap.size ((i+1) * 3) (Zf Xo (l.drop i))):=fun W hWc hWf ty la dc lb sc hm=>by
    have:=Yc (P:=Try.prog) W 24 24 ty 56 3 w.heap.size ((i+1) * 3) la dc ⟨b,i * 3,none⟩ lb sc (Zf Xo (l.drop i)) Try.underlying24 J (by rw[hdl,hm])
      (fun j v hj=>by
        rw[hdr,List.getElem?_drop,List.getElem?_take] at hj
        split at hj
        · rw[Addr.add_lit,hWc,World.cell?_setCells_out _ _ _ _ _ (fun h _=>absurd h hbN)]
          exact hOb _ v (hcur (i * 3+j) v (by rw[← Array.getElem?_toList];exact hj))
        · cases hj)
      (fun j hj=>by
        rw[hWc]
        rw[hdl] at hj
        exact isSome_setCells _ _ _ W1 (fun q hq=>hN (i * 3+q) (by have:q<3:=hq;omega)) ((i+1) * 3+j) (hN ((i+1) * 3+j) (by omega)))
      (fun j hj=>by rw[hWf,World.frozen?_setCells];exact hNf _) (J7 X0 _)
    rw[hm] at this
    exact this
  subst D
  have δ :∀ x,((w.alloc (.cells ROW 56)).drew).cell? x=(w.drew.alloc (.cells ROW 56)).cell? x:=fun x=>rfl
  have ε :∀ x,((w.alloc (.cells ROW 56)).drew).frozen? x=(w.drew.alloc (.cells ROW 56)).frozen? x:=fun x=>rfl
  have Y:=hcpA _ δ ε 3 (n+1-i) (G-i) (by omega)
  have ζ :=hcpB ((w.alloc (.cells ROW 56)).drew.setCells w.heap.size (i * 3) (Xo x)).drew (fun x=>rfl) (fun x=>rfl) 3 (n-i) (G - (i+1)) (n-i) (c-i) (by omega)
  have U:∀ W:World,(Instr.slice 24 (.slice (some ⟨b,0,none⟩) n c) (some (.int .i64 (i:Int))) none none).run Try.prog W = .ok (.slice (some ⟨b,i * 3,none⟩) (n-i) (c-i)) W:=fun W=>by
    rw[Xg (P:=Try.prog) 24 56 .i64 Try.underlying24 B 3 hsz (some ⟨b,0,none⟩) n c (i:Int) (by omega) (by omega) W,Int.toNat_natCast,if_neg (by omega),Option.map_some,Z2]
  have I:∀ W:World,(Instr.slice 24 (.slice (some ⟨b,0,none⟩) n c) none (some (.int .i64 (i:Int))) none).run Try.prog W = .ok (.slice (some ⟨b,0,none⟩) i c) W:=fun W=>by
    have hel:Try.prog.elem 24=56:=by simp[Program.elem,Try.underlying24]
    rw[run_slice_h W 24 (some ⟨b,0,none⟩) n c (by rw[hel];exact Try.underlying24) .i64 (i:Int) (by omega) (by omega),hel]
    simp[sizeOf,typeInfo,B,sliced,Result.andThen,Addr.add]
  have g3:∀ W:World,(Instr.slice 24 (.slice (some ⟨w.heap.size,0,none⟩) (n+1) G) (some (.int .i64 (i:Int))) none none).run Try.prog W = .ok (.slice (some ⟨w.heap.size,i * 3,none⟩) (n+1-i) (G-i)) W:=fun W=>by
    rw[Xg (P:=Try.prog) 24 56 .i64 Try.underlying24 B 3 hsz (some ⟨w.heap.size,0,none⟩) (n+1) G (i:Int) (by omega) (by omega) W,Int.toNat_natCast,if_neg (by omega),Option.map_some,Z2]
  have g4:∀ W:World,(Instr.slice 24 (.slice (some ⟨w.heap.size,0,none⟩) (n+1) G) (some (.int .i64 ((i:Int)+1))) none none).run Try.prog W = .ok (.slice (some ⟨w.heap.size,(i+1) * 3,none⟩) (n-i) (G - (i+1))) W:=fun W=>by
    rw[Xg (P:=Try.prog) 24 56 .i64 Try.underlying24 B 3 hsz (some ⟨w.heap.size,0,none⟩) (n+1) G ((i:Int)+1) (by omega) (by omega) W,show((i:Int)+1).toNat=i+1 from by omega,if_neg (by omega),Option.map_some,Z2,show n+1 - (i+1)=n-i from by omega]
  have hz2':¬ ((i:Int)=(n:Int)):=by omega
  have κ :(c:Int)<(n:Int)+1:=by omega
  have θ :IntKind.i64.wrap ((i:Int)+1)=(i:Int)+1:=by rw[IntKind.wrap_i64];omega
  have O:(0:Int)≤(i:Int)+1:=by omega
  clear hcpA hcpB hN hNf hOb hOv δ ε hkk hik hold hROW hG hRl J hcur hdl hdr htl htk B X hsz L hh hcs ht hv hvs hvt
  go_enter Try.func63,Try.ntmps63
  go_wp2_with (first
    |(at_builtin;refine Lib.wpList_append_run _ rfl _ _ _ _ rfl _ _ rfl rfl _ _ (hrz _) ?_)
    |(at_builtin;refine wpList_copy_runI _ rfl _ _ 24 24 rfl (.slice (some ⟨w.heap.size,i * 3,none⟩) (n+1-i) (G-i)) (.slice (some ⟨vb,0,none⟩) 1 vc) rfl rfl Y ?_))
  go_region_law (refine step_copy_runI rfl _ _ 24 24 rfl (.slice (some ⟨w.heap.size,(i+1) * 3,none⟩) (n-i) (G - (i+1))) (.slice (some ⟨b,i * 3,none⟩) (n-i) (c-i)) (by simp[Act.eval,Act.put]) (by simp[Act.eval,Act.put]) ζ ?_)
  go_wp2
  go_ret
  exact⟨rfl,rfl⟩
set_option maxHeartbeats 4000000 in
set_option maxRecDepth 100000 in
theorem Wz (b n c i vb vc:Nat) (l:List S62) (x:S62) (w:World) (cur curv:Array Value) (hi:i<n) (hnc:n≤c) (hroom:c<n+1) (hbig:n≤1000000000) (hvb:vb≠b) (hl:l.length=n)
    (hh:w.heap[b]?=some (.cells cur 62 (0,0))) (hcs:cur.size=c * 2) (ht:cur.toList.take (n * 2)=Zf encI l) (hv:w.heap[vb]?=some (.cells curv 62 (0,0))) (hvs:0<curv.size) (hvt:curv.toList.take 2=encI x):
    Calls Try.prog 60 #[.slice (some ⟨b,0,none⟩) n c,.int .i64 (i:Int),.slice (some ⟨vb,0,none⟩) 1 vc] w fun e w'=>
      e = .returned (.slice (some ⟨w.heap.size,0,none⟩) (n+1) (grownCap w (n+1) c 62)) ∧
      w'=(((w.alloc (.cells ((Zf encI (l.take i)).toArray++Builtin.zeroCells (Value.agg #[(.int .i64 0),(.int .i64 0)]).cells (n+1-i)++Builtin.zeroCells (Value.agg #[(.int .i64 0),(.int .i64 0)]).cells (grownCap w (n+1) c 62 - (n+1))) 62)).drew.setCells w.heap.size (i * 2) (encI x)).drew).setCells w.heap.size ((i+1) * 2) (Zf encI (l.drop i)):=by
  obtain⟨Z,B,X,hsz,L⟩:=info_parts J0
  have J:(Try.prog.info? 62).map (·.size)=some 2:=by rw[B];simp[hsz]
  have hcur:∀ j v,cur[j]?=some v→w.cell? ⟨b,j,none⟩=some v:=fun j v hj=>by rw[cell_of_row w b j cur 62 (0,0) hh];exact hj
  have hbw:b<w.heap.size:=Q5 hh
  have hvw:vb<w.heap.size:=Q5 hv
  have hkk:(n:Int)+1 - (i:Int)=((n+1-i:Nat):Int):=by omega
  have hik:i+(n+1-i)=n+1:=by omega
  have htl:(Zf encI (l.take i)).length=i * 2:=by rw[Z1 Xz,List.length_take,hl,Nat.min_eq_left (by omega)];rfl
  have hdl:(Zf encI (l.drop i)).length=(n-i) * 2:=by rw[Z1 Xz,List.length_drop,hl];rfl
  have htk:Zf encI (l.take i)=(cur.toList.take (n * 2)).take (i * 2):=by rw[ht];exact(Y2 Xz l i (by omega)).symm
  have hdr:Zf encI (l.drop i)=(cur.toList.take (n * 2)).drop (i * 2):=by rw[ht];exact(Jp Xz l i (by omega)).symm
  have hold:(Builtin.firstCells Z.size i (.slice (some ⟨b,0,none⟩) i c)).run Try.prog w.drew = .ok (Zf encI (l.take i)).toArray w.drew:=by
    rw[hsz]
    exact run_firstCells_some (w:=w.drew) 2 i ⟨b,0,none⟩ i c (Zf encI (l.take i)) htl (fun j v hj=>by
      rw[Z2]
      rw[htk,List.getElem?_take,List.getElem?_take] at hj
      split at hj
      · split at hj
        · exact hcur j v (by rw[← Array.getElem?_toList];exact hj)
        · cases hj
      · cases hj)
  have hrz:∀ ty,(Builtin.append_ #[25,3] ty #[.slice (some ⟨b,0,none⟩) i c,.int .i64 ((n:Int)+1 - (i:Int))]).run Try.prog w =
      .ok (.slice (some ⟨w.heap.size,0,none⟩) (n+1) (grownCap w (n+1) c 62)) (w.drew.alloc (.cells ((Zf encI (l.take i)).toArray++Builtin.zeroCells (Value.agg #[(.int .i64 0),(.int .i64 0)]).cells (n+1-i)++Builtin.zeroCells (Value.agg #[(.int .i64 0),(.int .i64 0)]).cells (grownCap w (n+1) c 62 - (n+1))) 62)):=fun ty=>by
    have h:=Lib.run_append_grow_zeros (P:=Try.prog) w 25 3 ty 62 Z _ .i64 .i64 Try.underlying25 Try.underlying3 B X (some ⟨b,0,none⟩) i c (Zf encI (l.take i)) hold (n+1-i) (by omega) (by rw[hsz];omega) (by omega) (by omega) (by rw[L];omega) (by rw[L,hik];exact growslice_fits (by omega) (by omega))
    rw[hik] at h
    rw[hkk]
    exact h
  obtain⟨G,hG⟩:∃ G,G=grownCap w (n+1) c 62:=⟨_,rfl⟩
  obtain⟨ROW,hROW⟩:∃ ROW:Array Value,ROW=(Zf encI (l.take i)).toArray++Builtin.zeroCells (Value.agg #[(.int .i64 0),(.int .i64 0)]).cells (n+1-i)++Builtin.zeroCells (Value.agg #[(.int .i64 0),(.int .i64 0)]).cells (G - (n+1)):=⟨_,rfl⟩
  rw[← hG] at hrz ⊢
  rw[← hROW] at hrz ⊢
  have hRl:(n+1) * 2≤ROW.size:=by
    rw[hROW]
    simp only[Array.size_append,size_zeroCells,List.size_toArray,htl]
    show(n+1) * 2≤i * 2+(n+1-i) * 2+(G - (n+1)) * 2
    omega
  obtain⟨W1,D⟩:∃ W1,W1=w.drew.alloc (.cells ROW 62):=⟨_,rfl⟩
  rw[← D] at hrz
  have hN:∀ j,j<(n+1) * 2→(W1.cell? ⟨w.heap.size,j,none⟩).isSome=true:=fun j hj=>by
    rw[D,World.cell?_alloc_at (w:=w.drew) ROW _ w.heap.size j rfl,Array.getElem?_eq_getElem (by omega)];rfl
  have hNf:∀ j,W1.frozen? ⟨w.heap.size,j,none⟩=false:=fun j=>by rw[D];exact World.frozen?_alloc_at (w:=w.drew) ROW _ w.heap.size j rfl
  have hOb:∀ j v,w.cell? ⟨b,j,none⟩=some v→W1.cell? ⟨b,j,none⟩=some v:=fun j v h=>by rw[D,World.cell?_alloc_past (w:=w.drew) _ b j hbw];exact h
  have hOv:∀ j v,w.cell? ⟨vb,j,none⟩=some v→W1.cell? ⟨vb,j,none⟩=some v:=fun j v h=>by rw[D,World.cell?_alloc_past (w:=w.drew) _ vb j hvw];exact h
  have hcpA:∀ (W:World),(∀ x,W.cell? x=W1.cell? x)→(∀ x,W.frozen? x=W1.frozen? x) → ∀ ty la dc,1≤la→(Builtin.copy_ #[25,25] ty #[.slice (some ⟨w.heap.size,i * 2,none⟩) la dc,.slice (some ⟨vb,0,none⟩) 1 vc]).run Try.prog W = .ok (goInt (1:Nat)) (W.setCells w.heap.size (i * 2) (encI x)):=fun W hWc hWf ty la dc hla=>by
    have hm:min 1 la=1:=by omega
    have:=Yc (P:=Try.prog) W 25 25 ty 62 2 w.heap.size (i * 2) la dc ⟨vb,0,none⟩ 1 vc (encI x) Try.underlying25 J (by rw[hm];rfl)
      (fun j v hj=>by
        rw[Z2,hWc]
        rw[← hvt,List.getElem?_take] at hj
        split at hj
        · exact hOv j v (by rw[cell_of_row w vb j curv 62 (0,0) hv,← Array.getElem?_toList];exact hj)
        · cases hj)
      (fun j hj=>by
        rw[hWc]
        have η :j<2:=hj
        exact hN (i * 2+j) (by omega))
      (fun j hj=>by rw[hWf];exact hNf _) (Xz.one x)
    rw[hm] at this
    exact this
  have γ:n+1≤G:=by rw[hG];exact grownCap_ge w _ _ _
  have ι :G≤9223372036854775807:=by
    have:=grownCap_le_maxLen w (n+1) c 62 (by unfold maxLen;omega)
    rw[← hG] at this
    unfold maxLen at this
    omega
  have hbN:b≠w.heap.size:=by omega
  have hcpB:∀ (W:World),(∀ y,W.cell? y=(W1.setCells w.heap.size (i * 2) (encI x)).cell? y)→(∀ y,W.frozen? y=(W1.setCells w.heap.size (i * 2) (encI x)).frozen? y) → ∀ ty la dc lb sc,min lb la=n-i→(Builtin.copy_ #[25,25] ty #[.slice (some ⟨w.heap.size,(i+1) * 2,none⟩) la dc,.slice (some ⟨b,i * 2,none⟩) lb sc]).run Try.prog W = .ok (goInt (n-i:Nat)) (W.setCells w.heap.size ((i+1) * 2) (Zf encI (l.drop i))):=fun W hWc hWf ty la dc lb sc hm=>by
    have:=Yc (P:=Try.prog) W 25 25 ty 62 2 w.heap.size ((i+1) * 2) la dc ⟨b,i * 2,none⟩ lb sc (Zf encI (l.drop i)) Try.underlying25 J (by rw[hdl,hm])
      (fun j v hj=>by
        rw[hdr,List.getElem?_drop,List.getElem?_take] at hj
        split at hj
        · rw[Addr.add_lit,hWc,World.cell?_setCells_out _ _ _ _ _ (fun h _=>absurd h hbN)]
          exact hOb _ v (hcur (i * 2+j) v (by rw[← Array.getElem?_toList];exact hj))
        · cases hj)
      (fun j hj=>by
        rw[hWc]
        rw[hdl] at hj
        exact isSome_setCells _ _ _ W1 (fun q hq=>hN (i * 2+q) (by have:q<2:=hq;omega)) ((i+1) * 2+j) (hN ((i+1) * 2+j) (by omega)))
      (fun j hj=>by rw[hWf,World.frozen?_setCells];exact hNf _) (J7 Xz _)
    rw[hm] at this
    exact this
  subst D
  have δ :∀ x,((w.alloc (.cells ROW 62)).drew).cell? x=(w.drew.alloc (.cells ROW 62)).cell? x:=fun x=>rfl
  have ε :∀ x,((w.alloc (.cells ROW 62)).drew).frozen? x=(w.drew.alloc (.cells ROW 62)).frozen? x:=fun x=>rfl
  have Y:=hcpA _ δ ε 3 (n+1-i) (G-i) (by omega)
  have ζ :=hcpB ((w.alloc (.cells ROW 62)).drew.setCells w.heap.size (i * 2) (encI x)).drew (fun x=>rfl) (fun x=>rfl) 3 (n-i) (G - (i+1)) (n-i) (c-i) (by omega)
  have U:∀ W:World,(Instr.slice 25 (.slice (some ⟨b,0,none⟩) n c) (some (.int .i64 (i:Int))) none none).run Try.prog W = .ok (.slice (some ⟨b,i * 2,none⟩) (n-i) (c-i)) W:=fun W=>by
    rw[Xg (P:=Try.prog) 25 62 .i64 Try.underlying25 B 2 hsz (some ⟨b,0,none⟩) n c (i:Int) (by omega) (by omega) W,Int.toNat_natCast,if_neg (by omega),Option.map_some,Z2]
  have I:∀ W:World,(Instr.slice 25 (.slice (some ⟨b,0,none⟩) n c) none (some (.int .i64 (i:Int))) none).run Try.prog W = .ok (.slice (some ⟨b,0,none⟩) i c) W:=fun W=>by
    have hel:Try.prog.elem 25=62:=by simp[Program.elem,Try.underlying25]
    rw[run_slice_h W 25 (some ⟨b,0,none⟩) n c (by rw[hel];exact Try.underlying25) .i64 (i:Int) (by omega) (by omega),hel]
    simp[sizeOf,typeInfo,B,sliced,Result.andThen,Addr.add]
  have g3:∀ W:World,(Instr.slice 25 (.slice (some ⟨w.heap.size,0,none⟩) (n+1) G) (some (.int .i64 (i:Int))) none none).run Try.prog W = .ok (.slice (some ⟨w.heap.size,i * 2,none⟩) (n+1-i) (G-i)) W:=fun W=>by
    rw[Xg (P:=Try.prog) 25 62 .i64 Try.underlying25 B 2 hsz (some ⟨w.heap.size,0,none⟩) (n+1) G (i:Int) (by omega) (by omega) W,Int.toNat_natCast,if_neg (by omega),Option.map_some,Z2]
  have g4:∀ W:World,(Instr.slice 25 (.slice (some ⟨w.heap.size,0,none⟩) (n+1) G) (some (.int .i64 ((i:Int)+1))) none none).run Try.prog W = .ok (.slice (some ⟨w.heap.size,(i+1) * 2,none⟩) (n-i) (G - (i+1))) W:=fun W=>by
    rw[Xg (P:=Try.prog) 25 62 .i64 Try.underlying25 B 2 hsz (some ⟨w.heap.size,0,none⟩) (n+1) G ((i:Int)+1) (by omega) (by omega) W,show((i:Int)+1).toNat=i+1 from by omega,if_neg (by omega),Option.map_some,Z2,show n+1 - (i+1)=n-i from by omega]
  have hz2':¬ ((i:Int)=(n:Int)):=by omega
  have κ :(c:Int)<(n:Int)+1:=by omega
  have θ :IntKind.i64.wrap ((i:Int)+1)=(i:Int)+1:=by rw[IntKind.wrap_i64];omega
  have O:(0:Int)≤(i:Int)+1:=by omega
  clear hcpA hcpB hN hNf hOb hOv δ ε hkk hik hold hROW hG hRl J hcur hdl hdr htl htk B X hsz L hh hcs ht hv hvs hvt
  go_enter Try.func60,Try.ntmps60
  go_wp2_with (first
    |(at_builtin;refine Lib.wpList_append_run _ rfl _ _ _ _ rfl _ _ rfl rfl _ _ (hrz _) ?_)
    |(at_builtin;refine wpList_copy_runI _ rfl _ _ 25 25 rfl (.slice (some ⟨w.heap.size,i * 2,none⟩) (n+1-i) (G-i)) (.slice (some ⟨vb,0,none⟩) 1 vc) rfl rfl Y ?_))
  go_region_law (refine step_copy_runI rfl _ _ 25 25 rfl (.slice (some ⟨w.heap.size,(i+1) * 2,none⟩) (n-i) (G - (i+1))) (.slice (some ⟨b,i * 2,none⟩) (n-i) (c-i)) (by simp[Act.eval,Act.put]) (by simp[Act.eval,Act.put]) ζ ?_)
  go_wp2
  go_ret
  exact⟨rfl,rfl⟩
end Go.Proofs.Ytjehhhlhalkieaa.C
namespace Go.Proofs.Ytjehhhlhalkieaa.C
open Go.RowKit Go.Proofs.YtjehhhlhalkieaaW.PrintWords Go.Proofs.YtjehhhlhalkieaaW.PrintLast Go.Proofs.YtjehhhlhalkieaaW.PrintMore
set_option linter.unusedVariables false
set_option linter.unusedSimpArgs false
theorem Z8 {B g:Nat} {w0 w:World} (hb:Below B w0 w) (hg:B≤g):∀ (vs:List Value) (o:Nat) {w:World},Below B w0 w→Below B w0 (w.setCells g o vs)
  | [],_,_,h=>h
  |v :: r,o,_,h=>Z8 hb hg r (o+1) (h.setCell (p:=⟨g,o,none⟩) hg v)
theorem Gd (w:World) (g D B:Nat) (v1 v2:List Value):w.grownBy ((w.drew.setCells g D v1).setCells g B v2) (some g):=by
  obtain⟨L,O,X,Z⟩:=X8 g v1 D w.drew
  obtain⟨J,I,U,Y⟩:=X8 g v2 B (w.drew.setCells g D v1)
  exact⟨J.trans L,I.trans O,U.trans X,by rw[Y,Z];exact Nat.le_refl _,fun k _ hk=>(Yf _ _ k (fun he=>hk (by rw[he]))).trans (Yf (w:=w.drew) _ _ k (fun he=>hk (by rw[he])))⟩
theorem Jq {B:Nat} {w:World} (hB:B≤w.heap.size) (o:Obj):Below B w (w.alloc o):=(Below.refl B w).alloc hB o
set_option maxHeartbeats 4000000 in
set_option maxRecDepth 100000 in
theorem Ly (w:World) (base:Nat) (ok:Nat→Prop) (A:Option Addr) (c:Nat) (l:List S56) (x:S56) (vb vc:Nat) (curv:Array Value) (hbase:base≤w.heap.size) (hfresh:∀ k,w.heap.size≤k→ok k)
    (HO:Kd.R k56 56 w base ok (.slice A l.length c) l) (hnc:l.length≤c) (hl:l.length≤1000000000)
    (hv:w.heap[vb]?=some (.cells curv 56 (0,0))) (hvs:0<curv.size) (hvt:curv.toList.take 3=Xo x):
    Calls Try.prog 63 #[.slice A l.length c,.int .i64 (l.length:Int),.slice (some ⟨vb,0,none⟩) 1 vc] w fun e w'=>
      ∃ v1:Value,e = .returned v1∧Kd.R k56 56 w' base ok v1 (l ++ [x])∧Below base w w'∧w.grownBy w' (Value.slice A l.length c).ownBlock∧(v1.ownBlock=(Value.slice A l.length c).ownBlock ∨ ∃ b,v1.ownBlock=some b∧w.heap.size≤b):=by
  obtain⟨Z,B,X,hsz,L⟩:=info_parts Yl
  obtain⟨sv,U⟩:∃ sv,∀ W:World,(Instr.slice 24 (.slice A l.length c) (some (.int .i64 (l.length:Int))) none none).run Try.prog W = .ok sv W:=⟨_,fun W=>Xg (P:=Try.prog) 24 56 .i64 Try.underlying24 B 3 hsz A l.length c (l.length:Int) (by omega) (by omega) W⟩
  have HR:Xb (fun p cs=>cs=Xo p) 3 w (some ⟨vb,0,none⟩) 1 [x]:=by
    refine⟨rfl,by decide,fun _=>⟨_,rfl,fun j p hj=>⟨Xo p,rfl,rfl,fun q u hu=>?_⟩⟩⟩
    have J:j<1:=(List.getElem?_eq_some_iff.1 hj).1
    obtain rfl:j=0:=by omega
    obtain rfl:x=p:=by simpa using hj
    rw[Z2,Nat.zero_mul,Nat.zero_add,cell_of_row w vb q curv 56 (0,0) hv,← Array.getElem?_toList]
    rw[← hvt,List.getElem?_take] at hu
    split at hu
    · exact hu
    · cases hu
  go_enter Try.func63,Try.ntmps63
  go_wp2_with (at_builtin;refine Kd.Yo k56 (w0:=w) base rfl (.tmp 23) (.tmp 24) 24 56 (Value.agg #[(.int .i64 0),(.int .i64 0),(.int .i64 0)]) 24 rfl Try.underlying24 Yl rfl (by decide) (by decide) (.slice A l.length c) l [x] _ _ _ ok (fun _=>False) rfl rfl HO HR (fun _ _ h=>(X0.M _ _ _ _ _).2 h) (fun _ h=>h.elim) hfresh (Below.refl _ _) hbase (by omega) ?_)
  intro v1 w1 h1 O D I
  go_wp2
  go_ret
  exact⟨_,rfl,h1,O,D,I⟩
theorem U1 (w:World) (base:Nat) (ok:Nat→Prop) (A:Option Addr) (c:Nat) (l:List S56) (x:S56) (i:Int) (vb vc:Nat) (curv:Array Value) (hbase:base≤w.heap.size) (hfresh:∀ k,w.heap.size≤k→ok k)
    (HO:Kd.R k56 56 w base ok (.slice A l.length c) l) (hvb:∀ a,A=some a→vb≠a.block) (hl:l.length≤1000000000)
    (hv:w.heap[vb]?=some (.cells curv 56 (0,0))) (hvs:0<curv.size) (hvt:curv.toList.take 3=Xo x) (Y:0≤i) (hi:i≤(l.length:Int)):
    Calls Try.prog 63 #[.slice A l.length c,.int .i64 i,.slice (some ⟨vb,0,none⟩) 1 vc] w fun e w'=>
      ∃ v1:Value,e = .returned v1∧Kd.R k56 56 w' base ok v1 (l.take i.toNat ++ [x]++l.drop i.toNat)∧Below base w w'∧w.grownBy w' (Value.slice A l.length c).ownBlock∧(v1.ownBlock=(Value.slice A l.length c).ownBlock ∨ ∃ b,v1.ownBlock=some b∧w.heap.size≤b):=by
  obtain⟨m,rfl⟩:∃ m:Nat,i=m:=⟨i.toNat,by omega⟩
  rw[Int.toNat_natCast]
  obtain⟨hq,ho⟩:=(Yh X0).1 HO
  have hlen:(l.take m ++ [x]++l.drop m).length=l.length+1:=by simp only[List.length_append,List.length_take,List.length_drop,List.length_cons,List.length_nil];omega
  have B:(k56).sz=3:=rfl
  rcases Nat.lt_or_ge m l.length with hlt|hge
  · rcases ho.2 with⟨_,hn⟩|⟨g,cap,cur,he,hb,hh,hnc,hcm,hcs,htake⟩
    · omega
    injection he with e1 e2 J
    subst e1 J
    have hne:vb≠g:=hvb _ rfl
    have htk:cur.toList.take (m * 3)=Zf Xo (l.take m):=by
      have:=Y2 X0 l m (by omega)
      rw[B] at this
      rw[← this,← htake,List.take_take,B,Nat.min_eq_left (Nat.mul_le_mul_right _ (by omega))]
    rcases Nat.lt_or_ge l.length c with hr|hr
    · refine(U0 g l.length c m vb vc l x w cur curv hlt (by omega) (by unfold maxLen at hcm;omega) hne rfl hh hcs htake hv hvs hvt).mono ?_
      rintro e w' ⟨he,hw⟩
      obtain⟨cur',c1,c2,c3⟩:=K4 X0 w.drew g m l.length cur l x hh rfl (by omega) (by rw[hcs];exact Nat.mul_le_mul_right _ (by omega)) (by rw[B];exact htk)
      rw[B] at c1 c3
      rw[← hw] at c1
      refine⟨_,he,(Yh X0).2 ⟨hq,by rw[Z1 X0],.inr ⟨g,c,cur',by rw[hlen],hb,c1,by omega,hcm,by rw[c2,hcs],by rw[hlen];exact c3⟩⟩, ?_, ?_,.inl rfl⟩ <;> rw[hw]
      · exact Z8 (Below.refl _ w) hb _ _ (Z8 (Below.refl _ w) hb _ _ (Qh (Below.refl _ _)))
      · exact Gd _ _ _ _ _ _
    · have hce:c=l.length:=by omega
      refine(W0 g l.length c m vb vc l x w cur curv hlt (by omega) (by omega) hl hne rfl hh hcs htake hv hvs hvt).mono ?_
      rintro e w' ⟨he,hw⟩
      have γ:=grownCap_ge w (l.length+1) c 56
      have hGm:=grownCap_le_maxLen w (l.length+1) c 56 (by unfold maxLen;omega)
      obtain⟨G,hG⟩:∃ G,G=grownCap w (l.length+1) c 56:=⟨_,rfl⟩
      rw[← hG] at he hw γ hGm
      obtain⟨ROW,hROW⟩:∃ ROW:Array Value,ROW=(Zf Xo (l.take m)).toArray++Builtin.zeroCells (Value.agg #[(.int .i64 0),(.int .i64 0),(.int .i64 0)]).cells (l.length+1-m)++Builtin.zeroCells (Value.agg #[(.int .i64 0),(.int .i64 0),(.int .i64 0)]).cells (G - (l.length+1)):=⟨_,rfl⟩
      have htl:(Zf Xo (l.take m)).length=m * 3:=by rw[Z1 X0,List.length_take,Nat.min_eq_left (by omega)];rfl
      have hRs:ROW.size=G * 3:=by
        rw[hROW]
        simp only[Array.size_append,size_zeroCells,List.size_toArray,htl]
        show m * 3+(l.length+1-m) * 3+(G - (l.length+1)) * 3=G * 3
        omega
      have hRt:ROW.toList.take (m * 3)=Zf Xo (l.take m):=by
        rw[hROW,Array.toList_append,Array.toList_append,List.append_assoc]
        exact List.take_left' htl
      rw[← hROW] at hw
      have hblk:(w.alloc (.cells ROW 56)).drew.heap[w.heap.size]?=some (.cells ROW 56 (0,0)):=by
        show(w.heap.push (.cells ROW 56))[w.heap.size]?=_
        exact Array.getElem?_push_size
      obtain⟨cur',c1,c2,c3⟩:=Gb X0 (w.alloc (.cells ROW 56)).drew w.heap.size m l.length ROW l x hblk rfl (by omega) (by rw[hRs];exact Nat.mul_le_mul_right _ γ) (by rw[B];exact hRt)
      rw[B] at c1 c3
      rw[← hw] at c1
      refine⟨_,he,(Yh X0).2 ⟨fun k hk=>hfresh k (by simp[Value.ownBlock] at hk;omega),by rw[Z1 X0],.inr ⟨w.heap.size,G,cur',by rw[hlen],hbase,c1,by omega,hGm,by rw[c2,hRs];rfl,by rw[hlen];exact c3⟩⟩, ?_, ?_,.inr ⟨_,rfl,Nat.le_refl _⟩⟩ <;> rw[hw]
      · exact Z8 (Below.refl _ w) hbase _ _ (Qh (Z8 (Below.refl _ w) hbase _ _ (Qh (Jq hbase _))))
      · exact Y1 (Z8 (Below.refl _ w) (Nat.le_refl _) _ _ (Qh (Z8 (Below.refl _ w) (Nat.le_refl _) _ _ (Qh (Jq (Nat.le_refl _) _))))) _
  · have hme:m=l.length:=by omega
    subst hme
    rw[List.take_length,List.drop_length,List.append_nil]
    have hnc:l.length≤c:=by
      rcases ho.2 with⟨he,hn⟩|⟨g,cap,cur,he,hb,hh,hnc,_⟩
      · omega
      · injection he with e1 e2 J;omega
    exact Ly w base ok A c l x vb vc curv hbase hfresh HO hnc hl hv hvs hvt
theorem Nz (w:World) (base:Nat) (okA okB:Nat→Prop) (v:Value) (l ys:List S56) (x:S56) (i:Int) (A:Option Addr) (c:Nat) (hys:ys = [x]) (hbase:base≤w.heap.size) (hfresh:∀ k,w.heap.size≤k→okA k)
    (HO:Kd.R k56 56 w base okA v l) (HL:Kd.R k56 56 w base okB (.slice A ys.length c) ys) (hne:∀ k,okA k→some k≠(Value.slice A ys.length c).ownBlock) (hl:l.length≤1000000000) (Y:0≤i) (hi:i≤(l.length:Int)):
    Calls Try.prog 63 #[v,.int .i64 i,.slice A ys.length c] w fun e w'=>
      ∃ v1:Value,e = .returned v1∧Kd.R k56 56 w' base okA v1 (l.take i.toNat++ys++l.drop i.toNat)∧Below base w w'∧w.grownBy w' v.ownBlock∧(v1.ownBlock=v.ownBlock ∨ ∃ b,v1.ownBlock=some b∧w.heap.size≤b):=by
  subst hys
  obtain⟨qL,oL⟩:=(Yh X0).1 HL
  obtain⟨qO,oO⟩:=(Yh X0).1 HO
  rcases oL.2 with⟨_,hn⟩|⟨g,cap,cur,he,hb,hh,hnc,hcm,hcs,htake⟩
  · cases hn
  injection he with e1 e2 J
  subst e1 J
  obtain⟨A2,c2,rfl⟩:∃ A2 c2,v = .slice A2 l.length c2:=by
    rcases oO.2 with⟨he,hn⟩|⟨g,cap,cur,he,_⟩
    · exact⟨none,0,by rw[he,hn]⟩
    · exact⟨_,_,he⟩
  have B:∀ a,A2=some a→g≠a.block:=by
    rintro a rfl hga
    exact hne a.block (qO _ rfl) (by rw[← hga];rfl)
  exact U1 w base okA A2 c2 l x i g c cur hbase hfresh HO B hl hh (by rw[hcs];have h1c:1≤c:=hnc;exact Nat.mul_pos h1c (by decide)) (by rw[← show Zf Xo [x]=Xo x from List.append_nil _];exact htake) Y hi
set_option maxHeartbeats 4000000 in
set_option maxRecDepth 100000 in
theorem Lx (w:World) (base:Nat) (ok:Nat→Prop) (A:Option Addr) (c:Nat) (l:List S62) (x:S62) (vb vc:Nat) (curv:Array Value) (hbase:base≤w.heap.size) (hfresh:∀ k,w.heap.size≤k→ok k)
    (HO:Kd.R k62 62 w base ok (.slice A l.length c) l) (hnc:l.length≤c) (hl:l.length≤1000000000)
    (hv:w.heap[vb]?=some (.cells curv 62 (0,0))) (hvs:0<curv.size) (hvt:curv.toList.take 2=encI x):
    Calls Try.prog 60 #[.slice A l.length c,.int .i64 (l.length:Int),.slice (some ⟨vb,0,none⟩) 1 vc] w fun e w'=>
      ∃ v1:Value,e = .returned v1∧Kd.R k62 62 w' base ok v1 (l ++ [x])∧Below base w w'∧w.grownBy w' (Value.slice A l.length c).ownBlock∧(v1.ownBlock=(Value.slice A l.length c).ownBlock ∨ ∃ b,v1.ownBlock=some b∧w.heap.size≤b):=by
  obtain⟨Z,B,X,hsz,L⟩:=info_parts J0
  obtain⟨sv,U⟩:∃ sv,∀ W:World,(Instr.slice 25 (.slice A l.length c) (some (.int .i64 (l.length:Int))) none none).run Try.prog W = .ok sv W:=⟨_,fun W=>Xg (P:=Try.prog) 25 62 .i64 Try.underlying25 B 2 hsz A l.length c (l.length:Int) (by omega) (by omega) W⟩
  have HR:Xb (fun p cs=>cs=encI p) 2 w (some ⟨vb,0,none⟩) 1 [x]:=by
    refine⟨rfl,by decide,fun _=>⟨_,rfl,fun j p hj=>⟨encI p,rfl,rfl,fun q u hu=>?_⟩⟩⟩
    have J:j<1:=(List.getElem?_eq_some_iff.1 hj).1
    obtain rfl:j=0:=by omega
    obtain rfl:x=p:=by simpa using hj
    rw[Z2,Nat.zero_mul,Nat.zero_add,cell_of_row w vb q curv 62 (0,0) hv,← Array.getElem?_toList]
    rw[← hvt,List.getElem?_take] at hu
    split at hu
    · exact hu
    · cases hu
  go_enter Try.func60,Try.ntmps60
  go_wp2_with (at_builtin;refine Kd.Yo k62 (w0:=w) base rfl (.tmp 23) (.tmp 24) 25 62 (Value.agg #[(.int .i64 0),(.int .i64 0)]) 16 rfl Try.underlying25 J0 rfl (by decide) (by decide) (.slice A l.length c) l [x] _ _ _ ok (fun _=>False) rfl rfl HO HR (fun _ _ h=>(Xz.M _ _ _ _ _).2 h) (fun _ h=>h.elim) hfresh (Below.refl _ _) hbase (by omega) ?_)
  intro v1 w1 h1 O D I
  go_wp2
  go_ret
  exact⟨_,rfl,h1,O,D,I⟩
theorem Uz (w:World) (base:Nat) (ok:Nat→Prop) (A:Option Addr) (c:Nat) (l:List S62) (x:S62) (i:Int) (vb vc:Nat) (curv:Array Value) (hbase:base≤w.heap.size) (hfresh:∀ k,w.heap.size≤k→ok k)
    (HO:Kd.R k62 62 w base ok (.slice A l.length c) l) (hvb:∀ a,A=some a→vb≠a.block) (hl:l.length≤1000000000)
    (hv:w.heap[vb]?=some (.cells curv 62 (0,0))) (hvs:0<curv.size) (hvt:curv.toList.take 2=encI x) (Y:0≤i) (hi:i≤(l.length:Int)):
    Calls Try.prog 60 #[.slice A l.length c,.int .i64 i,.slice (some ⟨vb,0,none⟩) 1 vc] w fun e w'=>
      ∃ v1:Value,e = .returned v1∧Kd.R k62 62 w' base ok v1 (l.take i.toNat ++ [x]++l.drop i.toNat)∧Below base w w'∧w.grownBy w' (Value.slice A l.length c).ownBlock∧(v1.ownBlock=(Value.slice A l.length c).ownBlock ∨ ∃ b,v1.ownBlock=some b∧w.heap.size≤b):=by
  obtain⟨m,rfl⟩:∃ m:Nat,i=m:=⟨i.toNat,by omega⟩
  rw[Int.toNat_natCast]
  obtain⟨hq,ho⟩:=(Yh Xz).1 HO
  have hlen:(l.take m ++ [x]++l.drop m).length=l.length+1:=by simp only[List.length_append,List.length_take,List.length_drop,List.length_cons,List.length_nil];omega
  have B:(k62).sz=2:=rfl
  rcases Nat.lt_or_ge m l.length with hlt|hge
  · rcases ho.2 with⟨_,hn⟩|⟨g,cap,cur,he,hb,hh,hnc,hcm,hcs,htake⟩
    · omega
    injection he with e1 e2 J
    subst e1 J
    have hne:vb≠g:=hvb _ rfl
    have htk:cur.toList.take (m * 2)=Zf encI (l.take m):=by
      have:=Y2 Xz l m (by omega)
      rw[B] at this
      rw[← this,← htake,List.take_take,B,Nat.min_eq_left (Nat.mul_le_mul_right _ (by omega))]
    rcases Nat.lt_or_ge l.length c with hr|hr
    · refine(Uy g l.length c m vb vc l x w cur curv hlt (by omega) (by unfold maxLen at hcm;omega) hne rfl hh hcs htake hv hvs hvt).mono ?_
      rintro e w' ⟨he,hw⟩
      obtain⟨cur',c1,c2,c3⟩:=K4 Xz w.drew g m l.length cur l x hh rfl (by omega) (by rw[hcs];exact Nat.mul_le_mul_right _ (by omega)) (by rw[B];exact htk)
      rw[B] at c1 c3
      rw[← hw] at c1
      refine⟨_,he,(Yh Xz).2 ⟨hq,by rw[Z1 Xz],.inr ⟨g,c,cur',by rw[hlen],hb,c1,by omega,hcm,by rw[c2,hcs],by rw[hlen];exact c3⟩⟩, ?_, ?_,.inl rfl⟩ <;> rw[hw]
      · exact Z8 (Below.refl _ w) hb _ _ (Z8 (Below.refl _ w) hb _ _ (Qh (Below.refl _ _)))
      · exact Gd _ _ _ _ _ _
    · have hce:c=l.length:=by omega
      refine(Wz g l.length c m vb vc l x w cur curv hlt (by omega) (by omega) hl hne rfl hh hcs htake hv hvs hvt).mono ?_
      rintro e w' ⟨he,hw⟩
      have γ:=grownCap_ge w (l.length+1) c 62
      have hGm:=grownCap_le_maxLen w (l.length+1) c 62 (by unfold maxLen;omega)
      obtain⟨G,hG⟩:∃ G,G=grownCap w (l.length+1) c 62:=⟨_,rfl⟩
      rw[← hG] at he hw γ hGm
      obtain⟨ROW,hROW⟩:∃ ROW:Array Value,ROW=(Zf encI (l.take m)).toArray++Builtin.zeroCells (Value.agg #[(.int .i64 0),(.int .i64 0)]).cells (l.length+1-m)++Builtin.zeroCells (Value.agg #[(.int .i64 0),(.int .i64 0)]).cells (G - (l.length+1)):=⟨_,rfl⟩
      have htl:(Zf encI (l.take m)).length=m * 2:=by rw[Z1 Xz,List.length_take,Nat.min_eq_left (by omega)];rfl
      have hRs:ROW.size=G * 2:=by
        rw[hROW]
        simp only[Array.size_append,size_zeroCells,List.size_toArray,htl]
        show m * 2+(l.length+1-m) * 2+(G - (l.length+1)) * 2=G * 2
        omega
      have hRt:ROW.toList.take (m * 2)=Zf encI (l.take m):=by
        rw[hROW,Array.toList_append,Array.toList_append,List.append_assoc]
        exact List.take_left' htl
      rw[← hROW] at hw
      have hblk:(w.alloc (.cells ROW 62)).drew.heap[w.heap.size]?=some (.cells ROW 62 (0,0)):=by
        show(w.heap.push (.cells ROW 62))[w.heap.size]?=_
        exact Array.getElem?_push_size
      obtain⟨cur',c1,c2,c3⟩:=Gb Xz (w.alloc (.cells ROW 62)).drew w.heap.size m l.length ROW l x hblk rfl (by omega) (by rw[hRs];exact Nat.mul_le_mul_right _ γ) (by rw[B];exact hRt)
      rw[B] at c1 c3
      rw[← hw] at c1
      refine⟨_,he,(Yh Xz).2 ⟨fun k hk=>hfresh k (by simp[Value.ownBlock] at hk;omega),by rw[Z1 Xz],.inr ⟨w.heap.size,G,cur',by rw[hlen],hbase,c1,by omega,hGm,by rw[c2,hRs];rfl,by rw[hlen];exact c3⟩⟩, ?_, ?_,.inr ⟨_,rfl,Nat.le_refl _⟩⟩ <;> rw[hw]
      · exact Z8 (Below.refl _ w) hbase _ _ (Qh (Z8 (Below.refl _ w) hbase _ _ (Qh (Jq hbase _))))
      · exact Y1 (Z8 (Below.refl _ w) (Nat.le_refl _) _ _ (Qh (Z8 (Below.refl _ w) (Nat.le_refl _) _ _ (Qh (Jq (Nat.le_refl _) _))))) _
  · have hme:m=l.length:=by omega
    subst hme
    rw[List.take_length,List.drop_length,List.append_nil]
    have hnc:l.length≤c:=by
      rcases ho.2 with⟨he,hn⟩|⟨g,cap,cur,he,hb,hh,hnc,_⟩
      · omega
      · injection he with e1 e2 J;omega
    exact Lx w base ok A c l x vb vc curv hbase hfresh HO hnc hl hv hvs hvt
theorem Ny (w:World) (base:Nat) (okA okB:Nat→Prop) (v:Value) (l ys:List S62) (x:S62) (i:Int) (A:Option Addr) (c:Nat) (hys:ys = [x]) (hbase:base≤w.heap.size) (hfresh:∀ k,w.heap.size≤k→okA k)
    (HO:Kd.R k62 62 w base okA v l) (HL:Kd.R k62 62 w base okB (.slice A ys.length c) ys) (hne:∀ k,okA k→some k≠(Value.slice A ys.length c).ownBlock) (hl:l.length≤1000000000) (Y:0≤i) (hi:i≤(l.length:Int)):
    Calls Try.prog 60 #[v,.int .i64 i,.slice A ys.length c] w fun e w'=>
      ∃ v1:Value,e = .returned v1∧Kd.R k62 62 w' base okA v1 (l.take i.toNat++ys++l.drop i.toNat)∧Below base w w'∧w.grownBy w' v.ownBlock∧(v1.ownBlock=v.ownBlock ∨ ∃ b,v1.ownBlock=some b∧w.heap.size≤b):=by
  subst hys
  obtain⟨qL,oL⟩:=(Yh Xz).1 HL
  obtain⟨qO,oO⟩:=(Yh Xz).1 HO
  rcases oL.2 with⟨_,hn⟩|⟨g,cap,cur,he,hb,hh,hnc,hcm,hcs,htake⟩
  · cases hn
  injection he with e1 e2 J
  subst e1 J
  obtain⟨A2,c2,rfl⟩:∃ A2 c2,v = .slice A2 l.length c2:=by
    rcases oO.2 with⟨he,hn⟩|⟨g,cap,cur,he,_⟩
    · exact⟨none,0,by rw[he,hn]⟩
    · exact⟨_,_,he⟩
  have B:∀ a,A2=some a→g≠a.block:=by
    rintro a rfl hga
    exact hne a.block (qO _ rfl) (by rw[← hga];rfl)
  exact Uz w base okA A2 c2 l x i g c cur hbase hfresh HO B hl hh (by rw[hcs];have h1c:1≤c:=hnc;exact Nat.mul_pos h1c (by decide)) (by rw[← show Zf encI [x]=encI x from List.append_nil _];exact htake) Y hi
end Go.Proofs.Ytjehhhlhalkieaa.C
namespace Go.Proofs.Ytjehhhlhalkieaa.C
open Go.RowKit Go.Proofs.YtjehhhlhalkieaaW.PrintWords Go.Proofs.YtjehhhlhalkieaaW.PrintLast Go.Proofs.YtjehhhlhalkieaaW.PrintMore
attribute [local go_sem] Zk Zi Zt Zs Zd Zc Zj Zh
set_option linter.unusedVariables false
set_option linter.unusedSimpArgs false
def api_Hall_with.f (k:Nat) (I:List (S56)) (J:Int) (D:Int) (O:Int) (U:Int):Option ((List (S56))):=(api_Hall_62.f k I D O U J).bind fun μ =>(if μ.2=true then ((api_Hall_55.f I).bind fun ν =>(some ν)) else ((api_Hall_55.f I).bind fun φ =>((some (([(⟨D,O,U⟩:S56)]:List (S56)):List (S56))).bind fun B=>(if (φ.length+B.length<1000000000∧0 ≤ μ.1 ∧ μ.1≤(φ.length:Int)) then (some (φ.take μ.1.toNat++B ++ φ.drop μ.1.toNat)) else (none)))))
theorem api_Hall_with.mono:∀ I D a2 a3 J k,LeO (api_Hall_with.f k I D a2 a3 J) (api_Hall_with.f (k+1) I D a2 a3 J):=by
 intro I D a2 a3 J k
 unfold api_Hall_with.f
 repeat' first
   |(with_reducible exact api_Hall_62.mono _ _ _ _ _ _)
   |(with_reducible exact LeO.refl _)
   |(with_reducible exact LeO.none _)
   |(with_reducible refine LeO.ite ?_ ?_)
   |(with_reducible refine LeO.bind ?_ (fun _=>?_))
   |exact api_Hall_62.mono _ _ _ _ _ _
   |exact LeO.none _
   |refine LeO.ite ?_ ?_
   |refine LeO.bind ?_ (fun _=>?_)
def api_Hall_with.T4:Bool×List (List Nat×List Nat):=(true,[([],[]),([0],[0]),([1],[1]),([],[]),([],[]),([4],[4]),([2,3,5,2],[2,3,5]),([6,6,0,1,2,3,4,5,6],[6])])
def api_Hall_with.B4:List Nat:=[0,1,3,0,0,16,63,127]
theorem api_Hall_with.Gn:rtab .any (opsOf Try.f35 4)=api_Hall_with.T4:=by kernel_rfl
theorem api_Hall_with.J1:Zx api_Hall_with.T4.2 api_Hall_with.B4=true:=by kernel_rfl
set_option maxHeartbeats 8000000 in
set_option maxRecDepth 100000 in
theorem api_Hall_with.calls (k:Nat) (η :Option Addr) (ζ :Nat) (I:List (S56)) (J:Int) (D:Int) (O:Int) (U:Int) (r:List (S56)) (w:World) (a2:Kd.C k56 w η I.length I) (a5:I.length ≤ ζ) (h:api_Hall_with.f k I J D O U=some r):
  Calls Try.prog 35 #[.agg #[.slice η I.length ζ,.func (.func 51) #[] #[]],.agg #[.int .i64 D,.int .i64 O,.int .i64 U]] w fun e w'=>∃ a6:Value,e = .returned (a6)∧Kd.R k56 56 w' w.heap.size (fun _=>True) a6 r∧Below w.heap.size w w':=by
 have cg:=Try.underlying69
 have bu:=Try.underlying56
 have ψ :=Aside0.mk a2
 have af:=Aside0.mk a5
 clear a2 a5
 have HB:=Aside0.mk (Below.refl w.heap.size w)
 have H:((api_Hall_62.f k I D O U J).bind fun μ =>(if μ.2=true then ((api_Hall_55.f I).bind fun ν =>(some ν)) else ((api_Hall_55.f I).bind fun φ =>((some (([(⟨D,O,U⟩:S56)]:List (S56)):List (S56))).bind fun B=>(if (φ.length+B.length<1000000000∧0 ≤ μ.1 ∧ μ.1≤(φ.length:Int)) then (some (φ.take μ.1.toNat++B ++ φ.drop μ.1.toNat)) else (none))))))=some r:=h
 clear h
 replace H:=Option.bind_eq_some_iff.mp H
 obtain⟨⟨Z,δ⟩,ai,H⟩:=H
 replace H:(if δ = true then ((api_Hall_55.f I).bind fun ν =>(some ν)) else ((api_Hall_55.f I).bind fun φ =>((some (([(⟨D,O,U⟩:S56)]:List (S56)):List (S56))).bind fun B=>(if (φ.length+B.length<1000000000∧0≤Z∧Z≤(φ.length:Int)) then (some (φ.take Z.toNat++B ++ φ.drop Z.toNat)) else (none)))))=some r:=H
 have A3:=Aside0.mk ai
 clear ai
 by_cases c4: δ = true
 ·subst c4
  have H1:((api_Hall_55.f I).bind fun ν =>(some ν))=some r:=by rw[if_pos rfl] at H;exact H
  clear H
  have H:=H1
  clear H1
  replace H:=Option.bind_eq_some_iff.mp H
  obtain⟨ν,cf,H⟩:=H
  replace H:(some ν)=some r:=H
  have A5:=Aside0.mk cf
  clear cf
  obtain rfl:=Option.some.inj H
  go_enter Try.func35,Try.ntmps35
  go_wp2_with (first|((with_reducible refine Qt (N:=2) rfl ?_);refine Qp ?hg (N:=2) ?hd (cs:=#[.slice η I.length ζ,.func (.func 51) #[] #[]]) (t:=69) ?hr ?_;(case hd=>rfl);(case hg=>rfl);(case hr=>go_simp <;> rfl);intro γ hg w6 hbox hb;have L:=Aside0.mk hbox;have bc:=sGe hg;have br:=sGe hg;replace HB:=sHb hb;clear hb hbox hg)|((with_reducible refine Qt (N:=3) rfl ?_);refine Qp ?hg (N:=3) ?hd (cs:=#[.int .i64 D,.int .i64 O,.int .i64 U]) (t:=56) ?hr ?_;(case hd=>rfl);(case hg=>rfl);(case hr=>go_simp <;> rfl);intro a1 hg w7 hbox hb;have Y:=Aside0.mk hbox;have bo:=sGe hg;have bv:=sGe hg;have a9:=sNl L hg;have aj:=sNg L hg;replace L:=sBk L hb;replace HB:=sHb hb;clear hb hbox hg;have bn:=a9.out;have bq:=aj.out;have bd:w7.cell? ⟨γ,0,none⟩=some (.slice η I.length ζ):=(Qa L.out 0).trans rfl;have bg:w7.cell? ⟨γ,1,none⟩=some (.func (.func 51) #[] #[]):=(Qa L.out 1).trans rfl;have bh:=Qb L.out 0;have bi:=Qb L.out 1;have a7:w7.cell? ⟨a1,0,none⟩=some (.int .i64 D):=(Qa Y.out 0).trans rfl;have ak:w7.cell? ⟨a1,1,none⟩=some (.int .i64 O):=(Qa Y.out 1).trans rfl;have b5:w7.cell? ⟨a1,2,none⟩=some (.int .i64 U):=(Qa Y.out 2).trans rfl;have au:=Qb Y.out 0;have bj:=Qb Y.out 1;have b6:=Qb Y.out 2)|((with_reducible refine Q2 (f:=62) rfl ?_);refine Zq (some 13) rfl rfl Try.func62 kr rfl #[.slice η I.length ζ,.agg #[.int .i64 D,.int .i64 O,.int .i64 U],.func (.func 51) #[] #[]] rfl (by simp only[List.map_toArray,List.map_cons,List.map_nil] <;> rfl) ?_;(with_reducible refine(api_Hall_62.calls k _ _ I D O U J Z true _ ?side1 ?side2 A3.out).mono ?_);(case side1=>exact(Kd.Qz ψ.out HB.out));(case side2=>exact af.out);rintro e bw ⟨rfl,hb⟩;refine⟨_,rfl, ?_⟩;replace L:=sBk L hb;replace Y:=sBk Y hb;replace HB:=sHb hb;(try clear hb);(try clear a4);(try clear hk);(try clear hi);have av:bw.cell? ⟨γ,0,none⟩=some (.slice η I.length ζ):=(Qa L.out 0).trans rfl;have ax:bw.cell? ⟨γ,1,none⟩=some (.func (.func 51) #[] #[]):=(Qa L.out 1).trans rfl;have az:=Qb L.out 0;have b0:=Qb L.out 1)|((with_reducible refine Q2 (f:=55) rfl ?_);refine Zq (some 19) rfl rfl Try.func55 kr rfl #[.slice η I.length ζ] rfl (by simp only[List.map_toArray,List.map_cons,List.map_nil] <;> rfl) ?_;(with_reducible refine(api_Hall_55.calls _ _ I ν _ ?side1 ?side2 A5.out).mono ?_);(case side1=>exact(Kd.Qz ψ.out HB.out));(case side2=>exact af.out);rintro e ch ⟨cm,rfl,χ,hb⟩;refine⟨_,rfl, ?_⟩;have bz:=Aside0.mk (Kd.Q4 (Kd.Zy χ (g:=a1) (o:=.cells #[.int .i64 D,.int .i64 O,.int .i64 U] 56 (0,0)) Y.out) (Qk HB.out));replace L:=sBk L hb;replace Y:=sBk Y hb;replace HB:=sHb hb;(try clear hb);(try clear a4);(try clear hk);(try clear hi);(try clear χ)))
  go_ret
  exact⟨_,rfl,by(with_reducible repeat(first|apply Kd.Qm|apply Kd.Ql|apply Kd.Qo));exact Kd.Qs bz.out (fun _ hk=>trivial),HB.out⟩
 ·replace c4:=Bool.eq_false_iff.mpr c4
  subst c4
  have H1:((api_Hall_55.f I).bind fun φ =>((some (([(⟨D,O,U⟩:S56)]:List (S56)):List (S56))).bind fun B=>(if (φ.length+B.length<1000000000∧0≤Z∧Z≤(φ.length:Int)) then (some (φ.take Z.toNat++B ++ φ.drop Z.toNat)) else (none))))=some r:=by rw[if_neg (show ¬ (false=true) by decide)] at H;exact H
  clear H
  have H:=H1
  clear H1
  replace H:=Option.bind_eq_some_iff.mp H
  obtain⟨φ,aw,H⟩:=H
  replace H:((some (([(⟨D,O,U⟩:S56)]:List (S56)):List (S56))).bind fun B=>(if (φ.length+B.length<1000000000∧0≤Z∧Z≤(φ.length:Int)) then (some (φ.take Z.toNat++B ++ φ.drop Z.toNat)) else (none)))=some r:=H
  have b7:=Aside0.mk aw
  clear aw
  obtain⟨B,am⟩:∃ y_:List (S56),y_=(([(⟨D,O,U⟩:S56)]:List (S56))):=⟨_,rfl⟩
  replace H:(if (φ.length+B.length<1000000000∧0≤Z∧Z≤(φ.length:Int)) then (some (φ.take Z.toNat++B ++ φ.drop Z.toNat)) else (none))=some r:=by first|(rw[am];with_reducible exact H)|(have ρ:=(Option.bind_some _ _).symm.trans H;rw[am];with_reducible exact ρ)|(have ρ:=(Option.bind_some _ _).symm.trans H;with_reducible exact ρ)|with_reducible exact H|(rw[am];exact H)|exact H
  have an:=Aside0.mk am
  clear am
  by_cases a8:(φ.length+B.length<1000000000∧0≤Z∧Z≤(φ.length:Int))
  ·rw[if_pos a8] at H
   have ah:=Aside0.mk a8
   clear a8
   obtain⟨ck,ao⟩:∃ y_:List (S56),y_=(φ.take Z.toNat++B ++ φ.drop Z.toNat):=⟨_,rfl⟩
   replace H:(some ck)=some r:=by first|(rw[ao];with_reducible exact H)|(have ρ:=(Option.bind_some _ _).symm.trans H;rw[ao];with_reducible exact ρ)|(have ρ:=(Option.bind_some _ _).symm.trans H;with_reducible exact ρ)|with_reducible exact H|(rw[ao];exact H)|exact H
   have cb:=Aside0.mk ao
   clear ao
   obtain rfl:=Option.some.inj H
   go_enter Try.func35,Try.ntmps35
   try go_wp2_with (first|((with_reducible refine Qt (N:=2) rfl ?_);refine Qp ?hg (N:=2) ?hd (cs:=#[.slice η I.length ζ,.func (.func 51) #[] #[]]) (t:=69) ?hr ?_;(case hd=>rfl);(case hg=>rfl);(case hr=>go_simp <;> rfl);intro γ hg aa hbox hb;have L:=Aside0.mk hbox;have bc:=sGe hg;have br:=sGe hg;replace HB:=sHb hb;clear hb hbox hg)|((with_reducible refine Qt (N:=3) rfl ?_);refine Qp ?hg (N:=3) ?hd (cs:=#[.int .i64 D,.int .i64 O,.int .i64 U]) (t:=56) ?hr ?_;(case hd=>rfl);(case hg=>rfl);(case hr=>go_simp <;> rfl);intro a1 hg cw hbox hb;have Y:=Aside0.mk hbox;have bo:=sGe hg;have bv:=sGe hg;have a9:=sNl L hg;have aj:=sNg L hg;replace L:=sBk L hb;replace HB:=sHb hb;clear hb hbox hg;have ca:=a9.out;have ce:=aj.out;have b1:cw.cell? ⟨γ,0,none⟩=some (.slice η I.length ζ):=(Qa L.out 0).trans rfl;have b2:cw.cell? ⟨γ,1,none⟩=some (.func (.func 51) #[] #[]):=(Qa L.out 1).trans rfl;have b3:=Qb L.out 0;have b4:=Qb L.out 1;have b9:cw.cell? ⟨a1,0,none⟩=some (.int .i64 D):=(Qa Y.out 0).trans rfl;have ba:cw.cell? ⟨a1,1,none⟩=some (.int .i64 O):=(Qa Y.out 1).trans rfl;have be:cw.cell? ⟨a1,2,none⟩=some (.int .i64 U):=(Qa Y.out 2).trans rfl;have bb:=Qb Y.out 0;have bf:=Qb Y.out 1;have bp:=Qb Y.out 2)|((with_reducible refine Q2 (f:=62) rfl ?_);refine Zq (some 13) rfl rfl Try.func62 kr rfl #[.slice η I.length ζ,.agg #[.int .i64 D,.int .i64 O,.int .i64 U],.func (.func 51) #[] #[]] rfl (by simp only[List.map_toArray,List.map_cons,List.map_nil] <;> rfl) ?_;(with_reducible refine(api_Hall_62.calls k _ _ I D O U J Z false _ ?side1 ?side2 A3.out).mono ?_);(case side1=>exact(Kd.Qz ψ.out HB.out));(case side2=>exact af.out);rintro e bl ⟨rfl,hb⟩;refine⟨_,rfl, ?_⟩;replace L:=sBk L hb;replace Y:=sBk Y hb;replace HB:=sHb hb;(try clear hb);(try clear a4);(try clear hk);(try clear hi)))
   replace L:=Aside0.mk (Qc L.out)
   replace Y:=Aside0.mk (Qc Y.out)
   replace HB:=Aside0.mk (Qh HB.out)
   refine Zv (n:=8) (S:=fun w'=>w'.cell? ⟨γ,0,none⟩=some (.slice η I.length ζ)∧w'.cell? ⟨γ,1,none⟩=some (.func (.func 51) #[] #[])∧w'.cell? ⟨a1,0,none⟩=some (.int .i64 D)∧w'.cell? ⟨a1,1,none⟩=some (.int .i64 O)∧w'.cell? ⟨a1,2,none⟩=some (.int .i64 U)) (ds:=[]) #[false,false,false,false,false,false,false,false] kr rfl rfl ⟨(Qa L.out 0).trans rfl,(Qa L.out 1).trans rfl,(Qa Y.out 0).trans rfl,(Qa Y.out 1).trans rfl,(Qa Y.out 2).trans rfl⟩ (fun hHeld=>?_);refine Q8 api_Hall_with.Gn api_Hall_with.J1 (fun HT_ HW_=>?_)
   generalize bl.drew=dt at L Y HB hHeld ⊢
   refine qP 0 (some 20) (bN 8 1) HT_ ?_
   refine qP 3 (some 23) (bN 8 9) HT_ ?_
   refine qT 1 (some 21) (bN 8 11) HT_ HW_ hHeld ?_
   refine qT 4 (some 24) (bN 8 27) HT_ HW_ hHeld ?_
   refine K9 (σ:=Value×Value) 2 (bN 8 63) (fun s_=>[(22,s_.1),(25,s_.2)]) (fun s_ w'=>(w'.cell? ⟨γ,0,none⟩=some (.slice η I.length ζ)∧w'.cell? ⟨γ,1,none⟩=some (.func (.func 51) #[] #[])∧w'.cell? ⟨a1,0,none⟩=some (.int .i64 D)∧w'.cell? ⟨a1,1,none⟩=some (.int .i64 O)∧w'.cell? ⟨a1,2,none⟩=some (.int .i64 U))∧(Kd.R k56 56 w' w.heap.size (fun k_=>some k_≠(s_.2:Value).ownBlock∧k_≠a1) s_.1 φ)∧(Kd.R k56 56 w' w.heap.size (fun k_=>some k_≠(s_.1:Value).ownBlock∧k_≠a1) s_.2 B)∧(w'.heap[γ]?=some (.cells #[.slice η I.length ζ,.func (.func 51) #[] #[]] 69 (0,0)))∧(w'.heap[a1]?=some (.cells #[.int .i64 D,.int .i64 O,.int .i64 U] 56 (0,0)))∧(Below w.heap.size w w')) ?_ ?_
   rotate_left
   ·intro hCont
    refine Kj (i:=2) (j:=5) (Ni:=some 22) (Nj:=some 25) (bN 8 31) (bN 8 59) rfl rfl rfl rfl (Ye HT_.out kr) (by decide) (by decide) (fun K hK=>?_) (fun K hK=>?_)
    ·skip
     refine Zg Try.func55 kr rfl #[.slice η I.length ζ] (by rfl) rfl rfl (by simp only[List.map_toArray,List.map_cons,List.map_nil] <;> rfl) ?_
     with_reducible refine(api_Hall_55.calls _ _ I φ _ ?side1 ?side2 b7.out).mono ?_
     (case side1=>exact(Kd.Qz ψ.out HB.out))
     (case side2=>exact af.out)
     rintro e cd ⟨al,rfl,χ,hb⟩
     refine⟨_,rfl, ?_⟩
     have ξ :=Aside0.mk (Kd.Q4 (Kd.Zy χ (g:=a1) (o:=.cells #[.int .i64 D,.int .i64 O,.int .i64 U] 56 (0,0)) Y.out) (Qk HB.out))
     replace L:=sBk L hb
     replace Y:=sBk Y hb
     replace HB:=sHb hb
     (try clear hb)
     (try clear a4)
     (try clear hk)
     (try clear hi)
     (try clear χ)
     refine hK.out _ _ ⟨(Qa L.out 0).trans rfl,(Qa L.out 1).trans rfl,(Qa Y.out 0).trans rfl,(Qa Y.out 1).trans rfl,(Qa Y.out 2).trans rfl⟩ (fun hHeld=>?_)
     clear hK K
     refine qN (some 22) ?_
     refine Zm (i:=5) (N:=some 25) (bN 8 63) rfl rfl (Q3 HT_.out kr) (by decide) (fun K hK=>?_)
     refine Kd.Xl k56 _ 56 ?hg (N:=25) ?hd (xs:=([(⟨D,O,U⟩:S56)]:List (S56))) (inner:=[.int .i64 D,.int .i64 O,.int .i64 U]) (ok:=fun _=>True) (okp:=fun _=>True) ?hr ?hp (fun _ hk=>hk) trivial (Below.refl _ _) (Nat.le_refl _) (by simp) ?_;(case hd=>rfl);(case hg=>rfl);(case hr=>go_simp <;> rfl);(case hp=>exact(Reps.c3 (show Kd.M k56 _ _ _ (⟨D,O,U⟩:S56) [.int .i64 D,.int .i64 O,.int .i64 U] from(Yg _ _ _ (⟨D,O,U⟩:S56))) (Reps.none _ _)))
     intro ar bm a3 hb hg_ hnew_
     clear hg_ hnew_
     (first|rw[← an.out] at a3|(simp only[Int.reduceToNat] at a3;rw[← an.out] at a3))
     have X:=Aside0.mk (Kd.Q4 (Kd.Zy (Kd.Zr a3 (Kd.Z4 ξ.out)) (g:=a1) (o:=.cells #[.int .i64 D,.int .i64 O,.int .i64 U] 56 (0,0)) Y.out) (Qk HB.out))
     replace ξ :=Aside0.mk (Kd.Q7 ξ.out (Kd.Zn a3) hb)
     replace L:=sBk L hb
     replace Y:=sBk Y hb
     replace HB:=sHb hb
     clear hb a3
     refine hK.out _ _ ⟨(Qa L.out 0).trans rfl,(Qa L.out 1).trans rfl,(Qa Y.out 0).trans rfl,(Qa Y.out 1).trans rfl,(Qa Y.out 2).trans rfl⟩ (fun hHeld=>?_)
     clear hK K
     refine qN (some 25) ?_
     exact Xj (by simp only[Z3,Act.put,qS]) (hCont (al,ar) _ ⟨hHeld,(by(with_reducible repeat(first|apply Kd.Qm|apply Kd.Ql|apply Kd.Qo));exact Kd.Qs ξ.out (fun _ hk=>⟨hk.2,hk.1.2⟩)),(by(with_reducible repeat(first|apply Kd.Qm|apply Kd.Ql|apply Kd.Qo));exact Kd.Qs X.out (fun _ hk=>⟨hk.1.2,hk.2⟩)),L.out,Y.out,HB.out⟩)
    ·skip
     refine Kd.Xl k56 _ 56 ?hg (N:=25) ?hd (xs:=([(⟨D,O,U⟩:S56)]:List (S56))) (inner:=[.int .i64 D,.int .i64 O,.int .i64 U]) (ok:=fun _=>True) (okp:=fun _=>True) ?hr ?hp (fun _ hk=>hk) trivial (Below.refl _ _) (Nat.le_refl _) (by simp) ?_;(case hd=>rfl);(case hg=>rfl);(case hr=>go_simp <;> rfl);(case hp=>exact(Reps.c3 (show Kd.M k56 _ _ _ (⟨D,O,U⟩:S56) [.int .i64 D,.int .i64 O,.int .i64 U] from(Yg _ _ _ (⟨D,O,U⟩:S56))) (Reps.none _ _)))
     intro ar cd ag hb hg_ hnew_
     clear hg_ hnew_
     (first|rw[← an.out] at ag|(simp only[Int.reduceToNat] at ag;rw[← an.out] at ag))
     have X:=Aside0.mk (Kd.Q4 (Kd.Zy ag (g:=a1) (o:=.cells #[.int .i64 D,.int .i64 O,.int .i64 U] 56 (0,0)) Y.out) (Qk HB.out))
     replace L:=sBk L hb
     replace Y:=sBk Y hb
     replace HB:=sHb hb
     clear hb ag
     refine hK.out _ _ ⟨(Qa L.out 0).trans rfl,(Qa L.out 1).trans rfl,(Qa Y.out 0).trans rfl,(Qa Y.out 1).trans rfl,(Qa Y.out 2).trans rfl⟩ (fun hHeld=>?_)
     clear hK K
     refine qN (some 25) ?_
     refine Zm (i:=2) (N:=some 22) (bN 8 63) rfl rfl (Q3 HT_.out kr) (by decide) (fun K hK=>?_)
     refine Zg Try.func55 kr rfl #[.slice η I.length ζ] (by rfl) rfl rfl (by simp only[List.map_toArray,List.map_cons,List.map_nil] <;> rfl) ?_
     with_reducible refine(api_Hall_55.calls _ _ I φ _ ?side1 ?side2 b7.out).mono ?_
     (case side1=>exact(Kd.Qz ψ.out HB.out))
     (case side2=>exact af.out)
     rintro e cj ⟨al,rfl,χ,hb⟩
     refine⟨_,rfl, ?_⟩
     have ξ :=Aside0.mk (Kd.Q4 (Kd.Zy (Kd.Zr χ (Kd.Z4 X.out)) (g:=a1) (o:=.cells #[.int .i64 D,.int .i64 O,.int .i64 U] 56 (0,0)) Y.out) (Qk HB.out))
     replace X:=Aside0.mk (Kd.Q7 X.out (Kd.Zn χ) hb)
     replace L:=sBk L hb
     replace Y:=sBk Y hb
     replace HB:=sHb hb
     (try clear hb)
     (try clear a4)
     (try clear hk)
     (try clear hi)
     (try clear χ)
     refine hK.out _ _ ⟨(Qa L.out 0).trans rfl,(Qa L.out 1).trans rfl,(Qa Y.out 0).trans rfl,(Qa Y.out 1).trans rfl,(Qa Y.out 2).trans rfl⟩ (fun hHeld=>?_)
     clear hK K
     refine qN (some 22) ?_
     exact Xj (by simp only[Z3,Act.put,qS]) (hCont (al,ar) _ ⟨hHeld,(by(with_reducible repeat(first|apply Kd.Qm|apply Kd.Ql|apply Kd.Qo));exact Kd.Qs ξ.out (fun _ hk=>⟨hk.1.2,hk.2⟩)),(by(with_reducible repeat(first|apply Kd.Qm|apply Kd.Ql|apply Kd.Qo));exact Kd.Qs X.out (fun _ hk=>⟨hk.2,hk.1.2⟩)),L.out,Y.out,HB.out⟩)
   rintro⟨al,ar⟩ bs ⟨hS_,cq,cr,ct,cu,cv⟩
   have ε :Aside0 (Kd.R k56 56 bs w.heap.size (fun k_=>some k_≠(ar:Value).ownBlock∧k_≠a1) al φ):=⟨cq⟩
   have θ :Aside0 (Kd.R k56 56 bs w.heap.size (fun k_=>some k_≠(al:Value).ownBlock∧k_≠a1) ar B):=⟨cr⟩
   have ι :Aside0 (bs.heap[γ]?=some (.cells #[.slice η I.length ζ,.func (.func 51) #[] #[]] 69 (0,0))):=⟨ct⟩
   have κ :Aside0 (bs.heap[a1]?=some (.cells #[.int .i64 D,.int .i64 O,.int .i64 U] 56 (0,0))):=⟨cu⟩
   have τ :Aside0 (Below w.heap.size w bs):=⟨cv⟩
   clear L
   clear Y
   clear HB
   clear cq cr ct cu cv
   have ξ := ε
   have X:= θ
   have L:= ι
   have Y:= κ
   have HB:= τ
   clear ε θ ι κ τ
   have hHeld:bs.cell? ⟨γ,0,none⟩=some (.slice η I.length ζ)∧bs.cell? ⟨γ,1,none⟩=some (.func (.func 51) #[] #[])∧bs.cell? ⟨a1,0,none⟩=some (.int .i64 D)∧bs.cell? ⟨a1,1,none⟩=some (.int .i64 O)∧bs.cell? ⟨a1,2,none⟩=some (.int .i64 U):=hS_
   obtain⟨ap,ay,bk⟩:=Kd.Q6 X.out
   (first|subst bk|(injection bk with ω ab a0;have ac:= ω.symm;have ae:=a0.symm;clear ω ab a0;subst ac;subst ae))
   refine Xj (a':=?_) ?_ ?_
   rotate_left
   ·simp only[Z3,Act.put,qS]
    rfl
   refine Zm (i:=6) (N:=some 26) (bN 8 127) rfl rfl (Q3 HT_.out kr) (by decide) (fun K hK=>?_)
   refine Zg Try.func63 kr rfl #[al,.int .i64 Z,.slice ap B.length ay] (by rfl) rfl rfl (by simp only[List.map_toArray,List.map_cons,List.map_nil] <;> rfl) ?_
   refine(Nz _ w.heap.size (fun k_=>some k_≠(.slice ap B.length ay:Value).ownBlock∧k_≠a1) _ al φ B _ Z ap ay an.out ?aS ?aF ?aO X.out ?aN (by have h_:=ah.out;omega) (by have h_:=ah.out;omega) (by have h_:=ah.out;omega)).mono ?_
   (case aS=>exact(Qk HB.out))
   (case aF=>exact(fun k_ hk=>⟨Kd.fresh' (Kd.Z4 X.out) k_ hk,Kd.Yr (g:=a1) (o:=.cells #[.int .i64 D,.int .i64 O,.int .i64 U] 56 (0,0)) Y.out k_ hk⟩))
   (case aO=>exact ξ.out)
   (case aN=>exact fun k_ hk=>hk.1)
   rintro e f8 ⟨cn,rfl,ho,b8,hg,hat⟩
   refine⟨_,rfl, ?_⟩
   have hb:=HB.out.trans b8
   rw[← cb.out] at ho
   have ci:=Aside0.mk ho
   replace L:=Aside0.mk (Zb (g:=γ) (o:=.cells #[.slice η I.length ζ,.func (.func 51) #[] #[]] 69 (0,0)) L.out hg (Kd.X1 ξ.out L.out (by decide)))
   replace Y:=Aside0.mk (Zb (g:=a1) (o:=.cells #[.int .i64 D,.int .i64 O,.int .i64 U] 56 (0,0)) Y.out hg (Kd.Y4 ξ.out (fun _ hk=>hk.2)))
   replace X:=Aside0.mk (Kd.J8 (ok:=(fun k_=>k_≠a1)) (by(with_reducible repeat(first|apply Kd.Qm|apply Kd.Ql|apply Kd.Qo));exact Kd.Qs X.out (fun _ hk=>⟨hk.2,hk.1⟩)) hg hat)
   replace HB:=Aside0.mk hb
   clear ξ
   clear ho hb hg hat
   refine hK.out _ _ ⟨(Qa L.out 0).trans rfl,(Qa L.out 1).trans rfl,(Qa Y.out 0).trans rfl,(Qa Y.out 1).trans rfl,(Qa Y.out 2).trans rfl⟩ (fun hHeld=>?_)
   clear hK K
   refine qN (some 26) ?_
   refine qP 7 (some 4) (bN 8 255) HT_ ?_
   refine Z0 (Zp HT_.out kr) ?_
   try go_wp2
   go_ret
   exact⟨_,rfl,by(with_reducible repeat(first|apply Kd.Qm|apply Kd.Ql|apply Kd.Qo));exact Kd.Qs ci.out (fun _ hk=>trivial),HB.out⟩
  ·rw[if_neg a8] at H
   exact absurd H (by simp)
end Go.Proofs.Ytjehhhlhalkieaa.C
namespace Go.Proofs.Ytjehhhlhalkieaa.C
open Go.RowKit Go.Proofs.YtjehhhlhalkieaaW.PrintWords Go.Proofs.YtjehhhlhalkieaaW.PrintLast Go.Proofs.YtjehhhlhalkieaaW.PrintMore
attribute [local go_sem] Zk Zi Zt Zs Zd Zc Zj Zh
set_option linter.unusedVariables false
set_option linter.unusedSimpArgs false
def api_Inside_with.f (k:Nat) (I:List (S62)) (J:Int) (D:Int) (O:Int):Option ((List (S62))):=(api_Inside_58.f k I D O J).bind fun μ =>(if μ.2=true then ((api_Inside_59.f I).bind fun bc=>(some bc)) else ((api_Inside_59.f I).bind fun U=>((some (([(⟨D,O⟩:S62)]:List (S62)):List (S62))).bind fun Y=>(if (U.length+Y.length<1000000000∧0 ≤ μ.1 ∧ μ.1≤(U.length:Int)) then (some (U.take μ.1.toNat++Y++U.drop μ.1.toNat)) else (none)))))
theorem api_Inside_with.mono:∀ I D a2 a3 k,LeO (api_Inside_with.f k I D a2 a3) (api_Inside_with.f (k+1) I D a2 a3):=by
 intro I D a2 a3 k
 unfold api_Inside_with.f
 repeat' first
   |(with_reducible exact api_Inside_58.mono _ _ _ _ _)
   |(with_reducible exact LeO.refl _)
   |(with_reducible exact LeO.none _)
   |(with_reducible refine LeO.ite ?_ ?_)
   |(with_reducible refine LeO.bind ?_ (fun _=>?_))
   |exact api_Inside_58.mono _ _ _ _ _
   |exact LeO.none _
   |refine LeO.ite ?_ ?_
   |refine LeO.bind ?_ (fun _=>?_)
def api_Inside_with.T4:Bool×List (List Nat×List Nat):=(true,[([],[]),([0],[0]),([1],[1]),([],[]),([],[]),([4],[4]),([2,3,5,2],[2,3,5]),([6,6,0,1,2,3,4,5,6],[6])])
def api_Inside_with.B4:List Nat:=[0,1,3,0,0,16,63,127]
theorem api_Inside_with.Gn:rtab .any (opsOf Try.f33 4)=api_Inside_with.T4:=by kernel_rfl
theorem api_Inside_with.J1:Zx api_Inside_with.T4.2 api_Inside_with.B4=true:=by kernel_rfl
set_option maxHeartbeats 8000000 in
set_option maxRecDepth 100000 in
theorem api_Inside_with.calls (k:Nat) (η :Option Addr) (ζ :Nat) (I:List (S62)) (J:Int) (D:Int) (O:Int) (r:List (S62)) (w:World) (a2:Kd.C k62 w η I.length I) (a5:I.length ≤ ζ) (h:api_Inside_with.f k I J D O=some r):
  Calls Try.prog 33 #[.agg #[.slice η I.length ζ,.func (.func 57) #[] #[]],.agg #[.int .i64 D,.int .i64 O]] w fun e w'=>∃ a6:Value,e = .returned (a6)∧Kd.R k62 62 w' w.heap.size (fun _=>True) a6 r∧Below w.heap.size w w':=by
 have bu:=Try.underlying74
 have be:=Try.underlying62
 have ψ :=Aside0.mk a2
 have af:=Aside0.mk a5
 clear a2 a5
 have HB:=Aside0.mk (Below.refl w.heap.size w)
 have H:((api_Inside_58.f k I D O J).bind fun μ =>(if μ.2=true then ((api_Inside_59.f I).bind fun bc=>(some bc)) else ((api_Inside_59.f I).bind fun U=>((some (([(⟨D,O⟩:S62)]:List (S62)):List (S62))).bind fun Y=>(if (U.length+Y.length<1000000000∧0 ≤ μ.1 ∧ μ.1≤(U.length:Int)) then (some (U.take μ.1.toNat++Y++U.drop μ.1.toNat)) else (none))))))=some r:=h
 clear h
 replace H:=Option.bind_eq_some_iff.mp H
 obtain⟨⟨Z,b6⟩,ai,H⟩:=H
 replace H:(if b6=true then ((api_Inside_59.f I).bind fun bc=>(some bc)) else ((api_Inside_59.f I).bind fun U=>((some (([(⟨D,O⟩:S62)]:List (S62)):List (S62))).bind fun Y=>(if (U.length+Y.length<1000000000∧0≤Z∧Z≤(U.length:Int)) then (some (U.take Z.toNat++Y++U.drop Z.toNat)) else (none)))))=some r:=H
 have A3:=Aside0.mk ai
 clear ai
 by_cases c4:b6=true
 ·subst c4
  have H1:((api_Inside_59.f I).bind fun bc=>(some bc))=some r:=by rw[if_pos rfl] at H;exact H
  clear H
  have H:=H1
  clear H1
  replace H:=Option.bind_eq_some_iff.mp H
  obtain⟨bc,cf,H⟩:=H
  replace H:(some bc)=some r:=H
  have A5:=Aside0.mk cf
  clear cf
  obtain rfl:=Option.some.inj H
  go_enter Try.func33,Try.ntmps33
  go_wp2_with (first|((with_reducible refine Qt (N:=2) rfl ?_);refine Qp ?hg (N:=2) ?hd (cs:=#[.slice η I.length ζ,.func (.func 57) #[] #[]]) (t:=74) ?hr ?_;(case hd=>rfl);(case hg=>rfl);(case hr=>go_simp <;> rfl);intro γ hg w6 hbox hb;have B:=Aside0.mk hbox;have ao:=sGe hg;have ar:=sGe hg;replace HB:=sHb hb;clear hb hbox hg)|((with_reducible refine Qt (N:=3) rfl ?_);refine Qp ?hg (N:=3) ?hd (cs:=#[.int .i64 D,.int .i64 O]) (t:=62) ?hr ?_;(case hd=>rfl);(case hg=>rfl);(case hr=>go_simp <;> rfl);intro X hg w7 hbox hb;have L:=Aside0.mk hbox;have b5:=sGe hg;have bo:=sGe hg;have ξ :=sNl B hg;have φ :=sNg B hg;replace B:=sBk B hb;replace HB:=sHb hb;clear hb hbox hg;have bn:= ξ.out;have bq:= φ.out;have bd:w7.cell? ⟨γ,0,none⟩=some (.slice η I.length ζ):=(Qa B.out 0).trans rfl;have bg:w7.cell? ⟨γ,1,none⟩=some (.func (.func 57) #[] #[]):=(Qa B.out 1).trans rfl;have bh:=Qb B.out 0;have bi:=Qb B.out 1;have a7:w7.cell? ⟨X,0,none⟩=some (.int .i64 D):=(Qa L.out 0).trans rfl;have ak:w7.cell? ⟨X,1,none⟩=some (.int .i64 O):=(Qa L.out 1).trans rfl;have au:=Qb L.out 0;have bj:=Qb L.out 1)|((with_reducible refine Q2 (f:=58) rfl ?_);refine Zq (some 13) rfl rfl Try.func58 kr rfl #[.slice η I.length ζ,.agg #[.int .i64 D,.int .i64 O],.func (.func 57) #[] #[]] rfl (by simp only[List.map_toArray,List.map_cons,List.map_nil] <;> rfl) ?_;(with_reducible refine(api_Inside_58.calls k _ _ I D O J Z true _ ?side1 ?side2 A3.out).mono ?_);(case side1=>exact(Kd.Qz ψ.out HB.out));(case side2=>exact af.out);rintro e bw ⟨rfl,hb⟩;refine⟨_,rfl, ?_⟩;replace B:=sBk B hb;replace L:=sBk L hb;replace HB:=sHb hb;(try clear hb);(try clear a4);(try clear hk);(try clear hi);have av:bw.cell? ⟨γ,0,none⟩=some (.slice η I.length ζ):=(Qa B.out 0).trans rfl;have ax:bw.cell? ⟨γ,1,none⟩=some (.func (.func 57) #[] #[]):=(Qa B.out 1).trans rfl;have az:=Qb B.out 0;have b0:=Qb B.out 1)|((with_reducible refine Q2 (f:=59) rfl ?_);refine Zq (some 19) rfl rfl Try.func59 kr rfl #[.slice η I.length ζ] rfl (by simp only[List.map_toArray,List.map_cons,List.map_nil] <;> rfl) ?_;(with_reducible refine(api_Inside_59.calls _ _ I bc _ ?side1 ?side2 A5.out).mono ?_);(case side1=>exact(Kd.Qz ψ.out HB.out));(case side2=>exact af.out);rintro e ch ⟨bz,rfl,χ,hb⟩;refine⟨_,rfl, ?_⟩;have bp:=Aside0.mk (Kd.Q4 (Kd.Zy χ (g:=X) (o:=.cells #[.int .i64 D,.int .i64 O] 62 (0,0)) L.out) (Qk HB.out));replace B:=sBk B hb;replace L:=sBk L hb;replace HB:=sHb hb;(try clear hb);(try clear a4);(try clear hk);(try clear hi);(try clear χ)))
  go_ret
  exact⟨_,rfl,by(with_reducible repeat(first|apply Kd.Qm|apply Kd.Ql|apply Kd.Qo));exact Kd.Qs bp.out (fun _ hk=>trivial),HB.out⟩
 ·replace c4:=Bool.eq_false_iff.mpr c4
  subst c4
  have H1:((api_Inside_59.f I).bind fun U=>((some (([(⟨D,O⟩:S62)]:List (S62)):List (S62))).bind fun Y=>(if (U.length+Y.length<1000000000∧0≤Z∧Z≤(U.length:Int)) then (some (U.take Z.toNat++Y++U.drop Z.toNat)) else (none))))=some r:=by rw[if_neg (show ¬ (false=true) by decide)] at H;exact H
  clear H
  have H:=H1
  clear H1
  replace H:=Option.bind_eq_some_iff.mp H
  obtain⟨U,aw,H⟩:=H
  replace H:((some (([(⟨D,O⟩:S62)]:List (S62)):List (S62))).bind fun Y=>(if (U.length+Y.length<1000000000∧0≤Z∧Z≤(U.length:Int)) then (some (U.take Z.toNat++Y++U.drop Z.toNat)) else (none)))=some r:=H
  have b7:=Aside0.mk aw
  clear aw
  obtain⟨Y,aj⟩:∃ y_:List (S62),y_=(([(⟨D,O⟩:S62)]:List (S62))):=⟨_,rfl⟩
  replace H:(if (U.length+Y.length<1000000000∧0≤Z∧Z≤(U.length:Int)) then (some (U.take Z.toNat++Y++U.drop Z.toNat)) else (none))=some r:=by first|(rw[aj];with_reducible exact H)|(have ρ:=(Option.bind_some _ _).symm.trans H;rw[aj];with_reducible exact ρ)|(have ρ:=(Option.bind_some _ _).symm.trans H;with_reducible exact ρ)|with_reducible exact H|(rw[aj];exact H)|exact H
  have al:=Aside0.mk aj
  clear aj
  by_cases a8:(U.length+Y.length<1000000000∧0≤Z∧Z≤(U.length:Int))
  ·rw[if_pos a8] at H
   have ah:=Aside0.mk a8
   clear a8
   obtain⟨bv,am⟩:∃ y_:List (S62),y_=(U.take Z.toNat++Y++U.drop Z.toNat):=⟨_,rfl⟩
   replace H:(some bv)=some r:=by first|(rw[am];with_reducible exact H)|(have ρ:=(Option.bind_some _ _).symm.trans H;rw[am];with_reducible exact ρ)|(have ρ:=(Option.bind_some _ _).symm.trans H;with_reducible exact ρ)|with_reducible exact H|(rw[am];exact H)|exact H
   have br:=Aside0.mk am
   clear am
   obtain rfl:=Option.some.inj H
   go_enter Try.func33,Try.ntmps33
   try go_wp2_with (first|((with_reducible refine Qt (N:=2) rfl ?_);refine Qp ?hg (N:=2) ?hd (cs:=#[.slice η I.length ζ,.func (.func 57) #[] #[]]) (t:=74) ?hr ?_;(case hd=>rfl);(case hg=>rfl);(case hr=>go_simp <;> rfl);intro γ hg aa hbox hb;have B:=Aside0.mk hbox;have ao:=sGe hg;have ar:=sGe hg;replace HB:=sHb hb;clear hb hbox hg)|((with_reducible refine Qt (N:=3) rfl ?_);refine Qp ?hg (N:=3) ?hd (cs:=#[.int .i64 D,.int .i64 O]) (t:=62) ?hr ?_;(case hd=>rfl);(case hg=>rfl);(case hr=>go_simp <;> rfl);intro X hg cw hbox hb;have L:=Aside0.mk hbox;have b5:=sGe hg;have bo:=sGe hg;have ξ :=sNl B hg;have φ :=sNg B hg;replace B:=sBk B hb;replace HB:=sHb hb;clear hb hbox hg;have ca:= ξ.out;have ce:= φ.out;have b1:cw.cell? ⟨γ,0,none⟩=some (.slice η I.length ζ):=(Qa B.out 0).trans rfl;have b2:cw.cell? ⟨γ,1,none⟩=some (.func (.func 57) #[] #[]):=(Qa B.out 1).trans rfl;have b3:=Qb B.out 0;have b4:=Qb B.out 1;have b9:cw.cell? ⟨X,0,none⟩=some (.int .i64 D):=(Qa L.out 0).trans rfl;have ba:cw.cell? ⟨X,1,none⟩=some (.int .i64 O):=(Qa L.out 1).trans rfl;have bb:=Qb L.out 0;have bf:=Qb L.out 1)|((with_reducible refine Q2 (f:=58) rfl ?_);refine Zq (some 13) rfl rfl Try.func58 kr rfl #[.slice η I.length ζ,.agg #[.int .i64 D,.int .i64 O],.func (.func 57) #[] #[]] rfl (by simp only[List.map_toArray,List.map_cons,List.map_nil] <;> rfl) ?_;(with_reducible refine(api_Inside_58.calls k _ _ I D O J Z false _ ?side1 ?side2 A3.out).mono ?_);(case side1=>exact(Kd.Qz ψ.out HB.out));(case side2=>exact af.out);rintro e bl ⟨rfl,hb⟩;refine⟨_,rfl, ?_⟩;replace B:=sBk B hb;replace L:=sBk L hb;replace HB:=sHb hb;(try clear hb);(try clear a4);(try clear hk);(try clear hi)))
   replace B:=Aside0.mk (Qc B.out)
   replace L:=Aside0.mk (Qc L.out)
   replace HB:=Aside0.mk (Qh HB.out)
   refine Zv (n:=8) (S:=fun w'=>w'.cell? ⟨γ,0,none⟩=some (.slice η I.length ζ)∧w'.cell? ⟨γ,1,none⟩=some (.func (.func 57) #[] #[])∧w'.cell? ⟨X,0,none⟩=some (.int .i64 D)∧w'.cell? ⟨X,1,none⟩=some (.int .i64 O)) (ds:=[]) #[false,false,false,false,false,false,false,false] kr rfl rfl ⟨(Qa B.out 0).trans rfl,(Qa B.out 1).trans rfl,(Qa L.out 0).trans rfl,(Qa L.out 1).trans rfl⟩ (fun hHeld=>?_);refine Q8 api_Inside_with.Gn api_Inside_with.J1 (fun HT_ HW_=>?_)
   generalize bl.drew=dt at B L HB hHeld ⊢
   refine qP 0 (some 20) (bN 8 1) HT_ ?_
   refine qP 3 (some 23) (bN 8 9) HT_ ?_
   refine qT 1 (some 21) (bN 8 11) HT_ HW_ hHeld ?_
   refine qT 4 (some 24) (bN 8 27) HT_ HW_ hHeld ?_
   refine K9 (σ:=Value×Value) 2 (bN 8 63) (fun s_=>[(22,s_.1),(25,s_.2)]) (fun s_ w'=>(w'.cell? ⟨γ,0,none⟩=some (.slice η I.length ζ)∧w'.cell? ⟨γ,1,none⟩=some (.func (.func 57) #[] #[])∧w'.cell? ⟨X,0,none⟩=some (.int .i64 D)∧w'.cell? ⟨X,1,none⟩=some (.int .i64 O))∧(Kd.R k62 62 w' w.heap.size (fun k_=>some k_≠(s_.2:Value).ownBlock∧k_≠X) s_.1 U)∧(Kd.R k62 62 w' w.heap.size (fun k_=>some k_≠(s_.1:Value).ownBlock∧k_≠X) s_.2 Y)∧(w'.heap[γ]?=some (.cells #[.slice η I.length ζ,.func (.func 57) #[] #[]] 74 (0,0)))∧(w'.heap[X]?=some (.cells #[.int .i64 D,.int .i64 O] 62 (0,0)))∧(Below w.heap.size w w')) ?_ ?_
   rotate_left
   ·intro hCont
    refine Kj (i:=2) (j:=5) (Ni:=some 22) (Nj:=some 25) (bN 8 31) (bN 8 59) rfl rfl rfl rfl (Ye HT_.out kr) (by decide) (by decide) (fun K hK=>?_) (fun K hK=>?_)
    ·skip
     refine Zg Try.func59 kr rfl #[.slice η I.length ζ] (by rfl) rfl rfl (by simp only[List.map_toArray,List.map_cons,List.map_nil] <;> rfl) ?_
     with_reducible refine(api_Inside_59.calls _ _ I U _ ?side1 ?side2 b7.out).mono ?_
     (case side1=>exact(Kd.Qz ψ.out HB.out))
     (case side2=>exact af.out)
     rintro e cd ⟨a1,rfl,χ,hb⟩
     refine⟨_,rfl, ?_⟩
     have ν :=Aside0.mk (Kd.Q4 (Kd.Zy χ (g:=X) (o:=.cells #[.int .i64 D,.int .i64 O] 62 (0,0)) L.out) (Qk HB.out))
     replace B:=sBk B hb
     replace L:=sBk L hb
     replace HB:=sHb hb
     (try clear hb)
     (try clear a4)
     (try clear hk)
     (try clear hi)
     (try clear χ)
     refine hK.out _ _ ⟨(Qa B.out 0).trans rfl,(Qa B.out 1).trans rfl,(Qa L.out 0).trans rfl,(Qa L.out 1).trans rfl⟩ (fun hHeld=>?_)
     clear hK K
     refine qN (some 22) ?_
     refine Zm (i:=5) (N:=some 25) (bN 8 63) rfl rfl (Q3 HT_.out kr) (by decide) (fun K hK=>?_)
     refine Kd.Xl k62 _ 62 ?hg (N:=25) ?hd (xs:=([(⟨D,O⟩:S62)]:List (S62))) (inner:=[.int .i64 D,.int .i64 O]) (ok:=fun _=>True) (okp:=fun _=>True) ?hr ?hp (fun _ hk=>hk) trivial (Below.refl _ _) (Nat.le_refl _) (by simp) ?_;(case hd=>rfl);(case hg=>rfl);(case hr=>go_simp <;> rfl);(case hp=>exact(Reps.c2 (show Kd.M k62 _ _ _ (⟨D,O⟩:S62) [.int .i64 D,.int .i64 O] from(Kr _ _ _ (⟨D,O⟩:S62))) (Reps.none _ _)))
     intro an bm a3 hb hg_ hnew_
     clear hg_ hnew_
     (first|rw[← al.out] at a3|(simp only[Int.reduceToNat] at a3;rw[← al.out] at a3))
     have δ :=Aside0.mk (Kd.Q4 (Kd.Zy (Kd.Zr a3 (Kd.Z4 ν.out)) (g:=X) (o:=.cells #[.int .i64 D,.int .i64 O] 62 (0,0)) L.out) (Qk HB.out))
     replace ν :=Aside0.mk (Kd.Q7 ν.out (Kd.Zn a3) hb)
     replace B:=sBk B hb
     replace L:=sBk L hb
     replace HB:=sHb hb
     clear hb a3
     refine hK.out _ _ ⟨(Qa B.out 0).trans rfl,(Qa B.out 1).trans rfl,(Qa L.out 0).trans rfl,(Qa L.out 1).trans rfl⟩ (fun hHeld=>?_)
     clear hK K
     refine qN (some 25) ?_
     exact Xj (by simp only[Z3,Act.put,qS]) (hCont (a1,an) _ ⟨hHeld,(by(with_reducible repeat(first|apply Kd.Qm|apply Kd.Ql|apply Kd.Qo));exact Kd.Qs ν.out (fun _ hk=>⟨hk.2,hk.1.2⟩)),(by(with_reducible repeat(first|apply Kd.Qm|apply Kd.Ql|apply Kd.Qo));exact Kd.Qs δ.out (fun _ hk=>⟨hk.1.2,hk.2⟩)),B.out,L.out,HB.out⟩)
    ·skip
     refine Kd.Xl k62 _ 62 ?hg (N:=25) ?hd (xs:=([(⟨D,O⟩:S62)]:List (S62))) (inner:=[.int .i64 D,.int .i64 O]) (ok:=fun _=>True) (okp:=fun _=>True) ?hr ?hp (fun _ hk=>hk) trivial (Below.refl _ _) (Nat.le_refl _) (by simp) ?_;(case hd=>rfl);(case hg=>rfl);(case hr=>go_simp <;> rfl);(case hp=>exact(Reps.c2 (show Kd.M k62 _ _ _ (⟨D,O⟩:S62) [.int .i64 D,.int .i64 O] from(Kr _ _ _ (⟨D,O⟩:S62))) (Reps.none _ _)))
     intro an cd ag hb hg_ hnew_
     clear hg_ hnew_
     (first|rw[← al.out] at ag|(simp only[Int.reduceToNat] at ag;rw[← al.out] at ag))
     have δ :=Aside0.mk (Kd.Q4 (Kd.Zy ag (g:=X) (o:=.cells #[.int .i64 D,.int .i64 O] 62 (0,0)) L.out) (Qk HB.out))
     replace B:=sBk B hb
     replace L:=sBk L hb
     replace HB:=sHb hb
     clear hb ag
     refine hK.out _ _ ⟨(Qa B.out 0).trans rfl,(Qa B.out 1).trans rfl,(Qa L.out 0).trans rfl,(Qa L.out 1).trans rfl⟩ (fun hHeld=>?_)
     clear hK K
     refine qN (some 25) ?_
     refine Zm (i:=2) (N:=some 22) (bN 8 63) rfl rfl (Q3 HT_.out kr) (by decide) (fun K hK=>?_)
     refine Zg Try.func59 kr rfl #[.slice η I.length ζ] (by rfl) rfl rfl (by simp only[List.map_toArray,List.map_cons,List.map_nil] <;> rfl) ?_
     with_reducible refine(api_Inside_59.calls _ _ I U _ ?side1 ?side2 b7.out).mono ?_
     (case side1=>exact(Kd.Qz ψ.out HB.out))
     (case side2=>exact af.out)
     rintro e cj ⟨a1,rfl,χ,hb⟩
     refine⟨_,rfl, ?_⟩
     have ν :=Aside0.mk (Kd.Q4 (Kd.Zy (Kd.Zr χ (Kd.Z4 δ.out)) (g:=X) (o:=.cells #[.int .i64 D,.int .i64 O] 62 (0,0)) L.out) (Qk HB.out))
     replace δ :=Aside0.mk (Kd.Q7 δ.out (Kd.Zn χ) hb)
     replace B:=sBk B hb
     replace L:=sBk L hb
     replace HB:=sHb hb
     (try clear hb)
     (try clear a4)
     (try clear hk)
     (try clear hi)
     (try clear χ)
     refine hK.out _ _ ⟨(Qa B.out 0).trans rfl,(Qa B.out 1).trans rfl,(Qa L.out 0).trans rfl,(Qa L.out 1).trans rfl⟩ (fun hHeld=>?_)
     clear hK K
     refine qN (some 22) ?_
     exact Xj (by simp only[Z3,Act.put,qS]) (hCont (a1,an) _ ⟨hHeld,(by(with_reducible repeat(first|apply Kd.Qm|apply Kd.Ql|apply Kd.Qo));exact Kd.Qs ν.out (fun _ hk=>⟨hk.1.2,hk.2⟩)),(by(with_reducible repeat(first|apply Kd.Qm|apply Kd.Ql|apply Kd.Qo));exact Kd.Qs δ.out (fun _ hk=>⟨hk.2,hk.1.2⟩)),B.out,L.out,HB.out⟩)
   rintro⟨a1,an⟩ bs ⟨hS_,cq,cr,ct,cu,cv⟩
   have ε :Aside0 (Kd.R k62 62 bs w.heap.size (fun k_=>some k_≠(an:Value).ownBlock∧k_≠X) a1 U):=⟨cq⟩
   have θ :Aside0 (Kd.R k62 62 bs w.heap.size (fun k_=>some k_≠(a1:Value).ownBlock∧k_≠X) an Y):=⟨cr⟩
   have ι :Aside0 (bs.heap[γ]?=some (.cells #[.slice η I.length ζ,.func (.func 57) #[] #[]] 74 (0,0))):=⟨ct⟩
   have κ :Aside0 (bs.heap[X]?=some (.cells #[.int .i64 D,.int .i64 O] 62 (0,0))):=⟨cu⟩
   have τ :Aside0 (Below w.heap.size w bs):=⟨cv⟩
   clear B
   clear L
   clear HB
   clear cq cr ct cu cv
   have ν := ε
   have δ := θ
   have B:= ι
   have L:= κ
   have HB:= τ
   clear ε θ ι κ τ
   have hHeld:bs.cell? ⟨γ,0,none⟩=some (.slice η I.length ζ)∧bs.cell? ⟨γ,1,none⟩=some (.func (.func 57) #[] #[])∧bs.cell? ⟨X,0,none⟩=some (.int .i64 D)∧bs.cell? ⟨X,1,none⟩=some (.int .i64 O):=hS_
   obtain⟨ap,ay,bk⟩:=Kd.Q6 δ.out
   (first|subst bk|(injection bk with ω ab a0;have ac:= ω.symm;have ae:=a0.symm;clear ω ab a0;subst ac;subst ae))
   refine Xj (a':=?_) ?_ ?_
   rotate_left
   ·simp only[Z3,Act.put,qS]
    rfl
   refine Zm (i:=6) (N:=some 26) (bN 8 127) rfl rfl (Q3 HT_.out kr) (by decide) (fun K hK=>?_)
   refine Zg Try.func60 kr rfl #[a1,.int .i64 Z,.slice ap Y.length ay] (by rfl) rfl rfl (by simp only[List.map_toArray,List.map_cons,List.map_nil] <;> rfl) ?_
   refine(Ny _ w.heap.size (fun k_=>some k_≠(.slice ap Y.length ay:Value).ownBlock∧k_≠X) _ a1 U Y _ Z ap ay al.out ?aS ?aF ?aO δ.out ?aN (by have h_:=ah.out;omega) (by have h_:=ah.out;omega) (by have h_:=ah.out;omega)).mono ?_
   (case aS=>exact(Qk HB.out))
   (case aF=>exact(fun k_ hk=>⟨Kd.fresh' (Kd.Z4 δ.out) k_ hk,Kd.Yr (g:=X) (o:=.cells #[.int .i64 D,.int .i64 O] 62 (0,0)) L.out k_ hk⟩))
   (case aO=>exact ν.out)
   (case aN=>exact fun k_ hk=>hk.1)
   rintro e f8 ⟨h7,rfl,ho,b8,hg,hat⟩
   refine⟨_,rfl, ?_⟩
   have hb:=HB.out.trans b8
   rw[← br.out] at ho
   have a9:=Aside0.mk ho
   replace B:=Aside0.mk (Zb (g:=γ) (o:=.cells #[.slice η I.length ζ,.func (.func 57) #[] #[]] 74 (0,0)) B.out hg (Kd.X1 ν.out B.out (by decide)))
   replace L:=Aside0.mk (Zb (g:=X) (o:=.cells #[.int .i64 D,.int .i64 O] 62 (0,0)) L.out hg (Kd.Y4 ν.out (fun _ hk=>hk.2)))
   replace δ :=Aside0.mk (Kd.J8 (ok:=(fun k_=>k_≠X)) (by(with_reducible repeat(first|apply Kd.Qm|apply Kd.Ql|apply Kd.Qo));exact Kd.Qs δ.out (fun _ hk=>⟨hk.2,hk.1⟩)) hg hat)
   replace HB:=Aside0.mk hb
   clear ν
   clear ho hb hg hat
   refine hK.out _ _ ⟨(Qa B.out 0).trans rfl,(Qa B.out 1).trans rfl,(Qa L.out 0).trans rfl,(Qa L.out 1).trans rfl⟩ (fun hHeld=>?_)
   clear hK K
   refine qN (some 26) ?_
   refine qP 7 (some 4) (bN 8 255) HT_ ?_
   refine Z0 (Zp HT_.out kr) ?_
   try go_wp2
   go_ret
   exact⟨_,rfl,by(with_reducible repeat(first|apply Kd.Qm|apply Kd.Ql|apply Kd.Qo));exact Kd.Qs a9.out (fun _ hk=>trivial),HB.out⟩
  ·rw[if_neg a8] at H
   exact absurd H (by simp)
end Go.Proofs.Ytjehhhlhalkieaa.C
namespace Go.Proofs.Ytjehhhlhalkieaa.C
open Go.RowKit Go.Proofs.YtjehhhlhalkieaaW.PrintWords Go.Proofs.YtjehhhlhalkieaaW.PrintLast Go.Proofs.YtjehhhlhalkieaaW.PrintMore
set_option linter.unusedVariables false
theorem Ks {α:Type} (q:α→Bool) (l:List α) (p:Nat) (h1:∀ y ∈ l.take p,q y=true) (O:∀ y ∈ l.drop p,q y=false):l.filter q=l.take p∧l.filter (fun y=> !q y)=l.drop p:=by
  have e:=List.take_append_drop p l
  constructor
  · conv=>lhs;rw[← e]
    rw[List.filter_append,List.filter_eq_self.2 h1,List.filter_eq_nil_iff.2 (fun y hy=>by rw[O y hy];decide),List.append_nil]
  · conv=>lhs;rw[← e]
    rw[List.filter_append,List.filter_eq_nil_iff.2 (fun y hy=>by rw[h1 y hy];decide),List.filter_eq_self.2 (fun y hy=>by rw[O y hy];rfl),List.nil_append]
def Ng (x:S56) (l:List S56):List S56:=if l.any (fun y=>Z9 y.f0 y.f1 x.f0 x.f1==0) then l else l.filter (fun y=>decide (Z9 y.f0 y.f1 x.f0 x.f1<0)) ++ [x]++l.filter (fun y=> !decide (Z9 y.f0 y.f1 x.f0 x.f1<0))
def withP_H.f (J L x2:Int) (l:List S56):Option (List S56):=if small (l.length+2) L=true∧Call.Zw (fun _=>true) Call.ltH none l=true then some (Ng ⟨J,L,x2⟩ l) else none
set_option maxHeartbeats 1000000 in
theorem G5 (X:Option Addr) (c:Nat) (l:List S56) (J L x2:Int) (t:List S56) (W:World) (hr:Kd.C k56 W X l.length l) (hc:l.length≤c) (h:withP_H.f J L x2 l=some t):
    Calls Try.prog 35 #[.agg #[.slice X l.length c,.func (.func 51) #[] #[]],.agg #[.int .i64 J,.int .i64 L,.int .i64 x2]] W fun e w'=>∃ a6:Value,e = .returned a6∧Kd.R k56 56 w' W.heap.size (fun _=>True) a6 t∧Below W.heap.size W w':=by
  unfold withP_H.f at h
  split at h
  case isFalse=>cases h
  case isTrue hs=>
  cases h
  obtain⟨hl,hb⟩:=of_decide_eq_true hs.1
  have hso:=((Call.Y7 (fun _=>true) l).1 hs.2).2
  refine api_Hall_with.calls (l.length+2) X c l 0 J L x2 _ W hr hc ?_
  unfold api_Hall_with.f api_Hall_55.f
  have hl':l.length<1000000000:=by omega
  obtain⟨p,hp,e⟩:=Call.Gq l J L x2 0 (by omega) hso (l.length+2) (by omega)
  obtain⟨h1,O,D⟩:=hp
  rw[e]
  simp only[Option.bind_some,if_pos hl',Int.toNat_natCast]
  have hany:l.any (fun y=>Z9 y.f0 y.f1 J L==0)=Call.Kx l J L p:=by
    unfold Call.Kx
    rcases Nat.lt_or_ge p l.length with hlt|hge
    · rw[List.getElem?_eq_getElem hlt]
      simp only
      obtain⟨b,hb⟩:∃ b,(Z9 l[p].f0 l[p].f1 J L==0)=b:=⟨_,rfl⟩
      rw[hb]
      cases b
      · rw[List.any_eq_false]
        intro y hy hq
        obtain⟨m,hm,rfl⟩:=List.mem_iff_getElem.1 hy
        have B:Z9 l[m].f0 l[m].f1 J L=0:=by simpa using hq
        rw[Call.Ym] at B
        rcases Nat.lt_trichotomy m p with Y|he|hgt
        · have:=O l[m] (List.mem_iff_getElem.2 ⟨m,by rw[List.length_take];omega,by rw[List.getElem_take]⟩)
          rw[Call.X3] at this
          omega
        · subst he
          rw[← Call.Ym] at B
          rw[B] at hb
          cases hb
        · have I:=D l[p] (List.mem_iff_getElem.2 ⟨0,by rw[List.length_drop];omega,by rw[List.getElem_drop];rfl⟩)
          rw[Call.X3] at I
          have U:=List.pairwise_iff_getElem.1 hso p m hlt hm hgt
          rw[Call.Yu] at U
          omega
      · exact List.any_eq_true.2 ⟨l[p],List.getElem_mem hlt,hb⟩
    · rw[List.getElem?_eq_none hge]
      simp only
      rw[List.any_eq_false]
      intro y hy hq
      have:=O y (by rw[List.take_of_length_le hge];exact hy)
      rw[Call.X3] at this
      have B:Z9 y.f0 y.f1 J L=0:=by simpa using hq
      rw[Call.Ym] at B
      omega
  have hsp:=Ks (fun y=>decide (Z9 y.f0 y.f1 J L<0)) l p (fun y hy=>decide_eq_true (O y hy)) (fun y hy=>decide_eq_false (D y hy))
  obtain⟨b,hm⟩:∃ b,Call.Kx l J L p=b:=⟨_,rfl⟩
  unfold Ng
  rw[hm] at hany ⊢
  simp only[hany,hsp.1,hsp.2]
  cases b
  · simp only[Bool.false_eq_true,if_false]
    rw[if_pos ⟨by simp only[List.length_cons,List.length_nil];omega,by omega,by omega⟩]
  · simp only[if_true]
def Nf (x:S62) (l:List S62):List S62:=if l.any (fun y=>Z9 y.f0 y.f1 x.f0 x.f1==0) then l else l.filter (fun y=>decide (Z9 y.f0 y.f1 x.f0 x.f1<0)) ++ [x]++l.filter (fun y=> !decide (Z9 y.f0 y.f1 x.f0 x.f1<0))
def withP_I.f (J L:Int) (l:List S62):Option (List S62):=if small (l.length+2) L=true∧Call.Zw (fun _=>true) Call.ltI none l=true then some (Nf ⟨J,L⟩ l) else none
set_option maxHeartbeats 1000000 in
theorem G4 (X:Option Addr) (c:Nat) (l:List S62) (J L:Int) (t:List S62) (W:World) (hr:Kd.C k62 W X l.length l) (hc:l.length≤c) (h:withP_I.f J L l=some t):
    Calls Try.prog 33 #[.agg #[.slice X l.length c,.func (.func 57) #[] #[]],.agg #[.int .i64 J,.int .i64 L]] W fun e w'=>∃ a6:Value,e = .returned a6∧Kd.R k62 62 w' W.heap.size (fun _=>True) a6 t∧Below W.heap.size W w':=by
  unfold withP_I.f at h
  split at h
  case isFalse=>cases h
  case isTrue hs=>
  cases h
  obtain⟨hl,hb⟩:=of_decide_eq_true hs.1
  have hso:=((Call.K5 (fun _=>true) l).1 hs.2).2
  refine api_Inside_with.calls (l.length+2) X c l 0 J L _ W hr hc ?_
  unfold api_Inside_with.f api_Inside_59.f
  have hl':l.length<1000000000:=by omega
  obtain⟨p,hp,e⟩:=Call.Un l J L 0 (by omega) hso (l.length+2) (by omega)
  obtain⟨h1,O,D⟩:=hp
  rw[e]
  simp only[Option.bind_some,if_pos hl',Int.toNat_natCast]
  have hany:l.any (fun y=>Z9 y.f0 y.f1 J L==0)=Call.U2 l J L p:=by
    unfold Call.U2
    rcases Nat.lt_or_ge p l.length with hlt|hge
    · rw[List.getElem?_eq_getElem hlt]
      simp only
      obtain⟨b,hb⟩:∃ b,(Z9 l[p].f0 l[p].f1 J L==0)=b:=⟨_,rfl⟩
      rw[hb]
      cases b
      · rw[List.any_eq_false]
        intro y hy hq
        obtain⟨m,hm,rfl⟩:=List.mem_iff_getElem.1 hy
        have B:Z9 l[m].f0 l[m].f1 J L=0:=by simpa using hq
        rw[Call.Ym] at B
        rcases Nat.lt_trichotomy m p with Y|he|hgt
        · have:=O l[m] (List.mem_iff_getElem.2 ⟨m,by rw[List.length_take];omega,by rw[List.getElem_take]⟩)
          rw[Call.X3] at this
          omega
        · subst he
          rw[← Call.Ym] at B
          rw[B] at hb
          cases hb
        · have I:=D l[p] (List.mem_iff_getElem.2 ⟨0,by rw[List.length_drop];omega,by rw[List.getElem_drop];rfl⟩)
          rw[Call.X3] at I
          have U:=List.pairwise_iff_getElem.1 hso p m hlt hm hgt
          rw[Call.J5] at U
          omega
      · exact List.any_eq_true.2 ⟨l[p],List.getElem_mem hlt,hb⟩
    · rw[List.getElem?_eq_none hge]
      simp only
      rw[List.any_eq_false]
      intro y hy hq
      have:=O y (by rw[List.take_of_length_le hge];exact hy)
      rw[Call.X3] at this
      have B:Z9 y.f0 y.f1 J L=0:=by simpa using hq
      rw[Call.Ym] at B
      omega
  have hsp:=Ks (fun y=>decide (Z9 y.f0 y.f1 J L<0)) l p (fun y hy=>decide_eq_true (O y hy)) (fun y hy=>decide_eq_false (D y hy))
  obtain⟨b,hm⟩:∃ b,Call.U2 l J L p=b:=⟨_,rfl⟩
  unfold Nf
  rw[hm] at hany ⊢
  simp only[hany,hsp.1,hsp.2]
  cases b
  · simp only[Bool.false_eq_true,if_false]
    rw[if_pos ⟨by simp only[List.length_cons,List.length_nil];omega,by omega,by omega⟩]
  · simp only[if_true]
end Go.Proofs.Ytjehhhlhalkieaa.C
namespace Go.Proofs.Ytjehhhlhalkieaa.C
open Go.RowKit Go.Proofs.YtjehhhlhalkieaaW.PrintWords Go.Proofs.YtjehhhlhalkieaaW.PrintLast Go.Proofs.YtjehhhlhalkieaaW.PrintMore
attribute [local go_sem] Zk Zi Zt Zs Zd Zc Zj Zh
set_option linter.unusedVariables false
set_option linter.unusedSimpArgs false
def call_Press.j0:Nat→Int→Int→List (S56)→List (S62)→Int→Int→Int→Option ((List (S56))×(List (S62))×Int)
 |0,_,_,_,_,_,_,_=>none
 |k+1,J,L,O,U,B,D,I=>(hallP.f B D I J L).bind fun aj=>((call_change.f (withP_H.f B D I O) (woP_I.f (-2) 0 U) k J L O U aj 0 B D I 0 (-2) 0).bind fun bn=>(some (bn.1,bn.2.1,bn.2.2)))
def call_Press.f (k:Nat) (I:Int) (J:Int) (B:List (S56)) (D:List (S62)) (ζ :Int) (L:Int) (η :Int):Option ((List (S56))×(List (S62))×Int):=if ζ = 0 then (call_Press.j0 k I J B D L 1 (-1)) else (if ζ = 1 then (call_Press.j0 k I J B D L (-1) (-1)) else (if ζ = 2 then ((insP.f η L I J).bind fun φ =>((call_change.f (woP_H.f (-2) 0 0 B) (withP_I.f η L D) k I J B D φ 0 (-2) 0 0 0 η L).bind fun bb=>(some (bb.1,bb.2.1,bb.2.2)))) else (call_Press.j0 k I J B D L 0 (-1))))
theorem call_Press.Zo:∀ k,(∀ D I O J L X Y,LeO (call_Press.j0 k D I O J L X Y) (call_Press.j0 (k+1) D I O J L X Y))
 |0=>fun _ _ _ _ _ _ _ r h=>by simp[call_Press.j0] at h
 |k+1=>by
  have B:=call_Press.Zo k
  ·intro D I O J L X Y
   unfold call_Press.j0
   repeat' first
   |(with_reducible exact B _ _ _ _ _ _ _)
   |(with_reducible exact call_change.mono _ _ _ _ _ _ _ _ _ _ _ _ _ _ _)
   |(with_reducible exact LeO.refl _)
   |(with_reducible exact LeO.none _)
   |(with_reducible refine LeO.ite ?_ ?_)
   |(with_reducible refine LeO.bind ?_ (fun _=>?_))
   |exact B _ _ _ _ _ _ _
   |exact call_change.mono _ _ _ _ _ _ _ _ _ _ _ _ _ _ _
   |exact LeO.none _
   |refine LeO.ite ?_ ?_
   |refine LeO.bind ?_ (fun _=>?_)
theorem call_Press.mono:∀ I D a2 a3 J a5 L k,LeO (call_Press.f k I D a2 a3 J a5 L) (call_Press.f (k+1) I D a2 a3 J a5 L):=by
 intro I D a2 a3 J a5 L k
 have B:=call_Press.Zo k
 unfold call_Press.f
 repeat' first
   |(with_reducible exact B _ _ _ _ _ _ _)
   |(with_reducible exact call_change.mono _ _ _ _ _ _ _ _ _ _ _ _ _ _ _)
   |(with_reducible exact LeO.refl _)
   |(with_reducible exact LeO.none _)
   |(with_reducible refine LeO.ite ?_ ?_)
   |(with_reducible refine LeO.bind ?_ (fun _=>?_))
   |exact B _ _ _ _ _ _ _
   |exact call_change.mono _ _ _ _ _ _ _ _ _ _ _ _ _ _ _
   |exact LeO.none _
   |refine LeO.ite ?_ ?_
   |refine LeO.bind ?_ (fun _=>?_)
def call_Press.T9:Bool×List (List Nat×List Nat):=(true,[([],[]),([],[]),([],[]),([2],[2]),([],[]),([3,4,3],[3,4]),([],[]),([6,5],[6]),([7],[7]),([],[]),([],[]),([10,7],[10]),([11],[11]),([],[]),([0,1,5,8,9,12,13,11],[0,1,5,8,9,12,13]),([14],[14]),([14],[14]),([15,14,0,1,2,3,4,5,6,7,8,9,10,11,12,13,14,15,16],[15]),([16,17,0,1,2,3,4,5,6,7,8,9,10,11,12,13,14,15,16,17],[16])])
def call_Press.B9:List Nat:=[0,0,0,4,0,28,0,124,252,0,0,1276,3324,0,16383,32767,32767,131071,262143]
theorem call_Press.tab9:rtab .any (opsOf Try.f11 9)=call_Press.T9:=by kernel_rfl
theorem call_Press.bits9:Zx call_Press.T9.2 call_Press.B9=true:=by kernel_rfl
def call_Press.T10:Bool×List (List Nat×List Nat):=(true,[([],[]),([],[]),([],[]),([2],[2]),([],[]),([3,4,3],[3,4]),([],[]),([6,5],[6]),([7],[7]),([],[]),([],[]),([10,7],[10]),([11],[11]),([],[]),([0,1,5,8,9,12,13,11],[0,1,5,8,9,12,13]),([14],[14]),([14],[14]),([15,14,0,1,2,3,4,5,6,7,8,9,10,11,12,13,14,15,16],[15]),([16,17,0,1,2,3,4,5,6,7,8,9,10,11,12,13,14,15,16,17],[16])])
def call_Press.B10:List Nat:=[0,0,0,4,0,28,0,124,252,0,0,1276,3324,0,16383,32767,32767,131071,262143]
theorem call_Press.tab10:rtab .any (opsOf Try.f11 10)=call_Press.T10:=by kernel_rfl
theorem call_Press.N1:Zx call_Press.T10.2 call_Press.B10=true:=by kernel_rfl
set_option maxHeartbeats 8000000 in
set_option maxRecDepth 100000 in
theorem call_Press.calls (k:Nat) (I:Int) (J:Int) (Z:Option Addr) (U:Nat) (B:List (S56)) (γ:Option Addr) (X:Nat) (D:List (S62)) (ζ :Int) (L:Int) (η :Int) (r1:List (S56)) (r2:List (S62)) (r3:Int) (w:World) (b5:Kd.C k56 w Z B.length B) (b6:B.length≤U) (b7:Kd.C k62 w γ D.length D) (b8:D.length≤X) (h:call_Press.f k I J B D ζ L η = some (r1,r2,r3)):
  Calls Try.prog 11 #[.agg #[.int .i64 I,.int .i64 J],.agg #[.slice Z B.length U,.slice γ D.length X],.agg #[.int .i64 ζ,.int .i64 L,.int .i64 η]] w fun e w'=>∃ a6 b9:Value,e = .returned (.tuple #[.agg #[a6,b9],.int .i64 r3])∧Kd.R k56 56 w' w.heap.size (fun _=>True) a6 r1∧Kd.R k62 62 w' w.heap.size (fun _=>True) b9 r2∧Below w.heap.size w w':=by
 have dx:=Try.underlying23
 have db:=Try.underlying27
 have kc:=Try.underlying29
 have bu:=Try.underlying56
 have be:=Try.underlying62
 have ag:=Aside0.mk b5
 have ar:=Aside0.mk b6
 clear b5 b6
 have ah:=Aside0.mk b7
 have aw:=Aside0.mk b8
 clear b7 b8
 have HB:=Aside0.mk (Below.refl w.heap.size w)
 have H:(if ζ = 0 then (call_Press.j0 k I J B D L 1 (-1)) else (if ζ = 1 then (call_Press.j0 k I J B D L (-1) (-1)) else (if ζ = 2 then ((insP.f η L I J).bind fun φ =>((call_change.f (woP_H.f (-2) 0 0 B) (withP_I.f η L D) k I J B D φ 0 (-2) 0 0 0 η L).bind fun bb=>(some (bb.1,bb.2.1,bb.2.2)))) else (call_Press.j0 k I J B D L 0 (-1)))))=some (r1,r2,r3):=h
 clear h
 have g1:=Aside0.mk H
 clear H
 go_enter Try.func11,Try.ntmps11
 go_upto_block 0 with(first|((with_reducible refine Qt (N:=3) rfl ?_);refine Qp ?hg (N:=3) ?hd (cs:=#[.int .i64 I,.int .i64 J]) (t:=23) ?hr ?_;(case hd=>rfl);(case hg=>rfl);(case hr=>go_simp <;> rfl);intro a2 hg w5 hbox hb;have Y:=Aside0.mk hbox;have am:=sGe hg;have di:=sGe hg;replace HB:=sHb hb;clear hb hbox hg)|((with_reducible refine Qt (N:=4) rfl ?_);refine Qp ?hg (N:=4) ?hd (cs:=#[.slice Z B.length U,.slice γ D.length X]) (t:=27) ?hr ?_;(case hd=>rfl);(case hg=>rfl);(case hr=>go_simp <;> rfl);intro bg hg w6 hbox hb;have μ :=Aside0.mk hbox;have ii:=sGe hg;have ij:=sGe hg;have gh:=sNl Y hg;have gi:=sNg Y hg;replace Y:=sBk Y hb;replace HB:=sHb hb;clear hb hbox hg)|((with_reducible refine Qt (N:=5) rfl ?_);refine Qp ?hg (N:=5) ?hd (cs:=#[.int .i64 ζ,.int .i64 L,.int .i64 η]) (t:=29) ?hr ?_;(case hd=>rfl);(case hg=>rfl);(case hr=>go_simp <;> rfl);intro an hg w7 hbox hb;have ν :=Aside0.mk hbox;have im:=sGe hg;have io:=sGe hg;have dp:=sNl Y hg;have dq:=sNg Y hg;have dr:=sNl μ hg;have dt:=sNg μ hg;replace Y:=sBk Y hb;replace μ :=sBk μ hb;replace HB:=sHb hb;clear hb hbox hg)|((with_reducible refine Qt (N:=6) rfl ?_);refine Qp ?hg (N:=6) ?hd (cs:=#[.slice none 0 0,.slice none 0 0]) (t:=27) ?hr ?_;(case hd=>rfl);(case hg=>rfl);(case hr=>go_simp <;> rfl);intro ρ hg w8 hbox hb;have ξ :=Aside0.mk hbox;have ip:=sGe hg;have iq:=sGe hg;have a9:=sNl Y hg;have bl:=sNg Y hg;have aa:=sNl μ hg;have bm:=sNg μ hg;have bh:=sNl ν hg;have bi:=sNg ν hg;replace Y:=sBk Y hb;replace μ :=sBk μ hb;replace ν :=sBk ν hb;replace HB:=sHb hb;clear hb hbox hg;have gk:=dq.out;have gq:=dp.out;have d5:=dt.out;have d6:=dr.out;have h4:=bh.out;have h5:=bi.out;have av:w8.cell? ⟨an,0,none⟩=some (.int .i64 ζ):=(Qa ν.out 0).trans rfl;have ax:w8.cell? ⟨an,1,none⟩=some (.int .i64 L):=(Qa ν.out 1).trans rfl;have fl:w8.cell? ⟨an,2,none⟩=some (.int .i64 η):=(Qa ν.out 2).trans rfl;have az:=Qb ν.out 0;have b0:=Qb ν.out 1;have fm:=Qb ν.out 2)|((with_reducible refine Qt (N:=8) rfl ?_);refine Qp ?hg (N:=8) ?hd (cs:=#[.int .i64 0,.int .i64 0,.int .i64 0]) (t:=56) ?hr ?_;(case hd=>rfl);(case hg=>rfl);(case hr=>go_simp <;> rfl);intro ai hg ch hbox hb;have δ :=Aside0.mk hbox;have ir:=sGe hg;have it:=sGe hg;have bs:=sNl Y hg;have bv:=sNg Y hg;have bw:=sNl μ hg;have bz:=sNg μ hg;have ci:=sNl ν hg;have cj:=sNg ν hg;have ao:=sNl ξ hg;have a5:=sNg ξ hg;replace Y:=sBk Y hb;replace μ :=sBk μ hb;replace ν :=sBk ν hb;replace ξ :=sBk ξ hb;replace HB:=sHb hb;clear hb hbox hg;have ik:=bv.out;have il:=bs.out;have iz:=bz.out;have j2:=bw.out;have iu:=cj.out;have iv:=ci.out;have dk:=a5.out;have dl:=ao.out;have cb:ch.cell? ⟨ai,0,none⟩=some (.int .i64 0):=(Qa δ.out 0).trans rfl;have cd:ch.cell? ⟨ai,1,none⟩=some (.int .i64 0):=(Qa δ.out 1).trans rfl;have df:ch.cell? ⟨ai,2,none⟩=some (.int .i64 0):=(Qa δ.out 2).trans rfl;have ce:=Qb δ.out 0;have cf:=Qb δ.out 1;have dh:=Qb δ.out 2;have b1:ch.cell? ⟨an,0,none⟩=some (.int .i64 ζ):=(Qa ν.out 0).trans rfl;have b2:ch.cell? ⟨an,1,none⟩=some (.int .i64 L):=(Qa ν.out 1).trans rfl;have cx:ch.cell? ⟨an,2,none⟩=some (.int .i64 η):=(Qa ν.out 2).trans rfl;have b3:=Qb ν.out 0;have b4:=Qb ν.out 1;have cy:=Qb ν.out 2)|((with_reducible refine Qt (N:=9) rfl ?_);refine Qp ?hg (N:=9) ?hd (cs:=#[.int .i64 0,.int .i64 0]) (t:=62) ?hr ?_;(case hd=>rfl);(case hg=>rfl);(case hr=>go_simp <;> rfl);intro σ hg ca hbox hb;have O:=Aside0.mk hbox;have gl:=sGe hg;have gn:=sGe hg;have dw:=Aside0.mk ((by rw[hg];exact Nat.ne_of_lt (Q5 (g:=a2) (o:=.cells #[.int .i64 I,.int .i64 J] 23 (0,0)) (bka Y)):a2≠σ));have dz:=Aside0.mk ((by rw[hg];exact Nat.ne_of_gt (Q5 (g:=a2) (o:=.cells #[.int .i64 I,.int .i64 J] 23 (0,0)) (bka Y)):σ≠a2));have e0:=Aside0.mk ((by rw[hg];exact Nat.ne_of_lt (Q5 (g:=bg) (o:=.cells #[.slice Z B.length U,.slice γ D.length X] 27 (0,0)) (bka μ)):bg≠σ));have e3:=Aside0.mk ((by rw[hg];exact Nat.ne_of_gt (Q5 (g:=bg) (o:=.cells #[.slice Z B.length U,.slice γ D.length X] 27 (0,0)) (bka μ)):σ≠bg));have e4:=Aside0.mk ((by rw[hg];exact Nat.ne_of_lt (Q5 (g:=an) (o:=.cells #[.int .i64 ζ,.int .i64 L,.int .i64 η] 29 (0,0)) (bka ν)):an≠σ));have e5:=Aside0.mk ((by rw[hg];exact Nat.ne_of_gt (Q5 (g:=an) (o:=.cells #[.int .i64 ζ,.int .i64 L,.int .i64 η] 29 (0,0)) (bka ν)):σ≠an));have bj:=Aside0.mk ((by rw[hg];exact Nat.ne_of_lt (Q5 (g:=ρ) (o:=.cells #[.slice none 0 0,.slice none 0 0] 27 (0,0)) (bka ξ)):ρ≠σ));have ak:=Aside0.mk ((by rw[hg];exact Nat.ne_of_gt (Q5 (g:=ρ) (o:=.cells #[.slice none 0 0,.slice none 0 0] 27 (0,0)) (bka ξ)):σ≠ρ));have ap:=Aside0.mk ((by rw[hg];exact Nat.ne_of_lt (Q5 (g:=ai) (o:=.cells #[.int .i64 L,.int .i64 0,.int .i64 (-1)] 56 (0,0)) (by refine Qx (cs:=#[.int .i64 L,.int .i64 0,.int .i64 0]) ?_ 2 _ rfl;refine Qx (cs:=#[.int .i64 L,.int .i64 0,.int .i64 0]) ?_ 1 _ rfl;refine Qx (cs:=#[.int .i64 0,.int .i64 0,.int .i64 0]) ?_ 0 _ rfl;exact δ.out)):ai≠σ));have bk:=Aside0.mk ((by rw[hg];exact Nat.ne_of_gt (Q5 (g:=ai) (o:=.cells #[.int .i64 L,.int .i64 0,.int .i64 (-1)] 56 (0,0)) (by refine Qx (cs:=#[.int .i64 L,.int .i64 0,.int .i64 0]) ?_ 2 _ rfl;refine Qx (cs:=#[.int .i64 L,.int .i64 0,.int .i64 0]) ?_ 1 _ rfl;refine Qx (cs:=#[.int .i64 0,.int .i64 0,.int .i64 0]) ?_ 0 _ rfl;exact δ.out)):σ≠ai));replace Y:=sBk Y hb;replace μ :=sBk μ hb;replace ν :=sBk ν hb;replace ξ :=sBk ξ hb;replace δ :=Aside0.mk (Qn (g:=ai) (o:=.cells #[.int .i64 L,.int .i64 0,.int .i64 (-1)] 56 (0,0)) (by refine Qx (cs:=#[.int .i64 L,.int .i64 0,.int .i64 0]) ?_ 2 _ rfl;refine Qx (cs:=#[.int .i64 L,.int .i64 0,.int .i64 0]) ?_ 1 _ rfl;refine Qx (cs:=#[.int .i64 0,.int .i64 0,.int .i64 0]) ?_ 0 _ rfl;exact δ.out) hb);replace HB:=sHb hb;clear hb hbox hg;have e9:=dz.out;have em:=dw.out;have gm:=e3.out;have h0:=e0.out;have fv:=e5.out;have fw:=e4.out;have eo:=ak.out;have ep:=bj.out;have d7:=bk.out;have d8:=ap.out;have cq:ca.cell? ⟨σ,0,none⟩=some (.int .i64 0):=(Qa O.out 0).trans rfl;have cr:ca.cell? ⟨σ,1,none⟩=some (.int .i64 0):=(Qa O.out 1).trans rfl;have ct:=Qb O.out 0;have cu:=Qb O.out 1;have cz:ca.cell? ⟨an,0,none⟩=some (.int .i64 ζ):=(Qa ν.out 0).trans rfl;have d0:ca.cell? ⟨an,1,none⟩=some (.int .i64 L):=(Qa ν.out 1).trans rfl;have fo:ca.cell? ⟨an,2,none⟩=some (.int .i64 η):=(Qa ν.out 2).trans rfl;have d1:=Qb ν.out 0;have d2:=Qb ν.out 1;have fp:=Qb ν.out 2))
 (try simp only[Act.put,qS])
 go_cut [] (fun wc=>∃ (kq:Nat) (af:Int),Aside0 (call_Press.j0 kq I J B D L af (-1)=some (r1,r2,r3))∧Aside0 (kq≤k)∧Aside0 (wc.heap[a2]?=some (.cells #[.int .i64 I,.int .i64 J] 23 (0,0)))∧Aside0 (wc.heap[bg]?=some (.cells #[(.slice Z B.length U),(.slice γ D.length X)] 27 (0,0)))∧Aside0 (wc.heap[an]?=some (.cells #[.int .i64 ζ,.int .i64 L,.int .i64 η] 29 (0,0)))∧Aside0 (wc.heap[ρ]?=some (.cells #[(.slice none 0 0),(.slice none 0 0)] 27 (0,0)))∧Aside0 (wc.heap[ai]?=some (.cells #[.int .i64 L,.int .i64 af,.int .i64 (-1)] 56 (0,0)))∧Aside0 (wc.heap[σ]?=some (.cells #[.int .i64 η,.int .i64 L] 62 (0,0)))∧Aside0 (Below w.heap.size w wc))
 case first=>
  have H:=g1.out
  clear g1
  by_cases al: ζ = 0
  ·rw[if_pos al] at H
   have c28b0:(ζ == 0)=true:=beq_iff_eq.mpr al
   have c28b1:(ζ != 0)=false:=bne_eq_false_iff_eq.mpr al
   clear al
   (first|rw[c28b0]|(simp only[X5,Ys];rw[c28b0])|skip)
   have H':=Aside0.mk H
   clear H
   have j3:=bv.out
   have j4:=bs.out
   have i1:=bz.out
   have i2:=bw.out
   have jt:=cj.out
   have ju:=ci.out
   have fg:=a5.out
   have fh:=ao.out
   have g8:=ap.out
   have g9:=bk.out
   have ea:ca.cell? ⟨ai,0,none⟩=some (.int .i64 L):=(Qa δ.out 0).trans rfl
   have eb:ca.cell? ⟨ai,1,none⟩=some (.int .i64 0):=(Qa δ.out 1).trans rfl
   have fq:ca.cell? ⟨ai,2,none⟩=some (.int .i64 (-1)):=(Qa δ.out 2).trans rfl
   have ec:=Qb δ.out 0
   have ed:=Qb δ.out 1
   have fr:=Qb δ.out 2
   go_wp2
   go_meet
   case rel=>exact⟨_,(1),H',⟨by first|omega|exact Nat.le_refl _⟩,⟨bka Y⟩,⟨bka μ⟩,⟨bka ν⟩,⟨bka ξ⟩,⟨by(with_reducible repeat(first|refine Qf ?_ _|refine Qc ?_|refine Qg ?_ _));refine Qx (cs:=#[.int .i64 L,.int .i64 0,.int .i64 (-1)]) ?_ 1 _ rfl;(with_reducible repeat(first|refine Qf ?_ _|refine Qc ?_|refine Qg ?_ _));refine Zu ?_ ap.out _;(with_reducible repeat(first|refine Qf ?_ _|refine Qc ?_|refine Qg ?_ _));refine Zu ?_ ap.out _;(with_reducible repeat(first|refine Qf ?_ _|refine Qc ?_|refine Qg ?_ _));exact δ.out⟩,⟨by(with_reducible repeat(first|refine Qf ?_ _|refine Qc ?_|refine Qg ?_ _));refine Zu ?_ bk.out _;(with_reducible repeat(first|refine Qf ?_ _|refine Qc ?_|refine Qg ?_ _));refine Qx (cs:=#[.int .i64 η,.int .i64 0]) ?_ 1 _ rfl;(with_reducible repeat(first|refine Qf ?_ _|refine Qc ?_|refine Qg ?_ _));refine Qx (cs:=#[.int .i64 0,.int .i64 0]) ?_ 0 _ rfl;(with_reducible repeat(first|refine Qf ?_ _|refine Qc ?_|refine Qg ?_ _));exact O.out⟩,⟨bel⟩⟩
  ·rw[if_neg al] at H
   have c28b0:(ζ == 0)=false:=beq_eq_false_iff_ne.mpr al
   have c28b1:(ζ != 0)=true:=bne_iff_ne.mpr al
   (first|rw[c28b0]|(simp only[X5,Ys];rw[c28b0])|skip)
   by_cases d4: ζ = 1
   ·rw[if_pos d4] at H
    have c35b0:(ζ == 1)=true:=beq_iff_eq.mpr d4
    have c35b1:(ζ != 1)=false:=bne_eq_false_iff_eq.mpr d4
    clear d4
    have H':=Aside0.mk H
    clear H
    have er:=bv.out
    have et:=bs.out
    have hu:=bz.out
    have hx:=bw.out
    have g4:=cj.out
    have g5:=ci.out
    have i7:=a5.out
    have i9:=ao.out
    have ez:=ap.out
    have f3:=bk.out
    have cn:ca.cell? ⟨ai,0,none⟩=some (.int .i64 L):=(Qa δ.out 0).trans rfl
    have co:ca.cell? ⟨ai,1,none⟩=some (.int .i64 0):=(Qa δ.out 1).trans rfl
    have ft:ca.cell? ⟨ai,2,none⟩=some (.int .i64 (-1)):=(Qa δ.out 2).trans rfl
    have cp:=Qb δ.out 0
    have cw:=Qb δ.out 1
    have fu:=Qb δ.out 2
    go_wp2
    go_meet
    case rel=>exact⟨_,((-1)),H',⟨by first|omega|exact Nat.le_refl _⟩,⟨bka Y⟩,⟨bka μ⟩,⟨bka ν⟩,⟨bka ξ⟩,⟨by(with_reducible repeat(first|refine Qf ?_ _|refine Qc ?_|refine Qg ?_ _));refine Qx (cs:=#[.int .i64 L,.int .i64 0,.int .i64 (-1)]) ?_ 1 _ rfl;(with_reducible repeat(first|refine Qf ?_ _|refine Qc ?_|refine Qg ?_ _));refine Zu ?_ ap.out _;(with_reducible repeat(first|refine Qf ?_ _|refine Qc ?_|refine Qg ?_ _));refine Zu ?_ ap.out _;(with_reducible repeat(first|refine Qf ?_ _|refine Qc ?_|refine Qg ?_ _));exact δ.out⟩,⟨by(with_reducible repeat(first|refine Qf ?_ _|refine Qc ?_|refine Qg ?_ _));refine Zu ?_ bk.out _;(with_reducible repeat(first|refine Qf ?_ _|refine Qc ?_|refine Qg ?_ _));refine Qx (cs:=#[.int .i64 η,.int .i64 0]) ?_ 1 _ rfl;(with_reducible repeat(first|refine Qf ?_ _|refine Qc ?_|refine Qg ?_ _));refine Qx (cs:=#[.int .i64 0,.int .i64 0]) ?_ 0 _ rfl;(with_reducible repeat(first|refine Qf ?_ _|refine Qc ?_|refine Qg ?_ _));exact O.out⟩,⟨bel⟩⟩
   ·rw[if_neg d4] at H
    have c35b0:(ζ == 1)=false:=beq_eq_false_iff_ne.mpr d4
    have c35b1:(ζ != 1)=true:=bne_iff_ne.mpr d4
    by_cases dy: ζ = 2
    ·rw[if_pos dy] at H
     have c42b0:(ζ == 2)=true:=beq_iff_eq.mpr dy
     have c42b1:(ζ != 2)=false:=bne_eq_false_iff_eq.mpr dy
     clear dy
     replace H:=Option.bind_eq_some_iff.mp H
     obtain⟨φ,g2,H⟩:=H
     replace H:((call_change.f (woP_H.f (-2) 0 0 B) (withP_I.f η L D) k I J B D φ 0 (-2) 0 0 0 η L).bind fun bb=>(some (bb.1,bb.2.1,bb.2.2)))=some (r1,r2,r3):=H
     have ie:=Aside0.mk g2
     clear g2
     replace H:=Option.bind_eq_some_iff.mp H
     obtain⟨⟨dj,ee,bc⟩,d9,H⟩:=H
     replace H:(some (dj,ee,bc))=some (r1,r2,r3):=H
     have da:=Aside0.mk d9
     clear d9
     simp only[Option.some.injEq,Prod.mk.injEq] at H
     obtain⟨rfl,rfl,rfl⟩:=H
     try go_wp2
     have ε :Aside0 (((ca.setCell ⟨σ,0,none⟩ (.int .i64 η)).setCell ⟨σ,1,none⟩ (.int .i64 L)).heap[a2]?=some (.cells #[.int .i64 I,.int .i64 J] 23 (0,0))):=⟨bka Y⟩
     have θ :Aside0 (((ca.setCell ⟨σ,0,none⟩ (.int .i64 η)).setCell ⟨σ,1,none⟩ (.int .i64 L)).heap[bg]?=some (.cells #[.slice Z B.length U,.slice γ D.length X] 27 (0,0))):=⟨bka μ⟩
     have ι :Aside0 (((ca.setCell ⟨σ,0,none⟩ (.int .i64 η)).setCell ⟨σ,1,none⟩ (.int .i64 L)).heap[an]?=some (.cells #[.int .i64 ζ,.int .i64 L,.int .i64 η] 29 (0,0))):=⟨bka ν⟩
     have κ :Aside0 (((ca.setCell ⟨σ,0,none⟩ (.int .i64 η)).setCell ⟨σ,1,none⟩ (.int .i64 L)).heap[ρ]?=some (.cells #[.slice none 0 0,.slice none 0 0] 27 (0,0))):=⟨bka ξ⟩
     have τ :Aside0 (((ca.setCell ⟨σ,0,none⟩ (.int .i64 η)).setCell ⟨σ,1,none⟩ (.int .i64 L)).heap[ai]?=some (.cells #[.int .i64 L,.int .i64 0,.int .i64 (-1)] 56 (0,0))):=⟨bka δ⟩
     have ψ :Aside0 (((ca.setCell ⟨σ,0,none⟩ (.int .i64 η)).setCell ⟨σ,1,none⟩ (.int .i64 L)).heap[σ]?=some (.cells #[.int .i64 η,.int .i64 L] 62 (0,0))):=⟨by refine Qx (cs:=#[.int .i64 η,.int .i64 0]) ?_ 1 _ rfl;refine Qx (cs:=#[.int .i64 0,.int .i64 0]) ?_ 0 _ rfl;exact O.out⟩
     have a1:Aside0 (Below w.heap.size w ((ca.setCell ⟨σ,0,none⟩ (.int .i64 η)).setCell ⟨σ,1,none⟩ (.int .i64 L))):=⟨bel⟩
     (try clear Y)
     (try clear μ)
     (try clear ν)
     (try clear ξ)
     (try clear δ)
     (try clear O)
     (try clear HB)
     generalize((ca.setCell ⟨σ,0,none⟩ (.int .i64 η)).setCell ⟨σ,1,none⟩ (.int .i64 L))=g0 at ε θ ι κ τ ψ a1 ⊢
     have Y:= ε
     have μ := θ
     have ν := ι
     have ξ := κ
     have δ := τ
     have O:= ψ
     have HB:=a1
     clear ε θ ι κ τ ψ a1
     replace Y:=Aside0.mk (Qc Y.out)
     replace μ :=Aside0.mk (Qc μ.out)
     replace ν :=Aside0.mk (Qc ν.out)
     replace ξ :=Aside0.mk (Qc ξ.out)
     replace δ :=Aside0.mk (Qc δ.out)
     replace O:=Aside0.mk (Qc O.out)
     replace HB:=Aside0.mk (Qh HB.out)
     refine Zv (n:=19) (S:=fun w'=>w'.cell? ⟨a2,0,none⟩=some (.int .i64 I)∧w'.cell? ⟨a2,1,none⟩=some (.int .i64 J)∧w'.cell? ⟨bg,0,none⟩=some (.slice Z B.length U)∧w'.cell? ⟨bg,1,none⟩=some (.slice γ D.length X)∧w'.cell? ⟨σ,0,none⟩=some (.int .i64 η)∧w'.cell? ⟨σ,1,none⟩=some (.int .i64 L)) (ds:=[]) #[false,false,false,false,false,false,false,false,false,false,false,false,false,false,false,false,false,false,false] kr rfl rfl ⟨(Qa Y.out 0).trans rfl,(Qa Y.out 1).trans rfl,(Qa μ.out 0).trans rfl,(Qa μ.out 1).trans rfl,(Qa O.out 0).trans rfl,(Qa O.out 1).trans rfl⟩ (fun hHeld=>?_);refine Q8 call_Press.tab9 call_Press.bits9 (fun HT_ HW_=>?_)
     generalize g0.drew=gs at Y μ ν ξ δ O HB hHeld ⊢
     refine qP 9 (some 37) (bN 19 512) HT_ ?_
     refine qT 0 (some 28) (bN 19 513) HT_ HW_ hHeld ?_
     refine qT 1 (some 29) (bN 19 515) HT_ HW_ hHeld ?_
     refine qT 2 (some 30) (bN 19 519) HT_ HW_ hHeld ?_
     refine qT 4 (some 32) (bN 19 535) HT_ HW_ hHeld ?_
     refine qT 6 (some 34) (bN 19 599) HT_ HW_ hHeld ?_
     refine qT 10 (some 38) (bN 19 1623) HT_ HW_ hHeld ?_
     refine qT 13 (some 41) (bN 19 9815) HT_ HW_ hHeld ?_
     refine Zm (i:=3) (N:=some 31) (bN 19 9823) rfl rfl (Q3 HT_.out kr) (by decide) (fun K hK=>?_)
     refine Zg Try.func29 kr rfl #[.agg #[.int .i64 I,.int .i64 J]] (by rfl) rfl rfl (by(try simp only[List.map_toArray,List.map_cons,List.map_nil]);first|done|rfl) ?_
     refine(Y9 I J _).mono ?_
     rintro e e6 ⟨ba,rfl,hgp,hgw,hb⟩
     have br:=Aside0.mk hgp
     clear hgp hgw
     refine⟨_,rfl, ?_⟩
     replace Y:=sBk Y hb
     replace μ :=sBk μ hb
     replace ν :=sBk ν hb
     replace ξ :=sBk ξ hb
     replace δ :=sBk δ hb
     replace O:=sBk O hb
     replace HB:=sHb hb
     (try clear hb)
     (try clear a4)
     (try clear hk)
     (try clear hi)
     refine hK.out _ _ ⟨(Qa Y.out 0).trans rfl,(Qa Y.out 1).trans rfl,(Qa μ.out 0).trans rfl,(Qa μ.out 1).trans rfl,(Qa O.out 0).trans rfl,(Qa O.out 1).trans rfl⟩ (fun hHeld=>?_)
     clear hK K
     refine qN (some 31) ?_
     refine Zm (i:=5) (N:=some 33) (bN 19 9855) rfl rfl (Q3 HT_.out kr) (by decide) (fun K hK=>?_)
     refine Xm Try.func50 kr rfl #[] #[.pointer (some ⟨ba,0,none⟩)] #[.agg #[.int .i64 η,.int .i64 L]] #[.agg #[.int .i64 η,.int .i64 L],.pointer (some ⟨ba,0,none⟩)] rfl (by rfl) rfl rfl rfl (by simp only[List.map_toArray,List.map_cons,List.map_nil] <;> rfl) ?_
     refine(Yv I J η L φ _ (Option.some.inj ie.out) ba br.out).mono ?_
     rintro e du ⟨rfl,hb⟩
     refine⟨_,rfl, ?_⟩
     replace Y:=sBk Y hb
     replace μ :=sBk μ hb
     replace ν :=sBk ν hb
     replace ξ :=sBk ξ hb
     replace δ :=sBk δ hb
     replace O:=sBk O hb
     replace HB:=sHb hb
     (try clear hb)
     (try clear a4)
     (try clear hk)
     (try clear hi)
     refine hK.out _ _ ⟨(Qa Y.out 0).trans rfl,(Qa Y.out 1).trans rfl,(Qa μ.out 0).trans rfl,(Qa μ.out 1).trans rfl,(Qa O.out 0).trans rfl,(Qa O.out 1).trans rfl⟩ (fun hHeld=>?_)
     clear hK K
     refine qN (some 33) ?_
     refine Zm (i:=7) (N:=some 35) (bN 19 9983) rfl rfl (Q3 HT_.out kr) (by decide) (fun K hK=>?_)
     refine Zg Try.func30 kr rfl #[.agg #[.slice Z B.length U,.slice γ D.length X]] (by rfl) rfl rfl (by(try simp only[List.map_toArray,List.map_cons,List.map_nil]);first|done|rfl) ?_
     refine(Yb Z γ B.length D.length U X _).mono ?_
     rintro e e7 ⟨rfl,hb⟩
     refine⟨_,rfl, ?_⟩
     replace Y:=sBk Y hb
     replace μ :=sBk μ hb
     replace ν :=sBk ν hb
     replace ξ :=sBk ξ hb
     replace δ :=sBk δ hb
     replace O:=sBk O hb
     replace HB:=sHb hb
     (try clear hb)
     (try clear a4)
     (try clear hk)
     (try clear hi)
     refine hK.out _ _ ⟨(Qa Y.out 0).trans rfl,(Qa Y.out 1).trans rfl,(Qa μ.out 0).trans rfl,(Qa μ.out 1).trans rfl,(Qa O.out 0).trans rfl,(Qa O.out 1).trans rfl⟩ (fun hHeld=>?_)
     clear hK K
     refine qN (some 35) ?_
     refine qP 8 (some 36) (bN 19 10239) HT_ ?_
     refine Zm (i:=11) (N:=some 39) (bN 19 12287) rfl rfl (Q3 HT_.out kr) (by decide) (fun K hK=>?_)
     refine Zg Try.func32 kr rfl #[.agg #[.slice Z B.length U,.slice γ D.length X]] (by rfl) rfl rfl (by(try simp only[List.map_toArray,List.map_cons,List.map_nil]);first|done|rfl) ?_
     refine(Yi Z γ B.length D.length U X _).mono ?_
     rintro e e8 ⟨rfl,hb⟩
     refine⟨_,rfl, ?_⟩
     replace Y:=sBk Y hb
     replace μ :=sBk μ hb
     replace ν :=sBk ν hb
     replace ξ :=sBk ξ hb
     replace δ :=sBk δ hb
     replace O:=sBk O hb
     replace HB:=sHb hb
     (try clear hb)
     (try clear a4)
     (try clear hk)
     (try clear hi)
     refine hK.out _ _ ⟨(Qa Y.out 0).trans rfl,(Qa Y.out 1).trans rfl,(Qa μ.out 0).trans rfl,(Qa μ.out 1).trans rfl,(Qa O.out 0).trans rfl,(Qa O.out 1).trans rfl⟩ (fun hHeld=>?_)
     clear hK K
     refine qN (some 39) ?_
     refine qP 12 (some 40) (bN 19 16383) HT_ ?_
     refine Zm (i:=14) (N:=some 42) (bN 19 32767) rfl rfl (Q3 HT_.out kr) (by decide) (fun K hK=>?_)
     refine Zg Try.func28 kr rfl #[.agg #[.int .i64 I,.int .i64 J],.agg #[.slice Z B.length U,.slice γ D.length X],.bool φ,.func (.func 31) #[.agg #[.slice Z B.length U,.func (.func 51) #[] #[]]] #[],.agg #[.int .i64 (-2),.int .i64 0,.int .i64 0],.func (.func 33) #[.agg #[.slice γ D.length X,.func (.func 57) #[] #[]]] #[],.agg #[.int .i64 η,.int .i64 L]] (by rfl) rfl rfl (by simp only[List.map_toArray,List.map_cons,List.map_nil] <;> rfl) ?_
     refine(call_change.calls _ _ k I J Z U B γ X D φ 0 (-2) 0 0 0 η L dj ee bc _ ?side1 ?side2 ?side3 ?side4 da.out 31 Try.f31 (.agg #[.slice Z B.length U,.func (.func 51) #[] #[]]) Try.func31 kr rfl (fun W t ht hb=>Ju Z U B _ _ _ t W (Kd.Qz (Kd.Qz ag.out (by repeat(first|(with_reducible first|exact HB.out|apply Qj|apply Qd|apply Qh)|exact HB.out|(refine Qe ?_ (Aside0.out (by assumption)))))) hb) ar.out ht) 33 Try.f33 (.agg #[.slice γ D.length X,.func (.func 57) #[] #[]]) Try.func33 kr rfl (fun W t ht hb=>G4 γ X D _ _ t W (Kd.Qz (Kd.Qz ah.out (by repeat(first|(with_reducible first|exact HB.out|apply Qj|apply Qd|apply Qh)|exact HB.out|(refine Qe ?_ (Aside0.out (by assumption)))))) hb) aw.out ht)).mono ?_
     (case side1=>exact(Kd.Qz ag.out HB.out))
     (case side2=>exact ar.out)
     (case side3=>exact(Kd.Qz ah.out HB.out))
     (case side4=>exact aw.out)
     rintro e fn ⟨iy,j5,rfl,χ,a7,hb⟩
     refine⟨_,rfl, ?_⟩
     have cm:=Aside0.mk (Kd.Q4 (Kd.Zy χ (g:=ai) (o:=.cells #[.int .i64 L,.int .i64 0,.int .i64 (-1)] 56 (0,0)) δ.out) (Qk HB.out))
     have eg:=Aside0.mk (Kd.Q4 (Kd.Zy a7 (g:=σ) (o:=.cells #[.int .i64 η,.int .i64 L] 62 (0,0)) O.out) (Qk HB.out))
     replace Y:=sBk Y hb
     replace μ :=sBk μ hb
     replace ν :=sBk ν hb
     replace ξ :=sBk ξ hb
     replace δ :=sBk δ hb
     replace O:=sBk O hb
     replace HB:=sHb hb
     (try clear hb)
     (try clear a4)
     (try clear hk)
     (try clear hi)
     (try clear χ)
     (try clear a7)
     obtain⟨dc,dd,de⟩:=Kd.Q6 cm.out
     (first|subst de|(injection de with ω ab a0;have ac:= ω.symm;have ae:=a0.symm;clear ω ab a0;subst ac;subst ae))
     obtain⟨f4,f7,dv⟩:=Kd.Q6 eg.out
     (first|subst dv|(injection dv with ω ab a0;have ac:= ω.symm;have ae:=a0.symm;clear ω ab a0;subst ac;subst ae))
     refine hK.out _ _ ⟨(Qa Y.out 0).trans rfl,(Qa Y.out 1).trans rfl,(Qa μ.out 0).trans rfl,(Qa μ.out 1).trans rfl,(Qa O.out 0).trans rfl,(Qa O.out 1).trans rfl⟩ (fun hHeld=>?_)
     clear hK K
     refine qN (some 42) ?_
     refine qP 15 (some 43) (bN 19 65535) HT_ ?_
     refine qP 16 (some 44) (bN 19 131071) HT_ ?_
     refine Zm (i:=17) (N:=none) (bN 19 262143) rfl rfl (Q3 HT_.out kr) (by decide) (fun K hK=>?_)
     have gr:fn.cell? ⟨ρ,0,none⟩=some (.slice none 0 0):=(Qa ξ.out 0).trans rfl
     have gf:=Qb ξ.out 0
     have ej:=a9.out
     have ek:=aa.out
     have el:=bh.out
     have en:=a5.out
     have gu:=ak.out
     have eu:=bl.out
     have ev:=bm.out
     have ew:=bi.out
     have ey:=ao.out
     have gv:=bj.out
     have gt:fn.cell? ⟨ρ,1,none⟩=some (.slice none 0 0):=(Qa ξ.out 1).trans rfl
     have gg:=Qb ξ.out 1
     have f8:=a9.out
     have f9:=aa.out
     have fa:=bh.out
     have fc:=a5.out
     have gw:=ak.out
     have fe:=bl.out
     have ff:=bm.out
     have fj:=bi.out
     have fk:=ao.out
     have gx:=bj.out
     refine Js (w1:=?_) (by rfl) rfl ?_ ?_
     rotate_left
     ·go_simp
      rfl
     refine hK.out _ _ ⟨((cell_far (p:=⟨ρ,_,none⟩) a9.out _).trans (((cell_far (p:=⟨ρ,_,none⟩) a9.out _).trans (hHeld.1)))),((cell_far (p:=⟨ρ,_,none⟩) a9.out _).trans (((cell_far (p:=⟨ρ,_,none⟩) a9.out _).trans (hHeld.2.1)))),((cell_far (p:=⟨ρ,_,none⟩) aa.out _).trans (((cell_far (p:=⟨ρ,_,none⟩) aa.out _).trans (hHeld.2.2.1)))),((cell_far (p:=⟨ρ,_,none⟩) aa.out _).trans (((cell_far (p:=⟨ρ,_,none⟩) aa.out _).trans (hHeld.2.2.2.1)))),((cell_far (p:=⟨ρ,_,none⟩) ak.out _).trans (((cell_far (p:=⟨ρ,_,none⟩) ak.out _).trans (hHeld.2.2.2.2.1)))),((cell_far (p:=⟨ρ,_,none⟩) ak.out _).trans (((cell_far (p:=⟨ρ,_,none⟩) ak.out _).trans (hHeld.2.2.2.2.2))))⟩ (fun hHeld=>?_)
     clear hK K
     refine qP 18 (some 7) (bN 19 524287) HT_ ?_
     refine Z0 (Zp HT_.out kr) ?_
     try go_wp2
     refine bodyPost_ret (Xi rfl _ _ ρ 27 #[.slice dc dj.length dd,.slice f4 ee.length f7] (0,0) _ rfl (by refine Qx (cs:=#[.slice dc dj.length dd,.slice none 0 0]) ?_ 1 _ rfl;refine Qx (cs:=#[.slice none 0 0,.slice none 0 0]) ?_ 0 _ rfl;exact ξ.out) Try.underlying27 rfl kr) rfl ?_
     exact⟨_,_,by first|rfl|(simp[Q1,Q0] <;> rfl)|(simp[*,Q1,Q0] <;> rfl),by(with_reducible repeat(first|apply Kd.Qm|apply Kd.Ql|apply Kd.Qo));exact Kd.Qs (Kd.Qu (Kd.Qu (Kd.Qy cm.out ξ.out (by decide)) (fun _ hk=>hk.2) _) (fun _ hk=>hk.2) _) (fun _ hk=>trivial),by(with_reducible repeat(first|apply Kd.Qm|apply Kd.Ql|apply Kd.Qo));exact Kd.Qs (Kd.Qu (Kd.Qu (Kd.Qy eg.out ξ.out (by decide)) (fun _ hk=>hk.2) _) (fun _ hk=>hk.2) _) (fun _ hk=>trivial),bel⟩
    ·rw[if_neg dy] at H
     have c42b0:(ζ == 2)=false:=beq_eq_false_iff_ne.mpr dy
     have c42b1:(ζ != 2)=true:=bne_iff_ne.mpr dy
     have H':=Aside0.mk H
     clear H
     go_wp2
     go_meet
     case rel=>exact⟨_,(0),H',⟨by first|omega|exact Nat.le_refl _⟩,⟨bka Y⟩,⟨bka μ⟩,⟨bka ν⟩,⟨bka ξ⟩,⟨bka δ⟩,⟨by(with_reducible repeat(first|refine Qf ?_ _|refine Qc ?_|refine Qg ?_ _));refine Qx (cs:=#[.int .i64 η,.int .i64 0]) ?_ 1 _ rfl;(with_reducible repeat(first|refine Qf ?_ _|refine Qc ?_|refine Qg ?_ _));refine Qx (cs:=#[.int .i64 0,.int .i64 0]) ?_ 0 _ rfl;(with_reducible repeat(first|refine Qf ?_ _|refine Qc ?_|refine Qg ?_ _));exact O.out⟩,⟨bel⟩⟩
 case rest=>
  clear g1
  try clear c1
  try clear c2
  try clear p2
  try clear c3
  try clear c4
  try clear c5
  try clear c9
  try clear c10
  try clear cg
  try clear ay
  try clear a8
  try clear a3
  try clear au
  try clear cv
  try clear kg
  try clear ja
  try clear ic
  try clear bd
  try clear al
  try clear c28b0
  try clear c28b1
  try clear ck
  try clear mf
  try clear nb
  try clear k7
  try clear l7
  try clear d4
  try clear c35b0
  try clear c35b1
  try clear ke
  try clear fb
  try clear kf
  try clear mg
  try clear l6
  try clear dy
  try clear c42b0
  try clear c42b1
  try clear nf
  try clear av
  try clear ax
  try clear fl
  try clear cb
  try clear cd
  try clear df
  try clear b1
  try clear b2
  try clear cx
  try clear cq
  try clear cr
  try clear cz
  try clear d0
  try clear fo
  try clear ea
  try clear eb
  try clear fq
  try clear cn
  try clear co
  try clear ft
  try clear az
  try clear b0
  try clear fm
  try clear ce
  try clear cf
  try clear dh
  try clear b3
  try clear b4
  try clear cy
  try clear ct
  try clear cu
  try clear d1
  try clear d2
  try clear fp
  try clear ec
  try clear ed
  try clear fr
  try clear cp
  try clear cw
  try clear fu
  obtain⟨kq,af,HA,jb,Y,μ,ν,ξ,δ,O,HB⟩:=hcut
  cases kq with
  |zero=>exact absurd HA.out (by simp[call_Press.j0])
  |succ gj=>
   have H:=HA.out
   clear HA
   simp only[call_Press.j0] at H
   replace H:=Option.bind_eq_some_iff.mp H
   obtain⟨aj,g3,H⟩:=H
   replace H:((call_change.f (withP_H.f L af (-1) B) (woP_I.f (-2) 0 D) gj I J B D aj 0 L af (-1) 0 (-2) 0).bind fun bn=>(some (bn.1,bn.2.1,bn.2.2)))=some (r1,r2,r3):=H
   have ig:=Aside0.mk g3
   clear g3
   replace H:=Option.bind_eq_some_iff.mp H
   obtain⟨⟨dm,ef,g6⟩,g7,H⟩:=H
   replace H:(some (dm,ef,g6))=some (r1,r2,r3):=H
   have ih:=Aside0.mk g7
   clear g7
   simp only[Option.some.injEq,Prod.mk.injEq] at H
   obtain⟨rfl,rfl,rfl⟩:=H
   try go_wp2
   replace Y:=Aside0.mk (Qc Y.out)
   replace μ :=Aside0.mk (Qc μ.out)
   replace ν :=Aside0.mk (Qc ν.out)
   replace ξ :=Aside0.mk (Qc ξ.out)
   replace δ :=Aside0.mk (Qc δ.out)
   replace O:=Aside0.mk (Qc O.out)
   replace HB:=Aside0.mk (Qh HB.out)
   refine Zv (n:=19) (S:=fun w'=>w'.cell? ⟨a2,0,none⟩=some (.int .i64 I)∧w'.cell? ⟨a2,1,none⟩=some (.int .i64 J)∧w'.cell? ⟨bg,0,none⟩=some (.slice Z B.length U)∧w'.cell? ⟨bg,1,none⟩=some (.slice γ D.length X)∧w'.cell? ⟨ai,0,none⟩=some (.int .i64 L)∧w'.cell? ⟨ai,1,none⟩=some (.int .i64 af)∧w'.cell? ⟨ai,2,none⟩=some (.int .i64 (-1))) (ds:=[]) #[false,false,false,false,false,false,false,false,false,false,false,false,false,false,false,false,false,false,false] kr rfl rfl ⟨(Qa Y.out 0).trans rfl,(Qa Y.out 1).trans rfl,(Qa μ.out 0).trans rfl,(Qa μ.out 1).trans rfl,(Qa δ.out 0).trans rfl,(Qa δ.out 1).trans rfl,(Qa δ.out 2).trans rfl⟩ (fun hHeld=>?_);refine Q8 call_Press.tab10 call_Press.N1 (fun HT_ HW_=>?_)
   generalize wc.drew=fi at Y μ ν ξ δ O HB hHeld ⊢
   refine qP 13 (some 58) (bN 19 8192) HT_ ?_
   refine qT 0 (some 45) (bN 19 8193) HT_ HW_ hHeld ?_
   refine qT 1 (some 46) (bN 19 8195) HT_ HW_ hHeld ?_
   refine qT 2 (some 47) (bN 19 8199) HT_ HW_ hHeld ?_
   refine qT 4 (some 49) (bN 19 8215) HT_ HW_ hHeld ?_
   refine qT 6 (some 51) (bN 19 8279) HT_ HW_ hHeld ?_
   refine qT 9 (some 54) (bN 19 8791) HT_ HW_ hHeld ?_
   refine qT 10 (some 55) (bN 19 9815) HT_ HW_ hHeld ?_
   refine Zm (i:=3) (N:=some 48) (bN 19 9823) rfl rfl (Q3 HT_.out kr) (by decide) (fun K hK=>?_)
   refine Zg Try.func34 kr rfl #[.agg #[.int .i64 I,.int .i64 J]] (by rfl) rfl rfl (by(try simp only[List.map_toArray,List.map_cons,List.map_nil]);first|done|rfl) ?_
   refine(Ja I J _).mono ?_
   rintro e fx ⟨bf,rfl,hgp,hgw,hb⟩
   have bq:=Aside0.mk hgp
   clear hgp hgw
   refine⟨_,rfl, ?_⟩
   replace Y:=sBk Y hb
   replace μ :=sBk μ hb
   replace ν :=sBk ν hb
   replace ξ :=sBk ξ hb
   replace δ :=sBk δ hb
   replace O:=sBk O hb
   replace HB:=sHb hb
   (try clear hb)
   (try clear a4)
   (try clear hk)
   (try clear hi)
   refine hK.out _ _ ⟨(Qa Y.out 0).trans rfl,(Qa Y.out 1).trans rfl,(Qa μ.out 0).trans rfl,(Qa μ.out 1).trans rfl,(Qa δ.out 0).trans rfl,(Qa δ.out 1).trans rfl,(Qa δ.out 2).trans rfl⟩ (fun hHeld=>?_)
   clear hK K
   refine qN (some 48) ?_
   refine Zm (i:=5) (N:=some 50) (bN 19 9855) rfl rfl (Q3 HT_.out kr) (by decide) (fun K hK=>?_)
   refine Xm Try.func61 kr rfl #[] #[.pointer (some ⟨bf,0,none⟩)] #[.agg #[.int .i64 L,.int .i64 af,.int .i64 (-1)]] #[.agg #[.int .i64 L,.int .i64 af,.int .i64 (-1)],.pointer (some ⟨bf,0,none⟩)] rfl (by rfl) rfl rfl rfl (by simp only[List.map_toArray,List.map_cons,List.map_nil] <;> rfl) ?_
   refine(Ke I J L af (-1) aj _ (Option.some.inj ig.out) bf bq.out).mono ?_
   rintro e gp ⟨rfl,hb⟩
   refine⟨_,rfl, ?_⟩
   replace Y:=sBk Y hb
   replace μ :=sBk μ hb
   replace ν :=sBk ν hb
   replace ξ :=sBk ξ hb
   replace δ :=sBk δ hb
   replace O:=sBk O hb
   replace HB:=sHb hb
   (try clear hb)
   (try clear a4)
   (try clear hk)
   (try clear hi)
   refine hK.out _ _ ⟨(Qa Y.out 0).trans rfl,(Qa Y.out 1).trans rfl,(Qa μ.out 0).trans rfl,(Qa μ.out 1).trans rfl,(Qa δ.out 0).trans rfl,(Qa δ.out 1).trans rfl,(Qa δ.out 2).trans rfl⟩ (fun hHeld=>?_)
   clear hK K
   refine qN (some 50) ?_
   refine Zm (i:=7) (N:=some 52) (bN 19 9983) rfl rfl (Q3 HT_.out kr) (by decide) (fun K hK=>?_)
   refine Zg Try.func30 kr rfl #[.agg #[.slice Z B.length U,.slice γ D.length X]] (by rfl) rfl rfl (by(try simp only[List.map_toArray,List.map_cons,List.map_nil]);first|done|rfl) ?_
   refine(Yb Z γ B.length D.length U X _).mono ?_
   rintro e fy ⟨rfl,hb⟩
   refine⟨_,rfl, ?_⟩
   replace Y:=sBk Y hb
   replace μ :=sBk μ hb
   replace ν :=sBk ν hb
   replace ξ :=sBk ξ hb
   replace δ :=sBk δ hb
   replace O:=sBk O hb
   replace HB:=sHb hb
   (try clear hb)
   (try clear a4)
   (try clear hk)
   (try clear hi)
   refine hK.out _ _ ⟨(Qa Y.out 0).trans rfl,(Qa Y.out 1).trans rfl,(Qa μ.out 0).trans rfl,(Qa μ.out 1).trans rfl,(Qa δ.out 0).trans rfl,(Qa δ.out 1).trans rfl,(Qa δ.out 2).trans rfl⟩ (fun hHeld=>?_)
   clear hK K
   refine qN (some 52) ?_
   refine qP 8 (some 53) (bN 19 10239) HT_ ?_
   refine Zm (i:=11) (N:=some 56) (bN 19 12287) rfl rfl (Q3 HT_.out kr) (by decide) (fun K hK=>?_)
   refine Zg Try.func32 kr rfl #[.agg #[.slice Z B.length U,.slice γ D.length X]] (by rfl) rfl rfl (by(try simp only[List.map_toArray,List.map_cons,List.map_nil]);first|done|rfl) ?_
   refine(Yi Z γ B.length D.length U X _).mono ?_
   rintro e fz ⟨rfl,hb⟩
   refine⟨_,rfl, ?_⟩
   replace Y:=sBk Y hb
   replace μ :=sBk μ hb
   replace ν :=sBk ν hb
   replace ξ :=sBk ξ hb
   replace δ :=sBk δ hb
   replace O:=sBk O hb
   replace HB:=sHb hb
   (try clear hb)
   (try clear a4)
   (try clear hk)
   (try clear hi)
   refine hK.out _ _ ⟨(Qa Y.out 0).trans rfl,(Qa Y.out 1).trans rfl,(Qa μ.out 0).trans rfl,(Qa μ.out 1).trans rfl,(Qa δ.out 0).trans rfl,(Qa δ.out 1).trans rfl,(Qa δ.out 2).trans rfl⟩ (fun hHeld=>?_)
   clear hK K
   refine qN (some 56) ?_
   refine qP 12 (some 57) (bN 19 16383) HT_ ?_
   refine Zm (i:=14) (N:=some 59) (bN 19 32767) rfl rfl (Q3 HT_.out kr) (by decide) (fun K hK=>?_)
   refine Zg Try.func28 kr rfl #[.agg #[.int .i64 I,.int .i64 J],.agg #[.slice Z B.length U,.slice γ D.length X],.bool aj,.func (.func 35) #[.agg #[.slice Z B.length U,.func (.func 51) #[] #[]]] #[],.agg #[.int .i64 L,.int .i64 af,.int .i64 (-1)],.func (.func 36) #[.agg #[.slice γ D.length X,.func (.func 57) #[] #[]]] #[],.agg #[.int .i64 (-2),.int .i64 0]] (by rfl) rfl rfl (by simp only[List.map_toArray,List.map_cons,List.map_nil] <;> rfl) ?_
   refine(call_change.calls _ _ gj I J Z U B γ X D aj 0 L af (-1) 0 (-2) 0 dm ef g6 _ ?side1 ?side2 ?side3 ?side4 ih.out 35 Try.f35 (.agg #[.slice Z B.length U,.func (.func 51) #[] #[]]) Try.func35 kr rfl (fun W t ht hb=>G5 Z U B _ _ _ t W (Kd.Qz (Kd.Qz ag.out (by repeat(first|(with_reducible first|exact HB.out|apply Qj|apply Qd|apply Qh)|exact HB.out|(refine Qe ?_ (Aside0.out (by assumption)))))) hb) ar.out ht) 36 Try.f36 (.agg #[.slice γ D.length X,.func (.func 57) #[] #[]]) Try.func36 kr rfl (fun W t ht hb=>Y5 γ X D _ _ t W (Kd.Qz (Kd.Qz ah.out (by repeat(first|(with_reducible first|exact HB.out|apply Qj|apply Qd|apply Qh)|exact HB.out|(refine Qe ?_ (Aside0.out (by assumption)))))) hb) aw.out ht)).mono ?_
   (case side1=>exact(Kd.Qz ag.out HB.out))
   (case side2=>exact ar.out)
   (case side3=>exact(Kd.Qz ah.out HB.out))
   (case side4=>exact aw.out)
   rintro e d3 ⟨j6,j7,rfl,χ,a7,hb⟩
   refine⟨_,rfl, ?_⟩
   have eh:=Aside0.mk (Kd.Q4 (Kd.Zy χ (g:=ai) (o:=.cells #[.int .i64 L,.int .i64 af,.int .i64 (-1)] 56 (0,0)) δ.out) (Qk HB.out))
   have ei:=Aside0.mk (Kd.Q4 (Kd.Zy a7 (g:=σ) (o:=.cells #[.int .i64 η,.int .i64 L] 62 (0,0)) O.out) (Qk HB.out))
   replace Y:=sBk Y hb
   replace μ :=sBk μ hb
   replace ν :=sBk ν hb
   replace ξ :=sBk ξ hb
   replace δ :=sBk δ hb
   replace O:=sBk O hb
   replace HB:=sHb hb
   (try clear hb)
   (try clear a4)
   (try clear hk)
   (try clear hi)
   (try clear χ)
   (try clear a7)
   obtain⟨ga,gb,ge⟩:=Kd.Q6 eh.out
   (first|subst ge|(injection ge with ω ab a0;have ac:= ω.symm;have ae:=a0.symm;clear ω ab a0;subst ac;subst ae))
   obtain⟨bo,bp,dn⟩:=Kd.Q6 ei.out
   (first|subst dn|(injection dn with ω ab a0;have ac:= ω.symm;have ae:=a0.symm;clear ω ab a0;subst ac;subst ae))
   refine hK.out _ _ ⟨(Qa Y.out 0).trans rfl,(Qa Y.out 1).trans rfl,(Qa μ.out 0).trans rfl,(Qa μ.out 1).trans rfl,(Qa δ.out 0).trans rfl,(Qa δ.out 1).trans rfl,(Qa δ.out 2).trans rfl⟩ (fun hHeld=>?_)
   clear hK K
   refine qN (some 59) ?_
   refine qP 15 (some 60) (bN 19 65535) HT_ ?_
   refine qP 16 (some 61) (bN 19 131071) HT_ ?_
   refine Zm (i:=17) (N:=none) (bN 19 262143) rfl rfl (Q3 HT_.out kr) (by decide) (fun K hK=>?_)
   have j8:d3.cell? ⟨ρ,0,none⟩=some (.slice none 0 0):=(Qa ξ.out 0).trans rfl
   have iw:=Qb ξ.out 0
   have gy:=a9.out
   have gz:=aa.out
   have h6:=bh.out
   have h7:=a5.out
   have h8:=ak.out
   have h9:=bl.out
   have ha:=bm.out
   have he:=bi.out
   have hh:=ao.out
   have hj:=bj.out
   have j9:d3.cell? ⟨ρ,1,none⟩=some (.slice none 0 0):=(Qa ξ.out 1).trans rfl
   have ix:=Qb ξ.out 1
   have hl:=a9.out
   have ho:=aa.out
   have hy:=bh.out
   have i0:=a5.out
   have i3:=ak.out
   have i4:=bl.out
   have i5:=bm.out
   have i6:=bi.out
   have ia:=ao.out
   have ib:=bj.out
   refine Js (w1:=?_) (by rfl) rfl ?_ ?_
   rotate_left
   ·go_simp
    rfl
   refine hK.out _ _ ⟨((cell_far (p:=⟨ρ,_,none⟩) a9.out _).trans (((cell_far (p:=⟨ρ,_,none⟩) a9.out _).trans (hHeld.1)))),((cell_far (p:=⟨ρ,_,none⟩) a9.out _).trans (((cell_far (p:=⟨ρ,_,none⟩) a9.out _).trans (hHeld.2.1)))),((cell_far (p:=⟨ρ,_,none⟩) aa.out _).trans (((cell_far (p:=⟨ρ,_,none⟩) aa.out _).trans (hHeld.2.2.1)))),((cell_far (p:=⟨ρ,_,none⟩) aa.out _).trans (((cell_far (p:=⟨ρ,_,none⟩) aa.out _).trans (hHeld.2.2.2.1)))),((cell_far (p:=⟨ρ,_,none⟩) a5.out _).trans (((cell_far (p:=⟨ρ,_,none⟩) a5.out _).trans (hHeld.2.2.2.2.1)))),((cell_far (p:=⟨ρ,_,none⟩) a5.out _).trans (((cell_far (p:=⟨ρ,_,none⟩) a5.out _).trans (hHeld.2.2.2.2.2.1)))),((cell_far (p:=⟨ρ,_,none⟩) a5.out _).trans (((cell_far (p:=⟨ρ,_,none⟩) a5.out _).trans (hHeld.2.2.2.2.2.2))))⟩ (fun hHeld=>?_)
   clear hK K
   refine qP 18 (some 7) (bN 19 524287) HT_ ?_
   refine Z0 (Zp HT_.out kr) ?_
   try go_wp2
   refine bodyPost_ret (Xi rfl _ _ ρ 27 #[.slice ga dm.length gb,.slice bo ef.length bp] (0,0) _ rfl (by refine Qx (cs:=#[.slice ga dm.length gb,.slice none 0 0]) ?_ 1 _ rfl;refine Qx (cs:=#[.slice none 0 0,.slice none 0 0]) ?_ 0 _ rfl;exact ξ.out) Try.underlying27 rfl kr) rfl ?_
   exact⟨_,_,by first|rfl|(simp[Q1,Q0] <;> rfl)|(simp[*,Q1,Q0] <;> rfl),by(with_reducible repeat(first|apply Kd.Qm|apply Kd.Ql|apply Kd.Qo));exact Kd.Qs (Kd.Qu (Kd.Qu (Kd.Qy eh.out ξ.out (by decide)) (fun _ hk=>hk.2) _) (fun _ hk=>hk.2) _) (fun _ hk=>trivial),by(with_reducible repeat(first|apply Kd.Qm|apply Kd.Ql|apply Kd.Qo));exact Kd.Qs (Kd.Qu (Kd.Qu (Kd.Qy ei.out ξ.out (by decide)) (fun _ hk=>hk.2) _) (fun _ hk=>hk.2) _) (fun _ hk=>trivial),bel⟩
end Go.Proofs.Ytjehhhlhalkieaa.C
namespace Go.Proofs.Ytjehhhlhalkieaa.Call
open Go.RowKit Go.Proofs.YtjehhhlhalkieaaW.PrintWords Go.Proofs.YtjehhhlhalkieaaW.PrintLast Go.Proofs.YtjehhhlhalkieaaW.PrintMore Go.Proofs.Ytjehhhlhalkieaa.C
set_option linter.unusedVariables false
set_option linter.unusedSimpArgs false
abbrev Hall:=S56
abbrev Ins:=S62
def i64 (x:Int):Prop:= -9223372036854775808≤x∧x≤9223372036854775807
theorem Vb (a lo hi:Int):call_within.f a lo hi=some (decide (lo≤a∧a≤hi)):=by
  unfold call_within.f
  by_cases h:lo≤a <;> simp[h]
def okB (F C:Int) (H:List Hall) (I:List Ins):Bool:=decide (2≤F∧F≤64)&&(decide (1≤C∧C≤8)&&(Zw (fun x=>Xp F C x.f0 x.f1 x.f2) ltH none H&&Zw (fun x=>Y0 F C x.f0 x.f1) ltI none I))
theorem Kk {n:Nat} {C:Int} (h:n<1000000000) (hC:i64 C):small n C=true:=decide_eq_true ⟨h,hC.1,hC.2⟩
theorem L9 (k:Nat) (F C:Int) (H:List Hall) (I:List Ins) (hH:H.length<900000000) (hI:I.length<900000000) (hC:i64 C):call_Check.f (k+1) F C H I=some (if okB F C H I=true then 0 else 190):=by
  unfold call_Check.f rightP_H.f rightP_I.f okB
  rw[Vb,Vb,if_pos (Kk (by omega) hC),if_pos (Kk (by omega) hC)]
  simp only[Option.bind_some]
  cases decide (2≤F∧F≤64) <;> cases decide (1≤C∧C≤8) <;> cases Zw (fun x:Hall=>Xp F C x.f0 x.f1 x.f2) ltH none H <;> cases Zw (fun x:Ins=>Y0 F C x.f0 x.f1) ltI none I <;> simp[call_Check.j0]
theorem Lb (U:Option (List Hall)) (V:Option (List Ins)) (k:Nat) (F C:Int) (H:List Hall) (I:List Ins) (is:Bool) (a3 B D J a5 L O:Int) (hH:H.length<900000000) (hI:I.length<900000000) (hC:i64 C):
    call_change.f U V (k+1) F C H I is a3 B D J a5 L O=if okB F C H I=true then (if is=true then U.bind fun a=>V.bind fun b=>some (a,b,0) else some ([],[],191)) else some ([],[],190):=by
  unfold call_change.f
  rw[L9 k F C H I hH hI hC]
  cases okB F C H I <;> simp
theorem Jk {F C:Int} {H:List Hall} {I:List Ins}:okB F C H I=true↔((2≤F∧F≤64)∧(1≤C∧C≤8)∧((∀ x ∈ H,Xp F C x.f0 x.f1 x.f2=true)∧H.Pairwise (fun x y=>ltH x y=true))∧((∀ x ∈ I,Y0 F C x.f0 x.f1=true)∧I.Pairwise (fun x y=>ltI x y=true))):=by
  unfold okB
  simp only[Bool.and_eq_true,decide_eq_true_eq]
  rw[Y7,K5]
theorem U8 (x:Int) (h:1≤x∧x≤64):wrap64 (x-1)=x-1:=by unfold wrap64;omega
theorem L2 {F C:Int} {J L x2:Int} (hF:2≤F∧F≤64) (hC:1≤C∧C≤8):Xp F C J L x2=true↔((L=1∨L = -1)∧(0≤J∧J≤F-1)∧(0≤J+L∧J+L≤F-1)∧(-1≤x2∧x2≤C-1)):=by
  unfold Xp
  rw[decide_eq_true_eq,U8 F (by omega),U8 C (by omega)]
  constructor
  · rintro⟨h1,O,D,I⟩
    rw[show wrap64 (J+L)=J+L from by unfold wrap64;omega] at D
    exact⟨h1,O,D,I⟩
  · rintro⟨h1,O,D,I⟩
    rw[show wrap64 (J+L)=J+L from by unfold wrap64;omega]
    exact⟨h1,O,D,I⟩
theorem We {F C:Int} {J L:Int} (hF:2≤F∧F≤64) (hC:1≤C∧C≤8):Y0 F C J L=true↔((0≤J∧J≤C-1)∧(0≤L∧L≤F-1)):=by
  unfold Y0
  rw[decide_eq_true_eq,U8 F (by omega),U8 C (by omega)]
theorem V5 {F C:Int} {H:List Hall} {I:List Ins} (h:okB F C H I=true):Zw (fun _=>true) ltH none H=true:=(Y7 _ _).2 ⟨fun _ _=>rfl,(Jk.1 h).2.2.1.2⟩
theorem Le {F C:Int} {H:List Hall} {I:List Ins} (h:okB F C H I=true) (J L:Int) (hx:J<0):woI J L I=I:=by
  obtain⟨hF,hC,_,h1,_⟩:=Jk.1 h
  unfold woI
  rw[List.filter_eq_self]
  intro y hy
  have:=(We hF hC).1 (h1 y hy)
  have hne:¬ Z9 J L y.f0 y.f1=0:=by rw[Ym];omega
  simp[hne]
theorem Nv (H:List Hall) (I:List Ins) (hH:H.length<900000000) (hI:I.length<900000000):newellaw19_Own.f H I=some (H,I):=by
  unfold newellaw19_Own.f
  simp only[Option.bind_some,List.length_nil,Nat.zero_add,List.nil_append]
  rw[if_pos (by omega),if_pos (by omega)]
end Go.Proofs.Ytjehhhlhalkieaa.Call
namespace Go.Proofs.Ytjehhhlhalkieaa.C
open Go.RowKit Go.Proofs.YtjehhhlhalkieaaW.PrintWords Go.Proofs.YtjehhhlhalkieaaW.PrintLast Go.Proofs.YtjehhhlhalkieaaW.PrintMore
attribute [local go_sem] Zk Zi Zt Zs Zd Zc Zj Zh
set_option linter.unusedVariables false
set_option linter.unusedSimpArgs false
def newellaw19_awake.f (k:Nat):Option (Bool):=(call_Press.f k 4 2 ([]:List (S56)) ([]:List (S62)) 0 2 0).bind fun a6=>((call_Press.f k 4 2 a6.1 a6.2.1 1 2 0).bind fun ν =>((call_Give.f k 4 2 ν.1 ν.2.1 2 1 1).bind fun ω =>((call_View.f k 4 2 ω.1 ω.2.1 1).bind fun ah=>((call_Serve.f k 4 2 ω.1 ω.2.1 0 2 1).bind fun ab=>(if a6.2.2=0 then (if ν.2.2=0 then ((newelref19_Same.f k ν.1 ν.2.1 (([(⟨2,(-1),(-1)⟩:S56),(⟨2,1,(-1)⟩:S56)]:List (S56))) ([]:List (S62))).bind fun ag=>(if ag=true then (if ω.2.2=0 then (if (ah.2.1.length:Int)=1 then (if ah.2.2.2=0 then (if (ab.1.length:Int)=1 then (if ab.2.2=0 then ((call_Same.f k a6.1 a6.2.1 a6.1 a6.2.1).bind fun aa=>(if aa=true then ((call_Same.f k a6.1 a6.2.1 ν.1 ν.2.1).bind fun a5=>(if a5=true then (none) else ((call_Check.f k 4 2 ν.1 ν.2.1).bind fun ξ =>(some (ξ == 0))))) else (none))) else (none)) else (none)) else (none)) else (none)) else (none)) else (none))) else (none)) else (none))))))
theorem newellaw19_awake.mono:∀ k,LeO (newellaw19_awake.f k) (newellaw19_awake.f (k+1)):=by
 intro  k
 unfold newellaw19_awake.f
 repeat' first
   |(with_reducible exact call_Check.mono _ _ _ _ _)
   |(with_reducible exact call_Give.mono _ _ _ _ _ _ _ _)
   |(with_reducible exact call_Press.mono _ _ _ _ _ _ _ _)
   |(with_reducible exact call_Same.mono _ _ _ _ _)
   |(with_reducible exact call_Serve.mono _ _ _ _ _ _ _ _)
   |(with_reducible exact call_View.mono _ _ _ _ _ _)
   |(with_reducible exact newelref19_Same.mono _ _ _ _ _)
   |(with_reducible exact LeO.refl _)
   |(with_reducible exact LeO.none _)
   |(with_reducible refine LeO.ite ?_ ?_)
   |(with_reducible refine LeO.bind ?_ (fun _=>?_))
   |exact call_Check.mono _ _ _ _ _
   |exact call_Give.mono _ _ _ _ _ _ _ _
   |exact call_Press.mono _ _ _ _ _ _ _ _
   |exact call_Same.mono _ _ _ _ _
   |exact call_Serve.mono _ _ _ _ _ _ _ _
   |exact call_View.mono _ _ _ _ _ _
   |exact newelref19_Same.mono _ _ _ _ _
   |exact LeO.none _
   |refine LeO.ite ?_ ?_
   |refine LeO.bind ?_ (fun _=>?_)
set_option maxHeartbeats 8000000 in
set_option maxRecDepth 100000 in
theorem newellaw19_awake.calls (k:Nat)  (r:Bool) (w:World) (h:newellaw19_awake.f k=some r):
  Calls Try.prog 10 #[] w fun e w'=>e = .returned (.bool r)∧Below w.heap.size w w':=by
 have dx:=Try.underlying23
 have db:=Try.underlying27
 have kc:=Try.underlying29
 have bu:=Try.underlying56
 have kj:=Try.underlying47
 have ge:=Try.underlying43
 have HB:=Aside0.mk (Below.refl w.heap.size w)
 have H:((call_Press.f k 4 2 ([]:List (S56)) ([]:List (S62)) 0 2 0).bind fun a6=>((call_Press.f k 4 2 a6.1 a6.2.1 1 2 0).bind fun ν =>((call_Give.f k 4 2 ν.1 ν.2.1 2 1 1).bind fun ω =>((call_View.f k 4 2 ω.1 ω.2.1 1).bind fun ah=>((call_Serve.f k 4 2 ω.1 ω.2.1 0 2 1).bind fun ab=>(if a6.2.2=0 then (if ν.2.2=0 then ((newelref19_Same.f k ν.1 ν.2.1 (([(⟨2,(-1),(-1)⟩:S56),(⟨2,1,(-1)⟩:S56)]:List (S56))) ([]:List (S62))).bind fun ag=>(if ag=true then (if ω.2.2=0 then (if (ah.2.1.length:Int)=1 then (if ah.2.2.2=0 then (if (ab.1.length:Int)=1 then (if ab.2.2=0 then ((call_Same.f k a6.1 a6.2.1 a6.1 a6.2.1).bind fun aa=>(if aa=true then ((call_Same.f k a6.1 a6.2.1 ν.1 ν.2.1).bind fun a5=>(if a5=true then (none) else ((call_Check.f k 4 2 ν.1 ν.2.1).bind fun ξ =>(some (ξ == 0))))) else (none))) else (none)) else (none)) else (none)) else (none)) else (none)) else (none))) else (none)) else (none)))))))=some r:=h
 clear h
 replace H:=Option.bind_eq_some_iff.mp H
 obtain⟨⟨J,Z,bj⟩,em,H⟩:=H
 replace H:((call_Press.f k 4 2 J Z 1 2 0).bind fun ν =>((call_Give.f k 4 2 ν.1 ν.2.1 2 1 1).bind fun ω =>((call_View.f k 4 2 ω.1 ω.2.1 1).bind fun ah=>((call_Serve.f k 4 2 ω.1 ω.2.1 0 2 1).bind fun ab=>(if bj=0 then (if ν.2.2=0 then ((newelref19_Same.f k ν.1 ν.2.1 (([(⟨2,(-1),(-1)⟩:S56),(⟨2,1,(-1)⟩:S56)]:List (S56))) ([]:List (S62))).bind fun ag=>(if ag=true then (if ω.2.2=0 then (if (ah.2.1.length:Int)=1 then (if ah.2.2.2=0 then (if (ab.1.length:Int)=1 then (if ab.2.2=0 then ((call_Same.f k J Z J Z).bind fun aa=>(if aa=true then ((call_Same.f k J Z ν.1 ν.2.1).bind fun a5=>(if a5=true then (none) else ((call_Check.f k 4 2 ν.1 ν.2.1).bind fun ξ =>(some (ξ == 0))))) else (none))) else (none)) else (none)) else (none)) else (none)) else (none)) else (none))) else (none)) else (none))))))=some r:=H
 have A1:=Aside0.mk em
 clear em
 replace H:=Option.bind_eq_some_iff.mp H
 obtain⟨⟨φ,ζ,b6⟩,fv,H⟩:=H
 replace H:((call_Give.f k 4 2 φ ζ 2 1 1).bind fun ω =>((call_View.f k 4 2 ω.1 ω.2.1 1).bind fun ah=>((call_Serve.f k 4 2 ω.1 ω.2.1 0 2 1).bind fun ab=>(if bj=0 then (if b6=0 then ((newelref19_Same.f k φ ζ (([(⟨2,(-1),(-1)⟩:S56),(⟨2,1,(-1)⟩:S56)]:List (S56))) ([]:List (S62))).bind fun ag=>(if ag=true then (if ω.2.2=0 then (if (ah.2.1.length:Int)=1 then (if ah.2.2.2=0 then (if (ab.1.length:Int)=1 then (if ab.2.2=0 then ((call_Same.f k J Z J Z).bind fun aa=>(if aa=true then ((call_Same.f k J Z φ ζ).bind fun a5=>(if a5=true then (none) else ((call_Check.f k 4 2 φ ζ).bind fun ξ =>(some (ξ == 0))))) else (none))) else (none)) else (none)) else (none)) else (none)) else (none)) else (none))) else (none)) else (none)))))=some r:=H
 have A2:=Aside0.mk fv
 clear fv
 replace H:=Option.bind_eq_some_iff.mp H
 obtain⟨⟨aj,an,b8⟩,ai,H⟩:=H
 replace H:((call_View.f k 4 2 aj an 1).bind fun ah=>((call_Serve.f k 4 2 aj an 0 2 1).bind fun ab=>(if bj=0 then (if b6=0 then ((newelref19_Same.f k φ ζ (([(⟨2,(-1),(-1)⟩:S56),(⟨2,1,(-1)⟩:S56)]:List (S56))) ([]:List (S62))).bind fun ag=>(if ag=true then (if b8=0 then (if (ah.2.1.length:Int)=1 then (if ah.2.2.2=0 then (if (ab.1.length:Int)=1 then (if ab.2.2=0 then ((call_Same.f k J Z J Z).bind fun aa=>(if aa=true then ((call_Same.f k J Z φ ζ).bind fun a5=>(if a5=true then (none) else ((call_Check.f k 4 2 φ ζ).bind fun ξ =>(some (ξ == 0))))) else (none))) else (none)) else (none)) else (none)) else (none)) else (none)) else (none))) else (none)) else (none))))=some r:=H
 have A3:=Aside0.mk ai
 clear ai
 replace H:=Option.bind_eq_some_iff.mp H
 obtain⟨⟨bk,ao,ce,bl⟩,bz,H⟩:=H
 replace H:((call_Serve.f k 4 2 aj an 0 2 1).bind fun ab=>(if bj=0 then (if b6=0 then ((newelref19_Same.f k φ ζ (([(⟨2,(-1),(-1)⟩:S56),(⟨2,1,(-1)⟩:S56)]:List (S56))) ([]:List (S62))).bind fun ag=>(if ag=true then (if b8=0 then (if (ao.length:Int)=1 then (if bl=0 then (if (ab.1.length:Int)=1 then (if ab.2.2=0 then ((call_Same.f k J Z J Z).bind fun aa=>(if aa=true then ((call_Same.f k J Z φ ζ).bind fun a5=>(if a5=true then (none) else ((call_Check.f k 4 2 φ ζ).bind fun ξ =>(some (ξ == 0))))) else (none))) else (none)) else (none)) else (none)) else (none)) else (none)) else (none))) else (none)) else (none)))=some r:=H
 have A4:=Aside0.mk bz
 clear bz
 replace H:=Option.bind_eq_some_iff.mp H
 obtain⟨⟨ar,ch,bs⟩,cf,H⟩:=H
 replace H:(if bj=0 then (if b6=0 then ((newelref19_Same.f k φ ζ (([(⟨2,(-1),(-1)⟩:S56),(⟨2,1,(-1)⟩:S56)]:List (S56))) ([]:List (S62))).bind fun ag=>(if ag=true then (if b8=0 then (if (ao.length:Int)=1 then (if bl=0 then (if (ar.length:Int)=1 then (if bs=0 then ((call_Same.f k J Z J Z).bind fun aa=>(if aa=true then ((call_Same.f k J Z φ ζ).bind fun a5=>(if a5=true then (none) else ((call_Check.f k 4 2 φ ζ).bind fun ξ =>(some (ξ == 0))))) else (none))) else (none)) else (none)) else (none)) else (none)) else (none)) else (none))) else (none)) else (none))=some r:=H
 have A5:=Aside0.mk cf
 clear cf
 by_cases c6:bj=0
 ·rw[if_pos c6] at H
  have c6b0:(bj==0)=true:=beq_iff_eq.mpr c6
  have c6b1:(bj != 0)=false:=bne_eq_false_iff_eq.mpr c6
  clear c6
  by_cases c7:b6=0
  ·rw[if_pos c7] at H
   have c7b0:(b6==0)=true:=beq_iff_eq.mpr c7
   have c7b1:(b6 != 0)=false:=bne_eq_false_iff_eq.mpr c7
   clear c7
   obtain⟨fr,ci⟩:∃ y_:List (S56),y_=(([(⟨2,(-1),(-1)⟩:S56),(⟨2,1,(-1)⟩:S56)]:List (S56))):=⟨_,rfl⟩
   replace H:((newelref19_Same.f k φ ζ fr ([]:List (S62))).bind fun ag=>(if ag=true then (if b8=0 then (if (ao.length:Int)=1 then (if bl=0 then (if (ar.length:Int)=1 then (if bs=0 then ((call_Same.f k J Z J Z).bind fun aa=>(if aa=true then ((call_Same.f k J Z φ ζ).bind fun a5=>(if a5=true then (none) else ((call_Check.f k 4 2 φ ζ).bind fun ξ =>(some (ξ == 0))))) else (none))) else (none)) else (none)) else (none)) else (none)) else (none)) else (none)))=some r:=by first|(rw[ci];with_reducible exact H)|(have ρ:=(Option.bind_some _ _).symm.trans H;rw[ci];with_reducible exact ρ)|(have ρ:=(Option.bind_some _ _).symm.trans H;with_reducible exact ρ)|with_reducible exact H|(rw[ci];exact H)|exact H
   have fe:=Aside0.mk ci
   clear ci
   replace H:=Option.bind_eq_some_iff.mp H
   obtain⟨ag,df,H⟩:=H
   replace H:(if ag=true then (if b8=0 then (if (ao.length:Int)=1 then (if bl=0 then (if (ar.length:Int)=1 then (if bs=0 then ((call_Same.f k J Z J Z).bind fun aa=>(if aa=true then ((call_Same.f k J Z φ ζ).bind fun a5=>(if a5=true then (none) else ((call_Check.f k 4 2 φ ζ).bind fun ξ =>(some (ξ == 0))))) else (none))) else (none)) else (none)) else (none)) else (none)) else (none)) else (none))=some r:=H
   have A8:=Aside0.mk df
   clear df
   by_cases c9:ag=true
   ·subst c9
    have H1:(if b8=0 then (if (ao.length:Int)=1 then (if bl=0 then (if (ar.length:Int)=1 then (if bs=0 then ((call_Same.f k J Z J Z).bind fun aa=>(if aa=true then ((call_Same.f k J Z φ ζ).bind fun a5=>(if a5=true then (none) else ((call_Check.f k 4 2 φ ζ).bind fun ξ =>(some (ξ == 0))))) else (none))) else (none)) else (none)) else (none)) else (none)) else (none))=some r:=by rw[if_pos rfl] at H;exact H
    clear H
    have H:=H1
    clear H1
    by_cases c10:b8=0
    ·rw[if_pos c10] at H
     have c10b0:(b8==0)=true:=beq_iff_eq.mpr c10
     have c10b1:(b8 != 0)=false:=bne_eq_false_iff_eq.mpr c10
     clear c10
     by_cases cg:(ao.length:Int)=1
     ·rw[if_pos cg] at H
      have c11b0:((ao.length:Int)==1)=true:=beq_iff_eq.mpr cg
      have c11b1:((ao.length:Int) != 1)=false:=bne_eq_false_iff_eq.mpr cg
      clear cg
      by_cases cj:bl=0
      ·rw[if_pos cj] at H
       have c12b0:(bl==0)=true:=beq_iff_eq.mpr cj
       have c12b1:(bl != 0)=false:=bne_eq_false_iff_eq.mpr cj
       clear cj
       by_cases bc:(ar.length:Int)=1
       ·rw[if_pos bc] at H
        have c13b0:((ar.length:Int)==1)=true:=beq_iff_eq.mpr bc
        have c13b1:((ar.length:Int) != 1)=false:=bne_eq_false_iff_eq.mpr bc
        clear bc
        by_cases ay:bs=0
        ·rw[if_pos ay] at H
         have c14b0:(bs==0)=true:=beq_iff_eq.mpr ay
         have c14b1:(bs != 0)=false:=bne_eq_false_iff_eq.mpr ay
         clear ay
         replace H:=Option.bind_eq_some_iff.mp H
         obtain⟨aa,fa,H⟩:=H
         replace H:(if aa=true then ((call_Same.f k J Z φ ζ).bind fun a5=>(if a5=true then (none) else ((call_Check.f k 4 2 φ ζ).bind fun ξ =>(some (ξ == 0))))) else (none))=some r:=H
         have il:=Aside0.mk fa
         clear fa
         by_cases a3:aa=true
         ·subst a3
          have H1:((call_Same.f k J Z φ ζ).bind fun a5=>(if a5=true then (none) else ((call_Check.f k 4 2 φ ζ).bind fun ξ =>(some (ξ == 0)))))=some r:=by rw[if_pos rfl] at H;exact H
          clear H
          have H:=H1
          clear H1
          replace H:=Option.bind_eq_some_iff.mp H
          obtain⟨a5,ft,H⟩:=H
          replace H:(if a5=true then (none) else ((call_Check.f k 4 2 φ ζ).bind fun ξ =>(some (ξ == 0))))=some r:=H
          have j4:=Aside0.mk ft
          clear ft
          by_cases cb:a5=true
          ·subst cb
           have H1:(none)=some r:=by rw[if_pos rfl] at H;exact H
           clear H
           have H:=H1
           clear H1
           exact absurd H (by simp)
          ·replace cb:=Bool.eq_false_iff.mpr cb
           subst cb
           have H1:((call_Check.f k 4 2 φ ζ).bind fun ξ =>(some (ξ == 0)))=some r:=by rw[if_neg (show ¬ (false=true) by decide)] at H;exact H
           clear H
           have H:=H1
           clear H1
           replace H:=Option.bind_eq_some_iff.mp H
           obtain⟨ξ,fb,H⟩:=H
           replace H:(some (ξ == 0))=some r:=H
           have iq:=Aside0.mk fb
           clear fb
           obtain rfl:=Option.some.inj H
           go_enter Try.func10,Try.ntmps10
           go_wp2_with (first|((with_reducible refine Qt (N:=1) rfl ?_);(try(refine Z7 (by rfl) ?_;dsimp only));refine Qp ?hg (N:=1) ?hd (cs:=#[.int .i64 0,.int .i64 0]) (t:=23) ?hr ?_;(case hd=>rfl);(case hg=>rfl);(case hr=>go_simp <;> rfl);intro ac hg ca hbox hb;have B:=Aside0.mk hbox;have j5:=sGe hg;have j6:=sGe hg;replace HB:=sHb hb;clear hb hbox hg;have cy:ca.cell? ⟨ac,0,none⟩=some (.int .i64 0):=(Qa B.out 0).trans rfl;have d6:ca.cell? ⟨ac,1,none⟩=some (.int .i64 0):=(Qa B.out 1).trans rfl;have di:=Qb B.out 0;have dj:=Qb B.out 1)|((with_reducible refine Q2 (f:=11) rfl ?_);refine Zq (some 17) rfl rfl Try.func11 kr rfl #[.agg #[.int .i64 4,.int .i64 2],.agg #[.slice none 0 0,.slice none 0 0],.agg #[.int .i64 0,.int .i64 2,.int .i64 0]] rfl (by simp only[List.map_toArray,List.map_cons,List.map_nil] <;> rfl) ?_;(refine(call_Press.calls k 4 2 _ _ ([]:List (S56)) _ _ ([]:List (S62)) 0 2 0 J Z bj _ ?side1 ?side2 ?side3 ?side4 A1.out).mono ?_);(case side1=>exact Kd.Gf _ _);(case side2=>exact Nat.le_refl _);(case side3=>exact Kd.Gf _ _);(case side4=>exact Nat.le_refl _);rintro e dt ⟨jf,jg,rfl,χ,a7,hb⟩;refine⟨_,rfl, ?_⟩;have L:=Aside0.mk (Kd.Q4 χ (Qk bel));have U:=Aside0.mk (Kd.Q4 a7 (Qk bel));replace B:=Aside0.mk (Qn (g:=ac) (o:=.cells #[.int .i64 4,.int .i64 2] 23 (0,0)) (by(with_reducible repeat(first|refine Qf ?_ _|refine Qc ?_|refine Qg ?_ _));refine Qx (cs:=#[.int .i64 4,.int .i64 0]) ?_ 1 _ rfl;(with_reducible repeat(first|refine Qf ?_ _|refine Qc ?_|refine Qg ?_ _));refine Qx (cs:=#[.int .i64 0,.int .i64 0]) ?_ 0 _ rfl;(with_reducible repeat(first|refine Qf ?_ _|refine Qc ?_|refine Qg ?_ _));exact B.out) hb);replace HB:=sHb hb;(try clear hb);(try clear a4);(try clear hk);(try clear hi);(try clear χ);(try clear a7))|((with_reducible refine Qt (N:=2) rfl ?_);(try(refine Z7 (by rfl) ?_;dsimp only));refine Qp ?hg (N:=2) ?hd (cs:=#[.slice none 0 0,.slice none 0 0]) (t:=27) ?hr ?_;(case hd=>rfl);(case hg=>rfl);(case hr=>go_simp <;> rfl);intro σ hg cd hbox hb;have O:=Aside0.mk hbox;have gl:=sGe hg;have gn:=sGe hg;have cw:=sNl B hg;have cx:=sNg B hg;replace L:=sRb L hb;replace U:=sRb U hb;replace B:=sBk B hb;replace HB:=sHb hb;clear hb hbox hg;obtain⟨b2,b1,ho⟩:=Kd.Q6 L.out;subst ho;have d7:=cx.out;have d8:=cw.out;have cq:cd.cell? ⟨σ,0,none⟩=some (.slice none 0 0):=(Qa O.out 0).trans rfl;have cr:cd.cell? ⟨σ,1,none⟩=some (.slice none 0 0):=(Qa O.out 1).trans rfl;have ct:=Qb O.out 0;have cu:=Qb O.out 1;obtain⟨b9,b4,io⟩:=Kd.Q6 U.out;subst io;have d0:cd.cell? ⟨ac,0,none⟩=some (.int .i64 4):=(Qa B.out 0).trans rfl;have d1:cd.cell? ⟨ac,1,none⟩=some (.int .i64 2):=(Qa B.out 1).trans rfl;have d2:=Qb B.out 0;have d3:=Qb B.out 1)|((with_reducible refine Q2 (f:=11) rfl ?_);refine Zq (some 24) rfl rfl Try.func11 kr rfl #[.agg #[.int .i64 4,.int .i64 2],.agg #[.slice b2 J.length b1,.slice b9 Z.length b4],.agg #[.int .i64 1,.int .i64 2,.int .i64 0]] rfl (by simp only[List.map_toArray,List.map_cons,List.map_nil] <;> rfl) ?_;(with_reducible refine(call_Press.calls k 4 2 _ _ J _ _ Z 1 2 0 φ ζ b6 _ ?side1 ?side2 ?side3 ?side4 A2.out).mono ?_);(case side1=>refine(Kd.Qr (e:=56) (base:=w.heap.size) (ok:=fun k_=>True) (n:=J.length) (c:=b1) ?_).2.2;exact(by(with_reducible repeat(first|apply Kd.Qm|apply Kd.Ql|apply Kd.Qo));exact(Kd.Qs (Kd.Qu (Kd.Qu (Kd.Qy L.out O.out (by decide)) (fun _ hk=>hk.2) _) (fun _ hk=>hk.2) _) (fun _ h_=>h_.1))));(case side2=>exact(Kd.Qr L.out).2.1);(case side3=>refine(Kd.Qr (e:=62) (base:=w.heap.size) (ok:=fun k_=>True) (n:=Z.length) (c:=b4) ?_).2.2;exact(by(with_reducible repeat(first|apply Kd.Qm|apply Kd.Ql|apply Kd.Qo));exact(Kd.Qs (Kd.Qu (Kd.Qu (Kd.Qy U.out O.out (by decide)) (fun _ hk=>hk.2) _) (fun _ hk=>hk.2) _) (fun _ h_=>h_.1))));(case side4=>exact(Kd.Qr U.out).2.1);rintro e gm ⟨jh,ji,rfl,χ,a7,hb⟩;refine⟨_,rfl, ?_⟩;have Y:=Aside0.mk (Kd.Q4 (Kd.Zr χ (Kd.Z4 (by(with_reducible repeat(first|apply Kd.Qm|apply Kd.Ql|apply Kd.Qo));exact(Kd.Qs (Kd.Qu (Kd.Qu (Kd.Qy L.out O.out (by decide)) (fun _ hk=>hk.2) _) (fun _ hk=>hk.2) _) (fun _ h_=>h_.1))))) (Qk bel));have γ:=Aside0.mk (Kd.Q4 (Kd.Zr a7 (Kd.Z4 (by(with_reducible repeat(first|apply Kd.Qm|apply Kd.Ql|apply Kd.Qo));exact(Kd.Qs (Kd.Qu (Kd.Qu (Kd.Qy U.out O.out (by decide)) (fun _ hk=>hk.2) _) (fun _ hk=>hk.2) _) (fun _ h_=>h_.1))))) (Qk bel));replace L:=Aside0.mk (Kd.Q7 (by(with_reducible repeat(first|apply Kd.Qm|apply Kd.Ql|apply Kd.Qo));exact(Kd.Qs (Kd.Qu (Kd.Qu (Kd.Qy L.out O.out (by decide)) (fun _ hk=>hk.2) _) (fun _ hk=>hk.2) _) (fun _ h_=>h_.1))) (Kd.Zn χ) hb);replace U:=Aside0.mk (Kd.Q7 (by(with_reducible repeat(first|apply Kd.Qm|apply Kd.Ql|apply Kd.Qo));exact(Kd.Qs (Kd.Qu (Kd.Qu (Kd.Qy U.out O.out (by decide)) (fun _ hk=>hk.2) _) (fun _ hk=>hk.2) _) (fun _ h_=>h_.1))) (Kd.Zn a7) hb);replace B:=sBk B hb;replace O:=Aside0.mk (Qn (g:=σ) (o:=.cells #[.slice b2 J.length b1,.slice b9 Z.length b4] 27 (0,0)) (by(with_reducible repeat(first|refine Qf ?_ _|refine Qc ?_|refine Qg ?_ _));refine Qx (cs:=#[.slice b2 J.length b1,.slice none 0 0]) ?_ 1 _ rfl;(with_reducible repeat(first|refine Qf ?_ _|refine Qc ?_|refine Qg ?_ _));refine Qx (cs:=#[.slice none 0 0,.slice none 0 0]) ?_ 0 _ rfl;(with_reducible repeat(first|refine Qf ?_ _|refine Qc ?_|refine Qg ?_ _));exact O.out) hb);replace HB:=sHb hb;(try clear hb);(try clear a4);(try clear hk);(try clear hi);(try clear χ);(try clear a7))|((with_reducible refine Qt (N:=4) rfl ?_);(try(refine Z7 (by rfl) ?_;dsimp only));refine Qp ?hg (N:=4) ?hd (cs:=#[.slice none 0 0,.slice none 0 0]) (t:=27) ?hr ?_;(case hd=>rfl);(case hg=>rfl);(case hr=>go_simp <;> rfl);intro al hg cm hbox hb;have D:=Aside0.mk hbox;have j7:=sGe hg;have j8:=sGe hg;have dl:=sNl B hg;have dm:=sNg B hg;have dp:=sNl O hg;have dq:=sNg O hg;replace L:=sRb L hb;replace U:=sRb U hb;replace Y:=sRb Y hb;replace γ:=sRb γ hb;replace B:=sBk B hb;replace O:=sBk O hb;replace HB:=sHb hb;clear hb hbox hg;obtain⟨br,bq,d5⟩:=Kd.Q6 Y.out;subst d5;have fg:=dm.out;have fh:=dl.out;have g8:=dq.out;have g9:=dp.out;have ea:cm.cell? ⟨al,0,none⟩=some (.slice none 0 0):=(Qa D.out 0).trans rfl;have eb:cm.cell? ⟨al,1,none⟩=some (.slice none 0 0):=(Qa D.out 1).trans rfl;have ec:=Qb D.out 0;have ed:=Qb D.out 1;obtain⟨ax,aw,ey⟩:=Kd.Q6 γ.out;subst ey;have gp:cm.cell? ⟨ac,0,none⟩=some (.int .i64 4):=(Qa B.out 0).trans rfl;have gq:cm.cell? ⟨ac,1,none⟩=some (.int .i64 2):=(Qa B.out 1).trans rfl;have gr:=Qb B.out 0;have gt:=Qb B.out 1)|((with_reducible refine Q2 (f:=24) rfl ?_);refine Zq (some 31) rfl rfl Try.func24 kr rfl #[.agg #[.int .i64 4,.int .i64 2],.agg #[.slice br φ.length bq,.slice ax ζ.length aw],.agg #[.int .i64 2,.int .i64 1,.int .i64 1]] rfl (by simp only[List.map_toArray,List.map_cons,List.map_nil] <;> rfl) ?_;(with_reducible refine(call_Give.calls k 4 2 _ _ φ _ _ ζ 2 1 1 aj an b8 _ ?side1 ?side2 ?side3 ?side4 A3.out).mono ?_);(case side1=>refine(Kd.Qr (e:=56) (base:=w.heap.size) (ok:=fun k_=>(True∧some k_≠(.slice b2 J.length b1:Value).ownBlock)) (n:= φ.length) (c:=bq) ?_).2.2;exact(by(with_reducible repeat(first|apply Kd.Qm|apply Kd.Ql|apply Kd.Qo));exact(Kd.Qs (Kd.Qu (Kd.Qu (Kd.Qy Y.out D.out (by decide)) (fun _ hk=>hk.2) _) (fun _ hk=>hk.2) _) (fun _ h_=>h_.1))));(case side2=>exact(Kd.Qr Y.out).2.1);(case side3=>refine(Kd.Qr (e:=62) (base:=w.heap.size) (ok:=fun k_=>(True∧some k_≠(.slice b9 Z.length b4:Value).ownBlock)) (n:= ζ.length) (c:=aw) ?_).2.2;exact(by(with_reducible repeat(first|apply Kd.Qm|apply Kd.Ql|apply Kd.Qo));exact(Kd.Qs (Kd.Qu (Kd.Qu (Kd.Qy γ.out D.out (by decide)) (fun _ hk=>hk.2) _) (fun _ hk=>hk.2) _) (fun _ h_=>h_.1))));(case side4=>exact(Kd.Qr γ.out).2.1);rintro e g6 ⟨jj,jk,rfl,χ,a7,hb⟩;refine⟨_,rfl, ?_⟩;have η :=Aside0.mk (Kd.Q4 (Kd.Zr (Kd.Zr χ (Kd.Z4 (by(with_reducible repeat(first|apply Kd.Qm|apply Kd.Ql|apply Kd.Qo));exact(Kd.Qs (Kd.Qu (Kd.Qu (Kd.Qy L.out D.out (by decide)) (fun _ hk=>hk.2) _) (fun _ hk=>hk.2) _) (fun _ h_=>h_.1))))) (Kd.Z4 (by(with_reducible repeat(first|apply Kd.Qm|apply Kd.Ql|apply Kd.Qo));exact(Kd.Qs (Kd.Qu (Kd.Qu (Kd.Qy Y.out D.out (by decide)) (fun _ hk=>hk.2) _) (fun _ hk=>hk.2) _) (fun _ h_=>h_.1))))) (Qk bel));have μ :=Aside0.mk (Kd.Q4 (Kd.Zr (Kd.Zr a7 (Kd.Z4 (by(with_reducible repeat(first|apply Kd.Qm|apply Kd.Ql|apply Kd.Qo));exact(Kd.Qs (Kd.Qu (Kd.Qu (Kd.Qy U.out D.out (by decide)) (fun _ hk=>hk.2) _) (fun _ hk=>hk.2) _) (fun _ h_=>h_.1))))) (Kd.Z4 (by(with_reducible repeat(first|apply Kd.Qm|apply Kd.Ql|apply Kd.Qo));exact(Kd.Qs (Kd.Qu (Kd.Qu (Kd.Qy γ.out D.out (by decide)) (fun _ hk=>hk.2) _) (fun _ hk=>hk.2) _) (fun _ h_=>h_.1))))) (Qk bel));replace L:=Aside0.mk (Kd.Q7 (by(with_reducible repeat(first|apply Kd.Qm|apply Kd.Ql|apply Kd.Qo));exact(Kd.Qs (Kd.Qu (Kd.Qu (Kd.Qy L.out D.out (by decide)) (fun _ hk=>hk.2) _) (fun _ hk=>hk.2) _) (fun _ h_=>h_.1))) (Kd.Zn χ) hb);replace U:=Aside0.mk (Kd.Q7 (by(with_reducible repeat(first|apply Kd.Qm|apply Kd.Ql|apply Kd.Qo));exact(Kd.Qs (Kd.Qu (Kd.Qu (Kd.Qy U.out D.out (by decide)) (fun _ hk=>hk.2) _) (fun _ hk=>hk.2) _) (fun _ h_=>h_.1))) (Kd.Zn a7) hb);replace Y:=Aside0.mk (Kd.Q7 (by(with_reducible repeat(first|apply Kd.Qm|apply Kd.Ql|apply Kd.Qo));exact(Kd.Qs (Kd.Qu (Kd.Qu (Kd.Qy Y.out D.out (by decide)) (fun _ hk=>hk.2) _) (fun _ hk=>hk.2) _) (fun _ h_=>h_.1))) (Kd.Zn χ) hb);replace γ:=Aside0.mk (Kd.Q7 (by(with_reducible repeat(first|apply Kd.Qm|apply Kd.Ql|apply Kd.Qo));exact(Kd.Qs (Kd.Qu (Kd.Qu (Kd.Qy γ.out D.out (by decide)) (fun _ hk=>hk.2) _) (fun _ hk=>hk.2) _) (fun _ h_=>h_.1))) (Kd.Zn a7) hb);replace B:=sBk B hb;replace O:=sBk O hb;replace D:=Aside0.mk (Qn (g:=al) (o:=.cells #[.slice br φ.length bq,.slice ax ζ.length aw] 27 (0,0)) (by(with_reducible repeat(first|refine Qf ?_ _|refine Qc ?_|refine Qg ?_ _));refine Qx (cs:=#[.slice br φ.length bq,.slice none 0 0]) ?_ 1 _ rfl;(with_reducible repeat(first|refine Qf ?_ _|refine Qc ?_|refine Qg ?_ _));refine Qx (cs:=#[.slice none 0 0,.slice none 0 0]) ?_ 0 _ rfl;(with_reducible repeat(first|refine Qf ?_ _|refine Qc ?_|refine Qg ?_ _));exact D.out) hb);replace HB:=sHb hb;(try clear hb);(try clear a4);(try clear hk);(try clear hi);(try clear χ);(try clear a7))|((with_reducible refine Qt (N:=6) rfl ?_);(try(refine Z7 (by rfl) ?_;dsimp only));refine Qp ?hg (N:=6) ?hd (cs:=#[.slice none 0 0,.slice none 0 0]) (t:=27) ?hr ?_;(case hd=>rfl);(case hg=>rfl);(case hr=>go_simp <;> rfl);intro b3 hg dk hbox hb;have X:=Aside0.mk hbox;have j9:=sGe hg;have ja:=sGe hg;have dr:=sNl B hg;have dv:=sNg B hg;have dw:=sNl O hg;have dy:=sNg O hg;have dz:=sNl D hg;have e0:=sNg D hg;replace L:=sRb L hb;replace U:=sRb U hb;replace Y:=sRb Y hb;replace γ:=sRb γ hb;replace η :=sRb η hb;replace μ :=sRb μ hb;replace B:=sBk B hb;replace O:=sBk O hb;replace D:=sBk D hb;replace HB:=sHb hb;clear hb hbox hg;obtain⟨bm,b7,hy⟩:=Kd.Q6 η.out;subst hy;have ez:=dv.out;have f3:=dr.out;have ga:=dy.out;have gb:=dw.out;have ig:=e0.out;have ih:=dz.out;have gk:dk.cell? ⟨b3,0,none⟩=some (.slice none 0 0):=(Qa X.out 0).trans rfl;have gx:dk.cell? ⟨b3,1,none⟩=some (.slice none 0 0):=(Qa X.out 1).trans rfl;have gy:=Qb X.out 0;have gz:=Qb X.out 1;obtain⟨bh,be,iv⟩:=Kd.Q6 μ.out;subst iv;have h0:dk.cell? ⟨ac,0,none⟩=some (.int .i64 4):=(Qa B.out 0).trans rfl;have h4:dk.cell? ⟨ac,1,none⟩=some (.int .i64 2):=(Qa B.out 1).trans rfl;have h5:=Qb B.out 0;have h6:=Qb B.out 1)|((with_reducible refine Q2 (f:=19) rfl ?_);refine Zq (some 37) rfl rfl Try.func19 kr rfl #[.agg #[.int .i64 4,.int .i64 2],.agg #[.slice bm aj.length b7,.slice bh an.length be],.int .i64 1] rfl (by simp only[List.map_toArray,List.map_cons,List.map_nil] <;> rfl) ?_;(with_reducible refine(call_View.calls k 4 2 _ _ aj _ _ an 1 bk ao ce bl _ ?side1 ?side2 ?side3 ?side4 A4.out).mono ?_);(case side1=>refine(Kd.Qr (e:=56) (base:=w.heap.size) (ok:=fun k_=>((True∧some k_≠(.slice b2 J.length b1:Value).ownBlock)∧some k_≠(.slice br φ.length bq:Value).ownBlock)) (n:=aj.length) (c:=b7) ?_).2.2;exact(by(with_reducible repeat(first|apply Kd.Qm|apply Kd.Ql|apply Kd.Qo));exact(Kd.Qs (Kd.Qu (Kd.Qu (Kd.Qy η.out X.out (by decide)) (fun _ hk=>hk.2) _) (fun _ hk=>hk.2) _) (fun _ h_=>h_.1))));(case side2=>exact(Kd.Qr η.out).2.1);(case side3=>refine(Kd.Qr (e:=62) (base:=w.heap.size) (ok:=fun k_=>((True∧some k_≠(.slice b9 Z.length b4:Value).ownBlock)∧some k_≠(.slice ax ζ.length aw:Value).ownBlock)) (n:=an.length) (c:=be) ?_).2.2;exact(by(with_reducible repeat(first|apply Kd.Qm|apply Kd.Ql|apply Kd.Qo));exact(Kd.Qs (Kd.Qu (Kd.Qu (Kd.Qy μ.out X.out (by decide)) (fun _ hk=>hk.2) _) (fun _ hk=>hk.2) _) (fun _ h_=>h_.1))));(case side4=>exact(Kd.Qr μ.out).2.1);rintro e gs ⟨h7,jl,jm,rfl,χ,a7,cv,hb⟩;refine⟨_,rfl, ?_⟩;have a9:=Aside0.mk (Kd.Q4 χ (Qk bel));have a0:=Aside0.mk (Kd.Q4 a7 (Qk bel));have a2:=Aside0.mk (Kd.Q4 cv (Qk bel));replace L:=Aside0.mk (Kd.Qw (by(with_reducible repeat(first|apply Kd.Qm|apply Kd.Ql|apply Kd.Qo));exact(Kd.Qs (Kd.Qu (Kd.Qu (Kd.Qy L.out X.out (by decide)) (fun _ hk=>hk.2) _) (fun _ hk=>hk.2) _) (fun _ h_=>h_.1))) hb);replace U:=Aside0.mk (Kd.Qw (by(with_reducible repeat(first|apply Kd.Qm|apply Kd.Ql|apply Kd.Qo));exact(Kd.Qs (Kd.Qu (Kd.Qu (Kd.Qy U.out X.out (by decide)) (fun _ hk=>hk.2) _) (fun _ hk=>hk.2) _) (fun _ h_=>h_.1))) hb);replace Y:=Aside0.mk (Kd.Qw (by(with_reducible repeat(first|apply Kd.Qm|apply Kd.Ql|apply Kd.Qo));exact(Kd.Qs (Kd.Qu (Kd.Qu (Kd.Qy Y.out X.out (by decide)) (fun _ hk=>hk.2) _) (fun _ hk=>hk.2) _) (fun _ h_=>h_.1))) hb);replace γ:=Aside0.mk (Kd.Qw (by(with_reducible repeat(first|apply Kd.Qm|apply Kd.Ql|apply Kd.Qo));exact(Kd.Qs (Kd.Qu (Kd.Qu (Kd.Qy γ.out X.out (by decide)) (fun _ hk=>hk.2) _) (fun _ hk=>hk.2) _) (fun _ h_=>h_.1))) hb);replace η :=Aside0.mk (Kd.Qw (by(with_reducible repeat(first|apply Kd.Qm|apply Kd.Ql|apply Kd.Qo));exact(Kd.Qs (Kd.Qu (Kd.Qu (Kd.Qy η.out X.out (by decide)) (fun _ hk=>hk.2) _) (fun _ hk=>hk.2) _) (fun _ h_=>h_.1))) hb);replace μ :=Aside0.mk (Kd.Qw (by(with_reducible repeat(first|apply Kd.Qm|apply Kd.Ql|apply Kd.Qo));exact(Kd.Qs (Kd.Qu (Kd.Qu (Kd.Qy μ.out X.out (by decide)) (fun _ hk=>hk.2) _) (fun _ hk=>hk.2) _) (fun _ h_=>h_.1))) hb);replace B:=sBk B hb;replace O:=sBk O hb;replace D:=sBk D hb;replace X:=Aside0.mk (Qn (g:=b3) (o:=.cells #[.slice bm aj.length b7,.slice bh an.length be] 27 (0,0)) (by(with_reducible repeat(first|refine Qf ?_ _|refine Qc ?_|refine Qg ?_ _));refine Qx (cs:=#[.slice bm aj.length b7,.slice none 0 0]) ?_ 1 _ rfl;(with_reducible repeat(first|refine Qf ?_ _|refine Qc ?_|refine Qg ?_ _));refine Qx (cs:=#[.slice none 0 0,.slice none 0 0]) ?_ 0 _ rfl;(with_reducible repeat(first|refine Qf ?_ _|refine Qc ?_|refine Qg ?_ _));exact X.out) hb);replace HB:=sHb hb;(try clear hb);(try clear a4);(try clear hk);(try clear hi);(try clear χ);(try clear a7);(try clear cv))|((with_reducible refine Qt (N:=8) rfl ?_);(try(refine Z7 (by rfl) ?_;dsimp only));refine Qp ?hg (N:=8) ?hd (cs:=#[.slice none 0 0,.slice none 0 0,.slice none 0 0]) (t:=47) ?hr ?_;(case hd=>rfl);(case hg=>rfl);(case hr=>go_simp <;> rfl);intro au hg du hbox hb;have I:=Aside0.mk hbox;have jb:=sGe hg;have jc:=sGe hg;have e3:=sNl B hg;have e4:=sNg B hg;have e5:=sNl O hg;have e6:=sNg O hg;have e7:=sNl D hg;have e8:=sNg D hg;have e9:=sNl X hg;have ef:=sNg X hg;replace L:=sRb L hb;replace U:=sRb U hb;replace Y:=sRb Y hb;replace γ:=sRb γ hb;replace η :=sRb η hb;replace μ :=sRb μ hb;replace a9:=sRb a9 hb;replace a0:=sRb a0 hb;replace a2:=sRb a2 hb;replace B:=sBk B hb;replace O:=sBk O hb;replace D:=sBk D hb;replace X:=sBk X hb;replace HB:=sHb hb;clear hb hbox hg;obtain⟨bv,bw,i0⟩:=Kd.Q6 a9.out;subst i0;have h8:=e4.out;have h9:=e3.out;have ha:=e6.out;have he:=e5.out;have g7:=e8.out;have gg:=e7.out;have gf:=ef.out;have gj:=e9.out;have fl:du.cell? ⟨au,0,none⟩=some (.slice none 0 0):=(Qa I.out 0).trans rfl;have fm:du.cell? ⟨au,1,none⟩=some (.slice none 0 0):=(Qa I.out 1).trans rfl;have i7:du.cell? ⟨au,2,none⟩=some (.slice none 0 0):=(Qa I.out 2).trans rfl;have fn:=Qb I.out 0;have fo:=Qb I.out 1;have i9:=Qb I.out 2;obtain⟨bd,bi,fc⟩:=Kd.Q6 a0.out;subst fc;obtain⟨ck,cn,i5⟩:=Kd.Q6 a2.out;subst i5;have ic:du.cell? ⟨ac,0,none⟩=some (.int .i64 4):=(Qa B.out 0).trans rfl;have ie:du.cell? ⟨ac,1,none⟩=some (.int .i64 2):=(Qa B.out 1).trans rfl;have ik:=Qb B.out 0;have im:=Qb B.out 1;have ip:du.cell? ⟨b3,0,none⟩=some (.slice bm aj.length b7):=(Qa X.out 0).trans rfl;have ir:du.cell? ⟨b3,1,none⟩=some (.slice bh an.length be):=(Qa X.out 1).trans rfl;have it:=Qb X.out 0;have iu:=Qb X.out 1)|((with_reducible refine Q2 (f:=18) rfl ?_);refine Zq (some 44) rfl rfl Try.func18 kr rfl #[.agg #[.int .i64 4,.int .i64 2],.agg #[.slice bm aj.length b7,.slice bh an.length be],.agg #[.int .i64 0,.int .i64 2,.int .i64 1]] rfl (by simp only[List.map_toArray,List.map_cons,List.map_nil] <;> rfl) ?_;(with_reducible refine(call_Serve.calls k 4 2 _ _ aj _ _ an 0 2 1 ar ch bs _ ?side1 ?side2 ?side3 ?side4 A5.out).mono ?_);(case side1=>refine(Kd.Qr (e:=56) (base:=w.heap.size) (ok:=fun k_=>((True∧some k_≠(.slice b2 J.length b1:Value).ownBlock)∧some k_≠(.slice br φ.length bq:Value).ownBlock)) (n:=aj.length) (c:=b7) ?_).2.2;exact(by(with_reducible repeat(first|apply Kd.Qm|apply Kd.Ql|apply Kd.Qo));exact(Kd.Qs (Kd.Qu (Kd.Qu (Kd.Qu (Kd.Qy η.out I.out (by decide)) (fun _ hk=>hk.2) _) (fun _ hk=>hk.2) _) (fun _ hk=>hk.2) _) (fun _ h_=>h_.1))));(case side2=>exact(Kd.Qr η.out).2.1);(case side3=>refine(Kd.Qr (e:=62) (base:=w.heap.size) (ok:=fun k_=>((True∧some k_≠(.slice b9 Z.length b4:Value).ownBlock)∧some k_≠(.slice ax ζ.length aw:Value).ownBlock)) (n:=an.length) (c:=be) ?_).2.2;exact(by(with_reducible repeat(first|apply Kd.Qm|apply Kd.Ql|apply Kd.Qo));exact(Kd.Qs (Kd.Qu (Kd.Qu (Kd.Qu (Kd.Qy μ.out I.out (by decide)) (fun _ hk=>hk.2) _) (fun _ hk=>hk.2) _) (fun _ hk=>hk.2) _) (fun _ h_=>h_.1))));(case side4=>exact(Kd.Qr μ.out).2.1);rintro e jq ⟨jn,jo,rfl,χ,a7,hb⟩;refine⟨_,rfl, ?_⟩;have a8:=Aside0.mk (Kd.Q4 (Kd.Zr (Kd.Zr (Kd.Zr χ (Kd.Z4 (by(with_reducible repeat(first|apply Kd.Qm|apply Kd.Ql|apply Kd.Qo));exact(Kd.Qs (Kd.Qu (Kd.Qu (Kd.Qu (Kd.Qy L.out I.out (by decide)) (fun _ hk=>hk.2) _) (fun _ hk=>hk.2) _) (fun _ hk=>hk.2) _) (fun _ h_=>h_.1))))) (Kd.Z4 (by(with_reducible repeat(first|apply Kd.Qm|apply Kd.Ql|apply Kd.Qo));exact(Kd.Qs (Kd.Qu (Kd.Qu (Kd.Qu (Kd.Qy Y.out I.out (by decide)) (fun _ hk=>hk.2) _) (fun _ hk=>hk.2) _) (fun _ hk=>hk.2) _) (fun _ h_=>h_.1))))) (Kd.Z4 (by(with_reducible repeat(first|apply Kd.Qm|apply Kd.Ql|apply Kd.Qo));exact(Kd.Qs (Kd.Qu (Kd.Qu (Kd.Qu (Kd.Qy η.out I.out (by decide)) (fun _ hk=>hk.2) _) (fun _ hk=>hk.2) _) (fun _ hk=>hk.2) _) (fun _ h_=>h_.1))))) (Qk bel));have ae:=Aside0.mk (Kd.Q4 (Kd.Zr (Kd.Zr (Kd.Zr a7 (Kd.Z4 (by(with_reducible repeat(first|apply Kd.Qm|apply Kd.Ql|apply Kd.Qo));exact(Kd.Qs (Kd.Qu (Kd.Qu (Kd.Qu (Kd.Qy U.out I.out (by decide)) (fun _ hk=>hk.2) _) (fun _ hk=>hk.2) _) (fun _ hk=>hk.2) _) (fun _ h_=>h_.1))))) (Kd.Z4 (by(with_reducible repeat(first|apply Kd.Qm|apply Kd.Ql|apply Kd.Qo));exact(Kd.Qs (Kd.Qu (Kd.Qu (Kd.Qu (Kd.Qy γ.out I.out (by decide)) (fun _ hk=>hk.2) _) (fun _ hk=>hk.2) _) (fun _ hk=>hk.2) _) (fun _ h_=>h_.1))))) (Kd.Z4 (by(with_reducible repeat(first|apply Kd.Qm|apply Kd.Ql|apply Kd.Qo));exact(Kd.Qs (Kd.Qu (Kd.Qu (Kd.Qu (Kd.Qy μ.out I.out (by decide)) (fun _ hk=>hk.2) _) (fun _ hk=>hk.2) _) (fun _ hk=>hk.2) _) (fun _ h_=>h_.1))))) (Qk bel));replace L:=Aside0.mk (Kd.Q7 (by(with_reducible repeat(first|apply Kd.Qm|apply Kd.Ql|apply Kd.Qo));exact(Kd.Qs (Kd.Qu (Kd.Qu (Kd.Qu (Kd.Qy L.out I.out (by decide)) (fun _ hk=>hk.2) _) (fun _ hk=>hk.2) _) (fun _ hk=>hk.2) _) (fun _ h_=>h_.1))) (Kd.Zn χ) hb);replace U:=Aside0.mk (Kd.Q7 (by(with_reducible repeat(first|apply Kd.Qm|apply Kd.Ql|apply Kd.Qo));exact(Kd.Qs (Kd.Qu (Kd.Qu (Kd.Qu (Kd.Qy U.out I.out (by decide)) (fun _ hk=>hk.2) _) (fun _ hk=>hk.2) _) (fun _ hk=>hk.2) _) (fun _ h_=>h_.1))) (Kd.Zn a7) hb);replace Y:=Aside0.mk (Kd.Q7 (by(with_reducible repeat(first|apply Kd.Qm|apply Kd.Ql|apply Kd.Qo));exact(Kd.Qs (Kd.Qu (Kd.Qu (Kd.Qu (Kd.Qy Y.out I.out (by decide)) (fun _ hk=>hk.2) _) (fun _ hk=>hk.2) _) (fun _ hk=>hk.2) _) (fun _ h_=>h_.1))) (Kd.Zn χ) hb);replace γ:=Aside0.mk (Kd.Q7 (by(with_reducible repeat(first|apply Kd.Qm|apply Kd.Ql|apply Kd.Qo));exact(Kd.Qs (Kd.Qu (Kd.Qu (Kd.Qu (Kd.Qy γ.out I.out (by decide)) (fun _ hk=>hk.2) _) (fun _ hk=>hk.2) _) (fun _ hk=>hk.2) _) (fun _ h_=>h_.1))) (Kd.Zn a7) hb);replace η :=Aside0.mk (Kd.Q7 (by(with_reducible repeat(first|apply Kd.Qm|apply Kd.Ql|apply Kd.Qo));exact(Kd.Qs (Kd.Qu (Kd.Qu (Kd.Qu (Kd.Qy η.out I.out (by decide)) (fun _ hk=>hk.2) _) (fun _ hk=>hk.2) _) (fun _ hk=>hk.2) _) (fun _ h_=>h_.1))) (Kd.Zn χ) hb);replace μ :=Aside0.mk (Kd.Q7 (by(with_reducible repeat(first|apply Kd.Qm|apply Kd.Ql|apply Kd.Qo));exact(Kd.Qs (Kd.Qu (Kd.Qu (Kd.Qu (Kd.Qy μ.out I.out (by decide)) (fun _ hk=>hk.2) _) (fun _ hk=>hk.2) _) (fun _ hk=>hk.2) _) (fun _ h_=>h_.1))) (Kd.Zn a7) hb);replace a9:=Aside0.mk (Kd.Qw (by(with_reducible repeat(first|apply Kd.Qm|apply Kd.Ql|apply Kd.Qo));exact(Kd.Qs (Kd.Qu (Kd.Qu (Kd.Qu (Kd.Qy a9.out I.out (by decide)) (fun _ hk=>hk.2) _) (fun _ hk=>hk.2) _) (fun _ hk=>hk.2) _) (fun _ h_=>h_.1))) hb);replace a0:=Aside0.mk (Kd.Qw (by(with_reducible repeat(first|apply Kd.Qm|apply Kd.Ql|apply Kd.Qo));exact(Kd.Qs (Kd.Qu (Kd.Qu (Kd.Qu (Kd.Qy a0.out I.out (by decide)) (fun _ hk=>hk.2) _) (fun _ hk=>hk.2) _) (fun _ hk=>hk.2) _) (fun _ h_=>h_.1))) hb);replace a2:=Aside0.mk (Kd.Qw (by(with_reducible repeat(first|apply Kd.Qm|apply Kd.Ql|apply Kd.Qo));exact(Kd.Qs (Kd.Qu (Kd.Qu (Kd.Qu (Kd.Qy a2.out I.out (by decide)) (fun _ hk=>hk.2) _) (fun _ hk=>hk.2) _) (fun _ hk=>hk.2) _) (fun _ h_=>h_.1))) hb);replace B:=sBk B hb;replace O:=sBk O hb;replace D:=sBk D hb;replace X:=sBk X hb;replace I:=Aside0.mk (Qn (g:=au) (o:=.cells #[.slice bv bk.length bw,.slice bd ao.length bi,.slice ck ce.length cn] 47 (0,0)) (by(with_reducible repeat(first|refine Qf ?_ _|refine Qc ?_|refine Qg ?_ _));refine Qx (cs:=#[.slice bv bk.length bw,.slice bd ao.length bi,.slice none 0 0]) ?_ 2 _ rfl;(with_reducible repeat(first|refine Qf ?_ _|refine Qc ?_|refine Qg ?_ _));refine Qx (cs:=#[.slice bv bk.length bw,.slice none 0 0,.slice none 0 0]) ?_ 1 _ rfl;(with_reducible repeat(first|refine Qf ?_ _|refine Qc ?_|refine Qg ?_ _));refine Qx (cs:=#[.slice none 0 0,.slice none 0 0,.slice none 0 0]) ?_ 0 _ rfl;(with_reducible repeat(first|refine Qf ?_ _|refine Qc ?_|refine Qg ?_ _));exact I.out) hb);replace HB:=sHb hb;(try clear hb);(try clear a4);(try clear hk);(try clear hi);(try clear χ);(try clear a7))|((with_reducible refine Qt (N:=10) rfl ?_);(try(refine Z7 (by rfl) ?_;dsimp only));refine Qp ?hg (N:=10) ?hd (cs:=#[.slice none 0 0,.slice none 0 0]) (t:=27) ?hr ?_;(case hd=>rfl);(case hg=>rfl);(case hr=>go_simp <;> rfl);intro b5 hg dh hbox hb;have δ :=Aside0.mk hbox;have jd:=sGe hg;have je:=sGe hg;have ei:=sNl B hg;have ej:=sNg B hg;have ek:=sNl O hg;have el:=sNg O hg;have en:=sNl D hg;have eo:=sNg D hg;have ep:=sNl X hg;have er:=sNg X hg;have et:=sNl I hg;have ew:=sNg I hg;replace L:=sRb L hb;replace U:=sRb U hb;replace Y:=sRb Y hb;replace γ:=sRb γ hb;replace η :=sRb η hb;replace μ :=sRb μ hb;replace a9:=sRb a9 hb;replace a0:=sRb a0 hb;replace a2:=sRb a2 hb;replace a8:=sRb a8 hb;replace ae:=sRb ae hb;replace B:=sBk B hb;replace O:=sBk O hb;replace D:=sBk D hb;replace X:=sBk X hb;replace I:=sBk I hb;replace HB:=sHb hb;clear hb hbox hg;obtain⟨bo,bp,dn⟩:=Kd.Q6 a8.out;subst dn;have ii:=ej.out;have ij:=ei.out;have ia:=el.out;have ib:=ek.out;have fj:=eo.out;have fk:=en.out;have eu:=er.out;have ev:=ep.out;have gh:=ew.out;have gi:=et.out;have cz:dh.cell? ⟨b5,0,none⟩=some (.slice none 0 0):=(Qa δ.out 0).trans rfl;have d4:dh.cell? ⟨b5,1,none⟩=some (.slice none 0 0):=(Qa δ.out 1).trans rfl;have d9:=Qb δ.out 0;have da:=Qb δ.out 1;obtain⟨co,cp,i6⟩:=Kd.Q6 ae.out;subst i6;have fw:dh.cell? ⟨al,0,none⟩=some (.slice br φ.length bq):=(Qa D.out 0).trans rfl;have fx:dh.cell? ⟨al,1,none⟩=some (.slice ax ζ.length aw):=(Qa D.out 1).trans rfl;have fy:=Qb D.out 0;have fz:=Qb D.out 1)|((with_reducible refine Qt (N:=57) rfl ?_);(try(refine Z7 (by rfl) ?_;dsimp only));refine Kd.Mk k56 _ 56 ?hg (N:=57) ?hd (xs:=([(⟨2,(-1),(-1)⟩:S56),(⟨2,1,(-1)⟩:S56)]:List (S56))) (inner:=[.int .i64 2,.int .i64 (-1),.int .i64 (-1),.int .i64 2,.int .i64 1,.int .i64 (-1)]) (ok:=fun _=>True) (okp:=fun _=>True) ?hr ?hp (fun _ hk=>hk) trivial (Below.refl _ _) (Nat.le_refl _) (by simp) ?_;(case hd=>rfl);(case hg=>rfl);(case hr=>go_simp <;> rfl);(case hp=>exact(Reps.c3 (show Kd.M k56 _ _ _ (⟨2,(-1),(-1)⟩:S56) [.int .i64 2,.int .i64 (-1),.int .i64 (-1)] from(Yg _ _ _ (⟨2,(-1),(-1)⟩:S56))) (Reps.c3 (show Kd.M k56 _ _ _ (⟨2,1,(-1)⟩:S56) [.int .i64 2,.int .i64 1,.int .i64 (-1)] from(Yg _ _ _ (⟨2,1,(-1)⟩:S56))) (Reps.none _ _))));intro jp fu bn hb hg_ hnew_;clear hg_ hnew_;(first|rw[← fe.out] at bn|(simp only[Int.reduceToNat] at bn;rw[← fe.out] at bn));have af:=Aside0.mk (Kd.Q4 (Kd.Zr (Kd.Zr (Kd.Zr (Kd.Zr bn (Kd.Z4 (by(with_reducible repeat(first|apply Kd.Qm|apply Kd.Ql|apply Kd.Qo));exact(Kd.Qs (Kd.Qu (Kd.Qu (Kd.Qy L.out δ.out (by decide)) (fun _ hk=>hk.2) _) (fun _ hk=>hk.2) _) (fun _ h_=>h_.1))))) (Kd.Z4 (by(with_reducible repeat(first|apply Kd.Qm|apply Kd.Ql|apply Kd.Qo));exact(Kd.Qs (Kd.Qu (Kd.Qu (Kd.Qy Y.out δ.out (by decide)) (fun _ hk=>hk.2) _) (fun _ hk=>hk.2) _) (fun _ h_=>h_.1))))) (Kd.Z4 (by(with_reducible repeat(first|apply Kd.Qm|apply Kd.Ql|apply Kd.Qo));exact(Kd.Qs (Kd.Qu (Kd.Qu (Kd.Qy η.out δ.out (by decide)) (fun _ hk=>hk.2) _) (fun _ hk=>hk.2) _) (fun _ h_=>h_.1))))) (Kd.Z4 (by(with_reducible repeat(first|apply Kd.Qm|apply Kd.Ql|apply Kd.Qo));exact(Kd.Qs (Kd.Qu (Kd.Qu (Kd.Qy a8.out δ.out (by decide)) (fun _ hk=>hk.2) _) (fun _ hk=>hk.2) _) (fun _ h_=>h_.1))))) (Qk bel));replace L:=Aside0.mk (Kd.Q7 (by(with_reducible repeat(first|apply Kd.Qm|apply Kd.Ql|apply Kd.Qo));exact(Kd.Qs (Kd.Qu (Kd.Qu (Kd.Qy L.out δ.out (by decide)) (fun _ hk=>hk.2) _) (fun _ hk=>hk.2) _) (fun _ h_=>h_.1))) (Kd.Zn bn) hb);replace U:=Aside0.mk (Kd.Qw (by(with_reducible repeat(first|apply Kd.Qm|apply Kd.Ql|apply Kd.Qo));exact(Kd.Qs (Kd.Qu (Kd.Qu (Kd.Qy U.out δ.out (by decide)) (fun _ hk=>hk.2) _) (fun _ hk=>hk.2) _) (fun _ h_=>h_.1))) hb);replace Y:=Aside0.mk (Kd.Q7 (by(with_reducible repeat(first|apply Kd.Qm|apply Kd.Ql|apply Kd.Qo));exact(Kd.Qs (Kd.Qu (Kd.Qu (Kd.Qy Y.out δ.out (by decide)) (fun _ hk=>hk.2) _) (fun _ hk=>hk.2) _) (fun _ h_=>h_.1))) (Kd.Zn bn) hb);replace γ:=Aside0.mk (Kd.Qw (by(with_reducible repeat(first|apply Kd.Qm|apply Kd.Ql|apply Kd.Qo));exact(Kd.Qs (Kd.Qu (Kd.Qu (Kd.Qy γ.out δ.out (by decide)) (fun _ hk=>hk.2) _) (fun _ hk=>hk.2) _) (fun _ h_=>h_.1))) hb);replace η :=Aside0.mk (Kd.Q7 (by(with_reducible repeat(first|apply Kd.Qm|apply Kd.Ql|apply Kd.Qo));exact(Kd.Qs (Kd.Qu (Kd.Qu (Kd.Qy η.out δ.out (by decide)) (fun _ hk=>hk.2) _) (fun _ hk=>hk.2) _) (fun _ h_=>h_.1))) (Kd.Zn bn) hb);replace μ :=Aside0.mk (Kd.Qw (by(with_reducible repeat(first|apply Kd.Qm|apply Kd.Ql|apply Kd.Qo));exact(Kd.Qs (Kd.Qu (Kd.Qu (Kd.Qy μ.out δ.out (by decide)) (fun _ hk=>hk.2) _) (fun _ hk=>hk.2) _) (fun _ h_=>h_.1))) hb);replace a9:=Aside0.mk (Kd.Qw (by(with_reducible repeat(first|apply Kd.Qm|apply Kd.Ql|apply Kd.Qo));exact(Kd.Qs (Kd.Qu (Kd.Qu (Kd.Qy a9.out δ.out (by decide)) (fun _ hk=>hk.2) _) (fun _ hk=>hk.2) _) (fun _ h_=>h_.1))) hb);replace a0:=Aside0.mk (Kd.Qw (by(with_reducible repeat(first|apply Kd.Qm|apply Kd.Ql|apply Kd.Qo));exact(Kd.Qs (Kd.Qu (Kd.Qu (Kd.Qy a0.out δ.out (by decide)) (fun _ hk=>hk.2) _) (fun _ hk=>hk.2) _) (fun _ h_=>h_.1))) hb);replace a2:=Aside0.mk (Kd.Qw (by(with_reducible repeat(first|apply Kd.Qm|apply Kd.Ql|apply Kd.Qo));exact(Kd.Qs (Kd.Qu (Kd.Qu (Kd.Qy a2.out δ.out (by decide)) (fun _ hk=>hk.2) _) (fun _ hk=>hk.2) _) (fun _ h_=>h_.1))) hb);replace a8:=Aside0.mk (Kd.Q7 (by(with_reducible repeat(first|apply Kd.Qm|apply Kd.Ql|apply Kd.Qo));exact(Kd.Qs (Kd.Qu (Kd.Qu (Kd.Qy a8.out δ.out (by decide)) (fun _ hk=>hk.2) _) (fun _ hk=>hk.2) _) (fun _ h_=>h_.1))) (Kd.Zn bn) hb);replace ae:=Aside0.mk (Kd.Qw (by(with_reducible repeat(first|apply Kd.Qm|apply Kd.Ql|apply Kd.Qo));exact(Kd.Qs (Kd.Qu (Kd.Qu (Kd.Qy ae.out δ.out (by decide)) (fun _ hk=>hk.2) _) (fun _ hk=>hk.2) _) (fun _ h_=>h_.1))) hb);replace B:=sBk B hb;replace O:=sBk O hb;replace D:=sBk D hb;replace X:=sBk X hb;replace I:=sBk I hb;replace δ :=Aside0.mk (Qn (g:=b5) (o:=.cells #[.slice bo ar.length bp,.slice co ch.length cp] 27 (0,0)) (by(with_reducible repeat(first|refine Qf ?_ _|refine Qc ?_|refine Qg ?_ _));refine Qx (cs:=#[.slice bo ar.length bp,.slice none 0 0]) ?_ 1 _ rfl;(with_reducible repeat(first|refine Qf ?_ _|refine Qc ?_|refine Qg ?_ _));refine Qx (cs:=#[.slice none 0 0,.slice none 0 0]) ?_ 0 _ rfl;(with_reducible repeat(first|refine Qf ?_ _|refine Qc ?_|refine Qg ?_ _));exact δ.out) hb);replace HB:=sHb hb;clear hb bn;obtain⟨eg,eh,ee⟩:=Kd.Q6 af.out;subst ee)|(go_at_call 15;(refine(newelref19_Same.calls k _ _ φ _ _ ζ _ _ fr _ _ ([]:List (S62)) true _ ?side1 ?side2 ?side3 ?side4 ?side5 ?side6 ?side7 ?side8 A8.out).mono ?_);(case side1=>repeat(first|exact(Kd.Qr Y.out).2.2|(with_reducible refine Kd.Za ?_ _)|(with_reducible refine Kd.Q9 ?_ _)|(with_reducible refine Kd.Zl ?_)));(case side2=>exact(Kd.Qr Y.out).2.1);(case side3=>repeat(first|exact(Kd.Qr γ.out).2.2|(with_reducible refine Kd.Za ?_ _)|(with_reducible refine Kd.Q9 ?_ _)|(with_reducible refine Kd.Zl ?_)));(case side4=>exact(Kd.Qr γ.out).2.1);(case side5=>repeat(first|exact(Kd.Qr af.out).2.2|(with_reducible refine Kd.Za ?_ _)|(with_reducible refine Kd.Q9 ?_ _)|(with_reducible refine Kd.Zl ?_)));(case side6=>exact(Kd.Qr af.out).2.1);(case side7=>exact Kd.Gf _ _);(case side8=>exact Nat.le_refl _);rintro e de ⟨rfl,hb⟩;have ε :=Aside0.mk (Kd.Qw (kra L) hb);have θ :=Aside0.mk (Kd.Qw (kra U) hb);have ι :=Aside0.mk (Kd.Qw (kra Y) hb);have κ :=Aside0.mk (Kd.Qw (kra γ) hb);have τ :=Aside0.mk (Kd.Qw (kra η) hb);have ψ :=Aside0.mk (Kd.Qw (kra μ) hb);have a1:=Aside0.mk (Kd.Qw (kra a9) hb);have ak:=Aside0.mk (Kd.Qw (kra a0) hb);have am:=Aside0.mk (Kd.Qw (kra a2) hb);have az:=Aside0.mk (Kd.Qw (kra a8) hb);have ap:=Aside0.mk (Kd.Qw (kra ae) hb);have av:=Aside0.mk (Kd.Qw (kra af) hb);have b0:=Aside0.mk (Qn (g:=ac) (o:=.cells #[.int .i64 4,.int .i64 2] 23 (0,0)) (bka B) hb);have ba:=Aside0.mk (Qn (g:=σ) (o:=.cells #[.slice b2 J.length b1,.slice b9 Z.length b4] 27 (0,0)) (bka O) hb);have bb:=Aside0.mk (Qn (g:=al) (o:=.cells #[.slice br φ.length bq,.slice ax ζ.length aw] 27 (0,0)) (bka D) hb);have bf:=Aside0.mk (Qn (g:=b3) (o:=.cells #[.slice bm aj.length b7,.slice bh an.length be] 27 (0,0)) (bka X) hb);have bg:=Aside0.mk (Qn (g:=au) (o:=.cells #[.slice bv bk.length bw,.slice bd ao.length bi,.slice ck ce.length cn] 47 (0,0)) (bka I) hb);have dc:=Aside0.mk (Qn (g:=b5) (o:=.cells #[.slice bo ar.length bp,.slice co ch.length cp] 27 (0,0)) (bka δ) hb);have dd:=Aside0.mk (Qv bel hb);clear L;clear U;clear Y;clear γ;clear η;clear μ;clear a9;clear a0;clear a2;clear a8;clear ae;clear af;clear B;clear O;clear D;clear X;clear I;clear δ;clear HB;have L:= ε;have U:= θ;have Y:= ι;have γ:= κ;have η := τ;have μ := ψ;have a9:=a1;have a0:=ak;have a2:=am;have a8:=az;have ae:=ap;have af:=av;have B:=b0;have O:=ba;have D:=bb;have X:=bf;have I:=bg;have δ :=dc;have HB:=dd;clear ε θ ι κ τ ψ a1 ak am az ap av b0 ba bb bf bg dc dd;(try clear hb);(try clear a4);(try clear hk);(try clear hi);have fp:de.cell? ⟨au,0,none⟩=some (.slice bv bk.length bw):=(Qa I.out 0).trans rfl;have fq:de.cell? ⟨au,1,none⟩=some (.slice bd ao.length bi):=(Qa I.out 1).trans rfl;have iw:de.cell? ⟨au,2,none⟩=some (.slice ck ce.length cn):=(Qa I.out 2).trans rfl;have g0:=Qb I.out 0;have g1:=Qb I.out 1;have ix:=Qb I.out 2;have gu:de.cell? ⟨b5,0,none⟩=some (.slice bo ar.length bp):=(Qa δ.out 0).trans rfl;have gv:de.cell? ⟨b5,1,none⟩=some (.slice co ch.length cp):=(Qa δ.out 1).trans rfl;have gw:=Qb δ.out 0;have hh:=Qb δ.out 1;have iy:de.cell? ⟨σ,0,none⟩=some (.slice b2 J.length b1):=(Qa O.out 0).trans rfl;have iz:de.cell? ⟨σ,1,none⟩=some (.slice b9 Z.length b4):=(Qa O.out 1).trans rfl;have j2:=Qb O.out 0;have j3:=Qb O.out 1)|(go_at_call 27;(with_reducible refine(call_Same.calls k _ _ J _ _ Z _ _ J _ _ Z true _ ?side1 ?side2 ?side3 ?side4 ?side5 ?side6 ?side7 ?side8 il.out).mono ?_);(case side1=>repeat(first|exact(Kd.Qr L.out).2.2|(with_reducible refine Kd.Za ?_ _)|(with_reducible refine Kd.Q9 ?_ _)|(with_reducible refine Kd.Zl ?_)));(case side2=>exact(Kd.Qr L.out).2.1);(case side3=>repeat(first|exact(Kd.Qr U.out).2.2|(with_reducible refine Kd.Za ?_ _)|(with_reducible refine Kd.Q9 ?_ _)|(with_reducible refine Kd.Zl ?_)));(case side4=>exact(Kd.Qr U.out).2.1);(case side5=>repeat(first|exact(Kd.Qr L.out).2.2|(with_reducible refine Kd.Za ?_ _)|(with_reducible refine Kd.Q9 ?_ _)|(with_reducible refine Kd.Zl ?_)));(case side6=>exact(Kd.Qr L.out).2.1);(case side7=>repeat(first|exact(Kd.Qr U.out).2.2|(with_reducible refine Kd.Za ?_ _)|(with_reducible refine Kd.Q9 ?_ _)|(with_reducible refine Kd.Zl ?_)));(case side8=>exact(Kd.Qr U.out).2.1);rintro e ff ⟨rfl,hb⟩;have ε :=Aside0.mk (Kd.Qw (kra L) hb);have θ :=Aside0.mk (Kd.Qw (kra U) hb);have ι :=Aside0.mk (Kd.Qw (kra Y) hb);have κ :=Aside0.mk (Kd.Qw (kra γ) hb);have τ :=Aside0.mk (Kd.Qw (kra η) hb);have ψ :=Aside0.mk (Kd.Qw (kra μ) hb);have a1:=Aside0.mk (Kd.Qw (kra a9) hb);have ak:=Aside0.mk (Kd.Qw (kra a0) hb);have am:=Aside0.mk (Kd.Qw (kra a2) hb);have az:=Aside0.mk (Kd.Qw (kra a8) hb);have ap:=Aside0.mk (Kd.Qw (kra ae) hb);have av:=Aside0.mk (Kd.Qw (kra af) hb);have b0:=Aside0.mk (Qn (g:=ac) (o:=.cells #[.int .i64 4,.int .i64 2] 23 (0,0)) (bka B) hb);have ba:=Aside0.mk (Qn (g:=σ) (o:=.cells #[.slice b2 J.length b1,.slice b9 Z.length b4] 27 (0,0)) (bka O) hb);have bb:=Aside0.mk (Qn (g:=al) (o:=.cells #[.slice br φ.length bq,.slice ax ζ.length aw] 27 (0,0)) (bka D) hb);have bf:=Aside0.mk (Qn (g:=b3) (o:=.cells #[.slice bm aj.length b7,.slice bh an.length be] 27 (0,0)) (bka X) hb);have bg:=Aside0.mk (Qn (g:=au) (o:=.cells #[.slice bv bk.length bw,.slice bd ao.length bi,.slice ck ce.length cn] 47 (0,0)) (bka I) hb);have dc:=Aside0.mk (Qn (g:=b5) (o:=.cells #[.slice bo ar.length bp,.slice co ch.length cp] 27 (0,0)) (bka δ) hb);have dd:=Aside0.mk (Qv bel hb);clear L;clear U;clear Y;clear γ;clear η;clear μ;clear a9;clear a0;clear a2;clear a8;clear ae;clear af;clear B;clear O;clear D;clear X;clear I;clear δ;clear HB;have L:= ε;have U:= θ;have Y:= ι;have γ:= κ;have η := τ;have μ := ψ;have a9:=a1;have a0:=ak;have a2:=am;have a8:=az;have ae:=ap;have af:=av;have B:=b0;have O:=ba;have D:=bb;have X:=bf;have I:=bg;have δ :=dc;have HB:=dd;clear ε θ ι κ τ ψ a1 ak am az ap av b0 ba bb bf bg dc dd;(try clear hb);(try clear a4);(try clear hk);(try clear hi);have g2:ff.cell? ⟨σ,0,none⟩=some (.slice b2 J.length b1):=(Qa O.out 0).trans rfl;have g3:ff.cell? ⟨σ,1,none⟩=some (.slice b9 Z.length b4):=(Qa O.out 1).trans rfl;have g4:=Qb O.out 0;have g5:=Qb O.out 1;have f4:ff.cell? ⟨al,0,none⟩=some (.slice br φ.length bq):=(Qa D.out 0).trans rfl;have f7:ff.cell? ⟨al,1,none⟩=some (.slice ax ζ.length aw):=(Qa D.out 1).trans rfl;have f8:=Qb D.out 0;have f9:=Qb D.out 1)|(go_at_call 27;(with_reducible refine(call_Same.calls k _ _ J _ _ Z _ _ φ _ _ ζ false _ ?side1 ?side2 ?side3 ?side4 ?side5 ?side6 ?side7 ?side8 j4.out).mono ?_);(case side1=>repeat(first|exact(Kd.Qr L.out).2.2|(with_reducible refine Kd.Za ?_ _)|(with_reducible refine Kd.Q9 ?_ _)|(with_reducible refine Kd.Zl ?_)));(case side2=>exact(Kd.Qr L.out).2.1);(case side3=>repeat(first|exact(Kd.Qr U.out).2.2|(with_reducible refine Kd.Za ?_ _)|(with_reducible refine Kd.Q9 ?_ _)|(with_reducible refine Kd.Zl ?_)));(case side4=>exact(Kd.Qr U.out).2.1);(case side5=>repeat(first|exact(Kd.Qr Y.out).2.2|(with_reducible refine Kd.Za ?_ _)|(with_reducible refine Kd.Q9 ?_ _)|(with_reducible refine Kd.Zl ?_)));(case side6=>exact(Kd.Qr Y.out).2.1);(case side7=>repeat(first|exact(Kd.Qr γ.out).2.2|(with_reducible refine Kd.Za ?_ _)|(with_reducible refine Kd.Q9 ?_ _)|(with_reducible refine Kd.Zl ?_)));(case side8=>exact(Kd.Qr γ.out).2.1);rintro e fi ⟨rfl,hb⟩;have ε :=Aside0.mk (Kd.Qw (kra L) hb);have θ :=Aside0.mk (Kd.Qw (kra U) hb);have ι :=Aside0.mk (Kd.Qw (kra Y) hb);have κ :=Aside0.mk (Kd.Qw (kra γ) hb);have τ :=Aside0.mk (Kd.Qw (kra η) hb);have ψ :=Aside0.mk (Kd.Qw (kra μ) hb);have a1:=Aside0.mk (Kd.Qw (kra a9) hb);have ak:=Aside0.mk (Kd.Qw (kra a0) hb);have am:=Aside0.mk (Kd.Qw (kra a2) hb);have az:=Aside0.mk (Kd.Qw (kra a8) hb);have ap:=Aside0.mk (Kd.Qw (kra ae) hb);have av:=Aside0.mk (Kd.Qw (kra af) hb);have b0:=Aside0.mk (Qn (g:=ac) (o:=.cells #[.int .i64 4,.int .i64 2] 23 (0,0)) (bka B) hb);have ba:=Aside0.mk (Qn (g:=σ) (o:=.cells #[.slice b2 J.length b1,.slice b9 Z.length b4] 27 (0,0)) (bka O) hb);have bb:=Aside0.mk (Qn (g:=al) (o:=.cells #[.slice br φ.length bq,.slice ax ζ.length aw] 27 (0,0)) (bka D) hb);have bf:=Aside0.mk (Qn (g:=b3) (o:=.cells #[.slice bm aj.length b7,.slice bh an.length be] 27 (0,0)) (bka X) hb);have bg:=Aside0.mk (Qn (g:=au) (o:=.cells #[.slice bv bk.length bw,.slice bd ao.length bi,.slice ck ce.length cn] 47 (0,0)) (bka I) hb);have dc:=Aside0.mk (Qn (g:=b5) (o:=.cells #[.slice bo ar.length bp,.slice co ch.length cp] 27 (0,0)) (bka δ) hb);have dd:=Aside0.mk (Qv bel hb);clear L;clear U;clear Y;clear γ;clear η;clear μ;clear a9;clear a0;clear a2;clear a8;clear ae;clear af;clear B;clear O;clear D;clear X;clear I;clear δ;clear HB;have L:= ε;have U:= θ;have Y:= ι;have γ:= κ;have η := τ;have μ := ψ;have a9:=a1;have a0:=ak;have a2:=am;have a8:=az;have ae:=ap;have af:=av;have B:=b0;have O:=ba;have D:=bb;have X:=bf;have I:=bg;have δ :=dc;have HB:=dd;clear ε θ ι κ τ ψ a1 ak am az ap av b0 ba bb bf bg dc dd;(try clear hb);(try clear a4);(try clear hk);(try clear hi);have i1:fi.cell? ⟨ac,0,none⟩=some (.int .i64 4):=(Qa B.out 0).trans rfl;have i2:fi.cell? ⟨ac,1,none⟩=some (.int .i64 2):=(Qa B.out 1).trans rfl;have i3:=Qb B.out 0;have i4:=Qb B.out 1;have hj:fi.cell? ⟨al,0,none⟩=some (.slice br φ.length bq):=(Qa D.out 0).trans rfl;have hl:fi.cell? ⟨al,1,none⟩=some (.slice ax ζ.length aw):=(Qa D.out 1).trans rfl;have hu:=Qb D.out 0;have hx:=Qb D.out 1)|(go_at_call 14;(with_reducible refine(call_Check.calls k 4 2 _ _ φ _ _ ζ ξ _ ?side1 ?side2 ?side3 ?side4 iq.out).mono ?_);(case side1=>repeat(first|exact(Kd.Qr Y.out).2.2|(with_reducible refine Kd.Za ?_ _)|(with_reducible refine Kd.Q9 ?_ _)|(with_reducible refine Kd.Zl ?_)));(case side2=>exact(Kd.Qr Y.out).2.1);(case side3=>repeat(first|exact(Kd.Qr γ.out).2.2|(with_reducible refine Kd.Za ?_ _)|(with_reducible refine Kd.Q9 ?_ _)|(with_reducible refine Kd.Zl ?_)));(case side4=>exact(Kd.Qr γ.out).2.1);rintro e jr ⟨rfl,hb⟩;have ε :=Aside0.mk (Kd.Qw (kra L) hb);have θ :=Aside0.mk (Kd.Qw (kra U) hb);have ι :=Aside0.mk (Kd.Qw (kra Y) hb);have κ :=Aside0.mk (Kd.Qw (kra γ) hb);have τ :=Aside0.mk (Kd.Qw (kra η) hb);have ψ :=Aside0.mk (Kd.Qw (kra μ) hb);have a1:=Aside0.mk (Kd.Qw (kra a9) hb);have ak:=Aside0.mk (Kd.Qw (kra a0) hb);have am:=Aside0.mk (Kd.Qw (kra a2) hb);have az:=Aside0.mk (Kd.Qw (kra a8) hb);have ap:=Aside0.mk (Kd.Qw (kra ae) hb);have av:=Aside0.mk (Kd.Qw (kra af) hb);have b0:=Aside0.mk (Qn (g:=ac) (o:=.cells #[.int .i64 4,.int .i64 2] 23 (0,0)) (bka B) hb);have ba:=Aside0.mk (Qn (g:=σ) (o:=.cells #[.slice b2 J.length b1,.slice b9 Z.length b4] 27 (0,0)) (bka O) hb);have bb:=Aside0.mk (Qn (g:=al) (o:=.cells #[.slice br φ.length bq,.slice ax ζ.length aw] 27 (0,0)) (bka D) hb);have bf:=Aside0.mk (Qn (g:=b3) (o:=.cells #[.slice bm aj.length b7,.slice bh an.length be] 27 (0,0)) (bka X) hb);have bg:=Aside0.mk (Qn (g:=au) (o:=.cells #[.slice bv bk.length bw,.slice bd ao.length bi,.slice ck ce.length cn] 47 (0,0)) (bka I) hb);have dc:=Aside0.mk (Qn (g:=b5) (o:=.cells #[.slice bo ar.length bp,.slice co ch.length cp] 27 (0,0)) (bka δ) hb);have dd:=Aside0.mk (Qv bel hb);clear L;clear U;clear Y;clear γ;clear η;clear μ;clear a9;clear a0;clear a2;clear a8;clear ae;clear af;clear B;clear O;clear D;clear X;clear I;clear δ;clear HB;have L:= ε;have U:= θ;have Y:= ι;have γ:= κ;have η := τ;have μ := ψ;have a9:=a1;have a0:=ak;have a2:=am;have a8:=az;have ae:=ap;have af:=av;have B:=b0;have O:=ba;have D:=bb;have X:=bf;have I:=bg;have δ :=dc;have HB:=dd;clear ε θ ι κ τ ψ a1 ak am az ap av b0 ba bb bf bg dc dd;(try clear hb);(try clear a4);(try clear hk);(try clear hi)))
           go_ret
           exact⟨rfl,HB.out⟩
         ·replace a3:=Bool.eq_false_iff.mpr a3
          subst a3
          have H1:(none)=some r:=by rw[if_neg (show ¬ (false=true) by decide)] at H;exact H
          clear H
          have H:=H1
          clear H1
          exact absurd H (by simp)
        ·rw[if_neg ay] at H
         exact absurd H (by simp)
       ·rw[if_neg bc] at H
        exact absurd H (by simp)
      ·rw[if_neg cj] at H
       exact absurd H (by simp)
     ·rw[if_neg cg] at H
      exact absurd H (by simp)
    ·rw[if_neg c10] at H
     exact absurd H (by simp)
   ·replace c9:=Bool.eq_false_iff.mpr c9
    subst c9
    have H1:(none)=some r:=by rw[if_neg (show ¬ (false=true) by decide)] at H;exact H
    clear H
    have H:=H1
    clear H1
    exact absurd H (by simp)
  ·rw[if_neg c7] at H
   exact absurd H (by simp)
 ·rw[if_neg c6] at H
  exact absurd H (by simp)
end Go.Proofs.Ytjehhhlhalkieaa.C
namespace Go.Proofs.Ytjehhhlhalkieaa.Call
open Go.RowKit Go.Proofs.YtjehhhlhalkieaaW.PrintWords Go.Proofs.YtjehhhlhalkieaaW.PrintLast Go.Proofs.YtjehhhlhalkieaaW.PrintMore Go.Proofs.Ytjehhhlhalkieaa.C
set_option linter.unusedVariables false
set_option linter.unusedSimpArgs false
theorem Up (l m:List Hall) (hm:l.length≤1000000000) (hlm:l.length=m.length) (j:Nat):∀ (f i:Nat),i+j=l.length→j<f → ∃ b,api_Hall.l0 f l m (l.length:Int) (i:Int)=some b∧(b=true↔l.drop i=m.drop i):=by
  induction j with
  |zero=>
    intro f i hi hf
    obtain⟨f,rfl⟩:∃ f',f=f'+1:=⟨f-1,by omega⟩
    refine⟨true, ?_, ?_⟩
    · unfold api_Hall.l0
      rw[if_neg (by omega)]
    · rw[List.drop_eq_nil_of_le (by omega),List.drop_eq_nil_of_le (by omega)]
      simp
  |succ j ih=>
    intro f i hi hf
    obtain⟨f,rfl⟩:∃ f',f=f'+1:=⟨f-1,by omega⟩
    have h1:i<l.length:=by omega
    have O:i<m.length:=by omega
    unfold api_Hall.l0
    rw[if_pos (by omega),if_pos (by omega),if_pos (by omega),if_pos (by omega),Yj l i h1,Yj m i O,show wrap64 ((i:Int)+1)=((i+1:Nat):Int) from by unfold wrap64;omega]
    rw[List.drop_eq_getElem_cons h1,List.drop_eq_getElem_cons O]
    by_cases hx:l[i]=m[i]
    · rw[hx,if_neg (by simp)]
      obtain⟨b,hb,a4⟩:=ih f (i+1) (by omega) (by omega)
      exact⟨b,hb,by rw[a4,List.cons.injEq];exact⟨fun h=>⟨rfl,h⟩,fun h=>h.2⟩⟩
    · refine⟨false, ?_, ?_⟩
      · rw[if_pos]
        have hne:¬ (l[i].f0=m[i].f0∧l[i].f1=m[i].f1∧l[i].f2=m[i].f2):=fun h=>hx (by
          have e:=h
          cases hl:l[i];cases hmm:m[i]
          rw[hl,hmm] at e
          obtain⟨e1,e2,J⟩:=e
          simp only at e1 e2 J
          subst e1 e2 J
          rfl)
        simp only[Bool.or_eq_true,Bool.not_eq_true',beq_eq_false_iff_ne,ne_eq]
        by_cases Y:l[i].f0=m[i].f0
        · by_cases h1:l[i].f1=m[i].f1
          · exact .inr (.inr fun h=>hne ⟨Y,h1,h⟩)
          · exact .inr (.inl h1)
        · exact .inl Y
      · exact⟨fun h=>(by cases h),fun h=>absurd (List.cons.inj h).1 hx⟩
theorem Uo (l m:List Ins) (hm:l.length≤1000000000) (hlm:l.length=m.length) (j:Nat):∀ (f i:Nat),i+j=l.length→j<f → ∃ b,api_Inside.l0 f l m (l.length:Int) (i:Int)=some b∧(b=true↔l.drop i=m.drop i):=by
  induction j with
  |zero=>
    intro f i hi hf
    obtain⟨f,rfl⟩:∃ f',f=f'+1:=⟨f-1,by omega⟩
    refine⟨true, ?_, ?_⟩
    · unfold api_Inside.l0
      rw[if_neg (by omega)]
    · rw[List.drop_eq_nil_of_le (by omega),List.drop_eq_nil_of_le (by omega)]
      simp
  |succ j ih=>
    intro f i hi hf
    obtain⟨f,rfl⟩:∃ f',f=f'+1:=⟨f-1,by omega⟩
    have h1:i<l.length:=by omega
    have O:i<m.length:=by omega
    unfold api_Inside.l0
    rw[if_pos (by omega),if_pos (by omega),if_pos (by omega),if_pos (by omega),Yq l i h1,Yq m i O,show wrap64 ((i:Int)+1)=((i+1:Nat):Int) from by unfold wrap64;omega]
    rw[List.drop_eq_getElem_cons h1,List.drop_eq_getElem_cons O]
    by_cases hx:l[i]=m[i]
    · rw[hx,if_neg (by simp)]
      obtain⟨b,hb,a4⟩:=ih f (i+1) (by omega) (by omega)
      exact⟨b,hb,by rw[a4,List.cons.injEq];exact⟨fun h=>⟨rfl,h⟩,fun h=>h.2⟩⟩
    · refine⟨false, ?_, ?_⟩
      · rw[if_pos]
        have hne:¬ (l[i].f0=m[i].f0∧l[i].f1=m[i].f1):=fun h=>hx (by
          have e:=h
          cases hl:l[i];cases hmm:m[i]
          rw[hl,hmm] at e
          obtain⟨e1,e2⟩:=e
          simp only at e1 e2
          subst e1 e2
          rfl)
        simp only[Bool.or_eq_true,Bool.not_eq_true',beq_eq_false_iff_ne,ne_eq]
        by_cases Y:l[i].f0=m[i].f0
        · exact .inr fun h=>hne ⟨Y,h⟩
        · exact .inl Y
      · exact⟨fun h=>(by cases h),fun h=>absurd (List.cons.inj h).1 hx⟩
theorem same_eq (k:Nat) (H:List Hall) (I:List Ins) (H':List Hall) (I':List Ins) (hH:H.length<900000000) (hI:I.length<900000000) (hk:H.length+I.length+2<k):∃ b,call_Same.f k H I H' I'=some b∧(b=true↔(H=H'∧I=I')):=by
  unfold call_Same.f api_Hall.f api_Inside.f
  by_cases h1:H.length=H'.length
  · rw[if_pos (by omega)]
    obtain⟨b,hb,a4⟩:=Up H H' (by omega) h1 H.length k 0 (by omega) (by omega)
    rw[List.drop_zero,List.drop_zero] at a4
    rw[show((0:Nat):Int)=0 from rfl] at hb
    rw[hb]
    simp only[Option.bind_some]
    cases b
    · exact⟨false,by simp,by simp only[Bool.false_eq_true,false_iff] at a4 ⊢;exact fun h=>a4 h.1⟩
    · rw[if_pos rfl]
      have he:=a4.1 rfl
      by_cases O:I.length=I'.length
      · rw[if_pos (by omega)]
        obtain⟨c,hc,B⟩:=Uo I I' (by omega) O I.length k 0 (by omega) (by omega)
        rw[List.drop_zero,List.drop_zero] at B
        rw[show((0:Nat):Int)=0 from rfl] at hc
        rw[hc]
        exact⟨c,rfl,by rw[B];exact⟨fun h=>⟨he,h⟩,fun h=>h.2⟩⟩
      · rw[if_neg (by omega)]
        exact⟨false,rfl,by simp only[Bool.false_eq_true,false_iff];rintro⟨_,rfl⟩;exact O rfl⟩
  · rw[if_neg (by omega)]
    exact⟨false,by simp,by simp only[Bool.false_eq_true,false_iff];rintro⟨rfl,_⟩;exact h1 rfl⟩
theorem N0 (H:List Hall) (I:List Ins):newelref19_Few.f H I=some false∨(newelref19_Few.f H I=some true∧H.length≤130∧I.length≤520):=by
  unfold newelref19_Few.f
  by_cases h1:(H.length:Int)≤130
  · rw[if_pos h1]
    by_cases O:(I.length:Int)≤520
    · exact .inr ⟨by rw[decide_eq_true O],by omega,by omega⟩
    · exact .inl (by rw[decide_eq_false O])
  · rw[if_neg h1];exact .inl rfl
theorem Me:newellaw19_awake.f 40=some true:=by kernel_rfl
theorem Md (k:Nat) (hk:40≤k):newellaw19_awake.f k=some true:=Ld (g:=newellaw19_awake.f) newellaw19_awake.mono hk Me
end Go.Proofs.Ytjehhhlhalkieaa.Call

