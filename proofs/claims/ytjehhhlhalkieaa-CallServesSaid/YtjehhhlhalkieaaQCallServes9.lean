/- Texts of this claim, one behind the other: what the law's functions come to, walked (printed by a program, with the words that the print uses), and what that is, in plain Lean. No conditions of their own. -/
import Derived.Test.YtjehhhlhalkieaaQCallServes8
import Derived.Deep.RegionLaw
import Derived.Laws.NewBlocks
import Derived.Lib.AppendZerosOnto
import Derived.Shelf.Spec.SlicesInsert
namespace Go.Proofs.Ytjehhhlhalkieaa.C
open Go.RowKit Go.Proofs.YtjehhhlhalkieaaW.PrintWords Go.Proofs.YtjehhhlhalkieaaW.PrintLast Go.Proofs.YtjehhhlhalkieaaW.PrintMore
set_option linter.unusedVariables false
set_option linter.unusedSimpArgs false
section
variable {α : Type} {d : Kd α} {enc : α → List Value}
theorem Vf (a b c:List Value) (n:Nat) (h:n=a.length+b.length+c.length) (r:List Value):(a++b++(c++r)).take n=a++b++c:=by
  subst h
  rw[← List.append_assoc,List.take_left' (by simp only[List.length_append])]
theorem Gc (F:Flat d enc) {e:TypeId} (w:World) (b i n:Nat) (cur:Array Value) (l:List α) (x:α) (hh:w.heap[b]?=some (.cells cur e (0,0))) (hl:l.length=n) (hi:i≤n) (hs:(n+1) * d.sz≤cur.size) (ht:cur.toList.take (i * d.sz)=Zj enc (l.take i)):
    ∃ cur',((w.setCells b ((i+1) * d.sz) (Zj enc (l.drop i))).setCells b (i * d.sz) (enc x)).heap[b]?=some (.cells cur' e (0,0))∧cur'.size=cur.size∧cur'.toList.take ((n+1) * d.sz)=Zj enc (l.take i ++ [x]++l.drop i):=by
  have l1:(Zj enc (l.drop i)).length=(n-i) * d.sz:=by rw[Zy F,List.length_drop,hl]
  have l0:(Zj enc (l.take i)).length=i * d.sz:=by rw[Zy F,List.length_take,hl,Nat.min_eq_left hi]
  have Y:(i+1) * d.sz+(n-i) * d.sz=(n+1) * d.sz:=by rw[← Nat.add_mul];congr 1;omega
  have Z:(i+1) * d.sz=i * d.sz+d.sz:=by rw[Nat.add_mul,Nat.one_mul]
  obtain⟨B,J,a2,X⟩:=Xr (Zj enc (l.drop i)) ((i+1) * d.sz) w cur hh (by rw[l1,Y];exact hs)
  obtain⟨D,L,b2,b3⟩:=Xr (enc x) (i * d.sz) _ B J (by rw[F.len,a2,← Z];omega)
  refine⟨D,L,by rw[b2,a2], ?_⟩
  have hcl:cur.toList.length=cur.size:=by simp
  have O:B.toList.take (i * d.sz)=Zj enc (l.take i):=by
    rw[X,List.append_assoc,List.take_append_of_le_length (by rw[List.length_take,hcl];omega),List.take_take,Nat.min_eq_left (by omega),ht]
  have d1:B.toList.drop (i * d.sz+d.sz)=Zj enc (l.drop i)++cur.toList.drop ((i+1) * d.sz+(Zj enc (l.drop i)).length):=by
    rw[X,← Z,List.append_assoc,List.drop_left' (by rw[List.length_take,hcl];omega)]
  rw[b3,O,F.len,d1,Vf _ _ _ _ (by rw[l0,l1,F.len,← Z,Y])]
  rw[X4,X4]
  simp[Zj]
end
abbrev Xk:S56→List Value:=(fun x:S56=>[.int .i64 x.f0,.int .i64 x.f1,.int .i64 x.f2])
set_option maxHeartbeats 4000000 in
set_option maxRecDepth 100000 in
theorem Wd (b n c i vb vc:Nat) (l:List S56) (x:S56) (w:World) (cur curv:Array Value) (hi:i<n) (hroom:n+1≤c) (γ:c≤9223372036854775807) (hvb:vb≠b) (hl:l.length=n)
    (hh:w.heap[b]?=some (.cells cur 56 (0,0))) (hcs:cur.size=c * 3) (ht:cur.toList.take (n * 3)=Zj Xk l) (hv:w.heap[vb]?=some (.cells curv 56 (0,0))) (hvs:0<curv.size) (hvt:curv.toList.take 3=Xk x):
    Calls Try.prog 63 #[.slice (some ⟨b,0,none⟩) n c,.int .i64 (i:Int),.slice (some ⟨vb,0,none⟩) 1 vc] w fun e w'=>
      e = .returned (.slice (some ⟨b,0,none⟩) (n+1) c)∧w'=(w.drew.setCells b ((i+1) * 3) (Zj Xk (l.drop i))).setCells b (i * 3) (Xk x):=by
  obtain⟨Y,B,U,hsz,I⟩:=info_parts Y0
  have J:(Try.prog.info? 56).map (·.size)=some 3:=by rw[B];simp[hsz]
  have hcur:∀ j v,cur[j]?=some v→w.cell? ⟨b,j,none⟩=some v:=fun j v hj=>by rw[cell_of_row w b j cur 56 (0,0) hh];exact hj
  have hsome:∀ j,j<c * 3→(w.cell? ⟨b,j,none⟩).isSome=true:=fun j hj=>by rw[cell_of_row w b j cur 56 (0,0) hh];simp;omega
  have hfz:∀ j,w.frozen? ⟨b,j,none⟩=false:=fun j=>Q6 hh j
  have hsa:w.shape? vb=some (56,curv.size):=by simp[World.shape?,hv]
  have hsb:w.shape? b=some (56,cur.size):=by simp[World.shape?,hh]
  have hsize:∀ w,(sizeOf 56).run Try.prog w = .ok 3 w:=fun w=>by kernel_rfl
  have hov:∀ lb cb,(callFunc 70 #[.slice (some ⟨vb,0,none⟩) 1 vc,.slice (some ⟨b,(i+1) * 3,none⟩) lb cb]).run Try.prog w = .ok (.value (.bool false)) w:=fun lb cb=>by
    rw[run_callFunc_extern Try.func70 kr kr kr (e:=Extern.SlicesOverlaps.overlaps #[24,24] #[4]) kr,
      Lib.run_overlaps_apart w 24 4 56 Try.underlying24 3 hsize ⟨vb,0,none⟩ ⟨b,(i+1) * 3,none⟩ 1 vc lb cb hvb 56 56 curv.size cur.size hsa hsb (by omega) (Q6 hv _) (Q6 hv _)]
    rfl
  have hdl:(Zj Xk (l.drop i)).length=(n-i) * 3:=by rw[Zy X3,List.length_drop,hl];rfl
  have hdr:(Zj Xk (l.drop i))=(cur.toList.take (n * 3)).drop (i * 3):=by rw[ht];exact(Jr X3 l i (by omega)).symm
  have O:∀ ty la dc lb sc,min lb la=n-i→(Builtin.copy_ #[24,24] ty #[.slice (some ⟨b,(i+1) * 3,none⟩) la dc,.slice (some ⟨b,i * 3,none⟩) lb sc]).run Try.prog w.drew = .ok (goInt (n-i:Nat)) (w.drew.setCells b ((i+1) * 3) (Zj Xk (l.drop i))):=fun ty la dc lb sc hm=>by
    have:=Yf (P:=Try.prog) w.drew 24 24 ty 56 3 b ((i+1) * 3) la dc ⟨b,i * 3,none⟩ lb sc (Zj Xk (l.drop i)) Try.underlying24 J (by rw[hdl,hm])
      (fun j v hj=>by
        have δ :=(List.getElem?_eq_some_iff.1 hj).1
        rw[hdr,List.getElem?_drop,List.getElem?_take] at hj
        split at hj
        · rw[Addr.add_lit]
          exact hcur (i * 3+j) v (by rw[← Array.getElem?_toList];exact hj)
        · cases hj)
      (fun j hj=>hsome _ (by rw[hdl] at hj;omega)) (fun j hj=>hfz _) (J6 X3 _)
    rw[hm] at this
    exact this
  obtain⟨W1,D⟩:∃ W1,W1=w.drew.setCells b ((i+1) * 3) (Zj Xk (l.drop i)):=⟨_,rfl⟩
  have X:∀ (W:World),(∀ x,W.cell? x=W1.cell? x)→(∀ x,W.frozen? x=W1.frozen? x) → ∀ ty la dc,1≤la→(Builtin.copy_ #[24,24] ty #[.slice (some ⟨b,i * 3,none⟩) la dc,.slice (some ⟨vb,0,none⟩) 1 vc]).run Try.prog W = .ok (goInt (1:Nat)) (W.setCells b (i * 3) (Xk x)):=fun W hWc hWf ty la dc hla=>by
    have hm:min 1 la=1:=by omega
    have:=Yf (P:=Try.prog) W 24 24 ty 56 3 b (i * 3) la dc ⟨vb,0,none⟩ 1 vc (Xk x) Try.underlying24 J (by rw[hm];rfl)
      (fun j v hj=>by
        rw[Addr.add_lit,hWc,D,World.cell?_setCells_out b _ _ _ _ (fun h _=>absurd h hvb)]
        rw[← hvt,List.getElem?_take] at hj
        split at hj
        · show w.cell? ⟨vb,0+j,none⟩=some v
          rw[Nat.zero_add,cell_of_row w vb j curv 56 (0,0) hv,← Array.getElem?_toList];exact hj
        · cases hj)
      (fun j hj=>by
        rw[hWc,D]
        have ε :j<3:=hj
        exact isSome_setCells b _ _ w.drew (fun q hq=>hsome ((i+1) * 3+q) (by rw[hdl] at hq;omega)) _ (hsome (i * 3+j) (by omega)))
      (fun j hj=>by rw[hWf,D,World.frozen?_setCells];exact hfz _) (X3.one x)
    rw[hm] at this
    exact this
  subst D
  have L:=X _ (fun _=>rfl) (fun _=>rfl) 3 (n+1-i) (c-i) (by omega)
  have g1:∀ W:World,(Instr.slice 24 (.slice (some ⟨b,0,none⟩) n c) (some (.int .i64 (i:Int))) none none).run Try.prog W = .ok (.slice (some ⟨b,i * 3,none⟩) (n-i) (c-i)) W:=fun W=>by
    rw[Xg (P:=Try.prog) 24 56 .i64 Try.underlying24 B 3 hsz (some ⟨b,0,none⟩) n c (i:Int) (by omega) (by omega) W,Int.toNat_natCast,if_neg (by omega),Option.map_some,Zz]
  have g2:∀ W:World,(Instr.slice 24 (.slice (some ⟨b,0,none⟩) n c) none (some (.int .i64 ((n:Int)+1))) none).run Try.prog W = .ok (.slice (some ⟨b,0,none⟩) (n+1) c) W:=fun W=>by
    have hel:Try.prog.elem 24=56:=by simp[Program.elem,Try.underlying24]
    rw[run_slice_h W 24 (some ⟨b,0,none⟩) n c (by rw[hel];exact Try.underlying24) .i64 ((n:Int)+1) (by omega) (by omega),hel]
    simp[sizeOf,typeInfo,B,sliced,Result.andThen,Addr.add]
  have g3:∀ W:World,(Instr.slice 24 (.slice (some ⟨b,0,none⟩) (n+1) c) (some (.int .i64 ((i:Int)+1))) none none).run Try.prog W = .ok (.slice (some ⟨b,(i+1) * 3,none⟩) (n+1 - (i+1)) (c - (i+1))) W:=fun W=>by
    rw[Xg (P:=Try.prog) 24 56 .i64 Try.underlying24 B 3 hsz (some ⟨b,0,none⟩) (n+1) c ((i:Int)+1) (by omega) (by omega) W,show((i:Int)+1).toNat=i+1 from by omega,if_neg (by omega),Option.map_some,Zz]
  have g4:∀ W:World,(Instr.slice 24 (.slice (some ⟨b,0,none⟩) (n+1) c) (some (.int .i64 (i:Int))) none none).run Try.prog W = .ok (.slice (some ⟨b,i * 3,none⟩) (n+1-i) (c-i)) W:=fun W=>by
    rw[Xg (P:=Try.prog) 24 56 .i64 Try.underlying24 B 3 hsz (some ⟨b,0,none⟩) (n+1) c (i:Int) (by omega) (by omega) W,Int.toNat_natCast,if_neg (by omega),Option.map_some,Zz]
  have hz2':¬ ((i:Int)=(n:Int)):=by omega
  have ζ :IntKind.i64.wrap ((i:Int)+1)=(i:Int)+1:=by rw[IntKind.wrap_i64];omega
  have Z:(0:Int)≤(i:Int)+1:=by omega
  have η :((n:Int)+1≤(c:Int)):=by omega
  have θ :¬ ((c:Int)<(n:Int)+1):=by omega
  clear J hcur hsome hfz hsa hsb hsize hdl hdr B U hsz I hh hcs ht hv hvs hvt
  go_enter Try.func63,Try.ntmps63
  go_wp2_with (simp only[hov])
  go_region_law (refine step_copy_runI rfl _ _ 24 24 rfl (.slice (some ⟨b,(i+1) * 3,none⟩) (n-i) (c - (i+1))) (.slice (some ⟨b,i * 3,none⟩) (n+1-i) (c-i)) (by simp[Act.eval,Act.put]) (by simp[Act.eval,Act.put]) (O _ _ _ _ _ (by omega)) ?_)
  go_wp2_with (at_builtin;refine wpList_copy_runI _ rfl _ _ 24 24 rfl (.slice (some ⟨b,i * 3,none⟩) (n+1-i) (c-i)) (.slice (some ⟨vb,0,none⟩) 1 vc) rfl rfl L ?_)
  go_ret
  exact⟨rfl,rfl⟩
abbrev encI:S62→List Value:=(fun x:S62=>[.int .i64 x.f0,.int .i64 x.f1])
set_option maxHeartbeats 4000000 in
set_option maxRecDepth 100000 in
theorem Wb (b n c i vb vc:Nat) (l:List S62) (x:S62) (w:World) (cur curv:Array Value) (hi:i<n) (hroom:n+1≤c) (γ:c≤9223372036854775807) (hvb:vb≠b) (hl:l.length=n)
    (hh:w.heap[b]?=some (.cells cur 62 (0,0))) (hcs:cur.size=c * 2) (ht:cur.toList.take (n * 2)=Zj encI l) (hv:w.heap[vb]?=some (.cells curv 62 (0,0))) (hvs:0<curv.size) (hvt:curv.toList.take 2=encI x):
    Calls Try.prog 60 #[.slice (some ⟨b,0,none⟩) n c,.int .i64 (i:Int),.slice (some ⟨vb,0,none⟩) 1 vc] w fun e w'=>
      e = .returned (.slice (some ⟨b,0,none⟩) (n+1) c)∧w'=(w.drew.setCells b ((i+1) * 2) (Zj encI (l.drop i))).setCells b (i * 2) (encI x):=by
  obtain⟨Y,B,U,hsz,I⟩:=info_parts Ji
  have J:(Try.prog.info? 62).map (·.size)=some 2:=by rw[B];simp[hsz]
  have hcur:∀ j v,cur[j]?=some v→w.cell? ⟨b,j,none⟩=some v:=fun j v hj=>by rw[cell_of_row w b j cur 62 (0,0) hh];exact hj
  have hsome:∀ j,j<c * 2→(w.cell? ⟨b,j,none⟩).isSome=true:=fun j hj=>by rw[cell_of_row w b j cur 62 (0,0) hh];simp;omega
  have hfz:∀ j,w.frozen? ⟨b,j,none⟩=false:=fun j=>Q6 hh j
  have hsa:w.shape? vb=some (62,curv.size):=by simp[World.shape?,hv]
  have hsb:w.shape? b=some (62,cur.size):=by simp[World.shape?,hh]
  have hsize:∀ w,(sizeOf 62).run Try.prog w = .ok 2 w:=fun w=>by kernel_rfl
  have hov:∀ lb cb,(callFunc 68 #[.slice (some ⟨vb,0,none⟩) 1 vc,.slice (some ⟨b,(i+1) * 2,none⟩) lb cb]).run Try.prog w = .ok (.value (.bool false)) w:=fun lb cb=>by
    rw[run_callFunc_extern Try.func68 kr kr kr (e:=Extern.SlicesOverlaps.overlaps #[25,25] #[4]) kr,
      Lib.run_overlaps_apart w 25 4 62 Try.underlying25 2 hsize ⟨vb,0,none⟩ ⟨b,(i+1) * 2,none⟩ 1 vc lb cb hvb 62 62 curv.size cur.size hsa hsb (by omega) (Q6 hv _) (Q6 hv _)]
    rfl
  have hdl:(Zj encI (l.drop i)).length=(n-i) * 2:=by rw[Zy X2,List.length_drop,hl];rfl
  have hdr:(Zj encI (l.drop i))=(cur.toList.take (n * 2)).drop (i * 2):=by rw[ht];exact(Jr X2 l i (by omega)).symm
  have O:∀ ty la dc lb sc,min lb la=n-i→(Builtin.copy_ #[25,25] ty #[.slice (some ⟨b,(i+1) * 2,none⟩) la dc,.slice (some ⟨b,i * 2,none⟩) lb sc]).run Try.prog w.drew = .ok (goInt (n-i:Nat)) (w.drew.setCells b ((i+1) * 2) (Zj encI (l.drop i))):=fun ty la dc lb sc hm=>by
    have:=Yf (P:=Try.prog) w.drew 25 25 ty 62 2 b ((i+1) * 2) la dc ⟨b,i * 2,none⟩ lb sc (Zj encI (l.drop i)) Try.underlying25 J (by rw[hdl,hm])
      (fun j v hj=>by
        have δ :=(List.getElem?_eq_some_iff.1 hj).1
        rw[hdr,List.getElem?_drop,List.getElem?_take] at hj
        split at hj
        · rw[Addr.add_lit]
          exact hcur (i * 2+j) v (by rw[← Array.getElem?_toList];exact hj)
        · cases hj)
      (fun j hj=>hsome _ (by rw[hdl] at hj;omega)) (fun j hj=>hfz _) (J6 X2 _)
    rw[hm] at this
    exact this
  obtain⟨W1,D⟩:∃ W1,W1=w.drew.setCells b ((i+1) * 2) (Zj encI (l.drop i)):=⟨_,rfl⟩
  have X:∀ (W:World),(∀ x,W.cell? x=W1.cell? x)→(∀ x,W.frozen? x=W1.frozen? x) → ∀ ty la dc,1≤la→(Builtin.copy_ #[25,25] ty #[.slice (some ⟨b,i * 2,none⟩) la dc,.slice (some ⟨vb,0,none⟩) 1 vc]).run Try.prog W = .ok (goInt (1:Nat)) (W.setCells b (i * 2) (encI x)):=fun W hWc hWf ty la dc hla=>by
    have hm:min 1 la=1:=by omega
    have:=Yf (P:=Try.prog) W 25 25 ty 62 2 b (i * 2) la dc ⟨vb,0,none⟩ 1 vc (encI x) Try.underlying25 J (by rw[hm];rfl)
      (fun j v hj=>by
        rw[Addr.add_lit,hWc,D,World.cell?_setCells_out b _ _ _ _ (fun h _=>absurd h hvb)]
        rw[← hvt,List.getElem?_take] at hj
        split at hj
        · show w.cell? ⟨vb,0+j,none⟩=some v
          rw[Nat.zero_add,cell_of_row w vb j curv 62 (0,0) hv,← Array.getElem?_toList];exact hj
        · cases hj)
      (fun j hj=>by
        rw[hWc,D]
        have ε :j<2:=hj
        exact isSome_setCells b _ _ w.drew (fun q hq=>hsome ((i+1) * 2+q) (by rw[hdl] at hq;omega)) _ (hsome (i * 2+j) (by omega)))
      (fun j hj=>by rw[hWf,D,World.frozen?_setCells];exact hfz _) (X2.one x)
    rw[hm] at this
    exact this
  subst D
  have L:=X _ (fun _=>rfl) (fun _=>rfl) 3 (n+1-i) (c-i) (by omega)
  have g1:∀ W:World,(Instr.slice 25 (.slice (some ⟨b,0,none⟩) n c) (some (.int .i64 (i:Int))) none none).run Try.prog W = .ok (.slice (some ⟨b,i * 2,none⟩) (n-i) (c-i)) W:=fun W=>by
    rw[Xg (P:=Try.prog) 25 62 .i64 Try.underlying25 B 2 hsz (some ⟨b,0,none⟩) n c (i:Int) (by omega) (by omega) W,Int.toNat_natCast,if_neg (by omega),Option.map_some,Zz]
  have g2:∀ W:World,(Instr.slice 25 (.slice (some ⟨b,0,none⟩) n c) none (some (.int .i64 ((n:Int)+1))) none).run Try.prog W = .ok (.slice (some ⟨b,0,none⟩) (n+1) c) W:=fun W=>by
    have hel:Try.prog.elem 25=62:=by simp[Program.elem,Try.underlying25]
    rw[run_slice_h W 25 (some ⟨b,0,none⟩) n c (by rw[hel];exact Try.underlying25) .i64 ((n:Int)+1) (by omega) (by omega),hel]
    simp[sizeOf,typeInfo,B,sliced,Result.andThen,Addr.add]
  have g3:∀ W:World,(Instr.slice 25 (.slice (some ⟨b,0,none⟩) (n+1) c) (some (.int .i64 ((i:Int)+1))) none none).run Try.prog W = .ok (.slice (some ⟨b,(i+1) * 2,none⟩) (n+1 - (i+1)) (c - (i+1))) W:=fun W=>by
    rw[Xg (P:=Try.prog) 25 62 .i64 Try.underlying25 B 2 hsz (some ⟨b,0,none⟩) (n+1) c ((i:Int)+1) (by omega) (by omega) W,show((i:Int)+1).toNat=i+1 from by omega,if_neg (by omega),Option.map_some,Zz]
  have g4:∀ W:World,(Instr.slice 25 (.slice (some ⟨b,0,none⟩) (n+1) c) (some (.int .i64 (i:Int))) none none).run Try.prog W = .ok (.slice (some ⟨b,i * 2,none⟩) (n+1-i) (c-i)) W:=fun W=>by
    rw[Xg (P:=Try.prog) 25 62 .i64 Try.underlying25 B 2 hsz (some ⟨b,0,none⟩) (n+1) c (i:Int) (by omega) (by omega) W,Int.toNat_natCast,if_neg (by omega),Option.map_some,Zz]
  have hz2':¬ ((i:Int)=(n:Int)):=by omega
  have ζ :IntKind.i64.wrap ((i:Int)+1)=(i:Int)+1:=by rw[IntKind.wrap_i64];omega
  have Z:(0:Int)≤(i:Int)+1:=by omega
  have η :((n:Int)+1≤(c:Int)):=by omega
  have θ :¬ ((c:Int)<(n:Int)+1):=by omega
  clear J hcur hsome hfz hsa hsb hsize hdl hdr B U hsz I hh hcs ht hv hvs hvt
  go_enter Try.func60,Try.ntmps60
  go_wp2_with (simp only[hov])
  go_region_law (refine step_copy_runI rfl _ _ 25 25 rfl (.slice (some ⟨b,(i+1) * 2,none⟩) (n-i) (c - (i+1))) (.slice (some ⟨b,i * 2,none⟩) (n+1-i) (c-i)) (by simp[Act.eval,Act.put]) (by simp[Act.eval,Act.put]) (O _ _ _ _ _ (by omega)) ?_)
  go_wp2_with (at_builtin;refine wpList_copy_runI _ rfl _ _ 25 25 rfl (.slice (some ⟨b,i * 2,none⟩) (n+1-i) (c-i)) (.slice (some ⟨vb,0,none⟩) 1 vc) rfl rfl L ?_)
  go_ret
  exact⟨rfl,rfl⟩
section
variable {α : Type} {d : Kd α} {enc : α → List Value}
theorem Gh (F:Flat d enc) {e:TypeId} (w:World) (b i n:Nat) (cur:Array Value) (l:List α) (x:α) (hh:w.heap[b]?=some (.cells cur e (0,0))) (hl:l.length=n) (hi:i≤n) (hs:(n+1) * d.sz≤cur.size) (ht:cur.toList.take (i * d.sz)=Zj enc (l.take i)):
    ∃ cur',((w.setCells b (i * d.sz) (enc x)).drew.setCells b ((i+1) * d.sz) (Zj enc (l.drop i))).heap[b]?=some (.cells cur' e (0,0))∧cur'.size=cur.size∧cur'.toList.take ((n+1) * d.sz)=Zj enc (l.take i ++ [x]++l.drop i):=by
  have l1:(Zj enc (l.drop i)).length=(n-i) * d.sz:=by rw[Zy F,List.length_drop,hl]
  have l0:(Zj enc (l.take i)).length=i * d.sz:=by rw[Zy F,List.length_take,hl,Nat.min_eq_left hi]
  have Y:(i+1) * d.sz+(n-i) * d.sz=(n+1) * d.sz:=by rw[← Nat.add_mul];congr 1;omega
  have Z:(i+1) * d.sz=i * d.sz+d.sz:=by rw[Nat.add_mul,Nat.one_mul]
  obtain⟨B,J,a2,X⟩:=Xr (enc x) (i * d.sz) w cur hh (by rw[F.len,← Z];omega)
  obtain⟨D,L,b2,b3⟩:=Xr (Zj enc (l.drop i)) ((i+1) * d.sz) ((w.setCells b (i * d.sz) (enc x)).drew) B J (by rw[l1,Y,a2];exact hs)
  refine⟨D,L,by rw[b2,a2], ?_⟩
  have hcl:cur.toList.length=cur.size:=by simp
  have O:B.toList.take ((i+1) * d.sz)=Zj enc (l.take i)++enc x:=by
    rw[X,ht,List.take_left' (by rw[List.length_append,l0,F.len,Z])]
  rw[b3,O,List.append_assoc _ (Zj enc (l.drop i)) _,← List.append_assoc,List.append_assoc _ (enc x)]
  rw[List.take_append_of_le_length (by simp only[List.length_append,l0,l1,F.len];rw[← Y,Z];omega),List.take_of_length_le (by simp only[List.length_append,l0,l1,F.len];rw[← Y,Z];omega)]
  rw[X4,X4]
  simp[Zj]
end
set_option maxHeartbeats 4000000 in
set_option maxRecDepth 100000 in
theorem Lb (b n c i vb vc:Nat) (l:List S56) (x:S56) (w:World) (cur curv:Array Value) (hi:i<n) (hnc:n≤c) (hroom:c<n+1) (hbig:n≤1000000000) (hvb:vb≠b) (hl:l.length=n)
    (hh:w.heap[b]?=some (.cells cur 56 (0,0))) (hcs:cur.size=c * 3) (ht:cur.toList.take (n * 3)=Zj Xk l) (hv:w.heap[vb]?=some (.cells curv 56 (0,0))) (hvs:0<curv.size) (hvt:curv.toList.take 3=Xk x):
    Calls Try.prog 63 #[.slice (some ⟨b,0,none⟩) n c,.int .i64 (i:Int),.slice (some ⟨vb,0,none⟩) 1 vc] w fun e w'=>
      e = .returned (.slice (some ⟨w.heap.size,0,none⟩) (n+1) (grownCap w (n+1) c 56)) ∧
      w'=(((w.alloc (.cells ((Zj Xk (l.take i)).toArray++Builtin.zeroCells (Value.agg #[(.int .i64 0),(.int .i64 0),(.int .i64 0)]).cells (n+1-i)++Builtin.zeroCells (Value.agg #[(.int .i64 0),(.int .i64 0),(.int .i64 0)]).cells (grownCap w (n+1) c 56 - (n+1))) 56)).drew.setCells w.heap.size (i * 3) (Xk x)).drew).setCells w.heap.size ((i+1) * 3) (Zj Xk (l.drop i)):=by
  obtain⟨Y,B,U,hsz,I⟩:=info_parts Y0
  have J:(Try.prog.info? 56).map (·.size)=some 3:=by rw[B];simp[hsz]
  have hcur:∀ j v,cur[j]?=some v→w.cell? ⟨b,j,none⟩=some v:=fun j v hj=>by rw[cell_of_row w b j cur 56 (0,0) hh];exact hj
  have hbw:b<w.heap.size:=Q5 hh
  have hvw:vb<w.heap.size:=Q5 hv
  have hkk:(n:Int)+1 - (i:Int)=((n+1-i:Nat):Int):=by omega
  have hik:i+(n+1-i)=n+1:=by omega
  have htl:(Zj Xk (l.take i)).length=i * 3:=by rw[Zy X3,List.length_take,hl,Nat.min_eq_left (by omega)];rfl
  have hdl:(Zj Xk (l.drop i)).length=(n-i) * 3:=by rw[Zy X3,List.length_drop,hl];rfl
  have htk:Zj Xk (l.take i)=(cur.toList.take (n * 3)).take (i * 3):=by rw[ht];exact(Y9 X3 l i (by omega)).symm
  have hdr:Zj Xk (l.drop i)=(cur.toList.take (n * 3)).drop (i * 3):=by rw[ht];exact(Jr X3 l i (by omega)).symm
  have hold:(Builtin.firstCells Y.size i (.slice (some ⟨b,0,none⟩) i c)).run Try.prog w.drew = .ok (Zj Xk (l.take i)).toArray w.drew:=by
    rw[hsz]
    exact run_firstCells_some (w:=w.drew) 3 i ⟨b,0,none⟩ i c (Zj Xk (l.take i)) htl (fun j v hj=>by
      rw[Zz]
      rw[htk,List.getElem?_take,List.getElem?_take] at hj
      split at hj
      · split at hj
        · exact hcur j v (by rw[← Array.getElem?_toList];exact hj)
        · cases hj
      · cases hj)
  have hrz:∀ ty,(Builtin.append_ #[24,3] ty #[.slice (some ⟨b,0,none⟩) i c,.int .i64 ((n:Int)+1 - (i:Int))]).run Try.prog w =
      .ok (.slice (some ⟨w.heap.size,0,none⟩) (n+1) (grownCap w (n+1) c 56)) (w.drew.alloc (.cells ((Zj Xk (l.take i)).toArray++Builtin.zeroCells (Value.agg #[(.int .i64 0),(.int .i64 0),(.int .i64 0)]).cells (n+1-i)++Builtin.zeroCells (Value.agg #[(.int .i64 0),(.int .i64 0),(.int .i64 0)]).cells (grownCap w (n+1) c 56 - (n+1))) 56)):=fun ty=>by
    have h:=Lib.run_append_grow_zeros (P:=Try.prog) w 24 3 ty 56 Y _ .i64 .i64 Try.underlying24 Try.underlying3 B U (some ⟨b,0,none⟩) i c (Zj Xk (l.take i)) hold (n+1-i) (by omega) (by rw[hsz];omega) (by omega) (by omega) (by rw[I];omega) (by rw[I,hik];exact growslice_fits (by omega) (by omega))
    rw[hik] at h
    rw[hkk]
    exact h
  obtain⟨G,hG⟩:∃ G,G=grownCap w (n+1) c 56:=⟨_,rfl⟩
  obtain⟨ROW,hROW⟩:∃ ROW:Array Value,ROW=(Zj Xk (l.take i)).toArray++Builtin.zeroCells (Value.agg #[(.int .i64 0),(.int .i64 0),(.int .i64 0)]).cells (n+1-i)++Builtin.zeroCells (Value.agg #[(.int .i64 0),(.int .i64 0),(.int .i64 0)]).cells (G - (n+1)):=⟨_,rfl⟩
  rw[← hG] at hrz ⊢
  rw[← hROW] at hrz ⊢
  have hRl:(n+1) * 3≤ROW.size:=by
    rw[hROW]
    simp only[Array.size_append,size_zeroCells,List.size_toArray,htl]
    show(n+1) * 3≤i * 3+(n+1-i) * 3+(G - (n+1)) * 3
    omega
  obtain⟨W1,D⟩:∃ W1,W1=w.drew.alloc (.cells ROW 56):=⟨_,rfl⟩
  rw[← D] at hrz
  have hN:∀ j,j<(n+1) * 3→(W1.cell? ⟨w.heap.size,j,none⟩).isSome=true:=fun j hj=>by
    rw[D,World.cell?_alloc_at (w:=w.drew) ROW _ w.heap.size j rfl,Array.getElem?_eq_getElem (by omega)];rfl
  have hNf:∀ j,W1.frozen? ⟨w.heap.size,j,none⟩=false:=fun j=>by rw[D];exact World.frozen?_alloc_at (w:=w.drew) ROW _ w.heap.size j rfl
  have hOb:∀ j v,w.cell? ⟨b,j,none⟩=some v→W1.cell? ⟨b,j,none⟩=some v:=fun j v h=>by rw[D,World.cell?_alloc_past (w:=w.drew) _ b j hbw];exact h
  have hOv:∀ j v,w.cell? ⟨vb,j,none⟩=some v→W1.cell? ⟨vb,j,none⟩=some v:=fun j v h=>by rw[D,World.cell?_alloc_past (w:=w.drew) _ vb j hvw];exact h
  have hcpA:∀ (W:World),(∀ x,W.cell? x=W1.cell? x)→(∀ x,W.frozen? x=W1.frozen? x) → ∀ ty la dc,1≤la→(Builtin.copy_ #[24,24] ty #[.slice (some ⟨w.heap.size,i * 3,none⟩) la dc,.slice (some ⟨vb,0,none⟩) 1 vc]).run Try.prog W = .ok (goInt (1:Nat)) (W.setCells w.heap.size (i * 3) (Xk x)):=fun W hWc hWf ty la dc hla=>by
    have hm:min 1 la=1:=by omega
    have:=Yf (P:=Try.prog) W 24 24 ty 56 3 w.heap.size (i * 3) la dc ⟨vb,0,none⟩ 1 vc (Xk x) Try.underlying24 J (by rw[hm];rfl)
      (fun j v hj=>by
        rw[Zz,hWc]
        rw[← hvt,List.getElem?_take] at hj
        split at hj
        · exact hOv j v (by rw[cell_of_row w vb j curv 56 (0,0) hv,← Array.getElem?_toList];exact hj)
        · cases hj)
      (fun j hj=>by
        rw[hWc]
        have ε :j<3:=hj
        exact hN (i * 3+j) (by omega))
      (fun j hj=>by rw[hWf];exact hNf _) (X3.one x)
    rw[hm] at this
    exact this
  have X:n+1≤G:=by rw[hG];exact grownCap_ge w _ _ _
  have η :G≤9223372036854775807:=by
    have:=grownCap_le_maxLen w (n+1) c 56 (by unfold maxLen;omega)
    rw[← hG] at this
    unfold maxLen at this
    omega
  have hbN:b≠w.heap.size:=by omega
  have hcpB:∀ (W:World),(∀ y,W.cell? y=(W1.setCells w.heap.size (i * 3) (Xk x)).cell? y)→(∀ y,W.frozen? y=(W1.setCells w.heap.size (i * 3) (Xk x)).frozen? y) → ∀ ty la dc lb sc,min lb la=n-i→(Builtin.copy_ #[24,24] ty #[.slice (some ⟨w.heap.size,(i+1) * 3,none⟩) la dc,.slice (some ⟨b,i * 3,none⟩) lb sc]).run Try.prog W = .ok (goInt (n-i:Nat)) (W.setCells w.heap.size ((i+1) * 3) (Zj Xk (l.drop i))):=fun W hWc hWf ty la dc lb sc hm=>by
    have:=Yf (P:=Try.prog) W 24 24 ty 56 3 w.heap.size ((i+1) * 3) la dc ⟨b,i * 3,none⟩ lb sc (Zj Xk (l.drop i)) Try.underlying24 J (by rw[hdl,hm])
      (fun j v hj=>by
        rw[hdr,List.getElem?_drop,List.getElem?_take] at hj
        split at hj
        · rw[Addr.add_lit,hWc,World.cell?_setCells_out _ _ _ _ _ (fun h _=>absurd h hbN)]
          exact hOb _ v (hcur (i * 3+j) v (by rw[← Array.getElem?_toList];exact hj))
        · cases hj)
      (fun j hj=>by
        rw[hWc]
        rw[hdl] at hj
        exact isSome_setCells _ _ _ W1 (fun q hq=>hN (i * 3+q) (by have:q<3:=hq;omega)) ((i+1) * 3+j) (hN ((i+1) * 3+j) (by omega)))
      (fun j hj=>by rw[hWf,World.frozen?_setCells];exact hNf _) (J6 X3 _)
    rw[hm] at this
    exact this
  subst D
  have O:∀ x,((w.alloc (.cells ROW 56)).drew).cell? x=(w.drew.alloc (.cells ROW 56)).cell? x:=fun x=>rfl
  have γ:∀ x,((w.alloc (.cells ROW 56)).drew).frozen? x=(w.drew.alloc (.cells ROW 56)).frozen? x:=fun x=>rfl
  have L:=hcpA _ O γ 3 (n+1-i) (G-i) (by omega)
  have δ :=hcpB ((w.alloc (.cells ROW 56)).drew.setCells w.heap.size (i * 3) (Xk x)).drew (fun x=>rfl) (fun x=>rfl) 3 (n-i) (G - (i+1)) (n-i) (c-i) (by omega)
  have g1:∀ W:World,(Instr.slice 24 (.slice (some ⟨b,0,none⟩) n c) (some (.int .i64 (i:Int))) none none).run Try.prog W = .ok (.slice (some ⟨b,i * 3,none⟩) (n-i) (c-i)) W:=fun W=>by
    rw[Xg (P:=Try.prog) 24 56 .i64 Try.underlying24 B 3 hsz (some ⟨b,0,none⟩) n c (i:Int) (by omega) (by omega) W,Int.toNat_natCast,if_neg (by omega),Option.map_some,Zz]
  have g2:∀ W:World,(Instr.slice 24 (.slice (some ⟨b,0,none⟩) n c) none (some (.int .i64 (i:Int))) none).run Try.prog W = .ok (.slice (some ⟨b,0,none⟩) i c) W:=fun W=>by
    have hel:Try.prog.elem 24=56:=by simp[Program.elem,Try.underlying24]
    rw[run_slice_h W 24 (some ⟨b,0,none⟩) n c (by rw[hel];exact Try.underlying24) .i64 (i:Int) (by omega) (by omega),hel]
    simp[sizeOf,typeInfo,B,sliced,Result.andThen,Addr.add]
  have g3:∀ W:World,(Instr.slice 24 (.slice (some ⟨w.heap.size,0,none⟩) (n+1) G) (some (.int .i64 (i:Int))) none none).run Try.prog W = .ok (.slice (some ⟨w.heap.size,i * 3,none⟩) (n+1-i) (G-i)) W:=fun W=>by
    rw[Xg (P:=Try.prog) 24 56 .i64 Try.underlying24 B 3 hsz (some ⟨w.heap.size,0,none⟩) (n+1) G (i:Int) (by omega) (by omega) W,Int.toNat_natCast,if_neg (by omega),Option.map_some,Zz]
  have g4:∀ W:World,(Instr.slice 24 (.slice (some ⟨w.heap.size,0,none⟩) (n+1) G) (some (.int .i64 ((i:Int)+1))) none none).run Try.prog W = .ok (.slice (some ⟨w.heap.size,(i+1) * 3,none⟩) (n-i) (G - (i+1))) W:=fun W=>by
    rw[Xg (P:=Try.prog) 24 56 .i64 Try.underlying24 B 3 hsz (some ⟨w.heap.size,0,none⟩) (n+1) G ((i:Int)+1) (by omega) (by omega) W,show((i:Int)+1).toNat=i+1 from by omega,if_neg (by omega),Option.map_some,Zz,show n+1 - (i+1)=n-i from by omega]
  have hz2':¬ ((i:Int)=(n:Int)):=by omega
  have θ :(c:Int)<(n:Int)+1:=by omega
  have ζ :IntKind.i64.wrap ((i:Int)+1)=(i:Int)+1:=by rw[IntKind.wrap_i64];omega
  have Z:(0:Int)≤(i:Int)+1:=by omega
  clear hcpA hcpB hN hNf hOb hOv O γ hkk hik hold hROW hG hRl J hcur hdl hdr htl htk B U hsz I hh hcs ht hv hvs hvt
  go_enter Try.func63,Try.ntmps63
  go_wp2_with (first
    |(at_builtin;refine Lib.wpList_append_run _ rfl _ _ _ _ rfl _ _ rfl rfl _ _ (hrz _) ?_)
    |(at_builtin;refine wpList_copy_runI _ rfl _ _ 24 24 rfl (.slice (some ⟨w.heap.size,i * 3,none⟩) (n+1-i) (G-i)) (.slice (some ⟨vb,0,none⟩) 1 vc) rfl rfl L ?_))
  go_region_law (refine step_copy_runI rfl _ _ 24 24 rfl (.slice (some ⟨w.heap.size,(i+1) * 3,none⟩) (n-i) (G - (i+1))) (.slice (some ⟨b,i * 3,none⟩) (n-i) (c-i)) (by simp[Act.eval,Act.put]) (by simp[Act.eval,Act.put]) δ ?_)
  go_wp2
  go_ret
  exact⟨rfl,rfl⟩
set_option maxHeartbeats 4000000 in
set_option maxRecDepth 100000 in
theorem La (b n c i vb vc:Nat) (l:List S62) (x:S62) (w:World) (cur curv:Array Value) (hi:i<n) (hnc:n≤c) (hroom:c<n+1) (hbig:n≤1000000000) (hvb:vb≠b) (hl:l.length=n)
    (hh:w.heap[b]?=some (.cells cur 62 (0,0))) (hcs:cur.size=c * 2) (ht:cur.toList.take (n * 2)=Zj encI l) (hv:w.heap[vb]?=some (.cells curv 62 (0,0))) (hvs:0<curv.size) (hvt:curv.toList.take 2=encI x):
    Calls Try.prog 60 #[.slice (some ⟨b,0,none⟩) n c,.int .i64 (i:Int),.slice (some ⟨vb,0,none⟩) 1 vc] w fun e w'=>
      e = .returned (.slice (some ⟨w.heap.size,0,none⟩) (n+1) (grownCap w (n+1) c 62)) ∧
      w'=(((w.alloc (.cells ((Zj encI (l.take i)).toArray++Builtin.zeroCells (Value.agg #[(.int .i64 0),(.int .i64 0)]).cells (n+1-i)++Builtin.zeroCells (Value.agg #[(.int .i64 0),(.int .i64 0)]).cells (grownCap w (n+1) c 62 - (n+1))) 62)).drew.setCells w.heap.size (i * 2) (encI x)).drew).setCells w.heap.size ((i+1) * 2) (Zj encI (l.drop i)):=by
  obtain⟨Y,B,U,hsz,I⟩:=info_parts Ji
  have J:(Try.prog.info? 62).map (·.size)=some 2:=by rw[B];simp[hsz]
  have hcur:∀ j v,cur[j]?=some v→w.cell? ⟨b,j,none⟩=some v:=fun j v hj=>by rw[cell_of_row w b j cur 62 (0,0) hh];exact hj
  have hbw:b<w.heap.size:=Q5 hh
  have hvw:vb<w.heap.size:=Q5 hv
  have hkk:(n:Int)+1 - (i:Int)=((n+1-i:Nat):Int):=by omega
  have hik:i+(n+1-i)=n+1:=by omega
  have htl:(Zj encI (l.take i)).length=i * 2:=by rw[Zy X2,List.length_take,hl,Nat.min_eq_left (by omega)];rfl
  have hdl:(Zj encI (l.drop i)).length=(n-i) * 2:=by rw[Zy X2,List.length_drop,hl];rfl
  have htk:Zj encI (l.take i)=(cur.toList.take (n * 2)).take (i * 2):=by rw[ht];exact(Y9 X2 l i (by omega)).symm
  have hdr:Zj encI (l.drop i)=(cur.toList.take (n * 2)).drop (i * 2):=by rw[ht];exact(Jr X2 l i (by omega)).symm
  have hold:(Builtin.firstCells Y.size i (.slice (some ⟨b,0,none⟩) i c)).run Try.prog w.drew = .ok (Zj encI (l.take i)).toArray w.drew:=by
    rw[hsz]
    exact run_firstCells_some (w:=w.drew) 2 i ⟨b,0,none⟩ i c (Zj encI (l.take i)) htl (fun j v hj=>by
      rw[Zz]
      rw[htk,List.getElem?_take,List.getElem?_take] at hj
      split at hj
      · split at hj
        · exact hcur j v (by rw[← Array.getElem?_toList];exact hj)
        · cases hj
      · cases hj)
  have hrz:∀ ty,(Builtin.append_ #[25,3] ty #[.slice (some ⟨b,0,none⟩) i c,.int .i64 ((n:Int)+1 - (i:Int))]).run Try.prog w =
      .ok (.slice (some ⟨w.heap.size,0,none⟩) (n+1) (grownCap w (n+1) c 62)) (w.drew.alloc (.cells ((Zj encI (l.take i)).toArray++Builtin.zeroCells (Value.agg #[(.int .i64 0),(.int .i64 0)]).cells (n+1-i)++Builtin.zeroCells (Value.agg #[(.int .i64 0),(.int .i64 0)]).cells (grownCap w (n+1) c 62 - (n+1))) 62)):=fun ty=>by
    have h:=Lib.run_append_grow_zeros (P:=Try.prog) w 25 3 ty 62 Y _ .i64 .i64 Try.underlying25 Try.underlying3 B U (some ⟨b,0,none⟩) i c (Zj encI (l.take i)) hold (n+1-i) (by omega) (by rw[hsz];omega) (by omega) (by omega) (by rw[I];omega) (by rw[I,hik];exact growslice_fits (by omega) (by omega))
    rw[hik] at h
    rw[hkk]
    exact h
  obtain⟨G,hG⟩:∃ G,G=grownCap w (n+1) c 62:=⟨_,rfl⟩
  obtain⟨ROW,hROW⟩:∃ ROW:Array Value,ROW=(Zj encI (l.take i)).toArray++Builtin.zeroCells (Value.agg #[(.int .i64 0),(.int .i64 0)]).cells (n+1-i)++Builtin.zeroCells (Value.agg #[(.int .i64 0),(.int .i64 0)]).cells (G - (n+1)):=⟨_,rfl⟩
  rw[← hG] at hrz ⊢
  rw[← hROW] at hrz ⊢
  have hRl:(n+1) * 2≤ROW.size:=by
    rw[hROW]
    simp only[Array.size_append,size_zeroCells,List.size_toArray,htl]
    show(n+1) * 2≤i * 2+(n+1-i) * 2+(G - (n+1)) * 2
    omega
  obtain⟨W1,D⟩:∃ W1,W1=w.drew.alloc (.cells ROW 62):=⟨_,rfl⟩
  rw[← D] at hrz
  have hN:∀ j,j<(n+1) * 2→(W1.cell? ⟨w.heap.size,j,none⟩).isSome=true:=fun j hj=>by
    rw[D,World.cell?_alloc_at (w:=w.drew) ROW _ w.heap.size j rfl,Array.getElem?_eq_getElem (by omega)];rfl
  have hNf:∀ j,W1.frozen? ⟨w.heap.size,j,none⟩=false:=fun j=>by rw[D];exact World.frozen?_alloc_at (w:=w.drew) ROW _ w.heap.size j rfl
  have hOb:∀ j v,w.cell? ⟨b,j,none⟩=some v→W1.cell? ⟨b,j,none⟩=some v:=fun j v h=>by rw[D,World.cell?_alloc_past (w:=w.drew) _ b j hbw];exact h
  have hOv:∀ j v,w.cell? ⟨vb,j,none⟩=some v→W1.cell? ⟨vb,j,none⟩=some v:=fun j v h=>by rw[D,World.cell?_alloc_past (w:=w.drew) _ vb j hvw];exact h
  have hcpA:∀ (W:World),(∀ x,W.cell? x=W1.cell? x)→(∀ x,W.frozen? x=W1.frozen? x) → ∀ ty la dc,1≤la→(Builtin.copy_ #[25,25] ty #[.slice (some ⟨w.heap.size,i * 2,none⟩) la dc,.slice (some ⟨vb,0,none⟩) 1 vc]).run Try.prog W = .ok (goInt (1:Nat)) (W.setCells w.heap.size (i * 2) (encI x)):=fun W hWc hWf ty la dc hla=>by
    have hm:min 1 la=1:=by omega
    have:=Yf (P:=Try.prog) W 25 25 ty 62 2 w.heap.size (i * 2) la dc ⟨vb,0,none⟩ 1 vc (encI x) Try.underlying25 J (by rw[hm];rfl)
      (fun j v hj=>by
        rw[Zz,hWc]
        rw[← hvt,List.getElem?_take] at hj
        split at hj
        · exact hOv j v (by rw[cell_of_row w vb j curv 62 (0,0) hv,← Array.getElem?_toList];exact hj)
        · cases hj)
      (fun j hj=>by
        rw[hWc]
        have ε :j<2:=hj
        exact hN (i * 2+j) (by omega))
      (fun j hj=>by rw[hWf];exact hNf _) (X2.one x)
    rw[hm] at this
    exact this
  have X:n+1≤G:=by rw[hG];exact grownCap_ge w _ _ _
  have η :G≤9223372036854775807:=by
    have:=grownCap_le_maxLen w (n+1) c 62 (by unfold maxLen;omega)
    rw[← hG] at this
    unfold maxLen at this
    omega
  have hbN:b≠w.heap.size:=by omega
  have hcpB:∀ (W:World),(∀ y,W.cell? y=(W1.setCells w.heap.size (i * 2) (encI x)).cell? y)→(∀ y,W.frozen? y=(W1.setCells w.heap.size (i * 2) (encI x)).frozen? y) → ∀ ty la dc lb sc,min lb la=n-i→(Builtin.copy_ #[25,25] ty #[.slice (some ⟨w.heap.size,(i+1) * 2,none⟩) la dc,.slice (some ⟨b,i * 2,none⟩) lb sc]).run Try.prog W = .ok (goInt (n-i:Nat)) (W.setCells w.heap.size ((i+1) * 2) (Zj encI (l.drop i))):=fun W hWc hWf ty la dc lb sc hm=>by
    have:=Yf (P:=Try.prog) W 25 25 ty 62 2 w.heap.size ((i+1) * 2) la dc ⟨b,i * 2,none⟩ lb sc (Zj encI (l.drop i)) Try.underlying25 J (by rw[hdl,hm])
      (fun j v hj=>by
        rw[hdr,List.getElem?_drop,List.getElem?_take] at hj
        split at hj
        · rw[Addr.add_lit,hWc,World.cell?_setCells_out _ _ _ _ _ (fun h _=>absurd h hbN)]
          exact hOb _ v (hcur (i * 2+j) v (by rw[← Array.getElem?_toList];exact hj))
        · cases hj)
      (fun j hj=>by
        rw[hWc]
        rw[hdl] at hj
        exact isSome_setCells _ _ _ W1 (fun q hq=>hN (i * 2+q) (by have:q<2:=hq;omega)) ((i+1) * 2+j) (hN ((i+1) * 2+j) (by omega)))
      (fun j hj=>by rw[hWf,World.frozen?_setCells];exact hNf _) (J6 X2 _)
    rw[hm] at this
    exact this
  subst D
  have O:∀ x,((w.alloc (.cells ROW 62)).drew).cell? x=(w.drew.alloc (.cells ROW 62)).cell? x:=fun x=>rfl
  have γ:∀ x,((w.alloc (.cells ROW 62)).drew).frozen? x=(w.drew.alloc (.cells ROW 62)).frozen? x:=fun x=>rfl
  have L:=hcpA _ O γ 3 (n+1-i) (G-i) (by omega)
  have δ :=hcpB ((w.alloc (.cells ROW 62)).drew.setCells w.heap.size (i * 2) (encI x)).drew (fun x=>rfl) (fun x=>rfl) 3 (n-i) (G - (i+1)) (n-i) (c-i) (by omega)
  have g1:∀ W:World,(Instr.slice 25 (.slice (some ⟨b,0,none⟩) n c) (some (.int .i64 (i:Int))) none none).run Try.prog W = .ok (.slice (some ⟨b,i * 2,none⟩) (n-i) (c-i)) W:=fun W=>by
    rw[Xg (P:=Try.prog) 25 62 .i64 Try.underlying25 B 2 hsz (some ⟨b,0,none⟩) n c (i:Int) (by omega) (by omega) W,Int.toNat_natCast,if_neg (by omega),Option.map_some,Zz]
  have g2:∀ W:World,(Instr.slice 25 (.slice (some ⟨b,0,none⟩) n c) none (some (.int .i64 (i:Int))) none).run Try.prog W = .ok (.slice (some ⟨b,0,none⟩) i c) W:=fun W=>by
    have hel:Try.prog.elem 25=62:=by simp[Program.elem,Try.underlying25]
    rw[run_slice_h W 25 (some ⟨b,0,none⟩) n c (by rw[hel];exact Try.underlying25) .i64 (i:Int) (by omega) (by omega),hel]
    simp[sizeOf,typeInfo,B,sliced,Result.andThen,Addr.add]
  have g3:∀ W:World,(Instr.slice 25 (.slice (some ⟨w.heap.size,0,none⟩) (n+1) G) (some (.int .i64 (i:Int))) none none).run Try.prog W = .ok (.slice (some ⟨w.heap.size,i * 2,none⟩) (n+1-i) (G-i)) W:=fun W=>by
    rw[Xg (P:=Try.prog) 25 62 .i64 Try.underlying25 B 2 hsz (some ⟨w.heap.size,0,none⟩) (n+1) G (i:Int) (by omega) (by omega) W,Int.toNat_natCast,if_neg (by omega),Option.map_some,Zz]
  have g4:∀ W:World,(Instr.slice 25 (.slice (some ⟨w.heap.size,0,none⟩) (n+1) G) (some (.int .i64 ((i:Int)+1))) none none).run Try.prog W = .ok (.slice (some ⟨w.heap.size,(i+1) * 2,none⟩) (n-i) (G - (i+1))) W:=fun W=>by
    rw[Xg (P:=Try.prog) 25 62 .i64 Try.underlying25 B 2 hsz (some ⟨w.heap.size,0,none⟩) (n+1) G ((i:Int)+1) (by omega) (by omega) W,show((i:Int)+1).toNat=i+1 from by omega,if_neg (by omega),Option.map_some,Zz,show n+1 - (i+1)=n-i from by omega]
  have hz2':¬ ((i:Int)=(n:Int)):=by omega
  have θ :(c:Int)<(n:Int)+1:=by omega
  have ζ :IntKind.i64.wrap ((i:Int)+1)=(i:Int)+1:=by rw[IntKind.wrap_i64];omega
  have Z:(0:Int)≤(i:Int)+1:=by omega
  clear hcpA hcpB hN hNf hOb hOv O γ hkk hik hold hROW hG hRl J hcur hdl hdr htl htk B U hsz I hh hcs ht hv hvs hvt
  go_enter Try.func60,Try.ntmps60
  go_wp2_with (first
    |(at_builtin;refine Lib.wpList_append_run _ rfl _ _ _ _ rfl _ _ rfl rfl _ _ (hrz _) ?_)
    |(at_builtin;refine wpList_copy_runI _ rfl _ _ 25 25 rfl (.slice (some ⟨w.heap.size,i * 2,none⟩) (n+1-i) (G-i)) (.slice (some ⟨vb,0,none⟩) 1 vc) rfl rfl L ?_))
  go_region_law (refine step_copy_runI rfl _ _ 25 25 rfl (.slice (some ⟨w.heap.size,(i+1) * 2,none⟩) (n-i) (G - (i+1))) (.slice (some ⟨b,i * 2,none⟩) (n-i) (c-i)) (by simp[Act.eval,Act.put]) (by simp[Act.eval,Act.put]) δ ?_)
  go_wp2
  go_ret
  exact⟨rfl,rfl⟩
theorem Z8 {B g:Nat} {w0 w:World} (hb:Below B w0 w) (hg:B≤g):∀ (vs:List Value) (o:Nat) {w:World},Below B w0 w→Below B w0 (w.setCells g o vs)
  | [],_,_,h=>h
  |v :: r,o,_,h=>Z8 hb hg r (o+1) (h.setCell (p:=⟨g,o,none⟩) hg v)
theorem Gi (w:World) (g D B:Nat) (v1 v2:List Value):w.grownBy ((w.drew.setCells g D v1).setCells g B v2) (some g):=by
  obtain⟨I,L,U,Y⟩:=X9 g v1 D w.drew
  obtain⟨O,J,X,Z⟩:=X9 g v2 B (w.drew.setCells g D v1)
  exact⟨O.trans I,J.trans L,X.trans U,by rw[Z,Y];exact Nat.le_refl _,fun k _ hk=>(Yg _ _ k (fun he=>hk (by rw[he]))).trans (Yg (w:=w.drew) _ _ k (fun he=>hk (by rw[he])))⟩
theorem Js {B:Nat} {w:World} (hB:B≤w.heap.size) (o:Obj):Below B w (w.alloc o):=(Below.refl B w).alloc hB o
set_option maxHeartbeats 4000000 in
set_option maxRecDepth 100000 in
theorem Ma (w:World) (base:Nat) (ok:Nat→Prop) (A:Option Addr) (c:Nat) (l:List S56) (x:S56) (vb vc:Nat) (curv:Array Value) (hbase:base≤w.heap.size) (hfresh:∀ k,w.heap.size≤k→ok k)
    (HO:Kd.R k56 56 w base ok (.slice A l.length c) l) (hnc:l.length≤c) (hl:l.length≤1000000000)
    (hv:w.heap[vb]?=some (.cells curv 56 (0,0))) (hvs:0<curv.size) (hvt:curv.toList.take 3=Xk x):
    Calls Try.prog 63 #[.slice A l.length c,.int .i64 (l.length:Int),.slice (some ⟨vb,0,none⟩) 1 vc] w fun e w'=>
      ∃ v1:Value,e = .returned v1∧Kd.R k56 56 w' base ok v1 (l ++ [x])∧Below base w w'∧w.grownBy w' (Value.slice A l.length c).ownBlock∧(v1.ownBlock=(Value.slice A l.length c).ownBlock ∨ ∃ b,v1.ownBlock=some b∧w.heap.size≤b):=by
  obtain⟨Y,B,U,hsz,I⟩:=info_parts Y0
  obtain⟨sv,g1⟩:∃ sv,∀ W:World,(Instr.slice 24 (.slice A l.length c) (some (.int .i64 (l.length:Int))) none none).run Try.prog W = .ok sv W:=⟨_,fun W=>Xg (P:=Try.prog) 24 56 .i64 Try.underlying24 B 3 hsz A l.length c (l.length:Int) (by omega) (by omega) W⟩
  have HR:Xd (fun p cs=>cs=Xk p) 3 w (some ⟨vb,0,none⟩) 1 [x]:=by
    refine⟨rfl,by decide,fun _=>⟨_,rfl,fun j p hj=>⟨Xk p,rfl,rfl,fun q u hu=>?_⟩⟩⟩
    have D:j<1:=(List.getElem?_eq_some_iff.1 hj).1
    obtain rfl:j=0:=by omega
    obtain rfl:x=p:=by simpa using hj
    rw[Zz,Nat.zero_mul,Nat.zero_add,cell_of_row w vb q curv 56 (0,0) hv,← Array.getElem?_toList]
    rw[← hvt,List.getElem?_take] at hu
    split at hu
    · exact hu
    · cases hu
  go_enter Try.func63,Try.ntmps63
  go_wp2_with (at_builtin;refine Kd.Yv k56 (w0:=w) base rfl (.tmp 23) (.tmp 24) 24 56 (Value.agg #[(.int .i64 0),(.int .i64 0),(.int .i64 0)]) 24 rfl Try.underlying24 Y0 rfl (by decide) (by decide) (.slice A l.length c) l [x] _ _ _ ok (fun _=>False) rfl rfl HO HR (fun _ _ h=>(X3.M _ _ _ _ _).2 h) (fun _ h=>h.elim) hfresh (Below.refl _ _) hbase (by omega) ?_)
  intro v1 w1 h1 L J X
  go_wp2
  go_ret
  exact⟨_,rfl,h1,L,J,X⟩
theorem We (w:World) (base:Nat) (ok:Nat→Prop) (A:Option Addr) (c:Nat) (l:List S56) (x:S56) (i:Int) (vb vc:Nat) (curv:Array Value) (hbase:base≤w.heap.size) (hfresh:∀ k,w.heap.size≤k→ok k)
    (HO:Kd.R k56 56 w base ok (.slice A l.length c) l) (hvb:∀ a,A=some a→vb≠a.block) (hl:l.length≤1000000000)
    (hv:w.heap[vb]?=some (.cells curv 56 (0,0))) (hvs:0<curv.size) (hvt:curv.toList.take 3=Xk x) (O:0≤i) (hi:i≤(l.length:Int)):
    Calls Try.prog 63 #[.slice A l.length c,.int .i64 i,.slice (some ⟨vb,0,none⟩) 1 vc] w fun e w'=>
      ∃ v1:Value,e = .returned v1∧Kd.R k56 56 w' base ok v1 (l.take i.toNat ++ [x]++l.drop i.toNat)∧Below base w w'∧w.grownBy w' (Value.slice A l.length c).ownBlock∧(v1.ownBlock=(Value.slice A l.length c).ownBlock ∨ ∃ b,v1.ownBlock=some b∧w.heap.size≤b):=by
  obtain⟨m,rfl⟩:∃ m:Nat,i=m:=⟨i.toNat,by omega⟩
  rw[Int.toNat_natCast]
  obtain⟨hq,ho⟩:=(Yk X3).1 HO
  have hlen:(l.take m ++ [x]++l.drop m).length=l.length+1:=by simp only[List.length_append,List.length_take,List.length_drop,List.length_cons,List.length_nil];omega
  have B:(k56).sz=3:=rfl
  rcases Nat.lt_or_ge m l.length with hlt|hge
  · rcases ho.2 with⟨_,hn⟩|⟨g,cap,cur,he,hb,hh,hnc,hcm,hcs,htake⟩
    · omega
    injection he with Y Z I
    subst Y I
    have hne:vb≠g:=hvb _ rfl
    have htk:cur.toList.take (m * 3)=Zj Xk (l.take m):=by
      have:=Y9 X3 l m (by omega)
      rw[B] at this
      rw[← this,← htake,List.take_take,B,Nat.min_eq_left (Nat.mul_le_mul_right _ (by omega))]
    rcases Nat.lt_or_ge l.length c with hr|hr
    · refine(Wd g l.length c m vb vc l x w cur curv hlt (by omega) (by unfold maxLen at hcm;omega) hne rfl hh hcs htake hv hvs hvt).mono ?_
      rintro e w' ⟨he,hw⟩
      obtain⟨cur',c1,c2,c3⟩:=Gc X3 w.drew g m l.length cur l x hh rfl (by omega) (by rw[hcs];exact Nat.mul_le_mul_right _ (by omega)) (by rw[B];exact htk)
      rw[B] at c1 c3
      rw[← hw] at c1
      refine⟨_,he,(Yk X3).2 ⟨hq,by rw[Zy X3],.inr ⟨g,c,cur',by rw[hlen],hb,c1,by omega,hcm,by rw[c2,hcs],by rw[hlen];exact c3⟩⟩, ?_, ?_,.inl rfl⟩ <;> rw[hw]
      · exact Z8 (Below.refl _ w) hb _ _ (Z8 (Below.refl _ w) hb _ _ (Qf (Below.refl _ _)))
      · exact Gi _ _ _ _ _ _
    · have hce:c=l.length:=by omega
      refine(Lb g l.length c m vb vc l x w cur curv hlt (by omega) (by omega) hl hne rfl hh hcs htake hv hvs hvt).mono ?_
      rintro e w' ⟨he,hw⟩
      have X:=grownCap_ge w (l.length+1) c 56
      have hGm:=grownCap_le_maxLen w (l.length+1) c 56 (by unfold maxLen;omega)
      obtain⟨G,hG⟩:∃ G,G=grownCap w (l.length+1) c 56:=⟨_,rfl⟩
      rw[← hG] at he hw X hGm
      obtain⟨ROW,hROW⟩:∃ ROW:Array Value,ROW=(Zj Xk (l.take m)).toArray++Builtin.zeroCells (Value.agg #[(.int .i64 0),(.int .i64 0),(.int .i64 0)]).cells (l.length+1-m)++Builtin.zeroCells (Value.agg #[(.int .i64 0),(.int .i64 0),(.int .i64 0)]).cells (G - (l.length+1)):=⟨_,rfl⟩
      have htl:(Zj Xk (l.take m)).length=m * 3:=by rw[Zy X3,List.length_take,Nat.min_eq_left (by omega)];rfl
      have hRs:ROW.size=G * 3:=by
        rw[hROW]
        simp only[Array.size_append,size_zeroCells,List.size_toArray,htl]
        show m * 3+(l.length+1-m) * 3+(G - (l.length+1)) * 3=G * 3
        omega
      have hRt:ROW.toList.take (m * 3)=Zj Xk (l.take m):=by
        rw[hROW,Array.toList_append,Array.toList_append,List.append_assoc]
        exact List.take_left' htl
      rw[← hROW] at hw
      have hblk:(w.alloc (.cells ROW 56)).drew.heap[w.heap.size]?=some (.cells ROW 56 (0,0)):=by
        show(w.heap.push (.cells ROW 56))[w.heap.size]?=_
        exact Array.getElem?_push_size
      obtain⟨cur',c1,c2,c3⟩:=Gh X3 (w.alloc (.cells ROW 56)).drew w.heap.size m l.length ROW l x hblk rfl (by omega) (by rw[hRs];exact Nat.mul_le_mul_right _ X) (by rw[B];exact hRt)
      rw[B] at c1 c3
      rw[← hw] at c1
      refine⟨_,he,(Yk X3).2 ⟨fun k hk=>hfresh k (by simp[Value.ownBlock] at hk;omega),by rw[Zy X3],.inr ⟨w.heap.size,G,cur',by rw[hlen],hbase,c1,by omega,hGm,by rw[c2,hRs];rfl,by rw[hlen];exact c3⟩⟩, ?_, ?_,.inr ⟨_,rfl,Nat.le_refl _⟩⟩ <;> rw[hw]
      · exact Z8 (Below.refl _ w) hbase _ _ (Qf (Z8 (Below.refl _ w) hbase _ _ (Qf (Js hbase _))))
      · exact Y8 (Z8 (Below.refl _ w) (Nat.le_refl _) _ _ (Qf (Z8 (Below.refl _ w) (Nat.le_refl _) _ _ (Qf (Js (Nat.le_refl _) _))))) _
  · have hme:m=l.length:=by omega
    subst hme
    rw[List.take_length,List.drop_length,List.append_nil]
    have hnc:l.length≤c:=by
      rcases ho.2 with⟨he,hn⟩|⟨g,cap,cur,he,hb,hh,hnc,_⟩
      · omega
      · injection he with Y Z I;omega
    exact Ma w base ok A c l x vb vc curv hbase hfresh HO hnc hl hv hvs hvt
theorem N1 (w:World) (base:Nat) (okA okB:Nat→Prop) (v:Value) (l ys:List S56) (x:S56) (i:Int) (A:Option Addr) (c:Nat) (hys:ys = [x]) (hbase:base≤w.heap.size) (hfresh:∀ k,w.heap.size≤k→okA k)
    (HO:Kd.R k56 56 w base okA v l) (HL:Kd.R k56 56 w base okB (.slice A ys.length c) ys) (hne:∀ k,okA k→some k≠(Value.slice A ys.length c).ownBlock) (hl:l.length≤1000000000) (O:0≤i) (hi:i≤(l.length:Int)):
    Calls Try.prog 63 #[v,.int .i64 i,.slice A ys.length c] w fun e w'=>
      ∃ v1:Value,e = .returned v1∧Kd.R k56 56 w' base okA v1 (l.take i.toNat++ys++l.drop i.toNat)∧Below base w w'∧w.grownBy w' v.ownBlock∧(v1.ownBlock=v.ownBlock ∨ ∃ b,v1.ownBlock=some b∧w.heap.size≤b):=by
  subst hys
  obtain⟨qL,oL⟩:=(Yk X3).1 HL
  obtain⟨qO,oO⟩:=(Yk X3).1 HO
  rcases oL.2 with⟨_,hn⟩|⟨g,cap,cur,he,hb,hh,hnc,hcm,hcs,htake⟩
  · cases hn
  injection he with Y Z I
  subst Y I
  obtain⟨A2,c2,rfl⟩:∃ A2 c2,v = .slice A2 l.length c2:=by
    rcases oO.2 with⟨he,hn⟩|⟨g,cap,cur,he,_⟩
    · exact⟨none,0,by rw[he,hn]⟩
    · exact⟨_,_,he⟩
  have B:∀ a,A2=some a→g≠a.block:=by
    rintro a rfl hga
    exact hne a.block (qO _ rfl) (by rw[← hga];rfl)
  exact We w base okA A2 c2 l x i g c cur hbase hfresh HO B hl hh (by rw[hcs];have h1c:1≤c:=hnc;exact Nat.mul_pos h1c (by decide)) (by rw[← show Zj Xk [x]=Xk x from List.append_nil _];exact htake) O hi
set_option maxHeartbeats 4000000 in
set_option maxRecDepth 100000 in
theorem L9 (w:World) (base:Nat) (ok:Nat→Prop) (A:Option Addr) (c:Nat) (l:List S62) (x:S62) (vb vc:Nat) (curv:Array Value) (hbase:base≤w.heap.size) (hfresh:∀ k,w.heap.size≤k→ok k)
    (HO:Kd.R k62 62 w base ok (.slice A l.length c) l) (hnc:l.length≤c) (hl:l.length≤1000000000)
    (hv:w.heap[vb]?=some (.cells curv 62 (0,0))) (hvs:0<curv.size) (hvt:curv.toList.take 2=encI x):
    Calls Try.prog 60 #[.slice A l.length c,.int .i64 (l.length:Int),.slice (some ⟨vb,0,none⟩) 1 vc] w fun e w'=>
      ∃ v1:Value,e = .returned v1∧Kd.R k62 62 w' base ok v1 (l ++ [x])∧Below base w w'∧w.grownBy w' (Value.slice A l.length c).ownBlock∧(v1.ownBlock=(Value.slice A l.length c).ownBlock ∨ ∃ b,v1.ownBlock=some b∧w.heap.size≤b):=by
  obtain⟨Y,B,U,hsz,I⟩:=info_parts Ji
  obtain⟨sv,g1⟩:∃ sv,∀ W:World,(Instr.slice 25 (.slice A l.length c) (some (.int .i64 (l.length:Int))) none none).run Try.prog W = .ok sv W:=⟨_,fun W=>Xg (P:=Try.prog) 25 62 .i64 Try.underlying25 B 2 hsz A l.length c (l.length:Int) (by omega) (by omega) W⟩
  have HR:Xd (fun p cs=>cs=encI p) 2 w (some ⟨vb,0,none⟩) 1 [x]:=by
    refine⟨rfl,by decide,fun _=>⟨_,rfl,fun j p hj=>⟨encI p,rfl,rfl,fun q u hu=>?_⟩⟩⟩
    have D:j<1:=(List.getElem?_eq_some_iff.1 hj).1
    obtain rfl:j=0:=by omega
    obtain rfl:x=p:=by simpa using hj
    rw[Zz,Nat.zero_mul,Nat.zero_add,cell_of_row w vb q curv 62 (0,0) hv,← Array.getElem?_toList]
    rw[← hvt,List.getElem?_take] at hu
    split at hu
    · exact hu
    · cases hu
  go_enter Try.func60,Try.ntmps60
  go_wp2_with (at_builtin;refine Kd.Yv k62 (w0:=w) base rfl (.tmp 23) (.tmp 24) 25 62 (Value.agg #[(.int .i64 0),(.int .i64 0)]) 16 rfl Try.underlying25 Ji rfl (by decide) (by decide) (.slice A l.length c) l [x] _ _ _ ok (fun _=>False) rfl rfl HO HR (fun _ _ h=>(X2.M _ _ _ _ _).2 h) (fun _ h=>h.elim) hfresh (Below.refl _ _) hbase (by omega) ?_)
  intro v1 w1 h1 L J X
  go_wp2
  go_ret
  exact⟨_,rfl,h1,L,J,X⟩
theorem Wc (w:World) (base:Nat) (ok:Nat→Prop) (A:Option Addr) (c:Nat) (l:List S62) (x:S62) (i:Int) (vb vc:Nat) (curv:Array Value) (hbase:base≤w.heap.size) (hfresh:∀ k,w.heap.size≤k→ok k)
    (HO:Kd.R k62 62 w base ok (.slice A l.length c) l) (hvb:∀ a,A=some a→vb≠a.block) (hl:l.length≤1000000000)
    (hv:w.heap[vb]?=some (.cells curv 62 (0,0))) (hvs:0<curv.size) (hvt:curv.toList.take 2=encI x) (O:0≤i) (hi:i≤(l.length:Int)):
    Calls Try.prog 60 #[.slice A l.length c,.int .i64 i,.slice (some ⟨vb,0,none⟩) 1 vc] w fun e w'=>
      ∃ v1:Value,e = .returned v1∧Kd.R k62 62 w' base ok v1 (l.take i.toNat ++ [x]++l.drop i.toNat)∧Below base w w'∧w.grownBy w' (Value.slice A l.length c).ownBlock∧(v1.ownBlock=(Value.slice A l.length c).ownBlock ∨ ∃ b,v1.ownBlock=some b∧w.heap.size≤b):=by
  obtain⟨m,rfl⟩:∃ m:Nat,i=m:=⟨i.toNat,by omega⟩
  rw[Int.toNat_natCast]
  obtain⟨hq,ho⟩:=(Yk X2).1 HO
  have hlen:(l.take m ++ [x]++l.drop m).length=l.length+1:=by simp only[List.length_append,List.length_take,List.length_drop,List.length_cons,List.length_nil];omega
  have B:(k62).sz=2:=rfl
  rcases Nat.lt_or_ge m l.length with hlt|hge
  · rcases ho.2 with⟨_,hn⟩|⟨g,cap,cur,he,hb,hh,hnc,hcm,hcs,htake⟩
    · omega
    injection he with Y Z I
    subst Y I
    have hne:vb≠g:=hvb _ rfl
    have htk:cur.toList.take (m * 2)=Zj encI (l.take m):=by
      have:=Y9 X2 l m (by omega)
      rw[B] at this
      rw[← this,← htake,List.take_take,B,Nat.min_eq_left (Nat.mul_le_mul_right _ (by omega))]
    rcases Nat.lt_or_ge l.length c with hr|hr
    · refine(Wb g l.length c m vb vc l x w cur curv hlt (by omega) (by unfold maxLen at hcm;omega) hne rfl hh hcs htake hv hvs hvt).mono ?_
      rintro e w' ⟨he,hw⟩
      obtain⟨cur',c1,c2,c3⟩:=Gc X2 w.drew g m l.length cur l x hh rfl (by omega) (by rw[hcs];exact Nat.mul_le_mul_right _ (by omega)) (by rw[B];exact htk)
      rw[B] at c1 c3
      rw[← hw] at c1
      refine⟨_,he,(Yk X2).2 ⟨hq,by rw[Zy X2],.inr ⟨g,c,cur',by rw[hlen],hb,c1,by omega,hcm,by rw[c2,hcs],by rw[hlen];exact c3⟩⟩, ?_, ?_,.inl rfl⟩ <;> rw[hw]
      · exact Z8 (Below.refl _ w) hb _ _ (Z8 (Below.refl _ w) hb _ _ (Qf (Below.refl _ _)))
      · exact Gi _ _ _ _ _ _
    · have hce:c=l.length:=by omega
      refine(La g l.length c m vb vc l x w cur curv hlt (by omega) (by omega) hl hne rfl hh hcs htake hv hvs hvt).mono ?_
      rintro e w' ⟨he,hw⟩
      have X:=grownCap_ge w (l.length+1) c 62
      have hGm:=grownCap_le_maxLen w (l.length+1) c 62 (by unfold maxLen;omega)
      obtain⟨G,hG⟩:∃ G,G=grownCap w (l.length+1) c 62:=⟨_,rfl⟩
      rw[← hG] at he hw X hGm
      obtain⟨ROW,hROW⟩:∃ ROW:Array Value,ROW=(Zj encI (l.take m)).toArray++Builtin.zeroCells (Value.agg #[(.int .i64 0),(.int .i64 0)]).cells (l.length+1-m)++Builtin.zeroCells (Value.agg #[(.int .i64 0),(.int .i64 0)]).cells (G - (l.length+1)):=⟨_,rfl⟩
      have htl:(Zj encI (l.take m)).length=m * 2:=by rw[Zy X2,List.length_take,Nat.min_eq_left (by omega)];rfl
      have hRs:ROW.size=G * 2:=by
        rw[hROW]
        simp only[Array.size_append,size_zeroCells,List.size_toArray,htl]
        show m * 2+(l.length+1-m) * 2+(G - (l.length+1)) * 2=G * 2
        omega
      have hRt:ROW.toList.take (m * 2)=Zj encI (l.take m):=by
        rw[hROW,Array.toList_append,Array.toList_append,List.append_assoc]
        exact List.take_left' htl
      rw[← hROW] at hw
      have hblk:(w.alloc (.cells ROW 62)).drew.heap[w.heap.size]?=some (.cells ROW 62 (0,0)):=by
        show(w.heap.push (.cells ROW 62))[w.heap.size]?=_
        exact Array.getElem?_push_size
      obtain⟨cur',c1,c2,c3⟩:=Gh X2 (w.alloc (.cells ROW 62)).drew w.heap.size m l.length ROW l x hblk rfl (by omega) (by rw[hRs];exact Nat.mul_le_mul_right _ X) (by rw[B];exact hRt)
      rw[B] at c1 c3
      rw[← hw] at c1
      refine⟨_,he,(Yk X2).2 ⟨fun k hk=>hfresh k (by simp[Value.ownBlock] at hk;omega),by rw[Zy X2],.inr ⟨w.heap.size,G,cur',by rw[hlen],hbase,c1,by omega,hGm,by rw[c2,hRs];rfl,by rw[hlen];exact c3⟩⟩, ?_, ?_,.inr ⟨_,rfl,Nat.le_refl _⟩⟩ <;> rw[hw]
      · exact Z8 (Below.refl _ w) hbase _ _ (Qf (Z8 (Below.refl _ w) hbase _ _ (Qf (Js hbase _))))
      · exact Y8 (Z8 (Below.refl _ w) (Nat.le_refl _) _ _ (Qf (Z8 (Below.refl _ w) (Nat.le_refl _) _ _ (Qf (Js (Nat.le_refl _) _))))) _
  · have hme:m=l.length:=by omega
    subst hme
    rw[List.take_length,List.drop_length,List.append_nil]
    have hnc:l.length≤c:=by
      rcases ho.2 with⟨he,hn⟩|⟨g,cap,cur,he,hb,hh,hnc,_⟩
      · omega
      · injection he with Y Z I;omega
    exact L9 w base ok A c l x vb vc curv hbase hfresh HO hnc hl hv hvs hvt
theorem N0 (w:World) (base:Nat) (okA okB:Nat→Prop) (v:Value) (l ys:List S62) (x:S62) (i:Int) (A:Option Addr) (c:Nat) (hys:ys = [x]) (hbase:base≤w.heap.size) (hfresh:∀ k,w.heap.size≤k→okA k)
    (HO:Kd.R k62 62 w base okA v l) (HL:Kd.R k62 62 w base okB (.slice A ys.length c) ys) (hne:∀ k,okA k→some k≠(Value.slice A ys.length c).ownBlock) (hl:l.length≤1000000000) (O:0≤i) (hi:i≤(l.length:Int)):
    Calls Try.prog 60 #[v,.int .i64 i,.slice A ys.length c] w fun e w'=>
      ∃ v1:Value,e = .returned v1∧Kd.R k62 62 w' base okA v1 (l.take i.toNat++ys++l.drop i.toNat)∧Below base w w'∧w.grownBy w' v.ownBlock∧(v1.ownBlock=v.ownBlock ∨ ∃ b,v1.ownBlock=some b∧w.heap.size≤b):=by
  subst hys
  obtain⟨qL,oL⟩:=(Yk X2).1 HL
  obtain⟨qO,oO⟩:=(Yk X2).1 HO
  rcases oL.2 with⟨_,hn⟩|⟨g,cap,cur,he,hb,hh,hnc,hcm,hcs,htake⟩
  · cases hn
  injection he with Y Z I
  subst Y I
  obtain⟨A2,c2,rfl⟩:∃ A2 c2,v = .slice A2 l.length c2:=by
    rcases oO.2 with⟨he,hn⟩|⟨g,cap,cur,he,_⟩
    · exact⟨none,0,by rw[he,hn]⟩
    · exact⟨_,_,he⟩
  have B:∀ a,A2=some a→g≠a.block:=by
    rintro a rfl hga
    exact hne a.block (qO _ rfl) (by rw[← hga];rfl)
  exact Wc w base okA A2 c2 l x i g c cur hbase hfresh HO B hl hh (by rw[hcs];have h1c:1≤c:=hnc;exact Nat.mul_pos h1c (by decide)) (by rw[← show Zj encI [x]=encI x from List.append_nil _];exact htake) O hi
end Go.Proofs.Ytjehhhlhalkieaa.C
namespace Go.Proofs.Ytjehhhlhalkieaa.C
open Go.RowKit Go.Proofs.YtjehhhlhalkieaaW.PrintWords Go.Proofs.YtjehhhlhalkieaaW.PrintLast Go.Proofs.YtjehhhlhalkieaaW.PrintMore
attribute [local go_sem] Z3 Z1 Xb Xa Zt Zs Z2 Z0
set_option linter.unusedVariables false
set_option linter.unusedSimpArgs false
def api_Hall_with.f (k:Nat) (D:List (S56)) (I:Int) (J:Int) (O:Int) (X:Int):Option ((List (S56))):=(api_Hall_62.f k D J O X I).bind fun θ =>(if θ.2=true then ((api_Hall_55.f D).bind fun ρ=>(some ρ)) else ((api_Hall_55.f D).bind fun a0=>((some (([(⟨J,O,X⟩:S56)]:List (S56)):List (S56))).bind fun B=>(if (a0.length+B.length<1000000000∧0 ≤ θ.1 ∧ θ.1≤(a0.length:Int)) then (some (a0.take θ.1.toNat++B++a0.drop θ.1.toNat)) else (none)))))
theorem api_Hall_with.mono:∀ D J a2 X L k,LeO (api_Hall_with.f k D J a2 X L) (api_Hall_with.f (k+1) D J a2 X L):=by
 intro D J a2 X L k
 unfold api_Hall_with.f
 repeat' first
   |(with_reducible exact api_Hall_62.mono _ _ _ _ _ _)
   |(with_reducible exact LeO.refl _)
   |(with_reducible exact LeO.none _)
   |(with_reducible refine LeO.ite ?_ ?_)
   |(with_reducible refine LeO.bind ?_ (fun _=>?_))
   |exact api_Hall_62.mono _ _ _ _ _ _
   |exact LeO.none _
   |refine LeO.ite ?_ ?_
   |refine LeO.bind ?_ (fun _=>?_)
def api_Hall_with.T4:Bool×List (List Nat×List Nat):=(true,[([],[]),([0],[0]),([1],[1]),([],[]),([],[]),([4],[4]),([2,3,5,2],[2,3,5]),([6,6,0,1,2,3,4,5,6],[6])])
def api_Hall_with.B4:List Nat:=[0,1,3,0,0,16,63,127]
theorem api_Hall_with.Kj:rtab .any (opsOf Try.f35 4)=api_Hall_with.T4:=by kernel_rfl
theorem api_Hall_with.Jf:Zp api_Hall_with.T4.2 api_Hall_with.B4=true:=by kernel_rfl
set_option maxHeartbeats 8000000 in
set_option maxRecDepth 100000 in
theorem api_Hall_with.calls (k:Nat) (μ :Option Addr) (Y:Nat) (D:List (S56)) (I:Int) (J:Int) (O:Int) (X:Int) (r:List (S56)) (w:World) (ω :Kd.C k56 w μ D.length D) (a2:D.length≤Y) (h:api_Hall_with.f k D I J O X=some r):
  Calls Try.prog 35 #[.agg #[.slice μ D.length Y,.func (.func 51) #[] #[]],.agg #[.int .i64 J,.int .i64 O,.int .i64 X]] w fun e w'=>∃ a6:Value,e = .returned (a6)∧Kd.R k56 56 w' w.heap.size (fun _=>True) a6 r∧Below w.heap.size w w':=by
 have cb:=Try.underlying69
 have b2:=Try.underlying56
 have φ :=Aside0.mk ω
 have ab:=Aside0.mk a2
 clear ω a2
 have HB:=Aside0.mk (Below.refl w.heap.size w)
 have H:((api_Hall_62.f k D J O X I).bind fun θ =>(if θ.2=true then ((api_Hall_55.f D).bind fun ρ=>(some ρ)) else ((api_Hall_55.f D).bind fun a0=>((some (([(⟨J,O,X⟩:S56)]:List (S56)):List (S56))).bind fun B=>(if (a0.length+B.length<1000000000∧0 ≤ θ.1 ∧ θ.1≤(a0.length:Int)) then (some (a0.take θ.1.toNat++B++a0.drop θ.1.toNat)) else (none))))))=some r:=h
 clear h
 replace H:=Option.bind_eq_some_iff.mp H
 obtain⟨⟨γ,η⟩,ae,H⟩:=H
 replace H:(if η = true then ((api_Hall_55.f D).bind fun ρ=>(some ρ)) else ((api_Hall_55.f D).bind fun a0=>((some (([(⟨J,O,X⟩:S56)]:List (S56)):List (S56))).bind fun B=>(if (a0.length+B.length<1000000000∧0≤γ∧γ≤(a0.length:Int)) then (some (a0.take γ.toNat++B++a0.drop γ.toNat)) else (none)))))=some r:=H
 have A3:=Aside0.mk ae
 clear ae
 by_cases c4: η = true
 ·subst c4
  have H1:((api_Hall_55.f D).bind fun ρ=>(some ρ))=some r:=by rw[if_pos rfl] at H;exact H
  clear H
  have H:=H1
  clear H1
  replace H:=Option.bind_eq_some_iff.mp H
  obtain⟨ρ,bv,H⟩:=H
  replace H:(some ρ)=some r:=H
  have A5:=Aside0.mk bv
  clear bv
  obtain rfl:=Option.some.inj H
  go_enter Try.func35,Try.ntmps35
  go_wp2_with (first|((with_reducible refine Qs (N:=2) rfl ?_);refine qE 2 #[.slice μ D.length Y,.func (.func 51) #[] #[]] 69 ?_;intro δ hg w6 hbox hb;have U:=Aside0.mk hbox;have av:=sGe hg;have b3:=sGe hg;replace HB:=sHb hb;clear hb hbox hg)|((with_reducible refine Qs (N:=3) rfl ?_);refine qE 3 #[.int .i64 J,.int .i64 O,.int .i64 X] 56 ?_;intro a1 hg w7 hbox hb;have L:=Aside0.mk hbox;have bp:=sGe hg;have bs:=sGe hg;have af:=sNl U hg;have ag:=sNg U hg;replace U:=sBk U hb;replace HB:=sHb hb;clear hb hbox hg;have di:=af.out;have dj:=ag.out;obtain⟨bd,be,bf,bg⟩:=qD2 U.out;obtain⟨ax,ba,ay,bb,bc,az⟩:=qD3 L.out)|((with_reducible refine Q0 (f:=62) rfl ?_);refine Zl (some 13) rfl rfl Try.func62 kr rfl #[.slice μ D.length Y,.agg #[.int .i64 J,.int .i64 O,.int .i64 X],.func (.func 51) #[] #[]] rfl qM ?_;(with_reducible refine(api_Hall_62.calls k _ _ D J O X I γ true _ ?side1 ?side2 A3.out).mono ?_);(case side1=>exact(Kd.Qx φ.out HB.out));(case side2=>exact ab.out);rintro e d6 ⟨rfl,hb⟩;refine⟨_,rfl, ?_⟩;replace U:=sBk U hb;replace L:=sBk L hb;replace HB:=sHb hb;(try clear hb);(try clear a4);(try clear hk);(try clear hi);obtain⟨am,an,ao,ap⟩:=qD2 U.out)|((with_reducible refine Q0 (f:=55) rfl ?_);refine Zl (some 19) rfl rfl Try.func55 kr rfl #[.slice μ D.length Y] rfl qM ?_;(with_reducible refine(api_Hall_55.calls _ _ D ρ _ ?side1 ?side2 A5.out).mono ?_);(case side1=>exact(Kd.Qx φ.out HB.out));(case side2=>exact ab.out);rintro e fa ⟨br,rfl,ψ,hb⟩;refine⟨_,rfl, ?_⟩;have b4:=Aside0.mk (Kd.Q1 (Kd.Xo ψ (g:=a1) (o:=.cells #[.int .i64 J,.int .i64 O,.int .i64 X] 56 (0,0)) L.out) (Ql HB.out));replace U:=sBk U hb;replace L:=sBk L hb;replace HB:=sHb hb;(try clear hb);(try clear a4);(try clear hk);(try clear hi);(try clear ψ)))
  go_ret
  exact⟨_,rfl,by(with_reducible repeat first|apply Kd.Qk|apply Kd.Qj|apply Kd.Qm);exact Kd.Qq b4.out (fun _ hk=>trivial),HB.out⟩
 ·replace c4:=Bool.eq_false_iff.mpr c4
  subst c4
  have H1:((api_Hall_55.f D).bind fun a0=>((some (([(⟨J,O,X⟩:S56)]:List (S56)):List (S56))).bind fun B=>(if (a0.length+B.length<1000000000∧0≤γ∧γ≤(a0.length:Int)) then (some (a0.take γ.toNat++B++a0.drop γ.toNat)) else (none))))=some r:=by rw[if_neg (show ¬ (false=true) by decide)] at H;exact H
  clear H
  have H:=H1
  clear H1
  replace H:=Option.bind_eq_some_iff.mp H
  obtain⟨a0,au,H⟩:=H
  replace H:((some (([(⟨J,O,X⟩:S56)]:List (S56)):List (S56))).bind fun B=>(if (a0.length+B.length<1000000000∧0≤γ∧γ≤(a0.length:Int)) then (some (a0.take γ.toNat++B++a0.drop γ.toNat)) else (none)))=some r:=H
  have aw:=Aside0.mk au
  clear au
  obtain⟨B,aj⟩:∃ y_:List (S56),y_=(([(⟨J,O,X⟩:S56)]:List (S56))):=⟨_,rfl⟩
  replace H:(if (a0.length+B.length<1000000000∧0≤γ∧γ≤(a0.length:Int)) then (some (a0.take γ.toNat++B++a0.drop γ.toNat)) else (none))=some r:=by first|(rw[aj];with_reducible exact H)|(have τ :=(Option.bind_some _ _).symm.trans H;rw[aj];with_reducible exact τ)|(have τ :=(Option.bind_some _ _).symm.trans H;with_reducible exact τ)|with_reducible exact H|(rw[aj];exact H)|exact H
  have ak:=Aside0.mk aj
  clear aj
  by_cases ah:(a0.length+B.length<1000000000∧0≤γ∧γ≤(a0.length:Int))
  ·rw[if_pos ah] at H
   have ac:=Aside0.mk ah
   clear ah
   obtain⟨bm,al⟩:∃ y_:List (S56),y_=(a0.take γ.toNat++B++a0.drop γ.toNat):=⟨_,rfl⟩
   replace H:(some bm)=some r:=by first|(rw[al];with_reducible exact H)|(have τ :=(Option.bind_some _ _).symm.trans H;rw[al];with_reducible exact τ)|(have τ :=(Option.bind_some _ _).symm.trans H;with_reducible exact τ)|with_reducible exact H|(rw[al];exact H)|exact H
   have bj:=Aside0.mk al
   clear al
   obtain rfl:=Option.some.inj H
   go_enter Try.func35,Try.ntmps35
   try go_wp2_with (first|((with_reducible refine Qs (N:=2) rfl ?_);refine qE 2 #[.slice μ D.length Y,.func (.func 51) #[] #[]] 69 ?_;intro δ hg b1 hbox hb;have U:=Aside0.mk hbox;have av:=sGe hg;have b3:=sGe hg;replace HB:=sHb hb;clear hb hbox hg)|((with_reducible refine Qs (N:=3) rfl ?_);refine qE 3 #[.int .i64 J,.int .i64 O,.int .i64 X] 56 ?_;intro a1 hg gm hbox hb;have L:=Aside0.mk hbox;have bp:=sGe hg;have bs:=sGe hg;have af:=sNl U hg;have ag:=sNg U hg;replace U:=sBk U hb;replace HB:=sHb hb;clear hb hbox hg;have ct:=af.out;have cu:=ag.out;obtain⟨b5,b6,b7,b8⟩:=qD2 U.out;obtain⟨bh,bi,b9,bn,bo,bk⟩:=qD3 L.out)|((with_reducible refine Q0 (f:=62) rfl ?_);refine Zl (some 13) rfl rfl Try.func62 kr rfl #[.slice μ D.length Y,.agg #[.int .i64 J,.int .i64 O,.int .i64 X],.func (.func 51) #[] #[]] rfl qM ?_;(with_reducible refine(api_Hall_62.calls k _ _ D J O X I γ false _ ?side1 ?side2 A3.out).mono ?_);(case side1=>exact(Kd.Qx φ.out HB.out));(case side2=>exact ab.out);rintro e d1 ⟨rfl,hb⟩;refine⟨_,rfl, ?_⟩;replace U:=sBk U hb;replace L:=sBk L hb;replace HB:=sHb hb;(try clear hb);(try clear a4);(try clear hk);(try clear hi)))
   replace U:=Aside0.mk (Qa U.out)
   replace L:=Aside0.mk (Qa L.out)
   replace HB:=Aside0.mk (Qf HB.out)
   refine Zm (n:=8) (S:=fun w'=>w'.cell? ⟨δ,0,none⟩=some (.slice μ D.length Y)∧w'.cell? ⟨δ,1,none⟩=some (.func (.func 51) #[] #[])∧w'.cell? ⟨a1,0,none⟩=some (.int .i64 J)∧w'.cell? ⟨a1,1,none⟩=some (.int .i64 O)∧w'.cell? ⟨a1,2,none⟩=some (.int .i64 X)) (ds:=[]) #[false,false,false,false,false,false,false,false] kr rfl rfl ⟨(Qi U.out 0).trans rfl,(Qi U.out 1).trans rfl,(Qi L.out 0).trans rfl,(Qi L.out 1).trans rfl,(Qi L.out 2).trans rfl⟩ (fun hHeld=>?_);refine Q7 api_Hall_with.Kj api_Hall_with.Jf (fun HT_ HW_=>?_)
   generalize d1.drew=fc at U L HB hHeld ⊢
   refine qP 0 (some 20) (bN 8 1) HT_ ?_
   refine qP 3 (some 23) (bN 8 9) HT_ ?_
   refine qT 1 (some 21) (bN 8 11) HT_ HW_ hHeld ?_
   refine qT 4 (some 24) (bN 8 27) HT_ HW_ hHeld ?_
   refine Ku (σ:=Value×Value) 2 (bN 8 63) (fun s_=>[(22,s_.1),(25,s_.2)]) (fun s_ w'=>(w'.cell? ⟨δ,0,none⟩=some (.slice μ D.length Y)∧w'.cell? ⟨δ,1,none⟩=some (.func (.func 51) #[] #[])∧w'.cell? ⟨a1,0,none⟩=some (.int .i64 J)∧w'.cell? ⟨a1,1,none⟩=some (.int .i64 O)∧w'.cell? ⟨a1,2,none⟩=some (.int .i64 X))∧(Kd.R k56 56 w' w.heap.size (fun k_=>some k_≠(s_.2:Value).ownBlock∧k_≠a1) s_.1 a0)∧(Kd.R k56 56 w' w.heap.size (fun k_=>some k_≠(s_.1:Value).ownBlock∧k_≠a1) s_.2 B)∧(w'.heap[δ]?=some (.cells #[.slice μ D.length Y,.func (.func 51) #[] #[]] 69 (0,0)))∧(w'.heap[a1]?=some (.cells #[.int .i64 J,.int .i64 O,.int .i64 X] 56 (0,0)))∧(Below w.heap.size w w')) ?_ ?_
   rotate_left
   ·intro hCont
    refine J8 (i:=2) (j:=5) (Ni:=some 22) (Nj:=some 25) (bN 8 31) (bN 8 59) rfl rfl rfl rfl (X6 HT_.out kr) (by decide) (by decide) (fun K hK=>?_) (fun K hK=>?_)
    ·skip
     refine Zh Try.func55 kr rfl #[.slice μ D.length Y] (by rfl) rfl rfl qM ?_
     with_reducible refine(api_Hall_55.calls _ _ D a0 _ ?side1 ?side2 aw.out).mono ?_
     (case side1=>exact(Kd.Qx φ.out HB.out))
     (case side2=>exact ab.out)
     rintro e df ⟨ai,rfl,ψ,hb⟩
     refine⟨_,rfl, ?_⟩
     have a3:=Aside0.mk (Kd.Q1 (Kd.Xo ψ (g:=a1) (o:=.cells #[.int .i64 J,.int .i64 O,.int .i64 X] 56 (0,0)) L.out) (Ql HB.out))
     replace U:=sBk U hb
     replace L:=sBk L hb
     replace HB:=sHb hb
     (try clear hb)
     (try clear a4)
     (try clear hk)
     (try clear hi)
     (try clear ψ)
     refine hK.out _ _ ⟨qc U,qc U,qc L,qc L,qc L⟩ (fun hHeld=>?_)
     clear hK K
     refine qN (some 22) ?_
     refine Zi (i:=5) (N:=some 25) (bN 8 63) rfl rfl (Q2 HT_.out kr) (by decide) (fun K hK=>?_)
     refine Kd.Xi k56 _ 56 ?hg (N:=25) ?hd (xs:=([(⟨J,O,X⟩:S56)]:List (S56))) (inner:=[.int .i64 J,.int .i64 O,.int .i64 X]) (ok:=fun _=>True) (okp:=fun _=>True) ?hr ?hp (fun _ hk=>hk) trivial (Below.refl _ _) (Nat.le_refl _) (by simp) ?_;(case hd=>rfl);(case hg=>rfl);(case hr=>go_simp <;> rfl);(case hp=>exact(Reps.c3 (show Kd.M k56 _ _ _ (⟨J,O,X⟩:S56) [.int .i64 J,.int .i64 O,.int .i64 X] from(Yu _ _ _ (⟨J,O,X⟩:S56))) (Reps.none _ _)))
     intro ar cx a5 hb hg_ hnew_
     clear hg_ hnew_
     (first|rw[← ak.out] at a5|(simp only[Int.reduceToNat] at a5;rw[← ak.out] at a5))
     have ζ :=Aside0.mk (Kd.Q1 (Kd.Xo (Kd.Zf a5 (Kd.Zq a3.out)) (g:=a1) (o:=.cells #[.int .i64 J,.int .i64 O,.int .i64 X] 56 (0,0)) L.out) (Ql HB.out))
     replace a3:=Aside0.mk (Kd.Za a3.out (Kd.Zg a5) hb)
     replace U:=sBk U hb
     replace L:=sBk L hb
     replace HB:=sHb hb
     clear hb a5
     refine hK.out _ _ ⟨qc U,qc U,qc L,qc L,qc L⟩ (fun hHeld=>?_)
     clear hK K
     refine qN (some 25) ?_
     exact Xe (by simp only[Zv,Act.put,qS]) (hCont (ai,ar) _ ⟨hHeld,(by(with_reducible repeat first|apply Kd.Qk|apply Kd.Qj|apply Kd.Qm);exact Kd.Qq a3.out (fun _ hk=>⟨hk.2,hk.1.2⟩)),(by(with_reducible repeat first|apply Kd.Qk|apply Kd.Qj|apply Kd.Qm);exact Kd.Qq ζ.out (fun _ hk=>⟨hk.1.2,hk.2⟩)),U.out,L.out,HB.out⟩)
    ·skip
     refine Kd.Xi k56 _ 56 ?hg (N:=25) ?hd (xs:=([(⟨J,O,X⟩:S56)]:List (S56))) (inner:=[.int .i64 J,.int .i64 O,.int .i64 X]) (ok:=fun _=>True) (okp:=fun _=>True) ?hr ?hp (fun _ hk=>hk) trivial (Below.refl _ _) (Nat.le_refl _) (by simp) ?_;(case hd=>rfl);(case hg=>rfl);(case hr=>go_simp <;> rfl);(case hp=>exact(Reps.c3 (show Kd.M k56 _ _ _ (⟨J,O,X⟩:S56) [.int .i64 J,.int .i64 O,.int .i64 X] from(Yu _ _ _ (⟨J,O,X⟩:S56))) (Reps.none _ _)))
     intro ar df aa hb hg_ hnew_
     clear hg_ hnew_
     (first|rw[← ak.out] at aa|(simp only[Int.reduceToNat] at aa;rw[← ak.out] at aa))
     have ζ :=Aside0.mk (Kd.Q1 (Kd.Xo aa (g:=a1) (o:=.cells #[.int .i64 J,.int .i64 O,.int .i64 X] 56 (0,0)) L.out) (Ql HB.out))
     replace U:=sBk U hb
     replace L:=sBk L hb
     replace HB:=sHb hb
     clear hb aa
     refine hK.out _ _ ⟨qc U,qc U,qc L,qc L,qc L⟩ (fun hHeld=>?_)
     clear hK K
     refine qN (some 25) ?_
     refine Zi (i:=2) (N:=some 22) (bN 8 63) rfl rfl (Q2 HT_.out kr) (by decide) (fun K hK=>?_)
     refine Zh Try.func55 kr rfl #[.slice μ D.length Y] (by rfl) rfl rfl qM ?_
     with_reducible refine(api_Hall_55.calls _ _ D a0 _ ?side1 ?side2 aw.out).mono ?_
     (case side1=>exact(Kd.Qx φ.out HB.out))
     (case side2=>exact ab.out)
     rintro e fu ⟨ai,rfl,ψ,hb⟩
     refine⟨_,rfl, ?_⟩
     have a3:=Aside0.mk (Kd.Q1 (Kd.Xo (Kd.Zf ψ (Kd.Zq ζ.out)) (g:=a1) (o:=.cells #[.int .i64 J,.int .i64 O,.int .i64 X] 56 (0,0)) L.out) (Ql HB.out))
     replace ζ :=Aside0.mk (Kd.Za ζ.out (Kd.Zg ψ) hb)
     replace U:=sBk U hb
     replace L:=sBk L hb
     replace HB:=sHb hb
     (try clear hb)
     (try clear a4)
     (try clear hk)
     (try clear hi)
     (try clear ψ)
     refine hK.out _ _ ⟨qc U,qc U,qc L,qc L,qc L⟩ (fun hHeld=>?_)
     clear hK K
     refine qN (some 22) ?_
     exact Xe (by simp only[Zv,Act.put,qS]) (hCont (ai,ar) _ ⟨hHeld,(by(with_reducible repeat first|apply Kd.Qk|apply Kd.Qj|apply Kd.Qm);exact Kd.Qq a3.out (fun _ hk=>⟨hk.1.2,hk.2⟩)),(by(with_reducible repeat first|apply Kd.Qk|apply Kd.Qj|apply Kd.Qm);exact Kd.Qq ζ.out (fun _ hk=>⟨hk.2,hk.1.2⟩)),U.out,L.out,HB.out⟩)
   rintro⟨ai,ar⟩ bq ⟨hS_,da,db,dc,dd,de⟩
   have Z:Aside0 (Kd.R k56 56 bq w.heap.size (fun k_=>some k_≠(ar:Value).ownBlock∧k_≠a1) ai a0):=⟨da⟩
   have ε :Aside0 (Kd.R k56 56 bq w.heap.size (fun k_=>some k_≠(ai:Value).ownBlock∧k_≠a1) ar B):=⟨db⟩
   have ι :Aside0 (bq.heap[δ]?=some (.cells #[.slice μ D.length Y,.func (.func 51) #[] #[]] 69 (0,0))):=⟨dc⟩
   have κ :Aside0 (bq.heap[a1]?=some (.cells #[.int .i64 J,.int .i64 O,.int .i64 X] 56 (0,0))):=⟨dd⟩
   have χ :Aside0 (Below w.heap.size w bq):=⟨de⟩
   clear U
   clear L
   clear HB
   clear da db dc dd de
   have a3:=Z
   have ζ := ε
   have U:= ι
   have L:= κ
   have HB:= χ
   clear Z ε ι κ χ
   have hHeld:bq.cell? ⟨δ,0,none⟩=some (.slice μ D.length Y)∧bq.cell? ⟨δ,1,none⟩=some (.func (.func 51) #[] #[])∧bq.cell? ⟨a1,0,none⟩=some (.int .i64 J)∧bq.cell? ⟨a1,1,none⟩=some (.int .i64 O)∧bq.cell? ⟨a1,2,none⟩=some (.int .i64 X):=hS_
   obtain⟨cf,cg,ch⟩:=Kd.Q3 ζ.out
   (first|subst ch|(injection ch with ν a7 ξ;have a8:= ν.symm;have a9:= ξ.symm;clear ν a7 ξ;subst a8;subst a9))
   refine Xe (a':=?_) ?_ ?_
   rotate_left
   ·simp only[Zv,Act.put,qS]
    rfl
   refine Zi (i:=6) (N:=some 26) (bN 8 127) rfl rfl (Q2 HT_.out kr) (by decide) (fun K hK=>?_)
   refine Zh Try.func63 kr rfl #[ai,.int .i64 γ,.slice cf B.length cg] (by rfl) rfl rfl qM ?_
   refine(N1 _ w.heap.size (fun k_=>some k_≠(.slice cf B.length cg:Value).ownBlock∧k_≠a1) _ ai a0 B _ γ cf cg ak.out ?aS ?aF ?aO ζ.out ?aN (by have h_:=ac.out;omega) (by have h_:=ac.out;omega) (by have h_:=ac.out;omega)).mono ?_
   (case aS=>exact(Ql HB.out))
   (case aF=>exact(fun k_ hk=>⟨Kd.fresh' (Kd.Zq ζ.out) k_ hk,Kd.Md (g:=a1) (o:=.cells #[.int .i64 J,.int .i64 O,.int .i64 X] 56 (0,0)) L.out k_ hk⟩))
   (case aO=>exact a3.out)
   (case aN=>exact fun k_ hk=>hk.1)
   rintro e dn ⟨bu,rfl,ho,b0,hg,hat⟩
   refine⟨_,rfl, ?_⟩
   have hb:=HB.out.trans b0
   rw[← bj.out] at ho
   have bl:=Aside0.mk ho
   replace U:=Aside0.mk (Q4 (g:= δ) (o:=.cells #[.slice μ D.length Y,.func (.func 51) #[] #[]] 69 (0,0)) U.out hg (Kd.Z4 a3.out U.out (by decide)))
   replace L:=Aside0.mk (Q4 (g:=a1) (o:=.cells #[.int .i64 J,.int .i64 O,.int .i64 X] 56 (0,0)) L.out hg (Kd.G6 a3.out (fun _ hk=>hk.2)))
   replace ζ :=Aside0.mk (Kd.Xl (ok:=(fun k_=>k_≠a1)) (by(with_reducible repeat first|apply Kd.Qk|apply Kd.Qj|apply Kd.Qm);exact Kd.Qq ζ.out (fun _ hk=>⟨hk.2,hk.1⟩)) hg hat)
   replace HB:=Aside0.mk hb
   clear a3
   clear ho hb hg hat
   refine hK.out _ _ ⟨qc U,qc U,qc L,qc L,qc L⟩ (fun hHeld=>?_)
   clear hK K
   refine qN (some 26) ?_
   refine qP 7 (some 4) (bN 8 255) HT_ ?_
   refine Zr (Ze HT_.out kr) ?_
   try go_wp2
   go_ret
   exact⟨_,rfl,by(with_reducible repeat first|apply Kd.Qk|apply Kd.Qj|apply Kd.Qm);exact Kd.Qq bl.out (fun _ hk=>trivial),HB.out⟩
  ·rw[if_neg ah] at H
   exact absurd H (by simp)
def api_Inside_with.f (k:Nat) (D:List (S62)) (I:Int) (J:Int) (O:Int):Option ((List (S62))):=(api_Inside_58.f k D J O I).bind fun η =>(if η.2=true then ((api_Inside_59.f D).bind fun b3=>(some b3)) else ((api_Inside_59.f D).bind fun U=>((some (([(⟨J,O⟩:S62)]:List (S62)):List (S62))).bind fun γ=>(if (U.length+γ.length<1000000000∧0 ≤ η.1 ∧ η.1≤(U.length:Int)) then (some (U.take η.1.toNat++γ++U.drop η.1.toNat)) else (none)))))
theorem api_Inside_with.mono:∀ D J a2 X k,LeO (api_Inside_with.f k D J a2 X) (api_Inside_with.f (k+1) D J a2 X):=by
 intro D J a2 X k
 unfold api_Inside_with.f
 repeat' first
   |(with_reducible exact api_Inside_58.mono _ _ _ _ _)
   |(with_reducible exact LeO.refl _)
   |(with_reducible exact LeO.none _)
   |(with_reducible refine LeO.ite ?_ ?_)
   |(with_reducible refine LeO.bind ?_ (fun _=>?_))
   |exact api_Inside_58.mono _ _ _ _ _
   |exact LeO.none _
   |refine LeO.ite ?_ ?_
   |refine LeO.bind ?_ (fun _=>?_)
def api_Inside_with.T4:Bool×List (List Nat×List Nat):=(true,[([],[]),([0],[0]),([1],[1]),([],[]),([],[]),([4],[4]),([2,3,5,2],[2,3,5]),([6,6,0,1,2,3,4,5,6],[6])])
def api_Inside_with.B4:List Nat:=[0,1,3,0,0,16,63,127]
theorem api_Inside_with.Kj:rtab .any (opsOf Try.f33 4)=api_Inside_with.T4:=by kernel_rfl
theorem api_Inside_with.Jf:Zp api_Inside_with.T4.2 api_Inside_with.B4=true:=by kernel_rfl
set_option maxHeartbeats 8000000 in
set_option maxRecDepth 100000 in
theorem api_Inside_with.calls (k:Nat) (μ :Option Addr) (Y:Nat) (D:List (S62)) (I:Int) (J:Int) (O:Int) (r:List (S62)) (w:World) (ω :Kd.C k62 w μ D.length D) (a2:D.length≤Y) (h:api_Inside_with.f k D I J O=some r):
  Calls Try.prog 33 #[.agg #[.slice μ D.length Y,.func (.func 57) #[] #[]],.agg #[.int .i64 J,.int .i64 O]] w fun e w'=>∃ a6:Value,e = .returned (a6)∧Kd.R k62 62 w' w.heap.size (fun _=>True) a6 r∧Below w.heap.size w w':=by
 have bj:=Try.underlying74
 have b9:=Try.underlying62
 have φ :=Aside0.mk ω
 have ab:=Aside0.mk a2
 clear ω a2
 have HB:=Aside0.mk (Below.refl w.heap.size w)
 have H:((api_Inside_58.f k D J O I).bind fun η =>(if η.2=true then ((api_Inside_59.f D).bind fun b3=>(some b3)) else ((api_Inside_59.f D).bind fun U=>((some (([(⟨J,O⟩:S62)]:List (S62)):List (S62))).bind fun γ=>(if (U.length+γ.length<1000000000∧0 ≤ η.1 ∧ η.1≤(U.length:Int)) then (some (U.take η.1.toNat++γ++U.drop η.1.toNat)) else (none))))))=some r:=h
 clear h
 replace H:=Option.bind_eq_some_iff.mp H
 obtain⟨⟨δ,av⟩,ae,H⟩:=H
 replace H:(if av=true then ((api_Inside_59.f D).bind fun b3=>(some b3)) else ((api_Inside_59.f D).bind fun U=>((some (([(⟨J,O⟩:S62)]:List (S62)):List (S62))).bind fun γ=>(if (U.length+γ.length<1000000000∧0 ≤ δ ∧ δ ≤ (U.length:Int)) then (some (U.take δ.toNat++γ++U.drop δ.toNat)) else (none)))))=some r:=H
 have A3:=Aside0.mk ae
 clear ae
 by_cases c4:av=true
 ·subst c4
  have H1:((api_Inside_59.f D).bind fun b3=>(some b3))=some r:=by rw[if_pos rfl] at H;exact H
  clear H
  have H:=H1
  clear H1
  replace H:=Option.bind_eq_some_iff.mp H
  obtain⟨b3,bv,H⟩:=H
  replace H:(some b3)=some r:=H
  have A5:=Aside0.mk bv
  clear bv
  obtain rfl:=Option.some.inj H
  go_enter Try.func33,Try.ntmps33
  go_wp2_with (first|((with_reducible refine Qs (N:=2) rfl ?_);refine qE 2 #[.slice μ D.length Y,.func (.func 57) #[] #[]] 74 ?_;intro a0 hg w6 hbox hb;have B:=Aside0.mk hbox;have al:=sGe hg;have ar:=sGe hg;replace HB:=sHb hb;clear hb hbox hg)|((with_reducible refine Qs (N:=3) rfl ?_);refine qE 3 #[.int .i64 J,.int .i64 O] 62 ?_;intro X hg w7 hbox hb;have L:=Aside0.mk hbox;have ay:=sGe hg;have az:=sGe hg;have a1:=sNl B hg;have a3:=sNg B hg;replace B:=sBk B hb;replace HB:=sHb hb;clear hb hbox hg;have di:=a1.out;have dj:=a3.out;obtain⟨bd,be,bf,bg⟩:=qD2 B.out;obtain⟨ax,ba,bb,bc⟩:=qD2 L.out)|((with_reducible refine Q0 (f:=58) rfl ?_);refine Zl (some 13) rfl rfl Try.func58 kr rfl #[.slice μ D.length Y,.agg #[.int .i64 J,.int .i64 O],.func (.func 57) #[] #[]] rfl qM ?_;(with_reducible refine(api_Inside_58.calls k _ _ D J O I δ true _ ?side1 ?side2 A3.out).mono ?_);(case side1=>exact(Kd.Qx φ.out HB.out));(case side2=>exact ab.out);rintro e d6 ⟨rfl,hb⟩;refine⟨_,rfl, ?_⟩;replace B:=sBk B hb;replace L:=sBk L hb;replace HB:=sHb hb;(try clear hb);(try clear a4);(try clear hk);(try clear hi);obtain⟨am,an,ao,ap⟩:=qD2 B.out)|((with_reducible refine Q0 (f:=59) rfl ?_);refine Zl (some 19) rfl rfl Try.func59 kr rfl #[.slice μ D.length Y] rfl qM ?_;(with_reducible refine(api_Inside_59.calls _ _ D b3 _ ?side1 ?side2 A5.out).mono ?_);(case side1=>exact(Kd.Qx φ.out HB.out));(case side2=>exact ab.out);rintro e fa ⟨bl,rfl,ψ,hb⟩;refine⟨_,rfl, ?_⟩;have b2:=Aside0.mk (Kd.Q1 (Kd.Xo ψ (g:=X) (o:=.cells #[.int .i64 J,.int .i64 O] 62 (0,0)) L.out) (Ql HB.out));replace B:=sBk B hb;replace L:=sBk L hb;replace HB:=sHb hb;(try clear hb);(try clear a4);(try clear hk);(try clear hi);(try clear ψ)))
  go_ret
  exact⟨_,rfl,by(with_reducible repeat first|apply Kd.Qk|apply Kd.Qj|apply Kd.Qm);exact Kd.Qq b2.out (fun _ hk=>trivial),HB.out⟩
 ·replace c4:=Bool.eq_false_iff.mpr c4
  subst c4
  have H1:((api_Inside_59.f D).bind fun U=>((some (([(⟨J,O⟩:S62)]:List (S62)):List (S62))).bind fun γ=>(if (U.length+γ.length<1000000000∧0 ≤ δ ∧ δ ≤ (U.length:Int)) then (some (U.take δ.toNat++γ++U.drop δ.toNat)) else (none))))=some r:=by rw[if_neg (show ¬ (false=true) by decide)] at H;exact H
  clear H
  have H:=H1
  clear H1
  replace H:=Option.bind_eq_some_iff.mp H
  obtain⟨U,au,H⟩:=H
  replace H:((some (([(⟨J,O⟩:S62)]:List (S62)):List (S62))).bind fun γ=>(if (U.length+γ.length<1000000000∧0 ≤ δ ∧ δ ≤ (U.length:Int)) then (some (U.take δ.toNat++γ++U.drop δ.toNat)) else (none)))=some r:=H
  have aw:=Aside0.mk au
  clear au
  obtain⟨γ,ag⟩:∃ y_:List (S62),y_=(([(⟨J,O⟩:S62)]:List (S62))):=⟨_,rfl⟩
  replace H:(if (U.length+γ.length<1000000000∧0 ≤ δ ∧ δ ≤ (U.length:Int)) then (some (U.take δ.toNat++γ++U.drop δ.toNat)) else (none))=some r:=by first|(rw[ag];with_reducible exact H)|(have τ :=(Option.bind_some _ _).symm.trans H;rw[ag];with_reducible exact τ)|(have τ :=(Option.bind_some _ _).symm.trans H;with_reducible exact τ)|with_reducible exact H|(rw[ag];exact H)|exact H
  have ai:=Aside0.mk ag
  clear ag
  by_cases ah:(U.length+γ.length<1000000000∧0 ≤ δ ∧ δ ≤ (U.length:Int))
  ·rw[if_pos ah] at H
   have ac:=Aside0.mk ah
   clear ah
   obtain⟨bk,aj⟩:∃ y_:List (S62),y_=(U.take δ.toNat++γ++U.drop δ.toNat):=⟨_,rfl⟩
   replace H:(some bk)=some r:=by first|(rw[aj];with_reducible exact H)|(have τ :=(Option.bind_some _ _).symm.trans H;rw[aj];with_reducible exact τ)|(have τ :=(Option.bind_some _ _).symm.trans H;with_reducible exact τ)|with_reducible exact H|(rw[aj];exact H)|exact H
   have b4:=Aside0.mk aj
   clear aj
   obtain rfl:=Option.some.inj H
   go_enter Try.func33,Try.ntmps33
   try go_wp2_with (first|((with_reducible refine Qs (N:=2) rfl ?_);refine qE 2 #[.slice μ D.length Y,.func (.func 57) #[] #[]] 74 ?_;intro a0 hg b1 hbox hb;have B:=Aside0.mk hbox;have al:=sGe hg;have ar:=sGe hg;replace HB:=sHb hb;clear hb hbox hg)|((with_reducible refine Qs (N:=3) rfl ?_);refine qE 3 #[.int .i64 J,.int .i64 O] 62 ?_;intro X hg gm hbox hb;have L:=Aside0.mk hbox;have ay:=sGe hg;have az:=sGe hg;have a1:=sNl B hg;have a3:=sNg B hg;replace B:=sBk B hb;replace HB:=sHb hb;clear hb hbox hg;have ct:=a1.out;have cu:=a3.out;obtain⟨b5,b6,b7,b8⟩:=qD2 B.out;obtain⟨bh,bi,bn,bo⟩:=qD2 L.out)|((with_reducible refine Q0 (f:=58) rfl ?_);refine Zl (some 13) rfl rfl Try.func58 kr rfl #[.slice μ D.length Y,.agg #[.int .i64 J,.int .i64 O],.func (.func 57) #[] #[]] rfl qM ?_;(with_reducible refine(api_Inside_58.calls k _ _ D J O I δ false _ ?side1 ?side2 A3.out).mono ?_);(case side1=>exact(Kd.Qx φ.out HB.out));(case side2=>exact ab.out);rintro e d1 ⟨rfl,hb⟩;refine⟨_,rfl, ?_⟩;replace B:=sBk B hb;replace L:=sBk L hb;replace HB:=sHb hb;(try clear hb);(try clear a4);(try clear hk);(try clear hi)))
   replace B:=Aside0.mk (Qa B.out)
   replace L:=Aside0.mk (Qa L.out)
   replace HB:=Aside0.mk (Qf HB.out)
   refine Zm (n:=8) (S:=fun w'=>w'.cell? ⟨a0,0,none⟩=some (.slice μ D.length Y)∧w'.cell? ⟨a0,1,none⟩=some (.func (.func 57) #[] #[])∧w'.cell? ⟨X,0,none⟩=some (.int .i64 J)∧w'.cell? ⟨X,1,none⟩=some (.int .i64 O)) (ds:=[]) #[false,false,false,false,false,false,false,false] kr rfl rfl ⟨(Qi B.out 0).trans rfl,(Qi B.out 1).trans rfl,(Qi L.out 0).trans rfl,(Qi L.out 1).trans rfl⟩ (fun hHeld=>?_);refine Q7 api_Inside_with.Kj api_Inside_with.Jf (fun HT_ HW_=>?_)
   generalize d1.drew=fc at B L HB hHeld ⊢
   refine qP 0 (some 20) (bN 8 1) HT_ ?_
   refine qP 3 (some 23) (bN 8 9) HT_ ?_
   refine qT 1 (some 21) (bN 8 11) HT_ HW_ hHeld ?_
   refine qT 4 (some 24) (bN 8 27) HT_ HW_ hHeld ?_
   refine Ku (σ:=Value×Value) 2 (bN 8 63) (fun s_=>[(22,s_.1),(25,s_.2)]) (fun s_ w'=>(w'.cell? ⟨a0,0,none⟩=some (.slice μ D.length Y)∧w'.cell? ⟨a0,1,none⟩=some (.func (.func 57) #[] #[])∧w'.cell? ⟨X,0,none⟩=some (.int .i64 J)∧w'.cell? ⟨X,1,none⟩=some (.int .i64 O))∧(Kd.R k62 62 w' w.heap.size (fun k_=>some k_≠(s_.2:Value).ownBlock∧k_≠X) s_.1 U)∧(Kd.R k62 62 w' w.heap.size (fun k_=>some k_≠(s_.1:Value).ownBlock∧k_≠X) s_.2 γ)∧(w'.heap[a0]?=some (.cells #[.slice μ D.length Y,.func (.func 57) #[] #[]] 74 (0,0)))∧(w'.heap[X]?=some (.cells #[.int .i64 J,.int .i64 O] 62 (0,0)))∧(Below w.heap.size w w')) ?_ ?_
   rotate_left
   ·intro hCont
    refine J8 (i:=2) (j:=5) (Ni:=some 22) (Nj:=some 25) (bN 8 31) (bN 8 59) rfl rfl rfl rfl (X6 HT_.out kr) (by decide) (by decide) (fun K hK=>?_) (fun K hK=>?_)
    ·skip
     refine Zh Try.func59 kr rfl #[.slice μ D.length Y] (by rfl) rfl rfl qM ?_
     with_reducible refine(api_Inside_59.calls _ _ D U _ ?side1 ?side2 aw.out).mono ?_
     (case side1=>exact(Kd.Qx φ.out HB.out))
     (case side2=>exact ab.out)
     rintro e df ⟨af,rfl,ψ,hb⟩
     refine⟨_,rfl, ?_⟩
     have θ :=Aside0.mk (Kd.Q1 (Kd.Xo ψ (g:=X) (o:=.cells #[.int .i64 J,.int .i64 O] 62 (0,0)) L.out) (Ql HB.out))
     replace B:=sBk B hb
     replace L:=sBk L hb
     replace HB:=sHb hb
     (try clear hb)
     (try clear a4)
     (try clear hk)
     (try clear hi)
     (try clear ψ)
     refine hK.out _ _ ⟨qc B,qc B,qc L,qc L⟩ (fun hHeld=>?_)
     clear hK K
     refine qN (some 22) ?_
     refine Zi (i:=5) (N:=some 25) (bN 8 63) rfl rfl (Q2 HT_.out kr) (by decide) (fun K hK=>?_)
     refine Kd.Xi k62 _ 62 ?hg (N:=25) ?hd (xs:=([(⟨J,O⟩:S62)]:List (S62))) (inner:=[.int .i64 J,.int .i64 O]) (ok:=fun _=>True) (okp:=fun _=>True) ?hr ?hp (fun _ hk=>hk) trivial (Below.refl _ _) (Nat.le_refl _) (by simp) ?_;(case hd=>rfl);(case hg=>rfl);(case hr=>go_simp <;> rfl);(case hp=>exact(Reps.c2 (show Kd.M k62 _ _ _ (⟨J,O⟩:S62) [.int .i64 J,.int .i64 O] from(Jp _ _ _ (⟨J,O⟩:S62))) (Reps.none _ _)))
     intro ak cx a5 hb hg_ hnew_
     clear hg_ hnew_
     (first|rw[← ai.out] at a5|(simp only[Int.reduceToNat] at a5;rw[← ai.out] at a5))
     have ζ :=Aside0.mk (Kd.Q1 (Kd.Xo (Kd.Zf a5 (Kd.Zq θ.out)) (g:=X) (o:=.cells #[.int .i64 J,.int .i64 O] 62 (0,0)) L.out) (Ql HB.out))
     replace θ :=Aside0.mk (Kd.Za θ.out (Kd.Zg a5) hb)
     replace B:=sBk B hb
     replace L:=sBk L hb
     replace HB:=sHb hb
     clear hb a5
     refine hK.out _ _ ⟨qc B,qc B,qc L,qc L⟩ (fun hHeld=>?_)
     clear hK K
     refine qN (some 25) ?_
     exact Xe (by simp only[Zv,Act.put,qS]) (hCont (af,ak) _ ⟨hHeld,(by(with_reducible repeat first|apply Kd.Qk|apply Kd.Qj|apply Kd.Qm);exact Kd.Qq θ.out (fun _ hk=>⟨hk.2,hk.1.2⟩)),(by(with_reducible repeat first|apply Kd.Qk|apply Kd.Qj|apply Kd.Qm);exact Kd.Qq ζ.out (fun _ hk=>⟨hk.1.2,hk.2⟩)),B.out,L.out,HB.out⟩)
    ·skip
     refine Kd.Xi k62 _ 62 ?hg (N:=25) ?hd (xs:=([(⟨J,O⟩:S62)]:List (S62))) (inner:=[.int .i64 J,.int .i64 O]) (ok:=fun _=>True) (okp:=fun _=>True) ?hr ?hp (fun _ hk=>hk) trivial (Below.refl _ _) (Nat.le_refl _) (by simp) ?_;(case hd=>rfl);(case hg=>rfl);(case hr=>go_simp <;> rfl);(case hp=>exact(Reps.c2 (show Kd.M k62 _ _ _ (⟨J,O⟩:S62) [.int .i64 J,.int .i64 O] from(Jp _ _ _ (⟨J,O⟩:S62))) (Reps.none _ _)))
     intro ak df aa hb hg_ hnew_
     clear hg_ hnew_
     (first|rw[← ai.out] at aa|(simp only[Int.reduceToNat] at aa;rw[← ai.out] at aa))
     have ζ :=Aside0.mk (Kd.Q1 (Kd.Xo aa (g:=X) (o:=.cells #[.int .i64 J,.int .i64 O] 62 (0,0)) L.out) (Ql HB.out))
     replace B:=sBk B hb
     replace L:=sBk L hb
     replace HB:=sHb hb
     clear hb aa
     refine hK.out _ _ ⟨qc B,qc B,qc L,qc L⟩ (fun hHeld=>?_)
     clear hK K
     refine qN (some 25) ?_
     refine Zi (i:=2) (N:=some 22) (bN 8 63) rfl rfl (Q2 HT_.out kr) (by decide) (fun K hK=>?_)
     refine Zh Try.func59 kr rfl #[.slice μ D.length Y] (by rfl) rfl rfl qM ?_
     with_reducible refine(api_Inside_59.calls _ _ D U _ ?side1 ?side2 aw.out).mono ?_
     (case side1=>exact(Kd.Qx φ.out HB.out))
     (case side2=>exact ab.out)
     rintro e fu ⟨af,rfl,ψ,hb⟩
     refine⟨_,rfl, ?_⟩
     have θ :=Aside0.mk (Kd.Q1 (Kd.Xo (Kd.Zf ψ (Kd.Zq ζ.out)) (g:=X) (o:=.cells #[.int .i64 J,.int .i64 O] 62 (0,0)) L.out) (Ql HB.out))
     replace ζ :=Aside0.mk (Kd.Za ζ.out (Kd.Zg ψ) hb)
     replace B:=sBk B hb
     replace L:=sBk L hb
     replace HB:=sHb hb
     (try clear hb)
     (try clear a4)
     (try clear hk)
     (try clear hi)
     (try clear ψ)
     refine hK.out _ _ ⟨qc B,qc B,qc L,qc L⟩ (fun hHeld=>?_)
     clear hK K
     refine qN (some 22) ?_
     exact Xe (by simp only[Zv,Act.put,qS]) (hCont (af,ak) _ ⟨hHeld,(by(with_reducible repeat first|apply Kd.Qk|apply Kd.Qj|apply Kd.Qm);exact Kd.Qq θ.out (fun _ hk=>⟨hk.1.2,hk.2⟩)),(by(with_reducible repeat first|apply Kd.Qk|apply Kd.Qj|apply Kd.Qm);exact Kd.Qq ζ.out (fun _ hk=>⟨hk.2,hk.1.2⟩)),B.out,L.out,HB.out⟩)
   rintro⟨af,ak⟩ bq ⟨hS_,da,db,dc,dd,de⟩
   have Z:Aside0 (Kd.R k62 62 bq w.heap.size (fun k_=>some k_≠(ak:Value).ownBlock∧k_≠X) af U):=⟨da⟩
   have ε :Aside0 (Kd.R k62 62 bq w.heap.size (fun k_=>some k_≠(af:Value).ownBlock∧k_≠X) ak γ):=⟨db⟩
   have ι :Aside0 (bq.heap[a0]?=some (.cells #[.slice μ D.length Y,.func (.func 57) #[] #[]] 74 (0,0))):=⟨dc⟩
   have κ :Aside0 (bq.heap[X]?=some (.cells #[.int .i64 J,.int .i64 O] 62 (0,0))):=⟨dd⟩
   have χ :Aside0 (Below w.heap.size w bq):=⟨de⟩
   clear B
   clear L
   clear HB
   clear da db dc dd de
   have θ :=Z
   have ζ := ε
   have B:= ι
   have L:= κ
   have HB:= χ
   clear Z ε ι κ χ
   have hHeld:bq.cell? ⟨a0,0,none⟩=some (.slice μ D.length Y)∧bq.cell? ⟨a0,1,none⟩=some (.func (.func 57) #[] #[])∧bq.cell? ⟨X,0,none⟩=some (.int .i64 J)∧bq.cell? ⟨X,1,none⟩=some (.int .i64 O):=hS_
   obtain⟨cf,cg,ch⟩:=Kd.Q3 ζ.out
   (first|subst ch|(injection ch with ν a7 ξ;have a8:= ν.symm;have a9:= ξ.symm;clear ν a7 ξ;subst a8;subst a9))
   refine Xe (a':=?_) ?_ ?_
   rotate_left
   ·simp only[Zv,Act.put,qS]
    rfl
   refine Zi (i:=6) (N:=some 26) (bN 8 127) rfl rfl (Q2 HT_.out kr) (by decide) (fun K hK=>?_)
   refine Zh Try.func60 kr rfl #[af,.int .i64 δ,.slice cf γ.length cg] (by rfl) rfl rfl qM ?_
   refine(N0 _ w.heap.size (fun k_=>some k_≠(.slice cf γ.length cg:Value).ownBlock∧k_≠X) _ af U γ _ δ cf cg ai.out ?aS ?aF ?aO ζ.out ?aN (by have h_:=ac.out;omega) (by have h_:=ac.out;omega) (by have h_:=ac.out;omega)).mono ?_
   (case aS=>exact(Ql HB.out))
   (case aF=>exact(fun k_ hk=>⟨Kd.fresh' (Kd.Zq ζ.out) k_ hk,Kd.Md (g:=X) (o:=.cells #[.int .i64 J,.int .i64 O] 62 (0,0)) L.out k_ hk⟩))
   (case aO=>exact θ.out)
   (case aN=>exact fun k_ hk=>hk.1)
   rintro e dn ⟨gy,rfl,ho,b0,hg,hat⟩
   refine⟨_,rfl, ?_⟩
   have hb:=HB.out.trans b0
   rw[← b4.out] at ho
   have ρ:=Aside0.mk ho
   replace B:=Aside0.mk (Q4 (g:=a0) (o:=.cells #[.slice μ D.length Y,.func (.func 57) #[] #[]] 74 (0,0)) B.out hg (Kd.Z4 θ.out B.out (by decide)))
   replace L:=Aside0.mk (Q4 (g:=X) (o:=.cells #[.int .i64 J,.int .i64 O] 62 (0,0)) L.out hg (Kd.G6 θ.out (fun _ hk=>hk.2)))
   replace ζ :=Aside0.mk (Kd.Xl (ok:=(fun k_=>k_≠X)) (by(with_reducible repeat first|apply Kd.Qk|apply Kd.Qj|apply Kd.Qm);exact Kd.Qq ζ.out (fun _ hk=>⟨hk.2,hk.1⟩)) hg hat)
   replace HB:=Aside0.mk hb
   clear θ
   clear ho hb hg hat
   refine hK.out _ _ ⟨qc B,qc B,qc L,qc L⟩ (fun hHeld=>?_)
   clear hK K
   refine qN (some 26) ?_
   refine qP 7 (some 4) (bN 8 255) HT_ ?_
   refine Zr (Ze HT_.out kr) ?_
   try go_wp2
   go_ret
   exact⟨_,rfl,by(with_reducible repeat first|apply Kd.Qk|apply Kd.Qj|apply Kd.Qm);exact Kd.Qq ρ.out (fun _ hk=>trivial),HB.out⟩
  ·rw[if_neg ah] at H
   exact absurd H (by simp)
end Go.Proofs.Ytjehhhlhalkieaa.C
namespace Go.Proofs.Ytjehhhlhalkieaa.C
open Go.RowKit Go.Proofs.YtjehhhlhalkieaaW.PrintWords Go.Proofs.YtjehhhlhalkieaaW.PrintLast Go.Proofs.YtjehhhlhalkieaaW.PrintMore
set_option linter.unusedVariables false
theorem Kv {α:Type} (q:α→Bool) (l:List α) (p:Nat) (h1:∀ y ∈ l.take p,q y=true) (L:∀ y ∈ l.drop p,q y=false):l.filter q=l.take p∧l.filter (fun y=> !q y)=l.drop p:=by
  have e:=List.take_append_drop p l
  constructor
  · conv=>lhs;rw[← e]
    rw[List.filter_append,List.filter_eq_self.2 h1,List.filter_eq_nil_iff.2 (fun y hy=>by rw[L y hy];decide),List.append_nil]
  · conv=>lhs;rw[← e]
    rw[List.filter_append,List.filter_eq_nil_iff.2 (fun y hy=>by rw[h1 y hy];decide),List.filter_eq_self.2 (fun y hy=>by rw[L y hy];rfl),List.nil_append]
def Nh (x:S56) (l:List S56):List S56:=if l.any (fun y=>Z7 y.f0 y.f1 x.f0 x.f1==0) then l else l.filter (fun y=>decide (Z7 y.f0 y.f1 x.f0 x.f1<0)) ++ [x]++l.filter (fun y=> !decide (Z7 y.f0 y.f1 x.f0 x.f1<0))
def withP_H.f (I D U:Int) (l:List S56):Option (List S56):=if small (l.length+2) D=true∧Call.Zo (fun _=>true) Call.ltH none l=true then some (Nh ⟨I,D,U⟩ l) else none
set_option maxHeartbeats 1000000 in
theorem Vd (Y:Option Addr) (c:Nat) (l:List S56) (I D U:Int) (t:List S56) (W:World) (hr:Kd.C k56 W Y l.length l) (hc:l.length≤c) (h:withP_H.f I D U l=some t):
    Calls Try.prog 35 #[.agg #[.slice Y l.length c,.func (.func 51) #[] #[]],.agg #[.int .i64 I,.int .i64 D,.int .i64 U]] W fun e w'=>∃ a6:Value,e = .returned a6∧Kd.R k56 56 w' W.heap.size (fun _=>True) a6 t∧Below W.heap.size W w':=by
  unfold withP_H.f at h
  split at h
  case isFalse=>cases h
  case isTrue hs=>
  cases h
  obtain⟨hl,hb⟩:=of_decide_eq_true hs.1
  have hso:=((Call.Jx (fun _=>true) l).1 hs.2).2
  refine api_Hall_with.calls (l.length+2) Y c l 0 I D U _ W hr hc ?_
  unfold api_Hall_with.f api_Hall_55.f
  have hl':l.length<1000000000:=by omega
  obtain⟨p,hp,e⟩:=Call.Gu l I D U 0 (by omega) hso (l.length+2) (by omega)
  obtain⟨h1,L,J⟩:=hp
  rw[e]
  simp only[Option.bind_some,if_pos hl',Int.toNat_natCast]
  have hany:l.any (fun y=>Z7 y.f0 y.f1 I D==0)=Call.K7 l I D p:=by
    unfold Call.K7
    rcases Nat.lt_or_ge p l.length with hlt|hge
    · rw[List.getElem?_eq_getElem hlt]
      simp only
      obtain⟨b,hb⟩:∃ b,(Z7 l[p].f0 l[p].f1 I D==0)=b:=⟨_,rfl⟩
      rw[hb]
      cases b
      · rw[List.any_eq_false]
        intro y hy hq
        obtain⟨m,hm,rfl⟩:=List.mem_iff_getElem.1 hy
        have B:Z7 l[m].f0 l[m].f1 I D=0:=by simpa using hq
        rw[Call.Yi] at B
        rcases Nat.lt_trichotomy m p with O|he|hgt
        · have:=L l[m] (List.mem_iff_getElem.2 ⟨m,by rw[List.length_take];omega,by rw[List.getElem_take]⟩)
          rw[Call.X5] at this
          omega
        · subst he
          rw[← Call.Yi] at B
          rw[B] at hb
          cases hb
        · have X:=J l[p] (List.mem_iff_getElem.2 ⟨0,by rw[List.length_drop];omega,by rw[List.getElem_drop];rfl⟩)
          rw[Call.X5] at X
          have Z:=List.pairwise_iff_getElem.1 hso p m hlt hm hgt
          rw[Call.Y2] at Z
          omega
      · exact List.any_eq_true.2 ⟨l[p],List.getElem_mem hlt,hb⟩
    · rw[List.getElem?_eq_none hge]
      simp only
      rw[List.any_eq_false]
      intro y hy hq
      have:=L y (by rw[List.take_of_length_le hge];exact hy)
      rw[Call.X5] at this
      have B:Z7 y.f0 y.f1 I D=0:=by simpa using hq
      rw[Call.Yi] at B
      omega
  have hsp:=Kv (fun y=>decide (Z7 y.f0 y.f1 I D<0)) l p (fun y hy=>decide_eq_true (L y hy)) (fun y hy=>decide_eq_false (J y hy))
  obtain⟨b,hm⟩:∃ b,Call.K7 l I D p=b:=⟨_,rfl⟩
  unfold Nh
  rw[hm] at hany ⊢
  simp only[hany,hsp.1,hsp.2]
  cases b
  · simp only[Bool.false_eq_true,if_false]
    rw[if_pos ⟨by simp only[List.length_cons,List.length_nil];omega,by omega,by omega⟩]
  · simp only[if_true]
def Ng (x:S62) (l:List S62):List S62:=if l.any (fun y=>Z7 y.f0 y.f1 x.f0 x.f1==0) then l else l.filter (fun y=>decide (Z7 y.f0 y.f1 x.f0 x.f1<0)) ++ [x]++l.filter (fun y=> !decide (Z7 y.f0 y.f1 x.f0 x.f1<0))
def withP_I.f (I D:Int) (l:List S62):Option (List S62):=if small (l.length+2) D=true∧Call.Zo (fun _=>true) Call.ltI none l=true then some (Ng ⟨I,D⟩ l) else none
set_option maxHeartbeats 1000000 in
theorem Vb (Y:Option Addr) (c:Nat) (l:List S62) (I D:Int) (t:List S62) (W:World) (hr:Kd.C k62 W Y l.length l) (hc:l.length≤c) (h:withP_I.f I D l=some t):
    Calls Try.prog 33 #[.agg #[.slice Y l.length c,.func (.func 57) #[] #[]],.agg #[.int .i64 I,.int .i64 D]] W fun e w'=>∃ a6:Value,e = .returned a6∧Kd.R k62 62 w' W.heap.size (fun _=>True) a6 t∧Below W.heap.size W w':=by
  unfold withP_I.f at h
  split at h
  case isFalse=>cases h
  case isTrue hs=>
  cases h
  obtain⟨hl,hb⟩:=of_decide_eq_true hs.1
  have hso:=((Call.Gd (fun _=>true) l).1 hs.2).2
  refine api_Inside_with.calls (l.length+2) Y c l 0 I D _ W hr hc ?_
  unfold api_Inside_with.f api_Inside_59.f
  have hl':l.length<1000000000:=by omega
  obtain⟨p,hp,e⟩:=Call.Uw l I D 0 (by omega) hso (l.length+2) (by omega)
  obtain⟨h1,L,J⟩:=hp
  rw[e]
  simp only[Option.bind_some,if_pos hl',Int.toNat_natCast]
  have hany:l.any (fun y=>Z7 y.f0 y.f1 I D==0)=Call.Wh l I D p:=by
    unfold Call.Wh
    rcases Nat.lt_or_ge p l.length with hlt|hge
    · rw[List.getElem?_eq_getElem hlt]
      simp only
      obtain⟨b,hb⟩:∃ b,(Z7 l[p].f0 l[p].f1 I D==0)=b:=⟨_,rfl⟩
      rw[hb]
      cases b
      · rw[List.any_eq_false]
        intro y hy hq
        obtain⟨m,hm,rfl⟩:=List.mem_iff_getElem.1 hy
        have B:Z7 l[m].f0 l[m].f1 I D=0:=by simpa using hq
        rw[Call.Yi] at B
        rcases Nat.lt_trichotomy m p with O|he|hgt
        · have:=L l[m] (List.mem_iff_getElem.2 ⟨m,by rw[List.length_take];omega,by rw[List.getElem_take]⟩)
          rw[Call.X5] at this
          omega
        · subst he
          rw[← Call.Yi] at B
          rw[B] at hb
          cases hb
        · have X:=J l[p] (List.mem_iff_getElem.2 ⟨0,by rw[List.length_drop];omega,by rw[List.getElem_drop];rfl⟩)
          rw[Call.X5] at X
          have Z:=List.pairwise_iff_getElem.1 hso p m hlt hm hgt
          rw[Call.J4] at Z
          omega
      · exact List.any_eq_true.2 ⟨l[p],List.getElem_mem hlt,hb⟩
    · rw[List.getElem?_eq_none hge]
      simp only
      rw[List.any_eq_false]
      intro y hy hq
      have:=L y (by rw[List.take_of_length_le hge];exact hy)
      rw[Call.X5] at this
      have B:Z7 y.f0 y.f1 I D=0:=by simpa using hq
      rw[Call.Yi] at B
      omega
  have hsp:=Kv (fun y=>decide (Z7 y.f0 y.f1 I D<0)) l p (fun y hy=>decide_eq_true (L y hy)) (fun y hy=>decide_eq_false (J y hy))
  obtain⟨b,hm⟩:∃ b,Call.Wh l I D p=b:=⟨_,rfl⟩
  unfold Ng
  rw[hm] at hany ⊢
  simp only[hany,hsp.1,hsp.2]
  cases b
  · simp only[Bool.false_eq_true,if_false]
    rw[if_pos ⟨by simp only[List.length_cons,List.length_nil];omega,by omega,by omega⟩]
  · simp only[if_true]
end Go.Proofs.Ytjehhhlhalkieaa.C
namespace Go.Proofs.Ytjehhhlhalkieaa.C
open Go.RowKit Go.Proofs.YtjehhhlhalkieaaW.PrintWords Go.Proofs.YtjehhhlhalkieaaW.PrintLast Go.Proofs.YtjehhhlhalkieaaW.PrintMore
attribute [local go_sem] Z3 Z1 Xb Xa Zt Zs Z2 Z0
set_option linter.unusedVariables false
set_option linter.unusedSimpArgs false
def call_Press.j0:Nat→Int→Int→List (S56)→List (S62)→Int→Int→Int→Option ((List (S56))×(List (S62))×Int)
 |0,_,_,_,_,_,_,_=>none
 |k+1,J,L,O,U,B,D,I=>(hallP.f B D I J L).bind fun al=>((call_change.f (withP_H.f B D I O) (woP_I.f (-2) 0 U) k J L O U al 0 B D I 0 (-2) 0).bind fun bp=>(some (bp.1,bp.2.1,bp.2.2)))
def call_Press.f (k:Nat) (D:Int) (I:Int) (B:List (S56)) (J:List (S62)) (Y:Int) (X:Int) (θ :Int):Option ((List (S56))×(List (S62))×Int):=if Y=0 then (call_Press.j0 k D I B J X 1 (-1)) else (if Y=1 then (call_Press.j0 k D I B J X (-1) (-1)) else (if Y=2 then ((insP.f θ X D I).bind fun φ =>((call_change.f (woP_H.f (-2) 0 0 B) (withP_I.f θ X J) k D I B J φ 0 (-2) 0 0 0 θ X).bind fun b1=>(some (b1.1,b1.2.1,b1.2.2)))) else (call_Press.j0 k D I B J X 0 (-1))))
theorem call_Press.Zk:∀ k,(∀ J L O D U X Y,LeO (call_Press.j0 k J L O D U X Y) (call_Press.j0 (k+1) J L O D U X Y))
 |0=>fun _ _ _ _ _ _ _ r h=>by simp[call_Press.j0] at h
 |k+1=>by
  have B:=call_Press.Zk k
  ·intro J L O D U X Y
   unfold call_Press.j0
   repeat' first
   |(with_reducible exact B _ _ _ _ _ _ _)
   |(with_reducible exact call_change.mono _ _ _ _ _ _ _ _ _ _ _ _ _ _ _)
   |(with_reducible exact LeO.refl _)
   |(with_reducible exact LeO.none _)
   |(with_reducible refine LeO.ite ?_ ?_)
   |(with_reducible refine LeO.bind ?_ (fun _=>?_))
   |exact B _ _ _ _ _ _ _
   |exact call_change.mono _ _ _ _ _ _ _ _ _ _ _ _ _ _ _
   |exact LeO.none _
   |refine LeO.ite ?_ ?_
   |refine LeO.bind ?_ (fun _=>?_)
theorem call_Press.mono:∀ D J a2 X L a5 O k,LeO (call_Press.f k D J a2 X L a5 O) (call_Press.f (k+1) D J a2 X L a5 O):=by
 intro D J a2 X L a5 O k
 have B:=call_Press.Zk k
 unfold call_Press.f
 repeat' first
   |(with_reducible exact B _ _ _ _ _ _ _)
   |(with_reducible exact call_change.mono _ _ _ _ _ _ _ _ _ _ _ _ _ _ _)
   |(with_reducible exact LeO.refl _)
   |(with_reducible exact LeO.none _)
   |(with_reducible refine LeO.ite ?_ ?_)
   |(with_reducible refine LeO.bind ?_ (fun _=>?_))
   |exact B _ _ _ _ _ _ _
   |exact call_change.mono _ _ _ _ _ _ _ _ _ _ _ _ _ _ _
   |exact LeO.none _
   |refine LeO.ite ?_ ?_
   |refine LeO.bind ?_ (fun _=>?_)
def call_Press.T9:Bool×List (List Nat×List Nat):=(true,[([],[]),([],[]),([],[]),([2],[2]),([],[]),([3,4,3],[3,4]),([],[]),([6,5],[6]),([7],[7]),([],[]),([],[]),([10,7],[10]),([11],[11]),([],[]),([0,1,5,8,9,12,13,11],[0,1,5,8,9,12,13]),([14],[14]),([14],[14]),([15,14,0,1,2,3,4,5,6,7,8,9,10,11,12,13,14,15,16],[15]),([16,17,0,1,2,3,4,5,6,7,8,9,10,11,12,13,14,15,16,17],[16])])
def call_Press.B9:List Nat:=[0,0,0,4,0,28,0,124,252,0,0,1276,3324,0,16383,32767,32767,131071,262143]
theorem call_Press.Nu:rtab .any (opsOf Try.f11 9)=call_Press.T9:=by kernel_rfl
theorem call_Press.Mi:Zp call_Press.T9.2 call_Press.B9=true:=by kernel_rfl
def call_Press.T10:Bool×List (List Nat×List Nat):=(true,[([],[]),([],[]),([],[]),([2],[2]),([],[]),([3,4,3],[3,4]),([],[]),([6,5],[6]),([7],[7]),([],[]),([],[]),([10,7],[10]),([11],[11]),([],[]),([0,1,5,8,9,12,13,11],[0,1,5,8,9,12,13]),([14],[14]),([14],[14]),([15,14,0,1,2,3,4,5,6,7,8,9,10,11,12,13,14,15,16],[15]),([16,17,0,1,2,3,4,5,6,7,8,9,10,11,12,13,14,15,16,17],[16])])
def call_Press.B10:List Nat:=[0,0,0,4,0,28,0,124,252,0,0,1276,3324,0,16383,32767,32767,131071,262143]
theorem call_Press.V6:rtab .any (opsOf Try.f11 10)=call_Press.T10:=by kernel_rfl
theorem call_Press.G3:Zp call_Press.T10.2 call_Press.B10=true:=by kernel_rfl
set_option maxHeartbeats 8000000 in
set_option maxRecDepth 100000 in
theorem call_Press.calls (k:Nat) (D:Int) (I:Int) (ζ :Option Addr) (γ:Nat) (B:List (S56)) (η :Option Addr) (δ :Nat) (J:List (S62)) (Y:Int) (X:Int) (θ :Int) (r1:List (S56)) (r2:List (S62)) (r3:Int) (w:World) (bj:Kd.C k56 w ζ B.length B) (bk:B.length≤γ) (bl:Kd.C k62 w η J.length J) (bm:J.length ≤ δ) (h:call_Press.f k D I B J Y X θ = some (r1,r2,r3)):
  Calls Try.prog 11 #[.agg #[.int .i64 D,.int .i64 I],.agg #[.slice ζ B.length γ,.slice η J.length δ],.agg #[.int .i64 Y,.int .i64 X,.int .i64 θ]] w fun e w'=>∃ a6 b0:Value,e = .returned (.tuple #[.agg #[a6,b0],.int .i64 r3])∧Kd.R k56 56 w' w.heap.size (fun _=>True) a6 r1∧Kd.R k62 62 w' w.heap.size (fun _=>True) b0 r2∧Below w.heap.size w w':=by
 have et:=Try.underlying23
 have eh:=Try.underlying27
 have kk:=Try.underlying29
 have b2:=Try.underlying56
 have b9:=Try.underlying62
 have ai:=Aside0.mk bj
 have ay:=Aside0.mk bk
 clear bj bk
 have ak:=Aside0.mk bl
 have az:=Aside0.mk bm
 clear bl bm
 have HB:=Aside0.mk (Below.refl w.heap.size w)
 have H:(if Y=0 then (call_Press.j0 k D I B J X 1 (-1)) else (if Y=1 then (call_Press.j0 k D I B J X (-1) (-1)) else (if Y=2 then ((insP.f θ X D I).bind fun φ =>((call_change.f (woP_H.f (-2) 0 0 B) (withP_I.f θ X J) k D I B J φ 0 (-2) 0 0 0 θ X).bind fun b1=>(some (b1.1,b1.2.1,b1.2.2)))) else (call_Press.j0 k D I B J X 0 (-1)))))=some (r1,r2,r3):=h
 clear h
 have fn:=Aside0.mk H
 clear H
 go_enter Try.func11,Try.ntmps11
 go_upto_block 0 with(first|((with_reducible refine Qs (N:=3) rfl ?_);refine qE 3 #[.int .i64 D,.int .i64 I] 23 ?_;intro ab hg w5 hbox hb;have O:=Aside0.mk hbox;have ar:=sGe hg;have da:=sGe hg;replace HB:=sHb hb;clear hb hbox hg)|((with_reducible refine Qs (N:=4) rfl ?_);refine qE 4 #[.slice ζ B.length γ,.slice η J.length δ] 27 ?_;intro b4 hg w6 hbox hb;have U:=Aside0.mk hbox;have il:=sGe hg;have im:=sGe hg;have gp:=sNl O hg;have gs:=sNg O hg;replace O:=sBk O hb;replace HB:=sHb hb;clear hb hbox hg)|((with_reducible refine Qs (N:=5) rfl ?_);refine qE 5 #[.int .i64 Y,.int .i64 X,.int .i64 θ] 29 ?_;intro cj hg w7 hbox hb;have σ:=Aside0.mk hbox;have io:=sGe hg;have iq:=sGe hg;have dz:=sNl O hg;have e0:=sNg O hg;have e4:=sNl U hg;have e6:=sNg U hg;replace O:=sBk O hb;replace U:=sBk U hb;replace HB:=sHb hb;clear hb hbox hg)|((with_reducible refine Qs (N:=6) rfl ?_);refine qE 6 #[.slice none 0 0,.slice none 0 0] 27 ?_;intro τ hg w8 hbox hb;have ρ:=Aside0.mk hbox;have ir:=sGe hg;have it:=sGe hg;have ae:=sNl O hg;have bh:=sNg O hg;have af:=sNl U hg;have bi:=sNg U hg;have bd:=sNl σ hg;have be:=sNg σ hg;replace O:=sBk O hb;replace U:=sBk U hb;replace σ:=sBk σ hb;replace HB:=sHb hb;clear hb hbox hg;have g9:=e0.out;have ge:=dz.out;have dh:=e6.out;have di:=e4.out;have jy:=bd.out;have jz:=be.out;obtain⟨am,an,cz,ao,ap,d8⟩:=qD3 σ.out)|((with_reducible refine Qs (N:=8) rfl ?_);refine qE 8 #[.int .i64 0,.int .i64 0,.int .i64 0] 56 ?_;intro aw hg fa hbox hb;have μ :=Aside0.mk hbox;have iu:=sGe hg;have iv:=sGe hg;have bs:=sNl O hg;have bu:=sNg O hg;have bv:=sNl U hg;have bz:=sNg U hg;have cb:=sNl σ hg;have cd:=sNg σ hg;have au:=sNl ρ hg;have ac:=sNg ρ hg;replace O:=sBk O hb;replace U:=sBk U hb;replace σ:=sBk σ hb;replace ρ:=sBk ρ hb;replace HB:=sHb hb;clear hb hbox hg;have gz:=bu.out;have h0:=bs.out;have fo:=bz.out;have fp:=bv.out;have lg:=cd.out;have lh:=cb.out;have gq:=ac.out;have gr:=au.out;obtain⟨ej,ek,ck,el,em,cn⟩:=qD3 μ.out;obtain⟨b5,b6,cv,b7,b8,cx⟩:=qD3 σ.out)|((with_reducible refine Qs (N:=9) rfl ?_);refine qE 9 #[.int .i64 0,.int .i64 0] 62 ?_;intro a0 hg eu hbox hb;have L:=Aside0.mk hbox;have h6:=sGe hg;have h7:=sGe hg;have e7:=Aside0.mk ((by rw[hg];exact Nat.ne_of_lt (Q5 (g:=ab) (o:=.cells #[.int .i64 D,.int .i64 I] 23 (0,0)) (bka O)):ab≠a0));have e8:=Aside0.mk ((by rw[hg];exact Nat.ne_of_gt (Q5 (g:=ab) (o:=.cells #[.int .i64 D,.int .i64 I] 23 (0,0)) (bka O)):a0≠ab));have eb:=Aside0.mk ((by rw[hg];exact Nat.ne_of_lt (Q5 (g:=b4) (o:=.cells #[.slice ζ B.length γ,.slice η J.length δ] 27 (0,0)) (bka U)):b4≠a0));have ec:=Aside0.mk ((by rw[hg];exact Nat.ne_of_gt (Q5 (g:=b4) (o:=.cells #[.slice ζ B.length γ,.slice η J.length δ] 27 (0,0)) (bka U)):a0≠b4));have ed:=Aside0.mk ((by rw[hg];exact Nat.ne_of_lt (Q5 (g:=cj) (o:=.cells #[.int .i64 Y,.int .i64 X,.int .i64 θ] 29 (0,0)) (bka σ)):cj≠a0));have ee:=Aside0.mk ((by rw[hg];exact Nat.ne_of_gt (Q5 (g:=cj) (o:=.cells #[.int .i64 Y,.int .i64 X,.int .i64 θ] 29 (0,0)) (bka σ)):a0≠cj));have bf:=Aside0.mk ((by rw[hg];exact Nat.ne_of_lt (Q5 (g:= τ) (o:=.cells #[.slice none 0 0,.slice none 0 0] 27 (0,0)) (bka ρ)): τ ≠ a0));have aj:=Aside0.mk ((by rw[hg];exact Nat.ne_of_gt (Q5 (g:= τ) (o:=.cells #[.slice none 0 0,.slice none 0 0] 27 (0,0)) (bka ρ)):a0 ≠ τ));have av:=Aside0.mk ((by rw[hg];exact Nat.ne_of_lt (Q5 (g:=aw) (o:=.cells #[.int .i64 X,.int .i64 0,.int .i64 (-1)] 56 (0,0)) (by refine Qw (cs:=#[.int .i64 X,.int .i64 0,.int .i64 0]) ?_ 2 _ rfl;refine Qw (cs:=#[.int .i64 X,.int .i64 0,.int .i64 0]) ?_ 1 _ rfl;refine Qw (cs:=#[.int .i64 0,.int .i64 0,.int .i64 0]) ?_ 0 _ rfl;exact μ.out)):aw≠a0));have bg:=Aside0.mk ((by rw[hg];exact Nat.ne_of_gt (Q5 (g:=aw) (o:=.cells #[.int .i64 X,.int .i64 0,.int .i64 (-1)] 56 (0,0)) (by refine Qw (cs:=#[.int .i64 X,.int .i64 0,.int .i64 0]) ?_ 2 _ rfl;refine Qw (cs:=#[.int .i64 X,.int .i64 0,.int .i64 0]) ?_ 1 _ rfl;refine Qw (cs:=#[.int .i64 0,.int .i64 0,.int .i64 0]) ?_ 0 _ rfl;exact μ.out)):a0≠aw));replace O:=sBk O hb;replace U:=sBk U hb;replace σ:=sBk σ hb;replace ρ:=sBk ρ hb;replace μ :=Aside0.mk (Qn (g:=aw) (o:=.cells #[.int .i64 X,.int .i64 0,.int .i64 (-1)] 56 (0,0)) (by refine Qw (cs:=#[.int .i64 X,.int .i64 0,.int .i64 0]) ?_ 2 _ rfl;refine Qw (cs:=#[.int .i64 X,.int .i64 0,.int .i64 0]) ?_ 1 _ rfl;refine Qw (cs:=#[.int .i64 0,.int .i64 0,.int .i64 0]) ?_ 0 _ rfl;exact μ.out) hb);replace HB:=sHb hb;clear hb hbox hg;have db:=e8.out;have dc:=e7.out;have dx:=ec.out;have dy:=eb.out;have dk:=ee.out;have dm:=ed.out;have df:=aj.out;have du:=bf.out;have e9:=bg.out;have ea:=av.out;obtain⟨d3,d4,d5,d7⟩:=qD2 L.out;obtain⟨cp,cq,f8,cr,ct,fb⟩:=qD3 σ.out))
 (try simp only[Act.put,qS])
 go_cut [] (fun wc=>∃ (kq:Nat) (ag:Int),Aside0 (call_Press.j0 kq D I B J X ag (-1)=some (r1,r2,r3))∧Aside0 (kq≤k)∧Aside0 (wc.heap[ab]?=some (.cells #[.int .i64 D,.int .i64 I] 23 (0,0)))∧Aside0 (wc.heap[b4]?=some (.cells #[(.slice ζ B.length γ),(.slice η J.length δ)] 27 (0,0)))∧Aside0 (wc.heap[cj]?=some (.cells #[.int .i64 Y,.int .i64 X,.int .i64 θ] 29 (0,0)))∧Aside0 (wc.heap[τ]?=some (.cells #[(.slice none 0 0),(.slice none 0 0)] 27 (0,0)))∧Aside0 (wc.heap[aw]?=some (.cells #[.int .i64 X,.int .i64 ag,.int .i64 (-1)] 56 (0,0)))∧Aside0 (wc.heap[a0]?=some (.cells #[.int .i64 θ,.int .i64 X] 62 (0,0)))∧Aside0 (Below w.heap.size w wc))
 case first=>
  have H:=fn.out
  clear fn
  by_cases ax:Y=0
  ·rw[if_pos ax] at H
   have c28b0:(Y==0)=true:=beq_iff_eq.mpr ax
   have c28b1:(Y != 0)=false:=bne_eq_false_iff_eq.mpr ax
   clear ax
   (first|rw[c28b0]|(simp only[Xm,Ya];rw[c28b0])|skip)
   have H':=Aside0.mk H
   clear H
   have j5:=bu.out
   have j6:=bs.out
   have i4:=bz.out
   have i6:=bv.out
   have g6:=cd.out
   have g7:=cb.out
   have fr:=ac.out
   have g1:=au.out
   have ef:=av.out
   have eg:=bg.out
   obtain⟨cw,d0,fc,d1,d2,ff⟩:=qD3 μ.out
   go_wp2
   go_meet
   case rel=>exact⟨_,(1),H',⟨by first|omega|exact Nat.le_refl _⟩,⟨bka O⟩,⟨bka U⟩,⟨bka σ⟩,⟨bka ρ⟩,⟨by(with_reducible repeat first|apply Qe|apply Qa|apply Qb);refine Qw (cs:=#[.int .i64 X,.int .i64 0,.int .i64 (-1)]) ?_ 1 _ rfl;(with_reducible repeat first|apply Qe|apply Qa|apply Qb);refine Zn ?_ av.out _;(with_reducible repeat first|apply Qe|apply Qa|apply Qb);refine Zn ?_ av.out _;(with_reducible repeat first|apply Qe|apply Qa|apply Qb);exact μ.out⟩,⟨by(with_reducible repeat first|apply Qe|apply Qa|apply Qb);refine Zn ?_ bg.out _;(with_reducible repeat first|apply Qe|apply Qa|apply Qb);refine Qw (cs:=#[.int .i64 θ,.int .i64 0]) ?_ 1 _ rfl;(with_reducible repeat first|apply Qe|apply Qa|apply Qb);refine Qw (cs:=#[.int .i64 0,.int .i64 0]) ?_ 0 _ rfl;(with_reducible repeat first|apply Qe|apply Qa|apply Qb);exact L.out⟩,⟨bel⟩⟩
  ·rw[if_neg ax] at H
   have c28b0:(Y==0)=false:=beq_eq_false_iff_ne.mpr ax
   have c28b1:(Y != 0)=true:=bne_iff_ne.mpr ax
   (first|rw[c28b0]|(simp only[Xm,Ya];rw[c28b0])|skip)
   by_cases co:Y=1
   ·rw[if_pos co] at H
    have c35b0:(Y==1)=true:=beq_iff_eq.mpr co
    have c35b1:(Y != 1)=false:=bne_eq_false_iff_eq.mpr co
    clear co
    have H':=Aside0.mk H
    clear H
    have dv:=bu.out
    have dw:=bs.out
    have gb:=bz.out
    have gh:=bv.out
    have g4:=cd.out
    have g5:=cb.out
    have j7:=ac.out
    have j8:=au.out
    have dp:=av.out
    have dq:=bg.out
    obtain⟨bn,bo,cy,ce,cf,d9⟩:=qD3 μ.out
    go_wp2
    go_meet
    case rel=>exact⟨_,((-1)),H',⟨by first|omega|exact Nat.le_refl _⟩,⟨bka O⟩,⟨bka U⟩,⟨bka σ⟩,⟨bka ρ⟩,⟨by(with_reducible repeat first|apply Qe|apply Qa|apply Qb);refine Qw (cs:=#[.int .i64 X,.int .i64 0,.int .i64 (-1)]) ?_ 1 _ rfl;(with_reducible repeat first|apply Qe|apply Qa|apply Qb);refine Zn ?_ av.out _;(with_reducible repeat first|apply Qe|apply Qa|apply Qb);refine Zn ?_ av.out _;(with_reducible repeat first|apply Qe|apply Qa|apply Qb);exact μ.out⟩,⟨by(with_reducible repeat first|apply Qe|apply Qa|apply Qb);refine Zn ?_ bg.out _;(with_reducible repeat first|apply Qe|apply Qa|apply Qb);refine Qw (cs:=#[.int .i64 θ,.int .i64 0]) ?_ 1 _ rfl;(with_reducible repeat first|apply Qe|apply Qa|apply Qb);refine Qw (cs:=#[.int .i64 0,.int .i64 0]) ?_ 0 _ rfl;(with_reducible repeat first|apply Qe|apply Qa|apply Qb);exact L.out⟩,⟨bel⟩⟩
   ·rw[if_neg co] at H
    have c35b0:(Y==1)=false:=beq_eq_false_iff_ne.mpr co
    have c35b1:(Y != 1)=true:=bne_iff_ne.mpr co
    by_cases cu:Y=2
    ·rw[if_pos cu] at H
     have c42b0:(Y==2)=true:=beq_iff_eq.mpr cu
     have c42b1:(Y != 2)=false:=bne_eq_false_iff_eq.mpr cu
     clear cu
     replace H:=Option.bind_eq_some_iff.mp H
     obtain⟨φ,fq,H⟩:=H
     replace H:((call_change.f (woP_H.f (-2) 0 0 B) (withP_I.f θ X J) k D I B J φ 0 (-2) 0 0 0 θ X).bind fun b1=>(some (b1.1,b1.2.1,b1.2.2)))=some (r1,r2,r3):=H
     have ii:=Aside0.mk fq
     clear fq
     replace H:=Option.bind_eq_some_iff.mp H
     obtain⟨⟨dd,ei,b3⟩,dj,H⟩:=H
     replace H:(some (dd,ei,b3))=some (r1,r2,r3):=H
     have dl:=Aside0.mk dj
     clear dj
     simp only[Option.some.injEq,Prod.mk.injEq] at H
     obtain⟨rfl,rfl,rfl⟩:=H
     try go_wp2
     have Z:Aside0 (((eu.setCell ⟨a0,0,none⟩ (.int .i64 θ)).setCell ⟨a0,1,none⟩ (.int .i64 X)).heap[ab]?=some (.cells #[.int .i64 D,.int .i64 I] 23 (0,0))):=⟨bka O⟩
     have ε :Aside0 (((eu.setCell ⟨a0,0,none⟩ (.int .i64 θ)).setCell ⟨a0,1,none⟩ (.int .i64 X)).heap[b4]?=some (.cells #[.slice ζ B.length γ,.slice η J.length δ] 27 (0,0))):=⟨bka U⟩
     have ι :Aside0 (((eu.setCell ⟨a0,0,none⟩ (.int .i64 θ)).setCell ⟨a0,1,none⟩ (.int .i64 X)).heap[cj]?=some (.cells #[.int .i64 Y,.int .i64 X,.int .i64 θ] 29 (0,0))):=⟨bka σ⟩
     have κ :Aside0 (((eu.setCell ⟨a0,0,none⟩ (.int .i64 θ)).setCell ⟨a0,1,none⟩ (.int .i64 X)).heap[τ]?=some (.cells #[.slice none 0 0,.slice none 0 0] 27 (0,0))):=⟨bka ρ⟩
     have χ :Aside0 (((eu.setCell ⟨a0,0,none⟩ (.int .i64 θ)).setCell ⟨a0,1,none⟩ (.int .i64 X)).heap[aw]?=some (.cells #[.int .i64 X,.int .i64 0,.int .i64 (-1)] 56 (0,0))):=⟨bka μ⟩
     have ω :Aside0 (((eu.setCell ⟨a0,0,none⟩ (.int .i64 θ)).setCell ⟨a0,1,none⟩ (.int .i64 X)).heap[a0]?=some (.cells #[.int .i64 θ,.int .i64 X] 62 (0,0))):=⟨by refine Qw (cs:=#[.int .i64 θ,.int .i64 0]) ?_ 1 _ rfl;refine Qw (cs:=#[.int .i64 0,.int .i64 0]) ?_ 0 _ rfl;exact L.out⟩
     have a1:Aside0 (Below w.heap.size w ((eu.setCell ⟨a0,0,none⟩ (.int .i64 θ)).setCell ⟨a0,1,none⟩ (.int .i64 X))):=⟨bel⟩
     (try clear O)
     (try clear U)
     (try clear σ)
     (try clear ρ)
     (try clear μ)
     (try clear L)
     (try clear HB)
     generalize((eu.setCell ⟨a0,0,none⟩ (.int .i64 θ)).setCell ⟨a0,1,none⟩ (.int .i64 X))=gj at Z ε ι κ χ ω a1 ⊢
     have O:=Z
     have U:= ε
     have σ:= ι
     have ρ:= κ
     have μ := χ
     have L:= ω
     have HB:=a1
     clear Z ε ι κ χ ω a1
     replace O:=Aside0.mk (Qa O.out)
     replace U:=Aside0.mk (Qa U.out)
     replace σ:=Aside0.mk (Qa σ.out)
     replace ρ:=Aside0.mk (Qa ρ.out)
     replace μ :=Aside0.mk (Qa μ.out)
     replace L:=Aside0.mk (Qa L.out)
     replace HB:=Aside0.mk (Qf HB.out)
     refine Zm (n:=19) (S:=fun w'=>w'.cell? ⟨ab,0,none⟩=some (.int .i64 D)∧w'.cell? ⟨ab,1,none⟩=some (.int .i64 I)∧w'.cell? ⟨b4,0,none⟩=some (.slice ζ B.length γ)∧w'.cell? ⟨b4,1,none⟩=some (.slice η J.length δ)∧w'.cell? ⟨a0,0,none⟩=some (.int .i64 θ)∧w'.cell? ⟨a0,1,none⟩=some (.int .i64 X)) (ds:=[]) #[false,false,false,false,false,false,false,false,false,false,false,false,false,false,false,false,false,false,false] kr rfl rfl ⟨(Qi O.out 0).trans rfl,(Qi O.out 1).trans rfl,(Qi U.out 0).trans rfl,(Qi U.out 1).trans rfl,(Qi L.out 0).trans rfl,(Qi L.out 1).trans rfl⟩ (fun hHeld=>?_);refine Q7 call_Press.Nu call_Press.Mi (fun HT_ HW_=>?_)
     generalize gj.drew=h8 at O U σ ρ μ L HB hHeld ⊢
     refine qP 9 (some 37) (bN 19 512) HT_ ?_
     refine qT 0 (some 28) (bN 19 513) HT_ HW_ hHeld ?_
     refine qT 1 (some 29) (bN 19 515) HT_ HW_ hHeld ?_
     refine qT 2 (some 30) (bN 19 519) HT_ HW_ hHeld ?_
     refine qT 4 (some 32) (bN 19 535) HT_ HW_ hHeld ?_
     refine qT 6 (some 34) (bN 19 599) HT_ HW_ hHeld ?_
     refine qT 10 (some 38) (bN 19 1623) HT_ HW_ hHeld ?_
     refine qT 13 (some 41) (bN 19 9815) HT_ HW_ hHeld ?_
     refine Zi (i:=3) (N:=some 31) (bN 19 9823) rfl rfl (Q2 HT_.out kr) (by decide) (fun K hK=>?_)
     refine Zh Try.func29 kr rfl #[.agg #[.int .i64 D,.int .i64 I]] (by rfl) rfl rfl qM ?_
     refine(Jd D I _).mono ?_
     rintro e en ⟨ba,rfl,hgp,hgw,hb⟩
     have br:=Aside0.mk hgp
     clear hgp hgw
     refine⟨_,rfl, ?_⟩
     replace O:=sBk O hb
     replace U:=sBk U hb
     replace σ:=sBk σ hb
     replace ρ:=sBk ρ hb
     replace μ :=sBk μ hb
     replace L:=sBk L hb
     replace HB:=sHb hb
     (try clear hb)
     (try clear a4)
     (try clear hk)
     (try clear hi)
     refine hK.out _ _ ⟨qc O,qc O,qc U,qc U,qc L,qc L⟩ (fun hHeld=>?_)
     clear hK K
     refine qN (some 31) ?_
     refine Zi (i:=5) (N:=some 33) (bN 19 9855) rfl rfl (Q2 HT_.out kr) (by decide) (fun K hK=>?_)
     refine Xj Try.func50 kr rfl #[] #[.pointer (some ⟨ba,0,none⟩)] #[.agg #[.int .i64 θ,.int .i64 X]] #[.agg #[.int .i64 θ,.int .i64 X],.pointer (some ⟨ba,0,none⟩)] rfl (by rfl) rfl rfl rfl qM ?_
     refine(Y3 D I θ X φ _ (Option.some.inj ii.out) ba br.out).mono ?_
     rintro e h9 ⟨rfl,hb⟩
     refine⟨_,rfl, ?_⟩
     replace O:=sBk O hb
     replace U:=sBk U hb
     replace σ:=sBk σ hb
     replace ρ:=sBk ρ hb
     replace μ :=sBk μ hb
     replace L:=sBk L hb
     replace HB:=sHb hb
     (try clear hb)
     (try clear a4)
     (try clear hk)
     (try clear hi)
     refine hK.out _ _ ⟨qc O,qc O,qc U,qc U,qc L,qc L⟩ (fun hHeld=>?_)
     clear hK K
     refine qN (some 33) ?_
     refine Zi (i:=7) (N:=some 35) (bN 19 9983) rfl rfl (Q2 HT_.out kr) (by decide) (fun K hK=>?_)
     refine Zh Try.func30 kr rfl #[.agg #[.slice ζ B.length γ,.slice η J.length δ]] (by rfl) rfl rfl qM ?_
     refine(Yd ζ η B.length J.length γ δ _).mono ?_
     rintro e eo ⟨rfl,hb⟩
     refine⟨_,rfl, ?_⟩
     replace O:=sBk O hb
     replace U:=sBk U hb
     replace σ:=sBk σ hb
     replace ρ:=sBk ρ hb
     replace μ :=sBk μ hb
     replace L:=sBk L hb
     replace HB:=sHb hb
     (try clear hb)
     (try clear a4)
     (try clear hk)
     (try clear hi)
     refine hK.out _ _ ⟨qc O,qc O,qc U,qc U,qc L,qc L⟩ (fun hHeld=>?_)
     clear hK K
     refine qN (some 35) ?_
     refine qP 8 (some 36) (bN 19 10239) HT_ ?_
     refine Zi (i:=11) (N:=some 39) (bN 19 12287) rfl rfl (Q2 HT_.out kr) (by decide) (fun K hK=>?_)
     refine Zh Try.func32 kr rfl #[.agg #[.slice ζ B.length γ,.slice η J.length δ]] (by rfl) rfl rfl qM ?_
     refine(Yr ζ η B.length J.length γ δ _).mono ?_
     rintro e ep ⟨rfl,hb⟩
     refine⟨_,rfl, ?_⟩
     replace O:=sBk O hb
     replace U:=sBk U hb
     replace σ:=sBk σ hb
     replace ρ:=sBk ρ hb
     replace μ :=sBk μ hb
     replace L:=sBk L hb
     replace HB:=sHb hb
     (try clear hb)
     (try clear a4)
     (try clear hk)
     (try clear hi)
     refine hK.out _ _ ⟨qc O,qc O,qc U,qc U,qc L,qc L⟩ (fun hHeld=>?_)
     clear hK K
     refine qN (some 39) ?_
     refine qP 12 (some 40) (bN 19 16383) HT_ ?_
     refine Zi (i:=14) (N:=some 42) (bN 19 32767) rfl rfl (Q2 HT_.out kr) (by decide) (fun K hK=>?_)
     refine Zh Try.func28 kr rfl #[.agg #[.int .i64 D,.int .i64 I],.agg #[.slice ζ B.length γ,.slice η J.length δ],.bool φ,.func (.func 31) #[.agg #[.slice ζ B.length γ,.func (.func 51) #[] #[]]] #[],.agg #[.int .i64 (-2),.int .i64 0,.int .i64 0],.func (.func 33) #[.agg #[.slice η J.length δ,.func (.func 57) #[] #[]]] #[],.agg #[.int .i64 θ,.int .i64 X]] (by rfl) rfl rfl qM ?_
     refine(call_change.calls _ _ k D I ζ γ B η δ J φ 0 (-2) 0 0 0 θ X dd ei b3 _ ?side1 ?side2 ?side3 ?side4 dl.out 31 Try.f31 (.agg #[.slice ζ B.length γ,.func (.func 51) #[] #[]]) Try.func31 kr rfl (fun W t ht hb=>Jv ζ γ B _ _ _ t W (Kd.Qx (Kd.Qx ai.out (by repeat(first|(with_reducible first|exact HB.out|apply Qh|apply Qc|apply Qf)|exact HB.out|(refine Qd ?_ (Aside0.out (by assumption)))))) hb) ay.out ht) 33 Try.f33 (.agg #[.slice η J.length δ,.func (.func 57) #[] #[]]) Try.func33 kr rfl (fun W t ht hb=>Vb η δ J _ _ t W (Kd.Qx (Kd.Qx ak.out (by repeat(first|(with_reducible first|exact HB.out|apply Qh|apply Qc|apply Qf)|exact HB.out|(refine Qd ?_ (Aside0.out (by assumption)))))) hb) az.out ht)).mono ?_
     (case side1=>exact(Kd.Qx ai.out HB.out))
     (case side2=>exact ay.out)
     (case side3=>exact(Kd.Qx ak.out HB.out))
     (case side4=>exact az.out)
     rintro e e3 ⟨j3,j4,rfl,ψ,a2,hb⟩
     refine⟨_,rfl, ?_⟩
     have ci:=Aside0.mk (Kd.Q1 (Kd.Xo ψ (g:=aw) (o:=.cells #[.int .i64 X,.int .i64 0,.int .i64 (-1)] 56 (0,0)) μ.out) (Ql HB.out))
     have ey:=Aside0.mk (Kd.Q1 (Kd.Xo a2 (g:=a0) (o:=.cells #[.int .i64 θ,.int .i64 X] 62 (0,0)) L.out) (Ql HB.out))
     replace O:=sBk O hb
     replace U:=sBk U hb
     replace σ:=sBk σ hb
     replace ρ:=sBk ρ hb
     replace μ :=sBk μ hb
     replace L:=sBk L hb
     replace HB:=sHb hb
     (try clear hb)
     (try clear a4)
     (try clear hk)
     (try clear hi)
     (try clear ψ)
     (try clear a2)
     obtain⟨cm,dn,dr⟩:=Kd.Q3 ci.out
     (first|subst dr|(injection dr with ν a7 ξ;have a8:= ν.symm;have a9:= ξ.symm;clear ν a7 ξ;subst a8;subst a9))
     obtain⟨er,ev,dt⟩:=Kd.Q3 ey.out
     (first|subst dt|(injection dt with ν a7 ξ;have a8:= ν.symm;have a9:= ξ.symm;clear ν a7 ξ;subst a8;subst a9))
     refine hK.out _ _ ⟨qc O,qc O,qc U,qc U,qc L,qc L⟩ (fun hHeld=>?_)
     clear hK K
     refine qN (some 42) ?_
     refine qP 15 (some 43) (bN 19 65535) HT_ ?_
     refine qP 16 (some 44) (bN 19 131071) HT_ ?_
     refine Zi (i:=17) (N:=none) (bN 19 262143) rfl rfl (Q2 HT_.out kr) (by decide) (fun K hK=>?_)
     have gu:e3.cell? ⟨τ,0,none⟩=some (.slice none 0 0):=(Qi ρ.out 0).trans rfl
     have gm:=Q6 ρ.out 0
     have f7:=ae.out
     have f9:=af.out
     have fe:=bd.out
     have fg:=ac.out
     have gx:=aj.out
     have fh:=bh.out
     have fi:=bi.out
     have fk:=be.out
     have fl:=au.out
     have h4:=bf.out
     have gv:e3.cell? ⟨τ,1,none⟩=some (.slice none 0 0):=(Qi ρ.out 1).trans rfl
     have gn:=Q6 ρ.out 1
     have fm:=ae.out
     have fw:=af.out
     have fx:=bd.out
     have fy:=ac.out
     have h5:=aj.out
     have fz:=bh.out
     have g0:=bi.out
     have g2:=be.out
     have g8:=au.out
     have ha:=bf.out
     refine Yl (w1:=?_) (by rfl) rfl ?_ ?_
     rotate_left
     ·go_simp
      rfl
     refine hK.out _ _ ⟨((cell_far (p:=⟨τ,_,none⟩) ae.out _).trans (((cell_far (p:=⟨τ,_,none⟩) ae.out _).trans (hHeld.1)))),((cell_far (p:=⟨τ,_,none⟩) ae.out _).trans (((cell_far (p:=⟨τ,_,none⟩) ae.out _).trans (hHeld.2.1)))),((cell_far (p:=⟨τ,_,none⟩) af.out _).trans (((cell_far (p:=⟨τ,_,none⟩) af.out _).trans (hHeld.2.2.1)))),((cell_far (p:=⟨τ,_,none⟩) af.out _).trans (((cell_far (p:=⟨τ,_,none⟩) af.out _).trans (hHeld.2.2.2.1)))),((cell_far (p:=⟨τ,_,none⟩) aj.out _).trans (((cell_far (p:=⟨τ,_,none⟩) aj.out _).trans (hHeld.2.2.2.2.1)))),((cell_far (p:=⟨τ,_,none⟩) aj.out _).trans (((cell_far (p:=⟨τ,_,none⟩) aj.out _).trans (hHeld.2.2.2.2.2))))⟩ (fun hHeld=>?_)
     clear hK K
     refine qP 18 (some 7) (bN 19 524287) HT_ ?_
     refine Zr (Ze HT_.out kr) ?_
     try go_wp2
     refine bodyPost_ret (Xh rfl _ _ τ 27 #[.slice cm dd.length dn,.slice er ei.length ev] (0,0) _ rfl (by refine Qw (cs:=#[.slice cm dd.length dn,.slice none 0 0]) ?_ 1 _ rfl;refine Qw (cs:=#[.slice none 0 0,.slice none 0 0]) ?_ 0 _ rfl;exact ρ.out) Try.underlying27 rfl kr) rfl ?_
     exact⟨_,_,by first|rfl|(simp[Qz,Qy] <;> rfl)|(simp[*,Qz,Qy] <;> rfl),by(with_reducible repeat first|apply Kd.Qk|apply Kd.Qj|apply Kd.Qm);exact Kd.Qq (Kd.Qr (Kd.Qr (Kd.Qu ci.out ρ.out (by decide)) (fun _ hk=>hk.2) _) (fun _ hk=>hk.2) _) (fun _ hk=>trivial),by(with_reducible repeat first|apply Kd.Qk|apply Kd.Qj|apply Kd.Qm);exact Kd.Qq (Kd.Qr (Kd.Qr (Kd.Qu ey.out ρ.out (by decide)) (fun _ hk=>hk.2) _) (fun _ hk=>hk.2) _) (fun _ hk=>trivial),bel⟩
    ·rw[if_neg cu] at H
     have c42b0:(Y==2)=false:=beq_eq_false_iff_ne.mpr cu
     have c42b1:(Y != 2)=true:=bne_iff_ne.mpr cu
     have H':=Aside0.mk H
     clear H
     go_wp2
     go_meet
     case rel=>exact⟨_,(0),H',⟨by first|omega|exact Nat.le_refl _⟩,⟨bka O⟩,⟨bka U⟩,⟨bka σ⟩,⟨bka ρ⟩,⟨bka μ⟩,⟨by(with_reducible repeat first|apply Qe|apply Qa|apply Qb);refine Qw (cs:=#[.int .i64 θ,.int .i64 0]) ?_ 1 _ rfl;(with_reducible repeat first|apply Qe|apply Qa|apply Qb);refine Qw (cs:=#[.int .i64 0,.int .i64 0]) ?_ 0 _ rfl;(with_reducible repeat first|apply Qe|apply Qa|apply Qb);exact L.out⟩,⟨bel⟩⟩
 case rest=>
  clear fn
  try clear c1
  try clear c2
  try clear p2
  try clear c3
  try clear c4
  try clear c5
  try clear c9
  try clear c10
  try clear ca
  try clear a3
  try clear ah
  try clear a5
  try clear aa
  try clear fj
  try clear m1
  try clear jh
  try clear gw
  try clear bb
  try clear ax
  try clear c28b0
  try clear c28b1
  try clear bw
  try clear gy
  try clear ls
  try clear iy
  try clear j9
  try clear co
  try clear c35b0
  try clear c35b1
  try clear lf
  try clear d6
  try clear jt
  try clear l8
  try clear ip
  try clear cu
  try clear c42b0
  try clear c42b1
  try clear i3
  try clear am
  try clear an
  try clear cz
  try clear ej
  try clear ek
  try clear ck
  try clear b5
  try clear b6
  try clear cv
  try clear d3
  try clear d4
  try clear cp
  try clear cq
  try clear f8
  try clear cw
  try clear d0
  try clear fc
  try clear bn
  try clear bo
  try clear cy
  try clear ao
  try clear ap
  try clear d8
  try clear el
  try clear em
  try clear cn
  try clear b7
  try clear b8
  try clear cx
  try clear d5
  try clear d7
  try clear cr
  try clear ct
  try clear fb
  try clear d1
  try clear d2
  try clear ff
  try clear ce
  try clear cf
  try clear d9
  obtain⟨kq,ag,HA,je,O,U,σ,ρ,μ,L,HB⟩:=hcut
  cases kq with
  |zero=>exact absurd HA.out (by simp[call_Press.j0])
  |succ gt=>
   have H:=HA.out
   clear HA
   simp only[call_Press.j0] at H
   replace H:=Option.bind_eq_some_iff.mp H
   obtain⟨al,ft,H⟩:=H
   replace H:((call_change.f (withP_H.f X ag (-1) B) (woP_I.f (-2) 0 J) gt D I B J al 0 X ag (-1) 0 (-2) 0).bind fun bp=>(some (bp.1,bp.2.1,bp.2.2)))=some (r1,r2,r3):=H
   have ij:=Aside0.mk ft
   clear ft
   replace H:=Option.bind_eq_some_iff.mp H
   obtain⟨⟨de,ew,fu⟩,fv,H⟩:=H
   replace H:(some (de,ew,fu))=some (r1,r2,r3):=H
   have ik:=Aside0.mk fv
   clear fv
   simp only[Option.some.injEq,Prod.mk.injEq] at H
   obtain⟨rfl,rfl,rfl⟩:=H
   try go_wp2
   replace O:=Aside0.mk (Qa O.out)
   replace U:=Aside0.mk (Qa U.out)
   replace σ:=Aside0.mk (Qa σ.out)
   replace ρ:=Aside0.mk (Qa ρ.out)
   replace μ :=Aside0.mk (Qa μ.out)
   replace L:=Aside0.mk (Qa L.out)
   replace HB:=Aside0.mk (Qf HB.out)
   refine Zm (n:=19) (S:=fun w'=>w'.cell? ⟨ab,0,none⟩=some (.int .i64 D)∧w'.cell? ⟨ab,1,none⟩=some (.int .i64 I)∧w'.cell? ⟨b4,0,none⟩=some (.slice ζ B.length γ)∧w'.cell? ⟨b4,1,none⟩=some (.slice η J.length δ)∧w'.cell? ⟨aw,0,none⟩=some (.int .i64 X)∧w'.cell? ⟨aw,1,none⟩=some (.int .i64 ag)∧w'.cell? ⟨aw,2,none⟩=some (.int .i64 (-1))) (ds:=[]) #[false,false,false,false,false,false,false,false,false,false,false,false,false,false,false,false,false,false,false] kr rfl rfl ⟨(Qi O.out 0).trans rfl,(Qi O.out 1).trans rfl,(Qi U.out 0).trans rfl,(Qi U.out 1).trans rfl,(Qi μ.out 0).trans rfl,(Qi μ.out 1).trans rfl,(Qi μ.out 2).trans rfl⟩ (fun hHeld=>?_);refine Q7 call_Press.V6 call_Press.G3 (fun HT_ HW_=>?_)
   generalize wc.drew=iz at O U σ ρ μ L HB hHeld ⊢
   refine qP 13 (some 58) (bN 19 8192) HT_ ?_
   refine qT 0 (some 45) (bN 19 8193) HT_ HW_ hHeld ?_
   refine qT 1 (some 46) (bN 19 8195) HT_ HW_ hHeld ?_
   refine qT 2 (some 47) (bN 19 8199) HT_ HW_ hHeld ?_
   refine qT 4 (some 49) (bN 19 8215) HT_ HW_ hHeld ?_
   refine qT 6 (some 51) (bN 19 8279) HT_ HW_ hHeld ?_
   refine qT 9 (some 54) (bN 19 8791) HT_ HW_ hHeld ?_
   refine qT 10 (some 55) (bN 19 9815) HT_ HW_ hHeld ?_
   refine Zi (i:=3) (N:=some 48) (bN 19 9823) rfl rfl (Q2 HT_.out kr) (by decide) (fun K hK=>?_)
   refine Zh Try.func34 kr rfl #[.agg #[.int .i64 D,.int .i64 I]] (by rfl) rfl rfl qM ?_
   refine(Je D I _).mono ?_
   rintro e gf ⟨bc,rfl,hgp,hgw,hb⟩
   have bq:=Aside0.mk hgp
   clear hgp hgw
   refine⟨_,rfl, ?_⟩
   replace O:=sBk O hb
   replace U:=sBk U hb
   replace σ:=sBk σ hb
   replace ρ:=sBk ρ hb
   replace μ :=sBk μ hb
   replace L:=sBk L hb
   replace HB:=sHb hb
   (try clear hb)
   (try clear a4)
   (try clear hk)
   (try clear hi)
   refine hK.out _ _ ⟨qc O,qc O,qc U,qc U,qc μ,qc μ,qc μ⟩ (fun hHeld=>?_)
   clear hK K
   refine qN (some 48) ?_
   refine Zi (i:=5) (N:=some 50) (bN 19 9855) rfl rfl (Q2 HT_.out kr) (by decide) (fun K hK=>?_)
   refine Xj Try.func61 kr rfl #[] #[.pointer (some ⟨bc,0,none⟩)] #[.agg #[.int .i64 X,.int .i64 ag,.int .i64 (-1)]] #[.agg #[.int .i64 X,.int .i64 ag,.int .i64 (-1)],.pointer (some ⟨bc,0,none⟩)] rfl (by rfl) rfl rfl rfl qM ?_
   refine(Kf D I X ag (-1) al _ (Option.some.inj ij.out) bc bq.out).mono ?_
   rintro e gl ⟨rfl,hb⟩
   refine⟨_,rfl, ?_⟩
   replace O:=sBk O hb
   replace U:=sBk U hb
   replace σ:=sBk σ hb
   replace ρ:=sBk ρ hb
   replace μ :=sBk μ hb
   replace L:=sBk L hb
   replace HB:=sHb hb
   (try clear hb)
   (try clear a4)
   (try clear hk)
   (try clear hi)
   refine hK.out _ _ ⟨qc O,qc O,qc U,qc U,qc μ,qc μ,qc μ⟩ (fun hHeld=>?_)
   clear hK K
   refine qN (some 50) ?_
   refine Zi (i:=7) (N:=some 52) (bN 19 9983) rfl rfl (Q2 HT_.out kr) (by decide) (fun K hK=>?_)
   refine Zh Try.func30 kr rfl #[.agg #[.slice ζ B.length γ,.slice η J.length δ]] (by rfl) rfl rfl qM ?_
   refine(Yd ζ η B.length J.length γ δ _).mono ?_
   rintro e gg ⟨rfl,hb⟩
   refine⟨_,rfl, ?_⟩
   replace O:=sBk O hb
   replace U:=sBk U hb
   replace σ:=sBk σ hb
   replace ρ:=sBk ρ hb
   replace μ :=sBk μ hb
   replace L:=sBk L hb
   replace HB:=sHb hb
   (try clear hb)
   (try clear a4)
   (try clear hk)
   (try clear hi)
   refine hK.out _ _ ⟨qc O,qc O,qc U,qc U,qc μ,qc μ,qc μ⟩ (fun hHeld=>?_)
   clear hK K
   refine qN (some 52) ?_
   refine qP 8 (some 53) (bN 19 10239) HT_ ?_
   refine Zi (i:=11) (N:=some 56) (bN 19 12287) rfl rfl (Q2 HT_.out kr) (by decide) (fun K hK=>?_)
   refine Zh Try.func32 kr rfl #[.agg #[.slice ζ B.length γ,.slice η J.length δ]] (by rfl) rfl rfl qM ?_
   refine(Yr ζ η B.length J.length γ δ _).mono ?_
   rintro e gi ⟨rfl,hb⟩
   refine⟨_,rfl, ?_⟩
   replace O:=sBk O hb
   replace U:=sBk U hb
   replace σ:=sBk σ hb
   replace ρ:=sBk ρ hb
   replace μ :=sBk μ hb
   replace L:=sBk L hb
   replace HB:=sHb hb
   (try clear hb)
   (try clear a4)
   (try clear hk)
   (try clear hi)
   refine hK.out _ _ ⟨qc O,qc O,qc U,qc U,qc μ,qc μ,qc μ⟩ (fun hHeld=>?_)
   clear hK K
   refine qN (some 56) ?_
   refine qP 12 (some 57) (bN 19 16383) HT_ ?_
   refine Zi (i:=14) (N:=some 59) (bN 19 32767) rfl rfl (Q2 HT_.out kr) (by decide) (fun K hK=>?_)
   refine Zh Try.func28 kr rfl #[.agg #[.int .i64 D,.int .i64 I],.agg #[.slice ζ B.length γ,.slice η J.length δ],.bool al,.func (.func 35) #[.agg #[.slice ζ B.length γ,.func (.func 51) #[] #[]]] #[],.agg #[.int .i64 X,.int .i64 ag,.int .i64 (-1)],.func (.func 36) #[.agg #[.slice η J.length δ,.func (.func 57) #[] #[]]] #[],.agg #[.int .i64 (-2),.int .i64 0]] (by rfl) rfl rfl qM ?_
   refine(call_change.calls _ _ gt D I ζ γ B η δ J al 0 X ag (-1) 0 (-2) 0 de ew fu _ ?side1 ?side2 ?side3 ?side4 ik.out 35 Try.f35 (.agg #[.slice ζ B.length γ,.func (.func 51) #[] #[]]) Try.func35 kr rfl (fun W t ht hb=>Vd ζ γ B _ _ _ t W (Kd.Qx (Kd.Qx ai.out (by repeat(first|(with_reducible first|exact HB.out|apply Qh|apply Qc|apply Qf)|exact HB.out|(refine Qd ?_ (Aside0.out (by assumption)))))) hb) ay.out ht) 36 Try.f36 (.agg #[.slice η J.length δ,.func (.func 57) #[] #[]]) Try.func36 kr rfl (fun W t ht hb=>Ja η δ J _ _ t W (Kd.Qx (Kd.Qx ak.out (by repeat(first|(with_reducible first|exact HB.out|apply Qh|apply Qc|apply Qf)|exact HB.out|(refine Qd ?_ (Aside0.out (by assumption)))))) hb) az.out ht)).mono ?_
   (case side1=>exact(Kd.Qx ai.out HB.out))
   (case side2=>exact ay.out)
   (case side3=>exact(Kd.Qx ak.out HB.out))
   (case side4=>exact az.out)
   rintro e f5 ⟨ja,jb,rfl,ψ,a2,hb⟩
   refine⟨_,rfl, ?_⟩
   have ez:=Aside0.mk (Kd.Q1 (Kd.Xo ψ (g:=aw) (o:=.cells #[.int .i64 X,.int .i64 ag,.int .i64 (-1)] 56 (0,0)) μ.out) (Ql HB.out))
   have f3:=Aside0.mk (Kd.Q1 (Kd.Xo a2 (g:=a0) (o:=.cells #[.int .i64 θ,.int .i64 X] 62 (0,0)) L.out) (Ql HB.out))
   replace O:=sBk O hb
   replace U:=sBk U hb
   replace σ:=sBk σ hb
   replace ρ:=sBk ρ hb
   replace μ :=sBk μ hb
   replace L:=sBk L hb
   replace HB:=sHb hb
   (try clear hb)
   (try clear a4)
   (try clear hk)
   (try clear hi)
   (try clear ψ)
   (try clear a2)
   obtain⟨g3,ga,gk⟩:=Kd.Q3 ez.out
   (first|subst gk|(injection gk with ν a7 ξ;have a8:= ν.symm;have a9:= ξ.symm;clear ν a7 ξ;subst a8;subst a9))
   obtain⟨cg,ch,e5⟩:=Kd.Q3 f3.out
   (first|subst e5|(injection e5 with ν a7 ξ;have a8:= ν.symm;have a9:= ξ.symm;clear ν a7 ξ;subst a8;subst a9))
   refine hK.out _ _ ⟨qc O,qc O,qc U,qc U,qc μ,qc μ,qc μ⟩ (fun hHeld=>?_)
   clear hK K
   refine qN (some 59) ?_
   refine qP 15 (some 60) (bN 19 65535) HT_ ?_
   refine qP 16 (some 61) (bN 19 131071) HT_ ?_
   refine Zi (i:=17) (N:=none) (bN 19 262143) rfl rfl (Q2 HT_.out kr) (by decide) (fun K hK=>?_)
   have jc:f5.cell? ⟨τ,0,none⟩=some (.slice none 0 0):=(Qi ρ.out 0).trans rfl
   have iw:=Q6 ρ.out 0
   have he:=ae.out
   have hh:=af.out
   have hj:=bd.out
   have hl:=ac.out
   have ho:=aj.out
   have hu:=bh.out
   have hx:=bi.out
   have hy:=be.out
   have i0:=au.out
   have i1:=bf.out
   have jd:f5.cell? ⟨τ,1,none⟩=some (.slice none 0 0):=(Qi ρ.out 1).trans rfl
   have ix:=Q6 ρ.out 1
   have i2:=ae.out
   have i5:=af.out
   have i7:=bd.out
   have i9:=ac.out
   have ia:=aj.out
   have ib:=bh.out
   have ic:=bi.out
   have ie:=be.out
   have ig:=au.out
   have ih:=bf.out
   refine Yl (w1:=?_) (by rfl) rfl ?_ ?_
   rotate_left
   ·go_simp
    rfl
   refine hK.out _ _ ⟨((cell_far (p:=⟨τ,_,none⟩) ae.out _).trans (((cell_far (p:=⟨τ,_,none⟩) ae.out _).trans (hHeld.1)))),((cell_far (p:=⟨τ,_,none⟩) ae.out _).trans (((cell_far (p:=⟨τ,_,none⟩) ae.out _).trans (hHeld.2.1)))),((cell_far (p:=⟨τ,_,none⟩) af.out _).trans (((cell_far (p:=⟨τ,_,none⟩) af.out _).trans (hHeld.2.2.1)))),((cell_far (p:=⟨τ,_,none⟩) af.out _).trans (((cell_far (p:=⟨τ,_,none⟩) af.out _).trans (hHeld.2.2.2.1)))),((cell_far (p:=⟨τ,_,none⟩) ac.out _).trans (((cell_far (p:=⟨τ,_,none⟩) ac.out _).trans (hHeld.2.2.2.2.1)))),((cell_far (p:=⟨τ,_,none⟩) ac.out _).trans (((cell_far (p:=⟨τ,_,none⟩) ac.out _).trans (hHeld.2.2.2.2.2.1)))),((cell_far (p:=⟨τ,_,none⟩) ac.out _).trans (((cell_far (p:=⟨τ,_,none⟩) ac.out _).trans (hHeld.2.2.2.2.2.2))))⟩ (fun hHeld=>?_)
   clear hK K
   refine qP 18 (some 7) (bN 19 524287) HT_ ?_
   refine Zr (Ze HT_.out kr) ?_
   try go_wp2
   refine bodyPost_ret (Xh rfl _ _ τ 27 #[.slice g3 de.length ga,.slice cg ew.length ch] (0,0) _ rfl (by refine Qw (cs:=#[.slice g3 de.length ga,.slice none 0 0]) ?_ 1 _ rfl;refine Qw (cs:=#[.slice none 0 0,.slice none 0 0]) ?_ 0 _ rfl;exact ρ.out) Try.underlying27 rfl kr) rfl ?_
   exact⟨_,_,by first|rfl|(simp[Qz,Qy] <;> rfl)|(simp[*,Qz,Qy] <;> rfl),by(with_reducible repeat first|apply Kd.Qk|apply Kd.Qj|apply Kd.Qm);exact Kd.Qq (Kd.Qr (Kd.Qr (Kd.Qu ez.out ρ.out (by decide)) (fun _ hk=>hk.2) _) (fun _ hk=>hk.2) _) (fun _ hk=>trivial),by(with_reducible repeat first|apply Kd.Qk|apply Kd.Qj|apply Kd.Qm);exact Kd.Qq (Kd.Qr (Kd.Qr (Kd.Qu f3.out ρ.out (by decide)) (fun _ hk=>hk.2) _) (fun _ hk=>hk.2) _) (fun _ hk=>trivial),bel⟩
end Go.Proofs.Ytjehhhlhalkieaa.C
namespace Go.Proofs.Ytjehhhlhalkieaa.Call
open Go.RowKit Go.Proofs.YtjehhhlhalkieaaW.PrintWords Go.Proofs.YtjehhhlhalkieaaW.PrintLast Go.Proofs.YtjehhhlhalkieaaW.PrintMore Go.Proofs.Ytjehhhlhalkieaa.C
set_option linter.unusedVariables false
set_option linter.unusedSimpArgs false
abbrev Hall:=S56
abbrev Ins:=S62
def i64 (x:Int):Prop:= -9223372036854775808≤x∧x≤9223372036854775807
theorem J0 (a lo hi:Int):call_within.f a lo hi=some (decide (lo≤a∧a≤hi)):=by
  unfold call_within.f
  by_cases h:lo≤a <;> simp[h]
def okB (F C:Int) (H:List Hall) (I:List Ins):Bool:=decide (2≤F∧F≤64)&&(decide (1≤C∧C≤8)&&(Zo (fun x=>Xy F C x.f0 x.f1 x.f2) ltH none H&&Zo (fun x=>X1 F C x.f0 x.f1) ltI none I))
theorem Kl {n:Nat} {C:Int} (h:n<1000000000) (hC:i64 C):small n C=true:=decide_eq_true ⟨h,hC.1,hC.2⟩
theorem Ut (k:Nat) (F C:Int) (H:List Hall) (I:List Ins) (hH:H.length<900000000) (hI:I.length<900000000) (hC:i64 C):call_Check.f (k+1) F C H I=some (if okB F C H I=true then 0 else 190):=by
  unfold call_Check.f rightP_H.f rightP_I.f okB
  rw[J0,J0,if_pos (Kl (by omega) hC),if_pos (Kl (by omega) hC)]
  simp only[Option.bind_some]
  cases decide (2≤F∧F≤64) <;> cases decide (1≤C∧C≤8) <;> cases Zo (fun x:Hall=>Xy F C x.f0 x.f1 x.f2) ltH none H <;> cases Zo (fun x:Ins=>X1 F C x.f0 x.f1) ltI none I <;> simp[call_Check.j0]
theorem Lk (U:Option (List Hall)) (V:Option (List Ins)) (k:Nat) (F C:Int) (H:List Hall) (I:List Ins) (is:Bool) (X B D J a5 L O:Int) (hH:H.length<900000000) (hI:I.length<900000000) (hC:i64 C):
    call_change.f U V (k+1) F C H I is X B D J a5 L O=if okB F C H I=true then (if is=true then U.bind fun a=>V.bind fun b=>some (a,b,0) else some ([],[],191)) else some ([],[],190):=by
  unfold call_change.f
  rw[Ut k F C H I hH hI hC]
  cases okB F C H I <;> simp
theorem Jo {F C:Int} {H:List Hall} {I:List Ins}:okB F C H I=true↔((2≤F∧F≤64)∧(1≤C∧C≤8)∧((∀ x ∈ H,Xy F C x.f0 x.f1 x.f2=true)∧H.Pairwise (fun x y=>ltH x y=true))∧((∀ x ∈ I,X1 F C x.f0 x.f1=true)∧I.Pairwise (fun x y=>ltI x y=true))):=by
  unfold okB
  simp only[Bool.and_eq_true,decide_eq_true_eq]
  rw[Jx,Gd]
theorem V4 (x:Int) (h:1≤x∧x≤64):wrap64 (x-1)=x-1:=by unfold wrap64;omega
theorem Uo {F C:Int} {I D U:Int} (hF:2≤F∧F≤64) (hC:1≤C∧C≤8):Xy F C I D U=true↔((D=1∨D = -1)∧(0≤I∧I≤F-1)∧(0≤I+D∧I+D≤F-1)∧(-1≤U∧U≤C-1)):=by
  unfold Xy
  rw[decide_eq_true_eq,V4 F (by omega),V4 C (by omega)]
  constructor
  · rintro⟨h1,L,J,X⟩
    rw[show wrap64 (I+D)=I+D from by unfold wrap64;omega] at J
    exact⟨h1,L,J,X⟩
  · rintro⟨h1,L,J,X⟩
    rw[show wrap64 (I+D)=I+D from by unfold wrap64;omega]
    exact⟨h1,L,J,X⟩
theorem Wp {F C:Int} {I D:Int} (hF:2≤F∧F≤64) (hC:1≤C∧C≤8):X1 F C I D=true↔((0≤I∧I≤C-1)∧(0≤D∧D≤F-1)):=by
  unfold X1
  rw[decide_eq_true_eq,V4 F (by omega),V4 C (by omega)]
theorem Nx (H:List Hall) (I:List Ins) (hH:H.length<900000000) (hI:I.length<900000000):newellaw19_Own.f H I=some (H,I):=by
  unfold newellaw19_Own.f
  simp only[Option.bind_some,List.length_nil,Nat.zero_add,List.nil_append]
  rw[if_pos (by omega),if_pos (by omega)]
end Go.Proofs.Ytjehhhlhalkieaa.Call
namespace Go.Proofs.Ytjehhhlhalkieaa.C
open Go.RowKit Go.Proofs.YtjehhhlhalkieaaW.PrintWords Go.Proofs.YtjehhhlhalkieaaW.PrintLast Go.Proofs.YtjehhhlhalkieaaW.PrintMore
attribute [local go_sem] Z3 Z1 Xb Xa Zt Zs Z2 Z0
set_option linter.unusedVariables false
set_option linter.unusedSimpArgs false
def newellaw19_awake.f (k:Nat):Option (Bool):=(call_Press.f k 4 2 ([]:List (S56)) ([]:List (S62)) 0 2 0).bind fun a9=>((call_Press.f k 4 2 a9.1 a9.2.1 1 2 0).bind fun ν =>((call_Give.f k 4 2 ν.1 ν.2.1 2 1 1).bind fun σ=>((call_View.f k 4 2 σ.1 σ.2.1 1).bind fun am=>((call_Serve.f k 4 2 σ.1 σ.2.1 0 2 1).bind fun ac=>(if a9.2.2=0 then (if ν.2.2=0 then ((newelref19_Same.f k ν.1 ν.2.1 (([(⟨2,(-1),(-1)⟩:S56),(⟨2,1,(-1)⟩:S56)]:List (S56))) ([]:List (S62))).bind fun ak=>(if ak=true then (if σ.2.2=0 then (if (am.2.1.length:Int)=1 then (if am.2.2.2=0 then (if (ac.1.length:Int)=1 then (if ac.2.2=0 then ((call_Same.f k a9.1 a9.2.1 a9.1 a9.2.1).bind fun ab=>(if ab=true then ((call_Same.f k a9.1 a9.2.1 ν.1 ν.2.1).bind fun a8=>(if a8=true then (none) else ((call_Check.f k 4 2 ν.1 ν.2.1).bind fun ξ =>(some (ξ == 0))))) else (none))) else (none)) else (none)) else (none)) else (none)) else (none)) else (none))) else (none)) else (none))))))
theorem newellaw19_awake.mono:∀ k,LeO (newellaw19_awake.f k) (newellaw19_awake.f (k+1)):=by
 intro  k
 unfold newellaw19_awake.f
 repeat' first
   |(with_reducible exact call_Check.mono _ _ _ _ _)
   |(with_reducible exact call_Give.mono _ _ _ _ _ _ _ _)
   |(with_reducible exact call_Press.mono _ _ _ _ _ _ _ _)
   |(with_reducible exact call_Same.mono _ _ _ _ _)
   |(with_reducible exact call_Serve.mono _ _ _ _ _ _ _ _)
   |(with_reducible exact call_View.mono _ _ _ _ _ _)
   |(with_reducible exact newelref19_Same.mono _ _ _ _ _)
   |(with_reducible exact LeO.refl _)
   |(with_reducible exact LeO.none _)
   |(with_reducible refine LeO.ite ?_ ?_)
   |(with_reducible refine LeO.bind ?_ (fun _=>?_))
   |exact call_Check.mono _ _ _ _ _
   |exact call_Give.mono _ _ _ _ _ _ _ _
   |exact call_Press.mono _ _ _ _ _ _ _ _
   |exact call_Same.mono _ _ _ _ _
   |exact call_Serve.mono _ _ _ _ _ _ _ _
   |exact call_View.mono _ _ _ _ _ _
   |exact newelref19_Same.mono _ _ _ _ _
   |exact LeO.none _
   |refine LeO.ite ?_ ?_
   |refine LeO.bind ?_ (fun _=>?_)
set_option maxHeartbeats 8000000 in
set_option maxRecDepth 100000 in
theorem newellaw19_awake.calls (k:Nat)  (r:Bool) (w:World) (h:newellaw19_awake.f k=some r):
  Calls Try.prog 10 #[] w fun e w'=>e = .returned (.bool r)∧Below w.heap.size w w':=by
 have et:=Try.underlying23
 have eh:=Try.underlying27
 have kk:=Try.underlying29
 have b2:=Try.underlying56
 have jx:=Try.underlying47
 have k4:=Try.underlying43
 have HB:=Aside0.mk (Below.refl w.heap.size w)
 have H:((call_Press.f k 4 2 ([]:List (S56)) ([]:List (S62)) 0 2 0).bind fun a9=>((call_Press.f k 4 2 a9.1 a9.2.1 1 2 0).bind fun ν =>((call_Give.f k 4 2 ν.1 ν.2.1 2 1 1).bind fun σ=>((call_View.f k 4 2 σ.1 σ.2.1 1).bind fun am=>((call_Serve.f k 4 2 σ.1 σ.2.1 0 2 1).bind fun ac=>(if a9.2.2=0 then (if ν.2.2=0 then ((newelref19_Same.f k ν.1 ν.2.1 (([(⟨2,(-1),(-1)⟩:S56),(⟨2,1,(-1)⟩:S56)]:List (S56))) ([]:List (S62))).bind fun ak=>(if ak=true then (if σ.2.2=0 then (if (am.2.1.length:Int)=1 then (if am.2.2.2=0 then (if (ac.1.length:Int)=1 then (if ac.2.2=0 then ((call_Same.f k a9.1 a9.2.1 a9.1 a9.2.1).bind fun ab=>(if ab=true then ((call_Same.f k a9.1 a9.2.1 ν.1 ν.2.1).bind fun a8=>(if a8=true then (none) else ((call_Check.f k 4 2 ν.1 ν.2.1).bind fun ξ =>(some (ξ == 0))))) else (none))) else (none)) else (none)) else (none)) else (none)) else (none)) else (none))) else (none)) else (none)))))))=some r:=h
 clear h
 replace H:=Option.bind_eq_some_iff.mp H
 obtain⟨⟨I,γ,ay⟩,i4,H⟩:=H
 replace H:((call_Press.f k 4 2 I γ 1 2 0).bind fun ν =>((call_Give.f k 4 2 ν.1 ν.2.1 2 1 1).bind fun σ=>((call_View.f k 4 2 σ.1 σ.2.1 1).bind fun am=>((call_Serve.f k 4 2 σ.1 σ.2.1 0 2 1).bind fun ac=>(if ay=0 then (if ν.2.2=0 then ((newelref19_Same.f k ν.1 ν.2.1 (([(⟨2,(-1),(-1)⟩:S56),(⟨2,1,(-1)⟩:S56)]:List (S56))) ([]:List (S62))).bind fun ak=>(if ak=true then (if σ.2.2=0 then (if (am.2.1.length:Int)=1 then (if am.2.2.2=0 then (if (ac.1.length:Int)=1 then (if ac.2.2=0 then ((call_Same.f k I γ I γ).bind fun ab=>(if ab=true then ((call_Same.f k I γ ν.1 ν.2.1).bind fun a8=>(if a8=true then (none) else ((call_Check.f k 4 2 ν.1 ν.2.1).bind fun ξ =>(some (ξ == 0))))) else (none))) else (none)) else (none)) else (none)) else (none)) else (none)) else (none))) else (none)) else (none))))))=some r:=H
 have A1:=Aside0.mk i4
 clear i4
 replace H:=Option.bind_eq_some_iff.mp H
 obtain⟨⟨φ,ζ,av⟩,gq,H⟩:=H
 replace H:((call_Give.f k 4 2 φ ζ 2 1 1).bind fun σ=>((call_View.f k 4 2 σ.1 σ.2.1 1).bind fun am=>((call_Serve.f k 4 2 σ.1 σ.2.1 0 2 1).bind fun ac=>(if ay=0 then (if av=0 then ((newelref19_Same.f k φ ζ (([(⟨2,(-1),(-1)⟩:S56),(⟨2,1,(-1)⟩:S56)]:List (S56))) ([]:List (S62))).bind fun ak=>(if ak=true then (if σ.2.2=0 then (if (am.2.1.length:Int)=1 then (if am.2.2.2=0 then (if (ac.1.length:Int)=1 then (if ac.2.2=0 then ((call_Same.f k I γ I γ).bind fun ab=>(if ab=true then ((call_Same.f k I γ φ ζ).bind fun a8=>(if a8=true then (none) else ((call_Check.f k 4 2 φ ζ).bind fun ξ =>(some (ξ == 0))))) else (none))) else (none)) else (none)) else (none)) else (none)) else (none)) else (none))) else (none)) else (none)))))=some r:=H
 have A2:=Aside0.mk gq
 clear gq
 replace H:=Option.bind_eq_some_iff.mp H
 obtain⟨⟨al,an,aw⟩,ae,H⟩:=H
 replace H:((call_View.f k 4 2 al an 1).bind fun am=>((call_Serve.f k 4 2 al an 0 2 1).bind fun ac=>(if ay=0 then (if av=0 then ((newelref19_Same.f k φ ζ (([(⟨2,(-1),(-1)⟩:S56),(⟨2,1,(-1)⟩:S56)]:List (S56))) ([]:List (S62))).bind fun ak=>(if ak=true then (if aw=0 then (if (am.2.1.length:Int)=1 then (if am.2.2.2=0 then (if (ac.1.length:Int)=1 then (if ac.2.2=0 then ((call_Same.f k I γ I γ).bind fun ab=>(if ab=true then ((call_Same.f k I γ φ ζ).bind fun a8=>(if a8=true then (none) else ((call_Check.f k 4 2 φ ζ).bind fun ξ =>(some (ξ == 0))))) else (none))) else (none)) else (none)) else (none)) else (none)) else (none)) else (none))) else (none)) else (none))))=some r:=H
 have A3:=Aside0.mk ae
 clear ae
 replace H:=Option.bind_eq_some_iff.mp H
 obtain⟨⟨b5,ao,bk,az⟩,cy,H⟩:=H
 replace H:((call_Serve.f k 4 2 al an 0 2 1).bind fun ac=>(if ay=0 then (if av=0 then ((newelref19_Same.f k φ ζ (([(⟨2,(-1),(-1)⟩:S56),(⟨2,1,(-1)⟩:S56)]:List (S56))) ([]:List (S62))).bind fun ak=>(if ak=true then (if aw=0 then (if (ao.length:Int)=1 then (if az=0 then (if (ac.1.length:Int)=1 then (if ac.2.2=0 then ((call_Same.f k I γ I γ).bind fun ab=>(if ab=true then ((call_Same.f k I γ φ ζ).bind fun a8=>(if a8=true then (none) else ((call_Check.f k 4 2 φ ζ).bind fun ξ =>(some (ξ == 0))))) else (none))) else (none)) else (none)) else (none)) else (none)) else (none)) else (none))) else (none)) else (none)))=some r:=H
 have A4:=Aside0.mk cy
 clear cy
 replace H:=Option.bind_eq_some_iff.mp H
 obtain⟨⟨ar,bl,b6⟩,bv,H⟩:=H
 replace H:(if ay=0 then (if av=0 then ((newelref19_Same.f k φ ζ (([(⟨2,(-1),(-1)⟩:S56),(⟨2,1,(-1)⟩:S56)]:List (S56))) ([]:List (S62))).bind fun ak=>(if ak=true then (if aw=0 then (if (ao.length:Int)=1 then (if az=0 then (if (ar.length:Int)=1 then (if b6=0 then ((call_Same.f k I γ I γ).bind fun ab=>(if ab=true then ((call_Same.f k I γ φ ζ).bind fun a8=>(if a8=true then (none) else ((call_Check.f k 4 2 φ ζ).bind fun ξ =>(some (ξ == 0))))) else (none))) else (none)) else (none)) else (none)) else (none)) else (none)) else (none))) else (none)) else (none))=some r:=H
 have A5:=Aside0.mk bv
 clear bv
 by_cases c6:ay=0
 ·rw[if_pos c6] at H
  have c6b0:(ay==0)=true:=beq_iff_eq.mpr c6
  have c6b1:(ay != 0)=false:=bne_eq_false_iff_eq.mpr c6
  clear c6
  by_cases c7:av=0
  ·rw[if_pos c7] at H
   have c7b0:(av==0)=true:=beq_iff_eq.mpr c7
   have c7b1:(av != 0)=false:=bne_eq_false_iff_eq.mpr c7
   clear c7
   obtain⟨gi,bc⟩:∃ y_:List (S56),y_=(([(⟨2,(-1),(-1)⟩:S56),(⟨2,1,(-1)⟩:S56)]:List (S56))):=⟨_,rfl⟩
   replace H:((newelref19_Same.f k φ ζ gi ([]:List (S62))).bind fun ak=>(if ak=true then (if aw=0 then (if (ao.length:Int)=1 then (if az=0 then (if (ar.length:Int)=1 then (if b6=0 then ((call_Same.f k I γ I γ).bind fun ab=>(if ab=true then ((call_Same.f k I γ φ ζ).bind fun a8=>(if a8=true then (none) else ((call_Check.f k 4 2 φ ζ).bind fun ξ =>(some (ξ == 0))))) else (none))) else (none)) else (none)) else (none)) else (none)) else (none)) else (none)))=some r:=by first|(rw[bc];with_reducible exact H)|(have τ :=(Option.bind_some _ _).symm.trans H;rw[bc];with_reducible exact τ)|(have τ :=(Option.bind_some _ _).symm.trans H;with_reducible exact τ)|with_reducible exact H|(rw[bc];exact H)|exact H
   have f9:=Aside0.mk bc
   clear bc
   replace H:=Option.bind_eq_some_iff.mp H
   obtain⟨ak,g2,H⟩:=H
   replace H:(if ak=true then (if aw=0 then (if (ao.length:Int)=1 then (if az=0 then (if (ar.length:Int)=1 then (if b6=0 then ((call_Same.f k I γ I γ).bind fun ab=>(if ab=true then ((call_Same.f k I γ φ ζ).bind fun a8=>(if a8=true then (none) else ((call_Check.f k 4 2 φ ζ).bind fun ξ =>(some (ξ == 0))))) else (none))) else (none)) else (none)) else (none)) else (none)) else (none)) else (none))=some r:=H
   have A8:=Aside0.mk g2
   clear g2
   by_cases c9:ak=true
   ·subst c9
    have H1:(if aw=0 then (if (ao.length:Int)=1 then (if az=0 then (if (ar.length:Int)=1 then (if b6=0 then ((call_Same.f k I γ I γ).bind fun ab=>(if ab=true then ((call_Same.f k I γ φ ζ).bind fun a8=>(if a8=true then (none) else ((call_Check.f k 4 2 φ ζ).bind fun ξ =>(some (ξ == 0))))) else (none))) else (none)) else (none)) else (none)) else (none)) else (none))=some r:=by rw[if_pos rfl] at H;exact H
    clear H
    have H:=H1
    clear H1
    by_cases c10:aw=0
    ·rw[if_pos c10] at H
     have c10b0:(aw==0)=true:=beq_iff_eq.mpr c10
     have c10b1:(aw != 0)=false:=bne_eq_false_iff_eq.mpr c10
     clear c10
     by_cases ca:(ao.length:Int)=1
     ·rw[if_pos ca] at H
      have c11b0:((ao.length:Int)==1)=true:=beq_iff_eq.mpr ca
      have c11b1:((ao.length:Int) != 1)=false:=bne_eq_false_iff_eq.mpr ca
      clear ca
      by_cases cj:az=0
      ·rw[if_pos cj] at H
       have c12b0:(az==0)=true:=beq_iff_eq.mpr cj
       have c12b1:(az != 0)=false:=bne_eq_false_iff_eq.mpr cj
       clear cj
       by_cases br:(ar.length:Int)=1
       ·rw[if_pos br] at H
        have c13b0:((ar.length:Int)==1)=true:=beq_iff_eq.mpr br
        have c13b1:((ar.length:Int) != 1)=false:=bne_eq_false_iff_eq.mpr br
        clear br
        by_cases a3:b6=0
        ·rw[if_pos a3] at H
         have c14b0:(b6==0)=true:=beq_iff_eq.mpr a3
         have c14b1:(b6 != 0)=false:=bne_eq_false_iff_eq.mpr a3
         clear a3
         replace H:=Option.bind_eq_some_iff.mp H
         obtain⟨ab,gj,H⟩:=H
         replace H:(if ab=true then ((call_Same.f k I γ φ ζ).bind fun a8=>(if a8=true then (none) else ((call_Check.f k 4 2 φ ζ).bind fun ξ =>(some (ξ == 0))))) else (none))=some r:=H
         have ia:=Aside0.mk gj
         clear gj
         by_cases a5:ab=true
         ·subst a5
          have H1:((call_Same.f k I γ φ ζ).bind fun a8=>(if a8=true then (none) else ((call_Check.f k 4 2 φ ζ).bind fun ξ =>(some (ξ == 0)))))=some r:=by rw[if_pos rfl] at H;exact H
          clear H
          have H:=H1
          clear H1
          replace H:=Option.bind_eq_some_iff.mp H
          obtain⟨a8,gl,H⟩:=H
          replace H:(if a8=true then (none) else ((call_Check.f k 4 2 φ ζ).bind fun ξ =>(some (ξ == 0))))=some r:=H
          have ib:=Aside0.mk gl
          clear gl
          by_cases da:a8=true
          ·subst da
           have H1:(none)=some r:=by rw[if_pos rfl] at H;exact H
           clear H
           have H:=H1
           clear H1
           exact absurd H (by simp)
          ·replace da:=Bool.eq_false_iff.mpr da
           subst da
           have H1:((call_Check.f k 4 2 φ ζ).bind fun ξ =>(some (ξ == 0)))=some r:=by rw[if_neg (show ¬ (false=true) by decide)] at H;exact H
           clear H
           have H:=H1
           clear H1
           replace H:=Option.bind_eq_some_iff.mp H
           obtain⟨ξ,gm,H⟩:=H
           replace H:(some (ξ == 0))=some r:=H
           have ic:=Aside0.mk gm
           clear gm
           obtain rfl:=Option.some.inj H
           go_enter Try.func10,Try.ntmps10
           go_wp2_with (first|((with_reducible refine Qs (N:=1) rfl ?_);(try(refine Z6 (by rfl) ?_;dsimp only));refine qE 1 #[.int .i64 0,.int .i64 0] 23 ?_;intro bd hg eu hbox hb;have B:=Aside0.mk hbox;have ij:=sGe hg;have ik:=sGe hg;replace HB:=sHb hb;clear hb hbox hg;obtain⟨cn,db,dc,de⟩:=qD2 B.out)|((with_reducible refine Q0 (f:=11) rfl ?_);refine Zl (some 17) rfl rfl Try.func11 kr rfl #[.agg #[.int .i64 4,.int .i64 2],.agg #[.slice none 0 0,.slice none 0 0],.agg #[.int .i64 0,.int .i64 2,.int .i64 0]] rfl qM ?_;(refine(call_Press.calls k 4 2 _ _ ([]:List (S56)) _ _ ([]:List (S62)) 0 2 0 I γ ay _ ?side1 ?side2 ?side3 ?side4 A1.out).mono ?_);(case side1=>exact Kd.Y1 _ _);(case side2=>exact Nat.le_refl _);(case side3=>exact Kd.Y1 _ _);(case side4=>exact Nat.le_refl _);rintro e fc ⟨iz,j3,rfl,ψ,a2,hb⟩;refine⟨_,rfl, ?_⟩;have J:=Aside0.mk (Kd.Q1 ψ (Ql bel));have O:=Aside0.mk (Kd.Q1 a2 (Ql bel));replace B:=Aside0.mk (Qn (g:=bd) (o:=.cells #[.int .i64 4,.int .i64 2] 23 (0,0)) (by(with_reducible repeat first|apply Qe|apply Qa|apply Qb);refine Qw (cs:=#[.int .i64 4,.int .i64 0]) ?_ 1 _ rfl;(with_reducible repeat first|apply Qe|apply Qa|apply Qb);refine Qw (cs:=#[.int .i64 0,.int .i64 0]) ?_ 0 _ rfl;(with_reducible repeat first|apply Qe|apply Qa|apply Qb);exact B.out) hb);replace HB:=sHb hb;(try clear hb);(try clear a4);(try clear hk);(try clear hi);(try clear ψ);(try clear a2))|((with_reducible refine Qs (N:=2) rfl ?_);(try(refine Z6 (by rfl) ?_;dsimp only));refine qE 2 #[.slice none 0 0,.slice none 0 0] 27 ?_;intro a0 hg df hbox hb;have L:=Aside0.mk hbox;have h6:=sGe hg;have h7:=sGe hg;have bz:=sNl B hg;have cd:=sNg B hg;replace J:=sRb J hb;replace O:=sRb O hb;replace B:=sBk B hb;replace HB:=sHb hb;clear hb hbox hg;obtain⟨ee,dv,gk⟩:=Kd.Q3 J.out;subst gk;have e9:=cd.out;have ea:=bz.out;obtain⟨d3,d4,d5,d7⟩:=qD2 L.out;obtain⟨b3,b1,gp⟩:=Kd.Q3 O.out;subst gp;obtain⟨fa,fb,fe,ff⟩:=qD2 B.out)|((with_reducible refine Q0 (f:=11) rfl ?_);refine Zl (some 24) rfl rfl Try.func11 kr rfl #[.agg #[.int .i64 4,.int .i64 2],.agg #[.slice ee I.length dv,.slice b3 γ.length b1],.agg #[.int .i64 1,.int .i64 2,.int .i64 0]] rfl qM ?_;(with_reducible refine(call_Press.calls k 4 2 _ _ I _ _ γ 1 2 0 φ ζ av _ ?side1 ?side2 ?side3 ?side4 A2.out).mono ?_);(case side1=>refine(Kd.Qp (e:=56) (base:=w.heap.size) (ok:=fun k_=>True) (n:=I.length) (c:=dv) ?_).2.2;exact(by(with_reducible repeat first|apply Kd.Qk|apply Kd.Qj|apply Kd.Qm);exact(Kd.Qq (Kd.Qr (Kd.Qr (Kd.Qu J.out L.out (by decide)) (fun _ hk=>hk.2) _) (fun _ hk=>hk.2) _) (fun _ h_=>h_.1))));(case side2=>exact(Kd.Qp J.out).2.1);(case side3=>refine(Kd.Qp (e:=62) (base:=w.heap.size) (ok:=fun k_=>True) (n:=γ.length) (c:=b1) ?_).2.2;exact(by(with_reducible repeat first|apply Kd.Qk|apply Kd.Qj|apply Kd.Qm);exact(Kd.Qq (Kd.Qr (Kd.Qr (Kd.Qu O.out L.out (by decide)) (fun _ hk=>hk.2) _) (fun _ hk=>hk.2) _) (fun _ h_=>h_.1))));(case side4=>exact(Kd.Qp O.out).2.1);rintro e gf ⟨j4,j5,rfl,ψ,a2,hb⟩;refine⟨_,rfl, ?_⟩;have U:=Aside0.mk (Kd.Q1 (Kd.Zf ψ (Kd.Zq (by(with_reducible repeat first|apply Kd.Qk|apply Kd.Qj|apply Kd.Qm);exact(Kd.Qq (Kd.Qr (Kd.Qr (Kd.Qu J.out L.out (by decide)) (fun _ hk=>hk.2) _) (fun _ hk=>hk.2) _) (fun _ h_=>h_.1))))) (Ql bel));have X:=Aside0.mk (Kd.Q1 (Kd.Zf a2 (Kd.Zq (by(with_reducible repeat first|apply Kd.Qk|apply Kd.Qj|apply Kd.Qm);exact(Kd.Qq (Kd.Qr (Kd.Qr (Kd.Qu O.out L.out (by decide)) (fun _ hk=>hk.2) _) (fun _ hk=>hk.2) _) (fun _ h_=>h_.1))))) (Ql bel));replace J:=Aside0.mk (Kd.Za (by(with_reducible repeat first|apply Kd.Qk|apply Kd.Qj|apply Kd.Qm);exact(Kd.Qq (Kd.Qr (Kd.Qr (Kd.Qu J.out L.out (by decide)) (fun _ hk=>hk.2) _) (fun _ hk=>hk.2) _) (fun _ h_=>h_.1))) (Kd.Zg ψ) hb);replace O:=Aside0.mk (Kd.Za (by(with_reducible repeat first|apply Kd.Qk|apply Kd.Qj|apply Kd.Qm);exact(Kd.Qq (Kd.Qr (Kd.Qr (Kd.Qu O.out L.out (by decide)) (fun _ hk=>hk.2) _) (fun _ hk=>hk.2) _) (fun _ h_=>h_.1))) (Kd.Zg a2) hb);replace B:=sBk B hb;replace L:=Aside0.mk (Qn (g:=a0) (o:=.cells #[.slice ee I.length dv,.slice b3 γ.length b1] 27 (0,0)) (by(with_reducible repeat first|apply Qe|apply Qa|apply Qb);refine Qw (cs:=#[.slice ee I.length dv,.slice none 0 0]) ?_ 1 _ rfl;(with_reducible repeat first|apply Qe|apply Qa|apply Qb);refine Qw (cs:=#[.slice none 0 0,.slice none 0 0]) ?_ 0 _ rfl;(with_reducible repeat first|apply Qe|apply Qa|apply Qb);exact L.out) hb);replace HB:=sHb hb;(try clear hb);(try clear a4);(try clear hk);(try clear hi);(try clear ψ);(try clear a2))|((with_reducible refine Qs (N:=4) rfl ?_);(try(refine Z6 (by rfl) ?_;dsimp only));refine qE 4 #[.slice none 0 0,.slice none 0 0] 27 ?_;intro be hg f3 hbox hb;have D:=Aside0.mk hbox;have im:=sGe hg;have io:=sGe hg;have ce:=sNl B hg;have cf:=sNg B hg;have ci:=sNl L hg;have ck:=sNg L hg;replace J:=sRb J hb;replace O:=sRb O hb;replace U:=sRb U hb;replace X:=sRb X hb;replace B:=sBk B hb;replace L:=sBk L hb;replace HB:=sHb hb;clear hb hbox hg;obtain⟨b4,au,cb⟩:=Kd.Q3 U.out;subst cb;have fr:=cf.out;have g1:=ce.out;have ef:=ck.out;have eg:=ci.out;obtain⟨cw,d0,d1,d2⟩:=qD2 D.out;obtain⟨dw,dn,fq⟩:=Kd.Q3 X.out;subst fq;obtain⟨dh,di,dj,dt⟩:=qD2 B.out)|((with_reducible refine Q0 (f:=24) rfl ?_);refine Zl (some 31) rfl rfl Try.func24 kr rfl #[.agg #[.int .i64 4,.int .i64 2],.agg #[.slice b4 φ.length au,.slice dw ζ.length dn],.agg #[.int .i64 2,.int .i64 1,.int .i64 1]] rfl qM ?_;(with_reducible refine(call_Give.calls k 4 2 _ _ φ _ _ ζ 2 1 1 al an aw _ ?side1 ?side2 ?side3 ?side4 A3.out).mono ?_);(case side1=>refine(Kd.Qp (e:=56) (base:=w.heap.size) (ok:=fun k_=>(True∧some k_≠(.slice ee I.length dv:Value).ownBlock)) (n:= φ.length) (c:=au) ?_).2.2;exact(by(with_reducible repeat first|apply Kd.Qk|apply Kd.Qj|apply Kd.Qm);exact(Kd.Qq (Kd.Qr (Kd.Qr (Kd.Qu U.out D.out (by decide)) (fun _ hk=>hk.2) _) (fun _ hk=>hk.2) _) (fun _ h_=>h_.1))));(case side2=>exact(Kd.Qp U.out).2.1);(case side3=>refine(Kd.Qp (e:=62) (base:=w.heap.size) (ok:=fun k_=>(True∧some k_≠(.slice b3 γ.length b1:Value).ownBlock)) (n:= ζ.length) (c:=dn) ?_).2.2;exact(by(with_reducible repeat first|apply Kd.Qk|apply Kd.Qj|apply Kd.Qm);exact(Kd.Qq (Kd.Qr (Kd.Qr (Kd.Qu X.out D.out (by decide)) (fun _ hk=>hk.2) _) (fun _ hk=>hk.2) _) (fun _ h_=>h_.1))));(case side4=>exact(Kd.Qp X.out).2.1);rintro e il ⟨j6,j7,rfl,ψ,a2,hb⟩;refine⟨_,rfl, ?_⟩;have η :=Aside0.mk (Kd.Q1 (Kd.Zf (Kd.Zf ψ (Kd.Zq (by(with_reducible repeat first|apply Kd.Qk|apply Kd.Qj|apply Kd.Qm);exact(Kd.Qq (Kd.Qr (Kd.Qr (Kd.Qu J.out D.out (by decide)) (fun _ hk=>hk.2) _) (fun _ hk=>hk.2) _) (fun _ h_=>h_.1))))) (Kd.Zq (by(with_reducible repeat first|apply Kd.Qk|apply Kd.Qj|apply Kd.Qm);exact(Kd.Qq (Kd.Qr (Kd.Qr (Kd.Qu U.out D.out (by decide)) (fun _ hk=>hk.2) _) (fun _ hk=>hk.2) _) (fun _ h_=>h_.1))))) (Ql bel));have μ :=Aside0.mk (Kd.Q1 (Kd.Zf (Kd.Zf a2 (Kd.Zq (by(with_reducible repeat first|apply Kd.Qk|apply Kd.Qj|apply Kd.Qm);exact(Kd.Qq (Kd.Qr (Kd.Qr (Kd.Qu O.out D.out (by decide)) (fun _ hk=>hk.2) _) (fun _ hk=>hk.2) _) (fun _ h_=>h_.1))))) (Kd.Zq (by(with_reducible repeat first|apply Kd.Qk|apply Kd.Qj|apply Kd.Qm);exact(Kd.Qq (Kd.Qr (Kd.Qr (Kd.Qu X.out D.out (by decide)) (fun _ hk=>hk.2) _) (fun _ hk=>hk.2) _) (fun _ h_=>h_.1))))) (Ql bel));replace J:=Aside0.mk (Kd.Za (by(with_reducible repeat first|apply Kd.Qk|apply Kd.Qj|apply Kd.Qm);exact(Kd.Qq (Kd.Qr (Kd.Qr (Kd.Qu J.out D.out (by decide)) (fun _ hk=>hk.2) _) (fun _ hk=>hk.2) _) (fun _ h_=>h_.1))) (Kd.Zg ψ) hb);replace O:=Aside0.mk (Kd.Za (by(with_reducible repeat first|apply Kd.Qk|apply Kd.Qj|apply Kd.Qm);exact(Kd.Qq (Kd.Qr (Kd.Qr (Kd.Qu O.out D.out (by decide)) (fun _ hk=>hk.2) _) (fun _ hk=>hk.2) _) (fun _ h_=>h_.1))) (Kd.Zg a2) hb);replace U:=Aside0.mk (Kd.Za (by(with_reducible repeat first|apply Kd.Qk|apply Kd.Qj|apply Kd.Qm);exact(Kd.Qq (Kd.Qr (Kd.Qr (Kd.Qu U.out D.out (by decide)) (fun _ hk=>hk.2) _) (fun _ hk=>hk.2) _) (fun _ h_=>h_.1))) (Kd.Zg ψ) hb);replace X:=Aside0.mk (Kd.Za (by(with_reducible repeat first|apply Kd.Qk|apply Kd.Qj|apply Kd.Qm);exact(Kd.Qq (Kd.Qr (Kd.Qr (Kd.Qu X.out D.out (by decide)) (fun _ hk=>hk.2) _) (fun _ hk=>hk.2) _) (fun _ h_=>h_.1))) (Kd.Zg a2) hb);replace B:=sBk B hb;replace L:=sBk L hb;replace D:=Aside0.mk (Qn (g:=be) (o:=.cells #[.slice b4 φ.length au,.slice dw ζ.length dn] 27 (0,0)) (by(with_reducible repeat first|apply Qe|apply Qa|apply Qb);refine Qw (cs:=#[.slice b4 φ.length au,.slice none 0 0]) ?_ 1 _ rfl;(with_reducible repeat first|apply Qe|apply Qa|apply Qb);refine Qw (cs:=#[.slice none 0 0,.slice none 0 0]) ?_ 0 _ rfl;(with_reducible repeat first|apply Qe|apply Qa|apply Qb);exact D.out) hb);replace HB:=sHb hb;(try clear hb);(try clear a4);(try clear hk);(try clear hi);(try clear ψ);(try clear a2))|((with_reducible refine Qs (N:=6) rfl ?_);(try(refine Z6 (by rfl) ?_;dsimp only));refine qE 6 #[.slice none 0 0,.slice none 0 0] 27 ?_;intro bf hg d6 hbox hb;have δ :=Aside0.mk hbox;have ip:=sGe hg;have iq:=sGe hg;have co:=sNl B hg;have cp:=sNg B hg;have cq:=sNl L hg;have cr:=sNg L hg;have cu:=sNl D hg;have cv:=sNg D hg;replace J:=sRb J hb;replace O:=sRb O hb;replace U:=sRb U hb;replace X:=sRb X hb;replace η :=sRb η hb;replace μ :=sRb μ hb;replace B:=sBk B hb;replace L:=sBk L hb;replace D:=sBk D hb;replace HB:=sHb hb;clear hb hbox hg;obtain⟨ct,cm,k1⟩:=Kd.Q3 η.out;subst k1;have dp:=cp.out;have dq:=co.out;have h4:=cr.out;have h5:=cq.out;have g3:=cv.out;have ga:=cu.out;obtain⟨fj,fk,fl,fm⟩:=qD2 δ.out;obtain⟨ba,b7,ho⟩:=Kd.Q3 μ.out;subst ho;obtain⟨ej,ek,el,em⟩:=qD2 B.out)|((with_reducible refine Q0 (f:=19) rfl ?_);refine Zl (some 37) rfl rfl Try.func19 kr rfl #[.agg #[.int .i64 4,.int .i64 2],.agg #[.slice ct al.length cm,.slice ba an.length b7],.int .i64 1] rfl qM ?_;(with_reducible refine(call_View.calls k 4 2 _ _ al _ _ an 1 b5 ao bk az _ ?side1 ?side2 ?side3 ?side4 A4.out).mono ?_);(case side1=>refine(Kd.Qp (e:=56) (base:=w.heap.size) (ok:=fun k_=>((True∧some k_≠(.slice ee I.length dv:Value).ownBlock)∧some k_≠(.slice b4 φ.length au:Value).ownBlock)) (n:=al.length) (c:=cm) ?_).2.2;exact(by(with_reducible repeat first|apply Kd.Qk|apply Kd.Qj|apply Kd.Qm);exact(Kd.Qq (Kd.Qr (Kd.Qr (Kd.Qu η.out δ.out (by decide)) (fun _ hk=>hk.2) _) (fun _ hk=>hk.2) _) (fun _ h_=>h_.1))));(case side2=>exact(Kd.Qp η.out).2.1);(case side3=>refine(Kd.Qp (e:=62) (base:=w.heap.size) (ok:=fun k_=>((True∧some k_≠(.slice b3 γ.length b1:Value).ownBlock)∧some k_≠(.slice dw ζ.length dn:Value).ownBlock)) (n:=an.length) (c:=b7) ?_).2.2;exact(by(with_reducible repeat first|apply Kd.Qk|apply Kd.Qj|apply Kd.Qm);exact(Kd.Qq (Kd.Qr (Kd.Qr (Kd.Qu μ.out δ.out (by decide)) (fun _ hk=>hk.2) _) (fun _ hk=>hk.2) _) (fun _ h_=>h_.1))));(case side4=>exact(Kd.Qp μ.out).2.1);rintro e h8 ⟨gy,j8,j9,rfl,ψ,a2,cz,hb⟩;refine⟨_,rfl, ?_⟩;have ρ:=Aside0.mk (Kd.Q1 ψ (Ql bel));have a6:=Aside0.mk (Kd.Q1 a2 (Ql bel));have a7:=Aside0.mk (Kd.Q1 cz (Ql bel));replace J:=Aside0.mk (Kd.Qt (by(with_reducible repeat first|apply Kd.Qk|apply Kd.Qj|apply Kd.Qm);exact(Kd.Qq (Kd.Qr (Kd.Qr (Kd.Qu J.out δ.out (by decide)) (fun _ hk=>hk.2) _) (fun _ hk=>hk.2) _) (fun _ h_=>h_.1))) hb);replace O:=Aside0.mk (Kd.Qt (by(with_reducible repeat first|apply Kd.Qk|apply Kd.Qj|apply Kd.Qm);exact(Kd.Qq (Kd.Qr (Kd.Qr (Kd.Qu O.out δ.out (by decide)) (fun _ hk=>hk.2) _) (fun _ hk=>hk.2) _) (fun _ h_=>h_.1))) hb);replace U:=Aside0.mk (Kd.Qt (by(with_reducible repeat first|apply Kd.Qk|apply Kd.Qj|apply Kd.Qm);exact(Kd.Qq (Kd.Qr (Kd.Qr (Kd.Qu U.out δ.out (by decide)) (fun _ hk=>hk.2) _) (fun _ hk=>hk.2) _) (fun _ h_=>h_.1))) hb);replace X:=Aside0.mk (Kd.Qt (by(with_reducible repeat first|apply Kd.Qk|apply Kd.Qj|apply Kd.Qm);exact(Kd.Qq (Kd.Qr (Kd.Qr (Kd.Qu X.out δ.out (by decide)) (fun _ hk=>hk.2) _) (fun _ hk=>hk.2) _) (fun _ h_=>h_.1))) hb);replace η :=Aside0.mk (Kd.Qt (by(with_reducible repeat first|apply Kd.Qk|apply Kd.Qj|apply Kd.Qm);exact(Kd.Qq (Kd.Qr (Kd.Qr (Kd.Qu η.out δ.out (by decide)) (fun _ hk=>hk.2) _) (fun _ hk=>hk.2) _) (fun _ h_=>h_.1))) hb);replace μ :=Aside0.mk (Kd.Qt (by(with_reducible repeat first|apply Kd.Qk|apply Kd.Qj|apply Kd.Qm);exact(Kd.Qq (Kd.Qr (Kd.Qr (Kd.Qu μ.out δ.out (by decide)) (fun _ hk=>hk.2) _) (fun _ hk=>hk.2) _) (fun _ h_=>h_.1))) hb);replace B:=sBk B hb;replace L:=sBk L hb;replace D:=sBk D hb;replace δ :=Aside0.mk (Qn (g:=bf) (o:=.cells #[.slice ct al.length cm,.slice ba an.length b7] 27 (0,0)) (by(with_reducible repeat first|apply Qe|apply Qa|apply Qb);refine Qw (cs:=#[.slice ct al.length cm,.slice none 0 0]) ?_ 1 _ rfl;(with_reducible repeat first|apply Qe|apply Qa|apply Qb);refine Qw (cs:=#[.slice none 0 0,.slice none 0 0]) ?_ 0 _ rfl;(with_reducible repeat first|apply Qe|apply Qa|apply Qb);exact δ.out) hb);replace HB:=sHb hb;(try clear hb);(try clear a4);(try clear hk);(try clear hi);(try clear ψ);(try clear a2);(try clear cz))|((with_reducible refine Qs (N:=8) rfl ?_);(try(refine Z6 (by rfl) ?_;dsimp only));refine qE 8 #[.slice none 0 0,.slice none 0 0,.slice none 0 0] 47 ?_;intro bi hg h9 hbox hb;have Y:=Aside0.mk hbox;have iv:=sGe hg;have iw:=sGe hg;have cx:=sNl B hg;have dd:=sNg B hg;have dk:=sNl L hg;have dl:=sNg L hg;have dm:=sNl D hg;have dr:=sNg D hg;have du:=sNl δ hg;have dx:=sNg δ hg;replace J:=sRb J hb;replace O:=sRb O hb;replace U:=sRb U hb;replace X:=sRb X hb;replace η :=sRb η hb;replace μ :=sRb μ hb;replace ρ:=sRb ρ hb;replace a6:=sRb a6 hb;replace a7:=sRb a7 hb;replace B:=sBk B hb;replace L:=sBk L hb;replace D:=sBk D hb;replace δ :=sBk δ hb;replace HB:=sHb hb;clear hb hbox hg;obtain⟨b9,bb,gz⟩:=Kd.Q3 ρ.out;subst gz;have k5:=dd.out;have k6:=cx.out;have ie:=dl.out;have ig:=dk.out;have ev:=dr.out;have ew:=dm.out;have ey:=dx.out;have ez:=du.out;obtain⟨fg,fh,hh,fi,fn,hj⟩:=qD3 Y.out;obtain⟨bm,bn,h0⟩:=Kd.Q3 a6.out;subst h0;obtain⟨bo,bp,ha⟩:=Kd.Q3 a7.out;subst ha;obtain⟨hl,hu,hx,hy⟩:=qD2 B.out;obtain⟨dz,e0,e3,e4⟩:=qD2 δ.out)|((with_reducible refine Q0 (f:=18) rfl ?_);refine Zl (some 44) rfl rfl Try.func18 kr rfl #[.agg #[.int .i64 4,.int .i64 2],.agg #[.slice ct al.length cm,.slice ba an.length b7],.agg #[.int .i64 0,.int .i64 2,.int .i64 1]] rfl qM ?_;(with_reducible refine(call_Serve.calls k 4 2 _ _ al _ _ an 0 2 1 ar bl b6 _ ?side1 ?side2 ?side3 ?side4 A5.out).mono ?_);(case side1=>refine(Kd.Qp (e:=56) (base:=w.heap.size) (ok:=fun k_=>((True∧some k_≠(.slice ee I.length dv:Value).ownBlock)∧some k_≠(.slice b4 φ.length au:Value).ownBlock)) (n:=al.length) (c:=cm) ?_).2.2;exact(by(with_reducible repeat first|apply Kd.Qk|apply Kd.Qj|apply Kd.Qm);exact(Kd.Qq (Kd.Qr (Kd.Qr (Kd.Qr (Kd.Qu η.out Y.out (by decide)) (fun _ hk=>hk.2) _) (fun _ hk=>hk.2) _) (fun _ hk=>hk.2) _) (fun _ h_=>h_.1))));(case side2=>exact(Kd.Qp η.out).2.1);(case side3=>refine(Kd.Qp (e:=62) (base:=w.heap.size) (ok:=fun k_=>((True∧some k_≠(.slice b3 γ.length b1:Value).ownBlock)∧some k_≠(.slice dw ζ.length dn:Value).ownBlock)) (n:=an.length) (c:=b7) ?_).2.2;exact(by(with_reducible repeat first|apply Kd.Qk|apply Kd.Qj|apply Kd.Qm);exact(Kd.Qq (Kd.Qr (Kd.Qr (Kd.Qr (Kd.Qu μ.out Y.out (by decide)) (fun _ hk=>hk.2) _) (fun _ hk=>hk.2) _) (fun _ hk=>hk.2) _) (fun _ h_=>h_.1))));(case side4=>exact(Kd.Qp μ.out).2.1);rintro e iu ⟨ja,jb,rfl,ψ,a2,hb⟩;refine⟨_,rfl, ?_⟩;have aa:=Aside0.mk (Kd.Q1 (Kd.Zf (Kd.Zf (Kd.Zf ψ (Kd.Zq (by(with_reducible repeat first|apply Kd.Qk|apply Kd.Qj|apply Kd.Qm);exact(Kd.Qq (Kd.Qr (Kd.Qr (Kd.Qr (Kd.Qu J.out Y.out (by decide)) (fun _ hk=>hk.2) _) (fun _ hk=>hk.2) _) (fun _ hk=>hk.2) _) (fun _ h_=>h_.1))))) (Kd.Zq (by(with_reducible repeat first|apply Kd.Qk|apply Kd.Qj|apply Kd.Qm);exact(Kd.Qq (Kd.Qr (Kd.Qr (Kd.Qr (Kd.Qu U.out Y.out (by decide)) (fun _ hk=>hk.2) _) (fun _ hk=>hk.2) _) (fun _ hk=>hk.2) _) (fun _ h_=>h_.1))))) (Kd.Zq (by(with_reducible repeat first|apply Kd.Qk|apply Kd.Qj|apply Kd.Qm);exact(Kd.Qq (Kd.Qr (Kd.Qr (Kd.Qr (Kd.Qu η.out Y.out (by decide)) (fun _ hk=>hk.2) _) (fun _ hk=>hk.2) _) (fun _ hk=>hk.2) _) (fun _ h_=>h_.1))))) (Ql bel));have af:=Aside0.mk (Kd.Q1 (Kd.Zf (Kd.Zf (Kd.Zf a2 (Kd.Zq (by(with_reducible repeat first|apply Kd.Qk|apply Kd.Qj|apply Kd.Qm);exact(Kd.Qq (Kd.Qr (Kd.Qr (Kd.Qr (Kd.Qu O.out Y.out (by decide)) (fun _ hk=>hk.2) _) (fun _ hk=>hk.2) _) (fun _ hk=>hk.2) _) (fun _ h_=>h_.1))))) (Kd.Zq (by(with_reducible repeat first|apply Kd.Qk|apply Kd.Qj|apply Kd.Qm);exact(Kd.Qq (Kd.Qr (Kd.Qr (Kd.Qr (Kd.Qu X.out Y.out (by decide)) (fun _ hk=>hk.2) _) (fun _ hk=>hk.2) _) (fun _ hk=>hk.2) _) (fun _ h_=>h_.1))))) (Kd.Zq (by(with_reducible repeat first|apply Kd.Qk|apply Kd.Qj|apply Kd.Qm);exact(Kd.Qq (Kd.Qr (Kd.Qr (Kd.Qr (Kd.Qu μ.out Y.out (by decide)) (fun _ hk=>hk.2) _) (fun _ hk=>hk.2) _) (fun _ hk=>hk.2) _) (fun _ h_=>h_.1))))) (Ql bel));replace J:=Aside0.mk (Kd.Za (by(with_reducible repeat first|apply Kd.Qk|apply Kd.Qj|apply Kd.Qm);exact(Kd.Qq (Kd.Qr (Kd.Qr (Kd.Qr (Kd.Qu J.out Y.out (by decide)) (fun _ hk=>hk.2) _) (fun _ hk=>hk.2) _) (fun _ hk=>hk.2) _) (fun _ h_=>h_.1))) (Kd.Zg ψ) hb);replace O:=Aside0.mk (Kd.Za (by(with_reducible repeat first|apply Kd.Qk|apply Kd.Qj|apply Kd.Qm);exact(Kd.Qq (Kd.Qr (Kd.Qr (Kd.Qr (Kd.Qu O.out Y.out (by decide)) (fun _ hk=>hk.2) _) (fun _ hk=>hk.2) _) (fun _ hk=>hk.2) _) (fun _ h_=>h_.1))) (Kd.Zg a2) hb);replace U:=Aside0.mk (Kd.Za (by(with_reducible repeat first|apply Kd.Qk|apply Kd.Qj|apply Kd.Qm);exact(Kd.Qq (Kd.Qr (Kd.Qr (Kd.Qr (Kd.Qu U.out Y.out (by decide)) (fun _ hk=>hk.2) _) (fun _ hk=>hk.2) _) (fun _ hk=>hk.2) _) (fun _ h_=>h_.1))) (Kd.Zg ψ) hb);replace X:=Aside0.mk (Kd.Za (by(with_reducible repeat first|apply Kd.Qk|apply Kd.Qj|apply Kd.Qm);exact(Kd.Qq (Kd.Qr (Kd.Qr (Kd.Qr (Kd.Qu X.out Y.out (by decide)) (fun _ hk=>hk.2) _) (fun _ hk=>hk.2) _) (fun _ hk=>hk.2) _) (fun _ h_=>h_.1))) (Kd.Zg a2) hb);replace η :=Aside0.mk (Kd.Za (by(with_reducible repeat first|apply Kd.Qk|apply Kd.Qj|apply Kd.Qm);exact(Kd.Qq (Kd.Qr (Kd.Qr (Kd.Qr (Kd.Qu η.out Y.out (by decide)) (fun _ hk=>hk.2) _) (fun _ hk=>hk.2) _) (fun _ hk=>hk.2) _) (fun _ h_=>h_.1))) (Kd.Zg ψ) hb);replace μ :=Aside0.mk (Kd.Za (by(with_reducible repeat first|apply Kd.Qk|apply Kd.Qj|apply Kd.Qm);exact(Kd.Qq (Kd.Qr (Kd.Qr (Kd.Qr (Kd.Qu μ.out Y.out (by decide)) (fun _ hk=>hk.2) _) (fun _ hk=>hk.2) _) (fun _ hk=>hk.2) _) (fun _ h_=>h_.1))) (Kd.Zg a2) hb);replace ρ:=Aside0.mk (Kd.Qt (by(with_reducible repeat first|apply Kd.Qk|apply Kd.Qj|apply Kd.Qm);exact(Kd.Qq (Kd.Qr (Kd.Qr (Kd.Qr (Kd.Qu ρ.out Y.out (by decide)) (fun _ hk=>hk.2) _) (fun _ hk=>hk.2) _) (fun _ hk=>hk.2) _) (fun _ h_=>h_.1))) hb);replace a6:=Aside0.mk (Kd.Qt (by(with_reducible repeat first|apply Kd.Qk|apply Kd.Qj|apply Kd.Qm);exact(Kd.Qq (Kd.Qr (Kd.Qr (Kd.Qr (Kd.Qu a6.out Y.out (by decide)) (fun _ hk=>hk.2) _) (fun _ hk=>hk.2) _) (fun _ hk=>hk.2) _) (fun _ h_=>h_.1))) hb);replace a7:=Aside0.mk (Kd.Qt (by(with_reducible repeat first|apply Kd.Qk|apply Kd.Qj|apply Kd.Qm);exact(Kd.Qq (Kd.Qr (Kd.Qr (Kd.Qr (Kd.Qu a7.out Y.out (by decide)) (fun _ hk=>hk.2) _) (fun _ hk=>hk.2) _) (fun _ hk=>hk.2) _) (fun _ h_=>h_.1))) hb);replace B:=sBk B hb;replace L:=sBk L hb;replace D:=sBk D hb;replace δ :=sBk δ hb;replace Y:=Aside0.mk (Qn (g:=bi) (o:=.cells #[.slice b9 b5.length bb,.slice bm ao.length bn,.slice bo bk.length bp] 47 (0,0)) (by(with_reducible repeat first|apply Qe|apply Qa|apply Qb);refine Qw (cs:=#[.slice b9 b5.length bb,.slice bm ao.length bn,.slice none 0 0]) ?_ 2 _ rfl;(with_reducible repeat first|apply Qe|apply Qa|apply Qb);refine Qw (cs:=#[.slice b9 b5.length bb,.slice none 0 0,.slice none 0 0]) ?_ 1 _ rfl;(with_reducible repeat first|apply Qe|apply Qa|apply Qb);refine Qw (cs:=#[.slice none 0 0,.slice none 0 0,.slice none 0 0]) ?_ 0 _ rfl;(with_reducible repeat first|apply Qe|apply Qa|apply Qb);exact Y.out) hb);replace HB:=sHb hb;(try clear hb);(try clear a4);(try clear hk);(try clear hi);(try clear ψ);(try clear a2))|((with_reducible refine Qs (N:=10) rfl ?_);(try(refine Z6 (by rfl) ?_;dsimp only));refine qE 10 #[.slice none 0 0,.slice none 0 0] 27 ?_;intro bj hg lu hbox hb;have θ :=Aside0.mk hbox;have ix:=sGe hg;have iy:=sGe hg;have dy:=sNl B hg;have e6:=sNg B hg;have e7:=sNl L hg;have e8:=sNg L hg;have ec:=sNl D hg;have ed:=sNg D hg;have ei:=sNl δ hg;have en:=sNg δ hg;have eo:=sNl Y hg;have ep:=sNg Y hg;replace J:=sRb J hb;replace O:=sRb O hb;replace U:=sRb U hb;replace X:=sRb X hb;replace η :=sRb η hb;replace μ :=sRb μ hb;replace ρ:=sRb ρ hb;replace a6:=sRb a6 hb;replace a7:=sRb a7 hb;replace aa:=sRb aa hb;replace af:=sRb af hb;replace B:=sBk B hb;replace L:=sBk L hb;replace D:=sBk D hb;replace δ :=sBk δ hb;replace Y:=sBk Y hb;replace HB:=sHb hb;clear hb hbox hg;obtain⟨cg,ch,e5⟩:=Kd.Q3 aa.out;subst e5;have ih:=e6.out;have ii:=dy.out;have k8:=e8.out;have k9:=e7.out;have ir:=ed.out;have it:=ec.out;have i6:=en.out;have i7:=ei.out;have gs:=ep.out;have gt:=eo.out;obtain⟨fu,g4,g5,ge⟩:=qD2 θ.out;obtain⟨bq,bw,he⟩:=Kd.Q3 af.out;subst he;obtain⟨er,f5,f7,f8⟩:=qD2 D.out)|((with_reducible refine Qs (N:=57) rfl ?_);(try(refine Z6 (by rfl) ?_;dsimp only));refine Kd.Mq k56 _ 56 ?hg (N:=57) ?hd (xs:=([(⟨2,(-1),(-1)⟩:S56),(⟨2,1,(-1)⟩:S56)]:List (S56))) (inner:=[.int .i64 2,.int .i64 (-1),.int .i64 (-1),.int .i64 2,.int .i64 1,.int .i64 (-1)]) (ok:=fun _=>True) (okp:=fun _=>True) ?hr ?hp (fun _ hk=>hk) trivial (Below.refl _ _) (Nat.le_refl _) (by simp) ?_;(case hd=>rfl);(case hg=>rfl);(case hr=>go_simp <;> rfl);(case hp=>exact(Reps.c3 (show Kd.M k56 _ _ _ (⟨2,(-1),(-1)⟩:S56) [.int .i64 2,.int .i64 (-1),.int .i64 (-1)] from(Yu _ _ _ (⟨2,(-1),(-1)⟩:S56))) (Reps.c3 (show Kd.M k56 _ _ _ (⟨2,1,(-1)⟩:S56) [.int .i64 2,.int .i64 1,.int .i64 (-1)] from(Yu _ _ _ (⟨2,1,(-1)⟩:S56))) (Reps.none _ _))));intro jc m0 b0 hb hg_ hnew_;clear hg_ hnew_;(first|rw[← f9.out] at b0|(simp only[Int.reduceToNat] at b0;rw[← f9.out] at b0));have ai:=Aside0.mk (Kd.Q1 (Kd.Zf (Kd.Zf (Kd.Zf (Kd.Zf b0 (Kd.Zq (by(with_reducible repeat first|apply Kd.Qk|apply Kd.Qj|apply Kd.Qm);exact(Kd.Qq (Kd.Qr (Kd.Qr (Kd.Qu J.out θ.out (by decide)) (fun _ hk=>hk.2) _) (fun _ hk=>hk.2) _) (fun _ h_=>h_.1))))) (Kd.Zq (by(with_reducible repeat first|apply Kd.Qk|apply Kd.Qj|apply Kd.Qm);exact(Kd.Qq (Kd.Qr (Kd.Qr (Kd.Qu U.out θ.out (by decide)) (fun _ hk=>hk.2) _) (fun _ hk=>hk.2) _) (fun _ h_=>h_.1))))) (Kd.Zq (by(with_reducible repeat first|apply Kd.Qk|apply Kd.Qj|apply Kd.Qm);exact(Kd.Qq (Kd.Qr (Kd.Qr (Kd.Qu η.out θ.out (by decide)) (fun _ hk=>hk.2) _) (fun _ hk=>hk.2) _) (fun _ h_=>h_.1))))) (Kd.Zq (by(with_reducible repeat first|apply Kd.Qk|apply Kd.Qj|apply Kd.Qm);exact(Kd.Qq (Kd.Qr (Kd.Qr (Kd.Qu aa.out θ.out (by decide)) (fun _ hk=>hk.2) _) (fun _ hk=>hk.2) _) (fun _ h_=>h_.1))))) (Ql bel));replace J:=Aside0.mk (Kd.Za (by(with_reducible repeat first|apply Kd.Qk|apply Kd.Qj|apply Kd.Qm);exact(Kd.Qq (Kd.Qr (Kd.Qr (Kd.Qu J.out θ.out (by decide)) (fun _ hk=>hk.2) _) (fun _ hk=>hk.2) _) (fun _ h_=>h_.1))) (Kd.Zg b0) hb);replace O:=Aside0.mk (Kd.Qt (by(with_reducible repeat first|apply Kd.Qk|apply Kd.Qj|apply Kd.Qm);exact(Kd.Qq (Kd.Qr (Kd.Qr (Kd.Qu O.out θ.out (by decide)) (fun _ hk=>hk.2) _) (fun _ hk=>hk.2) _) (fun _ h_=>h_.1))) hb);replace U:=Aside0.mk (Kd.Za (by(with_reducible repeat first|apply Kd.Qk|apply Kd.Qj|apply Kd.Qm);exact(Kd.Qq (Kd.Qr (Kd.Qr (Kd.Qu U.out θ.out (by decide)) (fun _ hk=>hk.2) _) (fun _ hk=>hk.2) _) (fun _ h_=>h_.1))) (Kd.Zg b0) hb);replace X:=Aside0.mk (Kd.Qt (by(with_reducible repeat first|apply Kd.Qk|apply Kd.Qj|apply Kd.Qm);exact(Kd.Qq (Kd.Qr (Kd.Qr (Kd.Qu X.out θ.out (by decide)) (fun _ hk=>hk.2) _) (fun _ hk=>hk.2) _) (fun _ h_=>h_.1))) hb);replace η :=Aside0.mk (Kd.Za (by(with_reducible repeat first|apply Kd.Qk|apply Kd.Qj|apply Kd.Qm);exact(Kd.Qq (Kd.Qr (Kd.Qr (Kd.Qu η.out θ.out (by decide)) (fun _ hk=>hk.2) _) (fun _ hk=>hk.2) _) (fun _ h_=>h_.1))) (Kd.Zg b0) hb);replace μ :=Aside0.mk (Kd.Qt (by(with_reducible repeat first|apply Kd.Qk|apply Kd.Qj|apply Kd.Qm);exact(Kd.Qq (Kd.Qr (Kd.Qr (Kd.Qu μ.out θ.out (by decide)) (fun _ hk=>hk.2) _) (fun _ hk=>hk.2) _) (fun _ h_=>h_.1))) hb);replace ρ:=Aside0.mk (Kd.Qt (by(with_reducible repeat first|apply Kd.Qk|apply Kd.Qj|apply Kd.Qm);exact(Kd.Qq (Kd.Qr (Kd.Qr (Kd.Qu ρ.out θ.out (by decide)) (fun _ hk=>hk.2) _) (fun _ hk=>hk.2) _) (fun _ h_=>h_.1))) hb);replace a6:=Aside0.mk (Kd.Qt (by(with_reducible repeat first|apply Kd.Qk|apply Kd.Qj|apply Kd.Qm);exact(Kd.Qq (Kd.Qr (Kd.Qr (Kd.Qu a6.out θ.out (by decide)) (fun _ hk=>hk.2) _) (fun _ hk=>hk.2) _) (fun _ h_=>h_.1))) hb);replace a7:=Aside0.mk (Kd.Qt (by(with_reducible repeat first|apply Kd.Qk|apply Kd.Qj|apply Kd.Qm);exact(Kd.Qq (Kd.Qr (Kd.Qr (Kd.Qu a7.out θ.out (by decide)) (fun _ hk=>hk.2) _) (fun _ hk=>hk.2) _) (fun _ h_=>h_.1))) hb);replace aa:=Aside0.mk (Kd.Za (by(with_reducible repeat first|apply Kd.Qk|apply Kd.Qj|apply Kd.Qm);exact(Kd.Qq (Kd.Qr (Kd.Qr (Kd.Qu aa.out θ.out (by decide)) (fun _ hk=>hk.2) _) (fun _ hk=>hk.2) _) (fun _ h_=>h_.1))) (Kd.Zg b0) hb);replace af:=Aside0.mk (Kd.Qt (by(with_reducible repeat first|apply Kd.Qk|apply Kd.Qj|apply Kd.Qm);exact(Kd.Qq (Kd.Qr (Kd.Qr (Kd.Qu af.out θ.out (by decide)) (fun _ hk=>hk.2) _) (fun _ hk=>hk.2) _) (fun _ h_=>h_.1))) hb);replace B:=sBk B hb;replace L:=sBk L hb;replace D:=sBk D hb;replace δ :=sBk δ hb;replace Y:=sBk Y hb;replace θ :=Aside0.mk (Qn (g:=bj) (o:=.cells #[.slice cg ar.length ch,.slice bq bl.length bw] 27 (0,0)) (by(with_reducible repeat first|apply Qe|apply Qa|apply Qb);refine Qw (cs:=#[.slice cg ar.length ch,.slice none 0 0]) ?_ 1 _ rfl;(with_reducible repeat first|apply Qe|apply Qa|apply Qb);refine Qw (cs:=#[.slice none 0 0,.slice none 0 0]) ?_ 0 _ rfl;(with_reducible repeat first|apply Qe|apply Qa|apply Qb);exact θ.out) hb);replace HB:=sHb hb;clear hb b0;obtain⟨gg,gh,eb⟩:=Kd.Q3 ai.out;subst eb)|(go_at_call 15;(refine(newelref19_Same.calls k _ _ φ _ _ ζ _ _ gi _ _ ([]:List (S62)) true _ ?side1 ?side2 ?side3 ?side4 ?side5 ?side6 ?side7 ?side8 A8.out).mono ?_);(case side1=>repeat(first|exact(Kd.Qp U.out).2.2|(with_reducible refine Kd.Q9 ?_ _)|(with_reducible refine Kd.Q8 ?_ _)|(with_reducible refine Kd.Zc ?_)));(case side2=>exact(Kd.Qp U.out).2.1);(case side3=>repeat(first|exact(Kd.Qp X.out).2.2|(with_reducible refine Kd.Q9 ?_ _)|(with_reducible refine Kd.Q8 ?_ _)|(with_reducible refine Kd.Zc ?_)));(case side4=>exact(Kd.Qp X.out).2.1);(case side5=>repeat(first|exact(Kd.Qp ai.out).2.2|(with_reducible refine Kd.Q9 ?_ _)|(with_reducible refine Kd.Q8 ?_ _)|(with_reducible refine Kd.Zc ?_)));(case side6=>exact(Kd.Qp ai.out).2.1);(case side7=>exact Kd.Y1 _ _);(case side8=>exact Nat.le_refl _);rintro e n1 ⟨rfl,hb⟩;have Z:=Aside0.mk (Kd.Qt (kra J) hb);have ε :=Aside0.mk (Kd.Qt (kra O) hb);have ι :=Aside0.mk (Kd.Qt (kra U) hb);have κ :=Aside0.mk (Kd.Qt (kra X) hb);have χ :=Aside0.mk (Kd.Qt (kra η) hb);have ω :=Aside0.mk (Kd.Qt (kra μ) hb);have a1:=Aside0.mk (Kd.Qt (kra ρ) hb);have ag:=Aside0.mk (Kd.Qt (kra a6) hb);have ah:=Aside0.mk (Kd.Qt (kra a7) hb);have ax:=Aside0.mk (Kd.Qt (kra aa) hb);have aj:=Aside0.mk (Kd.Qt (kra af) hb);have ap:=Aside0.mk (Kd.Qt (kra ai) hb);have b8:=Aside0.mk (Qn (g:=bd) (o:=.cells #[.int .i64 4,.int .i64 2] 23 (0,0)) (bka B) hb);have bg:=Aside0.mk (Qn (g:=a0) (o:=.cells #[.slice ee I.length dv,.slice b3 γ.length b1] 27 (0,0)) (bka L) hb);have bh:=Aside0.mk (Qn (g:=be) (o:=.cells #[.slice b4 φ.length au,.slice dw ζ.length dn] 27 (0,0)) (bka D) hb);have bs:=Aside0.mk (Qn (g:=bf) (o:=.cells #[.slice ct al.length cm,.slice ba an.length b7] 27 (0,0)) (bka δ) hb);have bu:=Aside0.mk (Qn (g:=bi) (o:=.cells #[.slice b9 b5.length bb,.slice bm ao.length bn,.slice bo bk.length bp] 47 (0,0)) (bka Y) hb);have d8:=Aside0.mk (Qn (g:=bj) (o:=.cells #[.slice cg ar.length ch,.slice bq bl.length bw] 27 (0,0)) (bka θ) hb);have d9:=Aside0.mk (Qv bel hb);clear J;clear O;clear U;clear X;clear η;clear μ;clear ρ;clear a6;clear a7;clear aa;clear af;clear ai;clear B;clear L;clear D;clear δ;clear Y;clear θ;clear HB;have J:=Z;have O:= ε;have U:= ι;have X:= κ;have η := χ;have μ := ω;have ρ:=a1;have a6:=ag;have a7:=ah;have aa:=ax;have af:=aj;have ai:=ap;have B:=b8;have L:=bg;have D:=bh;have δ :=bs;have Y:=bu;have θ :=d8;have HB:=d9;clear Z ε ι κ χ ω a1 ag ah ax aj ap b8 bg bh bs bu d8 d9;(try clear hb);(try clear a4);(try clear hk);(try clear hi);obtain⟨fo,fp,i0,ft,fv,i1⟩:=qD3 Y.out;obtain⟨g0,g6,g7,g8⟩:=qD2 θ.out;obtain⟨g9,gb,gn,gu⟩:=qD2 L.out)|(go_at_call 27;(with_reducible refine(call_Same.calls k _ _ I _ _ γ _ _ I _ _ γ true _ ?side1 ?side2 ?side3 ?side4 ?side5 ?side6 ?side7 ?side8 ia.out).mono ?_);(case side1=>repeat(first|exact(Kd.Qp J.out).2.2|(with_reducible refine Kd.Q9 ?_ _)|(with_reducible refine Kd.Q8 ?_ _)|(with_reducible refine Kd.Zc ?_)));(case side2=>exact(Kd.Qp J.out).2.1);(case side3=>repeat(first|exact(Kd.Qp O.out).2.2|(with_reducible refine Kd.Q9 ?_ _)|(with_reducible refine Kd.Q8 ?_ _)|(with_reducible refine Kd.Zc ?_)));(case side4=>exact(Kd.Qp O.out).2.1);(case side5=>repeat(first|exact(Kd.Qp J.out).2.2|(with_reducible refine Kd.Q9 ?_ _)|(with_reducible refine Kd.Q8 ?_ _)|(with_reducible refine Kd.Zc ?_)));(case side6=>exact(Kd.Qp J.out).2.1);(case side7=>repeat(first|exact(Kd.Qp O.out).2.2|(with_reducible refine Kd.Q9 ?_ _)|(with_reducible refine Kd.Q8 ?_ _)|(with_reducible refine Kd.Zc ?_)));(case side8=>exact(Kd.Qp O.out).2.1);rintro e sl ⟨rfl,hb⟩;have Z:=Aside0.mk (Kd.Qt (kra J) hb);have ε :=Aside0.mk (Kd.Qt (kra O) hb);have ι :=Aside0.mk (Kd.Qt (kra U) hb);have κ :=Aside0.mk (Kd.Qt (kra X) hb);have χ :=Aside0.mk (Kd.Qt (kra η) hb);have ω :=Aside0.mk (Kd.Qt (kra μ) hb);have a1:=Aside0.mk (Kd.Qt (kra ρ) hb);have ag:=Aside0.mk (Kd.Qt (kra a6) hb);have ah:=Aside0.mk (Kd.Qt (kra a7) hb);have ax:=Aside0.mk (Kd.Qt (kra aa) hb);have aj:=Aside0.mk (Kd.Qt (kra af) hb);have ap:=Aside0.mk (Kd.Qt (kra ai) hb);have b8:=Aside0.mk (Qn (g:=bd) (o:=.cells #[.int .i64 4,.int .i64 2] 23 (0,0)) (bka B) hb);have bg:=Aside0.mk (Qn (g:=a0) (o:=.cells #[.slice ee I.length dv,.slice b3 γ.length b1] 27 (0,0)) (bka L) hb);have bh:=Aside0.mk (Qn (g:=be) (o:=.cells #[.slice b4 φ.length au,.slice dw ζ.length dn] 27 (0,0)) (bka D) hb);have bs:=Aside0.mk (Qn (g:=bf) (o:=.cells #[.slice ct al.length cm,.slice ba an.length b7] 27 (0,0)) (bka δ) hb);have bu:=Aside0.mk (Qn (g:=bi) (o:=.cells #[.slice b9 b5.length bb,.slice bm ao.length bn,.slice bo bk.length bp] 47 (0,0)) (bka Y) hb);have d8:=Aside0.mk (Qn (g:=bj) (o:=.cells #[.slice cg ar.length ch,.slice bq bl.length bw] 27 (0,0)) (bka θ) hb);have d9:=Aside0.mk (Qv bel hb);clear J;clear O;clear U;clear X;clear η;clear μ;clear ρ;clear a6;clear a7;clear aa;clear af;clear ai;clear B;clear L;clear D;clear δ;clear Y;clear θ;clear HB;have J:=Z;have O:= ε;have U:= ι;have X:= κ;have η := χ;have μ := ω;have ρ:=a1;have a6:=ag;have a7:=ah;have aa:=ax;have af:=aj;have ai:=ap;have B:=b8;have L:=bg;have D:=bh;have δ :=bs;have Y:=bu;have θ :=d8;have HB:=d9;clear Z ε ι κ χ ω a1 ag ah ax aj ap b8 bg bh bs bu d8 d9;(try clear hb);(try clear a4);(try clear hk);(try clear hi);obtain⟨fw,fx,fy,fz⟩:=qD2 L.out;obtain⟨gr,gv,gw,gx⟩:=qD2 D.out)|(go_at_call 27;(with_reducible refine(call_Same.calls k _ _ I _ _ γ _ _ φ _ _ ζ false _ ?side1 ?side2 ?side3 ?side4 ?side5 ?side6 ?side7 ?side8 ib.out).mono ?_);(case side1=>repeat(first|exact(Kd.Qp J.out).2.2|(with_reducible refine Kd.Q9 ?_ _)|(with_reducible refine Kd.Q8 ?_ _)|(with_reducible refine Kd.Zc ?_)));(case side2=>exact(Kd.Qp J.out).2.1);(case side3=>repeat(first|exact(Kd.Qp O.out).2.2|(with_reducible refine Kd.Q9 ?_ _)|(with_reducible refine Kd.Q8 ?_ _)|(with_reducible refine Kd.Zc ?_)));(case side4=>exact(Kd.Qp O.out).2.1);(case side5=>repeat(first|exact(Kd.Qp U.out).2.2|(with_reducible refine Kd.Q9 ?_ _)|(with_reducible refine Kd.Q8 ?_ _)|(with_reducible refine Kd.Zc ?_)));(case side6=>exact(Kd.Qp U.out).2.1);(case side7=>repeat(first|exact(Kd.Qp X.out).2.2|(with_reducible refine Kd.Q9 ?_ _)|(with_reducible refine Kd.Q8 ?_ _)|(with_reducible refine Kd.Zc ?_)));(case side8=>exact(Kd.Qp X.out).2.1);rintro e jd ⟨rfl,hb⟩;have Z:=Aside0.mk (Kd.Qt (kra J) hb);have ε :=Aside0.mk (Kd.Qt (kra O) hb);have ι :=Aside0.mk (Kd.Qt (kra U) hb);have κ :=Aside0.mk (Kd.Qt (kra X) hb);have χ :=Aside0.mk (Kd.Qt (kra η) hb);have ω :=Aside0.mk (Kd.Qt (kra μ) hb);have a1:=Aside0.mk (Kd.Qt (kra ρ) hb);have ag:=Aside0.mk (Kd.Qt (kra a6) hb);have ah:=Aside0.mk (Kd.Qt (kra a7) hb);have ax:=Aside0.mk (Kd.Qt (kra aa) hb);have aj:=Aside0.mk (Kd.Qt (kra af) hb);have ap:=Aside0.mk (Kd.Qt (kra ai) hb);have b8:=Aside0.mk (Qn (g:=bd) (o:=.cells #[.int .i64 4,.int .i64 2] 23 (0,0)) (bka B) hb);have bg:=Aside0.mk (Qn (g:=a0) (o:=.cells #[.slice ee I.length dv,.slice b3 γ.length b1] 27 (0,0)) (bka L) hb);have bh:=Aside0.mk (Qn (g:=be) (o:=.cells #[.slice b4 φ.length au,.slice dw ζ.length dn] 27 (0,0)) (bka D) hb);have bs:=Aside0.mk (Qn (g:=bf) (o:=.cells #[.slice ct al.length cm,.slice ba an.length b7] 27 (0,0)) (bka δ) hb);have bu:=Aside0.mk (Qn (g:=bi) (o:=.cells #[.slice b9 b5.length bb,.slice bm ao.length bn,.slice bo bk.length bp] 47 (0,0)) (bka Y) hb);have d8:=Aside0.mk (Qn (g:=bj) (o:=.cells #[.slice cg ar.length ch,.slice bq bl.length bw] 27 (0,0)) (bka θ) hb);have d9:=Aside0.mk (Qv bel hb);clear J;clear O;clear U;clear X;clear η;clear μ;clear ρ;clear a6;clear a7;clear aa;clear af;clear ai;clear B;clear L;clear D;clear δ;clear Y;clear θ;clear HB;have J:=Z;have O:= ε;have U:= ι;have X:= κ;have η := χ;have μ := ω;have ρ:=a1;have a6:=ag;have a7:=ah;have aa:=ax;have af:=aj;have ai:=ap;have B:=b8;have L:=bg;have D:=bh;have δ :=bs;have Y:=bu;have θ :=d8;have HB:=d9;clear Z ε ι κ χ ω a1 ag ah ax aj ap b8 bg bh bs bu d8 d9;(try clear hb);(try clear a4);(try clear hk);(try clear hi);obtain⟨i2,i3,i5,i9⟩:=qD2 B.out;obtain⟨jg,jh,ji,jj⟩:=qD2 D.out)|(go_at_call 14;(with_reducible refine(call_Check.calls k 4 2 _ _ φ _ _ ζ ξ _ ?side1 ?side2 ?side3 ?side4 ic.out).mono ?_);(case side1=>repeat(first|exact(Kd.Qp U.out).2.2|(with_reducible refine Kd.Q9 ?_ _)|(with_reducible refine Kd.Q8 ?_ _)|(with_reducible refine Kd.Zc ?_)));(case side2=>exact(Kd.Qp U.out).2.1);(case side3=>repeat(first|exact(Kd.Qp X.out).2.2|(with_reducible refine Kd.Q9 ?_ _)|(with_reducible refine Kd.Q8 ?_ _)|(with_reducible refine Kd.Zc ?_)));(case side4=>exact(Kd.Qp X.out).2.1);rintro e sn ⟨rfl,hb⟩;have Z:=Aside0.mk (Kd.Qt (kra J) hb);have ε :=Aside0.mk (Kd.Qt (kra O) hb);have ι :=Aside0.mk (Kd.Qt (kra U) hb);have κ :=Aside0.mk (Kd.Qt (kra X) hb);have χ :=Aside0.mk (Kd.Qt (kra η) hb);have ω :=Aside0.mk (Kd.Qt (kra μ) hb);have a1:=Aside0.mk (Kd.Qt (kra ρ) hb);have ag:=Aside0.mk (Kd.Qt (kra a6) hb);have ah:=Aside0.mk (Kd.Qt (kra a7) hb);have ax:=Aside0.mk (Kd.Qt (kra aa) hb);have aj:=Aside0.mk (Kd.Qt (kra af) hb);have ap:=Aside0.mk (Kd.Qt (kra ai) hb);have b8:=Aside0.mk (Qn (g:=bd) (o:=.cells #[.int .i64 4,.int .i64 2] 23 (0,0)) (bka B) hb);have bg:=Aside0.mk (Qn (g:=a0) (o:=.cells #[.slice ee I.length dv,.slice b3 γ.length b1] 27 (0,0)) (bka L) hb);have bh:=Aside0.mk (Qn (g:=be) (o:=.cells #[.slice b4 φ.length au,.slice dw ζ.length dn] 27 (0,0)) (bka D) hb);have bs:=Aside0.mk (Qn (g:=bf) (o:=.cells #[.slice ct al.length cm,.slice ba an.length b7] 27 (0,0)) (bka δ) hb);have bu:=Aside0.mk (Qn (g:=bi) (o:=.cells #[.slice b9 b5.length bb,.slice bm ao.length bn,.slice bo bk.length bp] 47 (0,0)) (bka Y) hb);have d8:=Aside0.mk (Qn (g:=bj) (o:=.cells #[.slice cg ar.length ch,.slice bq bl.length bw] 27 (0,0)) (bka θ) hb);have d9:=Aside0.mk (Qv bel hb);clear J;clear O;clear U;clear X;clear η;clear μ;clear ρ;clear a6;clear a7;clear aa;clear af;clear ai;clear B;clear L;clear D;clear δ;clear Y;clear θ;clear HB;have J:=Z;have O:= ε;have U:= ι;have X:= κ;have η := χ;have μ := ω;have ρ:=a1;have a6:=ag;have a7:=ah;have aa:=ax;have af:=aj;have ai:=ap;have B:=b8;have L:=bg;have D:=bh;have δ :=bs;have Y:=bu;have θ :=d8;have HB:=d9;clear Z ε ι κ χ ω a1 ag ah ax aj ap b8 bg bh bs bu d8 d9;(try clear hb);(try clear a4);(try clear hk);(try clear hi)))
           go_ret
           exact⟨rfl,HB.out⟩
         ·replace a5:=Bool.eq_false_iff.mpr a5
          subst a5
          have H1:(none)=some r:=by rw[if_neg (show ¬ (false=true) by decide)] at H;exact H
          clear H
          have H:=H1
          clear H1
          exact absurd H (by simp)
        ·rw[if_neg a3] at H
         exact absurd H (by simp)
       ·rw[if_neg br] at H
        exact absurd H (by simp)
      ·rw[if_neg cj] at H
       exact absurd H (by simp)
     ·rw[if_neg ca] at H
      exact absurd H (by simp)
    ·rw[if_neg c10] at H
     exact absurd H (by simp)
   ·replace c9:=Bool.eq_false_iff.mpr c9
    subst c9
    have H1:(none)=some r:=by rw[if_neg (show ¬ (false=true) by decide)] at H;exact H
    clear H
    have H:=H1
    clear H1
    exact absurd H (by simp)
  ·rw[if_neg c7] at H
   exact absurd H (by simp)
 ·rw[if_neg c6] at H
  exact absurd H (by simp)
end Go.Proofs.Ytjehhhlhalkieaa.C
namespace Go.Proofs.Ytjehhhlhalkieaa.Call
open Go.RowKit Go.Proofs.YtjehhhlhalkieaaW.PrintWords Go.Proofs.YtjehhhlhalkieaaW.PrintLast Go.Proofs.YtjehhhlhalkieaaW.PrintMore Go.Proofs.Ytjehhhlhalkieaa.C
set_option linter.unusedVariables false
set_option linter.unusedSimpArgs false
theorem N2 (H:List Hall) (I:List Ins):newelref19_Few.f H I=some false∨(newelref19_Few.f H I=some true∧H.length≤130∧I.length≤520):=by
  unfold newelref19_Few.f
  by_cases h1:(H.length:Int)≤130
  · rw[if_pos h1]
    by_cases L:(I.length:Int)≤520
    · exact .inr ⟨by rw[decide_eq_true L],by omega,by omega⟩
    · exact .inl (by rw[decide_eq_false L])
  · rw[if_neg h1];exact .inl rfl
theorem Mk:newellaw19_awake.f 40=some true:=by kernel_rfl
theorem G5 (k:Nat) (hk:40≤k):newellaw19_awake.f k=some true:=Lm (g:=newellaw19_awake.f) newellaw19_awake.mono hk Mk
def Ye (c:Int) (I:List Ins):List Int:=(I.filter (fun x=>decide (x.f0=c))).map (·.f1)
def Xp (c:Int) (H:List Hall):List Int:=(H.filter (fun x=>decide (x.f2=c∧x.f1>0))).map (·.f0)
def Xq (c:Int) (H:List Hall):List Int:=(H.filter (fun x=>decide (x.f2=c ∧ ¬ x.f1>0))).map (·.f0)
theorem Mt (c:Int) (H:List Hall) (V:List Int) (hm:H.length<900000000) (j:Nat):∀ (f i:Nat) (U D:List Int),i+j=H.length→j<f→U.length≤i→D.length≤i →
    call_View.l1 f c H (H.length:Int) (i:Int) V U D=some (V,U++Xp c (H.drop i),D++Xq c (H.drop i),0):=by
  induction j with
  |zero=>
    intro f i U D hi hf hU hD
    obtain⟨f,rfl⟩:∃ f',f=f'+1:=⟨f-1,by omega⟩
    unfold call_View.l1
    rw[if_neg (by omega),List.drop_eq_nil_of_le (by omega)]
    simp[Xp,Xq]
  |succ j ih=>
    intro f i U D hi hf hU hD
    obtain⟨f,rfl⟩:∃ f',f=f'+1:=⟨f-1,by omega⟩
    have h1:i<H.length:=by omega
    unfold call_View.l1
    rw[if_pos (by omega),if_pos (by omega),if_pos (by omega),Yt H i h1,show wrap64 ((i:Int)+1)=((i+1:Nat):Int) from by unfold wrap64;omega,List.drop_eq_getElem_cons h1]
    by_cases hc:H[i].f2=c
    · rw[if_pos hc]
      by_cases hd:H[i].f1>0
      · rw[if_pos hd,if_pos (by omega),ih f (i+1) _ D (by omega) (by omega) (by simp;omega) (by omega)]
        have Y:Xp c (H[i] :: H.drop (i+1))=H[i].f0 :: Xp c (H.drop (i+1)):=by
          unfold Xp;rw[List.filter_cons_of_pos (by exact decide_eq_true ⟨hc,hd⟩)];rfl
        have Z:Xq c (H[i] :: H.drop (i+1))=Xq c (H.drop (i+1)):=by
          unfold Xq;rw[List.filter_cons_of_neg (by rw[decide_eq_true_eq];exact fun h=>h.2 hd)]
        rw[Y,Z,List.append_assoc]
        rfl
      · rw[if_neg hd,if_pos (by omega),ih f (i+1) U _ (by omega) (by omega) (by omega) (by simp;omega)]
        have Y:Xp c (H[i] :: H.drop (i+1))=Xp c (H.drop (i+1)):=by
          unfold Xp;rw[List.filter_cons_of_neg (by rw[decide_eq_true_eq];exact fun h=>hd h.2)]
        have Z:Xq c (H[i] :: H.drop (i+1))=H[i].f0 :: Xq c (H.drop (i+1)):=by
          unfold Xq;rw[List.filter_cons_of_pos (by exact decide_eq_true ⟨hc,hd⟩)];rfl
        rw[Y,Z,List.append_assoc D]
        rfl
    · rw[if_neg hc,ih f (i+1) U D (by omega) (by omega) (by omega) (by omega)]
      have Y:Xp c (H[i] :: H.drop (i+1))=Xp c (H.drop (i+1)):=by
        unfold Xp;rw[List.filter_cons_of_neg (by rw[decide_eq_true_eq];exact fun h=>hc h.1)]
      have Z:Xq c (H[i] :: H.drop (i+1))=Xq c (H.drop (i+1)):=by
        unfold Xq;rw[List.filter_cons_of_neg (by rw[decide_eq_true_eq];exact fun h=>hc h.1)]
      rw[Y,Z]
theorem Mu (c:Int) (H:List Hall) (I:List Ins) (J:List Ins) (hm:H.length<900000000) (hI:I.length<900000000) (j:Nat):∀ (f i:Nat) (V:List Int),i+j=I.length→j+H.length+1<f→V.length≤i →
    call_View.l0 f c I (I.length:Int) (i:Int) H J V=some (V++Ye c (I.drop i),Xp c H,Xq c H,0):=by
  induction j with
  |zero=>
    intro f i V hi hf hV
    obtain⟨f,rfl⟩:∃ f',f=f'+1:=⟨f-1,by omega⟩
    unfold call_View.l0
    rw[if_neg (by omega),List.drop_eq_nil_of_le (by omega)]
    have:=Mt c H V hm H.length f 0 [] [] (by omega) (by omega) (by simp) (by simp)
    rw[List.drop_zero] at this
    simpa[Ye] using this
  |succ j ih=>
    intro f i V hi hf hV
    obtain⟨f,rfl⟩:∃ f',f=f'+1:=⟨f-1,by omega⟩
    have h1:i<I.length:=by omega
    unfold call_View.l0
    rw[if_pos (by omega),if_pos (by omega),if_pos (by omega),Ys I i h1,show wrap64 ((i:Int)+1)=((i+1:Nat):Int) from by unfold wrap64;omega,List.drop_eq_getElem_cons h1]
    by_cases hc:I[i].f0=c
    · rw[if_pos hc,if_pos (by omega),ih f (i+1) _ (by omega) (by omega) (by simp;omega)]
      have Y:Ye c (I[i] :: I.drop (i+1))=I[i].f1 :: Ye c (I.drop (i+1)):=by
        unfold Ye;rw[List.filter_cons_of_pos (by exact decide_eq_true hc)];rfl
      rw[Y,List.append_assoc]
      rfl
    · rw[if_neg hc,ih f (i+1) V (by omega) (by omega) (by omega)]
      have Y:Ye c (I[i] :: I.drop (i+1))=Ye c (I.drop (i+1)):=by
        unfold Ye;rw[List.filter_cons_of_neg (by rw[decide_eq_true_eq];exact hc)]
      rw[Y]
theorem Mv (k:Nat) (F C:Int) (H:List Hall) (I:List Ins) (c:Int) (hH:H.length<900000000) (hI:I.length<900000000) (hC:i64 C) (hk:H.length+I.length+3<k):
    call_View.f k F C H I c=some (if okB F C H I=true then (if 0≤c∧c≤C-1 then (Ye c I,Xp c H,Xq c H,0) else ([],[],[],191)) else ([],[],[],190)):=by
  unfold call_View.f
  obtain⟨k,rfl⟩:∃ k',k=k'+1:=⟨k-1,by omega⟩
  rw[Ut k F C H I hH hI hC,J0]
  cases hok:okB F C H I
  · simp
  · obtain⟨hF,B,_⟩:=Jo.1 hok
    rw[V4 C (by omega)]
    have:=Mu c H I I hH hI I.length (k+1) 0 [] (by omega) (by omega) (by simp)
    rw[List.drop_zero] at this
    rw[show((0:Nat):Int)=0 from rfl] at this
    simp only[Option.bind_some,if_true,decide_eq_true_eq]
    by_cases hc:0≤c∧c≤C-1
    · rw[if_pos hc,if_pos hc,this]
      rfl
    · rw[if_neg hc,if_neg hc]
def Yq (F C:Int) (H:List Hall) (I:List Ins) (car fl dir:Int):List Hall×List Ins×Int:=
  if okB F C H I=true then (if X1 F C car fl=true∧(-1≤dir∧dir≤1) then (woH fl dir 0 H,woI car fl I,0) else ([],[],191)) else ([],[],190)
theorem Lx (k:Nat) (F C:Int) (H:List Hall) (I:List Ins) (car fl dir:Int) (hH:H.length<900000000) (hI:I.length<900000000) (hC:i64 C) (hf:i64 fl) (hd:i64 dir):
    call_Serve.f (k+1) F C H I car fl dir=some (Yq F C H I car fl dir):=by
  have hch:∀ is,call_change.f (woP_H.f fl dir 0 H) (woP_I.f car fl I) (k+1) F C H I is 0 fl dir 0 0 car fl=some (if okB F C H I=true then (if is=true then (woH fl dir 0 H,woI car fl I,0) else ([],[],191)) else ([],[],190)):=fun is=>by
    rw[Lk _ _ k F C H I _ _ _ _ _ _ _ _ hH hI hC]
    cases okB F C H I
    · simp
    · cases is
      · simp
      · unfold woP_H.f woP_I.f
        rw[if_pos (Kl (by omega) hd),if_pos (Kl (by omega) hf)]
        rfl
  unfold call_Serve.f insP.f Yq
  rw[Option.bind_some]
  cases hb:X1 F C car fl
  · rw[if_neg (by decide),hch false,Option.bind_some]
    cases okB F C H I <;> simp
  · rw[if_pos rfl,J0,Option.bind_some,hch,Option.bind_some]
    by_cases B: -1≤dir∧dir≤1
    · rw[decide_eq_true B]
      cases okB F C H I <;> simp[B]
    · rw[decide_eq_false B]
      cases okB F C H I <;> simp[B]
end Go.Proofs.Ytjehhhlhalkieaa.Call
